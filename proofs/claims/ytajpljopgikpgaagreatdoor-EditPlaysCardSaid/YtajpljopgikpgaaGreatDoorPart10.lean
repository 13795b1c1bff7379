/- A part of the proof that the named laws of this program answer true, whatever the input. -/
import Derived.Test.YtajpljopgikpgaaGreatDoorPart9
import Derived.Test.YtajpljopgikpgaaGreatDoorPart6
import Derived.Test.YtajpljopgikpgaaGreatDoorPart2
import Derived.Test.YtajpljopgikpgaaGreatDoorPart7
import Derived.Test.YtajpljopgikpgaaGreatDoorPart8
import Derived.Test.YtajpljopgikpgaaGreatDoorPart0
import Derived.Test.YtajpljopgikpgaaGreatDoorPart4
open BitVec renaming ofInt_natCast→fQ,toNat_ofNat→pO,ofInt→aw
open ByteArray renaming size_extract→ft
open Int renaming toNat_natCast→aX,eq_ofNat_of_zero_le→pY,tdiv→nJ,tdiv_eq_ediv_of_nonneg→fP,tmod_eq_emod_of_nonneg→fO
open List renaming length_cons→aH,replicate→eD,replicate_succ→jt,flatten_cons→fa,append_nil→bB,find?_cons→sX,getElem?_eq_getElem→ag,getElem_mem→aY,getElem_of_mem→bV,length_append→ad,flatten_append→eO
open Nat renaming le_refl→ao,le_trans→bv,zero_le→bj,add_zero→dd,mod_eq_of_lt→dS,mul_comm→mc,pow_succ→oq,pow_add→vR,mod_lt→nG,mul_le_mul_right→cD,add_assoc→mB,add_mul→jF,succ_mul→kM,min_eq_left→bP,pow_le_pow_right→fM
namespace Go.Proofs
open Go Go.Lift
abbrev Rt:=Int×Int×Int×Int×SliceV
abbrev sB(r:Rt):List Value:= [.int .i64 r.1,.int .u64 r.2.1,.int .u64 r.2.2.1,.int .u64 r.2.2.2.1,.slice r.2.2.2.2.a r.2.2.2.2.len r.2.2.2.2.cap]
abbrev XS(r:Rt):Value:=.agg #[.int .i64 r.1,.int .u64 r.2.1,.int .u64 r.2.2.1,.int .u64 r.2.2.2.1,.slice r.2.2.2.2.a r.2.2.2.2.len r.2.2.2.2.cap]
abbrev UL:Rt:=(0,0,0,0,⟨none,0,0⟩)
def hx(a v:Int):Int:=if a=0 then v else 0
def RefIs(W:Nat→Prop)(h:af)(a:Int)(x:Hs)(r:Rt)(l:List Pr):Prop:=∃s,r=(a,hx a x.k0,hx a x.k1,hx a x.mask,s)∧Sl fe 2 W h s l∧s.len≤s.cap
theorem RefIs.upd0{W:Nat→Prop}{h b:af}{a:Int}{x:Hs}{r:Rt}{l:List Pr}(k:Upd No h b)(i:RefIs W h a x r l):RefIs W b a x r l:=
 let⟨s,e,c⟩:=i;⟨s,e,c.1.upd k fun _ h=>h.elim,c.2⟩
theorem RefIs.less{W W':Nat→Prop}{h:af}(hm:∀b,W' b→W b∨h.size≤b){a:Int}{x:Hs}{r:Rt}{l:List Pr}(i:RefIs W h a x r l):RefIs W' h a x r l:=
 let⟨s,e,c⟩:=i;⟨s,e,c.1.less hm,c.2⟩
theorem RefIs.updM{W M:Nat→Prop}{h c:af}(k:Upd M h c)(hm:∀b,M b→W b∨h.size≤b){a:Int}{x:Hs}{r:Rt}{l:List Pr}(i:RefIs W h a x r l):RefIs W c a x r l:=
 let⟨s,e,d⟩:=i;⟨s,e,d.1.upd k hm,d.2⟩
theorem X2{W:Nat→Prop}{x:Hs}{h:af}{a:Int}(g:a=0∨a=1){K:Rt×Int→af→Prop}(j:∀h' r,RefIs W h' a x r []→Upd No h h'→K (r,0) h'):HC PG Ep [.int .i64 a,.agg #[.int .u64 x.k0,.int .u64 x.k1,.int .u64 x.mask]] [.agg [.int .i64,.int .u64,.int .u64,.int .u64,.slice],.c (.int .i64)] K h:=by
 refine Uq a (x.k0,x.k1,x.mask) ?_;unfold Lf aq eX CC bD dR GA;refine aN fun n b1 k1=>aN fun m b2 k=>?_
 have c1:=k.get0 b1;have s1:=k1.size;have f:=k1.tr k;rcases g with rfl|rfl
 ·refine aA.2 ⟨_,vc c1 0,_,vc c1 1,_,vc c1 2,?_⟩
  refine cW (c:=sB UL) (vs:=sB (0,x.k0,x.k1,x.mask,⟨none,0,0⟩)) b2 rfl fun i b d=>?_
  exact⟨_,vc b 0,_,vc b 1,_,vc b 2,_,vc b 3,⟨none,0,0⟩,vc b 4,j i (0,x.k0,x.k1,x.mask,⟨none,0,0⟩) ⟨_,rfl,Sl.nil jx,ao _⟩ (f.own d s1)⟩
 ·refine aj.2 (aA.2 ?_)
  refine cW (c:=sB UL) (vs:=sB (1,0,0,0,⟨none,0,0⟩)) b2 rfl fun i b d=>?_
  exact⟨_,vc b 0,_,vc b 1,_,vc b 2,_,vc b 3,⟨none,0,0⟩,vc b 4,j i (1,0,0,0,⟨none,0,0⟩) ⟨_,rfl,Sl.nil jx,ao _⟩ (f.own d s1)⟩
theorem Tw{k v:ByteArray}(c:k.size≤256)(b:v.size≤4096){h:af}{K:Int→af→Prop}(a:K 0 h):HC PG ve [.string k,.string v] [.c (.int .i64)] K h:=by
 refine FC k v ?_;unfold zG;refine aM (fun h=>absurd h (by omega)) fun _=>aM (fun h=>absurd h (by omega)) fun _=>a
theorem Vv{W:Nat→Prop}{x:Hs}{h:af}{a:Int}{r:Rt}{l:List Pr}(i:RefIs W h a x r l)(H:∀y,W y→y<h.size)(I:cA l)(J:l.length≤1000000)(p:Pr)(v:p.1.size≤256)(w:p.2.size≤4096){K:Rt×Int→af→Prop}
  (L:∀h' r',RefIs W h' a x r' (iV p l)→Upd No h h'→K (r',0) h'):HC PG pB [XS r,.agg #[.string p.1,.string p.2]] [.agg [.int .i64,.int .u64,.int .u64,.int .u64,.slice],.c (.int .i64)] K h:=by
 refine Ij r p ?_;unfold B8 aq aD eX bD oZ dR cz GA FX GK tc jm;refine aN fun B b1 k1=>aN fun A b2 z=>aN fun P b3 o=>?_
 have N:=aL b1;have Q:=aL b2;have M:=aL b3;have s1:h.size≤B.size:=k1.size;have s2:B.size≤A.size:=z.size;have s3:=o.size;have n:=(k1.tr z).tr o;have D:=o.get0 (z.get0 b1);have q:=o.get0 b2;obtain⟨s,rfl,E,_⟩:=i;refine⟨_,vc q 0,_,vc q 1,Tw v w (aj.2 ?_)⟩;refine⟨s,vc D 4,p.1,vc q 0,p.2,vc q 1,?_⟩;refine X1 (E.upd n fun _ h=>h.elim) I J p (by omega) fun f R u d=>?_
 refine kU (i:=4) (c':=(sB (a,hx a x.k0,hx a x.k1,hx a x.mask,f)).toArray) (d.get0 D) (show 4<5 by decide) rfl fun O g b=>?_
 refine⟨_,vc g 0,_,vc g 1,_,vc g 2,_,vc g 3,f,vc g 4,?_⟩;refine cW (c:=sB UL) (vs:=sB (a,hx a x.k0,hx a x.k1,hx a x.mask,f)) (b.oth (d.get0 b3) (by omega)) rfl fun G j k=>?_
 refine⟨_,vc j 0,_,vc j 1,_,vc j 2,_,vc j 3,f,vc j 4,?_⟩;have m:=(u.upd b fun y C e=>by have e:y=h.size:=e;omega).upd k fun y C e=>by have e:y=A.size:=e;omega
 refine L G (a,hx a x.k0,hx a x.k1,hx a x.mask,f) ⟨f,rfl,m.sl fun y C _ F=>by have:=H y F;omega,m.cap⟩ (((n.tr d).own b (ao _)).own k (by omega))
def ul(s:ByteArray):ByteArray:=s.extract 0 (min s.size 30)
theorem QI(s:ByteArray):(ul s).size≤30:=by unfold ul;rw[ft];omega
end Go.Proofs
namespace Go.Proofs
open Go Go.Lift
end Go.Proofs
namespace Go.Proofs
open Go Go.Lift
end Go.Proofs
namespace Go.Proofs
open Go.Lift
abbrev Ch:=ByteArray×ByteArray×ByteArray×Bool×Bool
end Go.Proofs
namespace Go.Proofs
open Go Go.Lift
end Go.Proofs
namespace Go.Proofs
open Go Go.Lift
theorem P3{h:af}{b:Nat}{c:Array Value}{t:TypeId}(a:h[b]? =some (.cells c t (0,0))) (hc:0<c.size):fA h ⟨b,0,none⟩:=⟨c,t,a,hc⟩
theorem TrieAt.plain{W:Nat→Prop}{x:Hs}{h:af}:∀{m b:Nat} {l:List Pr},TrieAt W x h m b l→fA h ⟨b,0,none⟩
 |0,_,_,t=>by obtain⟨_,_,_,a,_⟩:=BuckAt.ex t;exact P3 a (by simp[gj])
 |m+1,_,_,⟨s,nd,_⟩=>by obtain⟨_,_,_,_,_,a,_⟩:=nd.ex;exact P3 a (by simp[gj])
end Go.Proofs
namespace Go.Proofs
open Go Go.Lift
end Go.Proofs
namespace Go.Proofs
open Go Go.Lift
theorem abu{α:Type}{f:α→List Value}{sz:Nat}{W:Nat→Prop}{h:af}{s:SliceV}{p:α}{l:List α}(a:Sl f sz W h s (p::l))(hc:s.len≤s.cap):Sl f sz W h ⟨bq s.a 1 s.cap sz,s.len-1,s.cap-1⟩ l:=by
 have b:=a.len;rw[aH]at b;have:=Sl.sub a (l:=1) (hi:=s.len) (m:=s.cap) (c:=s.cap-1) (by omega) (by rw[aH];omega) hc;rw[show((p::l).drop 1).take (s.len-1)=l by rw[List.drop_succ_cons,List.drop_zero];exact List.take_of_length_le (by omega)]at this
 exact this
theorem RxN.plain{W:Nat→Prop}{h:af}{b:Nat}{sl:ByteArray}{w:Option ByteArray}{F:Fo}(r:RxN W h b sl w F):fA h ⟨b,0,none⟩:=by
 obtain⟨val,s,ow,ks,a,_⟩:=r;exact P3 a (by simp[zP])
end Go.Proofs
namespace Go.Proofs
open Go Go.Lift
end Go.Proofs
namespace Go.Proofs
open Go Go.Lift
theorem Pt{t:Tr}{h:af}{K:Int×Int×Int→af→Prop}(d:∀h',Upd No h h'→K (t.2.1,t.2.2.1,t.2.2.2.1) h'):HC PG pt [Jb t] [.agg [.int .u64,.int .u64,.int .u64]] K h:=by
 refine BN t ?_;unfold ut aq eX rF ci abh abi;refine aN fun i b1 k1=>aN fun g b2 b=>?_
 have c1:=b.get0 b1;refine⟨_,ga c1 1 0,_,ga c1 1 1,_,ga c1 1 2,?_⟩;refine cW (c:= [.int .u64 0,.int .u64 0,.int .u64 0]) (vs:= [.int .u64 t.2.1,.int .u64 t.2.2.1,.int .u64 t.2.2.2.1]) b2 rfl fun f b3 a=>?_
 exact⟨_,vc b3 0,_,vc b3 1,_,vc b3 2,d f ((k1.tr b).own a k1.size)⟩
end Go.Proofs
namespace Go.Proofs
open Go Go.Lift
end Go.Proofs
namespace Go.Proofs
open Go Go.Lift
theorem Xw(n:Nat):eh n [.int .u8 0]=(eD n (0:UInt8)).flatMap pW:=by
 unfold eh;induction n with
 |zero=>rfl
 |succ n ih=>rw[jt,fa,jt,List.flatMap_cons,ih];rfl
theorem UP{h:af}{n:Nat}{k:af→Prop}(b:∀a,Upd No h a→∀s:ByteArray,s.size=n→SRow a (some (aI h)) n (eC s)→k a):At (hnew h (eh n [.int .u8 0]) cK) k:=by
 refine aN fun a b1 k1=>?_
 rw[Xw]at b1;have o:OwnS pW 1 cK (fun _=>True) a ⟨some (aI h),n,n⟩ (eD n (0:UInt8)):=⟨by simp,sO,ao _,.inr ⟨h.size,[],rfl,trivial,by rw[bB];exact b1,by simp⟩⟩
 have r:=(o.sl (W:=No) fun _ _ _ h=>h).srow
 refine b a k1 ⟨(eD n (0:UInt8)).toArray⟩ (by show(eD n (0:UInt8)).toArray.size=n;simp) ?_;rw[vn];simpa using r
end Go.Proofs
namespace Go.Proofs
open Go Go.Lift
theorem RY{h:af}{r:Rt}{k:af→Prop}(d:∀h',h'[h.size]? =some (.cells (sB r).toArray cq (0,0))→Upd No h h'→k h'):
  At (hnew h (sB UL) cq) (fun a=>vo a (some (aI h)) 0 (sB r)∧At (g8 a (aI h) 0 (sB r)) k):=
 aN fun a b1 k1=>cW (c:=sB UL) (vs:=sB r) b1 rfl fun f b2 b=>d f b2 (k1.own b (ao _))
end Go.Proofs
namespace Go.Proofs
open Go Go.Lift
end Go.Proofs
namespace Go.Proofs
open Go Go.Lift
abbrev b1:ByteArray:=⟨#[49]⟩
abbrev b2:ByteArray:=⟨#[50]⟩
abbrev b3:ByteArray:=⟨#[51]⟩
end Go.Proofs
namespace Go.Proofs
open Go Go.Lift
def look(l:List Pr)(k:ByteArray):Option ByteArray:=(l.find? fun p=>decide (p.1=k)).map (·.2)
theorem TO{l:List Pr}{k:ByteArray}(h:cI l k=false):look l k=none:=by
 unfold look;rw[Option.map_eq_none_iff,List.find?_eq_none];intro p a;unfold cI at h;rw[List.any_eq_false]at h;exact h p a
theorem Ef:∀{l:List Pr} {k v:ByteArray},cA l→(k,v)∈l→look l k=some v
 |p::l,k,v,a,h=>by
  have a:=List.pairwise_cons.1 a;unfold look;rw[sX];rcases List.mem_cons.1 h with e|h
  ·subst e;simp
  ·have b:p.1≠k:=fun e=>by
    have:=a.1 _ h;simp only at this;rw[e]at this;exact cM _ this
   rw[decide_eq_false b];exact Ef a.2 h
theorem Sa{l:List Pr}(a:cA l){k v:ByteArray}(c:cI l k=true→(k,v)∈l)(b:cI l k=false→v=⟨#[]⟩):((look l k).getD ⟨#[]⟩,(look l k).isSome)=(v,cI l k):=by
 cases ht:cI l k with
 |true=>rw[Ef a (c ht)];rfl
 |false=>rw[TO ht,b ht];rfl
theorem TN{x:Hs}{lev:Nat}{l:List Pr}{k:ByteArray}:look (part x lev (ck x lev k) l) k=look l k:=by
 unfold look part;congr 1
 rw[List.find?_filter];congr 1
 funext p;by_cases e:p.1=k
 ·rw[e];simp
 ·simp[e]
theorem OC{W:Nat→Prop}{x:Hs}{h:af}{b:Nat}{l:List Pr}(t:TrieAt W x h 13 b l)(hW:∀y,W y→y<h.size)(hr:cA l)(hn:l.length≤1000000)(k:ByteArray){K:ByteArray×Bool→af→Prop}
  (R:∀E,Upd No h E→K ((look l k).getD ⟨#[]⟩,(look l k).isSome) E):HC PG zl [.agg #[.int .u64 x.k0,.int .u64 x.k1,.int .u64 x.mask],.pointer (some ⟨b,0,none⟩),.string k] [.c .str,.c .bool] K h:=by
 refine OY (x.k0,x.k1,x.mask) (some ⟨b,0,none⟩) k ?_;unfold FS aq aD nv CC yg Ao tc lf jQ m0;refine aN fun h1 b1 k1=>⟨_,vc b1 0,_,vc b1 1,_,vc b1 2,?_⟩
 refine uV fun h2 Z=>?_
 have q:=k1.tr Z;refine XO (.inr ⟨b,rfl,TrieAt.upd0 q t⟩) (fun y hy=>Nat.lt_of_lt_of_le (hW y hy) q.size) fun h3 b3 t3 X _=>?_
 have M:=q.tr X;refine LoopP.ghost (fun(g:Nat×Nat×List Pr) (t:Option Addr×Int) E=>t=(some ⟨g.2.1,0,none⟩,((13-g.1:Nat):Int))∧g.1≤13∧TrieAt W x E g.1 g.2.1 g.2.2∧cA g.2.2∧g.2.2.length≤1000000∧look g.2.2 k=look l k∧Upd No h E) (fun g=>g.1) (13,b3,l)
  ⟨rfl,ao _,t3,hr,hn,rfl,M⟩ ?_
 rintro I ⟨m,c,A⟩ t h4 ⟨rfl,hm,tm,j,B,o,G⟩ Y;simp only at hm tm j B o;rcases m with _|m
 ·obtain⟨sp,sk,ow,Q,_⟩:=BuckAt.ex tm
  refine g7 Q (aA.2 (VV tm j (by omega) k fun S v N w z=>?_))
  have:=R S (G.tr N);rw[←o,Sa j w z]at this;exact this
 ·obtain⟨s,F,O⟩:=tm
  have O:∀c,c<32→SlotIs W x h4 m s c (part x (12-m) c A):=O;obtain⟨d,n,sp,sk,ow,Q,_⟩:=F.ex;refine g7 Q (aj.2 ?_);refine Ud (by omega) ?_;rw[show 13-(m+1)=12-m by omega]
  have hi:=zq x (12-m) k;have u:=O _ hi;have f:look (part x (12-m) (ck x (12-m) k) A) k=look l k:=by rw[TN,o]
  have D:cA (part x (12-m) (ck x (12-m) k) A):=qV j;have C:(part x (12-m) (ck x (12-m) k) A).length≤1000000:=bv kz B;generalize part x (12-m) (ck x (12-m) k) A=lp at u f D C;generalize ck x (12-m) k=i at hi u;refine CI F hi fun S N=>?_
  refine tf fun H J V=>?_
  have a:=N.tr V;rcases u with⟨P,w,z⟩|⟨p,P,w,z⟩|⟨_,w,T,z,tk⟩
  ·rw[w]
   refine aj.2 (CJ (F.upd a fun _ h=>h.elim) hi ?_)
   rw[z];refine aA.2 ?_;have:=R H (G.tr a);rw[←f,P]at this;exact this
  ·rw[w]at J⊢
   refine aA.2 ⟨p.1,vc J 0,?_⟩;rw[jq];have:=R H (G.tr a);rw[←f,P]at this;by_cases e:p.1=k
   ·rw[decide_eq_true e]
    refine aj.2 ⟨p.2,vc J 1,?_⟩;have L:look [p] k=some p.2:=by unfold look;rw[sX,decide_eq_true e];rfl
    rw[L]at this;exact this
   ·rw[decide_eq_false e]
    have L:look [p] k=none:=by unfold look;rw[sX,decide_eq_false e];rfl
    rw[L]at this;exact aA.2 this
  ·rw[w]
   refine aj.2 (CJ (F.upd a fun _ h=>h.elim) hi ?_)
   rw[z];refine aj.2 ?_;have ew:IntKind.wrap .i64 (((13-(m+1):Nat):Int)+1)=((13-m:Nat):Int):=by rw[jj (by omega)];omega
   rw[show 13-(m+1)=12-m by omega]at ew
   show I (some ⟨T,0,none⟩,IntKind.wrap .i64 (((12-m:Nat):Int)+1)) H
   rw[ew];exact Y (m,T,lp) _ H ⟨rfl,by simp only;omega,TrieAt.upd0 a tk,D,C,f,G.tr a⟩ (by simp only;omega)
abbrev Sd:=ByteArray×Bool
end Go.Proofs
namespace Go.Proofs
open Go Go.Lift
theorem Vz{W:Nat→Prop}{h:af}{s:SliceV}{l:List Pr}(n:Sl fe 2 W h s l)(F:cA l)(G:Fit l)(J:l.length≤1000000)(k:ByteArray){K:Int×Bool→af→Prop}
  (C:∀i:Nat,(cI l k=true→∃hi:i<l.length,l[i].1=k)→K ((i:Int),cI l k) h):HC PG BC [.slice s.a s.len s.cap,.string k] [.c (.int .i64),.c .bool] K h:=by
 refine Rb s k ?_;unfold IL cS bo jm;have z:=n.len;refine LoopP.ghost (fun(i:Nat) (t:Int) y=>t=(i:Int)∧i≤l.length∧y=h∧∀j (c:j<l.length),j<i→kl l[j].1 k) (fun i=>l.length-i) 0 ⟨rfl,bj _,rfl,fun j c h=>by omega⟩ ?_
 rintro I i t y ⟨rfl,hi,rfl,d⟩ D;refine Join.intro (fun t A=>A=y∧(t=true↔∃hi:i<l.length,kl l[i].1 k)) (fun R B=>?_) ?_
 ·refine aM (fun b=>?_) fun v=>B _ _ ⟨rfl,⟨fun h=>(by cases h),fun⟨hi,_⟩=>by omega⟩⟩
  have b:i<l.length:=by omega
  obtain⟨a,u,_,hv⟩:=n.at (ag b);have E:=(G _ (aY b)).1;refine⟨⟨by omega,by omega⟩,a,u,l[i].1,hv 0 _ rfl,ND (by omega) (B _ _ ⟨rfl,?_⟩)⟩
  rw[decide_eq_true_iff];exact⟨fun h=>⟨b,h⟩,fun⟨_,h⟩=>h⟩
 ·rintro t A ⟨rfl,g⟩
  cases t with
  |true=>
   obtain⟨b,p⟩:=g.1 rfl;refine aA.2 ?_;rw[Bb b (by omega)];refine D (i+1) _ _ ⟨rfl,b,rfl,fun j c H=>?_⟩ (by omega)
   rcases Nat.lt_or_ge j i with h|h
   ·exact d j c h
   ·have:j=i:=by omega
    subst this;exact p
  |false=>
   refine aj.2 (aM (fun b=>?_) fun v=>?_)
   ·have b:i<l.length:=by omega
    have m:¬kl l[i].1 k:=fun h=>by have:=g.2 ⟨b,h⟩;cases this
    obtain⟨a,u,_,hv⟩:=n.at (ag b);refine⟨⟨by omega,by omega⟩,a,u,l[i].1,hv 0 _ rfl,?_⟩
    rw[jq];have e:decide (l[i].1=k)=cI l k:=by
     by_cases e:l[i].1=k
     ·rw[decide_eq_true e]
      exact(List.any_eq_true.2 ⟨_,aY b,decide_eq_true e⟩).symm
     ·rw[decide_eq_false e]
      refine(CH fun q w f=>?_).symm
      obtain⟨j,c,rfl⟩:=bV w;have o:=sH m e;rcases Nat.lt_trichotomy j i with h|h|h
      ·have:=d j c h;rw[f]at this;exact cM _ this
      ·subst h;exact e f
      ·have:=List.pairwise_iff_getElem.1 F i j b c h
       rw[f]at this;exact cM _ (jo o this)
    rw[e];exact C i fun g=>⟨b,of_decide_eq_true (e.trans g)⟩
   ·have e:cI l k=false:=CH fun q w f=>by
     obtain⟨j,c,rfl⟩:=bV w;have:=d j c (by omega);rw[f]at this;exact cM _ this
    have:=C i fun h=>by rw[e]at h;cases h
    rw[e]at this;exact this
theorem RP{W:Nat→Prop}{h:af}{s:SliceV}{l:List Pr}(d:Sl fe 2 W h s l)(j:cA l)(n:Fit l)(o:l.length≤1000000)(k:ByteArray){K:ByteArray×Bool→af→Prop}
  (c:∀v,(cI l k=true→(k,v)∈l)→(cI l k=false→v=⟨#[]⟩)→K (v,cI l k) h):HC PG wO [.slice s.a s.len s.cap,.string k] [.c .str,.c .bool] K h:=by
 refine Uw s k ?_;unfold Lk cS bo Cl;have g:=d.len;refine Vz d j n o k fun i hi=>?_
 cases ht:cI l k with
 |false=>rw[ht]at c;exact aA.2 (c _ (fun h=>(by cases h)) fun _=>rfl)
 |true=>
  rw[ht]at c;obtain⟨b,f⟩:=hi ht;obtain⟨a,m,_,hv⟩:=d.at (ag b);refine aj.2 ⟨⟨by simp only;omega,by simp only;omega⟩,a,m,l[i].2,hv 1 _ rfl,c _ (fun _=>by rw[←f];exact aY b) fun h=>(by cases h)⟩
end Go.Proofs
namespace Go.Proofs
open Go Go.Lift
theorem TP(p:Pr)(l:List Pr)(k:ByteArray):look (p::l) k=if p.1=k then some p.2 else look l k:=by
 unfold look;rw[sX];by_cases e:p.1=k
 ·rw[decide_eq_true e,if_pos e];rfl
 ·rw[decide_eq_false e,if_neg e]
theorem N1{k v:ByteArray}:∀{l:List Pr},look l k=some v→(k,v)∈l
 | [],h=>by cases h
 |p::l,h=>by
  rw[TP]at h;by_cases e:p.1=k
  ·rw[if_pos e]at h;cases h;rw[←e];exact List.mem_cons_self ..
  ·rw[if_neg e]at h;exact List.mem_cons_of_mem _ (N1 h)
def Zv(c:Ch):Bool:=(!((!c.2.2.2.1&& !c.2.2.2.2)||(c.2.2.2.1&&(c.2.2.2.2&&decide (c.2.1=c.2.2.1)))))&&((c.2.2.2.1||decide (c.2.1=⟨#[]⟩))&&(c.2.2.2.2||decide (c.2.2.1=⟨#[]⟩)))
def one(c:Ch):Option Ch:=if Zv c then some c else none
end Go.Proofs
namespace Go.Proofs
open Go Go.Lift
end Go.Proofs
namespace Go.Proofs
open Go Go.Lift
end Go.Proofs
namespace Go.Proofs
open Go Go.Lift
theorem zV{W:Nat→Prop}{x:Hs}{h:af}{a:Int}{r:Rt}{l:List Pr}(i:RefIs W h a x r l)(u:∀y,W y→y<h.size)(n:cA l)(o:l.length≤1000000)(p:Pr){K:Rt×Int→af→Prop}
  (b:∀h' r',RefIs W h' a x r' (mZ l p)→Upd No h h'→K (r',DW p) h'):HC PG pB [XS r,.agg #[.string p.1,.string p.2]] [.agg [.int .i64,.int .u64,.int .u64,.int .u64,.slice],.c (.int .i64)] K h:=by
 unfold mZ at b;by_cases e:DW p=0
 ·rw[if_pos e]at b
  have m:=Kh e;rw[e]at b;exact Vv i u n o p m.1 m.2 b
 ·rw[if_neg e]at b
  refine Ij r p ?_;unfold B8 aq aD eX bD oZ dR cz GA FX GK tc jm;refine aN fun v b1 k1=>aN fun q b2 k=>aN fun w b3 j=>?_
  have s2:h.size≤q.size:=(k1.tr k).size;have g:=(k1.tr k).tr j;have c1:=j.get0 (k.get0 b1);have c2:=j.get0 b2;refine⟨_,vc c2 0,_,vc c2 1,XZ (p:=p) ?_⟩;rw[show(DW p !=0)=true by simpa using e]
  refine aA.2 ⟨_,vc c1 0,_,vc c1 1,_,vc c1 2,_,vc c1 3,r.2.2.2.2,vc c1 4,?_⟩;refine cW (c:=sB UL) (vs:=sB r) b3 rfl fun s d f=>?_
  exact⟨_,vc d 0,_,vc d 1,_,vc d 2,_,vc d 3,r.2.2.2.2,vc d 4,b s r (i.upd0 (g.own f s2)) (g.own f s2)⟩
theorem CA{W:Nat→Prop}{x:Hs}{h:af}{a:Int}{r:Rt}{l:List Pr}(i:RefIs W h a x r l)(J:∀y,W y→y<h.size)(L:cA l)(M:Fit l)(E:l.length≤1000000)(k:ByteArray){K:Rt×Int→af→Prop}
  (g:∀h' r',RefIs W h' a x r' (pV l k)→Upd No h h'→K (r',Eu l k) h'):HC PG rL [XS r,.string k] [.agg [.int .i64,.int .u64,.int .u64,.int .u64,.slice],.c (.int .i64)] K h:=by
 unfold pV Eu at g;refine JC r k ?_;unfold A5 aq eX bD dR cz GA FX GK Cl;refine aN fun A b1 k1=>aN fun N b2 C=>?_
 have O:=aL b1;have Q:=aL b2;have s1:h.size≤A.size:=k1.size;have b:=k1.tr C;have c1:=C.get0 b1;refine aM (fun e=>?_) fun e=>?_
 ·have e:256<k.size:=by omega
  rw[if_pos e,if_pos e]at g;refine⟨_,vc c1 0,_,vc c1 1,_,vc c1 2,_,vc c1 3,r.2.2.2.2,vc c1 4,?_⟩;refine cW (c:=sB UL) (vs:=sB r) b2 rfl fun w d f=>?_
  exact⟨_,vc d 0,_,vc d 1,_,vc d 2,_,vc d 3,r.2.2.2.2,vc d 4,g w r (i.upd0 (b.own f s1)) (b.own f s1)⟩
 ·have e:¬256<k.size:=by omega
  rw[if_neg e,if_neg e]at g;have I:=i;obtain⟨s,rfl,B,hc⟩:=i;refine⟨s,vc c1 4,RP (B.upd b fun _ h=>h.elim) L M E k fun v _ _=>?_⟩
  cases hth:cI l k with
  |false=>
   rw[hth]at g;refine aA.2 ⟨_,vc c1 0,_,vc c1 1,_,vc c1 2,_,vc c1 3,s,vc c1 4,?_⟩;refine cW (c:=sB UL) (vs:=sB (a,hx a x.k0,hx a x.k1,hx a x.mask,s)) b2 rfl fun w d f=>?_
   refine⟨_,vc d 0,_,vc d 1,_,vc d 2,_,vc d 3,s,vc d 4,g w _ ?_ (b.own f s1)⟩;rw[zo (Cq hth)];exact I.upd0 (b.own f s1)
  |true=>
   rw[hth]at g;refine aj.2 ⟨s,vc c1 4,NG (B.upd b fun _ h=>h.elim) E k fun q w z u=>?_⟩
   refine kU (i:=4) (c':=(sB (a,hx a x.k0,hx a x.k1,hx a x.mask,q)).toArray) (u.get0 c1) (show 4<5 by decide) rfl fun P m j=>?_
   have F:=u.size;refine⟨_,vc m 0,_,vc m 1,_,vc m 2,_,vc m 3,q,vc m 4,?_⟩;refine cW (c:=sB UL) (vs:=sB (a,hx a x.k0,hx a x.k1,hx a x.mask,q)) (j.oth (u.get0 b2) (by omega)) rfl fun H n o=>?_
   refine⟨_,vc n 0,_,vc n 1,_,vc n 2,_,vc n 3,q,vc n 4,?_⟩;have p:=(z.upd j fun y D e=>by have e:y=h.size:=e;omega).upd o fun y D e=>by have e:y=A.size:=e;omega
   exact g H _ ⟨q,rfl,p.sl fun y D _ G=>by have:=J y G;omega,p.cap⟩ (((b.tr u).own j (ao _)).own o s1)
end Go.Proofs
namespace Go.Proofs
open Go Go.Lift
theorem Zk(t:Tr):(lD t).length=6∧0<6:=⟨rfl,by omega⟩
theorem Zu(r:Rt):(sB r).length=5∧0<5:=⟨rfl,by omega⟩
abbrev Vr:=Tr×Rt×List Pr
end Go.Proofs
namespace Go.Proofs
open Go Go.Lift
theorem Vj(x:Hs)(lev:Nat)(l:List Pr):(gi x lev l).length+(jn x lev l).flatten.length=l.length:=by
 have h:=tR x lev l 32;have d:(l.filter fun p=>decide (ck x lev p.1<32))=l:=List.filter_eq_self.2 fun p _=>decide_eq_true (zq ..)
 rw[d]at h;have:∀n,(fm (fun c=>il (part x lev c l)) n).length+(fm (fun c=>fu (part x lev c l)) n).flatten.length=((List.range n).map fun c=>(part x lev c l).length).sum:=by
  intro n;induction n with
  |zero=>simp[fm]
  |succ n ih=>
   rw[gP,gP,List.range_succ,List.map_append,List.sum_append];simp only[ad,eO,List.map_cons,List.map_nil,List.sum_cons,List.sum_nil,dd];generalize part x lev n l=q;have:(il q).toList.length+(fu q).toList.flatten.length=q.length:=by
    match q with
    | []=>simp[il,fu]
    | [a]=>simp[il,fu]
    |a::b::q=>simp[il,fu]
   omega
 have:=this 32;unfold gi jn;omega
theorem Qi{W:Nat→Prop}{x:Hs}{h:af}{m:Nat}{ks:List (Option Addr)}:∀{ls:List (List Pr)},KidsAt W x h m ks ls→ks.length=ls.length∧∀i (hi:i<ls.length),∃b,ks[i]? =some (some ⟨b,0,none⟩)∧TrieAt W x h m b ls[i]:=by
 induction ks with
 |nil=>intro ls;cases ls with
  |nil=>intro _;exact⟨rfl,fun i hi=>absurd hi (Nat.not_lt_zero _)⟩
  |cons a ls=>intro h;exact h.elim
 |cons k ks ihk=>intro ls;cases ls with
  |nil=>intro h;exact h.elim
  |cons a ls=>
   rintro⟨⟨b,rfl,tk⟩,h⟩;obtain⟨e,c⟩:=ihk h;refine⟨by simp[e],fun i hi=>?_⟩
   cases i with
   |zero=>exact⟨b,rfl,tk⟩
   |succ i=>simp only[List.getElem?_cons_succ,List.getElem_cons_succ];exact c i (by simpa using hi)
theorem Yh{x:Hs}{W:Nat→Prop}:∀(m:Nat),m≤13→∀{b:Nat} {l:List Pr} {h:af},TrieAt W x h m b l→l.length≤60000→∀{K:Int→af→Prop},(∀j,Upd No h j→K (l.length:Int) j)→HC PG vh [.pointer (some ⟨b,0,none⟩)] [.c (.int .i64)] K h:=by
 intro m;induction m with
 |zero=>
  intro _ b l h t Z K Q;refine FE _ ?_;unfold zJ bH cS;have bk:∀{j},Upd No h j→BuckAt W j b l:=fun k=>BuckAt.upd t k fun _ h=>h.elim
  obtain⟨sp,sk,ow,z,p,hsk,_⟩:=(bk (Upd.refl No h)).ex;refine qd z p (by omega) fun s1 h1 q k1=>?_
  obtain⟨M,J,P,u,X,o,_⟩:=(bk k1).ex;refine Gs u o (by simp) fun s2 w s C=>?_
  have B:=s.len;rw[List.length_nil]at B;refine LoopP.ghost (fun(_:Unit) (t:Int×Int) j=>t=((s1.len:Int),0)∧j=w) (fun _=>0) () ⟨rfl,rfl⟩ ?_
  rintro I _ t D ⟨rfl,e⟩ S;rw[e];refine aM (fun f=>absurd f (by simp only;omega)) fun _=>?_
  simp only;rw[q.len];exact Q w (k1.tr C)
 |succ m ih=>
  intro hm b l h t Z K Q;refine FE _ ?_;unfold zJ bH cS;obtain⟨sl,nd,F⟩:=t;have T:∀c,c<32→SlotIs W x h m sl c (part x (12-m) c l):=F;have hd:∀{j},Upd No h j→∃d n sp sk ow,j[b]? =some (.cells (gj d n sp sk false ow) cj (0,0))∧Sl fe 2 W j sp (gi x (12-m) l)∧Sl rG 1 W j sk (fm sl.k 32):=fun{j} k=>by
   obtain⟨d,n,sp,sk,ow,z,bits,D,h4,_⟩:=(nd.upd k fun _ h=>h.elim).ex
   refine⟨d,n,sp,sk,ow,z,?_,h4⟩;rw[←Cu T];exact D
  have N:KidsAt W x h m (fm sl.k 32) (jn x (12-m) l):=L5 32 T;have v:∀L∈jn x (12-m) l,L.length≤60000:=fun L hL=>by
   obtain⟨_,c,rfl⟩:=nQ hL;exact bv kz Z
  have H:=Vj x (12-m) l;obtain⟨E,y⟩:=Qi N;generalize gi x (12-m) l=So at hd H;generalize jn x (12-m) l=Ma at v H E y;obtain⟨d,n,sp,sk,ow,z,p,_⟩:=hd (Upd.refl No h);refine qd z p (by omega) fun s1 h1 q k1=>?_
  obtain⟨d1,n1,M,J,P,u,_,o⟩:=hd k1;have V:=yi (g:=sl.k);refine Gs u o (by omega) fun s2 w s C=>?_
  have S2:Sl rG 1 No w s2 (fm sl.k 32):=s.sl fun _ _ _ h=>h
  have hlk:=S2.len;refine LoopP.ghost (fun(i:Nat) (t:Int×Int) j=>t.1=((So.length+(Ma.take i).flatten.length:Nat):Int)∧t.2=(i:Int)∧i≤Ma.length∧Upd No w j) (fun i=>Ma.length-i) 0 ⟨by rw[q.len];simp,rfl,bj _,Upd.refl _ _⟩ ?_
  rintro I i ⟨tn,ti⟩ D ⟨Y,B,hi,A⟩ S;simp only at Y B;subst Y B;refine aM (fun f=>?_) fun O=>?_
  ·have f:i<Ma.length:=by simp only at f;omega
   obtain⟨kb,G,tk⟩:=y i f;obtain⟨a,ha,_,hv⟩:=(S2.upd A fun _ h=>h.elim).at0 G
   refine⟨⟨by simp only;omega,by simp only;omega⟩,a,ha,some ⟨kb,0,none⟩,hv,?_⟩
   have p:(Ma.take i).flatten.length+Ma[i].length≤Ma.flatten.length:=by
    have e:Ma=Ma.take i++Ma[i]::Ma.drop (i+1):=by rw[List.getElem_cons_drop,List.take_append_drop]
    have:=congrArg (fun L=>(List.flatten L).length) e
    simp only[eO,fa,ad]at this;omega
   refine ih (by omega) (TrieAt.upd0 ((k1.tr C).tr A) tk) (v _ (aY f)) fun h4 k4=>?_
   simp only;rw[cO f (by omega),jj (by omega)];refine S (i+1) _ _ ⟨?_,rfl,f,A.tr k4⟩ (by omega);rw[List.take_succ_eq_append_getElem f,eO];simp only[fa,List.flatten_nil,bB,ad];omega
  ·have R:i=Ma.length:=by simp only at O;omega
   subst R;simp only;rw[List.take_length,H];exact Q D ((k1.tr C).tr A)
theorem LD{W:Nat→Prop}{x:Hs}{h:af}{a:Int}{t:Tr}{l:List Pr}(i:TreeIs W h a x t l)(g:cA l)(d:l.length≤60000){K:Int→af→Prop}(f:∀h',Upd No h h'→K (l.length:Int) h'):HC PG km [Jb t] [.c (.int .i64)] K h:=by
 rcases i with⟨rfl,b,rfl,c⟩|⟨rfl,b,rfl,c⟩
 ·refine yo _ ?_
  unfold sQ bD aQ rF;refine aN fun m b1 k1=>⟨_,vc b1 0,aj.2 ⟨_,vc b1 4,?_⟩⟩
  exact Yh 13 (ao _) (TrieAt.upd0 k1 c) d fun j k=>f j (k1.tr k)
 ·exact Vg (x:=x) (.inr ⟨rfl,b,rfl,c⟩) g d f
end Go.Proofs
namespace Go.Proofs
open Go Go.Lift
theorem RC(n:Nat):IntKind.wrap .u64 (n:Int)=((n%18446744073709551616:Nat):Int):=by rw[IntKind.wrap_u64];omega
theorem Ck{n:Nat}(h:n<18446744073709551616):IntKind.wrap .u64 (n:Int)=(n:Int):=by rw[RC,dS h]
theorem Hm{a b:Nat}(d:a<18446744073709551616)(c:b<18446744073709551616):Ho a b=((a|||b:Nat):Int):=by
 unfold Ho;rw[show IntKind.bits .u64=64 from rfl,fQ,fQ,BitVec.toNat_or,pO,pO,dS (show a<2^64 from d),dS (show b<2^64 from c)]
 exact Ck (Nat.or_lt_two_pow (n:=64) d c)
theorem Hn{n a b:Nat}(c:b<2^n)(d:a*2^n+b<18446744073709551616):Ho ((a*2^n:Nat):Int) (b:Int)=((a*2^n+b:Nat):Int):=by
 rw[Hm (by omega) (by omega),mc a,Nat.two_pow_add_eq_or_of_lt c]
def PL(x:Nat):Nat:=x*2%18446744073709551616+x/9223372036854775808
def Hd:Nat→Nat→Nat
 |0,x=>x
 |n+1,x=>PL (Hd n x)
theorem XW{n:Nat}(s:n≤64){x a b:Nat}(j:b<2^(64-n))(k:a<2^n)(e:x=a*2^(64-n)+b):Hd n x=b*2^n+a:=by
 induction n generalizing a b with
 |zero=>
  have:a=0:=by simpa using k
  subst this;rw[e];simp[Hd]
 |succ n ih=>
  have f:(2:Nat)^(64-n)=2*2^(64-(n+1)):=by rw[show 64-n=(64-(n+1))+1 by omega,oq,mc]
  have p:(2:Nat)^(n+1)=2*2^n:=by rw[oq,mc]
  have g:(2:Nat)^(64-(n+1))*2^n=9223372036854775808:=by rw[←vR,show 64-(n+1)+n=63 by omega]
  have u:a%2<2:=nG _ (by omega);have i:=Nat.div_add_mod a 2;have d:a/2<2^n:=by omega
  have m:a%2*2^(64-(n+1))+b<2^(64-n):=by
   rw[f];have:a%2*2^(64-(n+1))≤1*2^(64-(n+1)):=cD _ (by omega);omega
  have o:x=a/2*2^(64-n)+(a%2*2^(64-(n+1))+b):=by
   rw[e,f,←mB,←Nat.mul_assoc,←jF,mc (a/2) 2,i]
  have:=ih (by omega) m d o;show PL (Hd n x)=_
  rw[this,jF,Nat.mul_assoc,g,p];unfold PL;have c:b*2^n+2^n≤2^(64-(n+1))*2^n:=by
   rw[←kM];exact cD _ j
  rw[g]at c;have q:b*(2*2^n)=2*(b*2^n):=by rw[Nat.mul_left_comm]
  rw[q];generalize b*2^n=B at c;generalize 2^n=N at d c;have:a%2=0∨a%2=1:=by omega
  rcases this with h|h<;>rw[h]at i⊢<;>omega
theorem XV(n:Nat){x:Nat}(hx:x<18446744073709551616):Hd n x<18446744073709551616:=by
 induction n with
 |zero=>exact hx
 |succ n ih=>show PL _<_;unfold PL;omega
theorem abe{n:Nat}(h:n<64):OF (IntKind.wrap .u64 (n:Int)) 63=(n:Int):=by
 rw[Ck (by omega)];unfold OF;have:∀n:Fin 64,(aw (IntKind.bits .u64) ((n.val:Nat):Int)&&&aw (IntKind.bits .u64) 63).toNat=n.val:=by decide
 rw[this ⟨n,h⟩];exact Ck (by omega)
theorem XU{n x:Nat}(a:n<64)(hx:x<18446744073709551616):Hc (x:Int) (n:Int)=((Hd n x:Nat):Int):=by
 unfold Hc;rw[abe a];rw[show((64:Int)-(n:Int))=((64-n:Nat):Int) by omega,Ck (by omega)]
 simp only[show IntKind.bits .u64=64 from rfl,aX,bP (Nat.le_of_lt a),bP (Nat.sub_le 64 n)]
 have b:(2:Nat)^(64-n)*2^n=18446744073709551616:=by rw[←vR,show 64-n+n=64 by omega]
 have hd:=Nat.div_add_mod x (2^(64-n));have hm:x%2^(64-n)<2^(64-n):=nG _ (Nat.two_pow_pos _);have d:x/2^(64-n)<2^n:=by
  rw[Nat.div_lt_iff_lt_mul (Nat.two_pow_pos _),mc,b];exact hx
 rw[mc]at hd;rw[XW (Nat.le_of_lt a) hm d hd.symm];rw[show((x:Int)*2^n)=((x*2^n:Nat):Int) by rw[Int.natCast_mul,Int.natCast_pow];rfl,RC]
 rw[show Int.fdiv (x:Int) (2^(64-n))=((x/2^(64-n):Nat):Int) by rw[show((2:Int)^(64-n))=((2^(64-n):Nat):Int) by rw[Int.natCast_pow];rfl];exact Int.ofNat_fdiv x _▸rfl]
 have c:x%2^(64-n)*2^n+2^n≤2^(64-n)*2^n:=by
  rw[←kM];exact cD _ hm
 rw[b]at c;have f:x*2^n%18446744073709551616=x%2^(64-n)*2^n:=by
  rw[←b,Nat.mul_mod_mul_right]
 rw[f];exact Hn d (by omega)
end Go.Proofs
namespace Go.Proofs
open Go Go.Lift
def IZ(s:ByteArray)(i:Nat):Nat:=if h:i<s.size then(s[i]'h).toNat else 0
def hv(s:ByteArray):Nat→Nat→Nat
 |_,0=>0
 |p,c+1=>hv s (p+1) c*256+IZ s p
theorem WR(s:ByteArray)(i:Nat):IZ s i<256:=by
 unfold IZ;split
 ·exact UInt8.toNat_lt _
 ·omega
theorem SG(s:ByteArray)(i:Nat):OD s i=(IZ s i:Int):=by
 unfold OD IZ;by_cases h:i<s.size
 ·rw[dif_pos h,getElem?_pos s i h]
 ·rw[dif_neg h,getElem?_neg s i h];rfl
theorem H6{s:ByteArray}{i:Nat}(h:s.size≤i):IZ s i=0:=dif_neg (by omega)
theorem KO(s:ByteArray):∀(c p:Nat),hv s p c<256^c
 |0,_=>by show(0:Nat)<1;omega
 |c+1,p=>by
  have:=KO s c (p+1);have:=WR s p;rw[oq];show hv s (p+1) c*256+IZ s p<_
  omega
theorem Si{s:ByteArray}:∀{c p:Nat},s.size≤p→hv s p c=0
 |0,_,_=>rfl
 |c+1,p,h=>by
  show hv s (p+1) c*256+IZ s p=0
  rw[Si (by omega),H6 h]
theorem L8{s:ByteArray}{d:Nat}:∀{c p:Nat},s.size≤p+c→hv s p (c+d)=hv s p c
 |0,p,h=>by rw[Si (by omega)];rfl
 |c+1,p,h=>by
  rw[show c+1+d=(c+d)+1 by omega]
  show hv s (p+1) (c+d)*256+_=hv s (p+1) c*256+_
  rw[L8 (by omega)]
theorem YD{s:ByteArray}{a b i:Nat}(c:b≤s.size):IZ (s.extract a b) i=if a+i<b then IZ s (a+i)else 0:=by
 unfold IZ;have e:(s.extract a b).size=b-a:=by rw[ft];omega
 by_cases h:a+i<b
 ·rw[if_pos h,dif_pos (by omega),dif_pos (by omega),ByteArray.getElem_extract]
 ·rw[if_neg h,dif_neg (by omega)]
theorem Qs{s:ByteArray}{a:Nat}:∀{c p b:Nat},b≤s.size→(b=s.size∨a+p+c≤b)→hv (s.extract a b) p c=hv s (a+p) c
 |0,_,_,_,_=>rfl
 |c+1,p,b,hb,h=>by
  show hv _ (p+1) c*256+_=hv s (a+p+1) c*256+_
  rw[Qs hb (h.imp id fun h=>by omega),YD hb,mB]
  congr 1
  split
  ·rfl
  ·exact(H6 (by omega)).symm
theorem YM{s:ByteArray}:∀{k c:Nat},k+c≤8→wj s k ((hv s k c*2^(8*k):Nat):Int)=((hv s 0 (k+c):Nat):Int)
 |0,c,_=>by
  show((hv s 0 c*2^(8*0):Nat):Int)=_
  rw[Nat.zero_add];simp
 |k+1,c,h=>by
  have g:=WR s k;have hc:=KO s c (k+1);have f:(2:Nat)^(8*(k+1))=256*2^(8*k):=by rw[show 8*(k+1)=8+8*k by omega,vR]
  have d:256^c*2^(8*(k+1))≤18446744073709551616:=by
   rw[show(256:Nat)=2^8 from rfl,←Nat.pow_mul,←vR]
   exact fM (by omega) (show 8*c+8*(k+1)≤64 by omega)
  have m:hv s (k+1) c*2^(8*(k+1))+2^(8*(k+1))≤18446744073709551616:=by
   rw[←kM];exact bv (cD _ hc) d
  have i:IZ s k*2^(8*k)<2^(8*(k+1)):=by rw[f];exact Nat.mul_lt_mul_of_pos_right g (Nat.two_pow_pos _)
  have a:hv s (k+1) c*2^(8*(k+1))+IZ s k*2^(8*k)=hv s k (c+1)*2^(8*k):=by
   rw[f,←Nat.mul_assoc,←jF];rfl
  have b:(if k=0 then IntKind.wrap .u64 (OD s 0)else YR (OD s k) ((8*k:Nat):Int))=((IZ s k*2^(8*k):Nat):Int):=by
   split
   ·rename_i e
    subst e;rw[SG,IntKind.wrap_u64];simp;omega
   ·unfold YR
    rw[SG,aX,show IntKind.bits .u64=64 from rfl,bP (by omega)]
    have j:IntKind.wrap .u64 ((IZ s k:Nat):Int)=((IZ s k:Nat):Int):=by rw[IntKind.wrap_u64];omega
    rw[j,show((IZ s k:Int)*2^(8*k))=((IZ s k*2^(8*k):Nat):Int) by rw[Int.natCast_mul,Int.natCast_pow];rfl,IntKind.wrap_u64]
    omega
  show wj s k (Ho _ (if k=0 then _ else _))=_
  rw[b,Hn i (by omega),a,YM (by omega),show k+(c+1)=k+1+c by omega]
theorem M7{s:ByteArray}(h:s.size≤8):AC s=((hv s 0 8:Nat):Int):=by
 have:=YM (s:=s) (k:=s.size) (c:=0) (by omega);rw[show hv s s.size 0=0 from rfl,Nat.zero_mul]at this
 unfold AC;rw[show((0:Nat):Int)=0 from rfl]at this
 rw[this,dd];have e:=L8 (s:=s) (d:=8-s.size) (c:=s.size) (p:=0) (by omega);rw[show s.size+(8-s.size)=8 by omega]at e
 rw[e]
def qr:Nat→ByteArray→Nat→Q4→Nat×Q4
 |0,_,a,q=>(a,q)
 |n+1,s,a,q=>if a+8≤s.size then qr n s (a+8) (sZ (hv s a 8:Nat) q)else(a,q)
theorem Nk:∀{n:Nat} {s:ByteArray} {a:Nat} {q:Q4},a≤s.size→E4 n (s.extract a s.size) q=(s.extract (qr n s a q).1 s.size,(qr n s a q).2)
 |0,_,_,_,_=>rfl
 |n+1,s,a,q,h=>by
  have e:(s.extract a s.size).size=s.size-a:=by rw[ft];omega
  show(if 8≤(s.extract a s.size).size then _ else _)=_
  rw[e];by_cases hc:a+8≤s.size
  ·rw[if_pos (show 8≤s.size-a by omega),ByteArray.extract_extract,ByteArray.extract_extract]
   rw[show qr (n+1) s a q=qr n s (a+8) (sZ (hv s a 8:Nat) q)from if_pos hc]
   rw[show min (a+(s.size-a)) s.size=s.size by omega,show min (a+8) s.size=a+8 by omega,dd]
   rw[M7 (by rw[ft];omega),Qs (by omega) (.inr (by omega)),dd];exact Nk hc
  ·rw[if_neg (show ¬8≤s.size-a by omega),show qr (n+1) s a q=(a,q)from if_neg hc]
theorem KY:∀{n:Nat} {s:ByteArray} {a:Nat} {q:Q4},s.size≤a+n→a≤s.size→s.size<(qr n s a q).1+8∧(qr n s a q).1≤s.size
 |0,_,_,_,h,h'=>⟨by show _<_+8;simp only[qr];omega,h'⟩
 |n+1,s,a,q,h,h'=>by
  by_cases hc:a+8≤s.size
  ·rw[show qr (n+1) s a q=qr n s (a+8) (sZ (hv s a 8:Nat) q)from if_pos hc]
   exact KY (by omega) hc
  ·rw[show qr (n+1) s a q=(a,q)from if_neg hc]
   exact⟨by simp only;omega,h'⟩
theorem XN{k0 k1:Int}{s:ByteArray}:Pu k0 k1 s=(let g:=qr s.size s 0 (dT k0 8317987319222330741,dT k1 7237128888997146477,dT k0 7816392313619706465,dT k1 8387220255154660723)
  Ys (sZ ((hv s g.1 8+s.size%256*72057594037927936:Nat):Int) g.2)):=by
 unfold Pu aaJ;generalize (dT k0 8317987319222330741,dT k1 7237128888997146477,dT k0 7816392313619706465,dT k1 8387220255154660723)=q;have e:=Nk (n:=s.size) (s:=s) (a:=0) (q:=q) (bj _);rw[ByteArray.extract_zero_size]at e;rw[e];have⟨o,m⟩:=KY (n:=s.size) (s:=s) (a:=0) (q:=q) (by omega) (bj _);generalize qr s.size s 0 q=g at o m;obtain⟨a,r⟩:=g;simp only at o m⊢
 rw[M7 (by rw[ft];omega),Qs (ao _) (.inl rfl),dd];congr 2
 have hc:hv s a 8<2^56:=by
  have e:=L8 (s:=s) (d:=1) (c:=7) (p:=a) (by omega);rw[show(7+1:Nat)=8 from rfl]at e
  rw[e];exact KO s 7 a
 have i:YR (s.size:Int) 56=((s.size%256*2^56:Nat):Int):=by
  unfold YR;rw[show min ((56:Int)).toNat (IntKind.bits .u64)=56 from rfl,RC]
  rw[show(((s.size%18446744073709551616:Nat):Int)*2^56)=((s.size%18446744073709551616*72057594037927936:Nat):Int) by rw[Int.natCast_mul];rfl,RC]
  omega
 have hm:s.size%256*2^56+hv s a 8<18446744073709551616:=by omega
 have f:∀{a b:Nat},a<18446744073709551616→b<18446744073709551616→Ho a b=Ho b a:=fun k j=>by rw[Hm k j,Hm j k,Nat.or_comm]
 rw[i,f (Nat.lt_trans hc (by decide)) (Nat.lt_of_le_of_lt (Nat.le_add_right _ _) hm),Hn hc hm,Nat.add_comm]
end Go.Proofs
namespace Go.Proofs
open Go Go.Lift
abbrev Rg(x:Int):Prop:=0≤x∧x<18446744073709551616
theorem XT(x n:Int):Rg (Hc x n):=D1 _
theorem vU(x n:Int):Rg (dT x n):=D1 _
theorem W6(x n:Int):Rg (W7 x n):=D1 _
theorem zM{x:Int}(hx:Rg x){n:Nat}(g:n<64){h:af}{K:Int→af→Prop}(c:K (Hc x n) h):HC PG nz [.int .u64 x,.int .i64 (n:Int)] [.c (.int .u64)] K h:=by
 obtain⟨X,rfl⟩:=pY hx.1;have f:X<18446744073709551616:=by have:=hx.2;omega
 rw[XU g f]at c;refine Rd X n ?_;unfold IP;refine LoopP.ghost (fun(i:Nat) (t:Int×Int) d=>t=(((Hd i X:Nat):Int),(i:Int))∧i≤n∧d=h) (fun i=>n-i) 0 ⟨rfl,bj _,rfl⟩ ?_
 rintro I i t d ⟨rfl,hi,rfl⟩ j;refine aM (fun a=>?_) fun b=>?_
 ·have a:i<n:=by have:(i:Int)<(n:Int):=a;omega
  have k:=XV i f;refine⟨by decide,?_⟩;have e:IntKind.wrap .u64 (IntKind.wrap .u64 (((Hd i X:Nat):Int)*2)+IntKind.wrap .u64 (nJ ((Hd i X:Nat):Int) 9223372036854775808))=((Hd (i+1) X:Nat):Int):=by
   show _=((PL (Hd i X):Nat):Int)
   unfold PL;rw[fP (by omega),IntKind.wrap_u64,IntKind.wrap_u64,IntKind.wrap_u64];omega
  simp only[Bd];rw[e,cO a (by omega)];exact j (i+1) _ _ ⟨rfl,a,rfl⟩ (by omega)
 ·obtain rfl:i=n:=by have:¬(i:Int)<(n:Int):=b;omega
  exact c
theorem wH{s:Q4}(f:Rg s.2.1)(g:Rg s.2.2.2){h:af}{K:Q4→af→Prop}(c:∀h',Upd No h h'→K (lV s) h'):HC PG lN [.agg #[.int .u64 s.1,.int .u64 s.2.1,.int .u64 s.2.2.1,.int .u64 s.2.2.2]] [.agg [.int .u64,.int .u64,.int .u64,.int .u64]] K h:=by
 refine OT s ?_;unfold FM bH cS aq eX m0 SM SX VF;refine aN fun d b1 k1=>aN fun j b2 b=>?_
 have c1:=b.get0 b1;have s1:=k1.size;refine⟨by decide,_,vc c1 0,by decide,_,vc c1 1,by decide,_,vc c1 2,by decide,_,vc c1 3,?_⟩
 refine zM (n:=13) f (by omega) (zM (n:=32) (W6 _ _) (by omega) (zM (n:=16) g (by omega) (zM (n:=21) (vU _ _) (by omega) (zM (n:=17) (vU _ _) (by omega) (zM (n:=32) (W6 _ _) (by omega) ?_)))));refine cW b2 (by rfl) fun a b3 i=>?_
 refine⟨_,vc b3 0,_,vc b3 1,_,vc b3 2,_,vc b3 3,?_⟩;exact c a ((k1.tr b).own i (by omega))
abbrev Rq(q:Q4):Prop:=Rg q.1∧Rg q.2.1∧Rg q.2.2.1∧Rg q.2.2.2
theorem yT(s:Q4):Rq (lV s):=⟨W6 _ _,vU _ _,XT _ _,vU _ _⟩
theorem U9(m:Int)(s:Q4):Rq (sZ m s):=⟨vU _ _,(yT _).2⟩
theorem Z9{s:ByteArray}{i:Nat}(h:i<s.size):∃b:UInt8,s[i]? =some b∧IZ s i=b.toNat:=⟨s[i],getElem?_pos s i h,by unfold IZ;rw[dif_pos h]⟩
theorem WD{n:Nat}{s:ByteArray}{a:Nat}{q:Q4}(h:s.size≤a+n)(hc:a+8≤s.size):∃m,qr n s a q=qr m s (a+8) (sZ (hv s a 8:Nat) q)∧s.size≤a+8+m:=by
 cases n with
 |zero=>omega
 |succ n=>exact⟨n,if_pos hc,by omega⟩
theorem QE{n:Nat}{s:ByteArray}{a:Nat}{q:Q4}(hc:s.size<a+8):qr n s a q=(a,q):=by
 cases n with
 |zero=>rfl
 |succ n=>exact if_neg (by omega)
theorem XY{k0 k1:Int}{s:ByteArray}(hs:s.size≤1000000000){h:af}{K:Int→af→Prop}(u:∀B,Upd No h B→K (Pu k0 k1 s) B):HC PG Et [.int .u64 k0,.int .u64 k1,.string s] [.c (.int .u64)] K h:=by
 rw[XN]at u;refine Ux k0 k1 s ?_;unfold Ll bH cS aq eX nv cz SM SX Zh TD VF;simp only[Bd,show((0:Int)).toNat*1=0 from rfl,show((1:Int)).toNat*1=1 from rfl,show((2:Int)).toNat*1=2 from rfl,show((3:Int)).toNat*1=3 from rfl]
 have eq0:∃F:Q4,F=(dT k0 8317987319222330741,dT k1 7237128888997146477,dT k0 7816392313619706465,dT k1 8387220255154660723):=⟨_,rfl⟩;obtain⟨F,Y⟩:=eq0;rw[←Y]at u;have hq0:Rq F:=by rw[Y];exact⟨vU _ _,vU _ _,vU _ _,vU _ _⟩
 refine aN fun h1 b1 k1=>?_
 refine cW b1 (by rfl) fun h2 b2 u2=>?_
 have b2':h2[h.size]? =some (.cells (q4 F) xr (0,0)):=by rw[Y];exact b2
 clear b2 Y;have hex:∃G:Nat×Q4,G=qr s.size s 0 F:=⟨_,rfl⟩;obtain⟨G,eG⟩:=hex;rw[←eG]at u;simp only at u;refine LoopP.ghost (fun(g:Nat×Q4) (t:Int) B=>t=(g.1:Int)∧B[h.size]? =some (.cells (q4 g.2) xr (0,0))∧Upd No h B∧Rq g.2∧
  ((∃n,qr n s g.1 g.2=G∧s.size≤g.1+n∧g.1≤s.size)∨(s.size<g.1∧g.2=sZ ((hv s G.1 8+s.size%256*72057594037927936:Nat):Int) G.2))) (fun g=>s.size+1-g.1) (0,F) ⟨rfl,b2',k1.own u2 (ao _),hq0,.inl ⟨s.size,eG.symm,by omega,bj _⟩⟩ ?_
 rintro I ⟨a,q⟩ t B ⟨rfl,J,hu,X,w⟩ hI;simp only at J X w;refine aM (fun hle=>?_) fun hgt=>?_
 ·have hle:a≤s.size:=by omega
  obtain⟨n,z,hn,_⟩:=w.resolve_right fun h=>by omega
  refine LoopP.ghost (fun(j:Nat) (t:Int×Int) y=>t=(((hv s (a+(8-j)) j:Nat):Int),(7:Int)-(j:Int))∧j≤8∧y=B) (fun j=>8-j) 0 ⟨rfl,by omega,rfl⟩ ?_
  rintro I2 j t y ⟨rfl,hj,rfl⟩ hI2;refine aM (fun hge=>?_) fun hlt=>?_
  ·have hj7:j≤7:=by have:(7:Int)-(j:Int)≥0:=hge;omega
   have ei:IntKind.wrap .i64 ((a:Int)+(7-(j:Int)))=((a+(7-j):Nat):Int):=by rw[jj (by omega)];omega
   have A:=KO s (j+1) (a+(8-(j+1)));have hp:256^(j+1)≤256^8:=fM (by omega) (by omega);have E:hv s (a+(8-(j+1))) (j+1)=hv s (a+(8-j)) j*256+IZ s (a+(7-j)):=by
    rw[show a+(8-(j+1))=a+(7-j) by omega]
    show hv s (a+(7-j)+1) j*256+_=_
    rw[show a+(7-j)+1=a+(8-j) by omega]
   rw[E]at A;refine Join.intro (fun t N=>t=((hv s (a+(8-(j+1))) (j+1):Nat):Int)∧N=y) (fun R L=>?_) ?_
   ·simp only
    rw[ei];refine aM (fun o=>?_) fun Q=>?_
    ·have o:a+(7-j)<s.size:=by omega
     obtain⟨b,hb1,O⟩:=Z9 o;refine⟨b,by omega,by rw[aX];exact hb1,L _ _ ⟨?_,rfl⟩⟩
     rw[E,O,IntKind.wrap_u64,IntKind.wrap_u64,IntKind.wrap_u64];rw[O]at A;omega
    ·have hz:IZ s (a+(7-j))=0:=H6 (by omega)
     refine L _ _ ⟨?_,rfl⟩;rw[hz]at A;rw[E,hz,IntKind.wrap_u64];omega
   ·rintro t N ⟨rfl,rfl⟩
    simp only;have e7:IntKind.wrap .i64 ((7:Int)-(j:Int)-1)=(7:Int)-((j+1:Nat):Int):=by rw[jj (by omega)];omega
    rw[e7];exact hI2 (j+1) _ _ ⟨rfl,by omega,rfl⟩ (by omega)
  ·obtain rfl:j=8:=by have:¬(7:Int)-(j:Int)≥0:=hlt;omega
   simp only[Nat.sub_self,dd];have h8:=KO s 8 a;have e8:IntKind.wrap .i64 ((a:Int)+8)=((a+8:Nat):Int):=by rw[jj (by omega)];omega
   rw[e8];refine Join.intro (fun(t:Int) N=>N=y∧∃m:Nat,t=(m:Int)∧((a+8≤s.size∧m=hv s a 8)∨(s.size<a+8∧m=hv s a 8+s.size%256*72057594037927936))) (fun R L=>?_) ?_
   ·refine aM (fun o=>?_) fun Q=>?_
    ·have o:s.size<a+8:=by omega
     have hc:hv s a 8<2^56:=by
      have e:=L8 (s:=s) (d:=1) (c:=7) (p:=a) (by omega);rw[show(7+1:Nat)=8 from rfl]at e
      rw[e];exact KO s 7 a
     refine⟨by decide,L _ _ ⟨rfl,_,?_,.inr ⟨o,rfl⟩⟩⟩;rw[fO (by omega),IntKind.wrap_u64,IntKind.wrap_u64,IntKind.wrap_u64];omega
    ·exact L _ _ ⟨rfl,_,rfl,.inl ⟨by omega,rfl⟩⟩
   ·rintro t N ⟨rfl,m,rfl,hm⟩
    refine⟨by decide,_,vc J 3,by decide,?_⟩
    refine kU (i:=3) (c':=q4 (q.1,q.2.1,q.2.2.1,dT q.2.2.2 (m:Int))) J (show 3<4 by decide) rfl fun h4 k u4=>?_
    refine⟨_,vc k 0,_,vc k 1,_,vc k 2,_,vc k 3,?_⟩;refine wH (s:=(q.1,q.2.1,q.2.2.1,dT q.2.2.2 (m:Int))) X.2.1 (vU _ _) fun h5 H=>?_
    have f:=yT (q.1,q.2.1,q.2.2.1,dT q.2.2.2 (m:Int));have et:sZ (m:Int) q=(dT (lV (lV (q.1,q.2.1,q.2.2.1,dT q.2.2.2 (m:Int)))).1 m,(lV (lV (q.1,q.2.1,q.2.2.1,dT q.2.2.2 (m:Int)))).2):=rfl;refine wH f.2.1 f.2.2.2 fun h6 S=>?_
    obtain⟨r,er⟩:∃r,r=lV (lV (q.1,q.2.1,q.2.2.1,dT q.2.2.2 (m:Int))):=⟨_,rfl⟩;rw[←er]at et⊢;have b6:=S.get0 (H.get0 k);have z6:=aL b6;refine cW (vs:=(q4 r).toList) b6 rfl fun h7 b7 u7=>?_
    have M:h7[h.size]? =some (.cells (q4 r) xr (0,0)):=b7;refine⟨by decide,_,vc M 0,by decide,?_⟩
    refine kU (i:=0) (c':=q4 (dT r.1 m,r.2)) M (show 0<4 by decide) rfl fun Z W u8=>?_
    have uu:Upd No h Z:=((((hu.own u4 (ao _)).tr H).tr S).own u7 (ao _)).own u8 (ao _);rw[←et]at W;refine hI (a+8,sZ m q) _ _ ⟨rfl,W,uu,U9 _ _,?_⟩ (by simp only;omega);rcases hm with⟨hc,rfl⟩|⟨hc,rfl⟩
    ·obtain⟨n',hd,hn'⟩:=WD hn hc
     exact .inl ⟨n',hd.symm.trans z,hn',hc⟩
    ·refine .inr ⟨by simp only;omega,?_⟩
     have:=QE (n:=n) (q:=q) hc;rw[z]at this;rw[this]
 ·obtain⟨_,eq⟩:=w.resolve_left fun⟨_,_,_,h⟩=>by omega
  rw[←eq]at u;clear eq w;refine⟨by decide,_,vc J 2,by decide,?_⟩
  refine kU (i:=2) (c':=q4 (q.1,q.2.1,dT q.2.2.1 255,q.2.2.2)) J (show 2<4 by decide) rfl fun h4 k u4=>?_
  refine⟨_,vc k 0,_,vc k 1,_,vc k 2,_,vc k 3,?_⟩;have ef:Ys q=ZT (lV (lV (lV (lV (q.1,q.2.1,dT q.2.2.1 255,q.2.2.2))))):=rfl;rw[ef]at u;refine wH (s:=(q.1,q.2.1,dT q.2.2.1 255,q.2.2.2)) X.2.1 X.2.2.2 fun h5 H=>?_
  have f:=yT (q.1,q.2.1,dT q.2.2.1 255,q.2.2.2);obtain⟨r1,T⟩:∃r,r=lV (q.1,q.2.1,dT q.2.2.1 255,q.2.2.2):=⟨_,rfl⟩;rw[←T]at u f⊢;clear T;refine wH f.2.1 f.2.2.2 fun h6 S=>?_
  have C:=yT r1;obtain⟨r2,P⟩:∃r,r=lV r1:=⟨_,rfl⟩;rw[←P]at u C⊢;clear P;refine wH C.2.1 C.2.2.2 fun h7 k7=>?_
  have D:=yT r2;obtain⟨r3,V⟩:∃r,r=lV r2:=⟨_,rfl⟩;rw[←V]at u D⊢;clear V;refine wH D.2.1 D.2.2.2 fun h8 k8=>?_
  obtain⟨r,er⟩:∃r,r=lV r3:=⟨_,rfl⟩;rw[←er]at u⊢;clear er;have W:=k8.get0 (k7.get0 (S.get0 (H.get0 k)));refine cW (vs:=(q4 r).toList) W rfl fun h9 b9 u9=>?_
  have v:h9[h.size]? =some (.cells (q4 r) xr (0,0)):=b9;refine⟨by decide,_,vc v 0,by decide,_,vc v 1,by decide,_,vc v 2,by decide,_,vc v 3,?_⟩
  exact u h9 ((((((hu.own u4 (ao _)).tr H).tr S).tr k7).tr k8).own u9 (ao _))
theorem Vx{x:Hs}{s:ByteArray}(c:s.size≤1000000000){h:af}{K:Int→af→Prop}(b:∀h',Upd No h h'→K (nr x s) h'):HC PG BB [.agg #[.int .u64 x.k0,.int .u64 x.k1,.int .u64 x.mask],.string s] [.c (.int .u64)] K h:=by
 refine Q9 (x.k0,x.k1,x.mask) s ?_;unfold IJ aq CC Zc;refine aN fun f b1 k1=>⟨_,vc b1 0,_,vc b1 1,_,vc b1 2,XY c fun d a=>⟨vc (a.get0 b1) 2,?_⟩⟩
 exact b d (k1.tr a)
theorem ZA{hv:Int}(f:0≤hv∧hv<18446744073709551616){lev:Nat}(o:lev<13){h:af}{K:Int→af→Prop}(c:K (((hv.toNat>>>(5*lev))%32:Nat):Int) h):HC PG CW [.int .u64 hv,.int .i64 lev] [.c (.int .i64)] K h:=by
 obtain⟨n,rfl⟩:=pY f.1;rw[aX]at c;refine Xe n lev ?_;unfold O1;refine Join.plain (aM (fun h=>by omega) fun _=>?_)
 rw[decide_eq_false (by omega)];refine aj.2 ?_;refine LoopP.ghost (fun(i:Nat) (t:Int×Int) g=>t=(((n>>>(5*i):Nat):Int),(i:Int))∧i≤lev∧g=h) (fun i=>lev-i) 0 ⟨rfl,bj _,rfl⟩ ?_
 rintro I i t g ⟨rfl,hi,rfl⟩ k;refine aM (fun a=>?_) fun b=>?_
 ·have a:i<lev:=by have:(i:Int)<(lev:Int):=a;omega
  have d:n>>>(5*i)≤n:=Nat.shiftRight_le _ _;have e:n>>>(5*(i+1))=n>>>(5*i)/32:=by rw[Nat.mul_add,Nat.shiftRight_add,Nat.shiftRight_eq_div_pow _ (5*1)]
  have m:n<18446744073709551616:=by have:=f.2;omega
  have j:IntKind.wrap .u64 (nJ ((n>>>(5*i):Nat):Int) 32)=((n>>>(5*(i+1)):Nat):Int):=by
   rw[e];generalize n>>>(5*i)=y at d;rw[fP (by omega),IntKind.wrap_u64];omega
  refine⟨by decide,?_⟩;simp only;rw[j,cO a (by omega)];exact k (i+1) _ _ ⟨rfl,a,rfl⟩ (by omega)
 ·obtain rfl:i=lev:=by have:¬(i:Int)<(lev:Int):=b;omega
  refine⟨by decide,?_⟩;simp only;generalize n>>>(5*i)=y at c;rw[fO (by omega),jj (by omega)];exact_mod_cast c
theorem aaL{x:Hs}{k:ByteArray}{lev:Nat}(b:lev<13){h:af}{K:Int→af→Prop}(a:K (ck x lev k:Int) h):HC PG CW [.int .u64 (nr x k),.int .i64 lev] [.c (.int .i64)] K h:=ZA (Fj x k) b a
end Go.Proofs
