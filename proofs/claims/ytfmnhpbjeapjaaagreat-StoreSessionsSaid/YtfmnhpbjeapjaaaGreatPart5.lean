/- A part of the proof that the named laws of this program answer true, whatever the input. -/
import Derived.Test.YtfmnhpbjeapjaaaGreatPart4
open BitVec renaming ofInt→ae
open Nat renaming lt_or_ge→cF,le_refl→av,lt_of_lt_of_le→aE
namespace Go.Proofs
open Go Go.Lift Go.Sort
variable {dec:Int→Ch} {M:Nat→Prop} {s:SliceV} {h:ac} {d:Array Int}
@[simp] theorem De(lt:Int→Int→Bool):∀(j:Nat) (d:Array Int),(shiftDown lt j d).size=d.size
 |0,d=>rfl
 |j+1,d=>by rw[shiftDown];split;rfl;rw[De lt j];simp
@[simp] theorem Ot(lt:Int→Int→Bool)(e j:Nat)(d:Array Int):(shiftUp lt e j d).size=d.size:=by
 fun_induction shiftUp lt e j d<;>simp_all
theorem N7{a e:Nat}(hs:SA dec M s h d)(ha:a<e)(he:e≤d.size){K:Bool→ac→Prop}(S:∀h',SA dec M s h' (partialInsertionSort (A0 dec) d a e).1→Upd M h h'→K (partialInsertionSort (A0 dec) d a e).2 h'):
  HC PG dZ [.slice s.a s.len s.cap,.int .i64 a,.int .i64 e,NG] [.c .bool] K h:=by
 refine iv s a e NG ?_;unfold d8 aD bT uu f8 cG yk Ej Cp;have hsm:=hs.small;refine LoopP.ghost (fun(g:Nat×Nat×Array Int) (t:Int×Int) h'=>t.1=(g.2.1:Int)∧t.2=5-(g.1:Int)∧SA dec M s h' g.2.2∧g.2.2.size=d.size∧partialIns (A0 dec) a e g.1 g.2.1 g.2.2=partialInsertionSort (A0 dec) d a e∧Upd M h h'∧g.1≤5∧a<g.2.1∧g.2.1≤e) (fun g=>g.1) (5,a+1,d)
  ⟨by simp only;rw[dT (by omega)];rfl,by simp only;omega,hs,rfl,rfl,Upd.refl _ _,by simp,by simp,by simp only;omega⟩ ?_
 rintro I ⟨st,i0,x⟩ ⟨t1,t2⟩ h1 ⟨X,ht2,O,hz1,w,hu1,hst,hai,hie⟩ hI;simp only at X ht2 O hz1 w hst hai hie;subst X ht2;refine ax (fun hlt=>?_) fun hge=>?_
 ·obtain⟨st,rfl⟩:∃k,st=k+1:=⟨st-1,by have:5-(st:Int)<5:=hlt;omega⟩
  refine Join.intro (fun t h'=>∃Q W,t=(Q:Nat)∧SA dec M s h' W∧W.size=d.size∧partialIns (A0 dec) a e st Q W=partialInsertionSort (A0 dec) d a e∧Upd M h h'∧a<Q∧Q≤e) (fun R hR=>?_) ?_
  ·refine LoopP.ghost (fun(i:Nat) (t:Int) h'=>t=(i:Int)∧SA dec M s h' x∧Upd No h1 h'∧scanSorted (A0 dec) x e i=scanSorted (A0 dec) x e i0∧a<i∧i≤e) (fun i=>e-i) i0 ⟨rfl,O,Upd.refl _ _,rfl,hai,hie⟩ ?_
   rintro I2 i t h' ⟨rfl,y,k2,Y,m,f⟩ hI2;refine Join.intro (fun c J=>SA dec M s J x∧Upd No h' J∧(c=true↔i<e∧(A0 dec) x[i]! x[i-1]! =false)) (fun R2 hR2=>?_) ?_
   ·refine ax (fun hle=>?_) fun hgt=>hR2 _ _ ⟨y,Upd.refl _ _,by simp;omega⟩
    exact y.less (i:=i) (j:=i-1) rfl (by rw[dT (by omega)];omega) (by omega) (by omega) fun B e3 p k3 he3=>hR2 _ _ ⟨p,k3,by rw[he3];simp;omega⟩
   ·rintro c J ⟨p,k3,hc⟩
    have A:=hu1.tr (k2.tr k3).wide;refine CondP.intro (fun h2=>?_) fun h2=>?_
    ·have hh:=hc.1 h2
     refine hI2 (i+1) _ _ ⟨by rw[dT (by omega)];rfl,p,k2.tr k3,?_,by omega,by omega⟩ (by omega)
     rw[←Y];conv=>rhs;rw[scanSorted]
     rw[if_pos (by simp[hh])]
    ·have hsi:scanSorted (A0 dec) x e i=i:=by
      rw[scanSorted,if_neg];intro hh;simp only[Bool.and_eq_true,decide_eq_true_iff,Bool.not_eq_eq_eq_not,Bool.not_true]at hh;rw[hc.2 hh]at h2;cases h2
     have b:=w;rw[partialIns]at b;simp only[←Y,hsi]at b;refine CondP.intro (fun B=>?_) fun B=>?_
     ·have B:i=e:=by
       have:(i:Int)=e:=by simpa using B
       omega
      rw[if_pos B]at b;rw[←b]at S;exact S _ p A
     ·have B:i≠e:=fun e'=>by subst e';simp at B
      rw[if_neg B]at b;have we:IntKind.wrap .i64 ((e:Int)-(a:Int))=((e-a:Nat):Int):=by rw[dT (by omega)];omega
      show CondP (decide (IntKind.wrap .i64 ((e:Int)-(a:Int))<50)) _ _
      rw[we];refine ax (fun h4=>?_) fun h4=>?_
      ·rw[if_pos (by omega)]at b
       rw[←b]at S;exact S _ p A
      ·rw[if_neg (by omega)]at b
       have hi1:1≤i:=by omega
       refine p.swap (i:=i) (j:=i-1) rfl (by rw[dT (by omega)];omega) (by omega) (by omega) fun h5 H hu5=>?_
       have P:(swp x i (i-1)).size=d.size:=by simp[hz1]
       generalize swp x i (i-1)=d5 at H P b;refine Join.intro (fun _ h'=>SA dec M s h' (if i-a≥2 then shiftDown (A0 dec) (i-1) d5 else d5)∧Upd M h h') (fun R3 q=>?_) ?_
       ·have wi:IntKind.wrap .i64 ((i:Int)-(a:Int))=((i-a:Nat):Int):=by rw[dT (by omega)];omega
        show CondP (decide (IntKind.wrap .i64 ((i:Int)-(a:Int))≥2)) _ _
        rw[wi];refine ax (fun h6=>?_) fun h6=>?_
        ·rw[if_pos (by omega)]at q
         refine LoopP.ghost (fun(g:Nat×Array Int) (t:Int) h'=>t=(g.1:Int)∧SA dec M s h' g.2∧g.2.size=d.size∧shiftDown (A0 dec) g.1 g.2=shiftDown (A0 dec) (i-1) d5∧Upd M h h'∧g.1<e) (fun g=>g.1) (i-1,d5)
          ⟨by rw[dT (by omega)];simp only;omega,H,P,rfl,A.tr hu5,by simp only;omega⟩ ?_
         rintro I4 ⟨j,V⟩ t h7 ⟨ht,F,hz7,o,U,C⟩ L;simp only at ht F hz7 o C;subst ht;refine ax (fun h8=>?_) fun h8=>?_
         ·obtain⟨j,rfl⟩:∃k,j=k+1:=⟨j-1,by omega⟩
          have T:IntKind.wrap .i64 (((j+1:Nat):Int)-1)=(j:Int):=by rw[dT (by omega)];omega
          rw[shiftDown]at o;refine F.less (i:=j+1) (j:=j) rfl T (by omega) (by omega) fun hL eL hsL kL G=>?_
          have u:=U.tr kL.wide;rw[G];refine CondP.intro (fun Z=>?_) fun Z=>?_
          ·rw[if_pos Z]at o
           exact q _ _ ⟨by rw[←o];exact hsL,u⟩
          ·rw[if_neg (by rw[Z];simp)]at o
           refine hsL.swap (i:=j+1) (j:=j) rfl T (by omega) (by omega) fun z hs10 hu10=>?_
           exact L (j,swp V (j+1) j) _ _ ⟨T,hs10,by simp[hz7],o,u.tr hu10,by simp only;omega⟩ (by simp)
         ·have:j=0:=by omega
          subst this;exact q _ _ ⟨by rw[←o];exact F,U⟩
        ·rw[if_neg (by omega)]at q
         exact q _ _ ⟨H,A.tr hu5⟩
       ·rintro _ h6 ⟨E,hu6⟩
        have N:(if i-a≥2 then shiftDown (A0 dec) (i-1) d5 else d5).size=d.size:=by split<;>simp[P]
        generalize (if i-a≥2 then shiftDown (A0 dec) (i-1) d5 else d5)=V at E N b
        have wi:IntKind.wrap .i64 ((e:Int)-(i:Int))=((e-i:Nat):Int):=by rw[dT (by omega)];omega
        show CondP (decide (IntKind.wrap .i64 ((e:Int)-(i:Int))≥2)) _ _
        rw[wi];refine ax (fun h7=>?_) fun h7=>?_
        ·rw[if_pos (by omega)]at b
         refine LoopP.ghost (fun(g:Nat×Array Int) (t:Int) h'=>t=(g.1:Int)∧SA dec M s h' g.2∧g.2.size=d.size∧shiftUp (A0 dec) e g.1 g.2=shiftUp (A0 dec) e (i+1) V∧Upd M h h'∧1≤g.1∧g.1≤e) (fun g=>e-g.1) (i+1,V)
          ⟨by rw[dT (by omega)];rfl,E,N,rfl,hu6,by simp,by simp only;omega⟩ ?_
         rintro I4 ⟨j,d7⟩ t h8 ⟨ht,D,v,n,hu8,hj1,C⟩ L;simp only at ht D v n hj1 C;subst ht;refine ax (fun Z=>?_) fun Z=>?_
         ·have T:IntKind.wrap .i64 ((j:Int)-1)=((j-1:Nat):Int):=by rw[dT (by omega)];omega
          rw[shiftUp,if_pos (by omega)]at n;refine D.less (i:=j) (j:=j-1) rfl T (by omega) (by omega) fun hL eL hsL kL G=>?_
          have u:=hu8.tr kL.wide;rw[G];refine CondP.intro (fun z=>?_) fun z=>?_
          ·rw[if_pos z]at n
           exact hR _ _ ⟨i,d7,rfl,hsL,v,by rw[n];exact b,u,m,f⟩
          ·rw[if_neg (by rw[z];simp)]at n
           refine hsL.swap (i:=j) (j:=j-1) rfl T (by omega) (by omega) fun h11 hs11 hu11=>?_
           exact L (j+1,swp d7 j (j-1)) _ _ ⟨by rw[dT (by omega)];rfl,hs11,by simp[v],n,u.tr hu11,by simp,by simp only;omega⟩ (by simp only;omega)
         ·rw[shiftUp,if_neg (by omega)]at n
          exact hR _ _ ⟨i,d7,rfl,D,v,by rw[n];exact b,hu8,m,f⟩
        ·rw[if_neg (by omega)]at b
         exact hR _ _ ⟨i,V,rfl,E,N,b,hu6,m,f⟩
  ·rintro t h' ⟨Q,W,rfl,y,hz2,b,hu2,m,f⟩
   exact hI (st,Q,W) _ _ ⟨rfl,by simp only;rw[dT (by omega)];omega,y,hz2,b,hu2,by simp only;omega,m,f⟩ (by simp)
 ·have:st=0:=by have:¬5-(st:Int)<5:=hge;omega
  subst this;rw[partialIns]at w;rw[←w]at S;exact S _ O hu1
end Go.Proofs
namespace Go.Proofs
open Go Go.Lift Go.Sort
variable {dec:Int→Ch} {M:Nat→Prop} {s:SliceV} {h:ac} {d:Array Int}
theorem RE(x:Int):IntKind.wrap .u64 x=x%18446744073709551616:=by
 simp[IntKind.wrap,IntKind.bits,IntKind.signed]
theorem and_le_right(x:Int){m:Int}(b:0≤m)(hm:m<18446744073709551616):0≤IntKind.wrap .u64 ((ae (IntKind.bits .u64) x&&&ae (IntKind.bits .u64) m).toNat:Int)∧IntKind.wrap .u64 ((ae (IntKind.bits .u64) x&&&ae (IntKind.bits .u64) m).toNat:Int)≤m:=by
 have d:(ae (IntKind.bits .u64) x&&&ae (IntKind.bits .u64) m).toNat≤(ae (IntKind.bits .u64) m).toNat:=by
  rw[BitVec.toNat_and];exact Nat.and_le_right
 have c:((ae (IntKind.bits .u64) m).toNat:Int)=m:=by
  show((ae 64 m).toNat:Int)=m
  rw[BitVec.toNat_ofInt];have:m%((2^64:Nat):Int)=m:=Int.emod_eq_of_lt b (by omega);rw[this];omega
 rw[RE];omega
end Go.Proofs
namespace Go.Proofs
open Go Go.Lift Go.Sort
variable {dec:Int→Ch} {M:Nat→Prop} {s:SliceV} {h:ac} {d:Array Int}
end Go.Proofs
namespace Go.Proofs
open Go Go.Lift
end Go.Proofs
namespace Go.Proofs
open Go Go.Lift
theorem Few.mono{n m:Nat}{L:List Pr}(f:Few n L)(h:n≤m):Few m L:=⟨f.up,Nat.le_trans f.len h,f.fit⟩
end Go.Proofs
namespace Go.Proofs
open Go Go.Lift
theorem G6{W:Nat→Prop}{h:ac}{b:Nat}{l:List Pr}(t:RadAt W h b l)(hW:∀y,W y→y<h.size)(hr:fk l)(k:ByteArray){K:ByteArray×Bool→ac→Prop}
  (V:∀h',Upd No h h'→K ((look l k).getD ⟨#[]⟩,(look l k).isSome) h'):HC PG wA [.pointer (some ⟨b,0,none⟩),.string k] [.c .str,.c .bool] K h:=by
 refine HU (some ⟨b,0,none⟩) k ?_;unfold Ci aD bT cH cG mU FB;refine ES (.inr ⟨b,rfl,t⟩) hW fun h2 b2 t2 Z _=>?_
 obtain⟨w,F,r1,r2,r3⟩:=t2.ex;have d:∀v,Cb w F k.data.toList v↔look l k=some v:=fun v=>by
  rw[←zB,r3];constructor
  ·rintro⟨p,hp,e1,rfl⟩
   rw[←yJ.1 e1];exact A2 hr hp
  ·intro hp;exact⟨_,Hn hp,rfl,rfl⟩
 refine LoopP.ghost (fun(g:ByteArray×Nat×ByteArray×Option ByteArray×Fo) (t:ByteArray×Option Addr) h'=>t=(g.1,some ⟨g.2.1,0,none⟩)∧RxN W h' g.2.1 g.2.2.1 g.2.2.2.1 g.2.2.2.2∧l8 g.2.2.2.2∧(∀v,Cb g.2.2.2.1 g.2.2.2.2 g.1.data.toList v↔look l k=some v)∧Upd No h h') (fun g=>g.1.size) (k,b2,⟨#[]⟩,w,F) ⟨rfl,r1,r2,d,Z⟩ ?_
 clear d r1 r2 r3 t2;rintro I ⟨D,c,sl,w,F⟩ t h5 ⟨rfl,r,hc,d,hu⟩ hI;simp only at r hc d;simp only[lg];by_cases L:D=⟨#[]⟩
 ·subst L
  refine aq.2 (GX r ?_);have e:look l k=w:=Option.ext fun v=>by
   rw[←d v];constructor
   ·rintro(⟨_,h⟩|h)
    ·exact h
    ·exact absurd rfl (F7 hc h)
   ·intro h;exact .inl ⟨rfl,h⟩
  rw[e]at V;exact V _ hu
 ·rw[decide_eq_false L]
  refine aK.2 ?_;have u:D.data.toList≠[]:=fun e=>L (by cases D;exact congrArg ByteArray.mk (Array.toList_inj.1 e))
  obtain⟨c0,hc0,P⟩:=Jj u;refine⟨c0,Int.le_refl _,hc0,?_⟩;have hr0:=r;obtain⟨val,s,ow,ks,hb,_,hs,hcap,hF⟩:=r;have hL:=sV.1 hF;have E:=gE.1 hc;have o:(∀v,¬Bu F D.data.toList v)→K ((⟨#[]⟩:ByteArray),false) h5:=fun C=>by
   have e:look l k=none:=by
    cases e:look l k with
    |none=>rfl
    |some v=>
     rcases(d v).2 e with⟨h,_⟩|h
     ·exact absurd h u
     ·exact absurd h (C v)
   rw[e]at V;exact V _ hu
  refine ET hr0 hc (c:=c0.toNat) (UInt8.toNat_lt _) fun i ok hil S G N=>?_
  rw[P]at S G N;cases ok with
  |false=>
   refine aK.2 (o fun v d=>?_)
   obtain⟨n',J,e,_⟩:=A5 hc d;obtain⟨j,U,rfl⟩:=List.getElem_of_mem J;rcases cF j i with hl|hl
   ·have:=S j U hl;omega
   ·have h1:=G j U hl
    have h2:=G i (by omega) (av _);rcases cF i j with T|T
    ·have h3:=List.pairwise_iff_getElem.1 E.1 i j (by omega) U T
     omega
    ·have:i=j:=by omega
     subst this;have:=N.2 ⟨U,e⟩;cases this
  |true=>
   obtain⟨hi,R⟩:=N.1 rfl;refine aq.2 ⟨_,rfl,s,jt (i:=3) hb,?_⟩;obtain⟨kb,O,hki,B,A⟩:=hL.at hi;have x:F.toL[i]∈F.toL:=List.getElem_mem hi;have z:=E.2 _ x;obtain⟨a,ha,_,Y⟩:=hs.at0 hki;have H:=hs.len;rw[hL.1]at H;have f:∀v,Bu F D.data.toList v↔Eh F.toL[i] D.data.toList v:=fun v=>by
    constructor
    ·intro d
     obtain⟨n',J,e,hN⟩:=A5 hc d;rw[←Gi hc J x (by omega)];exact hN
    ·intro d;exact mH.2 ⟨_,x,d⟩
   refine⟨⟨by simp only;omega,by simp only;omega⟩,a,ha,some ⟨kb,0,none⟩,Y,_,rfl,?_⟩
   obtain⟨kval,kss,kow,kks,Q,_⟩:=id A;generalize F.toL[i]=m at B A z f R;obtain⟨lab,wk,Fk⟩:=m;simp only at B A z R Q;refine⟨O,jt (i:=0) Q,Qp (fun q n=>?_) fun C=>?_⟩
   ·rw[B]at n
    have hlne:lab.length≠0:=fun e=>z.1 (List.length_eq_zero_iff.1 e)
    have hrl:q.size<D.size:=by
     rw[←rD q,←rD D,n,List.length_append];omega
    refine aq.2 (hI (q,kb,O,wk,Fk) _ _ ⟨rfl,A,z.2.2,fun v=>?_,hu⟩ hrl)
    rw[←d v];constructor
    ·intro h;exact .inr ((f v).2 ⟨_,n,h⟩)
    ·rintro(⟨h,_⟩|h)
     ·exact absurd h u
     ·obtain⟨r',e,X⟩:=(f v).1 h
      simp only at e;rw[n]at e;rw[List.append_cancel_left e];exact X
   ·rw[B]at C
    refine aK.2 (o fun v h=>?_)
    obtain⟨r',e,_⟩:=(f v).1 h;exact C r' e
theorem On{W:Nat→Prop}{x:Hs}{h:ac}{kind:Int}{t:Tr}{l:List Pr}(i:TreeIs W h kind x t l)(j:∀y,W y→y<h.size)(f:fk l)(n:l.length≤1000000)(k:ByteArray){K:Sd→ac→Prop}(g:∀h',Upd No h h'→K ((look l k).getD ⟨#[]⟩,(look l k).isSome) h'):HC PG qr [GO t,.string k] [.c .str,.c .bool] K h:=by
 refine CD t k ?_;unfold vB ag El di af rl rj;rcases i with⟨_,b,rfl,t⟩|⟨_,b,rfl,t⟩
 ·refine bc fun m b1 k1=>⟨_,vc b1 0,aq.2 ⟨_,sO b1 1 0,_,sO b1 1 1,_,sO b1 1 2,_,vc b1 4,?_⟩⟩
  exact HM (TrieAt.upd0 k1 t) (fun y e=>aE (j y e) k1.size) f n k fun d c=>g d (k1.tr c)
 ·refine bc fun m b1 k1=>⟨_,vc b1 0,aK.2 ⟨_,vc b1 5,?_⟩⟩
  exact G6 (t.upd0 k1) (fun y e=>aE (j y e) k1.size) f k fun d c=>g d (k1.tr c)
end Go.Proofs
namespace Go.Proofs
open Go Go.Lift
end Go.Proofs
namespace Go.Proofs
open Go Go.Lift
def BaseOf(s:VS)(b:Int)(B:TD):Prop:=(b=0∧B=(s.e,[]))∨(b≠0∧cz s.D b=some B)
section
variable {W:Nat→Prop} {h:ac} {vp:Nat} {s:VS}
theorem AM(v:VaultAt W h vp s){id:Int}(c:id=0∨id∈ids s.L){K:Tr×Int→ac→Prop}(b:∀B,BaseOf s id B→∀h',Upd No h h'→K (B.1,0) h'):HC PG fT [pV vp,.int .u32 id] [.agg [.int .i64,.int .u64,.int .u64,.int .u64,.ptr,.ptr],.c (.int .i64)] K h:=
 L6 v id (fun e h' k=>b (s.e,[]) (.inl ⟨e,rfl⟩) h' k) (fun d hd e h' k=>b d (.inr ⟨e,hd⟩) h' k) fun hd e=>absurd ((v.sub id).2 (c.resolve_left e)) (lh.1 hd)
end
end Go.Proofs
namespace Go.Proofs
open Go Go.Lift
abbrev bM:SliceV:=⟨none,0,0⟩
abbrev An:=Int×Int×Int×ByteArray×Bool×Int×SliceV×SliceV×SliceV×SliceV×SliceV
abbrev zd:An:=(0,0,0,⟨#[]⟩,false,0,bM,bM,bM,bM,bM)
abbrev Fv(e:An):List Value:= [.int .i64 e.1,.int .u32 e.2.1,.int .i64 e.2.2.1,.string e.2.2.2.1,.bool e.2.2.2.2.1,.int .i64 e.2.2.2.2.2.1,.slice e.2.2.2.2.2.2.1.a e.2.2.2.2.2.2.1.len e.2.2.2.2.2.2.1.cap,.slice e.2.2.2.2.2.2.2.1.a e.2.2.2.2.2.2.2.1.len e.2.2.2.2.2.2.2.1.cap,.slice e.2.2.2.2.2.2.2.2.1.a e.2.2.2.2.2.2.2.2.1.len e.2.2.2.2.2.2.2.2.1.cap,.slice e.2.2.2.2.2.2.2.2.2.1.a e.2.2.2.2.2.2.2.2.2.1.len e.2.2.2.2.2.2.2.2.2.1.cap,.slice e.2.2.2.2.2.2.2.2.2.2.a e.2.2.2.2.2.2.2.2.2.2.len e.2.2.2.2.2.2.2.2.2.2.cap]
abbrev Bj:List Kind:= [.agg [.int .i64,.int .u32,.int .i64,.str,.bool,.int .i64,.slice,.slice,.slice,.slice,.slice]]
abbrev LQ:=Int×ByteArray×ByteArray×ByteArray×ByteArray×Int×Int×Int×Int×Bool×ByteArray×ByteArray×Bool×SliceV×SliceV
abbrev QG(o:LQ):List Value:= [.int .i64 o.1,.string o.2.1,.string o.2.2.1,.string o.2.2.2.1,.string o.2.2.2.2.1,.int .u32 o.2.2.2.2.2.1,.int .u32 o.2.2.2.2.2.2.1,.int .i64 o.2.2.2.2.2.2.2.1,.int .i64 o.2.2.2.2.2.2.2.2.1,.bool o.2.2.2.2.2.2.2.2.2.1,.string o.2.2.2.2.2.2.2.2.2.2.1,.string o.2.2.2.2.2.2.2.2.2.2.2.1,.bool o.2.2.2.2.2.2.2.2.2.2.2.2.1,.slice o.2.2.2.2.2.2.2.2.2.2.2.2.2.1.a o.2.2.2.2.2.2.2.2.2.2.2.2.2.1.len o.2.2.2.2.2.2.2.2.2.2.2.2.2.1.cap,.slice o.2.2.2.2.2.2.2.2.2.2.2.2.2.2.a o.2.2.2.2.2.2.2.2.2.2.2.2.2.2.len o.2.2.2.2.2.2.2.2.2.2.2.2.2.2.cap]
abbrev E4(o:LQ):Value:=.agg #[.int .i64 o.1,.string o.2.1,.string o.2.2.1,.string o.2.2.2.1,.string o.2.2.2.2.1,.int .u32 o.2.2.2.2.2.1,.int .u32 o.2.2.2.2.2.2.1,.int .i64 o.2.2.2.2.2.2.2.1,.int .i64 o.2.2.2.2.2.2.2.2.1,.bool o.2.2.2.2.2.2.2.2.2.1,.string o.2.2.2.2.2.2.2.2.2.2.1,.string o.2.2.2.2.2.2.2.2.2.2.2.1,.bool o.2.2.2.2.2.2.2.2.2.2.2.2.1,.slice o.2.2.2.2.2.2.2.2.2.2.2.2.2.1.a o.2.2.2.2.2.2.2.2.2.2.2.2.2.1.len o.2.2.2.2.2.2.2.2.2.2.2.2.2.1.cap,.slice o.2.2.2.2.2.2.2.2.2.2.2.2.2.2.a o.2.2.2.2.2.2.2.2.2.2.2.2.2.2.len o.2.2.2.2.2.2.2.2.2.2.2.2.2.2.cap]
theorem pL{h:ac}{b:Nat}{c e:An}{K:An→ac→Prop}(f:h[b]? =some (.cells (Fv c).toArray bj (0,0))) (d:∀h',Upd (· =b) h h'→K e h'):
  uf h (some ⟨b,0,none⟩) 0 (Fv e)∧At (ii h ⟨b,0,none⟩ 0 (Fv e)) (fun h'=>∃v0:Int,aB h' (adr ⟨b,0,none⟩ 0)=some (.int .i64 v0)∧∃v1:Int,aB h' (adr ⟨b,0,none⟩ 1)=some (.int .u32 v1)∧∃v2:Int,aB h' (adr ⟨b,0,none⟩ 2)=some (.int .i64 v2)∧∃v3:ByteArray,aB h' (adr ⟨b,0,none⟩ 3)=some (.string v3)∧∃v4:Bool,aB h' (adr ⟨b,0,none⟩ 4)=some (.bool v4)∧∃v5:Int,aB h' (adr ⟨b,0,none⟩ 5)=some (.int .i64 v5)∧∃v6:SliceV,aB h' (adr ⟨b,0,none⟩ 6)=some (.slice v6.a v6.len v6.cap)∧∃v7:SliceV,aB h' (adr ⟨b,0,none⟩ 7)=some (.slice v7.a v7.len v7.cap)∧∃v8:SliceV,aB h' (adr ⟨b,0,none⟩ 8)=some (.slice v8.a v8.len v8.cap)∧∃v9:SliceV,aB h' (adr ⟨b,0,none⟩ 9)=some (.slice v9.a v9.len v9.cap)∧∃v10:SliceV,aB h' (adr ⟨b,0,none⟩ 10)=some (.slice v10.a v10.len v10.cap)∧K (v0,v1,v2,v3,v4,v5,v6,v7,v8,v9,v10) h'):=by
 refine cU (c:=Fv c) (vs:=Fv e) f rfl fun h' b' u=>?_
 exact⟨e.1,vc b' 0,e.2.1,vc b' 1,e.2.2.1,vc b' 2,e.2.2.2.1,vc b' 3,e.2.2.2.2.1,vc b' 4,e.2.2.2.2.2.1,vc b' 5,e.2.2.2.2.2.2.1,vc b' 6,e.2.2.2.2.2.2.2.1,vc b' 7,e.2.2.2.2.2.2.2.2.1,vc b' 8,e.2.2.2.2.2.2.2.2.2.1,vc b' 9,e.2.2.2.2.2.2.2.2.2.2,vc b' 10,d h' u⟩
theorem Ow{h:ac}{b:Nat}{o:LQ}{P:Int→ByteArray→ByteArray→ByteArray→ByteArray→Int→Int→Int→Int→Bool→ByteArray→ByteArray→Bool→SliceV→SliceV→Prop}(c:h[b]? =some (.cells (QG o).toArray eO (0,0))) (d:P (o.1) (o.2.1) (o.2.2.1) (o.2.2.2.1) (o.2.2.2.2.1) (o.2.2.2.2.2.1) (o.2.2.2.2.2.2.1) (o.2.2.2.2.2.2.2.1) (o.2.2.2.2.2.2.2.2.1) (o.2.2.2.2.2.2.2.2.2.1) (o.2.2.2.2.2.2.2.2.2.2.1) (o.2.2.2.2.2.2.2.2.2.2.2.1) (o.2.2.2.2.2.2.2.2.2.2.2.2.1) (o.2.2.2.2.2.2.2.2.2.2.2.2.2.1) (o.2.2.2.2.2.2.2.2.2.2.2.2.2.2)):
  ∃v0:Int,aB h (adr ⟨b,0,none⟩ 0)=some (.int .i64 v0)∧∃v1:ByteArray,aB h (adr ⟨b,0,none⟩ 1)=some (.string v1)∧∃v2:ByteArray,aB h (adr ⟨b,0,none⟩ 2)=some (.string v2)∧∃v3:ByteArray,aB h (adr ⟨b,0,none⟩ 3)=some (.string v3)∧∃v4:ByteArray,aB h (adr ⟨b,0,none⟩ 4)=some (.string v4)∧∃v5:Int,aB h (adr ⟨b,0,none⟩ 5)=some (.int .u32 v5)∧∃v6:Int,aB h (adr ⟨b,0,none⟩ 6)=some (.int .u32 v6)∧∃v7:Int,aB h (adr ⟨b,0,none⟩ 7)=some (.int .i64 v7)∧∃v8:Int,aB h (adr ⟨b,0,none⟩ 8)=some (.int .i64 v8)∧∃v9:Bool,aB h (adr ⟨b,0,none⟩ 9)=some (.bool v9)∧∃v10:ByteArray,aB h (adr ⟨b,0,none⟩ 10)=some (.string v10)∧∃v11:ByteArray,aB h (adr ⟨b,0,none⟩ 11)=some (.string v11)∧∃v12:Bool,aB h (adr ⟨b,0,none⟩ 12)=some (.bool v12)∧∃v13:SliceV,aB h (adr ⟨b,0,none⟩ 13)=some (.slice v13.a v13.len v13.cap)∧∃v14:SliceV,aB h (adr ⟨b,0,none⟩ 14)=some (.slice v14.a v14.len v14.cap)∧P v0 v1 v2 v3 v4 v5 v6 v7 v8 v9 v10 v11 v12 v13 v14:=
 ⟨o.1,vc c 0,o.2.1,vc c 1,o.2.2.1,vc c 2,o.2.2.2.1,vc c 3,o.2.2.2.2.1,vc c 4,o.2.2.2.2.2.1,vc c 5,o.2.2.2.2.2.2.1,vc c 6,o.2.2.2.2.2.2.2.1,vc c 7,o.2.2.2.2.2.2.2.2.1,vc c 8,o.2.2.2.2.2.2.2.2.2.1,vc c 9,o.2.2.2.2.2.2.2.2.2.2.1,vc c 10,o.2.2.2.2.2.2.2.2.2.2.2.1,vc c 11,o.2.2.2.2.2.2.2.2.2.2.2.2.1,vc c 12,o.2.2.2.2.2.2.2.2.2.2.2.2.2.1,vc c 13,o.2.2.2.2.2.2.2.2.2.2.2.2.2.2,vc c 14,d⟩
theorem VaultAt.pro{W:Nat→Prop}{h c:ac}{d:Nat}{s:VS}(v:VaultAt W h d s)(k:Upd No h c):VaultAt (Pro W h c) c d s:=
 v.re k (fun _ h=>h.elim) (fun y b=>⟨b.imp id fun e=>e.1,Pro.lt v.g.lt k y b⟩) fun y b=>.inl (v.w y b)
theorem VaultAt.dn{W:Nat→Prop}{e d h:ac}{c:Nat}{s:VS}(v:VaultAt (Pro W e d) h c s)(hM:∀y,s.M y→W y):VaultAt W h c s:=
 v.re (Upd.refl No h) (fun _ h=>h.elim) (fun y b=>⟨.inl (.inl b),v.g.lt y (.inl b)⟩) hM
theorem VaultAt.own{W:Nat→Prop}{c f h h':ac}{i b:Nat}{s:VS}(v:VaultAt (Pro W c f) h i s)(hM:∀y,s.M y→y<c.size)(u:Upd (· =b) h h')(j:c.size≤b)(d:b<f.size):VaultAt (Pro W c f) h' i s:=
 v.upd u fun y g=>by
  have g:y=b:=g;subst g;exact .inl ⟨.inr ⟨j,d⟩,fun e=>by have:=hM _ e;omega⟩
section
variable {h:ac}
theorem xp{e:Int}{K:An→ac→Prop}(d:∀h',Upd No h h'→K (e,0,0,⟨#[]⟩,false,0,bM,bM,bM,bM,bM) h'):HC PG dk [.int .i64 e] Bj K h:=by
 refine D7 e ?_;unfold xa ag nv xg cp aw cI aF;exact bc fun g b1 k1=>pL (c:=zd) (e:=(e,0,0,⟨#[]⟩,false,0,bM,bM,bM,bM,bM)) b1 fun b f=>d b (k1.own f (av _))
theorem MP{id:Int}{K:An→ac→Prop}(d:∀h',Upd No h h'→K (0,id,0,⟨#[]⟩,false,0,bM,bM,bM,bM,bM) h'):HC PG tZ [.int .u32 id,.int .i64 0] Bj K h:=by
 refine ED id 0 ?_;unfold ye ag cT xg xi cp aw cI aF;exact bc fun g b1 k1=>aq.2 (pL (c:=zd) (e:=(0,id,0,⟨#[]⟩,false,0,bM,bM,bM,bM,bM)) b1 fun b f=>d b (k1.own f (av _)))
end
abbrev A9(f:FuncId):Value:=.func (.func f) #[] #[]
abbrev I0:List Value:= [A9 iH,A9 pR,A9 td,A9 qK,A9 kj,A9 rZ,A9 rW,A9 ol,A9 qN,A9 qL,A9 km,A9 rX,A9 r6,A9 qM,A9 iX,A9 rY,A9 qP,A9 rV,A9 iG,A9 pT,A9 iW,A9 rU,A9 pS,A9 qO,A9 rT,A9 oh]
theorem MY{k:Nat}(i:k<26){v:Value}(f:I0[k]? =some v) {h:ac} {K:Value→ac→Prop} (b:∀h',Upd No h h'→K v h'):HC PG ua [.int .i64 k] [.c .raw] K h:=by
 refine EE k ?_;unfold yf aD bT nv;refine bc fun j b1 k1=>cU (c:=List.replicate 26 .nilFunc) (vs:=I0) b1 rfl fun g b2 d=>Join.plain (ax (fun e=>absurd e (by omega)) fun _=>?_)
 rw[show decide ((k:Int)≥(26:Int))=false from decide_eq_false (by omega)]
 refine aq.2 ⟨⟨by omega,by omega⟩,v,?_,b g (k1.own d (av _))⟩
 have:=vc b2 k;rw[List.getElem?_toArray,f]at this;rw[show(k:Int).toNat*1=k by omega]
 exact this
end Go.Proofs
namespace Go.Proofs
open Go Go.Lift
theorem Fm{sp k:Nat}{f:FuncId}{o:LQ}(ek:o.1=(k:Int))(t:k<26)(s:I0[k]? =some (A9 f)) {h:ac} {K:An→ac→Prop}
  (hc:∀d b,Upd No h d→h.size≤b→b<d.size→HC PG f [.pointer (some ⟨sp,0,none⟩),E4 o] Bj (fun e h'=>∃M:Nat→Prop,Upd M d h'∧¬M b∧∀i,Upd (· =b) h' i→K e i) d):
  HC PG bH [.pointer (some ⟨sp,0,none⟩),E4 o] Bj K h:=by
 refine BA (some ⟨sp,0,none⟩) o ?_;unfold uI ag cT xg xi Lf cp aw cI aF GC Pi;refine bc fun v b1 k1=>bc fun d b2 m=>aq.2 ?_
 have c1:=m.get0 b1;refine⟨_,vc c1 0,?_⟩;rw[ek];refine MY t s fun i g=>⟨rfl,aq.2 (Ow (o:=o) (g.get0 c1) (HV.mk' ?_))⟩
 have j:=(k1.tr m).tr g;have p:=k1.size;have A:=aL b2;have z:=g.size;refine(hc i v.size j p (by omega)).mono fun e y ⟨M,u,w,n⟩=>?_
 exact pL (c:=zd) (e:=e) (u.get (g.get0 b2) w) fun q x=>n q x
section
variable {W:Nat→Prop} {h:ac} {sp vp:Nat} {s:VS} {sm:Option Nat} {last:Int} {pool:Option Addr} {o:LQ}
abbrev Mm(d:Nat)(c:Option Nat)(last:Int)(b:Option Addr):List Value:= [.pointer (some ⟨d,0,none⟩),.map c,.int .i64 last,.pointer b]
theorem BaseOf.is(v:VaultAt W h vp s){id:Int}{B:TD}(b:BaseOf s id B):TreeIs W h s.kind s.x B.1 B.2:=by
 rcases b with⟨_,rfl⟩|⟨_,b⟩
 ·exact v.em
 ·exact(v.ts _ (D1 b)).1
theorem GT(v:VaultAt W h vp s)(b:h[sp]? =some (.cells (Mm vp sm last pool).toArray dQ (0,0))) {K:An→ac→Prop} (x:∀h',Upd s.M h h'→VaultAt W h' vp {s with B:=if xy s.B s.L o.2.1 o.2.2.2.2.2.1 false=0 then my s.B o.2.1 o.2.2.2.2.2.1 else s.B}→K (xy s.B s.L o.2.1 o.2.2.2.2.2.1 false,0,0,⟨#[]⟩,false,0,bM,bM,bM,bM,bM) h'):
  HC PG iH [.pointer (some ⟨sp,0,none⟩),E4 o] Bj K h:=by
 refine wR (some ⟨sp,0,none⟩) o ?_;unfold qe ag cT xg xi cp aw cI aF GC bJ RA;refine bc fun A b1 k1=>bc fun C b2 n=>?_
 have d:=k1.tr n;have c1:=n.get0 b1;have p:=v.w;have k:=v.g.lt;have hM:∀y,s.M y→y<h.size:=fun y g=>k y (p y g)
 have q:=k1.size;have D:=aL b2;refine⟨_,rfl,_,vc (d.get0 b) 0,_,vc c1 1,_,vc c1 5,Ig (v.pro d) o.2.1 o.2.2.2.2.2.1 fun u t z=>xp fun w f=>?_⟩
 have i:Upd s.M C u:=t.mono fun y g=>.inl (.inr (.inr (.inr (.inl g))))
 refine pL (c:=zd) (e:=(xy s.B s.L o.2.1 o.2.2.2.2.2.1 false,0,0,⟨#[]⟩,false,0,bM,bM,bM,bM,bM)) (f.get0 (i.get b2 fun e=>by have:=hM _ e;omega)) fun m j=>x m ?_ ?_
 ·exact((d.wide.tr i).tr f.wide).trans j fun y g=>.inr (by have g:y=A.size:=g;omega)
 ·exact((z.upd0 f).own hM j q D).dn p
theorem Oz(v:VaultAt W h vp s){yb:Nat}(f:h[yb]? =some (.cells (QG o).toArray eO (0,0))) {B:TD} (i:TreeIs W h s.kind s.x B.1 B.2) {N:Nat} (E:N≤900) (q:Few N B.2) (D:o.2.2.2.1.size≤30) (A:o.2.2.2.2.1.size≤30) {K:Tr×Int→ac→Prop} (w:∀h' g,TreeIs W h' s.kind s.x g (jb (o.2.2.2.1,o.2.2.2.2.1) B.2)→Upd No h h'→K (g,0) h'):
  HC PG gC [GO B.1,.pointer (some ⟨yb,0,none⟩)] [.agg [.int .i64,.int .u64,.int .u64,.int .u64,.ptr,.ptr],.c (.int .i64)] K h:=by
 refine xB B.1 ⟨yb,0,none⟩ ?_;unfold qV ag ad cT af rE rl CL cG nU;refine bc fun u b1 k1=>bc fun z b2 m=>?_
 have c1:=m.get0 b1;have p:=m.get0 (k1.get0 f);have e:=k1.tr m;have t:=k1.size;have C:=aL b2;refine⟨_,vc c1 0,_,vc c1 1,_,vc c1 2,_,vc c1 3,_,vc c1 4,_,vc c1 5,_,vc p 3,_,vc p 4,?_⟩;refine Mg (i.pro e) (Pro.lt v.g.lt e) q.up (by have:=q.len;omega) (o.2.2.2.1,o.2.2.2.2.1) (by simp only;omega) (by simp only;omega) fun x g n _ d=>cU (c:=jA sQ) (vs:=jA g) (d.get0 b2) rfl fun k b j=>?_
 refine⟨_,vc b 0,_,vc b 1,_,vc b 2,_,vc b 3,_,vc b 4,_,vc b 5,w k g ?_ ((e.tr d).own j t)⟩;exact(n.updM j fun y f=>.inl (.inr (by have f:y=u.size:=f;omega))).less fun y f=>.inl (.inl f)
theorem L5{n:ByteArray}{d:TD}{ps:List Int}{id:Int}(h:(kJ s.L s.nx ps).1=(id,0)):(yl s n d ps).1=(id,0):=by
 unfold yl;rw[h,if_neg (by simp)]
theorem AK{n:ByteArray}{d:TD}{ps:List Int}:∀y,(yl s n d ps).2.M y↔s.M y:=fun y=>by unfold yl;split<;>rfl
theorem Jp(v:VaultAt W h vp s)(b:h[sp]? =some (.cells (Mm vp sm last pool).toArray dQ (0,0))) {yb:Nat} (cy:h[yb]? =some (.cells (QG o).toArray eO (0,0))) (hsp:¬s.M sp) {hd:Int} (Z:cz s.B o.2.1=some hd) (hh:hd=0∨hd∈ids s.L) {N:Nat} (hN:N≤900) (hF:∀B,BaseOf s hd B→Few N B.2) (O:o.2.2.2.1.size≤30) (P:o.2.2.2.2.1.size≤30) {id:Int} (E:(kJ s.L s.nx (nz [hd])).1=(id,0)) {K:An→ac→Prop}
  (hk:∀h' B q,BaseOf s hd B→Upd s.M h h'→VaultAt W h' vp (yl s o.2.1 (q,jb (o.2.2.2.1,o.2.2.2.2.1) B.2) (nz [hd])).2→K (0,id,0,⟨#[]⟩,false,0,bM,bM,bM,bM,bM) h'):
  HC PG mW [.pointer (some ⟨sp,0,none⟩),E4 o,.func (.func gC) #[] #[.pointer (some ⟨yb,0,none⟩)]] Bj K h:=by
 have Y:=v.w;have H:=v.g.lt;have hM:∀y,s.M y→y<h.size:=fun y f=>H y (Y y f)
 refine yR (some ⟨sp,0,none⟩) o (.func (.func gC) #[] #[.pointer (some ⟨yb,0,none⟩)]) ?_;unfold su ag ad cT nv xg xi cp aw cI aF GC bJ af GH rE rl CL P3 rj QW;refine bc fun U b3 L=>bc fun h4 T R=>?_
 have g:=L.tr R;have s3:=L.size;have z4:=aL T;have z3:=aL b3;have Q:=R.get0 b3;refine⟨_,rfl,_,vc (g.get0 b) 0,_,vc Q 1,GL (v.upd0 g) o.2.1 ?_⟩;rw[Z];refine aq.2 ⟨_,rfl,_,vc (g.get0 b) 0,AM (v.upd0 g) hh fun B G I V=>?_⟩
 refine bc fun h6 b6 k6=>cU (c:=jA sQ) (vs:=jA B.1) b6 rfl fun C j u7=>?_
 have s5:=V.size;have i:Upd No h4 C:=(V.tr k6).own u7 s5;have m:=g.tr i;have s7:=i.size;have z7:=aL j;have X:=hF B G;have F:=v.pro m;have S:Few (N+1) (jb (o.2.2.2.1,o.2.2.2.2.1) B.2):=X.ins _ O P;refine⟨_,vc j 0,_,vc j 1,_,vc j 2,_,vc j 3,_,vc j 4,_,vc j 5,HV.mk' ?_⟩;refine Oz (o:=o) F (m.get0 cy) (G.is F) hN X O P fun h8 q i8 t=>?_
 refine cU (c:=jA B.1) (vs:=jA q) (t.get0 j) rfl fun x p z=>aq.2 ?_
 have n:h.size≤I.size∧I.size<C.size:=by omega
 have w:Upd No h x:=(m.tr t).own z n.1;have v9:VaultAt (Pro W h C) x vp s:=(F.upd0 t).own hM z n.1 n.2;have i9:TreeIs (Pro W h C) x s.kind s.x q (jb (o.2.2.2.1,o.2.2.2.2.1) B.2):=i8.updM z fun y f=>.inl (.inr (by have f:y=I.size:=f;omega))
 have c9:x[h.size]? =some (.cells (QG o).toArray eO (0,0)):=z.oth (t.get0 (i.get0 Q)) (by omega);refine⟨_,rfl,_,vc (w.get0 b) 0,_,vc c9 1,_,vc p 0,_,vc p 1,_,vc p 2,_,vc p 3,_,vc p 4,_,vc p 5,?_⟩;refine Ih v9 o.2.1 Z (d:=(q,jb (o.2.2.2.1,o.2.2.2.2.1) B.2)) i9 S.up S.fits fun h10 A D=>?_
 rw[L5 E];refine MP fun h11 k=>?_
 have nM:∀y,h.size≤y→¬s.M y:=fun y f e=>by have:=hM y e;omega
 have d9:x[U.size]? =some (.cells (Fv zd).toArray bj (0,0)):=z.oth (t.get0 (i.get0 T)) (by omega);refine pL (c:=zd) (e:=(0,id,0,⟨#[]⟩,false,0,bM,bM,bM,bM,bM)) (k.get0 (A.get d9 (nM _ (by omega)))) fun J u=>hk J B q G ?_ ?_
 ·exact((w.wide.tr A).tr k.wide).trans u fun y f=>.inr (by have f:y=U.size:=f;omega)
 ·exact((D.upd0 k).own (fun y f=>hM y ((AK y).1 f)) u (by omega) (by omega)).dn fun y f=>Y y ((AK y).1 f)
theorem Mj(v:VaultAt W h vp s)(b:h[sp]? =some (.cells (Mm vp sm last pool).toArray dQ (0,0))) (g:¬s.M sp) {hd:Int} (I:cz s.B o.2.1=some hd) (x:hd=0∨hd∈ids s.L) {N:Nat} (E:N≤900) (A:∀B,BaseOf s hd B→Few N B.2) (w:o.2.2.2.1.size≤30) (u:o.2.2.2.2.1.size≤30) {id:Int} (j:(kJ s.L s.nx (nz [hd])).1=(id,0)) {K:An→ac→Prop}
  (C:∀h' B i,BaseOf s hd B→Upd s.M h h'→VaultAt W h' vp (yl s o.2.1 (i,jb (o.2.2.2.1,o.2.2.2.2.1) B.2) (nz [hd])).2→K (0,id,0,⟨#[]⟩,false,0,bM,bM,bM,bM,bM) h'):
  HC PG kj [.pointer (some ⟨sp,0,none⟩),E4 o] Bj K h:=by
 have q:=v.w;have k:=v.g.lt;have hM:∀y,s.M y→y<h.size:=fun y d=>k y (q y d)
 refine Ad (some ⟨sp,0,none⟩) o ?_;unfold tB ag cT xg xi cp aw cI aF GC Pi;refine bc fun D b1 k1=>bc fun J b2 m=>?_
 have f:=k1.tr m;have c1:=m.get0 b1;have t:=k1.size;have z:=aL b2;refine Ow (o:=o) c1 (Jp (v.pro f) (f.get0 b) c1 g I x E A w u j fun L B i G n H=>?_)
 refine pL (c:=zd) (e:=(0,id,0,⟨#[]⟩,false,0,bM,bM,bM,bM,bM)) (n.get b2 fun e=>by have:=hM _ e;omega) fun F p=>C F B i G ((f.wide.tr n).trans p fun y d=>.inr (by have d:y=D.size:=d;omega)) ?_
 exact(H.own (fun y d=>hM y ((AK y).1 d)) p t z).dn fun y d=>q y ((AK y).1 d)
end
end Go.Proofs
