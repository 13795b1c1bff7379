/- A part of the proof that the named laws of this program answer true, whatever the input. -/
import Derived.Test.YtfmnhpbjeapjaaaGreatPart6
import Derived.Test.YtfmnhpbjeapjaaaGreatTreeF0
import Derived.Test.YtfmnhpbjeapjaaaGreatTreeF1
import Derived.Test.YtfmnhpbjeapjaaaGreatTreeF2
import Derived.Test.YtfmnhpbjeapjaaaGreatPart0
import Derived.Conc.LoneSelect
import Derived.KernelRfl
import Derived.Laws.Rows
import Derived.Test.YtfmnhpbjeapjaaaGreatPart1
open BitVec renaming ofInt→aj
open ByteArray renaming mk→r6
open Int renaming tmod→fA
open List renaming range→dH,getElem?_eq_getElem→ag
open List.Pairwise renaming nil→dC
open Nat renaming lt_or_ge→cd,le_refl→aq,lt_of_lt_of_le→aG
open Option renaming some→bE
namespace Go.Proofs
open Go Go.Lift Go.Sort
variable {dec:Int→Ch} {M:Nat→Prop} {s:SliceV} {h:ac} {d:Array Int}
@[simp] theorem Aw(lt:Int→Int→Bool):∀(j:Nat) (d:Array Int),(shiftDown lt j d).size=d.size
 |0,d=>rfl
 |j+1,d=>by rw[shiftDown];split;rfl;rw[Aw lt j];simp
@[simp] theorem Mi(lt:Int→Int→Bool)(e j:Nat)(d:Array Int):(shiftUp lt e j d).size=d.size:=by
 fun_induction shiftUp lt e j d<;>simp_all
theorem L2{a e:Nat}(hs:SA dec M s h d)(ha:a<e)(he:e≤d.size){K:Bool→ac→Prop}(T:∀h',SA dec M s h' (partialInsertionSort (xY dec) d a e).1→Upd M h h'→K (partialInsertionSort (xY dec) d a e).2 h'):
  HC PG el [.slice s.a s.len s.cap,.int .i64 a,.int .i64 e,LA] [.c .bool] K h:=by
 refine gS s a e LA ?_;unfold eo bB dw bD rc eh mB BU zy;have hsm:=hs.small;refine LoopP.ghost (fun(g:Nat×Nat×Array Int) (t:Int×Int) h'=>t.1=(g.2.1:Int)∧t.2=5-(g.1:Int)∧SA dec M s h' g.2.2∧g.2.2.size=d.size∧partialIns (xY dec) a e g.1 g.2.1 g.2.2=partialInsertionSort (xY dec) d a e∧Upd M h h'∧g.1≤5∧a<g.2.1∧g.2.1≤e) (fun g=>g.1) (5,a+1,d)
  ⟨by simp only;rw[gi (by omega)];rfl,by simp only;omega,hs,rfl,rfl,Upd.refl _ _,by simp,by simp,by simp only;omega⟩ ?_
 rintro I ⟨st,i0,z⟩ ⟨t1,t2⟩ h1 ⟨ht1,ht2,G,Y,x,hu1,hst,X,hie⟩ hI;simp only at ht1 ht2 G Y x hst X hie;subst ht1 ht2;refine aE (fun hlt=>?_) fun hge=>?_
 ·obtain⟨st,rfl⟩:∃k,st=k+1:=⟨st-1,by have:5-(st:Int)<5:=hlt;omega⟩
  refine Join.intro (fun t h'=>∃Q d2,t=(Q:Nat)∧SA dec M s h' d2∧d2.size=d.size∧partialIns (xY dec) a e st Q d2=partialInsertionSort (xY dec) d a e∧Upd M h h'∧a<Q∧Q≤e) (fun R hR=>?_) ?_
  ·refine LoopP.ghost (fun(i:Nat) (t:Int) h'=>t=(i:Int)∧SA dec M s h' z∧Upd No h1 h'∧scanSorted (xY dec) z e i=scanSorted (xY dec) z e i0∧a<i∧i≤e) (fun i=>e-i) i0 ⟨rfl,G,Upd.refl _ _,rfl,X,hie⟩ ?_
   rintro I2 i t h' ⟨rfl,y,k2,V,f,n⟩ hI2;refine Join.intro (fun c D=>SA dec M s D z∧Upd No h' D∧(c=true↔i<e∧(xY dec) z[i]! z[i-1]! =false)) (fun R2 hR2=>?_) ?_
   ·refine aE (fun hle=>?_) fun hgt=>hR2 _ _ ⟨y,Upd.refl _ _,by simp;omega⟩
    exact y.less (i:=i) (j:=i-1) rfl (by rw[gi (by omega)];omega) (by omega) (by omega) fun B e3 p k3 he3=>hR2 _ _ ⟨p,k3,by rw[he3];simp;omega⟩
   ·rintro c D ⟨p,k3,hc⟩
    have w:=hu1.tr (k2.tr k3).wide;refine CondP.intro (fun h2=>?_) fun h2=>?_
    ·have hh:=hc.1 h2
     refine hI2 (i+1) _ _ ⟨by rw[gi (by omega)];rfl,p,k2.tr k3,?_,by omega,by omega⟩ (by omega)
     rw[←V];conv=>rhs;rw[scanSorted]
     rw[if_pos (by simp[hh])]
    ·have hsi:scanSorted (xY dec) z e i=i:=by
      rw[scanSorted,if_neg];intro hh;simp only[Bool.and_eq_true,decide_eq_true_iff,Bool.not_eq_eq_eq_not,Bool.not_true]at hh;rw[hc.2 hh]at h2;cases h2
     have b:=x;rw[partialIns]at b;simp only[←V,hsi]at b;refine CondP.intro (fun B=>?_) fun B=>?_
     ·have B:i=e:=by
       have:(i:Int)=e:=by simpa using B
       omega
      rw[if_pos B]at b;rw[←b]at T;exact T _ p w
     ·have B:i≠e:=fun e'=>by subst e';simp at B
      rw[if_neg B]at b;have we:IntKind.wrap .i64 ((e:Int)-(a:Int))=((e-a:Nat):Int):=by rw[gi (by omega)];omega
      show CondP (decide (IntKind.wrap .i64 ((e:Int)-(a:Int))<50)) _ _
      rw[we];refine aE (fun h4=>?_) fun h4=>?_
      ·rw[if_pos (by omega)]at b
       rw[←b]at T;exact T _ p w
      ·rw[if_neg (by omega)]at b
       have hi1:1≤i:=by omega
       refine p.swap (i:=i) (j:=i-1) rfl (by rw[gi (by omega)];omega) (by omega) (by omega) fun h5 L hu5=>?_
       have C:(swp z i (i-1)).size=d.size:=by simp[Y]
       generalize swp z i (i-1)=d5 at L C b;refine Join.intro (fun _ h'=>SA dec M s h' (if i-a≥2 then shiftDown (xY dec) (i-1) d5 else d5)∧Upd M h h') (fun R3 q=>?_) ?_
       ·have wi:IntKind.wrap .i64 ((i:Int)-(a:Int))=((i-a:Nat):Int):=by rw[gi (by omega)];omega
        show CondP (decide (IntKind.wrap .i64 ((i:Int)-(a:Int))≥2)) _ _
        rw[wi];refine aE (fun h6=>?_) fun h6=>?_
        ·rw[if_pos (by omega)]at q
         refine LoopP.ghost (fun(g:Nat×Array Int) (t:Int) h'=>t=(g.1:Int)∧SA dec M s h' g.2∧g.2.size=d.size∧shiftDown (xY dec) g.1 g.2=shiftDown (xY dec) (i-1) d5∧Upd M h h'∧g.1<e) (fun g=>g.1) (i-1,d5)
          ⟨by rw[gi (by omega)];simp only;omega,L,C,rfl,w.tr hu5,by simp only;omega⟩ ?_
         rintro I4 ⟨j,d6⟩ t h7 ⟨W,J,hz7,o,U,N⟩ F;simp only at W J hz7 o N;subst W;refine aE (fun h8=>?_) fun h8=>?_
         ·obtain⟨j,rfl⟩:∃k,j=k+1:=⟨j-1,by omega⟩
          have S:IntKind.wrap .i64 (((j+1:Nat):Int)-1)=(j:Int):=by rw[gi (by omega)];omega
          rw[shiftDown]at o;refine J.less (i:=j+1) (j:=j) rfl S (by omega) (by omega) fun hL eL hsL kL P=>?_
          have u:=U.tr kL.wide;rw[P];refine CondP.intro (fun h9=>?_) fun h9=>?_
          ·rw[if_pos h9]at o
           exact q _ _ ⟨by rw[←o];exact hsL,u⟩
          ·rw[if_neg (by rw[h9];simp)]at o
           refine hsL.swap (i:=j+1) (j:=j) rfl S (by omega) (by omega) fun A hs10 hu10=>?_
           exact F (j,swp d6 (j+1) j) _ _ ⟨S,hs10,by simp[hz7],o,u.tr hu10,by simp only;omega⟩ (by simp)
         ·have:j=0:=by omega
          subst this;exact q _ _ ⟨by rw[←o];exact J,U⟩
        ·rw[if_neg (by omega)]at q
         exact q _ _ ⟨L,w.tr hu5⟩
       ·rintro _ h6 ⟨O,Z⟩
        have H:(if i-a≥2 then shiftDown (xY dec) (i-1) d5 else d5).size=d.size:=by split<;>simp[C]
        generalize (if i-a≥2 then shiftDown (xY dec) (i-1) d5 else d5)=d6 at O H b
        have wi:IntKind.wrap .i64 ((e:Int)-(i:Int))=((e-i:Nat):Int):=by rw[gi (by omega)];omega
        show CondP (decide (IntKind.wrap .i64 ((e:Int)-(i:Int))≥2)) _ _
        rw[wi];refine aE (fun h7=>?_) fun h7=>?_
        ·rw[if_pos (by omega)]at b
         refine LoopP.ghost (fun(g:Nat×Array Int) (t:Int) h'=>t=(g.1:Int)∧SA dec M s h' g.2∧g.2.size=d.size∧shiftUp (xY dec) e g.1 g.2=shiftUp (xY dec) e (i+1) d6∧Upd M h h'∧1≤g.1∧g.1≤e) (fun g=>e-g.1) (i+1,d6)
          ⟨by rw[gi (by omega)];rfl,O,H,rfl,Z,by simp,by simp only;omega⟩ ?_
         rintro I4 ⟨j,d7⟩ t h8 ⟨W,E,v,m,hu8,hj1,N⟩ F;simp only at W E v m hj1 N;subst W;refine aE (fun h9=>?_) fun h9=>?_
         ·have S:IntKind.wrap .i64 ((j:Int)-1)=((j-1:Nat):Int):=by rw[gi (by omega)];omega
          rw[shiftUp,if_pos (by omega)]at m;refine E.less (i:=j) (j:=j-1) rfl S (by omega) (by omega) fun hL eL hsL kL P=>?_
          have u:=hu8.tr kL.wide;rw[P];refine CondP.intro (fun A=>?_) fun A=>?_
          ·rw[if_pos A]at m
           exact hR _ _ ⟨i,d7,rfl,hsL,v,by rw[m];exact b,u,f,n⟩
          ·rw[if_neg (by rw[A];simp)]at m
           refine hsL.swap (i:=j) (j:=j-1) rfl S (by omega) (by omega) fun h11 hs11 hu11=>?_
           exact F (j+1,swp d7 j (j-1)) _ _ ⟨by rw[gi (by omega)];rfl,hs11,by simp[v],m,u.tr hu11,by simp,by simp only;omega⟩ (by simp only;omega)
         ·rw[shiftUp,if_neg (by omega)]at m
          exact hR _ _ ⟨i,d7,rfl,E,v,by rw[m];exact b,hu8,f,n⟩
        ·rw[if_neg (by omega)]at b
         exact hR _ _ ⟨i,d6,rfl,O,H,b,Z,f,n⟩
  ·rintro t h' ⟨Q,d2,rfl,y,hz2,b,hu2,f,n⟩
   exact hI (st,Q,d2) _ _ ⟨rfl,by simp only;rw[gi (by omega)];omega,y,hz2,b,hu2,by simp only;omega,f,n⟩ (by simp)
 ·have:st=0:=by have:¬5-(st:Int)<5:=hge;omega
  subst this;rw[partialIns]at x;rw[←x]at T;exact T _ G hu1
end Go.Proofs
namespace Go.Proofs
open Go Go.Lift Go.Sort
variable {dec:Int→Ch} {M:Nat→Prop} {s:SliceV} {h:ac} {d:Array Int}
theorem PA(x:Int):IntKind.wrap .u64 x=x%18446744073709551616:=by
 simp[IntKind.wrap,IntKind.bits,IntKind.signed]
theorem and_le_right(x:Int){m:Int}(a:0≤m)(hm:m<18446744073709551616):0≤IntKind.wrap .u64 ((aj (IntKind.bits .u64) x&&&aj (IntKind.bits .u64) m).toNat:Int)∧IntKind.wrap .u64 ((aj (IntKind.bits .u64) x&&&aj (IntKind.bits .u64) m).toNat:Int)≤m:=by
 have c:(aj (IntKind.bits .u64) x&&&aj (IntKind.bits .u64) m).toNat≤(aj (IntKind.bits .u64) m).toNat:=by
  rw[BitVec.toNat_and];exact Nat.and_le_right
 have b:((aj (IntKind.bits .u64) m).toNat:Int)=m:=by
  show((aj 64 m).toNat:Int)=m
  rw[BitVec.toNat_ofInt];have:m%((2^64:Nat):Int)=m:=Int.emod_eq_of_lt a (by omega);rw[this];omega
 rw[PA];omega
end Go.Proofs
namespace Go.Proofs
open Go Go.Lift Go.Sort
variable {dec:Int→Ch} {M:Nat→Prop} {s:SliceV} {h:ac} {d:Array Int}
end Go.Proofs
namespace Go.Proofs
open Go Go.Lift
end Go.Proofs
namespace Go.Proofs
open Go Go.Lift
theorem Few.mono{n m:Nat}{L:List Pr}(f:Few n L)(h:n≤m):Few m L:=⟨f.up,Nat.le_trans f.len h,f.fit⟩
end Go.Proofs
namespace Go.Proofs
open Go Go.Lift
theorem E2{W:Nat→Prop}{h:ac}{b:Nat}{l:List Pr}(t:RadAt W h b l)(hW:∀y,W y→y<h.size)(hr:di l)(k:ByteArray){K:ByteArray×Bool→ac→Prop}
  (V:∀h',Upd No h h'→K ((look l k).getD ⟨#[]⟩,(look l k).isSome) h'):HC PG tf [.pointer (some ⟨b,0,none⟩),.string k] [.c .str,.c .bool] K h:=by
 refine F3 (some ⟨b,0,none⟩) k ?_;unfold zn bB dw bD kB bW Du;refine CF (.inr ⟨b,rfl,t⟩) hW fun h2 b2 t2 Y _=>?_
 obtain⟨w,F,r1,r2,r3⟩:=t2.ex;have d:∀v,zg w F k.data.toList v↔look l k=some v:=fun v=>by
  rw[←po,r3];constructor
  ·rintro⟨p,Z,e1,rfl⟩
   rw[←rU.1 e1];exact xZ hr Z
  ·intro Z;exact⟨_,Fm Z,rfl,rfl⟩
 refine LoopP.ghost (fun(g:ByteArray×Nat×ByteArray×Option ByteArray×Fo) (t:ByteArray×Option Addr) h'=>t=(g.1,some ⟨g.2.1,0,none⟩)∧RxN W h' g.2.1 g.2.2.1 g.2.2.2.1 g.2.2.2.2∧jb g.2.2.2.2∧(∀v,zg g.2.2.2.1 g.2.2.2.2 g.1.data.toList v↔look l k=some v)∧Upd No h h') (fun g=>g.1.size) (k,b2,⟨#[]⟩,w,F) ⟨rfl,r1,r2,d,Y⟩ ?_
 clear d r1 r2 r3 t2;rintro I ⟨D,c,sl,w,F⟩ t h5 ⟨rfl,r,hc,d,hu⟩ hI;simp only at r hc d;simp only[gC];by_cases J:D=⟨#[]⟩
 ·subst J
  refine ak.2 (EV r ?_);have e:look l k=w:=Option.ext fun v=>by
   rw[←d v];constructor
   ·rintro(⟨_,h⟩|h)
    ·exact h
    ·exact absurd rfl (vh hc h)
   ·intro h;exact .inl ⟨rfl,h⟩
  rw[e]at V;exact V _ hu
 ·rw[decide_eq_false J]
  refine aB.2 ?_;have u:D.data.toList≠[]:=fun e=>J (by cases D;exact congrArg r6 (Array.toList_inj.1 e))
  obtain⟨c0,X,Q⟩:=Hm u;refine⟨c0,Int.le_refl _,X,?_⟩;have hr0:=r;obtain⟨val,s,ow,ks,hb,_,hs,hcap,hF⟩:=r;have hL:=oU.1 hF;have E:=fS.1 hc;have o:(∀v,¬xD F D.data.toList v)→K ((⟨#[]⟩:ByteArray),false) h5:=fun z=>by
   have e:look l k=none:=by
    cases e:look l k with
    |none=>rfl
    |some v=>
     rcases(d v).2 e with⟨h,_⟩|h
     ·exact absurd h u
     ·exact absurd h (z v)
   rw[e]at V;exact V _ hu
  refine CG hr0 hc (c:=c0.toNat) (UInt8.toNat_lt _) fun i ok hil R N L=>?_
  rw[Q]at R N L;cases ok with
  |false=>
   refine aB.2 (o fun v d=>?_)
   obtain⟨n',G,e,_⟩:=vi hc d;obtain⟨j,U,rfl⟩:=List.getElem_of_mem G;rcases cd j i with hl|hl
   ·have:=R j U hl;omega
   ·have h1:=N j U hl
    have h2:=N i (by omega) (aq _);rcases cd i j with P|P
    ·have h3:=List.pairwise_iff_getElem.1 E.1 i j (by omega) U P
     omega
    ·have:i=j:=by omega
     subst this;have:=L.2 ⟨U,e⟩;cases this
  |true=>
   obtain⟨hi,T⟩:=L.1 rfl;refine ak.2 ⟨_,rfl,s,gO (i:=3) hb,?_⟩;obtain⟨kb,S,hki,B,C⟩:=hL.at hi;have q:F.toL[i]∈F.toL:=List.getElem_mem hi;have A:=E.2 _ q;obtain⟨a,ha,_,hvv⟩:=hs.at0 hki;have H:=hs.len;rw[hL.1]at H;have f:∀v,xD F D.data.toList v↔BQ F.toL[i] D.data.toList v:=fun v=>by
    constructor
    ·intro d
     obtain⟨n',G,e,hN⟩:=vi hc d;rw[←Eb hc G q (by omega)];exact hN
    ·intro d;exact j4.2 ⟨_,q,d⟩
   refine⟨⟨by simp only;omega,by simp only;omega⟩,a,ha,some ⟨kb,0,none⟩,hvv,_,rfl,?_⟩
   obtain⟨kval,kss,kow,kks,O,_⟩:=id C;generalize F.toL[i]=m at B C A f T;obtain⟨lab,wk,Fk⟩:=m;simp only at B C A T O;refine⟨S,gO (i:=0) O,N8 (fun x n=>?_) fun z=>?_⟩
   ·rw[B]at n
    have hlne:lab.length≠0:=fun e=>A.1 (List.length_eq_zero_iff.1 e)
    have hrl:x.size<D.size:=by
     rw[←pe x,←pe D,n,List.length_append];omega
    refine ak.2 (hI (x,kb,S,wk,Fk) _ _ ⟨rfl,C,A.2.2,fun v=>?_,hu⟩ hrl)
    rw[←d v];constructor
    ·intro h;exact .inr ((f v).2 ⟨_,n,h⟩)
    ·rintro(⟨h,_⟩|h)
     ·exact absurd h u
     ·obtain⟨r',e,hr'⟩:=(f v).1 h
      simp only at e;rw[n]at e;rw[List.append_cancel_left e];exact hr'
   ·rw[B]at z
    refine aB.2 (o fun v h=>?_)
    obtain⟨r',e,_⟩:=(f v).1 h;exact z r' e
theorem Mf{W:Nat→Prop}{x:Hs}{h:ac}{kind:Int}{t:Tr}{l:List Pr}(i:TreeIs W h kind x t l)(e:∀y,W y→y<h.size)(f:di l)(m:l.length≤1000000)(k:ByteArray){K:Sd→ac→Prop}(g:∀h',Upd No h h'→K ((look l k).getD ⟨#[]⟩,(look l k).isSome) h'):HC PG oe [H9 t,.string k] [.c .str,.c .bool] K h:=by
 refine zH t k ?_;unfold sg av Cy ai ug gr oT;rcases i with⟨_,b,rfl,t⟩|⟨_,b,rfl,t⟩
 ·refine bA fun j b1 k1=>⟨_,vc b1 0,ak.2 ⟨_,wa b1 1 0,_,wa b1 1 1,_,wa b1 1 2,_,vc b1 4,?_⟩⟩
  exact FQ (TrieAt.upd0 k1 t) (fun y d=>aG (e y d) k1.size) f m k fun c a=>g c (k1.tr a)
 ·refine bA fun j b1 k1=>⟨_,vc b1 0,aB.2 ⟨_,vc b1 5,?_⟩⟩
  exact E2 (t.upd0 k1) (fun y d=>aG (e y d) k1.size) f k fun c a=>g c (k1.tr a)
end Go.Proofs
namespace Go.Proofs
open Go Go.Lift
end Go.Proofs
namespace Go.Proofs
open Go Go.Lift
def BaseOf(s:VS)(a:Int)(B:TD):Prop:=(a=0∧B=(s.e,[]))∨(a≠0∧dh s.D a=some B)
section
variable {W:Nat→Prop} {h:ac} {vp:Nat} {s:VS}
theorem Cz(v:VaultAt W h vp s){id:Int}(hi:id=0∨id∈ids s.L){K:Tr×Int→ac→Prop}(a:∀B,BaseOf s id B→∀h',Upd No h h'→K (B.1,0) h'):HC PG gu [pV vp,.int .u32 id] [.agg [.int .i64,.int .u64,.int .u64,.int .u64,.ptr,.ptr],.c (.int .i64)] K h:=
 Kq v id (fun e h' k=>a (s.e,[]) (.inl ⟨e,rfl⟩) h' k) (fun d hd e h' k=>a d (.inr ⟨e,hd⟩) h' k) fun hd e=>absurd ((v.sub id).2 (hi.resolve_left e)) (mR.1 hd)
end
end Go.Proofs
namespace Go.Proofs
open Go Go.Lift
abbrev du:SliceV:=⟨none,0,0⟩
abbrev An:=Int×Int×Int×ByteArray×Bool×Int×SliceV×SliceV×SliceV×SliceV×SliceV
abbrev Ei:An:=(0,0,0,⟨#[]⟩,false,0,du,du,du,du,du)
abbrev Ey(e:An):List Value:= [.int .i64 e.1,.int .u32 e.2.1,.int .i64 e.2.2.1,.string e.2.2.2.1,.bool e.2.2.2.2.1,.int .i64 e.2.2.2.2.2.1,.slice e.2.2.2.2.2.2.1.a e.2.2.2.2.2.2.1.len e.2.2.2.2.2.2.1.cap,.slice e.2.2.2.2.2.2.2.1.a e.2.2.2.2.2.2.2.1.len e.2.2.2.2.2.2.2.1.cap,.slice e.2.2.2.2.2.2.2.2.1.a e.2.2.2.2.2.2.2.2.1.len e.2.2.2.2.2.2.2.2.1.cap,.slice e.2.2.2.2.2.2.2.2.2.1.a e.2.2.2.2.2.2.2.2.2.1.len e.2.2.2.2.2.2.2.2.2.1.cap,.slice e.2.2.2.2.2.2.2.2.2.2.a e.2.2.2.2.2.2.2.2.2.2.len e.2.2.2.2.2.2.2.2.2.2.cap]
abbrev Eh:List Kind:= [.agg [.int .i64,.int .u32,.int .i64,.str,.bool,.int .i64,.slice,.slice,.slice,.slice,.slice]]
abbrev Om:=Int×ByteArray×ByteArray×ByteArray×ByteArray×Int×Int×Int×Int×Bool×ByteArray×ByteArray×Bool×SliceV×SliceV
abbrev OZ(o:Om):List Value:= [.int .i64 o.1,.string o.2.1,.string o.2.2.1,.string o.2.2.2.1,.string o.2.2.2.2.1,.int .u32 o.2.2.2.2.2.1,.int .u32 o.2.2.2.2.2.2.1,.int .i64 o.2.2.2.2.2.2.2.1,.int .i64 o.2.2.2.2.2.2.2.2.1,.bool o.2.2.2.2.2.2.2.2.2.1,.string o.2.2.2.2.2.2.2.2.2.2.1,.string o.2.2.2.2.2.2.2.2.2.2.2.1,.bool o.2.2.2.2.2.2.2.2.2.2.2.2.1,.slice o.2.2.2.2.2.2.2.2.2.2.2.2.2.1.a o.2.2.2.2.2.2.2.2.2.2.2.2.2.1.len o.2.2.2.2.2.2.2.2.2.2.2.2.2.1.cap,.slice o.2.2.2.2.2.2.2.2.2.2.2.2.2.2.a o.2.2.2.2.2.2.2.2.2.2.2.2.2.2.len o.2.2.2.2.2.2.2.2.2.2.2.2.2.2.cap]
abbrev Kb(o:Om):Value:=.agg #[.int .i64 o.1,.string o.2.1,.string o.2.2.1,.string o.2.2.2.1,.string o.2.2.2.2.1,.int .u32 o.2.2.2.2.2.1,.int .u32 o.2.2.2.2.2.2.1,.int .i64 o.2.2.2.2.2.2.2.1,.int .i64 o.2.2.2.2.2.2.2.2.1,.bool o.2.2.2.2.2.2.2.2.2.1,.string o.2.2.2.2.2.2.2.2.2.2.1,.string o.2.2.2.2.2.2.2.2.2.2.2.1,.bool o.2.2.2.2.2.2.2.2.2.2.2.2.1,.slice o.2.2.2.2.2.2.2.2.2.2.2.2.2.1.a o.2.2.2.2.2.2.2.2.2.2.2.2.2.1.len o.2.2.2.2.2.2.2.2.2.2.2.2.2.1.cap,.slice o.2.2.2.2.2.2.2.2.2.2.2.2.2.2.a o.2.2.2.2.2.2.2.2.2.2.2.2.2.2.len o.2.2.2.2.2.2.2.2.2.2.2.2.2.2.cap]
theorem r7{h:ac}{b:Nat}{c e:An}{K:An→ac→Prop}(d:h[b]? =some (.cells (Ey c).toArray bS (0,0))) (a:∀h',Upd (· =b) h h'→K e h'):
  rk h (some ⟨b,0,none⟩) 0 (Ey e)∧At (ie h ⟨b,0,none⟩ 0 (Ey e)) (fun h'=>∃v0:Int,aF h' (adr ⟨b,0,none⟩ 0)=some (.int .i64 v0)∧∃v1:Int,aF h' (adr ⟨b,0,none⟩ 1)=some (.int .u32 v1)∧∃v2:Int,aF h' (adr ⟨b,0,none⟩ 2)=some (.int .i64 v2)∧∃v3:ByteArray,aF h' (adr ⟨b,0,none⟩ 3)=some (.string v3)∧∃v4:Bool,aF h' (adr ⟨b,0,none⟩ 4)=some (.bool v4)∧∃v5:Int,aF h' (adr ⟨b,0,none⟩ 5)=some (.int .i64 v5)∧∃v6:SliceV,aF h' (adr ⟨b,0,none⟩ 6)=some (.slice v6.a v6.len v6.cap)∧∃v7:SliceV,aF h' (adr ⟨b,0,none⟩ 7)=some (.slice v7.a v7.len v7.cap)∧∃v8:SliceV,aF h' (adr ⟨b,0,none⟩ 8)=some (.slice v8.a v8.len v8.cap)∧∃v9:SliceV,aF h' (adr ⟨b,0,none⟩ 9)=some (.slice v9.a v9.len v9.cap)∧∃v10:SliceV,aF h' (adr ⟨b,0,none⟩ 10)=some (.slice v10.a v10.len v10.cap)∧K (v0,v1,v2,v3,v4,v5,v6,v7,v8,v9,v10) h'):=by
 refine dW (c:=Ey c) (vs:=Ey e) d rfl fun h' b' u=>?_
 exact⟨e.1,vc b' 0,e.2.1,vc b' 1,e.2.2.1,vc b' 2,e.2.2.2.1,vc b' 3,e.2.2.2.2.1,vc b' 4,e.2.2.2.2.2.1,vc b' 5,e.2.2.2.2.2.2.1,vc b' 6,e.2.2.2.2.2.2.2.1,vc b' 7,e.2.2.2.2.2.2.2.2.1,vc b' 8,e.2.2.2.2.2.2.2.2.2.1,vc b' 9,e.2.2.2.2.2.2.2.2.2.2,vc b' 10,a h' u⟩
theorem ON{h:ac}{b:Nat}{o:Om}{P:Int→ByteArray→ByteArray→ByteArray→ByteArray→Int→Int→Int→Int→Bool→ByteArray→ByteArray→Bool→SliceV→SliceV→Prop}(a:h[b]? =some (.cells (OZ o).toArray gq (0,0))) (c:P (o.1) (o.2.1) (o.2.2.1) (o.2.2.2.1) (o.2.2.2.2.1) (o.2.2.2.2.2.1) (o.2.2.2.2.2.2.1) (o.2.2.2.2.2.2.2.1) (o.2.2.2.2.2.2.2.2.1) (o.2.2.2.2.2.2.2.2.2.1) (o.2.2.2.2.2.2.2.2.2.2.1) (o.2.2.2.2.2.2.2.2.2.2.2.1) (o.2.2.2.2.2.2.2.2.2.2.2.2.1) (o.2.2.2.2.2.2.2.2.2.2.2.2.2.1) (o.2.2.2.2.2.2.2.2.2.2.2.2.2.2)):
  ∃v0:Int,aF h (adr ⟨b,0,none⟩ 0)=some (.int .i64 v0)∧∃v1:ByteArray,aF h (adr ⟨b,0,none⟩ 1)=some (.string v1)∧∃v2:ByteArray,aF h (adr ⟨b,0,none⟩ 2)=some (.string v2)∧∃v3:ByteArray,aF h (adr ⟨b,0,none⟩ 3)=some (.string v3)∧∃v4:ByteArray,aF h (adr ⟨b,0,none⟩ 4)=some (.string v4)∧∃v5:Int,aF h (adr ⟨b,0,none⟩ 5)=some (.int .u32 v5)∧∃v6:Int,aF h (adr ⟨b,0,none⟩ 6)=some (.int .u32 v6)∧∃v7:Int,aF h (adr ⟨b,0,none⟩ 7)=some (.int .i64 v7)∧∃v8:Int,aF h (adr ⟨b,0,none⟩ 8)=some (.int .i64 v8)∧∃v9:Bool,aF h (adr ⟨b,0,none⟩ 9)=some (.bool v9)∧∃v10:ByteArray,aF h (adr ⟨b,0,none⟩ 10)=some (.string v10)∧∃v11:ByteArray,aF h (adr ⟨b,0,none⟩ 11)=some (.string v11)∧∃v12:Bool,aF h (adr ⟨b,0,none⟩ 12)=some (.bool v12)∧∃v13:SliceV,aF h (adr ⟨b,0,none⟩ 13)=some (.slice v13.a v13.len v13.cap)∧∃v14:SliceV,aF h (adr ⟨b,0,none⟩ 14)=some (.slice v14.a v14.len v14.cap)∧P v0 v1 v2 v3 v4 v5 v6 v7 v8 v9 v10 v11 v12 v13 v14:=
 ⟨o.1,vc a 0,o.2.1,vc a 1,o.2.2.1,vc a 2,o.2.2.2.1,vc a 3,o.2.2.2.2.1,vc a 4,o.2.2.2.2.2.1,vc a 5,o.2.2.2.2.2.2.1,vc a 6,o.2.2.2.2.2.2.2.1,vc a 7,o.2.2.2.2.2.2.2.2.1,vc a 8,o.2.2.2.2.2.2.2.2.2.1,vc a 9,o.2.2.2.2.2.2.2.2.2.2.1,vc a 10,o.2.2.2.2.2.2.2.2.2.2.2.1,vc a 11,o.2.2.2.2.2.2.2.2.2.2.2.2.1,vc a 12,o.2.2.2.2.2.2.2.2.2.2.2.2.2.1,vc a 13,o.2.2.2.2.2.2.2.2.2.2.2.2.2.2,vc a 14,c⟩
theorem VaultAt.pro{W:Nat→Prop}{h b:ac}{c:Nat}{s:VS}(v:VaultAt W h c s)(k:Upd No h b):VaultAt (Pro W h b) b c s:=
 v.re k (fun _ h=>h.elim) (fun y a=>⟨a.imp id fun e=>e.1,Pro.lt v.g.lt k y a⟩) fun y a=>.inl (v.w y a)
theorem VaultAt.dn{W:Nat→Prop}{d c h:ac}{b:Nat}{s:VS}(v:VaultAt (Pro W d c) h b s)(hM:∀y,s.M y→W y):VaultAt W h b s:=
 v.re (Upd.refl No h) (fun _ h=>h.elim) (fun y a=>⟨.inl (.inl a),v.g.lt y (.inl a)⟩) hM
theorem VaultAt.own{W:Nat→Prop}{a c h h':ac}{g b:Nat}{s:VS}(v:VaultAt (Pro W a c) h g s)(hM:∀y,s.M y→y<a.size)(u:Upd (· =b) h h')(i:a.size≤b)(f:b<c.size):VaultAt (Pro W a c) h' g s:=
 v.upd u fun y d=>by
  have d:y=b:=d;subst d;exact .inl ⟨.inr ⟨i,f⟩,fun e=>by have:=hM _ e;omega⟩
section
variable {h:ac}
theorem Jz{e:Int}{K:An→ac→Prop}(b:∀h',Upd No h h'→K (e,0,0,⟨#[]⟩,false,0,du,du,du,du,du) h'):HC PG eY [.int .i64 e] Eh K h:=by
 refine Bx e ?_;unfold tP av al aO nv uR dF cI;exact bA fun f b1 k1=>r7 (c:=Ei) (e:=(e,0,0,⟨#[]⟩,false,0,du,du,du,du,du)) b1 fun a d=>b a (k1.own d (aq _))
theorem K7{id:Int}{K:An→ac→Prop}(b:∀h',Upd No h h'→K (0,id,0,⟨#[]⟩,false,0,du,du,du,du,du) h'):HC PG qQ [.int .u32 id,.int .i64 0] Eh K h:=by
 refine Ci id 0 ?_;unfold uI av al aO eg uR wb dF cI;exact bA fun f b1 k1=>ak.2 (r7 (c:=Ei) (e:=(0,id,0,⟨#[]⟩,false,0,du,du,du,du,du)) b1 fun a d=>b a (k1.own d (aq _)))
theorem Ol{s:SliceV}{K:An→ac→Prop}(b:∀h',Upd No h h'→K (0,0,0,⟨#[]⟩,false,(s.len:Int),s,du,du,du,du) h'):HC PG tc [.slice s.a s.len s.cap] Eh K h:=by
 refine FY s ?_;unfold zj av al aO nv uR dF cI;exact bA fun f b1 k1=>r7 (c:=Ei) (e:=(0,0,0,⟨#[]⟩,false,(s.len:Int),s,du,du,du,du)) b1 fun a d=>b a (k1.own d (aq _))
end
abbrev ye(f:FuncId):Value:=.func (.func f) #[] #[]
abbrev Hb:List Value:= [ye g8,ye nD,ye qi,ye oz,ye jq,ye pD,ye pB,ye lY,ye oC,ye oA,ye jr,ye iR,ye pE,ye oB,ye oG,ye pC,ye oE,ye pA,ye nG,ye nH,ye oF,ye pz,ye nF,ye oD,ye py,ye lX]
theorem Lb{k:Nat}(i:k<26){v:Value}(f:Hb[k]? =some v) {h:ac} {K:Value→ac→Prop} (b:∀h',Upd No h h'→K v h'):HC PG qR [.int .i64 k] [.c .raw] K h:=by
 refine Cj k ?_;unfold uJ bB dw nv;refine bA fun g b1 k1=>dW (c:=List.replicate 26 .nilFunc) (vs:=Hb) b1 rfl fun d b2 a=>Join.plain (aE (fun e=>absurd e (by omega)) fun _=>?_)
 rw[show decide ((k:Int)≥(26:Int))=false from decide_eq_false (by omega)]
 refine ak.2 ⟨⟨by omega,by omega⟩,v,?_,b d (k1.own a (aq _))⟩
 have:=vc b2 k;rw[List.getElem?_toArray,f]at this;rw[show(k:Int).toNat*1=k by omega]
 exact this
end Go.Proofs
namespace Go.Proofs
open Go Go.Lift
theorem IE{sp k:Nat}{f:FuncId}{o:Om}(ek:o.1=(k:Int))(s:k<26)(v:Hb[k]? =some (ye f)) {h:ac} {K:An→ac→Prop}
  (hc:∀a b,Upd No h a→h.size≤b→b<a.size→HC PG f [.pointer (some ⟨sp,0,none⟩),Kb o] Eh (fun e h'=>∃M:Nat→Prop,Upd M a h'∧¬M b∧∀d,Upd (· =b) h' d→K e d) a):
  HC PG cA [.pointer (some ⟨sp,0,none⟩),Kb o] Eh K h:=by
 refine yz (some ⟨sp,0,none⟩) o ?_;unfold ru av al aO eg uR wb Ld dF cI J9 Pl;refine bA fun n b1 k1=>bA fun a b2 j=>ak.2 ?_
 have c1:=j.get0 b1;refine⟨_,vc c1 0,?_⟩;rw[ek];refine Lb s v fun d g=>⟨rfl,ak.2 (ON (o:=o) (g.get0 c1) (HV.mk' ?_))⟩
 have i:=(k1.tr j).tr g;have q:=k1.size;have x:=aW b2;have y:=g.size;refine(hc d n.size i q (by omega)).mono fun e z ⟨M,m,u,w⟩=>?_
 exact r7 (c:=Ei) (e:=e) (m.get (g.get0 b2) u) fun t p=>w t p
section
variable {W:Nat→Prop} {h:ac} {sp vp:Nat} {s:VS} {sm:Option Nat} {last:Int} {pool:Option Addr} {o:Om}
abbrev IY(c:Nat)(b:Option Nat)(last:Int)(a:Option Addr):List Value:= [.pointer (some ⟨c,0,none⟩),.map b,.int .i64 last,.pointer a]
theorem BaseOf.is(v:VaultAt W h vp s){id:Int}{B:TD}(a:BaseOf s id B):TreeIs W h s.kind s.x B.1 B.2:=by
 rcases a with⟨_,rfl⟩|⟨_,a⟩
 ·exact v.em
 ·exact(v.ts _ (FS a)).1
theorem EP(v:VaultAt W h vp s)(b:h[sp]? =some (.cells (IY vp sm last pool).toArray dB (0,0))) {K:An→ac→Prop} (x:∀h',Upd s.M h h'→VaultAt W h' vp {s with B:=if tC s.B s.L o.2.1 o.2.2.2.2.2.1 false=0 then ke s.B o.2.1 o.2.2.2.2.2.1 else s.B}→K (tC s.B s.L o.2.1 o.2.2.2.2.2.1 false,0,0,⟨#[]⟩,false,0,du,du,du,du,du) h'):
  HC PG g8 [.pointer (some ⟨sp,0,none⟩),Kb o] Eh K h:=by
 refine tI (some ⟨sp,0,none⟩) o ?_;unfold nQ av al aO eg uR wb dF cI J9 gt ND;refine bA fun q b1 k1=>bA fun C b2 m=>?_
 have a:=k1.tr m;have c1:=m.get0 b1;have n:=v.w;have j:=v.g.lt;have hM:∀y,s.M y→y<h.size:=fun y f=>j y (n y f)
 have u:=k1.size;have p:=aW b2;refine⟨_,rfl,_,vc (a.get0 b) 0,_,vc c1 1,_,vc c1 5,Gr (v.pro a) o.2.1 o.2.2.2.2.2.1 fun z A t=>Jz fun w d=>?_⟩
 have g:Upd s.M C z:=A.mono fun y f=>.inl (.inr (.inr (.inr (.inl f))))
 refine r7 (c:=Ei) (e:=(tC s.B s.L o.2.1 o.2.2.2.2.2.1 false,0,0,⟨#[]⟩,false,0,du,du,du,du,du)) (d.get0 (g.get b2 fun e=>by have:=hM _ e;omega)) fun k i=>x k ?_ ?_
 ·exact((a.wide.tr g).tr d.wide).trans i fun y f=>.inr (by have f:y=q.size:=f;omega)
 ·exact((t.upd0 d).own hM i u p).dn n
theorem Mp(v:VaultAt W h vp s){j:Nat}(e:h[j]? =some (.cells (OZ o).toArray gq (0,0))) {B:TD} (i:TreeIs W h s.kind s.x B.1 B.2) {N:Nat} (C:N≤900) (q:Few N B.2) (E:o.2.2.2.1.size≤30) (D:o.2.2.2.2.1.size≤30) {K:Tr×Int→ac→Prop} (u:∀h' f,TreeIs W h' s.kind s.x f (eX (o.2.2.2.1,o.2.2.2.2.1) B.2)→Upd No h h'→K (f,0) h'):
  HC PG f8 [H9 B.1,.pointer (some ⟨j,0,none⟩)] [.agg [.int .i64,.int .u64,.int .u64,.int .u64,.ptr,.ptr],.c (.int .i64)] K h:=by
 refine ui B.1 ⟨j,0,none⟩ ?_;unfold oJ av ae bD eg pf ai BP ug EF;refine bA fun x b1 k1=>bA fun A b2 n=>?_
 have c1:=n.get0 b1;have p:=n.get0 (k1.get0 e);have d:=k1.tr n;have t:=k1.size;have z:=aW b2;refine⟨_,vc c1 0,_,vc c1 1,_,vc c1 2,_,vc c1 3,_,vc c1 4,_,vc c1 5,_,vc p 3,_,vc p 4,?_⟩;refine KB (i.pro d) (Pro.lt v.g.lt d) q.up (by have:=q.len;omega) (o.2.2.2.1,o.2.2.2.2.1) (by simp only;omega) (by simp only;omega) fun w f k _ b=>dW (c:=sA Dw) (vs:=sA f) (b.get0 b2) rfl fun m a g=>?_
 refine⟨_,vc a 0,_,vc a 1,_,vc a 2,_,vc a 3,_,vc a 4,_,vc a 5,u m f ?_ ((d.tr b).own g t)⟩;exact(k.updM g fun y e=>.inl (.inr (by have e:y=x.size:=e;omega))).less fun y e=>.inl (.inl e)
theorem Kp{n:ByteArray}{d:TD}{ps:List Int}{id:Int}(h:(i5 s.L s.nx ps).1=(id,0)):(sy s n d ps).1=(id,0):=by
 unfold sy;rw[h,if_neg (by simp)]
theorem xH{n:ByteArray}{d:TD}{ps:List Int}:∀y,(sy s n d ps).2.M y↔s.M y:=fun y=>by unfold sy;split<;>rfl
theorem Ht(v:VaultAt W h vp s)(b:h[sp]? =some (.cells (IY vp sm last pool).toArray dB (0,0))) {C:Nat} (cy:h[C]? =some (.cells (OZ o).toArray gq (0,0))) (hsp:¬s.M sp) {hd:Int} (R:dh s.B o.2.1=some hd) (hh:hd=0∨hd∈ids s.L) {N:Nat} (hN:N≤900) (hF:∀B,BaseOf s hd B→Few N B.2) (L:o.2.2.2.1.size≤30) (X:o.2.2.2.2.1.size≤30) {id:Int} (D:(i5 s.L s.nx (nz [hd])).1=(id,0)) {K:An→ac→Prop}
  (hk:∀h' B n,BaseOf s hd B→Upd s.M h h'→VaultAt W h' vp (sy s o.2.1 (n,eX (o.2.2.2.1,o.2.2.2.2.1) B.2) (nz [hd])).2→K (0,id,0,⟨#[]⟩,false,0,du,du,du,du,du) h'):
  HC PG lu [.pointer (some ⟨sp,0,none⟩),Kb o,.func (.func f8) #[] #[.pointer (some ⟨C,0,none⟩)]] Eh K h:=by
 have O:=v.w;have I:=v.g.lt;have hM:∀y,s.M y→y<h.size:=fun y a=>I y (O y a)
 refine vJ (some ⟨sp,0,none⟩) o (.func (.func f8) #[] #[.pointer (some ⟨C,0,none⟩)]) ?_;unfold pO av ae al aO eg nv uR wb dF cI J9 ai BP ug NY gt IS oT EF OU;refine bA fun T b3 U=>bA fun h4 Z S=>?_
 have f:=U.tr S;have s3:=U.size;have z4:=aW Z;have z3:=aW b3;have Q:=S.get0 b3;refine⟨_,rfl,_,vc (f.get0 b) 0,_,vc Q 1,EI (v.upd0 f) o.2.1 ?_⟩;rw[R];refine ak.2 ⟨_,rfl,_,vc (f.get0 b) 0,Cz (v.upd0 f) hh fun B G F Y=>?_⟩
 refine bA fun h6 b6 k6=>dW (c:=sA Dw) (vs:=sA B.1) b6 rfl fun A i u7=>?_
 have s5:=Y.size;have g:Upd No h4 A:=(Y.tr k6).own u7 s5;have k:=f.tr g;have s7:=g.size;have z7:=aW i;have V:=hF B G;have J:=v.pro k;have P:Few (N+1) (eX (o.2.2.2.1,o.2.2.2.2.1) B.2):=V.ins _ L X;refine⟨_,vc i 0,_,vc i 1,_,vc i 2,_,vc i 3,_,vc i 4,_,vc i 5,HV.mk' ?_⟩;refine Mp (o:=o) J (k.get0 cy) (G.is J) hN V L X fun h8 n i8 u=>?_
 refine dW (c:=sA B.1) (vs:=sA n) (u.get0 i) rfl fun x p t=>ak.2 ?_
 have j:h.size≤F.size∧F.size<A.size:=by omega
 have q:Upd No h x:=(k.tr u).own t j.1;have v9:VaultAt (Pro W h A) x vp s:=(J.upd0 u).own hM t j.1 j.2;have i9:TreeIs (Pro W h A) x s.kind s.x n (eX (o.2.2.2.1,o.2.2.2.2.1) B.2):=i8.updM t fun y a=>.inl (.inr (by have a:y=F.size:=a;omega))
 have c9:x[h.size]? =some (.cells (OZ o).toArray gq (0,0)):=t.oth (u.get0 (g.get0 Q)) (by omega);refine⟨_,rfl,_,vc (q.get0 b) 0,_,vc c9 1,_,vc p 0,_,vc p 1,_,vc p 2,_,vc p 3,_,vc p 4,_,vc p 5,?_⟩;refine Gs v9 o.2.1 R (d:=(n,eX (o.2.2.2.1,o.2.2.2.2.1) B.2)) i9 P.up P.fits fun h10 z E=>?_
 rw[Kp D];refine K7 fun h11 m=>?_
 have nM:∀y,h.size≤y→¬s.M y:=fun y a e=>by have:=hM y e;omega
 have d9:x[T.size]? =some (.cells (Ey Ei).toArray bS (0,0)):=t.oth (u.get0 (g.get0 Z)) (by omega);refine r7 (c:=Ei) (e:=(0,id,0,⟨#[]⟩,false,0,du,du,du,du,du)) (m.get0 (z.get d9 (nM _ (by omega)))) fun H w=>hk H B n G ?_ ?_
 ·exact((q.wide.tr z).tr m.wide).trans w fun y a=>.inr (by have a:y=T.size:=a;omega)
 ·exact((E.upd0 m).own (fun y a=>hM y ((xH y).1 a)) w (by omega) (by omega)).dn fun y a=>O y ((xH y).1 a)
theorem KF(v:VaultAt W h vp s)(b:h[sp]? =some (.cells (IY vp sm last pool).toArray dB (0,0))) (f:¬s.M sp) {hd:Int} (w:dh s.B o.2.1=some hd) (hh:hd=0∨hd∈ids s.L) {N:Nat} (A:N≤900) (F:∀B,BaseOf s hd B→Few N B.2) (u:o.2.2.2.1.size≤30) (D:o.2.2.2.2.1.size≤30) {id:Int} (j:(i5 s.L s.nx (nz [hd])).1=(id,0)) {K:An→ac→Prop}
  (z:∀h' B g,BaseOf s hd B→Upd s.M h h'→VaultAt W h' vp (sy s o.2.1 (g,eX (o.2.2.2.1,o.2.2.2.2.1) B.2) (nz [hd])).2→K (0,id,0,⟨#[]⟩,false,0,du,du,du,du,du) h'):
  HC PG jq [.pointer (some ⟨sp,0,none⟩),Kb o] Eh K h:=by
 have k:=v.w;have i:=v.g.lt;have hM:∀y,s.M y→y<h.size:=fun y a=>i y (k y a)
 refine w8 (some ⟨sp,0,none⟩) o ?_;unfold qu av al aO eg uR wb dF cI J9 Pl;refine bA fun E b1 k1=>bA fun I b2 p=>?_
 have d:=k1.tr p;have c1:=p.get0 b1;have t:=k1.size;have q:=aW b2;refine ON (o:=o) c1 (Ht (v.pro d) (d.get0 b) c1 f w hh A F u D j fun H B g C m G=>?_)
 refine r7 (c:=Ei) (e:=(0,id,0,⟨#[]⟩,false,0,du,du,du,du,du)) (m.get b2 fun e=>by have:=hM _ e;omega) fun x n=>z x B g C ((d.wide.tr m).trans n fun y a=>.inr (by have a:y=E.size:=a;omega)) ?_
 exact(G.own (fun y a=>hM y ((xH y).1 a)) n t q).dn fun y a=>k y ((xH y).1 a)
end
end Go.Proofs
namespace Go.Proofs
open Go Go.Lift Go.Conc Go.RowKit
theorem MX{w:World}{b i:Nat}{c:Array Value}{t:TypeId}{v:Value}(h:w.heap[b]? =some (.cells c t (0,0))) (a:c[i]? =some v):w.cell? ⟨b,i,none⟩=some v:=by
 simp only[World.cell?,h];exact a
theorem mkc(w:World)(n:Nat)(h:n≤4096):(Instr.makeChan 109 (.int .i64 n)).run Tryz.prog w=.ok (.chan (some w.heap.size)) (w.alloc (.chan n #[] false 0 0 false)):=by
 have a:Tryz.prog.underlying 109=some (.chan .both 3):=by kernel_rfl
 have b:(Tryz.prog.info? 3).map (·.bytes)=some 8:=by kernel_rfl
 obtain⟨i,hi,c⟩:=Option.map_eq_some_iff.1 b;exact run_makeChan (P:=Tryz.prog) (w:=w) a hi .i64 n (by omega) (by rw[c];omega)
noncomputable abbrev zR:Code:=match Tryz.f13.body with|some (.seq _ (.seq _ (.seq _ (.seq (.seq _ (.block _ (.loop c))) _))))=>c|_=>.skip
noncomputable abbrev DW:Code:=match Tryz.f13.body with|some (.seq _ (.seq _ (.seq _ (.seq _ c))))=>c|_=>.skip
set_option maxRecDepth 100000 in
set_option maxHeartbeats 4000000 in
theorem K5{n pb t:Nat}{Q:Goroutine→World→Prop}{cs:List Frame}(O:n≤4096)(C:pb≠t):∀(m i:Nat) (v q p e k f b g o d:Value) (ids:List Value) (s r:Nat) (w:World),i+m=n→ids.length=i→w.heap[pb]? =some (.cells #[.chan (some t)] 111 (0,0))→w.heap[t]? =some (.chan n ids.toArray false s r false)→
  (∀(v q p e k f b g o d:Value) (a:List Value) (s' z:Nat) (w':World),a=ids++(dH m).map (fun j=>Value.int .i64 ((i+j:Nat)+1:Int))→(w'=w∨w'=w.setChan t n a.toArray false s' z false)→w'.heap[t]? =some (.chan n a.toArray false s' z false)→LoneTo Tryz.prog Q (G ((base 13).at ⟨#[.int .i64 n,undef,.pointer none,.int .i64 0,.pointer (some ⟨pb,0,none⟩),v,.int .i64 n,.bool false,.bool false,.int .i64 n,.bool false,.bool false,.int .i64 n,.chan (some t),.agg #[.chan (some t)],.pointer (some ⟨pb,0,none⟩),.int .i64 n,.int .i64 n,q,p,e,k,f,b,g,o,d,undef],[]⟩ [.code DW]) cs) w')→
  LoneTo Tryz.prog Q (G ((base 13).at ⟨#[.int .i64 n,undef,.pointer none,.int .i64 0,.pointer (some ⟨pb,0,none⟩),v,.int .i64 n,.bool false,.bool false,.int .i64 n,.bool false,.bool false,.int .i64 n,.chan (some t),.agg #[.chan (some t)],.pointer (some ⟨pb,0,none⟩),.int .i64 n,.int .i64 i,q,p,e,k,f,b,g,o,d,undef],[]⟩ [.code zR,.inLoop zR,.inBlock 0,.code DW]) cs) w:=by
 intro m;induction m with
 |zero=>
  intro i v q p e k f b g o d ids s r w u E A hc D;have u:i=n:=by omega
  subst u;have B:¬((i:Int)<(i:Int)):=by omega
  refine LoneTo.goes (n:=9) ?_;simp only[zR,Tryz.f13];s_c stepG_seq
  s_reg
  s_op
  s_c stepG_region_end
  s_c stepG_seq
  s_cond false
  s_exit
  s_stop
  exact D _ _ _ _ _ _ _ _ _ _ ids s r w (by simp) (.inl rfl) hc
 |succ m ih=>
  intro i v q p e k f b g o d ids s r w u E A hc D;have B:((i:Int)<(n:Int)):=by omega
  have aF:=MX A (i:=0) rfl;have K:IntKind.wrap .i64 ((i:Int)+1)=((i+1:Nat):Int):=by rw[gi (by omega)];omega
  refine LoneTo.goes (n:=21) ?_;simp only[zR,Tryz.f13];s_c stepG_seq
  s_reg
  s_op
  s_c stepG_region_end
  s_c stepG_seq
  s_cond true
  s_c stepG_skip
  s_c stepG_seq
  s_c stepG_block
  s_c stepG_seq
  s_reg
  s_op
  s_op
  s_c stepG_region_end
  s_reg
  s_op
  s_op
  s_op
  s_op
  s_op
  s_op
  s_stop
  refine LoneTo.step (step_lone_send_room (c:=t) (cap:=n) (buf:=ids.toArray) (s:=s) (r:=r) (tm:=false) (stepG_comm (cases:= #[scase t (.int .i64 ((i:Int)+1)) (.tuple #[])]) (blocking:=true) (shape:=.send) (w':=w) rfl rfl (by decide) (by simp[execOp,scase,Act.eval])) hc (by simp[E];omega)) ?_;rw[Frame.finish_at];walk_nrm
  have F:t<w.heap.size:=(Array.getElem?_eq_some_iff.1 hc).1;refine LoneTo.goes (n:=7) ?_;s_c stepG_region_end
  s_c stepG_inBlock
  s_reg
  s_op
  s_op
  s_c stepG_region_end
  s_c stepG_inLoop
  s_stop
  have J:((i:Int)+1)=((i+1:Nat):Int):=by omega
  rw[J];refine ih (i+1) _ _ _ _ _ _ _ _ _ _ (ids++ [Value.int .i64 ((i+1:Nat):Int)]) (s+1) r (w.setChan t n (ids++ [Value.int .i64 ((i+1:Nat):Int)]).toArray false (s+1) r false) (by omega) (by simp[E]) ?_ (heap_setChan _ _ _ _ _ _ _ _ F) fun v q p e k f b g o d a s' z w' I x y=>D v q p e k f b g o d a s' z w' ?_ (.inr ?_) y
  ·simp only[World.setChan,Array.getElem?_setIfInBounds]
   rw[if_neg (Ne.symm C)];exact A
  ·rw[I,List.range_succ_eq_map]
   simp[Nat.add_comm,Nat.add_left_comm,Function.comp_def]
  ·rcases x with x|x
   ·subst x
    rw[heap_setChan _ _ _ _ _ _ _ _ F]at y;simp only[bE.injEq,Obj.chan.injEq]at y;obtain⟨_,H,_,N,L,_⟩:=y;rw[H,N,L]
   ·rw[x];simp[World.setChan]
set_option maxRecDepth 100000 in
set_option maxHeartbeats 4000000 in
theorem K4{n:Nat}{w:World}(z:1≤n)(a:n≤4096):Calls Tryz.prog 13 #[.int .i64 n] w fun e w'=>e=.returned (.tuple #[.pointer (some ⟨w.heap.size+1,0,none⟩),.int .i64 0])∧∃(ids:List Value) (s r:Nat),ids=(dH n).map (fun j=>Value.int .i64 ((0+j:Nat)+1:Int))∧w'.heap[w.heap.size]? =some (.chan n ids.toArray false s r false)∧(w'=(w.alloc (.chan n #[] false 0 0 false)).alloc (.cells #[.chan (some w.heap.size)] 111 (0,0))∨w'=((w.alloc (.chan n #[] false 0 0 false)).alloc (.cells #[.chan (some w.heap.size)] 111 (0,0))).setChan w.heap.size n ids.toArray false s r false):=by
 refine calls_of_loneTo fun cs=>?_
 have e:Frame.enter Tryz.prog 13 #[.int .i64 n] .normal=(base 13).at ⟨#[.int .i64 n,undef,undef,undef,undef,undef,undef,undef,undef,undef,undef,undef,undef,undef,undef,undef,undef,undef,undef,undef,undef,undef,undef,undef,undef,undef,undef,undef],[]⟩ [.code (Tryz.f13.body.getD .skip)]:=by
  simp[Frame.enter,Frame.at,Tryz.func13,base,Tryz.f13]
 rw[e];have g:=fun w=>mkc w n a
 have c1:¬((n:Int)<1):=by omega
 have y:¬(4096<(n:Int)):=by omega
 refine LoneTo.goes (n:=33) ?_;simp only[Tryz.f13,Option.getD_some];s_c stepG_seq
 s_reg
 s_op
 s_op
 s_c stepG_region_end
 s_c stepG_seq
 s_c stepG_seq
 s_reg
 s_op
 s_op
 s_op
 s_op
 s_op
 s_op
 s_c stepG_region_end
 s_cond false
 s_c stepG_skip
 s_c stepG_seq
 s_reg
 s_op
 s_op
 s_op
 s_op
 s_op
 s_c stepG_region_end
 s_c stepG_seq
 s_c stepG_seq
 s_reg
 s_op
 s_op
 s_c stepG_region_end
 s_c stepG_block
 s_c stepG_loop
 s_stop
 have t:((w.alloc (.chan n #[] false 0 0 false)).alloc (.cells #[.chan (some w.heap.size)] 111 (0,0))).heap[w.heap.size+1]? =some (.cells #[.chan (some w.heap.size)] 111 (0,0)):=by
  have:=heap_alloc_new (w.alloc (.chan n #[] false 0 0 false)) (.cells #[.chan (some w.heap.size)] 111 (0,0));simpa using this
 have b:((w.alloc (.chan n #[] false 0 0 false)).alloc (.cells #[.chan (some w.heap.size)] 111 (0,0))).heap[w.heap.size]? =some (.chan n #[] false 0 0 false):=by
  show((w.heap.push (.chan n #[] false 0 0 false)).push (.cells #[.chan (some w.heap.size)] 111 (0,0)))[w.heap.size]? =_
  simp[Array.getElem?_push]
 refine K5 a (by omega) n 0 _ _ _ _ _ _ _ _ _ _ [] 0 0 _ (by omega) rfl t b fun A x v f q m c p u d ids s r w' o k i=>?_
 refine LoneTo.goes (n:=7) ?_;simp only[DW,Tryz.f13];s_c stepG_seq
 s_reg
 s_op
 s_op
 s_op
 s_c stepG_region_end
 s_c stepG_ret'
 s_stop
 refine LoneTo.done ⟨.returned (.tuple #[.pointer (some ⟨w.heap.size+1,0,none⟩),.int .i64 0]),_,rfl,⟨rfl,ids,s,r,by simpa[dH]using o,i,k⟩,rfl,rfl,rfl,rfl,_,Tryz.func13,by simp[results,Tryz.f13,Frame.at]⟩
section
variable {pb tb cb:Nat} {id:Int} {u2 u3 u4 u5 u6 u7 u8 u9 u10 u11 u12 u13 u14 u15 u16 u17 u18 u19 u20 u21 u22:Value} {Q:Goroutine→World→Prop} {cs:List Frame} {kk:List Item} {w:World}
set_option maxRecDepth 100000
end
end Go.Proofs
namespace Go.Proofs
open Go Go.Lift Go.Conc
def PoolAt(h:ac)(pb a cap:Nat)(ids:List Int):Prop:=pb≠a∧h[pb]? =some (.cells #[.chan (some a)] 111 (0,0))∧∃s r,h[a]? =some (.chan cap (ids.map fun i=>Value.int .i64 i).toArray false s r false)
theorem PoolAt.upd{M:Nat→Prop}{h h':ac}{pb c cap:Nat}{ids:List Int}(p:PoolAt h pb c cap ids)(k:Upd M h h')(d:¬M pb)(e:¬M c):PoolAt h' pb c cap ids:=let⟨n,a,s,r,b⟩:=p;⟨n,k.get a d,s,r,k.get b e⟩
theorem PoolAt.upd0{h h':ac}{pb a cap:Nat}{ids:List Int}(p:PoolAt h pb a cap ids)(k:Upd No h h'):PoolAt h' pb a cap ids:=p.upd k id id
theorem G4{n:Nat}(o:1≤n)(p:n≤4096){h:ac}{K:Option Addr×Int→ac→Prop}(d:∀h',Upd No h h'→PoolAt h' (h.size+1) h.size n ((dH n).map fun j=>((j:Nat):Int)+1)→K (some ⟨h.size+1,0,none⟩,0) h'):HC PG y6 [.int .i64 n] [.c .ptr,.c (.int .i64)] K h:=by
 refine⟨fun w m=>.inl ⟨Tryz.call13 _ w,(K4 o p (w:=w)).mono ?_⟩⟩
 subst m;rintro e w' ⟨rfl,ids,s,r,q,c,k⟩;have k1:Upd No w.heap ((w.heap.push (.chan n #[] false 0 0 false)).push (.cells #[.chan (some w.heap.size)] 111 (0,0))):=(Upd.push No w.heap _).tr (Upd.push No _ _);have a:ids=(((dH n).map fun j=>((j:Nat):Int)+1).map fun i=>Value.int .i64 i):=by rw[q];simp[Function.comp_def]
 have b:((w.heap.push (.chan n #[] false 0 0 false)).push (.cells #[.chan (some w.heap.size)] 111 (0,0)))[w.heap.size+1]? =some (.cells #[.chan (some w.heap.size)] 111 (0,0)):=by
  rw[Array.getElem?_push,Array.size_push,if_pos rfl]
 rcases k with rfl|rfl
 ·refine⟨⟨rfl,rfl,rfl⟩,((some ⟨w.heap.size+1,0,none⟩,0):Option Addr×Int),rfl,d _ k1 ⟨by omega,b,s,r,?_⟩⟩
  rw[←a];exact c
 ·have f:=Upd.set (M:=(· =w.heap.size)) ((w.heap.push (.chan n #[] false 0 0 false)).push (.cells #[.chan (some w.heap.size)] 111 (0,0))) (.chan n ids.toArray false s r false) rfl
  refine⟨⟨rfl,rfl,rfl⟩,((some ⟨w.heap.size+1,0,none⟩,0):Option Addr×Int),rfl,d _ (k1.trans f fun y g=>.inr (by have g:y=w.heap.size:=g;omega)) ⟨by omega,f.get b (fun e=>by have e:w.heap.size+1=w.heap.size:=e;omega),s,r,?_⟩⟩
  rw[←a];exact c
end Go.Proofs
namespace Go.Proofs
open Go Go.Lift
section
variable {W:Nat→Prop} {h:ac} {sp vp:Nat} {s:VS} {sm:Option Nat} {last:Int} {pool:Option Addr} {o:Om}
theorem Ig(v:VaultAt W h vp s)(b:h[sp]? =some (.cells (IY vp sm last pool).toArray dB (0,0))) {f:FuncId} {cap:Array Value} {id:Int} (hi:id=0∨id∈ids s.L) {K:An→ac→Prop}
  (hc:∀B g,BaseOf s id B→Upd No h g→HC PG f ([H9 B.1]++cap.toList) Eh (fun e h'=>Upd No g h'∧∀j b,h.size≤b→b<g.size→Upd (· =b) h' j→K e j) g):
  HC PG j5 [.pointer (some ⟨sp,0,none⟩),.int .u32 id,.func (.func f) #[] cap] Eh K h:=by
 refine yy (some ⟨sp,0,none⟩) id (.func (.func f) #[] cap) ?_;unfold rt av ae al aO eg nv uR wb Ld dF cI ai BP ug gt IS EF;refine bA fun y b1 k1=>⟨_,rfl,_,vc (k1.get0 b) 0,Cz (v.upd0 k1) hi fun B x g m=>?_⟩
 refine bA fun j b3 u=>dW (c:=sA Dw) (vs:=sA B.1) b3 rfl fun k d t=>ak.2 ?_
 have w:=m.size;have a:Upd No y k:=(m.tr u).own t w;have i:=k1.tr a;have A:=aW b1;have o:=a.size;refine⟨_,vc d 0,_,vc d 1,_,vc d 2,_,vc d 3,_,vc d 4,_,vc d 5,HV.mk' ?_⟩;refine(hc B k x i).mono fun e C ⟨z,n⟩=>?_
 exact r7 (c:=Ei) (e:=e) (z.get0 (a.get0 b1)) fun p q=>n p h.size (aq _) (by omega) q
theorem La{W:Nat→Prop}{h:ac}{kind:Int}{x:Hs}{t:Tr}{l:List Pr}(i:TreeIs W h kind x t l)(q:di l)(w:Fit l)(A:l.length≤60000){K:An→ac→Prop}(v:∀h' s',Sl eA 2 (fun y=>y<h.size) h' s' l→Upd No h h'→K (0,0,0,⟨#[]⟩,false,(s'.len:Int),s',du,du,du,du) h'):
  HC PG jO [H9 t] Eh K h:=by
 refine tH t ?_;unfold nP av ae al aO eg uR wb dF cI ai ug EF;refine bA fun u B m=>bA fun g j n=>?_
 have b:=n.get0 B;have d:=m.tr n;refine⟨_,vc b 0,_,vc b 1,_,vc b 2,_,vc b 3,_,vc b 4,_,vc b 5,?_⟩;refine IV (W':=fun y=>y<g.size) (i.upd0 d) q w A (fun y a=>a) fun s' C p k=>Ol fun E f=>?_
 have s:=m.size;have D:=aW j;refine r7 (c:=Ei) (e:=(0,0,0,⟨#[]⟩,false,(s'.len:Int),s',du,du,du,du)) (f.get0 (k.get0 j)) fun z o=>v z s' ?_ (((d.tr k).tr f).own o s)
 exact((p.upd f fun _ h=>h.elim).upd o fun y a=>.inl (by have a:y=u.size:=a;show y<g.size;omega)).less fun y a=>.inl (by have a:y<h.size:=a;show y<g.size;omega)
theorem MJ{W:Nat→Prop}{h:ac}{kind:Int}{x:Hs}{t:Tr}{l:List Pr}(i:TreeIs W h kind x t l)(n:∀y,W y→y<h.size)(p:di l)(E:l.length≤60000){d:Nat}(s:h[d]? =some (.cells (OZ o).toArray gq (0,0))) {K:An→ac→Prop} (v:∀h',Upd No h h'→K (0,0,0,(look l o.2.2.2.1).getD ⟨#[]⟩,(look l o.2.2.2.1).isSome,0,du,du,du,du,du) h'):
  HC PG kC [H9 t,.pointer (some ⟨d,0,none⟩)] Eh K h:=by
 refine uj t ⟨d,0,none⟩ ?_;unfold oK av ae bD al aO eg uR dF cI ai ug EF;refine bA fun C A j=>bA fun D m k=>?_
 have b:=k.get0 A;have a:=j.tr k;have f:=a.size;refine⟨_,vc b 0,_,vc b 1,_,vc b 2,_,vc b 3,_,vc b 4,_,vc b 5,_,vc (a.get0 s) 3,?_⟩;refine Mf (i.upd0 a) (fun y q=>aG (n y q) f) p (by omega) o.2.2.2.1 fun B g=>?_
 have u:=j.size;exact r7 (c:=Ei) (e:=(0,0,0,(look l o.2.2.2.1).getD ⟨#[]⟩,(look l o.2.2.2.1).isSome,0,du,du,du,du,du)) (g.get0 m) fun w z=>v w ((a.tr g).own z u)
theorem IX(v:VaultAt W h vp s)(b:h[sp]? =some (.cells (IY vp sm last pool).toArray dB (0,0))) (hi:o.2.2.2.2.2.1=0∨o.2.2.2.2.2.1∈ids s.L) (E:∀B,BaseOf s o.2.2.2.2.2.1 B→di B.2∧Fit B.2∧B.2.length≤60000) {K:An→ac→Prop}
  (G:∀h' B s',BaseOf s o.2.2.2.2.2.1 B→Sl eA 2 (fun y=>y<h.size) h' s' B.2→Upd No h h'→K (0,0,0,⟨#[]⟩,false,(s'.len:Int),s',du,du,du,du) h'):
  HC PG iR [.pointer (some ⟨sp,0,none⟩),Kb o] Eh K h:=by
 refine vI (some ⟨sp,0,none⟩) o ?_;unfold pN av al aO eg uR wb dF cI J9;refine bA fun w b1 k1=>bA fun I b2 x=>?_
 have a:=k1.tr x;have c1:=x.get0 b1;have A:=k1.size;have L:=aW b2;refine⟨_,vc c1 5,Ig (cap:= #[]) (v.upd0 a) (a.get0 b) hi fun B j p n=>?_⟩
 obtain⟨D,H,J⟩:=E B p;refine La (p.is (v.upd0 (a.tr n))) D H J fun P s' q i=>⟨i,fun u z C O t=>?_⟩
 have N:=n.size;have f:Upd No I u:=(n.tr i).own t C;have k:=q.upd t fun y d=>.inl (by have d:y=z:=d;show y<j.size;omega)
 have F:u[w.size]? =some (.cells (Ey Ei).toArray bS (0,0)):=f.get0 b2;refine r7 (c:=Ei) (e:=(0,0,0,⟨#[]⟩,false,(s'.len:Int),s',du,du,du,du)) F fun m g=>G m B s' p ((k.upd g fun y d=>.inl (by have d:y=w.size:=d;show y<j.size;omega)).less fun y d=>.inl (by have d:y<h.size:=d;show y<j.size;omega)) ((a.tr f).own g A)
theorem KG(v:VaultAt W h vp s)(b:h[sp]? =some (.cells (IY vp sm last pool).toArray dB (0,0))) (hi:o.2.2.2.2.2.1=0∨o.2.2.2.2.2.1∈ids s.L) (u:∀B,BaseOf s o.2.2.2.2.2.1 B→di B.2∧B.2.length≤60000) {K:An→ac→Prop}
  (x:∀h' B,BaseOf s o.2.2.2.2.2.1 B→Upd No h h'→K (0,0,0,(look B.2 o.2.2.2.1).getD ⟨#[]⟩,(look B.2 o.2.2.2.1).isSome,0,du,du,du,du,du) h'):
  HC PG jr [.pointer (some ⟨sp,0,none⟩),Kb o] Eh K h:=by
 refine w9 (some ⟨sp,0,none⟩) o ?_;unfold qv av al aO eg uR wb dF cI J9;refine bA fun G b1 k1=>bA fun z b2 m=>?_
 have a:=k1.tr m;have c1:=m.get0 b1;have p:=k1.size;have C:=aW b2;refine⟨_,vc c1 5,Ig (cap:= #[.pointer (some ⟨h.size,0,none⟩)]) (v.upd0 a) (a.get0 b) hi fun B E j i=>?_⟩
 obtain⟨t,A⟩:=u B j;have n:=v.upd0 (a.tr i);refine MJ (j.is n) n.g.lt t A (i.get0 c1) fun H f=>?_
 refine⟨f,fun y D q F w=>?_⟩
 have d:Upd No z y:=(i.tr f).own w q;refine r7 (c:=Ei) (e:=(0,0,0,(look B.2 o.2.2.2.1).getD ⟨#[]⟩,(look B.2 o.2.2.2.1).isSome,0,du,du,du,du,du)) (d.get0 b2) fun g k=>x g B j ((a.tr d).own k p)
end
theorem EO{kind:Int}(e:kind=0∨kind=1){x:Hs}{h:ac}{K:Option Addr×Int→ac→Prop}
  (B:∀h' sp b gp gm tm bm nm t sm pb cb,VaultAt (fun y=>No y∨VS.M ⟨gp,gm,tm,bm,nm,kind,x,t,[],1,[],[],[]⟩ y) h' b ⟨gp,gm,tm,bm,nm,kind,x,t,[],1,[],[],[]⟩→h'[sp]? =some (.cells (IY b (some sm) 0 (some ⟨pb,0,none⟩)).toArray dB (0,0))→h'[sm]? =some (.map #[] 0)→PoolAt h' pb cb 16 ((dH 16).map fun j=>((j:Nat):Int)+1)→
   (∀y,VS.M ⟨gp,gm,tm,bm,nm,kind,x,t,[],1,[],[],[]⟩ y→h.size≤y∧y<cb)→h.size≤cb→cb<pb→pb<sm→sm<sp→b<cb→Upd No h h'→K (some ⟨sp,0,none⟩,0) h'):
  HC PG qj [.int .i64 kind,.agg #[.int .u64 x.k0,.int .u64 x.k1,.int .u64 x.mask]] [.c .ptr,.c (.int .i64)] K h:=by
 refine FZ kind (x.k0,x.k1,x.mask) ?_;unfold zk ae Gh Cy;refine bA fun F b1 k1=>⟨_,vc b1 0,_,vc b1 1,_,vc b1 2,?_⟩
 have C:=k1.size;refine L8 (W:=No) (x:=x) (fun _ h=>h.elim) e fun o b gp gm tm bm nm t v E w m=>ak.2 ?_
 refine G4 (n:=16) (by omega) (by omega) fun d s q=>?_
 have c:=Upd.push No d (.map #[] 0);have k:=pj d (.map #[] 0);refine Hy fun u i=>?_
 have i:u=d.push (.map #[] 0):=i;rw[←i]at c k;have D:=m.size;have z:=aW q.2.1;have A:=aW k;refine bA fun f g a=>B f u.size b gp gm tm bm nm t d.size (o.size+1) o.size (v.upd0 ((s.tr c).tr a)) g (a.get0 k) (q.upd0 (c.tr a)) (fun y p=>⟨by have:=w y p;omega,v.size p⟩) (by omega) (by omega) z A (aW v.blk) ((((k1.tr m).tr s).tr c).tr a)
end Go.Proofs
namespace Go.Proofs
open Go Go.Lift
section
variable {W:Nat→Prop} {h:ac} {sp vp:Nat} {s:VS} {sm:Option Nat} {last:Int} {pool:Option Addr} {o:Om}
theorem VaultAt.hM(v:VaultAt W h vp s):∀y,s.M y→y<h.size:=fun y a=>v.g.lt y (v.w y a)
theorem y7(v:VaultAt W h vp s)(b:h[sp]? =some (.cells (IY vp sm last pool).toArray dB (0,0))) (ek:o.1=0) {K:An→ac→Prop} (i:∀h',Upd s.M h h'→VaultAt W h' vp {s with B:=if tC s.B s.L o.2.1 o.2.2.2.2.2.1 false=0 then ke s.B o.2.1 o.2.2.2.2.2.1 else s.B}→K (tC s.B s.L o.2.1 o.2.2.2.2.2.1 false,0,0,⟨#[]⟩,false,0,du,du,du,du,du) h'):
  HC PG cA [.pointer (some ⟨sp,0,none⟩),Kb o] Eh K h:=
 IE (k:=0) ek (by omega) rfl fun p f a j g=>EP (v.pro a) (a.get0 b) fun h' u m=>⟨s.M,u,fun e=>by have:=v.hM _ e;omega,fun n c=>i n ((a.wide.tr u).trans c fun y d=>.inr (by have d:y=f:=d;omega)) ((m.own v.hM c j g).dn v.w)⟩
theorem FJ(v:VaultAt W h vp s)(b:h[sp]? =some (.cells (IY vp sm last pool).toArray dB (0,0))) (c:¬s.M sp) (ek:o.1=4) {hd:Int} (p:dh s.B o.2.1=some hd) (hh:hd=0∨hd∈ids s.L) {N:Nat} (z:N≤900) (D:∀B,BaseOf s hd B→Few N B.2) (m:o.2.2.2.1.size≤30) (C:o.2.2.2.2.1.size≤30) {id:Int} (g:(i5 s.L s.nx (nz [hd])).1=(id,0)) {K:An→ac→Prop}
  (x:∀h' B d,BaseOf s hd B→Upd s.M h h'→VaultAt W h' vp (sy s o.2.1 (d,eX (o.2.2.2.1,o.2.2.2.2.1) B.2) (nz [hd])).2→K (0,id,0,⟨#[]⟩,false,0,du,du,du,du,du) h'):
  HC PG cA [.pointer (some ⟨sp,0,none⟩),Kb o] Eh K h:=
 IE (k:=4) ek (by omega) rfl fun E n f j t=>KF (v.pro f) (f.get0 b) c p hh z D m C g fun h' B d A u q=>⟨s.M,u,fun e=>by have:=v.hM _ e;omega,fun w i=>x w B d A ((f.wide.tr u).trans i fun y a=>.inr (by have a:y=n:=a;omega)) ((q.own (fun y a=>v.hM y ((xH y).1 a)) i j t).dn fun y a=>v.w y ((xH y).1 a))⟩
theorem JB(v:VaultAt W h vp s)(b:h[sp]? =some (.cells (IY vp sm last pool).toArray dB (0,0))) (ek:o.1=11) (hi:o.2.2.2.2.2.1=0∨o.2.2.2.2.2.1∈ids s.L) (n:∀B,BaseOf s o.2.2.2.2.2.1 B→di B.2∧Fit B.2∧B.2.length≤60000) {K:An→ac→Prop}
  (i:∀h' B s',BaseOf s o.2.2.2.2.2.1 B→Sl eA 2 (fun y=>y<h.size) h' s' B.2→Upd No h h'→K (0,0,0,⟨#[]⟩,false,(s'.len:Int),s',du,du,du,du) h'):
  HC PG cA [.pointer (some ⟨sp,0,none⟩),Kb o] Eh K h:=
 IE (k:=11) ek (by omega) rfl fun e f c j q=>IX (v.upd0 c) (c.get0 b) hi n fun h' B s' p g u=>⟨No,u,fun h=>h,fun m d=>i m B s' p ((g.upd d fun y a=>.inl (by have a:y=f:=a;show y<e.size;omega)).less fun y a=>.inl (by have:=c.size;have a:y<h.size:=a;show y<e.size;omega)) ((c.tr u).own d j)⟩
theorem Lx(v:VaultAt W h vp s)(b:h[sp]? =some (.cells (IY vp sm last pool).toArray dB (0,0))) (ek:o.1=10) (hi:o.2.2.2.2.2.1=0∨o.2.2.2.2.2.1∈ids s.L) (g:∀B,BaseOf s o.2.2.2.2.2.1 B→di B.2∧B.2.length≤60000) {K:An→ac→Prop}
  (c:∀h' B,BaseOf s o.2.2.2.2.2.1 B→Upd No h h'→K (0,0,0,(look B.2 o.2.2.2.1).getD ⟨#[]⟩,(look B.2 o.2.2.2.1).isSome,0,du,du,du,du,du) h'):
  HC PG cA [.pointer (some ⟨sp,0,none⟩),Kb o] Eh K h:=
 IE (k:=10) ek (by omega) rfl fun m j a e _=>KG (v.upd0 a) (a.get0 b) hi g fun h' B i u=>⟨No,u,fun h=>h,fun f d=>c f B i ((a.tr u).own d e)⟩
end
abbrev AK:ByteArray:=⟨#[109,97,105,110]⟩
theorem Hx{h:ac}{K:Bool→ac→Prop}(W:∀h',Upd No h h'→K true h'):HC PG th [] [.c .bool] K h:=by
 refine F6 ?_;unfold zr al nv uR wb dF cI zg0;refine EO (.inl rfl) (x:=⟨0,0,0⟩) fun h2 sp H gp gm tm bm nm t Z pb cb v b _ _ S zc c1 c2 c3 _ X=>?_
 have g:∀y,VS.M ⟨gp,gm,tm,bm,nm,0,⟨0,0,0⟩,t,[],1,[],[],[]⟩ y→h.size≤y∧y≠sp:=fun y i=>by have:=S y i;omega
 refine Join.plain (ak.2 (ak.2 ?_));refine y7 (o:=(0,AK,⟨#[]⟩,⟨#[]⟩,⟨#[]⟩,0,0,0,0,false,⟨#[]⟩,⟨#[]⟩,false,du,du)) v b rfl fun I L E=>?_
 have E:VaultAt _ I H ⟨gp,gm,tm,bm,nm,0,⟨0,0,0⟩,t,[],1,[],[(AK,0)],[]⟩:=E;have P:=L.get b fun e=>(g _ e).2 rfl
 have R:Upd No h I:=X.fresh L fun y i=>(g y i).1
 refine FJ (o:=(4,AK,⟨#[]⟩,⟨#[97]⟩,⟨#[49]⟩,0,0,0,0,false,⟨#[]⟩,⟨#[]⟩,false,du,du)) E P (fun e=>(g _ e).2 rfl) rfl (hd:=0) rfl (.inl rfl) (N:=0) (by omega) (fun B a=>?_) (by decide) (by decide) (id:=1) (show(i5 [] 1 (nz [0])).1=(1,0) by decide) fun A B J a O p=>?_
 ·rcases a with⟨_,rfl⟩|⟨a,_⟩
  ·exact⟨dC,aq _,fun _ h=>by cases h⟩
  ·exact absurd rfl a
 have T:B.2= []:=by
  rcases a with⟨_,rfl⟩|⟨a,_⟩
  ·rfl
  ·exact absurd rfl a
 rw[T]at p;have p:VaultAt _ A H ⟨gp,gm,tm,bm,nm,0,⟨0,0,0⟩,t,[(1,[])],2,[(1,(J,[(⟨#[97]⟩,⟨#[49]⟩)]))],[(AK,1)],[]⟩:=p;have Y:=O.get P fun e=>(g _ e).2 rfl
 have Q:Upd No h A:=R.fresh O fun y i=>(g y i).1
 refine bA fun V D G=>dW (c:=Ey Ei) (vs:=Ey (0,1,0,⟨#[]⟩,false,0,du,du,du,du,du)) D rfl fun q w F=>?_
 have f:Upd No A q:=G.own F (aq _);have j:∀B,BaseOf ⟨gp,gm,tm,bm,nm,0,⟨0,0,0⟩,t,[(1,[])],2,[(1,(J,[(⟨#[97]⟩,⟨#[49]⟩)]))],[(AK,1)],[]⟩ 1 B→B.2= [(⟨#[97]⟩,⟨#[49]⟩)]:=fun B a=>by
  rcases a with⟨a,_⟩|⟨_,a⟩
  ·cases a
  ·cases a;rfl
 refine Lx (o:=(10,⟨#[]⟩,⟨#[]⟩,⟨#[97]⟩,⟨#[]⟩,1,0,0,0,false,⟨#[]⟩,⟨#[]⟩,false,du,du)) (p.upd0 f) (f.get0 Y) rfl (.inr (show(1:Int)∈ids [(1,[])] by decide)) (fun B a=>?_) fun C B a n=>?_
 ·rw[j B a];exact⟨List.pairwise_singleton _ _,by simp⟩
 rw[j B a];refine bA fun U z s=>dW (c:=Ey Ei) (vs:=Ey (0,0,0,⟨#[49]⟩,true,0,du,du,du,du,du)) z rfl fun m k u=>?_
 have d:Upd No C m:=s.own u (aq _);refine⟨_,vc ((n.tr d).get0 w) 1,aB.2 ⟨_,vc k 4,aB.2 ⟨_,vc k 3,?_⟩⟩⟩;rw[gC];exact W m (((Q.tr f).tr n).tr d)
end Go.Proofs
namespace Go.Proofs
open Go Go.Lift
theorem CA{s:ByteArray}{h:ac}{K:ByteArray→ac→Prop}(a:K (wM s) h):HC PG rT [.string s,.int .i64 0] [.c .str] K h:=by
 refine HQ s 0 ?_;unfold BK;refine⟨⟨by split<;>omega,by split<;>omega⟩,?_⟩
 rw[N9];exact aE (fun e=>absurd e (by decide)) fun _=>a
theorem GZ{W W':Nat→Prop}{h:ac}{s s':SliceV}{l:List Pr}(f:Sl eA 2 W h s l)(g:Sl eA 2 W' h s' l)(o:l.length≤4611686018427387904){K:Bool→ac→Prop}(m:K true h):HC PG tg [.slice s.a s.len s.cap,.slice s'.a s'.len s'.cap] [.c .bool] K h:=by
 refine F5 s s' ?_;unfold zq dw bD;have p:=f.len;have q:=g.len;refine CondP.intro (fun e=>absurd e (by rw[p,q];simp)) fun _=>?_
 refine LoopP.ghost (fun(i:Nat) (t:Int) h'=>t=(i:Int)∧h'=h∧i≤l.length) (fun i=>l.length-i) 0 ⟨rfl,rfl,Nat.zero_le _⟩ ?_
 rintro I i t h' ⟨rfl,rfl,hi⟩ k;refine aE (fun b=>?_) fun _=>m
 have b:i<l.length:=by omega
 obtain⟨a,n,_,j⟩:=f.at (ag b);obtain⟨a',d,_,c⟩:=g.at (ag b);refine⟨⟨by omega,by omega⟩,a,n,_,j 0 _ rfl,_,j 1 _ rfl,⟨by omega,by omega⟩,a',d,_,c 0 _ rfl,_,c 1 _ rfl,?_⟩
 rw[gC,gC,decide_eq_true rfl,decide_eq_true rfl];rw[ec b o];exact ak.2 (k (i+1) _ _ ⟨rfl,rfl,b⟩ (by omega))
theorem BaseOf.uniq{s:VS}{id:Int}{B b:TD}(h:BaseOf s id B)(h':BaseOf s id b):B=b:=by
 rcases h with⟨e,rfl⟩|⟨e,h⟩<;>rcases h' with⟨a,rfl⟩|⟨a,h'⟩
 ·rfl
 ·exact absurd e a
 ·exact absurd a e
 ·exact bE.inj (h.symm.trans h')
theorem FT{L:fu}{nx hd:Int}(hh:hd=0∨hd∈ids L)(f:L.length<1024)(hx:nx<2147483648):i5 L nx (nz [hd])=((nx,0),rg L nx (nz [hd]),nx+1):=by
 have b:uh (nz [hd])=0:=by
  unfold uh;by_cases e:hd=0
  ·subst e;decide
  ·rw[show nz [hd]= [hd] by simp[nz,e]];simp[Pu]
 have d:oy L (nz [hd])=0:=by
  unfold oy;rw[if_neg,if_neg (by omega)];rw[List.any_eq_true];rintro⟨p,a,c⟩;by_cases e:hd=0
  ·subst e;cases a
  ·rw[show nz [hd]= [hd] by simp[nz,e],List.mem_singleton]at a
   subst a;have:=hh.resolve_left e;simp[this]at c
 unfold i5;rw[if_neg (by rw[b];simp),if_neg (by rw[d];simp),if_neg (by omega)]
theorem L7{s:VS}{n:ByteArray}{d:TD}{hd:Int}(hh:hd=0∨hd∈ids s.L)(a:s.L.length<1024)(hx:s.nx<2147483648):sy s n d (nz [hd])=((s.nx,0),{s with L:=rg s.L s.nx (nz [hd]),nx:=s.nx+1,D:=ke s.D s.nx d,B:=ke s.B n s.nx}):=by
 unfold sy;rw[FT hh a hx];rfl
def br(j:Nat):ByteArray:=if j=0 then⟨#[97]⟩else if j=1 then⟨#[98]⟩else⟨#[99]⟩
theorem Oe:∀i j:Fin 3,br i.val=br j.val→i=j:=by decide
structure BrI(h h':ac)(sp vp bn bw bh:Nat)(sm:Option Nat)(pool:Option Addr)(i:Nat)(s:VS)(hd:Nat→Int)(c:Nat→TD)(w:Nat→SliceV):Prop where
 v:VaultAt (fun y=>s.M y∨y=bw∨y=bh) h' vp s
 b:h'[sp]? =some (.cells (IY vp sm 0 pool).toArray dB (0,0))
 n:h'[bn]? =some (.cells #[.string (br 0),.string (br 1),.string (br 2)] ux (0,0))
 ww:h'[bw]? =some (.cells #[.slice (w 0).a (w 0).len (w 0).cap,.slice (w 1).a (w 1).len (w 1).cap,.slice (w 2).a (w 2).len (w 2).cap] rI (0,0))
 hh:h'[bh]? =some (.cells #[.int .u32 (hd 0),.int .u32 (hd 1),.int .u32 (hd 2)] mD (0,0))
 B:∀j,j<3→dh s.B (br j)=some (hd j)
 D:∀j,j<3→BaseOf s (hd j) (c j)
 hi:∀j,j<3→hd j=0∨hd j∈ids s.L
 few:∀j,j<3→Few i (c j).2
 sl:∀j,j<3→Sl eA 2 (fun y=>s.M y∨y=bw∨y=bh) h' (w j) (c j).2
 nx:s.nx=(i:Int)+1
 len:s.L.length=i
 k:Upd No h h'
theorem BrI.up0{h h' m:ac}{sp d f e n:Nat}{b:Option Nat}{a:Option Addr}{i:Nat}{s:VS}{hd:Nat→Int}{c:Nat→TD}{w:Nat→SliceV}(g:BrI h h' sp d f e n b a i s hd c w)(k:Upd No h' m):BrI h m sp d f e n b a i s hd c w:=
 ⟨g.v.upd0 k,k.get0 g.b,k.get0 g.n,k.get0 g.ww,k.get0 g.hh,g.B,g.D,g.hi,g.few,fun j o=>(g.sl j o).upd k fun _ h=>h.elim,g.nx,g.len,g.k.tr k⟩
theorem PI{v:Int}(a:0≤v)(b:v≤255):∃k:Nat,IntKind.wrap .i64 (fA v 3)=(k:Int)∧k<3:=by
 obtain⟨n,rfl⟩:=Int.eq_ofNat_of_zero_le a;have e:fA (n:Int) 3=((n%3:Nat):Int):=by rw[Int.tmod_eq_emod_of_nonneg (by omega)];rfl
 have:=Nat.mod_lt n (show 0<3 by omega)
 exact⟨n%3,by rw[e,gi (by omega)],this⟩
end Go.Proofs
