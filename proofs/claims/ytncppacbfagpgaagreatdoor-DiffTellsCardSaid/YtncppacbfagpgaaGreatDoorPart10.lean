/- A part of the proof that the named laws of this program answer true, whatever the input. -/
import Derived.Test.YtncppacbfagpgaaGreatDoorPart9
import Derived.Test.YtncppacbfagpgaaGreatDoorPart4
import Derived.Test.YtncppacbfagpgaaGreatDoorPart0
import Derived.Test.YtncppacbfagpgaaGreatDoorPart7
open ByteArray renaming mk→nJ
open Int renaming toNat_natCast→aR
open List renaming foldl_cons→kH,pairwise_cons→aA,mem_singleton→aF,pairwise_singleton→cy,mem_cons→aB,find?_cons→qZ,filter_eq_self→gK,any_eq_true→cA,any_cons→uF,length_append→ac,mem_range→g7,length_drop→aU,length_take→aI,append_cancel_left→fk,getElem_mem→bw,mem_append→bI,getElem_of_mem→bm,getElem_take→kq,getElem_drop→tu,mem_of_getElem→qt,drop_left→g8,pairwise_iff_getElem→ce,getElem?_eq_getElem→ae,mem_cons_self→av,mem_cons_of_mem→aC,singleton_append→tK
open Nat renaming lt_of_lt_of_le→aD,le_refl→aj,le_trans→bh,zero_le→aS,zero_testBit→ij,one_pos→pC,lt_trichotomy→oQ,lt_or_ge→bZ,lt_irrefl→oc
open Option renaming some→bQ
namespace Go.Proofs
open Go Go.Lift
abbrev b1:ByteArray:=⟨#[49]⟩
abbrev b2:ByteArray:=⟨#[50]⟩
abbrev b3:ByteArray:=⟨#[51]⟩
theorem aac(p:Pr):xb [p]= [p]:=rfl
theorem aaa{v w:ByteArray}:xb [(bA,v),(bB,w)]= [(bA,v),(bB,w)]:=by
 unfold xb;rw[kH,kH,List.foldl_nil];have a:hJ (bA,v) []= [(bA,v)]:=rfl;rw[a,hH,if_pos bab];rfl
theorem Wd{v w:ByteArray}:bS [(bA,v),(bB,w)]:=aA.2 ⟨fun p a=>by rw[aF.1 a];exact bab,cy ..⟩
theorem Hn:jX [(bA,b1)] [(bA,b2),(bB,b3)]= [(bA,b1,b2,true,true),(bB,⟨#[]⟩,b3,false,true)]:=by
 rw[qF (a:=(bA,b1)) (b:=(bA,b2)) rfl,jT];unfold zO;rw[if_neg (by decide)];rfl
theorem Np{l:List Pr}(h:∀p∈l,p.1.size≤40∧p.2.size≤40):Fit l:=fun p a=>by have:=h p a;omega
theorem ME{v w:ByteArray}(hv:v.size≤1)(b:w.size≤1):∀p∈[(bA,v),(bB,w)],p.1.size≤40∧p.2.size≤40:=fun p a=>by
 rcases aB.1 a with rfl|a
 ·exact⟨(by decide:bA.size≤40),by simp only;omega⟩
 ·rw[aF.1 a]
  exact⟨(by decide:bB.size≤40),by simp only;omega⟩
theorem MF{v:ByteArray}(hv:v.size≤1):∀p∈[(bA,v)],p.1.size≤40∧p.2.size≤40:=fun p a=>by
 rw[aF.1 a];exact⟨(by decide:bA.size≤40),by simp only;omega⟩
theorem TU{h:ad}{K:Bool→ad→Prop}(S:∀h',Upd No h h'→K true h'):HC PG A8 [] [.c .bool] K h:=by
 refine RH ?_;unfold HJ bX aZ af aH nv Ay rT ut ay is bK adc vl9;refine aW fun N s k1=>?_
 have P:Sl eu 2 No N ⟨some (aG h),1,1⟩ [(bA,b1)]:=⟨rfl,gu,fun _=>⟨_,rfl,fun h=>h.elim,pI s fun i v hv=>by simpa using hv⟩⟩
 refine ER (W:=No) (x:=⟨0,0,0⟩) P (fun _ h=>h.elim) (by simp) (fun p D=>by have:=MF (v:=b1) (by decide) p D;omega) (.inr rfl) fun T t F H=>?_
 rw[aac]at F;refine Dn (t:=t) fun J M E=>?_
 refine aW fun Q O z=>?_
 have A:Sl eu 2 No Q ⟨some (aG J),2,2⟩ [(bA,b2),(bB,b3)]:=⟨rfl,gu,fun _=>⟨_,rfl,fun h=>h.elim,pI O fun i v hv=>by simpa using hv⟩⟩
 refine ER (W:=No) (x:=⟨0,0,0⟩) A (fun _ h=>h.elim) (by simp) (fun p D=>by have:=ME (v:=b2) (w:=b3) (by decide) (by decide) p D;omega) (.inr rfl) fun U u G C=>?_
 rw[aaa]at G;refine Dn (t:=u) fun R d e=>?_
 have c:=(z.tr (C.tr e)).get0 M;refine⟨_,vc c 0,_,vc c 1,_,vc c 2,_,vc c 3,_,vc c 4,_,vc c 5,_,vc d 0,_,vc d 1,_,vc d 2,_,vc d 3,_,vc d 4,_,vc d 5,?_⟩;have j:=F.upd0 (((E.tr z).tr C).tr e);have g:=G.upd0 e;have I:qy t u=true:=wd j g;refine W1 j g (cy ..) (Np (MF (by decide))) (by decide) Wd (Np (ME (by decide) (by decide))) (by decide) (fun _=>by rw[Hn];decide) (fun h=>by rw[I]at h;cases h) fun _ B f y q=>?_
 rw[Hn]at y;have b:=y.len;have k:=y.sl (W:=No) fun _ _ _ h=>h
 obtain⟨a,o,_,hv⟩:=k.at (i:=0) (x:=(bA,b1,b2,true,true)) rfl;obtain⟨a',m,_,n⟩:=k.at (i:=1) (x:=(bB,(⟨#[]⟩:ByteArray),b3,false,true)) rfl;rw[o]at m;cases m;refine au.2 ?_;have L:((f.len:Int)==(2:Int))=true:=by rw[b];rfl
 rw[show((f,(0:Int)).1.len:Int)=(f.len:Int)from rfl,L]
 refine au.2 ⟨⟨by omega,by rw[b];decide⟩,a,o,bA,hv 0 _ rfl,b1,hv 1 _ rfl,b2,hv 2 _ rfl,true,hv 3 _ rfl,true,hv 4 _ rfl,?_⟩
 rw[beq_self_eq_true,beq_self_eq_true,beq_self_eq_true];refine au.2 ⟨⟨by omega,by rw[b];decide⟩,a,o,bB,n 0 _ rfl,?_⟩
 rw[beq_self_eq_true];refine au.2 ⟨⟨by omega,by rw[b];decide⟩,a,o,false,n 3 _ rfl,?_⟩
 exact S B ((((((k1.tr H).tr E).tr z).tr C).tr e).tr q)
end Go.Proofs
namespace Go.Proofs
open Go Go.Lift
def look(l:List Pr)(k:ByteArray):Option ByteArray:=(l.find? fun p=>decide (p.1=k)).map (·.2)
theorem M1{l:List Pr}{k:ByteArray}(h:cG l k=false):look l k=none:=by
 unfold look;rw[Option.map_eq_none_iff,List.find?_eq_none];intro p a;unfold cG at h;rw[List.any_eq_false]at h;exact h p a
theorem yA:∀{l:List Pr} {k v:ByteArray},bS l→(k,v)∈l→look l k=some v
 |p::l,k,v,a,h=>by
  have a:=aA.1 a;unfold look;rw[qZ];rcases aB.1 h with e|h
  ·subst e;simp
  ·have b:p.1≠k:=fun e=>by
    have:=a.1 _ h;simp only at this;rw[e]at this;exact co _ this
   rw[decide_eq_false b];exact yA a.2 h
theorem Vm{l:List Pr}(a:bS l){k v:ByteArray}(b:cG l k=true→(k,v)∈l)(h2:cG l k=false→v=⟨#[]⟩):((look l k).getD ⟨#[]⟩,(look l k).isSome)=(v,cG l k):=by
 cases ht:cG l k with
 |true=>rw[yA a (b ht)];rfl
 |false=>rw[M1 ht,h2 ht];rfl
theorem WJ{x:Hs}{lev:Nat}{l:List Pr}{k:ByteArray}:look (part x lev (ck x lev k) l) k=look l k:=by
 unfold look part;congr 1
 rw[List.find?_filter];congr 1
 funext p;by_cases e:p.1=k
 ·rw[e];simp
 ·simp[e]
theorem Rf{W:Nat→Prop}{x:Hs}{h:ad}{b:Nat}{l:List Pr}(t:TrieAt W x h 13 b l)(Z:∀y,W y→y<h.size)(Y:bS l)(hn:l.length≤1000000)(k:ByteArray){K:ByteArray×Bool→ad→Prop}
  (R:∀h',Upd No h h'→K ((look l k).getD ⟨#[]⟩,(look l k).isSome) h'):HC PG Bc [.agg #[.int .u64 x.k0,.int .u64 x.k1,.int .u64 x.mask],.pointer (some ⟨b,0,none⟩),.string k] [.c .str,.c .bool] K h:=by
 refine RN (x.k0,x.k1,x.mask) (some ⟨b,0,none⟩) k ?_;unfold HO af nv BK xa az lN vu w9 AB od;refine aW fun h1 b1 k1=>⟨_,vc b1 0,_,vc b1 1,_,vc b1 2,?_⟩
 refine vN fun h2 X=>?_
 have o:=k1.tr X;refine N4 (.inr ⟨b,rfl,TrieAt.upd0 o t⟩) (fun y hy=>aD (Z y hy) o.size) fun h3 b3 t3 V _=>?_
 have J:=o.tr V;refine LoopP.ghost (fun(g:Nat×Nat×List Pr) (t:Option Addr×Int) h'=>t=(some ⟨g.2.1,0,none⟩,((13-g.1:Nat):Int))∧g.1≤13∧TrieAt W x h' g.1 g.2.1 g.2.2∧bS g.2.2∧g.2.2.length≤1000000∧look g.2.2 k=look l k∧Upd No h h') (fun g=>g.1) (13,b3,l)
  ⟨rfl,aj _,t3,Y,hn,rfl,J⟩ ?_
 rintro I ⟨m,c,A⟩ t h4 ⟨rfl,hm,H,f,C,w,E⟩ hI;simp only at hm H f C w;rcases m with _|m
 ·obtain⟨sp,sk,ow,L,_⟩:=BuckAt.ex H
  refine gL L (au.2 (YP H f (by omega) k fun T v P q z=>?_))
  have:=R T (E.tr P);rw[←w,Vm f q z]at this;exact this
 ·obtain⟨s,G,O⟩:=H
  have O:∀c,c<32→SlotIs W x h4 m s c (part x (12-m) c A):=O;obtain⟨d,n,sp,sk,ow,L,_⟩:=G.ex;refine gL L (ag.2 ?_);refine TM (by omega) ?_;rw[show 13-(m+1)=12-m by omega]
  have hi:=Af x (12-m) k;have u:=O _ hi;have j:look (part x (12-m) (ck x (12-m) k) A) k=look l k:=by rw[WJ,w]
  have D:bS (part x (12-m) (ck x (12-m) k) A):=ju f;have B:(part x (12-m) (ck x (12-m) k) A).length≤1000000:=bh lx C;generalize part x (12-m) (ck x (12-m) k) A=lp at u j D B;generalize ck x (12-m) k=i at hi u;refine AL G hi fun T P=>?_
  refine tG fun F N k6=>?_
  have a:=P.tr k6;rcases u with⟨Q,q,z⟩|⟨p,Q,q,z⟩|⟨_,q,U,z,tk⟩
  ·rw[q]
   refine ag.2 (xk (G.upd a fun _ h=>h.elim) hi ?_)
   rw[z];refine au.2 ?_;have:=R F (E.tr a);rw[←j,Q]at this;exact this
  ·rw[q]at N⊢
   refine au.2 ⟨p.1,vc N 0,?_⟩;rw[fg];have:=R F (E.tr a);rw[←j,Q]at this;by_cases e:p.1=k
   ·rw[decide_eq_true e]
    refine ag.2 ⟨p.2,vc N 1,?_⟩;have M:look [p] k=some p.2:=by unfold look;rw[qZ,decide_eq_true e];rfl
    rw[M]at this;exact this
   ·rw[decide_eq_false e]
    have M:look [p] k=none:=by unfold look;rw[qZ,decide_eq_false e];rfl
    rw[M]at this;exact au.2 this
  ·rw[q]
   refine ag.2 (xk (G.upd a fun _ h=>h.elim) hi ?_)
   rw[z];refine ag.2 ?_;have S:IntKind.wrap .i64 (((13-(m+1):Nat):Int)+1)=((13-m:Nat):Int):=by rw[dI (by omega)];omega
   rw[show 13-(m+1)=12-m by omega]at S
   show I (some ⟨U,0,none⟩,IntKind.wrap .i64 (((12-m:Nat):Int)+1)) F
   rw[S];exact hI (m,U,lp) _ F ⟨rfl,by simp only;omega,TrieAt.upd0 a tk,D,B,j,E.tr a⟩ (by simp only;omega)
abbrev Sd:=ByteArray×Bool
end Go.Proofs
namespace Go.Proofs
open Go Go.Lift
def oU(k:ByteArray)(l:List Pr):List Pr:=l.filter fun q=>decide (q.1≠k)
theorem yI(k:ByteArray)(q:Pr)(l:List Pr):oU k (q::l)=if q.1=k then oU k l else q::oU k l:=by
 unfold oU;rw[List.filter_cons];by_cases h:q.1=k
 ·rw[if_pos h,if_neg (by simpa using h)]
 ·rw[if_neg h,if_pos (by simpa using h)]
theorem Bg{k:ByteArray}{l:List Pr}(h:∀q∈l,q.1≠k):oU k l=l:=gK.2 fun q a=>decide_eq_true (h q a)
theorem D9{k:ByteArray}{l:List Pr}(h:cG l k=false):∀q∈l,q.1≠k:=fun q a e=>by
 have:cG l k=true:=cA.2 ⟨q,a,decide_eq_true e⟩;rw[h]at this;cases this
theorem AK{k:ByteArray}{l:List Pr}(h:∀q∈l,q.1≠k):cG l k=false:=by
 rcases ht:cG l k with _|_
 ·rfl
 ·obtain⟨q,a,e⟩:=cA.1 ht
  exact absurd (of_decide_eq_true e) (h q a)
theorem MJ{k:ByteArray}{l:List Pr}(a:bS l):bS (oU k l):=a.sublist List.filter_sublist
theorem Ik{k:ByteArray}{l:List Pr}{p:Pr}:p∈oU k l↔p∈l∧p.1≠k:=by unfold oU;rw[List.mem_filter,decide_eq_true_iff]
theorem TL{k:ByteArray}{l:List Pr}:(oU k l).length≤l.length:=List.length_filter_le ..
theorem Vw{k:ByteArray}:∀{l:List Pr},bS l→l.length≤(oU k l).length+1
 | [],_=>aS _
 |q::l,a=>by
  have a:=aA.1 a;rw[yI];by_cases h:q.1=k
  ·rw[if_pos h,Bg fun r hm e=>by have:=a.1 r hm;rw[h,e]at this;exact co _ this];exact aj _
  ·rw[if_neg h]
   have:=Vw (k:=k) a.2;simp only[List.length_cons];omega
theorem Vx(k:ByteArray):∀{l:List Pr},bS l→W2 l k=oU k l
 | [],_=>by simp[W2,oU,cG]
 |q::l,c=>by
  have m:=c;have c:=aA.1 c;have b:rl (q::l) k=if kl q.1 k then rl l k+1 else 0:=by
   unfold rl;rw[List.takeWhile_cons];by_cases h:kl q.1 k
   ·rw[if_pos (by simpa using h),if_pos h];rfl
   ·rw[if_neg (by simpa using h),if_neg h];rfl
  have d:cG (q::l) k=(decide (q.1=k)||cG l k):=by unfold cG;rw[uF]
  by_cases h:kl q.1 k
  ·have f:q.1≠k:=fun e=>by rw[e]at h;exact co _ h
   rw[yI,if_neg f,←Vx k c.2];unfold W2;rw[d,b,if_pos h,decide_eq_false f,Bool.false_or];by_cases g:cG l k=true
   ·rw[if_pos g,if_pos g];rfl
   ·rw[if_neg g,if_neg g]
  ·by_cases e:q.1=k
   ·have a:∀r∈l,r.1≠k:=fun r hm i=>by have:=c.1 r hm;rw[e,i]at this;exact co _ this
    rw[yI,if_pos e,Bg a];unfold W2;rw[d,b,if_neg h,decide_eq_true e,Bool.true_or,if_pos rfl];rfl
   ·have j:=qh h e
    have a:∀r∈q::l,r.1≠k:=fun r hm i=>by
     rcases aB.1 hm with rfl|hm
     ·exact e i
     ·have:=c.1 r hm
      rw[i]at this;exact co _ (fR j this)
    rw[Bg a];unfold W2;rw[AK a];rfl
theorem Qy{x:Hs}{lev c:Nat}{k:ByteArray}{l:List Pr}:part x lev c (oU k l)=oU k (part x lev c l):=by
 unfold part oU;rw[List.filter_filter,List.filter_filter];exact List.filter_congr fun p _=>Bool.and_comm ..
theorem WC{x:Hs}{lev c:Nat}{k:ByteArray}{l:List Pr}(h:c≠ck x lev k):part x lev c (oU k l)=part x lev c l:=by
 rw[Qy];exact Bg fun q a e=>h (by rw[←e];exact(nM.1 a).2.symm)
theorem Sq{W:Nat→Prop}{x:Hs}{h h':ad}{m b':Nat}{s s':Slots}{l:List Pr}{k:ByteArray}(b:Upd No h h')(a:NodeAt W h' b' s')(i:∀c,c<32→SlotIs W x h m s c (part x (12-m) c l))
  (d:∀c,c≠ck x (12-m) k→s'.p c=s.p c∧s'.k c=s.k c)(hi:SlotIs W x h' m s' (ck x (12-m) k) (oU k (part x (12-m) (ck x (12-m) k) l))):TrieAt W x h' (m+1) b' (oU k l):=by
 refine⟨s',a,fun c hc=>?_⟩
 by_cases e:ck x (12-m) k=c
 ·rw[Qy];subst e;exact hi
 ·rw[WC fun h=>e h.symm]
  have t:=SlotIs.upd0 b (i c hc);obtain⟨g,f⟩:=d c fun h=>e h.symm
  unfold SlotIs at t;rw[←g,←f]at t;exact t
theorem Vt{β:Type}(g:Nat→Option β):∀n,(fm g n).length=((List.range n).map fun c=>(g c).toList.length).sum
 |0=>rfl
 |n+1=>by
  rw[jP,ac,Vt g n,List.range_succ,List.map_append,List.sum_append];simp
theorem P4{x:Hs}{lev:Nat}{l:List Pr}(h:∀c,c<32→(part x lev c l).length≤1):(ix x lev l).length=l.length:=by
 unfold ix;rw[Vt];have e:=yy x lev l 32;have d:(l.filter fun p=>decide (ck x lev p.1<32))=l:=gK.2 fun p _=>decide_eq_true (Af x lev p.1)
 rw[d]at e;rw[←e];refine congrArg List.sum (List.map_congr_left fun c hc=>?_)
 have:=h c (g7.1 hc);match hp:part x lev c l with
 | []=>rfl
 | [p]=>rfl
 |a::b::r=>rw[hp]at this;simp at this
theorem Sr{W:Nat→Prop}{x:Hs}{h:ad}{m b:Nat}{l:List Pr}(t:TrieAt W x h m b l)(D:l.length≤1000000):
  ∃d n sp sk bu ow lp lk,h[b]? =some (.cells (gc d n sp sk bu ow) bU (0,0))∧Sl eu 2 W h sp lp∧Sl uJ 1 W h sk lk∧lp.length≤1000000∧lk.length≤32∧(lp.length+lk.length=1∧n=0↔l.length=1)∧∀p,l= [p]→lp= [p]:=by
 cases m with
 |zero=>
  obtain⟨sp,sk,ow,w,a,f,_⟩:=BuckAt.ex t;exact⟨0,0,sp,sk,true,ow,l,[],w,a,f,D,by simp,by simp,fun p e=>e⟩
 |succ m=>
  obtain⟨s,C,o⟩:=t;have o:∀c,c<32→SlotIs W x h m s c (part x (12-m) c l):=o;obtain⟨d,n,sp,sk,ow,w,bits,a,f,_⟩:=C.ex;have k:=Ie o;have B:=AS (g:=s.p);refine⟨d,n,sp,sk,false,ow,_,_,w,a,f,by omega,AS,?_,?_⟩
  ·by_cases u:∀c,c<32→s.k c=none
   ·have z:n=0:=Nat.eq_of_testBit_eq fun c=>by
     rw[ij];by_cases hc:c<32
     ·rw[bits.nk c hc,u c hc];rfl
     ·exact Nat.testBit_lt_two_pow (aD bits.n32 (Nat.pow_le_pow_right (n:=2) (by omega) (by omega:32≤c)))
    have ek:fm s.k 32= []:=by
     unfold fm;rw[List.filterMap_eq_nil_iff];exact fun c hc=>u c (g7.1 hc)
    have v:(fm s.p 32).length=l.length:=by
     rw[k];refine P4 fun c hc=>?_
     rcases o c hc with⟨i,_⟩|⟨p,i,_⟩|⟨_,_,E,h2,_⟩
     ·rw[i];simp
     ·rw[i];simp
     ·rw[u c hc]at h2;cases h2
    rw[ek,v,z];simp
   ·obtain⟨c,hc⟩:=Classical.not_forall.1 u
    obtain⟨hc,j⟩:=Classical.not_imp.1 hc;have A:n≠0:=fun z=>by
     have:=bits.nk c hc;rw[z,ij]at this;cases hkk:s.k c with
     |none=>exact j hkk
     |some y=>rw[hkk]at this;cases this
    rcases o c hc with⟨_,_,i⟩|⟨p,_,_,i⟩|⟨h2,_⟩
    ·exact absurd i j
    ·exact absurd i j
    ·have:=lx (x:=x) (lev:=12-m) (c:=c) (l:=l)
     constructor
     ·rintro⟨_,e⟩;exact absurd e A
     ·intro e;omega
  ·rintro p rfl
   rw[k];have hc:=Af x (12-m) p.1;have v:(ix x (12-m) [p]).length=1:=P4 fun c _=>bh lx (by simp)
   match hq:ix x (12-m) [p],v with
   | [q],_=>
    have:q∈ix x (12-m) [p]:=by rw[hq];exact aF.2 rfl
    rw[aF.1 (tS this)]
theorem aaz{h:ad}{b d n:Nat}{sp sk:SliceV}{c:Bool}{ow:Option Addr}(a:h[b]? =some (.cells (gc d n sp sk c ow) bU (0,0))) (g:sp.len+sk.len≤1000000000) {K:Int→ad→Prop} (f:K ((sp.len+sk.len:Nat):Int) h):HC PG nO [.pointer (some ⟨b,0,none⟩)] [.c (.int .i64)] K h:=by
 refine Aj _ ?_;unfold vo bV;refine ag.2 ⟨_,rfl,sp,fF (i:=2) a,_,rfl,sk,fF (i:=3) a,?_⟩;have e:IntKind.wrap .i64 ((sp.len:Int)+(sk.len:Int))=((sp.len+sk.len:Nat):Int):=by rw[dI (by omega)];omega
 rw[e];exact f
theorem Zu{W:Nat→Prop}{x:Hs}{h:ad}{m b:Nat}{l:List Pr}(t:TrieAt W x h m b l)(I:l.length≤1000000){K:Pr×Bool→ad→Prop}
  (u:∀h' p,Upd No h h'→(l.length=1→l= [p])→K (p,decide (l.length=1)) h'):HC PG yg [.pointer (some ⟨b,0,none⟩)] [.agg [.str,.str],.c .bool] K h:=by
 refine L6 _ ?_;unfold CR bX eW ay az lN is;refine aW fun F b1 k1=>?_
 have D:=TrieAt.upd0 k1 t;obtain⟨d,n,sp,sk,L,ow,N,lk,v,j,z,H,E,c,f⟩:=Sr D I;have J:=j.len;have O:=z.len;refine Join.intro (fun t h'=>t= !decide (l.length=1)∧h'=F) (fun R C=>?_) ?_
 ·refine aaz v (by omega) ?_
  by_cases e:sp.len+sk.len=1
  ·have B:((sp.len+sk.len:Nat):Int)=1:=by omega
   rw[B];refine ag.2 (En v (C _ _ ⟨?_,rfl⟩));by_cases A:n=0
   ·rw[decide_eq_true (c.1 ⟨by omega,A⟩),A];rfl
   ·rw[decide_eq_false fun h=>A (c.2 h).2]
    exact bne_iff_ne.2 (by omega)
  ·have B:(((sp.len+sk.len:Nat):Int) !=(1:Int))=true:=bne_iff_ne.2 (by omega)
   rw[B];refine au.2 (C _ _ ⟨?_,rfl⟩);rw[decide_eq_false fun h=>e (by have:=(c.2 h).1;omega)];rfl
 ·rintro _ h' ⟨rfl,rfl⟩
  have k:h'[h.size]? =some (.cells #[.string Sb.1,.string Sb.2] ao (0,0)):=b1;by_cases e:l.length=1
  ·rw[decide_eq_true e]
   refine ag.2 ?_;refine r9 v j (by omega) fun M h2 o q=>?_
   match l,e,f with
   | [p],e,f=>
    have w:=f p rfl;subst w;have s:=o.len;obtain⟨a,G,_,hv⟩:=(o.sl (W:=No) fun _ _ _ h=>h).at (i:=0) (x:=p) rfl
    refine⟨⟨by omega,by simp at s;omega⟩,a,G,p.1,hv 0 _ rfl,p.2,hv 1 _ rfl,?_⟩
    refine G7 (p:=p) (q.get0 k) fun y b3 g=>⟨_,vc b3 0,_,vc b3 1,?_⟩
    have:=u y p ((k1.tr q).own g (aj _)) fun _=>rfl
    exact this
  ·have:=u
   rw[decide_eq_false e];rw[decide_eq_false e]at u;refine au.2 (G7 (p:=Sb) k fun y b3 g=>⟨_,vc b3 0,_,vc b3 1,?_⟩)
   exact u y _ (k1.own g (aj _)) fun h=>absurd h e
end Go.Proofs
namespace Go.Proofs
open Go Go.Lift
theorem QA{h:ad}{s:SliceV}{l:List Pr}(f:Sl eu 2 No h s l)(hc:s.len≤s.cap)(n:bS l)(F:l.length≤1000000000)(k:ByteArray)
  {K:SliceV→ad→Prop}(u:∀s' h',OwnS eu 2 ao (fun b=>h.size≤b) h' s' (oU k l)→Upd No h h'→K s' h'):HC PG A6 [.slice s.a s.len s.cap,.string k] [.c .slice] K h:=by
 refine RE s k ?_;unfold HG D2;have e:=f.len;refine OF f n F k fun h2 a=>?_
 have E:=Yy l k;cases ht:cG l k with
 |false=>
  refine au.2 (yL (f.upd a fun _ h=>h.elim) (by omega) fun J I t w=>?_)
  rw[Bg (D9 ht)]at u;exact u _ _ (t.more fun b o=>bh a.size o) (a.tr w)
 |true=>
  obtain⟨C,_⟩:=Oj n ht;have A:IntKind.wrap .i64 ((rl l k:Int)+1)=((rl l k+1:Nat):Int):=by rw[dI (by omega)];omega
  refine ag.2 ?_;simp only;rw[A];refine⟨by omega,by omega,?_⟩
  simp only[Bd,aR];refine bM ?_;have d:=f.upd a fun _ h=>h.elim
  have q:=Upd.hnew No h2 [.slice (aY s.a 0 s.cap 2) (rl l k-0) (s.cap-0),.slice (aY s.a (rl l k+1) s.cap 2) (s.len-(rl l k+1)) (s.cap-(rl l k+1))] cD;have B:=cq h2 [.slice (aY s.a 0 s.cap 2) (rl l k-0) (s.cap-0),.slice (aY s.a (rl l k+1) s.cap 2) (s.len-(rl l k+1)) (s.cap-(rl l k+1))] cD;have z:=N5 d (i:=0) (j:=rl l k) (m:=s.cap) (aS _) E (by omega) (s.cap-0)
  have p:=N5 d (i:=rl l k+1) (j:=l.length) (m:=s.cap) (by omega) (aj _) (by omega) (s.cap-(rl l k+1));rw[←e]at p;rw[List.drop_zero]at z;rw[List.take_of_length_le (by rw[aU];omega)]at p;have D:oU k l= [l.take (rl l k-0),l.drop (rl l k+1)].flatten:=by rw[←Vx k n];unfold W2;rw[if_pos ht];simp
  refine Nv (s:=⟨some (aG h2),2,2⟩) (vs:= [⟨aY s.a 0 s.cap 2,rl l k-0,s.cap-0⟩,⟨aY s.a (rl l k+1) s.cap 2,s.len-(rl l k+1),s.cap-(rl l k+1)⟩]) (ls:= [l.take (rl l k-0),l.drop (rl l k+1)])
   ⟨rfl,fun x=>⟨rfl,pC⟩,fun _=>⟨_,rfl,fun h=>h.elim,pI B fun i v hv=>by simpa[adj]using hv⟩⟩ ⟨z.upd q fun _ h=>h.elim,p.upd q fun _ h=>h.elim,trivial⟩ ?_ (by simp) fun H G c g=>?_
  ·simp only[List.flatten_cons,List.flatten_nil,ac,aI,aU,List.length_nil];omega
  ·rw[←D]at c
   have y:=a.tr q;exact u _ _ (c.more fun b o=>bh y.size o) (y.tr g)
theorem Zk{W:Nat→Prop}{h:ad}{b:Nat}{l:List Pr}(o:BuckAt W h b l)(m:∀x,W x→x<h.size)(y:bS l)(u:l.length≤1000000000)(k:ByteArray){K:Option Addr→ad→Prop}
  (F:∀h' b',BuckAt W h' b' (oU k l)→Upd No h h'→K (some ⟨b',0,none⟩) h'):
  HC PG tZ [.pointer (some ⟨b,0,none⟩),.pointer none,.string k] [.c .ptr] K h:=by
 refine GE _ none k ?_;unfold y6 dG D2 bV o9;obtain⟨sp,sk,ow,z,v,D,w,C⟩:=o.ex;refine gL z (ag.2 ?_);refine Vf o u fun h2 B t b2 p q g=>?_
 refine⟨_,rfl,B,fF (i:=2) b2,?_⟩;refine QA (p.sl fun _ _ _ h=>h) p.cap y u k fun s G f c=>?_
 have b3:=c.get0 b2;refine⟨_,rfl,ZR (i:=2) b3 (show 2<6 by decide),Ly (i:=2) (c':=gc 0 0 s t true none) b3 rfl fun E A a=>?_⟩
 have H:=bC b2;have n:=f.upd a fun x hx e=>by have e:x=h.size:=e;omega
 have j:=(q.upd c fun _ _ h=>h).upd a fun x hx e=>by have e:x=h.size:=e;omega
 refine F E h.size ⟨⟨s,t,none,A,n.sl fun x hx _ d=>?_,j.sl fun x hx _ d=>?_,f.cap,q.cap⟩,fun d=>?_⟩ ((g.tr c).trans a fun x hx=>.inr ?_)
 ·have:=m x d;have:=g.size;omega
 ·have:=m x d;omega
 ·have:=m _ d;omega
 ·have hx:x=h.size:=hx
  omega
theorem Rh{W:Nat→Prop}{x:Hs}:∀(m:Nat),m≤13→∀{b:Nat} {l:List Pr} (k:ByteArray) {h:ad},TrieAt W x h m b l→(∀y,W y→y<h.size)→bS l→l.length≤1000000→∀{K:(Option Addr)×Bool→ad→Prop},
  (∀h' b',Upd No h h'→TrieAt W x h' m b' (oU k l)→(cG l k=false→b'=b)→K (some ⟨b',0,none⟩,cG l k) h')→
  HC PG oL [XH x k,.pointer (some ⟨b,0,none⟩),.int .i64 ((13-m:Nat):Int)] [.c .ptr,.c .bool] K h:=by
 intro m;induction m with
 |zero=>
  intro _ b l k h t hW hr hn K C;have P:∀{h'},Upd No h h'→∀y,W y→y<h'.size:=fun k y Q=>aD (hW y Q) k.size
  refine xz (x.k0,x.k1,x.mask,none,k,eP x k) (some ⟨b,0,none⟩) ((13-0:Nat):Int) ?_;unfold sR af aH nv az lN vu w9 rV Xu AB CW od CV NW Ol;refine aW fun u b1 k1=>?_
  have bk:BuckAt W u b l:=BuckAt.upd t k1 fun _ h=>h.elim
  obtain⟨sp,sk,ow,hb,_⟩:=bk.ex;refine gL hb (au.2 ⟨_,vc b1 4,abj bk hr (by omega) k fun J v i hv=>?_⟩)
  have b3:=i.get0 b1;cases w:cG l k with
  |false=>
   rw[w]at C;exact au.2 (C J b (k1.tr i) (by rw[Bg (D9 w)];exact bk.upd i fun _ h=>h.elim) fun _=>rfl)
  |true=>
   rw[w]at C;refine ag.2 ⟨none,vc b3 3,_,vc b3 4,?_⟩;refine Zk (bk.upd i fun _ h=>h.elim) (P (k1.tr i)) hr (by omega) k fun h5 b5 bk5 I=>?_
   exact C h5 b5 ((k1.tr i).tr I) bk5 fun h=>by cases h
 |succ m ih=>
  intro hm b l k h t hW hr hn K C;have P:∀{h'},Upd No h h'→∀y,W y→y<h'.size:=fun k y Q=>aD (hW y Q) k.size
  have hl:13-(m+1)<13:=by omega
  have Y:13-(m+1)=12-m:=by omega
  refine xz (x.k0,x.k1,x.mask,none,k,eP x k) (some ⟨b,0,none⟩) ((13-(m+1):Nat):Int) ?_;unfold sR af aH nv az lN vu w9 rV Xu AB CW od CV NW Ol;refine aW fun u b1 k1=>?_
  have t1:=TrieAt.upd0 k1 t;obtain⟨s,E,hs⟩:=t1;have hs:∀c,c<32→SlotIs W x u m s c (part x (12-m) c l):=hs;obtain⟨d,n,sp,sk,ow,hb,_⟩:=E.ex;refine gL hb (ag.2 ⟨_,vc b1 5,TM hl ?_⟩);rw[Y];have hi:=Af x (12-m) k;have N:=hs _ hi;have D:cG (part x (12-m) (ck x (12-m) k) l) k=cG l k:=IP;have Z:bS (part x (12-m) (ck x (12-m) k) l):=ju hr;have S:(part x (12-m) (ck x (12-m) k) l).length≤1000000:=bh lx hn
  have o:∀{h':ad} {b':Nat} {s':Slots},Upd No u h'→NodeAt W h' b' s'→(∀c,c≠ck x (12-m) k→s'.p c=s.p c∧s'.k c=s.k c)→SlotIs W x h' m s' (ck x (12-m) k) (oU k (part x (12-m) (ck x (12-m) k) l))→TrieAt W x h' (m+1) b' (oU k l):=fun O nd hp hi=>Sq O nd hs hp hi
  have tt:∀{h':ad},Upd No u h'→TrieAt W x h' (m+1) b l:=fun O=>TrieAt.upd0 (k1.tr O) t
  generalize hc:ck x (12-m) k=c at*;generalize hlc:part x (12-m) c l=lc at*;refine AL E hi fun J i=>?_
  refine aW fun h4 b4 k4=>?_
  have b4':h4[J.size]? =some (.cells #[.string Sb.1,.string Sb.2] ao (0,0)):=b4;refine G7 (p:=Gd (s.p c)) b4' fun h5 b5 I=>?_
  have a:Upd No u h5:=(i.tr k4).own I i.size;have H:=a.get0 b1;have U:=E.upd a fun _ h=>h.elim
  have same:∀{h':ad},Upd No u h'→cG l k=false→K (some ⟨b,0,none⟩,false) h':=fun O w=>by
   have:=C _ b (k1.tr O) (by rw[Bg (D9 w)];exact tt O) fun _=>rfl
   rw[w]at this;exact this
  cases hsp:s.p c with
  |some y=>
   rw[hsp]at b5;obtain⟨A,hk0⟩:lc= [y]∧s.k c=none:=by
    rcases N with⟨_,h2,_⟩|⟨q,u,h2,J⟩|⟨_,h2,_⟩
    ·rw[hsp]at h2;cases h2
    ·rw[hsp]at h2;cases h2;exact⟨u,J⟩
    ·rw[hsp]at h2;cases h2
   refine au.2 ⟨y.1,vc b5 0,k,vc H 4,?_⟩;rw[fg];by_cases T:y.1=k
   ·have w:cG l k=true:=by rw[←D,A];exact cA.2 ⟨y,aF.2 rfl,decide_eq_true T⟩
    rw[decide_eq_true T];rw[w]at C;refine ag.2 ⟨none,vc H 3,Za U (P (k1.tr a)) hi fun h6 b6 nd6 F=>?_⟩
    refine C h6 b6 ((k1.tr a).tr F) (o (a.tr F) nd6 (fun c' j=>⟨gr j,gr j⟩) ?_) fun h=>by cases h
    refine .inl ⟨?_,gS,gS⟩;rw[A,yI,if_pos T];rfl
   ·rw[decide_eq_false T]
    have w:cG l k=false:=by
     rw[←D,A];unfold cG;rw[uF,decide_eq_false T];rfl
    exact au.2 (same a w)
  |none=>
   refine ag.2 (xk U hi ?_);cases hsk:s.k c with
   |none=>
    have V:lc= []:=by
     rcases N with⟨u,_⟩|⟨q,_,h2,_⟩|⟨_,_,R,h2,_⟩
     ·exact u
     ·rw[hsp]at h2;cases h2
     ·rw[hsk]at h2;cases h2
    exact au.2 (same a (by rw[←D,V];rfl))
   |some kp=>
    obtain⟨h2l,R,rfl,tk⟩:2≤lc.length∧∃R,kp=some ⟨R,0,none⟩∧TrieAt W x u m R lc:=by
     rcases N with⟨_,_,h2⟩|⟨q,_,h2,_⟩|⟨u,_,R,h2,J⟩
     ·rw[hsk]at h2;cases h2
     ·rw[hsp]at h2;cases h2
     ·rw[hsk]at h2;cases h2;exact⟨u,R,rfl,J⟩
    refine ag.2 ⟨_,vc H 0,_,vc H 1,_,vc H 2,_,vc H 3,_,vc H 4,_,vc H 5,?_⟩;have ew:IntKind.wrap .i64 (((12-m:Nat):Int)+1)=((13-m:Nat):Int):=by rw[dI (by omega)];omega
    rw[ew];refine ih (by omega) k (TrieAt.upd0 a tk) (P (k1.tr a)) Z S fun h6 b6 F t6 hsame=>?_
    have B:=a.tr F;rw[D];cases w:cG l k with
    |false=>exact au.2 (same B w)
    |true=>
     rw[w]at C;have hdl:=Vw (k:=k) Z;have hdn:(oU k lc).length≤1000000:=bh TL S;refine ag.2 (Zu t6 hdn fun h7 p G hp=>?_)
     refine aW fun h8 b8 k8=>?_
     have b8':h8[h7.size]? =some (.cells #[.string Sb.1,.string Sb.2] ao (0,0)):=b8;refine G7 (p:=p) b8' fun h9 b9 hu9=>?_
     have f:Upd No u h9:=((B.tr G).tr k8).own hu9 (B.tr G).size;have c9:=f.get0 b1;have X:=E.upd f fun _ h=>h.elim
     refine ax (fun e=>?_) fun e=>?_
     ·refine⟨none,vc c9 3,p.1,vc b9 0,p.2,vc b9 1,tP X (P (k1.tr f)) hi (fun y Q=>by rw[hsp]at Q;cases Q) p fun M L z g=>?_⟩
      refine C M L ((k1.tr f).tr g) (o (f.tr g) z (fun c' j=>⟨gr j,gr j⟩) ?_) fun h=>by cases h
      exact .inr (.inl ⟨p,hp e,gS,gS⟩)
     ·refine⟨none,vc c9 3,yu X (P (k1.tr f)) hi (fun _ _=>hsp) ⟨b6,0,none⟩ fun M L z g=>?_⟩
      refine C M L ((k1.tr f).tr g) (o (f.tr g) z (fun c' j=>⟨gr j,gr j⟩) ?_) fun h=>by cases h
      exact .inr (.inr ⟨by omega,gS,b6,gS,TrieAt.upd0 ((G.tr k8).own hu9 G.size|>.tr g) t6⟩)
theorem OZ{W:Nat→Prop}{x:Hs}{h:ad}{b:Nat}{l:List Pr}(t:TrieAt W x h 13 b l)(o:∀y,W y→y<h.size)(p:bS l)(A:l.length≤1000000)(k:ByteArray){K:Option Addr×Bool→ad→Prop}
  (w:∀h' b',Upd No h h'→TrieAt W x h' 13 b' (oU k l)→(cG l k=false→b'=b)→K (some ⟨b',0,none⟩,cG l k) h'):
  HC PG zK [.agg #[.int .u64 x.k0,.int .u64 x.k1,.int .u64 x.mask],.pointer none,.pointer (some ⟨b,0,none⟩),.string k] [.c .ptr,.c .bool] K h:=by
 refine Pm (x.k0,x.k1,x.mask) none (some ⟨b,0,none⟩) k ?_;unfold FC af BK xa CW;refine aW fun B b1 k1=>?_
 refine N4 (.inr ⟨b,rfl,TrieAt.upd0 k1 t⟩) (fun y j=>aD (o y j) k1.size) fun h2 b2 z f i=>?_
 have c:=f.get0 b1;refine⟨_,vc c 0,_,vc c 1,_,vc c 2,_,vc c 0,_,vc c 1,_,vc c 2,?_⟩;refine vN fun C d=>?_
 have m:=d.get0 c;refine⟨⟨vc m 0,vc m 1,vc m 2⟩,?_⟩;have a:=(k1.tr f).tr d;refine Rh 13 (aj _) k (TrieAt.upd0 d z) (fun y j=>aD (o y j) a.size) p A fun v q n s g=>?_
 refine w v q (a.tr n) s fun u=>?_
 rw[g u];rcases i with e|e
 ·cases e;rfl
 ·cases e
end Go.Proofs
namespace Go.Proofs
def xU(P a:List UInt8→ByteArray→Prop)(k:List UInt8):Prop:=∀k' v',a k' v'↔k'≠k∧P k' v'
theorem TF{P:List UInt8→ByteArray→Prop}{k:List UInt8}(h:∀v,¬P k v):xU P P k:=fun k' b=>⟨fun a=>⟨fun e=>h b (e▸a),a⟩,fun h=>h.2⟩
theorem TE{w:Option ByteArray}{F:Fo}(h:ge F):xU (uY w F) (uY none F) []:=by
 intro k' a;unfold uY;constructor
 ·rintro(⟨_,f⟩|hi)
  ·cases f
  ·exact⟨rm h hi,.inr hi⟩
 ·rintro⟨e,⟨f,_⟩|hi⟩
  ·exact absurd f e
  ·exact .inr hi
theorem J9{w:Option ByteArray}{F F':Fo}{k:List UInt8}(b:k≠[])(h:xU (tF F) (tF F') k):xU (uY w F) (uY w F') k:=by
 intro k' c;unfold uY;rw[h k' c];constructor
 ·rintro(⟨e,f⟩|hi)
  ·exact⟨fun a=>b (a.symm.trans e),.inl ⟨e,f⟩⟩
  ·exact⟨hi.1,.inr hi.2⟩
 ·rintro⟨e,hi|hi⟩
  ·exact .inl hi
  ·exact .inr ⟨e,hi⟩
theorem TG{lab r:List UInt8}{w f:Option ByteArray}{F F':Fo}(h:xU (uY w F) (uY f F') r):xU (wr (lab,w,F)) (wr (lab,f,F')) (lab++r):=by
 intro k' d;constructor
 ·rintro⟨s,e,c⟩
  obtain⟨a,h2⟩:=(h s d).1 c;exact⟨fun b=>a (fk (e.symm.trans b)),s,e,h2⟩
 ·rintro⟨a,s,e,c⟩
  exact⟨s,e,(h s d).2 ⟨fun b=>a (by rw[e,b]),c⟩⟩
theorem WY{F:Fo}{i:Nat}{m:Bn}{k:List UInt8}(h:ge F)(hi:i<F.toL.length)(ek:hd F.toL[i].1=hd k)(g:xU (wr F.toL[i]) (wr m) k):xU (tF F) (tF (.ofL (F.toL.set i m))) k:=by
 intro k' f;have hc:=eT.1 h;rw[gM,gM,Fo.to_of];constructor
 ·rintro⟨n,a,b⟩
  rcases(pk hi (zq h hi)).1 a with rfl|⟨a,d⟩
  ·obtain⟨c,h2⟩:=(g k' f).1 b
   exact⟨c,_,bw hi,h2⟩
  ·refine⟨fun e=>d ?_,n,a,b⟩
   obtain⟨r,j,_⟩:=b;refine zN h a (bw hi) ?_;rw[ek,←e,j,qi (hc.2 n a).1]
 ·rintro⟨c,n,a,b⟩
  by_cases e:n=F.toL[i]
  ·exact⟨m,(pk hi (zq h hi)).2 (.inl rfl),(g k' f).2 ⟨c,by rw[←e];exact b⟩⟩
  ·exact⟨n,(pk hi (zq h hi)).2 (.inr ⟨a,e⟩),b⟩
theorem He{α:Type}{l:List α}{i:Nat}(hi:i<l.length){x:α}(d:∀j (a:j<l.length),j≠i→l[j]≠l[i]):x∈l.take i++l.drop (i+1)↔x∈l∧x≠l[i]:=by
 constructor
 ·intro h
  rcases bI.1 h with h|h
  ·obtain⟨j,a,e⟩:=bm h
   rw[aI]at a;rw[kq]at e;exact⟨List.mem_of_mem_take h,by rw[←e];exact d j (by omega) (by omega)⟩
  ·obtain⟨j,a,e⟩:=bm h
   rw[aU]at a;rw[tu]at e;exact⟨List.mem_of_mem_drop h,by rw[←e];exact d (i+1+j) (by omega) (by omega)⟩
 ·rintro⟨h,c⟩
  obtain⟨j,a,e⟩:=bm h;rcases oQ j i with b|b|b
  ·exact bI.2 (.inl (qt (i:=j) (h:=by rw[aI];omega) (by rw[kq];exact e)))
  ·subst b;exact absurd e.symm c
  ·refine bI.2 (.inr (qt (i:=j-(i+1)) (h:=by rw[aU];omega) ?_))
   rw[tu];have:i+1+(j-(i+1))=j:=by omega
   simp only[this];exact e
theorem aaY{F:Fo}{i:Nat}(h:ge F):ge (.ofL (F.toL.take i++F.toL.drop (i+1))):=by
 have hc:=eT.1 h;rw[eT,Fo.to_of];have a:(F.toL.take i++F.toL.drop (i+1)).Sublist F.toL:=by rw[←List.eraseIdx_eq_take_drop_succ];exact List.eraseIdx_sublist ..
 exact⟨hc.1.sublist a,fun n b=>hc.2 n (a.subset b)⟩
theorem WZ{F:Fo}{i:Nat}{k:List UInt8}(h:ge F)(hi:i<F.toL.length)(ek:hd F.toL[i].1=hd k)(j:∀k' c,wr F.toL[i] k' c→k'=k):xU (tF F) (tF (.ofL (F.toL.take i++F.toL.drop (i+1)))) k:=by
 intro k' c;have hc:=eT.1 h;rw[gM,gM,Fo.to_of];constructor
 ·rintro⟨n,a,b⟩
  obtain⟨a,d⟩:=(He hi (zq h hi)).1 a;refine⟨fun e=>d ?_,n,a,b⟩
  obtain⟨r,g,_⟩:=b;refine zN h a (bw hi) ?_;rw[ek,←e,g,qi (hc.2 n a).1]
 ·rintro⟨f,n,a,b⟩
  by_cases e:n=F.toL[i]
  ·exact absurd (j k' c (by rw[←e];exact b)) f
  ·exact⟨n,(He hi (zq h hi)).2 ⟨a,e⟩,b⟩
def aa4(n:Bn)(o:Option Bn):Prop:=(o=none∧∀k v,¬wr n k v)∨∃m,o=some m∧Mi m∧hd m.1=hd n.1∧∀k v,wr m k v↔wr n k v
theorem WH{lab:List UInt8}{w:Option ByteArray}{F:Fo}(a:lab≠[])(hc:ge F)(h:w.isSome∨2≤F.toL.length):aa4 (lab,w,F) (some (lab,w,F)):=.inr ⟨_,rfl,⟨a,h,hc⟩,rfl,fun _ _=>Iff.rfl⟩
theorem WI{lab:List UInt8}{F:Fo}(h:F.toL= []):aa4 (lab,none,F) none:=by
 refine .inl ⟨rfl,fun k v hi=>?_⟩
 obtain⟨r,_,⟨_,h'⟩|h'⟩:=hi
 ·cases h'
 ·obtain⟨n,a,_⟩:=gM.1 h'
  simp only at a;rw[h]at a;cases a
theorem YD{lab lk:List UInt8}{a:Option ByteArray}{F Fk:Fo}(b:lab≠[])(hc:ge F)(h:F.toL= [(lk,a,Fk)]):aa4 (lab,none,F) (some (lab++lk,a,Fk)):=by
 have d:F=.cons lk a Fk .nil:=by
  rw[←Fo.of_to F,h];rfl
 have c:=(eT.1 hc).2 (lk,a,Fk) (by rw[h];exact aF.2 rfl);refine .inr ⟨_,rfl,⟨fun e=>b (List.append_eq_nil_iff.1 e).1,c.2.1,c.2.2⟩,qi b,fun k v=>?_⟩
 have:=Nd (lab:=lab++lk) (w:=a) (F:=Fk) lab.length k v;rw[List.take_left,g8]at this;rw[d];exact this.symm
end Go.Proofs
namespace Go.Proofs
open Go Go.Lift
theorem mJ(s:ByteArray):s.data.toList.length=s.size:=by simp
theorem Zp(a b:ByteArray):(a++b).data.toList=a.data.toList++b.data.toList:=by rw[ByteArray.data_append,Array.toList_append]
theorem Wy{a b:ByteArray}{h:ad}{K:Bool→ad→Prop}(c:K (decide (b.data.toList<+:a.data.toList)) h):HC PG ya [.string a,.string b] [.c .bool] K h:=by
 refine LP a b ?_;unfold CC is;refine Gz a b ?_;unfold yY is;refine uZ a b ?_;unfold na;have j:=mJ a;have i:=mJ b;refine ax (fun g=>?_) fun d=>?_
 ·refine⟨⟨by omega,by omega⟩,?_⟩
  rw[fg,aR];have e:decide (a.extract 0 b.size=b)=decide (b.data.toList<+:a.data.toList):=by
   rw[decide_eq_decide,←rz,EG,List.prefix_iff_eq_take,i];exact eq_comm
  rw[e];exact c
 ·have e:decide (b.data.toList<+:a.data.toList)=false:=decide_eq_false fun f=>by
   have:=f.length_le;omega
  rw[e]at c;exact c
theorem Y7{a b:ByteArray}{h:ad}{K:ByteArray×Bool→ad→Prop}(d:∀s:ByteArray,a.data.toList=b.data.toList++s.data.toList→K (s,true) h)(h2:(∀r,a.data.toList≠b.data.toList++r)→K (⟨#[]⟩,false) h):HC PG zw [.string a,.string b] [.c .str,.c .bool] K h:=by
 refine Ua a b ?_;unfold KL is;refine Wy ?_;have i:=mJ a;have f:=mJ b;by_cases c:b.data.toList<+:a.data.toList
 ·rw[decide_eq_true c]
  have g:=c.length_le;refine ag.2 ⟨⟨by omega,by omega⟩,?_⟩
  rw[aR];refine d _ ?_;rw[EH];obtain⟨r,e⟩:=c;rw[←e,←f,g8]
 ·rw[decide_eq_false c]
  exact au.2 (h2 fun r e=>c ⟨r,e.symm⟩)
def ado(W:Nat→Prop)(h:ad)(r:Option Addr)(o:Option Bn):Prop:=(r=none∧o=none)∨∃b sl m,r=some ⟨b,0,none⟩∧o=some m∧sl.data.toList=m.1∧RxN W h b sl m.2.1 m.2.2
theorem Wb{W:Nat→Prop}{h:ad}{b:Nat}{sl:ByteArray}{w:Option ByteArray}{F:Fo}(r:RxN W h b sl w F)(Z:∀y,W y→y<h.size)(hc:ge F)(q:sl.data.toList≠[])(hs1:sl.size≤1000000)(P:∀k v,tF F k v→k.length≤1000000)
  {K:Option Addr→ad→Prop}(V:∀h' r o,Upd No h h'→aa4 (sl.data.toList,w,F) o→ado W h' r o→K r h'):HC PG sA [.pointer (some ⟨b,0,none⟩),.pointer none] [.c .ptr] K h:=by
 refine E2 _ none ?_;unfold xG bE bX ay AB bK bV o9;have hr:=r;obtain⟨val,s,ow,ks,n,hv,hs,X,hF⟩:=r;have Y:=lJ.1 hF;have hn:=j6 hc;have c:=hs.len;rw[Y.1]at c;refine Join.intro (fun t h'=>t=decide (w.isSome∨2≤F.toL.length)∧h'=h) (fun R hR=>⟨_,rfl,w.isSome,dZ (i:=1) n,?_⟩) ?_
 ·cases w with
  |some v=>exact au.2 (hR _ _ ⟨rfl,rfl⟩)
  |none=>
   refine ag.2 ⟨_,rfl,s,dZ (i:=3) n,hR _ _ ⟨?_,rfl⟩⟩;rw[decide_eq_decide];constructor
   ·intro h;exact .inr (by omega)
   ·rintro(h|h)
    ·cases h
    ·omega
 ·rintro t h' ⟨rfl,rfl⟩
  refine ax (fun h2=>?_) fun h2=>?_
  ·exact V h' _ _ (Upd.refl _ _) (WH q hc h2) (.inr ⟨b,sl,_,rfl,rfl,rfl,hr⟩)
  ·have N:w=none:=by
    cases w with
    |none=>rfl
    |some v=>exact absurd (.inl rfl) h2
   subst N;have L:F.toL.length<2:=by
    rcases bZ F.toL.length 2 with h|h
    ·exact h
    ·exact absurd (.inr h) h2
   refine⟨_,rfl,s,dZ (i:=3) n,?_⟩;match hFL:F.toL,L with
   | [],_=>
    rw[hFL]at c;have e:((s.len:Int)==(0:Int))=true:=by rw[beq_iff_eq,c];rfl
    rw[e];exact au.2 (V h' _ _ (Upd.refl _ _) (WI hFL) (.inl ⟨rfl,rfl⟩))
   | [(lk,wk,Fk)],_=>
    rw[hFL]at c;have e:((s.len:Int)==(0:Int))=false:=by rw[beq_eq_false_iff_ne,c];simp
    rw[e];have d:(lk,wk,Fk)∈F.toL:=by rw[hFL];exact aF.2 rfl
    have M:=(eT.1 hc).2 _ d;have h0:0<F.toL.length:=by rw[hFL];exact pC
    obtain⟨kb,f,J,g,m⟩:=Y.at h0;have e0:F.toL[0]=(lk,wk,Fk):=by simp only[hFL];rfl
    rw[e0]at g m;simp only at g m;obtain⟨a,ha,_,S⟩:=hs.at0 J;obtain⟨p,kss,kow,E,T,O,u,G,z⟩:=m;have H:=lJ.1 z;have A:=j6 M.2.2;refine ag.2 ⟨_,rfl,s,dZ (i:=3) n,⟨by omega,by rw[c];simp⟩,a,ha,some ⟨kb,0,none⟩,S,?_⟩
    refine rY T u (by rw[H.1];exact A) fun h1 s1 b1 U D=>?_
    obtain⟨rr,vv,Q⟩:=pn hc _ d;have I:=P (lk++rr) vv (gM.2 ⟨_,d,rr,rfl,Q⟩);rw[ac]at I;have hlkl:lk.length=f.size:=by rw[←g];exact mJ f
    refine⟨_,rfl,sl,dZ (i:=0) (D.get0 n),_,rfl,f,dZ (i:=0) b1,by omega,?_⟩
    have hbl:b<h'.size:=bC n;refine zk b1 fun h2 b2 C=>?_
    have j:Upd No h' h2:=D.own C (aj _);have B:=U.upd C fun x hx e=>by have e:x=h'.size:=e;have:=hx.1;omega
    refine V h2 _ _ j (YD q hc hFL) (.inr ⟨h'.size,sl++f,_,rfl,rfl,by rw[←g];exact Zp sl f,⟨p,s1,none,E,b2,O,B.sl (fun x hx _ N=>by have:=Z _ N;have:=hx.1;omega),⟨B.cap,fun hx=>oc _ (Z _ hx)⟩,RxF.upd0 j z⟩⟩)
set_option maxHeartbeats 1000000 in
theorem Yb{W:Nat→Prop}:∀(n:Nat) {b:Nat} {sl:ByteArray} {w:Option ByteArray} {F:Fo} {h:ad} (k:ByteArray),k.size<n→RxN W h b sl w F→(∀y,W y→y<h.size)→ge F→(∀j v,tF F j v→j.length≤1000000)→∀{K:(Option Addr)×Bool→ad→Prop},
  (∀h' b' w' F' t,Upd No h h'→RxN W h' b' sl w' F'→ge F'→xU (uY w F) (uY w' F') k.data.toList→(t=false→b'=b∧∀v,¬uY w F k.data.toList v)→(t=true→∃v,uY w F k.data.toList v)→K (some ⟨b',0,none⟩,t) h')→
  HC PG oI [.pointer (some ⟨b,0,none⟩),.pointer none,.string k] [.c .ptr,.c .bool] K h:=by
 intro n;induction n with
 |zero=>intro b sl w F h k hk;omega
 |succ n ih=>
  intro b sl w F h k hkn r hW hc hbd K hk;refine E4 (some ⟨b,0,none⟩) none k ?_;unfold xI bE bX ay is dG Xu bK bV IJ o9 PT;have hr:=r;obtain⟨val,s,ow,ks,hb,hv,hs,hcap,hF⟩:=r;have U:=lJ.1 hF;have hn:=j6 hc;have hcan:=eT.1 hc;have z:∀{h':ad},Upd No h h'→(∀v,¬uY w F k.data.toList v)→K (some ⟨b,0,none⟩,false) h':=fun hu C=>hk _ b w F false hu (hr.upd0 hu) hc (TF C) (fun _=>⟨rfl,C⟩) fun h=>by cases h
  rw[fg];refine ax (fun hk0=>?_) fun hk0=>?_
  ·have hke:k.data.toList= []:=by rw[hk0]
   rw[hke]at hk z;refine⟨_,rfl,w.isSome,dZ (i:=1) hb,?_⟩;cases L:w with
   |none=>
    refine au.2 (z (Upd.refl _ _) fun v d=>?_)
    rcases d with⟨_,h⟩|h
    ·rw[L]at h;cases h
    ·exact absurd rfl (rm hc h)
   |some u=>
    refine ag.2 (rY hb hs (by rw[U.1];exact hn) fun h1 s1 b1 ho1 hu1=>?_)
    refine⟨_,rfl,ZQ (i:=1) b1 (show 1<5 by decide),Lu (i:=1) (c':=B7 sl false val s1 none) b1 rfl fun h2 b2 o=>?_⟩
    refine⟨_,rfl,ZQ (i:=2) b2 (show 2<5 by decide),Lu (i:=2) (c':=B7 sl false ⟨#[]⟩ s1 none) b2 rfl fun h3 b3 A=>?_⟩
    have E:Upd No h h3:=hu1.own (o.tr A) (aj _);have V:=ho1.upd (o.tr A) fun x hx e=>by have e:x=h.size:=e;have:=hx.1;omega
    refine hk h3 h.size none F true E ⟨⟨#[]⟩,s1,none,ks,b3,rfl,V.sl (fun x hx _ L=>by have:=hW _ L;have:=hx.1;omega),⟨V.cap,fun hx=>oc _ (hW _ hx)⟩,RxF.upd0 E hF⟩ hc (TE hc) (fun h=>by cases h) fun _=>⟨u,.inl ⟨rfl,L⟩⟩
  ·have p:k.data.toList≠[]:=fun e=>hk0 (by cases k;exact congrArg nJ (Array.toList_inj.1 e))
   obtain⟨c0,hc0,hc0e⟩:=Gb p;refine⟨c0,Int.le_refl _,hc0,?_⟩;have hlk:k.data.toList.length=k.size:=mJ k;refine FZ hr hc (c:=c0.toNat) (UInt8.toNat_lt _) fun i ok X hlo hhi hok=>?_
   rw[hc0e]at hlo hhi hok;cases ok with
   |false=>
    refine au.2 (z (Upd.refl _ _) fun v d=>?_)
    rcases d with⟨h,_⟩|d
    ·exact p h
    ·obtain⟨n',hn',e,_⟩:=tT hc d
     obtain⟨j,hj,rfl⟩:=bm hn';rcases bZ j i with hl|hl
     ·have:=hlo j hj hl;omega
     ·have h1:=hhi j hj hl
      have h2:=hhi i (by omega) (aj _);rcases bZ i j with hl2|hl2
      ·have h3:=ce.1 hcan.1 i j (by omega) hj hl2
       omega
      ·have:i=j:=by omega
       subst this;have:=hok.2 ⟨hj,e⟩;cases this
   |true=>
    obtain⟨hi,T⟩:=hok.1 rfl;refine ag.2 ⟨_,rfl,s,dZ (i:=3) hb,?_⟩;obtain⟨kb,ksl,hki,B,G⟩:=U.at hi;have H:F.toL[i]∈F.toL:=bw hi;have N:=hcan.2 _ H;obtain⟨a,ha,_,hvv⟩:=hs.at0 hki;have hslen:=hs.len;rw[U.1]at hslen;have hlt1:(i:Int)<((s.len:Nat):Int):=by omega
    refine⟨⟨by simp only;omega,hlt1⟩,a,ha,some ⟨kb,0,none⟩,hvv,_,rfl,?_⟩;obtain⟨kval,kss,kow,kks,hkb,_⟩:=id G;have D:∀v,tF F k.data.toList v→wr F.toL[i] k.data.toList v:=fun v d=>by
     obtain⟨n',hn',e,hN⟩:=tT hc d;rw[←zN hc hn' H (by omega)];exact hN
    have q:∀j v,wr F.toL[i] j v→tF F j v:=fun j v d=>gM.2 ⟨_,H,d⟩
    have g:∀{m:Bn},Mi m→hd m.1=hd F.toL[i].1→ge (.ofL (F.toL.set i m)):=fun h1 h2=>VG hc hi h1 h2
    have S:∀{m:Bn},xU (wr F.toL[i]) (wr m) k.data.toList→xU (tF F) (tF (.ofL (F.toL.set i m))) k.data.toList:=fun hp=>WY hc hi T hp
    have Q:(∀k' v',wr F.toL[i] k' v'→k'=k.data.toList)→xU (tF F) (tF (.ofL (F.toL.take i++F.toL.drop (i+1)))) k.data.toList:=fun hp=>WZ hc hi T hp
    have hrset:∀{h':ad} {k':Option Addr} {m:Bn},Upd No h h'→Kid W h' k' m→RxL W h' (ks.set i k') (F.toL.set i m):=fun hu hkd=>(U.upd0 hu).set hi hkd
    generalize F.toL[i]=m at B G N D q g S Q T;obtain⟨lab,wk,Fk⟩:=m;simp only at B G N T g;refine⟨ksl,dZ (i:=0) hkb,Y7 (fun P f=>?_) fun C=>?_⟩
    ·rw[B]at f
     have hlne:lab.length≠0:=fun e=>N.1 (List.length_eq_zero_iff.1 e)
     have hrl:P.size<k.size:=by
      rw[←mJ P,←hlk,f,ac];omega
     refine ag.2 ⟨_,rfl,s,dZ (i:=3) hb,⟨by simp only;omega,hlt1⟩,a,ha,some ⟨kb,0,none⟩,hvv,?_⟩;have hkbd:∀j v,tF Fk j v→j.length≤1000000:=fun j v d=>by
      have:=hbd _ v (q (lab++j) v ⟨j,rfl,.inr d⟩);rw[ac]at this;omega
     refine ih P (by omega) G hW N.2.2 hkbd fun h2 b2 w2 F2 t o rn2 hc2 hd2 hg0 hg1=>?_
     cases t with
     |false=>
      refine au.2 (z o fun v d=>?_)
      rcases d with⟨h,_⟩|d
      ·exact p h
      ·obtain⟨r',e,hr'⟩:=D v d
       simp only at e;rw[f]at e;exact(hg0 rfl).2 v (by rw[fk e];exact hr')
     |true=>
      obtain⟨v0,hv0⟩:=hg1 rfl;have I:∃v,uY w F k.data.toList v:=⟨v0,.inr (q _ _ ⟨_,f,hv0⟩)⟩;have hdn:xU (wr (lab,wk,Fk)) (wr (lab,w2,F2)) k.data.toList:=by
       rw[f];exact TG hd2
      refine ag.2 (rY (o.get0 hb) (hs.upd o fun _ h=>h.elim) (by rw[U.1];exact hn) fun h3 s3 b3 V A=>?_)
      have E:=o.tr A;obtain⟨rr,vv,d⟩:=pn hc _ H;have hlb:lab.length≤1000000:=by
       have:=hbd _ v0 (q _ _ ⟨_,f,hv0⟩);rw[f,ac]at this;omega
      have hb2:∀j v,tF F2 j v→j.length≤1000000:=fun j v d=>by
       rcases((hd2 j v).1 (.inr d)).2 with⟨e,_⟩|h
       ·rw[e];simp
       ·exact hkbd j v h
      refine Wb (W:=Pro W h2 h3) ((rn2.less Pro.hm).upd0 A) (Pro.lt (fun y hy=>aD (hW y hy) o.size) A) hc2 (by rw[B];exact N.1) (by rw[←mJ ksl,B];exact hlb) hb2 fun h4 r4 o4 Z hm4 hr4=>?_
      rw[B]at hm4;have b4:=Z.get0 b3;have ho4:=V.upd Z fun _ _ h=>h
      have hu04:=E.tr Z;have hz2:h.size≤h2.size:=o.size;have X:i<ks.length:=by rw[U.1];exact hi
      have hlen4:=ho4.len;rcases hr4 with⟨rfl,rfl⟩|⟨b4',sl4,m4,rfl,rfl,hsl4,rn4⟩
      ·rcases hm4 with⟨_,C⟩|⟨_,e,_⟩
       ·have ew:IntKind.wrap .i64 ((i:Int)+1)=((i+1:Nat):Int):=by rw[dI (by omega)];omega
        refine au.2 ⟨_,rfl,s3,dZ (i:=3) b4,?_⟩;simp only;rw[ew];refine TI ho4 X (by rw[U.1];omega) fun s5 h5 O J=>?_
        have b5:=J.get b4 fun hx=>by have:=hx.1;omega
        refine⟨_,rfl,ZQ (i:=3) b5 (show 3<5 by decide),Lu (i:=3) (c':=B7 sl w.isSome val s5 none) b5 rfl fun h6 b6 hu6=>?_⟩
        have R:Upd No h h6:=(hu04.trans J fun x hx=>.inr (by have:=hx.1;omega)).own hu6 hz2
        have ho6:=O.upd hu6 fun x hx e=>by have e:x=h2.size:=e;have:=hx.1;omega
        refine hk h6 h2.size w _ true R ⟨val,s5,none,_,b6,hv,ho6.sl (fun x hx _ L=>by have:=hW _ L;have:=hx.1;omega),⟨ho6.cap,fun hx=>by have:=hW _ hx;omega⟩,lJ.2 (by rw[Fo.to_of];exact((U.upd0 R).take i).app ((U.upd0 R).drop (i+1)))⟩ (aaY hc) (J9 p (Q fun k' v' hN=>?_)) (fun h=>by cases h) fun _=>I
        refine Classical.byContradiction fun hne=>C k' v' ((hdn k' v').2 ⟨hne,hN⟩)
       ·cases e
      ·rcases hm4 with⟨e,_⟩|⟨m',e,hcn,hhd,hiff⟩
       ·cases e
       ·cases e
        obtain⟨a3,ha3,Y,hw3,O,J⟩:=OwnS.setAt ho4 X (some ⟨b4',0,none⟩);refine ag.2 ⟨_,rfl,s3,dZ (i:=3) b4,⟨by simp only;omega,by simp only;omega⟩,a3,ha3,?_⟩
        have hw1:Wr h4 (adr a3 (i*1)):=by
         rcases hw3 with L|⟨b',hb',L⟩
         ·cases L
         ·cases hb';exact L 0 (by simp)
        refine⟨hw1,bM ?_⟩;have b5:=J.get b4 fun e=>by have e:h2.size=a3.block:=e;have:=Y.1;omega
        have hu45:Upd No h2 _:=(A.tr Z).trans J fun x hx=>.inr (by have hx:x=a3.block:=hx;have:=Y.1;omega)
        have hu05:=o.tr hu45;have eset:ks.set i (some ⟨b4',0,none⟩)=ks.take i++some ⟨b4',0,none⟩::ks.drop (i+1):=by rw[List.set_eq_take_append_cons_drop,if_pos X]
        rw[←eset]at O;have rn5:=(rn4.updM (M:=(· =a3.block)) J fun y hy=>.inl (.inr (by have hy:y=a3.block:=hy;have:=Y.1;have:=Y.2;omega))).less (W':=W) fun y hy=>.inl (.inl hy)
        exact hk _ h2.size w _ true hu05 ⟨val,s3,none,_,b5,hv,O.sl (fun x hx _ L=>by have:=hW _ L;have:=hx.1;omega),⟨O.cap,fun hx=>by have:=hW _ hx;omega⟩,lJ.2 (by rw[Fo.to_of];exact hrset hu05 ⟨b4',sl4,rfl,hsl4,rn5⟩)⟩ (g hcn hhd) (J9 p (S fun k' v'=>by rw[hiff k' v'];exact hdn k' v')) (fun h=>by cases h) fun _=>I
    ·rw[B]at C
     refine au.2 (z (Upd.refl _ _) fun v d=>?_)
     rcases d with⟨h,_⟩|d
     ·exact p h
     ·obtain⟨r',e,_⟩:=D v d
      exact C r' e
end Go.Proofs
namespace Go.Proofs
open Go Go.Lift
theorem Wj{w:Option ByteArray}{F:Fo}{l:List Pr}(h:∀k v,(k,v)∈x7 w F↔∃p∈l,p.1.data.toList=k∧p.2=v)(a:Fit l):∀j v,tF F j v→j.length≤1000000:=fun j v hi=>by
 obtain⟨p,b,e,_⟩:=(h j v).1 (kI.2 (.inr hi));have:=(a p b).1;rw[←e,mJ];omega
theorem Ob{W:Nat→Prop}{h:ad}{b:Nat}{l:List Pr}(t:RadAt W h b l)(D:∀y,W y→y<h.size)(E:Fit l)(k:ByteArray){K:Option Addr×Bool→ad→Prop}
  (M:∀h' b',Upd No h h'→RadAt W h' b' (oU k l)→(cG l k=false→b'=b)→K (some ⟨b',0,none⟩,cG l k) h'):
  HC PG zB [.pointer none,.pointer (some ⟨b,0,none⟩),.string k] [.c .ptr,.c .bool] K h:=by
 refine Pc none (some ⟨b,0,none⟩) k ?_;unfold Fq Xu;refine FX (.inr ⟨b,rfl,t⟩) D fun h2 b2 O g s=>?_
 have x:b2=b:=by
  rcases s with e|e
  ·cases e;rfl
  ·cases e
 subst x;obtain⟨w,F,N,G,m⟩:=O.ex;refine Yb (k.size+1) k (by omega) N (fun y I=>aD (D y I) g.size) G (Wj m E) fun J b3 P F' a B C z n i u=>?_
 have f:∀v,uY w F k.data.toList v↔(k,v)∈l:=fun v=>by
  rw[←kI,m];constructor
  ·rintro⟨p,A,H,rfl⟩
   rw[←rz.1 H];exact A
  ·intro A;exact⟨_,A,rfl,rfl⟩
 have o:a=cG l k:=by
  cases a with
  |false=>
   refine(AK fun q c e=>(i rfl).2 q.2 ((f _).2 ?_)).symm
   rw[←e];exact c
  |true=>
   obtain⟨v,hv⟩:=u rfl;exact(cA.2 ⟨_,(f v).1 hv,decide_eq_true rfl⟩).symm
 subst o;refine M J b3 (g.tr B) ⟨P,F',C,z,fun j v=>?_⟩ fun L=>(i L).1
 rw[kI,n j v,←kI,m];constructor
 ·rintro⟨d,q,c,rfl,rfl⟩
  exact⟨q,Ik.2 ⟨c,fun e=>d (by rw[e])⟩,rfl,rfl⟩
 ·rintro⟨q,c,rfl,rfl⟩
  obtain⟨c,d⟩:=Ik.1 c;exact⟨fun e=>d (rz.1 e),q,c,rfl,rfl⟩
theorem GT{W:Nat→Prop}{x:Hs}{h:ad}{o:Int}{t:Tr}{l:List Pr}(i:TreeIs W h o x t l)(hW:∀y,W y→y<h.size)(hr:bS l)(hf:Fit l)(hn:l.length≤1000000)(k:ByteArray)(Q:k.size≤256){K:Tr×Int→ad→Prop}
  (M:∀h' j,TreeIs W h' o x j (oU k l)→(cG l k=false→j=t)→Upd No h h'→K (j,if cG l k then 0 else 4) h'):HC PG mE [Ia t,.pointer none,.string k] [.agg [.int .i64,.int .u64,.int .u64,.int .u64,.ptr,.ptr],.c (.int .i64)] K h:=by
 refine Ca t none k ?_;unfold vB aZ af aH eW nv xa Ay rT is df Lo dG Xu;refine aW fun d b1 k1=>aW fun h2 b2 O=>?_
 have z1:=bC b1;have z2:=bC b2;have s1:h.size≤d.size:=k1.size;have U:=k1.tr O;refine BL (v:=⟨#[]⟩) Q (aS 4096) (ag.2 ?_);have B:=O.get0 b1;refine⟨_,vc B 0,_,vc B 1,_,vc B 2,_,vc B 3,_,vc B 4,_,vc B 5,?_⟩;refine aW fun h3 b3 Y=>?_
 have z3:=bC b3;have s2:d.size≤h2.size:=O.size;refine dH (c:=oF IM) (vs:=oF t) b3 rfl fun H Z C=>?_
 have w:Upd No h H:=(U.tr Y).own C (by omega);have F:Upd No h2 H:=Y.own C (aj _);have s4:h3.size≤H.size:=C.size;have u:=F.get0 B;have d4:=F.get0 b2;have i4:=i.pro w;have E:=Pro.lt hW w;have T:∀{a:ad} {j:Tr},Upd No h a→a[h.size]? =some (.cells (oF j).toArray bD (0,0))→a[d.size]? =some (.cells (oF IM).toArray bD (0,0))→a[h2.size]? =some (.cells (oF t).toArray bD (0,0))→TreeIs (Pro W h H) a o x j (oU k l)→(cG l k=false→j=t)→
   CondP (!cG l k) (∃v41:Int,aO a (adr (aG h2) 0)=some (.int .i64 v41)∧
    ∃v42:Int,aO a (adr (aG h2) 1)=some (.int .u64 v42)∧
    ∃v43:Int,aO a (adr (aG h2) 2)=some (.int .u64 v43)∧
    ∃v44:Int,aO a (adr (aG h2) 3)=some (.int .u64 v44)∧
    ∃v45:Option Addr,aO a (adr (aG h2) 4)=some (.pointer v45)∧
    ∃v46:Option Addr,aO a (adr (aG h2) 5)=some (.pointer v46)∧
    (wn a (some (aG d)) 0 [.int .i64 v41,.int .u64 v42,.int .u64 v43,.int .u64 v44,.pointer v45,.pointer v46]∧
     At (jj a (aG d) 0 [.int .i64 v41,.int .u64 v42,.int .u64 v43,.int .u64 v44,.pointer v45,.pointer v46]) (fun n=>
      ∃v48:Int,aO n (adr (aG d) 0)=some (.int .i64 v48)∧
      ∃v49:Int,aO n (adr (aG d) 1)=some (.int .u64 v49)∧
      ∃v50:Int,aO n (adr (aG d) 2)=some (.int .u64 v50)∧
      ∃v51:Int,aO n (adr (aG d) 3)=some (.int .u64 v51)∧
      ∃v52:Option Addr,aO n (adr (aG d) 4)=some (.pointer v52)∧
      ∃v53:Option Addr,aO n (adr (aG d) 5)=some (.pointer v53)∧
      K ((v48,v49,v50,v51,v52,v53),4) n))) (
    ∃v54:Int,aO a (adr (aG h) 0)=some (.int .i64 v54)∧
    ∃v55:Int,aO a (adr (aG h) 1)=some (.int .u64 v55)∧
    ∃v56:Int,aO a (adr (aG h) 2)=some (.int .u64 v56)∧
    ∃v57:Int,aO a (adr (aG h) 3)=some (.int .u64 v57)∧
    ∃v58:Option Addr,aO a (adr (aG h) 4)=some (.pointer v58)∧
    ∃v59:Option Addr,aO a (adr (aG h) 5)=some (.pointer v59)∧
    (wn a (some (aG d)) 0 [.int .i64 v54,.int .u64 v55,.int .u64 v56,.int .u64 v57,.pointer v58,.pointer v59]∧
     At (jj a (aG d) 0 [.int .i64 v54,.int .u64 v55,.int .u64 v56,.int .u64 v57,.pointer v58,.pointer v59]) (fun m=>
      ∃v61:Int,aO m (adr (aG d) 0)=some (.int .i64 v61)∧
      ∃v62:Int,aO m (adr (aG d) 1)=some (.int .u64 v62)∧
      ∃v63:Int,aO m (adr (aG d) 2)=some (.int .u64 v63)∧
      ∃v64:Int,aO m (adr (aG d) 3)=some (.int .u64 v64)∧
      ∃v65:Option Addr,aO m (adr (aG d) 4)=some (.pointer v65)∧
      ∃v66:Option Addr,aO m (adr (aG d) 5)=some (.pointer v66)∧
      K ((v61,v62,v63,v64,v65,v66),0) m))):=fun{a j} I z J A L e=>by
  cases D:cG l k with
  |false=>
   rw[D]at M e;have N:=e rfl;subst N;refine au.2 ⟨_,vc A 0,_,vc A 1,_,vc A 2,_,vc A 3,_,vc A 4,_,vc A 5,?_⟩;refine dH (c:=oF IM) (vs:=oF j) J rfl fun P p s=>?_
   refine⟨_,vc p 0,_,vc p 1,_,vc p 2,_,vc p 3,_,vc p 4,_,vc p 5,?_⟩;exact M P j ((L.updM s (fun y q=>.inl (.inr (by have q:y=d.size:=q;omega)))).less Pro.sub) (fun _=>rfl) (I.own s s1)
  |true=>
   rw[D]at M e;refine ag.2 ⟨_,vc z 0,_,vc z 1,_,vc z 2,_,vc z 3,_,vc z 4,_,vc z 5,?_⟩;refine dH (c:=oF IM) (vs:=oF j) J rfl fun P p s=>?_
   refine⟨_,vc p 0,_,vc p 1,_,vc p 2,_,vc p 3,_,vc p 4,_,vc p 5,?_⟩;exact M P j ((L.updM s (fun y q=>.inl (.inr (by have q:y=d.size:=q;omega)))).less Pro.sub) (fun h=>by cases h) (I.own s s1)
 refine Join.intro (fun tk a=>tk=cG l k∧Upd No h a∧∃j,a[h.size]? =some (.cells (oF j).toArray bD (0,0))∧a[d.size]? =some (.cells (oF IM).toArray bD (0,0))∧a[h2.size]? =some (.cells (oF t).toArray bD (0,0))∧TreeIs (Pro W h H) a o x j (oU k l)∧(cG l k=false→j=t)) (fun R hR=>?_) ?_
 ·rcases i4 with⟨rfl,b,rfl,X⟩|⟨rfl,b,rfl,X⟩
  ·refine⟨_,vc u 0,ag.2 ⟨_,Av u 1 0,_,Av u 1 1,_,Av u 1 2,_,vc u 4,?_⟩⟩
   refine OZ X E hr hn k fun h5 G f S e=>?_
   refine vI (i:=4) (c':=(oF (0,x.k0,x.k1,x.mask,some ⟨G,0,none⟩,none)).toArray) (f.get0 u) (show 4<6 by decide) rfl fun a V g=>?_
   exact hR _ _ ⟨rfl,(w.tr f).own g (aj _),_,V,g.oth (f.get0 d4) (by omega),g.oth (f.get0 Z) (by omega),.inl ⟨rfl,G,rfl,TrieAt.updM g (fun y q=>.inl (.inr (by have q:y=h.size:=q;omega))) S⟩,fun D=>by rw[e D]⟩
  ·refine⟨_,vc u 0,au.2 ⟨_,vc u 5,?_⟩⟩
   refine Ob X E hf k fun h5 G f S e=>?_
   refine vI (i:=5) (c':=(oF (1,0,0,0,none,some ⟨G,0,none⟩)).toArray) (f.get0 u) (show 5<6 by decide) rfl fun a V g=>?_
   exact hR _ _ ⟨rfl,(w.tr f).own g (aj _),_,V,g.oth (f.get0 d4) (by omega),g.oth (f.get0 Z) (by omega),.inr ⟨rfl,G,rfl,S.updM g (fun y q=>.inl (.inr (by have q:y=h.size:=q;omega)))⟩,fun D=>by rw[e D]⟩
 ·rintro _ a ⟨rfl,I,j,z,J,A,L,e⟩
  exact T I z J A L e
end Go.Proofs
namespace Go.Proofs
open Go Go.Lift
theorem Yr{W:Nat→Prop}{h:ad}{s:SliceV}{l:List Pr}(u:Sl eu 2 W h s l)(B:bS l)(A:Fit l)(F:l.length≤1000000)(k:ByteArray){K:Int×Bool→ad→Prop}
  (z:∀i:Nat,(cG l k=true→∃hi:i<l.length,l[i].1=k)→K ((i:Int),cG l k) h):HC PG DC [.slice s.a s.len s.cap,.string k] [.c (.int .i64),.c .bool] K h:=by
 refine Un s k ?_;unfold K5 bX ay is;have y:=u.len;refine LoopP.ghost (fun(i:Nat) (t:Int) h'=>t=(i:Int)∧i≤l.length∧h'=h∧∀j (c:j<l.length),j<i→kl l[j].1 k) (fun i=>l.length-i) 0 ⟨rfl,aS _,rfl,fun j c h=>by omega⟩ ?_
 rintro I i t h' ⟨rfl,hi,rfl,d⟩ D;refine Join.intro (fun t h2=>h2=h'∧(t=true↔∃hi:i<l.length,kl l[i].1 k)) (fun R x=>?_) ?_
 ·refine ax (fun b=>?_) fun v=>x _ _ ⟨rfl,⟨fun h=>(by cases h),fun⟨hi,_⟩=>by omega⟩⟩
  have b:i<l.length:=by omega
  obtain⟨a,o,_,hv⟩:=u.at (ae b);have C:=(A _ (bw b)).1;refine⟨⟨by omega,by omega⟩,a,o,l[i].1,hv 0 _ rfl,Qo (by omega) (x _ _ ⟨rfl,?_⟩)⟩
  rw[decide_eq_true_iff];exact⟨fun h=>⟨b,h⟩,fun⟨_,h⟩=>h⟩
 ·rintro t h2 ⟨rfl,g⟩
  cases t with
  |true=>
   obtain⟨b,n⟩:=g.1 rfl;refine au.2 ?_;rw[ga b (by omega)];refine D (i+1) _ _ ⟨rfl,b,rfl,fun j c E=>?_⟩ (by omega)
   rcases bZ j i with h|h
   ·exact d j c h
   ·have:j=i:=by omega
    subst this;exact n
  |false=>
   refine ag.2 (ax (fun b=>?_) fun v=>?_)
   ·have b:i<l.length:=by omega
    have p:¬kl l[i].1 k:=fun h=>by have:=g.2 ⟨b,h⟩;cases this
    obtain⟨a,o,_,hv⟩:=u.at (ae b);refine⟨⟨by omega,by omega⟩,a,o,l[i].1,hv 0 _ rfl,?_⟩
    rw[fg];have e:decide (l[i].1=k)=cG l k:=by
     by_cases e:l[i].1=k
     ·rw[decide_eq_true e]
      exact(cA.2 ⟨_,bw b,decide_eq_true e⟩).symm
     ·rw[decide_eq_false e]
      refine(AK fun q m f=>?_).symm
      obtain⟨j,c,rfl⟩:=bm m;have w:=qh p e;rcases oQ j i with h|h|h
      ·have:=d j c h;rw[f]at this;exact co _ this
      ·subst h;exact e f
      ·have:=ce.1 B i j b c h
       rw[f]at this;exact co _ (fR w this)
    rw[e];exact z i fun g=>⟨b,of_decide_eq_true (e.trans g)⟩
   ·have e:cG l k=false:=AK fun q m f=>by
     obtain⟨j,c,rfl⟩:=bm m;have:=d j c (by omega);rw[f]at this;exact co _ this
    have:=z i fun h=>by rw[e]at h;cases h
    rw[e]at this;exact this
theorem U8{W:Nat→Prop}{h:ad}{s:SliceV}{l:List Pr}(e:Sl eu 2 W h s l)(m:bS l)(g:Fit l)(n:l.length≤1000000)(k:ByteArray){K:ByteArray×Bool→ad→Prop}
  (c:∀v,(cG l k=true→(k,v)∈l)→(cG l k=false→v=⟨#[]⟩)→K (v,cG l k) h):HC PG wh [.slice s.a s.len s.cap,.string k] [.c .str,.c .bool] K h:=by
 refine Xm s k ?_;unfold NN bX ay D2;have f:=e.len;refine Yr e m g n k fun i hi=>?_
 cases ht:cG l k with
 |false=>rw[ht]at c;exact au.2 (c _ (fun h=>(by cases h)) fun _=>rfl)
 |true=>
  rw[ht]at c;obtain⟨b,d⟩:=hi ht;obtain⟨a,j,_,hv⟩:=e.at (ae b);refine ag.2 ⟨⟨by simp only;omega,by simp only;omega⟩,a,j,l[i].2,hv 1 _ rfl,c _ (fun _=>by rw[←d];exact bw b) fun h=>(by cases h)⟩
end Go.Proofs
namespace Go.Proofs
open Go Go.Lift
theorem YI(k:ByteArray):look [] k=none:=rfl
theorem iT(p:Pr)(l:List Pr)(k:ByteArray):look (p::l) k=if p.1=k then some p.2 else look l k:=by
 unfold look;rw[qZ];by_cases e:p.1=k
 ·rw[decide_eq_true e,if_pos e];rfl
 ·rw[decide_eq_false e,if_neg e]
theorem Es{l:List Pr}{k:ByteArray}(h:∀p∈l,kl k p.1):look l k=none:=M1 (AK fun p a e=>by have:=h p a;rw[e]at this;exact co _ this)
theorem wy{k v:ByteArray}:∀{l:List Pr},look l k=some v→(k,v)∈l
 | [],h=>by cases h
 |p::l,h=>by
  rw[iT]at h;by_cases e:p.1=k
  ·rw[if_pos e]at h;cases h;rw[←e];exact av ..
  ·rw[if_neg e]at h;exact aC _ (wy h)
theorem YJ{l m:List Pr}(b:bS l)(hm:bS m)(h:∀k,look l k=look m k):l=m:=
 yx b hm fun p=>⟨fun a=>wy (by rw[←h];exact yA b a),fun a=>wy (by rw[h];exact yA hm a)⟩
theorem JD(p:Pr)(k:ByteArray):∀{l:List Pr},look (hJ p l) k=if p.1=k then some p.2 else look l k
 | []=>iT p [] k
 |q::l=>by
  rw[hH];by_cases a:kl q.1 p.1
  ·rw[if_pos a,iT,JD p k,iT]
   by_cases e:q.1=k
   ·rw[if_pos e,if_pos e,if_neg fun b=>by rw[e,b]at a;exact co _ a]
   ·rw[if_neg e,if_neg e]
  ·rw[if_neg a]
   by_cases h2:q.1=p.1
   ·rw[if_pos h2,iT,iT,h2]
    by_cases e:p.1=k
    ·rw[if_pos e,if_pos e]
    ·rw[if_neg e,if_neg e,if_neg e]
   ·rw[if_neg h2,iT]
theorem JE(k' k:ByteArray):∀{l:List Pr},look (oU k' l) k=if k'=k then none else look l k
 | []=>by
  by_cases e:k'=k; · rw[if_pos e];rfl
  ·rw[if_neg e];rfl
 |q::l=>by
  rw[yI];by_cases h:q.1=k'
  ·rw[if_pos h,JE k' k,iT,h]
   by_cases e:k'=k
   ·rw[if_pos e,if_pos e]
   ·rw[if_neg e,if_neg e,if_neg e]
  ·rw[if_neg h,iT,JE k' k,iT]
   by_cases e:q.1=k
   ·rw[if_pos e,if_pos e,if_neg fun a=>h (by rw[e,a])]
   ·rw[if_neg e,if_neg e]
def PM(k:ByteArray)(a b:Option ByteArray):Option Ch:=if a=b then none else some (k,a.getD ⟨#[]⟩,b.getD ⟨#[]⟩,a.isSome,b.isSome)
theorem Ri(k:ByteArray)(a:Option ByteArray):PM k a a=none:=if_pos rfl
theorem BT{k:ByteArray}{a b:Option ByteArray}{c:Ch}(h:PM k a b=some c):c=(k,a.getD ⟨#[]⟩,b.getD ⟨#[]⟩,a.isSome,b.isSome)∧a≠b:=by
 unfold PM at h;by_cases e:a=b
 ·rw[if_pos e]at h;cases h
 ·rw[if_neg e]at h;cases h;exact⟨rfl,e⟩
def fd(l:List Ch)(k:ByteArray):Option Ch:=l.find? fun c=>decide (c.1=k)
theorem kP(c:Ch)(l:List Ch)(k:ByteArray):fd (c::l) k=if c.1=k then some c else fd l k:=by
 unfold fd;rw[qZ];by_cases e:c.1=k
 ·rw[decide_eq_true e,if_pos e]
 ·rw[decide_eq_false e,if_neg e]
theorem OG{k:ByteArray}{c:Ch}:∀{l:List Ch},fd l k=some c→c∈l∧c.1=k
 | [],h=>by cases h
 |a::l,h=>by
  rw[kP]at h;by_cases e:a.1=k
  ·rw[if_pos e]at h;cases h;exact⟨av ..,e⟩
  ·rw[if_neg e]at h;exact⟨aC _ (OG h).1,(OG h).2⟩
theorem acT{k:ByteArray}{l:List Ch}(h:∀c∈l,c.1≠k):fd l k=none:=by
 cases e:fd l k with
 |none=>rfl
 |some c=>exact absurd (OG e).2 (h c (OG e).1)
theorem Gh{k:ByteArray}{l:List Ch}(h:∀c∈l,kl k c.1):fd l k=none:=acT fun c hc e=>by have:=h c hc;rw[e]at this;exact co _ this
theorem TC{c:Ch}:∀{l:List Ch},oo l→c∈l→fd l c.1=some c
 |a::l,b,h=>by
  have b:=aA.1 b;rw[kP];rcases aB.1 h with rfl|h
  ·exact if_pos rfl
  ·rw[if_neg fun e=>by have:=b.1 c h;rw[e]at this;exact co _ this]
   exact TC b.2 h
theorem YY:∀{l m:List Ch},oo l→oo m→(∀k,fd l k=fd m k)→l=m
 | [],[],_,_,_=>rfl
 | [],b::m,_,_,h=>by have:=h b.1;rw[kP,if_pos rfl]at this;cases this
 |a::l,[],_,_,h=>by have:=h a.1;rw[kP,if_pos rfl]at this;cases this
 |a::l,b::m,d,hm,h=>by
  have d:=aA.1 d;have hm:=aA.1 hm;have e:a.1=b.1:=Decidable.byContradiction fun c=>by
   by_cases k:kl a.1 b.1
   ·have:=h a.1
    rw[kP,if_pos rfl,kP,if_neg (fun e=>c e.symm),Gh fun p f=>fR k (hm.1 p f)]at this;cases this
   ·have k:=qh k c
    have:=h b.1;rw[kP,kP,if_pos rfl,if_neg c,Gh fun p f=>fR k (d.1 p f)]at this;cases this
  have i:a=b:=by
   have:=h a.1;rw[kP,kP,if_pos rfl,if_pos e.symm]at this;exact bQ.inj this
  rw[i,YY d.2 hm.2 fun k=>?_]
  by_cases g:a.1=k
  ·rw[←g,Gh d.1,e,Gh hm.1]
  ·have:=h k
   rw[kP,kP,if_neg g,if_neg (by rw[←e];exact g)]at this;exact this
theorem OI{A B:List Pr}(c:bS A)(d:bS B)(k:ByteArray):fd (jX A B) k=PM k (look A k) (look B k):=by
 refine pf (P:=fun A B=>fd (jX A B) k=PM k (look A k) (look B k)) ?_ (fun a A B c _ h i=>?_) (fun b A B _ d h i=>?_) (fun a b A B e c d i=>?_) c d
 ·rw[jT];exact(Ri ..).symm
 ·rw[sK h,kP,iT,i]
  by_cases e:a.1=k
  ·rw[if_pos (show(LJ a).1=k from e),if_pos e,←e,Es h];rfl
  ·rw[if_neg (show ¬(LJ a).1=k from e),if_neg e]
 ·rw[sJ h,kP,iT,i]
  by_cases e:b.1=k
  ·rw[if_pos (show(ZS b).1=k from e),if_pos e,←e,Es h];rfl
  ·rw[if_neg (show ¬(ZS b).1=k from e),if_neg e]
 ·rw[qF e,iT,iT,←e]
  by_cases h:a.1=k
  ·rw[if_pos h,if_pos h]
   unfold zO PM;by_cases h2:a.2=b.2
   ·rw[if_pos h2,if_pos (by rw[h2]),List.nil_append,i,←h,Es (aA.1 c).1,e,Es (aA.1 d).1,Ri]
   ·rw[if_neg h2,if_neg (fun e=>h2 (bQ.inj e)),tK,kP,if_pos h,h];rfl
  ·rw[if_neg h,if_neg h,←i]
   unfold zO;by_cases h2:a.2=b.2
   ·rw[if_pos h2];rfl
   ·rw[if_neg h2,tK,kP,if_neg h]
def pg(c:Ch):Bool:=(!((!c.2.2.2.1&& !c.2.2.2.2)||(c.2.2.2.1&&(c.2.2.2.2&&decide (c.2.1=c.2.2.1)))))&&((c.2.2.2.1||decide (c.2.1=⟨#[]⟩))&&(c.2.2.2.2||decide (c.2.2.1=⟨#[]⟩)))
def one(c:Ch):Option Ch:=if pg c then some c else none
theorem Yj(k:ByteArray)(a b:Option ByteArray):pg (k,a.getD ⟨#[]⟩,b.getD ⟨#[]⟩,a.isSome,b.isSome)=decide (a≠b):=by
 cases a with
 |none=>cases b with
  |none=>rfl
  |some b=>simp[pg]
 |some a=>cases b with
  |none=>simp[pg]
  |some b=>simp[pg]
theorem We{A B:List Pr}(b:bS A)(d:bS B){c:Ch}(h:c∈jX A B):pg c=true:=by
 have:=OI b d c.1;rw[TC (ri b d) h]at this;obtain⟨e,a⟩:=BT this.symm;rw[e,Yj];exact decide_eq_true a
end Go.Proofs
namespace Go.Proofs
open Go Go.Lift
def Sg(p:Pr):Int:=if 256<p.1.size then 2 else if 4096<p.2.size then 3 else 0
theorem Ve{p:Pr}{h:ad}{K:Int→ad→Prop}(a:K (Sg p) h):HC PG l7 [.string p.1,.string p.2] [.c (.int .i64)] K h:=by
 refine E6 p.1 p.2 ?_;unfold zV;unfold Sg at a;refine ax (fun e=>?_) fun e=>ax (fun b=>?_) fun b=>?_
 ·rw[if_pos (by omega)]at a;exact a
 ·rw[if_neg (by omega),if_pos (by omega)]at a;exact a
 ·rw[if_neg (by omega),if_neg (by omega)]at a;exact a
end Go.Proofs
