/- A part of the proof that the named laws of this program answer true, whatever the input. -/
import Derived.Test.YtcpiahjlddmfiaaGreatPart4
import Derived.Test.YtcpiahjlddmfiaaGreatPart2
import Derived.Test.YtcpiahjlddmfiaaGreatPart6
import Derived.Test.YtcpiahjlddmfiaaGreatPart7
import Derived.Sort.AssemblyPlain
open Bool renaming and_eq_true→aR
open ByteArray renaming mk→wJ
open Int renaming toNat_natCast→aY,tdiv→mr
open List renaming filter_cons→bl,filter_eq_self→iw,any_eq_true→bP,length_filter_le→dk,pairwise_cons→aB,length_cons→ao,any_cons→qD,mem_cons→aq,filter_filter→kO,length_append→ad,map_append→cZ,mem_range→fS,mem_singleton→av,length_drop→aM,length_take→aP,append_cancel_left→ii,getElem_mem→bX,mem_append→aN,getElem_of_mem→bA,mem_of_getElem→nG,drop_left→g5,set_eq_take_append_cons_drop→dt,find?_cons→ll,mem_cons_self→au,mem_cons_of_mem→az,take_succ_eq_append_getElem→bF
open Nat renaming zero_le→bS,le_refl→al,zero_testBit→mU,lt_of_lt_of_le→aC,le_trans→bI,lt_or_ge→cg,lt_irrefl→lw
namespace Go.Proofs
open Go Go.Lift
def nQ(k:ByteArray)(l:List Pr):List Pr:=l.filter fun q=>decide (q.1≠k)
theorem yl(k:ByteArray)(q:Pr)(l:List Pr):nQ k (q::l)=if q.1=k then nQ k l else q::nQ k l:=by
 unfold nQ;rw[bl];by_cases h:q.1=k
 ·rw[if_pos h,if_neg (by simpa using h)]
 ·rw[if_neg h,if_pos (by simpa using h)]
theorem zG{k:ByteArray}{l:List Pr}(h:∀q∈l,q.1≠k):nQ k l=l:=iw.2 fun q a=>decide_eq_true (h q a)
theorem Ez{k:ByteArray}{l:List Pr}(h:cq l k=false):∀q∈l,q.1≠k:=fun q a e=>by
 have:cq l k=true:=bP.2 ⟨q,a,decide_eq_true e⟩;rw[h]at this;cases this
theorem EX{k:ByteArray}{l:List Pr}(h:∀q∈l,q.1≠k):cq l k=false:=by
 rcases ht:cq l k with _|_
 ·rfl
 ·obtain⟨q,a,e⟩:=bP.1 ht
  exact absurd (of_decide_eq_true e) (h q a)
theorem N6{k:ByteArray}{l:List Pr}(a:bV l):bV (nQ k l):=a.sublist List.filter_sublist
theorem Im{k:ByteArray}{l:List Pr}{p:Pr}:p∈nQ k l↔p∈l∧p.1≠k:=by unfold nQ;rw[List.mem_filter,decide_eq_true_iff]
theorem Qs{k:ByteArray}{l:List Pr}:(nQ k l).length≤l.length:=dk ..
theorem NC{k:ByteArray}:∀{l:List Pr},bV l→l.length≤(nQ k l).length+1
 | [],_=>bS _
 |q::l,a=>by
  have a:=aB.1 a;rw[yl];by_cases h:q.1=k
  ·rw[if_pos h,zG fun r hm e=>by have:=a.1 r hm;rw[h,e]at this;exact cn _ this];exact al _
  ·rw[if_neg h]
   have:=NC (k:=k) a.2;simp only[ao];omega
theorem ND(k:ByteArray):∀{l:List Pr},bV l→OF l k=nQ k l
 | [],_=>by simp[OF,nQ,cq]
 |q::l,c=>by
  have m:=c;have c:=aB.1 c;have b:pos (q::l) k=if kl q.1 k then pos l k+1 else 0:=by
   unfold pos;rw[List.takeWhile_cons];by_cases h:kl q.1 k
   ·rw[if_pos (by simpa using h),if_pos h];rfl
   ·rw[if_neg (by simpa using h),if_neg h];rfl
  have f:cq (q::l) k=(decide (q.1=k)||cq l k):=by unfold cq;rw[qD]
  by_cases h:kl q.1 k
  ·have d:q.1≠k:=fun e=>by rw[e]at h;exact cn _ h
   rw[yl,if_neg d,←ND k c.2];unfold OF;rw[f,b,if_pos h,decide_eq_false d,Bool.false_or];by_cases g:cq l k=true
   ·rw[if_pos g,if_pos g];rfl
   ·rw[if_neg g,if_neg g]
  ·by_cases e:q.1=k
   ·have a:∀r∈l,r.1≠k:=fun r hm i=>by have:=c.1 r hm;rw[e,i]at this;exact cn _ this
    rw[yl,if_pos e,zG a];unfold OF;rw[f,b,if_neg h,decide_eq_true e,Bool.true_or,if_pos rfl];rfl
   ·have j:=rB h e
    have a:∀r∈q::l,r.1≠k:=fun r hm i=>by
     rcases aq.1 hm with rfl|hm
     ·exact e i
     ·have:=c.1 r hm
      rw[i]at this;exact cn _ (gU j this)
    rw[zG a];unfold OF;rw[EX a];rfl
theorem JX{x:Hs}{lev c:Nat}{k:ByteArray}{l:List Pr}:part x lev c (nQ k l)=nQ k (part x lev c l):=by
 unfold part nQ;rw[kO,kO];exact List.filter_congr fun p _=>Bool.and_comm ..
theorem Oh{x:Hs}{lev c:Nat}{k:ByteArray}{l:List Pr}(h:c≠ck x lev k):part x lev c (nQ k l)=part x lev c l:=by
 rw[JX];exact zG fun q a e=>h (by rw[←e];exact(me.1 a).2.symm)
theorem Ln{W:Nat→Prop}{x:Hs}{h h':ac}{m b':Nat}{s s':Slots}{l:List Pr}{k:ByteArray}(g:Upd No h h')(nd:NodeAt W h' b' s')(a:∀c,c<32→SlotIs W x h m s c (part x (12-m) c l))
  (f:∀c,c≠ck x (12-m) k→s'.p c=s.p c∧s'.k c=s.k c)(hi:SlotIs W x h' m s' (ck x (12-m) k) (nQ k (part x (12-m) (ck x (12-m) k) l))):TrieAt W x h' (m+1) b' (nQ k l):=by
 refine⟨s',nd,fun c hc=>?_⟩
 by_cases e:ck x (12-m) k=c
 ·rw[JX];subst e;exact hi
 ·rw[Oh fun h=>e h.symm]
  have t:=SlotIs.upd0 g (a c hc);obtain⟨b,d⟩:=f c fun h=>e h.symm
  unfold SlotIs at t;rw[←b,←d]at t;exact t
theorem Nz{β:Type}(g:Nat→Option β):∀n,(fm g n).length=((List.range n).map fun c=>(g c).toList.length).sum
 |0=>rfl
 |n+1=>by
  rw[se,ad,Nz g n,List.range_succ,cZ,List.sum_append];simp
theorem JF{x:Hs}{lev:Nat}{l:List Pr}(h:∀c,c<32→(part x lev c l).length≤1):(uW x lev l).length=l.length:=by
 unfold uW;rw[Nz];have e:=yg x lev l 32;have d:(l.filter fun p=>decide (ck x lev p.1<32))=l:=iw.2 fun p _=>decide_eq_true (yR x lev p.1)
 rw[d]at e;rw[←e];refine congrArg List.sum (List.map_congr_left fun c hc=>?_)
 have:=h c (fS.1 hc);match hp:part x lev c l with
 | []=>rfl
 | [p]=>rfl
 |a::b::r=>rw[hp]at this;simp at this
theorem Lo{W:Nat→Prop}{x:Hs}{h:ac}{m b:Nat}{l:List Pr}(t:TrieAt W x h m b l)(D:l.length≤1000000):
  ∃d n sp sk bu ow lp lk,h[b]? =some (.cells (eK d n sp sk bu ow) be (0,0))∧Sl eJ 2 W h sp lp∧Sl rA 1 W h sk lk∧lp.length≤1000000∧lk.length≤32∧(lp.length+lk.length=1∧n=0↔l.length=1)∧∀p,l= [p]→lp= [p]:=by
 cases m with
 |zero=>
  obtain⟨sp,sk,ow,A,f,i,_⟩:=BuckAt.ex t;exact⟨0,0,sp,sk,true,ow,l,[],A,f,i,D,by simp,by simp,fun p e=>e⟩
 |succ m=>
  obtain⟨s,nd,k⟩:=t;have k:∀c,c<32→SlotIs W x h m s c (part x (12-m) c l):=k;obtain⟨d,n,sp,sk,ow,A,bits,f,i,_⟩:=nd.ex;have o:=Na k;have C:=AM (g:=s.p);refine⟨d,n,sp,sk,false,ow,_,_,A,f,i,by omega,AM,?_,?_⟩
  ·by_cases u:∀c,c<32→s.k c=none
   ·have B:n=0:=Nat.eq_of_testBit_eq fun c=>by
     rw[mU];by_cases hc:c<32
     ·rw[bits.nk c hc,u c hc];rfl
     ·exact Nat.testBit_lt_two_pow (aC bits.n32 (Nat.pow_le_pow_right (n:=2) (by omega) (by omega:32≤c)))
    have ek:fm s.k 32= []:=by
     unfold fm;rw[List.filterMap_eq_nil_iff];exact fun c hc=>u c (fS.1 hc)
    have z:(fm s.p 32).length=l.length:=by
     rw[o];refine JF fun c hc=>?_
     rcases k c hc with⟨a,_⟩|⟨p,a,_⟩|⟨_,_,E,v,_⟩
     ·rw[a];simp
     ·rw[a];simp
     ·rw[u c hc]at v;cases v
    rw[ek,z,B];simp
   ·obtain⟨c,hc⟩:=Classical.not_forall.1 u
    obtain⟨hc,j⟩:=Classical.not_imp.1 hc;have w:n≠0:=fun B=>by
     have:=bits.nk c hc;rw[B,mU]at this;cases hkk:s.k c with
     |none=>exact j hkk
     |some y=>rw[hkk]at this;cases this
    rcases k c hc with⟨_,_,a⟩|⟨p,_,_,a⟩|⟨v,_⟩
    ·exact absurd a j
    ·exact absurd a j
    ·have:=qI (x:=x) (lev:=12-m) (c:=c) (l:=l)
     constructor
     ·rintro⟨_,e⟩;exact absurd e w
     ·intro e;omega
  ·rintro p rfl
   rw[o];have hc:=yR x (12-m) p.1;have z:(uW x (12-m) [p]).length=1:=JF fun c _=>bI qI (by simp)
   match hq:uW x (12-m) [p],z with
   | [q],_=>
    have:q∈uW x (12-m) [p]:=by rw[hq];exact av.2 rfl
    rw[av.1 (Hb this)]
theorem RR{h:ac}{b d n:Nat}{sp sk:SliceV}{f:Bool}{ow:Option Addr}(a:h[b]? =some (.cells (eK d n sp sk f ow) be (0,0))) (g:sp.len+sk.len≤1000000000) {K:Int→ac→Prop} (c:K ((sp.len+sk.len:Nat):Int) h):HC PG rF [.pointer (some ⟨b,0,none⟩)] [.c (.int .i64)] K h:=by
 refine D2 _ ?_;unfold wV bR;refine ai.2 ⟨_,rfl,sp,ee (i:=2) a,_,rfl,sk,ee (i:=3) a,?_⟩;have e:IntKind.wrap .i64 ((sp.len:Int)+(sk.len:Int))=((sp.len+sk.len:Nat):Int):=by rw[d8 (by omega)];omega
 rw[e];exact c
theorem QV{W:Nat→Prop}{x:Hs}{h:ac}{m b:Nat}{l:List Pr}(t:TrieAt W x h m b l)(F:l.length≤1000000){K:Pr×Bool→ac→Prop}
  (u:∀h' p,Upd No h h'→(l.length=1→l= [p])→K (p,decide (l.length=1)) h'):HC PG uO [.pointer (some ⟨b,0,none⟩)] [.agg [.str,.str],.c .bool] K h:=by
 refine Gz _ ?_;unfold y8 cp dY aF ay rp m8;refine bi fun G b1 k1=>?_
 have I:=TrieAt.upd0 k1 t;obtain⟨d,n,sp,sk,L,ow,Q,lk,A,j,B,H,J,c,f⟩:=Lo I F;have N:=j.len;have P:=B.len;refine Join.intro (fun t h'=>t= !decide (l.length=1)∧h'=G) (fun R C=>?_) ?_
 ·refine RR A (by omega) ?_
  by_cases e:sp.len+sk.len=1
  ·have w:((sp.len+sk.len:Nat):Int)=1:=by omega
   rw[w];refine ai.2 (Kc A (C _ _ ⟨?_,rfl⟩));by_cases v:n=0
   ·rw[decide_eq_true (c.1 ⟨by omega,v⟩),v];rfl
   ·rw[decide_eq_false fun h=>v (c.2 h).2]
    exact bne_iff_ne.2 (by omega)
  ·have w:(((sp.len+sk.len:Nat):Int) !=(1:Int))=true:=bne_iff_ne.2 (by omega)
   rw[w];refine ar.2 (C _ _ ⟨?_,rfl⟩);rw[decide_eq_false fun h=>e (by have:=(c.2 h).1;omega)];rfl
 ·rintro _ h' ⟨rfl,rfl⟩
  have k:h'[h.size]? =some (.cells #[.string MZ.1,.string MZ.2] ag (0,0)):=b1;by_cases e:l.length=1
  ·rw[decide_eq_true e]
   refine ai.2 ?_;refine xk A j (by omega) fun O S q s=>?_
   match l,e,f with
   | [p],e,f=>
    have z:=f p rfl;subst z;have o:=q.len;obtain⟨a,E,_,D⟩:=(q.sl (W:=No) fun _ _ _ h=>h).at (i:=0) (x:=p) rfl
    refine⟨⟨by omega,by simp at o;omega⟩,a,E,p.1,D 0 _ rfl,p.2,D 1 _ rfl,?_⟩
    refine EU (p:=p) (s.get0 k) fun y b3 g=>⟨_,vc b3 0,_,vc b3 1,?_⟩
    have:=u y p ((k1.tr s).own g (al _)) fun _=>rfl
    exact this
  ·have:=u
   rw[decide_eq_false e];rw[decide_eq_false e]at u;refine ar.2 (EU (p:=MZ) k fun y b3 g=>⟨_,vc b3 0,_,vc b3 1,?_⟩)
   exact u y _ (k1.own g (al _)) fun h=>absurd h e
end Go.Proofs
namespace Go.Proofs
open Go Go.Lift
theorem J0{h:ac}{s:SliceV}{l:List Pr}(f:Sl eJ 2 No h s l)(hc:s.len≤s.cap)(g:bV l)(C:l.length≤1000000000)(k:ByteArray)
  {K:SliceV→ac→Prop}(y:∀s' h',OwnS eJ 2 ag (fun b=>h.size≤b) h' s' (nQ k l)→Upd No h h'→K s' h'):HC PG xG [.slice s.a s.len s.cap,.string k] [.c .slice] K h:=by
 refine KO s k ?_;unfold DE F6;have d:=f.len;refine IB f g C k fun q a=>?_
 have E:=PS l k;cases ht:cq l k with
 |false=>
  refine ar.2 (vf (f.upd a fun _ h=>h.elim) (by omega) fun I J w u=>?_)
  rw[zG (Ez ht)]at y;exact y _ _ (w.more fun b p=>bI a.size p) (a.tr u)
 |true=>
  obtain⟨F,_⟩:=Ie g ht;have H:IntKind.wrap .i64 ((pos l k:Int)+1)=((pos l k+1:Nat):Int):=by rw[d8 (by omega)];omega
  refine ai.2 ?_;simp only;rw[H];refine⟨by omega,by omega,?_⟩
  simp only[Bd,aY];refine bw ?_;have c:=f.upd a fun _ h=>h.elim
  have n:=Upd.hnew No q [.slice (aJ s.a 0 s.cap 2) (pos l k-0) (s.cap-0),.slice (aJ s.a (pos l k+1) s.cap 2) (s.len-(pos l k+1)) (s.cap-(pos l k+1))] cf;have B:=bE q [.slice (aJ s.a 0 s.cap 2) (pos l k-0) (s.cap-0),.slice (aJ s.a (pos l k+1) s.cap 2) (s.len-(pos l k+1)) (s.cap-(pos l k+1))] cf;have z:=H2 c (i:=0) (j:=pos l k) (m:=s.cap) (bS _) E (by omega) (s.cap-0)
  have t:=H2 c (i:=pos l k+1) (j:=l.length) (m:=s.cap) (by omega) (al _) (by omega) (s.cap-(pos l k+1));rw[←d]at t;rw[List.drop_zero]at z;rw[List.take_of_length_le (by rw[aM];omega)]at t;have D:nQ k l= [l.take (pos l k-0),l.drop (pos l k+1)].flatten:=by rw[←ND k g];unfold OF;rw[if_pos ht];simp
  refine Hy (s:=⟨some (aO q),2,2⟩) (vs:= [⟨aJ s.a 0 s.cap 2,pos l k-0,s.cap-0⟩,⟨aJ s.a (pos l k+1) s.cap 2,s.len-(pos l k+1),s.cap-(pos l k+1)⟩]) (ls:= [l.take (pos l k-0),l.drop (pos l k+1)])
   ⟨rfl,fun x=>⟨rfl,Nat.one_pos⟩,fun _=>⟨_,rfl,fun h=>h.elim,rZ B fun i v G=>by simpa[Ve]using G⟩⟩ ⟨z.upd n fun _ h=>h.elim,t.upd n fun _ h=>h.elim,trivial⟩ ?_ (by simp) fun N L e o=>?_
  ·simp only[List.flatten_cons,List.flatten_nil,ad,aP,aM,List.length_nil];omega
  ·rw[←D]at e
   have A:=a.tr n;exact y _ _ (e.more fun b p=>bI A.size p) (A.tr o)
theorem QN{W:Nat→Prop}{h:ac}{b:Nat}{l:List Pr}(o:BuckAt W h b l)(n:∀x,W x→x<h.size)(A:bV l)(p:l.length≤1000000000)(k:ByteArray){K:Option Addr→ac→Prop}
  (E:∀h' b',BuckAt W h' b' (nQ k l)→Upd No h h'→K (some ⟨b',0,none⟩) h'):
  HC PG qg [.pointer (some ⟨b,0,none⟩),.pointer none,.string k] [.c .ptr] K h:=by
 refine CH _ none k ?_;unfold vB w7 dI bR F6;obtain⟨sp,sk,ow,C,w,D,y,F⟩:=o.ex;refine iI C (ai.2 ?_);refine Np o p fun H B u b2 t q f=>?_
 refine⟨_,rfl,B,ee (i:=2) b2,?_⟩;refine J0 (t.sl fun _ _ _ h=>h) t.cap A p k fun s G g c=>?_
 have b3:=c.get0 b2;refine⟨_,rfl,Q9 (i:=2) b3 (show 2<6 by decide),Gg (i:=2) (c':=eK 0 0 s u true none) b3 rfl fun z v a=>?_⟩
 have I:=bo b2;have m:=g.upd a fun x hx e=>by have e:x=h.size:=e;omega
 have j:=(q.upd c fun _ _ h=>h).upd a fun x hx e=>by have e:x=h.size:=e;omega
 refine E z h.size ⟨⟨s,u,none,v,m.sl fun x hx _ d=>?_,j.sl fun x hx _ d=>?_,g.cap,q.cap⟩,fun d=>?_⟩ ((f.tr c).trans a fun x hx=>.inr ?_)
 ·have:=n x d;have:=f.size;omega
 ·have:=n x d;omega
 ·have:=n _ d;omega
 ·have hx:x=h.size:=hx
  omega
theorem KC{W:Nat→Prop}{x:Hs}:∀(m:Nat),m≤13→∀{b:Nat} {l:List Pr} (k:ByteArray) {h:ac},TrieAt W x h m b l→(∀y,W y→y<h.size)→bV l→l.length≤1000000→∀{K:(Option Addr)×Bool→ac→Prop},
  (∀h' b',Upd No h h'→TrieAt W x h' m b' (nQ k l)→(cq l k=false→b'=b)→K (some ⟨b',0,none⟩,cq l k) h')→
  HC PG lQ [Pj x k,.pointer (some ⟨b,0,none⟩),.int .i64 ((13-m:Nat):Int)] [.c .ptr,.c .bool] K h:=by
 intro m;induction m with
 |zero=>
  intro _ b l k h t hW hr hn K D;have P:∀{h'},Upd No h h'→∀y,W y→y<h'.size:=fun k y Q=>aC (hW y Q) k.size
  refine tX (x.k0,x.k1,x.mask,none,k,jt x k) (some ⟨b,0,none⟩) ((13-0:Nat):Int) ?_;unfold pI ae sx af nv ru ay rp vR y9 HS Ig uA kq Et DP;refine bi fun u b1 k1=>?_
  have bk:BuckAt W u b l:=BuckAt.upd t k1 fun _ h=>h.elim
  obtain⟨sp,sk,ow,hb,_⟩:=bk.ex;refine iI hb (ar.2 ⟨_,vc b1 4,SM bk hr (by omega) k fun L v j hv=>?_⟩)
  have b3:=j.get0 b1;cases z:cq l k with
  |false=>
   rw[z]at D;exact ar.2 (D L b (k1.tr j) (by rw[zG (Ez z)];exact bk.upd j fun _ h=>h.elim) fun _=>rfl)
  |true=>
   rw[z]at D;refine ai.2 ⟨none,vc b3 3,_,vc b3 4,?_⟩;refine QN (bk.upd j fun _ h=>h.elim) (P (k1.tr j)) hr (by omega) k fun h5 b5 bk5 O=>?_
   exact D h5 b5 ((k1.tr j).tr O) bk5 fun h=>by cases h
 |succ m ih=>
  intro hm b l k h t hW hr hn K D;have P:∀{h'},Upd No h h'→∀y,W y→y<h'.size:=fun k y Q=>aC (hW y Q) k.size
  have hl:13-(m+1)<13:=by omega
  have T:13-(m+1)=12-m:=by omega
  refine tX (x.k0,x.k1,x.mask,none,k,jt x k) (some ⟨b,0,none⟩) ((13-(m+1):Nat):Int) ?_;unfold pI ae sx af nv ru ay rp vR y9 HS Ig uA kq Et DP;refine bi fun u b1 k1=>?_
  have t1:=TrieAt.upd0 k1 t;obtain⟨s,E,hs⟩:=t1;have hs:∀c,c<32→SlotIs W x u m s c (part x (12-m) c l):=hs;obtain⟨d,n,sp,sk,ow,hb,_⟩:=E.ex;refine iI hb (ai.2 ⟨_,vc b1 5,QC hl ?_⟩);rw[T];have hi:=yR x (12-m) k;have J:=hs _ hi;have H:cq (part x (12-m) (ck x (12-m) k) l) k=cq l k:=Ey;have V:bV (part x (12-m) (ck x (12-m) k) l):=kz hr;have Y:(part x (12-m) (ck x (12-m) k) l).length≤1000000:=bI qI hn
  have w:∀{h':ac} {b':Nat} {s':Slots},Upd No u h'→NodeAt W h' b' s'→(∀c,c≠ck x (12-m) k→s'.p c=s.p c∧s'.k c=s.k c)→SlotIs W x h' m s' (ck x (12-m) k) (nQ k (part x (12-m) (ck x (12-m) k) l))→TrieAt W x h' (m+1) b' (nQ k l):=fun R nd hp hi=>Ln R nd hs hp hi
  have tt:∀{h':ac},Upd No u h'→TrieAt W x h' (m+1) b l:=fun R=>TrieAt.upd0 (k1.tr R) t
  generalize hc:ck x (12-m) k=c at*;generalize hlc:part x (12-m) c l=lc at*;refine Ay E hi fun L j=>?_
  refine bi fun h4 b4 k4=>?_
  have b4':h4[L.size]? =some (.cells #[.string MZ.1,.string MZ.2] ag (0,0)):=b4;refine EU (p:=P8 (s.p c)) b4' fun h5 b5 O=>?_
  have a:Upd No u h5:=(j.tr k4).own O j.size;have c1:=a.get0 b1;have nd5:=E.upd a fun _ h=>h.elim
  have same:∀{h':ac},Upd No u h'→cq l k=false→K (some ⟨b,0,none⟩,false) h':=fun R z=>by
   have:=D _ b (k1.tr R) (by rw[zG (Ez z)];exact tt R) fun _=>rfl
   rw[z]at this;exact this
  cases hsp:s.p c with
  |some y=>
   rw[hsp]at b5;obtain⟨C,hk0⟩:lc= [y]∧s.k c=none:=by
    rcases J with⟨_,g,_⟩|⟨q,u,g,L⟩|⟨_,g,_⟩
    ·rw[hsp]at g;cases g
    ·rw[hsp]at g;cases g;exact⟨u,L⟩
    ·rw[hsp]at g;cases g
   refine ar.2 ⟨y.1,vc b5 0,k,vc c1 4,?_⟩;rw[fw];by_cases Z:y.1=k
   ·have z:cq l k=true:=by rw[←H,C];exact bP.2 ⟨y,av.2 rfl,decide_eq_true Z⟩
    rw[decide_eq_true Z];rw[z]at D;refine ai.2 ⟨none,vc c1 3,QB nd5 (P (k1.tr a)) hi fun h6 b6 nd6 G=>?_⟩
    refine D h6 b6 ((k1.tr a).tr G) (w (a.tr G) nd6 (fun c' o=>⟨gq o,gq o⟩) ?_) fun h=>by cases h
    refine .inl ⟨?_,gR,gR⟩;rw[C,yl,if_pos Z];rfl
   ·rw[decide_eq_false Z]
    have z:cq l k=false:=by
     rw[←H,C];unfold cq;rw[qD,decide_eq_false Z];rfl
    exact ar.2 (same a z)
  |none=>
   refine ai.2 (vV nd5 hi ?_);cases hsk:s.k c with
   |none=>
    have hlc0:lc= []:=by
     rcases J with⟨u,_⟩|⟨q,_,g,_⟩|⟨_,_,S,g,_⟩
     ·exact u
     ·rw[hsp]at g;cases g
     ·rw[hsk]at g;cases g
    exact ar.2 (same a (by rw[←H,hlc0];rfl))
   |some kp=>
    obtain⟨h2l,S,rfl,tk⟩:2≤lc.length∧∃S,kp=some ⟨S,0,none⟩∧TrieAt W x u m S lc:=by
     rcases J with⟨_,_,g⟩|⟨q,_,g,_⟩|⟨u,_,S,g,L⟩
     ·rw[hsk]at g;cases g
     ·rw[hsp]at g;cases g
     ·rw[hsk]at g;cases g;exact⟨u,S,rfl,L⟩
    refine ai.2 ⟨_,vc c1 0,_,vc c1 1,_,vc c1 2,_,vc c1 3,_,vc c1 4,_,vc c1 5,?_⟩;have ew:IntKind.wrap .i64 (((12-m:Nat):Int)+1)=((13-m:Nat):Int):=by rw[d8 (by omega)];omega
    rw[ew];refine ih (by omega) k (TrieAt.upd0 a tk) (P (k1.tr a)) V Y fun h6 b6 G t6 hsame=>?_
    have B:=a.tr G;rw[H];cases z:cq l k with
    |false=>exact ar.2 (same B z)
    |true=>
     rw[z]at D;have hdl:=NC (k:=k) V;have hdn:(nQ k lc).length≤1000000:=bI Qs Y;refine ai.2 (QV t6 hdn fun h7 p F hp=>?_)
     refine bi fun h8 b8 k8=>?_
     have b8':h8[h7.size]? =some (.cells #[.string MZ.1,.string MZ.2] ag (0,0)):=b8;refine EU (p:=p) b8' fun h9 b9 U=>?_
     have f:Upd No u h9:=((B.tr F).tr k8).own U (B.tr F).size;have c9:=f.get0 b1;have X:=E.upd f fun _ h=>h.elim
     refine aD (fun e=>?_) fun e=>?_
     ·refine⟨none,vc c9 3,p.1,vc b9 0,p.2,vc b9 1,sA X (P (k1.tr f)) hi (fun y Q=>by rw[hsp]at Q;cases Q) p fun I N A i=>?_⟩
      refine D I N ((k1.tr f).tr i) (w (f.tr i) A (fun c' o=>⟨gq o,gq o⟩) ?_) fun h=>by cases h
      exact .inr (.inl ⟨p,hp e,gR,gR⟩)
     ·refine⟨none,vc c9 3,x9 X (P (k1.tr f)) hi (fun _ _=>hsp) ⟨b6,0,none⟩ fun I N A i=>?_⟩
      refine D I N ((k1.tr f).tr i) (w (f.tr i) A (fun c' o=>⟨gq o,gq o⟩) ?_) fun h=>by cases h
      exact .inr (.inr ⟨by omega,gR,b6,gR,TrieAt.upd0 ((F.tr k8).own U F.size|>.tr i) t6⟩)
theorem IL{W:Nat→Prop}{x:Hs}{h:ac}{b:Nat}{l:List Pr}(t:TrieAt W x h 13 b l)(o:∀y,W y→y<h.size)(w:bV l)(s:l.length≤1000000)(k:ByteArray){K:Option Addr×Bool→ac→Prop}
  (A:∀h' b',Upd No h h'→TrieAt W x h' 13 b' (nQ k l)→(cq l k=false→b'=b)→K (some ⟨b',0,none⟩,cq l k) h'):
  HC PG wz [.agg #[.int .u64 x.k0,.int .u64 x.k1,.int .u64 x.mask],.pointer none,.pointer (some ⟨b,0,none⟩),.string k] [.c .ptr,.c .bool] K h:=by
 refine Jg (x.k0,x.k1,x.mask) none (some ⟨b,0,none⟩) k ?_;unfold BB ae D9 BN y9;refine bi fun C b1 k1=>?_
 refine H0 (.inr ⟨b,rfl,TrieAt.upd0 k1 t⟩) (fun y m=>aC (o y m) k1.size) fun D b2 z f g=>?_
 have c:=f.get0 b1;refine⟨_,vc c 0,_,vc c 1,_,vc c 2,_,vc c 0,_,vc c 1,_,vc c 2,?_⟩;refine AH fun B d=>?_
 have j:=d.get0 c;refine⟨⟨vc j 0,vc j 1,vc j 2⟩,?_⟩;have a:=(k1.tr f).tr d;refine KC 13 (al _) k (TrieAt.upd0 d z) (fun y m=>aC (o y m) a.size) w s fun v p i u n=>?_
 refine A v p (a.tr i) u fun q=>?_
 rw[n q];rcases g with e|e
 ·cases e;rfl
 ·cases e
end Go.Proofs
namespace Go.Proofs
def uy(P a:List UInt8→ByteArray→Prop)(k:List UInt8):Prop:=∀k' v',a k' v'↔k'≠k∧P k' v'
theorem Mp{P:List UInt8→ByteArray→Prop}{k:List UInt8}(h:∀v,¬P k v):uy P P k:=fun k' b=>⟨fun a=>⟨fun e=>h b (e▸a),a⟩,fun h=>h.2⟩
theorem Mo{w:Option ByteArray}{F:Fo}(h:g8 F):uy (vi w F) (vi none F) []:=by
 intro k' a;unfold vi;constructor
 ·rintro(⟨_,f⟩|hi)
  ·cases f
  ·exact⟨vY h hi,.inr hi⟩
 ·rintro⟨e,⟨f,_⟩|hi⟩
  ·exact absurd f e
  ·exact .inr hi
theorem Fm{w:Option ByteArray}{F F':Fo}{k:List UInt8}(c:k≠[])(h:uy (tG F) (tG F') k):uy (vi w F) (vi w F') k:=by
 intro k' a;unfold vi;rw[h k' a];constructor
 ·rintro(⟨e,f⟩|hi)
  ·exact⟨fun b=>c (b.symm.trans e),.inl ⟨e,f⟩⟩
  ·exact⟨hi.1,.inr hi.2⟩
 ·rintro⟨e,hi|hi⟩
  ·exact .inl hi
  ·exact .inr ⟨e,hi⟩
theorem Mq{lab r:List UInt8}{w f:Option ByteArray}{F F':Fo}(h:uy (vi w F) (vi f F') r):uy (w9 (lab,w,F)) (w9 (lab,f,F')) (lab++r):=by
 intro k' d;constructor
 ·rintro⟨s,e,b⟩
  obtain⟨c,g⟩:=(h s d).1 b;exact⟨fun a=>c (ii (e.symm.trans a)),s,e,g⟩
 ·rintro⟨c,s,e,b⟩
  exact⟨s,e,(h s d).2 ⟨fun a=>c (by rw[e,a]),b⟩⟩
theorem OD{F:Fo}{i:Nat}{m:Bn}{k:List UInt8}(h:g8 F)(hi:i<F.toL.length)(ek:hd F.toL[i].1=hd k)(g:uy (w9 F.toL[i]) (w9 m) k):uy (tG F) (tG (.ofL (F.toL.set i m))) k:=by
 intro k' f;have hc:=dM.1 h;rw[hE,hE,Fo.to_of];constructor
 ·rintro⟨n,a,b⟩
  rcases(mc hi (vT h hi)).1 a with rfl|⟨a,c⟩
  ·obtain⟨d,j⟩:=(g k' f).1 b
   exact⟨d,_,bX hi,j⟩
  ·refine⟨fun e=>c ?_,n,a,b⟩
   obtain⟨r,o,_⟩:=b;refine yn h a (bX hi) ?_;rw[ek,←e,o,qc (hc.2 n a).1]
 ·rintro⟨d,n,a,b⟩
  by_cases e:n=F.toL[i]
  ·exact⟨m,(mc hi (vT h hi)).2 (.inl rfl),(g k' f).2 ⟨d,by rw[←e];exact b⟩⟩
  ·exact⟨n,(mc hi (vT h hi)).2 (.inr ⟨a,e⟩),b⟩
theorem Dn{α:Type}{l:List α}{i:Nat}(hi:i<l.length){x:α}(nd:∀j (a:j<l.length),j≠i→l[j]≠l[i]):x∈l.take i++l.drop (i+1)↔x∈l∧x≠l[i]:=by
 constructor
 ·intro h
  rcases aN.1 h with h|h
  ·obtain⟨j,a,e⟩:=bA h
   rw[aP]at a;rw[List.getElem_take]at e;exact⟨List.mem_of_mem_take h,by rw[←e];exact nd j (by omega) (by omega)⟩
  ·obtain⟨j,a,e⟩:=bA h
   rw[aM]at a;rw[List.getElem_drop]at e;exact⟨List.mem_of_mem_drop h,by rw[←e];exact nd (i+1+j) (by omega) (by omega)⟩
 ·rintro⟨h,c⟩
  obtain⟨j,a,e⟩:=bA h;rcases Nat.lt_trichotomy j i with b|b|b
  ·exact aN.2 (.inl (nG (i:=j) (h:=by rw[aP];omega) (by rw[List.getElem_take];exact e)))
  ·subst b;exact absurd e.symm c
  ·refine aN.2 (.inr (nG (i:=j-(i+1)) (h:=by rw[aM];omega) ?_))
   rw[List.getElem_drop];have:i+1+(j-(i+1))=j:=by omega
   simp only[this];exact e
theorem Sq{F:Fo}{i:Nat}(h:g8 F):g8 (.ofL (F.toL.take i++F.toL.drop (i+1))):=by
 have hc:=dM.1 h;rw[dM,Fo.to_of];have a:(F.toL.take i++F.toL.drop (i+1)).Sublist F.toL:=by rw[←List.eraseIdx_eq_take_drop_succ];exact List.eraseIdx_sublist ..
 exact⟨hc.1.sublist a,fun n b=>hc.2 n (a.subset b)⟩
theorem OE{F:Fo}{i:Nat}{k:List UInt8}(h:g8 F)(hi:i<F.toL.length)(ek:hd F.toL[i].1=hd k)(g:∀k' c,w9 F.toL[i] k' c→k'=k):uy (tG F) (tG (.ofL (F.toL.take i++F.toL.drop (i+1)))) k:=by
 intro k' c;have hc:=dM.1 h;rw[hE,hE,Fo.to_of];constructor
 ·rintro⟨n,a,b⟩
  obtain⟨a,d⟩:=(Dn hi (vT h hi)).1 a;refine⟨fun e=>d ?_,n,a,b⟩
  obtain⟨r,f,_⟩:=b;refine yn h a (bX hi) ?_;rw[ek,←e,f,qc (hc.2 n a).1]
 ·rintro⟨j,n,a,b⟩
  by_cases e:n=F.toL[i]
  ·exact absurd (g k' c (by rw[←e];exact b)) j
  ·exact⟨n,(Dn hi (vT h hi)).2 ⟨a,e⟩,b⟩
def SB(n:Bn)(o:Option Bn):Prop:=(o=none∧∀k v,¬w9 n k v)∨∃m,o=some m∧O2 m∧hd m.1=hd n.1∧∀k v,w9 m k v↔w9 n k v
theorem Oj{lab:List UInt8}{w:Option ByteArray}{F:Fo}(a:lab≠[])(hc:g8 F)(h:w.isSome∨2≤F.toL.length):SB (lab,w,F) (some (lab,w,F)):=.inr ⟨_,rfl,⟨a,h,hc⟩,rfl,fun _ _=>Iff.rfl⟩
theorem Ol{lab:List UInt8}{F:Fo}(h:F.toL= []):SB (lab,none,F) none:=by
 refine .inl ⟨rfl,fun k v hi=>?_⟩
 obtain⟨r,_,⟨_,h'⟩|h'⟩:=hi
 ·cases h'
 ·obtain⟨n,a,_⟩:=hE.1 h'
  simp only at a;rw[h]at a;cases a
theorem PY{lab lk:List UInt8}{a:Option ByteArray}{F Fk:Fo}(c:lab≠[])(hc:g8 F)(h:F.toL= [(lk,a,Fk)]):SB (lab,none,F) (some (lab++lk,a,Fk)):=by
 have d:F=.cons lk a Fk .nil:=by
  rw[←Fo.of_to F,h];rfl
 have b:=(dM.1 hc).2 (lk,a,Fk) (by rw[h];exact av.2 rfl);refine .inr ⟨_,rfl,⟨fun e=>c (List.append_eq_nil_iff.1 e).1,b.2.1,b.2.2⟩,qc c,fun k v=>?_⟩
 have:=Hm (lab:=lab++lk) (w:=a) (F:=Fk) lab.length k v;rw[List.take_left,g5]at this;rw[d];exact this.symm
end Go.Proofs
namespace Go.Proofs
open Go Go.Lift
theorem jR(s:ByteArray):s.data.toList.length=s.size:=by simp
theorem QQ(a b:ByteArray):(a++b).data.toList=a.data.toList++b.data.toList:=by rw[ByteArray.data_append,Array.toList_append]
theorem Og{a b:ByteArray}{h:ac}{K:Bool→ac→Prop}(c:K (decide (b.data.toList<+:a.data.toList)) h):HC PG uK [.string a,.string b] [.c .bool] K h:=by
 refine Gt a b ?_;unfold yX m8;refine CC a b ?_;unfold vu m8;refine q9 a b ?_;unfold ko;have j:=jR a;have f:=jR b;refine aD (fun g=>?_) fun d=>?_
 ·refine⟨⟨by omega,by omega⟩,?_⟩
  rw[fw,aY];have e:decide (a.extract 0 b.size=b)=decide (b.data.toList<+:a.data.toList):=by
   rw[decide_eq_decide,←sR,Fg,List.prefix_iff_eq_take,f];exact eq_comm
  rw[e];exact c
 ·have e:decide (b.data.toList<+:a.data.toList)=false:=decide_eq_false fun i=>by
   have:=i.length_le;omega
  rw[e]at c;exact c
theorem Qu{a b:ByteArray}{h:ac}{K:ByteArray×Bool→ac→Prop}(i:∀s:ByteArray,a.data.toList=b.data.toList++s.data.toList→K (s,true) h)(d:(∀r,a.data.toList≠b.data.toList++r)→K (⟨#[]⟩,false) h):HC PG wh [.string a,.string b] [.c .str,.c .bool] K h:=by
 refine MH a b ?_;unfold FQ m8;refine Og ?_;have j:=jR a;have g:=jR b;by_cases c:b.data.toList<+:a.data.toList
 ·rw[decide_eq_true c]
  have f:=c.length_le;refine ai.2 ⟨⟨by omega,by omega⟩,?_⟩
  rw[aY];refine i _ ?_;rw[Fh];obtain⟨r,e⟩:=c;rw[←e,←g,g5]
 ·rw[decide_eq_false c]
  exact ar.2 (d fun r e=>c ⟨r,e.symm⟩)
def Vl(W:Nat→Prop)(h:ac)(r:Option Addr)(o:Option Bn):Prop:=(r=none∧o=none)∨∃b sl m,r=some ⟨b,0,none⟩∧o=some m∧sl.data.toList=m.1∧RxN W h b sl m.2.1 m.2.2
theorem N4{W:Nat→Prop}{h:ac}{b:Nat}{sl:ByteArray}{w:Option ByteArray}{F:Fo}(r:RxN W h b sl w F)(hW:∀y,W y→y<h.size)(hc:g8 F)(u:sl.data.toList≠[])(hs1:sl.size≤1000000)(L:∀k v,tG F k v→k.length≤1000000)
  {K:Option Addr→ac→Prop}(V:∀h' r o,Upd No h h'→SB (sl.data.toList,w,F) o→Vl W h' r o→K r h'):HC PG pt [.pointer (some ⟨b,0,none⟩),.pointer none] [.c .ptr] K h:=by
 refine A7 _ none ?_;unfold uf aZ cp sx w7 aF bh bR;have hr:=r;obtain⟨val,s,ow,ks,p,hv,hs,hcap,hF⟩:=r;have hL:=lH.1 hF;have hn:=qA hc;have c:=hs.len;rw[hL.1]at c;refine Join.intro (fun t h'=>t=decide (w.isSome∨2≤F.toL.length)∧h'=h) (fun R hR=>⟨_,rfl,w.isSome,fk (i:=1) p,?_⟩) ?_
 ·cases w with
  |some v=>exact ar.2 (hR _ _ ⟨rfl,rfl⟩)
  |none=>
   refine ai.2 ⟨_,rfl,s,fk (i:=3) p,hR _ _ ⟨?_,rfl⟩⟩;rw[decide_eq_decide];constructor
   ·intro h;exact .inr (by omega)
   ·rintro(h|h)
    ·cases h
    ·omega
 ·rintro t h' ⟨rfl,rfl⟩
  refine aD (fun n=>?_) fun n=>?_
  ·exact V h' _ _ (Upd.refl _ _) (Oj u hc n) (.inr ⟨b,sl,_,rfl,rfl,rfl,hr⟩)
  ·have G:w=none:=by
    cases w with
    |none=>rfl
    |some v=>exact absurd (.inl rfl) n
   subst G;have I:F.toL.length<2:=by
    rcases cg F.toL.length 2 with h|h
    ·exact h
    ·exact absurd (.inr h) n
   refine⟨_,rfl,s,fk (i:=3) p,?_⟩;match hFL:F.toL,I with
   | [],_=>
    rw[hFL]at c;have e:((s.len:Int)==(0:Int))=true:=by rw[beq_iff_eq,c];rfl
    rw[e];exact ar.2 (V h' _ _ (Upd.refl _ _) (Ol hFL) (.inl ⟨rfl,rfl⟩))
   | [(lk,wk,Fk)],_=>
    rw[hFL]at c;have e:((s.len:Int)==(0:Int))=false:=by rw[beq_eq_false_iff_ne,c];simp
    rw[e];have d:(lk,wk,Fk)∈F.toL:=by rw[hFL];exact av.2 rfl
    have Q:=(dM.1 hc).2 _ d;have h0:0<F.toL.length:=by rw[hFL];exact Nat.one_pos
    obtain⟨kb,f,O,g,m⟩:=hL.at h0;have e0:F.toL[0]=(lk,wk,Fk):=by simp only[hFL];rfl
    rw[e0]at g m;simp only at g m;obtain⟨a,ha,_,Y⟩:=hs.at0 O;obtain⟨E,kss,kow,N,S,H,C,P,D⟩:=m;have X:=lH.1 D;have q:=qA Q.2.2;refine ai.2 ⟨_,rfl,s,fk (i:=3) p,⟨by omega,by rw[c];simp⟩,a,ha,some ⟨kb,0,none⟩,Y,?_⟩
    refine ph S C (by rw[X.1];exact q) fun h1 s1 b1 U z=>?_
    obtain⟨Z,vv,T⟩:=sG hc _ d;have J:=L (lk++Z) vv (hE.2 ⟨_,d,Z,rfl,T⟩);rw[ad]at J;have hlkl:lk.length=f.size:=by rw[←g];exact jR f
    refine⟨_,rfl,sl,fk (i:=0) (z.get0 p),_,rfl,f,fk (i:=0) b1,by omega,?_⟩
    have hbl:b<h'.size:=bo p;refine vP b1 fun n b2 B=>?_
    have j:Upd No h' n:=z.own B (al _);have A:=U.upd B fun x hx e=>by have e:x=h'.size:=e;have:=hx.1;omega
    refine V n _ _ j (PY u hc hFL) (.inr ⟨h'.size,sl++f,_,rfl,rfl,by rw[←g];exact QQ sl f,⟨E,s1,none,N,b2,H,A.sl (fun x hx _ G=>by have:=hW _ G;have:=hx.1;omega),⟨A.cap,fun hx=>lw _ (hW _ hx)⟩,RxF.upd0 j D⟩⟩)
set_option maxHeartbeats 1000000 in
theorem PK{W:Nat→Prop}:∀(n:Nat) {b:Nat} {sl:ByteArray} {w:Option ByteArray} {F:Fo} {h:ac} (k:ByteArray),k.size<n→RxN W h b sl w F→(∀y,W y→y<h.size)→g8 F→(∀j v,tG F j v→j.length≤1000000)→∀{K:(Option Addr)×Bool→ac→Prop},
  (∀h' b' w' F' z,Upd No h h'→RxN W h' b' sl w' F'→g8 F'→uy (vi w F) (vi w' F') k.data.toList→(z=false→b'=b∧∀v,¬vi w F k.data.toList v)→(z=true→∃v,vi w F k.data.toList v)→K (some ⟨b',0,none⟩,z) h')→
  HC PG lM [.pointer (some ⟨b,0,none⟩),.pointer none,.string k] [.c .ptr,.c .bool] K h:=by
 intro n;induction n with
 |zero=>intro b sl w F h k hk;omega
 |succ n ih=>
  intro b sl w F h k hkn r hW hc hbd K hk;refine A9 (some ⟨b,0,none⟩) none k ?_;unfold uh aZ cp w7 aF m8 dI bh bR Eu DP Js;have hr:=r;obtain⟨val,s,ow,ks,hb,hv,hs,hcap,hF⟩:=r;have X:=lH.1 hF;have hn:=qA hc;have hcan:=dM.1 hc;have t:∀{h':ac},Upd No h h'→(∀v,¬vi w F k.data.toList v)→K (some ⟨b,0,none⟩,false) h':=fun hu B=>hk _ b w F false hu (hr.upd0 hu) hc (Mp B) (fun _=>⟨rfl,B⟩) fun h=>by cases h
  rw[fw];refine aD (fun hk0=>?_) fun hk0=>?_
  ·have hke:k.data.toList= []:=by rw[hk0]
   rw[hke]at hk t;refine⟨_,rfl,w.isSome,fk (i:=1) hb,?_⟩;cases L:w with
   |none=>
    refine ar.2 (t (Upd.refl _ _) fun v d=>?_)
    rcases d with⟨_,h⟩|h
    ·rw[L]at h;cases h
    ·exact absurd rfl (vY hc h)
   |some u=>
    refine ai.2 (ph hb hs (by rw[X.1];exact hn) fun h1 s1 b1 ho1 hu1=>?_)
    refine⟨_,rfl,Q8 (i:=1) b1 (show 1<5 by decide),Gb (i:=1) (c':=De sl false val s1 none) b1 rfl fun T b2 o=>?_⟩
    refine⟨_,rfl,Q8 (i:=2) b2 (show 2<5 by decide),Gb (i:=2) (c':=De sl false ⟨#[]⟩ s1 none) b2 rfl fun h3 b3 A=>?_⟩
    have H:Upd No h h3:=hu1.own (o.tr A) (al _);have ho3:=ho1.upd (o.tr A) fun x hx e=>by have e:x=h.size:=e;have:=hx.1;omega
    refine hk h3 h.size none F true H ⟨⟨#[]⟩,s1,none,ks,b3,rfl,ho3.sl (fun x hx _ L=>by have:=hW _ L;have:=hx.1;omega),⟨ho3.cap,fun hx=>lw _ (hW _ hx)⟩,RxF.upd0 H hF⟩ hc (Mo hc) (fun h=>by cases h) fun _=>⟨u,.inl ⟨rfl,L⟩⟩
  ·have p:k.data.toList≠[]:=fun e=>hk0 (by cases k;exact congrArg wJ (Array.toList_inj.1 e))
   obtain⟨c0,hc0,hc0e⟩:=Iy p;refine⟨c0,Int.le_refl _,hc0,?_⟩;have hlk:k.data.toList.length=k.size:=jR k;refine BX hr hc (c:=c0.toNat) (UInt8.toNat_lt _) fun i ok hil hlo hhi hok=>?_
   rw[hc0e]at hlo hhi hok;cases ok with
   |false=>
    refine ar.2 (t (Upd.refl _ _) fun v d=>?_)
    rcases d with⟨h,_⟩|d
    ·exact p h
    ·obtain⟨n',hn',e,_⟩:=vZ hc d
     obtain⟨j,hj,rfl⟩:=bA hn';rcases cg j i with hl|hl
     ·have:=hlo j hj hl;omega
     ·have h1:=hhi j hj hl
      have T:=hhi i (by omega) (al _);rcases cg i j with hl2|hl2
      ·have h3:=List.pairwise_iff_getElem.1 hcan.1 i j (by omega) hj hl2
       omega
      ·have:i=j:=by omega
       subst this;have:=hok.2 ⟨hj,e⟩;cases this
   |true=>
    obtain⟨hi,V⟩:=hok.1 rfl;refine ai.2 ⟨_,rfl,s,fk (i:=3) hb,?_⟩;obtain⟨kb,ksl,hki,D,E⟩:=X.at hi;have G:F.toL[i]∈F.toL:=bX hi;have O:=hcan.2 _ G;obtain⟨a,ha,_,hvv⟩:=hs.at0 hki;have hslen:=hs.len;rw[X.1]at hslen;have hlt1:(i:Int)<((s.len:Nat):Int):=by omega
    refine⟨⟨by simp only;omega,hlt1⟩,a,ha,some ⟨kb,0,none⟩,hvv,_,rfl,?_⟩;obtain⟨kval,kss,kow,kks,hkb,_⟩:=id E;have C:∀v,tG F k.data.toList v→w9 F.toL[i] k.data.toList v:=fun v d=>by
     obtain⟨n',hn',e,hN⟩:=vZ hc d;rw[←yn hc hn' G (by omega)];exact hN
    have q:∀j v,w9 F.toL[i] j v→tG F j v:=fun j v d=>hE.2 ⟨_,G,d⟩
    have g:∀{m:Bn},O2 m→hd m.1=hd F.toL[i].1→g8 (.ofL (F.toL.set i m)):=fun h1 T=>NI hc hi h1 T
    have S:∀{m:Bn},uy (w9 F.toL[i]) (w9 m) k.data.toList→uy (tG F) (tG (.ofL (F.toL.set i m))) k.data.toList:=fun hp=>OD hc hi V hp
    have P:(∀k' v',w9 F.toL[i] k' v'→k'=k.data.toList)→uy (tG F) (tG (.ofL (F.toL.take i++F.toL.drop (i+1)))) k.data.toList:=fun hp=>OE hc hi V hp
    have hrset:∀{h':ac} {k':Option Addr} {m:Bn},Upd No h h'→Kid W h' k' m→RxL W h' (ks.set i k') (F.toL.set i m):=fun hu hkd=>(X.upd0 hu).set hi hkd
    generalize F.toL[i]=m at D E O C q g S P V;obtain⟨lab,wk,Fk⟩:=m;simp only at D E O V g;refine⟨ksl,fk (i:=0) hkb,Qu (fun Q f=>?_) fun B=>?_⟩
    ·rw[D]at f
     have hlne:lab.length≠0:=fun e=>O.1 (List.length_eq_zero_iff.1 e)
     have hrl:Q.size<k.size:=by
      rw[←jR Q,←hlk,f,ad];omega
     refine ai.2 ⟨_,rfl,s,fk (i:=3) hb,⟨by simp only;omega,hlt1⟩,a,ha,some ⟨kb,0,none⟩,hvv,?_⟩;have hkbd:∀j v,tG Fk j v→j.length≤1000000:=fun j v d=>by
      have:=hbd _ v (q (lab++j) v ⟨j,rfl,.inr d⟩);rw[ad]at this;omega
     refine ih Q (by omega) E hW O.2.2 hkbd fun T b2 w2 F2 z o rn2 hc2 hd2 hg0 hg1=>?_
     cases z with
     |false=>
      refine ar.2 (t o fun v d=>?_)
      rcases d with⟨h,_⟩|d
      ·exact p h
      ·obtain⟨r',e,hr'⟩:=C v d
       simp only at e;rw[f]at e;exact(hg0 rfl).2 v (by rw[ii e];exact hr')
     |true=>
      obtain⟨v0,hv0⟩:=hg1 rfl;have I:∃v,vi w F k.data.toList v:=⟨v0,.inr (q _ _ ⟨_,f,hv0⟩)⟩;have hdn:uy (w9 (lab,wk,Fk)) (w9 (lab,w2,F2)) k.data.toList:=by
       rw[f];exact Mq hd2
      refine ai.2 (ph (o.get0 hb) (hs.upd o fun _ h=>h.elim) (by rw[X.1];exact hn) fun h3 s3 b3 ho3 A=>?_)
      have H:=o.tr A;obtain⟨rr,vv,d⟩:=sG hc _ G;have hlb:lab.length≤1000000:=by
       have:=hbd _ v0 (q _ _ ⟨_,f,hv0⟩);rw[f,ad]at this;omega
      have hb2:∀j v,tG F2 j v→j.length≤1000000:=fun j v d=>by
       rcases((hd2 j v).1 (.inr d)).2 with⟨e,_⟩|h
       ·rw[e];simp
       ·exact hkbd j v h
      refine N4 (W:=Pro W T h3) ((rn2.less Pro.hm).upd0 A) (Pro.lt (fun y hy=>aC (hW y hy) o.size) A) hc2 (by rw[D];exact O.1) (by rw[←jR ksl,D];exact hlb) hb2 fun h4 r4 o4 U hm4 hr4=>?_
      rw[D]at hm4;have b4:=U.get0 b3;have ho4:=ho3.upd U fun _ _ h=>h
      have hu04:=H.tr U;have hz2:h.size≤T.size:=o.size;have hil:i<ks.length:=by rw[X.1];exact hi
      have hlen4:=ho4.len;rcases hr4 with⟨rfl,rfl⟩|⟨Z,sl4,m4,rfl,rfl,hsl4,rn4⟩
      ·rcases hm4 with⟨_,B⟩|⟨_,e,_⟩
       ·have ew:IntKind.wrap .i64 ((i:Int)+1)=((i+1:Nat):Int):=by rw[d8 (by omega)];omega
        refine ar.2 ⟨_,rfl,s3,fk (i:=3) b4,?_⟩;simp only;rw[ew];refine Mu ho4 hil (by rw[X.1];omega) fun s5 h5 N J=>?_
        have b5:=J.get b4 fun hx=>by have:=hx.1;omega
        refine⟨_,rfl,Q8 (i:=3) b5 (show 3<5 by decide),Gb (i:=3) (c':=De sl w.isSome val s5 none) b5 rfl fun h6 b6 hu6=>?_⟩
        have R:Upd No h h6:=(hu04.trans J fun x hx=>.inr (by have:=hx.1;omega)).own hu6 hz2
        have ho6:=N.upd hu6 fun x hx e=>by have e:x=T.size:=e;have:=hx.1;omega
        refine hk h6 T.size w _ true R ⟨val,s5,none,_,b6,hv,ho6.sl (fun x hx _ L=>by have:=hW _ L;have:=hx.1;omega),⟨ho6.cap,fun hx=>by have:=hW _ hx;omega⟩,lH.2 (by rw[Fo.to_of];exact((X.upd0 R).take i).app ((X.upd0 R).drop (i+1)))⟩ (Sq hc) (Fm p (P fun k' v' hN=>?_)) (fun h=>by cases h) fun _=>I
        refine Classical.byContradiction fun hne=>B k' v' ((hdn k' v').2 ⟨hne,hN⟩)
       ·cases e
      ·rcases hm4 with⟨e,_⟩|⟨m',e,hcn,hhd,hiff⟩
       ·cases e
       ·cases e
        obtain⟨a3,ha3,Y,hw3,N,J⟩:=OwnS.setAt ho4 hil (some ⟨Z,0,none⟩);refine ai.2 ⟨_,rfl,s3,fk (i:=3) b4,⟨by simp only;omega,by simp only;omega⟩,a3,ha3,?_⟩
        have hw1:Wr h4 (adr a3 (i*1)):=by
         rcases hw3 with L|⟨b',hb',L⟩
         ·cases L
         ·cases hb';exact L 0 (by simp)
        refine⟨hw1,bw ?_⟩;have b5:=J.get b4 fun e=>by have e:T.size=a3.block:=e;have:=Y.1;omega
        have hu45:Upd No T _:=(A.tr U).trans J fun x hx=>.inr (by have hx:x=a3.block:=hx;have:=Y.1;omega)
        have hu05:=o.tr hu45;have eset:ks.set i (some ⟨Z,0,none⟩)=ks.take i++some ⟨Z,0,none⟩::ks.drop (i+1):=by rw[dt,if_pos hil]
        rw[←eset]at N;have rn5:=(rn4.updM (M:=(· =a3.block)) J fun y hy=>.inl (.inr (by have hy:y=a3.block:=hy;have:=Y.1;have:=Y.2;omega))).less (W':=W) fun y hy=>.inl (.inl hy)
        exact hk _ T.size w _ true hu05 ⟨val,s3,none,_,b5,hv,N.sl (fun x hx _ L=>by have:=hW _ L;have:=hx.1;omega),⟨N.cap,fun hx=>by have:=hW _ hx;omega⟩,lH.2 (by rw[Fo.to_of];exact hrset hu05 ⟨Z,sl4,rfl,hsl4,rn5⟩)⟩ (g hcn hhd) (Fm p (S fun k' v'=>by rw[hiff k' v'];exact hdn k' v')) (fun h=>by cases h) fun _=>I
    ·rw[D]at B
     refine ar.2 (t (Upd.refl _ _) fun v d=>?_)
     rcases d with⟨h,_⟩|d
     ·exact p h
     ·obtain⟨r',e,_⟩:=C v d
      exact B r' e
end Go.Proofs
namespace Go.Proofs
open Go Go.Lift
theorem N9{w:Option ByteArray}{F:Fo}{l:List Pr}(h:∀k v,(k,v)∈zo w F↔∃p∈l,p.1.data.toList=k∧p.2=v)(a:Fit l):∀j v,tG F j v→j.length≤1000000:=fun j v hi=>by
 obtain⟨p,b,e,_⟩:=(h j v).1 (md.2 (.inr hi));have:=(a p b).1;rw[←e,jR];omega
theorem H6{W:Nat→Prop}{h:ac}{b:Nat}{l:List Pr}(t:RadAt W h b l)(D:∀y,W y→y<h.size)(L:Fit l)(k:ByteArray){K:Option Addr×Bool→ac→Prop}
  (R:∀h' b',Upd No h h'→RadAt W h' b' (nQ k l)→(cq l k=false→b'=b)→K (some ⟨b',0,none⟩,cq l k) h'):
  HC PG wr [.pointer none,.pointer (some ⟨b,0,none⟩),.string k] [.c .ptr,.c .bool] K h:=by
 refine I0 none (some ⟨b,0,none⟩) k ?_;unfold Bt DP;refine BV (.inr ⟨b,rfl,t⟩) D fun S b2 N f o=>?_
 have x:b2=b:=by
  rcases o with e|e
  ·cases e;rfl
  ·cases e
 subst x;obtain⟨w,F,E,P,m⟩:=N.ex;refine PK (k.size+1) k (by omega) E (fun y J=>aC (D y J) f.size) P (N9 m L) fun H b3 I F' a A s C B g z=>?_
 have i:∀v,vi w F k.data.toList v↔(k,v)∈l:=fun v=>by
  rw[←md,m];constructor
  ·rintro⟨p,n,O,rfl⟩
   rw[←sR.1 O];exact n
  ·intro n;exact⟨_,n,rfl,rfl⟩
 have u:a=cq l k:=by
  cases a with
  |false=>
   refine(EX fun q d e=>(g rfl).2 q.2 ((i _).2 ?_)).symm
   rw[←e];exact d
  |true=>
   obtain⟨v,Q⟩:=z rfl;exact(bP.2 ⟨_,(i v).1 Q,decide_eq_true rfl⟩).symm
 subst u;refine R H b3 (f.tr A) ⟨I,F',s,C,fun j v=>?_⟩ fun G=>(g G).1
 rw[md,B j v,←md,m];constructor
 ·rintro⟨c,q,d,rfl,rfl⟩
  exact⟨q,Im.2 ⟨d,fun e=>c (by rw[e])⟩,rfl,rfl⟩
 ·rintro⟨q,d,rfl,rfl⟩
  obtain⟨d,c⟩:=Im.1 d;exact⟨fun e=>c (sR.1 e),q,d,rfl,rfl⟩
theorem Jy{W:Nat→Prop}{x:Hs}{h:ac}{kind:Int}{t:Tr}{l:List Pr}(i:TreeIs W h kind x t l)(hW:∀y,W y→y<h.size)(hr:bV l)(hf:Fit l)(hn:l.length≤1000000)(k:ByteArray)(O:k.size≤256){K:Tr×Int→ac→Prop}
  (L:∀h' j,TreeIs W h' kind x j (nQ k l)→(cq l k=false→j=t)→Upd No h h'→K (j,if cq l k then 0 else 4) h'):HC PG ng [Aj t,.pointer none,.string k] [.agg [.int .i64,.int .u64,.int .u64,.int .u64,.ptr,.ptr],.c (.int .i64)] K h:=by
 refine yw t none k ?_;unfold rT ae BN aA af dY nv w6 qH m8 eE CW dI DP;refine bi fun d b1 k1=>bi fun s b2 S=>?_
 have z1:=bo b1;have z2:=bo b2;have s1:h.size≤d.size:=k1.size;have T:=k1.tr S;refine G5 (v:=⟨#[]⟩) O (bS 4096) (ai.2 ?_);have c1:=S.get0 b1;refine⟨_,vc c1 0,_,vc c1 1,_,vc c1 2,_,vc c1 3,_,vc c1 4,_,vc c1 5,?_⟩;refine bi fun h3 b3 k3=>?_
 have z3:=bo b3;have s2:d.size≤s.size:=S.size;refine cO (c:=jN vH) (vs:=jN t) b3 rfl fun D Y B=>?_
 have w:Upd No h D:=(T.tr k3).own B (by omega);have G:Upd No s D:=k3.own B (al _);have s4:h3.size≤D.size:=B.size;have u:=G.get0 c1;have d4:=G.get0 b2;have i4:=i.pro w;have E:=Pro.lt hW w;have X:∀{a:ac} {j:Tr},Upd No h a→a[h.size]? =some (.cells (jN j).toArray aV (0,0))→a[d.size]? =some (.cells (jN vH).toArray aV (0,0))→a[s.size]? =some (.cells (jN t).toArray aV (0,0))→TreeIs (Pro W h D) a kind x j (nQ k l)→(cq l k=false→j=t)→
   CondP (!cq l k) (∃v41:Int,aI a (adr (aO s) 0)=some (.int .i64 v41)∧
    ∃v42:Int,aI a (adr (aO s) 1)=some (.int .u64 v42)∧
    ∃v43:Int,aI a (adr (aO s) 2)=some (.int .u64 v43)∧
    ∃v44:Int,aI a (adr (aO s) 3)=some (.int .u64 v44)∧
    ∃v45:Option Addr,aI a (adr (aO s) 4)=some (.pointer v45)∧
    ∃v46:Option Addr,aI a (adr (aO s) 5)=some (.pointer v46)∧
    (sw a (some (aO d)) 0 [.int .i64 v41,.int .u64 v42,.int .u64 v43,.int .u64 v44,.pointer v45,.pointer v46]∧
     At (hH a (aO d) 0 [.int .i64 v41,.int .u64 v42,.int .u64 v43,.int .u64 v44,.pointer v45,.pointer v46]) (fun n=>
      ∃v48:Int,aI n (adr (aO d) 0)=some (.int .i64 v48)∧
      ∃v49:Int,aI n (adr (aO d) 1)=some (.int .u64 v49)∧
      ∃v50:Int,aI n (adr (aO d) 2)=some (.int .u64 v50)∧
      ∃v51:Int,aI n (adr (aO d) 3)=some (.int .u64 v51)∧
      ∃v52:Option Addr,aI n (adr (aO d) 4)=some (.pointer v52)∧
      ∃v53:Option Addr,aI n (adr (aO d) 5)=some (.pointer v53)∧
      K ((v48,v49,v50,v51,v52,v53),4) n))) (
    ∃v54:Int,aI a (adr (aO h) 0)=some (.int .i64 v54)∧
    ∃v55:Int,aI a (adr (aO h) 1)=some (.int .u64 v55)∧
    ∃v56:Int,aI a (adr (aO h) 2)=some (.int .u64 v56)∧
    ∃v57:Int,aI a (adr (aO h) 3)=some (.int .u64 v57)∧
    ∃v58:Option Addr,aI a (adr (aO h) 4)=some (.pointer v58)∧
    ∃v59:Option Addr,aI a (adr (aO h) 5)=some (.pointer v59)∧
    (sw a (some (aO d)) 0 [.int .i64 v54,.int .u64 v55,.int .u64 v56,.int .u64 v57,.pointer v58,.pointer v59]∧
     At (hH a (aO d) 0 [.int .i64 v54,.int .u64 v55,.int .u64 v56,.int .u64 v57,.pointer v58,.pointer v59]) (fun m=>
      ∃v61:Int,aI m (adr (aO d) 0)=some (.int .i64 v61)∧
      ∃v62:Int,aI m (adr (aO d) 1)=some (.int .u64 v62)∧
      ∃v63:Int,aI m (adr (aO d) 2)=some (.int .u64 v63)∧
      ∃v64:Int,aI m (adr (aO d) 3)=some (.int .u64 v64)∧
      ∃v65:Option Addr,aI m (adr (aO d) 4)=some (.pointer v65)∧
      ∃v66:Option Addr,aI m (adr (aO d) 5)=some (.pointer v66)∧
      K ((v61,v62,v63,v64,v65,v66),0) m))):=fun{a j} H z I A J e=>by
  cases C:cq l k with
  |false=>
   rw[C]at L e;have Q:=e rfl;subst Q;refine ar.2 ⟨_,vc A 0,_,vc A 1,_,vc A 2,_,vc A 3,_,vc A 4,_,vc A 5,?_⟩;refine cO (c:=jN vH) (vs:=jN j) I rfl fun U o p=>?_
   refine⟨_,vc o 0,_,vc o 1,_,vc o 2,_,vc o 3,_,vc o 4,_,vc o 5,?_⟩;exact L U j ((J.updM p (fun y q=>.inl (.inr (by have q:y=d.size:=q;omega)))).less Pro.sub) (fun _=>rfl) (H.own p s1)
  |true=>
   rw[C]at L e;refine ai.2 ⟨_,vc z 0,_,vc z 1,_,vc z 2,_,vc z 3,_,vc z 4,_,vc z 5,?_⟩;refine cO (c:=jN vH) (vs:=jN j) I rfl fun U o p=>?_
   refine⟨_,vc o 0,_,vc o 1,_,vc o 2,_,vc o 3,_,vc o 4,_,vc o 5,?_⟩;exact L U j ((J.updM p (fun y q=>.inl (.inr (by have q:y=d.size:=q;omega)))).less Pro.sub) (fun h=>by cases h) (H.own p s1)
 refine Join.intro (fun tk a=>tk=cq l k∧Upd No h a∧∃j,a[h.size]? =some (.cells (jN j).toArray aV (0,0))∧a[d.size]? =some (.cells (jN vH).toArray aV (0,0))∧a[s.size]? =some (.cells (jN t).toArray aV (0,0))∧TreeIs (Pro W h D) a kind x j (nQ k l)∧(cq l k=false→j=t)) (fun R Z=>?_) ?_
 ·rcases i4 with⟨rfl,b,rfl,P⟩|⟨rfl,b,rfl,P⟩
  ·refine⟨_,vc u 0,ai.2 ⟨_,tH u 1 0,_,tH u 1 1,_,tH u 1 2,_,vc u 4,?_⟩⟩
   refine IL P E hr hn k fun h5 F g N e=>?_
   refine F5 (i:=4) (c':=(jN (0,x.k0,x.k1,x.mask,some ⟨F,0,none⟩,none)).toArray) (g.get0 u) (show 4<6 by decide) rfl fun a V f=>?_
   exact Z _ _ ⟨rfl,(w.tr g).own f (al _),_,V,f.oth (g.get0 d4) (by omega),f.oth (g.get0 Y) (by omega),.inl ⟨rfl,F,rfl,TrieAt.updM f (fun y q=>.inl (.inr (by have q:y=h.size:=q;omega))) N⟩,fun C=>by rw[e C]⟩
  ·refine⟨_,vc u 0,ar.2 ⟨_,vc u 5,?_⟩⟩
   refine H6 P E hf k fun h5 F g N e=>?_
   refine F5 (i:=5) (c':=(jN (1,0,0,0,none,some ⟨F,0,none⟩)).toArray) (g.get0 u) (show 5<6 by decide) rfl fun a V f=>?_
   exact Z _ _ ⟨rfl,(w.tr g).own f (al _),_,V,f.oth (g.get0 d4) (by omega),f.oth (g.get0 Y) (by omega),.inr ⟨rfl,F,rfl,N.updM f (fun y q=>.inl (.inr (by have q:y=h.size:=q;omega)))⟩,fun C=>by rw[e C]⟩
 ·rintro _ a ⟨rfl,H,j,z,I,A,J,e⟩
  exact X H z I A J e
end Go.Proofs
namespace Go.Proofs
open Go Go.Lift
end Go.Proofs
namespace Go.Proofs
open Go Go.Lift
theorem uY(p:Pr)(l:List Pr)(k:ByteArray):look (p::l) k=if p.1=k then some p.2 else look l k:=by
 unfold look;rw[ll];by_cases e:p.1=k
 ·rw[decide_eq_true e,if_pos e];rfl
 ·rw[decide_eq_false e,if_neg e]
theorem AD{l:List Pr}{k:ByteArray}(h:∀p∈l,kl k p.1):look l k=none:=Hf (EX fun p a e=>by have:=h p a;rw[e]at this;exact cn _ this)
theorem xr{k v:ByteArray}:∀{l:List Pr},look l k=some v→(k,v)∈l
 | [],h=>by cases h
 |p::l,h=>by
  rw[uY]at h;by_cases e:p.1=k
  ·rw[if_pos e]at h;cases h;rw[←e];exact au ..
  ·rw[if_neg e]at h;exact az _ (xr h)
def TS(k:ByteArray)(a b:Option ByteArray):Option Ch:=if a=b then none else some (k,a.getD ⟨#[]⟩,b.getD ⟨#[]⟩,a.isSome,b.isSome)
theorem KD(k:ByteArray)(a:Option ByteArray):TS k a a=none:=if_pos rfl
theorem Sr{k:ByteArray}{a b:Option ByteArray}{c:Ch}(h:TS k a b=some c):c=(k,a.getD ⟨#[]⟩,b.getD ⟨#[]⟩,a.isSome,b.isSome)∧a≠b:=by
 unfold TS at h;by_cases e:a=b
 ·rw[if_pos e]at h;cases h
 ·rw[if_neg e]at h;cases h;exact⟨rfl,e⟩
def fd(l:List Ch)(k:ByteArray):Option Ch:=l.find? fun c=>decide (c.1=k)
theorem AN(c:Ch)(l:List Ch)(k:ByteArray):fd (c::l) k=if c.1=k then some c else fd l k:=by
 unfold fd;rw[ll];by_cases e:c.1=k
 ·rw[decide_eq_true e,if_pos e]
 ·rw[decide_eq_false e,if_neg e]
theorem Qn{c:Ch}:∀{l:List Ch},FJ l→c∈l→fd l c.1=some c
 |a::l,b,h=>by
  have b:=aB.1 b;rw[AN];rcases aq.1 h with rfl|h
  ·exact if_pos rfl
  ·rw[if_neg fun e=>by have:=b.1 c h;rw[e]at this;exact cn _ this]
   exact Qn b.2 h
theorem TC{A B:List Pr}(f:bV A)(d:bV B)(k:ByteArray):fd (im A B) k=TS k (look A k) (look B k):=by
 refine nL (P:=fun A B=>fd (im A B) k=TS k (look A k) (look B k)) ?_ (fun a A B f _ h i=>?_) (fun b A B _ d h i=>?_) (fun a b A B e f d i=>?_) f d
 ·rw[iY];exact(KD ..).symm
 ·rw[sQ h,AN,uY,i]
  by_cases e:a.1=k
  ·rw[if_pos (show(Gn a).1=k from e),if_pos e,←e,AD h];rfl
  ·rw[if_neg (show ¬(Gn a).1=k from e),if_neg e]
 ·rw[sP h,AN,uY,i]
  by_cases e:b.1=k
  ·rw[if_pos (show(Rc b).1=k from e),if_pos e,←e,AD h];rfl
  ·rw[if_neg (show ¬(Rc b).1=k from e),if_neg e]
 ·rw[sO e,uY,uY,←e]
  by_cases h:a.1=k
  ·rw[if_pos h,if_pos h]
   unfold xN TS;by_cases c:a.2=b.2
   ·rw[if_pos c,if_pos (by rw[c]),List.nil_append,i,←h,AD (aB.1 f).1,e,AD (aB.1 d).1,KD]
   ·rw[if_neg c,if_neg (fun e=>c (Option.some.inj e)),List.singleton_append,AN,if_pos h,h];rfl
  ·rw[if_neg h,if_neg h,←i]
   unfold xN;by_cases c:a.2=b.2
   ·rw[if_pos c];rfl
   ·rw[if_neg c,List.singleton_append,AN,if_neg h]
def Te(c:Ch):Bool:=(!((!c.2.2.2.1&& !c.2.2.2.2)||(c.2.2.2.1&&(c.2.2.2.2&&decide (c.2.1=c.2.2.1)))))&&((c.2.2.2.1||decide (c.2.1=⟨#[]⟩))&&(c.2.2.2.2||decide (c.2.2.1=⟨#[]⟩)))
def one(c:Ch):Option Ch:=if Te c then some c else none
end Go.Proofs
namespace Go.Proofs
open Go Go.Lift
end Go.Proofs
namespace Go.Proofs
open Go Go.Lift
end Go.Proofs
namespace Go.Proofs
open Go Go.Lift
theorem Few.del{n:Nat}{L:List Pr}(f:Few n L)(k:ByteArray):Few n (nQ k L):=⟨N6 f.up,bI Qs f.len,fun p a=>f.fit p (Im.1 a).1⟩
end Go.Proofs
namespace Go.Proofs
open Go Go.Lift
end Go.Proofs
namespace Go.Proofs
open Go Go.Lift
end Go.Proofs
namespace Go.Proofs
open Go Go.Lift
end Go.Proofs
namespace Go.Proofs
open Go Go.Lift
theorem QD{A B:List Pr}(b:bV A)(a:bV B){c:Ch}(h:c∈im A B):c=(c.1,(look A c.1).getD ⟨#[]⟩,(look B c.1).getD ⟨#[]⟩,(look A c.1).isSome,(look B c.1).isSome)∧look A c.1≠look B c.1:=by
 have:=TC b a c.1;rw[Qn (ES b a) h]at this;exact Sr this.symm
theorem mf{n:Nat}{A:List Pr}(f:Few n A)(k:ByteArray):((look A k).getD ⟨#[]⟩).size≤30:=by
 cases e:look A k with
 |none=>exact bS _
 |some v=>exact(f.fit _ (xr e)).2
theorem Da{n m:Nat}{A B:List Pr}(a:Few n A)(b:Few m B):∀c∈im A B,c.1.size≤30∧c.2.1.size≤30∧c.2.2.1.size≤30:=fun c hc=>by
 obtain⟨e,ne⟩:=QD a.up b.up hc;refine⟨?_,?_,?_⟩
 ·cases ea:look A c.1 with
  |some v=>exact(a.fit _ (xr ea)).1
  |none=>
   cases eb:look B c.1 with
   |some v=>exact(b.fit _ (xr eb)).1
   |none=>rw[ea,eb]at ne;exact absurd rfl ne
 ·rw[e];exact mf a _
 ·rw[e];exact mf b _
end Go.Proofs
namespace Go.Proofs
open Go Go.Lift
end Go.Proofs
namespace Go.Proofs
open Go Go.Lift
def BS(o:Option ByteArray):Sd:=(o.getD ⟨#[]⟩,o.isSome)
theorem RC{a b:Option ByteArray}:BS a=BS b↔a=b:=by
 constructor
 ·intro h
  unfold BS at h;cases a<;>cases b<;>simp_all
 ·rintro rfl;rfl
def yK(b o t:Option ByteArray)(p:Int):Option ByteArray×Bool:=if o=t∨t=b then(o,true)else if o=b then(t,true)else if p=1 then(o,false)else if p=2 then(t,false)else(b,false)
theorem Ro(b o t:Option ByteArray)(p:Int):EC (BS b) (BS o) (BS t) p=(BS (yK b o t p).1,(yK b o t p).2):=by
 unfold EC yK;simp only[RC];split
 ·rfl
 ·split
  ·rfl
  ·split
   ·rfl
   ·split<;>rfl
theorem GM(b o t:Option ByteArray)(p:Int):(yK b o t p).1=b∨(yK b o t p).1=o∨(yK b o t p).1=t:=by
 unfold yK;split
 ·exact .inr (.inl rfl)
 ·split
  ·exact .inr (.inr rfl)
  ·split
   ·exact .inr (.inl rfl)
   ·split
    ·exact .inr (.inr rfl)
    ·exact .inl rfl
def Lw(L:List Pr)(k:ByteArray):Option ByteArray→List Pr
 |some v=>jZ (k,v) L
 |none=>nQ k L
theorem Ql{n:Nat}{L:List Pr}(f:Few n L){k:ByteArray}{o:Option ByteArray}(b:k.size≤30)(a:(o.getD ⟨#[]⟩).size≤30):Few (n+1) (Lw L k o):=by
 cases o with
 |some v=>exact f.ins (k,v) b a
 |none=>have g:=f.del k;exact⟨g.up,Nat.le_succ_of_le g.len,g.fit⟩
def tk(B O T:List Pr)(p:Int)(k:ByteArray):Option ByteArray×Bool:=yK (look B k) (look O k) (look T k) p
def vW(B O T:List Pr)(p:Int)(acc:List Pr)(l:List Ch):List Pr:=l.foldl (fun acc c=>Lw acc c.1 (tk B O T p c.1).1) acc
theorem Kf{B O T:List Pr}{p:Int}{acc:List Pr}{l:List Ch}{i:Nat}(hi:i<l.length):vW B O T p acc (l.take (i+1))=Lw (vW B O T p acc (l.take i)) l[i].1 (tk B O T p l[i].1).1:=by
 unfold vW;rw[bF hi,List.foldl_append];rfl
theorem zy{B O T:List Pr}{p:Int}{j no g:Nat}(a:Few j B)(f:Few no O)(b:Few g T):∀{l:List Ch} {n:Nat} {acc:List Pr},(∀c∈l,c.1.size≤30)→Few n acc→Few (n+l.length) (vW B O T p acc l)
 | [],_,_,_,h=>h
 |c::l,n,_,hl,h=>by
  have i:((tk B O T p c.1).1.getD ⟨#[]⟩).size≤30:=by
   unfold tk;rcases GM (look B c.1) (look O c.1) (look T c.1) p with e|e|e
   ·rw[e];exact mf a _
   ·rw[e];exact mf f _
   ·rw[e];exact mf b _
  have:=zy (p:=p) a f b (l:=l) (fun d hd=>hl d (az _ hd)) (Ql h (hl c (au ..)) i)
  rw[ao,show n+(l.length+1)=n+1+l.length by omega]
  exact this
def uF(B O T:List Pr)(p:Int):List Pr:=vW B O T p O (im B T)
def IJ(B O T:List Pr)(p:Int)(l:List Ch):List ByteArray:=(l.map (·.1)).filter fun k=> !(tk B O T p k).2
theorem OG{B O T:List Pr}{p:Int}{l:List Ch}{i:Nat}(hi:i<l.length):IJ B O T p (l.take (i+1))=IJ B O T p (l.take i)++if(tk B O T p l[i].1).2 then[]else[l[i].1]:=by
 unfold IJ;rw[bF hi,cZ,List.filter_append];congr 1
 rw[List.map_singleton,bl,List.filter_nil];cases(tk B O T p l[i].1).2<;>rfl
theorem Qy{B O T:List Pr}{p:Int}{l:List Ch}:(IJ B O T p l).length≤l.length:=bI (dk ..) (Nat.le_of_eq (List.length_map ..))
abbrev Cp(B O T:List Pr)(p:Int):List ByteArray:=IJ B O T p (im B T)
abbrev Cf:=ByteArray×Sd×Sd×Sd
def OJ(B O T:List Pr)(k:ByteArray):Cf:=(k,BS (look B k),BS (look O k),BS (look T k))
end Go.Proofs
namespace Go.Proofs
open Go Go.Lift Go.Sort
abbrev qj:Value:=.func (.func o8) #[] #[]
def jT(dec:Int→Ch)(i j:Int):Bool:=RW (dec i) (dec j)
structure SA(dec:Int→Ch)(M:Nat→Prop)(s:SliceV)(h:ac)(d:Array Int):Prop where
 own:OwnS Jm 5 co M h s (d.toList.map dec)
 small:d.size≤1000000000
 lt:∀b,M b→b<h.size
variable {dec:Int→Ch} {M:Nat→Prop} {s:SliceV} {h:ac} {d:Array Int}
theorem SA.len(a:SA dec M s h d):s.len=d.size:=by have:=a.own.len;simpa using this
theorem SA.updC{c:Nat}{h':ac}(a:SA dec M s h d)(k:Upd (· =c) h h')(hc:¬M c):SA dec M s h' d:=⟨a.own.upd k fun b f e=>hc (by have e:b=c:=e;rw[←e];exact f),a.small,fun b f=>aC (a.lt b f) k.size⟩
theorem SA.upd0{h':ac}(a:SA dec M s h d)(k:Upd No h h'):SA dec M s h' d:=⟨a.own.upd k fun _ _ h=>h,a.small,fun b c=>aC (a.lt b c) k.size⟩
theorem SA.at(c:SA dec M s h d){i:Nat}(hi:i<d.size):∃a,s.a=some a∧∀j v,(Jm (dec d[i]!))[j]? =some v→aI h (adr (adr a (((i:Int)).toNat*5)) j)=some v:=by
 have hx:(d.toList.map dec)[i]? =some (dec d[i]!):=by
  rw[List.getElem?_map,Array.getElem?_toList,Array.getElem?_eq_getElem hi,getElem!_pos d i hi];rfl
 obtain⟨a,b,_,e⟩:=(c.own.sl (W:=No) fun _ _ _ h=>h).at hx
 exact⟨a,b,by simpa using e⟩
theorem SA.rd(c:SA dec M s h d){t:Int}{i:Nat}(e:t=(i:Int))(hi:i<d.size){R:ByteArray→ByteArray→ByteArray→Bool→Bool→Prop}(f:R (dec d[i]!).1 (dec d[i]!).2.1 (dec d[i]!).2.2.1 (dec d[i]!).2.2.2.1 (dec d[i]!).2.2.2.2):
  ((0:Int)≤t∧t<((s.len:Nat):Int))∧∃a:Addr,s.a=some a∧∃v1:ByteArray,aI h (adr (adr a (t.toNat*5)) 0)=some (.string v1)∧∃v2:ByteArray,aI h (adr (adr a (t.toNat*5)) 1)=some (.string v2)∧∃v3:ByteArray,aI h (adr (adr a (t.toNat*5)) 2)=some (.string v3)∧∃v4:Bool,aI h (adr (adr a (t.toNat*5)) 3)=some (.bool v4)∧∃v5:Bool,aI h (adr (adr a (t.toNat*5)) 4)=some (.bool v5)∧R v1 v2 v3 v4 v5:=by
 subst e;obtain⟨a,g,b⟩:=c.at hi;exact⟨by rw[c.len];omega,a,g,_,b 0 _ rfl,_,b 1 _ rfl,_,b 2 _ rfl,_,b 3 _ rfl,_,b 4 _ rfl,f⟩
theorem SA.st(e:SA dec M s h d){t:Int}{i:Nat}{x:Int}(m:t=(i:Int))(hi:i<d.size){R:ac→Prop}(o:∀h',SA dec M s h' (d.setIfInBounds i x)→Upd M h h'→R h'):
  ((0:Int)≤t∧t<((s.len:Nat):Int))∧∃a:Addr,s.a=some a∧(sw h (some (adr a (t.toNat*5))) 0 [.string (dec x).1,.string (dec x).2.1,.string (dec x).2.2.1,.bool (dec x).2.2.2.1,.bool (dec x).2.2.2.2]∧At (hH h (adr a (t.toNat*5)) 0 [.string (dec x).1,.string (dec x).2.1,.string (dec x).2.2.1,.bool (dec x).2.2.2.1,.bool (dec x).2.2.2.2]) R):=by
 subst m;obtain⟨a,p,q,j,n,g⟩:=OwnS.setAt e.own (k:=i) (by simpa using hi) (dec x);refine⟨by rw[e.len];omega,a,p,?_⟩;rw[aY];have f:Upd M h _:=g.mono fun b c=>.inl (by have c:b=a.block:=c;rw[c];exact q)
 refine⟨j,bw (o _ ⟨?_,by simpa using e.small,fun b c=>aC (e.lt b c) g.size⟩ f)⟩
 rw[show(d.setIfInBounds i x).toList.map dec=(d.toList.map dec).take i++dec x::(d.toList.map dec).drop (i+1) by
  rw[Array.toList_setIfInBounds,List.map_set,dt,if_pos (by simpa using hi)]]
 exact n
@[simp] theorem T4(d:Array Int)(i j:Nat):(swp d i j).size=d.size:=by simp[swp]
theorem SA.swap(e:SA dec M s h d){b c:Int}{i j:Nat}(o:b=(i:Int))(m:c=(j:Int))(hi:i<d.size)(n:j<d.size){R:ac→Prop}(q:∀h',SA dec M s h' (swp d i j)→Upd M h h'→R h'):
  ((0:Int)≤c∧c<((s.len:Nat):Int))∧∃a:Addr,s.a=some a∧∃v1:ByteArray,aI h (adr (adr a (c.toNat*5)) 0)=some (.string v1)∧∃v2:ByteArray,aI h (adr (adr a (c.toNat*5)) 1)=some (.string v2)∧∃v3:ByteArray,aI h (adr (adr a (c.toNat*5)) 2)=some (.string v3)∧∃v4:Bool,aI h (adr (adr a (c.toNat*5)) 3)=some (.bool v4)∧∃v5:Bool,aI h (adr (adr a (c.toNat*5)) 4)=some (.bool v5)∧
   (((0:Int)≤b∧b<((s.len:Nat):Int))∧∃a:Addr,s.a=some a∧∃w1:ByteArray,aI h (adr (adr a (b.toNat*5)) 0)=some (.string w1)∧∃w2:ByteArray,aI h (adr (adr a (b.toNat*5)) 1)=some (.string w2)∧∃w3:ByteArray,aI h (adr (adr a (b.toNat*5)) 2)=some (.string w3)∧∃w4:Bool,aI h (adr (adr a (b.toNat*5)) 3)=some (.bool w4)∧∃w5:Bool,aI h (adr (adr a (b.toNat*5)) 4)=some (.bool w5)∧
    (((0:Int)≤b∧b<((s.len:Nat):Int))∧∃a:Addr,s.a=some a∧(sw h (some (adr a (b.toNat*5))) 0 [.string v1,.string v2,.string v3,.bool v4,.bool v5]∧At (hH h (adr a (b.toNat*5)) 0 [.string v1,.string v2,.string v3,.bool v4,.bool v5]) (fun k=>
     (((0:Int)≤c∧c<((s.len:Nat):Int))∧∃a:Addr,s.a=some a∧(sw k (some (adr a (c.toNat*5))) 0 [.string w1,.string w2,.string w3,.bool w4,.bool w5]∧At (hH k (adr a (c.toNat*5)) 0 [.string w1,.string w2,.string w3,.bool w4,.bool w5]) R)))))):=by
 refine e.rd m n (e.rd o hi (e.st (x:=d[j]!) o hi fun k f k1=>f.st (x:=d[i]!) m (by simpa using n) fun t g p=>q t g (k1.tr p)))
theorem SA.less(f:SA dec M s h d){b c:Int}{i j:Nat}(o:b=(i:Int))(m:c=(j:Int))(hi:i<d.size)(n:j<d.size){R:Int→ac→Prop}(g:∀h' e,SA dec M s h' d→Upd No h h'→decide (e<0)=jT dec d[i]! d[j]!→R e h'):
  ((0:Int)≤b∧b<((s.len:Nat):Int))∧∃a:Addr,s.a=some a∧∃v1:ByteArray,aI h (adr (adr a (b.toNat*5)) 0)=some (.string v1)∧∃v2:ByteArray,aI h (adr (adr a (b.toNat*5)) 1)=some (.string v2)∧∃v3:ByteArray,aI h (adr (adr a (b.toNat*5)) 2)=some (.string v3)∧∃v4:Bool,aI h (adr (adr a (b.toNat*5)) 3)=some (.bool v4)∧∃v5:Bool,aI h (adr (adr a (b.toNat*5)) 4)=some (.bool v5)∧
   (((0:Int)≤c∧c<((s.len:Nat):Int))∧∃a:Addr,s.a=some a∧∃w1:ByteArray,aI h (adr (adr a (c.toNat*5)) 0)=some (.string w1)∧∃w2:ByteArray,aI h (adr (adr a (c.toNat*5)) 1)=some (.string w2)∧∃w3:ByteArray,aI h (adr (adr a (c.toNat*5)) 2)=some (.string w3)∧∃w4:Bool,aI h (adr (adr a (c.toNat*5)) 3)=some (.bool w4)∧∃w5:Bool,aI h (adr (adr a (c.toNat*5)) 4)=some (.bool w5)∧
    HV PG qj [.agg #[.string v1,.string v2,.string v3,.bool v4,.bool v5],.agg #[.string w1,.string w2,.string w3,.bool w4,.bool w5]] [.c (.int .i64)] R h):=
 f.rd o hi (f.rd m n ((UM M).call (dec d[i]!) (dec d[j]!) trivial fun h' e k p=>g h' e (f.upd0 k) k p))
theorem Mf(Q:SA dec M s h d){a e:Nat}(ha:a≤e)(he:e≤d.size){K:Unit→ac→Prop}(Y:∀h',SA dec M s h' (insertionSort (jT dec) d a e)→Upd M h h'→K () h'):
  HC PG dS [.slice s.a s.len s.cap,.int .i64 a,.int .i64 e,qj] [] K h:=by
 refine kV s a e qj ?_;unfold f9 aZ cp mC aF bh jr gQ l3;have U:=Q.small;refine LoopP.ghost (fun(g:Nat×Array Int) (t:Int) h'=>t=(g.1:Int)∧SA dec M s h' g.2∧g.2.size=d.size∧insOuter (jT dec) a e g.1 g.2=insertionSort (jT dec) d a e∧Upd M h h'∧a<g.1) (fun g=>e-g.1) (a+1,d)
  ⟨by rw[d8 (by omega)];rfl,Q,rfl,rfl,Upd.refl _ _,by simp⟩ ?_
 rintro I ⟨i,P⟩ t h1 ⟨q,o,v,k,x,J⟩ T;simp only at q o v k J;subst q;refine aD (fun z=>?_) fun Z=>?_
 ·have z:i<e:=by omega
  refine LoopP.ghost (fun(g:Nat×Array Int) (t:Int) h'=>t=(g.1:Int)∧SA dec M s h' g.2∧g.2.size=d.size∧insInner (jT dec) a g.1 g.2=insInner (jT dec) a i P∧Upd M h h'∧g.1≤i) (fun g=>g.1) (i,P)
   ⟨rfl,o,v,rfl,x,al _⟩ ?_
  rintro I2 ⟨j,b⟩ t W ⟨q,p,n,m,G,H⟩ C;simp only at q p n m H;subst q;refine Join.intro (fun t h'=>SA dec M s h' b∧Upd No W h'∧(t=true↔a<j∧(jT dec) b[j]! b[j-1]! =true)) (fun R N=>?_) ?_
  ·refine aD (fun w=>?_) fun X=>N _ _ ⟨p,Upd.refl _ _,by simp;omega⟩
   have w:a<j:=by omega
   exact p.less rfl (j:=j-1) (by rw[d8 (by omega)];omega) (by omega) (by omega) fun u e3 c F B=>N _ _ ⟨c,F,by rw[B];simp[w]⟩
  ·rintro t h' ⟨c,F,y⟩
   have A:=G.tr F.wide;refine CondP.intro (fun u=>?_) fun u=>?_
   ·obtain⟨V,O⟩:=y.1 u
    refine c.swap (i:=j) (j:=j-1) rfl (by rw[d8 (by omega)];omega) (by omega) (by omega) fun h6 E D=>?_
    refine C (j-1,swp b j (j-1)) _ _ ⟨by rw[d8 (by omega)];simp only;omega,E,by simp[n],?_,A.tr D,by simp only;omega⟩ (by simp only;omega)
    rw[←m];obtain⟨S,rfl⟩:∃S,j=S+1:=⟨j-1,by omega⟩
    simp only[Nat.add_sub_cancel]at O⊢;rw[insInner,if_pos (by simp[O,V])]
   ·have f:¬(a<j∧(jT dec) b[j]! b[j-1]! =true):=fun hh=>by rw[y.2 hh]at u;cases u
    have L:insInner (jT dec) a j b=b:=by
     cases j with
     |zero=>rw[insInner]
     |succ j=>
      simp only[Nat.add_sub_cancel]at f;rw[insInner,if_neg (by simpa using f)]
    refine T (i+1,b) _ _ ⟨by rw[d8 (by omega)];rfl,c,n,?_,A,by simp only;omega⟩ (by simp only;omega)
    rw[←k];conv=>rhs;rw[insOuter]
    rw[if_pos z,←m,L]
 ·refine Y _ ?_ x
  rw[←k,insOuter,if_neg (by omega)];exact o
end Go.Proofs
namespace Go.Proofs
open Go Go.Lift Go.Sort
variable {dec:Int→Ch} {M:Nat→Prop} {s:SliceV} {h:ac} {d:Array Int}
@[simp] theorem Q6(lt:Int→Int→Bool)(hi first root:Nat)(d:Array Int):(siftDown lt hi first root d).size=d.size:=by
 fun_induction siftDown lt hi first root d<;>simp_all
@[simp] theorem E9(lt:Int→Int→Bool)(hi first:Nat):∀(k:Nat) (d:Array Int),(heapBuild lt hi first k d).size=d.size
 |0,d=>rfl
 |k+1,d=>by rw[heapBuild,E9 lt hi first k];simp
theorem Db{root hi first:Nat}(L:SA dec M s h d)(hb:first+hi≤d.size){K:Unit→ac→Prop}(N:∀h',SA dec M s h' (siftDown (jT dec) hi first root d)→Upd M h h'→K () h')(S:root≤1000000000):
  HC PG dC [.slice s.a s.len s.cap,.int .i64 root,.int .i64 hi,.int .i64 first,qj] [] K h:=by
 refine np s root hi first qj ?_
 unfold ip aZ cp mC aF bh jr gQ l3;have Q:=L.small;refine LoopP.ghost (fun(g:Nat×Array Int) (t:Int) h'=>t=(g.1:Int)∧SA dec M s h' g.2∧g.2.size=d.size∧siftDown (jT dec) hi first g.1 g.2=siftDown (jT dec) hi first root d∧Upd M h h'∧g.1≤1000000000) (fun g=>hi-g.1) (root,d)
  ⟨rfl,L,rfl,rfl,Upd.refl _ _,S⟩ ?_
 rintro I ⟨i,a⟩ t G ⟨F,m,o,k,p,A⟩ O;simp only at F m o k A;subst F;have T:IntKind.wrap .i64 (IntKind.wrap .i64 (2*(i:Int))+1)=((2*i+1:Nat):Int):=by rw[d8 (x:=2*(i:Int)) (by omega),d8 (by omega)];omega
 have J:IntKind.wrap .i64 (((2*i+1:Nat):Int)+1)=((2*i+2:Nat):Int):=by rw[d8 (by omega)];omega
 rw[T];refine aD (fun V=>?_) fun D=>?_
 ·refine N _ ?_ p
  rw[←k,siftDown,dif_pos (by omega)];exact m
 ·have D:2*i+1<hi:=by omega
  refine Join.intro (fun t h'=>SA dec M s h' a∧Upd No G h'∧∃c:Nat,t=(c:Int)∧c=if 2*i+2<hi∧(jT dec) a[first+(2*i+1)]! a[first+(2*i+1)+1]! =true then 2*i+2 else 2*i+1) (fun R H=>?_) ?_
  ·refine Join.intro (fun t h'=>SA dec M s h' a∧Upd No G h'∧(t=true↔2*i+2<hi∧(jT dec) a[first+(2*i+1)]! a[first+(2*i+1)+1]! =true)) (fun R2 q=>?_) ?_
   ·show CondP (decide (IntKind.wrap .i64 (((2*i+1:Nat):Int)+1)<(hi:Int))) _ _
    rw[J];refine aD (fun f=>?_) fun f=>q _ _ ⟨m,Upd.refl _ _,by simp;omega⟩
    show(((0:Int)≤IntKind.wrap .i64 ((first:Int)+((2*i+1:Nat):Int))∧_)∧_)
    refine m.less (i:=first+(2*i+1)) (j:=first+(2*i+1)+1) (by rw[d8 (by omega)];omega) (by rw[d8 (x:=(first:Int)+_) (by omega),d8 (by omega)];omega) (by omega) (by omega) fun X e4 b n C=>q _ _ ⟨b,n,?_⟩
    rw[C];simp;omega
   ·rintro t h' ⟨b,n,u⟩
    refine CondP.intro (fun f=>?_) fun f=>?_
    ·show R (IntKind.wrap .i64 (((2*i+1:Nat):Int)+1)) _
     rw[J];exact H _ _ ⟨b,n,_,rfl,by rw[if_pos (u.1 f)]⟩
    ·exact H _ _ ⟨b,n,_,rfl,by rw[if_neg fun W=>by rw[u.2 W]at f;cases f]⟩
  ·rintro t h' ⟨b,n,c,rfl,hc⟩
   have P:c<hi∧i<c:=by rw[hc];split<;>omega
   refine b.less (i:=first+i) (j:=first+c) (by rw[d8 (by omega)];omega) (by rw[d8 (by omega)];omega) (by omega) (by omega) fun Y e5 y U E=>?_
   have v:=p.tr (n.tr U).wide;rw[E];have e:siftDown (jT dec) hi first i a=if !(jT dec) a[first+i]! a[first+c]! then a else siftDown (jT dec) hi first c (swp a (first+i) (first+c)):=by
    rw[siftDown,dif_neg (by omega)];by_cases w:2*i+2<hi∧(jT dec) a[first+(2*i+1)]! a[first+(2*i+1)+1]! =true
    ·rw[if_pos (by simp only[aR,decide_eq_true_iff];exact w),dif_pos w.1]
     rw[if_pos w]at hc;rw[hc]
    ·rw[if_neg (by simp only[aR,decide_eq_true_iff];exact w)]
     rw[if_neg w]at hc;rw[hc]
   refine CondP.intro (fun f=>?_) fun f=>?_
   ·refine N _ ?_ v
    rw[←k,e,if_pos f];exact y
   ·refine y.swap (i:=first+i) (j:=first+c) (by rw[d8 (by omega)];omega) (by rw[d8 (by omega)];omega) (by omega) (by omega) fun Z B z=>?_
    refine O (c,swp a (first+i) (first+c)) _ _ ⟨rfl,B,by simp[o],?_,v.tr z,by simp only;omega⟩ (by simp only;omega)
    rw[←k,e,if_neg (by rw[f];simp)]
theorem Kl{a e:Nat}(H:SA dec M s h d)(T:a≤e)(U:e≤d.size){K:Unit→ac→Prop}(S:∀h',SA dec M s h' (heapSort (jT dec) d a e)→Upd M h h'→K () h'):
  HC PG eR [.slice s.a s.len s.cap,.int .i64 a,.int .i64 e,qj] [] K h:=by
 refine nq s a e qj ?_;unfold iq aZ cp aF bh jr gQ;have N:=H.small;have O:IntKind.wrap .i64 ((e:Int)-(a:Int))=((e-a:Nat):Int):=by rw[d8 (by omega)];omega
 rw[O];refine⟨by decide,?_⟩;have A:IntKind.wrap .i64 (mr (IntKind.wrap .i64 (((e-a:Nat):Int)-1)) 2)=(((e-a-1)/2+1:Nat):Int)-1:=by
  rw[d8 (x:=((e-a:Nat):Int)-1) (by omega)];by_cases L:e-a=0
  ·rw[L];decide
  ·rw[Int.tdiv_eq_ediv_of_nonneg (by omega),d8 (by omega)];omega
 show LoopP _ (IntKind.wrap .i64 (mr (IntKind.wrap .i64 (((e-a:Nat):Int)-1)) 2)) h
 rw[A];refine LoopP.ghost (fun(g:Nat×Array Int) (t:Int) h'=>t=(g.1:Int)-1∧SA dec M s h' g.2∧g.2.size=d.size∧heapBuild (jT dec) (e-a) a g.1 g.2=heapBuild (jT dec) (e-a) a ((e-a-1)/2+1) d∧Upd M h h'∧g.1≤1000000000) (fun g=>g.1) ((e-a-1)/2+1,d)
  ⟨rfl,H,rfl,rfl,Upd.refl _ _,by simp only;omega⟩ ?_
 rintro I ⟨k,Q⟩ t X ⟨p,o,n,f,u,v⟩ J;simp only at p o n f v;subst p;refine aD (fun E=>?_) fun P=>?_
 ·obtain⟨k,rfl⟩:∃k',k=k'+1:=⟨k-1,by omega⟩
  have C:((k+1:Nat):Int)-1=(k:Int):=by omega
  rw[C];refine Db o (by omega) (fun R b c=>J (k,_) _ _ ⟨by rw[d8 (by omega)],b,by simp[n],?_,u.tr c,by simp only;omega⟩ (by simp)) (by omega)
  rw[←f];rfl
 ·have:k=0:=by omega
  subst this;rw[d8 (x:=((e-a:Nat):Int)-1) (by omega)];refine LoopP.ghost (fun(g:Nat×Array Int) (t:Int) h'=>t=(g.1:Int)-1∧SA dec M s h' g.2∧g.2.size=d.size∧heapPop (jT dec) a g.1 g.2=heapSort (jT dec) d a e∧Upd M h h'∧g.1≤e-a) (fun g=>g.1) (e-a,Q)
   ⟨rfl,o,n,by rw[heapSort,←f];rfl,u,al _⟩ ?_
  rintro Z ⟨k,V⟩ t R ⟨p,b,q,m,c,w⟩ y;simp only at p b q m w;subst p;refine aD (fun E=>?_) fun G=>?_
  ·obtain⟨k,rfl⟩:∃k',k=k'+1:=⟨k-1,by omega⟩
   have C:((k+1:Nat):Int)-1=(k:Int):=by omega
   rw[C];refine b.swap (i:=a) (j:=a+k) rfl (by rw[d8 (by omega)];omega) (by omega) (by omega) fun W B D=>?_
   refine Db (root:=0) B (by simp;omega) (fun Y F z=>y (k,_) _ _ ⟨by rw[d8 (by omega)],F,by simp[q],?_,(c.tr D).tr z,by simp only;omega⟩ (by simp)) (by omega)
   rw[←m];rfl
  ·have:k=0:=by omega
   subst this;refine S _ ?_ c;rw[←m];exact b
theorem JM{a e:Nat}(v:SA dec M s h d)(B:a<e)(C:e≤d.size){K:Unit→ac→Prop}(A:∀h',SA dec M s h' (reverseRange d a e)→Upd M h h'→K () h'):
  HC PG d9 [.slice s.a s.len s.cap,.int .i64 a,.int .i64 e,qj] [] K h:=by
 refine lz s a e qj ?_;unfold gj cp aF bh jr gQ;have y:=v.small;refine LoopP.ghost (fun(g:Nat×Nat×Array Int) (t:Int×Int) h'=>t.1=(g.1:Int)∧t.2=(g.2.1:Int)∧SA dec M s h' g.2.2∧g.2.2.size=d.size∧reverseLoop g.1 g.2.1 g.2.2=reverseRange d a e∧Upd M h h'∧g.2.1<e) (fun g=>g.2.1-g.1) (a,e-1,d)
  ⟨rfl,by simp only;rw[d8 (by omega)];omega,v,rfl,rfl,Upd.refl _ _,by simp only;omega⟩ ?_
 rintro I ⟨i,j,z⟩ ⟨F,E⟩ D ⟨p,k,c,m,b,n,x⟩ w;simp only at p k c m b x;subst p k;refine aD (fun f=>?_) fun o=>?_
 ·have f:i<j:=by have:(i:Int)<(j:Int):=f;omega
  refine c.swap (i:=i) (j:=j) rfl rfl (by omega) (by omega) fun G q u=>?_
  refine w (i+1,j-1,swp z i j) _ _ ⟨by simp only;rw[d8 (by omega)];rfl,by simp only;rw[d8 (by omega)];omega,q,by simp[m],?_,n.tr u,by simp only;omega⟩ (by simp only;omega)
  rw[←b];conv=>rhs;rw[reverseLoop]
  rw[if_pos f]
 ·refine A _ ?_ n
  rw[←b,reverseLoop,if_neg (by have o:¬(i:Int)<(j:Int):=o;omega)];exact c
end Go.Proofs
