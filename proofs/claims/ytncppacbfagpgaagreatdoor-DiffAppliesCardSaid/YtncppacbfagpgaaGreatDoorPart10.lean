/- A part of the proof that the named laws of this program answer true, whatever the input. -/
import Derived.Test.YtncppacbfagpgaaGreatDoorPart9
import Derived.Test.YtncppacbfagpgaaGreatDoorPart4
import Derived.Test.YtncppacbfagpgaaGreatDoorPart0
import Derived.Test.YtncppacbfagpgaaGreatDoorPart7
open ByteArray renaming mk→mP
open Int renaming toNat_natCast→aU
open List renaming pairwise_cons→aJ,find?_cons→ut,mem_cons→aA,filter_eq_self→gr,any_eq_true→cy,any_cons→tC,length_append→ac,mem_range→gQ,mem_singleton→aD,length_drop→aV,length_take→aH,append_cancel_left→fh,getElem_mem→aZ,mem_append→bF,getElem_of_mem→bC,getElem_take→jI,getElem_drop→rR,mem_of_getElem→pE,drop_left→gR,pairwise_iff_getElem→ce,getElem?_eq_getElem→af
open Nat renaming lt_of_lt_of_le→aC,le_refl→al,le_trans→bj,zero_le→aS,zero_testBit→g7,one_pos→oC,lt_trichotomy→nO,lt_or_ge→bW,lt_irrefl→nf
namespace Go.Proofs
open Go Go.Lift
def look(l:List Pr)(k:ByteArray):Option ByteArray:=(l.find? fun p=>decide (p.1=k)).map (·.2)
theorem UV{l:List Pr}{k:ByteArray}(h:cF l k=false):look l k=none:=by
 unfold look;rw[Option.map_eq_none_iff,List.find?_eq_none];intro p a;unfold cF at h;rw[List.any_eq_false]at h;exact h p a
theorem EZ:∀{l:List Pr} {k v:ByteArray},cf l→(k,v)∈l→look l k=some v
 |p::l,k,v,a,h=>by
  have a:=aJ.1 a;unfold look;rw[ut];rcases aA.1 h with e|h
  ·subst e;simp
  ·have b:p.1≠k:=fun e=>by
    have:=a.1 _ h;simp only at this;rw[e]at this;exact cr _ this
   rw[decide_eq_false b];exact EZ a.2 h
theorem TG{l:List Pr}(a:cf l){k v:ByteArray}(b:cF l k=true→(k,v)∈l)(h2:cF l k=false→v=⟨#[]⟩):((look l k).getD ⟨#[]⟩,(look l k).isSome)=(v,cF l k):=by
 cases ht:cF l k with
 |true=>rw[EZ a (b ht)];rfl
 |false=>rw[UV ht,h2 ht];rfl
theorem UU{x:Hs}{lev:Nat}{l:List Pr}{k:ByteArray}:look (part x lev (ck x lev k) l) k=look l k:=by
 unfold look part;congr 1
 rw[List.find?_filter];congr 1
 funext p;by_cases e:p.1=k
 ·rw[e];simp
 ·simp[e]
theorem PQ{W:Nat→Prop}{x:Hs}{h:ae}{b:Nat}{l:List Pr}(t:TrieAt W x h 13 b l)(V:∀y,W y→y<h.size)(X:cf l)(hn:l.length≤1000000)(k:ByteArray){K:ByteArray×Bool→ae→Prop}
  (P:∀h',Upd No h h'→K ((look l k).getD ⟨#[]⟩,(look l k).isSome) h'):HC PG zX [.agg #[.int .u64 x.k0,.int .u64 x.k1,.int .u64 x.mask],.pointer (some ⟨b,0,none⟩),.string k] [.c .str,.c .bool] K h:=by
 refine Qk (x.k0,x.k1,x.mask) (some ⟨b,0,none⟩) k ?_;unfold GM ag nv AC vO ax lM uy vN nW ng;refine aW fun h1 b1 k1=>⟨_,vc b1 0,_,vc b1 1,_,vc b1 2,?_⟩
 refine uP fun h2 Z=>?_
 have u:=k1.tr Z;refine MR (.inr ⟨b,rfl,TrieAt.upd0 u t⟩) (fun y hy=>aC (V y hy) u.size) fun h3 b3 t3 k3 _=>?_
 have M:=u.tr k3;refine LoopP.ghost (fun(g:Nat×Nat×List Pr) (t:Option Addr×Int) h'=>t=(some ⟨g.2.1,0,none⟩,((13-g.1:Nat):Int))∧g.1≤13∧TrieAt W x h' g.1 g.2.1 g.2.2∧cf g.2.2∧g.2.2.length≤1000000∧look g.2.2 k=look l k∧Upd No h h') (fun g=>g.1) (13,b3,l)
  ⟨rfl,al _,t3,X,hn,rfl,M⟩ ?_
 rintro I ⟨m,c,A⟩ t Y ⟨rfl,hm,G,j,B,o,E⟩ hI;simp only at hm G j B o;rcases m with _|m
 ·obtain⟨sp,sk,ow,O,_⟩:=BuckAt.ex G
  refine gu O (au.2 (W2 G j (by omega) k fun S v J w z=>?_))
  have:=P S (E.tr J);rw[←o,TG j w z]at this;exact this
 ·obtain⟨s,F,L⟩:=G
  have L:∀c,c<32→SlotIs W x Y m s c (part x (12-m) c A):=L;obtain⟨d,n,sp,sk,ow,O,_⟩:=F.ex;refine gu O (aj.2 ?_);refine Sb (by omega) ?_;rw[show 13-(m+1)=12-m by omega]
  have hi:=yX x (12-m) k;have q:=L _ hi;have f:look (part x (12-m) (ck x (12-m) k) A) k=look l k:=by rw[UU,o]
  have C:cf (part x (12-m) (ck x (12-m) k) A):=iX j;have D:(part x (12-m) (ck x (12-m) k) A).length≤1000000:=bj kB B;generalize part x (12-m) (ck x (12-m) k) A=lp at q f C D;generalize ck x (12-m) k=i at hi q;refine zx F hi fun S J=>?_
  refine uB fun H N k6=>?_
  have a:=J.tr k6;rcases q with⟨R,w,z⟩|⟨p,R,w,z⟩|⟨_,w,U,z,tk⟩
  ·rw[w]
   refine aj.2 (vV (F.upd a fun _ h=>h.elim) hi ?_)
   rw[z];refine au.2 ?_;have:=P H (E.tr a);rw[←f,R]at this;exact this
  ·rw[w]at N⊢
   refine au.2 ⟨p.1,vc N 0,?_⟩;rw[ey];have:=P H (E.tr a);rw[←f,R]at this;by_cases e:p.1=k
   ·rw[decide_eq_true e]
    refine aj.2 ⟨p.2,vc N 1,?_⟩;have Q:look [p] k=some p.2:=by unfold look;rw[ut,decide_eq_true e];rfl
    rw[Q]at this;exact this
   ·rw[decide_eq_false e]
    have Q:look [p] k=none:=by unfold look;rw[ut,decide_eq_false e];rfl
    rw[Q]at this;exact au.2 this
  ·rw[w]
   refine aj.2 (vV (F.upd a fun _ h=>h.elim) hi ?_)
   rw[z];refine aj.2 ?_;have T:IntKind.wrap .i64 (((13-(m+1):Nat):Int)+1)=((13-m:Nat):Int):=by rw[fx (by omega)];omega
   rw[show 13-(m+1)=12-m by omega]at T
   show I (some ⟨U,0,none⟩,IntKind.wrap .i64 (((12-m:Nat):Int)+1)) H
   rw[T];exact hI (m,U,lp) _ H ⟨rfl,by simp only;omega,TrieAt.upd0 a tk,C,D,f,E.tr a⟩ (by simp only;omega)
abbrev Sd:=ByteArray×Bool
end Go.Proofs
namespace Go.Proofs
open Go Go.Lift
def nQ(k:ByteArray)(l:List Pr):List Pr:=l.filter fun q=>decide (q.1≠k)
theorem AM(k:ByteArray)(q:Pr)(l:List Pr):nQ k (q::l)=if q.1=k then nQ k l else q::nQ k l:=by
 unfold nQ;rw[List.filter_cons];by_cases h:q.1=k
 ·rw[if_pos h,if_neg (by simpa using h)]
 ·rw[if_neg h,if_pos (by simpa using h)]
theorem yE{k:ByteArray}{l:List Pr}(h:∀q∈l,q.1≠k):nQ k l=l:=gr.2 fun q a=>decide_eq_true (h q a)
theorem zn{k:ByteArray}{l:List Pr}(h:cF l k=false):∀q∈l,q.1≠k:=fun q a e=>by
 have:cF l k=true:=cy.2 ⟨q,a,decide_eq_true e⟩;rw[h]at this;cases this
theorem Dj{k:ByteArray}{l:List Pr}(h:∀q∈l,q.1≠k):cF l k=false:=by
 rcases ht:cF l k with _|_
 ·rfl
 ·obtain⟨q,a,e⟩:=cy.1 ht
  exact absurd (of_decide_eq_true e) (h q a)
theorem Lx{k:ByteArray}{l:List Pr}(a:cf l):cf (nQ k l):=a.sublist List.filter_sublist
theorem Hk{k:ByteArray}{l:List Pr}{p:Pr}:p∈nQ k l↔p∈l∧p.1≠k:=by unfold nQ;rw[List.mem_filter,decide_eq_true_iff]
theorem Sa{k:ByteArray}{l:List Pr}:(nQ k l).length≤l.length:=List.length_filter_le ..
theorem TQ{k:ByteArray}:∀{l:List Pr},cf l→l.length≤(nQ k l).length+1
 | [],_=>aS _
 |q::l,a=>by
  have a:=aJ.1 a;rw[AM];by_cases h:q.1=k
  ·rw[if_pos h,yE fun r hm e=>by have:=a.1 r hm;rw[h,e]at this;exact cr _ this];exact al _
  ·rw[if_neg h]
   have:=TQ (k:=k) a.2;simp only[List.length_cons];omega
theorem TR(k:ByteArray):∀{l:List Pr},cf l→Vg l k=nQ k l
 | [],_=>by simp[Vg,nQ,cF]
 |q::l,c=>by
  have m:=c;have c:=aJ.1 c;have b:qk (q::l) k=if kl q.1 k then qk l k+1 else 0:=by
   unfold qk;rw[List.takeWhile_cons];by_cases h:kl q.1 k
   ·rw[if_pos (by simpa using h),if_pos h];rfl
   ·rw[if_neg (by simpa using h),if_neg h];rfl
  have d:cF (q::l) k=(decide (q.1=k)||cF l k):=by unfold cF;rw[tC]
  by_cases h:kl q.1 k
  ·have f:q.1≠k:=fun e=>by rw[e]at h;exact cr _ h
   rw[AM,if_neg f,←TR k c.2];unfold Vg;rw[d,b,if_pos h,decide_eq_false f,Bool.false_or];by_cases i:cF l k=true
   ·rw[if_pos i,if_pos i];rfl
   ·rw[if_neg i,if_neg i]
  ·by_cases e:q.1=k
   ·have a:∀r∈l,r.1≠k:=fun r hm g=>by have:=c.1 r hm;rw[e,g]at this;exact cr _ this
    rw[AM,if_pos e,yE a];unfold Vg;rw[d,b,if_neg h,decide_eq_true e,Bool.true_or,if_pos rfl];rfl
   ·have j:=ql h e
    have a:∀r∈q::l,r.1≠k:=fun r hm g=>by
     rcases aA.1 hm with rfl|hm
     ·exact e g
     ·have:=c.1 r hm
      rw[g]at this;exact cr _ (gJ j this)
    rw[yE a];unfold Vg;rw[Dj a];rfl
theorem Pb{x:Hs}{lev c:Nat}{k:ByteArray}{l:List Pr}:part x lev c (nQ k l)=nQ k (part x lev c l):=by
 unfold part nQ;rw[List.filter_filter,List.filter_filter];exact List.filter_congr fun p _=>Bool.and_comm ..
theorem UP{x:Hs}{lev c:Nat}{k:ByteArray}{l:List Pr}(h:c≠ck x lev k):part x lev c (nQ k l)=part x lev c l:=by
 rw[Pb];exact yE fun q a e=>h (by rw[←e];exact(mS.1 a).2.symm)
theorem QI{W:Nat→Prop}{x:Hs}{h h':ae}{m b':Nat}{s s':Slots}{l:List Pr}{k:ByteArray}(g:Upd No h h')(a:NodeAt W h' b' s')(b:∀c,c<32→SlotIs W x h m s c (part x (12-m) c l))
  (i:∀c,c≠ck x (12-m) k→s'.p c=s.p c∧s'.k c=s.k c)(hi:SlotIs W x h' m s' (ck x (12-m) k) (nQ k (part x (12-m) (ck x (12-m) k) l))):TrieAt W x h' (m+1) b' (nQ k l):=by
 refine⟨s',a,fun c hc=>?_⟩
 by_cases e:ck x (12-m) k=c
 ·rw[Pb];subst e;exact hi
 ·rw[UP fun h=>e h.symm]
  have t:=SlotIs.upd0 g (b c hc);obtain⟨f,d⟩:=i c fun h=>e h.symm
  unfold SlotIs at t;rw[←f,←d]at t;exact t
theorem TN{β:Type}(g:Nat→Option β):∀n,(fm g n).length=((List.range n).map fun c=>(g c).toList.length).sum
 |0=>rfl
 |n+1=>by
  rw[jp,ac,TN g n,List.range_succ,List.map_append,List.sum_append];simp
theorem OF{x:Hs}{lev:Nat}{l:List Pr}(h:∀c,c<32→(part x lev c l).length≤1):(ia x lev l).length=l.length:=by
 unfold ia;rw[TN];have e:=xw x lev l 32;have d:(l.filter fun p=>decide (ck x lev p.1<32))=l:=gr.2 fun p _=>decide_eq_true (yX x lev p.1)
 rw[d]at e;rw[←e];refine congrArg List.sum (List.map_congr_left fun c hc=>?_)
 have:=h c (gQ.1 hc);match hp:part x lev c l with
 | []=>rfl
 | [p]=>rfl
 |a::b::r=>rw[hp]at this;simp at this
theorem QJ{W:Nat→Prop}{x:Hs}{h:ae}{m b:Nat}{l:List Pr}(t:TrieAt W x h m b l)(D:l.length≤1000000):
  ∃d n sp sk bu ow lp lk,h[b]? =some (.cells (fT d n sp sk bu ow) bT (0,0))∧Sl eC 2 W h sp lp∧Sl tI 1 W h sk lk∧lp.length≤1000000∧lk.length≤32∧(lp.length+lk.length=1∧n=0↔l.length=1)∧∀p,l= [p]→lp= [p]:=by
 cases m with
 |zero=>
  obtain⟨sp,sk,ow,v,j,f,_⟩:=BuckAt.ex t;exact⟨0,0,sp,sk,true,ow,l,[],v,j,f,D,by simp,by simp,fun p e=>e⟩
 |succ m=>
  obtain⟨s,C,k⟩:=t;have k:∀c,c<32→SlotIs W x h m s c (part x (12-m) c l):=k;obtain⟨d,n,sp,sk,ow,v,bits,j,f,_⟩:=C.ex;have o:=He k;have B:=zG (g:=s.p);refine⟨d,n,sp,sk,false,ow,_,_,v,j,f,by omega,zG,?_,?_⟩
  ·by_cases u:∀c,c<32→s.k c=none
   ·have A:n=0:=Nat.eq_of_testBit_eq fun c=>by
     rw[g7];by_cases hc:c<32
     ·rw[bits.nk c hc,u c hc];rfl
     ·exact Nat.testBit_lt_two_pow (aC bits.n32 (Nat.pow_le_pow_right (n:=2) (by omega) (by omega:32≤c)))
    have ek:fm s.k 32= []:=by
     unfold fm;rw[List.filterMap_eq_nil_iff];exact fun c hc=>u c (gQ.1 hc)
    have z:(fm s.p 32).length=l.length:=by
     rw[o];refine OF fun c hc=>?_
     rcases k c hc with⟨i,_⟩|⟨p,i,_⟩|⟨_,_,E,h2,_⟩
     ·rw[i];simp
     ·rw[i];simp
     ·rw[u c hc]at h2;cases h2
    rw[ek,z,A];simp
   ·obtain⟨c,hc⟩:=Classical.not_forall.1 u
    obtain⟨hc,a⟩:=Classical.not_imp.1 hc;have w:n≠0:=fun A=>by
     have:=bits.nk c hc;rw[A,g7]at this;cases hkk:s.k c with
     |none=>exact a hkk
     |some y=>rw[hkk]at this;cases this
    rcases k c hc with⟨_,_,i⟩|⟨p,_,_,i⟩|⟨h2,_⟩
    ·exact absurd i a
    ·exact absurd i a
    ·have:=kB (x:=x) (lev:=12-m) (c:=c) (l:=l)
     constructor
     ·rintro⟨_,e⟩;exact absurd e w
     ·intro e;omega
  ·rintro p rfl
   rw[o];have hc:=yX x (12-m) p.1;have z:(ia x (12-m) [p]).length=1:=OF fun c _=>bj kB (by simp)
   match hq:ia x (12-m) [p],z with
   | [q],_=>
    have:q∈ia x (12-m) [p]:=by rw[hq];exact aD.2 rfl
    rw[aD.1 (sE this)]
theorem YK{h:ae}{b d n:Nat}{sp sk:SliceV}{c:Bool}{ow:Option Addr}(a:h[b]? =some (.cells (fT d n sp sk c ow) bT (0,0))) (g:sp.len+sk.len≤1000000000) {K:Int→ae→Prop} (f:K ((sp.len+sk.len:Nat):Int) h):HC PG mW [.pointer (some ⟨b,0,none⟩)] [.c (.int .i64)] K h:=by
 refine y5 _ ?_;unfold ur bU;refine aj.2 ⟨_,rfl,sp,fB (i:=2) a,_,rfl,sk,fB (i:=3) a,?_⟩;have e:IntKind.wrap .i64 ((sp.len:Int)+(sk.len:Int))=((sp.len+sk.len:Nat):Int):=by rw[fx (by omega)];omega
 rw[e];exact f
theorem XH{W:Nat→Prop}{x:Hs}{h:ae}{m b:Nat}{l:List Pr}(t:TrieAt W x h m b l)(I:l.length≤1000000){K:Pr×Bool→ae→Prop}
  (u:∀h' p,Upd No h h'→(l.length=1→l= [p])→K (p,decide (l.length=1)) h'):HC PG xb [.pointer (some ⟨b,0,none⟩)] [.agg [.str,.str],.c .bool] K h:=by
 refine KV _ ?_;unfold BN cl aK eJ ax lM hP;refine aW fun G b1 k1=>?_
 have H:=TrieAt.upd0 k1 t;obtain⟨d,n,sp,sk,L,ow,J,lk,y,s,v,F,E,f,c⟩:=QJ H I;have O:=s.len;have M:=v.len;refine Join.intro (fun t h'=>t= !decide (l.length=1)∧h'=G) (fun R C=>?_) ?_
 ·refine YK y (by omega) ?_
  by_cases e:sp.len+sk.len=1
  ·have z:((sp.len+sk.len:Nat):Int)=1:=by omega
   rw[z];refine aj.2 (Di y (C _ _ ⟨?_,rfl⟩));by_cases B:n=0
   ·rw[decide_eq_true (f.1 ⟨by omega,B⟩),B];rfl
   ·rw[decide_eq_false fun h=>B (f.2 h).2]
    exact bne_iff_ne.2 (by omega)
  ·have z:(((sp.len+sk.len:Nat):Int) !=(1:Int))=true:=bne_iff_ne.2 (by omega)
   rw[z];refine au.2 (C _ _ ⟨?_,rfl⟩);rw[decide_eq_false fun h=>e (by have:=(f.2 h).1;omega)];rfl
 ·rintro _ h' ⟨rfl,rfl⟩
  have k:h'[h.size]? =some (.cells #[.string Qz.1,.string Qz.2] aq (0,0)):=b1;by_cases e:l.length=1
  ·rw[decide_eq_true e]
   refine aj.2 ?_;refine q9 y s (by omega) fun N h2 q j=>?_
   match l,e,c with
   | [p],e,c=>
    have w:=c p rfl;subst w;have o:=q.len;obtain⟨a,D,_,hv⟩:=(q.sl (W:=No) fun _ _ _ h=>h).at (i:=0) (x:=p) rfl
    refine⟨⟨by omega,by simp at o;omega⟩,a,D,p.1,hv 0 _ rfl,p.2,hv 1 _ rfl,?_⟩
    refine F6 (p:=p) (j.get0 k) fun A b3 g=>⟨_,vc b3 0,_,vc b3 1,?_⟩
    have:=u A p ((k1.tr j).own g (al _)) fun _=>rfl
    exact this
  ·have:=u
   rw[decide_eq_false e];rw[decide_eq_false e]at u;refine au.2 (F6 (p:=Qz) k fun A b3 g=>⟨_,vc b3 0,_,vc b3 1,?_⟩)
   exact u A _ (k1.own g (al _)) fun h=>absurd h e
end Go.Proofs
namespace Go.Proofs
open Go Go.Lift
theorem Pd{h:ae}{s:SliceV}{l:List Pr}(f:Sl eC 2 No h s l)(hc:s.len≤s.cap)(n:cf l)(F:l.length≤1000000000)(k:ByteArray)
  {K:SliceV→ae→Prop}(t:∀s' h',OwnS eC 2 aq (fun b=>h.size≤b) h' s' (nQ k l)→Upd No h h'→K s' h'):HC PG zR [.slice s.a s.len s.cap,.string k] [.c .slice] K h:=by
 refine Qc s k ?_;unfold GE CM;have d:=f.len;refine Nt f n F k fun h2 a=>?_
 have E:=WM l k;cases ht:cF l k with
 |false=>
  refine au.2 (xF (f.upd a fun _ h=>h.elim) (by omega) fun I J w q=>?_)
  rw[yE (zn ht)]at t;exact t _ _ (w.more fun b p=>bj a.size p) (a.tr q)
 |true=>
  obtain⟨B,_⟩:=M9 n ht;have C:IntKind.wrap .i64 ((qk l k:Int)+1)=((qk l k+1:Nat):Int):=by rw[fx (by omega)];omega
  refine aj.2 ?_;simp only;rw[C];refine⟨by omega,by omega,?_⟩
  simp only[Bd,aU];refine bP ?_;have c:=f.upd a fun _ h=>h.elim
  have g:=Upd.hnew No h2 [.slice (bh s.a 0 s.cap 2) (qk l k-0) (s.cap-0),.slice (bh s.a (qk l k+1) s.cap 2) (s.len-(qk l k+1)) (s.cap-(qk l k+1))] cK;have A:=cp h2 [.slice (bh s.a 0 s.cap 2) (qk l k-0) (s.cap-0),.slice (bh s.a (qk l k+1) s.cap 2) (s.len-(qk l k+1)) (s.cap-(qk l k+1))] cK;have z:=MS c (i:=0) (j:=qk l k) (m:=s.cap) (aS _) E (by omega) (s.cap-0)
  have o:=MS c (i:=qk l k+1) (j:=l.length) (m:=s.cap) (by omega) (al _) (by omega) (s.cap-(qk l k+1));rw[←d]at o;rw[List.drop_zero]at z;rw[List.take_of_length_le (by rw[aV];omega)]at o;have D:nQ k l= [l.take (qk l k-0),l.drop (qk l k+1)].flatten:=by rw[←TR k n];unfold Vg;rw[if_pos ht];simp
  refine Mg (s:=⟨some (aF h2),2,2⟩) (vs:= [⟨bh s.a 0 s.cap 2,qk l k-0,s.cap-0⟩,⟨bh s.a (qk l k+1) s.cap 2,s.len-(qk l k+1),s.cap-(qk l k+1)⟩]) (ls:= [l.take (qk l k-0),l.drop (qk l k+1)])
   ⟨rfl,fun x=>⟨rfl,oC⟩,fun _=>⟨_,rfl,fun h=>h.elim,oI A fun i v hv=>by simpa[abE]using hv⟩⟩ ⟨z.upd g fun _ h=>h.elim,o.upd g fun _ h=>h.elim,trivial⟩ ?_ (by simp) fun H G e u=>?_
  ·simp only[List.flatten_cons,List.flatten_nil,ac,aH,aV,List.length_nil];omega
  ·rw[←D]at e
   have y:=a.tr g;exact t _ _ (e.more fun b p=>bj y.size p) (y.tr u)
theorem Xw{W:Nat→Prop}{h:ae}{b:Nat}{l:List Pr}(t:BuckAt W h b l)(j:∀x,W x→x<h.size)(A:cf l)(u:l.length≤1000000000)(k:ByteArray){K:Option Addr→ae→Prop}
  (D:∀h' b',BuckAt W h' b' (nQ k l)→Upd No h h'→K (some ⟨b',0,none⟩) h'):
  HC PG sK [.pointer (some ⟨b,0,none⟩),.pointer none,.string k] [.c .ptr] K h:=by
 refine FB _ none k ?_;unfold xY db CM bU nV;obtain⟨sp,sk,ow,C,w,y,F,v⟩:=t.ex;refine gu C (aj.2 ?_);refine Tz t u fun h2 E o b2 q p f=>?_
 refine⟨_,rfl,E,fB (i:=2) b2,?_⟩;refine Pd (q.sl fun _ _ _ h=>h) q.cap A u k fun s H g c=>?_
 have b3:=c.get0 b2;refine⟨_,rfl,X3 (i:=2) b3 (show 2<6 by decide),Kp (i:=2) (c':=fT 0 0 s o true none) b3 rfl fun B z a=>?_⟩
 have G:=bD b2;have m:=g.upd a fun x hx e=>by have e:x=h.size:=e;omega
 have n:=(p.upd c fun _ _ h=>h).upd a fun x hx e=>by have e:x=h.size:=e;omega
 refine D B h.size ⟨⟨s,o,none,z,m.sl fun x hx _ d=>?_,n.sl fun x hx _ d=>?_,g.cap,p.cap⟩,fun d=>?_⟩ ((f.tr c).trans a fun x hx=>.inr ?_)
 ·have:=j x d;have:=f.size;omega
 ·have:=j x d;omega
 ·have:=j _ d;omega
 ·have hx:x=h.size:=hx
  omega
theorem PR{W:Nat→Prop}{x:Hs}:∀(m:Nat),m≤13→∀{b:Nat} {l:List Pr} (k:ByteArray) {h:ae},TrieAt W x h m b l→(∀y,W y→y<h.size)→cf l→l.length≤1000000→∀{K:(Option Addr)×Bool→ae→Prop},
  (∀h' b',Upd No h h'→TrieAt W x h' m b' (nQ k l)→(cF l k=false→b'=b)→K (some ⟨b',0,none⟩,cF l k) h')→
  HC PG nK [VY x k,.pointer (some ⟨b,0,none⟩),.int .i64 ((13-m:Nat):Int)] [.c .ptr,.c .bool] K h:=by
 intro m;induction m with
 |zero=>
  intro _ b l k h t hW hr hn K C;have P:∀{h'},Upd No h h'→∀y,W y→y<h'.size:=fun k y Q=>aC (hW y Q) k.size
  refine ww (x.k0,x.k1,x.mask,none,k,eP x k) (some ⟨b,0,none⟩) ((13-0:Nat):Int) ?_;unfold rF ag aQ nv ax lM uy vN qO VL nW BR ng BQ MI Na;refine aW fun o b1 k1=>?_
  have bk:BuckAt W o b l:=BuckAt.upd t k1 fun _ h=>h.elim
  obtain⟨sp,sk,ow,hb,_⟩:=bk.ex;refine gu hb (au.2 ⟨_,vc b1 4,Zy bk hr (by omega) k fun M v i hv=>?_⟩)
  have b3:=i.get0 b1;cases w:cF l k with
  |false=>
   rw[w]at C;exact au.2 (C M b (k1.tr i) (by rw[yE (zn w)];exact bk.upd i fun _ h=>h.elim) fun _=>rfl)
  |true=>
   rw[w]at C;refine aj.2 ⟨none,vc b3 3,_,vc b3 4,?_⟩;refine Xw (bk.upd i fun _ h=>h.elim) (P (k1.tr i)) hr (by omega) k fun h5 b5 bk5 L=>?_
   exact C h5 b5 ((k1.tr i).tr L) bk5 fun h=>by cases h
 |succ m ih=>
  intro hm b l k h t hW hr hn K C;have P:∀{h'},Upd No h h'→∀y,W y→y<h'.size:=fun k y Q=>aC (hW y Q) k.size
  have hl:13-(m+1)<13:=by omega
  have U:13-(m+1)=12-m:=by omega
  refine ww (x.k0,x.k1,x.mask,none,k,eP x k) (some ⟨b,0,none⟩) ((13-(m+1):Nat):Int) ?_;unfold rF ag aQ nv ax lM uy vN qO VL nW BR ng BQ MI Na;refine aW fun o b1 k1=>?_
  have t1:=TrieAt.upd0 k1 t;obtain⟨s,D,hs⟩:=t1;have hs:∀c,c<32→SlotIs W x o m s c (part x (12-m) c l):=hs;obtain⟨d,n,sp,sk,ow,hb,_⟩:=D.ex;refine gu hb (aj.2 ⟨_,vc b1 5,Sb hl ?_⟩);rw[U];have hi:=yX x (12-m) k;have J:=hs _ hi;have E:cF (part x (12-m) (ck x (12-m) k) l) k=cF l k:=HK;have hrp:cf (part x (12-m) (ck x (12-m) k) l):=iX hr;have V:(part x (12-m) (ck x (12-m) k) l).length≤1000000:=bj kB hn
  have u:∀{h':ae} {b':Nat} {s':Slots},Upd No o h'→NodeAt W h' b' s'→(∀c,c≠ck x (12-m) k→s'.p c=s.p c∧s'.k c=s.k c)→SlotIs W x h' m s' (ck x (12-m) k) (nQ k (part x (12-m) (ck x (12-m) k) l))→TrieAt W x h' (m+1) b' (nQ k l):=fun O nd hp hi=>QI O nd hs hp hi
  have tt:∀{h':ae},Upd No o h'→TrieAt W x h' (m+1) b l:=fun O=>TrieAt.upd0 (k1.tr O) t
  generalize hc:ck x (12-m) k=c at*;generalize hlc:part x (12-m) c l=lc at*;refine zx D hi fun M i=>?_
  refine aW fun h4 b4 k4=>?_
  have b4':h4[M.size]? =some (.cells #[.string Qz.1,.string Qz.2] aq (0,0)):=b4;refine F6 (p:=E5 (s.p c)) b4' fun h5 b5 L=>?_
  have a:Upd No o h5:=(i.tr k4).own L i.size;have H:=a.get0 b1;have X:=D.upd a fun _ h=>h.elim
  have same:∀{h':ae},Upd No o h'→cF l k=false→K (some ⟨b,0,none⟩,false) h':=fun O w=>by
   have:=C _ b (k1.tr O) (by rw[yE (zn w)];exact tt O) fun _=>rfl
   rw[w]at this;exact this
  cases hsp:s.p c with
  |some y=>
   rw[hsp]at b5;obtain⟨A,hk0⟩:lc= [y]∧s.k c=none:=by
    rcases J with⟨_,h2,_⟩|⟨q,o,h2,M⟩|⟨_,h2,_⟩
    ·rw[hsp]at h2;cases h2
    ·rw[hsp]at h2;cases h2;exact⟨o,M⟩
    ·rw[hsp]at h2;cases h2
   refine au.2 ⟨y.1,vc b5 0,k,vc H 4,?_⟩;rw[ey];by_cases T:y.1=k
   ·have w:cF l k=true:=by rw[←E,A];exact cy.2 ⟨y,aD.2 rfl,decide_eq_true T⟩
    rw[decide_eq_true T];rw[w]at C;refine aj.2 ⟨none,vc H 3,Xo X (P (k1.tr a)) hi fun h6 b6 nd6 G=>?_⟩
    refine C h6 b6 ((k1.tr a).tr G) (u (a.tr G) nd6 (fun c' j=>⟨ge j,ge j⟩) ?_) fun h=>by cases h
    refine .inl ⟨?_,gH,gH⟩;rw[A,AM,if_pos T];rfl
   ·rw[decide_eq_false T]
    have w:cF l k=false:=by
     rw[←E,A];unfold cF;rw[tC,decide_eq_false T];rfl
    exact au.2 (same a w)
  |none=>
   refine aj.2 (vV X hi ?_);cases hsk:s.k c with
   |none=>
    have Z:lc= []:=by
     rcases J with⟨o,_⟩|⟨q,_,h2,_⟩|⟨_,_,R,h2,_⟩
     ·exact o
     ·rw[hsp]at h2;cases h2
     ·rw[hsk]at h2;cases h2
    exact au.2 (same a (by rw[←E,Z];rfl))
   |some kp=>
    obtain⟨h2l,R,rfl,tk⟩:2≤lc.length∧∃R,kp=some ⟨R,0,none⟩∧TrieAt W x o m R lc:=by
     rcases J with⟨_,_,h2⟩|⟨q,_,h2,_⟩|⟨o,_,R,h2,M⟩
     ·rw[hsk]at h2;cases h2
     ·rw[hsp]at h2;cases h2
     ·rw[hsk]at h2;cases h2;exact⟨o,R,rfl,M⟩
    refine aj.2 ⟨_,vc H 0,_,vc H 1,_,vc H 2,_,vc H 3,_,vc H 4,_,vc H 5,?_⟩;have ew:IntKind.wrap .i64 (((12-m:Nat):Int)+1)=((13-m:Nat):Int):=by rw[fx (by omega)];omega
    rw[ew];refine ih (by omega) k (TrieAt.upd0 a tk) (P (k1.tr a)) hrp V fun h6 b6 G t6 hsame=>?_
    have B:=a.tr G;rw[E];cases w:cF l k with
    |false=>exact au.2 (same B w)
    |true=>
     rw[w]at C;have hdl:=TQ (k:=k) hrp;have hdn:(nQ k lc).length≤1000000:=bj Sa V;refine aj.2 (XH t6 hdn fun h7 p F hp=>?_)
     refine aW fun h8 b8 k8=>?_
     have b8':h8[h7.size]? =some (.cells #[.string Qz.1,.string Qz.2] aq (0,0)):=b8;refine F6 (p:=p) b8' fun h9 b9 S=>?_
     have f:Upd No o h9:=((B.tr F).tr k8).own S (B.tr F).size;have c9:=f.get0 b1;have Y:=D.upd f fun _ h=>h.elim
     refine az (fun e=>?_) fun e=>?_
     ·refine⟨none,vc c9 3,p.1,vc b9 0,p.2,vc b9 1,sA Y (P (k1.tr f)) hi (fun y Q=>by rw[hsp]at Q;cases Q) p fun N I z g=>?_⟩
      refine C N I ((k1.tr f).tr g) (u (f.tr g) z (fun c' j=>⟨ge j,ge j⟩) ?_) fun h=>by cases h
      exact .inr (.inl ⟨p,hp e,gH,gH⟩)
     ·refine⟨none,vc c9 3,xt Y (P (k1.tr f)) hi (fun _ _=>hsp) ⟨b6,0,none⟩ fun N I z g=>?_⟩
      refine C N I ((k1.tr f).tr g) (u (f.tr g) z (fun c' j=>⟨ge j,ge j⟩) ?_) fun h=>by cases h
      exact .inr (.inr ⟨by omega,gH,b6,gH,TrieAt.upd0 ((F.tr k8).own S F.size|>.tr g) t6⟩)
theorem NH{W:Nat→Prop}{x:Hs}{h:ae}{b:Nat}{l:List Pr}(t:TrieAt W x h 13 b l)(o:∀y,W y→y<h.size)(v:cf l)(A:l.length≤1000000)(k:ByteArray){K:Option Addr×Bool→ae→Prop}
  (z:∀h' b',Upd No h h'→TrieAt W x h' 13 b' (nQ k l)→(cF l k=false→b'=b)→K (some ⟨b',0,none⟩,cF l k) h'):
  HC PG yC [.agg #[.int .u64 x.k0,.int .u64 x.k1,.int .u64 x.mask],.pointer none,.pointer (some ⟨b,0,none⟩),.string k] [.c .ptr,.c .bool] K h:=by
 refine N3 (x.k0,x.k1,x.mask) none (some ⟨b,0,none⟩) k ?_;unfold Ev ag AC vO BR;refine aW fun B b1 k1=>?_
 refine MR (.inr ⟨b,rfl,TrieAt.upd0 k1 t⟩) (fun y m=>aC (o y m) k1.size) fun h2 b2 p f j=>?_
 have d:=f.get0 b1;refine⟨_,vc d 0,_,vc d 1,_,vc d 2,_,vc d 0,_,vc d 1,_,vc d 2,?_⟩;refine uP fun C c=>?_
 have g:=c.get0 d;refine⟨⟨vc g 0,vc g 1,vc g 2⟩,?_⟩;have a:=(k1.tr f).tr c;refine PR 13 (al _) k (TrieAt.upd0 c p) (fun y m=>aC (o y m) a.size) v A fun w u i s n=>?_
 refine z w u (a.tr i) s fun q=>?_
 rw[n q];rcases j with e|e
 ·cases e;rfl
 ·cases e
end Go.Proofs
namespace Go.Proofs
def wT(P a:List UInt8→ByteArray→Prop)(k:List UInt8):Prop:=∀k' v',a k' v'↔k'≠k∧P k' v'
theorem RV{P:List UInt8→ByteArray→Prop}{k:List UInt8}(h:∀v,¬P k v):wT P P k:=fun k' b=>⟨fun a=>⟨fun e=>h b (e▸a),a⟩,fun h=>h.2⟩
theorem RU{w:Option ByteArray}{F:Fo}(h:fV F):wT (tW w F) (tW none F) []:=by
 intro k' a;unfold tW;constructor
 ·rintro(⟨_,f⟩|hi)
  ·cases f
  ·exact⟨qm h hi,.inr hi⟩
 ·rintro⟨e,⟨f,_⟩|hi⟩
  ·exact absurd f e
  ·exact .inr hi
theorem IS{w:Option ByteArray}{F F':Fo}{k:List UInt8}(c:k≠[])(h:wT (rZ F) (rZ F') k):wT (tW w F) (tW w F') k:=by
 intro k' a;unfold tW;rw[h k' a];constructor
 ·rintro(⟨e,f⟩|hi)
  ·exact⟨fun b=>c (b.symm.trans e),.inl ⟨e,f⟩⟩
  ·exact⟨hi.1,.inr hi.2⟩
 ·rintro⟨e,hi|hi⟩
  ·exact .inl hi
  ·exact .inr ⟨e,hi⟩
theorem RW{lab r:List UInt8}{w f:Option ByteArray}{F F':Fo}(h:wT (tW w F) (tW f F') r):wT (vd (lab,w,F)) (vd (lab,f,F')) (lab++r):=by
 intro k' d;constructor
 ·rintro⟨s,e,a⟩
  obtain⟨c,h2⟩:=(h s d).1 a;exact⟨fun b=>c (fh (e.symm.trans b)),s,e,h2⟩
 ·rintro⟨c,s,e,a⟩
  exact⟨s,e,(h s d).2 ⟨fun b=>c (by rw[e,b]),a⟩⟩
theorem Vd{F:Fo}{i:Nat}{m:Bn}{k:List UInt8}(h:fV F)(hi:i<F.toL.length)(ek:hd F.toL[i].1=hd k)(g:wT (vd F.toL[i]) (vd m) k):wT (rZ F) (rZ (.ofL (F.toL.set i m))) k:=by
 intro k' f;have hc:=eW.1 h;rw[gv,gv,Fo.to_of];constructor
 ·rintro⟨n,a,b⟩
  rcases(oh hi (yk h hi)).1 a with rfl|⟨a,d⟩
  ·obtain⟨c,h2⟩:=(g k' f).1 b
   exact⟨c,_,aZ hi,h2⟩
  ·refine⟨fun e=>d ?_,n,a,b⟩
   obtain⟨r,j,_⟩:=b;refine yG h a (aZ hi) ?_;rw[ek,←e,j,pq (hc.2 n a).1]
 ·rintro⟨c,n,a,b⟩
  by_cases e:n=F.toL[i]
  ·exact⟨m,(oh hi (yk h hi)).2 (.inl rfl),(g k' f).2 ⟨c,by rw[←e];exact b⟩⟩
  ·exact⟨n,(oh hi (yk h hi)).2 (.inr ⟨a,e⟩),b⟩
theorem Gd{α:Type}{l:List α}{i:Nat}(hi:i<l.length){x:α}(d:∀j (a:j<l.length),j≠i→l[j]≠l[i]):x∈l.take i++l.drop (i+1)↔x∈l∧x≠l[i]:=by
 constructor
 ·intro h
  rcases bF.1 h with h|h
  ·obtain⟨j,a,e⟩:=bC h
   rw[aH]at a;rw[jI]at e;exact⟨List.mem_of_mem_take h,by rw[←e];exact d j (by omega) (by omega)⟩
  ·obtain⟨j,a,e⟩:=bC h
   rw[aV]at a;rw[rR]at e;exact⟨List.mem_of_mem_drop h,by rw[←e];exact d (i+1+j) (by omega) (by omega)⟩
 ·rintro⟨h,c⟩
  obtain⟨j,a,e⟩:=bC h;rcases nO j i with b|b|b
  ·exact bF.2 (.inl (pE (i:=j) (h:=by rw[aH];omega) (by rw[jI];exact e)))
  ·subst b;exact absurd e.symm c
  ·refine bF.2 (.inr (pE (i:=j-(i+1)) (h:=by rw[aV];omega) ?_))
   rw[rR];have:i+1+(j-(i+1))=j:=by omega
   simp only[this];exact e
theorem Y7{F:Fo}{i:Nat}(h:fV F):fV (.ofL (F.toL.take i++F.toL.drop (i+1))):=by
 have hc:=eW.1 h;rw[eW,Fo.to_of];have a:(F.toL.take i++F.toL.drop (i+1)).Sublist F.toL:=by rw[←List.eraseIdx_eq_take_drop_succ];exact List.eraseIdx_sublist ..
 exact⟨hc.1.sublist a,fun n b=>hc.2 n (a.subset b)⟩
theorem Ve{F:Fo}{i:Nat}{k:List UInt8}(h:fV F)(hi:i<F.toL.length)(ek:hd F.toL[i].1=hd k)(j:∀k' c,vd F.toL[i] k' c→k'=k):wT (rZ F) (rZ (.ofL (F.toL.take i++F.toL.drop (i+1)))) k:=by
 intro k' c;have hc:=eW.1 h;rw[gv,gv,Fo.to_of];constructor
 ·rintro⟨n,a,b⟩
  obtain⟨a,d⟩:=(Gd hi (yk h hi)).1 a;refine⟨fun e=>d ?_,n,a,b⟩
  obtain⟨r,g,_⟩:=b;refine yG h a (aZ hi) ?_;rw[ek,←e,g,pq (hc.2 n a).1]
 ·rintro⟨f,n,a,b⟩
  by_cases e:n=F.toL[i]
  ·exact absurd (j k' c (by rw[←e];exact b)) f
  ·exact⟨n,(Gd hi (yk h hi)).2 ⟨a,e⟩,b⟩
def Zf(n:Bn)(o:Option Bn):Prop:=(o=none∧∀k v,¬vd n k v)∨∃m,o=some m∧K4 m∧hd m.1=hd n.1∧∀k v,vd m k v↔vd n k v
theorem US{lab:List UInt8}{w:Option ByteArray}{F:Fo}(a:lab≠[])(hc:fV F)(h:w.isSome∨2≤F.toL.length):Zf (lab,w,F) (some (lab,w,F)):=.inr ⟨_,rfl,⟨a,h,hc⟩,rfl,fun _ _=>Iff.rfl⟩
theorem UT{lab:List UInt8}{F:Fo}(h:F.toL= []):Zf (lab,none,F) none:=by
 refine .inl ⟨rfl,fun k v hi=>?_⟩
 obtain⟨r,_,⟨_,h'⟩|h'⟩:=hi
 ·cases h'
 ·obtain⟨n,a,_⟩:=gv.1 h'
  simp only at a;rw[h]at a;cases a
theorem WT{lab lk:List UInt8}{a:Option ByteArray}{F Fk:Fo}(c:lab≠[])(hc:fV F)(h:F.toL= [(lk,a,Fk)]):Zf (lab,none,F) (some (lab++lk,a,Fk)):=by
 have d:F=.cons lk a Fk .nil:=by
  rw[←Fo.of_to F,h];rfl
 have b:=(eW.1 hc).2 (lk,a,Fk) (by rw[h];exact aD.2 rfl);refine .inr ⟨_,rfl,⟨fun e=>c (List.append_eq_nil_iff.1 e).1,b.2.1,b.2.2⟩,pq c,fun k v=>?_⟩
 have:=LY (lab:=lab++lk) (w:=a) (F:=Fk) lab.length k v;rw[List.take_left,gR]at this;rw[d];exact this.symm
end Go.Proofs
namespace Go.Proofs
open Go Go.Lift
theorem lY(s:ByteArray):s.data.toList.length=s.size:=by simp
theorem XC(a b:ByteArray):(a++b).data.toList=a.data.toList++b.data.toList:=by rw[ByteArray.data_append,Array.toList_append]
theorem UM{a b:ByteArray}{h:ae}{K:Bool→ae→Prop}(c:K (decide (b.data.toList<+:a.data.toList)) h):HC PG w7 [.string a,.string b] [.c .bool] K h:=by
 refine KG a b ?_;unfold BB hP;refine Fw a b ?_;unfold xT hP;refine tX a b ?_;unfold mw;have j:=lY a;have i:=lY b;refine az (fun g=>?_) fun f=>?_
 ·refine⟨⟨by omega,by omega⟩,?_⟩
  rw[ey,aU];have e:decide (a.extract 0 b.size=b)=decide (b.data.toList<+:a.data.toList):=by
   rw[decide_eq_decide,←qt,Dz,List.prefix_iff_eq_take,i];exact eq_comm
  rw[e];exact c
 ·have e:decide (b.data.toList<+:a.data.toList)=false:=decide_eq_false fun d=>by
   have:=d.length_le;omega
  rw[e]at c;exact c
theorem Xk{a b:ByteArray}{h:ae}{K:ByteArray×Bool→ae→Prop}(d:∀s:ByteArray,a.data.toList=b.data.toList++s.data.toList→K (s,true) h)(h2:(∀r,a.data.toList≠b.data.toList++r)→K (⟨#[]⟩,false) h):HC PG yp [.string a,.string b] [.c .str,.c .bool] K h:=by
 refine Sw a b ?_;unfold Jw hP;refine UM ?_;have i:=lY a;have g:=lY b;by_cases c:b.data.toList<+:a.data.toList
 ·rw[decide_eq_true c]
  have f:=c.length_le;refine aj.2 ⟨⟨by omega,by omega⟩,?_⟩
  rw[aU];refine d _ ?_;rw[DB];obtain⟨r,e⟩:=c;rw[←e,←g,gR]
 ·rw[decide_eq_false c]
  exact au.2 (h2 fun r e=>c ⟨r,e.symm⟩)
def abJ(W:Nat→Prop)(h:ae)(r:Option Addr)(o:Option Bn):Prop:=(r=none∧o=none)∨∃b sl m,r=some ⟨b,0,none⟩∧o=some m∧sl.data.toList=m.1∧RxN W h b sl m.2.1 m.2.2
theorem Ux{W:Nat→Prop}{h:ae}{b:Nat}{sl:ByteArray}{w:Option ByteArray}{F:Fo}(r:RxN W h b sl w F)(X:∀y,W y→y<h.size)(hc:fV F)(D:sl.data.toList≠[])(hs1:sl.size≤1000000)(M:∀k v,rZ F k v→k.length≤1000000)
  {K:Option Addr→ae→Prop}(P:∀h' r o,Upd No h h'→Zf (sl.data.toList,w,F) o→abJ W h' r o→K r h'):HC PG rm [.pointer (some ⟨b,0,none⟩),.pointer none] [.c .ptr] K h:=by
 refine DZ _ none ?_;unfold wE bI cl aK nW cD bU nV;have hr:=r;obtain⟨val,s,ow,ks,n,hv,Z,hcap,hF⟩:=r;have Y:=kM.1 hF;have hn:=jC hc;have c:=Z.len;rw[Y.1]at c;refine Join.intro (fun t h'=>t=decide (w.isSome∨2≤F.toL.length)∧h'=h) (fun R hR=>⟨_,rfl,w.isSome,dY (i:=1) n,?_⟩) ?_
 ·cases w with
  |some v=>exact au.2 (hR _ _ ⟨rfl,rfl⟩)
  |none=>
   refine aj.2 ⟨_,rfl,s,dY (i:=3) n,hR _ _ ⟨?_,rfl⟩⟩;rw[decide_eq_decide];constructor
   ·intro h;exact .inr (by omega)
   ·rintro(h|h)
    ·cases h
    ·omega
 ·rintro t h' ⟨rfl,rfl⟩
  refine az (fun h2=>?_) fun h2=>?_
  ·exact P h' _ _ (Upd.refl _ _) (US D hc h2) (.inr ⟨b,sl,_,rfl,rfl,rfl,hr⟩)
  ·have L:w=none:=by
    cases w with
    |none=>rfl
    |some v=>exact absurd (.inl rfl) h2
   subst L;have O:F.toL.length<2:=by
    rcases bW F.toL.length 2 with h|h
    ·exact h
    ·exact absurd (.inr h) h2
   refine⟨_,rfl,s,dY (i:=3) n,?_⟩;match hFL:F.toL,O with
   | [],_=>
    rw[hFL]at c;have e:((s.len:Int)==(0:Int))=true:=by rw[beq_iff_eq,c];rfl
    rw[e];exact au.2 (P h' _ _ (Upd.refl _ _) (UT hFL) (.inl ⟨rfl,rfl⟩))
   | [(lk,wk,Fk)],_=>
    rw[hFL]at c;have e:((s.len:Int)==(0:Int))=false:=by rw[beq_eq_false_iff_ne,c];simp
    rw[e];have d:(lk,wk,Fk)∈F.toL:=by rw[hFL];exact aD.2 rfl
    have J:=(eW.1 hc).2 _ d;have h0:0<F.toL.length:=by rw[hFL];exact oC
    obtain⟨kb,f,S,g,m⟩:=Y.at h0;have e0:F.toL[0]=(lk,wk,Fk):=by simp only[hFL];rfl
    rw[e0]at g m;simp only at g m;obtain⟨a,ha,_,Q⟩:=Z.at0 S;obtain⟨u,kss,kow,H,E,G,B,V,z⟩:=m;have T:=kM.1 z;have p:=jC J.2.2;refine aj.2 ⟨_,rfl,s,dY (i:=3) n,⟨by omega,by rw[c];simp⟩,a,ha,some ⟨kb,0,none⟩,Q,?_⟩
    refine qT E B (by rw[T.1];exact p) fun h1 s1 b1 N A=>?_
    obtain⟨rr,vv,I⟩:=om hc _ d;have U:=M (lk++rr) vv (gv.2 ⟨_,d,rr,rfl,I⟩);rw[ac]at U;have hlkl:lk.length=f.size:=by rw[←g];exact lY f
    refine⟨_,rfl,sl,dY (i:=0) (A.get0 n),_,rfl,f,dY (i:=0) b1,by omega,?_⟩
    have hbl:b<h'.size:=bD n;refine yf b1 fun h2 b2 q=>?_
    have j:Upd No h' h2:=A.own q (al _);have C:=N.upd q fun x hx e=>by have e:x=h'.size:=e;have:=hx.1;omega
    refine P h2 _ _ j (WT D hc hFL) (.inr ⟨h'.size,sl++f,_,rfl,rfl,by rw[←g];exact XC sl f,⟨u,s1,none,H,b2,G,C.sl (fun x hx _ L=>by have:=X _ L;have:=hx.1;omega),⟨C.cap,fun hx=>nf _ (X _ hx)⟩,RxF.upd0 j z⟩⟩)
set_option maxHeartbeats 1000000 in
theorem Wt{W:Nat→Prop}:∀(n:Nat) {b:Nat} {sl:ByteArray} {w:Option ByteArray} {F:Fo} {h:ae} (k:ByteArray),k.size<n→RxN W h b sl w F→(∀y,W y→y<h.size)→fV F→(∀j v,rZ F j v→j.length≤1000000)→∀{K:(Option Addr)×Bool→ae→Prop},
  (∀h' b' w' F' t,Upd No h h'→RxN W h' b' sl w' F'→fV F'→wT (tW w F) (tW w' F') k.data.toList→(t=false→b'=b∧∀v,¬tW w F k.data.toList v)→(t=true→∃v,tW w F k.data.toList v)→K (some ⟨b',0,none⟩,t) h')→
  HC PG nH [.pointer (some ⟨b,0,none⟩),.pointer none,.string k] [.c .ptr,.c .bool] K h:=by
 intro n;induction n with
 |zero=>intro b sl w F h k hk;omega
 |succ n ih=>
  intro b sl w F h k hkn r hW hc hbd K hk;refine D1 (some ⟨b,0,none⟩) none k ?_;unfold wG bI cl aK db hP VL cD bU HG nV Ov;have hr:=r;obtain⟨val,s,ow,ks,hb,hv,hs,hcap,hF⟩:=r;have U:=kM.1 hF;have hn:=jC hc;have hcan:=eW.1 hc;have z:∀{h':ae},Upd No h h'→(∀v,¬tW w F k.data.toList v)→K (some ⟨b,0,none⟩,false) h':=fun hu D=>hk _ b w F false hu (hr.upd0 hu) hc (RV D) (fun _=>⟨rfl,D⟩) fun h=>by cases h
  rw[ey];refine az (fun hk0=>?_) fun hk0=>?_
  ·have hke:k.data.toList= []:=by rw[hk0]
   rw[hke]at hk z;refine⟨_,rfl,w.isSome,dY (i:=1) hb,?_⟩;cases L:w with
   |none=>
    refine au.2 (z (Upd.refl _ _) fun v d=>?_)
    rcases d with⟨_,h⟩|h
    ·rw[L]at h;cases h
    ·exact absurd rfl (qm hc h)
   |some u=>
    refine aj.2 (qT hb hs (by rw[U.1];exact hn) fun h1 s1 b1 ho1 hu1=>?_)
    refine⟨_,rfl,X1 (i:=1) b1 (show 1<5 by decide),Kl (i:=1) (c':=AY sl false val s1 none) b1 rfl fun h2 b2 o=>?_⟩
    refine⟨_,rfl,X1 (i:=2) b2 (show 2<5 by decide),Kl (i:=2) (c':=AY sl false ⟨#[]⟩ s1 none) b2 rfl fun h3 b3 C=>?_⟩
    have E:Upd No h h3:=hu1.own (o.tr C) (al _);have ho3:=ho1.upd (o.tr C) fun x hx e=>by have e:x=h.size:=e;have:=hx.1;omega
    refine hk h3 h.size none F true E ⟨⟨#[]⟩,s1,none,ks,b3,rfl,ho3.sl (fun x hx _ L=>by have:=hW _ L;have:=hx.1;omega),⟨ho3.cap,fun hx=>nf _ (hW _ hx)⟩,RxF.upd0 E hF⟩ hc (RU hc) (fun h=>by cases h) fun _=>⟨u,.inl ⟨rfl,L⟩⟩
  ·have p:k.data.toList≠[]:=fun e=>hk0 (by cases k;exact congrArg mP (Array.toList_inj.1 e))
   obtain⟨c0,hc0,hc0e⟩:=E3 p;refine⟨c0,Int.le_refl _,hc0,?_⟩;have hlk:k.data.toList.length=k.size:=lY k;refine EP hr hc (c:=c0.toNat) (UInt8.toNat_lt _) fun i ok Y hlo hhi hok=>?_
   rw[hc0e]at hlo hhi hok;cases ok with
   |false=>
    refine au.2 (z (Upd.refl _ _) fun v d=>?_)
    rcases d with⟨h,_⟩|d
    ·exact p h
    ·obtain⟨n',hn',e,_⟩:=sF hc d
     obtain⟨j,hj,rfl⟩:=bC hn';rcases bW j i with hl|hl
     ·have:=hlo j hj hl;omega
     ·have h1:=hhi j hj hl
      have h2:=hhi i (by omega) (al _);rcases bW i j with hl2|hl2
      ·have h3:=ce.1 hcan.1 i j (by omega) hj hl2
       omega
      ·have:i=j:=by omega
       subst this;have:=hok.2 ⟨hj,e⟩;cases this
   |true=>
    obtain⟨hi,X⟩:=hok.1 rfl;refine aj.2 ⟨_,rfl,s,dY (i:=3) hb,?_⟩;obtain⟨kb,ksl,hki,B,I⟩:=U.at hi;have H:F.toL[i]∈F.toL:=aZ hi;have S:=hcan.2 _ H;obtain⟨a,ha,_,hvv⟩:=hs.at0 hki;have hslen:=hs.len;rw[U.1]at hslen;have hlt1:(i:Int)<((s.len:Nat):Int):=by omega
    refine⟨⟨by simp only;omega,hlt1⟩,a,ha,some ⟨kb,0,none⟩,hvv,_,rfl,?_⟩;obtain⟨kval,kss,kow,kks,hkb,_⟩:=id I;have A:∀v,rZ F k.data.toList v→vd F.toL[i] k.data.toList v:=fun v d=>by
     obtain⟨n',hn',e,hN⟩:=sF hc d;rw[←yG hc hn' H (by omega)];exact hN
    have q:∀j v,vd F.toL[i] j v→rZ F j v:=fun j v d=>gv.2 ⟨_,H,d⟩
    have g:∀{m:Bn},K4 m→hd m.1=hd F.toL[i].1→fV (.ofL (F.toL.set i m)):=fun h1 h2=>T0 hc hi h1 h2
    have P:∀{m:Bn},wT (vd F.toL[i]) (vd m) k.data.toList→wT (rZ F) (rZ (.ofL (F.toL.set i m))) k.data.toList:=fun hp=>Vd hc hi X hp
    have Q:(∀k' v',vd F.toL[i] k' v'→k'=k.data.toList)→wT (rZ F) (rZ (.ofL (F.toL.take i++F.toL.drop (i+1)))) k.data.toList:=fun hp=>Ve hc hi X hp
    have hrset:∀{h':ae} {k':Option Addr} {m:Bn},Upd No h h'→Kid W h' k' m→RxL W h' (ks.set i k') (F.toL.set i m):=fun hu hkd=>(U.upd0 hu).set hi hkd
    generalize F.toL[i]=m at B I S A q g P Q X;obtain⟨lab,wk,Fk⟩:=m;simp only at B I S X g;refine⟨ksl,dY (i:=0) hkb,Xk (fun N f=>?_) fun D=>?_⟩
    ·rw[B]at f
     have hlne:lab.length≠0:=fun e=>S.1 (List.length_eq_zero_iff.1 e)
     have hrl:N.size<k.size:=by
      rw[←lY N,←hlk,f,ac];omega
     refine aj.2 ⟨_,rfl,s,dY (i:=3) hb,⟨by simp only;omega,hlt1⟩,a,ha,some ⟨kb,0,none⟩,hvv,?_⟩;have hkbd:∀j v,rZ Fk j v→j.length≤1000000:=fun j v d=>by
      have:=hbd _ v (q (lab++j) v ⟨j,rfl,.inr d⟩);rw[ac]at this;omega
     refine ih N (by omega) I hW S.2.2 hkbd fun h2 b2 w2 F2 t o rn2 hc2 hd2 hg0 hg1=>?_
     cases t with
     |false=>
      refine au.2 (z o fun v d=>?_)
      rcases d with⟨h,_⟩|d
      ·exact p h
      ·obtain⟨r',e,hr'⟩:=A v d
       simp only at e;rw[f]at e;exact(hg0 rfl).2 v (by rw[fh e];exact hr')
     |true=>
      obtain⟨v0,hv0⟩:=hg1 rfl;have G:∃v,tW w F k.data.toList v:=⟨v0,.inr (q _ _ ⟨_,f,hv0⟩)⟩;have hdn:wT (vd (lab,wk,Fk)) (vd (lab,w2,F2)) k.data.toList:=by
       rw[f];exact RW hd2
      refine aj.2 (qT (o.get0 hb) (hs.upd o fun _ h=>h.elim) (by rw[U.1];exact hn) fun h3 s3 b3 ho3 C=>?_)
      have E:=o.tr C;obtain⟨rr,vv,d⟩:=om hc _ H;have hlb:lab.length≤1000000:=by
       have:=hbd _ v0 (q _ _ ⟨_,f,hv0⟩);rw[f,ac]at this;omega
      have hb2:∀j v,rZ F2 j v→j.length≤1000000:=fun j v d=>by
       rcases((hd2 j v).1 (.inr d)).2 with⟨e,_⟩|h
       ·rw[e];simp
       ·exact hkbd j v h
      refine Ux (W:=Pro W h2 h3) ((rn2.less Pro.hm).upd0 C) (Pro.lt (fun y hy=>aC (hW y hy) o.size) C) hc2 (by rw[B];exact S.1) (by rw[←lY ksl,B];exact hlb) hb2 fun h4 r4 o4 T hm4 hr4=>?_
      rw[B]at hm4;have b4:=T.get0 b3;have ho4:=ho3.upd T fun _ _ h=>h
      have hu04:=E.tr T;have hz2:h.size≤h2.size:=o.size;have Y:i<ks.length:=by rw[U.1];exact hi
      have hlen4:=ho4.len;rcases hr4 with⟨rfl,rfl⟩|⟨V,sl4,m4,rfl,rfl,hsl4,rn4⟩
      ·rcases hm4 with⟨_,D⟩|⟨_,e,_⟩
       ·have ew:IntKind.wrap .i64 ((i:Int)+1)=((i+1:Nat):Int):=by rw[fx (by omega)];omega
        refine au.2 ⟨_,rfl,s3,dY (i:=3) b4,?_⟩;simp only;rw[ew];refine RZ ho4 Y (by rw[U.1];omega) fun s5 h5 O J=>?_
        have b5:=J.get b4 fun hx=>by have:=hx.1;omega
        refine⟨_,rfl,X1 (i:=3) b5 (show 3<5 by decide),Kl (i:=3) (c':=AY sl w.isSome val s5 none) b5 rfl fun h6 b6 hu6=>?_⟩
        have R:Upd No h h6:=(hu04.trans J fun x hx=>.inr (by have:=hx.1;omega)).own hu6 hz2
        have ho6:=O.upd hu6 fun x hx e=>by have e:x=h2.size:=e;have:=hx.1;omega
        refine hk h6 h2.size w _ true R ⟨val,s5,none,_,b6,hv,ho6.sl (fun x hx _ L=>by have:=hW _ L;have:=hx.1;omega),⟨ho6.cap,fun hx=>by have:=hW _ hx;omega⟩,kM.2 (by rw[Fo.to_of];exact((U.upd0 R).take i).app ((U.upd0 R).drop (i+1)))⟩ (Y7 hc) (IS p (Q fun k' v' hN=>?_)) (fun h=>by cases h) fun _=>G
        refine Classical.byContradiction fun hne=>D k' v' ((hdn k' v').2 ⟨hne,hN⟩)
       ·cases e
      ·rcases hm4 with⟨e,_⟩|⟨m',e,hcn,hhd,hiff⟩
       ·cases e
       ·cases e
        obtain⟨a3,ha3,Z,hw3,O,J⟩:=OwnS.setAt ho4 Y (some ⟨V,0,none⟩);refine aj.2 ⟨_,rfl,s3,dY (i:=3) b4,⟨by simp only;omega,by simp only;omega⟩,a3,ha3,?_⟩
        have hw1:Wr h4 (adr a3 (i*1)):=by
         rcases hw3 with L|⟨b',hb',L⟩
         ·cases L
         ·cases hb';exact L 0 (by simp)
        refine⟨hw1,bP ?_⟩;have b5:=J.get b4 fun e=>by have e:h2.size=a3.block:=e;have:=Z.1;omega
        have hu45:Upd No h2 _:=(C.tr T).trans J fun x hx=>.inr (by have hx:x=a3.block:=hx;have:=Z.1;omega)
        have hu05:=o.tr hu45;have eset:ks.set i (some ⟨V,0,none⟩)=ks.take i++some ⟨V,0,none⟩::ks.drop (i+1):=by rw[List.set_eq_take_append_cons_drop,if_pos Y]
        rw[←eset]at O;have rn5:=(rn4.updM (M:=(· =a3.block)) J fun y hy=>.inl (.inr (by have hy:y=a3.block:=hy;have:=Z.1;have:=Z.2;omega))).less (W':=W) fun y hy=>.inl (.inl hy)
        exact hk _ h2.size w _ true hu05 ⟨val,s3,none,_,b5,hv,O.sl (fun x hx _ L=>by have:=hW _ L;have:=hx.1;omega),⟨O.cap,fun hx=>by have:=hW _ hx;omega⟩,kM.2 (by rw[Fo.to_of];exact hrset hu05 ⟨V,sl4,rfl,hsl4,rn5⟩)⟩ (g hcn hhd) (IS p (P fun k' v'=>by rw[hiff k' v'];exact hdn k' v')) (fun h=>by cases h) fun _=>G
    ·rw[B]at D
     refine au.2 (z (Upd.refl _ _) fun v d=>?_)
     rcases d with⟨h,_⟩|d
     ·exact p h
     ·obtain⟨r',e,_⟩:=A v d
      exact D r' e
end Go.Proofs
namespace Go.Proofs
open Go Go.Lift
theorem UD{w:Option ByteArray}{F:Fo}{l:List Pr}(h:∀k v,(k,v)∈wZ w F↔∃p∈l,p.1.data.toList=k∧p.2=v)(b:Fit l):∀j v,rZ F j v→j.length≤1000000:=fun j v hi=>by
 obtain⟨p,a,e,_⟩:=(h j v).1 (jR.2 (.inr hi));have:=(b p a).1;rw[←e,lY];omega
theorem MZ{W:Nat→Prop}{h:ae}{b:Nat}{l:List Pr}(t:RadAt W h b l)(D:∀y,W y→y<h.size)(N:Fit l)(k:ByteArray){K:Option Addr×Bool→ae→Prop}
  (M:∀h' b',Upd No h h'→RadAt W h' b' (nQ k l)→(cF l k=false→b'=b)→K (some ⟨b',0,none⟩,cF l k) h'):
  HC PG yu [.pointer none,.pointer (some ⟨b,0,none⟩),.string k] [.c .ptr,.c .bool] K h:=by
 refine NU none (some ⟨b,0,none⟩) k ?_;unfold El VL;refine EN (.inr ⟨b,rfl,t⟩) D fun h2 b2 E i u=>?_
 have n:b2=b:=by
  rcases u with e|e
  ·cases e;rfl
  ·cases e
 subst n;obtain⟨w,F,H,J,s⟩:=E.ex;refine Wt (k.size+1) k (by omega) H (fun y O=>aC (D y O) i.size) J (UD s N) fun P b3 I F' a x A C m g o=>?_
 have f:∀v,tW w F k.data.toList v↔(k,v)∈l:=fun v=>by
  rw[←jR,s];constructor
  ·rintro⟨p,B,L,rfl⟩
   rw[←qt.1 L];exact B
  ·intro B;exact⟨_,B,rfl,rfl⟩
 have z:a=cF l k:=by
  cases a with
  |false=>
   refine(Dj fun q d e=>(g rfl).2 q.2 ((f _).2 ?_)).symm
   rw[←e];exact d
  |true=>
   obtain⟨v,hv⟩:=o rfl;exact(cy.2 ⟨_,(f v).1 hv,decide_eq_true rfl⟩).symm
 subst z;refine M P b3 (i.tr x) ⟨I,F',A,C,fun j v=>?_⟩ fun G=>(g G).1
 rw[jR,m j v,←jR,s];constructor
 ·rintro⟨c,q,d,rfl,rfl⟩
  exact⟨q,Hk.2 ⟨d,fun e=>c (by rw[e])⟩,rfl,rfl⟩
 ·rintro⟨q,d,rfl,rfl⟩
  obtain⟨d,c⟩:=Hk.1 d;exact⟨fun e=>c (qt.1 e),q,d,rfl,rfl⟩
theorem FR{W:Nat→Prop}{x:Hs}{h:ae}{o:Int}{t:Tr}{l:List Pr}(i:TreeIs W h o x t l)(hW:∀y,W y→y<h.size)(hr:cf l)(hf:Fit l)(hn:l.length≤1000000)(k:ByteArray)(S:k.size≤256){K:Tr×Int→ae→Prop}
  (L:∀h' j,TreeIs W h' o x j (nQ k l)→(cF l k=false→j=t)→Upd No h h'→K (j,if cF l k then 0 else 4) h'):HC PG lR [HJ t,.pointer none,.string k] [.agg [.int .i64,.int .u64,.int .u64,.int .u64,.ptr,.ptr],.c (.int .i64)] K h:=by
 refine A4 t none k ?_;unfold uE bw ag aQ eJ db nv vO AU r7 hP dK Ka VL;refine aW fun d b1 k1=>aW fun h2 b2 Q=>?_
 have z1:=bD b1;have z2:=bD b2;have s1:h.size≤d.size:=k1.size;have T:=k1.tr Q;refine AD (v:=⟨#[]⟩) S (aS 4096) (aj.2 ?_);have C:=Q.get0 b1;refine⟨_,vc C 0,_,vc C 1,_,vc C 2,_,vc C 3,_,vc C 4,_,vc C 5,?_⟩;refine aW fun h3 b3 k3=>?_
 have z3:=bD b3;have s2:d.size≤h2.size:=Q.size;refine cU (c:=pi Kc) (vs:=pi t) b3 rfl fun G Y B=>?_
 have w:Upd No h G:=(T.tr k3).own B (by omega);have E:Upd No h2 G:=k3.own B (al _);have s4:h3.size≤G.size:=B.size;have u:=E.get0 C;have Z:=E.get0 b2;have i4:=i.pro w;have H:=Pro.lt hW w;have X:∀{a:ae} {j:Tr},Upd No h a→a[h.size]? =some (.cells (pi j).toArray bN (0,0))→a[d.size]? =some (.cells (pi Kc).toArray bN (0,0))→a[h2.size]? =some (.cells (pi t).toArray bN (0,0))→TreeIs (Pro W h G) a o x j (nQ k l)→(cF l k=false→j=t)→
   CondP (!cF l k) (∃v41:Int,aP a (adr (aF h2) 0)=some (.int .i64 v41)∧
    ∃v42:Int,aP a (adr (aF h2) 1)=some (.int .u64 v42)∧
    ∃v43:Int,aP a (adr (aF h2) 2)=some (.int .u64 v43)∧
    ∃v44:Int,aP a (adr (aF h2) 3)=some (.int .u64 v44)∧
    ∃v45:Option Addr,aP a (adr (aF h2) 4)=some (.pointer v45)∧
    ∃v46:Option Addr,aP a (adr (aF h2) 5)=some (.pointer v46)∧
    (u6 a (some (aF d)) 0 [.int .i64 v41,.int .u64 v42,.int .u64 v43,.int .u64 v44,.pointer v45,.pointer v46]∧
     At (iP a (aF d) 0 [.int .i64 v41,.int .u64 v42,.int .u64 v43,.int .u64 v44,.pointer v45,.pointer v46]) (fun n=>
      ∃v48:Int,aP n (adr (aF d) 0)=some (.int .i64 v48)∧
      ∃v49:Int,aP n (adr (aF d) 1)=some (.int .u64 v49)∧
      ∃v50:Int,aP n (adr (aF d) 2)=some (.int .u64 v50)∧
      ∃v51:Int,aP n (adr (aF d) 3)=some (.int .u64 v51)∧
      ∃v52:Option Addr,aP n (adr (aF d) 4)=some (.pointer v52)∧
      ∃v53:Option Addr,aP n (adr (aF d) 5)=some (.pointer v53)∧
      K ((v48,v49,v50,v51,v52,v53),4) n))) (
    ∃v54:Int,aP a (adr (aF h) 0)=some (.int .i64 v54)∧
    ∃v55:Int,aP a (adr (aF h) 1)=some (.int .u64 v55)∧
    ∃v56:Int,aP a (adr (aF h) 2)=some (.int .u64 v56)∧
    ∃v57:Int,aP a (adr (aF h) 3)=some (.int .u64 v57)∧
    ∃v58:Option Addr,aP a (adr (aF h) 4)=some (.pointer v58)∧
    ∃v59:Option Addr,aP a (adr (aF h) 5)=some (.pointer v59)∧
    (u6 a (some (aF d)) 0 [.int .i64 v54,.int .u64 v55,.int .u64 v56,.int .u64 v57,.pointer v58,.pointer v59]∧
     At (iP a (aF d) 0 [.int .i64 v54,.int .u64 v55,.int .u64 v56,.int .u64 v57,.pointer v58,.pointer v59]) (fun m=>
      ∃v61:Int,aP m (adr (aF d) 0)=some (.int .i64 v61)∧
      ∃v62:Int,aP m (adr (aF d) 1)=some (.int .u64 v62)∧
      ∃v63:Int,aP m (adr (aF d) 2)=some (.int .u64 v63)∧
      ∃v64:Int,aP m (adr (aF d) 3)=some (.int .u64 v64)∧
      ∃v65:Option Addr,aP m (adr (aF d) 4)=some (.pointer v65)∧
      ∃v66:Option Addr,aP m (adr (aF d) 5)=some (.pointer v66)∧
      K ((v61,v62,v63,v64,v65,v66),0) m))):=fun{a j} I A J z M e=>by
  cases D:cF l k with
  |false=>
   rw[D]at L e;have U:=e rfl;subst U;refine au.2 ⟨_,vc z 0,_,vc z 1,_,vc z 2,_,vc z 3,_,vc z 4,_,vc z 5,?_⟩;refine cU (c:=pi Kc) (vs:=pi j) J rfl fun V p s=>?_
   refine⟨_,vc p 0,_,vc p 1,_,vc p 2,_,vc p 3,_,vc p 4,_,vc p 5,?_⟩;exact L V j ((M.updM s (fun y q=>.inl (.inr (by have q:y=d.size:=q;omega)))).less Pro.sub) (fun _=>rfl) (I.own s s1)
  |true=>
   rw[D]at L e;refine aj.2 ⟨_,vc A 0,_,vc A 1,_,vc A 2,_,vc A 3,_,vc A 4,_,vc A 5,?_⟩;refine cU (c:=pi Kc) (vs:=pi j) J rfl fun V p s=>?_
   refine⟨_,vc p 0,_,vc p 1,_,vc p 2,_,vc p 3,_,vc p 4,_,vc p 5,?_⟩;exact L V j ((M.updM s (fun y q=>.inl (.inr (by have q:y=d.size:=q;omega)))).less Pro.sub) (fun h=>by cases h) (I.own s s1)
 refine Join.intro (fun tk a=>tk=cF l k∧Upd No h a∧∃j,a[h.size]? =some (.cells (pi j).toArray bN (0,0))∧a[d.size]? =some (.cells (pi Kc).toArray bN (0,0))∧a[h2.size]? =some (.cells (pi t).toArray bN (0,0))∧TreeIs (Pro W h G) a o x j (nQ k l)∧(cF l k=false→j=t)) (fun R hR=>?_) ?_
 ·rcases i4 with⟨rfl,b,rfl,O⟩|⟨rfl,b,rfl,O⟩
  ·refine⟨_,vc u 0,aj.2 ⟨_,BS u 1 0,_,BS u 1 1,_,BS u 1 2,_,vc u 4,?_⟩⟩
   refine NH O H hr hn k fun h5 F f N e=>?_
   refine qN (i:=4) (c':=(pi (0,x.k0,x.k1,x.mask,some ⟨F,0,none⟩,none)).toArray) (f.get0 u) (show 4<6 by decide) rfl fun a P g=>?_
   exact hR _ _ ⟨rfl,(w.tr f).own g (al _),_,P,g.oth (f.get0 Z) (by omega),g.oth (f.get0 Y) (by omega),.inl ⟨rfl,F,rfl,TrieAt.updM g (fun y q=>.inl (.inr (by have q:y=h.size:=q;omega))) N⟩,fun D=>by rw[e D]⟩
  ·refine⟨_,vc u 0,au.2 ⟨_,vc u 5,?_⟩⟩
   refine MZ O H hf k fun h5 F f N e=>?_
   refine qN (i:=5) (c':=(pi (1,0,0,0,none,some ⟨F,0,none⟩)).toArray) (f.get0 u) (show 5<6 by decide) rfl fun a P g=>?_
   exact hR _ _ ⟨rfl,(w.tr f).own g (al _),_,P,g.oth (f.get0 Z) (by omega),g.oth (f.get0 Y) (by omega),.inr ⟨rfl,F,rfl,N.updM g (fun y q=>.inl (.inr (by have q:y=h.size:=q;omega)))⟩,fun D=>by rw[e D]⟩
 ·rintro _ a ⟨rfl,I,j,A,J,z,M,e⟩
  exact X I A J z M e
end Go.Proofs
namespace Go.Proofs
open Go Go.Lift
theorem WG{W:Nat→Prop}{h:ae}{s:SliceV}{l:List Pr}(n:Sl eC 2 W h s l)(B:cf l)(E:Fit l)(F:l.length≤1000000)(k:ByteArray){K:Int×Bool→ae→Prop}
  (x:∀i:Nat,(cF l k=true→∃hi:i<l.length,l[i].1=k)→K ((i:Int),cF l k) h):HC PG Cn [.slice s.a s.len s.cap,.string k] [.c (.int .i64),.c .bool] K h:=by
 refine SI s k ?_;unfold JJ cl aK hP;have z:=n.len;refine LoopP.ghost (fun(i:Nat) (t:Int) h'=>t=(i:Int)∧i≤l.length∧h'=h∧∀j (c:j<l.length),j<i→kl l[j].1 k) (fun i=>l.length-i) 0 ⟨rfl,aS _,rfl,fun j c h=>by omega⟩ ?_
 rintro I i t h' ⟨rfl,hi,rfl,d⟩ C;refine Join.intro (fun t h2=>h2=h'∧(t=true↔∃hi:i<l.length,kl l[i].1 k)) (fun R y=>?_) ?_
 ·refine az (fun b=>?_) fun u=>y _ _ ⟨rfl,⟨fun h=>(by cases h),fun⟨hi,_⟩=>by omega⟩⟩
  have b:i<l.length:=by omega
  obtain⟨a,m,_,hv⟩:=n.at (af b);have D:=(E _ (aZ b)).1;refine⟨⟨by omega,by omega⟩,a,m,l[i].1,hv 0 _ rfl,Ia (by omega) (y _ _ ⟨rfl,?_⟩)⟩
  rw[decide_eq_true_iff];exact⟨fun h=>⟨b,h⟩,fun⟨_,h⟩=>h⟩
 ·rintro t h2 ⟨rfl,g⟩
  cases t with
  |true=>
   obtain⟨b,o⟩:=g.1 rfl;refine au.2 ?_;rw[fy b (by omega)];refine C (i+1) _ _ ⟨rfl,b,rfl,fun j c A=>?_⟩ (by omega)
   rcases bW j i with h|h
   ·exact d j c h
   ·have:j=i:=by omega
    subst this;exact o
  |false=>
   refine aj.2 (az (fun b=>?_) fun u=>?_)
   ·have b:i<l.length:=by omega
    have v:¬kl l[i].1 k:=fun h=>by have:=g.2 ⟨b,h⟩;cases this
    obtain⟨a,m,_,hv⟩:=n.at (af b);refine⟨⟨by omega,by omega⟩,a,m,l[i].1,hv 0 _ rfl,?_⟩
    rw[ey];have e:decide (l[i].1=k)=cF l k:=by
     by_cases e:l[i].1=k
     ·rw[decide_eq_true e]
      exact(cy.2 ⟨_,aZ b,decide_eq_true e⟩).symm
     ·rw[decide_eq_false e]
      refine(Dj fun q w f=>?_).symm
      obtain⟨j,c,rfl⟩:=bC w;have p:=ql v e;rcases nO j i with h|h|h
      ·have:=d j c h;rw[f]at this;exact cr _ this
      ·subst h;exact e f
      ·have:=ce.1 B i j b c h
       rw[f]at this;exact cr _ (gJ p this)
    rw[e];exact x i fun g=>⟨b,of_decide_eq_true (e.trans g)⟩
   ·have e:cF l k=false:=Dj fun q w f=>by
     obtain⟨j,c,rfl⟩:=bC w;have:=d j c (by omega);rw[f]at this;exact cr _ this
    have:=x i fun h=>by rw[e]at h;cases h
    rw[e]at this;exact this
theorem M5{W:Nat→Prop}{h:ae}{s:SliceV}{l:List Pr}(e:Sl eC 2 W h s l)(j:cf l)(m:Fit l)(n:l.length≤1000000)(k:ByteArray){K:ByteArray×Bool→ae→Prop}
  (c:∀v,(cF l k=true→(k,v)∈l)→(cF l k=false→v=⟨#[]⟩)→K (v,cF l k) h):HC PG xD [.slice s.a s.len s.cap,.string k] [.c .str,.c .bool] K h:=by
 refine VB s k ?_;unfold Mx cl aK CM;have f:=e.len;refine WG e j m n k fun i hi=>?_
 cases ht:cF l k with
 |false=>rw[ht]at c;exact au.2 (c _ (fun h=>(by cases h)) fun _=>rfl)
 |true=>
  rw[ht]at c;obtain⟨b,d⟩:=hi ht;obtain⟨a,g,_,hv⟩:=e.at (af b);refine aj.2 ⟨⟨by simp only;omega,by simp only;omega⟩,a,g,l[i].2,hv 1 _ rfl,c _ (fun _=>by rw[←d];exact aZ b) fun h=>(by cases h)⟩
end Go.Proofs
namespace Go.Proofs
open Go Go.Lift
theorem UW(p:Pr)(l:List Pr)(k:ByteArray):look (p::l) k=if p.1=k then some p.2 else look l k:=by
 unfold look;rw[ut];by_cases e:p.1=k
 ·rw[decide_eq_true e,if_pos e];rfl
 ·rw[decide_eq_false e,if_neg e]
theorem Iq{k v:ByteArray}:∀{l:List Pr},look l k=some v→(k,v)∈l
 | [],h=>by cases h
 |p::l,h=>by
  rw[UW]at h;by_cases e:p.1=k
  ·rw[if_pos e]at h;cases h;rw[←e];exact List.mem_cons_self ..
  ·rw[if_neg e]at h;exact List.mem_cons_of_mem _ (Iq h)
def fd(l:List Ch)(k:ByteArray):Option Ch:=l.find? fun c=>decide (c.1=k)
def qW(c:Ch):Bool:=(!((!c.2.2.2.1&& !c.2.2.2.2)||(c.2.2.2.1&&(c.2.2.2.2&&decide (c.2.1=c.2.2.1)))))&&((c.2.2.2.1||decide (c.2.1=⟨#[]⟩))&&(c.2.2.2.2||decide (c.2.2.1=⟨#[]⟩)))
def one(c:Ch):Option Ch:=if qW c then some c else none
end Go.Proofs
namespace Go.Proofs
open Go Go.Lift
def Hf(p:Pr):Int:=if 256<p.1.size then 2 else if 4096<p.2.size then 3 else 0
theorem Ly{p:Pr}(h:Hf p=0):p.1.size≤256∧p.2.size≤4096:=by
 unfold Hf at h;split at h
 ·cases h
 ·split at h
  ·cases h
  ·omega
theorem Ty{p:Pr}{h:ae}{K:Int→ae→Prop}(a:K (Hf p) h):HC PG ll [.string p.1,.string p.2] [.c (.int .i64)] K h:=by
 refine D3 p.1 p.2 ?_;unfold yM;unfold Hf at a;refine az (fun e=>?_) fun e=>az (fun b=>?_) fun b=>?_
 ·rw[if_pos (by omega)]at a;exact a
 ·rw[if_neg (by omega),if_pos (by omega)]at a;exact a
 ·rw[if_neg (by omega),if_neg (by omega)]at a;exact a
theorem Ts{p:Pr}{h:ae}{K:Int→ae→Prop}(a:K (Hf p) h):HC PG tQ [.string p.1,.string p.2] [.c (.int .i64)] K h:=by
 refine Gs p.1 p.2 ?_;unfold Ai;unfold Hf at a;refine az (fun e=>?_) fun e=>az (fun b=>?_) fun b=>?_
 ·rw[if_pos (by omega)]at a;exact a
 ·rw[if_neg (by omega),if_pos (by omega)]at a;exact a
 ·rw[if_neg (by omega),if_neg (by omega)]at a;exact a
end Go.Proofs
