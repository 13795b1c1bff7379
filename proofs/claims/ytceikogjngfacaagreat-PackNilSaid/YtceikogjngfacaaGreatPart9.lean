/- A part of the proof that the named laws of this program answer true, whatever the input. -/
import Derived.Test.YtceikogjngfacaaGreatPart7
import Derived.Test.YtceikogjngfacaaGreatPart8
import Derived.Test.YtceikogjngfacaaGreatPart5
import Derived.Test.YtceikogjngfacaaGreatPart6
open Go.IntKind renaming wrap→ac
open Go.Op renaming bytesLess→be
open List renaming length_map→fU,mem_cons→au,getElem?_cons_zero→cE,getElem?_cons_succ→fc,mem_of_getElem?→ak,mem_cons_of_mem→aR,pairwise_append→dd,mem_singleton→aA,mem_append→cg,getElem?_eq_getElem→aj,length_eq_zero_iff→aw,length_nil→aM,mem_map→bQ,not_mem_nil→dN
open List.Pairwise renaming nil→fG
open Nat renaming zero_le→bJ,le_refl→aq,le_trans→dj,lt_of_lt_of_le→aG
namespace Go.Proofs
open Go Go.Lift
theorem Qd{h:af}{s:SliceV}(e:s.len=0){K:wS []→af→Prop}(i:K () h):HC PG lh [.slice s.a s.len s.cap] [] K h:=by
 refine xi s ?_;unfold p7 un;rw[e];refine QN (n:=0) (by omega) fun L _ _=>?_
 rw[←e];refine ue s 0 s.len L ?_;rw[e];unfold mN aW cp BO un Sy;refine LoopP.ghost (fun(_:Unit) (t:Int×Int×Int×Bool×Bool) d=>t.1=0∧t.2.1=0∧d=h) (fun _=>0) () ⟨rfl,rfl,rfl⟩ ?_
 rintro I _ ⟨a,b,c⟩ d ⟨f,g,rfl⟩ _;simp only at f g⊢;subst f g;refine av (fun _=>?_) fun e=>absurd e (by decide)
 refine qe s 0 0 ?_;unfold jN aW cp cu Sy;refine LoopP.ghost (fun(_:Unit) (t:Int) h2=>t=1∧h2=d) (fun _=>0) () ⟨by decide,rfl⟩ ?_
 rintro I _ t h2 ⟨rfl,rfl⟩ _;exact av (fun e=>absurd e (by decide)) fun _=>i
theorem Q5{W:Nat→Prop}{h:af}{gp gm:Nat}{nx:Int}(g:GraphAt W h gp gm [] nx){K:SliceV→af→Prop}(n:∀s' h',s'.len=0→Upd No h h'→K s' h'):HC PG qC [.pointer (some ⟨gp,0,none⟩)] [.c .slice] K h:=by
 refine CE (some ⟨gp,0,none⟩) ?_;unfold vQ aW;obtain⟨m,hm,i⟩:=g.map;have b:=i.len hm.nodup g.nd;refine CondP.intro (fun e=>by cases e) fun _=>⟨_,rfl,_,g.c0,?_⟩
 refine QR hm fun k p o d=>?_
 refine Am k ?_;unfold tM;refine M3 o (by rw[b];exact bJ _) fun f h2 xs hx j c=>?_
 have e:f.len=0:=by rw[j.len,hx.length_eq,fU];simpa using b
 exact Qd e (n f h2 e (d.tr c))
theorem QS{h:af}{r:Nat}{m:List (Int×Option Addr)}(hm:MapAt KI pA h r m){K:Value→af→Prop}
  (p:∀fv h',Gives PG fv Jv m.length (fun xs=>xs.Perm (m.map (·.1))) (fun b=>b=r∨b=h.size) h'→Upd No h h'→K fv h'):HC PG dY [.map (some r)] [.c .raw] K h:=by
 refine kO (some r) ?_;unfold fY;have k:=Upd.hnew No h [.map (some r)] tE;refine p _ _ ?_ k;refine FP (hm.upd k id) (bx:=h.size) (c6 ..) fun y s K j f=>jS y ⟨h.size,0,none⟩ ?_
 unfold dT;obtain⟨c,⟨es,d⟩,f⟩:=f;refine⟨some r,by rw[bP j];rfl,c,.inr ⟨r,es,rfl,d⟩,?_⟩
 refine(f _ rfl).imp fun I t h n=>n.imp id fun e h2 ⟨x,v,g,o,q,i⟩=>⟨rfl,e,x,v,g,o,q,i⟩
end Go.Proofs
namespace Go.Proofs
open Go Go.Lift
section
variable {Ss:List Sp} {h h':af} {M:Nat→Prop} {s s':Sp} {i:Nat}
theorem Own.cons(o:Own Ss h)(q:s'.Q h)(i:∀y,s'.T y→y<h.size∧¬AL Ss y):Own (s'::Ss) h:=by
 refine⟨fun a c=>?_,fun a c y e=>?_,fun p j a b c f g y e d=>?_⟩
 ·rcases au.1 c with rfl|c
  ·exact q
  ·exact o.q a c
 ·rcases au.1 c with rfl|c
  ·exact(i y e).1
  ·exact o.lt a c y e
 ·cases p with
  |zero=>
   cases j with
   |zero=>exact g rfl
   |succ j=>
    simp only[cE,fc]at c f;cases c;exact(i y e).2 ⟨b,ak f,d⟩
  |succ p=>
   cases j with
   |zero=>
    simp only[cE,fc]at c f;cases f;exact(i y d).2 ⟨a,ak c,e⟩
   |succ j=>
    simp only[fc]at c f;exact o.pd p j a b c f (by omega) y e d
theorem Own.tail(o:Own (s'::Ss) h):Own Ss h:=
 ⟨fun a c=>o.q a (aR _ c),fun a c=>o.lt a (aR _ c),fun p j a b c e d=>o.pd (p+1) (j+1) a b (by simpa using c) (by simpa using e) (by omega)⟩
theorem Own.al(o:Own Ss h){y:Nat}(b:AL Ss y):y<h.size:=by obtain⟨a,c,b⟩:=b;exact o.lt a c y b
theorem xN{y:Nat}(b:AL (s'::Ss) y):s'.T y∨AL Ss y:=by
 obtain⟨a,c,b⟩:=b;rcases au.1 c with rfl|c
 ·exact .inl b
 ·exact .inr ⟨a,c,b⟩
end
structure SwAt(z h:af)(sp vp sm pb cb:Nat)(s:VS)(last:Int)(ids:List Int)(es:List Se)(Ss:List Sp):Prop where
 g:SsAt h sp vp sm pb cb s last ids es
 o:Own Ss h
 ap:∀y,AL Ss y→sp<y∧∀q∈es,q.eb≠y∧q.tb≠y
 k:Upd No z h
 lo:z.size≤cb
section
variable {z h h':af} {sp vp sm pb cb:Nat} {s:VS} {last:Int} {ids:List Int} {es:List Se} {Ss:List Sp} {M:Nat→Prop} {a s':Sp} {i:Nat}
theorem SsAt.ownM(g:SsAt h sp vp sm pb cb s last ids es)(u:Upd M h h')(hM:∀y,M y→y<h.size→sp<y∧∀q∈es,q.eb≠y∧q.tb≠y):SsAt h' sp vp sm pb cb s last ids es:=by
 have n:=g.o;have m:=bo g.b;have lo:∀y,y≤sp→¬M y:=fun y c hm=>by have:=(hM y hm (by omega)).1;omega
 refine⟨WS.re g.v g.vl u fun y c=>?_,g.vl,g.vc,u.get g.b (lo _ (aq _)),g.o,g.m.upd u (lo _ (by omega)),g.p.upd u (lo _ (by omega)) (lo _ (by omega)),g.cap,fun e b=>?_,g.nde,g.ndt,g.ky,g.ndk,g.few,g.l0⟩
 ·by_cases e:y<h.size
  ·have:=(hM y c e).1;omega
  ·omega
 ·obtain⟨f,i,d⟩:=g.ed e b
  obtain⟨j,k⟩:=g.lt e b;exact⟨f.upd u fun hm=>((hM _ hm j).2 e b).1 rfl,i.upd u fun hm=>((hM _ hm k).2 e b).2 rfl,d⟩
theorem SwAt.up0(w:SwAt z h sp vp sm pb cb s last ids es Ss)(k:Upd No h h'):SwAt z h' sp vp sm pb cb s last ids es Ss:=⟨w.g.up0 k,w.o.away k fun _ _ h=>h,w.ap,w.k.tr k,w.lo⟩
theorem SwAt.cons(w:SwAt z h sp vp sm pb cb s last ids es Ss)(q:s'.Q h)(c:∀y,s'.T y→y<h.size∧sp<y∧¬AL Ss y∧∀q∈es,q.eb≠y∧q.tb≠y):SwAt z h sp vp sm pb cb s last ids es (s'::Ss):=
 ⟨w.g,w.o.cons q fun y b=>⟨(c y b).1,(c y b).2.2.1⟩,fun y b=>(xN b).elim (fun b=>⟨(c y b).2.1,(c y b).2.2.2⟩) (w.ap y),w.k,w.lo⟩
theorem SwAt.new(w:SwAt z h sp vp sm pb cb s last ids es Ss)(k:Upd No h h')(q:s'.Q h')(d:∀y,s'.T y→h.size≤y∧y<h'.size):SwAt z h' sp vp sm pb cb s last ids es (s'::Ss):=by
 have g:=bo w.g.b;refine(w.up0 k).cons q fun y c=>?_
 have t:=d y c;exact⟨t.2,by omega,fun f=>by have:=w.o.al f;omega,fun e b=>by have:=w.g.lt e b;omega⟩
theorem SwAt.tail(w:SwAt z h sp vp sm pb cb s last ids es (s'::Ss)):SwAt z h sp vp sm pb cb s last ids es Ss:=
 ⟨w.g,w.o.tail,fun y ⟨a,c,b⟩=>w.ap y ⟨a,aR _ c,b⟩,w.k,w.lo⟩
theorem SwAt.setP(w:SwAt z h sp vp sm pb cb s last ids es Ss)(hi:Ss[i]? =some a) (k:Upd M h h') (hm:∀y,M y→a.T y∨h.size≤y) (q:s'.Q h') (c:∀y,s'.T y→(a.T y∨h.size≤y)∧y<h'.size):SwAt z h' sp vp sm pb cb s last ids es (Ss.set i s'):=by
 have f:=bo w.g.b;refine⟨w.g.ownM k fun y b j=>?_,w.o.set hi k hm q c,fun y b=>?_,w.k.fresh k fun y b=>?_,w.lo⟩
 ·rcases hm y b with e|e
  ·exact w.ap y ⟨a,ak hi,e⟩
  ·omega
 ·rcases DC hi (z:=h.size) (fun y b=>(c y b).1) y b with e|e
  ·exact w.ap y e
  ·exact⟨by omega,fun q d=>by have:=w.g.lt q d;omega⟩
 ·have g:=w.g.o
  have lo:=w.lo;rcases hm y b with e|e
  ·have:=(w.ap y ⟨a,ak hi,e⟩).1;omega
  ·have:=w.k.size;omega
theorem SwAt.off(w:SwAt z h sp vp sm pb cb s last ids es Ss){b:Nat}(u:Upd (· =b) h h')(f:sp<b)(c:∀e∈es,e.eb≠b∧e.tb≠b)(g:¬AL Ss b):SwAt z h' sp vp sm pb cb s last ids es Ss:=
 ⟨w.g.own u f c,w.o.away u fun y d e=>g (by have e:y=b:=e;rw[←e];exact d),w.ap,w.k.own u (by have i:=w.g.o;have lo:=w.lo;omega),w.lo⟩
theorem S2(w:SwAt z h sp vp sm pb cb s last ids es Ss){e:Se}(p:e∈es){K:Tr→af→Prop}(v:∀h' t c d,d.map Se.a=es.map Se.a→SwAt z h' sp vp sm pb cb s last c d Ss→K t h'):
  HC PG vD [.pointer (some ⟨e.eb,0,none⟩)] [.agg [.int .i64,.int .u64,.int .u64,.int .u64,.ptr,.ptr]] K h:=by
 have A:=w.g.o;refine Ug w.g p fun h' t c d m f k x=>v h' t c d m ⟨x,?_,fun y g=>?_,w.k.fresh k fun y g=>dj w.lo g,w.lo⟩
 ·refine w.o.away (M:=fun y=>y=cb∨∃q∈es,q.eb=y∨q.tb=y) ⟨k.size,fun b u n=>(f b u (fun e=>n (.inl e)) fun q i=>⟨fun e=>n (.inr ⟨q,i,.inl e⟩),fun e=>n (.inr ⟨q,i,.inr e⟩)⟩).1⟩ fun y g hM=>?_
  obtain⟨o,j⟩:=w.ap y g;rcases hM with e|⟨q,i,e|e⟩
  ·omega
  ·exact(j q i).1 e
  ·exact(j q i).2 e
 ·obtain⟨o,j⟩:=w.ap y g
  exact⟨o,(f y (w.o.al g) (by omega) j).2⟩
end
end Go.Proofs
namespace Go.Proofs
open Go Go.Lift
theorem RU(l:List UInt8):(Sw l).size=l.length:=by simp[Sw,ByteArray.size]
theorem Fw(b:Nat)(c:Int)(s:eK):(dg b c s).1.size≤b:=by
 unfold dg;split
 ·split
  ·exact bJ _
  ·split
   ·exact bJ _
   ·split
    ·exact bJ _
    ·rw[RU,List.length_take];omega
 ·exact bJ _
theorem H2{c:Nat}{b:Int}{s:eK}(d:b≠0)(h:(dg c b s).2.2=0):(dg c b s).2.1.length+1≤s.1.length:=by
 unfold dg at h⊢;split
 ·rename_i h0
  rw[if_pos h0]at h;cases e:wY 0 0 s.1 with
  |none=>rw[e]at h;exact absurd (show(9:Int)=0 from h) (by decide)
  |some p=>
   obtain⟨n,k⟩:=p;rw[e]at h;simp only at h⊢;have:=zU s.1 0 0 (by omega) (by simp) e;split at h
   ·exact absurd h d
   ·rename_i h1
    rw[if_neg h1];split at h
    ·exact absurd (show(9:Int)=0 from h) (by decide)
    ·rename_i h2
     rw[if_neg h2];simp only[List.length_drop];omega
 ·rename_i h0
  rw[if_neg h0]at h;exact absurd h h0
theorem Li{s t:eK}(g:Go1 s t)(h:t.2=0):s.2=0:=by
 by_cases e:s.2=0
 ·exact e
 ·rw[g.2 e]at h;exact absurd h e
theorem H4(l:List Pr)(s:eK):Go1 s (gl l s).2:=by
 unfold gl;have a:=(B8 256 2 s).trans (B8 4096 3 (dg 256 2 s).2);split
 ·split
  ·exact a
  ·exact a.trans (ut _)
 ·exact a
theorem Mm(l:List Pr){s:eK}(h:(gl l s).2.2=0):(gl l s).2.1.length+1≤s.1.length:=by
 have key:∀t:eK,Go1 (dg 4096 3 (dg 256 2 s).2).2 t→t.2=0→t.1.length+1≤s.1.length:=fun t g h=>by
  have h2:=Li g h;have a:=H2 (by decide) h2;have b:=g.1;have c:=(B8 256 2 s).1;omega
 refine key _ ?_ h;unfold gl;split
 ·split
  ·exact Go1.refl _
  ·exact ut _
 ·exact Go1.refl _
theorem A8(l:List Pr)(s:eK):(gl l s).1=l++ [((dg 256 2 s).1,(dg 4096 3 (dg 256 2 s).2).1)]:=rfl
theorem Jc{l:List Pr}{s:eK}(d:mL l)(h:(gl l s).2.2=0):mL (gl l s).1:=by
 rw[A8];refine dd.2 ⟨d,List.pairwise_singleton ..,fun q b p g=>?_⟩
 rw[aA.1 g];unfold gl at h;cases e:l.getLast? with
 |none=>rw[List.getLast?_eq_none_iff]at e;rw[e]at b;cases b
 |some r=>
  rw[e]at h;simp only at h;have c:kl r.1 (dg 256 2 s).1:=by
   unfold kl;by_cases f:be r.1.toList (dg 256 2 s).1.toList=true
   ·exact f
   ·rw[if_neg f]at h
    unfold dA at h;split at h
    ·exact absurd (show(13:Int)=0 from h) (by decide)
    ·rename_i h0;exact absurd h h0
  have hm:=List.getLast?_eq_some_iff.1 e;obtain⟨ys,rfl⟩:=hm;rcases cg.1 b with b|b
  ·exact m9 ((dd.1 d).2.2 q b r (aA.2 rfl)) c
  ·rw[aA.1 b];exact c
structure RdL(N:Nat)(l:List Pr)(s:eK):Prop where
 fit:∀p∈l,p.1.size≤256∧p.2.size≤4096
 len:l.length+s.1.length≤N+1
 len0:s.2=0→l.length+s.1.length≤N
 up:s.2=0→mL l
theorem RdL.pair{N:Nat}{l:List Pr}{s:eK}(r:RdL N l s)(d:s.2=0):RdL N (gl l s).1 (gl l s).2:=by
 have f:(gl l s).1.length=l.length+1:=by rw[A8,List.length_append];rfl
 have a:=r.len0 d;have b:=(H4 l s).1;refine⟨fun p c=>?_,by omega,fun e=>?_,fun e=>Jc (r.up d) e⟩
 ·rw[A8]at c
  rcases cg.1 c with c|c
  ·exact r.fit p c
  ·rw[aA.1 c];exact⟨Fw ..,Fw ..⟩
 ·have:=Mm l e;omega
theorem D3:∀(n:Nat) (l:List Pr) (s:eK),rC n l s=tF (fun g:List Pr×eK=>g.2) (fun g=>gl g.1 g.2) n (l,s)
 |0,_,_=>rfl
 |n+1,l,s=>by
  unfold rC tF;split
  ·exact D3 n _ _
  ·rfl
theorem H3:∀(n:Nat) (l:List Pr) (s:eK),Go1 s (rC n l s).2
 |0,_,s=>Go1.refl s
 |n+1,l,s=>by
  unfold rC;split
  ·exact(H4 l s).trans (H3 n _ _)
  ·exact Go1.refl s
theorem B7(s:eK):Go1 s (jh s).2:=(jH s).trans (H3 ..)
end Go.Proofs
namespace Go.Proofs
open Go Go.Lift
structure Rd(q b:Nat)(s:eK)(Ss:List Sp)(h:af):Prop where
 i:InAt (·≠q) h b s
 o:Own Ss h
 nb:¬AL Ss b
 nq:¬AL Ss q
 lq:q<h.size
section
variable {q b:Nat} {s s':eK} {Ss:List Sp} {h h':af} {a a':Sp} {M:Nat→Prop} {j p:Nat} {k:Int} {x:Hs} {c:List Value} {t:TypeId}
theorem Rd.lt(r:Rd q b s Ss h):b<h.size:=r.i.lt
theorem Rd.rd(r:Rd q b s Ss h)(i:InAt (·≠q) h' b s')(u:Upd (· =b) h h'):Rd q b s' Ss h':=
 ⟨i,r.o.away u fun y c e=>r.nb (by have e:y=b:=e;subst e;exact c),r.nb,r.nq,aG r.lq u.size⟩
theorem Rd.up0(r:Rd q b s Ss h)(u:Upd No h h'):Rd q b s Ss h':=
 ⟨r.i.upd0 u,r.o.away u fun _ _ h=>h,r.nb,r.nq,aG r.lq u.size⟩
theorem Rd.cons(r:Rd q b s Ss h)(Q:a.Q h)(c:∀y,a.T y→y<h.size∧¬AL Ss y∧y≠b∧y≠q):Rd q b s (a::Ss) h:=
 ⟨r.i,r.o.cons Q fun y d=>⟨(c y d).1,(c y d).2.1⟩,fun e=>(xN e).elim (fun e=>(c _ e).2.2.1 rfl) r.nb,fun e=>(xN e).elim (fun e=>(c _ e).2.2.2 rfl) r.nq,r.lq⟩
theorem Rd.new(r:Rd q b s Ss h)(u:Upd No h h')(Q:a.Q h')(d:∀y,a.T y→h.size≤y∧y<h'.size):Rd q b s (a::Ss) h':=
 (r.up0 u).cons Q fun y c=>⟨(d y c).2,fun e=>by have:=r.o.al e;have:=(d y c).1;omega,fun e=>by have:=r.lt;have:=(d y c).1;omega,fun e=>by have:=r.lq;have:=(d y c).1;omega⟩
theorem Rd.set(r:Rd q b s Ss h)(f:Ss[j]? =some a) (u:Upd M h h') (hm:∀y,M y→a.T y∨h.size≤y) (Q:a'.Q h') (g:∀y,a'.T y→(a.T y∨h.size≤y)∧y<h'.size):Rd q b s (Ss.set j a') h':=by
 have d:∀{y},a.T y→AL Ss y:=fun c=>⟨a,ak f,c⟩
 have i:=r.lt;have lq:=r.lq;refine⟨r.i.upd u (fun e=>(hm _ e).elim (fun e=>r.nb (d e)) fun e=>by omega) fun y c=>.inl fun e=>?_,r.o.set f u hm Q g,fun e=>?_,fun e=>?_,aG lq u.size⟩
 ·subst e;exact(hm _ c).elim (fun e=>r.nq (d e)) fun e=>by omega
 ·exact(DC f (fun y c=>(g y c).1) b e).elim r.nb fun e=>by omega
 ·exact(DC f (fun y c=>(g y c).1) q e).elim r.nq fun e=>by omega
theorem Rd.tail(r:Rd q b s (a::Ss) h):Rd q b s Ss h:=
 ⟨r.i,r.o.tail,fun⟨z,d,c⟩=>r.nb ⟨z,aR _ d,c⟩,fun⟨z,d,c⟩=>r.nq ⟨z,aR _ d,c⟩,r.lq⟩
theorem Rd.var(r:Rd q b s Ss h){f:af→Prop}(e:∀h',Rd q b s (co h.size c t::Ss) h'→Upd No h h'→h.size<h'.size→f h'):At (hnew h c t) f:=
 bO fun g b1 k1=>e g (r.new k1 b1 fun y d=>by have d:y=h.size:=d;subst d;exact⟨aq _,bo b1⟩) k1 (bo b1)
theorem Rd.cl(r:Rd q b s Ss h)(j:Nat)(d:Ss[j]? =some (co p c t)) (i:Nat):bj h (adr ⟨p,0,none⟩ i)=c[i]?:=by
 have:h[p]? =some (.cells c.toArray t (0,0)):=r.o.get d;rw[vc this i];simp
theorem Rd.wr(r:Rd q b s Ss h)(j:Nat)(e:Ss[j]? =some (co p c t)) {i:Nat} (hi:i<c.length) {v:Value} {f:af→Prop} (k:∀h',Rd q b s (Ss.set j (co p (c.set i v) t)) h'→Upd (· =p) h h'→f h'):Wr h (adr ⟨p,0,none⟩ i)∧At (hset h (adr ⟨p,0,none⟩ i) v) f:=by
 have m:h[p]? =some (.cells c.toArray t (0,0)):=r.o.get e;exact yv m (c':=(c.set i v).toArray) (by simpa using hi) (by simp) fun h' g u=>k h' (r.set e u (fun y d=>.inl d) g fun y d=>⟨.inl d,by have d:y=p:=d;subst d;exact bo g⟩) u
theorem Rd.fill(r:Rd q b s Ss h)(j:Nat)(e:Ss[j]? =some (co p c t)) {vs:List Value} (m:vs.length=c.length) {f:af→Prop} (k:∀h',Rd q b s (Ss.set j (co p vs t)) h'→Upd (· =p) h h'→f h'):yr h (some ⟨p,0,none⟩) 0 vs∧At (jK h ⟨p,0,none⟩ 0 vs) f:=by
 have i:h[p]? =some (.cells c.toArray t (0,0)):=r.o.get e;exact eE i m fun h' g u=>k h' (r.set e u (fun y d=>.inl d) g fun y d=>⟨.inl d,by have d:y=p:=d;subst d;exact bo g⟩) u
theorem Rd.push{α:Type}{f:α→List Value}{e bytes:Nat}{ty:TypeId}{so:SliceV}{out:List α}{z:List Value}{y:α}(r:Rd q b s Ss h)(j:Nat)(n:Ss[j]? =some (bI f e ty so out)) (t:h[p]? =some (.cells (f y).toArray ty (0,0))) (i:cI (f y)=true) (o:z.length=e) (g:0<bytes∧bytes≤64*64) (v:out.length+1≤1000000)
  {K:SliceV→af→Prop} (u:∀s' h',Rd q b s (Ss.set j (bI f e ty s' (out++ [y]))) h'→Upd (sb so) h h'→(∀y,sb s' y→sb so y∨h.size≤y)→K s' h'):
  ∃xs,SRow h (some ⟨p,0,none⟩) (1*e) xs∧AppP (some z) e bytes ty so.a so.len so.cap 1 xs h K:=by
 have m:OwnS f e ty (sb so) h so out:=r.o.get n;refine⟨_,((OwnS.one m.ne t).sl (W:=No) fun _ _ _ h=>h).srow,?_⟩
 refine AppP.own (M:=fun y=>sb so y∨h.size≤y) (ys:= [y]) (m.more fun y c=>.inl c) rfl rfl (by simpa using i) o g.1 ?_ (.inr (aq _)) fun s' h' d k=>?_
 ·simp only[List.length_singleton]
  calc (out.length+1)*bytes≤1000000*(64*64):=Nat.mul_le_mul v g.2
   _≤140737488355328:=by omega
 ·have k:Upd (sb so) h h':=k.mono fun y c=>c
  exact u s' h' (r.set n k (fun y c=>.inl c) d.its fun y c=>d.sub y c) k fun y c=>(d.sub y c).1
end
end Go.Proofs
namespace Go.Proofs
open Go Go.Lift
abbrev WA(s:SliceV):List Value:= [.slice s.a s.len s.cap]
abbrev VI(b yi c:Nat)(k:Int)(x:Hs)(sl:SliceV)(l:List Pr)(A:Sp)(Ss:List Sp):List Sp:=bI ga 2 ay sl l::co c (WA sl) jf::A::co yi (N8 b k x) eu::Ss
section
variable {q b:Nat} {s s':eK} {Ss:List Sp} {h h':af} {a a' A:Sp} {M:Nat→Prop} {j p:Nat} {k:Int} {x:Hs} {c:List Value} {t:TypeId}
theorem P5{yi n:Nat}{sl:SliceV}{l:List Pr}(r:Rd q b s (VI b yi n k x sl l A Ss) h)(hl:l.length≤900000){K:Unit→af→Prop}
  (Y:∀h' sl',Rd q b (gl l s).2 (VI b yi n k x sl' (gl l s).1 A Ss) h'→Upd (fun y=>y=b∨y=n∨sb sl y) h h'→(∀y,sb sl' y→sb sl y∨h.size≤y)→K () h'):
  HC PG nR [.pointer (some ⟨yi,0,none⟩),.pointer (some ⟨n,0,none⟩)] [] K h:=by
 refine DH _ _ ?_;unfold rP aW cp fA nv tP AX oG jR bZ cr;refine Join.intro (fun t h'=>∃pb,t=⟨pb,0,none⟩∧Rd q b (dg 4096 3 (dg 256 2 s).2).2 (co pb (ga ((dg 256 2 s).1,(dg 4096 3 (dg 256 2 s).2).1)) ay::VI b yi n k x sl l A Ss) h'∧Upd (· =b) h h')
  (fun R N=>⟨_,r.cl 3 rfl 0,_,r.cl 3 rfl 0,⟨?_,?_⟩⟩) ?_
 ·refine ul r.i 256 (by omega) 2 (by decide) fun O Q z=>?_
  have m:=r.rd Q z;refine⟨m.cl 3 rfl 0,⟨?_,?_⟩⟩
  ·refine ul m.i 4096 (by omega) 3 (by decide) fun h2 L j=>(m.rd L j).var fun F u Z _=>u.fill 0 rfl (by rfl) fun J B E=>N _ _ ⟨_,rfl,B,?_⟩
   exact((z.tr j).tr Z.wide).trans E fun y f=>.inr (by have f:y=h2.size:=f;have:=(z.tr j).size;omega)
  ·refine m.var fun h2 d k2 _=>⟨d.cl 4 rfl 0,ul d.i 4096 (by omega) 3 (by decide) fun F I g=>(d.rd I g).fill 0 rfl (by rfl) fun J B E=>N _ _ ⟨_,rfl,B,?_⟩⟩
   exact((z.tr k2.wide).tr g).trans E fun y f=>.inr (by have f:y=O.size:=f;have:=z.size;omega)
 ·refine r.var fun O m k1 _=>⟨m.cl 4 rfl 0,m.cl 4 rfl 0,ul m.i 256 (by omega) 2 (by decide) fun h2 L j=>?_⟩
  have d:=m.rd L j;refine⟨d.cl 4 rfl 0,ul d.i 4096 (by omega) 3 (by decide) fun F I g=>(d.rd I g).fill 0 rfl (by rfl) fun J B E=>N _ _ ⟨_,rfl,B,?_⟩⟩
  exact((k1.wide.tr j).tr g).trans E fun y f=>.inr (by have f:y=h.size:=f;omega)
 rintro _ h2 ⟨pb,rfl,d,j⟩;refine Join.intro (fun _ h'=>Rd q b (gl l s).2 (co pb (ga ((dg 256 2 s).1,(dg 4096 3 (dg 256 2 s).2).1)) ay::VI b yi n k x sl l A Ss) h'∧Upd (· =b) h h')
  (fun R2 w=>Join.intro (fun t h'=>h'=h2∧(gl l s).2=if t=true then dA 13 (dg 4096 3 (dg 256 2 s).2).2 else(dg 4096 3 (dg 256 2 s).2).2) (fun R3 D=>⟨sl,d.cl 2 rfl 0,?_⟩) ?_) ?_
 ·have o:OwnS ga 2 ay (sb sl) h2 sl l:=d.o.get (i:=1) rfl
  have hn:=o.len;refine av (fun c=>?_) fun c=>D _ _ ⟨rfl,?_⟩
  ·have C:l.length-1<l.length:=by omega
   obtain⟨P,ha,_,hv⟩:=(o.sl (W:=No) fun _ _ _ h=>h).at (aj C)
   have ew:ac .i64 ((sl.len:Int)-1)=((l.length-1:Nat):Int):=by rw[Go.IntWalk.i64_in _ (by omega)];omega
   refine⟨_,d.cl 0 rfl 0,sl,d.cl 2 rfl 0,sl,d.cl 2 rfl 0,?_⟩;rw[ew];refine⟨⟨by omega,by omega⟩,P,ha,_,hv 0 _ rfl,D _ _ ⟨rfl,?_⟩⟩
   have T:l.getLast? =some l[l.length-1]:=by rw[List.getLast?_eq_getElem?,aj C]
   unfold gl;rw[T];simp only;by_cases v:be l[l.length-1].1.toList (dg 256 2 s).1.toList=true
   ·rw[if_pos v,if_neg]
    intro e;rcases(Bool.or_eq_true _ _).mp e with e|e
    ·exact fH _ (m9 v e)
    ·have G:(dg 256 2 s).1.toList=l[l.length-1].1.toList:=by simpa using e
     rw[G]at v;exact fH _ v
   ·rw[if_neg v,if_pos]
    by_cases e:(dg 256 2 s).1=l[l.length-1].1
    ·rw[e];simp
    ·have:kl (dg 256 2 s).1 l[l.length-1].1:=yK v (fun G=>e (by first|exact G|exact G.symm))
     unfold kl at this;rw[this];rfl
  ·have h0:l= []:=aw.1 (by omega)
   subst h0;rfl
 ·rintro t h' ⟨rfl,e⟩
  refine CondP.intro (fun c=>⟨_,d.cl 4 rfl 0,mr d.i fun F S g=>w _ _ ⟨?_,j.tr g⟩⟩) fun c=>w _ _ ⟨?_,j⟩
  ·rw[e,if_pos c];exact d.rd S g
  ·rw[e,if_neg (by simpa using c)];exact d
 rintro _ F ⟨u,g⟩;refine⟨sl,u.cl 2 rfl 0,_,u.cl 0 rfl 0,_,u.cl 0 rfl 1,bO fun J b4 H=>(u.up0 H).push (y:=(_,_)) 1 rfl b4 rfl rfl ⟨by decide,by decide⟩ (by omega) fun s' h5 r5 u5 V=>r5.wr (p:=n) (i:=0) 2 rfl (by simp) fun U X u6=>Y U s' X.tail ?_ fun y f=>?_⟩
 ·exact(((g.mono fun y f=>.inl (.inl f)).tr H.wide).tr (u5.mono fun y f=>.inl (.inr (.inr f)))).tr (u6.mono fun y f=>.inl (.inr (.inl f)))
 ·exact(V y f).imp id fun e=>by have:=g.size;have:=H.size;omega
theorem Ll:∀{l:List Pr},(∀p∈l,p.1.size≤256∧p.2.size≤4096)→Dt l=0
 | [],_=>rfl
 |p::l,h=>by
  have c:=h p (List.mem_cons_self ..);have:OQ p=0:=by unfold OQ;rw[if_neg (by omega),if_neg (by omega)]
  unfold Dt;rw[if_pos this];exact Ll fun p b=>h p (aR _ b)
theorem KQ(r:Rd q b s Ss h)(I:k=0∨k=1)(hn:s.1.length≤90000){K:Tr→af→Prop}(T:∀h' t,Rd q b (jh s).2 Ss h'→Upd (· =b) h h'→TreeIs (fun y=>y<h.size) h' k x t (wd (jh s).1)→K t h'):
  HC PG qx [QV b k x] [.agg [.int .i64,.int .u64,.int .u64,.int .u64,.ptr,.ptr]] K h:=by
 refine Gs (Uq b k x) ?_;unfold zl fA nv aC ag bW GY ar px kJ oq B9 yw;refine r.var fun O r1 k1 z1=>r1.var fun h2 r2 k2 z2=>r2.var fun j r3 V z3=>?_
 have u:=r3.cons (a:=bI ga 2 ay dU []) (OwnS.nil oo) fun y c=>absurd c (jc y)
 have C:Upd (fun y=>y=b∨h.size≤y) h j:=((k1.tr k2).tr V).wide
 have lb:=r.lt;refine⟨_,u.cl 3 rfl 0,_,u.cl 3 rfl 1,_,u.cl 3 rfl 2,_,u.cl 3 rfl 3,_,u.cl 3 rfl 4,?_⟩;refine wX (G:=List Pr×eK) (Inv:=fun g h'=>∃sl,Rd q b g.2 (VI b h.size h2.size k x sl g.1 (co O.size (py vX) cn) Ss) h'∧RdL s.1.length g.1 g.2∧j.size<h'.size∧(∀y,sb sl y→j.size<y)∧Upd (fun y=>y=b∨h.size≤y) h h') (st:=fun g=>g.2) (step:=fun g=>gl g.1 g.2) (M:=fun y=>y=b∨y=h2.size∨j.size<y) u.i ([],(dX s).2) ?_ ?_ ?_ ?_ ?_
 ·rintro(e|e|e)
  ·omega
  ·omega
  ·exact Nat.lt_irrefl _ e
 ·intro h' X z H
  have a:=(jH s).1;refine⟨dU,u.rd X z,⟨fun p Z=>(by cases Z),by simp only[aM];omega,fun _=>by simp only[aM];omega,fun _=>fG⟩,H,fun y c=>absurd c (jc y),C.tr (z.mono fun y c=>.inl (.inl c))⟩
 ·rintro g h' ⟨sl,D,_⟩;exact D.i
 ·rintro⟨l,s1⟩ R ⟨sl,D,w,H,v,z⟩ h0
  have L:=w.len;simp only at L;refine P5 D (show l.length≤900000 by omega) fun h'' B F m S=>⟨⟨B,F,w.pair h0,aG H m.size,fun y c=>(S y c).elim (v y) fun e=>by omega,z.tr (m.mono fun y c=>?_)⟩,m.mono fun y c=>.inl (c.imp id fun e=>e.imp id (v y))⟩
  rcases c with e|e|e
  ·exact .inl (.inl e)
  ·exact .inl (.inr (by omega))
  ·exact .inl (.inr (by have:=v y e;omega))
 ·rintro P ⟨sl,d,w,z5,_,Q⟩
  have e:tF (fun g:List Pr×eK=>g.2) (fun g=>gl g.1 g.2) (dX s).1 ([],(dX s).2)=jh s:=(D3 ..).symm
  rw[e]at d w;have o:OwnS ga 2 ay (sb sl) P sl (jh s).1:=d.o.get (i:=0) rfl;have L:=w.len;refine⟨_,d.cl 3 rfl 1,_,d.cl 3 rfl 2,_,d.cl 3 rfl 3,_,d.cl 3 rfl 4,sl,d.cl 1 rfl 0,?_⟩;refine Hd (W:=fun y=>y<j.size) (o.sl (W:=No) fun _ _ _ h=>h) (fun y c=>Nat.lt_trans c z5) (by omega) (fun e1 e2=>absurd I (by omega)) (fun _ e=>absurd (Ll w.fit) e) fun _ _ E t ti A=>?_
  refine(d.tail.up0 A).var fun h7 U k7 z7=>U.fill 0 rfl (by rfl) fun h8 f Y=>?_
  refine⟨_,f.cl 0 rfl 0,_,f.cl 0 rfl 1,_,f.cl 0 rfl 2,_,f.cl 0 rfl 3,_,f.cl 0 rfl 4,_,f.cl 0 rfl 5,f.fill 2 rfl (by rfl) fun J n u9=>?_⟩
  have z6:=A.size;have N:Upd (fun y=>y=O.size∨E.size≤y) E J:=(k7.wide.tr (Y.mono fun y c=>.inl (.inr (by have c:y=E.size:=c;omega)))).tr (u9.mono fun y c=>.inl (.inl c))
  refine⟨_,n.cl 2 rfl 0,_,n.cl 2 rfl 1,_,n.cl 2 rfl 2,_,n.cl 2 rfl 3,_,n.cl 2 rfl 4,_,n.cl 2 rfl 5,T J t n.tail.tail.tail.tail ?_ ?_⟩
  ·exact((Q.tr A.wide).tr (N.mono fun y c=>.inl (.inr (by omega)))).mono fun y c=>c
  ·exact(ti.updM N fun y c=>c.imp (fun e=>by show y<j.size;omega) id).less fun y c=>.inl (by show y<j.size;have c:y<h.size:=c;omega)
end
end Go.Proofs
namespace Go.Proofs
open Go Go.Lift
abbrev NX(k a b c nx:Int)(br tg:SliceV)(last:Int)(ss:SliceV):List Value:= [.int .i64 k,.int .u64 a,.int .u64 b,.int .u64 c,.int .u32 nx,.slice none 0 0,.slice br.a br.len br.cap,.slice tg.a tg.len tg.cap,.int .i64 last,.slice ss.a ss.len ss.cap]
abbrev pt0:List Value:=NX 0 0 0 0 0 dU dU 0 dU
section
variable {z h0 h h':af} {sp vp sm pb cb:Nat} {s:VS} {last:Int} {ids:List Int} {es:List Se} {Ss:List Sp}
def Gr0(h:af)(p:Nat)(nx:Int):Prop:=h[p+1]? =some (.cells #[.map (some p),.int .u32 nx] gg (0,0))∧MapAt KE sv h p []
theorem Gr0.upd0{p:Nat}{nx:Int}(g:Gr0 h p nx)(k:Upd No h h'):Gr0 h' p nx:=⟨k.get0 g.1,g.2.upd k fun h=>h⟩
theorem Gr0.at{p:Nat}{nx:Int}(g:Gr0 h p nx):GraphAt (Lx (p+1) p) h (p+1) p [] nx:=
 ⟨g.1,⟨[],g.2,fun _=>.inr ⟨rfl,rfl⟩⟩,.inl rfl,.inr rfl,fun y b=>by rcases b with rfl|rfl;exact bo g.1;exact g.2.lt,List.nodup_nil⟩
theorem Gr0.off{p b:Nat}{nx:Int}{cs:List Value}{t:TypeId}(g:Gr0 h p nx)(c:h[b]? =some (.cells cs.toArray t (0,0))) (hc:3≤cs.length) (u:Upd (· =b) h h'):Gr0 h' p nx:=by
 refine⟨u.oth g.1 fun e=>?_,g.2.upd u fun e=>?_⟩
 ·have e:p+1=b:=e
  subst e;have:=c.symm.trans g.1;injection this with e1;injection e1 with e1;have:=congrArg Array.size e1;simp at this;omega
 ·have e:p=b:=e
  subst e;obtain⟨es,cl,d,_⟩:=g.2.isMap;have:=c.symm.trans d;cases this
structure G1(z h0 h:af)(sp vp sm pb cb:Nat)(s:VS)(last:Int)(ids:List Int)(es:List Se)(Ss:List Sp)(ps ts:List Nat):Prop where
 w:SwAt z h sp vp sm pb cb s last ids es Ss
 k:Upd No h0 h
 gs:∀p∈ps,Gr0 h p s.nx∧h0.size≤p
 ts:∀b∈ts,h[b]? =some (.cells (py vX).toArray cn (0,0))∧h0.size≤b
variable {ps ts:List Nat}
theorem G1.upd0(n:G1 z h0 h sp vp sm pb cb s last ids es Ss ps ts)(k:Upd No h h'):G1 z h0 h' sp vp sm pb cb s last ids es Ss ps ts:=
 ⟨n.w.up0 k,n.k.tr k,fun p c=>⟨(n.gs p c).1.upd0 k,(n.gs p c).2⟩,fun b d=>⟨k.get0 (n.ts b d).1,(n.ts b d).2⟩⟩
theorem G1.graph(n:G1 z h0 h sp vp sm pb cb s last ids es Ss ps ts)(i:s.L= []){K:Option Addr→af→Prop}(g:∀h',G1 z h0 h' sp vp sm pb cb s last ids es Ss (h.size::ps) ts→K (some ⟨h.size+1,0,none⟩) h'):HC PG iY [.pointer (some ⟨vp,0,none⟩)] [.c .ptr] K h:=by
 refine Ox n.w.g.v fun h' k gr=>?_
 have c:=n.upd0 k;refine g h' ⟨c.w,c.k,fun p d=>?_,c.ts⟩
 rcases au.1 d with rfl|d
 ·rw[i]at gr
  obtain⟨m,hm,f⟩:=gr.map;have b:=f.len hm.nodup gr.nd;have e:m= []:=aw.1 b;subst e;exact⟨⟨gr.blk,hm⟩,n.k.size⟩
 ·exact c.gs p d
theorem G1.empty(n:G1 z h0 h sp vp sm pb cb s last ids es Ss ps ts){K:Tr→af→Prop}(b:∀h',G1 z h0 h' sp vp sm pb cb s last ids es Ss ps ts→K s.e h'):HC PG gC [.pointer (some ⟨vp,0,none⟩)] [.agg [.int .i64,.int .u64,.int .u64,.int .u64,.ptr,.ptr]] K h:=
 Oy n.w.g.v fun h' k=>b h' (n.upd0 k)
theorem G1.put(n:G1 z h0 h sp vp sm pb cb s last ids es Ss ps ts){k:af→Prop}(f:∀h',G1 z h0 h' sp vp sm pb cb s last ids es Ss ps (h.size::ts)→k h'):At (hnew h (py vX) cn) k:=by
 refine bO fun h' e k'=>f h' ?_
 have c:=n.upd0 k';refine⟨c.w,c.k,c.gs,fun b d=>?_⟩
 rcases au.1 d with rfl|d
 ·exact⟨e,n.k.size⟩
 ·exact c.ts b d
theorem SwAt.young(c:SwAt z h0 sp vp sm pb cb s last ids es Ss){b:Nat}(g:h0.size≤b):sp<b∧(∀e∈es,e.eb≠b∧e.tb≠b)∧¬AL Ss b:=
 ⟨by have:=bo c.g.b;omega,fun e d=>by have:=c.g.lt e d;omega,fun f=>by have:=c.o.al f;omega⟩
theorem G1.fin(k:SwAt z h0 sp vp sm pb cb s last ids es Ss)(n:G1 z h0 h sp vp sm pb cb s last ids es Ss ps ts){p b:Nat}(i:p∈ps)(j:b∈ts){R:Option Addr×Addr→af→Prop}
  (q:∀t h',(∃p b,t=(some ⟨p+1,0,none⟩,⟨b,0,none⟩)∧SwAt z h' sp vp sm pb cb s last ids es Ss∧Upd No h0 h'∧Gr0 h' p s.nx∧h'[b]? =some (.cells (py s.e).toArray cn (0,0))∧h0.size≤b)→R t h'):
  yr h (some ⟨b,0,none⟩) 0 (py s.e)∧At (jK h ⟨b,0,none⟩ 0 (py s.e)) fun h'=>R (some ⟨p+1,0,none⟩,⟨b,0,none⟩) h':=by
 obtain⟨b1,b2⟩:=n.ts b j;obtain⟨g,u⟩:=n.gs p i;obtain⟨f,m,e⟩:=k.young b2;exact eE (c:=py vX) (vs:=py s.e) b1 rfl fun h' o d=>q _ _ ⟨p,b,rfl,n.w.off d f m e,n.k.own d b2,g.off b1 (by simp) d,o,b2⟩
structure P1(z h0 h:af)(sp vp sm pb cb:Nat)(s:VS)(last:Int)(ids:List Int)(es:List Se)(Ss:List Sp)(p eb:Nat)(ts:List Nat):Prop where
 w:SwAt z h sp vp sm pb cb s last ids es Ss
 k:Upd No h0 h
 gr:Gr0 h p s.nx
 e:h[eb]? =some (.cells (py s.e).toArray cn (0,0))
 ts:∀b∈ts,h[b]? =some (.cells pt0.toArray bH (0,0))∧h0.size≤b
variable {p eb:Nat}
theorem P1.upd0(n:P1 z h0 h sp vp sm pb cb s last ids es Ss p eb ts)(k:Upd No h h'):P1 z h0 h' sp vp sm pb cb s last ids es Ss p eb ts:=
 ⟨n.w.up0 k,n.k.tr k,n.gr.upd0 k,k.get0 n.e,fun b c=>⟨k.get0 (n.ts b c).1,(n.ts b c).2⟩⟩
theorem P1.put(n:P1 z h0 h sp vp sm pb cb s last ids es Ss p eb ts){k:af→Prop}(f:∀h',P1 z h0 h' sp vp sm pb cb s last ids es Ss p eb (h.size::ts)→k h'):At (hnew h pt0 bH) k:=by
 refine bO fun h' e k'=>f h' ?_
 have c:=n.upd0 k';refine⟨c.w,c.k,c.gr,c.e,fun b d=>?_⟩
 rcases au.1 d with rfl|d
 ·exact⟨e,n.k.size⟩
 ·exact c.ts b d
theorem P1.kind(n:P1 z h0 h sp vp sm pb cb s last ids es Ss p eb ts){K:Int→af→Prop}(b:∀h',P1 z h0 h' sp vp sm pb cb s last ids es Ss p eb ts→K s.e.1 h'):HC PG lf [U7 s.e] [.c (.int .i64)] K h:=
 Qb fun h' k=>b h' (n.upd0 k)
theorem P1.hash(n:P1 z h0 h sp vp sm pb cb s last ids es Ss p eb ts){K:Int×Int×Int→af→Prop}(b:∀h',P1 z h0 h' sp vp sm pb cb s last ids es Ss p eb ts→K (s.e.2.1,s.e.2.2.1,s.e.2.2.2.1) h'):HC PG gU [U7 s.e] [.agg [.int .u64,.int .u64,.int .u64]] K h:=
 L0 fun h' k=>b h' (n.upd0 k)
theorem P1.next(n:P1 z h0 h sp vp sm pb cb s last ids es Ss p eb ts){K:Int→af→Prop}(b:K s.nx h):HC PG f5 [.pointer (some ⟨p+1,0,none⟩)] [.c (.int .u32)] K h:=
 Q3 n.gr.at b
theorem P1.br(n:P1 z h0 h sp vp sm pb cb s last ids es Ss p eb ts)(b:s.B= []){K:SliceV→af→Prop}(c:∀h',P1 z h0 h' sp vp sm pb cb s last ids es Ss p eb ts→K dU h'):HC PG ey [.pointer (some ⟨vp,0,none⟩)] [.c .slice] K h:=by
 refine xQ _ ?_;unfold qO aW;have v:=n.w.g.v;have m:=v.b;rw[b]at m;exact aH.2 ⟨_,rfl,_,vc v.blk 8,Ic m fun h' k=>c h' (n.upd0 k)⟩
theorem P1.tg(n:P1 z h0 h sp vp sm pb cb s last ids es Ss p eb ts)(b:s.G= []){K:SliceV→af→Prop}(c:∀h',P1 z h0 h' sp vp sm pb cb s last ids es Ss p eb ts→K dU h'):HC PG fh [.pointer (some ⟨vp,0,none⟩)] [.c .slice] K h:=by
 refine Bx _ ?_;unfold uY aW;have v:=n.w.g.v;have m:=v.n;rw[b]at m;exact aH.2 ⟨_,rfl,_,vc v.blk 9,Ic m fun h' k=>c h' (n.upd0 k)⟩
theorem P1.fin(i:SwAt z h0 sp vp sm pb cb s last ids es Ss)(n:P1 z h0 h sp vp sm pb cb s last ids es Ss p eb ts){b:Nat}(g:b∈ts){R:Addr→af→Prop}
  (m:∀t h',(∃b,t=⟨b,0,none⟩∧SwAt z h' sp vp sm pb cb s last ids es Ss∧Upd No h0 h'∧Gr0 h' p s.nx∧h'[b]? =some (.cells (NX s.e.1 s.e.2.1 s.e.2.2.1 s.e.2.2.2.1 s.nx dU dU last dU).toArray bH (0,0))∧h0.size≤b)→R t h'):
  yr h (some ⟨b,0,none⟩) 0 (NX s.e.1 s.e.2.1 s.e.2.2.1 s.e.2.2.2.1 s.nx dU dU last dU)∧At (jK h ⟨b,0,none⟩ 0 (NX s.e.1 s.e.2.1 s.e.2.2.1 s.e.2.2.2.1 s.nx dU dU last dU)) fun h'=>R ⟨b,0,none⟩ h':=by
 obtain⟨b1,b2⟩:=n.ts b g;obtain⟨f,j,e⟩:=i.young b2;exact eE (c:=pt0) (vs:=NX s.e.1 s.e.2.1 s.e.2.2.1 s.e.2.2.2.1 s.nx dU dU last dU) b1 rfl fun h' k d=>m _ _ ⟨b,rfl,n.w.off d f j e,n.k.own d b2,n.gr.off b1 (by simp) d,k,b2⟩
end
end Go.Proofs
namespace Go.Proofs
open Go Go.Lift
abbrev SR:=Int×Bool×Tr
abbrev L9(r:SR):List Value:= [.int .i64 r.1,.bool r.2.1]++py r.2.2
theorem Qh(r:SR):(L9 r).length=8∧0<8:=⟨rfl,by decide⟩
abbrev Pt:=Int×Int×Int×Int×Int×SliceV×SliceV×SliceV×Int×SliceV
section
variable {z h h':af} {sp vp sm pb cb:Nat} {s:VS} {last:Int} {ids:List Int} {es:List Se} {Ss:List Sp}
theorem atJ{W:Nat→Prop}{h:af}{s:SliceV}{xs:List Int}(b:VJ W h s xs){i:Nat}(hi:i<xs.length):∃a,s.a=some a∧¬W a.block∧bj h (adr a (((i:Int)).toNat*1))=some (.int .i64 xs[i]):=
 b.at0 (g:=fun x=>.int .i64 x) (aj hi)
theorem Qy(w:SwAt z h sp vp sm pb cb s last ids es Ss)(hL:s.L= [])(hB:s.B= [])(hG:s.G= []){K:Pt→af→Prop}
  (hk:∀h' ids' es' sl,SliceV.len sl=es.length→es'.map Se.a=es.map Se.a→SwAt z h' sp vp sm pb cb s last ids' es' Ss→K (s.e.1,s.e.2.1,s.e.2.2.1,s.e.2.2.2.1,s.nx,dU,dU,dU,last,sl) h'):
  HC PG ot [.pointer (some ⟨sp,0,none⟩)] [.agg [.int .i64,.int .u64,.int .u64,.int .u64,.int .u32,.slice,.slice,.slice,.int .i64,.slice]] K h:=by
 refine Al _ ?_;unfold tL aW cp gR bV fA nv DR aC ag cq bW cu TZ ft ar cz bZ IL Ov IR IK LX TX kJ oq;refine bO fun S b1 k1=>aH.2 ?_
 have u:=w.new k1 (s':=co h.size pt0 bH) b1 fun y d=>⟨by have d:y=h.size:=d;omega,by have d:y=h.size:=d;have:=bo b1;omega⟩
 clear w k1 b1;obtain⟨r,er⟩:∃r,r=h.size:=⟨_,rfl⟩;rw[←er]at u;refine Join.intro (fun t h'=>∃p b,t=(some ⟨p+1,0,none⟩,⟨b,0,none⟩)∧SwAt z h' sp vp sm pb cb s last ids es (co r pt0 bH::Ss)∧Upd No S h'∧Gr0 h' p s.nx∧h'[b]? =some (.cells (py s.e).toArray cn (0,0))∧S.size≤b) (fun R hR=>⟨_,rfl,_,vc u.g.b 0,_,rfl,_,vc u.g.b 0,?_⟩) ?_
 ·have n:G1 z S S sp vp sm pb cb s last ids es (co r pt0 bH::Ss) [] []:=⟨u,Upd.refl _ _,fun _ h=>(by cases h),fun _ h=>(by cases h)⟩
  clear hk;repeat' first
   |refine n.graph hL fun _ n=>?_
   |refine n.empty fun _ n=>?_
   |refine n.put fun _ n=>?_
   |exact n.fin u (by simp) (by simp) hR
   |exact vc n.w.g.b 0
   |refine And.intro ?_ ?_
 rintro _ h2 ⟨p,eb,rfl,A,k2,O,f,z2⟩;refine Join.intro (fun t h'=>∃b,t=⟨b,0,none⟩∧SwAt z h' sp vp sm pb cb s last ids es (co r pt0 bH::Ss)∧Upd No h2 h'∧Gr0 h' p s.nx∧h'[b]? =some (.cells (NX s.e.1 s.e.2.1 s.e.2.2.1 s.e.2.2.2.1 s.nx dU dU last dU).toArray bH (0,0))∧h2.size≤b)
  (fun R hR=>⟨_,vc f 0,_,vc f 1,_,vc f 2,_,vc f 3,_,vc f 4,_,vc f 5,_,vc f 0,_,vc f 1,_,vc f 2,_,vc f 3,_,vc f 4,_,vc f 5,_,rfl,_,vc A.g.b 0,_,rfl,_,vc A.g.b 0,_,rfl,_,vc A.g.b 2,?_⟩) ?_
 ·have n:P1 z h2 h2 sp vp sm pb cb s last ids es (co r pt0 bH::Ss) p eb []:=⟨A,Upd.refl _ _,O,f,fun _ h=>(by cases h)⟩
  clear hk u k2;repeat' first
   |refine n.kind fun _ n=>?_
   |refine n.hash fun _ n=>?_
   |refine n.next ?_
   |refine n.br hB fun _ n=>?_
   |refine n.tg hG fun _ n=>?_
   |refine n.put fun _ n=>?_
   |exact n.fin A (by simp) hR
   |exact⟨vc n.e 0,vc n.e 1,vc n.e 2,vc n.e 3,vc n.e 4,vc n.e 5⟩
   |exact⟨vc n.e 0,vc n.e 1,vc n.e 2,vc n.e 3,vc n.e 4,vc n.e 5,vc n.e 0,vc n.e 1,vc n.e 2,vc n.e 3,vc n.e 4,vc n.e 5⟩
   |exact vc n.w.g.b 0
   |exact vc n.w.g.b 2
   |refine And.intro ?_ ?_
 rintro _ h3 ⟨q,rfl,w3,k3,J,b3,z3⟩;refine Q5 J.at fun si h4 e4 k4=>?_
 refine LoopP.ghost (fun(_:Unit) (t:Int) h'=>t=0∧h'=h4) (fun _=>0) () ⟨rfl,rfl⟩ ?_
 rintro I _ t h' ⟨rfl,rfl⟩ _;refine av (fun e=>absurd e (by rw[e4];decide)) fun _=>?_
 obtain⟨y1,y2,y3⟩:=A.young z3;have F:=(w3.cons (s':=co q (NX s.e.1 s.e.2.1 s.e.2.2.1 s.e.2.2.2.1 s.nx dU dU last dU) bH) b3 fun y d=>by
  have d:y=q:=d
  subst d
  exact⟨bo b3,y1,y3,y2⟩).up0 k4
 refine⟨_,rfl,_,vc F.g.b 1,QS F.g.m fun fv h5 hg k5=>?_⟩
 have few:=F.g.few;refine L6 hg (by rw[fU];omega) (fun xs hx=>by rw[hx.length_eq,fU,fU];omega) fun U h6 xs ys hx ho hp _ k6=>?_
 have x:=hp.trans hx;have hl:ys.length=es.length:=by rw[x.length_eq,fU,fU]
 have V:∀y∈ys,∃e∈es,e.n=y:=fun y d=>by
  obtain⟨a,Z,rfl⟩:=bQ.1 (x.mem_iff.1 d);obtain⟨e,D,rfl⟩:=bQ.1 Z;exact⟨e,D,rfl⟩
 have w6:=(F.up0 k5).new k6 (s':=bI Jv 1 il U ys) ho.its ho.sub;have w7:=w6.cons (s':=bI L9 8 cA dU []) (OwnS.nil Qh) fun y d=>absurd d (jc y)
 clear w6 F w3 A u k2 O J b3 z2 z3 y1 y2 y3 k3 k4 k5 k6 ho hg f hp hx x;refine LoopP.ghost (fun(g:Nat×List Int×List Se×SliceV×List SR) (t:Int) h'=>t=(g.1:Int)∧g.1≤ys.length∧g.2.2.1.map Se.a=es.map Se.a∧g.2.2.2.2.length=g.1∧SwAt z h' sp vp sm pb cb s last g.2.1 g.2.2.1 (bI L9 8 cA g.2.2.2.1 g.2.2.2.2::bI Jv 1 il U ys::co q (NX s.e.1 s.e.2.1 s.e.2.2.1 s.e.2.2.2.1 s.nx dU dU last g.2.2.2.1) bH::co r pt0 bH::Ss)) (fun g=>ys.length-g.1) (0,ids,es,dU,[])
  ⟨rfl,bJ _,rfl,rfl,w7⟩ ?_
 rintro I ⟨i,N,v,sl,j⟩ t h7 ⟨rfl,hi,em,hr,w⟩ hI;simp only at hi em hr w;have oy:OwnS Jv 1 il (sb U) h7 U ys:=w.o.get (i:=1) rfl;have k:h7[q]? =some (.cells (NX s.e.1 s.e.2.1 s.e.2.2.1 s.e.2.2.2.1 s.nx dU dU last sl).toArray bH (0,0)):=w.o.get (i:=2) rfl;have ly:=oy.len;refine av (fun o=>?_) fun hge=>?_
 ·have o:i<ys.length:=by omega
  obtain⟨a,Z,_,hv⟩:=atJ (oy.sl (W:=No) fun _ _ _ h=>h) o
  obtain⟨e0,he0,en⟩:=V _ (List.getElem_mem o);obtain⟨e,D,ea⟩:∃e∈v,Se.a e=Se.a e0:=by
   have:Se.a e0∈v.map Se.a:=by rw[em];exact bQ.2 ⟨e0,he0,rfl⟩
   exact bQ.1 this
  have en:e.n=ys[i]:=by rw[←en];exact congrArg Prod.fst ea
  have lk:=w.g.m.get e.n none;rw[w.g.look D]at lk;rw[←en]at hv;obtain⟨d1,d2,_,_⟩:=w.g.ed e D;refine Join.plain ⟨by omega,a,Z,_,hv,_,rfl,_,vc w.g.b 1,_,_,lk,sl,vc k 9,y6 d1 d2 ⟨vc k 9,?_⟩⟩;refine S2 w D fun T tr Q es2 em2 P=>?_
  have G:T[q]? =some (.cells (NX s.e.1 s.e.2.1 s.e.2.2.1 s.e.2.2.2.1 s.nx dU dU last sl).toArray bH (0,0)):=P.o.get (i:=2) rfl;refine⟨vc G 9,bO fun h9 b9 k9=>⟨vc (k9.get0 G) 9,?_⟩⟩
  have w9:=P.up0 k9;have os:OwnS L9 8 cA (sb sl) h9 sl j:=w9.o.get (i:=0) rfl;refine UK (t:=(e.n, !e.lv,tr)) os b9 rfl rfl ⟨by decide,by decide⟩ (by omega) fun C X Y u10 B=>?_
  have H:=w9.setP (i:=0) (s':=bI L9 8 cA C (j++ [(e.n, !e.lv,tr)])) rfl u10 (fun y d=>.inl d) Y B
  have L:X[q]? =some (.cells (NX s.e.1 s.e.2.1 s.e.2.2.1 s.e.2.2.2.1 s.nx dU dU last sl).toArray bH (0,0)):=H.o.get (i:=2) rfl;refine yv (i:=9) L (by simp) rfl fun h11 E u11=>?_
  have w11:=H.setP (i:=2) (s':=co q (NX s.e.1 s.e.2.1 s.e.2.2.1 s.e.2.2.2.1 s.nx dU dU last C) bH) rfl u11 (fun y d=>.inl d) E fun y d=>⟨.inl d,by have d:y=q:=d;rw[d];exact bo E⟩
  rw[rt o (by omega)];exact hI (i+1,Q,es2,C,j++ [(e.n, !e.lv,tr)]) _ _ ⟨rfl,o,em2.trans em,by simp[hr],w11⟩ (by simp only;omega)
 ·have hi:i=ys.length:=by omega
  have or:h7[r]? =some (.cells pt0.toArray bH (0,0)):=w.o.get (i:=3) rfl;subst er;refine⟨_,vc k 0,_,vc k 1,_,vc k 2,_,vc k 3,_,vc k 4,dU,vc k 5,dU,vc k 6,dU,vc k 7,_,vc k 8,sl,vc k 9,?_⟩;refine eE (c:=pt0) (vs:=NX s.e.1 s.e.2.1 s.e.2.2.1 s.e.2.2.2.1 s.nx dU dU last sl) or rfl fun T m u8=>?_
  have P:=w.setP (i:=3) (s':=co h.size (NX s.e.1 s.e.2.1 s.e.2.2.1 s.e.2.2.2.1 s.nx dU dU last sl) bH) rfl u8 (fun y d=>.inl d) m fun y d=>⟨.inl d,by have d:y=h.size:=d;rw[d];exact bo m⟩
  have os:OwnS L9 8 cA (sb sl) T sl j:=P.o.get (i:=0) rfl;refine⟨_,vc m 0,_,vc m 1,_,vc m 2,_,vc m 3,_,vc m 4,dU,vc m 5,dU,vc m 6,dU,vc m 7,_,vc m 8,sl,vc m 9,?_⟩;exact hk T N v sl (by show sl.len=es.length;rw[os.len,hr,hi,hl]) em P.tail.tail.tail.tail
end
end Go.Proofs
namespace Go.Proofs
open Go Go.Lift
section
variable {q b:Nat} {s s':eK} {Ss:List Sp} {h h':af} {a a' A:Sp} {M:Nat→Prop} {j p:Nat} {k:Int} {x:Hs} {c:List Value} {t:TypeId}
theorem Rd.fillAt(r:Rd q b s Ss h)(j:Nat)(g:Ss[j]? =some (co p c t)) {m:Nat} {vs:List Value} (o:m+vs.length≤c.length) {f:af→Prop} (n:∀h',Rd q b s (Ss.set j (co p (c.take m++vs++c.drop (m+vs.length)) t)) h'→Upd (· =p) h h'→f h'):yr h (some (adr ⟨p,0,none⟩ m)) 0 vs∧At (jK h (adr ⟨p,0,none⟩ m) 0 vs) f:=by
 have i:h[p]? =some (.cells c.toArray t (0,0)):=r.o.get g;have e:=jq vs h m 0 c i (by omega);rw[Nat.zero_add]at e;refine⟨.inr ⟨_,rfl,fun j g=>by rw[dt,dt];exact gI i (by rw[List.size_toArray];omega)⟩,dx ?_⟩
 rw[zY,Nat.add_zero,e];have k:(h.setIfInBounds p (.cells (c.take m++vs++c.drop (m+vs.length)).toArray t (0,0)))[p]? =some (.cells (c.take m++vs++c.drop (m+vs.length)).toArray t (0,0)):=fe i;have u:=Upd.set (M:=(· =p)) h (.cells (c.take m++vs++c.drop (m+vs.length)).toArray t (0,0)) rfl
 exact n _ (r.set g u (fun y d=>.inl d) k fun y d=>⟨.inl d,by have d:y=p:=d;subst d;exact bo k⟩) u
end
abbrev RV:=Int×SliceV×Tr
abbrev GZ(v:RV):List Value:= [.int .u32 v.1,.slice v.2.1.a v.2.1.len v.2.1.cap]++py v.2.2
theorem Sz(v:RV):(GZ v).length=8∧0<8:=⟨rfl,by decide⟩
abbrev l6(v:ByteArray×Int):List Value:= [.string v.1,.int .u32 v.2]
theorem Jq(v:ByteArray×Int):(l6 v).length=2∧0<2:=⟨rfl,by decide⟩
def VerOk(W:Nat→Prop)(h:af)(k:Int)(x:Hs)(v:RV)(r:Cw):Prop:=v.1=r.1∧Nums W h v.2.1 r.2.1∧TreeIs W h k x v.2.2 (wd r.2.2)
def SesOk(W:Nat→Prop)(h:af)(k:Int)(x:Hs)(v:SR)(r:Int×Bool×List Pr):Prop:=v.1=r.1∧v.2.1=r.2.1∧TreeIs W h k x v.2.2 (wd r.2.2)
section
variable {W W' M:Nat→Prop} {h h':af} {k:Int} {x:Hs}
theorem VerOk.re{v:RV}{r:Cw}(o:VerOk W h k x v r)(u:Upd M h h')(hm:∀b,M b→W b∨h.size≤b)(d:∀b,W' b→W b∨h.size≤b):VerOk W' h' k x v r:=
 ⟨o.1,((o.2.1.less (W':=fun b=>W b∨h.size≤b) fun b c=>c).upd u fun b c=>.inl (hm b c)).less fun b c=>.inl (d b c),o.2.2.re u hm d⟩
theorem SesOk.re{v:SR}{r:Int×Bool×List Pr}(o:SesOk W h k x v r)(u:Upd M h h')(hm:∀b,M b→W b∨h.size≤b)(c:∀b,W' b→W b∨h.size≤b):SesOk W' h' k x v r:=
 ⟨o.1,o.2.1,o.2.2.re u hm c⟩
end
theorem Jf:∀(n:Nat) (l:List Int) (s:eK),Go1 s (yG n l s).2
 |0,_,s=>Go1.refl s
 |n+1,l,s=>by
  unfold yG;exact(eJ _ s).trans (Jf n _ _)
section
variable {q b:Nat} {s s':eK} {Ss:List Sp} {h h':af} {a a' A:Sp} {M:Nat→Prop} {j p:Nat} {k:Int} {x:Hs} {c:List Value} {t:TypeId}
theorem KP(r:Rd q b s Ss h)(V:k=0∨k=1)(hn:s.1.length≤90000){K:RV→af→Prop}(N:∀h' v,Rd q b (sr s).2 Ss h'→Upd (· =b) h h'→VerOk (fun y=>y<h.size) h' k x v (sr s).1→K v h'):
  HC PG qw [QV b k x] [.agg [.int .u32,.slice,.int .i64,.int .u64,.int .u64,.int .u64,.ptr,.ptr]] K h:=by
 refine Cz (Uq b k x) ?_;unfold vL gR bV fA nv aC ag lH cu ar px IL Ov oq B9;have lb:=r.lt;refine r.var fun P r1 k1 z1=>r1.var fun h2 C k2 z2=>⟨_,C.cl 1 rfl 0,_,C.cl 1 rfl 1,_,C.cl 1 rfl 2,_,C.cl 1 rfl 3,_,C.cl 1 rfl 4,FE C.i fun u i3 S=>(C.rd i3 S).var fun h4 r4 k4 z4=>r4.fill 0 rfl (by rfl) fun W A u5=>⟨_,A.cl 2 rfl 0,_,A.cl 2 rfl 1,_,A.cl 2 rfl 2,_,A.cl 2 rfl 3,_,A.cl 2 rfl 4,zS A.i 2 fun h6 i6 U=>?_⟩⟩
 have r6:=A.rd i6 U;have z3:=S.size;have z5:=u5.size;have z6:=U.size;have w6:Upd (fun y=>y=b∨h.size≤y) h h6:=(((((k1.tr k2).wide).tr (S.mono fun y d=>.inl (.inl d))).tr k4.wide).tr (u5.mono fun y d=>.inl (.inr (by have d:y=u.size:=d;omega)))).tr (U.mono fun y d=>.inl (.inl d))
 have r7:=r6.cons (a:=bI u32 1 lC dU []) (OwnS.nil IS) fun y d=>absurd d (jc y)
 have e2:=lc 2 (bd 4294967295 s).2;have ge:(sr s)=((((bd 4294967295 s).1:Int),(yG (bd 2 (bd 4294967295 s).2).1 [] (bd 2 (bd 4294967295 s).2).2).1,(jh (yG (bd 2 (bd 4294967295 s).2).1 [] (bd 2 (bd 4294967295 s).2).2).2).1),(jh (yG (bd 2 (bd 4294967295 s).2).1 [] (bd 2 (bd 4294967295 s).2).2).2).2):=rfl;have g1:=(eJ 4294967295 s).1
 have g2:=(eJ 2 (bd 4294967295 s).2).1;rw[ge]at N;generalize (bd 2 (bd 4294967295 s).2).1=n at*;generalize (bd 2 (bd 4294967295 s).2).2=s6 at*;generalize (bd 4294967295 s).1=id at*;refine LoopP.ghost (fun(g:Nat×List Int×eK) (t:Int) h'=>t=(g.1:Int)∧g.1≤n∧g.2.1.length=g.1∧g.2.2.1.length≤s.1.length∧yG (n-g.1) g.2.1 g.2.2=yG n [] s6∧∃sl,Rd q b g.2.2 (bI u32 1 lC sl g.2.1::co u.size (GZ (id,sl,vX)) dq::co P.size (GZ (0,dU,vX)) dq::co h.size (N8 b k x) eu::Ss) h'∧Upd (fun y=>y=b∨h.size≤y) h h'∧W.size≤h'.size∧∀y,sb sl y→W.size≤y) (fun g=>n-g.1) (0,[],s6)
  ⟨rfl,bJ _,rfl,by simp only;omega,rfl,dU,r7,w6,z6,fun y d=>absurd d (jc y)⟩ ?_
 rintro I ⟨i,l,D⟩ t h7 ⟨rfl,hi,Z,hs,F,sl,r,w,z,B⟩ hI;simp only at hi Z hs F r;refine av (fun c=>?_) fun c=>?_
 ·have H:i<n:=by have c:(i:Int)<(n:Int):=c;omega
  obtain⟨m,em⟩:∃m,n-i=m+1:=⟨n-i-1,by omega⟩
  refine Join.plain ⟨sl,r.cl 1 rfl 1,_,r.cl 3 rfl 0,_,r.cl 3 rfl 1,_,r.cl 3 rfl 2,_,r.cl 3 rfl 3,_,r.cl 3 rfl 4,FE r.i fun Y i8 E=>?_⟩
  have L:=r.rd i8 E;refine⟨L.cl 1 rfl 1,bO fun X b9 T=>?_⟩
  have j:=L.up0 T;have z8:=E.size;have z9:=T.size;refine⟨j.cl 1 rfl 1,j.push (y:=(((bd 4294967295 D).1:Nat):Int)) 0 rfl b9 rfl rfl ⟨by decide,by decide⟩ (by omega) fun s' G f J Q=>f.wr (p:=u.size) (i:=1) 1 rfl (by simp) fun hb rb ub=>?_⟩
  have z11:=J.size;have z12:=ub.size;have ew:ac .u64 ((i:Int)+1)=((i+1:Nat):Int):=by rw[Go.IntWalk.u64_in _ (by omega)];omega
  have g3:=(eJ 4294967295 D).1;refine hI (i+1,l++ [(((bd 4294967295 D).1:Nat):Int)],(bd 4294967295 D).2) _ _ ⟨ew,H,by simp[Z],by simp only;omega,?_,s',rb,((w.tr (E.mono fun y d=>.inl (.inl d))).tr T.wide).tr ((J.mono fun y d=>.inl (.inr (by have:=B y d;omega))).tr (ub.mono fun y d=>.inl (.inr (by have d:y=u.size:=d;omega)))),by omega,fun y d=>(Q y d).elim (B y) fun e=>by omega⟩ (by simp only;omega)
  rw[em,yG]at F;rw[show n-(i+1)=m by omega];exact F
 ·have R:i=n:=by have c:¬(i:Int)<(n:Int):=c;omega
  subst R;rw[Nat.sub_self,yG]at F;rw[←F]at N;simp only at N;refine⟨_,r.cl 3 rfl 0,_,r.cl 3 rfl 1,_,r.cl 3 rfl 2,_,r.cl 3 rfl 3,_,r.cl 3 rfl 4,KQ r V (by omega) fun Y O L E ti=>L.fillAt 1 rfl (by simp) fun X j u9=>?_⟩
  have j:Rd q b (jh D).2 (bI u32 1 lC sl l::co u.size (GZ (id,sl,O)) dq::co P.size (GZ (0,dU,vX)) dq::co h.size (N8 b k x) eu::Ss) X:=j;have z7:=w.size;have z8:=E.size;refine⟨_,j.cl 1 rfl 0,sl,j.cl 1 rfl 1,_,j.cl 1 rfl 2,_,j.cl 1 rfl 3,_,j.cl 1 rfl 4,_,j.cl 1 rfl 5,_,j.cl 1 rfl 6,_,j.cl 1 rfl 7,j.fill 2 rfl (by rfl) fun G f J=>?_⟩
  have f:Rd q b (jh D).2 (bI u32 1 lC sl l::co u.size (GZ (id,sl,O)) dq::co P.size (GZ (id,sl,O)) dq::co h.size (N8 b k x) eu::Ss) G:=f;have o:OwnS u32 1 lC (sb sl) G sl l:=f.o.get (i:=0) rfl;have w8:Upd (fun y=>y=u.size∨y=P.size) Y G:=(u9.mono fun y d=>.inl (.inl d)).tr (J.mono fun y d=>.inl (.inr d))
  refine⟨_,f.cl 2 rfl 0,sl,f.cl 2 rfl 1,_,f.cl 2 rfl 2,_,f.cl 2 rfl 3,_,f.cl 2 rfl 4,_,f.cl 2 rfl 5,_,f.cl 2 rfl 6,_,f.cl 2 rfl 7,N G (id,sl,O) f.tail.tail.tail.tail ?_ ⟨rfl,o.sl fun y d _ H=>?_,?_⟩⟩
  ·exact((w.tr (E.mono fun y d=>.inl (.inl d))).tr (w8.mono fun y d=>.inl (.inr (by omega)))).mono fun y d=>d
  ·have:=B y d;omega
  ·exact(ti.updM w8 fun y d=>.inl (by show y<h7.size;omega)).less fun y d=>.inl (by show y<h7.size;have d:y<h.size:=d;omega)
end
end Go.Proofs
namespace Go.Proofs
open Go Go.Lift
section
variable {q b:Nat} {s s':eK} {Ss:List Sp} {h h':af} {a a' A:Sp} {M:Nat→Prop} {j p:Nat} {k:Int} {x:Hs} {c:List Value} {t:TypeId}
theorem KT(r:Rd q b s Ss h){K:ByteArray×Int→af→Prop}(n:∀h',Rd q b (im s).2 Ss h'→Upd (· =b) h h'→K (im s).1 h'):
  HC PG qz [QV b k x] [.agg [.str,.int .u32]] K h:=by
 refine Gt (Uq b k x) ?_;unfold zm gR fA aC ag ar px cP AX Fc Es B9;have C:=r.lt;refine r.var fun u p k1 B=>p.var fun h2 c t A=>⟨_,c.cl 1 rfl 0,_,c.cl 1 rfl 0,_,c.cl 1 rfl 1,_,c.cl 1 rfl 2,_,c.cl 1 rfl 3,_,c.cl 1 rfl 4,ul c.i 32 (by omega) 9 (by decide) fun w j f=>?_⟩
 have d:=c.rd j f;refine⟨⟨d.cl 1 rfl 0,d.cl 1 rfl 1,d.cl 1 rfl 2,d.cl 1 rfl 3,d.cl 1 rfl 4⟩,FE d.i fun z o g=>(d.rd o g).fill 0 rfl (by rfl) fun m e v=>⟨_,e.cl 0 rfl 0,_,e.cl 0 rfl 1,n m e.tail.tail ?_⟩⟩
 exact((((k1.tr t).wide).tr f).tr g).trans v fun y i=>.inr (by have i:y=u.size:=i;omega)
theorem KJ(s:eK):(aS s).1<256:=UInt8.toNat_lt _
theorem KS(r:Rd q b s Ss h)(G:k=0∨k=1)(hn:s.1.length≤90000){K:SR→af→Prop}(I:∀h' v,Rd q b (sR s).2 Ss h'→Upd (· =b) h h'→SesOk (fun y=>y<h.size) h' k x v (sR s).1→K v h'):
  HC PG qy [QV b k x] [.agg [.int .i64,.bool,.int .i64,.int .u64,.int .u64,.int .u64,.ptr,.ptr]] K h:=by
 refine CA (Uq b k x) ?_;unfold vM fA nv aC ag A7 lH cu tP ar px IK LX oq B9;have lb:=r.lt;have e0:=lc 2147483648 s;refine r.var fun u r1 k1 z1=>r1.var fun h2 j k2 z2=>⟨_,j.cl 1 rfl 0,_,j.cl 1 rfl 1,_,j.cl 1 rfl 2,_,j.cl 1 rfl 3,_,j.cl 1 rfl 4,zS j.i 2147483648 fun m S C=>(j.rd S C).var fun h4 r4 P z4=>?_⟩
 rw[Go.IntWalk.i64_in _ (by omega)];refine r4.fill 0 rfl (by rfl) fun h5 D O=>⟨_,D.cl 2 rfl 0,Dm D.i fun H W F=>?_⟩
 have o:=D.rd W F;have z3:=C.size;have z5:=O.size;have z6:=F.size;have L:Upd (fun y=>y=b∨h.size≤y) h H:=(((((k1.tr k2).wide).tr (C.mono fun y d=>.inl (.inl d))).tr P.wide).tr (O.mono fun y d=>.inl (.inr (by have d:y=m.size:=d;omega)))).tr (F.mono fun y d=>.inl (.inl d))
 have g1:=(eJ 2147483648 s).1;have g2:(sS (bd 2147483648 s).2).2.1.length≤(bd 2147483648 s).2.1.length:=by
  have a:=(Fx 1 (bd 2147483648 s).2).1;unfold sS aS;simp only;split
  ·have:=(ut (e:=9) (fV 1 (bd 2147483648 s).2).2).1;omega
  ·exact a
 have ge:(sR s)=((((bd 2147483648 s).1:Int),decide ((aS (bd 2147483648 s).2).1=1),(jh (sS (bd 2147483648 s).2).2).1),(jh (sS (bd 2147483648 s).2).2).2):=rfl;have eb:(sS (bd 2147483648 s).2).2=if 1<(aS (bd 2147483648 s).2).1 then dA 9 (aS (bd 2147483648 s).2).2 else(aS (bd 2147483648 s).2).2:=rfl
 rw[ge]at I;generalize (sS (bd 2147483648 s).2).2=s7 at*;generalize (aS (bd 2147483648 s).2).1=n at*;generalize (aS (bd 2147483648 s).2).2=s6 at*;generalize (bd 2147483648 s).1=id at*;refine Join.intro (fun _ h'=>Rd q b s7 (co m.size (L9 ((id:Int),false,vX)) cA::co u.size (L9 (0,false,vX)) cA::co h.size (N8 b k x) eu::Ss) h'∧Upd (fun y=>y=b∨h.size≤y) h h'∧H.size≤h'.size)
  (fun R N=>av (fun c=>⟨_,o.cl 2 rfl 0,mr o.i fun E T A=>N _ _ ⟨?_,L.tr (A.mono fun y d=>.inl (.inl d)),A.size⟩⟩) fun c=>N _ _ ⟨?_,L,aq _⟩) ?_
 ·have c:(n:Int)>1:=c
  rw[eb,if_pos (by omega)];exact o.rd T A
 ·have c:¬(n:Int)>1:=c
  rw[eb,if_neg (by omega)];exact o
 rintro _ E ⟨r,w,z⟩;have z7:=w.size;refine⟨_,r.cl 2 rfl 0,_,r.cl 2 rfl 1,_,r.cl 2 rfl 2,_,r.cl 2 rfl 3,_,r.cl 2 rfl 4,KQ r G (by omega) fun X t V Y ti=>V.wr (p:=m.size) (i:=1) 0 rfl (by simp) fun h9 r9 u9=>r9.fillAt 0 rfl (by simp) fun hA f Q=>?_⟩
 have Z:((n:Int)==(1:Int))=decide (n=1):=by
  by_cases e:n=1
  ·subst e;rfl
  ·rw[decide_eq_false e];exact beq_eq_false_iff_ne.2 (by omega)
 rw[Z]at f;have f:Rd q b (jh s7).2 (co m.size (L9 ((id:Int),decide (n=1),t)) cA::co u.size (L9 (0,false,vX)) cA::co h.size (N8 b k x) eu::Ss) hA:=f;refine⟨_,f.cl 0 rfl 0,_,f.cl 0 rfl 1,_,f.cl 0 rfl 2,_,f.cl 0 rfl 3,_,f.cl 0 rfl 4,_,f.cl 0 rfl 5,_,f.cl 0 rfl 6,_,f.cl 0 rfl 7,f.fill 1 rfl (by rfl) fun B g U=>?_⟩
 have g:Rd q b (jh s7).2 (co m.size (L9 ((id:Int),decide (n=1),t)) cA::co u.size (L9 ((id:Int),decide (n=1),t)) cA::co h.size (N8 b k x) eu::Ss) B:=g;have J:Upd (fun y=>y=m.size∨y=u.size) X B:=((u9.mono fun y d=>.inl (.inl d)).tr (Q.mono fun y d=>.inl (.inl d))).tr (U.mono fun y d=>.inl (.inr d))
 refine⟨_,g.cl 1 rfl 0,_,g.cl 1 rfl 1,_,g.cl 1 rfl 2,_,g.cl 1 rfl 3,_,g.cl 1 rfl 4,_,g.cl 1 rfl 5,_,g.cl 1 rfl 6,_,g.cl 1 rfl 7,I B ((id:Int),decide (n=1),t) g.tail.tail.tail ?_ ⟨rfl,rfl,?_⟩⟩
 ·exact((w.tr (Y.mono fun y d=>.inl (.inl d))).tr (J.mono fun y d=>.inl (.inr (by omega)))).mono fun y d=>d
 ·exact(ti.updM J fun y d=>.inl (by show y<E.size;omega)).less fun y d=>.inl (by show y<E.size;have d:y<h.size:=d;omega)
theorem MG{yi:Nat}(r:Rd q b s (co yi (N8 b 0 ⟨0,0,0⟩) eu::Ss) h){K:Unit→af→Prop}
  (k:∀h',Rd q b (vw s).2 (co yi (N8 b (vw s).1.1 (vw s).1.2) eu::Ss) h'→Upd (fun y=>y=b∨y=yi) h h'→K () h'):
  HC PG rM [.pointer (some ⟨yi,0,none⟩)] [] K h:=by
 refine DI _ ?_;unfold xp cq lH cu tP UP bZ;refine Join.intro (fun _ h'=>Rd q b (if(aS s).1=81 then(aS s).2 else dA 9 (aS s).2) (co yi (N8 b 0 ⟨0,0,0⟩) eu::Ss) h'∧Upd (fun y=>y=b∨y=yi) h h')
  (fun R D=>⟨_,rfl,_,r.cl 0 rfl 0,Dm r.i fun O o j=>CondP.intro (fun c=>⟨_,rfl,_,(r.rd o j).cl 0 rfl 0,mr o fun h2 v m=>D _ _ ⟨?_,(j.tr m).mono fun y d=>.inl (.inl d)⟩⟩) fun c=>D _ _ ⟨?_,j.mono fun y d=>.inl (.inl d)⟩⟩) ?_
 ·have c:(aS s).1≠81:=fun e=>by rw[e]at c;exact absurd c (by decide)
  rw[if_neg c];exact(r.rd o j).rd v m
 ·have c:(aS s).1=81:=by
   have c:((aS s).1:Int)=81:=by simpa using c
   omega
  rw[if_pos c];exact r.rd o j
 rintro _ O ⟨z,j⟩;have L:vw s=(if(aS (if(aS s).1=81 then(aS s).2 else dA 9 (aS s).2)).1=0 then
   ((0,⟨(kK (aS (if(aS s).1=81 then(aS s).2 else dA 9 (aS s).2)).2).1,(kK (kK (aS (if(aS s).1=81 then(aS s).2 else dA 9 (aS s).2)).2).2).1,(kK (kK (kK (aS (if(aS s).1=81 then(aS s).2 else dA 9 (aS s).2)).2).2).2).1⟩),(kK (kK (kK (aS (if(aS s).1=81 then(aS s).2 else dA 9 (aS s).2)).2).2).2).2)
   else if(aS (if(aS s).1=81 then(aS s).2 else dA 9 (aS s).2)).1=1 then((1,⟨0,0,0⟩),(aS (if(aS s).1=81 then(aS s).2 else dA 9 (aS s).2)).2)else(((aS (if(aS s).1=81 then(aS s).2 else dA 9 (aS s).2)).1,⟨0,0,0⟩),dA 11 (aS (if(aS s).1=81 then(aS s).2 else dA 9 (aS s).2)).2)):=rfl
 rw[L]at k;generalize (if(aS s).1=81 then(aS s).2 else dA 9 (aS s).2)=s1 at*
 have S:=KJ s1;refine⟨_,rfl,_,z.cl 0 rfl 0,Dm z.i fun h2 v m=>?_⟩
 rw[Go.IntWalk.i64_in _ (by omega)];refine⟨_,rfl,(z.rd v m).wr (p:=yi) (i:=1) 0 rfl (by simp) fun u f J=>?_⟩
 have A:Upd (fun y=>y=b∨y=yi) h u:=(j.tr (m.mono fun y d=>.inl (.inl d))).tr (J.mono fun y d=>.inl (.inr d))
 have f:Rd q b (aS s1).2 (co yi (N8 b (aS s1).1 ⟨0,0,0⟩) eu::Ss) u:=f;refine⟨_,rfl,_,f.cl 0 rfl 1,CondP.intro (fun c=>?_) fun c=>CondP.intro (fun g=>k u ?_ A) fun g=>⟨_,rfl,_,f.cl 0 rfl 0,mr f.i fun B x n=>k B ?_ (A.tr (n.mono fun y d=>.inl (.inl d)))⟩⟩
 ·have c:(aS s1).1=0:=by
   have c:((aS s1).1:Int)=0:=by simpa using c
   omega
  rw[if_pos c]at k;refine⟨_,rfl,_,f.cl 0 rfl 0,_,rfl,_,f.cl 0 rfl 0,_,rfl,_,f.cl 0 rfl 0,Bf f.i fun B x n=>?_⟩
  have t:=f.rd x n;refine⟨t.cl 0 rfl 0,t.cl 0 rfl 0,Bf t.i fun P I F=>?_⟩
  have w:=t.rd I F;refine⟨w.cl 0 rfl 0,Bf w.i fun Q H E=>⟨_,rfl,(w.rd H E).fillAt 0 rfl (by simp) fun N C G=>k N ?_ ?_⟩⟩
  ·rw[c]at C;exact C
  ·exact(((A.tr (n.mono fun y d=>.inl (.inl d))).tr (F.mono fun y d=>.inl (.inl d))).tr (E.mono fun y d=>.inl (.inl d))).tr (G.mono fun y d=>.inl (.inr d))
 ·have c:(aS s1).1≠0:=fun e=>by rw[e]at c;exact absurd c (by decide)
  have g:(aS s1).1=1:=by
   have c:((aS s1).1:Int)=1:=by simpa using g
   omega
  rw[if_neg c,if_pos g];rw[g]at f;exact f
 ·have c:(aS s1).1≠0:=fun e=>by rw[e]at c;exact absurd c (by decide)
  have g:(aS s1).1≠1:=fun e=>by rw[e]at g;exact absurd g (by decide)
  rw[if_neg c,if_neg g];exact f.rd x n
end
end Go.Proofs
namespace Go.Proofs
open Go Go.Lift
def LOk{α β:Type}(Ok:α→β→Prop)(vs:List α)(rs:List β):Prop:=vs.length=rs.length∧∀(i:Nat) (v:α) (r:β),vs[i]? =some v→rs[i]? =some r→Ok v r
section
variable {α β:Type} {Ok Ok':α→β→Prop} {vs:List α} {rs:List β} {v:α} {r:β}
theorem LOk.nil:LOk Ok [] []:=⟨rfl,fun _ _ _ h=>by simp at h⟩
theorem LOk.imp(o:LOk Ok vs rs)(f:∀v r,Ok v r→Ok' v r):LOk Ok' vs rs:=⟨o.1,fun i v r h k=>f v r (o.2 i v r h k)⟩
theorem LOk.push(o:LOk Ok vs rs)(h:Ok v r):LOk Ok (vs++ [v]) (rs++ [r]):=by
 refine⟨by simp[o.1],fun i d f b h2=>?_⟩
 rw[List.getElem?_append]at b h2;rw[o.1]at b;split at b
 ·rename_i c
  rw[if_pos c]at h2;exact o.2 i d f b h2
 ·rename_i c
  rw[if_neg c]at h2;cases e:i-rs.length with
  |zero=>rw[e]at b h2;cases b;cases h2;exact h
  |succ n=>rw[e]at b;simp at b
end
abbrev rG(k:Int)(x:Hs)(nx:Int)(vs bs ts:SliceV)(last:Int)(ss:SliceV):List Value:= [.int .i64 k,.int .u64 x.k0,.int .u64 x.k1,.int .u64 x.mask,.int .u32 nx,.slice vs.a vs.len vs.cap,.slice bs.a bs.len bs.cap,.slice ts.a ts.len ts.cap,.int .i64 last,.slice ss.a ss.len ss.cap]
abbrev tI(b pb yi:Nat)(k:Int)(x:Hs)(nx:Int)(vs:SliceV)(VS:List RV)(bs:SliceV)(BS:List (ByteArray×Int))(ts:SliceV)(TS:List (ByteArray×Int))(last:Int)(ss:SliceV)(SS:List SR):List Sp:=
 [bI GZ 8 dq vs VS,bI l6 2 fQ bs BS,bI l6 2 fQ ts TS,bI L9 8 cA ss SS,co pb (rG k x nx vs bs ts last ss) bH,co yi (N8 b k x) eu]
structure RdV(z q b:Nat)(k:Int)(x:Hs)(s:eK)(P:List Sp)(VS:List RV)(rv:List Cw)(SS:List SR)(rz:List (Int×Bool×List Pr))(h:af):Prop where
 r:Rd q b s P h
 v:LOk (VerOk (fun y=>y<z∨y=b∨AL P y) h k x) VS rv
 s:LOk (SesOk (fun y=>y<z∨y=b∨AL P y) h k x) SS rz
 lz:z≤h.size
section
variable {z q b pb yi:Nat} {k:Int} {x:Hs} {s s':eK} {P P':List Sp} {VS:List RV} {rv:List Cw} {SS:List SR} {rz:List (Int×Bool×List Pr)} {h h':af} {M:Nat→Prop} {nx last:Int} {vs bs ts ss:SliceV} {BS TS:List (ByteArray×Int)}
theorem RdV.go(R:RdV z q b k x s P VS rv SS rz h)(i:Rd q b s' P' h')(u:Upd M h h')(hm:∀y,M y→(y=b∨AL P y)∨h.size≤y)(g:∀y,AL P' y→AL P y∨h.size≤y):RdV z q b k x s' P' VS rv SS rz h':=by
 have f:∀y,(y<z∨y=b∨AL P' y)→(y<z∨y=b∨AL P y)∨h.size≤y:=fun y d=>by
  rcases d with e|e|e
  ·exact .inl (.inl e)
  ·exact .inl (.inr (.inl e))
  ·exact(g y e).imp (fun e=>.inr (.inr e)) id
 have c:∀y,M y→(y<z∨y=b∨AL P y)∨h.size≤y:=fun y d=>(hm y d).imp (fun e=>.inr e) id
 exact⟨i,R.v.imp fun v r o=>o.re u c f,R.s.imp fun v r o=>o.re u c f,dj R.lz u.size⟩
theorem RdV.rd(R:RdV z q b k x s P VS rv SS rz h)(i:InAt (·≠q) h' b s')(u:Upd (· =b) h h'):RdV z q b k x s' P VS rv SS rz h':=
 R.go (R.r.rd i u) u (fun y c=>.inl (.inl c)) fun y c=>.inl c
theorem su{α:Type}(f:eK→α×eK):∀(n:Nat) (l:List α) (s:eK),m0 f n l s=tF (fun g:List α×eK=>g.2) (fun g=>(g.1++ [(f g.2).1],(f g.2).2)) n (l,s)
 |0,_,_=>rfl
 |n+1,l,s=>by
  unfold m0 tF;split
  ·exact su f n _ _
  ·rfl
theorem Qr(R:RdV z q b k x s (tI b pb yi k x nx vs VS bs BS ts TS last ss SS) VS rv SS rz h)(u:k=0∨k=1)(I:s.1.length≤90000)(hv:VS.length≤900000){K:Unit→af→Prop}
  (E:∀h' s' v,RdV z q b k x (sr s).2 (tI b pb yi k x nx s' (VS++ [v]) bs BS ts TS last ss SS) (VS++ [v]) (rv++ [(sr s).1]) SS rz h'→Upd (fun y=>y=b∨y=pb∨sb vs y) h h'→(∀y,sb s' y→sb vs y∨h.size≤y)→K () h'):
  HC PG oU [.pointer (some ⟨pb,0,none⟩),.pointer (some ⟨yi,0,none⟩)] [] K h:=by
 refine Hq _ _ ?_;unfold wP cq bW cu cz px bZ IL Ve;refine⟨vs,R.r.cl 4 rfl 5,_,R.r.cl 5 rfl 0,_,R.r.cl 5 rfl 1,_,R.r.cl 5 rfl 2,_,R.r.cl 5 rfl 3,_,R.r.cl 5 rfl 4,KP R.r u I fun B v H o D=>?_⟩
 have R1:=R.go H o (fun y c=>.inl (.inl c)) fun y c=>.inl c
 have O:=o.size;refine⟨R1.r.cl 4 rfl 5,bO fun h2 b2 m=>?_⟩
 have R2:=R1.go (R1.r.up0 m) m (fun _ h=>h.elim) fun y c=>.inl c
 have N:=m.size;refine⟨R2.r.cl 4 rfl 5,R2.r.push (y:=v) 0 rfl b2 rfl rfl ⟨by decide,by decide⟩ (by omega) fun s' L F A n=>F.wr (p:=pb) (i:=5) 4 rfl (by simp) fun j t G=>?_⟩
 have J:=A.size;have w:Upd (fun y=>y=pb∨sb vs y) B j:=(m.wide.tr (A.mono fun y c=>.inl (.inr c))).tr (G.mono fun y c=>.inl (.inl c))
 have d:∀y,y=pb∨sb vs y→AL (tI b pb yi k x nx vs VS bs BS ts TS last ss SS) y:=fun y c=>c.elim (fun e=>⟨_,ak (i:=4) rfl,e⟩) fun e=>⟨_,ak (i:=0) rfl,e⟩
 have t:Rd q b (sr s).2 (tI b pb yi k x nx s' (VS++ [v]) bs BS ts TS last ss SS) j:=t;have P:∀y,AL (tI b pb yi k x nx s' (VS++ [v]) bs BS ts TS last ss SS) y→AL (tI b pb yi k x nx vs VS bs BS ts TS last ss SS) y∨h.size≤y:=by
  rintro y ⟨a,g,c⟩;simp only[au,dN,or_false]at g;rcases g with rfl|rfl|rfl|rfl|rfl|rfl
  ·exact(n y c).elim (fun e=>.inl (d y (.inr e))) fun e=>.inr (by omega)
  ·exact .inl ⟨_,ak (i:=1) rfl,c⟩
  ·exact .inl ⟨_,ak (i:=2) rfl,c⟩
  ·exact .inl ⟨_,ak (i:=3) rfl,c⟩
  ·exact .inl (d y (.inl c))
  ·exact .inl ⟨_,ak (i:=5) rfl,c⟩
 have f:∀y,AL (tI b pb yi k x nx s' (VS++ [v]) bs BS ts TS last ss SS) y→AL (tI b pb yi k x nx vs VS bs BS ts TS last ss SS) y∨B.size≤y:=by
  rintro y ⟨a,g,c⟩;simp only[au,dN,or_false]at g;rcases g with rfl|rfl|rfl|rfl|rfl|rfl
  ·exact(n y c).elim (fun e=>.inl (d y (.inr e))) fun e=>.inr (by omega)
  ·exact .inl ⟨_,ak (i:=1) rfl,c⟩
  ·exact .inl ⟨_,ak (i:=2) rfl,c⟩
  ·exact .inl ⟨_,ak (i:=3) rfl,c⟩
  ·exact .inl (d y (.inl c))
  ·exact .inl ⟨_,ak (i:=5) rfl,c⟩
 have R4:=R1.go t w (fun y c=>.inl (.inr (d y c))) f
 refine E j s' v ?_ ?_ fun y c=>(n y c).imp id fun e=>by omega
 ·have lz:=R.lz
  have C:VerOk (fun y=>y<z∨y=b∨AL (tI b pb yi k x nx s' (VS++ [v]) bs BS ts TS last ss SS) y) j k x v (sr s).1:=D.re w (fun y c=>.inl (R.r.o.al (d y c))) fun y c=>by
   rcases c with e|e|e
   ·exact .inl (by show y<h.size;omega)
   ·exact .inl (by show y<h.size;have:=R.r.lt;omega)
   ·exact(f y e).imp (fun e=>R.r.o.al e) id
  exact⟨R4.r,R4.v.push C,R4.s,R4.lz⟩
 ·exact(o.mono fun y c=>.inl (.inl c)).tr (w.mono fun y c=>.inl (.inr c))
theorem Qq(R:RdV z q b k x s (tI b pb yi k x nx vs VS bs BS ts TS last ss SS) VS rv SS rz h)(E:k=0∨k=1)(L:s.1.length≤90000)(hv:BS.length≤900000){K:Unit→af→Prop}
  (A:∀h' s',RdV z q b k x (im s).2 (tI b pb yi k x nx vs VS s' (BS++ [(im s).1]) ts TS last ss SS) VS rv SS rz h'→Upd (fun y=>y=b∨y=pb∨sb bs y) h h'→(∀y,sb s' y→sb bs y∨h.size≤y)→K () h'):
  HC PG oT [.pointer (some ⟨pb,0,none⟩),.pointer (some ⟨yi,0,none⟩)] [] K h:=by
 refine Hp _ _ ?_;unfold wO cq bW cu cz px Es bZ SP;refine⟨bs,R.r.cl 4 rfl 6,_,R.r.cl 5 rfl 0,_,R.r.cl 5 rfl 1,_,R.r.cl 5 rfl 2,_,R.r.cl 5 rfl 3,_,R.r.cl 5 rfl 4,KT R.r fun v D o=>?_⟩
 have R1:=R.go D o (fun y c=>.inl (.inl c)) fun y c=>.inl c
 have I:=o.size;refine⟨R1.r.cl 4 rfl 6,bO fun h2 b2 g=>?_⟩
 have R2:=R1.go (R1.r.up0 g) g (fun _ h=>h.elim) fun y c=>.inl c
 have H:=g.size;refine⟨R2.r.cl 4 rfl 6,R2.r.push (y:=(im s).1) 1 rfl b2 rfl rfl ⟨by decide,by decide⟩ (by omega) fun s' G B u m=>B.wr (p:=pb) (i:=6) 4 rfl (by simp) fun n t C=>?_⟩
 have F:=u.size;have w:Upd (fun y=>y=pb∨sb bs y) v n:=(g.wide.tr (u.mono fun y c=>.inl (.inr c))).tr (C.mono fun y c=>.inl (.inl c))
 have d:∀y,y=pb∨sb bs y→AL (tI b pb yi k x nx vs VS bs BS ts TS last ss SS) y:=fun y c=>c.elim (fun e=>⟨_,ak (i:=4) rfl,e⟩) fun e=>⟨_,ak (i:=1) rfl,e⟩
 have t:Rd q b (im s).2 (tI b pb yi k x nx vs VS s' (BS++ [(im s).1]) ts TS last ss SS) n:=t;have J:∀y,AL (tI b pb yi k x nx vs VS s' (BS++ [(im s).1]) ts TS last ss SS) y→AL (tI b pb yi k x nx vs VS bs BS ts TS last ss SS) y∨h.size≤y:=by
  rintro y ⟨a,f,c⟩;simp only[au,dN,or_false]at f;rcases f with rfl|rfl|rfl|rfl|rfl|rfl
  ·exact .inl ⟨_,ak (i:=0) rfl,c⟩
  ·exact(m y c).elim (fun e=>.inl (d y (.inr e))) fun e=>.inr (by omega)
  ·exact .inl ⟨_,ak (i:=2) rfl,c⟩
  ·exact .inl ⟨_,ak (i:=3) rfl,c⟩
  ·exact .inl (d y (.inl c))
  ·exact .inl ⟨_,ak (i:=5) rfl,c⟩
 have j:∀y,AL (tI b pb yi k x nx vs VS s' (BS++ [(im s).1]) ts TS last ss SS) y→AL (tI b pb yi k x nx vs VS bs BS ts TS last ss SS) y∨v.size≤y:=by
  rintro y ⟨a,f,c⟩;simp only[au,dN,or_false]at f;rcases f with rfl|rfl|rfl|rfl|rfl|rfl
  ·exact .inl ⟨_,ak (i:=0) rfl,c⟩
  ·exact(m y c).elim (fun e=>.inl (d y (.inr e))) fun e=>.inr (by omega)
  ·exact .inl ⟨_,ak (i:=2) rfl,c⟩
  ·exact .inl ⟨_,ak (i:=3) rfl,c⟩
  ·exact .inl (d y (.inl c))
  ·exact .inl ⟨_,ak (i:=5) rfl,c⟩
 have R4:=R1.go t w (fun y c=>.inl (.inr (d y c))) j
 refine A n s' R4 ?_ fun y c=>(m y c).imp id fun e=>by omega
 ·exact(o.mono fun y c=>.inl (.inl c)).tr (w.mono fun y c=>.inl (.inr c))
theorem Qp(R:RdV z q b k x s (tI b pb yi k x nx vs VS bs BS ts TS last ss SS) VS rv SS rz h)(E:k=0∨k=1)(L:s.1.length≤90000)(hv:TS.length≤900000){K:Unit→af→Prop}
  (A:∀h' s',RdV z q b k x (im s).2 (tI b pb yi k x nx vs VS bs BS s' (TS++ [(im s).1]) last ss SS) VS rv SS rz h'→Upd (fun y=>y=b∨y=pb∨sb ts y) h h'→(∀y,sb s' y→sb ts y∨h.size≤y)→K () h'):
  HC PG oQ [.pointer (some ⟨pb,0,none⟩),.pointer (some ⟨yi,0,none⟩)] [] K h:=by
 refine Ho _ _ ?_;unfold wN cq bW cu cz px Es bZ SP;refine⟨ts,R.r.cl 4 rfl 7,_,R.r.cl 5 rfl 0,_,R.r.cl 5 rfl 1,_,R.r.cl 5 rfl 2,_,R.r.cl 5 rfl 3,_,R.r.cl 5 rfl 4,KT R.r fun v D o=>?_⟩
 have R1:=R.go D o (fun y c=>.inl (.inl c)) fun y c=>.inl c
 have I:=o.size;refine⟨R1.r.cl 4 rfl 7,bO fun h2 b2 g=>?_⟩
 have R2:=R1.go (R1.r.up0 g) g (fun _ h=>h.elim) fun y c=>.inl c
 have H:=g.size;refine⟨R2.r.cl 4 rfl 7,R2.r.push (y:=(im s).1) 2 rfl b2 rfl rfl ⟨by decide,by decide⟩ (by omega) fun s' G B u m=>B.wr (p:=pb) (i:=7) 4 rfl (by simp) fun n t C=>?_⟩
 have F:=u.size;have w:Upd (fun y=>y=pb∨sb ts y) v n:=(g.wide.tr (u.mono fun y c=>.inl (.inr c))).tr (C.mono fun y c=>.inl (.inl c))
 have d:∀y,y=pb∨sb ts y→AL (tI b pb yi k x nx vs VS bs BS ts TS last ss SS) y:=fun y c=>c.elim (fun e=>⟨_,ak (i:=4) rfl,e⟩) fun e=>⟨_,ak (i:=2) rfl,e⟩
 have t:Rd q b (im s).2 (tI b pb yi k x nx vs VS bs BS s' (TS++ [(im s).1]) last ss SS) n:=t;have J:∀y,AL (tI b pb yi k x nx vs VS bs BS s' (TS++ [(im s).1]) last ss SS) y→AL (tI b pb yi k x nx vs VS bs BS ts TS last ss SS) y∨h.size≤y:=by
  rintro y ⟨a,f,c⟩;simp only[au,dN,or_false]at f;rcases f with rfl|rfl|rfl|rfl|rfl|rfl
  ·exact .inl ⟨_,ak (i:=0) rfl,c⟩
  ·exact .inl ⟨_,ak (i:=1) rfl,c⟩
  ·exact(m y c).elim (fun e=>.inl (d y (.inr e))) fun e=>.inr (by omega)
  ·exact .inl ⟨_,ak (i:=3) rfl,c⟩
  ·exact .inl (d y (.inl c))
  ·exact .inl ⟨_,ak (i:=5) rfl,c⟩
 have j:∀y,AL (tI b pb yi k x nx vs VS bs BS s' (TS++ [(im s).1]) last ss SS) y→AL (tI b pb yi k x nx vs VS bs BS ts TS last ss SS) y∨v.size≤y:=by
  rintro y ⟨a,f,c⟩;simp only[au,dN,or_false]at f;rcases f with rfl|rfl|rfl|rfl|rfl|rfl
  ·exact .inl ⟨_,ak (i:=0) rfl,c⟩
  ·exact .inl ⟨_,ak (i:=1) rfl,c⟩
  ·exact(m y c).elim (fun e=>.inl (d y (.inr e))) fun e=>.inr (by omega)
  ·exact .inl ⟨_,ak (i:=3) rfl,c⟩
  ·exact .inl (d y (.inl c))
  ·exact .inl ⟨_,ak (i:=5) rfl,c⟩
 have R4:=R1.go t w (fun y c=>.inl (.inr (d y c))) j
 refine A n s' R4 ?_ fun y c=>(m y c).imp id fun e=>by omega
 ·exact(o.mono fun y c=>.inl (.inl c)).tr (w.mono fun y c=>.inl (.inr c))
theorem Qo(R:RdV z q b k x s (tI b pb yi k x nx vs VS bs BS ts TS last ss SS) VS rv SS rz h)(u:k=0∨k=1)(I:s.1.length≤90000)(hv:SS.length≤900000){K:Unit→af→Prop}
  (E:∀h' s' v,RdV z q b k x (sR s).2 (tI b pb yi k x nx vs VS bs BS ts TS last s' (SS++ [v])) VS rv (SS++ [v]) (rz++ [(sR s).1]) h'→Upd (fun y=>y=b∨y=pb∨sb ss y) h h'→(∀y,sb s' y→sb ss y∨h.size≤y)→K () h'):
  HC PG oO [.pointer (some ⟨pb,0,none⟩),.pointer (some ⟨yi,0,none⟩)] [] K h:=by
 refine Hn _ _ ?_;unfold wJ cq bW cu cz px bZ IK Vd;refine⟨ss,R.r.cl 4 rfl 9,_,R.r.cl 5 rfl 0,_,R.r.cl 5 rfl 1,_,R.r.cl 5 rfl 2,_,R.r.cl 5 rfl 3,_,R.r.cl 5 rfl 4,KS R.r u I fun B v H o D=>?_⟩
 have R1:=R.go H o (fun y c=>.inl (.inl c)) fun y c=>.inl c
 have O:=o.size;refine⟨R1.r.cl 4 rfl 9,bO fun h2 b2 m=>?_⟩
 have R2:=R1.go (R1.r.up0 m) m (fun _ h=>h.elim) fun y c=>.inl c
 have N:=m.size;refine⟨R2.r.cl 4 rfl 9,R2.r.push (y:=v) 3 rfl b2 rfl rfl ⟨by decide,by decide⟩ (by omega) fun s' L F A n=>F.wr (p:=pb) (i:=9) 4 rfl (by simp) fun j t G=>?_⟩
 have J:=A.size;have w:Upd (fun y=>y=pb∨sb ss y) B j:=(m.wide.tr (A.mono fun y c=>.inl (.inr c))).tr (G.mono fun y c=>.inl (.inl c))
 have d:∀y,y=pb∨sb ss y→AL (tI b pb yi k x nx vs VS bs BS ts TS last ss SS) y:=fun y c=>c.elim (fun e=>⟨_,ak (i:=4) rfl,e⟩) fun e=>⟨_,ak (i:=3) rfl,e⟩
 have t:Rd q b (sR s).2 (tI b pb yi k x nx vs VS bs BS ts TS last s' (SS++ [v])) j:=t;have P:∀y,AL (tI b pb yi k x nx vs VS bs BS ts TS last s' (SS++ [v])) y→AL (tI b pb yi k x nx vs VS bs BS ts TS last ss SS) y∨h.size≤y:=by
  rintro y ⟨a,g,c⟩;simp only[au,dN,or_false]at g;rcases g with rfl|rfl|rfl|rfl|rfl|rfl
  ·exact .inl ⟨_,ak (i:=0) rfl,c⟩
  ·exact .inl ⟨_,ak (i:=1) rfl,c⟩
  ·exact .inl ⟨_,ak (i:=2) rfl,c⟩
  ·exact(n y c).elim (fun e=>.inl (d y (.inr e))) fun e=>.inr (by omega)
  ·exact .inl (d y (.inl c))
  ·exact .inl ⟨_,ak (i:=5) rfl,c⟩
 have f:∀y,AL (tI b pb yi k x nx vs VS bs BS ts TS last s' (SS++ [v])) y→AL (tI b pb yi k x nx vs VS bs BS ts TS last ss SS) y∨B.size≤y:=by
  rintro y ⟨a,g,c⟩;simp only[au,dN,or_false]at g;rcases g with rfl|rfl|rfl|rfl|rfl|rfl
  ·exact .inl ⟨_,ak (i:=0) rfl,c⟩
  ·exact .inl ⟨_,ak (i:=1) rfl,c⟩
  ·exact .inl ⟨_,ak (i:=2) rfl,c⟩
  ·exact(n y c).elim (fun e=>.inl (d y (.inr e))) fun e=>.inr (by omega)
  ·exact .inl (d y (.inl c))
  ·exact .inl ⟨_,ak (i:=5) rfl,c⟩
 have R4:=R1.go t w (fun y c=>.inl (.inr (d y c))) f
 refine E j s' v ?_ ?_ fun y c=>(n y c).imp id fun e=>by omega
 ·have lz:=R.lz
  have C:SesOk (fun y=>y<z∨y=b∨AL (tI b pb yi k x nx vs VS bs BS ts TS last s' (SS++ [v])) y) j k x v (sR s).1:=D.re w (fun y c=>.inl (R.r.o.al (d y c))) fun y c=>by
   rcases c with e|e|e
   ·exact .inl (by show y<h.size;omega)
   ·exact .inl (by show y<h.size;have:=R.r.lt;omega)
   ·exact(f y e).imp (fun e=>R.r.o.al e) id
  exact⟨R4.r,R4.v,R4.s.push C,R4.lz⟩
 ·exact(o.mono fun y c=>.inl (.inl c)).tr (w.mono fun y c=>.inl (.inr c))
end
end Go.Proofs
