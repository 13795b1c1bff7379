/- A part of the proof that the named laws of this program answer true, whatever the input. -/
import Derived.Test.YtajpljopgikpgaaGreatDoorPart10
open Int renaming tmod→ju,le_refl→pu
open List renaming mem_of_getElem?→ay,getElem?_eq_some_iff→aW,getElem?_of_mem→fL,getElem?_append→lm,length_singleton→aK,mem_append→bJ,mem_singleton→aq,map_nil→oe,mem_cons→au,not_mem_nil→js,length_cons→aN,getElem?_eq_getElem→af,getElem_mem→aP,drop_eq_getElem_cons→cU,drop_length→jt,mem_append_left→dG,getElem?_append_left→co,getElem?_append_right→cL,length_append→ae
open List.Pairwise renaming nil→fX
open Nat renaming lt_of_lt_of_le→bR,le_trans→ba,zero_le→aU,le_refl→ao
namespace Go.Proofs
open Go Go.Lift
theorem Wo.w0{A:Nat→Prop}{h:ad}{pb cb cap n:Nat}{ids:List Int}{a:Int}{x:Hs}{es:List Ed}(w:Wo A h pb cb cap ids a x n es){b:Nat}(d:h.size≤b):¬Un A cb es b:=fun c=>by have:=w.ult b c;omega
end Go.Proofs
namespace Go.Proofs
open Go Go.Lift
structure Sp where
 T:Nat→Prop
 Q:ad→Prop
 loc:∀{M:Nat→Prop} {h h':ad},Q h→Upd M h h'→(∀y,T y→¬M y)→Q h'
def fo(b:Nat)(cs:List Value)(t:TypeId):Sp:=⟨(· =b),fun h=>h[b]? =some (.cells cs.toArray t (0,0)),fun q k a=>k.get q (a _ rfl)⟩
def gl{α:Type}(f:α→List Value)(b:Nat)(ty:TypeId)(s:SliceV)(xs:List α):Sp:=⟨sb s,fun h=>OwnS f b ty (sb s) h s xs,fun q k a=>q.upd k a⟩
def AL(Ss:List Sp)(y:Nat):Prop:=∃s∈Ss,s.T y
structure Own(Ss:List Sp)(h:ad):Prop where
 q:∀s∈Ss,s.Q h
 lt:∀s∈Ss,∀y,s.T y→y<h.size
 pd:∀(i j:Nat) (a b:Sp),Ss[i]? =some a→Ss[j]? =some b→i≠j→∀y,a.T y→¬b.T y
section
variable {Ss:List Sp} {h h':ad} {M:Nat→Prop} {s s':Sp} {i:Nat}
theorem Own.get(o:Own Ss h)(hi:Ss[i]? =some s):s.Q h:=o.q s (ay hi)
theorem Own.away(o:Own Ss h)(k:Upd M h h')(hm:∀y,AL Ss y→¬M y):Own Ss h':=
 ⟨fun s a=>s.loc (o.q s a) k fun y b=>hm y ⟨s,a,b⟩,fun s a y b=>bR (o.lt s a y b) k.size,o.pd⟩
theorem Own.nil:Own [] h:=⟨(fun _ h=>by cases h),(fun _ h=>by cases h),(fun i j a b h=>by simp at h)⟩
theorem Own.set(o:Own Ss h)(hi:Ss[i]? =some s) (k:Upd M h h') (hm:∀y,M y→s.T y∨h.size≤y) (q:s'.Q h') (x:∀y,s'.T y→(s.T y∨h.size≤y)∧y<h'.size):Own (Ss.set i s') h':=by
 have z:i<Ss.length:=(aW.1 hi).1;have val:∀{j:Nat} {a:Sp},(Ss.set i s')[j]? =some a→(j=i∧a=s')∨(j≠i∧Ss[j]? =some a):=fun{j a} c=>by
  by_cases e:j=i
  ·subst e;rw[List.getElem?_set_self z]at c;cases c;exact .inl ⟨rfl,rfl⟩
  ·rw[List.getElem?_set_ne (Ne.symm e)]at c;exact .inr ⟨e,c⟩
 have one:∀{j:Nat} {a:Sp},j≠i→Ss[j]? =some a→∀y,a.T y→¬s'.T y:=fun{j a} f c y d h'=>
  (x y h').1.elim (o.pd j i a s c hi f y d) fun h=>by have:=o.lt a (ay c) y d;omega
 refine⟨fun a c=>?_,fun a c y d=>?_,fun p j a b c A m y d g=>?_⟩
 ·obtain⟨j,f⟩:=fL c
  rcases val f with⟨_,rfl⟩|⟨u,f⟩
  ·exact q
  ·refine a.loc (o.get f) k fun y d hM=>?_
   rcases hm y hM with h|h
   ·exact o.pd j i a s f hi u y d h
   ·have:=o.lt a (ay f) y d;omega
 ·obtain⟨j,f⟩:=fL c
  rcases val f with⟨_,rfl⟩|⟨u,f⟩
  ·exact(x y d).2
  ·exact bR (o.lt a (ay f) y d) k.size
 ·rcases val c with⟨n,rfl⟩|⟨n,v⟩<;>rcases val A with⟨t,rfl⟩|⟨t,w⟩
  ·exact m (n.trans t.symm)
  ·exact one t w y g d
  ·exact one n v y d g
  ·exact o.pd p j a b v w m y d g
theorem Own.push(o:Own Ss h)(k:Upd No h h')(q:s'.Q h')(g:∀y,s'.T y→h.size≤y∧y<h'.size):Own (Ss++ [s']) h':=by
 have val:∀{j:Nat} {a:Sp},(Ss++ [s'])[j]? =some a→(j=Ss.length∧a=s')∨Ss[j]? =some a:=fun{j a} c=>by
  rw[lm]at c;split at c
  ·exact .inr c
  ·have:j-Ss.length=0:=by have:=(aW.1 c).1;simp only[aK]at this;omega
   rw[this]at c;cases c;exact .inl ⟨by omega,rfl⟩
 have mem:∀{a},a∈Ss++ [s']→a∈Ss∨a=s':=fun h=>(bJ.1 h).imp id aq.1
 refine⟨fun a c=>?_,fun a c y e=>?_,fun p j a b c n f y e d=>?_⟩
 ·rcases mem c with c|rfl
  ·exact a.loc (o.q a c) k fun _ _ h=>h
  ·exact q
 ·rcases mem c with c|rfl
  ·exact bR (o.lt a c y e) k.size
  ·exact(g y e).2
 ·rcases val c with⟨s,rfl⟩|i<;>rcases val n with⟨t,rfl⟩|m
  ·omega
  ·have:=o.lt b (ay m) y d;have:=(g y e).1;omega
  ·have:=o.lt a (ay i) y e;have:=(g y d).1;omega
  ·exact o.pd p j a b i m f y e d
theorem Tc(hi:Ss[i]? =some s) {z:Nat} (e:∀y,s'.T y→s.T y∨z≤y):∀y,AL (Ss.set i s') y→AL Ss y∨z≤y:=fun y ⟨a,d,b⟩=>by
 rcases Gt d with rfl|⟨j,_,c⟩
 ·exact(e y b).imp (fun h=>⟨s,ay hi,h⟩) id
 ·exact .inl ⟨a,ay c,b⟩
end
structure Ws(Ss:List Sp)(h:ad)(pb cb cap:Nat)(ids:List Int)(kind:Int)(x:Hs)(n:Nat)(es:List Ed):Prop where
 own:Own Ss h
 wo:Wo (AL Ss) h pb cb cap ids kind x n es
section
variable {Ss:List Sp} {h h':ad} {pb cb cap n m:Nat} {ids ids':List Int} {kind:Int} {x:Hs} {es es':List Ed} {s s':Sp} {i:Nat} {M:Nat→Prop}
theorem Ws.up0(w:Ws Ss h pb cb cap ids kind x n es)(k:Upd No h h'):Ws Ss h' pb cb cap ids kind x n es:=⟨w.own.away k fun _ _ h=>h,w.wo.up0 k⟩
theorem Ws.set(w:Ws Ss h pb cb cap ids kind x n es)(hi:Ss[i]? =some s) (k:Upd M h h') (hm:∀y,M y→s.T y∨h.size≤y) (q:s'.Q h') (c:∀y,s'.T y→(s.T y∨h.size≤y)∧y<h'.size):Ws (Ss.set i s') h' pb cb cap ids kind x n es∧Mv (Un (AL Ss) cb es) h (Un (AL (Ss.set i s')) cb es) h':=by
 have o:=w.own.set hi k hm q c;have r:=w.wo.own (A':=AL (Ss.set i s')) k (fun y b=>(hm y b).imp (fun h=>⟨s,ay hi,h⟩) id) fun y b=>⟨Tc hi (fun y b=>(c y b).1) y b,let⟨a,d,b⟩:=b;o.lt a d y b⟩
 exact⟨⟨o,r.1⟩,r.2⟩
theorem Ws.push(w:Ws Ss h pb cb cap ids kind x n es)(k:Upd No h h')(q:s'.Q h')(d:∀y,s'.T y→h.size≤y∧y<h'.size):Ws (Ss++ [s']) h' pb cb cap ids kind x n es∧Mv (Un (AL Ss) cb es) h (Un (AL (Ss++ [s'])) cb es) h':=by
 have o:=w.own.push k q d;have r:=w.wo.own (A':=AL (Ss++ [s'])) k (fun _ h=>h.elim) fun y ⟨a,b,c⟩=>⟨?_,o.lt a b y c⟩
 ·exact⟨⟨o,r.1⟩,r.2⟩
 ·rcases bJ.1 b with b|b
  ·exact .inl ⟨a,b,c⟩
  ·rw[aq.1 b]at c;exact .inr (d y c).1
theorem Ws.cell(w:Ws Ss h pb cb cap ids kind x n es){b:Nat}{cs a:List Value}{t c:TypeId}(hi:Ss[i]? =some (fo b cs t)) (k:Upd (· =b) h h') (q:h'[b]? =some (.cells a.toArray c (0,0))):Ws (Ss.set i (fo b a c)) h' pb cb cap ids kind x n es∧Mv (Un (AL Ss) cb es) h (Un (AL (Ss.set i (fo b a c))) cb es) h':=
 w.set (s':=fo b a c) hi k (fun _ h=>.inl h) q fun y d=>⟨.inl d,(show y=b from d)▸aD q⟩
theorem Ws.slice(w:Ws Ss h pb cb cap ids kind x n es){α:Type}{f:α→List Value}{b:Nat}{ty:TypeId}{c a:SliceV}{xs ys:List α}(hi:Ss[i]? =some (gl f b ty c xs)) (k:Upd (sb c) h h') (q:OwnS f b ty (sb a) h' a ys) (d:∀y,sb a y→(sb c y∨h.size≤y)∧y<h'.size):Ws (Ss.set i (gl f b ty a ys)) h' pb cb cap ids kind x n es∧Mv (Un (AL Ss) cb es) h (Un (AL (Ss.set i (gl f b ty a ys))) cb es) h':=
 w.set (s':=gl f b ty a ys) hi k (fun _ h=>.inl h) q d
theorem Ws.ed(w:Ws Ss h pb cb cap ids kind x n es)(wo:Wo (AL Ss) h' pb cb cap ids' kind x m es')(k:Me (AL Ss) cb es h es' h'):Ws Ss h' pb cb cap ids' kind x m es':=⟨w.own.away k.2 fun _ a h=>h a,wo⟩
theorem Ws.mono(w:Ws Ss h pb cb cap ids kind x n es)(hm:n≤m):Ws Ss h pb cb cap ids kind x m es:=⟨w.own,w.wo.mono hm⟩
theorem Ws.unl(w:Ws Ss h pb cb cap ids kind x n es):∀y,Un (AL Ss) cb es y→y<h.size:=w.wo.ult
end
end Go.Proofs
namespace Go.Proofs
open Go Go.Lift
abbrev p1(a:Option Addr):List Value:= [.pointer a]
theorem Ry(a:Option Addr):(p1 a).length=1∧0<1:=⟨rfl,by omega⟩
structure Xd where
 b:Nat
 k:Nat
 ru:Rt
 fz:Bool
abbrev xL(r:Rt)(k:Nat)(fz:Bool):List Value:=mn r++ [.int .i64 (k:Int),.bool fz]
structure WC where
 wb:Nat
 rb:Nat
 pb:Nat
 cb:Nat
 cap:Nat
 N:Int
 kk:Int
 x:Hs
structure WG where
 sl:SliceV
 sm:SliceV
 se:SliceV
 sx:SliceV
 s1:SliceV
 s2:SliceV
 s3:SliceV
 lt:List Tr
 lr:List Rt
 le:List (Option Addr)
 lx:List (Option Addr)
 ids:List Int
 lv:List Bool
 is:List Int
 xs:List Xd
def SW(c:WC)(g:WG):List Sp:=fo c.wb (T2 g.sl g.sm g.se g.sx (pA c.pb) (pA c.rb)) pa::fo c.rb (Uj c.N g.s1 g.s2 g.s3) tF::gl je 6 aS g.sl g.lt::gl mn 5 bE g.sm g.lr::gl p1 1 r7 g.se g.le::gl p1 1 F3 g.sx g.lx::
 gl i1 1 nz g.s1 g.ids::gl UH 1 qm g.s2 g.lv::gl i1 1 nz g.s3 g.is::g.xs.map fun y=>fo y.b (xL y.ru y.k y.fz) Jp
abbrev WC.U(c:WC)(Ss:List Sp)(es:List Ed):Nat→Prop:=Un (AL Ss) c.cb es
def g0(b1 b2:Nat)(s1:SliceV)(t:Tr)(r:Rt)(n:Nat):WG:=⟨Ox b1,Ox b2,s0,s0,s1,s0,s0,[t],[r],[],[],MX n,[],[],[]⟩
theorem Made.ws{h p:ad}{kk:Int}{x:Hs}{n:Nat}{t:Tr}{r:Rt}{wb b1 b2 pb cb rb:Nat}{s1:SliceV}(md:Made h p kk x n t r wb b1 b2 pb cb rb s1):∃N,∀c,c=WC.mk wb rb pb cb n N kk x→
  Ws (SW c (g0 b1 b2 s1 t r n)) p pb cb n (MX n) kk x 0 []∧TreeIs (c.U (SW c (g0 b1 b2 s1 t r n)) []) p kk x t []∧RefIs (c.U (SW c (g0 b1 b2 s1 t r n)) []) p kk x r []∧Mv No h (c.U (SW c (g0 b1 b2 s1 t r n)) []) p:=by
 obtain⟨N,B⟩:=md.r4.bl;refine⟨N,fun c hc=>?_⟩
 subst hc;obtain⟨D,K,I,E,L,H,J,C⟩:=md.od;have A:∀y,AL (SW ⟨wb,rb,pb,cb,n,N,kk,x⟩ (g0 b1 b2 s1 t r n)) y→Td wb b1 b2 rb s1 y:=by
  rintro y ⟨s,q,f⟩;simp only[SW,g0,oe,au,js,or_false]at q;rcases q with rfl|rfl|rfl|rfl|rfl|rfl|rfl|rfl|rfl
  ·exact .inl f
  ·exact .inr (.inr (.inr (.inl f)))
  ·obtain⟨_,a,d,e⟩:=f;cases d;exact .inr (.inl e)
  ·obtain⟨_,a,d,e⟩:=f;cases d;exact .inr (.inr (.inl e))
  ·exact absurd f (qn y)
  ·exact absurd f (qn y)
  ·exact .inr (.inr (.inr (.inr f)))
  ·exact absurd f (qn y)
  ·exact absurd f (qn y)
 have g:=md.wo.own (A':=AL (SW ⟨wb,rb,pb,cb,n,N,kk,x⟩ (g0 b1 b2 s1 t r n))) (Upd.refl No p) (fun _ h=>h.elim) fun y f=>⟨.inl (A y f),md.wo.lt y (A y f)⟩
 have sl:∀{b y},sb (Ox b) y→y=b:=fun⟨_,a,d,e⟩=>by cases d;exact e
 have G:Own [] p:=Own.nil;have pd:∀(i j:Nat) (a b:Sp),(SW ⟨wb,rb,pb,cb,n,N,kk,x⟩ (g0 b1 b2 s1 t r n))[i]? =some a→(SW ⟨wb,rb,pb,cb,n,N,kk,x⟩ (g0 b1 b2 s1 t r n))[j]? =some b→i<j→∀y,a.T y→¬b.T y:=by
  intro i j a b d u z y f m;have hi:i<9:=by have:=(aW.1 d).1;exact this
  have F:j<9:=by have:=(aW.1 u).1;exact this
  have o:∀(i:Nat) (a:Sp),(SW ⟨wb,rb,pb,cb,n,N,kk,x⟩ (g0 b1 b2 s1 t r n))[i]? =some a→a.T y→(i=0∧y=wb)∨(i=1∧y=rb)∨(i=2∧y=b1)∨(i=3∧y=b2)∨(i=6∧rb<y):=fun i a d f=>by
   match i,d with
   |0,d=>cases d;exact .inl ⟨rfl,f⟩
   |1,d=>cases d;exact .inr (.inl ⟨rfl,f⟩)
   |2,d=>cases d;exact .inr (.inr (.inl ⟨rfl,sl f⟩))
   |3,d=>cases d;exact .inr (.inr (.inr (.inl ⟨rfl,sl f⟩)))
   |4,d=>cases d;exact absurd f (qn y)
   |5,d=>cases d;exact absurd f (qn y)
   |6,d=>cases d;exact .inr (.inr (.inr (.inr ⟨rfl,C y f⟩)))
   |7,d=>cases d;exact absurd f (qn y)
   |8,d=>cases d;exact absurd f (qn y)
   |k+9,d=>exact absurd d (by simp[SW,g0])
  rcases o i a d f with⟨h,e⟩|⟨h,e⟩|⟨h,e⟩|⟨h,e⟩|⟨h,e⟩<;>rcases o j b u m with⟨v,w⟩|⟨v,w⟩|⟨v,w⟩|⟨v,w⟩|⟨v,w⟩<;>omega
 refine⟨⟨⟨fun s q=>?_,fun s q y f=>md.wo.lt y (A y ⟨s,q,f⟩),fun i j a b d u z y f m=>?_⟩,g.1⟩,md.it.mv g.2,md.ir.mv g.2,md.mv.tr g.2⟩
 ·simp only[SW,g0,oe,au,js,or_false]at q
  rcases q with rfl|rfl|rfl|rfl|rfl|rfl|rfl|rfl|rfl
  ·exact md.cw
  ·exact B
  ·exact OwnS.one RV md.c1
  ·exact OwnS.one Sc md.c2
  ·exact OwnS.nil Ry
  ·exact OwnS.nil Ry
  ·exact md.r4.o1
  ·exact OwnS.nil PP
  ·exact OwnS.nil L8
 ·rcases Nat.lt_or_ge i j with h|h
  ·exact pd i j a b d u h y f m
  ·exact pd j i b a u d (by omega) y m f
end Go.Proofs
namespace Go.Proofs
open Go Go.Lift
theorem JR{h:ad}{pb cb cap:Nat}{ids:List Int}(p:PoolAt h pb cb cap ids){K:Int→ad→Prop}(b:K (IntKind.wrap .i64 ((cap:Int)-(ids.length:Int))) h):HC PG oI [.pointer (some ⟨pb,0,none⟩)] [.c (.int .i64)] K h:=by
 obtain⟨_,a,s,r,hc⟩:=p;refine AD _ ?_;unfold tc bQ;exact aj.2 ⟨_,rfl,_,vc a 0,cap,⟨_,_,_,_,_,hc,rfl⟩,_,rfl,_,vc a 0,ids.length,⟨_,_,_,_,_,hc,by simp⟩,b⟩
abbrev Sn:=Tr×Tr×List Pr
section
variable {h h1 h2 h3 h4:ad} {c:WC} {g:WG} {n:Nat} {ids ids':List Int} {vb:Nat} {sn wn sn' wn':SliceV} {e e':Ed} {tv tv':Tr} {zs zs':List Sn} {l1 l2:List Tr}
end
end Go.Proofs
namespace Go.Proofs
open Go Go.Lift
def iI:List Pr→List Pr→List Pr×Int
 |l,[]=>(l,0)
 |l,p::ps=>if yf p=0 then iI (l6 l p) ps else(l,yf p)
theorem LS:∀{ps l:List Pr} {n:Nat},(∀p∈ps,p.1.size≤5030∧p.2.size≤5030)→cu l→Fit l→l.length≤n→cu (iI l ps).1∧Fit (iI l ps).1∧(iI l ps).1.length≤n+ps.length
 | [],l,n,_,h1,h2,h3=>⟨h1,h2,h3⟩
 |p::ps,l,n,hp,h1,h2,h3=>by
  unfold iI;split
  ·have w:=Cg h1 h2 h3 (hp p (List.mem_cons_self ..))
   have r:=LS (ps:=ps) (fun q a=>hp q (List.mem_cons_of_mem _ a)) w.1 w.2.1 w.2.2
   exact⟨r.1,r.2.1,by rw[aN];omega⟩
  ·exact⟨h1,h2,ba h3 (Nat.le_add_right ..)⟩
abbrev Qx(s:ByteArray):List Value:= [.string s]
theorem Sa(s:ByteArray):(Qx s).length=1∧0<1:=⟨rfl,by omega⟩
theorem Ra{l:List Pr}{k:ByteArray}(h:k.size≤256):BK l k=0∨BK l k=4:=by
 unfold BK;rw[if_neg (by omega)];split
 ·exact .inl rfl
 ·exact .inr rfl
set_option maxHeartbeats 1000000 in
theorem Il{A W:Nat→Prop}{h:ad}{pb cb cap n:Nat}{j:Int}{ids:List Int}{B:Int}{x:Hs}{t:Tr}{l b:List Pr}{d:List ByteArray}{s u:SliceV}(w:Wo A h pb cb cap (j::ids) B x n [])(i:TreeIs (Un A cb []) h B x t l)(up:cu l)(fit:Fit l)(len:l.length≤n)(hn:n+b.length+d.length≤900)
  (hs:Sl fP 2 W h s b)(hu:Sl Qx 1 W h u d)(hW:∀y,Un A cb [] y→W y)(hp:∀p∈b,p.1.size≤5030∧p.2.size≤5030)(hd:∀k∈d,k.size≤256){K:Tr×Int→ad→Prop}
  (hk:∀C v e,Wo A C pb cb cap (ids++ [j]) B x (n+b.length+d.length) [e]→Mv (Un A cb []) h (Un A cb [e]) C→((iI l b).2=0→TreeIs (Un A cb [e]) C B x v (d.foldl jH (iI l b).1))→Upd (fun y=>¬A y) h C→K (v,(iI l b).2) C):
  HC PG ue [.pointer (some ⟨pb,0,none⟩),LK t,.slice s.a s.len s.cap,.slice u.a u.len u.cap] RW K h:=by
 refine Lj _ t s u ?_;unfold DY bQ dK bo mu ag bN fE bM aB eO nv mo jw BE qX sK uO BC aJ BU;refine aO fun T b1 k1=>aO fun h2 b2 k2=>?_
 have z1:=aD b1;have z2:=aD b2;have s1:=k1.size;have c1:=k2.get0 b1;have k02:=k1.tr k2;have hsl:=hs.len;have hul:=hu.len;refine⟨_,vc c1 0,_,vc c1 1,_,vc c1 2,_,vc c1 3,_,vc c1 4,_,vc c1 5,?_⟩;have nA:¬A T.size:=fun hA=>by have:=w.lt _ hA;omega
 have o2:=w.own (A':=fun y=>A y∨y=T.size) k02 (fun _ h=>h.elim) fun y q=>q.elim (fun q=>⟨.inl q,by have:=w.lt y q;omega⟩) fun q=>⟨.inr (by omega),by omega⟩
 generalize eA:(fun y=>A y∨y=T.size)=A2 at o2
 have hx:A2 T.size:=by rw[←eA];exact .inr rfl
 have sub:∀y,A y→A2 y:=fun y q=>by rw[←eA];exact .inl q
 refine Qk o2.1 rfl (i.mv o2.2) up fit len fun h10 eb tb w10 m10=>aj.2 ?_
 have mv10:=o2.2.tr m10.1;have ku10:Upd (fun y=>¬A y) h h10:=k02.wide.tr (m10.2.mono fun y q=>.inl fun h=>q (sub y h))
 have r10:=m10.2.get b2 fun h=>h hx
 have done:∀{C Z:ad} {e:Ed} {m:Nat} {v:Tr} {er:Int},Wo A2 C pb cb cap ids B x m [e]→m≤n+b.length+d.length→e.eb=eb→e.lv=true→e.ti=j→Mv (Un A cb []) h (Un A2 cb [e]) C→Upd (fun y=>¬A y) h C→Z[T.size]? =some (.cells (je v).toArray aS (0,0))→Upd (· =T.size) C Z→er=(iI l b).2→
   ((iI l b).2=0→v=e.tu∧e.lu=d.foldl jH (iI l b).1)→∀Q:ad→Prop,(∀D,D[T.size]? =some (.cells (je v).toArray aS (0,0))→K (v,er) D→Q D)→HD PG eH [.pointer (some ⟨eb,0,none⟩)] Q Z:=by
  intro C Z e m v er w' hm F H N mv ku b'' u'' her hv Q hQ;have o:=w'.own (A':=A2) u'' (fun y q=>.inl (by rw[show y=T.size from q];exact hx)) fun y q=>⟨.inl q,by have:=w'.lt y q;have:=u''.size;omega⟩
  rw[←F];refine wC _ (MB (i:=0) o.1 rfl H fun D w31 m31 i31=>?_)
  have z:=m31.2.get b'' fun h=>h hx
  have sh:=w31.own (A':=A) (Upd.refl No D) (fun _ h=>h.elim) fun y q=>⟨.inl (sub y q),w31.lt y (sub y q)⟩
  refine hQ D z ?_;subst her;refine hk D v {e with lv:=false,S:=No} (by rw[←N];exact sh.1.mono hm) (((mv.tr o.2).tr m31.1).tr sh.2) (fun h0=>?_) ((ku.tr (u''.mono fun y q=>.inl (by rw[show y=T.size from q];exact nA))).tr (m31.2.mono fun y q=>.inl fun h=>q (sub y h)))
  obtain⟨hv1,hv2⟩:=hv h0;rw[hv1,←hv2];exact i31.mv sh.2
 refine LoopP.ghost (fun(g:Nat×Ed) (t':Int) C=>t'=(g.1:Int)∧g.1≤b.length∧g.2.eb=eb∧g.2.lv=true∧g.2.ti=j∧iI l b=iI g.2.lu (b.drop g.1)∧Wo A2 C pb cb cap ids B x (n+g.1) [g.2]∧Mv (Un A cb []) h (Un A2 cb [g.2]) C∧Upd (fun y=>¬A y) h C∧C[T.size]? =some (.cells (je wM).toArray aS (0,0))) (fun g=>b.length-g.1) (0,⟨eb,tb,j,true,t,l,No⟩) ⟨rfl,aU _,rfl,rfl,rfl,by simp,w10,mv10,ku10,r10⟩ ?_
 rintro I ⟨i,e⟩ _ h20 ⟨rfl,hi,F,H,N,f,w20,L,X,r20⟩ hI;simp only at hi F H N f w20 L X r20 hI⊢;have u20:Upd W h h20:=L.1.mono fun y q=>.inl (hW y q)
 refine aG (fun E=>?_) fun hge=>?_
 ·have E:i<b.length:=by omega
  obtain⟨a,hav,_,hv⟩:=(hs.upd u20 fun y q=>.inl q).at (af E)
  refine⟨⟨by omega,by omega⟩,a,hav,_,hv 0 _ rfl,_,hv 1 _ rfl,JZ (p:=b[i]) fun h25 b25 k25=>?_⟩
  have hpi:=hp b[i] (aP E);have hdr:b.drop i=b[i]::b.drop (i+1):=cU E;rw[hdr]at f;generalize b[i]=p at b25 hpi f;rw[←F];refine⟨_,vc b25 0,_,vc b25 1,Tn (i:=0) (w20.up0 k25) rfl H (by omega) p hpi fun h29 tu' S' w29 m29=>?_⟩
  have r29:=m29.2.get (k25.get0 r20) fun h=>h hx
  have mv29:=(L.up0 k25).tr m29.1;have ku29:Upd (fun y=>¬A y) h h29:=(X.tr k25.wide).tr (m29.2.mono fun y q=>.inl fun h=>q (sub y h))
  simp only[iI]at f;refine CondP.intro (fun hc=>?_) fun hc=>?_
  ·have hc:¬yf p=0:=by simpa using hc
   rw[if_neg hc]at f;refine dd (c:=je wM) (vs:=je wM) r29 rfl fun h30 b30 u30=>?_
   rw[F];exact done w29 (by omega) F H N mv29 ku29 b30 u30 (by rw[f]) (fun h0=>by rw[f]at h0;exact absurd h0 hc) _ fun D z hK=>⟨_,vc z 0,_,vc z 1,_,vc z 2,_,vc z 3,_,vc z 4,_,vc z 5,hK⟩
  ·have hc:yf p=0:=by simpa using hc
   rw[if_pos hc]at f;rw[show IntKind.wrap .i64 ((i:Int)+1)=((i+1:Nat):Int) by rw[oq (by omega)];omega]
   exact hI (i+1,{e with tu:=tu',lu:=l6 e.lu p,S:=S'}) _ _ ⟨rfl,by omega,F,H,N,f,w29,mv29,ku29,r29⟩ (by show b.length-(i+1)<b.length-i;omega)
 have hip:i=b.length:=by omega
 rw[hip,jt]at f;have f:iI l b=(e.lu,0):=f;refine LoopP.ghost (fun(g:Nat×Ed) (t':Int) C=>t'=(g.1:Int)∧g.1≤d.length∧g.2.eb=eb∧g.2.lv=true∧g.2.ti=j∧d.foldl jH e.lu=(d.drop g.1).foldl jH g.2.lu∧Wo A2 C pb cb cap ids B x (n+b.length+g.1) [g.2]∧Mv (Un A cb []) h (Un A2 cb [g.2]) C∧Upd (fun y=>¬A y) h C∧C[T.size]? =some (.cells (je wM).toArray aS (0,0))) (fun g=>d.length-g.1) (0,e) ⟨rfl,aU _,F,H,N,by simp,hip▸w20,L,X,r20⟩ ?_
 rintro I2 ⟨P,e2⟩ _ h40 ⟨rfl,hi2,G,M,R,O,Y,J,V,r40⟩ hI2;simp only at hi2 G M R O Y J V r40 hI2⊢;have u40:Upd W h h40:=J.1.mono fun y q=>.inl (hW y q)
 refine aG (fun E=>?_) fun hge=>?_
 ·have E:P<d.length:=by omega
  obtain⟨a,hav,_,hv⟩:=(hu.upd u40 fun y q=>.inl q).at0 (af E)
  refine⟨⟨by omega,by omega⟩,a,hav,_,hv,?_⟩
  have hdi:=hd d[P] (aP E);have hdr:d.drop P=d[P]::d.drop (P+1):=cU E;rw[hdr,List.foldl_cons]at O;generalize d[P]=key at hdi O;rw[←G];refine RI (i:=0) Y rfl M (by omega) key fun h44 tu' S' w44 m44=>?_
  have r44:=m44.2.get r40 fun h=>h hx
  have ku44:Upd (fun y=>¬A y) h h44:=V.tr (m44.2.mono fun y q=>.inl fun h=>q (sub y h))
  have next:=hI2 (P+1,{e2 with tu:=tu',lu:=jH e2.lu key,S:=S'}) ((P+1:Nat):Int) h44 ⟨rfl,by omega,G,M,R,O,w44,J.tr m44.1,ku44,r44⟩ (by show d.length-(P+1)<d.length-P;omega)
  refine Join.plain ?_;rw[show IntKind.wrap .i64 ((P:Int)+1)=((P+1:Nat):Int) by rw[oq (by omega)];omega]
  rcases Ra (l:=e2.lu) hdi with he|he
  ·rw[he]
   exact aj.2 (aj.2 next)
  ·rw[he]
   exact aA.2 (aj.2 next)
 ·have hid:P=d.length:=by omega
  rw[hid,jt]at O;have ed:=(Y.ew e2 (aq.2 rfl)).ed;rw[G]at ed;refine⟨_,rfl,_,fu ed 2 0,_,fu ed 2 1,_,fu ed 2 2,_,fu ed 2 3,_,fu ed 2 4,_,fu ed 2 5,?_⟩;refine dd (c:=je wM) (vs:=je e2.tu) r40 rfl fun h63 b63 u63=>?_
  exact done Y (by omega) G M R J V b63 u63 (by rw[f]) (fun _=>⟨rfl,by rw[f];exact O.symm⟩) _ fun D z hK=>⟨_,vc z 0,_,vc z 1,_,vc z 2,_,vc z 3,_,vc z 4,_,vc z 5,hK⟩
end Go.Proofs
namespace Go.Proofs
open Go Go.Lift
section
variable {Ss:List Sp} {h h':ad} {pb cb cap n:Nat} {ids:List Int} {kind:Int} {x:Hs} {es:List Ed} {s:Sp}
theorem Ws.drop(w:Ws (Ss++ [s]) h pb cb cap ids kind x n es):Ws Ss h pb cb cap ids kind x n es∧Mv (Un (AL (Ss++ [s])) cb es) h (Un (AL Ss) cb es) h:=by
 have o:Own Ss h:=⟨fun a c=>w.own.q a (dG _ c),fun a c=>w.own.lt a (dG _ c),fun i j a b c d=>w.own.pd i j a b (by rw[co (aW.1 c).1];exact c) (by rw[co (aW.1 d).1];exact d)⟩
 have r:=w.wo.own (A':=AL Ss) (Upd.refl No h) (fun _ h=>h.elim) fun y ⟨a,c,e⟩=>⟨.inl ⟨a,dG _ c,e⟩,o.lt a c y e⟩
 exact⟨⟨o,r.1⟩,r.2⟩
theorem Ws.sl{α:Type}{f:α→List Value}{d:Nat}{ty:TypeId}{c:SliceV}{xs:List α}(w:Ws (Ss++ [gl f d ty c xs]) h pb cb cap ids kind x n []):Sl f d (Un (AL Ss) cb []) h c xs:=by
 have o:OwnS f d ty (sb c) h c xs:=w.own.get (i:=Ss.length) (s:=gl f d ty c xs) (by simp);refine o.sl fun b j _ k=>?_
 rcases k with⟨a,m,g⟩|g|⟨e,q,_⟩
 ·obtain⟨i,hi⟩:=fL m
  have p:=(aW.1 hi).1;exact w.own.pd i Ss.length a (gl f d ty c xs) (by rw[co p];exact hi) (by simp) (by omega) b g j
 ·exact w.wo.ac (g▸⟨gl f d ty c xs,List.mem_append_right _ (aq.2 rfl),j⟩)
 ·cases q
end
theorem zW{p:Pr}:∀{ps l:List Pr},iI l (ps++ [p])=if(iI l ps).2=0 then(l6 (iI l ps).1 p,yf p)else iI l ps
 | [],l=>by
  simp only[List.nil_append,iI,if_true];split
  ·rename_i h;rw[h]
  ·rename_i h;unfold l6;rw[if_neg h]
 |q::ps,l=>by
  simp only[List.cons_append,iI];split
  ·exact zW
  ·rfl
def RS(P:List Sp)(tb:Nat)(t:Tr)(a:Nat)(r:Rt)(Q:List Sp):List Sp:=P++fo tb (je t) aS::fo a (mn r) bE::Q
section
variable {P Q:List Sp} {tb xb:Nat} {t t':Tr} {r r':Rt}
theorem RS.a9(a:P.length=9):(RS P tb t xb r Q)[9]? =some (fo tb (je t) aS):=by simp[RS,a]
theorem RS.a10(a:P.length=9):(RS P tb t xb r Q)[10]? =some (fo xb (mn r) bE):=by
 unfold RS;rw[cL (by omega),a];rfl
theorem RS.aQ(a:P.length=9){k:Nat}:(RS P tb t xb r Q)[k+11]? =Q[k]?:=by
 unfold RS;rw[cL (by omega),a,show k+11-9=k+1+1 by omega]
 rfl
theorem RS.s9(a:P.length=9):(RS P tb t xb r Q).set 9 (fo tb (je t') aS)=RS P tb t' xb r Q:=by simp[RS,a]
theorem RS.s10(a:P.length=9):(RS P tb t xb r Q).set 10 (fo xb (mn r') bE)=RS P tb t xb r' Q:=by simp[RS,a]
theorem RS.sQ(a:P.length=9){k:Nat}{s:Sp}:(RS P tb t xb r Q).set (k+11) s=RS P tb t xb r (Q.set k s):=by
 unfold RS;rw[List.set_append_right _ _ (by omega),a,show k+11-9=k+1+1 by omega]
 rfl
end
structure RSt(h:ad)(P:List Sp)(pb cb:Nat)(kk:Int)(x:Hs)(n:Nat)(h':ad)(tb:Nat)(t:Tr)(xb:Nat)(r:Rt)(l:List Pr)(Q:List Sp):Prop where
 ws:Ws (RS P tb t xb r Q) h' pb cb 1 [1] kk x n []
 it:TreeIs (Un (AL (RS P tb t xb r Q)) cb []) h' kk x t l
 jr:RefIs (Un (AL (RS P tb t xb r Q)) cb []) h' kk x r l
 up:cu l
 fit:Fit l
 len:l.length≤n
 mv:Mv No h (Un (AL (RS P tb t xb r Q)) cb []) h'
section
variable {h h1 h2:ad} {P Q Q':List Sp} {pb cb n m tb xb:Nat} {kk:Int} {x:Hs} {t t':Tr} {r r':Rt} {l l':List Pr}
theorem RSt.up0(s:RSt h P pb cb kk x n h1 tb t xb r l Q)(k:Upd No h1 h2):RSt h P pb cb kk x n h2 tb t xb r l Q:=⟨s.ws.up0 k,s.it.upd0 k,s.jr.upd0 k,s.up,s.fit,s.len,s.mv.up0 k⟩
theorem RSt.to(s:RSt h P pb cb kk x n h1 tb t xb r l Q)(w:Ws (RS P tb t xb r Q') h2 pb cb 1 [1] kk x m [])(k:Mv (Un (AL (RS P tb t xb r Q)) cb []) h1 (Un (AL (RS P tb t xb r Q')) cb []) h2)(hm:n≤m):RSt h P pb cb kk x m h2 tb t xb r l Q':=
 ⟨w,s.it.mv k,s.jr.mv k,s.up,s.fit,ba s.len hm,s.mv.tr k⟩
theorem RSt.ct(s:RSt h P pb cb kk x n h1 tb t xb r l Q)(a:P.length=9):h1[tb]? =some (.cells (je t).toArray aS (0,0)):=s.ws.own.get (RS.a9 a)
theorem RSt.cx(s:RSt h P pb cb kk x n h1 tb t xb r l Q)(a:P.length=9):h1[xb]? =some (.cells (mn r).toArray bE (0,0)):=s.ws.own.get (RS.a10 a)
end
end Go.Proofs
namespace Go.Proofs
open Go Go.Lift
theorem Own.app{Ss Q:List Sp}{h m:ad}(o:Own Ss h)(k:Upd No h m)(q:Own Q m)(p:∀y,AL Q y→h.size≤y):Own (Ss++Q) m:=by
 have val:∀{j:Nat} {a:Sp},(Ss++Q)[j]? =some a→(j<Ss.length∧Ss[j]? =some a)∨(Ss.length≤j∧Q[j-Ss.length]? =some a):=fun{j a} c=>by
  rw[lm]at c;split at c
  ·rename_i hl
   exact .inl ⟨hl,c⟩
  ·exact .inr ⟨by omega,c⟩
 refine⟨fun a c=>?_,fun a c y e=>?_,fun i j a b c t n y e d=>?_⟩
 ·rcases bJ.1 c with c|c
  ·exact a.loc (o.q a c) k fun _ _ h=>h
  ·exact q.q a c
 ·rcases bJ.1 c with c|c
  ·exact bR (o.lt a c y e) k.size
  ·exact q.lt a c y e
 ·rcases val c with⟨u,g⟩|⟨u,g⟩<;>rcases val t with⟨s,f⟩|⟨s,f⟩
  ·exact o.pd i j a b g f n y e d
  ·have:=o.lt a (ay g) y e;have:=p y ⟨b,ay f,d⟩;omega
  ·have:=o.lt b (ay f) y d;have:=p y ⟨a,ay g,e⟩;omega
  ·exact q.pd _ _ a b g f (by omega) y e d
theorem Ws.app{Ss Q:List Sp}{h d:ad}{pb cb cap n:Nat}{ids:List Int}{b:Int}{x:Hs}{es:List Ed}(w:Ws Ss h pb cb cap ids b x n es)(k:Upd No h d)(q:Own Q d)(f:∀y,AL Q y→h.size≤y):Ws (Ss++Q) d pb cb cap ids b x n es∧Mv (Un (AL Ss) cb es) h (Un (AL (Ss++Q)) cb es) d:=by
 have o:=w.own.app k q f;have r:=w.wo.own (A':=AL (Ss++Q)) k (fun _ h=>h.elim) fun y ⟨a,c,e⟩=>⟨(bJ.1 c).imp (fun c=>⟨a,c,e⟩) fun c=>f y ⟨a,c,e⟩,o.lt a c y e⟩
 exact⟨⟨o,r.1⟩,r.2⟩
theorem Own.two{b1 b2:Nat}{c1 c2:List Value}{p m:TypeId}{h:ad}(n:h[b1]? =some (.cells c1.toArray p (0,0))) (o:h[b2]? =some (.cells c2.toArray m (0,0))) (f:b1≠b2):Own [fo b1 c1 p,fo b2 c2 m] h:=by
 refine⟨fun a c=>?_,fun a c y e=>?_,fun i j a b c d g y e k=>?_⟩
 ·simp only[au,js,or_false]at c
  rcases c with rfl|rfl
  ·exact n
  ·exact o
 ·simp only[au,js,or_false]at c
  rcases c with rfl|rfl
  ·have e:y=b1:=e;have:=aD n;omega
  ·have e:y=b2:=e;have:=aD o;omega
 ·match i,j,c,d with
  |0,0,_,_=>exact g rfl
  |0,1,c,d=>cases c;cases d;exact f (e.symm.trans k)
  |1,0,c,d=>cases c;cases d;exact f (k.symm.trans e)
  |1,1,_,_=>exact g rfl
  |i+2,j,c,_=>simp at c
  |0,j+2,_,d=>simp at d
  |1,j+2,_,d=>simp at d
theorem _root_.Go.Lift.Sl.mv{α:Type}{f:α→List Value}{b:Nat}{U d:Nat→Prop}{h c:ad}{s:SliceV}{xs:List α}(o:Sl f b U h s xs)(m:Mv U h d c):Sl f b d c s xs:=
 ((o.less (W':=fun y=>U y∨h.size≤y) fun _ h=>h).upd m.1 fun _ a=>.inl (.inl a)).less fun y a=>.inl (m.2 y a)
theorem Ws.last{Ss:List Sp}{h d:ad}{pb cb cap n:Nat}{ids:List Int}{c:Int}{x:Hs}{es:List Ed}{b:Nat}{cs a:List Value}{t:TypeId}(w:Ws (Ss++ [fo b cs t]) h pb cb cap ids c x n es)(u:Upd (· =b) h d)(q:d[b]? =some (.cells a.toArray t (0,0))):Ws (Ss++ [fo b a t]) d pb cb cap ids c x n es∧Mv (Un (AL (Ss++ [fo b cs t])) cb es) h (Un (AL (Ss++ [fo b a t])) cb es) d:=by
 have r:=w.cell (i:=Ss.length) (b:=b) (cs:=cs) (t:=t) (by simp) u q;rw[show(Ss++ [fo b cs t]).set Ss.length (fo b a t)=Ss++ [fo b a t] by simp]at r
 exact r
abbrev Q3(a:Nat)(d:Rt)(b:SliceV)(out:List Pr)(c:SliceV)(gd:List ByteArray):List Sp:= [fo a (mn d) bE,gl fP 2 aw b out,gl Qx 1 ql c gd]
theorem C6:∀{gd:List ByteArray} {l:List Pr},cu l→Fit l→cu (gd.foldl jH l)∧Fit (gd.foldl jH l)∧(gd.foldl jH l).length≤l.length+gd.length
 | [],l,h1,h2=>⟨h1,h2,ao _⟩
 |k::gd,l,h1,h2=>by
  have g:=Ib (k:=k) h1 h2 (ao _);have r:=C6 (gd:=gd) g.1 g.2.1;exact⟨r.1,r.2.1,by rw[aN];exact ba r.2.2 (by have:=g.2.2;omega)⟩
set_option maxRecDepth 100000 in
set_option maxHeartbeats 8000000 in
theorem Ik{h:ad}{k kx:Int}{x:Hs}{s s2 s3:SliceV}{l l2:List Pr}{l3:List ByteArray}(tab:Tab h)(hs:Sl fP 2 No h s l)(hl:l.length≤9223372036854775807)(hs2:Sl fP 2 No h s2 l2)(hl2:l2.length≤9223372036854775807)(hs3:Sl Qx 1 No h s3 l3)(hl3:l3.length≤9223372036854775807)(hk0:0≤k)(hk1:k≤255)(hx0:0≤kx)(hx1:kx≤65535):
  HC PG vx [.int .u8 k,.agg #[.int .u64 x.k0,.int .u64 x.k1,.int .u64 x.mask],.slice s.a s.len s.cap,.slice s2.a s2.len s2.cap,.slice s3.a s3.len s3.cap,.int .u16 kx] [.c .bool] (fun b S=>b=true∧Upd No h S) h:=by
 refine DD k (x.k0,x.k1,x.mask) s s2 s3 kx ?_;unfold vJ bQ dK bo mu ag bN fE bM aB eD bD eO D5 cV nv Ae vM mo jw Qn BE qX sK Ro JV LA Jk uO BC;have hkk:=TL hk0 hk1;generalize e0:IntKind.wrap .i64 (ju k 2)=kk at hkk;have h300:ju (IntKind.wrap .i64 kx) 300≤5000:=by
  rw[oq (by omega),Int.tmod_eq_emod_of_nonneg hx0];omega
 refine aO fun h1 b1 k1=>KQ fun h3 k3=>aj.2 ?_
 have c3:=k3.get0 b1;refine⟨_,vc c3 0,_,vc c3 1,_,vc c3 2,Nk (x:=x) (n:=0) (c:=1) hkk e0 rfl (ao _) (by omega) fun h8 t r wb b1' b2' pb cb rb s1 md=>?_⟩
 have k03:=k1.tr k3;obtain⟨N,hN⟩:=md.ws;obtain⟨ws,it,jr,mv8⟩:=hN _ rfl;have mv8:Mv No h (Un (AL (SW (WC.mk wb rb pb cb 1 N kk x) (g0 b1' b2' s1 t r 1))) cb []) h8:=⟨k03.tr mv8.1,fun y W=>(mv8.2 y W).imp id fun h=>ba k03.size h⟩
 have ws:Ws (SW (WC.mk wb rb pb cb 1 N kk x) (g0 b1' b2' s1 t r 1)) h8 pb cb 1 [1] kk x 0 []:=ws;have it:TreeIs (Un (AL (SW (WC.mk wb rb pb cb 1 N kk x) (g0 b1' b2' s1 t r 1))) cb []) h8 kk x t []:=it;have jr:RefIs (Un (AL (SW (WC.mk wb rb pb cb 1 N kk x) (g0 b1' b2' s1 t r 1))) cb []) h8 kk x r []:=jr;have C:(SW (WC.mk wb rb pb cb 1 N kk x) (g0 b1' b2' s1 t r 1)).length=9:=rfl;have hw:∀{S tb t' m r' Q},Own (RS (SW (WC.mk wb rb pb cb 1 N kk x) (g0 b1' b2' s1 t r 1)) tb t' m r' Q) S→S[wb]? =some (.cells (T2 (Ox b1') (Ox b2') s0 s0 (pA pb) (pA rb)).toArray pa (0,0)):=fun o=>o.get (i:=0) rfl
 generalize SW (WC.mk wb rb pb cb 1 N kk x) (g0 b1' b2' s1 t r 1)=P at ws it jr mv8 C hw;have cw:=md.cw;have c1:=md.c1;have c2:=md.c2;refine Join.intro (fun t' S=>∃tb m,t'=(⟨tb,0,none⟩,⟨m,0,none⟩)∧RSt h P pb cb kk x 0 S tb t m r [] []) (fun R hR=>?_) ?_
 ·have fin:∀{h1 h2 h3:ad} {tb m:Nat},Upd No h8 h1→h8.size≤tb→h8.size≤m→tb≠m→Upd (· =tb) h1 h2→Upd (· =m) h2 h3→h3[tb]? =some (.cells (je t).toArray aS (0,0))→h3[m]? =some (.cells (mn r).toArray bE (0,0))→RSt h P pb cb kk x 0 h3 tb t m r [] []:=by
   intro h1 h2 h3 tb m ka g1 g2 hne u2 u3 d1 d2;have kn:Upd No h8 h3:=(ka.own u2 g1).own u3 g2;have p1:=ws.app kn (Own.two d1 d2 hne) fun y ⟨a,ha,W⟩=>by
    simp only[au,js,or_false]at ha;rcases ha with rfl|rfl
    ·have W:y=tb:=W;omega
    ·have W:y=m:=W;omega
   exact⟨p1.1,it.mv p1.2,jr.mv p1.2,fX,fun p hp=>by(cases hp),ao _,mv8.tr p1.2⟩
  refine⟨_,rfl,Ox b1',vc cw 0,⟨pu _,Int.zero_lt_one⟩,_,rfl,_,fu c1 0 0,_,fu c1 0 1,_,fu c1 0 2,_,fu c1 0 3,_,fu c1 0 4,_,fu c1 0 5,_,rfl,Ox b2',vc cw 1,⟨pu _,Int.zero_lt_one⟩,_,rfl,_,fu c2 0 0,_,fu c2 0 1,_,fu c2 0 2,_,fu c2 0 3,r.2.2.2.2,fu c2 0 4,?_,?_⟩
  ·refine aO fun h71 d71 k71=>?_
   have z71:=aD d71;have A:=k71.get0 c1;have u:=k71.get0 c2;have ew:=k71.get0 cw;refine⟨⟨fu u 0 0,fu u 0 1,fu u 0 2,fu u 0 3,fu u 0 4⟩,vc ew 1,⟨fu A 0 0,fu A 0 1,fu A 0 2,fu A 0 3,fu A 0 4,fu A 0 5⟩,vc ew 0,aO fun h72 d72 k72=>?_⟩
   have z72:=aD d72;have A:=k72.get0 A;have u:=k72.get0 u;have ew:=k72.get0 ew;have zb1:=aD c1;have zb2:=aD c2;have zw:=aD cw;refine⟨⟨fu u 0 0,fu u 0 1,fu u 0 2,fu u 0 3,fu u 0 4⟩,vc ew 1,⟨fu A 0 0,fu A 0 1,fu A 0 2,fu A 0 3,fu A 0 4,fu A 0 5⟩,vc ew 0,?_⟩;refine dd (c:=je wM) (vs:=je t) (k72.get0 d71) rfl fun h73 d73 u73=>?_
   have u:=u73.oth u (by omega);have ew:=u73.oth ew (by omega);refine⟨⟨fu u 0 0,fu u 0 1,fu u 0 2,fu u 0 3,fu u 0 4⟩,vc ew 1,?_⟩;refine dd (c:=mn N0) (vs:=mn r) (u73.oth d72 (by omega)) rfl fun h74 d74 u74=>?_
   exact hR _ _ ⟨h8.size,h71.size,rfl,fin (k71.tr k72) (ao _) (by omega) (by omega) u73 u74 (u74.oth d73 (by omega)) d74⟩
  ·refine aO fun h75 d75 k75=>?_
   have z75:=aD d75;have A:=k75.get0 c1;have u:=k75.get0 c2;have ew:=k75.get0 cw;refine⟨⟨fu u 0 0,fu u 0 1,fu u 0 2,fu u 0 3,fu u 0 4⟩,vc ew 1,⟨fu A 0 0,fu A 0 1,fu A 0 2,fu A 0 3,fu A 0 4,fu A 0 5⟩,vc ew 0,aO fun h76 d76 k76=>?_⟩
   have z76:=aD d76;have A:=k76.get0 A;have u:=k76.get0 u;have ew:=k76.get0 ew;have zb1:=aD c1;have zb2:=aD c2;have zw:=aD cw;refine⟨⟨fu u 0 0,fu u 0 1,fu u 0 2,fu u 0 3,fu u 0 4⟩,vc ew 1,⟨fu A 0 0,fu A 0 1,fu A 0 2,fu A 0 3,fu A 0 4,fu A 0 5⟩,vc ew 0,?_⟩;refine dd (c:=je wM) (vs:=je t) d76 rfl fun h77 d77 u77=>?_
   have s75:=k75.size;have u:=u77.oth u (by omega);have ew:=u77.oth ew (by omega);refine⟨⟨fu u 0 0,fu u 0 1,fu u 0 2,fu u 0 3,fu u 0 4⟩,vc ew 1,?_⟩;refine dd (c:=mn N0) (vs:=mn r) (u77.oth (k76.get0 d75) (by omega)) rfl fun h78 d78 u78=>?_
   exact hR _ _ ⟨h75.size,h8.size,rfl,fin (k75.tr k76) (by omega) (ao _) (by omega) u77 u78 (u78.oth d77 (by omega)) d78⟩
 rintro _ h80 ⟨tb,m,rfl,st80⟩;have hsl:=hs.len;refine LoopP.ghost (fun(g:Nat×Tr×Rt×List Pr) (t':Int) S=>t'=(g.1:Int)∧g.1≤l.length∧RSt h P pb cb kk x (min g.1 20) S tb g.2.1 m g.2.2.1 g.2.2.2 []) (fun g=>l.length-g.1) (0,t,r,[]) ⟨rfl,aU _,st80⟩ ?_
 rintro I ⟨i,t,r,lu⟩ _ d ⟨rfl,hil,B⟩ hI;simp only at hil B hI⊢;refine aG (fun T=>?_) fun hge=>?_
 ·have T:i<l.length:=by omega
  obtain⟨a,hav,_,hv⟩:=(hs.upd B.mv.1 fun _ h=>h.elim).at (af T)
  refine Join.plain ⟨⟨by omega,by omega⟩,a,hav,_,hv 0 _ rfl,_,hv 1 _ rfl,JZ (p:=l[i]) fun h89 d89 k89=>?_⟩
  rw[show IntKind.wrap .i64 ((i:Int)+1)=((i+1:Nat):Int) by rw[Go.IntWalk.i64_in _ (by omega)];omega]
  have st89:=B.up0 k89;generalize l[i]=p at d89;refine aG (fun h20=>?_) fun h20=>hI (i+1,t,r,lu) _ _ ⟨rfl,by omega,by rw[show min (i+1) 20=min i 20 by omega];exact st89⟩ (by show l.length-(i+1)<l.length-i;omega)
  have h20:i<20:=by omega
  refine⟨_,vc d89 0,_,vc d89 1,sP ⟨vc d89 1,sP (dd (c:=fP p) (vs:=fP (jo p.1,jo p.2)) d89 rfl fun h96 d96 u96=>?_)⟩⟩
  have st96:=B.up0 (k89.own u96 (ao _));have s96:=(k89.own u96 (ao _)).size;have hp1:(jo p.1).size≤30∧(jo p.2).size≤30:=⟨qC _,qC _⟩;generalize jo p.1=p1 at d96 hp1;generalize jo p.2=p2 at d96 hp1;have ct:=st96.ct C;have nb:=B.ws.wo.w0 (ao d.size);have htb:tb<d.size:=aD (B.ct C);have hxb:m<d.size:=aD (B.cx C);have z96:=aD d96
  refine⟨_,vc ct 0,_,vc ct 1,_,vc ct 2,_,vc ct 3,_,vc ct 4,_,vc ct 5,_,vc d96 0,_,vc d96 1,?_⟩;have hln:=B.len;refine MI st96.it st96.ws.unl B.up (by omega) (p1,p2) fun h106 t' i106 _ k106=>?_
  have F:=st96.up0 k106;refine dd (c:=je t) (vs:=je t') (k106.get0 ct) rfl fun h107 d107 u107=>?_
  have cx:=F.cx C;have hne:tb≠m:=fun e=>by
   have a:=F.ct C;rw[e]at a;have:=a.symm.trans cx;simp at this
  have E:=u107.oth cx (Ne.symm hne);have d106:=u107.oth (k106.get0 d96) (by omega);refine⟨_,vc E 0,_,vc E 1,_,vc E 2,_,vc E 3,r.2.2.2.2,vc E 4,_,vc d106 0,_,vc d106 1,?_⟩;have Z:=F.ws.cell (RS.a9 C) u107 d107;rw[RS.s9 C]at Z;refine EZ (F.jr.mv Z.2) Z.1.unl B.up (by omega) (p1,p2) fun h116 r' j116 k116=>?_
  refine dd (c:=mn r) (vs:=mn r') (k116.get0 E) rfl fun h117 d117 u117=>?_
  have wl:=Cg (p:=(p1,p2)) B.up B.fit B.len ⟨by show p1.size≤5030;omega,by show p2.size≤5030;omega⟩
  have r117:=(Z.1.up0 k116).cell (RS.a10 C) u117 d117;rw[RS.s10 C]at r117;refine hI (i+1,t',r',l6 lu (p1,p2)) _ _ ⟨rfl,by omega,?_⟩ (by show l.length-(i+1)<l.length-i;omega)
  rw[show min (i+1) 20=min i 20+1 by omega]
  exact⟨r117.1.mono (Nat.le_succ _),((i106.mv Z.2).upd0 k116).mv r117.2,j116.mv r117.2,wl.1,wl.2.1,wl.2.2,((F.mv.tr Z.2).up0 k116).tr r117.2⟩
 have L:RSt h P pb cb kk x 20 d tb t m r lu []:=⟨B.ws.mono (by omega),B.it,B.jr,B.up,B.fit,by have:=B.len;omega,B.mv⟩
 clear B;have V:=L.cx C;refine⟨_,vc V 0,_,vc V 1,_,vc V 2,_,vc V 3,r.2.2.2.2,vc V 4,aO fun h125 d125 k125=>?_⟩
 have M:=k125.get0 V;refine⟨⟨vc M 0,vc M 1,vc M 2,vc M 3,vc M 4⟩,dd (c:=mn N0) (vs:=mn r) d125 rfl fun h126 d126 u126=>?_⟩
 have k126:=k125.own u126 (ao _);have z126:=aD d126;have p1:=L.ws.push (s':=fo d.size (mn r) bE) k126 d126 fun y W=>by have W:y=d.size:=W;omega
 have p2:=p1.1.push (s':=gl fP 2 aw s0 []) (Upd.refl No _) (OwnS.nil gX) fun y W=>absurd W (qn y)
 have p3:=p2.1.push (s':=gl Qx 1 ql s0 []) (Upd.refl No _) (OwnS.nil Sa) fun y W=>absurd W (qn y)
 have p123:=(p1.2.tr p2.2).tr p3.2;have es:((RS P tb t m r []++ [fo d.size (mn r) bE])++ [gl fP 2 aw s0 []])++ [gl Qx 1 ql s0 []]=RS P tb t m r (Q3 d.size r s0 [] s0 []):=by simp[RS]
 rw[es]at p3 p123;have j126:RefIs (Un (AL (RS P tb t m r (Q3 d.size r s0 [] s0 []))) cb []) h126 kk x r lu:=L.jr.mv p123;have st126:RSt h P pb cb kk x 20 h126 tb t m r lu (Q3 d.size r s0 [] s0 []):=L.to p3.1 p123 (ao _);have len1:∀{out:List Pr},(∀p∈out,p.1.size≤5030∧p.2.size≤5030)→cu (iI lu out).1∧Fit (iI lu out).1∧(iI lu out).1.length≤20+out.length:=fun ho=>LS ho L.up L.fit L.len
 have hs2l:=hs2.len;refine LoopP.ghost (fun(g:Nat×SliceV×Rt×List Pr) (t':SliceV×Int×Int) S=>t'=(g.2.1,(iI lu g.2.2.2).2,(g.1:Int))∧g.1≤l2.length∧RSt h P pb cb kk x 20 S tb t m r lu (Q3 d.size g.2.2.1 g.2.1 g.2.2.2 s0 [])∧RefIs (Un (AL (RS P tb t m r (Q3 d.size g.2.2.1 g.2.1 g.2.2.2 s0 []))) cb []) S kk x g.2.2.1 (iI lu g.2.2.2).1∧(∀p∈g.2.2.2,p.1.size≤5030∧p.2.size≤5030)∧g.2.2.2.length≤min g.1 20) (fun g=>l2.length-g.1) (0,s0,r,[]) ⟨rfl,aU _,st126,j126,fun p hp=>(by cases hp),aU _⟩ ?_
 rintro I2 ⟨i2,so,ry,out⟩ _ h129 ⟨rfl,hi2,B,jy,K,hol⟩ hI2;simp only at hi2 B jy K hol hI2⊢;refine aG (fun T=>?_) fun hge2=>?_
 ·have T:i2<l2.length:=by omega
  obtain⟨a,hav,_,hv⟩:=(hs2.upd B.mv.1 fun _ h=>h.elim).at (af T)
  refine Join.plain ⟨⟨by omega,by omega⟩,a,hav,_,hv 0 _ rfl,_,hv 1 _ rfl,JZ (p:=l2[i2]) fun h135 d135 k135=>?_⟩
  rw[xf T hl2];generalize l2[i2]=p at d135;refine aG (fun h20=>?_) fun h20=>hI2 (i2+1,so,ry,out) _ _ ⟨rfl,by omega,B.up0 k135,jy.upd0 k135,K,by show out.length≤min (i2+1) 20;omega⟩ (by show l2.length-(i2+1)<l2.length-i2;omega)
  have h20:i2<20:=by omega
  refine⟨_,vc d135 0,_,vc d135 1,sP ⟨vc d135 1,sP (dd (c:=fP p) (vs:=fP (jo p.1,jo p.2)) d135 rfl fun h142 d142 u142=>?_)⟩⟩
  have k142:=k135.own u142 (ao _);refine Join.intro (fun _ S=>∃q:Pr,S[h129.size]? =some (.cells (fP q).toArray aw (0,0))∧q.1.size≤5030∧q.2.size≤5030∧Upd No h129 S) (fun R3 hR3=>?_) ?_
  ·have hc2:=qC p.2
   have hc1:=qC p.1;refine CondP.intro (fun _=>⟨_,vc d142 0,by decide,Nl h300 fun s' h146 hs' _ k146=>?_⟩) fun _=>hR3 _ _ ⟨_,d142,by show(jo p.1).size≤5030;omega,by show(jo p.2).size≤5030;omega,k142⟩
   refine pB (k146.get0 d142) (i:=0) (by simp) rfl fun h147 d147 u147=>?_
   exact hR3 _ _ ⟨(s',jo p.2),d147,hs',by show(jo p.2).size≤5030;omega,(k142.tr k146).own u147 (ao _)⟩
  rintro _ h149 ⟨q,d149,hq1,hq2,k149⟩;have st149:=B.up0 k149;have jy149:=jy.upd0 k149;have nb:=B.ws.wo.w0 (ao h129.size);refine Join.plain ⟨_,vc d149 0,_,vc d149 1,aO fun h153 d153 k153=>?_⟩
  have st153:=st149.up0 k153;refine KU (f:=fP) (t:=q) (st153.ws.own.get (s:=gl fP 2 aw so out) (RS.aQ (k:=1) C)) d153 rfl rfl ⟨by omega,by omega⟩ (by omega) fun so' h156 o156 k156 hs156=>?_
  have r156:=st153.ws.slice (α:=Pr) (RS.aQ (k:=1) C) k156 o156 hs156;rw[RS.sQ C]at r156;have O:RSt h P pb cb kk x 20 h156 tb t m r lu (Q3 d.size ry so' (out++ [q]) s0 []):=st153.to r156.1 r156.2 (ao _);have jy156:RefIs (Un (AL (RS P tb t m r (Q3 d.size ry so' (out++ [q]) s0 []))) cb []) h156 kk x ry (iI lu out).1:=(jy149.upd0 k153).mv r156.2;have hout':∀p∈out++ [q],p.1.size≤5030∧p.2.size≤5030:=fun p hp=>(bJ.1 hp).elim (K p) fun hp=>by rw[aq.1 hp];exact⟨hq1,hq2⟩
  have hol':(out++ [q]).length≤min (i2+1) 20:=by rw[ae,aK];omega
  have l1:=len1 K;refine CondP.intro (fun hc=>?_) fun hc=>?_
  ·have hc:(iI lu out).2=0:=by simpa using hc
   have Y:h156[d.size]? =some (.cells (mn ry).toArray bE (0,0)):=O.ws.own.get (s:=fo d.size (mn ry) bE) (RS.aQ (k:=0) C);have d156:=k156.get (k153.get0 d149) fun hb=>nb (.inl ⟨_,ay (RS.aQ (k:=1) C),hb⟩)
   refine⟨_,vc Y 0,_,vc Y 1,_,vc Y 2,_,vc Y 3,ry.2.2.2.2,vc Y 4,_,vc d156 0,_,vc d156 1,?_⟩;refine EZ jy156 O.ws.unl l1.1 (by omega) q fun h167 ry' j167 k167=>?_
   refine dd (c:=mn ry) (vs:=mn ry') (k167.get0 Y) rfl fun h168 d168 u168=>?_
   have r168:=(O.ws.up0 k167).cell (RS.aQ (k:=0) C) u168 d168;rw[RS.sQ C]at r168;have er:iI lu (out++ [q])=(l6 (iI lu out).1 q,yf q):=by rw[zW,if_pos hc]
   refine hI2 (i2+1,so',ry',out++ [q]) _ _ ⟨by rw[er],by omega,(O.up0 k167).to r168.1 r168.2 (ao _),?_,hout',hol'⟩ (by show l2.length-(i2+1)<l2.length-i2;omega)
   show RefIs _ h168 kk x ry' (iI lu (out++ [q])).1
   rw[er];exact j167.mv r168.2
  ·have hc:¬(iI lu out).2=0:=by simpa using hc
   have er:iI lu (out++ [q])=iI lu out:=by rw[zW,if_neg hc]
   refine hI2 (i2+1,so',ry,out++ [q]) _ _ ⟨by rw[er],by omega,O,?_,hout',hol'⟩ (by show l2.length-(i2+1)<l2.length-i2;omega)
   show RefIs _ h156 kk x ry (iI lu (out++ [q])).1
   rw[er];exact jy156
 have hs3l:=hs3.len;have l1:=len1 K;have hol20:out.length≤20:=by omega
 refine LoopP.ghost (fun(g:Nat×SliceV×Rt×List ByteArray×List Pr) (t':SliceV×Int) S=>t'=(g.2.1,(g.1:Int))∧g.1≤l3.length∧RSt h P pb cb kk x 20 S tb t m r lu (Q3 d.size g.2.2.1 so out g.2.1 g.2.2.2.1)∧RefIs (Un (AL (RS P tb t m r (Q3 d.size g.2.2.1 so out g.2.1 g.2.2.2.1))) cb []) S kk x g.2.2.1 g.2.2.2.2∧((iI lu out).2=0→g.2.2.2.2=g.2.2.2.1.foldl jH (iI lu out).1)∧(∀k∈g.2.2.2.1,k.size≤256)∧g.2.2.2.1.length≤min g.1 20) (fun g=>l3.length-g.1) (0,s0,ry,[],(iI lu out).1) ⟨rfl,aU _,B,jy,fun _=>rfl,fun p hp=>(by cases hp),aU _⟩ ?_
 rintro I3 ⟨i3,sg,j,gd,ly⟩ _ z ⟨rfl,hi3,st3,jy3,hly,hgd,hgl⟩ hI3;simp only at hi3 st3 jy3 hly hgd hgl hI3⊢;refine aG (fun T=>?_) fun hge3=>?_
 ·have T:i3<l3.length:=by omega
  obtain⟨a,hav,_,hv⟩:=(hs3.upd st3.mv.1 fun _ h=>h.elim).at0 (af T)
  refine Join.plain ⟨⟨by omega,by omega⟩,a,hav,_,hv,?_⟩
  rw[xf T hl3];generalize l3[i3]=key;refine aG (fun h20=>?_) fun h20=>hI3 (i3+1,sg,j,gd,ly) _ _ ⟨rfl,by omega,st3,jy3,hly,hgd,by show gd.length≤min (i3+1) 20;omega⟩ (by show l3.length-(i3+1)<l3.length-i3;omega)
  have h20:i3<20:=by omega
  refine Join.plain (sP (aO fun h180 d180 k180=>?_))
  have st180:=st3.up0 k180;refine KU (f:=Qx) (t:=jo key) (st180.ws.own.get (s:=gl Qx 1 ql sg gd) (RS.aQ (k:=2) C)) d180 rfl rfl ⟨by omega,by omega⟩ (by omega) fun sg' h183 o183 k183 hs183=>?_
  have r183:=st180.ws.slice (α:=ByteArray) (RS.aQ (k:=2) C) k183 o183 hs183;rw[RS.sQ C]at r183;have H:RSt h P pb cb kk x 20 h183 tb t m r lu (Q3 d.size j so out sg' (gd++ [jo key])):=st180.to r183.1 r183.2 (ao _);have jy183:RefIs (Un (AL (RS P tb t m r (Q3 d.size j so out sg' (gd++ [jo key])))) cb []) h183 kk x j ly:=(jy3.upd0 k180).mv r183.2;have hck:=qC key
  have hgd':∀k∈gd++ [jo key],k.size≤256:=fun k hk=>(bJ.1 hk).elim (hgd k) fun hk=>by rw[aq.1 hk];omega
  have hgl':(gd++ [jo key]).length≤min (i3+1) 20:=by rw[ae,aK];omega
  refine CondP.intro (fun hc=>?_) fun hc=>?_
  ·have hc:(iI lu out).2=0:=by simpa using hc
   have hly:=hly hc;have gf:=C6 (gd:=gd) l1.1 l1.2.1;rw[←hly]at gf;have Y:h183[d.size]? =some (.cells (mn j).toArray bE (0,0)):=H.ws.own.get (s:=fo d.size (mn j) bE) (RS.aQ (k:=0) C);refine⟨_,vc Y 0,_,vc Y 1,_,vc Y 2,_,vc Y 3,j.2.2.2.2,vc Y 4,sP ⟨⟨vc Y 0,vc Y 1,vc Y 2,vc Y 3,vc Y 4⟩,?_⟩⟩;refine Gb jy183 H.ws.unl gf.1 gf.2.1 (by omega) (jo key) fun h194 ry' j194 k194=>?_
   refine dd (c:=mn j) (vs:=mn ry') (k194.get0 Y) rfl fun h195 d195 u195=>?_
   have r195:=(H.ws.up0 k194).cell (RS.aQ (k:=0) C) u195 d195;rw[RS.sQ C]at r195;exact hI3 (i3+1,sg',ry',gd++ [jo key],jH ly (jo key)) _ _ ⟨rfl,by omega,(H.up0 k194).to r195.1 r195.2 (ao _),j194.mv r195.2,fun _=>by rw[hly];simp,hgd',hgl'⟩ (by show l3.length-(i3+1)<l3.length-i3;omega)
  ·have hc:¬(iI lu out).2=0:=by simpa using hc
   exact hI3 (i3+1,sg',j,gd++ [jo key],ly) _ _ ⟨rfl,by omega,H,jy183,fun h=>absurd h hc,hgd',hgl'⟩ (by show l3.length-(i3+1)<l3.length-i3;omega)
 have A:RS P tb t m r (Q3 d.size j so out sg gd)=RS P tb t m r [fo d.size (mn j) bE,gl fP 2 aw so out]++ [gl Qx 1 ql sg gd]:=by simp[RS]
 have u:RS P tb t m r [fo d.size (mn j) bE,gl fP 2 aw so out]=RS P tb t m r [fo d.size (mn j) bE]++ [gl fP 2 aw so out]:=by simp[RS]
 have w3:=st3.ws;rw[A]at w3;have g3:=w3.sl;have d3:=w3.drop;have w4:=d3.1;have m3:=d3.2;rw[u]at w4 m3 g3;have ho5:=w4.sl;have d4:=w4.drop;have m34:Mv (Un (AL (RS P tb t m r (Q3 d.size j so out sg gd))) cb []) z (Un (AL (RS P tb t m r [fo d.size (mn j) bE])) cb []) z:=by
  rw[A,u];exact m3.tr d4.2
 have w:RSt h P pb cb kk x 20 z tb t m r lu [fo d.size (mn j) bE]:=st3.to d4.1 m34 (ao _);have jy5:=jy3.mv m34;have hg5:=g3.mv d4.2;clear w3 g3 d3 w4 m3 d4 m34;have ct5:=w.ct C;have gf:=C6 (gd:=gd) l1.1 l1.2.1;refine Join.intro (fun t' S=>∃ub v e,t'=(⟨ub,0,none⟩,(iI lu out).2)∧S[ub]? =some (.cells (je v).toArray aS (0,0))∧Ws (RS P tb t m r [fo d.size (mn j) bE]) S pb cb 1 [1] kk x 60 [e]∧Mv (Un (AL (RS P tb t m r [fo d.size (mn j) bE])) cb []) z (Un (AL (RS P tb t m r [fo d.size (mn j) bE])) cb [e]) S∧((iI lu out).2=0→TreeIs (Un (AL (RS P tb t m r [fo d.size (mn j) bE])) cb [e]) S kk x v (gd.foldl jH (iI lu out).1))) (fun R hR=>?_) ?_
 ·refine⟨_,rfl,_,vc (hw w.ws.own) 4,_,vc ct5 0,_,vc ct5 1,_,vc ct5 2,_,vc ct5 3,_,vc ct5 4,_,vc ct5 5,?_,?_⟩
  ·refine Il w.ws.wo w.it w.up w.fit w.len (by omega) ho5 hg5 (fun _ h=>h) K hgd fun h267 v e w267 m267 hv267 ku267=>Gp (t:=v) fun h269 d269 k269=>?_
   have wq:Ws (RS P tb t m r [fo d.size (mn j) bE]) h267 pb cb 1 [1] kk x 60 [e]:=⟨w.ws.own.away ku267 fun y W h=>h W,w267.mono (by omega)⟩
   exact hR _ _ ⟨h267.size,v,e,rfl,d269,wq.up0 k269,m267.up0 k269,fun h0=>(hv267 h0).upd0 k269⟩
  ·refine aO fun h270 d270 k270=>?_
   have z270:=aD d270;have D:=k270.get0 ct5;refine⟨⟨vc D 0,vc D 1,vc D 2,vc D 3,vc D 4,vc D 5⟩,vc (hw (w.ws.up0 k270).own) 4,?_⟩;have p:=w.ws.push (s':=fo z.size (je wM) aS) k270 d270 fun y W=>by have W:y=z.size:=W;omega
   refine Il p.1.wo (w.it.mv p.2) w.up w.fit w.len (by omega) (ho5.mv p.2) (hg5.mv p.2) (fun _ h=>h) K hgd fun h272 v e w272 m272 hv272 ku272=>?_
   have wq:Ws (RS P tb t m r [fo d.size (mn j) bE]++ [fo z.size (je wM) aS]) h272 pb cb 1 [1] kk x 60 [e]:=⟨p.1.own.away ku272 fun y W h=>h W,w272.mono (by omega)⟩
   have d272:h272[z.size]? =some (.cells (je wM).toArray aS (0,0)):=wq.own.get (i:=(RS P tb t m r [fo d.size (mn j) bE]).length) (s:=fo z.size (je wM) aS) (by simp);refine dd (c:=je wM) (vs:=je v) d272 rfl fun h273 d273 u273=>?_
   have w273:=wq.last u273 d273;have w274:=w273.1.drop;exact hR _ _ ⟨z.size,v,e,rfl,d273,w274.1,((p.2.tr m272).tr w273.2).tr w274.2,fun h0=>((hv272 h0).mv w273.2).mv w274.2⟩
 rintro _ h275 ⟨ub,v,e,rfl,d275,w275,m275,hv275⟩;have mv275:=w.mv.tr m275;have it275:=w.it.mv m275;have jr275:=w.jr.mv m275;have jy275:=jy5.mv m275;refine Join.plain ?_;refine CondP.intro (fun hc=>?_) fun _=>?_
 ·simp at hc
 refine⟨_,rfl,_,vc (hw w275.own) 4,JR w275.wo.pl ?_⟩;refine aj.2 ?_;have ct:h275[tb]? =some (.cells (je t).toArray aS (0,0)):=w275.own.get (RS.a9 C);have cx:h275[m]? =some (.cells (mn r).toArray bE (0,0)):=w275.own.get (RS.a10 C);have Y:h275[d.size]? =some (.cells (mn j).toArray bE (0,0)):=w275.own.get (s:=fo d.size (mn j) bE) (RS.aQ (k:=0) C)
 have hln:=w.len;refine⟨_,vc ct 0,_,vc ct 1,_,vc ct 2,_,vc ct 3,_,vc ct 4,_,vc ct 5,_,vc cx 0,_,vc cx 1,_,vc cx 2,_,vc cx 3,r.2.2.2.2,vc cx 4,?_⟩;refine E9 (tab.upd mv275.1 id) it275 jr275 w.up w.fit (by omega) fun h293 J=>?_
 refine aj.2 (CondP.intro (fun _=>⟨rfl,(mv275.up0 J).1⟩) fun hc=>?_)
 have hc:(iI lu out).2=0:=by simpa using hc
 have X:=J.get0 d275;have G:=J.get0 Y;refine⟨_,vc X 0,_,vc X 1,_,vc X 2,_,vc X 3,_,vc X 4,_,vc X 5,_,vc G 0,_,vc G 1,_,vc G 2,_,vc G 3,j.2.2.2.2,vc G 4,?_⟩;rw[hly hc]at jy275;exact E9 (tab.upd (mv275.up0 J).1 id) ((hv275 hc).upd0 J) (jy275.upd0 J) gf.1 gf.2.1 (by omega) fun h308 k308=>⟨rfl,((mv275.up0 J).up0 k308).1⟩
end Go.Proofs
