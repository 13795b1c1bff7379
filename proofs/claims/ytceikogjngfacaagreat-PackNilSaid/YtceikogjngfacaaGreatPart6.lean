/- A part of the proof that the named laws of this program answer true, whatever the input. -/
import Derived.Test.YtceikogjngfacaaGreatPart5
import Derived.Test.YtceikogjngfacaaGreatPart2
import Derived.Test.YtceikogjngfacaaGreatPart1
import Derived.Test.YtceikogjngfacaaGreatLift3
import Derived.IntWalk
open Go.IntKind renaming wrap→ac
open List renaming mem_cons→au,getElem?_eq_getElem→aj,mem_map→bQ,nodup_nil→fk,map_cons→cx,pairwise_cons→bB,mem_cons_of_mem→aR,any_eq_true→g8,mem_filter→dP,length_filter_le→rq,length_singleton→aQ,mem_of_getElem?→ak,getElem?_eq_some_iff→aY
open List.Pairwise renaming nil→fG
open Nat renaming div_mul_le_self→kR,mul_comm→ig,mul_assoc→pi,le_trans→dj,mul_le_mul_left→kQ,not_lt→rR,lt_of_lt_of_le→aG,le_refl→aq
open Prod renaming mk→sd
namespace Go.Proofs
open Go Go.Lift
abbrev S8:ByteArray:=⟨#[0,1,2,2,3,3,3,3,4,4,4,4,4,4,4,4,5,5,5,5,5,5,5,5,5,5,5,5,5,5,5,5,6,6,6,6,6,6,6,6,6,6,6,6,6,6,6,6,6,6,6,6,6,6,6,6,6,6,6,6,6,6,6,6,7,7,7,7,7,7,7,7,7,7,7,7,7,7,7,7,7,7,7,7,7,7,7,7,7,7,7,7,7,7,7,7,7,7,7,7,7,7,7,7,7,7,7,7,7,7,7,7,7,7,7,7,7,7,7,7,7,7,7,7,7,7,7,7,8,8,8,8,8,8,8,8,8,8,8,8,8,8,8,8,8,8,8,8,8,8,8,8,8,8,8,8,8,8,8,8,8,8,8,8,8,8,8,8,8,8,8,8,8,8,8,8,8,8,8,8,8,8,8,8,8,8,8,8,8,8,8,8,8,8,8,8,8,8,8,8,8,8,8,8,8,8,8,8,8,8,8,8,8,8,8,8,8,8,8,8,8,8,8,8,8,8,8,8,8,8,8,8,8,8,8,8,8,8,8,8,8,8,8,8,8,8,8,8,8,8,8,8,8,8,8,8]⟩
theorem S7:∀x:Nat,x<256→∃c:UInt8,S8[x]? =some c∧c.toNat≤8∧(1≤x→2^c.toNat≤2*x)∧(x=0→c.toNat=0):=by
 have key:∀x:Fin 256,∃c:UInt8,S8[x.val]? =some c∧c.toNat≤8∧(1≤x.val→2^c.toNat≤2*x.val)∧(x.val=0→c.toNat=0):=by
  intro x;have:∀x:Fin 256,(match S8[x.val]? with|some c=>decide (c.toNat≤8∧(1≤x.val→2^c.toNat≤2*x.val)∧(x.val=0→c.toNat=0))|none=>false)=true:=by decide+kernel
  have hx:=this x;split at hx
  ·rename_i c hc
   exact⟨c,hc,of_decide_eq_true hx⟩
  ·cases hx
 exact fun x hx=>key ⟨x,hx⟩
theorem QP{h:af}{n:Nat}(y:n<4294967296){K:Int→af→Prop}(u:∀L:Nat,L≤64→(1≤n→2^L≤2*n)→K (L:Int) h):HC PG mK [.int .u64 n] [.c (.int .i64)] K h:=by
 refine vI n ?_;unfold qQ;have fd:∀(x k:Nat),Int.fdiv (x:Int) (2^k)=((x/2^k:Nat):Int):=fun x k=>by
  rw[Int.fdiv_eq_ediv_of_nonneg _ (Int.pow_nonneg (by omega))];rw[Int.natCast_ediv,Int.natCast_pow];rfl
 refine Join.intro (fun t m=>m=h∧t=((n:Int),(0:Int))) (fun R e=>?_) ?_
 ·exact av (fun b=>by omega) fun b=>e _ _ ⟨rfl,rfl⟩
 ·rintro t m ⟨rfl,rfl⟩
  refine Join.intro (fun t h2=>h2=m∧∃x s:Nat,t=((x:Int),(s:Int))∧x*2^s≤n∧(1≤n→1≤x)∧x<65536∧s≤16) (fun R e=>?_) ?_
  ·refine av (fun b=>?_) fun b=>e _ _ ⟨rfl,n,0,rfl,by simp,fun h=>h,by have b:¬(n:Int)≥65536:=b;omega,by omega⟩
   have b:65536≤n:=by have b:(n:Int)≥65536:=b;omega
   refine⟨by omega,e _ _ ⟨rfl,n/2^16,16,?_,kR ..,fun _=>by omega,by omega,by omega⟩⟩
   simp only[sd.injEq];exact⟨fd n 16,by decide⟩
  ·rintro t h2 ⟨rfl,x,s,rfl,hx,d,f,g⟩
   refine Join.intro (fun t i=>i=h2∧∃x s:Nat,t=((x:Int),(s:Int))∧x*2^s≤n∧(1≤n→1≤x)∧x<256∧s≤24) (fun R e=>?_) ?_
   ·refine av (fun b=>?_) fun b=>e _ _ ⟨rfl,x,s,rfl,hx,d,by have b:¬(x:Int)≥256:=b;omega,by omega⟩
    have b:256≤x:=by have b:(x:Int)≥256:=b;omega
    refine⟨by omega,e _ _ ⟨rfl,x/2^8,s+8,?_,?_,fun _=>by omega,by omega,by omega⟩⟩
    ·simp only[sd.injEq]
     exact⟨fd x 8,by rw[dW (by omega)];omega⟩
    ·rw[Nat.pow_add,ig (2^s),←pi]
     exact dj (Nat.mul_le_mul_right _ (kR ..)) hx
   ·rintro t i ⟨rfl,x,s,rfl,hx,d,f,g⟩
    obtain⟨c,hc,o,j,q⟩:=S7 x f;have w:ac .u8 (x:Int)=(x:Int):=by
     simp[ac,IntKind.bits,IntKind.signed];omega
    show∃b10:UInt8,(0:Int)≤ac .u8 (x:Int)∧S8[(ac .u8 (x:Int)).toNat]? =some b10∧_
    rw[w];refine⟨c,by omega,by simpa using hc,?_⟩
    have p:ac .i64 (c.toNat:Int)=(c.toNat:Int):=dW (by omega);have v:ac .i64 ((s:Int)+ac .i64 (c.toNat:Int))=((s+c.toNat:Nat):Int):=by rw[p,dW (by omega)];omega
    show K (ac .i64 ((s:Int)+ac .i64 (c.toNat:Int))) i
    rw[v];refine u _ (by omega) fun b=>?_
    have:=j (d b);rw[Nat.pow_add];calc 2^s*2^c.toNat≤2^s*(2*x):=kQ _ this
     _=2*(x*2^s):=by rw[ig (2^s),pi]
     _≤2*n:=kQ _ hx
theorem QN{h:af}{n:Nat}(b:n<4294967296){K:Int→af→Prop}(c:∀L:Nat,L≤64→(1≤n→2^L≤2*n)→K (L:Int) h):HC PG iT [.int .u64 n] [.c (.int .i64)] K h:=by
 refine yf n ?_;unfold tl;exact QP b c
theorem Eqf.perm{α:Type}[DecidableEq α]{lt:α→α→Bool}(w:WO lt){l b:List α}(h:Eqf lt l b):b.Perm l:=by
 rw[List.perm_iff_count];intro a;have e:∀m:List α,m.count a=(m.filter (Iz lt a)).count a:=fun m=>(List.count_filter (F9 w a)).symm
 rw[e b,e l,h.flt a]
theorem L0{t:Tr}{h:af}{K:Int×Int×Int→af→Prop}(f:∀h',Upd No h h'→K (t.2.1,t.2.2.1,t.2.2.2.1) h'):HC PG gU [U7 t] [.agg [.int .u64,.int .u64,.int .u64]] K h:=by
 refine Bz t ?_;unfold uZ fA ag bW UP oq zl1;refine bO fun g b1 k1=>bO fun h2 b2 d=>?_
 have c1:=d.get0 b1;refine⟨_,Fe c1 1 0,_,Fe c1 1 1,_,Fe c1 1 2,?_⟩;refine eE (c:= [.int .u64 0,.int .u64 0,.int .u64 0]) (vs:= [.int .u64 t.2.1,.int .u64 t.2.2.1,.int .u64 t.2.2.2.1]) b2 rfl fun e b3 b=>?_
 exact⟨_,vc b3 0,_,vc b3 1,_,vc b3 2,f e ((k1.tr d).own b k1.size)⟩
end Go.Proofs
namespace Go.Proofs
open Go Go.Lift
def Dt:List Pr→Int
 | []=>0
 |p::l=>if OQ p=0 then Dt l else OQ p
theorem F0:∀{l:List Pr},Dt l=0→∀p∈l,p.1.size≤256∧p.2.size≤4096
 | [],_,p,b=>by cases b
 |q::l,h,p,b=>by
  unfold Dt at h;split at h
  ·rename_i h0
   rcases au.1 b with rfl|b
   ·exact OO h0
   ·exact F0 h p b
  ·rename_i h0;exact absurd h h0
theorem Pb{l:List Pr}{i:Nat}(hi:i<l.length):Dt (l.drop i)=if OQ l[i]=0 then Dt (l.drop (i+1))else OQ l[i]:=by
 rw[List.drop_eq_getElem_cons hi];rfl
theorem LZ{x:Hs}{h:af}{kind:Int}(i:kind≠0)(f:kind≠1){K:Tr×Int→af→Prop}(k:∀h',Upd No h h'→K (vX,11) h'):HC PG uC [.int .i64 kind,.agg #[.int .u64 x.k0,.int .u64 x.k1,.int .u64 x.mask]] [.agg [.int .i64,.int .u64,.int .u64,.int .u64,.ptr,.ptr],.c (.int .i64)] K h:=by
 refine Gp kind (x.k0,x.k1,x.mask) ?_;unfold BI fA aC ag GY ar H6 kJ oq;refine bO fun e b1 k1=>bO fun h2 b2 g=>?_
 rw[beq_eq_false_iff_ne.2 i,beq_eq_false_iff_ne.2 f];refine aH.2 (aH.2 ?_);refine eE (c:=py vX) (vs:=py vX) b2 rfl fun j b d=>?_
 exact⟨_,vc b 0,_,vc b 1,_,vc b 2,_,vc b 3,_,vc b 4,_,vc b 5,k j ((k1.tr g).own d k1.size)⟩
theorem Hd{W P:Nat→Prop}{x:Hs}{h:af}{s:SliceV}{l:List Pr}{kind:Int}(C:Sl ga 2 P h s l)(V:∀y,W y→y<h.size)(Z:l.length≤100000){K:Tr×Int→af→Prop}
  (H:kind≠0→kind≠1→∀f,Upd No h f→K (vX,11) f)(v:(kind=0∨kind=1)→Dt l≠0→∀f,Upd No h f→K (vX,Dt l) f)(T:(kind=0∨kind=1)→Dt l=0→∀f t,TreeIs W f kind x t (wd l)→Upd No h f→K (t,0) f):
  HC PG nS [.int .i64 kind,.agg #[.int .u64 x.k0,.int .u64 x.k1,.int .u64 x.mask],.slice s.a s.len s.cap] [.agg [.int .i64,.int .u64,.int .u64,.int .u64,.ptr,.ptr],.c (.int .i64)] K h:=by
 by_cases d:kind=0∨kind=1
 ·by_cases u:Dt l=0
  ·exact JI C V Z (F0 u) d (T d u)
  ·have v:=v d u
   refine uf kind (x.k0,x.k1,x.mask) s ?_;unfold qR cp fA nv aC ag GY ar H6 cP oG jR kJ oq cr;refine bO fun G b1 k1=>bO fun h2 b2 n=>?_
   have z1:=bo b1;have z2:=bo b2;have E:h.size≤G.size:=k1.size;have c1:=n.get0 b1;have z:=k1.tr n;refine⟨_,vc c1 0,_,vc c1 1,_,vc c1 2,?_⟩;refine ER (W:=No) (x:=x) (fun _ h=>h.elim) d fun S Q _ q=>?_
   refine FG (t:=Q) fun J X o=>?_
   refine aH.2 ?_;have m:=q.tr o;have A:=z.tr m;have N:=C.len;refine LoopP.ghost (fun(i:Nat) (t:Int) f=>t=(i:Int)∧i≤l.length∧Dt (l.drop i)=Dt l∧Upd No J f) (fun i=>l.length-i) 0 ⟨rfl,Nat.zero_le _,rfl,Upd.refl _ _⟩ ?_
   rintro I i t h5 ⟨rfl,hi,hd,F⟩ Y;have k:=A.tr F;refine av (fun g=>?_) fun R=>?_
   ·have g:i<l.length:=by omega
    rw[Pb g]at hd;obtain⟨a,U,_,hv⟩:=(C.upd k fun _ h=>h.elim).at (aj g)
    refine⟨⟨by omega,by omega⟩,a,U,l[i].1,hv 0 _ rfl,l[i].2,hv 1 _ rfl,?_⟩
    refine FH (p:=l[i]) fun h6 L w=>⟨_,vc L 0,_,vc L 1,SV (p:=l[i]) ?_⟩
    by_cases e:OQ l[i]=0
    ·rw[if_pos e]at hd
     rw[show(OQ l[i] !=0)=false by rw[e];rfl]
     refine aH.2 ?_;rw[um g (by omega)];exact Y (i+1) _ _ ⟨rfl,g,hd,F.tr w⟩ (by omega)
    ·rw[if_neg e]at hd
     rw[show(OQ l[i] !=0)=true by simpa using e]
     refine aX.2 ?_;refine eE (c:=py vX) (vs:=py vX) (((m.tr F).tr w).get0 b2) rfl fun D b j=>?_
     refine⟨_,vc b 0,_,vc b 1,_,vc b 2,_,vc b 3,_,vc b 4,_,vc b 5,?_⟩;rw[hd];exact v D ((k.tr w).own j E)
   ·have B:i=l.length:=by omega
    subst B;rw[List.drop_length]at hd;exact absurd hd.symm u
 ·have n0:kind≠0:=fun e=>d (.inl e)
  have O:kind≠1:=fun e=>d (.inr e)
  refine uf kind (x.k0,x.k1,x.mask) s ?_;unfold qR cp fA nv aC ag GY ar H6 cP oG jR kJ oq cr;refine bO fun G b1 k1=>bO fun h2 b2 n=>?_
  have c1:=n.get0 b1;have E:h.size≤G.size:=k1.size;refine⟨_,vc c1 0,_,vc c1 1,_,vc c1 2,?_⟩;refine LZ n0 O fun S q=>?_
  refine FG (t:=vX) fun J X o=>aX.2 ?_
  refine eE (c:=py vX) (vs:=py vX) ((q.tr o).get0 b2) rfl fun D b j=>?_
  exact⟨_,vc b 0,_,vc b 1,_,vc b 2,_,vc b 3,_,vc b 4,_,vc b 5,H n0 O D (((k1.tr n).tr (q.tr o)).own j E)⟩
end Go.Proofs
namespace Go.Proofs
open Go Go.Lift
abbrev Uq(b:Nat)(k:Int)(x:Hs):(Option Addr)×Int×Int×Int×Int:=(some ⟨b,0,none⟩,k,x.k0,x.k1,x.mask)
abbrev N8(b:Nat)(k:Int)(x:Hs):List Value:= [.pointer (some ⟨b,0,none⟩),.int .i64 k,.int .u64 x.k0,.int .u64 x.k1,.int .u64 x.mask]
abbrev QV(b:Nat)(k:Int)(x:Hs):Value:=.agg #[.pointer (some ⟨b,0,none⟩),.int .i64 k,.int .u64 x.k0,.int .u64 x.k1,.int .u64 x.mask]
section
variable {W M:Nat→Prop} {h h':af} {b:Nat} {s:eK} {k:Int} {x:Hs}
theorem zS(i:InAt W h b s)(d:Nat){K:Int→af→Prop}(f:∀h',InAt W h' b (bd d s).2→Upd (· =b) h h'→K ((bd d s).1:Int) h'):HC PG jX [QV b k x,.int .u64 (d:Int)] [.c (.int .u64)] K h:=by
 have n:=i.lt;refine EI (Uq b k x) (d:Int) ?_;unfold yk tP ar B9;refine bO fun p b1 k1=>⟨_,vc b1 0,FS (i.upd0 k1) fun h2 j u=>av (fun c=>⟨_,vc (u.oth b1 (by omega)) 0,mr j fun o m g=>?_⟩) fun c=>?_⟩
 ·have c:((dX s).1:Int)>(d:Int):=c
  have e:bd d s=(0,dA 9 (dX s).2):=by rw[bd,if_pos (by omega)]
  rw[e]at f;exact f o m ((k1.wide.tr u).tr g)
 ·have c:¬((dX s).1:Int)>(d:Int):=c
  have e:bd d s=dX s:=by rw[bd,if_neg (by omega)]
  rw[e]at f;exact f h2 j (k1.wide.tr u)
theorem FE(i:InAt W h b s){K:Int→af→Prop}(c:∀h',InAt W h' b (bd 4294967295 s).2→Upd (· =b) h h'→K ((bd 4294967295 s).1:Int) h'):HC PG lP [QV b k x] [.c (.int .u32)] K h:=by
 refine JW (Uq b k x) ?_;unfold CP aC ag ar px B9;refine bO fun d b1 k1=>⟨_,vc b1 0,_,vc b1 1,_,vc b1 2,_,vc b1 3,_,vc b1 4,zS (i.upd0 k1) 4294967295 fun h2 j u=>?_⟩
 have:=lc 4294967295 s;rw[Go.IntWalk.u32_in _ (by omega)];exact c h2 j (k1.wide.tr u)
def tF{G:Type}(st:G→eK)(step:G→G):Nat→G→G
 |0,g=>g
 |n+1,g=>if(st g).2=0 then tF st step n (step g)else g
theorem wX{G:Type}{Inv:G→af→Prop}{st:G→eK}{step:G→G}{f:FuncId}{cap:Array Value}(i:InAt W h b s)(p:G)(hM:¬M h.size)
  (H:∀h',InAt W h' b (dX s).2→Upd (· =b) h h'→h.size<h'.size→Inv p h')
  (hi:∀g h',Inv g h'→InAt W h' b (st g))
  (F:∀g o,Inv g o→(st g).2=0→HC PG f cap.toList [] (fun(_:Unit) h'=>Inv (step g) h'∧Upd M o h') o)
  {K:Unit→af→Prop}(L:∀h',Inv (tF st step (dX s).1 p) h'→K () h'):HC PG eH [QV b k x,.func (.func f) #[] cap] [] K h:=by
 have C:=i.lt;have q:=zR s;refine EH (Uq b k x) (.func (.func f) #[] cap) ?_;unfold yj ar B9;refine bO fun o b1 k1=>⟨_,vc b1 0,FS (i.upd0 k1) fun h2 j u=>?_⟩
 have b2:=u.oth b1 (by omega);refine LoopP.ghost (fun(g:Nat×G) (t:Int) h'=>t=(g.1:Int)∧g.1<18446744073709551616∧Inv g.2 h'∧h'[h.size]? =some (.cells (N8 b k x).toArray eu (0,0))∧∀d,Inv (tF st step g.1 g.2) d→K () d) (fun g=>g.1) ((dX s).1,p) ⟨rfl,q,H h2 j (k1.wide.tr u) (bo b2),b2,L⟩ ?_
 rintro I ⟨n,g⟩ t h' ⟨rfl,z,hv,y,w⟩ E;have z:n<18446744073709551616:=z;refine Join.intro (fun(t:Bool) h2=>h2=h'∧t=decide (0<n∧(st g).2=0)) (fun R A=>?_) ?_
 ·refine av (fun c=>⟨_,vc y 0,yN (hi _ _ hv) (A _ _ ⟨rfl,?_⟩)⟩) fun c=>A _ _ ⟨rfl,?_⟩
  ·have c:(n:Int)>0:=c
   rw[show((st g).2==(0:Int))=decide ((st g).2=0)from rfl,decide_eq_decide];constructor
   ·exact fun e=>⟨by omega,e⟩
   ·exact fun e=>e.2
  ·have c:¬(n:Int)>0:=c
   rw[eq_comm,decide_eq_false_iff_not];omega
 ·rintro t h2 ⟨rfl,rfl⟩
  refine av (fun c=>?_) fun c=>w _ ?_
  ·obtain⟨m,rfl⟩:∃m,n=m+1:=⟨n-1,by omega⟩
   refine HV.mk' ((F g _ hv c.2).mono ?_);rintro _ N ⟨J,B⟩;have D:ac .u64 (((m+1:Nat):Int)-1)=(m:Int):=by rw[Go.IntWalk.u64_in _ (by omega)];omega
   refine E (m,step g) _ _ ⟨D,by omega,J,B.get y hM,fun d v=>w d ?_⟩ (by simp)
   show Inv (tF st step (m+1) g) d
   rw[tF,if_pos c.2];exact v
  ·show Inv (tF st step n g) h2
   cases n with
   |zero=>exact hv
   |succ n=>
    rw[tF,if_neg fun e=>c ⟨Nat.succ_pos _,e⟩];exact hv
end
end Go.Proofs
namespace Go.Proofs
open Go.Lift
abbrev u32(x:Int):List Value:= [.int .u32 x]
theorem IS(x:Int):(u32 x).length=1∧0<1:=⟨rfl,Nat.one_pos⟩
abbrev Nums(W:Nat→Prop)(h:af)(s:SliceV)(xs:List Int):Prop:=Sl u32 1 W h s xs
theorem Nums.at{W:Nat→Prop}{h:af}{s:SliceV}{xs:List Int}(b:Nums W h s xs){i:Nat}(hi:i<xs.length):∃a,s.a=some a∧¬W a.block∧bj h (adr a (((i:Int)).toNat*1))=some (.int .u32 xs[i]):=
 b.at0 (g:=fun x=>.int .u32 x) (aj hi)
end Go.Proofs
namespace Go.Proofs
open Go.Lift
abbrev KE:KeyE Int:=Vt .u32
abbrev iZ:=List (Int×List Int)
def Rep(W:Nat→Prop)(h:af)(m:List (Int×SliceV))(L:iZ):Prop:=
 ∀id,(∃s ps,fW m id=some s∧fW L id=some ps∧Nums W h s ps)∨(fW m id=none∧fW L id=none)
structure GraphAt(W:Nat→Prop)(h:af)(gp gm:Nat)(L:iZ)(nx:Int):Prop where
 blk:h[gp]? =some (.cells #[.map (some gm),.int .u32 nx] gg (0,0))
 map:∃m,MapAt KE sv h gm m∧Rep W h m L
 wp:W gp
 wm:W gm
 lt:∀b,W b→b<h.size
 nd:(L.map (·.1)).Nodup
theorem Rep.upd{W M:Nat→Prop}{h c:af}{m:List (Int×SliceV)}{L:iZ}(r:Rep W h m L)(k:Upd M h c)(hm:∀b,M b→W b∨h.size≤b):Rep W c m L:=fun id=>by
 rcases r id with⟨s,ps,e,h2,f⟩|d
 ·exact .inl ⟨s,ps,e,h2,f.upd k hm⟩
 ·exact .inr d
theorem GraphAt.upd{W M:Nat→Prop}{h i:af}{gp gm:Nat}{L:iZ}{nx:Int}(g:GraphAt W h gp gm L nx)(k:Upd M h i)(hm:∀b,M b→(W b∧b≠gp∧b≠gm)∨h.size≤b):GraphAt W i gp gm L nx:=by
 have c:=g.lt;have n:¬M gp:=fun e=>(hm _ e).elim (fun e=>e.2.1 rfl) fun e=>absurd (c _ g.wp) (rR.2 e)
 have h2:¬M gm:=fun e=>(hm _ e).elim (fun e=>e.2.2 rfl) fun e=>absurd (c _ g.wm) (rR.2 e)
 obtain⟨m,f,j⟩:=g.map;exact⟨k.get g.blk n,⟨m,f.upd k h2,j.upd k fun b d=>(hm b d).imp (·.1) id⟩,g.wp,g.wm,fun b d=>aG (c b d) k.size,g.nd⟩
theorem GraphAt.upd0{W:Nat→Prop}{h b:af}{gp gm:Nat}{L:iZ}{nx:Int}(g:GraphAt W h gp gm L nx)(k:Upd No h b):GraphAt W b gp gm L nx:=g.upd k fun _ h=>h.elim
theorem GraphAt.c0{W:Nat→Prop}{h:af}{gp gm:Nat}{L:iZ}{nx:Int}(g:GraphAt W h gp gm L nx):bj h ⟨gp,0,none⟩=some (.map (some gm)):=by rw[bP g.blk];rfl
theorem GraphAt.c1{W:Nat→Prop}{h:af}{gp gm:Nat}{L:iZ}{nx:Int}(g:GraphAt W h gp gm L nx):bj h ⟨gp,1,none⟩=some (.int .u32 nx):=by rw[bP g.blk];rfl
abbrev ids(L:iZ):List Int:=L.map (·.1)
theorem QY{L:iZ}{id:Int}:(fW L id).isSome=decide (id∈ids L):=by
 cases h:fW L id with
 |none=>rw[decide_eq_false (uT.1 h)];rfl
 |some v=>
  have:id∈ids L:=by
   by_cases hm:id∈ids L
   ·exact hm
   ·rw[uT.2 hm]at h;cases h
  rw[decide_eq_true this];rfl
theorem Rep.some{W:Nat→Prop}{h:af}{m:List (Int×SliceV)}{L:iZ}(r:Rep W h m L)(id:Int):(fW m id).isSome=decide (id∈ids L):=by
 rw[←QY];rcases r id with⟨s,ps,b,h2,_⟩|⟨b,h2⟩<;>rw[b,h2]<;>rfl
theorem Rep.len{W:Nat→Prop}{h:af}{m:List (Int×SliceV)}{L:iZ}(r:Rep W h m L)(c:(m.map (·.1)).Nodup)(h2:(ids L).Nodup):m.length=L.length:=by
 have:(m.map (·.1)).Perm (ids L):=by
  rw[List.perm_ext_iff_of_nodup c h2];intro id;have:=r.some id;have b:id∈m.map (·.1)↔(fW m id).isSome=true:=by
   cases hl:fW m id with
   |none=>simp[uT.1 hl]
   |some v=>
    simp only[Option.isSome_some,iff_true];by_cases hm:id∈m.map (·.1)
    ·exact hm
    ·rw[uT.2 hm]at hl;cases hl
  rw[b,this,decide_eq_true_iff]
 have:=this.length_eq;simpa using this
def dup:List Int→Bool
 | [a,b]=>a==b
 |_=>false
def MI(ps:List Int):Int:=if ps.length>2∨dup ps=true then 1 else 0
def Eb(L:iZ)(ps:List Int):Int:=if ps.any (fun p=> !decide (p∈ids L))then 4 else if L.length≥1024 then 6 else 0
theorem Q3{W:Nat→Prop}{h:af}{gp gm:Nat}{L:iZ}{nx:Int}(g:GraphAt W h gp gm L nx){K:Int→af→Prop}(b:K nx h):
  HC PG f5 [.pointer (some ⟨gp,0,none⟩)] [.c (.int .u32)] K h:=by
 refine BC (some ⟨gp,0,none⟩) ?_;unfold vf ft;exact CondP.intro (fun e=>by cases e) fun _=>⟨_,rfl,_,g.c1,b⟩
end Go.Proofs
namespace Go.Proofs
open Go.Lift
def Dj(L:iZ)(id:Int)(ps:List Int):iZ:=L.takeWhile (fun v=>decide (v.1<id))++(id,ps)::L.dropWhile (fun v=>decide (v.1<id))
def UM(L:iZ)(nx:Int)(ps:List Int):(Int×Int)×iZ×Int:=
 if MI ps≠0 then((0,MI ps),L,nx)else if Eb L ps≠0 then((0,Eb L ps),L,nx)else if nx≥2147483648 then((0,6),L,nx)else((nx,0),Dj L nx ps,nx+1)
def Ud(L:iZ)(nx:Int)(id:Int)(ps:List Int):Int×iZ×Int:=
 if MI ps≠0∨id=0∨id≥2147483648∨ps.any (fun p=>decide (p≥id))=true then(1,L,nx)else if id∈ids L then(7,L,nx)else if Eb L ps≠0 then(Eb L ps,L,nx)else(0,Dj L id ps,if id+1>nx then id+1 else nx)
abbrev Lx(a b:Nat):Nat→Prop:=fun x=>x=a∨x=b
theorem IG{κ β:Type}[DecidableEq κ](l b:List (κ×β))(k:κ):fW (l++b) k=(fW l k).or (fW b k):=by
 induction l with
 |nil=>simp[fW]
 |cons p l ih=>
  obtain⟨k',u⟩:=p;simp only[List.cons_append,fW,ih];split<;>simp
theorem O4{L:iZ}{id:Int}{ps:List Int}(c:id∉ids L)(j:Int):fW (Dj L id ps) j=if j=id then some ps else fW L j:=by
 have d:∀p:Int×List Int→Bool,fW L j=(fW (L.takeWhile p) j).or (fW (L.dropWhile p) j):=fun p=>by rw[←IG,List.takeWhile_append_dropWhile]
 unfold Dj;rw[IG];simp only[fW];by_cases b:j=id
 ·subst b
  have:fW (L.takeWhile fun v=>decide (v.1<j)) j=none:=uT.2 fun hm=>c (by
   obtain⟨x,hx,e⟩:=bQ.1 hm
   exact bQ.2 ⟨x,List.takeWhile_subset _ hx,e⟩)
  rw[this];simp
 ·simp only[b,if_false]
  exact(d _).symm
theorem zX(L:iZ)(id:Int)(ps:List Int):(Dj L id ps).Perm ((id,ps)::L):=by
 unfold Dj;refine List.perm_middle.trans ?_;rw[List.takeWhile_append_dropWhile]
theorem insV_ids{L:iZ}{id:Int}{ps:List Int}:(ids (Dj L id ps)).Perm (id::ids L):=(zX L id ps).map _
theorem MW{L:iZ}{id:Int}{ps:List Int}(h:(ids L).Nodup)(b:id∉ids L):(ids (Dj L id ps)).Nodup:=by
 rw[insV_ids.nodup_iff];exact List.nodup_cons.2 ⟨b,h⟩
theorem Rep.put{W:Nat→Prop}{h b:af}{m:List (Int×SliceV)}{L:iZ}(r:Rep W h m L){id:Int}{s:SliceV}{ps:List Int}(k:∀s xs,Nums W h s xs→Nums W b s xs)(e:Nums W b s ps)(i:id∉ids L):Rep W b (EF m id s) (Dj L id ps):=fun j=>by
 rw[Pv,O4 i];by_cases c:j=id
 ·simp only[c,if_true];exact .inl ⟨s,ps,rfl,rfl,e⟩
 ·simp only[c,if_false]
  rcases r j with⟨s,ps,g,h2,d⟩|f
  ·exact .inl ⟨s,ps,g,h2,k s ps d⟩
  ·exact .inr f
theorem GraphAt.ne{W:Nat→Prop}{h:af}{gp gm:Nat}{L:iZ}{nx:Int}(g:GraphAt W h gp gm L nx):gm≠gp:=fun e=>by
 obtain⟨m,⟨ms,c,hm,_⟩,_⟩:=g.map;have:=hm.here;rw[e,g.blk]at this;cases this
theorem GraphAt.put{W:Nat→Prop}{h:af}{gp gm:Nat}{L:iZ}{nx:Int}(g:GraphAt W h gp gm L nx){id:Int}{s:SliceV}{ps:List Int}(o:Nums W h s ps)(q:id∉ids L)(j:Int):
  GraphAt W (hset (wZ h gm (.int .u32 id) (sv s)) ⟨gp,1,none⟩ (.int .u32 j)) gp gm (Dj L id ps) j∧Upd (Lx gp gm) h (hset (wZ h gm (.int .u32 id) (sv s)) ⟨gp,1,none⟩ (.int .u32 j))∧
   Wr (wZ h gm (.int .u32 id) (sv s)) ⟨gp,1,none⟩∧bj (wZ h gm (.int .u32 id) (sv s)) ⟨gp,1,none⟩=some (.int .u32 nx)∧Upd (Lx gp gm) h (wZ h gm (.int .u32 id) (sv s)):=by
 obtain⟨m,hm,t⟩:=g.map;have n:=g.ne;have k1:Upd (· =gm) h (wZ h gm (.int .u32 id) (sv s)):=P2 h _ _ rfl
 have c:=k1.get g.blk (Ne.symm n);have p:Upd (· =gp) (wZ h gm (.int .u32 id) (sv s)) (hset (wZ h gm (.int .u32 id) (sv s)) ⟨gp,1,none⟩ (.int .u32 j)):=Upd.hset _ _ rfl
 have i:Upd (Lx gp gm) h (wZ h gm (.int .u32 id) (sv s)):=k1.mono fun b f=>.inl (.inr f)
 have k:Upd (Lx gp gm) h (hset (wZ h gm (.int .u32 id) (sv s)) ⟨gp,1,none⟩ (.int .u32 j)):=i.trans p fun b f=>.inl (.inl f)
 have d:∀b,Lx gp gm b→W b∨h.size≤b:=fun b f=>.inl (f.elim (fun e=>e▸g.wp) fun e=>e▸g.wm)
 refine⟨⟨?_,⟨_,(MapAt.put hm id s).upd p n,t.put (fun s xs o=>o.upd k d) (o.upd k d) q⟩,g.wp,g.wm,fun b f=>aG (g.lt b f) k.size,MW g.nd q⟩,k,gI c (by simp),by rw[bP c];rfl,i⟩
 rw[oL c,fe c];rfl
end Go.Proofs
namespace Go.Proofs
open Go.Lift
theorem Tf{h:af}{K:Option Addr→af→Prop}(f:∀h',Upd No h h'→GraphAt (Lx (h.size+1) h.size) h' (h.size+1) h.size [] 1→K (some ⟨h.size+1,0,none⟩) h'):
  HC PG dR [] [.c .ptr] K h:=by
 refine LL ?_;unfold Er;have k1:=Upd.push No h (.map #[] 0);have hm:MapAt KE sv (h.push (.map #[] 0)) h.size []:=MapAt.new h;have d:=Upd.hnew No (h.push (.map #[] 0)) [.map (some h.size),.int .u32 1] gg;have c:(h.push (.map #[] 0)).size=h.size+1:=by simp
 have:=f _ (k1.tr d) ⟨by
  have:=c6 (h.push (.map #[] 0)) [.map (some h.size),.int .u32 1] gg
  rw[c]at this;exact this,⟨[],hm.upd d id,fun id=>.inr ⟨rfl,rfl⟩⟩,.inl rfl,.inr rfl,fun b e=>by rw[gS,c];rcases e with rfl|rfl<;>omega,fk⟩
 rw[←c]at this;exact this
end Go.Proofs
namespace Go.Proofs
open Go.Lift
abbrev parV(L:iZ)(id:Int):List Int:=(fW L id).getD []
inductive UpG(L:iZ):Int→Int→Prop
 |refl {a:Int}:a∈ids L→UpG L a a
 |step {a p b:Int}:a∈ids L→p∈parV L a→UpG L p b→UpG L a b
theorem UpG.left{L:iZ}{a b:Int}(h:UpG L a b):a∈ids L:=by cases h<;>assumption
theorem GraphAt.more{W Q:Nat→Prop}{d h:af}{gp gm:Nat}{L:iZ}{nx:Int}(g:GraphAt W d gp gm L nx)(k:Upd No d h)(e:∀b,Q b→d.size≤b∧b<h.size):GraphAt (fun b=>W b∨Q b) h gp gm L nx:=by
 obtain⟨m,hm,f⟩:=g.map;refine⟨k.get0 g.blk,⟨m,hm.upd k id,fun j=>?_⟩,.inl g.wp,.inl g.wm,fun b c=>c.elim (fun c=>aG (g.lt b c) k.size) fun c=>(e b c).2,g.nd⟩
 rcases f j with⟨s,ps,n,h2,i⟩|d
 ·exact .inl ⟨s,ps,n,h2,(i.less fun b c=>c.imp id fun c=>(e b c).1).upd k fun _ h=>h.elim⟩
 ·exact .inr d
theorem GraphAt.less{W W':Nat→Prop}{h:af}{gp gm:Nat}{L:iZ}{nx:Int}(g:GraphAt W h gp gm L nx)(e:∀b,W' b→W b)(d:W' gp)(h2:W' gm):GraphAt W' h gp gm L nx:=by
 obtain⟨m,hm,f⟩:=g.map;refine⟨g.blk,⟨m,hm,fun j=>?_⟩,d,h2,fun b c=>g.lt b (e b c),g.nd⟩
 rcases f j with⟨s,ps,d,h2,i⟩|k
 ·exact .inl ⟨s,ps,d,h2,i.less fun b c=>.inl (e b c)⟩
 ·exact .inr k
end Go.Proofs
namespace Go.Proofs
open Go.Lift
theorem T8{M:Nat→Prop}(h:af)(x:Int)(hM:M h.size):OwnS u32 1 lC M (hnew h [.int .u32 x] lC) ⟨some (aI h),1,1⟩ [x]:=
 ⟨rfl,IS,aq _,.inr ⟨h.size,[],rfl,hM,c6 ..,rfl⟩⟩
structure Small(L:iZ):Prop where
 two:∀v∈L,v.2.length≤2
 len:L.length≤100000
end Go.Proofs
namespace Go.Proofs
open Go.Lift
structure Good(L:iZ):Prop extends Small L where
 up:(ids L).Pairwise (· < ·)
 par:∀v∈L,∀p∈v.2,p∈ids L∧p<v.1
theorem Good.nd{L:iZ}(g:Good L):(ids L).Nodup:=g.up.imp fun h=>Int.ne_of_lt h
theorem Good.parV{L:iZ}(g:Good L){a p:Int}(h:p∈parV L a):p∈ids L∧p<a∧a∈ids L:=by
 unfold Proofs.parV at h;cases hl:fW L a with
 |none=>rw[hl]at h;simp at h
 |some ps=>
  rw[hl]at h;have hm:=(DB g.nd).1 hl;have:=g.par _ hm p (by simpa using h);exact⟨this.1,this.2,bQ.2 ⟨_,hm,rfl⟩⟩
theorem UpG.snoc{L:iZ}{a z w:Int}(h:UpG L a z)(b:w∈Proofs.parV L z)(hi:w∈ids L):UpG L a w:=by
 induction h with
 |refl h1=>exact .step h1 b (.refl hi)
 |step h1 h2 _ ih=>exact .step h1 h2 (ih b)
theorem UpG.right{L:iZ}{a b:Int}(h:UpG L a b):b∈ids L:=by
 induction h with
 |refl h=>exact h
 |step _ _ _ ih=>exact ih
theorem UpG.last{L:iZ}{a b:Int}(h:UpG L a b):b=a∨∃z,UpG L a z∧b∈Proofs.parV L z:=by
 induction h with
 |refl _=>exact .inl rfl
 | @step a p b h1 h2 h3 ih=>
  rcases ih with rfl|⟨z,d,c⟩
  ·exact .inr ⟨a,.refl h1,h2⟩
  ·exact .inr ⟨z,.step h1 h2 d,c⟩
theorem UpG.trans{L:iZ}{a b c:Int}(h:UpG L a b)(k:UpG L b c):UpG L a c:=by
 induction h with
 |refl _=>exact k
 |step h1 h2 _ ih=>exact .step h1 h2 (ih k)
end Go.Proofs
namespace Go.Proofs
open Go.Lift
structure Inv(L:iZ)(nx:Int):Prop where
 good:Good L
 pos:∀id∈ids L,1≤id∧id<nx
 nx1:1≤nx
 nx2:nx≤2147483648
 few:L.length≤1024
theorem Inv.nil:Inv [] 1:=⟨⟨⟨fun v hv=>(by cases hv),by simp⟩,fG,fun v hv=>(by cases hv)⟩,fun v hv=>(by cases hv),by omega,by omega,by simp⟩
theorem JF{id:Int}:∀{L:iZ},(ids L).Pairwise (· < ·)→id∉ids L→∀v∈L.dropWhile (fun v=>decide (v.1<id)),id<v.1
 | [],_,_,v,hv=>by cases hv
 |u::L,hp,hn,v,hv=>by
  simp only[ids,cx,bB,au,not_or]at hp hn;rw[List.dropWhile_cons]at hv;split at hv
  ·exact JF hp.2 hn.2 v hv
  ·rename_i h
   have h:¬u.1<id:=by simpa using h
   rcases au.1 hv with rfl|hv
   ·omega
   ·have:=hp.1 v.1 (bQ.2 ⟨v,hv,rfl⟩);omega
theorem NO{id:Int}:∀{L:iZ},∀v∈L.takeWhile (fun v=>decide (v.1<id)),v.1<id
 | [],v,hv=>by cases hv
 |u::L,v,hv=>by
  rw[List.takeWhile_cons]at hv;split at hv
  ·rename_i h
   rcases au.1 hv with rfl|hv
   ·simpa using h
   ·exact NO v hv
  ·cases hv
theorem Il{L:iZ}(g:Good L){id:Int}{ps:List Int}(i:id∉ids L)(f:∀p∈ps,p∈ids L∧p<id)(h2:ps.length≤2)(k:L.length<100000):Good (Dj L id ps):=by
 have b:=zX L id ps;refine⟨⟨fun v hv=>?_,by rw[b.length_eq];simp;omega⟩,?_,fun v hv p c=>?_⟩
 ·rcases au.1 (b.mem_iff.1 hv)with rfl|hv
  ·exact h2
  ·exact g.two v hv
 ·unfold Dj ids
  rw[List.map_append,cx,List.pairwise_append];refine⟨(g.up.sublist ((List.takeWhile_sublist _).map _)),bB.2 ⟨fun y d=>?_,g.up.sublist ((List.dropWhile_sublist _).map _)⟩,fun x hx y d=>?_⟩
  ·obtain⟨v,hv,rfl⟩:=bQ.1 d
   exact JF g.up i v hv
  ·obtain⟨u,j,rfl⟩:=bQ.1 hx
   have e:=NO u j;rcases au.1 d with rfl|d
   ·exact e
   ·obtain⟨v,hv,rfl⟩:=bQ.1 d
    have:=JF g.up i v hv;omega
 ·rw[insV_ids.mem_iff]
  rcases au.1 (b.mem_iff.1 hv)with rfl|hv
  ·exact⟨aR _ (f p c).1,(f p c).2⟩
  ·have:=g.par v hv p c
   exact⟨aR _ this.1,this.2⟩
theorem FY{L:iZ}{ps:List Int}(h:Eb L ps=0):(∀p∈ps,p∈ids L)∧L.length<1024:=by
 unfold Eb at h;split at h
 ·cases h
 ·rename_i h1
  split at h
  ·cases h
  ·rename_i h2
   refine⟨fun p b=>?_,by omega⟩
   by_cases hm:p∈ids L
   ·exact hm
   ·exact absurd (g8.2 ⟨p,b,by simpa using hm⟩) h1
theorem Ie{ps:List Int}(h:MI ps=0):ps.length≤2:=by
 unfold MI at h;split at h
 ·cases h
 ·rename_i h1
  have:=not_or.1 h1;omega
theorem Inv.add{L:iZ}{nx:Int}(v:Inv L nx)(ps:List Int):Inv (UM L nx ps).2.1 (UM L nx ps).2.2:=by
 unfold UM;split
 ·exact v
 ·rename_i d
  split
  ·exact v
  ·rename_i h2
   split
   ·exact v
   ·rename_i h3
    have d:MI ps=0:=by omega
    have h2:Eb L ps=0:=by omega
    obtain⟨e,g⟩:=FY h2;have f:nx∉ids L:=fun hm=>by have:=(v.pos nx hm).2;omega
    show Inv (Dj L nx ps) (nx+1)
    refine⟨Il v.good f (fun p c=>⟨e p c,(v.pos p (e p c)).2⟩) (Ie d) (by have:=v.few;omega),fun id b=>?_,by have:=v.nx1;omega,by omega,?_⟩
    ·rcases au.1 (insV_ids.mem_iff.1 b)with rfl|h
     ·have:=v.nx1;omega
     ·have:=v.pos id h;omega
    ·rw[(zX L nx ps).length_eq];simp;omega
theorem Inv.put{L:iZ}{nx:Int}(v:Inv L nx){id:Int}(i:0≤id)(ps:List Int):Inv (Ud L nx id ps).2.1 (Ud L nx id ps).2.2:=by
 unfold Ud;split
 ·exact v
 ·rename_i c
  have c:=not_or.1 c;have n:=c.1;have d:=not_or.1 c.2;have e:=not_or.1 d.2;split
  ·exact v
  ·rename_i h2
   split
   ·exact v
   ·rename_i f
    have m:MI ps=0:=by omega
    have f:Eb L ps=0:=by omega
    obtain⟨o,s⟩:=FY f;have q:=v.nx1;refine⟨Il v.good h2 (fun p g=>⟨o p g,?_⟩) (Ie m) (by have:=v.few;omega),fun j k=>?_,by simp only;split<;>omega,?_,?_⟩
    ·by_cases b:p<id
     ·exact b
     ·exact absurd (g8.2 ⟨p,g,by simpa using b⟩) e.2
    ·rcases au.1 (insV_ids.mem_iff.1 k)with rfl|h
     ·simp only;split<;>omega
     ·have:=v.pos j h;simp only;split<;>omega
    ·have:=v.nx2;simp only;split<;>omega
    ·rw[(zX L id ps).length_eq];simp;omega
theorem Inv.drop{L:iZ}{nx:Int}(v:Inv L nx){keep st:List Int}(d:∀y,y∈st↔∃k∈keep,UpG L k y):Inv (L.filter fun v=>decide (v.1∈st)) nx:=by
 have b:∀id,id∈ids (L.filter fun v=>decide (v.1∈st))↔id∈ids L∧id∈st:=fun id=>by
  unfold ids;simp only[bQ,dP,decide_eq_true_iff];constructor
  ·rintro⟨u,⟨c,h2⟩,rfl⟩;exact⟨⟨u,c,rfl⟩,h2⟩
  ·rintro⟨⟨u,c,rfl⟩,h2⟩;exact⟨u,⟨c,h2⟩,rfl⟩
 refine⟨⟨⟨fun u g=>v.good.two u (dP.1 g).1,dj (rq ..) v.good.len⟩,v.good.up.sublist ((List.filter_sublist).map _),fun u g p j=>?_⟩,fun id e=>v.pos id ((b id).1 e).1,v.nx1,v.nx2,dj (rq ..) v.few⟩
 obtain⟨c,h2⟩:=dP.1 g;obtain⟨i,n⟩:=v.good.par u c p j;refine⟨(b p).2 ⟨i,?_⟩,n⟩;obtain⟨k,m,f⟩:=(d _).1 (of_decide_eq_true h2);refine(d p).2 ⟨k,m,f.snoc ?_ i⟩;have:fW L u.1=some u.2:=(DB v.good.nd).2 c;simp[parV,this,j]
end Go.Proofs
namespace Go.Proofs
open Go Go.Lift
abbrev Ul:KeyE ByteArray:=⟨fun s=>.string s,.str,fun x=>⟨x,rfl⟩,fun x y=>⟨fun e=>yc e,fun e=>by subst e;exact y8 x⟩⟩
abbrev TD:=Tr×List Pr
abbrev tdV(d:TD):Value:=U7 d.1
abbrev Wm(n:Int):Value:=.int .u32 n
structure VS where
 gp:Nat
 gm:Nat
 tm:Nat
 bm:Nat
 nm:Nat
 kind:Int
 x:Hs
 e:Tr
 L:iZ
 nx:Int
 D:List (Int×TD)
 B:List (ByteArray×Int)
 G:List (ByteArray×Int)
def VS.M(s:VS):Nat→Prop:=fun y=>y=s.gp∨y=s.gm∨y=s.tm∨y=s.bm∨y=s.nm
structure VaultAt(W:Nat→Prop)(h:af)(vp:Nat)(s:VS):Prop where
 blk:h[vp]? =some (.cells (py s.e++ [Value.pointer (some ⟨s.gp,0,none⟩),Value.map (some s.tm),Value.map (some s.bm),Value.map (some s.nm)]).toArray cj (0,0))
 g:GraphAt W h s.gp s.gm s.L s.nx
 t:MapAt KE tdV h s.tm s.D
 b:MapAt Ul Wm h s.bm s.B
 n:MapAt Ul Wm h s.nm s.G
 w:∀y,s.M y→W y
 wv:¬W vp
 ne: [s.gp,s.gm,s.tm,s.bm,s.nm].Nodup
 em:TreeIs W h s.kind s.x s.e []
 ts:∀d∈s.D,TreeIs W h s.kind s.x d.2.1 d.2.2∧mL d.2.2∧Fit d.2.2
 sub:∀id,id∈s.D.map (·.1)↔id∈ids s.L
 inv:Inv s.L s.nx
 kd:s.kind=0∨s.kind=1
theorem VaultAt.upd{W M:Nat→Prop}{h n:af}{f:Nat}{s:VS}(v:VaultAt W h f s)(k:Upd M h n)(hm:∀b,M b→(W b∧¬s.M b)∨h.size≤b):VaultAt W n f s:=by
 have i:∀y,s.M y→¬M y:=fun y j c=>(hm y c).elim (fun e=>e.2 j) fun e=>absurd (v.g.lt y (v.w y j)) (by omega)
 have m:∀b,M b→W b∨h.size≤b:=fun b c=>(hm b c).imp (·.1) id
 have hv:¬M f:=fun c=>(hm f c).elim (fun e=>v.wv e.1) fun e=>absurd (bo v.blk) (by omega)
 exact⟨k.get v.blk hv,v.g.upd k fun b c=>(hm b c).imp (fun e=>⟨e.1,fun g=>e.2 (.inl g),fun g=>e.2 (.inr (.inl g))⟩) id,v.t.upd k (i _ (.inr (.inr (.inl rfl)))),v.b.upd k (i _ (.inr (.inr (.inr (.inl rfl))))),v.n.upd k (i _ (.inr (.inr (.inr (.inr rfl))))),v.w,v.wv,v.ne,v.em.updM k m,fun d hd=>⟨(v.ts d hd).1.updM k m,(v.ts d hd).2⟩,v.sub,v.inv,v.kd⟩
theorem VaultAt.upd0{W:Nat→Prop}{h c:af}{b:Nat}{s:VS}(v:VaultAt W h b s)(k:Upd No h c):VaultAt W c b s:=v.upd k fun _ h=>h.elim
end Go.Proofs
namespace Go.Proofs
open Go Go.Lift
theorem Js{h:af}{r:Nat}{es:Array MapEntry}{b:Nat}(t:TypeId)(c:h[r]? =some (.map es b)) {K:Value→af→Prop} (f:K (.iface t (.map (some h.size))) (h.push (.map es b))):
  HC PG xK [.iface t (.map (some r))] [.c .raw] K h:=by
 refine⟨fun w d=>.inr ?_⟩
 subst d;have g:(getObj r).run PG w=.ok (.map es b) w:=by simp[getObj,Sem.run,c]
 refine⟨.iface t (.map (some w.heap.size)),w.alloc (.map es b),?_,⟨rfl,rfl,rfl⟩,_,rfl,f⟩;rw[JR];have e:Extern.MapsClone.clone #[.iface t (.map (some r))]=(getObj r>>=fun o=>match o with
   | .map entries b=>(newObj (.map entries b)>>=fun n=>pure (.iface t (.map (some n))))
   |_=>stuck "maps.clone: a map expected"):=rfl
 rw[show([Value.iface t (.map (some r))]:List Value).toArray= #[.iface t (.map (some r))]from rfl,e]
 simp only[Sem.run_bind,g,Result.andThen_ok];rfl
theorem Q6{W:Nat→Prop}{h:af}{gp gm:Nat}{L:iZ}{nx:Int}(g:GraphAt W h gp gm L nx)
  {K:Option Addr→af→Prop}(z:∀h',Upd No h h'→GraphAt (fun b=>W b∨b=h.size+1∨b=h.size) h' gp gm L nx→GraphAt (fun b=>W b∨b=h.size+1∨b=h.size) h' (h.size+1) h.size L nx→K (some ⟨h.size+1,0,none⟩) h'):
  HC PG pH [.pointer (some ⟨gp,0,none⟩)] [.c .ptr] K h:=by
 refine BD (some ⟨gp,0,none⟩) ?_;unfold vg aW ft;refine CondP.intro (fun e=>by cases e) fun _=>⟨_,rfl,_,g.c0,_,rfl,_,g.c1,?_⟩
 refine pQ (some gm) ?_;unfold jD;refine CondP.intro (fun e=>by cases e) fun _=>?_
 obtain⟨m,⟨ms,c,hm,v⟩,t⟩:=g.map;refine Js _ hm.here ⟨_,rfl,?_⟩;have k1:=Upd.push No h (.map (ms.map (Dh KE sv)).toArray c);have f:MapAt KE sv (h.push (.map (ms.map (Dh KE sv)).toArray c)) h.size m:=⟨ms,c,⟨qo h _,hm.keys,hm.nums,hm.old⟩,v⟩;refine⟨(g.upd0 k1).c1,?_⟩;have d:(h.push (.map (ms.map (Dh KE sv)).toArray c)).size=h.size+1:=by simp
 generalize (h.push (.map (ms.map (Dh KE sv)).toArray c))=h1 at k1 f d;have i:=Upd.hnew No h1 [.map (some h.size),.int .u32 nx] gg;have b2:=c6 h1 [.map (some h.size),.int .u32 nx] gg;have x:=gS h1 [.map (some h.size),.int .u32 nx] gg;simp only[At,eS];rw[d]at b2⊢;generalize hnew h1 [.map (some h.size),.int .u32 nx] gg=h2 at i b2 x
 have k:=k1.tr i;have o:∀b,(b=h.size+1∨b=h.size)→h.size≤b∧b<h2.size:=fun b n=>by omega
 have p:=g.more (Q:=fun b=>b=h.size+1∨b=h.size) k o
 refine⟨((g.upd0 k1).upd0 i).c1,z h2 k p ⟨b2,⟨m,f.upd i id,?_⟩,.inr (.inl rfl),.inr (.inr rfl),p.lt,g.nd⟩⟩;intro j;rcases t j with⟨s,ps,w,y,u⟩|q
 ·exact .inl ⟨s,ps,w,y,(u.less fun b n=>n.imp id fun n=>(o b n).1).upd k fun _ h=>h.elim⟩
 ·exact .inr q
end Go.Proofs
namespace Go.Proofs
open Go Go.Lift
section
variable {W:Nat→Prop} {h:af} {vp:Nat} {s:VS}
abbrev pV(b:Nat):Value:=.pointer (some ⟨b,0,none⟩)
theorem Oy(v:VaultAt W h vp s){K:Tr→af→Prop}(d:∀h',Upd No h h'→K s.e h'):HC PG gC [pV vp] [.agg [.int .i64,.int .u64,.int .u64,.int .u64,.ptr,.ptr]] K h:=by
 refine Ak (some ⟨vp,0,none⟩) ?_;unfold tK fA aC ag cq bW ar bZ kJ yw;refine bO fun f b1 k1=>CondP.intro (fun e=>by cases e) fun _=>⟨_,rfl,?_⟩
 have c:=k1.get0 v.blk;refine⟨_,Fe c 0 0,_,Fe c 0 1,_,Fe c 0 2,_,Fe c 0 3,_,Fe c 0 4,_,Fe c 0 5,?_⟩;refine eE (c:=py vX) (vs:=py s.e) b1 rfl fun h2 b2 b=>?_
 exact⟨_,vc b2 0,_,vc b2 1,_,vc b2 2,_,vc b2 3,_,vc b2 4,_,vc b2 5,d h2 (k1.own b (aq _))⟩
theorem Ox(v:VaultAt W h vp s){K:Option Addr→af→Prop}(f:∀c,Upd No h c→GraphAt (fun b=>W b∨b=h.size+1∨b=h.size) c (h.size+1) h.size s.L s.nx→K (some ⟨h.size+1,0,none⟩) c):HC PG iY [pV vp] [.c .ptr] K h:=by
 refine Aj (some ⟨vp,0,none⟩) ?_;unfold tJ bZ;exact CondP.intro (fun e=>by cases e) fun _=>⟨_,rfl,_,vc v.blk 6,Q6 v.g fun c d _ g=>f c d g⟩
end
end Go.Proofs
namespace Go.Proofs
open Go Go.Lift
end Go.Proofs
namespace Go.Proofs
open Go Go.Lift
section
variable {M:Nat→Prop} {h:af} {s:SliceV} {xs ys:List Int}
end
end Go.Proofs
namespace Go.Proofs
open Go Go.Lift
theorem RW{h:af}{k:af→Prop}(b:∀h',h'=h→k h'):At h k:=dx (b h rfl)
section
variable {W:Nat→Prop} {h0 h:af} {vp:Nat} {s:VS}
theorem VaultAt.size(v:VaultAt W h vp s){y:Nat}(b:s.M y):y<h.size:=v.g.lt y (v.w y b)
end
end Go.Proofs
namespace Go.Proofs
open Go Go.Lift
section
variable {W:Nat→Prop} {h:af} {vp:Nat} {s:VS}
end
end Go.Proofs
namespace Go.Proofs
open Go Go.Lift
end Go.Proofs
namespace Go.Proofs
open Go Go.Lift
end Go.Proofs
namespace Go.Proofs
open Go Go.Lift
abbrev b1:ByteArray:=⟨#[49]⟩
abbrev b2:ByteArray:=⟨#[50]⟩
abbrev b3:ByteArray:=⟨#[51]⟩
end Go.Proofs
namespace Go.Proofs
open Go Go.Lift
def look(l:List Pr)(k:ByteArray):Option ByteArray:=(l.find? fun p=>decide (p.1=k)).map (·.2)
end Go.Proofs
namespace Go.Proofs
open Go Go.Lift
section
variable {W:Nat→Prop} {h:af} {vp:Nat} {s:VS}
end
end Go.Proofs
namespace Go.Proofs
open Go Go.Lift
structure NSt(h8:af)(b:Nat)(t:Tr)(h:af)(ps ms:List Nat):Prop where
 k:Upd No h8 h
 blk:h[b]? =some (.cells (py t).toArray cn (0,0))
 gs:∀p∈ps,GraphAt (Lx (p+1) p) h (p+1) p [] 1∧h8.size≤p
 mp:∀m∈ms,h[m]? =some (.map #[] 0)∧h8.size≤m
section
variable {h8 h h':af} {b:Nat} {t:Tr} {ps ms:List Nat}
theorem NSt.upd(n:NSt h8 b t h ps ms)(k:Upd No h h'):NSt h8 b t h' ps ms:=
 ⟨n.k.tr k,k.get0 n.blk,fun p c=>⟨(n.gs p c).1.upd0 k,(n.gs p c).2⟩,fun m hm=>⟨k.get0 (n.mp m hm).1,(n.mp m hm).2⟩⟩
theorem NSt.rds(n:NSt h8 b t h ps ms):bj h (adr ⟨b,0,none⟩ 0)=some (.int .i64 t.1)∧bj h (adr ⟨b,0,none⟩ 1)=some (.int .u64 t.2.1)∧bj h (adr ⟨b,0,none⟩ 2)=some (.int .u64 t.2.2.1)∧bj h (adr ⟨b,0,none⟩ 3)=some (.int .u64 t.2.2.2.1)∧bj h (adr ⟨b,0,none⟩ 4)=some (.pointer t.2.2.2.2.1)∧bj h (adr ⟨b,0,none⟩ 5)=some (.pointer t.2.2.2.2.2):=
 ⟨vc n.blk 0,vc n.blk 1,vc n.blk 2,vc n.blk 3,vc n.blk 4,vc n.blk 5⟩
theorem NSt.map(n:NSt h8 b t h ps ms){k:af→Prop}(e:∀h',NSt h8 b t h' ps (h.size::ms)→h.size<h'.size→k h'):At (Array.push h (.map #[] 0)) k:=by
 have d:=Upd.push No h (.map #[] 0);have c:=n.upd d;refine dx (e _ ⟨c.k,c.blk,c.gs,fun m hm=>?_⟩ (by simp))
 rcases au.1 hm with rfl|hm
 ·exact⟨qo h _,n.k.size⟩
 ·exact c.mp m hm
theorem NSt.graph(n:NSt h8 b t h ps ms){K:Option Addr→af→Prop}(f:∀h',NSt h8 b t h' (h.size::ps) ms→h.size+1<h'.size→K (some ⟨h.size+1,0,none⟩) h'):HC PG dR [] [.c .ptr] K h:=by
 refine Tf fun h' e g=>?_
 have c:=n.upd e;refine f h' ⟨c.k,c.blk,fun p d=>?_,c.mp⟩ (g.lt _ (.inl rfl))
 rcases au.1 d with rfl|d
 ·exact⟨g,n.k.size⟩
 ·exact c.gs p d
theorem NSt.put(n:NSt h8 b t h ps ms){cs:List Value}{ty:TypeId}{k:af→Prop}(d:∀h',NSt h8 b t h' ps ms→h'[h.size]? =some (.cells cs.toArray ty (0,0))→h8.size≤h.size→k h'):At (hnew h cs ty) k:=
 bO fun h' c k'=>d h' (n.upd k') c n.k.size
theorem NSt.done{W:Nat→Prop}{kind:Int}{x:Hs}(n:NSt h8 b t h ps ms)(z:∀y,W y→y<h8.size)(i:TreeIs W h8 kind x t [])(w:kind=0∨kind=1){f p q j k:Nat}{K:Option Addr×Int→af→Prop}
  (C:∀h' vp gp gm tm bm nm,VaultAt (fun y=>W y∨VS.M ⟨gp,gm,tm,bm,nm,kind,x,t,[],1,[],[],[]⟩ y) h' vp ⟨gp,gm,tm,bm,nm,kind,x,t,[],1,[],[],[]⟩→h8.size≤vp→(∀y,VS.M ⟨gp,gm,tm,bm,nm,kind,x,t,[],1,[],[],[]⟩ y→h8.size≤y)→Upd No h8 h'→K (some ⟨vp,0,none⟩,0) h')
  (A:h[f]? =some (.cells (py t++ [Value.pointer (some ⟨p+1,0,none⟩),Value.map (some q),Value.map (some j),Value.map (some k)]).toArray cj (0,0)))
  (hv:h8.size≤f) (o:∀m∈(p+1)::p::ms,f≠m) (B:p∈ps) (u:q∈ms) (h2:j∈ms) (s:k∈ms) (ne: [p+1,p,q,j,k].Nodup):K (some ⟨f,0,none⟩,0) h:=by
 obtain⟨g,D⟩:=n.gs p B;have hM:∀y,VS.M ⟨p+1,p,q,j,k,kind,x,t,[],1,[],[],[]⟩ y→h8.size≤y∧y<h.size∧f≠y:=fun y c=>by
  rcases c with e|e|e|e|e<;>(simp only at e;subst e)
  ·exact⟨by omega,g.lt _ (.inl rfl),o _ (by simp)⟩
  ·exact⟨D,g.lt _ (.inr rfl),o _ (by simp)⟩
  ·exact⟨(n.mp _ u).2,bo (n.mp _ u).1,o _ (by simp[u])⟩
  ·exact⟨(n.mp _ h2).2,bo (n.mp _ h2).1,o _ (by simp[h2])⟩
  ·exact⟨(n.mp _ s).2,bo (n.mp _ s).1,o _ (by simp[s])⟩
 obtain⟨m,hm,v⟩:=g.map;have em:∀{κ β:Type} {E:KeyE κ} {g:β→Value} {r:Nat},h[r]? =some (.map #[] 0)→MapAt E g h r []:=fun v=>⟨[],0,⟨v,fk,fk,fun _ h=>by cases h⟩,rfl⟩
 refine C h f (p+1) p q j k ⟨A,⟨g.blk,⟨m,hm,fun id=>(v id).elim (fun⟨_,_,_,e,_⟩=>by cases e) .inr⟩,.inr (.inl rfl),.inr (.inr (.inl rfl)),fun y c=>c.elim (fun e=>aG (z y e) n.k.size) fun e=>(hM y e).2.1,g.nd⟩,em (n.mp _ u).1,em (n.mp _ h2).1,em (n.mp _ s).1,fun y c=>.inr c,fun c=>c.elim (fun e=>by have:=z _ e;omega) fun e=>(hM _ e).2.2 rfl,ne,?_,fun d hd=>(by cases hd),fun id=>Iff.rfl,Inv.nil,w⟩ hv (fun y c=>(hM y c).1) n.k
 exact(i.less fun y c=>c.imp id fun e=>(hM y e).1).upd0 n.k
end
theorem SA{W:Nat→Prop}{h:af}(s:∀y,W y→y<h.size){kind:Int}(p:kind=0∨kind=1){x:Hs}{K:Option Addr×Int→af→Prop}
  (C:∀f g gp gm tm bm nm t,VaultAt (fun y=>W y∨VS.M ⟨gp,gm,tm,bm,nm,kind,x,t,[],1,[],[],[]⟩ y) f g ⟨gp,gm,tm,bm,nm,kind,x,t,[],1,[],[],[]⟩→h.size≤g→(∀y,VS.M ⟨gp,gm,tm,bm,nm,kind,x,t,[],1,[],[],[]⟩ y→h.size≤y)→Upd No h f→K (some ⟨g,0,none⟩,0) f):
  HC PG yU [.int .i64 kind,.agg #[.int .u64 x.k0,.int .u64 x.k1,.int .u64 x.mask]] [.c .ptr,.c (.int .i64)] K h:=by
 refine LD kind (x.k0,x.k1,x.mask) ?_;unfold Ej nv aC ag GY ar H6 kJ oq;refine bO fun J b1 k1=>⟨_,vc b1 0,_,vc b1 1,_,vc b1 2,?_⟩
 refine ER (W:=W) (x:=x) (fun y d=>aG (s y d) k1.size) p fun B t i A=>?_
 have o:=k1.tr A;refine bO fun I D u=>eE (c:=py vX) (vs:=py t) D rfl fun j k m=>aH.2 ?_
 have b:Upd No h j:=(o.tr u).own m o.size;have E:TreeIs W j kind x t []:=((i.less (W':=fun y=>W y∨y=B.size) fun y d=>d.imp id fun e=>Nat.le_of_eq e.symm).updM (u.wide.tr (m.mono fun _ e=>.inl (.inr e))) fun y d=>.inl d).less fun y d=>.inl (.inl d)
 have w:∀y,W y→y<j.size:=fun y d=>aG (s y d) b.size
 have q:∀f g gp gm tm bm nm,VaultAt (fun y=>W y∨VS.M ⟨gp,gm,tm,bm,nm,kind,x,t,[],1,[],[],[]⟩ y) f g ⟨gp,gm,tm,bm,nm,kind,x,t,[],1,[],[],[]⟩→j.size≤g→(∀y,VS.M ⟨gp,gm,tm,bm,nm,kind,x,t,[],1,[],[],[]⟩ y→j.size≤y)→Upd No j f→K (some ⟨g,0,none⟩,0) f:=
  fun f g gp gm tm bm nm v hv hM H=>C f g gp gm tm bm nm t v (dj b.size hv) (fun y d=>dj b.size (hM y d)) (b.tr H)
 have n:NSt j B.size t j [] []:=⟨Upd.refl _ _,k,fun _ h=>(by cases h),fun _ h=>(by cases h)⟩
 refine⟨_,vc k 0,_,vc k 1,_,vc k 2,_,vc k 3,_,vc k 4,_,vc k 5,?_⟩;clear C b s k m o i A u D b1 k1;repeat' first
  |refine⟨n.rds,?_⟩
  |refine n.graph fun _ n z=>?_
  |refine n.map fun _ n z=>?_
  |refine n.put fun _ n F G=>?_
  |exact n.done w E p q F G (by simp;omega) (by simp) (by simp) (by simp) (by simp) (by simp;omega)
  |refine And.intro ?_ ?_
end Go.Proofs
namespace Go.Proofs
open Go Go.Lift
theorem _root_.Go.Lift.Upd.fresh{M:Nat→Prop}{h b h2:af}(k:Upd No h b)(u:Upd M b h2)(hM:∀y,M y→h.size≤y):Upd No h h2:=k.trans u fun y c=>.inr (hM y c)
end Go.Proofs
namespace Go.Proofs
open Go Go.Lift
end Go.Proofs
namespace Go.Proofs
open Go Go.Lift
theorem S5{α:Type}{l:List α}{i:Nat}{a b:α}(h:b∈l.set i a):b=a∨∃j,j≠i∧l[j]? =some b:=by
 obtain⟨j,c⟩:=List.getElem?_of_mem h;rw[List.getElem?_set]at c;split at c
 ·split at c
  ·cases c;exact .inl rfl
  ·cases c
 ·exact .inr ⟨j,by omega,c⟩
def sb(s:SliceV)(y:Nat):Prop:=s.cap≠0∧∃a,s.a=some a∧y=a.block
section
variable {α:Type} {f:α→List Value} {sz:Nat} {ty:TypeId} {M:Nat→Prop} {h:af} {s so:SliceV} {xs out:List α}
theorem _root_.Go.Lift.OwnS.sub(o:OwnS f sz ty M h s xs):∀y,sb s y→M y∧y<h.size:=fun y ⟨hc,a,g,c⟩=>by
 rcases o.blk with i|⟨b,d,e,hm,j,_⟩
 ·exact absurd i hc
 ·rw[g]at e
  cases e;exact⟨c▸hm,c▸bo j⟩
theorem _root_.Go.Lift.OwnS.its(o:OwnS f sz ty M h s xs):OwnS f sz ty (sb s) h s xs:=by
 refine⟨o.len,o.ne,o.cap,?_⟩;by_cases hc:s.cap=0
 ·exact .inl hc
 ·rcases o.blk with g|⟨b,c,d,hm,i,e⟩
  ·exact absurd g hc
  ·exact .inr ⟨b,c,d,⟨hc,_,d,rfl⟩,i,e⟩
theorem jc{a:Option Addr}{n:Nat}:∀y,¬sb ⟨a,n,0⟩ y:=fun _ h=>h.1 rfl
theorem _root_.Go.Lift.OwnS.one{x:α}{b:Nat}(c:∀x,(f x).length=sz∧0<sz)(d:h[b]? =some (.cells (f x).toArray ty (0,0))):OwnS f sz ty (sb ⟨some ⟨b,0,none⟩,1,1⟩) h ⟨some ⟨b,0,none⟩,1,1⟩ [x]:=
 ⟨rfl,c,aq _,.inr ⟨b,[],rfl,⟨by simp,_,rfl,rfl⟩,by simpa using d,by simp⟩⟩
theorem UK{bytes:Nat}{z:List Value}{t:α}{b:Nat}{K:SliceV→af→Prop}(j:OwnS f sz ty (sb so) h so out)(m:h[b]? =some (.cells (f t).toArray ty (0,0))) (e:cI (f t)=true) (k:z.length=sz) (d:0<bytes∧bytes≤64) (o:out.length+1≤1000000)
  (n:∀s' c,OwnS f sz ty (sb s') c s' (out++ [t])→Upd (sb so) h c→(∀y,sb s' y→(sb so y∨h.size≤y)∧y<c.size)→K s' c):
  ∃xs,SRow h (some ⟨b,0,none⟩) (1*sz) xs∧AppP (some z) sz bytes ty so.a so.len so.cap 1 xs h K:=by
 refine⟨_,((OwnS.one j.ne m).sl (W:=No) fun _ _ _ h=>h).srow,?_⟩
 refine AppP.own (M:=fun y=>sb so y∨h.size≤y) (ys:= [t]) (j.more fun y i=>.inl i) rfl rfl (by simpa using e) k d.1 ?_ (.inr (aq _)) fun s' c g p=>n s' c g.its (p.mono fun y i=>i) g.sub
 simp only[aQ];calc (out.length+1)*bytes≤1000000*64:=Nat.mul_le_mul o d.2
  _≤140737488355328:=by omega
end
structure Sp where
 T:Nat→Prop
 Q:af→Prop
 loc:∀{M:Nat→Prop} {h h':af},Q h→Upd M h h'→(∀y,T y→¬M y)→Q h'
def co(b:Nat)(cs:List Value)(t:TypeId):Sp:=⟨(· =b),fun h=>h[b]? =some (.cells cs.toArray t (0,0)),fun q k c=>k.get q (c _ rfl)⟩
def bI{α:Type}(f:α→List Value)(c:Nat)(ty:TypeId)(s:SliceV)(xs:List α):Sp:=⟨sb s,fun h=>OwnS f c ty (sb s) h s xs,fun q k b=>q.upd k b⟩
def AL(Ss:List Sp)(y:Nat):Prop:=∃s∈Ss,s.T y
structure Own(Ss:List Sp)(h:af):Prop where
 q:∀s∈Ss,s.Q h
 lt:∀s∈Ss,∀y,s.T y→y<h.size
 pd:∀(i j:Nat) (a b:Sp),Ss[i]? =some a→Ss[j]? =some b→i≠j→∀y,a.T y→¬b.T y
section
variable {Ss:List Sp} {h h':af} {M:Nat→Prop} {s s':Sp} {i:Nat}
theorem Own.get(o:Own Ss h)(hi:Ss[i]? =some s):s.Q h:=o.q s (ak hi)
theorem Own.away(o:Own Ss h)(k:Upd M h h')(hm:∀y,AL Ss y→¬M y):Own Ss h':=
 ⟨fun s b=>s.loc (o.q s b) k fun y c=>hm y ⟨s,b,c⟩,fun s b y c=>aG (o.lt s b y c) k.size,o.pd⟩
theorem Own.nil:Own [] h:=⟨(fun _ h=>by cases h),(fun _ h=>by cases h),(fun i j a b h=>by simp at h)⟩
theorem Own.set(o:Own Ss h)(hi:Ss[i]? =some s) (k:Upd M h h') (hm:∀y,M y→s.T y∨h.size≤y) (q:s'.Q h') (w:∀y,s'.T y→(s.T y∨h.size≤y)∧y<h'.size):Own (Ss.set i s') h':=by
 have z:i<Ss.length:=(aY.1 hi).1;have val:∀{j:Nat} {a:Sp},(Ss.set i s')[j]? =some a→(j=i∧a=s')∨(j≠i∧Ss[j]? =some a):=fun{j a} c=>by
  by_cases e:j=i
  ·subst e;rw[List.getElem?_set_self z]at c;cases c;exact .inl ⟨rfl,rfl⟩
  ·rw[List.getElem?_set_ne (Ne.symm e)]at c;exact .inr ⟨e,c⟩
 have one:∀{j:Nat} {a:Sp},j≠i→Ss[j]? =some a→∀y,a.T y→¬s'.T y:=fun{j a} f c y d h'=>
  (w y h').1.elim (o.pd j i a s c hi f y d) fun h=>by have:=o.lt a (ak c) y d;omega
 refine⟨fun a c=>?_,fun a c y d=>?_,fun p j a b c x m y d g=>?_⟩
 ·obtain⟨j,f⟩:=List.getElem?_of_mem c
  rcases val f with⟨_,rfl⟩|⟨u,f⟩
  ·exact q
  ·refine a.loc (o.get f) k fun y d hM=>?_
   rcases hm y hM with h|h
   ·exact o.pd j i a s f hi u y d h
   ·have:=o.lt a (ak f) y d;omega
 ·obtain⟨j,f⟩:=List.getElem?_of_mem c
  rcases val f with⟨_,rfl⟩|⟨u,f⟩
  ·exact(w y d).2
  ·exact aG (o.lt a (ak f) y d) k.size
 ·rcases val c with⟨n,rfl⟩|⟨n,v⟩<;>rcases val x with⟨h2,rfl⟩|⟨h2,t⟩
  ·exact m (n.trans h2.symm)
  ·exact one h2 t y g d
  ·exact one n v y d g
  ·exact o.pd p j a b v t m y d g
theorem Own.push(o:Own Ss h)(k:Upd No h h')(q:s'.Q h')(g:∀y,s'.T y→h.size≤y∧y<h'.size):Own (Ss++ [s']) h':=by
 have val:∀{j:Nat} {a:Sp},(Ss++ [s'])[j]? =some a→(j=Ss.length∧a=s')∨Ss[j]? =some a:=fun{j a} c=>by
  rw[List.getElem?_append]at c;split at c
  ·exact .inr c
  ·have:j-Ss.length=0:=by have:=(aY.1 c).1;simp only[aQ]at this;omega
   rw[this]at c;cases c;exact .inl ⟨by omega,rfl⟩
 have mem:∀{a},a∈Ss++ [s']→a∈Ss∨a=s':=fun h=>(List.mem_append.1 h).imp id List.mem_singleton.1
 refine⟨fun a c=>?_,fun a c y e=>?_,fun p j a b c n f y e d=>?_⟩
 ·rcases mem c with c|rfl
  ·exact a.loc (o.q a c) k fun _ _ h=>h
  ·exact q
 ·rcases mem c with c|rfl
  ·exact aG (o.lt a c y e) k.size
  ·exact(g y e).2
 ·rcases val c with⟨s,rfl⟩|m<;>rcases val n with⟨h2,rfl⟩|i
  ·omega
  ·have:=o.lt b (ak i) y d;have:=(g y e).1;omega
  ·have:=o.lt a (ak m) y e;have:=(g y d).1;omega
  ·exact o.pd p j a b m i f y e d
theorem DC(hi:Ss[i]? =some s) {z:Nat} (c:∀y,s'.T y→s.T y∨z≤y):∀y,AL (Ss.set i s') y→AL Ss y∨z≤y:=fun y ⟨a,d,b⟩=>by
 rcases S5 d with rfl|⟨j,_,e⟩
 ·exact(c y b).imp (fun h=>⟨s,ak hi,h⟩) id
 ·exact .inl ⟨a,ak e,b⟩
end
theorem GraphAt.re{W W' M:Nat→Prop}{h d:af}{gp gm:Nat}{L:iZ}{nx:Int}(g:GraphAt W h gp gm L nx)(k:Upd M h d)(hm:∀b,M b→(W b∧b≠gp∧b≠gm)∨h.size≤b)(n:∀b,W' b→(W b∨h.size≤b)∧b<d.size)(f:W' gp)(h2:W' gm):GraphAt W' d gp gm L nx:=by
 have t:=g.upd k hm;obtain⟨m,i,o⟩:=g.map;refine⟨t.blk,⟨m,i.upd k fun e=>(hm _ e).elim (fun e=>e.2.2 rfl) fun e=>absurd (g.lt _ g.wm) (rR.2 e),fun j=>?_⟩,f,h2,fun b c=>(n b c).2,g.nd⟩
 rcases o j with⟨s,ps,f,h2,p⟩|q
 ·exact .inl ⟨s,ps,f,h2,((p.less (W':=fun b=>W b∨h.size≤b) fun b c=>c).upd k fun b c=>.inl ((hm b c).imp (·.1) id)).less fun b c=>.inl (n b c).1⟩
 ·exact .inr q
theorem TreeIs.re{W W' M:Nat→Prop}{h d:af}{kind:Int}{x:Hs}{t:Tr}{l:List Pr}(i:TreeIs W h kind x t l)(k:Upd M h d)(hm:∀b,M b→W b∨h.size≤b)(e:∀b,W' b→W b∨h.size≤b):TreeIs W' d kind x t l:=
 ((i.less (W':=fun b=>W b∨h.size≤b) fun b c=>c).updM k fun b c=>.inl (hm b c)).less fun b c=>.inl (e b c)
theorem VaultAt.re{W W' M:Nat→Prop}{h m:af}{o:Nat}{s:VS}(v:VaultAt W h o s)(k:Upd M h m)(hm:∀b,M b→(W b∧¬s.M b)∨h.size≤b)(n:∀b,W' b→(W b∨h.size≤b)∧b<m.size)(hM:∀y,s.M y→W' y):VaultAt W' m o s:=by
 have i:=v.upd k hm;have f:∀b,M b→W b∨h.size≤b:=fun b g=>(hm b g).imp (·.1) id
 have c:∀b,W' b→W b∨h.size≤b:=fun b g=>(n b g).1
 exact⟨i.blk,v.g.re k (fun b g=>(hm b g).imp (fun e=>⟨e.1,fun j=>e.2 (.inl j),fun j=>e.2 (.inr (.inl j))⟩) id) n (hM _ (.inl rfl)) (hM _ (.inr (.inl rfl))),i.t,i.b,i.n,hM,fun hv=>(c _ hv).elim v.wv fun e=>absurd (bo v.blk) (by omega),v.ne,v.em.re k f c,fun d hd=>⟨(v.ts d hd).1.re k f c,(v.ts d hd).2⟩,v.sub,v.inv,v.kd⟩
section
variable {Ss:List Sp} {h h':af} {vp:Nat} {s:VS} {p p':Sp} {i:Nat} {M:Nat→Prop}
end
end Go.Proofs
namespace Go.Proofs
open Go Go.Lift
end Go.Proofs
namespace Go.Proofs
open Go Go.Lift
def fd(l:List Ch)(k:ByteArray):Option Ch:=l.find? fun c=>decide (c.1=k)
def T9(c:Ch):Bool:=(!((!c.2.2.2.1&& !c.2.2.2.2)||(c.2.2.2.1&&(c.2.2.2.2&&decide (c.2.1=c.2.2.1)))))&&((c.2.2.2.1||decide (c.2.1=⟨#[]⟩))&&(c.2.2.2.2||decide (c.2.2.1=⟨#[]⟩)))
def one(c:Ch):Option Ch:=if T9 c then some c else none
end Go.Proofs
namespace Go.Proofs
open Go Go.Lift
end Go.Proofs
namespace Go.Proofs
open Go Go.Lift
end Go.Proofs
namespace Go.Proofs
open Go Go.Lift
end Go.Proofs
namespace Go.Proofs
open Go Go.Lift
end Go.Proofs
namespace Go.Proofs
open Go Go.Lift
end Go.Proofs
namespace Go.Proofs
open Go Go.Lift
end Go.Proofs
namespace Go.Proofs
open Go Go.Lift
end Go.Proofs
namespace Go.Proofs
open Go Go.Lift
end Go.Proofs
namespace Go.Proofs
open Go Go.Lift
end Go.Proofs
namespace Go.Proofs
open Go Go.Lift
end Go.Proofs
namespace Go.Proofs
open Go Go.Lift
end Go.Proofs
namespace Go.Proofs
open Go Go.Lift
section
variable {W:Nat→Prop} {h:af} {vp:Nat} {s:VS}
end
end Go.Proofs
namespace Go.Proofs
open Go Go.Lift
abbrev dU:SliceV:=⟨none,0,0⟩
abbrev UN:=Int×ByteArray×ByteArray×ByteArray×ByteArray×Int×Int×Int×Int×Bool×ByteArray×ByteArray×Bool×SliceV×SliceV
theorem VaultAt.own{W:Nat→Prop}{c h2 h g:af}{i b:Nat}{s:VS}(v:VaultAt (Pro W c h2) h i s)(hM:∀y,s.M y→y<c.size)(u:Upd (· =b) h g)(j:c.size≤b)(f:b<h2.size):VaultAt (Pro W c h2) g i s:=
 v.upd u fun y d=>by
  have d:y=b:=d;subst d;exact .inl ⟨.inr ⟨j,f⟩,fun e=>by have:=hM _ e;omega⟩
section
variable {h:af}
end
end Go.Proofs
namespace Go.Proofs
open Go Go.Lift
section
variable {W:Nat→Prop} {h:af} {sp vp:Nat} {s:VS} {sm:Option Nat} {last:Int} {pool:Option Addr} {o:UN}
abbrev stL(c:Nat)(d:Option Nat)(last:Int)(b:Option Addr):List Value:= [.pointer (some ⟨c,0,none⟩),.map d,.int .i64 last,.pointer b]
end
end Go.Proofs
