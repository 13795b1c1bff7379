/- A part of the proof that the named laws of this program answer true, whatever the input. -/
import Derived.Test.YtceikogjngfacaaGreatPart2
import Derived.Test.YtceikogjngfacaaGreatPart5
import Derived.Test.YtceikogjngfacaaGreatPart6
import Derived.Test.YtceikogjngfacaaGreatPart1
import Derived.Test.YtceikogjngfacaaGreatLift3
import Derived.IntWalk
open Bool renaming eq_iff_iff→fy
open Go.IntKind renaming wrap→ac
open List renaming getElem_mem→bR,take_succ_eq_append_getElem→bd,mem_append→be,mem_singleton→aq,take_length→cG,any_eq_true→dZ,flatMap_cons→aZ,mem_map→bI,nodup_cons→eE,nodup_nil→fp,mem_cons_self→aD,pairwise_cons→bF,mem_cons→ar,map_cons→bJ,mem_cons_of_mem→aA,mem_filter→dG,length_filter_le→gP,replicate→gg,getElem?_of_mem→mP,length_singleton→aI,mem_of_getElem?→ao,getElem?_eq_some_iff→bv
open List.Pairwise renaming nil→dh
open Nat renaming zero_le→aY,le_refl→ai,not_lt→eW,lt_of_lt_of_le→aC,lt_irrefl→fx,le_trans→co
namespace Go.Proofs
open Go Go.Lift
abbrev YH(b:Nat)(k:Int)(x:Hs):(Option Addr)×Int×Int×Int×Int:=(some ⟨b,0,none⟩,k,x.k0,x.k1,x.mask)
abbrev Q1(b:Nat)(k:Int)(x:Hs):List Value:= [.pointer (some ⟨b,0,none⟩),.int .i64 k,.int .u64 x.k0,.int .u64 x.k1,.int .u64 x.mask]
abbrev UP(b:Nat)(k:Int)(x:Hs):Value:=.agg #[.pointer (some ⟨b,0,none⟩),.int .i64 k,.int .u64 x.k0,.int .u64 x.k1,.int .u64 x.mask]
section
variable {W M:Nat→Prop} {h h':ae} {b:Nat} {s:dV} {k:Int} {x:Hs}
theorem zS(i:InAt W h b s)(d:Nat){K:Int→ae→Prop}(f:∀h',InAt W h' b (aS d s).2→Upd (· =b) h h'→K ((aS d s).1:Int) h'):qu 37 [UP b k x,.int .u64 (d:Int)] K h:=by
 have m:=i.lt;refine eM (xY (YH b k x) (d:Int)) .nil Tryz.func37 Tryz.call37 ?_;unfold xY sq aG Cg;refine bj fun p b1 k1=>⟨_,vc b1 0,Ha (i.upd0 k1) fun h2 j u=>ak (fun c=>⟨_,vc (u.oth b1 (by omega)) 0,lX j fun g o n=>?_⟩) fun c=>?_⟩
 ·have c:((dX s).1:Int)>(d:Int):=c
  have e:aS d s=(0,cS 9 (dX s).2):=by rw[aS,if_pos (by omega)]
  rw[e]at f;exact f g o ((k1.wide.tr u).tr n)
 ·have c:¬((dX s).1:Int)>(d:Int):=c
  have e:aS d s=dX s:=by rw[aS,if_neg (by omega)]
  rw[e]at f;exact f h2 j (k1.wide.tr u)
theorem GP(i:InAt W h b s){K:Int→ae→Prop}(c:∀h',InAt W h' b (aS 4294967295 s).2→Upd (· =b) h h'→K ((aS 4294967295 s).1:Int) h'):sI 30 [UP b k x] K h:=by
 refine eM (Db (YH b k x)) .nil Tryz.func30 Tryz.call30 ?_;dsimp only[Db,oX,Cg,IU,aR,au,aG];refine bj fun d b1 k1=>⟨_,vc b1 0,_,vc b1 1,_,vc b1 2,_,vc b1 3,_,vc b1 4,zS (i.upd0 k1) 4294967295 fun h2 j u=>?_⟩
 have:=fK 4294967295 s;rw[Go.IntWalk.u32_in _ (by omega)];exact c h2 j (k1.wide.tr u)
def rV{G:Type}(st:G→dV)(step:G→G):Nat→G→G
 |0,g=>g
 |n+1,g=>if(st g).2=0 then rV st step n (step g)else g
theorem wk{G:Type}{Inv:G→ae→Prop}{st:G→dV}{step:G→G}{f:FuncId}{cap:Array Value}(i:InAt W h b s)(p:G)(hM:¬M h.size)
  (L:∀h',InAt W h' b (dX s).2→Upd (· =b) h h'→h.size<h'.size→Inv p h')
  (hi:∀g h',Inv g h'→InAt W h' b (st g))
  (J:∀g o,Inv g o→(st g).2=0→HC PG f cap.toList [] (fun(_:Unit) h'=>Inv (step g) h'∧Upd M o h') o)
  {K:Unit→ae→Prop}(E:∀h',Inv (rV st step (dX s).1 p) h'→K () h'):eJ 31 [UP b k x,.func (.func f) #[] cap] K h:=by
 have D:=i.lt;have q:=zO s;refine FI (YH b k x) (.func (.func f) #[] cap) ?_;unfold xX aG Cg;refine bj fun o b1 k1=>⟨_,vc b1 0,Ha (i.upd0 k1) fun h2 j u=>?_⟩
 have b2:=u.oth b1 (by omega);refine LoopP.ghost (fun(g:Nat×G) (t:Int) h'=>t=(g.1:Int)∧g.1<18446744073709551616∧Inv g.2 h'∧h'[h.size]? =some (.cells (Q1 b k x).toArray 95 (0,0))∧∀d,Inv (rV st step g.1 g.2) d→K () d) (fun g=>g.1) ((dX s).1,p) ⟨rfl,q,L h2 j (k1.wide.tr u) (bc b2),b2,E⟩ ?_
 rintro I ⟨n,g⟩ t h' ⟨rfl,z,hv,y,A⟩ B;have z:n<18446744073709551616:=z;refine Join.intro (fun(t:Bool) h2=>h2=h'∧t=decide (0<n∧(st g).2=0)) (fun R w=>?_) ?_
 ·refine ak (fun c=>⟨_,vc y 0,yK (hi _ _ hv) (w _ _ ⟨rfl,?_⟩)⟩) fun c=>w _ _ ⟨rfl,?_⟩
  ·have c:(n:Int)>0:=c
   rw[show((st g).2==(0:Int))=decide ((st g).2=0)from rfl,decide_eq_decide];constructor
   ·exact fun e=>⟨by omega,e⟩
   ·exact fun e=>e.2
  ·have c:¬(n:Int)>0:=c
   rw[eq_comm,decide_eq_false_iff_not];omega
 ·rintro t h2 ⟨rfl,rfl⟩
  refine ak (fun c=>?_) fun c=>A _ ?_
  ·obtain⟨m,rfl⟩:∃m,n=m+1:=⟨n-1,by omega⟩
   refine HV.mk' ((J g _ hv c.2).mono ?_);rintro _ N ⟨C,F⟩;have H:ac .u64 (((m+1:Nat):Int)-1)=(m:Int):=by rw[Go.IntWalk.u64_in _ (by omega)];omega
   refine B (m,step g) _ _ ⟨H,by omega,C,F.get y hM,fun d v=>A d ?_⟩ (by simp)
   show Inv (rV st step (m+1) g) d
   rw[rV,if_pos c.2];exact v
  ·show Inv (rV st step n g) h2
   cases n with
   |zero=>exact hv
   |succ n=>
    rw[rV,if_neg fun e=>c ⟨Nat.succ_pos _,e⟩];exact hv
end
end Go.Proofs
namespace Go.Proofs
open Go.Lift
abbrev u32(x:Int):List Value:= [.int .u32 x]
theorem yq(x:Int):(u32 x).length=1∧0<1:=⟨rfl,Nat.one_pos⟩
abbrev Nums(W:Nat→Prop)(h:ae)(s:SliceV)(xs:List Int):Prop:=Sl u32 1 W h s xs
theorem Nums.at{W:Nat→Prop}{h:ae}{s:SliceV}{xs:List Int}(b:Nums W h s xs){i:Nat}(hi:i<xs.length):∃a,s.a=some a∧¬W a.block∧bh h (adr a (((i:Int)).toNat*1))=some (.int .u32 xs[i]):=
 b.at0 (g:=fun x=>.int .u32 x) (List.getElem?_eq_getElem hi)
theorem LC{W:Nat→Prop}{s:SliceV}{xs:List Int}{q:Value}{p:Int→Bool}(St:ae→Prop)(f:∀h,St h→Nums W h s xs)
  (y:∀h x (K:Bool→ae→Prop),St h→x∈xs→(∀c,St c→K (p x) c)→HV PG q [.int .u32 x] [.c .bool] K h)
  (z:xs.length≤4611686018427387904){h:ae}(B:St h){K:Int→ae→Prop}(u:∀(n:Int) c,St c→(n≥0↔∃x∈xs,p x=true)→K n c):
  iI 188 [.slice s.a s.len s.cap,q] K h:=by
 refine eM (lK s q) rO Tryz.func188 Tryz.call188 ?_;dsimp only[lK,Eb,cg,ic,ji];refine LoopP.ghost (fun(i:Nat) (t:Int) c=>t=(i:Int)∧St c∧i≤xs.length∧∀x∈xs.take i,p x=false) (fun i=>xs.length-i) 0 ⟨rfl,B,aY _,by simp⟩ ?_
 rintro I i t c ⟨rfl,o,hi,m⟩ v;have e:=f _ o;refine ak (fun b=>?_) (fun g=>?_)
 ·rw[e.len]at b
  have b:i<xs.length:=by omega
  obtain⟨a,A,_,hx⟩:=Nums.at e b;refine⟨by rw[e.len];omega,a,A,_,hx,?_⟩;refine y _ _ _ o (bR b) fun h2 d=>?_
  refine CondP.intro (fun w=>?_) (fun j=>?_)
  ·exact u _ _ d ⟨fun _=>⟨_,bR b,w⟩,fun _=>by omega⟩
  ·rw[cX b z]
   refine v (i+1) _ _ ⟨rfl,d,b,?_⟩ (by omega);rw[bd b];intro x hx;rcases be.1 hx with h|h
   ·exact m x h
   ·rw[aq.1 h];exact j
 ·rw[e.len]at g
  have:i=xs.length:=by omega
  subst this;rw[cG]at m;exact u _ _ o ⟨fun h=>by omega,fun⟨x,hx,h⟩=>by rw[m x hx]at h;cases h⟩
theorem xM{W:Nat→Prop}{s:SliceV}{xs:List Int}{e:Value}{p:Int→Bool}(St:ae→Prop)(c:∀h,St h→Nums W h s xs)
  (g:∀h x (K:Bool→ae→Prop),St h→x∈xs→(∀b,St b→K (p x) b)→HV PG e [.int .u32 x] [.c .bool] K h)
  (d:xs.length≤4611686018427387904){h:ae}(j:St h){K:Bool→ae→Prop}(f:∀b,St b→K (xs.any p) b):
  f5 150 [.slice s.a s.len s.cap,e] K h:=by
 refine eM (kw s e) .nil Tryz.func150 Tryz.call150 ?_;unfold kw;refine LC St c g d j fun n b i d=>?_
 have:decide (n≥0)=xs.any p:=by
  rw[fy,decide_eq_true_iff,d,dZ]
 rw[this];exact f _ i
theorem Hv{W:Nat→Prop}{h:ae}{s:SliceV}{xs:List Int}(g:Nums W h s xs)(m:xs.length*4≤140737488355328){K:SliceV→ae→Prop}
  (j:∀s' d,OwnS u32 1 31 (fun b=>h.size≤b) d s' xs→Upd No h d→(s.a=none→xs= [])→K s' d):fU 110 [.slice s.a s.len s.cap] K h:=by
 refine eM (nX s) .nil Tryz.func110 Tryz.call110 ?_;unfold nX;refine CondP.intro (fun i=>?_) (fun c=>?_)
 ·have i:s.a=none:=by simpa using i
  have hx:xs= []:=by
   by_cases hx:xs= []
   ·exact hx
   ·obtain⟨a,n,_⟩:=g.row hx
    rw[i]at n;cases n
  subst hx;exact j _ _ (OwnS.nil yq) (Upd.refl _ _) fun _=>rfl
 ·have h2:=g.upd (Upd.hnew No h [] 31) (fun _ h=>h.elim)
  refine⟨_,h2.srow,?_⟩;refine AppP.own (f:=u32) (M:=fun b=>h.size≤b) (xs:= []) (ys:=xs) ⟨rfl,yq,ai _,.inl rfl⟩ g.len rfl ?_ rfl (by omega) (by simpa using m) (by rw[eI];omega) fun s' d o p=>?_
  ·clear j g h2 m
   induction xs with
   |nil=>rfl
   |cons x xs ih=>rw[aZ];exact ih
  ·refine j _ _ o ((Upd.hnew No h [] 31).trans p fun b q=>.inr q) fun e=>?_
   rw[e]at c;cases c
theorem SI{x:Int}{h:ae}{K:Bool→ae→Prop}(b:K false h):f5 249 [.int .u32 x] K h:=by
 refine eM (yf x) .nil Tryz.func249 Tryz.call249 ?_;unfold yf;rw[show(x !=x)=false by simp];exact b
theorem W9{x y:Int}{h:ae}{K:Bool→ae→Prop}(b:K (decide (x<y)) h):f5 211 [.int .u32 x,.int .u32 y] K h:=by
 refine eM (zo x y) .nil Tryz.func211 Tryz.call211 ?_;unfold zo;refine SI ?_;exact ay.2 b
end Go.Proofs
namespace Go.Proofs
open Go.Lift
abbrev KE:KeyE Int:=Z0 .u32
abbrev dI:=List (Int×List Int)
def Rep(W:Nat→Prop)(h:ae)(m:List (Int×SliceV))(L:dI):Prop:=
 ∀id,(∃s ps,dT m id=some s∧dT L id=some ps∧Nums W h s ps)∨(dT m id=none∧dT L id=none)
structure GraphAt(W:Nat→Prop)(h:ae)(gp gm:Nat)(L:dI)(nx:Int):Prop where
 blk:h[gp]? =some (.cells #[.map (some gm),.int .u32 nx] 210 (0,0))
 map:∃m,MapAt KE sv h gm m∧Rep W h m L
 wp:W gp
 wm:W gm
 lt:∀b,W b→b<h.size
 nd:(L.map (·.1)).Nodup
theorem Rep.upd{W M:Nat→Prop}{h c:ae}{m:List (Int×SliceV)}{L:dI}(r:Rep W h m L)(k:Upd M h c)(hm:∀b,M b→W b∨h.size≤b):Rep W c m L:=fun id=>by
 rcases r id with⟨s,ps,f,h2,e⟩|d
 ·exact .inl ⟨s,ps,f,h2,e.upd k hm⟩
 ·exact .inr d
theorem GraphAt.upd{W M:Nat→Prop}{h i:ae}{gp gm:Nat}{L:dI}{nx:Int}(g:GraphAt W h gp gm L nx)(k:Upd M h i)(hm:∀b,M b→(W b∧b≠gp∧b≠gm)∨h.size≤b):GraphAt W i gp gm L nx:=by
 have c:=g.lt;have j:¬M gp:=fun e=>(hm _ e).elim (fun e=>e.2.1 rfl) fun e=>absurd (c _ g.wp) (eW.2 e)
 have h2:¬M gm:=fun e=>(hm _ e).elim (fun e=>e.2.2 rfl) fun e=>absurd (c _ g.wm) (eW.2 e)
 obtain⟨m,d,n⟩:=g.map;exact⟨k.get g.blk j,⟨m,d.upd k h2,n.upd k fun b f=>(hm b f).imp (·.1) id⟩,g.wp,g.wm,fun b f=>aC (c b f) k.size,g.nd⟩
theorem GraphAt.upd0{W:Nat→Prop}{h b:ae}{gp gm:Nat}{L:dI}{nx:Int}(g:GraphAt W h gp gm L nx)(k:Upd No h b):GraphAt W b gp gm L nx:=g.upd k fun _ h=>h.elim
theorem GraphAt.c0{W:Nat→Prop}{h:ae}{gp gm:Nat}{L:dI}{nx:Int}(g:GraphAt W h gp gm L nx):bh h ⟨gp,0,none⟩=some (.map (some gm)):=by rw[bO g.blk];rfl
theorem GraphAt.c1{W:Nat→Prop}{h:ae}{gp gm:Nat}{L:dI}{nx:Int}(g:GraphAt W h gp gm L nx):bh h ⟨gp,1,none⟩=some (.int .u32 nx):=by rw[bO g.blk];rfl
abbrev ids(L:dI):List Int:=L.map (·.1)
theorem UR{L:dI}{id:Int}:(dT L id).isSome=decide (id∈ids L):=by
 cases h:dT L id with
 |none=>rw[decide_eq_false (mF.1 h)];rfl
 |some v=>
  have:id∈ids L:=by
   by_cases hm:id∈ids L
   ·exact hm
   ·rw[mF.2 hm]at h;cases h
  rw[decide_eq_true this];rfl
theorem Rep.some{W:Nat→Prop}{h:ae}{m:List (Int×SliceV)}{L:dI}(r:Rep W h m L)(id:Int):(dT m id).isSome=decide (id∈ids L):=by
 rw[←UR];rcases r id with⟨s,ps,b,h2,_⟩|⟨b,h2⟩<;>rw[b,h2]<;>rfl
theorem Rep.len{W:Nat→Prop}{h:ae}{m:List (Int×SliceV)}{L:dI}(r:Rep W h m L)(c:(m.map (·.1)).Nodup)(h2:(ids L).Nodup):m.length=L.length:=by
 have:(m.map (·.1)).Perm (ids L):=by
  rw[List.perm_ext_iff_of_nodup c h2];intro id;have:=r.some id;have b:id∈m.map (·.1)↔(dT m id).isSome=true:=by
   cases hl:dT m id with
   |none=>simp[mF.1 hl]
   |some v=>
    simp only[Option.isSome_some,iff_true];by_cases hm:id∈m.map (·.1)
    ·exact hm
    ·rw[mF.2 hm]at hl;cases hl
  rw[b,this,decide_eq_true_iff]
 have:=this.length_eq;simpa using this
def aad:List Int→Bool
 | [a,b]=>a==b
 |_=>false
def sF(ps:List Int):Int:=if ps.length>2∨aad ps=true then 1 else 0
def oO(L:dI)(ps:List Int):Int:=if ps.any (fun p=> !decide (p∈ids L))then 4 else if L.length≥1024 then 6 else 0
theorem LM{W:Nat→Prop}{h:ae}{gp gm:Nat}{L:dI}{nx:Int}(g:GraphAt W h gp gm L nx)(id:Int){K:Bool→ae→Prop}(c:K (decide (id∈ids L)) h):
  f5 152 [gF gp,.int .u32 id] K h:=by
 refine eM (vo (some ⟨gp,0,none⟩) id) .nil Tryz.func152 Tryz.call152 ?_;dsimp only[vo,cg,dq];obtain⟨m,hm,b⟩:=g.map;refine CondP.intro (fun e=>by cases e) fun _=>⟨_,rfl,_,g.c0,_,_,hm.get id ⟨none,0,0⟩,?_⟩
 rw[b.some id];exact c
theorem UY{W:Nat→Prop}{h:ae}{gp gm:Nat}{L:dI}{nx:Int}(g:GraphAt W h gp gm L nx){K:Int→ae→Prop}(b:K nx h):
  sI 64 [gF gp] K h:=by
 refine eM (tZ (some ⟨gp,0,none⟩)) .nil Tryz.func64 Tryz.call64 ?_;dsimp only[tZ,Ai,eS,dq];exact CondP.intro (fun e=>by cases e) fun _=>⟨_,rfl,_,g.c1,b⟩
theorem Xi{W:Nat→Prop}{h:ae}{p:Option Addr}{s:SliceV}{ps:List Int}(d:Nums W h s ps){K:Int→ae→Prop}(c:K (sF ps) h):
  iI 149 [.pointer p,.slice s.a s.len s.cap] K h:=by
 refine eM (vi p s) Dm Tryz.func149 Tryz.call149 ?_;dsimp only[vi,cg,ji,yU];refine Join.plain (ak (fun m=>?_) fun g=>CondP.intro (fun f=>?_) fun b=>?_)
 ·rw[d.len]at m
  rw[show sF ps=1 from if_pos (.inl (by omega))]at c
  exact aV.2 c
 ·rw[d.len]at f
  have f:ps.length=2:=by
   have:(ps.length:Int)=2:=by simpa using f
   omega
  obtain⟨a,o,_,hx⟩:=Nums.at d (i:=0) (by omega);obtain⟨a',n,_,q⟩:=Nums.at d (i:=1) (by omega);refine⟨by rw[d.len];omega,a,o,_,hx,by rw[d.len];omega,a',n,_,q,?_⟩
  have e:sF ps=if(ps[0]==ps[1])=true then 1 else 0:=by
   match ps,f with
   | [x,y],_=>simp[sF,aad]
  rw[e]at c;exact CondP.intro (fun j=>by rw[if_pos j]at c;exact c) fun j=>by rw[if_neg (by rw[j];decide)]at c;exact c
 ·rw[d.len]at g b
  have b:ps.length≠2:=fun e=>by rw[e]at b;exact absurd b (by decide)
  have hd:aad ps=false:=by
   match ps,b with
   | [],_=>rfl
   | [_],_=>rfl
   | [_,_],h=>exact absurd rfl h
   |_::_::_::_,_=>rfl
  rw[show sF ps=0 from if_neg (by rw[hd];simp;omega)]at c
  exact ay.2 c
theorem UZ{W:Nat→Prop}{h:ae}{gp gm:Nat}{L:dI}{nx:Int}(g:GraphAt W h gp gm L nx){s:SliceV}{ps:List Int}(z:Nums W h s ps)(y:ps.length≤4611686018427387904)
  {K:Int→ae→Prop}(e:∀b,Upd No h b→K (oO L ps) b):iI 153 [gF gp,.slice s.a s.len s.cap] K h:=by
 refine eM (tY (some ⟨gp,0,none⟩) s) .nil Tryz.func153 Tryz.call153 ?_;dsimp only[tY,cg,dq];have q:=Upd.hnew No h [.pointer (some ⟨gp,0,none⟩)] 146;refine xM (p:=fun p=> !decide (p∈ids L)) (fun b=>GraphAt W b gp gm L nx∧Nums W b s ps∧b[h.size]? =some (.cells #[.pointer (some ⟨gp,0,none⟩)] 146 (0,0))∧Upd No h b) (fun b n=>n.2.1) ?_ y ⟨g.upd0 q,z.upd q fun _ h=>h.elim,cO h _ _,q⟩ ?_
 ·rintro b x K ⟨d,i,j,c⟩ _ o
  refine HV.mk' (eM (rh x ⟨h.size,0,none⟩) .nil Tryz.func189 Tryz.call189 ?_);unfold rh uk;refine⟨_,by rw[bO j];rfl,?_⟩
  exact LM d x (o b ⟨d,i,j,c⟩)
 ·rintro b ⟨d,i,j,c⟩
  obtain⟨m,hm,A⟩:=d.map;refine CondP.intro (fun v=>?_) fun f=>?_
  ·rw[show oO L ps=4 from if_pos v]at e
   exact e b c
  ·refine⟨_,by rw[dA,bO j];rfl,_,rfl,_,d.c0,_,hm.len,?_⟩
   rw[A.len hm.nodup d.nd];refine ak (fun w=>?_) fun u=>?_
   ·rw[show oO L ps=6 from(if_neg (by rw[f];decide)).trans (if_pos (by omega))]at e
    exact e b c
   ·rw[show oO L ps=0 from(if_neg (by rw[f];decide)).trans (if_neg (by omega))]at e
    exact e b c
end Go.Proofs
namespace Go.Proofs
open Go.Lift
def um(L:dI)(id:Int)(ps:List Int):dI:=L.takeWhile (fun v=>decide (v.1<id))++(id,ps)::L.dropWhile (fun v=>decide (v.1<id))
def Y5(L:dI)(nx:Int)(ps:List Int):(Int×Int)×dI×Int:=
 if sF ps≠0 then((0,sF ps),L,nx)else if oO L ps≠0 then((0,oO L ps),L,nx)else if nx≥2147483648 then((0,6),L,nx)else((nx,0),um L nx ps,nx+1)
def fV(L:dI)(nx:Int)(id:Int)(ps:List Int):Int×dI×Int:=
 if sF ps≠0∨id=0∨id≥2147483648∨ps.any (fun p=>decide (p≥id))=true then(1,L,nx)else if id∈ids L then(7,L,nx)else if oO L ps≠0 then(oO L ps,L,nx)else(0,um L id ps,if id+1>nx then id+1 else nx)
abbrev yV(a b:Nat):Nat→Prop:=fun x=>x=a∨x=b
theorem KC{κ β:Type}[DecidableEq κ](l b:List (κ×β))(k:κ):dT (l++b) k=(dT l k).or (dT b k):=by
 induction l with
 |nil=>simp[dT]
 |cons p l ih=>
  obtain⟨k',u⟩:=p;simp only[List.cons_append,dT,ih];split<;>simp
theorem SJ{L:dI}{id:Int}{ps:List Int}(c:id∉ids L)(j:Int):dT (um L id ps) j=if j=id then some ps else dT L j:=by
 have d:∀p:Int×List Int→Bool,dT L j=(dT (L.takeWhile p) j).or (dT (L.dropWhile p) j):=fun p=>by rw[←KC,List.takeWhile_append_dropWhile]
 unfold um;rw[KC];simp only[dT];by_cases b:j=id
 ·subst b
  have:dT (L.takeWhile fun v=>decide (v.1<j)) j=none:=mF.2 fun hm=>c (by
   obtain⟨x,hx,e⟩:=bI.1 hm
   exact bI.2 ⟨x,List.takeWhile_subset _ hx,e⟩)
  rw[this];simp
 ·simp only[b,if_false]
  exact(d _).symm
theorem ws(L:dI)(id:Int)(ps:List Int):(um L id ps).Perm ((id,ps)::L):=by
 unfold um;refine List.perm_middle.trans ?_;rw[List.takeWhile_append_dropWhile]
theorem insV_ids{L:dI}{id:Int}{ps:List Int}:(ids (um L id ps)).Perm (id::ids L):=(ws L id ps).map _
theorem PV{L:dI}{id:Int}{ps:List Int}(h:(ids L).Nodup)(b:id∉ids L):(ids (um L id ps)).Nodup:=by
 rw[insV_ids.nodup_iff];exact eE.2 ⟨b,h⟩
theorem Rep.put{W:Nat→Prop}{h b:ae}{m:List (Int×SliceV)}{L:dI}(r:Rep W h m L){id:Int}{s:SliceV}{ps:List Int}(e:∀s xs,Nums W h s xs→Nums W b s xs)(i:Nums W b s ps)(g:id∉ids L):Rep W b (oE m id s) (um L id ps):=fun j=>by
 rw[KA,SJ g];by_cases c:j=id
 ·simp only[c,if_true];exact .inl ⟨s,ps,rfl,rfl,i⟩
 ·simp only[c,if_false]
  rcases r j with⟨s,ps,f,h2,d⟩|n
  ·exact .inl ⟨s,ps,f,h2,e s ps d⟩
  ·exact .inr n
theorem GraphAt.ne{W:Nat→Prop}{h:ae}{gp gm:Nat}{L:dI}{nx:Int}(g:GraphAt W h gp gm L nx):gm≠gp:=fun e=>by
 obtain⟨m,⟨ms,c,hm,_⟩,_⟩:=g.map;have:=hm.here;rw[e,g.blk]at this;cases this
theorem GraphAt.put{W:Nat→Prop}{h:ae}{gp gm:Nat}{L:dI}{nx:Int}(g:GraphAt W h gp gm L nx){id:Int}{s:SliceV}{ps:List Int}(o:Nums W h s ps)(q:id∉ids L)(n:Int):
  GraphAt W (hset (qM h gm (.int .u32 id) (sv s)) ⟨gp,1,none⟩ (.int .u32 n)) gp gm (um L id ps) n∧Upd (yV gp gm) h (hset (qM h gm (.int .u32 id) (sv s)) ⟨gp,1,none⟩ (.int .u32 n))∧
   Wr (qM h gm (.int .u32 id) (sv s)) ⟨gp,1,none⟩∧bh (qM h gm (.int .u32 id) (sv s)) ⟨gp,1,none⟩=some (.int .u32 nx)∧Upd (yV gp gm) h (qM h gm (.int .u32 id) (sv s)):=by
 obtain⟨m,hm,u⟩:=g.map;have i:=g.ne;have k1:Upd (· =gm) h (qM h gm (.int .u32 id) (sv s)):=BU h _ _ rfl
 have c:=k1.get g.blk (Ne.symm i);have p:Upd (· =gp) (qM h gm (.int .u32 id) (sv s)) (hset (qM h gm (.int .u32 id) (sv s)) ⟨gp,1,none⟩ (.int .u32 n)):=Upd.hset _ _ rfl
 have j:Upd (yV gp gm) h (qM h gm (.int .u32 id) (sv s)):=k1.mono fun b f=>.inl (.inr f)
 have k:Upd (yV gp gm) h (hset (qM h gm (.int .u32 id) (sv s)) ⟨gp,1,none⟩ (.int .u32 n)):=j.trans p fun b f=>.inl (.inl f)
 have d:∀b,yV gp gm b→W b∨h.size≤b:=fun b f=>.inl (f.elim (fun e=>e▸g.wp) fun e=>e▸g.wm)
 refine⟨⟨?_,⟨_,(MapAt.put hm id s).upd p i,u.put (fun s xs o=>o.upd k d) (o.upd k d) q⟩,g.wp,g.wm,fun b f=>aC (g.lt b f) k.size,PV g.nd q⟩,k,fz c (by simp),by rw[bO c];rfl,j⟩
 rw[ju c,dU c];rfl
end Go.Proofs
namespace Go.Proofs
open Go.Lift
theorem Xg{W:Nat→Prop}{h:ae}{gp gm:Nat}{L:dI}{nx:Int}(g:GraphAt W h gp gm L nx){id:Int}(V:0≤id){s:SliceV}{ps:List Int}(U:Nums W h s ps)(S:ps.length*4≤140737488355328)
  {K:Int→ae→Prop}(o:∀c,Upd (yV gp gm) h c→GraphAt W c gp gm (fV L nx id ps).2.1 (fV L nx id ps).2.2→K (fV L nx id ps).1 c):
  iI 122 [gF gp,.int .u32 id,.slice s.a s.len s.cap] K h:=by
 refine eM (vj (some ⟨gp,0,none⟩) id s) Dn Tryz.func122 Tryz.call122 ?_;dsimp only[vj,cg,dy,uk,Fj,dq,Ai,eS];have d:=Upd.hnew No h [.int .u32 id] 31;have J:=g.upd0 d;have q:Nums W _ s ps:=U.upd d fun _ h=>h.elim
 have v:(hnew h [.int .u32 id] 31)[h.size]? =some (.cells #[.int .u32 id] 31 (0,0)):=cO ..;have hc:∀{c:ae},Upd No (hnew h [.int .u32 id] 31) c→bh c (aJ h)=some (.int .u32 id):=fun k=>by rw[dA,bO (k.get0 v)];rfl
 refine CondP.intro (fun e=>by cases e) fun _=>Xi q ?_
 refine Join.intro (fun t c=>Upd No (hnew h [.int .u32 id] 31) c∧t=decide (sF ps≠0∨id=0∨id≥2147483648∨ps.any (fun p=>decide (p≥id))=true)) (fun R z=>?_) ?_
 ·refine CondP.intro (fun i=>?_) fun i=>?_
  ·have i:sF ps≠0:=by simpa using i
   exact z _ _ ⟨Upd.refl _ _,(decide_eq_true (.inl i)).symm⟩
  ·have i:¬sF ps≠0:=by simpa using i
   refine⟨_,hc (Upd.refl _ _),CondP.intro (fun h2=>?_) fun h2=>?_⟩
   ·have h2:id=0:=by simpa using h2
    exact z _ _ ⟨Upd.refl _ _,(decide_eq_true (.inr (.inl h2))).symm⟩
   ·have h2:¬id=0:=by simpa using h2
    refine⟨_,hc (Upd.refl _ _),ak (fun j=>?_) fun j=>?_⟩
    ·exact z _ _ ⟨Upd.refl _ _,(decide_eq_true (.inr (.inr (.inl j)))).symm⟩
    ·refine xM (p:=fun p=>decide (p≥id)) (fun c=>c=hnew h [.int .u32 id] 31) (fun c e=>by rw[e];exact q) ?_ (by omega) rfl fun c e=>?_
     ·rintro c x K rfl _ G
      refine HV.mk' (eM (sn x ⟨h.size,0,none⟩) .nil Tryz.func151 Tryz.call151 ?_);unfold sn;exact⟨_,hc (Upd.refl _ _),G _ rfl⟩
     ·subst e
      refine z _ _ ⟨Upd.refl _ _,?_⟩;rw[fy,decide_eq_true_iff];simp[i,h2,j]
 ·rintro t c ⟨n,rfl⟩
  refine ak (fun i=>?_) fun i=>?_
  ·rw[show fV L nx id ps=_ from if_pos i]at o
   exact o c (d.wide.tr n.wide) (J.upd0 n)
  ·have A:=J.upd0 n
   have w:=q.upd n fun _ h=>h.elim
   refine⟨_,hc n,LM A id (ak (fun h2=>?_) fun h2=>?_)⟩
   ·rw[show fV L nx id ps=_ from(if_neg i).trans (if_pos h2)]at o
    exact o c (d.wide.tr n.wide) A
   ·refine UZ A w (by omega) fun O f=>?_
    have B:=A.upd0 f;have F:=w.upd f fun _ h=>h.elim
    refine CondP.intro (fun j=>?_) fun j=>?_
    ·have j:oO L ps≠0:=by simpa using j
     rw[show fV L nx id ps=_ from(if_neg i).trans ((if_neg h2).trans (if_pos j))]at o
     exact o _ ((d.wide.tr n.wide).tr f.wide) B
    ·have j:¬oO L ps≠0:=by simpa using j
     refine⟨_,rfl,_,B.c0,_,hc (n.tr f),Hv F S fun s' H N u _=>?_⟩
     have E:=B.upd0 u;obtain⟨m,hm,hr⟩:=E.map;have C:Nums W H s' ps:=N.sl fun b X _ Z=>absurd (B.lt b Z) (eW.2 X)
     obtain⟨P,Q,T,p4,Y⟩:=E.put C h2 (if id+1>nx then id+1 else nx)
     have hi:id<2147483648:=by omega
     have D:¬yV gp gm h.size:=fun e=>e.elim (fun e=>absurd (g.lt _ (e▸g.wp)) (fx _)) fun e=>absurd (g.lt _ (e▸g.wm)) (fx _)
     have y:=((n.tr f).tr u).get0 v;have I:=Y.get y D;refine⟨by rw[dA,bO y];rfl,E.c0,_,rfl,hm.isMap,_,rfl,_,p4,id,by rw[dA,bO I];rfl,_,rfl,T,?_⟩
     rw[show ac .u32 (id+1)=id+1 from Go.IntWalk.u32_in _ (by omega)]
     rw[show fV L nx id ps=_ from(if_neg i).trans ((if_neg h2).trans (if_neg j))]at o
     exact o _ ((((d.wide.tr n.wide).tr f.wide).tr u.wide).tr Q) P
theorem NS{W:Nat→Prop}{h:ae}{gp gm:Nat}{L:dI}{nx:Int}(g:GraphAt W h gp gm L nx)(n:Int)
  {K:Bool→ae→Prop}(i:∀c,Upd (yV gp gm) h c→GraphAt W c gp gm L (if n<nx∨n>2147483648 then nx else n)→K (!decide (n<nx∨n>2147483648)) c):
  f5 123 [gF gp,.int .u32 n] K h:=by
 refine eM (pZ (some ⟨gp,0,none⟩) n) yo Tryz.func123 Tryz.call123 ?_;dsimp only[pZ,dy,dq,Ai,eS];refine Join.intro (fun t c=>c=h∧t=decide (n<nx∨n>2147483648)) (fun R j=>?_) ?_
 ·refine CondP.intro (fun e=>by cases e) fun _=>⟨_,rfl,_,g.c1,ak (fun d=>?_) fun d=>?_⟩
  ·exact j _ _ ⟨rfl,(decide_eq_true (.inl d)).symm⟩
  ·refine j _ _ ⟨rfl,?_⟩
   rw[fy,decide_eq_true_iff,decide_eq_true_iff];simp[d]
 ·rintro t c ⟨rfl,rfl⟩
  refine ak (fun d=>?_) fun d=>?_
  ·rw[if_pos d,decide_eq_true d]at i
   exact i c (Upd.refl _ _) g
  ·rw[if_neg d,decide_eq_false d]at i
   refine⟨_,rfl,fz g.blk (by simp),?_⟩;have k:Upd (· =gp) c (hset c ⟨gp,1,none⟩ (.int .u32 n)):=Upd.hset _ _ rfl
   obtain⟨m,hm,o⟩:=g.map;refine i _ (k.mono fun b f=>.inl (.inl f)) ⟨?_,⟨m,hm.upd k g.ne,o.upd k fun b f=>.inl (f▸g.wp)⟩,g.wp,g.wm,fun b f=>aC (g.lt b f) k.size,g.nd⟩
   show(hset c ⟨gp,0+1,none⟩ _)[gp]? =_
   rw[ju g.blk,dU g.blk];rfl
theorem NT{W:Nat→Prop}{h:ae}{gp gm:Nat}{L:dI}{nx:Int}(g:GraphAt W h gp gm L nx)(id:Int)(o:∀v∈L,v.2.length*4≤140737488355328)
  {K:SliceV→ae→Prop}(d:∀s' c,OwnS u32 1 31 (fun b=>h.size≤b) c s' ((dT L id).getD [])→Upd No h c→K s' c):
  fU 69 [gF gp,.int .u32 id] K h:=by
 refine eM (p0 (some ⟨gp,0,none⟩) id) .nil Tryz.func69 Tryz.call69 ?_;dsimp only[p0,cg,dq];obtain⟨m,hm,p⟩:=g.map;refine CondP.intro (fun e=>by cases e) fun _=>⟨_,rfl,_,g.c0,_,_,hm.get id ⟨none,0,0⟩,?_⟩
 rcases p id with⟨s,ps,j,h2,n⟩|⟨j,h2⟩
 ·rw[j]
  rw[h2]at d;exact Hv n (o _ ((sZ g.nd).1 h2)) fun s' c f i _=>d s' c f i
 ·rw[j]
  rw[h2]at d;exact Hv (W:=No) (xs:= []) (Sl.nil yq) (by simp) fun s' c f i _=>d s' c f i
theorem Xh{h:ae}{K:Option Addr→ae→Prop}(e:∀h',Upd No h h'→GraphAt (yV (h.size+1) h.size) h' (h.size+1) h.size [] 1→K (some ⟨h.size+1,0,none⟩) h'):
  fh 84 [] K h:=by
 refine eM Ff .nil Tryz.func84 Tryz.call84 ?_;unfold Ff;have k1:=Upd.push No h (.map #[] 0);have hm:MapAt KE sv (h.push (.map #[] 0)) h.size []:=MapAt.new h;have d:=Upd.hnew No (h.push (.map #[] 0)) [.map (some h.size),.int .u32 1] 210;have c:(h.push (.map #[] 0)).size=h.size+1:=by simp
 have:=e _ (k1.tr d) ⟨by
  have:=cO (h.push (.map #[] 0)) [.map (some h.size),.int .u32 1] 210
  rw[c]at this;exact this,⟨[],hm.upd d id,fun id=>.inr ⟨rfl,rfl⟩⟩,.inl rfl,.inr rfl,fun b f=>by rw[eI,c];rcases f with rfl|rfl<;>omega,fp⟩
 rw[←c]at this;exact this
end Go.Proofs
namespace Go.Proofs
open Go.Lift
theorem Cn:∀xs:List Int,cF (xs.flatMap u32)=true
 | []=>rfl
 |x::xs=>by rw[aZ];exact Cn xs
abbrev parV(L:dI)(id:Int):List Int:=(dT L id).getD []
inductive UpG(L:dI):Int→Int→Prop
 |refl {a:Int}:a∈ids L→UpG L a a
 |step {a p b:Int}:a∈ids L→p∈parV L a→UpG L p b→UpG L a b
theorem UpG.left{L:dI}{a b:Int}(h:UpG L a b):a∈ids L:=by cases h<;>assumption
theorem GraphAt.more{W Q:Nat→Prop}{d h:ae}{gp gm:Nat}{L:dI}{nx:Int}(g:GraphAt W d gp gm L nx)(k:Upd No d h)(e:∀b,Q b→d.size≤b∧b<h.size):GraphAt (fun b=>W b∨Q b) h gp gm L nx:=by
 obtain⟨m,hm,n⟩:=g.map;refine⟨k.get0 g.blk,⟨m,hm.upd k id,fun j=>?_⟩,.inl g.wp,.inl g.wm,fun b c=>c.elim (fun c=>aC (g.lt b c) k.size) fun c=>(e b c).2,g.nd⟩
 rcases n j with⟨s,ps,i,h2,f⟩|d
 ·exact .inl ⟨s,ps,i,h2,(f.less fun b c=>c.imp id fun c=>(e b c).1).upd k fun _ h=>h.elim⟩
 ·exact .inr d
theorem GraphAt.less{W W':Nat→Prop}{h:ae}{gp gm:Nat}{L:dI}{nx:Int}(g:GraphAt W h gp gm L nx)(e:∀b,W' b→W b)(c:W' gp)(h2:W' gm):GraphAt W' h gp gm L nx:=by
 obtain⟨m,hm,i⟩:=g.map;refine⟨g.blk,⟨m,hm,fun j=>?_⟩,c,h2,fun b d=>g.lt b (e b d),g.nd⟩
 rcases i j with⟨s,ps,c,h2,f⟩|n
 ·exact .inl ⟨s,ps,c,h2,f.less fun b d=>.inl (e b d)⟩
 ·exact .inr n
end Go.Proofs
namespace Go.Proofs
open Go.Lift
theorem Yq{M:Nat→Prop}(h:ae)(x:Int)(hM:M h.size):OwnS u32 1 31 M (hnew h [.int .u32 x] 31) ⟨some (aJ h),1,1⟩ [x]:=
 ⟨rfl,yq,ai _,.inr ⟨h.size,[],rfl,hM,cO ..,rfl⟩⟩
structure Small(L:dI):Prop where
 two:∀v∈L,v.2.length≤2
 len:L.length≤100000
theorem VN{κ β:Type}[DecidableEq κ]{l:List (κ×β)}{k:κ}{v:β}(hm:(k,v)∈l):(Ag l k).length<l.length:=by
 unfold Ag;exact List.length_filter_lt_length_iff_exists.2 ⟨_,hm,by simp⟩
end Go.Proofs
namespace Go.Proofs
open Go.Lift
structure Good(L:dI):Prop extends Small L where
 up:(ids L).Pairwise (· < ·)
 par:∀v∈L,∀p∈v.2,p∈ids L∧p<v.1
theorem Good.nd{L:dI}(g:Good L):(ids L).Nodup:=g.up.imp fun h=>Int.ne_of_lt h
theorem Good.parV{L:dI}(g:Good L){a p:Int}(h:p∈parV L a):p∈ids L∧p<a∧a∈ids L:=by
 unfold Proofs.parV at h;cases hl:dT L a with
 |none=>rw[hl]at h;simp at h
 |some ps=>
  rw[hl]at h;have hm:=(sZ g.nd).1 hl;have:=g.par _ hm p (by simpa using h);exact⟨this.1,this.2,bI.2 ⟨_,hm,rfl⟩⟩
theorem UpG.snoc{L:dI}{a z w:Int}(h:UpG L a z)(b:w∈Proofs.parV L z)(hi:w∈ids L):UpG L a w:=by
 induction h with
 |refl h1=>exact .step h1 b (.refl hi)
 |step h1 h2 _ ih=>exact .step h1 h2 (ih b)
theorem UpG.right{L:dI}{a b:Int}(h:UpG L a b):b∈ids L:=by
 induction h with
 |refl h=>exact h
 |step _ _ _ ih=>exact ih
theorem UpG.last{L:dI}{a b:Int}(h:UpG L a b):b=a∨∃z,UpG L a z∧b∈Proofs.parV L z:=by
 induction h with
 |refl _=>exact .inl rfl
 | @step a p b h1 h2 h3 ih=>
  rcases ih with rfl|⟨z,d,c⟩
  ·exact .inr ⟨a,.refl h1,h2⟩
  ·exact .inr ⟨z,.step h1 h2 d,c⟩
theorem UpG.le{L:dI}(g:Good L){a b:Int}(h:UpG L a b):b≤a:=by
 induction h with
 |refl _=>exact Int.le_refl _
 |step _ h2 _ ih=>have:=(g.parV h2).2.1;omega
theorem UpG.trans{L:dI}{a b c:Int}(h:UpG L a b)(k:UpG L b c):UpG L a c:=by
 induction h with
 |refl _=>exact k
 |step h1 h2 _ ih=>exact .step h1 h2 (ih k)
theorem A6:∀{xs ys:List Int},xs.Pairwise (· < ·)→ys.Pairwise (· < ·)→(∀y,y∈xs↔y∈ys)→xs=ys
 | [],[],_,_,_=>rfl
 | [],y::ys,_,_,h=>by have:=(h y).2 (aD ..);cases this
 |x::xs,[],_,_,h=>by have:=(h x).1 (aD ..);cases this
 |x::xs,y::ys,hx,hy,h=>by
  rw[bF]at hx hy;have e:x=y:=by
   rcases ar.1 ((h x).1 (aD ..))with e|e
   ·exact e
   ·rcases ar.1 ((h y).2 (aD ..))with c|c
    ·exact c.symm
    ·have:=hy.1 x e;have:=hx.1 y c;omega
  subst e;congr 1
  refine A6 hx.2 hy.2 fun z=>?_
  have:=h z;simp only[ar]at this;constructor
  ·intro b
   rcases this.1 (.inr b)with e|e
   ·subst e;exact absurd (hx.1 _ b) (Int.lt_irrefl _)
   ·exact e
  ·intro b
   rcases this.2 (.inr b)with e|e
   ·subst e;exact absurd (hy.1 _ b) (Int.lt_irrefl _)
   ·exact e
end Go.Proofs
namespace Go.Proofs
open Go.Lift
structure Inv(L:dI)(nx:Int):Prop where
 good:Good L
 pos:∀id∈ids L,1≤id∧id<nx
 nx1:1≤nx
 nx2:nx≤2147483648
 few:L.length≤1024
theorem Inv.nil:Inv [] 1:=⟨⟨⟨fun v hv=>(by cases hv),by simp⟩,dh,fun v hv=>(by cases hv)⟩,fun v hv=>(by cases hv),by omega,by omega,by simp⟩
theorem LQ{id:Int}:∀{L:dI},(ids L).Pairwise (· < ·)→id∉ids L→∀v∈L.dropWhile (fun v=>decide (v.1<id)),id<v.1
 | [],_,_,v,hv=>by cases hv
 |u::L,hp,hn,v,hv=>by
  simp only[ids,bJ,bF,ar,not_or]at hp hn;rw[List.dropWhile_cons]at hv;split at hv
  ·exact LQ hp.2 hn.2 v hv
  ·rename_i h
   have h:¬u.1<id:=by simpa using h
   rcases ar.1 hv with rfl|hv
   ·omega
   ·have:=hp.1 v.1 (bI.2 ⟨v,hv,rfl⟩);omega
theorem QE{id:Int}:∀{L:dI},∀v∈L.takeWhile (fun v=>decide (v.1<id)),v.1<id
 | [],v,hv=>by cases hv
 |u::L,v,hv=>by
  rw[List.takeWhile_cons]at hv;split at hv
  ·rename_i h
   rcases ar.1 hv with rfl|hv
   ·simpa using h
   ·exact QE v hv
  ·cases hv
theorem Kj{L:dI}(g:Good L){id:Int}{ps:List Int}(i:id∉ids L)(f:∀p∈ps,p∈ids L∧p<id)(h2:ps.length≤2)(m:L.length<100000):Good (um L id ps):=by
 have b:=ws L id ps;refine⟨⟨fun v hv=>?_,by rw[b.length_eq];simp;omega⟩,?_,fun v hv p c=>?_⟩
 ·rcases ar.1 (b.mem_iff.1 hv)with rfl|hv
  ·exact h2
  ·exact g.two v hv
 ·unfold um ids
  rw[List.map_append,bJ,List.pairwise_append];refine⟨(g.up.sublist ((List.takeWhile_sublist _).map _)),bF.2 ⟨fun y d=>?_,g.up.sublist ((List.dropWhile_sublist _).map _)⟩,fun x hx y d=>?_⟩
  ·obtain⟨v,hv,rfl⟩:=bI.1 d
   exact LQ g.up i v hv
  ·obtain⟨u,j,rfl⟩:=bI.1 hx
   have e:=QE u j;rcases ar.1 d with rfl|d
   ·exact e
   ·obtain⟨v,hv,rfl⟩:=bI.1 d
    have:=LQ g.up i v hv;omega
 ·rw[insV_ids.mem_iff]
  rcases ar.1 (b.mem_iff.1 hv)with rfl|hv
  ·exact⟨aA _ (f p c).1,(f p c).2⟩
  ·have:=g.par v hv p c
   exact⟨aA _ this.1,this.2⟩
theorem Hh{L:dI}{ps:List Int}(h:oO L ps=0):(∀p∈ps,p∈ids L)∧L.length<1024:=by
 unfold oO at h;split at h
 ·cases h
 ·rename_i h1
  split at h
  ·cases h
  ·rename_i h2
   refine⟨fun p b=>?_,by omega⟩
   by_cases hm:p∈ids L
   ·exact hm
   ·exact absurd (dZ.2 ⟨p,b,by simpa using hm⟩) h1
theorem Ka{ps:List Int}(h:sF ps=0):ps.length≤2:=by
 unfold sF at h;split at h
 ·cases h
 ·rename_i h1
  have:=not_or.1 h1;omega
theorem Inv.add{L:dI}{nx:Int}(v:Inv L nx)(ps:List Int):Inv (Y5 L nx ps).2.1 (Y5 L nx ps).2.2:=by
 unfold Y5;split
 ·exact v
 ·rename_i c
  split
  ·exact v
  ·rename_i h2
   split
   ·exact v
   ·rename_i h3
    have c:sF ps=0:=by omega
    have h2:oO L ps=0:=by omega
    obtain⟨d,g⟩:=Hh h2;have f:nx∉ids L:=fun hm=>by have:=(v.pos nx hm).2;omega
    show Inv (um L nx ps) (nx+1)
    refine⟨Kj v.good f (fun p e=>⟨d p e,(v.pos p (d p e)).2⟩) (Ka c) (by have:=v.few;omega),fun id b=>?_,by have:=v.nx1;omega,by omega,?_⟩
    ·rcases ar.1 (insV_ids.mem_iff.1 b)with rfl|h
     ·have:=v.nx1;omega
     ·have:=v.pos id h;omega
    ·rw[(ws L nx ps).length_eq];simp;omega
theorem Inv.put{L:dI}{nx:Int}(v:Inv L nx){id:Int}(q:0≤id)(ps:List Int):Inv (fV L nx id ps).2.1 (fV L nx id ps).2.2:=by
 unfold fV;split
 ·exact v
 ·rename_i c
  have c:=not_or.1 c;have o:=c.1;have d:=not_or.1 c.2;have e:=not_or.1 d.2;split
  ·exact v
  ·rename_i h2
   split
   ·exact v
   ·rename_i f
    have n:sF ps=0:=by omega
    have f:oO L ps=0:=by omega
    obtain⟨s,u⟩:=Hh f;have i:=v.nx1;refine⟨Kj v.good h2 (fun p g=>⟨s p g,?_⟩) (Ka n) (by have:=v.few;omega),fun j m=>?_,by simp only;split<;>omega,?_,?_⟩
    ·by_cases b:p<id
     ·exact b
     ·exact absurd (dZ.2 ⟨p,g,by simpa using b⟩) e.2
    ·rcases ar.1 (insV_ids.mem_iff.1 m)with rfl|h
     ·simp only;split<;>omega
     ·have:=v.pos j h;simp only;split<;>omega
    ·have:=v.nx2;simp only;split<;>omega
    ·rw[(ws L id ps).length_eq];simp;omega
theorem Inv.drop{L:dI}{nx:Int}(v:Inv L nx){keep st:List Int}(d:∀y,y∈st↔∃k∈keep,UpG L k y):Inv (L.filter fun v=>decide (v.1∈st)) nx:=by
 have b:∀id,id∈ids (L.filter fun v=>decide (v.1∈st))↔id∈ids L∧id∈st:=fun id=>by
  unfold ids;simp only[bI,dG,decide_eq_true_iff];constructor
  ·rintro⟨u,⟨c,h2⟩,rfl⟩;exact⟨⟨u,c,rfl⟩,h2⟩
  ·rintro⟨⟨u,c,rfl⟩,h2⟩;exact⟨u,⟨c,h2⟩,rfl⟩
 refine⟨⟨⟨fun u f=>v.good.two u (dG.1 f).1,co (gP ..) v.good.len⟩,v.good.up.sublist ((List.filter_sublist).map _),fun u f p j=>?_⟩,fun id g=>v.pos id ((b id).1 g).1,v.nx1,v.nx2,co (gP ..) v.few⟩
 obtain⟨c,h2⟩:=dG.1 f;obtain⟨i,m⟩:=v.good.par u c p j;refine⟨(b p).2 ⟨i,?_⟩,m⟩;obtain⟨k,n,e⟩:=(d _).1 (of_decide_eq_true h2);refine(d p).2 ⟨k,n,e.snoc ?_ i⟩;have:dT L u.1=some u.2:=(sZ v.good.nd).2 c;simp[parV,this,j]
end Go.Proofs
namespace Go.Proofs
open Go Go.Lift
abbrev II:KeyE ByteArray:=⟨fun s=>.string s,.str,fun x=>⟨x,rfl⟩,fun x y=>⟨fun e=>xN e,fun e=>by subst e;exact yS x⟩⟩
abbrev TD:=Tr×List Pr
abbrev aao(d:TD):Value:=RI d.1
abbrev V8(n:Int):Value:=.int .u32 n
structure VS where
 gp:Nat
 gm:Nat
 tm:Nat
 bm:Nat
 nm:Nat
 kind:Int
 x:Hs
 e:Tr
 L:dI
 nx:Int
 D:List (Int×TD)
 B:List (ByteArray×Int)
 G:List (ByteArray×Int)
def VS.M(s:VS):Nat→Prop:=fun y=>y=s.gp∨y=s.gm∨y=s.tm∨y=s.bm∨y=s.nm
structure VaultAt(W:Nat→Prop)(h:ae)(vp:Nat)(s:VS):Prop where
 blk:h[vp]? =some (.cells (kA s.e++ [Value.pointer (some ⟨s.gp,0,none⟩),Value.map (some s.tm),Value.map (some s.bm),Value.map (some s.nm)]).toArray 176 (0,0))
 g:GraphAt W h s.gp s.gm s.L s.nx
 t:MapAt KE aao h s.tm s.D
 b:MapAt II V8 h s.bm s.B
 n:MapAt II V8 h s.nm s.G
 w:∀y,s.M y→W y
 wv:¬W vp
 ne: [s.gp,s.gm,s.tm,s.bm,s.nm].Nodup
 em:TreeIs W h s.kind s.x s.e []
 ts:∀d∈s.D,TreeIs W h s.kind s.x d.2.1 d.2.2∧fE d.2.2∧Fit d.2.2
 sub:∀id,id∈s.D.map (·.1)↔id∈ids s.L
 inv:Inv s.L s.nx
 kd:s.kind=0∨s.kind=1
theorem VaultAt.upd{W M:Nat→Prop}{h i:ae}{vp:Nat}{s:VS}(v:VaultAt W h vp s)(k:Upd M h i)(hm:∀b,M b→(W b∧¬s.M b)∨h.size≤b):VaultAt W i vp s:=by
 have g:∀y,s.M y→¬M y:=fun y m c=>(hm y c).elim (fun e=>e.2 m) fun e=>absurd (v.g.lt y (v.w y m)) (by omega)
 have j:∀b,M b→W b∨h.size≤b:=fun b c=>(hm b c).imp (·.1) id
 have hv:¬M vp:=fun c=>(hm vp c).elim (fun e=>v.wv e.1) fun e=>absurd (bc v.blk) (by omega)
 exact⟨k.get v.blk hv,v.g.upd k fun b c=>(hm b c).imp (fun e=>⟨e.1,fun f=>e.2 (.inl f),fun f=>e.2 (.inr (.inl f))⟩) id,v.t.upd k (g _ (.inr (.inr (.inl rfl)))),v.b.upd k (g _ (.inr (.inr (.inr (.inl rfl))))),v.n.upd k (g _ (.inr (.inr (.inr (.inr rfl))))),v.w,v.wv,v.ne,v.em.updM k j,fun d hd=>⟨(v.ts d hd).1.updM k j,(v.ts d hd).2⟩,v.sub,v.inv,v.kd⟩
theorem VaultAt.upd0{W:Nat→Prop}{h b:ae}{vp:Nat}{s:VS}(v:VaultAt W h vp s)(k:Upd No h b):VaultAt W b vp s:=v.upd k fun _ h=>h.elim
end Go.Proofs
namespace Go.Proofs
open Go Go.Lift
theorem Lz{h:ae}{r:Nat}{es:Array MapEntry}{b:Nat}(t:TypeId)(g:h[r]? =some (.map es b)) {K:Value→ae→Prop} (d:K (.iface t (.map (some h.size))) (h.push (.map es b))):
  IK 167 [.iface t (.map (some r))] K h:=by
 refine⟨fun w f=>.inr ?_⟩
 subst f;have c:(getObj r).run PG w=.ok (.map es b) w:=by simp[getObj,Sem.run,g]
 refine⟨.iface t (.map (some w.heap.size)),w.alloc (.map es b),?_,⟨rfl,rfl,rfl⟩,_,rfl,d⟩;rw[L7];have e:Extern.MapsClone.clone #[.iface t (.map (some r))]=(getObj r>>=fun o=>match o with
   | .map entries b=>(newObj (.map entries b)>>=fun n=>pure (.iface t (.map (some n))))
   |_=>stuck "maps.clone: a map expected"):=rfl
 rw[show([Value.iface t (.map (some r))]:List Value).toArray= #[.iface t (.map (some r))]from rfl,e]
 simp only[Sem.run_bind,c,Result.andThen_ok];rfl
theorem U0{W:Nat→Prop}{h:ae}{gp gm:Nat}{L:dI}{nx:Int}(g:GraphAt W h gp gm L nx)
  {K:Option Addr→ae→Prop}(w:∀h',Upd No h h'→GraphAt (fun b=>W b∨b=h.size+1∨b=h.size) h' gp gm L nx→GraphAt (fun b=>W b∨b=h.size+1∨b=h.size) h' (h.size+1) h.size L nx→K (some ⟨h.size+1,0,none⟩) h'):
  fh 106 [gF gp] K h:=by
 refine eM (uc (some ⟨gp,0,none⟩)) .nil Tryz.func106 Tryz.call106 ?_;dsimp only[uc,cg,eS,dq,Ai];refine CondP.intro (fun e=>by cases e) fun _=>⟨_,rfl,_,g.c0,_,rfl,_,g.c1,?_⟩
 refine eM (jz (some gm)) .nil Tryz.func134 Tryz.call134 ?_;unfold jz;refine CondP.intro (fun e=>by cases e) fun _=>?_
 obtain⟨m,⟨ms,c,hm,y⟩,A⟩:=g.map;refine Lz _ hm.here ⟨_,rfl,?_⟩;have k1:=Upd.push No h (.map (ms.map (DT KE sv)).toArray c);have f:MapAt KE sv (h.push (.map (ms.map (DT KE sv)).toArray c)) h.size m:=⟨ms,c,⟨lD h _,hm.keys,hm.nums,hm.old⟩,y⟩;refine⟨(g.upd0 k1).c1,?_⟩;have d:(h.push (.map (ms.map (DT KE sv)).toArray c)).size=h.size+1:=by simp
 generalize (h.push (.map (ms.map (DT KE sv)).toArray c))=h1 at k1 f d;have i:=Upd.hnew No h1 [.map (some h.size),.int .u32 nx] 210;have b2:=cO h1 [.map (some h.size),.int .u32 nx] 210;have z:=eI h1 [.map (some h.size),.int .u32 nx] 210;simp only[At,dA];rw[d]at b2⊢;generalize hnew h1 [.map (some h.size),.int .u32 nx] 210=h2 at i b2 z;have k:=k1.tr i;have o:∀b,(b=h.size+1∨b=h.size)→h.size≤b∧b<h2.size:=fun b n=>by omega
 have p:=g.more (Q:=fun b=>b=h.size+1∨b=h.size) k o
 refine⟨((g.upd0 k1).upd0 i).c1,w h2 k p ⟨b2,⟨m,f.upd i id,?_⟩,.inr (.inl rfl),.inr (.inr rfl),p.lt,g.nd⟩⟩;intro j;rcases A j with⟨s,ps,v,u,x⟩|q
 ·exact .inl ⟨s,ps,v,u,(x.less fun b n=>n.imp id fun n=>(o b n).1).upd k fun _ h=>h.elim⟩
 ·exact .inr q
end Go.Proofs
namespace Go.Proofs
open Go Go.Lift
section
variable {W:Nat→Prop} {h:ae} {vp:Nat} {s:VS}
abbrev pV(vp:Nat):Value:=.pointer (some ⟨vp,0,none⟩)
theorem Ws(v:VaultAt W h vp s)(id:Int){K:Bool→ae→Prop}(b:K (decide (id=0∨id∈ids s.L)) h):f5 125 [pV vp,.int .u32 id] K h:=by
 refine eM (uT (some ⟨vp,0,none⟩) id) .nil Tryz.func125 Tryz.call125 ?_;dsimp only[uT,ce,uk,dq];refine CondP.intro (fun e=>?_) fun e=>⟨_,rfl,_,vc v.blk 6,LM v.g id ?_⟩
 ·rw[decide_eq_true (.inl (by simpa using e))]at b;exact b
 ·have e:id≠0:=by simpa using e
  rw[show decide (id=0∨id∈ids s.L)=decide (id∈ids s.L)from by simp[e]]at b;exact b
theorem Dx(v:VaultAt W h vp s){K:Tr→ae→Prop}(d:∀h',Upd No h h'→K s.e h'):xn 61 [pV vp] K h:=by
 refine eM (rZ (some ⟨vp,0,none⟩)) .nil Tryz.func61 Tryz.call61 ?_;dsimp only[rZ,eP,js,uN,aR,au,aG,dq,Od,Dv,Bu,ce,MB,dg,db];refine bj fun f b1 k1=>CondP.intro (fun e=>by cases e) fun _=>⟨_,rfl,?_⟩
 have c:=k1.get0 v.blk;refine⟨_,lA c 0 0,_,lA c 0 1,_,lA c 0 2,_,lA c 0 3,_,lA c 0 4,_,lA c 0 5,?_⟩;refine dt (c:=kA qG) (vs:=kA s.e) b1 rfl fun h2 b2 b=>?_
 exact⟨_,vc b2 0,_,vc b2 1,_,vc b2 2,_,vc b2 3,_,vc b2 4,_,vc b2 5,d h2 (k1.own b (ai _))⟩
theorem TL(v:VaultAt W h vp s)(id:Int){K:Tr×Int→ae→Prop}(n:id=0→∀h',Upd No h h'→K (s.e,0) h')(o:∀d,dT s.D id=some d→id≠0→∀h',Upd No h h'→K (d.1,0) h')(j:dT s.D id=none→id≠0→∀h',Upd No h h'→K (qG,4) h'):
  yl 68 [pV vp,.int .u32 id] K h:=by
 refine eM (tP (some ⟨vp,0,none⟩) id) .nil Tryz.func68 Tryz.call68 ?_;dsimp only[tP,cg,eP,nv,js,jP,Sz,Zq,uN,aR,au,aG,dq,L9,Dv,Od,Bu,ce,MB,dg,db];refine bj fun x b1 k1=>CondP.intro (fun e=>by cases e) fun _=>?_
 have c:=k1.get0 v.blk;refine CondP.intro (fun e=>⟨_,rfl,?_⟩) fun e=>⟨_,rfl,_,vc c 7,((dT s.D id).getD (qG,[])).1,_,(v.t.upd k1 fun h=>h).get id (qG,[]),bj fun h2 b2 u=>?_⟩
 ·refine⟨_,lA c 0 0,_,lA c 0 1,_,lA c 0 2,_,lA c 0 3,_,lA c 0 4,_,lA c 0 5,?_⟩
  refine dt (c:=kA qG) (vs:=kA s.e) b1 rfl fun h2 b2 m=>?_
  exact⟨_,vc b2 0,_,vc b2 1,_,vc b2 2,_,vc b2 3,_,vc b2 4,_,vc b2 5,n (by simpa using e) h2 (k1.own m (ai _))⟩
 ·have e:id≠0:=by simpa using e
  have y:=bc b1;have z:=k1.size;refine dt (c:=kA qG) (vs:=kA ((dT s.D id).getD (qG,[])).1) b2 rfl fun w b3 g=>?_
  have i:=g.oth (u.get0 b1) (by omega);have q:Upd No h w:=(k1.tr u).own g k1.size;cases hl:dT s.D id with
  |none=>
   refine aV.2 (dt (c:=kA qG) (vs:=kA qG) i rfl fun p b f=>?_)
   exact⟨_,vc b 0,_,vc b 1,_,vc b 2,_,vc b 3,_,vc b 4,_,vc b 5,j hl e p (q.own f (ai _))⟩
  |some d=>
   rw[hl]at b3;refine ay.2 ⟨_,vc b3 0,_,vc b3 1,_,vc b3 2,_,vc b3 3,_,vc b3 4,_,vc b3 5,?_⟩;refine dt (c:=kA qG) (vs:=kA d.1) i rfl fun p b f=>?_
   exact⟨_,vc b 0,_,vc b 1,_,vc b 2,_,vc b 3,_,vc b 4,_,vc b 5,o d hl e p (q.own f (ai _))⟩
theorem JB(v:VaultAt W h vp s){K:Option Addr→ae→Prop}(f:∀c,Upd No h c→GraphAt (fun b=>W b∨b=h.size+1∨b=h.size) c (h.size+1) h.size s.L s.nx→K (some ⟨h.size+1,0,none⟩) c):fh 60 [pV vp] K h:=by
 refine eM (rY (some ⟨vp,0,none⟩)) .nil Tryz.func60 Tryz.call60 ?_;dsimp only[rY,ce,dq];exact CondP.intro (fun e=>by cases e) fun _=>⟨_,rfl,_,vc v.blk 6,U0 v.g fun c d _ g=>f c d g⟩
theorem VaultAt.turn{M:Nat→Prop}{c:ae}{L:dI}{nx:Int}{D:List (Int×TD)}{B G:List (ByteArray×Int)}(v:VaultAt W h vp s)(k:Upd M h c)(hm:∀b,M b→W b∨h.size≤b)(g:GraphAt W c s.gp s.gm L nx)(t:MapAt KE aao c s.tm D)(b:MapAt II V8 c s.bm B)(n:MapAt II V8 c s.nm G)
  (ts:∀d∈D,d∈s.D∨TreeIs W c s.kind s.x d.2.1 d.2.2∧fE d.2.2∧Fit d.2.2)(sub:∀id,id∈D.map (·.1)↔id∈ids L)(inv:Inv L nx):VaultAt W c vp {s with L:=L,nx:=nx,D:=D,B:=B,G:=G}:=by
 have hv:¬M vp:=fun f=>(hm vp f).elim (fun e=>v.wv e) fun e=>absurd (bc v.blk) (by omega)
 exact⟨k.get v.blk hv,g,t,b,n,v.w,v.wv,v.ne,v.em.updM k hm,fun d hd=>(ts d hd).elim (fun e=>⟨(v.ts d e).1.updM k hm,(v.ts d e).2⟩) id,sub,inv,v.kd⟩
end
end Go.Proofs
namespace Go.Proofs
open Go Go.Lift
def wy(b:UInt8):Bool:=decide (33≤b.toNat)&&decide (b.toNat≤126)
def jY(n:ByteArray):Bool:=decide (1≤n.size)&&decide (n.size≤32)&&n.data.toList.all wy
theorem Vy{b:UInt8}{h:ae}{K:Bool→ae→Prop}(c:K (!wy b) h):f5 155 [.int .u8 b.toNat] K h:=by
 refine eM (xS b.toNat) .nil Tryz.func155 Tryz.call155 ?_;unfold xS;refine ak (fun e=>?_) fun e=>?_
 ·rw[show(!wy b)=true from by simp[wy];omega]at c;exact c
 ·rw[show(!wy b)=decide ((b.toNat:Int)>126)from by unfold wy;rw[decide_eq_true (by omega:33≤b.toNat),Bool.true_and,←decide_not,decide_eq_decide];omega]at c;exact c
theorem Ry{n:ByteArray}{h:ae}{K:Bool→ae→Prop}(g:∀j,Upd No h j→K (jY n) j):f5 124 [.string n] K h:=by
 refine eM (Az n) Jp Tryz.func124 Tryz.call124 ?_;unfold Az;refine Join.plain (ak (fun e=>aV.2 ?_) fun e=>ak (fun s=>?_) fun s=>?_)
 ·rw[show jY n=false from by simp[jY];omega]at g;exact g _ (Upd.refl _ _)
 ·rw[show jY n=false from by simp[jY];omega]at g;exact g _ (Upd.refl _ _)
 ·refine fun c hc=>?_
  have k1:=Upd.push No h (.cells (dN n++gg (c-n.size) (Value.int .u8 0)).toArray 5 (c,c+1));have b1:=lD h (.cells (dN n++gg (c-n.size) (Value.int .u8 0)).toArray 5 (c,c+1));generalize h.push (.cells (dN n++gg (c-n.size) (Value.int .u8 0)).toArray 5 (c,c+1))=h1 at k1 b1;have f:n.data.toList.length=n.size:=Array.length_toList;refine oY ⟨some (aJ h),n.size,c⟩ _ ?_
  unfold jM;refine ql ⟨some (aJ h),n.size,c⟩ _ ?_;dsimp only[kK,vI,cg,ic,ji];refine LoopP.ghost (fun(i:Nat) (t:Int) j=>t=(i:Int)∧j=h1∧i≤n.size∧∀b∈n.data.toList.take i,wy b=true) (fun i=>n.size-i) 0 ⟨rfl,rfl,aY _,by simp⟩ ?_
  rintro I i t j ⟨rfl,rfl,hi,p⟩ q;refine ak (fun d=>?_) fun o=>?_
  ·have d:i<n.data.toList.length:=by rw[f];(try simp only at d);omega
   refine⟨by(try simp only);omega,aJ h,rfl,(n.data.toList[i].toNat:Int),?_,?_⟩
   ·rw[Hc b1,List.getElem?_toArray,Int.toNat_natCast,Nat.mul_one,List.getElem?_append_left (by simp[dN];omega)]
    simp[dN,f▸d]
   ·refine HV.mk' (Vy (b:=n.data.toList[i]) (CondP.intro (fun e=>?_) fun e=>?_))
    ·rw[show jY n=false from ?_]at g
     ·rw[decide_eq_true (by omega)];exact g _ k1
     ·unfold jY
      rw[show n.data.toList.all wy=false from List.all_eq_false.2 ⟨_,bR d,by simpa using e⟩,Bool.and_false]
    ·rw[cX (n:=n.size) (by omega) (by omega)]
     refine q (i+1) _ _ ⟨rfl,rfl,by omega,?_⟩ (by omega)
     rw[bd d];intro b m;rcases be.1 m with m|m
     ·exact p b m
     ·rw[aq.1 m];simpa using e
  ·have:i=n.size:=by(try simp only at o);omega
   subst this;rw[←f,cG]at p;rw[show jY n=true from by unfold jY;rw[List.all_eq_true.2 p];simp;omega]at g
   exact g _ k1
def Ah(B:List (ByteArray×Int))(L:dI)(n:ByteArray)(id:Int)(no:Bool):Int:=if jY n=false then 1 else if(dT B n).isSome then 7 else if no|| !decide (id=0∨id∈ids L)then 4 else if B.length≥256 then 6 else 0
theorem Re{W:Nat→Prop}{h:ae}{vp:Nat}{s:VS}(v:VaultAt W h vp s){r:Nat}{B:List (ByteArray×Int)}(m:MapAt II V8 h r B)(n:ByteArray)(id:Int)(no:Bool){K:Int→ae→Prop}
  (i:∀b,Upd (· =r) h b→MapAt II V8 b r (if Ah B s.L n id no=0 then oE B n id else B)→K (Ah B s.L n id no) b):iI 91 [.map (some r),pV vp,.string n,.int .u32 id,.bool no] K h:=by
 refine eM (uS (some r) (some ⟨vp,0,none⟩) n id no) Dh Tryz.func91 Tryz.call91 ?_;unfold uS uk;refine⟨_,_,m.get n 0,Ry fun p k1=>?_⟩
 have c:∀e b,Ah B s.L n id no=e→e≠0→Upd No h b→K e b:=fun e b w y q=>by
  have:=i b q.wide;rw[w,if_neg y]at this;exact this (m.upd q fun h=>h)
 refine CondP.intro (fun e=>c 1 p ?_ (by decide) k1) fun e=>CondP.intro (fun f=>c 7 p ?_ (by decide) k1) fun f=>?_
 ·unfold Ah;rw[if_pos (by simpa using e)]
 ·unfold Ah;rw[if_neg (by simpa using e),if_pos f]
 ·have e:¬jY n=false:=by simpa using e
  have f:¬(dT B n).isSome=true:=by simp[f]
  refine Join.intro (fun t b=>t=(no|| !decide (id=0∨id∈ids s.L))∧Upd No h b) (fun R o=>?_) ?_
  ·refine CondP.intro (fun d=>o _ _ ⟨by rw[d];rfl,k1⟩) fun d=>Ws (v.upd0 k1) id (o _ _ ⟨by rw[d];rfl,k1⟩)
  ·rintro t h2 ⟨rfl,g⟩
   refine CondP.intro (fun d=>c 4 h2 ?_ (by decide) g) fun d=>⟨_,(m.upd g fun h=>h).len,ak (fun x=>c 6 h2 ?_ (by decide) g) fun x=>?_⟩
   ·unfold Ah;rw[if_neg e,if_neg f,if_pos d]
   ·unfold Ah;rw[if_neg e,if_neg f,if_neg (by rw[d];decide),if_pos (by omega)]
   ·have j:=m.upd g fun h=>h
    have u:Ah B s.L n id no=0:=by unfold Ah;rw[if_neg e,if_neg f,if_neg (by rw[d];decide),if_neg (by omega)]
    refine⟨r,rfl,j.isMap,?_⟩;have:=i _ ((g.wide).tr (BU (M:=(· =r)) h2 (.string n) (.int .u32 id) rfl))
    rw[u,if_pos rfl]at this;exact this (j.put n id)
theorem VS.neB{s:VS}(h: [s.gp,s.gm,s.tm,s.bm,s.nm].Nodup):s.gp≠s.gm∧s.gp≠s.tm∧s.gp≠s.bm∧s.gp≠s.nm∧s.gm≠s.tm∧s.gm≠s.bm∧s.gm≠s.nm∧s.tm≠s.bm∧s.tm≠s.nm∧s.bm≠s.nm:=by
 simp only[eE,ar,List.not_mem_nil,or_false,not_or]at h;exact⟨h.1.1,h.1.2.1,h.1.2.2.1,h.1.2.2.2,h.2.1.1,h.2.1.2.1,h.2.1.2.2,h.2.2.1.1,h.2.2.1.2,h.2.2.2.1⟩
theorem VaultAt.setB{W:Nat→Prop}{h c:ae}{vp:Nat}{s:VS}{B:List (ByteArray×Int)}(v:VaultAt W h vp s)(k:Upd (· =s.bm) h c)(b:MapAt II V8 c s.bm B):VaultAt W c vp {s with B:=B}:=by
 obtain⟨u,w,n,p,q,j,o,m,x,g⟩:=VS.neB v.ne;have i:∀b,b=s.bm→W b:=fun b e=>v.w b (.inr (.inr (.inr (.inl e))))
 exact v.turn k (fun b e=>.inl (i b e)) (v.g.upd k fun b e=>.inl ⟨i b e,fun f=>n (f.symm.trans e),fun f=>j (f.symm.trans e)⟩) (v.t.upd k m) b (v.n.upd k fun e=>g e.symm) (fun d hd=>.inl hd) v.sub v.inv
end Go.Proofs
namespace Go.Proofs
open Go Go.Lift
section
variable {M:Nat→Prop} {h:ae} {s:SliceV} {xs ys:List Int}
end
end Go.Proofs
namespace Go.Proofs
open Go Go.Lift
theorem L0{h:ae}{k:ae→Prop}(b:∀h',h'=h→k h'):At h k:=cP (b h rfl)
theorem HG{κ β:Type}[DecidableEq κ]{k:κ}{v:β}:∀{l:List (κ×β)} {p:κ×β},p∈oE l k v→p=(k,v)∨p∈l
 | [],p,h=>.inl (by simpa[oE]using h)
 |(k',u)::l,p,h=>by
  unfold oE at h;split at h
  ·exact(ar.1 h).imp id (aA _)
  ·rcases ar.1 h with h|h
   ·exact .inr (h▸aD)
   ·exact(HG h).imp id (aA _)
theorem Oa{β:Type}{k:Int}{v:β}:∀{l:List (Int×β)},dT l k=some v→(k,v)∈l
 |(k',u)::l,h=>by
  unfold dT at h;split at h
  ·rename_i e;cases h;rw[e];exact aD
  ·exact aA _ (Oa h)
section
variable {W:Nat→Prop} {h0 h:ae} {vp:Nat} {s:VS}
theorem VaultAt.size(v:VaultAt W h vp s){y:Nat}(b:s.M y):y<h.size:=v.g.lt y (v.w y b)
theorem VS.mG{s:VS}{y:Nat}(h:yV s.gp s.gm y):s.M y:=h.imp id .inl
end
end Go.Proofs
namespace Go.Proofs
open Go Go.Lift
section
variable {W:Nat→Prop} {h:ae} {vp:Nat} {s:VS}
end
end Go.Proofs
namespace Go.Proofs
open Go Go.Lift
end Go.Proofs
namespace Go.Proofs
open Go Go.Lift
end Go.Proofs
namespace Go.Proofs
open Go Go.Lift
abbrev b1:ByteArray:=⟨#[49]⟩
abbrev b2:ByteArray:=⟨#[50]⟩
abbrev b3:ByteArray:=⟨#[51]⟩
end Go.Proofs
namespace Go.Proofs
open Go Go.Lift
def look(l:List Pr)(k:ByteArray):Option ByteArray:=(l.find? fun p=>decide (p.1=k)).map (·.2)
end Go.Proofs
namespace Go.Proofs
open Go Go.Lift
section
variable {W:Nat→Prop} {h:ae} {vp:Nat} {s:VS}
end
end Go.Proofs
namespace Go.Proofs
open Go Go.Lift
structure NSt(h8:ae)(b:Nat)(t:Tr)(h:ae)(ps ms:List Nat):Prop where
 k:Upd No h8 h
 blk:h[b]? =some (.cells (kA t).toArray 101 (0,0))
 gs:∀p∈ps,GraphAt (yV (p+1) p) h (p+1) p [] 1∧h8.size≤p
 mp:∀m∈ms,h[m]? =some (.map #[] 0)∧h8.size≤m
section
variable {h8 h h':ae} {b:Nat} {t:Tr} {ps ms:List Nat}
theorem NSt.upd(n:NSt h8 b t h ps ms)(k:Upd No h h'):NSt h8 b t h' ps ms:=
 ⟨n.k.tr k,k.get0 n.blk,fun p c=>⟨(n.gs p c).1.upd0 k,(n.gs p c).2⟩,fun m hm=>⟨k.get0 (n.mp m hm).1,(n.mp m hm).2⟩⟩
theorem NSt.rds(n:NSt h8 b t h ps ms):bh h (adr ⟨b,0,none⟩ 0)=some (.int .i64 t.1)∧bh h (adr ⟨b,0,none⟩ 1)=some (.int .u64 t.2.1)∧bh h (adr ⟨b,0,none⟩ 2)=some (.int .u64 t.2.2.1)∧bh h (adr ⟨b,0,none⟩ 3)=some (.int .u64 t.2.2.2.1)∧bh h (adr ⟨b,0,none⟩ 4)=some (.pointer t.2.2.2.2.1)∧bh h (adr ⟨b,0,none⟩ 5)=some (.pointer t.2.2.2.2.2):=
 ⟨vc n.blk 0,vc n.blk 1,vc n.blk 2,vc n.blk 3,vc n.blk 4,vc n.blk 5⟩
theorem NSt.map(n:NSt h8 b t h ps ms){k:ae→Prop}(d:∀h',NSt h8 b t h' ps (h.size::ms)→h.size<h'.size→k h'):At (Array.push h (.map #[] 0)) k:=by
 have e:=Upd.push No h (.map #[] 0);have c:=n.upd e;refine cP (d _ ⟨c.k,c.blk,c.gs,fun m hm=>?_⟩ (by simp))
 rcases ar.1 hm with rfl|hm
 ·exact⟨lD h _,n.k.size⟩
 ·exact c.mp m hm
theorem NSt.graph(n:NSt h8 b t h ps ms){K:Option Addr→ae→Prop}(e:∀h',NSt h8 b t h' (h.size::ps) ms→h.size+1<h'.size→K (some ⟨h.size+1,0,none⟩) h'):fh 84 [] K h:=by
 refine Xh fun h' f g=>?_
 have c:=n.upd f;refine e h' ⟨c.k,c.blk,fun p d=>?_,c.mp⟩ (g.lt _ (.inl rfl))
 rcases ar.1 d with rfl|d
 ·exact⟨g,n.k.size⟩
 ·exact c.gs p d
theorem NSt.put(n:NSt h8 b t h ps ms){cs:List Value}{ty:TypeId}{k:ae→Prop}(c:∀h',NSt h8 b t h' ps ms→h'[h.size]? =some (.cells cs.toArray ty (0,0))→h8.size≤h.size→k h'):At (hnew h cs ty) k:=
 bj fun h' d k'=>c h' (n.upd k') d n.k.size
theorem NSt.done{W:Nat→Prop}{kind:Int}{x:Hs}(n:NSt h8 b t h ps ms)(A:∀y,W y→y<h8.size)(i:TreeIs W h8 kind x t [])(z:kind=0∨kind=1){f p s o q:Nat}{K:Option Addr×Int→ae→Prop}
  (C:∀h' vp gp gm tm bm nm,VaultAt (fun y=>W y∨VS.M ⟨gp,gm,tm,bm,nm,kind,x,t,[],1,[],[],[]⟩ y) h' vp ⟨gp,gm,tm,bm,nm,kind,x,t,[],1,[],[],[]⟩→h8.size≤vp→(∀y,VS.M ⟨gp,gm,tm,bm,nm,kind,x,t,[],1,[],[],[]⟩ y→h8.size≤y)→Upd No h8 h'→K (some ⟨vp,0,none⟩,0) h')
  (D:h[f]? =some (.cells (kA t++ [Value.pointer (some ⟨p+1,0,none⟩),Value.map (some s),Value.map (some o),Value.map (some q)]).toArray 176 (0,0)))
  (hv:h8.size≤f) (j:∀m∈(p+1)::p::ms,f≠m) (F:p∈ps) (v:s∈ms) (h2:o∈ms) (u:q∈ms) (ne: [p+1,p,s,o,q].Nodup):K (some ⟨f,0,none⟩,0) h:=by
 obtain⟨g,B⟩:=n.gs p F;have hM:∀y,VS.M ⟨p+1,p,s,o,q,kind,x,t,[],1,[],[],[]⟩ y→h8.size≤y∧y<h.size∧f≠y:=fun y c=>by
  rcases c with e|e|e|e|e<;>(simp only at e;subst e)
  ·exact⟨by omega,g.lt _ (.inl rfl),j _ (by simp)⟩
  ·exact⟨B,g.lt _ (.inr rfl),j _ (by simp)⟩
  ·exact⟨(n.mp _ v).2,bc (n.mp _ v).1,j _ (by simp[v])⟩
  ·exact⟨(n.mp _ h2).2,bc (n.mp _ h2).1,j _ (by simp[h2])⟩
  ·exact⟨(n.mp _ u).2,bc (n.mp _ u).1,j _ (by simp[u])⟩
 obtain⟨m,hm,w⟩:=g.map;have em:∀{κ β:Type} {E:KeyE κ} {g:β→Value} {r:Nat},h[r]? =some (.map #[] 0)→MapAt E g h r []:=fun w=>⟨[],0,⟨w,fp,fp,fun _ h=>by cases h⟩,rfl⟩
 refine C h f (p+1) p s o q ⟨D,⟨g.blk,⟨m,hm,fun id=>(w id).elim (fun⟨_,_,_,e,_⟩=>by cases e) .inr⟩,.inr (.inl rfl),.inr (.inr (.inl rfl)),fun y c=>c.elim (fun e=>aC (A y e) n.k.size) fun e=>(hM y e).2.1,g.nd⟩,em (n.mp _ v).1,em (n.mp _ h2).1,em (n.mp _ u).1,fun y c=>.inr c,fun c=>c.elim (fun e=>by have:=A _ e;omega) fun e=>(hM _ e).2.2 rfl,ne,?_,fun d hd=>(by cases hd),fun id=>Iff.rfl,Inv.nil,z⟩ hv (fun y c=>(hM y c).1) n.k
 exact(i.less fun y c=>c.imp id fun e=>(hM y e).1).upd0 n.k
end
theorem Wq{W:Nat→Prop}{h:ae}(u:∀y,W y→y<h.size){kind:Int}(p:kind=0∨kind=1){x:Hs}{K:Option Addr×Int→ae→Prop}
  (C:∀f vp gp gm tm bm nm t,VaultAt (fun y=>W y∨VS.M ⟨gp,gm,tm,bm,nm,kind,x,t,[],1,[],[],[]⟩ y) f vp ⟨gp,gm,tm,bm,nm,kind,x,t,[],1,[],[],[]⟩→h.size≤vp→(∀y,VS.M ⟨gp,gm,tm,bm,nm,kind,x,t,[],1,[],[],[]⟩ y→h.size≤y)→Upd No h f→K (some ⟨vp,0,none⟩,0) f):
  Hd 41 [.int .i64 kind,.agg #[.int .u64 x.k0,.int .u64 x.k1,.int .u64 x.mask]] K h:=by
 refine eM (E0 kind (x.k0,x.k1,x.mask)) .nil Tryz.func41 Tryz.call41 ?_;dsimp only[E0,aR,au,nv,BR,aG,EL,js,jP,uN,pR,IY];refine bj fun I b1 k1=>⟨_,vc b1 0,_,vc b1 1,_,vc b1 2,?_⟩
 refine FS (W:=W) (x:=x) (fun y d=>aC (u y d) k1.size) p fun D t i B=>?_
 have m:=k1.tr B;refine bj fun J A s=>dt (c:=kA qG) (vs:=kA t) A rfl fun g j o=>ay.2 ?_
 have b:Upd No h g:=(m.tr s).own o m.size;have H:TreeIs W g kind x t []:=((i.less (W':=fun y=>W y∨y=D.size) fun y d=>d.imp id fun e=>Nat.le_of_eq e.symm).updM (s.wide.tr (o.mono fun _ e=>.inl (.inr e))) fun y d=>.inl d).less fun y d=>.inl (.inl d)
 have w:∀y,W y→y<g.size:=fun y d=>aC (u y d) b.size
 have q:∀f vp gp gm tm bm nm,VaultAt (fun y=>W y∨VS.M ⟨gp,gm,tm,bm,nm,kind,x,t,[],1,[],[],[]⟩ y) f vp ⟨gp,gm,tm,bm,nm,kind,x,t,[],1,[],[],[]⟩→g.size≤vp→(∀y,VS.M ⟨gp,gm,tm,bm,nm,kind,x,t,[],1,[],[],[]⟩ y→g.size≤y)→Upd No g f→K (some ⟨vp,0,none⟩,0) f:=
  fun f vp gp gm tm bm nm v hv hM E=>C f vp gp gm tm bm nm t v (co b.size hv) (fun y d=>co b.size (hM y d)) (b.tr E)
 have n:NSt g D.size t g [] []:=⟨Upd.refl _ _,j,fun _ h=>(by cases h),fun _ h=>(by cases h)⟩
 refine⟨_,vc j 0,_,vc j 1,_,vc j 2,_,vc j 3,_,vc j 4,_,vc j 5,?_⟩;clear C b u j o m i B s A b1 k1;repeat' first
  |refine⟨n.rds,?_⟩
  |refine n.graph fun _ n z=>?_
  |refine n.map fun _ n z=>?_
  |refine n.put fun _ n G F=>?_
  |exact n.done w H p q G F (by simp;omega) (by simp) (by simp) (by simp) (by simp) (by simp;omega)
  |refine And.intro ?_ ?_
end Go.Proofs
namespace Go.Proofs
open Go Go.Lift
theorem _root_.Go.Lift.Upd.fresh{M:Nat→Prop}{h b h2:ae}(k:Upd No h b)(u:Upd M b h2)(hM:∀y,M y→h.size≤y):Upd No h h2:=k.trans u fun y c=>.inr (hM y c)
end Go.Proofs
namespace Go.Proofs
open Go Go.Lift
end Go.Proofs
namespace Go.Proofs
open Go Go.Lift
theorem W7{α:Type}{l:List α}{i:Nat}{a b:α}(h:b∈l.set i a):b=a∨∃j,j≠i∧l[j]? =some b:=by
 obtain⟨j,c⟩:=mP h;rw[List.getElem?_set]at c;split at c
 ·split at c
  ·cases c;exact .inl rfl
  ·cases c
 ·exact .inr ⟨j,by omega,c⟩
def sb(s:SliceV)(y:Nat):Prop:=s.cap≠0∧∃a,s.a=some a∧y=a.block
section
variable {α:Type} {f:α→List Value} {sz:Nat} {ty:TypeId} {M:Nat→Prop} {h:ae} {s so:SliceV} {xs out:List α}
theorem _root_.Go.Lift.OwnS.sub(o:OwnS f sz ty M h s xs):∀y,sb s y→M y∧y<h.size:=fun y ⟨hc,a,j,e⟩=>by
 rcases o.blk with i|⟨b,d,c,hm,g,_⟩
 ·exact absurd i hc
 ·rw[j]at c
  cases c;exact⟨e▸hm,e▸bc g⟩
theorem _root_.Go.Lift.OwnS.its(o:OwnS f sz ty M h s xs):OwnS f sz ty (sb s) h s xs:=by
 refine⟨o.len,o.ne,o.cap,?_⟩;by_cases hc:s.cap=0
 ·exact .inl hc
 ·rcases o.blk with i|⟨b,c,d,hm,e,g⟩
  ·exact absurd i hc
  ·exact .inr ⟨b,c,d,⟨hc,_,d,rfl⟩,e,g⟩
theorem ie{a:Option Addr}{n:Nat}:∀y,¬sb ⟨a,n,0⟩ y:=fun _ h=>h.1 rfl
theorem _root_.Go.Lift.OwnS.one{x:α}{b:Nat}(c:∀x,(f x).length=sz∧0<sz)(d:h[b]? =some (.cells (f x).toArray ty (0,0))):OwnS f sz ty (sb ⟨some ⟨b,0,none⟩,1,1⟩) h ⟨some ⟨b,0,none⟩,1,1⟩ [x]:=
 ⟨rfl,c,ai _,.inr ⟨b,[],rfl,⟨by simp,_,rfl,rfl⟩,by simpa using d,by simp⟩⟩
theorem VH{bytes:Nat}{z:List Value}{t:α}{b:Nat}{K:SliceV→ae→Prop}(j:OwnS f sz ty (sb so) h so out)(o:h[b]? =some (.cells (f t).toArray ty (0,0))) (d:cF (f t)=true) (p:z.length=sz) (g:0<bytes∧bytes≤64) (q:out.length+1≤1000000)
  (n:∀s' c,OwnS f sz ty (sb s') c s' (out++ [t])→Upd (sb so) h c→(∀y,sb s' y→(sb so y∨h.size≤y)∧y<c.size)→K s' c):
  ∃xs,SRow h (some ⟨b,0,none⟩) (1*sz) xs∧AppP (some z) sz bytes ty so.a so.len so.cap 1 xs h K:=by
 refine⟨_,((OwnS.one j.ne o).sl (W:=No) fun _ _ _ h=>h).srow,?_⟩
 refine AppP.own (M:=fun y=>sb so y∨h.size≤y) (ys:= [t]) (j.more fun y i=>.inl i) rfl rfl (by simpa using d) p g.1 ?_ (.inr (ai _)) fun s' c e m=>n s' c e.its (m.mono fun y i=>i) e.sub
 simp only[aI];calc (out.length+1)*bytes≤1000000*64:=Nat.mul_le_mul q g.2
  _≤140737488355328:=by omega
end
structure Sp where
 T:Nat→Prop
 Q:ae→Prop
 loc:∀{M:Nat→Prop} {h h':ae},Q h→Upd M h h'→(∀y,T y→¬M y)→Q h'
def bU(b:Nat)(cs:List Value)(t:TypeId):Sp:=⟨(· =b),fun h=>h[b]? =some (.cells cs.toArray t (0,0)),fun q k c=>k.get q (c _ rfl)⟩
def bV{α:Type}(f:α→List Value)(sz:Nat)(ty:TypeId)(s:SliceV)(xs:List α):Sp:=⟨sb s,fun h=>OwnS f sz ty (sb s) h s xs,fun q k b=>q.upd k b⟩
def AL(Ss:List Sp)(y:Nat):Prop:=∃s∈Ss,s.T y
structure Own(Ss:List Sp)(h:ae):Prop where
 q:∀s∈Ss,s.Q h
 lt:∀s∈Ss,∀y,s.T y→y<h.size
 pd:∀(i j:Nat) (a b:Sp),Ss[i]? =some a→Ss[j]? =some b→i≠j→∀y,a.T y→¬b.T y
section
variable {Ss:List Sp} {h h':ae} {M:Nat→Prop} {s s':Sp} {i:Nat}
theorem Own.get(o:Own Ss h)(hi:Ss[i]? =some s):s.Q h:=o.q s (ao hi)
theorem Own.away(o:Own Ss h)(k:Upd M h h')(hm:∀y,AL Ss y→¬M y):Own Ss h':=
 ⟨fun s b=>s.loc (o.q s b) k fun y c=>hm y ⟨s,b,c⟩,fun s b y c=>aC (o.lt s b y c) k.size,o.pd⟩
theorem Own.nil:Own [] h:=⟨(fun _ h=>by cases h),(fun _ h=>by cases h),(fun i j a b h=>by simp at h)⟩
theorem Own.set(o:Own Ss h)(hi:Ss[i]? =some s) (k:Upd M h h') (hm:∀y,M y→s.T y∨h.size≤y) (q:s'.Q h') (v:∀y,s'.T y→(s.T y∨h.size≤y)∧y<h'.size):Own (Ss.set i s') h':=by
 have A:i<Ss.length:=(bv.1 hi).1;have val:∀{j:Nat} {a:Sp},(Ss.set i s')[j]? =some a→(j=i∧a=s')∨(j≠i∧Ss[j]? =some a):=fun{j a} c=>by
  by_cases e:j=i
  ·subst e;rw[List.getElem?_set_self A]at c;cases c;exact .inl ⟨rfl,rfl⟩
  ·rw[List.getElem?_set_ne (Ne.symm e)]at c;exact .inr ⟨e,c⟩
 have one:∀{j:Nat} {a:Sp},j≠i→Ss[j]? =some a→∀y,a.T y→¬s'.T y:=fun{j a} f c y d h'=>
  (v y h').1.elim (o.pd j i a s c hi f y d) fun h=>by have:=o.lt a (ao c) y d;omega
 refine⟨fun a c=>?_,fun a c y d=>?_,fun p j a b c z m y d g=>?_⟩
 ·obtain⟨j,f⟩:=mP c
  rcases val f with⟨_,rfl⟩|⟨w,f⟩
  ·exact q
  ·refine a.loc (o.get f) k fun y d hM=>?_
   rcases hm y hM with h|h
   ·exact o.pd j i a s f hi w y d h
   ·have:=o.lt a (ao f) y d;omega
 ·obtain⟨j,f⟩:=mP c
  rcases val f with⟨_,rfl⟩|⟨w,f⟩
  ·exact(v y d).2
  ·exact aC (o.lt a (ao f) y d) k.size
 ·rcases val c with⟨n,rfl⟩|⟨n,x⟩<;>rcases val z with⟨h2,rfl⟩|⟨h2,u⟩
  ·exact m (n.trans h2.symm)
  ·exact one h2 u y g d
  ·exact one n x y d g
  ·exact o.pd p j a b x u m y d g
theorem Own.push(o:Own Ss h)(k:Upd No h h')(q:s'.Q h')(g:∀y,s'.T y→h.size≤y∧y<h'.size):Own (Ss++ [s']) h':=by
 have val:∀{j:Nat} {a:Sp},(Ss++ [s'])[j]? =some a→(j=Ss.length∧a=s')∨Ss[j]? =some a:=fun{j a} c=>by
  rw[List.getElem?_append]at c;split at c
  ·exact .inr c
  ·have:j-Ss.length=0:=by have:=(bv.1 c).1;simp only[aI]at this;omega
   rw[this]at c;cases c;exact .inl ⟨by omega,rfl⟩
 have mem:∀{a},a∈Ss++ [s']→a∈Ss∨a=s':=fun h=>(be.1 h).imp id aq.1
 refine⟨fun a c=>?_,fun a c y e=>?_,fun p j a b c n f y e d=>?_⟩
 ·rcases mem c with c|rfl
  ·exact a.loc (o.q a c) k fun _ _ h=>h
  ·exact q
 ·rcases mem c with c|rfl
  ·exact aC (o.lt a c y e) k.size
  ·exact(g y e).2
 ·rcases val c with⟨s,rfl⟩|m<;>rcases val n with⟨h2,rfl⟩|i
  ·omega
  ·have:=o.lt b (ao i) y d;have:=(g y e).1;omega
  ·have:=o.lt a (ao m) y e;have:=(g y d).1;omega
  ·exact o.pd p j a b m i f y e d
theorem D9(hi:Ss[i]? =some s) {z:Nat} (e:∀y,s'.T y→s.T y∨z≤y):∀y,AL (Ss.set i s') y→AL Ss y∨z≤y:=fun y ⟨a,d,b⟩=>by
 rcases W7 d with rfl|⟨j,_,c⟩
 ·exact(e y b).imp (fun h=>⟨s,ao hi,h⟩) id
 ·exact .inl ⟨a,ao c,b⟩
end
theorem GraphAt.re{W W' M:Nat→Prop}{h d:ae}{gp gm:Nat}{L:dI}{nx:Int}(g:GraphAt W h gp gm L nx)(k:Upd M h d)(hm:∀b,M b→(W b∧b≠gp∧b≠gm)∨h.size≤b)(n:∀b,W' b→(W b∨h.size≤b)∧b<d.size)(i:W' gp)(h2:W' gm):GraphAt W' d gp gm L nx:=by
 have p:=g.upd k hm;obtain⟨m,f,u⟩:=g.map;refine⟨p.blk,⟨m,f.upd k fun e=>(hm _ e).elim (fun e=>e.2.2 rfl) fun e=>absurd (g.lt _ g.wm) (eW.2 e),fun j=>?_⟩,i,h2,fun b c=>(n b c).2,g.nd⟩
 rcases u j with⟨s,ps,i,h2,o⟩|q
 ·exact .inl ⟨s,ps,i,h2,((o.less (W':=fun b=>W b∨h.size≤b) fun b c=>c).upd k fun b c=>.inl ((hm b c).imp (·.1) id)).less fun b c=>.inl (n b c).1⟩
 ·exact .inr q
theorem TreeIs.re{W W' M:Nat→Prop}{h d:ae}{kind:Int}{x:Hs}{t:Tr}{l:List Pr}(i:TreeIs W h kind x t l)(k:Upd M h d)(hm:∀b,M b→W b∨h.size≤b)(e:∀b,W' b→W b∨h.size≤b):TreeIs W' d kind x t l:=
 ((i.less (W':=fun b=>W b∨h.size≤b) fun _ c=>c).updM k fun b c=>.inl (hm b c)).less fun b c=>.inl (e b c)
theorem VaultAt.re{W W' M:Nat→Prop}{h j:ae}{vp:Nat}{s:VS}(v:VaultAt W h vp s)(k:Upd M h j)(hm:∀b,M b→(W b∧¬s.M b)∨h.size≤b)(n:∀b,W' b→(W b∨h.size≤b)∧b<j.size)(hM:∀y,s.M y→W' y):VaultAt W' j vp s:=by
 have i:=v.upd k hm;have g:∀b,M b→W b∨h.size≤b:=fun b f=>(hm b f).imp (·.1) id
 have c:∀b,W' b→W b∨h.size≤b:=fun b f=>(n b f).1
 exact⟨i.blk,v.g.re k (fun b f=>(hm b f).imp (fun e=>⟨e.1,fun m=>e.2 (.inl m),fun m=>e.2 (.inr (.inl m))⟩) id) n (hM _ (.inl rfl)) (hM _ (.inr (.inl rfl))),i.t,i.b,i.n,hM,fun hv=>(c _ hv).elim v.wv fun e=>absurd (bc v.blk) (by omega),v.ne,v.em.re k g c,fun d hd=>⟨(v.ts d hd).1.re k g c,(v.ts d hd).2⟩,v.sub,v.inv,v.kd⟩
section
variable {Ss:List Sp} {h h':ae} {vp:Nat} {s:VS} {p p':Sp} {i:Nat} {M:Nat→Prop}
end
end Go.Proofs
namespace Go.Proofs
open Go Go.Lift
end Go.Proofs
namespace Go.Proofs
open Go Go.Lift
def fd(l:List Ch)(k:ByteArray):Option Ch:=l.find? fun c=>decide (c.1=k)
end Go.Proofs
namespace Go.Proofs
open Go Go.Lift
end Go.Proofs
namespace Go.Proofs
open Go Go.Lift
end Go.Proofs
namespace Go.Proofs
open Go Go.Lift
end Go.Proofs
namespace Go.Proofs
open Go Go.Lift
end Go.Proofs
namespace Go.Proofs
open Go Go.Lift
end Go.Proofs
namespace Go.Proofs
open Go Go.Lift
end Go.Proofs
namespace Go.Proofs
open Go Go.Lift
end Go.Proofs
namespace Go.Proofs
open Go Go.Lift
def ZC(b o t:Option ByteArray)(p:Int):Option ByteArray×Bool:=if o=t∨t=b then(o,true)else if o=b then(t,true)else if p=1 then(o,false)else if p=2 then(t,false)else(b,false)
def tk(B O T:List Pr)(p:Int)(k:ByteArray):Option ByteArray×Bool:=ZC (look B k) (look O k) (look T k) p
end Go.Proofs
namespace Go.Proofs
open Go Go.Lift
end Go.Proofs
namespace Go.Proofs
open Go Go.Lift
end Go.Proofs
namespace Go.Proofs
open Go Go.Lift
end Go.Proofs
namespace Go.Proofs
open Go Go.Lift
section
variable {W:Nat→Prop} {h:ae} {vp:Nat} {s:VS}
end
end Go.Proofs
namespace Go.Proofs
open Go Go.Lift
abbrev fL:SliceV:=⟨none,0,0⟩
abbrev Za:=Int×ByteArray×ByteArray×ByteArray×ByteArray×Int×Int×Int×Int×Bool×ByteArray×ByteArray×Bool×SliceV×SliceV
theorem VaultAt.own{W:Nat→Prop}{c h2 h g:ae}{vp b:Nat}{s:VS}(v:VaultAt (Pro W c h2) h vp s)(hM:∀y,s.M y→y<c.size)(u:Upd (· =b) h g)(i:c.size≤b)(d:b<h2.size):VaultAt (Pro W c h2) g vp s:=
 v.upd u fun y f=>by
  have f:y=b:=f;subst f;exact .inl ⟨.inr ⟨i,d⟩,fun e=>by have:=hM _ e;omega⟩
section
variable {h:ae}
end
end Go.Proofs
namespace Go.Proofs
open Go Go.Lift
section
variable {W:Nat→Prop} {h:ae} {sp vp:Nat} {s:VS} {sm:Option Nat} {last:Int} {pool:Option Addr} {o:Za}
abbrev stL(vp:Nat)(sm:Option Nat)(last:Int)(b:Option Addr):List Value:= [.pointer (some ⟨vp,0,none⟩),.map sm,.int .i64 last,.pointer b]
end
end Go.Proofs
