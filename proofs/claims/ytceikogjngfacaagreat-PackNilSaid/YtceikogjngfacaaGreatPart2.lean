/- A part of the proof that the named laws of this program answer true, whatever the input. -/
import Derived.Test.YtceikogjngfacaaGreatPart1
import Derived.Test.YtceikogjngfacaaGreatLift3
open BitVec renaming ofInt→ao,ofInt_natCast→iy
open Bool renaming false_eq_true→ce
open Go.IntKind renaming wrap→ac,bits→ai
open Iff renaming rfl→Af
open Int renaming toNat_natCast→bN
open List renaming mem_append→cg,pairwise_cons→bB,mem_cons→au,take_of_length_le→bL,getElem?_eq_getElem→aj,length_eq_zero_iff→aw,cons_append→fz,length_cons→ax,length_take→aO,length_drop→aP,drop_drop→cS,length_append→ae,filter_append→lX,mem_filter→dP,append_nil→aZ,nil_append→cG,mem_cons_self→aN,pairwise_append→dd,append_assoc→aF,mem_singleton→aA,getElem?_append_right→aD,getElem?_append_left→bf,getElem?_eq_some_iff→aY
open List.Pairwise renaming nil→fG
open Nat renaming zero_le→bJ,lt_or_ge→eD,le_refl→aq,zero_add→bi,mod_eq_of_lt→gY,mul_comm→ig,add_comm→xW,pow_succ→lW,min_eq_left→cC,pow_le_pow_right→iv,mul_le_mul_right→dD
open Option renaming some→bX
open Prod renaming mk→sd
namespace Go.Proofs
open Go Go.Lift
theorem RP:∀{x y:List UInt8} {i:Nat},i≤x.length→i≤y.length→(∀j,j<i→x[j]? =y[j]?)→(i=x.length∨i=y.length∨x[i]?≠y[i]?)→cm x y=i
 | [],_,i,h1,_,_,_=>by simp at h1;simp[cm,h1]
 |_::_,[],i,_,h2,_,_=>by simp at h2;simp[cm,h2]
 |a::x,b::y,0,_,_,_,h=>by
  unfold cm;rw[if_neg];rintro rfl;rcases h with h|h|h<;>simp at h
 |a::x,b::y,i+1,h1,h2,h3,h4=>by
  have:=h3 0 (by omega);simp only[List.getElem?_cons_zero,bX.injEq]at this;unfold cm;rw[if_pos this,RP (i:=i) (by simpa using h1) (by simpa using h2) (fun j c=>by simpa using h3 (j+1) (by omega)) (by simpa using h4)]
theorem Pg{a b:ByteArray}(B:a.size≤1000000){h:af}{K:Int→af→Prop}(n:K (cm a.data.toList b.data.toList:Nat) h):HC PG wk [.string a,.string b] [.c (.int .i64)] K h:=by
 refine Hi a b ?_;unfold AG;simp only[Bd];have f:(if(b.size:Int)<(a.size:Int)then(b.size:Int)else(a.size:Int))=((min a.size b.size:Nat):Int):=by split<;>omega
 rw[f];have z:a.data.toList.length=a.size:=by simp
 have A:b.data.toList.length=b.size:=by simp
 refine LoopP.ghost (fun(i:Nat) (t:Int) q=>t=(i:Int)∧i≤min a.size b.size∧q=h∧∀j,j<i→a.data.toList[j]? =b.data.toList[j]?) (fun i=>min a.size b.size-i) 0 ⟨rfl,bJ _,rfl,fun j w=>absurd w (Nat.not_lt_zero _)⟩ ?_
 rintro I i t q ⟨rfl,hi,rfl,o⟩ y;refine av (fun c=>?_) fun x=>?_
 ·have c:i<min a.size b.size:=by omega
  have k:i<a.size:=by omega
  have g:i<b.size:=by omega
  refine⟨a[i],by omega,by rw[bN,getElem?_pos a i k],b[i],by omega,by rw[bN,getElem?_pos b i g],?_⟩
  have v:a.data.toList[i]? =some a[i]:=by rw[←Q2,getElem?_pos a i k]
  have s:b.data.toList[i]? =some b[i]:=by rw[←Q2,getElem?_pos b i g]
  refine CondP.intro (fun m=>?_) fun d=>?_
  ·rw[RP (i:=i) (by omega) (by omega) o (.inr (.inr fun e=>?_))]at n
   ·exact n
   ·rw[v,s]at e
    rw[bX.inj e]at m;simp at m
  ·have d:a[i]=b[i]:=by
    have:((a[i].toNat:Int))=(b[i].toNat:Int):=by simpa using d
    exact UInt8.toNat_inj.1 (by omega)
   rw[rt c (by omega)];refine y (i+1) _ _ ⟨rfl,c,rfl,fun j w=>?_⟩ (by omega)
   rcases eD j i with u|u
   ·exact o j u
   ·have:j=i:=by omega
    subst this;rw[v,s,d]
 ·have p:i=min a.size b.size:=by omega
  rw[RP (i:=i) (by omega) (by omega) o (by omega)]at n;rw[←p];exact n
end Go.Proofs
namespace Go.Proofs
open Go Go.Lift
def Mv:Fo→List (List UInt8×ByteArray)
 | .nil=> []
 | .cons lab w kids rest=>((w.map fun v=>(([]:List UInt8),v)).toList++Mv kids).map (fun p=>(lab++p.1,p.2))++Mv rest
def Qv(w:Option ByteArray)(F:Fo):List (List UInt8×ByteArray):=(w.map fun v=>(([]:List UInt8),v)).toList++Mv F
theorem EV:∀{F:Fo} {k:List UInt8} {v:ByteArray},(k,v)∈Mv F↔Pw F k v
 | .nil,_,_=>by simp[Mv,Pw]
 | .cons lab w kids rest,k,v=>by
  unfold Mv Pw;rw[cg,EV (F:=rest)];refine or_congr ?_ Af;rw[List.mem_map];constructor
  ·rintro⟨⟨r,u⟩,hm,b⟩
   simp only[sd.injEq]at b;obtain⟨rfl,rfl⟩:=b;refine⟨r,rfl,?_⟩;rcases cg.1 hm with h|h
   ·left
    rw[Option.mem_toList,Option.map_eq_some_iff]at h;obtain⟨a,c,b⟩:=h;simp only[sd.injEq]at b;exact⟨b.1.symm,by rw[c,b.2]⟩
   ·exact .inr (EV.1 h)
  ·rintro⟨r,rfl,h⟩
   refine⟨(r,v),cg.2 ?_,rfl⟩;rcases h with⟨rfl,h⟩|h
   ·left;rw[h];simp
   ·exact .inr (EV.2 h)
theorem QJ{w:Option ByteArray}{F:Fo}{k:List UInt8}{v:ByteArray}:(k,v)∈Qv w F↔UV w F k v:=by
 unfold Qv UV;rw[cg,EV];refine or_congr ?_ Af;cases w with
 |none=>simp
 |some u=>simp[Prod.ext_iff,eq_comm]
end Go.Proofs
namespace Go.Proofs
open Go Go.Lift
structure RadAt(W:Nat→Prop)(h:af)(b:Nat)(l:List Pr):Prop where
 ex:∃w F,RxN W h b ⟨#[]⟩ w F∧Ap F∧∀k v,(k,v)∈Qv w F↔∃p∈l,p.1.data.toList=k∧p.2=v
theorem RadAt.upd0{W:Nat→Prop}{h c:af}{b:Nat}{l:List Pr}(k:Upd No h c)(r:RadAt W h b l):RadAt W c b l:=by
 obtain⟨w,F,d,f,e⟩:=r.ex;exact⟨w,F,d.upd0 k,f,e⟩
theorem RadAt.less{W W':Nat→Prop}{h:af}(hm:∀b,W' b→W b∨h.size≤b){b:Nat}{l:List Pr}(r:RadAt W h b l):RadAt W' h b l:=by
 obtain⟨w,F,c,e,d⟩:=r.ex;exact⟨w,F,c.less hm,e,d⟩
theorem RadAt.updM{W M:Nat→Prop}{h c:af}(k:Upd M h c)(hm:∀b,M b→W b∨h.size≤b){b:Nat}{l:List Pr}(r:RadAt W h b l):RadAt W c b l:=by
 obtain⟨w,F,d,f,e⟩:=r.ex;exact⟨w,F,d.updM k hm,f,e⟩
end Go.Proofs
namespace Go.Proofs
open Go Go.Lift
theorem D7{p q:Pr}:∀{l:List Pr},mL l→(q∈wh p l↔q=p∨(q∈l∧q.1≠p.1))
 | [],_=>by simp[wh]
 |r::l,c=>by
  have c:=bB.1 c;rw[Dk];by_cases d:kl r.1 p.1
  ·have f:r.1≠p.1:=fun e=>by rw[e]at d;exact fH _ d
   rw[if_pos d,au,au,D7 c.2];constructor
   ·rintro(rfl|h|⟨h,b⟩)
    ·exact .inr ⟨.inl rfl,f⟩
    ·exact .inl h
    ·exact .inr ⟨.inr h,b⟩
   ·rintro(h|⟨h|h,b⟩)
    ·exact .inr (.inl h)
    ·exact .inl h
    ·exact .inr (.inr ⟨h,b⟩)
  ·rw[if_neg d]
   by_cases h2:r.1=p.1
   ·rw[if_pos h2,au,au]
    constructor
    ·rintro(h|h)
     ·exact .inl h
     ·refine .inr ⟨.inr h,fun e=>?_⟩
      have:=c.1 q h;rw[e,h2]at this;exact fH _ this
    ·rintro(h|⟨rfl|h,b⟩)
     ·exact .inl h
     ·exact absurd h2 b
     ·exact .inr h
   ·rw[if_neg h2,au,au]
    have g:=yK d h2;constructor
    ·rintro(h|rfl|h)
     ·exact .inl h
     ·exact .inr ⟨.inl rfl,h2⟩
     ·refine .inr ⟨.inr h,fun e=>?_⟩
      have:=m9 g (c.1 q h);rw[e]at this;exact fH _ this
    ·rintro(h|⟨rfl|h,b⟩)
     ·exact .inl h
     ·exact .inr (.inl rfl)
     ·exact .inr (.inr h)
def RadRoot(W:Nat→Prop)(h:af)(r:Option Addr)(l:List Pr):Prop:=(r=none∧l= [])∨∃b,r=some ⟨b,0,none⟩∧RadAt W h b l
theorem RadRoot.upd0{W:Nat→Prop}{h c:af}{r:Option Addr}{l:List Pr}(k:Upd No h c)(t:RadRoot W h r l):RadRoot W c r l:=t.imp id fun⟨b,e,t⟩=>⟨b,e,t.upd0 k⟩
theorem M5{a b:ByteArray}:a.data.toList=b.data.toList↔a=b:=by
 constructor
 ·intro h;cases a;cases b;exact congrArg ByteArray.mk (Array.toList_inj.1 h)
 ·rintro rfl;rfl
theorem Mc{W:Nat→Prop}{h:af}(c:∀y,W y→y<h.size){K:Option Addr→af→Prop}(d:∀h' b,RadAt W h' b []→Upd No h h'→K (some ⟨b,0,none⟩) h'):HC PG wn [] [.c .ptr] K h:=by
 refine Hj ?_;unfold AH UX;refine dx (d _ h.size ⟨none,.nil,⟨⟨#[]⟩,⟨none,0,0⟩,none,[],c6 h rx0 j4,rfl,Sl.nil IY,⟨aq _,fun hx=>Nat.lt_irrefl _ (c _ hx)⟩,rfl⟩,trivial,fun k v=>?_⟩ (Upd.hnew No h _ _))
 simp[Qv,Mv]
end Go.Proofs
namespace Go.Proofs
open Go Go.Lift
theorem bO{h:af}{cs:List Value}{t:TypeId}{k:af→Prop}(b:∀h',h'[h.size]? =some (.cells cs.toArray t (0,0))→Upd No h h'→k h'):At (hnew h cs t) k:=
 dx (b _ (c6 h cs t) (Upd.hnew No h cs t))
theorem vc{h:af}{b:Nat}{c:Array Value}{t:TypeId}(d:h[b]? =some (.cells c t (0,0))) (i:Nat):bj h (adr ⟨b,0,none⟩ i)=c[i]?:=by rw[dt,bi];exact bP d
theorem Fe{h:af}{b:Nat}{c:Array Value}{t:TypeId}(d:h[b]? =some (.cells c t (0,0))) (i j:Nat):bj h (adr (adr ⟨b,0,none⟩ i) j)=c[i+j]?:=by rw[dt,dt,bi];exact bP d
theorem yv{h:af}{b i:Nat}{c c':Array Value}{t:TypeId}{v:Value}{k:af→Prop}(g:h[b]? =some (.cells c t (0,0))) (hi:i<c.size) (e:c.setIfInBounds i v=c') (j:∀d,d[b]? =some (.cells c' t (0,0))→Upd (· =b) h d→k d):Wr h (adr ⟨b,0,none⟩ i)∧At (hset h (adr ⟨b,0,none⟩ i) v) k:=by
 rw[dt,bi];exact⟨gI g hi,Bv g fun d f m=>j d (e▸f) m⟩
theorem _root_.Go.Lift.Upd.own{h c h2:af}{b:Nat}(k:Upd No h c)(d:Upd (· =b) c h2)(e:h.size≤b):Upd No h h2:=k.trans d fun x hx=>.inr (by have hx:x=b:=hx;omega)
theorem _root_.Go.Lift.Upd.oth{h e:af}{b c:Nat}{o:Obj}(f:Upd (· =b) h e)(hc:h[c]? =some o) (d:c≠b):e[c]? =some o:=f.get hc d
abbrev Tr:=Int×Int×Int×Int×(Option Addr)×(Option Addr)
abbrev py(t:Tr):List Value:= [.int .i64 t.1,.int .u64 t.2.1,.int .u64 t.2.2.1,.int .u64 t.2.2.2.1,.pointer t.2.2.2.2.1,.pointer t.2.2.2.2.2]
abbrev U7(t:Tr):Value:=.agg #[.int .i64 t.1,.int .u64 t.2.1,.int .u64 t.2.2.1,.int .u64 t.2.2.2.1,.pointer t.2.2.2.2.1,.pointer t.2.2.2.2.2]
def Pro(W:Nat→Prop)(h h2:af)(y:Nat):Prop:=W y∨(h.size≤y∧y<h2.size)
theorem Pro.lt{W:Nat→Prop}{h h2:af}(c:∀y,W y→y<h.size)(k:Upd No h h2):∀y,Pro W h h2 y→y<h2.size:=fun y b=>b.elim (fun h=>Nat.lt_of_lt_of_le (c y h) k.size) fun h=>h.2
theorem Pro.hm{W:Nat→Prop}{h h2:af}:∀y,Pro W h h2 y→W y∨h.size≤y:=fun _ b=>b.imp id fun h=>h.1
theorem Pro.sub{W:Nat→Prop}{h h2 c:af}:∀y,W y→Pro W h h2 y∨c.size≤y:=fun _ b=>.inl (.inl b)
theorem RootAt.less{W W':Nat→Prop}{x:Hs}{h:af}(hm:∀b,W' b→W b∨h.size≤b){r:Option Addr}{l:List Pr}(t:RootAt W x h r l):RootAt W' x h r l:=t.imp id fun⟨b,e,t⟩=>⟨b,e,TrieAt.less hm t⟩
theorem RadRoot.less{W W':Nat→Prop}{h:af}(hm:∀b,W' b→W b∨h.size≤b){r:Option Addr}{l:List Pr}(t:RadRoot W h r l):RadRoot W' h r l:=t.imp id fun⟨b,e,t⟩=>⟨b,e,t.less hm⟩
def TreeIs(W:Nat→Prop)(h:af)(kind:Int)(x:Hs)(t:Tr)(l:List Pr):Prop:=(kind=0∧∃b,t=(0,x.k0,x.k1,x.mask,some ⟨b,0,none⟩,none)∧TrieAt W x h 13 b l)∨(kind=1∧∃b,t=(1,0,0,0,none,some ⟨b,0,none⟩)∧RadAt W h b l)
theorem TreeIs.upd0{W:Nat→Prop}{h d:af}{kind:Int}{x:Hs}{t:Tr}{l:List Pr}(k:Upd No h d)(i:TreeIs W h kind x t l):TreeIs W d kind x t l:=
 i.imp (fun⟨e,b,c,t⟩=>⟨e,b,c,TrieAt.upd0 k t⟩) fun⟨e,b,c,t⟩=>⟨e,b,c,t.upd0 k⟩
theorem TreeIs.less{W W':Nat→Prop}{h:af}(hm:∀b,W' b→W b∨h.size≤b){kind:Int}{x:Hs}{t:Tr}{l:List Pr}(i:TreeIs W h kind x t l):TreeIs W' h kind x t l:=
 i.imp (fun⟨e,b,c,t⟩=>⟨e,b,c,TrieAt.less hm t⟩) fun⟨e,b,c,t⟩=>⟨e,b,c,t.less hm⟩
theorem TreeIs.updM{W M:Nat→Prop}{h d:af}(k:Upd M h d)(hm:∀b,M b→W b∨h.size≤b){kind:Int}{x:Hs}{t:Tr}{l:List Pr}(i:TreeIs W h kind x t l):TreeIs W d kind x t l:=
 i.imp (fun⟨e,b,c,t⟩=>⟨e,b,c,TrieAt.updM k hm t⟩) fun⟨e,b,c,t⟩=>⟨e,b,c,t.updM k hm⟩
theorem Hc{W:Nat→Prop}{x:Hs}{h:af}(e:∀y,W y→y<h.size){K:Option Addr→af→Prop}(f:∀c b,TrieAt W x c 13 b []→Upd No h c→K (some ⟨b,0,none⟩) c):HC PG wu [] [.c .ptr] K h:=by
 refine Hy ?_;unfold AS;exact Cd e fun c b nd d=>f c b (P4 nd) d
abbrev vX:Tr:=(0,0,0,0,none,none)
theorem DX{W:Nat→Prop}{x:Hs}{h:af}{r:Option Addr}{l:List Pr}(t:RootAt W x h r l)(s:∀y,W y→y<h.size){K:Tr→af→Prop}(v:∀g t,TreeIs W g 0 x t l→Upd No h g→K t g):HC PG qr [.agg #[.int .u64 x.k0,.int .u64 x.k1,.int .u64 x.mask],.pointer r] [.agg [.int .i64,.int .u64,.int .u64,.int .u64,.ptr,.ptr]] K h:=by
 refine Gn (x.k0,x.k1,x.mask) r ?_;unfold zi fA aC ag ar H6 kJ yw;refine bO fun m b1 k1=>bO fun h2 b2 o=>?_
 have z:=bo b1;have w:=bo b2;have e:=k1.tr o;refine Join.intro (fun t g=>Upd No h2 g∧∃b,t=some ⟨b,0,none⟩∧TrieAt (Pro W h h2) x g 13 b l) (fun R k=>?_) ?_
 ·rcases t with⟨rfl,rfl⟩|⟨b,rfl,t⟩
  ·exact aX.2 (Hc (Pro.lt s e) fun q b t d=>k _ _ ⟨d,b,rfl,t⟩)
  ·exact aH.2 (k _ _ ⟨Upd.refl _ _,b,rfl,TrieAt.upd0 e (TrieAt.less Pro.hm t)⟩)
 ·rintro n q ⟨d,b,rfl,n⟩
  have c1:=d.get0 (o.get0 b1);refine⟨_,vc c1 0,_,vc c1 1,_,vc c1 2,?_⟩;refine eE (c:=py vX) (vs:=py (0,x.k0,x.k1,x.mask,some ⟨b,0,none⟩,none)) (d.get0 b2) rfl fun u f i=>?_
  refine⟨_,vc f 0,_,vc f 1,_,vc f 2,_,vc f 3,_,vc f 4,_,vc f 5,?_⟩;have j:h.size≤m.size:=k1.size;exact v u _ (.inl ⟨rfl,b,rfl,TrieAt.less Pro.sub (TrieAt.updM i (fun y p=>.inl (.inr (by have p:y=m.size:=p;omega))) n)⟩) ((e.tr d).own i j)
theorem DW{W:Nat→Prop}{x:Hs}{h:af}{r:Option Addr}{l:List Pr}(t:RadRoot W h r l)(o:∀y,W y→y<h.size){K:Tr→af→Prop}(q:∀f t,TreeIs W f 1 x t l→Upd No h f→K t f):HC PG qq [.pointer r] [.agg [.int .i64,.int .u64,.int .u64,.int .u64,.ptr,.ptr]] K h:=by
 refine Gm r ?_;unfold zh fA aC ag ar kJ yw;refine bO fun h2 b2 e=>?_
 have s:=bo b2;refine Join.intro (fun t f=>Upd No h2 f∧∃b,t=some ⟨b,0,none⟩∧RadAt (Pro W h h2) f b l) (fun R m=>?_) ?_
 ·rcases t with⟨rfl,rfl⟩|⟨b,rfl,t⟩
  ·exact aX.2 (Mc (Pro.lt o e) fun n b t d=>m _ _ ⟨d,b,rfl,t⟩)
  ·exact aH.2 (m _ _ ⟨Upd.refl _ _,b,rfl,(t.less Pro.hm).upd0 e⟩)
 ·rintro j n ⟨d,b,rfl,j⟩
  refine eE (c:=py vX) (vs:=py (1,0,0,0,none,some ⟨b,0,none⟩)) (d.get0 b2) rfl fun p g i=>?_
  refine⟨_,vc g 0,_,vc g 1,_,vc g 2,_,vc g 3,_,vc g 4,_,vc g 5,?_⟩;exact q p _ (.inr ⟨rfl,b,rfl,(j.updM i (fun y k=>.inl (.inr (by have k:y=h.size:=k;omega)))).less Pro.sub⟩) ((e.tr d).own i (aq _))
theorem ER{W:Nat→Prop}{x:Hs}{h:af}(p:∀y,W y→y<h.size){kind:Int}(j:kind=0∨kind=1){K:Tr×Int→af→Prop}(q:∀h' t,TreeIs W h' kind x t []→Upd No h h'→K (t,0) h'):HC PG uC [.int .i64 kind,.agg #[.int .u64 x.k0,.int .u64 x.k1,.int .u64 x.mask]] [.agg [.int .i64,.int .u64,.int .u64,.int .u64,.ptr,.ptr],.c (.int .i64)] K h:=by
 refine Gp kind (x.k0,x.k1,x.mask) ?_;unfold BI fA aC ag GY ar H6 kJ oq;refine bO fun k b1 k1=>bO fun h2 b2 o=>?_
 have v:=bo b1;have u:=bo b2;have f:=k1.tr o;have g:h.size≤k.size:=k1.size;have c1:=o.get0 b1;rcases j with rfl|rfl
 ·refine aX.2 ⟨_,vc c1 0,_,vc c1 1,_,vc c1 2,?_⟩
  refine DX (W:=Pro W h h2) (x:=x) (l:= []) (.inl ⟨rfl,rfl⟩) (Pro.lt p f) fun s t n e=>?_
  refine eE (c:=py vX) (vs:=py t) (e.get0 b2) rfl fun m b d=>?_
  refine⟨_,vc b 0,_,vc b 1,_,vc b 2,_,vc b 3,_,vc b 4,_,vc b 5,?_⟩;exact q m t ((n.updM d (fun y i=>.inl (.inr (by have i:y=k.size:=i;omega)))).less Pro.sub) ((f.tr e).own d g)
 ·refine aH.2 (aX.2 ?_)
  refine DW (W:=Pro W h h2) (x:=x) (l:= []) (.inl ⟨rfl,rfl⟩) (Pro.lt p f) fun s t n e=>?_
  refine eE (c:=py vX) (vs:=py t) (e.get0 b2) rfl fun m b d=>?_
  refine⟨_,vc b 0,_,vc b 1,_,vc b 2,_,vc b 3,_,vc b 4,_,vc b 5,?_⟩;exact q m t ((n.updM d (fun y i=>.inl (.inr (by have i:y=k.size:=i;omega)))).less Pro.sub) ((f.tr e).own d g)
theorem H8{k v:ByteArray}(c:k.size≤256)(h2:v.size≤4096){h:af}{K:Int→af→Prop}(b:K 0 h):HC PG tX [.string k,.string v] [.c (.int .i64)] K h:=by
 refine Cy k v ?_;unfold xS;refine av (fun h=>absurd h (by omega)) fun _=>av (fun h=>absurd h (by omega)) fun _=>b
end Go.Proofs
namespace Go.Proofs
open Go Go.Lift
theorem IE{T:Type}{x:T}{k:T→Prop}(h:k x):Bd x k:=h
abbrev inC(sp:SliceV)(e:Int):Array Value:= #[.slice sp.a sp.len sp.cap,.int .i64 e]
structure InAt(W:Nat→Prop)(h:af)(b:Nat)(s:eK):Prop where
 ex:∃sp:SliceV,h[b]? =some (.cells (inC sp s.2) C3 (0,0))∧Sl yq 1 W h sp s.1∧sp.len≤sp.cap
 w:W b
 n:s.1.length≤1000000000
section
variable {W M:Nat→Prop} {h h':af} {b:Nat} {s:eK}
theorem InAt.upd(i:InAt W h b s)(k:Upd M h h')(e:¬M b)(hm:∀y,M y→W y∨h.size≤y):InAt W h' b s:=
 let⟨sp,hc,c,d⟩:=i.ex
 ⟨⟨sp,k.get hc e,c.upd k hm,d⟩,i.w,i.n⟩
theorem InAt.upd0(i:InAt W h b s)(k:Upd No h h'):InAt W h' b s:=i.upd k id fun _ h=>h.elim
theorem InAt.lt(i:InAt W h b s):b<h.size:=let⟨_,hc,_⟩:=i.ex;bo hc
theorem InAt.up(i:InAt W h b s)(u:Upd (· =b) h h'){sp:SliceV}{e:Int}(g:h'[b]? =some (.cells (inC sp e) C3 (0,0))) {p:List UInt8} (f:Sl yq 1 W h sp p) (j:sp.len≤sp.cap) (d:p.length≤s.1.length):InAt W h' b (p,e):=
 ⟨⟨sp,g,f.upd u fun y c=>.inl (by have c:y=b:=c;subst c;exact i.w),j⟩,i.w,Nat.le_trans d i.n⟩
theorem yN(i:InAt W h b s){K:Int→af→Prop}(d:K s.2 h):HC PG kr [.pointer (some ⟨b,0,none⟩)] [.c (.int .i64)] K h:=by
 obtain⟨sp,c,_⟩:=i.ex;refine Hv _ ?_;unfold AP cq;exact aH.2 ⟨_,rfl,_,vc c 1,d⟩
theorem O7(i:InAt W h b s){K:Int→af→Prop}(e:K (s.1.length:Int) h):HC PG uL [.pointer (some ⟨b,0,none⟩)] [.c (.int .i64)] K h:=by
 obtain⟨sp,d,c,_⟩:=i.ex;refine Gw _ ?_;unfold zx cz;refine aH.2 ⟨_,rfl,sp,vc d 0,?_⟩;rw[c.len];exact e
theorem mr(i:InAt W h b s){e:Int}{K:Unit→af→Prop}(g:∀h',InAt W h' b (dA e s)→Upd (· =b) h h'→K () h'):HC PG eI [.pointer (some ⟨b,0,none⟩),.int .i64 e] [] K h:=by
 obtain⟨sp,f,j,k⟩:=i.ex;refine Gx _ e ?_;unfold zy cq cu;refine Join.plain (aX.2 ⟨_,rfl,_,vc f 1,?_⟩);refine CondP.intro (fun c=>⟨_,rfl,yv f (by simp) rfl fun h' d u=>g h' ?_ u⟩) fun c=>g h ?_ (Upd.refl _ _)
 ·have c:s.2=0:=by simpa using c
  rw[dA,if_pos c];exact i.up u d j k (aq _)
 ·have c:s.2≠0:=by simpa using c
  rw[dA,if_neg c];exact i
theorem QX(i:InAt W h b s){K:Int→af→Prop}(e:∀h',InAt W h' b (Ai s)→Upd (· =b) h h'→K (Ai s).2 h'):HC PG wt [.pointer (some ⟨b,0,none⟩)] [.c (.int .i64)] K h:=by
 refine Hw _ ?_;unfold AQ tP;refine Join.intro (fun _ h'=>InAt W h' b (Ai s)∧Upd (· =b) h h') (fun R c=>O7 i (av (fun d=>?_) fun d=>c () h ⟨?_,Upd.refl _ _⟩)) fun _ h' ⟨j,u⟩=>yN j (e h' j u)
 ·refine mr i fun h' j u=>c () h' ⟨?_,u⟩
  rw[Ai,if_pos (by omega)];exact j
 ·rw[Ai,if_neg (by omega)];exact i
theorem Dl(i:InAt W h b s)(n:Nat){K:SliceV→af→Prop}(g:∀h' sp,Sl yq 1 W h' sp (fV n s).1→InAt W h' b (fV n s).2→Upd (· =b) h h'→K sp h'):
  HC PG nr [.pointer (some ⟨b,0,none⟩),.int .i64 (n:Int)] [.c .slice] K h:=by
 obtain⟨sp,k,o,A⟩:=i.ex;have z:=o.len;refine Gu _ (n:Int) ?_;unfold zr cu tP cz;refine yN i (CondP.intro (fun d=>?_) fun d=>⟨_,rfl,sp,vc k 0,av (fun v=>?_) fun v=>?_⟩)
 ·have d:s.2≠0:=by simpa using d
  have e:fV n s=([],s):=by rw[fV,if_neg d]
  rw[e]at g;exact g h _ (Sl.nil uS) i (Upd.refl _ _)
 ·have d:s.2=0:=by simpa using d
  have e:fV n s=([],s.1,9):=by rw[fV,if_pos d,if_pos (by omega)]
  rw[e]at g;refine mr i fun h' j u=>g h' _ (Sl.nil uS) ?_ u
  rw[dA,if_pos d]at j;exact j
 ·have d:s.2=0:=by simpa using d
  have e:fV n s=(s.1.take n,s.1.drop n,0):=by rw[fV,if_pos d,if_neg (by omega)]
  rw[e]at g;refine⟨_,rfl,sp,vc k 0,⟨by omega,by omega⟩,_,rfl,sp,vc k 0,⟨by omega,by omega⟩,_,rfl,yv k (by simp) rfl fun h' f u=>?_⟩
  have t:(n:Int).toNat=n:=rfl;rw[t]at f⊢;have x:∀y,y=b→W y∨h.size≤y:=fun y w=>.inl (by subst w;exact i.w)
  have p:=o.sub (l:=0) (hi:=n) (m:=sp.cap) (c:=sp.cap-0) (bJ _) (by omega) (by omega);have q:=o.sub (l:=n) (hi:=s.1.length) (m:=sp.cap) (c:=sp.cap-n) (by omega) (aq _) (by omega);rw[List.drop_zero,Nat.sub_zero]at p;rw[bL (by simp),←z]at q;refine g h' _ (p.upd u x) (i.up u (sp:=⟨bw sp.a n sp.cap 1,sp.len-n,sp.cap-n⟩) (by rw[d]at f;exact f) q ?_ (by simp)) u
  show sp.len-n≤sp.cap-n
  omega
theorem Dm(i:InAt W h b s){K:Int→af→Prop}(d:∀h',InAt W h' b (aS s).2→Upd (· =b) h h'→K ((aS s).1:Int) h'):HC PG ns [.pointer (some ⟨b,0,none⟩)] [.c (.int .u8)] K h:=by
 refine Gy _ ?_;unfold zE aW cp tP;refine Dl i 1 fun m sp f j u=>?_
 refine LoopP.ghost (fun(_:Unit) t h'=>t=0∧h'=m) (fun _=>0) () ⟨rfl,rfl⟩ ?_
 rintro I g t h' ⟨rfl,rfl⟩ o;have p:=f.len;refine av (fun c=>?_) fun c=>?_
 ·have c:(0:Int)<(sp.len:Int):=c
  have e:(fV 1 s).1[0]? =some ((fV 1 s).1.getD 0 0):=by
   rw[List.getD_eq_getElem?_getD,aj (by omega)];rfl
  obtain⟨a,k,_,hc⟩:=f.at0 e;exact⟨⟨Int.le_refl _,by omega⟩,a,k,_,hc,d _ j u⟩
 ·have c:¬(0:Int)<(sp.len:Int):=c
  have e:(fV 1 s).1= []:=aw.1 (by omega);have n:(aS s).1=0:=by unfold aS;simp only;rw[e];rfl
  rw[n]at d;exact d _ j u
end
end Go.Proofs
namespace Go.Proofs
open Go Go.Lift
theorem Wb(x:UInt8):ac .u8 ((ao (ai .u8) (x.toNat:Int)&&& ~~~ao (ai .u8) 128).toNat:Int)=((x.toNat%128:Nat):Int):=by
 have:∀n:Fin 256,ac .u8 ((ao (ai .u8) (n.val:Int)&&& ~~~ao (ai .u8) 128).toNat:Int)=((n.val%128:Nat):Int):=by decide+kernel
 exact this ⟨x.toNat,x.toNat_lt⟩
theorem TI{n x m:Nat}(c:n<2^m)(hx:n+x*2^m<18446744073709551616):ac .u64 ((ao (ai .u64) (n:Int)|||ao (ai .u64) ((x*2^m:Nat):Int)).toNat:Int)=((n+x*2^m:Nat):Int):=by
 have e:(ao (ai .u64) (n:Int)|||ao (ai .u64) ((x*2^m:Nat):Int)).toNat=n+x*2^m:=by
  rw[BitVec.toNat_or,iy,iy,BitVec.toNat_ofNat,BitVec.toNat_ofNat];have b:(2:Nat)^(ai .u64)=18446744073709551616:=by decide
  rw[b,gY (by omega),gY (by omega),Nat.or_comm,ig x,←Nat.two_pow_add_eq_or_of_lt c,xW]
 rw[e,Go.IntWalk.u64_in _ (by omega)]
theorem TA{x m:Nat}{b:Int}(d:b=(m:Int))(hm:m≤64)(f:x<18446744073709551616)(hx:x*2^m<18446744073709551616):ac .u64 ((ac .u64 (x:Int))*2^(min b.toNat (ai .u64)))=((x*2^m:Nat):Int):=by
 subst d;have e:min (m:Int).toNat (ai .u64)=m:=by show min m 64=m;omega
 have c:(x:Int)*2^m=((x*2^m:Nat):Int):=by simp
 rw[e,Go.IntWalk.u64_in (x:Int) (by omega),c,Go.IntWalk.u64_in _ (by omega)]
theorem Iw(b:UInt8):∀p:List UInt8,xF (p++ [b])=xF p+b.toNat*256^p.length
 | []=>by simp[xF]
 |c::p=>by rw[fz,xF,xF,Iw b p,ax,lW,Nat.mul_add,ig (256^p.length) 256,Nat.mul_left_comm];omega
theorem EZ:∀p:List UInt8,xF p<256^p.length
 | []=>by simp[xF]
 |c::p=>by
  have:=EZ p;have:=c.toNat_lt;rw[xF,ax,lW];omega
section
variable {W M:Nat→Prop} {h h':af} {b:Nat} {s:eK}
theorem OX(n:Nat)(s:eK):(fV n s).1.length≤n:=by
 unfold fV;split
 ·split
  ·exact bJ _
  ·simp;omega
 ·exact bJ _
theorem Bf(i:InAt W h b s){K:Int→af→Prop}(q:∀h',InAt W h' b (kK s).2→Upd (· =b) h h'→K ((kK s).1:Int) h'):HC PG l8 [.pointer (some ⟨b,0,none⟩)] [.c (.int .u64)] K h:=by
 refine EK _ ?_;unfold ym aW cp tP;refine Dl i 8 fun p sp d j u=>?_
 have A:=d.len;have z:=OX 8 s;refine LoopP.ghost (fun(g:Nat) (t:Int×Int) h'=>h'=p∧g≤(fV 8 s).1.length∧t=(((xF ((fV 8 s).1.take g):Nat):Int),(g:Int))) (fun g=>8-g) 0 ⟨rfl,bJ _,rfl⟩ ?_
 rintro I g t h' ⟨rfl,w,rfl⟩ o;refine av (fun c=>?_) fun c=>?_
 ·have c:(g:Int)<(sp.len:Int):=c
  obtain⟨a,n,_,hc⟩:=d.at0 (aj (show g<(fV 8 s).1.length by omega))
  have m:ac .i64 (8*(g:Int))=((8*g:Nat):Int):=by rw[Go.IntWalk.i64_in _ (by omega)];omega
  have k:xF ((fV 8 s).1.take (g+1))=xF ((fV 8 s).1.take g)+(fV 8 s).1[g].toNat*2^(8*g):=by
   rw[List.take_succ_eq_append_getElem (by omega),Iw,aO,cC (by omega),show(256:Nat)=2^8 from rfl,←Nat.pow_mul]
  have f:=EZ ((fV 8 s).1.take g);have v:=EZ ((fV 8 s).1.take (g+1));rw[aO,cC (by omega),show(256:Nat)=2^8 from rfl,←Nat.pow_mul]at f v
  have x:2^(8*(g+1))≤2^64:=iv (by omega) (by omega);have y:=(fV 8 s).1[g].toNat_lt;refine⟨⟨by omega,by omega⟩,a,n,_,hc,?_⟩
  show(0:Int)≤ac .i64 (8*(g:Int))∧_
  refine⟨by omega,IE ?_⟩;show Bd (ac .u64 ((ao (ai .u64) ((xF ((fV 8 s).1.take g):Nat):Int)|||ao (ai .u64) (ac .u64 ((ac .u64 ((fV 8 s).1[g].toNat:Int))*2^(min (ac .i64 (8*(g:Int)):Int).toNat (ai .u64))))).toNat:Int)) _
  rw[TA m (by omega) (by omega) (by omega),TI f (by omega),←k];refine IE (o (g+1) _ _ ⟨rfl,by omega,?_⟩ (by omega))
  show(_,ac .i64 ((g:Int)+1))=_
  rw[Go.IntWalk.i64_in _ (by omega)];rfl
 ·have c:¬(g:Int)<(sp.len:Int):=c
  have e:(fV 8 s).1.take g=(fV 8 s).1:=bL (by omega);have:=q _ j u;rw[kK]at this;show K ((xF ((fV 8 s).1.take g):Nat):Int) _
  rw[e];exact this
theorem FS(i:InAt W h b s){K:Int→af→Prop}(q:∀h',InAt W h' b (dX s).2→Upd (· =b) h h'→K ((dX s).1:Int) h'):HC PG oV [.pointer (some ⟨b,0,none⟩)] [.c (.int .u64)] K h:=by
 obtain⟨sp,G,D,Z⟩:=i.ex;have S:=D.len;have hw:∀y,y=b→W y∨h.size≤y:=fun y X=>.inl (by subst X;exact i.w)
 refine Hu _ ?_;unfold AO aW cp cu tP cz;refine yN i (CondP.intro (fun p=>?_) fun p=>?_)
 ·have p:s.2≠0:=by simpa using p
  have e:dX s=(0,s):=by rw[dX,if_neg p]
  rw[e]at q;exact q h i (Upd.refl _ _)
 have p:s.2=0:=by simpa using p
 refine Join.intro (fun _ h'=>h'=h∧wY 0 0 s.1=none) (fun R O=>⟨_,rfl,sp,vc G 0,?_⟩) ?_
 ·refine LoopP.ghost (fun(g:Nat) (t:Int×Int) h'=>h'=h∧g≤9∧t.2=(g:Int)∧g≤s.1.length∧∃n:Nat,t.1=(n:Int)∧n<128^g∧wY 0 0 s.1=wY g n (s.1.drop g)) (fun g=>10-g) 0 ⟨rfl,by omega,rfl,bJ _,0,rfl,by simp,rfl⟩ ?_
  rintro I g ⟨t1,Y⟩ h' ⟨rfl,hg,rfl,Q,n,rfl,F,f⟩ V;refine av (fun C=>?_) fun C=>O () _ ⟨rfl,?_⟩
  ·have C:(g:Int)<(sp.len:Int):=C
   have w:g<s.1.length:=by omega
   obtain⟨a,T,_,hc⟩:=D.at0 (aj w);rw[List.drop_eq_getElem_cons w]at f;generalize s.1[g]=x at f hc;have hx:=x.toNat_lt;refine⟨⟨by omega,by omega⟩,a,T,_,hc,?_⟩
   refine Join.intro (fun(t:Bool) h2=>h2=h'∧(t=true↔(g=9∧1<x.toNat)∨(x.toNat=0∧0<g))) (fun R2 k=>?_) ?_
   ·have H:(decide ((g:Int)>0)=true↔0<g):=by rw[decide_eq_true_iff];omega
    refine CondP.intro (fun c=>?_) fun c=>?_
    ·have c:g=9:=by have c:(g:Int)=9:=(by simpa using c);omega
     refine av (fun o=>k _ _ ⟨rfl,?_⟩) fun o=>CondP.intro (fun d=>k _ _ ⟨rfl,?_⟩) fun d=>k _ _ ⟨rfl,?_⟩
     ·have o:(x.toNat:Int)>1:=o
      simp only[true_iff];exact .inl ⟨c,by omega⟩
     ·have d:x.toNat=0:=by have d:(x.toNat:Int)=0:=(by simpa using d);omega
      rw[H];omega
     ·have d:x.toNat≠0:=fun e=>by simp[e]at d
      have o:¬(x.toNat:Int)>1:=o;simp only[ce,false_iff];omega
    ·have c:g≠9:=fun e=>by subst e;simp at c
     refine CondP.intro (fun d=>k _ _ ⟨rfl,?_⟩) fun d=>k _ _ ⟨rfl,?_⟩
     ·have d:x.toNat=0:=by have d:(x.toNat:Int)=0:=(by simpa using d);omega
      rw[H];omega
     ·have d:x.toNat≠0:=fun e=>by simp[e]at d
      simp only[ce,false_iff];omega
   ·rintro t h' ⟨rfl,L⟩
    rw[wY]at f;refine CondP.intro (fun c=>O () _ ⟨rfl,?_⟩) fun c=>?_
    ·rw[f,if_pos (L.1 c)]
    have c:¬((g=9∧1<x.toNat)∨(x.toNat=0∧0<g)):=fun e=>by rw[L.2 e]at c;cases c
    rw[if_neg c]at f;have U:ac .i64 (7*(g:Int))=((7*g:Nat):Int):=by rw[Go.IntWalk.i64_in _ (by omega)];omega
    have A:ac .i64 ((g:Int)+1)=((g+1:Nat):Int):=by rw[Go.IntWalk.i64_in _ (by omega)];omega
    have B:(128:Nat)^g=2^(7*g):=by rw[show(128:Nat)=2^7 from rfl,←Nat.pow_mul]
    have v:n+x.toNat%128*2^(7*g)<18446744073709551616:=by
     rw[←B];rcases eD g 9 with E|E
     ·have P:128^(g+1)≤128^9:=iv (by omega) (by omega)
      have J:x.toNat%128*128^g≤127*128^g:=dD _ (by omega);rw[lW]at P;omega
     ·have E:g=9:=by omega
      subst E;have J:x.toNat%128*128^9≤1*128^9:=dD _ (by omega);omega
    refine IE ?_;rw[Wb];show(0:Int)≤ac .i64 (7*(g:Int))∧_
    refine⟨by omega,IE ?_⟩;show Bd (ac .u64 ((ao (ai .u64) (n:Int)|||ao (ai .u64) (ac .u64 ((ac .u64 ((x.toNat%128:Nat):Int))*2^(min (ac .i64 (7*(g:Int)):Int).toNat (ai .u64))))).toNat:Int)) _
    rw[TA U (by omega) (by omega) (by omega),TI (B▸F) v];refine IE (av (fun o=>?_) fun o=>?_)
    ·have o:(x.toNat:Int)<128:=o
     rw[if_pos (by omega)]at f;have e:dX s=(n+x.toNat*128^g,s.1.drop (g+1),0):=by rw[dX,if_pos p,f]
     rw[e]at q;refine⟨_,rfl,sp,vc G 0,?_⟩;show((0:Int)≤ac .i64 ((g:Int)+1)∧ac .i64 ((g:Int)+1)≤((sp.len:Nat):Int))∧_
     rw[A];refine⟨⟨by omega,by omega⟩,IE (IE (IE ⟨_,rfl,yv G (by simp) rfl fun h' z u=>?_⟩))⟩
     have N:=D.sub (l:=g+1) (hi:=s.1.length) (m:=sp.cap) (c:=sp.cap-(g+1)) (by omega) (aq _) (by omega);rw[bL (by simp),←S]at N;have hm:x.toNat%128=x.toNat:=by omega
     rw[hm,←B];rw[p]at z;refine q h' (i.up u (sp:=⟨bw sp.a (g+1) sp.cap 1,sp.len-(g+1),sp.cap-(g+1)⟩) z N ?_ (by simp)) u;show sp.len-(g+1)≤sp.cap-(g+1)
     omega
    ·have o:¬(x.toNat:Int)<128:=o
     rw[if_neg (by omega)]at f;refine V (g+1) _ _ ⟨rfl,by omega,A,by omega,_,rfl,?_,?_⟩ (by omega)
     ·rw[←B,lW]
      have J:x.toNat%128*128^g≤127*128^g:=dD _ (by omega);omega
     ·rw[f,←B,show x.toNat%128=x.toNat-128 by omega]
  ·have C:¬(g:Int)<(sp.len:Int):=C
   rw[f,List.drop_eq_nil_of_le (by omega)];rfl
 ·rintro _ h' ⟨rfl,f⟩
  have e:dX s=(0,s.1,9):=by rw[dX,if_pos p,f]
  rw[e]at q;refine mr i fun h' j u=>q h' ?_ u
  rw[dA,if_pos p]at j;exact j
theorem Lu(l:List UInt8):eo (Sw l)=l.flatMap yq:=by rw[Lr];rfl
theorem ul(i:InAt W h b s)(d:Nat)(hm:d≤100000)(f:Int)(z:f≠0){K:ByteArray→af→Prop}(A:∀h',InAt W h' b (dg d f s).2→Upd (· =b) h h'→K (dg d f s).1 h'):
  HC PG is [.pointer (some ⟨b,0,none⟩),.int .i64 (d:Int),.int .i64 f] [.c .str] K h:=by
 obtain⟨sp,hb,T,hl⟩:=i.ex;have hn:=T.len;have hin:=i.n;have X:∀{h2:af},∀y,y=b→W y∨h2.size≤y:=fun y hy=>.inl (by subst hy;exact i.w)
 refine Gv _ (d:Int) f ?_;unfold zu cq cu tP cz;refine yN i (CondP.intro (fun m=>?_) fun m=>?_)
 ·have m:s.2≠0:=by simpa using m
  have e:dg d f s=(⟨#[]⟩,s):=by rw[dg,if_neg m]
  rw[e]at A;exact A h i (Upd.refl _ _)
 have m:s.2=0:=by simpa using m
 refine⟨_,rfl,sp,vc hb 0,FS i fun h6 j u=>?_⟩
 have w:=zR s;refine Join.intro (fun _ h'=>∃s':eK,InAt W h' b s'∧Upd (· =b) h h'∧((s'.2≠0∧dg d f s=(⟨#[]⟩,s.1,s'.2))∨
  (s'.2=0∧(dX s).1≤s'.1.length∧dg d f s=(Sw (s'.1.take (dX s).1),s'.1.drop (dX s).1,0)))) (fun R F=>?_) ?_
 ·obtain⟨g,D,C,Y⟩:=j.ex
  have q:=C.len;refine⟨_,rfl,_,vc D 1,CondP.intro (fun c=>F () _ ⟨_,j,u,.inl ⟨by simpa using c,?_⟩⟩) fun c=>?_⟩
  ·have c:(dX s).2.2≠0:=by simpa using c
   rw[dg,if_pos m];rw[dX,if_pos m]at c⊢;cases B:wY 0 0 s.1 with
   |none=>rfl
   |some p=>rw[B]at c;exact absurd rfl c
  ·have c:(dX s).2.2=0:=by simpa using c
   obtain⟨n,k,B⟩:∃n k,wY 0 0 s.1=some (n,k):=by
    rw[dX,if_pos m]at c;cases B:wY 0 0 s.1 with
    |none=>rw[B]at c;cases c
    |some p=>exact⟨p.1,p.2,rfl⟩
   have er:dX s=(n,s.1.drop k,0):=by rw[dX,if_pos m,B]
   have v:dg d f s=if d<n then(⟨#[]⟩,s.1,f)else if s.1.length-k<n then(⟨#[]⟩,s.1,9)else(Sw ((s.1.drop k).take n),s.1.drop (k+n),0):=by rw[dg,if_pos m,B]
   rw[er]at j C q w F⊢;have w:n<18446744073709551616:=w;have q:g.len=(s.1.drop k).length:=q;rw[aP]at q;have em:ac .u64 (d:Int)=(d:Int):=Go.IntWalk.u64_in _ (by omega);have el:ac .u64 (g.len:Int)=(g.len:Int):=Go.IntWalk.u64_in _ (by omega);refine Join.intro (fun(t:Bool) h'=>h'=h6∧(t=true↔d<n)) (fun R2 I=>?_) ?_
   ·refine av (fun o=>?_) fun _=>I _ _ ⟨rfl,?_⟩
    ·have o:(d:Int)<0:=o
     omega
    ·rw[em,decide_eq_true_iff]
     show(n:Int)>(d:Int)↔_
     omega
   ·rintro t h' ⟨rfl,U⟩
    refine CondP.intro (fun o=>?_) fun o=>⟨_,rfl,g,vc D 0,?_⟩
    ·rw[if_pos (U.1 o)]at v
     refine mr j fun h7 P J=>F () _ ⟨_,P,u.tr J,.inl ?_⟩
     rw[dA,if_pos rfl];exact⟨z,v⟩
    ·have o:¬d<n:=fun e=>by rw[U.2 e]at o;cases o
     rw[if_neg o]at v;rw[el];refine av (fun x=>?_) fun x=>F () _ ⟨_,j,u,.inr ⟨rfl,?_,?_⟩⟩
     ·have x:(n:Int)>(g.len:Int):=x
      rw[if_pos (by omega)]at v;refine mr j fun h7 P J=>F () _ ⟨_,P,u.tr J,.inl ?_⟩
      rw[dA,if_pos rfl];exact⟨show(9:Int)≠0 by decide,v⟩
     ·have x:¬(n:Int)>(g.len:Int):=x
      show n≤(s.1.drop k).length
      rw[aP];omega
     ·have x:¬(n:Int)>(g.len:Int):=x
      rw[v,if_neg (by omega)];show _=(Sw ((s.1.drop k).take n),(s.1.drop k).drop n,0)
      rw[cS]
 ·rintro _ h' ⟨s',N,O,hc⟩
  obtain⟨sp',E,Z,hl'⟩:=N.ex;refine⟨_,rfl,_,vc E 1,CondP.intro (fun c=>⟨_,rfl,yv E (by simp) rfl fun L Q H=>?_⟩) fun c=>?_⟩
  ·have c:s'.2≠0:=by simpa using c
   rcases hc with⟨_,e⟩|⟨e,_⟩
   ·rw[e]at A
    exact A L ⟨⟨sp,Q,(T.upd O X).upd H X,hl⟩,i.w,i.n⟩ (O.tr H)
   ·exact absurd e c
  ·have c:s'.2=0:=by simpa using c
   rcases hc with⟨e,_⟩|⟨_,hle,e⟩
   ·exact absurd c e
   ·have V:=N.n
    rw[e]at A;have ew:ac .i64 ((dX s).1:Int)=((dX s).1:Int):=Go.IntWalk.i64_in _ (by omega);rw[ew];have v:fV (dX s).1 s'=(s'.1.take (dX s).1,s'.1.drop (dX s).1,0):=by rw[fV,if_pos c,if_neg (by omega)]
    refine Dl N (dX s).1 fun L spt G S H=>?_
    rw[v]at G S;refine⟨Sw (s'.1.take (dX s).1),?_,A L S (O.tr H)⟩;have r:=G.srow;rw[Nat.mul_one]at r;rw[Lu];exact r
end
end Go.Proofs
namespace Go.Proofs
structure WO{α:Type}(lt:α→α→Bool):Prop where
 irr:∀a,lt a a=false
 asy:∀a b,lt a b=true→lt b a=false
 ntr:∀a b c,lt a b=false→lt b c=false→lt a c=false
section
variable {α:Type} {lt:α→α→Bool}
def Iz(lt:α→α→Bool)(x a:α):Bool:= !lt a x&& !lt x a
def Srt(lt:α→α→Bool)(l:List α):Prop:=l.Pairwise fun a b=>lt b a=false
structure Eqf(lt:α→α→Bool)(l l':List α):Prop where
 len:l'.length=l.length
 flt:∀x,l'.filter (Iz lt x)=l.filter (Iz lt x)
structure St(lt:α→α→Bool)(l l':List α):Prop where
 eqf:Eqf lt l l'
 srt:Srt lt l'
theorem Eqf.rfl(l:List α):Eqf lt l l:=⟨_root_.rfl,fun _=>_root_.rfl⟩
theorem Eqf.tr{a b c:List α}(h:Eqf lt a b)(k:Eqf lt b c):Eqf lt a c:=⟨k.len.trans h.len,fun x=>(k.flt x).trans (h.flt x)⟩
theorem Eqf.app{a b a' c:List α}(h:Eqf lt a a')(k:Eqf lt b c):Eqf lt (a++b) (a'++c):=
 ⟨by rw[ae,ae,h.len,k.len],fun x=>by rw[lX,lX,h.flt,k.flt]⟩
theorem F9(w:WO lt)(a:α):Iz lt a a=true:=by unfold Iz;rw[w.irr];rfl
theorem Eqf.mem(w:WO lt){l b:List α}(h:Eqf lt l b){a:α}:a∈b↔a∈l:=by
 have e:=h.flt a;constructor
 ·intro hm
  have:a∈b.filter (Iz lt a):=dP.2 ⟨hm,F9 w a⟩;rw[e]at this;exact(dP.1 this).1
 ·intro hm
  have:a∈l.filter (Iz lt a):=dP.2 ⟨hm,F9 w a⟩;rw[←e]at this;exact(dP.1 this).1
theorem Tk(w:WO lt){x u v:α}(b:Iz lt x u=true)(hv:Iz lt x v=true):lt v u=false:=by
 unfold Iz at b hv;simp only[Bool.and_eq_true,Bool.not_eq_true']at b hv;exact w.ntr v x u hv.1 b.2
theorem Eqf.swap(w:WO lt){U V:List α}(h:∀u∈U,∀v∈V,lt v u=true):Eqf lt (U++V) (V++U):=by
 refine⟨by rw[ae,ae,xW],fun x=>?_⟩
 rw[lX,lX];cases hU:U.filter (Iz lt x)with
 |nil=>rw[aZ,cG]
 |cons u us=>
  cases hV:V.filter (Iz lt x)with
  |nil=>rw[aZ,cG]
  |cons v vs=>
   have d:u∈U.filter (Iz lt x):=by rw[hU];exact aN ..
   have hv:v∈V.filter (Iz lt x):=by rw[hV];exact aN ..
   have b:=dP.1 d;have h2:=dP.1 hv;have c:=h u b.1 v h2.1;rw[Tk w b.2 h2.2]at c;cases c
theorem Srt.app{a b:List α}(h:Srt lt a)(k:Srt lt b)(c:∀x∈a,∀y∈b,lt y x=false):Srt lt (a++b):=dd.2 ⟨h,k,c⟩
theorem Srt.left{a b:List α}(h:Srt lt (a++b)):Srt lt a:=(dd.1 h).1
theorem Srt.right{a b:List α}(h:Srt lt (a++b)):Srt lt b:=(dd.1 h).2.1
theorem Srt.cross{a b:List α}(h:Srt lt (a++b)):∀x∈a,∀y∈b,lt y x=false:=(dd.1 h).2.2
theorem Srt.nil:Srt lt ([]:List α):=fG
theorem Srt.one(a:α):Srt lt [a]:=List.pairwise_singleton ..
theorem L5(w:WO lt){S L G:List α}{t:α}(h:St lt S (L++G))(e:∀l∈L,lt t l=false)(c:∀g∈G,lt t g=true):St lt (S++ [t]) (L++t::G):=by
 refine⟨(h.eqf.app (Eqf.rfl [t])).tr ?_,?_⟩
 ·rw[aF]
  exact(Eqf.rfl L).app (Eqf.swap w (U:=G) (V:= [t]) fun u f v hv=>by rw[aA.1 hv];exact c u f)
 ·refine h.srt.left.app (bB.2 ⟨fun g d=>w.asy t g (c g d),h.srt.right⟩) fun x hx y b=>?_
  rcases au.1 b with rfl|b
  ·exact e x hx
  ·exact h.srt.cross x hx y b
theorem BZ(w:WO lt){V1 V2:List α}{u:α}(h:Srt lt (V1++V2))(c:∀v∈V1,lt v u=true)(h2:∀v∈V2,lt v u=false):St lt ([u]++(V1++V2)) (V1++u::V2):=by
 refine⟨?_,?_⟩
 ·rw[←aF]
  have:=(Eqf.swap w (U:= [u]) (V:=V1) fun x hx y b=>by rw[aA.1 hx];exact c y b).app (Eqf.rfl V2)
  rw[aF V1]at this;exact this
 ·refine h.left.app (bB.2 ⟨h2,h.right⟩) fun x hx y b=>?_
  rcases au.1 b with rfl|b
  ·exact w.asy x y (c x hx)
  ·exact h.cross x hx y b
theorem DY(w:WO lt){U1 U2:List α}{v:α}(h:Srt lt (U1++U2))(b:∀u∈U1,lt v u=false)(h2:∀u∈U2,lt v u=true):St lt ((U1++U2)++ [v]) (U1++v::U2):=
 L5 w ⟨Eqf.rfl _,h⟩ b h2
theorem HP(w:WO lt){U1 U2 V1 V2 R1 R2:List α}(g:Srt lt (U1++U2))(i:Srt lt (V1++V2))(f:∀v∈V1,∀u∈U2,lt v u=true)(h2:∀u∈U1,∀v∈V2,lt v u=false)(c:St lt (U1++V1) R1)(d:St lt (U2++V2) R2):St lt ((U1++U2)++(V1++V2)) (R1++R2):=by
 refine⟨?_,c.srt.app d.srt fun x hx y b=>?_⟩
 ·have e:Eqf lt ((U1++U2)++(V1++V2)) ((U1++V1)++(U2++V2)):=by
   have:=((Eqf.rfl U1).app (Eqf.swap w (U:=U2) (V:=V1) fun u j v hv=>f v hv u j)).app (Eqf.rfl (lt:=lt) V2)
   simp only[aF]at this⊢;exact this
  exact e.tr (c.eqf.app d.eqf)
 ·rcases cg.1 ((c.eqf.mem w).1 hx)with hx|hx<;>rcases cg.1 ((d.eqf.mem w).1 b)with b|b
  ·exact g.cross x hx y b
  ·exact h2 x hx y b
  ·exact w.asy x y (f x hx y b)
  ·exact i.cross x hx y b
inductive Runs(lt:α→α→Bool)(bs:Nat):List α→Prop where
 |last (l:List α):l.length≤bs→Srt lt l→Runs lt bs l
 |more (b l:List α):b.length=bs→Srt lt b→Runs lt bs l→Runs lt bs (b++l)
theorem Runs.split{bs:Nat}{l:List α}(h:Runs lt bs l)(c:bs≤l.length):∃b r,l=b++r∧b.length=bs∧Srt lt b∧Runs lt bs r:=by
 cases h with
 |last _ h1 h2=>exact⟨l,[],(aZ l).symm,by omega,h2,.last _ (bJ _) Srt.nil⟩
 |more b r h1 h2 h3=>exact⟨b,r,_root_.rfl,h1,h2,h3⟩
theorem Runs.short{bs:Nat}{l:List α}(h:Runs lt bs l)(c:l.length≤bs):Srt lt l:=by
 cases h with
 |last _ h1 h2=>exact h2
 |more b r h1 h2 h3=>
  rw[ae]at c;have:r= []:=aw.1 (by omega);rw[this,aZ];exact h2
def Full(lt:α→α→Bool)(bs:Nat)(d:List α):Prop:=∀z,Runs lt bs z→Runs lt bs (d++z)
theorem Full.nil{bs:Nat}:Full lt bs ([]:List α):=fun _ h=>h
theorem Full.app{bs:Nat}{d b:List α}(h:Full lt bs d)(e:b.length=bs)(c:Srt lt b):Full lt bs (d++b):=fun z f=>by
 rw[aF];exact h _ (.more b z e c f)
end
end Go.Proofs
namespace Go.Proofs
open Go Go.Lift
theorem TreeIs.plain{W:Nat→Prop}{h:af}{kind:Int}{x:Hs}{t:Tr}{l:List Pr}(i:TreeIs W h kind x t l):(∀a,t.2.2.2.2.1=some a→iX h a)∧(∀a,t.2.2.2.2.2=some a→iX h a):=by
 rcases i with⟨rfl,b,rfl,t⟩|⟨rfl,b,rfl,t⟩
 ·obtain⟨s,nd,_⟩:=t
  obtain⟨d,n,sp,sk,f,e,_⟩:=nd.ex;refine⟨fun a c=>?_,fun a c=>(by cases c)⟩
  cases c;exact⟨_,_,e,show 0<6 by decide⟩
 ·obtain⟨w,F,⟨val,s,f,ks,e,_⟩,_⟩:=t.ex
  refine⟨fun a c=>(by cases c),fun a c=>?_⟩
  cases c;exact⟨_,_,e,show 0<5 by decide⟩
end Go.Proofs
namespace Go.Proofs
open Go Go.Lift
abbrev VV:List Value:= [.string (⟨#[]⟩:ByteArray),.string (⟨#[]⟩:ByteArray)]
theorem Vj{h:af}{t:TypeId}{p:Pr}{k:af→Prop}(e:∀h',h'[h.size]? =some (.cells #[.string p.1,.string p.2] t (0,0))→Upd No h h'→k h'):
  At (hnew h [.string (⟨#[]⟩:ByteArray),.string (⟨#[]⟩:ByteArray)] t) fun d=>yr d (some (aI h)) 0 [.string p.1,.string p.2]∧At (jK d (aI h) 0 [.string p.1,.string p.2]) k:=by
 refine bO fun f b1 k1=>?_
 exact eE (c:=VV) (vs:= [.string p.1,.string p.2]) b1 rfl fun h2 b2 b=>e h2 b2 (k1.own b (aq _))
theorem La{p:Pr}:∀{A B:List Pr},(∀r∈A,kl r.1 p.1)→wh p (A++B)=A++wh p B
 | [],_,_=>rfl
 |r::A,B,h=>by
  rw[fz,Dk,if_pos (h r (aN ..)),La fun q b=>h q (List.mem_cons_of_mem _ b)];rfl
theorem um{i n:Nat}(h:i<n)(b:n≤9223372036854775807):ac .i64 ((i:Int)+1)=((i+1:Nat):Int):=by rw[Go.IntWalk.i64_in _ (by omega)];omega
theorem Im(p:Pr):∀{l:List Pr},(wh p l).length≤l.length+1
 | []=>aq _
 |q::l=>by
  rw[Dk];split
  ·have:=Im p (l:=l);simp only[ax];omega
  ·split<;>simp
end Go.Proofs
namespace Go.Proofs
open Go Go.Lift
abbrev Wk:=Option Addr×ByteArray×Bool
structure It where
 b:Nat
 ah:ByteArray
 own:Bool
 sl:ByteArray
 w:Option ByteArray
 F:Fo
def It.raw(i:It):Wk:=(some ⟨i.b,0,none⟩,i.ah,i.own)
def It.key(i:It):List UInt8:=i.ah.data.toList++i.sl.data.toList
end Go.Proofs
namespace Go.Proofs
open Go Go.Lift
abbrev rJ(z:Hs)(p:Pr):List Value:= [.string p.1,.string p.2,.int .u64 (j5 z p.1)]
theorem Jw(z:Hs)(p:Pr):(rJ z p).length=3∧0<3:=⟨rfl,by omega⟩
theorem NY(z:Hs):∀xs:List Pr,cI (xs.flatMap (rJ z))=true
 | []=>rfl
 |x::xs=>by rw[List.flatMap_cons];exact nO rfl (NY z xs)
section
variable {α:Type} {f:α→List Value} {sz:Nat} {t:TypeId} {M:Nat→Prop} {h:af} {s:SliceV} {P Q:List α} {x:α}
theorem f7(b:OwnS f sz t M h s (P++x::Q)){i:Nat}(hi:i=P.length):∃a,s.a=some a∧∀j v,(f x)[j]? =some v→bj h (adr (adr a (i*sz)) j)=some v:=by
 obtain⟨a,c,_,hv⟩:=(b.sl (W:=No) fun _ _ _ h=>h).at (i:=i) (x:=x) (by rw[hi,aD (aq _),Nat.sub_self];rfl)
 exact⟨a,c,hv⟩
theorem mu(g:OwnS f sz t M h s (P++x::Q))(y:α){a:Addr}(q:s.a=some a){i:Nat}(hi:i=P.length){G:af→Prop}(o:∀h',OwnS f sz t M h' s (P++y::Q)→Upd M h h'→G h'):
  yr h (some (adr a (i*sz))) 0 (f y)∧At (jK h (adr a (i*sz)) 0 (f y)) G:=by
 obtain⟨a',d,hM,n,c,m⟩:=OwnS.setAt g (k:=i) (by rw[hi,ae,ax];omega) y;rw[q]at d;cases d;refine⟨n,dx (o _ ?_ (m.mono fun b e=>.inl (by have e:b=a.block:=e;rw[e];exact hM)))⟩
 subst hi;have j:(P++x::Q).take P.length=P:=List.take_left;have p:(P++x::Q).drop (P.length+1)=Q:=by rw[←cS,List.drop_left];rfl
 rw[j,p]at c;exact c
end
theorem rX{α:Type}{f:α→List Value}{b:Nat}{t:TypeId}{M:Nat→Prop}{h:af}{s:SliceV}{xs:List α}{x:α}(c:OwnS f b t M h s xs){i:Nat}(hi:xs[i]? =some x):∃a,s.a=some a∧∀j v,(f x)[j]? =some v→bj h (adr (adr a (i*b)) j)=some v:=by
 obtain⟨a,d,_,hv⟩:=(c.sl (W:=No) fun _ _ _ h=>h).at hi
 exact⟨a,d,hv⟩
theorem Q1{α:Type}{A U X:List α}{i:Nat}(hi:A.length+U.length≤i):(A++(U++X))[i]? =X[i-A.length-U.length]?:=by
 rw[aD (by omega),aD (by omega)]
theorem JB{α:Type}{A U V B:List α}{i k:Nat}{x:α}(hi:A.length+U.length+k=i)(b:V[k]? =some x):(A++(U++(V++B)))[i]? =some x:=by
 rw[Q1 (by omega),show i-A.length-U.length=k by omega,bf (aY.1 b).1];exact b
theorem EY{α:Type}{A U X:List α}{i k:Nat}{x:α}(hi:A.length+k=i)(b:U[k]? =some x):(A++(U++X))[i]? =some x:=by
 rw[aD (by omega),show i-A.length=k by omega,bf (aY.1 b).1];exact b
theorem vz{i j:Nat}(h:i+j≤4000000000):ac .i64 (Int.fdiv (ac .u64 (ac .i64 ((i:Int)+(j:Int)))) (2^(min (1:Int).toNat (ai .u64))))=(((i+j)/2:Nat):Int):=by
 have b:(2^(min (1:Int).toNat (ai .u64)):Int)=2:=rfl;rw[b,dW (x:=(i:Int)+(j:Int)) (by omega),Go.IntWalk.u64_in _ (by omega),Int.fdiv_eq_ediv_of_nonneg _ (by omega),dW (by omega)];omega
theorem jb{α:Type}{lt:α→α→Bool}(w:WO lt){l:List α}(h:Srt lt l){i j:Nat}(c:i≤j){x y:α}(hx:l[i]? =some x) (d:l[j]? =some y):lt y x=false:=by
 obtain⟨hi,rfl⟩:=aY.1 hx;obtain⟨e,rfl⟩:=aY.1 d;rcases eD i j with b|b
 ·exact List.pairwise_iff_getElem.1 h i j hi e b
 ·have:i=j:=by omega
  subst this;exact w.irr _
theorem E0{α:Type}(l:List α):l= []∨∃b y,l=b++ [y]:=by
 rcases List.eq_nil_or_concat l with h|⟨b,y,h⟩
 ·exact .inl h
 ·exact .inr ⟨b,y,by rw[h,List.concat_eq_append]⟩
structure Cmp{α:Type}(lt:α→α→Bool)(f:α→List Value)(M:Nat→Prop)(Iv:af→Prop)(V:Value):Prop where
 call:∀(a b:α) {h:af} {K:Int→af→Prop},Iv h→(∀h' e,Upd No h h'→decide (e<0)=lt a b→K e h')→HV PG V [.agg (f a).toArray,.agg (f b).toArray] [.c (.int .i64)] K h
 step:∀{h h':af},Upd M h h'→Iv h→Iv h'
end Go.Proofs
