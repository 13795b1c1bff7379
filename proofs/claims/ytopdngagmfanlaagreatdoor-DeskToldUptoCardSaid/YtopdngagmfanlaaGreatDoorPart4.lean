/- A part of the proof that the named laws of this program answer true, whatever the input. -/
import Derived.Test.YtopdngagmfanlaaGreatDoorPart3
import Derived.Test.YtopdngagmfanlaaGreatDoorPart1
import Derived.Test.YtopdngagmfanlaaGreatDoorLift3
import Derived.IntWalk
open Bool renaming true_and→kX,false_and→pq
open ByteArray renaming data_extract→hE
open Go.IntKind renaming wrap→ac
open Int renaming toNat_natCast→ai
open List renaming mem_cons→aA,length_cons→aG,flatMap_cons→bD,map_cons→cD,replicate→bO,replicate_succ→gV,length_map→dx,append_assoc→aH,length_append→ah,length_singleton→bw,map_append→fV,getElem?_eq_getElem→ag,getElem_mem→bp,take_succ_eq_append_getElem→cA,mem_append→bM,mem_singleton→aM,take_length→bf,any_eq_true→bZ,mem_map→cL,nodup_cons→nJ,pairwise_cons→bS,pairwise_append→eJ,mem_cons_of_mem→bj,mem_filter→dH,length_filter_le→gb,mem_cons_self→aU,length_set→nK,length_take→aL,drop_drop→cU,drop_left'→cp,filter_append→fj,append_nil→dd,nil_append→fh
open List.Pairwise renaming nil→jo
open Nat renaming one_pos→oa,le_refl→ax,zero_le→be,not_lt→ir,lt_of_lt_of_le→aF,le_trans→bH
namespace Go.Proofs
open Go Go.Lift
def ol(c:UInt8):List UInt8→List (List UInt8)
 | []=> [[]]
 |a::l=>if a=c then[]::ol c l else match ol c l with
  | []=> [[a]]
  |w::ws=>(a::w)::ws
theorem C9{c:UInt8}:∀{l:List UInt8},c∉l→ol c l= [l]
 | [],_=>rfl
 |a::l,h=>by
  unfold ol;rw[if_neg (fun e=>h (by rw[e];simp)),C9 fun e=>h (by simp[e])]
theorem Gu{c:UInt8}{r:List UInt8}:∀{l:List UInt8},c∉l→ol c (l++c::r)=l::ol c r
 | [],_=>by show ol c (c::r)=_;rw[ol,if_pos rfl]
 |a::l,h=>by
  show ol c (a::(l++c::r))=_
  rw[ol,if_neg (fun e=>h (by rw[e];simp)),Gu fun e=>h (by simp[e])]
theorem F4(c:UInt8):∀l:List UInt8,c∈l→∃u r,l=u++c::r∧c∉u∧Lib.indexByte l c=(u.length:Int)
 | [],h=>by simp at h
 |a::l,h=>by
  by_cases e:a=c
  ·subst e
   exact⟨[],l,rfl,by simp,by simp[Lib.indexByte]⟩
  ·have h:c∈l:=by
    rcases aA.1 h with h|h
    ·exact absurd h.symm e
    ·exact h
   obtain⟨u,r,e1,e2,b⟩:=F4 c l h;refine⟨a::u,r,by rw[e1];rfl,by simp[e2,Ne.symm e],?_⟩
   have f:(a==c)=false:=by simpa using e
   have d:(Lib.indexByte l c== -1)=false:=by rw[b,beq_eq_false_iff_ne];omega
   simp only[Lib.indexByte,f,d,Bool.false_eq_true,if_false,aG];rw[b];omega
abbrev Lf(w:List UInt8):List Value:= [.string (aW w)]
theorem Fy(w:List UInt8):(Lf w).length=1∧0<1:=⟨rfl,oa⟩
theorem L3:∀l:List (List UInt8),l.flatMap Lf=l.map fun w=>Value.string (aW w)
 | []=>rfl
 |a::l=>by rw[bD,cD,L3 l];rfl
theorem Lj{l:List Value}{k:Nat}{z v:Value}:((l++bO (k+1) z).toArray).setIfInBounds (l.length*1) v=(l++ [v]++bO k z).toArray:=by
 apply Array.ext';rw[Array.toList_setIfInBounds];simp[gV]
theorem N6(u r:List UInt8):(aW (u++r)).extract 0 u.length=aW u:=by
 apply ByteArray.ext;rw[hE];simp
theorem N5(u r:List UInt8)(n:Nat)(a:n=(u++r).length):(aW (u++r)).extract u.length n=aW r:=by
 subst a;apply ByteArray.ext;rw[hE];simp
theorem Q7(n:Nat)(v:Value):de n [v]=bO n v:=by
 unfold de;induction n with
 |zero=>rfl
 |succ n ih=>rw[gV,List.flatten_cons,ih];rfl
theorem Fz{x:ByteArray}{c:UInt8}(hx:x.size≤1000000){h:ad}{K:SliceV→ad→Prop}(U:∀h' s,OwnS Lf 1 cN (fun y=>h.size≤y) h' s (ol c x.data.toList)→Upd No h h'→K s h'):
  HC PG oK [.string x,.string ⟨#[c]⟩] [.c .slice] K h:=by
 refine Ku x ⟨#[c]⟩ ?_;unfold Cj Vy;refine EA x ⟨#[c]⟩ 0 (-1) ?_;unfold wW dE ci kf Ww;refine CondP.intro (fun e=>absurd e (by decide)) fun _=>CondP.intro (fun e=>?_) fun _=>Join.plain (aK (fun _=>Qz ?_) fun c=>absurd (by decide) c)
 ·rw[EV]at e;simp at e
 have D:=List.count_le_length (a:=c) (l:=x.data.toList);have W:=ox x;obtain⟨n,G⟩:∃n,x.data.toList.count c=n:=⟨_,rfl⟩;rw[G]at D⊢;have e1:ac .i64 ((n:Int)+1)=((n+1:Nat):Int):=by rw[lz (by omega)];omega
 have e2:ac .i64 ((x.size:Int)+1)=((x.size+1:Nat):Int):=by rw[lz (by omega)];omega
 rw[e1,e2];refine GE ?_;rw[if_neg (by omega)];refine⟨⟨by omega,Int.le_refl _,by omega,by omega⟩,aY ?_⟩
 rw[ai,Q7];have k1:=Upd.hnew No h (bO (n+1) (Value.string ⟨#[]⟩)) cN;have b1:=bG h (bO (n+1) (Value.string ⟨#[]⟩)) cN;generalize hnew h (bO (n+1) (Value.string ⟨#[]⟩)) cN=h1 at k1 b1;have N:ac .i64 (((n+1:Nat):Int)-1)=(n:Int):=by rw[lz (by omega)];omega
 refine Join.intro (fun(t:ByteArray×Int) f=>∃(done:List (List UInt8)) (r:List UInt8),t=(aW r,(done.length:Int))∧done.length=n∧c∉r∧ol c x.data.toList=done++ [r]∧f[h.size]? =some (.cells ((done.map fun w=>Value.string (aW w))++bO 1 (Value.string ⟨#[]⟩)).toArray cN (0,0))∧Upd (· =h.size) h1 f) (fun R V=>?_) ?_
 ·refine LoopP.ghost (fun(g:List (List UInt8)×List UInt8) (t:ByteArray×Int) f=>t=(aW g.2,(g.1.length:Int))∧g.1.length+g.2.count c=n∧g.2.length≤1000000∧ol c x.data.toList=g.1++ol c g.2∧f[h.size]? =some (.cells ((g.1.map fun w=>Value.string (aW w))++bO (n+1-g.1.length) (Value.string ⟨#[]⟩)).toArray cN (0,0))∧Upd (· =h.size) h1 f) (fun g=>g.2.length) ([],x.data.toList) ⟨rfl,by simpa using G,by simp only;omega,rfl,by simpa using b1,Upd.refl _ _⟩ ?_
  rintro I ⟨done,r⟩ t f ⟨rfl,hc,T,b,b2,u⟩ Q;simp only at hc T b b2;rw[N];refine aK (fun i=>?_) fun E=>?_
  ·have A:done.length<n:=by have:(done.length:Int)<(n:Int):=i;omega
   clear i;have m:c∈r:=List.count_pos_iff.1 (by omega);obtain⟨p,q,rfl,H,B⟩:=F4 c r m;have C:p.count c=0:=List.count_eq_zero.2 H;have o:(p++c::q).length=p.length+(q.length+1):=by simp
   refine IK ?_;rw[show Lib.indexByte (aW (p++c::q)).data.toList c=(p.length:Int)from by rw[show(aW (p++c::q)).data.toList=p++c::q from by simp];exact B]
   refine aK (fun O=>absurd O (by omega)) fun _=>?_
   have P:ac .i64 ((p.length:Int)+0)=(p.length:Int):=by rw[lz (by omega)];omega
   have S:ac .i64 ((p.length:Int)+((⟨#[c]⟩:ByteArray).size:Int))=((p.length+1:Nat):Int):=by rw[show((⟨#[c]⟩:ByteArray).size:Int)=1 from rfl,lz (by omega)];omega
   have es:(aW (p++c::q)).size=p.length+(q.length+1):=by rw[bq,o]
   simp only[P,S,es,ai];refine⟨⟨by omega,by omega⟩,⟨by omega,by omega⟩,_,rfl,?_⟩
   rw[show n+1-done.length=(n-done.length)+1 from by omega]at b2
   have hset:=Lj (l:=done.map fun w=>Value.string (aW w)) (k:=n-done.length) (z:=Value.string ⟨#[]⟩) (v:=.string (aW p))
   rw[dx]at hset;rw[N6];refine kI b2 (by simp) hset fun J b3 F=>⟨⟨by omega,by omega⟩,GE ?_⟩
   have L:(aW (p++c::q)).extract (p.length+1) (p.length+(q.length+1))=aW q:=by
    have:=N5 (p++ [c]) q (p.length+(q.length+1)) (by simp<;>omega)
    rw[aH]at this;simpa using this
   rw[L,dw (n:=n) A (by omega)];refine Q (done++ [p],q) _ _ ⟨by simp,?_,by simp only;omega,?_,?_,u.tr F⟩ (by simp only;omega)
   ·rw[List.count_append,List.count_cons_self,C]at hc
    simp only[ah,bw];omega
   ·rw[b,Gu H,aH];rfl
   ·simp only[fV,cD,List.map_nil,ah,bw]
    rw[show n+1-(done.length+1)=n-done.length from by omega];exact b3
  ·have hd:done.length=n:=by have:¬(done.length:Int)<(n:Int):=E;omega
   have d:c∉r:=List.count_eq_zero.1 (by omega);refine V _ _ ⟨done,r,rfl,hd,d,by rw[b,C9 d],?_,u⟩
   rw[hd,show n+1-n=1 from by omega]at b2;exact b2
 ·rintro t f ⟨done,r,rfl,hd,d,b,b2,u⟩
  have hset:=Lj (l:=done.map fun w=>Value.string (aW w)) (k:=0) (z:=Value.string ⟨#[]⟩) (v:=.string (aW r))
  rw[dx]at hset;rw[show ac .i64 ((done.length:Int)+1)=((done.length+1:Nat):Int)from by rw[lz (by omega)];omega]
  simp only[ai];refine⟨⟨by omega,by omega⟩,_,rfl,kI b2 (by simp) hset fun J b3 F=>⟨⟨by omega,by omega⟩,GE (GE (GE ?_))⟩⟩
  refine U J _ ⟨?_,Fy,by simp only;omega,.inr ⟨h.size,[],?_,ax _,?_,?_⟩⟩ ((k1.trans u fun y j=>.inr (by have j:y=h.size:=j;omega)).trans F fun y j=>.inr (by have j:y=h.size:=j;omega))
  ·rw[b];simp
  ·show aN (some (aJ h)) 0 (n+1) 1=_
   unfold aN;rw[if_neg (by omega)];rfl
  ·rw[b,L3];simpa using b3
  ·simp only[List.length_nil];omega
end Go.Proofs
namespace Go.Proofs
open Go.Lift
abbrev u32(x:Int):List Value:= [.int .u32 x]
theorem xr(x:Int):(u32 x).length=1∧0<1:=⟨rfl,oa⟩
abbrev Nums(W:Nat→Prop)(h:ad)(s:SliceV)(xs:List Int):Prop:=Sl u32 1 W h s xs
theorem Nums.at{W:Nat→Prop}{h:ad}{s:SliceV}{xs:List Int}(b:Nums W h s xs){i:Nat}(hi:i<xs.length):∃a,s.a=some a∧¬W a.block∧aC h (adr a (((i:Int)).toNat*1))=some (.int .u32 xs[i]):=
 b.at0 (g:=fun x=>.int .u32 x) (ag hi)
theorem JT{W:Nat→Prop}{s:SliceV}{xs:List Int}{k:Value}{p:Int→Bool}(St:ad→Prop)(g:∀h,St h→Nums W h s xs)
  (z:∀h x (K:Bool→ad→Prop),St h→x∈xs→(∀h',St h'→K (p x) h')→HV PG k [.int .u32 x] [.c .bool] K h)
  (q:xs.length≤4611686018427387904){h:ad}(y:St h){K:Int→ad→Prop}(o:∀(n:Int) h',St h'→(n≥0↔∃x∈xs,p x=true)→K n h'):
  HC PG ff [.slice s.a s.len s.cap,k] [.c (.int .i64)] K h:=by
 refine kP s k ?_;unfold gN bL dE;refine LoopP.ghost (fun(i:Nat) (t:Int) h'=>t=(i:Int)∧St h'∧i≤xs.length∧∀x∈xs.take i,p x=false) (fun i=>xs.length-i) 0 ⟨rfl,y,be _,by simp⟩ ?_
 rintro I i t h' ⟨rfl,e,hi,m⟩ v;have d:=g _ e;refine aK (fun b=>?_) (fun j=>?_)
 ·rw[d.len]at b
  have b:i<xs.length:=by omega
  obtain⟨a,w,_,hx⟩:=Nums.at d b;refine⟨by rw[d.len];omega,a,w,_,hx,?_⟩;refine z _ _ _ e (bp b) fun A c=>?_
  refine CondP.intro (fun u=>?_) (fun f=>?_)
  ·exact o _ _ c ⟨fun _=>⟨_,bp b,u⟩,fun _=>by omega⟩
  ·rw[dw b q]
   refine v (i+1) _ _ ⟨rfl,c,b,?_⟩ (by omega);rw[cA b];intro x hx;rcases bM.1 hx with h|h
   ·exact m x h
   ·rw[aM.1 h];exact f
 ·rw[d.len]at j
  have:i=xs.length:=by omega
  subst this;rw[bf]at m;exact o _ _ e ⟨fun h=>by omega,fun⟨x,hx,h⟩=>by rw[m x hx]at h;cases h⟩
theorem Ev{W:Nat→Prop}{s:SliceV}{xs:List Int}{c:Value}{p:Int→Bool}(St:ad→Prop)(b:∀h,St h→Nums W h s xs)
  (g:∀h x (K:Bool→ad→Prop),St h→x∈xs→(∀h',St h'→K (p x) h')→HV PG c [.int .u32 x] [.c .bool] K h)
  (a:xs.length≤4611686018427387904){h:ad}(e:St h){K:Bool→ad→Prop}(f:∀h',St h'→K (xs.any p) h'):
  HC PG fX [.slice s.a s.len s.cap,c] [.c .bool] K h:=by
 refine pv s c ?_;unfold jy;refine JT St b g a e fun n h' d a=>?_
 have:decide (n≥0)=xs.any p:=by
  rw[Bool.eq_iff_iff,decide_eq_true_iff,a,bZ]
 rw[this];exact f _ d
theorem Te{W:Nat→Prop}{h:ad}{s:SliceV}{xs:List Int}(d:Nums W h s xs)(j:xs.length*4≤140737488355328){K:SliceV→ad→Prop}
  (i:∀s' h',OwnS u32 1 mE (fun b=>h.size≤b) h' s' xs→Upd No h h'→(s.a=none→xs= [])→K s' h'):HC PG jt [.slice s.a s.len s.cap] [.c .slice] K h:=by
 refine uZ s ?_;unfold nn;refine CondP.intro (fun g=>?_) (fun c=>?_)
 ·have g:s.a=none:=by simpa using g
  have hx:xs= []:=by
   by_cases hx:xs= []
   ·exact hx
   ·obtain⟨a,k,_⟩:=d.row hx
    rw[g]at k;cases k
  subst hx;exact i _ _ (OwnS.nil xr) (Upd.refl _ _) fun _=>rfl
 ·have m:=d.upd (Upd.hnew No h [] mE) (fun _ h=>h.elim)
  refine⟨_,m.srow,?_⟩;refine AppP.own (f:=u32) (M:=fun b=>h.size≤b) (xs:= []) (ys:=xs) ⟨rfl,xr,ax _,.inl rfl⟩ d.len rfl ?_ rfl (by omega) (by simpa using j) (by rw[fM];omega) fun s' h' p o=>?_
  ·clear i d m j
   induction xs with
   |nil=>rfl
   |cons x xs ih=>rw[bD];exact ih
  ·refine i _ _ p ((Upd.hnew No h [] mE).trans o fun b n=>.inr n) fun e=>?_
   rw[e]at c;cases c
end Go.Proofs
namespace Go.Proofs
open Go.Lift
abbrev KE:KeyE Int:=X2 .u32
abbrev gi:=List (Int×List Int)
def Rep(W:Nat→Prop)(h:ad)(m:List (Int×SliceV))(L:gi):Prop:=
 ∀id,(∃s ps,dB m id=some s∧dB L id=some ps∧Nums W h s ps)∨(dB m id=none∧dB L id=none)
structure GraphAt(W:Nat→Prop)(h:ad)(gp gm:Nat)(L:gi)(nx:Int):Prop where
 blk:h[gp]? =some (.cells #[.map (some gm),.int .u32 nx] p9 (0,0))
 map:∃m,MapAt KE sv h gm m∧Rep W h m L
 wp:W gp
 wm:W gm
 lt:∀b,W b→b<h.size
 nd:(L.map (·.1)).Nodup
theorem Rep.upd{W M:Nat→Prop}{h h':ad}{m:List (Int×SliceV)}{L:gi}(r:Rep W h m L)(k:Upd M h h')(hm:∀b,M b→W b∨h.size≤b):Rep W h' m L:=fun id=>by
 rcases r id with⟨s,ps,a,d,c⟩|e
 ·exact .inl ⟨s,ps,a,d,c.upd k hm⟩
 ·exact .inr e
theorem GraphAt.upd{W M:Nat→Prop}{h h':ad}{gp gm:Nat}{L:gi}{nx:Int}(g:GraphAt W h gp gm L nx)(k:Upd M h h')(hm:∀b,M b→(W b∧b≠gp∧b≠gm)∨h.size≤b):GraphAt W h' gp gm L nx:=by
 have a:=g.lt;have f:¬M gp:=fun e=>(hm _ e).elim (fun e=>e.2.1 rfl) fun e=>absurd (a _ g.wp) (ir.2 e)
 have j:¬M gm:=fun e=>(hm _ e).elim (fun e=>e.2.2 rfl) fun e=>absurd (a _ g.wm) (ir.2 e)
 obtain⟨m,d,i⟩:=g.map;exact⟨k.get g.blk f,⟨m,d.upd k j,i.upd k fun b c=>(hm b c).imp (·.1) id⟩,g.wp,g.wm,fun b c=>aF (a b c) k.size,g.nd⟩
theorem GraphAt.upd0{W:Nat→Prop}{h h':ad}{gp gm:Nat}{L:gi}{nx:Int}(g:GraphAt W h gp gm L nx)(k:Upd No h h'):GraphAt W h' gp gm L nx:=g.upd k fun _ h=>h.elim
theorem GraphAt.c0{W:Nat→Prop}{h:ad}{gp gm:Nat}{L:gi}{nx:Int}(g:GraphAt W h gp gm L nx):aC h ⟨gp,0,none⟩=some (.map (some gm)):=by rw[aP g.blk];rfl
theorem GraphAt.c1{W:Nat→Prop}{h:ad}{gp gm:Nat}{L:gi}{nx:Int}(g:GraphAt W h gp gm L nx):aC h ⟨gp,1,none⟩=some (.int .u32 nx):=by rw[aP g.blk];rfl
abbrev ids(L:gi):List Int:=L.map (·.1)
theorem SI{L:gi}{id:Int}:(dB L id).isSome=decide (id∈ids L):=by
 cases h:dB L id with
 |none=>rw[decide_eq_false (pS.1 h)];rfl
 |some v=>
  have:id∈ids L:=by
   by_cases hm:id∈ids L
   ·exact hm
   ·rw[pS.2 hm]at h;cases h
  rw[decide_eq_true this];rfl
theorem Rep.some{W:Nat→Prop}{h:ad}{m:List (Int×SliceV)}{L:gi}(r:Rep W h m L)(id:Int):(dB m id).isSome=decide (id∈ids L):=by
 rw[←SI];rcases r id with⟨s,ps,a,b,_⟩|⟨a,b⟩<;>rw[a,b]<;>rfl
theorem Rep.len{W:Nat→Prop}{h:ad}{m:List (Int×SliceV)}{L:gi}(r:Rep W h m L)(a:(m.map (·.1)).Nodup)(c:(ids L).Nodup):m.length=L.length:=by
 have:(m.map (·.1)).Perm (ids L):=by
  rw[List.perm_ext_iff_of_nodup a c];intro id;have:=r.some id;have b:id∈m.map (·.1)↔(dB m id).isSome=true:=by
   cases hl:dB m id with
   |none=>simp[pS.1 hl]
   |some v=>
    simp only[Option.isSome_some,iff_true];by_cases hm:id∈m.map (·.1)
    ·exact hm
    ·rw[pS.2 hm]at hl;cases hl
  rw[b,this,decide_eq_true_iff]
 have:=this.length_eq;simpa using this
def Ya:List Int→Bool
 | [a,b]=>a==b
 |_=>false
def Bm(ps:List Int):Int:=if ps.length>2∨Ya ps=true then 1 else 0
def tS(L:gi)(ps:List Int):Int:=if ps.any (fun p=> !decide (p∈ids L))then 4 else if L.length≥1024 then 6 else 0
theorem Ph{W:Nat→Prop}{h:ad}{gp gm:Nat}{L:gi}{nx:Int}(g:GraphAt W h gp gm L nx)(id:Int){K:Bool→ad→Prop}(a:K (decide (id∈ids L)) h):
  HC PG lr [.pointer (some ⟨gp,0,none⟩),.int .u32 id] [.c .bool] K h:=by
 refine B9 (some ⟨gp,0,none⟩) id ?_;unfold uA bL;obtain⟨m,hm,b⟩:=g.map;refine CondP.intro (fun e=>by cases e) fun _=>⟨_,rfl,_,g.c0,_,_,hm.get id ⟨none,0,0⟩,?_⟩
 rw[b.some id];exact a
theorem UJ{W:Nat→Prop}{h:ad}{p:Option Addr}{s:SliceV}{ps:List Int}(d:Nums W h s ps){K:Int→ad→Prop}(c:K (Bm ps) h):
  HC PG oV [.pointer p,.slice s.a s.len s.cap] [.c (.int .i64)] K h:=by
 refine B8 p s ?_;unfold uz bL dE;refine Join.plain (aK (fun k=>?_) fun j=>CondP.intro (fun f=>?_) fun b=>?_)
 ·rw[d.len]at k
  rw[show Bm ps=1 from if_pos (.inl (by omega))]at c
  exact aB.2 c
 ·rw[d.len]at f
  have f:ps.length=2:=by
   have:(ps.length:Int)=2:=by simpa using f
   omega
  obtain⟨a,n,_,hx⟩:=Nums.at d (i:=0) (by omega);obtain⟨a',m,_,o⟩:=Nums.at d (i:=1) (by omega);refine⟨by rw[d.len];omega,a,n,_,hx,by rw[d.len];omega,a',m,_,o,?_⟩
  have e:Bm ps=if(ps[0]==ps[1])=true then 1 else 0:=by
   match ps,f with
   | [x,y],_=>simp[Bm,Ya]
  rw[e]at c;exact CondP.intro (fun g=>by rw[if_pos g]at c;exact c) fun g=>by rw[if_neg (by rw[g];decide)]at c;exact c
 ·rw[d.len]at j b
  have b:ps.length≠2:=fun e=>by rw[e]at b;exact absurd b (by decide)
  have hd:Ya ps=false:=by
   match ps,b with
   | [],_=>rfl
   | [_],_=>rfl
   | [_,_],h=>exact absurd rfl h
   |_::_::_::_,_=>rfl
  rw[show Bm ps=0 from if_neg (by rw[hd];simp;omega)]at c
  exact aj.2 c
theorem SM{W:Nat→Prop}{h:ad}{gp gm:Nat}{L:gi}{nx:Int}(g:GraphAt W h gp gm L nx){s:SliceV}{ps:List Int}(t:Nums W h s ps)(n:ps.length≤4611686018427387904)
  {K:Int→ad→Prop}(b:∀h',Upd No h h'→K (tS L ps) h'):HC PG nS [.pointer (some ⟨gp,0,none⟩),.slice s.a s.len s.cap] [.c (.int .i64)] K h:=by
 refine AQ (some ⟨gp,0,none⟩) s ?_;unfold tB bL;have i:=Upd.hnew No h [.pointer (some ⟨gp,0,none⟩)] rh;refine Ev (p:=fun p=> !decide (p∈ids L)) (fun h'=>GraphAt W h' gp gm L nx∧Nums W h' s ps∧h'[h.size]? =some (.cells #[.pointer (some ⟨gp,0,none⟩)] rh (0,0))∧Upd No h h') (fun h' k=>k.2.1) ?_ n ⟨g.upd0 i,t.upd i fun _ h=>h.elim,bG h _ _,i⟩ ?_
 ·rintro h' x K ⟨c,e,f,a⟩ _ j
  refine HV.mk' (ym x ⟨h.size,0,none⟩ ?_);unfold qW CJ;refine⟨_,by rw[aP f];rfl,?_⟩
  exact Ph c x (j h' ⟨c,e,f,a⟩)
 ·rintro h' ⟨c,e,f,a⟩
  obtain⟨m,hm,q⟩:=c.map;refine CondP.intro (fun o=>?_) fun d=>?_
  ·rw[show tS L ps=4 from if_pos o]at b
   exact b h' a
  ·refine⟨_,by rw[cV,aP f];rfl,_,rfl,_,c.c0,_,hm.len,?_⟩
   rw[q.len hm.nodup c.nd];refine aK (fun v=>?_) fun u=>?_
   ·rw[show tS L ps=6 from(if_neg (by rw[d];decide)).trans (if_pos (by omega))]at b
    exact b h' a
   ·rw[show tS L ps=0 from(if_neg (by rw[d];decide)).trans (if_neg (by omega))]at b
    exact b h' a
end Go.Proofs
namespace Go.Proofs
open Go.Lift
def Bt(L:gi)(id:Int)(ps:List Int):gi:=L.takeWhile (fun v=>decide (v.1<id))++(id,ps)::L.dropWhile (fun v=>decide (v.1<id))
def ly(L:gi)(nx:Int)(ps:List Int):(Int×Int)×gi×Int:=
 if Bm ps≠0 then((0,Bm ps),L,nx)else if tS L ps≠0 then((0,tS L ps),L,nx)else if nx≥2147483648 then((0,6),L,nx)else((nx,0),Bt L nx ps,nx+1)
def VO(L:gi)(nx:Int)(id:Int)(ps:List Int):Int×gi×Int:=
 if Bm ps≠0∨id=0∨id≥2147483648∨ps.any (fun p=>decide (p≥id))=true then(1,L,nx)else if id∈ids L then(7,L,nx)else if tS L ps≠0 then(tS L ps,L,nx)else(0,Bt L id ps,if id+1>nx then id+1 else nx)
abbrev GI(a b:Nat):Nat→Prop:=fun x=>x=a∨x=b
theorem Jd{κ β:Type}[DecidableEq κ](l a:List (κ×β))(k:κ):dB (l++a) k=(dB l k).or (dB a k):=by
 induction l with
 |nil=>simp[dB]
 |cons p l ih=>
  obtain⟨k',u⟩:=p;simp only[List.cons_append,dB,ih];split<;>simp
theorem Qi{L:gi}{id:Int}{ps:List Int}(b:id∉ids L)(j:Int):dB (Bt L id ps) j=if j=id then some ps else dB L j:=by
 have c:∀p:Int×List Int→Bool,dB L j=(dB (L.takeWhile p) j).or (dB (L.dropWhile p) j):=fun p=>by rw[←Jd,List.takeWhile_append_dropWhile]
 unfold Bt;rw[Jd];simp only[dB];by_cases a:j=id
 ·subst a
  have:dB (L.takeWhile fun v=>decide (v.1<j)) j=none:=pS.2 fun hm=>b (by
   obtain⟨x,hx,e⟩:=cL.1 hm
   exact cL.2 ⟨x,List.takeWhile_subset _ hx,e⟩)
  rw[this];simp
 ·simp only[a,if_false]
  exact(c _).symm
theorem yG(L:gi)(id:Int)(ps:List Int):(Bt L id ps).Perm ((id,ps)::L):=by
 unfold Bt;refine List.perm_middle.trans ?_;rw[List.takeWhile_append_dropWhile]
theorem insV_ids{L:gi}{id:Int}{ps:List Int}:(ids (Bt L id ps)).Perm (id::ids L):=(yG L id ps).map _
theorem NW{L:gi}{id:Int}{ps:List Int}(h:(ids L).Nodup)(a:id∉ids L):(ids (Bt L id ps)).Nodup:=by
 rw[insV_ids.nodup_iff];exact nJ.2 ⟨a,h⟩
theorem Rep.put{W:Nat→Prop}{h h':ad}{m:List (Int×SliceV)}{L:gi}(r:Rep W h m L){id:Int}{s:SliceV}{ps:List Int}(f:∀s xs,Nums W h s xs→Nums W h' s xs)(e:Nums W h' s ps)(b:id∉ids L):Rep W h' (oY m id s) (Bt L id ps):=fun j=>by
 rw[QM,Qi b];by_cases a:j=id
 ·simp only[a,if_true];exact .inl ⟨s,ps,rfl,rfl,e⟩
 ·simp only[a,if_false]
  rcases r j with⟨s,ps,c,i,d⟩|g
  ·exact .inl ⟨s,ps,c,i,f s ps d⟩
  ·exact .inr g
theorem GraphAt.ne{W:Nat→Prop}{h:ad}{gp gm:Nat}{L:gi}{nx:Int}(g:GraphAt W h gp gm L nx):gm≠gp:=fun e=>by
 obtain⟨m,⟨ms,c,hm,_⟩,_⟩:=g.map;have:=hm.here;rw[e,g.blk]at this;cases this
theorem GraphAt.put{W:Nat→Prop}{h:ad}{gp gm:Nat}{L:gi}{nx:Int}(g:GraphAt W h gp gm L nx){id:Int}{s:SliceV}{ps:List Int}(n:Nums W h s ps)(o:id∉ids L)(j:Int):
  GraphAt W (hset (me h gm (.int .u32 id) (sv s)) ⟨gp,1,none⟩ (.int .u32 j)) gp gm (Bt L id ps) j∧Upd (GI gp gm) h (hset (me h gm (.int .u32 id) (sv s)) ⟨gp,1,none⟩ (.int .u32 j))∧
   Wr (me h gm (.int .u32 id) (sv s)) ⟨gp,1,none⟩∧aC (me h gm (.int .u32 id) (sv s)) ⟨gp,1,none⟩=some (.int .u32 nx)∧Upd (GI gp gm) h (me h gm (.int .u32 id) (sv s)):=by
 obtain⟨m,hm,q⟩:=g.map;have i:=g.ne;have k1:Upd (· =gm) h (me h gm (.int .u32 id) (sv s)):=vm h _ _ rfl
 have a:=k1.get g.blk (Ne.symm i);have p:Upd (· =gp) (me h gm (.int .u32 id) (sv s)) (hset (me h gm (.int .u32 id) (sv s)) ⟨gp,1,none⟩ (.int .u32 j)):=Upd.hset _ _ rfl
 have f:Upd (GI gp gm) h (me h gm (.int .u32 id) (sv s)):=k1.mono fun b d=>.inl (.inr d)
 have k:Upd (GI gp gm) h (hset (me h gm (.int .u32 id) (sv s)) ⟨gp,1,none⟩ (.int .u32 j)):=f.trans p fun b d=>.inl (.inl d)
 have c:∀b,GI gp gm b→W b∨h.size≤b:=fun b d=>.inl (d.elim (fun e=>e▸g.wp) fun e=>e▸g.wm)
 refine⟨⟨?_,⟨_,(MapAt.put hm id s).upd p i,q.put (fun s xs n=>n.upd k c) (n.upd k c) o⟩,g.wp,g.wm,fun b d=>aF (g.lt b d) k.size,NW g.nd o⟩,k,ij a (by simp),by rw[aP a];rfl,f⟩
 rw[F5 a,iB a];rfl
theorem UK{W:Nat→Prop}{h:ad}{gp gm:Nat}{L:gi}{nx:Int}(g:GraphAt W h gp gm L nx)(B:0≤nx)(o:nx∉ids L){s:SliceV}{ps:List Int}(t:Nums W h s ps)(v:ps.length*4≤140737488355328)
  {K:Int×Int→ad→Prop}(d:∀h',Upd (GI gp gm) h h'→GraphAt W h' gp gm (ly L nx ps).2.1 (ly L nx ps).2.2→K (ly L nx ps).1 h'):
  HC PG oW [.pointer (some ⟨gp,0,none⟩),.slice s.a s.len s.cap] [.c (.int .u32),.c (.int .i64)] K h:=by
 refine Ca (some ⟨gp,0,none⟩) s ?_;unfold uB bL ci eW Hh;refine CondP.intro (fun e=>by cases e) fun _=>UJ t ?_
 refine CondP.intro (fun a=>?_) fun a=>?_
 ·have a:Bm ps≠0:=by simpa using a
  rw[show ly L nx ps=_ from if_pos a]at d
  exact d h (Upd.refl _ _) g
 ·have a:¬Bm ps≠0:=by simpa using a
  refine SM g t (by omega) fun h' f=>?_
  refine CondP.intro (fun c=>?_) fun c=>?_
  ·have c:tS L ps≠0:=by simpa using c
   rw[show ly L nx ps=_ from(if_neg a).trans (if_pos c)]at d
   exact d h' f.wide (g.upd0 f)
  ·have c:¬tS L ps≠0:=by simpa using c
   have i:=g.upd0 f;have u:=t.upd f fun _ h=>h.elim
   refine⟨_,rfl,_,i.c1,aK (fun n=>?_) fun n=>?_⟩
   ·rw[show ly L nx ps=_ from(if_neg a).trans ((if_neg c).trans (if_pos n))]at d
    exact d h' f.wide i
   ·refine⟨_,rfl,_,i.c1,_,rfl,_,i.c0,Te u v fun s' q D j _=>?_⟩
    have p:=i.upd0 j;obtain⟨m,hm,E⟩:=p.map;have k:Nums W q s' ps:=D.sl fun b x _ A=>absurd (i.lt b A) (ir.2 x)
    obtain⟨C,w,y,z,_⟩:=p.put k o (nx+1);refine⟨p.c0,_,rfl,hm.isMap,_,rfl,_,z,_,rfl,y,?_⟩;rw[show ac .u32 (nx+1)=nx+1 from Go.IntWalk.u32_in _ (by omega)]
    rw[show ly L nx ps=_ from(if_neg a).trans ((if_neg c).trans (if_neg n))]at d
    exact d _ ((f.wide.tr j.wide).tr w) C
end Go.Proofs
namespace Go.Proofs
open Go.Lift
theorem UI{h:ad}{K:Option Addr→ad→Prop}(e:∀h',Upd No h h'→GraphAt (GI (h.size+1) h.size) h' (h.size+1) h.size [] 1→K (some ⟨h.size+1,0,none⟩) h'):
  HC PG dz [] [.c .ptr] K h:=by
 refine MA ?_;unfold Ed;have k1:=Upd.push No h (.map #[] 0);have hm:MapAt KE sv (h.push (.map #[] 0)) h.size []:=MapAt.new h;have c:=Upd.hnew No (h.push (.map #[] 0)) [.map (some h.size),.int .u32 1] p9;have a:(h.push (.map #[] 0)).size=h.size+1:=by simp
 have:=e _ (k1.tr c) ⟨by
  have:=bG (h.push (.map #[] 0)) [.map (some h.size),.int .u32 1] p9
  rw[a]at this;exact this,⟨[],hm.upd c id,fun id=>.inr ⟨rfl,rfl⟩⟩,.inl rfl,.inr rfl,fun b d=>by rw[fM,a];rcases d with rfl|rfl<;>omega,List.nodup_nil⟩
 rw[←a]at this;exact this
end Go.Proofs
namespace Go.Proofs
open Go.Lift
abbrev parV(L:gi)(id:Int):List Int:=(dB L id).getD []
inductive UpG(L:gi):Int→Int→Prop
 |refl {a:Int}:a∈ids L→UpG L a a
 |step {a p b:Int}:a∈ids L→p∈parV L a→UpG L p b→UpG L a b
theorem UpG.left{L:gi}{a b:Int}(h:UpG L a b):a∈ids L:=by cases h<;>assumption
theorem GraphAt.more{W Q:Nat→Prop}{c h:ad}{gp gm:Nat}{L:gi}{nx:Int}(g:GraphAt W c gp gm L nx)(k:Upd No c h)(d:∀b,Q b→c.size≤b∧b<h.size):GraphAt (fun b=>W b∨Q b) h gp gm L nx:=by
 obtain⟨m,hm,n⟩:=g.map;refine⟨k.get0 g.blk,⟨m,hm.upd k id,fun j=>?_⟩,.inl g.wp,.inl g.wm,fun b a=>a.elim (fun a=>aF (g.lt b a) k.size) fun a=>(d b a).2,g.nd⟩
 rcases n j with⟨s,ps,e,i,f⟩|c
 ·exact .inl ⟨s,ps,e,i,(f.less fun b a=>a.imp id fun a=>(d b a).1).upd k fun _ h=>h.elim⟩
 ·exact .inr c
theorem GraphAt.less{W W':Nat→Prop}{h:ad}{gp gm:Nat}{L:gi}{nx:Int}(g:GraphAt W h gp gm L nx)(e:∀b,W' b→W b)(a:W' gp)(d:W' gm):GraphAt W' h gp gm L nx:=by
 obtain⟨m,hm,k⟩:=g.map;refine⟨g.blk,⟨m,hm,fun j=>?_⟩,a,d,fun b c=>g.lt b (e b c),g.nd⟩
 rcases k j with⟨s,ps,a,d,f⟩|i
 ·exact .inl ⟨s,ps,a,d,f.less fun b c=>.inl (e b c)⟩
 ·exact .inr i
end Go.Proofs
namespace Go.Proofs
open Go.Lift
structure Small(L:gi):Prop where
 two:∀v∈L,v.2.length≤2
 len:L.length≤100000
end Go.Proofs
namespace Go.Proofs
open Go.Lift
structure Good(L:gi):Prop extends Small L where
 up:(ids L).Pairwise (· < ·)
 par:∀v∈L,∀p∈v.2,p∈ids L∧p<v.1
theorem Good.nd{L:gi}(g:Good L):(ids L).Nodup:=g.up.imp fun h=>Int.ne_of_lt h
theorem Good.parV{L:gi}(g:Good L){a p:Int}(h:p∈parV L a):p∈ids L∧p<a∧a∈ids L:=by
 unfold Proofs.parV at h;cases hl:dB L a with
 |none=>rw[hl]at h;simp at h
 |some ps=>
  rw[hl]at h;have hm:=(Jc g.nd).1 hl;have:=g.par _ hm p (by simpa using h);exact⟨this.1,this.2,cL.2 ⟨_,hm,rfl⟩⟩
theorem UpG.snoc{L:gi}{a z w:Int}(h:UpG L a z)(b:w∈Proofs.parV L z)(hi:w∈ids L):UpG L a w:=by
 induction h with
 |refl h1=>exact .step h1 b (.refl hi)
 |step h1 h2 _ ih=>exact .step h1 h2 (ih b)
theorem UpG.right{L:gi}{a b:Int}(h:UpG L a b):b∈ids L:=by
 induction h with
 |refl h=>exact h
 |step _ _ _ ih=>exact ih
theorem UpG.last{L:gi}{a b:Int}(h:UpG L a b):b=a∨∃z,UpG L a z∧b∈Proofs.parV L z:=by
 induction h with
 |refl _=>exact .inl rfl
 | @step a p b h1 h2 h3 ih=>
  rcases ih with rfl|⟨z,c,d⟩
  ·exact .inr ⟨a,.refl h1,h2⟩
  ·exact .inr ⟨z,.step h1 h2 c,d⟩
theorem UpG.trans{L:gi}{a b c:Int}(h:UpG L a b)(k:UpG L b c):UpG L a c:=by
 induction h with
 |refl _=>exact k
 |step h1 h2 _ ih=>exact .step h1 h2 (ih k)
end Go.Proofs
namespace Go.Proofs
open Go.Lift
structure Inv(L:gi)(nx:Int):Prop where
 good:Good L
 pos:∀id∈ids L,1≤id∧id<nx
 nx1:1≤nx
 nx2:nx≤2147483648
 few:L.length≤1024
theorem Inv.nil:Inv [] 1:=⟨⟨⟨fun v a=>(by cases a),by simp⟩,jo,fun v a=>(by cases a)⟩,fun v a=>(by cases a),by omega,by omega,by simp⟩
theorem Kc{id:Int}:∀{L:gi},(ids L).Pairwise (· < ·)→id∉ids L→∀v∈L.dropWhile (fun v=>decide (v.1<id)),id<v.1
 | [],_,_,v,a=>by cases a
 |u::L,hp,hn,v,a=>by
  simp only[ids,cD,bS,aA,not_or]at hp hn;rw[List.dropWhile_cons]at a;split at a
  ·exact Kc hp.2 hn.2 v a
  ·rename_i h
   have h:¬u.1<id:=by simpa using h
   rcases aA.1 a with rfl|a
   ·omega
   ·have:=hp.1 v.1 (cL.2 ⟨v,a,rfl⟩);omega
theorem O1{id:Int}:∀{L:gi},∀v∈L.takeWhile (fun v=>decide (v.1<id)),v.1<id
 | [],v,a=>by cases a
 |u::L,v,a=>by
  rw[List.takeWhile_cons]at a;split at a
  ·rename_i h
   rcases aA.1 a with rfl|a
   ·simpa using h
   ·exact O1 v a
  ·cases a
theorem II{L:gi}(g:Good L){id:Int}{ps:List Int}(f:id∉ids L)(i:∀p∈ps,p∈ids L∧p<id)(k:ps.length≤2)(m:L.length<100000):Good (Bt L id ps):=by
 have a:=yG L id ps;refine⟨⟨fun v b=>?_,by rw[a.length_eq];simp;omega⟩,?_,fun v b p c=>?_⟩
 ·rcases aA.1 (a.mem_iff.1 b)with rfl|b
  ·exact k
  ·exact g.two v b
 ·unfold Bt ids
  rw[fV,cD,eJ];refine⟨(g.up.sublist ((List.takeWhile_sublist _).map _)),bS.2 ⟨fun y d=>?_,g.up.sublist ((List.dropWhile_sublist _).map _)⟩,fun x hx y d=>?_⟩
  ·obtain⟨v,b,rfl⟩:=cL.1 d
   exact Kc g.up f v b
  ·obtain⟨u,j,rfl⟩:=cL.1 hx
   have e:=O1 u j;rcases aA.1 d with rfl|d
   ·exact e
   ·obtain⟨v,b,rfl⟩:=cL.1 d
    have:=Kc g.up f v b;omega
 ·rw[insV_ids.mem_iff]
  rcases aA.1 (a.mem_iff.1 b)with rfl|b
  ·exact⟨bj _ (i p c).1,(i p c).2⟩
  ·have:=g.par v b p c
   exact⟨bj _ this.1,this.2⟩
theorem Gb{L:gi}{ps:List Int}(h:tS L ps=0):(∀p∈ps,p∈ids L)∧L.length<1024:=by
 unfold tS at h;split at h
 ·cases h
 ·rename_i h1
  split at h
  ·cases h
  ·rename_i h2
   refine⟨fun p a=>?_,by omega⟩
   by_cases hm:p∈ids L
   ·exact hm
   ·exact absurd (bZ.2 ⟨p,a,by simpa using hm⟩) h1
theorem Iz{ps:List Int}(h:Bm ps=0):ps.length≤2:=by
 unfold Bm at h;split at h
 ·cases h
 ·rename_i h1
  have:=not_or.1 h1;omega
theorem Inv.add{L:gi}{nx:Int}(v:Inv L nx)(ps:List Int):Inv (ly L nx ps).2.1 (ly L nx ps).2.2:=by
 unfold ly;split
 ·exact v
 ·rename_i b
  split
  ·exact v
  ·rename_i e
   split
   ·exact v
   ·rename_i h3
    have b:Bm ps=0:=by omega
    have e:tS L ps=0:=by omega
    obtain⟨c,g⟩:=Gb e;have f:nx∉ids L:=fun hm=>by have:=(v.pos nx hm).2;omega
    show Inv (Bt L nx ps) (nx+1)
    refine⟨II v.good f (fun p d=>⟨c p d,(v.pos p (c p d)).2⟩) (Iz b) (by have:=v.few;omega),fun id a=>?_,by have:=v.nx1;omega,by omega,?_⟩
    ·rcases aA.1 (insV_ids.mem_iff.1 a)with rfl|h
     ·have:=v.nx1;omega
     ·have:=v.pos id h;omega
    ·rw[(yG L nx ps).length_eq];simp;omega
theorem Inv.put{L:gi}{nx:Int}(v:Inv L nx){id:Int}(o:0≤id)(ps:List Int):Inv (VO L nx id ps).2.1 (VO L nx id ps).2.2:=by
 unfold VO;split
 ·exact v
 ·rename_i b
  have b:=not_or.1 b;have g:=b.1;have d:=not_or.1 b.2;have c:=not_or.1 d.2;split
  ·exact v
  ·rename_i h2
   split
   ·exact v
   ·rename_i e
    have k:Bm ps=0:=by omega
    have e:tS L ps=0:=by omega
    obtain⟨i,q⟩:=Gb e;have n:=v.nx1;refine⟨II v.good h2 (fun p f=>⟨i p f,?_⟩) (Iz k) (by have:=v.few;omega),fun j m=>?_,by simp only;split<;>omega,?_,?_⟩
    ·by_cases a:p<id
     ·exact a
     ·exact absurd (bZ.2 ⟨p,f,by simpa using a⟩) c.2
    ·rcases aA.1 (insV_ids.mem_iff.1 m)with rfl|h
     ·simp only;split<;>omega
     ·have:=v.pos j h;simp only;split<;>omega
    ·have:=v.nx2;simp only;split<;>omega
    ·rw[(yG L id ps).length_eq];simp;omega
theorem Inv.drop{L:gi}{nx:Int}(v:Inv L nx){keep st:List Int}(c:∀y,y∈st↔∃k∈keep,UpG L k y):Inv (L.filter fun v=>decide (v.1∈st)) nx:=by
 have a:∀id,id∈ids (L.filter fun v=>decide (v.1∈st))↔id∈ids L∧id∈st:=fun id=>by
  unfold ids;simp only[cL,dH,decide_eq_true_iff];constructor
  ·rintro⟨u,⟨b,d⟩,rfl⟩;exact⟨⟨u,b,rfl⟩,d⟩
  ·rintro⟨⟨u,b,rfl⟩,d⟩;exact⟨u,⟨b,d⟩,rfl⟩
 refine⟨⟨⟨fun u e=>v.good.two u (dH.1 e).1,bH (gb ..) v.good.len⟩,v.good.up.sublist ((List.filter_sublist).map _),fun u e p j=>?_⟩,fun id g=>v.pos id ((a id).1 g).1,v.nx1,v.nx2,bH (gb ..) v.few⟩
 obtain⟨b,d⟩:=dH.1 e;obtain⟨i,m⟩:=v.good.par u b p j;refine⟨(a p).2 ⟨i,?_⟩,m⟩;obtain⟨k,n,f⟩:=(c _).1 (of_decide_eq_true d);refine(c p).2 ⟨k,n,f.snoc ?_ i⟩;have:dB L u.1=some u.2:=(Jc v.good.nd).2 b;simp[parV,this,j]
end Go.Proofs
namespace Go.Proofs
open Go Go.Lift
def LR(t u:Tr):Bool:=(t.1==u.1)&&((((t.2.1==u.2.1)&&((t.2.2.1==u.2.2.1)&&true)))&&((t.2.2.2.1==u.2.2.2.1)&&true))
theorem RH{t u:Tr}{h:ad}{K:Bool→ad→Prop}(b:∀h',Upd No h h'→K (LR t u) h'):HC PG xL [PE t,PE u] [.c .bool] K h:=by
 refine Mq t u ?_;unfold D4 ar mc gx;refine cx fun d b1 k1=>cx fun c b2 a=>?_
 have c1:=a.get0 b1;refine⟨_,vc c1 0,_,vc b2 0,?_⟩;have:=b c (k1.tr a);unfold LR at this;rcases hb:(t.1==u.1)with _|_
 ·rw[hb]at this
  exact aj.2 this
 ·rw[hb]at this
  exact aB.2 ⟨_,yT c1 1 0,_,yT c1 1 1,_,yT c1 1 2,_,yT b2 1 0,_,yT b2 1 1,_,yT b2 1 2,this⟩
theorem TreeIs.plain{W:Nat→Prop}{h:ad}{kind:Int}{x:Hs}{t:Tr}{l:List Pr}(i:TreeIs W h kind x t l):(∀a,t.2.2.2.2.1=some a→gy h a)∧(∀a,t.2.2.2.2.2=some a→gy h a):=by
 rcases i with⟨rfl,b,rfl,t⟩|⟨rfl,b,rfl,t⟩
 ·obtain⟨s,nd,_⟩:=t
  obtain⟨d,n,sp,sk,ow,e,_⟩:=nd.ex;refine⟨fun a c=>?_,fun a c=>(by cases c)⟩
  cases c;exact⟨_,_,e,show 0<6 by decide⟩
 ·obtain⟨w,F,⟨val,s,ow,ks,e,_⟩,_⟩:=t.ex
  refine⟨fun a c=>(by cases c),fun a c=>?_⟩
  cases c;exact⟨_,_,e,show 0<5 by decide⟩
end Go.Proofs
namespace Go.Proofs
open Go Go.Lift
abbrev kStr:KeyE ByteArray:=⟨fun s=>.string s,.str,fun x=>⟨x,rfl⟩,fun x y=>⟨fun e=>wQ e,fun e=>by subst e;exact ye x⟩⟩
abbrev TD:=Tr×List Pr
abbrev Xm(d:TD):Value:=PE d.1
abbrev UE(n:Int):Value:=.int .u32 n
structure VS where
 gp:Nat
 gm:Nat
 tm:Nat
 bm:Nat
 nm:Nat
 kind:Int
 x:Hs
 e:Tr
 L:gi
 nx:Int
 D:List (Int×TD)
 B:List (ByteArray×Int)
 G:List (ByteArray×Int)
def VS.M(s:VS):Nat→Prop:=fun y=>y=s.gp∨y=s.gm∨y=s.tm∨y=s.bm∨y=s.nm
structure VaultAt(W:Nat→Prop)(h:ad)(vp:Nat)(s:VS):Prop where
 blk:h[vp]? =some (.cells (pu s.e++ [Value.pointer (some ⟨s.gp,0,none⟩),Value.map (some s.tm),Value.map (some s.bm),Value.map (some s.nm)]).toArray bV (0,0))
 g:GraphAt W h s.gp s.gm s.L s.nx
 t:MapAt KE Xm h s.tm s.D
 b:MapAt kStr UE h s.bm s.B
 n:MapAt kStr UE h s.nm s.G
 w:∀y,s.M y→W y
 wv:¬W vp
 ne: [s.gp,s.gm,s.tm,s.bm,s.nm].Nodup
 em:TreeIs W h s.kind s.x s.e []
 ts:∀d∈s.D,TreeIs W h s.kind s.x d.2.1 d.2.2∧eH d.2.2∧Fit d.2.2
 sub:∀id,id∈s.D.map (·.1)↔id∈ids s.L
 inv:Inv s.L s.nx
 kd:s.kind=0∨s.kind=1
theorem VaultAt.upd{W M:Nat→Prop}{h h':ad}{c:Nat}{s:VS}(v:VaultAt W h c s)(k:Upd M h h')(hm:∀b,M b→(W b∧¬s.M b)∨h.size≤b):VaultAt W h' c s:=by
 have f:∀y,s.M y→¬M y:=fun y j a=>(hm y a).elim (fun e=>e.2 j) fun e=>absurd (v.g.lt y (v.w y j)) (by omega)
 have i:∀b,M b→W b∨h.size≤b:=fun b a=>(hm b a).imp (·.1) id
 have m:¬M c:=fun a=>(hm c a).elim (fun e=>v.wv e.1) fun e=>absurd (bv v.blk) (by omega)
 exact⟨k.get v.blk m,v.g.upd k fun b a=>(hm b a).imp (fun e=>⟨e.1,fun g=>e.2 (.inl g),fun g=>e.2 (.inr (.inl g))⟩) id,v.t.upd k (f _ (.inr (.inr (.inl rfl)))),v.b.upd k (f _ (.inr (.inr (.inr (.inl rfl))))),v.n.upd k (f _ (.inr (.inr (.inr (.inr rfl))))),v.w,v.wv,v.ne,v.em.updM k i,fun d hd=>⟨(v.ts d hd).1.updM k i,(v.ts d hd).2⟩,v.sub,v.inv,v.kd⟩
theorem VaultAt.upd0{W:Nat→Prop}{h h':ad}{a:Nat}{s:VS}(v:VaultAt W h a s)(k:Upd No h h'):VaultAt W h' a s:=v.upd k fun _ h=>h.elim
end Go.Proofs
namespace Go.Proofs
open Go Go.Lift
end Go.Proofs
namespace Go.Proofs
open Go Go.Lift
section
variable {W:Nat→Prop} {h:ad} {vp:Nat} {s:VS}
abbrev pV(a:Nat):Value:=.pointer (some ⟨a,0,none⟩)
theorem TX(v:VaultAt W h vp s)(id:Int){K:Bool→ad→Prop}(a:K (decide (id=0∨id∈ids s.L)) h):HC PG oI [pV vp,.int .u32 id] [.c .bool] K h:=by
 refine BS (some ⟨vp,0,none⟩) id ?_;unfold uj gO CJ;refine CondP.intro (fun e=>?_) fun e=>⟨_,rfl,_,vc v.blk 6,Ph v.g id ?_⟩
 ·rw[decide_eq_true (.inl (by simpa using e))]at a;exact a
 ·have e:id≠0:=by simpa using e
  rw[show decide (id=0∨id∈ids s.L)=decide (id∈ids s.L)from by simp[e]]at a;exact a
theorem K7(v:VaultAt W h vp s)(n:ByteArray){K:Int×Bool→ad→Prop}(a:K ((dB s.B n).getD 0,(dB s.B n).isSome) h):HC PG kq [pV vp,.string n] [.c (.int .u32),.c .bool] K h:=by
 refine AG (some ⟨vp,0,none⟩) n ?_;unfold th bL;exact CondP.intro (fun e=>by cases e) fun _=>⟨_,rfl,_,vc v.blk 8,_,_,v.b.get n 0,a⟩
theorem Rk(v:VaultAt W h vp s)(id:Int){K:Tr×Int→ad→Prop}(i:id=0→∀h',Upd No h h'→K (s.e,0) h')(k:∀d,dB s.D id=some d→id≠0→∀h',Upd No h h'→K (d.1,0) h')(j:dB s.D id=none→id≠0→∀h',Upd No h h'→K (CD,4) h'):
  HC PG ik [pV vp,.int .u32 id] [.agg [.int .i64,.int .u64,.int .u64,.int .u64,.ptr,.ptr],.c (.int .i64)] K h:=by
 refine AF (some ⟨vp,0,none⟩) id ?_;unfold tg bL ar fe nv Ip gO ae ak pD mc gx xb Wo En;refine cx fun u b1 k1=>CondP.intro (fun e=>by cases e) fun _=>?_
 have c:=k1.get0 v.blk;refine CondP.intro (fun e=>⟨_,rfl,?_⟩) fun e=>⟨_,rfl,_,vc c 7,((dB s.D id).getD (CD,[])).1,_,(v.t.upd k1 fun h=>h).get id (CD,[]),cx fun q b2 p=>?_⟩
 ·refine⟨_,yT c 0 0,_,yT c 0 1,_,yT c 0 2,_,yT c 0 3,_,yT c 0 4,_,yT c 0 5,?_⟩
  refine cY (c:=pu CD) (vs:=pu s.e) b1 rfl fun q b2 n=>?_
  exact⟨_,vc b2 0,_,vc b2 1,_,vc b2 2,_,vc b2 3,_,vc b2 4,_,vc b2 5,i (by simpa using e) q (k1.own n (ax _))⟩
 ·have e:id≠0:=by simpa using e
  have w:=bv b1;have x:=k1.size;refine cY (c:=pu CD) (vs:=pu ((dB s.D id).getD (CD,[])).1) b2 rfl fun t b3 g=>?_
  have f:=g.oth (p.get0 b1) (by omega);have o:Upd No h t:=(k1.tr p).own g k1.size;cases hl:dB s.D id with
  |none=>
   refine aB.2 (cY (c:=pu CD) (vs:=pu CD) f rfl fun m a b=>?_)
   exact⟨_,vc a 0,_,vc a 1,_,vc a 2,_,vc a 3,_,vc a 4,_,vc a 5,j hl e m (o.own b (ax _))⟩
  |some d=>
   rw[hl]at b3;refine aj.2 ⟨_,vc b3 0,_,vc b3 1,_,vc b3 2,_,vc b3 3,_,vc b3 4,_,vc b3 5,?_⟩;refine cY (c:=pu CD) (vs:=pu d.1) f rfl fun m a b=>?_
   exact⟨_,vc a 0,_,vc a 1,_,vc a 2,_,vc a 3,_,vc a 4,_,vc a 5,k d hl e m (o.own b (ax _))⟩
theorem VaultAt.turn{M:Nat→Prop}{h':ad}{L:gi}{nx:Int}{D:List (Int×TD)}{B G:List (ByteArray×Int)}(v:VaultAt W h vp s)(k:Upd M h h')(hm:∀b,M b→W b∨h.size≤b)(g:GraphAt W h' s.gp s.gm L nx)(t:MapAt KE Xm h' s.tm D)(b:MapAt kStr UE h' s.bm B)(n:MapAt kStr UE h' s.nm G)
  (ts:∀d∈D,d∈s.D∨TreeIs W h' s.kind s.x d.2.1 d.2.2∧eH d.2.2∧Fit d.2.2)(sub:∀id,id∈D.map (·.1)↔id∈ids L)(inv:Inv L nx):VaultAt W h' vp {s with L:=L,nx:=nx,D:=D,B:=B,G:=G}:=by
 have a:¬M vp:=fun c=>(hm vp c).elim (fun e=>v.wv e) fun e=>absurd (bv v.blk) (by omega)
 exact⟨k.get v.blk a,g,t,b,n,v.w,v.wv,v.ne,v.em.updM k hm,fun d hd=>(ts d hd).elim (fun e=>⟨(v.ts d e).1.updM k hm,(v.ts d e).2⟩) id,sub,inv,v.kd⟩
end
end Go.Proofs
namespace Go.Proofs
open Go Go.Lift
def D2(b:UInt8):Bool:=decide (33≤b.toNat)&&decide (b.toNat≤126)
def vo(n:ByteArray):Bool:=decide (1≤n.size)&&decide (n.size≤32)&&n.data.toList.all D2
theorem Tk{b:UInt8}{h:ad}{K:Bool→ad→Prop}(a:K (!D2 b) h):HC PG rl [.int .u8 b.toNat] [.c .bool] K h:=by
 refine Ew b.toNat ?_;unfold wT;refine aK (fun e=>?_) fun e=>?_
 ·rw[show(!D2 b)=true from by simp[D2];omega]at a;exact a
 ·rw[show(!D2 b)=decide ((b.toNat:Int)>126)from by unfold D2;rw[decide_eq_true (by omega:33≤b.toNat),kX,←decide_not,decide_eq_decide];omega]at a;exact a
theorem H9{n:ByteArray}{h:ad}{K:Bool→ad→Prop}(f:∀h',Upd No h h'→K (vo n) h'):HC PG qk [.string n] [.c .bool] K h:=by
 refine HI n ?_;unfold zH;refine Join.plain (aK (fun e=>aB.2 ?_) fun e=>aK (fun e2=>?_) fun e2=>?_)
 ·rw[show vo n=false from by simp[vo];omega]at f;exact f _ (Upd.refl _ _)
 ·rw[show vo n=false from by simp[vo];omega]at f;exact f _ (Upd.refl _ _)
 ·refine fun c hc=>?_
  have k1:=Upd.push No h (.cells (cz n++bO (c-n.size) (Value.int .u8 0)).toArray kY (c,c+1));have b1:=oD h (.cells (cz n++bO (c-n.size) (Value.int .u8 0)).toArray kY (c,c+1));generalize h.push (.cells (cz n++bO (c-n.size) (Value.int .u8 0)).toArray kY (c,c+1))=h1 at k1 b1;have a:n.data.toList.length=n.size:=Array.length_toList;refine om ⟨some (aJ h),n.size,c⟩ _ ?_
  unfold iK;refine pU ⟨some (aJ h),n.size,c⟩ _ ?_;unfold jO bL dE;refine LoopP.ghost (fun(i:Nat) (t:Int) h'=>t=(i:Int)∧h'=h1∧i≤n.size∧∀b∈n.data.toList.take i,D2 b=true) (fun i=>n.size-i) 0 ⟨rfl,rfl,be _,by simp⟩ ?_
  rintro I i t h' ⟨rfl,rfl,hi,k⟩ m;refine aK (fun d=>?_) fun j=>?_
  ·have d:i<n.data.toList.length:=by rw[a];simp only at d;omega
   refine⟨by simp only;omega,aJ h,rfl,(n.data.toList[i].toNat:Int),?_,?_⟩
   ·rw[NY b1,List.getElem?_toArray,ai,Nat.mul_one,List.getElem?_append_left (by simp[cz];omega)]
    simp[cz,a▸d]
   ·refine HV.mk' (Tk (b:=n.data.toList[i]) (CondP.intro (fun e=>?_) fun e=>?_))
    ·rw[show vo n=false from ?_]at f
     ·rw[decide_eq_true (by omega)];exact f _ k1
     ·unfold vo
      rw[show n.data.toList.all D2=false from List.all_eq_false.2 ⟨_,bp d,by simpa using e⟩,Bool.and_false]
    ·rw[dw (n:=n.size) (by omega) (by omega)]
     refine m (i+1) _ _ ⟨rfl,rfl,by omega,?_⟩ (by omega)
     rw[cA d];intro b g;rcases bM.1 g with g|g
     ·exact k b g
     ·rw[aM.1 g];simpa using e
  ·have:i=n.size:=by simp only at j;omega
   subst this;rw[←a,bf]at k;rw[show vo n=true from by unfold vo;rw[List.all_eq_true.2 k];simp;omega]at f
   exact f _ k1
def yW(B:List (ByteArray×Int))(L:gi)(n:ByteArray)(id:Int)(no:Bool):Int:=if vo n=false then 1 else if(dB B n).isSome then 7 else if no|| !decide (id=0∨id∈ids L)then 4 else if B.length≥256 then 6 else 0
theorem U3{W:Nat→Prop}{h:ad}{d:Nat}{s:VS}(v:VaultAt W h d s){r:Nat}{B:List (ByteArray×Int)}(m:MapAt kStr UE h r B)(n:ByteArray)(id:Int)(no:Bool){K:Int→ad→Prop}
  (i:∀h',Upd (· =r) h h'→MapAt kStr UE h' r (if yW B s.L n id no=0 then oY B n id else B)→K (yW B s.L n id no) h'):HC PG oH [.map (some r),pV d,.string n,.int .u32 id,.bool no] [.c (.int .i64)] K h:=by
 refine BR (some r) (some ⟨d,0,none⟩) n id no ?_;unfold ui CJ;refine⟨_,_,m.get n 0,H9 fun g k1=>?_⟩
 have a:∀e h',yW B s.L n id no=e→e≠0→Upd No h h'→K e h':=fun e h' p u j=>by
  have:=i h' j.wide;rw[p,if_neg u]at this;exact this (m.upd j fun h=>h)
 refine CondP.intro (fun e=>a 1 g ?_ (by decide) k1) fun e=>CondP.intro (fun e2=>a 7 g ?_ (by decide) k1) fun e2=>?_
 ·unfold yW;rw[if_pos (by simpa using e)]
 ·unfold yW;rw[if_neg (by simpa using e),if_pos e2]
 ·have e:¬vo n=false:=by simpa using e
  have e2:¬(dB B n).isSome=true:=by simp[e2]
  refine Join.intro (fun t h'=>t=(no|| !decide (id=0∨id∈ids s.L))∧Upd No h h') (fun R o=>?_) ?_
  ·refine CondP.intro (fun b=>o _ _ ⟨by rw[b];rfl,k1⟩) fun b=>TX (v.upd0 k1) id (o _ _ ⟨by rw[b];rfl,k1⟩)
  ·rintro t f ⟨rfl,c⟩
   refine CondP.intro (fun b=>a 4 f ?_ (by decide) c) fun b=>⟨_,(m.upd c fun h=>h).len,aK (fun w=>a 6 f ?_ (by decide) c) fun w=>?_⟩
   ·unfold yW;rw[if_neg e,if_neg e2,if_pos b]
   ·unfold yW;rw[if_neg e,if_neg e2,if_neg (by rw[b];decide),if_pos (by omega)]
   ·have k:=m.upd c fun h=>h
    have q:yW B s.L n id no=0:=by unfold yW;rw[if_neg e,if_neg e2,if_neg (by rw[b];decide),if_neg (by omega)]
    refine⟨r,rfl,k.isMap,?_⟩;have:=i _ ((c.wide).tr (vm (M:=(· =r)) f (.string n) (.int .u32 id) rfl))
    rw[q,if_pos rfl]at this;exact this (k.put n id)
theorem VS.neB{s:VS}(h: [s.gp,s.gm,s.tm,s.bm,s.nm].Nodup):s.gp≠s.gm∧s.gp≠s.tm∧s.gp≠s.bm∧s.gp≠s.nm∧s.gm≠s.tm∧s.gm≠s.bm∧s.gm≠s.nm∧s.tm≠s.bm∧s.tm≠s.nm∧s.bm≠s.nm:=by
 simp only[nJ,aA,List.not_mem_nil,or_false,not_or]at h;exact⟨h.1.1,h.1.2.1,h.1.2.2.1,h.1.2.2.2,h.2.1.1,h.2.1.2.1,h.2.1.2.2,h.2.2.1.1,h.2.2.1.2,h.2.2.2.1⟩
theorem VaultAt.setB{W:Nat→Prop}{h h':ad}{f:Nat}{s:VS}{B:List (ByteArray×Int)}(v:VaultAt W h f s)(k:Upd (· =s.bm) h h')(b:MapAt kStr UE h' s.bm B):VaultAt W h' f {s with B:=B}:=by
 obtain⟨n,q,i,t,u,m,p,j,o,a⟩:=VS.neB v.ne;have g:∀b,b=s.bm→W b:=fun b e=>v.w b (.inr (.inr (.inr (.inl e))))
 exact v.turn k (fun b e=>.inl (g b e)) (v.g.upd k fun b e=>.inl ⟨g b e,fun c=>i (c.symm.trans e),fun c=>m (c.symm.trans e)⟩) (v.t.upd k j) b (v.n.upd k fun e=>a e.symm) (fun d hd=>.inl hd) v.sub v.inv
theorem MZ{W:Nat→Prop}{h:ad}{a:Nat}{s:VS}(v:VaultAt W h a s)(n:ByteArray)(id:Int){K:Int→ad→Prop}
  (c:∀h',Upd (· =s.bm) h h'→VaultAt W h' a {s with B:=if yW s.B s.L n id false=0 then oY s.B n id else s.B}→K (yW s.B s.L n id false) h'):HC PG lL [pV a,.string n,.int .u32 id] [.c (.int .i64)] K h:=by
 refine yh (some ⟨a,0,none⟩) n id ?_;unfold qR bL;exact CondP.intro (fun e=>by cases e) fun _=>⟨_,rfl,_,vc v.blk 8,U3 v v.b n id false fun h' b m=>c h' b (v.setB b m)⟩
end Go.Proofs
namespace Go.Proofs
open Go Go.Lift
abbrev MQ:=List (List UInt8)×Bool
def dP(s:MQ):List UInt8×MQ:=match s.1 with
 | []=>([],([],false))
 |w::ws=>(w,(ws,s.2))
def rC(s:MQ):List UInt8×MQ:=((rg (dP s).1).getD [],((dP s).2.1,(dP s).2.2&&(rg (dP s).1).isSome))
def j2(most:Nat)(s:MQ):Nat×MQ:=((uL (dP s).1).getD 0,((dP s).2.1,(dP s).2.2&&((uL (dP s).1).isSome&&decide ((uL (dP s).1).getD 0≤most))))
def oC(s:MQ):List UInt8×MQ:=((dP s).1,((dP s).2.1,(dP s).2.2&&vo (aW (dP s).1)))
abbrev rdC(sp:SliceV)(a:Bool):Array Value:= #[.slice sp.a sp.len sp.cap,.bool a]
structure RdAt(W:Nat→Prop)(h:ad)(b:Nat)(s:MQ):Prop where
 ex:∃sp:SliceV,h[b]? =some (.cells (rdC sp s.2) kT (0,0))∧Sl Lf 1 W h sp s.1∧sp.len≤sp.cap
 w:W b
 n:∀x∈s.1,x.length≤1000000
section
variable {W M:Nat→Prop} {h h':ad} {b:Nat} {s:MQ}
theorem RdAt.upd(r:RdAt W h b s)(k:Upd M h h')(c:¬M b)(hm:∀y,M y→W y∨h.size≤y):RdAt W h' b s:=
 let⟨sp,hc,d,a⟩:=r.ex
 ⟨⟨sp,k.get hc c,d.upd k hm,a⟩,r.w,r.n⟩
theorem RdAt.upd0(r:RdAt W h b s)(k:Upd No h h'):RdAt W h' b s:=r.upd k id fun _ h=>h.elim
theorem RdAt.lt(r:RdAt W h b s):b<h.size:=let⟨_,hc,_⟩:=r.ex;bv hc
theorem RdAt.setOk(r:RdAt W h b s){o d:Bool}(e:o=d){k:ad→Prop}(g:∀h',RdAt W h' b (s.1,d)→Upd (· =b) h h'→k h'):Wr h (adr ⟨b,0,none⟩ 1)∧At (hset h (adr ⟨b,0,none⟩ 1) (.bool o)) k:=by
 subst e;obtain⟨sp,hc,f,i⟩:=r.ex;exact kI hc (by simp) rfl fun h' a u=>g h' ⟨⟨sp,a,f.upd u fun y c=>.inl (by have c:y=b:=c;rw[c];exact r.w),i⟩,r.w,r.n⟩ u
theorem CR(r:RdAt W h b s){K:ByteArray→ad→Prop}(q:∀h',(dP s).1.length≤1000000→RdAt W h' b (dP s).2→Upd (· =b) h h'→K (aW (dP s).1) h'):HC PG im [.pointer (some ⟨b,0,none⟩)] [.c .str] K h:=by
 obtain⟨ws,D⟩:=s;have B:=r;obtain⟨sp,hc,j,C⟩:=r.ex;refine AR (some ⟨b,0,none⟩) ?_;unfold tC bL dE ci ce;have d:=j.len;simp only at d;refine⟨_,rfl,sp,vc hc 0,CondP.intro (fun e=>⟨_,rfl,?_⟩) fun e=>⟨_,rfl,sp,vc hc 0,?_⟩⟩
 ·have e:sp.len=0:=by simpa using e
  have v:ws= []:=List.length_eq_zero_iff.1 (by omega);subst v;exact B.setOk rfl fun h' t u=>q h' (by simp[dP]) t u
 ·have e:sp.len≠0:=by simpa using e
  cases ws with
  |nil=>exact absurd d e
  |cons w ws=>
   simp only[aG]at d;obtain⟨a,n,A⟩:∃a,sp.a=some a∧aC h (adr a (0*1))=some (.string (aW w)):=by
    obtain⟨a,n,_,o⟩:=j.at0 (g:=fun w=>Value.string (aW w)) (i:=0) (x:=w) rfl
    exact⟨a,n,o⟩
   refine⟨⟨by omega,by omega⟩,a,n,aW w,A,_,rfl,sp,vc hc 0,⟨by omega,by omega⟩,_,rfl,kI hc (by simp) rfl fun h' k u=>?_⟩
   have f:=j.sub (l:=1) (hi:=sp.len) (m:=sp.cap) (c:=sp.cap-1) (by omega) (by simp only[aG];omega) C;refine q h' (r.n w (aU ..)) ⟨⟨⟨aN sp.a 1 sp.cap 1,sp.len-1,sp.cap-1⟩,k,?_,?_⟩,r.w,fun x hx=>r.n x (bj _ hx)⟩ u
   ·have z:((w::ws).drop 1).take (sp.len-1)=ws:=by show ws.take _=_;exact List.take_of_length_le (by omega)
    have:=f.upd u fun y p=>.inl (by have p:y=b:=p;rw[p];exact r.w)
    rw[z]at this;exact this
   ·show sp.len-1≤sp.cap-1
    omega
theorem Pg(r:RdAt W h b s){K:ByteArray→ad→Prop}(j:∀h',RdAt W h' b (rC s).2→Upd (· =b) h h'→K (aW (rC s).1) h'):HC PG fG [.pointer (some ⟨b,0,none⟩)] [.c .str] K h:=by
 refine Cb (some ⟨b,0,none⟩) ?_;unfold uC cq ci;refine CR r fun p k m i=>Rm (by rw[bq];exact k) fun q f=>?_
 have c:=m.upd0 f;obtain⟨sp,hc,_⟩:=c.ex;rw[show(aW (dP s).1).data.toList=(dP s).1 from by simp]
 have n:(VR (rg (dP s).1)).1=aW (rC s).1:=by unfold rC;cases rg (dP s).1<;>rfl
 have o:(VR (rg (dP s).1)).2=(rg (dP s).1).isSome:=by cases rg (dP s).1<;>rfl
 rw[n,o];refine⟨_,rfl,(dP s).2.2,vc hc 1,CondP.intro (fun e=>⟨_,rfl,c.setOk rfl fun a d g=>j a ?_ ((i.trans f fun _ h=>h.elim).tr g)⟩) fun e=>⟨_,rfl,c.setOk rfl fun a d g=>j a ?_ ((i.trans f fun _ h=>h.elim).tr g)⟩⟩
 ·rw[rC,e,kX];exact d
 ·rw[rC,e,pq];exact d
theorem EU(l:Laid h)(n:4≤b){most:Nat}(_:most<18446744073709551616)(r:RdAt W h b s){K:Int→ad→Prop}(j:∀h',RdAt W h' b (j2 most s).2→Upd (· =b) h h'→K ((j2 most s).1:Int) h'):
  HC PG fl [.pointer (some ⟨b,0,none⟩),.int .u64 (most:Int)] [.c (.int .u64)] K h:=by
 refine yn (some ⟨b,0,none⟩) (most:Int) ?_;unfold qX cq ci;refine CR r fun u m o f=>yE (by rw[bq];exact m) (l.upd f fun y k=>by have k:y=b:=k;omega) fun v i=>?_
 have g:=o.upd0 i;obtain⟨sp,hc,_⟩:=g.ex;rw[show(aW (dP s).1).data.toList=(dP s).1 from by simp]
 have q:(Uo (uL (dP s).1)).1=((j2 most s).1:Int):=by unfold j2;cases uL (dP s).1<;>rfl
 have t:(Uo (uL (dP s).1)).2=(uL (dP s).1).isSome:=by cases uL (dP s).1<;>rfl
 rw[q,t];refine⟨_,rfl,(dP s).2.2,vc hc 1,CondP.intro (fun e=>CondP.intro (fun e2=>⟨_,rfl,g.setOk rfl fun c a d=>j c ?_ ((f.trans i fun _ h=>h.elim).tr d)⟩) fun e2=>⟨_,rfl,g.setOk rfl fun c a d=>j c ?_ ((f.trans i fun _ h=>h.elim).tr d)⟩) fun e=>⟨_,rfl,g.setOk rfl fun c a d=>j c ?_ ((f.trans i fun _ h=>h.elim).tr d)⟩⟩
 ·have p:decide (((j2 most s).1:Int)≤(most:Int))=decide ((uL (dP s).1).getD 0≤most):=by rw[decide_eq_decide];show((((uL (dP s).1).getD 0:Nat):Int)≤(most:Int))↔_;omega
  rw[p]at a;rw[j2,e,e2,kX,kX];exact a
 ·rw[j2,e,e2,kX,pq];exact a
 ·rw[j2,e,pq];exact a
theorem LM(r:RdAt W h b s){K:ByteArray→ad→Prop}(i:∀h',RdAt W h' b (oC s).2→Upd (· =b) h h'→K (aW (oC s).1) h'):HC PG kw [.pointer (some ⟨b,0,none⟩)] [.c .str] K h:=by
 refine AS (some ⟨b,0,none⟩) ?_;unfold tD cq ci;refine CR r fun m k c g=>?_
 obtain⟨sp,hc,_⟩:=c.ex;refine⟨_,rfl,(dP s).2.2,vc hc 1,CondP.intro (fun e=>H9 fun n j=>⟨_,rfl,(c.upd0 j).setOk rfl fun a d f=>i a ?_ ((g.trans j fun _ h=>h.elim).tr f)⟩) fun e=>⟨_,rfl,c.setOk rfl fun a d f=>i a ?_ (g.tr f)⟩⟩
 ·rw[oC,e,kX];exact d
 ·rw[oC,e,pq];exact d
end
end Go.Proofs
namespace Go.Proofs
open Go Go.Lift
section
variable {M:Nat→Prop} {h:ad} {s:SliceV} {xs ys:List Int}
theorem Jm(l:List Int):l.flatMap u32=l.map fun x=>Value.int .u32 x:=by
 induction l with
 |nil=>rfl
 |cons x l ih=>rw[bD,ih];rfl
theorem OwnS.put1(g:OwnS u32 1 mE M h s ys){i:Nat}(hi:i<ys.length)(x:Int){k:ad→Prop}(p:∀h',OwnS u32 1 mE M h' s (ys.set i x)→Upd M h h'→k h'):∃a,s.a=some a∧Wr h (adr a (i*1))∧At (hset h (adr a (i*1)) (.int .u32 x)) k:=by
 have c:=g.len;have f:=g.cap;rcases g.blk with t|⟨b,d,m,j,hc,n⟩
 ·omega
 refine⟨_,m,?_⟩;rw[Nat.mul_one];refine kI hc (by rw[List.size_toArray,ah,Jm,dx];omega) (List.setIfInBounds_toArray ..) fun q b2 o=>p q ⟨by rw[nK];exact c,xr,f,.inr ⟨b,d,m,j,?_,n⟩⟩ (o.mono fun _ e=>.inl (e▸j))
 rw[b2,Jm,List.set_append_left _ _ (by rw[dx];exact hi),Jm,List.map_set]
theorem OwnS.cutZ(d:OwnS u32 1 mE M h s ys){i:Nat}(hi:i<ys.length){k:ad→Prop}(u:∀h',OwnS u32 1 mE M h' ⟨aN s.a 0 s.cap 1,i-0,s.cap-0⟩ (ys.take i)→Upd M h h'→k h'):
  td h (aN s.a i s.cap 1) 0 (de (s.len-i) [.int .u32 0])∧At (eR h (aN s.a i s.cap 1) 0 (de (s.len-i) [.int .u32 0])) k:=by
 have j:=d.len;have n:=d.cap;rcases d.blk with w|⟨b,a,o,m,hc,q⟩
 ·omega
 have g:((ys.take i).flatMap u32).length=i*1:=by rw[jj xr,aL,Nat.min_eq_left (by omega)]
 have p:((ys.drop i).flatMap u32).length=(ys.length-i)*1:=by rw[jj xr,List.length_drop]
 rw[yd (f:=u32) ys i]at hc;rw[o,iM (by omega)];have c:(de (s.len-i) [Value.int .u32 0]).length=(s.len-i)*1:=lA _ _;refine ER hc (by rw[c,ah,ah,g,p];omega) fun v b2 t=>u v ⟨by rw[aL];simp only;omega,xr,by simp only;omega,
  .inr ⟨b,de (s.len-i) [Value.int .u32 0]++a,by rw[o,sub_zero],m,?_,?_⟩⟩ (t.mono fun _ e=>.inl (e▸m))
 ·rw[b2]
  congr 2
  rw[aH,aH,List.take_left' (by rw[g];omega)];congr 2
  rw[←cU,cp (by rw[g];omega),cp (by rw[p,c];omega)]
 ·rw[ah,c,q];simp only;omega
def nz(xs:List Int):List Int:=xs.filter fun x=> !(x==0)
theorem RO{x:Int}{K:Bool→ad→Prop}(a:K (x==0) h):HV PG (.func (.func sN) #[] #[]) [.int .u32 x] [.c .bool] K h:=by
 refine HV.mk' (GK x ?_);unfold yq;exact a
theorem Rl(m:OwnS u32 1 mE M h s xs)(Q:xs.length≤1000000){K:SliceV→ad→Prop}(F:∀s' h',OwnS u32 1 mE M h' s' (nz xs)→Upd M h h'→K s' h'):HC PG wc [.slice s.a s.len s.cap] [.c .slice] K h:=by
 have v:=m.len;have E:=m.cap;refine Kt s ?_;unfold Ci;refine qP s _ ?_;unfold kc bL dE ci;refine kP s _ ?_;unfold gN bL dE;have P:Sl u32 1 No h s xs:=m.sl fun _ _ _ h=>h
 refine LoopP.ghost (fun(i:Nat) (t:Int) h'=>t=(i:Int)∧h'=h∧i≤xs.length∧nz (xs.take i)=xs.take i) (fun i=>xs.length-i) 0 ⟨rfl,rfl,be _,by simp[nz]⟩ ?_
 rintro I i t h' ⟨rfl,rfl,hi,k⟩ N;refine aK (fun c=>?_) fun O=>?_
 ·have c:i<xs.length:=by omega
  obtain⟨a,z,_,hx⟩:=Nums.at P c;refine⟨by omega,a,z,_,hx,RO (CondP.intro (fun e=>?_) fun e=>?_)⟩
  ·
   have L:nz (xs.take (i+1))=xs.take i:=by
    rw[cA c];unfold nz at k⊢;rw[fj,k];simp[e]
   refine CondP.intro (fun e1=>?_) fun _=>?_
   ·simp at e1
   rw[dw c (by omega)];refine LoopP.ghost (fun(g:Nat×Nat×List Int) (t:Int×Int) x=>t=((g.1:Int),(g.2.1:Int))∧g.1<g.2.1∧g.2.1≤xs.length∧OwnS u32 1 mE M x s g.2.2∧g.2.2.take g.1=nz (xs.take g.2.1)∧g.2.2.drop g.2.1=xs.drop g.2.1∧Upd M h' x) (fun g=>xs.length-g.2.1) (i,i+1,xs) ⟨rfl,by simp only;omega,by simp only;omega,m,L.symm,rfl,Upd.refl _ _⟩ ?_
   rintro R ⟨p,j,ys⟩ t x ⟨rfl,y,H,f,u,hd,B⟩ q;have f:OwnS u32 1 mE M x s ys:=f;have G:ys.length=xs.length:=f.len.symm.trans v;simp only at y H u hd⊢;refine aK (fun b=>?_) fun D=>?_
   ·have b:j<xs.length:=by omega
    have A:ys[j]'(by omega)=xs[j]:=by
     have:=congrArg List.head? hd;simpa[List.head?_drop,ag b,ag (show j<ys.length by omega)]using this
    obtain⟨a,z,_,hx⟩:=Nums.at (f.sl (W:=No) fun _ _ _ h=>h) (show j<ys.length by omega)
    rw[A]at hx;have o:ys.drop (j+1)=xs.drop (j+1):=by rw[←cU,hd,cU]
    refine Join.plain ⟨by omega,a,z,_,hx,RO (CondP.intro (fun e=>?_) fun e=>?_)⟩
    ·have d:(!(xs[j]==0))=true:=e
     refine⟨by omega,?_⟩;rw[ai];refine OwnS.put1 f (i:=p) (by omega) xs[j] fun J w C=>?_
     rw[dw (i:=p) (n:=xs.length) (by omega) (by omega),dw b (by omega)];refine q (p+1,j+1,ys.set p xs[j]) _ _ ⟨rfl,by simp only;omega,by simp only;omega,w,?_,?_,B.tr C⟩ (by simp only;omega)
     ·simp only
      rw[cA (by rw[nK];omega),List.getElem_set_self,List.take_set_of_le (ax _),u,cA b];unfold nz;rw[fj];simp[d]
     ·simp only
      rw[List.drop_set_of_lt (by omega),o]
    ·have d:(!(xs[j]==0))=false:=e
     rw[dw b (by omega)];refine q (p,j+1,ys) _ _ ⟨rfl,by simp only;omega,by simp only;omega,f,?_,o,B⟩ (by simp only;omega)
     simp only;rw[u,cA b];unfold nz;rw[fj];simp[d]
   ·have:j=xs.length:=by omega
    subst this;rw[bf]at u;refine⟨by omega,?_⟩;rw[ai];refine OwnS.cutZ (ys:=ys) f (by omega) fun J w C=>⟨by omega,?_⟩
    rw[u]at w;exact F _ _ w (B.tr C)
  ·rw[dw c (by omega)]
   refine N (i+1) _ _ ⟨rfl,rfl,by omega,?_⟩ (by omega)
   rw[cA c];unfold nz at k⊢;rw[fj,k];simp[e]
 ·have:i=xs.length:=by omega
  subst this;rw[bf]at k;rw[←k]at m;exact aB.2 (F s _ m (Upd.refl _ _))
end
end Go.Proofs
namespace Go.Proofs
open Go Go.Lift
def zY(s:VS)(n:ByteArray)(d:TD)(ps:List Int):(Int×Int)×VS:=
 if(ly s.L s.nx ps).1.2≠0 then((0,(ly s.L s.nx ps).1.2),s)
 else(((ly s.L s.nx ps).1.1,0),{s with L:=(ly s.L s.nx ps).2.1,nx:=(ly s.L s.nx ps).2.2,D:=oY s.D (ly s.L s.nx ps).1.1 d,B:=oY s.B n (ly s.L s.nx ps).1.1})
theorem TC{L:gi}{nx:Int}{ps:List Int}(h:(ly L nx ps).1.2≠0):(ly L nx ps).2=(L,nx):=by
 unfold ly at h⊢;split
 ·rfl
 ·split
  ·rfl
  ·split
   ·rfl
   ·rename_i h1 h2 h3
    rw[if_neg h1,if_neg h2,if_neg h3]at h;exact absurd rfl h
theorem QN{L:gi}{nx:Int}{ps:List Int}(h:(ly L nx ps).1.2=0):ly L nx ps=((nx,0),Bt L nx ps,nx+1):=by
 unfold ly at h⊢;split at h
 ·rename_i h1;exact absurd h h1
 ·split at h
  ·rename_i h1;exact absurd h h1
  ·split at h
   ·have h:(6:Int)=0:=h
    omega
   ·rename_i h1 h2 h3;rw[if_neg h1,if_neg h2,if_neg h3]
theorem Ok{h:ad}{k:ad→Prop}(a:∀h',h'=h→k h'):At h k:=aY (a h rfl)
theorem Ml{κ β:Type}[DecidableEq κ]{k:κ}{v:β}:∀{l:List (κ×β)} {p:κ×β},p∈oY l k v→p=(k,v)∨p∈l
 | [],p,h=>.inl (by simpa[oY]using h)
 |(k',u)::l,p,h=>by
  unfold oY at h;split at h
  ·exact(aA.1 h).imp id (bj _)
  ·rcases aA.1 h with h|h
   ·exact .inr (h▸aU)
   ·exact(Ml h).imp id (bj _)
theorem Mn{β:Type}{k:Int}{v:β}:∀{l:List (Int×β)},dB l k=some v→(k,v)∈l
 |(k',u)::l,h=>by
  unfold dB at h;split at h
  ·rename_i e;cases h;rw[e];exact aU
  ·exact bj _ (Mn h)
section
variable {W:Nat→Prop} {h0 h:ad} {vp:Nat} {s:VS}
theorem VaultAt.size(v:VaultAt W h vp s){y:Nat}(a:s.M y):y<h.size:=v.g.lt y (v.w y a)
theorem VS.mG{s:VS}{y:Nat}(h:GI s.gp s.gm y):s.M y:=h.imp id .inl
theorem K6(v:VaultAt W h0 vp s)(k0:Upd No h0 h)(n:ByteArray){d:TD}(i:TreeIs W h0 s.kind s.x d.1 d.2)(hr:eH d.2)(hf:Fit d.2){pb:Nat}(O:h0.size≤pb)(hpb2:pb<h.size){sl:SliceV}{ps:List Int}(ho:OwnS u32 1 mE (· =pb) h sl ps)(hn:ps.length≤1000000)
  {K:Int×Int→ad→Prop}(G:∀h',Upd s.M h0 h'→VaultAt W h' vp (zY s n d (nz ps)).2→K (zY s n d (nz ps)).1 h'):
  HC PG lf [pV vp,.string n,PE d.1,.slice sl.a sl.len sl.cap] [.c (.int .u32),.c (.int .i64)] K h:=by
 refine xi (some ⟨vp,0,none⟩) n d.1 sl ?_;unfold py bL ar gO Hh ae ak mc xd;refine cx fun h1 b1 k1=>⟨_,rfl,_,vc (v.upd0 (k0.tr k1)).blk 6,?_⟩
 have s0:=k0.size;refine Rl (ho.upd k1 fun _ _ h=>h) hn fun s5 N o5 u5=>?_
 have I:Upd No h0 N:=(k0.tr k1).own u5 O;have q:=v.upd0 I;have b5:=u5.oth b1 (show h.size≠pb by omega)
 have hl5:(nz ps).length≤ps.length:=gb ..;have T:∀y,W y→y<h0.size:=v.g.lt;refine⟨vc q.blk 6,UK q.g (by have:=v.inv.nx1;omega) (fun hm=>by have:=(v.inv.pos _ hm).2;omega) (o5.sl (W:=W) fun b u _ hw=>by have:=T b hw;omega) (by omega) fun H o J=>?_⟩
 have Z:∀y,GI s.gp s.gm y→W y∨N.size≤y:=fun y a=>.inl (v.w y (VS.mG a))
 obtain⟨n1,n2,n3,n4,n5,n6,n7,n8,n9,V⟩:=VS.neB v.ne;have w:∀y,y≠s.gp→y≠s.gm→¬GI s.gp s.gm y:=fun y h1 h2 h=>h.elim h1 h2
 have t7:=q.t.upd o (w _ n2.symm n5.symm);have m7:=q.b.upd o (w _ n3.symm n6.symm);have C:=q.n.upd o (w _ n4.symm n7.symm);refine CondP.intro (fun e=>?_) fun e=>?_
 ·have e:(ly s.L s.nx (nz ps)).1.2≠0:=by simpa using e
  have e2:=TC e;have P:zY s n d (nz ps)=((0,(ly s.L s.nx (nz ps)).1.2),s):=by unfold zY;rw[if_pos e]
  rw[P]at G;rw[e2]at J;exact G H (I.wide.tr (o.mono fun y a=>.inl (VS.mG a))) (q.turn o Z J t7 m7 C (fun d hd=>.inl hd) v.sub v.inv)
 ·have e:(ly s.L s.nx (nz ps)).1.2=0:=by simpa using e
  have e2:=QN e;have t:=v.inv.add (nz ps);have P:zY s n d (nz ps)=(((ly s.L s.nx (nz ps)).1.1,0),{s with L:=(ly s.L s.nx (nz ps)).2.1,nx:=(ly s.L s.nx (nz ps)).2.2,D:=oY s.D (ly s.L s.nx (nz ps)).1.1 d,B:=oY s.B n (ly s.L s.nx (nz ps)).1.1}):=by unfold zY;rw[if_neg (by rw[e];simp)]
  rw[P]at G;rw[e2]at J G t⊢;have z:∀y,s.M y→vp≠y:=fun y a e=>v.wv (e▸v.w y a)
  have c7:=o.get q.blk fun hm=>z _ (VS.mG hm) rfl
  have x:=o.get b5 fun hm=>by have:=v.size (VS.mG hm);omega
  refine⟨_,rfl,_,vc c7 7,_,vc x 0,_,vc x 1,_,vc x 2,_,vc x 3,_,vc x 4,_,vc x 5,_,rfl,t7.isMap,Ok fun f j=>?_⟩
  have j:f=me H s.tm (KE.enc s.nx) (Xm d):=j;have g:Upd (· =s.tm) H f:=by rw[j];exact vm H _ _ rfl
  have S:MapAt KE Xm f s.tm (oY s.D s.nx d):=by rw[j];exact t7.put s.nx d
  have A:=m7.upd g (fun e=>n8 e.symm)
  have F:=C.upd g (fun e=>n9 e.symm)
  have U:=J.upd g fun b u=>.inl ⟨v.w b (.inr (.inr (.inl u))),fun e=>n2 (e.symm.trans u),fun e=>n5 (e.symm.trans u)⟩
  have Q:=g.get c7 fun e=>z _ (.inr (.inr (.inl rfl))) e
  refine⟨_,rfl,_,vc Q 8,_,rfl,A.isMap,Ok fun c m=>?_⟩
  have m:c=me f s.bm (kStr.enc n) (UE s.nx):=m;have k:Upd (· =s.bm) f c:=by rw[m];exact vm f _ _ rfl
  have m21:MapAt kStr UE c s.bm (oY s.B n s.nx):=by rw[m];exact A.put n s.nx
  have Y:=S.upd k n8;have E:=F.upd k (fun e=>V e.symm)
  have X:=U.upd k fun b u=>.inl ⟨v.w b (.inr (.inr (.inr (.inl u)))),fun e=>n3 (e.symm.trans u),fun e=>n6 (e.symm.trans u)⟩
  have R:Upd s.M N c:=((o.mono fun y a=>.inl (VS.mG a)).tr (g.mono fun y a=>.inl (.inr (.inr (.inl a))))).tr (k.mono fun y a=>.inl (.inr (.inr (.inr (.inl a)))))
  refine G c (I.wide.tr R) (q.turn R (fun y a=>.inl (v.w y a)) X Y m21 E (fun p hp=>(Ml hp).elim (fun e=>.inr ?_) .inl) (fun id=>?_) t)
  ·subst e
   have ku:Upd s.M h0 c:=I.wide.tr R;exact⟨i.updM ku fun y a=>.inl (v.w y a),hr,hf⟩
  ·rw[Jb,insV_ids.mem_iff,aA,←v.sub id]
   split
   ·rename_i hm
    exact⟨.inr,fun h=>h.elim (fun e=>e▸hm) fun h=>h⟩
   ·rw[bM,aM,Or.comm]
end
end Go.Proofs
namespace Go.Proofs
open Go Go.Lift
abbrev Xx:List Value:= [.string (⟨#[]⟩:ByteArray),.string (⟨#[]⟩:ByteArray)]
theorem WS{h:ad}{t:TypeId}{p:Pr}{k:ad→Prop}(d:∀h',h'[h.size]? =some (.cells #[.string p.1,.string p.2] t (0,0))→Upd No h h'→k h'):
  At (hnew h [.string (⟨#[]⟩:ByteArray),.string (⟨#[]⟩:ByteArray)] t) fun b=>td b (some (aJ h)) 0 [.string p.1,.string p.2]∧At (gP b (aJ h) 0 [.string p.1,.string p.2]) k:=by
 refine cx fun f b1 k1=>?_
 exact cY (c:=Xx) (vs:= [.string p.1,.string p.2]) b1 rfl fun e b2 a=>d e b2 (k1.own a (ax _))
theorem pE{i n:Nat}(h:i<n)(a:n≤9223372036854775807):ac .i64 ((i:Int)+1)=((i+1:Nat):Int):=by rw[Go.IntWalk.i64_in _ (by omega)];omega
theorem IJ(p:Pr):∀{l:List Pr},(jA p l).length≤l.length+1
 | []=>ax _
 |q::l=>by
  rw[mf];split
  ·have:=IJ p (l:=l);simp only[aG];omega
  ·split<;>simp
theorem Qe{W W':Nat→Prop}{h h':ad}{kind:Int}{x:Hs}{t u:Tr}{l a:List Pr}(i:TreeIs W h kind x t l)(c:TreeIs W' h' kind x u a):LR t u=true:=by
 rcases i with⟨rfl,b,rfl,_⟩|⟨rfl,b,rfl,_⟩<;>rcases c with⟨e,b',rfl,_⟩|⟨e,b',rfl,_⟩
 ·simp[LR]
 ·cases e
 ·cases e
 ·simp[LR]
abbrev hsL(x:Hs):List Value:= [.int .u64 x.k0,.int .u64 x.k1,.int .u64 x.mask]
end Go.Proofs
namespace Go.Proofs
open Go Go.Lift
section
variable {W:Nat→Prop} {h:ad} {vp:Nat} {s:VS}
theorem M0(v:VaultAt W h vp s)(n:ByteArray){hd:Int}(e:dB s.B n=some hd){d:TD}(i:TreeIs W h s.kind s.x d.1 d.2)(g:eH d.2)(o:Fit d.2)
  {K:Int×Int→ad→Prop}(m:∀h',Upd s.M h h'→VaultAt W h' vp (zY s n d (nz [hd])).2→K (zY s n d (nz [hd])).1 h'):
  HC PG lM [pV vp,.string n,PE d.1] [.c (.int .u32),.c (.int .i64)] K h:=by
 refine yi (some ⟨vp,0,none⟩) n d.1 ?_;unfold qS ar Ip iL gO ae ak mc gx xd;refine cx fun q b1 k1=>K7 (v.upd0 k1) n ?_
 rw[e];refine aj.2 ⟨_,vc b1 0,_,vc b1 1,_,vc b1 2,_,vc b1 3,_,vc b1 4,_,vc b1 5,_,rfl,?_⟩;have c1:=k1.get0 v.blk;refine⟨_,yT c1 0 0,_,yT c1 0 1,_,yT c1 0 2,_,yT c1 0 3,_,yT c1 0 4,_,yT c1 0 5,?_⟩;refine RH (t:=d.1) (u:=s.e) fun b c=>?_
 rw[Qe i v.em];have b2:=c.get0 b1;refine aj.2 ⟨_,vc b2 0,_,vc b2 1,_,vc b2 2,_,vc b2 3,_,vc b2 4,_,vc b2 5,cx fun w b3 j=>?_⟩
 have a:=k1.tr c;have p:=a.size;refine K6 v (a.tr j) n i g o (pb:=b.size) p (bv b3) (sl:=⟨some (aJ b),1,1⟩) (ps:= [hd]) ⟨rfl,xr,ax _,.inr ⟨b.size,[],rfl,rfl,b3,rfl⟩⟩ (by simp) fun h' f k=>m h' f k
end
end Go.Proofs
namespace Go.Proofs
open Go Go.Lift
end Go.Proofs
namespace Go.Proofs
open Go Go.Lift
theorem Lm{W:Nat→Prop}{h:ad}{b:Nat}{sl:ByteArray}{w:Option ByteArray}{F:Fo}(r:RxN W h b sl w F){K:ByteArray×Bool→ad→Prop}(c:K (w.getD ⟨#[]⟩,w.isSome) h):HC PG nQ [.pointer (some ⟨b,0,none⟩)] [.c .str,.c .bool] K h:=by
 refine AN _ ?_;unfold tw bE cq;obtain⟨val,s,ow,ks,a,rfl,_⟩:=r;exact aj.2 ⟨_,rfl,_,fQ (i:=2) a,_,rfl,w.isSome,fQ (i:=1) a,c⟩
end Go.Proofs
namespace Go.Proofs
open Go Go.Lift
end Go.Proofs
namespace Go.Proofs
open Go Go.Lift
end Go.Proofs
namespace Go.Proofs
structure WO{α:Type}(lt:α→α→Bool):Prop where
 irr:∀a,lt a a=false
 asy:∀a b,lt a b=true→lt b a=false
 ntr:∀a b c,lt a b=false→lt b c=false→lt a c=false
section
variable {α:Type} {lt:α→α→Bool}
def QB(lt:α→α→Bool)(x a:α):Bool:= !lt a x&& !lt x a
def Srt(lt:α→α→Bool)(l:List α):Prop:=l.Pairwise fun a b=>lt b a=false
structure Eqf(lt:α→α→Bool)(l l':List α):Prop where
 len:l'.length=l.length
 flt:∀x,l'.filter (QB lt x)=l.filter (QB lt x)
structure St(lt:α→α→Bool)(l l':List α):Prop where
 eqf:Eqf lt l l'
 srt:Srt lt l'
theorem Eqf.rfl(l:List α):Eqf lt l l:=⟨_root_.rfl,fun _=>_root_.rfl⟩
theorem Eqf.tr{a b c:List α}(h:Eqf lt a b)(k:Eqf lt b c):Eqf lt a c:=⟨k.len.trans h.len,fun x=>(k.flt x).trans (h.flt x)⟩
theorem Eqf.app{a b a' b':List α}(h:Eqf lt a a')(k:Eqf lt b b'):Eqf lt (a++b) (a'++b'):=
 ⟨by rw[ah,ah,h.len,k.len],fun x=>by rw[fj,fj,h.flt,k.flt]⟩
theorem Md(w:WO lt)(a:α):QB lt a a=true:=by unfold QB;rw[w.irr];rfl
theorem Eqf.mem(w:WO lt){l b:List α}(h:Eqf lt l b){a:α}:a∈b↔a∈l:=by
 have e:=h.flt a;constructor
 ·intro hm
  have:a∈b.filter (QB lt a):=dH.2 ⟨hm,Md w a⟩;rw[e]at this;exact(dH.1 this).1
 ·intro hm
  have:a∈l.filter (QB lt a):=dH.2 ⟨hm,Md w a⟩;rw[←e]at this;exact(dH.1 this).1
theorem UR(w:WO lt){x u v:α}(b:QB lt x u=true)(a:QB lt x v=true):lt v u=false:=by
 unfold QB at b a;simp only[Bool.and_eq_true,Bool.not_eq_true']at b a;exact w.ntr v x u a.1 b.2
theorem Eqf.swap(w:WO lt){U V:List α}(h:∀u∈U,∀v∈V,lt v u=true):Eqf lt (U++V) (V++U):=by
 refine⟨by rw[ah,ah,Nat.add_comm],fun x=>?_⟩
 rw[fj,fj];cases hU:U.filter (QB lt x)with
 |nil=>rw[dd,fh]
 |cons u us=>
  cases hV:V.filter (QB lt x)with
  |nil=>rw[dd,fh]
  |cons v vs=>
   have d:u∈U.filter (QB lt x):=by rw[hU];exact aU ..
   have e:v∈V.filter (QB lt x):=by rw[hV];exact aU ..
   have a:=dH.1 d;have c:=dH.1 e;have b:=h u a.1 v c.1;rw[UR w a.2 c.2]at b;cases b
theorem Srt.app{a b:List α}(h:Srt lt a)(k:Srt lt b)(c:∀x∈a,∀y∈b,lt y x=false):Srt lt (a++b):=eJ.2 ⟨h,k,c⟩
theorem Srt.left{a b:List α}(h:Srt lt (a++b)):Srt lt a:=(eJ.1 h).1
theorem Srt.right{a b:List α}(h:Srt lt (a++b)):Srt lt b:=(eJ.1 h).2.1
theorem Srt.nil:Srt lt ([]:List α):=jo
theorem Srt.one(a:α):Srt lt [a]:=List.pairwise_singleton ..
end
end Go.Proofs
namespace Go.Proofs
open Go Go.Lift
section
variable {α:Type} {f:α→List Value} {sz:Nat} {t:TypeId} {M:Nat→Prop} {h:ad} {s:SliceV} {P Q:List α} {x:α}
end
structure Cmp{α:Type}(lt:α→α→Bool)(f:α→List Value)(M:Nat→Prop)(Iv:ad→Prop)(V:Value):Prop where
 call:∀(a b:α) {h:ad} {K:Int→ad→Prop},Iv h→(∀h' e,Upd No h h'→decide (e<0)=lt a b→K e h')→HV PG V [.agg (f a).toArray,.agg (f b).toArray] [.c (.int .i64)] K h
 step:∀{h h':ad},Upd M h h'→Iv h→Iv h'
end Go.Proofs
namespace Go.Proofs
open Go Go.Lift
end Go.Proofs
namespace Go.Proofs
open Go Go.Lift
variable {z0:Hs}
end Go.Proofs
namespace Go.Proofs
open Go Go.Lift
end Go.Proofs
namespace Go.Proofs
open Go Go.Lift
end Go.Proofs
