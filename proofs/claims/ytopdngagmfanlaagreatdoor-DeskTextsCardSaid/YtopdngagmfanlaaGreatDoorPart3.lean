/- A part of the proof that the named laws of this program answer true, whatever the input. -/
import Derived.Test.YtopdngagmfanlaaGreatDoorPart2
import Derived.Test.YtopdngagmfanlaaGreatDoorPart0
import Derived.Shelf.Strings.Search3
import Derived.Shelf.Strings.Count
import Derived.Shelf.Small.Strs
import Derived.Shelf.Strings.Builder1
open Array renaming toList_inj→kN,getElem?_modify→jC
open BitVec renaming ofInt→au
open ByteArray renaming ext→wd,data_extract→gB,mk→xY
open Go.IntKind renaming wrap→ac,wrap_u8→jN,wrap_u64→dZ,bits→ai
open Iff renaming rfl→AE
open Int renaming toNat_natCast→ak,tdiv→xe,tdiv_eq_ediv_of_nonneg→mP,tmod→iY,tmod_eq_emod_of_nonneg→fj,fdiv→gy
open List renaming length_cons→ay,getElem?_eq_getElem→ah,length_eq_zero_iff→bp,length_nil→bN,length_take→be,take_length→bJ,append_assoc→aM,drop_eq_getElem_cons→cF,take_append_drop→bT,size_toArray→cP,length_append→aj,length_singleton→bO,extract_eq_take_drop→gN,length_drop→aS,getElem?_toArray→dP,length→lj,mem_append→bD,mem_cons→ar,replicate→bF
open Nat renaming le_refl→av,zero_le→aV,le_trans→aU,le_of_eq→gv,zero_add→aR,lt_or_ge→cC,lt_irrefl→kf,lt_of_lt_of_le→aQ
open Option renaming some→bq
open Prod renaming mk→pW
open UInt8 renaming ofNat→cq,toNat_inj→jL
namespace Go.Proofs
open Go Go.Lift
theorem Ft{T:Type}{x:T}{k:T→Prop}(h:k x):Bd x k:=h
theorem WA{M:Nat→Prop}{h:ad}{a:SliceV}{out bs:List UInt8}{vs:List Value}{n:Nat}(d:vs=bs.flatMap KW)(i:n=bs.length){K:SliceV→ad→Prop}(f:OwnS KW 1 ll M h a out)(hM:∀b,h.size≤b→M b)(m:out.length+bs.length≤140737488355328)
  (e:∀s' h',OwnS KW 1 ll M h' s' (out++bs)→Upd M h h'→K s' h'):
  ∃xs,SRow (hnew h vs ll) (some (aH h)) (n*1) xs∧AppP (some [.int .u8 0]) 1 1 ll a.a a.len a.cap n xs (hnew h vs ll) K:=by
 subst d i;have k:=Upd.hnew No h (bs.flatMap KW) ll;have g:OwnS KW 1 ll (fun _=>True) (hnew h (bs.flatMap KW) ll) ⟨some (aH h),bs.length,bs.length⟩ bs:=⟨rfl,ED,av _,.inr ⟨h.size,[],rfl,trivial,by rw[List.append_nil];exact bI ..,by simp⟩⟩
 refine⟨_,(g.sl (W:=No) fun _ _ _ h=>h).srow,?_⟩
 refine AppP.own (ys:=bs) (f.upd k fun _ _ h=>h) rfl rfl (RX bs) rfl (by omega) (by omega) (hM _ (by rw[eT];omega)) fun s' h' c j=>?_
 exact e s' h' c ((Upd.hnew M h _ _).tr j)
abbrev sgn16:ByteArray:=⟨#[48,49,50,51,52,53,54,55,56,57,97,98,99,100,101,102]⟩
theorem Li{n:Nat}(h:n<16):sgn16[n]? =some (sS n):=by
 have:∀n:Fin 16,sgn16.data.toList[n.val]? =some (sS n.val):=by decide+kernel
 rw[Oh];exact this ⟨n,h⟩
theorem Oe(a b:List UInt8):yH (a++b)=yH a++yH b:=by unfold yH;rw[List.flatMap_append]
theorem wD(l:List UInt8):(yH l).length=2*l.length:=by
 induction l with
 |nil=>rfl
 |cons b l ih=>show(sS _::sS _::yH l).length=_;simp only[ay,ih];omega
theorem V9(c:UInt8):qC c≤16:=by
 unfold qC;split
 ·omega
 ·split<;>omega
abbrev aG(l:List UInt8):ByteArray:=⟨l.toArray⟩
theorem JO(x:ByteArray):aG x.data.toList=x:=rfl
theorem Ov{c:UInt8}{h:ad}{K:Int→ad→Prop}(e:K (qC c:Int) h):HC PG uI [.int .u8 (c.toNat:Int)] [.c (.int .u8)] K h:=by
 refine OW (c.toNat:Int) ?_;unfold FC;have hc:=c.toNat_lt;have d:¬(48≤c.toNat∧c.toNat≤57)→Join (T:=Bool) (fun j g=>CondP j (K (ac .u8 ((ac .u8 ((c.toNat:Int)-97))+10)) g) (K 16 g)) (fun i=>CondP (decide ((c.toNat:Int)≥97)) (i (decide ((c.toNat:Int)≤102)) h) (i false h)):=by
  intro f;refine Join.plain (aF (fun a=>aF (fun b=>?_) fun b=>?_) fun a=>af.2 ?_)
  ·rw[show ac .u8 ((ac .u8 ((c.toNat:Int)-97))+10)=(qC c:Int)from by rw[jN,jN,qC,if_neg f,if_pos ⟨by omega,by omega⟩];omega];exact e
  ·rw[show(16:Int)=(qC c:Int)from by rw[qC,if_neg f,if_neg (by omega)];rfl];exact e
  ·rw[show(16:Int)=(qC c:Int)from by rw[qC,if_neg f,if_neg (by omega)];rfl];exact e
 refine Join.plain (aF (fun a=>aF (fun b=>?_) fun b=>d (by omega)) fun a=>af.2 (d (by omega)))
 rw[show ac .u8 ((c.toNat:Int)-48)=(qC c:Int)from by rw[jN,qC,if_pos ⟨by omega,by omega⟩];omega];exact e
theorem nI(x:ByteArray):x.data.toList.length=x.size:=Array.length_toList
theorem QY{x:ByteArray}{i:Nat}(h:i<x.size):∃b,x[((i:Nat):Int).toNat]? =some b∧x.data.toList[i]? =some b∧x.data.toList.take (i+1)=x.data.toList.take i++ [b]:=by
 have a:i<x.data.toList.length:=by rw[nI];exact h
 refine⟨x.data.toList[i],?_,ah a,?_⟩
 ·rw[ak,Oh];exact ah a
 ·rw[List.take_add_one,ah a];rfl
theorem pf{x:ByteArray}(hx:x.size≤1000000){h:ad}{K:ByteArray→ad→Prop}(m:∀h',Upd No h h'→K (aG (lU x.data.toList)) h'):HC PG ji [.string x] [.c .str] K h:=by
 refine Ua x ?_;unfold K3 vl9;have g:=nI x;refine CondP.intro (fun e=>?_) fun e=>?_
 ·have e:x.size=0:=by simpa using e
  have j:x.data.toList= []:=bp.1 (by omega);have:=m h (Upd.refl _ _);rw[j]at this;exact this
 ·have e:x.size≠0:=by simpa using e
  refine LoopP.ghost (fun(i:Nat) (t:SliceV×Int) h'=>t.2=(i:Int)∧i≤x.size∧OwnS KW 1 ll (fun y=>h.size≤y) h' t.1 (yH (x.data.toList.take i))∧Upd No h h') (fun i=>x.size-i) 0 ⟨rfl,aV _,OwnS.nil ED,Upd.refl _ _⟩ ?_
  rintro I i ⟨z,v⟩ h' ⟨e1,hi,c,k⟩ s;simp only at e1 c;subst e1;refine aF (fun a=>?_) fun d=>?_
  ·have a:i<x.size:=by have:(i:Int)<(x.size:Int):=a;omega
   obtain⟨b,b1,_,b3⟩:=QY a;have A:=b.toNat_lt;have n:ac .u8 (xe (b.toNat:Int) 16)=((b.toNat/16:Nat):Int):=by rw[mP (by omega),jN];omega
   have q:iY (b.toNat:Int) 16=((b.toNat%16:Nat):Int):=by rw[fj (by omega)];omega
   refine Join.plain ⟨b,by simp only;omega,b1,by decide,sS (b.toNat/16),by rw[n];omega,by rw[n,ak];exact Li (by omega),b,by simp only;omega,b1,by decide,sS (b.toNat%16),by rw[q];omega,by rw[q,ak];exact Li (by omega),bj ?_⟩
   have w:=k.size;refine WA (bs:= [sS (b.toNat/16),sS (b.toNat%16)]) rfl rfl c (fun y p=>by omega) (by rw[wD];simp only[ay,bN,be];omega) fun s' f o u=>?_
   show I (s',ac .i64 ((i:Int)+1)) f
   rw[cM a (by omega)];refine s (i+1) _ _ ⟨rfl,a,?_,k.trans u fun y p=>.inr p⟩ (by omega)
   rw[b3,Oe];exact o
  ·have hi:i=x.size:=by have:¬(i:Int)<(x.size:Int):=d;omega
   rw[hi,←g,bJ]at c;refine⟨aG (yH x.data.toList),?_,?_⟩
   ·rw[pk];simpa using(c.sl (W:=No) fun _ _ _ h=>h).srow
   ·have:=m h' k
    rw[lU,if_neg (fun j=>by rw[j]at g;simp at g;omega)]at this
    exact this
theorem ux(c d:UInt8)(l:List UInt8):gd (c::d::l)=if qC c<16∧qC d<16 then(gd l).map (cq (16*qC c+qC d):: ·)else none:=by rw[gd]
theorem tp:∀(a b:List UInt8),a.length%2=0→gd (a++b)=(gd a).bind fun x=>(gd b).map (x++ ·)
 | [],b,_=>by cases h:gd b<;>simp[gd,h]
 | [_],_,h=>by simp at h
 |c::d::l,b,h=>by
  have h:l.length%2=0:=by simp only[ay]at h;omega
  show gd (c::d::(l++b))=_
  rw[ux,ux,tp l b h];split
  ·cases gd l<;>cases gd b<;>rfl
  ·rfl
theorem Bs:∀l:List UInt8,l.length%2=1→gd l=none
 | [],h=>by simp at h
 | [_],_=>rfl
 |c::d::l,h=>by
  have h:l.length%2=1:=by simp only[ay]at h;omega
  unfold gd;split
  ·rw[Bs l h];rfl
  ·rfl
abbrev Xz(o:Option (List UInt8)):ByteArray×Bool:=match o with|some l=>(aG l,true)|none=>(aG [],false)
theorem Yu{x:ByteArray}{i:Nat}(h:i+1<x.size):∃a b,x[((i:Nat):Int).toNat]? =some a∧x[((i+1:Nat):Int).toNat]? =some b∧x.data.toList.drop i=a::b::x.data.toList.drop (i+2)∧x.data.toList.take (i+2)=x.data.toList.take i++ [a,b]:=by
 obtain⟨a,e,c,d⟩:=QY (x:=x) (i:=i) (by omega);obtain⟨b,b1,b2,b3⟩:=QY h;have f:=nI x;refine⟨a,b,e,b1,?_,by rw[b3,d,aM];rfl⟩
 rw[cF (by omega),cF (by omega)];rw[ah (by omega)]at c b2;rw[bq.inj c,bq.inj b2]
theorem Kk{x:ByteArray}:(x.toList==(⟨#[45]⟩:ByteArray).toList)=decide (x.data.toList= [45]):=by
 rw[di,decide_eq_decide];exact⟨fun e=>by rw[e],fun e=>by rw[←JO x,e]⟩
theorem Ar{x:ByteArray}:(x.toList==(⟨#[]⟩:ByteArray).toList)=decide (x.data.toList= []):=by
 rw[di,decide_eq_decide];exact⟨fun e=>by rw[e],fun e=>by rw[←JO x,e]⟩
theorem NA{x:ByteArray}(hx:x.size≤1000000){h:ad}{K:ByteArray×Bool→ad→Prop}(f:∀h',Upd No h h'→K (Xz (i7 x.data.toList)) h'):HC PG zB [.string x] [.c .str,.c .bool] K h:=by
 refine OY x ?_;unfold FF;have k:=nI x;rw[Kk];refine aF (fun e=>?_) fun e=>?_
 ·have:=f h (Upd.refl _ _)
  rw[i7,if_pos e]at this;exact this
 rw[i7,if_neg e]at f;refine Join.plain (CondP.intro (fun j=>aA.2 ?_) fun j=>⟨by decide,CondP.intro (fun e1=>?_) fun e1=>?_⟩)
 ·have j:x.size=0:=by simpa using j
  have:=f h (Upd.refl _ _);rw[if_pos (bp.1 (by omega))]at this;exact this
 ·have j:x.size≠0:=by simpa using j
  have e1:iY (x.size:Int) 2=1:=by simpa using e1
  rw[fj (by omega)]at e1;have:=f h (Upd.refl _ _);rw[if_neg (fun e=>by rw[e]at k;simp at k;omega),Bs _ (by omega)]at this;exact this
 ·have j:x.size≠0:=by simpa using j
  have e1:iY (x.size:Int) 2≠1:=by simpa using e1
  rw[fj (by omega)]at e1;rw[if_neg (fun e=>by rw[e]at k;simp at k;omega)]at f
  refine LoopP.ghost (fun(g:Nat×List UInt8) (t:SliceV×Int) h'=>t.2=((2*g.1:Nat):Int)∧2*g.1≤x.size∧gd (x.data.toList.take (2*g.1))=some g.2∧g.2.length=g.1∧OwnS KW 1 ll (fun y=>h.size≤y) h' t.1 g.2∧Upd No h h') (fun g=>x.size-g.1) (0,[]) ⟨rfl,aV _,rfl,rfl,OwnS.nil ED,Upd.refl _ _⟩ ?_
  rintro I ⟨i,out⟩ ⟨H,J⟩ h' ⟨e2,hi,n,v,w,s⟩ F;simp only at e2 hi n v w;subst e2;refine aF (fun p=>?_) fun A=>?_
  ·have p:2*i<x.size:=by have:((2*i:Nat):Int)<(x.size:Int):=p;omega
   obtain⟨a,b,E,b1,d,t⟩:=Yu (x:=x) (i:=2*i) (by omega);have B:ac .i64 (((2*i:Nat):Int)+1)=((2*i+1:Nat):Int):=by rw[kO (by omega)];omega
   have m:gd x.data.toList=(gd (a::b::x.data.toList.drop (2*i+2))).map (out++ ·):=by
    have C:=tp (x.data.toList.take (2*i)) (x.data.toList.drop (2*i)) (by rw[be];omega);rw[bT,n,d]at C;exact C
   refine Join.plain ⟨a,by simp only;omega,E,b,by rw[B];omega,by rw[B];exact b1,Ov (Ov ?_)⟩
   have N:qC a≤16:=V9 a;have O:qC b≤16:=V9 b;have q:¬(qC a<16∧qC b<16)→K (aG [],false) h':=fun v=>by
    have:=f h' s;rw[m]at this;unfold gd at this;rw[if_neg v]at this;exact this
   refine Join.plain (aF (fun c=>aA.2 (q (by omega))) fun c=>aF (fun G=>q (by omega)) fun G=>?_)
   have L:=s.size;refine bj (Ih (b:=cq (16*qC a+qC b)) ?_ w (fun y D=>by omega) (by omega) fun s' z o u=>?_)
   ·rw[UInt8.toNat_ofNat_of_lt' (by show _<256;omega),jN,jN];omega
   ·show I (s',ac .i64 (((2*i:Nat):Int)+2)) z
    rw[show ac .i64 (((2*i:Nat):Int)+2)=((2*(i+1):Nat):Int)from by rw[kO (by omega)];omega]
    refine F (i+1,out++ [cq (16*qC a+qC b)]) _ _ ⟨rfl,by simp only;omega,?_,by simp[v],o,s.trans u fun y D=>.inr D⟩ (by simp only;omega)
    rw[show 2*(i+1)=2*i+2 from by omega,t,tp _ _ (by rw[be];omega),n]
    simp only[gd,if_pos (show qC a<16∧qC b<16 from by omega)]
    rfl
  ·have hi:2*i=x.size:=by have:¬((2*i:Nat):Int)<(x.size:Int):=A;omega
   rw[hi,←k,bJ]at n;rw[n]at f;refine⟨aG out,?_,f h' s⟩;rw[pk];simpa using(w.sl (W:=No) fun _ _ _ h=>h).srow
end Go.Proofs
namespace Go.Proofs
open Go Go.Lift
theorem rc(a b:List UInt8):aG a++aG b=aG (a++b):=by
 apply wd;rw[ByteArray.data_append];simp
theorem cu(a:List UInt8):(aG a).size=a.length:=cP
theorem Oy:∀(k n:Nat),n<10^(k+1)→(dL n).length≤k+1
 |0,n,h=>by rw[oJ (by simpa using h)];simp
 |k+1,n,h=>by
  by_cases c:n<10
  ·rw[oJ c];simp
  ·rw[xO c,aj]
   have:=Oy k (n/10) (by rw[Nat.pow_succ]at h;omega);simp only[bO];omega
theorem KS{n:Nat}(h:n<18446744073709551616):(dL n).length≤20:=Oy 19 n (by omega)
theorem Ej:∀(n:Nat),n<18446744073709551616→∀{h:ad} {K:ByteArray→ad→Prop},K (aG (dL n)) h→HC PG pi [.int .u64 (n:Int)] [.c .str] K h:=by
 intro n;induction n using Nat.strongRecOn with
 |ind n ih=>
  intro f h K b;refine Ub (n:Int) ?_;unfold K4;have e1:iY (n:Int) 10=((n%10:Nat):Int):=by rw[fj (by omega)];omega
  have e2:ac .u64 (((n%10:Nat):Int)+1)=((n%10+1:Nat):Int):=by rw[dZ];omega
  have e:ac .u64 (xe (n:Int) 10)=((n/10:Nat):Int):=by rw[mP (by omega),dZ];omega
  have key:∀d:Fin 10,(⟨#[48,49,50,51,52,53,54,55,56,57]⟩:ByteArray).extract d.val (d.val+1)=aG [cq (48+d.val)]:=by decide+kernel
  have a:=key ⟨n%10,Nat.mod_lt _ (by omega)⟩;simp only at a;rw[e1,e2,e,ak,ak,a];refine⟨by decide,by decide,⟨by omega,by show _≤((10:Nat):Int);omega⟩,⟨by omega,by omega⟩,Ft (aF (fun c=>?_) fun c=>⟨by decide,ih (n/10) (by omega) (by omega) ⟨?_,?_⟩⟩)⟩
  ·rw[oJ (by omega)]at b
   rw[Nat.mod_eq_of_lt (by omega)];exact b
  ·have:=KS (n:=n/10) (by omega)
   rw[cu,cu];simp only[bO];omega
  ·rw[rc,←xO (by omega)];exact b
theorem LY:∀(v:List UInt8) (a:Nat),a≤v.foldl (fun a c=>10*a+(c.toNat-48)) a
 | [],_=>av _
 |c::v,a=>aU (show a≤10*a+(c.toNat-48) by omega) (LY v _)
theorem SJ(u v:List UInt8):mz u≤mz (u++v):=by
 unfold mz;rw[List.foldl_append];exact LY _ _
abbrev Vv(o:Option Nat):Int×Bool:=match o with|some n=>((n:Int),true)|none=>(0,false)
theorem Lw{x:ByteArray}(hx:x.size≤1000000){h:ad}{K:Int×Bool→ad→Prop}(p:K (Vv (mI x.data.toList)) h):HC PG xL [.string x] [.c (.int .u64),.c .bool] K h:=by
 refine Ms x ?_;unfold DJ;have s:=nI x;have no:(x.size=0∨20<x.size∨(x.data.toList.head? =some 48∧1<x.size)∨x.data.toList.all Jh=false∨18446744073709551616≤mz x.data.toList)→K (0,false) h:=fun hc=>by
  rw[NS,s,if_pos hc]at p;exact p
 refine Join.intro (fun t h'=>h'=h∧t=decide (x.size=0∨20<x.size∨(x.data.toList.head? =some 48∧1<x.size))) (fun R j=>?_) ?_
 ·refine CondP.intro (fun e=>j _ _ ⟨rfl,?_⟩) fun e=>aF (fun e2=>j _ _ ⟨rfl,?_⟩) fun e2=>?_
  ·have e:x.size=0:=by simpa using e
   exact(decide_eq_true (.inl e)).symm
  ·exact(decide_eq_true (.inr (.inl (by omega)))).symm
  ·have e:x.size≠0:=by simpa using e
   obtain⟨b,b1,b2,_⟩:=QY (x:=x) (i:=0) (by omega);have C:x.data.toList.head? =some b:=by rw[List.head?_eq_getElem?];exact b2
   refine⟨b,by omega,b1,CondP.intro (fun g=>j _ _ ⟨rfl,?_⟩) fun g=>j _ _ ⟨rfl,?_⟩⟩
   ·have D:(b.toNat:Int)=48:=by simpa using g
    have g:b=48:=jL.1 (show b.toNat=48 by omega)
    rw[C,g,decide_eq_decide];exact⟨fun a=>.inr (.inr ⟨rfl,by omega⟩),fun a=>by rcases a with a|a|a<;>omega⟩
   ·have g:b≠48:=fun D=>by rw[D]at g;exact absurd g (by decide)
    rw[C,eq_comm,decide_eq_false_iff_not];rintro(a|a|⟨a,_⟩)
    ·omega
    ·omega
    ·exact g (bq.inj a)
 rintro t h' ⟨m,rfl⟩;subst m;refine aF (fun c=>no ?_) fun c=>?_
 ·rcases c with c|c|c
  ·exact .inl c
  ·exact .inr (.inl c)
  ·exact .inr (.inr (.inl c))
 refine LoopP.ghost (fun(i:Nat) (t:Int×Int) q=>t.2=(i:Int)∧q=h'∧i≤x.size∧(x.data.toList.take i).all Jh=true∧t.1=(mz (x.data.toList.take i):Int)∧mz (x.data.toList.take i)<18446744073709551616) (fun i=>x.size-i) 0 ⟨rfl,rfl,aV _,rfl,rfl,(show(0:Nat)<18446744073709551616 by omega)⟩ ?_
 rintro I i ⟨G,J⟩ q ⟨e1,m,hi,A,e2,F⟩ E;simp only at e1 e2;subst e1 m e2;refine aF (fun f=>?_) fun z=>?_
 ·have f:i<x.size:=by have:(i:Int)<(x.size:Int):=f;omega
  obtain⟨b,b1,b2,b3⟩:=QY f;have y:=b.toNat_lt;have split:x.data.toList=x.data.toList.take (i+1)++x.data.toList.drop (i+1):=(bT _ _).symm;refine Join.intro (fun t o=>o=q∧t= !Jh b) (fun R j=>⟨b,by simp only;omega,b1,aF (fun c=>j _ _ ⟨rfl,?_⟩) fun c=>⟨b,by simp only;omega,b1,j _ _ ⟨rfl,?_⟩⟩⟩) ?_
  ·unfold Jh;rw[decide_eq_false (by omega:¬48≤b.toNat)];rfl
  ·unfold Jh;rw[decide_eq_true (by omega:48≤b.toNat),Bool.true_and,←decide_not,decide_eq_decide];omega
  rintro t o ⟨m,e⟩;subst m e;refine CondP.intro (fun c=>no (.inr (.inr (.inr (.inl ?_))))) fun c=>?_
  ·rw[List.all_eq_false]
   exact⟨b,List.mem_of_getElem? b2,by simpa using c⟩
  have c:Jh b=true:=by simpa using c
  obtain⟨c1,H⟩:=Gw.1 c;have w:ac .u64 (ac .u8 ((b.toNat:Int)-48))=((b.toNat-48:Nat):Int):=by rw[dZ,jN];omega
  have B:=Ai (x.data.toList.take i) b;rw[←b3]at B;have k:18446744073709551616≤10*mz (x.data.toList.take i)+(b.toNat-48)→K (0,false) o:=fun y=>no (.inr (.inr (.inr (.inr (by
   have:=SJ (x.data.toList.take (i+1)) (x.data.toList.drop (i+1))
   rw[←split]at this;omega)))))
  have go:10*mz (x.data.toList.take i)+(b.toNat-48)<18446744073709551616→Bd (ac .u64 ((ac .u64 (10*(mz (x.data.toList.take i):Int)))+(ac .u64 (ac .u8 ((b.toNat:Int)-48)))):Int) (fun u=>I (u,ac .i64 ((i:Int)+1)) o):=fun y=>by
   refine Ft ?_;rw[w,show ac .u64 ((ac .u64 (10*(mz (x.data.toList.take i):Int)))+((b.toNat-48:Nat):Int))=((10*mz (x.data.toList.take i)+(b.toNat-48):Nat):Int)from by rw[dZ,dZ];omega,cM f (by omega)]
   refine E (i+1) _ _ ⟨rfl,rfl,f,?_,by simp only[B],by rw[B];exact y⟩ (by omega)
   rw[b3,List.all_append,A];simp[c]
  refine⟨b,by simp only;omega,b1,Join.plain (aF (fun d=>aA.2 (k (by simp only at d;omega))) fun d=>CondP.intro (fun n=>?_) fun n=>af.2 (go ?_))⟩
  ·have n:(mz (x.data.toList.take i):Int)=1844674407370955161:=by simpa using n
   refine aF (fun v=>k ?_) fun v=>go ?_
   ·rw[w]at v;omega
   ·rw[w]at v;omega
  ·have n:(mz (x.data.toList.take i):Int)≠1844674407370955161:=by simpa using n
   omega
 ·have hi:i=x.size:=by have:¬(i:Int)<(x.size:Int):=z;omega
  rw[hi,←s,bJ]at A F⊢;rw[NS,s,if_neg]at p
  ·exact p
  ·rintro(a|a|a|a|a)
   ·exact c (.inl a)
   ·exact c (.inr (.inl a))
   ·exact c (.inr (.inr a))
   ·rw[A]at a;cases a
   ·omega
end Go.Proofs
namespace Go.Proofs
open Go Go.Lift
theorem Nm{b:Nat}{h:ad}{K:Bool→ad→Prop}(a:K false h):HC PG oU [.pointer (some ⟨b,0,none⟩),.pointer none] [.c .bool] K h:=by
 refine B6 _ none ?_;unfold ug iQ;exact aA.2 (yY (af.2 a))
abbrev Ym:List Value:= [.string (⟨#[]⟩:ByteArray),.bool false,.string (⟨#[]⟩:ByteArray),.slice none 0 0,.pointer none]
theorem pw{W:Nat→Prop}{h:ad}{b:Nat}{sl val:ByteArray}{has:Bool}{s:SliceV}{ow:Option Addr}{ks:List (Option Addr)}(d:h[b]? =some (.cells (G4 sl has val s ow) bV (0,0))) (B:Sl xh 1 W h s ks) (D:ks.length≤256) {K:Option Addr→ad→Prop}
  (A:∀h' s',h'[h.size]? =some (.cells (G4 sl has val s' none) bV (0,0))→OwnS xh 1 bP (fun x=>h.size<x∧x<h'.size) h' s' ks→Upd No h h'→K (some ⟨h.size,0,none⟩) h'):
  HC PG dW [.pointer (some ⟨b,0,none⟩),.pointer none] [.c .ptr] K h:=by
 refine EN _ none ?_;unfold wV nv bL cI bM bW jf iQ MP ZA;refine Nm (af.2 ?_);refine⟨_,rfl,sl,gF (i:=0) d,has,gF (i:=1) d,val,gF (i:=2) d,s,gF (i:=3) d,ow,gF (i:=4) d,bj ?_⟩;have k1:=Upd.hnew No h Ym bV;have b1:=bI h Ym bV;simp only[df h];generalize hnew h [.string (⟨#[]⟩:ByteArray),.bool false,.string (⟨#[]⟩:ByteArray),.slice none 0 0,.pointer none] bV=h1 at k1 b1
 refine cS (c:=Ym) (vs:= [.string sl,.bool has,.string val,.slice s.a s.len s.cap,.pointer ow]) b1 rfl fun t b2 q=>?_
 have k:Upd No h t:=k1.trans q fun x hx=>.inr (gv hx.symm)
 have z:h.size<t.size:=bB b2;have p:=k.get0 d;refine⟨_,rfl,s,gF (i:=3) p,?_⟩;refine TW (B.upd k fun _ h=>h.elim) (by omega) fun n y o f=>?_
 have b3:y[h.size]? =some (.cells (G4 sl has val s ow) bV (0,0)):=f.get0 b2;refine⟨WX (i:=3) b3 (show 3<5 by decide),IU (i:=3) (c':=G4 sl has val n ow) b3 rfl fun E u j=>?_⟩
 refine⟨WX (i:=4) u (show 4<5 by decide),IU (i:=4) (c':=G4 sl has val n none) u rfl fun v w m=>?_⟩
 refine yY (af.2 ?_);have a:=j.tr m;have C:=a.size;have g:=(o.within.upd a fun x hx e=>by have e:x=h.size:=e;have:=hx.1;omega).more (M':=fun x=>h.size<x∧x<v.size) fun x hx=>⟨by have:=hx.1;omega,by have:=hx.2;omega⟩
 exact A v n w g ((k.tr f).trans a fun x hx=>.inr (gv hx.symm))
theorem xw{h:ad}{b:Nat}{sl nl:ByteArray}{has:Bool}{val:ByteArray}{s:SliceV}{ow:Option Addr}(a:h[b]? =some (.cells (G4 sl has val s ow) bV (0,0))) {K:Option Addr→ad→Prop}
  (c:∀h',h'[b]? =some (.cells (G4 nl has val s ow) bV (0,0))→Upd (· =b) h h'→K (some ⟨b,0,none⟩) h'):HC PG gZ [.pointer (some ⟨b,0,none⟩),.string nl] [.c .ptr] K h:=by
 refine B4 _ nl ?_;unfold ue bM;exact⟨_,rfl,WX (i:=0) a (show 0<5 by decide),IU (i:=0) (c':=G4 nl has val s ow) a rfl c⟩
theorem E4{h:ad}{b:Nat}{sl v:ByteArray}{has:Bool}{val:ByteArray}{s:SliceV}{ow:Option Addr}(d:h[b]? =some (.cells (G4 sl has val s ow) bV (0,0))) {K:Option Addr→ad→Prop}
  (e:∀h',h'[b]? =some (.cells (G4 sl true v s ow) bV (0,0))→Upd (· =b) h h'→K (some ⟨b,0,none⟩) h'):HC PG ko [.pointer (some ⟨b,0,none⟩),.string v] [.c .ptr] K h:=by
 refine AM _ v ?_;unfold sI bM;exact⟨_,rfl,WX (i:=1) d (show 1<5 by decide),IU (i:=1) (c':=G4 sl true val s ow) d rfl fun g b1 a=>⟨_,rfl,WX (i:=2) b1 (show 2<5 by decide),IU (i:=2) (c':=G4 sl true v s ow) b1 rfl fun f b2 c=>e f b2 (a.tr c)⟩⟩
theorem PU{h:ad}{k v:ByteArray}{K:Option Addr→ad→Prop}(g:∀h' b s,h'[b]? =some (.cells (G4 k true v s none) bV (0,0))→s.len=0→s.len≤s.cap→h.size≤b→Upd No h h'→K (some ⟨b,0,none⟩) h'):HC PG vN [.pointer none,.string k,.string v] [.c .ptr] K h:=by
 refine Jr none k v ?_;unfold Bf nZ jf MP;have k1:=Upd.hnew No h Ym bV;have b1:=bI h Ym bV;refine bj ?_;simp only[df h];generalize hnew h [.string (⟨#[]⟩:ByteArray),.bool false,.string (⟨#[]⟩:ByteArray),.slice none 0 0,.pointer none] bV=h1 at k1 b1;refine pw (W:=No) (ks:= []) (sl:=⟨#[]⟩) (val:=⟨#[]⟩) (has:=false) (s:=⟨none,0,0⟩) (ow:=none) b1 (Sl.nil px) (aV _) fun n s b2 a d=>?_
 refine xw (nl:=k) b2 fun o b3 f=>E4 (v:=v) b3 fun i m e=>?_
 have c:=f.tr e;have z:=d.size;have j:=k1.size;refine g i h1.size s m a.len a.cap j ((k1.tr d).trans c fun x hx=>.inr (by have hx:x=h1.size:=hx;omega))
theorem Z0{W:Nat→Prop}{h:ad}{b:Nat}{k v:ByteArray}{s:SliceV}{ow:Option Addr}(c:h[b]? =some (.cells (G4 k true v s ow) bV (0,0))) (a:s.len=0) (hc:s.len≤s.cap) (nw:¬W b):RxN W h b k (some v) .nil:=
 ⟨v,s,ow,[],c,rfl,⟨a,px,fun h=>absurd rfl h⟩,⟨hc,nw⟩,rfl⟩
theorem HT(s:ByteArray)(c:Nat):(s.extract 0 c).data.toList=s.data.toList.take c:=by
 rw[gB,Array.toList_extract,gN];simp
theorem HU(s:ByteArray)(c:Nat):(s.extract c s.size).data.toList=s.data.toList.drop c:=by
 rw[gB,Array.toList_extract,gN,List.take_of_length_le];rw[aS];simp
theorem PT{W:Nat→Prop}{h:ad}{b:Nat}{sl:ByteArray}{w:Option ByteArray}{F:Fo}(r:RxN W h b sl w F)(A:∀y,W y→y<h.size)(hn:F.toL.length≤256){c:Nat}(hc:c≤sl.size){K:Option Addr→ad→Prop}
  (hk:∀h' b',RxN W h' b' (sl.extract 0 c) none (.cons (sl.data.toList.drop c) w F .nil)→Upd No h h'→K (some ⟨b',0,none⟩) h'):HC PG oQ [.pointer (some ⟨b,0,none⟩),.pointer none,.int .i64 c] [.c .ptr] K h:=by
 refine B2 _ none c ?_;unfold ud bL bM nZ jf MP;obtain⟨val,s,ow,ks,P,U,hs,J,I⟩:=r;have lab:∀{h'},Upd No h h'→aD h' (adr ⟨b,0,none⟩ 0)=some (.string sl):=fun k=>gF (i:=0) (k.get0 P)
 have Y:=Upd.refl No h;refine⟨_,rfl,sl,lab Y,⟨by omega,by omega⟩,bj ?_⟩
 have k1:=Upd.hnew No h Ym bV;have b1:=bI h Ym bV;simp only[df h];generalize hnew h [.string (⟨#[]⟩:ByteArray),.bool false,.string (⟨#[]⟩:ByteArray),.slice none 0 0,.pointer none] bV=h1 at k1 b1;refine⟨lab k1,?_⟩;refine pw (W:=No) (ks:= []) (sl:=⟨#[]⟩) (val:=⟨#[]⟩) (has:=false) (s:=⟨none,0,0⟩) (ow:=none) b1 (Sl.nil px) (aV _) fun h2 S b2 _ z=>⟨lab (k1.tr z),?_⟩
 rw[ak];refine xw b2 fun d b3 E=>?_
 have z1:=k1.size;have a:Upd No h d:=(k1.tr z).trans E fun x hx=>.inr (by have hx:x=h1.size:=hx;omega)
 refine pw (a.get0 P) (hs.upd a fun _ h=>h.elim) (by rw[(mY.1 I).1];exact hn) fun h4 V O D o=>?_
 refine⟨_,rfl,sl,gF (i:=0) O,⟨by omega,by omega⟩,?_⟩
 refine xw (nl:=sl.extract c sl.size) O fun f R n=>?_
 have m:Upd No h f:=(a.tr o).trans n fun x hx=>.inr (by have hx:x=d.size:=hx;have:=a.size;omega)
 have G:=D.upd n fun x hx e=>by have e:x=d.size:=e;have:=hx.1;omega
 have T:=bB b3;have p:f[h1.size]? =some (.cells (G4 (sl.extract 0 c) false ⟨#[]⟩ S none) bV (0,0)):=n.get (o.get0 b3) (by show ¬h1.size=d.size;omega);have q:=Upd.hnew No f [.pointer (some ⟨d.size,0,none⟩)] bP;have L:=bI f [.pointer (some ⟨d.size,0,none⟩)] bP;have Z:=m.size;have Q:=a.size;refine bj ?_;simp only[df f]
 generalize hnew f [.pointer (some ⟨d.size,0,none⟩)] bP=h6 at q L;have u:=q.get0 p;have N:=bB p;refine⟨_,rfl,WX (i:=3) u (show 3<5 by decide),IU (i:=3) (c':=G4 (sl.extract 0 c) false ⟨#[]⟩ ⟨some ⟨f.size,0,none⟩,1,1⟩ none) u rfl fun C b7 g=>?_⟩
 have j:Upd No h C:=(m.tr q).trans g fun x hx=>.inr (by have hx:x=h1.size:=hx;omega)
 have H:C[f.size]? =some (.cells #[.pointer (some ⟨d.size,0,none⟩)] bP (0,0)):=g.get L (by show ¬f.size=h1.size;omega);have B:=g.get (q.get0 R) (by show ¬d.size=h1.size;omega);have t:=(G.upd q fun _ _ h=>h).upd g fun x hx e=>by have e:x=h1.size:=e;have:=hx.1;omega
 refine hk C h1.size ⟨⟨#[]⟩,_,none,[some ⟨d.size,0,none⟩],b7,rfl,⟨rfl,px,fun _=>⟨_,rfl,(fun hx=>by have hx:W f.size:=hx;have:=A _ hx;omega),py H fun i v hi=>?_⟩⟩,⟨av _,fun hx=>by have:=A _ hx;omega⟩,?_⟩ j
 ·rw[aR]
  rw[←dP]at hi;exact hi
 ·refine⟨d.size,sl.extract c sl.size,val,V,none,ks,[],rfl,HU ..,B,U,t.sl (fun x hx _ X=>by have:=A _ X;have:=hx.1;omega),⟨t.cap,fun hx=>by have:=A _ hx;omega⟩,RxF.upd0 j I,rfl⟩
end Go.Proofs
namespace Go.Proofs
open Go Go.Lift
theorem Wg:∀{x y:List UInt8} {i:Nat},i≤x.length→i≤y.length→(∀j,j<i→x[j]? =y[j]?)→(i=x.length∨i=y.length∨x[i]?≠y[i]?)→cm x y=i
 | [],_,i,h1,_,_,_=>by simp at h1;simp[cm,h1]
 |_::_,[],i,_,h2,_,_=>by simp at h2;simp[cm,h2]
 |a::x,b::y,0,_,_,_,h=>by
  unfold cm;rw[if_neg];rintro rfl;rcases h with h|h|h<;>simp at h
 |a::x,b::y,i+1,h1,h2,h3,h4=>by
  have:=h3 0 (by omega);simp only[List.getElem?_cons_zero,bq.injEq]at this;unfold cm;rw[if_pos this,Wg (i:=i) (by simpa using h1) (by simpa using h2) (fun j c=>by simpa using h3 (j+1) (by omega)) (by simpa using h4)]
theorem TT{a b:ByteArray}(w:a.size≤1000000){h:ad}{K:Int→ad→Prop}(n:K (cm a.data.toList b.data.toList:Nat) h):HC PG vI [.string a,.string b] [.c (.int .i64)] K h:=by
 refine Jn a b ?_;unfold Ba;simp only[Bd];have f:(if(b.size:Int)<(a.size:Int)then(b.size:Int)else(a.size:Int))=((min a.size b.size:Nat):Int):=by split<;>omega
 rw[f];have x:a.data.toList.length=a.size:=by simp
 have y:b.data.toList.length=b.size:=by simp
 refine LoopP.ghost (fun(i:Nat) (t:Int) h'=>t=(i:Int)∧i≤min a.size b.size∧h'=h∧∀j,j<i→a.data.toList[j]? =b.data.toList[j]?) (fun i=>min a.size b.size-i) 0 ⟨rfl,aV _,rfl,fun j s=>absurd s (Nat.not_lt_zero _)⟩ ?_
 rintro I i t h' ⟨rfl,hi,rfl,o⟩ v;refine aF (fun c=>?_) fun u=>?_
 ·have c:i<min a.size b.size:=by omega
  have g:i<a.size:=by omega
  have m:i<b.size:=by omega
  refine⟨a[i],by omega,by rw[ak,getElem?_pos a i g],b[i],by omega,by rw[ak,getElem?_pos b i m],?_⟩
  have e1:a.data.toList[i]? =some a[i]:=by rw[←Oh,getElem?_pos a i g]
  have e2:b.data.toList[i]? =some b[i]:=by rw[←Oh,getElem?_pos b i m]
  refine CondP.intro (fun k=>?_) fun d=>?_
  ·rw[Wg (i:=i) (by omega) (by omega) o (.inr (.inr fun e=>?_))]at n
   ·exact n
   ·rw[e1,e2]at e
    rw[bq.inj e]at k;simp at k
  ·have d:a[i]=b[i]:=by
    have:((a[i].toNat:Int))=(b[i].toNat:Int):=by simpa using d
    exact jL.1 (by omega)
   rw[cM c (by omega)];refine v (i+1) _ _ ⟨rfl,c,rfl,fun j s=>?_⟩ (by omega)
   rcases cC j i with q|q
   ·exact o j q
   ·have:j=i:=by omega
    subst this;rw[e1,e2,d]
 ·have p:i=min a.size b.size:=by omega
  rw[Wg (i:=i) (by omega) (by omega) o (by omega)]at n;rw[←p];exact n
theorem Ta{F:Fo}{i:Nat}{k:List UInt8}{v:ByteArray}(h:j5 F)(hi:i<F.toL.length)(ek:hd F.toL[i].1=hd k)(a:vU (yL F.toL[i]) (yL F.toL[i]) k v):vU (uT F) (uT F) k v:=by
 have:=NC h hi ek a;rw[List.set_getElem_self,Fo.of_to]at this;exact this
theorem Vm{P Q a:List UInt8→ByteArray→Prop}{k:List UInt8}{v:ByteArray}(h:vU P a k v)(e:∀k v,P k v↔Q k v):vU Q a k v:=fun k' b=>by rw[h k' b,e]
set_option maxHeartbeats 1000000 in
theorem U8{W:Nat→Prop}:∀(n:Nat) {b:Nat} {sl:ByteArray} {w:Option ByteArray} {F:Fo} {h:ad} (k v:ByteArray),k.size<n→k.size≤1000000→RxN W h b sl w F→(∀y,W y→y<h.size)→j5 F→∀{K:(Option Addr)×Bool×Bool→ad→Prop},
  (∀h' b' w' V C ch,Upd No h h'→RxN W h' b' sl w' V→j5 V→vU (wM w F) (wM w' V) k.data.toList v→(ch=false→b'=b∧w'=w∧V=F)→(wM w F k.data.toList v→ch=false)→K (some ⟨b',0,none⟩,C,ch) h')→
  HC PG ni [.pointer (some ⟨b,0,none⟩),.pointer none,.string k,.string v] [.c .ptr,.c .bool,.c .bool] K h:=by
 intro n;induction n with
 |zero=>intro b sl w F h k v hk;omega
 |succ n ih=>
  intro b sl w F h k v H hk6 r Z hc K hk;refine EM (some ⟨b,0,none⟩) none k v ?_;unfold wU bi cU PC bL cI bM eu bW nZ jf UF YD La;have hr:=r;obtain⟨val,s,ow,ks,hb,hv,hs,hcap,hF⟩:=r;have Y:=mY.1 hF;have hn:=AA hc;have hcan:=fc.1 hc;rw[di];refine aF (fun hk0=>?_) fun hk0=>?_
  ·have hke:k.data.toList= []:=by rw[hk0]
   rw[hke]at hk;refine Join.intro (fun t h'=>t=decide (w=some v)∧h'=h) (fun R hR=>⟨_,rfl,w.isSome,gF (i:=1) hb,?_⟩) ?_
   ·cases G:w with
    |none=>exact af.2 (hR _ _ ⟨by rw[G];rfl,rfl⟩)
    |some u=>
     refine aA.2 ⟨_,rfl,val,gF (i:=2) hb,hR _ _ ⟨?_,rfl⟩⟩;rw[di,vw hv u G,G];exact decide_eq_decide.2 ⟨fun e=>by rw[e],fun e=>bq.inj e⟩
   ·rintro t h' ⟨rfl,rfl⟩
    refine aF (fun e=>?_) fun e=>?_
    ·refine hk h' b w F false false (Upd.refl _ _) hr hc ?_ (fun _=>⟨rfl,rfl,rfl⟩) fun _=>rfl
     rw[e];exact Kc hc v
    ·refine⟨_,rfl,w.isSome,gF (i:=1) hb,?_⟩
     refine pw hb hs (by rw[Y.1];exact hn) fun h1 s1 b1 ho1 z=>?_
     refine⟨gF (i:=1) (z.get0 hb),?_⟩;refine E4 b1 fun A b2 B=>?_
     have d:Upd No h' A:=z.trans B fun x hx=>.inr (gv (Eq.symm hx))
     refine⟨gF (i:=1) (d.get0 hb),?_⟩;have ho2:=ho1.upd B fun x hx e=>by have e:x=h'.size:=e;have:=hx.1;omega
     refine hk A h'.size (some v) F _ true d ⟨v,s1,none,ks,b2,rfl,ho2.sl (fun x hx _ G=>by have:=Z _ G;have:=hx.1;omega),⟨ho2.cap,fun hx=>kf _ (Z _ hx)⟩,RxF.upd0 d hF⟩ hc (Kc hc v) (fun h=>by cases h) fun o=>?_
     rcases o with⟨_,h⟩|h
     ·exact absurd h e
     ·exact absurd rfl (Et hc h)
  ·have f:k.data.toList≠[]:=fun e=>hk0 (by cases k;exact congrArg xY (kN.1 e))
   obtain⟨c0,hc0,hc0e⟩:=LW f;refine⟨c0,Int.le_refl _,hc0,?_⟩;have hlk:k.data.toList.length=k.size:=by simp
   refine Ef hr hc (c:=c0.toNat) (UInt8.toNat_lt _) fun i ok hil hlo hhi hok=>?_
   rw[hc0e]at hlo hhi hok;cases ok with
   |false=>
    have hno:∀hi:i<F.toL.length,hd F.toL[i].1≠hd k.data.toList:=fun hi e=>by have:=hok.2 ⟨hi,e⟩;cases this
    have hhi':∀j (hj:j<F.toL.length),i≤j→hd k.data.toList<hd F.toL[j].1:=fun j hj hij=>by
     have h1:=hhi j hj hij;rcases cC i j with X|X
     ·have A:=List.pairwise_iff_getElem.1 hcan.1 i j (by omega) hj X
      have h3:=hhi i (by omega) (av _);omega
     ·have:i=j:=by omega
      subst this;have:=hno hj;omega
    obtain⟨hc',hp'⟩:=Tc (v:=v) hc f hlo hhi';refine aA.2 ?_;refine pw hb hs (by rw[Y.1];exact hn) fun h1 s1 b1 ho1 z=>?_
    refine⟨_,rfl,s1,gF (i:=3) b1,?_⟩;refine PU fun A fb fs fb2 hf0 hfc hfb B=>⟨gF (i:=3) (B.get0 b1),bj ?_⟩
    have k3:=Upd.hnew No A [.pointer (some ⟨fb,0,none⟩)] bP;have b3:=bI A [.pointer (some ⟨fb,0,none⟩)] bP;have z3:(hnew A [.pointer (some ⟨fb,0,none⟩)] bP).size=A.size+1:=eT ..;simp only[df A];generalize hnew A [.pointer (some ⟨fb,0,none⟩)] bP=h3 at k3 b3 z3;have E:=B.tr k3;refine⟨gF (i:=3) (E.get0 b1),?_⟩;have z1:=bB b1
    have z2:=B.size;have zf:=bB fb2;have ho3:=(ho1.upd E fun _ _ h=>h).more (M':=fun x=>(h.size<x∧x<h1.size)∨h3.size≤x) fun x hx=>.inl hx
    refine Qz ho3 (k:=i) (by rw[Y.1];exact hil) (by rw[Y.1];omega) b3 (by rintro(h|h)<;>omega) (fun x hx=>.inr hx) fun s4 h4 Q J=>?_
    have b4:=J.get (E.get0 b1) (by rintro(h|h)<;>omega)
    have f4:=J.get (k3.get0 fb2) (by rintro(h|h)<;>omega)
    refine⟨_,rfl,WX (i:=3) b4 (show 3<5 by decide),IU (i:=3) (c':=G4 sl w.isSome val s4 none) b4 rfl fun h5 b5 hu5=>?_⟩
    have hu05:Upd No h h5:=((z.tr E).trans J fun x hx=>.inr (by have:=z.size;rcases hx with hx|hx<;>omega)).trans hu5 fun x hx=>.inr (gv (Eq.symm hx))
    have ho5:=Q.upd hu5 fun x hx e=>by have e:x=h.size:=e;rcases hx with hx|hx<;>omega
    have f5:=hu5.get f4 (by show ¬fb=h.size;omega);refine hk h5 h.size w _ true true hu05 ⟨val,s4,none,_,b5,hv,ho5.sl (fun x hx _ G=>by have:=Z _ G;rcases hx with hx|hx<;>omega),⟨ho5.cap,fun hx=>kf _ (Z _ hx)⟩,mY.2 (by rw[Fo.to_of];exact(Y.upd0 hu05).ins i ⟨fb,k,rfl,rfl,Z0 f5 hf0 hfc fun hx=>by have:=Z _ hx;omega⟩)⟩ hc' (Ek f hp') (fun h=>by cases h) fun o=>?_
    rcases o with⟨h,_⟩|o
    ·exact absurd h f
    ·obtain⟨n',hn',e,_⟩:=zd hc o
     obtain⟨j,hj,rfl⟩:=List.getElem_of_mem hn';rcases cC j i with X|X
     ·have:=hlo j hj X;omega
     ·have:=hhi' j hj X;omega
   |true=>
    obtain⟨hi,I⟩:=hok.1 rfl;refine af.2 ⟨_,rfl,s,gF (i:=3) hb,?_⟩;obtain⟨kb,ksl,hki,q,H⟩:=Y.at hi;have hmem:F.toL[i]∈F.toL:=List.getElem_mem hi;have g:=hcan.2 _ hmem;obtain⟨a,ha,_,hvv⟩:=hs.at0 hki;have hslen:=hs.len;rw[Y.1]at hslen;have hlt1:(i:Int)<((s.len:Nat):Int):=by omega
    refine⟨⟨by simp only;omega,hlt1⟩,a,ha,some ⟨kb,0,none⟩,hvv,_,rfl,?_⟩;obtain⟨kval,kss,kow,kks,hkb,_⟩:=id H;refine⟨ksl,gF (i:=0) hkb,TT hk6 ?_⟩;rw[q];have hc1:=Zg f g.1 I.symm;have T:=Yt k.data.toList F.toL[i].1;have S:=Sn k.data.toList F.toL[i].1;have hcd:=So k.data.toList F.toL[i].1;have hll:ksl.size=F.toL[i].1.length:=by rw[←q];simp
    have L:uT F k.data.toList v→yL F.toL[i] k.data.toList v:=fun o=>by
     obtain⟨n',hn',e,hN⟩:=zd hc o;rw[←Az hc hn' hmem (by omega)];exact hN
    have hset:∀{w2:Option ByteArray} {F2:Fo} {nl:List UInt8},nl≠[]→hd nl=hd F.toL[i].1→j5 F2→Br (wM w2 F2)→j5 (.ofL (F.toL.set i (nl,w2,F2))):=fun h1 A h3 h4=>Su hc hi ⟨h1,(Ww h3).2 h4,h3⟩ A
    have U:∀{m:Bn},vU (yL F.toL[i]) (yL m) k.data.toList v→vU (uT F) (uT (.ofL (F.toL.set i m))) k.data.toList v:=fun hp=>NC hc hi I hp
    have P:vU (yL F.toL[i]) (yL F.toL[i]) k.data.toList v→vU (uT F) (uT F) k.data.toList v:=Ta hc hi I;have hrset:∀{h':ad} {k':Option Addr} {m:Bn},Upd No h h'→Kid W h' k' m→RxL W h' (ks.set i k') (F.toL.set i m):=fun hu hkd=>(Y.upd0 hu).set hi hkd
    generalize F.toL[i]=m at q H g hc1 T S hcd hll L hset U P I;generalize hcc:cm k.data.toList m.1=c at hc1 T S hcd;obtain⟨lab,wk,Fk⟩:=m;simp only at q H g T S hcd hll I hset;refine Join.intro (fun t h'=>∃ub p wu Fu,t=some ⟨ub,0,none⟩∧Upd No h h'∧RxN W h' ub p wu Fu∧j5 Fu∧p.data.toList=k.data.toList.take c∧(∀k' v',yL (p.data.toList,wu,Fu) k' v'↔yL (lab,wk,Fk) k' v')∧(∀w' V,j5 V→vU (wM wu Fu) (wM w' V) (k.data.toList.drop c) v→Br (wM w' V))) (fun R hR=>⟨_,rfl,ksl,gF (i:=0) hkb,?_⟩) ?_
    ·refine aF (fun hlt=>?_) fun hge=>?_
     ·have hlt:c<lab.length:=by omega
      refine PT H Z (AA g.2.2) (c:=c) (by omega) fun h1 ub rn z=>hR _ _ ⟨ub,_,none,_,rfl,z,rn,?_,?_,?_,?_⟩
      ·rw[q]
       refine⟨fun e=>?_,g.2.1,g.2.2,fun _ h=>by simp[Fo.toL]at h,trivial⟩
       have:=congrArg lj e;rw[aS,bN]at this;omega
      ·rw[HT,q,S]
      ·intro k' v'
       rw[HT,q];exact KA c k' v'
      ·intro w' V hcF hp
       rw[q]at hp;refine Wt (fun e=>?_) g.2.1 g.2.2 (fun hne=>?_) hp
       ·have:=congrArg lj e
        rw[aS,bN]at this;omega
       ·refine hcd ?_ hlt
        rcases cC c k.data.toList.length with X|X
        ·exact X
        ·exact absurd (List.drop_eq_nil_of_le X) hne
     ·have hce:c=lab.length:=by omega
      refine hR _ _ ⟨kb,ksl,wk,Fk,rfl,Upd.refl _ _,H,g.2.2,?_,?_,?_⟩
      ·rw[q,S,hce,bJ]
      ·intro k' v';rw[q]
      ·intro w' V hcF hp
       exact X9 ((Ww g.2.2).1 g.2.1) hp
    ·rintro t h1 ⟨ub,p,wu,Fu,rfl,z,rn,hcu,hsl,N,hbr⟩
     refine⟨⟨by omega,by omega⟩,?_⟩
     rw[ak];have hkd:(k.extract c k.size).data.toList=k.data.toList.drop c:=HU ..;have hks:(k.extract c k.size).size=k.size-c:=by simp
     have D:k.data.toList=p.data.toList++k.data.toList.drop c:=by rw[hsl,bT]
     have O:p.data.toList≠[]:=by
      rw[hsl];intro e;have:=congrArg lj e;rw[be,bN]at this;omega
     have hslhd:hd p.data.toList=hd lab:=by
      rw[I];conv=>rhs;rw[D]
      rw[vG O]
     refine ih (k.extract c k.size) v (by rw[hks];omega) (by rw[hks];omega) rn (fun y hy=>aQ (Z y hy) z.size) hcu fun A b2 w2 F2 C ch B rn2 hc2 hp2 hsm hch=>?_
     rw[hkd]at hp2 hch;have d:=z.tr B;have hpn:vU (yL (lab,wk,Fk)) (yL (p.data.toList,w2,F2)) k.data.toList v:=by
      have:=Vm (Tb (lab:=p.data.toList) hp2) N;rw[←D]at this;exact this
     have hchg:wM w F k.data.toList v→ch=false:=fun o=>by
      rcases o with⟨h,_⟩|o
      ·exact absurd h f
      ·obtain⟨r,e,hr'⟩:=(N _ _).2 (L o)
       simp only at e;rw[D]at e;have e2:=List.append_cancel_left e;rw[←D]at e;exact hch (by rw[e2];exact hr')
     cases ch with
     |false=>
      obtain⟨_,rfl,rfl⟩:=hsm rfl;refine aA.2 (hk A b w F false false d (hr.upd0 d) hc (Ek f (P ?_)) (fun _=>⟨rfl,rfl,rfl⟩) fun _=>rfl)
      intro k' v';exact(N k' v').symm.trans (hpn k' v')
     |true=>
      refine af.2 ?_;refine pw (d.get0 hb) (hs.upd d fun _ h=>h.elim) (by rw[Y.1];exact hn) fun h3 s3 b3 ho3 hu3=>?_
      refine⟨_,rfl,s3,gF (i:=3) b3,?_⟩;have hil:i<ks.length:=by rw[Y.1];exact hi
      obtain⟨a3,ha3,hab,hw3,Q,J⟩:=OwnS.setAt ho3 hil (some ⟨b2,0,none⟩);have hlen3:=ho3.len;refine⟨⟨by simp only;omega,by simp only;omega⟩,a3,ha3,?_⟩
      have hw1:Wr h3 (adr a3 (i*1)):=by
       rcases hw3 with G|⟨b',hb',G⟩
       ·cases G
       ·cases hb';exact G 0 (by simp)
      refine⟨hw1,bj ?_⟩;have b4:=J.get b3 fun e=>by have e:A.size=a3.block:=e;have:=hab.1;omega
      have hu24:Upd No A _:=hu3.trans J fun x hx=>.inr (by have hx:x=a3.block:=hx;have:=hab.1;omega)
      have hu04:=d.tr hu24;have eset:ks.set i (some ⟨b2,0,none⟩)=ks.take i++some ⟨b2,0,none⟩::ks.drop (i+1):=by rw[List.set_eq_take_append_cons_drop,if_pos hil]
      rw[←eset]at Q;exact hk _ A.size w _ C true hu04 ⟨val,s3,none,_,b4,hv,Q.sl (fun x hx _ G=>by have:=Z _ G;have:=d.size;have:=hx.1;omega),⟨Q.cap,fun hx=>by have:=Z _ hx;have:=d.size;omega⟩,mY.2 (by rw[Fo.to_of];exact hrset hu04 ⟨b2,p,rfl,rfl,rn2.upd0 hu24⟩)⟩ (hset O hslhd hc2 (hbr _ _ hc2 hp2)) (Ek f (U hpn)) (fun h=>by cases h) hchg
end Go.Proofs
namespace Go.Proofs
open Go Go.Lift
def Qe:Fo→List (List UInt8×ByteArray)
 | .nil=> []
 | .cons lab w kids rest=>((w.map fun v=>(([]:List UInt8),v)).toList++Qe kids).map (fun p=>(lab++p.1,p.2))++Qe rest
def Vn(w:Option ByteArray)(F:Fo):List (List UInt8×ByteArray):=(w.map fun v=>(([]:List UInt8),v)).toList++Qe F
theorem Gu:∀{F:Fo} {k:List UInt8} {v:ByteArray},(k,v)∈Qe F↔uT F k v
 | .nil,_,_=>by simp[Qe,uT]
 | .cons lab w kids rest,k,v=>by
  unfold Qe uT;rw[bD,Gu (F:=rest)];refine or_congr ?_ AE;rw[List.mem_map];constructor
  ·rintro⟨⟨r,u⟩,hm,b⟩
   simp only[pW.injEq]at b;obtain⟨rfl,rfl⟩:=b;refine⟨r,rfl,?_⟩;rcases bD.1 hm with h|h
   ·left
    rw[Option.mem_toList,Option.map_eq_some_iff]at h;obtain⟨a,c,b⟩:=h;simp only[pW.injEq]at b;exact⟨b.1.symm,by rw[c,b.2]⟩
   ·exact .inr (Gu.1 h)
  ·rintro⟨r,rfl,h⟩
   refine⟨(r,v),bD.2 ?_,rfl⟩;rcases h with⟨rfl,h⟩|h
   ·left;rw[h];simp
   ·exact .inr (Gu.2 h)
theorem rj{w:Option ByteArray}{F:Fo}{k:List UInt8}{v:ByteArray}:(k,v)∈Vn w F↔wM w F k v:=by
 unfold Vn wM;rw[bD,Gu];refine or_congr ?_ AE;cases w with
 |none=>simp
 |some u=>simp[Prod.ext_iff,eq_comm]
end Go.Proofs
namespace Go.Proofs
open Go Go.Lift
structure RadAt(W:Nat→Prop)(h:ad)(b:Nat)(l:List Pr):Prop where
 ex:∃w F,RxN W h b ⟨#[]⟩ w F∧j5 F∧∀k v,(k,v)∈Vn w F↔∃p∈l,p.1.data.toList=k∧p.2=v
theorem RadAt.upd0{W:Nat→Prop}{h h':ad}{b:Nat}{l:List Pr}(k:Upd No h h')(r:RadAt W h b l):RadAt W h' b l:=by
 obtain⟨w,F,a,d,c⟩:=r.ex;exact⟨w,F,a.upd0 k,d,c⟩
theorem RadAt.less{W W':Nat→Prop}{h:ad}(hm:∀b,W' b→W b∨h.size≤b){b:Nat}{l:List Pr}(r:RadAt W h b l):RadAt W' h b l:=by
 obtain⟨w,F,a,d,c⟩:=r.ex;exact⟨w,F,a.less hm,d,c⟩
theorem RadAt.updM{W M:Nat→Prop}{h h':ad}(k:Upd M h h')(hm:∀b,M b→W b∨h.size≤b){b:Nat}{l:List Pr}(r:RadAt W h b l):RadAt W h' b l:=by
 obtain⟨w,F,a,d,c⟩:=r.ex;exact⟨w,F,a.updM k hm,d,c⟩
end Go.Proofs
namespace Go.Proofs
open Go Go.Lift
theorem uC{p q:Pr}:∀{l:List Pr},fe l→(q∈km p l↔q=p∨(q∈l∧q.1≠p.1))
 | [],_=>by simp[km]
 |r::l,c=>by
  have c:=List.pairwise_cons.1 c;rw[na];by_cases b:kl r.1 p.1
  ·have d:r.1≠p.1:=fun e=>by rw[e]at b;exact fw _ b
   rw[if_pos b,ar,ar,uC c.2];constructor
   ·rintro(rfl|h|⟨h,h'⟩)
    ·exact .inr ⟨.inl rfl,d⟩
    ·exact .inl h
    ·exact .inr ⟨.inr h,h'⟩
   ·rintro(h|⟨h|h,h'⟩)
    ·exact .inr (.inl h)
    ·exact .inl h
    ·exact .inr (.inr ⟨h,h'⟩)
  ·rw[if_neg b]
   by_cases a:r.1=p.1
   ·rw[if_pos a,ar,ar]
    constructor
    ·rintro(h|h)
     ·exact .inl h
     ·refine .inr ⟨.inr h,fun e=>?_⟩
      have:=c.1 q h;rw[e,a]at this;exact fw _ this
    ·rintro(h|⟨rfl|h,h'⟩)
     ·exact .inl h
     ·exact absurd a h'
     ·exact .inr h
   ·rw[if_neg a,ar,ar]
    have f:=Hv b a;constructor
    ·rintro(h|rfl|h)
     ·exact .inl h
     ·exact .inr ⟨.inl rfl,a⟩
     ·refine .inr ⟨.inr h,fun e=>?_⟩
      have:=rk f (c.1 q h);rw[e]at this;exact fw _ this
    ·rintro(h|⟨rfl|h,h'⟩)
     ·exact .inl h
     ·exact .inr (.inl rfl)
     ·exact .inr (.inr h)
def RadRoot(W:Nat→Prop)(h:ad)(r:Option Addr)(l:List Pr):Prop:=(r=none∧l= [])∨∃b,r=some ⟨b,0,none⟩∧RadAt W h b l
theorem RadRoot.upd0{W:Nat→Prop}{h h':ad}{r:Option Addr}{l:List Pr}(k:Upd No h h')(t:RadRoot W h r l):RadRoot W h' r l:=t.imp id fun⟨b,e,t⟩=>⟨b,e,t.upd0 k⟩
theorem tW{a b:ByteArray}:a.data.toList=b.data.toList↔a=b:=by
 constructor
 ·intro h;cases a;cases b;exact congrArg xY (kN.1 h)
 ·rintro rfl;rfl
theorem G3{W:Nat→Prop}{h:ad}(c:∀y,W y→y<h.size){K:Option Addr→ad→Prop}(a:∀h' b,RadAt W h' b []→Upd No h h'→K (some ⟨b,0,none⟩) h'):HC PG qS [] [.c .ptr] K h:=by
 refine Js ?_;unfold Bg MP;refine bj (a _ h.size ⟨none,.nil,⟨⟨#[]⟩,⟨none,0,0⟩,none,[],bI h Ym bV,rfl,Sl.nil px,⟨av _,fun hx=>kf _ (c _ hx)⟩,rfl⟩,trivial,fun k v=>?_⟩ (Upd.hnew No h _ _))
 simp[Vn,Qe]
theorem Ee{W:Nat→Prop}{h:ad}{r:Option Addr}{l:List Pr}(t:RadRoot W h r l)(d:∀y,W y→y<h.size){K:Option Addr→ad→Prop}(a:∀h' b,RadAt W h' b l→Upd No h h'→(r=some ⟨b,0,none⟩∨r=none)→K (some ⟨b,0,none⟩) h'):HC PG pI [.pointer r] [.c .ptr] K h:=by
 refine Mp r ?_;unfold DG;rcases t with⟨rfl,rfl⟩|⟨b,rfl,t⟩
 ·exact aA.2 (G3 d fun h' b t c=>a h' b t c (.inr rfl))
 ·exact af.2 (a h b t (Upd.refl _ _) (.inl rfl))
theorem Nv{W:Nat→Prop}{h:ad}{r:Option Addr}{l:List Pr}(t:RadRoot W h r l)(C:∀y,W y→y<h.size)(o:fe l)(p:Pr)(I:p.1.size≤1000000){K:Option Addr×Bool→ad→Prop}
  (L:∀h' b' a,Upd No h h'→RadAt W h' b' (km p l)→(p∈l→r=some ⟨b',0,none⟩∨r=none)→K (some ⟨b',0,none⟩,a) h'):
  HC PG zx [.pointer none,.pointer r,.agg #[.string p.1,.string p.2]] [.c .ptr,.c .bool] K h:=by
 refine OQ none r p ?_;unfold Fy ag qg UF;have k1:=Upd.hnew No h [.string p.1,.string p.2] ax;have b1:=bI h [.string p.1,.string p.2] ax;refine bj ?_;simp only[df h];generalize hnew h [.string p.1,.string p.2] ax=h1 at k1 b1;have g:∀{h':ad},Upd No h1 h'→∀i,aD h' (adr ⟨h.size,0,none⟩ i)=(#[.string p.1,.string p.2]:Array Value)[i]?:=fun k i=>by rw[ci,bc (k.get0 b1),aR]
 have B:=Upd.refl No h1;refine⟨p.1,g B 0,p.2,g B 1,Ee (t.upd0 k1) (fun y z=>aQ (C y z) k1.size) fun O b D c G=>⟨g c 1,g c 0,?_⟩⟩
 obtain⟨w,F,E,H,A⟩:=D.ex;refine U8 (p.1.size+1) p.1 p.2 (by omega) I E (fun y z=>aQ (C y z) (k1.tr c).size) H fun J b3 w' N a P x u s n m j=>?_
 refine L J b3 a ((k1.tr c).tr x) ⟨w',N,u,s,fun k v=>?_⟩ fun hm=>?_
 ·rw[rj,n k v,←rj,A k v]
  constructor
  ·rintro(⟨rfl,rfl⟩|⟨d,q,f,rfl,rfl⟩)
   ·exact⟨p,(uC o).2 (.inl rfl),rfl,rfl⟩
   ·exact⟨q,(uC o).2 (.inr ⟨f,fun e=>d (by rw[e])⟩),rfl,rfl⟩
  ·rintro⟨q,f,rfl,rfl⟩
   rcases(uC o).1 f with rfl|⟨f,d⟩
   ·exact .inl ⟨rfl,rfl⟩
   ·exact .inr ⟨fun e=>d (tW.1 e),q,f,rfl,rfl⟩
 ·have:=j (rj.1 ((A _ _).2 ⟨p,hm,rfl,rfl⟩))
  rw[(m this).1];exact G
end Go.Proofs
namespace Go.Proofs
open Go Go.Lift
theorem cH{h:ad}{cs:List Value}{t:TypeId}{k:ad→Prop}(a:∀h',h'[h.size]? =some (.cells cs.toArray t (0,0))→Upd No h h'→k h'):At (hnew h cs t) k:=
 bj (a _ (bI h cs t) (Upd.hnew No h cs t))
theorem vc{h:ad}{b:Nat}{c:Array Value}{t:TypeId}(a:h[b]? =some (.cells c t (0,0))) (i:Nat):aD h (adr ⟨b,0,none⟩ i)=c[i]?:=by rw[ci,aR];exact bc a
theorem xg{h:ad}{b:Nat}{c:Array Value}{t:TypeId}(a:h[b]? =some (.cells c t (0,0))) (i j:Nat):aD h (adr (adr ⟨b,0,none⟩ i) j)=c[i+j]?:=by rw[ci,ci,aR];exact bc a
theorem kP{h:ad}{b i:Nat}{c c':Array Value}{t:TypeId}{v:Value}{k:ad→Prop}(d:h[b]? =some (.cells c t (0,0))) (hi:i<c.size) (e:c.setIfInBounds i v=c') (f:∀h',h'[b]? =some (.cells c' t (0,0))→Upd (· =b) h h'→k h'):Wr h (adr ⟨b,0,none⟩ i)∧At (hset h (adr ⟨b,0,none⟩ i) v) k:=by
 rw[ci,aR];exact⟨i5 d hi,vS d fun h' a g=>f h' (e▸a) g⟩
theorem _root_.Go.Lift.Upd.own{h a c:ad}{b:Nat}(k:Upd No h a)(d:Upd (· =b) a c)(e:h.size≤b):Upd No h c:=k.trans d fun x hx=>.inr (by have hx:x=b:=hx;omega)
theorem _root_.Go.Lift.Upd.oth{h h':ad}{b c:Nat}{o:Obj}(d:Upd (· =b) h h')(hc:h[c]? =some o) (a:c≠b):h'[c]? =some o:=d.get hc a
abbrev Tr:=Int×Int×Int×Int×(Option Addr)×(Option Addr)
abbrev qf(t:Tr):List Value:= [.int .i64 t.1,.int .u64 t.2.1,.int .u64 t.2.2.1,.int .u64 t.2.2.2.1,.pointer t.2.2.2.2.1,.pointer t.2.2.2.2.2]
abbrev SM(t:Tr):Value:=.agg #[.int .i64 t.1,.int .u64 t.2.1,.int .u64 t.2.2.1,.int .u64 t.2.2.2.1,.pointer t.2.2.2.2.1,.pointer t.2.2.2.2.2]
def Pro(W:Nat→Prop)(h a:ad)(y:Nat):Prop:=W y∨(h.size≤y∧y<a.size)
theorem Pro.lt{W:Nat→Prop}{h a:ad}(c:∀y,W y→y<h.size)(k:Upd No h a):∀y,Pro W h a y→y<a.size:=fun y b=>b.elim (fun h=>aQ (c y h) k.size) fun h=>h.2
theorem Pro.hm{W:Nat→Prop}{h b:ad}:∀y,Pro W h b y→W y∨h.size≤y:=fun _ a=>a.imp id fun h=>h.1
theorem Pro.sub{W:Nat→Prop}{h b c:ad}:∀y,W y→Pro W h b y∨c.size≤y:=fun _ a=>.inl (.inl a)
theorem RootAt.less{W W':Nat→Prop}{x:Hs}{h:ad}(hm:∀b,W' b→W b∨h.size≤b){r:Option Addr}{l:List Pr}(t:RootAt W x h r l):RootAt W' x h r l:=t.imp id fun⟨b,e,t⟩=>⟨b,e,TrieAt.less hm t⟩
theorem RadRoot.less{W W':Nat→Prop}{h:ad}(hm:∀b,W' b→W b∨h.size≤b){r:Option Addr}{l:List Pr}(t:RadRoot W h r l):RadRoot W' h r l:=t.imp id fun⟨b,e,t⟩=>⟨b,e,t.less hm⟩
def TreeIs(W:Nat→Prop)(h:ad)(kind:Int)(x:Hs)(t:Tr)(l:List Pr):Prop:=(kind=0∧∃b,t=(0,x.k0,x.k1,x.mask,some ⟨b,0,none⟩,none)∧TrieAt W x h 13 b l)∨(kind=1∧∃b,t=(1,0,0,0,none,some ⟨b,0,none⟩)∧RadAt W h b l)
theorem TreeIs.upd0{W:Nat→Prop}{h h':ad}{kind:Int}{x:Hs}{t:Tr}{l:List Pr}(k:Upd No h h')(i:TreeIs W h kind x t l):TreeIs W h' kind x t l:=
 i.imp (fun⟨e,b,e2,t⟩=>⟨e,b,e2,TrieAt.upd0 k t⟩) fun⟨e,b,e2,t⟩=>⟨e,b,e2,t.upd0 k⟩
theorem TreeIs.less{W W':Nat→Prop}{h:ad}(hm:∀b,W' b→W b∨h.size≤b){kind:Int}{x:Hs}{t:Tr}{l:List Pr}(i:TreeIs W h kind x t l):TreeIs W' h kind x t l:=
 i.imp (fun⟨e,b,e2,t⟩=>⟨e,b,e2,TrieAt.less hm t⟩) fun⟨e,b,e2,t⟩=>⟨e,b,e2,t.less hm⟩
theorem TreeIs.updM{W M:Nat→Prop}{h h':ad}(k:Upd M h h')(hm:∀b,M b→W b∨h.size≤b){kind:Int}{x:Hs}{t:Tr}{l:List Pr}(i:TreeIs W h kind x t l):TreeIs W h' kind x t l:=
 i.imp (fun⟨e,b,e2,t⟩=>⟨e,b,e2,TrieAt.updM k hm t⟩) fun⟨e,b,e2,t⟩=>⟨e,b,e2,t.updM k hm⟩
theorem TreeIs.pro{W:Nat→Prop}{h a:ad}(k:Upd No h a){kind:Int}{x:Hs}{t:Tr}{l:List Pr}(i:TreeIs W h kind x t l):TreeIs (Pro W h a) a kind x t l:=(i.less Pro.hm).upd0 k
theorem Jl{W:Nat→Prop}{x:Hs}{h:ad}(d:∀y,W y→y<h.size){K:Option Addr→ad→Prop}(a:∀h' b,TrieAt W x h' 13 b []→Upd No h h'→K (some ⟨b,0,none⟩) h'):HC PG qT [] [.c .ptr] K h:=by
 refine A8 ?_;unfold vZ;exact sP d fun h' b nd c=>a h' b (MZ nd) c
abbrev D4:Tr:=(0,0,0,0,none,none)
theorem Nb{W:Nat→Prop}{x:Hs}{h:ad}{r:Option Addr}{l:List Pr}(t:RootAt W x h r l)(q:∀y,W y→y<h.size){K:Tr→ad→Prop}(p:∀h' t,TreeIs W h' 0 x t l→Upd No h h'→K t h'):HC PG tL [.agg #[.int .u64 x.k0,.int .u64 x.k1,.int .u64 x.mask],.pointer r] [.agg [.int .i64,.int .u64,.int .u64,.int .u64,.ptr,.ptr]] K h:=by
 refine Ir (x.k0,x.k1,x.mask) r ?_;unfold Af ao eX ae AG aq qo yE;refine cH fun k b1 k1=>cH fun j b2 n=>?_
 have v:=bB b1;have w:=bB b2;have d:=k1.tr n;refine Join.intro (fun t h'=>Upd No j h'∧∃b,t=some ⟨b,0,none⟩∧TrieAt (Pro W h j) x h' 13 b l) (fun R i=>?_) ?_
 ·rcases t with⟨rfl,rfl⟩|⟨b,rfl,t⟩
  ·exact aA.2 (Jl (Pro.lt q d) fun s b t a=>i _ _ ⟨a,b,rfl,t⟩)
  ·exact af.2 (i _ _ ⟨Upd.refl _ _,b,rfl,TrieAt.upd0 d (TrieAt.less Pro.hm t)⟩)
 ·rintro o s ⟨a,b,rfl,o⟩
  have c1:=a.get0 (n.get0 b1);refine⟨_,vc c1 0,_,vc c1 1,_,vc c1 2,?_⟩;refine cS (c:=qf D4) (vs:=qf (0,x.k0,x.k1,x.mask,some ⟨b,0,none⟩,none)) (a.get0 b2) rfl fun u e f=>?_
  refine⟨_,vc e 0,_,vc e 1,_,vc e 2,_,vc e 3,_,vc e 4,_,vc e 5,?_⟩;have g:h.size≤k.size:=k1.size;exact p u _ (.inl ⟨rfl,b,rfl,TrieAt.less Pro.sub (TrieAt.updM f (fun y m=>.inl (.inr (by have m:y=k.size:=m;omega))) o)⟩) ((d.tr a).own f g)
theorem Na{W:Nat→Prop}{x:Hs}{h:ad}{r:Option Addr}{l:List Pr}(t:RadRoot W h r l)(n:∀y,W y→y<h.size){K:Tr→ad→Prop}(m:∀h' t,TreeIs W h' 1 x t l→Upd No h h'→K t h'):HC PG tK [.pointer r] [.agg [.int .i64,.int .u64,.int .u64,.int .u64,.ptr,.ptr]] K h:=by
 refine Iq r ?_;unfold Ae ao eX ae aq qo yE;refine cH fun i b2 d=>?_
 have q:=bB b2;refine Join.intro (fun t h'=>Upd No i h'∧∃b,t=some ⟨b,0,none⟩∧RadAt (Pro W h i) h' b l) (fun R g=>?_) ?_
 ·rcases t with⟨rfl,rfl⟩|⟨b,rfl,t⟩
  ·exact aA.2 (G3 (Pro.lt n d) fun o b t a=>g _ _ ⟨a,b,rfl,t⟩)
  ·exact af.2 (g _ _ ⟨Upd.refl _ _,b,rfl,(t.less Pro.hm).upd0 d⟩)
 ·rintro k o ⟨a,b,rfl,k⟩
  refine cS (c:=qf D4) (vs:=qf (1,0,0,0,none,some ⟨b,0,none⟩)) (a.get0 b2) rfl fun p e f=>?_
  refine⟨_,vc e 0,_,vc e 1,_,vc e 2,_,vc e 3,_,vc e 4,_,vc e 5,?_⟩;exact m p _ (.inr ⟨rfl,b,rfl,(k.updM f (fun y j=>.inl (.inr (by have j:y=h.size:=j;omega)))).less Pro.sub⟩) ((d.tr a).own f (av _))
theorem Xi{W:Nat→Prop}{x:Hs}{h:ad}(p:∀y,W y→y<h.size){kind:Int}(j:kind=0∨kind=1){K:Tr×Int→ad→Prop}(n:∀h' t,TreeIs W h' kind x t []→Upd No h h'→K (t,0) h'):HC PG BL [.int .i64 kind,.agg #[.int .u64 x.k0,.int .u64 x.k1,.int .u64 x.mask]] [.agg [.int .i64,.int .u64,.int .u64,.int .u64,.ptr,.ptr],.c (.int .i64)] K h:=by
 refine Q9 kind (x.k0,x.k1,x.mask) ?_;unfold Iw ao eX rQ ae AG aq qo m6;refine cH fun i b1 k1=>cH fun o b2 q=>?_
 have u:=bB b1;have v:=bB b2;have e:=k1.tr q;have g:h.size≤i.size:=k1.size;have c1:=q.get0 b1;rcases j with rfl|rfl
 ·refine aA.2 ⟨_,vc c1 0,_,vc c1 1,_,vc c1 2,?_⟩
  refine Nb (W:=Pro W h o) (x:=x) (l:= []) (.inl ⟨rfl,rfl⟩) (Pro.lt p e) fun s t k d=>?_
  refine cS (c:=qf D4) (vs:=qf t) (d.get0 b2) rfl fun m a b=>?_
  refine⟨_,vc a 0,_,vc a 1,_,vc a 2,_,vc a 3,_,vc a 4,_,vc a 5,?_⟩;exact n m t ((k.updM b (fun y f=>.inl (.inr (by have f:y=i.size:=f;omega)))).less Pro.sub) ((e.tr d).own b g)
 ·refine af.2 (aA.2 ?_)
  refine Na (W:=Pro W h o) (x:=x) (l:= []) (.inl ⟨rfl,rfl⟩) (Pro.lt p e) fun s t k d=>?_
  refine cS (c:=qf D4) (vs:=qf t) (d.get0 b2) rfl fun m a b=>?_
  refine⟨_,vc a 0,_,vc a 1,_,vc a 2,_,vc a 3,_,vc a 4,_,vc a 5,?_⟩;exact n m t ((k.updM b (fun y f=>.inl (.inr (by have f:y=i.size:=f;omega)))).less Pro.sub) ((e.tr d).own b g)
theorem Kg{k v:ByteArray}(b:k.size≤256)(c:v.size≤4096){h:ad}{K:Int→ad→Prop}(a:K 0 h):HC PG sV [.string k,.string v] [.c (.int .i64)] K h:=by
 refine Mv k v ?_;unfold DL;refine aF (fun h=>absurd h (by omega)) fun _=>aF (fun h=>absurd h (by omega)) fun _=>a
theorem M9{W:Nat→Prop}{x:Hs}{h:ad}{kind:Int}{t:Tr}{l:List Pr}(i:TreeIs W h kind x t l)(L:∀y,W y→y<h.size)(H:fe l)(N:l.length≤1000000)(p:Pr)(w:p.1.size≤256)(D:p.2.size≤4096){K:Tr×Int→ad→Prop}
  (I:∀h' t',TreeIs W h' kind x t' (km p l)→(p∈l→t'=t)→Upd No h h'→K (t',0) h'):HC PG nf [SM t,.pointer none,.agg #[.string p.1,.string p.2]] [.agg [.int .i64,.int .u64,.int .u64,.int .u64,.ptr,.ptr],.c (.int .i64)] K h:=by
 refine EH t none p ?_;unfold wP ao ag eX bM eu rQ ae aq qo m6 im yE mW qg;refine cH fun G b1 k1=>cH fun z b2 B=>cH fun T b3 v=>?_
 have U:=bB b1;have X:=bB b2;have V:=bB b3;have Q:h.size≤G.size:=k1.size;have R:G.size≤z.size:=B.size;have S:=v.size;have n:=(k1.tr B).tr v;have o:=v.get0 (B.get0 b1);have s:=v.get0 b2;have J:=i.pro n;have u:=Pro.lt L n;refine⟨_,vc s 0,_,vc s 1,Kg w D (af.2 ?_)⟩;rcases J with⟨rfl,b,rfl,E⟩|⟨rfl,b,rfl,E⟩
 ·refine⟨_,vc o 0,af.2 ⟨_,xg o 1 0,_,xg o 1 1,_,xg o 1 2,_,vc o 4,p.1,vc s 0,p.2,vc s 1,?_⟩⟩
  refine OF (.inr ⟨b,rfl,E⟩) u H N p fun O q a A f=>?_
  refine kP (i:=4) (c':=(qf (0,x.k0,x.k1,x.mask,some ⟨q,0,none⟩,none)).toArray) (a.get0 o) (show 4<6 by decide) rfl fun P g d=>?_
  refine⟨_,vc g 0,_,vc g 1,_,vc g 2,_,vc g 3,_,vc g 4,_,vc g 5,?_⟩;refine cS (c:=qf D4) (vs:=qf (0,x.k0,x.k1,x.mask,some ⟨q,0,none⟩,none)) (d.oth (a.get0 b3) (by omega)) rfl fun C j k=>?_
  refine⟨_,vc j 0,_,vc j 1,_,vc j 2,_,vc j 3,_,vc j 4,_,vc j 5,?_⟩;refine I C _ (.inl ⟨rfl,q,rfl,TrieAt.less Pro.sub (TrieAt.updM k (fun y m=>.inl (.inr (by have m:y=z.size:=m;omega))) (TrieAt.updM d (fun y m=>.inl (.inr (by have m:y=h.size:=m;omega))) A))⟩) (fun hm=>?_) (((n.tr a).own d (av _)).own k (by omega))
  rcases f hm with e|e
  ·rw[e]
  ·cases e
 ·refine⟨_,vc o 0,aA.2 ⟨_,vc o 5,p.1,vc s 0,p.2,vc s 1,?_⟩⟩
  refine Nv (.inr ⟨b,rfl,E⟩) u H p (by omega) fun O q F a A f=>?_
  refine kP (i:=5) (c':=(qf (1,0,0,0,none,some ⟨q,0,none⟩)).toArray) (a.get0 o) (show 5<6 by decide) rfl fun P g d=>?_
  refine⟨_,vc g 0,_,vc g 1,_,vc g 2,_,vc g 3,_,vc g 4,_,vc g 5,?_⟩;refine cS (c:=qf D4) (vs:=qf (1,0,0,0,none,some ⟨q,0,none⟩)) (d.oth (a.get0 b3) (by omega)) rfl fun C j k=>?_
  refine⟨_,vc j 0,_,vc j 1,_,vc j 2,_,vc j 3,_,vc j 4,_,vc j 5,?_⟩;refine I C _ (.inr ⟨rfl,q,rfl,((A.updM d (fun y m=>.inl (.inr (by have m:y=h.size:=m;omega)))).updM k (fun y m=>.inl (.inr (by have m:y=z.size:=m;omega)))).less Pro.sub⟩) (fun hm=>?_) (((n.tr a).own d (av _)).own k (by omega))
  rcases f hm with e|e
  ·rw[e]
  ·cases e
end Go.Proofs
namespace Go.Proofs
open Go Go.Lift Go.RowKit
theorem HC.shelf{f:FuncId}{args:List Value}{ks:List Kind}{K:uS ks→ad→Prop}{h:ad}(hc:∀(args:Array Value) (w:World),(callFunc f args).run PG w=.ok (.enter f args) w)
 (g:∀w:World,w.heap=h→Calls PG f args.toArray w fun e w'=>Tame w w'∧∃t:uS ks,e=.returned (CB ks (mN ks t))∧K t w'.heap):HC PG f args ks K h:=⟨fun w a=>.inl ⟨hc _ w,g w a⟩⟩
theorem HC.same{f:FuncId}{args:List Value}{ks:List Kind}{K:uS ks→ad→Prop}{h:ad}{v:Value}(hc:∀(args:Array Value) (w:World),(callFunc f args).run PG w=.ok (.enter f args) w)(t:uS ks)(b:v=CB ks (mN ks t))
  (g:∀w:World,Calls PG f args.toArray w fun e w'=>e=.returned v∧w'=w)(c:K t h):HC PG f args ks K h:=
 HC.shelf hc fun w d=>(g w).mono fun e w' ⟨i,a⟩=>by subst a;exact⟨⟨rfl,rfl,rfl⟩,t,by rw[i,b],by rw[d];exact c⟩
theorem CS{s:ByteArray}{c:UInt8}{h:ad}{K:Int→ad→Prop}(a:K (Lib.indexByte s.data.toList c) h):HC PG qv [.string s,.int .u8 (c.toNat:Int)] [.c (.int .i64)] K h:=
 HC.same (v:=.int .i64 (Lib.indexByte s.data.toList c)) Tryz.call37 (Lib.indexByte s.data.toList c) rfl (fun w=>by
  have:=Any.strings_IndexByte Jg s (c.toNat:Int) w
  rw[show((c.toNat:Int).toNat.toUInt8)=c from by rw[ak];exact UInt8.ofNat_toNat]at this
  exact this) a
theorem Kz{s:ByteArray}{c:UInt8}{h:ad}{K:Int→ad→Prop}(a:K (Lib.indexByte s.data.toList c) h):HC PG xH [.string s,.string ⟨#[c]⟩] [.c (.int .i64)] K h:=
 HC.same (v:=.int .i64 (Lib.indexByte s.data.toList c)) Tryz.call114 (Lib.indexByte s.data.toList c) rfl (fun w=>Any.strings_Index_one Je s c w) a
theorem TS{s:ByteArray}{c:UInt8}{h:ad}{K:Int→ad→Prop}(a:K ((s.data.toList.count c:Nat):Int) h):HC PG C1 [.string s,.string ⟨#[c]⟩] [.c (.int .i64)] K h:=
 HC.same (v:=.int .i64 ((s.data.toList.count c:Nat):Int)) Tryz.call113 ((s.data.toList.count c:Nat):Int) rfl (fun w=>Any.strings_Count_one Jf s c w) a
theorem x72:Builder.X72 PG Lo:=⟨by kernel_rfl,by kernel_rfl⟩
theorem L9{h:ad}{b:Nat}{p:Option Addr}{v:Value}(d:h[b]? =some (.cells #[.pointer p,v] ik (0,0))) (j:p=none∨p=some ⟨b,0,none⟩) {K:Unit→ad→Prop}
  (i:∀h',h'[b]? =some (.cells #[.pointer (some ⟨b,0,none⟩),v] ik (0,0))→Upd (· =b) h h'→K () h'):HC PG ol [.pointer (some ⟨b,0,none⟩)] [] K h:=by
 rcases j with rfl|rfl
 ·refine HC.shelf Tryz.call74 fun w f=>?_
  subst f;refine(Any.Builder_copyCheck_fresh A5 x72 b w (by simp[World.cell?,d]) (by simp[World.shape?,d];rfl) (by simp[World.frozen?,d])).mono fun e w' ⟨g,c⟩=>?_
  subst c;refine⟨⟨rfl,rfl,rfl⟩,(),g,i _ ?_ (Upd.hset (M:=(· =b)) w.heap (a:=⟨b,0,none⟩) (.pointer (some ⟨b,0,none⟩)) rfl)⟩
  simp[World.setCell,jC,d]
 ·refine HC.shelf Tryz.call74 fun w f=>?_
  subst f;refine(Any.Builder_copyCheck_used A5 x72 b w (by simp[World.cell?,d])).mono fun e w' ⟨g,c⟩=>?_
  subst c;exact⟨⟨rfl,rfl,rfl⟩,(),g,i _ d (Upd.refl _ _)⟩
structure Bld(M:Nat→Prop)(h:ad)(b:Nat)(bs:List UInt8):Prop where
 ex:∃(p:Option Addr) (s:SliceV),h[b]? =some (.cells #[.pointer p,.slice s.a s.len s.cap] ik (0,0))∧(p=none∨p=some ⟨b,0,none⟩)∧OwnS KW 1 ll M h s bs∧(s.a=none∨s.cap≠0)
 nb:¬M b
section
variable {M:Nat→Prop} {h:ad} {b:Nat} {bs:List UInt8}
theorem Co(d:Bld M h b bs)(hM:∀y,h.size≤y→M y){c:UInt8}(v:bs.length+1≤140737488355328){K:Value→ad→Prop}(n:∀h',Bld M h' b (bs++ [c])→Upd (fun y=>y=b∨M y) h h'→K .nilIface h'):
  HC PG ii [.pointer (some ⟨b,0,none⟩),.int .u8 (c.toNat:Int)] [.c .raw] K h:=by
 obtain⟨p,s,w,t,q,z⟩:=d.ex;refine vV (some ⟨b,0,none⟩) (c.toNat:Int) ?_;unfold ox bM bW;refine L9 w t fun A f j=>⟨_,rfl,s,vc f 1,bj ?_⟩
 have i:=q.upd j fun y a e=>d.nb (by have e:y=b:=e;rwa [←e])
 refine Ih rfl i (fun y a=>hM y (aU j.size a)) v fun s' x o m=>⟨_,rfl,kP (m.get f d.nb) (by simp) rfl fun u g k=>n u ⟨⟨_,s',g,.inr rfl,o.upd k fun y a e=>d.nb (by have e:y=b:=e;rwa [←e]),.inr ?_⟩,d.nb⟩ ?_⟩
 ·have:=o.cap
  have:=o.len;simp only[aj,bO]at this;omega
 ·exact((j.mono fun y a=>.inl (.inl a)).tr (m.mono fun y a=>.inl (.inr a))).tr (k.mono fun y a=>.inl (.inl a))
theorem Upd.hfreeze{h:ad}{g n:Nat}(d:M g):Upd M h (hfreeze h g n):=⟨by simp[Go.Lift.hfreeze],fun c _ b=>by
 unfold Go.Lift.hfreeze
 have a:g≠c:=fun e=>b (by rw[←e];exact d)
 rw[jC,if_neg a]⟩
theorem CZ:∀l:List UInt8,l.flatMap KW=l.map fun b=>Value.int .u8 (b.toNat:Int)
 | []=>rfl
 |a::l=>by rw[List.flatMap_cons,List.map_cons,CZ l];rfl
theorem Ws{l:List UInt8}{j:Nat}{x:UInt8}{r:List Value}(h:l[j]? =some x):(l.flatMap KW++r).toArray[j]? =some (.int .u8 (x.toNat:Int)):=by
 rw[dP,CZ,List.getElem?_append_left (by simpa using(List.getElem?_eq_some_iff.1 h).1),List.getElem?_map,h];rfl
theorem Mf(d:Bld M h b bs)(z:bs.length≤140737488355328){K:ByteArray→ad→Prop}(i:∀h',Upd M h h'→K (aG bs) h'):
  HC PG lX [.pointer (some ⟨b,0,none⟩)] [.c .str] K h:=by
 obtain⟨p,s,a,w,c,o⟩:=d.ex;have k:=c.len;refine yN (some ⟨b,0,none⟩) ?_;unfold ql bW;refine⟨_,rfl,s,vc a 1,o,_,rfl,s,vc a 1,?_⟩;by_cases e:bs= []
 ·subst e
  exact .inl ⟨by rw[k];rfl,vc a 1,vc a 1,i h (Upd.refl _ _)⟩
 ·rcases c.blk with y|⟨g,m,q,t,hc,A⟩
  ·have:=c.cap
   exact absurd (bp.1 (by omega)) e
  ·have u:=Upd.hfreeze (h:=h) (n:=bs.length) t
   refine .inr ⟨bs,g,_,q,by rw[k],e,by omega,hc,?_,fun j x v=>Ws v,vc (u.get a d.nb) 1,vc (u.get a d.nb) 1,i _ u⟩
   rw[cP,aj];have:(bs.flatMap KW).length=bs.length*1:=kY (f:=KW) (fun x=>rfl) bs
   omega
end
end Go.Proofs
namespace Go.Proofs
open Go Go.Lift
theorem TY{h a:ad}{cs:Array Value}{t:TypeId}{c:Nat×Nat}(b:a[h.size]? =some (.cells cs t c)) (i:Nat):aD a (adr (aH h) i)=cs[i]?:=by
 unfold aH;rw[ci,aR];simp[aD,b]
theorem nib(v:UInt8):gy (v.toNat:Int) (2^(min (4:Int).toNat (ai .u8)))=((v.toNat/16:Nat):Int)∧ac .u8 (au (ai .u8) (v.toNat:Int)&&&au (ai .u8) 15).toNat=((v.toNat%16:Nat):Int):=by
 have key:∀n:Fin 256,gy (n.val:Int) (2^(min (4:Int).toNat (ai .u8)))=((n.val/16:Nat):Int)∧ac .u8 (au (ai .u8) (n.val:Int)&&&au (ai .u8) 15).toNat=((n.val%16:Nat):Int):=by decide+kernel
 exact key ⟨v.toNat,v.toNat_lt⟩
theorem xC{x:ByteArray}(hx:x.size≤1000000){h:ad}{K:ByteArray→ad→Prop}(n:∀h',Upd No h h'→K (aG (lU x.data.toList)) h'):HC PG fS [.string x] [.c .str] K h:=by
 refine Rk x ?_;unfold IJ bi cU zl7 PC;have A:=nI x;rw[Ar];refine aF (fun e=>?_) fun e=>?_
 ·have:=n h (Upd.refl _ _)
  rw[e]at this;exact this
 rw[lU,if_neg e]at n;have k1:=Upd.hnew No h [.pointer none,.slice none 0 0] ik;have b1:=bI h [.pointer none,.slice none 0 0] ik;have F:=eT h [.pointer none,.slice none 0 0] ik;refine bj ?_;generalize hnew h [.pointer none,.slice none 0 0] ik=h1 at k1 b1 F;refine fun c hc=>?_
 have j:=Upd.push No h1 (.cells (cL x++bF (c-x.size) (Value.int .u8 0)).toArray ll (c,c+1));have b3:=mF h1 (.cells (cL x++bF (c-x.size) (Value.int .u8 0)).toArray ll (c,c+1));have G:(h1.push (.cells (cL x++bF (c-x.size) (Value.int .u8 0)).toArray ll (c,c+1))).size=h1.size+1:=by simp
 generalize h1.push (.cells (cL x++bF (c-x.size) (Value.int .u8 0)).toArray ll (c,c+1))=h3 at j b3 G;refine LoopP.ghost (fun(i:Nat) (t:Int) o=>t=(i:Int)∧i≤x.size∧Bld (fun y=>h3.size≤y) o h.size (yH (x.data.toList.take i))∧Upd (· =h.size) h3 o) (fun i=>x.size-i) 0 ⟨rfl,aV _,⟨⟨none,⟨none,0,0⟩,j.get0 b1,.inl rfl,OwnS.nil ED,.inl rfl⟩,by omega⟩,Upd.refl _ _⟩ ?_
 rintro I i t o ⟨rfl,hi,g,u⟩ w;refine aF (fun a=>?_) fun k=>?_
 ·have a:i<x.size:=by have:(i:Int)<(x.size:Int):=a;omega
  obtain⟨v,N,B,C⟩:=QY a;obtain⟨s,q⟩:=nib v;have L:=v.toNat_lt;have P:=u.size;refine⟨⟨by omega,by omega⟩,_,rfl,(v.toNat:Int),?_,by decide,sS (v.toNat/16),by rw[s];omega,by rw[s,ak];exact Li (by omega),?_⟩
  ·rw[ak,Nat.mul_one,TY (u.get b3 (by omega)),pk]
   exact Ws B
  have b:=wD (x.data.toList.take i);have E:(x.data.toList.take i).length=i:=by rw[be];omega
  refine Co g (fun y f=>by omega) (by omega) fun J m p=>Ft ⟨sS (v.toNat%16),by rw[q];omega,by rw[q,ak];exact Li (by omega),?_⟩
  have O:=p.size;refine Co m (fun y f=>by omega) (by simp only[aj,bO];omega) fun Q d z=>?_
  rw[cM a (by omega)];refine w (i+1) _ _ ⟨rfl,a,?_,?_⟩ (by omega)
  ·rw[C,Oe]
   rw[aM]at d;exact d
  ·exact(u.trans p fun y f=>by omega).trans z fun y f=>by omega
 ·have hi:i=x.size:=by have:¬(i:Int)<(x.size:Int):=k;omega
  rw[hi,←A,bJ]at g;have b:=wD x.data.toList;refine Mf g (by omega) fun H D=>n H ?_
  exact((k1.tr j).trans u fun y f=>by omega).trans D fun y f=>by omega
theorem U6(c:UInt8):Lib.indexByte sgn16.data.toList c=if qC c<16 then(qC c:Int)else-1:=by
 have key:∀n:Fin 256,Lib.indexByte sgn16.data.toList (cq n.val)=if qC (cq n.val)<16 then(qC (cq n.val):Int)else-1:=by decide+kernel
 have:=key ⟨c.toNat,c.toNat_lt⟩;rwa [UInt8.ofNat_toNat]at this
theorem abv{a b:Nat}(c:a<16)(d:b<16):ac .u8 (ac .i64 (au (ai .i64) (ac .i64 ((a:Int)*2^(min (4:Int).toNat (ai .i64))))|||au (ai .i64) (b:Int)).toNat)=((cq (16*a+b)).toNat:Int):=by
 have key:∀a b:Fin 16,ac .u8 (ac .i64 (au (ai .i64) (ac .i64 ((a.val:Int)*2^(min (4:Int).toNat (ai .i64))))|||au (ai .i64) (b.val:Int)).toNat)=((cq (16*a.val+b.val)).toNat:Int):=by decide+kernel
 exact key ⟨a,c⟩ ⟨b,d⟩
theorem UK{x:ByteArray}(hx:x.size≤1000000){h:ad}{K:ByteArray×Bool→ad→Prop}(f:∀h',Upd No h h'→K (Xz (i7 x.data.toList)) h'):HC PG sY [.string x] [.c .str,.c .bool] K h:=by
 refine MC x ?_;unfold DU aaJ;have L:=nI x;rw[Kk,Ar];refine aF (fun e=>?_) fun e=>?_
 ·have:=f h (Upd.refl _ _)
  rw[i7,if_pos e]at this;exact this
 rw[i7,if_neg e]at f;refine Join.plain (aF (fun v=>aA.2 ?_) fun v=>⟨by decide,CondP.intro (fun e1=>?_) fun e1=>?_⟩)
 ·have:=f h (Upd.refl _ _)
  rw[if_pos v]at this;exact this
 ·have e1:iY (x.size:Int) 2=1:=by simpa using e1
  rw[fj (by omega)]at e1;have:=f h (Upd.refl _ _);rw[if_neg v,Bs _ (by omega)]at this;exact this
 ·have e1:iY (x.size:Int) 2≠1:=by simpa using e1
  rw[fj (by omega)]at e1;rw[if_neg v]at f;have F:ac .i64 (xe (x.size:Int) 2)=((x.size/2:Nat):Int):=by rw[mP (by omega),kO (by omega)];omega
  refine⟨by decide,?_⟩;refine LoopP.ghost (fun(g:Nat×List UInt8) (t:SliceV×Int) h'=>t.2=(g.1:Int)∧2*g.1≤x.size∧gd (x.data.toList.take (2*g.1))=some g.2∧g.2.length=g.1∧OwnS KW 1 ll (fun y=>h.size≤y) h' t.1 g.2∧Upd No h h') (fun g=>x.size-g.1) (0,[]) ⟨rfl,aV _,rfl,rfl,OwnS.nil ED,Upd.refl _ _⟩ ?_
  rintro I ⟨i,out⟩ ⟨N,O⟩ h' ⟨e2,hi,m,w,z,p⟩ H;simp only at e2 hi m w z;subst e2;rw[F];refine aF (fun j=>?_) fun B=>?_
  ·have j:i<x.size/2:=by have:(i:Int)<((x.size/2:Nat):Int):=j;omega
   obtain⟨a,b,J,b1,d,t⟩:=Yu (x:=x) (i:=2*i) (by omega);have G:ac .i64 (2*(i:Int))=((2*i:Nat):Int):=by rw[kO (by omega)];omega
   have C:ac .i64 (((2*i:Nat):Int)+1)=((2*i+1:Nat):Int):=by rw[kO (by omega)];omega
   have k:gd x.data.toList=(gd (a::b::x.data.toList.drop (2*i+2))).map (out++ ·):=by
    have D:=tp (x.data.toList.take (2*i)) (x.data.toList.drop (2*i)) (by rw[be];omega);rw[bT,m,d]at D;exact D
   simp only[G];have n:¬(qC a<16∧qC b<16)→K (aG [],false) h':=fun w=>by
    have:=f h' p;rw[k]at this;unfold gd at this;rw[if_neg w]at this;exact this
   have P:=p.size;refine Join.plain ⟨a,by omega,J,b,by rw[C];omega,by rw[C];exact b1,CS (CS ?_)⟩
   rw[U6,U6];refine Join.plain ?_;by_cases s:qC a<16
   ·rw[if_pos s]
    refine aF (fun c=>absurd c (by omega)) fun _=>?_
    by_cases q:qC b<16
    ·rw[if_pos q]
     refine aF (fun c=>absurd c (by omega)) fun _=>⟨by decide,Ft (Ft (bj ?_))⟩
     rw[abv s q];refine Ih (b:=cq (16*qC a+qC b)) rfl z (fun y E=>by omega) (by omega) fun s' A o u=>?_
     show I (s',ac .i64 ((i:Int)+1)) A
     rw[cM j (by omega)];refine H (i+1,out++ [cq (16*qC a+qC b)]) _ _ ⟨rfl,by simp only;omega,?_,by simp[w],o,p.trans u fun y E=>.inr E⟩ (by simp only;omega)
     rw[show 2*(i+1)=2*i+2 from by omega,t,tp _ _ (by rw[be];omega),m]
     simp only[gd,if_pos (show qC a<16∧qC b<16 from⟨s,q⟩)]
     rfl
    ·rw[if_neg q]
     exact aF (fun _=>n (by omega)) fun c=>absurd (by decide:(-1:Int)<0) c
   ·rw[if_neg s]
    exact aF (fun _=>aA.2 (n (by omega))) fun c=>absurd (by decide:(-1:Int)<0) c
  ·have hi:2*i=x.size:=by have:¬(i:Int)<((x.size/2:Nat):Int):=B;omega
   rw[hi,←L,bJ]at m;rw[m]at f;refine⟨aG out,?_,f h' p⟩;rw[pk];simpa using(z.sl (W:=No) fun _ _ _ h=>h).srow
end Go.Proofs
