/- A part of the proof that the named laws of this program answer true, whatever the input. -/
import Derived.Test.YtopdngagmfanlaaGreatDoorPart2
import Derived.Test.YtopdngagmfanlaaGreatDoorPart0
import Derived.Shelf.Strings.Search3
import Derived.Shelf.Strings.Count
import Derived.Shelf.Small.Strs
import Derived.Shelf.Strings.Builder1
open Array renaming toList_inj→lf,getElem?_modify→gX
open BitVec renaming ofInt→aj
open ByteArray renaming data_extract→gw,mk→tX
open Go.IntKind renaming wrap→ac,wrap_u8→g9,wrap_u64→gG,bits→af
open Iff renaming rfl→wa
open Int renaming toNat_natCast→aB,tdiv→th,tdiv_eq_ediv_of_nonneg→ko,tmod→gr,tmod_eq_emod_of_nonneg→dQ,fdiv→fa
open List renaming length_cons→aV,getElem?_eq_getElem→aJ,length_eq_zero_iff→aY,length_nil→dT,length_take→aP,take_length→bW,append_assoc→aF,drop_eq_getElem_cons→ec,take_append_drop→bO,size_toArray→cp,length_append→ai,length_singleton→bZ,extract_eq_take_drop→fy,length_drop→aK,getElem?_toArray→dB,length→jk,mem_append→bS,mem_cons→au,replicate→bw
open Nat renaming le_refl→az,zero_le→cu,le_trans→bR,le_of_eq→eZ,zero_add→aD,lt_or_ge→bQ,lt_irrefl→jJ,lt_of_lt_of_le→aC
open Option renaming some→aZ
open Prod renaming mk→tT
open UInt8 renaming ofNat→bP,toNat_inj→jD
namespace Go.Proofs
open Go Go.Lift
theorem LR{T:Type}{x:T}{k:T→Prop}(h:k x):Bd x k:=h
theorem Pq{M:Nat→Prop}{h:ad}{a:SliceV}{out bs:List UInt8}{vs:List Value}{n:Nat}(f:vs=bs.flatMap FB)(e:n=bs.length){K:SliceV→ad→Prop}(j:OwnS FB 1 jm M h a out)(hM:∀b,h.size≤b→M b)(m:out.length+bs.length≤140737488355328)
  (d:∀s' h',OwnS FB 1 jm M h' s' (out++bs)→Upd M h h'→K s' h'):
  ∃xs,SRow (hnew h vs jm) (some (aR h)) (n*1) xs∧AppP (some [.int .u8 0]) 1 1 jm a.a a.len a.cap n xs (hnew h vs jm) K:=by
 subst f e;have k:=Upd.hnew No h (bs.flatMap FB) jm;have g:OwnS FB 1 jm (fun _=>True) (hnew h (bs.flatMap FB) jm) ⟨some (aR h),bs.length,bs.length⟩ bs:=⟨rfl,AA,az _,.inr ⟨h.size,[],rfl,trivial,by rw[List.append_nil];exact bh ..,by simp⟩⟩
 refine⟨_,(g.sl (W:=No) fun _ _ _ h=>h).srow,?_⟩
 refine AppP.own (ys:=bs) (j.upd k fun _ _ h=>h) rfl rfl (Lw bs) rfl (by omega) (by omega) (hM _ (by rw[fe];omega)) fun s' h' c i=>?_
 exact d s' h' c ((Upd.hnew M h _ _).tr i)
abbrev sgn16:ByteArray:=⟨#[48,49,50,51,52,53,54,55,56,57,97,98,99,100,101,102]⟩
theorem FV{n:Nat}(h:n<16):sgn16[n]? =some (uy n):=by
 have:∀n:Fin 16,sgn16.data.toList[n.val]? =some (uy n.val):=by decide+kernel
 rw[MJ];exact this ⟨n,h⟩
theorem Ib(a b:List UInt8):yy (a++b)=yy a++yy b:=by unfold yy;rw[List.flatMap_append]
theorem uS(l:List UInt8):(yy l).length=2*l.length:=by
 induction l with
 |nil=>rfl
 |cons b l ih=>show(uy _::uy _::yy l).length=_;simp only[aV,ih];omega
theorem O6(c:UInt8):qY c≤16:=by
 unfold qY;split
 ·omega
 ·split<;>omega
abbrev bN(l:List UInt8):ByteArray:=⟨l.toArray⟩
theorem N1(x:ByteArray):bN x.data.toList=x:=rfl
theorem Ir{c:UInt8}{h:ad}{K:Int→ad→Prop}(e:K (qY c:Int) h):HC PG rh [.int .u8 (c.toNat:Int)] [.c (.int .u8)] K h:=by
 refine IQ (c.toNat:Int) ?_;unfold Bu;have hc:=c.toNat_lt;have d:¬(48≤c.toNat∧c.toNat≤57)→Join (T:=Bool) (fun j g=>CondP j (K (ac .u8 ((ac .u8 ((c.toNat:Int)-97))+10)) g) (K 16 g)) (fun i=>CondP (decide ((c.toNat:Int)≥97)) (i (decide ((c.toNat:Int)≤102)) h) (i false h)):=by
  intro f;refine Join.plain (aG (fun a=>aG (fun b=>?_) fun b=>?_) fun a=>ag.2 ?_)
  ·rw[show ac .u8 ((ac .u8 ((c.toNat:Int)-97))+10)=(qY c:Int)from by rw[g9,g9,qY,if_neg f,if_pos ⟨by omega,by omega⟩];omega];exact e
  ·rw[show(16:Int)=(qY c:Int)from by rw[qY,if_neg f,if_neg (by omega)];rfl];exact e
  ·rw[show(16:Int)=(qY c:Int)from by rw[qY,if_neg f,if_neg (by omega)];rfl];exact e
 refine Join.plain (aG (fun a=>aG (fun b=>?_) fun b=>d (by omega)) fun a=>ag.2 (d (by omega)))
 rw[show ac .u8 ((c.toNat:Int)-48)=(qY c:Int)from by rw[g9,qY,if_pos ⟨by omega,by omega⟩];omega];exact e
theorem rY(x:ByteArray):x.data.toList.length=x.size:=Array.length_toList
theorem M9{x:ByteArray}{i:Nat}(h:i<x.size):∃b,x[((i:Nat):Int).toNat]? =some b∧x.data.toList[i]? =some b∧x.data.toList.take (i+1)=x.data.toList.take i++ [b]:=by
 have a:i<x.data.toList.length:=by rw[rY];exact h
 refine⟨x.data.toList[i],?_,aJ a,?_⟩
 ·rw[aB,MJ];exact aJ a
 ·rw[List.take_add_one,aJ a];rfl
theorem Mi{x:ByteArray}(hx:x.size≤1000000){h:ad}{K:ByteArray→ad→Prop}(m:∀h',Upd No h h'→K (bN (xm x.data.toList)) h'):HC PG Ax [.string x] [.c .str] K h:=by
 refine Nd x ?_;unfold FH vl9;have g:=rY x;refine CondP.intro (fun e=>?_) fun e=>?_
 ·have e:x.size=0:=by simpa using e
  have f:x.data.toList= []:=aY.1 (by omega);have:=m h (Upd.refl _ _);rw[f]at this;exact this
 ·have e:x.size≠0:=by simpa using e
  refine LoopP.ghost (fun(i:Nat) (t:SliceV×Int) h'=>t.2=(i:Int)∧i≤x.size∧OwnS FB 1 jm (fun y=>h.size≤y) h' t.1 (yy (x.data.toList.take i))∧Upd No h h') (fun i=>x.size-i) 0 ⟨rfl,cu _,OwnS.nil AA,Upd.refl _ _⟩ ?_
  rintro I i ⟨z,A⟩ h' ⟨e1,hi,c,k⟩ s;simp only at e1 c;subst e1;refine aG (fun a=>?_) fun j=>?_
  ·have a:i<x.size:=by have:(i:Int)<(x.size:Int):=a;omega
   obtain⟨b,b1,_,b3⟩:=M9 a;have v:=b.toNat_lt;have q:ac .u8 (th (b.toNat:Int) 16)=((b.toNat/16:Nat):Int):=by rw[ko (by omega),g9];omega
   have n:gr (b.toNat:Int) 16=((b.toNat%16:Nat):Int):=by rw[dQ (by omega)];omega
   refine Join.plain ⟨b,by simp only;omega,b1,by decide,uy (b.toNat/16),by rw[q];omega,by rw[q,aB];exact FV (by omega),b,by simp only;omega,b1,by decide,uy (b.toNat%16),by rw[n];omega,by rw[n,aB];exact FV (by omega),aU ?_⟩
   have w:=k.size;refine Pq (bs:= [uy (b.toNat/16),uy (b.toNat%16)]) rfl rfl c (fun y p=>by omega) (by rw[uS];simp only[aV,dT,aP];omega) fun s' d o u=>?_
   show I (s',ac .i64 ((i:Int)+1)) d
   rw[eu a (by omega)];refine s (i+1) _ _ ⟨rfl,a,?_,k.trans u fun y p=>.inr p⟩ (by omega)
   rw[b3,Ib];exact o
  ·have hi:i=x.size:=by have:¬(i:Int)<(x.size:Int):=j;omega
   rw[hi,←g,bW]at c;refine⟨bN (yy x.data.toList),?_,?_⟩
   ·rw[mr];simpa using(c.sl (W:=No) fun _ _ _ h=>h).srow
   ·have:=m h' k
    rw[xm,if_neg (fun f=>by rw[f]at g;simp at g;omega)]at this
    exact this
theorem A0(c d:UInt8)(l:List UInt8):fu (c::d::l)=if qY c<16∧qY d<16 then(fu l).map (bP (16*qY c+qY d):: ·)else none:=by rw[fu]
theorem qe:∀(a b:List UInt8),a.length%2=0→fu (a++b)=(fu a).bind fun x=>(fu b).map (x++ ·)
 | [],b,_=>by cases h:fu b<;>simp[fu,h]
 | [_],_,h=>by simp at h
 |c::d::l,b,h=>by
  have h:l.length%2=0:=by simp only[aV]at h;omega
  show fu (c::d::(l++b))=_
  rw[A0,A0,qe l b h];split
  ·cases fu l<;>cases fu b<;>rfl
  ·rfl
theorem wZ:∀l:List UInt8,l.length%2=1→fu l=none
 | [],h=>by simp at h
 | [_],_=>rfl
 |c::d::l,h=>by
  have h:l.length%2=1:=by simp only[aV]at h;omega
  unfold fu;split
  ·rw[wZ l h];rfl
  ·rfl
abbrev Gi(o:Option (List UInt8)):ByteArray×Bool:=match o with|some l=>(bN l,true)|none=>(bN [],false)
theorem Q0{x:ByteArray}{i:Nat}(h:i+1<x.size):∃a b,x[((i:Nat):Int).toNat]? =some a∧x[((i+1:Nat):Int).toNat]? =some b∧x.data.toList.drop i=a::b::x.data.toList.drop (i+2)∧x.data.toList.take (i+2)=x.data.toList.take i++ [a,b]:=by
 obtain⟨a,d,c,e⟩:=M9 (x:=x) (i:=i) (by omega);obtain⟨b,b1,b2,b3⟩:=M9 h;have f:=rY x;refine⟨a,b,d,b1,?_,by rw[b3,e,aF];rfl⟩
 rw[ec (by omega),ec (by omega)];rw[aJ (by omega)]at c b2;rw[aZ.inj c,aZ.inj b2]
theorem E5{x:ByteArray}:(x.toList==(⟨#[45]⟩:ByteArray).toList)=decide (x.data.toList= [45]):=by
 rw[f8,decide_eq_decide];exact⟨fun e=>by rw[e],fun e=>by rw[←N1 x,e]⟩
theorem Gm{x:ByteArray}:(x.toList==(⟨#[]⟩:ByteArray).toList)=decide (x.data.toList= []):=by
 rw[f8,decide_eq_decide];exact⟨fun e=>by rw[e],fun e=>by rw[←N1 x,e]⟩
theorem HK{x:ByteArray}(hx:x.size≤1000000){h:ad}{K:ByteArray×Bool→ad→Prop}(f:∀h',Upd No h h'→K (Gi (jL x.data.toList)) h'):HC PG ve [.string x] [.c .str,.c .bool] K h:=by
 refine IR x ?_;unfold Bv;have q:=rY x;rw[E5];refine aG (fun e=>?_) fun e=>?_
 ·have:=f h (Upd.refl _ _)
  rw[jL,if_pos e]at this;exact this
 rw[jL,if_neg e]at f;refine Join.plain (CondP.intro (fun j=>ay.2 ?_) fun j=>⟨by decide,CondP.intro (fun e1=>?_) fun e1=>?_⟩)
 ·have j:x.size=0:=by simpa using j
  have:=f h (Upd.refl _ _);rw[if_pos (aY.1 (by omega))]at this;exact this
 ·have j:x.size≠0:=by simpa using j
  have e1:gr (x.size:Int) 2=1:=by simpa using e1
  rw[dQ (by omega)]at e1;have:=f h (Upd.refl _ _);rw[if_neg (fun e=>by rw[e]at q;simp at q;omega),wZ _ (by omega)]at this;exact this
 ·have j:x.size≠0:=by simpa using j
  have e1:gr (x.size:Int) 2≠1:=by simpa using e1
  rw[dQ (by omega)]at e1;rw[if_neg (fun e=>by rw[e]at q;simp at q;omega)]at f
  refine LoopP.ghost (fun(g:Nat×List UInt8) (t:SliceV×Int) h'=>t.2=((2*g.1:Nat):Int)∧2*g.1≤x.size∧fu (x.data.toList.take (2*g.1))=some g.2∧g.2.length=g.1∧OwnS FB 1 jm (fun y=>h.size≤y) h' t.1 g.2∧Upd No h h') (fun g=>x.size-g.1) (0,[]) ⟨rfl,cu _,rfl,rfl,OwnS.nil AA,Upd.refl _ _⟩ ?_
  rintro I ⟨i,out⟩ ⟨J,O⟩ h' ⟨e2,hi,p,s,z,v⟩ G;simp only at e2 hi p s z;subst e2;refine aG (fun n=>?_) fun w=>?_
  ·have n:2*i<x.size:=by have:((2*i:Nat):Int)<(x.size:Int):=n;omega
   obtain⟨a,b,E,b1,d,t⟩:=Q0 (x:=x) (i:=2*i) (by omega);have C:ac .i64 (((2*i:Nat):Int)+1)=((2*i+1:Nat):Int):=by rw[j2 (by omega)];omega
   have m:fu x.data.toList=(fu (a::b::x.data.toList.drop (2*i+2))).map (out++ ·):=by
    have D:=qe (x.data.toList.take (2*i)) (x.data.toList.drop (2*i)) (by rw[aP];omega);rw[bO,p,d]at D;exact D
   refine Join.plain ⟨a,by simp only;omega,E,b,by rw[C];omega,by rw[C];exact b1,Ir (Ir ?_)⟩
   have H:qY a≤16:=O6 a;have N:qY b≤16:=O6 b;have k:¬(qY a<16∧qY b<16)→K (bN [],false) h':=fun s=>by
    have:=f h' v;rw[m]at this;unfold fu at this;rw[if_neg s]at this;exact this
   refine Join.plain (aG (fun c=>ay.2 (k (by omega))) fun c=>aG (fun F=>k (by omega)) fun F=>?_)
   have L:=v.size;refine aU (DC (b:=bP (16*qY a+qY b)) ?_ z (fun y B=>by omega) (by omega) fun s' A o u=>?_)
   ·rw[UInt8.toNat_ofNat_of_lt' (by show _<256;omega),g9,g9];omega
   ·show I (s',ac .i64 (((2*i:Nat):Int)+2)) A
    rw[show ac .i64 (((2*i:Nat):Int)+2)=((2*(i+1):Nat):Int)from by rw[j2 (by omega)];omega]
    refine G (i+1,out++ [bP (16*qY a+qY b)]) _ _ ⟨rfl,by simp only;omega,?_,by simp[s],o,v.trans u fun y B=>.inr B⟩ (by simp only;omega)
    rw[show 2*(i+1)=2*i+2 from by omega,t,qe _ _ (by rw[aP];omega),p]
    simp only[fu,if_pos (show qY a<16∧qY b<16 from by omega)]
    rfl
  ·have hi:2*i=x.size:=by have:¬((2*i:Nat):Int)<(x.size:Int):=w;omega
   rw[hi,←q,bW]at p;rw[p]at f;refine⟨bN out,?_,f h' v⟩;rw[mr];simpa using(z.sl (W:=No) fun _ _ _ h=>h).srow
end Go.Proofs
namespace Go.Proofs
open Go Go.Lift
theorem N3(a b:List UInt8):bN a++bN b=bN (a++b):=by
 apply ByteArray.ext;rw[ByteArray.data_append];simp
theorem ga(a:List UInt8):(bN a).size=a.length:=cp
theorem Iu:∀(k n:Nat),n<10^(k+1)→(gM n).length≤k+1
 |0,n,h=>by rw[lV (by simpa using h)];simp
 |k+1,n,h=>by
  by_cases c:n<10
  ·rw[lV c];simp
  ·rw[tN c,ai]
   have:=Iu k (n/10) (by rw[Nat.pow_succ]at h;omega);simp only[bZ];omega
theorem O7{n:Nat}(h:n<18446744073709551616):(gM n).length≤20:=Iu 19 n (by omega)
theorem Mj:∀(n:Nat),n<18446744073709551616→∀{h:ad} {K:ByteArray→ad→Prop},K (bN (gM n)) h→HC PG vT [.int .u64 (n:Int)] [.c .str] K h:=by
 intro n;induction n using Nat.strongRecOn with
 |ind n ih=>
  intro f h K b;refine Nf (n:Int) ?_;unfold FI;have e1:gr (n:Int) 10=((n%10:Nat):Int):=by rw[dQ (by omega)];omega
  have e2:ac .u64 (((n%10:Nat):Int)+1)=((n%10+1:Nat):Int):=by rw[gG];omega
  have e:ac .u64 (th (n:Int) 10)=((n/10:Nat):Int):=by rw[ko (by omega),gG];omega
  have key:∀d:Fin 10,(⟨#[48,49,50,51,52,53,54,55,56,57]⟩:ByteArray).extract d.val (d.val+1)=bN [bP (48+d.val)]:=by decide+kernel
  have a:=key ⟨n%10,Nat.mod_lt _ (by omega)⟩;simp only at a;rw[e1,e2,e,aB,aB,a];refine⟨by decide,by decide,⟨by omega,by show _≤((10:Nat):Int);omega⟩,⟨by omega,by omega⟩,LR (aG (fun c=>?_) fun c=>⟨by decide,ih (n/10) (by omega) (by omega) ⟨?_,?_⟩⟩)⟩
  ·rw[lV (by omega)]at b
   rw[Nat.mod_eq_of_lt (by omega)];exact b
  ·have:=O7 (n:=n/10) (by omega)
   rw[ga,ga];simp only[bZ];omega
  ·rw[N3,←tN (by omega)];exact b
theorem Gx:∀(v:List UInt8) (a:Nat),a≤v.foldl (fun a c=>10*a+(c.toNat-48)) a
 | [],_=>az _
 |c::v,a=>bR (show a≤10*a+(c.toNat-48) by omega) (Gx v _)
theorem L1(u v:List UInt8):j6 u≤j6 (u++v):=by
 unfold j6;rw[List.foldl_append];exact Gx _ _
abbrev Gj(o:Option Nat):Int×Bool:=match o with|some n=>((n:Int),true)|none=>(0,false)
theorem Ga{x:ByteArray}(hx:x.size≤1000000){h:ad}{K:Int×Bool→ad→Prop}(p:K (Gj (nA x.data.toList)) h):HC PG tJ [.string x] [.c (.int .u64),.c .bool] K h:=by
 refine GX x ?_;unfold zy;have A:=rY x;have no:(x.size=0∨20<x.size∨(x.data.toList.head? =some 48∧1<x.size)∨x.data.toList.all El=false∨18446744073709551616≤j6 x.data.toList)→K (0,false) h:=fun hc=>by
  rw[HX,A,if_pos hc]at p;exact p
 refine Join.intro (fun t h'=>h'=h∧t=decide (x.size=0∨20<x.size∨(x.data.toList.head? =some 48∧1<x.size))) (fun R j=>?_) ?_
 ·refine CondP.intro (fun e=>j _ _ ⟨rfl,?_⟩) fun e=>aG (fun e2=>j _ _ ⟨rfl,?_⟩) fun e2=>?_
  ·have e:x.size=0:=by simpa using e
   exact(decide_eq_true (.inl e)).symm
  ·exact(decide_eq_true (.inr (.inl (by omega)))).symm
  ·have e:x.size≠0:=by simpa using e
   obtain⟨b,b1,b2,_⟩:=M9 (x:=x) (i:=0) (by omega);have C:x.data.toList.head? =some b:=by rw[List.head?_eq_getElem?];exact b2
   refine⟨b,by omega,b1,CondP.intro (fun g=>j _ _ ⟨rfl,?_⟩) fun g=>j _ _ ⟨rfl,?_⟩⟩
   ·have E:(b.toNat:Int)=48:=by simpa using g
    have g:b=48:=jD.1 (show b.toNat=48 by omega)
    rw[C,g,decide_eq_decide];exact⟨fun a=>.inr (.inr ⟨rfl,by omega⟩),fun a=>by rcases a with a|a|a<;>omega⟩
   ·have g:b≠48:=fun E=>by rw[E]at g;exact absurd g (by decide)
    rw[C,eq_comm,decide_eq_false_iff_not];rintro(a|a|⟨a,_⟩)
    ·omega
    ·omega
    ·exact g (aZ.inj a)
 rintro t h' ⟨m,rfl⟩;subst m;refine aG (fun c=>no ?_) fun c=>?_
 ·rcases c with c|c|c
  ·exact .inl c
  ·exact .inr (.inl c)
  ·exact .inr (.inr (.inl c))
 refine LoopP.ghost (fun(i:Nat) (t:Int×Int) y=>t.2=(i:Int)∧y=h'∧i≤x.size∧(x.data.toList.take i).all El=true∧t.1=(j6 (x.data.toList.take i):Int)∧j6 (x.data.toList.take i)<18446744073709551616) (fun i=>x.size-i) 0 ⟨rfl,rfl,cu _,rfl,rfl,(show(0:Nat)<18446744073709551616 by omega)⟩ ?_
 rintro I i ⟨H,L⟩ y ⟨e1,m,hi,s,e2,G⟩ F;simp only at e1 e2;subst e1 m e2;refine aG (fun f=>?_) fun w=>?_
 ·have f:i<x.size:=by have:(i:Int)<(x.size:Int):=f;omega
  obtain⟨b,b1,b2,b3⟩:=M9 f;have q:=b.toNat_lt;have split:x.data.toList=x.data.toList.take (i+1)++x.data.toList.drop (i+1):=(bO _ _).symm;refine Join.intro (fun t o=>o=y∧t= !El b) (fun R j=>⟨b,by simp only;omega,b1,aG (fun c=>j _ _ ⟨rfl,?_⟩) fun c=>⟨b,by simp only;omega,b1,j _ _ ⟨rfl,?_⟩⟩⟩) ?_
  ·unfold El;rw[decide_eq_false (by omega:¬48≤b.toNat)];rfl
  ·unfold El;rw[decide_eq_true (by omega:48≤b.toNat),Bool.true_and,←decide_not,decide_eq_decide];omega
  rintro t o ⟨m,e⟩;subst m e;refine CondP.intro (fun c=>no (.inr (.inr (.inr (.inl ?_))))) fun c=>?_
  ·rw[List.all_eq_false]
   exact⟨b,List.mem_of_getElem? b2,by simpa using c⟩
  have c:El b=true:=by simpa using c
  obtain⟨c1,J⟩:=Cf.1 c;have B:ac .u64 (ac .u8 ((b.toNat:Int)-48))=((b.toNat-48:Nat):Int):=by rw[gG,g9];omega
  have u:=vK (x.data.toList.take i) b;rw[←b3]at u;have n:18446744073709551616≤10*j6 (x.data.toList.take i)+(b.toNat-48)→K (0,false) o:=fun q=>no (.inr (.inr (.inr (.inr (by
   have:=L1 (x.data.toList.take (i+1)) (x.data.toList.drop (i+1))
   rw[←split]at this;omega)))))
  have D:10*j6 (x.data.toList.take i)+(b.toNat-48)<18446744073709551616→Bd (ac .u64 ((ac .u64 (10*(j6 (x.data.toList.take i):Int)))+(ac .u64 (ac .u8 ((b.toNat:Int)-48)))):Int) (fun z=>I (z,ac .i64 ((i:Int)+1)) o):=fun q=>by
   refine LR ?_;rw[B,show ac .u64 ((ac .u64 (10*(j6 (x.data.toList.take i):Int)))+((b.toNat-48:Nat):Int))=((10*j6 (x.data.toList.take i)+(b.toNat-48):Nat):Int)from by rw[gG,gG];omega,eu f (by omega)]
   refine F (i+1) _ _ ⟨rfl,rfl,f,?_,by simp only[u],by rw[u];exact q⟩ (by omega)
   rw[b3,List.all_append,s];simp[c]
  refine⟨b,by simp only;omega,b1,Join.plain (aG (fun d=>ay.2 (n (by simp only at d;omega))) fun d=>CondP.intro (fun k=>?_) fun k=>ag.2 (D ?_))⟩
  ·have k:(j6 (x.data.toList.take i):Int)=1844674407370955161:=by simpa using k
   refine aG (fun v=>n ?_) fun v=>D ?_
   ·rw[B]at v;omega
   ·rw[B]at v;omega
  ·have k:(j6 (x.data.toList.take i):Int)≠1844674407370955161:=by simpa using k
   omega
 ·have hi:i=x.size:=by have:¬(i:Int)<(x.size:Int):=w;omega
  rw[hi,←A,bW]at s G⊢;rw[HX,A,if_neg]at p
  ·exact p
  ·rintro(a|a|a|a|a)
   ·exact c (.inl a)
   ·exact c (.inr (.inl a))
   ·exact c (.inr (.inr a))
   ·rw[s]at a;cases a
   ·omega
end Go.Proofs
namespace Go.Proofs
open Go Go.Lift
theorem Hy{b:Nat}{h:ad}{K:Bool→ad→Prop}(a:K false h):HC PG md [.pointer (some ⟨b,0,none⟩),.pointer none] [.c .bool] K h:=by
 refine xK _ none ?_;unfold qN gi;exact ay.2 (uN (ag.2 a))
abbrev QT:List Value:= [.string (⟨#[]⟩:ByteArray),.bool false,.string (⟨#[]⟩:ByteArray),.slice none 0 0,.pointer none]
theorem mF{W:Nat→Prop}{h:ad}{b:Nat}{sl val:ByteArray}{has:Bool}{s:SliceV}{ow:Option Addr}{ks:List (Option Addr)}(d:h[b]? =some (.cells (CM sl has val s ow) bC (0,0))) (y:Sl tl 1 W h s ks) (D:ks.length≤256) {K:Option Addr→ad→Prop}
  (z:∀h' s',h'[h.size]? =some (.cells (CM sl has val s' none) bC (0,0))→OwnS tl 1 bc (fun x=>h.size<x∧x<h'.size) h' s' ks→Upd No h h'→K (some ⟨h.size,0,none⟩) h'):
  HC PG dg [.pointer (some ⟨b,0,none⟩),.pointer none] [.c .ptr] K h:=by
 refine AN _ none ?_;unfold ta cC cX bL nv cg hO gi He R8;refine Hy (ag.2 ?_);refine⟨_,rfl,sl,fh (i:=0) d,has,fh (i:=1) d,val,fh (i:=2) d,s,fh (i:=3) d,ow,fh (i:=4) d,aU ?_⟩;have k1:=Upd.hnew No h QT bC;have b1:=bh h QT bC;simp only[cG h];generalize hnew h [.string (⟨#[]⟩:ByteArray),.bool false,.string (⟨#[]⟩:ByteArray),.slice none 0 0,.pointer none] bC=h1 at k1 b1
 refine eN (c:=QT) (vs:= [.string sl,.bool has,.string val,.slice s.a s.len s.cap,.pointer ow]) b1 rfl fun v b2 o=>?_
 have n:Upd No h v:=k1.trans o fun x hx=>.inr (eZ hx.symm)
 have B:h.size<v.size:=bp b2;have k:=n.get0 d;refine⟨_,rfl,s,fh (i:=3) k,?_⟩;refine M1 (y.upd n fun _ h=>h.elim) (by omega) fun q w m f=>?_
 have b3:w[h.size]? =some (.cells (CM sl has val s ow) bC (0,0)):=f.get0 b2;refine⟨PL (i:=3) b3 (show 3<5 by decide),D7 (i:=3) (c':=CM sl has val q ow) b3 rfl fun E t p=>?_⟩
 refine⟨PL (i:=4) t (show 4<5 by decide),D7 (i:=4) (c':=CM sl has val q none) t rfl fun u A j=>?_⟩
 refine uN (ag.2 ?_);have a:=p.tr j;have C:=a.size;have g:=(m.within.upd a fun x hx e=>by have e:x=h.size:=e;have:=hx.1;omega).more (M':=fun x=>h.size<x∧x<u.size) fun x hx=>⟨by have:=hx.1;omega,by have:=hx.2;omega⟩
 exact z u q A g ((n.tr f).trans a fun x hx=>.inr (eZ hx.symm))
theorem tx{h:ad}{b:Nat}{sl nl:ByteArray}{has:Bool}{val:ByteArray}{s:SliceV}{ow:Option Addr}(a:h[b]? =some (.cells (CM sl has val s ow) bC (0,0))) {K:Option Addr→ad→Prop}
  (c:∀h',h'[b]? =some (.cells (CM nl has val s ow) bC (0,0))→Upd (· =b) h h'→K (some ⟨b,0,none⟩) h'):HC PG fJ [.pointer (some ⟨b,0,none⟩),.string nl] [.c .ptr] K h:=by
 refine xI _ nl ?_;unfold qL cg;exact⟨_,rfl,PL (i:=0) a (show 0<5 by decide),D7 (i:=0) (c':=CM nl has val s ow) a rfl c⟩
theorem A6{h:ad}{b:Nat}{sl v:ByteArray}{has:Bool}{val:ByteArray}{s:SliceV}{ow:Option Addr}(d:h[b]? =some (.cells (CM sl has val s ow) bC (0,0))) {K:Option Addr→ad→Prop}
  (e:∀h',h'[b]? =some (.cells (CM sl true v s ow) bC (0,0))→Upd (· =b) h h'→K (some ⟨b,0,none⟩) h'):HC PG iH [.pointer (some ⟨b,0,none⟩),.string v] [.c .ptr] K h:=by
 refine wq _ v ?_;unfold pQ cg;exact⟨_,rfl,PL (i:=1) d (show 1<5 by decide),D7 (i:=1) (c':=CM sl true val s ow) d rfl fun g b1 a=>⟨_,rfl,PL (i:=2) b1 (show 2<5 by decide),D7 (i:=2) (c':=CM sl true v s ow) b1 rfl fun f b2 c=>e f b2 (a.tr c)⟩⟩
theorem JC{h:ad}{k v:ByteArray}{K:Option Addr→ad→Prop}(g:∀h' b s,h'[b]? =some (.cells (CM k true v s none) bC (0,0))→s.len=0→s.len≤s.cap→h.size≤b→Upd No h h'→K (some ⟨b,0,none⟩) h'):HC PG se [.pointer none,.string k,.string v] [.c .ptr] K h:=by
 refine Ev none k v ?_;unfold wQ lA hO He;have k1:=Upd.hnew No h QT bC;have b1:=bh h QT bC;refine aU ?_;simp only[cG h];generalize hnew h [.string (⟨#[]⟩:ByteArray),.bool false,.string (⟨#[]⟩:ByteArray),.slice none 0 0,.pointer none] bC=h1 at k1 b1;refine mF (W:=No) (ks:= []) (sl:=⟨#[]⟩) (val:=⟨#[]⟩) (has:=false) (s:=⟨none,0,0⟩) (ow:=none) b1 (Sl.nil mH) (cu _) fun o s b2 d c=>?_
 refine tx (nl:=k) b2 fun n b3 f=>A6 (v:=v) b3 fun m j e=>?_
 have a:=f.tr e;have z:=c.size;have i:=k1.size;refine g m h1.size s j d.len d.cap i ((k1.tr c).trans a fun x hx=>.inr (by have hx:x=h1.size:=hx;omega))
theorem SB{W:Nat→Prop}{h:ad}{b:Nat}{k v:ByteArray}{s:SliceV}{ow:Option Addr}(a:h[b]? =some (.cells (CM k true v s ow) bC (0,0))) (c:s.len=0) (hc:s.len≤s.cap) (nw:¬W b):RxN W h b k (some v) .nil:=
 ⟨v,s,ow,[],a,rfl,⟨c,mH,fun h=>absurd rfl h⟩,⟨hc,nw⟩,rfl⟩
theorem Dh(s:ByteArray)(c:Nat):(s.extract 0 c).data.toList=s.data.toList.take c:=by
 rw[gw,Array.toList_extract,fy];simp
theorem Di(s:ByteArray)(c:Nat):(s.extract c s.size).data.toList=s.data.toList.drop c:=by
 rw[gw,Array.toList_extract,fy,List.take_of_length_le];rw[aK];simp
theorem JB{W:Nat→Prop}{h:ad}{b:Nat}{sl:ByteArray}{w:Option ByteArray}{F:Fo}(r:RxN W h b sl w F)(A:∀y,W y→y<h.size)(hn:F.toL.length≤256){c:Nat}(hc:c≤sl.size){K:Option Addr→ad→Prop}
  (U:∀h' b',RxN W h' b' (sl.extract 0 c) none (.cons (sl.data.toList.drop c) w F .nil)→Upd No h h'→K (some ⟨b',0,none⟩) h'):HC PG ma [.pointer (some ⟨b,0,none⟩),.pointer none,.int .i64 c] [.c .ptr] K h:=by
 refine xH _ none c ?_;unfold qK cC lA cg hO He;obtain⟨val,s,ow,ks,I,hv,S,L,J⟩:=r;have lab:∀{h'},Upd No h h'→aE h' (adr ⟨b,0,none⟩ 0)=some (.string sl):=fun k=>fh (i:=0) (k.get0 I)
 have Q:=Upd.refl No h;refine⟨_,rfl,sl,lab Q,⟨by omega,by omega⟩,aU ?_⟩
 have k1:=Upd.hnew No h QT bC;have b1:=bh h QT bC;simp only[cG h];generalize hnew h [.string (⟨#[]⟩:ByteArray),.bool false,.string (⟨#[]⟩:ByteArray),.slice none 0 0,.pointer none] bC=h1 at k1 b1;refine⟨lab k1,?_⟩;refine mF (W:=No) (ks:= []) (sl:=⟨#[]⟩) (val:=⟨#[]⟩) (has:=false) (s:=⟨none,0,0⟩) (ow:=none) b1 (Sl.nil mH) (cu _) fun h2 Y b2 _ u=>⟨lab (k1.tr u),?_⟩
 rw[aB];refine tx b2 fun d b3 G=>?_
 have z1:=k1.size;have a:Upd No h d:=(k1.tr u).trans G fun x hx=>.inr (by have hx:x=h1.size:=hx;omega)
 refine mF (a.get0 I) (S.upd a fun _ h=>h.elim) (by rw[(kE.1 J).1];exact hn) fun h4 s4 N C z=>?_
 refine⟨_,rfl,sl,fh (i:=0) N,⟨by omega,by omega⟩,?_⟩
 refine tx (nl:=sl.extract c sl.size) N fun f Z n=>?_
 have m:Upd No h f:=(a.tr z).trans n fun x hx=>.inr (by have hx:x=d.size:=hx;have:=a.size;omega)
 have B:=C.upd n fun x hx e=>by have e:x=d.size:=e;have:=hx.1;omega
 have X:=bp b3;have p:f[h1.size]? =some (.cells (CM (sl.extract 0 c) false ⟨#[]⟩ Y none) bC (0,0)):=n.get (z.get0 b3) (by show ¬h1.size=d.size;omega);have q:=Upd.hnew No f [.pointer (some ⟨d.size,0,none⟩)] bc;have O:=bh f [.pointer (some ⟨d.size,0,none⟩)] bc;have V:=m.size;have hz3:=a.size;refine aU ?_;simp only[cG f]
 generalize hnew f [.pointer (some ⟨d.size,0,none⟩)] bc=h6 at q O;have t:=q.get0 p;have P:=bp p;refine⟨_,rfl,PL (i:=3) t (show 3<5 by decide),D7 (i:=3) (c':=CM (sl.extract 0 c) false ⟨#[]⟩ ⟨some ⟨f.size,0,none⟩,1,1⟩ none) t rfl fun H T g=>?_⟩
 have j:Upd No h H:=(m.tr q).trans g fun x hx=>.inr (by have hx:x=h1.size:=hx;omega)
 have E:H[f.size]? =some (.cells #[.pointer (some ⟨d.size,0,none⟩)] bc (0,0)):=g.get O (by show ¬f.size=h1.size;omega);have D:=g.get (q.get0 Z) (by show ¬d.size=h1.size;omega);have o:=(B.upd q fun _ _ h=>h).upd g fun x hx e=>by have e:x=h1.size:=e;have:=hx.1;omega
 refine U H h1.size ⟨⟨#[]⟩,_,none,[some ⟨d.size,0,none⟩],T,rfl,⟨rfl,mH,fun _=>⟨_,rfl,(fun hx=>by have hx:W f.size:=hx;have:=A _ hx;omega),om E fun i v hi=>?_⟩⟩,⟨az _,fun hx=>by have:=A _ hx;omega⟩,?_⟩ j
 ·rw[aD]
  rw[←dB]at hi;exact hi
 ·refine⟨d.size,sl.extract c sl.size,val,s4,none,ks,[],rfl,Di ..,D,hv,o.sl (fun x hx _ R=>by have:=A _ R;have:=hx.1;omega),⟨o.cap,fun hx=>by have:=A _ hx;omega⟩,RxF.upd0 j J,rfl⟩
end Go.Proofs
namespace Go.Proofs
open Go Go.Lift
theorem Pc:∀{x y:List UInt8} {i:Nat},i≤x.length→i≤y.length→(∀j,j<i→x[j]? =y[j]?)→(i=x.length∨i=y.length∨x[i]?≠y[i]?)→cm x y=i
 | [],_,i,h1,_,_,_=>by simp at h1;simp[cm,h1]
 |_::_,[],i,_,h2,_,_=>by simp at h2;simp[cm,h2]
 |a::x,b::y,0,_,_,_,h=>by
  unfold cm;rw[if_neg];rintro rfl;rcases h with h|h|h<;>simp at h
 |a::x,b::y,i+1,h1,h2,h3,h4=>by
  have:=h3 0 (by omega);simp only[List.getElem?_cons_zero,aZ.injEq]at this;unfold cm;rw[if_pos this,Pc (i:=i) (by simpa using h1) (by simpa using h2) (fun j c=>by simpa using h3 (j+1) (by omega)) (by simpa using h4)]
theorem MY{a b:ByteArray}(x:a.size≤1000000){h:ad}{K:Int→ad→Prop}(n:K (cm a.data.toList b.data.toList:Nat) h):HC PG r7 [.string a,.string b] [.c (.int .i64)] K h:=by
 refine Er a b ?_;unfold wM;simp only[Bd];have k:(if(b.size:Int)<(a.size:Int)then(b.size:Int)else(a.size:Int))=((min a.size b.size:Nat):Int):=by split<;>omega
 rw[k];have w:a.data.toList.length=a.size:=by simp
 have y:b.data.toList.length=b.size:=by simp
 refine LoopP.ghost (fun(i:Nat) (t:Int) h'=>t=(i:Int)∧i≤min a.size b.size∧h'=h∧∀j,j<i→a.data.toList[j]? =b.data.toList[j]?) (fun i=>min a.size b.size-i) 0 ⟨rfl,cu _,rfl,fun j s=>absurd s (Nat.not_lt_zero _)⟩ ?_
 rintro I i t h' ⟨rfl,hi,rfl,o⟩ u;refine aG (fun c=>?_) fun v=>?_
 ·have c:i<min a.size b.size:=by omega
  have g:i<a.size:=by omega
  have m:i<b.size:=by omega
  refine⟨a[i],by omega,by rw[aB,getElem?_pos a i g],b[i],by omega,by rw[aB,getElem?_pos b i m],?_⟩
  have e1:a.data.toList[i]? =some a[i]:=by rw[←MJ,getElem?_pos a i g]
  have e2:b.data.toList[i]? =some b[i]:=by rw[←MJ,getElem?_pos b i m]
  refine CondP.intro (fun f=>?_) fun d=>?_
  ·rw[Pc (i:=i) (by omega) (by omega) o (.inr (.inr fun e=>?_))]at n
   ·exact n
   ·rw[e1,e2]at e
    rw[aZ.inj e]at f;simp at f
  ·have d:a[i]=b[i]:=by
    have:((a[i].toNat:Int))=(b[i].toNat:Int):=by simpa using d
    exact jD.1 (by omega)
   rw[eu c (by omega)];refine u (i+1) _ _ ⟨rfl,c,rfl,fun j s=>?_⟩ (by omega)
   rcases bQ j i with q|q
   ·exact o j q
   ·have:j=i:=by omega
    subst this;rw[e1,e2,d]
 ·have p:i=min a.size b.size:=by omega
  rw[Pc (i:=i) (by omega) (by omega) o (by omega)]at n;rw[←p];exact n
theorem Ml{F:Fo}{i:Nat}{k:List UInt8}{v:ByteArray}(h:ir F)(hi:i<F.toL.length)(ek:hd F.toL[i].1=hd k)(a:sr (uA F.toL[i]) (uA F.toL[i]) k v):sr (rq F) (rq F) k v:=by
 have:=HL h hi ek a;rw[List.set_getElem_self,Fo.of_to]at this;exact this
theorem Oj{P Q a:List UInt8→ByteArray→Prop}{k:List UInt8}{v:ByteArray}(h:sr P a k v)(e:∀k v,P k v↔Q k v):sr Q a k v:=fun k' b=>by rw[h k' b,e]
set_option maxHeartbeats 1000000 in
theorem Oc{W:Nat→Prop}:∀(n:Nat) {b:Nat} {sl:ByteArray} {w:Option ByteArray} {F:Fo} {h:ad} (k v:ByteArray),k.size<n→k.size≤1000000→RxN W h b sl w F→(∀y,W y→y<h.size)→ir F→∀{K:(Option Addr)×Bool×Bool→ad→Prop},
  (∀h' b' w' Y C ch,Upd No h h'→RxN W h' b' sl w' Y→ir Y→sr (sR w F) (sR w' Y) k.data.toList v→(ch=false→b'=b∧w'=w∧Y=F)→(sR w F k.data.toList v→ch=false)→K (some ⟨b',0,none⟩,C,ch) h')→
  HC PG kO [.pointer (some ⟨b,0,none⟩),.pointer none,.string k,.string v] [.c .ptr,.c .bool,.c .bool] K h:=by
 intro n;induction n with
 |zero=>intro b sl w F h k v hk;omega
 |succ n ih=>
  intro b sl w F h k v G hk6 r hW hc K hk;refine AM (some ⟨b,0,none⟩) none k v ?_;unfold s9 bA dU Jn cC cX bL eI lA cg hO NF Q7 FO;have hr:=r;obtain⟨val,s,ow,ks,hb,hv,hs,hcap,hF⟩:=r;have V:=kE.1 hF;have hn:=vX hc;have hcan:=dL.1 hc;rw[f8];refine aG (fun hk0=>?_) fun hk0=>?_
  ·have hke:k.data.toList= []:=by rw[hk0]
   rw[hke]at hk;refine Join.intro (fun t h'=>t=decide (w=some v)∧h'=h) (fun R hR=>⟨_,rfl,w.isSome,fh (i:=1) hb,?_⟩) ?_
   ·cases J:w with
    |none=>exact ag.2 (hR _ _ ⟨by rw[J];rfl,rfl⟩)
    |some u=>
     refine ay.2 ⟨_,rfl,val,fh (i:=2) hb,hR _ _ ⟨?_,rfl⟩⟩;rw[f8,vw hv u J,J];exact decide_eq_decide.2 ⟨fun e=>by rw[e],fun e=>aZ.inj e⟩
   ·rintro t h' ⟨rfl,rfl⟩
    refine aG (fun e=>?_) fun e=>?_
    ·refine hk h' b w F false false (Upd.refl _ _) hr hc ?_ (fun _=>⟨rfl,rfl,rfl⟩) fun _=>rfl
     rw[e];exact EZ hc v
    ·refine⟨_,rfl,w.isSome,fh (i:=1) hb,?_⟩
     refine mF hb hs (by rw[V.1];exact hn) fun h1 s1 b1 ho1 z=>?_
     refine⟨fh (i:=1) (z.get0 hb),?_⟩;refine A6 b1 fun A b2 B=>?_
     have d:Upd No h' A:=z.trans B fun x hx=>.inr (eZ (Eq.symm hx))
     refine⟨fh (i:=1) (d.get0 hb),?_⟩;have ho2:=ho1.upd B fun x hx e=>by have e:x=h'.size:=e;have:=hx.1;omega
     refine hk A h'.size (some v) F _ true d ⟨v,s1,none,ks,b2,rfl,ho2.sl (fun x hx _ J=>by have:=hW _ J;have:=hx.1;omega),⟨ho2.cap,fun hx=>jJ _ (hW _ hx)⟩,RxF.upd0 d hF⟩ hc (EZ hc v) (fun h=>by cases h) fun g=>?_
     rcases g with⟨_,h⟩|h
     ·exact absurd h e
     ·exact absurd rfl (Aq hc h)
  ·have f:k.data.toList≠[]:=fun e=>hk0 (by cases k;exact congrArg tX (lf.1 e))
   obtain⟨c0,hc0,hc0e⟩:=Gw f;refine⟨c0,Int.le_refl _,hc0,?_⟩;have hlk:k.data.toList.length=k.size:=by simp
   refine Ad hr hc (c:=c0.toNat) (UInt8.toNat_lt _) fun i ok hil hlo hhi hok=>?_
   rw[hc0e]at hlo hhi hok;cases ok with
   |false=>
    have hno:∀hi:i<F.toL.length,hd F.toL[i].1≠hd k.data.toList:=fun hi e=>by have:=hok.2 ⟨hi,e⟩;cases this
    have hhi':∀j (hj:j<F.toL.length),i≤j→hd k.data.toList<hd F.toL[j].1:=fun j hj hij=>by
     have h1:=hhi j hj hij;rcases bQ i j with X|X
     ·have A:=List.pairwise_iff_getElem.1 hcan.1 i j (by omega) hj X
      have h3:=hhi i (by omega) (az _);omega
     ·have:i=j:=by omega
      subst this;have:=hno hj;omega
    obtain⟨hc',hp'⟩:=Mn (v:=v) hc f hlo hhi';refine ay.2 ?_;refine mF hb hs (by rw[V.1];exact hn) fun h1 s1 b1 ho1 z=>?_
    refine⟨_,rfl,s1,fh (i:=3) b1,?_⟩;refine JC fun A fb fs fb2 hf0 hfc hfb B=>⟨fh (i:=3) (B.get0 b1),aU ?_⟩
    have k3:=Upd.hnew No A [.pointer (some ⟨fb,0,none⟩)] bc;have b3:=bh A [.pointer (some ⟨fb,0,none⟩)] bc;have z3:(hnew A [.pointer (some ⟨fb,0,none⟩)] bc).size=A.size+1:=fe ..;simp only[cG A];generalize hnew A [.pointer (some ⟨fb,0,none⟩)] bc=h3 at k3 b3 z3;have E:=B.tr k3;refine⟨fh (i:=3) (E.get0 b1),?_⟩;have z1:=bp b1
    have z2:=B.size;have zf:=bp fb2;have Z:=(ho1.upd E fun _ _ h=>h).more (M':=fun x=>(h.size<x∧x<h1.size)∨h3.size≤x) fun x hx=>.inl hx
    refine Km Z (k:=i) (by rw[V.1];exact hil) (by rw[V.1];omega) b3 (by rintro(h|h)<;>omega) (fun x hx=>.inr hx) fun s4 h4 S H=>?_
    have b4:=H.get (E.get0 b1) (by rintro(h|h)<;>omega)
    have f4:=H.get (k3.get0 fb2) (by rintro(h|h)<;>omega)
    refine⟨_,rfl,PL (i:=3) b4 (show 3<5 by decide),D7 (i:=3) (c':=CM sl w.isSome val s4 none) b4 rfl fun h5 b5 hu5=>?_⟩
    have hu05:Upd No h h5:=((z.tr E).trans H fun x hx=>.inr (by have:=z.size;rcases hx with hx|hx<;>omega)).trans hu5 fun x hx=>.inr (eZ (Eq.symm hx))
    have ho5:=S.upd hu5 fun x hx e=>by have e:x=h.size:=e;rcases hx with hx|hx<;>omega
    have f5:=hu5.get f4 (by show ¬fb=h.size;omega);refine hk h5 h.size w _ true true hu05 ⟨val,s4,none,_,b5,hv,ho5.sl (fun x hx _ J=>by have:=hW _ J;rcases hx with hx|hx<;>omega),⟨ho5.cap,fun hx=>jJ _ (hW _ hx)⟩,kE.2 (by rw[Fo.to_of];exact(V.upd0 hu05).ins i ⟨fb,k,rfl,rfl,SB f5 hf0 hfc fun hx=>by have:=hW _ hx;omega⟩)⟩ hc' (Ai f hp') (fun h=>by cases h) fun g=>?_
    rcases g with⟨h,_⟩|g
    ·exact absurd h f
    ·obtain⟨n',hn',e,_⟩:=uR hc g
     obtain⟨j,hj,rfl⟩:=List.getElem_of_mem hn';rcases bQ j i with X|X
     ·have:=hlo j hj X;omega
     ·have:=hhi' j hj X;omega
   |true=>
    obtain⟨hi,I⟩:=hok.1 rfl;refine ag.2 ⟨_,rfl,s,fh (i:=3) hb,?_⟩;obtain⟨kb,ksl,hki,q,G⟩:=V.at hi;have hmem:F.toL[i]∈F.toL:=List.getElem_mem hi;have o:=hcan.2 _ hmem;obtain⟨a,ha,_,hvv⟩:=hs.at0 hki;have hslen:=hs.len;rw[V.1]at hslen;have hlt1:(i:Int)<((s.len:Nat):Int):=by omega
    refine⟨⟨by simp only;omega,hlt1⟩,a,ha,some ⟨kb,0,none⟩,hvv,_,rfl,?_⟩;obtain⟨kval,kss,kow,kks,hkb,_⟩:=id G;refine⟨ksl,fh (i:=0) hkb,MY hk6 ?_⟩;rw[q];have hc1:=RL f o.1 I.symm;have P:=QZ k.data.toList F.toL[i].1;have Q:=LL k.data.toList F.toL[i].1;have hcd:=LM k.data.toList F.toL[i].1;have hll:ksl.size=F.toL[i].1.length:=by rw[←q];simp
    have L:rq F k.data.toList v→uA F.toL[i] k.data.toList v:=fun g=>by
     obtain⟨n',hn',e,hN⟩:=uR hc g;rw[←vW hc hn' hmem (by omega)];exact hN
    have hset:∀{w2:Option ByteArray} {F2:Fo} {nl:List UInt8},nl≠[]→hd nl=hd F.toL[i].1→ir F2→Br (sR w2 F2)→ir (.ofL (F.toL.set i (nl,w2,F2))):=fun h1 A h3 h4=>LN hc hi ⟨h1,(Pl h3).2 h4,h3⟩ A
    have T:∀{m:Bn},sr (uA F.toL[i]) (uA m) k.data.toList v→sr (rq F) (rq (.ofL (F.toL.set i m))) k.data.toList v:=fun hp=>HL hc hi I hp
    have N:sr (uA F.toL[i]) (uA F.toL[i]) k.data.toList v→sr (rq F) (rq F) k.data.toList v:=Ml hc hi I;have hrset:∀{h':ad} {k':Option Addr} {m:Bn},Upd No h h'→Kid W h' k' m→RxL W h' (ks.set i k') (F.toL.set i m):=fun hu hkd=>(V.upd0 hu).set hi hkd
    generalize F.toL[i]=m at q G o hc1 P Q hcd hll L hset T N I;generalize hcc:cm k.data.toList m.1=c at hc1 P Q hcd;obtain⟨lab,wk,Fk⟩:=m;simp only at q G o P Q hcd hll I hset;refine Join.intro (fun t h'=>∃ub p wu Fu,t=some ⟨ub,0,none⟩∧Upd No h h'∧RxN W h' ub p wu Fu∧ir Fu∧p.data.toList=k.data.toList.take c∧(∀k' v',uA (p.data.toList,wu,Fu) k' v'↔uA (lab,wk,Fk) k' v')∧(∀w' Y,ir Y→sr (sR wu Fu) (sR w' Y) (k.data.toList.drop c) v→Br (sR w' Y))) (fun R hR=>⟨_,rfl,ksl,fh (i:=0) hkb,?_⟩) ?_
    ·refine aG (fun hlt=>?_) fun hge=>?_
     ·have hlt:c<lab.length:=by omega
      refine JB G hW (vX o.2.2) (c:=c) (by omega) fun h1 ub rn z=>hR _ _ ⟨ub,_,none,_,rfl,z,rn,?_,?_,?_,?_⟩
      ·rw[q]
       refine⟨fun e=>?_,o.2.1,o.2.2,fun _ h=>by simp[Fo.toL]at h,trivial⟩
       have:=congrArg jk e;rw[aK,dT]at this;omega
      ·rw[Dh,q,Q]
      ·intro k' v'
       rw[Dh,q];exact Fg c k' v'
      ·intro w' Y hcF hp
       rw[q]at hp;refine Pk (fun e=>?_) o.2.1 o.2.2 (fun hne=>?_) hp
       ·have:=congrArg jk e
        rw[aK,dT]at this;omega
       ·refine hcd ?_ hlt
        rcases bQ c k.data.toList.length with X|X
        ·exact X
        ·exact absurd (List.drop_eq_nil_of_le X) hne
     ·have hce:c=lab.length:=by omega
      refine hR _ _ ⟨kb,ksl,wk,Fk,rfl,Upd.refl _ _,G,o.2.2,?_,?_,?_⟩
      ·rw[q,Q,hce,bW]
      ·intro k' v';rw[q]
      ·intro w' Y hcF hp
       exact QF ((Pl o.2.2).1 o.2.1) hp
    ·rintro t h1 ⟨ub,p,wu,Fu,rfl,z,rn,hcu,hsl,O,hbr⟩
     refine⟨⟨by omega,by omega⟩,?_⟩
     rw[aB];have hkd:(k.extract c k.size).data.toList=k.data.toList.drop c:=Di ..;have hks:(k.extract c k.size).size=k.size-c:=by simp
     have D:k.data.toList=p.data.toList++k.data.toList.drop c:=by rw[hsl,bO]
     have U:p.data.toList≠[]:=by
      rw[hsl];intro e;have:=congrArg jk e;rw[aP,dT]at this;omega
     have hslhd:hd p.data.toList=hd lab:=by
      rw[I];conv=>rhs;rw[D]
      rw[rZ U]
     refine ih (k.extract c k.size) v (by rw[hks];omega) (by rw[hks];omega) rn (fun y hy=>aC (hW y hy) z.size) hcu fun A b2 w2 F2 C ch B rn2 hc2 hp2 hsm hch=>?_
     rw[hkd]at hp2 hch;have d:=z.tr B;have hpn:sr (uA (lab,wk,Fk)) (uA (p.data.toList,w2,F2)) k.data.toList v:=by
      have:=Oj (Mm (lab:=p.data.toList) hp2) O;rw[←D]at this;exact this
     have hchg:sR w F k.data.toList v→ch=false:=fun g=>by
      rcases g with⟨h,_⟩|g
      ·exact absurd h f
      ·obtain⟨r,e,hr'⟩:=(O _ _).2 (L g)
       simp only at e;rw[D]at e;have e2:=List.append_cancel_left e;rw[←D]at e;exact hch (by rw[e2];exact hr')
     cases ch with
     |false=>
      obtain⟨_,rfl,rfl⟩:=hsm rfl;refine ay.2 (hk A b w F false false d (hr.upd0 d) hc (Ai f (N ?_)) (fun _=>⟨rfl,rfl,rfl⟩) fun _=>rfl)
      intro k' v';exact(O k' v').symm.trans (hpn k' v')
     |true=>
      refine ag.2 ?_;refine mF (d.get0 hb) (hs.upd d fun _ h=>h.elim) (by rw[V.1];exact hn) fun h3 s3 b3 Z hu3=>?_
      refine⟨_,rfl,s3,fh (i:=3) b3,?_⟩;have hil:i<ks.length:=by rw[V.1];exact hi
      obtain⟨a3,ha3,hab,hw3,S,H⟩:=OwnS.setAt Z hil (some ⟨b2,0,none⟩);have hlen3:=Z.len;refine⟨⟨by simp only;omega,by simp only;omega⟩,a3,ha3,?_⟩
      have hw1:Wr h3 (adr a3 (i*1)):=by
       rcases hw3 with J|⟨b',hb',J⟩
       ·cases J
       ·cases hb';exact J 0 (by simp)
      refine⟨hw1,aU ?_⟩;have b4:=H.get b3 fun e=>by have e:A.size=a3.block:=e;have:=hab.1;omega
      have hu24:Upd No A _:=hu3.trans H fun x hx=>.inr (by have hx:x=a3.block:=hx;have:=hab.1;omega)
      have hu04:=d.tr hu24;have eset:ks.set i (some ⟨b2,0,none⟩)=ks.take i++some ⟨b2,0,none⟩::ks.drop (i+1):=by rw[List.set_eq_take_append_cons_drop,if_pos hil]
      rw[←eset]at S;exact hk _ A.size w _ C true hu04 ⟨val,s3,none,_,b4,hv,S.sl (fun x hx _ J=>by have:=hW _ J;have:=d.size;have:=hx.1;omega),⟨S.cap,fun hx=>by have:=hW _ hx;have:=d.size;omega⟩,kE.2 (by rw[Fo.to_of];exact hrset hu04 ⟨b2,p,rfl,rfl,rn2.upd0 hu24⟩)⟩ (hset U hslhd hc2 (hbr _ _ hc2 hp2)) (Ai f (T hpn)) (fun h=>by cases h) hchg
end Go.Proofs
namespace Go.Proofs
open Go Go.Lift
def JT:Fo→List (List UInt8×ByteArray)
 | .nil=> []
 | .cons lab w kids rest=>((w.map fun v=>(([]:List UInt8),v)).toList++JT kids).map (fun p=>(lab++p.1,p.2))++JT rest
def Ok(w:Option ByteArray)(F:Fo):List (List UInt8×ByteArray):=(w.map fun v=>(([]:List UInt8),v)).toList++JT F
theorem Cd:∀{F:Fo} {k:List UInt8} {v:ByteArray},(k,v)∈JT F↔rq F k v
 | .nil,_,_=>by simp[JT,rq]
 | .cons lab w kids rest,k,v=>by
  unfold JT rq;rw[bS,Cd (F:=rest)];refine or_congr ?_ wa;rw[List.mem_map];constructor
  ·rintro⟨⟨r,u⟩,hm,b⟩
   simp only[tT.injEq]at b;obtain⟨rfl,rfl⟩:=b;refine⟨r,rfl,?_⟩;rcases bS.1 hm with h|h
   ·left
    rw[Option.mem_toList,Option.map_eq_some_iff]at h;obtain⟨a,c,b⟩:=h;simp only[tT.injEq]at b;exact⟨b.1.symm,by rw[c,b.2]⟩
   ·exact .inr (Cd.1 h)
  ·rintro⟨r,rfl,h⟩
   refine⟨(r,v),bS.2 ?_,rfl⟩;rcases h with⟨rfl,h⟩|h
   ·left;rw[h];simp
   ·exact .inr (Cd.2 h)
theorem oI{w:Option ByteArray}{F:Fo}{k:List UInt8}{v:ByteArray}:(k,v)∈Ok w F↔sR w F k v:=by
 unfold Ok sR;rw[bS,Cd];refine or_congr ?_ wa;cases w with
 |none=>simp
 |some u=>simp[Prod.ext_iff,eq_comm]
end Go.Proofs
namespace Go.Proofs
open Go Go.Lift
structure RadAt(W:Nat→Prop)(h:ad)(b:Nat)(l:List Pr):Prop where
 ex:∃w F,RxN W h b ⟨#[]⟩ w F∧ir F∧∀k v,(k,v)∈Ok w F↔∃p∈l,p.1.data.toList=k∧p.2=v
theorem RadAt.upd0{W:Nat→Prop}{h h':ad}{b:Nat}{l:List Pr}(k:Upd No h h')(r:RadAt W h b l):RadAt W h' b l:=by
 obtain⟨w,F,c,d,a⟩:=r.ex;exact⟨w,F,c.upd0 k,d,a⟩
theorem RadAt.less{W W':Nat→Prop}{h:ad}(hm:∀b,W' b→W b∨h.size≤b){b:Nat}{l:List Pr}(r:RadAt W h b l):RadAt W' h b l:=by
 obtain⟨w,F,c,d,a⟩:=r.ex;exact⟨w,F,c.less hm,d,a⟩
theorem RadAt.updM{W M:Nat→Prop}{h h':ad}(k:Upd M h h')(hm:∀b,M b→W b∨h.size≤b){b:Nat}{l:List Pr}(r:RadAt W h b l):RadAt W h' b l:=by
 obtain⟨w,F,c,d,a⟩:=r.ex;exact⟨w,F,c.updM k hm,d,a⟩
end Go.Proofs
namespace Go.Proofs
open Go Go.Lift
theorem ra{p q:Pr}:∀{l:List Pr},dM l→(q∈iG p l↔q=p∨(q∈l∧q.1≠p.1))
 | [],_=>by simp[iG]
 |r::l,b=>by
  have b:=List.pairwise_cons.1 b;rw[kK];by_cases c:kl r.1 p.1
  ·have d:r.1≠p.1:=fun e=>by rw[e]at c;exact dV _ c
   rw[if_pos c,au,au,ra b.2];constructor
   ·rintro(rfl|h|⟨h,h'⟩)
    ·exact .inr ⟨.inl rfl,d⟩
    ·exact .inl h
    ·exact .inr ⟨.inr h,h'⟩
   ·rintro(h|⟨h|h,h'⟩)
    ·exact .inr (.inl h)
    ·exact .inl h
    ·exact .inr (.inr ⟨h,h'⟩)
  ·rw[if_neg c]
   by_cases a:r.1=p.1
   ·rw[if_pos a,au,au]
    constructor
    ·rintro(h|h)
     ·exact .inl h
     ·refine .inr ⟨.inr h,fun e=>?_⟩
      have:=b.1 q h;rw[e,a]at this;exact dV _ this
    ·rintro(h|⟨rfl|h,h'⟩)
     ·exact .inl h
     ·exact absurd a h'
     ·exact .inr h
   ·rw[if_neg a,au,au]
    have f:=C0 c a;constructor
    ·rintro(h|rfl|h)
     ·exact .inl h
     ·exact .inr ⟨.inl rfl,a⟩
     ·refine .inr ⟨.inr h,fun e=>?_⟩
      have:=oJ f (b.1 q h);rw[e]at this;exact dV _ this
    ·rintro(h|⟨rfl|h,h'⟩)
     ·exact .inl h
     ·exact .inr (.inl rfl)
     ·exact .inr (.inr h)
def RadRoot(W:Nat→Prop)(h:ad)(r:Option Addr)(l:List Pr):Prop:=(r=none∧l= [])∨∃b,r=some ⟨b,0,none⟩∧RadAt W h b l
theorem RadRoot.upd0{W:Nat→Prop}{h h':ad}{r:Option Addr}{l:List Pr}(k:Upd No h h')(t:RadRoot W h r l):RadRoot W h' r l:=t.imp id fun⟨b,e,t⟩=>⟨b,e,t.upd0 k⟩
theorem qE{a b:ByteArray}:a.data.toList=b.data.toList↔a=b:=by
 constructor
 ·intro h;cases a;cases b;exact congrArg tX (lf.1 h)
 ·rintro rfl;rfl
theorem CL{W:Nat→Prop}{h:ad}(a:∀y,W y→y<h.size){K:Option Addr→ad→Prop}(c:∀h' b,RadAt W h' b []→Upd No h h'→K (some ⟨b,0,none⟩) h'):HC PG ox [] [.c .ptr] K h:=by
 refine Ew ?_;unfold wR He;refine aU (c _ h.size ⟨none,.nil,⟨⟨#[]⟩,⟨none,0,0⟩,none,[],bh h QT bC,rfl,Sl.nil mH,⟨az _,fun hx=>jJ _ (a _ hx)⟩,rfl⟩,trivial,fun k v=>?_⟩ (Upd.hnew No h _ _))
 simp[Ok,JT]
theorem Ac{W:Nat→Prop}{h:ad}{r:Option Addr}{l:List Pr}(t:RadRoot W h r l)(c:∀y,W y→y<h.size){K:Option Addr→ad→Prop}(a:∀h' b,RadAt W h' b l→Upd No h h'→(r=some ⟨b,0,none⟩∨r=none)→K (some ⟨b,0,none⟩) h'):HC PG mV [.pointer r] [.c .ptr] K h:=by
 refine GV r ?_;unfold zw;rcases t with⟨rfl,rfl⟩|⟨b,rfl,t⟩
 ·exact ay.2 (CL c fun h' b t d=>a h' b t d (.inr rfl))
 ·exact ag.2 (a h b t (Upd.refl _ _) (.inl rfl))
theorem HG{W:Nat→Prop}{h:ad}{r:Option Addr}{l:List Pr}(t:RadRoot W h r l)(C:∀y,W y→y<h.size)(n:dM l)(p:Pr)(I:p.1.size≤1000000){K:Option Addr×Bool→ad→Prop}
  (L:∀h' b' a,Upd No h h'→RadAt W h' b' (iG p l)→(p∈l→r=some ⟨b',0,none⟩∨r=none)→K (some ⟨b',0,none⟩,a) h'):
  HC PG u0 [.pointer none,.pointer r,.agg #[.string p.1,.string p.2]] [.c .ptr,.c .bool] K h:=by
 refine IM none r p ?_;unfold Bs av ny NF;have k1:=Upd.hnew No h [.string p.1,.string p.2] ak;have b1:=bh h [.string p.1,.string p.2] ak;refine aU ?_;simp only[cG h];generalize hnew h [.string p.1,.string p.2] ak=h1 at k1 b1;have g:∀{h':ad},Upd No h1 h'→∀i,aE h' (adr ⟨h.size,0,none⟩ i)=(#[.string p.1,.string p.2]:Array Value)[i]?:=fun k i=>by rw[bJ,aI (k.get0 b1),aD]
 have A:=Upd.refl No h1;refine⟨p.1,g A 0,p.2,g A 1,Ac (t.upd0 k1) (fun y j=>aC (C y j) k1.size) fun P b J c E=>⟨g c 1,g c 0,?_⟩⟩
 obtain⟨w,F,G,N,B⟩:=J.ex;refine Oc (p.1.size+1) p.1 p.2 (by omega) I G (fun y j=>aC (C y j) (k1.tr c).size) N fun D b3 w' H a O x m o z u s=>?_
 refine L D b3 a ((k1.tr c).tr x) ⟨w',H,m,o,fun k v=>?_⟩ fun hm=>?_
 ·rw[oI,z k v,←oI,B k v]
  constructor
  ·rintro(⟨rfl,rfl⟩|⟨d,q,f,rfl,rfl⟩)
   ·exact⟨p,(ra n).2 (.inl rfl),rfl,rfl⟩
   ·exact⟨q,(ra n).2 (.inr ⟨f,fun e=>d (by rw[e])⟩),rfl,rfl⟩
  ·rintro⟨q,f,rfl,rfl⟩
   rcases(ra n).1 f with rfl|⟨f,d⟩
   ·exact .inl ⟨rfl,rfl⟩
   ·exact .inr ⟨fun e=>d (qE.1 e),q,f,rfl,rfl⟩
 ·have:=s (oI.1 ((B _ _).2 ⟨p,hm,rfl,rfl⟩))
  rw[(u this).1];exact E
end Go.Proofs
namespace Go.Proofs
open Go Go.Lift
theorem cf{h:ad}{cs:List Value}{t:TypeId}{k:ad→Prop}(a:∀h',h'[h.size]? =some (.cells cs.toArray t (0,0))→Upd No h h'→k h'):At (hnew h cs t) k:=
 aU (a _ (bh h cs t) (Upd.hnew No h cs t))
theorem vc{h:ad}{b:Nat}{c:Array Value}{t:TypeId}(a:h[b]? =some (.cells c t (0,0))) (i:Nat):aE h (adr ⟨b,0,none⟩ i)=c[i]?:=by rw[bJ,aD];exact aI a
theorem zX{h:ad}{b:Nat}{c:Array Value}{t:TypeId}(a:h[b]? =some (.cells c t (0,0))) (i j:Nat):aE h (adr (adr ⟨b,0,none⟩ i) j)=c[i+j]?:=by rw[bJ,bJ,aD];exact aI a
theorem tq{h:ad}{b i:Nat}{c c':Array Value}{t:TypeId}{v:Value}{k:ad→Prop}(d:h[b]? =some (.cells c t (0,0))) (hi:i<c.size) (e:c.setIfInBounds i v=c') (f:∀h',h'[b]? =some (.cells c' t (0,0))→Upd (· =b) h h'→k h'):Wr h (adr ⟨b,0,none⟩ i)∧At (hset h (adr ⟨b,0,none⟩ i) v) k:=by
 rw[bJ,aD];exact⟨gI d hi,tO d fun h' a g=>f h' (e▸a) g⟩
theorem _root_.Go.Lift.Upd.own{h a c:ad}{b:Nat}(k:Upd No h a)(d:Upd (· =b) a c)(e:h.size≤b):Upd No h c:=k.trans d fun x hx=>.inr (by have hx:x=b:=hx;omega)
theorem _root_.Go.Lift.Upd.oth{h h':ad}{b c:Nat}{o:Obj}(d:Upd (· =b) h h')(hc:h[c]? =some o) (a:c≠b):h'[c]? =some o:=d.get hc a
abbrev Tr:=Int×Int×Int×Int×(Option Addr)×(Option Addr)
abbrev nu(t:Tr):List Value:= [.int .i64 t.1,.int .u64 t.2.1,.int .u64 t.2.2.1,.int .u64 t.2.2.2.1,.pointer t.2.2.2.2.1,.pointer t.2.2.2.2.2]
abbrev L4(t:Tr):Value:=.agg #[.int .i64 t.1,.int .u64 t.2.1,.int .u64 t.2.2.1,.int .u64 t.2.2.2.1,.pointer t.2.2.2.2.1,.pointer t.2.2.2.2.2]
def Pro(W:Nat→Prop)(h a:ad)(y:Nat):Prop:=W y∨(h.size≤y∧y<a.size)
theorem Pro.lt{W:Nat→Prop}{h a:ad}(b:∀y,W y→y<h.size)(k:Upd No h a):∀y,Pro W h a y→y<a.size:=fun y c=>c.elim (fun h=>aC (b y h) k.size) fun h=>h.2
theorem Pro.hm{W:Nat→Prop}{h b:ad}:∀y,Pro W h b y→W y∨h.size≤y:=fun _ a=>a.imp id fun h=>h.1
theorem Pro.sub{W:Nat→Prop}{h c b:ad}:∀y,W y→Pro W h c y∨b.size≤y:=fun _ a=>.inl (.inl a)
theorem RootAt.less{W W':Nat→Prop}{x:Hs}{h:ad}(hm:∀b,W' b→W b∨h.size≤b){r:Option Addr}{l:List Pr}(t:RootAt W x h r l):RootAt W' x h r l:=t.imp id fun⟨b,e,t⟩=>⟨b,e,TrieAt.less hm t⟩
theorem RadRoot.less{W W':Nat→Prop}{h:ad}(hm:∀b,W' b→W b∨h.size≤b){r:Option Addr}{l:List Pr}(t:RadRoot W h r l):RadRoot W' h r l:=t.imp id fun⟨b,e,t⟩=>⟨b,e,t.less hm⟩
def TreeIs(W:Nat→Prop)(h:ad)(kind:Int)(x:Hs)(t:Tr)(l:List Pr):Prop:=(kind=0∧∃b,t=(0,x.k0,x.k1,x.mask,some ⟨b,0,none⟩,none)∧TrieAt W x h 13 b l)∨(kind=1∧∃b,t=(1,0,0,0,none,some ⟨b,0,none⟩)∧RadAt W h b l)
theorem TreeIs.upd0{W:Nat→Prop}{h h':ad}{kind:Int}{x:Hs}{t:Tr}{l:List Pr}(k:Upd No h h')(i:TreeIs W h kind x t l):TreeIs W h' kind x t l:=
 i.imp (fun⟨e,b,e2,t⟩=>⟨e,b,e2,TrieAt.upd0 k t⟩) fun⟨e,b,e2,t⟩=>⟨e,b,e2,t.upd0 k⟩
theorem TreeIs.less{W W':Nat→Prop}{h:ad}(hm:∀b,W' b→W b∨h.size≤b){kind:Int}{x:Hs}{t:Tr}{l:List Pr}(i:TreeIs W h kind x t l):TreeIs W' h kind x t l:=
 i.imp (fun⟨e,b,e2,t⟩=>⟨e,b,e2,TrieAt.less hm t⟩) fun⟨e,b,e2,t⟩=>⟨e,b,e2,t.less hm⟩
theorem TreeIs.updM{W M:Nat→Prop}{h h':ad}(k:Upd M h h')(hm:∀b,M b→W b∨h.size≤b){kind:Int}{x:Hs}{t:Tr}{l:List Pr}(i:TreeIs W h kind x t l):TreeIs W h' kind x t l:=
 i.imp (fun⟨e,b,e2,t⟩=>⟨e,b,e2,TrieAt.updM k hm t⟩) fun⟨e,b,e2,t⟩=>⟨e,b,e2,t.updM k hm⟩
theorem TreeIs.pro{W:Nat→Prop}{h a:ad}(k:Upd No h a){kind:Int}{x:Hs}{t:Tr}{l:List Pr}(i:TreeIs W h kind x t l):TreeIs (Pro W h a) a kind x t l:=(i.less Pro.hm).upd0 k
theorem Eo{W:Nat→Prop}{x:Hs}{h:ad}(a:∀y,W y→y<h.size){K:Option Addr→ad→Prop}(c:∀h' b,TrieAt W x h' 13 b []→Upd No h h'→K (some ⟨b,0,none⟩) h'):HC PG oy [] [.c .ptr] K h:=by
 refine wK ?_;unfold sA;exact pU a fun h' b nd d=>c h' b (Hl nd) d
abbrev zQ:Tr:=(0,0,0,0,none,none)
theorem Hq{W:Nat→Prop}{x:Hs}{h:ad}{r:Option Addr}{l:List Pr}(t:RootAt W x h r l)(u:∀y,W y→y<h.size){K:Tr→ad→Prop}(p:∀h' t,TreeIs W h' 0 x t l→Upd No h h'→K t h'):HC PG qt [.agg #[.int .u64 x.k0,.int .u64 x.k1,.int .u64 x.mask],.pointer r] [.agg [.int .i64,.int .u64,.int .u64,.int .u64,.ptr,.ptr]] K h:=by
 refine DK (x.k0,x.k1,x.mask) r ?_;unfold vH ao eH ae wc ah nI uv;refine cf fun m b1 k1=>cf fun o b2 j=>?_
 have w:=bp b1;have v:=bp b2;have d:=k1.tr j;refine Join.intro (fun t h'=>Upd No o h'∧∃b,t=some ⟨b,0,none⟩∧TrieAt (Pro W h o) x h' 13 b l) (fun R n=>?_) ?_
 ·rcases t with⟨rfl,rfl⟩|⟨b,rfl,t⟩
  ·exact ay.2 (Eo (Pro.lt u d) fun q b t a=>n _ _ ⟨a,b,rfl,t⟩)
  ·exact ag.2 (n _ _ ⟨Upd.refl _ _,b,rfl,TrieAt.upd0 d (TrieAt.less Pro.hm t)⟩)
 ·rintro i q ⟨a,b,rfl,i⟩
  have c1:=a.get0 (j.get0 b1);refine⟨_,vc c1 0,_,vc c1 1,_,vc c1 2,?_⟩;refine eN (c:=nu zQ) (vs:=nu (0,x.k0,x.k1,x.mask,some ⟨b,0,none⟩,none)) (a.get0 b2) rfl fun s e f=>?_
  refine⟨_,vc e 0,_,vc e 1,_,vc e 2,_,vc e 3,_,vc e 4,_,vc e 5,?_⟩;have g:h.size≤m.size:=k1.size;exact p s _ (.inl ⟨rfl,b,rfl,TrieAt.less Pro.sub (TrieAt.updM f (fun y k=>.inl (.inr (by have k:y=m.size:=k;omega))) i)⟩) ((d.tr a).own f g)
theorem Hp{W:Nat→Prop}{x:Hs}{h:ad}{r:Option Addr}{l:List Pr}(t:RadRoot W h r l)(o:∀y,W y→y<h.size){K:Tr→ad→Prop}(m:∀h' t,TreeIs W h' 1 x t l→Upd No h h'→K t h'):HC PG qs [.pointer r] [.agg [.int .i64,.int .u64,.int .u64,.int .u64,.ptr,.ptr]] K h:=by
 refine DJ r ?_;unfold vG ao eH ae ah nI uv;refine cf fun k b2 d=>?_
 have q:=bp b2;refine Join.intro (fun t h'=>Upd No k h'∧∃b,t=some ⟨b,0,none⟩∧RadAt (Pro W h k) h' b l) (fun R j=>?_) ?_
 ·rcases t with⟨rfl,rfl⟩|⟨b,rfl,t⟩
  ·exact ay.2 (CL (Pro.lt o d) fun n b t a=>j _ _ ⟨a,b,rfl,t⟩)
  ·exact ag.2 (j _ _ ⟨Upd.refl _ _,b,rfl,(t.less Pro.hm).upd0 d⟩)
 ·rintro g n ⟨a,b,rfl,g⟩
  refine eN (c:=nu zQ) (vs:=nu (1,0,0,0,none,some ⟨b,0,none⟩)) (a.get0 b2) rfl fun p e f=>?_
  refine⟨_,vc e 0,_,vc e 1,_,vc e 2,_,vc e 3,_,vc e 4,_,vc e 5,?_⟩;exact m p _ (.inr ⟨rfl,b,rfl,(g.updM f (fun y i=>.inl (.inr (by have i:y=h.size:=i;omega)))).less Pro.sub⟩) ((d.tr a).own f (az _))
theorem PZ{W:Nat→Prop}{x:Hs}{h:ad}(p:∀y,W y→y<h.size){kind:Int}(k:kind=0∨kind=1){K:Tr×Int→ad→Prop}(n:∀h' t,TreeIs W h' kind x t []→Upd No h h'→K (t,0) h'):HC PG xo [.int .i64 kind,.agg #[.int .u64 x.k0,.int .u64 x.k1,.int .u64 x.mask]] [.agg [.int .i64,.int .u64,.int .u64,.int .u64,.ptr,.ptr],.c (.int .i64)] K h:=by
 refine KW kind (x.k0,x.k1,x.mask) ?_;unfold DP ao eH pj ae wc ah nI kH;refine cf fun m b1 k1=>cf fun q b2 o=>?_
 have v:=bp b1;have u:=bp b2;have e:=k1.tr o;have g:h.size≤m.size:=k1.size;have c1:=o.get0 b1;rcases k with rfl|rfl
 ·refine ay.2 ⟨_,vc c1 0,_,vc c1 1,_,vc c1 2,?_⟩
  refine Hq (W:=Pro W h q) (x:=x) (l:= []) (.inl ⟨rfl,rfl⟩) (Pro.lt p e) fun s t j d=>?_
  refine eN (c:=nu zQ) (vs:=nu t) (d.get0 b2) rfl fun i a b=>?_
  refine⟨_,vc a 0,_,vc a 1,_,vc a 2,_,vc a 3,_,vc a 4,_,vc a 5,?_⟩;exact n i t ((j.updM b (fun y f=>.inl (.inr (by have f:y=m.size:=f;omega)))).less Pro.sub) ((e.tr d).own b g)
 ·refine ag.2 (ay.2 ?_)
  refine Hp (W:=Pro W h q) (x:=x) (l:= []) (.inl ⟨rfl,rfl⟩) (Pro.lt p e) fun s t j d=>?_
  refine eN (c:=nu zQ) (vs:=nu t) (d.get0 b2) rfl fun i a b=>?_
  refine⟨_,vc a 0,_,vc a 1,_,vc a 2,_,vc a 3,_,vc a 4,_,vc a 5,?_⟩;exact n i t ((j.updM b (fun y f=>.inl (.inr (by have f:y=m.size:=f;omega)))).less Pro.sub) ((e.tr d).own b g)
theorem E1{k v:ByteArray}(b:k.size≤256)(c:v.size≤4096){h:ad}{K:Int→ad→Prop}(a:K 0 h):HC PG pZ [.string k,.string v] [.c (.int .i64)] K h:=by
 refine GZ k v ?_;unfold zB;refine aG (fun h=>absurd h (by omega)) fun _=>aG (fun h=>absurd h (by omega)) fun _=>a
theorem Ho{W:Nat→Prop}{x:Hs}{h:ad}{kind:Int}{t:Tr}{l:List Pr}(i:TreeIs W h kind x t l)(O:∀y,W y→y<h.size)(H:dM l)(N:l.length≤1000000)(p:Pr)(E:p.1.size≤256)(z:p.2.size≤4096){K:Tr×Int→ad→Prop}
  (G:∀h' t',TreeIs W h' kind x t' (iG p l)→(p∈l→t'=t)→Upd No h h'→K (t',0) h'):HC PG kM [L4 t,.pointer none,.agg #[.string p.1,.string p.2]] [.agg [.int .i64,.int .u64,.int .u64,.int .u64,.ptr,.ptr],.c (.int .i64)] K h:=by
 refine AG t none p ?_;unfold sV ao av eH eI cg pj ae ah nI kH fZ uv kD ny;refine cf fun I b1 k1=>cf fun F b2 D=>cf fun Q b3 v=>?_
 have U:=bp b1;have T:=bp b2;have R:=bp b3;have S:h.size≤I.size:=k1.size;have X:I.size≤F.size:=D.size;have V:=v.size;have n:=(k1.tr D).tr v;have o:=v.get0 (D.get0 b1);have s:=v.get0 b2;have J:=i.pro n;have u:=Pro.lt O n;refine⟨_,vc s 0,_,vc s 1,E1 E z (ag.2 ?_)⟩;rcases J with⟨rfl,b,rfl,A⟩|⟨rfl,b,rfl,A⟩
 ·refine⟨_,vc o 0,ag.2 ⟨_,zX o 1 0,_,zX o 1 1,_,zX o 1 2,_,vc o 4,p.1,vc s 0,p.2,vc s 1,?_⟩⟩
  refine IA (.inr ⟨b,rfl,A⟩) u H N p fun P q f C d=>?_
  refine tq (i:=4) (c':=(nu (0,x.k0,x.k1,x.mask,some ⟨q,0,none⟩,none)).toArray) (f.get0 o) (show 4<6 by decide) rfl fun L j a=>?_
  refine⟨_,vc j 0,_,vc j 1,_,vc j 2,_,vc j 3,_,vc j 4,_,vc j 5,?_⟩;refine eN (c:=nu zQ) (vs:=nu (0,x.k0,x.k1,x.mask,some ⟨q,0,none⟩,none)) (a.oth (f.get0 b3) (by omega)) rfl fun w g k=>?_
  refine⟨_,vc g 0,_,vc g 1,_,vc g 2,_,vc g 3,_,vc g 4,_,vc g 5,?_⟩;refine G w _ (.inl ⟨rfl,q,rfl,TrieAt.less Pro.sub (TrieAt.updM k (fun y m=>.inl (.inr (by have m:y=F.size:=m;omega))) (TrieAt.updM a (fun y m=>.inl (.inr (by have m:y=h.size:=m;omega))) C))⟩) (fun hm=>?_) (((n.tr f).own a (az _)).own k (by omega))
  rcases d hm with e|e
  ·rw[e]
  ·cases e
 ·refine⟨_,vc o 0,ay.2 ⟨_,vc o 5,p.1,vc s 0,p.2,vc s 1,?_⟩⟩
  refine HG (.inr ⟨b,rfl,A⟩) u H p (by omega) fun P q B f C d=>?_
  refine tq (i:=5) (c':=(nu (1,0,0,0,none,some ⟨q,0,none⟩)).toArray) (f.get0 o) (show 5<6 by decide) rfl fun L j a=>?_
  refine⟨_,vc j 0,_,vc j 1,_,vc j 2,_,vc j 3,_,vc j 4,_,vc j 5,?_⟩;refine eN (c:=nu zQ) (vs:=nu (1,0,0,0,none,some ⟨q,0,none⟩)) (a.oth (f.get0 b3) (by omega)) rfl fun w g k=>?_
  refine⟨_,vc g 0,_,vc g 1,_,vc g 2,_,vc g 3,_,vc g 4,_,vc g 5,?_⟩;refine G w _ (.inr ⟨rfl,q,rfl,((C.updM a (fun y m=>.inl (.inr (by have m:y=h.size:=m;omega)))).updM k (fun y m=>.inl (.inr (by have m:y=F.size:=m;omega)))).less Pro.sub⟩) (fun hm=>?_) (((n.tr f).own a (az _)).own k (by omega))
  rcases d hm with e|e
  ·rw[e]
  ·cases e
end Go.Proofs
namespace Go.Proofs
open Go Go.Lift Go.RowKit
theorem HC.shelf{f:FuncId}{args:List Value}{ks:List Kind}{K:rp ks→ad→Prop}{h:ad}(hc:∀(args:Array Value) (w:World),(callFunc f args).run PG w=.ok (.enter f args) w)
 (g:∀w:World,w.heap=h→Calls PG f args.toArray w fun e w'=>Tame w w'∧∃t:rp ks,e=.returned (yh ks (ki ks t))∧K t w'.heap):HC PG f args ks K h:=⟨fun w a=>.inl ⟨hc _ w,g w a⟩⟩
theorem HC.same{f:FuncId}{args:List Value}{ks:List Kind}{K:rp ks→ad→Prop}{h:ad}{v:Value}(hc:∀(args:Array Value) (w:World),(callFunc f args).run PG w=.ok (.enter f args) w)(t:rp ks)(i:v=yh ks (ki ks t))
  (g:∀w:World,Calls PG f args.toArray w fun e w'=>e=.returned v∧w'=w)(b:K t h):HC PG f args ks K h:=
 HC.shelf hc fun w d=>(g w).mono fun e w' ⟨c,a⟩=>by subst a;exact⟨⟨rfl,rfl,rfl⟩,t,by rw[c,i],by rw[d];exact b⟩
theorem yw{s:ByteArray}{c:UInt8}{h:ad}{K:Int→ad→Prop}(a:K (Lib.indexByte s.data.toList c) h):HC PG nP [.string s,.int .u8 (c.toNat:Int)] [.c (.int .i64)] K h:=
 HC.same (v:=.int .i64 (Lib.indexByte s.data.toList c)) Tryz.call37 (Lib.indexByte s.data.toList c) rfl (fun w=>by
  have:=Any.strings_IndexByte Ek s (c.toNat:Int) w
  rw[show((c.toNat:Int).toNat.toUInt8)=c from by rw[aB];exact UInt8.ofNat_toNat]at this
  exact this) a
theorem Ff{s:ByteArray}{c:UInt8}{h:ad}{K:Int→ad→Prop}(a:K (Lib.indexByte s.data.toList c) h):HC PG tG [.string s,.string ⟨#[c]⟩] [.c (.int .i64)] K h:=
 HC.same (v:=.int .i64 (Lib.indexByte s.data.toList c)) Tryz.call114 (Lib.indexByte s.data.toList c) rfl (fun w=>Any.strings_Index_one Ei s c w) a
theorem MX{s:ByteArray}{c:UInt8}{h:ad}{K:Int→ad→Prop}(a:K ((s.data.toList.count c:Nat):Int) h):HC PG yE [.string s,.string ⟨#[c]⟩] [.c (.int .i64)] K h:=
 HC.same (v:=.int .i64 ((s.data.toList.count c:Nat):Int)) Tryz.call113 ((s.data.toList.count c:Nat):Int) rfl (fun w=>Any.strings_Count_one Ej s c w) a
theorem x72:Builder.X72 PG F3:=⟨by kernel_rfl,by kernel_rfl⟩
theorem GH{h:ad}{b:Nat}{p:Option Addr}{v:Value}(d:h[b]? =some (.cells #[.pointer p,v] fW (0,0))) (j:p=none∨p=some ⟨b,0,none⟩) {K:Unit→ad→Prop}
  (i:∀h',h'[b]? =some (.cells #[.pointer (some ⟨b,0,none⟩),v] fW (0,0))→Upd (· =b) h h'→K () h'):HC PG lD [.pointer (some ⟨b,0,none⟩)] [] K h:=by
 rcases j with rfl|rfl
 ·refine HC.shelf Tryz.call74 fun w g=>?_
  subst g;refine(Any.Builder_copyCheck_fresh wF x72 b w (by simp[World.cell?,d]) (by simp[World.shape?,d];rfl) (by simp[World.frozen?,d])).mono fun e w' ⟨f,c⟩=>?_
  subst c;refine⟨⟨rfl,rfl,rfl⟩,(),f,i _ ?_ (Upd.hset (M:=(· =b)) w.heap (a:=⟨b,0,none⟩) (.pointer (some ⟨b,0,none⟩)) rfl)⟩
  simp[World.setCell,gX,d]
 ·refine HC.shelf Tryz.call74 fun w g=>?_
  subst g;refine(Any.Builder_copyCheck_used wF x72 b w (by simp[World.cell?,d])).mono fun e w' ⟨f,c⟩=>?_
  subst c;exact⟨⟨rfl,rfl,rfl⟩,(),f,i _ d (Upd.refl _ _)⟩
structure Bld(M:Nat→Prop)(h:ad)(b:Nat)(bs:List UInt8):Prop where
 ex:∃(p:Option Addr) (s:SliceV),h[b]? =some (.cells #[.pointer p,.slice s.a s.len s.cap] fW (0,0))∧(p=none∨p=some ⟨b,0,none⟩)∧OwnS FB 1 jm M h s bs∧(s.a=none∨s.cap≠0)
 nb:¬M b
section
variable {M:Nat→Prop} {h:ad} {b:Nat} {bs:List UInt8}
theorem xV(d:Bld M h b bs)(hM:∀y,h.size≤y→M y){c:UInt8}(u:bs.length+1≤140737488355328){K:Value→ad→Prop}(n:∀h',Bld M h' b (bs++ [c])→Upd (fun y=>y=b∨M y) h h'→K .nilIface h'):
  HC PG fT [.pointer (some ⟨b,0,none⟩),.int .u8 (c.toNat:Int)] [.c .raw] K h:=by
 obtain⟨p,s,t,v,w,x⟩:=d.ex;refine ss (some ⟨b,0,none⟩) (c.toNat:Int) ?_;unfold lK bL cg;refine GH t v fun z f i=>⟨_,rfl,s,vc f 1,aU ?_⟩
 have g:=w.upd i fun y a e=>d.nb (by have e:y=b:=e;rwa [←e])
 refine DC rfl g (fun y a=>hM y (bR i.size a)) u fun s' A o k=>⟨_,rfl,tq (k.get f d.nb) (by simp) rfl fun q j m=>n q ⟨⟨_,s',j,.inr rfl,o.upd m fun y a e=>d.nb (by have e:y=b:=e;rwa [←e]),.inr ?_⟩,d.nb⟩ ?_⟩
 ·have:=o.cap
  have:=o.len;simp only[ai,bZ]at this;omega
 ·exact((i.mono fun y a=>.inl (.inl a)).tr (k.mono fun y a=>.inl (.inr a))).tr (m.mono fun y a=>.inl (.inl a))
theorem Upd.hfreeze{h:ad}{g n:Nat}(b:M g):Upd M h (hfreeze h g n):=⟨by simp[Go.Lift.hfreeze],fun c _ d=>by
 unfold Go.Lift.hfreeze
 have a:g≠c:=fun e=>d (by rw[←e];exact b)
 rw[gX,if_neg a]⟩
theorem yC:∀l:List UInt8,l.flatMap FB=l.map fun b=>Value.int .u8 (b.toNat:Int)
 | []=>rfl
 |a::l=>by rw[List.flatMap_cons,List.map_cons,yC l];rfl
theorem Pj{l:List UInt8}{j:Nat}{x:UInt8}{r:List Value}(h:l[j]? =some x):(l.flatMap FB++r).toArray[j]? =some (.int .u8 (x.toNat:Int)):=by
 rw[dB,yC,List.getElem?_append_left (by simpa using(List.getElem?_eq_some_iff.1 h).1),List.getElem?_map,h];rfl
theorem GM(d:Bld M h b bs)(z:bs.length≤140737488355328){K:ByteArray→ad→Prop}(i:∀h',Upd M h h'→K (bN bs) h'):
  HC PG jO [.pointer (some ⟨b,0,none⟩)] [.c .str] K h:=by
 obtain⟨p,s,a,A,e,o⟩:=d.ex;have m:=e.len;refine uC (some ⟨b,0,none⟩) ?_;unfold nF bL;refine⟨_,rfl,s,vc a 1,o,_,rfl,s,vc a 1,?_⟩;by_cases c:bs= []
 ·subst c
  exact .inl ⟨by rw[m];rfl,vc a 1,vc a 1,i h (Upd.refl _ _)⟩
 ·rcases e.blk with w|⟨g,k,q,t,hc,y⟩
  ·have:=e.cap
   exact absurd (aY.1 (by omega)) c
  ·have u:=Upd.hfreeze (h:=h) (n:=bs.length) t
   refine .inr ⟨bs,g,_,q,by rw[m],c,by omega,hc,?_,fun j x v=>Pj v,vc (u.get a d.nb) 1,vc (u.get a d.nb) 1,i _ u⟩
   rw[cp,ai];have:(bs.flatMap FB).length=bs.length*1:=ke (f:=FB) (fun x=>rfl) bs
   omega
end
end Go.Proofs
namespace Go.Proofs
open Go Go.Lift
theorem M2{h a:ad}{cs:Array Value}{t:TypeId}{c:Nat×Nat}(b:a[h.size]? =some (.cells cs t c)) (i:Nat):aE a (adr (aR h) i)=cs[i]?:=by
 unfold aR;rw[bJ,aD];simp[aE,b]
theorem nib(v:UInt8):fa (v.toNat:Int) (2^(min (4:Int).toNat (af .u8)))=((v.toNat/16:Nat):Int)∧ac .u8 (aj (af .u8) (v.toNat:Int)&&&aj (af .u8) 15).toNat=((v.toNat%16:Nat):Int):=by
 have key:∀n:Fin 256,fa (n.val:Int) (2^(min (4:Int).toNat (af .u8)))=((n.val/16:Nat):Int)∧ac .u8 (aj (af .u8) (n.val:Int)&&&aj (af .u8) 15).toNat=((n.val%16:Nat):Int):=by decide+kernel
 exact key ⟨v.toNat,v.toNat_lt⟩
theorem Ks{x:ByteArray}(hx:x.size≤1000000){h:ad}{K:ByteArray→ad→Prop}(n:∀h',Upd No h h'→K (bN (xm x.data.toList)) h'):HC PG nU [.string x] [.c .str] K h:=by
 refine K3 x ?_;unfold DW bA dU zl7 Jn;have C:=rY x;rw[Gm];refine aG (fun e=>?_) fun e=>?_
 ·have:=n h (Upd.refl _ _)
  rw[e]at this;exact this
 rw[xm,if_neg e]at n;have k1:=Upd.hnew No h [.pointer none,.slice none 0 0] fW;have b1:=bh h [.pointer none,.slice none 0 0] fW;have F:=fe h [.pointer none,.slice none 0 0] fW;refine aU ?_;generalize hnew h [.pointer none,.slice none 0 0] fW=h1 at k1 b1 F;refine fun c hc=>?_
 have m:=Upd.push No h1 (.cells (cj x++bw (c-x.size) (Value.int .u8 0)).toArray jm (c,c+1));have b3:=mL h1 (.cells (cj x++bw (c-x.size) (Value.int .u8 0)).toArray jm (c,c+1));have w:(h1.push (.cells (cj x++bw (c-x.size) (Value.int .u8 0)).toArray jm (c,c+1))).size=h1.size+1:=by simp
 generalize h1.push (.cells (cj x++bw (c-x.size) (Value.int .u8 0)).toArray jm (c,c+1))=h3 at m b3 w;refine LoopP.ghost (fun(i:Nat) (t:Int) g=>t=(i:Int)∧i≤x.size∧Bld (fun y=>h3.size≤y) g h.size (yy (x.data.toList.take i))∧Upd (· =h.size) h3 g) (fun i=>x.size-i) 0 ⟨rfl,cu _,⟨⟨none,⟨none,0,0⟩,m.get0 b1,.inl rfl,OwnS.nil AA,.inl rfl⟩,by omega⟩,Upd.refl _ _⟩ ?_
 rintro I i t g ⟨rfl,hi,j,u⟩ D;refine aG (fun a=>?_) fun k=>?_
 ·have a:i<x.size:=by have:(i:Int)<(x.size:Int):=a;omega
  obtain⟨v,Q,B,E⟩:=M9 a;obtain⟨s,q⟩:=nib v;have O:=v.toNat_lt;have L:=u.size;refine⟨⟨by omega,by omega⟩,_,rfl,(v.toNat:Int),?_,by decide,uy (v.toNat/16),by rw[s];omega,by rw[s,aB];exact FV (by omega),?_⟩
  ·rw[aB,Nat.mul_one,M2 (u.get b3 (by omega)),mr]
   exact Pj B
  have f:=uS (x.data.toList.take i);have z:(x.data.toList.take i).length=i:=by rw[aP];omega
  refine xV j (fun y b=>by omega) (by omega) fun P o p=>LR ⟨uy (v.toNat%16),by rw[q];omega,by rw[q,aB];exact FV (by omega),?_⟩
  have N:=p.size;refine xV o (fun y b=>by omega) (by simp only[ai,bZ];omega) fun J d G=>?_
  rw[eu a (by omega)];refine D (i+1) _ _ ⟨rfl,a,?_,?_⟩ (by omega)
  ·rw[E,Ib]
   rw[aF]at d;exact d
  ·exact(u.trans p fun y b=>by omega).trans G fun y b=>by omega
 ·have hi:i=x.size:=by have:¬(i:Int)<(x.size:Int):=k;omega
  rw[hi,←C,bW]at j;have f:=uS x.data.toList;refine GM j (by omega) fun H A=>n H ?_
  exact((k1.tr m).trans u fun y b=>by omega).trans A fun y b=>by omega
theorem Oa(c:UInt8):Lib.indexByte sgn16.data.toList c=if qY c<16 then(qY c:Int)else-1:=by
 have key:∀n:Fin 256,Lib.indexByte sgn16.data.toList (bP n.val)=if qY (bP n.val)<16 then(qY (bP n.val):Int)else-1:=by decide+kernel
 have:=key ⟨c.toNat,c.toNat_lt⟩;rwa [UInt8.ofNat_toNat]at this
theorem TG{a b:Nat}(d:a<16)(c:b<16):ac .u8 (ac .i64 (aj (af .i64) (ac .i64 ((a:Int)*2^(min (4:Int).toNat (af .i64))))|||aj (af .i64) (b:Int)).toNat)=((bP (16*a+b)).toNat:Int):=by
 have key:∀a b:Fin 16,ac .u8 (ac .i64 (aj (af .i64) (ac .i64 ((a.val:Int)*2^(min (4:Int).toNat (af .i64))))|||aj (af .i64) (b.val:Int)).toNat)=((bP (16*a.val+b.val)).toNat:Int):=by decide+kernel
 exact key ⟨a,d⟩ ⟨b,c⟩
theorem Cv{x:ByteArray}(hx:x.size≤1000000){h:ad}{K:ByteArray×Bool→ad→Prop}(f:∀h',Upd No h h'→K (Gi (jL x.data.toList)) h'):HC PG kP [.string x] [.c .str,.c .bool] K h:=by
 refine G3 x ?_;unfold zF Tc;have H:=rY x;rw[E5,Gm];refine aG (fun e=>?_) fun e=>?_
 ·have:=f h (Upd.refl _ _)
  rw[jL,if_pos e]at this;exact this
 rw[jL,if_neg e]at f;refine Join.plain (aG (fun s=>ay.2 ?_) fun s=>⟨by decide,CondP.intro (fun e1=>?_) fun e1=>?_⟩)
 ·have:=f h (Upd.refl _ _)
  rw[if_pos s]at this;exact this
 ·have e1:gr (x.size:Int) 2=1:=by simpa using e1
  rw[dQ (by omega)]at e1;have:=f h (Upd.refl _ _);rw[if_neg s,wZ _ (by omega)]at this;exact this
 ·have e1:gr (x.size:Int) 2≠1:=by simpa using e1
  rw[dQ (by omega)]at e1;rw[if_neg s]at f;have L:ac .i64 (th (x.size:Int) 2)=((x.size/2:Nat):Int):=by rw[ko (by omega),j2 (by omega)];omega
  refine⟨by decide,?_⟩;refine LoopP.ghost (fun(g:Nat×List UInt8) (t:SliceV×Int) h'=>t.2=(g.1:Int)∧2*g.1≤x.size∧fu (x.data.toList.take (2*g.1))=some g.2∧g.2.length=g.1∧OwnS FB 1 jm (fun y=>h.size≤y) h' t.1 g.2∧Upd No h h') (fun g=>x.size-g.1) (0,[]) ⟨rfl,cu _,rfl,rfl,OwnS.nil AA,Upd.refl _ _⟩ ?_
  rintro I ⟨i,out⟩ ⟨N,P⟩ h' ⟨e2,hi,n,v,A,w⟩ J;simp only at e2 hi n v A;subst e2;rw[L];refine aG (fun j=>?_) fun z=>?_
  ·have j:i<x.size/2:=by have:(i:Int)<((x.size/2:Nat):Int):=j;omega
   obtain⟨a,b,G,b1,d,t⟩:=Q0 (x:=x) (i:=2*i) (by omega);have F:ac .i64 (2*(i:Int))=((2*i:Nat):Int):=by rw[j2 (by omega)];omega
   have D:ac .i64 (((2*i:Nat):Int)+1)=((2*i+1:Nat):Int):=by rw[j2 (by omega)];omega
   have m:fu x.data.toList=(fu (a::b::x.data.toList.drop (2*i+2))).map (out++ ·):=by
    have E:=qe (x.data.toList.take (2*i)) (x.data.toList.drop (2*i)) (by rw[aP];omega);rw[bO,n,d]at E;exact E
   simp only[F];have k:¬(qY a<16∧qY b<16)→K (bN [],false) h':=fun v=>by
    have:=f h' w;rw[m]at this;unfold fu at this;rw[if_neg v]at this;exact this
   have O:=w.size;refine Join.plain ⟨a,by omega,G,b,by rw[D];omega,by rw[D];exact b1,yw (yw ?_)⟩
   rw[Oa,Oa];refine Join.plain ?_;by_cases q:qY a<16
   ·rw[if_pos q]
    refine aG (fun c=>absurd c (by omega)) fun _=>?_
    by_cases p:qY b<16
    ·rw[if_pos p]
     refine aG (fun c=>absurd c (by omega)) fun _=>⟨by decide,LR (LR (aU ?_))⟩
     rw[TG q p];refine DC (b:=bP (16*qY a+qY b)) rfl A (fun y C=>by omega) (by omega) fun s' B o u=>?_
     show I (s',ac .i64 ((i:Int)+1)) B
     rw[eu j (by omega)];refine J (i+1,out++ [bP (16*qY a+qY b)]) _ _ ⟨rfl,by simp only;omega,?_,by simp[v],o,w.trans u fun y C=>.inr C⟩ (by simp only;omega)
     rw[show 2*(i+1)=2*i+2 from by omega,t,qe _ _ (by rw[aP];omega),n]
     simp only[fu,if_pos (show qY a<16∧qY b<16 from⟨q,p⟩)]
     rfl
    ·rw[if_neg p]
     exact aG (fun _=>k (by omega)) fun c=>absurd (by decide:(-1:Int)<0) c
   ·rw[if_neg q]
    exact aG (fun _=>ay.2 (k (by omega))) fun c=>absurd (by decide:(-1:Int)<0) c
  ·have hi:2*i=x.size:=by have:¬(i:Int)<((x.size/2:Nat):Int):=z;omega
   rw[hi,←H,bW]at n;rw[n]at f;refine⟨bN out,?_,f h' w⟩;rw[mr];simpa using(A.sl (W:=No) fun _ _ _ h=>h).srow
end Go.Proofs
