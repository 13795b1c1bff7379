/- A part of the proof that the named laws of this program answer true, whatever the input. -/
import Derived.Test.YtopdngagmfanlaaGreatDoorPart2
import Derived.Test.YtopdngagmfanlaaGreatDoorPart0
import Derived.Shelf.Strings.Search3
import Derived.Shelf.Strings.Count
import Derived.Shelf.Small.Strs
import Derived.Shelf.Strings.Builder1
open Array renaming toList_inj→kC,getElem?_modify→jt
open BitVec renaming ofInt→aq
open ByteArray renaming ext→vO,data_extract→gk,mk→xy
open Go.IntKind renaming wrap→ac,wrap_u8→jF,wrap_u64→dW,bits→ag
open Iff renaming rfl→zY
open Int renaming toNat_natCast→ak,tdiv→wM,tdiv_eq_ediv_of_nonneg→mE,tmod→iL,tmod_eq_emod_of_nonneg→fc,fdiv→gi
open List renaming length_cons→ay,getElem?_eq_getElem→ax,length_eq_zero_iff→bj,length_nil→bN,length_take→aY,take_length→bG,append_assoc→aK,drop_eq_getElem_cons→cF,take_append_drop→bQ,size_toArray→cP,length_append→ai,length_singleton→ct,extract_eq_take_drop→gC,length_drop→aS,getElem?_toArray→dM,length→kT,mem_append→bL,mem_cons→ar,replicate→bC
open Nat renaming le_refl→au,zero_le→bc,le_trans→bv,le_of_eq→gf,zero_add→aP,lt_or_ge→cC,lt_irrefl→j4,lt_of_lt_of_le→aO
open Option renaming some→bp
open Prod renaming mk→pJ
open UInt8 renaming ofNat→cp,toNat_inj→jD
namespace Go.Proofs
open Go Go.Lift
theorem F6{T:Type}{x:T}{k:T→Prop}(h:k x):Bd x k:=h
theorem VM{M:Nat→Prop}{h:ad}{a:SliceV}{out bs:List UInt8}{vs:List Value}{n:Nat}(g:vs=bs.flatMap Ki)(e:n=bs.length){K:SliceV→ad→Prop}(d:OwnS Ki 1 kU M h a out)(hM:∀b,h.size≤b→M b)(m:out.length+bs.length≤140737488355328)
  (j:∀s' h',OwnS Ki 1 kU M h' s' (out++bs)→Upd M h h'→K s' h'):
  ∃xs,SRow (hnew h vs kU) (some (aH h)) (n*1) xs∧AppP (some [.int .u8 0]) 1 1 kU a.a a.len a.cap n xs (hnew h vs kU) K:=by
 subst g e;have k:=Upd.hnew No h (bs.flatMap Ki) kU;have i:OwnS Ki 1 kU (fun _=>True) (hnew h (bs.flatMap Ki) kU) ⟨some (aH h),bs.length,bs.length⟩ bs:=⟨rfl,D7,au _,.inr ⟨h.size,[],rfl,trivial,by rw[List.append_nil];exact bF ..,by simp⟩⟩
 refine⟨_,(i.sl (W:=No) fun _ _ _ h=>h).srow,?_⟩
 refine AppP.own (ys:=bs) (d.upd k fun _ _ h=>h) rfl rfl (Rh bs) rfl (by omega) (by omega) (hM _ (by rw[eN];omega)) fun s' h' c f=>?_
 exact j s' h' c ((Upd.hnew M h _ _).tr f)
abbrev sgn16:ByteArray:=⟨#[48,49,50,51,52,53,54,55,56,57,97,98,99,100,101,102]⟩
theorem KF{n:Nat}(h:n<16):sgn16[n]? =some (sE n):=by
 have:∀n:Fin 16,sgn16.data.toList[n.val]? =some (sE n.val):=by decide+kernel
 rw[NF];exact this ⟨n,h⟩
theorem NB(a b:List UInt8):xX (a++b)=xX a++xX b:=by unfold xX;rw[List.flatMap_append]
theorem wa(l:List UInt8):(xX l).length=2*l.length:=by
 induction l with
 |nil=>rfl
 |cons b l ih=>show(sE _::sE _::xX l).length=_;simp only[ay,ih];omega
theorem Vo(c:UInt8):qq c≤16:=by
 unfold qq;split
 ·omega
 ·split<;>omega
abbrev aG(l:List UInt8):ByteArray:=⟨l.toArray⟩
theorem Jg(x:ByteArray):aG x.data.toList=x:=rfl
theorem NR{c:UInt8}{h:ad}{K:Int→ad→Prop}(e:K (qq c:Int) h):HC PG ut [.int .u8 (c.toNat:Int)] [.c (.int .u8)] K h:=by
 refine Of (c.toNat:Int) ?_;unfold E1;have hc:=c.toNat_lt;have d:¬(48≤c.toNat∧c.toNat≤57)→Join (T:=Bool) (fun j i=>CondP j (K (ac .u8 ((ac .u8 ((c.toNat:Int)-97))+10)) i) (K 16 i)) (fun g=>CondP (decide ((c.toNat:Int)≥97)) (g (decide ((c.toNat:Int)≤102)) h) (g false h)):=by
  intro f;refine Join.plain (aF (fun a=>aF (fun b=>?_) fun b=>?_) fun a=>af.2 ?_)
  ·rw[show ac .u8 ((ac .u8 ((c.toNat:Int)-97))+10)=(qq c:Int)from by rw[jF,jF,qq,if_neg f,if_pos ⟨by omega,by omega⟩];omega];exact e
  ·rw[show(16:Int)=(qq c:Int)from by rw[qq,if_neg f,if_neg (by omega)];rfl];exact e
  ·rw[show(16:Int)=(qq c:Int)from by rw[qq,if_neg f,if_neg (by omega)];rfl];exact e
 refine Join.plain (aF (fun a=>aF (fun b=>?_) fun b=>d (by omega)) fun a=>af.2 (d (by omega)))
 rw[show ac .u8 ((c.toNat:Int)-48)=(qq c:Int)from by rw[jF,qq,if_pos ⟨by omega,by omega⟩];omega];exact e
theorem nr(x:ByteArray):x.data.toList.length=x.size:=Array.length_toList
theorem Qn{x:ByteArray}{i:Nat}(h:i<x.size):∃b,x[((i:Nat):Int).toNat]? =some b∧x.data.toList[i]? =some b∧x.data.toList.take (i+1)=x.data.toList.take i++ [b]:=by
 have a:i<x.data.toList.length:=by rw[nr];exact h
 refine⟨x.data.toList[i],?_,ax a,?_⟩
 ·rw[ak,NF];exact ax a
 ·rw[List.take_add_one,ax a];rfl
theorem oM{x:ByteArray}(hx:x.size≤1000000){h:ad}{K:ByteArray→ad→Prop}(m:∀h',Upd No h h'→K (aG (lI x.data.toList)) h'):HC PG i7 [.string x] [.c .str] K h:=by
 refine Tq x ?_;unfold Kp vl9;have g:=nr x;refine CondP.intro (fun e=>?_) fun e=>?_
 ·have e:x.size=0:=by simpa using e
  have d:x.data.toList= []:=bj.1 (by omega);have:=m h (Upd.refl _ _);rw[d]at this;exact this
 ·have e:x.size≠0:=by simpa using e
  refine LoopP.ghost (fun(i:Nat) (t:SliceV×Int) h'=>t.2=(i:Int)∧i≤x.size∧OwnS Ki 1 kU (fun y=>h.size≤y) h' t.1 (xX (x.data.toList.take i))∧Upd No h h') (fun i=>x.size-i) 0 ⟨rfl,bc _,OwnS.nil D7,Upd.refl _ _⟩ ?_
  rintro I i ⟨z,A⟩ h' ⟨e1,hi,c,f⟩ s;simp only at e1 c;subst e1;refine aF (fun a=>?_) fun j=>?_
  ·have a:i<x.size:=by have:(i:Int)<(x.size:Int):=a;omega
   obtain⟨b,b1,_,b3⟩:=Qn a;have v:=b.toNat_lt;have n:ac .u8 (wM (b.toNat:Int) 16)=((b.toNat/16:Nat):Int):=by rw[mE (by omega),jF];omega
   have p:iL (b.toNat:Int) 16=((b.toNat%16:Nat):Int):=by rw[fc (by omega)];omega
   refine Join.plain ⟨b,by simp only;omega,b1,by decide,sE (b.toNat/16),by rw[n];omega,by rw[n,ak];exact KF (by omega),b,by simp only;omega,b1,by decide,sE (b.toNat%16),by rw[p];omega,by rw[p,ak];exact KF (by omega),bi ?_⟩
   have w:=f.size;refine VM (bs:= [sE (b.toNat/16),sE (b.toNat%16)]) rfl rfl c (fun y q=>by omega) (by rw[wa];simp only[ay,bN,aY];omega) fun s' k o u=>?_
   show I (s',ac .i64 ((i:Int)+1)) k
   rw[cM a (by omega)];refine s (i+1) _ _ ⟨rfl,a,?_,f.trans u fun y q=>.inr q⟩ (by omega)
   rw[b3,NB];exact o
  ·have hi:i=x.size:=by have:¬(i:Int)<(x.size:Int):=j;omega
   rw[hi,←g,bG]at c;refine⟨aG (xX x.data.toList),?_,?_⟩
   ·rw[oU];simpa using(c.sl (W:=No) fun _ _ _ h=>h).srow
   ·have:=m h' f
    rw[lI,if_neg (fun d=>by rw[d]at g;simp at g;omega)]at this
    exact this
theorem ug(c d:UInt8)(l:List UInt8):fY (c::d::l)=if qq c<16∧qq d<16 then(fY l).map (cp (16*qq c+qq d):: ·)else none:=by rw[fY]
theorem sU:∀(a b:List UInt8),a.length%2=0→fY (a++b)=(fY a).bind fun x=>(fY b).map (x++ ·)
 | [],b,_=>by cases h:fY b<;>simp[fY,h]
 | [_],_,h=>by simp at h
 |c::d::l,b,h=>by
  have h:l.length%2=0:=by simp only[ay]at h;omega
  show fY (c::d::(l++b))=_
  rw[ug,ug,sU l b h];split
  ·cases fY l<;>cases fY b<;>rfl
  ·rfl
theorem AW:∀l:List UInt8,l.length%2=1→fY l=none
 | [],h=>by simp at h
 | [_],_=>rfl
 |c::d::l,h=>by
  have h:l.length%2=1:=by simp only[ay]at h;omega
  unfold fY;split
  ·rw[AW l h];rfl
  ·rfl
abbrev WM(o:Option (List UInt8)):ByteArray×Bool:=match o with|some l=>(aG l,true)|none=>(aG [],false)
theorem XH{x:ByteArray}{i:Nat}(h:i+1<x.size):∃a b,x[((i:Nat):Int).toNat]? =some a∧x[((i+1:Nat):Int).toNat]? =some b∧x.data.toList.drop i=a::b::x.data.toList.drop (i+2)∧x.data.toList.take (i+2)=x.data.toList.take i++ [a,b]:=by
 obtain⟨a,d,c,e⟩:=Qn (x:=x) (i:=i) (by omega);obtain⟨b,b1,b2,b3⟩:=Qn h;have f:=nr x;refine⟨a,b,d,b1,?_,by rw[b3,e,aK];rfl⟩
 rw[cF (by omega),cF (by omega)];rw[ax (by omega)]at c b2;rw[bp.inj c,bp.inj b2]
theorem JC{x:ByteArray}:(x.toList==(⟨#[45]⟩:ByteArray).toList)=decide (x.data.toList= [45]):=by
 rw[di,decide_eq_decide];exact⟨fun e=>by rw[e],fun e=>by rw[←Jg x,e]⟩
theorem Cj{x:ByteArray}:(x.toList==(⟨#[]⟩:ByteArray).toList)=decide (x.data.toList= []):=by
 rw[di,decide_eq_decide];exact⟨fun e=>by rw[e],fun e=>by rw[←Jg x,e]⟩
theorem MW{x:ByteArray}(hx:x.size≤1000000){h:ad}{K:ByteArray×Bool→ad→Prop}(f:∀h',Upd No h h'→K (WM (iP x.data.toList)) h'):HC PG yM [.string x] [.c .str,.c .bool] K h:=by
 refine Oh x ?_;unfold E3;have q:=nr x;rw[JC];refine aF (fun e=>?_) fun e=>?_
 ·have:=f h (Upd.refl _ _)
  rw[iP,if_pos e]at this;exact this
 rw[iP,if_neg e]at f;refine Join.plain (CondP.intro (fun j=>aA.2 ?_) fun j=>⟨by decide,CondP.intro (fun e1=>?_) fun e1=>?_⟩)
 ·have j:x.size=0:=by simpa using j
  have:=f h (Upd.refl _ _);rw[if_pos (bj.1 (by omega))]at this;exact this
 ·have j:x.size≠0:=by simpa using j
  have e1:iL (x.size:Int) 2=1:=by simpa using e1
  rw[fc (by omega)]at e1;have:=f h (Upd.refl _ _);rw[if_neg (fun e=>by rw[e]at q;simp at q;omega),AW _ (by omega)]at this;exact this
 ·have j:x.size≠0:=by simpa using j
  have e1:iL (x.size:Int) 2≠1:=by simpa using e1
  rw[fc (by omega)]at e1;rw[if_neg (fun e=>by rw[e]at q;simp at q;omega)]at f
  refine LoopP.ghost (fun(g:Nat×List UInt8) (t:SliceV×Int) h'=>t.2=((2*g.1:Nat):Int)∧2*g.1≤x.size∧fY (x.data.toList.take (2*g.1))=some g.2∧g.2.length=g.1∧OwnS Ki 1 kU (fun y=>h.size≤y) h' t.1 g.2∧Upd No h h') (fun g=>x.size-g.1) (0,[]) ⟨rfl,bc _,rfl,rfl,OwnS.nil D7,Upd.refl _ _⟩ ?_
  rintro I ⟨i,out⟩ ⟨N,J⟩ h' ⟨e2,hi,p,v,A,s⟩ F;simp only at e2 hi p v A;subst e2;refine aF (fun m=>?_) fun w=>?_
  ·have m:2*i<x.size:=by have:((2*i:Nat):Int)<(x.size:Int):=m;omega
   obtain⟨a,b,G,b1,d,t⟩:=XH (x:=x) (i:=2*i) (by omega);have B:ac .i64 (((2*i:Nat):Int)+1)=((2*i+1:Nat):Int):=by rw[kD (by omega)];omega
   have k:fY x.data.toList=(fY (a::b::x.data.toList.drop (2*i+2))).map (out++ ·):=by
    have D:=sU (x.data.toList.take (2*i)) (x.data.toList.drop (2*i)) (by rw[aY];omega);rw[bQ,p,d]at D;exact D
   refine Join.plain ⟨a,by simp only;omega,G,b,by rw[B];omega,by rw[B];exact b1,NR (NR ?_)⟩
   have H:qq a≤16:=Vo a;have O:qq b≤16:=Vo b;have n:¬(qq a<16∧qq b<16)→K (aG [],false) h':=fun v=>by
    have:=f h' s;rw[k]at this;unfold fY at this;rw[if_neg v]at this;exact this
   refine Join.plain (aF (fun c=>aA.2 (n (by omega))) fun c=>aF (fun E=>n (by omega)) fun E=>?_)
   have L:=s.size;refine bi (HG (b:=cp (16*qq a+qq b)) ?_ A (fun y C=>by omega) (by omega) fun s' z o u=>?_)
   ·rw[UInt8.toNat_ofNat_of_lt' (by show _<256;omega),jF,jF];omega
   ·show I (s',ac .i64 (((2*i:Nat):Int)+2)) z
    rw[show ac .i64 (((2*i:Nat):Int)+2)=((2*(i+1):Nat):Int)from by rw[kD (by omega)];omega]
    refine F (i+1,out++ [cp (16*qq a+qq b)]) _ _ ⟨rfl,by simp only;omega,?_,by simp[v],o,s.trans u fun y C=>.inr C⟩ (by simp only;omega)
    rw[show 2*(i+1)=2*i+2 from by omega,t,sU _ _ (by rw[aY];omega),p]
    simp only[fY,if_pos (show qq a<16∧qq b<16 from by omega)]
    rfl
  ·have hi:2*i=x.size:=by have:¬((2*i:Nat):Int)<(x.size:Int):=w;omega
   rw[hi,←q,bG]at p;rw[p]at f;refine⟨aG out,?_,f h' s⟩;rw[oU];simpa using(A.sl (W:=No) fun _ _ _ h=>h).srow
end Go.Proofs
namespace Go.Proofs
open Go Go.Lift
theorem qO(a b:List UInt8):aG a++aG b=aG (a++b):=by
 apply vO;rw[ByteArray.data_append];simp
theorem ci(a:List UInt8):(aG a).size=a.length:=cP
theorem NV:∀(k n:Nat),n<10^(k+1)→(dJ n).length≤k+1
 |0,n,h=>by rw[ot (by simpa using h)];simp
 |k+1,n,h=>by
  by_cases c:n<10
  ·rw[ot c];simp
  ·rw[xh c,ai]
   have:=NV k (n/10) (by rw[Nat.pow_succ]at h;omega);simp only[ct];omega
theorem Kd{n:Nat}(h:n<18446744073709551616):(dJ n).length≤20:=NV 19 n (by omega)
theorem DP:∀(n:Nat),n<18446744073709551616→∀{h:ad} {K:ByteArray→ad→Prop},K (aG (dJ n)) h→HC PG oQ [.int .u64 (n:Int)] [.c .str] K h:=by
 intro n;induction n using Nat.strongRecOn with
 |ind n ih=>
  intro f h K b;refine Ts (n:Int) ?_;unfold Kq;have e1:iL (n:Int) 10=((n%10:Nat):Int):=by rw[fc (by omega)];omega
  have e2:ac .u64 (((n%10:Nat):Int)+1)=((n%10+1:Nat):Int):=by rw[dW];omega
  have e:ac .u64 (wM (n:Int) 10)=((n/10:Nat):Int):=by rw[mE (by omega),dW];omega
  have key:∀d:Fin 10,(⟨#[48,49,50,51,52,53,54,55,56,57]⟩:ByteArray).extract d.val (d.val+1)=aG [cp (48+d.val)]:=by decide+kernel
  have a:=key ⟨n%10,Nat.mod_lt _ (by omega)⟩;simp only at a;rw[e1,e2,e,ak,ak,a];refine⟨by decide,by decide,⟨by omega,by show _≤((10:Nat):Int);omega⟩,⟨by omega,by omega⟩,F6 (aF (fun c=>?_) fun c=>⟨by decide,ih (n/10) (by omega) (by omega) ⟨?_,?_⟩⟩)⟩
  ·rw[ot (by omega)]at b
   rw[Nat.mod_eq_of_lt (by omega)];exact b
  ·have:=Kd (n:=n/10) (by omega)
   rw[ci,ci];simp only[ct];omega
  ·rw[qO,←xh (by omega)];exact b
theorem Lm:∀(v:List UInt8) (a:Nat),a≤v.foldl (fun a c=>10*a+(c.toNat-48)) a
 | [],_=>au _
 |c::v,a=>bv (show a≤10*a+(c.toNat-48) by omega) (Lm v _)
theorem RQ(u v:List UInt8):mf u≤mf (u++v):=by
 unfold mf;rw[List.foldl_append];exact Lm _ _
abbrev UM(o:Option Nat):Int×Bool:=match o with|some n=>((n:Int),true)|none=>(0,false)
theorem KV{x:ByteArray}(hx:x.size≤1000000){h:ad}{K:Int×Bool→ad→Prop}(o:K (UM (mr x.data.toList)) h):HC PG xe [.string x] [.c (.int .u64),.c .bool] K h:=by
 refine LP x ?_;unfold De;have B:=nr x;have no:(x.size=0∨20<x.size∨(x.data.toList.head? =some 48∧1<x.size)∨x.data.toList.all Ix=false∨18446744073709551616≤mf x.data.toList)→K (0,false) h:=fun hc=>by
  rw[Nd,B,if_pos hc]at o;exact o
 refine Join.intro (fun t h'=>h'=h∧t=decide (x.size=0∨20<x.size∨(x.data.toList.head? =some 48∧1<x.size))) (fun R j=>?_) ?_
 ·refine CondP.intro (fun e=>j _ _ ⟨rfl,?_⟩) fun e=>aF (fun e2=>j _ _ ⟨rfl,?_⟩) fun e2=>?_
  ·have e:x.size=0:=by simpa using e
   exact(decide_eq_true (.inl e)).symm
  ·exact(decide_eq_true (.inr (.inl (by omega)))).symm
  ·have e:x.size≠0:=by simpa using e
   obtain⟨b,b1,b2,_⟩:=Qn (x:=x) (i:=0) (by omega);have D:x.data.toList.head? =some b:=by rw[List.head?_eq_getElem?];exact b2
   refine⟨b,by omega,b1,CondP.intro (fun g=>j _ _ ⟨rfl,?_⟩) fun g=>j _ _ ⟨rfl,?_⟩⟩
   ·have C:(b.toNat:Int)=48:=by simpa using g
    have g:b=48:=jD.1 (show b.toNat=48 by omega)
    rw[D,g,decide_eq_decide];exact⟨fun a=>.inr (.inr ⟨rfl,by omega⟩),fun a=>by rcases a with a|a|a<;>omega⟩
   ·have g:b≠48:=fun C=>by rw[C]at g;exact absurd g (by decide)
    rw[D,eq_comm,decide_eq_false_iff_not];rintro(a|a|⟨a,_⟩)
    ·omega
    ·omega
    ·exact g (bp.inj a)
 rintro t h' ⟨k,rfl⟩;subst k;refine aF (fun c=>no ?_) fun c=>?_
 ·rcases c with c|c|c
  ·exact .inl c
  ·exact .inr (.inl c)
  ·exact .inr (.inr (.inl c))
 refine LoopP.ghost (fun(i:Nat) (t:Int×Int) y=>t.2=(i:Int)∧y=h'∧i≤x.size∧(x.data.toList.take i).all Ix=true∧t.1=(mf (x.data.toList.take i):Int)∧mf (x.data.toList.take i)<18446744073709551616) (fun i=>x.size-i) 0 ⟨rfl,rfl,bc _,rfl,rfl,(show(0:Nat)<18446744073709551616 by omega)⟩ ?_
 rintro I i ⟨G,H⟩ y ⟨e1,k,hi,u,e2,E⟩ F;simp only at e1 e2;subst e1 k e2;refine aF (fun f=>?_) fun s=>?_
 ·have f:i<x.size:=by have:(i:Int)<(x.size:Int):=f;omega
  obtain⟨b,b1,b2,b3⟩:=Qn f;have q:=b.toNat_lt;have split:x.data.toList=x.data.toList.take (i+1)++x.data.toList.drop (i+1):=(bQ _ _).symm;refine Join.intro (fun t p=>p=y∧t= !Ix b) (fun R j=>⟨b,by simp only;omega,b1,aF (fun c=>j _ _ ⟨rfl,?_⟩) fun c=>⟨b,by simp only;omega,b1,j _ _ ⟨rfl,?_⟩⟩⟩) ?_
  ·unfold Ix;rw[decide_eq_false (by omega:¬48≤b.toNat)];rfl
  ·unfold Ix;rw[decide_eq_true (by omega:48≤b.toNat),Bool.true_and,←decide_not,decide_eq_decide];omega
  rintro t p ⟨k,e⟩;subst k e;refine CondP.intro (fun c=>no (.inr (.inr (.inr (.inl ?_))))) fun c=>?_
  ·rw[List.all_eq_false]
   exact⟨b,List.mem_of_getElem? b2,by simpa using c⟩
  have c:Ix b=true:=by simpa using c
  obtain⟨c1,J⟩:=FY.1 c;have z:ac .u64 (ac .u8 ((b.toNat:Int)-48))=((b.toNat-48:Nat):Int):=by rw[dW,jF];omega
  have A:=zE (x.data.toList.take i) b;rw[←b3]at A;have n:18446744073709551616≤10*mf (x.data.toList.take i)+(b.toNat-48)→K (0,false) p:=fun q=>no (.inr (.inr (.inr (.inr (by
   have:=RQ (x.data.toList.take (i+1)) (x.data.toList.drop (i+1))
   rw[←split]at this;omega)))))
  have go:10*mf (x.data.toList.take i)+(b.toNat-48)<18446744073709551616→Bd (ac .u64 ((ac .u64 (10*(mf (x.data.toList.take i):Int)))+(ac .u64 (ac .u8 ((b.toNat:Int)-48)))):Int) (fun w=>I (w,ac .i64 ((i:Int)+1)) p):=fun q=>by
   refine F6 ?_;rw[z,show ac .u64 ((ac .u64 (10*(mf (x.data.toList.take i):Int)))+((b.toNat-48:Nat):Int))=((10*mf (x.data.toList.take i)+(b.toNat-48):Nat):Int)from by rw[dW,dW];omega,cM f (by omega)]
   refine F (i+1) _ _ ⟨rfl,rfl,f,?_,by simp only[A],by rw[A];exact q⟩ (by omega)
   rw[b3,List.all_append,u];simp[c]
  refine⟨b,by simp only;omega,b1,Join.plain (aF (fun d=>aA.2 (n (by simp only at d;omega))) fun d=>CondP.intro (fun m=>?_) fun m=>af.2 (go ?_))⟩
  ·have m:(mf (x.data.toList.take i):Int)=1844674407370955161:=by simpa using m
   refine aF (fun v=>n ?_) fun v=>go ?_
   ·rw[z]at v;omega
   ·rw[z]at v;omega
  ·have m:(mf (x.data.toList.take i):Int)≠1844674407370955161:=by simpa using m
   omega
 ·have hi:i=x.size:=by have:¬(i:Int)<(x.size:Int):=s;omega
  rw[hi,←B,bG]at u E⊢;rw[Nd,B,if_neg]at o
  ·exact o
  ·rintro(a|a|a|a|a)
   ·exact c (.inl a)
   ·exact c (.inr (.inl a))
   ·exact c (.inr (.inr a))
   ·rw[u]at a;cases a
   ·omega
end Go.Proofs
namespace Go.Proofs
open Go Go.Lift
theorem MI{b:Nat}{h:ad}{K:Bool→ad→Prop}(a:K false h):HC PG oE [.pointer (some ⟨b,0,none⟩),.pointer none] [.c .bool] K h:=by
 refine BD _ none ?_;unfold tR iE;exact aA.2 (yx (af.2 a))
abbrev XA:List Value:= [.string (⟨#[]⟩:ByteArray),.bool false,.string (⟨#[]⟩:ByteArray),.slice none 0 0,.pointer none]
theorem ph{W:Nat→Prop}{h:ad}{b:Nat}{sl val:ByteArray}{has:Bool}{s:SliceV}{ow:Option Addr}{ks:List (Option Addr)}(d:h[b]? =some (.cells (GA sl has val s ow) bS (0,0))) (z:Sl wN 1 W h s ks) (C:ks.length≤256) {K:Option Addr→ad→Prop}
  (w:∀h' s',h'[h.size]? =some (.cells (GA sl has val s' none) bS (0,0))→OwnS wN 1 bI (fun x=>h.size<x∧x<h'.size) h' s' ks→Upd No h h'→K (some ⟨h.size,0,none⟩) h'):
  HC PG dU [.pointer (some ⟨b,0,none⟩),.pointer none] [.c .ptr] K h:=by
 refine Eh _ none ?_;unfold wF nv bP cJ bM bT iY iE Mb YM;refine MI (af.2 ?_);refine⟨_,rfl,sl,gq (i:=0) d,has,gq (i:=1) d,val,gq (i:=2) d,s,gq (i:=3) d,ow,gq (i:=4) d,bi ?_⟩;have k1:=Upd.hnew No h XA bS;have b1:=bF h XA bS;simp only[df h];generalize hnew h [.string (⟨#[]⟩:ByteArray),.bool false,.string (⟨#[]⟩:ByteArray),.slice none 0 0,.pointer none] bS=h1 at k1 b1
 refine dd (c:=XA) (vs:= [.string sl,.bool has,.string val,.slice s.a s.len s.cap,.pointer ow]) b1 rfl fun v b2 j=>?_
 have q:Upd No h v:=k1.trans j fun x hx=>.inr (gf hx.symm)
 have B:h.size<v.size:=bB b2;have p:=q.get0 d;refine⟨_,rfl,s,gq (i:=3) p,?_⟩;refine Te (z.upd q fun _ h=>h.elim) (by omega) fun m y o f=>?_
 have b3:y[h.size]? =some (.cells (GA sl has val s ow) bS (0,0)):=f.get0 b2;refine⟨V8 (i:=3) b3 (show 3<5 by decide),Ie (i:=3) (c':=GA sl has val m ow) b3 rfl fun E t k=>?_⟩
 refine⟨V8 (i:=4) t (show 4<5 by decide),Ie (i:=4) (c':=GA sl has val m none) t rfl fun u A n=>?_⟩
 refine yx (af.2 ?_);have a:=k.tr n;have D:=a.size;have g:=(o.within.upd a fun x hx e=>by have e:x=h.size:=e;have:=hx.1;omega).more (M':=fun x=>h.size<x∧x<u.size) fun x hx=>⟨by have:=hx.1;omega,by have:=hx.2;omega⟩
 exact w u m A g ((q.tr f).trans a fun x hx=>.inr (gf hx.symm))
theorem wS{h:ad}{b:Nat}{sl nl:ByteArray}{has:Bool}{val:ByteArray}{s:SliceV}{ow:Option Addr}(a:h[b]? =some (.cells (GA sl has val s ow) bS (0,0))) {K:Option Addr→ad→Prop}
  (c:∀h',h'[b]? =some (.cells (GA nl has val s ow) bS (0,0))→Upd (· =b) h h'→K (some ⟨b,0,none⟩) h'):HC PG gO [.pointer (some ⟨b,0,none⟩),.string nl] [.c .ptr] K h:=by
 refine BB _ nl ?_;unfold tP bM;exact⟨_,rfl,V8 (i:=0) a (show 0<5 by decide),Ie (i:=0) (c':=GA nl has val s ow) a rfl c⟩
theorem Ez{h:ad}{b:Nat}{sl v:ByteArray}{has:Bool}{val:ByteArray}{s:SliceV}{ow:Option Addr}(d:h[b]? =some (.cells (GA sl has val s ow) bS (0,0))) {K:Option Addr→ad→Prop}
  (f:∀h',h'[b]? =some (.cells (GA sl true v s ow) bS (0,0))→Upd (· =b) h h'→K (some ⟨b,0,none⟩) h'):HC PG j9 [.pointer (some ⟨b,0,none⟩),.string v] [.c .ptr] K h:=by
 refine Ah _ v ?_;unfold sr bM;exact⟨_,rfl,V8 (i:=1) d (show 1<5 by decide),Ie (i:=1) (c':=GA sl true val s ow) d rfl fun g b1 a=>⟨_,rfl,V8 (i:=2) b1 (show 2<5 by decide),Ie (i:=2) (c':=GA sl true v s ow) b1 rfl fun e b2 c=>f e b2 (a.tr c)⟩⟩
theorem Pf{h:ad}{k v:ByteArray}{K:Option Addr→ad→Prop}(i:∀h' b s,h'[b]? =some (.cells (GA k true v s none) bS (0,0))→s.len=0→s.len≤s.cap→h.size≤b→Upd No h h'→K (some ⟨b,0,none⟩) h'):HC PG vx [.pointer none,.string k,.string v] [.c .ptr] K h:=by
 refine IK none k v ?_;unfold AJ nN iY Mb;have k1:=Upd.hnew No h XA bS;have b1:=bF h XA bS;refine bi ?_;simp only[df h];generalize hnew h [.string (⟨#[]⟩:ByteArray),.bool false,.string (⟨#[]⟩:ByteArray),.slice none 0 0,.pointer none] bS=h1 at k1 b1;refine ph (W:=No) (ks:= []) (sl:=⟨#[]⟩) (val:=⟨#[]⟩) (has:=false) (s:=⟨none,0,0⟩) (ow:=none) b1 (Sl.nil pi) (bc _) fun n s b2 c d=>?_
 refine wS (nl:=k) b2 fun o b3 f=>Ez (v:=v) b3 fun m j e=>?_
 have a:=f.tr e;have z:=d.size;have g:=k1.size;refine i m h1.size s j c.len c.cap g ((k1.tr d).trans a fun x hx=>.inr (by have hx:x=h1.size:=hx;omega))
theorem Zb{W:Nat→Prop}{h:ad}{b:Nat}{k v:ByteArray}{s:SliceV}{ow:Option Addr}(c:h[b]? =some (.cells (GA k true v s ow) bS (0,0))) (a:s.len=0) (hc:s.len≤s.cap) (nw:¬W b):RxN W h b k (some v) .nil:=
 ⟨v,s,ow,[],c,rfl,⟨a,pi,fun h=>absurd rfl h⟩,⟨hc,nw⟩,rfl⟩
theorem Hi(s:ByteArray)(c:Nat):(s.extract 0 c).data.toList=s.data.toList.take c:=by
 rw[gk,Array.toList_extract,gC];simp
theorem Hj(s:ByteArray)(c:Nat):(s.extract c s.size).data.toList=s.data.toList.drop c:=by
 rw[gk,Array.toList_extract,gC,List.take_of_length_le];rw[aS];simp
theorem Pe{W:Nat→Prop}{h:ad}{b:Nat}{sl:ByteArray}{w:Option ByteArray}{F:Fo}(r:RxN W h b sl w F)(A:∀y,W y→y<h.size)(X:F.toL.length≤256){c:Nat}(hc:c≤sl.size){K:Option Addr→ad→Prop}
  (T:∀h' b',RxN W h' b' (sl.extract 0 c) none (.cons (sl.data.toList.drop c) w F .nil)→Upd No h h'→K (some ⟨b',0,none⟩) h'):HC PG oC [.pointer (some ⟨b,0,none⟩),.pointer none,.int .i64 c] [.c .ptr] K h:=by
 refine BA _ none c ?_;unfold tO bP bM nN iY Mb;obtain⟨val,s,ow,ks,J,Q,Z,O,I⟩:=r;have lab:∀{h'},Upd No h h'→aD h' (adr ⟨b,0,none⟩ 0)=some (.string sl):=fun k=>gq (i:=0) (k.get0 J)
 have r0:=Upd.refl No h;refine⟨_,rfl,sl,lab r0,⟨by omega,by omega⟩,bi ?_⟩
 have k1:=Upd.hnew No h XA bS;have b1:=bF h XA bS;simp only[df h];generalize hnew h [.string (⟨#[]⟩:ByteArray),.bool false,.string (⟨#[]⟩:ByteArray),.slice none 0 0,.pointer none] bS=h1 at k1 b1;refine⟨lab k1,?_⟩;refine ph (W:=No) (ks:= []) (sl:=⟨#[]⟩) (val:=⟨#[]⟩) (has:=false) (s:=⟨none,0,0⟩) (ow:=none) b1 (Sl.nil pi) (bc _) fun h2 U b2 _ p=>⟨lab (k1.tr p),?_⟩
 rw[ak];refine wS b2 fun d b3 D=>?_
 have z1:=k1.size;have a:Upd No h d:=(k1.tr p).trans D fun x hx=>.inr (by have hx:x=h1.size:=hx;omega)
 refine ph (a.get0 J) (Z.upd a fun _ h=>h.elim) (by rw[(mM.1 I).1];exact X) fun h4 s4 L E q=>?_
 refine⟨_,rfl,sl,gq (i:=0) L,⟨by omega,by omega⟩,?_⟩
 refine wS (nl:=sl.extract c sl.size) L fun f b5 n=>?_
 have j:Upd No h f:=(a.tr q).trans n fun x hx=>.inr (by have hx:x=d.size:=hx;have:=a.size;omega)
 have B:=E.upd n fun x hx e=>by have e:x=d.size:=e;have:=hx.1;omega
 have hb3:=bB b3;have z:f[h1.size]? =some (.cells (GA (sl.extract 0 c) false ⟨#[]⟩ U none) bS (0,0)):=n.get (q.get0 b3) (by show ¬h1.size=d.size;omega);have t:=Upd.hnew No f [.pointer (some ⟨d.size,0,none⟩)] bI;have N:=bF f [.pointer (some ⟨d.size,0,none⟩)] bI;have Y:=j.size;have R:=a.size;refine bi ?_;simp only[df f]
 generalize hnew f [.pointer (some ⟨d.size,0,none⟩)] bI=h6 at t N;have o:=t.get0 z;have P:=bB z;refine⟨_,rfl,V8 (i:=3) o (show 3<5 by decide),Ie (i:=3) (c':=GA (sl.extract 0 c) false ⟨#[]⟩ ⟨some ⟨f.size,0,none⟩,1,1⟩ none) o rfl fun G V g=>?_⟩
 have m:Upd No h G:=(j.tr t).trans g fun x hx=>.inr (by have hx:x=h1.size:=hx;omega)
 have C:G[f.size]? =some (.cells #[.pointer (some ⟨d.size,0,none⟩)] bI (0,0)):=g.get N (by show ¬f.size=h1.size;omega);have H:=g.get (t.get0 b5) (by show ¬d.size=h1.size;omega);have u:=(B.upd t fun _ _ h=>h).upd g fun x hx e=>by have e:x=h1.size:=e;have:=hx.1;omega
 refine T G h1.size ⟨⟨#[]⟩,_,none,[some ⟨d.size,0,none⟩],V,rfl,⟨rfl,pi,fun _=>⟨_,rfl,(fun hx=>by have hx:W f.size:=hx;have:=A _ hx;omega),pj C fun i v hi=>?_⟩⟩,⟨au _,fun hx=>by have:=A _ hx;omega⟩,?_⟩ m
 ·rw[aP]
  rw[←dM]at hi;exact hi
 ·refine⟨d.size,sl.extract c sl.size,val,s4,none,ks,[],rfl,Hj ..,H,Q,u.sl (fun x hx _ S=>by have:=A _ S;have:=hx.1;omega),⟨u.cap,fun hx=>by have:=A _ hx;omega⟩,RxF.upd0 m I,rfl⟩
end Go.Proofs
namespace Go.Proofs
open Go Go.Lift
theorem Vv:∀{x y:List UInt8} {i:Nat},i≤x.length→i≤y.length→(∀j,j<i→x[j]? =y[j]?)→(i=x.length∨i=y.length∨x[i]?≠y[i]?)→cm x y=i
 | [],_,i,h1,_,_,_=>by simp at h1;simp[cm,h1]
 |_::_,[],i,_,h2,_,_=>by simp at h2;simp[cm,h2]
 |a::x,b::y,0,_,_,_,h=>by
  unfold cm;rw[if_neg];rintro rfl;rcases h with h|h|h<;>simp at h
 |a::x,b::y,i+1,h1,h2,h3,h4=>by
  have:=h3 0 (by omega);simp only[List.getElem?_cons_zero,bp.injEq]at this;unfold cm;rw[if_pos this,Vv (i:=i) (by simpa using h1) (by simpa using h2) (fun j c=>by simpa using h3 (j+1) (by omega)) (by simpa using h4)]
theorem Tb{a b:ByteArray}(y:a.size≤1000000){h:ad}{K:Int→ad→Prop}(n:K (cm a.data.toList b.data.toList:Nat) h):HC PG vq [.string a,.string b] [.c (.int .i64)] K h:=by
 refine IG a b ?_;unfold AF;simp only[Bd];have m:(if(b.size:Int)<(a.size:Int)then(b.size:Int)else(a.size:Int))=((min a.size b.size:Nat):Int):=by split<;>omega
 rw[m];have x:a.data.toList.length=a.size:=by simp
 have w:b.data.toList.length=b.size:=by simp
 refine LoopP.ghost (fun(i:Nat) (t:Int) h'=>t=(i:Int)∧i≤min a.size b.size∧h'=h∧∀j,j<i→a.data.toList[j]? =b.data.toList[j]?) (fun i=>min a.size b.size-i) 0 ⟨rfl,bc _,rfl,fun j q=>absurd q (Nat.not_lt_zero _)⟩ ?_
 rintro I i t h' ⟨rfl,hi,rfl,o⟩ v;refine aF (fun d=>?_) fun u=>?_
 ·have d:i<min a.size b.size:=by omega
  have g:i<a.size:=by omega
  have f:i<b.size:=by omega
  refine⟨a[i],by omega,by rw[ak,getElem?_pos a i g],b[i],by omega,by rw[ak,getElem?_pos b i f],?_⟩
  have e1:a.data.toList[i]? =some a[i]:=by rw[←NF,getElem?_pos a i g]
  have e2:b.data.toList[i]? =some b[i]:=by rw[←NF,getElem?_pos b i f]
  refine CondP.intro (fun k=>?_) fun c=>?_
  ·rw[Vv (i:=i) (by omega) (by omega) o (.inr (.inr fun e=>?_))]at n
   ·exact n
   ·rw[e1,e2]at e
    rw[bp.inj e]at k;simp at k
  ·have c:a[i]=b[i]:=by
    have:((a[i].toNat:Int))=(b[i].toNat:Int):=by simpa using c
    exact jD.1 (by omega)
   rw[cM d (by omega)];refine v (i+1) _ _ ⟨rfl,d,rfl,fun j q=>?_⟩ (by omega)
   rcases cC j i with s|s
   ·exact o j s
   ·have:j=i:=by omega
    subst this;rw[e1,e2,c]
 ·have p:i=min a.size b.size:=by omega
  rw[Vv (i:=i) (by omega) (by omega) o (by omega)]at n;rw[←p];exact n
theorem So{F:Fo}{i:Nat}{k:List UInt8}{v:ByteArray}(h:jV F)(hi:i<F.toL.length)(ek:hd F.toL[i].1=hd k)(a:vE (yd F.toL[i]) (yd F.toL[i]) k v):vE (uD F) (uD F) k v:=by
 have:=MY h hi ek a;rw[List.set_getElem_self,Fo.of_to]at this;exact this
theorem UD{P Q a:List UInt8→ByteArray→Prop}{k:List UInt8}{v:ByteArray}(h:vE P a k v)(e:∀k v,P k v↔Q k v):vE Q a k v:=fun k' b=>by rw[h k' b,e]
set_option maxHeartbeats 1000000 in
theorem Up{W:Nat→Prop}:∀(n:Nat) {b:Nat} {sl:ByteArray} {w:Option ByteArray} {F:Fo} {h:ad} (k v:ByteArray),k.size<n→k.size≤1000000→RxN W h b sl w F→(∀y,W y→y<h.size)→jV F→∀{K:(Option Addr)×Bool×Bool→ad→Prop},
  (∀h' b' w' X C ch,Upd No h h'→RxN W h' b' sl w' X→jV X→vE (ww w F) (ww w' X) k.data.toList v→(ch=false→b'=b∧w'=w∧X=F)→(ww w F k.data.toList v→ch=false)→K (some ⟨b',0,none⟩,C,ch) h')→
  HC PG mX [.pointer (some ⟨b,0,none⟩),.pointer none,.string k,.string v] [.c .ptr,.c .bool,.c .bool] K h:=by
 intro n;induction n with
 |zero=>intro b sl w F h k v hk;omega
 |succ n ih=>
  intro b sl w F h k v G hk6 r hW hc K hk;refine Eg (some ⟨b,0,none⟩) none k v ?_;unfold wE bf cU OZ bP cJ ez bM bT nN iY TX XP Kw;have hr:=r;obtain⟨val,s,ow,ks,hb,hv,hs,hcap,hF⟩:=r;have Y:=mM.1 hF;have hn:=zU hc;have hcan:=eX.1 hc;rw[di];refine aF (fun hk0=>?_) fun hk0=>?_
  ·have hke:k.data.toList= []:=by rw[hk0]
   rw[hke]at hk;refine Join.intro (fun t h'=>t=decide (w=some v)∧h'=h) (fun R hR=>⟨_,rfl,w.isSome,gq (i:=1) hb,?_⟩) ?_
   ·cases H:w with
    |none=>exact af.2 (hR _ _ ⟨by rw[H];rfl,rfl⟩)
    |some u=>
     refine aA.2 ⟨_,rfl,val,gq (i:=2) hb,hR _ _ ⟨?_,rfl⟩⟩;rw[di,vw hv u H,H];exact decide_eq_decide.2 ⟨fun e=>by rw[e],fun e=>bp.inj e⟩
   ·rintro t h' ⟨rfl,rfl⟩
    refine aF (fun e=>?_) fun e=>?_
    ·refine hk h' b w F false false (Upd.refl _ _) hr hc ?_ (fun _=>⟨rfl,rfl,rfl⟩) fun _=>rfl
     rw[e];exact Jv hc v
    ·refine⟨_,rfl,w.isSome,gq (i:=1) hb,?_⟩
     refine ph hb hs (by rw[Y.1];exact hn) fun h1 s1 b1 ho1 z=>?_
     refine⟨gq (i:=1) (z.get0 hb),?_⟩;refine Ez b1 fun A b2 B=>?_
     have d:Upd No h' A:=z.trans B fun x hx=>.inr (gf (Eq.symm hx))
     refine⟨gq (i:=1) (d.get0 hb),?_⟩;have ho2:=ho1.upd B fun x hx e=>by have e:x=h'.size:=e;have:=hx.1;omega
     refine hk A h'.size (some v) F _ true d ⟨v,s1,none,ks,b2,rfl,ho2.sl (fun x hx _ H=>by have:=hW _ H;have:=hx.1;omega),⟨ho2.cap,fun hx=>j4 _ (hW _ hx)⟩,RxF.upd0 d hF⟩ hc (Jv hc v) (fun h=>by cases h) fun g=>?_
     rcases g with⟨_,h⟩|h
     ·exact absurd h e
     ·exact absurd rfl (DZ hc h)
  ·have f:k.data.toList≠[]:=fun e=>hk0 (by cases k;exact congrArg xy (kC.1 e))
   obtain⟨c0,hc0,hc0e⟩:=Lk f;refine⟨c0,Int.le_refl _,hc0,?_⟩;have hlk:k.data.toList.length=k.size:=by simp
   refine DJ hr hc (c:=c0.toNat) (UInt8.toNat_lt _) fun i ok hil hlo hhi hok=>?_
   rw[hc0e]at hlo hhi hok;cases ok with
   |false=>
    have hno:∀hi:i<F.toL.length,hd F.toL[i].1≠hd k.data.toList:=fun hi e=>by have:=hok.2 ⟨hi,e⟩;cases this
    have hhi':∀j (hj:j<F.toL.length),i≤j→hd k.data.toList<hd F.toL[j].1:=fun j hj hij=>by
     have h1:=hhi j hj hij;rcases cC i j with V|V
     ·have A:=List.pairwise_iff_getElem.1 hcan.1 i j (by omega) hj V
      have h3:=hhi i (by omega) (au _);omega
     ·have:i=j:=by omega
      subst this;have:=hno hj;omega
    obtain⟨hc',hp'⟩:=Sr (v:=v) hc f hlo hhi';refine aA.2 ?_;refine ph hb hs (by rw[Y.1];exact hn) fun h1 s1 b1 ho1 z=>?_
    refine⟨_,rfl,s1,gq (i:=3) b1,?_⟩;refine Pf fun A fb fs fb2 hf0 hfc hfb B=>⟨gq (i:=3) (B.get0 b1),bi ?_⟩
    have k3:=Upd.hnew No A [.pointer (some ⟨fb,0,none⟩)] bI;have b3:=bF A [.pointer (some ⟨fb,0,none⟩)] bI;have z3:(hnew A [.pointer (some ⟨fb,0,none⟩)] bI).size=A.size+1:=eN ..;simp only[df A];generalize hnew A [.pointer (some ⟨fb,0,none⟩)] bI=h3 at k3 b3 z3;have E:=B.tr k3;refine⟨gq (i:=3) (E.get0 b1),?_⟩;have z1:=bB b1
    have z2:=B.size;have zf:=bB fb2;have Z:=(ho1.upd E fun _ _ h=>h).more (M':=fun x=>(h.size<x∧x<h1.size)∨h3.size≤x) fun x hx=>.inl hx
    refine PZ Z (k:=i) (by rw[Y.1];exact hil) (by rw[Y.1];omega) b3 (by rintro(h|h)<;>omega) (fun x hx=>.inr hx) fun s4 h4 P I=>?_
    have b4:=I.get (E.get0 b1) (by rintro(h|h)<;>omega)
    have f4:=I.get (k3.get0 fb2) (by rintro(h|h)<;>omega)
    refine⟨_,rfl,V8 (i:=3) b4 (show 3<5 by decide),Ie (i:=3) (c':=GA sl w.isSome val s4 none) b4 rfl fun h5 b5 hu5=>?_⟩
    have hu05:Upd No h h5:=((z.tr E).trans I fun x hx=>.inr (by have:=z.size;rcases hx with hx|hx<;>omega)).trans hu5 fun x hx=>.inr (gf (Eq.symm hx))
    have ho5:=P.upd hu5 fun x hx e=>by have e:x=h.size:=e;rcases hx with hx|hx<;>omega
    have f5:=hu5.get f4 (by show ¬fb=h.size;omega);refine hk h5 h.size w _ true true hu05 ⟨val,s4,none,_,b5,hv,ho5.sl (fun x hx _ H=>by have:=hW _ H;rcases hx with hx|hx<;>omega),⟨ho5.cap,fun hx=>j4 _ (hW _ hx)⟩,mM.2 (by rw[Fo.to_of];exact(Y.upd0 hu05).ins i ⟨fb,k,rfl,rfl,Zb f5 hf0 hfc fun hx=>by have:=hW _ hx;omega⟩)⟩ hc' (DQ f hp') (fun h=>by cases h) fun g=>?_
    rcases g with⟨h,_⟩|g
    ·exact absurd h f
    ·obtain⟨n',hn',e,_⟩:=yB hc g
     obtain⟨j,hj,rfl⟩:=List.getElem_of_mem hn';rcases cC j i with V|V
     ·have:=hlo j hj V;omega
     ·have:=hhi' j hj V;omega
   |true=>
    obtain⟨hi,J⟩:=hok.1 rfl;refine af.2 ⟨_,rfl,s,gq (i:=3) hb,?_⟩;obtain⟨kb,ksl,hki,q,G⟩:=Y.at hi;have hmem:F.toL[i]∈F.toL:=List.getElem_mem hi;have o:=hcan.2 _ hmem;obtain⟨a,ha,_,hvv⟩:=hs.at0 hki;have hslen:=hs.len;rw[Y.1]at hslen;have hlt1:(i:Int)<((s.len:Nat):Int):=by omega
    refine⟨⟨by simp only;omega,hlt1⟩,a,ha,some ⟨kb,0,none⟩,hvv,_,rfl,?_⟩;obtain⟨kval,kss,kow,kks,hkb,_⟩:=id G;refine⟨ksl,gq (i:=0) hkb,Tb hk6 ?_⟩;rw[q];have hc1:=Yr f o.1 J.symm;have U:=XG k.data.toList F.toL[i].1;have T:=Ry k.data.toList F.toL[i].1;have hcd:=Rz k.data.toList F.toL[i].1;have hll:ksl.size=F.toL[i].1.length:=by rw[←q];simp
    have N:uD F k.data.toList v→yd F.toL[i] k.data.toList v:=fun g=>by
     obtain⟨n',hn',e,hN⟩:=yB hc g;rw[←zT hc hn' hmem (by omega)];exact hN
    have hset:∀{w2:Option ByteArray} {F2:Fo} {nl:List UInt8},nl≠[]→hd nl=hd F.toL[i].1→jV F2→Br (ww w2 F2)→jV (.ofL (F.toL.set i (nl,w2,F2))):=fun h1 A h3 h4=>RC hc hi ⟨h1,(VI h3).2 h4,h3⟩ A
    have Q:∀{m:Bn},vE (yd F.toL[i]) (yd m) k.data.toList v→vE (uD F) (uD (.ofL (F.toL.set i m))) k.data.toList v:=fun hp=>MY hc hi J hp
    have O:vE (yd F.toL[i]) (yd F.toL[i]) k.data.toList v→vE (uD F) (uD F) k.data.toList v:=So hc hi J;have hrset:∀{h':ad} {k':Option Addr} {m:Bn},Upd No h h'→Kid W h' k' m→RxL W h' (ks.set i k') (F.toL.set i m):=fun hu hkd=>(Y.upd0 hu).set hi hkd
    generalize F.toL[i]=m at q G o hc1 U T hcd hll N hset Q O J;generalize hcc:cm k.data.toList m.1=c at hc1 U T hcd;obtain⟨lab,wk,Fk⟩:=m;simp only at q G o U T hcd hll J hset;refine Join.intro (fun t h'=>∃ub p wu Fu,t=some ⟨ub,0,none⟩∧Upd No h h'∧RxN W h' ub p wu Fu∧jV Fu∧p.data.toList=k.data.toList.take c∧(∀k' v',yd (p.data.toList,wu,Fu) k' v'↔yd (lab,wk,Fk) k' v')∧(∀w' X,jV X→vE (ww wu Fu) (ww w' X) (k.data.toList.drop c) v→Br (ww w' X))) (fun R hR=>⟨_,rfl,ksl,gq (i:=0) hkb,?_⟩) ?_
    ·refine aF (fun hlt=>?_) fun hge=>?_
     ·have hlt:c<lab.length:=by omega
      refine Pe G hW (zU o.2.2) (c:=c) (by omega) fun h1 ub rn z=>hR _ _ ⟨ub,_,none,_,rfl,z,rn,?_,?_,?_,?_⟩
      ·rw[q]
       refine⟨fun e=>?_,o.2.1,o.2.2,fun _ h=>by simp[Fo.toL]at h,trivial⟩
       have:=congrArg kT e;rw[aS,bN]at this;omega
      ·rw[Hi,q,T]
      ·intro k' v'
       rw[Hi,q];exact JQ c k' v'
      ·intro w' X hcF hp
       rw[q]at hp;refine VH (fun e=>?_) o.2.1 o.2.2 (fun hne=>?_) hp
       ·have:=congrArg kT e
        rw[aS,bN]at this;omega
       ·refine hcd ?_ hlt
        rcases cC c k.data.toList.length with V|V
        ·exact V
        ·exact absurd (List.drop_eq_nil_of_le V) hne
     ·have hce:c=lab.length:=by omega
      refine hR _ _ ⟨kb,ksl,wk,Fk,rfl,Upd.refl _ _,G,o.2.2,?_,?_,?_⟩
      ·rw[q,T,hce,bG]
      ·intro k' v';rw[q]
      ·intro w' X hcF hp
       exact Xl ((VI o.2.2).1 o.2.1) hp
    ·rintro t h1 ⟨ub,p,wu,Fu,rfl,z,rn,hcu,hsl,S,hbr⟩
     refine⟨⟨by omega,by omega⟩,?_⟩
     rw[ak];have hkd:(k.extract c k.size).data.toList=k.data.toList.drop c:=Hj ..;have hks:(k.extract c k.size).size=k.size-c:=by simp
     have D:k.data.toList=p.data.toList++k.data.toList.drop c:=by rw[hsl,bQ]
     have L:p.data.toList≠[]:=by
      rw[hsl];intro e;have:=congrArg kT e;rw[aY,bN]at this;omega
     have hslhd:hd p.data.toList=hd lab:=by
      rw[J];conv=>rhs;rw[D]
      rw[vn L]
     refine ih (k.extract c k.size) v (by rw[hks];omega) (by rw[hks];omega) rn (fun y hy=>aO (hW y hy) z.size) hcu fun A b2 w2 F2 C ch B rn2 hc2 hp2 hsm hch=>?_
     rw[hkd]at hp2 hch;have d:=z.tr B;have hpn:vE (yd (lab,wk,Fk)) (yd (p.data.toList,w2,F2)) k.data.toList v:=by
      have:=UD (Sq (lab:=p.data.toList) hp2) S;rw[←D]at this;exact this
     have hchg:ww w F k.data.toList v→ch=false:=fun g=>by
      rcases g with⟨h,_⟩|g
      ·exact absurd h f
      ·obtain⟨r,e,hr'⟩:=(S _ _).2 (N g)
       simp only at e;rw[D]at e;have e2:=List.append_cancel_left e;rw[←D]at e;exact hch (by rw[e2];exact hr')
     cases ch with
     |false=>
      obtain⟨_,rfl,rfl⟩:=hsm rfl;refine aA.2 (hk A b w F false false d (hr.upd0 d) hc (DQ f (O ?_)) (fun _=>⟨rfl,rfl,rfl⟩) fun _=>rfl)
      intro k' v';exact(S k' v').symm.trans (hpn k' v')
     |true=>
      refine af.2 ?_;refine ph (d.get0 hb) (hs.upd d fun _ h=>h.elim) (by rw[Y.1];exact hn) fun h3 s3 b3 Z hu3=>?_
      refine⟨_,rfl,s3,gq (i:=3) b3,?_⟩;have hil:i<ks.length:=by rw[Y.1];exact hi
      obtain⟨a3,ha3,hab,hw3,P,I⟩:=OwnS.setAt Z hil (some ⟨b2,0,none⟩);have hlen3:=Z.len;refine⟨⟨by simp only;omega,by simp only;omega⟩,a3,ha3,?_⟩
      have hw1:Wr h3 (adr a3 (i*1)):=by
       rcases hw3 with H|⟨b',hb',H⟩
       ·cases H
       ·cases hb';exact H 0 (by simp)
      refine⟨hw1,bi ?_⟩;have b4:=I.get b3 fun e=>by have e:A.size=a3.block:=e;have:=hab.1;omega
      have hu24:Upd No A _:=hu3.trans I fun x hx=>.inr (by have hx:x=a3.block:=hx;have:=hab.1;omega)
      have hu04:=d.tr hu24;have eset:ks.set i (some ⟨b2,0,none⟩)=ks.take i++some ⟨b2,0,none⟩::ks.drop (i+1):=by rw[List.set_eq_take_append_cons_drop,if_pos hil]
      rw[←eset]at P;exact hk _ A.size w _ C true hu04 ⟨val,s3,none,_,b4,hv,P.sl (fun x hx _ H=>by have:=hW _ H;have:=d.size;have:=hx.1;omega),⟨P.cap,fun hx=>by have:=hW _ hx;have:=d.size;omega⟩,mM.2 (by rw[Fo.to_of];exact hrset hu04 ⟨b2,p,rfl,rfl,rn2.upd0 hu24⟩)⟩ (hset L hslhd hc2 (hbr _ _ hc2 hp2)) (DQ f (Q hpn)) (fun h=>by cases h) hchg
end Go.Proofs
namespace Go.Proofs
open Go Go.Lift
def PB:Fo→List (List UInt8×ByteArray)
 | .nil=> []
 | .cons lab w kids rest=>((w.map fun v=>(([]:List UInt8),v)).toList++PB kids).map (fun p=>(lab++p.1,p.2))++PB rest
def UE(w:Option ByteArray)(F:Fo):List (List UInt8×ByteArray):=(w.map fun v=>(([]:List UInt8),v)).toList++PB F
theorem FV:∀{F:Fo} {k:List UInt8} {v:ByteArray},(k,v)∈PB F↔uD F k v
 | .nil,_,_=>by simp[PB,uD]
 | .cons lab w kids rest,k,v=>by
  unfold PB uD;rw[bL,FV (F:=rest)];refine or_congr ?_ zY;rw[List.mem_map];constructor
  ·rintro⟨⟨r,u⟩,hm,b⟩
   simp only[pJ.injEq]at b;obtain⟨rfl,rfl⟩:=b;refine⟨r,rfl,?_⟩;rcases bL.1 hm with h|h
   ·left
    rw[Option.mem_toList,Option.map_eq_some_iff]at h;obtain⟨a,c,b⟩:=h;simp only[pJ.injEq]at b;exact⟨b.1.symm,by rw[c,b.2]⟩
   ·exact .inr (FV.1 h)
  ·rintro⟨r,rfl,h⟩
   refine⟨(r,v),bL.2 ?_,rfl⟩;rcases h with⟨rfl,h⟩|h
   ·left;rw[h];simp
   ·exact .inr (FV.2 h)
theorem qS{w:Option ByteArray}{F:Fo}{k:List UInt8}{v:ByteArray}:(k,v)∈UE w F↔ww w F k v:=by
 unfold UE ww;rw[bL,FV];refine or_congr ?_ zY;cases w with
 |none=>simp
 |some u=>simp[Prod.ext_iff,eq_comm]
end Go.Proofs
namespace Go.Proofs
open Go Go.Lift
structure RadAt(W:Nat→Prop)(h:ad)(b:Nat)(l:List Pr):Prop where
 ex:∃w F,RxN W h b ⟨#[]⟩ w F∧jV F∧∀k v,(k,v)∈UE w F↔∃p∈l,p.1.data.toList=k∧p.2=v
theorem RadAt.upd0{W:Nat→Prop}{h h':ad}{b:Nat}{l:List Pr}(k:Upd No h h')(r:RadAt W h b l):RadAt W h' b l:=by
 obtain⟨w,F,c,a,d⟩:=r.ex;exact⟨w,F,c.upd0 k,a,d⟩
theorem RadAt.less{W W':Nat→Prop}{h:ad}(hm:∀b,W' b→W b∨h.size≤b){b:Nat}{l:List Pr}(r:RadAt W h b l):RadAt W' h b l:=by
 obtain⟨w,F,c,a,d⟩:=r.ex;exact⟨w,F,c.less hm,a,d⟩
theorem RadAt.updM{W M:Nat→Prop}{h h':ad}(k:Upd M h h')(hm:∀b,M b→W b∨h.size≤b){b:Nat}{l:List Pr}(r:RadAt W h b l):RadAt W h' b l:=by
 obtain⟨w,F,c,a,d⟩:=r.ex;exact⟨w,F,c.updM k hm,a,d⟩
end Go.Proofs
namespace Go.Proofs
open Go Go.Lift
theorem ul{p q:Pr}:∀{l:List Pr},eY l→(q∈j8 p l↔q=p∨(q∈l∧q.1≠p.1))
 | [],_=>by simp[j8]
 |r::l,c=>by
  have c:=List.pairwise_cons.1 c;rw[mS];by_cases b:kl r.1 p.1
  ·have d:r.1≠p.1:=fun e=>by rw[e]at b;exact fo _ b
   rw[if_pos b,ar,ar,ul c.2];constructor
   ·rintro(rfl|h|⟨h,h'⟩)
    ·exact .inr ⟨.inl rfl,d⟩
    ·exact .inl h
    ·exact .inr ⟨.inr h,h'⟩
   ·rintro(h|⟨h|h,h'⟩)
    ·exact .inr (.inl h)
    ·exact .inl h
    ·exact .inr (.inr ⟨h,h'⟩)
  ·rw[if_neg b]
   by_cases a:r.1=p.1
   ·rw[if_pos a,ar,ar]
    constructor
    ·rintro(h|h)
     ·exact .inl h
     ·refine .inr ⟨.inr h,fun e=>?_⟩
      have:=c.1 q h;rw[e,a]at this;exact fo _ this
    ·rintro(h|⟨rfl|h,h'⟩)
     ·exact .inl h
     ·exact absurd a h'
     ·exact .inr h
   ·rw[if_neg a,ar,ar]
    have f:=GY b a;constructor
    ·rintro(h|rfl|h)
     ·exact .inl h
     ·exact .inr ⟨.inl rfl,a⟩
     ·refine .inr ⟨.inr h,fun e=>?_⟩
      have:=qT f (c.1 q h);rw[e]at this;exact fo _ this
    ·rintro(h|⟨rfl|h,h'⟩)
     ·exact .inl h
     ·exact .inr (.inl rfl)
     ·exact .inr (.inr h)
def RadRoot(W:Nat→Prop)(h:ad)(r:Option Addr)(l:List Pr):Prop:=(r=none∧l= [])∨∃b,r=some ⟨b,0,none⟩∧RadAt W h b l
theorem RadRoot.upd0{W:Nat→Prop}{h h':ad}{r:Option Addr}{l:List Pr}(k:Upd No h h')(t:RadRoot W h r l):RadRoot W h' r l:=t.imp id fun⟨b,e,t⟩=>⟨b,e,t.upd0 k⟩
theorem tI{a b:ByteArray}:a.data.toList=b.data.toList↔a=b:=by
 constructor
 ·intro h;cases a;cases b;exact congrArg xy (kC.1 h)
 ·rintro rfl;rfl
theorem Gz{W:Nat→Prop}{h:ad}(c:∀y,W y→y<h.size){K:Option Addr→ad→Prop}(a:∀h' b,RadAt W h' b []→Upd No h h'→K (some ⟨b,0,none⟩) h'):HC PG qG [] [.c .ptr] K h:=by
 refine IL ?_;unfold AK Mb;refine bi (a _ h.size ⟨none,.nil,⟨⟨#[]⟩,⟨none,0,0⟩,none,[],bF h XA bS,rfl,Sl.nil pi,⟨au _,fun hx=>j4 _ (c _ hx)⟩,rfl⟩,trivial,fun k v=>?_⟩ (Upd.hnew No h _ _))
 simp[UE,PB]
theorem DI{W:Nat→Prop}{h:ad}{r:Option Addr}{l:List Pr}(t:RadRoot W h r l)(d:∀y,W y→y<h.size){K:Option Addr→ad→Prop}(a:∀h' b,RadAt W h' b l→Upd No h h'→(r=some ⟨b,0,none⟩∨r=none)→K (some ⟨b,0,none⟩) h'):HC PG pw [.pointer r] [.c .ptr] K h:=by
 refine LM r ?_;unfold Db;rcases t with⟨rfl,rfl⟩|⟨b,rfl,t⟩
 ·exact aA.2 (Gz d fun h' b t c=>a h' b t c (.inr rfl))
 ·exact af.2 (a h b t (Upd.refl _ _) (.inl rfl))
theorem MQ{W:Nat→Prop}{h:ad}{r:Option Addr}{l:List Pr}(t:RadRoot W h r l)(B:∀y,W y→y<h.size)(u:eY l)(p:Pr)(G:p.1.size≤1000000){K:Option Addr×Bool→ad→Prop}
  (J:∀h' b' a,Upd No h h'→RadAt W h' b' (j8 p l)→(p∈l→r=some ⟨b',0,none⟩∨r=none)→K (some ⟨b',0,none⟩,a) h'):
  HC PG yJ [.pointer none,.pointer r,.agg #[.string p.1,.string p.2]] [.c .ptr,.c .bool] K h:=by
 refine Ob none r p ?_;unfold EX ah pW TX;have k1:=Upd.hnew No h [.string p.1,.string p.2] az;have b1:=bF h [.string p.1,.string p.2] az;refine bi ?_;simp only[df h];generalize hnew h [.string p.1,.string p.2] az=h1 at k1 b1;have g:∀{h':ad},Upd No h1 h'→∀i,aD h' (adr ⟨h.size,0,none⟩ i)=(#[.string p.1,.string p.2]:Array Value)[i]?:=fun k i=>by rw[ce,aW (k.get0 b1),aP]
 have C:=Upd.refl No h1;refine⟨p.1,g C 0,p.2,g C 1,DI (t.upd0 k1) (fun y z=>aO (B y z) k1.size) fun P b E c D=>⟨g c 1,g c 0,?_⟩⟩
 obtain⟨w,F,L,I,A⟩:=E.ex;refine Up (p.1.size+1) p.1 p.2 (by omega) G L (fun y z=>aO (B y z) (k1.tr c).size) I fun N b3 w' H a O m j s o n x=>?_
 refine J N b3 a ((k1.tr c).tr m) ⟨w',H,j,s,fun k v=>?_⟩ fun hm=>?_
 ·rw[qS,o k v,←qS,A k v]
  constructor
  ·rintro(⟨rfl,rfl⟩|⟨d,q,f,rfl,rfl⟩)
   ·exact⟨p,(ul u).2 (.inl rfl),rfl,rfl⟩
   ·exact⟨q,(ul u).2 (.inr ⟨f,fun e=>d (by rw[e])⟩),rfl,rfl⟩
  ·rintro⟨q,f,rfl,rfl⟩
   rcases(ul u).1 f with rfl|⟨f,d⟩
   ·exact .inl ⟨rfl,rfl⟩
   ·exact .inr ⟨fun e=>d (tI.1 e),q,f,rfl,rfl⟩
 ·have:=x (qS.1 ((A _ _).2 ⟨p,hm,rfl,rfl⟩))
  rw[(n this).1];exact D
end Go.Proofs
namespace Go.Proofs
open Go Go.Lift
theorem cH{h:ad}{cs:List Value}{t:TypeId}{k:ad→Prop}(a:∀h',h'[h.size]? =some (.cells cs.toArray t (0,0))→Upd No h h'→k h'):At (hnew h cs t) k:=
 bi (a _ (bF h cs t) (Upd.hnew No h cs t))
theorem vc{h:ad}{b:Nat}{c:Array Value}{t:TypeId}(a:h[b]? =some (.cells c t (0,0))) (i:Nat):aD h (adr ⟨b,0,none⟩ i)=c[i]?:=by rw[ce,aP];exact aW a
theorem Aa{h:ad}{b:Nat}{c:Array Value}{t:TypeId}(a:h[b]? =some (.cells c t (0,0))) (i j:Nat):aD h (adr (adr ⟨b,0,none⟩ i) j)=c[i+j]?:=by rw[ce,ce,aP];exact aW a
theorem oz{h:ad}{b i:Nat}{c c':Array Value}{t:TypeId}{v:Value}{k:ad→Prop}(d:h[b]? =some (.cells c t (0,0))) (hi:i<c.size) (e:c.setIfInBounds i v=c') (g:∀h',h'[b]? =some (.cells c' t (0,0))→Upd (· =b) h h'→k h'):Wr h (adr ⟨b,0,none⟩ i)∧At (hset h (adr ⟨b,0,none⟩ i) v) k:=by
 rw[ce,aP];exact⟨iM d hi,vC d fun h' a f=>g h' (e▸a) f⟩
theorem _root_.Go.Lift.Upd.own{h c a:ad}{b:Nat}(k:Upd No h c)(d:Upd (· =b) c a)(e:h.size≤b):Upd No h a:=k.trans d fun x hx=>.inr (by have hx:x=b:=hx;omega)
theorem _root_.Go.Lift.Upd.oth{h h':ad}{b c:Nat}{o:Obj}(d:Upd (· =b) h h')(hc:h[c]? =some o) (a:c≠b):h'[c]? =some o:=d.get hc a
abbrev Tr:=Int×Int×Int×Int×(Option Addr)×(Option Addr)
abbrev pU(t:Tr):List Value:= [.int .i64 t.1,.int .u64 t.2.1,.int .u64 t.2.2.1,.int .u64 t.2.2.2.1,.pointer t.2.2.2.2.1,.pointer t.2.2.2.2.2]
abbrev RU(t:Tr):Value:=.agg #[.int .i64 t.1,.int .u64 t.2.1,.int .u64 t.2.2.1,.int .u64 t.2.2.2.1,.pointer t.2.2.2.2.1,.pointer t.2.2.2.2.2]
def Pro(W:Nat→Prop)(h a:ad)(y:Nat):Prop:=W y∨(h.size≤y∧y<a.size)
theorem Pro.lt{W:Nat→Prop}{h a:ad}(c:∀y,W y→y<h.size)(k:Upd No h a):∀y,Pro W h a y→y<a.size:=fun y b=>b.elim (fun h=>aO (c y h) k.size) fun h=>h.2
theorem Pro.hm{W:Nat→Prop}{h a:ad}:∀y,Pro W h a y→W y∨h.size≤y:=fun _ b=>b.imp id fun h=>h.1
theorem Pro.sub{W:Nat→Prop}{h a b:ad}:∀y,W y→Pro W h a y∨b.size≤y:=fun _ c=>.inl (.inl c)
theorem RootAt.less{W W':Nat→Prop}{x:Hs}{h:ad}(hm:∀b,W' b→W b∨h.size≤b){r:Option Addr}{l:List Pr}(t:RootAt W x h r l):RootAt W' x h r l:=t.imp id fun⟨b,e,t⟩=>⟨b,e,TrieAt.less hm t⟩
theorem RadRoot.less{W W':Nat→Prop}{h:ad}(hm:∀b,W' b→W b∨h.size≤b){r:Option Addr}{l:List Pr}(t:RadRoot W h r l):RadRoot W' h r l:=t.imp id fun⟨b,e,t⟩=>⟨b,e,t.less hm⟩
def TreeIs(W:Nat→Prop)(h:ad)(kind:Int)(x:Hs)(t:Tr)(l:List Pr):Prop:=(kind=0∧∃b,t=(0,x.k0,x.k1,x.mask,some ⟨b,0,none⟩,none)∧TrieAt W x h 13 b l)∨(kind=1∧∃b,t=(1,0,0,0,none,some ⟨b,0,none⟩)∧RadAt W h b l)
theorem TreeIs.upd0{W:Nat→Prop}{h h':ad}{kind:Int}{x:Hs}{t:Tr}{l:List Pr}(k:Upd No h h')(i:TreeIs W h kind x t l):TreeIs W h' kind x t l:=
 i.imp (fun⟨e,b,e2,t⟩=>⟨e,b,e2,TrieAt.upd0 k t⟩) fun⟨e,b,e2,t⟩=>⟨e,b,e2,t.upd0 k⟩
theorem TreeIs.less{W W':Nat→Prop}{h:ad}(hm:∀b,W' b→W b∨h.size≤b){kind:Int}{x:Hs}{t:Tr}{l:List Pr}(i:TreeIs W h kind x t l):TreeIs W' h kind x t l:=
 i.imp (fun⟨e,b,e2,t⟩=>⟨e,b,e2,TrieAt.less hm t⟩) fun⟨e,b,e2,t⟩=>⟨e,b,e2,t.less hm⟩
theorem TreeIs.updM{W M:Nat→Prop}{h h':ad}(k:Upd M h h')(hm:∀b,M b→W b∨h.size≤b){kind:Int}{x:Hs}{t:Tr}{l:List Pr}(i:TreeIs W h kind x t l):TreeIs W h' kind x t l:=
 i.imp (fun⟨e,b,e2,t⟩=>⟨e,b,e2,TrieAt.updM k hm t⟩) fun⟨e,b,e2,t⟩=>⟨e,b,e2,t.updM k hm⟩
theorem TreeIs.pro{W:Nat→Prop}{h a:ad}(k:Upd No h a){kind:Int}{x:Hs}{t:Tr}{l:List Pr}(i:TreeIs W h kind x t l):TreeIs (Pro W h a) a kind x t l:=(i.less Pro.hm).upd0 k
theorem IC{W:Nat→Prop}{x:Hs}{h:ad}(d:∀y,W y→y<h.size){K:Option Addr→ad→Prop}(c:∀h' b,TrieAt W x h' 13 b []→Upd No h h'→K (some ⟨b,0,none⟩) h'):HC PG qH [] [.c .ptr] K h:=by
 refine AD ?_;unfold vJ;exact sB d fun h' b nd a=>c h' b (Mj nd) a
abbrev Dx:Tr:=(0,0,0,0,none,none)
theorem My{W:Nat→Prop}{x:Hs}{h:ad}{r:Option Addr}{l:List Pr}(t:RootAt W x h r l)(p:∀y,W y→y<h.size){K:Tr→ad→Prop}(s:∀h' t,TreeIs W h' 0 x t l→Upd No h h'→K t h'):HC PG tq [.agg #[.int .u64 x.k0,.int .u64 x.k1,.int .u64 x.mask],.pointer r] [.agg [.int .i64,.int .u64,.int .u64,.int .u64,.ptr,.ptr]] K h:=by
 refine HO (x.k0,x.k1,x.mask) r ?_;unfold zB aj fx ae Ac ao qc xT;refine cH fun m b1 k1=>cH fun n b2 k=>?_
 have v:=bB b1;have w:=bB b2;have d:=k1.tr k;refine Join.intro (fun t h'=>Upd No n h'∧∃b,t=some ⟨b,0,none⟩∧TrieAt (Pro W h n) x h' 13 b l) (fun R j=>?_) ?_
 ·rcases t with⟨rfl,rfl⟩|⟨b,rfl,t⟩
  ·exact aA.2 (IC (Pro.lt p d) fun q b t a=>j _ _ ⟨a,b,rfl,t⟩)
  ·exact af.2 (j _ _ ⟨Upd.refl _ _,b,rfl,TrieAt.upd0 d (TrieAt.less Pro.hm t)⟩)
 ·rintro i q ⟨a,b,rfl,i⟩
  have c1:=a.get0 (k.get0 b1);refine⟨_,vc c1 0,_,vc c1 1,_,vc c1 2,?_⟩;refine dd (c:=pU Dx) (vs:=pU (0,x.k0,x.k1,x.mask,some ⟨b,0,none⟩,none)) (a.get0 b2) rfl fun u e f=>?_
  refine⟨_,vc e 0,_,vc e 1,_,vc e 2,_,vc e 3,_,vc e 4,_,vc e 5,?_⟩;have g:h.size≤m.size:=k1.size;exact s u _ (.inl ⟨rfl,b,rfl,TrieAt.less Pro.sub (TrieAt.updM f (fun y o=>.inl (.inr (by have o:y=m.size:=o;omega))) i)⟩) ((d.tr a).own f g)
theorem Mx{W:Nat→Prop}{x:Hs}{h:ad}{r:Option Addr}{l:List Pr}(t:RadRoot W h r l)(o:∀y,W y→y<h.size){K:Tr→ad→Prop}(n:∀h' t,TreeIs W h' 1 x t l→Upd No h h'→K t h'):HC PG tp [.pointer r] [.agg [.int .i64,.int .u64,.int .u64,.int .u64,.ptr,.ptr]] K h:=by
 refine HN r ?_;unfold zA aj fx ae ao qc xT;refine cH fun j b2 d=>?_
 have q:=bB b2;refine Join.intro (fun t h'=>Upd No j h'∧∃b,t=some ⟨b,0,none⟩∧RadAt (Pro W h j) h' b l) (fun R i=>?_) ?_
 ·rcases t with⟨rfl,rfl⟩|⟨b,rfl,t⟩
  ·exact aA.2 (Gz (Pro.lt o d) fun m b t a=>i _ _ ⟨a,b,rfl,t⟩)
  ·exact af.2 (i _ _ ⟨Upd.refl _ _,b,rfl,(t.less Pro.hm).upd0 d⟩)
 ·rintro g m ⟨a,b,rfl,g⟩
  refine dd (c:=pU Dx) (vs:=pU (1,0,0,0,none,some ⟨b,0,none⟩)) (a.get0 b2) rfl fun p e f=>?_
  refine⟨_,vc e 0,_,vc e 1,_,vc e 2,_,vc e 3,_,vc e 4,_,vc e 5,?_⟩;exact n p _ (.inr ⟨rfl,b,rfl,(g.updM f (fun y k=>.inl (.inr (by have k:y=h.size:=k;omega)))).less Pro.sub⟩) ((d.tr a).own f (au _))
theorem Ws{W:Nat→Prop}{x:Hs}{h:ad}(n:∀y,W y→y<h.size){kind:Int}(i:kind=0∨kind=1){K:Tr×Int→ad→Prop}(q:∀h' t,TreeIs W h' kind x t []→Upd No h h'→K (t,0) h'):HC PG Bf [.int .i64 kind,.agg #[.int .u64 x.k0,.int .u64 x.k1,.int .u64 x.mask]] [.agg [.int .i64,.int .u64,.int .u64,.int .u64,.ptr,.ptr],.c (.int .i64)] K h:=by
 refine Qw kind (x.k0,x.k1,x.mask) ?_;unfold HR aj fx rD ae Ac ao qc mP;refine cH fun k b1 k1=>cH fun p b2 o=>?_
 have u:=bB b1;have v:=bB b2;have e:=k1.tr o;have f:h.size≤k.size:=k1.size;have c1:=o.get0 b1;rcases i with rfl|rfl
 ·refine aA.2 ⟨_,vc c1 0,_,vc c1 1,_,vc c1 2,?_⟩
  refine My (W:=Pro W h p) (x:=x) (l:= []) (.inl ⟨rfl,rfl⟩) (Pro.lt n e) fun s t j d=>?_
  refine dd (c:=pU Dx) (vs:=pU t) (d.get0 b2) rfl fun m a b=>?_
  refine⟨_,vc a 0,_,vc a 1,_,vc a 2,_,vc a 3,_,vc a 4,_,vc a 5,?_⟩;exact q m t ((j.updM b (fun y g=>.inl (.inr (by have g:y=k.size:=g;omega)))).less Pro.sub) ((e.tr d).own b f)
 ·refine af.2 (aA.2 ?_)
  refine Mx (W:=Pro W h p) (x:=x) (l:= []) (.inl ⟨rfl,rfl⟩) (Pro.lt n e) fun s t j d=>?_
  refine dd (c:=pU Dx) (vs:=pU t) (d.get0 b2) rfl fun m a b=>?_
  refine⟨_,vc a 0,_,vc a 1,_,vc a 2,_,vc a 3,_,vc a 4,_,vc a 5,?_⟩;exact q m t ((j.updM b (fun y g=>.inl (.inr (by have g:y=k.size:=g;omega)))).less Pro.sub) ((e.tr d).own b f)
theorem Jy{k v:ByteArray}(c:k.size≤256)(b:v.size≤4096){h:ad}{K:Int→ad→Prop}(a:K 0 h):HC PG sG [.string k,.string v] [.c (.int .i64)] K h:=by
 refine LR k v ?_;unfold Dg;refine aF (fun h=>absurd h (by omega)) fun _=>aF (fun h=>absurd h (by omega)) fun _=>a
theorem Mw{W:Nat→Prop}{x:Hs}{h:ad}{kind:Int}{t:Tr}{l:List Pr}(i:TreeIs W h kind x t l)(L:∀y,W y→y<h.size)(I:eY l)(O:l.length≤1000000)(p:Pr)(w:p.1.size≤256)(C:p.2.size≤4096){K:Tr×Int→ad→Prop}
  (H:∀h' t',TreeIs W h' kind x t' (j8 p l)→(p∈l→t'=t)→Upd No h h'→K (t',0) h'):HC PG mU [RU t,.pointer none,.agg #[.string p.1,.string p.2]] [.agg [.int .i64,.int .u64,.int .u64,.int .u64,.ptr,.ptr],.c (.int .i64)] K h:=by
 refine Eb t none p ?_;unfold wz aj ah fx ez bM rD ae ao qc mP hG xT mL pW;refine cH fun G b1 k1=>cH fun D b2 E=>cH fun V b3 v=>?_
 have Q:=bB b1;have T:=bB b2;have X:=bB b3;have U:h.size≤G.size:=k1.size;have S:G.size≤D.size:=E.size;have R:=v.size;have o:=(k1.tr E).tr v;have n:=v.get0 (E.get0 b1);have s:=v.get0 b2;have J:=i.pro o;have u:=Pro.lt L o;refine⟨_,vc s 0,_,vc s 1,Jy w C (af.2 ?_)⟩;rcases J with⟨rfl,b,rfl,A⟩|⟨rfl,b,rfl,A⟩
 ·refine⟨_,vc n 0,af.2 ⟨_,Aa n 1 0,_,Aa n 1 1,_,Aa n 1 2,_,vc n 4,p.1,vc s 0,p.2,vc s 1,?_⟩⟩
  refine N1 (.inr ⟨b,rfl,A⟩) u I O p fun P q a F d=>?_
  refine oz (i:=4) (c':=(pU (0,x.k0,x.k1,x.mask,some ⟨q,0,none⟩,none)).toArray) (a.get0 n) (show 4<6 by decide) rfl fun N j f=>?_
  refine⟨_,vc j 0,_,vc j 1,_,vc j 2,_,vc j 3,_,vc j 4,_,vc j 5,?_⟩;refine dd (c:=pU Dx) (vs:=pU (0,x.k0,x.k1,x.mask,some ⟨q,0,none⟩,none)) (f.oth (a.get0 b3) (by omega)) rfl fun z g k=>?_
  refine⟨_,vc g 0,_,vc g 1,_,vc g 2,_,vc g 3,_,vc g 4,_,vc g 5,?_⟩;refine H z _ (.inl ⟨rfl,q,rfl,TrieAt.less Pro.sub (TrieAt.updM k (fun y m=>.inl (.inr (by have m:y=D.size:=m;omega))) (TrieAt.updM f (fun y m=>.inl (.inr (by have m:y=h.size:=m;omega))) F))⟩) (fun hm=>?_) (((o.tr a).own f (au _)).own k (by omega))
  rcases d hm with e|e
  ·rw[e]
  ·cases e
 ·refine⟨_,vc n 0,aA.2 ⟨_,vc n 5,p.1,vc s 0,p.2,vc s 1,?_⟩⟩
  refine MQ (.inr ⟨b,rfl,A⟩) u I p (by omega) fun P q B a F d=>?_
  refine oz (i:=5) (c':=(pU (1,0,0,0,none,some ⟨q,0,none⟩)).toArray) (a.get0 n) (show 5<6 by decide) rfl fun N j f=>?_
  refine⟨_,vc j 0,_,vc j 1,_,vc j 2,_,vc j 3,_,vc j 4,_,vc j 5,?_⟩;refine dd (c:=pU Dx) (vs:=pU (1,0,0,0,none,some ⟨q,0,none⟩)) (f.oth (a.get0 b3) (by omega)) rfl fun z g k=>?_
  refine⟨_,vc g 0,_,vc g 1,_,vc g 2,_,vc g 3,_,vc g 4,_,vc g 5,?_⟩;refine H z _ (.inr ⟨rfl,q,rfl,((F.updM f (fun y m=>.inl (.inr (by have m:y=h.size:=m;omega)))).updM k (fun y m=>.inl (.inr (by have m:y=D.size:=m;omega)))).less Pro.sub⟩) (fun hm=>?_) (((o.tr a).own f (au _)).own k (by omega))
  rcases d hm with e|e
  ·rw[e]
  ·cases e
end Go.Proofs
namespace Go.Proofs
open Go Go.Lift Go.RowKit
theorem HC.shelf{f:FuncId}{args:List Value}{ks:List Kind}{K:uC ks→ad→Prop}{h:ad}(hc:∀(args:Array Value) (w:World),(callFunc f args).run PG w=.ok (.enter f args) w)
 (g:∀w:World,w.heap=h→Calls PG f args.toArray w fun e w'=>Tame w w'∧∃t:uC ks,e=.returned (B9 ks (mB ks t))∧K t w'.heap):HC PG f args ks K h:=⟨fun w a=>.inl ⟨hc _ w,g w a⟩⟩
theorem HC.same{f:FuncId}{args:List Value}{ks:List Kind}{K:uC ks→ad→Prop}{h:ad}{v:Value}(hc:∀(args:Array Value) (w:World),(callFunc f args).run PG w=.ok (.enter f args) w)(t:uC ks)(c:v=B9 ks (mB ks t))
  (g:∀w:World,Calls PG f args.toArray w fun e w'=>e=.returned v∧w'=w)(i:K t h):HC PG f args ks K h:=
 HC.shelf hc fun w d=>(g w).mono fun e w' ⟨b,a⟩=>by subst a;exact⟨⟨rfl,rfl,rfl⟩,t,by rw[b,c],by rw[d];exact i⟩
theorem Cr{s:ByteArray}{c:UInt8}{h:ad}{K:Int→ad→Prop}(a:K (Lib.indexByte s.data.toList c) h):HC PG qj [.string s,.int .u8 (c.toNat:Int)] [.c (.int .i64)] K h:=
 HC.same (v:=.int .i64 (Lib.indexByte s.data.toList c)) Tryz.call37 (Lib.indexByte s.data.toList c) rfl (fun w=>by
  have:=Any.strings_IndexByte Iw s (c.toNat:Int) w
  rw[show((c.toNat:Int).toNat.toUInt8)=c from by rw[ak];exact UInt8.ofNat_toNat]at this
  exact this) a
theorem JP{s:ByteArray}{c:UInt8}{h:ad}{K:Int→ad→Prop}(a:K (Lib.indexByte s.data.toList c) h):HC PG w9 [.string s,.string ⟨#[c]⟩] [.c (.int .i64)] K h:=
 HC.same (v:=.int .i64 (Lib.indexByte s.data.toList c)) Tryz.call114 (Lib.indexByte s.data.toList c) rfl (fun w=>Any.strings_Index_one It s c w) a
theorem Ta{s:ByteArray}{c:UInt8}{h:ad}{K:Int→ad→Prop}(a:K ((s.data.toList.count c:Nat):Int) h):HC PG CA [.string s,.string ⟨#[c]⟩] [.c (.int .i64)] K h:=
 HC.same (v:=.int .i64 ((s.data.toList.count c:Nat):Int)) Tryz.call113 ((s.data.toList.count c:Nat):Int) rfl (fun w=>Any.strings_Count_one Iu s c w) a
theorem x72:Builder.X72 PG KM:=⟨by kernel_rfl,by kernel_rfl⟩
theorem Lx{h:ad}{b:Nat}{p:Option Addr}{v:Value}(d:h[b]? =some (.cells #[.pointer p,v] g9 (0,0))) (j:p=none∨p=some ⟨b,0,none⟩) {K:Unit→ad→Prop}
  (i:∀h',h'[b]? =some (.cells #[.pointer (some ⟨b,0,none⟩),v] g9 (0,0))→Upd (· =b) h h'→K () h'):HC PG nS [.pointer (some ⟨b,0,none⟩)] [] K h:=by
 rcases j with rfl|rfl
 ·refine HC.shelf Tryz.call74 fun w g=>?_
  subst g;refine(Any.Builder_copyCheck_fresh AA x72 b w (by simp[World.cell?,d]) (by simp[World.shape?,d];rfl) (by simp[World.frozen?,d])).mono fun e w' ⟨f,c⟩=>?_
  subst c;refine⟨⟨rfl,rfl,rfl⟩,(),f,i _ ?_ (Upd.hset (M:=(· =b)) w.heap (a:=⟨b,0,none⟩) (.pointer (some ⟨b,0,none⟩)) rfl)⟩
  simp[World.setCell,jt,d]
 ·refine HC.shelf Tryz.call74 fun w g=>?_
  subst g;refine(Any.Builder_copyCheck_used AA x72 b w (by simp[World.cell?,d])).mono fun e w' ⟨f,c⟩=>?_
  subst c;exact⟨⟨rfl,rfl,rfl⟩,(),f,i _ d (Upd.refl _ _)⟩
structure Bld(M:Nat→Prop)(h:ad)(b:Nat)(bs:List UInt8):Prop where
 ex:∃(p:Option Addr) (s:SliceV),h[b]? =some (.cells #[.pointer p,.slice s.a s.len s.cap] g9 (0,0))∧(p=none∨p=some ⟨b,0,none⟩)∧OwnS Ki 1 kU M h s bs∧(s.a=none∨s.cap≠0)
 nb:¬M b
section
variable {M:Nat→Prop} {h:ad} {b:Nat} {bs:List UInt8}
theorem BV(f:Bld M h b bs)(hM:∀y,h.size≤y→M y){c:UInt8}(q:bs.length+1≤140737488355328){K:Value→ad→Prop}(w:∀h',Bld M h' b (bs++ [c])→Upd (fun y=>y=b∨M y) h h'→K .nilIface h'):
  HC PG gY [.pointer (some ⟨b,0,none⟩),.int .u8 (c.toNat:Int)] [.c .raw] K h:=by
 obtain⟨p,s,t,u,n,x⟩:=f.ex;refine vF (some ⟨b,0,none⟩) (c.toNat:Int) ?_;unfold nY bM bT;refine Lx t u fun z d i=>⟨_,rfl,s,vc d 1,bi ?_⟩
 have j:=n.upd i fun y a e=>f.nb (by have e:y=b:=e;rwa [←e])
 refine HG rfl j (fun y a=>hM y (bv i.size a)) q fun s' A o k=>⟨_,rfl,oz (k.get d f.nb) (by simp) rfl fun v g m=>w v ⟨⟨_,s',g,.inr rfl,o.upd m fun y a e=>f.nb (by have e:y=b:=e;rwa [←e]),.inr ?_⟩,f.nb⟩ ?_⟩
 ·have:=o.cap
  have:=o.len;simp only[ai,ct]at this;omega
 ·exact((i.mono fun y a=>.inl (.inl a)).tr (k.mono fun y a=>.inl (.inr a))).tr (m.mono fun y a=>.inl (.inl a))
theorem Upd.hfreeze{h:ad}{g n:Nat}(d:M g):Upd M h (hfreeze h g n):=⟨by simp[Go.Lift.hfreeze],fun c _ b=>by
 unfold Go.Lift.hfreeze
 have a:g≠c:=fun e=>b (by rw[←e];exact d)
 rw[jt,if_neg a]⟩
theorem Cy:∀l:List UInt8,l.flatMap Ki=l.map fun b=>Value.int .u8 (b.toNat:Int)
 | []=>rfl
 |a::l=>by rw[List.flatMap_cons,List.map_cons,Cy l];rfl
theorem VG{l:List UInt8}{j:Nat}{x:UInt8}{r:List Value}(h:l[j]? =some x):(l.flatMap Ki++r).toArray[j]? =some (.int .u8 (x.toNat:Int)):=by
 rw[dM,Cy,List.getElem?_append_left (by simpa using(List.getElem?_eq_some_iff.1 h).1),List.getElem?_map,h];rfl
theorem LC(e:Bld M h b bs)(w:bs.length≤140737488355328){K:ByteArray→ad→Prop}(k:∀h',Upd M h h'→K (aG bs) h'):
  HC PG lL [.pointer (some ⟨b,0,none⟩)] [.c .str] K h:=by
 obtain⟨p,s,a,z,c,q⟩:=e.ex;have m:=c.len;refine yf (some ⟨b,0,none⟩) ?_;unfold p6 bT;refine⟨_,rfl,s,vc a 1,q,_,rfl,s,vc a 1,?_⟩;by_cases d:bs= []
 ·subst d
  exact .inl ⟨by rw[m];rfl,vc a 1,vc a 1,k h (Upd.refl _ _)⟩
 ·rcases c.blk with y|⟨g,i,v,t,hc,A⟩
  ·have:=c.cap
   exact absurd (bj.1 (by omega)) d
  ·have u:=Upd.hfreeze (h:=h) (n:=bs.length) t
   refine .inr ⟨bs,g,_,v,by rw[m],d,by omega,hc,?_,fun j x o=>VG o,vc (u.get a e.nb) 1,vc (u.get a e.nb) 1,k _ u⟩
   rw[cP,ai];have:(bs.flatMap Ki).length=bs.length*1:=mw (f:=Ki) (fun x=>rfl) bs
   omega
end
end Go.Proofs
namespace Go.Proofs
open Go Go.Lift
theorem Tf{h a:ad}{o:Nat}{cs:Array Value}{t:TypeId}{c:Nat×Nat}(b:a[h.size]? =some (.cells cs t c)) (i:Nat):aD a (adr (aH h) i)=cs[i]?:=by
 unfold aH;rw[ce,aP];simp[aD,b]
theorem nib(v:UInt8):gi (v.toNat:Int) (2^(min (4:Int).toNat (ag .u8)))=((v.toNat/16:Nat):Int)∧ac .u8 (aq (ag .u8) (v.toNat:Int)&&&aq (ag .u8) 15).toNat=((v.toNat%16:Nat):Int):=by
 have key:∀n:Fin 256,gi (n.val:Int) (2^(min (4:Int).toNat (ag .u8)))=((n.val/16:Nat):Int)∧ac .u8 (aq (ag .u8) (n.val:Int)&&&aq (ag .u8) 15).toNat=((n.val%16:Nat):Int):=by decide+kernel
 exact key ⟨v.toNat,v.toNat_lt⟩
theorem wY{x:ByteArray}(hx:x.size≤1000000){h:ad}{K:ByteArray→ad→Prop}(k:∀h',Upd No h h'→K (aG (lI x.data.toList)) h'):HC PG fP [.string x] [.c .str] K h:=by
 refine QG x ?_;unfold H3 bf cU zl7 OZ;have J:=nr x;rw[Cj];refine aF (fun e=>?_) fun e=>?_
 ·have:=k h (Upd.refl _ _)
  rw[e]at this;exact this
 rw[lI,if_neg e]at k;have k1:=Upd.hnew No h [.pointer none,.slice none 0 0] g9;have b1:=bF h [.pointer none,.slice none 0 0] g9;have B:=eN h [.pointer none,.slice none 0 0] g9;refine bi ?_;generalize hnew h [.pointer none,.slice none 0 0] g9=h1 at k1 b1 B;refine fun c hc=>?_
 have n:=Upd.push No h1 (.cells (cL x++bC (c-x.size) (Value.int .u8 0)).toArray kU (c,c+1));have b3:=mo h1 (.cells (cL x++bC (c-x.size) (Value.int .u8 0)).toArray kU (c,c+1));have F:(h1.push (.cells (cL x++bC (c-x.size) (Value.int .u8 0)).toArray kU (c,c+1))).size=h1.size+1:=by simp
 generalize h1.push (.cells (cL x++bC (c-x.size) (Value.int .u8 0)).toArray kU (c,c+1))=h3 at n b3 F;refine LoopP.ghost (fun(i:Nat) (t:Int) j=>t=(i:Int)∧i≤x.size∧Bld (fun y=>h3.size≤y) j h.size (xX (x.data.toList.take i))∧Upd (· =h.size) h3 j) (fun i=>x.size-i) 0 ⟨rfl,bc _,⟨⟨none,⟨none,0,0⟩,n.get0 b1,.inl rfl,OwnS.nil D7,.inl rfl⟩,by omega⟩,Upd.refl _ _⟩ ?_
 rintro I i t j ⟨rfl,hi,m,u⟩ G;refine aF (fun a=>?_) fun g=>?_
 ·have a:i<x.size:=by have:(i:Int)<(x.size:Int):=a;omega
  obtain⟨v,O,z,C⟩:=Qn a;obtain⟨w,s⟩:=nib v;have N:=v.toNat_lt;have L:=u.size;refine⟨⟨by omega,by omega⟩,_,rfl,(v.toNat:Int),?_,by decide,sE (v.toNat/16),by rw[w];omega,by rw[w,ak];exact KF (by omega),?_⟩
  ·rw[ak,Nat.mul_one,Tf (o:=0) (u.get b3 (by omega)),oU]
   exact VG z
  have d:=wa (x.data.toList.take i);have H:(x.data.toList.take i).length=i:=by rw[aY];omega
  refine BV m (fun y f=>by omega) (by omega) fun R p q=>F6 ⟨sE (v.toNat%16),by rw[s];omega,by rw[s,ak];exact KF (by omega),?_⟩
  have Q:=q.size;refine BV p (fun y f=>by omega) (by simp only[ai,ct];omega) fun P b E=>?_
  rw[cM a (by omega)];refine G (i+1) _ _ ⟨rfl,a,?_,?_⟩ (by omega)
  ·rw[C,NB]
   rw[aK]at b;exact b
  ·exact(u.trans q fun y f=>by omega).trans E fun y f=>by omega
 ·have hi:i=x.size:=by have:¬(i:Int)<(x.size:Int):=g;omega
  rw[hi,←J,bG]at m;have d:=wa x.data.toList;refine LC m (by omega) fun A D=>k A ?_
  exact((k1.tr n).trans u fun y f=>by omega).trans D fun y f=>by omega
theorem Un(c:UInt8):Lib.indexByte sgn16.data.toList c=if qq c<16 then(qq c:Int)else-1:=by
 have key:∀n:Fin 256,Lib.indexByte sgn16.data.toList (cp n.val)=if qq (cp n.val)<16 then(qq (cp n.val):Int)else-1:=by decide+kernel
 have:=key ⟨c.toNat,c.toNat_lt⟩;rwa [UInt8.ofNat_toNat]at this
theorem aaC{a b:Nat}(c:a<16)(d:b<16):ac .u8 (ac .i64 (aq (ag .i64) (ac .i64 ((a:Int)*2^(min (4:Int).toNat (ag .i64))))|||aq (ag .i64) (b:Int)).toNat)=((cp (16*a+b)).toNat:Int):=by
 have key:∀a b:Fin 16,ac .u8 (ac .i64 (aq (ag .i64) (ac .i64 ((a.val:Int)*2^(min (4:Int).toNat (ag .i64))))|||aq (ag .i64) (b.val:Int)).toNat)=((cp (16*a.val+b.val)).toNat:Int):=by decide+kernel
 exact key ⟨a,c⟩ ⟨b,d⟩
theorem T2{x:ByteArray}(hx:x.size≤1000000){h:ad}{K:ByteArray×Bool→ad→Prop}(f:∀h',Upd No h h'→K (WM (iP x.data.toList)) h'):HC PG sJ [.string x] [.c .str,.c .bool] K h:=by
 refine LZ x ?_;unfold Dn ZR;have L:=nr x;rw[JC,Cj];refine aF (fun e=>?_) fun e=>?_
 ·have:=f h (Upd.refl _ _)
  rw[iP,if_pos e]at this;exact this
 rw[iP,if_neg e]at f;refine Join.plain (aF (fun s=>aA.2 ?_) fun s=>⟨by decide,CondP.intro (fun e1=>?_) fun e1=>?_⟩)
 ·have:=f h (Upd.refl _ _)
  rw[if_pos s]at this;exact this
 ·have e1:iL (x.size:Int) 2=1:=by simpa using e1
  rw[fc (by omega)]at e1;have:=f h (Upd.refl _ _);rw[if_neg s,AW _ (by omega)]at this;exact this
 ·have e1:iL (x.size:Int) 2≠1:=by simpa using e1
  rw[fc (by omega)]at e1;rw[if_neg s]at f;have J:ac .i64 (wM (x.size:Int) 2)=((x.size/2:Nat):Int):=by rw[mE (by omega),kD (by omega)];omega
  refine⟨by decide,?_⟩;refine LoopP.ghost (fun(g:Nat×List UInt8) (t:SliceV×Int) h'=>t.2=(g.1:Int)∧2*g.1≤x.size∧fY (x.data.toList.take (2*g.1))=some g.2∧g.2.length=g.1∧OwnS Ki 1 kU (fun y=>h.size≤y) h' t.1 g.2∧Upd No h h') (fun g=>x.size-g.1) (0,[]) ⟨rfl,bc _,rfl,rfl,OwnS.nil D7,Upd.refl _ _⟩ ?_
  rintro I ⟨i,out⟩ ⟨P,N⟩ h' ⟨e2,hi,n,w,B,v⟩ F;simp only at e2 hi n w B;subst e2;rw[J];refine aF (fun j=>?_) fun z=>?_
  ·have j:i<x.size/2:=by have:(i:Int)<((x.size/2:Nat):Int):=j;omega
   obtain⟨a,b,G,b1,d,t⟩:=XH (x:=x) (i:=2*i) (by omega);have H:ac .i64 (2*(i:Int))=((2*i:Nat):Int):=by rw[kD (by omega)];omega
   have C:ac .i64 (((2*i:Nat):Int)+1)=((2*i+1:Nat):Int):=by rw[kD (by omega)];omega
   have k:fY x.data.toList=(fY (a::b::x.data.toList.drop (2*i+2))).map (out++ ·):=by
    have E:=sU (x.data.toList.take (2*i)) (x.data.toList.drop (2*i)) (by rw[aY];omega);rw[bQ,n,d]at E;exact E
   simp only[H];have m:¬(qq a<16∧qq b<16)→K (aG [],false) h':=fun w=>by
    have:=f h' v;rw[k]at this;unfold fY at this;rw[if_neg w]at this;exact this
   have O:=v.size;refine Join.plain ⟨a,by omega,G,b,by rw[C];omega,by rw[C];exact b1,Cr (Cr ?_)⟩
   rw[Un,Un];refine Join.plain ?_;by_cases q:qq a<16
   ·rw[if_pos q]
    refine aF (fun c=>absurd c (by omega)) fun _=>?_
    by_cases p:qq b<16
    ·rw[if_pos p]
     refine aF (fun c=>absurd c (by omega)) fun _=>⟨by decide,F6 (F6 (bi ?_))⟩
     rw[aaC q p];refine HG (b:=cp (16*qq a+qq b)) rfl B (fun y D=>by omega) (by omega) fun s' A o u=>?_
     show I (s',ac .i64 ((i:Int)+1)) A
     rw[cM j (by omega)];refine F (i+1,out++ [cp (16*qq a+qq b)]) _ _ ⟨rfl,by simp only;omega,?_,by simp[w],o,v.trans u fun y D=>.inr D⟩ (by simp only;omega)
     rw[show 2*(i+1)=2*i+2 from by omega,t,sU _ _ (by rw[aY];omega),n]
     simp only[fY,if_pos (show qq a<16∧qq b<16 from⟨q,p⟩)]
     rfl
    ·rw[if_neg p]
     exact aF (fun _=>m (by omega)) fun c=>absurd (by decide:(-1:Int)<0) c
   ·rw[if_neg q]
    exact aF (fun _=>aA.2 (m (by omega))) fun c=>absurd (by decide:(-1:Int)<0) c
  ·have hi:2*i=x.size:=by have:¬(i:Int)<((x.size/2:Nat):Int):=z;omega
   rw[hi,←L,bG]at n;rw[n]at f;refine⟨aG out,?_,f h' v⟩;rw[oU];simpa using(B.sl (W:=No) fun _ _ _ h=>h).srow
end Go.Proofs
