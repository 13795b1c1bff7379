/- A part of the proof that the named laws of this program answer true, whatever the input. -/
import Derived.Test.YtncppacbfagpgaaGreatDoorPart4
import Derived.Test.YtncppacbfagpgaaGreatDoorPart8
import Derived.Test.YtncppacbfagpgaaGreatDoorPart6
open Array renaming size→bF
open BitVec renaming ofInt→ap,ofInt_natCast→gc
open Int renaming tmod→eX
open List renaming getElem?_eq_getElem→ai,pairwise_iff_getElem→co,length_append→ac,flatten_append→fB,getElem_mem→bE,take_length→cx
open Nat renaming testBit_zero→iX,testBit_succ→fS,eq_zero_or_pos→bT,zero_testBit→fg,eq_of_testBit_eq→gb,testBit_and→gm,mod_eq_of_lt→eB,zero_add→aF,le_refl→ao,zero_le→bi,lt_or_ge→bR,le_trans→bN
namespace Go.Proofs
theorem Ly:∀{n x:Nat},x<2^n→0<x→∃c,c<n∧x.testBit c=true∧∀j,j<c→x.testBit j=false
 |0,x,h,h'=>by simp at h;omega
 |n+1,x,h,h'=>by
  by_cases e:x%2=1
  ·exact⟨0,by omega,by rw[iX];simpa using e,fun j hj=>absurd hj (Nat.not_lt_zero _)⟩
  ·obtain⟨c,h1,h2,h3⟩:=Ly (n:=n) (x:=x/2) (by rw[Nat.pow_succ]at h;omega) (by omega)
   refine⟨c+1,by omega,by rw[fS];exact h2,fun j hj=>?_⟩
   cases j with
   |zero=>rw[iX];simpa using e
   |succ j=>rw[fS];exact h3 j (by omega)
theorem A4:∀{c x:Nat},x.testBit c=true→(∀j,j<c→x.testBit j=false)→∀i,(x-1).testBit i=if i<c then true else if i=c then false else x.testBit i
 |0,x,h,_,i=>by
  have h:x%2=1:=by rw[iX]at h;simpa using h
  cases i with
  |zero=>rw[iX,if_neg (by omega),if_pos rfl];simp;omega
  |succ i=>rw[fS,fS,if_neg (by omega),if_neg (by omega)];congr 1;omega
 |c+1,x,h,hl,i=>by
  have h0:=hl 0 (by omega);rw[iX]at h0;have h1:¬x%2=1:=by simpa using h0
  have h0:x%2=0:=by omega
  rw[fS]at h;have hpos:0<x/2:=by
   rcases bT (x/2)with e|e
   ·rw[e,fg]at h;cases h
   ·exact e
  cases i with
  |zero=>rw[iX,if_pos (by omega)];simp;omega
  |succ i=>
   have:=A4 (x:=x/2) h (fun j hj=>by have:=hl (j+1) (by omega);rwa [fS]at this) i
   rw[fS,fS,show(x-1)/2=x/2-1 by omega,this]
   simp only[Nat.add_lt_add_iff_right,Nat.add_right_cancel_iff]
theorem ML{c x:Nat}(h:x.testBit c=true)(hl:∀j,j<c→x.testBit j=false)(hc:c<32)(hx:x<4294967296):x&&&(4294967296-x)=2^c:=by
 have hp:0<x:=by
  rcases bT x with e|e
  ·rw[e,fg]at h;cases h
  ·exact e
 refine gb fun i=>?_
 have e:4294967296-x=2^32-((x-1)+1):=by omega
 rw[gm,e,Nat.testBit_two_pow_sub_succ (by omega),A4 h hl,Nat.testBit_two_pow];by_cases h1:i<c
 ·rw[if_pos h1,hl i h1];simp;omega
 ·rw[if_neg h1]
  by_cases h2:i=c
  ·subst h2;simp[h,hc]
  ·rw[if_neg h2]
   cases x.testBit i<;>simp<;>omega
theorem Kv{c x:Nat}(h:x.testBit c=true)(hl:∀j,j<c→x.testBit j=false)(i:Nat):(x&&&(x-1)).testBit i=(x.testBit i&&decide (c<i)):=by
 rw[gm,A4 h hl];by_cases h1:i<c
 ·rw[if_pos h1,hl i h1];rfl
 ·rw[if_neg h1]
  by_cases h2:i=c
  ·subst h2;simp
  ·rw[if_neg h2]
   have:c<i:=by omega
   simp[this]
end Go.Proofs
namespace Go.Proofs
open Go Go.Lift
def wl(x:Hs):Nat→List Pr→List Pr
 |0,l=>l
 |m+1,l=>fZ x (12-m) l++(mJ x (12-m) l).flatMap (wl x m)
def cw(x:Hs):Nat→List Pr→Nat
 |0,_=>2
 |m+1,l=>2+((mJ x (12-m) l).map (cw x m)).sum
structure Fr where
 sp:SliceV
 sk:SliceV
 n:Nat
 ps:List Pr
 ks:List (Nat×List Pr)
def Fr.raw(f:Fr):SliceV×SliceV:=(f.sp,f.sk)
def Fr.rem(x:Hs)(f:Fr):List Pr:=f.ps++f.ks.flatMap fun k=>wl x (f.n-1) k.2
def Fr.cost(x:Hs)(f:Fr):Nat:=1+(f.ks.map fun k=>cw x (f.n-1) k.2).sum
abbrev Oz(k:Nat×List Pr):Option Addr:=some ⟨k.1,0,none⟩
structure Fr.Ok(W G:Nat→Prop)(x:Hs)(h:ae)(f:Fr):Prop where
 p:Sl eG 2 (fun y=>¬G y) h f.sp f.ps
 k:Sl pf 1 (fun y=>¬G y) h f.sk (f.ks.map Oz)
 pc:f.sp.len≤f.sp.cap
 kc:f.sk.len≤f.sk.cap
 t:∀k∈f.ks,TrieAt W x h (f.n-1) k.1 k.2∧k.2.length≤100000
 n0:f.ks≠[]→0<f.n
 n13:f.n≤13
theorem Fr.Ok.upd{W G M:Nat→Prop}{x:Hs}{h h':ae}{f:Fr}(o:f.Ok W G x h)(k:Upd M h h')(hW:∀b,M b→W b∨h.size≤b)(hG:∀b,M b→¬G b∨h.size≤b):f.Ok W G x h':=
 ⟨o.p.upd k hG,o.k.upd k hG,o.pc,o.kc,fun q hq=>⟨TrieAt.updM k hW (o.t q hq).1,(o.t q hq).2⟩,o.n0,o.n13⟩
theorem Fr.Ok.sub{W G G':Nat→Prop}{x:Hs}{h:ae}{f:Fr}(o:f.Ok W G x h)(hG:∀b,G b→G' b):f.Ok W G' x h:=
 ⟨o.p.less fun b hb=>.inl fun hg=>hb (hG b hg),o.k.less fun b hb=>.inl fun hg=>hb (hG b hg),o.pc,o.kc,o.t,o.n0,o.n13⟩
end Go.Proofs
namespace Go.Proofs
open Go Go.Lift
end Go.Proofs
namespace Go.Proofs
open Go Go.Lift
def Below(W:Nat→Prop)(x:Hs)(h:ae)(m:Nat)(r:Option Addr)(l:List Pr):Prop:=(r=none∧l= [])∨∃b,r=some ⟨b,0,none⟩∧TrieAt W x h m b l
theorem Below.upd0{W:Nat→Prop}{x:Hs}{h h':ae}{m:Nat}{r:Option Addr}{l:List Pr}(k:Upd No h h')(t:Below W x h m r l):Below W x h' m r l:=t.imp id fun⟨b,e,t⟩=>⟨b,e,TrieAt.upd0 k t⟩
theorem Below.less{W W':Nat→Prop}{x:Hs}{h:ae}{m:Nat}{r:Option Addr}{l:List Pr}(hm:∀b,W' b→W b∨h.size≤b)(t:Below W x h m r l):Below W' x h m r l:=t.imp id fun⟨b,e,t⟩=>⟨b,e,TrieAt.less hm t⟩
theorem Below.updM{W M:Nat→Prop}{x:Hs}{h h':ae}{m:Nat}{r:Option Addr}{l:List Pr}(k:Upd M h h')(hm:∀b,M b→W b∨h.size≤b)(t:Below W x h m r l):Below W x h' m r l:=t.imp id fun⟨b,e,t⟩=>⟨b,e,TrieAt.updM k hm t⟩
end Go.Proofs
namespace Go.Proofs
open Go Go.Lift
abbrev tzL:List Nat:= [0,1,28,2,29,14,24,3,30,22,20,15,25,17,4,8,31,27,13,23,21,19,16,7,26,12,18,6,11,5,10,9]
def Tab(h:ae):Prop:=∀i,i<32→aE h ⟨0,i,none⟩=some (.int .u8 ((tzL.getD i 0:Nat):Int))
theorem Tab.upd{M:Nat→Prop}{h h':ae}(t:Tab h)(k:Upd M h h')(hm:¬M 0):Tab h':=fun i hi=>k.cell (t i hi) hm
theorem Nq:∀c:Fin 32,Int.fdiv (IntKind.wrap .u32 (IntKind.wrap .u32 ((2^c.val:Nat):Int)*125613361)) (2^(min (27:Int).toNat (IntKind.bits .u32)))=((2^c.val*125613361%4294967296/134217728:Nat):Int)∧2^c.val*125613361%4294967296/134217728<32∧tzL.getD (2^c.val*125613361%4294967296/134217728) 0=c.val:=by decide+kernel
theorem L8{a b:Nat}(ha:a<4294967296)(hb:b<4294967296):(ap (IntKind.bits .u32) (a:Int)&&&ap (IntKind.bits .u32) (b:Int)).toNat=a&&&b:=by
 rw[show IntKind.bits .u32=32 from rfl,gc,gc,BitVec.toNat_and,BitVec.toNat_ofNat,BitVec.toNat_ofNat,eB (show a<2^32 from ha),eB (show b<2^32 from hb)]
theorem N3{h:ae}(tb:Tab h){x c:Nat}(hx:x<4294967296)(hc:c<32)(hb:x.testBit c=true)(hl:∀j,j<c→x.testBit j=false){K:Int→ae→Prop}(hk:K (c:Int) h):HC PG gu [.int .u32 (x:Int)] [.c (.int .i64)] K h:=by
 refine pm x ?_;unfold j9 af cQ;have hp:0<x:=by
  rcases bT x with e|e
  ·rw[e,fg]at hb;cases hb
  ·exact e
 refine CondP.intro (fun e=>?_) fun _=>?_
 ·have e:(x:Int)=0:=by simpa using e
  omega
 have ew:IntKind.wrap .u32 (0-(x:Int))=((4294967296-x:Nat):Int):=by rw[IntKind.wrap_u32];omega
 rw[ew,L8 hx (by omega),ML hb hl hc hx];obtain⟨e1,e2,e3⟩:=Nq ⟨c,hc⟩;simp only at e1 e2 e3;simp only[Bd];rw[e1];refine⟨by decide,⟨by omega,by omega⟩,((tzL.getD (2^c*125613361%4294967296/134217728) 0:Nat):Int),?_,?_⟩
 ·rw[Nat.mul_one,bQ,aF,Int.toNat_natCast];exact tb _ e2
 ·rw[e3,fl (by omega)];exact hk
def dk(d k:Nat):Nat:=(d>>>k)<<<k
theorem yk(d k i:Nat):(dk d k).testBit i=(decide (k≤i)&&d.testBit i):=by
 unfold dk;rw[Nat.testBit_shiftLeft];by_cases h:k≤i
 ·rw[decide_eq_true (show i≥k from h),Nat.testBit_shiftRight];congr 2;omega
 ·rw[decide_eq_false (show ¬i≥k from h)];rfl
theorem Nm(d k:Nat):dk d k≤d:=by
 unfold dk;rw[Nat.shiftLeft_eq,Nat.shiftRight_eq_div_pow];exact Nat.div_mul_le_self ..
theorem MU(d:Nat):dk d 0=d:=gb fun i=>by rw[yk];simp
theorem Dx{d:Nat}(hd:d<4294967296){bb:Nat}{h:ae}(hb:h[bb]? =some (.cells #[.int .u32 (d:Int)] rN (0,0)))
  {BODY:Int→(Option Ex→ae→Prop)→ae→Prop} {N:ae→Prop} {X:Nat→ae→Prop} {R:ae→Prop} (Inv:Nat→ae→Prop) (M:Nat→Prop)
  (tab:∀k h1,Inv k h1→Tab h1) (h0:Inv 0 h) (stab:∀k h1 h2,Inv k h1→h.size≤h1.size→Upd (fun b=>b=bb∨h.size≤b) h1 h2→Inv k h2)
  (hM:∀b,M b→b≠bb∧b<h.size)
  (step:∀k c h1 (KK:Option Ex→ae→Prop),Inv k h1→k≤c→c<32→d.testBit c=true→(∀j,k≤j→j<c→d.testBit j=false)→(∀h2,Inv (c+1) h2→Upd M h1 h2→KK none h2)→BODY (c:Int) KK h1)
  (fin:∀k h1,Inv k h1→(∀j,k≤j→j<32→d.testBit j=false)→h1[h.size]? =some (.deferred (some []))→N h1):
  RangeP PG (.func (.func gR) #[] #[.pointer (some ⟨bb,0,none⟩)]) [.c (.int .i64)] h
   (fun Dw bz (x:Int) k h67=>(h67[(bF h+1)]? =some Dw∧At (Array.setIfInBounds h67 (bF h+1) bz) (fun h69=>BODY x k h69))) N X R:=by
 refine⟨fun lo hlo hround=>?_⟩
 refine⟨gR,#[],#[.pointer (some ⟨bb,0,none⟩)],rfl,?_⟩;have zb:=bD hb;have k1:Upd No h ((h.push (.deferred (some []))).push (lo .ready none)):=(Upd.push No _ _).tr (Upd.push No _ _);have l2:((h.push (.deferred (some []))).push (lo .ready none))[h.size+1]? =some (lo .ready none):=by
  have:=wm (h.push (.deferred (some []))) (lo .ready none);rwa [Array.size_push]at this
 have l1:((h.push (.deferred (some []))).push (lo .ready none))[h.size]? =some (.deferred (some [])):=(Upd.push No _ _).get0 (wm h _);have b1:=k1.get0 hb;have i1:=stab 0 _ _ h0 (ao _) k1.wide;have z1:=bD l2;generalize (h.push (.deferred (some []))).push (lo .ready none)=h1 at k1 l2 l1 b1 i1 z1;refine un (.func (.yield (h.size+1)) #[] #[]) ⟨bb,0,none⟩ ?_;unfold mq
 refine LoopP.ghost (fun(k:Nat) (_:Unit) h'=>Inv k h'∧h'[bb]? =some (.cells #[.int .u32 ((dk d k:Nat):Int)] rN (0,0))∧h'[h.size]? =some (.deferred (some []))∧h'[h.size+1]? =some (lo .ready none)∧k≤32) (fun k=>33-k) 0 ⟨i1,by rw[MU];exact b1,l1,l2,bi _⟩ ?_
 rintro I k ⟨⟩ h' ⟨hi,hb',hd',hl',hk32⟩ hI;have zz:=bD hl';have hdl:=Nat.lt_of_le_of_lt (Nm d k) hd;refine⟨_,aS hb',CondP.intro (fun e=>?_) fun e=>?_⟩
 ·have hne:0<dk d k:=by
   have:((dk d k:Nat):Int)≠0:=by simpa using e
   omega
  obtain⟨c,hc,hcb,hcl⟩:=Ly (n:=32) hdl hne;have hb2:=hcb;rw[yk,Bool.and_eq_true,decide_eq_true_iff]at hb2;refine⟨_,aS hb',N3 (tab k _ hi) hdl hc hcb hcl ?_⟩;refine hround (c:Int) h' _ hl' ⟨hl',?_⟩;have kb:Upd (· =h.size+1) h' (h'.setIfInBounds (h.size+1) (lo .busy none)):=Upd.set _ _ rfl
  have lb:=ia (o:=lo .busy none) hl';have sb:=kb.size;refine aX ?_;generalize h'.setIfInBounds (h.size+1) (lo .busy none)=h2 at kb lb sb;refine step k c h2 _ (stab k _ _ hi (by omega) (kb.mono fun b hb=>.inl (.inr (by omega)))) hb2.1 hc hb2.2 (fun j h1 h2=>?_) fun h3 hi3 hu3=>?_
  ·have:=hcl j h2
   rw[yk,decide_eq_true h1]at this;simpa using this
  have lb3:=hu3.get lb fun e=>by have:=(hM _ e).2;omega
  have hb3:=hu3.get (kb.get hb' (show ¬bb=h.size+1 by omega)) fun e=>(hM _ e).1 rfl
  have hd3:=hu3.get (kb.get hd' (show ¬h.size=h.size+1 by omega)) fun e=>by have:=(hM _ e).2;omega
  refine⟨lb3,?_⟩;have k5:Upd (· =h.size+1) h3 (h3.setIfInBounds (h.size+1) (lo .ready none)):=Upd.set _ _ rfl
  have l5:=ia (o:=lo .ready none) lb3;have hb5:=k5.get hb3 (show ¬bb=h.size+1 by omega)
  have hd5:=k5.get hd3 (show ¬h.size=h.size+1 by omega)
  have s3:=hu3.size;have i5:=stab (c+1) _ _ hi3 (by omega) (k5.mono fun b hb=>.inl (.inr (by omega)))
  simp only[Option.isNone_none,if_true];refine ak.2 ?_;generalize h3.setIfInBounds (h.size+1) (lo .ready none)=h5 at k5 l5 hb5 hd5 i5;refine⟨_,aS hb5,_,aS hb5,?_⟩;have ew:IntKind.wrap .u32 (((dk d k:Nat):Int)-1)=((dk d k-1:Nat):Int):=by rw[IntKind.wrap_u32];omega
  have ea:dk d k&&&(dk d k-1)=dk d (c+1):=by
   refine gb fun i=>?_
   rw[Kv hcb hcl,yk,yk];by_cases hci:c<i
   ·rw[decide_eq_true hci,decide_eq_true (show k≤i by omega),decide_eq_true (show c+1≤i by omega)];simp
   ·rw[decide_eq_false hci,decide_eq_false (show ¬c+1≤i by omega)];simp
  simp only[Bd];rw[ew,L8 hdl (by omega),ea];have e32:IntKind.wrap .u32 ((dk d (c+1):Nat):Int)=((dk d (c+1):Nat):Int):=by have:=Nm d (c+1);rw[IntKind.wrap_u32];omega
  rw[e32];refine⟨gN hb5 (by simp),sh hb5 fun h6 hb6 hu6=>?_⟩
  have s5:=k5.size;refine hI (c+1) () h6 ⟨stab _ _ _ i5 (by omega) (hu6.mono fun b hb=>.inl (.inl hb)),hb6,hu6.oth hd5 (by omega),hu6.oth l5 (by omega),hc⟩ (by omega)
 ·have hz:dk d k=0:=by
   have:((dk d k:Nat):Int)=0:=by simpa using e
   omega
  have k5:Upd (· =h.size+1) h' (h'.setIfInBounds (h.size+1) (lo .exhausted none)):=Upd.set _ _ rfl
  refine⟨.ready,none,by decide,hl',?_⟩
  refine fin k _ (stab k _ _ hi (by omega) (k5.mono fun b hb=>.inl (.inr (by omega)))) (fun j h1 _=>?_) (k5.get hd' (show ¬h.size=h.size+1 by omega))
  have:=yk d k j;rw[hz,fg,decide_eq_true h1]at this;simpa using this.symm
end Go.Proofs
namespace Go.Proofs
open Go Go.Lift
abbrev Ni(n:Nat):List Value:= [.int .i64 (n:Int)]
theorem NB(n:Nat):(Ni n).length=1∧0<1:=⟨rfl,by omega⟩
theorem xU{h:ae}{b:Nat}{c:Array Value}{t:TypeId}(hb:h[b]? =some (.cells c t (0,0))):aE h ⟨b,0,none⟩=c[0]?:=aS hb
theorem AC{h:ae}{b:Nat}{c c':Array Value}{t:TypeId}{v:Value}{k:ae→Prop}(hb:h[b]? =some (.cells c t (0,0))) (hi:0<c.size) (e:c.setIfInBounds 0 v=c') (hk:∀h',h'[b]? =some (.cells c' t (0,0))→Upd (· =b) h h'→k h'):Wr h ⟨b,0,none⟩∧At (hset h ⟨b,0,none⟩ v) k:=
 ⟨gN hb hi,sh hb fun h' hb' hu=>hk h' (e▸hb') hu⟩
theorem El{h:ae}{b:Nat}{cs:List Value}{t:TypeId}(hb:h[b]? =some (.cells cs.toArray t (0,0))):SRow h (some ⟨b,0,none⟩) cs.length cs:=
 ⟨rfl,.inr ⟨_,rfl,mD hb fun i v hv=>by rw[aF,List.getElem?_toArray];exact hv⟩⟩
theorem Bb{W:Nat→Prop}{x:Hs}{k:ByteArray}{h:ae}{s:SliceV}{way:List Nat}(hs:Sl Ni 1 W h s way)(hl:way.length≤13)(hw:∀i c,way[i]? =some c→ck x i k=c) {K:Bool→ae→Prop} (hk:K true h):HC PG lN [.int .u64 (dA x k),.slice s.a s.len s.cap] [.c .bool] K h:=by
 refine CD (dA x k) s ?_;unfold uM af cQ;have hlen:=hs.len;refine LoopP.ghost (fun(i:Nat) (t:Int) h'=>t=(i:Int)∧i≤way.length∧h'=h) (fun i=>way.length-i) 0 ⟨rfl,bi _,rfl⟩ ?_
 rintro I i t h' ⟨rfl,hi,rfl⟩ hI;refine aA (fun hlt=>?_) fun _=>hk
 have hlt:i<way.length:=by omega
 obtain⟨a,ha,_,hv⟩:=hs.at0 (ai hlt);refine⟨⟨by omega,by omega⟩,a,ha,_,hv,Kw (x:=x) (k:=k) (lev:=i) (by omega) ?_⟩
 rw[hw i _ (ai hlt),bne_self_eq_false];refine ak.2 ?_;rw[eu hlt (by omega)];exact hI (i+1) _ _ ⟨rfl,hlt,rfl⟩ (by omega)
theorem Kb{W:Nat→Prop}{h:ae}{s:SliceV}{l:List Pr}(hs:Sl eG 2 W h s l)(hr:cW l)(hn:l.length≤1000000){K:Bool→ae→Prop}(hk:K true h):HC PG r9 [.slice s.a s.len s.cap] [.c .bool] K h:=by
 refine E6 s ?_;unfold xp af cQ;have hlen:=hs.len;refine LoopP.ghost (fun(i:Nat) (t:Int) h'=>t=((i+1:Nat):Int)∧h'=h) (fun i=>l.length-i) 0 ⟨rfl,rfl⟩ ?_
 rintro I i t h' ⟨rfl,rfl⟩ hI;refine aA (fun hlt=>?_) fun _=>hk
 have hlt:i+1<l.length:=by omega
 have e1:IntKind.wrap .i64 (((i+1:Nat):Int)-1)=(i:Int):=by rw[fl (by omega)];omega
 rw[e1];obtain⟨a,ha,_,hv⟩:=hs.at (ai (show i<l.length by omega))
 obtain⟨a',ha',_,hv'⟩:=hs.at (ai hlt);refine⟨⟨by omega,by omega⟩,a,ha,_,hv 0 _ rfl,⟨by omega,by omega⟩,a',ha',_,hv' 0 _ rfl,?_⟩
 have:=co.1 hr i (i+1) (by omega) hlt (by omega);have hb:Op.bytesLess l[i].1.toList l[i+1].1.toList=true:=this;rw[hb];refine ak.2 ?_;rw[eu hlt (by omega)];exact hI (i+1) _ _ ⟨rfl,rfl⟩ (by omega)
theorem JG(x:Hs)(lev:Nat)(l:List Pr):(fZ x lev l).length+(mJ x lev l).flatten.length=l.length:=by
 have h:=rd x lev l 32;have hle:(l.filter fun p=>decide (ck x lev p.1<32))=l:=List.filter_eq_self.2 fun p _=>decide_eq_true (wJ ..)
 rw[hle]at h;have:∀n,(fm (fun c=>p5 (part x lev c l)) n).length+(fm (fun c=>gO (part x lev c l)) n).flatten.length=((List.range n).map fun c=>(part x lev c l).length).sum:=by
  intro n;induction n with
  |zero=>simp[fm]
  |succ n ih=>
   rw[jZ,jZ,List.range_succ,List.map_append,List.sum_append];simp only[ac,fB,List.map_cons,List.map_nil,List.sum_cons,List.sum_nil,Nat.add_zero];generalize part x lev n l=q;have:(p5 q).toList.length+(gO q).toList.flatten.length=q.length:=by
    match q with
    | []=>simp[p5,gO]
    | [a]=>simp[p5,gO]
    |a::b::q=>simp[p5,gO]
   omega
 have:=this 32;unfold fZ mJ;omega
theorem EI{β:Type}{g:Nat→Option β}{k:Nat}:∀{c:Nat},k≤c→(∀j,k≤j→j<c→g j=none)→fm g c=fm g k
 |0,h,_=>by rw[show k=0 by omega]
 |c+1,h,hn=>by
  rcases bR k (c+1)with hk|hk
  ·rw[jZ,hn c (by omega) (by omega),EI (by omega) fun j h1 h2=>hn j h1 (by omega)];simp
  ·rw[show k=c+1 by omega]
end Go.Proofs
namespace Go.Proofs
open Go Go.Lift
theorem JI{W:Nat→Prop}{x:Hs}{h:ae}{m:Nat}{s:Slots}{c:Nat}{l:List Pr}(t:SlotIs W x h m s c l)(hp:(s.p c).isSome):∃p,l= [p]∧s.p c=some p:=by
 rcases t with⟨_,h1,_⟩|⟨p,h0,h1,_⟩|⟨_,h1,_⟩
 ·rw[h1]at hp;cases hp
 ·exact⟨p,h0,h1⟩
 ·rw[h1]at hp;cases hp
theorem JJ{W:Nat→Prop}{x:Hs}{h:ae}{m:Nat}{s:Slots}{c:Nat}{l:List Pr}(t:SlotIs W x h m s c l)(hp:(s.k c).isSome):2≤l.length∧∃kb,s.k c=some (some ⟨kb,0,none⟩)∧TrieAt W x h m kb l:=by
 rcases t with⟨_,_,h2⟩|⟨p,_,_,h2⟩|⟨h0,_,kb,h2,h3⟩
 ·rw[h2]at hp;cases hp
 ·rw[h2]at hp;cases hp
 ·exact⟨h0,kb,h2,h3⟩
theorem D9{W:Nat→Prop}{h:ae}{s:SliceV}{way:List Nat}{c:Nat}{xs:List Value}(hs:Sl Ni 1 W h s way)(hc:s.cap=s.len)(hl:way.length≤13)(hx:xs= [.int .i64 (c:Int)]){K:SliceV→ae→Prop}
  (hk:∀s' h',Sl Ni 1 No h' s' (way++ [c])→s'.len≤s'.cap→Upd No h h'→K s' h'):AppP (some [.int .i64 0]) 1 8 oo s.a s.len s.cap 1 xs h K:=by
 subst hx;refine GB (ys:= [c]) hs rfl rfl rfl (by omega) (by omega) (by simp;omega) fun s' h' ho hu=>hk s' h' (ho.sl fun _ _ _ h=>h) ho.cap hu
def OnWay(x:Hs)(way:List Nat)(l:List Pr):Prop:=∀p∈l,∀i c,way[i]? =some c→ck x i p.1=c
theorem OnWay.part{x:Hs}{way:List Nat}{l:List Pr}{c:Nat}(o:OnWay x way l):OnWay x (way++ [c]) (part x way.length c l):=fun p hp i d hd=>by
 have hp:=lM.1 hp;rcases bR i way.length with h|h
 ·rw[List.getElem?_append_left h]at hd;exact o p hp.1 i d hd
 ·rw[List.getElem?_append_right h]at hd
  have:i-way.length=0:=by have:=(List.getElem?_eq_some_iff.1 hd).1;simp at this;omega
  rw[this]at hd;simp only[List.getElem?_cons_zero,Option.some.injEq]at hd;subst hd;rw[show i=way.length by omega];exact hp.2
theorem LV{W:Nat→Prop}{x:Hs}:∀(m:Nat),m≤13→∀{h:ae} {b:Nat} {l:List Pr} {sw:SliceV} {way:List Nat},TrieAt W x h m b l→Tab h→Sl Ni 1 No h sw way→sw.len≤sw.cap→way.length=13-m→OnWay x way l→cW l→l.length≤60000→∀{K:Int×Bool→ae→Prop},(∀h',Upd No h h'→K ((l.length:Int),true) h')→
  HC PG lO [.agg #[.int .u64 x.k0,.int .u64 x.k1,.int .u64 x.mask],.pointer (some ⟨b,0,none⟩),.slice sw.a sw.len sw.cap] [.c (.int .i64),.c .bool] K h:=by
 intro m;induction m with
 |zero=>
  intro _ h b l sw way t tb hs hcp hw hwy hr hn K hk;refine uH (x.k0,x.k1,x.mask) (some ⟨b,0,none⟩) sw ?_;unfold qW af cQ;refine bH fun h1 b1 k1=>bH fun h2 b2 k2=>bH fun h3 b3 k3=>bH fun h4 b4 k4=>bH fun h5 b5 k5=>?_
  have k05:Upd No h h5:=(((k1.tr k2).tr k3).tr k4).tr k5;have c1:=k5.get0 (k4.get0 (k3.get0 (k2.get0 b1)));have c2:=k5.get0 (k4.get0 (k3.get0 b2));have c3:=k5.get0 (k4.get0 b3);have c4:=k5.get0 b4;have s1:=k1.size;have s2:=k2.size;have s3:=k3.size;have s4:=k4.size;have z3:=bD b3;have z4:=bD b4;have z5:=bD b5;obtain⟨sp,sk,ow,hb,hsp,_⟩:=(BuckAt.upd t k05 fun _ h=>h.elim:BuckAt W h5 b l).ex
  refine⟨_,xU c2,re hb hsp (by omega) fun s8 h8 ho8 k8=>?_⟩
  refine⟨_,xU (k8.get0 c2),gA (k8.get0 hb) (ax.2 ?_)⟩;have d1:=k8.get0 c1;have d3:=k8.get0 c3;have d4:=k8.get0 c4;have d5:=k8.get0 b5;have s8':=k8.size;have hs8:Sl eG 2 No h8 s8 l:=ho8.sl fun _ _ _ h=>h
  have hlen:=hs8.len;have hwl:=hs.len;have hs':Sl Ni 1 No h8 sw way:=(hs.upd k05 fun _ h=>h.elim).upd k8 fun _ h=>h.elim
  refine Join.plain ⟨sw,xU d3,?_⟩;rw[show((sw.len:Int) !=(13:Int))=false by rw[bne_eq_false_iff_eq];omega]
  refine ak.2 (Kb hs8 hr (by omega) (ak.2 ?_));refine LoopP.ghost (fun(i:Nat) (t:Int) h'=>t=(i:Int)∧i≤l.length∧Upd No h8 h') (fun i=>l.length-i) 0 ⟨rfl,bi _,Upd.refl _ _⟩ ?_
  rintro I i t h' ⟨rfl,hi,hu⟩ hI;refine aA (fun hlt=>?_) fun hge=>?_
  ·have hlt:i<l.length:=by omega
   obtain⟨a,ha,_,hv⟩:=(hs8.upd hu fun _ h=>h.elim).at (ai hlt)
   refine⟨⟨by omega,by omega⟩,a,ha,_,hv 0 _ rfl,_,hv 1 _ rfl,zk (p:=l[i]) fun h9 b9 k9=>?_⟩
   have u9:=hu.tr k9;refine⟨_,vc (u9.get0 d1) 0,_,vc (u9.get0 d1) 1,_,vc (u9.get0 d1) 2,_,vc b9 0,sw,xU (u9.get0 d3),qd fun h10 k10=>⟨xU (k10.get0 (u9.get0 d3)),?_⟩⟩
   refine Bb ((hs'.upd u9 fun _ h=>h.elim).upd k10 fun _ h=>h.elim) (by omega) (fun j c hj=>hwy _ (bE hlt) j c hj) (ak.2 ?_)
   rw[eu hlt (by omega)];exact hI (i+1) _ _ ⟨rfl,hlt,u9.tr k10⟩ (by omega)
  ·have hil:i=l.length:=by omega
   subst hil;refine AC (hu.get0 d4) (by simp) rfl fun h9 b9 u9=>AC (u9.oth (hu.get0 d5) (by omega)) (by simp) rfl fun h10 b10 u10=>?_
   refine⟨_,xU (u10.oth b9 (by omega)),_,xU b10,?_⟩;have e:((s8.len:Nat):Int)=(l.length:Int):=by omega
   rw[e];exact hk _ ((((k05.tr k8).tr hu).own u9 (by omega)).own u10 (by omega))
 |succ m ih=>
  intro hm h b l sw way t tb hs hcp hw hwy hr hn K hk;refine uH (x.k0,x.k1,x.mask) (some ⟨b,0,none⟩) sw ?_;unfold qW af cQ;obtain⟨sl,nd,hs0⟩:=t;have hsl:∀c,c<32→SlotIs W x h m sl c (part x (12-m) c l):=hs0;refine bH fun h1 b1 k1=>bH fun h2 b2 k2=>bH fun h3 b3 k3=>bH fun h4 b4 k4=>bH fun h5 b5 k5=>?_
  have k05:Upd No h h5:=(((k1.tr k2).tr k3).tr k4).tr k5;have c1:=k5.get0 (k4.get0 (k3.get0 (k2.get0 b1)));have c2:=k5.get0 (k4.get0 (k3.get0 b2));have c3:=k5.get0 (k4.get0 b3);have c4:=k5.get0 b4;have s1:=k1.size;have s2:=k2.size;have s3:=k3.size;have s4:=k4.size;have z1:=bD b1;have z2:=bD b2;have z3:=bD b3;have z4:=bD b4;have z5:=bD b5;obtain⟨d,n,sp,sk,ow,hb,bits,hsp,hsk,_⟩:=(nd.upd k05 fun _ h=>h.elim).ex
  have hfp:(fm sl.p 32).length≤32:=uD;refine⟨_,xU c2,re hb hsp (by omega) fun s8 h8 ho8 k8=>?_⟩
  refine⟨_,xU (k8.get0 c2),gA (k8.get0 hb) (ak.2 ⟨sw,xU (k8.get0 c3),?_⟩)⟩;have k08:=k05.tr k8;have hl8:=ho8.len;rw[Eg hsl]at hl8;have hwl:=hs.len;rw[decide_eq_false (by omega)];refine ak.2 (bH fun h9 b9 k9=>?_)
  have u9:=k8.tr k9;have s8':=k8.size;have z9:=bD b9;refine AC b9 (by simp) rfl fun h10 b10 u10=>?_
  have d1:=u10.oth (u9.get0 c1) (by omega);have d2:=u10.oth (u9.get0 c2) (by omega);have d3:=u10.oth (u9.get0 c3) (by omega);have d4:=u10.oth (u9.get0 c4) (by omega);have d5:=u10.oth (u9.get0 b5) (by omega);refine⟨sw,xU d3,sw,xU d3,sw,xU d3,⟨by omega,by omega⟩,⟨by omega,by omega⟩,?_⟩
  refine AC d3 (by simp) rfl fun h11 b11 u11=>?_
  have k011:Upd No h h11:=((k08.tr k9).own u10 (by omega)).own u11 (by omega);have e1:=u11.oth d1 (by omega);have e2:=u11.oth d2 (by omega);have e4:=u11.oth d4 (by omega);have e5:=u11.oth d5 (by omega);have e9:=u11.oth b10 (by omega);have s11:=k011.size;have s10a:=u10.size;have s11a:=u11.size;have hs11:Sl Ni 1 (fun y=>h.size≤y) h11 ⟨aN sw.a 0 ((sw.len:Int).toNat) 1,((sw.len:Int).toNat)-0,((sw.len:Int).toNat)-0⟩ way:=by
   have:=Sl.sub ((hs.less (W':=fun y=>h.size≤y) fun _ h=>.inr h).upd k011 fun _ h=>h.elim) (l:=0) (hi:=sw.len) (m:=sw.len) (c:=sw.len-0) (bi _) (by omega) (ao _)
   rw[List.drop_zero,List.take_of_length_le (by omega)]at this;exact this
  have hcw:(⟨aN sw.a 0 ((sw.len:Int).toNat) 1,((sw.len:Int).toNat)-0,((sw.len:Int).toNat)-0⟩:SliceV).cap=(⟨aN sw.a 0 ((sw.len:Int).toNat) 1,((sw.len:Int).toNat)-0,((sw.len:Int).toNat)-0⟩:SliceV).len:=rfl;have b11':h11[h2.size]? =some (.cells #[sv ⟨aN sw.a 0 ((sw.len:Int).toNat) 1,((sw.len:Int).toNat)-0,((sw.len:Int).toNat)-0⟩] IU (0,0)):=b11;clear b11;generalize (⟨aN sw.a 0 ((sw.len:Int).toNat) 1,((sw.len:Int).toNat)-0,((sw.len:Int).toNat)-0⟩:SliceV)=s0 at hs11 hcw b11'
  obtain⟨d',n',sp',sk',ow',hb',bits',_⟩:=(nd.upd k011 fun _ h=>h.elim).ex
  have tb11:=tb.upd k011 id;refine⟨_,xU e2,EN hb' (ru d' (bH fun h12 b12 k12=>?_))⟩
  have s12:=k12.size;have z12:=bD b12;refine Dx (d:=d') bits'.d32 b12 (fun k h'=>Upd No h11 h') No (fun k h1 hi=>tb11.upd hi id) k12 (fun k ha hb hi hle hu=>hi.trans hu fun y hy=>.inr (by omega)) (fun _ h=>h.elim) (fun k c ha KK hi hkc hc hdc _ hK=>?_) fun k ha hi _ hde=>?_
  ·
   have hdc':=hdc;rw[bits'.dp c hc]at hdc';obtain⟨p,hp1,hp2⟩:=JI (hsl c hc) hdc';refine⟨_,xU (hi.get0 e2),A9 (nd.upd (k011.tr hi) fun _ h=>h.elim) hc fun hb kb=>?_⟩
   rw[hp2];have ib:=hi.tr kb;refine zk (p:=p) fun hc' bc kc=>?_
   have ic:=ib.tr kc;have hon:∀i c',(way++ [c])[i]? =some c'→ck x i p.1=c':=by
    have:=hwy.part (c:=c);rw[hw,show 13-(m+1)=12-m by omega,hp1]at this
    exact this p (List.mem_singleton.2 rfl)
   refine Join.intro (fun t hd=>t=false∧Upd No hc' hd) (fun R hR=>?_) ?_
   ·refine⟨_,vc (ic.get0 e1) 0,_,vc (ic.get0 e1) 1,_,vc (ic.get0 e1) 2,_,vc bc 0,s0,xU (ic.get0 b11'),?_,?_⟩
    ·refine qd fun hd kd=>⟨xU (kd.get0 (ic.get0 b11')),bH fun he be ke=>⟨xU (ke.get0 (kd.get0 (ic.get0 b11'))),_,El be,?_⟩⟩
     refine D9 (((hs11.upd ic fun _ h=>h.elim).upd kd fun _ h=>h.elim).upd ke fun _ h=>h.elim) hcw (by omega) rfl fun s' hf hsf _ kf=>?_
     exact Bb hsf (by simp;omega) hon (hR _ _ ⟨rfl,(kd.tr ke).tr kf⟩)
    ·refine bH fun hd bd kd=>⟨xU (kd.get0 (ic.get0 b11')),vc (kd.get0 bc) 0,⟨vc (kd.get0 (ic.get0 e1)) 0,vc (kd.get0 (ic.get0 e1)) 1,vc (kd.get0 (ic.get0 e1)) 2⟩,?_⟩
     refine qd fun he ke=>⟨xU (ke.get0 (kd.get0 (ic.get0 b11'))),_,El (ke.get0 bd),?_⟩
     refine D9 (((hs11.upd ic fun _ h=>h.elim).upd kd fun _ h=>h.elim).upd ke fun _ h=>h.elim) hcw (by omega) rfl fun s' hf hsf _ kf=>?_
     exact Bb hsf (by simp;omega) hon (hR _ _ ⟨rfl,(kd.tr ke).tr kf⟩)
   ·rintro t hd ⟨rfl,kd⟩
    exact ak.2 (hK hd (ic.tr kd) ((kb.tr kc).tr kd))
  ·
   obtain⟨d'',n'',sp'',sk'',ow'',hb'',bits'',_⟩:=(nd.upd (k011.tr hi) fun _ h=>h.elim).ex
   refine⟨_,xU (hi.get0 e2),wq hb'' (ru n'' (bH fun h13 b13 k13=>?_))⟩
   have i13:=hi.tr k13;have s13:=k13.size;have z13:=bD b13;have sa:=hi.size;have zde:=bD hde;have hl8':s8.len=(fZ x (12-m) l).length:=hl8;have hall:=JG x (12-m) l;have hfl:∀k,(fm (fun c=>gO (part x (12-m) c l)) k).flatten.length≤60000∨32<k:=fun k=>by
    rcases bR 32 k with h|h
    ·exact .inr h
    ·refine .inl ?_
     have:((fm (fun c=>gO (part x (12-m) c l)) k).flatten).length≤(mJ x (12-m) l).flatten.length:=by
      unfold mJ;have hj:∀j,∃r,fm (fun c=>gO (part x (12-m) c l)) (k+j)=fm (fun c=>gO (part x (12-m) c l)) k++r:=fun j=>by
       induction j with
       |zero=>exact⟨[],by simp⟩
       |succ j ihj=>obtain⟨r,hr⟩:=ihj;exact⟨r++(gO (part x (12-m) (k+j) l)).toList,by rw[←Nat.add_assoc,jZ,hr,List.append_assoc]⟩
      have this:=hj (32-k);rw[show k+(32-k)=32 by omega]at this
      obtain⟨r,hr⟩:=this;rw[hr,fB,ac];omega
     omega
   refine Dx (d:=n'') bits''.n32 b13 (fun k h'=>k≤32∧Upd (· =h8.size) ha h'∧h'[h8.size]? =some (.cells #[.int .i64 (((fZ x (12-m) l).length+(fm (fun c=>gO (part x (12-m) c l)) k).flatten.length:Nat):Int)] oo (0,0))) (· =h8.size)
    (fun k hx hy=>(tb11.upd hi id).upd hy.2.1 fun e=>by have e:0=h8.size:=e;omega) ⟨bi _,k13.wide,?_⟩ (fun k hx hy hz hle hu=>⟨hz.1,hz.2.1.trans hu fun y hy=>.inr (by omega),hu.get hz.2.2 (by omega)⟩) (fun y hy=>⟨by have hy:y=h8.size:=hy;omega,by have hy:y=h8.size:=hy;omega⟩) (fun k c hx KK hy hkc hc hnc hno hK=>?_) fun k hx hy hno hdx=>?_
   ·have:=i13.get0 e9
    rw[show((fZ x (12-m) l).length+(fm (fun c=>gO (part x (12-m) c l)) 0).flatten.length:Nat)=s8.len by rw[hl8'];simp[fm]]
    exact this
   ·obtain⟨hk32,hux,hcx⟩:=hy
    have hnc':=hnc;rw[bits''.nk c hc]at hnc';obtain⟨h2l,kb,hkb,tk⟩:=JJ (hsl c hc) hnc';have gx:∀{y:Nat} {o:Obj},h11[y]? =some o→y≠h8.size→hx[y]? =some o:=fun hy hne=>hux.get (hi.get0 hy) hne
    have uW:Upd No h hx:=(k011.tr hi).trans hux fun y hy=>.inr (by have hy:y=h8.size:=hy;omega)
    refine⟨_,xU (gx e2 (by omega)),EB (nd.upd uW fun _ h=>h.elim) hc ?_⟩
    rw[hkb];have hmc:gO (part x (12-m) c l)=some (part x (12-m) c l):=by unfold gO;rw[if_pos h2l]
    have hskip:fm (fun c=>gO (part x (12-m) c l)) c=fm (fun c=>gO (part x (12-m) c l)) k:=EI hkc fun j h1 h2=>by
     have:=hno j h1 h2;rw[bits''.nk j (by omega),(AP (hsl j (by omega))).2]at this;simpa using this
    have hnext:(fm (fun c=>gO (part x (12-m) c l)) (c+1)).flatten.length=(fm (fun c=>gO (part x (12-m) c l)) k).flatten.length+(part x (12-m) c l).length:=by
     rw[jZ,hskip,hmc];simp
    have hpl:(part x (12-m) c l).length≤l.length:=oq;refine Join.intro (fun t hd=>t=(((part x (12-m) c l).length:Int),true)∧Upd No hx hd) (fun R hR=>?_) ?_
    ·refine⟨_,vc (gx e1 (by omega)) 0,_,vc (gx e1 (by omega)) 1,_,vc (gx e1 (by omega)) 2,s0,xU (gx b11' (by omega)),bH fun hd bd kd=>?_⟩
     refine⟨xU (kd.get0 (gx b11' (by omega))),⟨vc (kd.get0 (gx e1 (by omega))) 0,vc (kd.get0 (gx e1 (by omega))) 1,vc (kd.get0 (gx e1 (by omega))) 2⟩,_,El bd,?_⟩;have hsx:Sl Ni 1 (fun y=>h.size≤y) hd s0 way:=((hs11.upd hi fun _ h=>h.elim).upd hux fun y hy=>.inl (by have hy:y=h8.size:=hy;omega)).upd kd fun _ h=>h.elim
     refine D9 hsx hcw (by omega) rfl fun s' he hse hce ke=>?_
     have gE:=kd.tr ke;refine⟨⟨vc (gE.get0 (gx e1 (by omega))) 0,vc (gE.get0 (gx e1 (by omega))) 1,vc (gE.get0 (gx e1 (by omega))) 2⟩,?_⟩;refine ih (by omega) (TrieAt.upd0 (uW.tr gE) tk) (tb.upd (uW.tr gE) id) hse hce (by simp;omega) ?_ (nA hr) (by omega) fun hf kf=>hR _ _ ⟨rfl,gE.tr kf⟩
     have:=hwy.part (c:=c);rw[hw,show 13-(m+1)=12-m by omega]at this
     exact this
    ·rintro t hd ⟨rfl,kd⟩
     refine Join.plain (ak.2 ?_);rw[decide_eq_false (by simp only;omega)];refine ak.2 ⟨_,xU (kd.get0 hcx),?_⟩;have hf1:=(hfl k).resolve_right (by omega);have hS:(fZ x (12-m) l).length≤60000:=by omega
     refine AC (c':= #[.int .i64 (((fZ x (12-m) l).length+(fm (fun c=>gO (part x (12-m) c l)) (c+1)).flatten.length:Nat):Int)]) (kd.get0 hcx) (by simp) ?_ fun hf bf uf=>?_
     ·rw[hnext]
      have:IntKind.wrap .i64 ((((fZ x (12-m) l).length+(fm (fun c=>gO (part x (12-m) c l)) k).flatten.length:Nat):Int)+((part x (12-m) c l).length:Int))=(((fZ x (12-m) l).length+((fm (fun c=>gO (part x (12-m) c l)) k).flatten.length+(part x (12-m) c l).length):Nat):Int):=by rw[fl (by omega)];omega
      simp only[this];rfl
     ·exact hK hf ⟨hc,(hux.tr kd.wide).tr uf,bf⟩ (kd.wide.tr uf)
   ·obtain⟨hk32,hux,hcx⟩:=hy
    have gx:∀{y:Nat} {o:Obj},h11[y]? =some o→y≠h8.size→hx[y]? =some o:=fun hy hne=>hux.get (hi.get0 hy) hne
    have hkm:fm (fun c=>gO (part x (12-m) c l)) 32=fm (fun c=>gO (part x (12-m) c l)) k:=EI hk32 fun j h1 h2=>by
     have:=hno j h1 h2;rw[bits''.nk j (by omega),(AP (hsl j (by omega))).2]at this;simpa using this
    have ev:((fZ x (12-m) l).length+(fm (fun c=>gO (part x (12-m) c l)) k).flatten.length:Nat)=l.length:=by rw[←hkm];exact hall
    rw[ev]at hcx;have sx:=hux.size;refine⟨_,xU hcx,AC (gx e4 (by omega)) (by simp) rfl fun hf bf uf=>AC (uf.oth (gx e5 (by omega)) (by omega)) (by simp) rfl fun hg bg ug=>?_⟩
    have sf:=uf.size;have sg:=ug.size;have g2:=ug.oth (uf.oth hdx (by omega)) (by omega);have kh:Upd (· =h13.size) hg (hg.setIfInBounds h13.size (.deferred none)):=Upd.set _ _ rfl
    refine⟨g2,aX ?_⟩;generalize hg.setIfInBounds h13.size (.deferred none)=hh at kh;have g3:=kh.oth (ug.oth (uf.oth (hux.get hde (by omega)) (by omega)) (by omega)) (by omega);have kj:Upd (· =h12.size) hh (hh.setIfInBounds h12.size (.deferred none)):=Upd.set _ _ rfl
    refine⟨g3,aX ?_⟩;generalize hh.setIfInBounds h12.size (.deferred none)=hj at kj;refine⟨_,xU (kj.oth (kh.oth (ug.oth bf (by omega)) (by omega)) (by omega)),_,xU (kj.oth (kh.oth bg (by omega)) (by omega)),?_⟩;refine hk hj ?_;refine(((((k011.tr hi).trans hux fun y hy=>.inr ?_).own uf (by omega)).own ug (by omega)).own kh (by omega)).own kj (by omega)
    have hy:y=h8.size:=hy;omega
end Go.Proofs
namespace Go.Proofs
open Go Go.Lift
theorem AV{W:Nat→Prop}{h:ae}{b:Nat}{sl val:ByteArray}{has:Bool}{s:SliceV}{ow:Option Addr}{ks:List (Option Addr)}{F:Fo}(hb:h[b]? =some (.cells (wg sl has val s ow) bj (0,0))) (hs:Sl nS 1 W h s ks) (hL:RxL W h ks F.toL) (hc:eS F) {K:Bool→ae→Prop} (hk:K true h):HC PG jp [.pointer (some ⟨b,0,none⟩)] [.c .bool] K h:=by
 refine vD (some ⟨b,0,none⟩) ?_;unfold pP af cQ;refine⟨_,rfl,s,db (i:=3) hb,?_⟩;have hlen:=hs.len;rw[hL.1]at hlen;have h256:=iL hc;have hcF:=dT.1 hc;refine LoopP.ghost (fun(i:Nat) (t:Int) h'=>t=(i:Int)∧i≤F.toL.length∧h'=h) (fun i=>F.toL.length-i) 0 ⟨rfl,bi _,rfl⟩ ?_
 rintro I i t h' ⟨rfl,hi,rfl⟩ hI;refine aA (fun hlt=>?_) fun _=>hk
 have hlt:i<F.toL.length:=by omega
 obtain⟨kb,ksl,hki,hkl,kv,kval,ks',kk,kb1,_⟩:=hL.at hlt;obtain⟨a,ha,_,hv⟩:=hs.at0 hki;have hne:ksl.data.toList≠[]:=by rw[hkl];exact(hcF.2 _ (bE hlt)).1
 have e0:(ksl.toList==(⟨#[]⟩:ByteArray).toList)=false:=by
  rw[beq_eq_false_iff_ne,ByteArray.toList_eq,ByteArray.toList_eq];exact hne
 obtain⟨c,hc0,hc1⟩:=Bk hne;refine⟨⟨by omega,by omega⟩,a,ha,_,hv,Join.intro (fun t h2=>t=false∧h2=h') (fun R hR=>?_) ?_⟩
 ·refine⟨_,rfl,ksl,db (i:=0) kb1,?_⟩
  rw[e0];refine ak.2 (aA (fun hgt=>?_) fun _=>hR _ _ ⟨rfl,rfl⟩)
  have hpos:0<i:=by have:(i:Int)>0:=hgt;omega
  have e1:IntKind.wrap .i64 ((i:Int)-1)=((i-1:Nat):Int):=by rw[fl (by omega)];omega
  rw[e1];have hlt2:i-1<F.toL.length:=by omega
  obtain⟨jb,jsl,hji,hjl,jv,jval,js',jk,jb1,_⟩:=hL.at hlt2;obtain⟨a',ha',_,hv'⟩:=hs.at0 hji;have hne2:jsl.data.toList≠[]:=by rw[hjl];exact(hcF.2 _ (bE hlt2)).1
  obtain⟨d,hd0,hd1⟩:=Bk hne2;refine⟨_,rfl,s,db (i:=3) hb,⟨by omega,by omega⟩,a',ha',_,hv',_,rfl,jsl,db (i:=0) jb1,d,by decide,hd0,_,rfl,ksl,db (i:=0) kb1,c,by decide,hc0,hR _ _ ⟨?_,rfl⟩⟩
  have:=co.1 hcF.1 (i-1) i hlt2 hlt (by omega);rw[hkl]at hc1;rw[hjl]at hd1;exact decide_eq_false (by omega)
 ·rintro t h2 ⟨rfl,rfl⟩
  refine ak.2 ?_;rw[eu hlt (by omega)];exact hI (i+1) _ _ ⟨rfl,hlt,rfl⟩ (by omega)
theorem D5{W:Nat→Prop}{h:ae}{s:SliceV}{ks:List (Option Addr)}{L:List Bn}{f:FuncId}(hs:Sl nS 1 W h s ks)(hL:RxL W h ks L)(hn:L.length≤256)(hf:∀i (hi:i<L.length) {b:Nat} {sl:ByteArray},RxN W h b sl L[i].2.1 L[i].2.2→∀{K:Bool→ae→Prop},K false h→HC PG f [.pointer (some ⟨b,0,none⟩)] [.c .bool] K h){K:Bool→ae→Prop}(hk:K false h):
  HC PG ci [.slice s.a s.len s.cap,.func (.func f) #[] #[]] [.c .bool] K h:=by
 refine g4 s _ ?_;unfold eo;refine iB s _ ?_;unfold eR af cQ;have hlen:=hs.len;rw[hL.1]at hlen;refine LoopP.ghost (fun(i:Nat) (t:Int) h'=>t=(i:Int)∧i≤L.length∧h'=h) (fun i=>L.length-i) 0 ⟨rfl,bi _,rfl⟩ ?_
 rintro I i t h' ⟨rfl,hi,rfl⟩ hI;refine aA (fun hlt=>?_) fun _=>hk
 have hlt:i<L.length:=by omega
 obtain⟨kb,ksl,hki,hkl,kn⟩:=hL.at hlt;obtain⟨a,ha,_,hv⟩:=hs.at0 hki;refine⟨⟨by omega,by omega⟩,a,ha,_,hv,HV.mk' (hf i hlt kn (ak.2 ?_))⟩
 rw[eu hlt (by omega)];exact hI (i+1) _ _ ⟨rfl,hlt,rfl⟩ (by omega)
def OM(n:Bn):Prop:=∀{W:Nat→Prop} {h:ae} {b:Nat} {sl:ByteArray},RxN W h b sl n.2.1 n.2.2→∀{K:Bool→ae→Prop},K true h→HC PG iK [.pointer (some ⟨b,0,none⟩)] [.c .bool] K h
theorem NS{lab:List UInt8}{w:Option ByteArray}{F:Fo}(hc:eS F)(hw:w.isSome∨2≤F.toL.length)(ih:∀n∈F.toL,OM n):OM (lab,w,F):=by
 intro W h b sl r K hk;simp only at r;obtain⟨val,s,ow,ks,hb,hv,hs,hcp,hF⟩:=r;have hL:=ie.1 hF;have hlen:=hs.len;rw[hL.1]at hlen;refine ul (some ⟨b,0,none⟩) ?_;unfold pd af;refine Join.intro (fun t h'=>t=false∧h'=h) (fun R hR=>?_) ?_
 ·refine AV hb hs hL hc (ak.2 ⟨_,rfl,w.isSome,db (i:=1) hb,?_⟩)
  cases hwS:w.isSome with
  |true=>exact ak.2 (hR _ _ ⟨rfl,rfl⟩)
  |false=>
   refine ax.2 ⟨_,rfl,s,db (i:=3) hb,hR _ _ ⟨decide_eq_false ?_,rfl⟩⟩;rw[hwS]at hw;rcases hw with hw|hw
   ·cases hw
   ·omega
 ·rintro t h' ⟨rfl,rfl⟩
  refine ak.2 ⟨_,rfl,s,db (i:=3) hb,D5 hs hL (iL hc) (fun i hi b sl kn K' hk'=>?_) hk⟩
  refine sO _ ?_;unfold nr;exact ih _ (bE hi) kn hk'
theorem EU:∀{F:Fo},eS F→∀n∈F.toL,OM n
 | .nil,_,n,hn=>by simp[Fo.toL]at hn
 | .cons lab w kids rest,h,n,hn=>by
  rcases List.mem_cons.1 hn with rfl|hn
  ·exact NS h.2.2.1 h.2.1 (EU h.2.2.1)
  ·exact EU h.2.2.2.2 n hn
theorem Hh{W:Nat→Prop}{h:ae}{b:Nat}{l:List Pr}(t:RadAt W h b l){K:Bool→ae→Prop}(hk:K true h):HC PG qN [.pointer (some ⟨b,0,none⟩)] [.c .bool] K h:=by
 obtain⟨w,F,r,hc,_⟩:=t.ex;obtain⟨val,s,ow,ks,hb,hv,hs,hcp,hF⟩:=r;have hL:=ie.1 hF;refine CI (some ⟨b,0,none⟩) ?_;unfold uR af;refine ax.2 ⟨_,rfl,_,db (i:=0) hb,?_⟩;rw[beq_self_eq_true];refine ax.2 (AV hb hs hL hc (ax.2 ⟨_,rfl,s,db (i:=3) hb,D5 hs hL (iL hc) (fun i hi b sl kn K' hk'=>?_) hk⟩))
 refine zN _ ?_;unfold sH;exact EU hc _ (bE hi) kn hk'
theorem JF{W:Nat→Prop}{x:Hs}{h:ae}{kind:Int}{t:Tr}{l:List Pr}(i:TreeIs W h kind x t l)(tb:Tab h)(hr:cW l)(hn:l.length≤60000){K:Bool→ae→Prop}(hk:∀h',Upd No h h'→K true h'):HC PG mN [Mf t] [.c .bool] K h:=by
 refine wU t ?_;unfold qr af;refine bH fun h1 b1 k1=>⟨_,vc b1 0,?_⟩
 rcases i with⟨_,b,rfl,t⟩|⟨_,b,rfl,t⟩
 ·refine ak.2 ⟨_,yY b1 1 0,_,yY b1 1 1,_,yY b1 1 2,_,vc b1 0,_,vc b1 1,_,vc b1 2,_,vc b1 3,_,vc b1 4,_,vc b1 5,?_⟩
  refine Dj (TrieAt.upd0 k1 t) fun h2 k2=>⟨⟨yY (k2.get0 b1) 1 0,yY (k2.get0 b1) 1 1,yY (k2.get0 b1) 1 2⟩,?_⟩
  refine CE (x.k0,x.k1,x.mask) _ ?_;unfold uN af;refine bH fun h3 b3 k3=>ak.2 ⟨_,vc b3 0,_,vc b3 1,_,vc b3 2,?_⟩
  have k03:=(k1.tr k2).tr k3;refine LV 13 (ao _) (sw:=⟨none,0,0⟩) (way:= []) (TrieAt.upd0 k03 t) (tb.upd k03 id) (Sl.nil NB) (ao _) rfl (fun p _ i c hc=>by simp at hc) hr hn fun h4 k4=>?_
  exact hk h4 (k03.tr k4)
 ·refine ax.2 ⟨_,vc b1 5,Hh (t.upd0 k1) (hk h1 k1)⟩
end Go.Proofs
namespace Go.Proofs
open Go Go.Lift
def Ki(L B:List Pr):Nat→List Pr
 |0=>L
 |i+1=>match B[i]? with
  |some p=>if i%3=2 then lB p.1 (Ki L B i)else g6 p (Ki L B i)
  |none=>Ki L B i
theorem LE{L B:List Pr}{i:Nat}(hi:i<B.length):Ki L B (i+1)=if i%3=2 then lB B[i].1 (Ki L B i)else g6 B[i] (Ki L B i):=by
 show(match B[i]? with|some p=>_|none=>_)=_
 rw[ai hi]
structure Sm(n:Nat)(L:List Pr):Prop where
 up:cW L
 len:L.length≤n
 fit:∀p∈L,p.1.size≤40∧p.2.size≤40
theorem Sm.fits{n:Nat}{L:List Pr}(f:Sm n L):Fit L:=fun p hp=>by have:=f.fit p hp;omega
theorem Sm.ins{n:Nat}{L:List Pr}(f:Sm n L){p:Pr}(h:p.1.size≤40∧p.2.size≤40):Sm (n+1) (g6 p L):=
 ⟨x8 p f.up,bN (yf p) (Nat.succ_le_succ f.len),fun q hq=>(ws hq).elim (fun e=>e▸h) (f.fit q)⟩
theorem Ld{A:List Pr}{i:Nat}(hi:i<A.length):kR (A.take (i+1))=g6 A[i] (kR (A.take i)):=by
 unfold kR;rw[List.take_succ_eq_append_getElem hi,List.foldl_append];rfl
theorem Sm.del{n:Nat}{L:List Pr}(f:Sm n L)(k:ByteArray):Sm (n+1) (lB k L):=
 ⟨JQ f.up,Nat.le_succ_of_le (bN (List.length_filter_le ..) f.len),fun q hq=>f.fit q (List.mem_filter.1 hq).1⟩
set_option maxRecDepth 100000 in
set_option maxHeartbeats 2000000 in
theorem Cy{h:ae}{k:Int}{x:Hs}{s sm:SliceV}{l m:List Pr}(tb:Tab h)(hs:Sl eG 2 No h s l)(hl:l.length≤9223372036854775807)(hm:Sl eG 2 No h sm m)(hml:m.length≤9223372036854775807)(hk0:0≤k)(hk1:k≤255):
  HC PG rl [.int .u8 k,.agg #[.int .u64 x.k0,.int .u64 x.k1,.int .u64 x.mask],.slice s.a s.len s.cap,.slice sm.a sm.len sm.cap] [.c .bool] (fun b h'=>b=true∧Upd No h h') h:=by
 refine yF k (x.k0,x.k1,x.mask) s sm ?_;unfold rH af cQ;have hkk:=N9 hk0 hk1;generalize IntKind.wrap .i64 (eX k 2)=kk at hkk;refine bH fun h1 b1 k1=>Ie fun h3 k3=>ak.2 ?_
 have k03:=k1.tr k3;refine Gn (hs.upd k03 fun _ h=>h.elim) hl fun e h5 ho5 k5=>?_
 have k05:=k03.tr k5;refine Gn (hm.upd k05 fun _ h=>h.elim) hml fun e' h7 ho7 k7=>⟨by decide,?_⟩
 have k07:=k05.tr k7;have c7:=k7.get0 (k5.get0 (k3.get0 b1));have z1:=bD c7;have hse:Sl eG 2 No h7 e (wD l):=(ho5.sl fun _ _ _ h=>h).upd k7 fun _ h=>h.elim
 have hsm:Sl eG 2 No h7 e' (wD m):=ho7.sl fun _ _ _ h=>h
 obtain⟨f1,f2⟩:=Jn l;obtain⟨g1,g2⟩:=Jn m;have hB:∀p∈wD l,p.1.size≤256∧p.2.size≤4096:=fun p hp=>by have:=f2 p hp;omega
 have hfit:=Mx f2;have hsl:=Ae (wD l);have hr:=rb (wD l);have hSm:∀p∈kR (wD l),p.1.size≤40∧p.2.size≤40:=fun p hp=>f2 p (Ad hp)
 generalize wD l=A at*;generalize wD m=B at*;refine⟨_,vc c7 0,_,vc c7 1,_,vc c7 2,?_⟩;refine wL (W:=No) hse (fun _ h=>h.elim) (by omega) hB hkk fun h12 t i12 k12=>Ez fun h14 b14 k14=>⟨by decide,?_⟩
 have c14:=k14.get0 (k12.get0 c7);have s12:=k12.size;have z14:=bD b14;refine⟨_,vc c14 0,_,vc c14 1,_,vc c14 2,?_⟩;refine IV (W:=fun y=>y=h12.size) (x:=x) (fun y hy=>by have hy:y=h12.size:=hy;omega) hkk fun h19 u j19 k19=>Ez fun h21 b21 k21=>?_
 have s14:=k14.size;have s19:=k19.size;have z21:=bD b21;have k021:Upd No h h21:=((((k07.tr k12).tr k14).tr k19).tr k21);have b14':=k21.get0 (k19.get0 b14);have hne:h12.size≠h19.size:=by omega
 have iT:TreeIs (fun y=>y=h12.size∨y=h19.size) h21 kk x t (kR A):=((i12.less (W':=fun y=>y=h12.size∨y=h19.size) fun y hy=>.inr (by omega)).upd0 ((k14.tr k19).tr k21))
 have iU:TreeIs (fun y=>y=h12.size∨y=h19.size) h21 kk x u []:=((j19.less (W':=fun y=>y=h12.size∨y=h19.size) fun y hy=>hy.imp id fun hy=>by omega).upd0 k21)
 have hse':Sl eG 2 (fun y=>y=h12.size∨y=h19.size) h21 e A:=(hse.less (W':=fun y=>y=h12.size∨y=h19.size) fun y hy=>.inr (by omega)).upd (((k12.tr k14).tr k19).tr k21) fun _ h=>h.elim
 have hsm':Sl eG 2 (fun y=>y=h12.size∨y=h19.size) h21 e' B:=(hsm.less (W':=fun y=>y=h12.size∨y=h19.size) fun y hy=>.inr (by omega)).upd (((k12.tr k14).tr k19).tr k21) fun _ h=>h.elim
 have hel:=hse'.len;have hml':=hsm'.len;obtain⟨W,hW⟩:∃W:Nat→Prop,W=fun y=>y=h12.size∨y=h19.size:=⟨_,rfl⟩
 rw[←hW]at iT iU hse' hsm';have hWt:W h12.size:=by rw[hW];exact .inl rfl
 have hWu:W h19.size:=by rw[hW];exact .inr rfl
 have hWi:∀y,W y→y=h12.size∨y=h19.size:=fun y hy=>by rw[hW]at hy;exact hy
 clear hW;have tb21:=tb.upd k021 id;have hz0:0<h.size:=Bl (tb 0 (by omega));have bigW:∀{h':ae},h21.size≤h'.size→∀y,W y→y<h'.size:=fun k y hy=>by have:=hWi y hy;omega
 have fin:∀{h':ae},Upd W h21 h'→Upd No h h':=fun k=>k021.trans k fun y hy=>.inr (by have:=hWi y hy;have:=k07.size;omega)
 have ht:∀{h1 h2:ae},Upd (· =h12.size) h1 h2→Upd W h1 h2:=fun k=>k.mono fun y hy=>.inl (hy▸hWt)
 have hu':∀{h1 h2:ae},Upd (· =h19.size) h1 h2→Upd W h1 h2:=fun k=>k.mono fun y hy=>.inl (hy▸hWu)
 have smA:∀i,Sm 40 (kR (A.take i)):=fun i=>⟨rb _,by have:=Ae (A.take i);rw[List.length_take]at this;omega,fun p hp=>f2 p (List.mem_of_mem_take (Ad hp))⟩
 refine LoopP.ghost (fun(g:Nat×Tr) (ti:Int) h'=>ti=(g.1:Int)∧g.1≤A.length∧h'[h19.size]? =some (.cells (nR g.2).toArray bJ (0,0))∧TreeIs W h' kk x g.2 (kR (A.take g.1))∧h'[h12.size]? =some (.cells (nR t).toArray bJ (0,0))∧TreeIs W h' kk x t (kR A)∧Upd W h21 h') (fun g=>A.length-g.1) (0,u) ⟨rfl,bi _,b21,iU,b14',iT,Upd.refl _ _⟩ ?_
 rintro I ⟨i,u⟩ ti h24 ⟨rfl,hi,cu,jU,ct,jT,hu⟩ hI;simp only at hi cu jU;have s24:=hu.size;refine aA (fun hlt=>?_) fun hge=>?_
 ·have hlt:i<A.length:=by have:(i:Int)<(e.len:Int):=hlt;omega
  obtain⟨a,ha,_,hv⟩:=(hse'.upd hu fun y hy=>.inl hy).at (ai hlt)
  refine⟨⟨by simp only;omega,by simp only;omega⟩,a,ha,_,hv 0 _ rfl,_,hv 1 _ rfl,zk (p:=A[i]) fun h29 b29 k29=>?_⟩
  have cu29:=k29.get0 cu;have s29:=k29.size;refine⟨_,vc cu29 0,_,vc cu29 1,_,vc cu29 2,_,vc cu29 3,_,vc cu29 4,_,vc cu29 5,_,vc b29 0,_,vc b29 1,?_⟩;have hp:=f2 _ (bE hlt);refine AL (jU.upd0 k29) (bigW (by omega)) (smA i).up (by have:=(smA i).len;omega) A[i] (by omega) (by omega) fun h39 u' i39 _ k39=>?_
  refine f7 (c:=nR u) (vs:=nR u') (k39.get0 cu29) rfl fun h40 b40 u40=>?_
  have e1:=Ld hlt;simp only;rw[eu hlt (by omega)];refine hI (i+1,u') _ _ ⟨rfl,hlt,b40,?_,u40.oth (k39.get0 (k29.get0 ct)) hne,((jT.upd0 (k29.tr k39)).updM u40 fun y hy=>.inl (hy▸hWu)),(hu.tr (k29.tr k39).wide).tr (hu' u40)⟩ (by simp only;omega)
  simp only;rw[e1];exact i39.updM u40 fun y hy=>.inl (hy▸hWu)
 ·obtain rfl:i=A.length:=by have:¬(i:Int)<(e.len:Int):=hge;omega
  rw[cx]at jU;have smA':=smA A.length;rw[cx]at smA';refine Join.intro (fun b h'=>b=false∧Upd No h24 h') (fun R hR=>?_) ?_
  ·refine ak.2 ⟨_,vc ct 0,_,vc ct 1,_,vc ct 2,_,vc ct 3,_,vc ct 4,_,vc ct 5,_,vc cu 0,_,vc cu 1,_,vc cu 2,_,vc cu 3,_,vc cu 4,_,vc cu 5,?_⟩
   refine FC jT jU smA'.up smA'.fits (by have:=smA'.len;omega) smA'.up smA'.fits (by have:=smA'.len;omega) fun h25 k25=>hR _ _ ⟨?_,k25⟩
   rw[DH jT jU,decide_eq_true rfl];rfl
  rintro _ h57 ⟨rfl,k57⟩;refine ak.2 ?_;have s57:=k57.size;refine LoopP.ghost (fun(g:Nat×Tr×Tr) (ti:Int) h'=>ti=(g.1:Int)∧g.1≤B.length∧h'[h12.size]? =some (.cells (nR g.2.1).toArray bJ (0,0))∧TreeIs W h' kk x g.2.1 (Ki (kR A) B g.1)∧h'[h19.size]? =some (.cells (nR g.2.2).toArray bJ (0,0))∧TreeIs W h' kk x g.2.2 (Ki (kR A) B g.1)∧Upd W h21 h'∧Sm (40+g.1) (Ki (kR A) B g.1)) (fun g=>B.length-g.1) (0,t,u) ⟨rfl,bi _,k57.get0 ct,jT.upd0 k57,k57.get0 cu,jU.upd0 k57,hu.tr k57.wide,smA'⟩ ?_
  clear ct jT cu jU hI;rintro I2 ⟨i,t,u⟩ ti h60 ⟨rfl,hi,ct,jT,cu,jU,hu60,sm⟩ hI;simp only at hi ct jT cu jU sm;have s60:=hu60.size;have hl1:=sm.len;have hlM:(Ki (kR A) B i).length≤1000000:=by omega
  refine aA (fun hlt=>?_) fun hge=>?_
  ·have hlt:i<B.length:=by have:(i:Int)<(e'.len:Int):=hlt;omega
   have hp:=g2 _ (bE hlt);have eg:=LE (L:=kR A) hlt;refine Join.intro (fun(_:Unit) h'=>∃t' u',h'[h12.size]? =some (.cells (nR t').toArray bJ (0,0))∧TreeIs W h' kk x t' (Ki (kR A) B (i+1))∧h'[h19.size]? =some (.cells (nR u').toArray bJ (0,0))∧TreeIs W h' kk x u' (Ki (kR A) B (i+1))∧Upd W h21 h'∧Sm (40+(i+1)) (Ki (kR A) B (i+1))) (fun R hR=>?_) ?_
   ·obtain⟨a,ha,_,hv⟩:=(hsm'.upd hu60 fun y hy=>.inl hy).at (ai hlt)
    refine⟨⟨by simp only;omega,by simp only;omega⟩,a,ha,_,hv 0 _ rfl,_,hv 1 _ rfl,zk (p:=B[i]) fun h66 b66 k66=>⟨by decide,?_⟩⟩
    have ct6:=k66.get0 ct;have s66:=k66.size;have z66:=bD b66;have em:eX (i:Int) 3=((i%3:Nat):Int):=by rw[Int.tmod_eq_emod_of_nonneg (by omega)];rfl
    simp only;rw[em];refine CondP.intro (fun ec=>?_) fun ec=>?_
    ·have ec:i%3=2:=by
      have:((i%3:Nat):Int)=2:=by simpa using ec
      omega
     rw[if_pos ec]at eg;refine⟨_,vc ct6 0,_,vc ct6 1,_,vc ct6 2,_,vc ct6 3,_,vc ct6 4,_,vc ct6 5,_,vc b66 0,?_⟩;refine y5 (jT.upd0 k66) (bigW (by omega)) sm.up sm.fits hlM B[i].1 (by omega) fun h75 t' i75 _ k75=>?_
     refine f7 (c:=nR t) (vs:=nR t') (k75.get0 ct6) rfl fun h76 b76 u76=>?_
     have cu76:=u76.oth (k75.get0 (k66.get0 cu)) (Ne.symm hne);have b66':=u76.oth (k75.get0 b66) (by omega);have s75:=k75.size;have s76:=u76.size;refine⟨_,vc cu76 0,_,vc cu76 1,_,vc cu76 2,_,vc cu76 3,_,vc cu76 4,_,vc cu76 5,_,vc b66' 0,?_⟩;refine y5 ((jU.upd0 (k66.tr k75)).updM u76 fun y hy=>.inl (hy▸hWt)) (bigW (by omega)) sm.up sm.fits hlM B[i].1 (by omega) fun h85 u' i85 _ k85=>?_
     refine f7 (c:=nR u) (vs:=nR u') (k85.get0 cu76) rfl fun h86 b86 u86=>?_
     refine hR _ _ ⟨t',u',u86.oth (k85.get0 b76) hne,?_,b86,?_,(((hu60.tr (k66.tr k75).wide).tr (ht u76)).tr k85.wide).tr (hu' u86),?_⟩
     ·rw[eg];exact((i75.updM u76 fun y hy=>.inl (hy▸hWt)).upd0 k85).updM u86 fun y hy=>.inl (hy▸hWu)
     ·rw[eg];exact i85.updM u86 fun y hy=>.inl (hy▸hWu)
     ·rw[eg];exact sm.del _
    ·have ec:¬i%3=2:=fun e'=>by
      have:¬((i%3:Nat):Int)=2:=by simpa using ec
      omega
     rw[if_neg ec]at eg;refine⟨_,vc ct6 0,_,vc ct6 1,_,vc ct6 2,_,vc ct6 3,_,vc ct6 4,_,vc ct6 5,_,vc b66 0,_,vc b66 1,?_⟩;refine AL (jT.upd0 k66) (bigW (by omega)) sm.up hlM B[i] (by omega) (by omega) fun h75 t' i75 _ k75=>?_
     refine f7 (c:=nR t) (vs:=nR t') (k75.get0 ct6) rfl fun h76 b76 u76=>?_
     have cu76:=u76.oth (k75.get0 (k66.get0 cu)) (Ne.symm hne);have b66':=u76.oth (k75.get0 b66) (by omega);have s75:=k75.size;have s76:=u76.size;refine⟨_,vc cu76 0,_,vc cu76 1,_,vc cu76 2,_,vc cu76 3,_,vc cu76 4,_,vc cu76 5,_,vc b66' 0,_,vc b66' 1,?_⟩;refine AL ((jU.upd0 (k66.tr k75)).updM u76 fun y hy=>.inl (hy▸hWt)) (bigW (by omega)) sm.up hlM B[i] (by omega) (by omega) fun h85 u' i85 _ k85=>?_
     refine f7 (c:=nR u) (vs:=nR u') (k85.get0 cu76) rfl fun h86 b86 u86=>?_
     refine hR _ _ ⟨t',u',u86.oth (k85.get0 b76) hne,?_,b86,?_,(((hu60.tr (k66.tr k75).wide).tr (ht u76)).tr k85.wide).tr (hu' u86),?_⟩
     ·rw[eg];exact((i75.updM u76 fun y hy=>.inl (hy▸hWt)).upd0 k85).updM u86 fun y hy=>.inl (hy▸hWu)
     ·rw[eg];exact i85.updM u86 fun y hy=>.inl (hy▸hWu)
     ·rw[eg];exact sm.ins hp
   ·rintro _ h' ⟨t',u',q1,q2,q3,q4,q5,q6⟩
    simp only;rw[eu hlt (by omega)];exact hI (i+1,t',u') _ _ ⟨rfl,hlt,q1,q2,q3,q4,q5,q6⟩ (by simp only;omega)
  ·refine⟨_,vc ct 0,_,vc ct 1,_,vc ct 2,_,vc ct 3,_,vc ct 4,_,vc ct 5,_,vc cu 0,_,vc cu 1,_,vc cu 2,_,vc cu 3,_,vc cu 4,_,vc cu 5,?_⟩
   refine FC jT jU sm.up sm.fits (by omega) sm.up sm.fits (by omega) fun h25 k25=>?_
   rw[DH jT jU,decide_eq_true rfl];have ct2:=k25.get0 ct;refine ax.2 ⟨_,vc ct2 0,_,vc ct2 1,_,vc ct2 2,_,vc ct2 3,_,vc ct2 4,_,vc ct2 5,?_⟩;have t0:Tab h25:=(tb21.upd hu60 fun hy=>by have:=hWi _ hy;have:=k07.size;omega).upd k25 id
   refine JF (jT.upd0 k25) t0 sm.up (by omega) fun h26 k26=>⟨rfl,fin ((hu60.tr k25.wide).tr k26.wide)⟩
end Go.Proofs
