/- A part of the proof that the named laws of this program answer true, whatever the input. -/
import Derived.Test.YtncppacbfagpgaaGreatDoorPart11
import Derived.Test.YtncppacbfagpgaaGreatDoorPart7
import Derived.Test.YtncppacbfagpgaaGreatDoorPart9
import Derived.Test.YtncppacbfagpgaaGreatDoorPart10
import Derived.Test.YtncppacbfagpgaaGreatDoorPart8
import Derived.Test.YtncppacbfagpgaaGreatDoorPart2
import Derived.Test.YtncppacbfagpgaaGreatDoorPart0
import Derived.Test.YtncppacbfagpgaaGreatDoorPart4
open Array renaming size→co
open BitVec renaming ofInt→av,ofInt_natCast→ga,toNat_ofNat→qA
open ByteArray renaming size_extract→gk
open Int renaming fdiv→dG,toNat_natCast→aU,natCast_pow→uw,eq_ofNat_of_zero_le→qM,tdiv→md,tdiv_eq_ediv_of_nonneg→f8,tmod_eq_emod_of_nonneg→oE
open List renaming getElem?_eq_getElem→af,pairwise_iff_getElem→ce,length_append→ac,flatten_append→iy,getElem_mem→aZ,replicate→fg,replicate_succ→jV
open Nat renaming mod_eq_of_lt→dW,zero_testBit→g7,zero_add→aR,shiftRight_eq_div_pow→cO,eq_of_testBit_eq→jx,le_refl→al,zero_le→aS,lt_of_le_of_lt→gU,add_zero→eN,lt_or_ge→bW,add_assoc→lL,mul_comm→j1,pow_succ→ph,pow_add→qK,mod_lt→sW,mul_le_mul_right→cz,mul_assoc→tA,add_mul→km,succ_mul→lA,min_eq_left→bJ,le_of_lt→rM,pow_le_pow_right→fX
namespace Go.Proofs
open Go Go.Lift
abbrev tzL:List Nat:= [0,1,28,2,29,14,24,3,30,22,20,15,25,17,4,8,31,27,13,23,21,19,16,7,26,12,18,6,11,5,10,9]
def Tab(h:ae):Prop:=∀i,i<32→aP h ⟨0,i,none⟩=some (.int .u8 ((tzL.getD i 0:Nat):Int))
theorem Tab.upd{M:Nat→Prop}{h h':ae}(t:Tab h)(k:Upd M h h')(hm:¬M 0):Tab h':=fun i hi=>k.cell (t i hi) hm
theorem ZQ:∀c:Fin 32,dG (IntKind.wrap .u32 (IntKind.wrap .u32 ((2^c.val:Nat):Int)*125613361)) (2^(min (27:Int).toNat (IntKind.bits .u32)))=((2^c.val*125613361%4294967296/134217728:Nat):Int)∧2^c.val*125613361%4294967296/134217728<32∧tzL.getD (2^c.val*125613361%4294967296/134217728) 0=c.val:=by decide+kernel
theorem XF{a b:Nat}(d:a<4294967296)(c:b<4294967296):(av (IntKind.bits .u32) (a:Int)&&&av (IntKind.bits .u32) (b:Int)).toNat=a&&&b:=by
 rw[show IntKind.bits .u32=32 from rfl,ga,ga,BitVec.toNat_and,qA,qA,dW (show a<2^32 from d),dW (show b<2^32 from c)]
theorem aaO{h:ae}(tb:Tab h){x c:Nat}(hx:x<4294967296)(hc:c<32)(a:x.testBit c=true)(k:∀j,j<c→x.testBit j=false){K:Int→ae→Prop}(i:K (c:Int) h):HC PG jZ [.int .u32 (x:Int)] [.c (.int .i64)] K h:=by
 refine uV x ?_;unfold nM bI cl;have m:0<x:=by
  rcases Nat.eq_zero_or_pos x with e|e
  ·rw[e,g7]at a;cases a
  ·exact e
 refine CondP.intro (fun e=>?_) fun _=>?_
 ·have e:(x:Int)=0:=by simpa using e
  omega
 have g:IntKind.wrap .u32 (0-(x:Int))=((4294967296-x:Nat):Int):=by rw[IntKind.wrap_u32];omega
 rw[g,XF hx (by omega),YN a k hc hx];obtain⟨d,b,f⟩:=ZQ ⟨c,hc⟩;simp only at d b f;simp only[Bd];rw[d];refine⟨by decide,⟨by omega,by omega⟩,((tzL.getD (2^c*125613361%4294967296/134217728) 0:Nat):Int),?_,?_⟩
 ·rw[Nat.mul_one,cj,aR,aU];exact tb _ b
 ·rw[f,fx (by omega)];exact i
def dk(d k:Nat):Nat:=(d>>>k)<<<k
theorem Fg(d k i:Nat):(dk d k).testBit i=(decide (k≤i)&&d.testBit i):=by
 unfold dk;rw[Nat.testBit_shiftLeft];by_cases h:k≤i
 ·rw[decide_eq_true (show i≥k from h),Nat.testBit_shiftRight];congr 2;omega
 ·rw[decide_eq_false (show ¬i≥k from h)];rfl
theorem ZB(d k:Nat):dk d k≤d:=by
 unfold dk;rw[Nat.shiftLeft_eq,cO];exact Nat.div_mul_le_self ..
theorem Y2(d:Nat):dk d 0=d:=jx fun i=>by rw[Fg];simp
theorem LC{d:Nat}(hd:d<4294967296){s:Nat}{h:ae}(y:h[s]? =some (.cells #[.int .u32 (d:Int)] yd (0,0)))
  {BODY:Int→(Option Ex→ae→Prop)→ae→Prop} {N:ae→Prop} {X:Nat→ae→Prop} {R:ae→Prop} (Inv:Nat→ae→Prop) (M:Nat→Prop)
  (J:∀k a,Inv k a→Tab a) (h0:Inv 0 h) (f:∀k a h2,Inv k a→h.size≤a.size→Upd (fun b=>b=s∨h.size≤b) a h2→Inv k h2)
  (hM:∀b,M b→b≠s∧b<h.size)
  (step:∀k c a (KK:Option Ex→ae→Prop),Inv k a→k≤c→c<32→d.testBit c=true→(∀j,k≤j→j<c→d.testBit j=false)→(∀h2,Inv (c+1) h2→Upd M a h2→KK none h2)→BODY (c:Int) KK a)
  (W:∀k a,Inv k a→(∀j,k≤j→j<32→d.testBit j=false)→a[h.size]? =some (.deferred (some []))→N a):
  RangeP PG (.func (.func kE) #[] #[.pointer (some ⟨s,0,none⟩)]) [.c (.int .i64)] h
   (fun LB bz (x:Int) k E=>(E[(co h+1)]? =some LB∧At (Array.setIfInBounds E (co h+1) bz) (fun Q=>BODY x k Q))) N X R:=by
 refine⟨fun lo hlo p=>?_⟩
 refine⟨kE,#[],#[.pointer (some ⟨s,0,none⟩)],rfl,?_⟩;have zb:=bD y;have k1:Upd No h ((h.push (.deferred (some []))).push (lo .ready none)):=(Upd.push No _ _).tr (Upd.push No _ _);have T:((h.push (.deferred (some []))).push (lo .ready none))[h.size+1]? =some (lo .ready none):=by
  have:=zw (h.push (.deferred (some []))) (lo .ready none);rwa [Array.size_push]at this
 have l1:((h.push (.deferred (some []))).push (lo .ready none))[h.size]? =some (.deferred (some [])):=(Upd.push No _ _).get0 (zw h _);have b1:=k1.get0 y;have i1:=f 0 _ _ h0 (al _) k1.wide;have z1:=bD T;generalize (h.push (.deferred (some []))).push (lo .ready none)=a at k1 T l1 b1 i1 z1;refine Bb (.func (.yield (h.size+1)) #[] #[]) ⟨s,0,none⟩ ?_;unfold qx
 refine LoopP.ghost (fun(k:Nat) (_:Unit) h'=>Inv k h'∧h'[s]? =some (.cells #[.int .u32 ((dk d k:Nat):Int)] yd (0,0))∧h'[h.size]? =some (.deferred (some []))∧h'[h.size+1]? =some (lo .ready none)∧k≤32) (fun k=>33-k) 0 ⟨i1,by rw[Y2];exact b1,l1,T,aS _⟩ ?_
 rintro I k ⟨⟩ h' ⟨hi,u,D,m,hk32⟩ hI;have zz:=bD m;have B:=gU (ZB d k) hd;refine⟨_,bH u,CondP.intro (fun e=>?_) fun e=>?_⟩
 ·have V:0<dk d k:=by
   have:((dk d k:Nat):Int)≠0:=by simpa using e
   omega
  obtain⟨c,hc,v,z⟩:=WW (n:=32) B V;have w:=v;rw[Fg,Bool.and_eq_true,decide_eq_true_iff]at w;refine⟨_,bH u,aaO (J k _ hi) B hc v z ?_⟩;refine p (c:Int) h' _ m ⟨m,?_⟩;have G:Upd (· =h.size+1) h' (h'.setIfInBounds (h.size+1) (lo .busy none)):=Upd.set _ _ rfl
  have Y:=kY (o:=lo .busy none) m;have sb:=G.size;refine bP ?_;generalize h'.setIfInBounds (h.size+1) (lo .busy none)=h2 at G Y sb;refine step k c h2 _ (f k _ _ hi (by omega) (G.mono fun b y=>.inl (.inr (by omega)))) w.1 hc w.2 (fun j a h2=>?_) fun U P q=>?_
  ·have:=z j h2
   rw[Fg,decide_eq_true a]at this;simpa using this
  have F:=q.get Y fun e=>by have:=(hM _ e).2;omega
  have S:=q.get (G.get u (show ¬s=h.size+1 by omega)) fun e=>(hM _ e).1 rfl
  have L:=q.get (G.get D (show ¬h.size=h.size+1 by omega)) fun e=>by have:=(hM _ e).2;omega
  refine⟨F,?_⟩;have t:Upd (· =h.size+1) U (U.setIfInBounds (h.size+1) (lo .ready none)):=Upd.set _ _ rfl
  have l5:=kY (o:=lo .ready none) F;have g:=t.get S (show ¬s=h.size+1 by omega)
  have H:=t.get L (show ¬h.size=h.size+1 by omega)
  have s3:=q.size;have Z:=f (c+1) _ _ P (by omega) (t.mono fun b y=>.inl (.inr (by omega)))
  simp only[Option.isNone_none,if_true];refine aj.2 ?_;generalize U.setIfInBounds (h.size+1) (lo .ready none)=h5 at t l5 g H Z;refine⟨_,bH g,_,bH g,?_⟩;have ew:IntKind.wrap .u32 (((dk d k:Nat):Int)-1)=((dk d k-1:Nat):Int):=by rw[IntKind.wrap_u32];omega
  have ea:dk d k&&&(dk d k-1)=dk d (c+1):=by
   refine jx fun i=>?_
   rw[Vm v z,Fg,Fg];by_cases C:c<i
   ·rw[decide_eq_true C,decide_eq_true (show k≤i by omega),decide_eq_true (show c+1≤i by omega)];simp
   ·rw[decide_eq_false C,decide_eq_false (show ¬c+1≤i by omega)];simp
  simp only[Bd];rw[ew,XF B (by omega),ea];have O:IntKind.wrap .u32 ((dk d (c+1):Nat):Int)=((dk d (c+1):Nat):Int):=by have:=ZB d (c+1);rw[IntKind.wrap_u32];omega
  rw[O];refine⟨iV g (by simp),un g fun h6 K A=>?_⟩
  have s5:=t.size;refine hI (c+1) () h6 ⟨f _ _ _ Z (by omega) (A.mono fun b y=>.inl (.inl y)),K,A.oth H (by omega),A.oth l5 (by omega),hc⟩ (by omega)
 ·have hz:dk d k=0:=by
   have:((dk d k:Nat):Int)=0:=by simpa using e
   omega
  have t:Upd (· =h.size+1) h' (h'.setIfInBounds (h.size+1) (lo .exhausted none)):=Upd.set _ _ rfl
  refine⟨.ready,none,by decide,m,?_⟩
  refine W k _ (f k _ _ hi (by omega) (t.mono fun b y=>.inl (.inr (by omega)))) (fun j a _=>?_) (t.get D (show ¬h.size=h.size+1 by omega))
  have:=Fg d k j;rw[hz,g7,decide_eq_true a]at this;simpa using this.symm
end Go.Proofs
namespace Go.Proofs
open Go Go.Lift
abbrev Zu(n:Nat):List Value:= [.int .i64 (n:Int)]
theorem Z8(n:Nat):(Zu n).length=1∧0<1:=⟨rfl,by omega⟩
theorem EE{h:ae}{b:Nat}{c:Array Value}{t:TypeId}(a:h[b]? =some (.cells c t (0,0))):aP h ⟨b,0,none⟩=c[0]?:=bH a
theorem HF{h:ae}{b:Nat}{c c':Array Value}{t:TypeId}{v:Value}{k:ae→Prop}(d:h[b]? =some (.cells c t (0,0))) (hi:0<c.size) (e:c.setIfInBounds 0 v=c') (g:∀h',h'[b]? =some (.cells c' t (0,0))→Upd (· =b) h h'→k h'):Wr h ⟨b,0,none⟩∧At (hset h ⟨b,0,none⟩ v) k:=
 ⟨iV d hi,un d fun h' a f=>g h' (e▸a) f⟩
theorem mB{h:ae}{b:Nat}{cs:List Value}{t:TypeId}(a:h[b]? =some (.cells cs.toArray t (0,0))):SRow h (some ⟨b,0,none⟩) cs.length cs:=
 ⟨rfl,.inr ⟨_,rfl,oI a fun i v hv=>by rw[aR,List.getElem?_toArray];exact hv⟩⟩
theorem Ir{W:Nat→Prop}{x:Hs}{k:ByteArray}{h:ae}{s:SliceV}{way:List Nat}(d:Sl Zu 1 W h s way)(n:way.length≤13)(g:∀i c,way[i]? =some c→ck x i k=c) {K:Bool→ae→Prop} (j:K true h):HC PG pJ [.int .u64 (eP x k),.slice s.a s.len s.cap] [.c .bool] K h:=by
 refine KI (eP x k) s ?_;unfold BD bI cl ng;have e:=d.len;refine LoopP.ghost (fun(i:Nat) (t:Int) h'=>t=(i:Int)∧i≤way.length∧h'=h) (fun i=>way.length-i) 0 ⟨rfl,aS _,rfl⟩ ?_
 rintro I i t h' ⟨rfl,hi,rfl⟩ m;refine az (fun b=>?_) fun _=>j
 have b:i<way.length:=by omega
 obtain⟨a,f,_,hv⟩:=d.at0 (af b);refine⟨⟨by omega,by omega⟩,a,f,_,hv,Sb (x:=x) (k:=k) (lev:=i) (by omega) ?_⟩
 rw[g i _ (af b),bne_self_eq_false];refine aj.2 ?_;rw[dd b (by omega)];exact m (i+1) _ _ ⟨rfl,b,rfl⟩ (by omega)
theorem UR{W:Nat→Prop}{h:ae}{s:SliceV}{l:List Pr}(c:Sl eC 2 W h s l)(j:cf l)(p:l.length≤1000000){K:Bool→ae→Prop}(n:K true h):HC PG yA [.slice s.a s.len s.cap] [.c .bool] K h:=by
 refine NZ s ?_;unfold Er bI cl aK;have f:=c.len;refine LoopP.ghost (fun(i:Nat) (t:Int) h'=>t=((i+1:Nat):Int)∧h'=h) (fun i=>l.length-i) 0 ⟨rfl,rfl⟩ ?_
 rintro I i t h' ⟨rfl,rfl⟩ o;refine az (fun b=>?_) fun _=>n
 have b:i+1<l.length:=by omega
 have m:IntKind.wrap .i64 (((i+1:Nat):Int)-1)=(i:Int):=by rw[fx (by omega)];omega
 rw[m];obtain⟨a,k,_,hv⟩:=c.at (af (show i<l.length by omega))
 obtain⟨a',e,_,d⟩:=c.at (af b);refine⟨⟨by omega,by omega⟩,a,k,_,hv 0 _ rfl,⟨by omega,by omega⟩,a',e,_,d 0 _ rfl,?_⟩
 have:=ce.1 j i (i+1) (by omega) b (by omega);have g:Op.bytesLess l[i].1.toList l[i+1].1.toList=true:=this;rw[g];refine aj.2 ?_;rw[dd b (by omega)];exact o (i+1) _ _ ⟨rfl,rfl⟩ (by omega)
theorem Uq(x:Hs)(lev:Nat)(l:List Pr):(ia x lev l).length+(lN x lev l).flatten.length=l.length:=by
 have h:=xw x lev l 32;have d:(l.filter fun p=>decide (ck x lev p.1<32))=l:=List.filter_eq_self.2 fun p _=>decide_eq_true (yX ..)
 rw[d]at h;have:∀n,(fm (fun c=>jM (part x lev c l)) n).length+(fm (fun c=>fQ (part x lev c l)) n).flatten.length=((List.range n).map fun c=>(part x lev c l).length).sum:=by
  intro n;induction n with
  |zero=>simp[fm]
  |succ n ih=>
   rw[jp,jp,List.range_succ,List.map_append,List.sum_append];simp only[ac,iy,List.map_cons,List.map_nil,List.sum_cons,List.sum_nil,eN];generalize part x lev n l=q;have:(jM q).toList.length+(fQ q).toList.flatten.length=q.length:=by
    match q with
    | []=>simp[jM,fQ]
    | [a]=>simp[jM,fQ]
    |a::b::q=>simp[jM,fQ]
   omega
 have:=this 32;unfold ia lN;omega
theorem Ns{β:Type}{g:Nat→Option β}{k:Nat}:∀{c:Nat},k≤c→(∀j,k≤j→j<c→g j=none)→fm g c=fm g k
 |0,h,_=>by rw[show k=0 by omega]
 |c+1,h,hn=>by
  rcases bW k (c+1)with a|a
  ·rw[jp,hn c (by omega) (by omega),Ns (by omega) fun j b h2=>hn j b (by omega)];simp
  ·rw[show k=c+1 by omega]
end Go.Proofs
namespace Go.Proofs
open Go Go.Lift
theorem Us{W:Nat→Prop}{x:Hs}{h:ae}{m:Nat}{s:Slots}{c:Nat}{l:List Pr}(t:SlotIs W x h m s c l)(b:(s.p c).isSome):∃p,l= [p]∧s.p c=some p:=by
 rcases t with⟨_,a,_⟩|⟨p,d,a,_⟩|⟨_,a,_⟩
 ·rw[a]at b;cases b
 ·exact⟨p,d,a⟩
 ·rw[a]at b;cases b
theorem Ut{W:Nat→Prop}{x:Hs}{h:ae}{m:Nat}{s:Slots}{c:Nat}{l:List Pr}(t:SlotIs W x h m s c l)(a:(s.k c).isSome):2≤l.length∧∃b,s.k c=some (some ⟨b,0,none⟩)∧TrieAt W x h m b l:=by
 rcases t with⟨_,_,h2⟩|⟨p,_,_,h2⟩|⟨d,_,b,h2,e⟩
 ·rw[h2]at a;cases a
 ·rw[h2]at a;cases a
 ·exact⟨d,b,h2,e⟩
theorem ME{W:Nat→Prop}{h:ae}{s:SliceV}{way:List Nat}{c:Nat}{xs:List Value}(b:Sl Zu 1 W h s way)(hc:s.cap=s.len)(f:way.length≤13)(hx:xs= [.int .i64 (c:Int)]){K:SliceV→ae→Prop}
  (d:∀s' h',Sl Zu 1 No h' s' (way++ [c])→s'.len≤s'.cap→Upd No h h'→K s' h'):AppP (some [.int .i64 0]) 1 8 tE s.a s.len s.cap 1 xs h K:=by
 subst hx;refine PX (ys:= [c]) b rfl rfl rfl (by omega) (by omega) (by simp;omega) fun s' h' a e=>d s' h' (a.sl fun _ _ _ h=>h) a.cap e
def OnWay(x:Hs)(way:List Nat)(l:List Pr):Prop:=∀p∈l,∀i c,way[i]? =some c→ck x i p.1=c
theorem OnWay.part{x:Hs}{way:List Nat}{l:List Pr}{c:Nat}(o:OnWay x way l):OnWay x (way++ [c]) (part x way.length c l):=fun p a i d hd=>by
 have a:=mS.1 a;rcases bW i way.length with h|h
 ·rw[List.getElem?_append_left h]at hd;exact o p a.1 i d hd
 ·rw[List.getElem?_append_right h]at hd
  have:i-way.length=0:=by have:=(List.getElem?_eq_some_iff.1 hd).1;simp at this;omega
  rw[this]at hd;simp only[List.getElem?_cons_zero,Option.some.injEq]at hd;subst hd;rw[show i=way.length by omega];exact a.2
theorem Xp{W:Nat→Prop}{x:Hs}:∀(m:Nat),m≤13→∀{h:ae} {b:Nat} {l:List Pr} {sw:SliceV} {way:List Nat},TrieAt W x h m b l→Tab h→Sl Zu 1 No h sw way→sw.len≤sw.cap→way.length=13-m→OnWay x way l→cf l→l.length≤60000→∀{K:Int×Bool→ae→Prop},(∀h',Upd No h h'→K ((l.length:Int),true) h')→
  HC PG pK [.agg #[.int .u64 x.k0,.int .u64 x.k1,.int .u64 x.mask],.pointer (some ⟨b,0,none⟩),.slice sw.a sw.len sw.cap] [.c (.int .i64),.c .bool] K h:=by
 intro m;induction m with
 |zero=>
  intro _ h b l sw way t tb hs hcp hw U hr hn K hk;refine Bv (x.k0,x.k1,x.mask) (some ⟨b,0,none⟩) sw ?_;unfold xk cl ag aK nv AC vO ld ax lM hP uy vN Uf;refine aW fun h1 b1 k1=>aW fun h2 b2 k2=>aW fun h3 b3 V=>aW fun h4 b4 L=>aW fun h5 b5 M=>?_
  have J:Upd No h h5:=(((k1.tr k2).tr V).tr L).tr M;have c1:=M.get0 (L.get0 (V.get0 (k2.get0 b1)));have c2:=M.get0 (L.get0 (V.get0 b2));have c3:=M.get0 (L.get0 b3);have c4:=M.get0 b4;have s1:=k1.size;have s2:=k2.size;have s3:=V.size;have s4:=L.size;have z3:=bD b3;have z4:=bD b4;have z5:=bD b5;obtain⟨sp,sk,ow,hb,hsp,_⟩:=(BuckAt.upd t J fun _ h=>h.elim:BuckAt W h5 b l).ex
  refine⟨_,EE c2,q9 hb hsp (by omega) fun s8 D ho8 z=>?_⟩
  refine⟨_,EE (z.get0 c2),gu (z.get0 hb) (au.2 ?_)⟩;have d1:=z.get0 c1;have d3:=z.get0 c3;have d4:=z.get0 c4;have d5:=z.get0 b5;have s8':=z.size;have hs8:Sl eC 2 No D s8 l:=ho8.sl fun _ _ _ h=>h
  have hlen:=hs8.len;have hwl:=hs.len;have hs':Sl Zu 1 No D sw way:=(hs.upd J fun _ h=>h.elim).upd z fun _ h=>h.elim
  refine Join.plain ⟨sw,EE d3,?_⟩;rw[show((sw.len:Int) !=(13:Int))=false by rw[bne_eq_false_iff_eq];omega]
  refine aj.2 (UR hs8 hr (by omega) (aj.2 ?_));refine LoopP.ghost (fun(i:Nat) (t:Int) h'=>t=(i:Int)∧i≤l.length∧Upd No D h') (fun i=>l.length-i) 0 ⟨rfl,aS _,Upd.refl _ _⟩ ?_
  rintro I i t h' ⟨rfl,hi,T⟩ hI;refine az (fun Q=>?_) fun hge=>?_
  ·have Q:i<l.length:=by omega
   obtain⟨a,ha,_,hv⟩:=(hs8.upd T fun _ h=>h.elim).at (af Q)
   refine⟨⟨by omega,by omega⟩,a,ha,_,hv 0 _ rfl,_,hv 1 _ rfl,uB (p:=l[i]) fun h9 b9 k9=>?_⟩
   have A:=T.tr k9;refine⟨_,vc (A.get0 d1) 0,_,vc (A.get0 d1) 1,_,vc (A.get0 d1) 2,_,vc b9 0,sw,EE (A.get0 d3),uP fun h10 k10=>⟨EE (k10.get0 (A.get0 d3)),?_⟩⟩
   refine Ir ((hs'.upd A fun _ h=>h.elim).upd k10 fun _ h=>h.elim) (by omega) (fun j c hj=>U _ (aZ Q) j c hj) (aj.2 ?_)
   rw[dd Q (by omega)];exact hI (i+1) _ _ ⟨rfl,Q,A.tr k10⟩ (by omega)
  ·have hil:i=l.length:=by omega
   subst hil;refine HF (T.get0 d4) (by simp) rfl fun h9 b9 A=>HF (A.oth (T.get0 d5) (by omega)) (by simp) rfl fun h10 b10 v=>?_
   refine⟨_,EE (v.oth b9 (by omega)),_,EE b10,?_⟩;have e:((s8.len:Nat):Int)=(l.length:Int):=by omega
   rw[e];exact hk _ ((((J.tr z).tr T).own A (by omega)).own v (by omega))
 |succ m ih=>
  intro hm h b l sw way t tb hs hcp hw U hr hn K hk;refine Bv (x.k0,x.k1,x.mask) (some ⟨b,0,none⟩) sw ?_;unfold xk cl ag aK nv AC vO ld ax lM hP uy vN Uf;obtain⟨sl,nd,hs0⟩:=t;have O:∀c,c<32→SlotIs W x h m sl c (part x (12-m) c l):=hs0;refine aW fun h1 b1 k1=>aW fun h2 b2 k2=>aW fun h3 b3 V=>aW fun h4 b4 L=>aW fun h5 b5 M=>?_
  have J:Upd No h h5:=(((k1.tr k2).tr V).tr L).tr M;have c1:=M.get0 (L.get0 (V.get0 (k2.get0 b1)));have c2:=M.get0 (L.get0 (V.get0 b2));have c3:=M.get0 (L.get0 b3);have c4:=M.get0 b4;have s1:=k1.size;have s2:=k2.size;have s3:=V.size;have s4:=L.size;have z1:=bD b1;have z2:=bD b2;have z3:=bD b3;have z4:=bD b4;have z5:=bD b5;obtain⟨d,n,sp,sk,ow,hb,bits,hsp,hsk,_⟩:=(nd.upd J fun _ h=>h.elim).ex
  have hfp:(fm sl.p 32).length≤32:=zG;refine⟨_,EE c2,q9 hb hsp (by omega) fun s8 D ho8 z=>?_⟩
  refine⟨_,EE (z.get0 c2),gu (z.get0 hb) (aj.2 ⟨sw,EE (z.get0 c3),?_⟩)⟩;have k08:=J.tr z;have hl8:=ho8.len;rw[He O]at hl8;have hwl:=hs.len;rw[decide_eq_false (by omega)];refine aj.2 (aW fun h9 b9 k9=>?_)
  have A:=z.tr k9;have s8':=z.size;have z9:=bD b9;refine HF b9 (by simp) rfl fun h10 b10 v=>?_
  have d1:=v.oth (A.get0 c1) (by omega);have d2:=v.oth (A.get0 c2) (by omega);have d3:=v.oth (A.get0 c3) (by omega);have d4:=v.oth (A.get0 c4) (by omega);have d5:=v.oth (A.get0 b5) (by omega);refine⟨sw,EE d3,sw,EE d3,sw,EE d3,⟨by omega,by omega⟩,⟨by omega,by omega⟩,?_⟩
  refine HF d3 (by simp) rfl fun H b11 C=>?_
  have s:Upd No h H:=((k08.tr k9).own v (by omega)).own C (by omega);have B:=C.oth d1 (by omega);have e2:=C.oth d2 (by omega);have e4:=C.oth d4 (by omega);have e5:=C.oth d5 (by omega);have e9:=C.oth b10 (by omega);have s11:=s.size;have s10a:=v.size;have s11a:=C.size;have F:Sl Zu 1 (fun y=>h.size≤y) H ⟨bh sw.a 0 ((sw.len:Int).toNat) 1,((sw.len:Int).toNat)-0,((sw.len:Int).toNat)-0⟩ way:=by
   have:=Sl.sub ((hs.less (W':=fun y=>h.size≤y) fun _ h=>.inr h).upd s fun _ h=>h.elim) (l:=0) (hi:=sw.len) (m:=sw.len) (c:=sw.len-0) (aS _) (by omega) (al _)
   rw[List.drop_zero,List.take_of_length_le (by omega)]at this;exact this
  have X:(⟨bh sw.a 0 ((sw.len:Int).toNat) 1,((sw.len:Int).toNat)-0,((sw.len:Int).toNat)-0⟩:SliceV).cap=(⟨bh sw.a 0 ((sw.len:Int).toNat) 1,((sw.len:Int).toNat)-0,((sw.len:Int).toNat)-0⟩:SliceV).len:=rfl;have q:H[h2.size]? =some (.cells #[sv ⟨bh sw.a 0 ((sw.len:Int).toNat) 1,((sw.len:Int).toNat)-0,((sw.len:Int).toNat)-0⟩] Tf (0,0)):=b11;clear b11;generalize (⟨bh sw.a 0 ((sw.len:Int).toNat) 1,((sw.len:Int).toNat)-0,((sw.len:Int).toNat)-0⟩:SliceV)=s0 at F X q
  obtain⟨d',n',sp',sk',ow',hb',P,_⟩:=(nd.upd s fun _ h=>h.elim).ex
  have tb11:=tb.upd s id;refine⟨_,EE e2,NA hb' (xP d' (aW fun h12 b12 k12=>?_))⟩
  have s12:=k12.size;have z12:=bD b12;refine LC (d:=d') P.d32 b12 (fun k h'=>Upd No H h') No (fun k h1 hi=>tb11.upd hi id) k12 (fun k ha hb hi hle T=>hi.trans T fun y g=>.inr (by omega)) (fun _ h=>h.elim) (fun k c ha KK hi hkc hc hdc _ hK=>?_) fun k ha hi _ hde=>?_
  ·
   have Z:=hdc;rw[P.dp c hc]at Z;obtain⟨p,hp1,hp2⟩:=Us (O c hc) Z;refine⟨_,EE (hi.get0 e2),zx (nd.upd (s.tr hi) fun _ h=>h.elim) hc fun hb kb=>?_⟩
   rw[hp2];have ib:=hi.tr kb;refine uB (p:=p) fun hc' bc kc=>?_
   have G:=ib.tr kc;have hon:∀i c',(way++ [c])[i]? =some c'→ck x i p.1=c':=by
    have:=U.part (c:=c);rw[hw,show 13-(m+1)=12-m by omega,hp1]at this
    exact this p (List.mem_singleton.2 rfl)
   refine Join.intro (fun t hd=>t=false∧Upd No hc' hd) (fun R hR=>?_) ?_
   ·refine⟨_,vc (G.get0 B) 0,_,vc (G.get0 B) 1,_,vc (G.get0 B) 2,_,vc bc 0,s0,EE (G.get0 q),?_,?_⟩
    ·refine uP fun hd f=>⟨EE (f.get0 (G.get0 q)),aW fun he be S=>⟨EE (S.get0 (f.get0 (G.get0 q))),_,mB be,?_⟩⟩
     refine ME (((F.upd G fun _ h=>h.elim).upd f fun _ h=>h.elim).upd S fun _ h=>h.elim) X (by omega) rfl fun s' hf hsf _ kf=>?_
     exact Ir hsf (by simp;omega) hon (hR _ _ ⟨rfl,(f.tr S).tr kf⟩)
    ·refine aW fun hd bd f=>⟨EE (f.get0 (G.get0 q)),vc (f.get0 bc) 0,⟨vc (f.get0 (G.get0 B)) 0,vc (f.get0 (G.get0 B)) 1,vc (f.get0 (G.get0 B)) 2⟩,?_⟩
     refine uP fun he S=>⟨EE (S.get0 (f.get0 (G.get0 q))),_,mB (S.get0 bd),?_⟩
     refine ME (((F.upd G fun _ h=>h.elim).upd f fun _ h=>h.elim).upd S fun _ h=>h.elim) X (by omega) rfl fun s' hf hsf _ kf=>?_
     exact Ir hsf (by simp;omega) hon (hR _ _ ⟨rfl,(f.tr S).tr kf⟩)
   ·rintro t hd ⟨rfl,f⟩
    exact aj.2 (hK hd (G.tr f) ((kb.tr kc).tr f))
  ·
   obtain⟨d'',n'',sp'',sk'',ow'',hb'',u,_⟩:=(nd.upd (s.tr hi) fun _ h=>h.elim).ex
   refine⟨_,EE (hi.get0 e2),Di hb'' (xP n'' (aW fun h13 b13 k13=>?_))⟩
   have i13:=hi.tr k13;have s13:=k13.size;have z13:=bD b13;have sa:=hi.size;have zde:=bD hde;have hl8':s8.len=(ia x (12-m) l).length:=hl8;have hall:=Uq x (12-m) l;have hfl:∀k,(fm (fun c=>fQ (part x (12-m) c l)) k).flatten.length≤60000∨32<k:=fun k=>by
    rcases bW 32 k with h|h
    ·exact .inr h
    ·refine .inl ?_
     have:((fm (fun c=>fQ (part x (12-m) c l)) k).flatten).length≤(lN x (12-m) l).flatten.length:=by
      unfold lN;have hj:∀j,∃r,fm (fun c=>fQ (part x (12-m) c l)) (k+j)=fm (fun c=>fQ (part x (12-m) c l)) k++r:=fun j=>by
       induction j with
       |zero=>exact⟨[],by simp⟩
       |succ j ihj=>obtain⟨r,hr⟩:=ihj;exact⟨r++(fQ (part x (12-m) (k+j) l)).toList,by rw[←lL,jp,hr,List.append_assoc]⟩
      have this:=hj (32-k);rw[show k+(32-k)=32 by omega]at this
      obtain⟨r,hr⟩:=this;rw[hr,iy,ac];omega
     omega
   refine LC (d:=n'') u.n32 b13 (fun k h'=>k≤32∧Upd (· =D.size) ha h'∧h'[D.size]? =some (.cells #[.int .i64 (((ia x (12-m) l).length+(fm (fun c=>fQ (part x (12-m) c l)) k).flatten.length:Nat):Int)] tE (0,0))) (· =D.size)
    (fun k hx g=>(tb11.upd hi id).upd g.2.1 fun e=>by have e:0=D.size:=e;omega) ⟨aS _,k13.wide,?_⟩ (fun k hx g hz hle T=>⟨hz.1,hz.2.1.trans T fun y g=>.inr (by omega),T.get hz.2.2 (by omega)⟩) (fun y g=>⟨by have g:y=D.size:=g;omega,by have g:y=D.size:=g;omega⟩) (fun k c hx KK g hkc hc hnc hno hK=>?_) fun k hx g hno hdx=>?_
   ·have:=i13.get0 e9
    rw[show((ia x (12-m) l).length+(fm (fun c=>fQ (part x (12-m) c l)) 0).flatten.length:Nat)=s8.len by rw[hl8'];simp[fm]]
    exact this
   ·obtain⟨hk32,w,N⟩:=g
    have hnc':=hnc;rw[u.nk c hc]at hnc';obtain⟨h2l,kb,hkb,tk⟩:=Ut (O c hc) hnc';have E:∀{y:Nat} {o:Obj},H[y]? =some o→y≠D.size→hx[y]? =some o:=fun g hne=>w.get (hi.get0 g) hne
    have uW:Upd No h hx:=(s.tr hi).trans w fun y g=>.inr (by have g:y=D.size:=g;omega)
    refine⟨_,EE (E e2 (by omega)),vV (nd.upd uW fun _ h=>h.elim) hc ?_⟩
    rw[hkb];have hmc:fQ (part x (12-m) c l)=some (part x (12-m) c l):=by unfold fQ;rw[if_pos h2l]
    have hskip:fm (fun c=>fQ (part x (12-m) c l)) c=fm (fun c=>fQ (part x (12-m) c l)) k:=Ns hkc fun j h1 h2=>by
     have:=hno j h1 h2;rw[u.nk j (by omega),(HQ (O j (by omega))).2]at this;simpa using this
    have hnext:(fm (fun c=>fQ (part x (12-m) c l)) (c+1)).flatten.length=(fm (fun c=>fQ (part x (12-m) c l)) k).flatten.length+(part x (12-m) c l).length:=by
     rw[jp,hskip,hmc];simp
    have hpl:(part x (12-m) c l).length≤l.length:=kB;refine Join.intro (fun t hd=>t=(((part x (12-m) c l).length:Int),true)∧Upd No hx hd) (fun R hR=>?_) ?_
    ·refine⟨_,vc (E B (by omega)) 0,_,vc (E B (by omega)) 1,_,vc (E B (by omega)) 2,s0,EE (E q (by omega)),aW fun hd bd f=>?_⟩
     refine⟨EE (f.get0 (E q (by omega))),⟨vc (f.get0 (E B (by omega))) 0,vc (f.get0 (E B (by omega))) 1,vc (f.get0 (E B (by omega))) 2⟩,_,mB bd,?_⟩;have hsx:Sl Zu 1 (fun y=>h.size≤y) hd s0 way:=((F.upd hi fun _ h=>h.elim).upd w fun y g=>.inl (by have g:y=D.size:=g;omega)).upd f fun _ h=>h.elim
     refine ME hsx X (by omega) rfl fun s' he hse hce S=>?_
     have gE:=f.tr S;refine⟨⟨vc (gE.get0 (E B (by omega))) 0,vc (gE.get0 (E B (by omega))) 1,vc (gE.get0 (E B (by omega))) 2⟩,?_⟩;refine ih (by omega) (TrieAt.upd0 (uW.tr gE) tk) (tb.upd (uW.tr gE) id) hse hce (by simp;omega) ?_ (iX hr) (by omega) fun hf kf=>hR _ _ ⟨rfl,gE.tr kf⟩
     have:=U.part (c:=c);rw[hw,show 13-(m+1)=12-m by omega]at this
     exact this
    ·rintro t hd ⟨rfl,f⟩
     refine Join.plain (aj.2 ?_);rw[decide_eq_false (by simp only;omega)];refine aj.2 ⟨_,EE (f.get0 N),?_⟩;have hf1:=(hfl k).resolve_right (by omega);have hS:(ia x (12-m) l).length≤60000:=by omega
     refine HF (c':= #[.int .i64 (((ia x (12-m) l).length+(fm (fun c=>fQ (part x (12-m) c l)) (c+1)).flatten.length:Nat):Int)]) (f.get0 N) (by simp) ?_ fun hf bf Y=>?_
     ·rw[hnext]
      have:IntKind.wrap .i64 ((((ia x (12-m) l).length+(fm (fun c=>fQ (part x (12-m) c l)) k).flatten.length:Nat):Int)+((part x (12-m) c l).length:Int))=(((ia x (12-m) l).length+((fm (fun c=>fQ (part x (12-m) c l)) k).flatten.length+(part x (12-m) c l).length):Nat):Int):=by rw[fx (by omega)];omega
      simp only[this];rfl
     ·exact hK hf ⟨hc,(w.tr f.wide).tr Y,bf⟩ (f.wide.tr Y)
   ·obtain⟨hk32,w,N⟩:=g
    have E:∀{y:Nat} {o:Obj},H[y]? =some o→y≠D.size→hx[y]? =some o:=fun g hne=>w.get (hi.get0 g) hne
    have hkm:fm (fun c=>fQ (part x (12-m) c l)) 32=fm (fun c=>fQ (part x (12-m) c l)) k:=Ns hk32 fun j h1 h2=>by
     have:=hno j h1 h2;rw[u.nk j (by omega),(HQ (O j (by omega))).2]at this;simpa using this
    have ev:((ia x (12-m) l).length+(fm (fun c=>fQ (part x (12-m) c l)) k).flatten.length:Nat)=l.length:=by rw[←hkm];exact hall
    rw[ev]at N;have sx:=w.size;refine⟨_,EE N,HF (E e4 (by omega)) (by simp) rfl fun hf bf Y=>HF (Y.oth (E e5 (by omega)) (by omega)) (by simp) rfl fun hg bg ug=>?_⟩
    have sf:=Y.size;have sg:=ug.size;have g2:=ug.oth (Y.oth hdx (by omega)) (by omega);have kh:Upd (· =h13.size) hg (hg.setIfInBounds h13.size (.deferred none)):=Upd.set _ _ rfl
    refine⟨g2,bP ?_⟩;generalize hg.setIfInBounds h13.size (.deferred none)=hh at kh;have g3:=kh.oth (ug.oth (Y.oth (w.get hde (by omega)) (by omega)) (by omega)) (by omega);have kj:Upd (· =h12.size) hh (hh.setIfInBounds h12.size (.deferred none)):=Upd.set _ _ rfl
    refine⟨g3,bP ?_⟩;generalize hh.setIfInBounds h12.size (.deferred none)=hj at kj;refine⟨_,EE (kj.oth (kh.oth (ug.oth bf (by omega)) (by omega)) (by omega)),_,EE (kj.oth (kh.oth bg (by omega)) (by omega)),?_⟩;refine hk hj ?_;refine(((((s.tr hi).trans w fun y g=>.inr ?_).own Y (by omega)).own ug (by omega)).own kh (by omega)).own kj (by omega)
    have g:y=D.size:=g;omega
end Go.Proofs
namespace Go.Proofs
open Go Go.Lift
theorem HZ{W:Nat→Prop}{h:ae}{b:Nat}{sl val:ByteArray}{has:Bool}{s:SliceV}{ow:Option Addr}{ks:List (Option Addr)}{F:Fo}(L:h[b]? =some (.cells (AY sl has val s ow) bZ (0,0))) (y:Sl pj 1 W h s ks) (x:RxL W h ks F.toL) (hc:fV F) {K:Bool→ae→Prop} (V:K true h):HC PG mG [.pointer (some ⟨b,0,none⟩)] [.c .bool] K h:=by
 refine Cz (some ⟨b,0,none⟩) ?_;unfold vD bI cl aK bU;refine⟨_,rfl,s,dY (i:=3) L,?_⟩;have p:=y.len;rw[x.1]at p;have M:=jC hc;have j:=eW.1 hc;refine LoopP.ghost (fun(i:Nat) (t:Int) h'=>t=(i:Int)∧i≤F.toL.length∧h'=h) (fun i=>F.toL.length-i) 0 ⟨rfl,aS _,rfl⟩ ?_
 rintro I i t h' ⟨rfl,hi,rfl⟩ S;refine az (fun e=>?_) fun _=>V
 have e:i<F.toL.length:=by omega
 obtain⟨kb,g,G,q,kv,N,X,kk,k,_⟩:=x.at e;obtain⟨a,Q,_,hv⟩:=y.at0 G;have u:g.data.toList≠[]:=by rw[q];exact(j.2 _ (aZ e)).1
 have Y:(g.toList==(⟨#[]⟩:ByteArray).toList)=false:=by
  rw[beq_eq_false_iff_ne,ByteArray.toList_eq,ByteArray.toList_eq];exact u
 obtain⟨c,A,C⟩:=E3 u;refine⟨⟨by omega,by omega⟩,a,Q,_,hv,Join.intro (fun t h2=>t=false∧h2=h') (fun R P=>?_) ?_⟩
 ·refine⟨_,rfl,g,dY (i:=0) k,?_⟩
  rw[Y];refine aj.2 (az (fun E=>?_) fun _=>P _ _ ⟨rfl,rfl⟩)
  have J:0<i:=by have:(i:Int)>0:=E;omega
  have T:IntKind.wrap .i64 ((i:Int)-1)=((i-1:Nat):Int):=by rw[fx (by omega)];omega
  rw[T];have f:i-1<F.toL.length:=by omega
  obtain⟨Z,o,w,m,jv,O,U,jk,v,_⟩:=x.at f;obtain⟨a',z,_,D⟩:=y.at0 w;have n:o.data.toList≠[]:=by rw[m];exact(j.2 _ (aZ f)).1
  obtain⟨d,B,H⟩:=E3 n;refine⟨_,rfl,s,dY (i:=3) L,⟨by omega,by omega⟩,a',z,_,D,_,rfl,o,dY (i:=0) v,d,by decide,B,_,rfl,g,dY (i:=0) k,c,by decide,A,P _ _ ⟨?_,rfl⟩⟩
  have:=ce.1 j.1 (i-1) i f e (by omega);rw[q]at C;rw[m]at H;exact decide_eq_false (by omega)
 ·rintro t h2 ⟨rfl,rfl⟩
  refine aj.2 ?_;rw[dd e (by omega)];exact S (i+1) _ _ ⟨rfl,e,rfl⟩ (by omega)
theorem Mn{W:Nat→Prop}{h:ae}{s:SliceV}{ks:List (Option Addr)}{L:List Bn}{f:FuncId}(g:Sl pj 1 W h s ks)(j:RxL W h ks L)(w:L.length≤256)(p:∀i (hi:i<L.length) {b:Nat} {sl:ByteArray},RxN W h b sl L[i].2.1 L[i].2.2→∀{K:Bool→ae→Prop},K false h→HC PG f [.pointer (some ⟨b,0,none⟩)] [.c .bool] K h){K:Bool→ae→Prop}(n:K false h):
  HC PG cZ [.slice s.a s.len s.cap,.func (.func f) #[] #[]] [.c .bool] K h:=by
 refine kO s _ ?_;unfold gd;refine lI s _ ?_;unfold gO bI cl;have d:=g.len;rw[j.1]at d;refine LoopP.ghost (fun(i:Nat) (t:Int) h'=>t=(i:Int)∧i≤L.length∧h'=h) (fun i=>L.length-i) 0 ⟨rfl,aS _,rfl⟩ ?_
 rintro I i t h' ⟨rfl,hi,rfl⟩ u;refine az (fun c=>?_) fun _=>n
 have c:i<L.length:=by omega
 obtain⟨v,q,e,m,o⟩:=j.at c;obtain⟨a,k,_,hv⟩:=g.at0 e;refine⟨⟨by omega,by omega⟩,a,k,_,hv,HV.mk' (p i c o (aj.2 ?_))⟩
 rw[dd c (by omega)];exact u (i+1) _ _ ⟨rfl,c,rfl⟩ (by omega)
def ab9(n:Bn):Prop:=∀{W:Nat→Prop} {h:ae} {b:Nat} {sl:ByteArray},RxN W h b sl n.2.1 n.2.2→∀{K:Bool→ae→Prop},K true h→HC PG lV [.pointer (some ⟨b,0,none⟩)] [.c .bool] K h
theorem aaq{lab:List UInt8}{w:Option ByteArray}{F:Fo}(hc:fV F)(c:w.isSome∨2≤F.toL.length)(m:∀n∈F.toL,ab9 n):ab9 (lab,w,F):=by
 intro W h b sl r K o;simp only at r;obtain⟨val,s,ow,ks,d,hv,e,q,k⟩:=r;have g:=kM.1 k;have a:=e.len;rw[g.1]at a;refine A8 (some ⟨b,0,none⟩) ?_;unfold uI cD bU;refine Join.intro (fun t h'=>t=false∧h'=h) (fun R j=>?_) ?_
 ·refine HZ d e g hc (aj.2 ⟨_,rfl,w.isSome,dY (i:=1) d,?_⟩)
  cases hwS:w.isSome with
  |true=>exact aj.2 (j _ _ ⟨rfl,rfl⟩)
  |false=>
   refine au.2 ⟨_,rfl,s,dY (i:=3) d,j _ _ ⟨decide_eq_false ?_,rfl⟩⟩;rw[hwS]at c;rcases c with c|c
   ·cases c
   ·omega
 ·rintro t h' ⟨rfl,rfl⟩
  refine aj.2 ⟨_,rfl,s,dY (i:=3) d,Mn e g (jC hc) (fun i hi b sl p u f=>?_) o⟩
  refine zk _ ?_;unfold r9;exact m _ (aZ hi) p f
theorem NK:∀{F:Fo},fV F→∀n∈F.toL,ab9 n
 | .nil,_,n,a=>by simp[Fo.toL]at a
 | .cons lab w kids rest,h,n,a=>by
  rcases List.mem_cons.1 a with rfl|a
  ·exact aaq h.2.2.1 h.2.1 (NK h.2.2.1)
  ·exact NK h.2.2.2.2 n a
theorem QW{W:Nat→Prop}{h:ae}{b:Nat}{l:List Pr}(t:RadAt W h b l){K:Bool→ae→Prop}(g:K true h):HC PG xa [.pointer (some ⟨b,0,none⟩)] [.c .bool] K h:=by
 obtain⟨w,F,r,hc,_⟩:=t.ex;obtain⟨val,s,ow,ks,a,hv,d,k,f⟩:=r;have e:=kM.1 f;refine KP (some ⟨b,0,none⟩) ?_;unfold BI aK bU;refine au.2 ⟨_,rfl,_,dY (i:=0) a,?_⟩;rw[beq_self_eq_true];refine au.2 (HZ a d e hc (au.2 ⟨_,rfl,s,dY (i:=3) a,Mn d e (jC hc) (fun i hi b sl j m c=>?_) g⟩))
 refine GU _ ?_;unfold y7;exact NK hc _ (aZ hi) j c
theorem Un{W:Nat→Prop}{x:Hs}{h:ae}{d:Int}{t:Tr}{l:List Pr}(i:TreeIs W h d x t l)(tb:Tab h)(j:cf l)(o:l.length≤60000){K:Bool→ae→Prop}(f:∀h',Upd No h h'→K true h'):HC PG rg [HJ t] [.c .bool] K h:=by
 refine DX t ?_;unfold wC bw ag aQ vO r7 yc dK;refine aW fun k b1 k1=>⟨_,vc b1 0,?_⟩
 rcases i with⟨_,b,rfl,t⟩|⟨_,b,rfl,t⟩
 ·refine aj.2 ⟨_,BS b1 1 0,_,BS b1 1 1,_,BS b1 1 2,_,vc b1 0,_,vc b1 1,_,vc b1 2,_,vc b1 3,_,vc b1 4,_,vc b1 5,?_⟩
  refine Av (TrieAt.upd0 k1 t) fun h2 e=>⟨⟨BS (e.get0 b1) 1 0,BS (e.get0 b1) 1 1,BS (e.get0 b1) 1 2⟩,?_⟩
  refine KJ (x.k0,x.k1,x.mask) _ ?_;unfold BE ag AC vO;refine aW fun q b3 n=>aj.2 ⟨_,vc b3 0,_,vc b3 1,_,vc b3 2,?_⟩
  have a:=(k1.tr e).tr n;refine Xp 13 (al _) (sw:=⟨none,0,0⟩) (way:= []) (TrieAt.upd0 a t) (tb.upd a id) (Sl.nil Z8) (al _) rfl (fun p _ i c hc=>by simp at hc) j o fun m g=>?_
  exact f m (a.tr g)
 ·refine au.2 ⟨_,vc b1 5,QW (t.upd0 k1) (f k k1)⟩
end Go.Proofs
namespace Go.Proofs
open Go Go.Lift
end Go.Proofs
namespace Go.Proofs
open Go Go.Lift
end Go.Proofs
namespace Go.Proofs
open Go Go.Lift
theorem X5(n:Nat):eh n [.int .u8 0]=(fg n (0:UInt8)).flatMap qI:=by
 unfold eh;induction n with
 |zero=>rfl
 |succ n ih=>rw[jV,List.flatten_cons,jV,List.flatMap_cons,ih];rfl
theorem On{h:ae}{n:Nat}{k:ae→Prop}(b:∀a,Upd No h a→∀s:ByteArray,s.size=n→SRow a (some (aF h)) n (eo s)→k a):At (hnew h (eh n [.int .u8 0]) cM) k:=by
 refine aW fun a b1 k1=>?_
 rw[X5]at b1;have o:OwnS qI 1 cM (fun _=>True) a ⟨some (aF h),n,n⟩ (fg n (0:UInt8)):=⟨by simp,um,al _,.inr ⟨h.size,[],rfl,trivial,by rw[List.append_nil];exact b1,by simp⟩⟩
 have r:=(o.sl (W:=No) fun _ _ _ h=>h).srow
 refine b a k1 ⟨(fg n (0:UInt8)).toArray⟩ (by show(fg n (0:UInt8)).toArray.size=n;simp) ?_;rw[ws];simpa using r
end Go.Proofs
namespace Go.Proofs
open Go Go.Lift
def abc(l:List Pr)(k:ByteArray):Int:=if 256<k.size then 2 else if cF l k then 0 else 4
def W5(l:List Pr)(k:ByteArray):List Pr:=if 256<k.size then l else nQ k l
theorem M1{W:Nat→Prop}{x:Hs}{h:ae}{a:Int}{r:Rt}{l:List Pr}(i:RefIs W h a x r l)(G:∀y,W y→y<h.size)(H:cf l)(M:Fit l)(F:l.length≤1000000)(k:ByteArray){K:Rt×Int→ae→Prop}
  (j:∀h' r',RefIs W h' a x r' (W5 l k)→Upd No h h'→K (r',abc l k) h'):HC PG pL [Zr r,.string k] [.agg [.int .i64,.int .u64,.int .u64,.int .u64,.slice],.c (.int .i64)] K h:=by
 unfold W5 abc at j;refine Bw r k ?_;unfold xm bw ag cT eJ db J9 GO Ow CM;refine aW fun C b1 k1=>aW fun h2 b2 D=>?_
 have Q:=bD b1;have P:=bD b2;have n:h.size≤C.size:=k1.size;have b:=k1.tr D;have d:=D.get0 b1;refine az (fun e=>?_) fun e=>?_
 ·have e:256<k.size:=by omega
  rw[if_pos e,if_pos e]at j;refine⟨_,vc d 0,_,vc d 1,_,vc d 2,_,vc d 3,r.2.2.2.2,vc d 4,?_⟩;refine cU (c:=qQ MX) (vs:=qQ r) b2 rfl fun z f g=>?_
  exact⟨_,vc f 0,_,vc f 1,_,vc f 2,_,vc f 3,r.2.2.2.2,vc f 4,j z r (i.upd0 (b.own g n)) (b.own g n)⟩
 ·have e:¬256<k.size:=by omega
  rw[if_neg e,if_neg e]at j;have N:=i;obtain⟨s,rfl,B,hc⟩:=i;refine⟨s,vc d 4,M5 (B.upd b fun _ h=>h.elim) H M F k fun v _ _=>?_⟩
  cases hth:cF l k with
  |false=>
   rw[hth]at j;refine au.2 ⟨_,vc d 0,_,vc d 1,_,vc d 2,_,vc d 3,s,vc d 4,?_⟩;refine cU (c:=qQ MX) (vs:=qQ (a,hx a x.k0,hx a x.k1,hx a x.mask,s)) b2 rfl fun z f g=>?_
   refine⟨_,vc f 0,_,vc f 1,_,vc f 2,_,vc f 3,s,vc f 4,j z _ ?_ (b.own g n)⟩;rw[yE (zn hth)];exact N.upd0 (b.own g n)
  |true=>
   rw[hth]at j;refine aj.2 ⟨s,vc d 4,Ib (B.upd b fun _ h=>h.elim) F k fun p z A w=>?_⟩
   refine qN (i:=4) (c':=(qQ (a,hx a x.k0,hx a x.k1,hx a x.mask,p)).toArray) (w.get0 d) (show 4<5 by decide) rfl fun O o m=>?_
   have J:=w.size;refine⟨_,vc o 0,_,vc o 1,_,vc o 2,_,vc o 3,p,vc o 4,?_⟩;refine cU (c:=qQ MX) (vs:=qQ (a,hx a x.k0,hx a x.k1,hx a x.mask,p)) (m.oth (w.get0 b2) (by omega)) rfl fun L q u=>?_
   refine⟨_,vc q 0,_,vc q 1,_,vc q 2,_,vc q 3,p,vc q 4,?_⟩;have t:=(A.upd m fun y E e=>by have e:y=h.size:=e;omega).upd u fun y E e=>by have e:y=C.size:=e;omega
   exact j L _ ⟨p,rfl,t.sl fun y E _ I=>by have:=G y I;omega,t.cap⟩ (((b.tr w).own m (al _)).own u n)
end Go.Proofs
namespace Go.Proofs
open Go Go.Lift
theorem S5(n:Nat):IntKind.wrap .u64 (n:Int)=((n%18446744073709551616:Nat):Int):=by rw[IntKind.wrap_u64];omega
theorem CP{n:Nat}(h:n<18446744073709551616):IntKind.wrap .u64 (n:Int)=(n:Int):=by rw[S5,dW h]
theorem Ih{a b:Nat}(d:a<18446744073709551616)(c:b<18446744073709551616):Ij a b=((a|||b:Nat):Int):=by
 unfold Ij;rw[show IntKind.bits .u64=64 from rfl,ga,ga,BitVec.toNat_or,qA,qA,dW (show a<2^64 from d),dW (show b<2^64 from c)]
 exact CP (Nat.or_lt_two_pow (n:=64) d c)
theorem Ii{n a b:Nat}(c:b<2^n)(d:a*2^n+b<18446744073709551616):Ij ((a*2^n:Nat):Int) (b:Int)=((a*2^n+b:Nat):Int):=by
 rw[Ih (by omega) (by omega),j1 a,Nat.two_pow_add_eq_or_of_lt c]
def Q0(x:Nat):Nat:=x*2%18446744073709551616+x/9223372036854775808
def H3:Nat→Nat→Nat
 |0,x=>x
 |n+1,x=>Q0 (H3 n x)
theorem Yu{n:Nat}(s:n≤64){x a b:Nat}(j:b<2^(64-n))(m:a<2^n)(e:x=a*2^(64-n)+b):H3 n x=b*2^n+a:=by
 induction n generalizing a b with
 |zero=>
  have:a=0:=by simpa using m
  subst this;rw[e];simp[H3]
 |succ n ih=>
  have f:(2:Nat)^(64-n)=2*2^(64-(n+1)):=by rw[show 64-n=(64-(n+1))+1 by omega,ph,j1]
  have k:(2:Nat)^(n+1)=2*2^n:=by rw[ph,j1]
  have g:(2:Nat)^(64-(n+1))*2^n=9223372036854775808:=by rw[←qK,show 64-(n+1)+n=63 by omega]
  have q:a%2<2:=sW _ (by omega);have h2:=Nat.div_add_mod a 2;have d:a/2<2^n:=by omega
  have o:a%2*2^(64-(n+1))+b<2^(64-n):=by
   rw[f];have:a%2*2^(64-(n+1))≤1*2^(64-(n+1)):=cz _ (by omega);omega
  have i:x=a/2*2^(64-n)+(a%2*2^(64-(n+1))+b):=by
   rw[e,f,←lL,←tA,←km,j1 (a/2) 2,h2]
  have:=ih (by omega) o d i;show Q0 (H3 n x)=_
  rw[this,km,tA,g,k];unfold Q0;have c:b*2^n+2^n≤2^(64-(n+1))*2^n:=by
   rw[←lA];exact cz _ j
  rw[g]at c;have p:b*(2*2^n)=2*(b*2^n):=by rw[Nat.mul_left_comm]
  rw[p];generalize b*2^n=B at c;generalize 2^n=N at d c;have:a%2=0∨a%2=1:=by omega
  rcases this with h|h<;>rw[h]at h2⊢<;>omega
theorem Yt(n:Nat){x:Nat}(hx:x<18446744073709551616):H3 n x<18446744073709551616:=by
 induction n with
 |zero=>exact hx
 |succ n ih=>show Q0 _<_;unfold Q0;omega
theorem abl{n:Nat}(h:n<64):PY (IntKind.wrap .u64 (n:Int)) 63=(n:Int):=by
 rw[CP (by omega)];unfold PY;have:∀n:Fin 64,(av (IntKind.bits .u64) ((n.val:Nat):Int)&&&av (IntKind.bits .u64) 63).toNat=n.val:=by decide
 rw[this ⟨n,h⟩];exact CP (by omega)
theorem Ys{n x:Nat}(b:n<64)(hx:x<18446744073709551616):H2 (x:Int) (n:Int)=((H3 n x:Nat):Int):=by
 unfold H2;rw[abl b];rw[show((64:Int)-(n:Int))=((64-n:Nat):Int) by omega,CP (by omega)]
 simp only[show IntKind.bits .u64=64 from rfl,aU,bJ (rM b),bJ (Nat.sub_le 64 n)]
 have a:(2:Nat)^(64-n)*2^n=18446744073709551616:=by rw[←qK,show 64-n+n=64 by omega]
 have hd:=Nat.div_add_mod x (2^(64-n));have hm:x%2^(64-n)<2^(64-n):=sW _ (Nat.two_pow_pos _);have d:x/2^(64-n)<2^n:=by
  rw[Nat.div_lt_iff_lt_mul (Nat.two_pow_pos _),j1,a];exact hx
 rw[j1]at hd;rw[Yu (rM b) hm d hd.symm];rw[show((x:Int)*2^n)=((x*2^n:Nat):Int) by rw[Int.natCast_mul,uw];rfl,S5]
 rw[show dG (x:Int) (2^(64-n))=((x/2^(64-n):Nat):Int) by rw[show((2:Int)^(64-n))=((2^(64-n):Nat):Int) by rw[uw];rfl];exact Int.ofNat_fdiv x _▸rfl]
 have c:x%2^(64-n)*2^n+2^n≤2^(64-n)*2^n:=by
  rw[←lA];exact cz _ hm
 rw[a]at c;have e:x*2^n%18446744073709551616=x%2^(64-n)*2^n:=by
  rw[←a,Nat.mul_mod_mul_right]
 rw[e];exact Ii d (by omega)
end Go.Proofs
namespace Go.Proofs
open Go Go.Lift
def Kd(s:ByteArray)(i:Nat):Nat:=if h:i<s.size then(s[i]'h).toNat else 0
def hv(s:ByteArray):Nat→Nat→Nat
 |_,0=>0
 |p,c+1=>hv s (p+1) c*256+Kd s p
theorem Xt(s:ByteArray)(i:Nat):Kd s i<256:=by
 unfold Kd;split
 ·exact UInt8.toNat_lt _
 ·omega
theorem T4(s:ByteArray)(i:Nat):PU s i=(Kd s i:Int):=by
 unfold PU Kd;by_cases h:i<s.size
 ·rw[dif_pos h,getElem?_pos s i h]
 ·rw[dif_neg h,getElem?_neg s i h];rfl
theorem Jb{s:ByteArray}{i:Nat}(h:s.size≤i):Kd s i=0:=dif_neg (by omega)
theorem LZ(s:ByteArray):∀(c p:Nat),hv s p c<256^c
 |0,_=>by show(0:Nat)<1;omega
 |c+1,p=>by
  have:=LZ s c (p+1);have:=Xt s p;rw[ph];show hv s (p+1) c*256+Kd s p<_
  omega
theorem TL{s:ByteArray}:∀{c p:Nat},s.size≤p→hv s p c=0
 |0,_,_=>rfl
 |c+1,p,h=>by
  show hv s (p+1) c*256+Kd s p=0
  rw[TL (by omega),Jb h]
theorem Nn{s:ByteArray}{d:Nat}:∀{c p:Nat},s.size≤p+c→hv s p (c+d)=hv s p c
 |0,p,h=>by rw[TL (by omega)];rfl
 |c+1,p,h=>by
  rw[show c+1+d=(c+d)+1 by omega]
  show hv s (p+1) (c+d)*256+_=hv s (p+1) c*256+_
  rw[Nn (by omega)]
theorem Y8{s:ByteArray}{a b i:Nat}(c:b≤s.size):Kd (s.extract a b) i=if a+i<b then Kd s (a+i)else 0:=by
 unfold Kd;have e:(s.extract a b).size=b-a:=by rw[gk];omega
 by_cases h:a+i<b
 ·rw[if_pos h,dif_pos (by omega),dif_pos (by omega),ByteArray.getElem_extract]
 ·rw[if_neg h,dif_neg (by omega)]
theorem RL{s:ByteArray}{a:Nat}:∀{c p b:Nat},b≤s.size→(b=s.size∨a+p+c≤b)→hv (s.extract a b) p c=hv s (a+p) c
 |0,_,_,_,_=>rfl
 |c+1,p,b,hb,h=>by
  show hv _ (p+1) c*256+_=hv s (a+p+1) c*256+_
  rw[RL hb (h.imp id fun h=>by omega),Y8 hb,lL]
  congr 1
  split
  ·rfl
  ·exact(Jb (by omega)).symm
theorem Zh{s:ByteArray}:∀{k c:Nat},k+c≤8→wj s k ((hv s k c*2^(8*k):Nat):Int)=((hv s 0 (k+c):Nat):Int)
 |0,c,_=>by
  show((hv s 0 c*2^(8*0):Nat):Int)=_
  rw[aR];simp
 |k+1,c,h=>by
  have g:=Xt s k;have hc:=LZ s c (k+1);have f:(2:Nat)^(8*(k+1))=256*2^(8*k):=by rw[show 8*(k+1)=8+8*k by omega,qK]
  have d:256^c*2^(8*(k+1))≤18446744073709551616:=by
   rw[show(256:Nat)=2^8 from rfl,←Nat.pow_mul,←qK]
   exact fX (by omega) (show 8*c+8*(k+1)≤64 by omega)
  have m:hv s (k+1) c*2^(8*(k+1))+2^(8*(k+1))≤18446744073709551616:=by
   rw[←lA];exact Nat.le_trans (cz _ hc) d
  have i:Kd s k*2^(8*k)<2^(8*(k+1)):=by rw[f];exact Nat.mul_lt_mul_of_pos_right g (Nat.two_pow_pos _)
  have a:hv s (k+1) c*2^(8*(k+1))+Kd s k*2^(8*k)=hv s k (c+1)*2^(8*k):=by
   rw[f,←tA,←km];rfl
  have b:(if k=0 then IntKind.wrap .u64 (PU s 0)else Zo (PU s k) ((8*k:Nat):Int))=((Kd s k*2^(8*k):Nat):Int):=by
   split
   ·rename_i e
    subst e;rw[T4,IntKind.wrap_u64];simp;omega
   ·unfold Zo
    rw[T4,aU,show IntKind.bits .u64=64 from rfl,bJ (by omega)]
    have j:IntKind.wrap .u64 ((Kd s k:Nat):Int)=((Kd s k:Nat):Int):=by rw[IntKind.wrap_u64];omega
    rw[j,show((Kd s k:Int)*2^(8*k))=((Kd s k*2^(8*k):Nat):Int) by rw[Int.natCast_mul,uw];rfl,IntKind.wrap_u64]
    omega
  show wj s k (Ij _ (if k=0 then _ else _))=_
  rw[b,Ii i (by omega),a,Zh (by omega),show k+(c+1)=k+1+c by omega]
theorem Oo{s:ByteArray}(h:s.size≤8):Bi s=((hv s 0 8:Nat):Int):=by
 have:=Zh (s:=s) (k:=s.size) (c:=0) (by omega);rw[show hv s s.size 0=0 from rfl,Nat.zero_mul]at this
 unfold Bi;rw[show((0:Nat):Int)=0 from rfl]at this
 rw[this,eN];have e:=Nn (s:=s) (d:=8-s.size) (c:=s.size) (p:=0) (by omega);rw[show s.size+(8-s.size)=8 by omega]at e
 rw[e]
def rA:Nat→ByteArray→Nat→Q4→Nat×Q4
 |0,_,a,q=>(a,q)
 |n+1,s,a,q=>if a+8≤s.size then rA n s (a+8) (uz (hv s a 8:Nat) q)else(a,q)
theorem OC:∀{n:Nat} {s:ByteArray} {a:Nat} {q:Q4},a≤s.size→FU n (s.extract a s.size) q=(s.extract (rA n s a q).1 s.size,(rA n s a q).2)
 |0,_,_,_,_=>rfl
 |n+1,s,a,q,h=>by
  have e:(s.extract a s.size).size=s.size-a:=by rw[gk];omega
  show(if 8≤(s.extract a s.size).size then _ else _)=_
  rw[e];by_cases hc:a+8≤s.size
  ·rw[if_pos (show 8≤s.size-a by omega),ByteArray.extract_extract,ByteArray.extract_extract]
   rw[show rA (n+1) s a q=rA n s (a+8) (uz (hv s a 8:Nat) q)from if_pos hc]
   rw[show min (a+(s.size-a)) s.size=s.size by omega,show min (a+8) s.size=a+8 by omega,eN]
   rw[Oo (by rw[gk];omega),RL (by omega) (.inr (by omega)),eN];exact OC hc
  ·rw[if_neg (show ¬8≤s.size-a by omega),show rA (n+1) s a q=(a,q)from if_neg hc]
theorem Me:∀{n:Nat} {s:ByteArray} {a:Nat} {q:Q4},s.size≤a+n→a≤s.size→s.size<(rA n s a q).1+8∧(rA n s a q).1≤s.size
 |0,_,_,_,h,h'=>⟨by show _<_+8;simp only[rA];omega,h'⟩
 |n+1,s,a,q,h,h'=>by
  by_cases hc:a+8≤s.size
  ·rw[show rA (n+1) s a q=rA n s (a+8) (uz (hv s a 8:Nat) q)from if_pos hc]
   exact Me (by omega) hc
  ·rw[show rA (n+1) s a q=(a,q)from if_neg hc]
   exact⟨by simp only;omega,h'⟩
theorem Yh{k0 k1:Int}{s:ByteArray}:QL k0 k1 s=(let g:=rA s.size s 0 (dX k0 8317987319222330741,dX k1 7237128888997146477,dX k0 7816392313619706465,dX k1 8387220255154660723)
  YZ (uz ((hv s g.1 8+s.size%256*72057594037927936:Nat):Int) g.2)):=by
 unfold QL aaT;generalize (dX k0 8317987319222330741,dX k1 7237128888997146477,dX k0 7816392313619706465,dX k1 8387220255154660723)=q;have e:=OC (n:=s.size) (s:=s) (a:=0) (q:=q) (aS _);rw[ByteArray.extract_zero_size]at e;rw[e];have⟨m,h2⟩:=Me (n:=s.size) (s:=s) (a:=0) (q:=q) (by omega) (aS _);generalize rA s.size s 0 q=g at m h2;obtain⟨a,r⟩:=g;simp only at m h2⊢
 rw[Oo (by rw[gk];omega),RL (al _) (.inl rfl),eN];congr 2
 have hc:hv s a 8<2^56:=by
  have e:=Nn (s:=s) (d:=1) (c:=7) (p:=a) (by omega);rw[show(7+1:Nat)=8 from rfl]at e
  rw[e];exact LZ s 7 a
 have i:Zo (s.size:Int) 56=((s.size%256*2^56:Nat):Int):=by
  unfold Zo;rw[show min ((56:Int)).toNat (IntKind.bits .u64)=56 from rfl,S5]
  rw[show(((s.size%18446744073709551616:Nat):Int)*2^56)=((s.size%18446744073709551616*72057594037927936:Nat):Int) by rw[Int.natCast_mul];rfl,S5]
  omega
 have hm:s.size%256*2^56+hv s a 8<18446744073709551616:=by omega
 have f:∀{a b:Nat},a<18446744073709551616→b<18446744073709551616→Ij a b=Ij b a:=fun j k=>by rw[Ih j k,Ih k j,Nat.or_comm]
 rw[i,f (Nat.lt_trans hc (by decide)) (gU (Nat.le_add_right _ _) hm),Ii hc hm,Nat.add_comm]
end Go.Proofs
namespace Go.Proofs
open Go Go.Lift
abbrev Rg(x:Int):Prop:=0≤x∧x<18446744073709551616
theorem Yr(x n:Int):Rg (H2 x n):=EI _
theorem wU(x n:Int):Rg (dX x n):=EI _
theorem XI(x n:Int):Rg (XJ x n):=EI _
theorem As{x:Int}(hx:Rg x){n:Nat}(g:n<64){h:ae}{K:Int→ae→Prop}(c:K (H2 x n) h):HC PG ou [.int .u64 x,.int .i64 (n:Int)] [.c (.int .u64)] K h:=by
 obtain⟨X,rfl⟩:=qM hx.1;have d:X<18446744073709551616:=by have:=hx.2;omega
 rw[Ys g d]at c;refine SK X n ?_;unfold JL;refine LoopP.ghost (fun(i:Nat) (t:Int×Int) h'=>t=(((H3 i X:Nat):Int),(i:Int))∧i≤n∧h'=h) (fun i=>n-i) 0 ⟨rfl,aS _,rfl⟩ ?_
 rintro I i t h' ⟨rfl,hi,rfl⟩ f;refine az (fun a=>?_) fun b=>?_
 ·have a:i<n:=by have:(i:Int)<(n:Int):=a;omega
  have j:=Yt i d;refine⟨by decide,?_⟩;have e:IntKind.wrap .u64 (IntKind.wrap .u64 (((H3 i X:Nat):Int)*2)+IntKind.wrap .u64 (md ((H3 i X:Nat):Int) 9223372036854775808))=((H3 (i+1) X:Nat):Int):=by
   show _=((Q0 (H3 i X):Nat):Int)
   unfold Q0;rw[f8 (by omega),IntKind.wrap_u64,IntKind.wrap_u64,IntKind.wrap_u64];omega
  simp only[Bd];rw[e,dd a (by omega)];exact f (i+1) _ _ ⟨rfl,a,rfl⟩ (by omega)
 ·obtain rfl:i=n:=by have:¬(i:Int)<(n:Int):=b;omega
  exact c
theorem xu{s:Q4}(e:Rg s.2.1)(d:Rg s.2.2.2){h:ae}{K:Q4→ae→Prop}(g:∀h',Upd No h h'→K (mC s) h'):HC PG mr [.agg #[.int .u64 s.1,.int .u64 s.2.1,.int .u64 s.2.2.1,.int .u64 s.2.2.2]] [.agg [.int .u64,.int .u64,.int .u64,.int .u64]] K h:=by
 refine Qa s ?_;unfold GC bI cl ag eJ ng Uc Ue WP;refine aW fun f b1 k1=>aW fun h2 b2 c=>?_
 have a:=c.get0 b1;have j:=k1.size;refine⟨by decide,_,vc a 0,by decide,_,vc a 1,by decide,_,vc a 2,by decide,_,vc a 3,?_⟩
 refine As (n:=13) e (by omega) (As (n:=32) (XI _ _) (by omega) (As (n:=16) d (by omega) (As (n:=21) (wU _ _) (by omega) (As (n:=17) (wU _ _) (by omega) (As (n:=32) (XI _ _) (by omega) ?_)))));refine cU b2 (by rfl) fun b b3 i=>?_
 refine⟨_,vc b3 0,_,vc b3 1,_,vc b3 2,_,vc b3 3,?_⟩;exact g b ((k1.tr c).own i (by omega))
abbrev Rq(q:Q4):Prop:=Rg q.1∧Rg q.2.1∧Rg q.2.2.1∧Rg q.2.2.2
theorem zu(s:Q4):Rq (mC s):=⟨XI _ _,wU _ _,Yr _ _,wU _ _⟩
theorem Wc(m:Int)(s:Q4):Rq (uz m s):=⟨wU _ _,(zu _).2⟩
theorem aap{s:ByteArray}{i:Nat}(h:i<s.size):∃b:UInt8,s[i]? =some b∧Kd s i=b.toNat:=⟨s[i],getElem?_pos s i h,by unfold Kd;rw[dif_pos h]⟩
theorem Xi{n:Nat}{s:ByteArray}{a:Nat}{q:Q4}(h:s.size≤a+n)(hc:a+8≤s.size):∃m,rA n s a q=rA m s (a+8) (uz (hv s a 8:Nat) q)∧s.size≤a+8+m:=by
 cases n with
 |zero=>omega
 |succ n=>exact⟨n,if_pos hc,by omega⟩
theorem RX{n:Nat}{s:ByteArray}{a:Nat}{q:Q4}(hc:s.size<a+8):rA n s a q=(a,q):=by
 cases n with
 |zero=>rfl
 |succ n=>exact if_neg (by omega)
theorem Yy{k0 k1:Int}{s:ByteArray}(hs:s.size≤1000000000){h:ae}{K:Int→ae→Prop}(k:∀h',Upd No h h'→K (QL k0 k1 s) h'):HC PG Fc [.int .u64 k0,.int .u64 k1,.string s] [.c (.int .u64)] K h:=by
 rw[Yh]at k;refine VC k0 k1 s ?_;unfold My bI cl ag eJ db nv Uc Ue ZP UN WP;simp only[Bd,show((0:Int)).toNat*1=0 from rfl,show((1:Int)).toNat*1=1 from rfl,show((2:Int)).toNat*1=2 from rfl,show((3:Int)).toNat*1=3 from rfl]
 have eq0:∃D:Q4,D=(dX k0 8317987319222330741,dX k1 7237128888997146477,dX k0 7816392313619706465,dX k1 8387220255154660723):=⟨_,rfl⟩;obtain⟨D,T⟩:=eq0;rw[←T]at k;have Y:Rq D:=by rw[T];exact⟨wU _ _,wU _ _,wU _ _,wU _ _⟩
 refine aW fun h1 b1 k1=>?_
 refine cU b1 (by rfl) fun h2 b2 u2=>?_
 have b2':h2[h.size]? =some (.cells (q4 D) ye (0,0)):=by rw[T];exact b2
 clear b2 T;have hex:∃G:Nat×Q4,G=rA s.size s 0 D:=⟨_,rfl⟩;obtain⟨G,eG⟩:=hex;rw[←eG]at k;simp only at k;refine LoopP.ghost (fun(g:Nat×Q4) (t:Int) h'=>t=(g.1:Int)∧h'[h.size]? =some (.cells (q4 g.2) ye (0,0))∧Upd No h h'∧Rq g.2∧
  ((∃n,rA n s g.1 g.2=G∧s.size≤g.1+n∧g.1≤s.size)∨(s.size<g.1∧g.2=uz ((hv s G.1 8+s.size%256*72057594037927936:Nat):Int) G.2))) (fun g=>s.size+1-g.1) (0,D) ⟨rfl,b2',k1.own u2 (al _),Y,.inl ⟨s.size,eG.symm,by omega,aS _⟩⟩ ?_
 rintro I ⟨a,q⟩ t h' ⟨rfl,Q,hu,V,x⟩ hI;simp only at Q V x;refine az (fun hle=>?_) fun hgt=>?_
 ·have hle:a≤s.size:=by omega
  obtain⟨n,y,hn,_⟩:=x.resolve_right fun h=>by omega
  refine LoopP.ghost (fun(j:Nat) (t:Int×Int) w=>t=(((hv s (a+(8-j)) j:Nat):Int),(7:Int)-(j:Int))∧j≤8∧w=h') (fun j=>8-j) 0 ⟨rfl,by omega,rfl⟩ ?_
  rintro I2 j t w ⟨rfl,hj,rfl⟩ hI2;refine az (fun Z=>?_) fun hlt=>?_
  ·have hj7:j≤7:=by have:(7:Int)-(j:Int)≥0:=Z;omega
   have ei:IntKind.wrap .i64 ((a:Int)+(7-(j:Int)))=((a+(7-j):Nat):Int):=by rw[fx (by omega)];omega
   have A:=LZ s (j+1) (a+(8-(j+1)));have hp:256^(j+1)≤256^8:=fX (by omega) (by omega);have z:hv s (a+(8-(j+1))) (j+1)=hv s (a+(8-j)) j*256+Kd s (a+(7-j)):=by
    rw[show a+(8-(j+1))=a+(7-j) by omega]
    show hv s (a+(7-j)+1) j*256+_=_
    rw[show a+(7-j)+1=a+(8-j) by omega]
   rw[z]at A;refine Join.intro (fun t S=>t=((hv s (a+(8-(j+1))) (j+1):Nat):Int)∧S=w) (fun R N=>?_) ?_
   ·simp only
    rw[ei];refine az (fun o=>?_) fun M=>?_
    ·have o:a+(7-j)<s.size:=by omega
     obtain⟨b,X,F⟩:=aap o;refine⟨b,by omega,by rw[aU];exact X,N _ _ ⟨?_,rfl⟩⟩
     rw[z,F,IntKind.wrap_u64,IntKind.wrap_u64,IntKind.wrap_u64];rw[F]at A;omega
    ·have hz:Kd s (a+(7-j))=0:=Jb (by omega)
     refine N _ _ ⟨?_,rfl⟩;rw[hz]at A;rw[z,hz,IntKind.wrap_u64];omega
   ·rintro t S ⟨rfl,rfl⟩
    simp only;have e7:IntKind.wrap .i64 ((7:Int)-(j:Int)-1)=(7:Int)-((j+1:Nat):Int):=by rw[fx (by omega)];omega
    rw[e7];exact hI2 (j+1) _ _ ⟨rfl,by omega,rfl⟩ (by omega)
  ·obtain rfl:j=8:=by have:¬(7:Int)-(j:Int)≥0:=hlt;omega
   simp only[Nat.sub_self,eN];have h8:=LZ s 8 a;have e8:IntKind.wrap .i64 ((a:Int)+8)=((a+8:Nat):Int):=by rw[fx (by omega)];omega
   rw[e8];refine Join.intro (fun(t:Int) S=>S=w∧∃m:Nat,t=(m:Int)∧((a+8≤s.size∧m=hv s a 8)∨(s.size<a+8∧m=hv s a 8+s.size%256*72057594037927936))) (fun R N=>?_) ?_
   ·refine az (fun o=>?_) fun M=>?_
    ·have o:s.size<a+8:=by omega
     have hc:hv s a 8<2^56:=by
      have e:=Nn (s:=s) (d:=1) (c:=7) (p:=a) (by omega);rw[show(7+1:Nat)=8 from rfl]at e
      rw[e];exact LZ s 7 a
     refine⟨by decide,N _ _ ⟨rfl,_,?_,.inr ⟨o,rfl⟩⟩⟩;rw[oE (by omega),IntKind.wrap_u64,IntKind.wrap_u64,IntKind.wrap_u64];omega
    ·exact N _ _ ⟨rfl,_,rfl,.inl ⟨by omega,rfl⟩⟩
   ·rintro t S ⟨rfl,m,rfl,hm⟩
    refine⟨by decide,_,vc Q 3,by decide,?_⟩
    refine qN (i:=3) (c':=q4 (q.1,q.2.1,q.2.2.1,dX q.2.2.2 (m:Int))) Q (show 3<4 by decide) rfl fun h4 u u4=>?_
    refine⟨_,vc u 0,_,vc u 1,_,vc u 2,_,vc u 3,?_⟩;refine xu (s:=(q.1,q.2.1,q.2.2.1,dX q.2.2.2 (m:Int))) V.2.1 (wU _ _) fun h5 E=>?_
    have f:=zu (q.1,q.2.1,q.2.2.1,dX q.2.2.2 (m:Int));have et:uz (m:Int) q=(dX (mC (mC (q.1,q.2.1,q.2.2.1,dX q.2.2.2 (m:Int)))).1 m,(mC (mC (q.1,q.2.1,q.2.2.1,dX q.2.2.2 (m:Int)))).2):=rfl;refine xu f.2.1 f.2.2.2 fun h6 L=>?_
    obtain⟨r,U⟩:∃r,r=mC (mC (q.1,q.2.1,q.2.2.1,dX q.2.2.2 (m:Int))):=⟨_,rfl⟩;rw[←U]at et⊢;have b6:=L.get0 (E.get0 u);have z6:=bD b6;refine cU (vs:=(q4 r).toList) b6 rfl fun h7 b7 u7=>?_
    have H:h7[h.size]? =some (.cells (q4 r) ye (0,0)):=b7;refine⟨by decide,_,vc H 0,by decide,?_⟩
    refine qN (i:=0) (c':=q4 (dX r.1 m,r.2)) H (show 0<4 by decide) rfl fun h8' W u8=>?_
    have uu:Upd No h h8':=((((hu.own u4 (al _)).tr E).tr L).own u7 (al _)).own u8 (al _);rw[←et]at W;refine hI (a+8,uz m q) _ _ ⟨rfl,W,uu,Wc _ _,?_⟩ (by simp only;omega);rcases hm with⟨hc,rfl⟩|⟨hc,rfl⟩
    ·obtain⟨n',hd,hn'⟩:=Xi hn hc
     exact .inl ⟨n',hd.symm.trans y,hn',hc⟩
    ·refine .inr ⟨by simp only;omega,?_⟩
     have:=RX (n:=n) (q:=q) hc;rw[y]at this;rw[this]
 ·obtain⟨_,eq⟩:=x.resolve_left fun⟨_,_,_,h⟩=>by omega
  rw[←eq]at k;clear eq x;refine⟨by decide,_,vc Q 2,by decide,?_⟩
  refine qN (i:=2) (c':=q4 (q.1,q.2.1,dX q.2.2.1 255,q.2.2.2)) Q (show 2<4 by decide) rfl fun h4 u u4=>?_
  refine⟨_,vc u 0,_,vc u 1,_,vc u 2,_,vc u 3,?_⟩;have ef:YZ q=aak (mC (mC (mC (mC (q.1,q.2.1,dX q.2.2.1 255,q.2.2.2))))):=rfl;rw[ef]at k;refine xu (s:=(q.1,q.2.1,dX q.2.2.1 255,q.2.2.2)) V.2.1 V.2.2.2 fun h5 E=>?_
  have f:=zu (q.1,q.2.1,dX q.2.2.1 255,q.2.2.2);obtain⟨r1,P⟩:∃r,r=mC (q.1,q.2.1,dX q.2.2.1 255,q.2.2.2):=⟨_,rfl⟩;rw[←P]at k f⊢;clear P;refine xu f.2.1 f.2.2.2 fun h6 L=>?_
  have B:=zu r1;obtain⟨r2,J⟩:∃r,r=mC r1:=⟨_,rfl⟩;rw[←J]at k B⊢;clear J;refine xu B.2.1 B.2.2.2 fun h7 k7=>?_
  have C:=zu r2;obtain⟨r3,O⟩:∃r,r=mC r2:=⟨_,rfl⟩;rw[←O]at k C⊢;clear O;refine xu C.2.1 C.2.2.2 fun h8 k8=>?_
  obtain⟨r,U⟩:∃r,r=mC r3:=⟨_,rfl⟩;rw[←U]at k⊢;clear U;have W:=k8.get0 (k7.get0 (L.get0 (E.get0 u)));refine cU (vs:=(q4 r).toList) W rfl fun h9 b9 u9=>?_
  have v:h9[h.size]? =some (.cells (q4 r) ye (0,0)):=b9;refine⟨by decide,_,vc v 0,by decide,_,vc v 1,by decide,_,vc v 2,by decide,_,vc v 3,?_⟩
  exact k h9 ((((((hu.own u4 (al _)).tr E).tr L).tr k7).tr k8).own u9 (al _))
theorem WE{x:Hs}{s:ByteArray}(b:s.size≤1000000000){h:ae}{K:Int→ae→Prop}(c:∀h',Upd No h h'→K (eP x s) h'):HC PG Cm [.agg #[.int .u64 x.k0,.int .u64 x.k1,.int .u64 x.mask],.string s] [.c (.int .u64)] K h:=by
 refine SG (x.k0,x.k1,x.mask) s ?_;unfold JH ag AC ZM;refine aW fun d b1 k1=>⟨_,vc b1 0,_,vc b1 1,_,vc b1 2,Yy b fun h2 a=>⟨vc (a.get0 b1) 2,?_⟩⟩
 exact c h2 (k1.tr a)
theorem Z4{hv:Int}(f:0≤hv∧hv<18446744073709551616){lev:Nat}(m:lev<13){h:ae}{K:Int→ae→Prop}(b:K (((hv.toNat>>>(5*lev))%32:Nat):Int) h):HC PG Dy [.int .u64 hv,.int .i64 lev] [.c (.int .i64)] K h:=by
 obtain⟨n,rfl⟩:=qM f.1;rw[aU]at b;refine XP n lev ?_;unfold Qn;refine Join.plain (az (fun h=>by omega) fun _=>?_)
 rw[decide_eq_false (by omega)];refine aj.2 ?_;refine LoopP.ghost (fun(i:Nat) (t:Int×Int) h'=>t=(((n>>>(5*i):Nat):Int),(i:Int))∧i≤lev∧h'=h) (fun i=>lev-i) 0 ⟨rfl,aS _,rfl⟩ ?_
 rintro I i t h' ⟨rfl,hi,rfl⟩ j;refine az (fun a=>?_) fun d=>?_
 ·have a:i<lev:=by have:(i:Int)<(lev:Int):=a;omega
  have c:n>>>(5*i)≤n:=Nat.shiftRight_le _ _;have e:n>>>(5*(i+1))=n>>>(5*i)/32:=by rw[Nat.mul_add,Nat.shiftRight_add,cO _ (5*1)]
  have k:n<18446744073709551616:=by have:=f.2;omega
  have g:IntKind.wrap .u64 (md ((n>>>(5*i):Nat):Int) 32)=((n>>>(5*(i+1)):Nat):Int):=by
   rw[e];generalize n>>>(5*i)=y at c;rw[f8 (by omega),IntKind.wrap_u64];omega
  refine⟨by decide,?_⟩;simp only;rw[g,dd a (by omega)];exact j (i+1) _ _ ⟨rfl,a,rfl⟩ (by omega)
 ·obtain rfl:i=lev:=by have:¬(i:Int)<(lev:Int):=d;omega
  refine⟨by decide,?_⟩;simp only;generalize n>>>(5*i)=y at b;rw[oE (by omega),fx (by omega)];exact_mod_cast b
theorem aaX{x:Hs}{k:ByteArray}{lev:Nat}(b:lev<13){h:ae}{K:Int→ae→Prop}(a:K (ck x lev k:Int) h):HC PG Dy [.int .u64 (eP x k),.int .i64 lev] [.c (.int .i64)] K h:=Z4 (Gg x k) b a
end Go.Proofs
