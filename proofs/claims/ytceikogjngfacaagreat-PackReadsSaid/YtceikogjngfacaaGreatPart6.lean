/- A part of the proof that the named laws of this program answer true, whatever the input. -/
import Derived.Test.YtceikogjngfacaaGreatPart5
import Derived.Test.YtceikogjngfacaaGreatPart2
import Derived.Test.YtceikogjngfacaaGreatPart1
import Derived.Test.YtceikogjngfacaaGreatPart4
open Eq renaming symm→jH
open Go.IntKind renaming wrap→ac
open Go.Op renaming bytesLess→bH
open Iff renaming rfl→xH
open Int renaming toNat_natCast→bQ
open List renaming length_map→aX,map_append→cj,length_append→af,length_singleton→aI,getElem?_append_right→aH,mem_append_right→eu,mem_singleton→aq,mem_append_left→dw,length_eq_zero_iff→ax,length→eO,mem_map→bI,append_nil→bi,length_cons→av,append_assoc→aw,mem_range→jB,mem_append→be,flatMap_cons→aZ,mem_cons_self→aD,flatMap_append→cQ,mem_cons→ar,length_nil→aQ,map_cons→bJ,map_nil→nu,pairwise_append→bW,take_of_length_le→bL,pairwise_singleton→de,getElem?_cons_zero→cJ
open Nat renaming le_refl→ai,sub_self→di,le_of_eq→fA,lt_of_lt_of_le→aC,zero_le→aY,lt_or_ge→dB,add_zero→eY,le_trans→co
open Option renaming some→bX
namespace Go.Proofs
open Go Go.Lift
theorem Cur.upd{W C M:Nat→Prop}{h j:ae}{cb:Nat}{d:List It}(c:Cur W h cb C d)(k:Upd M h j)(n:∀b,M b→W b∨h.size≤b)(g:∀b,C b→b<h.size→¬M b)(f:¬M cb):Cur W j cb C d:=by
 obtain⟨s,m,h2⟩:=c.ex;exact⟨⟨s,k.get m f,(h2.within.upd k fun b e=>g b e.1 e.2).more fun b e=>e.1⟩,fun i hi=>(c.ok i hi).updM k n⟩
theorem Cur.sub{W C f:Nat→Prop}{h:ae}{cb:Nat}{d:List It}(c:Cur W h cb C d)(i:∀b,C b→b<h.size→f b):Cur W h cb f d:=by
 obtain⟨s,g,h2⟩:=c.ex;exact⟨⟨s,g,h2.within.more fun b e=>i b e.1 e.2⟩,c.ok⟩
set_option maxHeartbeats 1000000 in
theorem W5{W C:Nat→Prop}{h:ae}{cb:Nat}{f:List It}(cur:Cur W h cb C f)(hC:∀b,h.size≤b→C b)(hCW:∀b,C b→W b)(E:W cb)(hcb:¬C cb)(hcost:kY f≤100000000){K:(ByteArray×ByteArray)×Bool→ae→Prop}
  (hn:∀n,xf f= []→Upd (fun b=>C b∨b=cb) h n→K (((⟨#[]⟩:ByteArray),(⟨#[]⟩:ByteArray)),false) n)
  (hs:∀n items' k v R,xf f=(k,v)::R→xf items'=R→kY items'≤kY f→Cur W n cb C items'→Upd (fun b=>C b∨b=cb) h n→K ((⟨k.toArray⟩,v),true) n):
  Xe 159 [gF cb] K h:=by
 refine eM (tT (some ⟨cb,0,none⟩)) BL Tryz.func159 Tryz.call159 ?_;dsimp only[tT,cg,eP,jO,dy,jI,cf,aG,cE,ja,iR,MJ,Iw,Oy,ZA,ic,ji,dq,CS,fG,iP,j5,pq];refine bj fun h1 b1 k1=>ay.2 ?_
 have z1:=bc b1;obtain⟨s0,hc0,_⟩:=cur.ex;have zc:=bc hc0;have s1:=k1.size;have hC1:∀b,h1.size≤b→C b∧b≠h.size:=fun b g=>⟨hC b (by omega),by omega⟩
 have cur1:Cur W h1 cb (fun b=>C b∧b≠h.size) f:=(cur.sub fun b g hlt=>(⟨g,by omega⟩:C b∧b≠h.size)).upd k1 (fun _ h=>h.elim) (fun _ _ _ h=>h) fun h=>h
 refine LoopP.ghost (fun(its:List It) (_:Unit) n=>Cur W n cb (fun b=>C b∧b≠h.size) its∧xf its=xf f∧kY its≤kY f∧n[h.size]? =some (.cells zPrL.toArray 201 (0,0))∧Upd (fun b=>C b∨b=cb) h n∧h1.size≤n.size) kY f ⟨cur1,rfl,ai _,b1,k1.wide,ai _⟩ ?_
 rintro I its ⟨⟩ n ⟨cu,m,hco,bz,hu,hsz⟩ hI;obtain⟨s,bh,q⟩:=cu.ex;have B:=q.len;rw[aX]at B;refine⟨_,rfl,s,vc bh 0,?_⟩;refine ak (fun p=>?_) fun hnp=>?_
 ·have p:0<its.length:=by omega
  obtain⟨d,i,rfl⟩:∃d i,its=d++ [i]:=⟨its.dropLast,its.getLast (by intro e;rw[e]at p;simp at p),(List.dropLast_concat_getLast _).symm⟩;rw[cj]at q;rw[af,aI]at B;have hil:=G3 (d++ [i]);rw[af,aI]at hil;have F:ac .i64 ((s.len:Int)-1)=((d.length:Nat):Int):=by rw[dL (by omega)];omega
  have sl:=q.sl (W:=No) fun _ _ _ h=>h
  obtain⟨a,ha,_,hv⟩:=sl.at (i:=d.length) (x:=i.raw) (by rw[aH (by rw[aX];omega),aX,di];rfl);have hio:=cu.ok i (eu _ (aq.2 rfl));refine⟨_,rfl,s,vc bh 0,_,rfl,s,vc bh 0,?_⟩;rw[F];refine⟨⟨by omega,by omega⟩,a,ha,some ⟨i.b,0,none⟩,hv 0 _ rfl,i.ah,hv 1 _ rfl,i.own,hv 2 _ rfl,?_⟩
  refine bj fun h2 b2 k2=>?_
  have sl2:=sl.upd k2 fun _ h=>h.elim
  obtain⟨a',ha',_,N⟩:=sl2.at (i:=d.length) (x:=i.raw) (by rw[aH (by rw[aX];omega),aX,di];rfl);rw[ha]at ha';cases ha';have c2:=k2.get0 bh;refine⟨⟨N 0 _ rfl,N 1 _ rfl,N 2 _ rfl⟩,vc c2 0,vc c2 0,?_⟩;refine dt (c:= [.pointer none,.string (⟨#[]⟩:ByteArray),.bool false]) (vs:= [.pointer (some ⟨i.b,0,none⟩),.string i.ah,.bool i.own]) b2 rfl fun h3 b3 hu3=>?_
  have P:Upd No n h3:=k2.own hu3 (ai _);have c3:=P.get0 bh;have zcb:=bc bh;have z3:=bc b3;have s3:=P.size;refine⟨_,rfl,s,vc c3 0,_,rfl,s,vc c3 0,?_⟩;rw[F];have hcap:=q.cap;refine⟨⟨by omega,by omega⟩,?_⟩
  simp only[Bd];refine⟨_,rfl,?_⟩;refine nJ (i:=0) (c':=Xp ⟨bN s.a 0 s.cap 3,d.length,s.cap⟩) c3 (show 0<5 by decide) rfl fun X c4 o=>?_
  have H:=o.oth b3 (by omega);have Y:=o.oth (P.get0 bz) (by omega);have hpop:=OwnS.pop q;have G:=((hpop.upd P fun _ _ h=>h).upd o fun b g e=>hcb (by have e:b=cb:=e;rw[←e];exact g.1))
  rw[aX]at G;have Z:∀{j},It.Ok W n j→It.Ok W X j:=fun oj=>(oj.updM P fun _ h=>h.elim).updM o fun b g=>.inl (by have g:b=cb:=g;rw[g];exact E)
  have cu4:Cur W X cb (fun b=>C b∧b≠h.size) d:=⟨⟨_,c4,G⟩,fun j hj=>Z (cu.ok j (dw _ hj))⟩
  have w:=Z hio;have D:Upd (fun b=>C b∨b=cb) h X:=(hu.tr P.wide).trans o fun b g=>.inl (.inr g)
  have s4:=o.size;have hcs:kY (d++ [i])=kY d+i.cost:=by rw[zZ];rfl
  have L:=JL d i;have hic:1≤i.cost:=by unfold It.cost;split<;>omega
  refine⟨i.own,vc H 2,?_⟩;cases how:i.own with
  |false=>
   refine aV.2 ⟨_,vc H 0,i.ah,vc H 1,i.own,vc H 2,?_⟩;refine WP cu4 w how (fun b g=>hC1 b (by omega)) (fun b g=>hCW b g.1) E (fun hx=>hcb hx.1) (by omega) fun J T y hr5 hc5 O=>?_
   have hu5':Upd (fun b=>C b∨b=cb) X J:=O.mono fun b g=>.inl (g.imp (fun h=>h.1) id)
   refine hI (d++T) () J ⟨y,?_,?_,O.get Y (fun hx=>by rcases hx with hx|hx;exact hx.2 rfl;omega),D.tr hu5',by have:=O.size;omega⟩ ?_
   ·rw[Ub,hr5,←m,L]
   ·rw[zZ];omega
   ·rw[zZ];omega
  |true=>
   refine ay.2 ⟨i.ah,vc H 1,_,vc H 0,?_⟩;refine Gw w.1 ⟨vc H 1,?_,?_⟩
   ·have:=hio.2.2.1
    unfold It.key at this;rw[af]at this;have e1:i.ah.data.toList.length=i.ah.size:=by simp
    have e2:i.sl.data.toList.length=i.sl.size:=by simp
    omega
   refine⟨_,vc H 0,O4 w.1 fun v hvw=>?_⟩
   have V:i.prs=(i.w.map fun v=>(i.key,v)).toList:=by unfold It.prs;rw[how];rfl
   have ekey:(⟨i.key.toArray⟩:ByteArray)=i.ah++i.sl:=by rw[←Hz,ByteArray.data_append,Array.toList_append];rfl
   refine Join.intro (fun t J=>t=i.w.isSome∧Upd No X J) (fun R hR=>?_) ?_
   ·cases hw:i.w with
    |none=>exact ay.2 (hR _ _ ⟨by rw[hw];rfl,Upd.refl _ _⟩)
    |some u=>exact aV.2 ⟨_,rfl,_,lA c4 1 0,_,lA c4 1 1,true,lA c4 1 2,NQ fun J Q=>hR _ _ ⟨by rw[hw];rfl,Q⟩⟩
   ·rintro t J ⟨rfl,Q⟩
    have y:Cur W J cb (fun b=>C b∧b≠h.size) d:=cu4.upd Q (fun _ h=>h.elim) (fun _ _ _ h=>h) fun h=>h
    have S:=Q.get0 Y;have A:=D.tr (Q.wide (M:=fun b=>C b∨b=cb))
    have s5:=Q.size;cases hw:i.w with
    |none=>
     refine ay.2 (hI d () J ⟨y,?_,by omega,S,A,by omega⟩ (by omega))
     rw[←m,L,V,hw];rfl
    |some u=>
     have hvu:=hvw u hw;subst hvu;refine aV.2 ?_;refine dt (c:=zPrL) (vs:= [.string (i.ah++i.sl),.string v]) S rfl fun h6 U z=>?_
     refine⟨_,vc U 0,_,vc U 1,?_⟩;rw[←ekey];refine hs h6 d i.key v (xf d) (by rw[←m,L,V,hw];rfl) rfl (by omega) ?_ (A.trans z fun b g=>.inr (fA (jH g)))
     exact(y.upd z (fun b g=>.inl (hCW b (hC b (fA (jH g))))) (fun b g _ e=>g.2 e) (by show ¬cb=h.size;omega)).sub fun b g _=>g.1
 ·have h0:its= []:=ax.1 (by omega)
  subst h0;refine dt (c:=zPrL) (vs:=zPrL) bz rfl fun h6 U z=>?_
  refine⟨_,vc U 0,_,vc U 1,hn h6 m.symm (hu.trans z fun b g=>.inr (fA (jH g)))⟩
end Go.Proofs
namespace Go.Proofs
open Go Go.Lift
abbrev Xo(x:Pr):List Value:= [.agg #[.string x.1,.string x.2]]
theorem IS{h:ae}{fv:Value}{N:Nat}{S:List Pr→Prop}{Q:Nat→Prop}(hg:Gives PG fv Xo N S Q h)(hN:N≤100000000){K:SliceV→ae→Prop}
  (hk:∀s' d xs,S xs→OwnS fw 2 201 (fun b=>h.size≤b) d s' xs→Upd No h d→K s' d):fU 156 [.slice none 0 0,fv] K h:=by
 refine l6 ⟨none,0,0⟩ fv ?_;unfold gM nv cE ja iR xj XZ;have k0:=Upd.hnew No h [.slice none 0 0] 143;have b0:=cO h [.slice none 0 0] 143;have hsz:(hnew h [.slice none 0 0] 143).size=h.size+1:=eI ..;have hg1:=hg.upd k0 fun _ _=>id
 refine cP ?_;generalize hnew h [.slice none 0 0] 143=h1 at hg1 k0 b0 hsz;refine⟨fun lo hlo q=>?_⟩
 obtain⟨f,first,cap,rfl,P⟩:=hg1.run
 refine⟨f,first,cap,rfl,?_⟩
 have k1:Upd No h1 ((h1.push (.deferred (some []))).push (lo .ready none)):=(Upd.push No _ _).tr (Upd.push No _ _);have l2:((h1.push (.deferred (some []))).push (lo .ready none))[h1.size+1]? =some (lo .ready none):=by
  have:=lD (h1.push (.deferred (some []))) (lo .ready none);rwa [Array.size_push]at this
 have l1:((h1.push (.deferred (some []))).push (lo .ready none))[h1.size]? =some (.deferred (some [])):=(Upd.push No _ _).get0 (lD h1 _);refine P (.func (.yield (h1.size+1)) #[] #[]) (fun n A d=>(∀b,A b→b<d.size∧h.size≤b)∧A h.size∧A h1.size∧A (h1.size+1)∧d[h1.size]? =some (.deferred (some []))∧d[h1.size+1]? =some (lo .ready none)∧
   ∃s:SliceV,d[h.size]? =some (.cells #[sv s] 143 (0,0))∧OwnS fw 2 201 (fun b=>A b∧h1.size+1<b) d s n∧n.length≤N)
  (fun b=>b=h.size∨b=h1.size∨b=h1.size+1) No _ _ ⟨fun _ _ _ T b c=>(T.1 b c).1,fun n A d h'' B T C hB=>?_,fun n A d x K' T hlen hK=>?_⟩ ?_ k1 (fun _ _=>id) (fun b c hq=>?_) ?_
 ·obtain⟨L,h2,w,u,h5,h6,s,h7,h8,h9⟩:=T
  exact⟨fun b c=>⟨aC (L b c).1 C.size,(L b c).2⟩,h2,w,u,C.get h5 (hB _ w),C.get h6 (hB _ u),s,C.get h7 (hB _ h2),h8.upd C fun b c=>hB b c.1,h9⟩
 ·obtain⟨y,m,j,g,hd,D,s,W,ho,hpl⟩:=T
  refine q x d K' D ?_;refine JZ (p:=x) fun hp bp G=>?_
  have zp:=bc bp;have D:=G.get0 D;have W:=G.get0 W;have hd:=G.get0 hd;have hop:=ho.upd G fun _ _ h=>h
  have sp:=G.size;refine⟨D,?_⟩;have E:Upd (· =h1.size+1) hp (hp.setIfInBounds (h1.size+1) (lo .busy none)):=Upd.set _ _ rfl
  have lb:=dU (o:=lo .busy none) D;have sb:=E.size;refine cP ?_;generalize hp.setIfInBounds (h1.size+1) (lo .busy none)=h2 at E lb sb;have U:=(y _ m).1;have I:=(y _ g).1;have Y:=E.get bp (by omega);have O:=E.get W (by omega);refine⟨s,by rw[dA,bO O];rfl,_,vc Y 0,_,vc Y 1,cP ?_⟩
  refine VC (p:=x) (M:=fun b=>((A b∧b<d.size)∨h2.size≤b)∧h1.size+1<b) ((hop.upd E fun b c=>by omega).more fun b c=>⟨.inl ⟨c.1,(y b c.1).1⟩,c.2⟩) (fun b c=>⟨.inr c,by have:=bc lb;omega⟩) (by omega) fun s' w ho3 i=>?_
  have z:w[h.size]? =some (.cells #[sv s] 143 (0,0)):=i.get O (by omega);refine⟨by rw[dA];exact fz z (by simp),?_⟩;have F:Upd (· =h.size) w (hset w (aJ h) (.slice s'.a s'.len s'.cap)):=Upd.hset _ _ rfl
  have H:(hset w (aJ h) (.slice s'.a s'.len s'.cap))[h.size]? =some (.cells #[sv s'] 143 (0,0)):=by
   rw[dA,ju z,dU z];rfl
  refine cP ?_;generalize hset w (aJ h) (.slice s'.a s'.len s'.cap)=u at F H;have V:u[h1.size+1]? =some (lo .busy none):=F.get (i.get lb (by omega)) (by omega);refine⟨V,?_⟩;have e:Upd (· =h1.size+1) u (u.setIfInBounds (h1.size+1) (lo .ready none)):=Upd.set _ _ rfl
  have hl5:=dU (o:=lo .ready none) V;have J:Upd A d u:=((G.wide.tr (E.mono (M':=A) fun b c=>.inl (c▸g))).trans i fun b c=>c.1.imp (fun h=>h.1) fun h=>by omega).trans F fun b c=>.inl (c▸m)
  have z3:=i.size;have z4:=F.size;have z5:=e.size;refine hK _ (fun b=>((A b∧b<d.size)∨h2.size≤b)∧b<u.size) ⟨fun b c=>⟨aC c.2 z5,c.1.elim (fun h=>(y b h.1).2) fun h=>by omega⟩,⟨.inl ⟨m,U⟩,by omega⟩,⟨.inl ⟨j,(y _ j).1⟩,by have:=(y _ j).1;omega⟩,⟨.inl ⟨g,I⟩,by omega⟩,
   e.get (F.get (i.get (E.get hd (by omega)) (by omega)) (by omega)) (by omega),hl5,s',e.get H (by omega),?_,by simp;omega⟩ (J.trans e fun b c=>.inl (c▸g)) fun b c=>c.1.imp (fun h=>h.1) fun h=>by omega
  exact(((ho3.upd F fun b c=>by omega).within).more fun b c=>⟨⟨c.1.1,c.2⟩,c.1.2⟩).upd e fun b c=>by omega
 ·refine⟨fun b c=>?_,.inl rfl,.inr (.inl rfl),.inr (.inr rfl),l1,l2,⟨none,0,0⟩,k1.get0 b0,OwnS.nil kj,aY _⟩
  have:=bc l2;rcases c with rfl|rfl|rfl<;>omega
 ·have:=hg.lt b hq
  rcases c with rfl|rfl|rfl<;>omega
 ·rintro xs A' d hS ⟨y,m,j,g,hd,D,s,W,ho,hpl⟩ C hA'
  refine⟨.ready,none,by decide,D,?_⟩
  have e:Upd (· =h1.size+1) d (d.setIfInBounds (h1.size+1) (lo .exhausted none)):=Upd.set _ _ rfl
  show∃v:SliceV,bh (d.setIfInBounds (h1.size+1) (lo .exhausted none)) (aJ h)=some (.slice v.a v.len v.cap)∧_
  have X:=e.get hd (show ¬h1.size=h1.size+1 by omega)
  have R:=e.get W (show ¬h.size=h1.size+1 by omega)
  have Z:=ho.upd e fun b c=>by omega
  generalize d.setIfInBounds (h1.size+1) (lo .exhausted none)=h5 at e X R Z;refine⟨s,by rw[dA,bO R];rfl,X,?_⟩
  have k6:Upd (· =h1.size) h5 (h5.setIfInBounds h1.size (.deferred none)):=Upd.set _ _ rfl
  refine hk s _ xs hS ((Z.upd k6 fun b c=>by omega).more fun b c=>(y b c.1).2) ?_
  refine(((k0.tr k1).trans C fun b c=>?_).trans e fun b c=>.inr (by omega)).trans k6 fun b c=>.inr (by omega)
  rcases c with rfl|rfl|rfl<;>(right;omega)
theorem EX{h:ae}{c:Value}{N:Nat}{S:List Pr→Prop}{Q:Nat→Prop}(f:Gives PG c Xo N S Q h)(d:N≤100000000){K:SliceV→ae→Prop}
  (e:∀s' h' xs,S xs→OwnS fw 2 201 (fun b=>h.size≤b) h' s' xs→Upd No h h'→K s' h'):fU 130 [c] K h:=by
 refine eM (mL c) .nil Tryz.func130 Tryz.call130 ?_;unfold mL;exact IS f d e
theorem OW{W:Nat→Prop}{h:ae}{b:Nat}{w:Option ByteArray}{F:Fo}(C:It.Ok W h ⟨b,⟨#[]⟩,false,⟨#[]⟩,w,F⟩)(_:∀y,h.size≤y→W y){K:Option Addr→ae→Prop}
  (x:∀h' cb,h.size≤cb→cb<h'.size→Cur W h' cb (fun y=>h.size≤y∧y≠cb) [⟨b,⟨#[]⟩,false,⟨#[]⟩,w,F⟩]→Upd No h h'→K (some ⟨cb,0,none⟩) h'):fh 158 [gF b,.agg #[.string ⟨#[]⟩,.string ⟨#[]⟩,.bool true],.bool false] K h:=by
 refine eM (H0 (some ⟨b,0,none⟩) (⟨#[]⟩,⟨#[]⟩,true) false) .nil Tryz.func158 Tryz.call158 ?_;dsimp only[H0,jO,cf,IB,Iw,Oy,iv,dy,j5,cE,CT];refine bj fun u b1 k1=>⟨_,vc b1 0,_,vc b1 1,true,vc b1 2,bj fun h2 b2 n=>aV.2 ⟨_,rfl,⟨none,0,0⟩,vc b2 0,bj fun s b3 j=>?_⟩⟩
 have v:=k1.size;have I:=n.size;have G:=bc b2;have L:=bc b3;have z:OwnS Rr 3 302 (fun _=>True) s ⟨some (aJ h2),1,1⟩ [(some ⟨b,0,none⟩,⟨#[]⟩,false)]:=⟨rfl,KV,ai _,.inr ⟨h2.size,[],rfl,trivial,b3,rfl⟩⟩
 refine⟨_,(z.sl (W:=No) fun _ _ _ h=>h).srow,?_⟩
 refine AppP.own (M:=fun y=>s.size≤y) (ys:= [(some ⟨b,0,none⟩,⟨#[]⟩,false)]) (OwnS.nil (f:=Rr) KV) rfl rfl rfl rfl (by omega) (by simp) (ai _) fun o D g c=>?_
 have B:=c.get (j.get0 b2) (by omega);refine⟨_,rfl,?_⟩;refine nJ (i:=0) (c':=Xp o) B (show 0<5 by decide) rfl fun q A d=>?_
 have m:Upd No h q:=(((k1.tr n).tr j).trans c fun y p=>.inr (by omega)).own d v
 have J:=c.size;have E:=d.size;refine x q u.size v (by omega) ⟨⟨o,A,?_⟩,fun i hi=>?_⟩ m
 ·exact(g.upd d fun y p e=>by have e:y=u.size:=e;omega).more fun y p=>⟨by omega,by omega⟩
 ·rw[aq.1 hi]
  exact C.updM m fun _ h=>h.elim
theorem Wy(l m:List Pr):Mx (l++m)=Mx l++Mx m:=by unfold Mx;rw[cj]
theorem MP{W:Nat→Prop}{h:ae}{b:Nat}{l:List Pr}(t:RadAt W h b l)(hr:fE l)(hf:Fit l)(hn:l.length≤60000){K:Value→ae→Prop}
  (hk:∀fv s,Gives PG fv Xo (2*l.length) (fun xs=>xs=l) (fun y=>y<s.size) s→Upd No h s→K fv s):IK 131 [gF b,.agg #[.string ⟨#[]⟩,.string ⟨#[]⟩,.bool true],.bool false] K h:=by
 refine eM (E4 (some ⟨b,0,none⟩) (⟨#[]⟩,⟨#[]⟩,true) false) .nil Tryz.func131 Tryz.call131 ?_;unfold E4 IB;refine bj fun h1 b1 k1=>bj fun h2 b2 k2=>bj fun C b3 k3=>?_
 have k03:=(k1.tr k2).tr k3;have c1:=k3.get0 (k2.get0 b1);have c2:=k3.get0 b2;have z1:=bc c1;have z2:=bc c2;have z3:=bc b3;refine hk _ C ?_ k03;obtain⟨w,F,r1,r2,r3⟩:=(((t.upd0 k03).less (W':=fun y=>C.size≤y) fun y c=>.inr c)).ex
 have n:=WH r2 hr r3;have hcnt:=LS r2;have o:=congrArg eO n;unfold DP Mx at o;rw[af,aX]at o;refine⟨fun y c=>c,157,#[],_,rfl,fun y J A M H K' G hj Z hq ha hk'=>?_⟩
 refine HW y (aJ h) (aJ h1) (aJ h2) ?_;dsimp only[vK,nv,jI,ja,MJ,xj,pN,CS,fG,j5,cE];have d1:=Z.get c1 (hq _ z1);have d2:=Z.get c2 (hq _ z2);have d3:=Z.get b3 (hq _ z3);have s4:=Z.size;have io:It.Ok (fun y=>C.size≤y) H ⟨b,⟨#[]⟩,false,⟨#[]⟩,w,F⟩:=⟨r1.updM Z fun y c=>.inl (by
  rcases dB y C.size with P|P
  ·exact absurd c (hq y P)
  ·exact P),r2,by simp[It.key],fun p hp=>by
   rw[n]at hp
   obtain⟨q,hq',e⟩:=bI.1 hp
   have:=(hf q hq').1
   rw[←e]
   simpa[It.key]using this⟩
 refine⟨_,(by have:=vc d1 0;rw[cM,eY]at this;exact this),_,vc d2 0,_,vc d2 1,true,vc d2 2,false,(by have:=vc d3 0;rw[cM,eY]at this;exact this),?_⟩;refine OW io (fun y c=>co s4 c) fun h5 cb hcb hcb5 cur k5=>?_
 have L:=G.lt _ _ _ hj;have hA3:∀y,A y→C.size≤y:=fun y c=>by
  rcases dB y C.size with P|P
  ·exact absurd P (ha y c)
  ·exact P
 have s5:=k5.size;have x:kY [⟨b,⟨#[]⟩,false,⟨#[]⟩,w,F⟩]≤100000000:=by
  have:kY [⟨b,⟨#[]⟩,false,⟨#[]⟩,w,F⟩]=2+2*Ht F:=by simp[kY,It.cost]
  rw[this];omega
 have U:xf [⟨b,⟨#[]⟩,false,⟨#[]⟩,w,F⟩]=Mx l:=by
  rw[←n];simp[xf,It.prs,It.key]
 refine LoopP.ghost (fun(g:List Pr×List It×(Nat→Prop)) (_:Unit) s=>Cur (fun y=>C.size≤y) s cb (fun y=>H.size≤y∧y≠cb∧¬g.2.2 y) g.2.1∧J g.1 g.2.2 s∧Upd A H s∧(∀y,g.2.2 y→(A y∨H.size≤y)∧y≠cb)∧Mx g.1++xf g.2.1=Mx l∧kY g.2.1≤100000000∧h5.size≤s.size) (fun g=>(xf g.2.1).length) ([],[⟨b,⟨#[]⟩,false,⟨#[]⟩,w,F⟩],A)
  ⟨cur.sub fun y c Y=>⟨c.1,c.2,fun hx=>by have:=L y hx;omega⟩,G.keep _ _ _ _ No hj k5 (fun _ _ h=>h),k5.wide,fun y c=>⟨.inl c,by have:=L y c;omega⟩,by rw[U];rfl,x,ai _⟩ ?_
 rintro I ⟨D,items,u⟩ ⟨⟩ s ⟨cu,E,hu',f,d,hco,hsz⟩ hI;(try simp only at cu E f d hco)
 have hlt':=G.lt _ _ _ E;have X:∀y,u y→C.size≤y:=fun y c=>(f y c).1.elim (hA3 y) fun h=>by omega
 refine W5 cu (fun y c=>⟨by omega,by omega,fun hx=>by have:=hlt' y hx;omega⟩) (fun y c=>co s4 c.1) (co s4 hcb) (fun hx=>hx.2.1 rfl) hco (fun h6 hr0 j=>?_) fun h6 i k v R Q hr2 hc6 cu6 j=>?_
 ·have hd:∀y,u y→¬((H.size≤y∧y≠cb∧¬u y)∨y=cb):=fun y c hx=>hx.elim (fun h=>h.2.2 c) (f y c).2
  have O:=G.keep _ _ _ _ _ E j hd;refine JZ fun N b7 S=>?_
  refine Join.intro (fun t B=>t=true∧B=N) (fun R hR=>aV.2 (hR _ _ ⟨rfl,rfl⟩)) ?_
  rintro t B ⟨rfl,rfl⟩;refine aV.2 (hk' D u B ?_ (G.keep _ _ _ _ No O S (fun _ _ h=>h)) ?_ fun y c=>(f y c).1)
  ·rw[hr0,bi]at d
   exact QC d
  ·exact(hu'.trans j fun y c=>.inr (by rcases c with c|c;exact c.1;omega)).tr S.wide
 ·have hd:∀y,u y→¬((H.size≤y∧y≠cb∧¬u y)∨y=cb):=fun y c hx=>hx.elim (fun h=>h.2.2 c) (f y c).2
  have O:=G.keep _ _ _ _ _ E j hd;refine JZ (p:=(⟨k.toArray⟩,v)) fun N b7 S=>?_
  have hj7:=G.keep _ _ _ _ No O S (fun _ _ h=>h)
  have cu7:=cu6.upd S (fun _ h=>h.elim) (fun _ _ _ h=>h) fun h=>h
  have hu47:Upd A H N:=(hu'.trans j fun y c=>.inr (by rcases c with c|c;exact c.1;omega)).tr S.wide
  have s6:=j.size;have s7:=S.size;refine Join.intro (fun t B=>t=false∧∃V,J (D++ [(⟨k.toArray⟩,v)]) V B∧Upd u N B∧∀y,V y→u y∨N.size≤y) (fun R' hR=>?_) ?_
  ·refine ay.2 ⟨_,vc b7 0,_,vc b7 1,?_⟩
   refine G.step D u N (⟨k.toArray⟩,v) _ hj7 ?_ fun B V T m z=>hR _ _ ⟨rfl,V,T,m,z⟩
   have:=congrArg eO d;rw[Q]at this;simp only[Mx,af,aX,av]at this;omega
  ·rintro t B ⟨rfl,V,T,m,z⟩
   refine ay.2 (hI (D++ [(⟨k.toArray⟩,v)],i,V) () B ⟨?_,T,?_,fun y c=>?_,?_,by(try simp only);omega,by have:=m.size;omega⟩ ?_)
   ·have c7:Cur (fun y=>C.size≤y) N cb (fun y=>(H.size≤y∧y≠cb∧¬u y)∧y<N.size) i:=cu7.sub fun y c Y=>⟨c,Y⟩
    exact(c7.upd m (fun y c=>.inl (X y c)) (fun y c _ hx=>c.1.2.2 hx) (fun hx=>(f _ hx).2 rfl)).sub fun y c _=>⟨c.1.1,c.1.2.1,fun hx=>by
     rcases z y hx with h|h
     ·exact c.1.2.2 h
     ·have:=c.2;omega⟩
   ·exact hu47.trans m fun y c=>(f y c).1
   ·rcases z y c with h|h
    ·exact f y h
    ·exact⟨.inr (by omega),by omega⟩
   ·(try simp only)
    rw[Wy,aw,hr2,←d,Q];rfl
   ·(try simp only)
    rw[Q,hr2];simp
theorem K5{W:Nat→Prop}{h:ae}{b:Nat}{l:List Pr}(t:RadAt W h b l)(q:fE l)(n:Fit l)(p:l.length≤60000){K:SliceV→ae→Prop}
  (j:∀s' h',OwnS fw 2 201 (fun y=>h.size≤y) h' s' l→Upd No h h'→K s' h'):fU 103 [gF b,.agg #[.string ⟨#[]⟩,.string ⟨#[]⟩,.bool true]] K h:=by
 refine eM (C5 (some ⟨b,0,none⟩) (⟨#[]⟩,⟨#[]⟩,true)) .nil Tryz.func103 Tryz.call103 ?_;dsimp only[C5,jO,IB,MJ,j5,cE];refine bj fun u b1 k1=>⟨_,vc b1 0,_,vc b1 1,true,vc b1 2,?_⟩
 refine MP (t.upd0 k1) q n p fun v h2 f c=>?_
 refine EX f (by omega) fun m g xs e d i=>?_
 subst e;have o:=(k1.tr c).size;exact j m g (d.more fun y s=>by omega) ((k1.tr c).tr i)
theorem OK{W:Nat→Prop}{x:Hs}{h:ae}{t:Tr}{l:List Pr}(i:TreeIs W h 1 x t l)(z:fE l)(s:Fit l)(v:l.length≤60000){K:SliceV→ae→Prop}
  (o:∀s' h',OwnS fw 2 201 (fun y=>h.size≤y) h' s' l→Upd No h h'→K s' h'):fU 58 [RI t] K h:=by
 refine uP t ?_;dsimp only[pu,aG,jP,Yx,kR,aR];rcases i with⟨e,_⟩|⟨_,b,rfl,t⟩
 ·cases e
 refine bj fun u b1 k1=>⟨_,vc b1 0,aV.2 ⟨_,vc b1 5,?_⟩⟩
 refine eM H1 .nil Tryz.func104 Tryz.call104 ?_;dsimp only[H1,nv,jO,Zn,Zv,j5,cE];refine bj fun h2 b2 p=>?_
 refine dt (c:= [.string (⟨#[]⟩:ByteArray),.string (⟨#[]⟩:ByteArray),.bool false]) (vs:= [.string (⟨#[]⟩:ByteArray),.string (⟨#[]⟩:ByteArray),.bool true]) b2 rfl fun m b3 f=>?_
 have g:Upd No u m:=p.own f (ai _);have d:=k1.tr g;refine⟨_,vc b3 0,_,vc b3 1,true,vc b3 2,vc (g.get0 b1) 5,?_⟩;refine K5 (t.upd0 d) z s v fun q n j w=>o q n (j.more fun y A=>?_) (d.tr w)
 have:=d.size;omega
end Go.Proofs
namespace Go.Proofs
open Go Go.Lift
abbrev bA:ByteArray:=⟨#[97]⟩
abbrev bB:ByteArray:=⟨#[98]⟩
end Go.Proofs
namespace Go.Proofs
open Go Go.Lift
end Go.Proofs
namespace Go.Proofs
open Go Go.Lift
end Go.Proofs
namespace Go.Proofs
end Go.Proofs
namespace Go.Proofs
open Go Go.Lift
end Go.Proofs
namespace Go.Proofs
open Go Go.Lift
end Go.Proofs
namespace Go.Proofs
end Go.Proofs
namespace Go.Proofs
open Go Go.Lift
theorem UD{β:Type}{g:Nat→Option β}{n:Nat}{y:β}:y∈fm g n↔∃c,c<n∧g c=some y:=by
 unfold fm;rw[List.mem_filterMap];exact⟨fun⟨c,b,h2⟩=>⟨c,jB.1 b,h2⟩,fun⟨c,b,h2⟩=>⟨c,jB.2 b,h2⟩⟩
def wl(x:Hs):Nat→List Pr→List Pr
 |0,l=>l
 |m+1,l=>EB x (12-m) l++(yF x (12-m) l).flatMap (wl x m)
theorem KT(x:Hs)(m:Nat)(l:List Pr):wl x (m+1) l=EB x (12-m) l++(yF x (12-m) l).flatMap (wl x m):=rfl
theorem GT{x:Hs}{p:Pr}:∀(m:Nat) {l:List Pr},p∈wl x m l↔p∈l
 |0,_=>xH
 |m+1,l=>by
  rw[KT,be,List.mem_flatMap];constructor
  ·rintro(h|⟨L,d,h⟩)
   ·exact SE h
   ·obtain⟨_,c,rfl⟩:=J0 d
    exact(Cu.1 ((GT m).1 h)).1
  ·intro h
   have hm:p∈part x (12-m) (ck x (12-m) p.1) l:=Cu.2 ⟨h,rfl⟩;have hc:=X4 x (12-m) p.1;rcases d:part x (12-m) (ck x (12-m) p.1) l with _|⟨a,_|⟨b,r⟩⟩
   ·rw[d]at hm;cases hm
   ·left
    rw[d]at hm;rw[aq.1 hm];unfold EB;exact UD.2 ⟨_,hc,by show K7 (part x (12-m) (ck x (12-m) p.1) l)=_;rw[d];rfl⟩
   ·right
    refine⟨a::b::r,?_,(GT m).2 (by rw[←d];exact hm)⟩;unfold yF;exact UD.2 ⟨_,hc,by show DU (part x (12-m) (ck x (12-m) p.1) l)=_;rw[d];rfl⟩
theorem NV{f:List Pr→List Pr}(h:∀l,(f l).length≤l.length):∀ls:List (List Pr),(ls.flatMap f).length≤ls.flatten.length
 | []=>ai _
 |l::ls=>by
  have b:=h l;have h2:=NV h ls;rw[aZ,List.flatten_cons,af,af];omega
theorem KU(x:Hs):∀(m:Nat) (l:List Pr),(wl x m l).length≤l.length
 |0,_=>ai _
 |m+1,l=>by
  rw[KT,af];have b:=JE x (12-m) l;have h2:=NV (KU x m) (yF x (12-m) l);omega
theorem Yo{x:Hs}{m:Nat}{l:List Pr}(f:fE l):rp (wl x m l)=l:=by
 refine zK (vY _) f fun p=>?_
 rw[FZ];constructor
 ·intro h;exact(GT m).1 (wn h)
 ·intro h
  have d:p∈(wl x m l).filter fun q=>decide (q.1=p.1):=List.mem_filter.2 ⟨(GT m).2 h,decide_eq_true rfl⟩
  have b:jJ (wl x m l) p.1≠none:=by
   unfold jJ;intro e;rw[List.getLast?_eq_none_iff]at e;rw[e]at d;cases d
  cases hl:jJ (wl x m l) p.1 with
  |none=>exact absurd hl b
  |some q=>
   have c:=Kf hl;have h2:=(GT m).1 (wn hl);have g:(p.1,q.2)∈l:=by rw[←c];exact h2
   have i:=Gy f (k:=p.1) (v:=p.2) (w:=q.2) h g;rw[Prod.ext c i.symm]
def cw(x:Hs):Nat→List Pr→Nat
 |0,_=>2
 |m+1,l=>2+((yF x (12-m) l).map (cw x m)).sum
structure Fr where
 sp:SliceV
 sk:SliceV
 n:Nat
 ps:List Pr
 ks:List (Nat×List Pr)
abbrev Tx(v:SliceV×SliceV):List Value:= [sv v.1,sv v.2]
theorem U3(x:SliceV×SliceV):(Tx x).length=2∧0<2:=⟨rfl,by omega⟩
def Fr.raw(f:Fr):SliceV×SliceV:=(f.sp,f.sk)
def Fr.rem(x:Hs)(f:Fr):List Pr:=f.ps++f.ks.flatMap fun k=>wl x (f.n-1) k.2
def Fr.cost(x:Hs)(f:Fr):Nat:=1+(f.ks.map fun k=>cw x (f.n-1) k.2).sum
def DH(x:Hs)(l:List Fr):List Pr:=l.reverse.flatMap (Fr.rem x)
def EW(x:Hs)(l:List Fr):Nat:=(l.map (Fr.cost x)).sum
theorem zL(x:Hs)(l:List Fr)(f:Fr):DH x (l++ [f])=f.rem x++DH x l:=by unfold DH;rw[List.reverse_append];rfl
theorem Bl(x:Hs)(l:List Fr)(f:Fr):EW x (l++ [f])=EW x l+f.cost x:=by unfold EW;rw[cj,List.sum_append];simp
abbrev NF(k:Nat×List Pr):Option Addr:=some ⟨k.1,0,none⟩
structure Fr.Ok(W G:Nat→Prop)(x:Hs)(h:ae)(f:Fr):Prop where
 p:Sl fw 2 (fun y=>¬G y) h f.sp f.ps
 k:Sl tE 1 (fun y=>¬G y) h f.sk (f.ks.map NF)
 pc:f.sp.len≤f.sp.cap
 kc:f.sk.len≤f.sk.cap
 t:∀k∈f.ks,TrieAt W x h (f.n-1) k.1 k.2∧k.2.length≤100000
 n0:f.ks≠[]→0<f.n
 n13:f.n≤13
theorem Fr.Ok.upd{W G M:Nat→Prop}{x:Hs}{h d:ae}{f:Fr}(o:f.Ok W G x h)(k:Upd M h d)(g:∀b,M b→W b∨h.size≤b)(e:∀b,M b→¬G b∨h.size≤b):f.Ok W G x d:=
 ⟨o.p.upd k e,o.k.upd k e,o.pc,o.kc,fun q c=>⟨TrieAt.updM k g (o.t q c).1,(o.t q c).2⟩,o.n0,o.n13⟩
theorem Fr.Ok.sub{W G G':Nat→Prop}{x:Hs}{h:ae}{f:Fr}(o:f.Ok W G x h)(e:∀b,G b→G' b):f.Ok W G' x h:=
 ⟨o.p.less fun b c=>.inl fun d=>c (e b d),o.k.less fun b c=>.inl fun d=>c (e b d),o.pc,o.kc,o.t,o.n0,o.n13⟩
abbrev aaf(s:SliceV)(d:Int):Array Value:= #[sv s,.int .i64 d]
structure CurW(W G C:Nat→Prop)(x:Hs)(h:ae)(cb:Nat)(fs:List Fr):Prop where
 ex:∃s d,h[cb]? =some (.cells (aaf s d) 314 (0,0))∧OwnS Tx 2 310 C h s (fs.map Fr.raw)
 ok:∀f∈fs,f.Ok W G x h
 lt:∀b,(C b∨G b)→b<h.size
 dj:∀b,G b→¬C b∧b≠cb
 cc:¬C cb
 cw:(∀b,C b→W b)∧W cb
 lv:fs.Pairwise fun f g=>g.n<f.n
theorem CurW.upd{W G C M:Nat→Prop}{x:Hs}{h i:ae}{cb:Nat}{j:List Fr}(c:CurW W G C x h cb j)(k:Upd M h i)(q:∀b,M b→W b∨h.size≤b)(m:∀b,C b→¬M b)(u:∀b,G b→¬M b)(g:¬M cb):CurW W G C x i cb j:=by
 obtain⟨s,d,o,h2⟩:=c.ex;exact⟨⟨s,d,k.get o g,h2.upd k m⟩,fun f p=>(c.ok f p).upd k q fun b e=>.inl fun n=>u b n e,fun b e=>aC (c.lt b e) k.size,c.dj,c.cc,c.cw,c.lv⟩
theorem UF:∀{b:List Fr} {n:Nat},b.Pairwise (fun f g=>g.n<f.n)→(∀f∈b,f.n≤n)→b.length≤n+1
 | [],_,_,_=>aY _
 |f::b,n,c,hn=>by
  have c:=List.pairwise_cons.1 c;have e:=hn f (aD ..);rcases b with _|⟨g,b⟩
  ·simp
  ·have d:=c.1 g (aD ..)
   have:=UF (n:=f.n-1) c.2 fun g d=>by have:=c.1 g d;omega
   rw[av];omega
theorem setCell{α:Type}{f:α→List Value}{sz:Nat}{t:TypeId}{M:Nat→Prop}{h:ae}{s:SliceV}{P Q:List α}{x y:α}{j:Nat}{v:Value}(n:OwnS f sz t M h s (P++x::Q))(H:j<sz)(F:f y=(f x).set j v){a:Addr}(A:s.a=some a){i:Nat}(hi:i=P.length){G:ae→Prop}(C:∀e,OwnS f sz t M e s (P++y::Q)→Upd M h e→G e):
  Wr h (adr (adr a (i*sz)) j)∧At (hset h (adr (adr a (i*sz)) j) v) G:=by
 subst hi;have u:=n.ne;have d:=n.len;have g:=n.cap;rcases n.blk with I|⟨b,c,m,B,hc,D⟩
 ·rw[af,av]at d;omega
 rw[A]at m;cases m;have K:(P.flatMap f).length=P.length*sz:=pp u P;rw[cQ,aZ]at hc;have J:=(u x).1;have E:adr (adr ⟨b,0,none⟩ (P.length*sz)) j=⟨b,P.length*sz+j,none⟩:=by rw[cM,cM,Nat.zero_add]
 rw[E];have o:P.length*sz+j<(P.flatMap f++(f x++Q.flatMap f)++c).toArray.size:=by
  simp only[List.size_toArray,af];omega
 refine⟨fz hc o,Bq hc fun e p w=>C e ⟨by rw[d];simp,u,g,.inr ⟨b,c,A,B,?_,D⟩⟩ (w.mono fun z q=>.inl (by have q:z=b:=q;rw[q];exact B))⟩
 rw[p];congr 3
 rw[cQ,aZ,F];apply Array.toList_inj.1;rw[Array.toList_setIfInBounds];simp only[aw];rw[List.set_append_right _ _ (by omega),show P.length*sz+j-(P.flatMap f).length=j by omega,List.set_append_left _ _ (by omega)]
theorem Kh{W:Nat→Prop}{x:Hs}{h:ae}{m:Nat}:∀{ks:List (Option Addr)} {ls:List (List Pr)},KidsAt W x h m ks ls→∃q:List (Nat×List Pr),ks=q.map NF∧ls=q.map (·.2)∧∀k∈q,TrieAt W x h m k.1 k.2
 | [],[],_=>⟨[],rfl,rfl,fun k c=>by cases c⟩
 |_::_,[],h=>h.elim
 | [],_::_,h=>h.elim
 |k::ks,l::ls,c=>by
  obtain⟨⟨g,e,t⟩,i⟩:=c;obtain⟨q,j,d,f⟩:=Kh i;refine⟨(g,l)::q,by rw[e,j];rfl,by rw[d];rfl,fun k' b=>?_⟩
  rcases ar.1 b with rfl|b
  ·exact t
  ·exact f k' b
theorem JA{W:Nat→Prop}{x:Hs}{h:ae}{m b:Nat}{l:List Pr}(t:TrieAt W x h m b l)(hm:m≤13)(X:l.length≤100000){K:SliceV×SliceV→ae→Prop}
  (z:∀h' f,f.n=m→Fr.rem x f=wl x m l→f.cost x+1=cw x m l→f.Ok W (fun y=>h.size≤y∧y<h'.size) x h'→Upd No h h'→K f.raw h'):UU 196 [gF b] K h:=by
 refine KD (some ⟨b,0,none⟩) ?_;unfold El cq eP Zd Zp;refine bj fun o b1 k1=>?_
 have V:=TrieAt.upd0 k1 (TrieAt.less (W':=Pro W h o) Pro.hm t);obtain⟨d,n,sp,sk,Y,A,E,q,B,u,v,hlp,hq,N,hcw,C,Q⟩:∃d n sp sk Y A E,∃q:List (Nat×List Pr),o[b]? =some (.cells (gG d n sp sk Y A) 350 (0,0))∧Sl fw 2 (Pro W h o) o sp E∧Sl tE 1 (Pro W h o) o sk (q.map NF)∧E.length≤100000∧q.length≤32∧(E++q.flatMap fun k=>wl x (m-1) k.2)=wl x m l∧2+(q.map fun k=>cw x (m-1) k.2).sum=cw x m l∧(∀k∈q,TrieAt (Pro W h o) x o (m-1) k.1 k.2∧k.2.length≤100000)∧(q≠[]→0<m):=by
  cases m with
  |zero=>
   obtain⟨sp,sk,A,B,u,v,_⟩:=BuckAt.ex V;exact⟨0,0,sp,sk,true,A,l,[],B,u,v,X,by simp,by simp[wl],by simp[cw],fun k z=>(by cases z),fun h=>absurd rfl h⟩
  |succ m=>
   obtain⟨s,nd,I⟩:=V;have I:∀c,c<32→SlotIs (Pro W h o) x o m s c (part x (12-m) c l):=I;obtain⟨d,n,sp,sk,A,B,bits,u,v,_⟩:=nd.ex;have R:=UJ (W:=Pro W h o) (x:=x) (h:=o) (m:=m) (lev:=12-m) (s:=s) (l:=l) 32 I;obtain⟨q,T,H,e3⟩:=Kh R;have H:yF x (12-m) l=q.map (·.2):=H
   have D:=WD I;have hsl:=JE x (12-m) l;have Z:=Hg (g:=s.k);have hql:q.length=(fm s.k 32).length:=by rw[T,aX]
   refine⟨d,n,sp,sk,false,A,fm s.p 32,q,B,u,by rw[←T];exact v,by rw[D];omega,by omega,?_,?_,fun k z=>⟨e3 k z,?_⟩,fun _=>Nat.succ_pos _⟩
   ·rw[KT,D,H,List.flatMap_map];rfl
   ·show _=2+_
    rw[H,List.map_map];rfl
   ·have:k.2∈yF x (12-m) l:=by rw[H];exact bI.2 ⟨k,z,rfl⟩
    obtain⟨_,c,hc⟩:=J0 this;rw[hc];exact co Us X
 refine Uu B u (by omega) fun P h2 F j=>?_
 refine Xc (j.get0 B) (v.upd j fun _ h=>h.elim) (by rw[aX];omega) fun L h3 G w=>?_
 have b3:=w.get0 (j.get0 b1);have z1:=k1.size;have z2:=j.size;have z3:=w.size;have zb:=bc b1;refine dt (c:= [.slice none 0 0,.slice none 0 0]) (vs:= [sv P,sv L]) b3 rfl fun S U p=>?_
 refine⟨P,vc U 0,L,vc U 1,?_⟩;have z4:=p.size;have O:Upd No h S:=((k1.tr j).tr w).own p (ai _);refine z S ⟨P,L,m,E,q⟩ rfl N (by unfold Fr.cost;simp only;omega) ⟨?_,?_,F.cap,G.cap,fun k z=>⟨TrieAt.less (W:=Pro W h o) (fun y i=>.inl (.inl i)) (TrieAt.updM (M:=(· =h.size)) p (fun y i=>.inl (.inr (by have i:y=h.size:=i;omega))) (TrieAt.upd0 (j.tr w) (C k z).1)),(C k z).2⟩,Q,hm⟩ O
 ·exact(((F.upd w fun _ _ h=>h).within).upd p fun y i e=>by have e:y=h.size:=e;have:=i.1;omega).sl fun y i _ J=>J ⟨by have:=i.1;omega,by have:=i.2;omega⟩
 ·exact(G.within.upd p fun y i e=>by have e:y=h.size:=e;have:=i.1;omega).sl fun y i _ J=>J ⟨by have:=i.1;omega,by have:=i.2;omega⟩
end Go.Proofs
namespace Go.Proofs
open Go Go.Lift
theorem VE{M:Nat→Prop}{h:ae}{so:SliceV}{out:List (SliceV×SliceV)}{p:SliceV×SliceV}{K:SliceV→ae→Prop}(e:OwnS Tx 2 310 M h so out)(hM:∀b,h.size≤b→M b)(j:out.length+1≤1000000000)
  (g:∀s' c,OwnS Tx 2 310 M c s' (out++ [p])→Upd M h c→K s' c):
  ∃xs,SRow (hnew h (Tx p) 310) (some (aJ h)) (1*2) xs∧AppP (some [.slice none 0 0,.slice none 0 0]) 2 48 310 so.a so.len so.cap 1 xs (hnew h (Tx p) 310) K:=by
 have k:=Upd.hnew No h (Tx p) 310;have i:OwnS Tx 2 310 (fun _=>True) (hnew h (Tx p) 310) ⟨some (aJ h),1,1⟩ [p]:=⟨rfl,U3,ai _,.inr ⟨h.size,[],rfl,trivial,cO ..,rfl⟩⟩
 refine⟨_,(i.sl (W:=No) fun _ _ _ h=>h).srow,?_⟩
 refine AppP.own (ys:= [p]) (e.upd k fun _ _ h=>h) rfl rfl rfl rfl (by omega) (by simp only[aI];omega) (hM _ (by rw[eI];omega)) fun s' c d f=>?_
 exact g s' c d ((Upd.hnew M h _ _).tr f)
set_option maxHeartbeats 2000000 in
theorem MD{W G0 C0:Nat→Prop}{x:Hs}{h:ae}{cb:Nat}{fs0:List Fr}(cur:CurW W G0 C0 x h cb fs0)(hW0:∀b,h.size≤b→W b){K:(ByteArray×ByteArray)×Bool→ae→Prop}
  (hn:∀D,DH x fs0= []→Upd (fun b=>C0 b∨b=cb) h D→K (((⟨#[]⟩:ByteArray),(⟨#[]⟩:ByteArray)),false) D)
  (hs:∀D v p R G' C',DH x fs0=p::R→DH x v=R→CurW W G' C' x D cb v→(∀b,C' b→C0 b∨h.size≤b)→(∀b,G' b→G0 b∨h.size≤b)→Upd (fun b=>C0 b∨b=cb) h D→K (p,true) D):
  Xe 166 [gF cb] K h:=by
 refine eM (tN (some ⟨cb,0,none⟩)) BI Tryz.func166 Tryz.call166 ?_;dsimp only[tN,cg,eP,nv,dy,cf,ja,iR,aar,Zp,ic,ji,dq,CS,fG,iP,iv,j5,cE,pq,Mc,yU];refine bj fun h1 b1 k1=>ay.2 ?_
 have z1:=bc b1;obtain⟨s00,d00,hc0,_⟩:=cur.ex;have zc:=bc hc0;have s1:=k1.size;have cur1:=cur.upd k1 (fun _ h=>h.elim) (fun _ _ h=>h) (fun _ _ h=>h) fun h=>h
 refine LoopP.ghost (fun(g:List Fr×(Nat→Prop)×(Nat→Prop)) (_:Unit) D=>CurW W g.2.1 g.2.2 x D cb g.1∧DH x g.1=DH x fs0∧(∀b,g.2.2 b→(C0 b∨h.size≤b)∧b≠h.size)∧(∀b,g.2.1 b→(G0 b∨h.size≤b)∧b≠h.size)∧D[h.size]? =some (.cells zPrL.toArray 201 (0,0))∧Upd (fun b=>C0 b∨b=cb) h D) (fun g=>EW x g.1) (fs0,G0,C0)
  ⟨cur1,rfl,fun b u=>⟨.inl u,by have:=cur.lt b (.inl u);omega⟩,fun b u=>⟨.inl u,by have:=cur.lt b (.inr u);omega⟩,b1,k1.wide⟩ ?_
 rintro I ⟨fs,G,C⟩ ⟨⟩ D ⟨w,N,F,V,bz,hu⟩ hI;(try simp only at w N F V)
 obtain⟨s,d,bh,P⟩:=w.ex;have Z:=P.len;rw[aX]at Z;have hzs:h.size<D.size:=bc bz;have zcb:=bc bh;refine⟨_,rfl,s,vc bh 0,?_⟩;refine ak (fun hpos=>?_) fun hnp=>?_
 ·obtain⟨v,f,rfl⟩:∃v f,fs=v++ [f]:=by
   rcases CD fs with rfl|⟨l',y,e⟩
   ·simp only[aQ]at Z;omega
   ·exact⟨l',y,e⟩
  rw[cj,bJ,nu]at P;rw[af,aI]at Z;have h14:=UF (n:=13) w.lv fun f hf=>(w.ok f hf).n13
  rw[af,aI]at h14;have eidx:ac .i64 ((s.len:Int)-1)=((v.length:Nat):Int):=by rw[dL (by omega)];omega
  obtain⟨a,ha,hv⟩:=fF P (i:=v.length) (by rw[aX]);have X:=w.ok f (eu _ (aq.2 rfl));have hpl:=X.p.len;have Y:=X.k.len;rw[aX]at Y;have hpc:=X.pc;have hkc:=X.kc;have hcap:=P.cap;refine⟨_,rfl,s,vc bh 0,_,rfl,s,vc bh 0,?_⟩;rw[eidx];refine⟨⟨by omega,by omega⟩,a,ha,_,rfl,f.sp,hv 0 _ rfl,?_⟩
  have keep:∀{h2:ae} {M:Nat→Prop},Upd M D h2→(∀b,M b→C b∨b=cb∨b=h.size∨D.size≤b)→∀{g:Fr},g.Ok W G x D→g.Ok W G x h2:=fun{h2 M} k hM {g} o=>o.upd k (fun b u=>by
   rcases hM b u with h|h|h|h
   ·exact .inl (w.cw.1 b h)
   ·exact .inl (by rw[h];exact w.cw.2)
   ·exact .inl (by rw[h];exact hW0 _ (ai _))
   ·exact .inr h) fun b u=>by
   rcases hM b u with h|h|h|h
   ·exact .inl fun O=>(w.dj b O).1 h
   ·exact .inl fun O=>(w.dj b O).2 h
   ·exact .inl fun O=>(V b O).2 h
   ·exact .inr h
  have T:=bW.1 w.lv;have hrs:=zL x v f;have hcs:=Bl x v f;refine ak (fun hp=>?_) fun hp=>?_
  ·
   rcases Q:f.ps with _|⟨p,ps⟩
   ·rw[Q]at hpl;simp only[aQ]at hpl;omega
   have fop:=X.p;rw[Q]at fop hpl;simp only[av]at hpl;obtain⟨ap,hap,_,hvp⟩:=fop.at (i:=0) (x:=p) rfl;refine⟨_,rfl,f.sp,hv 0 _ rfl,⟨by omega,by omega⟩,ap,hap,p.1,hvp 0 _ rfl,p.2,hvp 1 _ rfl,?_⟩
   refine DS (p:=p) fun h8 b8 k8=>?_
   have z8:=bc b8;have hst8:=P.upd k8 fun _ _ h=>h
   obtain⟨a',ha',hv8⟩:=fF hst8 (i:=v.length) (by rw[aX]);rw[ha]at ha';cases ha';refine⟨_,rfl,f.sp,hv8 0 _ rfl,⟨by omega,by omega⟩,_,rfl,?_⟩
   let U:Fr:=⟨⟨bN f.sp.a 1 f.sp.cap 2,f.sp.len-1,f.sp.cap-1⟩,f.sk,f.n,ps,f.ks⟩
   refine setCell hst8 (y:=U.raw) (j:=0) (by omega) rfl ha (by simp) fun h9 ho9 S=>?_
   have c9:=S.get (k8.get0 bh) w.cc;refine⟨_,rfl,s,vc c9 0,_,rfl,?_⟩;refine nJ (i:=1) (c':=aaf s (s.len:Int)) c9 (show 1<2 by decide) rfl fun h10 c10 A=>?_
   have hCh:∀b,C b→b<D.size:=fun b u=>w.lt b (.inl u)
   have b9:=S.get b8 fun hx=>by have:=hCh _ hx;omega
   have b10:=A.oth b9 (by omega);refine⟨_,vc b10 0,_,vc b10 1,?_⟩;have bz10:=A.oth (S.get (k8.get0 bz) fun hx=>(F _ hx).2 rfl) (by omega)
   refine dt (c:=zPrL) (vs:= [.string p.1,.string p.2]) bz10 rfl fun L b11 B=>?_
   refine⟨_,vc b11 0,_,vc b11 1,?_⟩;have c11:=B.oth c10 (by omega);have z:Upd (fun b=>C b∨b=cb∨b=h.size∨D.size≤b) D L:=((k8.wide.trans S fun b u=>.inl (.inl u)).trans A fun b u=>.inl (.inr (.inl u))).trans B fun b u=>.inl (.inr (.inr (.inl u)))
   have ho11:OwnS Tx 2 310 C L s ((v++ [U]).map Fr.raw):=by
    rw[cj,bJ,nu];exact(ho9.upd A fun b u e=>by have e:b=cb:=e;rw[e]at u;exact w.cc u).upd B fun b u e=>(F b u).2 e
   have fo':U.Ok W G x L:=by
    have o:=keep z (fun b u=>u) X
    refine⟨?_,o.k,by show f.sp.len-1≤f.sp.cap-1;omega,o.kc,o.t,o.n0,o.n13⟩
    have op:=o.p;rw[Q]at op;have:=Sl.sub op (l:=1) (hi:=(p::ps).length) (m:=f.sp.cap) (c:=f.sp.cap-1) (by simp) (ai _) (by simp only[av];omega);rw[List.drop_one,List.tail_cons,bL (by simp)]at this;have e:(p::ps).length-1=f.sp.len-1:=by simp only[av];omega
    rw[e]at this;exact this
   refine hs L (v++ [U]) p (U.rem x++DH x v) G C ?_ (zL x v U) ⟨⟨s,_,c11,ho11⟩,fun g O=>?_,fun b u=>aC (w.lt b u) z.size,w.dj,w.cc,w.cw,bW.2 ⟨T.1,de ..,fun g O g' H=>by rw[aq.1 H];exact T.2.2 g O f (aq.2 rfl)⟩⟩ (fun b u=>(F b u).1) (fun b u=>(V b u).1) ?_
   ·rw[←N,hrs]
    unfold Fr.rem;rw[Q];rfl
   ·rcases be.1 O with O|O
    ·exact keep z (fun b u=>u) (w.ok g (dw _ O))
    ·rw[aq.1 O];exact fo'
   ·refine hu.trans z fun b u=>?_
    rcases u with h|h|h|h
    ·exact(F b h).1.imp .inl id
    ·exact .inl (.inr h)
    ·exact .inr (by omega)
    ·exact .inr (by omega)
  ·have Q:f.ps= []:=ax.1 (by omega)
   refine⟨_,rfl,f.sk,hv 1 _ rfl,?_⟩;refine ak (fun hk=>?_) fun hk=>?_
   ·
    rcases J:f.ks with _|⟨kd,ks⟩
    ·rw[J]at Y;simp only[aQ]at Y;omega
    have fok:=X.k;rw[J]at fok Y;simp only[av]at Y;rw[bJ]at fok;obtain⟨ap,hap,_,hvp⟩:=fok.at0 (i:=0) (x:=NF kd) rfl;have hfn:0<f.n:=X.n0 (by rw[J];simp);have hf13:=X.n13;refine⟨_,rfl,f.sk,hv 1 _ rfl,⟨by omega,by omega⟩,ap,hap,_,hvp,_,rfl,f.sk,hv 1 _ rfl,⟨by omega,by omega⟩,_,rfl,?_⟩
    let U:Fr:=⟨f.sp,⟨bN f.sk.a 1 f.sk.cap 1,f.sk.len-1,f.sk.cap-1⟩,f.n,f.ps,ks⟩
    refine setCell P (y:=U.raw) (j:=1) (by omega) rfl ha (by simp) fun h8 ho8 E=>?_
    have c8:=E.get bh w.cc;have hall8:Upd (fun b=>C b∨b=cb∨b=h.size∨D.size≤b) D h8:=E.mono fun b u=>.inl (.inl u)
    have s8:=E.size;refine⟨_,rfl,s,vc c8 0,?_⟩;have fo8:=keep hall8 (fun b u=>u) X
    obtain⟨tk,hkn⟩:=fo8.t kd (by rw[J];exact aD ..);refine JA tk (by omega) hkn fun h9 g hgn hgr hgc go k9=>?_
    have c9:=k9.get0 c8;have s9:=k9.size;refine⟨vc c9 0,cP ⟨vc ((Upd.hnew No h9 (Tx g.raw) 310).get0 c9) 0,?_⟩⟩;have hC9:∀b,C b→b<h9.size:=fun b u=>by have:=w.lt b (.inl u);omega
    refine VE (M:=fun b=>C b∨h9.size≤b) (p:=g.raw) ((ho8.upd k9 fun _ _ h=>h).more fun b u=>.inl u) (fun b u=>.inr u) (by rw[af,aX,aI];omega) fun V5 h10 ho10 A=>?_
    have s10':=A.size;have c10:=A.get c9 (by rintro(hx|hx);exact w.cc hx;omega)
    refine⟨_,rfl,?_⟩;refine nJ (i:=0) (c':=aaf V5 d) c10 (show 0<2 by decide) rfl fun L c11 B=>?_
    have s11:=B.size;have z:Upd (fun b=>C b∨b=cb∨b=h.size∨D.size≤b) D L:=((hall8.tr k9.wide).trans A fun b u=>u.elim (fun h=>.inl (.inl h)) fun h=>.inr (by omega)).trans B fun b u=>.inl (.inr (.inl u))
    have bz11:=B.oth (A.get (k9.get0 (E.get bz fun hx=>(F _ hx).2 rfl)) (by rintro(hx|hx);exact(F _ hx).2 rfl;omega)) (by omega)
    have hGl:∀b,G b→b<D.size:=fun b u=>w.lt b (.inr u)
    refine hI (v++ [U]++ [g],fun b=>G b∨(h8.size≤b∧b<h9.size),fun b=>(C b∨h9.size≤b)∧b<h10.size) () L ⟨⟨⟨V5,d,c11,?_⟩,fun g' H=>?_,fun b u=>?_,fun b u=>?_,fun u=>?_,⟨fun b u=>?_,w.cw.2⟩,?_⟩,?_,fun b u=>?_,fun b u=>?_,bz11,?_⟩ ?_
    ·rw[cj,cj,bJ,nu,bJ,nu]
     exact ho10.within.upd B fun b u e=>by
      have e:b=cb:=e;rw[e]at u;rcases u.1 with h|h
      ·exact w.cc h
      ·omega
    ·have hsubG:∀{q:Fr},q.Ok W G x L→q.Ok W (fun b=>G b∨(h8.size≤b∧b<h9.size)) x L:=fun o=>o.sub fun b u=>.inl u
     rcases be.1 H with H|H
     ·rcases be.1 H with H|H
      ·exact hsubG (keep z (fun b u=>u) (w.ok g' (dw _ H)))
      ·rw[aq.1 H]
       have o:=keep z (fun b u=>u) X
       refine hsubG ⟨o.p,?_,o.pc,by show f.sk.len-1≤f.sk.cap-1;omega,fun q hq=>o.t q (by rw[J];exact List.mem_cons_of_mem _ hq),fun _=>hfn,hf13⟩
       have op:=o.k;rw[J,bJ]at op;have:=Sl.sub op (l:=1) (hi:=(NF kd::ks.map NF).length) (m:=f.sk.cap) (c:=f.sk.cap-1) (by simp) (ai _) (by simp only[av,aX];omega);rw[List.drop_one,List.tail_cons,bL (by simp)]at this;have e:(NF kd::ks.map NF).length-1=f.sk.len-1:=by simp only[av,aX];omega
       rw[e]at this;exact this
     ·rw[aq.1 H]
      have o1:=go.upd A (fun b u=>u.elim (fun h=>.inl (w.cw.1 b h)) .inr) fun b u=>u.elim (fun h=>.inl fun O=>by have:=w.lt b (.inl h);omega) .inr
      have o2:=o1.upd B (fun b u=>.inl (by have u:b=cb:=u;rw[u];exact w.cw.2)) fun b u=>.inl fun O=>by have u:b=cb:=u;omega
      exact o2.sub fun b u=>.inr u
    ·rcases u with u|u|u
     ·omega
     ·have:=hGl b u;omega
     ·omega
    ·refine⟨fun hc=>?_,fun e=>?_⟩
     ·rcases u with u|u
      ·rcases hc.1 with h|h
       ·exact(w.dj b u).1 h
       ·have:=hGl b u;omega
      ·rcases hc.1 with h|h
       ·have:=w.lt b (.inl h);omega
       ·omega
     ·subst e
      rcases u with u|u
      ·exact(w.dj _ u).2 rfl
      ·omega
    ·rcases u.1 with h|h
     ·exact w.cc h
     ·omega
    ·rcases u.1 with h|h
     ·exact w.cw.1 b h
     ·exact hW0 b (by omega)
    ·refine bW.2 ⟨bW.2 ⟨T.1,de ..,fun q hq q' hq'=>by rw[aq.1 hq'];exact T.2.2 q hq f (aq.2 rfl)⟩,de ..,fun q hq q' hq'=>?_⟩
     rw[aq.1 hq',hgn];rcases be.1 hq with hq|hq
     ·have:=T.2.2 q hq f (aq.2 rfl);omega
     ·rw[aq.1 hq];show f.n-1<f.n;omega
    ·rw[zL,zL,←N,hrs,hgr]
     unfold Fr.rem;rw[Q,J,aZ];simp;rfl
    ·refine⟨?_,?_⟩
     ·rcases u.1 with h|h
      ·exact(F b h).1
      ·exact .inr (by omega)
     ·rcases u.1 with h|h
      ·exact(F b h).2
      ·omega
    ·refine⟨?_,?_⟩
     ·rcases u with h|h
      ·exact(V b h).1
      ·exact .inr (by omega)
     ·rcases u with h|h
      ·exact(V b h).2
      ·omega
    ·refine hu.trans z fun b u=>?_
     rcases u with h|h|h|h
     ·exact(F b h).1.imp .inl id
     ·exact .inl (.inr h)
     ·exact .inr (by omega)
     ·exact .inr (by omega)
    ·show EW x (v++ [U]++ [g])<EW x (v++ [f])
     rw[Bl,Bl,hcs];have e1:f.cost x=U.cost x+cw x (f.n-1) kd.2:=by
      unfold Fr.cost;rw[J,bJ,List.sum_cons];have e0:(U.ks.map fun k=>cw x (U.n-1) k.2).sum=(ks.map fun k=>cw x (f.n-1) k.2).sum:=rfl
      omega
     omega
   ·
    have J:f.ks= []:=ax.1 (by omega);refine⟨_,rfl,s,vc bh 0,_,rfl,s,vc bh 0,?_⟩;rw[eidx];refine⟨⟨by omega,by omega⟩,?_⟩
    simp only[Bd];refine⟨_,rfl,?_⟩;refine nJ (i:=0) (c':=aaf ⟨bN s.a 0 s.cap 2,v.length,s.cap⟩ d) bh (show 0<2 by decide) rfl fun h8 c8 E=>?_
    have hpop:=OwnS.pop P;rw[aX]at hpop;have z:Upd (fun b=>C b∨b=cb∨b=h.size∨D.size≤b) D h8:=E.mono fun b u=>.inl (.inr (.inl u))
    refine hI (v,G,C) () h8 ⟨⟨⟨_,d,c8,hpop.upd E fun b u e=>by have e:b=cb:=e;rw[e]at u;exact w.cc u⟩,fun g O=>keep z (fun b u=>u) (w.ok g (dw _ O)),fun b u=>aC (w.lt b u) z.size,w.dj,w.cc,w.cw,T.1⟩,?_,F,V,E.oth bz (by omega),hu.trans E fun b u=>.inl (.inr u)⟩ ?_
    ·rw[←N,hrs]
     unfold Fr.rem;rw[Q,J];rfl
    ·show EW x v<EW x (v++ [f])
     rw[hcs];unfold Fr.cost;omega
 ·have h0:fs= []:=ax.1 (by omega)
  subst h0;refine⟨_,rfl,?_⟩;refine nJ (i:=1) (c':=aaf s 0) bh (show 1<2 by decide) rfl fun h8 c8 E=>?_
  refine dt (c:=zPrL) (vs:=zPrL) (E.oth bz (by omega)) rfl fun h9 b9 S=>?_
  refine⟨_,vc b9 0,_,vc b9 1,hn h9 N.symm ((hu.trans E fun b u=>.inl (.inr u)).trans S fun b u=>.inr (fA (jH u)))⟩
end Go.Proofs
namespace Go.Proofs
open Go Go.Lift
def Below(W:Nat→Prop)(x:Hs)(h:ae)(m:Nat)(r:Option Addr)(l:List Pr):Prop:=(r=none∧l= [])∨∃b,r=some ⟨b,0,none⟩∧TrieAt W x h m b l
theorem Below.upd0{W:Nat→Prop}{x:Hs}{h c:ae}{m:Nat}{r:Option Addr}{l:List Pr}(k:Upd No h c)(t:Below W x h m r l):Below W x c m r l:=t.imp id fun⟨b,e,t⟩=>⟨b,e,TrieAt.upd0 k t⟩
theorem Below.less{W W':Nat→Prop}{x:Hs}{h:ae}{m:Nat}{r:Option Addr}{l:List Pr}(hm:∀b,W' b→W b∨h.size≤b)(t:Below W x h m r l):Below W' x h m r l:=t.imp id fun⟨b,e,t⟩=>⟨b,e,TrieAt.less hm t⟩
theorem Below.updM{W M:Nat→Prop}{x:Hs}{h c:ae}{m:Nat}{r:Option Addr}{l:List Pr}(k:Upd M h c)(hm:∀b,M b→W b∨h.size≤b)(t:Below W x h m r l):Below W x c m r l:=t.imp id fun⟨b,e,t⟩=>⟨b,e,TrieAt.updM k hm t⟩
theorem Yb(x:Hs):∀m,wl x m []= []
 |0=>rfl
 |m+1=>ax.1 (Nat.le_zero.1 (KU x (m+1) []))
theorem OC{W:Nat→Prop}{x:Hs}{h:ae}{m:Nat}{r:Option Addr}{l:List Pr}(t:Below W x h m r l)(hm:m≤13)(o:l.length≤100000){K:SliceV×SliceV→ae→Prop}
  (e:∀d f,Fr.rem x f=wl x m l→f.Ok W (fun y=>h.size≤y∧y<d.size) x d→Upd No h d→K f.raw d):UU 196 [.pointer r] K h:=by
 rcases t with⟨rfl,rfl⟩|⟨b,rfl,t⟩
 ·refine KD none ?_
  unfold El cq eP Zd Zp;refine bj fun p b1 k1=>?_
  refine uQ none ?_;dsimp only[pz,cf,dq];refine aV.2 (wz none ?_);dsimp only[qn,cf,dq];refine aV.2 ?_;refine dt (c:= [.slice none 0 0,.slice none 0 0]) (vs:= [.slice none 0 0,.slice none 0 0]) b1 rfl fun g j i=>?_
  refine⟨⟨none,0,0⟩,vc j 0,⟨none,0,0⟩,vc j 1,?_⟩;refine e g ⟨⟨none,0,0⟩,⟨none,0,0⟩,0,[],[]⟩ ?_ ⟨Sl.nil kj,Sl.nil rr,ai _,ai _,fun k e=>(by cases e),fun h=>absurd rfl h,aY _⟩ (k1.own i (ai _))
  rw[Yb];rfl
 ·exact JA t hm o fun d f _ h2 _ g n=>e d f h2 g n
theorem OD{W:Nat→Prop}{x:Hs}{h:ae}{m:Nat}{r:Option Addr}{l:List Pr}(t:Below W x h m r l)(hm:m≤13)(w:l.length≤100000)(o:∀y,h.size≤y→W y){K:Option Addr→ae→Prop}
  (u:∀h' cb f G C,h.size≤cb→(∀y,G y∨C y→h.size≤y)→CurW W G C x h' cb [f]→f.rem x=wl x m l→Upd No h h'→K (some ⟨cb,0,none⟩) h'):fh 165 [.pointer r] K h:=by
 refine eM (HX r) .nil Tryz.func165 Tryz.call165 ?_;unfold HX aar;refine OC t hm w fun h2 f d q n=>?_
 refine bj fun i b3 c=>bj fun s j e=>?_
 have B:=bc b3;have D:=bc j;have z:=n.size;have A:=c.size;have v:OwnS Tx 2 310 (fun y=>y=h2.size) i ⟨some (aJ h2),1,1⟩ [f.raw]:=⟨rfl,U3,ai _,.inr ⟨h2.size,[],rfl,rfl,b3,rfl⟩⟩
 refine u s i.size f (fun y=>h.size≤y∧y<h2.size) (fun y=>y=h2.size) (by omega) (fun y b=>by rcases b with h|h<;>omega) ⟨⟨_,0,j,v.upd e fun _ _ h=>h⟩,fun g p=>?_,fun y b=>by rcases b with h|h<;>omega,fun y b=>⟨by omega,by omega⟩,by omega,⟨fun y b=>o y (by omega),o _ (by omega)⟩,de ..⟩ d ((n.tr c).tr e)
 rw[aq.1 p];exact q.upd (c.tr e) (fun _ h=>h.elim) fun _ h=>h.elim
theorem OE{W:Nat→Prop}{x:Hs}{h:ae}{m:Nat}{r:Option Addr}{l:List Pr}(t:Below W x h m r l)(hm:m≤13)(hn:l.length≤100000){K:Value→ae→Prop}
  (hk:∀fv u,Gives PG fv Xo l.length (fun xs=>xs=wl x m l) (fun y=>y<u.size) u→Upd No h u→K fv u):IK 133 [.pointer r] K h:=by
 refine eM (HZ r) .nil Tryz.func133 Tryz.call133 ?_;unfold HZ;refine bj fun N b1 k1=>?_
 have z1:=bc b1;refine hk _ N ?_ k1;have t1:=Below.less (W':=fun y=>N.size≤y) (fun y b=>.inr b) (Below.upd0 k1 t)
 have hwl:=KU x m l;refine⟨fun y b=>b,164,#[],_,rfl,fun y J A M Y K' E hj hu hq ha hk'=>?_⟩
 refine Jn y (aJ h) ?_;dsimp only[xB,nv,ja,xj,pN,j5,cE];have d1:=hu.get b1 (hq _ z1);have s4:=hu.size;have t4:Below (fun y=>N.size≤y) x Y m r l:=Below.updM hu (fun y b=>.inl (by
  rcases dB y N.size with P|P
  ·exact absurd b (hq y P)
  ·exact P)) t1
 refine⟨_,bO d1,?_⟩;refine OD t4 hm hn (fun y b=>co s4 b) fun h5 cb f G C hcb S cur hfr k5=>?_
 have q:=E.lt _ _ _ hj;have hA3:∀y,A y→N.size≤y:=fun y b=>by
  rcases dB y N.size with P|P
  ·exact absurd P (ha y b)
  ·exact P
 have s5:=k5.size;have V:DH x [f]=wl x m l:=by rw[←hfr];simp[DH]
 refine LoopP.ghost (fun(g:List Pr×List Fr×(Nat→Prop)×(Nat→Prop)×(Nat→Prop)) (_:Unit) u=>CurW (fun y=>N.size≤y) g.2.2.2.1 g.2.2.2.2 x u cb g.2.1∧J g.1 g.2.2.1 u∧Upd A Y u∧(∀y,g.2.2.1 y→(A y∨Y.size≤y)∧¬g.2.2.2.1 y∧¬g.2.2.2.2 y∧y≠cb)∧(∀y,g.2.2.2.1 y∨g.2.2.2.2 y→Y.size≤y)∧g.1++DH x g.2.1=wl x m l∧h5.size≤u.size) (fun g=>(DH x g.2.1).length) ([],[f],A,G,C)
  ⟨cur,E.keep _ _ _ _ No hj k5 (fun _ _ h=>h),k5.wide,fun y b=>⟨.inl b,fun hx=>by have:=q y b;have:=S y (.inl hx);omega,fun hx=>by have:=q y b;have:=S y (.inr hx);omega,fun e=>by have:=q y b;omega⟩,S,by rw[V];rfl,ai _⟩ ?_
 rintro I ⟨B,fs,D,G1,C1⟩ ⟨⟩ u ⟨cu,v,hu',c,j,i,hsz⟩ hI;(try simp only at cu v c j i)
 have L:=E.lt _ _ _ v;have hA1W:∀y,D y→N.size≤y:=fun y b=>(c y b).1.elim (hA3 y) fun h=>by omega
 have hd:∀y,D y→¬(C1 y∨y=cb):=fun y b hx=>hx.elim (c y b).2.2.1 (c y b).2.2.2
 have hC4:∀y,C1 y∨y=cb→Y.size≤y:=fun y b=>b.elim (fun h=>j y (.inr h)) fun e=>by omega
 refine MD cu (fun y b=>by omega) (fun h6 hr0 n=>?_) fun h6 fs' p R G' C' Q hr2 z hC' hG' n=>?_
 ·have O:=E.keep _ _ _ _ _ v n hd
  refine JZ fun h7 b7 T=>?_
  refine Join.intro (fun t w=>t=true∧w=h7) (fun R hR=>aV.2 (hR _ _ ⟨rfl,rfl⟩)) ?_
  rintro t w ⟨rfl,rfl⟩;refine aV.2 (hk' B D w ?_ (E.keep _ _ _ _ No O T (fun _ _ h=>h)) ?_ fun y b=>(c y b).1)
  ·rw[hr0,bi]at i
   exact i
  ·exact(hu'.trans n fun y b=>.inr (hC4 y b)).tr T.wide
 ·have O:=E.keep _ _ _ _ _ v n hd
  refine JZ (p:=p) fun h7 b7 T=>?_
  have hj7:=E.keep _ _ _ _ No O T (fun _ _ h=>h)
  have cu7:=z.upd T (fun _ h=>h.elim) (fun _ _ h=>h) (fun _ _ h=>h) fun h=>h
  have hu47:Upd A Y h7:=(hu'.trans n fun y b=>.inr (hC4 y b)).tr T.wide
  have s6:=n.size;have s7:=T.size;refine Join.intro (fun t w=>t=false∧∃Z,J (B++ [p]) Z w∧Upd D h7 w∧∀y,Z y→D y∨h7.size≤y) (fun R' hR=>?_) ?_
  ·refine ay.2 ⟨_,vc b7 0,_,vc b7 1,?_⟩
   refine E.step B D h7 p _ hj7 ?_ fun w Z U o X=>hR _ _ ⟨rfl,Z,U,o,X⟩
   have:=congrArg eO i;rw[Q]at this;simp only[af,av]at this;omega
  ·rintro t w ⟨rfl,Z,U,o,X⟩
   have H:∀y,G' y→¬D y:=fun y b hx=>(hG' y b).elim (c y hx).2.1 fun h=>by have:=L y hx;omega
   have F:∀y,C' y→¬D y:=fun y b hx=>(hC' y b).elim (c y hx).2.2.1 fun h=>by have:=L y hx;omega
   have hcb6:cb<h6.size:=by obtain⟨s,d,hx,_⟩:=z.ex;exact bc hx
   refine ay.2 (hI (B++ [p],fs',Z,G',C') () w ⟨?_,U,?_,fun y b=>?_,fun y b=>?_,?_,by have:=o.size;omega⟩ ?_)
   ·exact cu7.upd o (fun y b=>.inl (hA1W y b)) F H fun hx=>(c _ hx).2.2.2 rfl
   ·exact hu47.trans o fun y b=>(c y b).1
   ·rcases X y b with h|h
    ·exact⟨(c y h).1,fun hx=>H y hx h,fun hx=>F y hx h,(c y h).2.2.2⟩
    ·exact⟨.inr (by omega),fun hx=>by have:=z.lt y (.inr hx);omega,fun hx=>by have:=z.lt y (.inl hx);omega,by omega⟩
   ·rcases b with b|b
    ·rcases hG' y b with h|h
     ·exact j y (.inl h)
     ·omega
    ·rcases hC' y b with h|h
     ·exact j y (.inr h)
     ·omega
   ·(try simp only)
    rw[aw,hr2,←i,Q];rfl
   ·(try simp only)
    rw[Q,hr2];simp
theorem Is{W W':Nat→Prop}{x:Hs}{h:ae}{m:Nat}{r:Option Addr}{l:List Pr}(t:Below W x h m r l)(hm:m≤13)(w:fE l)(s:l.length≤100000)(d:∀y,W' y→y<h.size){K:SliceV→ae→Prop}
  (o:∀s' h',Sl fw 2 W' h' s' l→s'.len≤s'.cap→Upd No h h'→K s' h'):fU 105 [.pointer r] K h:=by
 refine eM (Ay r) .nil Tryz.func105 Tryz.call105 ?_;unfold Ay;refine OE t hm s fun B h2 j g=>?_
 refine EX j (by omega) fun A z xs e i f=>?_
 subst e;have u:=KU x m l;refine RW (W':=W') (i.sl (W:=No) fun _ _ _ h=>h) (fun y q=>aC (d y q) (g.tr f).size) (by omega) fun p n b c v=>?_
 rw[Yo w]at b;exact o p n b c ((g.tr f).tr v)
theorem OL{W W':Nat→Prop}{x:Hs}{h:ae}{t:Tr}{l:List Pr}(i:TreeIs W h 0 x t l)(n:fE l)(q:l.length≤60000)(c:∀y,W' y→y<h.size){K:SliceV→ae→Prop}
  (g:∀s' h',Sl fw 2 W' h' s' l→Upd No h h'→K s' h'):fU 58 [RI t] K h:=by
 rcases i with⟨_,b,rfl,t⟩|⟨e,_⟩
 ·refine uP _ ?_
  dsimp only[pu,aG,jP,Yx,kR,aR];refine bj fun p b1 k1=>⟨_,vc b1 0,ay.2 ⟨_,vc b1 4,?_⟩⟩
  exact Is (W':=W') (.inr ⟨b,rfl,TrieAt.upd0 k1 t⟩) (ai _) n (by omega) (fun y o=>aC (c y o) k1.size) fun j f d _ m=>g j f d (k1.tr m)
 ·cases e
theorem RS{W W':Nat→Prop}{x:Hs}{h:ae}{kind:Int}{t:Tr}{l:List Pr}(i:TreeIs W h kind x t l)(f:fE l)(j:Fit l)(e:l.length≤60000)(c:∀y,W' y→y<h.size){K:SliceV→ae→Prop}
  (d:∀s' b,Sl fw 2 W' b s' l→Upd No h b→K s' b):fU 58 [RI t] K h:=by
 have i0:=i;rcases i with⟨rfl,_⟩|⟨rfl,_,_,_⟩
 ·exact OL i0 f e c d
 ·exact OK i0 f j e fun s' b g k=>d s' b (g.sl fun y n _ m=>by have:=c y m;omega) k
end Go.Proofs
namespace Go.Proofs
open Go Go.Lift
def dk(d k:Nat):Nat:=(d>>>k)<<<k
end Go.Proofs
namespace Go.Proofs
open Go Go.Lift
end Go.Proofs
namespace Go.Proofs
open Go Go.Lift
end Go.Proofs
namespace Go.Proofs
open Go Go.Lift
end Go.Proofs
namespace Go.Proofs
open Go Go.Lift
end Go.Proofs
namespace Go.Proofs
open Go Go.Lift
def Sk(p:Pr):Int:=if 256<p.1.size then 2 else if 4096<p.2.size then 3 else 0
theorem Sj{p:Pr}(h:Sk p=0):p.1.size≤256∧p.2.size≤4096:=by
 unfold Sk at h;split at h
 ·cases h
 ·split at h
  ·cases h
  ·omega
theorem WW{p:Pr}{h:ae}{K:Int→ae→Prop}(b:K (Sk p) h):iI 144 [.string p.1,.string p.2] K h:=by
 refine CY p.1 p.2 ?_;unfold xC;unfold Sk at b;refine ak (fun e=>?_) fun e=>ak (fun c=>?_) fun c=>?_
 ·rw[if_pos (by omega)]at b;exact b
 ·rw[if_neg (by omega),if_pos (by omega)]at b;exact b
 ·rw[if_neg (by omega),if_neg (by omega)]at b;exact b
end Go.Proofs
namespace Go.Proofs
open Go Go.Lift
theorem TQ{t:Tr}{h:ae}{K:Int→ae→Prop}(b:∀h',Upd No h h'→K t.1 h'):iI 62 [RI t] K h:=by
 refine eM (wI t) .nil Tryz.func62 Tryz.call62 ?_;dsimp only[wI,jP,kR,aR];exact bj fun c b1 k1=>⟨_,vc b1 0,b c k1⟩
end Go.Proofs
namespace Go.Proofs
open Go Go.Lift
theorem Kd:∀{x y:List UInt8} {i:Nat} {a b:UInt8},(∀j,j<i→x[j]? =y[j]?)→x[i]? =some a→y[i]? =some b→a≠b→bH x y=decide (a.toNat<b.toNat)
 | [],_,_,_,_,_,h,_,_=>by simp at h
 |_::_,[],_,_,_,_,_,h,_=>by simp at h
 |c::x,d::y,0,a,b,_,h1,h2,hne=>by
  simp only[cJ,bX.injEq]at h1 h2;subst h1 h2;simp only[bH];rw[beq_false_of_ne hne];simp[UInt8.lt_iff_toNat_lt]
 |c::x,d::y,i+1,a,b,he,h1,h2,hne=>by
  have e:=he 0 (by omega);simp only[cJ,bX.injEq]at e;subst e;simp only[List.getElem?_cons_succ]at h1 h2;simp only[bH];rw[Kd (i:=i) (fun j f=>by simpa using he (j+1) (by omega)) h1 h2 hne]
  simp[UInt8.lt_irrefl]
theorem Kc:∀{x y:List UInt8} {i:Nat},(∀j,j<i→x[j]? =y[j]?)→i≤x.length→i≤y.length→(i=x.length∨i=y.length)→bH x y=decide (x.length<y.length)
 | [],[],_,_,_,_,_=>by simp[bH]
 | [],_::_,_,_,_,_,_=>by simp[bH]
 |_::_,[],_,_,_,_,_=>by simp[bH]
 |c::x,d::y,0,_,_,_,h=>by simp at h
 |c::x,d::y,i+1,he,h1,h2,h3=>by
  have e:=he 0 (by omega);simp only[cJ,bX.injEq]at e;subst e;simp only[bH];rw[Kc (i:=i) (fun j b=>by simpa using he (j+1) (by omega)) (by simpa using h1) (by simpa using h2) (by simpa using h3)]
  simp[UInt8.lt_irrefl]
theorem M6{a b:ByteArray}(B:a.size≤1000000){h:ae}{K:Bool→ae→Prop}(y:K (decide (kl a b)) h):f5 50 [.string a,.string b] K h:=by
 refine eM (Ia a b) Qp Tryz.func50 Tryz.call50 ?_;dsimp only[Ia,Bs];have D:a.data.toList.length=a.size:=by simp
 have C:b.data.toList.length=b.size:=by simp
 have g:∀{p:Prop} [Decidable p],bH a.data.toList b.data.toList=decide p→K (decide p) h:=fun{p} _ e=>by
  have:decide (kl a b)=decide p:=by
   rw[←e,←ByteArray.toList_eq,←ByteArray.toList_eq];exact Bool.eq_iff_iff.2 (by rw[decide_eq_true_iff];exact xH)
  rw[←this];exact y
 refine LoopP.ghost (fun(i:Nat) (t:Int) m=>t=(i:Int)∧i≤a.size∧i≤b.size∧m=h∧∀j,j<i→a.data.toList[j]? =b.data.toList[j]?) (fun i=>a.size-i) 0 ⟨rfl,aY _,aY _,rfl,fun j v=>absurd v (Nat.not_lt_zero _)⟩ ?_
 rintro I i t m ⟨rfl,A,x,rfl,o⟩ z;refine Join.intro (fun t h2=>t=decide (i<a.size∧i<b.size)∧h2=m) (fun R q=>?_) ?_
 ·refine ak (fun c=>q _ _ ⟨?_,rfl⟩) fun n=>q _ _ ⟨?_,rfl⟩
  ·rw[decide_eq_decide];omega
  ·rw[eq_comm,decide_eq_false_iff_not];omega
 ·rintro t h2 ⟨rfl,rfl⟩
  refine ak (fun c=>?_) fun n=>?_
  ·have u:a.data.toList[i]? =some a[i]:=by rw[←UX,getElem?_pos a i c.1]
   have w:b.data.toList[i]? =some b[i]:=by rw[←UX,getElem?_pos b i c.2]
   refine⟨a[i],by omega,by rw[bQ,getElem?_pos a i c.1],b[i],by omega,by rw[bQ,getElem?_pos b i c.2],?_⟩
   refine CondP.intro (fun f=>?_) fun d=>?_
   ·refine⟨a[i],by omega,by rw[bQ,getElem?_pos a i c.1],b[i],by omega,by rw[bQ,getElem?_pos b i c.2],?_⟩
    refine g ?_;rw[Kd o u w fun e=>by rw[e]at f;simp at f]
    rw[decide_eq_decide];omega
   ·have d:a[i]=b[i]:=by
     have:((a[i].toNat:Int))=(b[i].toNat:Int):=by simpa using d
     exact UInt8.toNat_inj.1 (by omega)
    rw[cX c.1 (by omega)];refine z (i+1) _ _ ⟨rfl,by omega,by omega,rfl,fun j v=>?_⟩ (by omega)
    rcases dB j i with s|s
    ·exact o j s
    ·have:j=i:=by omega
     subst this;rw[u,w,d]
  ·refine g ?_
   rw[Kc o (by omega) (by omega) (by omega),decide_eq_decide];omega
end Go.Proofs
namespace Go.Proofs
open Go Go.Lift
abbrev Rt:=Int×Int×Int×Int×SliceV
abbrev Ox(r:Rt):List Value:= [.int .i64 r.1,.int .u64 r.2.1,.int .u64 r.2.2.1,.int .u64 r.2.2.2.1,.slice r.2.2.2.2.a r.2.2.2.2.len r.2.2.2.2.cap]
abbrev aaB(r:Rt):Value:=.agg #[.int .i64 r.1,.int .u64 r.2.1,.int .u64 r.2.2.1,.int .u64 r.2.2.2.1,.slice r.2.2.2.2.a r.2.2.2.2.len r.2.2.2.2.cap]
abbrev aaC:Rt:=(0,0,0,0,⟨none,0,0⟩)
def hx(kind v:Int):Int:=if kind=0 then v else 0
def RefIs(W:Nat→Prop)(h:ae)(kind:Int)(x:Hs)(r:Rt)(l:List Pr):Prop:=∃s,r=(kind,hx kind x.k0,hx kind x.k1,hx kind x.mask,s)∧Sl fw 2 W h s l∧s.len≤s.cap
theorem RefIs.upd0{W:Nat→Prop}{h c:ae}{kind:Int}{x:Hs}{r:Rt}{l:List Pr}(k:Upd No h c)(i:RefIs W h kind x r l):RefIs W c kind x r l:=
 let⟨s,e,b⟩:=i;⟨s,e,b.1.upd k fun _ h=>h.elim,b.2⟩
theorem RefIs.less{W W':Nat→Prop}{h:ae}(hm:∀b,W' b→W b∨h.size≤b){kind:Int}{x:Hs}{r:Rt}{l:List Pr}(i:RefIs W h kind x r l):RefIs W' h kind x r l:=
 let⟨s,e,c⟩:=i;⟨s,e,c.1.less hm,c.2⟩
theorem RefIs.updM{W M:Nat→Prop}{h d:ae}(k:Upd M h d)(hm:∀b,M b→W b∨h.size≤b){kind:Int}{x:Hs}{r:Rt}{l:List Pr}(i:RefIs W h kind x r l):RefIs W d kind x r l:=
 let⟨s,e,c⟩:=i;⟨s,e,c.1.upd k hm,c.2⟩
theorem WL{W:Nat→Prop}{x:Hs}{h:ae}{kind:Int}(g:kind=0∨kind=1){K:Rt×Int→ae→Prop}(i:∀h' r,RefIs W h' kind x r []→Upd No h h'→K (r,0) h'):Z6 97 [.int .i64 kind,.agg #[.int .u64 x.k0,.int .u64 x.k1,.int .u64 x.mask]] K h:=by
 refine eM (KO kind (x.k0,x.k1,x.mask)) .nil Tryz.func97 Tryz.call97 ?_;dsimp only[KO,eP,EL,XM,FE,aR,au,cq,pR];refine bj fun n b1 k1=>bj fun h2 b2 j=>?_
 have c1:=j.get0 b1;have m:=k1.size;have e:=k1.tr j;rcases g with rfl|rfl
 ·refine aV.2 ⟨_,vc c1 0,_,vc c1 1,_,vc c1 2,?_⟩
  refine dt (c:=Ox aaC) (vs:=Ox (0,x.k0,x.k1,x.mask,⟨none,0,0⟩)) b2 rfl fun f b d=>?_
  exact⟨_,vc b 0,_,vc b 1,_,vc b 2,_,vc b 3,⟨none,0,0⟩,vc b 4,i f (0,x.k0,x.k1,x.mask,⟨none,0,0⟩) ⟨_,rfl,Sl.nil kj,ai _⟩ (e.own d m)⟩
 ·refine ay.2 (aV.2 ?_)
  refine dt (c:=Ox aaC) (vs:=Ox (1,0,0,0,⟨none,0,0⟩)) b2 rfl fun f b d=>?_
  exact⟨_,vc b 0,_,vc b 1,_,vc b 2,_,vc b 3,⟨none,0,0⟩,vc b 4,i f (1,0,0,0,⟨none,0,0⟩) ⟨_,rfl,Sl.nil kj,ai _⟩ (e.own d m)⟩
def Nw(r q:Rt):Bool:=(r.1==q.1)&&((r.2.1==q.2.1)&&((r.2.2.1==q.2.2.1)&&((r.2.2.2.1==q.2.2.2.1)&&true)))
theorem GJ{r q:Rt}{h:ae}{K:Bool→ae→Prop}(c:∀h',Upd No h h'→K (Nw r q) h'):f5 25 [aaB r,aaB q] K h:=by
 refine eM (H8 r q) .nil Tryz.func25 Tryz.call25 ?_;dsimp only[H8,V7,vJ,db,kR,aR];refine bj fun d b1 k1=>bj fun h2 b2 b=>?_
 have c1:=b.get0 b1;refine⟨_,vc c1 0,_,vc b2 0,?_⟩;have:=c h2 (k1.tr b);unfold Nw at this;rcases hb:(r.1==q.1)with _|_
 ·rw[hb]at this
  exact ay.2 this
 ·rw[hb]at this
  exact aV.2 ⟨_,lA c1 1 0,_,lA c1 1 1,_,lA c1 1 2,_,lA b2 1 0,_,lA b2 1 1,_,lA b2 1 2,this⟩
end Go.Proofs
namespace Go.Proofs
open Go Go.Lift
end Go.Proofs
namespace Go.Proofs
open Go Go.Lift
end Go.Proofs
namespace Go.Proofs
open Go.Lift
abbrev Ch:=ByteArray×ByteArray×ByteArray×Bool×Bool
end Go.Proofs
namespace Go.Proofs
open Go Go.Lift
end Go.Proofs
namespace Go.Proofs
open Go Go.Lift
theorem Pw{h:ae}{b:Nat}{c:Array Value}{t:TypeId}(d:h[b]? =some (.cells c t (0,0))) (hc:0<c.size):iS h ⟨b,0,none⟩:=⟨c,t,d,hc⟩
theorem TrieAt.plain{W:Nat→Prop}{x:Hs}{h:ae}:∀{m b:Nat} {l:List Pr},TrieAt W x h m b l→iS h ⟨b,0,none⟩
 |0,_,_,t=>by obtain⟨_,_,_,c,_⟩:=BuckAt.ex t;exact Pw c (by simp[gG])
 |m+1,_,_,⟨s,nd,_⟩=>by obtain⟨_,_,_,_,_,c,_⟩:=nd.ex;exact Pw c (by simp[gG])
end Go.Proofs
namespace Go.Proofs
open Go Go.Lift
end Go.Proofs
namespace Go.Proofs
open Go Go.Lift
theorem RxN.plain{W:Nat→Prop}{h:ae}{b:Nat}{sl:ByteArray}{w:Option ByteArray}{F:Fo}(r:RxN W h b sl w F):iS h ⟨b,0,none⟩:=by
 obtain⟨val,s,d,ks,c,_⟩:=r;exact Pw c (by simp[XU])
end Go.Proofs
namespace Go.Proofs
open Go Go.Lift
end Go.Proofs
namespace Go.Proofs
open Go Go.Lift
theorem Eqf.perm{α:Type}[DecidableEq α]{lt:α→α→Bool}(w:WO lt){l b:List α}(h:Eqf lt l b):b.Perm l:=by
 rw[List.perm_iff_count];intro a;have e:∀m:List α,m.count a=(m.filter (Ku lt a)).count a:=fun m=>(List.count_filter (Hu w a)).symm
 rw[e b,e l,h.flt a]
theorem ON{t:Tr}{h:ae}{K:Int×Int×Int→ae→Prop}(f:∀h',Upd No h h'→K (t.2.1,t.2.2.1,t.2.2.2.1) h'):UV 63 [RI t] K h:=by
 refine eM (tR t) .nil Tryz.func63 Tryz.call63 ?_;dsimp only[tR,eP,Zc,jP,zl2,vJ,db,pR,au];refine bj fun g b1 k1=>bj fun h2 b2 d=>?_
 have c1:=d.get0 b1;refine⟨_,lA c1 1 0,_,lA c1 1 1,_,lA c1 1 2,?_⟩;refine dt (c:= [.int .u64 0,.int .u64 0,.int .u64 0]) (vs:= [.int .u64 t.2.1,.int .u64 t.2.2.1,.int .u64 t.2.2.2.1]) b2 rfl fun e b3 b=>?_
 exact⟨_,vc b3 0,_,vc b3 1,_,vc b3 2,f e ((k1.tr d).own b k1.size)⟩
end Go.Proofs
namespace Go.Proofs
open Go Go.Lift
def D3:List Pr→Int
 | []=>0
 |p::l=>if Sk p=0 then D3 l else Sk p
theorem Hj:∀{l:List Pr},D3 l=0→∀p∈l,p.1.size≤256∧p.2.size≤4096
 | [],_,p,b=>by cases b
 |q::l,h,p,b=>by
  unfold D3 at h;split at h
  ·rename_i h0
   rcases ar.1 b with rfl|b
   ·exact Sj h0
   ·exact Hj h p b
  ·rename_i h0;exact absurd h h0
theorem SV{l:List Pr}{i:Nat}(hi:i<l.length):D3 (l.drop i)=if Sk l[i]=0 then D3 (l.drop (i+1))else Sk l[i]:=by
 rw[List.drop_eq_getElem_cons hi];rfl
theorem OM{x:Hs}{h:ae}{kind:Int}(m:kind≠0)(i:kind≠1){K:Tr×Int→ae→Prop}(f:∀h',Upd No h h'→K (qG,11) h'):yl 83 [.int .i64 kind,.agg #[.int .u64 x.k0,.int .u64 x.k1,.int .u64 x.mask]] K h:=by
 refine HN kind (x.k0,x.k1,x.mask) ?_;dsimp only[BH,eP,BR,EL,js,jP,uN,aR,au,aG,pR];refine bj fun j b1 k1=>bj fun h2 b2 g=>?_
 rw[beq_eq_false_iff_ne.2 m,beq_eq_false_iff_ne.2 i];refine ay.2 (ay.2 ?_);refine dt (c:=kA qG) (vs:=kA qG) b2 rfl fun e b d=>?_
 exact⟨_,vc b 0,_,vc b 1,_,vc b 2,_,vc b 3,_,vc b 4,_,vc b 5,f e ((k1.tr g).own d k1.size)⟩
theorem IM{W Z:Nat→Prop}{x:Hs}{h:ae}{s:SliceV}{l:List Pr}{kind:Int}(D:Sl fw 2 Z h s l)(T:∀y,W y→y<h.size)(Y:l.length≤100000){K:Tr×Int→ae→Prop}
  (J:kind≠0→kind≠1→∀f,Upd No h f→K (qG,11) f)(E:(kind=0∨kind=1)→D3 l≠0→∀f,Upd No h f→K (qG,D3 l) f)(S:(kind=0∨kind=1)→D3 l=0→∀f t,TreeIs W f kind x t (rp l)→Upd No h f→K (t,0) f):
  yl 119 [.int .i64 kind,.agg #[.int .u64 x.k0,.int .u64 x.k1,.int .u64 x.mask],.slice s.a s.len s.cap] K h:=by
 by_cases b:kind=0∨kind=1
 ·by_cases v:D3 l=0
  ·exact LV D T Y (Hj v) b (S b v)
  ·have E:=E b v
   refine sN kind (x.k0,x.k1,x.mask) s ?_;dsimp only[pC,au,eP,nv,BR,EL,ja,iR,js,jP,uN,aR,aG,j5,cE,sM,ic,ji,CS,fG,pR];refine bj fun F b1 k1=>bj fun h2 b2 o=>?_
   have z1:=bc b1;have z2:=bc b2;have G:h.size≤F.size:=k1.size;have c1:=o.get0 b1;have H:=k1.tr o;refine⟨_,vc c1 0,_,vc c1 1,_,vc c1 2,?_⟩;refine FS (W:=No) (x:=x) (fun _ h=>h.elim) b fun h3 R _ q=>?_
   refine GR (t:=R) fun L X u=>?_
   refine ay.2 ?_;have n:=q.tr u;have z:=H.tr n;have N:=D.len;refine LoopP.ghost (fun(i:Nat) (t:Int) f=>t=(i:Int)∧i≤l.length∧D3 (l.drop i)=D3 l∧Upd No L f) (fun i=>l.length-i) 0 ⟨rfl,aY _,rfl,Upd.refl _ _⟩ ?_
   rintro I i t h5 ⟨rfl,hi,hd,w⟩ V;have m:=z.tr w;refine ak (fun g=>?_) fun Q=>?_
   ·have g:i<l.length:=by omega
    rw[SV g]at hd;obtain⟨a,U,_,hv⟩:=(D.upd m fun _ h=>h.elim).at (List.getElem?_eq_getElem g)
    refine⟨⟨by omega,by omega⟩,a,U,l[i].1,hv 0 _ rfl,l[i].2,hv 1 _ rfl,?_⟩
    refine DS (p:=l[i]) fun h6 P C=>⟨_,vc P 0,_,vc P 1,WW (p:=l[i]) ?_⟩
    by_cases e:Sk l[i]=0
    ·rw[if_pos e]at hd
     rw[show(Sk l[i] !=0)=false by rw[e];rfl]
     refine ay.2 ?_;rw[tc g (by omega)];exact V (i+1) _ _ ⟨rfl,g,hd,w.tr C⟩ (by omega)
    ·rw[if_neg e]at hd
     rw[show(Sk l[i] !=0)=true by simpa using e]
     refine aV.2 ?_;refine dt (c:=kA qG) (vs:=kA qG) (((n.tr w).tr C).get0 b2) rfl fun A d j=>?_
     refine⟨_,vc d 0,_,vc d 1,_,vc d 2,_,vc d 3,_,vc d 4,_,vc d 5,?_⟩;rw[hd];exact E A ((m.tr C).own j G)
   ·have B:i=l.length:=by omega
    subst B;rw[List.drop_length]at hd;exact absurd hd.symm v
 ·have n0:kind≠0:=fun e=>b (.inl e)
  have O:kind≠1:=fun e=>b (.inr e)
  refine sN kind (x.k0,x.k1,x.mask) s ?_;dsimp only[pC,au,eP,nv,BR,EL,ja,iR,js,jP,uN,aR,aG,j5,cE,sM,ic,ji,CS,fG,pR];refine bj fun F b1 k1=>bj fun h2 b2 o=>?_
  have c1:=o.get0 b1;have G:h.size≤F.size:=k1.size;refine⟨_,vc c1 0,_,vc c1 1,_,vc c1 2,?_⟩;refine OM n0 O fun h3 q=>?_
  refine GR (t:=qG) fun L X u=>aV.2 ?_
  refine dt (c:=kA qG) (vs:=kA qG) ((q.tr u).get0 b2) rfl fun A d j=>?_
  exact⟨_,vc d 0,_,vc d 1,_,vc d 2,_,vc d 3,_,vc d 4,_,vc d 5,J n0 O A (((k1.tr o).tr (q.tr u)).own j G)⟩
end Go.Proofs
