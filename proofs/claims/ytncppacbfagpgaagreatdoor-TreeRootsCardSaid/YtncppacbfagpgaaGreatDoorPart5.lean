/- A part of the proof that the named laws of this program answer true, whatever the input. -/
import Derived.Test.YtncppacbfagpgaaGreatDoorPart4
open List renaming mem_singleton→aB,length→dT,length_append→ac,length_map→bF,append_nil→aW,length_cons→ax,append_assoc→aq,length_nil→aZ,length_eq_zero_iff→aH,nil_append→dM,take_append_drop→aF,length_take→aK,length_drop→aS,mem_cons→aA,length_singleton→aC,getElem?_eq_some_iff→bl,getElem?_eq_getElem→af,getElem_of_mem→cx,getElem?_append_left→bX,getElem?_append_right→aQ,mem_of_getLast?→gI,mem_filter→ey,mem_cons_of_mem→aL,mem_cons_self→ar,pairwise_cons→aX
open List.Pairwise renaming nil→cE
open Nat renaming lt_of_lt_of_le→bB,zero_le→aR,le_refl→ao,lt_or_ge→bN,add_zero→cU,le_trans→bh,eq_zero_or_pos→eh,add_sub_cancel_left→eL,sub_self→fV
namespace Go.Proofs
open Go Go.Lift
abbrev Pe(x:Pr):List Value:= [.agg #[.string x.1,.string x.2]]
theorem C9{h:ad}{fv:Value}{N:Nat}{S:List Pr→Prop}{Q:Nat→Prop}(hg:Gives PG fv Pe N S Q h)(hN:N≤100000000){K:SliceV→ad→Prop}
  (hk:∀s' h' xs,S xs→OwnS eC 2 ag (fun b=>h.size≤b) h' s' xs→Upd No h h'→K s' h'):HC PG eD [.slice none 0 0,fv] [.c .slice] K h:=by
 refine kA ⟨none,0,0⟩ fv ?_;unfold gh nv jx av kU sP PJ;have k0:=Upd.hnew No h [.slice none 0 0] cL;have b0:=bZ h [.slice none 0 0] cL;have hsz:(hnew h [.slice none 0 0] cL).size=h.size+1:=iS ..;have hg1:=hg.upd k0 fun _ _=>id
 refine bj ?_;generalize hnew h [.slice none 0 0] cL=h1 at hg1 k0 b0 hsz;refine⟨fun lo hlo hround=>?_⟩
 obtain⟨f,first,cap,rfl,hrun⟩:=hg1.run
 refine⟨f,first,cap,rfl,?_⟩
 have k1:Upd No h1 ((h1.push (.deferred (some []))).push (lo .ready none)):=(Upd.push No _ _).tr (Upd.push No _ _);have l2:((h1.push (.deferred (some []))).push (lo .ready none))[h1.size+1]? =some (lo .ready none):=by
  have:=uo (h1.push (.deferred (some []))) (lo .ready none);rwa [Array.size_push]at this
 have l1:((h1.push (.deferred (some []))).push (lo .ready none))[h1.size]? =some (.deferred (some [])):=(Upd.push No _ _).get0 (uo h1 _);refine hrun (.func (.yield (h1.size+1)) #[] #[]) (fun pre A h'=>(∀b,A b→b<h'.size∧h.size≤b)∧A h.size∧A h1.size∧A (h1.size+1)∧h'[h1.size]? =some (.deferred (some []))∧h'[h1.size+1]? =some (lo .ready none)∧
   ∃s:SliceV,h'[h.size]? =some (.cells #[sv s] cL (0,0))∧OwnS eC 2 ag (fun b=>A b∧h1.size+1<b) h' s pre∧pre.length≤N)
  (fun b=>b=h.size∨b=h1.size∨b=h1.size+1) No _ _ ⟨fun _ _ _ hj b hb=>(hj.1 b hb).1,fun pre A h' h'' B hj hu hB=>?_,fun pre A h' x K' hj hlen hK=>?_⟩ ?_ k1 (fun _ _=>id) (fun b hb hq=>?_) ?_
 ·obtain⟨h1',h2,h3,h4,h5,h6,s,h7,h8,h9⟩:=hj
  exact⟨fun b hb=>⟨bB (h1' b hb).1 hu.size,(h1' b hb).2⟩,h2,h3,h4,hu.get h5 (hB _ h3),hu.get h6 (hB _ h4),s,hu.get h7 (hB _ h2),h8.upd hu fun b hb=>hB b hb.1,h9⟩
 ·obtain⟨hA,hA1,hA2,hA3,hd,hl,s,hs,ho,hpl⟩:=hj
  refine hround x h' K' hl ?_;refine pN (p:=x) fun hp bp kp=>?_
  have zp:=aJ bp;have hl:=kp.get0 hl;have hs:=kp.get0 hs;have hd:=kp.get0 hd;have hop:=ho.upd kp fun _ _ h=>h
  have sp:=kp.size;refine⟨hl,?_⟩;have kb:Upd (· =h1.size+1) hp (hp.setIfInBounds (h1.size+1) (lo .busy none)):=Upd.set _ _ rfl
  have lb:=iY (o:=lo .busy none) hl;have sb:=kb.size;refine bj ?_;generalize hp.setIfInBounds (h1.size+1) (lo .busy none)=h2 at kb lb sb;have hlt1:=(hA _ hA1).1;have hlt3:=(hA _ hA3).1;have bp2:=kb.get bp (by omega);have hs2:=kb.get hs (by omega);refine⟨s,by rw[cM,aV hs2];rfl,_,vc bp2 0,_,vc bp2 1,bj ?_⟩
  refine uL (p:=x) (M:=fun b=>((A b∧b<h'.size)∨h2.size≤b)∧h1.size+1<b) ((hop.upd kb fun b hb=>by omega).more fun b hb=>⟨.inl ⟨hb.1,(hA b hb.1).1⟩,hb.2⟩) (fun b hb=>⟨.inr hb,by have:=aJ lb;omega⟩) (by omega) fun s' h3 ho3 hu3=>?_
  have hs3:h3[h.size]? =some (.cells #[sv s] cL (0,0)):=hu3.get hs2 (by omega);refine⟨by rw[cM];exact gS hs3 (by simp),?_⟩;have k4:Upd (· =h.size) h3 (hset h3 (az h) (.slice s'.a s'.len s'.cap)):=Upd.hset _ _ rfl
  have hs4:(hset h3 (az h) (.slice s'.a s'.len s'.cap))[h.size]? =some (.cells #[sv s'] cL (0,0)):=by
   rw[cM,BW hs3,iY hs3];rfl
  refine bj ?_;generalize hset h3 (az h) (.slice s'.a s'.len s'.cap)=h4 at k4 hs4;have hl4:h4[h1.size+1]? =some (lo .busy none):=k4.get (hu3.get lb (by omega)) (by omega);refine⟨hl4,?_⟩;have k5:Upd (· =h1.size+1) h4 (h4.setIfInBounds (h1.size+1) (lo .ready none)):=Upd.set _ _ rfl
  have hl5:=iY (o:=lo .ready none) hl4;have hall:Upd A h' h4:=((kp.wide.tr (kb.mono (M':=A) fun b hb=>.inl (hb▸hA3))).trans hu3 fun b hb=>hb.1.imp (fun h=>h.1) fun h=>by omega).trans k4 fun b hb=>.inl (hb▸hA1)
  have z3:=hu3.size;have z4:=k4.size;have z5:=k5.size;refine hK _ (fun b=>((A b∧b<h'.size)∨h2.size≤b)∧b<h4.size) ⟨fun b hb=>⟨bB hb.2 z5,hb.1.elim (fun h=>(hA b h.1).2) fun h=>by omega⟩,⟨.inl ⟨hA1,hlt1⟩,by omega⟩,⟨.inl ⟨hA2,(hA _ hA2).1⟩,by have:=(hA _ hA2).1;omega⟩,⟨.inl ⟨hA3,hlt3⟩,by omega⟩,
   k5.get (k4.get (hu3.get (kb.get hd (by omega)) (by omega)) (by omega)) (by omega),hl5,s',k5.get hs4 (by omega),?_,by simp;omega⟩ (hall.trans k5 fun b hb=>.inl (hb▸hA3)) fun b hb=>hb.1.imp (fun h=>h.1) fun h=>by omega
  exact(((ho3.upd k4 fun b hb=>by omega).within).more fun b hb=>⟨⟨hb.1.1,hb.2⟩,hb.1.2⟩).upd k5 fun b hb=>by omega
 ·refine⟨fun b hb=>?_,.inl rfl,.inr (.inl rfl),.inr (.inr rfl),l1,l2,⟨none,0,0⟩,k1.get0 b0,OwnS.nil fO,aR _⟩
  have:=aJ l2;rcases hb with rfl|rfl|rfl<;>omega
 ·have:=hg.lt b hq
  rcases hb with rfl|rfl|rfl<;>omega
 ·rintro xs A' h' hS ⟨hA,hA1,hA2,hA3,hd,hl,s,hs,ho,hpl⟩ hu hA'
  refine⟨.ready,none,by decide,hl,?_⟩
  have k5:Upd (· =h1.size+1) h' (h'.setIfInBounds (h1.size+1) (lo .exhausted none)):=Upd.set _ _ rfl
  show∃v:SliceV,aN (h'.setIfInBounds (h1.size+1) (lo .exhausted none)) (az h)=some (.slice v.a v.len v.cap)∧_
  have hd5:=k5.get hd (show ¬h1.size=h1.size+1 by omega)
  have hs5:=k5.get hs (show ¬h.size=h1.size+1 by omega)
  have ho5:=ho.upd k5 fun b hb=>by omega
  generalize h'.setIfInBounds (h1.size+1) (lo .exhausted none)=h5 at k5 hd5 hs5 ho5;refine⟨s,by rw[cM,aV hs5];rfl,hd5,?_⟩
  have k6:Upd (· =h1.size) h5 (h5.setIfInBounds h1.size (.deferred none)):=Upd.set _ _ rfl
  refine hk s _ xs hS ((ho5.upd k6 fun b hb=>by omega).more fun b hb=>(hA b hb.1).2) ?_
  refine(((k0.tr k1).trans hu fun b hb=>?_).trans k5 fun b hb=>.inr (by omega)).trans k6 fun b hb=>.inr (by omega)
  rcases hb with rfl|rfl|rfl<;>(right;omega)
theorem zW{h:ad}{fv:Value}{N:Nat}{S:List Pr→Prop}{Q:Nat→Prop}(hg:Gives PG fv Pe N S Q h)(hN:N≤100000000){K:SliceV→ad→Prop}
  (hk:∀s' h' xs,S xs→OwnS eC 2 ag (fun b=>h.size≤b) h' s' xs→Upd No h h'→K s' h'):HC PG fT [fv] [.c .slice] K h:=by
 refine qn fv ?_;unfold lA;exact C9 hg hN hk
theorem H4{W:Nat→Prop}{h:ad}{b:Nat}{w:Option ByteArray}{F:Fo}(io:It.Ok W h ⟨b,⟨#[]⟩,false,⟨#[]⟩,w,F⟩)(hW:∀y,h.size≤y→W y){K:Option Addr→ad→Prop}
  (hk:∀h' cb,h.size≤cb→cb<h'.size→Cur W h' cb (fun y=>h.size≤y∧y≠cb) [⟨b,⟨#[]⟩,false,⟨#[]⟩,w,F⟩]→Upd No h h'→K (some ⟨cb,0,none⟩) h'):HC PG wI [.pointer (some ⟨b,0,none⟩),.agg #[.string ⟨#[]⟩,.string ⟨#[]⟩,.bool true],.bool false] [.c .ptr] K h:=by
 refine Jx (some ⟨b,0,none⟩) (⟨#[]⟩,⟨#[]⟩,true) false ?_;unfold Cw av dL bG oz Oj CW HL;refine aG fun h1 b1 k1=>⟨_,vc b1 0,_,vc b1 1,true,vc b1 2,aG fun h2 b2 k2=>aw.2 ⟨_,rfl,⟨none,0,0⟩,vc b2 0,aG fun h3 b3 k3=>?_⟩⟩
 have s1:=k1.size;have s2:=k2.size;have z2:=aJ b2;have z3:=aJ b3;have o3:OwnS La 3 dS (fun _=>True) h3 ⟨some (az h2),1,1⟩ [(some ⟨b,0,none⟩,⟨#[]⟩,false)]:=⟨rfl,EA,ao _,.inr ⟨h2.size,[],rfl,trivial,b3,rfl⟩⟩
 refine⟨_,(o3.sl (W:=No) fun _ _ _ h=>h).srow,?_⟩
 refine AppP.own (M:=fun y=>h3.size≤y) (ys:= [(some ⟨b,0,none⟩,⟨#[]⟩,false)]) (OwnS.nil (f:=La) EA) rfl rfl rfl rfl (by omega) (by simp) (ao _) fun s4 h4 ho4 hu4=>?_
 have c4:=hu4.get (k3.get0 b2) (by omega);refine⟨_,rfl,?_⟩;refine rQ (i:=0) (c':=Pg s4) c4 (show 0<5 by decide) rfl fun h5 c5 hu5=>?_
 have hu:Upd No h h5:=(((k1.tr k2).tr k3).trans hu4 fun y hy=>.inr (by omega)).own hu5 s1
 have s5:=hu4.size;have s6:=hu5.size;refine hk h5 h1.size s1 (by omega) ⟨⟨s4,c5,?_⟩,fun i hi=>?_⟩ hu
 ·exact(ho4.upd hu5 fun y hy e=>by have e:y=h1.size:=e;omega).more fun y hy=>⟨by omega,by omega⟩
 ·rw[aB.1 hi]
  exact io.updM hu fun _ h=>h.elim
theorem Ov(l m:List Pr):Bb (l++m)=Bb l++Bb m:=by unfold Bb;rw[List.map_append]
theorem Gg{W:Nat→Prop}{h:ad}{b:Nat}{l:List Pr}(t:RadAt W h b l)(hr:dD l)(hf:Fit l)(hn:l.length≤60000){K:Value→ad→Prop}
  (hk:∀fv h',Gives PG fv Pe (2*l.length) (fun xs=>xs=l) (fun y=>y<h'.size) h'→Upd No h h'→K fv h'):HC PG uD [.pointer (some ⟨b,0,none⟩),.agg #[.string ⟨#[]⟩,.string ⟨#[]⟩,.bool true],.bool false] [.c .raw] K h:=by
 refine Hj (some ⟨b,0,none⟩) (⟨#[]⟩,⟨#[]⟩,true) false ?_;unfold Ac Oj;refine aG fun h1 b1 k1=>aG fun h2 b2 k2=>aG fun h3 b3 k3=>?_
 have k03:=(k1.tr k2).tr k3;have c1:=k3.get0 (k2.get0 b1);have c2:=k3.get0 b2;have z1:=aJ c1;have z2:=aJ c2;have z3:=aJ b3;refine hk _ h3 ?_ k03;obtain⟨w,F,r1,r2,r3⟩:=(((t.upd0 k03).less (W':=fun y=>h3.size≤y) fun y hy=>.inr hy)).ex
 have hprs:=AK r2 hr r3;have hcnt:=AX r2;have hlenU:=congrArg dT hprs;unfold ma Bb at hlenU;rw[ac,bF]at hlenU;refine⟨fun y hy=>hy,oV,#[],_,rfl,fun y J A M h4 K' ht hj hu hq ha hk'=>?_⟩
 refine Cs y (az h) (az h1) (az h2) ?_;unfold rL nv o9 bC av kU sP ge Px pO;have d1:=hu.get c1 (hq _ z1);have d2:=hu.get c2 (hq _ z2);have d3:=hu.get b3 (hq _ z3);have s4:=hu.size;have io:It.Ok (fun y=>h3.size≤y) h4 ⟨b,⟨#[]⟩,false,⟨#[]⟩,w,F⟩:=⟨r1.updM hu fun y hy=>.inl (by
  rcases bN y h3.size with hl|hl
  ·exact absurd hy (hq y hl)
  ·exact hl),r2,by simp[It.key],fun p hp=>by
   rw[hprs]at hp
   obtain⟨q,hq',e⟩:=List.mem_map.1 hp
   have:=(hf q hq').1
   rw[←e]
   simpa[It.key]using this⟩
 refine⟨_,(by have:=vc d1 0;rw[bP,cU]at this;exact this),_,vc d2 0,_,vc d2 1,true,vc d2 2,false,(by have:=vc d3 0;rw[bP,cU]at this;exact this),?_⟩;refine H4 io (fun y hy=>bh s4 hy) fun h5 cb hcb hcb5 cur k5=>?_
 have hAlt:=ht.lt _ _ _ hj;have hA3:∀y,A y→h3.size≤y:=fun y hy=>by
  rcases bN y h3.size with hl|hl
  ·exact absurd hl (ha y hy)
  ·exact hl
 have s5:=k5.size;have hcost0:jO [⟨b,⟨#[]⟩,false,⟨#[]⟩,w,F⟩]≤100000000:=by
  have:jO [⟨b,⟨#[]⟩,false,⟨#[]⟩,w,F⟩]=2+2*xX F:=by simp[jO,It.cost]
  rw[this];omega
 have hrem0:sO [⟨b,⟨#[]⟩,false,⟨#[]⟩,w,F⟩]=Bb l:=by
  rw[←hprs];simp[sO,It.prs,It.key]
 refine LoopP.ghost (fun(g:List Pr×List It×(Nat→Prop)) (_:Unit) h'=>Cur (fun y=>h3.size≤y) h' cb (fun y=>h4.size≤y∧y≠cb∧¬g.2.2 y) g.2.1∧J g.1 g.2.2 h'∧Upd A h4 h'∧(∀y,g.2.2 y→(A y∨h4.size≤y)∧y≠cb)∧Bb g.1++sO g.2.1=Bb l∧jO g.2.1≤100000000∧h5.size≤h'.size) (fun g=>(sO g.2.1).length) ([],[⟨b,⟨#[]⟩,false,⟨#[]⟩,w,F⟩],A)
  ⟨cur.sub fun y hy hlt=>⟨hy.1,hy.2,fun hx=>by have:=hAlt y hx;omega⟩,ht.keep _ _ _ _ No hj k5 (fun _ _ h=>h),k5.wide,fun y hy=>⟨.inl hy,by have:=hAlt y hy;omega⟩,by rw[hrem0];rfl,hcost0,ao _⟩ ?_
 rintro I ⟨pre,items,A1⟩ ⟨⟩ h' ⟨cu,hj',hu',hA1,hrem,hco,hsz⟩ hI;simp only at cu hj' hA1 hrem hco;have hlt':=ht.lt _ _ _ hj';have hA1W:∀y,A1 y→h3.size≤y:=fun y hy=>(hA1 y hy).1.elim (hA3 y) fun h=>by omega
 refine O0 cu (fun y hy=>⟨by omega,by omega,fun hx=>by have:=hlt' y hx;omega⟩) (fun y hy=>bh s4 hy.1) (bh s4 hcb) (fun hx=>hx.2.1 rfl) hco (fun h6 hr0 hu6=>?_) fun h6 items' k v R hr1 hr2 hc6 cu6 hu6=>?_
 ·have hd:∀y,A1 y→¬((h4.size≤y∧y≠cb∧¬A1 y)∨y=cb):=fun y hy hx=>hx.elim (fun h=>h.2.2 hy) (hA1 y hy).2
  have hj6:=ht.keep _ _ _ _ _ hj' hu6 hd;refine pN fun h7 b7 k7=>?_
  refine Join.intro (fun t h8=>t=true∧h8=h7) (fun R hR=>aw.2 (hR _ _ ⟨rfl,rfl⟩)) ?_
  rintro t h8 ⟨rfl,rfl⟩;refine aw.2 (hk' pre A1 h8 ?_ (ht.keep _ _ _ _ No hj6 k7 (fun _ _ h=>h)) ?_ fun y hy=>(hA1 y hy).1)
  ·rw[hr0,aW]at hrem
   exact EI hrem
  ·exact(hu'.trans hu6 fun y hy=>.inr (by rcases hy with hy|hy;exact hy.1;omega)).tr k7.wide
 ·have hd:∀y,A1 y→¬((h4.size≤y∧y≠cb∧¬A1 y)∨y=cb):=fun y hy hx=>hx.elim (fun h=>h.2.2 hy) (hA1 y hy).2
  have hj6:=ht.keep _ _ _ _ _ hj' hu6 hd;refine pN (p:=(⟨k.toArray⟩,v)) fun h7 b7 k7=>?_
  have hj7:=ht.keep _ _ _ _ No hj6 k7 (fun _ _ h=>h)
  have cu7:=cu6.upd k7 (fun _ h=>h.elim) (fun _ _ _ h=>h) fun h=>h
  have hu47:Upd A h4 h7:=(hu'.trans hu6 fun y hy=>.inr (by rcases hy with hy|hy;exact hy.1;omega)).tr k7.wide
  have s6:=hu6.size;have s7:=k7.size;refine Join.intro (fun t h8=>t=false∧∃A3,J (pre++ [(⟨k.toArray⟩,v)]) A3 h8∧Upd A1 h7 h8∧∀y,A3 y→A1 y∨h7.size≤y) (fun R' hR=>?_) ?_
  ·refine al.2 ⟨_,vc b7 0,_,vc b7 1,?_⟩
   refine ht.step pre A1 h7 (⟨k.toArray⟩,v) _ hj7 ?_ fun h8 A3 hj8 hu8 hA8=>hR _ _ ⟨rfl,A3,hj8,hu8,hA8⟩
   have:=congrArg dT hrem;rw[hr1]at this;simp only[Bb,ac,bF,ax]at this;omega
  ·rintro t h8 ⟨rfl,A3,hj8,hu8,hA8⟩
   refine al.2 (hI (pre++ [(⟨k.toArray⟩,v)],items',A3) () h8 ⟨?_,hj8,?_,fun y hy=>?_,?_,by simp only;omega,by have:=hu8.size;omega⟩ ?_)
   ·have c7:Cur (fun y=>h3.size≤y) h7 cb (fun y=>(h4.size≤y∧y≠cb∧¬A1 y)∧y<h7.size) items':=cu7.sub fun y hy hlt=>⟨hy,hlt⟩
    exact(c7.upd hu8 (fun y hy=>.inl (hA1W y hy)) (fun y hy _ hx=>hy.1.2.2 hx) (fun hx=>(hA1 _ hx).2 rfl)).sub fun y hy _=>⟨hy.1.1,hy.1.2.1,fun hx=>by
     rcases hA8 y hx with h|h
     ·exact hy.1.2.2 h
     ·have:=hy.2;omega⟩
   ·exact hu47.trans hu8 fun y hy=>(hA1 y hy).1
   ·rcases hA8 y hy with h|h
    ·exact hA1 y h
    ·exact⟨.inr (by omega),by omega⟩
   ·simp only
    rw[Ov,aq,hr2,←hrem,hr1];rfl
   ·simp only
    rw[hr1,hr2];simp
theorem EM{W:Nat→Prop}{h:ad}{b:Nat}{l:List Pr}(t:RadAt W h b l)(hr:dD l)(hf:Fit l)(hn:l.length≤60000){K:SliceV→ad→Prop}
  (hk:∀s' h',OwnS eC 2 ag (fun y=>h.size≤y) h' s' l→Upd No h h'→K s' h'):HC PG sY [.pointer (some ⟨b,0,none⟩),.agg #[.string ⟨#[]⟩,.string ⟨#[]⟩,.bool true]] [.c .slice] K h:=by
 refine FH (some ⟨b,0,none⟩) (⟨#[]⟩,⟨#[]⟩,true) ?_;unfold yn av oz Oj Px;refine aG fun h1 b1 k1=>⟨_,vc b1 0,_,vc b1 1,true,vc b1 2,?_⟩
 refine Gg (t.upd0 k1) hr hf hn fun fv h2 hg k2=>?_
 refine zW hg (by omega) fun s3 h3 xs e ho k3=>?_
 subst e;have s12:=(k1.tr k2).size;exact hk s3 h3 (ho.more fun y hy=>by omega) ((k1.tr k2).tr k3)
theorem Bg{W:Nat→Prop}{x:Hs}{h:ad}{t:Tr}{l:List Pr}(i:TreeIs W h 1 x t l)(hr:dD l)(hf:Fit l)(hn:l.length≤60000){K:SliceV→ad→Prop}
  (hk:∀s' h',OwnS eC 2 ag (fun y=>h.size≤y) h' s' l→Upd No h h'→K s' h'):HC PG fR [An t] [.c .slice] K h:=by
 refine nL t ?_;unfold kN aM au gB OT LQ;rcases i with⟨e,_⟩|⟨_,b,rfl,t⟩
 ·cases e
 refine aG fun h1 b1 k1=>⟨_,vc b1 0,aw.2 ⟨_,vc b1 5,?_⟩⟩
 refine Jy ?_;unfold Cx nv av oz zl7 vl7;refine aG fun h2 b2 k2=>?_
 refine bo (c:= [.string (⟨#[]⟩:ByteArray),.string (⟨#[]⟩:ByteArray),.bool false]) (vs:= [.string (⟨#[]⟩:ByteArray),.string (⟨#[]⟩:ByteArray),.bool true]) b2 rfl fun h3 b3 hu3=>?_
 have k3:Upd No h1 h3:=k2.own hu3 (ao _);have k03:=k1.tr k3;refine⟨_,vc b3 0,_,vc b3 1,true,vc b3 2,vc (k3.get0 b1) 5,?_⟩;refine EM (t.upd0 k03) hr hf hn fun s4 h4 ho k4=>hk s4 h4 (ho.more fun y hy=>?_) (k03.tr k4)
 have:=k03.size;omega
end Go.Proofs
namespace Go.Proofs
open Go Go.Lift
theorem ry{M:Nat→Prop}{h:ad}{s:SliceV}{A U C V B:List (Pr)}(ho:OwnS eC 2 ag M h s (A++(U++(C++(V++B)))))(hn:s.len≤1000000000)(huv:U.length=V.length){a b:Nat}(ha:a=A.length)(hb:b=A.length+U.length+C.length){n:Nat}(hun:n=U.length){cmp:Value}{K:Unit→ad→Prop}
  (hk:∀h',OwnS eC 2 ag M h' s (A++(V++(C++(U++B))))→Upd M h h'→K () h'):HC PG di [.slice s.a s.len s.cap,.int .i64 a,.int .i64 b,.int .i64 n,cmp] [] K h:=by
 subst ha hb hun;refine mC s A.length (A.length+U.length+C.length:Nat) U.length cmp ?_;unfold hP cf dd jx rt;have hlen:=ho.len;simp only[ac]at hlen;refine LoopP.ghost (fun(g:(List (Pr)×List (Pr))×List (Pr)×List (Pr)) (t:Int) h'=>t=(g.1.1.length:Int)∧U=g.1.1++g.1.2∧V=g.2.1++g.2.2∧g.1.1.length=g.2.1.length∧OwnS eC 2 ag M h' s (A++(g.2.1++(g.1.2++(C++(g.1.1++(g.2.2++B))))))∧Upd M h h') (fun g=>g.1.2.length) (([],U),[],V)
  ⟨rfl,rfl,rfl,rfl,ho,Upd.refl _ _⟩ ?_
 rintro I ⟨⟨U1,U2⟩,V1,V2⟩ t h' ⟨e1,e2,e3,hl,ho',hu⟩ hI;simp only at e1 e2 e3 hl ho';subst e1 e2 e3;simp only[ac]at huv hlen;refine aE (fun hlt=>?_) fun hge=>?_
 ·simp only[ac]at hlt
  match U2,V2 with
  | [],_=>simp only[aZ]at hlt;omega
  |_::_,[]=>simp only[aZ,ax]at huv;omega
  |u::U2,v::V2=>
   simp only[ax]at huv hlen;simp only[ac,ax];have ew1:IntKind.wrap .i64 (((A.length+(U1.length+(U2.length+1))+C.length:Nat):Int)+(U1.length:Int))=((A.length+(U1.length+(U2.length+1))+C.length+U1.length:Nat):Int):=by rw[jm (by omega)];omega
   have ew2:IntKind.wrap .i64 ((A.length:Int)+(U1.length:Int))=((A.length+U1.length:Nat):Int):=by rw[jm (by omega)];omega
   rw[ew1,ew2];have f1:A++(V1++((u::U2)++(C++(U1++((v::V2)++B)))))=(A++V1)++u::(U2++(C++(U1++(v::V2++B)))):=by simp
   have f2:(A++V1)++u::(U2++(C++(U1++(v::V2++B))))=((A++V1)++u::(U2++(C++U1)))++v::(V2++B):=by simp
   have f3:(A++V1)++v::(U2++(C++(U1++(v::V2++B))))=((A++V1)++v::(U2++(C++U1)))++v::(V2++B):=by simp
   have f4:((A++V1)++v::(U2++(C++U1)))++u::(V2++B)=A++((V1++ [v])++(U2++(C++((U1++ [u])++(V2++B))))):=by simp
   rw[f1]at ho';obtain⟨a,ha,hu1⟩:=kE ho' (i:=A.length+U1.length) (by rw[ac];omega);have ho'':=ho';rw[f2]at ho'';obtain⟨a',ha',hv1⟩:=kE ho'' (i:=A.length+(U1.length+(U2.length+1))+C.length+U1.length) (by simp only[ac,ax];omega);rw[ha]at ha';cases ha';refine⟨⟨by omega,by omega⟩,a,ha,v.1,hv1 0 _ rfl,v.2,hv1 1 _ rfl,⟨by omega,by omega⟩,a,ha,u.1,hu1 0 _ rfl,u.2,hu1 1 _ rfl,⟨by omega,by omega⟩,a,ha,?_⟩
   refine rz ho' v ha (by rw[ac];omega) fun h2 o2 k2=>⟨⟨by omega,by omega⟩,a,ha,?_⟩
   rw[f3]at o2;refine rz o2 u ha (by first|omega|(simp;done)|(simp;omega)) fun h3 o3 k3=>?_
   rw[f4]at o3;rw[AZ (n:=U1.length+(U2.length+1)) (by omega) (by omega)];exact hI ((U1++ [u],U2),V1++ [v],V2) _ _ ⟨by simp,by simp,by simp,by simp[hl],o3,(hu.trans k2 fun b hb=>.inl hb).trans k3 fun b hb=>.inl hb⟩ (by simp)
 ·simp only[ac]at hge
  have h1:U2= []:=aH.1 (by omega);have h2:V2= []:=aH.1 (by rw[h1,aZ]at huv;omega);subst h1 h2;simp only[aW,dM]at ho' hk;exact hk h' ho' hu
theorem Ig{M:Nat→Prop}{h:ad}{s:SliceV}{A U V B:List (Pr)}(ho:OwnS eC 2 ag M h s (A++(U++(V++B))))(hn:s.len≤1000000000)(hU:0<U.length)(hV:0<V.length){a m b:Nat}(ha:a=A.length)(hm:m=A.length+U.length)(hb:b=A.length+U.length+V.length){cmp:Value}{K:Unit→ad→Prop}
  (hk:∀h',OwnS eC 2 ag M h' s (A++(V++(U++B)))→Upd M h h'→K () h'):HC PG fS [.slice s.a s.len s.cap,.int .i64 a,.int .i64 m,.int .i64 b,cmp] [] K h:=by
 subst ha hm hb;refine nO s A.length (A.length+U.length:Nat) (A.length+U.length+V.length:Nat) cmp ?_;unfold jc;have hlen:=ho.len;simp only[ac]at hlen;have e1:IntKind.wrap .i64 (((A.length+U.length:Nat):Int)-(A.length:Int))=(U.length:Int):=by rw[jm (by omega)];omega
 have e2:IntKind.wrap .i64 (((A.length+U.length+V.length:Nat):Int)-((A.length+U.length:Nat):Int))=(V.length:Int):=by rw[jm (by omega)];omega
 rw[e1,e2];refine LoopP.ghost (fun(g:(List (Pr)×List (Pr))×List (Pr)×List (Pr)) (t:Int×Int) h'=>t.1=(g.1.2.length:Int)∧t.2=(g.2.1.length:Int)∧0<g.1.2.length∧0<g.2.1.length∧A.length+U.length=g.1.1.length+g.1.2.length∧g.1.1++(g.2.1++(g.1.2++g.2.2))=A++(V++(U++B))∧OwnS eC 2 ag M h' s (g.1.1++(g.1.2++(g.2.1++g.2.2)))∧Upd M h h') (fun g=>g.1.2.length+g.2.1.length) ((A,U),V,B)
  ⟨rfl,rfl,hU,hV,rfl,rfl,ho,Upd.refl _ _⟩ ?_
 rintro I ⟨⟨A',U'⟩,V',B'⟩ ⟨ti,tj⟩ h' ⟨e1,e2,hU',hV',hmid,htgt,ho',hu⟩ hI;simp only at e1 e2 hU' hV' hmid htgt ho';subst e1 e2;have hlen':=ho'.len;simp only[ac]at hlen';have hmm:((A.length+U.length:Nat):Int)=((A'.length+U'.length:Nat):Int):=by omega
 rw[hmm];have ew:IntKind.wrap .i64 (((A'.length+U'.length:Nat):Int)-(U'.length:Int))=(A'.length:Int):=by rw[jm (by omega)];omega
 simp only;rw[ew];refine CondP.intro (fun hne=>?_) fun heq=>?_
 ·have hne:(U'.length:Int)≠(V'.length:Int):=by simpa using hne
  refine aE (fun hgt=>?_) fun hle=>?_
  ·
   have hgt:V'.length<U'.length:=by omega
   obtain⟨U1,U2,rfl,hl1⟩:∃U1 U2,U'=U1++U2∧U1.length=V'.length:=⟨U'.take V'.length,U'.drop V'.length,(aF ..).symm,by rw[aK];omega⟩
   simp only[ac]at hgt hlen' hmid hne ew;have f1:A'++((U1++U2)++(V'++B'))=A'++(U1++(U2++(V'++B'))):=by simp
   have f2:A'++(V'++(U2++(U1++B')))=(A'++V')++(U2++(U1++B')):=by simp
   rw[f1]at ho';refine ry ho' hn hl1 rfl (b:=A'.length+(U1++U2).length) (by simp only[ac];omega) (n:=V'.length) hl1.symm fun h2 o2 k2=>?_
   rw[f2]at o2;have ew2:IntKind.wrap .i64 (((U1++U2).length:Int)-(V'.length:Int))=(U2.length:Int):=by rw[ac,jm (by omega)];omega
   rw[ew2];refine hI ((A'++V',U2),U1,B') _ _ ⟨rfl,by simp only;omega,by simp only;omega,by simp only;omega,by simp only[ac];omega,?_,o2,hu.trans k2 fun b hb=>.inl hb⟩ (by simp only[ac];omega)
   rw[←htgt];simp
  ·have hlt:U'.length<V'.length:=by omega
   obtain⟨V1,V2,rfl,hl1⟩:∃V1 V2,V'=V1++V2∧V2.length=U'.length:=⟨V'.take (V'.length-U'.length),V'.drop (V'.length-U'.length),(aF ..).symm,by rw[aS];omega⟩
   simp only[ac]at hlt hlen' hne;have ew2:IntKind.wrap .i64 ((IntKind.wrap .i64 (((A'.length+U'.length:Nat):Int)+((V1++V2).length:Int)))-(U'.length:Int))=((A'.length+U'.length+V1.length:Nat):Int):=by
    rw[ac,jm (x:=((A'.length+U'.length:Nat):Int)+((V1.length+V2.length:Nat):Int)) (by omega),jm (by omega)];omega
   rw[ew2];have f1:A'++(U'++((V1++V2)++B'))=A'++(U'++(V1++(V2++B'))):=by simp
   rw[f1]at ho';refine ry ho' hn hl1.symm rfl rfl rfl fun h2 o2 k2=>?_
   have ew3:IntKind.wrap .i64 (((V1++V2).length:Int)-(U'.length:Int))=(V1.length:Int):=by rw[ac,jm (by omega)];omega
   rw[ew3];refine hI ((A',V2),V1,U'++B') _ _ ⟨by simp only;omega,rfl,by simp only;omega,by simp only;omega,by simp only;omega,?_,o2,hu.trans k2 fun b hb=>.inl hb⟩ (by simp only[ac];omega)
   rw[←htgt];simp
 ·have heq:(U'.length:Int)=(V'.length:Int):=by simpa using heq
  have f1:A'++(U'++(V'++B'))=A'++(U'++([]++(V'++B'))):=by simp
  rw[f1]at ho';refine ry ho' hn (by omega) rfl (b:=A'.length+U'.length) (by simp) rfl fun h2 o2 k2=>?_
  rw[dM,htgt]at o2;exact hk h2 o2 (hu.trans k2 fun b hb=>.inl hb)
theorem zQ{lt:Pr→Pr→Bool}(w:WO lt){M:Nat→Prop}{Iv:ad→Prop}{cmp:Value}(hc:Cmp lt eC M Iv cmp){h:ad}{s:SliceV}{A S B:List (Pr)}(ho:OwnS eC 2 ag M h s (A++(S++B)))(hi:Iv h)(hn:s.len≤1000000000){a b:Nat}(ha:a=A.length)(hb:b=A.length+S.length){K:Unit→ad→Prop}
  (hk:∀h' R,OwnS eC 2 ag M h' s (A++(R++B))→St lt S R→Upd M h h'→K () h'):HC PG dJ [.slice s.a s.len s.cap,.int .i64 a,.int .i64 b,cmp] [] K h:=by
 subst ha hb;refine kS s A.length (A.length+S.length:Nat) cmp ?_;unfold gu cf dd o9 jx cy bC rt;have hlen:=ho.len;simp only[ac]at hlen;have ea:IntKind.wrap .i64 ((A.length:Int)+1)=((A.length+1:Nat):Int):=by rw[jm (by omega)];omega
 rw[ea];refine LoopP.ghost (fun(g:List (Pr)×List (Pr)×List (Pr)) (t:Int) h'=>t=((A.length+max 1 g.1.length:Nat):Int)∧S=g.1++g.2.2∧(g.1= []→g.2.2= [])∧St lt g.1 g.2.1∧OwnS eC 2 ag M h' s (A++(g.2.1++(g.2.2++B)))∧Upd M h h') (fun g=>g.2.2.length) (S.take 1,S.take 1,S.drop 1)
  ⟨?_,(aF ..).symm,fun e=>?_,⟨Eqf.rfl _,?_⟩,by rw[←aq (S.take 1),aF];exact ho,Upd.refl _ _⟩ ?_
 ·simp only[aK];omega
 ·have:=congrArg dT e
  simp only[aK,aZ]at this;exact aH.1 (by simp only[aS];omega)
 ·match S with
  | []=>exact Srt.nil
  |x::S=>exact Srt.one x
 rintro I ⟨S1,R1,T⟩ t h' ⟨e1,e2,hemp,hst,ho',hu⟩ hI;simp only at e1 e2 hemp hst ho';subst e1 e2;simp only[ac]at hlen;have hR1:=hst.eqf.len;refine aE (fun hlt=>?_) fun hge=>?_
 ·simp only[ac]at hlt
  have hS1:S1≠[]:=fun e=>by
   have:=hemp e;subst e;subst this;simp only[aZ]at hlt;omega
  have hS1l:0<S1.length:=List.length_pos_iff.2 hS1;match T with
  | []=>simp only[aZ]at hlt;omega
  |x::T=>
   have emax:A.length+max 1 S1.length=A.length+S1.length:=by omega
   rw[emax];refine LoopP.ghost (fun(g:List (Pr)×List (Pr)) (t:Int) h2=>t=((A.length+g.1.length:Nat):Int)∧R1=g.1++g.2∧(∀y∈g.2,lt x y=true)∧OwnS eC 2 ag M h2 s (A++(g.1++(x::(g.2++(T++B)))))∧Upd M h h2) (fun g=>g.1.length) (R1,[])
    ⟨by simp only;omega,by simp,fun y hy=>(by cases hy),by simpa using ho',hu⟩ ?_
   rintro I2 ⟨L,G⟩ t2 h2 ⟨e1,e2,hG,ho2,hu2⟩ hI2;simp only at e1 e2 hG ho2;subst e1 e2;simp only[ac]at hR1;simp only[ax]at hlen;refine Join.intro (fun t h3=>Upd M h h3∧OwnS eC 2 ag M h3 s (A++(L++(x::(G++(T++B)))))∧(t=true→∃L' y,L=L'++ [y]∧lt x y=true)∧(t=false→∀y∈L,lt x y=false)) (fun Rj hRj=>?_) ?_
   ·refine aE (fun hgt=>?_) fun hle=>?_
    ·rcases Fg L with rfl|⟨L',y,rfl⟩
     ·simp only[aZ]at hgt;omega
     have hlL:(L'++ [y]).length=L'.length+1:=by simp
     have ew:IntKind.wrap .i64 (((A.length+(L'++ [y]).length:Nat):Int)-1)=((A.length+L'.length:Nat):Int):=by rw[hlL,jm (by omega)];omega
     rw[ew];have f1:A++((L'++ [y])++(x::(G++(T++B))))=(A++L')++y::(x::(G++(T++B))):=by simp
     have f2:A++((L'++ [y])++(x::(G++(T++B))))=(A++(L'++ [y]))++x::(G++(T++B)):=by simp
     have o3:=ho2;have o4:=ho2;rw[f1]at o3;rw[f2]at o4;obtain⟨a,ha,hy⟩:=kE o3 (i:=A.length+L'.length) (by first|omega|(simp;done)|(simp;omega))
     obtain⟨a',ha',hx⟩:=kE o4 (i:=A.length+(L'++ [y]).length) (by first|omega|(simp;done)|(simp;omega))
     rw[ha]at ha';cases ha';refine⟨⟨by omega,by omega⟩,a,ha,x.1,hx 0 _ rfl,x.2,hx 1 _ rfl,⟨by omega,by omega⟩,a,ha,y.1,hy 0 _ rfl,y.2,hy 1 _ rfl,?_⟩
     refine hc.call x y (hc.step hu2 hi) fun h5 e k5 he=>?_
     rw[he];have ho5:=ho2.upd k5 fun _ _ h=>h
     refine hRj _ _ ⟨hu2.tr k5.wide,ho5,fun h=>⟨L',y,rfl,h⟩,fun h z hz=>?_⟩
     have hs:=hst.srt.left;rcases List.mem_append.1 hz with hz|hz
     ·exact w.ntr x y z h (hs.cross z hz y (aB.2 rfl))
     ·rw[aB.1 hz];exact h
    ·have hL:L= []:=aH.1 (by omega)
     exact hRj _ _ ⟨hu2,ho2,fun h=>(by cases h),fun _ y hy=>(by rw[hL]at hy;cases hy)⟩
   ·rintro t3 h3 ⟨hu3,ho3,ht,hf⟩
    cases t3 with
    |true=>
     obtain⟨L',y,rfl,hxy⟩:=ht rfl;have hlL:(L'++ [y]).length=L'.length+1:=by simp
     refine aw.2 ?_;have ew:IntKind.wrap .i64 (((A.length+(L'++ [y]).length:Nat):Int)-1)=((A.length+L'.length:Nat):Int):=by rw[hlL,jm (by omega)];omega
     rw[ew];have f1:A++((L'++ [y])++(x::(G++(T++B))))=(A++L')++y::(x::(G++(T++B))):=by simp
     have f2:(A++L')++y::(x::(G++(T++B)))=(A++(L'++ [y]))++x::(G++(T++B)):=by simp
     have f3:(A++(L'++ [y]))++y::(G++(T++B))=(A++L')++y::(y::(G++(T++B))):=by simp
     have f4:(A++L')++x::(y::(G++(T++B)))=A++(L'++(x::((y::G)++(T++B)))):=by simp
     rw[f1]at ho3;have o4:=ho3;rw[f2]at o4;obtain⟨a,ha,hy⟩:=kE ho3 (i:=A.length+L'.length) (by first|omega|(simp;done)|(simp;omega))
     obtain⟨a',ha',hx⟩:=kE o4 (i:=A.length+(L'++ [y]).length) (by first|omega|(simp;done)|(simp;omega))
     rw[ha]at ha';cases ha';refine⟨⟨by omega,by omega⟩,a,ha,y.1,hy 0 _ rfl,y.2,hy 1 _ rfl,⟨by omega,by omega⟩,a,ha,x.1,hx 0 _ rfl,x.2,hx 1 _ rfl,⟨by omega,by omega⟩,a,ha,?_⟩
     refine rz o4 y ha (by first|omega|(simp;done)|(simp;omega)) fun h5 o5 k5=>⟨⟨by omega,by omega⟩,a,ha,?_⟩
     rw[f3]at o5;refine rz o5 x ha (by first|omega|(simp;done)|(simp;omega)) fun h6 o6 k6=>?_
     rw[f4]at o6;refine hI2 (L',y::G) _ _ ⟨rfl,by simp,fun z hz=>?_,o6,(hu3.trans k5 fun b hb=>.inl hb).trans k6 fun b hb=>.inl hb⟩ (by simp only[hlL];omega)
     rcases aA.1 hz with rfl|hz
     ·exact hxy
     ·exact hG z hz
    |false=>
     refine al.2 ?_;have ew:IntKind.wrap .i64 (((A.length+S1.length:Nat):Int)+1)=((A.length+max 1 (S1.length+1):Nat):Int):=by rw[jm (by omega)];omega
     rw[ew];refine hI (S1++ [x],L++x::G,T) _ _ ⟨by simp,by simp,fun e=>(by simp at e),MU w hst (hf rfl) hG,?_,hu3⟩ (by simp)
     have f1:A++((L++x::G)++(T++B))=A++(L++(x::(G++(T++B)))):=by simp
     rw[f1];exact ho3
 ·simp only[ac]at hge
  have hT:T= []:=by
   rcases eh S1.length with h0|h0
   ·exact hemp (aH.1 h0)
   ·exact aH.1 (by omega)
  subst hT;rw[dM]at ho';rw[aW]at hk;exact hk h' R1 ho' hst hu
theorem xz{lt:Pr→Pr→Bool}(w:WO lt){M:Nat→Prop}{Iv:ad→Prop}{cmp:Value}(hc:Cmp lt eC M Iv cmp){s:SliceV}(hn:s.len≤1000000000):∀(n:Nat) {h:ad} {A U V B:List (Pr)},U.length+V.length≤n→OwnS eC 2 ag M h s (A++(U++(V++B)))→Iv h→0<U.length→0<V.length→Srt lt U→Srt lt V→∀{a m b:Nat},a=A.length→m=A.length+U.length→b=A.length+U.length+V.length→∀{K:Unit→ad→Prop},
  (∀h' R,OwnS eC 2 ag M h' s (A++(R++B))→St lt (U++V) R→Upd M h h'→K () h')→HC PG cN [.slice s.a s.len s.cap,.int .i64 a,.int .i64 m,.int .i64 b,cmp] [] K h:=by
 intro n;induction n with
 |zero=>intro h A U V B hl _ _ hU;omega
 |succ n ih=>
  intro h A U V B hl ho hi hU hV sU sV a m b ha hm hb K hk;refine m3 s a m b cmp ?_;unfold iA cf dd o9 jx cy bC rt;have hlen:=ho.len;simp only[ac]at hlen;have e1:IntKind.wrap .i64 ((m:Int)-(a:Int))=(U.length:Int):=by rw[jm (by omega)];omega
  have e2:IntKind.wrap .i64 ((b:Int)-(m:Int))=(V.length:Int):=by rw[jm (by omega)];omega
  rw[e1,e2];refine CondP.intro (fun hone=>?_) fun hmore=>?_
  ·have hone:U.length=1:=by have:=eq_of_beq hone;omega
   match U,hone with
   | [u],_=>
   simp only[aC]at hlen hm hb;refine LoopP.ghost (fun(g:Nat×Nat) (t:Int×Int) h'=>t.1=(g.1:Int)∧t.2=(g.2:Int)∧m≤g.1∧g.1≤g.2∧g.2≤b∧(∀q x,V[q]? =some x→m+q<g.1→lt x u=true)∧(∀q x,V[q]? =some x→g.2≤m+q→lt x u=false)∧OwnS eC 2 ag M h' s (A++([u]++(V++B)))∧Upd M h h') (fun g=>g.2-g.1) (m,b)
    ⟨rfl,rfl,ao _,by simp only;omega,ao _,fun q x hq h=>(by simp only at h;omega),fun q x hq h=>(by have:=(bl.1 hq).1;simp only at h;omega),ho,Upd.refl _ _⟩ ?_
   rintro I ⟨i,j⟩ ⟨ti,tj⟩ h' ⟨e1,e2,hmi,hij,hjb,hlo,hhi,ho',hu⟩ hI;simp only at e1 e2 hmi hij hjb hlo hhi;subst e1 e2;refine aE (fun hlt=>?_) fun hge=>?_
   ·have hlt:i<j:=by have:(i:Int)<(j:Int):=hlt;omega
    refine⟨by decide,?_⟩;simp only[Bd];rw[AU (by omega)];have hk1:(i+j)/2-m<V.length:=by omega
    have hk0:(i+j)/2=A.length+1+((i+j)/2-m):=by omega
    obtain⟨a1,ha1,hx⟩:=ve ho' (i:=(i+j)/2) (x:=V[(i+j)/2-m]) (Nz (U:= [u]) (k:=(i+j)/2-m) (by simp only[aC];omega) (af hk1));obtain⟨a2,ha2,hy⟩:=kE (P:=A) (x:=u) (Q:=V++B) ho' ha;rw[ha1]at ha2;cases ha2;have hVk:V[(i+j)/2-m]? =some V[(i+j)/2-m]:=af hk1;generalize V[(i+j)/2-m]=x at hx hVk;refine⟨⟨by omega,by omega⟩,a1,ha1,x.1,hx 0 _ rfl,x.2,hx 1 _ rfl,⟨by omega,by omega⟩,a1,ha1,u.1,hy 0 _ rfl,u.2,hy 1 _ rfl,?_⟩
    refine hc.call x u (hc.step hu hi) fun h5 e k5 he=>?_
    rw[he];have ho5:=ho'.upd k5 fun _ _ h=>h
    have hu5:=hu.tr k5.wide;cases hxu:lt x u with
    |true=>
     refine aw.2 ?_;have ew:IntKind.wrap .i64 ((((i+j)/2:Nat):Int)+1)=(((i+j)/2+1:Nat):Int):=by rw[jm (by omega)];omega
     rw[ew];refine hI ((i+j)/2+1,j) _ _ ⟨rfl,rfl,by simp only;omega,by simp only;omega,hjb,fun q y hq hqi=>?_,hhi,ho5,hu5⟩ (by simp only;omega)
     have hle:=pu w sV (i:=q) (j:=(i+j)/2-m) (by simp only at hqi;omega) hq hVk;cases hyu:lt y u with
     |true=>rfl
     |false=>rw[w.ntr _ _ _ hle hyu]at hxu;cases hxu
    |false=>
     refine al.2 ?_;refine hI (i,(i+j)/2) _ _ ⟨rfl,rfl,hmi,by simp only;omega,by simp only;omega,hlo,fun q y hq hqi=>?_,ho5,hu5⟩ (by simp only;omega)
     have hle:=pu w sV (i:=(i+j)/2-m) (j:=q) (by simp only at hqi;omega) hVk hq;exact w.ntr _ _ _ hle hxu
   ·have hij:i=j:=by have:¬(i:Int)<(j:Int):=hge;omega
    subst hij;obtain⟨V1,V2,rfl,hV1⟩:∃V1 V2,V=V1++V2∧V1.length=i-m:=⟨V.take (i-m),V.drop (i-m),(aF ..).symm,by rw[aK];omega⟩
    simp only[ac]at hlen hb;have lo1:∀x∈V1,lt x u=true:=fun x hx=>by
     obtain⟨q,hq,e⟩:=cx hx;exact hlo q x (by rw[bX hq,af hq,e]) (by omega)
    have hi1:∀x∈V2,lt x u=false:=fun x hx=>by
     obtain⟨q,hq,e⟩:=cx hx;exact hhi (V1.length+q) x (by rw[aQ (by omega),eL,af hq,e]) (by omega)
    have hst:=EL w sV lo1 hi1;have f0:A++([u]++((V1++V2)++B))=A++([]++(u::(V1++(V2++B)))):=by simp
    rw[f0]at ho';have ew:IntKind.wrap .i64 ((i:Int)-1)=((A.length+V1.length:Nat):Int):=by rw[jm (by omega)];omega
    rw[ew];refine LoopP.ghost (fun(g:List (Pr)×List (Pr)) (t:Int) h2=>t=((A.length+g.1.length:Nat):Int)∧V1=g.1++g.2∧OwnS eC 2 ag M h2 s (A++(g.1++(u::(g.2++(V2++B)))))∧Upd M h h2) (fun g=>g.2.length) ([],V1)
     ⟨by simp[ha],rfl,ho',hu⟩ ?_
    rintro I2 ⟨G1,G2⟩ t2 h2 ⟨e1,e2,ho2,hu2⟩ hI2;simp only at e1 e2 ho2;subst e1 e2;simp only[ac]at hlen hb ew⊢;refine aE (fun hlt=>?_) fun hge=>?_
    ·match G2 with
     | []=>simp only[aZ]at hlt;omega
     |g::G2=>
      simp only[ax]at hlen;have ew1:IntKind.wrap .i64 (((A.length+G1.length:Nat):Int)+1)=((A.length+G1.length+1:Nat):Int):=by rw[jm (by omega)];omega
      rw[ew1];have f1:A++(G1++(u::((g::G2)++(V2++B))))=(A++G1)++u::(g::(G2++(V2++B))):=by simp
      have f2:(A++G1)++u::(g::(G2++(V2++B)))=(A++(G1++ [u]))++g::(G2++(V2++B)):=by simp
      have f3:(A++G1)++g::(g::(G2++(V2++B)))=(A++(G1++ [g]))++g::(G2++(V2++B)):=by simp
      have f4:(A++(G1++ [g]))++u::(G2++(V2++B))=A++((G1++ [g])++(u::(G2++(V2++B)))):=by simp
      rw[f1]at ho2;have o3:=ho2;rw[f2]at o3;obtain⟨a1,ha1,hy⟩:=kE o3 (i:=A.length+G1.length+1) (by first|omega|(simp;done)|(simp;omega))
      obtain⟨a2,ha2,hx⟩:=kE ho2 (i:=A.length+G1.length) (by first|omega|(simp;done)|(simp;omega))
      rw[ha1]at ha2;cases ha2;refine⟨⟨by omega,by omega⟩,a1,ha1,g.1,hy 0 _ rfl,g.2,hy 1 _ rfl,⟨by omega,by omega⟩,a1,ha1,u.1,hx 0 _ rfl,u.2,hx 1 _ rfl,⟨by omega,by omega⟩,a1,ha1,?_⟩
      refine rz ho2 g ha1 (by first|omega|(simp;done)|(simp;omega)) fun h5 o5 k5=>⟨⟨by omega,by omega⟩,a1,ha1,?_⟩
      rw[f3]at o5;refine rz o5 u ha1 (by first|omega|(simp;done)|(simp;omega)) fun h6 o6 k6=>?_
      rw[f4]at o6;exact hI2 (G1++ [g],G2) _ _ ⟨by simp;omega,by simp,o6,(hu2.trans k5 fun b hb=>.inl hb).trans k6 fun b hb=>.inl hb⟩ (by simp)
    ·have hG:G2= []:=aH.1 (by omega)
     subst hG;simp only[aW,dM]at ho2 hst hk;refine hk h2 (G1++u::V2) ?_ hst hu2;have f1:A++((G1++u::V2)++B)=A++(G1++(u::(V2++B))):=by simp
     rw[f1];exact ho2
  refine CondP.intro (fun hone=>?_) fun hmore2=>?_
  ·have hone:V.length=1:=by have:=eq_of_beq hone;omega
   match V,hone with
   | [v],_=>
   simp only[aC]at hlen hb;refine LoopP.ghost (fun(g:Nat×Nat) (t:Int×Int) h'=>t.1=(g.1:Int)∧t.2=(g.2:Int)∧a≤g.1∧g.1≤g.2∧g.2≤m∧(∀q x,U[q]? =some x→a+q<g.1→lt v x=false)∧(∀q x,U[q]? =some x→g.2≤a+q→lt v x=true)∧OwnS eC 2 ag M h' s (A++(U++([v]++B)))∧Upd M h h') (fun g=>g.2-g.1) (a,m)
    ⟨rfl,rfl,ao _,by simp only;omega,ao _,fun q x hq h=>(by simp only at h;omega),fun q x hq h=>(by have:=(bl.1 hq).1;simp only at h;omega),ho,Upd.refl _ _⟩ ?_
   rintro I ⟨i,j⟩ ⟨ti,tj⟩ h' ⟨e1,e2,hmi,hij,hjb,hlo,hhi,ho',hu⟩ hI;simp only at e1 e2 hmi hij hjb hlo hhi;subst e1 e2;refine aE (fun hlt=>?_) fun hge=>?_
   ·have hlt:i<j:=by have:(i:Int)<(j:Int):=hlt;omega
    refine⟨by decide,?_⟩;simp only[Bd];rw[AU (by omega)];have hk1:(i+j)/2-a<U.length:=by omega
    obtain⟨a1,ha1,hx⟩:=ve ho' (i:=(i+j)/2) (x:=U[(i+j)/2-a]) (KL (k:=(i+j)/2-a) (by omega) (af hk1));have f1:A++(U++([v]++B))=(A++U)++v::B:=by simp
    have o3:=ho';rw[f1]at o3;obtain⟨a2,ha2,hy⟩:=kE o3 (i:=m) (by first|omega|(simp;done)|(simp;omega))
    rw[ha1]at ha2;cases ha2;have hVk:U[(i+j)/2-a]? =some U[(i+j)/2-a]:=af hk1;generalize U[(i+j)/2-a]=x at hx hVk;refine⟨⟨by omega,by omega⟩,a1,ha1,v.1,hy 0 _ rfl,v.2,hy 1 _ rfl,⟨by omega,by omega⟩,a1,ha1,x.1,hx 0 _ rfl,x.2,hx 1 _ rfl,?_⟩
    refine hc.call v x (hc.step hu hi) fun h5 e k5 he=>?_
    rw[he];have ho5:=ho'.upd k5 fun _ _ h=>h
    have hu5:=hu.tr k5.wide;cases hxu:lt v x with
    |false=>
     refine aw.2 ?_;have ew:IntKind.wrap .i64 ((((i+j)/2:Nat):Int)+1)=(((i+j)/2+1:Nat):Int):=by rw[jm (by omega)];omega
     rw[ew];refine hI ((i+j)/2+1,j) _ _ ⟨rfl,rfl,by simp only;omega,by simp only;omega,hjb,fun q y hq hqi=>?_,hhi,ho5,hu5⟩ (by simp only;omega)
     exact w.ntr _ _ _ hxu (pu w sU (i:=q) (j:=(i+j)/2-a) (by simp only at hqi;omega) hq hVk)
    |true=>
     refine al.2 ?_;refine hI (i,(i+j)/2) _ _ ⟨rfl,rfl,hmi,by simp only;omega,by simp only;omega,hlo,fun q y hq hqi=>?_,ho5,hu5⟩ (by simp only;omega)
     have hle:=pu w sU (i:=(i+j)/2-a) (j:=q) (by simp only at hqi;omega) hVk hq;cases hvy:lt v y with
     |true=>rfl
     |false=>rw[w.ntr _ _ _ hvy hle]at hxu;cases hxu
   ·have hij:i=j:=by have:¬(i:Int)<(j:Int):=hge;omega
    subst hij;obtain⟨U1,U2,rfl,hU1⟩:∃U1 U2,U=U1++U2∧U1.length=i-a:=⟨U.take (i-a),U.drop (i-a),(aF ..).symm,by rw[aK];omega⟩
    simp only[ac]at hlen hb hm;have lo1:∀x∈U1,lt v x=false:=fun x hx=>by
     obtain⟨q,hq,e⟩:=cx hx;exact hlo q x (by rw[bX hq,af hq,e]) (by omega)
    have hi1:∀x∈U2,lt v x=true:=fun x hx=>by
     obtain⟨q,hq,e⟩:=cx hx;exact hhi (U1.length+q) x (by rw[aQ (by omega),eL,af hq,e]) (by omega)
    have hst:=Ge w sU lo1 hi1;have f0:A++((U1++U2)++([v]++B))=A++(U1++(U2++(v::([]++B)))):=by simp
    rw[f0]at ho';refine LoopP.ghost (fun(g:List (Pr)×List (Pr)) (t:Int) h2=>t=((A.length+U1.length+g.1.length:Nat):Int)∧U2=g.1++g.2∧OwnS eC 2 ag M h2 s (A++(U1++(g.1++(v::(g.2++B)))))∧Upd M h h2) (fun g=>g.1.length) (U2,[])
     ⟨by simp only;omega,by simp,ho',hu⟩ ?_
    rintro I2 ⟨G1,G2⟩ t2 h2 ⟨e1,e2,ho2,hu2⟩ hI2;simp only at e1 e2 ho2;subst e1 e2;simp only[ac]at hlen hb hm⊢;refine aE (fun hgt=>?_) fun hle=>?_
    ·rcases Fg G1 with rfl|⟨G1',g,rfl⟩
     ·simp only[aZ]at hgt;omega
     simp only[ac,aC]at hlen hb hm hgt⊢;have ew1:IntKind.wrap .i64 (((A.length+U1.length+(G1'.length+1):Nat):Int)-1)=((A.length+U1.length+G1'.length:Nat):Int):=by rw[jm (by omega)];omega
     rw[ew1];have f1:A++(U1++((G1'++ [g])++(v::(G2++B))))=(A++(U1++(G1'++ [g])))++v::(G2++B):=by simp
     have f2:(A++(U1++(G1'++ [g])))++v::(G2++B)=(A++(U1++G1'))++g::(v::(G2++B)):=by simp
     have f3:(A++(U1++(G1'++ [g])))++g::(G2++B)=(A++(U1++G1'))++g::(g::(G2++B)):=by simp
     have f4:(A++(U1++G1'))++v::(g::(G2++B))=A++(U1++(G1'++(v::((g::G2)++B)))):=by simp
     rw[f1]at ho2;have o3:=ho2;rw[f2]at o3;obtain⟨a1,ha1,hy⟩:=kE o3 (i:=A.length+U1.length+G1'.length) (by first|omega|(simp;done)|(simp;omega))
     obtain⟨a2,ha2,hx⟩:=kE ho2 (i:=A.length+U1.length+(G1'.length+1)) (by first|omega|(simp;done)|(simp;omega))
     rw[ha1]at ha2;cases ha2;refine⟨⟨by omega,by omega⟩,a1,ha1,g.1,hy 0 _ rfl,g.2,hy 1 _ rfl,⟨by omega,by omega⟩,a1,ha1,v.1,hx 0 _ rfl,v.2,hx 1 _ rfl,⟨by omega,by omega⟩,a1,ha1,?_⟩
     refine rz ho2 g ha1 (by first|omega|(simp;done)|(simp;omega)) fun h5 o5 k5=>⟨⟨by omega,by omega⟩,a1,ha1,?_⟩
     rw[f3]at o5;refine rz o5 v ha1 (by first|omega|(simp;done)|(simp;omega)) fun h6 o6 k6=>?_
     rw[f4]at o6;exact hI2 (G1',g::G2) _ _ ⟨rfl,by simp,o6,(hu2.trans k5 fun b hb=>.inl hb).trans k6 fun b hb=>.inl hb⟩ (by simp)
    ·have hG:G1= []:=aH.1 (by omega)
     subst hG;simp only[dM]at ho2 hst hk;refine hk h2 (U1++v::G2) ?_ hst hu2;have f1:A++((U1++v::G2)++B)=A++(U1++(v::(G2++B))):=by simp
     rw[f1];exact ho2
  have hU2:2≤U.length:=by
   have:(U.length:Int)≠1:=by simpa using hmore
   omega
  have hV2:2≤V.length:=by
   have:(V.length:Int)≠1:=by simpa using hmore2
   omega
  refine⟨by decide,?_⟩;simp only[Bd];rw[AU (i:=a) (j:=b) (by omega)];obtain⟨mid,hmid⟩:∃mid,(a+b)/2=mid:=⟨_,rfl⟩;rw[hmid];have em:IntKind.wrap .i64 ((mid:Int)+(m:Int))=((mid+m:Nat):Int):=by rw[jm (by omega)];omega
  rw[em];have ep:IntKind.wrap .i64 (((mid+m:Nat):Int)-1)=((mid+m-1:Nat):Int):=by rw[jm (by omega)];omega
  rw[ep];refine Join.intro (fun t h'=>h'=h∧∃s0 r0:Nat,t=((s0:Int),(r0:Int))∧a≤s0∧s0≤r0∧r0≤m∧r0≤mid∧mid+m≤b+s0∧(r0=mid∨r0=m)∧(s0=a∨s0+b=mid+m)) (fun Rj hRj=>?_) ?_
  ·refine aE (fun hgt=>?_) fun hle=>?_
   ·have es:IntKind.wrap .i64 (((mid+m:Nat):Int)-(b:Int))=((mid+m-b:Nat):Int):=by rw[jm (by omega)];omega
    rw[es];exact hRj _ _ ⟨rfl,_,_,rfl,by omega,by omega,by omega,by omega,by omega,by omega,by omega⟩
   ·exact hRj _ _ ⟨rfl,_,_,rfl,by omega,by omega,by omega,by omega,by omega,by omega,by omega⟩
  rintro t h' ⟨rfl,s0,r0,rfl,hs0,hsr,hrm,hrd,hsb,hr0,hs00⟩;refine LoopP.ghost (fun(g:Nat×Nat) (t:Int×Int) h2=>t.1=(g.1:Int)∧t.2=(g.2:Int)∧s0≤g.1∧g.1≤g.2∧g.2≤r0∧(∀c x y,s0≤c→c<g.1→U[c-a]? =some x→V[mid-1-c]? =some y→lt y x=false)∧(∀c x y,g.2≤c→c<r0→U[c-a]? =some x→V[mid-1-c]? =some y→lt y x=true)∧OwnS eC 2 ag M h2 s (A++(U++(V++B)))∧Upd M h' h2) (fun g=>g.2-g.1) (s0,r0)
   ⟨rfl,rfl,ao _,hsr,ao _,fun c x y h1 h2=>(by simp only at h2;omega),fun c x y h1 h2=>(by simp only at h1;omega),ho,Upd.refl _ _⟩ ?_
  rintro I ⟨i,j⟩ ⟨ti,tj⟩ h2 ⟨e1,e2,hsi,hij,hjr,hlo,hhi,ho2,hu2⟩ hI;simp only at e1 e2 hsi hij hjr hlo hhi;subst e1 e2;refine aE (fun hlt=>?_) fun hge=>?_
  ·have hlt:i<j:=by have:(i:Int)<(j:Int):=hlt;omega
   refine⟨by decide,?_⟩;rw[AU (i:=i) (j:=j) (by omega)];obtain⟨c,hcc⟩:∃c,(i+j)/2=c:=⟨_,rfl⟩;rw[hcc];have hci:i≤c:=by omega
   have hcj:c<j:=by omega
   have eq:IntKind.wrap .i64 (((mid+m-1:Nat):Int)-(c:Int))=((mid+m-1-c:Nat):Int):=by rw[jm (by omega)];omega
   rw[eq];have hk1:c-a<U.length:=by omega
   have hk2:mid-1-c<V.length:=by omega
   obtain⟨a1,ha1,hx⟩:=ve ho2 (i:=c) (x:=U[c-a]) (KL (k:=c-a) (by omega) (af hk1));obtain⟨a2,ha2,hy⟩:=ve ho2 (i:=mid+m-1-c) (x:=V[mid-1-c]) (Nz (k:=mid-1-c) (by omega) (af hk2));rw[ha1]at ha2;cases ha2;have hUc:U[c-a]? =some U[c-a]:=af hk1;have hVc:V[mid-1-c]? =some V[mid-1-c]:=af hk2;generalize U[c-a]=x at hx hUc
   generalize V[mid-1-c]=y at hy hVc;refine⟨⟨by omega,by omega⟩,a1,ha1,y.1,hy 0 _ rfl,y.2,hy 1 _ rfl,⟨by omega,by omega⟩,a1,ha1,x.1,hx 0 _ rfl,x.2,hx 1 _ rfl,?_⟩
   refine hc.call y x (hc.step hu2 hi) fun h5 e k5 he=>?_
   rw[he];have ho5:=ho2.upd k5 fun _ _ h=>h
   have hu5:=hu2.tr k5.wide;cases hyx:lt y x with
   |false=>
    refine aw.2 ?_;have ew:IntKind.wrap .i64 ((c:Int)+1)=((c+1:Nat):Int):=by rw[jm (by omega)];omega
    rw[ew];refine hI (c+1,j) _ _ ⟨rfl,rfl,by simp only;omega,by simp only;omega,hjr,fun c' x' y' h1 h2 hx' hy'=>?_,hhi,ho5,hu5⟩ (by simp only;omega)
    simp only at h2;have q1:=pu w sU (i:=c'-a) (j:=c-a) (by omega) hx' hUc;have q2:=pu w sV (i:=mid-1-c) (j:=mid-1-c') (by omega) hVc hy';exact w.ntr _ _ _ (w.ntr _ _ _ q2 hyx) q1
   |true=>
    refine al.2 ?_;refine hI (i,c) _ _ ⟨rfl,rfl,hsi,hci,by simp only;omega,hlo,fun c' x' y' h1 h2 hx' hy'=>?_,ho5,hu5⟩ (by simp only;omega)
    simp only at h1;have q1:=pu w sU (i:=c-a) (j:=c'-a) (by omega) hUc hx';have q2:=pu w sV (i:=mid-1-c') (j:=mid-1-c) (by omega) hy' hVc;cases hyx':lt y' x' with
    |true=>rfl
    |false=>rw[w.ntr _ _ _ (w.ntr _ _ _ q2 hyx') q1]at hyx;cases hyx
  have hij:i=j:=by have:¬(i:Int)<(j:Int):=hge;omega
  subst hij;have en:IntKind.wrap .i64 (((mid+m:Nat):Int)-(i:Int))=((mid+m-i:Nat):Int):=by rw[jm (by omega)];omega
  simp only;rw[en];obtain⟨U1,U2,eU,hU1⟩:∃U1 U2,U=U1++U2∧U1.length=i-a:=⟨U.take (i-a),U.drop (i-a),(aF ..).symm,by rw[aK];omega⟩
  obtain⟨V1,V2,eV,hV1⟩:∃V1 V2,V=V1++V2∧V1.length=mid-i:=⟨V.take (mid-i),V.drop (mid-i),(aF ..).symm,by rw[aK];omega⟩
  have c1:∀v∈V1,∀u∈U2,lt v u=true:=fun v hv u hu=>by
   obtain⟨q,hq,e⟩:=cx hv;obtain⟨p,hp,e'⟩:=cx hu;have hlU:U.length=U1.length+U2.length:=by rw[eU,ac]
   have n1:0<U2.length:=by omega
   have n2:mid-1-i<V1.length:=by omega
   have gx:U[i-a]? =some (U2[0]'n1):=by rw[eU,aQ (by omega),←hU1,fV,af (by omega)]
   have gy:V[mid-1-i]? =some (V1[mid-1-i]'n2):=by rw[eV,bX (by omega),af (by omega)]
   have hQ:=hhi i _ _ (ao _) (by omega) gx gy;have q1:=pu w sU (i:=i-a) (j:=i-a+p) (by omega) gx (by rw[eU,aQ (by omega),←hU1,eL,af hp,e']);have q2:=pu w sV (i:=q) (j:=mid-1-i) (by omega) (by rw[eV,bX hq,af hq,e]) gy;cases hvu:lt v u with
   |true=>rfl
   |false=>rw[w.ntr _ _ _ (w.ntr _ _ _ q2 hvu) q1]at hQ;cases hQ
  have c2:∀u∈U1,∀v∈V2,lt v u=false:=fun u hu v hv=>by
   obtain⟨p,hp,e'⟩:=cx hu;obtain⟨q,hq,e⟩:=cx hv;have hlV:V.length=V1.length+V2.length:=by rw[eV,ac]
   have n1:i-1-a<U1.length:=by omega
   have n2:0<V2.length:=by omega
   have gx:U[i-1-a]? =some (U1[i-1-a]'n1):=by rw[eU,bX (by omega),af (by omega)]
   have gy:V[mid-1-(i-1)]? =some (V2[0]'n2):=by rw[eV,aQ (by omega),show mid-1-(i-1)-V1.length=0 by omega,af (by omega)]
   have hQ:=hlo (i-1) _ _ (by omega) (by omega) gx gy;have q1:=pu w sU (i:=p) (j:=i-1-a) (by omega) (by rw[eU,bX hp,af hp,e']) gx;have q2:=pu w sV (i:=mid-i) (j:=mid-i+q) (by omega) (by rw[eV,aQ (by omega),hV1,fV,af (by omega)]) (by rw[eV,aQ (by omega),hV1,eL,af hq,e])
   have gy2:V[mid-i]? =some (V2[0]'n2):=by rw[eV,aQ (by omega),hV1,fV,af (by omega)]
   exact w.ntr _ _ _ (w.ntr _ _ _ q2 hQ) q1
  subst eU eV;simp only[ac]at hlen hU hV hl hm hb hU2 hV2;have sA1:=sU.left;have sA2:=sU.right;have sB1:=sV.left;have sB2:=sV.right;refine Join.intro (fun _ h3=>OwnS eC 2 ag M h3 s (A++(U1++(V1++(U2++(V2++B)))))∧Upd M h' h3) (fun Rj hRj=>?_) ?_
  ·have f1:A++((U1++U2)++((V1++V2)++B))=(A++U1)++(U2++(V1++(V2++B))):=by simp
   have f2:(A++U1)++(V1++(U2++(V2++B)))=A++(U1++(V1++(U2++(V2++B)))):=by simp
   refine Join.intro (fun t h3=>h3=h2∧(t=true↔0<U2.length∧0<V1.length)) (fun Rk hRk=>?_) ?_
   ·refine aE (fun h=>hRk _ _ ⟨rfl,?_⟩) fun h=>hRk _ _ ⟨rfl,⟨fun h=>(by cases h),fun h=>(by omega)⟩⟩
    rw[decide_eq_true_iff];constructor
    ·intro h;constructor<;>omega
    ·rintro⟨h1,h2⟩;omega
   ·rintro t h3 ⟨rfl,ht⟩
    cases t with
    |true=>
     obtain⟨p1,p2⟩:=ht.1 rfl;rw[f1]at ho2;refine aw.2 (Ig ho2 hn p1 p2 (by rw[ac];omega) (by rw[ac];omega) (by rw[ac];omega) fun h4 o4 k4=>hRj _ _ ⟨?_,hu2.trans k4 fun b hb=>.inl hb⟩)
     rw[f2]at o4;exact o4
    |false=>
     have hz:U2= []∨V1= []:=by
      rcases eh U2.length with h|h
      ·exact .inl (aH.1 h)
      ·rcases eh V1.length with h3|h3
       ·exact .inr (aH.1 h3)
       ·have:=ht.2 ⟨h,h3⟩;cases this
     refine al.2 (hRj _ _ ⟨?_,hu2⟩);rw[f1]at ho2;rw[←f2];rcases hz with rfl|rfl
     ·exact ho2
     ·exact ho2
  rintro _ h3 ⟨o3,k3⟩;refine Join.intro (fun _ h4=>∃R1,OwnS eC 2 ag M h4 s (A++(R1++(U2++(V2++B))))∧St lt (U1++V1) R1∧Upd M h' h4) (fun Rj hRj=>?_) ?_
  ·refine Join.intro (fun t h4=>h4=h3∧(t=true↔0<U1.length∧0<V1.length)) (fun Rk hRk=>?_) ?_
   ·refine aE (fun h=>hRk _ _ ⟨rfl,?_⟩) fun h=>hRk _ _ ⟨rfl,⟨fun h=>(by cases h),fun h=>(by omega)⟩⟩
    rw[decide_eq_true_iff];constructor
    ·intro h;constructor<;>omega
    ·rintro⟨h1,h2⟩;omega
   ·rintro t h4 ⟨rfl,ht⟩
    cases t with
    |true=>
     obtain⟨p1,p2⟩:=ht.1 rfl;refine aw.2 (ih (by omega) o3 (hc.step k3 hi) p1 p2 sA1 sB1 ha (by omega) (by omega) fun h5 R1 o5 s5 k5=>hRj _ _ ⟨R1,o5,s5,k3.trans k5 fun b hb=>.inl hb⟩)
    |false=>
     refine al.2 (hRj _ _ ⟨U1++V1,by simpa using o3,⟨Eqf.rfl _,?_⟩,k3⟩)
     rcases eh U1.length with h|h
     ·rw[aH.1 h];exact sB1
     ·rcases eh V1.length with h5|h5
      ·rw[aH.1 h5,aW];exact sA1
      ·have:=ht.2 ⟨h,h5⟩;cases this
  rintro _ h4 ⟨R1,o4,s1,k4⟩;have hR1:=s1.eqf.len;rw[ac]at hR1;have fin:∀{h5:ad} {R2:List (Pr)},OwnS eC 2 ag M h5 s (A++(R1++(R2++B)))→St lt (U2++V2) R2→Upd M h' h5→K () h5:=fun{h5 R2} o5 s2 k5=>by
   refine hk h5 (R1++R2) ?_ (Ln w sU sV c1 c2 s1 s2) k5;rw[aq];exact o5
  refine Join.intro (fun t h5=>h5=h4∧(t=true↔0<U2.length∧0<V2.length)) (fun Rk hRk=>?_) ?_
  ·refine aE (fun h=>hRk _ _ ⟨rfl,?_⟩) fun h=>hRk _ _ ⟨rfl,⟨fun h=>(by cases h),fun h=>(by omega)⟩⟩
   rw[decide_eq_true_iff];constructor
   ·intro h;constructor<;>omega
   ·rintro⟨h1,h2⟩;omega
  ·rintro t h5 ⟨rfl,ht⟩
   have f1:A++(R1++(U2++(V2++B)))=(A++R1)++(U2++(V2++B)):=by simp
   cases t with
   |true=>
    obtain⟨p1,p2⟩:=ht.1 rfl;rw[f1]at o4;refine aw.2 (ih (by omega) o4 (hc.step k4 hi) p1 p2 sA2 sB2 (by rw[ac];omega) (by rw[ac];omega) (by rw[ac];omega) fun h6 R2 o6 s6 k6=>fin (R2:=R2) ?_ s6 (k4.trans k6 fun b hb=>.inl hb))
    rw[aq]at o6;exact o6
   |false=>
    refine al.2 (fin (R2:=U2++V2) (by simpa using o4) ⟨Eqf.rfl _,?_⟩ k4);rcases eh U2.length with h|h
    ·rw[aH.1 h];exact sB2
    ·rcases eh V2.length with h6|h6
     ·rw[aH.1 h6,aW];exact sA2
     ·have:=ht.2 ⟨h,h6⟩;cases this
theorem H3{lt:Pr→Pr→Bool}(w:WO lt){M:Nat→Prop}{Iv:ad→Prop}{cmp:Value}(hc:Cmp lt eC M Iv cmp){h:ad}{s:SliceV}{xs:List (Pr)}(ho:OwnS eC 2 ag M h s xs)(hi:Iv h)(hn:xs.length≤100000000){K:Unit→ad→Prop}
  (hk:∀h' R,OwnS eC 2 ag M h' s R→St lt xs R→Upd M h h'→K () h'):HC PG cP [.slice s.a s.len s.cap,cmp] [] K h:=by
 refine jo s cmp ?_;unfold fB;refine nN s (s.len:Int) cmp ?_;unfold ja;have hlen:=ho.len;have hns:s.len≤1000000000:=by omega
 refine LoopP.ghost (fun(g:List (Pr)×List (Pr)×List (Pr)) (t:Int×Int) h'=>t.1=(g.2.1.length:Int)∧t.2=((g.2.1.length+20:Nat):Int)∧xs=g.1++g.2.2∧Eqf lt g.1 g.2.1∧Full lt 20 g.2.1∧OwnS eC 2 ag M h' s (g.2.1++g.2.2)∧Upd M h h') (fun g=>g.2.2.length) ([],[],xs)
  ⟨rfl,rfl,rfl,Eqf.rfl _,Full.nil,ho,Upd.refl _ _⟩ ?_
 rintro I ⟨X,D,T⟩ ⟨ta,tb⟩ h1 ⟨e1,e2,e3,hq,hf,o1,k1⟩ hI;simp only at e1 e2 e3 hq hf o1;subst e1 e2 e3;have hXD:=hq.len;simp only[ac]at hlen hn;refine aE (fun hle=>?_) fun hgt=>?_
 ·obtain⟨S,T',rfl,hS⟩:∃S T',T=S++T'∧S.length=20:=⟨T.take 20,T.drop 20,(aF ..).symm,by rw[aK];omega⟩
  refine zQ w hc o1 (hc.step k1 hi) hns rfl (b:=D.length+20) (by omega) fun h2 R o2 s2 k2=>?_
  have hR:=s2.eqf.len;simp only[ac]at hlen hn;have ew:IntKind.wrap .i64 (((D.length+20:Nat):Int)+20)=(((D++R).length+20:Nat):Int):=by rw[ac,jm (by omega)];omega
  rw[ew];refine hI (X++S,D++R,T') _ _ ⟨by simp only[ac];omega,rfl,by simp,hq.app s2.eqf,hf.app (by omega) s2.srt,by rw[aq];exact o2,k1.trans k2 fun b hb=>.inl hb⟩ (by simp only[ac];omega)
 have f1:D++T=D++(T++ []):=by simp
 rw[f1]at o1;refine zQ w hc o1 (hc.step k1 hi) hns rfl (b:=s.len) (by omega) fun h2 R o2 s2 k2=>?_
 have hR:=s2.eqf.len;rw[aW]at o2;have hq0:Eqf lt (X++T) (D++R):=hq.app s2.eqf;have hr0:Runs lt 20 (D++R):=hf R (.last R (by omega) s2.srt);have k2:Upd M h h2:=k1.trans k2 fun b hb=>.inl hb
 generalize D++R=ys at o2 hq0 hr0;generalize X++T=zs at hq0 hk;have hly:s.len=ys.length:=o2.len;clear hI hq hf o1 f1 hgt hR;refine LoopP.ghost (fun(g:Nat×List (Pr)) (t:Int) h'=>t=(g.1:Int)∧0<g.1∧g.1≤200000000∧Runs lt g.1 g.2∧Eqf lt zs g.2∧OwnS eC 2 ag M h' s g.2∧Upd M h h') (fun g=>s.len-g.1) (20,ys)
  ⟨rfl,by simp,by simp,hr0,hq0,o2,k2⟩ ?_
 rintro I2 ⟨bs,ys⟩ t h3 ⟨e1,hb0,hb1,hr,hqz,o3,k3⟩ hI2;simp only at e1 hb0 hb1 hr hqz o3;subst e1;have hly:s.len=ys.length:=o3.len;refine aE (fun hlt=>?_) fun hge=>?_
 ·have hlt:bs<s.len:=by omega
  have e0:IntKind.wrap .i64 (2*(bs:Int))=((2*bs:Nat):Int):=by rw[jm (by omega)];omega
  rw[e0];refine LoopP.ghost (fun(g:List (Pr)×List (Pr)×List (Pr)) (t:Int×Int) h'=>t.1=(g.2.1.length:Int)∧t.2=((g.2.1.length+2*bs:Nat):Int)∧ys=g.1++g.2.2∧Eqf lt g.1 g.2.1∧Full lt (2*bs) g.2.1∧Runs lt bs g.2.2∧OwnS eC 2 ag M h' s (g.2.1++g.2.2)∧Upd M h h') (fun g=>g.2.2.length) ([],[],ys)
   ⟨rfl,by simp,rfl,Eqf.rfl _,Full.nil,hr,o3,k3⟩ ?_
  rintro I3 ⟨Y,D,T⟩ ⟨ta,tb⟩ h4 ⟨e1,e2,e3,hq,hf,hrT,o4,k4⟩ hI3;simp only at e1 e2 e3 hq hf hrT o4;subst e1 e2 e3;have hYD:=hq.len;simp only[ac]at hly;have ea:IntKind.wrap .i64 ((D.length:Int)+(bs:Int))=((D.length+bs:Nat):Int):=by rw[jm (by omega)];omega
  simp only;rw[ea];refine aE (fun hle=>?_) fun hgt=>?_
  ·obtain⟨B1,T1,rfl,hB1,sB1,hr1⟩:=hrT.split (by omega)
   simp only[ac]at hly;obtain⟨B2,T2,rfl,hB2,sB2,hr2⟩:=hr1.split (by omega);simp only[ac]at hly;refine xz w hc hns (B1.length+B2.length) (ao _) o4 (hc.step k4 hi) (by omega) (by omega) sB1 sB2 rfl (by omega) (by omega) fun h5 R o5 s5 k5=>?_
   have hR:=s5.eqf.len;rw[ac]at hR;have ew:IntKind.wrap .i64 (((D.length+2*bs:Nat):Int)+((2*bs:Nat):Int))=(((D++R).length+2*bs:Nat):Int):=by rw[ac,jm (by omega)];omega
   rw[ew];refine hI3 (Y++(B1++B2),D++R,T2) _ _ ⟨by simp only[ac];omega,rfl,by simp,hq.app s5.eqf,hf.app (by omega) s5.srt,hr2,by rw[aq];exact o5,k4.trans k5 fun b hb=>.inl hb⟩ (by simp only[ac];omega)
  ·refine Join.intro (fun _ h5=>∃R,Eqf lt T R∧Runs lt (2*bs) R∧OwnS eC 2 ag M h5 s (D++R)∧Upd M h h5) (fun Rj hRj=>?_) ?_
   ·refine aE (fun hmn=>?_) fun hmn=>?_
    ·obtain⟨B1,T1,rfl,hB1,sB1,hr1⟩:=hrT.split (by omega)
     simp only[ac]at hly;have f1:D++(B1++T1)=D++(B1++(T1++ [])):=by simp
     rw[f1]at o4;refine xz w hc hns (B1.length+T1.length) (ao _) o4 (hc.step k4 hi) (by omega) (by omega) sB1 (hr1.short (by omega)) rfl (by omega) (by omega) fun h5 R o5 s5 k5=>?_
     have hR:=s5.eqf.len;rw[ac]at hR;rw[aW]at o5;exact hRj _ _ ⟨R,s5.eqf,.last R (by omega) s5.srt,o5,k4.trans k5 fun b hb=>.inl hb⟩
    ·exact hRj _ _ ⟨T,Eqf.rfl _,.last T (by omega) (hrT.short (by omega)),o4,k4⟩
   ·rintro _ h5 ⟨R,q5,r5,o5,k5⟩
    have ew:IntKind.wrap .i64 ((bs:Int)*2)=((2*bs:Nat):Int):=by rw[jm (by omega)];omega
    rw[ew];exact hI2 (2*bs,D++R) _ _ ⟨rfl,by simp only;omega,by simp only;omega,hf R r5,hqz.tr (hq.app q5),o5,k5⟩ (by simp only;omega)
 ·exact hk h3 ys o3 ⟨hqz,hr.short (by omega)⟩ k3
end Go.Proofs
namespace Go.Proofs
open Go Go.Lift
variable {z0:Hs}
end Go.Proofs
namespace Go.Proofs
open Go Go.Lift
def StP(N:Nat):Prop:=∀{lt:Pr→Pr→Bool},WO lt→∀{M:Nat→Prop} {Iv:ad→Prop} {cmp:Value},Cmp lt eC M Iv cmp→∀{h:ad} {s:SliceV} {xs:List Pr},OwnS eC 2 ag M h s xs→Iv h→xs.length≤N→∀{K:Unit→ad→Prop},
 (∀h' R,OwnS eC 2 ag M h' s R→St lt xs R→Upd M h h'→K () h')→HC PG cP [.slice s.a s.len s.cap,cmp] [] K h
theorem stP:StP 100000000:=fun w _ _ _ hc _ _ _ ho hi hn _ hk=>H3 w hc ho hi hn hk
end Go.Proofs
namespace Go.Proofs
open Go Go.Lift
def O2(a b:Pr):Bool:=decide (kl a.1 b.1)
theorem Qg:WO O2:=by
 refine⟨fun a=>decide_eq_false (db _),fun a b h=>decide_eq_false fun k=>db _ (iZ (of_decide_eq_true h) k),fun a b c h k=>decide_eq_false fun hk=>?_⟩
 have h:=of_decide_eq_false h;have k:=of_decide_eq_false k;by_cases e:b.1=c.1
 ·rw[←e]at hk;exact h hk
 ·have k2:=rA k e
  exact h (iZ hk k2)
theorem Pi(x a:Pr):HK O2 x a=decide (a.1=x.1):=by
 unfold HK O2;by_cases e:a.1=x.1
 ·rw[decide_eq_true e,e,decide_eq_false (db _)];rfl
 ·rw[decide_eq_false e]
  by_cases h:kl a.1 x.1
  ·rw[decide_eq_true h];rfl
  ·rw[decide_eq_false h,decide_eq_true (rA h e)];rfl
def jn(l:List Pr)(k:ByteArray):Option Pr:=(l.filter fun q=>decide (q.1=k)).getLast?
theorem qh(q:Pr)(l:List Pr)(k:ByteArray):jn (q::l) k=if q.1=k then some ((jn l k).getD q)else jn l k:=by
 unfold jn;rw[List.filter_cons];by_cases h:q.1=k
 ·rw[if_pos (decide_eq_true h),if_pos h,List.getLast?_cons]
 ·rw[if_neg (by simpa using h),if_neg h]
theorem LP{l:List Pr}{k:ByteArray}{p:Pr}(h:jn l k=some p):p.1=k:=by
 unfold jn at h;have:=gI h;exact of_decide_eq_true (ey.1 this).2
theorem D2{l:List Pr}{k:ByteArray}{p:Pr}(h:jn l k=some p):p∈l:=by
 unfold jn at h;exact(ey.1 (gI h)).1
theorem IM{l:List Pr}{k:ByteArray}(h:∀q∈l,q.1≠k):jn l k=none:=by
 unfold jn;rw[List.filter_eq_nil_iff.2 fun q hq=>by simpa using h q hq];rfl
theorem NG{l l':List Pr}(h:Eqf O2 l l')(k:ByteArray):jn l' k=jn l k:=by
 unfold jn;have:=h.flt (k,k);have e:∀m:List Pr,m.filter (HK O2 (k,k))=m.filter fun q=>decide (q.1=k):=fun m=>List.filter_congr fun q _=>Pi (k,k) q
 rw[e,e]at this;rw[this]
def Gf(l:List Pr):List Pr:=l.foldl (fun acc p=>gD p acc) []
theorem yZ:∀(l:List Pr) {acc:List Pr},dD acc→dD (l.foldl (fun acc p=>gD p acc) acc)∧∀p,p∈l.foldl (fun acc p=>gD p acc) acc↔jn l p.1=some p∨(jn l p.1=none∧p∈acc)
 | [],acc,hr=>⟨hr,fun p=>by simp[jn]⟩
 |q::l,acc,hr=>by
  obtain⟨h1,h2⟩:=yZ l (yQ q hr);refine⟨h1,fun p=>?_⟩
  rw[List.foldl_cons,h2 p,qh,pf hr];by_cases e:q.1=p.1
  ·rw[if_pos e]
   cases hl:jn l p.1 with
   |none=>
    simp only[Option.getD_none,Option.some.injEq,reduceCtorEq,false_or,false_and,or_false];constructor
    ·rintro⟨_,rfl|⟨_,h⟩⟩
     ·rfl
     ·exact absurd e.symm h
    ·rintro rfl;exact⟨trivial,.inl rfl⟩
   |some r=>simp
  ·rw[if_neg e]
   constructor
   ·rintro(h|⟨h,rfl|⟨h3,_⟩⟩)
    ·exact .inl h
    ·exact absurd rfl e
    ·exact .inr ⟨h,h3⟩
   ·rintro(h|⟨h,h3⟩)
    ·exact .inl h
    ·exact .inr ⟨h,.inr ⟨h3,fun e2=>e e2.symm⟩⟩
theorem DD(l:List Pr):dD (Gf l):=(yZ l cE).1
theorem KA{l:List Pr}{p:Pr}:p∈Gf l↔jn l p.1=some p:=by
 have:=(yZ l (acc:= []) cE).2 p;unfold Gf;rw[this];simp
def kr:List Pr→List Pr
 | []=> []
 | [p]=> [p]
 |p::q::l=>if q.1=p.1 then kr (q::l)else p::kr (q::l)
theorem pg(p q:Pr)(l:List Pr):kr (p::q::l)=if q.1=p.1 then kr (q::l)else p::kr (q::l):=rfl
theorem wE:∀(l:List Pr),∀p∈kr l,p∈l
 | [],p,h=>h
 | [q],p,h=>h
 |q::r::l,p,h=>by
  rw[pg]at h;split at h
  ·exact aL _ (wE (r::l) p h)
  ·rcases aA.1 h with rfl|h
   ·exact ar ..
   ·exact aL _ (wE (r::l) p h)
theorem D1:∀{l:List Pr},Srt O2 l→dD (kr l)∧∀p,p∈kr l↔jn l p.1=some p
 | [],_=>⟨cE,fun p=>by simp[kr,jn]⟩
 | [q],_=>⟨List.pairwise_singleton ..,fun p=>by
   show p∈[q]↔_
   rw[aB,qh]
   by_cases e:q.1=p.1
   ·rw[if_pos e];simp[jn,eq_comm]
   ·rw[if_neg e];simp only[jn,List.filter_nil,List.getLast?_nil,reduceCtorEq,iff_false]
    rintro rfl;exact e rfl⟩
 |p::q::l,hs=>by
  have hs':=aX.1 hs;obtain⟨h1,h2⟩:=D1 (l:=q::l) hs'.2;rw[pg];by_cases e:q.1=p.1
  ·rw[if_pos e]
   refine⟨h1,fun r=>?_⟩
   rw[h2 r,qh p];by_cases e2:p.1=r.1
   ·rw[if_pos e2]
    have:jn (q::l) r.1≠none:=by
     rw[qh,if_pos (e.trans e2)];simp
    cases hl:jn (q::l) r.1 with
    |none=>exact absurd hl this
    |some z=>simp
   ·rw[if_neg e2]
  ·rw[if_neg e]
   have hlt:∀r∈q::l,kl p.1 r.1:=fun r hr=>by
    have hpq:kl p.1 q.1:=by
     have:=of_decide_eq_false (hs'.1 q (ar ..));exact rA this e
    rcases aA.1 hr with rfl|hr
    ·exact hpq
    ·have:=of_decide_eq_false ((aX.1 hs'.2).1 r hr)
     by_cases e2:r.1=q.1
     ·rw[e2];exact hpq
     ·exact iZ hpq (rA this e2)
   refine⟨aX.2 ⟨fun r hr=>hlt r (wE _ r hr),h1⟩,fun r=>?_⟩
   rw[aA,h2 r,qh p];by_cases e2:p.1=r.1
   ·rw[if_pos e2]
    have hn:jn (q::l) r.1=none:=IM fun z hz ez=>by
     have:=hlt z hz;rw[ez,e2]at this;exact db _ this
    rw[hn];simp[eq_comm]
   ·rw[if_neg e2]
    constructor
    ·rintro(rfl|h)
     ·exact absurd rfl e2
     ·exact h
    ·exact .inr
theorem IL{l ys:List Pr}(h:St O2 l ys):kr ys=Gf l:=by
 obtain⟨h1,h2⟩:=D1 h.srt;refine u6 h1 (DD l) fun p=>?_
 rw[h2 p,KA,NG h.eqf]
theorem Q8(M:Nat→Prop):Cmp O2 eC M (fun _=>True) (.func (.func pC) #[] #[]):=by
 refine⟨fun a b h K _ hk=>HV.mk' (Ay a b ?_),fun _ h=>h⟩
 unfold tT o9 cy av sP;refine aG fun h1 b1 k1=>aG fun h2 b2 k2=>?_
 have c1:=k2.get0 b1;refine⟨a.1,vc c1 0,a.2,vc c1 1,b.1,vc b2 0,?_⟩;refine GD fun h3 k3=>hk h3 _ ((k1.tr k2).tr k3) ?_
 unfold Fl O2;split
 ·rename_i h;rw[decide_eq_true h];rfl
 ·rename_i h
  rw[decide_eq_false h];split<;>rfl
theorem BO:∀(l:List Pr),(kr l).length≤l.length
 | []=>ao _
 | [_]=>ao _
 |p::q::l=>by
  rw[pg];have:=BO (q::l);split
  ·simp only[ax]at this⊢;omega
  ·simp only[ax]at this⊢;omega
theorem Nm{h:ad}{t:TypeId}{p:Pr}{k:ad→Prop}(hk:∀h',h'[h.size]? =some (.cells #[.string p.1,.string p.2] t (0,0))→Upd No h h'→k h'):
 At (hnew h [.string (⟨#[]⟩:ByteArray),.string (⟨#[]⟩:ByteArray)] t) (fun h1=>uc h1 (some (az h)) 0 [.string p.1,.string p.2]∧At (jA h1 (az h) 0 [.string p.1,.string p.2]) k):=pN (p:=p) hk
theorem H5{N:Nat}(st:StP N)(hN:N≤100000000){W W':Nat→Prop}{h:ad}{s:SliceV}{l:List Pr}(hs:Sl eC 2 W h s l)(hW':∀y,W' y→y<h.size)(hn:l.length≤N){K:SliceV→ad→Prop}
  (hk:∀s' h',Sl eC 2 W' h' s' (Gf l)→s'.len≤s'.cap→Upd No h h'→K s' h'):HC PG oY [.slice s.a s.len s.cap] [.c .slice] K h:=by
 refine Dn s ?_;unfold we cf dd nv jx bC av kU rt;refine vo hs (by omega) fun s1 h1 ho1 hu1=>?_
 refine st Qg (Q8 _) ho1 trivial (by omega) fun h2 ys ho2 hst hu2=>?_
 have hyl:=hst.eqf.len;have hu02:Upd No h h2:=hu1.trans hu2 fun x hx=>.inr hx
 have hlen:=ho2.len;have hlast:=IL hst;have z1:=hu1.size;have hll:=BO ys;refine LoopP.ghost (fun(g:List Pr×List Pr×List Pr) (t:Int×Int) h'=>t.1=(g.1.length:Int)∧t.2=((g.1.length+g.2.1.length:Nat):Int)∧g.1++kr g.2.2=kr ys∧g.1.length+g.2.1.length+g.2.2.length=ys.length∧OwnS eC 2 ag (fun b=>h.size≤b) h' s1 (g.1++(g.2.1++g.2.2))∧Upd No h h') (fun g=>g.2.2.length) ([],[],ys)
  ⟨rfl,rfl,rfl,by simp,ho2,hu02⟩ ?_
 rintro I ⟨R,G,T⟩ ⟨tn,ti⟩ h3 ⟨e1,e2,hl3,hc3,ho3,hu3⟩ hI;simp only at e1 e2 hl3 hc3 ho3;subst e1 e2;refine aE (fun hlt=>?_) fun hge=>?_
 ·match T with
  | []=>simp only[aZ]at hc3;omega
  |p::T=>
   simp only[ax]at hc3;have ew:IntKind.wrap .i64 (((R.length+G.length:Nat):Int)+1)=((R.length+G.length+1:Nat):Int):=by rw[jm (by omega)];omega
   simp only;rw[ew];refine Join.intro (fun n' h'=>∃R' G',n'=(R'.length:Int)∧R'.length+G'.length=R.length+G.length+1∧R'++kr T=kr ys∧OwnS eC 2 ag (fun b=>h.size≤b) h' s1 (R'++(G'++T))∧Upd No h h') (fun Rj hRj=>?_) ?_
   ·obtain⟨a,ha,hv⟩:=ve ho3 (i:=R.length+G.length) (x:=p) (by rw[aQ (by omega),eL,aQ (ao _),fV];rfl)
    refine⟨⟨by omega,by omega⟩,a,ha,p.1,hv 0 _ rfl,p.2,hv 1 _ rfl,?_⟩
    refine Nm (p:=p) fun h4 b4 k4=>?_
    have ho4:=ho3.upd k4 fun _ _ h=>h
    have hu4:=hu3.tr k4;refine Join.intro (fun t h'=>h'=h4∧(t=true↔∃q T',T=q::T'∧q.1=p.1)) (fun Rk hRk=>?_) ?_
    ·refine aE (fun hlt2=>?_) fun hge2=>hRk _ _ ⟨rfl,⟨fun h=>(by cases h),fun⟨q,T',e,_⟩=>(by subst e;simp only[ax]at hc3;omega)⟩⟩
     rcases T with _|⟨q,T⟩
     ·simp only[aZ]at hc3;omega
     ·obtain⟨a',ha',hv'⟩:=ve ho4 (i:=R.length+G.length+1) (x:=q) (by rw[aQ (by omega),show R.length+G.length+1-R.length=G.length+1 by omega,aQ (by omega),eL];rfl)
      refine⟨⟨by omega,by omega⟩,a',ha',q.1,hv' 0 _ rfl,p.1,vc b4 0,hRk _ _ ⟨rfl,?_⟩⟩
      rw[mB,decide_eq_true_iff];exact⟨fun e=>⟨q,T,rfl,e⟩,fun⟨q',T',e,e'⟩=>by cases e;exact e'⟩
    ·rintro t h5 ⟨rfl,ht⟩
     ·cases t with
      |true=>
       obtain⟨q,T',rfl,eq⟩:=ht.1 rfl;refine aw.2 (hRj _ _ ⟨R,G++ [p],rfl,by simp;omega,?_,by simpa using ho4,hu4⟩)
       rw[←hl3,pg,if_pos eq]
      |false=>
       have hT:kr (p::T)=p::kr T:=by
        rcases T with _|⟨q,T'⟩
        ·rfl
        ·rw[pg,if_neg fun e=>by have:=ht.2 ⟨q,T',rfl,e⟩;cases this]
       refine al.2 ⟨p.1,vc b4 0,p.2,vc b4 1,⟨by omega,by omega⟩,a,ha,?_⟩
       have ew2:IntKind.wrap .i64 ((R.length:Int)+1)=((R++ [p]).length:Int):=by rw[ac,aC,jm (by omega)];omega
       rw[ew2];rcases G with _|⟨g,G⟩
       ·rw[dM]at ho4
        refine rz ho4 p ha (by simp) fun h6 o6 k6=>hRj _ _ ⟨R++ [p],[],rfl,by simp,?_,by simpa using o6,hu4.trans k6 fun b hb=>.inr hb⟩
        rw[←hl3,hT];simp
       ·have f1:R++((g::G)++p::T)=R++g::(G++p::T):=by simp
        rw[f1]at ho4;refine rz ho4 p ha (by simp) fun h6 o6 k6=>hRj _ _ ⟨R++ [p],G++ [p],rfl,by simp;omega,?_,by simpa using o6,hu4.trans k6 fun b hb=>.inr hb⟩
        rw[←hl3,hT];simp
   ·rintro n' h6 ⟨R',G',rfl,hc6,hl6,ho6,hu6⟩
    exact hI (R',G',T) _ _ ⟨rfl,by simp only;rw[hc6],hl6,by simp only;omega,ho6,hu6⟩ (by simp)
 ·have hT:T= []:=aH.1 (by omega)
  subst hT;simp only[aZ]at hc3;simp only[kr,aW]at hl3 ho3;have hcap:=ho3.cap;refine⟨⟨by simp only;omega,by simp only;omega⟩,?_⟩
  have hsl:=ho3.sl (W:=W') fun x hx _ hw=>by have:=hW' x hw;omega
  have hA:=Sl.sub hsl (l:=0) (hi:=R.length) (m:=s1.cap) (c:=s1.cap-0) (aR _) (by simp) (by omega);have e2:((R++G).drop 0).take (R.length-0)=Gf l:=by rw[List.drop_zero,Nat.sub_zero,List.take_left];exact hl3.trans hlast
  rw[e2]at hA;exact hk _ _ hA (by simp only;omega) hu3
theorem Lo{W W':Nat→Prop}{h:ad}{s:SliceV}{l:List Pr}(hs:Sl eC 2 W h s l)(hW':∀y,W' y→y<h.size)(hn:l.length≤10000000){K:SliceV→ad→Prop}
 (hk:∀s' h',Sl eC 2 W' h' s' (Gf l)→s'.len≤s'.cap→Upd No h h'→K s' h'):HC PG oY [.slice s.a s.len s.cap] [.c .slice] K h:=H5 stP (ao _) hs hW' (by omega) hk
end Go.Proofs
