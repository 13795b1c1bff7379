/- A part of the proof that the named laws of this program answer true, whatever the input. -/
import Derived.Test.YtncppacbfagpgaaGreatDoorPart5
import Derived.Test.YtncppacbfagpgaaGreatDoorPart3
import Derived.Test.YtncppacbfagpgaaGreatDoorPart0
import Derived.Test.YtncppacbfagpgaaGreatDoorPart4
open Array renaming size→bO
open BitVec renaming ofInt→af,ofInt_natCast→ey,toNat_ofNat→mu
open List renaming length_map→cg,map_append→cr,length_append→ac,length_singleton→aw,getElem?_append_right→ax,mem_singleton→aJ,length→dX,append_assoc→ao,foldl_cons→ik,mem_cons→az,getElem?_eq_getElem→ae,pairwise_iff_getElem→fF,sum_append→ii,flatten_append→dI,map_cons→di,sum_cons→jQ,getElem_mem→bN,take_succ_eq_append_getElem→aX
open Nat renaming le_refl→ag,sub_self→cO,le_of_eq→fU,lt_of_lt_of_le→bH,zero_le→aK,lt_or_ge→cf,add_zero→cQ,le_trans→bh,testBit_zero→i4,testBit_succ→fO,eq_zero_or_pos→ce,zero_testBit→gV,eq_of_testBit_eq→iC,testBit_and→gn,mod_eq_of_lt→de,zero_add→aR
namespace Go.Proofs
open Go Go.Lift
theorem Cur.upd{W C M:Nat→Prop}{h h':ad}{cb:Nat}{items:List It}(c:Cur W h cb C items)(k:Upd M h h')(hW:∀b,M b→W b∨h.size≤b)(hCm:∀b,C b→b<h.size→¬M b)(hcb:¬M cb):Cur W h' cb C items:=by
 obtain⟨s,h1,h2⟩:=c.ex;exact⟨⟨s,k.get h1 hcb,(h2.within.upd k fun b hb=>hCm b hb.1 hb.2).more fun b hb=>hb.1⟩,fun i hi=>(c.ok i hi).updM k hW⟩
theorem Cur.sub{W C C':Nat→Prop}{h:ad}{cb:Nat}{items:List It}(c:Cur W h cb C items)(hs:∀b,C b→b<h.size→C' b):Cur W h cb C' items:=by
 obtain⟨s,h1,h2⟩:=c.ex;exact⟨⟨s,h1,h2.within.more fun b hb=>hs b hb.1 hb.2⟩,c.ok⟩
set_option maxHeartbeats 1000000 in
theorem NW{W C:Nat→Prop}{h:ad}{cb:Nat}{items:List It}(cur:Cur W h cb C items)(hC:∀b,h.size≤b→C b)(hCW:∀b,C b→W b)(hcbW:W cb)(hcb:¬C cb)(hcost:jl items≤100000000){K:(ByteArray×ByteArray)×Bool→ad→Prop}
  (hn:∀h',rE items= []→Upd (fun b=>C b∨b=cb) h h'→K (((⟨#[]⟩:ByteArray),(⟨#[]⟩:ByteArray)),false) h')
  (hs:∀h' items' k v R,rE items=(k,v)::R→rE items'=R→jl items'≤jl items→Cur W h' cb C items'→Upd (fun b=>C b∨b=cb) h h'→K ((⟨k.toArray⟩,v),true) h'):
  HC PG ml [.pointer (some ⟨cb,0,none⟩)] [.agg [.str,.str],.c .bool] K h:=by
 refine vT (some ⟨cb,0,none⟩) ?_;unfold pR bR cn bD hJ jm aL aF d6 im Ks hH bU nr Ou Ca GQ PL;refine aQ fun h1 b1 k1=>aj.2 ?_
 have z1:=bw b1;obtain⟨s0,hc0,_⟩:=cur.ex;have zc:=bw hc0;have s1:=k1.size;have hC1:∀b,h1.size≤b→C b∧b≠h.size:=fun b hb=>⟨hC b (by omega),by omega⟩
 have cur1:Cur W h1 cb (fun b=>C b∧b≠h.size) items:=(cur.sub fun b hb hlt=>(⟨hb,by omega⟩:C b∧b≠h.size)).upd k1 (fun _ h=>h.elim) (fun _ _ _ h=>h) fun h=>h
 refine LoopP.ghost (fun(its:List It) (_:Unit) h'=>Cur W h' cb (fun b=>C b∧b≠h.size) its∧rE its=rE items∧jl its≤jl items∧h'[h.size]? =some (.cells zPrL.toArray al (0,0))∧Upd (fun b=>C b∨b=cb) h h'∧h1.size≤h'.size) jl items ⟨cur1,rfl,ag _,b1,k1.wide,ag _⟩ ?_
 rintro I its ⟨⟩ h' ⟨cu,hrem,hco,bz,hu,hsz⟩ hI;obtain⟨s,aO,hst⟩:=cu.ex;have hlen:=hst.len;rw[cg]at hlen;refine⟨_,rfl,s,vc aO 0,?_⟩;refine av (fun hpos=>?_) fun hnp=>?_
 ·have hpos:0<its.length:=by omega
  obtain⟨its',i,rfl⟩:∃its' i,its=its'++ [i]:=⟨its.dropLast,its.getLast (by intro e;rw[e]at hpos;simp at hpos),(List.dropLast_concat_getLast _).symm⟩;rw[cr]at hst;rw[ac,aw]at hlen;have hil:=AP (its'++ [i]);rw[ac,aw]at hil;have eidx:IntKind.wrap .i64 ((s.len:Int)-1)=((its'.length:Nat):Int):=by rw[fL (by omega)];omega
  have sl:=hst.sl (W:=No) fun _ _ _ h=>h
  obtain⟨a,ha,_,hv⟩:=sl.at (i:=its'.length) (x:=i.raw) (by rw[ax (by rw[cg];omega),cg,cO];rfl);have hio:=cu.ok i (List.mem_append_right _ (aJ.2 rfl));refine⟨_,rfl,s,vc aO 0,_,rfl,s,vc aO 0,?_⟩;rw[eidx];refine⟨⟨by omega,by omega⟩,a,ha,some ⟨i.b,0,none⟩,hv 0 _ rfl,i.ah,hv 1 _ rfl,i.own,hv 2 _ rfl,?_⟩
  refine aQ fun h2 b2 k2=>?_
  have sl2:=sl.upd k2 fun _ h=>h.elim
  obtain⟨a',ha',_,hv2⟩:=sl2.at (i:=its'.length) (x:=i.raw) (by rw[ax (by rw[cg];omega),cg,cO];rfl);rw[ha]at ha';cases ha';have c2:=k2.get0 aO;refine⟨⟨hv2 0 _ rfl,hv2 1 _ rfl,hv2 2 _ rfl⟩,vc c2 0,vc c2 0,?_⟩;refine eL (c:= [.pointer none,.string (⟨#[]⟩:ByteArray),.bool false]) (vs:= [.pointer (some ⟨i.b,0,none⟩),.string i.ah,.bool i.own]) b2 rfl fun h3 b3 hu3=>?_
  have k3:Upd No h' h3:=k2.own hu3 (ag _);have c3:=k3.get0 aO;have zcb:=bw aO;have z3:=bw b3;have s3:=k3.size;refine⟨_,rfl,s,vc c3 0,_,rfl,s,vc c3 0,?_⟩;rw[eidx];have hcap:=hst.cap;refine⟨⟨by omega,by omega⟩,?_⟩
  simp only[Bd];refine⟨_,rfl,?_⟩;refine rx (i:=0) (c':=Oe ⟨aZ s.a 0 s.cap 3,its'.length,s.cap⟩) c3 (show 0<5 by decide) rfl fun h4 c4 hu4=>?_
  have b4:=hu4.oth b3 (by omega);have bz4:=hu4.oth (k3.get0 bz) (by omega);have hpop:=OwnS.pop hst;have hst4:=((hpop.upd k3 fun _ _ h=>h).upd hu4 fun b hb e=>hcb (by have e:b=cb:=e;rw[←e];exact hb.1))
  rw[cg]at hst4;have huW:∀{j},It.Ok W h' j→It.Ok W h4 j:=fun oj=>(oj.updM k3 fun _ h=>h.elim).updM hu4 fun b hb=>.inl (by have hb:b=cb:=hb;rw[hb];exact hcbW)
  have cu4:Cur W h4 cb (fun b=>C b∧b≠h.size) its':=⟨⟨_,c4,hst4⟩,fun j hj=>huW (cu.ok j (List.mem_append_left _ hj))⟩
  have hio4:=huW hio;have hu04:Upd (fun b=>C b∨b=cb) h h4:=(hu.tr k3.wide).trans hu4 fun b hb=>.inl (.inr hb)
  have s4:=hu4.size;have hcs:jl (its'++ [i])=jl its'+i.cost:=by rw[ue];rfl
  have hrs:=C8 its' i;have hic:1≤i.cost:=by unfold It.cost;split<;>omega
  refine⟨i.own,vc b4 2,?_⟩;cases how:i.own with
  |false=>
   refine aB.2 ⟨_,vc b4 0,i.ah,vc b4 1,i.own,vc b4 2,?_⟩;refine NM cu4 hio4 how (fun b hb=>hC1 b (by omega)) (fun b hb=>hCW b hb.1) hcbW (fun hx=>hcb hx.1) (by omega) fun h5 kids cu5 hr5 hc5 hu5=>?_
   have hu5':Upd (fun b=>C b∨b=cb) h4 h5:=hu5.mono fun b hb=>.inl (hb.imp (fun h=>h.1) id)
   refine hI (its'++kids) () h5 ⟨cu5,?_,?_,hu5.get bz4 (fun hx=>by rcases hx with hx|hx;exact hx.2 rfl;omega),hu04.tr hu5',by have:=hu5.size;omega⟩ ?_
   ·rw[LY,hr5,←hrem,hrs]
   ·rw[ue];omega
   ·rw[ue];omega
  |true=>
   refine aj.2 ⟨i.ah,vc b4 1,_,vc b4 0,?_⟩;refine AA hio4.1 ⟨vc b4 1,?_,?_⟩
   ·have:=hio.2.2.1
    unfold It.key at this;rw[ac]at this;have e1:i.ah.data.toList.length=i.ah.size:=by simp
    have e2:i.sl.data.toList.length=i.sl.size:=by simp
    omega
   refine⟨_,vc b4 0,Ay hio4.1 fun v hvw=>?_⟩
   have hpr:i.prs=(i.w.map fun v=>(i.key,v)).toList:=by unfold It.prs;rw[how];rfl
   have ekey:(⟨i.key.toArray⟩:ByteArray)=i.ah++i.sl:=by rw[←vO,ByteArray.data_append,Array.toList_append];rfl
   refine Join.intro (fun t h5=>t=i.w.isSome∧Upd No h4 h5) (fun R hR=>?_) ?_
   ·cases hw:i.w with
    |none=>exact aj.2 (hR _ _ ⟨by rw[hw];rfl,Upd.refl _ _⟩)
    |some u=>exact aB.2 ⟨_,rfl,_,xO c4 1 0,_,xO c4 1 1,true,xO c4 1 2,F1 fun h5 k5=>hR _ _ ⟨by rw[hw];rfl,k5⟩⟩
   ·rintro t h5 ⟨rfl,k5⟩
    have cu5:Cur W h5 cb (fun b=>C b∧b≠h.size) its':=cu4.upd k5 (fun _ h=>h.elim) (fun _ _ _ h=>h) fun h=>h
    have bz5:=k5.get0 bz4;have hu05:=hu04.tr (k5.wide (M:=fun b=>C b∨b=cb))
    have s5:=k5.size;cases hw:i.w with
    |none=>
     refine aj.2 (hI its' () h5 ⟨cu5,?_,by omega,bz5,hu05,by omega⟩ (by omega))
     rw[←hrem,hrs,hpr,hw];rfl
    |some u=>
     have hvu:=hvw u hw;subst hvu;refine aB.2 ?_;refine eL (c:=zPrL) (vs:= [.string (i.ah++i.sl),.string v]) bz5 rfl fun h6 b6 hu6=>?_
     refine⟨_,vc b6 0,_,vc b6 1,?_⟩;rw[←ekey];refine hs h6 its' i.key v (rE its') (by rw[←hrem,hrs,hpr,hw];rfl) rfl (by omega) ?_ (hu05.trans hu6 fun b hb=>.inr (fU (Eq.symm hb)))
     exact(cu5.upd hu6 (fun b hb=>.inl (hCW b (hC b (fU (Eq.symm hb))))) (fun b hb _ e=>hb.2 e) (by show ¬cb=h.size;omega)).sub fun b hb _=>hb.1
 ·have h0:its= []:=List.length_eq_zero_iff.1 (by omega)
  subst h0;refine eL (c:=zPrL) (vs:=zPrL) bz rfl fun h6 b6 hu6=>?_
  refine⟨_,vc b6 0,_,vc b6 1,hn h6 hrem.symm (hu.trans hu6 fun b hb=>.inr (fU (Eq.symm hb)))⟩
end Go.Proofs
namespace Go.Proofs
open Go Go.Lift
abbrev Pk(x:Pr):List Value:= [.agg #[.string x.1,.string x.2]]
theorem Cs{h:ad}{fv:Value}{N:Nat}{S:List Pr→Prop}{Q:Nat→Prop}(hg:Gives PG fv Pk N S Q h)(hN:N≤100000000){K:SliceV→ad→Prop}
  (hk:∀s' h' xs,S xs→OwnS dD 2 al (fun b=>h.size≤b) h' s' xs→Upd No h h'→K s' h'):HC PG dZ [.slice none 0 0,fv] [.c .slice] K h:=by
 refine jV ⟨none,0,0⟩ fv ?_;unfold fI nv jm aF im B7 OF;have k0:=Upd.hnew No h [.slice none 0 0] cD;have b0:=dj h [.slice none 0 0] cD;have hsz:(hnew h [.slice none 0 0] cD).size=h.size+1:=f9 ..;have hg1:=hg.upd k0 fun _ _=>id
 refine bM ?_;generalize hnew h [.slice none 0 0] cD=h1 at hg1 k0 b0 hsz;refine⟨fun lo hlo hround=>?_⟩
 obtain⟨f,first,cap,rfl,hrun⟩:=hg1.run
 refine⟨f,first,cap,rfl,?_⟩
 have k1:Upd No h1 ((h1.push (.deferred (some []))).push (lo .ready none)):=(Upd.push No _ _).tr (Upd.push No _ _);have l2:((h1.push (.deferred (some []))).push (lo .ready none))[h1.size+1]? =some (lo .ready none):=by
  have:=sQ (h1.push (.deferred (some []))) (lo .ready none);rwa [Array.size_push]at this
 have l1:((h1.push (.deferred (some []))).push (lo .ready none))[h1.size]? =some (.deferred (some [])):=(Upd.push No _ _).get0 (sQ h1 _);refine hrun (.func (.yield (h1.size+1)) #[] #[]) (fun pre A h'=>(∀b,A b→b<h'.size∧h.size≤b)∧A h.size∧A h1.size∧A (h1.size+1)∧h'[h1.size]? =some (.deferred (some []))∧h'[h1.size+1]? =some (lo .ready none)∧
   ∃s:SliceV,h'[h.size]? =some (.cells #[sv s] cD (0,0))∧OwnS dD 2 al (fun b=>A b∧h1.size+1<b) h' s pre∧pre.length≤N)
  (fun b=>b=h.size∨b=h1.size∨b=h1.size+1) No _ _ ⟨fun _ _ _ hj b hb=>(hj.1 b hb).1,fun pre A h' h'' B hj hu hB=>?_,fun pre A h' x K' hj hlen hK=>?_⟩ ?_ k1 (fun _ _=>id) (fun b hb hq=>?_) ?_
 ·obtain⟨h1',h2,h3,h4,h5,h6,s,h7,h8,h9⟩:=hj
  exact⟨fun b hb=>⟨bH (h1' b hb).1 hu.size,(h1' b hb).2⟩,h2,h3,h4,hu.get h5 (hB _ h3),hu.get h6 (hB _ h4),s,hu.get h7 (hB _ h2),h8.upd hu fun b hb=>hB b hb.1,h9⟩
 ·obtain⟨hA,hA1,hA2,hA3,hd,hl,s,hs,ho,hpl⟩:=hj
  refine hround x h' K' hl ?_;refine py (p:=x) fun hp bp kp=>?_
  have zp:=bw bp;have hl:=kp.get0 hl;have hs:=kp.get0 hs;have hd:=kp.get0 hd;have hop:=ho.upd kp fun _ _ h=>h
  have sp:=kp.size;refine⟨hl,?_⟩;have kb:Upd (· =h1.size+1) hp (hp.setIfInBounds (h1.size+1) (lo .busy none)):=Upd.set _ _ rfl
  have lb:=iq (o:=lo .busy none) hl;have sb:=kb.size;refine bM ?_;generalize hp.setIfInBounds (h1.size+1) (lo .busy none)=h2 at kb lb sb;have hlt1:=(hA _ hA1).1;have hlt3:=(hA _ hA3).1;have bp2:=kb.get bp (by omega);have hs2:=kb.get hs (by omega);refine⟨s,by rw[fk,bo hs2];rfl,_,vc bp2 0,_,vc bp2 1,bM ?_⟩
  refine pM (p:=x) (M:=fun b=>((A b∧b<h'.size)∨h2.size≤b)∧h1.size+1<b) ((hop.upd kb fun b hb=>by omega).more fun b hb=>⟨.inl ⟨hb.1,(hA b hb.1).1⟩,hb.2⟩) (fun b hb=>⟨.inr hb,by have:=bw lb;omega⟩) (by omega) fun s' h3 ho3 hu3=>?_
  have hs3:h3[h.size]? =some (.cells #[sv s] cD (0,0)):=hu3.get hs2 (by omega);refine⟨by rw[fk];exact gB hs3 (by simp),?_⟩;have k4:Upd (· =h.size) h3 (hset h3 (aC h) (.slice s'.a s'.len s'.cap)):=Upd.hset _ _ rfl
  have hs4:(hset h3 (aC h) (.slice s'.a s'.len s'.cap))[h.size]? =some (.cells #[sv s'] cD (0,0)):=by
   rw[fk,AZ hs3,iq hs3];rfl
  refine bM ?_;generalize hset h3 (aC h) (.slice s'.a s'.len s'.cap)=h4 at k4 hs4;have hl4:h4[h1.size+1]? =some (lo .busy none):=k4.get (hu3.get lb (by omega)) (by omega);refine⟨hl4,?_⟩;have k5:Upd (· =h1.size+1) h4 (h4.setIfInBounds (h1.size+1) (lo .ready none)):=Upd.set _ _ rfl
  have hl5:=iq (o:=lo .ready none) hl4;have hall:Upd A h' h4:=((kp.wide.tr (kb.mono (M':=A) fun b hb=>.inl (hb▸hA3))).trans hu3 fun b hb=>hb.1.imp (fun h=>h.1) fun h=>by omega).trans k4 fun b hb=>.inl (hb▸hA1)
  have z3:=hu3.size;have z4:=k4.size;have z5:=k5.size;refine hK _ (fun b=>((A b∧b<h'.size)∨h2.size≤b)∧b<h4.size) ⟨fun b hb=>⟨bH hb.2 z5,hb.1.elim (fun h=>(hA b h.1).2) fun h=>by omega⟩,⟨.inl ⟨hA1,hlt1⟩,by omega⟩,⟨.inl ⟨hA2,(hA _ hA2).1⟩,by have:=(hA _ hA2).1;omega⟩,⟨.inl ⟨hA3,hlt3⟩,by omega⟩,
   k5.get (k4.get (hu3.get (kb.get hd (by omega)) (by omega)) (by omega)) (by omega),hl5,s',k5.get hs4 (by omega),?_,by simp;omega⟩ (hall.trans k5 fun b hb=>.inl (hb▸hA3)) fun b hb=>hb.1.imp (fun h=>h.1) fun h=>by omega
  exact(((ho3.upd k4 fun b hb=>by omega).within).more fun b hb=>⟨⟨hb.1.1,hb.2⟩,hb.1.2⟩).upd k5 fun b hb=>by omega
 ·refine⟨fun b hb=>?_,.inl rfl,.inr (.inl rfl),.inr (.inr rfl),l1,l2,⟨none,0,0⟩,k1.get0 b0,OwnS.nil fq,aK _⟩
  have:=bw l2;rcases hb with rfl|rfl|rfl<;>omega
 ·have:=hg.lt b hq
  rcases hb with rfl|rfl|rfl<;>omega
 ·rintro xs A' h' hS ⟨hA,hA1,hA2,hA3,hd,hl,s,hs,ho,hpl⟩ hu hA'
  refine⟨.ready,none,by decide,hl,?_⟩
  have k5:Upd (· =h1.size+1) h' (h'.setIfInBounds (h1.size+1) (lo .exhausted none)):=Upd.set _ _ rfl
  show∃v:SliceV,aO (h'.setIfInBounds (h1.size+1) (lo .exhausted none)) (aC h)=some (.slice v.a v.len v.cap)∧_
  have hd5:=k5.get hd (show ¬h1.size=h1.size+1 by omega)
  have hs5:=k5.get hs (show ¬h.size=h1.size+1 by omega)
  have ho5:=ho.upd k5 fun b hb=>by omega
  generalize h'.setIfInBounds (h1.size+1) (lo .exhausted none)=h5 at k5 hd5 hs5 ho5;refine⟨s,by rw[fk,bo hs5];rfl,hd5,?_⟩
  have k6:Upd (· =h1.size) h5 (h5.setIfInBounds h1.size (.deferred none)):=Upd.set _ _ rfl
  refine hk s _ xs hS ((ho5.upd k6 fun b hb=>by omega).more fun b hb=>(hA b hb.1).2) ?_
  refine(((k0.tr k1).trans hu fun b hb=>?_).trans k5 fun b hb=>.inr (by omega)).trans k6 fun b hb=>.inr (by omega)
  rcases hb with rfl|rfl|rfl<;>(right;omega)
theorem Ge{h:ad}{fv:Value}{N:Nat}{S:List Pr→Prop}{Q:Nat→Prop}(hg:Gives PG fv Pk N S Q h)(hN:N≤100000000){K:SliceV→ad→Prop}
  (hk:∀s' h' xs,S xs→OwnS dD 2 al (fun b=>h.size≤b) h' s' xs→Upd No h h'→K s' h'):HC PG gY [fv] [.c .slice] K h:=by
 refine pN fv ?_;unfold kK;exact Cs hg hN hk
theorem G5{W:Nat→Prop}{h:ad}{b:Nat}{w:Option ByteArray}{F:Fo}(io:It.Ok W h ⟨b,⟨#[]⟩,false,⟨#[]⟩,w,F⟩)(hW:∀y,h.size≤y→W y){K:Option Addr→ad→Prop}
  (hk:∀h' cb,h.size≤cb→cb<h'.size→Cur W h' cb (fun y=>h.size≤y∧y≠cb) [⟨b,⟨#[]⟩,false,⟨#[]⟩,w,F⟩]→Upd No h h'→K (some ⟨cb,0,none⟩) h'):HC PG vE [.pointer (some ⟨b,0,none⟩),.agg #[.string ⟨#[]⟩,.string ⟨#[]⟩,.bool true],.bool false] [.c .ptr] K h:=by
 refine Im (some ⟨b,0,none⟩) (⟨#[]⟩,⟨#[]⟩,true) false ?_;unfold BD aF d6 bU nr Ng Ca GQ;refine aQ fun h1 b1 k1=>⟨_,vc b1 0,_,vc b1 1,true,vc b1 2,aQ fun h2 b2 k2=>aB.2 ⟨_,rfl,⟨none,0,0⟩,vc b2 0,aQ fun h3 b3 k3=>?_⟩⟩
 have s1:=k1.size;have s2:=k2.size;have z2:=bw b2;have z3:=bw b3;have o3:OwnS JO 3 dG (fun _=>True) h3 ⟨some (aC h2),1,1⟩ [(some ⟨b,0,none⟩,⟨#[]⟩,false)]:=⟨rfl,DW,ag _,.inr ⟨h2.size,[],rfl,trivial,b3,rfl⟩⟩
 refine⟨_,(o3.sl (W:=No) fun _ _ _ h=>h).srow,?_⟩
 refine AppP.own (M:=fun y=>h3.size≤y) (ys:= [(some ⟨b,0,none⟩,⟨#[]⟩,false)]) (OwnS.nil (f:=JO) DW) rfl rfl rfl rfl (by omega) (by simp) (ag _) fun s4 h4 ho4 hu4=>?_
 have c4:=hu4.get (k3.get0 b2) (by omega);refine⟨_,rfl,?_⟩;refine rx (i:=0) (c':=Oe s4) c4 (show 0<5 by decide) rfl fun h5 c5 hu5=>?_
 have hu:Upd No h h5:=(((k1.tr k2).tr k3).trans hu4 fun y hy=>.inr (by omega)).own hu5 s1
 have s5:=hu4.size;have s6:=hu5.size;refine hk h5 h1.size s1 (by omega) ⟨⟨s4,c5,?_⟩,fun i hi=>?_⟩ hu
 ·exact(ho4.upd hu5 fun y hy e=>by have e:y=h1.size:=e;omega).more fun y hy=>⟨by omega,by omega⟩
 ·rw[aJ.1 hi]
  exact io.updM hu fun _ h=>h.elim
theorem Nr(l m:List Pr):Al (l++m)=Al l++Al m:=by unfold Al;rw[cr]
theorem Fi{W:Nat→Prop}{h:ad}{b:Nat}{l:List Pr}(t:RadAt W h b l)(hr:d9 l)(hf:Fit l)(hn:l.length≤60000){K:Value→ad→Prop}
  (hk:∀fv h',Gives PG fv Pk (2*l.length) (fun xs=>xs=l) (fun y=>y<h'.size) h'→Upd No h h'→K fv h'):HC PG tw [.pointer (some ⟨b,0,none⟩),.agg #[.string ⟨#[]⟩,.string ⟨#[]⟩,.bool true],.bool false] [.c .raw] K h:=by
 refine Gr (some ⟨b,0,none⟩) (⟨#[]⟩,⟨#[]⟩,true) false ?_;unfold zg Ng;refine aQ fun h1 b1 k1=>aQ fun h2 b2 k2=>aQ fun h3 b3 k3=>?_
 have k03:=(k1.tr k2).tr k3;have c1:=k3.get0 (k2.get0 b1);have c2:=k3.get0 b2;have z1:=bw c1;have z2:=bw c2;have z3:=bw b3;refine hk _ h3 ?_ k03;obtain⟨w,F,r1,r2,r3⟩:=(((t.upd0 k03).less (W':=fun y=>h3.size≤y) fun y hy=>.inr hy)).ex
 have hprs:=zO r2 hr r3;have hcnt:=zZ r2;have hlenU:=congrArg dX hprs;unfold lv Al at hlenU;rw[ac,cg]at hlenU;refine⟨fun y hy=>hy,nS,#[],_,rfl,fun y J A M h4 K' ht hj hu hq ha hk'=>?_⟩
 refine BC y (aC h) (aC h1) (aC h2) ?_;unfold qT nv jm aL aF xM hH B7 Ou wL;have d1:=hu.get c1 (hq _ z1);have d2:=hu.get c2 (hq _ z2);have d3:=hu.get b3 (hq _ z3);have s4:=hu.size;have io:It.Ok (fun y=>h3.size≤y) h4 ⟨b,⟨#[]⟩,false,⟨#[]⟩,w,F⟩:=⟨r1.updM hu fun y hy=>.inl (by
  rcases cf y h3.size with hl|hl
  ·exact absurd hy (hq y hl)
  ·exact hl),r2,by simp[It.key],fun p hp=>by
   rw[hprs]at hp
   obtain⟨q,hq',e⟩:=List.mem_map.1 hp
   have:=(hf q hq').1
   rw[←e]
   simpa[It.key]using this⟩
 refine⟨_,(by have:=vc d1 0;rw[cc,cQ]at this;exact this),_,vc d2 0,_,vc d2 1,true,vc d2 2,false,(by have:=vc d3 0;rw[cc,cQ]at this;exact this),?_⟩;refine G5 io (fun y hy=>bh s4 hy) fun h5 cb hcb hcb5 cur k5=>?_
 have hAlt:=ht.lt _ _ _ hj;have hA3:∀y,A y→h3.size≤y:=fun y hy=>by
  rcases cf y h3.size with hl|hl
  ·exact absurd hl (ha y hy)
  ·exact hl
 have s5:=k5.size;have hcost0:jl [⟨b,⟨#[]⟩,false,⟨#[]⟩,w,F⟩]≤100000000:=by
  have:jl [⟨b,⟨#[]⟩,false,⟨#[]⟩,w,F⟩]=2+2*wY F:=by simp[jl,It.cost]
  rw[this];omega
 have hrem0:rE [⟨b,⟨#[]⟩,false,⟨#[]⟩,w,F⟩]=Al l:=by
  rw[←hprs];simp[rE,It.prs,It.key]
 refine LoopP.ghost (fun(g:List Pr×List It×(Nat→Prop)) (_:Unit) h'=>Cur (fun y=>h3.size≤y) h' cb (fun y=>h4.size≤y∧y≠cb∧¬g.2.2 y) g.2.1∧J g.1 g.2.2 h'∧Upd A h4 h'∧(∀y,g.2.2 y→(A y∨h4.size≤y)∧y≠cb)∧Al g.1++rE g.2.1=Al l∧jl g.2.1≤100000000∧h5.size≤h'.size) (fun g=>(rE g.2.1).length) ([],[⟨b,⟨#[]⟩,false,⟨#[]⟩,w,F⟩],A)
  ⟨cur.sub fun y hy hlt=>⟨hy.1,hy.2,fun hx=>by have:=hAlt y hx;omega⟩,ht.keep _ _ _ _ No hj k5 (fun _ _ h=>h),k5.wide,fun y hy=>⟨.inl hy,by have:=hAlt y hy;omega⟩,by rw[hrem0];rfl,hcost0,ag _⟩ ?_
 rintro I ⟨pre,items,A1⟩ ⟨⟩ h' ⟨cu,hj',hu',hA1,hrem,hco,hsz⟩ hI;simp only at cu hj' hA1 hrem hco;have hlt':=ht.lt _ _ _ hj';have hA1W:∀y,A1 y→h3.size≤y:=fun y hy=>(hA1 y hy).1.elim (hA3 y) fun h=>by omega
 refine NW cu (fun y hy=>⟨by omega,by omega,fun hx=>by have:=hlt' y hx;omega⟩) (fun y hy=>bh s4 hy.1) (bh s4 hcb) (fun hx=>hx.2.1 rfl) hco (fun h6 hr0 hu6=>?_) fun h6 items' k v R hr1 hr2 hc6 cu6 hu6=>?_
 ·have hd:∀y,A1 y→¬((h4.size≤y∧y≠cb∧¬A1 y)∨y=cb):=fun y hy hx=>hx.elim (fun h=>h.2.2 hy) (hA1 y hy).2
  have hj6:=ht.keep _ _ _ _ _ hj' hu6 hd;refine py fun h7 b7 k7=>?_
  refine Join.intro (fun t h8=>t=true∧h8=h7) (fun R hR=>aB.2 (hR _ _ ⟨rfl,rfl⟩)) ?_
  rintro t h8 ⟨rfl,rfl⟩;refine aB.2 (hk' pre A1 h8 ?_ (ht.keep _ _ _ _ No hj6 k7 (fun _ _ h=>h)) ?_ fun y hy=>(hA1 y hy).1)
  ·rw[hr0,List.append_nil]at hrem
   exact D3 hrem
  ·exact(hu'.trans hu6 fun y hy=>.inr (by rcases hy with hy|hy;exact hy.1;omega)).tr k7.wide
 ·have hd:∀y,A1 y→¬((h4.size≤y∧y≠cb∧¬A1 y)∨y=cb):=fun y hy hx=>hx.elim (fun h=>h.2.2 hy) (hA1 y hy).2
  have hj6:=ht.keep _ _ _ _ _ hj' hu6 hd;refine py (p:=(⟨k.toArray⟩,v)) fun h7 b7 k7=>?_
  have hj7:=ht.keep _ _ _ _ No hj6 k7 (fun _ _ h=>h)
  have cu7:=cu6.upd k7 (fun _ h=>h.elim) (fun _ _ _ h=>h) fun h=>h
  have hu47:Upd A h4 h7:=(hu'.trans hu6 fun y hy=>.inr (by rcases hy with hy|hy;exact hy.1;omega)).tr k7.wide
  have s6:=hu6.size;have s7:=k7.size;refine Join.intro (fun t h8=>t=false∧∃A3,J (pre++ [(⟨k.toArray⟩,v)]) A3 h8∧Upd A1 h7 h8∧∀y,A3 y→A1 y∨h7.size≤y) (fun R' hR=>?_) ?_
  ·refine aj.2 ⟨_,vc b7 0,_,vc b7 1,?_⟩
   refine ht.step pre A1 h7 (⟨k.toArray⟩,v) _ hj7 ?_ fun h8 A3 hj8 hu8 hA8=>hR _ _ ⟨rfl,A3,hj8,hu8,hA8⟩
   have:=congrArg dX hrem;rw[hr1]at this;simp only[Al,ac,cg,List.length_cons]at this;omega
  ·rintro t h8 ⟨rfl,A3,hj8,hu8,hA8⟩
   refine aj.2 (hI (pre++ [(⟨k.toArray⟩,v)],items',A3) () h8 ⟨?_,hj8,?_,fun y hy=>?_,?_,by simp only;omega,by have:=hu8.size;omega⟩ ?_)
   ·have c7:Cur (fun y=>h3.size≤y) h7 cb (fun y=>(h4.size≤y∧y≠cb∧¬A1 y)∧y<h7.size) items':=cu7.sub fun y hy hlt=>⟨hy,hlt⟩
    exact(c7.upd hu8 (fun y hy=>.inl (hA1W y hy)) (fun y hy _ hx=>hy.1.2.2 hx) (fun hx=>(hA1 _ hx).2 rfl)).sub fun y hy _=>⟨hy.1.1,hy.1.2.1,fun hx=>by
     rcases hA8 y hx with h|h
     ·exact hy.1.2.2 h
     ·have:=hy.2;omega⟩
   ·exact hu47.trans hu8 fun y hy=>(hA1 y hy).1
   ·rcases hA8 y hy with h|h
    ·exact hA1 y h
    ·exact⟨.inr (by omega),by omega⟩
   ·simp only
    rw[Nr,ao,hr2,←hrem,hr1];rfl
   ·simp only
    rw[hr1,hr2];simp
theorem D5{W:Nat→Prop}{h:ad}{b:Nat}{l:List Pr}(t:RadAt W h b l)(hr:d9 l)(hf:Fit l)(hn:l.length≤60000){K:SliceV→ad→Prop}
  (hk:∀s' h',OwnS dD 2 al (fun y=>h.size≤y) h' s' l→Upd No h h'→K s' h'):HC PG rL [.pointer (some ⟨b,0,none⟩),.agg #[.string ⟨#[]⟩,.string ⟨#[]⟩,.bool true]] [.c .slice] K h:=by
 refine EL (some ⟨b,0,none⟩) (⟨#[]⟩,⟨#[]⟩,true) ?_;unfold xx aF nr Ng Ou;refine aQ fun h1 b1 k1=>⟨_,vc b1 0,_,vc b1 1,true,vc b1 2,?_⟩
 refine Fi (t.upd0 k1) hr hf hn fun fv h2 hg k2=>?_
 refine Ge hg (by omega) fun s3 h3 xs e ho k3=>?_
 subst e;have s12:=(k1.tr k2).size;exact hk s3 h3 (ho.more fun y hy=>by omega) ((k1.tr k2).tr k3)
theorem GW{W:Nat→Prop}{x:Hs}{h:ad}{t:Tr}{l:List Pr}(i:TreeIs W h 1 x t l)(hr:d9 l)(hf:Fit l)(hn:l.length≤60000){K:SliceV→ad→Prop}
  (hk:∀s' h',OwnS dD 2 al (fun y=>h.size≤y) h' s' l→Upd No h h'→K s' h'):HC PG mO [GV t] [.c .slice] K h:=by
 refine xf t ?_;unfold qo bW bD qV O7 N4;rcases i with⟨e,_⟩|⟨_,b,rfl,t⟩
 ·cases e
 refine aQ fun h1 b1 k1=>⟨_,vc b1 0,aB.2 ⟨_,vc b1 5,?_⟩⟩
 refine Ip ?_;unfold BE nv aF nr zl8 vl8;refine aQ fun h2 b2 k2=>?_
 refine eL (c:= [.string (⟨#[]⟩:ByteArray),.string (⟨#[]⟩:ByteArray),.bool false]) (vs:= [.string (⟨#[]⟩:ByteArray),.string (⟨#[]⟩:ByteArray),.bool true]) b2 rfl fun h3 b3 hu3=>?_
 have k3:Upd No h1 h3:=k2.own hu3 (ag _);have k03:=k1.tr k3;refine⟨_,vc b3 0,_,vc b3 1,true,vc b3 2,vc (k3.get0 b1) 5,?_⟩;refine D5 (t.upd0 k03) hr hf hn fun s4 h4 ho k4=>hk s4 h4 (ho.more fun y hy=>?_) (k03.tr k4)
 have:=k03.size;omega
end Go.Proofs
namespace Go.Proofs
open Go Go.Lift
abbrev bA:ByteArray:=⟨#[97]⟩
abbrev bB:ByteArray:=⟨#[98]⟩
theorem QG:kl bA bB:=by rw[nR];decide
theorem bba:¬kl bB bA:=by rw[nR];decide
theorem QF:bB≠bA:=fun h=>by
 have:=QG;rw[h]at this;exact dw _ this
theorem KV:lG [(bB,⟨#[49]⟩),(bA,⟨#[50]⟩),(bB,⟨#[51]⟩)]= [(bA,⟨#[50]⟩),(bB,⟨#[51]⟩)]:=by
 unfold lG;rw[ik,ik,ik,List.foldl_nil];have e1:lI (bB,⟨#[49]⟩) []= [(bB,⟨#[49]⟩)]:=rfl;rw[e1,iX,if_neg bba,if_neg QF,iX,if_pos QG,iX,if_neg (dw _),if_pos rfl]
theorem Ie{h:ad}{K:Bool→ad→Prop}(hk:∀h',Upd No h h'→K true h'):HC PG tE [] [.c .bool] K h:=by
 refine GD ?_;unfold zr cn bW ar bD nv zH qV B5 rI aL vl6 zg0;refine aQ fun h1 b1 k1=>?_
 have hs:Sl dD 2 No h1 ⟨some (aC h),3,3⟩ [(bB,⟨#[49]⟩),(bA,⟨#[50]⟩),(bB,⟨#[51]⟩)]:=⟨rfl,fq,fun _=>⟨_,rfl,fun h=>h.elim,pb b1 fun i v hv=>by simpa using hv⟩⟩
 refine w6 (W:=No) (x:=⟨0,0,0⟩) hs (fun _ h=>h.elim) (by simp) (fun p hp=>?_) (.inr rfl) fun h3 t i3 k3=>?_
 ·rcases az.1 hp with rfl|hp
  ·exact⟨by decide,by decide⟩
  rcases az.1 hp with rfl|hp
  ·exact⟨by decide,by decide⟩
  rw[aJ.1 hp];exact⟨by decide,by decide⟩
 rw[KV]at i3;refine sS (t:=t) fun h5 b5 k5=>?_
 refine⟨_,vc b5 0,_,vc b5 1,_,vc b5 2,_,vc b5 3,_,vc b5 4,_,vc b5 5,?_⟩;have hri:d9 [(bA,(⟨#[50]⟩:ByteArray)),(bB,⟨#[51]⟩)]:=List.pairwise_cons.2 ⟨fun p hp=>by rw[aJ.1 hp];exact QG,List.pairwise_singleton ..⟩
 refine GW (i3.upd0 k5) hri (fun p hp=>?_) (by decide) fun s13 h13 ho13 k13=>?_
 ·rcases az.1 hp with rfl|hp
  ·exact⟨by decide,by decide⟩
  rw[aJ.1 hp];exact⟨by decide,by decide⟩
 have hlen:=ho13.len;have hs13:=ho13.sl (W:=No) fun _ _ _ h=>h
 obtain⟨a,ha,_,hv⟩:=hs13.at (i:=0) (x:=(bA,(⟨#[50]⟩:ByteArray))) rfl;obtain⟨a',ha',_,hv'⟩:=hs13.at (i:=1) (x:=(bB,(⟨#[51]⟩:ByteArray))) rfl;rw[ha]at ha';cases ha';have e1:((s13.len:Int)==(2:Int))=true:=by rw[hlen];rfl
 refine aB.2 ?_;rw[e1];refine aB.2 ⟨⟨by omega,by rw[hlen];decide⟩,a,ha,bA,hv 0 _ rfl,⟨#[50]⟩,hv 1 _ rfl,?_⟩
 rw[beq_self_eq_true,beq_self_eq_true];refine aB.2 ⟨⟨by omega,by rw[hlen];decide⟩,a,ha,⟨#[51]⟩,hv' 1 _ rfl,?_⟩
 rw[beq_self_eq_true];exact hk h13 (((k1.tr k3).tr k5).tr k13)
end Go.Proofs
namespace Go.Proofs
open Go Go.Lift
end Go.Proofs
namespace Go.Proofs
open Go Go.Lift
end Go.Proofs
namespace Go.Proofs
end Go.Proofs
namespace Go.Proofs
open Go Go.Lift
end Go.Proofs
namespace Go.Proofs
open Go Go.Lift
end Go.Proofs
namespace Go.Proofs
theorem Mh:∀{n x:Nat},x<2^n→0<x→∃c,c<n∧x.testBit c=true∧∀j,j<c→x.testBit j=false
 |0,x,h,h'=>by simp at h;omega
 |n+1,x,h,h'=>by
  by_cases e:x%2=1
  ·exact⟨0,by omega,by rw[i4];simpa using e,fun j hj=>absurd hj (Nat.not_lt_zero _)⟩
  ·obtain⟨c,h1,h2,h3⟩:=Mh (n:=n) (x:=x/2) (by rw[Nat.pow_succ]at h;omega) (by omega)
   refine⟨c+1,by omega,by rw[fO];exact h2,fun j hj=>?_⟩
   cases j with
   |zero=>rw[i4];simpa using e
   |succ j=>rw[fO];exact h3 j (by omega)
theorem AH:∀{c x:Nat},x.testBit c=true→(∀j,j<c→x.testBit j=false)→∀i,(x-1).testBit i=if i<c then true else if i=c then false else x.testBit i
 |0,x,h,_,i=>by
  have h:x%2=1:=by rw[i4]at h;simpa using h
  cases i with
  |zero=>rw[i4,if_neg (by omega),if_pos rfl];simp;omega
  |succ i=>rw[fO,fO,if_neg (by omega),if_neg (by omega)];congr 1;omega
 |c+1,x,h,hl,i=>by
  have h0:=hl 0 (by omega);rw[i4]at h0;have h1:¬x%2=1:=by simpa using h0
  have h0:x%2=0:=by omega
  rw[fO]at h;have hpos:0<x/2:=by
   rcases ce (x/2)with e|e
   ·rw[e,gV]at h;cases h
   ·exact e
  cases i with
  |zero=>rw[i4,if_pos (by omega)];simp;omega
  |succ i=>
   have:=AH (x:=x/2) h (fun j hj=>by have:=hl (j+1) (by omega);rwa [fO]at this) i
   rw[fO,fO,show(x-1)/2=x/2-1 by omega,this]
   simp only[Nat.add_lt_add_iff_right,Nat.add_right_cancel_iff]
theorem N0{c x:Nat}(h:x.testBit c=true)(hl:∀j,j<c→x.testBit j=false)(hc:c<32)(hx:x<4294967296):x&&&(4294967296-x)=2^c:=by
 have hp:0<x:=by
  rcases ce x with e|e
  ·rw[e,gV]at h;cases h
  ·exact e
 refine iC fun i=>?_
 have e:4294967296-x=2^32-((x-1)+1):=by omega
 rw[gn,e,Nat.testBit_two_pow_sub_succ (by omega),AH h hl,Nat.testBit_two_pow];by_cases h1:i<c
 ·rw[if_pos h1,hl i h1];simp;omega
 ·rw[if_neg h1]
  by_cases h2:i=c
  ·subst h2;simp[h,hc]
  ·rw[if_neg h2]
   cases x.testBit i<;>simp<;>omega
theorem KI{c x:Nat}(h:x.testBit c=true)(hl:∀j,j<c→x.testBit j=false)(i:Nat):(x&&&(x-1)).testBit i=(x.testBit i&&decide (c<i)):=by
 rw[gn,AH h hl];by_cases h1:i<c
 ·rw[if_pos h1,hl i h1];rfl
 ·rw[if_neg h1]
  by_cases h2:i=c
  ·subst h2;simp
  ·rw[if_neg h2]
   have:c<i:=by omega
   simp[this]
end Go.Proofs
namespace Go.Proofs
open Go Go.Lift
def wl(x:Hs):Nat→List Pr→List Pr
 |0,l=>l
 |m+1,l=>fP x (12-m) l++(iL x (12-m) l).flatMap (wl x m)
def cw(x:Hs):Nat→List Pr→Nat
 |0,_=>2
 |m+1,l=>2+((iL x (12-m) l).map (cw x m)).sum
structure Fr where
 sp:SliceV
 sk:SliceV
 n:Nat
 ps:List Pr
 ks:List (Nat×List Pr)
def Fr.raw(f:Fr):SliceV×SliceV:=(f.sp,f.sk)
def Fr.rem(x:Hs)(f:Fr):List Pr:=f.ps++f.ks.flatMap fun k=>wl x (f.n-1) k.2
def Fr.cost(x:Hs)(f:Fr):Nat:=1+(f.ks.map fun k=>cw x (f.n-1) k.2).sum
abbrev Qu(k:Nat×List Pr):Option Addr:=some ⟨k.1,0,none⟩
structure Fr.Ok(W G:Nat→Prop)(x:Hs)(h:ad)(f:Fr):Prop where
 p:Sl dD 2 (fun y=>¬G y) h f.sp f.ps
 k:Sl oX 1 (fun y=>¬G y) h f.sk (f.ks.map Qu)
 pc:f.sp.len≤f.sp.cap
 kc:f.sk.len≤f.sk.cap
 t:∀k∈f.ks,TrieAt W x h (f.n-1) k.1 k.2∧k.2.length≤100000
 n0:f.ks≠[]→0<f.n
 n13:f.n≤13
theorem Fr.Ok.upd{W G M:Nat→Prop}{x:Hs}{h h':ad}{f:Fr}(o:f.Ok W G x h)(k:Upd M h h')(hW:∀b,M b→W b∨h.size≤b)(hG:∀b,M b→¬G b∨h.size≤b):f.Ok W G x h':=
 ⟨o.p.upd k hG,o.k.upd k hG,o.pc,o.kc,fun q hq=>⟨TrieAt.updM k hW (o.t q hq).1,(o.t q hq).2⟩,o.n0,o.n13⟩
theorem Fr.Ok.sub{W G G':Nat→Prop}{x:Hs}{h:ad}{f:Fr}(o:f.Ok W G x h)(hG:∀b,G b→G' b):f.Ok W G' x h:=
 ⟨o.p.less fun b hb=>.inl fun hg=>hb (hG b hg),o.k.less fun b hb=>.inl fun hg=>hb (hG b hg),o.pc,o.kc,o.t,o.n0,o.n13⟩
end Go.Proofs
namespace Go.Proofs
open Go Go.Lift
end Go.Proofs
namespace Go.Proofs
open Go Go.Lift
def Below(W:Nat→Prop)(x:Hs)(h:ad)(m:Nat)(r:Option Addr)(l:List Pr):Prop:=(r=none∧l= [])∨∃b,r=some ⟨b,0,none⟩∧TrieAt W x h m b l
theorem Below.upd0{W:Nat→Prop}{x:Hs}{h h':ad}{m:Nat}{r:Option Addr}{l:List Pr}(k:Upd No h h')(t:Below W x h m r l):Below W x h' m r l:=t.imp id fun⟨b,e,t⟩=>⟨b,e,TrieAt.upd0 k t⟩
theorem Below.less{W W':Nat→Prop}{x:Hs}{h:ad}{m:Nat}{r:Option Addr}{l:List Pr}(hm:∀b,W' b→W b∨h.size≤b)(t:Below W x h m r l):Below W' x h m r l:=t.imp id fun⟨b,e,t⟩=>⟨b,e,TrieAt.less hm t⟩
theorem Below.updM{W M:Nat→Prop}{x:Hs}{h h':ad}{m:Nat}{r:Option Addr}{l:List Pr}(k:Upd M h h')(hm:∀b,M b→W b∨h.size≤b)(t:Below W x h m r l):Below W x h' m r l:=t.imp id fun⟨b,e,t⟩=>⟨b,e,TrieAt.updM k hm t⟩
theorem FG{W W':Nat→Prop}{h:ad}{s s':SliceV}{l:List Pr}(hs:Sl dD 2 W h s l)(hs':Sl dD 2 W' h s' l)(hn:l.length≤1000000){K:Bool→ad→Prop}(hk:K true h):HC PG tB [.slice s.a s.len s.cap,.slice s'.a s'.len s'.cap] [.c .bool] K h:=by
 refine GA s s' ?_;unfold zn GO;refine lx s s' ?_;unfold gt cn aL;have hl:=hs.len;have hl':=hs'.len;have ne:((s.len:Int) !=(s'.len:Int))=false:=by rw[bne_eq_false_iff_eq];omega
 rw[ne];refine aj.2 (LoopP.ghost (fun(i:Nat) (t:Int) h'=>t=(i:Int)∧i≤l.length∧h'=h) (fun i=>l.length-i) 0 ⟨rfl,aK _,rfl⟩ ?_)
 rintro I i t h' ⟨rfl,hi,rfl⟩ hI;refine av (fun hlt=>?_) fun hge=>hk
 have hlt:i<l.length:=by omega
 obtain⟨a,ha,_,hv⟩:=hs.at (ae hlt);obtain⟨a',ha',_,hv'⟩:=hs'.at (ae hlt);refine⟨⟨by omega,by omega⟩,a,ha,l[i].1,hv 0 _ rfl,l[i].2,hv 1 _ rfl,⟨by omega,by omega⟩,a',ha',l[i].1,hv' 0 _ rfl,l[i].2,hv' 1 _ rfl,?_⟩
 rw[beq_self_eq_true,beq_self_eq_true];refine aj.2 ?_;rw[iG hlt (by omega)];exact hI (i+1) _ _ ⟨rfl,hlt,rfl⟩ (by omega)
end Go.Proofs
namespace Go.Proofs
open Go Go.Lift
abbrev tzL:List Nat:= [0,1,28,2,29,14,24,3,30,22,20,15,25,17,4,8,31,27,13,23,21,19,16,7,26,12,18,6,11,5,10,9]
def Tab(h:ad):Prop:=∀i,i<32→aO h ⟨0,i,none⟩=some (.int .u8 ((tzL.getD i 0:Nat):Int))
theorem Tab.upd{M:Nat→Prop}{h h':ad}(t:Tab h)(k:Upd M h h')(hm:¬M 0):Tab h':=fun i hi=>k.cell (t i hi) hm
theorem OU:∀c:Fin 32,Int.fdiv (IntKind.wrap .u32 (IntKind.wrap .u32 ((2^c.val:Nat):Int)*125613361)) (2^(min (27:Int).toNat (IntKind.bits .u32)))=((2^c.val*125613361%4294967296/134217728:Nat):Int)∧2^c.val*125613361%4294967296/134217728<32∧tzL.getD (2^c.val*125613361%4294967296/134217728) 0=c.val:=by decide+kernel
theorem MR{a b:Nat}(ha:a<4294967296)(hb:b<4294967296):(af (IntKind.bits .u32) (a:Int)&&&af (IntKind.bits .u32) (b:Int)).toNat=a&&&b:=by
 rw[show IntKind.bits .u32=32 from rfl,ey,ey,BitVec.toNat_and,mu,mu,de (show a<2^32 from ha),de (show b<2^32 from hb)]
theorem PR{h:ad}(tb:Tab h){x c:Nat}(hx:x<4294967296)(hc:c<32)(hb:x.testBit c=true)(hl:∀j,j<c→x.testBit j=false){K:Int→ad→Prop}(hk:K (c:Int) h):HC PG gF [.int .u32 (x:Int)] [.c (.int .i64)] K h:=by
 refine pm x ?_;unfold j6 bR cn;have hp:0<x:=by
  rcases ce x with e|e
  ·rw[e,gV]at hb;cases hb
  ·exact e
 refine CondP.intro (fun e=>?_) fun _=>?_
 ·have e:(x:Int)=0:=by simpa using e
  omega
 have ew:IntKind.wrap .u32 (0-(x:Int))=((4294967296-x:Nat):Int):=by rw[IntKind.wrap_u32];omega
 rw[ew,MR hx (by omega),N0 hb hl hc hx];obtain⟨e1,e2,e3⟩:=OU ⟨c,hc⟩;simp only at e1 e2 e3;simp only[Bd];rw[e1];refine⟨by decide,⟨by omega,by omega⟩,((tzL.getD (2^c*125613361%4294967296/134217728) 0:Nat):Int),?_,?_⟩
 ·rw[Nat.mul_one,cc,aR,Int.toNat_natCast];exact tb _ e2
 ·rw[e3,fL (by omega)];exact hk
def dk(d k:Nat):Nat:=(d>>>k)<<<k
theorem yk(d k i:Nat):(dk d k).testBit i=(decide (k≤i)&&d.testBit i):=by
 unfold dk;rw[Nat.testBit_shiftLeft];by_cases h:k≤i
 ·rw[decide_eq_true (show i≥k from h),Nat.testBit_shiftRight];congr 2;omega
 ·rw[decide_eq_false (show ¬i≥k from h)];rfl
theorem OH(d k:Nat):dk d k≤d:=by
 unfold dk;rw[Nat.shiftLeft_eq,Nat.shiftRight_eq_div_pow];exact Nat.div_mul_le_self ..
theorem Od(d:Nat):dk d 0=d:=iC fun i=>by rw[yk];simp
theorem Db{d:Nat}(hd:d<4294967296){bb:Nat}{h:ad}(hb:h[bb]? =some (.cells #[.int .u32 (d:Int)] ry (0,0)))
  {BODY:Int→(Option Ex→ad→Prop)→ad→Prop} {N:ad→Prop} {X:Nat→ad→Prop} {R:ad→Prop} (Inv:Nat→ad→Prop) (M:Nat→Prop)
  (tab:∀k h1,Inv k h1→Tab h1) (h0:Inv 0 h) (stab:∀k h1 h2,Inv k h1→h.size≤h1.size→Upd (fun b=>b=bb∨h.size≤b) h1 h2→Inv k h2)
  (hM:∀b,M b→b≠bb∧b<h.size)
  (step:∀k c h1 (KK:Option Ex→ad→Prop),Inv k h1→k≤c→c<32→d.testBit c=true→(∀j,k≤j→j<c→d.testBit j=false)→(∀h2,Inv (c+1) h2→Upd M h1 h2→KK none h2)→BODY (c:Int) KK h1)
  (fin:∀k h1,Inv k h1→(∀j,k≤j→j<32→d.testBit j=false)→h1[h.size]? =some (.deferred (some []))→N h1):
  RangeP PG (.func (.func g4) #[] #[.pointer (some ⟨bb,0,none⟩)]) [.c (.int .i64)] h
   (fun Da bz (x:Int) k h67=>(h67[(bO h+1)]? =some Da∧At (Array.setIfInBounds h67 (bO h+1) bz) (fun h69=>BODY x k h69))) N X R:=by
 refine⟨fun lo hlo hround=>?_⟩
 refine⟨g4,#[],#[.pointer (some ⟨bb,0,none⟩)],rfl,?_⟩;have zb:=bw hb;have k1:Upd No h ((h.push (.deferred (some []))).push (lo .ready none)):=(Upd.push No _ _).tr (Upd.push No _ _);have l2:((h.push (.deferred (some []))).push (lo .ready none))[h.size+1]? =some (lo .ready none):=by
  have:=sQ (h.push (.deferred (some []))) (lo .ready none);rwa [Array.size_push]at this
 have l1:((h.push (.deferred (some []))).push (lo .ready none))[h.size]? =some (.deferred (some [])):=(Upd.push No _ _).get0 (sQ h _);have b1:=k1.get0 hb;have i1:=stab 0 _ _ h0 (ag _) k1.wide;have z1:=bw l2;generalize (h.push (.deferred (some []))).push (lo .ready none)=h1 at k1 l2 l1 b1 i1 z1;refine uz (.func (.yield (h.size+1)) #[] #[]) ⟨bb,0,none⟩ ?_;unfold mq bV
 refine LoopP.ghost (fun(k:Nat) (_:Unit) h'=>Inv k h'∧h'[bb]? =some (.cells #[.int .u32 ((dk d k:Nat):Int)] ry (0,0))∧h'[h.size]? =some (.deferred (some []))∧h'[h.size+1]? =some (lo .ready none)∧k≤32) (fun k=>33-k) 0 ⟨i1,by rw[Od];exact b1,l1,l2,aK _⟩ ?_
 rintro I k ⟨⟩ h' ⟨hi,hb',hd',hl',hk32⟩ hI;have zz:=bw hl';have hdl:=Nat.lt_of_le_of_lt (OH d k) hd;refine⟨_,bo hb',CondP.intro (fun e=>?_) fun e=>?_⟩
 ·have hne:0<dk d k:=by
   have:((dk d k:Nat):Int)≠0:=by simpa using e
   omega
  obtain⟨c,hc,hcb,hcl⟩:=Mh (n:=32) hdl hne;have hb2:=hcb;rw[yk,Bool.and_eq_true,decide_eq_true_iff]at hb2;refine⟨_,bo hb',PR (tab k _ hi) hdl hc hcb hcl ?_⟩;refine hround (c:Int) h' _ hl' ⟨hl',?_⟩;have kb:Upd (· =h.size+1) h' (h'.setIfInBounds (h.size+1) (lo .busy none)):=Upd.set _ _ rfl
  have lb:=iq (o:=lo .busy none) hl';have sb:=kb.size;refine bM ?_;generalize h'.setIfInBounds (h.size+1) (lo .busy none)=h2 at kb lb sb;refine step k c h2 _ (stab k _ _ hi (by omega) (kb.mono fun b hb=>.inl (.inr (by omega)))) hb2.1 hc hb2.2 (fun j h1 h2=>?_) fun h3 hi3 hu3=>?_
  ·have:=hcl j h2
   rw[yk,decide_eq_true h1]at this;simpa using this
  have lb3:=hu3.get lb fun e=>by have:=(hM _ e).2;omega
  have hb3:=hu3.get (kb.get hb' (show ¬bb=h.size+1 by omega)) fun e=>(hM _ e).1 rfl
  have hd3:=hu3.get (kb.get hd' (show ¬h.size=h.size+1 by omega)) fun e=>by have:=(hM _ e).2;omega
  refine⟨lb3,?_⟩;have k5:Upd (· =h.size+1) h3 (h3.setIfInBounds (h.size+1) (lo .ready none)):=Upd.set _ _ rfl
  have l5:=iq (o:=lo .ready none) lb3;have hb5:=k5.get hb3 (show ¬bb=h.size+1 by omega)
  have hd5:=k5.get hd3 (show ¬h.size=h.size+1 by omega)
  have s3:=hu3.size;have i5:=stab (c+1) _ _ hi3 (by omega) (k5.mono fun b hb=>.inl (.inr (by omega)))
  simp only[Option.isNone_none,if_true];refine aj.2 ?_;generalize h3.setIfInBounds (h.size+1) (lo .ready none)=h5 at k5 l5 hb5 hd5 i5;refine⟨_,bo hb5,_,bo hb5,?_⟩;have ew:IntKind.wrap .u32 (((dk d k:Nat):Int)-1)=((dk d k-1:Nat):Int):=by rw[IntKind.wrap_u32];omega
  have ea:dk d k&&&(dk d k-1)=dk d (c+1):=by
   refine iC fun i=>?_
   rw[KI hcb hcl,yk,yk];by_cases hci:c<i
   ·rw[decide_eq_true hci,decide_eq_true (show k≤i by omega),decide_eq_true (show c+1≤i by omega)];simp
   ·rw[decide_eq_false hci,decide_eq_false (show ¬c+1≤i by omega)];simp
  simp only[Bd];rw[ew,MR hdl (by omega),ea];have e32:IntKind.wrap .u32 ((dk d (c+1):Nat):Int)=((dk d (c+1):Nat):Int):=by have:=OH d (c+1);rw[IntKind.wrap_u32];omega
  rw[e32];refine⟨gB hb5 (by simp),rU hb5 fun h6 hb6 hu6=>?_⟩
  have s5:=k5.size;refine hI (c+1) () h6 ⟨stab _ _ _ i5 (by omega) (hu6.mono fun b hb=>.inl (.inl hb)),hb6,hu6.oth hd5 (by omega),hu6.oth l5 (by omega),hc⟩ (by omega)
 ·have hz:dk d k=0:=by
   have:((dk d k:Nat):Int)=0:=by simpa using e
   omega
  have k5:Upd (· =h.size+1) h' (h'.setIfInBounds (h.size+1) (lo .exhausted none)):=Upd.set _ _ rfl
  refine⟨.ready,none,by decide,hl',?_⟩
  refine fin k _ (stab k _ _ hi (by omega) (k5.mono fun b hb=>.inl (.inr (by omega)))) (fun j h1 _=>?_) (k5.get hd' (show ¬h.size=h.size+1 by omega))
  have:=yk d k j;rw[hz,gV,decide_eq_true h1]at this;simpa using this.symm
end Go.Proofs
namespace Go.Proofs
open Go Go.Lift
abbrev OD(n:Nat):List Value:= [.int .i64 (n:Int)]
theorem O8(n:Nat):(OD n).length=1∧0<1:=⟨rfl,by omega⟩
theorem xN{h:ad}{b:Nat}{c:Array Value}{t:TypeId}(hb:h[b]? =some (.cells c t (0,0))):aO h ⟨b,0,none⟩=c[0]?:=bo hb
theorem Ai{h:ad}{b:Nat}{c c':Array Value}{t:TypeId}{v:Value}{k:ad→Prop}(hb:h[b]? =some (.cells c t (0,0))) (hi:0<c.size) (e:c.setIfInBounds 0 v=c') (hk:∀h',h'[b]? =some (.cells c' t (0,0))→Upd (· =b) h h'→k h'):Wr h ⟨b,0,none⟩∧At (hset h ⟨b,0,none⟩ v) k:=
 ⟨gB hb hi,rU hb fun h' hb' hu=>hk h' (e▸hb') hu⟩
theorem jo{h:ad}{b:Nat}{cs:List Value}{t:TypeId}(hb:h[b]? =some (.cells cs.toArray t (0,0))):SRow h (some ⟨b,0,none⟩) cs.length cs:=
 ⟨rfl,.inr ⟨_,rfl,pb hb fun i v hv=>by rw[aR,List.getElem?_toArray];exact hv⟩⟩
theorem AR{W:Nat→Prop}{x:Hs}{k:ByteArray}{h:ad}{s:SliceV}{way:List Nat}(hs:Sl OD 1 W h s way)(hl:way.length≤13)(hw:∀i c,way[i]? =some c→ck x i k=c) {K:Bool→ad→Prop} (hk:K true h):HC PG lJ [.int .u64 (ga x k),.slice s.a s.len s.cap] [.c .bool] K h:=by
 refine Cv (ga x k) s ?_;unfold uS bR cn bV oC;have hlen:=hs.len;refine LoopP.ghost (fun(i:Nat) (t:Int) h'=>t=(i:Int)∧i≤way.length∧h'=h) (fun i=>way.length-i) 0 ⟨rfl,aK _,rfl⟩ ?_
 rintro I i t h' ⟨rfl,hi,rfl⟩ hI;refine av (fun hlt=>?_) fun _=>hk
 have hlt:i<way.length:=by omega
 obtain⟨a,ha,_,hv⟩:=hs.at0 (ae hlt);refine⟨⟨by omega,by omega⟩,a,ha,_,hv,P7 (x:=x) (k:=k) (lev:=i) (by omega) ?_⟩
 rw[hw i _ (ae hlt),bne_self_eq_false];refine aj.2 ?_;rw[cl hlt (by omega)];exact hI (i+1) _ _ ⟨rfl,hlt,rfl⟩ (by omega)
theorem Ko{W:Nat→Prop}{h:ad}{s:SliceV}{l:List Pr}(hs:Sl dD 2 W h s l)(hr:d9 l)(hn:l.length≤1000000){K:Bool→ad→Prop}(hk:K true h):HC PG rS [.slice s.a s.len s.cap] [.c .bool] K h:=by
 refine EU s ?_;unfold xF bR cn aL;have hlen:=hs.len;refine LoopP.ghost (fun(i:Nat) (t:Int) h'=>t=((i+1:Nat):Int)∧h'=h) (fun i=>l.length-i) 0 ⟨rfl,rfl⟩ ?_
 rintro I i t h' ⟨rfl,rfl⟩ hI;refine av (fun hlt=>?_) fun _=>hk
 have hlt:i+1<l.length:=by omega
 have e1:IntKind.wrap .i64 (((i+1:Nat):Int)-1)=(i:Int):=by rw[fL (by omega)];omega
 rw[e1];obtain⟨a,ha,_,hv⟩:=hs.at (ae (show i<l.length by omega))
 obtain⟨a',ha',_,hv'⟩:=hs.at (ae hlt);refine⟨⟨by omega,by omega⟩,a,ha,_,hv 0 _ rfl,⟨by omega,by omega⟩,a',ha',_,hv' 0 _ rfl,?_⟩
 have:=fF.1 hr i (i+1) (by omega) hlt (by omega);have hb:Op.bytesLess l[i].1.toList l[i+1].1.toList=true:=this;rw[hb];refine aj.2 ?_;rw[cl hlt (by omega)];exact hI (i+1) _ _ ⟨rfl,rfl⟩ (by omega)
theorem JW(x:Hs)(lev:Nat)(l:List Pr):(fP x lev l).length+(iL x lev l).flatten.length=l.length:=by
 have h:=ra x lev l 32;have hle:(l.filter fun p=>decide (ck x lev p.1<32))=l:=List.filter_eq_self.2 fun p _=>decide_eq_true (JD ..)
 rw[hle]at h;have:∀n,(fm (fun c=>fM (part x lev c l)) n).length+(fm (fun c=>dU (part x lev c l)) n).flatten.length=((List.range n).map fun c=>(part x lev c l).length).sum:=by
  intro n;induction n with
  |zero=>simp[fm]
  |succ n ih=>
   rw[fE,fE,List.range_succ,cr,ii];simp only[ac,dI,di,List.map_nil,jQ,List.sum_nil,cQ];generalize part x lev n l=q;have:(fM q).toList.length+(dU q).toList.flatten.length=q.length:=by
    match q with
    | []=>simp[fM,dU]
    | [a]=>simp[fM,dU]
    |a::b::q=>simp[fM,dU]
   omega
 have:=this 32;unfold fP iL;omega
theorem Et{β:Type}{g:Nat→Option β}{k:Nat}:∀{c:Nat},k≤c→(∀j,k≤j→j<c→g j=none)→fm g c=fm g k
 |0,h,_=>by rw[show k=0 by omega]
 |c+1,h,hn=>by
  rcases cf k (c+1)with hk|hk
  ·rw[fE,hn c (by omega) (by omega),Et (by omega) fun j h1 h2=>hn j h1 (by omega)];simp
  ·rw[show k=c+1 by omega]
end Go.Proofs
namespace Go.Proofs
open Go Go.Lift
theorem JY{W:Nat→Prop}{x:Hs}{h:ad}{m:Nat}{s:Slots}{c:Nat}{l:List Pr}(t:SlotIs W x h m s c l)(hp:(s.p c).isSome):∃p,l= [p]∧s.p c=some p:=by
 rcases t with⟨_,h1,_⟩|⟨p,h0,h1,_⟩|⟨_,h1,_⟩
 ·rw[h1]at hp;cases hp
 ·exact⟨p,h0,h1⟩
 ·rw[h1]at hp;cases hp
theorem JZ{W:Nat→Prop}{x:Hs}{h:ad}{m:Nat}{s:Slots}{c:Nat}{l:List Pr}(t:SlotIs W x h m s c l)(hp:(s.k c).isSome):2≤l.length∧∃kb,s.k c=some (some ⟨kb,0,none⟩)∧TrieAt W x h m kb l:=by
 rcases t with⟨_,_,h2⟩|⟨p,_,_,h2⟩|⟨h0,_,kb,h2,h3⟩
 ·rw[h2]at hp;cases hp
 ·rw[h2]at hp;cases hp
 ·exact⟨h0,kb,h2,h3⟩
theorem DX{W:Nat→Prop}{h:ad}{s:SliceV}{way:List Nat}{c:Nat}{xs:List Value}(hs:Sl OD 1 W h s way)(hc:s.cap=s.len)(hl:way.length≤13)(hx:xs= [.int .i64 (c:Int)]){K:SliceV→ad→Prop}
  (hk:∀s' h',Sl OD 1 No h' s' (way++ [c])→s'.len≤s'.cap→Upd No h h'→K s' h'):AppP (some [.int .i64 0]) 1 8 ko s.a s.len s.cap 1 xs h K:=by
 subst hx;refine Gk (ys:= [c]) hs rfl rfl rfl (by omega) (by omega) (by simp;omega) fun s' h' ho hu=>hk s' h' (ho.sl fun _ _ _ h=>h) ho.cap hu
def OnWay(x:Hs)(way:List Nat)(l:List Pr):Prop:=∀p∈l,∀i c,way[i]? =some c→ck x i p.1=c
theorem OnWay.part{x:Hs}{way:List Nat}{l:List Pr}{c:Nat}(o:OnWay x way l):OnWay x (way++ [c]) (part x way.length c l):=fun p hp i d hd=>by
 have hp:=sW.1 hp;rcases cf i way.length with h|h
 ·rw[List.getElem?_append_left h]at hd;exact o p hp.1 i d hd
 ·rw[ax h]at hd
  have:i-way.length=0:=by have:=(List.getElem?_eq_some_iff.1 hd).1;simp at this;omega
  rw[this]at hd;simp only[List.getElem?_cons_zero,Option.some.injEq]at hd;subst hd;rw[show i=way.length by omega];exact hp.2
theorem MI{W:Nat→Prop}{x:Hs}:∀(m:Nat),m≤13→∀{h:ad} {b:Nat} {l:List Pr} {sw:SliceV} {way:List Nat},TrieAt W x h m b l→Tab h→Sl OD 1 No h sw way→sw.len≤sw.cap→way.length=13-m→OnWay x way l→d9 l→l.length≤60000→∀{K:Int×Bool→ad→Prop},(∀h',Upd No h h'→K ((l.length:Int),true) h')→
  HC PG lK [.agg #[.int .u64 x.k0,.int .u64 x.k1,.int .u64 x.mask],.pointer (some ⟨b,0,none⟩),.slice sw.a sw.len sw.cap] [.c (.int .i64),.c .bool] K h:=by
 intro m;induction m with
 |zero=>
  intro _ h b l sw way t tb hs hcp hw hwy hr hn K hk;refine uP (x.k0,x.k1,x.mask) (some ⟨b,0,none⟩) sw ?_;unfold qU cn ar nv uJ un jm bV aL aF im yH is ut B7 mG JQ wL Ds;refine aQ fun h1 b1 k1=>aQ fun h2 b2 k2=>aQ fun h3 b3 k3=>aQ fun h4 b4 k4=>aQ fun h5 b5 k5=>?_
  have k05:Upd No h h5:=(((k1.tr k2).tr k3).tr k4).tr k5;have c1:=k5.get0 (k4.get0 (k3.get0 (k2.get0 b1)));have c2:=k5.get0 (k4.get0 (k3.get0 b2));have c3:=k5.get0 (k4.get0 b3);have c4:=k5.get0 b4;have s1:=k1.size;have s2:=k2.size;have s3:=k3.size;have s4:=k4.size;have z3:=bw b3;have z4:=bw b4;have z5:=bw b5;obtain⟨sp,sk,ow,hb,hsp,_⟩:=(BuckAt.upd t k05 fun _ h=>h.elim:BuckAt W h5 b l).ex
  refine⟨_,xN c2,rb hb hsp (by omega) fun s8 h8 ho8 k8=>?_⟩
  refine⟨_,xN (k8.get0 c2),oh (k8.get0 hb) (aB.2 ?_)⟩;have d1:=k8.get0 c1;have d3:=k8.get0 c3;have d4:=k8.get0 c4;have d5:=k8.get0 b5;have s8':=k8.size;have hs8:Sl dD 2 No h8 s8 l:=ho8.sl fun _ _ _ h=>h
  have hlen:=hs8.len;have hwl:=hs.len;have hs':Sl OD 1 No h8 sw way:=(hs.upd k05 fun _ h=>h.elim).upd k8 fun _ h=>h.elim
  refine Join.plain ⟨sw,xN d3,?_⟩;rw[show((sw.len:Int) !=(13:Int))=false by rw[bne_eq_false_iff_eq];omega]
  refine aj.2 (Ko hs8 hr (by omega) (aj.2 ?_));refine LoopP.ghost (fun(i:Nat) (t:Int) h'=>t=(i:Int)∧i≤l.length∧Upd No h8 h') (fun i=>l.length-i) 0 ⟨rfl,aK _,Upd.refl _ _⟩ ?_
  rintro I i t h' ⟨rfl,hi,hu⟩ hI;refine av (fun hlt=>?_) fun hge=>?_
  ·have hlt:i<l.length:=by omega
   obtain⟨a,ha,_,hv⟩:=(hs8.upd hu fun _ h=>h.elim).at (ae hlt)
   refine⟨⟨by omega,by omega⟩,a,ha,_,hv 0 _ rfl,_,hv 1 _ rfl,py (p:=l[i]) fun h9 b9 k9=>?_⟩
   have u9:=hu.tr k9;refine⟨_,vc (u9.get0 d1) 0,_,vc (u9.get0 d1) 1,_,vc (u9.get0 d1) 2,_,vc b9 0,sw,xN (u9.get0 d3),zU fun h10 k10=>⟨xN (k10.get0 (u9.get0 d3)),?_⟩⟩
   refine AR ((hs'.upd u9 fun _ h=>h.elim).upd k10 fun _ h=>h.elim) (by omega) (fun j c hj=>hwy _ (bN hlt) j c hj) (aj.2 ?_)
   rw[cl hlt (by omega)];exact hI (i+1) _ _ ⟨rfl,hlt,u9.tr k10⟩ (by omega)
  ·have hil:i=l.length:=by omega
   subst hil;refine Ai (hu.get0 d4) (by simp) rfl fun h9 b9 u9=>Ai (u9.oth (hu.get0 d5) (by omega)) (by simp) rfl fun h10 b10 u10=>?_
   refine⟨_,xN (u10.oth b9 (by omega)),_,xN b10,?_⟩;have e:((s8.len:Nat):Int)=(l.length:Int):=by omega
   rw[e];exact hk _ ((((k05.tr k8).tr hu).own u9 (by omega)).own u10 (by omega))
 |succ m ih=>
  intro hm h b l sw way t tb hs hcp hw hwy hr hn K hk;refine uP (x.k0,x.k1,x.mask) (some ⟨b,0,none⟩) sw ?_;unfold qU cn ar nv uJ un jm bV aL aF im yH is ut B7 mG JQ wL Ds;obtain⟨sl,nd,hs0⟩:=t;have hsl:∀c,c<32→SlotIs W x h m sl c (part x (12-m) c l):=hs0;refine aQ fun h1 b1 k1=>aQ fun h2 b2 k2=>aQ fun h3 b3 k3=>aQ fun h4 b4 k4=>aQ fun h5 b5 k5=>?_
  have k05:Upd No h h5:=(((k1.tr k2).tr k3).tr k4).tr k5;have c1:=k5.get0 (k4.get0 (k3.get0 (k2.get0 b1)));have c2:=k5.get0 (k4.get0 (k3.get0 b2));have c3:=k5.get0 (k4.get0 b3);have c4:=k5.get0 b4;have s1:=k1.size;have s2:=k2.size;have s3:=k3.size;have s4:=k4.size;have z1:=bw b1;have z2:=bw b2;have z3:=bw b3;have z4:=bw b4;have z5:=bw b5;obtain⟨d,n,sp,sk,ow,hb,bits,hsp,hsk,_⟩:=(nd.upd k05 fun _ h=>h.elim).ex
  have hfp:(fm sl.p 32).length≤32:=wQ;refine⟨_,xN c2,rb hb hsp (by omega) fun s8 h8 ho8 k8=>?_⟩
  refine⟨_,xN (k8.get0 c2),oh (k8.get0 hb) (aj.2 ⟨sw,xN (k8.get0 c3),?_⟩)⟩;have k08:=k05.tr k8;have hl8:=ho8.len;rw[D6 hsl]at hl8;have hwl:=hs.len;rw[decide_eq_false (by omega)];refine aj.2 (aQ fun h9 b9 k9=>?_)
  have u9:=k8.tr k9;have s8':=k8.size;have z9:=bw b9;refine Ai b9 (by simp) rfl fun h10 b10 u10=>?_
  have d1:=u10.oth (u9.get0 c1) (by omega);have d2:=u10.oth (u9.get0 c2) (by omega);have d3:=u10.oth (u9.get0 c3) (by omega);have d4:=u10.oth (u9.get0 c4) (by omega);have d5:=u10.oth (u9.get0 b5) (by omega);refine⟨sw,xN d3,sw,xN d3,sw,xN d3,⟨by omega,by omega⟩,⟨by omega,by omega⟩,?_⟩
  refine Ai d3 (by simp) rfl fun h11 b11 u11=>?_
  have k011:Upd No h h11:=((k08.tr k9).own u10 (by omega)).own u11 (by omega);have e1:=u11.oth d1 (by omega);have e2:=u11.oth d2 (by omega);have e4:=u11.oth d4 (by omega);have e5:=u11.oth d5 (by omega);have e9:=u11.oth b10 (by omega);have s11:=k011.size;have s10a:=u10.size;have s11a:=u11.size;have hs11:Sl OD 1 (fun y=>h.size≤y) h11 ⟨aZ sw.a 0 ((sw.len:Int).toNat) 1,((sw.len:Int).toNat)-0,((sw.len:Int).toNat)-0⟩ way:=by
   have:=Sl.sub ((hs.less (W':=fun y=>h.size≤y) fun _ h=>.inr h).upd k011 fun _ h=>h.elim) (l:=0) (hi:=sw.len) (m:=sw.len) (c:=sw.len-0) (aK _) (by omega) (ag _)
   rw[List.drop_zero,List.take_of_length_le (by omega)]at this;exact this
  have hcw:(⟨aZ sw.a 0 ((sw.len:Int).toNat) 1,((sw.len:Int).toNat)-0,((sw.len:Int).toNat)-0⟩:SliceV).cap=(⟨aZ sw.a 0 ((sw.len:Int).toNat) 1,((sw.len:Int).toNat)-0,((sw.len:Int).toNat)-0⟩:SliceV).len:=rfl;have b11':h11[h2.size]? =some (.cells #[sv ⟨aZ sw.a 0 ((sw.len:Int).toNat) 1,((sw.len:Int).toNat)-0,((sw.len:Int).toNat)-0⟩] I6 (0,0)):=b11;clear b11;generalize (⟨aZ sw.a 0 ((sw.len:Int).toNat) 1,((sw.len:Int).toNat)-0,((sw.len:Int).toNat)-0⟩:SliceV)=s0 at hs11 hcw b11'
  obtain⟨d',n',sp',sk',ow',hb',bits',_⟩:=(nd.upd k011 fun _ h=>h.elim).ex
  have tb11:=tb.upd k011 id;refine⟨_,xN e2,Ew hb' (rl d' (aQ fun h12 b12 k12=>?_))⟩
  have s12:=k12.size;have z12:=bw b12;refine Db (d:=d') bits'.d32 b12 (fun k h'=>Upd No h11 h') No (fun k h1 hi=>tb11.upd hi id) k12 (fun k ha hb hi hle hu=>hi.trans hu fun y hy=>.inr (by omega)) (fun _ h=>h.elim) (fun k c ha KK hi hkc hc hdc _ hK=>?_) fun k ha hi _ hde=>?_
  ·
   have hdc':=hdc;rw[bits'.dp c hc]at hdc';obtain⟨p,hp1,hp2⟩:=JY (hsl c hc) hdc';refine⟨_,xN (hi.get0 e2),Mg (nd.upd (k011.tr hi) fun _ h=>h.elim) hc fun hb kb=>?_⟩
   rw[hp2];have ib:=hi.tr kb;refine py (p:=p) fun hc' bc kc=>?_
   have ic:=ib.tr kc;have hon:∀i c',(way++ [c])[i]? =some c'→ck x i p.1=c':=by
    have:=hwy.part (c:=c);rw[hw,show 13-(m+1)=12-m by omega,hp1]at this
    exact this p (aJ.2 rfl)
   refine Join.intro (fun t hd=>t=false∧Upd No hc' hd) (fun R hR=>?_) ?_
   ·refine⟨_,vc (ic.get0 e1) 0,_,vc (ic.get0 e1) 1,_,vc (ic.get0 e1) 2,_,vc bc 0,s0,xN (ic.get0 b11'),?_,?_⟩
    ·refine zU fun hd kd=>⟨xN (kd.get0 (ic.get0 b11')),aQ fun he be ke=>⟨xN (ke.get0 (kd.get0 (ic.get0 b11'))),_,jo be,?_⟩⟩
     refine DX (((hs11.upd ic fun _ h=>h.elim).upd kd fun _ h=>h.elim).upd ke fun _ h=>h.elim) hcw (by omega) rfl fun s' hf hsf _ kf=>?_
     exact AR hsf (by simp;omega) hon (hR _ _ ⟨rfl,(kd.tr ke).tr kf⟩)
    ·refine aQ fun hd bd kd=>⟨xN (kd.get0 (ic.get0 b11')),vc (kd.get0 bc) 0,⟨vc (kd.get0 (ic.get0 e1)) 0,vc (kd.get0 (ic.get0 e1)) 1,vc (kd.get0 (ic.get0 e1)) 2⟩,?_⟩
     refine zU fun he ke=>⟨xN (ke.get0 (kd.get0 (ic.get0 b11'))),_,jo (ke.get0 bd),?_⟩
     refine DX (((hs11.upd ic fun _ h=>h.elim).upd kd fun _ h=>h.elim).upd ke fun _ h=>h.elim) hcw (by omega) rfl fun s' hf hsf _ kf=>?_
     exact AR hsf (by simp;omega) hon (hR _ _ ⟨rfl,(kd.tr ke).tr kf⟩)
   ·rintro t hd ⟨rfl,kd⟩
    exact aj.2 (hK hd (ic.tr kd) ((kb.tr kc).tr kd))
  ·
   obtain⟨d'',n'',sp'',sk'',ow'',hb'',bits'',_⟩:=(nd.upd (k011.tr hi) fun _ h=>h.elim).ex
   refine⟨_,xN (hi.get0 e2),AM hb'' (rl n'' (aQ fun h13 b13 k13=>?_))⟩
   have i13:=hi.tr k13;have s13:=k13.size;have z13:=bw b13;have sa:=hi.size;have zde:=bw hde;have hl8':s8.len=(fP x (12-m) l).length:=hl8;have hall:=JW x (12-m) l;have hfl:∀k,(fm (fun c=>dU (part x (12-m) c l)) k).flatten.length≤60000∨32<k:=fun k=>by
    rcases cf 32 k with h|h
    ·exact .inr h
    ·refine .inl ?_
     have:((fm (fun c=>dU (part x (12-m) c l)) k).flatten).length≤(iL x (12-m) l).flatten.length:=by
      unfold iL;have hj:∀j,∃r,fm (fun c=>dU (part x (12-m) c l)) (k+j)=fm (fun c=>dU (part x (12-m) c l)) k++r:=fun j=>by
       induction j with
       |zero=>exact⟨[],by simp⟩
       |succ j ihj=>obtain⟨r,hr⟩:=ihj;exact⟨r++(dU (part x (12-m) (k+j) l)).toList,by rw[←Nat.add_assoc,fE,hr,ao]⟩
      have this:=hj (32-k);rw[show k+(32-k)=32 by omega]at this
      obtain⟨r,hr⟩:=this;rw[hr,dI,ac];omega
     omega
   refine Db (d:=n'') bits''.n32 b13 (fun k h'=>k≤32∧Upd (· =h8.size) ha h'∧h'[h8.size]? =some (.cells #[.int .i64 (((fP x (12-m) l).length+(fm (fun c=>dU (part x (12-m) c l)) k).flatten.length:Nat):Int)] ko (0,0))) (· =h8.size)
    (fun k hx hy=>(tb11.upd hi id).upd hy.2.1 fun e=>by have e:0=h8.size:=e;omega) ⟨aK _,k13.wide,?_⟩ (fun k hx hy hz hle hu=>⟨hz.1,hz.2.1.trans hu fun y hy=>.inr (by omega),hu.get hz.2.2 (by omega)⟩) (fun y hy=>⟨by have hy:y=h8.size:=hy;omega,by have hy:y=h8.size:=hy;omega⟩) (fun k c hx KK hy hkc hc hnc hno hK=>?_) fun k hx hy hno hdx=>?_
   ·have:=i13.get0 e9
    rw[show((fP x (12-m) l).length+(fm (fun c=>dU (part x (12-m) c l)) 0).flatten.length:Nat)=s8.len by rw[hl8'];simp[fm]]
    exact this
   ·obtain⟨hk32,hux,hcx⟩:=hy
    have hnc':=hnc;rw[bits''.nk c hc]at hnc';obtain⟨h2l,kb,hkb,tk⟩:=JZ (hsl c hc) hnc';have gx:∀{y:Nat} {o:Obj},h11[y]? =some o→y≠h8.size→hx[y]? =some o:=fun hy hne=>hux.get (hi.get0 hy) hne
    have uW:Upd No h hx:=(k011.tr hi).trans hux fun y hy=>.inr (by have hy:y=h8.size:=hy;omega)
    refine⟨_,xN (gx e2 (by omega)),NX (nd.upd uW fun _ h=>h.elim) hc ?_⟩
    rw[hkb];have hmc:dU (part x (12-m) c l)=some (part x (12-m) c l):=by unfold dU;rw[if_pos h2l]
    have hskip:fm (fun c=>dU (part x (12-m) c l)) c=fm (fun c=>dU (part x (12-m) c l)) k:=Et hkc fun j h1 h2=>by
     have:=hno j h1 h2;rw[bits''.nk j (by omega),(As (hsl j (by omega))).2]at this;simpa using this
    have hnext:(fm (fun c=>dU (part x (12-m) c l)) (c+1)).flatten.length=(fm (fun c=>dU (part x (12-m) c l)) k).flatten.length+(part x (12-m) c l).length:=by
     rw[fE,hskip,hmc];simp
    have hpl:(part x (12-m) c l).length≤l.length:=nZ;refine Join.intro (fun t hd=>t=(((part x (12-m) c l).length:Int),true)∧Upd No hx hd) (fun R hR=>?_) ?_
    ·refine⟨_,vc (gx e1 (by omega)) 0,_,vc (gx e1 (by omega)) 1,_,vc (gx e1 (by omega)) 2,s0,xN (gx b11' (by omega)),aQ fun hd bd kd=>?_⟩
     refine⟨xN (kd.get0 (gx b11' (by omega))),⟨vc (kd.get0 (gx e1 (by omega))) 0,vc (kd.get0 (gx e1 (by omega))) 1,vc (kd.get0 (gx e1 (by omega))) 2⟩,_,jo bd,?_⟩;have hsx:Sl OD 1 (fun y=>h.size≤y) hd s0 way:=((hs11.upd hi fun _ h=>h.elim).upd hux fun y hy=>.inl (by have hy:y=h8.size:=hy;omega)).upd kd fun _ h=>h.elim
     refine DX hsx hcw (by omega) rfl fun s' he hse hce ke=>?_
     have gE:=kd.tr ke;refine⟨⟨vc (gE.get0 (gx e1 (by omega))) 0,vc (gE.get0 (gx e1 (by omega))) 1,vc (gE.get0 (gx e1 (by omega))) 2⟩,?_⟩;refine ih (by omega) (TrieAt.upd0 (uW.tr gE) tk) (tb.upd (uW.tr gE) id) hse hce (by simp;omega) ?_ (rD hr) (by omega) fun hf kf=>hR _ _ ⟨rfl,gE.tr kf⟩
     have:=hwy.part (c:=c);rw[hw,show 13-(m+1)=12-m by omega]at this
     exact this
    ·rintro t hd ⟨rfl,kd⟩
     refine Join.plain (aj.2 ?_);rw[decide_eq_false (by simp only;omega)];refine aj.2 ⟨_,xN (kd.get0 hcx),?_⟩;have hf1:=(hfl k).resolve_right (by omega);have hS:(fP x (12-m) l).length≤60000:=by omega
     refine Ai (c':= #[.int .i64 (((fP x (12-m) l).length+(fm (fun c=>dU (part x (12-m) c l)) (c+1)).flatten.length:Nat):Int)]) (kd.get0 hcx) (by simp) ?_ fun hf bf uf=>?_
     ·rw[hnext]
      have:IntKind.wrap .i64 ((((fP x (12-m) l).length+(fm (fun c=>dU (part x (12-m) c l)) k).flatten.length:Nat):Int)+((part x (12-m) c l).length:Int))=(((fP x (12-m) l).length+((fm (fun c=>dU (part x (12-m) c l)) k).flatten.length+(part x (12-m) c l).length):Nat):Int):=by rw[fL (by omega)];omega
      simp only[this];rfl
     ·exact hK hf ⟨hc,(hux.tr kd.wide).tr uf,bf⟩ (kd.wide.tr uf)
   ·obtain⟨hk32,hux,hcx⟩:=hy
    have gx:∀{y:Nat} {o:Obj},h11[y]? =some o→y≠h8.size→hx[y]? =some o:=fun hy hne=>hux.get (hi.get0 hy) hne
    have hkm:fm (fun c=>dU (part x (12-m) c l)) 32=fm (fun c=>dU (part x (12-m) c l)) k:=Et hk32 fun j h1 h2=>by
     have:=hno j h1 h2;rw[bits''.nk j (by omega),(As (hsl j (by omega))).2]at this;simpa using this
    have ev:((fP x (12-m) l).length+(fm (fun c=>dU (part x (12-m) c l)) k).flatten.length:Nat)=l.length:=by rw[←hkm];exact hall
    rw[ev]at hcx;have sx:=hux.size;refine⟨_,xN hcx,Ai (gx e4 (by omega)) (by simp) rfl fun hf bf uf=>Ai (uf.oth (gx e5 (by omega)) (by omega)) (by simp) rfl fun hg bg ug=>?_⟩
    have sf:=uf.size;have sg:=ug.size;have g2:=ug.oth (uf.oth hdx (by omega)) (by omega);have kh:Upd (· =h13.size) hg (hg.setIfInBounds h13.size (.deferred none)):=Upd.set _ _ rfl
    refine⟨g2,bM ?_⟩;generalize hg.setIfInBounds h13.size (.deferred none)=hh at kh;have g3:=kh.oth (ug.oth (uf.oth (hux.get hde (by omega)) (by omega)) (by omega)) (by omega);have kj:Upd (· =h12.size) hh (hh.setIfInBounds h12.size (.deferred none)):=Upd.set _ _ rfl
    refine⟨g3,bM ?_⟩;generalize hh.setIfInBounds h12.size (.deferred none)=hj at kj;refine⟨_,xN (kj.oth (kh.oth (ug.oth bf (by omega)) (by omega)) (by omega)),_,xN (kj.oth (kh.oth bg (by omega)) (by omega)),?_⟩;refine hk hj ?_;refine(((((k011.tr hi).trans hux fun y hy=>.inr ?_).own uf (by omega)).own ug (by omega)).own kh (by omega)).own kj (by omega)
    have hy:y=h8.size:=hy;omega
end Go.Proofs
namespace Go.Proofs
open Go Go.Lift
theorem Az{W:Nat→Prop}{h:ad}{b:Nat}{sl val:ByteArray}{has:Bool}{s:SliceV}{ow:Option Addr}{ks:List (Option Addr)}{F:Fo}(hb:h[b]? =some (.cells (Nf sl has val s ow) fp (0,0))) (hs:Sl yQ 1 W h s ks) (hL:RxL W h ks F.toL) (hc:jA F) {K:Bool→ad→Prop} (hk:K true h):HC PG js [.pointer (some ⟨b,0,none⟩)] [.c .bool] K h:=by
 refine vV (some ⟨b,0,none⟩) ?_;unfold pT bR cn aL bU;refine⟨_,rfl,s,ji (i:=3) hb,?_⟩;have hlen:=hs.len;rw[hL.1]at hlen;have h256:=kY hc;have hcF:=lO.1 hc;refine LoopP.ghost (fun(i:Nat) (t:Int) h'=>t=(i:Int)∧i≤F.toL.length∧h'=h) (fun i=>F.toL.length-i) 0 ⟨rfl,aK _,rfl⟩ ?_
 rintro I i t h' ⟨rfl,hi,rfl⟩ hI;refine av (fun hlt=>?_) fun _=>hk
 have hlt:i<F.toL.length:=by omega
 obtain⟨kb,ksl,hki,hkl,kv,kval,ks',kk,kb1,_⟩:=hL.at hlt;obtain⟨a,ha,_,hv⟩:=hs.at0 hki;have hne:ksl.data.toList≠[]:=by rw[hkl];exact(hcF.2 _ (bN hlt)).1
 have e0:(ksl.toList==(⟨#[]⟩:ByteArray).toList)=false:=by
  rw[beq_eq_false_iff_ne,ByteArray.toList_eq,ByteArray.toList_eq];exact hne
 obtain⟨c,hc0,hc1⟩:=Mn hne;refine⟨⟨by omega,by omega⟩,a,ha,_,hv,Join.intro (fun t h2=>t=false∧h2=h') (fun R hR=>?_) ?_⟩
 ·refine⟨_,rfl,ksl,ji (i:=0) kb1,?_⟩
  rw[e0];refine aj.2 (av (fun hgt=>?_) fun _=>hR _ _ ⟨rfl,rfl⟩)
  have hpos:0<i:=by have:(i:Int)>0:=hgt;omega
  have e1:IntKind.wrap .i64 ((i:Int)-1)=((i-1:Nat):Int):=by rw[fL (by omega)];omega
  rw[e1];have hlt2:i-1<F.toL.length:=by omega
  obtain⟨jb,jsl,hji,hjl,jv,jval,js',jk,jb1,_⟩:=hL.at hlt2;obtain⟨a',ha',_,hv'⟩:=hs.at0 hji;have hne2:jsl.data.toList≠[]:=by rw[hjl];exact(hcF.2 _ (bN hlt2)).1
  obtain⟨d,hd0,hd1⟩:=Mn hne2;refine⟨_,rfl,s,ji (i:=3) hb,⟨by omega,by omega⟩,a',ha',_,hv',_,rfl,jsl,ji (i:=0) jb1,d,by decide,hd0,_,rfl,ksl,ji (i:=0) kb1,c,by decide,hc0,hR _ _ ⟨?_,rfl⟩⟩
  have:=fF.1 hcF.1 (i-1) i hlt2 hlt (by omega);rw[hkl]at hc1;rw[hjl]at hd1;exact decide_eq_false (by omega)
 ·rintro t h2 ⟨rfl,rfl⟩
  refine aj.2 ?_;rw[cl hlt (by omega)];exact hI (i+1) _ _ ⟨rfl,hlt,rfl⟩ (by omega)
theorem DK{W:Nat→Prop}{h:ad}{s:SliceV}{ks:List (Option Addr)}{L:List Bn}{f:FuncId}(hs:Sl yQ 1 W h s ks)(hL:RxL W h ks L)(hn:L.length≤256)(hf:∀i (hi:i<L.length) {b:Nat} {sl:ByteArray},RxN W h b sl L[i].2.1 L[i].2.2→∀{K:Bool→ad→Prop},K false h→HC PG f [.pointer (some ⟨b,0,none⟩)] [.c .bool] K h){K:Bool→ad→Prop}(hk:K false h):
  HC PG cB [.slice s.a s.len s.cap,.func (.func f) #[] #[]] [.c .bool] K h:=by
 refine hE s _ ?_;unfold eC bV;refine iI s _ ?_;unfold eR bR cn;have hlen:=hs.len;rw[hL.1]at hlen;refine LoopP.ghost (fun(i:Nat) (t:Int) h'=>t=(i:Int)∧i≤L.length∧h'=h) (fun i=>L.length-i) 0 ⟨rfl,aK _,rfl⟩ ?_
 rintro I i t h' ⟨rfl,hi,rfl⟩ hI;refine av (fun hlt=>?_) fun _=>hk
 have hlt:i<L.length:=by omega
 obtain⟨kb,ksl,hki,hkl,kn⟩:=hL.at hlt;obtain⟨a,ha,_,hv⟩:=hs.at0 hki;refine⟨⟨by omega,by omega⟩,a,ha,_,hv,HV.mk' (hf i hlt kn (aj.2 ?_))⟩
 rw[cl hlt (by omega)];exact hI (i+1) _ _ ⟨rfl,hlt,rfl⟩ (by omega)
def QI(n:Bn):Prop:=∀{W:Nat→Prop} {h:ad} {b:Nat} {sl:ByteArray},RxN W h b sl n.2.1 n.2.2→∀{K:Bool→ad→Prop},K true h→HC PG iR [.pointer (some ⟨b,0,none⟩)] [.c .bool] K h
theorem Pq{lab:List UInt8}{w:Option ByteArray}{F:Fo}(hc:jA F)(hw:w.isSome∨2≤F.toL.length)(ih:∀n∈F.toL,QI n):QI (lab,w,F):=by
 intro W h b sl r K hk;simp only at r;obtain⟨val,s,ow,ks,hb,hv,hs,hcp,hF⟩:=r;have hL:=rB.1 hF;have hlen:=hs.len;rw[hL.1]at hlen;refine ux (some ⟨b,0,none⟩) ?_;unfold o8 hH bU;refine Join.intro (fun t h'=>t=false∧h'=h) (fun R hR=>?_) ?_
 ·refine Az hb hs hL hc (aj.2 ⟨_,rfl,w.isSome,ji (i:=1) hb,?_⟩)
  cases hwS:w.isSome with
  |true=>exact aj.2 (hR _ _ ⟨rfl,rfl⟩)
  |false=>
   refine aB.2 ⟨_,rfl,s,ji (i:=3) hb,hR _ _ ⟨decide_eq_false ?_,rfl⟩⟩;rw[hwS]at hw;rcases hw with hw|hw
   ·cases hw
   ·omega
 ·rintro t h' ⟨rfl,rfl⟩
  refine aj.2 ⟨_,rfl,s,ji (i:=3) hb,DK hs hL (kY hc) (fun i hi b sl kn K' hk'=>?_) hk⟩
  refine sI _ ?_;unfold nl;exact ih _ (bN hi) kn hk'
theorem EF:∀{F:Fo},jA F→∀n∈F.toL,QI n
 | .nil,_,n,hn=>by simp[Fo.toL]at hn
 | .cons lab w kids rest,h,n,hn=>by
  rcases az.1 hn with rfl|hn
  ·exact Pq h.2.2.1 h.2.1 (EF h.2.2.1)
  ·exact EF h.2.2.2.2 n hn
theorem Hb{W:Nat→Prop}{h:ad}{b:Nat}{l:List Pr}(t:RadAt W h b l){K:Bool→ad→Prop}(hk:K true h):HC PG qM [.pointer (some ⟨b,0,none⟩)] [.c .bool] K h:=by
 obtain⟨w,F,r,hc,_⟩:=t.ex;obtain⟨val,s,ow,ks,hb,hv,hs,hcp,hF⟩:=r;have hL:=rB.1 hF;refine Cz (some ⟨b,0,none⟩) ?_;unfold uX aL bU;refine aB.2 ⟨_,rfl,_,ji (i:=0) hb,?_⟩;rw[beq_self_eq_true];refine aB.2 (Az hb hs hL hc (aB.2 ⟨_,rfl,s,ji (i:=3) hb,DK hs hL (kY hc) (fun i hi b sl kn K' hk'=>?_) hk⟩))
 refine zA _ ?_;unfold sy;exact EF hc _ (bN hi) kn hk'
theorem JV{W:Nat→Prop}{x:Hs}{h:ad}{kind:Int}{t:Tr}{l:List Pr}(i:TreeIs W h kind x t l)(tb:Tab h)(hr:d9 l)(hn:l.length≤60000){K:Bool→ad→Prop}(hk:∀h',Upd No h h'→K true h'):HC PG mP [GV t] [.c .bool] K h:=by
 refine xh t ?_;unfold qq bW ar bD un qV B5 eB;refine aQ fun h1 b1 k1=>⟨_,vc b1 0,?_⟩
 rcases i with⟨_,b,rfl,t⟩|⟨_,b,rfl,t⟩
 ·refine aj.2 ⟨_,xO b1 1 0,_,xO b1 1 1,_,xO b1 1 2,_,vc b1 0,_,vc b1 1,_,vc b1 2,_,vc b1 3,_,vc b1 4,_,vc b1 5,?_⟩
  refine C0 (TrieAt.upd0 k1 t) fun h2 k2=>⟨⟨xO (k2.get0 b1) 1 0,xO (k2.get0 b1) 1 1,xO (k2.get0 b1) 1 2⟩,?_⟩
  refine Cw (x.k0,x.k1,x.mask) _ ?_;unfold uT ar uJ un ut;refine aQ fun h3 b3 k3=>aj.2 ⟨_,vc b3 0,_,vc b3 1,_,vc b3 2,?_⟩
  have k03:=(k1.tr k2).tr k3;refine MI 13 (ag _) (sw:=⟨none,0,0⟩) (way:= []) (TrieAt.upd0 k03 t) (tb.upd k03 id) (Sl.nil O8) (ag _) rfl (fun p _ i c hc=>by simp at hc) hr hn fun h4 k4=>?_
  exact hk h4 (k03.tr k4)
 ·refine aB.2 ⟨_,vc b1 5,Hb (t.upd0 k1) (hk h1 k1)⟩
end Go.Proofs
namespace Go.Proofs
open Go Go.Lift
structure Sm(n:Nat)(L:List Pr):Prop where
 up:d9 L
 len:L.length≤n
 fit:∀p∈L,p.1.size≤40∧p.2.size≤40
theorem LM{A:List Pr}{i:Nat}(hi:i<A.length):lG (A.take (i+1))=lI A[i] (lG (A.take i)):=by
 unfold lG;rw[aX hi,List.foldl_append];rfl
end Go.Proofs
namespace Go.Proofs
open Go Go.Lift
theorem FB:∀F:Fo,(ur F).length=(F.toL.map fun n=>(lv n.2.1 n.2.2).length).sum
 | .nil=>rfl
 | .cons lab w kids rest=>by
  rw[Dd,Fo.toL_cons,di,jQ,←FB rest,ac,cg];rfl
def Py(n:Bn):Prop:=∀{W:Nat→Prop} {h:ad} {b:Nat} {sl:ByteArray},RxN W h b sl n.2.1 n.2.2→(lv n.2.1 n.2.2).length≤1000000000→∀{K:Int→ad→Prop},(∀h',Upd No h h'→K (((lv n.2.1 n.2.2).length:Nat):Int) h')→HC PG qg [.pointer (some ⟨b,0,none⟩)] [.c (.int .i64)] K h
theorem Jm{lab:List UInt8}{w:Option ByteArray}{F:Fo}(hn:F.toL.length≤256)(ih:∀n∈F.toL,Py n):Py (lab,w,F):=by
 intro W h b sl r hl K hk;simp only at r hl hk;refine Gs (some ⟨b,0,none⟩) ?_;unfold zh bR cn bV Ks;have hpl:(lv w F).length=(w.map fun v=>(([]:List UInt8),v)).toList.length+(F.toL.map fun n=>(lv n.2.1 n.2.2).length).sum:=by
  rw[←FB,←ac];rfl
 refine Join.intro (fun t h'=>t=(((w.map fun v=>(([]:List UInt8),v)).toList.length:Nat):Int)∧h'=h) (fun R hR=>?_) ?_
 ·refine Ay r fun v _=>?_
  cases w with
  |none=>exact aj.2 (hR _ _ ⟨rfl,rfl⟩)
  |some u=>exact aB.2 (hR _ _ ⟨rfl,rfl⟩)
 ·rintro t h' ⟨rfl,rfl⟩
  generalize (w.map fun v=>(([]:List UInt8),v)).toList.length=c0 at hpl
  refine C4 r hn fun s1 h1 ks ho1 hL1 k1=>?_
  have hs1:Sl yQ 1 No h1 s1 ks:=ho1.sl fun _ _ _ h=>h
  have hlen:=hs1.len;rw[hL1.1]at hlen;refine LoopP.ghost (fun(i:Nat) (t:Int×Int) h2=>t.1=((c0+((F.toL.take i).map fun n=>(lv n.2.1 n.2.2).length).sum:Nat):Int)∧t.2=(i:Int)∧i≤F.toL.length∧Upd No h1 h2) (fun i=>F.toL.length-i) 0 ⟨by simp,rfl,aK _,Upd.refl _ _⟩ ?_
  rintro I i ⟨ta,ti⟩ h2 ⟨e1,e2,hi,hu⟩ hI;simp only at e1 e2;subst e1 e2;have hle:∀i,((F.toL.take i).map fun n=>(lv n.2.1 n.2.2).length).sum≤(F.toL.map fun n=>(lv n.2.1 n.2.2).length).sum:=fun i=>by
   conv=>rhs;rw[←List.take_append_drop i F.toL,cr,ii]
   omega
  refine av (fun hlt=>?_) fun hge=>?_
  ·have hlt:i<F.toL.length:=by have:(i:Int)<(s1.len:Int):=hlt;omega
   obtain⟨kb,ksl,hki,_,hkn⟩:=(hL1.upd0 hu).at hlt;obtain⟨a,ha,_,hv⟩:=(hs1.upd hu fun _ h=>h.elim).at0 hki
   refine⟨⟨by simp only;omega,by simp only;omega⟩,a,ha,some ⟨kb,0,none⟩,hv,?_⟩
   have hst:((F.toL.take (i+1)).map fun n=>(lv n.2.1 n.2.2).length).sum=((F.toL.take i).map fun n=>(lv n.2.1 n.2.2).length).sum+(lv F.toL[i].2.1 F.toL[i].2.2).length:=by
    rw[aX hlt,cr,ii];simp
   have h1:=hle (i+1);refine ih _ (bN hlt) hkn (by omega) fun h3 hu3=>?_
   rw[cl hlt (by omega)];have e:IntKind.wrap .i64 (((c0+((F.toL.take i).map fun n=>(lv n.2.1 n.2.2).length).sum:Nat):Int)+((lv F.toL[i].2.1 F.toL[i].2.2).length:Int))=((c0+((F.toL.take (i+1)).map fun n=>(lv n.2.1 n.2.2).length).sum:Nat):Int):=by
    rw[fL (by omega)];omega
   rw[e];exact hI (i+1) _ _ ⟨rfl,rfl,hlt,hu.tr hu3⟩ (by omega)
  ·have hil:i=F.toL.length:=by have:¬(i:Int)<(s1.len:Int):=hge;omega
   subst hil;rw[List.take_length,←hpl];exact hk h2 (k1.tr hu)
theorem AQ:∀{F:Fo},jA F→∀n∈F.toL,Py n
 | .nil,_,n,hn=>by simp[Fo.toL]at hn
 | .cons lab w kids rest,h,n,hn=>by
  rcases az.1 hn with rfl|hn
  ·exact Jm (kY h.2.2.1) (AQ h.2.2.1)
  ·exact AQ h.2.2.2.2 n hn
theorem LJ{W:Nat→Prop}{x:Hs}{h:ad}{t:Tr}{l:List Pr}(i:TreeIs W h 1 x t l)(hr:d9 l)(hn:l.length≤60000){K:Int→ad→Prop}(hk:∀h',Upd No h h'→K (l.length:Int) h'):HC PG ie [GV t] [.c (.int .i64)] K h:=by
 refine oN t ?_;unfold l9 bW bD qV bV;rcases i with⟨e,_⟩|⟨_,b,rfl,t⟩
 ·cases e
 refine aQ fun h1 b1 k1=>⟨_,vc b1 0,aB.2 ⟨_,vc b1 5,?_⟩⟩
 obtain⟨w,F,r1,r2,r3⟩:=(t.upd0 k1).ex;have hp:=zO r2 hr r3;have hpl:=congrArg dX hp;unfold Al at hpl;rw[cg]at hpl;refine Jm (lab:= []) (kY r2) (AQ r2) r1 (by simp only;omega) fun h2 k2=>?_
 simp only;rw[hpl];exact hk h2 (k1.tr k2)
theorem LL{t:Tr}{h:ad}{K:Int→ad→Prop}(hk:∀h',Upd No h h'→K t.1 h'):HC PG nz [GV t] [.c (.int .i64)] K h:=by
 refine yv t ?_;unfold rm bW qV;exact aQ fun h1 b1 k1=>⟨_,vc b1 0,hk h1 k1⟩
end Go.Proofs
