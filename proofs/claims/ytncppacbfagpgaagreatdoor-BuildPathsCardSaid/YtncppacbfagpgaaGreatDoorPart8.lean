/- A part of the proof that the named laws of this program answer true, whatever the input. -/
import Derived.Test.YtncppacbfagpgaaGreatDoorPart7
import Derived.Test.YtncppacbfagpgaaGreatDoorPart4
import Derived.Test.YtncppacbfagpgaaGreatDoorPart0
open ByteArray renaming data_append→nu,mk→lu
open Int renaming toNat_natCast→aR
open List renaming length_map→cA,map_append→cz,length_append→ac,length_singleton→aD,getElem?_append_right→av,mem_singleton→aC,length_eq_zero_iff→ar,length→dw,length_cons→aq,foldl_cons→hJ,mem_cons→ay,pairwise_cons→aO,filter_eq_self→lK,any_eq_true→bW,any_cons→om,mem_range→gU,length_drop→aG,length_take→aB,append_cancel_left→d7,getElem_mem→bE,mem_append→bI,getElem_of_mem→aW,mem_of_getElem→lI,drop_left→eW
open Nat renaming le_refl→ao,sub_self→cF,le_of_eq→dX,lt_of_lt_of_le→aL,zero_le→bi,lt_or_ge→bR,add_zero→eC,le_trans→bN,zero_testBit→fg,one_pos→kN,lt_irrefl→jM
namespace Go.Proofs
open Go Go.Lift
theorem Cur.upd{W C M:Nat→Prop}{h h':ae}{cb:Nat}{items:List It}(c:Cur W h cb C items)(k:Upd M h h')(hW:∀b,M b→W b∨h.size≤b)(hCm:∀b,C b→b<h.size→¬M b)(hcb:¬M cb):Cur W h' cb C items:=by
 obtain⟨s,h1,h2⟩:=c.ex;exact⟨⟨s,k.get h1 hcb,(h2.within.upd k fun b hb=>hCm b hb.1 hb.2).more fun b hb=>hb.1⟩,fun i hi=>(c.ok i hi).updM k hW⟩
theorem Cur.sub{W C C':Nat→Prop}{h:ae}{cb:Nat}{items:List It}(c:Cur W h cb C items)(hs:∀b,C b→b<h.size→C' b):Cur W h cb C' items:=by
 obtain⟨s,h1,h2⟩:=c.ex;exact⟨⟨s,h1,h2.within.more fun b hb=>hs b hb.1 hb.2⟩,c.ok⟩
set_option maxHeartbeats 1000000 in
theorem MH{W C:Nat→Prop}{h:ae}{cb:Nat}{items:List It}(cur:Cur W h cb C items)(hC:∀b,h.size≤b→C b)(hCW:∀b,C b→W b)(hcbW:W cb)(hcb:¬C cb)(hcost:jj items≤100000000){K:(ByteArray×ByteArray)×Bool→ae→Prop}
  (hn:∀h',rR items= []→Upd (fun b=>C b∨b=cb) h h'→K (((⟨#[]⟩:ByteArray),(⟨#[]⟩:ByteArray)),false) h')
  (hs:∀h' items' k v R,rR items=(k,v)::R→rR items'=R→jj items'≤jj items→Cur W h' cb C items'→Upd (fun b=>C b∨b=cb) h h'→K ((⟨k.toArray⟩,v),true) h'):
  HC PG mf [.pointer (some ⟨cb,0,none⟩)] [.agg [.str,.str],.c .bool] K h:=by
 refine vA (some ⟨cb,0,none⟩) ?_;unfold pM af cQ;refine bH fun h1 b1 k1=>ak.2 ?_
 have z1:=bD b1;obtain⟨s0,hc0,_⟩:=cur.ex;have zc:=bD hc0;have s1:=k1.size;have hC1:∀b,h1.size≤b→C b∧b≠h.size:=fun b hb=>⟨hC b (by omega),by omega⟩
 have cur1:Cur W h1 cb (fun b=>C b∧b≠h.size) items:=(cur.sub fun b hb hlt=>(⟨hb,by omega⟩:C b∧b≠h.size)).upd k1 (fun _ h=>h.elim) (fun _ _ _ h=>h) fun h=>h
 refine LoopP.ghost (fun(its:List It) (_:Unit) h'=>Cur W h' cb (fun b=>C b∧b≠h.size) its∧rR its=rR items∧jj its≤jj items∧h'[h.size]? =some (.cells zPrL.toArray aj (0,0))∧Upd (fun b=>C b∨b=cb) h h'∧h1.size≤h'.size) jj items ⟨cur1,rfl,ao _,b1,k1.wide,ao _⟩ ?_
 rintro I its ⟨⟩ h' ⟨cu,hrem,hco,bz,hu,hsz⟩ hI;obtain⟨s,aE,hst⟩:=cu.ex;have hlen:=hst.len;rw[cA]at hlen;refine⟨_,rfl,s,vc aE 0,?_⟩;refine aA (fun hpos=>?_) fun hnp=>?_
 ·have hpos:0<its.length:=by omega
  obtain⟨its',i,rfl⟩:∃its' i,its=its'++ [i]:=⟨its.dropLast,its.getLast (by intro e;rw[e]at hpos;simp at hpos),(List.dropLast_concat_getLast _).symm⟩;rw[cz]at hst;rw[ac,aD]at hlen;have hil:=Ba (its'++ [i]);rw[ac,aD]at hil;have eidx:IntKind.wrap .i64 ((s.len:Int)-1)=((its'.length:Nat):Int):=by rw[fl (by omega)];omega
  have sl:=hst.sl (W:=No) fun _ _ _ h=>h
  obtain⟨a,ha,_,hv⟩:=sl.at (i:=its'.length) (x:=i.raw) (by rw[av (by rw[cA];omega),cA,cF];rfl);have hio:=cu.ok i (List.mem_append_right _ (aC.2 rfl));refine⟨_,rfl,s,vc aE 0,_,rfl,s,vc aE 0,?_⟩;rw[eidx];refine⟨⟨by omega,by omega⟩,a,ha,some ⟨i.b,0,none⟩,hv 0 _ rfl,i.ah,hv 1 _ rfl,i.own,hv 2 _ rfl,?_⟩
  refine bH fun h2 b2 k2=>?_
  have sl2:=sl.upd k2 fun _ h=>h.elim
  obtain⟨a',ha',_,hv2⟩:=sl2.at (i:=its'.length) (x:=i.raw) (by rw[av (by rw[cA];omega),cA,cF];rfl);rw[ha]at ha';cases ha';have c2:=k2.get0 aE;refine⟨⟨hv2 0 _ rfl,hv2 1 _ rfl,hv2 2 _ rfl⟩,vc c2 0,vc c2 0,?_⟩;refine f7 (c:= [.pointer none,.string (⟨#[]⟩:ByteArray),.bool false]) (vs:= [.pointer (some ⟨i.b,0,none⟩),.string i.ah,.bool i.own]) b2 rfl fun h3 b3 hu3=>?_
  have k3:Upd No h' h3:=k2.own hu3 (ao _);have c3:=k3.get0 aE;have zcb:=bD aE;have z3:=bD b3;have s3:=k3.size;refine⟨_,rfl,s,vc c3 0,_,rfl,s,vc c3 0,?_⟩;rw[eidx];have hcap:=hst.cap;refine⟨⟨by omega,by omega⟩,?_⟩
  simp only[Bd];refine⟨_,rfl,?_⟩;refine AD (i:=0) (c':=MV ⟨aN s.a 0 s.cap 3,its'.length,s.cap⟩) c3 (show 0<5 by decide) rfl fun h4 c4 hu4=>?_
  have b4:=hu4.oth b3 (by omega);have bz4:=hu4.oth (k3.get0 bz) (by omega);have hpop:=OwnS.pop hst;have hst4:=((hpop.upd k3 fun _ _ h=>h).upd hu4 fun b hb e=>hcb (by have e:b=cb:=e;rw[←e];exact hb.1))
  rw[cA]at hst4;have huW:∀{j},It.Ok W h' j→It.Ok W h4 j:=fun oj=>(oj.updM k3 fun _ h=>h.elim).updM hu4 fun b hb=>.inl (by have hb:b=cb:=hb;rw[hb];exact hcbW)
  have cu4:Cur W h4 cb (fun b=>C b∧b≠h.size) its':=⟨⟨_,c4,hst4⟩,fun j hj=>huW (cu.ok j (List.mem_append_left _ hj))⟩
  have hio4:=huW hio;have hu04:Upd (fun b=>C b∨b=cb) h h4:=(hu.tr k3.wide).trans hu4 fun b hb=>.inl (.inr hb)
  have s4:=hu4.size;have hcs:jj (its'++ [i])=jj its'+i.cost:=by rw[ua];rfl
  have hrs:=Du its' i;have hic:1≤i.cost:=by unfold It.cost;split<;>omega
  refine⟨i.own,vc b4 2,?_⟩;cases how:i.own with
  |false=>
   refine ax.2 ⟨_,vc b4 0,i.ah,vc b4 1,i.own,vc b4 2,?_⟩;refine MB cu4 hio4 how (fun b hb=>hC1 b (by omega)) (fun b hb=>hCW b hb.1) hcbW (fun hx=>hcb hx.1) (by omega) fun h5 kids cu5 hr5 hc5 hu5=>?_
   have hu5':Upd (fun b=>C b∨b=cb) h4 h5:=hu5.mono fun b hb=>.inl (hb.imp (fun h=>h.1) id)
   refine hI (its'++kids) () h5 ⟨cu5,?_,?_,hu5.get bz4 (fun hx=>by rcases hx with hx|hx;exact hx.2 rfl;omega),hu04.tr hu5',by have:=hu5.size;omega⟩ ?_
   ·rw[Lp,hr5,←hrem,hrs]
   ·rw[ua];omega
   ·rw[ua];omega
  |true=>
   refine ak.2 ⟨i.ah,vc b4 1,_,vc b4 0,?_⟩;refine AW hio4.1 ⟨vc b4 1,?_,?_⟩
   ·have:=hio.2.2.1
    unfold It.key at this;rw[ac]at this;have e1:i.ah.data.toList.length=i.ah.size:=by simp
    have e2:i.sl.data.toList.length=i.sl.size:=by simp
    omega
   refine⟨_,vc b4 0,He hio4.1 fun v hvw=>?_⟩
   have hpr:i.prs=(i.w.map fun v=>(i.key,v)).toList:=by unfold It.prs;rw[how];rfl
   have ekey:(⟨i.key.toArray⟩:ByteArray)=i.ah++i.sl:=by rw[←nI,nu,Array.toList_append];rfl
   refine Join.intro (fun t h5=>t=i.w.isSome∧Upd No h4 h5) (fun R hR=>?_) ?_
   ·cases hw:i.w with
    |none=>exact ak.2 (hR _ _ ⟨by rw[hw];rfl,Upd.refl _ _⟩)
    |some u=>exact ax.2 ⟨_,rfl,_,yY c4 1 0,_,yY c4 1 1,true,yY c4 1 2,Gi fun h5 k5=>hR _ _ ⟨by rw[hw];rfl,k5⟩⟩
   ·rintro t h5 ⟨rfl,k5⟩
    have cu5:Cur W h5 cb (fun b=>C b∧b≠h.size) its':=cu4.upd k5 (fun _ h=>h.elim) (fun _ _ _ h=>h) fun h=>h
    have bz5:=k5.get0 bz4;have hu05:=hu04.tr (k5.wide (M:=fun b=>C b∨b=cb))
    have s5:=k5.size;cases hw:i.w with
    |none=>
     refine ak.2 (hI its' () h5 ⟨cu5,?_,by omega,bz5,hu05,by omega⟩ (by omega))
     rw[←hrem,hrs,hpr,hw];rfl
    |some u=>
     have hvu:=hvw u hw;subst hvu;refine ax.2 ?_;refine f7 (c:=zPrL) (vs:= [.string (i.ah++i.sl),.string v]) bz5 rfl fun h6 b6 hu6=>?_
     refine⟨_,vc b6 0,_,vc b6 1,?_⟩;rw[←ekey];refine hs h6 its' i.key v (rR its') (by rw[←hrem,hrs,hpr,hw];rfl) rfl (by omega) ?_ (hu05.trans hu6 fun b hb=>.inr (dX (Eq.symm hb)))
     exact(cu5.upd hu6 (fun b hb=>.inl (hCW b (hC b (dX (Eq.symm hb))))) (fun b hb _ e=>hb.2 e) (by show ¬cb=h.size;omega)).sub fun b hb _=>hb.1
 ·have h0:its= []:=ar.1 (by omega)
  subst h0;refine f7 (c:=zPrL) (vs:=zPrL) bz rfl fun h6 b6 hu6=>?_
  refine⟨_,vc b6 0,_,vc b6 1,hn h6 hrem.symm (hu.trans hu6 fun b hb=>.inr (dX (Eq.symm hb)))⟩
end Go.Proofs
namespace Go.Proofs
open Go Go.Lift
abbrev NM(x:Pr):List Value:= [.agg #[.string x.1,.string x.2]]
theorem Cz{h:ae}{fv:Value}{N:Nat}{S:List Pr→Prop}{Q:Nat→Prop}(hg:Gives PG fv NM N S Q h)(hN:N≤100000000){K:SliceV→ae→Prop}
  (hk:∀s' h' xs,S xs→OwnS eG 2 aj (fun b=>h.size≤b) h' s' xs→Upd No h h'→K s' h'):HC PG dV [.slice none 0 0,fv] [.c .slice] K h:=by
 refine jS ⟨none,0,0⟩ fv ?_;unfold fM af;have k0:=Upd.hnew No h [.slice none 0 0] bO;have b0:=bK h [.slice none 0 0] bO;have hsz:(hnew h [.slice none 0 0] bO).size=h.size+1:=ge ..;have hg1:=hg.upd k0 fun _ _=>id
 refine aX ?_;generalize hnew h [.slice none 0 0] bO=h1 at hg1 k0 b0 hsz;refine⟨fun lo hlo hround=>?_⟩
 obtain⟨f,first,cap,rfl,hrun⟩:=hg1.run
 refine⟨f,first,cap,rfl,?_⟩
 have k1:Upd No h1 ((h1.push (.deferred (some []))).push (lo .ready none)):=(Upd.push No _ _).tr (Upd.push No _ _);have l2:((h1.push (.deferred (some []))).push (lo .ready none))[h1.size+1]? =some (lo .ready none):=by
  have:=wm (h1.push (.deferred (some []))) (lo .ready none);rwa [Array.size_push]at this
 have l1:((h1.push (.deferred (some []))).push (lo .ready none))[h1.size]? =some (.deferred (some [])):=(Upd.push No _ _).get0 (wm h1 _);refine hrun (.func (.yield (h1.size+1)) #[] #[]) (fun pre A h'=>(∀b,A b→b<h'.size∧h.size≤b)∧A h.size∧A h1.size∧A (h1.size+1)∧h'[h1.size]? =some (.deferred (some []))∧h'[h1.size+1]? =some (lo .ready none)∧
   ∃s:SliceV,h'[h.size]? =some (.cells #[sv s] bO (0,0))∧OwnS eG 2 aj (fun b=>A b∧h1.size+1<b) h' s pre∧pre.length≤N)
  (fun b=>b=h.size∨b=h1.size∨b=h1.size+1) No _ _ ⟨fun _ _ _ hj b hb=>(hj.1 b hb).1,fun pre A h' h'' B hj hu hB=>?_,fun pre A h' x K' hj hlen hK=>?_⟩ ?_ k1 (fun _ _=>id) (fun b hb hq=>?_) ?_
 ·obtain⟨h1',h2,h3,h4,h5,h6,s,h7,h8,h9⟩:=hj
  exact⟨fun b hb=>⟨aL (h1' b hb).1 hu.size,(h1' b hb).2⟩,h2,h3,h4,hu.get h5 (hB _ h3),hu.get h6 (hB _ h4),s,hu.get h7 (hB _ h2),h8.upd hu fun b hb=>hB b hb.1,h9⟩
 ·obtain⟨hA,hA1,hA2,hA3,hd,hl,s,hs,ho,hpl⟩:=hj
  refine hround x h' K' hl ?_;refine zk (p:=x) fun hp bp kp=>?_
  have zp:=bD bp;have hl:=kp.get0 hl;have hs:=kp.get0 hs;have hd:=kp.get0 hd;have hop:=ho.upd kp fun _ _ h=>h
  have sp:=kp.size;refine⟨hl,?_⟩;have kb:Upd (· =h1.size+1) hp (hp.setIfInBounds (h1.size+1) (lo .busy none)):=Upd.set _ _ rfl
  have lb:=ia (o:=lo .busy none) hl;have sb:=kb.size;refine aX ?_;generalize hp.setIfInBounds (h1.size+1) (lo .busy none)=h2 at kb lb sb;have hlt1:=(hA _ hA1).1;have hlt3:=(hA _ hA3).1;have bp2:=kb.get bp (by omega);have hs2:=kb.get hs (by omega);refine⟨s,by rw[cq,aS hs2];rfl,_,vc bp2 0,_,vc bp2 1,aX ?_⟩
  refine GA (p:=x) (M:=fun b=>((A b∧b<h'.size)∨h2.size≤b)∧h1.size+1<b) ((hop.upd kb fun b hb=>by omega).more fun b hb=>⟨.inl ⟨hb.1,(hA b hb.1).1⟩,hb.2⟩) (fun b hb=>⟨.inr hb,by have:=bD lb;omega⟩) (by omega) fun s' h3 ho3 hu3=>?_
  have hs3:h3[h.size]? =some (.cells #[sv s] bO (0,0)):=hu3.get hs2 (by omega);refine⟨by rw[cq];exact gN hs3 (by simp),?_⟩;have k4:Upd (· =h.size) h3 (hset h3 (ag h) (.slice s'.a s'.len s'.cap)):=Upd.hset _ _ rfl
  have hs4:(hset h3 (ag h) (.slice s'.a s'.len s'.cap))[h.size]? =some (.cells #[sv s'] bO (0,0)):=by
   rw[cq,Bj hs3,ia hs3];rfl
  refine aX ?_;generalize hset h3 (ag h) (.slice s'.a s'.len s'.cap)=h4 at k4 hs4;have hl4:h4[h1.size+1]? =some (lo .busy none):=k4.get (hu3.get lb (by omega)) (by omega);refine⟨hl4,?_⟩;have k5:Upd (· =h1.size+1) h4 (h4.setIfInBounds (h1.size+1) (lo .ready none)):=Upd.set _ _ rfl
  have hl5:=ia (o:=lo .ready none) hl4;have hall:Upd A h' h4:=((kp.wide.tr (kb.mono (M':=A) fun b hb=>.inl (hb▸hA3))).trans hu3 fun b hb=>hb.1.imp (fun h=>h.1) fun h=>by omega).trans k4 fun b hb=>.inl (hb▸hA1)
  have z3:=hu3.size;have z4:=k4.size;have z5:=k5.size;refine hK _ (fun b=>((A b∧b<h'.size)∨h2.size≤b)∧b<h4.size) ⟨fun b hb=>⟨aL hb.2 z5,hb.1.elim (fun h=>(hA b h.1).2) fun h=>by omega⟩,⟨.inl ⟨hA1,hlt1⟩,by omega⟩,⟨.inl ⟨hA2,(hA _ hA2).1⟩,by have:=(hA _ hA2).1;omega⟩,⟨.inl ⟨hA3,hlt3⟩,by omega⟩,
   k5.get (k4.get (hu3.get (kb.get hd (by omega)) (by omega)) (by omega)) (by omega),hl5,s',k5.get hs4 (by omega),?_,by simp;omega⟩ (hall.trans k5 fun b hb=>.inl (hb▸hA3)) fun b hb=>hb.1.imp (fun h=>h.1) fun h=>by omega
  exact(((ho3.upd k4 fun b hb=>by omega).within).more fun b hb=>⟨⟨hb.1.1,hb.2⟩,hb.1.2⟩).upd k5 fun b hb=>by omega
 ·refine⟨fun b hb=>?_,.inl rfl,.inr (.inl rfl),.inr (.inr rfl),l1,l2,⟨none,0,0⟩,k1.get0 b0,OwnS.nil jo,bi _⟩
  have:=bD l2;rcases hb with rfl|rfl|rfl<;>omega
 ·have:=hg.lt b hq
  rcases hb with rfl|rfl|rfl<;>omega
 ·rintro xs A' h' hS ⟨hA,hA1,hA2,hA3,hd,hl,s,hs,ho,hpl⟩ hu hA'
  refine⟨.ready,none,by decide,hl,?_⟩
  have k5:Upd (· =h1.size+1) h' (h'.setIfInBounds (h1.size+1) (lo .exhausted none)):=Upd.set _ _ rfl
  show∃v:SliceV,aE (h'.setIfInBounds (h1.size+1) (lo .exhausted none)) (ag h)=some (.slice v.a v.len v.cap)∧_
  have hd5:=k5.get hd (show ¬h1.size=h1.size+1 by omega)
  have hs5:=k5.get hs (show ¬h.size=h1.size+1 by omega)
  have ho5:=ho.upd k5 fun b hb=>by omega
  generalize h'.setIfInBounds (h1.size+1) (lo .exhausted none)=h5 at k5 hd5 hs5 ho5;refine⟨s,by rw[cq,aS hs5];rfl,hd5,?_⟩
  have k6:Upd (· =h1.size) h5 (h5.setIfInBounds h1.size (.deferred none)):=Upd.set _ _ rfl
  refine hk s _ xs hS ((ho5.upd k6 fun b hb=>by omega).more fun b hb=>(hA b hb.1).2) ?_
  refine(((k0.tr k1).trans hu fun b hb=>?_).trans k5 fun b hb=>.inr (by omega)).trans k6 fun b hb=>.inr (by omega)
  rcases hb with rfl|rfl|rfl<;>(right;omega)
theorem Gt{h:ae}{fv:Value}{N:Nat}{S:List Pr→Prop}{Q:Nat→Prop}(hg:Gives PG fv NM N S Q h)(hN:N≤100000000){K:SliceV→ae→Prop}
  (hk:∀s' h' xs,S xs→OwnS eG 2 aj (fun b=>h.size≤b) h' s' xs→Upd No h h'→K s' h'):HC PG gP [fv] [.c .slice] K h:=by
 refine pJ fv ?_;unfold kK;exact Cz hg hN hk
theorem Hb{W:Nat→Prop}{h:ae}{b:Nat}{w:Option ByteArray}{F:Fo}(io:It.Ok W h ⟨b,⟨#[]⟩,false,⟨#[]⟩,w,F⟩)(hW:∀y,h.size≤y→W y){K:Option Addr→ae→Prop}
  (hk:∀h' cb,h.size≤cb→cb<h'.size→Cur W h' cb (fun y=>h.size≤y∧y≠cb) [⟨b,⟨#[]⟩,false,⟨#[]⟩,w,F⟩]→Upd No h h'→K (some ⟨cb,0,none⟩) h'):HC PG vn [.pointer (some ⟨b,0,none⟩),.agg #[.string ⟨#[]⟩,.string ⟨#[]⟩,.bool true],.bool false] [.c .ptr] K h:=by
 refine Ip (some ⟨b,0,none⟩) (⟨#[]⟩,⟨#[]⟩,true) false ?_;unfold BU af;refine bH fun h1 b1 k1=>⟨_,vc b1 0,_,vc b1 1,true,vc b1 2,bH fun h2 b2 k2=>ax.2 ⟨_,rfl,⟨none,0,0⟩,vc b2 0,bH fun h3 b3 k3=>?_⟩⟩
 have s1:=k1.size;have s2:=k2.size;have z2:=bD b2;have z3:=bD b3;have o3:OwnS JB 3 du (fun _=>True) h3 ⟨some (ag h2),1,1⟩ [(some ⟨b,0,none⟩,⟨#[]⟩,false)]:=⟨rfl,D8,ao _,.inr ⟨h2.size,[],rfl,trivial,b3,rfl⟩⟩
 refine⟨_,(o3.sl (W:=No) fun _ _ _ h=>h).srow,?_⟩
 refine AppP.own (M:=fun y=>h3.size≤y) (ys:= [(some ⟨b,0,none⟩,⟨#[]⟩,false)]) (OwnS.nil (f:=JB) D8) rfl rfl rfl rfl (by omega) (by simp) (ao _) fun s4 h4 ho4 hu4=>?_
 have c4:=hu4.get (k3.get0 b2) (by omega);refine⟨_,rfl,?_⟩;refine AD (i:=0) (c':=MV s4) c4 (show 0<5 by decide) rfl fun h5 c5 hu5=>?_
 have hu:Upd No h h5:=(((k1.tr k2).tr k3).trans hu4 fun y hy=>.inr (by omega)).own hu5 s1
 have s5:=hu4.size;have s6:=hu5.size;refine hk h5 h1.size s1 (by omega) ⟨⟨s4,c5,?_⟩,fun i hi=>?_⟩ hu
 ·exact(ho4.upd hu5 fun y hy e=>by have e:y=h1.size:=e;omega).more fun y hy=>⟨by omega,by omega⟩
 ·rw[aC.1 hi]
  exact io.updM hu fun _ h=>h.elim
theorem Mt(l m:List Pr):Cj (l++m)=Cj l++Cj m:=by unfold Cj;rw[cz]
theorem FD{W:Nat→Prop}{h:ae}{b:Nat}{l:List Pr}(t:RadAt W h b l)(hr:cW l)(hf:Fit l)(hn:l.length≤60000){K:Value→ae→Prop}
  (hk:∀fv h',Gives PG fv NM (2*l.length) (fun xs=>xs=l) (fun y=>y<h'.size) h'→Upd No h h'→K fv h'):HC PG tq [.pointer (some ⟨b,0,none⟩),.agg #[.string ⟨#[]⟩,.string ⟨#[]⟩,.bool true],.bool false] [.c .raw] K h:=by
 refine GF (some ⟨b,0,none⟩) (⟨#[]⟩,⟨#[]⟩,true) false ?_;unfold zA;refine bH fun h1 b1 k1=>bH fun h2 b2 k2=>bH fun h3 b3 k3=>?_
 have k03:=(k1.tr k2).tr k3;have c1:=k3.get0 (k2.get0 b1);have c2:=k3.get0 b2;have z1:=bD c1;have z2:=bD c2;have z3:=bD b3;refine hk _ h3 ?_ k03;obtain⟨w,F,r1,r2,r3⟩:=(((t.upd0 k03).less (W':=fun y=>h3.size≤y) fun y hy=>.inr hy)).ex
 have hprs:=IZ r2 hr r3;have hcnt:=Aq r2;have hlenU:=congrArg dw hprs;unfold rS Cj at hlenU;rw[ac,cA]at hlenU;refine⟨fun y hy=>hy,nY,#[],_,rfl,fun y J A M h4 K' ht hj hu hq ha hk'=>?_⟩
 refine BR y (ag h) (ag h1) (ag h2) ?_;unfold qV af;have d1:=hu.get c1 (hq _ z1);have d2:=hu.get c2 (hq _ z2);have d3:=hu.get b3 (hq _ z3);have s4:=hu.size;have io:It.Ok (fun y=>h3.size≤y) h4 ⟨b,⟨#[]⟩,false,⟨#[]⟩,w,F⟩:=⟨r1.updM hu fun y hy=>.inl (by
  rcases bR y h3.size with hl|hl
  ·exact absurd hy (hq y hl)
  ·exact hl),r2,by simp[It.key],fun p hp=>by
   rw[hprs]at hp
   obtain⟨q,hq',e⟩:=List.mem_map.1 hp
   have:=(hf q hq').1
   rw[←e]
   simpa[It.key]using this⟩
 refine⟨_,(by have:=vc d1 0;rw[bQ,eC]at this;exact this),_,vc d2 0,_,vc d2 1,true,vc d2 2,false,(by have:=vc d3 0;rw[bQ,eC]at this;exact this),?_⟩;refine Hb io (fun y hy=>bN s4 hy) fun h5 cb hcb hcb5 cur k5=>?_
 have hAlt:=ht.lt _ _ _ hj;have hA3:∀y,A y→h3.size≤y:=fun y hy=>by
  rcases bR y h3.size with hl|hl
  ·exact absurd hl (ha y hy)
  ·exact hl
 have s5:=k5.size;have hcost0:jj [⟨b,⟨#[]⟩,false,⟨#[]⟩,w,F⟩]≤100000000:=by
  have:jj [⟨b,⟨#[]⟩,false,⟨#[]⟩,w,F⟩]=2+2*wG F:=by simp[jj,It.cost]
  rw[this];omega
 have hrem0:rR [⟨b,⟨#[]⟩,false,⟨#[]⟩,w,F⟩]=Cj l:=by
  rw[←hprs];simp[rR,It.prs,It.key]
 refine LoopP.ghost (fun(g:List Pr×List It×(Nat→Prop)) (_:Unit) h'=>Cur (fun y=>h3.size≤y) h' cb (fun y=>h4.size≤y∧y≠cb∧¬g.2.2 y) g.2.1∧J g.1 g.2.2 h'∧Upd A h4 h'∧(∀y,g.2.2 y→(A y∨h4.size≤y)∧y≠cb)∧Cj g.1++rR g.2.1=Cj l∧jj g.2.1≤100000000∧h5.size≤h'.size) (fun g=>(rR g.2.1).length) ([],[⟨b,⟨#[]⟩,false,⟨#[]⟩,w,F⟩],A)
  ⟨cur.sub fun y hy hlt=>⟨hy.1,hy.2,fun hx=>by have:=hAlt y hx;omega⟩,ht.keep _ _ _ _ No hj k5 (fun _ _ h=>h),k5.wide,fun y hy=>⟨.inl hy,by have:=hAlt y hy;omega⟩,by rw[hrem0];rfl,hcost0,ao _⟩ ?_
 rintro I ⟨pre,items,A1⟩ ⟨⟩ h' ⟨cu,hj',hu',hA1,hrem,hco,hsz⟩ hI;simp only at cu hj' hA1 hrem hco;have hlt':=ht.lt _ _ _ hj';have hA1W:∀y,A1 y→h3.size≤y:=fun y hy=>(hA1 y hy).1.elim (hA3 y) fun h=>by omega
 refine MH cu (fun y hy=>⟨by omega,by omega,fun hx=>by have:=hlt' y hx;omega⟩) (fun y hy=>bN s4 hy.1) (bN s4 hcb) (fun hx=>hx.2.1 rfl) hco (fun h6 hr0 hu6=>?_) fun h6 items' k v R hr1 hr2 hc6 cu6 hu6=>?_
 ·have hd:∀y,A1 y→¬((h4.size≤y∧y≠cb∧¬A1 y)∨y=cb):=fun y hy hx=>hx.elim (fun h=>h.2.2 hy) (hA1 y hy).2
  have hj6:=ht.keep _ _ _ _ _ hj' hu6 hd;refine zk fun h7 b7 k7=>?_
  refine Join.intro (fun t h8=>t=true∧h8=h7) (fun R hR=>ax.2 (hR _ _ ⟨rfl,rfl⟩)) ?_
  rintro t h8 ⟨rfl,rfl⟩;refine ax.2 (hk' pre A1 h8 ?_ (ht.keep _ _ _ _ No hj6 k7 (fun _ _ h=>h)) ?_ fun y hy=>(hA1 y hy).1)
  ·rw[hr0,List.append_nil]at hrem
   exact Ec hrem
  ·exact(hu'.trans hu6 fun y hy=>.inr (by rcases hy with hy|hy;exact hy.1;omega)).tr k7.wide
 ·have hd:∀y,A1 y→¬((h4.size≤y∧y≠cb∧¬A1 y)∨y=cb):=fun y hy hx=>hx.elim (fun h=>h.2.2 hy) (hA1 y hy).2
  have hj6:=ht.keep _ _ _ _ _ hj' hu6 hd;refine zk (p:=(⟨k.toArray⟩,v)) fun h7 b7 k7=>?_
  have hj7:=ht.keep _ _ _ _ No hj6 k7 (fun _ _ h=>h)
  have cu7:=cu6.upd k7 (fun _ h=>h.elim) (fun _ _ _ h=>h) fun h=>h
  have hu47:Upd A h4 h7:=(hu'.trans hu6 fun y hy=>.inr (by rcases hy with hy|hy;exact hy.1;omega)).tr k7.wide
  have s6:=hu6.size;have s7:=k7.size;refine Join.intro (fun t h8=>t=false∧∃A3,J (pre++ [(⟨k.toArray⟩,v)]) A3 h8∧Upd A1 h7 h8∧∀y,A3 y→A1 y∨h7.size≤y) (fun R' hR=>?_) ?_
  ·refine ak.2 ⟨_,vc b7 0,_,vc b7 1,?_⟩
   refine ht.step pre A1 h7 (⟨k.toArray⟩,v) _ hj7 ?_ fun h8 A3 hj8 hu8 hA8=>hR _ _ ⟨rfl,A3,hj8,hu8,hA8⟩
   have:=congrArg dw hrem;rw[hr1]at this;simp only[Cj,ac,cA,aq]at this;omega
  ·rintro t h8 ⟨rfl,A3,hj8,hu8,hA8⟩
   refine ak.2 (hI (pre++ [(⟨k.toArray⟩,v)],items',A3) () h8 ⟨?_,hj8,?_,fun y hy=>?_,?_,by simp only;omega,by have:=hu8.size;omega⟩ ?_)
   ·have c7:Cur (fun y=>h3.size≤y) h7 cb (fun y=>(h4.size≤y∧y≠cb∧¬A1 y)∧y<h7.size) items':=cu7.sub fun y hy hlt=>⟨hy,hlt⟩
    exact(c7.upd hu8 (fun y hy=>.inl (hA1W y hy)) (fun y hy _ hx=>hy.1.2.2 hx) (fun hx=>(hA1 _ hx).2 rfl)).sub fun y hy _=>⟨hy.1.1,hy.1.2.1,fun hx=>by
     rcases hA8 y hx with h|h
     ·exact hy.1.2.2 h
     ·have:=hy.2;omega⟩
   ·exact hu47.trans hu8 fun y hy=>(hA1 y hy).1
   ·rcases hA8 y hy with h|h
    ·exact hA1 y h
    ·exact⟨.inr (by omega),by omega⟩
   ·simp only
    rw[Mt,List.append_assoc,hr2,←hrem,hr1];rfl
   ·simp only
    rw[hr1,hr2];simp
theorem Ef{W:Nat→Prop}{h:ae}{b:Nat}{l:List Pr}(t:RadAt W h b l)(hr:cW l)(hf:Fit l)(hn:l.length≤60000){K:SliceV→ae→Prop}
  (hk:∀s' h',OwnS eG 2 aj (fun y=>h.size≤y) h' s' l→Upd No h h'→K s' h'):HC PG r6 [.pointer (some ⟨b,0,none⟩),.agg #[.string ⟨#[]⟩,.string ⟨#[]⟩,.bool true]] [.c .slice] K h:=by
 refine E0 (some ⟨b,0,none⟩) (⟨#[]⟩,⟨#[]⟩,true) ?_;unfold xi af;refine bH fun h1 b1 k1=>⟨_,vc b1 0,_,vc b1 1,true,vc b1 2,?_⟩
 refine FD (t.upd0 k1) hr hf hn fun fv h2 hg k2=>?_
 refine Gt hg (by omega) fun s3 h3 xs e ho k3=>?_
 subst e;have s12:=(k1.tr k2).size;exact hk s3 h3 (ho.more fun y hy=>by omega) ((k1.tr k2).tr k3)
theorem G6{W:Nat→Prop}{x:Hs}{h:ae}{t:Tr}{l:List Pr}(i:TreeIs W h 1 x t l)(hr:cW l)(hf:Fit l)(hn:l.length≤60000){K:SliceV→ae→Prop}
  (hk:∀s' h',OwnS eG 2 aj (fun y=>h.size≤y) h' s' l→Upd No h h'→K s' h'):HC PG mM [Mf t] [.c .slice] K h:=by
 refine wS t ?_;unfold qp af;rcases i with⟨e,_⟩|⟨_,b,rfl,t⟩
 ·cases e
 refine bH fun h1 b1 k1=>⟨_,vc b1 0,ax.2 ⟨_,vc b1 5,?_⟩⟩
 refine Iq ?_;unfold BV af;refine bH fun h2 b2 k2=>?_
 refine f7 (c:= [.string (⟨#[]⟩:ByteArray),.string (⟨#[]⟩:ByteArray),.bool false]) (vs:= [.string (⟨#[]⟩:ByteArray),.string (⟨#[]⟩:ByteArray),.bool true]) b2 rfl fun h3 b3 hu3=>?_
 have k3:Upd No h1 h3:=k2.own hu3 (ao _);have k03:=k1.tr k3;refine⟨_,vc b3 0,_,vc b3 1,true,vc b3 2,vc (k3.get0 b1) 5,?_⟩;refine Ef (t.upd0 k03) hr hf hn fun s4 h4 ho k4=>hk s4 h4 (ho.more fun y hy=>?_) (k03.tr k4)
 have:=k03.size;omega
end Go.Proofs
namespace Go.Proofs
open Go Go.Lift
abbrev bA:ByteArray:=⟨#[97]⟩
abbrev bB:ByteArray:=⟨#[98]⟩
theorem OK:kl bA bB:=by rw[qc];decide
theorem bba:¬kl bB bA:=by rw[qc];decide
theorem OJ:bB≠bA:=fun h=>by
 have:=OK;rw[h]at this;exact cI _ this
theorem KF:kR [(bB,⟨#[49]⟩),(bA,⟨#[50]⟩),(bB,⟨#[51]⟩)]= [(bA,⟨#[50]⟩),(bB,⟨#[51]⟩)]:=by
 unfold kR;rw[hJ,hJ,hJ,List.foldl_nil];have e1:g6 (bB,⟨#[49]⟩) []= [(bB,⟨#[49]⟩)]:=rfl;rw[e1,gH,if_neg bba,if_neg OJ,gH,if_pos OK,gH,if_neg (cI _),if_pos rfl]
theorem Ie{h:ae}{K:Bool→ae→Prop}(hk:∀h',Upd No h h'→K true h'):HC PG tx [] [.c .bool] K h:=by
 refine GJ ?_;unfold zE af cQ;refine bH fun h1 b1 k1=>?_
 have hs:Sl eG 2 No h1 ⟨some (ag h),3,3⟩ [(bB,⟨#[49]⟩),(bA,⟨#[50]⟩),(bB,⟨#[51]⟩)]:=⟨rfl,jo,fun _=>⟨_,rfl,fun h=>h.elim,mD b1 fun i v hv=>by simpa using hv⟩⟩
 refine wL (W:=No) (x:=⟨0,0,0⟩) hs (fun _ h=>h.elim) (by simp) (fun p hp=>?_) (.inr rfl) fun h3 t i3 k3=>?_
 ·rcases ay.1 hp with rfl|hp
  ·exact⟨by decide,by decide⟩
  rcases ay.1 hp with rfl|hp
  ·exact⟨by decide,by decide⟩
  rw[aC.1 hp];exact⟨by decide,by decide⟩
 rw[KF]at i3;refine Ez (t:=t) fun h5 b5 k5=>?_
 refine⟨_,vc b5 0,_,vc b5 1,_,vc b5 2,_,vc b5 3,_,vc b5 4,_,vc b5 5,?_⟩;have hri:cW [(bA,(⟨#[50]⟩:ByteArray)),(bB,⟨#[51]⟩)]:=aO.2 ⟨fun p hp=>by rw[aC.1 hp];exact OK,List.pairwise_singleton ..⟩
 refine G6 (i3.upd0 k5) hri (fun p hp=>?_) (by decide) fun s13 h13 ho13 k13=>?_
 ·rcases ay.1 hp with rfl|hp
  ·exact⟨by decide,by decide⟩
  rw[aC.1 hp];exact⟨by decide,by decide⟩
 have hlen:=ho13.len;have hs13:=ho13.sl (W:=No) fun _ _ _ h=>h
 obtain⟨a,ha,_,hv⟩:=hs13.at (i:=0) (x:=(bA,(⟨#[50]⟩:ByteArray))) rfl;obtain⟨a',ha',_,hv'⟩:=hs13.at (i:=1) (x:=(bB,(⟨#[51]⟩:ByteArray))) rfl;rw[ha]at ha';cases ha';have e1:((s13.len:Int)==(2:Int))=true:=by rw[hlen];rfl
 refine ax.2 ?_;rw[e1];refine ax.2 ⟨⟨by omega,by rw[hlen];decide⟩,a,ha,bA,hv 0 _ rfl,⟨#[50]⟩,hv 1 _ rfl,?_⟩
 rw[beq_self_eq_true,beq_self_eq_true];refine ax.2 ⟨⟨by omega,by rw[hlen];decide⟩,a,ha,⟨#[51]⟩,hv' 1 _ rfl,?_⟩
 rw[beq_self_eq_true];exact hk h13 (((k1.tr k3).tr k5).tr k13)
theorem Mx{l:List Pr}(h:∀p∈l,p.1.size≤40∧p.2.size≤40):Fit (kR l):=fun p hp=>by
 have:=h p (Ad hp);omega
end Go.Proofs
namespace Go.Proofs
open Go Go.Lift
def lB(k:ByteArray)(l:List Pr):List Pr:=l.filter fun q=>decide (q.1≠k)
theorem tZ(k:ByteArray)(q:Pr)(l:List Pr):lB k (q::l)=if q.1=k then lB k l else q::lB k l:=by
 unfold lB;rw[List.filter_cons];by_cases h:q.1=k
 ·rw[if_pos h,if_neg (by simpa using h)]
 ·rw[if_neg h,if_pos (by simpa using h)]
theorem vr{k:ByteArray}{l:List Pr}(h:∀q∈l,q.1≠k):lB k l=l:=lK.2 fun q hq=>decide_eq_true (h q hq)
theorem AG{k:ByteArray}{l:List Pr}(h:cl l k=false):∀q∈l,q.1≠k:=fun q hq e=>by
 have:cl l k=true:=bW.2 ⟨q,hq,decide_eq_true e⟩;rw[h]at this;cases this
theorem F5{k:ByteArray}{l:List Pr}(h:∀q∈l,q.1≠k):cl l k=false:=by
 rcases ht:cl l k with _|_
 ·rfl
 ·obtain⟨q,hq,e⟩:=bW.1 ht
  exact absurd (of_decide_eq_true e) (h q hq)
theorem JQ{k:ByteArray}{l:List Pr}(hr:cW l):cW (lB k l):=hr.sublist List.filter_sublist
theorem Jf{k:ByteArray}{l:List Pr}{p:Pr}:p∈lB k l↔p∈l∧p.1≠k:=by unfold lB;rw[List.mem_filter,decide_eq_true_iff]
theorem NN{k:ByteArray}{l:List Pr}:(lB k l).length≤l.length:=List.length_filter_le ..
theorem Jo{k:ByteArray}:∀{l:List Pr},cW l→l.length≤(lB k l).length+1
 | [],_=>bi _
 |q::l,hr=>by
  have hr:=aO.1 hr;rw[tZ];by_cases h:q.1=k
  ·rw[if_pos h,vr fun r hm e=>by have:=hr.1 r hm;rw[h,e]at this;exact cI _ this];exact ao _
  ·rw[if_neg h]
   have:=Jo (k:=k) hr.2;simp only[aq];omega
theorem Jp(k:ByteArray):∀{l:List Pr},cW l→Kp l k=lB k l
 | [],_=>by simp[Kp,lB,cl]
 |q::l,hr=>by
  have hr':=hr;have hr:=aO.1 hr;have hpos:md (q::l) k=if kl q.1 k then md l k+1 else 0:=by
   unfold md;rw[List.takeWhile_cons];by_cases h:kl q.1 k
   ·rw[if_pos (by simpa using h),if_pos h];rfl
   ·rw[if_neg (by simpa using h),if_neg h];rfl
  have hth:cl (q::l) k=(decide (q.1=k)||cl l k):=by unfold cl;rw[om]
  by_cases h:kl q.1 k
  ·have hne:q.1≠k:=fun e=>by rw[e]at h;exact cI _ h
   rw[tZ,if_neg hne,←Jp k hr.2];unfold Kp;rw[hth,hpos,if_pos h,decide_eq_false hne,Bool.false_or];by_cases ht:cl l k=true
   ·rw[if_pos ht,if_pos ht];rfl
   ·rw[if_neg ht,if_neg ht]
  ·by_cases e:q.1=k
   ·have hno:∀r∈l,r.1≠k:=fun r hm e2=>by have:=hr.1 r hm;rw[e,e2]at this;exact cI _ this
    rw[tZ,if_pos e,vr hno];unfold Kp;rw[hth,hpos,if_neg h,decide_eq_true e,Bool.true_or,if_pos rfl];rfl
   ·have hgt:=rW h e
    have hno:∀r∈q::l,r.1≠k:=fun r hm e2=>by
     rcases ay.1 hm with rfl|hm
     ·exact e e2
     ·have:=hr.1 r hm
      rw[e2]at this;exact cI _ (jD hgt this)
    rw[vr hno];unfold Kp;rw[F5 hno];rfl
theorem FY{x:Hs}{lev c:Nat}{k:ByteArray}{l:List Pr}:part x lev c (lB k l)=lB k (part x lev c l):=by
 unfold part lB;rw[List.filter_filter,List.filter_filter];exact List.filter_congr fun p _=>Bool.and_comm ..
theorem J9{x:Hs}{lev c:Nat}{k:ByteArray}{l:List Pr}(h:c≠ck x lev k):part x lev c (lB k l)=part x lev c l:=by
 rw[FY];exact vr fun q hq e=>h (by rw[←e];exact(lM.1 hq).2.symm)
theorem G3{W:Nat→Prop}{x:Hs}{h h':ae}{m b':Nat}{s s':Slots}{l:List Pr}{k:ByteArray}(hu:Upd No h h')(nd:NodeAt W h' b' s')(hs:∀c,c<32→SlotIs W x h m s c (part x (12-m) c l))
  (hp:∀c,c≠ck x (12-m) k→s'.p c=s.p c∧s'.k c=s.k c)(hi:SlotIs W x h' m s' (ck x (12-m) k) (lB k (part x (12-m) (ck x (12-m) k) l))):TrieAt W x h' (m+1) b' (lB k l):=by
 refine⟨s',nd,fun c hc=>?_⟩
 by_cases e:ck x (12-m) k=c
 ·rw[FY];subst e;exact hi
 ·rw[J9 fun h=>e h.symm]
  have t:=SlotIs.upd0 hu (hs c hc);obtain⟨e1,e2⟩:=hp c fun h=>e h.symm
  unfold SlotIs at t;rw[←e1,←e2]at t;exact t
theorem Jl{β:Type}(g:Nat→Option β):∀n,(fm g n).length=((List.range n).map fun c=>(g c).toList.length).sum
 |0=>rfl
 |n+1=>by
  rw[jZ,ac,Jl g n,List.range_succ,cz,List.sum_append];simp
theorem FE{x:Hs}{lev:Nat}{l:List Pr}(h:∀c,c<32→(part x lev c l).length≤1):(fZ x lev l).length=l.length:=by
 unfold fZ;rw[Jl];have e:=rd x lev l 32;have e2:(l.filter fun p=>decide (ck x lev p.1<32))=l:=lK.2 fun p _=>decide_eq_true (wJ x lev p.1)
 rw[e2]at e;rw[←e];refine congrArg List.sum (List.map_congr_left fun c hc=>?_)
 have:=h c (gU.1 hc);match hp:part x lev c l with
 | []=>rfl
 | [p]=>rfl
 |a::b::r=>rw[hp]at this;simp at this
theorem G4{W:Nat→Prop}{x:Hs}{h:ae}{m b:Nat}{l:List Pr}(t:TrieAt W x h m b l)(hn:l.length≤1000000):
  ∃d n sp sk bu ow lp lk,h[b]? =some (.cells (fc d n sp sk bu ow) bh (0,0))∧Sl eG 2 W h sp lp∧Sl pf 1 W h sk lk∧lp.length≤1000000∧lk.length≤32∧(lp.length+lk.length=1∧n=0↔l.length=1)∧∀p,l= [p]→lp= [p]:=by
 cases m with
 |zero=>
  obtain⟨sp,sk,ow,hb,hsp,hsk,_⟩:=BuckAt.ex t;exact⟨0,0,sp,sk,true,ow,l,[],hb,hsp,hsk,hn,by simp,by simp,fun p e=>e⟩
 |succ m=>
  obtain⟨s,nd,hs⟩:=t;have hs:∀c,c<32→SlotIs W x h m s c (part x (12-m) c l):=hs;obtain⟨d,n,sp,sk,ow,hb,bits,hsp,hsk,_⟩:=nd.ex;have hso:=Eg hs;have hl32:=uD (g:=s.p);refine⟨d,n,sp,sk,false,ow,_,_,hb,hsp,hsk,by omega,uD,?_,?_⟩
  ·by_cases hk:∀c,c<32→s.k c=none
   ·have e0:n=0:=Nat.eq_of_testBit_eq fun c=>by
     rw[fg];by_cases hc:c<32
     ·rw[bits.nk c hc,hk c hc];rfl
     ·exact Nat.testBit_lt_two_pow (aL bits.n32 (Nat.pow_le_pow_right (n:=2) (by omega) (by omega:32≤c)))
    have ek:fm s.k 32= []:=by
     unfold fm;rw[List.filterMap_eq_nil_iff];exact fun c hc=>hk c (gU.1 hc)
    have el:(fm s.p 32).length=l.length:=by
     rw[hso];refine FE fun c hc=>?_
     rcases hs c hc with⟨h0,_⟩|⟨p,h0,_⟩|⟨_,_,kb,h2,_⟩
     ·rw[h0];simp
     ·rw[h0];simp
     ·rw[hk c hc]at h2;cases h2
    rw[ek,el,e0];simp
   ·obtain⟨c,hc⟩:=Classical.not_forall.1 hk
    obtain⟨hc,hkc⟩:=Classical.not_imp.1 hc;have hne:n≠0:=fun e0=>by
     have:=bits.nk c hc;rw[e0,fg]at this;cases hkk:s.k c with
     |none=>exact hkc hkk
     |some y=>rw[hkk]at this;cases this
    rcases hs c hc with⟨_,_,h0⟩|⟨p,_,_,h0⟩|⟨h2,_⟩
    ·exact absurd h0 hkc
    ·exact absurd h0 hkc
    ·have:=oq (x:=x) (lev:=12-m) (c:=c) (l:=l)
     constructor
     ·rintro⟨_,e⟩;exact absurd e hne
     ·intro e;omega
  ·rintro p rfl
   rw[hso];have hc:=wJ x (12-m) p.1;have el:(fZ x (12-m) [p]).length=1:=FE fun c _=>bN oq (by simp)
   match hq:fZ x (12-m) [p],el with
   | [q],_=>
    have:q∈fZ x (12-m) [p]:=by rw[hq];exact aC.2 rfl
    rw[aC.1 (rg this)]
theorem MI{h:ae}{b d n:Nat}{sp sk:SliceV}{bu:Bool}{ow:Option Addr}(hb:h[b]? =some (.cells (fc d n sp sk bu ow) bh (0,0))) (hl:sp.len+sk.len≤1000000000) {K:Int→ae→Prop} (hk:K ((sp.len+sk.len:Nat):Int) h):HC PG jE [.pointer (some ⟨b,0,none⟩)] [.c (.int .i64)] K h:=by
 refine sF _ ?_;unfold oT af;refine ak.2 ⟨_,rfl,sp,dR (i:=2) hb,_,rfl,sk,dR (i:=3) hb,?_⟩;have e:IntKind.wrap .i64 ((sp.len:Int)+(sk.len:Int))=((sp.len+sk.len:Nat):Int):=by rw[fl (by omega)];omega
 rw[e];exact hk
theorem Mb{W:Nat→Prop}{x:Hs}{h:ae}{m b:Nat}{l:List Pr}(t:TrieAt W x h m b l)(hn:l.length≤1000000){K:Pr×Bool→ae→Prop}
  (hk:∀h' p,Upd No h h'→(l.length=1→l= [p])→K (p,decide (l.length=1)) h'):HC PG qO [.pointer (some ⟨b,0,none⟩)] [.agg [.str,.str],.c .bool] K h:=by
 refine CN _ ?_;unfold uV af cQ;refine bH fun h1 b1 k1=>?_
 have t1:=TrieAt.upd0 k1 t;obtain⟨d,n,sp,sk,bu,ow,lp,lk,hb,hsp,hsk,h1l,h2l,hiff,hone⟩:=G4 t1 hn;have l1:=hsp.len;have l2:=hsk.len;refine Join.intro (fun t h'=>t= !decide (l.length=1)∧h'=h1) (fun R hR=>?_) ?_
 ·refine MI hb (by omega) ?_
  by_cases e:sp.len+sk.len=1
  ·have e2:((sp.len+sk.len:Nat):Int)=1:=by omega
   rw[e2];refine ak.2 (wq hb (hR _ _ ⟨?_,rfl⟩));by_cases e0:n=0
   ·rw[decide_eq_true (hiff.1 ⟨by omega,e0⟩),e0];rfl
   ·rw[decide_eq_false fun h=>e0 (hiff.2 h).2]
    exact bne_iff_ne.2 (by omega)
  ·have e2:(((sp.len+sk.len:Nat):Int) !=(1:Int))=true:=bne_iff_ne.2 (by omega)
   rw[e2];refine ax.2 (hR _ _ ⟨?_,rfl⟩);rw[decide_eq_false fun h=>e (by have:=(hiff.2 h).1;omega)];rfl
 ·rintro _ h' ⟨rfl,rfl⟩
  have b1':h'[h.size]? =some (.cells #[.string GW.1,.string GW.2] aj (0,0)):=b1;by_cases e:l.length=1
  ·rw[decide_eq_true e]
   refine ak.2 ?_;refine re hb hsp (by omega) fun s2 h2 ho2 hu2=>?_
   match l,e,hone with
   | [p],e,hone=>
    have hlp:=hone p rfl;subst hlp;have hlen:=ho2.len;obtain⟨a,ha,_,hv⟩:=(ho2.sl (W:=No) fun _ _ _ h=>h).at (i:=0) (x:=p) rfl
    refine⟨⟨by omega,by simp at hlen;omega⟩,a,ha,p.1,hv 0 _ rfl,p.2,hv 1 _ rfl,?_⟩
    refine zi (p:=p) (hu2.get0 b1') fun h3 b3 hu3=>⟨_,vc b3 0,_,vc b3 1,?_⟩
    have:=hk h3 p ((k1.tr hu2).own hu3 (ao _)) fun _=>rfl
    exact this
  ·have:=hk
   rw[decide_eq_false e];rw[decide_eq_false e]at hk;refine ax.2 (zi (p:=GW) b1' fun h3 b3 hu3=>⟨_,vc b3 0,_,vc b3 1,?_⟩)
   exact hk h3 _ (k1.own hu3 (ao _)) fun h=>absurd h e
end Go.Proofs
namespace Go.Proofs
open Go Go.Lift
theorem F1{h:ae}{s:SliceV}{l:List Pr}(hs:Sl eG 2 No h s l)(hc:s.len≤s.cap)(hr:cW l)(hn:l.length≤1000000000)(k:ByteArray)
  {K:SliceV→ae→Prop}(hk:∀s' h',OwnS eG 2 aj (fun b=>h.size≤b) h' s' (lB k l)→Upd No h h'→K s' h'):HC PG tw [.slice s.a s.len s.cap,.string k] [.c .slice] K h:=by
 refine GI s k ?_;unfold zD;have hlen:=hs.len;refine EJ hs hr hn k fun h2 hu2=>?_
 have hp:=Lt l k;cases ht:cl l k with
 |false=>
  refine ax.2 (rp (hs.upd hu2 fun _ h=>h.elim) (by omega) fun s3 h3 ho3 hu3=>?_)
  rw[vr (AG ht)]at hk;exact hk _ _ (ho3.more fun b hb=>bN hu2.size hb) (hu2.tr hu3)
 |true=>
  obtain⟨hlt,_⟩:=Et hr ht;have ew:IntKind.wrap .i64 ((md l k:Int)+1)=((md l k+1:Nat):Int):=by rw[fl (by omega)];omega
  refine ak.2 ?_;simp only;rw[ew];refine⟨by omega,by omega,?_⟩
  simp only[Bd,aR];refine aX ?_;have hs2:=hs.upd hu2 fun _ h=>h.elim
  have k4:=Upd.hnew No h2 [.slice (aN s.a 0 s.cap 2) (md l k-0) (s.cap-0),.slice (aN s.a (md l k+1) s.cap 2) (s.len-(md l k+1)) (s.cap-(md l k+1))] bO;have b4:=bK h2 [.slice (aN s.a 0 s.cap 2) (md l k-0) (s.cap-0),.slice (aN s.a (md l k+1) s.cap 2) (s.len-(md l k+1)) (s.cap-(md l k+1))] bO;have hA:=Eh hs2 (i:=0) (j:=md l k) (m:=s.cap) (bi _) hp (by omega) (s.cap-0)
  have hC:=Eh hs2 (i:=md l k+1) (j:=l.length) (m:=s.cap) (by omega) (ao _) (by omega) (s.cap-(md l k+1));rw[←hlen]at hC;rw[List.drop_zero]at hA;rw[List.take_of_length_le (by rw[aG];omega)]at hC;have e0:lB k l= [l.take (md l k-0),l.drop (md l k+1)].flatten:=by rw[←Jp k hr];unfold Kp;rw[if_pos ht];simp
  refine DY (s:=⟨some (ag h2),2,2⟩) (vs:= [⟨aN s.a 0 s.cap 2,md l k-0,s.cap-0⟩,⟨aN s.a (md l k+1) s.cap 2,s.len-(md l k+1),s.cap-(md l k+1)⟩]) (ls:= [l.take (md l k-0),l.drop (md l k+1)])
   ⟨rfl,fun x=>⟨rfl,kN⟩,fun _=>⟨_,rfl,fun h=>h.elim,mD b4 fun i v hv=>by simpa[Ou]using hv⟩⟩ ⟨hA.upd k4 fun _ h=>h.elim,hC.upd k4 fun _ h=>h.elim,trivial⟩ ?_ (by simp) fun s5 h5 ho5 hu5=>?_
  ·simp only[List.flatten_cons,List.flatten_nil,ac,aB,aG,List.length_nil];omega
  ·rw[←e0]at ho5
   have hu:=hu2.tr k4;exact hk _ _ (ho5.more fun b hb=>bN hu.size hb) (hu.tr hu5)
theorem L2{W:Nat→Prop}{h:ae}{b:Nat}{l:List Pr}(bk:BuckAt W h b l)(hW:∀x,W x→x<h.size)(hr:cW l)(hn:l.length≤1000000000)(k:ByteArray){K:Option Addr→ae→Prop}
  (hk:∀h' b',BuckAt W h' b' (lB k l)→Upd No h h'→K (some ⟨b',0,none⟩) h'):
  HC PG nH [.pointer (some ⟨b,0,none⟩),.pointer none,.string k] [.c .ptr] K h:=by
 refine yD _ none k ?_;unfold rF af;obtain⟨sp,sk,ow,hb,hsp,hsk,hcp,hck⟩:=bk.ex;refine gA hb (ak.2 ?_);refine I9 bk hn fun h2 s2 t2 b2 hA hB hu2=>?_
 refine⟨_,rfl,s2,dR (i:=2) b2,?_⟩;refine F1 (hA.sl fun _ _ _ h=>h) hA.cap hr hn k fun s3 h3 ho3 hu3=>?_
 have b3:=hu3.get0 b2;refine⟨_,rfl,Ml (i:=2) b3 (show 2<6 by decide),Cr (i:=2) (c':=fc 0 0 s3 t2 true none) b3 rfl fun h4 b4 hu4=>?_⟩
 have z2:=bD b2;have ho4:=ho3.upd hu4 fun x hx e=>by have e:x=h.size:=e;omega
 have hB4:=(hB.upd hu3 fun _ _ h=>h).upd hu4 fun x hx e=>by have e:x=h.size:=e;omega
 refine hk h4 h.size ⟨⟨s3,t2,none,b4,ho4.sl fun x hx _ hw=>?_,hB4.sl fun x hx _ hw=>?_,ho3.cap,hB.cap⟩,fun hw=>?_⟩ ((hu2.tr hu3).trans hu4 fun x hx=>.inr ?_)
 ·have:=hW x hw;have:=hu2.size;omega
 ·have:=hW x hw;omega
 ·have:=hW _ hw;omega
 ·have hx:x=h.size:=hx
  omega
theorem Gx{W:Nat→Prop}{x:Hs}:∀(m:Nat),m≤13→∀{b:Nat} {l:List Pr} (k:ByteArray) {h:ae},TrieAt W x h m b l→(∀y,W y→y<h.size)→cW l→l.length≤1000000→∀{K:(Option Addr)×Bool→ae→Prop},
  (∀h' b',Upd No h h'→TrieAt W x h' m b' (lB k l)→(cl l k=false→b'=b)→K (some ⟨b',0,none⟩,cl l k) h')→
  HC PG j6 [KV x k,.pointer (some ⟨b,0,none⟩),.int .i64 ((13-m:Nat):Int)] [.c .ptr,.c .bool] K h:=by
 intro m;induction m with
 |zero=>
  intro _ b l k h t hW hr hn K hk;have gW:∀{h'},Upd No h h'→∀y,W y→y<h'.size:=fun k y hy=>aL (hW y hy) k.size
  refine qm (x.k0,x.k1,x.mask,none,k,dA x k) (some ⟨b,0,none⟩) ((13-0:Nat):Int) ?_;unfold m6 af;refine bH fun h1 b1 k1=>?_
  have bk:BuckAt W h1 b l:=BuckAt.upd t k1 fun _ h=>h.elim
  obtain⟨sp,sk,ow,hb,_⟩:=bk.ex;refine gA hb (ax.2 ⟨_,vc b1 4,Nj bk hr (by omega) k fun h3 v hu3 hv=>?_⟩)
  have b3:=hu3.get0 b1;cases ht:cl l k with
  |false=>
   rw[ht]at hk;exact ax.2 (hk h3 b (k1.tr hu3) (by rw[vr (AG ht)];exact bk.upd hu3 fun _ h=>h.elim) fun _=>rfl)
  |true=>
   rw[ht]at hk;refine ak.2 ⟨none,vc b3 3,_,vc b3 4,?_⟩;refine L2 (bk.upd hu3 fun _ h=>h.elim) (gW (k1.tr hu3)) hr (by omega) k fun h5 b5 bk5 hu5=>?_
   exact hk h5 b5 ((k1.tr hu3).tr hu5) bk5 fun h=>by cases h
 |succ m ih=>
  intro hm b l k h t hW hr hn K hk;have gW:∀{h'},Upd No h h'→∀y,W y→y<h'.size:=fun k y hy=>aL (hW y hy) k.size
  have hl:13-(m+1)<13:=by omega
  have hlev:13-(m+1)=12-m:=by omega
  refine qm (x.k0,x.k1,x.mask,none,k,dA x k) (some ⟨b,0,none⟩) ((13-(m+1):Nat):Int) ?_;unfold m6 af;refine bH fun h1 b1 k1=>?_
  have t1:=TrieAt.upd0 k1 t;obtain⟨s,nd1,hs⟩:=t1;have hs:∀c,c<32→SlotIs W x h1 m s c (part x (12-m) c l):=hs;obtain⟨d,n,sp,sk,ow,hb,_⟩:=nd1.ex;refine gA hb (ak.2 ⟨_,vc b1 5,Kw hl ?_⟩);rw[hlev];have hi:=wJ x (12-m) k;have hsi:=hs _ hi;have htp:cl (part x (12-m) (ck x (12-m) k) l) k=cl l k:=AF;have hrp:cW (part x (12-m) (ck x (12-m) k) l):=nA hr;have hnp:(part x (12-m) (ck x (12-m) k) l).length≤1000000:=bN oq hn
  have hturn:∀{h':ae} {b':Nat} {s':Slots},Upd No h1 h'→NodeAt W h' b' s'→(∀c,c≠ck x (12-m) k→s'.p c=s.p c∧s'.k c=s.k c)→SlotIs W x h' m s' (ck x (12-m) k) (lB k (part x (12-m) (ck x (12-m) k) l))→TrieAt W x h' (m+1) b' (lB k l):=fun hu nd hp hi=>G3 hu nd hs hp hi
  have tt:∀{h':ae},Upd No h1 h'→TrieAt W x h' (m+1) b l:=fun hu=>TrieAt.upd0 (k1.tr hu) t
  generalize hc:ck x (12-m) k=c at*;generalize hlc:part x (12-m) c l=lc at*;refine A9 nd1 hi fun h3 hu3=>?_
  refine bH fun h4 b4 k4=>?_
  have b4':h4[h3.size]? =some (.cells #[.string GW.1,.string GW.2] aj (0,0)):=b4;refine zi (p:=LD (s.p c)) b4' fun h5 b5 hu5=>?_
  have hu15:Upd No h1 h5:=(hu3.tr k4).own hu5 hu3.size;have c1:=hu15.get0 b1;have nd5:=nd1.upd hu15 fun _ h=>h.elim
  have same:∀{h':ae},Upd No h1 h'→cl l k=false→K (some ⟨b,0,none⟩,false) h':=fun hu ht=>by
   have:=hk _ b (k1.tr hu) (by rw[vr (AG ht)];exact tt hu) fun _=>rfl
   rw[ht]at this;exact this
  cases hsp:s.p c with
  |some y=>
   rw[hsp]at b5;obtain⟨hone,hk0⟩:lc= [y]∧s.k c=none:=by
    rcases hsi with⟨_,h2,_⟩|⟨q,h1,h2,h3⟩|⟨_,h2,_⟩
    ·rw[hsp]at h2;cases h2
    ·rw[hsp]at h2;cases h2;exact⟨h1,h3⟩
    ·rw[hsp]at h2;cases h2
   refine ax.2 ⟨y.1,vc b5 0,k,vc c1 4,?_⟩;rw[jG];by_cases e1:y.1=k
   ·have ht:cl l k=true:=by rw[←htp,hone];exact bW.2 ⟨y,aC.2 rfl,decide_eq_true e1⟩
    rw[decide_eq_true e1];rw[ht]at hk;refine ak.2 ⟨none,vc c1 3,LU nd5 (gW (k1.tr hu15)) hi fun h6 b6 nd6 hu6=>?_⟩
    refine hk h6 b6 ((k1.tr hu15).tr hu6) (hturn (hu15.tr hu6) nd6 (fun c' hc'=>⟨ey hc',ey hc'⟩) ?_) fun h=>by cases h
    refine .inl ⟨?_,eM,eM⟩;rw[hone,tZ,if_pos e1];rfl
   ·rw[decide_eq_false e1]
    have ht:cl l k=false:=by
     rw[←htp,hone];unfold cl;rw[om,decide_eq_false e1];rfl
    exact ax.2 (same hu15 ht)
  |none=>
   refine ak.2 (EB nd5 hi ?_);cases hsk:s.k c with
   |none=>
    have hlc0:lc= []:=by
     rcases hsi with⟨h1,_⟩|⟨q,_,h2,_⟩|⟨_,_,kb,h2,_⟩
     ·exact h1
     ·rw[hsp]at h2;cases h2
     ·rw[hsk]at h2;cases h2
    exact ax.2 (same hu15 (by rw[←htp,hlc0];rfl))
   |some kp=>
    obtain⟨h2l,kb,rfl,tk⟩:2≤lc.length∧∃kb,kp=some ⟨kb,0,none⟩∧TrieAt W x h1 m kb lc:=by
     rcases hsi with⟨_,_,h2⟩|⟨q,_,h2,_⟩|⟨h1,_,kb,h2,h3⟩
     ·rw[hsk]at h2;cases h2
     ·rw[hsp]at h2;cases h2
     ·rw[hsk]at h2;cases h2;exact⟨h1,kb,rfl,h3⟩
    refine ak.2 ⟨_,vc c1 0,_,vc c1 1,_,vc c1 2,_,vc c1 3,_,vc c1 4,_,vc c1 5,?_⟩;have ew:IntKind.wrap .i64 (((12-m:Nat):Int)+1)=((13-m:Nat):Int):=by rw[fl (by omega)];omega
    rw[ew];refine ih (by omega) k (TrieAt.upd0 hu15 tk) (gW (k1.tr hu15)) hrp hnp fun h6 b6 hu6 t6 hsame=>?_
    have hu16:=hu15.tr hu6;rw[htp];cases ht:cl l k with
    |false=>exact ax.2 (same hu16 ht)
    |true=>
     rw[ht]at hk;have hdl:=Jo (k:=k) hrp;have hdn:(lB k lc).length≤1000000:=bN NN hnp;refine ak.2 (Mb t6 hdn fun h7 p hu7 hp=>?_)
     refine bH fun h8 b8 k8=>?_
     have b8':h8[h7.size]? =some (.cells #[.string GW.1,.string GW.2] aj (0,0)):=b8;refine zi (p:=p) b8' fun h9 b9 hu9=>?_
     have hu19:Upd No h1 h9:=((hu16.tr hu7).tr k8).own hu9 (hu16.tr hu7).size;have c9:=hu19.get0 b1;have nd9:=nd1.upd hu19 fun _ h=>h.elim
     refine aA (fun e=>?_) fun e=>?_
     ·refine⟨none,vc c9 3,p.1,vc b9 0,p.2,vc b9 1,nz nd9 (gW (k1.tr hu19)) hi (fun y hy=>by rw[hsp]at hy;cases hy) p fun h10 b10 nd10 hu10=>?_⟩
      refine hk h10 b10 ((k1.tr hu19).tr hu10) (hturn (hu19.tr hu10) nd10 (fun c' hc'=>⟨ey hc',ey hc'⟩) ?_) fun h=>by cases h
      exact .inr (.inl ⟨p,hp e,eM,eM⟩)
     ·refine⟨none,vc c9 3,rc nd9 (gW (k1.tr hu19)) hi (fun _ _=>hsp) ⟨b6,0,none⟩ fun h10 b10 nd10 hu10=>?_⟩
      refine hk h10 b10 ((k1.tr hu19).tr hu10) (hturn (hu19.tr hu10) nd10 (fun c' hc'=>⟨ey hc',ey hc'⟩) ?_) fun h=>by cases h
      exact .inr (.inr ⟨by omega,eM,b6,eM,TrieAt.upd0 ((hu7.tr k8).own hu9 hu7.size|>.tr hu10) t6⟩)
theorem ES{W:Nat→Prop}{x:Hs}{h:ae}{b:Nat}{l:List Pr}(t:TrieAt W x h 13 b l)(hW:∀y,W y→y<h.size)(hr:cW l)(hn:l.length≤1000000)(k:ByteArray){K:Option Addr×Bool→ae→Prop}
  (hk:∀h' b',Upd No h h'→TrieAt W x h' 13 b' (lB k l)→(cl l k=false→b'=b)→K (some ⟨b',0,none⟩,cl l k) h'):
  HC PG sd [.agg #[.int .u64 x.k0,.int .u64 x.k1,.int .u64 x.mask],.pointer none,.pointer (some ⟨b,0,none⟩),.string k] [.c .ptr,.c .bool] K h:=by
 refine Fa (x.k0,x.k1,x.mask) none (some ⟨b,0,none⟩) k ?_;unfold xu af;refine bH fun h1 b1 k1=>?_
 refine IW (.inr ⟨b,rfl,TrieAt.upd0 k1 t⟩) (fun y hy=>aL (hW y hy) k1.size) fun h2 b2 t2 hu2 hb2=>?_
 have c2:=hu2.get0 b1;refine⟨_,vc c2 0,_,vc c2 1,_,vc c2 2,_,vc c2 0,_,vc c2 1,_,vc c2 2,?_⟩;refine qd fun h3 hu3=>?_
 have c3:=hu3.get0 c2;refine⟨⟨vc c3 0,vc c3 1,vc c3 2⟩,?_⟩;have hu03:=(k1.tr hu2).tr hu3;refine Gx 13 (ao _) k (TrieAt.upd0 hu3 t2) (fun y hy=>aL (hW y hy) hu03.size) hr hn fun h4 b4 hu4 t4 hs4=>?_
 refine hk h4 b4 (hu03.tr hu4) t4 fun ht=>?_
 rw[hs4 ht];rcases hb2 with e|e
 ·cases e;rfl
 ·cases e
end Go.Proofs
namespace Go.Proofs
def qH(P P':List UInt8→ByteArray→Prop)(k:List UInt8):Prop:=∀k' v',P' k' v'↔k'≠k∧P k' v'
theorem H3{P:List UInt8→ByteArray→Prop}{k:List UInt8}(h:∀v,¬P k v):qH P P k:=fun k' v'=>⟨fun hp=>⟨fun e=>h v' (e▸hp),hp⟩,fun h=>h.2⟩
theorem H2{w:Option ByteArray}{F:Fo}(h:eS F):qH (oZ w F) (oZ none F) []:=by
 intro k' v';unfold oZ;constructor
 ·rintro(⟨_,f⟩|hi)
  ·cases f
  ·exact⟨mK h hi,.inr hi⟩
 ·rintro⟨e,⟨f,_⟩|hi⟩
  ·exact absurd f e
  ·exact .inr hi
theorem Bx{w:Option ByteArray}{F F':Fo}{k:List UInt8}(hk:k≠[])(h:qH (nK F) (nK F') k):qH (oZ w F) (oZ w F') k:=by
 intro k' v';unfold oZ;rw[h k' v'];constructor
 ·rintro(⟨e,f⟩|hi)
  ·exact⟨fun e'=>hk (e'.symm.trans e),.inl ⟨e,f⟩⟩
  ·exact⟨hi.1,.inr hi.2⟩
 ·rintro⟨e,hi|hi⟩
  ·exact .inl hi
  ·exact .inr ⟨e,hi⟩
theorem H4{lab r:List UInt8}{w w':Option ByteArray}{F F':Fo}(h:qH (oZ w F) (oZ w' F') r):qH (p4 (lab,w,F)) (p4 (lab,w',F')) (lab++r):=by
 intro k' v';constructor
 ·rintro⟨s,e,hs⟩
  obtain⟨h1,h2⟩:=(h s v').1 hs;exact⟨fun e'=>h1 (d7 (e.symm.trans e')),s,e,h2⟩
 ·rintro⟨h1,s,e,hs⟩
  exact⟨s,e,(h s v').2 ⟨fun e'=>h1 (by rw[e,e']),hs⟩⟩
theorem Km{F:Fo}{i:Nat}{m:Bn}{k:List UInt8}(h:eS F)(hi:i<F.toL.length)(ek:hd F.toL[i].1=hd k)(hp:qH (p4 F.toL[i]) (p4 m) k):qH (nK F) (nK (.ofL (F.toL.set i m))) k:=by
 intro k' v';have hc:=dT.1 h;rw[eY,eY,Fo.to_of];constructor
 ·rintro⟨n,hn,hr⟩
  rcases(kC hi (rU h hi)).1 hn with rfl|⟨hn,hne⟩
  ·obtain⟨h1,h2⟩:=(hp k' v').1 hr
   exact⟨h1,_,bE hi,h2⟩
  ·refine⟨fun e=>hne ?_,n,hn,hr⟩
   obtain⟨r,e',_⟩:=hr;refine uc h hn (bE hi) ?_;rw[ek,←e,e',mL (hc.2 n hn).1]
 ·rintro⟨h1,n,hn,hr⟩
  by_cases e:n=F.toL[i]
  ·exact⟨m,(kC hi (rU h hi)).2 (.inl rfl),(hp k' v').2 ⟨h1,by rw[←e];exact hr⟩⟩
  ·exact⟨n,(kC hi (rU h hi)).2 (.inr ⟨hn,e⟩),hr⟩
theorem zl{α:Type}{l:List α}{i:Nat}(hi:i<l.length){x:α}(nd:∀j (hj:j<l.length),j≠i→l[j]≠l[i]):x∈l.take i++l.drop (i+1)↔x∈l∧x≠l[i]:=by
 constructor
 ·intro h
  rcases bI.1 h with h|h
  ·obtain⟨j,hj,e⟩:=aW h
   rw[aB]at hj;rw[List.getElem_take]at e;exact⟨List.mem_of_mem_take h,by rw[←e];exact nd j (by omega) (by omega)⟩
  ·obtain⟨j,hj,e⟩:=aW h
   rw[aG]at hj;rw[List.getElem_drop]at e;exact⟨List.mem_of_mem_drop h,by rw[←e];exact nd (i+1+j) (by omega) (by omega)⟩
 ·rintro⟨h,hne⟩
  obtain⟨j,hj,e⟩:=aW h;rcases Nat.lt_trichotomy j i with hl|hl|hl
  ·exact bI.2 (.inl (lI (i:=j) (h:=by rw[aB];omega) (by rw[List.getElem_take];exact e)))
  ·subst hl;exact absurd e.symm hne
  ·refine bI.2 (.inr (lI (i:=j-(i+1)) (h:=by rw[aG];omega) ?_))
   rw[List.getElem_drop];have:i+1+(j-(i+1))=j:=by omega
   simp only[this];exact e
theorem MZ{F:Fo}{i:Nat}(h:eS F):eS (.ofL (F.toL.take i++F.toL.drop (i+1))):=by
 have hc:=dT.1 h;rw[dT,Fo.to_of];have hs:(F.toL.take i++F.toL.drop (i+1)).Sublist F.toL:=by rw[←List.eraseIdx_eq_take_drop_succ];exact List.eraseIdx_sublist ..
 exact⟨hc.1.sublist hs,fun n hn=>hc.2 n (hs.subset hn)⟩
theorem Ko{F:Fo}{i:Nat}{k:List UInt8}(h:eS F)(hi:i<F.toL.length)(ek:hd F.toL[i].1=hd k)(hp:∀k' v',p4 F.toL[i] k' v'→k'=k):qH (nK F) (nK (.ofL (F.toL.take i++F.toL.drop (i+1)))) k:=by
 intro k' v';have hc:=dT.1 h;rw[eY,eY,Fo.to_of];constructor
 ·rintro⟨n,hn,hr⟩
  obtain⟨hn,hne⟩:=(zl hi (rU h hi)).1 hn;refine⟨fun e=>hne ?_,n,hn,hr⟩
  obtain⟨r,e',_⟩:=hr;refine uc h hn (bE hi) ?_;rw[ek,←e,e',mL (hc.2 n hn).1]
 ·rintro⟨h1,n,hn,hr⟩
  by_cases e:n=F.toL[i]
  ·exact absurd (hp k' v' (by rw[←e];exact hr)) h1
  ·exact⟨n,(zl hi (rU h hi)).2 ⟨hn,e⟩,hr⟩
def M7(n:Bn)(o:Option Bn):Prop:=(o=none∧∀k v,¬p4 n k v)∨∃m,o=some m∧Fd m∧hd m.1=hd n.1∧∀k v,p4 m k v↔p4 n k v
theorem Kc{lab:List UInt8}{w:Option ByteArray}{F:Fo}(hl:lab≠[])(hc:eS F)(h:w.isSome∨2≤F.toL.length):M7 (lab,w,F) (some (lab,w,F)):=.inr ⟨_,rfl,⟨hl,h,hc⟩,rfl,fun _ _=>Iff.rfl⟩
theorem Kd{lab:List UInt8}{F:Fo}(h:F.toL= []):M7 (lab,none,F) none:=by
 refine .inl ⟨rfl,fun k v hi=>?_⟩
 obtain⟨r,_,⟨_,h'⟩|h'⟩:=hi
 ·cases h'
 ·obtain⟨n,hn,_⟩:=eY.1 h'
  simp only at hn;rw[h]at hn;cases hn
theorem Lx{lab lk:List UInt8}{wk:Option ByteArray}{F Fk:Fo}(hl:lab≠[])(hc:eS F)(h:F.toL= [(lk,wk,Fk)]):M7 (lab,none,F) (some (lab++lk,wk,Fk)):=by
 have eF:F=.cons lk wk Fk .nil:=by
  rw[←Fo.of_to F,h];rfl
 have hn:=(dT.1 hc).2 (lk,wk,Fk) (by rw[h];exact aC.2 rfl);refine .inr ⟨_,rfl,⟨fun e=>hl (List.append_eq_nil_iff.1 e).1,hn.2.1,hn.2.2⟩,mL hl,fun k v=>?_⟩
 have:=DL (lab:=lab++lk) (w:=wk) (F:=Fk) lab.length k v;rw[List.take_left,eW]at this;rw[eF];exact this.symm
end Go.Proofs
namespace Go.Proofs
open Go Go.Lift
theorem kS(s:ByteArray):s.data.toList.length=s.size:=by simp
theorem L4(a b:ByteArray):(a++b).data.toList=a.data.toList++b.data.toList:=by rw[nu,Array.toList_append]
theorem J0{a b:ByteArray}{h:ae}{K:Bool→ae→Prop}(hk:K (decide (b.data.toList<+:a.data.toList)) h):HC PG nX [.string a,.string b] [.c .bool] K h:=by
 refine CB a b ?_;unfold uK;refine yw a b ?_;unfold ry;refine oF a b ?_;unfold jl;have la:=kS a;have lb:=kS b;refine aA (fun hge=>?_) fun hlt=>?_
 ·refine⟨⟨by omega,by omega⟩,?_⟩
  rw[jG,aR];have e:decide (a.extract 0 b.size=b)=decide (b.data.toList<+:a.data.toList):=by
   rw[decide_eq_decide,←nI,Bs,List.prefix_iff_eq_take,lb];exact eq_comm
  rw[e];exact hk
 ·have e:decide (b.data.toList<+:a.data.toList)=false:=decide_eq_false fun hp=>by
   have:=hp.length_le;omega
  rw[e]at hk;exact hk
theorem NO{a b:ByteArray}{h:ae}{K:ByteArray×Bool→ae→Prop}(h1:∀s:ByteArray,a.data.toList=b.data.toList++s.data.toList→K (s,true) h)(h2:(∀r,a.data.toList≠b.data.toList++r)→K (⟨#[]⟩,false) h):HC PG vm [.string a,.string b] [.c .str,.c .bool] K h:=by
 refine Il a b ?_;unfold BS;refine J0 ?_;have la:=kS a;have lb:=kS b;by_cases hp:b.data.toList<+:a.data.toList
 ·rw[decide_eq_true hp]
  have hle:=hp.length_le;refine ak.2 ⟨⟨by omega,by omega⟩,?_⟩
  rw[aR];refine h1 _ ?_;rw[Bu];obtain⟨r,e⟩:=hp;rw[←e,←lb,eW]
 ·rw[decide_eq_false hp]
  exact ax.2 (h2 fun r e=>hp ⟨r,e.symm⟩)
def Ox(W:Nat→Prop)(h:ae)(r:Option Addr)(o:Option Bn):Prop:=(r=none∧o=none)∨∃b sl m,r=some ⟨b,0,none⟩∧o=some m∧sl.data.toList=m.1∧RxN W h b sl m.2.1 m.2.2
theorem JN{W:Nat→Prop}{h:ae}{b:Nat}{sl:ByteArray}{w:Option ByteArray}{F:Fo}(r:RxN W h b sl w F)(hW:∀y,W y→y<h.size)(hc:eS F)(hne:sl.data.toList≠[])(hs1:sl.size≤1000000)(hs2:∀k v,nK F k v→k.length≤1000000)
  {K:Option Addr→ae→Prop}(hk:∀h' r o,Upd No h h'→M7 (sl.data.toList,w,F) o→Ox W h' r o→K r h'):HC PG mR [.pointer (some ⟨b,0,none⟩),.pointer none] [.c .ptr] K h:=by
 refine wW _ none ?_;unfold qt af cQ;have hr:=r;obtain⟨val,s,ow,ks,hb,hv,hs,hcap,hF⟩:=r;have hL:=ie.1 hF;have hn:=iL hc;have hlen:=hs.len;rw[hL.1]at hlen;refine Join.intro (fun t h'=>t=decide (w.isSome∨2≤F.toL.length)∧h'=h) (fun R hR=>⟨_,rfl,w.isSome,db (i:=1) hb,?_⟩) ?_
 ·cases w with
  |some v=>exact ax.2 (hR _ _ ⟨rfl,rfl⟩)
  |none=>
   refine ak.2 ⟨_,rfl,s,db (i:=3) hb,hR _ _ ⟨?_,rfl⟩⟩;rw[decide_eq_decide];constructor
   ·intro h;exact .inr (by omega)
   ·rintro(h|h)
    ·cases h
    ·omega
 ·rintro t h' ⟨rfl,rfl⟩
  refine aA (fun h2=>?_) fun h2=>?_
  ·exact hk h' _ _ (Upd.refl _ _) (Kc hne hc h2) (.inr ⟨b,sl,_,rfl,rfl,rfl,hr⟩)
  ·have hw:w=none:=by
    cases w with
    |none=>rfl
    |some v=>exact absurd (.inl rfl) h2
   subst hw;have hl2:F.toL.length<2:=by
    rcases bR F.toL.length 2 with h|h
    ·exact h
    ·exact absurd (.inr h) h2
   refine⟨_,rfl,s,db (i:=3) hb,?_⟩;match hFL:F.toL,hl2 with
   | [],_=>
    rw[hFL]at hlen;have e:((s.len:Int)==(0:Int))=true:=by rw[beq_iff_eq,hlen];rfl
    rw[e];exact ax.2 (hk h' _ _ (Upd.refl _ _) (Kd hFL) (.inl ⟨rfl,rfl⟩))
   | [(lk,wk,Fk)],_=>
    rw[hFL]at hlen;have e:((s.len:Int)==(0:Int))=false:=by rw[beq_eq_false_iff_ne,hlen];simp
    rw[e];have hmem:(lk,wk,Fk)∈F.toL:=by rw[hFL];exact aC.2 rfl
    have hcm:=(dT.1 hc).2 _ hmem;have h0:0<F.toL.length:=by rw[hFL];exact kN
    obtain⟨kb,ksl,hki,hkl,hkn⟩:=hL.at h0;have e0:F.toL[0]=(lk,wk,Fk):=by simp only[hFL];rfl
    rw[e0]at hkl hkn;simp only at hkl hkn;obtain⟨a,ha,_,hvv⟩:=hs.at0 hki;obtain⟨kval,kss,kow,kks,hkb,hkv,hkss,hkcap,hkF⟩:=hkn;have hkL:=ie.1 hkF;have hkn2:=iL hcm.2.2;refine ak.2 ⟨_,rfl,s,db (i:=3) hb,⟨by omega,by rw[hlen];simp⟩,a,ha,some ⟨kb,0,none⟩,hvv,?_⟩
    refine mC hkb hkss (by rw[hkL.1];exact hkn2) fun h1 s1 b1 ho1 hu1=>?_
    obtain⟨rr,vv,hin⟩:=kE hc _ hmem;have hbd:=hs2 (lk++rr) vv (eY.2 ⟨_,hmem,rr,rfl,hin⟩);rw[ac]at hbd;have hlkl:lk.length=ksl.size:=by rw[←hkl];exact kS ksl
    refine⟨_,rfl,sl,db (i:=0) (hu1.get0 hb),_,rfl,ksl,db (i:=0) b1,by omega,?_⟩
    have hbl:b<h'.size:=bD hb;refine rP b1 fun h2 b2 hu2=>?_
    have hu02:Upd No h' h2:=hu1.own hu2 (ao _);have ho2:=ho1.upd hu2 fun x hx e=>by have e:x=h'.size:=e;have:=hx.1;omega
    refine hk h2 _ _ hu02 (Lx hne hc hFL) (.inr ⟨h'.size,sl++ksl,_,rfl,rfl,by rw[←hkl];exact L4 sl ksl,⟨kval,s1,none,kks,b2,hkv,ho2.sl (fun x hx _ hw=>by have:=hW _ hw;have:=hx.1;omega),⟨ho2.cap,fun hx=>jM _ (hW _ hx)⟩,RxF.upd0 hu02 hkF⟩⟩)
set_option maxHeartbeats 1000000 in
theorem Lj{W:Nat→Prop}:∀(n:Nat) {b:Nat} {sl:ByteArray} {w:Option ByteArray} {F:Fo} {h:ae} (k:ByteArray),k.size<n→RxN W h b sl w F→(∀y,W y→y<h.size)→eS F→(∀j v,nK F j v→j.length≤1000000)→∀{K:(Option Addr)×Bool→ae→Prop},
  (∀h' b' w' F' gone,Upd No h h'→RxN W h' b' sl w' F'→eS F'→qH (oZ w F) (oZ w' F') k.data.toList→(gone=false→b'=b∧∀v,¬oZ w F k.data.toList v)→(gone=true→∃v,oZ w F k.data.toList v)→K (some ⟨b',0,none⟩,gone) h')→
  HC PG j4 [.pointer (some ⟨b,0,none⟩),.pointer none,.string k] [.c .ptr,.c .bool] K h:=by
 intro n;induction n with
 |zero=>intro b sl w F h k hk;omega
 |succ n ih=>
  intro b sl w F h k hkn r hW hc hbd K hk;refine wY (some ⟨b,0,none⟩) none k ?_;unfold qv af cQ;have hr:=r;obtain⟨val,s,ow,ks,hb,hv,hs,hcap,hF⟩:=r;have hL:=ie.1 hF;have hn:=iL hc;have hcan:=dT.1 hc;have stay:∀{h':ae},Upd No h h'→(∀v,¬oZ w F k.data.toList v)→K (some ⟨b,0,none⟩,false) h':=fun hu hno=>hk _ b w F false hu (hr.upd0 hu) hc (H3 hno) (fun _=>⟨rfl,hno⟩) fun h=>by cases h
  rw[jG];refine aA (fun hk0=>?_) fun hk0=>?_
  ·have hke:k.data.toList= []:=by rw[hk0]
   rw[hke]at hk stay;refine⟨_,rfl,w.isSome,db (i:=1) hb,?_⟩;cases hw:w with
   |none=>
    refine ax.2 (stay (Upd.refl _ _) fun v hin=>?_)
    rcases hin with⟨_,h⟩|h
    ·rw[hw]at h;cases h
    ·exact absurd rfl (mK hc h)
   |some u=>
    refine ak.2 (mC hb hs (by rw[hL.1];exact hn) fun h1 s1 b1 ho1 hu1=>?_)
    refine⟨_,rfl,Mk (i:=1) b1 (show 1<5 by decide),Co (i:=1) (c':=wg sl false val s1 none) b1 rfl fun h2 b2 hu2=>?_⟩
    refine⟨_,rfl,Mk (i:=2) b2 (show 2<5 by decide),Co (i:=2) (c':=wg sl false ⟨#[]⟩ s1 none) b2 rfl fun h3 b3 hu3=>?_⟩
    have hu03:Upd No h h3:=hu1.own (hu2.tr hu3) (ao _);have ho3:=ho1.upd (hu2.tr hu3) fun x hx e=>by have e:x=h.size:=e;have:=hx.1;omega
    refine hk h3 h.size none F true hu03 ⟨⟨#[]⟩,s1,none,ks,b3,rfl,ho3.sl (fun x hx _ hw=>by have:=hW _ hw;have:=hx.1;omega),⟨ho3.cap,fun hx=>jM _ (hW _ hx)⟩,RxF.upd0 hu03 hF⟩ hc (H2 hc) (fun h=>by cases h) fun _=>⟨u,.inl ⟨rfl,hw⟩⟩
  ·have hkne:k.data.toList≠[]:=fun e=>hk0 (by cases k;exact congrArg lu (Array.toList_inj.1 e))
   obtain⟨c0,hc0,hc0e⟩:=Bk hkne;refine⟨c0,Int.le_refl _,hc0,?_⟩;have hlk:k.data.toList.length=k.size:=kS k;refine Dr hr hc (c:=c0.toNat) (UInt8.toNat_lt _) fun i ok hil hlo hhi hok=>?_
   rw[hc0e]at hlo hhi hok;cases ok with
   |false=>
    refine ax.2 (stay (Upd.refl _ _) fun v hin=>?_)
    rcases hin with⟨h,_⟩|hin
    ·exact hkne h
    ·obtain⟨n',hn',e,_⟩:=pw hc hin
     obtain⟨j,hj,rfl⟩:=aW hn';rcases bR j i with hl|hl
     ·have:=hlo j hj hl;omega
     ·have h1:=hhi j hj hl
      have h2:=hhi i (by omega) (ao _);rcases bR i j with hl2|hl2
      ·have h3:=List.pairwise_iff_getElem.1 hcan.1 i j (by omega) hj hl2
       omega
      ·have:i=j:=by omega
       subst this;have:=hok.2 ⟨hj,e⟩;cases this
   |true=>
    obtain⟨hi,hie⟩:=hok.1 rfl;refine ak.2 ⟨_,rfl,s,db (i:=3) hb,?_⟩;obtain⟨kb,ksl,hki,hkl,hkn'⟩:=hL.at hi;have hmem:F.toL[i]∈F.toL:=bE hi;have hcm:=hcan.2 _ hmem;obtain⟨a,ha,_,hvv⟩:=hs.at0 hki;have hslen:=hs.len;rw[hL.1]at hslen;have hlt1:(i:Int)<((s.len:Nat):Int):=by omega
    refine⟨⟨by simp only;omega,hlt1⟩,a,ha,some ⟨kb,0,none⟩,hvv,_,rfl,?_⟩;obtain⟨kval,kss,kow,kks,hkb,_⟩:=id hkn';have hin_m:∀v,nK F k.data.toList v→p4 F.toL[i] k.data.toList v:=fun v hin=>by
     obtain⟨n',hn',e,hN⟩:=pw hc hin;rw[←uc hc hn' hmem (by omega)];exact hN
    have hm_in:∀j v,p4 F.toL[i] j v→nK F j v:=fun j v hin=>eY.2 ⟨_,hmem,hin⟩
    have hcanset:∀{m:Bn},Fd m→hd m.1=hd F.toL[i].1→eS (.ofL (F.toL.set i m)):=fun h1 h2=>Jt hc hi h1 h2
    have hdset:∀{m:Bn},qH (p4 F.toL[i]) (p4 m) k.data.toList→qH (nK F) (nK (.ofL (F.toL.set i m))) k.data.toList:=fun hp=>Km hc hi hie hp
    have hddel:(∀k' v',p4 F.toL[i] k' v'→k'=k.data.toList)→qH (nK F) (nK (.ofL (F.toL.take i++F.toL.drop (i+1)))) k.data.toList:=fun hp=>Ko hc hi hie hp
    have hrset:∀{h':ae} {k':Option Addr} {m:Bn},Upd No h h'→Kid W h' k' m→RxL W h' (ks.set i k') (F.toL.set i m):=fun hu hkd=>(hL.upd0 hu).set hi hkd
    generalize F.toL[i]=m at hkl hkn' hcm hin_m hm_in hcanset hdset hddel hie;obtain⟨lab,wk,Fk⟩:=m;simp only at hkl hkn' hcm hie hcanset;refine⟨ksl,db (i:=0) hkb,NO (fun rest hrest=>?_) fun hno=>?_⟩
    ·rw[hkl]at hrest
     have hlne:lab.length≠0:=fun e=>hcm.1 (ar.1 e)
     have hrl:rest.size<k.size:=by
      rw[←kS rest,←hlk,hrest,ac];omega
     refine ak.2 ⟨_,rfl,s,db (i:=3) hb,⟨by simp only;omega,hlt1⟩,a,ha,some ⟨kb,0,none⟩,hvv,?_⟩;have hkbd:∀j v,nK Fk j v→j.length≤1000000:=fun j v hin=>by
      have:=hbd _ v (hm_in (lab++j) v ⟨j,rfl,.inr hin⟩);rw[ac]at this;omega
     refine ih rest (by omega) hkn' hW hcm.2.2 hkbd fun h2 b2 w2 F2 gone hu2 rn2 hc2 hd2 hg0 hg1=>?_
     cases gone with
     |false=>
      refine ax.2 (stay hu2 fun v hin=>?_)
      rcases hin with⟨h,_⟩|hin
      ·exact hkne h
      ·obtain⟨r',e,hr'⟩:=hin_m v hin
       simp only at e;rw[hrest]at e;exact(hg0 rfl).2 v (by rw[d7 e];exact hr')
     |true=>
      obtain⟨v0,hv0⟩:=hg1 rfl;have hthere:∃v,oZ w F k.data.toList v:=⟨v0,.inr (hm_in _ _ ⟨_,hrest,hv0⟩)⟩;have hdn:qH (p4 (lab,wk,Fk)) (p4 (lab,w2,F2)) k.data.toList:=by
       rw[hrest];exact H4 hd2
      refine ak.2 (mC (hu2.get0 hb) (hs.upd hu2 fun _ h=>h.elim) (by rw[hL.1];exact hn) fun h3 s3 b3 ho3 hu3=>?_)
      have hu03:=hu2.tr hu3;obtain⟨rr,vv,hin⟩:=kE hc _ hmem;have hlb:lab.length≤1000000:=by
       have:=hbd _ v0 (hm_in _ _ ⟨_,hrest,hv0⟩);rw[hrest,ac]at this;omega
      have hb2:∀j v,nK F2 j v→j.length≤1000000:=fun j v hin=>by
       rcases((hd2 j v).1 (.inr hin)).2 with⟨e,_⟩|h
       ·rw[e];simp
       ·exact hkbd j v h
      refine JN (W:=Pro W h2 h3) ((rn2.less Pro.hm).upd0 hu3) (Pro.lt (fun y hy=>aL (hW y hy) hu2.size) hu3) hc2 (by rw[hkl];exact hcm.1) (by rw[←kS ksl,hkl];exact hlb) hb2 fun h4 r4 o4 hu4 hm4 hr4=>?_
      rw[hkl]at hm4;have b4:=hu4.get0 b3;have ho4:=ho3.upd hu4 fun _ _ h=>h
      have hu04:=hu03.tr hu4;have hz2:h.size≤h2.size:=hu2.size;have hil:i<ks.length:=by rw[hL.1];exact hi
      have hlen4:=ho4.len;rcases hr4 with⟨rfl,rfl⟩|⟨b4',sl4,m4,rfl,rfl,hsl4,rn4⟩
      ·rcases hm4 with⟨_,hno⟩|⟨_,e,_⟩
       ·have ew:IntKind.wrap .i64 ((i:Int)+1)=((i+1:Nat):Int):=by rw[fl (by omega)];omega
        refine ax.2 ⟨_,rfl,s3,db (i:=3) b4,?_⟩;simp only;rw[ew];refine H5 ho4 hil (by rw[hL.1];omega) fun s5 h5 ho5 hu5=>?_
        have b5:=hu5.get b4 fun hx=>by have:=hx.1;omega
        refine⟨_,rfl,Mk (i:=3) b5 (show 3<5 by decide),Co (i:=3) (c':=wg sl w.isSome val s5 none) b5 rfl fun h6 b6 hu6=>?_⟩
        have hu06:Upd No h h6:=(hu04.trans hu5 fun x hx=>.inr (by have:=hx.1;omega)).own hu6 hz2
        have ho6:=ho5.upd hu6 fun x hx e=>by have e:x=h2.size:=e;have:=hx.1;omega
        refine hk h6 h2.size w _ true hu06 ⟨val,s5,none,_,b6,hv,ho6.sl (fun x hx _ hw=>by have:=hW _ hw;have:=hx.1;omega),⟨ho6.cap,fun hx=>by have:=hW _ hx;omega⟩,ie.2 (by rw[Fo.to_of];exact((hL.upd0 hu06).take i).app ((hL.upd0 hu06).drop (i+1)))⟩ (MZ hc) (Bx hkne (hddel fun k' v' hN=>?_)) (fun h=>by cases h) fun _=>hthere
        refine Classical.byContradiction fun hne=>hno k' v' ((hdn k' v').2 ⟨hne,hN⟩)
       ·cases e
      ·rcases hm4 with⟨e,_⟩|⟨m',e,hcn,hhd,hiff⟩
       ·cases e
       ·cases e
        obtain⟨a3,ha3,hab,hw3,ho5,hu5⟩:=OwnS.setAt ho4 hil (some ⟨b4',0,none⟩);refine ak.2 ⟨_,rfl,s3,db (i:=3) b4,⟨by simp only;omega,by simp only;omega⟩,a3,ha3,?_⟩
        have hw1:Wr h4 (adr a3 (i*1)):=by
         rcases hw3 with hw|⟨b',hb',hw⟩
         ·cases hw
         ·cases hb';exact hw 0 (by simp)
        refine⟨hw1,aX ?_⟩;have b5:=hu5.get b4 fun e=>by have e:h2.size=a3.block:=e;have:=hab.1;omega
        have hu45:Upd No h2 _:=(hu3.tr hu4).trans hu5 fun x hx=>.inr (by have hx:x=a3.block:=hx;have:=hab.1;omega)
        have hu05:=hu2.tr hu45;have eset:ks.set i (some ⟨b4',0,none⟩)=ks.take i++some ⟨b4',0,none⟩::ks.drop (i+1):=by rw[List.set_eq_take_append_cons_drop,if_pos hil]
        rw[←eset]at ho5;have rn5:=(rn4.updM (M:=(· =a3.block)) hu5 fun y hy=>.inl (.inr (by have hy:y=a3.block:=hy;have:=hab.1;have:=hab.2;omega))).less (W':=W) fun y hy=>.inl (.inl hy)
        exact hk _ h2.size w _ true hu05 ⟨val,s3,none,_,b5,hv,ho5.sl (fun x hx _ hw=>by have:=hW _ hw;have:=hx.1;omega),⟨ho5.cap,fun hx=>by have:=hW _ hx;omega⟩,ie.2 (by rw[Fo.to_of];exact hrset hu05 ⟨b4',sl4,rfl,hsl4,rn5⟩)⟩ (hcanset hcn hhd) (Bx hkne (hdset fun k' v'=>by rw[hiff k' v'];exact hdn k' v')) (fun h=>by cases h) fun _=>hthere
    ·rw[hkl]at hno
     refine ax.2 (stay (Upd.refl _ _) fun v hin=>?_)
     rcases hin with⟨h,_⟩|hin
     ·exact hkne h
     ·obtain⟨r',e,_⟩:=hin_m v hin
      exact hno r' e
end Go.Proofs
namespace Go.Proofs
open Go Go.Lift
theorem JU{w:Option ByteArray}{F:Fo}{l:List Pr}(h:∀k v,(k,v)∈rS w F↔∃p∈l,p.1.data.toList=k∧p.2=v)(hf:Fit l):∀j v,nK F j v→j.length≤1000000:=fun j v hi=>by
 obtain⟨p,hp,e,_⟩:=(h j v).1 (ij.2 (.inr hi));have:=(hf p hp).1;rw[←e,kS];omega
theorem Em{W:Nat→Prop}{h:ae}{b:Nat}{l:List Pr}(t:RadAt W h b l)(hW:∀y,W y→y<h.size)(hf:Fit l)(k:ByteArray){K:Option Addr×Bool→ae→Prop}
  (hk:∀h' b',Upd No h h'→RadAt W h' b' (lB k l)→(cl l k=false→b'=b)→K (some ⟨b',0,none⟩,cl l k) h'):
  HC PG r8 [.pointer none,.pointer (some ⟨b,0,none⟩),.string k] [.c .ptr,.c .bool] K h:=by
 refine E4 none (some ⟨b,0,none⟩) k ?_;unfold xn;refine Dp (.inr ⟨b,rfl,t⟩) hW fun h2 b2 t2 hu2 hb2=>?_
 have hbb:b2=b:=by
  rcases hb2 with e|e
  ·cases e;rfl
  ·cases e
 subst hbb;obtain⟨w,F,r1,r2,r3⟩:=t2.ex;refine Lj (k.size+1) k (by omega) r1 (fun y hy=>aL (hW y hy) hu2.size) r2 (JU r3 hf) fun h3 b3 w' F' gone hu3 rn3 hc3 hd3 hg0 hg1=>?_
 have hin:∀v,oZ w F k.data.toList v↔(k,v)∈l:=fun v=>by
  rw[←ij,r3];constructor
  ·rintro⟨p,hp,e1,rfl⟩
   rw[←nI.1 e1];exact hp
  ·intro hp;exact⟨_,hp,rfl,rfl⟩
 have hgt:gone=cl l k:=by
  cases gone with
  |false=>
   refine(F5 fun q hq e=>(hg0 rfl).2 q.2 ((hin _).2 ?_)).symm
   rw[←e];exact hq
  |true=>
   obtain⟨v,hv⟩:=hg1 rfl;exact(bW.2 ⟨_,(hin v).1 hv,decide_eq_true rfl⟩).symm
 subst hgt;refine hk h3 b3 (hu2.tr hu3) ⟨w',F',rn3,hc3,fun j v=>?_⟩ fun ht=>(hg0 ht).1
 rw[ij,hd3 j v,←ij,r3];constructor
 ·rintro⟨hne,q,hq,rfl,rfl⟩
  exact⟨q,Jf.2 ⟨hq,fun e=>hne (by rw[e])⟩,rfl,rfl⟩
 ·rintro⟨q,hq,rfl,rfl⟩
  obtain⟨hq,hne⟩:=Jf.1 hq;exact⟨fun e=>hne (nI.1 e),q,hq,rfl,rfl⟩
theorem y5{W:Nat→Prop}{x:Hs}{h:ae}{kind:Int}{t:Tr}{l:List Pr}(i:TreeIs W h kind x t l)(hW:∀y,W y→y<h.size)(hr:cW l)(hf:Fit l)(hn:l.length≤1000000)(k:ByteArray)(hk1:k.size≤256){K:Tr×Int→ae→Prop}
  (hk:∀h' t',TreeIs W h' kind x t' (lB k l)→(cl l k=false→t'=t)→Upd No h h'→K (t',if cl l k then 0 else 4) h'):HC PG iH [Mf t,.pointer none,.string k] [.agg [.int .i64,.int .u64,.int .u64,.int .u64,.ptr,.ptr],.c (.int .i64)] K h:=by
 refine uh t none k ?_;unfold o8 af;refine bH fun h1 b1 k1=>bH fun h2 b2 k2=>?_
 have z1:=bD b1;have z2:=bD b2;have s1:h.size≤h1.size:=k1.size;have k02:=k1.tr k2;refine yd (v:=⟨#[]⟩) hk1 (bi 4096) (ak.2 ?_);have c1:=k2.get0 b1;refine⟨_,vc c1 0,_,vc c1 1,_,vc c1 2,_,vc c1 3,_,vc c1 4,_,vc c1 5,?_⟩;refine bH fun h3 b3 k3=>?_
 have z3:=bD b3;have s2:h1.size≤h2.size:=k2.size;refine f7 (c:=nR G5) (vs:=nR t) b3 rfl fun h4 b4 hu4=>?_
 have k04:Upd No h h4:=(k02.tr k3).own hu4 (by omega);have k24:Upd No h2 h4:=k3.own hu4 (ao _);have s4:h3.size≤h4.size:=hu4.size;have c4:=k24.get0 c1;have d4:=k24.get0 b2;have i4:=i.pro k04;have hW4:=Pro.lt hW k04;have fin:∀{h6:ae} {t':Tr},Upd No h h6→h6[h.size]? =some (.cells (nR t').toArray bJ (0,0))→h6[h1.size]? =some (.cells (nR G5).toArray bJ (0,0))→h6[h2.size]? =some (.cells (nR t).toArray bJ (0,0))→TreeIs (Pro W h h4) h6 kind x t' (lB k l)→(cl l k=false→t'=t)→
   CondP (!cl l k) (∃v41:Int,aE h6 (adr (ag h2) 0)=some (.int .i64 v41)∧
    ∃v42:Int,aE h6 (adr (ag h2) 1)=some (.int .u64 v42)∧
    ∃v43:Int,aE h6 (adr (ag h2) 2)=some (.int .u64 v43)∧
    ∃v44:Int,aE h6 (adr (ag h2) 3)=some (.int .u64 v44)∧
    ∃v45:Option Addr,aE h6 (adr (ag h2) 4)=some (.pointer v45)∧
    ∃v46:Option Addr,aE h6 (adr (ag h2) 5)=some (.pointer v46)∧
    (fV h6 (some (ag h1)) 0 [.int .i64 v41,.int .u64 v42,.int .u64 v43,.int .u64 v44,.pointer v45,.pointer v46]∧
     At (bP h6 (ag h1) 0 [.int .i64 v41,.int .u64 v42,.int .u64 v43,.int .u64 v44,.pointer v45,.pointer v46]) (fun h47=>
      ∃v48:Int,aE h47 (adr (ag h1) 0)=some (.int .i64 v48)∧
      ∃v49:Int,aE h47 (adr (ag h1) 1)=some (.int .u64 v49)∧
      ∃v50:Int,aE h47 (adr (ag h1) 2)=some (.int .u64 v50)∧
      ∃v51:Int,aE h47 (adr (ag h1) 3)=some (.int .u64 v51)∧
      ∃v52:Option Addr,aE h47 (adr (ag h1) 4)=some (.pointer v52)∧
      ∃v53:Option Addr,aE h47 (adr (ag h1) 5)=some (.pointer v53)∧
      K ((v48,v49,v50,v51,v52,v53),4) h47))) (
    ∃v54:Int,aE h6 (adr (ag h) 0)=some (.int .i64 v54)∧
    ∃v55:Int,aE h6 (adr (ag h) 1)=some (.int .u64 v55)∧
    ∃v56:Int,aE h6 (adr (ag h) 2)=some (.int .u64 v56)∧
    ∃v57:Int,aE h6 (adr (ag h) 3)=some (.int .u64 v57)∧
    ∃v58:Option Addr,aE h6 (adr (ag h) 4)=some (.pointer v58)∧
    ∃v59:Option Addr,aE h6 (adr (ag h) 5)=some (.pointer v59)∧
    (fV h6 (some (ag h1)) 0 [.int .i64 v54,.int .u64 v55,.int .u64 v56,.int .u64 v57,.pointer v58,.pointer v59]∧
     At (bP h6 (ag h1) 0 [.int .i64 v54,.int .u64 v55,.int .u64 v56,.int .u64 v57,.pointer v58,.pointer v59]) (fun h60=>
      ∃v61:Int,aE h60 (adr (ag h1) 0)=some (.int .i64 v61)∧
      ∃v62:Int,aE h60 (adr (ag h1) 1)=some (.int .u64 v62)∧
      ∃v63:Int,aE h60 (adr (ag h1) 2)=some (.int .u64 v63)∧
      ∃v64:Int,aE h60 (adr (ag h1) 3)=some (.int .u64 v64)∧
      ∃v65:Option Addr,aE h60 (adr (ag h1) 4)=some (.pointer v65)∧
      ∃v66:Option Addr,aE h60 (adr (ag h1) 5)=some (.pointer v66)∧
      K ((v61,v62,v63,v64,v65,v66),0) h60))):=fun{h6 t'} k6 e0 e1 e2 i6 hsm=>by
  cases ht:cl l k with
  |false=>
   rw[ht]at hk hsm;have hte:=hsm rfl;subst hte;refine ax.2 ⟨_,vc e2 0,_,vc e2 1,_,vc e2 2,_,vc e2 3,_,vc e2 4,_,vc e2 5,?_⟩;refine f7 (c:=nR G5) (vs:=nR t') e1 rfl fun h7 b7 hu7=>?_
   refine⟨_,vc b7 0,_,vc b7 1,_,vc b7 2,_,vc b7 3,_,vc b7 4,_,vc b7 5,?_⟩;exact hk h7 t' ((i6.updM hu7 (fun y hy=>.inl (.inr (by have hy:y=h1.size:=hy;omega)))).less Pro.sub) (fun _=>rfl) (k6.own hu7 s1)
  |true=>
   rw[ht]at hk hsm;refine ak.2 ⟨_,vc e0 0,_,vc e0 1,_,vc e0 2,_,vc e0 3,_,vc e0 4,_,vc e0 5,?_⟩;refine f7 (c:=nR G5) (vs:=nR t') e1 rfl fun h7 b7 hu7=>?_
   refine⟨_,vc b7 0,_,vc b7 1,_,vc b7 2,_,vc b7 3,_,vc b7 4,_,vc b7 5,?_⟩;exact hk h7 t' ((i6.updM hu7 (fun y hy=>.inl (.inr (by have hy:y=h1.size:=hy;omega)))).less Pro.sub) (fun h=>by cases h) (k6.own hu7 s1)
 refine Join.intro (fun tk h6=>tk=cl l k∧Upd No h h6∧∃t',h6[h.size]? =some (.cells (nR t').toArray bJ (0,0))∧h6[h1.size]? =some (.cells (nR G5).toArray bJ (0,0))∧h6[h2.size]? =some (.cells (nR t).toArray bJ (0,0))∧TreeIs (Pro W h h4) h6 kind x t' (lB k l)∧(cl l k=false→t'=t)) (fun R hR=>?_) ?_
 ·rcases i4 with⟨rfl,b,rfl,t4⟩|⟨rfl,b,rfl,t4⟩
  ·refine⟨_,vc c4 0,ak.2 ⟨_,yY c4 1 0,_,yY c4 1 1,_,yY c4 1 2,_,vc c4 4,?_⟩⟩
   refine ES t4 hW4 hr hn k fun h5 b5 hu5 t5 hsm=>?_
   refine AD (i:=4) (c':=(nR (0,x.k0,x.k1,x.mask,some ⟨b5,0,none⟩,none)).toArray) (hu5.get0 c4) (show 4<6 by decide) rfl fun h6 b6 hu6=>?_
   exact hR _ _ ⟨rfl,(k04.tr hu5).own hu6 (ao _),_,b6,hu6.oth (hu5.get0 d4) (by omega),hu6.oth (hu5.get0 b4) (by omega),.inl ⟨rfl,b5,rfl,TrieAt.updM hu6 (fun y hy=>.inl (.inr (by have hy:y=h.size:=hy;omega))) t5⟩,fun ht=>by rw[hsm ht]⟩
  ·refine⟨_,vc c4 0,ax.2 ⟨_,vc c4 5,?_⟩⟩
   refine Em t4 hW4 hf k fun h5 b5 hu5 t5 hsm=>?_
   refine AD (i:=5) (c':=(nR (1,0,0,0,none,some ⟨b5,0,none⟩)).toArray) (hu5.get0 c4) (show 5<6 by decide) rfl fun h6 b6 hu6=>?_
   exact hR _ _ ⟨rfl,(k04.tr hu5).own hu6 (ao _),_,b6,hu6.oth (hu5.get0 d4) (by omega),hu6.oth (hu5.get0 b4) (by omega),.inr ⟨rfl,b5,rfl,t5.updM hu6 (fun y hy=>.inl (.inr (by have hy:y=h.size:=hy;omega)))⟩,fun ht=>by rw[hsm ht]⟩
 ·rintro _ h6 ⟨rfl,k6,t',e0,e1,e2,i6,hsm⟩
  exact fin k6 e0 e1 e2 i6 hsm
end Go.Proofs
