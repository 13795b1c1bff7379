/- A part of the proof that the named laws of this program answer true, whatever the input. -/
import Derived.Test.YtncppacbfagpgaaGreatDoorPart1
open BitVec renaming ofInt→aj
open Bool renaming eq_iff_iff→ko
open Int renaming toNat_natCast→aP
open List renaming getElem?_eq_getElem→af,getElem_mem→bI,pairwise_cons→aX,mem_cons→aA,mem_cons_self→ar,mem_cons_of_mem→aL,pairwise_singleton→cl,filter_cons→cG,mem_filter→ey,filter_eq_nil_iff→nZ,mem_singleton→aB,any_eq_true→dy,length_filter_le→gj,length_cons→ax,flatMap_cons→aO,map_cons→co,length_singleton→aC,range→fF,range_succ→iV,map_append→cd,length_append→ac,append_assoc→aq,flatMap_append→bm,take_of_length_le→bw,sum_append→g4,map_nil→j1,sum_cons→jl,sum_nil→tI,mem_filterMap→m6
open List.Pairwise renaming nil→cE
open Nat renaming le_of_eq→eg,zero_add→aD,le_refl→ao,lt_irrefl→o8,mod_lt→oJ,min_eq_left→bA,lt_of_lt_of_le→bB,zero_le→aR,le_trans→bh,mul_le_mul_right→cg,pow_succ→l6,testBit_lt_two_pow→hH,pow_le_pow_right→fL,add_zero→cU,add_mul→ie,mul_le_mul_left→jt
open Prod renaming ext→uV
open UInt8 renaming ofNat→fJ
namespace Go.Proofs
open Go.Lift
theorem Fh{h:ad}{b d n:Nat}{sp sk:SliceV}{bu:Bool}{ow:Option Addr}(hb:h[b]? =some (.cells (fA d n sp sk bu ow) bE (0,0))) {K:Int→ad→Prop} (hk:K (d:Int) h):HC PG jC [.pointer (some ⟨b,0,none⟩)] [.c (.int .u32)] K h:=by
 refine zt _ ?_;unfold sE gL;exact al.2 ⟨_,rfl,_,eI (i:=0) hb,hk⟩
theorem BH{h:ad}{b d n:Nat}{sp sk:SliceV}{bu:Bool}{ow:Option Addr}(hb:h[b]? =some (.cells (fA d n sp sk bu ow) bE (0,0))) {K:Int→ad→Prop} (hk:K (n:Int) h):HC PG gM [.pointer (some ⟨b,0,none⟩)] [.c (.int .u32)] K h:=by
 refine yj _ ?_;unfold rj gL;exact al.2 ⟨_,rfl,_,eI (i:=1) hb,hk⟩
theorem lq{h:ad}{b d n:Nat}{sp sk:SliceV}{bu:Bool}{ow:Option Addr}(hb:h[b]? =some (.cells (fA d n sp sk bu ow) bE (0,0))) {K:Bool→ad→Prop} (hk:K bu h):HC PG fH [.pointer (some ⟨b,0,none⟩)] [.c .bool] K h:=by
 refine uQ _ ?_;unfold po ge;exact aw.2 ⟨_,rfl,_,eI (i:=4) hb,hk⟩
def Aq(o:Option Pr):Pr:=o.getD (⟨#[]⟩,⟨#[]⟩)
theorem Ks{h:ad}{b:Nat}{q p:Pr}(hb:h[b]? =some (.cells #[.string q.1,.string q.2] ag (0,0))) {k:ad→Prop}
  (hk:∀h',h'[b]? =some (.cells #[.string p.1,.string p.2] ag (0,0))→Upd (· =b) h h'→k h'):uc h (some ⟨b,0,none⟩) 0 [.string p.1,.string p.2]∧At (jA h ⟨b,0,none⟩ 0 [.string p.1,.string p.2]) k:=by
 have e:=iR [.string p.1,.string p.2] h 0 0 [.string q.1,.string q.2] hb (by simp);refine⟨.inr ⟨_,rfl,fun j hj=>by rw[bP];exact gS hb (by simp at hj⊢;omega)⟩,bj ?_⟩
 rw[e];refine hk _ ?_ (Upd.set h _ rfl);rw[iY hb];rfl
theorem GH{W:Nat→Prop}{h:ad}{b:Nat}{s:Slots}(nd:NodeAt W h b s){i:Nat}(hi:i<32){K:Pr×Bool→ad→Prop}(hk:∀h',Upd No h h'→K (Aq (s.p i),(s.p i).isSome) h'):
  HC PG lP [.pointer (some ⟨b,0,none⟩),.int .i64 i] [.agg [.str,.str],.c .bool] K h:=by
 refine zr _ i ?_;unfold sC dd cJ jx cy bC av kU bG iK gL mN;obtain⟨d,n,sp,sk,ow,hb,bits,hsp,hsk,hcp,hck⟩:=nd.ex;have k1:=Upd.hnew No h [.string (⟨#[]⟩:ByteArray),.string (⟨#[]⟩:ByteArray)] ag;have b1:=bZ h [.string (⟨#[]⟩:ByteArray),.string (⟨#[]⟩:ByteArray)] ag;refine bj ?_;simp only[cM h];generalize hnew h [.string (⟨#[]⟩:ByteArray),.string (⟨#[]⟩:ByteArray)] ag=h1 at k1 b1
 have hb1:=k1.get0 hb;have b1':h1[h.size]? =some (.cells #[.string Oo.1,.string Oo.2] ag (0,0)):=b1;refine Fh hb1 (yY bits.d32 hi ?_);rw[bits.dp i hi];cases hp:s.p i with
 |none=>
  rw[hp]at hk;refine aw.2 (Ks (p:=Oo) b1' fun h2 b2 hu2=>⟨_,by rw[bP,aV b2];rfl,_,by rw[bP,aV b2];rfl,hk _ (k1.trans hu2 fun x hx=>.inr (eg hx.symm))⟩)
 |some y=>
  rw[hp]at hk;refine al.2 ⟨_,rfl,sp,eI (i:=2) hb1,_,rfl,_,eI (i:=0) hb1,oU bits.d32 hi ⟨eI (i:=2) hb1,?_⟩⟩;have hlt:=Ee hi bits.dp hp;have hsp1:=hsp.upd k1 fun _ h=>h.elim
  obtain⟨a,ha,_,hv⟩:=hsp1.at (NF hi bits.dp hp);have hlen:=hsp.len;refine⟨by omega,a,ha,y.1,hv 0 _ rfl,y.2,hv 1 _ rfl,?_⟩;refine Ks (p:=y) b1' fun h2 b2 hu2=>⟨_,by rw[bP,aV b2];rfl,_,by rw[bP,aV b2];rfl,hk _ (k1.trans hu2 fun x hx=>.inr (eg hx.symm))⟩
theorem Kw{W:Nat→Prop}{h:ad}{b:Nat}{s:Slots}(nd:NodeAt W h b s){i:Nat}(hi:i<32){K:Option Addr×Bool→ad→Prop}(hk:K ((s.k i).getD none,(s.k i).isSome) h):
  HC PG j5 [.pointer (some ⟨b,0,none⟩),.int .i64 i] [.c .ptr,.c .bool] K h:=by
 refine AB _ i ?_;unfold tW cf dd cy bG iK gL mN;obtain⟨d,n,sp,sk,ow,hb,bits,hsp,hsk,hcp,hck⟩:=nd.ex;refine BH hb (yY bits.n32 hi ?_);rw[bits.nk i hi];cases hp:s.k i with
 |none=>rw[hp]at hk;exact aw.2 hk
 |some y=>
  rw[hp]at hk;refine al.2 ⟨_,rfl,sk,eI (i:=3) hb,_,rfl,_,eI (i:=1) hb,oU bits.n32 hi ⟨eI (i:=3) hb,?_⟩⟩;have hlt:=Ee hi bits.nk hp;obtain⟨a,ha,_,hv⟩:=hsk.at (NF hi bits.nk hp);have hlen:=hsk.len;exact⟨by omega,a,ha,y,hv 0 _ rfl,hk⟩
theorem pd{W:Nat→Prop}{h:ad}{b d n:Nat}{sp sk:SliceV}{bu:Bool}{ow:Option Addr}{l:List Pr}(hb:h[b]? =some (.cells (fA d n sp sk bu ow) bE (0,0))) (hs:Sl eC 2 W h sp l) (hn:l.length≤1000000000) {K:SliceV→ad→Prop}
  (hk:∀s' h',OwnS eC 2 ag (fun x=>h.size≤x) h' s' l→Upd No h h'→K s' h'):HC PG fg [.pointer (some ⟨b,0,none⟩)] [.c .slice] K h:=by
 refine nP _ ?_;unfold kP bG;exact al.2 ⟨_,rfl,sp,eI (i:=2) hb,vo hs (by omega) hk⟩
theorem AP{W:Nat→Prop}{h:ad}{b d n:Nat}{sp sk:SliceV}{bu:Bool}{ow:Option Addr}{l:List (Option Addr)}(hb:h[b]? =some (.cells (fA d n sp sk bu ow) bE (0,0))) (hs:Sl pz 1 W h sk l) (hn:l.length≤1000000000) {K:SliceV→ad→Prop}
  (hk:∀s' h',OwnS pz 1 bK (fun x=>h.size≤x) h' s' l→Upd No h h'→K s' h'):HC PG jB [.pointer (some ⟨b,0,none⟩)] [.c .slice] K h:=by
 refine oG _ ?_;unfold lZ bG;exact al.2 ⟨_,rfl,sk,eI (i:=3) hb,zd hs (by omega) hk⟩
structure BuckAt(W:Nat→Prop)(h:ad)(b:Nat)(l:List Pr):Prop where
 ex:∃sp sk ow,h[b]? =some (.cells (fA 0 0 sp sk true ow) bE (0,0))∧Sl eC 2 W h sp l∧Sl pz 1 W h sk []∧sp.len≤sp.cap∧sk.len≤sk.cap
 nw:¬W b
theorem BuckAt.upd{W M:Nat→Prop}{h h':ad}{b:Nat}{l:List Pr}(n:BuckAt W h b l)(k:Upd M h h')(hm:∀b,M b→W b∨h.size≤b):BuckAt W h' b l:=by
 obtain⟨sp,sk,ow,h1,h3,h4,h5,h6⟩:=n.ex;exact⟨⟨sp,sk,ow,k.get h1 (fun hb=>(hm _ hb).elim n.nw fun h=>by have:=aJ h1;omega),h3.upd k hm,h4.upd k hm,h5,h6⟩,n.nw⟩
theorem Ql{W:Nat→Prop}{h:ad}{b:Nat}{l:List Pr}(bk:BuckAt W h b l)(hr:dD l)(hn:l.length≤1000000000)(k:ByteArray){K:ByteArray×Bool→ad→Prop}
  (hk:∀h' v,Upd No h h'→(fq l k=true→(k,v)∈l)→(fq l k=false→v=⟨#[]⟩)→K (v,fq l k) h'):HC PG tu [.pointer (some ⟨b,0,none⟩),.string k] [.c .str,.c .bool] K h:=by
 refine JP _ k ?_;unfold CQ dd bC jz wi;obtain⟨sp,sk,ow,hb,hsp,hsk,hc1,hc2⟩:=bk.ex;refine pd hb hsp hn fun s1 h1 ho1 hu1=>?_
 have hs1:Sl eC 2 No h1 s1 l:=ho1.sl fun _ _ _ h=>h
 refine KO hs1 hr hn k fun h2 hu2=>?_
 cases ht:fq l k with
 |false=>rw[ht]at hk;exact aw.2 (hk _ _ (hu1.tr hu2) (fun h=>by cases h) fun _=>rfl)
 |true=>
  rw[ht]at hk;obtain⟨hlt,e⟩:=Iy hr ht;obtain⟨a,ha,_,hv⟩:=(hs1.upd hu2 fun _ h=>h.elim).at (af hlt)
  have hlen:=hs1.len;refine al.2 ⟨by simp only;omega,a,ha,_,hv 1 _ rfl,hk _ _ (hu1.tr hu2) (fun _=>?_) fun h=>by cases h⟩
  have:(k,l[ua l k].2)=l[ua l k]:=uV e.symm rfl;rw[this];exact bI hlt
theorem Q1{W:Nat→Prop}{h:ad}{b:Nat}{l:List Pr}(bk:BuckAt W h b l)(hr:dD l)(hn:l.length≤1000000000)(k:ByteArray){K:ByteArray×Bool→ad→Prop}
 (hk:∀h' v,Upd No h h'→(fq l k=true→(k,v)∈l)→K (v,fq l k) h'):HC PG tu [.pointer (some ⟨b,0,none⟩),.string k] [.c .str,.c .bool] K h:=Ql bk hr hn k fun h' v h1 h2 _=>hk h' v h1 h2
end Go.Proofs
namespace Go.Proofs
open Go.Lift
set_option maxRecDepth 4000 in
theorem OV{W:Nat→Prop}{h:ad}{b:Nat}{l:List Pr}(nd:BuckAt W h b l)(hn:l.length≤1000000000){K:Option Addr→ad→Prop}
  (hk:∀h' sp sk,h'[h.size]? =some (.cells (fA 0 0 sp sk true none) bE (0,0))→OwnS eC 2 ag (fun x=>h.size<x∧x<h'.size) h' sp l→OwnS pz 1 bK (fun x=>h.size<x∧x<h'.size) h' sk []→Upd No h h'→K (some ⟨h.size,0,none⟩) h'):
  HC PG iT [.pointer (some ⟨b,0,none⟩),.pointer none] [.c .ptr] K h:=by
 obtain⟨sp,sk,ow,hb,hsp,hsk,hcp,hck⟩:=nd.ex;refine tQ _ none ?_;unfold pH nv dL ge bG Mv pV gL tK PT;refine DT (al.2 ?_);have c:∀{h:ad} {b:Nat} {c:Array Value} {i:Nat},h[b]? =some (.cells c bE (0,0))→aN h ⟨b,0+i,none⟩=c[i]?:=fun hb=>by rw[aD];exact aV hb
 refine⟨_,rfl,_,c (i:=0) hb,_,c (i:=1) hb,sp,c (i:=2) hb,sk,c (i:=3) hb,_,c (i:=4) hb,_,c (i:=5) hb,?_⟩;have k1:=Upd.hnew No h [.int .u32 0,.int .u32 0,.slice none 0 0,.slice none 0 0,.bool false,.pointer none] bE;have b1:=bZ h [.int .u32 0,.int .u32 0,.slice none 0 0,.slice none 0 0,.bool false,.pointer none] bE;refine bj ?_;simp only[cM h];generalize hnew h [.int .u32 0,.int .u32 0,.slice none 0 0,.slice none 0 0,.bool false,.pointer none] bE=h1 at k1 b1
 have hs1:jA h1 ⟨h.size,0,none⟩ 0 [.int .u32 ((0:Nat):Int),.int .u32 ((0:Nat):Int),.slice sp.a sp.len sp.cap,.slice sk.a sk.len sk.cap,.bool true,.pointer ow]=_:=iR _ h1 0 0 _ b1 (by simp);refine⟨.inr ⟨_,rfl,fun j hj=>by rw[bP];exact gS b1 (by simp at hj⊢;omega)⟩,bj ?_⟩
 rw[hs1];have b2:=iY (o:=.cells (fA 0 0 sp sk true ow) bE (0,0)) b1;have k2:Upd No h _:=k1.trans (M':=(· =h.size)) (Upd.set h1 (.cells (fA 0 0 sp sk true ow) bE (0,0)) rfl) fun x hx=>.inr (eg hx.symm)
 have hz2:h.size<(h1.setIfInBounds h.size (.cells (fA 0 0 sp sk true ow) bE (0,0))).size:=aJ b2;have hbb:h.size≠b:=fun e=>by have:=aJ hb;omega
 have e2:(Obj.cells (List.take (0+0) [Value.int .u32 0,.int .u32 0,.slice none 0 0,.slice none 0 0,.bool false,.pointer none]++ [Value.int .u32 ((0:Nat):Int),.int .u32 ((0:Nat):Int),.slice sp.a sp.len sp.cap,.slice sk.a sk.len sk.cap,.bool true,.pointer ow]++List.drop (0+0+ [Value.int .u32 ((0:Nat):Int),.int .u32 ((0:Nat):Int),.slice sp.a sp.len sp.cap,.slice sk.a sk.len sk.cap,.bool true,.pointer ow].length) [Value.int .u32 0,.int .u32 0,.slice none 0 0,.slice none 0 0,.bool false,.pointer none]).toArray bE (0,0))=.cells (fA 0 0 sp sk true ow) bE (0,0):=rfl
 rw[e2];generalize h1.setIfInBounds h.size (.cells (fA 0 0 sp sk true ow) bE (0,0))=h2 at b2 k2 hz2;have hb2:=k2.get0 hb;refine⟨_,rfl,sp,c (i:=2) hb2,_,rfl,sk,c (i:=3) hb2,?_⟩;refine vo (hsp.upd k2 fun _ h=>h.elim) (by omega) fun s3 h3 ho3 hu3=>?_
 refine⟨c (i:=3) (hu3.get0 hb2),?_⟩;refine zd ((hsk.upd k2 fun _ h=>h.elim).upd hu3 fun _ h=>h.elim) (by simp) fun s4 h4 ho4 hu4=>?_
 have b4:=hu4.get0 (hu3.get0 b2);have ho3':=ho3.within.upd hu4 fun _ _ h=>h
 have ho4':=ho4.within;have z3:=hu3.size;have z4:=hu4.size;have w:∀{h:ad} {c:Array Value} {x i:Nat},h[x]? =some (.cells c bE (0,0))→i<c.size→Wr h ⟨x,0+i,none⟩:=fun hb hi=>by rw[aD];exact gS hb hi
 have st:∀{h:ad} {c c':Array Value} {x i:Nat} {v:Value} {k:ad→Prop},h[x]? =some (.cells c bE (0,0))→c.setIfInBounds i v=c'→(∀h',h'[x]? =some (.cells c' bE (0,0))→Upd (· =x) h h'→k h')→At (hset h ⟨x,i,none⟩ v) k:=fun hb e hk=>rH hb fun h' hb' hu=>hk h' (e▸hb') hu
 refine⟨w (i:=2) b4 (show 2<6 by decide),st (i:=2) (c':=fA 0 0 s3 sk true ow) b4 rfl fun h5 b5 hu5=>?_⟩
 refine⟨w (i:=3) b5 (show 3<6 by decide),st (i:=3) (c':=fA 0 0 s3 s4 true ow) b5 rfl fun h6 b6 hu6=>?_⟩
 refine⟨w (i:=5) b6 (show 5<6 by decide),st (i:=5) (c':=fA 0 0 s3 s4 true none) b6 rfl fun h7 b7 hu7=>?_⟩
 refine ur (al.2 ?_);have hu47:=hu5.tr (hu6.tr hu7);have z7:=hu47.size;refine hk _ s3 s4 b7 ((ho3'.upd hu47 fun x hx e=>?_).more fun x hx=>?_) ((ho4'.upd hu47 fun x hx e=>?_).more fun x hx=>?_) ?_
 ·have e:x=h.size:=e;omega
 ·omega
 ·have e:x=h.size:=e;omega
 ·omega
 ·exact((k2.tr hu3).tr hu4).trans hu47 fun x hx=>.inr (eg hx.symm)
theorem Fx{W:Nat→Prop}{h:ad}{b:Nat}{l:List Pr}(bk:BuckAt W h b l)(hW:∀x,W x→x<h.size)(hr:dD l)(hn:l.length≤1000000000)(p:Pr){K:Option Addr→ad→Prop}
  (hk:∀h' b',BuckAt W h' b' (E7 l p)→Upd No h h'→K (some ⟨b',0,none⟩) h'):
  HC PG iU [.pointer (some ⟨b,0,none⟩),.pointer none,.agg #[.string p.1,.string p.2]] [.c .ptr] K h:=by
 refine Az _ none p ?_;unfold tU o9 av dL sP bG pV;have k1:=Upd.hnew No h [.string p.1,.string p.2] ag;have b1:=bZ h [.string p.1,.string p.2] ag;refine bj ?_;simp only[cM h];generalize hnew h [.string p.1,.string p.2] ag=h1 at k1 b1;have z1:=aJ b1;have bk1:=bk.upd k1 fun _ h=>h.elim
 obtain⟨sp,sk,ow,hb,hsp,hsk,hcp,hck⟩:=bk1.ex;refine lq hb (al.2 ?_);refine OV bk1 hn fun h2 s2 t2 b2 hA hB hu2=>?_
 have b12:=hu2.get0 b1;refine⟨_,rfl,s2,eI (i:=2) b2,p.1,by rw[bP,aV b12];rfl,p.2,by rw[bP,aV b12];rfl,?_⟩
 refine IE (hA.sl fun _ _ _ h=>h) hA.cap hr hn p fun s3 h3 ho3 hu3=>?_
 have b3:=hu3.get0 b2;refine⟨_,rfl,OY (i:=2) b3 (show 2<6 by decide),E1 (i:=2) (c':=fA 0 0 s3 t2 true none) b3 rfl fun h4 b4 hu4=>?_⟩
 have z2:=aJ b2;have ho4:=ho3.upd hu4 fun x hx e=>by have e:x=h1.size:=e;omega
 have hB4:=(hB.upd hu3 fun _ _ h=>h).upd hu4 fun x hx e=>by have e:x=h1.size:=e;omega
 refine hk h4 h1.size ⟨⟨s3,t2,none,b4,ho4.sl fun x hx _ hw=>?_,hB4.sl fun x hx _ hw=>?_,ho3.cap,hB.cap⟩,fun hw=>?_⟩ (((k1.tr hu2).tr hu3).trans hu4 fun x hx=>.inr ?_)
 ·have:=hW x hw;have:=hu2.size;omega
 ·have:=hW x hw;omega
 ·have:=hW _ hw;omega
 ·have hx:x=h1.size:=hx
  omega
theorem L4{W:Nat→Prop}{h:ad}(hW:∀x,W x→x<h.size){K:Option Addr→ad→Prop}(hk:∀h' b',BuckAt W h' b' []→Upd No h h'→K (some ⟨b',0,none⟩) h'):HC PG rG [] [.c .ptr] K h:=by
 refine Dp ?_;unfold wf;exact hk _ _ ⟨⟨⟨none,0,0⟩,⟨none,0,0⟩,none,bZ h _ _,Sl.nil fO,Sl.nil py,ao _,ao _⟩,fun hx=>o8 _ (hW _ hx)⟩ (Upd.hnew No h _ _)
theorem pZ{W:Nat→Prop}{h:ad}(hW:∀x,W x→x<h.size){K:Option Addr→ad→Prop}(hk:∀h' b',NodeAt W h' b' ⟨fun _=>none,fun _=>none⟩→Upd No h h'→K (some ⟨b',0,none⟩) h'):HC PG nG [] [.c .ptr] K h:=by
 refine FR ?_;unfold yy Mv;have e1:fm (fun _=>(none:Option Pr)) 32= []:=by simp[fm]
 have e2:fm (fun _=>(none:Option (Option Addr))) 32= []:=by simp[fm]
 refine hk _ _ ⟨⟨0,0,⟨none,0,0⟩,⟨none,0,0⟩,none,bZ h _ _,⟨by decide,by decide,fun c _=>by simp,fun c _=>by simp⟩,?_,?_,ao _,ao _⟩,fun hx=>o8 _ (hW _ hx)⟩ (Upd.hnew No h _ _)
 ·show Sl eC 2 W _ _ (fm (fun _=>none) 32)
  rw[e1];exact Sl.nil fO
 ·show Sl pz 1 W _ _ (fm (fun _=>none) 32)
  rw[e2];exact Sl.nil py
end Go.Proofs
namespace Go.Proofs
open Go.Lift
def gD(p:Pr):List Pr→List Pr
 | []=> [p]
 |q::l=>if kl q.1 p.1 then q::gD p l else if q.1=p.1 then p::l else p::q::l
theorem gk(p q:Pr)(l:List Pr):gD p (q::l)=if kl q.1 p.1 then q::gD p l else if q.1=p.1 then p::l else p::q::l:=rfl
theorem AR(p:Pr):∀{l:List Pr},dD l→E7 l p=gD p l
 | [],_=>by simp[E7,gD,ua,fq]
 |q::l,hr=>by
  have hr:=aX.1 hr;unfold gD;have hpos:ua (q::l) p.1=if kl q.1 p.1 then ua l p.1+1 else 0:=by
   unfold ua;rw[List.takeWhile_cons];by_cases h:kl q.1 p.1
   ·rw[if_pos (by simpa using h),if_pos h];rfl
   ·rw[if_neg (by simpa using h),if_neg h];rfl
  have hth:fq (q::l) p.1=(decide (q.1=p.1)||fq l p.1):=by unfold fq;rw[List.any_cons]
  by_cases h:kl q.1 p.1
  ·have hne:q.1≠p.1:=fun e=>by rw[e]at h;exact db _ h
   rw[if_pos h,←AR p hr.2];unfold E7;rw[hth,hpos,if_pos h,decide_eq_false hne,Bool.false_or];by_cases ht:fq l p.1=true
   ·rw[if_pos ht,if_pos ht];rfl
   ·rw[if_neg ht,if_neg ht];rfl
  ·rw[if_neg h]
   unfold E7;rw[hth,hpos,if_neg h];by_cases e:q.1=p.1
   ·rw[if_pos e,decide_eq_true e,Bool.true_or,if_pos rfl];rfl
   ·have hgt:=rA h e
    have ht:fq l p.1=false:=by
     unfold fq;rw[List.any_eq_false];intro r hr' e2;have e2:=of_decide_eq_true e2;have:=hr.1 r hr';rw[e2]at this;exact db _ (iZ hgt this)
    rw[if_neg e,decide_eq_false e,ht];rfl
theorem xI{p q:Pr}:∀{l:List Pr},q∈gD p l→q=p∨q∈l
 | [],h=>by simp[gD]at h;exact .inl h
 |r::l,h=>by
  unfold gD at h;split at h
  ·rcases aA.1 h with h|h
   ·exact .inr (h▸ar ..)
   ·exact(xI h).imp id fun h=>aL _ h
  ·split at h
   ·rcases aA.1 h with h|h
    ·exact .inl h
    ·exact .inr (aL _ h)
   ·rcases aA.1 h with h|h
    ·exact .inl h
    ·exact .inr h
theorem yQ(p:Pr):∀{l:List Pr},dD l→dD (gD p l)
 | [],_=>cl ..
 |q::l,hr=>by
  have hr':=hr;have hr:=aX.1 hr;unfold gD;split
  ·rename_i h
   refine aX.2 ⟨fun r hm=>?_,yQ p hr.2⟩
   rcases xI hm with rfl|hm
   ·exact h
   ·exact hr.1 r hm
  ·rename_i h
   split
   ·rename_i e
    exact aX.2 ⟨fun r hm=>e▸hr.1 r hm,hr.2⟩
   ·rename_i e
    have hgt:=rA h e;refine aX.2 ⟨fun r hm=>?_,hr'⟩
    rcases aA.1 hm with rfl|hm
    ·exact hgt
    ·exact iZ hgt (hr.1 r hm)
theorem B0(p:Pr)(g:ByteArray→Bool):∀{l:List Pr},dD l→(gD p l).filter (fun q=>g q.1)=if g p.1 then gD p (l.filter fun q=>g q.1)else l.filter fun q=>g q.1
 | [],_=>by
  unfold gD;rw[cG,List.filter_nil]
 |q::l,hr=>by
  have hr':=hr;have hr:=aX.1 hr;have ih:=B0 p g hr.2;rw[gk];by_cases h:kl q.1 p.1
  ·rw[if_pos h,cG,cG,ih]
   by_cases hq:g q.1=true
   ·rw[if_pos hq,if_pos hq]
    split
    ·rw[gk,if_pos h]
    ·rfl
   ·rw[if_neg hq,if_neg hq]
  ·rw[if_neg h]
   by_cases e:q.1=p.1
   ·rw[if_pos e,cG,cG,e]
    by_cases hp:g p.1=true
    ·rw[if_pos hp,if_pos hp,if_pos hp,gk,if_neg h,if_pos e]
    ·rw[if_neg hp,if_neg hp,if_neg hp]
   ·rw[if_neg e]
    have hgt:=rA h e;rw[cG];by_cases hp:g p.1=true
    ·rw[if_pos hp,if_pos hp]
     have:∀r∈(q::l).filter (fun q=>g q.1),kl p.1 r.1:=fun r hm=>by
      rcases aA.1 (ey.1 hm).1 with rfl|hm
      ·exact hgt
      ·exact iZ hgt (hr.1 r hm)
     cases hf:(q::l).filter (fun q=>g q.1)with
     |nil=>rfl
     |cons r rs=>
      have hpr:=this r (by rw[hf];exact ar ..);rw[gk,if_neg fun hk=>db _ (iZ hpr hk),if_neg fun e=>by rw[e]at hpr;exact db _ hpr]
    ·rw[if_neg hp,if_neg hp]
theorem AQ{p:Pr}:∀{l:List Pr},dD l→p∈l→gD p l=l
 |q::l,hr,hm=>by
  have hr:=aX.1 hr;unfold gD;rcases aA.1 hm with rfl|hm
  ·rw[if_neg (db _),if_pos rfl]
  ·rw[if_pos (hr.1 p hm),AQ hr.2 hm]
def ck(x:Hs)(lev:Nat)(k:ByteArray):Nat:=((hO x k).toNat>>>(5*lev))%32
theorem Ce(x:Hs)(lev:Nat)(k:ByteArray):ck x lev k<32:=oJ _ (by omega)
def part(x:Hs)(lev c:Nat)(l:List Pr):List Pr:=l.filter fun p=>decide (ck x lev p.1=c)
def TrieAt(W:Nat→Prop)(x:Hs)(h:ad):Nat→Nat→List Pr→Prop
 |0,b,l=>BuckAt W h b l
 |m+1,b,l=>∃s,NodeAt W h b s∧∀c,c<32→
  ((part x (12-m) c l= []∧s.p c=none∧s.k c=none)∨(∃p,part x (12-m) c l= [p]∧s.p c=some p∧s.k c=none)∨
   (2≤(part x (12-m) c l).length∧s.p c=none∧∃kb,s.k c=some (some ⟨kb,0,none⟩)∧TrieAt W x h m kb (part x (12-m) c l)))
theorem TrieAt.upd0{W:Nat→Prop}{x:Hs}{h h':ad}(k:Upd No h h'):∀{m b:Nat} {l:List Pr},TrieAt W x h m b l→TrieAt W x h' m b l
 |0,_,_,t=>BuckAt.upd t k fun _ h=>h.elim
 |m+1,_,_,⟨s,nd,hc⟩=>⟨s,nd.upd k fun _ h=>h.elim,fun c hc'=>(hc c hc').imp id fun o=>o.imp id fun⟨h1,h2,kb,h3,h4⟩=>⟨h1,h2,kb,h3,TrieAt.upd0 k h4⟩⟩
theorem NodeAt.less{W W':Nat→Prop}{h:ad}{b:Nat}{s:Slots}(n:NodeAt W h b s)(hm:∀b,W' b→W b∨h.size≤b):NodeAt W' h b s:=by
 obtain⟨d,m,sp,sk,ow,h1,h2,h3,h4,h5,h6⟩:=n.ex;exact⟨⟨d,m,sp,sk,ow,h1,h2,h3.less hm,h4.less hm,h5,h6⟩,fun hx=>(hm _ hx).elim n.nw fun h=>by have:=aJ h1;omega⟩
theorem BuckAt.less{W W':Nat→Prop}{h:ad}{b:Nat}{l:List Pr}(n:BuckAt W h b l)(hm:∀b,W' b→W b∨h.size≤b):BuckAt W' h b l:=by
 obtain⟨sp,sk,ow,h1,h3,h4,h5,h6⟩:=n.ex;exact⟨⟨sp,sk,ow,h1,h3.less hm,h4.less hm,h5,h6⟩,fun hx=>(hm _ hx).elim n.nw fun h=>by have:=aJ h1;omega⟩
theorem TrieAt.less{W W':Nat→Prop}{x:Hs}{h:ad}(hm:∀b,W' b→W b∨h.size≤b):∀{m b:Nat} {l:List Pr},TrieAt W x h m b l→TrieAt W' x h m b l
 |0,_,_,t=>BuckAt.less t hm
 |m+1,_,_,⟨s,nd,hc⟩=>⟨s,nd.less hm,fun c hc'=>(hc c hc').imp id fun o=>o.imp id fun⟨h1,h2,kb,h3,h4⟩=>⟨h1,h2,kb,h3,TrieAt.less hm h4⟩⟩
theorem TrieAt.updM{W M:Nat→Prop}{x:Hs}{h h':ad}(k:Upd M h h')(hm:∀b,M b→W b∨h.size≤b):∀{m b:Nat} {l:List Pr},TrieAt W x h m b l→TrieAt W x h' m b l
 |0,_,_,t=>BuckAt.upd t k hm
 |m+1,_,_,⟨s,nd,hc⟩=>⟨s,nd.upd k hm,fun c hc'=>(hc c hc').imp id fun o=>o.imp id fun⟨h1,h2,kb,h3,h4⟩=>⟨h1,h2,kb,h3,TrieAt.updM k hm h4⟩⟩
end Go.Proofs
namespace Go.Proofs
open Go.Lift
theorem Qz(a b:Nat):(aj (IntKind.bits .u64) (a:Int)&&&aj (IntKind.bits .u64) (b:Int)).toNat=(a%18446744073709551616)&&&(b%18446744073709551616):=by
 simp[IntKind.bits,BitVec.toNat_and,BitVec.toNat_ofInt];rfl
theorem Rb{hv:Int}(h0:0≤hv∧hv<18446744073709551616){lev:Nat}(hl:lev<13){h:ad}{K:Int→ad→Prop}(hk:K (((hv.toNat>>>(5*lev))%32:Nat):Int) h):HC PG mZ [.int .u64 hv,.int .i64 lev] [.c (.int .i64)] K h:=by
 refine JO hv lev ?_;unfold CP;refine Join.plain (aE (fun h=>by omega) fun _=>?_)
 rw[decide_eq_false (by omega)];refine al.2 ?_;have e5:IntKind.wrap .i64 (5*(lev:Int))=((5*lev:Nat):Int):=by rw[jm (by omega)];omega
 rw[e5];have em:min (((5*lev:Nat):Int)).toNat (IntKind.bits .u64)=5*lev:=by rw[aP];exact bA (by show 5*lev≤64;omega)
 rw[em];obtain⟨n,rfl⟩:=Int.eq_ofNat_of_zero_le h0.1;rw[aP]at hk;simp only[Bd];rw[lu];have hlt:n>>>(5*lev)<18446744073709551616:=Nat.lt_of_le_of_lt (Nat.shiftRight_le _ _) (by omega);have e:=Qz (n>>>(5*lev)) 31;rw[Nat.mod_eq_of_lt hlt,show((31:Nat):Int)=(31:Int)from rfl,show 31%18446744073709551616=2^5-1 from rfl,Nat.and_two_pow_sub_one_eq_mod]at e
 rw[e];have hm:n>>>(5*lev)%2^5<32:=oJ _ (by omega);rw[Go.IntWalk.u64_in _ (by omega),jm (by omega)];exact⟨by omega,hk⟩
theorem Pj{x:Hs}{k:ByteArray}{lev:Nat}(hl:lev<13){h:ad}{K:Int→ad→Prop}(hk:K (ck x lev k:Int) h):HC PG mZ [.int .u64 (hO x k),.int .i64 lev] [.c (.int .i64)] K h:=Rb (zR x k) hl hk
abbrev Pu(x:Hs)(k:ByteArray):Value:=.agg #[.int .u64 x.k0,.int .u64 x.k1,.int .u64 x.mask,.pointer none,.string k,.int .u64 (hO x k)]
theorem GB{x:Hs}{lev c:Nat}{l:List Pr}(h:∀p∈l,ck x lev p.1=c):part x lev c l=l:=List.filter_eq_self.2 fun p hp=>decide_eq_true (h p hp)
theorem Ku{x:Hs}{lev c:Nat}{l:List Pr}(h:∀p∈l,ck x lev p.1≠c):part x lev c l= []:=nZ.2 fun p hp=>by simpa using h p hp
theorem GA{x:Hs}{lev c:Nat}{p:Pr}{l:List Pr}(hr:dD l):part x lev c (gD p l)=if ck x lev p.1=c then gD p (part x lev c l)else part x lev c l:=by
 have:=B0 p (fun k=>decide (ck x lev k=c)) hr
 unfold part;rw[this];by_cases h:ck x lev p.1=c
 ·rw[if_pos h,if_pos (decide_eq_true h)]
 ·rw[if_neg h,if_neg (by simpa using h)]
theorem Kf{p q:Pr}(h:p.1≠q.1):(gD q [p]).length=2:=by
 rw[gk];by_cases hk:kl p.1 q.1
 ·rw[if_pos hk];rfl
 ·rw[if_neg hk,if_neg h];rfl
theorem Kz{p q r:Pr}(h:r∈gD q [p]):r=p∨r=q:=(xI h).symm.imp (fun h=>aB.1 h) id
theorem lI{β:Type}{g:Nat→Option β}{i c:Nat}{x:Option β}(h:c≠i):upd g i x c=g c:=by unfold upd;rw[if_neg h]
theorem Pn{W:Nat→Prop}{x:Hs}:∀(m:Nat) (p q:Pr),m≤13→p.1≠q.1→∀{h:ad},(∀y,W y→y<h.size)→∀{K:Option Addr→ad→Prop},(∀h' b',TrieAt W x h' m b' (gD q [p])→Upd No h h'→K (some ⟨b',0,none⟩) h')→
  HC PG kK [Pu x q.1,.agg #[.string p.1,.string p.2],.agg #[.string q.1,.string q.2],.int .i64 ((13-m:Nat):Int)] [.c .ptr] K h:=by
 intro m;induction m with
 |zero=>
  intro p q _ hne h hW K hk;have gW:∀{h'},Upd No h h'→∀y,W y→y<h'.size:=fun k y hy=>bB (hW y hy) k.size
  refine ra (x.k0,x.k1,x.mask,none,q.1,hO x q.1) p q ((13-0:Nat):Int) ?_;unfold nS ae au pW o9 cy dQ av sP ii CX nn LK F7;have k1:=Upd.hnew No h [.int .u64 x.k0,.int .u64 x.k1,.int .u64 x.mask,.pointer none,.string q.1,.int .u64 (hO x q.1)] cO;have b1:=bZ h [.int .u64 x.k0,.int .u64 x.k1,.int .u64 x.mask,.pointer none,.string q.1,.int .u64 (hO x q.1)] cO
  refine bj ?_;simp only[cM h];generalize hnew h [.int .u64 x.k0,.int .u64 x.k1,.int .u64 x.mask,.pointer none,.string q.1,.int .u64 (hO x q.1)] cO=h1 at k1 b1;have k2:=Upd.hnew No h1 [.string p.1,.string p.2] ag;have b2:=bZ h1 [.string p.1,.string p.2] ag;refine bj ?_;simp only[cM h1];generalize hnew h1 [.string p.1,.string p.2] ag=h2 at k2 b2
  have k3:=Upd.hnew No h2 [.string q.1,.string q.2] ag;have b3:=bZ h2 [.string q.1,.string q.2] ag;refine bj ?_;simp only[cM h2];generalize hnew h2 [.string q.1,.string q.2] ag=h3 at k3 b3;have w1:∀{h':ad},Upd No h3 h'→∀i,aN h' (adr ⟨h.size,0,none⟩ i)=(#[.int .u64 x.k0,.int .u64 x.k1,.int .u64 x.mask,.pointer none,.string q.1,.int .u64 (hO x q.1)]:Array Value)[i]?:=fun k i=>by
   rw[bP,aV (k.get0 (k3.get0 (k2.get0 b1))),aD]
  have w2:∀{h':ad},Upd No h3 h'→∀i,aN h' (adr ⟨h1.size,0,none⟩ i)=(#[.string p.1,.string p.2]:Array Value)[i]?:=fun k i=>by rw[bP,aV (k.get0 (k3.get0 b2)),aD]
  have w3:∀{h':ad},Upd No h3 h'→∀i,aN h' (adr ⟨h2.size,0,none⟩ i)=(#[.string q.1,.string q.2]:Array Value)[i]?:=fun k i=>by rw[bP,aV (k.get0 b3),aD]
  have r:=Upd.refl No h3;refine aw.2 ⟨none,w1 r 3,p.1,w2 r 0,p.2,w2 r 1,none,w1 r 3,q.1,w3 r 0,q.2,w3 r 1,?_⟩;refine L4 (gW ((k1.tr k2).tr k3)) fun h4 b4 bk4 hu4=>⟨⟨w3 hu4 0,w3 hu4 1⟩,w1 hu4 3,⟨w2 hu4 0,w2 hu4 1⟩,w1 hu4 3,?_⟩
  refine Fx bk4 (gW (((k1.tr k2).tr k3).tr hu4)) cE (by simp) p fun h5 b5 bk5 hu5=>?_
  have hu45:=hu4.tr hu5;refine⟨⟨w3 hu45 0,w3 hu45 1⟩,w1 hu45 3,?_⟩;have e1:E7 [] p= [p]:=AR p cE;rw[e1]at bk5;refine Fx bk5 (gW (((k1.tr k2).tr k3).tr hu45)) (cl ..) (by simp) q fun h6 b6 bk6 hu6=>?_
  rw[AR q (cl ..)]at bk6;exact hk h6 b6 bk6 ((((k1.tr k2).tr k3).tr hu45).tr hu6)
 |succ m ih=>
  intro p q hm hne h hW K hk;have gW:∀{h'},Upd No h h'→∀y,W y→y<h'.size:=fun k y hy=>bB (hW y hy) k.size
  have hl:13-(m+1)<13:=by omega
  have hlev:13-(m+1)=12-m:=by omega
  refine ra (x.k0,x.k1,x.mask,none,q.1,hO x q.1) p q ((13-(m+1):Nat):Int) ?_;unfold nS ae au pW o9 cy dQ av sP ii CX nn LK F7;have k1:=Upd.hnew No h [.int .u64 x.k0,.int .u64 x.k1,.int .u64 x.mask,.pointer none,.string q.1,.int .u64 (hO x q.1)] cO;have b1:=bZ h [.int .u64 x.k0,.int .u64 x.k1,.int .u64 x.mask,.pointer none,.string q.1,.int .u64 (hO x q.1)] cO
  refine bj ?_;simp only[cM h];generalize hnew h [.int .u64 x.k0,.int .u64 x.k1,.int .u64 x.mask,.pointer none,.string q.1,.int .u64 (hO x q.1)] cO=h1 at k1 b1;have k2:=Upd.hnew No h1 [.string p.1,.string p.2] ag;have b2:=bZ h1 [.string p.1,.string p.2] ag;refine bj ?_;simp only[cM h1];generalize hnew h1 [.string p.1,.string p.2] ag=h2 at k2 b2
  have k3:=Upd.hnew No h2 [.string q.1,.string q.2] ag;have b3:=bZ h2 [.string q.1,.string q.2] ag;refine bj ?_;simp only[cM h2];generalize hnew h2 [.string q.1,.string q.2] ag=h3 at k3 b3;have w1:∀{h':ad},Upd No h3 h'→∀i,aN h' (adr ⟨h.size,0,none⟩ i)=(#[.int .u64 x.k0,.int .u64 x.k1,.int .u64 x.mask,.pointer none,.string q.1,.int .u64 (hO x q.1)]:Array Value)[i]?:=fun k i=>by
   rw[bP,aV (k.get0 (k3.get0 (k2.get0 b1))),aD]
  have w2:∀{h':ad},Upd No h3 h'→∀i,aN h' (adr ⟨h1.size,0,none⟩ i)=(#[.string p.1,.string p.2]:Array Value)[i]?:=fun k i=>by rw[bP,aV (k.get0 (k3.get0 b2)),aD]
  have w3:∀{h':ad},Upd No h3 h'→∀i,aN h' (adr ⟨h2.size,0,none⟩ i)=(#[.string q.1,.string q.2]:Array Value)[i]?:=fun k i=>by rw[bP,aV (k.get0 b3),aD]
  have r:=Upd.refl No h3;have ne:(((13-(m+1):Nat):Int)==(13:Int))=false:=by rw[beq_eq_false_iff_ne];omega
  rw[ne];refine al.2 ⟨_,w1 r 0,_,w1 r 1,_,w1 r 2,_,w2 r 0,_,w1 r 5,?_⟩;refine vl fun h4 hu4=>⟨w1 hu4 5,Pj hl ⟨w1 hu4 5,Pj hl ?_⟩⟩
  have hi:=Ce x (13-(m+1)) p.1;have hj:=Ce x (13-(m+1)) q.1;have hk03:=((k1.tr k2).tr k3);have hcl:=Kf hne;refine CondP.intro (fun e=>?_) fun e=>?_
  ·have e:ck x (13-(m+1)) p.1=ck x (13-(m+1)) q.1:=by have:=eq_of_beq e;omega
   refine⟨_,w1 hu4 3,_,w1 hu4 0,_,w1 hu4 1,_,w1 hu4 2,_,w1 hu4 3,_,w1 hu4 4,_,w1 hu4 5,_,w2 hu4 0,_,w2 hu4 1,_,w3 hu4 0,_,w3 hu4 1,?_⟩;refine pZ (gW (hk03.tr hu4)) fun h5 b5 nd5 hu5=>?_
   have hu35:=hu4.tr hu5;refine⟨⟨w3 hu35 0,w3 hu35 1⟩,⟨w2 hu35 0,w2 hu35 1⟩,⟨w1 hu35 0,w1 hu35 1,w1 hu35 2,w1 hu35 3,w1 hu35 4,w1 hu35 5⟩,w1 hu35 3,?_⟩;have ew:IntKind.wrap .i64 (((13-(m+1):Nat):Int)+1)=((13-m:Nat):Int):=by rw[jm (by omega)];omega
   rw[ew];refine ih p q (by omega) hne (gW (hk03.tr hu35)) fun h6 b6 t6 hu6=>?_
   have hu36:=hu35.tr hu6;refine⟨w1 hu36 3,?_⟩;refine yM (nd5.upd hu6 fun _ h=>h.elim) (gW (hk03.tr hu36)) hi (fun y h=>by cases h) ⟨b6,0,none⟩ fun h7 b7 nd7 hu7=>?_
   refine hk h7 b7 ⟨_,nd7,fun c hc=>?_⟩ ((hk03.tr hu36).tr hu7)
   rw[hlev]at e;by_cases hcc:c=ck x (13-(m+1)) p.1
   ·refine .inr (.inr ?_)
    have ea:part x (12-m) c (gD q [p])=gD q [p]:=GB fun r hr=>by
     rcases Kz hr with rfl|rfl
     ·rw[hcc,hlev]
     ·rw[hcc,hlev,e]
    rw[ea];exact⟨by omega,by simp[upd],b6,by rw[hcc];exact kX,TrieAt.upd0 hu7 t6⟩
   ·refine .inl ⟨Ku fun r hr=>?_,by simp[upd],lI hcc⟩
    rw[hlev]at hcc;rcases Kz hr with rfl|rfl
    ·exact fun e=>hcc e.symm
    ·rw[←e];exact fun e=>hcc e.symm
  ·have e:ck x (13-(m+1)) p.1≠ck x (13-(m+1)) q.1:=fun h=>by rw[h]at e;simp at e
   refine⟨_,w1 hu4 3,_,w2 hu4 0,_,w2 hu4 1,_,w1 hu4 3,_,w3 hu4 0,_,w3 hu4 1,?_⟩;refine pZ (gW (hk03.tr hu4)) fun h5 b5 nd5 hu5=>?_
   have hu35:=hu4.tr hu5;refine⟨⟨w3 hu35 0,w3 hu35 1⟩,w1 hu35 3,⟨w2 hu35 0,w2 hu35 1⟩,w1 hu35 3,?_⟩;refine sK nd5 (gW (hk03.tr hu35)) hi (fun y h=>by cases h) p fun h6 b6 nd6 hu6=>?_
   have hu36:=hu35.tr hu6;refine⟨⟨w3 hu36 0,w3 hu36 1⟩,w1 hu36 3,?_⟩;refine sK nd6 (gW (hk03.tr hu36)) hj (fun y h=>by simp[upd]) q fun h7 b7 nd7 hu7=>?_
   refine hk h7 b7 ⟨_,nd7,fun c hc=>?_⟩ ((hk03.tr hu36).tr hu7)
   have hpi:=GA (x:=x) (lev:=12-m) (c:=c) (p:=q) (l:= [p]) (cl ..);rw[hlev]at e;by_cases hcp:c=ck x (12-m) p.1
   ·have hcq:ck x (12-m) q.1≠c:=fun h=>e (by omega)
    have e1:part x (12-m) c [p]= [p]:=GB fun r hr=>by rw[aB.1 hr,hcp]
    rw[if_neg hcq,e1]at hpi;exact .inr (.inl ⟨p,hpi,by simp[upd,hlev,hcp,e],by simp[upd]⟩)
   ·have e1:part x (12-m) c [p]= []:=Ku fun r hr=>by rw[aB.1 hr];exact fun h=>hcp h.symm
    rw[e1]at hpi;by_cases hcq:c=ck x (12-m) q.1
    ·rw[if_pos hcq.symm]at hpi
     exact .inr (.inl ⟨q,hpi,by simp[upd,hlev,hcq],by simp[upd]⟩)
    ·rw[if_neg fun h=>hcq h.symm]at hpi
     exact .inl ⟨hpi,by simp[upd,hlev,hcq,hcp],by simp[upd]⟩
end Go.Proofs
namespace Go.Proofs
open Go.Lift
noncomputable instance memDec (p:Pr) (l:List Pr):Decidable (p∈l):=Classical.propDecidable _
theorem Bz{l:List Pr}(hr:dD l){k v w:ByteArray}(h1:(k,v)∈l)(h2:(k,w)∈l):v=w:=by
 induction l with
 |nil=>cases h1
 |cons q l ih=>
  have hr:=aX.1 hr;rcases aA.1 h1 with e1|h1<;>rcases aA.1 h2 with e2|h2
  ·exact(Prod.mk.inj (e1.trans e2.symm)).2
  ·have:=hr.1 _ h2;rw[←e1]at this;exact absurd this (db _)
  ·have:=hr.1 _ h1;rw[←e2]at this;exact absurd this (db _)
  ·exact ih hr.2 h1 h2
theorem ll{x:Hs}{lev c:Nat}{l:List Pr}{p:Pr}:p∈part x lev c l↔p∈l∧ck x lev p.1=c:=by unfold part;rw[ey,decide_eq_true_iff]
theorem HU{x:Hs}{lev:Nat}{l:List Pr}{k:ByteArray}:fq (part x lev (ck x lev k) l) k=fq l k:=by
 unfold fq;rw[ko,dy,dy];constructor
 ·rintro⟨p,hp,e⟩;exact⟨p,(ll.1 hp).1,e⟩
 ·rintro⟨p,hp,e⟩;exact⟨p,ll.2 ⟨hp,by rw[of_decide_eq_true e]⟩,e⟩
theorem sN{x:Hs}{lev c:Nat}{l:List Pr}(hr:dD l):dD (part x lev c l):=hr.sublist List.filter_sublist
theorem mp{x:Hs}{lev c:Nat}{l:List Pr}:(part x lev c l).length≤l.length:=gj ..
def SlotIs(W:Nat→Prop)(x:Hs)(h:ad)(m:Nat)(s:Slots)(c:Nat)(l:List Pr):Prop:=
 (l= []∧s.p c=none∧s.k c=none)∨(∃p,l= [p]∧s.p c=some p∧s.k c=none)∨(2≤l.length∧s.p c=none∧∃kb,s.k c=some (some ⟨kb,0,none⟩)∧TrieAt W x h m kb l)
theorem SlotIs.upd0{W:Nat→Prop}{x:Hs}{h h':ad}{m:Nat}{s:Slots}{c:Nat}{l:List Pr}(k:Upd No h h')(t:SlotIs W x h m s c l):SlotIs W x h' m s c l:=t.imp id fun o=>o.imp id fun⟨h1,h2,kb,h3,h4⟩=>⟨h1,h2,kb,h3,TrieAt.upd0 k h4⟩
theorem GP(p:Pr):∀{l:List Pr},l.length≤(gD p l).length
 | []=>aR _
 |q::l=>by
  rw[gk];split
  ·have:=GP p (l:=l);simp only[ax];omega
  ·split<;>simp
theorem Lh{W:Nat→Prop}{x:Hs}{h h':ad}{m b':Nat}{s s':Slots}{l:List Pr}{p:Pr}(hr:dD l)(hu:Upd No h h')(nd:NodeAt W h' b' s')(hs:∀c,c<32→SlotIs W x h m s c (part x (12-m) c l))
  (hp:∀c,c≠ck x (12-m) p.1→s'.p c=s.p c∧s'.k c=s.k c)(hi:SlotIs W x h' m s' (ck x (12-m) p.1) (gD p (part x (12-m) (ck x (12-m) p.1) l))):TrieAt W x h' (m+1) b' (gD p l):=by
 refine⟨s',nd,fun c hc=>?_⟩
 rw[GA hr];by_cases e:ck x (12-m) p.1=c
 ·rw[if_pos e];subst e;exact hi
 ·rw[if_neg e]
  have t:=SlotIs.upd0 hu (hs c hc);obtain⟨e1,e2⟩:=hp c fun h=>e h.symm
  unfold SlotIs at t;rw[←e1,←e2]at t;exact t
theorem mB{a b:ByteArray}:(a.toList==b.toList)=decide (a=b):=by
 rw[ko,beq_iff_eq,decide_eq_true_iff,ze]
theorem Qe{W:Nat→Prop}{x:Hs}:∀(m:Nat),m≤13→∀{b:Nat} {l:List Pr} (p:Pr) {h:ad},TrieAt W x h m b l→(∀y,W y→y<h.size)→dD l→l.length≤1000000→∀{K:(Option Addr)×Bool×Bool→ad→Prop},
  (∀h' b' ch,Upd No h h'→TrieAt W x h' m b' (gD p l)→(ch=false→b'=b)→ch= !decide (p∈l)→K (some ⟨b',0,none⟩, !fq l p.1,ch) h')→
  HC PG ik [Pu x p.1,.pointer (some ⟨b,0,none⟩),.agg #[.string p.1,.string p.2],.int .i64 ((13-m:Nat):Int)] [.c .ptr,.c .bool,.c .bool] K h:=by
 intro m;induction m with
 |zero=>
  intro _ b l p h t hW hr hn K hk;have gW:∀{h'},Upd No h h'→∀y,W y→y<h'.size:=fun k y hy=>bB (hW y hy) k.size
  refine si (x.k0,x.k1,x.mask,none,p.1,hO x p.1) (some ⟨b,0,none⟩) p ((13-0:Nat):Int) ?_;unfold oI ae au nv o9 cy xo av kU sP uw BR qP CX nn pO xu LK F7;have k1:=Upd.hnew No h [.int .u64 x.k0,.int .u64 x.k1,.int .u64 x.mask,.pointer none,.string p.1,.int .u64 (hO x p.1)] cO;have b1:=bZ h [.int .u64 x.k0,.int .u64 x.k1,.int .u64 x.mask,.pointer none,.string p.1,.int .u64 (hO x p.1)] cO
  refine bj ?_;simp only[cM h];generalize hnew h [.int .u64 x.k0,.int .u64 x.k1,.int .u64 x.mask,.pointer none,.string p.1,.int .u64 (hO x p.1)] cO=h1 at k1 b1;have k2:=Upd.hnew No h1 [.string p.1,.string p.2] ag;have b2:=bZ h1 [.string p.1,.string p.2] ag;refine bj ?_;simp only[cM h1];generalize hnew h1 [.string p.1,.string p.2] ag=h2 at k2 b2
  have w1:∀{h':ad},Upd No h2 h'→∀i,aN h' (adr ⟨h.size,0,none⟩ i)=(#[.int .u64 x.k0,.int .u64 x.k1,.int .u64 x.mask,.pointer none,.string p.1,.int .u64 (hO x p.1)]:Array Value)[i]?:=fun k i=>by
   rw[bP,aV (k.get0 (k2.get0 b1)),aD]
  have w2:∀{h':ad},Upd No h2 h'→∀i,aN h' (adr ⟨h1.size,0,none⟩ i)=(#[.string p.1,.string p.2]:Array Value)[i]?:=fun k i=>by rw[bP,aV (k.get0 b2),aD]
  have r:=Upd.refl No h2;have k02:=k1.tr k2;have bk:BuckAt W h2 b l:=BuckAt.upd t k02 fun _ h=>h.elim
  obtain⟨sp,sk,ow,hb,_⟩:=bk.ex;refine lq hb (aw.2 ⟨_,w2 r 0,Q1 bk hr (by omega) p.1 fun h3 v hu3 hv=>?_⟩)
  have put:∀(hnot:p∉l) {h4:ad},Upd No h2 h4→HC PG iU [.pointer (some ⟨b,0,none⟩),.pointer none,.agg #[.string p.1,.string p.2]] [.c .ptr] (fun(e15:Option Addr) h16=>K (e15, !fq l p.1,true) h16) h4:=fun hnot h4 hu4=>
   Fx (bk.upd hu4 fun _ h=>h.elim) (gW (k02.tr hu4)) hr (by omega) p fun h5 b5 bk5 hu5=>by
    rw[AR p hr]at bk5;exact hk h5 b5 true ((k02.tr hu4).tr hu5) bk5 (fun h=>by cases h) (by rw[decide_eq_false hnot];rfl)
  refine Join.intro (fun t' h'=>t'=decide (p∈l)∧Upd No h2 h') (fun R hR=>?_) ?_
  ·cases ht:fq l p.1 with
   |false=>
    refine al.2 (hR _ _ ⟨?_,hu3⟩);refine(decide_eq_false fun hm=>?_).symm
    have:fq l p.1=true:=dy.2 ⟨p,hm,decide_eq_true rfl⟩;rw[ht]at this;cases this
   |true=>
    have hv:=hv ht;refine aw.2 ⟨_,w2 hu3 1,hR _ _ ⟨?_,hu3⟩⟩;rw[mB,decide_eq_decide];constructor
    ·intro e
     have e:v=p.2:=e;rw[e]at hv;exact hv
    ·intro hm
     exact Bz hr hv (show(p.1,p.2)∈l from hm)
  ·rintro t' h4 ⟨rfl,hu4⟩
   by_cases hm:p∈l
   ·rw[decide_eq_true hm]
    refine aw.2 ?_;have ht:fq l p.1=true:=dy.2 ⟨p,hm,decide_eq_true rfl⟩;have:=hk h4 b false (k02.tr hu4) (by rw[AQ hr hm];exact bk.upd hu4 fun _ h=>h.elim) (fun _=>rfl) (by rw[decide_eq_true hm];rfl)
    rw[ht]at this;exact this
   ·rw[decide_eq_false hm]
    refine al.2 ⟨none,w1 hu4 3,_,w2 hu4 0,_,w2 hu4 1,put hm hu4⟩
 |succ m ih=>
  intro hm b l p h t hW hr hn K hk;have gW:∀{h'},Upd No h h'→∀y,W y→y<h'.size:=fun k y hy=>bB (hW y hy) k.size
  have hl:13-(m+1)<13:=by omega
  have hlev:13-(m+1)=12-m:=by omega
  refine si (x.k0,x.k1,x.mask,none,p.1,hO x p.1) (some ⟨b,0,none⟩) p ((13-(m+1):Nat):Int) ?_;unfold oI ae au nv o9 cy xo av kU sP uw BR qP CX nn pO xu LK F7;have k1:=Upd.hnew No h [.int .u64 x.k0,.int .u64 x.k1,.int .u64 x.mask,.pointer none,.string p.1,.int .u64 (hO x p.1)] cO;have b1:=bZ h [.int .u64 x.k0,.int .u64 x.k1,.int .u64 x.mask,.pointer none,.string p.1,.int .u64 (hO x p.1)] cO
  refine bj ?_;simp only[cM h];generalize hnew h [.int .u64 x.k0,.int .u64 x.k1,.int .u64 x.mask,.pointer none,.string p.1,.int .u64 (hO x p.1)] cO=h1 at k1 b1;have k2:=Upd.hnew No h1 [.string p.1,.string p.2] ag;have b2:=bZ h1 [.string p.1,.string p.2] ag;refine bj ?_;simp only[cM h1];generalize hnew h1 [.string p.1,.string p.2] ag=h2 at k2 b2
  have w1:∀{h':ad},Upd No h2 h'→∀i,aN h' (adr ⟨h.size,0,none⟩ i)=(#[.int .u64 x.k0,.int .u64 x.k1,.int .u64 x.mask,.pointer none,.string p.1,.int .u64 (hO x p.1)]:Array Value)[i]?:=fun k i=>by
   rw[bP,aV (k.get0 (k2.get0 b1)),aD]
  have w2:∀{h':ad},Upd No h2 h'→∀i,aN h' (adr ⟨h1.size,0,none⟩ i)=(#[.string p.1,.string p.2]:Array Value)[i]?:=fun k i=>by rw[bP,aV (k.get0 b2),aD]
  have r:=Upd.refl No h2;have k02:=k1.tr k2;obtain⟨s,nd0,hs0⟩:=TrieAt.upd0 k02 t;have hs:∀c,c<32→SlotIs W x h2 m s c (part x (12-m) c l):=hs0;have tt:∀{h':ad},Upd No h2 h'→TrieAt W x h' (m+1) b l:=fun k=>TrieAt.upd0 (k02.tr k) t
  obtain⟨d0,n0,sp0,sk0,ow0,hb0,_⟩:=nd0.ex;refine lq hb0 (al.2 ⟨_,w1 r 5,Pj hl ?_⟩);rw[hlev];have hi:=Ce x (12-m) p.1;have hsi:=hs _ hi;have hrp:=sN (x:=x) (lev:=12-m) (c:=ck x (12-m) p.1) hr;have hnp:(part x (12-m) (ck x (12-m) p.1) l).length≤1000000:=bh mp hn;have hmp:p∈part x (12-m) (ck x (12-m) p.1) l↔p∈l:=by rw[ll];exact⟨fun h=>h.1,fun h=>⟨h,rfl⟩⟩
  have htp:=HU (x:=x) (lev:=12-m) (l:=l) (k:=p.1);have hturn:=fun{h':ad} {b':Nat} {s':Slots}=>Lh (W:=W) (x:=x) (h:=h2) (h':=h') (m:=m) (b':=b') (s:=s) (s':=s') (l:=l) (p:=p) hr
  generalize hc:ck x (12-m) p.1=c at hi hsi hrp hnp hmp htp hturn;generalize hlp:part x (12-m) c l=lc at hsi hrp hnp hmp htp hturn;refine GH nd0 hi fun h3 hu3=>?_
  have k4:=Upd.hnew No h3 [.string (⟨#[]⟩:ByteArray),.string (⟨#[]⟩:ByteArray)] ag;have b4:=bZ h3 [.string (⟨#[]⟩:ByteArray),.string (⟨#[]⟩:ByteArray)] ag;refine bj ?_;simp only[cM h3];generalize hnew h3 [.string (⟨#[]⟩:ByteArray),.string (⟨#[]⟩:ByteArray)] ag=h4 at k4 b4;have b4':h4[h3.size]? =some (.cells #[.string Oo.1,.string Oo.2] ag (0,0)):=b4
  refine Ks (p:=Aq (s.p c)) b4' fun h5 b5 hu5=>?_
  have hu25:Upd No h2 h5:=(hu3.tr k4).trans hu5 fun y hy=>.inr (by have hy:y=h3.size:=hy;have:=hu3.size;omega)
  have w5:∀{h':ad},Upd No h5 h'→∀i,aN h' (adr ⟨h3.size,0,none⟩ i)=(#[.string (Aq (s.p c)).1,.string (Aq (s.p c)).2]:Array Value)[i]?:=fun k i=>by rw[bP,aV (k.get0 b5),aD]
  have r5:=Upd.refl No h5;have nd5:=nd0.upd hu25 fun _ h=>h.elim
  cases hsp:s.p c with
  |some y=>
   rw[hsp]at w5;obtain⟨hone,hk0⟩:lc= [y]∧s.k c=none:=by
    rcases hsi with⟨_,h2,_⟩|⟨q,h1,h2,h3⟩|⟨_,h2,_⟩
    ·rw[hsp]at h2;cases h2
    ·rw[hsp]at h2;cases h2;exact⟨h1,h3⟩
    ·rw[hsp]at h2;cases h2
   refine aw.2 ⟨y.1,w5 r5 0,y.2,w5 r5 1,p.1,w2 hu25 0,p.2,w2 hu25 1,?_⟩;rw[mB,mB];have hyl:y∈l:=(ll.1 (show y∈part x (12-m) c l by rw[hlp,hone];exact aB.2 rfl)).1
   by_cases e1:y.1=p.1
   ·have ht:fq l p.1=true:=dy.2 ⟨y,hyl,decide_eq_true e1⟩
    rw[ht]at hk;by_cases e2:y.2=p.2
    ·rw[decide_eq_true e1,decide_eq_true e2]
     have hyp:y=p:=uV e1 e2;have hml:p∈l:=hyp▸hyl;refine aw.2 ?_;exact hk h5 b false (k02.tr hu25) (by rw[AQ hr hml];exact tt hu25) (fun _=>rfl) (by rw[decide_eq_true hml];rfl)
    ·rw[decide_eq_true e1,decide_eq_false e2]
     refine al.2 ⟨y.1,w5 r5 0,p.1,w2 hu25 0,?_⟩;rw[mB,decide_eq_true e1];refine aw.2 ⟨none,w1 hu25 3,p.1,w2 hu25 0,p.2,w2 hu25 1,?_⟩;refine sK nd5 (gW (k02.tr hu25)) hi (fun _ _=>hk0) p fun h6 b6 nd6 hu6=>?_
     have hnl:p∉l:=fun hm=>by
      have:=hmp.2 hm;rw[hone]at this;exact e2 (by rw[aB.1 this])
     refine hk h6 b6 true ((k02.tr hu25).tr hu6) (hturn (hu25.tr hu6) nd6 hs (fun c' hc'=>⟨lI hc',lI hc'⟩) ?_) (fun h=>by cases h) (by rw[decide_eq_false hnl];rfl)
     refine .inr (.inl ⟨p,?_,kX,kX⟩);rw[hone,gk,if_neg (by rw[e1];exact db _),if_pos e1]
   ·rw[decide_eq_false e1]
    refine al.2 ⟨y.1,w5 r5 0,p.1,w2 hu25 0,?_⟩;rw[mB,decide_eq_false e1];refine al.2 ⟨none,w1 hu25 3,_,w1 hu25 0,_,w1 hu25 1,_,w1 hu25 2,_,w1 hu25 3,_,w1 hu25 4,_,w1 hu25 5,y.1,w5 r5 0,y.2,w5 r5 1,p.1,w2 hu25 0,p.2,w2 hu25 1,?_⟩;have ew:IntKind.wrap .i64 (((12-m:Nat):Int)+1)=((13-m:Nat):Int):=by rw[jm (by omega)];omega
    rw[ew];refine Pn m y p (by omega) e1 (gW (k02.tr hu25)) fun h6 b6 t6 hu6=>⟨w1 (hu25.tr hu6) 3,?_⟩
    refine yM (nd5.upd hu6 fun _ h=>h.elim) (gW ((k02.tr hu25).tr hu6)) hi (fun z hz=>by rw[hk0]at hz;cases hz) ⟨b6,0,none⟩ fun h7 b7 nd7 hu7=>?_
    have ht:fq l p.1=false:=by
     rw[←htp,hone];unfold fq;rw[List.any_cons,decide_eq_false e1];rfl
    have hnl:p∉l:=fun hm=>by
     have:fq l p.1=true:=dy.2 ⟨p,hm,decide_eq_true rfl⟩;rw[ht]at this;cases this
    rw[ht]at hk;refine hk h7 b7 true (((k02.tr hu25).tr hu6).tr hu7) (hturn ((hu25.tr hu6).tr hu7) nd7 hs (fun c' hc'=>⟨lI hc',lI hc'⟩) ?_) (fun h=>by cases h) (by rw[decide_eq_false hnl];rfl)
    rw[hone];exact .inr (.inr ⟨by rw[Kf e1];omega,kX,b6,kX,TrieAt.upd0 hu7 t6⟩)
  |none=>
   refine al.2 (Kw nd5 hi ?_);cases hsk:s.k c with
   |none=>
    have hlc:lc= []:=by
     rcases hsi with⟨h1,_⟩|⟨q,_,h2,_⟩|⟨_,_,kb,h2,_⟩
     ·exact h1
     ·rw[hsp]at h2;cases h2
     ·rw[hsk]at h2;cases h2
    refine aw.2 ⟨none,w1 hu25 3,p.1,w2 hu25 0,p.2,w2 hu25 1,?_⟩;refine sK nd5 (gW (k02.tr hu25)) hi (fun _ _=>hsk) p fun h6 b6 nd6 hu6=>?_
    have ht:fq l p.1=false:=by rw[←htp,hlc];rfl
    have hnl:p∉l:=fun hm=>by
     have:fq l p.1=true:=dy.2 ⟨p,hm,decide_eq_true rfl⟩;rw[ht]at this;cases this
    rw[ht]at hk;refine hk h6 b6 true ((k02.tr hu25).tr hu6) (hturn (hu25.tr hu6) nd6 hs (fun c' hc'=>⟨lI hc',lI hc'⟩) ?_) (fun h=>by cases h) (by rw[decide_eq_false hnl];rfl)
    rw[hlc];exact .inr (.inl ⟨p,rfl,kX,kX⟩)
   |some kp=>
    obtain⟨h2l,kb,rfl,tk⟩:2≤lc.length∧∃kb,kp=some ⟨kb,0,none⟩∧TrieAt W x h2 m kb lc:=by
     rcases hsi with⟨_,_,h2⟩|⟨q,_,h2,_⟩|⟨h1,_,kb,h2,h3⟩
     ·rw[hsk]at h2;cases h2
     ·rw[hsp]at h2;cases h2
     ·rw[hsk]at h2;cases h2;exact⟨h1,kb,rfl,h3⟩
    refine al.2 ⟨_,w1 hu25 0,_,w1 hu25 1,_,w1 hu25 2,_,w1 hu25 3,_,w1 hu25 4,_,w1 hu25 5,p.1,w2 hu25 0,p.2,w2 hu25 1,?_⟩;have ew:IntKind.wrap .i64 (((12-m:Nat):Int)+1)=((13-m:Nat):Int):=by rw[jm (by omega)];omega
    rw[ew];refine ih (by omega) p (TrieAt.upd0 hu25 tk) (gW (k02.tr hu25)) hrp hnp fun h6 b6 ch hu6 t6 hsame hch=>?_
    have hu26:=hu25.tr hu6;by_cases hml:p∈l
    ·have hch:ch=false:=by rw[hch,decide_eq_true (hmp.2 hml)];rfl
     have ht:fq l p.1=true:=dy.2 ⟨p,hml,decide_eq_true rfl⟩;rw[ht]at hk;rw[hch];refine aw.2 ?_;exact hk h6 b false (k02.tr hu26) (by rw[AQ hr hml];exact tt hu26) (fun _=>rfl) (by rw[decide_eq_true hml];rfl)
    ·have hch:ch=true:=by rw[hch,decide_eq_false fun h=>hml (hmp.1 h)];rfl
     rw[hch];refine al.2 ⟨none,w1 hu26 3,?_⟩;refine yM (nd5.upd hu6 fun _ h=>h.elim) (gW ((k02.tr hu25).tr hu6)) hi (fun _ _=>hsp) ⟨b6,0,none⟩ fun h7 b7 nd7 hu7=>?_
     rw[htp];refine hk h7 b7 true ((k02.tr hu26).tr hu7) (hturn (hu26.tr hu7) nd7 hs (fun c' hc'=>⟨lI hc',lI hc'⟩) ?_) (fun h=>by cases h) (by rw[decide_eq_false hml];rfl)
     exact .inr (.inr ⟨bh h2l (GP p),kX,b6,kX,TrieAt.upd0 hu7 t6⟩)
end Go.Proofs
namespace Go.Proofs
open Go.Lift
theorem F8{W:Nat→Prop}{x:Hs}{h:ad}{m b:Nat}(nd:NodeAt W h b ⟨fun _=>none,fun _=>none⟩):TrieAt W x h (m+1) b []:=⟨_,nd,fun _ _=>.inl ⟨rfl,rfl,rfl⟩⟩
def RootAt(W:Nat→Prop)(x:Hs)(h:ad)(r:Option Addr)(l:List Pr):Prop:=(r=none∧l= [])∨∃b,r=some ⟨b,0,none⟩∧TrieAt W x h 13 b l
theorem RootAt.upd0{W:Nat→Prop}{x:Hs}{h h':ad}{r:Option Addr}{l:List Pr}(k:Upd No h h')(t:RootAt W x h r l):RootAt W x h' r l:=t.imp id fun⟨b,e,t⟩=>⟨b,e,TrieAt.upd0 k t⟩
theorem OC{W:Nat→Prop}{x:Hs}{h:ad}{r:Option Addr}{l:List Pr}(t:RootAt W x h r l)(hW:∀y,W y→y<h.size){K:Option Addr→ad→Prop}(hk:∀h' b,TrieAt W x h' 13 b l→Upd No h h'→(r=some ⟨b,0,none⟩∨r=none)→K (some ⟨b,0,none⟩) h'):HC PG nI [.pointer r] [.c .ptr] K h:=by
 refine FS r ?_;unfold yz;rcases t with⟨rfl,rfl⟩|⟨b,rfl,t⟩
 ·refine aw.2 (vV ?_)
  unfold rO;exact pZ hW fun h' b nd hu=>hk h' b (F8 nd) hu (.inr rfl)
 ·exact al.2 (hk h b t (Upd.refl _ _) (.inl rfl))
theorem bo{h:ad}{b:Nat}{t:TypeId}{c vs:List Value}(hb:h[b]? =some (.cells c.toArray t (0,0))) (hl:vs.length=c.length) {k:ad→Prop}
  (hk:∀h',h'[b]? =some (.cells vs.toArray t (0,0))→Upd (· =b) h h'→k h'):uc h (some ⟨b,0,none⟩) 0 vs∧At (jA h ⟨b,0,none⟩ 0 vs) k:=by
 have e:=iR vs h 0 0 c hb (by omega);refine⟨.inr ⟨_,rfl,fun j hj=>by rw[bP];exact gS hb (by rw[List.size_toArray];omega)⟩,bj ?_⟩
 rw[e];refine hk _ ?_ (Upd.set h _ rfl);rw[iY hb];congr 3
 simp[hl]
set_option maxRecDepth 4000 in
theorem zX{W:Nat→Prop}{x:Hs}{h:ad}{r:Option Addr}{l:List Pr}(t:RootAt W x h r l)(hW:∀y,W y→y<h.size)(hr:dD l)(hn:l.length≤1000000)(p:Pr){K:Option Addr×Bool→ad→Prop}
  (hk:∀h' b',Upd No h h'→TrieAt W x h' 13 b' (gD p l)→(p∈l→r=some ⟨b',0,none⟩∨r=none)→K (some ⟨b',0,none⟩, !fq l p.1) h'):
  HC PG uI [.agg #[.int .u64 x.k0,.int .u64 x.k1,.int .u64 x.mask],.pointer none,.pointer r,.agg #[.string p.1,.string p.2]] [.c .ptr,.c .bool] K h:=by
 refine Hw (x.k0,x.k1,x.mask) none r p ?_;unfold Am ae au cJ yE pW o9 av sP ii qP PP PV CX;have k1:=Upd.hnew No h [.int .u64 x.k0,.int .u64 x.k1,.int .u64 x.mask] cC;have b1:=bZ h [.int .u64 x.k0,.int .u64 x.k1,.int .u64 x.mask] cC;refine bj ?_;simp only[cM h];generalize hnew h [.int .u64 x.k0,.int .u64 x.k1,.int .u64 x.mask] cC=h1 at k1 b1
 have k2:=Upd.hnew No h1 [.string p.1,.string p.2] ag;have b2:=bZ h1 [.string p.1,.string p.2] ag;refine bj ?_;simp only[cM h1];generalize hnew h1 [.string p.1,.string p.2] ag=h2 at k2 b2;have w1:∀{h':ad},Upd No h2 h'→∀i,aN h' (adr ⟨h.size,0,none⟩ i)=(#[.int .u64 x.k0,.int .u64 x.k1,.int .u64 x.mask]:Array Value)[i]?:=fun k i=>by
  rw[bP,aV (k.get0 (k2.get0 b1)),aD]
 have w2:∀{h':ad},Upd No h2 h'→∀i,aN h' (adr ⟨h1.size,0,none⟩ i)=(#[.string p.1,.string p.2]:Array Value)[i]?:=fun k i=>by rw[bP,aV (k.get0 b2),aD]
 have r2:=Upd.refl No h2;have k02:=k1.tr k2;let c6:List Value:= [.int .u64 0,.int .u64 0,.int .u64 0,.pointer none,.string (⟨#[]⟩:ByteArray),.int .u64 0]
 let v6:List Value:= [.int .u64 x.k0,.int .u64 x.k1,.int .u64 x.mask,.pointer none,.string p.1,.int .u64 (hO x p.1)]
 have fin:∀{h4:ad} {b:Nat},Upd No h2 h4→h4[b]? =some (.cells v6.toArray cO (0,0))→
   ∃v15:Int,aN h4 (adr ⟨b,0,none⟩ 0)=some (.int .u64 v15)∧
    ∃v16:Int,aN h4 (adr ⟨b,0,none⟩ 1)=some (.int .u64 v16)∧
    ∃v17:Int,aN h4 (adr ⟨b,0,none⟩ 2)=some (.int .u64 v17)∧
    ∃v18:Option Addr,aN h4 (adr ⟨b,0,none⟩ 3)=some (.pointer v18)∧
    ∃v19:ByteArray,aN h4 (adr ⟨b,0,none⟩ 4)=some (.string v19)∧
    ∃v20:Int,aN h4 (adr ⟨b,0,none⟩ 5)=some (.int .u64 v20)∧
    ∃v21:ByteArray,aN h4 (adr ⟨h1.size,0,none⟩ 0)=some (.string v21)∧
    ∃v22:ByteArray,aN h4 (adr ⟨h1.size,0,none⟩ 1)=some (.string v22)∧
    HC PG nI [.pointer r] [.c .ptr] (fun(e23:Option Addr) h24=>
     ((aN h24 (adr ⟨h1.size,0,none⟩ 0)=some (.string v21)∧aN h24 (adr ⟨h1.size,0,none⟩ 1)=some (.string v22))∧
      ((aN h24 (adr ⟨b,0,none⟩ 0)=some (.int .u64 v15)∧aN h24 (adr ⟨b,0,none⟩ 1)=some (.int .u64 v16)∧aN h24 (adr ⟨b,0,none⟩ 2)=some (.int .u64 v17)∧aN h24 (adr ⟨b,0,none⟩ 3)=some (.pointer v18)∧aN h24 (adr ⟨b,0,none⟩ 4)=some (.string v19)∧aN h24 (adr ⟨b,0,none⟩ 5)=some (.int .u64 v20))∧
       HC PG ik [.agg #[.int .u64 v15,.int .u64 v16,.int .u64 v17,.pointer v18,.string v19,.int .u64 v20],.pointer e23,.agg #[.string v21,.string v22],.int .i64 0] [.c .ptr,.c .bool,.c .bool] (fun(e25:(Option Addr)×Bool×Bool) h26=>
        K (e25.1,e25.2.1) h26) h24))) h4:=fun{h4 b} hu4 hb4=>by
  have w4:∀{h':ad},Upd No h4 h'→∀i,aN h' (adr ⟨b,0,none⟩ i)=v6.toArray[i]?:=fun k i=>by rw[bP,aV (k.get0 hb4),aD]
  have r4:=Upd.refl No h4;refine⟨_,w4 r4 0,_,w4 r4 1,_,w4 r4 2,_,w4 r4 3,_,w4 r4 4,_,w4 r4 5,p.1,w2 hu4 0,p.2,w2 hu4 1,?_⟩;refine OC (t.upd0 (k02.tr hu4)) (fun y hy=>bB (hW y hy) (k02.tr hu4).size) fun h5 b5 t5 hu5 hr5=>?_
  have hu25:=hu4.tr hu5;refine⟨⟨w2 hu25 0,w2 hu25 1⟩,⟨w4 hu5 0,w4 hu5 1,w4 hu5 2,w4 hu5 3,w4 hu5 4,w4 hu5 5⟩,?_⟩;refine Qe 13 (ao _) p t5 (fun y hy=>bB (hW y hy) ((k02.tr hu4).tr hu5).size) hr hn fun h6 b6 ch hu6 t6 hs hch=>?_
  refine hk h6 b6 ((k02.tr hu25).tr hu6) t6 fun hm=>?_
  have hb:b6=b5:=hs (by rw[hch,decide_eq_true hm];rfl);rw[hb];exact hr5
 have own:∀{h3 h4:ad} {b:Nat},h2.size≤b→Upd (· =b) h3 h4→Upd No h2 h3→Upd No h2 h4:=fun hb hu k=>k.trans hu fun y hy=>.inr (hy▸hb)
 refine⟨_,w1 r2 0,_,w1 r2 1,_,w1 r2 2,_,w2 r2 0,_,w1 r2 0,_,w1 r2 1,_,w1 r2 2,_,w2 r2 0,?_,?_⟩
 ·refine vl fun h3 hu3=>⟨w2 hu3 0,⟨w1 hu3 0,w1 hu3 1,w1 hu3 2⟩,?_⟩
  have k4:=Upd.hnew No h3 c6 cO;have b4:=bZ h3 c6 cO;have hu4:=hu3.tr k4;refine bj ?_;simp only[cM h3];refine⟨w2 hu4 0,⟨w1 hu4 0,w1 hu4 1,w1 hu4 2⟩,?_⟩;refine bo (vs:=v6) b4 rfl fun h5 b5 hu5=>fin (own hu3.size hu5 hu4) b5
 ·have k4:=Upd.hnew No h2 c6 cO
  have b4:=bZ h2 c6 cO;refine bj ?_;simp only[cM h2];refine⟨w2 k4 0,⟨w1 k4 0,w1 k4 1,w1 k4 2⟩,w2 k4 0,⟨w1 k4 0,w1 k4 1,w1 k4 2⟩,?_⟩;refine vl fun h5 hu5=>?_
  have hu25:=k4.tr hu5;refine⟨w2 hu25 0,⟨w1 hu25 0,w1 hu25 1,w1 hu25 2⟩,?_⟩;exact bo (vs:=v6) (hu5.get0 b4) rfl fun h6 b6 hu6=>fin (own (ao _) hu6 hu25) b6
end Go.Proofs
namespace Go.Proofs
open Go.Lift
abbrev nh(b:UInt8):List Value:= [.int .u8 (b.toNat:Int)]
theorem qm(b:UInt8):(nh b).length=1∧0<1:=⟨rfl,Nat.one_pos⟩
theorem vg:∀xs:List UInt8,cj (xs.flatMap nh)=true
 | []=>rfl
 |x::xs=>by rw[aO];exact jT rfl (vg xs)
theorem uK(s:ByteArray):dR s=s.data.toList.flatMap nh:=by
 unfold dR;generalize s.data.toList=l;induction l with
 |nil=>rfl
 |cons b l ih=>rw[co,aO,ih];rfl
theorem r8{M:Nat→Prop}{h:ad}{so:SliceV}{out:List UInt8}{v:Int}{b:UInt8}(hv:v=(b.toNat:Int)){K:SliceV→ad→Prop}(ho:OwnS nh 1 cD M h so out)(hM:∀b,h.size≤b→M b)(hn:out.length+1≤140737488355328)
  (hk:∀s' h',OwnS nh 1 cD M h' s' (out++ [b])→Upd M h h'→K s' h'):
  ∃xs,SRow (hnew h [.int .u8 v] cD) (some (az h)) (1*1) xs∧AppP (some [.int .u8 0]) 1 1 cD so.a so.len so.cap 1 xs (hnew h [.int .u8 v] cD) K:=by
 subst hv;have k:=Upd.hnew No h [.int .u8 (b.toNat:Int)] cD;have h1:OwnS nh 1 cD (fun _=>True) (hnew h [.int .u8 (b.toNat:Int)] cD) ⟨some (az h),1,1⟩ [b]:=⟨rfl,qm,ao _,.inr ⟨h.size,[],rfl,trivial,bZ ..,rfl⟩⟩
 refine⟨_,(h1.sl (W:=No) fun _ _ _ h=>h).srow,?_⟩
 refine AppP.own (ys:= [b]) (ho.upd k fun _ _ h=>h) rfl rfl rfl rfl (by omega) (by simp only[aC];omega) (hM _ (by rw[iS];omega)) fun s' h' ho' hu=>?_
 exact hk s' h' ho' ((Upd.hnew M h _ _).tr hu)
def lm(n k:Nat):List UInt8:=(fF k).map fun i=>fJ (n>>>(8*i))
theorem vi(n k:Nat):lm n (k+1)=lm n k++ [fJ (n>>>(8*k))]:=by unfold lm;rw[iV,cd];rfl
theorem dh(n k:Nat):(lm n k).length=k:=by simp[lm]
theorem IK{M:Nat→Prop}{h:ad}{s:SliceV}{xs:List UInt8}(ho:OwnS nh 1 cD M h s xs)(hM:∀b,h.size≤b→M b){n k:Nat}(hn:n<18446744073709551616)(hk8:k≤8)(hl:xs.length+k≤140737488355328){K:SliceV→ad→Prop}
  (hk:∀s' h',OwnS nh 1 cD M h' s' (xs++lm n k)→Upd M h h'→K s' h'):HC PG lw [.slice s.a s.len s.cap,.int .u64 n,.int .i64 k] [.c .slice] K h:=by
 refine Ab s n k ?_;unfold uU;refine LoopP.ghost (fun(i:Nat) (t:SliceV×Int) h'=>t.2=(i:Int)∧i≤k∧OwnS nh 1 cD M h' t.1 (xs++lm n i)∧Upd M h h') (fun i=>k-i) 0 ⟨rfl,aR _,by simpa[lm]using ho,Upd.refl _ _⟩ ?_
 rintro I i ⟨so,ti⟩ h' ⟨e1,hi,ho',hu⟩ hI;simp only at e1 ho';subst e1;refine aE (fun hlt=>?_) fun hge=>?_
 ·have hlt:i<k:=by have:(i:Int)<(k:Int):=hlt;omega
  have e8:IntKind.wrap .i64 (8*(i:Int))=((8*i:Nat):Int):=by rw[jm (by omega)];omega
  have em:min (((8*i:Nat):Int)).toNat (IntKind.bits .u64)=8*i:=by rw[aP];exact bA (by show 8*i≤64;omega)
  refine Join.plain ?_;simp only[Bd];rw[e8,em,lu];refine⟨by omega,bj ?_⟩;refine r8 (b:=fJ (n>>>(8*i))) ?_ ho' (fun b hb=>hM b (bh hu.size hb)) (by rw[ac,dh];omega) fun s2 h2 ho2 hu2=>?_
  ·rw[IntKind.wrap_u8];simp
  ·rw[cp hlt (by omega)]
   refine hI (i+1) _ _ ⟨rfl,hlt,?_,hu.tr hu2⟩ (by omega);rw[vi,←aq];exact ho2
 ·have hik:i=k:=by have:¬(i:Int)<(k:Int):=hge;omega
  subst hik;exact hk _ _ ho' hu
end Go.Proofs
namespace Go.Proofs
open Go Go.Lift
theorem Hg{α:Type}{f:α→List Value}{sz bytes:Nat}{t:TypeId}{W:Nat→Prop}{h:ad}{base:Option Addr}{sl sc xl:Nat}{xs ys:List α}{ysv z:List Value}{K:SliceV→ad→Prop}
  (hs:Sl f sz W h ⟨base,sl,sc⟩ xs)(hxl:xl=ys.length)(hys:ysv=ys.flatMap f)(hz:z.length=sz)(hb:0<bytes)(hout:sc<sl+xl)(hfit:(xs.length+ys.length)*bytes≤140737488355328)
  (hk:∀s' h',OwnS f sz t (fun b=>h.size≤b) h' s' (xs++ys)→Upd No h h'→K s' h'):AppP (some z) sz bytes t base sl sc xl ysv h K:=by
 have hlen:sl=xs.length:=hs.len;subst hxl hys;refine⟨fun hin=>by omega,fun _=>?_⟩
 refine⟨xs.flatMap f,z,hs.srow,rfl,hb,Go.growslice_fits hout (by rw[hlen];exact hfit),fun nc hnc=>?_⟩
 refine hk _ _ ⟨by simp[hlen],hs.ne,hnc,.inr ⟨h.size,dU (nc-(sl+ys.length)) z,rfl,ao _,?_,?_⟩⟩ (Upd.hnew No h _ _)
 ·rw[bZ,bm]
 ·rw[kV,hz]
theorem O6{h:ad}{s:SliceV}{xs:List UInt8}(hs:Sl nh 1 No h s xs)(hc:s.cap=s.len){n k:Nat}(hk8:k≤8)(hk0:0<k)(hl:xs.length+k≤140737488355328){K:SliceV→ad→Prop}
  (hk:∀s' h',OwnS nh 1 cD (fun b=>h.size≤b) h' s' (xs++lm n k)→Upd No h h'→K s' h'):HC PG lw [.slice s.a s.len s.cap,.int .u64 n,.int .i64 k] [.c .slice] K h:=by
 refine Ab s n k ?_;unfold uU;refine LoopP.ghost (fun(i:Nat) (t:SliceV×Int) h'=>t.2=(i:Int)∧i≤k∧((i=0∧t.1=s∧h'=h)∨OwnS nh 1 cD (fun b=>h.size≤b) h' t.1 (xs++lm n i))∧Upd No h h') (fun i=>k-i) 0 ⟨rfl,aR _,.inl ⟨rfl,rfl,rfl⟩,Upd.refl _ _⟩ ?_
 rintro I i ⟨so,ti⟩ h' ⟨e1,hi,ho',hu⟩ hI;simp only at e1 ho';subst e1;refine aE (fun hlt=>?_) fun hge=>?_
 ·have hlt:i<k:=by have:(i:Int)<(k:Int):=hlt;omega
  have e8:IntKind.wrap .i64 (8*(i:Int))=((8*i:Nat):Int):=by rw[jm (by omega)];omega
  have em:min (((8*i:Nat):Int)).toNat (IntKind.bits .u64)=8*i:=by rw[aP];exact bA (by show 8*i≤64;omega)
  refine Join.plain ?_;simp only[Bd];rw[e8,em,lu];refine⟨by omega,bj ?_⟩;have ev:IntKind.wrap .u8 ((n>>>(8*i):Nat):Int)=((fJ (n>>>(8*i))).toNat:Int):=by rw[IntKind.wrap_u8];simp
  rcases ho' with⟨rfl,rfl,rfl⟩|ho'
  ·rw[ev]
   have k1:=Upd.hnew No h' [.int .u8 ((fJ (n>>>(8*0))).toNat:Int)] cD;have h1:OwnS nh 1 cD (fun _=>True) (hnew h' [.int .u8 ((fJ (n>>>(8*0))).toNat:Int)] cD) ⟨some (az h'),1,1⟩ [fJ (n>>>(8*0))]:=⟨rfl,qm,ao _,.inr ⟨h'.size,[],rfl,trivial,bZ ..,rfl⟩⟩
   refine⟨_,(h1.sl (W:=No) fun _ _ _ h=>h).srow,?_⟩
   refine Hg (ys:= [fJ (n>>>(8*0))]) (hs.upd k1 fun _ h=>h.elim) rfl rfl rfl (by omega) (by omega) (by simp only[aC];omega) fun s2 h2 ho2 hu2=>?_
   rw[cp hlt (by omega)];refine hI 1 _ _ ⟨rfl,hlt,.inr ?_,k1.tr hu2⟩ (by omega);exact ho2.more fun b hb=>bh k1.size hb
  ·refine r8 ev ho' (fun b hb=>bh hu.size hb) (by rw[ac,dh];omega) fun s2 h2 ho2 hu2=>?_
   rw[cp hlt (by omega)];refine hI (i+1) _ _ ⟨rfl,hlt,.inr ?_,hu.trans hu2 fun b hb=>.inr hb⟩ (by omega)
   rw[vi,←aq];exact ho2
 ·have hik:i=k:=by have:¬(i:Int)<(k:Int):=hge;omega
  subst hik;rcases ho' with⟨e,_⟩|ho'
  ·omega
  ·exact hk _ _ ho' hu
def mn(s:ByteArray):List UInt8:=lm s.size 2++s.data.toList
theorem AH{W:Nat→Prop}{h:ad}{s:SliceV}{xs:List UInt8}(hs:Sl nh 1 W h s xs)(hc:s.len≤s.cap)(b:ByteArray)(hb:b.size≤1000000)(hl:xs.length+2+b.size≤140737488355328){K:SliceV→ad→Prop}
  (hk:∀s' h',OwnS nh 1 cD (fun x=>h.size≤x) h' s' (xs++mn b)→Upd No h h'→K s' h'):HC PG lN [.slice s.a s.len s.cap,.string b] [.c .slice] K h:=by
 refine FI s b ?_;unfold yo;have hlen:=hs.len;refine⟨by omega,by omega,?_⟩
 simp only[aP];have hs1:Sl nh 1 No h ⟨aY s.a 0 s.len 1,s.len-0,s.len-0⟩ xs:=by
  have:=Sl.sub (hs.less (W':=No) fun _ h=>h.elim) (l:=0) (hi:=s.len) (m:=s.len) (c:=s.len-0) (aR _) (by omega) (ao _)
  rw[List.drop_zero,bw (by omega)]at this;exact this
 have ew:IntKind.wrap .u64 (b.size:Int)=(b.size:Int):=Go.IntWalk.u64_in _ (by omega);rw[ew];refine O6 hs1 rfl (n:=b.size) (k:=2) (by omega) (by omega) (by omega) fun s2 h2 ho2 hu2=>?_
 refine AppP.own (ys:=b.data.toList) ho2 (by simp) (uK b) (by rw[uK];exact vg _) rfl (by omega) ?_ hu2.size fun s3 h3 ho3 hu3=>?_
 ·simp only[ac,dh]
  have:b.data.toList.length=b.size:=by simp
  omega
 ·refine hk s3 h3 ?_ (hu2.trans hu3 fun x hx=>.inr hx)
  rw[mn,←aq];exact ho3
end Go.Proofs
namespace Go.Proofs
open Go Go.Lift
def zO(p:Pr):List UInt8:=mn p.1++mn p.2
def jy(l:List Pr):List UInt8:=l.flatMap zO
theorem ig(b:ByteArray):(mn b).length=2+b.size:=by simp[mn,dh]
def Fit(l:List Pr):Prop:=∀p∈l,p.1.size≤10000∧p.2.size≤10000
theorem LN{p:Pr}(h:p.1.size≤10000∧p.2.size≤10000):(zO p).length≤20004:=by
 unfold zO;rw[ac,ig,ig];omega
theorem lj:∀{l:List Pr},Fit l→(jy l).length≤l.length*20004
 | [],_=>by simp[jy]
 |p::l,h=>by
  have h1:=LN (h p (ar ..));have h2:=lj (l:=l) fun q hq=>h q (aL _ hq)
  unfold jy at*;rw[aO,ac,ax];omega
theorem zN{l:List Pr}{i:Nat}(hi:i<l.length):jy (l.take (i+1))=jy (l.take i)++zO l[i]:=by
 unfold jy;rw[List.take_succ_eq_append_getElem hi,bm,aO,List.flatMap_nil,List.append_nil]
theorem Bl{M W:Nat→Prop}{h:ad}{s sp:SliceV}{xs:List UInt8}{l:List Pr}(ho:OwnS nh 1 cD M h s xs)(hM:∀b,h.size≤b→M b)(hs:Sl eC 2 W h sp l)(hW:∀x,M x→x<h.size→W x)(hf:Fit l)(hn:l.length≤1000000)(hl:xs.length+l.length*20004≤140737488355328){K:SliceV→ad→Prop}
  (hk:∀s' h',OwnS nh 1 cD M h' s' (xs++jy l)→Upd M h h'→K s' h'):HC PG oW [.slice s.a s.len s.cap,.slice sp.a sp.len sp.cap] [.c .slice] K h:=by
 refine Dh s sp ?_;unfold vY dd nv jx bC av kU wi;have hlen:=hs.len;have hMW:∀b,M b→W b∨h.size≤b:=fun b hb=>by
  rcases Nat.lt_or_ge b h.size with hx|hx
  ·exact .inl (hW b hb hx)
  ·exact .inr hx
 refine LoopP.ghost (fun(i:Nat) (t:SliceV×Int) h'=>t.2=(i:Int)∧i≤l.length∧OwnS nh 1 cD M h' t.1 (xs++jy (l.take i))∧Upd M h h') (fun i=>l.length-i) 0 ⟨rfl,aR _,by simpa[jy]using ho,Upd.refl _ _⟩ ?_
 rintro I i ⟨so,ti⟩ h' ⟨e1,hi,ho',hu⟩ hI;simp only at e1 ho';subst e1;refine aE (fun hlt=>?_) fun hge=>?_
 ·have hlt:i<l.length:=by have:(i:Int)<(sp.len:Int):=hlt;omega
  obtain⟨a,ha,_,hv⟩:=(hs.upd hu hMW).at (af hlt);have hfi:=hf l[i] (bI hlt);have htl:=lj (l:=l.take i) fun q hq=>hf q (List.mem_of_mem_take hq)
  rw[List.length_take,bA hi]at htl;have k1:=Upd.hnew No h' [.string (⟨#[]⟩:ByteArray),.string (⟨#[]⟩:ByteArray)] ag;have b1:=bZ h' [.string (⟨#[]⟩:ByteArray),.string (⟨#[]⟩:ByteArray)] ag;refine⟨by simp only;omega,a,ha,l[i].1,hv 0 _ rfl,l[i].2,hv 1 _ rfl,bj ?_⟩;simp only[cM h'];generalize hnew h' [.string (⟨#[]⟩:ByteArray),.string (⟨#[]⟩:ByteArray)] ag=h1 at k1 b1
  have b1':h1[h'.size]? =some (.cells #[.string Oo.1,.string Oo.2] ag (0,0)):=b1;refine Ks (p:=l[i]) b1' fun h2 b2 hu2=>?_
  have hu12:Upd No h' h2:=k1.trans hu2 fun x hx=>.inr (eg hx.symm)
  have ho2:=ho'.upd hu12 fun _ _ h=>h
  refine⟨l[i].1,by rw[bP,aV b2];rfl,l[i].2,by rw[bP,aV b2];rfl,?_⟩
  have hmul:i*20004+20004≤l.length*20004:=by rw[←Nat.succ_mul];exact cg _ hlt
  refine AH (W:=No) (ho2.sl fun _ _ _ h=>h) ho2.cap l[i].1 (by omega) (by rw[ac];omega) fun s3 h3 ho3 hu3=>⟨by rw[bP,aV (hu3.get0 b2)];rfl,?_⟩
  refine AH (W:=No) (ho3.sl fun _ _ _ h=>h) ho3.cap l[i].2 (by omega) (by rw[ac,ac,ig];omega) fun s4 h4 ho4 hu4=>?_
  have hu04:Upd M h h4:=hu.tr ((hu12.tr (hu3.tr hu4)).wide);rw[cp hlt (by omega)];refine hI (i+1) _ _ ⟨rfl,hlt,?_,hu04⟩ (by omega);rw[zN hlt,zO,←aq,←aq];exact ho4.more fun b hb=>hM b (bh (hu.tr ((hu12.tr hu3).wide)).size hb)
 ·have hil:i=l.length:=by have:¬(i:Int)<(sp.len:Int):=hge;omega
  rw[bw (by omega)]at ho';exact hk _ _ ho' hu
end Go.Proofs
namespace Go.Proofs
open Go Go.Lift
def iy(q:Nat→Bool):Nat→Nat
 |0=>0
 |n+1=>iy q n+(if q n then 2^n else 0)
theorem ly(q:Nat→Bool):∀n,iy q n<2^n
 |0=>by simp[iy]
 |n+1=>by
  have:=ly q n;unfold iy;rw[l6];split<;>omega
theorem zh(q:Nat→Bool)(c:Nat):∀n,(iy q n).testBit c=(decide (c<n)&&q c)
 |0=>by simp[iy]
 |n+1=>by
  have hlt:=ly q n;have ih:=zh q c n;unfold iy;by_cases hq:q n=true
  ·rw[if_pos hq,Nat.add_comm]
   rcases Nat.lt_trichotomy c n with h|h|h
   ·rw[Nat.testBit_two_pow_add_gt h,ih,decide_eq_true h,decide_eq_true (by omega)]
   ·subst h
    rw[Nat.testBit_two_pow_add_eq,hH hlt,decide_eq_true (by omega),hq];rfl
   ·have h1:2^n+iy q n<2^c:=bB (by rw[l6];omega:2^n+iy q n<2^(n+1)) (fL (by omega) h)
    rw[hH h1,decide_eq_false (by omega)];rfl
  ·rw[if_neg hq,cU,ih]
   by_cases h:c<n
   ·rw[decide_eq_true h,decide_eq_true (by omega)]
   ·by_cases e:c=n
    ·subst e;have:q c=false:=by simpa using hq
     rw[this];simp
    ·rw[decide_eq_false h,decide_eq_false (by omega)]
theorem En{d:Nat}{q:Nat→Bool}(hd:d<4294967296)(h:∀c,c<32→d.testBit c=q c):d=iy q 32:=by
 refine Nat.eq_of_testBit_eq fun c=>?_
 rw[zh];by_cases hc:c<32
 ·rw[h c hc,decide_eq_true hc];rfl
 ·rw[decide_eq_false hc,hH (bB hd (fL (n:=2) (by omega) (show 32≤c by omega)))];rfl
end Go.Proofs
namespace Go.Proofs
open Go Go.Lift
def gd(l:List Pr):Option Pr:=match l with| [p]=>some p|_=>none
def el(l:List Pr):Option (List Pr):=if 2≤l.length then some l else none
def fZ(x:Hs)(lev:Nat)(l:List Pr):List Pr:=fm (fun c=>gd (part x lev c l)) 32
def g6(x:Hs)(lev:Nat)(l:List Pr):List (List Pr):=fm (fun c=>el (part x lev c l)) 32
def eO(x:Hs):Nat→List Pr→List UInt8
 |0,l=>1::(lm l.length 2++jy l)
 |m+1,l=>0::(lm (iy (fun c=>(gd (part x (12-m) c l)).isSome) 32) 4++(lm (iy (fun c=>(el (part x (12-m) c l)).isSome) 32) 4++(jy (fZ x (12-m) l)++(g6 x (12-m) l).flatMap (eO x m))))
theorem Bj{W:Nat→Prop}{x:Hs}{h:ad}{m:Nat}{s:Slots}{c:Nat}{l:List Pr}(t:SlotIs W x h m s c l):s.p c=gd l∧(s.k c).isSome=(el l).isSome:=by
 rcases t with⟨rfl,h1,h2⟩|⟨p,rfl,h1,h2⟩|⟨h0,h1,kb,h2,_⟩
 ·rw[h1,h2];exact⟨rfl,rfl⟩
 ·rw[h1,h2];exact⟨rfl,rfl⟩
 ·rw[h1,h2]
  refine⟨?_,by simp[el,h0]⟩
  match l,h0 with
  |a::b::l,_=>rfl
def KidsAt(W:Nat→Prop)(x:Hs)(h:ad)(m:Nat):List (Option Addr)→List (List Pr)→Prop
 | [],[]=>True
 |k::ks,l::ls=>(∃kb,k=some ⟨kb,0,none⟩∧TrieAt W x h m kb l)∧KidsAt W x h m ks ls
 |_,_=>False
theorem KidsAt.app{W:Nat→Prop}{x:Hs}{h:ad}{m:Nat}:∀{ks ks':List (Option Addr)} {ls ls':List (List Pr)},KidsAt W x h m ks ls→KidsAt W x h m ks' ls'→KidsAt W x h m (ks++ks') (ls++ls')
 | [],_,[],_,_,q=>q
 |_::_,_,_::_,_,q,q'=>⟨q.1,KidsAt.app q.2 q'⟩
 | [],_,_::_,_,q,_=>q.elim
 |_::_,_,[],_,q,_=>q.elim
theorem gb{β:Type}(g:Nat→Option β)(n:Nat):fm g (n+1)=fm g n++(g n).toList:=by
 unfold fm;rw[iV,List.filterMap_append];cases h:g n<;>simp[h]
theorem E5{W:Nat→Prop}{x:Hs}{h:ad}{m lev:Nat}{s:Slots}{l:List Pr}:∀n,(∀c,c<n→SlotIs W x h m s c (part x lev c l))→KidsAt W x h m (fm s.k n) (fm (fun c=>el (part x lev c l)) n)
 |0,_=>trivial
 |n+1,hs=>by
  rw[gb,gb];refine KidsAt.app (E5 n fun c hc=>hs c (by omega)) ?_
  rcases hs n (by omega)with⟨h0,_,h2⟩|⟨p,h0,_,h2⟩|⟨h0,_,kb,h2,h3⟩
  ·rw[h2,h0];exact trivial
  ·rw[h2,h0];exact trivial
  ·rw[h2]
   have:el (part x lev n l)=some (part x lev n l):=by unfold el;rw[if_pos h0]
   simp only[this];exact⟨⟨kb,rfl,h3⟩,trivial⟩
theorem AJ{W:Nat→Prop}{x:Hs}{h:ad}{m lev:Nat}{s:Slots}{l:List Pr}(hs:∀c,c<32→SlotIs W x h m s c (part x lev c l)):fm s.p 32=fZ x lev l:=
 Q2 _ fun c hc=>(Bj (hs c (List.mem_range.1 hc))).1
end Go.Proofs
namespace Go.Proofs
open Go Go.Lift
theorem rV(x:Hs)(lev:Nat)(l:List Pr):∀n,(((fF n).map fun c=>(part x lev c l).length).sum)=(l.filter fun p=>decide (ck x lev p.1<n)).length
 |0=>by
  have:(l.filter fun p=>decide (ck x lev p.1<0))= []:=nZ.2 fun p _=>by simp
  rw[this];rfl
 |n+1=>by
  rw[iV,cd,g4,rV x lev l n];simp only[co,j1,jl,tI,cU];unfold part;clear rV;induction l with
  |nil=>rfl
  |cons p l ih=>
   simp only[cG,decide_eq_true_iff];split<;>split<;>split<;>first|omega|(simp only[ax];omega)
theorem rS(x:Hs)(lev:Nat)(l:List Pr):(fZ x lev l).length+(g6 x lev l).flatten.length≤l.length:=by
 have h:=rV x lev l 32;have hle:(l.filter fun p=>decide (ck x lev p.1<32)).length≤l.length:=gj ..
 have:∀n,(fm (fun c=>gd (part x lev c l)) n).length+(fm (fun c=>el (part x lev c l)) n).flatten.length≤((fF n).map fun c=>(part x lev c l).length).sum:=by
  intro n;induction n with
  |zero=>simp[fm]
  |succ n ih=>
   rw[gb,gb,iV,cd,g4];simp only[ac,List.flatten_append,co,j1,jl,tI,cU];generalize part x lev n l=q;have:(gd q).toList.length+(el q).toList.flatten.length≤q.length:=by
    match q with
    | []=>simp[gd,el]
    | [a]=>simp[gd,el]
    |a::b::q=>simp[gd,el]
   omega
 have:=this 32;unfold fZ g6;omega
end Go.Proofs
namespace Go.Proofs
open Go Go.Lift
theorem qd{x:Hs}{lev:Nat}{l:List Pr}{p:Pr}(h:p∈fZ x lev l):p∈l:=by
 unfold fZ fm at h;obtain⟨c,_,hc⟩:=m6.1 h;unfold gd at hc;split at hc
 ·rename_i q hq
  cases hc;have:p∈part x lev c l:=by rw[hq];exact aB.2 rfl
  exact(ll.1 this).1
 ·cases hc
theorem lK{x:Hs}{lev:Nat}{l L:List Pr}(h:L∈g6 x lev l):2≤L.length∧∃c,L=part x lev c l:=by
 unfold g6 fm at h;obtain⟨c,_,hc⟩:=m6.1 h;unfold el at hc;split at hc
 ·cases hc;exact⟨by assumption,c,rfl⟩
 ·cases hc
theorem Fit.part{x:Hs}{lev c:Nat}{l:List Pr}(h:Fit l):Fit (part x lev c l):=fun p hp=>h p (ll.1 hp).1
theorem AI{B:Nat}{f:List Pr→List UInt8}:∀{ls:List (List Pr)},(∀L∈ls,2≤L.length∧(f L).length≤9+L.length*B)→(ls.flatMap f).length≤ls.flatten.length*(B+9)
 | [],_=>by simp
 |L::ls,h=>by
  have h1:=h L (ar ..);have h2:=AI (ls:=ls) fun M hM=>h M (aL _ hM)
  rw[aO,ac,List.flatten_cons,ac,ie];have:L.length*(B+9)=L.length*B+L.length*9:=Nat.mul_add ..;omega
theorem kZ{x:Hs}:∀(m:Nat) {l:List Pr},Fit l→(eO x m l).length≤9+l.length*(20004+9*(m+1))
 |0,l,h=>by
  have:=lj h;unfold eO;rw[ax,ac,dh];have:l.length*20004≤l.length*(20004+9*(0+1)):=jt _ (by omega);omega
 |m+1,l,h=>by
  have h1:=lj (l:=fZ x (12-m) l) fun p hp=>h p (qd hp)
  have h2:=AI (f:=eO x m) (ls:=g6 x (12-m) l) (B:=20004+9*(m+1)) fun L hL=>by
   obtain⟨h3,c,rfl⟩:=lK hL;exact⟨h3,kZ m h.part⟩
  have h4:=rS x (12-m) l;unfold eO;rw[ax,ac,ac,ac,dh,dh];have h5:(fZ x (12-m) l).length*20004≤(fZ x (12-m) l).length*(20004+9*(m+1+1)):=jt _ (by omega);have h6:((fZ x (12-m) l).length+(g6 x (12-m) l).flatten.length)*(20004+9*(m+1+1))≤l.length*(20004+9*(m+1+1)):=cg _ h4;rw[ie]at h6
  have h7:20004+9*(m+1)+9=20004+9*(m+1+1):=by omega
  rw[h7]at h2;omega
end Go.Proofs
