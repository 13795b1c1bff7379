/- A part of the proof that the named laws of this program answer true, whatever the input. -/
import Derived.Test.YtncppacbfagpgaaGreatDoorPart1
open BitVec renaming ofInt→ap
open Bool renaming eq_iff_iff→gp
open Int renaming toNat_natCast→aR
open List renaming getElem?_eq_getElem→ai,getElem_mem→bE,pairwise_cons→aO,any_cons→om,mem_cons→ay,mem_cons_self→au,mem_cons_of_mem→aM,pairwise_singleton→dE,filter_cons→de,mem_filter→eh,filter_eq_nil_iff→ni,mem_singleton→aC,any_eq_true→bW,length_filter_le→gY,length_cons→aq,flatMap_cons→aQ,map_cons→dI,length_singleton→aD,range→fz,range_succ→hH,map_append→cz,length_append→ac,append_assoc→al,flatMap_append→bL,take_of_length_le→aU,sum_append→ma,sum_cons→ol
open List.Pairwise renaming nil→fA
open Nat renaming le_of_eq→dX,zero_add→aF,le_refl→ao,lt_irrefl→jM,mod_lt→su,min_eq_left→bC,lt_of_lt_of_le→aL,zero_le→bi,le_trans→bN,mul_le_mul_right→dM,testBit_lt_two_pow→fx,pow_le_pow_right→iu,add_zero→eC,add_mul→kO,mul_le_mul_left→lF
open UInt8 renaming ofNat→fG
namespace Go.Proofs
open Go.Lift
theorem EN{h:ae}{b d n:Nat}{sp sk:SliceV}{bu:Bool}{ow:Option Addr}(hb:h[b]? =some (.cells (fc d n sp sk bu ow) bh (0,0))) {K:Int→ae→Prop} (hk:K (d:Int) h):HC PG iV [.pointer (some ⟨b,0,none⟩)] [.c (.int .u32)] K h:=by
 refine yE _ ?_;unfold rG af;exact ak.2 ⟨_,rfl,_,dR (i:=0) hb,hk⟩
theorem wq{h:ae}{b d n:Nat}{sp sk:SliceV}{bu:Bool}{ow:Option Addr}(hb:h[b]? =some (.cells (fc d n sp sk bu ow) bh (0,0))) {K:Int→ae→Prop} (hk:K (n:Int) h):HC PG fq [.pointer (some ⟨b,0,none⟩)] [.c (.int .u32)] K h:=by
 refine xa _ ?_;unfold qB af;exact ak.2 ⟨_,rfl,_,dR (i:=1) hb,hk⟩
theorem gA{h:ae}{b d n:Nat}{sp sk:SliceV}{bu:Bool}{ow:Option Addr}(hb:h[b]? =some (.cells (fc d n sp sk bu ow) bh (0,0))) {K:Bool→ae→Prop} (hk:K bu h):HC PG dL [.pointer (some ⟨b,0,none⟩)] [.c .bool] K h:=by
 refine tD _ ?_;unfold oG af;exact ax.2 ⟨_,rfl,_,dR (i:=4) hb,hk⟩
def LD(o:Option Pr):Pr:=o.getD (⟨#[]⟩,⟨#[]⟩)
theorem zi{h:ae}{b:Nat}{q p:Pr}(hb:h[b]? =some (.cells #[.string q.1,.string q.2] aj (0,0))) {k:ae→Prop}
  (hk:∀h',h'[b]? =some (.cells #[.string p.1,.string p.2] aj (0,0))→Upd (· =b) h h'→k h'):fV h (some ⟨b,0,none⟩) 0 [.string p.1,.string p.2]∧At (bP h ⟨b,0,none⟩ 0 [.string p.1,.string p.2]) k:=by
 have e:=g9 [.string p.1,.string p.2] h 0 0 [.string q.1,.string q.2] hb (by simp);refine⟨.inr ⟨_,rfl,fun j hj=>by rw[bQ];exact gN hb (by simp at hj⊢;omega)⟩,aX ?_⟩
 rw[e];refine hk _ ?_ (Upd.set h _ rfl);rw[ia hb];rfl
theorem A9{W:Nat→Prop}{h:ae}{b:Nat}{s:Slots}(nd:NodeAt W h b s){i:Nat}(hi:i<32){K:Pr×Bool→ae→Prop}(hk:∀h',Upd No h h'→K (LD (s.p i),(s.p i).isSome) h'):
  HC PG iS [.pointer (some ⟨b,0,none⟩),.int .i64 i] [.agg [.str,.str],.c .bool] K h:=by
 refine yB _ i ?_;unfold rD af cQ;obtain⟨d,n,sp,sk,ow,hb,bits,hsp,hsk,hcp,hck⟩:=nd.ex;have k1:=Upd.hnew No h [.string (⟨#[]⟩:ByteArray),.string (⟨#[]⟩:ByteArray)] aj;have b1:=bK h [.string (⟨#[]⟩:ByteArray),.string (⟨#[]⟩:ByteArray)] aj;refine aX ?_;simp only[cq h];generalize hnew h [.string (⟨#[]⟩:ByteArray),.string (⟨#[]⟩:ByteArray)] aj=h1 at k1 b1
 have hb1:=k1.get0 hb;have b1':h1[h.size]? =some (.cells #[.string GW.1,.string GW.2] aj (0,0)):=b1;refine EN hb1 (yg bits.d32 hi ?_);rw[bits.dp i hi];cases hp:s.p i with
 |none=>
  rw[hp]at hk;refine ax.2 (zi (p:=GW) b1' fun h2 b2 hu2=>⟨_,by rw[bQ,aS b2];rfl,_,by rw[bQ,aS b2];rfl,hk _ (k1.trans hu2 fun x hx=>.inr (dX hx.symm))⟩)
 |some y=>
  rw[hp]at hk;refine ak.2 ⟨_,rfl,sp,dR (i:=2) hb1,_,rfl,_,dR (i:=0) hb1,nV bits.d32 hi ⟨dR (i:=2) hb1,?_⟩⟩;have hlt:=DS hi bits.dp hp;have hsp1:=hsp.upd k1 fun _ h=>h.elim
  obtain⟨a,ha,_,hv⟩:=hsp1.at (LJ hi bits.dp hp);have hlen:=hsp.len;refine⟨by omega,a,ha,y.1,hv 0 _ rfl,y.2,hv 1 _ rfl,?_⟩;refine zi (p:=y) b1' fun h2 b2 hu2=>⟨_,by rw[bQ,aS b2];rfl,_,by rw[bQ,aS b2];rfl,hk _ (k1.trans hu2 fun x hx=>.inr (dX hx.symm))⟩
theorem EB{W:Nat→Prop}{h:ae}{b:Nat}{s:Slots}(nd:NodeAt W h b s){i:Nat}(hi:i<32){K:Option Addr×Bool→ae→Prop}(hk:K ((s.k i).getD none,(s.k i).isSome) h):
  HC PG hE [.pointer (some ⟨b,0,none⟩),.int .i64 i] [.c .ptr,.c .bool] K h:=by
 refine zQ _ i ?_;unfold sK af cQ;obtain⟨d,n,sp,sk,ow,hb,bits,hsp,hsk,hcp,hck⟩:=nd.ex;refine wq hb (yg bits.n32 hi ?_);rw[bits.nk i hi];cases hp:s.k i with
 |none=>rw[hp]at hk;exact ax.2 hk
 |some y=>
  rw[hp]at hk;refine ak.2 ⟨_,rfl,sk,dR (i:=3) hb,_,rfl,_,dR (i:=1) hb,nV bits.n32 hi ⟨dR (i:=3) hb,?_⟩⟩;have hlt:=DS hi bits.nk hp;obtain⟨a,ha,_,hv⟩:=hsk.at (LJ hi bits.nk hp);have hlen:=hsk.len;exact⟨by omega,a,ha,y,hv 0 _ rfl,hk⟩
theorem re{W:Nat→Prop}{h:ae}{b d n:Nat}{sp sk:SliceV}{bu:Bool}{ow:Option Addr}{l:List Pr}(hb:h[b]? =some (.cells (fc d n sp sk bu ow) bh (0,0))) (hs:Sl eG 2 W h sp l) (hn:l.length≤1000000000) {K:SliceV→ae→Prop}
  (hk:∀s' h',OwnS eG 2 aj (fun x=>h.size≤x) h' s' l→Upd No h h'→K s' h'):HC PG fp [.pointer (some ⟨b,0,none⟩)] [.c .slice] K h:=by
 refine w8 _ ?_;unfold qz af;exact ak.2 ⟨_,rfl,sp,dR (i:=2) hb,rp hs (by omega) hk⟩
theorem MO{W:Nat→Prop}{h:ae}{b d n:Nat}{sp sk:SliceV}{bu:Bool}{ow:Option Addr}{l:List (Option Addr)}(hb:h[b]? =some (.cells (fc d n sp sk bu ow) bh (0,0))) (hs:Sl pf 1 W h sk l) (hn:l.length≤1000000000) {K:SliceV→ae→Prop}
  (hk:∀s' h',OwnS pf 1 bw (fun x=>h.size≤x) h' s' l→Upd No h h'→K s' h'):HC PG nG [.pointer (some ⟨b,0,none⟩)] [.c .slice] K h:=by
 refine yC _ ?_;unfold rE af;exact ak.2 ⟨_,rfl,sk,dR (i:=3) hb,yl hs (by omega) hk⟩
structure BuckAt(W:Nat→Prop)(h:ae)(b:Nat)(l:List Pr):Prop where
 ex:∃sp sk ow,h[b]? =some (.cells (fc 0 0 sp sk true ow) bh (0,0))∧Sl eG 2 W h sp l∧Sl pf 1 W h sk []∧sp.len≤sp.cap∧sk.len≤sk.cap
 nw:¬W b
theorem BuckAt.upd{W M:Nat→Prop}{h h':ae}{b:Nat}{l:List Pr}(n:BuckAt W h b l)(k:Upd M h h')(hm:∀b,M b→W b∨h.size≤b):BuckAt W h' b l:=by
 obtain⟨sp,sk,ow,h1,h3,h4,h5,h6⟩:=n.ex;exact⟨⟨sp,sk,ow,k.get h1 (fun hb=>(hm _ hb).elim n.nw fun h=>by have:=bD h1;omega),h3.upd k hm,h4.upd k hm,h5,h6⟩,n.nw⟩
theorem NJ{W:Nat→Prop}{h:ae}{b:Nat}{l:List Pr}(bk:BuckAt W h b l)(hr:cW l)(hn:l.length≤1000000000)(k:ByteArray){K:ByteArray×Bool→ae→Prop}
  (hk:∀h' v,Upd No h h'→(cl l k=true→(k,v)∈l)→(cl l k=false→v=⟨#[]⟩)→K (v,cl l k) h'):HC PG py [.pointer (some ⟨b,0,none⟩),.string k] [.c .str,.c .bool] K h:=by
 refine Iy _ k ?_;unfold B4 af cQ;obtain⟨sp,sk,ow,hb,hsp,hsk,hc1,hc2⟩:=bk.ex;refine re hb hsp hn fun s1 h1 ho1 hu1=>?_
 have hs1:Sl eG 2 No h1 s1 l:=ho1.sl fun _ _ _ h=>h
 refine EJ hs1 hr hn k fun h2 hu2=>?_
 cases ht:cl l k with
 |false=>rw[ht]at hk;exact ax.2 (hk _ _ (hu1.tr hu2) (fun h=>by cases h) fun _=>rfl)
 |true=>
  rw[ht]at hk;obtain⟨hlt,e⟩:=Et hr ht;obtain⟨a,ha,_,hv⟩:=(hs1.upd hu2 fun _ h=>h.elim).at (ai hlt)
  have hlen:=hs1.len;refine ak.2 ⟨by simp only;omega,a,ha,_,hv 1 _ rfl,hk _ _ (hu1.tr hu2) (fun _=>?_) fun h=>by cases h⟩
  have:(k,l[md l k].2)=l[md l k]:=Prod.ext e.symm rfl;rw[this];exact bE hlt
theorem Nj{W:Nat→Prop}{h:ae}{b:Nat}{l:List Pr}(bk:BuckAt W h b l)(hr:cW l)(hn:l.length≤1000000000)(k:ByteArray){K:ByteArray×Bool→ae→Prop}
 (hk:∀h' v,Upd No h h'→(cl l k=true→(k,v)∈l)→K (v,cl l k) h'):HC PG py [.pointer (some ⟨b,0,none⟩),.string k] [.c .str,.c .bool] K h:=NJ bk hr hn k fun h' v h1 h2 _=>hk h' v h1 h2
end Go.Proofs
namespace Go.Proofs
open Go.Lift
set_option maxRecDepth 4000 in
theorem I9{W:Nat→Prop}{h:ae}{b:Nat}{l:List Pr}(nd:BuckAt W h b l)(hn:l.length≤1000000000){K:Option Addr→ae→Prop}
  (hk:∀h' sp sk,h'[h.size]? =some (.cells (fc 0 0 sp sk true none) bh (0,0))→OwnS eG 2 aj (fun x=>h.size<x∧x<h'.size) h' sp l→OwnS pf 1 bw (fun x=>h.size<x∧x<h'.size) h' sk []→Upd No h h'→K (some ⟨h.size,0,none⟩) h'):
  HC PG fD [.pointer (some ⟨b,0,none⟩),.pointer none] [.c .ptr] K h:=by
 obtain⟨sp,sk,ow,hb,hsp,hsk,hcp,hck⟩:=nd.ex;refine sE _ none ?_;unfold oS af;refine DC (ak.2 ?_);have c:∀{h:ae} {b:Nat} {c:Array Value} {i:Nat},h[b]? =some (.cells c bh (0,0))→aE h ⟨b,0+i,none⟩=c[i]?:=fun hb=>by rw[aF];exact aS hb
 refine⟨_,rfl,_,c (i:=0) hb,_,c (i:=1) hb,sp,c (i:=2) hb,sk,c (i:=3) hb,_,c (i:=4) hb,_,c (i:=5) hb,?_⟩;have k1:=Upd.hnew No h [.int .u32 0,.int .u32 0,.slice none 0 0,.slice none 0 0,.bool false,.pointer none] bh;have b1:=bK h [.int .u32 0,.int .u32 0,.slice none 0 0,.slice none 0 0,.bool false,.pointer none] bh;refine aX ?_;simp only[cq h];generalize hnew h [.int .u32 0,.int .u32 0,.slice none 0 0,.slice none 0 0,.bool false,.pointer none] bh=h1 at k1 b1
 have hs1:bP h1 ⟨h.size,0,none⟩ 0 [.int .u32 ((0:Nat):Int),.int .u32 ((0:Nat):Int),.slice sp.a sp.len sp.cap,.slice sk.a sk.len sk.cap,.bool true,.pointer ow]=_:=g9 _ h1 0 0 _ b1 (by simp);refine⟨.inr ⟨_,rfl,fun j hj=>by rw[bQ];exact gN b1 (by simp at hj⊢;omega)⟩,aX ?_⟩
 rw[hs1];have b2:=ia (o:=.cells (fc 0 0 sp sk true ow) bh (0,0)) b1;have k2:Upd No h _:=k1.trans (M':=(· =h.size)) (Upd.set h1 (.cells (fc 0 0 sp sk true ow) bh (0,0)) rfl) fun x hx=>.inr (dX hx.symm)
 have hz2:h.size<(h1.setIfInBounds h.size (.cells (fc 0 0 sp sk true ow) bh (0,0))).size:=bD b2;have hbb:h.size≠b:=fun e=>by have:=bD hb;omega
 have e2:(Obj.cells (List.take (0+0) [Value.int .u32 0,.int .u32 0,.slice none 0 0,.slice none 0 0,.bool false,.pointer none]++ [Value.int .u32 ((0:Nat):Int),.int .u32 ((0:Nat):Int),.slice sp.a sp.len sp.cap,.slice sk.a sk.len sk.cap,.bool true,.pointer ow]++List.drop (0+0+ [Value.int .u32 ((0:Nat):Int),.int .u32 ((0:Nat):Int),.slice sp.a sp.len sp.cap,.slice sk.a sk.len sk.cap,.bool true,.pointer ow].length) [Value.int .u32 0,.int .u32 0,.slice none 0 0,.slice none 0 0,.bool false,.pointer none]).toArray bh (0,0))=.cells (fc 0 0 sp sk true ow) bh (0,0):=rfl
 rw[e2];generalize h1.setIfInBounds h.size (.cells (fc 0 0 sp sk true ow) bh (0,0))=h2 at b2 k2 hz2;have hb2:=k2.get0 hb;refine⟨_,rfl,sp,c (i:=2) hb2,_,rfl,sk,c (i:=3) hb2,?_⟩;refine rp (hsp.upd k2 fun _ h=>h.elim) (by omega) fun s3 h3 ho3 hu3=>?_
 refine⟨c (i:=3) (hu3.get0 hb2),?_⟩;refine yl ((hsk.upd k2 fun _ h=>h.elim).upd hu3 fun _ h=>h.elim) (by simp) fun s4 h4 ho4 hu4=>?_
 have b4:=hu4.get0 (hu3.get0 b2);have ho3':=ho3.within.upd hu4 fun _ _ h=>h
 have ho4':=ho4.within;have z3:=hu3.size;have z4:=hu4.size;have w:∀{h:ae} {c:Array Value} {x i:Nat},h[x]? =some (.cells c bh (0,0))→i<c.size→Wr h ⟨x,0+i,none⟩:=fun hb hi=>by rw[aF];exact gN hb hi
 have st:∀{h:ae} {c c':Array Value} {x i:Nat} {v:Value} {k:ae→Prop},h[x]? =some (.cells c bh (0,0))→c.setIfInBounds i v=c'→(∀h',h'[x]? =some (.cells c' bh (0,0))→Upd (· =x) h h'→k h')→At (hset h ⟨x,i,none⟩ v) k:=fun hb e hk=>sh hb fun h' hb' hu=>hk h' (e▸hb') hu
 refine⟨w (i:=2) b4 (show 2<6 by decide),st (i:=2) (c':=fc 0 0 s3 sk true ow) b4 rfl fun h5 b5 hu5=>?_⟩
 refine⟨w (i:=3) b5 (show 3<6 by decide),st (i:=3) (c':=fc 0 0 s3 s4 true ow) b5 rfl fun h6 b6 hu6=>?_⟩
 refine⟨w (i:=5) b6 (show 5<6 by decide),st (i:=5) (c':=fc 0 0 s3 s4 true none) b6 rfl fun h7 b7 hu7=>?_⟩
 refine sZ (ak.2 ?_);have hu47:=hu5.tr (hu6.tr hu7);have z7:=hu47.size;refine hk _ s3 s4 b7 ((ho3'.upd hu47 fun x hx e=>?_).more fun x hx=>?_) ((ho4'.upd hu47 fun x hx e=>?_).more fun x hx=>?_) ?_
 ·have e:x=h.size:=e;omega
 ·omega
 ·have e:x=h.size:=e;omega
 ·omega
 ·exact((k2.tr hu3).tr hu4).trans hu47 fun x hx=>.inr (dX hx.symm)
theorem Ar{W:Nat→Prop}{h:ae}{b:Nat}{l:List Pr}(bk:BuckAt W h b l)(hW:∀x,W x→x<h.size)(hr:cW l)(hn:l.length≤1000000000)(p:Pr){K:Option Addr→ae→Prop}
  (hk:∀h' b',BuckAt W h' b' (Cu l p)→Upd No h h'→K (some ⟨b',0,none⟩) h'):
  HC PG gk [.pointer (some ⟨b,0,none⟩),.pointer none,.agg #[.string p.1,.string p.2]] [.c .ptr] K h:=by
 refine zP _ none p ?_;unfold sJ af;have k1:=Upd.hnew No h [.string p.1,.string p.2] aj;have b1:=bK h [.string p.1,.string p.2] aj;refine aX ?_;simp only[cq h];generalize hnew h [.string p.1,.string p.2] aj=h1 at k1 b1;have z1:=bD b1;have bk1:=bk.upd k1 fun _ h=>h.elim
 obtain⟨sp,sk,ow,hb,hsp,hsk,hcp,hck⟩:=bk1.ex;refine gA hb (ak.2 ?_);refine I9 bk1 hn fun h2 s2 t2 b2 hA hB hu2=>?_
 have b12:=hu2.get0 b1;refine⟨_,rfl,s2,dR (i:=2) b2,p.1,by rw[bQ,aS b12];rfl,p.2,by rw[bQ,aS b12];rfl,?_⟩
 refine HB (hA.sl fun _ _ _ h=>h) hA.cap hr hn p fun s3 h3 ho3 hu3=>?_
 have b3:=hu3.get0 b2;refine⟨_,rfl,Ml (i:=2) b3 (show 2<6 by decide),Cr (i:=2) (c':=fc 0 0 s3 t2 true none) b3 rfl fun h4 b4 hu4=>?_⟩
 have z2:=bD b2;have ho4:=ho3.upd hu4 fun x hx e=>by have e:x=h1.size:=e;omega
 have hB4:=(hB.upd hu3 fun _ _ h=>h).upd hu4 fun x hx e=>by have e:x=h1.size:=e;omega
 refine hk h4 h1.size ⟨⟨s3,t2,none,b4,ho4.sl fun x hx _ hw=>?_,hB4.sl fun x hx _ hw=>?_,ho3.cap,hB.cap⟩,fun hw=>?_⟩ (((k1.tr hu2).tr hu3).trans hu4 fun x hx=>.inr ?_)
 ·have:=hW x hw;have:=hu2.size;omega
 ·have:=hW x hw;omega
 ·have:=hW _ hw;omega
 ·have hx:x=h1.size:=hx
  omega
theorem D1{W:Nat→Prop}{h:ae}(hW:∀x,W x→x<h.size){K:Option Addr→ae→Prop}(hk:∀h' b',BuckAt W h' b' []→Upd No h h'→K (some ⟨b',0,none⟩) h'):HC PG od [] [.c .ptr] K h:=by
 refine CL ?_;unfold uT;exact hk _ _ ⟨⟨⟨none,0,0⟩,⟨none,0,0⟩,none,bK h _ _,Sl.nil jo,Sl.nil pu,ao _,ao _⟩,fun hx=>jM _ (hW _ hx)⟩ (Upd.hnew No h _ _)
theorem mI{W:Nat→Prop}{h:ae}(hW:∀x,W x→x<h.size){K:Option Addr→ae→Prop}(hk:∀h' b',NodeAt W h' b' ⟨fun _=>none,fun _=>none⟩→Upd No h h'→K (some ⟨b',0,none⟩) h'):HC PG kX [] [.c .ptr] K h:=by
 refine E8 ?_;unfold xr;have e1:fm (fun _=>(none:Option Pr)) 32= []:=by simp[fm]
 have e2:fm (fun _=>(none:Option (Option Addr))) 32= []:=by simp[fm]
 refine hk _ _ ⟨⟨0,0,⟨none,0,0⟩,⟨none,0,0⟩,none,bK h _ _,⟨by decide,by decide,fun c _=>by simp,fun c _=>by simp⟩,?_,?_,ao _,ao _⟩,fun hx=>jM _ (hW _ hx)⟩ (Upd.hnew No h _ _)
 ·show Sl eG 2 W _ _ (fm (fun _=>none) 32)
  rw[e1];exact Sl.nil jo
 ·show Sl pf 1 W _ _ (fm (fun _=>none) 32)
  rw[e2];exact Sl.nil pu
end Go.Proofs
namespace Go.Proofs
open Go.Lift
def g6(p:Pr):List Pr→List Pr
 | []=> [p]
 |q::l=>if kl q.1 p.1 then q::g6 p l else if q.1=p.1 then p::l else p::q::l
theorem gH(p q:Pr)(l:List Pr):g6 p (q::l)=if kl q.1 p.1 then q::g6 p l else if q.1=p.1 then p::l else p::q::l:=rfl
theorem wy(p:Pr):∀{l:List Pr},cW l→Cu l p=g6 p l
 | [],_=>by simp[Cu,g6,md,cl]
 |q::l,hr=>by
  have hr:=aO.1 hr;unfold g6;have hpos:md (q::l) p.1=if kl q.1 p.1 then md l p.1+1 else 0:=by
   unfold md;rw[List.takeWhile_cons];by_cases h:kl q.1 p.1
   ·rw[if_pos (by simpa using h),if_pos h];rfl
   ·rw[if_neg (by simpa using h),if_neg h];rfl
  have hth:cl (q::l) p.1=(decide (q.1=p.1)||cl l p.1):=by unfold cl;rw[om]
  by_cases h:kl q.1 p.1
  ·have hne:q.1≠p.1:=fun e=>by rw[e]at h;exact cI _ h
   rw[if_pos h,←wy p hr.2];unfold Cu;rw[hth,hpos,if_pos h,decide_eq_false hne,Bool.false_or];by_cases ht:cl l p.1=true
   ·rw[if_pos ht,if_pos ht];rfl
   ·rw[if_neg ht,if_neg ht];rfl
  ·rw[if_neg h]
   unfold Cu;rw[hth,hpos,if_neg h];by_cases e:q.1=p.1
   ·rw[if_pos e,decide_eq_true e,Bool.true_or,if_pos rfl];rfl
   ·have hgt:=rW h e
    have ht:cl l p.1=false:=by
     unfold cl;rw[List.any_eq_false];intro r hr' e2;have e2:=of_decide_eq_true e2;have:=hr.1 r hr';rw[e2]at this;exact cI _ (jD hgt this)
    rw[if_neg e,decide_eq_false e,ht];rfl
theorem ws{p q:Pr}:∀{l:List Pr},q∈g6 p l→q=p∨q∈l
 | [],h=>by simp[g6]at h;exact .inl h
 |r::l,h=>by
  unfold g6 at h;split at h
  ·rcases ay.1 h with h|h
   ·exact .inr (h▸au ..)
   ·exact(ws h).imp id fun h=>aM _ h
  ·split at h
   ·rcases ay.1 h with h|h
    ·exact .inl h
    ·exact .inr (aM _ h)
   ·rcases ay.1 h with h|h
    ·exact .inl h
    ·exact .inr h
theorem x8(p:Pr):∀{l:List Pr},cW l→cW (g6 p l)
 | [],_=>dE ..
 |q::l,hr=>by
  have hr':=hr;have hr:=aO.1 hr;unfold g6;split
  ·rename_i h
   refine aO.2 ⟨fun r hm=>?_,x8 p hr.2⟩
   rcases ws hm with rfl|hm
   ·exact h
   ·exact hr.1 r hm
  ·rename_i h
   split
   ·rename_i e
    exact aO.2 ⟨fun r hm=>e▸hr.1 r hm,hr.2⟩
   ·rename_i e
    have hgt:=rW h e;refine aO.2 ⟨fun r hm=>?_,hr'⟩
    rcases ay.1 hm with rfl|hm
    ·exact hgt
    ·exact jD hgt (hr.1 r hm)
theorem Bp(p:Pr)(g:ByteArray→Bool):∀{l:List Pr},cW l→(g6 p l).filter (fun q=>g q.1)=if g p.1 then g6 p (l.filter fun q=>g q.1)else l.filter fun q=>g q.1
 | [],_=>by
  unfold g6;rw[de,List.filter_nil]
 |q::l,hr=>by
  have hr':=hr;have hr:=aO.1 hr;have ih:=Bp p g hr.2;rw[gH];by_cases h:kl q.1 p.1
  ·rw[if_pos h,de,de,ih]
   by_cases hq:g q.1=true
   ·rw[if_pos hq,if_pos hq]
    split
    ·rw[gH,if_pos h]
    ·rfl
   ·rw[if_neg hq,if_neg hq]
  ·rw[if_neg h]
   by_cases e:q.1=p.1
   ·rw[if_pos e,de,de,e]
    by_cases hp:g p.1=true
    ·rw[if_pos hp,if_pos hp,if_pos hp,gH,if_neg h,if_pos e]
    ·rw[if_neg hp,if_neg hp,if_neg hp]
   ·rw[if_neg e]
    have hgt:=rW h e;rw[de];by_cases hp:g p.1=true
    ·rw[if_pos hp,if_pos hp]
     have:∀r∈(q::l).filter (fun q=>g q.1),kl p.1 r.1:=fun r hm=>by
      rcases ay.1 (eh.1 hm).1 with rfl|hm
      ·exact hgt
      ·exact jD hgt (hr.1 r hm)
     cases hf:(q::l).filter (fun q=>g q.1)with
     |nil=>rfl
     |cons r rs=>
      have hpr:=this r (by rw[hf];exact au ..);rw[gH,if_neg fun hk=>cI _ (jD hpr hk),if_neg fun e=>by rw[e]at hpr;exact cI _ hpr]
    ·rw[if_neg hp,if_neg hp]
theorem Ak{p:Pr}:∀{l:List Pr},cW l→p∈l→g6 p l=l
 |q::l,hr,hm=>by
  have hr:=aO.1 hr;unfold g6;rcases ay.1 hm with rfl|hm
  ·rw[if_neg (cI _),if_pos rfl]
  ·rw[if_pos (hr.1 p hm),Ak hr.2 hm]
def ck(x:Hs)(lev:Nat)(k:ByteArray):Nat:=((dA x k).toNat>>>(5*lev))%32
theorem wJ(x:Hs)(lev:Nat)(k:ByteArray):ck x lev k<32:=su _ (by omega)
def part(x:Hs)(lev c:Nat)(l:List Pr):List Pr:=l.filter fun p=>decide (ck x lev p.1=c)
def TrieAt(W:Nat→Prop)(x:Hs)(h:ae):Nat→Nat→List Pr→Prop
 |0,b,l=>BuckAt W h b l
 |m+1,b,l=>∃s,NodeAt W h b s∧∀c,c<32→
  ((part x (12-m) c l= []∧s.p c=none∧s.k c=none)∨(∃p,part x (12-m) c l= [p]∧s.p c=some p∧s.k c=none)∨
   (2≤(part x (12-m) c l).length∧s.p c=none∧∃kb,s.k c=some (some ⟨kb,0,none⟩)∧TrieAt W x h m kb (part x (12-m) c l)))
theorem TrieAt.upd0{W:Nat→Prop}{x:Hs}{h h':ae}(k:Upd No h h'):∀{m b:Nat} {l:List Pr},TrieAt W x h m b l→TrieAt W x h' m b l
 |0,_,_,t=>BuckAt.upd t k fun _ h=>h.elim
 |m+1,_,_,⟨s,nd,hc⟩=>⟨s,nd.upd k fun _ h=>h.elim,fun c hc'=>(hc c hc').imp id fun o=>o.imp id fun⟨h1,h2,kb,h3,h4⟩=>⟨h1,h2,kb,h3,TrieAt.upd0 k h4⟩⟩
theorem NodeAt.less{W W':Nat→Prop}{h:ae}{b:Nat}{s:Slots}(n:NodeAt W h b s)(hm:∀b,W' b→W b∨h.size≤b):NodeAt W' h b s:=by
 obtain⟨d,m,sp,sk,ow,h1,h2,h3,h4,h5,h6⟩:=n.ex;exact⟨⟨d,m,sp,sk,ow,h1,h2,h3.less hm,h4.less hm,h5,h6⟩,fun hx=>(hm _ hx).elim n.nw fun h=>by have:=bD h1;omega⟩
theorem BuckAt.less{W W':Nat→Prop}{h:ae}{b:Nat}{l:List Pr}(n:BuckAt W h b l)(hm:∀b,W' b→W b∨h.size≤b):BuckAt W' h b l:=by
 obtain⟨sp,sk,ow,h1,h3,h4,h5,h6⟩:=n.ex;exact⟨⟨sp,sk,ow,h1,h3.less hm,h4.less hm,h5,h6⟩,fun hx=>(hm _ hx).elim n.nw fun h=>by have:=bD h1;omega⟩
theorem TrieAt.less{W W':Nat→Prop}{x:Hs}{h:ae}(hm:∀b,W' b→W b∨h.size≤b):∀{m b:Nat} {l:List Pr},TrieAt W x h m b l→TrieAt W' x h m b l
 |0,_,_,t=>BuckAt.less t hm
 |m+1,_,_,⟨s,nd,hc⟩=>⟨s,nd.less hm,fun c hc'=>(hc c hc').imp id fun o=>o.imp id fun⟨h1,h2,kb,h3,h4⟩=>⟨h1,h2,kb,h3,TrieAt.less hm h4⟩⟩
theorem TrieAt.updM{W M:Nat→Prop}{x:Hs}{h h':ae}(k:Upd M h h')(hm:∀b,M b→W b∨h.size≤b):∀{m b:Nat} {l:List Pr},TrieAt W x h m b l→TrieAt W x h' m b l
 |0,_,_,t=>BuckAt.upd t k hm
 |m+1,_,_,⟨s,nd,hc⟩=>⟨s,nd.upd k hm,fun c hc'=>(hc c hc').imp id fun o=>o.imp id fun⟨h1,h2,kb,h3,h4⟩=>⟨h1,h2,kb,h3,TrieAt.updM k hm h4⟩⟩
end Go.Proofs
namespace Go.Proofs
open Go.Lift
theorem NX(a b:Nat):(ap (IntKind.bits .u64) (a:Int)&&&ap (IntKind.bits .u64) (b:Int)).toNat=(a%18446744073709551616)&&&(b%18446744073709551616):=by
 simp[IntKind.bits,BitVec.toNat_and,BitVec.toNat_ofInt];rfl
theorem Oh{hv:Int}(h0:0≤hv∧hv<18446744073709551616){lev:Nat}(hl:lev<13){h:ae}{K:Int→ae→Prop}(hk:K (((hv.toNat>>>(5*lev))%32:Nat):Int) h):HC PG jr [.int .u64 hv,.int .i64 lev] [.c (.int .i64)] K h:=by
 refine Ix hv lev ?_;unfold B0;refine Join.plain (aA (fun h=>by omega) fun _=>?_)
 rw[decide_eq_false (by omega)];refine ak.2 ?_;have e5:IntKind.wrap .i64 (5*(lev:Int))=((5*lev:Nat):Int):=by rw[fl (by omega)];omega
 rw[e5];have em:min (((5*lev:Nat):Int)).toNat (IntKind.bits .u64)=5*lev:=by rw[aR];exact bC (by show 5*lev≤64;omega)
 rw[em];obtain⟨n,rfl⟩:=Int.eq_ofNat_of_zero_le h0.1;rw[aR]at hk;simp only[Bd];rw[kG];have hlt:n>>>(5*lev)<18446744073709551616:=Nat.lt_of_le_of_lt (Nat.shiftRight_le _ _) (by omega);have e:=NX (n>>>(5*lev)) 31;rw[Nat.mod_eq_of_lt hlt,show((31:Nat):Int)=(31:Int)from rfl,show 31%18446744073709551616=2^5-1 from rfl,Nat.and_two_pow_sub_one_eq_mod]at e
 rw[e];have hm:n>>>(5*lev)%2^5<32:=su _ (by omega);rw[Go.IntWalk.u64_in _ (by omega),fl (by omega)];exact⟨by omega,hk⟩
theorem Kw{x:Hs}{k:ByteArray}{lev:Nat}(hl:lev<13){h:ae}{K:Int→ae→Prop}(hk:K (ck x lev k:Int) h):HC PG jr [.int .u64 (dA x k),.int .i64 lev] [.c (.int .i64)] K h:=Oh (Gh x k) hl hk
abbrev KV(x:Hs)(k:ByteArray):Value:=.agg #[.int .u64 x.k0,.int .u64 x.k1,.int .u64 x.mask,.pointer none,.string k,.int .u64 (dA x k)]
theorem A6{x:Hs}{lev c:Nat}{l:List Pr}(h:∀p∈l,ck x lev p.1=c):part x lev c l=l:=List.filter_eq_self.2 fun p hp=>decide_eq_true (h p hp)
theorem rT{x:Hs}{lev c:Nat}{l:List Pr}(h:∀p∈l,ck x lev p.1≠c):part x lev c l= []:=ni.2 fun p hp=>by simpa using h p hp
theorem FX{x:Hs}{lev c:Nat}{p:Pr}{l:List Pr}(hr:cW l):part x lev c (g6 p l)=if ck x lev p.1=c then g6 p (part x lev c l)else part x lev c l:=by
 have:=Bp p (fun k=>decide (ck x lev k=c)) hr
 unfold part;rw[this];by_cases h:ck x lev p.1=c
 ·rw[if_pos h,if_pos (decide_eq_true h)]
 ·rw[if_neg h,if_neg (by simpa using h)]
theorem IS{p q:Pr}(h:p.1≠q.1):(g6 q [p]).length=2:=by
 rw[gH];by_cases hk:kl p.1 q.1
 ·rw[if_pos hk];rfl
 ·rw[if_neg hk,if_neg h];rfl
theorem Jd{p q r:Pr}(h:r∈g6 q [p]):r=p∨r=q:=(ws h).symm.imp (fun h=>aC.1 h) id
theorem ey{β:Type}{g:Nat→Option β}{i c:Nat}{x:Option β}(h:c≠i):upd g i x c=g c:=by unfold upd;rw[if_neg h]
theorem M3{W:Nat→Prop}{x:Hs}:∀(m:Nat) (p q:Pr),m≤13→p.1≠q.1→∀{h:ae},(∀y,W y→y<h.size)→∀{K:Option Addr→ae→Prop},(∀h' b',TrieAt W x h' m b' (g6 q [p])→Upd No h h'→K (some ⟨b',0,none⟩) h')→
  HC PG j7 [KV x q.1,.agg #[.string p.1,.string p.2],.agg #[.string q.1,.string q.2],.int .i64 ((13-m:Nat):Int)] [.c .ptr] K h:=by
 intro m;induction m with
 |zero=>
  intro p q _ hne h hW K hk;have gW:∀{h'},Upd No h h'→∀y,W y→y<h'.size:=fun k y hy=>aL (hW y hy) k.size
  refine qn (x.k0,x.k1,x.mask,none,q.1,dA x q.1) p q ((13-0:Nat):Int) ?_;unfold m7 af;have k1:=Upd.hnew No h [.int .u64 x.k0,.int .u64 x.k1,.int .u64 x.mask,.pointer none,.string q.1,.int .u64 (dA x q.1)] cn;have b1:=bK h [.int .u64 x.k0,.int .u64 x.k1,.int .u64 x.mask,.pointer none,.string q.1,.int .u64 (dA x q.1)] cn;refine aX ?_
  simp only[cq h];generalize hnew h [.int .u64 x.k0,.int .u64 x.k1,.int .u64 x.mask,.pointer none,.string q.1,.int .u64 (dA x q.1)] cn=h1 at k1 b1;have k2:=Upd.hnew No h1 [.string p.1,.string p.2] aj;have b2:=bK h1 [.string p.1,.string p.2] aj;refine aX ?_;simp only[cq h1];generalize hnew h1 [.string p.1,.string p.2] aj=h2 at k2 b2;have k3:=Upd.hnew No h2 [.string q.1,.string q.2] aj
  have b3:=bK h2 [.string q.1,.string q.2] aj;refine aX ?_;simp only[cq h2];generalize hnew h2 [.string q.1,.string q.2] aj=h3 at k3 b3;have w1:∀{h':ae},Upd No h3 h'→∀i,aE h' (adr ⟨h.size,0,none⟩ i)=(#[.int .u64 x.k0,.int .u64 x.k1,.int .u64 x.mask,.pointer none,.string q.1,.int .u64 (dA x q.1)]:Array Value)[i]?:=fun k i=>by
   rw[bQ,aS (k.get0 (k3.get0 (k2.get0 b1))),aF]
  have w2:∀{h':ae},Upd No h3 h'→∀i,aE h' (adr ⟨h1.size,0,none⟩ i)=(#[.string p.1,.string p.2]:Array Value)[i]?:=fun k i=>by rw[bQ,aS (k.get0 (k3.get0 b2)),aF]
  have w3:∀{h':ae},Upd No h3 h'→∀i,aE h' (adr ⟨h2.size,0,none⟩ i)=(#[.string q.1,.string q.2]:Array Value)[i]?:=fun k i=>by rw[bQ,aS (k.get0 b3),aF]
  have r:=Upd.refl No h3;refine ax.2 ⟨none,w1 r 3,p.1,w2 r 0,p.2,w2 r 1,none,w1 r 3,q.1,w3 r 0,q.2,w3 r 1,?_⟩;refine D1 (gW ((k1.tr k2).tr k3)) fun h4 b4 bk4 hu4=>⟨⟨w3 hu4 0,w3 hu4 1⟩,w1 hu4 3,⟨w2 hu4 0,w2 hu4 1⟩,w1 hu4 3,?_⟩
  refine Ar bk4 (gW (((k1.tr k2).tr k3).tr hu4)) fA (by simp) p fun h5 b5 bk5 hu5=>?_
  have hu45:=hu4.tr hu5;refine⟨⟨w3 hu45 0,w3 hu45 1⟩,w1 hu45 3,?_⟩;have e1:Cu [] p= [p]:=wy p fA;rw[e1]at bk5;refine Ar bk5 (gW (((k1.tr k2).tr k3).tr hu45)) (dE ..) (by simp) q fun h6 b6 bk6 hu6=>?_
  rw[wy q (dE ..)]at bk6;exact hk h6 b6 bk6 ((((k1.tr k2).tr k3).tr hu45).tr hu6)
 |succ m ih=>
  intro p q hm hne h hW K hk;have gW:∀{h'},Upd No h h'→∀y,W y→y<h'.size:=fun k y hy=>aL (hW y hy) k.size
  have hl:13-(m+1)<13:=by omega
  have hlev:13-(m+1)=12-m:=by omega
  refine qn (x.k0,x.k1,x.mask,none,q.1,dA x q.1) p q ((13-(m+1):Nat):Int) ?_;unfold m7 af;have k1:=Upd.hnew No h [.int .u64 x.k0,.int .u64 x.k1,.int .u64 x.mask,.pointer none,.string q.1,.int .u64 (dA x q.1)] cn;have b1:=bK h [.int .u64 x.k0,.int .u64 x.k1,.int .u64 x.mask,.pointer none,.string q.1,.int .u64 (dA x q.1)] cn;refine aX ?_
  simp only[cq h];generalize hnew h [.int .u64 x.k0,.int .u64 x.k1,.int .u64 x.mask,.pointer none,.string q.1,.int .u64 (dA x q.1)] cn=h1 at k1 b1;have k2:=Upd.hnew No h1 [.string p.1,.string p.2] aj;have b2:=bK h1 [.string p.1,.string p.2] aj;refine aX ?_;simp only[cq h1];generalize hnew h1 [.string p.1,.string p.2] aj=h2 at k2 b2;have k3:=Upd.hnew No h2 [.string q.1,.string q.2] aj
  have b3:=bK h2 [.string q.1,.string q.2] aj;refine aX ?_;simp only[cq h2];generalize hnew h2 [.string q.1,.string q.2] aj=h3 at k3 b3;have w1:∀{h':ae},Upd No h3 h'→∀i,aE h' (adr ⟨h.size,0,none⟩ i)=(#[.int .u64 x.k0,.int .u64 x.k1,.int .u64 x.mask,.pointer none,.string q.1,.int .u64 (dA x q.1)]:Array Value)[i]?:=fun k i=>by
   rw[bQ,aS (k.get0 (k3.get0 (k2.get0 b1))),aF]
  have w2:∀{h':ae},Upd No h3 h'→∀i,aE h' (adr ⟨h1.size,0,none⟩ i)=(#[.string p.1,.string p.2]:Array Value)[i]?:=fun k i=>by rw[bQ,aS (k.get0 (k3.get0 b2)),aF]
  have w3:∀{h':ae},Upd No h3 h'→∀i,aE h' (adr ⟨h2.size,0,none⟩ i)=(#[.string q.1,.string q.2]:Array Value)[i]?:=fun k i=>by rw[bQ,aS (k.get0 b3),aF]
  have r:=Upd.refl No h3;have ne:(((13-(m+1):Nat):Int)==(13:Int))=false:=by rw[beq_eq_false_iff_ne];omega
  rw[ne];refine ak.2 ⟨_,w1 r 0,_,w1 r 1,_,w1 r 2,_,w2 r 0,_,w1 r 5,?_⟩;refine qd fun h4 hu4=>⟨w1 hu4 5,Kw hl ⟨w1 hu4 5,Kw hl ?_⟩⟩
  have hi:=wJ x (13-(m+1)) p.1;have hj:=wJ x (13-(m+1)) q.1;have hk03:=((k1.tr k2).tr k3);have hcl:=IS hne;refine CondP.intro (fun e=>?_) fun e=>?_
  ·have e:ck x (13-(m+1)) p.1=ck x (13-(m+1)) q.1:=by have:=eq_of_beq e;omega
   refine⟨_,w1 hu4 3,_,w1 hu4 0,_,w1 hu4 1,_,w1 hu4 2,_,w1 hu4 3,_,w1 hu4 4,_,w1 hu4 5,_,w2 hu4 0,_,w2 hu4 1,_,w3 hu4 0,_,w3 hu4 1,?_⟩;refine mI (gW (hk03.tr hu4)) fun h5 b5 nd5 hu5=>?_
   have hu35:=hu4.tr hu5;refine⟨⟨w3 hu35 0,w3 hu35 1⟩,⟨w2 hu35 0,w2 hu35 1⟩,⟨w1 hu35 0,w1 hu35 1,w1 hu35 2,w1 hu35 3,w1 hu35 4,w1 hu35 5⟩,w1 hu35 3,?_⟩;have ew:IntKind.wrap .i64 (((13-(m+1):Nat):Int)+1)=((13-m:Nat):Int):=by rw[fl (by omega)];omega
   rw[ew];refine ih p q (by omega) hne (gW (hk03.tr hu35)) fun h6 b6 t6 hu6=>?_
   have hu36:=hu35.tr hu6;refine⟨w1 hu36 3,?_⟩;refine rc (nd5.upd hu6 fun _ h=>h.elim) (gW (hk03.tr hu36)) hi (fun y h=>by cases h) ⟨b6,0,none⟩ fun h7 b7 nd7 hu7=>?_
   refine hk h7 b7 ⟨_,nd7,fun c hc=>?_⟩ ((hk03.tr hu36).tr hu7)
   rw[hlev]at e;by_cases hcc:c=ck x (13-(m+1)) p.1
   ·refine .inr (.inr ?_)
    have ea:part x (12-m) c (g6 q [p])=g6 q [p]:=A6 fun r hr=>by
     rcases Jd hr with rfl|rfl
     ·rw[hcc,hlev]
     ·rw[hcc,hlev,e]
    rw[ea];exact⟨by omega,by simp[upd],b6,by rw[hcc];exact eM,TrieAt.upd0 hu7 t6⟩
   ·refine .inl ⟨rT fun r hr=>?_,by simp[upd],ey hcc⟩
    rw[hlev]at hcc;rcases Jd hr with rfl|rfl
    ·exact fun e=>hcc e.symm
    ·rw[←e];exact fun e=>hcc e.symm
  ·have e:ck x (13-(m+1)) p.1≠ck x (13-(m+1)) q.1:=fun h=>by rw[h]at e;simp at e
   refine⟨_,w1 hu4 3,_,w2 hu4 0,_,w2 hu4 1,_,w1 hu4 3,_,w3 hu4 0,_,w3 hu4 1,?_⟩;refine mI (gW (hk03.tr hu4)) fun h5 b5 nd5 hu5=>?_
   have hu35:=hu4.tr hu5;refine⟨⟨w3 hu35 0,w3 hu35 1⟩,w1 hu35 3,⟨w2 hu35 0,w2 hu35 1⟩,w1 hu35 3,?_⟩;refine nz nd5 (gW (hk03.tr hu35)) hi (fun y h=>by cases h) p fun h6 b6 nd6 hu6=>?_
   have hu36:=hu35.tr hu6;refine⟨⟨w3 hu36 0,w3 hu36 1⟩,w1 hu36 3,?_⟩;refine nz nd6 (gW (hk03.tr hu36)) hj (fun y h=>by simp[upd]) q fun h7 b7 nd7 hu7=>?_
   refine hk h7 b7 ⟨_,nd7,fun c hc=>?_⟩ ((hk03.tr hu36).tr hu7)
   have hpi:=FX (x:=x) (lev:=12-m) (c:=c) (p:=q) (l:= [p]) (dE ..);rw[hlev]at e;by_cases hcp:c=ck x (12-m) p.1
   ·have hcq:ck x (12-m) q.1≠c:=fun h=>e (by omega)
    have e1:part x (12-m) c [p]= [p]:=A6 fun r hr=>by rw[aC.1 hr,hcp]
    rw[if_neg hcq,e1]at hpi;exact .inr (.inl ⟨p,hpi,by simp[upd,hlev,hcp,e],by simp[upd]⟩)
   ·have e1:part x (12-m) c [p]= []:=rT fun r hr=>by rw[aC.1 hr];exact fun h=>hcp h.symm
    rw[e1]at hpi;by_cases hcq:c=ck x (12-m) q.1
    ·rw[if_pos hcq.symm]at hpi
     exact .inr (.inl ⟨q,hpi,by simp[upd,hlev,hcq],by simp[upd]⟩)
    ·rw[if_neg fun h=>hcq h.symm]at hpi
     exact .inl ⟨hpi,by simp[upd,hlev,hcq,hcp],by simp[upd]⟩
end Go.Proofs
namespace Go.Proofs
open Go.Lift
noncomputable instance memDec (p:Pr) (l:List Pr):Decidable (p∈l):=Classical.propDecidable _
theorem Hn{l:List Pr}(hr:cW l){k v w:ByteArray}(h1:(k,v)∈l)(h2:(k,w)∈l):v=w:=by
 induction l with
 |nil=>cases h1
 |cons q l ih=>
  have hr:=aO.1 hr;rcases ay.1 h1 with e1|h1<;>rcases ay.1 h2 with e2|h2
  ·exact(Prod.mk.inj (e1.trans e2.symm)).2
  ·have:=hr.1 _ h2;rw[←e1]at this;exact absurd this (cI _)
  ·have:=hr.1 _ h1;rw[←e2]at this;exact absurd this (cI _)
  ·exact ih hr.2 h1 h2
theorem lM{x:Hs}{lev c:Nat}{l:List Pr}{p:Pr}:p∈part x lev c l↔p∈l∧ck x lev p.1=c:=by unfold part;rw[eh,decide_eq_true_iff]
theorem AF{x:Hs}{lev:Nat}{l:List Pr}{k:ByteArray}:cl (part x lev (ck x lev k) l) k=cl l k:=by
 unfold cl;rw[gp,bW,bW];constructor
 ·rintro⟨p,hp,e⟩;exact⟨p,(lM.1 hp).1,e⟩
 ·rintro⟨p,hp,e⟩;exact⟨p,lM.2 ⟨hp,by rw[of_decide_eq_true e]⟩,e⟩
theorem nA{x:Hs}{lev c:Nat}{l:List Pr}(hr:cW l):cW (part x lev c l):=hr.sublist List.filter_sublist
theorem oq{x:Hs}{lev c:Nat}{l:List Pr}:(part x lev c l).length≤l.length:=gY ..
def SlotIs(W:Nat→Prop)(x:Hs)(h:ae)(m:Nat)(s:Slots)(c:Nat)(l:List Pr):Prop:=
 (l= []∧s.p c=none∧s.k c=none)∨(∃p,l= [p]∧s.p c=some p∧s.k c=none)∨(2≤l.length∧s.p c=none∧∃kb,s.k c=some (some ⟨kb,0,none⟩)∧TrieAt W x h m kb l)
theorem SlotIs.upd0{W:Nat→Prop}{x:Hs}{h h':ae}{m:Nat}{s:Slots}{c:Nat}{l:List Pr}(k:Upd No h h')(t:SlotIs W x h m s c l):SlotIs W x h' m s c l:=t.imp id fun o=>o.imp id fun⟨h1,h2,kb,h3,h4⟩=>⟨h1,h2,kb,h3,TrieAt.upd0 k h4⟩
theorem Gf(p:Pr):∀{l:List Pr},l.length≤(g6 p l).length
 | []=>bi _
 |q::l=>by
  rw[gH];split
  ·have:=Gf p (l:=l);simp only[aq];omega
  ·split<;>simp
theorem JD{W:Nat→Prop}{x:Hs}{h h':ae}{m b':Nat}{s s':Slots}{l:List Pr}{p:Pr}(hr:cW l)(hu:Upd No h h')(nd:NodeAt W h' b' s')(hs:∀c,c<32→SlotIs W x h m s c (part x (12-m) c l))
  (hp:∀c,c≠ck x (12-m) p.1→s'.p c=s.p c∧s'.k c=s.k c)(hi:SlotIs W x h' m s' (ck x (12-m) p.1) (g6 p (part x (12-m) (ck x (12-m) p.1) l))):TrieAt W x h' (m+1) b' (g6 p l):=by
 refine⟨s',nd,fun c hc=>?_⟩
 rw[FX hr];by_cases e:ck x (12-m) p.1=c
 ·rw[if_pos e];subst e;exact hi
 ·rw[if_neg e]
  have t:=SlotIs.upd0 hu (hs c hc);obtain⟨e1,e2⟩:=hp c fun h=>e h.symm
  unfold SlotIs at t;rw[←e1,←e2]at t;exact t
theorem jG{a b:ByteArray}:(a.toList==b.toList)=decide (a=b):=by
 rw[gp,beq_iff_eq,decide_eq_true_iff,ym]
theorem NA{W:Nat→Prop}{x:Hs}:∀(m:Nat),m≤13→∀{b:Nat} {l:List Pr} (p:Pr) {h:ae},TrieAt W x h m b l→(∀y,W y→y<h.size)→cW l→l.length≤1000000→∀{K:(Option Addr)×Bool×Bool→ae→Prop},
  (∀h' b' ch,Upd No h h'→TrieAt W x h' m b' (g6 p l)→(ch=false→b'=b)→ch= !decide (p∈l)→K (some ⟨b',0,none⟩, !cl l p.1,ch) h')→
  HC PG gI [KV x p.1,.pointer (some ⟨b,0,none⟩),.agg #[.string p.1,.string p.2],.int .i64 ((13-m:Nat):Int)] [.c .ptr,.c .bool,.c .bool] K h:=by
 intro m;induction m with
 |zero=>
  intro _ b l p h t hW hr hn K hk;have gW:∀{h'},Upd No h h'→∀y,W y→y<h'.size:=fun k y hy=>aL (hW y hy) k.size
  refine rv (x.k0,x.k1,x.mask,none,p.1,dA x p.1) (some ⟨b,0,none⟩) p ((13-0:Nat):Int) ?_;unfold nL af;have k1:=Upd.hnew No h [.int .u64 x.k0,.int .u64 x.k1,.int .u64 x.mask,.pointer none,.string p.1,.int .u64 (dA x p.1)] cn;have b1:=bK h [.int .u64 x.k0,.int .u64 x.k1,.int .u64 x.mask,.pointer none,.string p.1,.int .u64 (dA x p.1)] cn;refine aX ?_
  simp only[cq h];generalize hnew h [.int .u64 x.k0,.int .u64 x.k1,.int .u64 x.mask,.pointer none,.string p.1,.int .u64 (dA x p.1)] cn=h1 at k1 b1;have k2:=Upd.hnew No h1 [.string p.1,.string p.2] aj;have b2:=bK h1 [.string p.1,.string p.2] aj;refine aX ?_;simp only[cq h1];generalize hnew h1 [.string p.1,.string p.2] aj=h2 at k2 b2;have w1:∀{h':ae},Upd No h2 h'→∀i,aE h' (adr ⟨h.size,0,none⟩ i)=(#[.int .u64 x.k0,.int .u64 x.k1,.int .u64 x.mask,.pointer none,.string p.1,.int .u64 (dA x p.1)]:Array Value)[i]?:=fun k i=>by
   rw[bQ,aS (k.get0 (k2.get0 b1)),aF]
  have w2:∀{h':ae},Upd No h2 h'→∀i,aE h' (adr ⟨h1.size,0,none⟩ i)=(#[.string p.1,.string p.2]:Array Value)[i]?:=fun k i=>by rw[bQ,aS (k.get0 b2),aF]
  have r:=Upd.refl No h2;have k02:=k1.tr k2;have bk:BuckAt W h2 b l:=BuckAt.upd t k02 fun _ h=>h.elim
  obtain⟨sp,sk,ow,hb,_⟩:=bk.ex;refine gA hb (ax.2 ⟨_,w2 r 0,Nj bk hr (by omega) p.1 fun h3 v hu3 hv=>?_⟩)
  have put:∀(hnot:p∉l) {h4:ae},Upd No h2 h4→HC PG gk [.pointer (some ⟨b,0,none⟩),.pointer none,.agg #[.string p.1,.string p.2]] [.c .ptr] (fun(e15:Option Addr) h16=>K (e15, !cl l p.1,true) h16) h4:=fun hnot h4 hu4=>
   Ar (bk.upd hu4 fun _ h=>h.elim) (gW (k02.tr hu4)) hr (by omega) p fun h5 b5 bk5 hu5=>by
    rw[wy p hr]at bk5;exact hk h5 b5 true ((k02.tr hu4).tr hu5) bk5 (fun h=>by cases h) (by rw[decide_eq_false hnot];rfl)
  refine Join.intro (fun t' h'=>t'=decide (p∈l)∧Upd No h2 h') (fun R hR=>?_) ?_
  ·cases ht:cl l p.1 with
   |false=>
    refine ak.2 (hR _ _ ⟨?_,hu3⟩);refine(decide_eq_false fun hm=>?_).symm
    have:cl l p.1=true:=bW.2 ⟨p,hm,decide_eq_true rfl⟩;rw[ht]at this;cases this
   |true=>
    have hv:=hv ht;refine ax.2 ⟨_,w2 hu3 1,hR _ _ ⟨?_,hu3⟩⟩;rw[jG,decide_eq_decide];constructor
    ·intro e
     have e:v=p.2:=e;rw[e]at hv;exact hv
    ·intro hm
     exact Hn hr hv (show(p.1,p.2)∈l from hm)
  ·rintro t' h4 ⟨rfl,hu4⟩
   by_cases hm:p∈l
   ·rw[decide_eq_true hm]
    refine ax.2 ?_;have ht:cl l p.1=true:=bW.2 ⟨p,hm,decide_eq_true rfl⟩;have:=hk h4 b false (k02.tr hu4) (by rw[Ak hr hm];exact bk.upd hu4 fun _ h=>h.elim) (fun _=>rfl) (by rw[decide_eq_true hm];rfl)
    rw[ht]at this;exact this
   ·rw[decide_eq_false hm]
    refine ak.2 ⟨none,w1 hu4 3,_,w2 hu4 0,_,w2 hu4 1,put hm hu4⟩
 |succ m ih=>
  intro hm b l p h t hW hr hn K hk;have gW:∀{h'},Upd No h h'→∀y,W y→y<h'.size:=fun k y hy=>aL (hW y hy) k.size
  have hl:13-(m+1)<13:=by omega
  have hlev:13-(m+1)=12-m:=by omega
  refine rv (x.k0,x.k1,x.mask,none,p.1,dA x p.1) (some ⟨b,0,none⟩) p ((13-(m+1):Nat):Int) ?_;unfold nL af;have k1:=Upd.hnew No h [.int .u64 x.k0,.int .u64 x.k1,.int .u64 x.mask,.pointer none,.string p.1,.int .u64 (dA x p.1)] cn;have b1:=bK h [.int .u64 x.k0,.int .u64 x.k1,.int .u64 x.mask,.pointer none,.string p.1,.int .u64 (dA x p.1)] cn
  refine aX ?_;simp only[cq h];generalize hnew h [.int .u64 x.k0,.int .u64 x.k1,.int .u64 x.mask,.pointer none,.string p.1,.int .u64 (dA x p.1)] cn=h1 at k1 b1;have k2:=Upd.hnew No h1 [.string p.1,.string p.2] aj;have b2:=bK h1 [.string p.1,.string p.2] aj;refine aX ?_;simp only[cq h1];generalize hnew h1 [.string p.1,.string p.2] aj=h2 at k2 b2
  have w1:∀{h':ae},Upd No h2 h'→∀i,aE h' (adr ⟨h.size,0,none⟩ i)=(#[.int .u64 x.k0,.int .u64 x.k1,.int .u64 x.mask,.pointer none,.string p.1,.int .u64 (dA x p.1)]:Array Value)[i]?:=fun k i=>by
   rw[bQ,aS (k.get0 (k2.get0 b1)),aF]
  have w2:∀{h':ae},Upd No h2 h'→∀i,aE h' (adr ⟨h1.size,0,none⟩ i)=(#[.string p.1,.string p.2]:Array Value)[i]?:=fun k i=>by rw[bQ,aS (k.get0 b2),aF]
  have r:=Upd.refl No h2;have k02:=k1.tr k2;obtain⟨s,nd0,hs0⟩:=TrieAt.upd0 k02 t;have hs:∀c,c<32→SlotIs W x h2 m s c (part x (12-m) c l):=hs0;have tt:∀{h':ae},Upd No h2 h'→TrieAt W x h' (m+1) b l:=fun k=>TrieAt.upd0 (k02.tr k) t
  obtain⟨d0,n0,sp0,sk0,ow0,hb0,_⟩:=nd0.ex;refine gA hb0 (ak.2 ⟨_,w1 r 5,Kw hl ?_⟩);rw[hlev];have hi:=wJ x (12-m) p.1;have hsi:=hs _ hi;have hrp:=nA (x:=x) (lev:=12-m) (c:=ck x (12-m) p.1) hr;have hnp:(part x (12-m) (ck x (12-m) p.1) l).length≤1000000:=bN oq hn;have hmp:p∈part x (12-m) (ck x (12-m) p.1) l↔p∈l:=by rw[lM];exact⟨fun h=>h.1,fun h=>⟨h,rfl⟩⟩
  have htp:=AF (x:=x) (lev:=12-m) (l:=l) (k:=p.1);have hturn:=fun{h':ae} {b':Nat} {s':Slots}=>JD (W:=W) (x:=x) (h:=h2) (h':=h') (m:=m) (b':=b') (s:=s) (s':=s') (l:=l) (p:=p) hr
  generalize hc:ck x (12-m) p.1=c at hi hsi hrp hnp hmp htp hturn;generalize hlp:part x (12-m) c l=lc at hsi hrp hnp hmp htp hturn;refine A9 nd0 hi fun h3 hu3=>?_
  have k4:=Upd.hnew No h3 [.string (⟨#[]⟩:ByteArray),.string (⟨#[]⟩:ByteArray)] aj;have b4:=bK h3 [.string (⟨#[]⟩:ByteArray),.string (⟨#[]⟩:ByteArray)] aj;refine aX ?_;simp only[cq h3];generalize hnew h3 [.string (⟨#[]⟩:ByteArray),.string (⟨#[]⟩:ByteArray)] aj=h4 at k4 b4;have b4':h4[h3.size]? =some (.cells #[.string GW.1,.string GW.2] aj (0,0)):=b4
  refine zi (p:=LD (s.p c)) b4' fun h5 b5 hu5=>?_
  have hu25:Upd No h2 h5:=(hu3.tr k4).trans hu5 fun y hy=>.inr (by have hy:y=h3.size:=hy;have:=hu3.size;omega)
  have w5:∀{h':ae},Upd No h5 h'→∀i,aE h' (adr ⟨h3.size,0,none⟩ i)=(#[.string (LD (s.p c)).1,.string (LD (s.p c)).2]:Array Value)[i]?:=fun k i=>by rw[bQ,aS (k.get0 b5),aF]
  have r5:=Upd.refl No h5;have nd5:=nd0.upd hu25 fun _ h=>h.elim
  cases hsp:s.p c with
  |some y=>
   rw[hsp]at w5;obtain⟨hone,hk0⟩:lc= [y]∧s.k c=none:=by
    rcases hsi with⟨_,h2,_⟩|⟨q,h1,h2,h3⟩|⟨_,h2,_⟩
    ·rw[hsp]at h2;cases h2
    ·rw[hsp]at h2;cases h2;exact⟨h1,h3⟩
    ·rw[hsp]at h2;cases h2
   refine ax.2 ⟨y.1,w5 r5 0,y.2,w5 r5 1,p.1,w2 hu25 0,p.2,w2 hu25 1,?_⟩;rw[jG,jG];have hyl:y∈l:=(lM.1 (show y∈part x (12-m) c l by rw[hlp,hone];exact aC.2 rfl)).1
   by_cases e1:y.1=p.1
   ·have ht:cl l p.1=true:=bW.2 ⟨y,hyl,decide_eq_true e1⟩
    rw[ht]at hk;by_cases e2:y.2=p.2
    ·rw[decide_eq_true e1,decide_eq_true e2]
     have hyp:y=p:=Prod.ext e1 e2;have hml:p∈l:=hyp▸hyl;refine ax.2 ?_;exact hk h5 b false (k02.tr hu25) (by rw[Ak hr hml];exact tt hu25) (fun _=>rfl) (by rw[decide_eq_true hml];rfl)
    ·rw[decide_eq_true e1,decide_eq_false e2]
     refine ak.2 ⟨y.1,w5 r5 0,p.1,w2 hu25 0,?_⟩;rw[jG,decide_eq_true e1];refine ax.2 ⟨none,w1 hu25 3,p.1,w2 hu25 0,p.2,w2 hu25 1,?_⟩;refine nz nd5 (gW (k02.tr hu25)) hi (fun _ _=>hk0) p fun h6 b6 nd6 hu6=>?_
     have hnl:p∉l:=fun hm=>by
      have:=hmp.2 hm;rw[hone]at this;exact e2 (by rw[aC.1 this])
     refine hk h6 b6 true ((k02.tr hu25).tr hu6) (hturn (hu25.tr hu6) nd6 hs (fun c' hc'=>⟨ey hc',ey hc'⟩) ?_) (fun h=>by cases h) (by rw[decide_eq_false hnl];rfl)
     refine .inr (.inl ⟨p,?_,eM,eM⟩);rw[hone,gH,if_neg (by rw[e1];exact cI _),if_pos e1]
   ·rw[decide_eq_false e1]
    refine ak.2 ⟨y.1,w5 r5 0,p.1,w2 hu25 0,?_⟩;rw[jG,decide_eq_false e1];refine ak.2 ⟨none,w1 hu25 3,_,w1 hu25 0,_,w1 hu25 1,_,w1 hu25 2,_,w1 hu25 3,_,w1 hu25 4,_,w1 hu25 5,y.1,w5 r5 0,y.2,w5 r5 1,p.1,w2 hu25 0,p.2,w2 hu25 1,?_⟩;have ew:IntKind.wrap .i64 (((12-m:Nat):Int)+1)=((13-m:Nat):Int):=by rw[fl (by omega)];omega
    rw[ew];refine M3 m y p (by omega) e1 (gW (k02.tr hu25)) fun h6 b6 t6 hu6=>⟨w1 (hu25.tr hu6) 3,?_⟩
    refine rc (nd5.upd hu6 fun _ h=>h.elim) (gW ((k02.tr hu25).tr hu6)) hi (fun z hz=>by rw[hk0]at hz;cases hz) ⟨b6,0,none⟩ fun h7 b7 nd7 hu7=>?_
    have ht:cl l p.1=false:=by
     rw[←htp,hone];unfold cl;rw[om,decide_eq_false e1];rfl
    have hnl:p∉l:=fun hm=>by
     have:cl l p.1=true:=bW.2 ⟨p,hm,decide_eq_true rfl⟩;rw[ht]at this;cases this
    rw[ht]at hk;refine hk h7 b7 true (((k02.tr hu25).tr hu6).tr hu7) (hturn ((hu25.tr hu6).tr hu7) nd7 hs (fun c' hc'=>⟨ey hc',ey hc'⟩) ?_) (fun h=>by cases h) (by rw[decide_eq_false hnl];rfl)
    rw[hone];exact .inr (.inr ⟨by rw[IS e1];omega,eM,b6,eM,TrieAt.upd0 hu7 t6⟩)
  |none=>
   refine ak.2 (EB nd5 hi ?_);cases hsk:s.k c with
   |none=>
    have hlc:lc= []:=by
     rcases hsi with⟨h1,_⟩|⟨q,_,h2,_⟩|⟨_,_,kb,h2,_⟩
     ·exact h1
     ·rw[hsp]at h2;cases h2
     ·rw[hsk]at h2;cases h2
    refine ax.2 ⟨none,w1 hu25 3,p.1,w2 hu25 0,p.2,w2 hu25 1,?_⟩;refine nz nd5 (gW (k02.tr hu25)) hi (fun _ _=>hsk) p fun h6 b6 nd6 hu6=>?_
    have ht:cl l p.1=false:=by rw[←htp,hlc];rfl
    have hnl:p∉l:=fun hm=>by
     have:cl l p.1=true:=bW.2 ⟨p,hm,decide_eq_true rfl⟩;rw[ht]at this;cases this
    rw[ht]at hk;refine hk h6 b6 true ((k02.tr hu25).tr hu6) (hturn (hu25.tr hu6) nd6 hs (fun c' hc'=>⟨ey hc',ey hc'⟩) ?_) (fun h=>by cases h) (by rw[decide_eq_false hnl];rfl)
    rw[hlc];exact .inr (.inl ⟨p,rfl,eM,eM⟩)
   |some kp=>
    obtain⟨h2l,kb,rfl,tk⟩:2≤lc.length∧∃kb,kp=some ⟨kb,0,none⟩∧TrieAt W x h2 m kb lc:=by
     rcases hsi with⟨_,_,h2⟩|⟨q,_,h2,_⟩|⟨h1,_,kb,h2,h3⟩
     ·rw[hsk]at h2;cases h2
     ·rw[hsp]at h2;cases h2
     ·rw[hsk]at h2;cases h2;exact⟨h1,kb,rfl,h3⟩
    refine ak.2 ⟨_,w1 hu25 0,_,w1 hu25 1,_,w1 hu25 2,_,w1 hu25 3,_,w1 hu25 4,_,w1 hu25 5,p.1,w2 hu25 0,p.2,w2 hu25 1,?_⟩;have ew:IntKind.wrap .i64 (((12-m:Nat):Int)+1)=((13-m:Nat):Int):=by rw[fl (by omega)];omega
    rw[ew];refine ih (by omega) p (TrieAt.upd0 hu25 tk) (gW (k02.tr hu25)) hrp hnp fun h6 b6 ch hu6 t6 hsame hch=>?_
    have hu26:=hu25.tr hu6;by_cases hml:p∈l
    ·have hch:ch=false:=by rw[hch,decide_eq_true (hmp.2 hml)];rfl
     have ht:cl l p.1=true:=bW.2 ⟨p,hml,decide_eq_true rfl⟩;rw[ht]at hk;rw[hch];refine ax.2 ?_;exact hk h6 b false (k02.tr hu26) (by rw[Ak hr hml];exact tt hu26) (fun _=>rfl) (by rw[decide_eq_true hml];rfl)
    ·have hch:ch=true:=by rw[hch,decide_eq_false fun h=>hml (hmp.1 h)];rfl
     rw[hch];refine ak.2 ⟨none,w1 hu26 3,?_⟩;refine rc (nd5.upd hu6 fun _ h=>h.elim) (gW ((k02.tr hu25).tr hu6)) hi (fun _ _=>hsp) ⟨b6,0,none⟩ fun h7 b7 nd7 hu7=>?_
     rw[htp];refine hk h7 b7 true ((k02.tr hu26).tr hu7) (hturn (hu26.tr hu7) nd7 hs (fun c' hc'=>⟨ey hc',ey hc'⟩) ?_) (fun h=>by cases h) (by rw[decide_eq_false hml];rfl)
     exact .inr (.inr ⟨bN h2l (Gf p),eM,b6,eM,TrieAt.upd0 hu7 t6⟩)
end Go.Proofs
namespace Go.Proofs
open Go.Lift
theorem FA{W:Nat→Prop}{x:Hs}{h:ae}{m b:Nat}(nd:NodeAt W h b ⟨fun _=>none,fun _=>none⟩):TrieAt W x h (m+1) b []:=⟨_,nd,fun _ _=>.inl ⟨rfl,rfl,rfl⟩⟩
def RootAt(W:Nat→Prop)(x:Hs)(h:ae)(r:Option Addr)(l:List Pr):Prop:=(r=none∧l= [])∨∃b,r=some ⟨b,0,none⟩∧TrieAt W x h 13 b l
theorem RootAt.upd0{W:Nat→Prop}{x:Hs}{h h':ae}{r:Option Addr}{l:List Pr}(k:Upd No h h')(t:RootAt W x h r l):RootAt W x h' r l:=t.imp id fun⟨b,e,t⟩=>⟨b,e,TrieAt.upd0 k t⟩
theorem IW{W:Nat→Prop}{x:Hs}{h:ae}{r:Option Addr}{l:List Pr}(t:RootAt W x h r l)(hW:∀y,W y→y<h.size){K:Option Addr→ae→Prop}(hk:∀h' b,TrieAt W x h' 13 b l→Upd No h h'→(r=some ⟨b,0,none⟩∨r=none)→K (some ⟨b,0,none⟩) h'):HC PG kZ [.pointer r] [.c .ptr] K h:=by
 refine E9 r ?_;unfold xt;rcases t with⟨rfl,rfl⟩|⟨b,rfl,t⟩
 ·refine ax.2 (uI ?_)
  unfold qX;exact mI hW fun h' b nd hu=>hk h' b (FA nd) hu (.inr rfl)
 ·exact ak.2 (hk h b t (Upd.refl _ _) (.inl rfl))
theorem f7{h:ae}{b:Nat}{t:TypeId}{c vs:List Value}(hb:h[b]? =some (.cells c.toArray t (0,0))) (hl:vs.length=c.length) {k:ae→Prop}
  (hk:∀h',h'[b]? =some (.cells vs.toArray t (0,0))→Upd (· =b) h h'→k h'):fV h (some ⟨b,0,none⟩) 0 vs∧At (bP h ⟨b,0,none⟩ 0 vs) k:=by
 have e:=g9 vs h 0 0 c hb (by omega);refine⟨.inr ⟨_,rfl,fun j hj=>by rw[bQ];exact gN hb (by rw[List.size_toArray];omega)⟩,aX ?_⟩
 rw[e];refine hk _ ?_ (Upd.set h _ rfl);rw[ia hb];congr 3
 simp[hl]
set_option maxRecDepth 4000 in
theorem Gw{W:Nat→Prop}{x:Hs}{h:ae}{r:Option Addr}{l:List Pr}(t:RootAt W x h r l)(hW:∀y,W y→y<h.size)(hr:cW l)(hn:l.length≤1000000)(p:Pr){K:Option Addr×Bool→ae→Prop}
  (hk:∀h' b',Upd No h h'→TrieAt W x h' 13 b' (g6 p l)→(p∈l→r=some ⟨b',0,none⟩∨r=none)→K (some ⟨b',0,none⟩, !cl l p.1) h'):
  HC PG tA [.agg #[.int .u64 x.k0,.int .u64 x.k1,.int .u64 x.mask],.pointer none,.pointer r,.agg #[.string p.1,.string p.2]] [.c .ptr,.c .bool] K h:=by
 refine GK (x.k0,x.k1,x.mask) none r p ?_;unfold zF af;have k1:=Upd.hnew No h [.int .u64 x.k0,.int .u64 x.k1,.int .u64 x.mask] bX;have b1:=bK h [.int .u64 x.k0,.int .u64 x.k1,.int .u64 x.mask] bX;refine aX ?_;simp only[cq h];generalize hnew h [.int .u64 x.k0,.int .u64 x.k1,.int .u64 x.mask] bX=h1 at k1 b1;have k2:=Upd.hnew No h1 [.string p.1,.string p.2] aj
 have b2:=bK h1 [.string p.1,.string p.2] aj;refine aX ?_;simp only[cq h1];generalize hnew h1 [.string p.1,.string p.2] aj=h2 at k2 b2;have w1:∀{h':ae},Upd No h2 h'→∀i,aE h' (adr ⟨h.size,0,none⟩ i)=(#[.int .u64 x.k0,.int .u64 x.k1,.int .u64 x.mask]:Array Value)[i]?:=fun k i=>by
  rw[bQ,aS (k.get0 (k2.get0 b1)),aF]
 have w2:∀{h':ae},Upd No h2 h'→∀i,aE h' (adr ⟨h1.size,0,none⟩ i)=(#[.string p.1,.string p.2]:Array Value)[i]?:=fun k i=>by rw[bQ,aS (k.get0 b2),aF]
 have r2:=Upd.refl No h2;have k02:=k1.tr k2;let c6:List Value:= [.int .u64 0,.int .u64 0,.int .u64 0,.pointer none,.string (⟨#[]⟩:ByteArray),.int .u64 0]
 let v6:List Value:= [.int .u64 x.k0,.int .u64 x.k1,.int .u64 x.mask,.pointer none,.string p.1,.int .u64 (dA x p.1)]
 have fin:∀{h4:ae} {b:Nat},Upd No h2 h4→h4[b]? =some (.cells v6.toArray cn (0,0))→
   ∃v15:Int,aE h4 (adr ⟨b,0,none⟩ 0)=some (.int .u64 v15)∧
    ∃v16:Int,aE h4 (adr ⟨b,0,none⟩ 1)=some (.int .u64 v16)∧
    ∃v17:Int,aE h4 (adr ⟨b,0,none⟩ 2)=some (.int .u64 v17)∧
    ∃v18:Option Addr,aE h4 (adr ⟨b,0,none⟩ 3)=some (.pointer v18)∧
    ∃v19:ByteArray,aE h4 (adr ⟨b,0,none⟩ 4)=some (.string v19)∧
    ∃v20:Int,aE h4 (adr ⟨b,0,none⟩ 5)=some (.int .u64 v20)∧
    ∃v21:ByteArray,aE h4 (adr ⟨h1.size,0,none⟩ 0)=some (.string v21)∧
    ∃v22:ByteArray,aE h4 (adr ⟨h1.size,0,none⟩ 1)=some (.string v22)∧
    HC PG kZ [.pointer r] [.c .ptr] (fun(e23:Option Addr) h24=>
     ((aE h24 (adr ⟨h1.size,0,none⟩ 0)=some (.string v21)∧aE h24 (adr ⟨h1.size,0,none⟩ 1)=some (.string v22))∧
      ((aE h24 (adr ⟨b,0,none⟩ 0)=some (.int .u64 v15)∧aE h24 (adr ⟨b,0,none⟩ 1)=some (.int .u64 v16)∧aE h24 (adr ⟨b,0,none⟩ 2)=some (.int .u64 v17)∧aE h24 (adr ⟨b,0,none⟩ 3)=some (.pointer v18)∧aE h24 (adr ⟨b,0,none⟩ 4)=some (.string v19)∧aE h24 (adr ⟨b,0,none⟩ 5)=some (.int .u64 v20))∧
       HC PG gI [.agg #[.int .u64 v15,.int .u64 v16,.int .u64 v17,.pointer v18,.string v19,.int .u64 v20],.pointer e23,.agg #[.string v21,.string v22],.int .i64 0] [.c .ptr,.c .bool,.c .bool] (fun(e25:(Option Addr)×Bool×Bool) h26=>
        K (e25.1,e25.2.1) h26) h24))) h4:=fun{h4 b} hu4 hb4=>by
  have w4:∀{h':ae},Upd No h4 h'→∀i,aE h' (adr ⟨b,0,none⟩ i)=v6.toArray[i]?:=fun k i=>by rw[bQ,aS (k.get0 hb4),aF]
  have r4:=Upd.refl No h4;refine⟨_,w4 r4 0,_,w4 r4 1,_,w4 r4 2,_,w4 r4 3,_,w4 r4 4,_,w4 r4 5,p.1,w2 hu4 0,p.2,w2 hu4 1,?_⟩;refine IW (t.upd0 (k02.tr hu4)) (fun y hy=>aL (hW y hy) (k02.tr hu4).size) fun h5 b5 t5 hu5 hr5=>?_
  have hu25:=hu4.tr hu5;refine⟨⟨w2 hu25 0,w2 hu25 1⟩,⟨w4 hu5 0,w4 hu5 1,w4 hu5 2,w4 hu5 3,w4 hu5 4,w4 hu5 5⟩,?_⟩;refine NA 13 (ao _) p t5 (fun y hy=>aL (hW y hy) ((k02.tr hu4).tr hu5).size) hr hn fun h6 b6 ch hu6 t6 hs hch=>?_
  refine hk h6 b6 ((k02.tr hu25).tr hu6) t6 fun hm=>?_
  have hb:b6=b5:=hs (by rw[hch,decide_eq_true hm];rfl);rw[hb];exact hr5
 have own:∀{h3 h4:ae} {b:Nat},h2.size≤b→Upd (· =b) h3 h4→Upd No h2 h3→Upd No h2 h4:=fun hb hu k=>k.trans hu fun y hy=>.inr (hy▸hb)
 refine⟨_,w1 r2 0,_,w1 r2 1,_,w1 r2 2,_,w2 r2 0,_,w1 r2 0,_,w1 r2 1,_,w1 r2 2,_,w2 r2 0,?_,?_⟩
 ·refine qd fun h3 hu3=>⟨w2 hu3 0,⟨w1 hu3 0,w1 hu3 1,w1 hu3 2⟩,?_⟩
  have k4:=Upd.hnew No h3 c6 cn;have b4:=bK h3 c6 cn;have hu4:=hu3.tr k4;refine aX ?_;simp only[cq h3];refine⟨w2 hu4 0,⟨w1 hu4 0,w1 hu4 1,w1 hu4 2⟩,?_⟩;refine f7 (vs:=v6) b4 rfl fun h5 b5 hu5=>fin (own hu3.size hu5 hu4) b5
 ·have k4:=Upd.hnew No h2 c6 cn
  have b4:=bK h2 c6 cn;refine aX ?_;simp only[cq h2];refine⟨w2 k4 0,⟨w1 k4 0,w1 k4 1,w1 k4 2⟩,w2 k4 0,⟨w1 k4 0,w1 k4 1,w1 k4 2⟩,?_⟩;refine qd fun h5 hu5=>?_
  have hu25:=k4.tr hu5;refine⟨w2 hu25 0,⟨w1 hu25 0,w1 hu25 1,w1 hu25 2⟩,?_⟩;exact f7 (vs:=v6) (hu5.get0 b4) rfl fun h6 b6 hu6=>fin (own (ao _) hu6 hu25) b6
end Go.Proofs
namespace Go.Proofs
open Go.Lift
abbrev q9(b:UInt8):List Value:= [.int .u8 (b.toNat:Int)]
theorem yn(b:UInt8):(q9 b).length=1∧0<1:=⟨rfl,Nat.one_pos⟩
theorem Ah:∀xs:List UInt8,bS (xs.flatMap q9)=true
 | []=>rfl
 |x::xs=>by rw[aQ];exact ii rfl (Ah xs)
theorem ql(s:ByteArray):dq s=s.data.toList.flatMap q9:=by
 unfold dq;generalize s.data.toList=l;induction l with
 |nil=>rfl
 |cons b l ih=>rw[dI,aQ,ih];rfl
theorem rq{M:Nat→Prop}{h:ae}{so:SliceV}{out:List UInt8}{v:Int}{b:UInt8}(hv:v=(b.toNat:Int)){K:SliceV→ae→Prop}(ho:OwnS q9 1 dQ M h so out)(hM:∀b,h.size≤b→M b)(hn:out.length+1≤140737488355328)
  (hk:∀s' h',OwnS q9 1 dQ M h' s' (out++ [b])→Upd M h h'→K s' h'):
  ∃xs,SRow (hnew h [.int .u8 v] dQ) (some (ag h)) (1*1) xs∧AppP (some [.int .u8 0]) 1 1 dQ so.a so.len so.cap 1 xs (hnew h [.int .u8 v] dQ) K:=by
 subst hv;have k:=Upd.hnew No h [.int .u8 (b.toNat:Int)] dQ;have h1:OwnS q9 1 dQ (fun _=>True) (hnew h [.int .u8 (b.toNat:Int)] dQ) ⟨some (ag h),1,1⟩ [b]:=⟨rfl,yn,ao _,.inr ⟨h.size,[],rfl,trivial,bK ..,rfl⟩⟩
 refine⟨_,(h1.sl (W:=No) fun _ _ _ h=>h).srow,?_⟩
 refine AppP.own (ys:= [b]) (ho.upd k fun _ _ h=>h) rfl rfl rfl rfl (by omega) (by simp only[aD];omega) (hM _ (by rw[ge];omega)) fun s' h' ho' hu=>?_
 exact hk s' h' ho' ((Upd.hnew M h _ _).tr hu)
def nD(n k:Nat):List UInt8:=(fz k).map fun i=>fG (n>>>(8*i))
theorem tW(n k:Nat):nD n (k+1)=nD n k++ [fG (n>>>(8*k))]:=by unfold nD;rw[hH,cz];rfl
theorem fd(n k:Nat):(nD n k).length=k:=by simp[nD]
theorem HJ{M:Nat→Prop}{h:ae}{s:SliceV}{xs:List UInt8}(ho:OwnS q9 1 dQ M h s xs)(hM:∀b,h.size≤b→M b){n k:Nat}(hn:n<18446744073709551616)(hk8:k≤8)(hl:xs.length+k≤140737488355328){K:SliceV→ae→Prop}
  (hk:∀s' h',OwnS q9 1 dQ M h' s' (xs++nD n k)→Upd M h h'→K s' h'):HC PG kH [.slice s.a s.len s.cap,.int .u64 n,.int .i64 k] [.c .slice] K h:=by
 refine zw s n k ?_;unfold tI;refine LoopP.ghost (fun(i:Nat) (t:SliceV×Int) h'=>t.2=(i:Int)∧i≤k∧OwnS q9 1 dQ M h' t.1 (xs++nD n i)∧Upd M h h') (fun i=>k-i) 0 ⟨rfl,bi _,by simpa[nD]using ho,Upd.refl _ _⟩ ?_
 rintro I i ⟨so,ti⟩ h' ⟨e1,hi,ho',hu⟩ hI;simp only at e1 ho';subst e1;refine aA (fun hlt=>?_) fun hge=>?_
 ·have hlt:i<k:=by have:(i:Int)<(k:Int):=hlt;omega
  have e8:IntKind.wrap .i64 (8*(i:Int))=((8*i:Nat):Int):=by rw[fl (by omega)];omega
  have em:min (((8*i:Nat):Int)).toNat (IntKind.bits .u64)=8*i:=by rw[aR];exact bC (by show 8*i≤64;omega)
  refine Join.plain ?_;simp only[Bd];rw[e8,em,kG];refine⟨by omega,aX ?_⟩;refine rq (b:=fG (n>>>(8*i))) ?_ ho' (fun b hb=>hM b (bN hu.size hb)) (by rw[ac,fd];omega) fun s2 h2 ho2 hu2=>?_
  ·rw[IntKind.wrap_u8];simp
  ·rw[eu hlt (by omega)]
   refine hI (i+1) _ _ ⟨rfl,hlt,?_,hu.tr hu2⟩ (by omega);rw[tW,←al];exact ho2
 ·have hik:i=k:=by have:¬(i:Int)<(k:Int):=hge;omega
  subst hik;exact hk _ _ ho' hu
end Go.Proofs
namespace Go.Proofs
open Go Go.Lift
theorem GB{α:Type}{f:α→List Value}{sz bytes:Nat}{t:TypeId}{W:Nat→Prop}{h:ae}{base:Option Addr}{sl sc xl:Nat}{xs ys:List α}{ysv z:List Value}{K:SliceV→ae→Prop}
  (hs:Sl f sz W h ⟨base,sl,sc⟩ xs)(hxl:xl=ys.length)(hys:ysv=ys.flatMap f)(hz:z.length=sz)(hb:0<bytes)(hout:sc<sl+xl)(hfit:(xs.length+ys.length)*bytes≤140737488355328)
  (hk:∀s' h',OwnS f sz t (fun b=>h.size≤b) h' s' (xs++ys)→Upd No h h'→K s' h'):AppP (some z) sz bytes t base sl sc xl ysv h K:=by
 have hlen:sl=xs.length:=hs.len;subst hxl hys;refine⟨fun hin=>by omega,fun _=>?_⟩
 refine⟨xs.flatMap f,z,hs.srow,rfl,hb,Go.growslice_fits hout (by rw[hlen];exact hfit),fun nc hnc=>?_⟩
 refine hk _ _ ⟨by simp[hlen],hs.ne,hnc,.inr ⟨h.size,dd (nc-(sl+ys.length)) z,rfl,ao _,?_,?_⟩⟩ (Upd.hnew No h _ _)
 ·rw[bK,bL]
 ·rw[ko,hz]
theorem MN{h:ae}{s:SliceV}{xs:List UInt8}(hs:Sl q9 1 No h s xs)(hc:s.cap=s.len){n k:Nat}(hk8:k≤8)(hk0:0<k)(hl:xs.length+k≤140737488355328){K:SliceV→ae→Prop}
  (hk:∀s' h',OwnS q9 1 dQ (fun b=>h.size≤b) h' s' (xs++nD n k)→Upd No h h'→K s' h'):HC PG kH [.slice s.a s.len s.cap,.int .u64 n,.int .i64 k] [.c .slice] K h:=by
 refine zw s n k ?_;unfold tI;refine LoopP.ghost (fun(i:Nat) (t:SliceV×Int) h'=>t.2=(i:Int)∧i≤k∧((i=0∧t.1=s∧h'=h)∨OwnS q9 1 dQ (fun b=>h.size≤b) h' t.1 (xs++nD n i))∧Upd No h h') (fun i=>k-i) 0 ⟨rfl,bi _,.inl ⟨rfl,rfl,rfl⟩,Upd.refl _ _⟩ ?_
 rintro I i ⟨so,ti⟩ h' ⟨e1,hi,ho',hu⟩ hI;simp only at e1 ho';subst e1;refine aA (fun hlt=>?_) fun hge=>?_
 ·have hlt:i<k:=by have:(i:Int)<(k:Int):=hlt;omega
  have e8:IntKind.wrap .i64 (8*(i:Int))=((8*i:Nat):Int):=by rw[fl (by omega)];omega
  have em:min (((8*i:Nat):Int)).toNat (IntKind.bits .u64)=8*i:=by rw[aR];exact bC (by show 8*i≤64;omega)
  refine Join.plain ?_;simp only[Bd];rw[e8,em,kG];refine⟨by omega,aX ?_⟩;have ev:IntKind.wrap .u8 ((n>>>(8*i):Nat):Int)=((fG (n>>>(8*i))).toNat:Int):=by rw[IntKind.wrap_u8];simp
  rcases ho' with⟨rfl,rfl,rfl⟩|ho'
  ·rw[ev]
   have k1:=Upd.hnew No h' [.int .u8 ((fG (n>>>(8*0))).toNat:Int)] dQ;have h1:OwnS q9 1 dQ (fun _=>True) (hnew h' [.int .u8 ((fG (n>>>(8*0))).toNat:Int)] dQ) ⟨some (ag h'),1,1⟩ [fG (n>>>(8*0))]:=⟨rfl,yn,ao _,.inr ⟨h'.size,[],rfl,trivial,bK ..,rfl⟩⟩
   refine⟨_,(h1.sl (W:=No) fun _ _ _ h=>h).srow,?_⟩
   refine GB (ys:= [fG (n>>>(8*0))]) (hs.upd k1 fun _ h=>h.elim) rfl rfl rfl (by omega) (by omega) (by simp only[aD];omega) fun s2 h2 ho2 hu2=>?_
   rw[eu hlt (by omega)];refine hI 1 _ _ ⟨rfl,hlt,.inr ?_,k1.tr hu2⟩ (by omega);exact ho2.more fun b hb=>bN k1.size hb
  ·refine rq ev ho' (fun b hb=>bN hu.size hb) (by rw[ac,fd];omega) fun s2 h2 ho2 hu2=>?_
   rw[eu hlt (by omega)];refine hI (i+1) _ _ ⟨rfl,hlt,.inr ?_,hu.trans hu2 fun b hb=>.inr hb⟩ (by omega)
   rw[tW,←al];exact ho2
 ·have hik:i=k:=by have:¬(i:Int)<(k:Int):=hge;omega
  subst hik;rcases ho' with⟨e,_⟩|ho'
  ·omega
  ·exact hk _ _ ho' hu
def sA(s:ByteArray):List UInt8:=nD s.size 2++s.data.toList
theorem Ac{W:Nat→Prop}{h:ae}{s:SliceV}{xs:List UInt8}(hs:Sl q9 1 W h s xs)(hc:s.len≤s.cap)(b:ByteArray)(hb:b.size≤1000000)(hl:xs.length+2+b.size≤140737488355328){K:SliceV→ae→Prop}
  (hk:∀s' h',OwnS q9 1 dQ (fun x=>h.size≤x) h' s' (xs++sA b)→Upd No h h'→K s' h'):HC PG kV [.slice s.a s.len s.cap,.string b] [.c .slice] K h:=by
 refine E1 s b ?_;unfold xj;have hlen:=hs.len;refine⟨by omega,by omega,?_⟩
 simp only[aR];have hs1:Sl q9 1 No h ⟨aN s.a 0 s.len 1,s.len-0,s.len-0⟩ xs:=by
  have:=Sl.sub (hs.less (W':=No) fun _ h=>h.elim) (l:=0) (hi:=s.len) (m:=s.len) (c:=s.len-0) (bi _) (by omega) (ao _)
  rw[List.drop_zero,aU (by omega)]at this;exact this
 have ew:IntKind.wrap .u64 (b.size:Int)=(b.size:Int):=Go.IntWalk.u64_in _ (by omega);rw[ew];refine MN hs1 rfl (n:=b.size) (k:=2) (by omega) (by omega) (by omega) fun s2 h2 ho2 hu2=>?_
 refine AppP.own (ys:=b.data.toList) ho2 (by simp) (ql b) (by rw[ql];exact Ah _) rfl (by omega) ?_ hu2.size fun s3 h3 ho3 hu3=>?_
 ·simp only[ac,fd]
  have:b.data.toList.length=b.size:=by simp
  omega
 ·refine hk s3 h3 ?_ (hu2.trans hu3 fun x hx=>.inr hx)
  rw[sA,←al];exact ho3
end Go.Proofs
namespace Go.Proofs
open Go Go.Lift
def A7(p:Pr):List UInt8:=sA p.1++sA p.2
def ly(l:List Pr):List UInt8:=l.flatMap A7
theorem iQ(b:ByteArray):(sA b).length=2+b.size:=by simp[sA,fd]
def Fit(l:List Pr):Prop:=∀p∈l,p.1.size≤10000∧p.2.size≤10000
theorem Ka{p:Pr}(h:p.1.size≤10000∧p.2.size≤10000):(A7 p).length≤20004:=by
 unfold A7;rw[ac,iQ,iQ];omega
theorem pt:∀{l:List Pr},Fit l→(ly l).length≤l.length*20004
 | [],_=>by simp[ly]
 |p::l,h=>by
  have h1:=Ka (h p (au ..));have h2:=pt (l:=l) fun q hq=>h q (aM _ hq)
  unfold ly at*;rw[aQ,ac,aq];omega
theorem F0{l:List Pr}{i:Nat}(hi:i<l.length):ly (l.take (i+1))=ly (l.take i)++A7 l[i]:=by
 unfold ly;rw[List.take_succ_eq_append_getElem hi,bL,aQ,List.flatMap_nil,List.append_nil]
theorem AR{M W:Nat→Prop}{h:ae}{s sp:SliceV}{xs:List UInt8}{l:List Pr}(ho:OwnS q9 1 dQ M h s xs)(hM:∀b,h.size≤b→M b)(hs:Sl eG 2 W h sp l)(hW:∀x,M x→x<h.size→W x)(hf:Fit l)(hn:l.length≤1000000)(hl:xs.length+l.length*20004≤140737488355328){K:SliceV→ae→Prop}
  (hk:∀s' h',OwnS q9 1 dQ M h' s' (xs++ly l)→Upd M h h'→K s' h'):HC PG nZ [.slice s.a s.len s.cap,.slice sp.a sp.len sp.cap] [.c .slice] K h:=by
 refine CC s sp ?_;unfold uL af cQ;have hlen:=hs.len;have hMW:∀b,M b→W b∨h.size≤b:=fun b hb=>by
  rcases Nat.lt_or_ge b h.size with hx|hx
  ·exact .inl (hW b hb hx)
  ·exact .inr hx
 refine LoopP.ghost (fun(i:Nat) (t:SliceV×Int) h'=>t.2=(i:Int)∧i≤l.length∧OwnS q9 1 dQ M h' t.1 (xs++ly (l.take i))∧Upd M h h') (fun i=>l.length-i) 0 ⟨rfl,bi _,by simpa[ly]using ho,Upd.refl _ _⟩ ?_
 rintro I i ⟨so,ti⟩ h' ⟨e1,hi,ho',hu⟩ hI;simp only at e1 ho';subst e1;refine aA (fun hlt=>?_) fun hge=>?_
 ·have hlt:i<l.length:=by have:(i:Int)<(sp.len:Int):=hlt;omega
  obtain⟨a,ha,_,hv⟩:=(hs.upd hu hMW).at (ai hlt);have hfi:=hf l[i] (bE hlt);have htl:=pt (l:=l.take i) fun q hq=>hf q (List.mem_of_mem_take hq)
  rw[List.length_take,bC hi]at htl;have k1:=Upd.hnew No h' [.string (⟨#[]⟩:ByteArray),.string (⟨#[]⟩:ByteArray)] aj;have b1:=bK h' [.string (⟨#[]⟩:ByteArray),.string (⟨#[]⟩:ByteArray)] aj;refine⟨by simp only;omega,a,ha,l[i].1,hv 0 _ rfl,l[i].2,hv 1 _ rfl,aX ?_⟩;simp only[cq h'];generalize hnew h' [.string (⟨#[]⟩:ByteArray),.string (⟨#[]⟩:ByteArray)] aj=h1 at k1 b1
  have b1':h1[h'.size]? =some (.cells #[.string GW.1,.string GW.2] aj (0,0)):=b1;refine zi (p:=l[i]) b1' fun h2 b2 hu2=>?_
  have hu12:Upd No h' h2:=k1.trans hu2 fun x hx=>.inr (dX hx.symm)
  have ho2:=ho'.upd hu12 fun _ _ h=>h
  refine⟨l[i].1,by rw[bQ,aS b2];rfl,l[i].2,by rw[bQ,aS b2];rfl,?_⟩
  have hmul:i*20004+20004≤l.length*20004:=by rw[←Nat.succ_mul];exact dM _ hlt
  refine Ac (W:=No) (ho2.sl fun _ _ _ h=>h) ho2.cap l[i].1 (by omega) (by rw[ac];omega) fun s3 h3 ho3 hu3=>⟨by rw[bQ,aS (hu3.get0 b2)];rfl,?_⟩
  refine Ac (W:=No) (ho3.sl fun _ _ _ h=>h) ho3.cap l[i].2 (by omega) (by rw[ac,ac,iQ];omega) fun s4 h4 ho4 hu4=>?_
  have hu04:Upd M h h4:=hu.tr ((hu12.tr (hu3.tr hu4)).wide);rw[eu hlt (by omega)];refine hI (i+1) _ _ ⟨rfl,hlt,?_,hu04⟩ (by omega);rw[F0 hlt,A7,←al,←al];exact ho4.more fun b hb=>hM b (bN (hu.tr ((hu12.tr hu3).wide)).size hb)
 ·have hil:i=l.length:=by have:¬(i:Int)<(sp.len:Int):=hge;omega
  rw[aU (by omega)]at ho';exact hk _ _ ho' hu
end Go.Proofs
namespace Go.Proofs
open Go Go.Lift
def mZ(q:Nat→Bool):Nat→Nat
 |0=>0
 |n+1=>mZ q n+(if q n then 2^n else 0)
theorem pI(q:Nat→Bool):∀n,mZ q n<2^n
 |0=>by simp[mZ]
 |n+1=>by
  have:=pI q n;unfold mZ;rw[Nat.pow_succ];split<;>omega
theorem yp(q:Nat→Bool)(c:Nat):∀n,(mZ q n).testBit c=(decide (c<n)&&q c)
 |0=>by simp[mZ]
 |n+1=>by
  have hlt:=pI q n;have ih:=yp q c n;unfold mZ;by_cases hq:q n=true
  ·rw[if_pos hq,Nat.add_comm]
   rcases Nat.lt_trichotomy c n with h|h|h
   ·rw[Nat.testBit_two_pow_add_gt h,ih,decide_eq_true h,decide_eq_true (by omega)]
   ·subst h
    rw[Nat.testBit_two_pow_add_eq,fx hlt,decide_eq_true (by omega),hq];rfl
   ·have h1:2^n+mZ q n<2^c:=aL (by rw[Nat.pow_succ];omega:2^n+mZ q n<2^(n+1)) (iu (by omega) h)
    rw[fx h1,decide_eq_false (by omega)];rfl
  ·rw[if_neg hq,eC,ih]
   by_cases h:c<n
   ·rw[decide_eq_true h,decide_eq_true (by omega)]
   ·by_cases e:c=n
    ·subst e;have:q c=false:=by simpa using hq
     rw[this];simp
    ·rw[decide_eq_false h,decide_eq_false (by omega)]
theorem D3{d:Nat}{q:Nat→Bool}(hd:d<4294967296)(h:∀c,c<32→d.testBit c=q c):d=mZ q 32:=by
 refine Nat.eq_of_testBit_eq fun c=>?_
 rw[yp];by_cases hc:c<32
 ·rw[h c hc,decide_eq_true hc];rfl
 ·rw[decide_eq_false hc,fx (aL hd (iu (n:=2) (by omega) (show 32≤c by omega)))];rfl
end Go.Proofs
namespace Go.Proofs
open Go Go.Lift
def p5(l:List Pr):Option Pr:=match l with| [p]=>some p|_=>none
def gO(l:List Pr):Option (List Pr):=if 2≤l.length then some l else none
def fZ(x:Hs)(lev:Nat)(l:List Pr):List Pr:=fm (fun c=>p5 (part x lev c l)) 32
def mJ(x:Hs)(lev:Nat)(l:List Pr):List (List Pr):=fm (fun c=>gO (part x lev c l)) 32
def jm(x:Hs):Nat→List Pr→List UInt8
 |0,l=>1::(nD l.length 2++ly l)
 |m+1,l=>0::(nD (mZ (fun c=>(p5 (part x (12-m) c l)).isSome) 32) 4++(nD (mZ (fun c=>(gO (part x (12-m) c l)).isSome) 32) 4++(ly (fZ x (12-m) l)++(mJ x (12-m) l).flatMap (jm x m))))
theorem AP{W:Nat→Prop}{x:Hs}{h:ae}{m:Nat}{s:Slots}{c:Nat}{l:List Pr}(t:SlotIs W x h m s c l):s.p c=p5 l∧(s.k c).isSome=(gO l).isSome:=by
 rcases t with⟨rfl,h1,h2⟩|⟨p,rfl,h1,h2⟩|⟨h0,h1,kb,h2,_⟩
 ·rw[h1,h2];exact⟨rfl,rfl⟩
 ·rw[h1,h2];exact⟨rfl,rfl⟩
 ·rw[h1,h2]
  refine⟨?_,by simp[gO,h0]⟩
  match l,h0 with
  |a::b::l,_=>rfl
def KidsAt(W:Nat→Prop)(x:Hs)(h:ae)(m:Nat):List (Option Addr)→List (List Pr)→Prop
 | [],[]=>True
 |k::ks,l::ls=>(∃kb,k=some ⟨kb,0,none⟩∧TrieAt W x h m kb l)∧KidsAt W x h m ks ls
 |_,_=>False
theorem KidsAt.app{W:Nat→Prop}{x:Hs}{h:ae}{m:Nat}:∀{ks ks':List (Option Addr)} {ls ls':List (List Pr)},KidsAt W x h m ks ls→KidsAt W x h m ks' ls'→KidsAt W x h m (ks++ks') (ls++ls')
 | [],_,[],_,_,q=>q
 |_::_,_,_::_,_,q,q'=>⟨q.1,KidsAt.app q.2 q'⟩
 | [],_,_::_,_,q,_=>q.elim
 |_::_,_,[],_,q,_=>q.elim
theorem jZ{β:Type}(g:Nat→Option β)(n:Nat):fm g (n+1)=fm g n++(g n).toList:=by
 unfold fm;rw[hH,List.filterMap_append];cases h:g n<;>simp[h]
theorem LA{W:Nat→Prop}{x:Hs}{h:ae}{m lev:Nat}{s:Slots}{l:List Pr}:∀n,(∀c,c<n→SlotIs W x h m s c (part x lev c l))→KidsAt W x h m (fm s.k n) (fm (fun c=>gO (part x lev c l)) n)
 |0,_=>trivial
 |n+1,hs=>by
  rw[jZ,jZ];refine KidsAt.app (LA n fun c hc=>hs c (by omega)) ?_
  rcases hs n (by omega)with⟨h0,_,h2⟩|⟨p,h0,_,h2⟩|⟨h0,_,kb,h2,h3⟩
  ·rw[h2,h0];exact trivial
  ·rw[h2,h0];exact trivial
  ·rw[h2]
   have:gO (part x lev n l)=some (part x lev n l):=by unfold gO;rw[if_pos h0]
   simp only[this];exact⟨⟨kb,rfl,h3⟩,trivial⟩
theorem Eg{W:Nat→Prop}{x:Hs}{h:ae}{m lev:Nat}{s:Slots}{l:List Pr}(hs:∀c,c<32→SlotIs W x h m s c (part x lev c l)):fm s.p 32=fZ x lev l:=
 Oa _ fun c hc=>(AP (hs c (List.mem_range.1 hc))).1
end Go.Proofs
namespace Go.Proofs
open Go Go.Lift
theorem rd(x:Hs)(lev:Nat)(l:List Pr):∀n,(((fz n).map fun c=>(part x lev c l).length).sum)=(l.filter fun p=>decide (ck x lev p.1<n)).length
 |0=>by
  have:(l.filter fun p=>decide (ck x lev p.1<0))= []:=ni.2 fun p _=>by simp
  rw[this];rfl
 |n+1=>by
  rw[hH,cz,ma,rd x lev l n];simp only[dI,List.map_nil,ol,List.sum_nil,eC];unfold part;clear rd;induction l with
  |nil=>rfl
  |cons p l ih=>
   simp only[de,decide_eq_true_iff];split<;>split<;>split<;>first|omega|(simp only[aq];omega)
theorem Dm(x:Hs)(lev:Nat)(l:List Pr):(fZ x lev l).length+(mJ x lev l).flatten.length≤l.length:=by
 have h:=rd x lev l 32;have hle:(l.filter fun p=>decide (ck x lev p.1<32)).length≤l.length:=gY ..
 have:∀n,(fm (fun c=>p5 (part x lev c l)) n).length+(fm (fun c=>gO (part x lev c l)) n).flatten.length≤((fz n).map fun c=>(part x lev c l).length).sum:=by
  intro n;induction n with
  |zero=>simp[fm]
  |succ n ih=>
   rw[jZ,jZ,hH,cz,ma];simp only[ac,List.flatten_append,dI,List.map_nil,ol,List.sum_nil,eC];generalize part x lev n l=q;have:(p5 q).toList.length+(gO q).toList.flatten.length≤q.length:=by
    match q with
    | []=>simp[p5,gO]
    | [a]=>simp[p5,gO]
    |a::b::q=>simp[p5,gO]
   omega
 have:=this 32;unfold fZ mJ;omega
end Go.Proofs
namespace Go.Proofs
open Go Go.Lift
theorem rg{x:Hs}{lev:Nat}{l:List Pr}{p:Pr}(h:p∈fZ x lev l):p∈l:=by
 unfold fZ fm at h;obtain⟨c,_,hc⟩:=List.mem_filterMap.1 h;unfold p5 at hc;split at hc
 ·rename_i q hq
  cases hc;have:p∈part x lev c l:=by rw[hq];exact aC.2 rfl
  exact(lM.1 this).1
 ·cases hc
theorem rh{x:Hs}{lev:Nat}{l L:List Pr}(h:L∈mJ x lev l):2≤L.length∧∃c,L=part x lev c l:=by
 unfold mJ fm at h;obtain⟨c,_,hc⟩:=List.mem_filterMap.1 h;unfold gO at hc;split at hc
 ·cases hc;exact⟨by assumption,c,rfl⟩
 ·cases hc
theorem Fit.part{x:Hs}{lev c:Nat}{l:List Pr}(h:Fit l):Fit (part x lev c l):=fun p hp=>h p (lM.1 hp).1
theorem Ee{B:Nat}{f:List Pr→List UInt8}:∀{ls:List (List Pr)},(∀L∈ls,2≤L.length∧(f L).length≤9+L.length*B)→(ls.flatMap f).length≤ls.flatten.length*(B+9)
 | [],_=>by simp
 |L::ls,h=>by
  have h1:=h L (au ..);have h2:=Ee (ls:=ls) fun M hM=>h M (aM _ hM)
  rw[aQ,ac,List.flatten_cons,ac,kO];have:L.length*(B+9)=L.length*B+L.length*9:=Nat.mul_add ..;omega
theorem rO{x:Hs}:∀(m:Nat) {l:List Pr},Fit l→(jm x m l).length≤9+l.length*(20004+9*(m+1))
 |0,l,h=>by
  have:=pt h;unfold jm;rw[aq,ac,fd];have:l.length*20004≤l.length*(20004+9*(0+1)):=lF _ (by omega);omega
 |m+1,l,h=>by
  have h1:=pt (l:=fZ x (12-m) l) fun p hp=>h p (rg hp)
  have h2:=Ee (f:=jm x m) (ls:=mJ x (12-m) l) (B:=20004+9*(m+1)) fun L hL=>by
   obtain⟨h3,c,rfl⟩:=rh hL;exact⟨h3,rO m h.part⟩
  have h4:=Dm x (12-m) l;unfold jm;rw[aq,ac,ac,ac,fd,fd];have h5:(fZ x (12-m) l).length*20004≤(fZ x (12-m) l).length*(20004+9*(m+1+1)):=lF _ (by omega);have h6:((fZ x (12-m) l).length+(mJ x (12-m) l).flatten.length)*(20004+9*(m+1+1))≤l.length*(20004+9*(m+1+1)):=dM _ h4;rw[kO]at h6
  have h7:20004+9*(m+1)+9=20004+9*(m+1+1):=by omega
  rw[h7]at h2;omega
end Go.Proofs
