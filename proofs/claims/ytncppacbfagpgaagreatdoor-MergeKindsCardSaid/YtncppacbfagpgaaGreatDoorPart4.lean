/- A part of the proof that the named laws of this program answer true, whatever the input. -/
import Derived.Test.YtncppacbfagpgaaGreatDoorPart3
import Derived.Test.YtncppacbfagpgaaGreatDoorLift3
open Bool renaming and_eq_true→bC
open Int renaming tmod→kM
open List renaming length_singleton→aI,cons→fe,cons_append→cK,mem_cons_self→av,mem_cons→aB,pairwise_cons→aD,length_cons→ar,length_append→ac,flatMap_cons→aN,append_nil→aJ,append_assoc→au,filter_append→eo,mem_filter→de,nil_append→cN,pairwise_append→cl,mem_singleton→aF,mem_append→bG,getElem?_append_right→aX,getElem?_append_left→cn,getElem?_eq_some_iff→bJ
open List.Pairwise renaming nil→ee
open Nat renaming zero_add→aM,lt_of_lt_of_le→aQ,le_refl→aq,mul_le_mul_right→cy,zero_le→aW
namespace Go.Proofs
open Go Go.Lift
theorem aS{h:ae}{cs:List Value}{t:TypeId}{k:ae→Prop}(hk:∀h',h'[h.size]? =some (.cells cs.toArray t (0,0))→Upd No h h'→k h'):At (hnew h cs t) k:=
 bE (hk _ (cq h cs t) (Upd.hnew No h cs t))
theorem vc{h:ae}{b:Nat}{c:Array Value}{t:TypeId}(hb:h[b]? =some (.cells c t (0,0))) (i:Nat):aP h (adr ⟨b,0,none⟩ i)=c[i]?:=by rw[bX,aM];exact bq hb
theorem js{h:ae}{b:Nat}{c:Array Value}{t:TypeId}(hb:h[b]? =some (.cells c t (0,0))) (i j:Nat):aP h (adr (adr ⟨b,0,none⟩ i) j)=c[i+j]?:=by rw[bX,bX,aM];exact bq hb
theorem uU{h:ae}{b i:Nat}{c c':Array Value}{t:TypeId}{v:Value}{k:ae→Prop}(hb:h[b]? =some (.cells c t (0,0))) (hi:i<c.size) (e:c.setIfInBounds i v=c') (hk:∀h',h'[b]? =some (.cells c' t (0,0))→Upd (· =b) h h'→k h'):Wr h (adr ⟨b,0,none⟩ i)∧At (hset h (adr ⟨b,0,none⟩ i) v) k:=by
 rw[bX,aM];exact⟨ii hb hi,tD hb fun h' hb' hu=>hk h' (e▸hb') hu⟩
theorem _root_.Go.Lift.Upd.own{h h1 h2:ae}{b:Nat}(k:Upd No h h1)(hu:Upd (· =b) h1 h2)(hb:h.size≤b):Upd No h h2:=k.trans hu fun x hx=>.inr (by have hx:x=b:=hx;omega)
theorem _root_.Go.Lift.Upd.oth{h h':ae}{b c:Nat}{o:Obj}(hu:Upd (· =b) h h')(hc:h[c]? =some o) (hne:c≠b):h'[c]? =some o:=hu.get hc hne
abbrev Tr:=Int×Int×Int×Int×(Option Addr)×(Option Addr)
abbrev ly(t:Tr):List Value:= [.int .i64 t.1,.int .u64 t.2.1,.int .u64 t.2.2.1,.int .u64 t.2.2.2.1,.pointer t.2.2.2.2.1,.pointer t.2.2.2.2.2]
abbrev A4(t:Tr):Value:=.agg #[.int .i64 t.1,.int .u64 t.2.1,.int .u64 t.2.2.1,.int .u64 t.2.2.2.1,.pointer t.2.2.2.2.1,.pointer t.2.2.2.2.2]
def Pro(W:Nat→Prop)(h h2:ae)(y:Nat):Prop:=W y∨(h.size≤y∧y<h2.size)
theorem Pro.lt{W:Nat→Prop}{h h2:ae}(hW:∀y,W y→y<h.size)(k:Upd No h h2):∀y,Pro W h h2 y→y<h2.size:=fun y hy=>hy.elim (fun h=>aQ (hW y h) k.size) fun h=>h.2
theorem Pro.hm{W:Nat→Prop}{h h2:ae}:∀y,Pro W h h2 y→W y∨h.size≤y:=fun _ hy=>hy.imp id fun h=>h.1
theorem Pro.sub{W:Nat→Prop}{h h2 h3:ae}:∀y,W y→Pro W h h2 y∨h3.size≤y:=fun _ hy=>.inl (.inl hy)
theorem RootAt.less{W W':Nat→Prop}{x:Hs}{h:ae}(hm:∀b,W' b→W b∨h.size≤b){r:Option Addr}{l:List Pr}(t:RootAt W x h r l):RootAt W' x h r l:=t.imp id fun⟨b,e,t⟩=>⟨b,e,TrieAt.less hm t⟩
theorem RadRoot.less{W W':Nat→Prop}{h:ae}(hm:∀b,W' b→W b∨h.size≤b){r:Option Addr}{l:List Pr}(t:RadRoot W h r l):RadRoot W' h r l:=t.imp id fun⟨b,e,t⟩=>⟨b,e,t.less hm⟩
def TreeIs(W:Nat→Prop)(h:ae)(kind:Int)(x:Hs)(t:Tr)(l:List Pr):Prop:=(kind=0∧∃b,t=(0,x.k0,x.k1,x.mask,some ⟨b,0,none⟩,none)∧TrieAt W x h 13 b l)∨(kind=1∧∃b,t=(1,0,0,0,none,some ⟨b,0,none⟩)∧RadAt W h b l)
theorem TreeIs.upd0{W:Nat→Prop}{h h':ae}{kind:Int}{x:Hs}{t:Tr}{l:List Pr}(k:Upd No h h')(i:TreeIs W h kind x t l):TreeIs W h' kind x t l:=
 i.imp (fun⟨e,b,e2,t⟩=>⟨e,b,e2,TrieAt.upd0 k t⟩) fun⟨e,b,e2,t⟩=>⟨e,b,e2,t.upd0 k⟩
theorem TreeIs.less{W W':Nat→Prop}{h:ae}(hm:∀b,W' b→W b∨h.size≤b){kind:Int}{x:Hs}{t:Tr}{l:List Pr}(i:TreeIs W h kind x t l):TreeIs W' h kind x t l:=
 i.imp (fun⟨e,b,e2,t⟩=>⟨e,b,e2,TrieAt.less hm t⟩) fun⟨e,b,e2,t⟩=>⟨e,b,e2,t.less hm⟩
theorem TreeIs.updM{W M:Nat→Prop}{h h':ae}(k:Upd M h h')(hm:∀b,M b→W b∨h.size≤b){kind:Int}{x:Hs}{t:Tr}{l:List Pr}(i:TreeIs W h kind x t l):TreeIs W h' kind x t l:=
 i.imp (fun⟨e,b,e2,t⟩=>⟨e,b,e2,TrieAt.updM k hm t⟩) fun⟨e,b,e2,t⟩=>⟨e,b,e2,t.updM k hm⟩
theorem TreeIs.pro{W:Nat→Prop}{h h2:ae}(k:Upd No h h2){kind:Int}{x:Hs}{t:Tr}{l:List Pr}(i:TreeIs W h kind x t l):TreeIs (Pro W h h2) h2 kind x t l:=(i.less Pro.hm).upd0 k
theorem H7{W:Nat→Prop}{x:Hs}{h:ae}(hW:∀y,W y→y<h.size){K:Option Addr→ae→Prop}(hk:∀h' b,TrieAt W x h' 13 b []→Upd No h h'→K (some ⟨b,0,none⟩) h'):HC PG oz [] [.c .ptr] K h:=by
 refine zB ?_;unfold vn;exact pE hW fun h' b nd hu=>hk h' b (LW nd) hu
abbrev HL:Tr:=(0,0,0,0,none,none)
theorem D1{W:Nat→Prop}{x:Hs}{h:ae}{r:Option Addr}{l:List Pr}(t:RootAt W x h r l)(hW:∀y,W y→y<h.size){K:Tr→ae→Prop}(hk:∀h' t,TreeIs W h' 0 x t l→Upd No h h'→K t h'):HC PG pN [.agg #[.int .u64 x.k0,.int .u64 x.k1,.int .u64 x.mask],.pointer r] [.agg [.int .i64,.int .u64,.int .u64,.int .u64,.ptr,.ptr]] K h:=by
 refine G6 (x.k0,x.k1,x.mask) r ?_;unfold yv aU af aH di zt xB Fz;refine aS fun h1 b1 k1=>aS fun h2 b2 k2=>?_
 have z1:=aZ b1;have z2:=aZ b2;have k02:=k1.tr k2;refine Join.intro (fun t h'=>Upd No h2 h'∧∃b,t=some ⟨b,0,none⟩∧TrieAt (Pro W h h2) x h' 13 b l) (fun R hR=>?_) ?_
 ·rcases t with⟨rfl,rfl⟩|⟨b,rfl,t⟩
  ·exact ay.2 (H7 (Pro.lt hW k02) fun h3 b t hu3=>hR _ _ ⟨hu3,b,rfl,t⟩)
  ·exact aj.2 (hR _ _ ⟨Upd.refl _ _,b,rfl,TrieAt.upd0 k02 (TrieAt.less Pro.hm t)⟩)
 ·rintro t3 h3 ⟨hu3,b,rfl,t3⟩
  have c1:=hu3.get0 (k2.get0 b1);refine⟨_,vc c1 0,_,vc c1 1,_,vc c1 2,?_⟩;refine cO (c:=ly HL) (vs:=ly (0,x.k0,x.k1,x.mask,some ⟨b,0,none⟩,none)) (hu3.get0 b2) rfl fun h4 b4 hu4=>?_
  refine⟨_,vc b4 0,_,vc b4 1,_,vc b4 2,_,vc b4 3,_,vc b4 4,_,vc b4 5,?_⟩;have hb1:h.size≤h1.size:=k1.size;exact hk h4 _ (.inl ⟨rfl,b,rfl,TrieAt.less Pro.sub (TrieAt.updM hu4 (fun y hy=>.inl (.inr (by have hy:y=h1.size:=hy;omega))) t3)⟩) ((k02.tr hu3).own hu4 hb1)
theorem L2{W:Nat→Prop}{x:Hs}{h:ae}{r:Option Addr}{l:List Pr}(t:RadRoot W h r l)(hW:∀y,W y→y<h.size){K:Tr→ae→Prop}(hk:∀h' t,TreeIs W h' 1 x t l→Upd No h h'→K t h'):HC PG pM [.pointer r] [.agg [.int .i64,.int .u64,.int .u64,.int .u64,.ptr,.ptr]] K h:=by
 refine G5 r ?_;unfold yu aU af aH di xB Fz;refine aS fun h2 b2 k02=>?_
 have z2:=aZ b2;refine Join.intro (fun t h'=>Upd No h2 h'∧∃b,t=some ⟨b,0,none⟩∧RadAt (Pro W h h2) h' b l) (fun R hR=>?_) ?_
 ·rcases t with⟨rfl,rfl⟩|⟨b,rfl,t⟩
  ·exact ay.2 (FR (Pro.lt hW k02) fun h3 b t hu3=>hR _ _ ⟨hu3,b,rfl,t⟩)
  ·exact aj.2 (hR _ _ ⟨Upd.refl _ _,b,rfl,(t.less Pro.hm).upd0 k02⟩)
 ·rintro t3 h3 ⟨hu3,b,rfl,t3⟩
  refine cO (c:=ly HL) (vs:=ly (1,0,0,0,none,some ⟨b,0,none⟩)) (hu3.get0 b2) rfl fun h4 b4 hu4=>?_
  refine⟨_,vc b4 0,_,vc b4 1,_,vc b4 2,_,vc b4 3,_,vc b4 4,_,vc b4 5,?_⟩;exact hk h4 _ (.inr ⟨rfl,b,rfl,(t3.updM hu4 (fun y hy=>.inl (.inr (by have hy:y=h.size:=hy;omega)))).less Pro.sub⟩) ((k02.tr hu3).own hu4 (aq _))
theorem Qq{W:Nat→Prop}{x:Hs}{h:ae}(hW:∀y,W y→y<h.size){kind:Int}(hkd:kind=0∨kind=1){K:Tr×Int→ae→Prop}(hk:∀h' t,TreeIs W h' kind x t []→Upd No h h'→K (t,0) h'):HC PG wI [.int .i64 kind,.agg #[.int .u64 x.k0,.int .u64 x.k1,.int .u64 x.mask]] [.agg [.int .i64,.int .u64,.int .u64,.int .u64,.ptr,.ptr],.c (.int .i64)] K h:=by
 refine PC kind (x.k0,x.k1,x.mask) ?_;unfold He aU af aH di zt vr xB pj Am;refine aS fun h1 b1 k1=>aS fun h2 b2 k2=>?_
 have z1:=aZ b1;have z2:=aZ b2;have k02:=k1.tr k2;have hb1:h.size≤h1.size:=k1.size;have c1:=k2.get0 b1;rcases hkd with rfl|rfl
 ·refine ay.2 ⟨_,vc c1 0,_,vc c1 1,_,vc c1 2,?_⟩
  refine D1 (W:=Pro W h h2) (x:=x) (l:= []) (.inl ⟨rfl,rfl⟩) (Pro.lt hW k02) fun h3 t i3 hu3=>?_
  refine cO (c:=ly HL) (vs:=ly t) (hu3.get0 b2) rfl fun h4 b4 hu4=>?_
  refine⟨_,vc b4 0,_,vc b4 1,_,vc b4 2,_,vc b4 3,_,vc b4 4,_,vc b4 5,?_⟩;exact hk h4 t ((i3.updM hu4 (fun y hy=>.inl (.inr (by have hy:y=h1.size:=hy;omega)))).less Pro.sub) ((k02.tr hu3).own hu4 hb1)
 ·refine aj.2 (ay.2 ?_)
  refine L2 (W:=Pro W h h2) (x:=x) (l:= []) (.inl ⟨rfl,rfl⟩) (Pro.lt hW k02) fun h3 t i3 hu3=>?_
  refine cO (c:=ly HL) (vs:=ly t) (hu3.get0 b2) rfl fun h4 b4 hu4=>?_
  refine⟨_,vc b4 0,_,vc b4 1,_,vc b4 2,_,vc b4 3,_,vc b4 4,_,vc b4 5,?_⟩;exact hk h4 t ((i3.updM hu4 (fun y hy=>.inl (.inr (by have hy:y=h1.size:=hy;omega)))).less Pro.sub) ((k02.tr hu3).own hu4 hb1)
theorem Jg{k v:ByteArray}(h1:k.size≤256)(h2:v.size≤4096){h:ae}{K:Int→ae→Prop}(hk:K 0 h):HC PG sG [.string k,.string v] [.c (.int .i64)] K h:=by
 refine Lw k v ?_;unfold CA;refine az (fun h=>absurd h (by omega)) fun _=>az (fun h=>absurd h (by omega)) fun _=>hk
theorem LZ{W:Nat→Prop}{x:Hs}{h:ae}{kind:Int}{t:Tr}{l:List Pr}(i:TreeIs W h kind x t l)(hW:∀y,W y→y<h.size)(hr:bO l)(hn:l.length≤1000000)(p:Pr)(hp1:p.1.size≤256)(hp2:p.2.size≤4096){K:Tr×Int→ae→Prop}
  (hk:∀h' t',TreeIs W h' kind x t' (gC p l)→(p∈l→t'=t)→Upd No h h'→K (t',0) h'):HC PG np [A4 t,.pointer none,.agg #[.string p.1,.string p.2]] [.agg [.int .i64,.int .u64,.int .u64,.int .u64,.ptr,.ptr],.c (.int .i64)] K h:=by
 refine DD t none p ?_;unfold vV aU af cM aH di vr xB pj Fz aw ij cr dS wq qn sA;refine aS fun h1 b1 k1=>aS fun h2 b2 k2=>aS fun h3 b3 k3=>?_
 have z1:=aZ b1;have z2:=aZ b2;have z3:=aZ b3;have s1:h.size≤h1.size:=k1.size;have s2:h1.size≤h2.size:=k2.size;have s3:=k3.size;have k03:=(k1.tr k2).tr k3;have v1:=k3.get0 (k2.get0 b1);have v2:=k3.get0 b2;have i3:=i.pro k03;have hW3:=Pro.lt hW k03;refine⟨_,vc v2 0,_,vc v2 1,Jg hp1 hp2 (aj.2 ?_)⟩;rcases i3 with⟨rfl,b,rfl,t3⟩|⟨rfl,b,rfl,t3⟩
 ·refine⟨_,vc v1 0,aj.2 ⟨_,js v1 1 0,_,js v1 1 1,_,js v1 1 2,_,vc v1 4,p.1,vc v2 0,p.2,vc v2 1,?_⟩⟩
  refine M9 (.inr ⟨b,rfl,t3⟩) hW3 hr hn p fun h4 b4 hu4 t4 hsame=>?_
  refine uU (i:=4) (c':=(ly (0,x.k0,x.k1,x.mask,some ⟨b4,0,none⟩,none)).toArray) (hu4.get0 v1) (show 4<6 by decide) rfl fun h5 v5 hu5=>?_
  refine⟨_,vc v5 0,_,vc v5 1,_,vc v5 2,_,vc v5 3,_,vc v5 4,_,vc v5 5,?_⟩;refine cO (c:=ly HL) (vs:=ly (0,x.k0,x.k1,x.mask,some ⟨b4,0,none⟩,none)) (hu5.oth (hu4.get0 b3) (by omega)) rfl fun h6 v6 hu6=>?_
  refine⟨_,vc v6 0,_,vc v6 1,_,vc v6 2,_,vc v6 3,_,vc v6 4,_,vc v6 5,?_⟩;refine hk h6 _ (.inl ⟨rfl,b4,rfl,TrieAt.less Pro.sub (TrieAt.updM hu6 (fun y hy=>.inl (.inr (by have hy:y=h2.size:=hy;omega))) (TrieAt.updM hu5 (fun y hy=>.inl (.inr (by have hy:y=h.size:=hy;omega))) t4))⟩) (fun hm=>?_) (((k03.tr hu4).own hu5 (aq _)).own hu6 (by omega))
  rcases hsame hm with e|e
  ·rw[e]
  ·cases e
 ·refine⟨_,vc v1 0,ay.2 ⟨_,vc v1 5,p.1,vc v2 0,p.2,vc v2 1,?_⟩⟩
  refine Mh (.inr ⟨b,rfl,t3⟩) hW3 hr p (by omega) fun h4 b4 added hu4 t4 hsame=>?_
  refine uU (i:=5) (c':=(ly (1,0,0,0,none,some ⟨b4,0,none⟩)).toArray) (hu4.get0 v1) (show 5<6 by decide) rfl fun h5 v5 hu5=>?_
  refine⟨_,vc v5 0,_,vc v5 1,_,vc v5 2,_,vc v5 3,_,vc v5 4,_,vc v5 5,?_⟩;refine cO (c:=ly HL) (vs:=ly (1,0,0,0,none,some ⟨b4,0,none⟩)) (hu5.oth (hu4.get0 b3) (by omega)) rfl fun h6 v6 hu6=>?_
  refine⟨_,vc v6 0,_,vc v6 1,_,vc v6 2,_,vc v6 3,_,vc v6 4,_,vc v6 5,?_⟩;refine hk h6 _ (.inr ⟨rfl,b4,rfl,((t4.updM hu5 (fun y hy=>.inl (.inr (by have hy:y=h.size:=hy;omega)))).updM hu6 (fun y hy=>.inl (.inr (by have hy:y=h2.size:=hy;omega)))).less Pro.sub⟩) (fun hm=>?_) (((k03.tr hu4).own hu5 (aq _)).own hu6 (by omega))
  rcases hsame hm with e|e
  ·rw[e]
  ·cases e
end Go.Proofs
namespace Go.Proofs
open Go Go.Lift
def jj(t u:Tr):Bool:=(t.1==u.1)&&((((t.2.1==u.2.1)&&((t.2.2.1==u.2.2.1)&&true)))&&((t.2.2.2.1==u.2.2.2.1)&&true))
theorem xG{t u:Tr}{h:ae}{K:Bool→ae→Prop}(hk:∀h',Upd No h h'→K (jj t u) h'):HC PG rm [A4 t,A4 u] [.c .bool] K h:=by
 refine Nh t u ?_;unfold Eu aU cM pj;refine aS fun h1 b1 k1=>aS fun h2 b2 k2=>?_
 have c1:=k2.get0 b1;refine⟨_,vc c1 0,_,vc b2 0,?_⟩;have:=hk h2 (k1.tr k2);unfold jj at this;rcases hb:(t.1==u.1)with _|_
 ·rw[hb]at this
  exact aj.2 this
 ·rw[hb]at this
  exact ay.2 ⟨_,js c1 1 0,_,js c1 1 1,_,js c1 1 2,_,js b2 1 0,_,js b2 1 1,_,js b2 1 2,this⟩
theorem yF{W:Nat→Prop}{x:Hs}{h:ae}{b:Nat}{l:List Pr}(t:TrieAt W x h 13 b l){K:Option Addr→ae→Prop}(hk:∀h',Upd No h h'→K (some ⟨b,0,none⟩) h'):HC PG iQ [A4 (0,x.k0,x.k1,x.mask,some ⟨b,0,none⟩,none)] [.c .ptr] K h:=by
 refine Cc (0,x.k0,x.k1,x.mask,some ⟨b,0,none⟩,none) ?_;unfold uE aU aH pj;refine aS fun h1 b1 k1=>?_
 refine Join.intro (fun t h'=>t=false∧h'=h1) (fun R hR=>⟨_,vc b1 0,ay.2 ⟨_,vc b1 4,hR _ _ ⟨rfl,rfl⟩⟩⟩) ?_
 rintro t h' ⟨rfl,rfl⟩;exact aj.2 ⟨_,vc b1 4,hk h' k1⟩
def JV(kind:Int)(x:Hs)(l:List Pr)(xs:List UInt8):Prop:=(kind=0∧xs=0::fG x 13 l)∨(kind=1∧∃ys,Pw l ys∧xs=1::ys)
theorem yV{h h1:ae}{b:UInt8}(hb:h1[h.size]? =some (.cells #[.int .u8 (b.toNat:Int)] cH (0,0))):OwnS pu 1 cH (fun y=>h.size≤y) h1 ⟨some ⟨h.size,0,none⟩,1,1⟩ [b]:=⟨rfl,tC,aq _,.inr ⟨h.size,[],rfl,aq _,hb,rfl⟩⟩
theorem RA{W:Nat→Prop}{x:Hs}{h:ae}{kind:Int}{t:Tr}{l:List Pr}(i:TreeIs W h kind x t l)(hr:bO l)(hf:Fit l)(hn:l.length≤60000){K:SliceV→ae→Prop}
  (hk:∀s' h' xs,JV kind x l xs→OwnS pu 1 cH (fun y=>h.size≤y) h' s' xs→Upd No h h'→K s' h'):HC PG pJ [A4 t] [.c .slice] K h:=by
 refine B9 t ?_;unfold uB aU af aH pj sQ;refine aS fun h1 b1 k1=>?_
 have z1:=k1.size;have app:∀{b:UInt8} {h2 h3:ae} {s:SliceV} {xs:List UInt8},h2[h1.size]? =some (.cells #[.int .u8 (b.toNat:Int)] cH (0,0))→Upd No h1 h2→OwnS pu 1 cH (fun y=>h2.size≤y) h3 s xs→Upd No h2 h3→xs.length≤70000000000000→JV kind x l (b::xs)→
   ∃xs7,SRow h3 s.a (s.len*1) xs7∧AppP (some [.int .u8 0]) 1 1 cH (some (aE h1)) 1 1 s.len xs7 h3 (fun s8 h9=>K s8 h9):=fun{b h2 h3 s xs} hb k2 ho k3 hl hv=>by
  refine⟨_,(ho.sl (W:=No) fun _ _ _ h=>h).srow,?_⟩
  have k13:=k2.tr k3;have hz:=aZ hb;have o1:OwnS pu 1 cH (fun y=>h.size≤y) h3 ⟨some ⟨h1.size,0,none⟩,1,1⟩ [b]:=((yV hb).upd k3 fun _ _ h=>h).more fun y hy=>by omega
  refine AppP.own (ys:=xs) o1 ho.len rfl (Bq _) rfl (by omega) (by simp only[aI];omega) (by have:=k13.size;omega) fun s' h' ho' hu'=>?_
  exact hk s' h' _ hv ho' ((k1.tr k13).trans hu' fun y hy=>.inr hy)
 rcases i with⟨rfl,b,rfl,t⟩|⟨rfl,b,rfl,t⟩
 ·refine⟨_,vc b1 0,aj.2 (aS fun h2 b2 k2=>?_)⟩
  have c1:=k2.get0 b1;refine⟨_,vc c1 0,_,vc c1 1,_,vc c1 2,_,vc c1 3,_,vc c1 4,_,vc c1 5,?_⟩;refine yF (TrieAt.upd0 (k1.tr k2) t) fun h3 k3=>?_
  refine VS (TrieAt.upd0 ((k1.tr k2).tr k3) t) hf hn fun s4 h4 ho4 k4=>?_
  have z3:=k3.size;have hlen:=oU (x:=x) 13 hf;have hb:l.length*(20004+9*(13+1))≤60000*(20004+9*(13+1)):=cy _ hn;exact app (b:=0) b2 k2 (ho4.more fun y hy=>by omega) (k3.tr k4) (by omega) (.inl ⟨rfl,rfl⟩)
 ·refine⟨_,vc b1 0,ay.2 (aS fun h2 b2 k2=>?_)⟩
  have c1:=k2.get0 b1;refine⟨_,vc c1 5,?_⟩;refine Mj (t.upd0 (k1.tr k2)) hr hf hn fun s4 h4 xs hv ho4 k4=>?_
  have hlen:=Bm hv hf;have hb:2*l.length*20010≤2*60000*20010:=cy _ (by omega);exact app (b:=1) b2 k2 ho4 k4 (by omega) (.inr ⟨rfl,xs,hv,rfl⟩)
theorem Sj{W W':Nat→Prop}{h h':ae}{kind kind':Int}{x x':Hs}{t u:Tr}{l l':List Pr}(i:TreeIs W h kind x t l)(i':TreeIs W' h' kind' x' u l')(hl:jj t u=true):kind=kind'∧(kind=0→x=x'):=by
 rcases i with⟨rfl,b,rfl,_⟩|⟨rfl,b,rfl,_⟩<;>rcases i' with⟨rfl,b',rfl,_⟩|⟨rfl,b',rfl,_⟩
 ·refine⟨rfl,fun _=>?_⟩
  unfold jj at hl;simp only[bC,beq_iff_eq,Bool.and_true,true_and]at hl;cases x;cases x';simp only at hl;simp only[Hs.mk.injEq];exact⟨hl.1.1,hl.1.2,hl.2⟩
 ·simp[jj]at hl
 ·simp[jj]at hl
 ·exact⟨rfl,fun h=>by cases h⟩
theorem Tw{kind:Int}{x x':Hs}(hx:kind=0→x=x'){l l':List Pr}{xs xs':List UInt8}(hv:JV kind x l xs)(hv':JV kind x' l' xs')(hf:Fit l)(hf':Fit l')(hn:l.length≤60000)(hn':l'.length≤60000)(hr:bO l)(hr':bO l'):xs=xs'↔l=l':=by
 rcases hv with⟨rfl,rfl⟩|⟨rfl,ys,hv,rfl⟩<;>rcases hv' with⟨e,rfl⟩|⟨e,ys',hv',rfl⟩
 ·rw[hx rfl]
  constructor
  ·intro h
   have h:fG x' 13 l++ []=fG x' 13 l'++ []:=by rw[(fe.inj h).2]
   exact(FL 13 hf hf' hn hn' hr hr' h).1
  ·rintro rfl;rfl
 ·cases e
 ·cases e
 ·rw[fe.injEq,←V0 hv hv' hf hf']
  exact⟨fun h=>h.2,fun h=>⟨rfl,h⟩⟩
theorem TreeIs.plain{W:Nat→Prop}{h:ae}{kind:Int}{x:Hs}{t:Tr}{l:List Pr}(i:TreeIs W h kind x t l):(∀a,t.2.2.2.2.1=some a→f8 h a)∧(∀a,t.2.2.2.2.2=some a→f8 h a):=by
 rcases i with⟨rfl,b,rfl,t⟩|⟨rfl,b,rfl,t⟩
 ·obtain⟨s,nd,_⟩:=t
  obtain⟨d,n,sp,sk,ow,hb,_⟩:=nd.ex;refine⟨fun a ha=>?_,fun a ha=>(by cases ha)⟩
  cases ha;exact⟨_,_,hb,show 0<6 by decide⟩
 ·obtain⟨w,F,⟨val,s,ow,ks,hb,_⟩,_⟩:=t.ex
  refine⟨fun a ha=>(by cases ha),fun a ha=>?_⟩
  cases ha;exact⟨_,_,hb,show 0<5 by decide⟩
end Go.Proofs
namespace Go.Proofs
open Go Go.Lift
abbrev zPrL:List Value:= [.string (⟨#[]⟩:ByteArray),.string (⟨#[]⟩:ByteArray)]
theorem qo{h:ae}{t:TypeId}{p:Pr}{k:ae→Prop}(hk:∀h',h'[h.size]? =some (.cells #[.string p.1,.string p.2] t (0,0))→Upd No h h'→k h'):
  At (hnew h [.string (⟨#[]⟩:ByteArray),.string (⟨#[]⟩:ByteArray)] t) fun h8=>r9 h8 (some (aE h)) 0 [.string p.1,.string p.2]∧At (gG h8 (aE h) 0 [.string p.1,.string p.2]) k:=by
 refine aS fun h1 b1 k1=>?_
 exact cO (c:=zPrL) (vs:= [.string p.1,.string p.2]) b1 rfl fun h2 b2 hu2=>hk h2 b2 (k1.own hu2 (aq _))
theorem tE{t:TypeId}{M:Nat→Prop}{h:ae}{so:SliceV}{out:List Pr}{p:Pr}{K:SliceV→ae→Prop}(ho:OwnS eg 2 t M h so out)(hM:∀b,h.size≤b→M b)(hn:out.length+1≤1000000000)
  (hk:∀s' h',OwnS eg 2 t M h' s' (out++ [p])→Upd M h h'→K s' h'):
  ∃xs,SRow (hnew h [.string p.1,.string p.2] t) (some (aE h)) (1*2) xs∧AppP (some [.string (⟨#[]⟩:ByteArray),.string (⟨#[]⟩:ByteArray)]) 2 32 t so.a so.len so.cap 1 xs (hnew h [.string p.1,.string p.2] t) K:=by
 have k:=Upd.hnew No h [.string p.1,.string p.2] t;have h1:OwnS eg 2 t (fun _=>True) (hnew h [.string p.1,.string p.2] t) ⟨some (aE h),1,1⟩ [p]:=⟨rfl,fk,aq _,.inr ⟨h.size,[],rfl,trivial,cq ..,rfl⟩⟩
 refine⟨_,(h1.sl (W:=No) fun _ _ _ h=>h).srow,?_⟩
 refine AppP.own (ys:= [p]) (ho.upd k fun _ _ h=>h) rfl rfl rfl rfl (by omega) (by simp only[aI];omega) (hM _ (by rw[iM];omega)) fun s' h' ho' hu=>?_
 exact hk s' h' ho' ((Upd.hnew M h _ _).tr hu)
theorem BD{p:Pr}:∀{A B:List Pr},(∀r∈A,kl r.1 p.1)→gC p (A++B)=A++gC p B
 | [],_,_=>rfl
 |r::A,B,h=>by
  rw[cK,fX,if_pos (h r (av ..)),BD fun q hq=>h q (List.mem_cons_of_mem _ hq)];rfl
theorem MR{p q:Pr}:∀{A:List Pr},(∃r∈A,kl p.1 r.1)→gC p (A++ [q])=gC p A++ [q]
 | [],h=>by obtain⟨r,hr,_⟩:=h;simp at hr
 |r::A,h=>by
  rw[cK,fX,fX];by_cases h1:kl r.1 p.1
  ·rw[if_pos h1,if_pos h1,MR]
   ·rfl
   ·obtain⟨r',hr',hk⟩:=h
    rcases aB.1 hr' with rfl|hr'
    ·exact absurd (gq h1 hk) (cg _)
    ·exact⟨r',hr',hk⟩
  ·rw[if_neg h1,if_neg h1]
   by_cases h2:r.1=p.1
   ·rw[if_pos h2,if_pos h2];rfl
   ·rw[if_neg h2,if_neg h2];rfl
theorem MP{p:Pr}:∀{l:List Pr},(∀q∈l,kl p.1 q.1)→gC p l=p::l
 | [],_=>rfl
 |q::l,h=>by
  have h1:=h q (av ..);rw[fX,if_neg fun h2=>cg _ (gq h1 h2),if_neg fun e=>by rw[e]at h1;exact cg _ h1]
theorem Jz{p:Pr}:∀{l:List Pr},bO l→gC p (l.filter fun q=>decide (q.1≠p.1))=gC p l
 | [],_=>rfl
 |r::l,hr=>by
  have hr:=aD.1 hr;have keep:∀{l:List Pr},(∀q∈l,kl p.1 q.1)→(l.filter fun q=>decide (q.1≠p.1))=l:=fun{l} h=>List.filter_eq_self.2 fun q hq=>decide_eq_true fun e=>by have:=h q hq;rw[e]at this;exact cg _ this
  rw[List.filter_cons,fX];by_cases e:r.1=p.1
  ·have hl:∀q∈l,kl p.1 q.1:=fun q hq=>by rw[←e];exact hr.1 q hq
   rw[if_neg (by simp[e]),if_neg (by rw[e];exact cg _),if_pos e,keep hl,MP hl]
  ·rw[if_pos (by simpa using e),fX]
   by_cases h1:kl r.1 p.1
   ·rw[if_pos h1,if_pos h1,Jz hr.2]
   ·rw[if_neg h1,if_neg h1,if_neg e,if_neg e]
    have h2:=pG h1 e;rw[keep fun q hq=>gq h2 (hr.1 q hq)]
theorem lE{i n:Nat}(h:i<n)(hn:n≤9223372036854775807):IntKind.wrap .i64 ((i:Int)+1)=((i+1:Nat):Int):=by rw[Go.IntWalk.i64_in _ (by omega)];omega
theorem yP(p:Pr):∀{l:List Pr},(gC p l).length≤l.length+1
 | []=>aq _
 |q::l=>by
  rw[fX];split
  ·have:=yP p (l:=l);simp only[ar];omega
  ·split<;>simp
theorem Dh{W W':Nat→Prop}{h h':ae}{kind:Int}{x:Hs}{t u:Tr}{l l':List Pr}(i:TreeIs W h kind x t l)(i':TreeIs W' h' kind x u l'):jj t u=true:=by
 rcases i with⟨rfl,b,rfl,_⟩|⟨rfl,b,rfl,_⟩<;>rcases i' with⟨e,b',rfl,_⟩|⟨e,b',rfl,_⟩
 ·simp[jj]
 ·cases e
 ·cases e
 ·simp[jj]
theorem YR{k:Int}(h0:0≤k)(h1:k≤255):IntKind.wrap .i64 (kM k 2)=0∨IntKind.wrap .i64 (kM k 2)=1:=by
 have:kM k 2=k%2:=Int.tmod_eq_emod_of_nonneg h0;rw[this,gD (by omega)];omega
abbrev hsL(x:Hs):List Value:= [.int .u64 x.k0,.int .u64 x.k1,.int .u64 x.mask]
end Go.Proofs
namespace Go.Proofs
open Go Go.Lift
abbrev Wk:=Option Addr×ByteArray×Bool
theorem OwnS.pop{α:Type}{f:α→List Value}{sz:Nat}{t:TypeId}{M:Nat→Prop}{h:ae}{s:SliceV}{xs:List α}{x:α}(ho:OwnS f sz t M h s (xs++ [x])):OwnS f sz t M h ⟨bj s.a 0 s.cap sz,xs.length,s.cap⟩ xs:=by
 have hl:=ho.len;have hc:=ho.cap;rw[ac,aI]at hl;refine⟨rfl,ho.ne,by simp only;omega,ho.blk.imp id fun⟨b,rest,ha,hb,aP,hr⟩=>⟨b,f x++rest,?_,hb,?_,?_⟩⟩
 ·simp only;rw[ha,sub_zero]
 ·rw[aP,List.flatMap_append,aN,List.flatMap_nil,aJ,au]
 ·rw[ac,(ho.ne x).1,hr]
  simp only;have:s.cap-xs.length=(s.cap-s.len)+1:=by omega
  rw[this,Nat.add_mul];omega
structure It where
 b:Nat
 ah:ByteArray
 own:Bool
 sl:ByteArray
 w:Option ByteArray
 F:Fo
def It.raw(i:It):Wk:=(some ⟨i.b,0,none⟩,i.ah,i.own)
def It.key(i:It):List UInt8:=i.ah.data.toList++i.sl.data.toList
def It.cost(i:It):Nat:=if i.own then 1 else 2+2*Le i.F
end Go.Proofs
namespace Go.Proofs
open Go Go.Lift
theorem mN{W:Nat→Prop}{h:ae}{b:Nat}{sl:ByteArray}{w:Option ByteArray}{F:Fo}(r:RxN W h b sl w F){K:ByteArray→ae→Prop}(hk:K sl h):HC PG eh [.pointer (some ⟨b,0,none⟩)] [.c .str] K h:=by
 refine AR _ ?_;unfold tQ aO;obtain⟨val,s,ow,ks,hb,_⟩:=r;exact aj.2 ⟨_,rfl,sl,eT (i:=0) hb,hk⟩
theorem FP{W:Nat→Prop}{h:ae}{b:Nat}{sl:ByteArray}{w:Option ByteArray}{F:Fo}(r:RxN W h b sl w F){K:ByteArray×Bool→ae→Prop}(hk:∀v,(∀u,w=some u→v=u)→K (v,w.isSome) h):HC PG im [.pointer (some ⟨b,0,none⟩)] [.c .str,.c .bool] K h:=by
 refine tG _ ?_;unfold pb aO cP;obtain⟨val,s,ow,ks,hb,hv,_⟩:=r;exact aj.2 ⟨_,rfl,val,eT (i:=2) hb,_,rfl,w.isSome,eT (i:=1) hb,hk val (vw hv)⟩
theorem Mb{W:Nat→Prop}{h:ae}{b:Nat}{sl:ByteArray}{w:Option ByteArray}{F:Fo}(r:RxN W h b sl w F){K:ByteArray×Bool→ae→Prop}(hk:K (w.getD ⟨#[]⟩,w.isSome) h):HC PG im [.pointer (some ⟨b,0,none⟩)] [.c .str,.c .bool] K h:=by
 refine tG _ ?_;unfold pb aO cP;obtain⟨val,s,ow,ks,hb,rfl,_⟩:=r;exact aj.2 ⟨_,rfl,_,eT (i:=2) hb,_,rfl,w.isSome,eT (i:=1) hb,hk⟩
theorem CZ{W:Nat→Prop}{h:ae}{b:Nat}{sl:ByteArray}{w:Option ByteArray}{F:Fo}(r:RxN W h b sl w F)(hn:F.toL.length≤256){K:SliceV→ae→Prop}(hk:∀s' h' ks,OwnS ua 1 cf (fun y=>h.size≤y) h' s' ks→RxL W h' ks F.toL→Upd No h h'→K s' h'):HC PG kA [.pointer (some ⟨b,0,none⟩)] [.c .slice] K h:=by
 refine Ci _ ?_;unfold uI bR;obtain⟨val,s,ow,ks,hb,hv,hs,_,hF⟩:=r;have hL:=oM.1 hF;refine aj.2 ⟨_,rfl,s,eT (i:=3) hb,?_⟩;refine JP hs (by rw[hL.1];omega) fun s' h' ho hu=>hk s' h' ks ho (hL.upd0 hu) hu
def It.Ok(W:Nat→Prop)(h:ae)(i:It):Prop:=RxN W h i.b i.sl i.w i.F∧gJ i.F∧i.key.length≤10000∧∀p∈vz i.w i.F,i.key.length+p.1.length≤10000
theorem It.Ok.updM{W M:Nat→Prop}{h h':ae}(k:Upd M h h')(hm:∀b,M b→W b∨h.size≤b){i:It}(o:It.Ok W h i):It.Ok W h' i:=⟨o.1.updM k hm,o.2⟩
theorem RZ(lab:List UInt8)(w:Option ByteArray)(kids rest:Fo):y5 (.cons lab w kids rest)=((w.map fun v=>(([]:List UInt8),v)).toList++y5 kids).map (fun p=>(lab++p.1,p.2))++y5 rest:=rfl
end Go.Proofs
namespace Go.Proofs
open Go Go.Lift
end Go.Proofs
namespace Go.Proofs
open Go Go.Lift
abbrev X1(x:Pr):List Value:= [.agg #[.string x.1,.string x.2]]
theorem H9{h:ae}{fv:Value}{N:Nat}{S:List Pr→Prop}{Q:Nat→Prop}(hg:Gives PG fv X1 N S Q h)(hN:N≤100000000){K:SliceV→ae→Prop}
  (hk:∀s' h' xs,S xs→OwnS eg 2 al (fun b=>h.size≤b) h' s' xs→Upd No h h'→K s' h'):HC PG fh [.slice none 0 0,fv] [.c .slice] K h:=by
 refine mq ⟨none,0,0⟩ fv ?_;unfold ie nv aw kZ ij wq W9;have k0:=Upd.hnew No h [.slice none 0 0] cZ;have b0:=cq h [.slice none 0 0] cZ;have hsz:(hnew h [.slice none 0 0] cZ).size=h.size+1:=iM ..;have hg1:=hg.upd k0 fun _ _=>id
 refine bE ?_;generalize hnew h [.slice none 0 0] cZ=h1 at hg1 k0 b0 hsz;refine⟨fun lo hlo hround=>?_⟩
 obtain⟨f,first,cap,rfl,hrun⟩:=hg1.run
 refine⟨f,first,cap,rfl,?_⟩
 have k1:Upd No h1 ((h1.push (.deferred (some []))).push (lo .ready none)):=(Upd.push No _ _).tr (Upd.push No _ _);have l2:((h1.push (.deferred (some []))).push (lo .ready none))[h1.size+1]? =some (lo .ready none):=by
  have:=xN (h1.push (.deferred (some []))) (lo .ready none);rwa [Array.size_push]at this
 have l1:((h1.push (.deferred (some []))).push (lo .ready none))[h1.size]? =some (.deferred (some [])):=(Upd.push No _ _).get0 (xN h1 _);refine hrun (.func (.yield (h1.size+1)) #[] #[]) (fun pre A h'=>(∀b,A b→b<h'.size∧h.size≤b)∧A h.size∧A h1.size∧A (h1.size+1)∧h'[h1.size]? =some (.deferred (some []))∧h'[h1.size+1]? =some (lo .ready none)∧
   ∃s:SliceV,h'[h.size]? =some (.cells #[sv s] cZ (0,0))∧OwnS eg 2 al (fun b=>A b∧h1.size+1<b) h' s pre∧pre.length≤N)
  (fun b=>b=h.size∨b=h1.size∨b=h1.size+1) No _ _ ⟨fun _ _ _ hj b hb=>(hj.1 b hb).1,fun pre A h' h'' B hj hu hB=>?_,fun pre A h' x K' hj hlen hK=>?_⟩ ?_ k1 (fun _ _=>id) (fun b hb hq=>?_) ?_
 ·obtain⟨h1',h2,h3,h4,h5,h6,s,h7,h8,h9⟩:=hj
  exact⟨fun b hb=>⟨aQ (h1' b hb).1 hu.size,(h1' b hb).2⟩,h2,h3,h4,hu.get h5 (hB _ h3),hu.get h6 (hB _ h4),s,hu.get h7 (hB _ h2),h8.upd hu fun b hb=>hB b hb.1,h9⟩
 ·obtain⟨hA,hA1,hA2,hA3,hd,hl,s,hs,ho,hpl⟩:=hj
  refine hround x h' K' hl ?_;refine qo (p:=x) fun hp bp kp=>?_
  have zp:=aZ bp;have hl:=kp.get0 hl;have hs:=kp.get0 hs;have hd:=kp.get0 hd;have hop:=ho.upd kp fun _ _ h=>h
  have sp:=kp.size;refine⟨hl,?_⟩;have kb:Upd (· =h1.size+1) hp (hp.setIfInBounds (h1.size+1) (lo .busy none)):=Upd.set _ _ rfl
  have lb:=j4 (o:=lo .busy none) hl;have sb:=kb.size;refine bE ?_;generalize hp.setIfInBounds (h1.size+1) (lo .busy none)=h2 at kb lb sb;have hlt1:=(hA _ hA1).1;have hlt3:=(hA _ hA3).1;have bp2:=kb.get bp (by omega);have hs2:=kb.get hs (by omega);refine⟨s,by rw[cV,bq hs2];rfl,_,vc bp2 0,_,vc bp2 1,bE ?_⟩
  refine tE (p:=x) (M:=fun b=>((A b∧b<h'.size)∨h2.size≤b)∧h1.size+1<b) ((hop.upd kb fun b hb=>by omega).more fun b hb=>⟨.inl ⟨hb.1,(hA b hb.1).1⟩,hb.2⟩) (fun b hb=>⟨.inr hb,by have:=aZ lb;omega⟩) (by omega) fun s' h3 ho3 hu3=>?_
  have hs3:h3[h.size]? =some (.cells #[sv s] cZ (0,0)):=hu3.get hs2 (by omega);refine⟨by rw[cV];exact ii hs3 (by simp),?_⟩;have k4:Upd (· =h.size) h3 (hset h3 (aE h) (.slice s'.a s'.len s'.cap)):=Upd.hset _ _ rfl
  have hs4:(hset h3 (aE h) (.slice s'.a s'.len s'.cap))[h.size]? =some (.cells #[sv s'] cZ (0,0)):=by
   rw[cV,Gp hs3,j4 hs3];rfl
  refine bE ?_;generalize hset h3 (aE h) (.slice s'.a s'.len s'.cap)=h4 at k4 hs4;have hl4:h4[h1.size+1]? =some (lo .busy none):=k4.get (hu3.get lb (by omega)) (by omega);refine⟨hl4,?_⟩;have k5:Upd (· =h1.size+1) h4 (h4.setIfInBounds (h1.size+1) (lo .ready none)):=Upd.set _ _ rfl
  have hl5:=j4 (o:=lo .ready none) hl4;have hall:Upd A h' h4:=((kp.wide.tr (kb.mono (M':=A) fun b hb=>.inl (hb▸hA3))).trans hu3 fun b hb=>hb.1.imp (fun h=>h.1) fun h=>by omega).trans k4 fun b hb=>.inl (hb▸hA1)
  have z3:=hu3.size;have z4:=k4.size;have z5:=k5.size;refine hK _ (fun b=>((A b∧b<h'.size)∨h2.size≤b)∧b<h4.size) ⟨fun b hb=>⟨aQ hb.2 z5,hb.1.elim (fun h=>(hA b h.1).2) fun h=>by omega⟩,⟨.inl ⟨hA1,hlt1⟩,by omega⟩,⟨.inl ⟨hA2,(hA _ hA2).1⟩,by have:=(hA _ hA2).1;omega⟩,⟨.inl ⟨hA3,hlt3⟩,by omega⟩,
   k5.get (k4.get (hu3.get (kb.get hd (by omega)) (by omega)) (by omega)) (by omega),hl5,s',k5.get hs4 (by omega),?_,by simp;omega⟩ (hall.trans k5 fun b hb=>.inl (hb▸hA3)) fun b hb=>hb.1.imp (fun h=>h.1) fun h=>by omega
  exact(((ho3.upd k4 fun b hb=>by omega).within).more fun b hb=>⟨⟨hb.1.1,hb.2⟩,hb.1.2⟩).upd k5 fun b hb=>by omega
 ·refine⟨fun b hb=>?_,.inl rfl,.inr (.inl rfl),.inr (.inr rfl),l1,l2,⟨none,0,0⟩,k1.get0 b0,OwnS.nil fk,aW _⟩
  have:=aZ l2;rcases hb with rfl|rfl|rfl<;>omega
 ·have:=hg.lt b hq
  rcases hb with rfl|rfl|rfl<;>omega
 ·rintro xs A' h' hS ⟨hA,hA1,hA2,hA3,hd,hl,s,hs,ho,hpl⟩ hu hA'
  refine⟨.ready,none,by decide,hl,?_⟩
  have k5:Upd (· =h1.size+1) h' (h'.setIfInBounds (h1.size+1) (lo .exhausted none)):=Upd.set _ _ rfl
  show∃v:SliceV,aP (h'.setIfInBounds (h1.size+1) (lo .exhausted none)) (aE h)=some (.slice v.a v.len v.cap)∧_
  have hd5:=k5.get hd (show ¬h1.size=h1.size+1 by omega)
  have hs5:=k5.get hs (show ¬h.size=h1.size+1 by omega)
  have ho5:=ho.upd k5 fun b hb=>by omega
  generalize h'.setIfInBounds (h1.size+1) (lo .exhausted none)=h5 at k5 hd5 hs5 ho5;refine⟨s,by rw[cV,bq hs5];rfl,hd5,?_⟩
  have k6:Upd (· =h1.size) h5 (h5.setIfInBounds h1.size (.deferred none)):=Upd.set _ _ rfl
  refine hk s _ xs hS ((ho5.upd k6 fun b hb=>by omega).more fun b hb=>(hA b hb.1).2) ?_
  refine(((k0.tr k1).trans hu fun b hb=>?_).trans k5 fun b hb=>.inr (by omega)).trans k6 fun b hb=>.inr (by omega)
  rcases hb with rfl|rfl|rfl<;>(right;omega)
theorem M7{h:ae}{fv:Value}{N:Nat}{S:List Pr→Prop}{Q:Nat→Prop}(hg:Gives PG fv X1 N S Q h)(hN:N≤100000000){K:SliceV→ae→Prop}
  (hk:∀s' h' xs,S xs→OwnS eg 2 al (fun b=>h.size≤b) h' s' xs→Upd No h h'→K s' h'):HC PG jT [fv] [.c .slice] K h:=by
 refine tF fv ?_;unfold m6;exact H9 hg hN hk
end Go.Proofs
namespace Go.Proofs
structure WO{α:Type}(lt:α→α→Bool):Prop where
 irr:∀a,lt a a=false
 asy:∀a b,lt a b=true→lt b a=false
 ntr:∀a b c,lt a b=false→lt b c=false→lt a c=false
section
variable {α:Type} {lt:α→α→Bool}
def JO(lt:α→α→Bool)(x a:α):Bool:= !lt a x&& !lt x a
def Srt(lt:α→α→Bool)(l:List α):Prop:=l.Pairwise fun a b=>lt b a=false
structure Eqf(lt:α→α→Bool)(l l':List α):Prop where
 len:l'.length=l.length
 flt:∀x,l'.filter (JO lt x)=l.filter (JO lt x)
structure St(lt:α→α→Bool)(l l':List α):Prop where
 eqf:Eqf lt l l'
 srt:Srt lt l'
theorem Eqf.rfl(l:List α):Eqf lt l l:=⟨_root_.rfl,fun _=>_root_.rfl⟩
theorem Eqf.tr{a b c:List α}(h:Eqf lt a b)(k:Eqf lt b c):Eqf lt a c:=⟨k.len.trans h.len,fun x=>(k.flt x).trans (h.flt x)⟩
theorem Eqf.app{a b a' b':List α}(h:Eqf lt a a')(k:Eqf lt b b'):Eqf lt (a++b) (a'++b'):=
 ⟨by rw[ac,ac,h.len,k.len],fun x=>by rw[eo,eo,h.flt,k.flt]⟩
theorem GG(w:WO lt)(a:α):JO lt a a=true:=by unfold JO;rw[w.irr];rfl
theorem Eqf.mem(w:WO lt){l l':List α}(h:Eqf lt l l'){a:α}:a∈l'↔a∈l:=by
 have e:=h.flt a;constructor
 ·intro hm
  have:a∈l'.filter (JO lt a):=de.2 ⟨hm,GG w a⟩;rw[e]at this;exact(de.1 this).1
 ·intro hm
  have:a∈l.filter (JO lt a):=de.2 ⟨hm,GG w a⟩;rw[←e]at this;exact(de.1 this).1
theorem WD(w:WO lt){x u v:α}(hu:JO lt x u=true)(hv:JO lt x v=true):lt v u=false:=by
 unfold JO at hu hv;simp only[bC,Bool.not_eq_true']at hu hv;exact w.ntr v x u hv.1 hu.2
theorem Eqf.swap(w:WO lt){U V:List α}(h:∀u∈U,∀v∈V,lt v u=true):Eqf lt (U++V) (V++U):=by
 refine⟨by rw[ac,ac,Nat.add_comm],fun x=>?_⟩
 rw[eo,eo];cases hU:U.filter (JO lt x)with
 |nil=>rw[aJ,cN]
 |cons u us=>
  cases hV:V.filter (JO lt x)with
  |nil=>rw[aJ,cN]
  |cons v vs=>
   have hu:u∈U.filter (JO lt x):=by rw[hU];exact av ..
   have hv:v∈V.filter (JO lt x):=by rw[hV];exact av ..
   have h1:=de.1 hu;have h2:=de.1 hv;have h3:=h u h1.1 v h2.1;rw[WD w h1.2 h2.2]at h3;cases h3
theorem Srt.app{a b:List α}(h:Srt lt a)(k:Srt lt b)(hab:∀x∈a,∀y∈b,lt y x=false):Srt lt (a++b):=cl.2 ⟨h,k,hab⟩
theorem Srt.left{a b:List α}(h:Srt lt (a++b)):Srt lt a:=(cl.1 h).1
theorem Srt.right{a b:List α}(h:Srt lt (a++b)):Srt lt b:=(cl.1 h).2.1
theorem Srt.cross{a b:List α}(h:Srt lt (a++b)):∀x∈a,∀y∈b,lt y x=false:=(cl.1 h).2.2
theorem Srt.nil:Srt lt ([]:List α):=ee
theorem Srt.one(a:α):Srt lt [a]:=List.pairwise_singleton ..
theorem Ks(w:WO lt){S L G:List α}{t:α}(h:St lt S (L++G))(hL:∀l∈L,lt t l=false)(hG:∀g∈G,lt t g=true):St lt (S++ [t]) (L++t::G):=by
 refine⟨(h.eqf.app (Eqf.rfl [t])).tr ?_,?_⟩
 ·rw[au]
  exact(Eqf.rfl L).app (Eqf.swap w (U:=G) (V:= [t]) fun u hu v hv=>by rw[aF.1 hv];exact hG u hu)
 ·refine h.srt.left.app (aD.2 ⟨fun g hg=>w.asy t g (hG g hg),h.srt.right⟩) fun x hx y hy=>?_
  rcases aB.1 hy with rfl|hy
  ·exact hL x hx
  ·exact h.srt.cross x hx y hy
theorem Kr(w:WO lt){V1 V2:List α}{u:α}(h:Srt lt (V1++V2))(h1:∀v∈V1,lt v u=true)(h2:∀v∈V2,lt v u=false):St lt ([u]++(V1++V2)) (V1++u::V2):=by
 refine⟨?_,?_⟩
 ·rw[←au]
  have:=(Eqf.swap w (U:= [u]) (V:=V1) fun x hx y hy=>by rw[aF.1 hx];exact h1 y hy).app (Eqf.rfl V2)
  rw[au V1]at this;exact this
 ·refine h.left.app (aD.2 ⟨h2,h.right⟩) fun x hx y hy=>?_
  rcases aB.1 hy with rfl|hy
  ·exact w.asy x y (h1 x hx)
  ·exact h.cross x hx y hy
theorem L4(w:WO lt){U1 U2:List α}{v:α}(h:Srt lt (U1++U2))(h1:∀u∈U1,lt v u=false)(h2:∀u∈U2,lt v u=true):St lt ((U1++U2)++ [v]) (U1++v::U2):=
 Ks w ⟨Eqf.rfl _,h⟩ h1 h2
theorem RC(w:WO lt){U1 U2 V1 V2 R1 R2:List α}(hU:Srt lt (U1++U2))(hV:Srt lt (V1++V2))(h1:∀v∈V1,∀u∈U2,lt v u=true)(h2:∀u∈U1,∀v∈V2,lt v u=false)(s1:St lt (U1++V1) R1)(s2:St lt (U2++V2) R2):St lt ((U1++U2)++(V1++V2)) (R1++R2):=by
 refine⟨?_,s1.srt.app s2.srt fun x hx y hy=>?_⟩
 ·have e:Eqf lt ((U1++U2)++(V1++V2)) ((U1++V1)++(U2++V2)):=by
   have:=((Eqf.rfl U1).app (Eqf.swap w (U:=U2) (V:=V1) fun u hu v hv=>h1 v hv u hu)).app (Eqf.rfl (lt:=lt) V2)
   simp only[au]at this⊢;exact this
  exact e.tr (s1.eqf.app s2.eqf)
 ·rcases bG.1 ((s1.eqf.mem w).1 hx)with hx|hx<;>rcases bG.1 ((s2.eqf.mem w).1 hy)with hy|hy
  ·exact hU.cross x hx y hy
  ·exact h2 x hx y hy
  ·exact w.asy x y (h1 x hx y hy)
  ·exact hV.cross x hx y hy
inductive Runs(lt:α→α→Bool)(bs:Nat):List α→Prop where
 |last (l:List α):l.length≤bs→Srt lt l→Runs lt bs l
 |more (b l:List α):b.length=bs→Srt lt b→Runs lt bs l→Runs lt bs (b++l)
theorem Runs.split{bs:Nat}{l:List α}(h:Runs lt bs l)(hl:bs≤l.length):∃b r,l=b++r∧b.length=bs∧Srt lt b∧Runs lt bs r:=by
 cases h with
 |last _ h1 h2=>exact⟨l,[],(aJ l).symm,by omega,h2,.last _ (aW _) Srt.nil⟩
 |more b r h1 h2 h3=>exact⟨b,r,_root_.rfl,h1,h2,h3⟩
theorem Runs.short{bs:Nat}{l:List α}(h:Runs lt bs l)(hl:l.length≤bs):Srt lt l:=by
 cases h with
 |last _ h1 h2=>exact h2
 |more b r h1 h2 h3=>
  rw[ac]at hl;have:r= []:=List.length_eq_zero_iff.1 (by omega);rw[this,aJ];exact h2
def Full(lt:α→α→Bool)(bs:Nat)(d:List α):Prop:=∀z,Runs lt bs z→Runs lt bs (d++z)
theorem Full.nil{bs:Nat}:Full lt bs ([]:List α):=fun _ h=>h
theorem Full.app{bs:Nat}{d b:List α}(h:Full lt bs d)(hb:b.length=bs)(hs:Srt lt b):Full lt bs (d++b):=fun z hz=>by
 rw[au];exact h _ (.more b z hb hs hz)
end
end Go.Proofs
namespace Go.Proofs
open Go Go.Lift
abbrev An(z:Hs)(p:Pr):List Value:= [.string p.1,.string p.2,.int .u64 (fU z p.1)]
theorem KY(z:Hs)(p:Pr):(An z p).length=3∧0<3:=⟨rfl,by omega⟩
theorem QL(z:Hs):∀xs:List Pr,cE (xs.flatMap (An z))=true
 | []=>rfl
 |x::xs=>by rw[aN];exact lK rfl (QL z xs)
section
variable {α:Type} {f:α→List Value} {sz:Nat} {t:TypeId} {M:Nat→Prop} {h:ae} {s:SliceV} {P Q:List α} {x:α}
theorem hH(ho:OwnS f sz t M h s (P++x::Q)){i:Nat}(hi:i=P.length):∃a,s.a=some a∧∀j v,(f x)[j]? =some v→aP h (adr (adr a (i*sz)) j)=some v:=by
 obtain⟨a,ha,_,hv⟩:=(ho.sl (W:=No) fun _ _ _ h=>h).at (i:=i) (x:=x) (by rw[hi,aX (aq _),Nat.sub_self];rfl)
 exact⟨a,ha,hv⟩
theorem pw(ho:OwnS f sz t M h s (P++x::Q))(y:α){a:Addr}(ha:s.a=some a){i:Nat}(hi:i=P.length){G:ae→Prop}(hk:∀h',OwnS f sz t M h' s (P++y::Q)→Upd M h h'→G h'):
  r9 h (some (adr a (i*sz))) 0 (f y)∧At (gG h (adr a (i*sz)) 0 (f y)) G:=by
 obtain⟨a',ha',hM,hw,ho',hu⟩:=OwnS.setAt ho (k:=i) (by rw[hi,ac,ar];omega) y;rw[ha]at ha';cases ha';refine⟨hw,bE (hk _ ?_ (hu.mono fun b hb=>.inl (by have hb:b=a.block:=hb;rw[hb];exact hM)))⟩
 subst hi;have e1:(P++x::Q).take P.length=P:=List.take_left;have e2:(P++x::Q).drop (P.length+1)=Q:=by rw[←List.drop_drop,List.drop_left];rfl
 rw[e1,e2]at ho';exact ho'
end
theorem yJ{α:Type}{f:α→List Value}{sz:Nat}{t:TypeId}{M:Nat→Prop}{h:ae}{s:SliceV}{xs:List α}{x:α}(ho:OwnS f sz t M h s xs){i:Nat}(hi:xs[i]? =some x):∃a,s.a=some a∧∀j v,(f x)[j]? =some v→aP h (adr (adr a (i*sz)) j)=some v:=by
 obtain⟨a,ha,_,hv⟩:=(ho.sl (W:=No) fun _ _ _ h=>h).at hi
 exact⟨a,ha,hv⟩
theorem Ut{α:Type}{A U X:List α}{i:Nat}(hi:A.length+U.length≤i):(A++(U++X))[i]? =X[i-A.length-U.length]?:=by
 rw[aX (by omega),aX (by omega)]
theorem Uu{α:Type}{A U V B:List α}{i k:Nat}{x:α}(hi:A.length+U.length+k=i)(hk:V[k]? =some x):(A++(U++(V++B)))[i]? =some x:=by
 rw[Ut (by omega),show i-A.length-U.length=k by omega,cn (bJ.1 hk).1];exact hk
theorem QZ{α:Type}{A U X:List α}{i k:Nat}{x:α}(hi:A.length+k=i)(hk:U[k]? =some x):(A++(U++X))[i]? =some x:=by
 rw[aX (by omega),show i-A.length=k by omega,cn (bJ.1 hk).1];exact hk
theorem Fg{i j:Nat}(h:i+j≤4000000000):IntKind.wrap .i64 (Int.fdiv (IntKind.wrap .u64 (IntKind.wrap .i64 ((i:Int)+(j:Int)))) (2^(min (1:Int).toNat (IntKind.bits .u64))))=(((i+j)/2:Nat):Int):=by
 have e3:(2^(min (1:Int).toNat (IntKind.bits .u64)):Int)=2:=rfl;rw[e3,gD (x:=(i:Int)+(j:Int)) (by omega),Go.IntWalk.u64_in _ (by omega),Int.fdiv_eq_ediv_of_nonneg _ (by omega),gD (by omega)];omega
theorem rG{α:Type}{lt:α→α→Bool}(w:WO lt){l:List α}(h:Srt lt l){i j:Nat}(hij:i≤j){x y:α}(hx:l[i]? =some x) (hy:l[j]? =some y):lt y x=false:=by
 obtain⟨hi,rfl⟩:=bJ.1 hx;obtain⟨hj,rfl⟩:=bJ.1 hy;rcases Nat.lt_or_ge i j with h1|h1
 ·exact List.pairwise_iff_getElem.1 h i j hi hj h1
 ·have:i=j:=by omega
  subst this;exact w.irr _
theorem BR{α:Type}(l:List α):l= []∨∃l' y,l=l'++ [y]:=by
 rcases List.eq_nil_or_concat l with h|⟨l',y,h⟩
 ·exact .inl h
 ·exact .inr ⟨l',y,by rw[h,List.concat_eq_append]⟩
structure Cmp{α:Type}(lt:α→α→Bool)(f:α→List Value)(M:Nat→Prop)(Iv:ae→Prop)(V:Value):Prop where
 call:∀(a b:α) {h:ae} {K:Int→ae→Prop},Iv h→(∀h' e,Upd No h h'→decide (e<0)=lt a b→K e h')→HV PG V [.agg (f a).toArray,.agg (f b).toArray] [.c (.int .i64)] K h
 step:∀{h h':ae},Upd M h h'→Iv h→Iv h'
end Go.Proofs
