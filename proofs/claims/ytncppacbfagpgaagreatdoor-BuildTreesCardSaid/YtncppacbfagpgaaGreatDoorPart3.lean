/- A part of the proof that the named laws of this program answer true, whatever the input. -/
import Derived.Test.YtncppacbfagpgaaGreatDoorPart2
import Derived.Test.YtncppacbfagpgaaGreatDoorLift3
import Derived.Test.YtncppacbfagpgaaGreatDoorPart0
open List renaming length_singleton→aw,cons→eg,cons_append→cR,mem_cons_self→au,mem_cons→az,length_cons→ap,flatMap_cons→aN,getElem?_eq_getElem→ae,length_set→jN,getElem?_eq_none→nm,length_append→ac,flatMap_append→bC,append_nil→aE,append_assoc→ao,getElem?_append_right→ax,getElem?_append_left→aW,getElem?_eq_some_iff→aU,length_nil→aI,length_eq_zero_iff→aq,nil_append→cd,take_append_drop→aA,length_take→aD,length_drop→aV,mem_singleton→aJ,getElem_of_mem→bX
open Nat renaming zero_add→aR,le_refl→ag,mul_le_mul_right→bZ,sub_self→cO,eq_zero_or_pos→ce,add_sub_cancel_left→co
namespace Go.Proofs
open Go Go.Lift
theorem aQ{h:ad}{cs:List Value}{t:TypeId}{k:ad→Prop}(hk:∀h',h'[h.size]? =some (.cells cs.toArray t (0,0))→Upd No h h'→k h'):At (hnew h cs t) k:=
 bM (hk _ (dj h cs t) (Upd.hnew No h cs t))
theorem vc{h:ad}{b:Nat}{c:Array Value}{t:TypeId}(hb:h[b]? =some (.cells c t (0,0))) (i:Nat):aO h (adr ⟨b,0,none⟩ i)=c[i]?:=by rw[cc,aR];exact bo hb
theorem xO{h:ad}{b:Nat}{c:Array Value}{t:TypeId}(hb:h[b]? =some (.cells c t (0,0))) (i j:Nat):aO h (adr (adr ⟨b,0,none⟩ i) j)=c[i+j]?:=by rw[cc,cc,aR];exact bo hb
theorem rx{h:ad}{b i:Nat}{c c':Array Value}{t:TypeId}{v:Value}{k:ad→Prop}(hb:h[b]? =some (.cells c t (0,0))) (hi:i<c.size) (e:c.setIfInBounds i v=c') (hk:∀h',h'[b]? =some (.cells c' t (0,0))→Upd (· =b) h h'→k h'):Wr h (adr ⟨b,0,none⟩ i)∧At (hset h (adr ⟨b,0,none⟩ i) v) k:=by
 rw[cc,aR];exact⟨gB hb hi,rU hb fun h' hb' hu=>hk h' (e▸hb') hu⟩
theorem _root_.Go.Lift.Upd.own{h h1 h2:ad}{b:Nat}(k:Upd No h h1)(hu:Upd (· =b) h1 h2)(hb:h.size≤b):Upd No h h2:=k.trans hu fun x hx=>.inr (by have hx:x=b:=hx;omega)
theorem _root_.Go.Lift.Upd.oth{h h':ad}{b c:Nat}{o:Obj}(hu:Upd (· =b) h h')(hc:h[c]? =some o) (hne:c≠b):h'[c]? =some o:=hu.get hc hne
abbrev Tr:=Int×Int×Int×Int×(Option Addr)×(Option Addr)
abbrev wg(t:Tr):List Value:= [.int .i64 t.1,.int .u64 t.2.1,.int .u64 t.2.2.1,.int .u64 t.2.2.2.1,.pointer t.2.2.2.2.1,.pointer t.2.2.2.2.2]
abbrev GV(t:Tr):Value:=.agg #[.int .i64 t.1,.int .u64 t.2.1,.int .u64 t.2.2.1,.int .u64 t.2.2.2.1,.pointer t.2.2.2.2.1,.pointer t.2.2.2.2.2]
def Pro(W:Nat→Prop)(h h2:ad)(y:Nat):Prop:=W y∨(h.size≤y∧y<h2.size)
theorem Pro.lt{W:Nat→Prop}{h h2:ad}(hW:∀y,W y→y<h.size)(k:Upd No h h2):∀y,Pro W h h2 y→y<h2.size:=fun y hy=>hy.elim (fun h=>Nat.lt_of_lt_of_le (hW y h) k.size) fun h=>h.2
theorem Pro.hm{W:Nat→Prop}{h h2:ad}:∀y,Pro W h h2 y→W y∨h.size≤y:=fun _ hy=>hy.imp id fun h=>h.1
theorem Pro.sub{W:Nat→Prop}{h h2 h3:ad}:∀y,W y→Pro W h h2 y∨h3.size≤y:=fun _ hy=>.inl (.inl hy)
theorem RootAt.less{W W':Nat→Prop}{x:Hs}{h:ad}(hm:∀b,W' b→W b∨h.size≤b){r:Option Addr}{l:List Pr}(t:RootAt W x h r l):RootAt W' x h r l:=t.imp id fun⟨b,e,t⟩=>⟨b,e,TrieAt.less hm t⟩
theorem RadRoot.less{W W':Nat→Prop}{h:ad}(hm:∀b,W' b→W b∨h.size≤b){r:Option Addr}{l:List Pr}(t:RadRoot W h r l):RadRoot W' h r l:=t.imp id fun⟨b,e,t⟩=>⟨b,e,t.less hm⟩
def TreeIs(W:Nat→Prop)(h:ad)(kind:Int)(x:Hs)(t:Tr)(l:List Pr):Prop:=(kind=0∧∃b,t=(0,x.k0,x.k1,x.mask,some ⟨b,0,none⟩,none)∧TrieAt W x h 13 b l)∨(kind=1∧∃b,t=(1,0,0,0,none,some ⟨b,0,none⟩)∧RadAt W h b l)
theorem TreeIs.upd0{W:Nat→Prop}{h h':ad}{kind:Int}{x:Hs}{t:Tr}{l:List Pr}(k:Upd No h h')(i:TreeIs W h kind x t l):TreeIs W h' kind x t l:=
 i.imp (fun⟨e,b,e2,t⟩=>⟨e,b,e2,TrieAt.upd0 k t⟩) fun⟨e,b,e2,t⟩=>⟨e,b,e2,t.upd0 k⟩
theorem TreeIs.less{W W':Nat→Prop}{h:ad}(hm:∀b,W' b→W b∨h.size≤b){kind:Int}{x:Hs}{t:Tr}{l:List Pr}(i:TreeIs W h kind x t l):TreeIs W' h kind x t l:=
 i.imp (fun⟨e,b,e2,t⟩=>⟨e,b,e2,TrieAt.less hm t⟩) fun⟨e,b,e2,t⟩=>⟨e,b,e2,t.less hm⟩
theorem TreeIs.updM{W M:Nat→Prop}{h h':ad}(k:Upd M h h')(hm:∀b,M b→W b∨h.size≤b){kind:Int}{x:Hs}{t:Tr}{l:List Pr}(i:TreeIs W h kind x t l):TreeIs W h' kind x t l:=
 i.imp (fun⟨e,b,e2,t⟩=>⟨e,b,e2,TrieAt.updM k hm t⟩) fun⟨e,b,e2,t⟩=>⟨e,b,e2,t.updM k hm⟩
theorem Cm{W:Nat→Prop}{x:Hs}{h:ad}(hW:∀y,W y→y<h.size){K:Option Addr→ad→Prop}(hk:∀h' b,TrieAt W x h' 13 b []→Upd No h h'→K (some ⟨b,0,none⟩) h'):HC PG nV [] [.c .ptr] K h:=by
 refine CD ?_;unfold u6;exact wE hW fun h' b nd hu=>hk h' b (Lz nd) hu
abbrev uo:Tr:=(0,0,0,0,none,none)
theorem yL{W:Nat→Prop}{x:Hs}{h:ad}{r:Option Addr}{l:List Pr}(t:RootAt W x h r l)(hW:∀y,W y→y<h.size){K:Tr→ad→Prop}(hk:∀h' t,TreeIs W h' 0 x t l→Upd No h h'→K t h'):HC PG mR [.agg #[.int .u64 x.k0,.int .u64 x.k1,.int .u64 x.mask],.pointer r] [.agg [.int .i64,.int .u64,.int .u64,.int .u64,.ptr,.ptr]] K h:=by
 refine Bu (x.k0,x.k1,x.mask) r ?_;unfold tM bW ar bD hJ uJ zH Qe;refine aQ fun h1 b1 k1=>aQ fun h2 b2 k2=>?_
 have z1:=bw b1;have z2:=bw b2;have k02:=k1.tr k2;refine Join.intro (fun t h'=>Upd No h2 h'∧∃b,t=some ⟨b,0,none⟩∧TrieAt (Pro W h h2) x h' 13 b l) (fun R hR=>?_) ?_
 ·rcases t with⟨rfl,rfl⟩|⟨b,rfl,t⟩
  ·exact aB.2 (Cm (Pro.lt hW k02) fun h3 b t hu3=>hR _ _ ⟨hu3,b,rfl,t⟩)
  ·exact aj.2 (hR _ _ ⟨Upd.refl _ _,b,rfl,TrieAt.upd0 k02 (TrieAt.less Pro.hm t)⟩)
 ·rintro t3 h3 ⟨hu3,b,rfl,t3⟩
  have c1:=hu3.get0 (k2.get0 b1);refine⟨_,vc c1 0,_,vc c1 1,_,vc c1 2,?_⟩;refine eL (c:=wg uo) (vs:=wg (0,x.k0,x.k1,x.mask,some ⟨b,0,none⟩,none)) (hu3.get0 b2) rfl fun h4 b4 hu4=>?_
  refine⟨_,vc b4 0,_,vc b4 1,_,vc b4 2,_,vc b4 3,_,vc b4 4,_,vc b4 5,?_⟩;have hb1:h.size≤h1.size:=k1.size;exact hk h4 _ (.inl ⟨rfl,b,rfl,TrieAt.less Pro.sub (TrieAt.updM hu4 (fun y hy=>.inl (.inr (by have hy:y=h1.size:=hy;omega))) t3)⟩) ((k02.tr hu3).own hu4 hb1)
theorem yK{W:Nat→Prop}{x:Hs}{h:ad}{r:Option Addr}{l:List Pr}(t:RadRoot W h r l)(hW:∀y,W y→y<h.size){K:Tr→ad→Prop}(hk:∀h' t,TreeIs W h' 1 x t l→Upd No h h'→K t h'):HC PG mQ [.pointer r] [.agg [.int .i64,.int .u64,.int .u64,.int .u64,.ptr,.ptr]] K h:=by
 refine Bs r ?_;unfold tL bW ar bD hJ zH Qe;refine aQ fun h2 b2 k02=>?_
 have z2:=bw b2;refine Join.intro (fun t h'=>Upd No h2 h'∧∃b,t=some ⟨b,0,none⟩∧RadAt (Pro W h h2) h' b l) (fun R hR=>?_) ?_
 ·rcases t with⟨rfl,rfl⟩|⟨b,rfl,t⟩
  ·exact aB.2 (Ha (Pro.lt hW k02) fun h3 b t hu3=>hR _ _ ⟨hu3,b,rfl,t⟩)
  ·exact aj.2 (hR _ _ ⟨Upd.refl _ _,b,rfl,(t.less Pro.hm).upd0 k02⟩)
 ·rintro t3 h3 ⟨hu3,b,rfl,t3⟩
  refine eL (c:=wg uo) (vs:=wg (1,0,0,0,none,some ⟨b,0,none⟩)) (hu3.get0 b2) rfl fun h4 b4 hu4=>?_
  refine⟨_,vc b4 0,_,vc b4 1,_,vc b4 2,_,vc b4 3,_,vc b4 4,_,vc b4 5,?_⟩;exact hk h4 _ (.inr ⟨rfl,b,rfl,(t3.updM hu4 (fun y hy=>.inl (.inr (by have hy:y=h.size:=hy;omega)))).less Pro.sub⟩) ((k02.tr hu3).own hu4 (ag _))
theorem zL{W:Nat→Prop}{x:Hs}{h:ad}(hW:∀y,W y→y<h.size){kind:Int}(hkd:kind=0∨kind=1){K:Tr×Int→ad→Prop}(hk:∀h' t,TreeIs W h' kind x t []→Upd No h h'→K (t,0) h'):HC PG nA [.int .i64 kind,.agg #[.int .u64 x.k0,.int .u64 x.k1,.int .u64 x.mask]] [.agg [.int .i64,.int .u64,.int .u64,.int .u64,.ptr,.ptr],.c (.int .i64)] K h:=by
 refine Bv kind (x.k0,x.k1,x.mask) ?_;unfold wa bW ar bD hJ uJ un zH qV wJ;refine aQ fun h1 b1 k1=>aQ fun h2 b2 k2=>?_
 have z1:=bw b1;have z2:=bw b2;have k02:=k1.tr k2;have hb1:h.size≤h1.size:=k1.size;have c1:=k2.get0 b1;rcases hkd with rfl|rfl
 ·refine aB.2 ⟨_,vc c1 0,_,vc c1 1,_,vc c1 2,?_⟩
  refine yL (W:=Pro W h h2) (x:=x) (l:= []) (.inl ⟨rfl,rfl⟩) (Pro.lt hW k02) fun h3 t i3 hu3=>?_
  refine eL (c:=wg uo) (vs:=wg t) (hu3.get0 b2) rfl fun h4 b4 hu4=>?_
  refine⟨_,vc b4 0,_,vc b4 1,_,vc b4 2,_,vc b4 3,_,vc b4 4,_,vc b4 5,?_⟩;exact hk h4 t ((i3.updM hu4 (fun y hy=>.inl (.inr (by have hy:y=h1.size:=hy;omega)))).less Pro.sub) ((k02.tr hu3).own hu4 hb1)
 ·refine aj.2 (aB.2 ?_)
  refine yK (W:=Pro W h h2) (x:=x) (l:= []) (.inl ⟨rfl,rfl⟩) (Pro.lt hW k02) fun h3 t i3 hu3=>?_
  refine eL (c:=wg uo) (vs:=wg t) (hu3.get0 b2) rfl fun h4 b4 hu4=>?_
  refine⟨_,vc b4 0,_,vc b4 1,_,vc b4 2,_,vc b4 3,_,vc b4 4,_,vc b4 5,?_⟩;exact hk h4 t ((i3.updM hu4 (fun y hy=>.inl (.inr (by have hy:y=h1.size:=hy;omega)))).less Pro.sub) ((k02.tr hu3).own hu4 hb1)
theorem Df{k v:ByteArray}(h1:k.size≤256)(h2:v.size≤4096){h:ad}{K:Int→ad→Prop}(hk:K 0 h):HC PG pg [.string k,.string v] [.c (.int .i64)] K h:=by
 refine xk k v ?_;unfold rY;refine av (fun h=>absurd h (by omega)) fun _=>av (fun h=>absurd h (by omega)) fun _=>hk
end Go.Proofs
namespace Go.Proofs
open Go Go.Lift
def sY(t u:Tr):Bool:=(t.1==u.1)&&((((t.2.1==u.2.1)&&((t.2.2.1==u.2.2.1)&&true)))&&((t.2.2.2.1==u.2.2.2.1)&&true))
theorem LI{t u:Tr}{h:ad}{K:Bool→ad→Prop}(hk:∀h',Upd No h h'→K (sY t u) h'):HC PG tu [GV t,GV u] [.c .bool] K h:=by
 refine Gq t u ?_;unfold zf bW qV eB;refine aQ fun h1 b1 k1=>aQ fun h2 b2 k2=>?_
 have c1:=k2.get0 b1;refine⟨_,vc c1 0,_,vc b2 0,?_⟩;have:=hk h2 (k1.tr k2);unfold sY at this;rcases hb:(t.1==u.1)with _|_
 ·rw[hb]at this
  exact aj.2 this
 ·rw[hb]at this
  exact aB.2 ⟨_,xO c1 1 0,_,xO c1 1 1,_,xO c1 1 2,_,xO b2 1 0,_,xO b2 1 1,_,xO b2 1 2,this⟩
theorem C0{W:Nat→Prop}{x:Hs}{h:ad}{b:Nat}{l:List Pr}(t:TrieAt W x h 13 b l){K:Option Addr→ad→Prop}(hk:∀h',Upd No h h'→K (some ⟨b,0,none⟩) h'):HC PG j2 [GV (0,x.k0,x.k1,x.mask,some ⟨b,0,none⟩,none)] [.c .ptr] K h:=by
 refine xg (0,x.k0,x.k1,x.mask,some ⟨b,0,none⟩,none) ?_;unfold qp bW bD qV;refine aQ fun h1 b1 k1=>?_
 refine Join.intro (fun t h'=>t=false∧h'=h1) (fun R hR=>⟨_,vc b1 0,aB.2 ⟨_,vc b1 4,hR _ _ ⟨rfl,rfl⟩⟩⟩) ?_
 rintro t h' ⟨rfl,rfl⟩;exact aj.2 ⟨_,vc b1 4,hk h' k1⟩
def DL(kind:Int)(x:Hs)(l:List Pr)(xs:List UInt8):Prop:=(kind=0∧xs=0::eD x 13 l)∨(kind=1∧∃ys,Ii l ys∧xs=1::ys)
theorem ui{h h1:ad}{b:UInt8}(hb:h1[h.size]? =some (.cells #[.int .u8 (b.toNat:Int)] ci (0,0))):OwnS l8 1 ci (fun y=>h.size≤y) h1 ⟨some ⟨h.size,0,none⟩,1,1⟩ [b]:=⟨rfl,oL,ag _,.inr ⟨h.size,[],rfl,ag _,hb,rfl⟩⟩
theorem xV{W:Nat→Prop}{x:Hs}{h:ad}{kind:Int}{t:Tr}{l:List Pr}(i:TreeIs W h kind x t l)(hr:d9 l)(hf:Fit l)(hn:l.length≤60000){K:SliceV→ad→Prop}
  (hk:∀s' h' xs,DL kind x l xs→OwnS l8 1 ci (fun y=>h.size≤y) h' s' xs→Upd No h h'→K s' h'):HC PG iv [GV t] [.c .slice] K h:=by
 refine xe t ?_;unfold qn bW ar bD qV B5;refine aQ fun h1 b1 k1=>?_
 have z1:=k1.size;have app:∀{b:UInt8} {h2 h3:ad} {s:SliceV} {xs:List UInt8},h2[h1.size]? =some (.cells #[.int .u8 (b.toNat:Int)] ci (0,0))→Upd No h1 h2→OwnS l8 1 ci (fun y=>h2.size≤y) h3 s xs→Upd No h2 h3→xs.length≤70000000000000→DL kind x l (b::xs)→
   ∃xs7,SRow h3 s.a (s.len*1) xs7∧AppP (some [.int .u8 0]) 1 1 ci (some (aC h1)) 1 1 s.len xs7 h3 (fun s8 h9=>K s8 h9):=fun{b h2 h3 s xs} hb k2 ho k3 hl hv=>by
  refine⟨_,(ho.sl (W:=No) fun _ _ _ h=>h).srow,?_⟩
  have k13:=k2.tr k3;have hz:=bw hb;have o1:OwnS l8 1 ci (fun y=>h.size≤y) h3 ⟨some ⟨h1.size,0,none⟩,1,1⟩ [b]:=((ui hb).upd k3 fun _ _ h=>h).more fun y hy=>by omega
  refine AppP.own (ys:=xs) o1 ho.len rfl (wB _) rfl (by omega) (by simp only[aw];omega) (by have:=k13.size;omega) fun s' h' ho' hu'=>?_
  exact hk s' h' _ hv ho' ((k1.tr k13).trans hu' fun y hy=>.inr hy)
 rcases i with⟨rfl,b,rfl,t⟩|⟨rfl,b,rfl,t⟩
 ·refine⟨_,vc b1 0,aj.2 (aQ fun h2 b2 k2=>?_)⟩
  have c1:=k2.get0 b1;refine⟨_,vc c1 0,_,vc c1 1,_,vc c1 2,_,vc c1 3,_,vc c1 4,_,vc c1 5,?_⟩;refine C0 (TrieAt.upd0 (k1.tr k2) t) fun h3 k3=>?_
  refine Ny (TrieAt.upd0 ((k1.tr k2).tr k3) t) hf hn fun s4 h4 ho4 k4=>?_
  have z3:=k3.size;have hlen:=me (x:=x) 13 hf;have hb:l.length*(20004+9*(13+1))≤60000*(20004+9*(13+1)):=bZ _ hn;exact app (b:=0) b2 k2 (ho4.more fun y hy=>by omega) (k3.tr k4) (by omega) (.inl ⟨rfl,rfl⟩)
 ·refine⟨_,vc b1 0,aB.2 (aQ fun h2 b2 k2=>?_)⟩
  have c1:=k2.get0 b1;refine⟨_,vc c1 5,?_⟩;refine Ft (t.upd0 (k1.tr k2)) hr hf hn fun s4 h4 xs hv ho4 k4=>?_
  have hlen:=wy hv hf;have hb:2*l.length*20010≤2*60000*20010:=bZ _ (by omega);exact app (b:=1) b2 k2 ho4 k4 (by omega) (.inr ⟨rfl,xs,hv,rfl⟩)
theorem Kq{W W':Nat→Prop}{h h':ad}{kind kind':Int}{x x':Hs}{t u:Tr}{l l':List Pr}(i:TreeIs W h kind x t l)(i':TreeIs W' h' kind' x' u l')(hl:sY t u=true):kind=kind'∧(kind=0→x=x'):=by
 rcases i with⟨rfl,b,rfl,_⟩|⟨rfl,b,rfl,_⟩<;>rcases i' with⟨rfl,b',rfl,_⟩|⟨rfl,b',rfl,_⟩
 ·refine⟨rfl,fun _=>?_⟩
  unfold sY at hl;simp only[Bool.and_eq_true,beq_iff_eq,Bool.and_true,true_and]at hl;cases x;cases x';simp only at hl;simp only[Hs.mk.injEq];exact⟨hl.1.1,hl.1.2,hl.2⟩
 ·simp[sY]at hl
 ·simp[sY]at hl
 ·exact⟨rfl,fun h=>by cases h⟩
theorem Ff{kind:Int}{x x':Hs}(hx:kind=0→x=x'){l l':List Pr}{xs xs':List UInt8}(hv:DL kind x l xs)(hv':DL kind x' l' xs')(hf:Fit l)(hf':Fit l')(hn:l.length≤60000)(hn':l'.length≤60000)(hr:d9 l)(hr':d9 l'):xs=xs'↔l=l':=by
 rcases hv with⟨rfl,rfl⟩|⟨rfl,ys,hv,rfl⟩<;>rcases hv' with⟨e,rfl⟩|⟨e,ys',hv',rfl⟩
 ·rw[hx rfl]
  constructor
  ·intro h
   have h:eD x' 13 l++ []=eD x' 13 l'++ []:=by rw[(eg.inj h).2]
   exact(Au 13 hf hf' hn hn' hr hr' h).1
  ·rintro rfl;rfl
 ·cases e
 ·cases e
 ·rw[eg.injEq,←NF hv hv' hf hf']
  exact⟨fun h=>h.2,fun h=>⟨rfl,h⟩⟩
theorem LG{W W':Nat→Prop}{x x':Hs}{h:ad}{kind kind':Int}{t u:Tr}{l l':List Pr}(i:TreeIs W h kind x t l)(i':TreeIs W' h kind' x' u l')(hr:d9 l)(hf:Fit l)(hn:l.length≤60000)(hr':d9 l')(hf':Fit l')(hn':l'.length≤60000){K:Bool→ad→Prop}
  (hk:∀h',Upd No h h'→K (sY t u&&decide (l=l')) h'):HC PG tq [GV t,GV u] [.c .bool] K h:=by
 refine Gp t u ?_;unfold ze bW ar bD qV B5 GO;refine aQ fun h1 b1 k1=>aQ fun h2 b2 k2=>?_
 have c1:=k2.get0 b1;refine⟨_,vc c1 0,_,vc c1 1,_,vc c1 2,_,vc c1 3,_,vc c1 4,_,vc c1 5,_,vc b2 0,_,vc b2 1,_,vc b2 2,_,vc b2 3,_,vc b2 4,_,vc b2 5,?_⟩;refine LI fun h3 k3=>?_
 have k03:=(k1.tr k2).tr k3;have c3:=k3.get0 c1;have b3:=k3.get0 b2;rcases hl:sY t u with _|_
 ·rw[hl]at hk
  exact aj.2 (hk h3 k03)
 ·rw[hl]at hk
  refine aB.2 ⟨_,vc c3 0,_,vc c3 1,_,vc c3 2,_,vc c3 3,_,vc c3 4,_,vc c3 5,_,vc b3 0,_,vc b3 1,_,vc b3 2,_,vc b3 3,_,vc b3 4,_,vc b3 5,?_⟩;refine xV (i.upd0 k03) hr hf hn fun s4 h4 xs hv ho4 k4=>?_
  have b4:=k4.get0 b3;refine⟨⟨vc b4 0,vc b4 1,vc b4 2,vc b4 3,vc b4 4,vc b4 5⟩,?_⟩;refine xV (i'.upd0 (k03.tr k4)) hr' hf' hn' fun s5 h5 ys hv' ho5 k5=>?_
  have ho4':=ho4.upd k5 fun _ _ h=>h
  refine H9 (W:=No) (W':=No) (ho4'.sl fun _ _ _ h=>h) (ho5.sl fun _ _ _ h=>h) ?_
  obtain⟨rfl,hx⟩:=Kq i i' hl;have:=hk h5 ((k03.tr k4).tr k5);rw[decide_eq_decide.2 (Ff hx hv hv' hf hf' hn hn' hr hr')];exact this
theorem TreeIs.plain{W:Nat→Prop}{h:ad}{kind:Int}{x:Hs}{t:Tr}{l:List Pr}(i:TreeIs W h kind x t l):(∀a,t.2.2.2.2.1=some a→gX h a)∧(∀a,t.2.2.2.2.2=some a→gX h a):=by
 rcases i with⟨rfl,b,rfl,t⟩|⟨rfl,b,rfl,t⟩
 ·obtain⟨s,nd,_⟩:=t
  obtain⟨d,n,sp,sk,ow,hb,_⟩:=nd.ex;refine⟨fun a ha=>?_,fun a ha=>(by cases ha)⟩
  cases ha;exact⟨_,_,hb,show 0<6 by decide⟩
 ·obtain⟨w,F,⟨val,s,ow,ks,hb,_⟩,_⟩:=t.ex
  refine⟨fun a ha=>(by cases ha),fun a ha=>?_⟩
  cases ha;exact⟨_,_,hb,show 0<5 by decide⟩
end Go.Proofs
namespace Go.Proofs
open Go Go.Lift
abbrev zPrL:List Value:= [.string (⟨#[]⟩:ByteArray),.string (⟨#[]⟩:ByteArray)]
theorem py{h:ad}{t:TypeId}{p:Pr}{k:ad→Prop}(hk:∀h',h'[h.size]? =some (.cells #[.string p.1,.string p.2] t (0,0))→Upd No h h'→k h'):
  At (hnew h [.string (⟨#[]⟩:ByteArray),.string (⟨#[]⟩:ByteArray)] t) fun h8=>uv h8 (some (aC h)) 0 [.string p.1,.string p.2]∧At (iM h8 (aC h) 0 [.string p.1,.string p.2]) k:=by
 refine aQ fun h1 b1 k1=>?_
 exact eL (c:=zPrL) (vs:= [.string p.1,.string p.2]) b1 rfl fun h2 b2 hu2=>hk h2 b2 (k1.own hu2 (ag _))
theorem pM{t:TypeId}{M:Nat→Prop}{h:ad}{so:SliceV}{out:List Pr}{p:Pr}{K:SliceV→ad→Prop}(ho:OwnS dD 2 t M h so out)(hM:∀b,h.size≤b→M b)(hn:out.length+1≤1000000000)
  (hk:∀s' h',OwnS dD 2 t M h' s' (out++ [p])→Upd M h h'→K s' h'):
  ∃xs,SRow (hnew h [.string p.1,.string p.2] t) (some (aC h)) (1*2) xs∧AppP (some [.string (⟨#[]⟩:ByteArray),.string (⟨#[]⟩:ByteArray)]) 2 32 t so.a so.len so.cap 1 xs (hnew h [.string p.1,.string p.2] t) K:=by
 have k:=Upd.hnew No h [.string p.1,.string p.2] t;have h1:OwnS dD 2 t (fun _=>True) (hnew h [.string p.1,.string p.2] t) ⟨some (aC h),1,1⟩ [p]:=⟨rfl,fq,ag _,.inr ⟨h.size,[],rfl,trivial,dj ..,rfl⟩⟩
 refine⟨_,(h1.sl (W:=No) fun _ _ _ h=>h).srow,?_⟩
 refine AppP.own (ys:= [p]) (ho.upd k fun _ _ h=>h) rfl rfl rfl rfl (by omega) (by simp only[aw];omega) (hM _ (by rw[f9];omega)) fun s' h' ho' hu=>?_
 exact hk s' h' ho' ((Upd.hnew M h _ _).tr hu)
theorem wM{p:Pr}:∀{A B:List Pr},(∀r∈A,kl r.1 p.1)→lI p (A++B)=A++lI p B
 | [],_,_=>rfl
 |r::A,B,h=>by
  rw[cR,iX,if_pos (h r (au ..)),wM fun q hq=>h q (List.mem_cons_of_mem _ hq)];rfl
theorem FY{p q:Pr}:∀{A:List Pr},(∃r∈A,kl p.1 r.1)→lI p (A++ [q])=lI p A++ [q]
 | [],h=>by obtain⟨r,hr,_⟩:=h;simp at hr
 |r::A,h=>by
  rw[cR,iX,iX];by_cases h1:kl r.1 p.1
  ·rw[if_pos h1,if_pos h1,FY]
   ·rfl
   ·obtain⟨r',hr',hk⟩:=h
    rcases az.1 hr' with rfl|hr'
    ·exact absurd (jG h1 hk) (dw _)
    ·exact⟨r',hr',hk⟩
  ·rw[if_neg h1,if_neg h1]
   by_cases h2:r.1=p.1
   ·rw[if_pos h2,if_pos h2];rfl
   ·rw[if_neg h2,if_neg h2];rfl
theorem FX{p:Pr}:∀{l:List Pr},(∀q∈l,kl p.1 q.1)→lI p l=p::l
 | [],_=>rfl
 |q::l,h=>by
  have h1:=h q (au ..);rw[iX,if_neg fun h2=>dw _ (jG h1 h2),if_neg fun e=>by rw[e]at h1;exact dw _ h1]
theorem Du{p:Pr}:∀{l:List Pr},d9 l→lI p (l.filter fun q=>decide (q.1≠p.1))=lI p l
 | [],_=>rfl
 |r::l,hr=>by
  have hr:=List.pairwise_cons.1 hr;have keep:∀{l:List Pr},(∀q∈l,kl p.1 q.1)→(l.filter fun q=>decide (q.1≠p.1))=l:=fun{l} h=>List.filter_eq_self.2 fun q hq=>decide_eq_true fun e=>by have:=h q hq;rw[e]at this;exact dw _ this
  rw[List.filter_cons,iX];by_cases e:r.1=p.1
  ·have hl:∀q∈l,kl p.1 q.1:=fun q hq=>by rw[←e];exact hr.1 q hq
   rw[if_neg (by simp[e]),if_neg (by rw[e];exact dw _),if_pos e,keep hl,FX hl]
  ·rw[if_pos (by simpa using e),iX]
   by_cases h1:kl r.1 p.1
   ·rw[if_pos h1,if_pos h1,Du hr.2]
   ·rw[if_neg h1,if_neg h1,if_neg e,if_neg e]
    have h2:=rH h1 e;rw[keep fun q hq=>jG h2 (hr.1 q hq)]
theorem iG{i n:Nat}(h:i<n)(hn:n≤9223372036854775807):IntKind.wrap .i64 ((i:Int)+1)=((i+1:Nat):Int):=by rw[Go.IntWalk.i64_in _ (by omega)];omega
theorem Dt(p:Pr):∀{l:List Pr},(lI p l).length≤l.length+1
 | []=>ag _
 |q::l=>by
  rw[iX];split
  ·have:=Dt p (l:=l);simp only[ap];omega
  ·split<;>simp
theorem Kp{W W':Nat→Prop}{h h':ad}{kind:Int}{x:Hs}{t u:Tr}{l l':List Pr}(i:TreeIs W h kind x t l)(i':TreeIs W' h' kind x u l'):sY t u=true:=by
 rcases i with⟨rfl,b,rfl,_⟩|⟨rfl,b,rfl,_⟩<;>rcases i' with⟨e,b',rfl,_⟩|⟨e,b',rfl,_⟩
 ·simp[sY]
 ·cases e
 ·cases e
 ·simp[sY]
end Go.Proofs
namespace Go.Proofs
open Go Go.Lift
abbrev Wk:=Option Addr×ByteArray×Bool
abbrev JO(x:Wk):List Value:= [.pointer x.1,.string x.2.1,.bool x.2.2]
theorem DW(x:Wk):(JO x).length=3∧0<3:=⟨rfl,by omega⟩
theorem Jg:∀xs:List Wk,cq (xs.flatMap JO)=true
 | []=>rfl
 |x::xs=>by rw[aN];exact ir rfl (Jg xs)
theorem LR{α:Type}{l:List α}{i:Nat}(hi:i<l.length)(x:α):l.take i++x::l.drop (i+1)=l.set i x:=by rw[List.set_eq_take_append_cons_drop,if_pos hi]
theorem Hg{M:Nat→Prop}{h:ad}{s:SliceV}{xs:List Wk}(ho:OwnS JO 3 dG M h s xs)(hn:xs.length≤1000000000){K:Unit→ad→Prop}(hk:∀h',OwnS JO 3 dG M h' s xs.reverse→Upd M h h'→K () h'):HC PG eo [.slice s.a s.len s.cap] [] K h:=by
 refine kJ s ?_;unfold fZ cn aL hH lC Ca yS;have hlen:=ho.len;have ej:IntKind.wrap .i64 ((s.len:Int)-1)=(xs.length:Int)-1-((0:Nat):Int):=by rw[fL (by omega)];omega
 rw[ej];refine LoopP.ghost (fun(i:Nat) (t:Int×Int) h'=>t.1=(i:Int)∧t.2=(xs.length:Int)-1-(i:Int)∧i≤xs.length∧(∃ys,OwnS JO 3 dG M h' s ys∧ys.length=xs.length∧∀k,k<xs.length→ys[k]? =if k<i∨xs.length-i≤k then xs[xs.length-1-k]? else xs[k]?)∧Upd M h h') (fun i=>xs.length-i) 0
  ⟨rfl,rfl,Nat.zero_le _,⟨xs,ho,rfl,fun k hk=>by rw[if_neg (by omega)]⟩,Upd.refl _ _⟩ ?_
 rintro I i ⟨ti,tj⟩ h' ⟨e1,e2,hi,⟨ys,hy,hyl,hys⟩,hu⟩ hI;simp only at e1 e2;subst e1 e2;refine av (fun hlt=>?_) fun hge=>?_
 ·have hlt:2*i+1<xs.length:=by have:(i:Int)<(xs.length:Int)-1-(i:Int):=hlt;omega
  obtain⟨j,hj⟩:∃j:Nat,(xs.length:Int)-1-(i:Int)=(j:Int):=⟨xs.length-1-i,by omega⟩
  have hjn:j=xs.length-1-i:=by omega
  simp only;rw[hj];have hiy:i<ys.length:=by omega
  have hjy:j<ys.length:=by omega
  have sl:=hy.sl (W:=No) fun _ _ _ h=>h
  obtain⟨a,ha,_,hv⟩:=sl.at (ae hjy);obtain⟨a',ha',_,hv'⟩:=sl.at (ae hiy);rw[ha]at ha';cases ha';refine⟨⟨by omega,by omega⟩,a,ha,ys[j].1,hv 0 _ rfl,ys[j].2.1,hv 1 _ rfl,ys[j].2.2,hv 2 _ rfl,⟨by omega,by omega⟩,a,ha,ys[i].1,hv' 0 _ rfl,ys[i].2.1,hv' 1 _ rfl,ys[i].2.2,hv' 2 _ rfl,⟨by omega,by omega⟩,?_⟩
  obtain⟨b,hb,hbM,hw,ho1,hu1⟩:=OwnS.setAt hy hiy ys[j];rw[ha]at hb;cases hb;rw[LR hiy]at ho1;refine⟨a,ha,hw,bM ⟨⟨by omega,by omega⟩,a,ha,?_⟩⟩
  obtain⟨b,hb,_,hw2,ho2,hu2⟩:=OwnS.setAt ho1 (k:=j) (by rw[jN];omega) ys[i];rw[ha]at hb;cases hb;rw[LR (by rw[jN];omega)]at ho2;refine⟨hw2,bM ?_⟩;rw[cl (n:=xs.length) (by omega) (by omega)];have ej2:IntKind.wrap .i64 ((j:Int)-1)=(xs.length:Int)-1-((i+1:Nat):Int):=by rw[fL (by omega)];omega
  rw[ej2];refine hI (i+1) _ _ ⟨rfl,rfl,by omega,⟨_,ho2,by rw[jN,jN];exact hyl,fun k hk=>?_⟩,?_⟩ (by omega)
  ·rw[List.getElem?_set,jN]
   have ei:=hys i (by omega);have ejj:=hys j (by omega);rw[if_neg (by omega),ae hiy]at ei;rw[if_neg (by omega),ae hjy]at ejj;by_cases h1:j=k
   ·rw[if_pos h1,if_pos hjy,if_pos (by omega),ei]
    congr 1;omega
   ·rw[if_neg h1,List.getElem?_set]
    by_cases h2:i=k
    ·rw[if_pos h2,if_pos hiy,if_pos (by omega),ejj]
     congr 1;omega
    ·rw[if_neg h2,hys k hk]
     by_cases h3:k<i∨xs.length-i≤k
     ·rw[if_pos h3,if_pos (by omega)]
     ·rw[if_neg h3,if_neg (by omega)]
  ·exact(hu.trans hu1 fun y hy=>.inl (by have hy:y=a.block:=hy;rw[hy];exact hbM)).trans hu2 fun y hy=>.inl (by have hy:y=a.block:=hy;rw[hy];exact hbM)
 ·have hge:xs.length≤2*i+1:=by have:¬(i:Int)<(xs.length:Int)-1-(i:Int):=hge;omega
  have e:ys=xs.reverse:=by
   apply List.ext_getElem?;intro k;by_cases hk:k<xs.length
   ·rw[hys k hk,List.getElem?_reverse hk]
    by_cases h3:k<i∨xs.length-i≤k
    ·rw[if_pos h3]
    ·rw[if_neg h3];congr 1;omega
   ·rw[nm (by omega),nm (by rw[List.length_reverse];omega)]
  subst e;exact hk _ hy hu
theorem OwnS.pop{α:Type}{f:α→List Value}{sz:Nat}{t:TypeId}{M:Nat→Prop}{h:ad}{s:SliceV}{xs:List α}{x:α}(ho:OwnS f sz t M h s (xs++ [x])):OwnS f sz t M h ⟨aZ s.a 0 s.cap sz,xs.length,s.cap⟩ xs:=by
 have hl:=ho.len;have hc:=ho.cap;rw[ac,aw]at hl;refine⟨rfl,ho.ne,by simp only;omega,ho.blk.imp id fun⟨b,rest,ha,hb,aO,hr⟩=>⟨b,f x++rest,?_,hb,?_,?_⟩⟩
 ·simp only;rw[ha,sub_zero]
 ·rw[aO,bC,aN,List.flatMap_nil,aE,ao]
 ·rw[ac,(ho.ne x).1,hr]
  simp only;have:s.cap-xs.length=(s.cap-s.len)+1:=by omega
  rw[this,Nat.add_mul];omega
structure It where
 b:Nat
 ah:ByteArray
 own:Bool
 sl:ByteArray
 w:Option ByteArray
 F:Fo
def It.raw(i:It):Wk:=(some ⟨i.b,0,none⟩,i.ah,i.own)
def It.key(i:It):List UInt8:=i.ah.data.toList++i.sl.data.toList
def It.prs(i:It):List (List UInt8×ByteArray):=if i.own then(i.w.map fun v=>(i.key,v)).toList else(lv i.w i.F).map fun p=>(i.key++p.1,p.2)
def It.cost(i:It):Nat:=if i.own then 1 else 2+2*wY i.F
def rE(l:List It):List (List UInt8×ByteArray):=l.reverse.flatMap It.prs
def jl(l:List It):Nat:=(l.map It.cost).sum
theorem C8(l:List It)(i:It):rE (l++ [i])=i.prs++rE l:=by unfold rE;rw[List.reverse_append];rfl
theorem ue(l m:List It):jl (l++m)=jl l+jl m:=by unfold jl;rw[List.map_append,List.sum_append]
theorem LY(l m:List It):rE (l++m)=rE m++rE l:=by unfold rE;rw[List.reverse_append,bC]
end Go.Proofs
namespace Go.Proofs
open Go Go.Lift
abbrev ny(z:Hs)(p:Pr):List Value:= [.string p.1,.string p.2,.int .u64 (ga z p.1)]
theorem En(z:Hs)(p:Pr):(ny z p).length=3∧0<3:=⟨rfl,by omega⟩
theorem Ji(z:Hs):∀xs:List Pr,cq (xs.flatMap (ny z))=true
 | []=>rfl
 |x::xs=>by rw[aN];exact ir rfl (Ji z xs)
section
variable {α:Type} {f:α→List Value} {sz:Nat} {t:TypeId} {M:Nat→Prop} {h:ad} {s:SliceV} {P Q:List α} {x:α}
theorem fj(ho:OwnS f sz t M h s (P++x::Q)){i:Nat}(hi:i=P.length):∃a,s.a=some a∧∀j v,(f x)[j]? =some v→aO h (adr (adr a (i*sz)) j)=some v:=by
 obtain⟨a,ha,_,hv⟩:=(ho.sl (W:=No) fun _ _ _ h=>h).at (i:=i) (x:=x) (by rw[hi,ax (ag _),cO];rfl)
 exact⟨a,ha,hv⟩
theorem jR(ho:OwnS f sz t M h s (P++x::Q))(y:α){a:Addr}(ha:s.a=some a){i:Nat}(hi:i=P.length){G:ad→Prop}(hk:∀h',OwnS f sz t M h' s (P++y::Q)→Upd M h h'→G h'):
  uv h (some (adr a (i*sz))) 0 (f y)∧At (iM h (adr a (i*sz)) 0 (f y)) G:=by
 obtain⟨a',ha',hM,hw,ho',hu⟩:=OwnS.setAt ho (k:=i) (by rw[hi,ac,ap];omega) y;rw[ha]at ha';cases ha';refine⟨hw,bM (hk _ ?_ (hu.mono fun b hb=>.inl (by have hb:b=a.block:=hb;rw[hb];exact hM)))⟩
 subst hi;have e1:(P++x::Q).take P.length=P:=List.take_left;have e2:(P++x::Q).drop (P.length+1)=Q:=by rw[←List.drop_drop,List.drop_left];rfl
 rw[e1,e2]at ho';exact ho'
end
theorem nP{α:Type}{f:α→List Value}{sz:Nat}{t:TypeId}{M:Nat→Prop}{h:ad}{s:SliceV}{xs:List α}{x:α}(ho:OwnS f sz t M h s xs){i:Nat}(hi:xs[i]? =some x):∃a,s.a=some a∧∀j v,(f x)[j]? =some v→aO h (adr (adr a (i*sz)) j)=some v:=by
 obtain⟨a,ha,_,hv⟩:=(ho.sl (W:=No) fun _ _ _ h=>h).at hi
 exact⟨a,ha,hv⟩
theorem Mq{α:Type}{A U X:List α}{i:Nat}(hi:A.length+U.length≤i):(A++(U++X))[i]? =X[i-A.length-U.length]?:=by
 rw[ax (by omega),ax (by omega)]
theorem Es{α:Type}{A U V B:List α}{i k:Nat}{x:α}(hi:A.length+U.length+k=i)(hk:V[k]? =some x):(A++(U++(V++B)))[i]? =some x:=by
 rw[Mq (by omega),show i-A.length-U.length=k by omega,aW (aU.1 hk).1];exact hk
theorem zV{α:Type}{A U X:List α}{i k:Nat}{x:α}(hi:A.length+k=i)(hk:U[k]? =some x):(A++(U++X))[i]? =some x:=by
 rw[ax (by omega),show i-A.length=k by omega,aW (aU.1 hk).1];exact hk
theorem qd{i j:Nat}(h:i+j≤4000000000):IntKind.wrap .i64 (Int.fdiv (IntKind.wrap .u64 (IntKind.wrap .i64 ((i:Int)+(j:Int)))) (2^(min (1:Int).toNat (IntKind.bits .u64))))=(((i+j)/2:Nat):Int):=by
 have e3:(2^(min (1:Int).toNat (IntKind.bits .u64)):Int)=2:=rfl;rw[e3,fL (x:=(i:Int)+(j:Int)) (by omega),Go.IntWalk.u64_in _ (by omega),Int.fdiv_eq_ediv_of_nonneg _ (by omega),fL (by omega)];omega
theorem gC{α:Type}{lt:α→α→Bool}(w:WO lt){l:List α}(h:Srt lt l){i j:Nat}(hij:i≤j){x y:α}(hx:l[i]? =some x) (hy:l[j]? =some y):lt y x=false:=by
 obtain⟨hi,rfl⟩:=aU.1 hx;obtain⟨hj,rfl⟩:=aU.1 hy;rcases Nat.lt_or_ge i j with h1|h1
 ·exact List.pairwise_iff_getElem.1 h i j hi hj h1
 ·have:i=j:=by omega
  subst this;exact w.irr _
theorem zX{α:Type}(l:List α):l= []∨∃l' y,l=l'++ [y]:=by
 rcases List.eq_nil_or_concat l with h|⟨l',y,h⟩
 ·exact .inl h
 ·exact .inr ⟨l',y,by rw[h,List.concat_eq_append]⟩
structure Cmp{α:Type}(lt:α→α→Bool)(f:α→List Value)(M:Nat→Prop)(Iv:ad→Prop)(V:Value):Prop where
 call:∀(a b:α) {h:ad} {K:Int→ad→Prop},Iv h→(∀h' e,Upd No h h'→decide (e<0)=lt a b→K e h')→HV PG V [.agg (f a).toArray,.agg (f b).toArray] [.c (.int .i64)] K h
 step:∀{h h':ad},Upd M h h'→Iv h→Iv h'
end Go.Proofs
namespace Go.Proofs
open Go Go.Lift
variable {z0:Hs}
theorem qH{M:Nat→Prop}{h:ad}{s:SliceV}{A U C V B:List (Pr)}(ho:OwnS (ny z0) 3 aG M h s (A++(U++(C++(V++B)))))(hn:s.len≤1000000000)(huv:U.length=V.length){a b:Nat}(ha:a=A.length)(hb:b=A.length+U.length+C.length){n:Nat}(hun:n=U.length){cmp:Value}{K:Unit→ad→Prop}
  (hk:∀h',OwnS (ny z0) 3 aG M h' s (A++(V++(C++(U++B))))→Upd M h h'→K () h'):HC PG cJ [.slice s.a s.len s.cap,.int .i64 a,.int .i64 b,.int .i64 n,cmp] [] K h:=by
 subst ha hb hun;refine kI s A.length (A.length+U.length+C.length:Nat) U.length cmp ?_;unfold fY bR cn um lC;have hlen:=ho.len;simp only[ac]at hlen;refine LoopP.ghost (fun(g:(List (Pr)×List (Pr))×List (Pr)×List (Pr)) (t:Int) h'=>t=(g.1.1.length:Int)∧U=g.1.1++g.1.2∧V=g.2.1++g.2.2∧g.1.1.length=g.2.1.length∧OwnS (ny z0) 3 aG M h' s (A++(g.2.1++(g.1.2++(C++(g.1.1++(g.2.2++B))))))∧Upd M h h') (fun g=>g.1.2.length) (([],U),[],V)
  ⟨rfl,rfl,rfl,rfl,ho,Upd.refl _ _⟩ ?_
 rintro I ⟨⟨U1,U2⟩,V1,V2⟩ t h' ⟨e1,e2,e3,hl,ho',hu⟩ hI;simp only at e1 e2 e3 hl ho';subst e1 e2 e3;simp only[ac]at huv hlen;refine av (fun hlt=>?_) fun hge=>?_
 ·simp only[ac]at hlt
  match U2,V2 with
  | [],_=>simp only[aI]at hlt;omega
  |_::_,[]=>simp only[aI,ap]at huv;omega
  |u::U2,v::V2=>
   simp only[ap]at huv hlen;simp only[ac,ap];have ew1:IntKind.wrap .i64 (((A.length+(U1.length+(U2.length+1))+C.length:Nat):Int)+(U1.length:Int))=((A.length+(U1.length+(U2.length+1))+C.length+U1.length:Nat):Int):=by rw[fL (by omega)];omega
   have ew2:IntKind.wrap .i64 ((A.length:Int)+(U1.length:Int))=((A.length+U1.length:Nat):Int):=by rw[fL (by omega)];omega
   rw[ew1,ew2];have f1:A++(V1++((u::U2)++(C++(U1++((v::V2)++B)))))=(A++V1)++u::(U2++(C++(U1++(v::V2++B)))):=by simp
   have f2:(A++V1)++u::(U2++(C++(U1++(v::V2++B))))=((A++V1)++u::(U2++(C++U1)))++v::(V2++B):=by simp
   have f3:(A++V1)++v::(U2++(C++(U1++(v::V2++B))))=((A++V1)++v::(U2++(C++U1)))++v::(V2++B):=by simp
   have f4:((A++V1)++v::(U2++(C++U1)))++u::(V2++B)=A++((V1++ [v])++(U2++(C++((U1++ [u])++(V2++B))))):=by simp
   rw[f1]at ho';obtain⟨a,ha,hu1⟩:=fj ho' (i:=A.length+U1.length) (by rw[ac];omega);have ho'':=ho';rw[f2]at ho'';obtain⟨a',ha',hv1⟩:=fj ho'' (i:=A.length+(U1.length+(U2.length+1))+C.length+U1.length) (by simp only[ac,ap];omega);rw[ha]at ha';cases ha';refine⟨⟨by omega,by omega⟩,a,ha,v.1,hv1 0 _ rfl,v.2,hv1 1 _ rfl,ga z0 v.1,hv1 2 _ rfl,⟨by omega,by omega⟩,a,ha,u.1,hu1 0 _ rfl,u.2,hu1 1 _ rfl,ga z0 u.1,hu1 2 _ rfl,⟨by omega,by omega⟩,a,ha,?_⟩
   refine jR ho' v ha (by rw[ac];omega) fun h2 o2 k2=>⟨⟨by omega,by omega⟩,a,ha,?_⟩
   rw[f3]at o2;refine jR o2 u ha (by first|omega|(simp;done)|(simp;omega)) fun h3 o3 k3=>?_
   rw[f4]at o3;rw[iG (n:=U1.length+(U2.length+1)) (by omega) (by omega)];exact hI ((U1++ [u],U2),V1++ [v],V2) _ _ ⟨by simp,by simp,by simp,by simp[hl],o3,(hu.trans k2 fun b hb=>.inl hb).trans k3 fun b hb=>.inl hb⟩ (by simp)
 ·simp only[ac]at hge
  have h1:U2= []:=aq.1 (by omega);have h2:V2= []:=aq.1 (by rw[h1,aI]at huv;omega);subst h1 h2;simp only[aE,cd]at ho' hk;exact hk h' ho' hu
theorem He{M:Nat→Prop}{h:ad}{s:SliceV}{A U V B:List (Pr)}(ho:OwnS (ny z0) 3 aG M h s (A++(U++(V++B))))(hn:s.len≤1000000000)(hU:0<U.length)(hV:0<V.length){a m b:Nat}(ha:a=A.length)(hm:m=A.length+U.length)(hb:b=A.length+U.length+V.length){cmp:Value}{K:Unit→ad→Prop}
  (hk:∀h',OwnS (ny z0) 3 aG M h' s (A++(V++(U++B)))→Upd M h h'→K () h'):HC PG eM [.slice s.a s.len s.cap,.int .i64 a,.int .i64 m,.int .i64 b,cmp] [] K h:=by
 subst ha hm hb;refine lR s A.length (A.length+U.length:Nat) (A.length+U.length+V.length:Nat) cmp ?_;unfold gO;have hlen:=ho.len;simp only[ac]at hlen;have e1:IntKind.wrap .i64 (((A.length+U.length:Nat):Int)-(A.length:Int))=(U.length:Int):=by rw[fL (by omega)];omega
 have e2:IntKind.wrap .i64 (((A.length+U.length+V.length:Nat):Int)-((A.length+U.length:Nat):Int))=(V.length:Int):=by rw[fL (by omega)];omega
 rw[e1,e2];refine LoopP.ghost (fun(g:(List (Pr)×List (Pr))×List (Pr)×List (Pr)) (t:Int×Int) h'=>t.1=(g.1.2.length:Int)∧t.2=(g.2.1.length:Int)∧0<g.1.2.length∧0<g.2.1.length∧A.length+U.length=g.1.1.length+g.1.2.length∧g.1.1++(g.2.1++(g.1.2++g.2.2))=A++(V++(U++B))∧OwnS (ny z0) 3 aG M h' s (g.1.1++(g.1.2++(g.2.1++g.2.2)))∧Upd M h h') (fun g=>g.1.2.length+g.2.1.length) ((A,U),V,B)
  ⟨rfl,rfl,hU,hV,rfl,rfl,ho,Upd.refl _ _⟩ ?_
 rintro I ⟨⟨A',U'⟩,V',B'⟩ ⟨ti,tj⟩ h' ⟨e1,e2,hU',hV',hmid,htgt,ho',hu⟩ hI;simp only at e1 e2 hU' hV' hmid htgt ho';subst e1 e2;have hlen':=ho'.len;simp only[ac]at hlen';have hmm:((A.length+U.length:Nat):Int)=((A'.length+U'.length:Nat):Int):=by omega
 rw[hmm];have ew:IntKind.wrap .i64 (((A'.length+U'.length:Nat):Int)-(U'.length:Int))=(A'.length:Int):=by rw[fL (by omega)];omega
 simp only;rw[ew];refine CondP.intro (fun hne=>?_) fun heq=>?_
 ·have hne:(U'.length:Int)≠(V'.length:Int):=by simpa using hne
  refine av (fun hgt=>?_) fun hle=>?_
  ·
   have hgt:V'.length<U'.length:=by omega
   obtain⟨U1,U2,rfl,hl1⟩:∃U1 U2,U'=U1++U2∧U1.length=V'.length:=⟨U'.take V'.length,U'.drop V'.length,(aA ..).symm,by rw[aD];omega⟩
   simp only[ac]at hgt hlen' hmid hne ew;have f1:A'++((U1++U2)++(V'++B'))=A'++(U1++(U2++(V'++B'))):=by simp
   have f2:A'++(V'++(U2++(U1++B')))=(A'++V')++(U2++(U1++B')):=by simp
   rw[f1]at ho';refine qH ho' hn hl1 rfl (b:=A'.length+(U1++U2).length) (by simp only[ac];omega) (n:=V'.length) hl1.symm fun h2 o2 k2=>?_
   rw[f2]at o2;have ew2:IntKind.wrap .i64 (((U1++U2).length:Int)-(V'.length:Int))=(U2.length:Int):=by rw[ac,fL (by omega)];omega
   rw[ew2];refine hI ((A'++V',U2),U1,B') _ _ ⟨rfl,by simp only;omega,by simp only;omega,by simp only;omega,by simp only[ac];omega,?_,o2,hu.trans k2 fun b hb=>.inl hb⟩ (by simp only[ac];omega)
   rw[←htgt];simp
  ·have hlt:U'.length<V'.length:=by omega
   obtain⟨V1,V2,rfl,hl1⟩:∃V1 V2,V'=V1++V2∧V2.length=U'.length:=⟨V'.take (V'.length-U'.length),V'.drop (V'.length-U'.length),(aA ..).symm,by rw[aV];omega⟩
   simp only[ac]at hlt hlen' hne;have ew2:IntKind.wrap .i64 ((IntKind.wrap .i64 (((A'.length+U'.length:Nat):Int)+((V1++V2).length:Int)))-(U'.length:Int))=((A'.length+U'.length+V1.length:Nat):Int):=by
    rw[ac,fL (x:=((A'.length+U'.length:Nat):Int)+((V1.length+V2.length:Nat):Int)) (by omega),fL (by omega)];omega
   rw[ew2];have f1:A'++(U'++((V1++V2)++B'))=A'++(U'++(V1++(V2++B'))):=by simp
   rw[f1]at ho';refine qH ho' hn hl1.symm rfl rfl rfl fun h2 o2 k2=>?_
   have ew3:IntKind.wrap .i64 (((V1++V2).length:Int)-(U'.length:Int))=(V1.length:Int):=by rw[ac,fL (by omega)];omega
   rw[ew3];refine hI ((A',V2),V1,U'++B') _ _ ⟨by simp only;omega,rfl,by simp only;omega,by simp only;omega,by simp only;omega,?_,o2,hu.trans k2 fun b hb=>.inl hb⟩ (by simp only[ac];omega)
   rw[←htgt];simp
 ·have heq:(U'.length:Int)=(V'.length:Int):=by simpa using heq
  have f1:A'++(U'++(V'++B'))=A'++(U'++([]++(V'++B'))):=by simp
  rw[f1]at ho';refine qH ho' hn (by omega) rfl (b:=A'.length+U'.length) (by simp) rfl fun h2 o2 k2=>?_
  rw[cd,htgt]at o2;exact hk h2 o2 (hu.trans k2 fun b hb=>.inl hb)
theorem yZ{lt:Pr→Pr→Bool}(w:WO lt){M:Nat→Prop}{Iv:ad→Prop}{cmp:Value}(hc:Cmp lt (ny z0) M Iv cmp){h:ad}{s:SliceV}{A S B:List (Pr)}(ho:OwnS (ny z0) 3 aG M h s (A++(S++B)))(hi:Iv h)(hn:s.len≤1000000000){a b:Nat}(ha:a=A.length)(hb:b=A.length+S.length){K:Unit→ad→Prop}
  (hk:∀h' R,OwnS (ny z0) 3 aG M h' s (A++(R++B))→St lt S R→Upd M h h'→K () h'):HC PG cV [.slice s.a s.len s.cap,.int .i64 a,.int .i64 b,cmp] [] K h:=by
 subst ha hb;refine jx s A.length (A.length+S.length:Nat) cmp ?_;unfold fu bR cn bV aL eB um lC qE;have hlen:=ho.len;simp only[ac]at hlen;have ea:IntKind.wrap .i64 ((A.length:Int)+1)=((A.length+1:Nat):Int):=by rw[fL (by omega)];omega
 rw[ea];refine LoopP.ghost (fun(g:List (Pr)×List (Pr)×List (Pr)) (t:Int) h'=>t=((A.length+max 1 g.1.length:Nat):Int)∧S=g.1++g.2.2∧(g.1= []→g.2.2= [])∧St lt g.1 g.2.1∧OwnS (ny z0) 3 aG M h' s (A++(g.2.1++(g.2.2++B)))∧Upd M h h') (fun g=>g.2.2.length) (S.take 1,S.take 1,S.drop 1)
  ⟨?_,(aA ..).symm,fun e=>?_,⟨Eqf.rfl _,?_⟩,by rw[←ao (S.take 1),aA];exact ho,Upd.refl _ _⟩ ?_
 ·simp only[aD];omega
 ·have:=congrArg List.length e
  simp only[aD,aI]at this;exact aq.1 (by simp only[aV];omega)
 ·match S with
  | []=>exact Srt.nil
  |x::S=>exact Srt.one x
 rintro I ⟨S1,R1,T⟩ t h' ⟨e1,e2,hemp,hst,ho',hu⟩ hI;simp only at e1 e2 hemp hst ho';subst e1 e2;simp only[ac]at hlen;have hR1:=hst.eqf.len;refine av (fun hlt=>?_) fun hge=>?_
 ·simp only[ac]at hlt
  have hS1:S1≠[]:=fun e=>by
   have:=hemp e;subst e;subst this;simp only[aI]at hlt;omega
  have hS1l:0<S1.length:=List.length_pos_iff.2 hS1;match T with
  | []=>simp only[aI]at hlt;omega
  |x::T=>
   have emax:A.length+max 1 S1.length=A.length+S1.length:=by omega
   rw[emax];refine LoopP.ghost (fun(g:List (Pr)×List (Pr)) (t:Int) h2=>t=((A.length+g.1.length:Nat):Int)∧R1=g.1++g.2∧(∀y∈g.2,lt x y=true)∧OwnS (ny z0) 3 aG M h2 s (A++(g.1++(x::(g.2++(T++B)))))∧Upd M h h2) (fun g=>g.1.length) (R1,[])
    ⟨by simp only;omega,by simp,fun y hy=>(by cases hy),by simpa using ho',hu⟩ ?_
   rintro I2 ⟨L,G⟩ t2 h2 ⟨e1,e2,hG,ho2,hu2⟩ hI2;simp only at e1 e2 hG ho2;subst e1 e2;simp only[ac]at hR1;simp only[ap]at hlen;refine Join.intro (fun t h3=>Upd M h h3∧OwnS (ny z0) 3 aG M h3 s (A++(L++(x::(G++(T++B)))))∧(t=true→∃L' y,L=L'++ [y]∧lt x y=true)∧(t=false→∀y∈L,lt x y=false)) (fun Rj hRj=>?_) ?_
   ·refine av (fun hgt=>?_) fun hle=>?_
    ·rcases zX L with rfl|⟨L',y,rfl⟩
     ·simp only[aI]at hgt;omega
     have hlL:(L'++ [y]).length=L'.length+1:=by simp
     have ew:IntKind.wrap .i64 (((A.length+(L'++ [y]).length:Nat):Int)-1)=((A.length+L'.length:Nat):Int):=by rw[hlL,fL (by omega)];omega
     rw[ew];have f1:A++((L'++ [y])++(x::(G++(T++B))))=(A++L')++y::(x::(G++(T++B))):=by simp
     have f2:A++((L'++ [y])++(x::(G++(T++B))))=(A++(L'++ [y]))++x::(G++(T++B)):=by simp
     have o3:=ho2;have o4:=ho2;rw[f1]at o3;rw[f2]at o4;obtain⟨a,ha,hy⟩:=fj o3 (i:=A.length+L'.length) (by first|omega|(simp;done)|(simp;omega))
     obtain⟨a',ha',hx⟩:=fj o4 (i:=A.length+(L'++ [y]).length) (by first|omega|(simp;done)|(simp;omega))
     rw[ha]at ha';cases ha';refine⟨⟨by omega,by omega⟩,a,ha,x.1,hx 0 _ rfl,x.2,hx 1 _ rfl,ga z0 x.1,hx 2 _ rfl,⟨by omega,by omega⟩,a,ha,y.1,hy 0 _ rfl,y.2,hy 1 _ rfl,ga z0 y.1,hy 2 _ rfl,?_⟩
     refine hc.call x y (hc.step hu2 hi) fun h5 e k5 he=>?_
     rw[he];have ho5:=ho2.upd k5 fun _ _ h=>h
     refine hRj _ _ ⟨hu2.tr k5.wide,ho5,fun h=>⟨L',y,rfl,h⟩,fun h z hz=>?_⟩
     have hs:=hst.srt.left;rcases List.mem_append.1 hz with hz|hz
     ·exact w.ntr x y z h (hs.cross z hz y (aJ.2 rfl))
     ·rw[aJ.1 hz];exact h
    ·have hL:L= []:=aq.1 (by omega)
     exact hRj _ _ ⟨hu2,ho2,fun h=>(by cases h),fun _ y hy=>(by rw[hL]at hy;cases hy)⟩
   ·rintro t3 h3 ⟨hu3,ho3,ht,hf⟩
    cases t3 with
    |true=>
     obtain⟨L',y,rfl,hxy⟩:=ht rfl;have hlL:(L'++ [y]).length=L'.length+1:=by simp
     refine aB.2 ?_;have ew:IntKind.wrap .i64 (((A.length+(L'++ [y]).length:Nat):Int)-1)=((A.length+L'.length:Nat):Int):=by rw[hlL,fL (by omega)];omega
     rw[ew];have f1:A++((L'++ [y])++(x::(G++(T++B))))=(A++L')++y::(x::(G++(T++B))):=by simp
     have f2:(A++L')++y::(x::(G++(T++B)))=(A++(L'++ [y]))++x::(G++(T++B)):=by simp
     have f3:(A++(L'++ [y]))++y::(G++(T++B))=(A++L')++y::(y::(G++(T++B))):=by simp
     have f4:(A++L')++x::(y::(G++(T++B)))=A++(L'++(x::((y::G)++(T++B)))):=by simp
     rw[f1]at ho3;have o4:=ho3;rw[f2]at o4;obtain⟨a,ha,hy⟩:=fj ho3 (i:=A.length+L'.length) (by first|omega|(simp;done)|(simp;omega))
     obtain⟨a',ha',hx⟩:=fj o4 (i:=A.length+(L'++ [y]).length) (by first|omega|(simp;done)|(simp;omega))
     rw[ha]at ha';cases ha';refine⟨⟨by omega,by omega⟩,a,ha,y.1,hy 0 _ rfl,y.2,hy 1 _ rfl,ga z0 y.1,hy 2 _ rfl,⟨by omega,by omega⟩,a,ha,x.1,hx 0 _ rfl,x.2,hx 1 _ rfl,ga z0 x.1,hx 2 _ rfl,⟨by omega,by omega⟩,a,ha,?_⟩
     refine jR o4 y ha (by first|omega|(simp;done)|(simp;omega)) fun h5 o5 k5=>⟨⟨by omega,by omega⟩,a,ha,?_⟩
     rw[f3]at o5;refine jR o5 x ha (by first|omega|(simp;done)|(simp;omega)) fun h6 o6 k6=>?_
     rw[f4]at o6;refine hI2 (L',y::G) _ _ ⟨rfl,by simp,fun z hz=>?_,o6,(hu3.trans k5 fun b hb=>.inl hb).trans k6 fun b hb=>.inl hb⟩ (by simp only[hlL];omega)
     rcases az.1 hz with rfl|hz
     ·exact hxy
     ·exact hG z hz
    |false=>
     refine aj.2 ?_;have ew:IntKind.wrap .i64 (((A.length+S1.length:Nat):Int)+1)=((A.length+max 1 (S1.length+1):Nat):Int):=by rw[fL (by omega)];omega
     rw[ew];refine hI (S1++ [x],L++x::G,T) _ _ ⟨by simp,by simp,fun e=>(by simp at e),G4 w hst (hf rfl) hG,?_,hu3⟩ (by simp)
     have f1:A++((L++x::G)++(T++B))=A++(L++(x::(G++(T++B)))):=by simp
     rw[f1];exact ho3
 ·simp only[ac]at hge
  have hT:T= []:=by
   rcases ce S1.length with h0|h0
   ·exact hemp (aq.1 h0)
   ·exact aq.1 (by omega)
  subst hT;rw[cd]at ho';rw[aE]at hk;exact hk h' R1 ho' hst hu
theorem ws{lt:Pr→Pr→Bool}(w:WO lt){M:Nat→Prop}{Iv:ad→Prop}{cmp:Value}(hc:Cmp lt (ny z0) M Iv cmp){s:SliceV}(hn:s.len≤1000000000):∀(n:Nat) {h:ad} {A U V B:List (Pr)},U.length+V.length≤n→OwnS (ny z0) 3 aG M h s (A++(U++(V++B)))→Iv h→0<U.length→0<V.length→Srt lt U→Srt lt V→∀{a m b:Nat},a=A.length→m=A.length+U.length→b=A.length+U.length+V.length→∀{K:Unit→ad→Prop},
  (∀h' R,OwnS (ny z0) 3 aG M h' s (A++(R++B))→St lt (U++V) R→Upd M h h'→K () h')→HC PG cx [.slice s.a s.len s.cap,.int .i64 a,.int .i64 m,.int .i64 b,cmp] [] K h:=by
 intro n;induction n with
 |zero=>intro h A U V B hl _ _ hU;omega
 |succ n ih=>
  intro h A U V B hl ho hi hU hV sU sV a m b ha hm hb K hk;refine ld s a m b cmp ?_;unfold ge bR cn bV aL eB um lC qE;have hlen:=ho.len;simp only[ac]at hlen;have e1:IntKind.wrap .i64 ((m:Int)-(a:Int))=(U.length:Int):=by rw[fL (by omega)];omega
  have e2:IntKind.wrap .i64 ((b:Int)-(m:Int))=(V.length:Int):=by rw[fL (by omega)];omega
  rw[e1,e2];refine CondP.intro (fun hone=>?_) fun hmore=>?_
  ·have hone:U.length=1:=by have:=eq_of_beq hone;omega
   match U,hone with
   | [u],_=>
   simp only[aw]at hlen hm hb;refine LoopP.ghost (fun(g:Nat×Nat) (t:Int×Int) h'=>t.1=(g.1:Int)∧t.2=(g.2:Int)∧m≤g.1∧g.1≤g.2∧g.2≤b∧(∀q x,V[q]? =some x→m+q<g.1→lt x u=true)∧(∀q x,V[q]? =some x→g.2≤m+q→lt x u=false)∧OwnS (ny z0) 3 aG M h' s (A++([u]++(V++B)))∧Upd M h h') (fun g=>g.2-g.1) (m,b)
    ⟨rfl,rfl,ag _,by simp only;omega,ag _,fun q x hq h=>(by simp only at h;omega),fun q x hq h=>(by have:=(aU.1 hq).1;simp only at h;omega),ho,Upd.refl _ _⟩ ?_
   rintro I ⟨i,j⟩ ⟨ti,tj⟩ h' ⟨e1,e2,hmi,hij,hjb,hlo,hhi,ho',hu⟩ hI;simp only at e1 e2 hmi hij hjb hlo hhi;subst e1 e2;refine av (fun hlt=>?_) fun hge=>?_
   ·have hlt:i<j:=by have:(i:Int)<(j:Int):=hlt;omega
    refine⟨by decide,?_⟩;simp only[Bd];rw[qd (by omega)];have hk1:(i+j)/2-m<V.length:=by omega
    have hk0:(i+j)/2=A.length+1+((i+j)/2-m):=by omega
    obtain⟨a1,ha1,hx⟩:=nP ho' (i:=(i+j)/2) (x:=V[(i+j)/2-m]) (Es (U:= [u]) (k:=(i+j)/2-m) (by simp only[aw];omega) (ae hk1));obtain⟨a2,ha2,hy⟩:=fj (P:=A) (x:=u) (Q:=V++B) ho' ha;rw[ha1]at ha2;cases ha2;have hVk:V[(i+j)/2-m]? =some V[(i+j)/2-m]:=ae hk1;generalize V[(i+j)/2-m]=x at hx hVk;refine⟨⟨by omega,by omega⟩,a1,ha1,x.1,hx 0 _ rfl,x.2,hx 1 _ rfl,ga z0 x.1,hx 2 _ rfl,⟨by omega,by omega⟩,a1,ha1,u.1,hy 0 _ rfl,u.2,hy 1 _ rfl,ga z0 u.1,hy 2 _ rfl,?_⟩
    refine hc.call x u (hc.step hu hi) fun h5 e k5 he=>?_
    rw[he];have ho5:=ho'.upd k5 fun _ _ h=>h
    have hu5:=hu.tr k5.wide;cases hxu:lt x u with
    |true=>
     refine aB.2 ?_;have ew:IntKind.wrap .i64 ((((i+j)/2:Nat):Int)+1)=(((i+j)/2+1:Nat):Int):=by rw[fL (by omega)];omega
     rw[ew];refine hI ((i+j)/2+1,j) _ _ ⟨rfl,rfl,by simp only;omega,by simp only;omega,hjb,fun q y hq hqi=>?_,hhi,ho5,hu5⟩ (by simp only;omega)
     have hle:=gC w sV (i:=q) (j:=(i+j)/2-m) (by simp only at hqi;omega) hq hVk;cases hyu:lt y u with
     |true=>rfl
     |false=>rw[w.ntr _ _ _ hle hyu]at hxu;cases hxu
    |false=>
     refine aj.2 ?_;refine hI (i,(i+j)/2) _ _ ⟨rfl,rfl,hmi,by simp only;omega,by simp only;omega,hlo,fun q y hq hqi=>?_,ho5,hu5⟩ (by simp only;omega)
     have hle:=gC w sV (i:=(i+j)/2-m) (j:=q) (by simp only at hqi;omega) hVk hq;exact w.ntr _ _ _ hle hxu
   ·have hij:i=j:=by have:¬(i:Int)<(j:Int):=hge;omega
    subst hij;obtain⟨V1,V2,rfl,hV1⟩:∃V1 V2,V=V1++V2∧V1.length=i-m:=⟨V.take (i-m),V.drop (i-m),(aA ..).symm,by rw[aD];omega⟩
    simp only[ac]at hlen hb;have lo1:∀x∈V1,lt x u=true:=fun x hx=>by
     obtain⟨q,hq,e⟩:=bX hx;exact hlo q x (by rw[aW hq,ae hq,e]) (by omega)
    have hi1:∀x∈V2,lt x u=false:=fun x hx=>by
     obtain⟨q,hq,e⟩:=bX hx;exact hhi (V1.length+q) x (by rw[ax (by omega),co,ae hq,e]) (by omega)
    have hst:=wt w sV lo1 hi1;have f0:A++([u]++((V1++V2)++B))=A++([]++(u::(V1++(V2++B)))):=by simp
    rw[f0]at ho';have ew:IntKind.wrap .i64 ((i:Int)-1)=((A.length+V1.length:Nat):Int):=by rw[fL (by omega)];omega
    rw[ew];refine LoopP.ghost (fun(g:List (Pr)×List (Pr)) (t:Int) h2=>t=((A.length+g.1.length:Nat):Int)∧V1=g.1++g.2∧OwnS (ny z0) 3 aG M h2 s (A++(g.1++(u::(g.2++(V2++B)))))∧Upd M h h2) (fun g=>g.2.length) ([],V1)
     ⟨by simp[ha],rfl,ho',hu⟩ ?_
    rintro I2 ⟨G1,G2⟩ t2 h2 ⟨e1,e2,ho2,hu2⟩ hI2;simp only at e1 e2 ho2;subst e1 e2;simp only[ac]at hlen hb ew⊢;refine av (fun hlt=>?_) fun hge=>?_
    ·match G2 with
     | []=>simp only[aI]at hlt;omega
     |g::G2=>
      simp only[ap]at hlen;have ew1:IntKind.wrap .i64 (((A.length+G1.length:Nat):Int)+1)=((A.length+G1.length+1:Nat):Int):=by rw[fL (by omega)];omega
      rw[ew1];have f1:A++(G1++(u::((g::G2)++(V2++B))))=(A++G1)++u::(g::(G2++(V2++B))):=by simp
      have f2:(A++G1)++u::(g::(G2++(V2++B)))=(A++(G1++ [u]))++g::(G2++(V2++B)):=by simp
      have f3:(A++G1)++g::(g::(G2++(V2++B)))=(A++(G1++ [g]))++g::(G2++(V2++B)):=by simp
      have f4:(A++(G1++ [g]))++u::(G2++(V2++B))=A++((G1++ [g])++(u::(G2++(V2++B)))):=by simp
      rw[f1]at ho2;have o3:=ho2;rw[f2]at o3;obtain⟨a1,ha1,hy⟩:=fj o3 (i:=A.length+G1.length+1) (by first|omega|(simp;done)|(simp;omega))
      obtain⟨a2,ha2,hx⟩:=fj ho2 (i:=A.length+G1.length) (by first|omega|(simp;done)|(simp;omega))
      rw[ha1]at ha2;cases ha2;refine⟨⟨by omega,by omega⟩,a1,ha1,g.1,hy 0 _ rfl,g.2,hy 1 _ rfl,ga z0 g.1,hy 2 _ rfl,⟨by omega,by omega⟩,a1,ha1,u.1,hx 0 _ rfl,u.2,hx 1 _ rfl,ga z0 u.1,hx 2 _ rfl,⟨by omega,by omega⟩,a1,ha1,?_⟩
      refine jR ho2 g ha1 (by first|omega|(simp;done)|(simp;omega)) fun h5 o5 k5=>⟨⟨by omega,by omega⟩,a1,ha1,?_⟩
      rw[f3]at o5;refine jR o5 u ha1 (by first|omega|(simp;done)|(simp;omega)) fun h6 o6 k6=>?_
      rw[f4]at o6;exact hI2 (G1++ [g],G2) _ _ ⟨by simp;omega,by simp,o6,(hu2.trans k5 fun b hb=>.inl hb).trans k6 fun b hb=>.inl hb⟩ (by simp)
    ·have hG:G2= []:=aq.1 (by omega)
     subst hG;simp only[aE,cd]at ho2 hst hk;refine hk h2 (G1++u::V2) ?_ hst hu2;have f1:A++((G1++u::V2)++B)=A++(G1++(u::(V2++B))):=by simp
     rw[f1];exact ho2
  refine CondP.intro (fun hone=>?_) fun hmore2=>?_
  ·have hone:V.length=1:=by have:=eq_of_beq hone;omega
   match V,hone with
   | [v],_=>
   simp only[aw]at hlen hb;refine LoopP.ghost (fun(g:Nat×Nat) (t:Int×Int) h'=>t.1=(g.1:Int)∧t.2=(g.2:Int)∧a≤g.1∧g.1≤g.2∧g.2≤m∧(∀q x,U[q]? =some x→a+q<g.1→lt v x=false)∧(∀q x,U[q]? =some x→g.2≤a+q→lt v x=true)∧OwnS (ny z0) 3 aG M h' s (A++(U++([v]++B)))∧Upd M h h') (fun g=>g.2-g.1) (a,m)
    ⟨rfl,rfl,ag _,by simp only;omega,ag _,fun q x hq h=>(by simp only at h;omega),fun q x hq h=>(by have:=(aU.1 hq).1;simp only at h;omega),ho,Upd.refl _ _⟩ ?_
   rintro I ⟨i,j⟩ ⟨ti,tj⟩ h' ⟨e1,e2,hmi,hij,hjb,hlo,hhi,ho',hu⟩ hI;simp only at e1 e2 hmi hij hjb hlo hhi;subst e1 e2;refine av (fun hlt=>?_) fun hge=>?_
   ·have hlt:i<j:=by have:(i:Int)<(j:Int):=hlt;omega
    refine⟨by decide,?_⟩;simp only[Bd];rw[qd (by omega)];have hk1:(i+j)/2-a<U.length:=by omega
    obtain⟨a1,ha1,hx⟩:=nP ho' (i:=(i+j)/2) (x:=U[(i+j)/2-a]) (zV (k:=(i+j)/2-a) (by omega) (ae hk1));have f1:A++(U++([v]++B))=(A++U)++v::B:=by simp
    have o3:=ho';rw[f1]at o3;obtain⟨a2,ha2,hy⟩:=fj o3 (i:=m) (by first|omega|(simp;done)|(simp;omega))
    rw[ha1]at ha2;cases ha2;have hVk:U[(i+j)/2-a]? =some U[(i+j)/2-a]:=ae hk1;generalize U[(i+j)/2-a]=x at hx hVk;refine⟨⟨by omega,by omega⟩,a1,ha1,v.1,hy 0 _ rfl,v.2,hy 1 _ rfl,ga z0 v.1,hy 2 _ rfl,⟨by omega,by omega⟩,a1,ha1,x.1,hx 0 _ rfl,x.2,hx 1 _ rfl,ga z0 x.1,hx 2 _ rfl,?_⟩
    refine hc.call v x (hc.step hu hi) fun h5 e k5 he=>?_
    rw[he];have ho5:=ho'.upd k5 fun _ _ h=>h
    have hu5:=hu.tr k5.wide;cases hxu:lt v x with
    |false=>
     refine aB.2 ?_;have ew:IntKind.wrap .i64 ((((i+j)/2:Nat):Int)+1)=(((i+j)/2+1:Nat):Int):=by rw[fL (by omega)];omega
     rw[ew];refine hI ((i+j)/2+1,j) _ _ ⟨rfl,rfl,by simp only;omega,by simp only;omega,hjb,fun q y hq hqi=>?_,hhi,ho5,hu5⟩ (by simp only;omega)
     exact w.ntr _ _ _ hxu (gC w sU (i:=q) (j:=(i+j)/2-a) (by simp only at hqi;omega) hq hVk)
    |true=>
     refine aj.2 ?_;refine hI (i,(i+j)/2) _ _ ⟨rfl,rfl,hmi,by simp only;omega,by simp only;omega,hlo,fun q y hq hqi=>?_,ho5,hu5⟩ (by simp only;omega)
     have hle:=gC w sU (i:=(i+j)/2-a) (j:=q) (by simp only at hqi;omega) hVk hq;cases hvy:lt v y with
     |true=>rfl
     |false=>rw[w.ntr _ _ _ hvy hle]at hxu;cases hxu
   ·have hij:i=j:=by have:¬(i:Int)<(j:Int):=hge;omega
    subst hij;obtain⟨U1,U2,rfl,hU1⟩:∃U1 U2,U=U1++U2∧U1.length=i-a:=⟨U.take (i-a),U.drop (i-a),(aA ..).symm,by rw[aD];omega⟩
    simp only[ac]at hlen hb hm;have lo1:∀x∈U1,lt v x=false:=fun x hx=>by
     obtain⟨q,hq,e⟩:=bX hx;exact hlo q x (by rw[aW hq,ae hq,e]) (by omega)
    have hi1:∀x∈U2,lt v x=true:=fun x hx=>by
     obtain⟨q,hq,e⟩:=bX hx;exact hhi (U1.length+q) x (by rw[ax (by omega),co,ae hq,e]) (by omega)
    have hst:=yN w sU lo1 hi1;have f0:A++((U1++U2)++([v]++B))=A++(U1++(U2++(v::([]++B)))):=by simp
    rw[f0]at ho';refine LoopP.ghost (fun(g:List (Pr)×List (Pr)) (t:Int) h2=>t=((A.length+U1.length+g.1.length:Nat):Int)∧U2=g.1++g.2∧OwnS (ny z0) 3 aG M h2 s (A++(U1++(g.1++(v::(g.2++B)))))∧Upd M h h2) (fun g=>g.1.length) (U2,[])
     ⟨by simp only;omega,by simp,ho',hu⟩ ?_
    rintro I2 ⟨G1,G2⟩ t2 h2 ⟨e1,e2,ho2,hu2⟩ hI2;simp only at e1 e2 ho2;subst e1 e2;simp only[ac]at hlen hb hm⊢;refine av (fun hgt=>?_) fun hle=>?_
    ·rcases zX G1 with rfl|⟨G1',g,rfl⟩
     ·simp only[aI]at hgt;omega
     simp only[ac,aw]at hlen hb hm hgt⊢;have ew1:IntKind.wrap .i64 (((A.length+U1.length+(G1'.length+1):Nat):Int)-1)=((A.length+U1.length+G1'.length:Nat):Int):=by rw[fL (by omega)];omega
     rw[ew1];have f1:A++(U1++((G1'++ [g])++(v::(G2++B))))=(A++(U1++(G1'++ [g])))++v::(G2++B):=by simp
     have f2:(A++(U1++(G1'++ [g])))++v::(G2++B)=(A++(U1++G1'))++g::(v::(G2++B)):=by simp
     have f3:(A++(U1++(G1'++ [g])))++g::(G2++B)=(A++(U1++G1'))++g::(g::(G2++B)):=by simp
     have f4:(A++(U1++G1'))++v::(g::(G2++B))=A++(U1++(G1'++(v::((g::G2)++B)))):=by simp
     rw[f1]at ho2;have o3:=ho2;rw[f2]at o3;obtain⟨a1,ha1,hy⟩:=fj o3 (i:=A.length+U1.length+G1'.length) (by first|omega|(simp;done)|(simp;omega))
     obtain⟨a2,ha2,hx⟩:=fj ho2 (i:=A.length+U1.length+(G1'.length+1)) (by first|omega|(simp;done)|(simp;omega))
     rw[ha1]at ha2;cases ha2;refine⟨⟨by omega,by omega⟩,a1,ha1,g.1,hy 0 _ rfl,g.2,hy 1 _ rfl,ga z0 g.1,hy 2 _ rfl,⟨by omega,by omega⟩,a1,ha1,v.1,hx 0 _ rfl,v.2,hx 1 _ rfl,ga z0 v.1,hx 2 _ rfl,⟨by omega,by omega⟩,a1,ha1,?_⟩
     refine jR ho2 g ha1 (by first|omega|(simp;done)|(simp;omega)) fun h5 o5 k5=>⟨⟨by omega,by omega⟩,a1,ha1,?_⟩
     rw[f3]at o5;refine jR o5 v ha1 (by first|omega|(simp;done)|(simp;omega)) fun h6 o6 k6=>?_
     rw[f4]at o6;exact hI2 (G1',g::G2) _ _ ⟨rfl,by simp,o6,(hu2.trans k5 fun b hb=>.inl hb).trans k6 fun b hb=>.inl hb⟩ (by simp)
    ·have hG:G1= []:=aq.1 (by omega)
     subst hG;simp only[cd]at ho2 hst hk;refine hk h2 (U1++v::G2) ?_ hst hu2;have f1:A++((U1++v::G2)++B)=A++(U1++(v::(G2++B))):=by simp
     rw[f1];exact ho2
  have hU2:2≤U.length:=by
   have:(U.length:Int)≠1:=by simpa using hmore
   omega
  have hV2:2≤V.length:=by
   have:(V.length:Int)≠1:=by simpa using hmore2
   omega
  refine⟨by decide,?_⟩;simp only[Bd];rw[qd (i:=a) (j:=b) (by omega)];obtain⟨mid,hmid⟩:∃mid,(a+b)/2=mid:=⟨_,rfl⟩;rw[hmid];have em:IntKind.wrap .i64 ((mid:Int)+(m:Int))=((mid+m:Nat):Int):=by rw[fL (by omega)];omega
  rw[em];have ep:IntKind.wrap .i64 (((mid+m:Nat):Int)-1)=((mid+m-1:Nat):Int):=by rw[fL (by omega)];omega
  rw[ep];refine Join.intro (fun t h'=>h'=h∧∃s0 r0:Nat,t=((s0:Int),(r0:Int))∧a≤s0∧s0≤r0∧r0≤m∧r0≤mid∧mid+m≤b+s0∧(r0=mid∨r0=m)∧(s0=a∨s0+b=mid+m)) (fun Rj hRj=>?_) ?_
  ·refine av (fun hgt=>?_) fun hle=>?_
   ·have es:IntKind.wrap .i64 (((mid+m:Nat):Int)-(b:Int))=((mid+m-b:Nat):Int):=by rw[fL (by omega)];omega
    rw[es];exact hRj _ _ ⟨rfl,_,_,rfl,by omega,by omega,by omega,by omega,by omega,by omega,by omega⟩
   ·exact hRj _ _ ⟨rfl,_,_,rfl,by omega,by omega,by omega,by omega,by omega,by omega,by omega⟩
  rintro t h' ⟨rfl,s0,r0,rfl,hs0,hsr,hrm,hrd,hsb,hr0,hs00⟩;refine LoopP.ghost (fun(g:Nat×Nat) (t:Int×Int) h2=>t.1=(g.1:Int)∧t.2=(g.2:Int)∧s0≤g.1∧g.1≤g.2∧g.2≤r0∧(∀c x y,s0≤c→c<g.1→U[c-a]? =some x→V[mid-1-c]? =some y→lt y x=false)∧(∀c x y,g.2≤c→c<r0→U[c-a]? =some x→V[mid-1-c]? =some y→lt y x=true)∧OwnS (ny z0) 3 aG M h2 s (A++(U++(V++B)))∧Upd M h' h2) (fun g=>g.2-g.1) (s0,r0)
   ⟨rfl,rfl,ag _,hsr,ag _,fun c x y h1 h2=>(by simp only at h2;omega),fun c x y h1 h2=>(by simp only at h1;omega),ho,Upd.refl _ _⟩ ?_
  rintro I ⟨i,j⟩ ⟨ti,tj⟩ h2 ⟨e1,e2,hsi,hij,hjr,hlo,hhi,ho2,hu2⟩ hI;simp only at e1 e2 hsi hij hjr hlo hhi;subst e1 e2;refine av (fun hlt=>?_) fun hge=>?_
  ·have hlt:i<j:=by have:(i:Int)<(j:Int):=hlt;omega
   refine⟨by decide,?_⟩;rw[qd (i:=i) (j:=j) (by omega)];obtain⟨c,hcc⟩:∃c,(i+j)/2=c:=⟨_,rfl⟩;rw[hcc];have hci:i≤c:=by omega
   have hcj:c<j:=by omega
   have eq:IntKind.wrap .i64 (((mid+m-1:Nat):Int)-(c:Int))=((mid+m-1-c:Nat):Int):=by rw[fL (by omega)];omega
   rw[eq];have hk1:c-a<U.length:=by omega
   have hk2:mid-1-c<V.length:=by omega
   obtain⟨a1,ha1,hx⟩:=nP ho2 (i:=c) (x:=U[c-a]) (zV (k:=c-a) (by omega) (ae hk1));obtain⟨a2,ha2,hy⟩:=nP ho2 (i:=mid+m-1-c) (x:=V[mid-1-c]) (Es (k:=mid-1-c) (by omega) (ae hk2));rw[ha1]at ha2;cases ha2;have hUc:U[c-a]? =some U[c-a]:=ae hk1;have hVc:V[mid-1-c]? =some V[mid-1-c]:=ae hk2;generalize U[c-a]=x at hx hUc
   generalize V[mid-1-c]=y at hy hVc;refine⟨⟨by omega,by omega⟩,a1,ha1,y.1,hy 0 _ rfl,y.2,hy 1 _ rfl,ga z0 y.1,hy 2 _ rfl,⟨by omega,by omega⟩,a1,ha1,x.1,hx 0 _ rfl,x.2,hx 1 _ rfl,ga z0 x.1,hx 2 _ rfl,?_⟩
   refine hc.call y x (hc.step hu2 hi) fun h5 e k5 he=>?_
   rw[he];have ho5:=ho2.upd k5 fun _ _ h=>h
   have hu5:=hu2.tr k5.wide;cases hyx:lt y x with
   |false=>
    refine aB.2 ?_;have ew:IntKind.wrap .i64 ((c:Int)+1)=((c+1:Nat):Int):=by rw[fL (by omega)];omega
    rw[ew];refine hI (c+1,j) _ _ ⟨rfl,rfl,by simp only;omega,by simp only;omega,hjr,fun c' x' y' h1 h2 hx' hy'=>?_,hhi,ho5,hu5⟩ (by simp only;omega)
    simp only at h2;have q1:=gC w sU (i:=c'-a) (j:=c-a) (by omega) hx' hUc;have q2:=gC w sV (i:=mid-1-c) (j:=mid-1-c') (by omega) hVc hy';exact w.ntr _ _ _ (w.ntr _ _ _ q2 hyx) q1
   |true=>
    refine aj.2 ?_;refine hI (i,c) _ _ ⟨rfl,rfl,hsi,hci,by simp only;omega,hlo,fun c' x' y' h1 h2 hx' hy'=>?_,ho5,hu5⟩ (by simp only;omega)
    simp only at h1;have q1:=gC w sU (i:=c-a) (j:=c'-a) (by omega) hUc hx';have q2:=gC w sV (i:=mid-1-c') (j:=mid-1-c) (by omega) hy' hVc;cases hyx':lt y' x' with
    |true=>rfl
    |false=>rw[w.ntr _ _ _ (w.ntr _ _ _ q2 hyx') q1]at hyx;cases hyx
  have hij:i=j:=by have:¬(i:Int)<(j:Int):=hge;omega
  subst hij;have en:IntKind.wrap .i64 (((mid+m:Nat):Int)-(i:Int))=((mid+m-i:Nat):Int):=by rw[fL (by omega)];omega
  simp only;rw[en];obtain⟨U1,U2,eU,hU1⟩:∃U1 U2,U=U1++U2∧U1.length=i-a:=⟨U.take (i-a),U.drop (i-a),(aA ..).symm,by rw[aD];omega⟩
  obtain⟨V1,V2,eV,hV1⟩:∃V1 V2,V=V1++V2∧V1.length=mid-i:=⟨V.take (mid-i),V.drop (mid-i),(aA ..).symm,by rw[aD];omega⟩
  have c1:∀v∈V1,∀u∈U2,lt v u=true:=fun v hv u hu=>by
   obtain⟨q,hq,e⟩:=bX hv;obtain⟨p,hp,e'⟩:=bX hu;have hlU:U.length=U1.length+U2.length:=by rw[eU,ac]
   have n1:0<U2.length:=by omega
   have n2:mid-1-i<V1.length:=by omega
   have gx:U[i-a]? =some (U2[0]'n1):=by rw[eU,ax (by omega),←hU1,cO,ae (by omega)]
   have gy:V[mid-1-i]? =some (V1[mid-1-i]'n2):=by rw[eV,aW (by omega),ae (by omega)]
   have hQ:=hhi i _ _ (ag _) (by omega) gx gy;have q1:=gC w sU (i:=i-a) (j:=i-a+p) (by omega) gx (by rw[eU,ax (by omega),←hU1,co,ae hp,e']);have q2:=gC w sV (i:=q) (j:=mid-1-i) (by omega) (by rw[eV,aW hq,ae hq,e]) gy;cases hvu:lt v u with
   |true=>rfl
   |false=>rw[w.ntr _ _ _ (w.ntr _ _ _ q2 hvu) q1]at hQ;cases hQ
  have c2:∀u∈U1,∀v∈V2,lt v u=false:=fun u hu v hv=>by
   obtain⟨p,hp,e'⟩:=bX hu;obtain⟨q,hq,e⟩:=bX hv;have hlV:V.length=V1.length+V2.length:=by rw[eV,ac]
   have n1:i-1-a<U1.length:=by omega
   have n2:0<V2.length:=by omega
   have gx:U[i-1-a]? =some (U1[i-1-a]'n1):=by rw[eU,aW (by omega),ae (by omega)]
   have gy:V[mid-1-(i-1)]? =some (V2[0]'n2):=by rw[eV,ax (by omega),show mid-1-(i-1)-V1.length=0 by omega,ae (by omega)]
   have hQ:=hlo (i-1) _ _ (by omega) (by omega) gx gy;have q1:=gC w sU (i:=p) (j:=i-1-a) (by omega) (by rw[eU,aW hp,ae hp,e']) gx;have q2:=gC w sV (i:=mid-i) (j:=mid-i+q) (by omega) (by rw[eV,ax (by omega),hV1,cO,ae (by omega)]) (by rw[eV,ax (by omega),hV1,co,ae hq,e])
   have gy2:V[mid-i]? =some (V2[0]'n2):=by rw[eV,ax (by omega),hV1,cO,ae (by omega)]
   exact w.ntr _ _ _ (w.ntr _ _ _ q2 hQ) q1
  subst eU eV;simp only[ac]at hlen hU hV hl hm hb hU2 hV2;have sA1:=sU.left;have sA2:=sU.right;have sB1:=sV.left;have sB2:=sV.right;refine Join.intro (fun _ h3=>OwnS (ny z0) 3 aG M h3 s (A++(U1++(V1++(U2++(V2++B)))))∧Upd M h' h3) (fun Rj hRj=>?_) ?_
  ·have f1:A++((U1++U2)++((V1++V2)++B))=(A++U1)++(U2++(V1++(V2++B))):=by simp
   have f2:(A++U1)++(V1++(U2++(V2++B)))=A++(U1++(V1++(U2++(V2++B)))):=by simp
   refine Join.intro (fun t h3=>h3=h2∧(t=true↔0<U2.length∧0<V1.length)) (fun Rk hRk=>?_) ?_
   ·refine av (fun h=>hRk _ _ ⟨rfl,?_⟩) fun h=>hRk _ _ ⟨rfl,⟨fun h=>(by cases h),fun h=>(by omega)⟩⟩
    rw[decide_eq_true_iff];constructor
    ·intro h;constructor<;>omega
    ·rintro⟨h1,h2⟩;omega
   ·rintro t h3 ⟨rfl,ht⟩
    cases t with
    |true=>
     obtain⟨p1,p2⟩:=ht.1 rfl;rw[f1]at ho2;refine aB.2 (He ho2 hn p1 p2 (by rw[ac];omega) (by rw[ac];omega) (by rw[ac];omega) fun h4 o4 k4=>hRj _ _ ⟨?_,hu2.trans k4 fun b hb=>.inl hb⟩)
     rw[f2]at o4;exact o4
    |false=>
     have hz:U2= []∨V1= []:=by
      rcases ce U2.length with h|h
      ·exact .inl (aq.1 h)
      ·rcases ce V1.length with h3|h3
       ·exact .inr (aq.1 h3)
       ·have:=ht.2 ⟨h,h3⟩;cases this
     refine aj.2 (hRj _ _ ⟨?_,hu2⟩);rw[f1]at ho2;rw[←f2];rcases hz with rfl|rfl
     ·exact ho2
     ·exact ho2
  rintro _ h3 ⟨o3,k3⟩;refine Join.intro (fun _ h4=>∃R1,OwnS (ny z0) 3 aG M h4 s (A++(R1++(U2++(V2++B))))∧St lt (U1++V1) R1∧Upd M h' h4) (fun Rj hRj=>?_) ?_
  ·refine Join.intro (fun t h4=>h4=h3∧(t=true↔0<U1.length∧0<V1.length)) (fun Rk hRk=>?_) ?_
   ·refine av (fun h=>hRk _ _ ⟨rfl,?_⟩) fun h=>hRk _ _ ⟨rfl,⟨fun h=>(by cases h),fun h=>(by omega)⟩⟩
    rw[decide_eq_true_iff];constructor
    ·intro h;constructor<;>omega
    ·rintro⟨h1,h2⟩;omega
   ·rintro t h4 ⟨rfl,ht⟩
    cases t with
    |true=>
     obtain⟨p1,p2⟩:=ht.1 rfl;refine aB.2 (ih (by omega) o3 (hc.step k3 hi) p1 p2 sA1 sB1 ha (by omega) (by omega) fun h5 R1 o5 s5 k5=>hRj _ _ ⟨R1,o5,s5,k3.trans k5 fun b hb=>.inl hb⟩)
    |false=>
     refine aj.2 (hRj _ _ ⟨U1++V1,by simpa using o3,⟨Eqf.rfl _,?_⟩,k3⟩)
     rcases ce U1.length with h|h
     ·rw[aq.1 h];exact sB1
     ·rcases ce V1.length with h5|h5
      ·rw[aq.1 h5,aE];exact sA1
      ·have:=ht.2 ⟨h,h5⟩;cases this
  rintro _ h4 ⟨R1,o4,s1,k4⟩;have hR1:=s1.eqf.len;rw[ac]at hR1;have fin:∀{h5:ad} {R2:List (Pr)},OwnS (ny z0) 3 aG M h5 s (A++(R1++(R2++B)))→St lt (U2++V2) R2→Upd M h' h5→K () h5:=fun{h5 R2} o5 s2 k5=>by
   refine hk h5 (R1++R2) ?_ (C1 w sU sV c1 c2 s1 s2) k5;rw[ao];exact o5
  refine Join.intro (fun t h5=>h5=h4∧(t=true↔0<U2.length∧0<V2.length)) (fun Rk hRk=>?_) ?_
  ·refine av (fun h=>hRk _ _ ⟨rfl,?_⟩) fun h=>hRk _ _ ⟨rfl,⟨fun h=>(by cases h),fun h=>(by omega)⟩⟩
   rw[decide_eq_true_iff];constructor
   ·intro h;constructor<;>omega
   ·rintro⟨h1,h2⟩;omega
  ·rintro t h5 ⟨rfl,ht⟩
   have f1:A++(R1++(U2++(V2++B)))=(A++R1)++(U2++(V2++B)):=by simp
   cases t with
   |true=>
    obtain⟨p1,p2⟩:=ht.1 rfl;rw[f1]at o4;refine aB.2 (ih (by omega) o4 (hc.step k4 hi) p1 p2 sA2 sB2 (by rw[ac];omega) (by rw[ac];omega) (by rw[ac];omega) fun h6 R2 o6 s6 k6=>fin (R2:=R2) ?_ s6 (k4.trans k6 fun b hb=>.inl hb))
    rw[ao]at o6;exact o6
   |false=>
    refine aj.2 (fin (R2:=U2++V2) (by simpa using o4) ⟨Eqf.rfl _,?_⟩ k4);rcases ce U2.length with h|h
    ·rw[aq.1 h];exact sB2
    ·rcases ce V2.length with h6|h6
     ·rw[aq.1 h6,aE];exact sA2
     ·have:=ht.2 ⟨h,h6⟩;cases this
theorem G3{lt:Pr→Pr→Bool}(w:WO lt){M:Nat→Prop}{Iv:ad→Prop}{cmp:Value}(hc:Cmp lt (ny z0) M Iv cmp){h:ad}{s:SliceV}{xs:List (Pr)}(ho:OwnS (ny z0) 3 aG M h s xs)(hi:Iv h)(hn:xs.length≤100000000){K:Unit→ad→Prop}
  (hk:∀h' R,OwnS (ny z0) 3 aG M h' s R→St lt xs R→Upd M h h'→K () h'):HC PG cy [.slice s.a s.len s.cap,cmp] [] K h:=by
 refine gS s cmp ?_;unfold ed;refine lQ s (s.len:Int) cmp ?_;unfold gN;have hlen:=ho.len;have hns:s.len≤1000000000:=by omega
 refine LoopP.ghost (fun(g:List (Pr)×List (Pr)×List (Pr)) (t:Int×Int) h'=>t.1=(g.2.1.length:Int)∧t.2=((g.2.1.length+20:Nat):Int)∧xs=g.1++g.2.2∧Eqf lt g.1 g.2.1∧Full lt 20 g.2.1∧OwnS (ny z0) 3 aG M h' s (g.2.1++g.2.2)∧Upd M h h') (fun g=>g.2.2.length) ([],[],xs)
  ⟨rfl,rfl,rfl,Eqf.rfl _,Full.nil,ho,Upd.refl _ _⟩ ?_
 rintro I ⟨X,D,T⟩ ⟨ta,tb⟩ h1 ⟨e1,e2,e3,hq,hf,o1,k1⟩ hI;simp only at e1 e2 e3 hq hf o1;subst e1 e2 e3;have hXD:=hq.len;simp only[ac]at hlen hn;refine av (fun hle=>?_) fun hgt=>?_
 ·obtain⟨S,T',rfl,hS⟩:∃S T',T=S++T'∧S.length=20:=⟨T.take 20,T.drop 20,(aA ..).symm,by rw[aD];omega⟩
  refine yZ w hc o1 (hc.step k1 hi) hns rfl (b:=D.length+20) (by omega) fun h2 R o2 s2 k2=>?_
  have hR:=s2.eqf.len;simp only[ac]at hlen hn;have ew:IntKind.wrap .i64 (((D.length+20:Nat):Int)+20)=(((D++R).length+20:Nat):Int):=by rw[ac,fL (by omega)];omega
  rw[ew];refine hI (X++S,D++R,T') _ _ ⟨by simp only[ac];omega,rfl,by simp,hq.app s2.eqf,hf.app (by omega) s2.srt,by rw[ao];exact o2,k1.trans k2 fun b hb=>.inl hb⟩ (by simp only[ac];omega)
 have f1:D++T=D++(T++ []):=by simp
 rw[f1]at o1;refine yZ w hc o1 (hc.step k1 hi) hns rfl (b:=s.len) (by omega) fun h2 R o2 s2 k2=>?_
 have hR:=s2.eqf.len;rw[aE]at o2;have hq0:Eqf lt (X++T) (D++R):=hq.app s2.eqf;have hr0:Runs lt 20 (D++R):=hf R (.last R (by omega) s2.srt);have k2:Upd M h h2:=k1.trans k2 fun b hb=>.inl hb
 generalize D++R=ys at o2 hq0 hr0;generalize X++T=zs at hq0 hk;have hly:s.len=ys.length:=o2.len;clear hI hq hf o1 f1 hgt hR;refine LoopP.ghost (fun(g:Nat×List (Pr)) (t:Int) h'=>t=(g.1:Int)∧0<g.1∧g.1≤200000000∧Runs lt g.1 g.2∧Eqf lt zs g.2∧OwnS (ny z0) 3 aG M h' s g.2∧Upd M h h') (fun g=>s.len-g.1) (20,ys)
  ⟨rfl,by simp,by simp,hr0,hq0,o2,k2⟩ ?_
 rintro I2 ⟨bs,ys⟩ t h3 ⟨e1,hb0,hb1,hr,hqz,o3,k3⟩ hI2;simp only at e1 hb0 hb1 hr hqz o3;subst e1;have hly:s.len=ys.length:=o3.len;refine av (fun hlt=>?_) fun hge=>?_
 ·have hlt:bs<s.len:=by omega
  have e0:IntKind.wrap .i64 (2*(bs:Int))=((2*bs:Nat):Int):=by rw[fL (by omega)];omega
  rw[e0];refine LoopP.ghost (fun(g:List (Pr)×List (Pr)×List (Pr)) (t:Int×Int) h'=>t.1=(g.2.1.length:Int)∧t.2=((g.2.1.length+2*bs:Nat):Int)∧ys=g.1++g.2.2∧Eqf lt g.1 g.2.1∧Full lt (2*bs) g.2.1∧Runs lt bs g.2.2∧OwnS (ny z0) 3 aG M h' s (g.2.1++g.2.2)∧Upd M h h') (fun g=>g.2.2.length) ([],[],ys)
   ⟨rfl,by simp,rfl,Eqf.rfl _,Full.nil,hr,o3,k3⟩ ?_
  rintro I3 ⟨Y,D,T⟩ ⟨ta,tb⟩ h4 ⟨e1,e2,e3,hq,hf,hrT,o4,k4⟩ hI3;simp only at e1 e2 e3 hq hf hrT o4;subst e1 e2 e3;have hYD:=hq.len;simp only[ac]at hly;have ea:IntKind.wrap .i64 ((D.length:Int)+(bs:Int))=((D.length+bs:Nat):Int):=by rw[fL (by omega)];omega
  simp only;rw[ea];refine av (fun hle=>?_) fun hgt=>?_
  ·obtain⟨B1,T1,rfl,hB1,sB1,hr1⟩:=hrT.split (by omega)
   simp only[ac]at hly;obtain⟨B2,T2,rfl,hB2,sB2,hr2⟩:=hr1.split (by omega);simp only[ac]at hly;refine ws w hc hns (B1.length+B2.length) (ag _) o4 (hc.step k4 hi) (by omega) (by omega) sB1 sB2 rfl (by omega) (by omega) fun h5 R o5 s5 k5=>?_
   have hR:=s5.eqf.len;rw[ac]at hR;have ew:IntKind.wrap .i64 (((D.length+2*bs:Nat):Int)+((2*bs:Nat):Int))=(((D++R).length+2*bs:Nat):Int):=by rw[ac,fL (by omega)];omega
   rw[ew];refine hI3 (Y++(B1++B2),D++R,T2) _ _ ⟨by simp only[ac];omega,rfl,by simp,hq.app s5.eqf,hf.app (by omega) s5.srt,hr2,by rw[ao];exact o5,k4.trans k5 fun b hb=>.inl hb⟩ (by simp only[ac];omega)
  ·refine Join.intro (fun _ h5=>∃R,Eqf lt T R∧Runs lt (2*bs) R∧OwnS (ny z0) 3 aG M h5 s (D++R)∧Upd M h h5) (fun Rj hRj=>?_) ?_
   ·refine av (fun hmn=>?_) fun hmn=>?_
    ·obtain⟨B1,T1,rfl,hB1,sB1,hr1⟩:=hrT.split (by omega)
     simp only[ac]at hly;have f1:D++(B1++T1)=D++(B1++(T1++ [])):=by simp
     rw[f1]at o4;refine ws w hc hns (B1.length+T1.length) (ag _) o4 (hc.step k4 hi) (by omega) (by omega) sB1 (hr1.short (by omega)) rfl (by omega) (by omega) fun h5 R o5 s5 k5=>?_
     have hR:=s5.eqf.len;rw[ac]at hR;rw[aE]at o5;exact hRj _ _ ⟨R,s5.eqf,.last R (by omega) s5.srt,o5,k4.trans k5 fun b hb=>.inl hb⟩
    ·exact hRj _ _ ⟨T,Eqf.rfl _,.last T (by omega) (hrT.short (by omega)),o4,k4⟩
   ·rintro _ h5 ⟨R,q5,r5,o5,k5⟩
    have ew:IntKind.wrap .i64 ((bs:Int)*2)=((2*bs:Nat):Int):=by rw[fL (by omega)];omega
    rw[ew];exact hI2 (2*bs,D++R) _ _ ⟨rfl,by simp only;omega,by simp only;omega,hf R r5,hqz.tr (hq.app q5),o5,k5⟩ (by simp only;omega)
 ·exact hk h3 ys o3 ⟨hqz,hr.short (by omega)⟩ k3
end Go.Proofs
