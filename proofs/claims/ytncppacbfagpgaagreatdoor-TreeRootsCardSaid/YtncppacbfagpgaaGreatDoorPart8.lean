/- A part of the proof that the named laws of this program answer true, whatever the input. -/
import Derived.Test.YtncppacbfagpgaaGreatDoorPart7
import Derived.Test.YtncppacbfagpgaaGreatDoorPart6
open Int renaming toNat_natCast→aP
open List renaming zip_cons_cons→fE,mem_cons→aA,mem_cons_self→ar,mem_cons_of_mem→aL,length_append→ac,mem_singleton→aB,getElem_mem→bI,getElem?_eq_getElem→af,take_succ_cons→dI,cons→fp,take_succ_eq_append_getElem→bv,filter_cons→cG,mem_of_getLast?→gI,length_map→bF,length_singleton→aC,length_take→aK,take_length→bW,drop_one→rP,tail_cons→qG,filter_eq_self→g8,pairwise_cons→aX,take_append_drop→aF,mem_map→gz,length_drop→aS,length_nil→aZ,nil_append→dM,drop_eq_getElem_cons→fe,length_cons→ax,take_of_length_le→bw,append_assoc→aq,flatMap_append→bm,flatMap_cons→aO,flatMap_nil→jG,append_nil→aW
open List.Pairwise renaming nil→cE
open Nat renaming zero_le→aR,lt_or_ge→bN,le_refl→ao,le_trans→bh,add_assoc→jj,zero_add→aD
open Option renaming some→bH
namespace Go.Proofs
open Go Go.Lift
abbrev RI(lab:ByteArray)(has:Bool)(val:ByteArray)(s:SliceV)(_:Option Addr):Array Value:= #[.string lab,.bool has,.string val,sv s]
def DxF(W:Nat→Prop)(h:ad):Fo→List (Option Addr)→Prop
 | .nil,ks=>ks= []
 | .cons lab w kids rest,ks=>∃b sl val s ow ks1 ks',ks=some ⟨b,0,none⟩::ks'∧sl.data.toList=lab∧h[b]? =some (.cells (RI sl w.isSome val s ow) mO (0,0))∧val=w.getD ⟨#[]⟩∧Sl ul 1 W h s ks1∧(s.len≤s.cap∧¬W b)∧DxF W h kids ks1∧DxF W h rest ks'
def DxN(W:Nat→Prop)(h:ad)(b:Nat)(sl:ByteArray)(w:Option ByteArray)(F:Fo):Prop:=∃val s ow ks,h[b]? =some (.cells (RI sl w.isSome val s ow) mO (0,0))∧val=w.getD ⟨#[]⟩∧Sl ul 1 W h s ks∧(s.len≤s.cap∧¬W b)∧DxF W h F ks
def DKid(W:Nat→Prop)(h:ad)(k:Option Addr)(n:Bn):Prop:=∃b sl,k=some ⟨b,0,none⟩∧sl.data.toList=n.1∧DxN W h b sl n.2.1 n.2.2
def DxL(W:Nat→Prop)(h:ad)(ks:List (Option Addr))(L:List Bn):Prop:=ks.length=L.length∧∀p∈ks.zip L,DKid W h p.1 p.2
theorem xU{W:Nat→Prop}{h:ad}:∀{F:Fo} {ks:List (Option Addr)},DxF W h F ks↔DxL W h ks F.toL
 | .nil,ks=>by
  unfold DxF DxL;simp[Fo.toL]
 | .cons lab w kids rest,ks=>by
  unfold DxF DxL;rw[Fo.toL_cons];constructor
  ·rintro⟨b,sl,val,s,ow,ks1,ks',rfl,e1,e2,e3,e4,e5,e6,e7⟩
   obtain⟨e8,e9⟩:=xU.1 e7;refine⟨by simp[e8],fun p hp=>?_⟩
   rw[fE]at hp;rcases aA.1 hp with rfl|hp
   ·exact⟨b,sl,rfl,e1,val,s,ow,ks1,e2,e3,e4,e5,e6⟩
   ·exact e9 p hp
  ·cases ks with
   |nil=>rintro⟨e,_⟩;simp at e
   |cons k ks'=>
    rintro⟨e,hp⟩;rw[fE]at hp;obtain⟨b,sl,e0,e1,val,s,ow,ks1,e2,e3,e4,e5,e6⟩:=hp _ (ar ..);refine⟨b,sl,val,s,ow,ks1,ks',by rw[←e0],e1,e2,e3,e4,e5,e6,xU.2 ⟨by simpa using e,fun p hp'=>hp p (aL _ hp')⟩⟩
theorem DxF.upd0{W:Nat→Prop}{h h':ad}(k:Upd No h h'):∀{F:Fo} {ks:List (Option Addr)},DxF W h F ks→DxF W h' F ks
 | .nil,_,r=>r
 | .cons _ _ _ _,_,⟨b,sl,val,s,ow,ks1,ks',e0,e1,e2,e3,e4,e5,e6,e7⟩=>⟨b,sl,val,s,ow,ks1,ks',e0,e1,k.get0 e2,e3,e4.upd k fun _ h=>h.elim,e5,DxF.upd0 k e6,DxF.upd0 k e7⟩
theorem DxN.upd0{W:Nat→Prop}{h h':ad}(k:Upd No h h'){b:Nat}{sl:ByteArray}{w:Option ByteArray}{F:Fo}:DxN W h b sl w F→DxN W h' b sl w F
 |⟨val,s,ow,ks,e2,e3,e4,e5,e6⟩=>⟨val,s,ow,ks,k.get0 e2,e3,e4.upd k fun _ h=>h.elim,e5,DxF.upd0 k e6⟩
theorem DKid.upd0{W:Nat→Prop}{h h':ad}(k:Upd No h h'){a:Option Addr}{n:Bn}:DKid W h a n→DKid W h' a n
 |⟨b,sl,e1,e2,e3⟩=>⟨b,sl,e1,e2,e3.upd0 k⟩
theorem DxF.less{W W':Nat→Prop}{h:ad}(hm:∀b,W' b→W b∨h.size≤b):∀{F:Fo} {ks:List (Option Addr)},DxF W h F ks→DxF W' h F ks
 | .nil,_,r=>r
 | .cons _ _ _ _,_,⟨b,sl,val,s,ow,ks1,ks',e0,e1,e2,e3,e4,e5,e6,e7⟩=>⟨b,sl,val,s,ow,ks1,ks',e0,e1,e2,e3,e4.less hm,⟨e5.1,fun hx=>(hm _ hx).elim e5.2 fun h=>by have:=aJ e2;omega⟩,DxF.less hm e6,DxF.less hm e7⟩
theorem DxN.less{W W':Nat→Prop}{h:ad}(hm:∀b,W' b→W b∨h.size≤b){b:Nat}{sl:ByteArray}{w:Option ByteArray}{F:Fo}:DxN W h b sl w F→DxN W' h b sl w F
 |⟨val,s,ow,ks,e2,e3,e4,e5,e6⟩=>⟨val,s,ow,ks,e2,e3,e4.less hm,⟨e5.1,fun hx=>(hm _ hx).elim e5.2 fun h=>by have:=aJ e2;omega⟩,DxF.less hm e6⟩
theorem DxF.updM{W M:Nat→Prop}{h h':ad}(k:Upd M h h')(hm:∀b,M b→W b∨h.size≤b):∀{F:Fo} {ks:List (Option Addr)},DxF W h F ks→DxF W h' F ks
 | .nil,_,r=>r
 | .cons _ _ _ _,_,⟨b,sl,val,s,ow,ks1,ks',e0,e1,e2,e3,e4,e5,e6,e7⟩=>⟨b,sl,val,s,ow,ks1,ks',e0,e1,k.get e2 (fun hx=>(hm _ hx).elim e5.2 fun h=>by have:=aJ e2;omega),e3,e4.upd k hm,e5,DxF.updM k hm e6,DxF.updM k hm e7⟩
theorem DxN.updM{W M:Nat→Prop}{h h':ad}(k:Upd M h h')(hm:∀b,M b→W b∨h.size≤b){b:Nat}{sl:ByteArray}{w:Option ByteArray}{F:Fo}:DxN W h b sl w F→DxN W h' b sl w F
 |⟨val,s,ow,ks,e2,e3,e4,e5,e6⟩=>⟨val,s,ow,ks,k.get e2 (fun hx=>(hm _ hx).elim e5.2 fun h=>by have:=aJ e2;omega),e3,e4.upd k hm,e5,DxF.updM k hm e6⟩
theorem DxL.upd0{W:Nat→Prop}{h h':ad}(k:Upd No h h'){ks:List (Option Addr)}{L:List Bn}(r:DxL W h ks L):DxL W h' ks L:=⟨r.1,fun p hp=>(r.2 p hp).upd0 k⟩
theorem DxL.app{W:Nat→Prop}{h:ad}{ks ks':List (Option Addr)}{L L':List Bn}(r:DxL W h ks L)(r':DxL W h ks' L'):DxL W h (ks++ks') (L++L'):=by
 refine⟨by rw[ac,ac,r.1,r'.1],fun p hp=>?_⟩
 rw[List.zip_append r.1]at hp;rcases List.mem_append.1 hp with hp|hp
 ·exact r.2 p hp
 ·exact r'.2 p hp
theorem DxL.one{W:Nat→Prop}{h:ad}{k:Option Addr}{n:Bn}(c:DKid W h k n):DxL W h [k] [n]:=⟨rfl,fun p hp=>by rw[fE,List.zip_nil_left]at hp;rw[aB.1 hp];exact c⟩
theorem DxL.at{W:Nat→Prop}{h:ad}{ks:List (Option Addr)}{L:List Bn}(r:DxL W h ks L){i:Nat}(hi:i<L.length):∃b sl,ks[i]? =some (some ⟨b,0,none⟩)∧sl.data.toList=L[i].1∧DxN W h b sl L[i].2.1 L[i].2.2:=by
 have hk:i<ks.length:=by rw[r.1];exact hi
 have hz:i<(ks.zip L).length:=by rw[List.length_zip];omega
 have:=r.2 _ (bI hz);rw[List.getElem_zip]at this;obtain⟨b,sl,e1,e2,e3⟩:=this;exact⟨b,sl,by rw[af hk];exact congrArg some e1,e2,e3⟩
theorem DKid.less{W W':Nat→Prop}{h:ad}(hm:∀b,W' b→W b∨h.size≤b){a:Option Addr}{n:Bn}:DKid W h a n→DKid W' h a n
 |⟨b,sl,e1,e2,e3⟩=>⟨b,sl,e1,e2,e3.less hm⟩
theorem DKid.updM{W M:Nat→Prop}{h h':ad}(k:Upd M h h')(hm:∀b,M b→W b∨h.size≤b){a:Option Addr}{n:Bn}:DKid W h a n→DKid W h' a n
 |⟨b,sl,e1,e2,e3⟩=>⟨b,sl,e1,e2,e3.updM k hm⟩
theorem DxL.less{W W':Nat→Prop}{h:ad}(hm:∀b,W' b→W b∨h.size≤b){ks:List (Option Addr)}{L:List Bn}(r:DxL W h ks L):DxL W' h ks L:=⟨r.1,fun p hp=>(r.2 p hp).less hm⟩
theorem DxL.updM{W M:Nat→Prop}{h h':ad}(k:Upd M h h')(hm:∀b,M b→W b∨h.size≤b){ks:List (Option Addr)}{L:List Bn}(r:DxL W h ks L):DxL W h' ks L:=⟨r.1,fun p hp=>(r.2 p hp).updM k hm⟩
theorem Iq{a b:ByteArray}(ha:a.size≤1000000){h:ad}{K:Int→ad→Prop}(hk:K (cm a.data.toList b.data.toList:Nat) h):HC PG tf [.string a,.string b] [.c (.int .i64)] K h:=by
 refine FM a b ?_;unfold yu;have la:a.data.toList.length=a.size:=by simp
 have lb:b.data.toList.length=b.size:=by simp
 refine LoopP.ghost (fun(i:Nat) (t:Int) h'=>t=(i:Int)∧i≤min a.size b.size∧h'=h∧∀j,j<i→a.data.toList[j]? =b.data.toList[j]?) (fun i=>min a.size b.size-i) 0 ⟨rfl,aR _,rfl,fun j hj=>absurd hj (Nat.not_lt_zero _)⟩ ?_
 rintro I i t h' ⟨rfl,hi,rfl,he⟩ hI;refine Join.intro (fun t h2=>h2=h'∧(t=true→i<min a.size b.size∧a.data.toList[i]? =b.data.toList[i]?)∧(t=false→cm a.data.toList b.data.toList=i)) (fun R hR=>?_) ?_
 ·refine aE (fun h1=>?_) fun h1=>hR _ _ ⟨rfl,fun h=>(by cases h),fun _=>Ek (by omega) (by omega) he (by omega)⟩
  refine aE (fun h2=>?_) fun h2=>hR _ _ ⟨rfl,fun h=>(by cases h),fun _=>Ek (by omega) (by omega) he (by omega)⟩
  have hia:i<a.size:=by omega
  have hib:i<b.size:=by omega
  have e1:a.data.toList[i]? =some a[i]:=by rw[←GV,getElem?_pos a i hia]
  have e2:b.data.toList[i]? =some b[i]:=by rw[←GV,getElem?_pos b i hib]
  refine⟨a[i],by omega,by rw[aP,getElem?_pos a i hia],b[i],by omega,by rw[aP,getElem?_pos b i hib],hR _ _ ⟨rfl,fun h=>⟨by omega,?_⟩,fun h=>?_⟩⟩
  ·have:((a[i].toNat:Int))=(b[i].toNat:Int):=by simpa using h
   rw[e1,e2,UInt8.toNat_inj.1 (show a[i].toNat=b[i].toNat by omega)]
  ·refine Ek (by omega) (by omega) he (.inr (.inr fun e=>?_))
   rw[e1,e2]at e;rw[bH.inj e]at h;simp at h
 ·rintro t h2 ⟨rfl,h1,h0⟩
  cases t with
  |true=>
   obtain⟨hlt,e⟩:=h1 rfl;refine aw.2 ?_;rw[cp hlt (by omega)];refine hI (i+1) _ _ ⟨rfl,hlt,rfl,fun j hj=>?_⟩ (by omega)
   rcases bN j i with hl|hl
   ·exact he j hl
   ·rw[show j=i by omega];exact e
  |false=>
   refine al.2 ?_;rw[h0 rfl]at hk;exact hk
theorem PN:∀{x y:List UInt8} {t:Nat},t≤x.length→t≤y.length→x.take t=y.take t→t≤cm x y
 |_,_,0,_,_,_=>aR _
 | [],_,t+1,h,_,_=>by simp at h
 |_::_,[],t+1,_,h,_=>by simp at h
 |a::x,b::y,t+1,h1,h2,e=>by
  rw[dI,dI]at e;obtain⟨e1,e2⟩:=fp.inj e;have:=PN (x:=x) (y:=y) (t:=t) (by simpa using h1) (by simpa using h2) e2;unfold cm;rw[if_pos e1];omega
def PA(t:Nat)(p:Pr):Pr:=(p.1.extract t p.1.size,p.2)
theorem D3(t:Nat)(p:Pr):ky (PA t p)=(ky p).drop t:=B8 p.1 t
def K6(B:Nat):Prop:=∀{W:Nat→Prop} {h:ad} {s:SliceV} {l:List Pr},Sl eC 2 No h s l→s.len≤s.cap→Beg l []→(∀p∈l,(ky p).length≤B)→l.length≤100000→(∀y,W y→y<h.size)→∀{K:SliceV→ad→Prop},
 (∀h' s' ks L,OwnS ul 1 pY (fun y=>h.size≤y) h' s' ks→DxL W h' ks L→Row L l [] []→Upd No h h'→K s' h')→HC PG p7 [.slice s.a s.len s.cap] [.c .slice] K h
def tJ(to:Nat)(l:List Pr):List Pr:=(l.filter fun p=>decide ((ky p).length≠to)).map (PA to)
theorem Ij{to:Nat}{l:List Pr}{i:Nat}(hi:i<l.length):tJ to (l.take (i+1))=if(ky l[i]).length=to then tJ to (l.take i)else tJ to (l.take i)++ [PA to l[i]]:=by
 unfold tJ;rw[bv hi,List.filter_append,List.map_append,cG,List.filter_nil];by_cases h:(ky l[i]).length=to
 ·rw[if_pos h,if_neg (by simpa using h)];simp
 ·rw[if_neg h,if_pos (by simpa using h)];rfl
theorem Jm{W:Nat→Prop}{B:Nat}(hB:B≤1000000)(hkids:∀B',B'<B→K6 B'){h:ad}{s:SliceV}{l r:List Pr}{f g:Pr}(hs:Sl eC 2 No h s l)(bg:Beg l [])(hlB:∀p∈l,(ky p).length≤B)(hn:l.length≤100000)(hW:∀y,W y→y<h.size)
  (hf:l=f::r)(hg:l.getLast? =some g)(hb:bt 0 f=bt 0 g){K:Option Addr→ad→Prop}
  (hk:∀h' a n,DKid W h' a n→Mg n→hd n.1=bt 0 f→(∀k v,xp n k v↔Pt l [] k v)→Upd No h h'→K a h'):HC PG te [.slice s.a s.len s.cap] [.c .ptr] K h:=by
 refine FL s ?_;unfold yr dd nv jx cy bC av kU dL;have hlen:=hs.len;have hl0:0<l.length:=by rw[hf];simp
 have hfm:f∈l:=by rw[hf];exact ar ..
 have hgm:g∈l:=gI hg;obtain⟨a,ha,_,hvf⟩:=hs.at (i:=0) (x:=f) (by rw[hf];rfl);obtain⟨q1,q2,q3,q4,q5⟩:=Em bg ⟨r,hf⟩ hg hb;have hbc:= @Jl l (if(ky f).length=cm (ky f) (ky g)then l.drop 1 else l) [] f g bg ⟨r,hf⟩ hg hb
 have hcg:cm (ky f) (ky g)=cm (ky f) (ky g):=rfl;obtain⟨to,hto⟩:∃to,cm (ky f) (ky g)=to:=⟨_,rfl⟩;rw[hto]at q1 q2 q3 q4 hbc;have hszf:f.1.size=(ky f).length:=(IU f.1).symm;have hfB:=hlB f hfm;have hle:∀p∈l,to≤(ky p).length:=fun p hp=>(q4 p hp).elim (fun e=>e▸q2) Nat.le_of_lt
 have hcm:∀p∈l,to≤cm (ky f) (ky p):=fun p hp=>PN q2 (hle p hp) (q3 p hp).symm
 have hpos:0<to:=by simpa using q1
 refine⟨⟨by decide,by omega⟩,a,ha,_,hvf 0 _ rfl,?_⟩
 refine LoopP.ghost (fun(g:Nat×Nat) (t:Int×Int) h'=>t=((g.2:Int),(g.1:Int))∧g.1≤l.length∧to≤g.2∧g.2≤(ky f).length∧(g.1=l.length→g.2=to)∧Upd No h h') (fun g=>l.length-g.1) (0,(ky f).length) ⟨by rw[hszf];rfl,aR _,q2,ao _,fun e=>by simp only at e;omega,Upd.refl _ _⟩ ?_
 rintro I ⟨i,n⟩ t h' ⟨rfl,hi,hn1,hn2,hn3,hu⟩ hI;simp only at hi hn1 hn2 hn3;refine aE (fun hlt=>?_) fun hge=>?_
 ·have hlt:i<l.length:=by have:(i:Int)<(s.len:Int):=hlt;omega
  have hpi:l[i]∈l:=bI hlt;refine Join.intro (fun t h2=>∃n':Nat,t=(n':Int)∧to≤n'∧n'≤(ky f).length∧(i+1=l.length→n'=to)∧Upd No h h2) (fun R hR=>?_) ?_
  ·obtain⟨a',ha',_,hv⟩:=(hs.upd hu fun _ h=>h.elim).at (af hlt)
   refine⟨⟨by simp only;omega,by simp only;omega⟩,a',ha',_,hv 0 _ rfl,_,hv 1 _ rfl,pN (p:=l[i]) fun h2 b2 k2=>?_⟩
   obtain⟨a2,ha2,_,hv2⟩:=((hs.upd hu fun _ h=>h.elim).upd k2 fun _ h=>h.elim).at (i:=0) (x:=f) (by rw[hf];rfl)
   refine⟨⟨by decide,by omega⟩,a2,ha2,_,hv2 0 _ rfl,_,vc b2 0,Iq (by omega) ?_⟩
   have hc1:=hcm _ hpi;have hc2:=(KZ (ky f) (ky l[i])).1;have hlast:i+1=l.length→l[i]=g:=fun e=>by
    rw[List.getLast?_eq_getElem?,show l.length-1=i by omega,af hlt]at hg
    exact bH.inj hg
   change CondP (decide ((cm (ky f) (ky l[i]):Int)<(n:Int))) _ _;refine aE (fun hc=>hR _ _ ⟨_,rfl,hc1,hc2,fun e=>?_,hu.tr k2⟩) fun hc=>hR _ _ ⟨n,rfl,hn1,hn2,fun e=>?_,hu.tr k2⟩
   ·rw[hlast e,hto]
   ·rw[hlast e,hto]at hc;omega
  ·rintro t h2 ⟨n',rfl,h1,h2',h3,hu2⟩
   simp only;rw[cp hlt (by omega)];exact hI (i+1,n') _ _ ⟨rfl,hlt,h1,h2',h3,hu2⟩ (by simp only;omega)
 obtain rfl:i=l.length:=by have:¬(i:Int)<(s.len:Int):=hge;omega
 obtain rfl:n=to:=hn3 rfl;clear hn3 hI;obtain⟨a',ha',_,hv⟩:=(hs.upd hu fun _ h=>h.elim).at (i:=0) (x:=f) (by rw[hf];rfl)
 refine⟨⟨by decide,by omega⟩,a',ha',f.1,hv 0 _ rfl,⟨by omega,by simp only;omega⟩,aG fun h1 b1 k1=>?_⟩
 have u1:=hu.tr k1;have z1:=aJ b1;have s0:=hu.size;simp only[aP]at b1⊢;have hlab:(f.1.extract 0 n).data.toList=((ky f).take n).drop ([]:List UInt8).length:=by rw[B7];rfl
 refine LoopP.ghost (fun(i:Nat) (t:SliceV×Int) h2=>t.2=(i:Int)∧i≤l.length∧h2[h'.size]? =some (.cells #[.string (f.1.extract 0 n),.bool (if 0<i∧(ky f).length=n then some f.2 else none:Option ByteArray).isSome,.string ((if 0<i∧(ky f).length=n then some f.2 else none:Option ByteArray).getD ⟨#[]⟩),.slice none 0 0] mO (0,0))∧
  OwnS eC 2 bS (fun y=>h1.size≤y) h2 t.1 (tJ n (l.take i))∧Upd No h h2∧h1.size≤h2.size) (fun i=>l.length-i) 0 ⟨rfl,aR _,by rw[if_neg (by omega)];exact b1,OwnS.nil fO,u1,ao _⟩ ?_
 rintro I i ⟨so,ti⟩ h2 ⟨e1,hi2,c2,ho,hu2,hz2⟩ hI;simp only at e1 ho;subst e1;refine aE (fun hlt=>?_) fun hge=>?_
 ·have hlt:i<l.length:=by have:(i:Int)<(s.len:Int):=hlt;omega
  have hpi:l[i]∈l:=bI hlt;have hrs:=Ij (to:=n) hlt;have hszi:l[i].1.size=(ky l[i]).length:=(IU l[i].1).symm;have hiB:=hlB _ hpi;refine Join.intro (fun t h3=>h3[h'.size]? =some (.cells #[.string (f.1.extract 0 n),.bool (if 0<i+1∧(ky f).length=n then some f.2 else none:Option ByteArray).isSome,.string ((if 0<i+1∧(ky f).length=n then some f.2 else none:Option ByteArray).getD ⟨#[]⟩),.slice none 0 0] mO (0,0))∧
   OwnS eC 2 bS (fun y=>h1.size≤y) h3 t (tJ n (l.take (i+1)))∧Upd No h h3∧h1.size≤h3.size) (fun R hR=>?_) ?_
  ·obtain⟨a3,ha3,_,hv3⟩:=(hs.upd hu2 fun _ h=>h.elim).at (af hlt)
   refine⟨⟨by simp only;omega,by simp only;omega⟩,a3,ha3,_,hv3 0 _ rfl,_,hv3 1 _ rfl,pN (p:=l[i]) fun h3 b3 k3=>⟨_,vc b3 0,?_⟩⟩
   have z3:=aJ b3;have s3:=k3.size;have zh2:=aJ c2;have c3:=k3.get0 c2;refine CondP.intro (fun ec=>?_) fun ec=>?_
   ·have ec:(ky l[i]).length=n:=by
     have:((l[i].1.size:Nat):Int)=(n:Int):=by simpa using ec
     omega
    have hfi:l[i]=f:=(q4 _ hpi).resolve_right (by omega);rw[if_pos ec]at hrs;refine⟨_,vc b3 1,_,rfl,?_⟩;refine rQ (i:=1) c3 (show 1<4 by decide) rfl fun h4 b4 u4=>⟨vc (u4.oth b3 (by omega)) 1,_,rfl,?_⟩
    refine rQ (i:=2) b4 (show 2<4 by decide) rfl fun h5 b5 u5=>hR _ _ ⟨?_,?_,((hu2.tr k3).own u4 (by omega)).own u5 (by omega),?_⟩
    ·rw[if_pos (show 0<i+1∧(ky f).length=n from⟨by omega,by rw[←hfi];exact ec⟩),b5,hfi];rfl
    ·rw[hrs]
     exact((ho.upd k3 fun _ _ h=>h).upd u4 fun y hy e=>by have e:y=h'.size:=e;have hy:h1.size≤y:=hy;omega).upd u5 fun y hy e=>by have e:y=h'.size:=e;have hy:h1.size≤y:=hy;omega
    ·have:=u4.size;have:=u5.size;omega
   ·have ec:¬(ky l[i]).length=n:=fun e=>by
     have:¬((l[i].1.size:Nat):Int)=(n:Int):=by simpa using ec
     omega
    rw[if_neg ec]at hrs;have hlei:=hle _ hpi;refine⟨_,vc b3 0,⟨by omega,by omega⟩,_,vc b3 1,aG fun h4 b4 k4=>⟨vc (k4.get0 b3) 1,vc (k4.get0 b3) 0,_,jR b4,?_⟩⟩
    have s4:=k4.size;have z4:=aJ b4;refine AppP.own (M:=fun y=>(h1.size≤y∧y<h2.size)∨h4.size≤y) (ys:= [PA n l[i]]) (((ho.within.upd k3 fun _ _ h=>h).upd k4 fun _ _ h=>h).more fun y hy=>.inl hy) rfl rfl rfl rfl (by omega) ?_ (.inr (ao _)) fun s5 h5 ho5 hu5=>?_
    ·have:=List.length_filter_le (fun p=>decide ((ky p).length≠n)) (l.take i)
     simp only[tJ,bF,aC];rw[aK]at this;omega
    have s5':=hu5.size;refine⟨vc (hu5.get (k4.get0 b3) (by omega)) 1,vc (hu5.get (k4.get0 b3) (by omega)) 0,hR _ _ ⟨?_,?_,((hu2.tr k3).tr k4).trans hu5 fun y hy=>.inr (by omega),by omega⟩⟩
    ·have e2:(if 0<i+1∧(ky f).length=n then some f.2 else none:Option ByteArray)=if 0<i∧(ky f).length=n then some f.2 else none:=by
      by_cases h0:0<i
      ·simp[h0]
      ·have:i=0:=by omega
       subst this;have:l[0]=f:=by simp[hf]
       rw[this]at ec;rw[if_neg (fun h=>ec h.2),if_neg (fun h=>ec h.2)]
     rw[e2];exact hu5.get (k4.get0 c3) (by omega)
    ·rw[hrs]
     exact ho5.more fun y hy=>by show h1.size≤y;omega
  ·rintro t h3 ⟨p1,p2,p3,p4⟩
   simp only;rw[cp hlt (by omega)];exact hI (i+1) _ _ ⟨rfl,hlt,p1,p2,p3,p4⟩ (by omega)
 obtain rfl:i=l.length:=by have:¬(i:Int)<(s.len:Int):=hge;omega
 rw[bW]at ho;have hc0:(0<l.length∧(ky f).length=n)↔(ky f).length=n:=⟨fun h=>h.2,fun h=>⟨hl0,h⟩⟩
 simp only[hc0]at c2;have hrl:tJ n l=(if(ky f).length=n then l.drop 1 else l).map (PA n):=by
  unfold tJ;congr 1
  by_cases e:(ky f).length=n
  ·rw[if_pos e,hf,cG,if_neg (by simpa using e),rP,qG]
   refine g8.2 fun p hp=>?_
   have hpl:p∈l:=by rw[hf];exact aL _ hp
   rcases q4 p hpl with e2|h2
   ·rw[e2]at hp
    exact absurd ((aX.1 (hf▸bg.up)).1 f hp) (db _)
   ·exact decide_eq_true (by omega)
  ·rw[if_neg e]
   refine g8.2 fun p hp=>?_
   rcases q4 p hp with e2|h2
   ·rw[e2];exact decide_eq_true e
   ·exact decide_eq_true (by omega)
 have hsub:(if(ky f).length=n then l.drop 1 else l).Sublist l:=by
  split
  ·exact List.drop_sublist ..
  ·exact List.Sublist.refl _
 have hlong:∀p∈(if(ky f).length=n then l.drop 1 else l),n<(ky p).length:=fun p hp=>by
  rcases q4 p (hsub.subset hp)with e|h
  ·by_cases e2:(ky f).length=n
   ·rw[if_pos e2,hf,e]at hp
    exact absurd ((aX.1 (hf▸bg.up)).1 f hp) (db _)
   ·rw[e];omega
  ·exact h
 have hbeg:Beg (tJ n l) []:=by
  rw[hrl];refine⟨?_,fun p hp=>?_⟩
  ·unfold dD
   rw[List.pairwise_map];refine(bg.up.sublist hsub).imp_of_mem fun{p q} hp hq hlt=>?_
   rw[vj]at hlt⊢;have e1:=q3 p (hsub.subset hp);have e2:=q3 q (hsub.subset hq);change Op.bytesLess (ky (PA n p)) (ky (PA n q))=true;change Op.bytesLess (ky p) (ky q)=true at hlt;rw[D3,D3];rw[←aF n (ky p),←aF n (ky q),e1,e2,Ft]at hlt;exact hlt
  ·obtain⟨q,hq,rfl⟩:=gz.1 hp
   refine⟨rfl,?_⟩;rw[D3,aS];have:=hlong q hq;simp only[aZ];omega
 have hkB:∀p∈tJ n l,(ky p).length≤B-n:=fun p hp=>by
  rw[hrl]at hp;obtain⟨q,hq,rfl⟩:=gz.1 hp;rw[D3,aS];have:=hlB q (hsub.subset hq);omega
 have hrn:(tJ n l).length≤100000:=by
  rw[hrl,bF];exact bh hsub.length_le hn
 have s2:=hu2.size;have zc:=aJ c2;refine hkids (B-n) (by omega) (W:=fun y=>W y∨y=h'.size) (ho.sl fun _ _ _ h=>h) ho.cap hbeg hkB hrn (fun y hy=>hy.elim (fun hy=>by have:=hW y hy;omega) fun hy=>by omega) fun h3 s3 ks L ho3 hL3 hrow hu3=>?_
 obtain⟨hcF,hgF⟩:=hrow.done;have hgot:∀k v,tE (.ofL L) k v↔Pt (if(ky f).length=n then l.drop 1 else l) ((ky f).take n) k v:=fun k v=>by
  rw[hgF,hrl];constructor
  ·rintro⟨p,hp,e2,e3⟩
   obtain⟨q,hq,rfl⟩:=gz.1 hp;rw[D3,dM]at e2;refine⟨q,hq,?_,e3⟩;rw[←e2,←q3 q (hsub.subset hq),aF]
  ·rintro⟨q,hq,e2,e3⟩
   refine⟨PA n q,gz.2 ⟨q,hq,rfl⟩,?_,e3⟩;rw[D3,dM,e2,List.drop_left' (by rw[aK];omega)]
 obtain⟨hcn,hhd,hin⟩:=hbc (F:=.ofL L) hcF rfl hgot rfl hlab;refine⟨_,rfl,?_⟩;refine rQ (i:=3) (hu3.get0 c2) (show 3<4 by decide) rfl fun h4 b4 u4=>?_
 refine hk h4 _ (_,_,_) ⟨h'.size,_,rfl,rfl,_,s3,none,ks,b4,rfl,?_,⟨ho3.cap,fun hw=>by have:=hW _ hw;omega⟩,xU.2 ?_⟩ hcn hhd hin ((hu2.tr hu3).own u4 (by omega))
 ·exact(ho3.upd u4 fun y hy e=>by have e:y=h'.size:=e;have hy:h2.size≤y:=hy;omega).sl fun y hy _ hw=>by have:=hW y hw;have hy:h2.size≤y:=hy;omega
 ·rw[Fo.to_of]
  exact(hL3.updM u4 fun y hy=>.inl (.inr hy)).less fun y hy=>.inl (.inl hy)
end Go.Proofs
namespace Go.Proofs
open Go Go.Lift
theorem IS{B:Nat}(hB:B≤1000000)(hkids:∀B',B'<B→K6 B'):K6 B:=by
 intro W h s l hs hcap bg hlB hn hW K hk;refine FK s ?_;unfold yq dd bC;have hlen:=hs.len;refine LoopP.ghost (fun(g:Nat×List (Option Addr)×List Bn×(Nat→Prop)) (t:SliceV×Int) h'=>t.2=(g.1:Int)∧g.1≤l.length∧OwnS ul 1 pY g.2.2.2 h' t.1 g.2.1∧(∀y,g.2.2.2 y→h.size≤y∧y<h'.size)∧DxL (fun y=>W y∨g.2.2.2 y) h' g.2.1 g.2.2.1∧Row g.2.2.1 (l.take g.1) (l.drop g.1) []∧Upd No h h') (fun g=>l.length-g.1) (0,[],[],fun _=>False)
  ⟨rfl,aR _,OwnS.nil pv,fun y hy=>hy.elim,⟨rfl,fun p hp=>(by cases hp)⟩,Row.nil _ _,Upd.refl _ _⟩ ?_
 rintro I ⟨i,ks,L,Mo⟩ ⟨so,ti⟩ h1 ⟨e1,hi,ho,hMo,hL,hrow,hu⟩ hI;simp only at e1 hi ho hMo hL hrow;subst e1;refine aE (fun hlt=>?_) fun hge=>?_
 ·have hlt:i<l.length:=by have:(i:Int)<(s.len:Int):=hlt;omega
  have hs1:=hs.upd hu fun _ h=>h.elim
  have hbt:∀j (hj:j<l.length),0<(ky l[j]).length:=fun j hj=>(bg.at_ _ (bI hj)).2
  obtain⟨bi,hbi,hbie⟩:=NR (hbt i hlt);obtain⟨ai,hai,_,hvi⟩:=hs1.at (af hlt);refine LoopP.ghost (fun(k:Nat) (t:Int) h2=>t=(k:Int)∧i≤k∧k≤l.length∧h2=h1∧∀j (hj:j<l.length),i≤j→j<k→bt 0 l[j]=bt 0 l[i]) (fun k=>l.length-k) i ⟨rfl,ao _,hi,rfl,fun j hj h1 h2=>by omega⟩ ?_
  rintro I2 k t h2 ⟨rfl,hik,hkl,rfl,hall⟩ hI2;refine Join.intro (fun t h3=>h3=h2∧(t=true→∃hk:k<l.length,bt 0 l[k]=bt 0 l[i])∧(t=false→∀hk:k<l.length,bt 0 l[k]≠bt 0 l[i])) (fun R hR=>?_) ?_
  ·refine aE (fun hk1=>?_) fun hk1=>hR _ _ ⟨rfl,fun h=>(by cases h),fun _ hk2=>absurd (show(k:Int)<(s.len:Int) by omega) hk1⟩
   have hk1:k<l.length:=by have:(k:Int)<(s.len:Int):=hk1;omega
   obtain⟨bk,hbk,hbke⟩:=NR (hbt k hk1);obtain⟨ak,hak,_,hvk⟩:=hs1.at (af hk1);refine⟨⟨by omega,by omega⟩,ak,hak,_,hvk 0 _ rfl,bk,by decide,hbk,⟨by simp only;omega,by simp only;omega⟩,ai,hai,_,hvi 0 _ rfl,bi,by decide,hbi,hR _ _ ⟨rfl,fun h=>⟨hk1,?_⟩,fun h _=>?_⟩⟩
   ·have:(bk.toNat:Int)=(bi.toNat:Int):=by simpa using h
    omega
   ·intro e
    have:¬(bk.toNat:Int)=(bi.toNat:Int):=by simpa using h
    omega
  rintro t h3 ⟨rfl,ht,hf⟩;cases t with
  |true=>
   obtain⟨hk1,e⟩:=ht rfl;refine aw.2 ?_;rw[cp hk1 (by omega)];refine hI2 (k+1) _ _ ⟨rfl,by omega,hk1,rfl,fun j hj h1 h2=>?_⟩ (by omega)
   rcases bN j k with h|h
   ·exact hall j hj h1 h
   ·have:j=k:=by omega
    subst this;exact e
  |false=>
   have hf:=hf rfl;have hik2:i<k:=by
    rcases bN i k with h|h
    ·exact h
    ·have:k=i:=by omega
     subst this;exact absurd rfl (hf hlt)
   refine al.2 ⟨⟨by omega,by omega⟩,⟨by simp only;omega,by simp only;omega⟩,?_⟩
   simp only[aP];have hsA:=Sl.sub hs1 (l:=i) (hi:=k) (m:=s.cap) (c:=s.cap-i) hik hkl (by omega);have hAB:(l.drop i).take (k-i)++l.drop k=l.drop i:=by
    conv=>rhs;rw[←aF (k-i) (l.drop i)]
    rw[List.drop_drop,show i+(k-i)=k by omega]
   have hDA:l.take i++(l.drop i).take (k-i)=l.take k:=by
    rw[show k=i+(k-i) by omega,List.take_add];congr 2;omega
   have hmemA:∀q∈(l.drop i).take (k-i),bt 0 q=bt 0 l[i]:=fun q hq=>by
    obtain⟨j,hj,e⟩:=List.getElem_of_mem hq;rw[aK,aS]at hj;rw[←e,List.getElem_take,List.getElem_drop];exact hall (i+j) (by omega) (by omega) (by omega)
   have hAc:∃r,(l.drop i).take (k-i)=l[i]::r:=by
    rw[fe hlt,show k-i=(k-i-1)+1 by omega,dI]
    exact⟨_,rfl⟩
   have hsubA:((l.drop i).take (k-i)).Sublist l:=(List.take_sublist _ _).trans (List.drop_sublist _ _);have hBk:∀b B',l.drop k=b::B'→bt 0 b≠bt 0 l[i]:=fun b B' e=>by
    have hk1:k<l.length:=by
     rcases bN k l.length with h|h
     ·exact h
     ·rw[List.drop_eq_nil_of_le h]at e;cases e
    rw[fe hk1]at e;rw[←(fp.inj e).1];exact hf hk1
   have hAl:((l.drop i).take (k-i)).length≤l.length:=hsubA.length_le;generalize (l.drop i).take (k-i)=A at*;obtain⟨r,hAr⟩:=hAc;obtain⟨g,hg⟩:∃g,A.getLast? =some g:=by rw[hAr];exact⟨_,List.getLast?_eq_some_getLast (by simp)⟩
   have s1:=hu.size;refine Jm (W:=fun y=>W y∨Mo y) hB hkids (hsA.less fun _ h=>h.elim) (bg.sub hsubA) (fun q hq=>hlB q (hsubA.subset hq)) (by omega) (fun y hy=>hy.elim (fun hy=>Nat.lt_of_lt_of_le (hW y hy) s1) fun hy=>(hMo y hy).2) hAr hg (hmemA g (gI hg)).symm fun h4 ka n kd hcn hhd hin hu4=>aG fun h5 b5 k5=>⟨_,jR b5,?_⟩
   have u35:=hu4.tr k5;have z35:=u35.size;have hLn:L.length≤256:=by
    rcases yP (c:=0) hrow.up fun _ _=>aR _ with e|e
    ·rw[e];simp
    ·omega
   have hkl':=hL.1;refine AppP.own (M:=fun y=>Mo y∨h5.size≤y) (ys:= [ka]) ((ho.upd u35 fun _ _ h=>h).more fun y hy=>.inl hy) rfl rfl rfl rfl (by omega) (by simp only[aC];omega) (.inr (ao _)) fun s6 h6 ho6 hu6=>?_
   have z6:=hu6.size;have hrow':=hrow;rw[←hAB]at hrow';have bgAB:Beg (A++l.drop k) []:=by rw[hAB];exact bg.sub (List.drop_sublist _ _)
   have hmore:=hrow'.more bgAB (p:=l[i]) (by rw[hAr];exact ar ..) hmemA hBk hcn hhd hin;rw[hDA]at hmore;refine hI (k,ks++ [ka],L++ [n],fun y=>(Mo y∨h5.size≤y)∧y<h6.size) _ _ ⟨rfl,hkl,ho6.within,fun y hy=>⟨?_,hy.2⟩,?_,hmore,?_⟩ (by simp only;omega)
   ·rcases hy.1 with h|h
    ·exact(hMo y h).1
    ·omega
   ·have hl:∀b,(W b∨((Mo b∨h5.size≤b)∧b<h6.size))→(W b∨Mo b)∨h5.size≤b:=fun b hb=>by
     rcases hb with h|⟨h|h,_⟩
     ·exact .inl (.inl h)
     ·exact .inl (.inr h)
     ·exact .inr h
    have hm:∀b,(Mo b∨h5.size≤b)→(W b∨((Mo b∨h5.size≤b)∧b<h6.size))∨h5.size≤b:=fun b hb=>by
     rcases hb with h|h
     ·exact .inl (.inr ⟨.inl h,by have:=(hMo b h).2;omega⟩)
     ·exact .inr h
    exact(((hL.upd0 u35).app (DxL.one (kd.upd0 k5))).less hl).updM hu6 hm
   ·exact(hu.tr u35).trans hu6 fun y hy=>.inr (by
     rcases hy with h|h
     ·exact(hMo y h).1
     ·omega)
 ·obtain rfl:i=l.length:=by have:¬(i:Int)<(s.len:Int):=hge;omega
  rw[bW,List.drop_length]at hrow;exact hk h1 _ ks L (ho.more fun y hy=>(hMo y hy).1) (hL.less fun y hy=>.inl (.inl hy)) hrow hu
theorem Nu(B:Nat):B≤1000000→K6 B:=by
 induction B using Nat.strongRecOn with
 |_ B ih=>exact fun hB=>IS hB fun B' h=>ih B' h (by omega)
theorem OK{h:ad}{s:SliceV}{l:List Pr}(hs:Sl eC 2 No h s l)(hcap:s.len≤s.cap)(hr:dD l)(hn:l.length≤60000)(hB:∀p∈l,(ky p).length≤1000000){K:Option Addr→ad→Prop}
  (hk:∀h' b w F,DxN No h' b ⟨#[]⟩ w F→gi F→ma w F=Bb l→Upd No h h'→K (some ⟨b,0,none⟩) h'):HC PG B5 [.slice s.a s.len s.cap] [.c .ptr] K h:=by
 refine N5 s ?_;unfold Hx dd bC dL QG;have hlen:=hs.len;refine aG fun h1 b1 k1=>?_
 have z1:=aJ b1;have hs1:=hs.upd k1 fun _ h=>h.elim
 refine Join.intro (fun(t:SliceV) h2=>∃(w:Option ByteArray) (l':List Pr),h2[h.size]? =some (.cells #[.string ⟨#[]⟩,.bool w.isSome,.string (w.getD ⟨#[]⟩),.slice none 0 0] mO (0,0))∧Sl eC 2 No h2 t l'∧t.len≤t.cap∧Beg l' []∧l'.length≤l.length∧(∀p∈l',p∈l)∧(∀k v,((k= []∧w=some v)∨Pt l' [] k v)↔∃p∈l,p.1.data.toList=k∧p.2=v)∧Upd No h h2) (fun R hR=>?_) ?_
 ·refine Join.plain ?_
  rcases l with _|⟨p,r⟩
  ·refine aE (fun hgt=>?_) fun _=>al.2 (hR _ _ ⟨none,[],b1,hs1,hcap,⟨cE,fun p hp=>(by cases hp)⟩,ao _,fun _ h=>h,fun k v=>⟨?_,?_⟩,k1⟩)
   ·simp only[aZ]at hlen;omega
   ·rintro(⟨_,h⟩|⟨q,hq,_⟩)
    ·cases h
    ·cases hq
   ·rintro⟨q,hq,_⟩;cases hq
  ·simp only[ax]at hlen
   obtain⟨a,ha,_,hv⟩:=hs1.at (i:=0) (x:=p) rfl;refine aE (fun _=>⟨⟨by decide,by omega⟩,a,ha,_,hv 0 _ rfl,?_⟩) fun hle=>absurd (show(s.len:Int)>0 by omega) hle
   have hrc:=aX.1 hr;have hpos:∀q∈r,0<(ky q).length:=fun q hq=>by
    have h1:=vj.1 (hrc.1 q hq);refine List.length_pos_iff.2 fun e2=>?_
    change Op.bytesLess (ky p) (ky q)=true at h1;rw[e2,Jn]at h1;cases h1
   rw[mB];by_cases e0:p.1=⟨#[]⟩
   ·have ek:ky p= []:=by unfold ky;rw[e0]
    rw[decide_eq_true e0];refine aw.2 ⟨⟨by decide,by omega⟩,a,ha,_,hv 1 _ rfl,_,rfl,?_⟩
    refine rQ (i:=1) b1 (show 1<4 by decide) rfl fun h2 b2 u2=>⟨_,rfl,?_⟩
    refine rQ (i:=2) b2 (show 2<4 by decide) rfl fun h3 b3 u3=>⟨⟨by decide,by omega⟩,hR _ _ ⟨some p.2,r,b3,?_,by simp only;omega,⟨hrc.2,fun q hq=>⟨rfl,hpos q hq⟩⟩,by simp,fun q hq=>aL _ hq,fun k v=>?_,(k1.own u2 (ao _)).own u3 (ao _)⟩⟩
    ·have u13:Upd (fun y=>y=h.size) h1 h3:=u2.tr u3
     have:=Sl.sub ((((hs.less (W':=fun y=>y=h.size) fun y hy=>.inr (by omega)).upd k1 fun _ h=>h.elim).upd u13 fun y hy=>.inl hy)) (l:=1) (hi:=(p::r).length) (m:=s.cap) (c:=s.cap-1) (by simp) (ao _) (by simp only[ax];omega)
     rw[rP,qG,bw (by simp)]at this;have e2:(p::r).length-1=s.len-1:=by simp only[ax];omega
     rw[e2]at this;exact this.less fun _ h=>h.elim
    ·constructor
     ·rintro(⟨rfl,h⟩|⟨q,hq,h1,h2⟩)
      ·exact⟨p,ar ..,ek,bH.inj h⟩
      ·exact⟨q,aL _ hq,h1,h2⟩
     ·rintro⟨q,hq,h1,h2⟩
      rcases aA.1 hq with rfl|hq
      ·exact .inl ⟨by rw[←h1];exact ek,by rw[h2]⟩
      ·exact .inr ⟨q,hq,h1,h2⟩
   ·rw[decide_eq_false e0]
    have hpp:0<(ky p).length:=List.length_pos_iff.2 fun e=>e0 (wT.1 e)
    refine al.2 (hR _ _ ⟨none,p::r,b1,hs1,hcap,⟨hr,fun q hq=>⟨rfl,?_⟩⟩,ao _,fun _ h=>h,fun k v=>?_,k1⟩)
    ·rcases aA.1 hq with rfl|hq
     ·exact hpp
     ·exact hpos q hq
    ·constructor
     ·rintro(⟨_,h⟩|⟨q,hq,h1,h2⟩)
      ·cases h
      ·exact⟨q,hq,h1,h2⟩
     ·rintro⟨q,hq,h1,h2⟩
      exact .inr ⟨q,hq,h1,h2⟩
 rintro t h2 ⟨w,l',b2,hs2,hc2,hbg,hll,hsub,hiff,u2⟩;have z2:=aJ b2;refine Nu 1000000 (ao _) (W:=fun y=>y=h.size) hs2 hc2 hbg (fun p hp=>hB p (hsub p hp)) (by omega) (fun y hy=>by omega) fun h3 s3 ks L ho3 hL3 hrow u3=>⟨_,rfl,?_⟩
 obtain⟨hcF,hgF⟩:=hrow.done;refine rQ (i:=3) (u3.get0 b2) (show 3<4 by decide) rfl fun h4 b4 u4=>?_
 refine hk h4 h.size w (.ofL L) ⟨_,s3,none,ks,b4,rfl,?_,⟨ho3.cap,id⟩,xU.2 ?_⟩ hcF (AK hcF hr fun k v=>?_) ((u2.tr u3).own u4 (ao _))
 ·exact(ho3.upd u4 fun y hy e=>by have e:y=h.size:=e;have hy:h2.size≤y:=hy;omega).sl fun _ _ _ h=>h
 ·rw[Fo.to_of]
  exact(hL3.updM u4 fun y hy=>.inl hy).less fun _ h=>h.elim
 ·rw[mq]
  unfold uN;rw[hgF,hiff]
def QB(n:Bn):Prop:=∀{h:ad} {b:Nat} {sl:ByteArray},DxN No h b sl n.2.1 n.2.2→sl.data.toList=n.1→(gU n).length≤140737488355328→∀{K:SliceV→ad→Prop},(∀s' h',OwnS nh 1 cD (fun y=>h.size≤y) h' s' (gU n)→Upd No h h'→K s' h')→
 HC PG qT [.pointer (some ⟨b,0,none⟩)] [.c .slice] K h
theorem KQ{lab:List UInt8}{w:Option ByteArray}{kids:Fo}(hl:lab.length≤10000)(hw:∀v,w=some v→v.size≤10000)(hk256:kids.toL.length≤256)(ih:∀m∈kids.toL,QB m):QB (lab,w,kids):=by
 intro h b sl r hsl hx K hk;simp only at r hsl;have hsle:(⟨lab.toArray⟩:ByteArray)=sl:=by rw[←hsl]
 have hsz:sl.size=lab.length:=by rw[←hsl];simp
 obtain⟨val,s,ow,ks,hb,hv,hs,hcap,hF⟩:=r;have hL:=xU.1 hF;have hlen:=hs.len;rw[hL.1]at hlen;have ex:gU (lab,w,kids)=mn sl++ru w++lm kids.toL.length 2++kids.toL.flatMap gU:=by
  show pM lab w kids.toL.length++mP kids=_
  rw[uj];unfold pM;rw[hsle];simp only[aq]
 rw[ex]at hx hk;simp only[ac]at hx;have g:∀{h':ad} {i:Nat},Upd No h h'→aN h' (adr ⟨b,0,none⟩ i)=(RI sl w.isSome val s ow)[i]?:=fun k=>vc (k.get0 hb) _
 have r0:=Upd.refl No h;refine Hn (some ⟨b,0,none⟩) ?_;unfold Ag cf dd bC ge bG;refine⟨_,rfl,sl,g (i:=0) r0,xE (by omega) fun s1 h1 ho1 k1=>?_⟩
 refine Join.intro (fun t h2=>OwnS nh 1 cD (fun y=>h.size≤y) h2 t (mn sl++ru w)∧Upd No h h2) (fun R hR=>?_) ?_
 ·refine⟨_,rfl,w.isSome,g (i:=1) k1,?_⟩
  have s1':=k1.size;cases w with
  |none=>
   refine al.2 (aG fun h2 b2 k2=>⟨_,jR b2,?_⟩)
   have s2:=k2.size;refine AppP.own (ys:= [(0:UInt8)]) (ho1.upd k2 fun _ _ h=>h) rfl rfl rfl rfl (by omega) (by simp only[aC];simp only[ru,aC]at hx;omega) (by show h.size≤h2.size;omega) fun s3 h3 ho3 hu3=>?_
   exact hR _ _ ⟨ho3,(k1.tr k2).trans hu3 fun y hy=>.inr hy⟩
  |some v=>
   have hvs:=hw v rfl;have hv':val=v:=hv;subst hv';refine aw.2 ⟨_,rfl,_,g (i:=2) k1,aG fun h2 b2 k2=>⟨g (i:=2) (k1.tr k2),_,jR b2,?_⟩⟩
   have s2:=k2.size;have hvl:(ru (some val)).length=1+(mn val).length:=by unfold ru;simp;omega
   rw[hvl]at hx;refine AppP.own (ys:= [(1:UInt8)]) (ho1.upd k2 fun _ _ h=>h) rfl rfl rfl rfl (by omega) (by simp only[aC];omega) (by show h.size≤h2.size;omega) fun s3 h3 ho3 hu3=>?_
   have u3:Upd No h h3:=(k1.tr k2).trans hu3 fun y hy=>.inr hy
   refine⟨g (i:=2) u3,xE (by omega) fun s4 h4 ho4 k4=>?_⟩
   have s3':=u3.size;have s4':=k4.size;refine uM (ho3.upd k4 fun _ _ h=>h) (ho4.sl (W:=No) fun _ _ _ h=>h) (fun y hy=>by show h.size≤y;omega) (by rw[ac,aC];omega) fun s5 h5 ho5 hu5=>?_
   refine hR _ _ ⟨?_,(u3.tr k4).trans hu5 fun y hy=>.inr hy⟩
   have e:mn sl++ru (some val)=mn sl++ [1]++mn val:=by unfold ru;simp
   rw[e];exact ho5
 rintro t2 h2 ⟨ho2,u2⟩;refine Join.intro (fun t h3=>OwnS nh 1 cD (fun y=>h.size≤y) h3 t (mn sl++ru w++lm kids.toL.length 2)∧Upd No h h3) (fun R hR=>?_) ?_
 ·refine⟨_,rfl,s,g (i:=3) u2,?_⟩
  rw[hlen];refine AL (by omega) fun s3 h3 ho3 k3=>?_
  have s2':=u2.size;have s3':=k3.size;refine uM (ho2.upd k3 fun _ _ h=>h) (ho3.sl (W:=No) fun _ _ _ h=>h) (fun y hy=>by show h.size≤y;omega) (by rw[ac];omega) fun s4 h4 ho4 hu4=>?_
  exact hR _ _ ⟨ho4,(u2.tr k3).trans hu4 fun y hy=>.inr hy⟩
 rintro t3 h3 ⟨ho3,u3⟩;refine⟨_,rfl,s,g (i:=3) u3,?_⟩;refine LoopP.ghost (fun(i:Nat) (t:SliceV×Int) h'=>t.2=(i:Int)∧i≤kids.toL.length∧OwnS nh 1 cD (fun y=>h.size≤y) h' t.1 (mn sl++ru w++lm kids.toL.length 2++(kids.toL.take i).flatMap gU)∧Upd No h h') (fun i=>kids.toL.length-i) 0 ⟨rfl,aR _,by simpa using ho3,u3⟩ ?_
 rintro I i ⟨so,ti⟩ h' ⟨e1,hi,ho,hu⟩ hI;simp only at e1 ho;subst e1;refine aE (fun hlt=>?_) fun hge=>?_
 ·have hlt:i<kids.toL.length:=by have:(i:Int)<(s.len:Int):=hlt;omega
  refine Join.plain ?_;obtain⟨kb,ksl,hki,hkl,hkn⟩:=(hL.upd0 hu).at hlt;obtain⟨a,ha,_,hv'⟩:=(hs.upd hu fun _ h=>h.elim).at0 hki
  have hsplit:((kids.toL.take i).flatMap gU).length+(gU kids.toL[i]).length≤(kids.toL.flatMap gU).length:=by
   have e:kids.toL=kids.toL.take i++kids.toL[i]::kids.toL.drop (i+1):=by rw[List.getElem_cons_drop,aF]
   have:=congrArg (fun L=>(List.flatMap gU L).length) e
   simp only[bm,aO,ac]at this;omega
  refine⟨⟨by simp only;omega,by simp only;omega⟩,a,ha,_,hv',ih _ (bI hlt) hkn hkl (by omega) fun s4 h4 ho4 k4=>?_⟩
  have s3':=hu.size;have s4':=k4.size;refine uM (ho.upd k4 fun _ _ h=>h) (ho4.sl (W:=No) fun _ _ _ h=>h) (fun y hy=>by show h.size≤y;omega) (by simp only[ac];omega) fun s5 h5 ho5 hu5=>?_
  simp only;rw[cp hlt (by omega)];refine hI (i+1) _ _ ⟨rfl,hlt,?_,(hu.tr k4).trans hu5 fun y hy=>.inr hy⟩ (by omega)
  rw[bv hlt,bm,aO,jG,aW,←aq];exact ho5
 ·obtain rfl:i=kids.toL.length:=by have:¬(i:Int)<(s.len:Int):=hge;omega
  rw[bW]at ho;exact hk _ _ ho hu
theorem Cb:∀{F:Fo},FT F→∀n∈F.toL,QB n
 | .nil,_,n,hn=>by simp[Fo.toL]at hn
 | .cons lab w kids rest,h,n,hn=>by
  rcases aA.1 hn with rfl|hn
  ·exact KQ h.1 h.2.1 h.2.2.1 (Cb h.2.2.2.1)
  ·exact Cb h.2.2.2.2 n hn
end Go.Proofs
namespace Go.Proofs
open Go Go.Lift
theorem Nd{c:Nat}:IntKind.wrap .u32 (((2^c%4294967296:Nat):Int)*2)=((2^(c+1)%4294967296:Nat):Int):=by
 rw[IntKind.wrap_u32,Nat.pow_succ];omega
theorem O8{q:List Pr}:(IX q==(1:Int))=(gd q).isSome:=by
 match q with
 | []=>rfl
 | [a]=>rfl
 |a::b::q=>rw[show IX (a::b::q)=2 by unfold IX;rw[if_neg (by simp),if_pos (by simp)]];rfl
theorem O7{q:List Pr}:(IX q==(2:Int))=(el q).isSome:=by
 match q with
 | []=>rfl
 | [a]=>rfl
 |a::b::q=>rw[show IX (a::b::q)=2 by unfold IX;rw[if_neg (by simp),if_pos (by simp)]];rw[show el (a::b::q)=some (a::b::q) by unfold el;rw[if_pos (by simp)]];rfl
def TwoB(n0 n1:Nat)(h:ad)(so ss:SliceV)(L:List Pr)(B:List UInt8):Prop:=
 ∃M N:Nat→Prop,OwnS eC 2 bS M h so L∧OwnS nh 1 cD N h ss B∧(∀b,M b→n0≤b∧b<n1∧¬N b)∧∀b,N b→n0≤b∧b<n1
theorem TwoB.upd0{n0 n1:Nat}{h h':ad}{so ss:SliceV}{L:List Pr}{B:List UInt8}(t:TwoB n0 n1 h so ss L B)(k:Upd No h h'):TwoB n0 n1 h' so ss L B:=by
 obtain⟨M,N,h1,h2,h3,h4⟩:=t;exact⟨M,N,h1.upd k fun _ _ h=>h,h2.upd k fun _ _ h=>h,h3,h4⟩
theorem TwoB.up{n0 n1 n2:Nat}{h:ad}{so ss:SliceV}{L:List Pr}{B:List UInt8}(t:TwoB n0 n1 h so ss L B)(hn:n1≤n2):TwoB n0 n2 h so ss L B:=by
 obtain⟨M,N,h1,h2,h3,h4⟩:=t;exact⟨M,N,h1,h2,fun b hb=>⟨(h3 b hb).1,by have:=(h3 b hb).2.1;omega,(h3 b hb).2.2⟩,fun b hb=>⟨(h4 b hb).1,by have:=(h4 b hb).2;omega⟩⟩
theorem TwoB.appP{n0 n1:Nat}{h:ad}{so ss:SliceV}{L:List Pr}{B:List UInt8}{p:Pr}(t:TwoB n0 n1 h so ss L B)(hn:n0≤n1)(hn1:n1≤h.size)(hl:L.length≤1000000){xs:List Value}(hx:xs=eC p){K:SliceV→ad→Prop}
  (hk:∀s' h',TwoB n0 h'.size h' s' ss (L++ [p]) B→Upd (fun b=>n0≤b) h h'→K s' h'):AppP (some [.string (⟨#[]⟩:ByteArray),.string (⟨#[]⟩:ByteArray)]) 2 32 bS so.a so.len so.cap 1 xs h K:=by
 subst hx;obtain⟨M,N,h1,h2,h3,h4⟩:=t;refine AppP.own (ys:= [p]) (h1.more (M':=fun b=>M b∨h.size≤b) fun _ h=>.inl h) rfl rfl rfl rfl (by omega) (by simp only[aC];omega) (.inr (ao _)) fun s' h' ho hu=>?_
 have s:=hu.size;refine hk s' h' ⟨_,N,ho.within,h2.upd hu fun b hb hm=>hm.elim (fun hm=>(h3 b hm).2.2 hb) fun hm=>by have:=(h4 b hb).2;omega,fun b hb=>⟨?_,hb.2,fun hB=>?_⟩,fun b hb=>⟨(h4 b hb).1,by have:=(h4 b hb).2;omega⟩⟩ (hu.mono fun b hb=>hb.elim (fun hb=>.inl (h3 b hb).1) .inr)
 ·rcases hb.1 with hb|hb
  ·exact(h3 b hb).1
  ·omega
 ·rcases hb.1 with hb|hb
  ·exact(h3 b hb).2.2 hB
  ·have:=(h4 b hB).2;omega
theorem TwoB.appB{W:Nat→Prop}{n0 n1:Nat}{h:ad}{so ss e:SliceV}{L:List Pr}{B ys:List UInt8}(t:TwoB n0 n1 h so ss L B)(hn:n0≤n1)(hn1:n1≤h.size)(he:Sl nh 1 W h e ys)(hl:B.length+ys.length≤140737488355328){K:SliceV→ad→Prop}
  (hk:∀s' h',TwoB n0 h'.size h' so s' L (B++ys)→Upd (fun b=>n0≤b) h h'→K s' h'):∃xs,SRow h e.a (e.len*1) xs∧AppP (some [.int .u8 0]) 1 1 cD ss.a ss.len ss.cap e.len xs h K:=by
 obtain⟨M,N,h1,h2,h3,h4⟩:=t;refine uM (M:=fun b=>N b∨h.size≤b) (h2.more fun _ h=>.inl h) he (fun _ h=>.inr h) hl fun s' h' ho hu=>?_
 have s:=hu.size;refine hk s' h' ⟨M,_,h1.upd hu fun b hb hm=>hm.elim (fun hm=>(h3 b hb).2.2 hm) fun hm=>by have:=(h3 b hb).2.1;omega,ho.within,fun b hb=>⟨(h3 b hb).1,by have:=(h3 b hb).2.1;omega,fun hB=>?_⟩,fun b hb=>⟨?_,hb.2⟩⟩ (hu.mono fun b hb=>hb.elim (fun hb=>.inl (h4 b hb).1) .inr)
 ·rcases hB.1 with hB|hB
  ·exact(h3 b hb).2.2 hB
  ·have:=(h3 b hb).2.1;omega
 ·rcases hb.1 with hb|hb
  ·exact(h4 b hb).1
  ·omega
theorem y3{β:Type}(g:Nat→Option β):∀n,(fm g n).length≤n
 |0=>by simp[fm]
 |n+1=>by
  rw[gb,ac];have:=y3 g n;cases g n<;>simp<;>omega
theorem Qm{β:Type}(g:Nat→Option β){n m:Nat}(h:n≤m):∃r,fm g m=fm g n++r:=by
 obtain⟨j,rfl⟩:∃j,m=n+j:=⟨m-n,by omega⟩
 clear h;induction j with
 |zero=>exact⟨[],by simp⟩
 |succ j ih=>obtain⟨r,hr⟩:=ih;exact⟨r++(g (n+j)).toList,by rw[←jj,gb,hr,aq]⟩
set_option maxRecDepth 4000 in
theorem ON{x:Hs}:∀(m:Nat),m≤13→∀{h:ad} {b:Nat} {l:List Pr},DTrie No x h m b l→Fit l→l.length≤60000→∀{K:SliceV→ad→Prop},(∀s' h',OwnS nh 1 cD (fun y=>h.size≤y) h' s' (eO x m l)→Upd No h h'→K s' h')→
  HC PG xQ [.pointer (some ⟨b,0,none⟩),.int .i64 ((13-m:Nat):Int)] [.c .slice] K h:=by
 intro m;induction m with
 |zero=>
  intro _ h b l t hf hn K hk;refine Hp (some ⟨b,0,none⟩) ((13-0:Nat):Int) ?_;unfold CD cf dd jx xo bC kU ge bG;obtain⟨_,⟨sa,sn,sc⟩,hb,hs⟩:=t;obtain rfl:sn=l.length:=hs.len;have g:∀{h':ad} {i:Nat},Upd No h h'→i<130→aN h' (adr ⟨b,0,none⟩ i)=some (dF true ⟨sa,l.length,sc⟩ (fun _=> []) (fun _=>none) i):=fun k hi=>by rw[bP,aV (k.get0 hb),aD,Cc hi]
  have r0:=Upd.refl No h;have e1:eO x 0 l= [1]++lm l.length 2++jy l:=by unfold eO;simp
  have hpl:=lj hf;rw[e1]at hk;refine⟨_,rfl,true,g (i:=0) r0 (by omega),aw.2 ⟨_,rfl,⟨sa,l.length,sc⟩,g (i:=1) r0 (by omega),_,rfl,⟨sa,l.length,sc⟩,g (i:=1) r0 (by omega),?_,?_⟩⟩
  ·refine aG fun h1 b1 k1=>⟨g (i:=1) k1 (by omega),g (i:=1) k1 (by omega),?_⟩
   have o1:=tA (b:=1) b1;refine AL (n:=l.length) (by omega) fun s2 h2 ho2 k2=>⟨g (i:=1) (k1.tr k2) (by omega),g (i:=1) (k1.tr k2) (by omega),?_⟩
   have s1:=k1.size;have s2':=k2.size;refine uM (o1.upd k2 fun _ _ h=>h) (ho2.sl (W:=No) fun _ _ _ h=>h) (fun y hy=>by show h.size≤y;omega) (by rw[dh];simp) fun s3 h3 ho3 k3=>?_
   have u3:Upd No h h3:=(k1.tr k2).trans k3 fun y hy=>.inr hy
   refine⟨g (i:=1) u3 (by omega),g (i:=1) u3 (by omega),?_⟩;refine yS (hs.upd u3 fun _ h=>h.elim) hf hn fun s4 h4 ho4 k4=>⟨g (i:=1) (u3.tr k4) (by omega),?_⟩
   have s3':=u3.size;have s4':=k4.size;refine uM (ho3.upd k4 fun _ _ h=>h) (ho4.sl (W:=No) fun _ _ _ h=>h) (fun y hy=>by show h.size≤y;omega) (by rw[ac,dh];simp;omega) fun s5 h5 ho5 k5=>?_
   have u5:Upd No h h5:=(u3.tr k4).trans k5 fun y hy=>.inr hy
   exact⟨g (i:=1) u5 (by omega),hk s5 h5 ho5 u5⟩
  ·refine AL (n:=l.length) (by omega) fun s2 h2 ho2 k2=>⟨g (i:=1) k2 (by omega),g (i:=1) k2 (by omega),?_⟩
   refine aG fun h1 b1 k1=>⟨g (i:=1) (k2.tr k1) (by omega),g (i:=1) (k2.tr k1) (by omega),?_⟩
   have o1:=tA (b:=1) b1;have s1:=k1.size;have s2':=k2.size;refine uM (M:=fun y=>h.size≤y) (o1.more fun y hy=>by show h.size≤y;omega) ((ho2.upd k1 fun _ _ h=>h).sl (W:=No) fun _ _ _ h=>h) (fun y hy=>by show h.size≤y;omega) (by rw[dh];simp) fun s3 h3 ho3 k3=>?_
   have u3:Upd No h h3:=(k2.tr k1).trans k3 fun y hy=>.inr hy
   refine⟨g (i:=1) u3 (by omega),g (i:=1) u3 (by omega),?_⟩;refine yS (hs.upd u3 fun _ h=>h.elim) hf hn fun s4 h4 ho4 k4=>⟨g (i:=1) (u3.tr k4) (by omega),?_⟩
   have s3':=u3.size;have s4':=k4.size;refine uM (ho3.upd k4 fun _ _ h=>h) (ho4.sl (W:=No) fun _ _ _ h=>h) (fun y hy=>by show h.size≤y;omega) (by rw[ac,dh];simp;omega) fun s5 h5 ho5 k5=>?_
   have u5:Upd No h h5:=(u3.tr k4).trans k5 fun y hy=>.inr hy
   exact⟨g (i:=1) u5 (by omega),hk s5 h5 ho5 u5⟩
 |succ m ih=>
  intro hm h b l t hf hn K hk;refine Hp (some ⟨b,0,none⟩) ((13-(m+1):Nat):Int) ?_;unfold CD cf dd jx xo bC kU ge bG;obtain⟨_,kk,hb,hkid⟩:=t;have elev:(13-(m+1):Nat)=12-m:=by omega
  rw[elev];obtain⟨q,hq⟩:∃q:Nat→List Pr,q=fun c=>part x (12-m) c l:=⟨_,rfl⟩
  have hqc:∀c,part x (12-m) c l=q c:=fun c=>by rw[hq]
  rw[←hq]at hb;have g:∀{h':ad} {i j:Nat},Upd No h h'→i+j<130→aN h' (adr (adr ⟨b,0,none⟩ i) j)=some (dF false ⟨none,0,0⟩ q kk (i+j)):=fun k hi=>by rw[bP,bP,aV (k.get0 hb),aD,Cc hi]
  have g0:aN h (adr ⟨b,0,none⟩ 0)=some (dF false ⟨none,0,0⟩ q kk 0):=by rw[bP,aV hb,Cc (by omega)]
  refine⟨_,rfl,false,g0,al.2 ?_⟩;have hML:∀L∈g6 x (12-m) l,2≤L.length∧(eO x m L).length≤9+L.length*(20004+9*(m+1)):=fun L hL=>by
   obtain⟨h3,c,rfl⟩:=lK hL;exact⟨h3,kZ m hf.part⟩
  have htot:((g6 x (12-m) l).flatMap (eO x m)).length≤60000*(20004+9*(m+1)+9):=by
   have h1:=AI hML;have h2:=rS x (12-m) l;exact bh h1 (Nat.mul_le_mul_right _ (by omega))
  have hm20:20004+9*(m+1)+9≤20200:=by omega
  have htot2:((g6 x (12-m) l).flatMap (eO x m)).length≤60000*20200:=bh htot (Nat.mul_le_mul_left _ hm20);have hpre:∀c,c≤32→((fm (fun j=>el (q j)) c).flatMap (eO x m)).length≤60000*20200:=fun c hc=>by
   obtain⟨r,hr⟩:=Qm (fun j=>el (q j)) hc
   have:((fm (fun j=>el (q j)) 32).flatMap (eO x m)).length≤60000*20200:=by rw[hq];exact htot2
   rw[hr,bm,ac]at this;omega
  refine LoopP.ghost (fun(c:Nat) (t:Int×Int×SliceV×SliceV×Int×Int) h'=>t.1=((iy (fun j=>(gd (q j)).isSome) c:Nat):Int)∧t.2.1=((iy (fun j=>(el (q j)).isSome) c:Nat):Int)∧t.2.2.2.2.1=((2^c%4294967296:Nat):Int)∧t.2.2.2.2.2=(c:Int)∧c≤32∧
   TwoB h.size h'.size h' t.2.2.1 t.2.2.2.1 (fm (fun j=>gd (q j)) c) ((fm (fun j=>el (q j)) c).flatMap (eO x m))∧Upd No h h') (fun c=>32-c) 0 ⟨rfl,rfl,rfl,rfl,by omega,⟨No,No,OwnS.nil fO,OwnS.nil qm,fun _ h=>h.elim,fun _ h=>h.elim⟩,Upd.refl _ _⟩ ?_
  rintro I c ⟨dt,nt,sl,sk,bt,ct⟩ h' ⟨e1,e2,e3,e4,hc32,hT,hu⟩ hI;simp only at e1 e2 e3 e4 hT;subst e1 e2 e3 e4;have s0:=hu.size;have wide:∀{h1 h2:ad},Upd No h h1→Upd (fun b=>h.size≤b) h1 h2→Upd No h h2:=fun a k=>a.trans k fun y hy=>.inr hy
  refine aE (fun hlt=>?_) fun hge=>?_
  ·have hlt:c<32:=by have:(c:Int)<32:=hlt;omega
   have ec:(c:Int).toNat*1=c:=by omega
   have ec2:(c:Int).toNat*2=c*2:=by omega
   have hbd:=ly (fun j=>(gd (q j)).isSome) c
   have hbn:=ly (fun j=>(el (q j)).isSome) c
   have hpw:2^c≤2^31:=Nat.pow_le_pow_right (by omega) (by omega);have hmod:2^c%4294967296=2^c:=Nat.mod_eq_of_lt (by omega);have vis:dF false ⟨none,0,0⟩ q kk (2+c)=.int .i64 (IX (q c)):=by rw[KT (by omega) (by omega),show 2+c-2=c by omega]
   refine Join.intro (fun(t:Int×SliceV) h2=>t.1=((iy (fun j=>(gd (q j)).isSome) (c+1):Nat):Int)∧TwoB h.size h2.size h2 t.2 sk (fm (fun j=>gd (q j)) (c+1)) ((fm (fun j=>el (q j)) c).flatMap (eO x m))∧Upd No h h2) (fun R hR=>?_) ?_
   ·refine⟨_,rfl,⟨by simp only;omega,by simp only;omega⟩,IX (q c),?_,?_⟩
    ·simp only[ec];rw[g hu (by omega),vis]
    rw[O8];have eb:iy (fun j=>(gd (q j)).isSome) (c+1)=iy (fun j=>(gd (q j)).isSome) c+(if(gd (q c)).isSome then 2^c else 0):=rfl
    cases hso:gd (q c)with
    |none=>
     rw[hso]at eb;refine al.2 (hR _ _ ⟨by rw[eb];rfl,?_,hu⟩);rw[gb,hso];simpa using hT
    |some p=>
     rw[hso]at eb;have ep:Aq (gd (q c))=p:=by rw[hso];rfl
     refine aw.2 ⟨_,rfl,⟨by simp only;omega,by simp only;omega⟩,p.1,?_,p.2,?_,aG fun h2 b2 k2=>⟨_,jR b2,?_⟩⟩
     ·simp only[ec2];rw[bP,bP,bP,aV (hu.get0 hb),aD,Cc (by omega),G9 (by omega) (by omega) (by omega),show(34+c*2+0-34)/2=c by omega,ep]
     ·simp only[ec2];rw[bP,bP,bP,aV (hu.get0 hb),aD,Cc (by omega),G7 (by omega) (by omega) (by omega),show(34+c*2+1-34)/2=c by omega,ep]
     ·have s2:=k2.size
      have hl:=y3 (fun j=>gd (q j)) c
      refine(hT.upd0 k2).appP (p:=p) s0 s2 (by omega) rfl fun s3 h3 hT3 k3=>hR _ _ ⟨?_,?_,wide (hu.tr k2) k3⟩
      ·rw[eb,hmod]
       simp only[Option.isSome_some,if_true];rw[IntKind.wrap_u32];omega
      ·rw[gb,hso];exact hT3
   rintro⟨dt,sl2⟩ h2 ⟨rfl,hT2,u2⟩;simp only at hT2⊢;have s2:=u2.size;refine Join.intro (fun(t:Int×SliceV) h3=>t.1=((iy (fun j=>(el (q j)).isSome) (c+1):Nat):Int)∧TwoB h.size h3.size h3 sl2 t.2 (fm (fun j=>gd (q j)) (c+1)) ((fm (fun j=>el (q j)) (c+1)).flatMap (eO x m))∧Upd No h h3) (fun R hR=>?_) ?_
   ·refine⟨_,rfl,⟨by omega,by omega⟩,IX (q c),?_,?_⟩
    ·rw[ec,g u2 (by omega),vis]
    rw[O7];have eb:iy (fun j=>(el (q j)).isSome) (c+1)=iy (fun j=>(el (q j)).isSome) c+(if(el (q c)).isSome then 2^c else 0):=rfl
    cases hma:el (q c)with
    |none=>
     rw[hma]at eb;refine al.2 (hR _ _ ⟨by rw[eb];rfl,?_,u2⟩);rw[gb (fun j=>el (q j)),hma];simpa using hT2
    |some L=>
     rw[hma]at eb;have hL2:2≤(q c).length∧L=q c:=by
      unfold el at hma;by_cases h2:2≤(q c).length
      ·rw[if_pos h2]at hma;exact⟨h2,(bH.inj hma).symm⟩
      ·rw[if_neg h2]at hma;cases hma
     obtain⟨h2l,rfl⟩:=hL2;refine aw.2 (aE (fun _=>?_) fun hx=>absurd (show((12-m:Nat):Int)<13 by omega) hx)
     obtain⟨kb,hkb,td⟩:=hkid c hlt (by rw[hqc];exact h2l);rw[hqc]at td;have hpt:(q c).length≤l.length:=by rw[←hqc];exact mp
     have hpf:Fit (q c):=by rw[←hqc];exact hf.part
     have e14:IntKind.wrap .i64 (((12-m:Nat):Int)+1)=((13-m:Nat):Int):=by rw[jm (by omega)];omega
     refine⟨_,rfl,⟨by omega,by omega⟩,some ⟨kb,0,none⟩,?_,?_⟩
     ·rw[ec,g u2 (by omega),G8 (by omega),show 98+c-98=c by omega,hkb]
     rw[e14];refine ih (by omega) (DTrie.upd u2 (fun _ h=>h.elim) td) hpf (by omega) fun s4 h4 ho4 k4=>?_
     have s4':=k4.size;have hpr:=hpre (c+1) (by omega);rw[gb,hma,bm,ac]at hpr;simp only[Option.toList_some,aO,jG,aW]at hpr;refine(hT2.upd0 k4).appB s2 s4' (ho4.sl (W:=No) fun _ _ _ h=>h) (by omega) fun s5 h5 hT5 k5=>hR _ _ ⟨?_,?_,wide (u2.tr k4) k5⟩
     ·rw[eb,hmod]
      simp only[Option.isSome_some,if_true];rw[IntKind.wrap_u32];omega
     ·rw[gb (fun j=>el (q j)),hma,bm]
      simpa using hT5
   rintro⟨nt,sk2⟩ h3 ⟨rfl,hT3,u3⟩;simp only at hT3⊢;rw[cp hlt (by omega),Nd];exact hI (c+1) _ _ ⟨rfl,rfl,rfl,rfl,hlt,hT3,u3⟩ (by omega)
  ·obtain rfl:c=32:=by have:¬(c:Int)<32:=hge;omega
   have e1:eO x (m+1) l= [0]++lm (iy (fun j=>(gd (q j)).isSome) 32) 4++lm (iy (fun j=>(el (q j)).isSome) 32) 4++jy (fm (fun j=>gd (q j)) 32)++(fm (fun j=>el (q j)) 32).flatMap (eO x m):=by
    rw[hq];unfold eO;simp[fZ,g6]
   rw[e1]at hk;have hD:=ly (fun j=>(gd (q j)).isSome) 32
   have hN:=ly (fun j=>(el (q j)).isSome) 32
   have hsf:Fit (fm (fun j=>gd (q j)) 32):=fun p hp=>hf p (qd (x:=x) (lev:=12-m) (by unfold fZ;rw[hq]at hp;exact hp))
   have hsl:=y3 (fun j=>gd (q j)) 32
   have hps:=lj hsf;have hpr:=hpre 32 (ao _);obtain⟨M,N,o1,o2,hMb,hNb⟩:=hT;generalize iy (fun j=>(gd (q j)).isSome) 32=D at*
   generalize iy (fun j=>(el (q j)).isSome) 32=N' at*
   generalize fm (fun j=>gd (q j)) 32=S at*
   generalize (fm (fun j=>el (q j)) 32).flatMap (eO x m)=B at*
   have hsS:Sl eC 2 No h' sl S:=o1.sl fun _ _ _ h=>h
   have hsB:Sl nh 1 No h' sk B:=o2.sl fun _ _ _ h=>h
   refine Join.plain (aG fun h1 b1 k1=>?_)
   simp only;have ob:=tA (b:=0) b1;refine Gt (by omega) fun s2 h2 ho2 k2=>?_
   have s1:=k1.size;have s2':=k2.size;refine uM (M:=fun y=>h'.size≤y) (ob.upd k2 fun _ _ h=>h) (ho2.sl (W:=No) fun _ _ _ h=>h) (fun y hy=>by show h'.size≤y;omega) (by rw[dh];simp) fun s3 h3 ho3 k3=>?_
   have s3':=k3.size;refine Join.plain (Gt (by omega) fun s4 h4 ho4 k4=>?_)
   have s4':=k4.size;refine uM (M:=fun y=>h'.size≤y) (ho3.upd k4 fun _ _ h=>h) (ho4.sl (W:=No) fun _ _ _ h=>h) (fun y hy=>by show h'.size≤y;omega) (by rw[ac,dh,dh];simp) fun s5 h5 ho5 k5=>?_
   have s5':=k5.size;have u5:Upd No h' h5:=(((k1.tr k2).trans k3 fun y hy=>.inr hy).tr k4).trans k5 fun y hy=>.inr hy
   refine Join.plain (yS (hsS.upd u5 fun _ h=>h.elim) hsf (by omega) fun s6 h6 ho6 k6=>?_)
   have s6':=k6.size;refine uM (M:=fun y=>h'.size≤y) (ho5.upd k6 fun _ _ h=>h) (ho6.sl (W:=No) fun _ _ _ h=>h) (fun y hy=>by show h'.size≤y;omega) (by rw[ac,ac,dh,dh];simp;omega) fun s7 h7 ho7 k7=>?_
   have u7:Upd No h' h7:=(u5.tr k6).trans k7 fun y hy=>.inr hy
   refine uM (M:=fun y=>h'.size≤y) ho7 (hsB.upd u7 fun _ h=>h.elim) (fun y hy=>by have:=u7.size;show h'.size≤y;omega) (by rw[ac,ac,ac,dh,dh];simp;omega) fun s8 h8 ho8 k8=>?_
   refine hk s8 h8 (ho8.more fun y hy=>by show h.size≤y;omega) ((hu.tr u7).trans k8 fun y hy=>.inr (by omega))
end Go.Proofs
namespace Go.Proofs
open Go Go.Lift
theorem Lr{W:Nat→Prop}{x:Hs}{h:ad}{m:Nat}{s:Slots}{c:Nat}{l:List Pr}(t:SlotIs W x h m s c l)(hp:(s.p c).isSome):∃p,l= [p]∧s.p c=some p:=by
 rcases t with⟨_,h1,_⟩|⟨p,h0,h1,_⟩|⟨_,h1,_⟩
 ·rw[h1]at hp;cases hp
 ·exact⟨p,h0,h1⟩
 ·rw[h1]at hp;cases hp
theorem Ls{W:Nat→Prop}{x:Hs}{h:ad}{m:Nat}{s:Slots}{c:Nat}{l:List Pr}(t:SlotIs W x h m s c l)(hp:(s.k c).isSome):2≤l.length∧∃kb,s.k c=some (some ⟨kb,0,none⟩)∧TrieAt W x h m kb l:=by
 rcases t with⟨_,_,h2⟩|⟨p,_,_,h2⟩|⟨h0,_,kb,h2,h3⟩
 ·rw[h2]at hp;cases hp
 ·rw[h2]at hp;cases hp
 ·exact⟨h0,kb,h2,h3⟩
theorem EB{W:Nat→Prop}{h:ad}{s:SliceV}{way:List Nat}{c:Nat}{xs:List Value}(hs:Sl PI 1 W h s way)(hc:s.cap=s.len)(hl:way.length≤13)(hx:xs= [.int .i64 (c:Int)]){K:SliceV→ad→Prop}
  (hk:∀s' h',Sl PI 1 No h' s' (way++ [c])→s'.len≤s'.cap→Upd No h h'→K s' h'):AppP (some [.int .i64 0]) 1 8 ol s.a s.len s.cap 1 xs h K:=by
 subst hx;refine Hg (ys:= [c]) hs rfl rfl rfl (by omega) (by omega) (by simp;omega) fun s' h' ho hu=>hk s' h' (ho.sl fun _ _ _ h=>h) ho.cap hu
def OnWay(x:Hs)(way:List Nat)(l:List Pr):Prop:=∀p∈l,∀i c,way[i]? =some c→ck x i p.1=c
theorem OnWay.part{x:Hs}{way:List Nat}{l:List Pr}{c:Nat}(o:OnWay x way l):OnWay x (way++ [c]) (part x way.length c l):=fun p hp i d hd=>by
 have hp:=ll.1 hp;rcases bN i way.length with h|h
 ·rw[List.getElem?_append_left h]at hd;exact o p hp.1 i d hd
 ·rw[List.getElem?_append_right h]at hd
  have:i-way.length=0:=by have:=(List.getElem?_eq_some_iff.1 hd).1;simp at this;omega
  rw[this]at hd;simp only[List.getElem?_cons_zero,bH.injEq]at hd;subst hd;rw[show i=way.length by omega];exact hp.2
theorem He{W:Nat→Prop}{x:Hs}:∀(m:Nat),m≤13→∀{h:ad} {b:Nat} {l:List Pr} {sw:SliceV} {way:List Nat},TrieAt W x h m b l→Tab h→Sl PI 1 No h sw way→sw.len≤sw.cap→way.length=13-m→OnWay x way l→dD l→l.length≤60000→∀{K:Int×Bool→ad→Prop},(∀h',Upd No h h'→K ((l.length:Int),true) h')→
  HC PG mu [.agg #[.int .u64 x.k0,.int .u64 x.k1,.int .u64 x.mask],.pointer (some ⟨b,0,none⟩),.slice sw.a sw.len sw.cap] [.c (.int .i64),.c .bool] K h:=by
 intro m;induction m with
 |zero=>
  intro _ h b l sw way t tb hs hcp hw hwy hr hn K hk;refine vT (x.k0,x.k1,x.mask) (some ⟨b,0,none⟩) sw ?_;unfold rM dd ae nv yE pW jx cy xo bC av kU sP uw ii jz iK Lc pO;refine aG fun h1 b1 k1=>aG fun h2 b2 k2=>aG fun h3 b3 k3=>aG fun h4 b4 k4=>aG fun h5 b5 k5=>?_
  have k05:Upd No h h5:=(((k1.tr k2).tr k3).tr k4).tr k5;have c1:=k5.get0 (k4.get0 (k3.get0 (k2.get0 b1)));have c2:=k5.get0 (k4.get0 (k3.get0 b2));have c3:=k5.get0 (k4.get0 b3);have c4:=k5.get0 b4;have s1:=k1.size;have s2:=k2.size;have s3:=k3.size;have s4:=k4.size;have z3:=aJ b3;have z4:=aJ b4;have z5:=aJ b5;obtain⟨sp,sk,ow,hb,hsp,_⟩:=(BuckAt.upd t k05 fun _ h=>h.elim:BuckAt W h5 b l).ex
  refine⟨_,yD c2,pd hb hsp (by omega) fun s8 h8 ho8 k8=>?_⟩
  refine⟨_,yD (k8.get0 c2),lq (k8.get0 hb) (aw.2 ?_)⟩;have d1:=k8.get0 c1;have d3:=k8.get0 c3;have d4:=k8.get0 c4;have d5:=k8.get0 b5;have s8':=k8.size;have hs8:Sl eC 2 No h8 s8 l:=ho8.sl fun _ _ _ h=>h
  have hlen:=hs8.len;have hwl:=hs.len;have hs':Sl PI 1 No h8 sw way:=(hs.upd k05 fun _ h=>h.elim).upd k8 fun _ h=>h.elim
  refine Join.plain ⟨sw,yD d3,?_⟩;rw[show((sw.len:Int) !=(13:Int))=false by rw[bne_eq_false_iff_eq];omega]
  refine al.2 (LO hs8 hr (by omega) (al.2 ?_));refine LoopP.ghost (fun(i:Nat) (t:Int) h'=>t=(i:Int)∧i≤l.length∧Upd No h8 h') (fun i=>l.length-i) 0 ⟨rfl,aR _,Upd.refl _ _⟩ ?_
  rintro I i t h' ⟨rfl,hi,hu⟩ hI;refine aE (fun hlt=>?_) fun hge=>?_
  ·have hlt:i<l.length:=by omega
   obtain⟨a,ha,_,hv⟩:=(hs8.upd hu fun _ h=>h.elim).at (af hlt)
   refine⟨⟨by omega,by omega⟩,a,ha,_,hv 0 _ rfl,_,hv 1 _ rfl,pN (p:=l[i]) fun h9 b9 k9=>?_⟩
   have u9:=hu.tr k9;refine⟨_,vc (u9.get0 d1) 0,_,vc (u9.get0 d1) 1,_,vc (u9.get0 d1) 2,_,vc b9 0,sw,yD (u9.get0 d3),vl fun h10 k10=>⟨yD (k10.get0 (u9.get0 d3)),?_⟩⟩
   refine BN ((hs'.upd u9 fun _ h=>h.elim).upd k10 fun _ h=>h.elim) (by omega) (fun j c hj=>hwy _ (bI hlt) j c hj) (al.2 ?_)
   rw[cp hlt (by omega)];exact hI (i+1) _ _ ⟨rfl,hlt,u9.tr k10⟩ (by omega)
  ·have hil:i=l.length:=by omega
   subst hil;refine A9 (hu.get0 d4) (by simp) rfl fun h9 b9 u9=>A9 (u9.oth (hu.get0 d5) (by omega)) (by simp) rfl fun h10 b10 u10=>?_
   refine⟨_,yD (u10.oth b9 (by omega)),_,yD b10,?_⟩;have e:((s8.len:Nat):Int)=(l.length:Int):=by omega
   rw[e];exact hk _ ((((k05.tr k8).tr hu).own u9 (by omega)).own u10 (by omega))
 |succ m ih=>
  intro hm h b l sw way t tb hs hcp hw hwy hr hn K hk;refine vT (x.k0,x.k1,x.mask) (some ⟨b,0,none⟩) sw ?_;unfold rM dd ae nv yE pW jx cy xo bC av kU sP uw ii jz iK Lc pO;obtain⟨sl,nd,hs0⟩:=t;have hsl:∀c,c<32→SlotIs W x h m sl c (part x (12-m) c l):=hs0;refine aG fun h1 b1 k1=>aG fun h2 b2 k2=>aG fun h3 b3 k3=>aG fun h4 b4 k4=>aG fun h5 b5 k5=>?_
  have k05:Upd No h h5:=(((k1.tr k2).tr k3).tr k4).tr k5;have c1:=k5.get0 (k4.get0 (k3.get0 (k2.get0 b1)));have c2:=k5.get0 (k4.get0 (k3.get0 b2));have c3:=k5.get0 (k4.get0 b3);have c4:=k5.get0 b4;have s1:=k1.size;have s2:=k2.size;have s3:=k3.size;have s4:=k4.size;have z1:=aJ b1;have z2:=aJ b2;have z3:=aJ b3;have z4:=aJ b4;have z5:=aJ b5;obtain⟨d,n,sp,sk,ow,hb,bits,hsp,hsk,_⟩:=(nd.upd k05 fun _ h=>h.elim).ex
  have hfp:(fm sl.p 32).length≤32:=vO;refine⟨_,yD c2,pd hb hsp (by omega) fun s8 h8 ho8 k8=>?_⟩
  refine⟨_,yD (k8.get0 c2),lq (k8.get0 hb) (al.2 ⟨sw,yD (k8.get0 c3),?_⟩)⟩;have k08:=k05.tr k8;have hl8:=ho8.len;rw[AJ hsl]at hl8;have hwl:=hs.len;rw[decide_eq_false (by omega)];refine al.2 (aG fun h9 b9 k9=>?_)
  have u9:=k8.tr k9;have s8':=k8.size;have z9:=aJ b9;refine A9 b9 (by simp) rfl fun h10 b10 u10=>?_
  have d1:=u10.oth (u9.get0 c1) (by omega);have d2:=u10.oth (u9.get0 c2) (by omega);have d3:=u10.oth (u9.get0 c3) (by omega);have d4:=u10.oth (u9.get0 c4) (by omega);have d5:=u10.oth (u9.get0 b5) (by omega);refine⟨sw,yD d3,sw,yD d3,sw,yD d3,⟨by omega,by omega⟩,⟨by omega,by omega⟩,?_⟩
  refine A9 d3 (by simp) rfl fun h11 b11 u11=>?_
  have k011:Upd No h h11:=((k08.tr k9).own u10 (by omega)).own u11 (by omega);have e1:=u11.oth d1 (by omega);have e2:=u11.oth d2 (by omega);have e4:=u11.oth d4 (by omega);have e5:=u11.oth d5 (by omega);have e9:=u11.oth b10 (by omega);have s11:=k011.size;have s10a:=u10.size;have s11a:=u11.size;have hs11:Sl PI 1 (fun y=>h.size≤y) h11 ⟨aY sw.a 0 ((sw.len:Int).toNat) 1,((sw.len:Int).toNat)-0,((sw.len:Int).toNat)-0⟩ way:=by
   have:=Sl.sub ((hs.less (W':=fun y=>h.size≤y) fun _ h=>.inr h).upd k011 fun _ h=>h.elim) (l:=0) (hi:=sw.len) (m:=sw.len) (c:=sw.len-0) (aR _) (by omega) (ao _)
   rw[List.drop_zero,bw (by omega)]at this;exact this
  have hcw:(⟨aY sw.a 0 ((sw.len:Int).toNat) 1,((sw.len:Int).toNat)-0,((sw.len:Int).toNat)-0⟩:SliceV).cap=(⟨aY sw.a 0 ((sw.len:Int).toNat) 1,((sw.len:Int).toNat)-0,((sw.len:Int).toNat)-0⟩:SliceV).len:=rfl;have b11':h11[h2.size]? =some (.cells #[sv ⟨aY sw.a 0 ((sw.len:Int).toNat) 1,((sw.len:Int).toNat)-0,((sw.len:Int).toNat)-0⟩] Kh (0,0)):=b11;clear b11;generalize (⟨aY sw.a 0 ((sw.len:Int).toNat) 1,((sw.len:Int).toNat)-0,((sw.len:Int).toNat)-0⟩:SliceV)=s0 at hs11 hcw b11'
  obtain⟨d',n',sp',sk',ow',hb',bits',_⟩:=(nd.upd k011 fun _ h=>h.elim).ex
  have tb11:=tb.upd k011 id;refine⟨_,yD e2,Fh hb' (se d' (aG fun h12 b12 k12=>?_))⟩
  have s12:=k12.size;have z12:=aJ b12;refine DL (d:=d') bits'.d32 b12 (fun k h'=>Upd No h11 h') No (fun k h1 hi=>tb11.upd hi id) k12 (fun k ha hb hi hle hu=>hi.trans hu fun y hy=>.inr (by omega)) (fun _ h=>h.elim) (fun k c ha KK hi hkc hc hdc _ hK=>?_) fun k ha hi _ hde=>?_
  ·
   have hdc':=hdc;rw[bits'.dp c hc]at hdc';obtain⟨p,hp1,hp2⟩:=Lr (hsl c hc) hdc';refine⟨_,yD (hi.get0 e2),GH (nd.upd (k011.tr hi) fun _ h=>h.elim) hc fun hb kb=>?_⟩
   rw[hp2];have ib:=hi.tr kb;refine pN (p:=p) fun hc' bc kc=>?_
   have ic:=ib.tr kc;have hon:∀i c',(way++ [c])[i]? =some c'→ck x i p.1=c':=by
    have:=hwy.part (c:=c);rw[hw,show 13-(m+1)=12-m by omega,hp1]at this
    exact this p (aB.2 rfl)
   refine Join.intro (fun t hd=>t=false∧Upd No hc' hd) (fun R hR=>?_) ?_
   ·refine⟨_,vc (ic.get0 e1) 0,_,vc (ic.get0 e1) 1,_,vc (ic.get0 e1) 2,_,vc bc 0,s0,yD (ic.get0 b11'),?_,?_⟩
    ·refine vl fun hd kd=>⟨yD (kd.get0 (ic.get0 b11')),aG fun he be ke=>⟨yD (ke.get0 (kd.get0 (ic.get0 b11'))),_,jR be,?_⟩⟩
     refine EB (((hs11.upd ic fun _ h=>h.elim).upd kd fun _ h=>h.elim).upd ke fun _ h=>h.elim) hcw (by omega) rfl fun s' hf hsf _ kf=>?_
     exact BN hsf (by simp;omega) hon (hR _ _ ⟨rfl,(kd.tr ke).tr kf⟩)
    ·refine aG fun hd bd kd=>⟨yD (kd.get0 (ic.get0 b11')),vc (kd.get0 bc) 0,⟨vc (kd.get0 (ic.get0 e1)) 0,vc (kd.get0 (ic.get0 e1)) 1,vc (kd.get0 (ic.get0 e1)) 2⟩,?_⟩
     refine vl fun he ke=>⟨yD (ke.get0 (kd.get0 (ic.get0 b11'))),_,jR (ke.get0 bd),?_⟩
     refine EB (((hs11.upd ic fun _ h=>h.elim).upd kd fun _ h=>h.elim).upd ke fun _ h=>h.elim) hcw (by omega) rfl fun s' hf hsf _ kf=>?_
     exact BN hsf (by simp;omega) hon (hR _ _ ⟨rfl,(kd.tr ke).tr kf⟩)
   ·rintro t hd ⟨rfl,kd⟩
    exact al.2 (hK hd (ic.tr kd) ((kb.tr kc).tr kd))
  ·
   obtain⟨d'',n'',sp'',sk'',ow'',hb'',bits'',_⟩:=(nd.upd (k011.tr hi) fun _ h=>h.elim).ex
   refine⟨_,yD (hi.get0 e2),BH hb'' (se n'' (aG fun h13 b13 k13=>?_))⟩
   have i13:=hi.tr k13;have s13:=k13.size;have z13:=aJ b13;have sa:=hi.size;have zde:=aJ hde;have hl8':s8.len=(fZ x (12-m) l).length:=hl8;have hall:=Lp x (12-m) l;have hfl:∀k,(fm (fun c=>el (part x (12-m) c l)) k).flatten.length≤60000∨32<k:=fun k=>by
    rcases bN 32 k with h|h
    ·exact .inr h
    ·refine .inl ?_
     have:((fm (fun c=>el (part x (12-m) c l)) k).flatten).length≤(g6 x (12-m) l).flatten.length:=by
      unfold g6;have hj:∀j,∃r,fm (fun c=>el (part x (12-m) c l)) (k+j)=fm (fun c=>el (part x (12-m) c l)) k++r:=fun j=>by
       induction j with
       |zero=>exact⟨[],by simp⟩
       |succ j ihj=>obtain⟨r,hr⟩:=ihj;exact⟨r++(el (part x (12-m) (k+j) l)).toList,by rw[←jj,gb,hr,aq]⟩
      have this:=hj (32-k);rw[show k+(32-k)=32 by omega]at this
      obtain⟨r,hr⟩:=this;rw[hr,List.flatten_append,ac];omega
     omega
   refine DL (d:=n'') bits''.n32 b13 (fun k h'=>k≤32∧Upd (· =h8.size) ha h'∧h'[h8.size]? =some (.cells #[.int .i64 (((fZ x (12-m) l).length+(fm (fun c=>el (part x (12-m) c l)) k).flatten.length:Nat):Int)] ol (0,0))) (· =h8.size)
    (fun k hx hy=>(tb11.upd hi id).upd hy.2.1 fun e=>by have e:0=h8.size:=e;omega) ⟨aR _,k13.wide,?_⟩ (fun k hx hy hz hle hu=>⟨hz.1,hz.2.1.trans hu fun y hy=>.inr (by omega),hu.get hz.2.2 (by omega)⟩) (fun y hy=>⟨by have hy:y=h8.size:=hy;omega,by have hy:y=h8.size:=hy;omega⟩) (fun k c hx KK hy hkc hc hnc hno hK=>?_) fun k hx hy hno hdx=>?_
   ·have:=i13.get0 e9
    rw[show((fZ x (12-m) l).length+(fm (fun c=>el (part x (12-m) c l)) 0).flatten.length:Nat)=s8.len by rw[hl8'];simp[fm]]
    exact this
   ·obtain⟨hk32,hux,hcx⟩:=hy
    have hnc':=hnc;rw[bits''.nk c hc]at hnc';obtain⟨h2l,kb,hkb,tk⟩:=Ls (hsl c hc) hnc';have gx:∀{y:Nat} {o:Obj},h11[y]? =some o→y≠h8.size→hx[y]? =some o:=fun hy hne=>hux.get (hi.get0 hy) hne
    have uW:Upd No h hx:=(k011.tr hi).trans hux fun y hy=>.inr (by have hy:y=h8.size:=hy;omega)
    refine⟨_,yD (gx e2 (by omega)),Kw (nd.upd uW fun _ h=>h.elim) hc ?_⟩
    rw[hkb];have hmc:el (part x (12-m) c l)=some (part x (12-m) c l):=by unfold el;rw[if_pos h2l]
    have hskip:fm (fun c=>el (part x (12-m) c l)) c=fm (fun c=>el (part x (12-m) c l)) k:=Fc hkc fun j h1 h2=>by
     have:=hno j h1 h2;rw[bits''.nk j (by omega),(Bj (hsl j (by omega))).2]at this;simpa using this
    have hnext:(fm (fun c=>el (part x (12-m) c l)) (c+1)).flatten.length=(fm (fun c=>el (part x (12-m) c l)) k).flatten.length+(part x (12-m) c l).length:=by
     rw[gb,hskip,hmc];simp
    have hpl:(part x (12-m) c l).length≤l.length:=mp;refine Join.intro (fun t hd=>t=(((part x (12-m) c l).length:Int),true)∧Upd No hx hd) (fun R hR=>?_) ?_
    ·refine⟨_,vc (gx e1 (by omega)) 0,_,vc (gx e1 (by omega)) 1,_,vc (gx e1 (by omega)) 2,s0,yD (gx b11' (by omega)),aG fun hd bd kd=>?_⟩
     refine⟨yD (kd.get0 (gx b11' (by omega))),⟨vc (kd.get0 (gx e1 (by omega))) 0,vc (kd.get0 (gx e1 (by omega))) 1,vc (kd.get0 (gx e1 (by omega))) 2⟩,_,jR bd,?_⟩;have hsx:Sl PI 1 (fun y=>h.size≤y) hd s0 way:=((hs11.upd hi fun _ h=>h.elim).upd hux fun y hy=>.inl (by have hy:y=h8.size:=hy;omega)).upd kd fun _ h=>h.elim
     refine EB hsx hcw (by omega) rfl fun s' he hse hce ke=>?_
     have gE:=kd.tr ke;refine⟨⟨vc (gE.get0 (gx e1 (by omega))) 0,vc (gE.get0 (gx e1 (by omega))) 1,vc (gE.get0 (gx e1 (by omega))) 2⟩,?_⟩;refine ih (by omega) (TrieAt.upd0 (uW.tr gE) tk) (tb.upd (uW.tr gE) id) hse hce (by simp;omega) ?_ (sN hr) (by omega) fun hf kf=>hR _ _ ⟨rfl,gE.tr kf⟩
     have:=hwy.part (c:=c);rw[hw,show 13-(m+1)=12-m by omega]at this
     exact this
    ·rintro t hd ⟨rfl,kd⟩
     refine Join.plain (al.2 ?_);rw[decide_eq_false (by simp only;omega)];refine al.2 ⟨_,yD (kd.get0 hcx),?_⟩;have hf1:=(hfl k).resolve_right (by omega);have hS:(fZ x (12-m) l).length≤60000:=by omega
     refine A9 (c':= #[.int .i64 (((fZ x (12-m) l).length+(fm (fun c=>el (part x (12-m) c l)) (c+1)).flatten.length:Nat):Int)]) (kd.get0 hcx) (by simp) ?_ fun hf bf uf=>?_
     ·rw[hnext]
      have:IntKind.wrap .i64 ((((fZ x (12-m) l).length+(fm (fun c=>el (part x (12-m) c l)) k).flatten.length:Nat):Int)+((part x (12-m) c l).length:Int))=(((fZ x (12-m) l).length+((fm (fun c=>el (part x (12-m) c l)) k).flatten.length+(part x (12-m) c l).length):Nat):Int):=by rw[jm (by omega)];omega
      simp only[this];rfl
     ·exact hK hf ⟨hc,(hux.tr kd.wide).tr uf,bf⟩ (kd.wide.tr uf)
   ·obtain⟨hk32,hux,hcx⟩:=hy
    have gx:∀{y:Nat} {o:Obj},h11[y]? =some o→y≠h8.size→hx[y]? =some o:=fun hy hne=>hux.get (hi.get0 hy) hne
    have hkm:fm (fun c=>el (part x (12-m) c l)) 32=fm (fun c=>el (part x (12-m) c l)) k:=Fc hk32 fun j h1 h2=>by
     have:=hno j h1 h2;rw[bits''.nk j (by omega),(Bj (hsl j (by omega))).2]at this;simpa using this
    have ev:((fZ x (12-m) l).length+(fm (fun c=>el (part x (12-m) c l)) k).flatten.length:Nat)=l.length:=by rw[←hkm];exact hall
    rw[ev]at hcx;have sx:=hux.size;refine⟨_,yD hcx,A9 (gx e4 (by omega)) (by simp) rfl fun hf bf uf=>A9 (uf.oth (gx e5 (by omega)) (by omega)) (by simp) rfl fun hg bg ug=>?_⟩
    have sf:=uf.size;have sg:=ug.size;have g2:=ug.oth (uf.oth hdx (by omega)) (by omega);have kh:Upd (· =h13.size) hg (hg.setIfInBounds h13.size (.deferred none)):=Upd.set _ _ rfl
    refine⟨g2,bj ?_⟩;generalize hg.setIfInBounds h13.size (.deferred none)=hh at kh;have g3:=kh.oth (ug.oth (uf.oth (hux.get hde (by omega)) (by omega)) (by omega)) (by omega);have kj:Upd (· =h12.size) hh (hh.setIfInBounds h12.size (.deferred none)):=Upd.set _ _ rfl
    refine⟨g3,bj ?_⟩;generalize hh.setIfInBounds h12.size (.deferred none)=hj at kj;refine⟨_,yD (kj.oth (kh.oth (ug.oth bf (by omega)) (by omega)) (by omega)),_,yD (kj.oth (kh.oth bg (by omega)) (by omega)),?_⟩;refine hk hj ?_;refine(((((k011.tr hi).trans hux fun y hy=>.inr ?_).own uf (by omega)).own ug (by omega)).own kh (by omega)).own kj (by omega)
    have hy:y=h8.size:=hy;omega
end Go.Proofs
