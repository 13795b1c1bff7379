/- A part of the proof that the named laws of this program answer true, whatever the input. -/
import Derived.Test.YtncppacbfagpgaaGreatDoorPart2
import Derived.Test.YtncppacbfagpgaaGreatDoorPart0
open Array renaming toList_inj→ll
open ByteArray renaming mk→nQ,data_extract→qk
open Iff renaming rfl→yZ
open Int renaming fdiv→dY,toNat_natCast→aV
open List renaming length_nil→aL,append_inj→rS,cons→fe,append_assoc→au,flatMap_cons→aN,mem_cons_self→av,mem_cons_of_mem→aC,length_append→ac,pairwise_cons→aD,mem_cons→aB,cons_append→cK,zip_cons_cons→j1,mem_append→bG,length_take→aR,zip_eq_zipWith→oe,length_drop→aY,set_eq_take_append_cons_drop→fa,getElem_mem→bw,length_singleton→aI,length_cons→ar,pairwise_iff_getElem→cA,extract_eq_take_drop→hJ,length→fg,take_length→cd,take_append_drop→aK,mem_map→eS,pairwise_append→cl,pairwise_map→kI,lt_irrefl→tX,length_map→cD,append_nil→aJ,flatMap_append→bH
open List.Lex renaming nil→w9
open List.Pairwise renaming nil→ee
open Nat renaming mul_le_mul_right→cy,le_refl→aq,shiftRight_eq_div_pow→cI,mod_eq_of_lt→dN,not_lt_zero→kq,lt_or_ge→bT,le_trans→bh,zero_le→aW,zero_add→aM,le_of_eq→fj,lt_irrefl→qZ,lt_of_lt_of_le→aQ,add_mul→jG
open Option renaming some→bK,mem_toList→p9,map_eq_some_iff→lU
open Prod renaming ext→wp,mk→p8
namespace Go.Proofs
open Go Go.Lift
theorem VS{W:Nat→Prop}{x:Hs}{h:ae}{b:Nat}{l:List Pr}(t:TrieAt W x h 13 b l)(hf:Fit l)(hn:l.length≤60000){K:SliceV→ae→Prop}(hk:∀s' h',OwnS pu 1 cH (fun y=>h.size≤y) h' s' (fG x 13 l)→Upd No h h'→K s' h'):HC PG Au [.pointer (some ⟨b,0,none⟩)] [.c .slice] K h:=by
 refine PE _ ?_;unfold Hg;refine aj.2 ?_;have hb:l.length*(20004+9*(13+1))≤60000*(20004+9*(13+1)):=cy _ hn;exact TM (x:=x) 13 (aq _) (s:=⟨none,0,0⟩) (xs:= []) (M:=fun y=>h.size≤y) t (Upd.refl _ _) (fun _ h=>h) (OwnS.nil tC) (fun _ h=>h) hf hn (by rw[aL];omega) fun s' h' ho hu=>hk s' h' ho (hu.mono fun y hy=>.inr hy)
theorem MG:∀{a b:Nat} (k:Nat),mW a k=mW b k→a%2^(8*k)=b%2^(8*k)
 |_,_,0,_=>by simp[Nat.mod_one]
 |a,b,k+1,h=>by
  rw[yO,yO]at h;obtain⟨h1,h2⟩:=rS h (by rw[dI,dI]);have ih:=MG k h1;have h3:=congrArg UInt8.toNat (fe.inj h2).1;rw[UInt8.toNat_ofNat',UInt8.toNat_ofNat',cI,cI]at h3;have e:2^(8*(k+1))=2^(8*k)*2^8:=by rw[Nat.mul_add,Nat.pow_add]
  rw[e,Nat.mod_mul,Nat.mod_mul,ih,h3]
theorem vD{a b k:Nat}{r r':List UInt8}(ha:a<2^(8*k))(hb:b<2^(8*k))(h:mW a k++r=mW b k++r'):a=b∧r=r':=by
 obtain⟨h1,h2⟩:=rS h (by rw[dI,dI]);have:=MG k h1;rw[dN ha,dN hb]at this;exact⟨this,h2⟩
theorem yE{a b:ByteArray}{r r':List UInt8}(ha:a.size≤10000)(hb:b.size≤10000)(h:om a++r=om b++r'):a=b∧r=r':=by
 unfold om at h;rw[au,au]at h;obtain⟨h1,h2⟩:=vD (k:=2) (by omega) (by omega) h;obtain⟨h3,h4⟩:=rS h2 (by simpa using h1);refine⟨?_,h4⟩;cases a;cases b;exact congrArg nQ (ll.1 h3)
theorem Ai:∀{l l':List Pr} {r r':List UInt8},Fit l→Fit l'→l.length=l'.length→le l++r=le l'++r'→l=l'∧r=r'
 | [],[],_,_,_,_,_,h=>⟨rfl,h⟩
 | [],_::_,_,_,_,_,e,_=>by simp at e
 |_::_,[],_,_,_,_,e,_=>by simp at e
 |p::l,q::l',r,r',hf,hf',e,h=>by
  unfold le at h;rw[aN,aN,Eb,Eb]at h;simp only[au]at h;have h1:=hf p (av ..);have h2:=hf' q (av ..);obtain⟨e1,h⟩:=yE h1.1 h2.1 h;obtain⟨e2,h⟩:=yE h1.2 h2.2 h;obtain⟨e3,h⟩:=Ai (l:=l) (l':=l') (fun z hz=>hf z (aC _ hz)) (fun z hz=>hf' z (aC _ hz)) (by simpa using e) h
  exact⟨by rw[e3,wp e1 e2],h⟩
theorem Fh{β γ:Type}{g:Nat→Option β}{g':Nat→Option γ}:∀n,(∀c,c<n→(g c).isSome=(g' c).isSome)→(fm g n).length=(fm g' n).length
 |0,_=>rfl
 |n+1,h=>by
  rw[iP,iP,ac,ac,Fh n fun c hc=>h c (by omega)]
  have:=h n (by omega);cases h1:g n<;>cases h2:g' n<;>rw[h1,h2]at this<;>first|rfl|cases this
theorem Gu{β:Type}{g g':Nat→Option β}:∀n,(∀c,c<n→(g c).isSome=(g' c).isSome)→fm g n=fm g' n→∀c,c<n→g c=g' c
 |0,_,_,c,hc=>absurd hc (kq _)
 |n+1,h,e,c,hc=>by
  rw[iP,iP]at e;obtain⟨e1,e2⟩:=rS e (Fh n fun c hc=>h c (by omega))
  rcases bT c n with hl|hl
  ·exact Gu n (fun c hc=>h c (by omega)) e1 c hl
  ·have:c=n:=by omega
   subst this;cases h1:g c<;>cases h2:g' c<;>rw[h1,h2]at e2<;>simp at e2⊢
   exact e2
theorem vy:∀{l l':List Pr},bO l→bO l'→(∀p,p∈l↔p∈l')→l=l'
 | [],[],_,_,_=>rfl
 | [],q::l',_,_,h=>absurd ((h q).2 (av ..)) (by simp)
 |p::l,[],_,_,h=>absurd ((h p).1 (av ..)) (by simp)
 |p::l,q::l',hr,hr',h=>by
  have hr:=aD.1 hr;have hr':=aD.1 hr';have e:p=q:=by
   rcases aB.1 ((h p).1 (av ..))with e|hp
   ·exact e
   ·rcases aB.1 ((h q).2 (av ..))with e|hq
    ·exact e.symm
    ·exact absurd (gq (hr.1 q hq) (hr'.1 p hp)) (cg _)
  subst e;rw[vy hr.2 hr'.2 fun z=>?_]
  constructor
  ·intro hz
   rcases aB.1 ((h z).1 (aC _ hz))with e|hz'
   ·exact absurd (hr.1 z hz) (by rw[e];exact cg _)
   ·exact hz'
  ·intro hz
   rcases aB.1 ((h z).2 (aC _ hz))with e|hz'
   ·exact absurd (hr'.1 z hz) (by rw[e];exact cg _)
   ·exact hz'
theorem Mv{x:Hs}{lev:Nat}{l l':List Pr}(hr:bO l)(hr':bO l')(h:∀c,c<32→part x lev c l=part x lev c l'):l=l':=by
 refine vy hr hr' fun p=>?_
 have e:=h (ck x lev p.1) (BZ ..);have h1:=mU (x:=x) (lev:=lev) (c:=ck x lev p.1) (l:=l) (p:=p);have h2:=mU (x:=x) (lev:=lev) (c:=ck x lev p.1) (l:=l') (p:=p);rw[e]at h1;constructor
 ·intro hp;exact(h2.1 (h1.2 ⟨hp,rfl⟩)).1
 ·intro hp;exact(h1.1 (h2.2 ⟨hp,rfl⟩)).1
theorem RF{q q':List Pr}(h1:jc q=jc q')(h2:fx q=fx q'):q=q':=by
 match q,q' with
 | [],[]=>rfl
 | [a],[b]=>simp[jc]at h1;rw[h1]
 | [],[b]=>simp[jc]at h1
 | [a],[]=>simp[jc]at h1
 | [],b::c::q'=>simp[fx]at h2
 | [a],b::c::q'=>simp[fx]at h2
 |b::c::q',[]=>simp[fx]at h2
 |b::c::q',[a]=>simp[fx]at h2
 |a::b::q,c::d::q'=>simpa[fx]using h2
theorem MZ{f:List Pr→List UInt8}:∀{ls ls':List (List Pr)} {r r':List UInt8},ls.length=ls'.length→(∀L∈ls,∀L'∈ls',∀r r',f L++r=f L'++r'→L=L'∧r=r')→ls.flatMap f++r=ls'.flatMap f++r'→ls=ls'∧r=r'
 | [],[],_,_,_,_,h=>⟨rfl,h⟩
 | [],_::_,_,_,e,_,_=>by simp at e
 |_::_,[],_,_,e,_,_=>by simp at e
 |L::ls,L'::ls',r,r',e,hf,h=>by
  rw[aN,aN,au,au]at h;obtain⟨e1,h⟩:=hf L (av ..) L' (av ..) _ _ h;obtain⟨e2,h⟩:=MZ (by simpa using e) (fun A hA B hB=>hf A (aC _ hA) B (aC _ hB)) h
  exact⟨by rw[e1,e2],h⟩
theorem FL{x:Hs}:∀(m:Nat) {l l':List Pr} {r r':List UInt8},Fit l→Fit l'→l.length≤60000→l'.length≤60000→bO l→bO l'→fG x m l++r=fG x m l'++r'→l=l'∧r=r'
 |0,l,l',r,r',hf,hf',hn,hn',_,_,h=>by
  unfold fG at h;rw[cK,cK,au,au]at h;obtain⟨e,h⟩:=vD (k:=2) (by omega) (by omega) (fe.inj h).2;exact Ai hf hf' e h
 |m+1,l,l',r,r',hf,hf',hn,hn',hr,hr',h=>by
  unfold fG at h;simp only[cK,au]at h;obtain⟨b1,h⟩:=vD (k:=4) (m5 _ 32) (m5 _ 32) (fe.inj h).2;obtain⟨b2,h⟩:=vD (k:=4) (m5 _ 32) (m5 _ 32) h;have bits:∀{q q':Nat→Bool},jX q 32=jX q' 32→∀c,c<32→q c=q' c:=fun{q q'} e c hc=>by
   have:=congrArg (fun n=>n.testBit c) e
   simp only[Dz,decide_eq_true hc,Bool.true_and]at this;exact this
  have b1:=bits b1;have b2:=bits b2;obtain⟨e1,h⟩:=Ai (fun p hp=>hf p (sO hp)) (fun p hp=>hf' p (sO hp)) (Fh 32 b1) h
  obtain⟨e2,h⟩:=MZ (Fh 32 b2) (fun L hL L' hL' r r' e=>by
   obtain⟨_,c,rfl⟩:=pk hL
   obtain⟨_,c',rfl⟩:=pk hL'
   exact FL m hf.part hf'.part (bh lZ hn) (bh lZ hn') (je hr) (je hr') e) h
  have s1:=Gu 32 b1 e1;have s2:=Gu 32 b2 e2;exact⟨Mv hr hr' fun c hc=>RF (s1 c hc) (s2 c hc),h⟩
end Go.Proofs
namespace Go.Proofs
open Go Go.Lift
def EO(lab:ByteArray)(has:Bool)(val:ByteArray)(s:SliceV)(ow:Option Addr):Array Value:= #[.string lab,.bool has,.string val,sv s,.pointer ow]
theorem vw{w:Option ByteArray}{val:ByteArray}(h:val=w.getD ⟨#[]⟩):∀v,w=some v→val=v:=fun v e=>by rw[h,e];rfl
def RxF(W:Nat→Prop)(h:ae):Fo→List (Option Addr)→Prop
 | .nil,ks=>ks= []
 | .cons lab w kids rest,ks=>∃b sl val s ow ks1 ks',ks=some ⟨b,0,none⟩::ks'∧sl.data.toList=lab∧h[b]? =some (.cells (EO sl w.isSome val s ow) cj (0,0))∧val=w.getD ⟨#[]⟩∧Sl ua 1 W h s ks1∧(s.len≤s.cap∧¬W b)∧RxF W h kids ks1∧RxF W h rest ks'
def RxN(W:Nat→Prop)(h:ae)(b:Nat)(sl:ByteArray)(w:Option ByteArray)(F:Fo):Prop:=∃val s ow ks,h[b]? =some (.cells (EO sl w.isSome val s ow) cj (0,0))∧val=w.getD ⟨#[]⟩∧Sl ua 1 W h s ks∧(s.len≤s.cap∧¬W b)∧RxF W h F ks
def Kid(W:Nat→Prop)(h:ae)(k:Option Addr)(n:Bn):Prop:=∃b sl,k=some ⟨b,0,none⟩∧sl.data.toList=n.1∧RxN W h b sl n.2.1 n.2.2
def RxL(W:Nat→Prop)(h:ae)(ks:List (Option Addr))(L:List Bn):Prop:=ks.length=L.length∧∀p∈ks.zip L,Kid W h p.1 p.2
theorem oM{W:Nat→Prop}{h:ae}:∀{F:Fo} {ks:List (Option Addr)},RxF W h F ks↔RxL W h ks F.toL
 | .nil,ks=>by
  unfold RxF RxL;simp[Fo.toL]
 | .cons lab w kids rest,ks=>by
  unfold RxF RxL;rw[Fo.toL_cons];constructor
  ·rintro⟨b,sl,val,s,ow,ks1,ks',rfl,e1,e2,e3,e4,e5,e6,e7⟩
   obtain⟨e8,e9⟩:=oM.1 e7;refine⟨by simp[e8],fun p hp=>?_⟩
   rw[j1]at hp;rcases aB.1 hp with rfl|hp
   ·exact⟨b,sl,rfl,e1,val,s,ow,ks1,e2,e3,e4,e5,e6⟩
   ·exact e9 p hp
  ·cases ks with
   |nil=>rintro⟨e,_⟩;simp at e
   |cons k ks'=>
    rintro⟨e,hp⟩;rw[j1]at hp;obtain⟨b,sl,e0,e1,val,s,ow,ks1,e2,e3,e4,e5,e6⟩:=hp _ (av ..);refine⟨b,sl,val,s,ow,ks1,ks',by rw[←e0],e1,e2,e3,e4,e5,e6,oM.2 ⟨by simpa using e,fun p hp'=>hp p (aC _ hp')⟩⟩
theorem RxF.upd0{W:Nat→Prop}{h h':ae}(k:Upd No h h'):∀{F:Fo} {ks:List (Option Addr)},RxF W h F ks→RxF W h' F ks
 | .nil,_,r=>r
 | .cons _ _ _ _,_,⟨b,sl,val,s,ow,ks1,ks',e0,e1,e2,e3,e4,e5,e6,e7⟩=>⟨b,sl,val,s,ow,ks1,ks',e0,e1,k.get0 e2,e3,e4.upd k fun _ h=>h.elim,e5,RxF.upd0 k e6,RxF.upd0 k e7⟩
theorem RxN.upd0{W:Nat→Prop}{h h':ae}(k:Upd No h h'){b:Nat}{sl:ByteArray}{w:Option ByteArray}{F:Fo}:RxN W h b sl w F→RxN W h' b sl w F
 |⟨val,s,ow,ks,e2,e3,e4,e5,e6⟩=>⟨val,s,ow,ks,k.get0 e2,e3,e4.upd k fun _ h=>h.elim,e5,RxF.upd0 k e6⟩
theorem Kid.upd0{W:Nat→Prop}{h h':ae}(k:Upd No h h'){a:Option Addr}{n:Bn}:Kid W h a n→Kid W h' a n
 |⟨b,sl,e1,e2,e3⟩=>⟨b,sl,e1,e2,e3.upd0 k⟩
theorem RxF.less{W W':Nat→Prop}{h:ae}(hm:∀b,W' b→W b∨h.size≤b):∀{F:Fo} {ks:List (Option Addr)},RxF W h F ks→RxF W' h F ks
 | .nil,_,r=>r
 | .cons _ _ _ _,_,⟨b,sl,val,s,ow,ks1,ks',e0,e1,e2,e3,e4,e5,e6,e7⟩=>⟨b,sl,val,s,ow,ks1,ks',e0,e1,e2,e3,e4.less hm,⟨e5.1,fun hx=>(hm _ hx).elim e5.2 fun h=>by have:=aZ e2;omega⟩,RxF.less hm e6,RxF.less hm e7⟩
theorem RxN.less{W W':Nat→Prop}{h:ae}(hm:∀b,W' b→W b∨h.size≤b){b:Nat}{sl:ByteArray}{w:Option ByteArray}{F:Fo}:RxN W h b sl w F→RxN W' h b sl w F
 |⟨val,s,ow,ks,e2,e3,e4,e5,e6⟩=>⟨val,s,ow,ks,e2,e3,e4.less hm,⟨e5.1,fun hx=>(hm _ hx).elim e5.2 fun h=>by have:=aZ e2;omega⟩,RxF.less hm e6⟩
theorem RxF.updM{W M:Nat→Prop}{h h':ae}(k:Upd M h h')(hm:∀b,M b→W b∨h.size≤b):∀{F:Fo} {ks:List (Option Addr)},RxF W h F ks→RxF W h' F ks
 | .nil,_,r=>r
 | .cons _ _ _ _,_,⟨b,sl,val,s,ow,ks1,ks',e0,e1,e2,e3,e4,e5,e6,e7⟩=>⟨b,sl,val,s,ow,ks1,ks',e0,e1,k.get e2 (fun hx=>(hm _ hx).elim e5.2 fun h=>by have:=aZ e2;omega),e3,e4.upd k hm,e5,RxF.updM k hm e6,RxF.updM k hm e7⟩
theorem RxN.updM{W M:Nat→Prop}{h h':ae}(k:Upd M h h')(hm:∀b,M b→W b∨h.size≤b){b:Nat}{sl:ByteArray}{w:Option ByteArray}{F:Fo}:RxN W h b sl w F→RxN W h' b sl w F
 |⟨val,s,ow,ks,e2,e3,e4,e5,e6⟩=>⟨val,s,ow,ks,k.get e2 (fun hx=>(hm _ hx).elim e5.2 fun h=>by have:=aZ e2;omega),e3,e4.upd k hm,e5,RxF.updM k hm e6⟩
theorem RxL.upd0{W:Nat→Prop}{h h':ae}(k:Upd No h h'){ks:List (Option Addr)}{L:List Bn}(r:RxL W h ks L):RxL W h' ks L:=⟨r.1,fun p hp=>(r.2 p hp).upd0 k⟩
theorem RxL.app{W:Nat→Prop}{h:ae}{ks ks':List (Option Addr)}{L L':List Bn}(r:RxL W h ks L)(r':RxL W h ks' L'):RxL W h (ks++ks') (L++L'):=by
 refine⟨by rw[ac,ac,r.1,r'.1],fun p hp=>?_⟩
 rw[List.zip_append r.1]at hp;rcases bG.1 hp with hp|hp
 ·exact r.2 p hp
 ·exact r'.2 p hp
theorem RxL.one{W:Nat→Prop}{h:ae}{k:Option Addr}{n:Bn}(c:Kid W h k n):RxL W h [k] [n]:=⟨rfl,fun p hp=>by rw[j1,List.zip_nil_left]at hp;rw[List.mem_singleton.1 hp];exact c⟩
theorem RxL.take{W:Nat→Prop}{h:ae}{ks:List (Option Addr)}{L:List Bn}(r:RxL W h ks L)(i:Nat):RxL W h (ks.take i) (L.take i):=by
 refine⟨by rw[aR,aR,r.1],fun p hp=>r.2 p ?_⟩
 have:(ks.take i).zip (L.take i)=(ks.zip L).take i:=by rw[oe,oe,List.take_zipWith]
 rw[this]at hp;exact List.mem_of_mem_take hp
theorem RxL.drop{W:Nat→Prop}{h:ae}{ks:List (Option Addr)}{L:List Bn}(r:RxL W h ks L)(i:Nat):RxL W h (ks.drop i) (L.drop i):=by
 refine⟨by rw[aY,aY,r.1],fun p hp=>r.2 p ?_⟩
 have:(ks.drop i).zip (L.drop i)=(ks.zip L).drop i:=by rw[oe,oe,List.drop_zipWith]
 rw[this]at hp;exact List.mem_of_mem_drop hp
theorem RxL.ins{W:Nat→Prop}{h:ae}{ks:List (Option Addr)}{L:List Bn}(r:RxL W h ks L)(i:Nat){k:Option Addr}{n:Bn}(c:Kid W h k n):RxL W h (ks.take i++k::ks.drop i) (L.take i++n::L.drop i):=by
 have:=(r.take i).app ((RxL.one c).app (r.drop i));exact this
theorem RxL.set{W:Nat→Prop}{h:ae}{ks:List (Option Addr)}{L:List Bn}(r:RxL W h ks L){i:Nat}(hi:i<L.length){k:Option Addr}{n:Bn}(c:Kid W h k n):RxL W h (ks.set i k) (L.set i n):=by
 have:=(r.take i).app ((RxL.one c).app (r.drop (i+1)));rw[fa,fa,if_pos (by rw[r.1];exact hi),if_pos hi];exact this
theorem RxL.at{W:Nat→Prop}{h:ae}{ks:List (Option Addr)}{L:List Bn}(r:RxL W h ks L){i:Nat}(hi:i<L.length):∃b sl,ks[i]? =some (some ⟨b,0,none⟩)∧sl.data.toList=L[i].1∧RxN W h b sl L[i].2.1 L[i].2.2:=by
 have hk:i<ks.length:=by rw[r.1];exact hi
 have hz:i<(ks.zip L).length:=by rw[List.length_zip];omega
 have:=r.2 _ (bw hz);rw[List.getElem_zip]at this;obtain⟨b,sl,e1,e2,e3⟩:=this;exact⟨b,sl,by rw[List.getElem?_eq_getElem hk];exact congrArg some e1,e2,e3⟩
theorem Da:∀{L:List Bn} {c:Nat},L.Pairwise (fun m n=>hd m.1<hd n.1)→(∀n∈L,c≤hd n.1)→L= []∨c+L.length≤256
 | [],_,_,_=>.inl rfl
 |n::L,c,hp,hc=>by
  have hp:=aD.1 hp;have h0:=hc n (av ..);have h1:=Xc n.1;rcases Da (c:=hd n.1+1) hp.2 fun m hm=>hp.1 m hm with e|e
  ·rw[e];right;simp only[aI];omega
  ·right;rw[ar];omega
theorem lP{F:Fo}(h:gJ F):F.toL.length≤256:=by
 rcases Da (c:=0) (gc.1 h).1 fun _ _=>aW _ with e|e
 ·rw[e];simp
 ·omega
theorem eT{h:ae}{b i:Nat}{c:Array Value}(hb:h[b]? =some (.cells c cj (0,0))):aP h (adr ⟨b,0,none⟩ i)=c[i]?:=by rw[bX,aM];exact bq hb
theorem XE{h:ae}{b i:Nat}{c:Array Value}(hb:h[b]? =some (.cells c cj (0,0))) (hi:i<c.size):Wr h (adr ⟨b,0,none⟩ i):=by rw[bX,aM];exact ii hb hi
theorem Oi{h:ae}{b i:Nat}{c c':Array Value}{v:Value}{k:ae→Prop}(hb:h[b]? =some (.cells c cj (0,0))) (e:c.setIfInBounds i v=c') (hk:∀h',h'[b]? =some (.cells c' cj (0,0))→Upd (· =b) h h'→k h'):At (hset h (adr ⟨b,0,none⟩ i) v) k:=by
 rw[bX,aM];exact tD hb fun h' hb' hu=>hk h' (e▸hb') hu
theorem MW(s:ByteArray)(i:Nat):s[i]? =s.data.toList[i]?:=by
 rw[Array.getElem?_toList];by_cases h:i<s.size
 ·rw[getElem?_pos s i h,getElem?_pos s.data i h];rfl
 ·rw[getElem?_neg s i h,getElem?_neg s.data i h]
theorem Gr{s:ByteArray}(hs:s.data.toList≠[]):∃c:UInt8,s[0]? =some c∧c.toNat=hd s.data.toList:=by
 rw[MW];match s.data.toList,hs with
 |c::l,_=>exact⟨c,rfl,rfl⟩
theorem IV{W:Nat→Prop}{h:ae}{b:Nat}{sl:ByteArray}{w:Option ByteArray}{F:Fo}(r:RxN W h b sl w F)(hc:gJ F){c:Nat}(hc8:c<256){K:Int×Bool→ae→Prop}
  (hk:∀i ok,i≤F.toL.length→(∀j (hj:j<F.toL.length),j<i→hd F.toL[j].1<c)→(∀j (hj:j<F.toL.length),i≤j→c≤hd F.toL[j].1)→(ok=true↔∃hi:i<F.toL.length,hd F.toL[i].1=c)→K ((i:Int),ok) h):HC PG mz [.pointer (some ⟨b,0,none⟩),.int .u8 c] [.c (.int .i64),.c .bool] K h:=by
 refine Cg _ c ?_;unfold uH bR nm;obtain⟨val,s,ow,ks,hb,_,hs,hcap,hF⟩:=r;refine⟨_,rfl,s,eT (i:=3) hb,?_⟩;have hL:=oM.1 hF;have hcan:=gc.1 hc;have hn:=lP hc;have hlen:=hs.len;rw[hL.1]at hlen;generalize hLe:F.toL=L at hL hcan hn hlen hk;refine ir s c _ ?_;unfold eI bM cB cr Kk
 have cmp:∀{i:Nat} (hi:i<L.length) {K:Int→ae→Prop},K ((hd L[i].1:Int)-(c:Int)) h→∃a,s.a=some a∧∃v,aP h (adr a (i*1))=some (.pointer v)∧HV PG (.func (.func nY) #[] #[]) [.pointer v,.int .u8 c] [.c (.int .i64)] K h:=by
  intro i hi K hk;obtain⟨kb,ksl,hki,hkl,hkn⟩:=hL.at hi;obtain⟨a,ha,_,hv⟩:=hs.at0 hki;refine⟨a,ha,_,hv,HV.mk' (y8 (some ⟨kb,0,none⟩) c ?_)⟩;unfold si aO;obtain⟨kval,kss,kow,kks,hkb,_⟩:=hkn;have hne:ksl.data.toList≠[]:=by rw[hkl];exact(hcan.2 _ (bw hi)).1
  obtain⟨u,hu,hue⟩:=Gr hne;refine⟨_,rfl,ksl,eT (i:=0) hkb,u,Int.le_refl _,hu,?_⟩;simp only[Bd];have hlt:=Xc L[i].1;rw[hue,hkl,gD (x:=(hd L[i].1:Int)) (by omega),gD (x:=(c:Int)) (by omega),gD (by omega)];exact hk
 have mono:∀i j (hi:i<L.length) (hj:j<L.length),i<j→hd L[i].1<hd L[j].1:=fun i j hi hj hij=>cA.1 hcan.1 i j hi hj hij
 refine LoopP.ghost (fun(g:Nat×Nat) (t:Int×Int) h'=>t.1=(g.1:Int)∧t.2=(g.2:Int)∧g.1≤g.2∧g.2≤L.length∧h'=h∧(∀j (hj:j<L.length),j<g.1→hd L[j].1<c)∧(∀j (hj:j<L.length),g.2≤j→c≤hd L[j].1)) (fun g=>g.2-g.1) (0,L.length)
  ⟨rfl,by simp only;omega,by simp,by simp,rfl,fun j hj h=>by omega,fun j hj h=>by simp only at h;omega⟩ ?_
 rintro I ⟨i,j⟩ ⟨ti,tj⟩ h' ⟨e1,e2,hij,hjl,rfl,hlo,hhi⟩ hI;simp only at e1 e2 hij hjl hlo hhi;subst e1 e2;refine az (fun hlt=>?_) fun hge=>?_
 ·have hlt:i<j:=by have:(i:Int)<(j:Int):=hlt;omega
  have em:IntKind.wrap .i64 (dY (IntKind.wrap .u64 (IntKind.wrap .i64 ((i:Int)+(j:Int)))) (2^(min (1:Int).toNat (IntKind.bits .u64))))=(((i+j)/2:Nat):Int):=by
   have e3:(2^(min (1:Int).toNat (IntKind.bits .u64)):Int)=2:=rfl;rw[e3,gD (x:=(i:Int)+(j:Int)) (by omega),Go.IntWalk.u64_in _ (by omega),Int.fdiv_eq_ediv_of_nonneg _ (by omega),gD (by omega)];omega
  refine⟨by decide,?_⟩;simp only[Bd];rw[em];generalize hm:(i+j)/2=m;have hml:m<L.length:=by omega
  refine⟨by omega,?_⟩;refine cmp hml ?_;refine az (fun hneg=>?_) fun hpos=>?_
  ·refine hI (m+1,j) _ _ ⟨by simp only;rw[gD (by omega)];omega,rfl,by simp only;omega,hjl,rfl,fun q hq hqm=>?_,hhi⟩ (by simp only;omega)
   simp only at hqm;rcases bT q m with h|h
   ·have:=mono q m hq hml h;omega
   ·have:q=m:=by omega
    subst this;omega
  ·refine hI (i,m) _ _ ⟨rfl,rfl,by simp only;omega,by simp only;omega,rfl,hlo,fun q hq hqm=>?_⟩ (by simp only;omega)
   simp only at hqm;rcases bT m q with h|h
   ·have:=mono m q hml hq h;omega
   ·have:q=m:=by omega
    subst this;omega
 ·have hij:i=j:=by have:¬(i:Int)<(j:Int):=hge;omega
  subst hij;refine az (fun hlt=>?_) fun hnl=>?_
  ·have hil:i<L.length:=by have:(i:Int)<(s.len:Int):=hlt;omega
   refine⟨by simp only;omega,?_⟩;refine cmp hil ?_;refine hk i _ hjl hlo hhi ?_;rw[beq_iff_eq];exact⟨fun h=>⟨hil,by omega⟩,fun⟨_,h⟩=>by omega⟩
  ·have hil:i=L.length:=by have:¬(i:Int)<(s.len:Int):=hnl;omega
   exact hk i false hjl hlo hhi ⟨fun h=>(by cases h),fun h=>(by obtain⟨h,_⟩:=h;omega)⟩
end Go.Proofs
namespace Go.Proofs
open Go Go.Lift
theorem Mc{b:Nat}{h:ae}{K:Bool→ae→Prop}(hk:K false h):HC PG oZ [.pointer (some ⟨b,0,none⟩),.pointer none] [.c .bool] K h:=by
 refine AQ _ none ?_;unfold tP rX;exact ay.2 (xT (aj.2 hk))
abbrev W3:List Value:= [.string (⟨#[]⟩:ByteArray),.bool false,.string (⟨#[]⟩:ByteArray),.slice none 0 0,.pointer none]
theorem vv{W:Nat→Prop}{h:ae}{b:Nat}{sl val:ByteArray}{has:Bool}{s:SliceV}{ow:Option Addr}{ks:List (Option Addr)}(hb:h[b]? =some (.cells (EO sl has val s ow) cj (0,0))) (hs:Sl ua 1 W h s ks) (hn:ks.length≤256) {K:Option Addr→ae→Prop}
  (hk:∀h' s',h'[h.size]? =some (.cells (EO sl has val s' none) cj (0,0))→OwnS ua 1 cf (fun x=>h.size<x∧x<h'.size) h' s' ks→Upd No h h'→K (some ⟨h.size,0,none⟩) h'):
  HC PG gr [.pointer (some ⟨b,0,none⟩),.pointer none] [.c .ptr] K h:=by
 refine DI _ none ?_;unfold wa rX bR nv aO dS cP LN sr Yn;refine Mc (aj.2 ?_);refine⟨_,rfl,sl,eT (i:=0) hb,has,eT (i:=1) hb,val,eT (i:=2) hb,s,eT (i:=3) hb,ow,eT (i:=4) hb,bE ?_⟩;have k1:=Upd.hnew No h W3 cj;have b1:=cq h W3 cj;simp only[cV h];generalize hnew h [.string (⟨#[]⟩:ByteArray),.bool false,.string (⟨#[]⟩:ByteArray),.slice none 0 0,.pointer none] cj=h1 at k1 b1
 refine cO (c:=W3) (vs:= [.string sl,.bool has,.string val,.slice s.a s.len s.cap,.pointer ow]) b1 rfl fun h2 b2 hu2=>?_
 have k2:Upd No h h2:=k1.trans hu2 fun x hx=>.inr (fj hx.symm)
 have hz2:h.size<h2.size:=aZ b2;have hb2:=k2.get0 hb;refine⟨_,rfl,s,eT (i:=3) hb2,?_⟩;refine JP (hs.upd k2 fun _ h=>h.elim) (by omega) fun s3 h3 ho3 hu3=>?_
 have b3:h3[h.size]? =some (.cells (EO sl has val s ow) cj (0,0)):=hu3.get0 b2;refine⟨XE (i:=3) b3 (show 3<5 by decide),Oi (i:=3) (c':=EO sl has val s3 ow) b3 rfl fun h4 b4 hu4=>?_⟩
 refine⟨XE (i:=4) b4 (show 4<5 by decide),Oi (i:=4) (c':=EO sl has val s3 none) b4 rfl fun h5 b5 hu5=>?_⟩
 refine xT (aj.2 ?_);have hu35:=hu4.tr hu5;have z5:=hu35.size;have ho3':=(ho3.within.upd hu35 fun x hx e=>by have e:x=h.size:=e;have:=hx.1;omega).more (M':=fun x=>h.size<x∧x<h5.size) fun x hx=>⟨by have:=hx.1;omega,by have:=hx.2;omega⟩
 exact hk h5 s3 b5 ho3' ((k2.tr hu3).trans hu35 fun x hx=>.inr (fj hx.symm))
theorem Ae{h:ae}{b:Nat}{sl nl:ByteArray}{has:Bool}{val:ByteArray}{s:SliceV}{ow:Option Addr}(hb:h[b]? =some (.cells (EO sl has val s ow) cj (0,0))) {K:Option Addr→ae→Prop}
  (hk:∀h',h'[b]? =some (.cells (EO nl has val s ow) cj (0,0))→Upd (· =b) h h'→K (some ⟨b,0,none⟩) h'):HC PG jV [.pointer (some ⟨b,0,none⟩),.string nl] [.c .ptr] K h:=by
 refine AP _ nl ?_;unfold tO dS;exact⟨_,rfl,XE (i:=0) hb (show 0<5 by decide),Oi (i:=0) (c':=EO nl has val s ow) hb rfl hk⟩
theorem D5{h:ae}{b:Nat}{sl v:ByteArray}{has:Bool}{val:ByteArray}{s:SliceV}{ow:Option Addr}(hb:h[b]? =some (.cells (EO sl has val s ow) cj (0,0))) {K:Option Addr→ae→Prop}
  (hk:∀h',h'[b]? =some (.cells (EO sl true v s ow) cj (0,0))→Upd (· =b) h h'→K (some ⟨b,0,none⟩) h'):HC PG kU [.pointer (some ⟨b,0,none⟩),.string v] [.c .ptr] K h:=by
 refine y6 _ v ?_;unfold sd dS;exact⟨_,rfl,XE (i:=1) hb (show 1<5 by decide),Oi (i:=1) (c':=EO sl true val s ow) hb rfl fun h1 b1 hu1=>⟨_,rfl,XE (i:=2) b1 (show 2<5 by decide),Oi (i:=2) (c':=EO sl true v s ow) b1 rfl fun h2 b2 hu2=>hk h2 b2 (hu1.tr hu2)⟩⟩
theorem Of{h:ae}{k v:ByteArray}{K:Option Addr→ae→Prop}(hk:∀h' b s,h'[b]? =some (.cells (EO k true v s none) cj (0,0))→s.len=0→s.len≤s.cap→h.size≤b→Upd No h h'→K (some ⟨b,0,none⟩) h'):HC PG vd [.pointer none,.string k,.string v] [.c .ptr] K h:=by
 refine Ip none k v ?_;unfold zI A0 LN sr;have k1:=Upd.hnew No h W3 cj;have b1:=cq h W3 cj;refine bE ?_;simp only[cV h];generalize hnew h [.string (⟨#[]⟩:ByteArray),.bool false,.string (⟨#[]⟩:ByteArray),.slice none 0 0,.pointer none] cj=h1 at k1 b1;refine vv (W:=No) (ks:= []) (sl:=⟨#[]⟩) (val:=⟨#[]⟩) (has:=false) (s:=⟨none,0,0⟩) (ow:=none) b1 (Sl.nil rH) (aW _) fun h2 s b2 ho2 hu2=>?_
 refine Ae (nl:=k) b2 fun h3 b3 hu3=>D5 (v:=v) b3 fun h4 b4 hu4=>?_
 have hu24:=hu3.tr hu4;have z:=hu2.size;have z2:=k1.size;refine hk h4 h1.size s b4 ho2.len ho2.cap z2 ((k1.tr hu2).trans hu24 fun x hx=>.inr (by have hx:x=h1.size:=hx;omega))
theorem YQ{W:Nat→Prop}{h:ae}{b:Nat}{k v:ByteArray}{s:SliceV}{ow:Option Addr}(hb:h[b]? =some (.cells (EO k true v s ow) cj (0,0))) (h0:s.len=0) (hc:s.len≤s.cap) (nw:¬W b):RxN W h b k (some v) .nil:=
 ⟨v,s,ow,[],hb,rfl,⟨h0,rH,fun h=>absurd rfl h⟩,⟨hc,nw⟩,rfl⟩
theorem BP(s:ByteArray)(c:Nat):(s.extract 0 c).data.toList=s.data.toList.take c:=by
 rw[qk,Array.toList_extract,hJ];simp
theorem BQ(s:ByteArray)(c:Nat):(s.extract c s.size).data.toList=s.data.toList.drop c:=by
 rw[qk,Array.toList_extract,hJ,List.take_of_length_le];rw[aY];simp
theorem Oe{W:Nat→Prop}{h:ae}{b:Nat}{sl:ByteArray}{w:Option ByteArray}{F:Fo}(r:RxN W h b sl w F)(hW:∀y,W y→y<h.size)(hn:F.toL.length≤256){c:Nat}(hc:c≤sl.size){K:Option Addr→ae→Prop}
  (hk:∀h' b',RxN W h' b' (sl.extract 0 c) none (.cons (sl.data.toList.drop c) w F .nil)→Upd No h h'→K (some ⟨b',0,none⟩) h'):HC PG oY [.pointer (some ⟨b,0,none⟩),.pointer none,.int .i64 c] [.c .ptr] K h:=by
 refine AN _ none c ?_;unfold tM aO dS A0 LN sr;obtain⟨val,s,ow,ks,hb,hv,hs,hcap,hF⟩:=r;have lab:∀{h'},Upd No h h'→aP h' (adr ⟨b,0,none⟩ 0)=some (.string sl):=fun k=>eT (i:=0) (k.get0 hb)
 have r0:=Upd.refl No h;refine⟨_,rfl,sl,lab r0,⟨by omega,by omega⟩,bE ?_⟩
 have k1:=Upd.hnew No h W3 cj;have b1:=cq h W3 cj;simp only[cV h];generalize hnew h [.string (⟨#[]⟩:ByteArray),.bool false,.string (⟨#[]⟩:ByteArray),.slice none 0 0,.pointer none] cj=h1 at k1 b1;refine⟨lab k1,?_⟩;refine vv (W:=No) (ks:= []) (sl:=⟨#[]⟩) (val:=⟨#[]⟩) (has:=false) (s:=⟨none,0,0⟩) (ow:=none) b1 (Sl.nil rH) (aW _) fun h2 s2 b2 _ hu2=>⟨lab (k1.tr hu2),?_⟩
 rw[aV];refine Ae b2 fun h3 b3 hu3=>?_
 have z1:=k1.size;have hu03:Upd No h h3:=(k1.tr hu2).trans hu3 fun x hx=>.inr (by have hx:x=h1.size:=hx;omega)
 refine vv (hu03.get0 hb) (hs.upd hu03 fun _ h=>h.elim) (by rw[(oM.1 hF).1];exact hn) fun h4 s4 b4 ho4 hu4=>?_
 refine⟨_,rfl,sl,eT (i:=0) b4,⟨by omega,by omega⟩,?_⟩
 refine Ae (nl:=sl.extract c sl.size) b4 fun h5 b5 hu5=>?_
 have hu05:Upd No h h5:=(hu03.tr hu4).trans hu5 fun x hx=>.inr (by have hx:x=h3.size:=hx;have:=hu03.size;omega)
 have ho5:=ho4.upd hu5 fun x hx e=>by have e:x=h3.size:=e;have:=hx.1;omega
 have hb3:=aZ b3;have b35:h5[h1.size]? =some (.cells (EO (sl.extract 0 c) false ⟨#[]⟩ s2 none) cj (0,0)):=hu5.get (hu4.get0 b3) (by show ¬h1.size=h3.size;omega);have k6:=Upd.hnew No h5 [.pointer (some ⟨h3.size,0,none⟩)] cf;have b6:=cq h5 [.pointer (some ⟨h3.size,0,none⟩)] cf;have hz5:=hu05.size;have hz3:=hu03.size;refine bE ?_;simp only[cV h5]
 generalize hnew h5 [.pointer (some ⟨h3.size,0,none⟩)] cf=h6 at k6 b6;have b36:=k6.get0 b35;have hlt1:=aZ b35;refine⟨_,rfl,XE (i:=3) b36 (show 3<5 by decide),Oi (i:=3) (c':=EO (sl.extract 0 c) false ⟨#[]⟩ ⟨some ⟨h5.size,0,none⟩,1,1⟩ none) b36 rfl fun h7 b7 hu7=>?_⟩
 have hu07:Upd No h h7:=(hu05.tr k6).trans hu7 fun x hx=>.inr (by have hx:x=h1.size:=hx;omega)
 have b67:h7[h5.size]? =some (.cells #[.pointer (some ⟨h3.size,0,none⟩)] cf (0,0)):=hu7.get b6 (by show ¬h5.size=h1.size;omega);have b57:=hu7.get (k6.get0 b5) (by show ¬h3.size=h1.size;omega);have ho7:=(ho5.upd k6 fun _ _ h=>h).upd hu7 fun x hx e=>by have e:x=h1.size:=e;have:=hx.1;omega
 refine hk h7 h1.size ⟨⟨#[]⟩,_,none,[some ⟨h3.size,0,none⟩],b7,rfl,⟨rfl,rH,fun _=>⟨_,rfl,(fun hx=>by have hx:W h5.size:=hx;have:=hW _ hx;omega),ng b67 fun i v hi=>?_⟩⟩,⟨aq _,fun hx=>by have:=hW _ hx;omega⟩,?_⟩ hu07
 ·rw[aM]
  rw[←List.getElem?_toArray]at hi;exact hi
 ·refine⟨h3.size,sl.extract c sl.size,val,s4,none,ks,[],rfl,BQ ..,b57,hv,ho7.sl (fun x hx _ hw=>by have:=hW _ hw;have:=hx.1;omega),⟨ho7.cap,fun hx=>by have:=hW _ hx;omega⟩,RxF.upd0 hu07 hF,rfl⟩
end Go.Proofs
namespace Go.Proofs
open Go Go.Lift
theorem JN:∀{x y:List UInt8} {i:Nat},i≤x.length→i≤y.length→(∀j,j<i→x[j]? =y[j]?)→(i=x.length∨i=y.length∨x[i]?≠y[i]?)→cm x y=i
 | [],_,i,h1,_,_,_=>by simp at h1;simp[cm,h1]
 |_::_,[],i,_,h2,_,_=>by simp at h2;simp[cm,h2]
 |a::x,b::y,0,_,_,_,h=>by
  unfold cm;rw[if_neg];rintro rfl;rcases h with h|h|h<;>simp at h
 |a::x,b::y,i+1,h1,h2,h3,h4=>by
  have:=h3 0 (by omega);simp only[List.getElem?_cons_zero,bK.injEq]at this;unfold cm;rw[if_pos this,JN (i:=i) (by simpa using h1) (by simpa using h2) (fun j hj=>by simpa using h3 (j+1) (by omega)) (by simpa using h4)]
theorem SD{a b:ByteArray}(ha:a.size≤1000000){h:ae}{K:Int→ae→Prop}(hk:K (cm a.data.toList b.data.toList:Nat) h):HC PG uZ [.string a,.string b] [.c (.int .i64)] K h:=by
 refine Ii a b ?_;unfold zD;simp only[Bd];have hmin:(if(b.size:Int)<(a.size:Int)then(b.size:Int)else(a.size:Int))=((min a.size b.size:Nat):Int):=by split<;>omega
 rw[hmin];have la:a.data.toList.length=a.size:=by simp
 have lb:b.data.toList.length=b.size:=by simp
 refine LoopP.ghost (fun(i:Nat) (t:Int) h'=>t=(i:Int)∧i≤min a.size b.size∧h'=h∧∀j,j<i→a.data.toList[j]? =b.data.toList[j]?) (fun i=>min a.size b.size-i) 0 ⟨rfl,aW _,rfl,fun j hj=>absurd hj (kq _)⟩ ?_
 rintro I i t h' ⟨rfl,hi,rfl,he⟩ hI;refine az (fun hlt=>?_) fun hge=>?_
 ·have hlt:i<min a.size b.size:=by omega
  have hia:i<a.size:=by omega
  have hib:i<b.size:=by omega
  refine⟨a[i],by omega,by rw[aV,getElem?_pos a i hia],b[i],by omega,by rw[aV,getElem?_pos b i hib],?_⟩
  have e1:a.data.toList[i]? =some a[i]:=by rw[←MW,getElem?_pos a i hia]
  have e2:b.data.toList[i]? =some b[i]:=by rw[←MW,getElem?_pos b i hib]
  refine CondP.intro (fun hne=>?_) fun heq=>?_
  ·rw[JN (i:=i) (by omega) (by omega) he (.inr (.inr fun e=>?_))]at hk
   ·exact hk
   ·rw[e1,e2]at e
    rw[bK.inj e]at hne;simp at hne
  ·have heq:a[i]=b[i]:=by
    have:((a[i].toNat:Int))=(b[i].toNat:Int):=by simpa using heq
    exact UInt8.toNat_inj.1 (by omega)
   rw[cS hlt (by omega)];refine hI (i+1) _ _ ⟨rfl,hlt,rfl,fun j hj=>?_⟩ (by omega)
   rcases bT j i with hl|hl
   ·exact he j hl
   ·have:j=i:=by omega
    subst this;rw[e1,e2,heq]
 ·have hii:i=min a.size b.size:=by omega
  rw[JN (i:=i) (by omega) (by omega) he (by omega)]at hk;rw[←hii];exact hk
theorem RW{F:Fo}{i:Nat}{k:List UInt8}{v:ByteArray}(h:gJ F)(hi:i<F.toL.length)(ek:hd F.toL[i].1=hd k)(hp:vj (AI F.toL[i]) (AI F.toL[i]) k v):vj (vO F) (vO F) k v:=by
 have:=Mr h hi ek hp;rw[List.set_getElem_self,Fo.of_to]at this;exact this
theorem T4{P Q P':List UInt8→ByteArray→Prop}{k:List UInt8}{v:ByteArray}(h:vj P P' k v)(e:∀k v,P k v↔Q k v):vj Q P' k v:=fun k' v'=>by rw[h k' v',e]
set_option maxHeartbeats 1000000 in
theorem TN{W:Nat→Prop}:∀(n:Nat) {b:Nat} {sl:ByteArray} {w:Option ByteArray} {F:Fo} {h:ae} (k v:ByteArray),k.size<n→k.size≤1000000→RxN W h b sl w F→(∀y,W y→y<h.size)→gJ F→∀{K:(Option Addr)×Bool×Bool→ae→Prop},
  (∀h' b' w' F' added ch,Upd No h h'→RxN W h' b' sl w' F'→gJ F'→vj (xz w F) (xz w' F') k.data.toList v→(ch=false→b'=b∧w'=w∧F'=F)→(xz w F k.data.toList v→ch=false)→K (some ⟨b',0,none⟩,added,ch) h')→
  HC PG nu [.pointer (some ⟨b,0,none⟩),.pointer none,.string k,.string v] [.c .ptr,.c .bool,.c .bool] K h:=by
 intro n;induction n with
 |zero=>intro b sl w F h k v hk;omega
 |succ n ih=>
  intro b sl w F h k v hkn hk6 r hW hc K hk;refine DH (some ⟨b,0,none⟩) none k v ?_;unfold vZ bM cB bR aO ij cr dS A0 nm cP Tq ui Kk sr Xn Tp;have hr:=r;obtain⟨val,s,ow,ks,hb,hv,hs,hcap,hF⟩:=r;have hL:=oM.1 hF;have hn:=lP hc;have hcan:=gc.1 hc;rw[gd];refine az (fun hk0=>?_) fun hk0=>?_
  ·have hke:k.data.toList= []:=by rw[hk0]
   rw[hke]at hk;refine Join.intro (fun t h'=>t=decide (w=some v)∧h'=h) (fun R hR=>⟨_,rfl,w.isSome,eT (i:=1) hb,?_⟩) ?_
   ·cases hw:w with
    |none=>exact aj.2 (hR _ _ ⟨by rw[hw];rfl,rfl⟩)
    |some u=>
     refine ay.2 ⟨_,rfl,val,eT (i:=2) hb,hR _ _ ⟨?_,rfl⟩⟩;rw[gd,vw hv u hw,hw];exact decide_eq_decide.2 ⟨fun e=>by rw[e],fun e=>bK.inj e⟩
   ·rintro t h' ⟨rfl,rfl⟩
    refine az (fun e=>?_) fun e=>?_
    ·refine hk h' b w F false false (Upd.refl _ _) hr hc ?_ (fun _=>⟨rfl,rfl,rfl⟩) fun _=>rfl
     rw[e];exact Jc hc v
    ·refine⟨_,rfl,w.isSome,eT (i:=1) hb,?_⟩
     refine vv hb hs (by rw[hL.1];exact hn) fun h1 s1 b1 ho1 hu1=>?_
     refine⟨eT (i:=1) (hu1.get0 hb),?_⟩;refine D5 b1 fun h2 b2 hu2=>?_
     have hu02:Upd No h' h2:=hu1.trans hu2 fun x hx=>.inr (fj (Eq.symm hx))
     refine⟨eT (i:=1) (hu02.get0 hb),?_⟩;have ho2:=ho1.upd hu2 fun x hx e=>by have e:x=h'.size:=e;have:=hx.1;omega
     refine hk h2 h'.size (some v) F _ true hu02 ⟨v,s1,none,ks,b2,rfl,ho2.sl (fun x hx _ hw=>by have:=hW _ hw;have:=hx.1;omega),⟨ho2.cap,fun hx=>qZ _ (hW _ hx)⟩,RxF.upd0 hu02 hF⟩ hc (Jc hc v) (fun h=>by cases h) fun hin=>?_
     rcases hin with⟨_,h⟩|h
     ·exact absurd h e
     ·exact absurd rfl (qA hc h)
  ·have hkne:k.data.toList≠[]:=fun e=>hk0 (by cases k;exact congrArg nQ (ll.1 e))
   obtain⟨c0,hc0,hc0e⟩:=Gr hkne;refine⟨c0,Int.le_refl _,hc0,?_⟩;have hlk:k.data.toList.length=k.size:=by simp
   refine IV hr hc (c:=c0.toNat) (UInt8.toNat_lt _) fun i ok hil hlo hhi hok=>?_
   rw[hc0e]at hlo hhi hok;cases ok with
   |false=>
    have hno:∀hi:i<F.toL.length,hd F.toL[i].1≠hd k.data.toList:=fun hi e=>by have:=hok.2 ⟨hi,e⟩;cases this
    have hhi':∀j (hj:j<F.toL.length),i≤j→hd k.data.toList<hd F.toL[j].1:=fun j hj hij=>by
     have h1:=hhi j hj hij;rcases bT i j with hl|hl
     ·have h2:=cA.1 hcan.1 i j (by omega) hj hl
      have h3:=hhi i (by omega) (aq _);omega
     ·have:i=j:=by omega
      subst this;have:=hno hj;omega
    obtain⟨hc',hp'⟩:=RY (v:=v) hc hkne hlo hhi';refine ay.2 ?_;refine vv hb hs (by rw[hL.1];exact hn) fun h1 s1 b1 ho1 hu1=>?_
    refine⟨_,rfl,s1,eT (i:=3) b1,?_⟩;refine Of fun h2 fb fs fb2 hf0 hfc hfb hu2=>⟨eT (i:=3) (hu2.get0 b1),bE ?_⟩
    have k3:=Upd.hnew No h2 [.pointer (some ⟨fb,0,none⟩)] cf;have b3:=cq h2 [.pointer (some ⟨fb,0,none⟩)] cf;have z3:(hnew h2 [.pointer (some ⟨fb,0,none⟩)] cf).size=h2.size+1:=iM ..;simp only[cV h2];generalize hnew h2 [.pointer (some ⟨fb,0,none⟩)] cf=h3 at k3 b3 z3;have hu13:=hu2.tr k3;refine⟨eT (i:=3) (hu13.get0 b1),?_⟩;have z1:=aZ b1
    have z2:=hu2.size;have zf:=aZ fb2;have ho3:=(ho1.upd hu13 fun _ _ h=>h).more (M':=fun x=>(h.size<x∧x<h1.size)∨h3.size≤x) fun x hx=>.inl hx
    refine O0 ho3 (k:=i) (by rw[hL.1];exact hil) (by rw[hL.1];omega) b3 (by rintro(h|h)<;>omega) (fun x hx=>.inr hx) fun s4 h4 ho4 hu4=>?_
    have b4:=hu4.get (hu13.get0 b1) (by rintro(h|h)<;>omega)
    have f4:=hu4.get (k3.get0 fb2) (by rintro(h|h)<;>omega)
    refine⟨_,rfl,XE (i:=3) b4 (show 3<5 by decide),Oi (i:=3) (c':=EO sl w.isSome val s4 none) b4 rfl fun h5 b5 hu5=>?_⟩
    have hu05:Upd No h h5:=((hu1.tr hu13).trans hu4 fun x hx=>.inr (by have:=hu1.size;rcases hx with hx|hx<;>omega)).trans hu5 fun x hx=>.inr (fj (Eq.symm hx))
    have ho5:=ho4.upd hu5 fun x hx e=>by have e:x=h.size:=e;rcases hx with hx|hx<;>omega
    have f5:=hu5.get f4 (by show ¬fb=h.size;omega);refine hk h5 h.size w _ true true hu05 ⟨val,s4,none,_,b5,hv,ho5.sl (fun x hx _ hw=>by have:=hW _ hw;rcases hx with hx|hx<;>omega),⟨ho5.cap,fun hx=>qZ _ (hW _ hx)⟩,oM.2 (by rw[Fo.to_of];exact(hL.upd0 hu05).ins i ⟨fb,k,rfl,rfl,YQ f5 hf0 hfc fun hx=>by have:=hW _ hx;omega⟩)⟩ hc' (Df hkne hp') (fun h=>by cases h) fun hin=>?_
    rcases hin with⟨h,_⟩|hin
    ·exact absurd h hkne
    ·obtain⟨n',hn',e,_⟩:=tc hc hin
     obtain⟨j,hj,rfl⟩:=List.getElem_of_mem hn';rcases bT j i with hl|hl
     ·have:=hlo j hj hl;omega
     ·have:=hhi' j hj hl;omega
   |true=>
    obtain⟨hi,hie⟩:=hok.1 rfl;refine aj.2 ⟨_,rfl,s,eT (i:=3) hb,?_⟩;obtain⟨kb,ksl,hki,hkl,hkn⟩:=hL.at hi;have hmem:F.toL[i]∈F.toL:=bw hi;have hcm:=hcan.2 _ hmem;obtain⟨a,ha,_,hvv⟩:=hs.at0 hki;have hslen:=hs.len;rw[hL.1]at hslen;have hlt1:(i:Int)<((s.len:Nat):Int):=by omega
    refine⟨⟨by simp only;omega,hlt1⟩,a,ha,some ⟨kb,0,none⟩,hvv,_,rfl,?_⟩;obtain⟨kval,kss,kow,kks,hkb,_⟩:=id hkn;refine⟨ksl,eT (i:=0) hkb,SD hk6 ?_⟩;rw[hkl];have hc1:=UO hkne hcm.1 hie.symm;have hcle:=Rc k.data.toList F.toL[i].1;have hct:=Ra k.data.toList F.toL[i].1;have hcd:=Lf k.data.toList F.toL[i].1;have hll:ksl.size=F.toL[i].1.length:=by rw[←hkl];simp
    have hin_m:vO F k.data.toList v→AI F.toL[i] k.data.toList v:=fun hin=>by
     obtain⟨n',hn',e,hN⟩:=tc hc hin;rw[←Fl hc hn' hmem (by omega)];exact hN
    have hset:∀{w2:Option ByteArray} {F2:Fo} {nl:List UInt8},nl≠[]→hd nl=hd F.toL[i].1→gJ F2→Br (xz w2 F2)→gJ (.ofL (F.toL.set i (nl,w2,F2))):=fun h1 h2 h3 h4=>WG hc hi ⟨h1,(GP h3).2 h4,h3⟩ h2
    have hputs:∀{m:Bn},vj (AI F.toL[i]) (AI m) k.data.toList v→vj (vO F) (vO (.ofL (F.toL.set i m))) k.data.toList v:=fun hp=>Mr hc hi hie hp
    have hsame:vj (AI F.toL[i]) (AI F.toL[i]) k.data.toList v→vj (vO F) (vO F) k.data.toList v:=RW hc hi hie;have hrset:∀{h':ae} {k':Option Addr} {m:Bn},Upd No h h'→Kid W h' k' m→RxL W h' (ks.set i k') (F.toL.set i m):=fun hu hkd=>(hL.upd0 hu).set hi hkd
    generalize F.toL[i]=m at hkl hkn hcm hc1 hcle hct hcd hll hin_m hset hputs hsame hie;generalize hcc:cm k.data.toList m.1=c at hc1 hcle hct hcd;obtain⟨lab,wk,Fk⟩:=m;simp only at hkl hkn hcm hcle hct hcd hll hie hset;refine Join.intro (fun t h'=>∃ub slu wu Fu,t=some ⟨ub,0,none⟩∧Upd No h h'∧RxN W h' ub slu wu Fu∧gJ Fu∧slu.data.toList=k.data.toList.take c∧(∀k' v',AI (slu.data.toList,wu,Fu) k' v'↔AI (lab,wk,Fk) k' v')∧(∀w' F',gJ F'→vj (xz wu Fu) (xz w' F') (k.data.toList.drop c) v→Br (xz w' F'))) (fun R hR=>⟨_,rfl,ksl,eT (i:=0) hkb,?_⟩) ?_
    ·refine az (fun hlt=>?_) fun hge=>?_
     ·have hlt:c<lab.length:=by omega
      refine Oe hkn hW (lP hcm.2.2) (c:=c) (by omega) fun h1 ub rn hu1=>hR _ _ ⟨ub,_,none,_,rfl,hu1,rn,?_,?_,?_,?_⟩
      ·rw[hkl]
       refine⟨fun e=>?_,hcm.2.1,hcm.2.2,fun _ h=>by simp[Fo.toL]at h,trivial⟩
       have:=congrArg fg e;rw[aY,aL]at this;omega
      ·rw[BP,hkl,hct]
      ·intro k' v'
       rw[BP,hkl];exact Sq c k' v'
      ·intro w' F' hcF hp
       rw[hkl]at hp;refine UW (fun e=>?_) hcm.2.1 hcm.2.2 (fun hne=>?_) hp
       ·have:=congrArg fg e
        rw[aY,aL]at this;omega
       ·refine hcd ?_ hlt
        rcases bT c k.data.toList.length with hl|hl
        ·exact hl
        ·exact absurd (List.drop_eq_nil_of_le hl) hne
     ·have hce:c=lab.length:=by omega
      refine hR _ _ ⟨kb,ksl,wk,Fk,rfl,Upd.refl _ _,hkn,hcm.2.2,?_,?_,?_⟩
      ·rw[hkl,hct,hce,cd]
      ·intro k' v';rw[hkl]
      ·intro w' F' hcF hp
       exact WJ ((GP hcm.2.2).1 hcm.2.1) hp
    ·rintro t h1 ⟨ub,slu,wu,Fu,rfl,hu1,rn,hcu,hsl,hinn,hbr⟩
     refine⟨⟨by omega,by omega⟩,?_⟩
     rw[aV];have hkd:(k.extract c k.size).data.toList=k.data.toList.drop c:=BQ ..;have hks:(k.extract c k.size).size=k.size-c:=by simp
     have hktd:k.data.toList=slu.data.toList++k.data.toList.drop c:=by rw[hsl,aK]
     have hslne:slu.data.toList≠[]:=by
      rw[hsl];intro e;have:=congrArg fg e;rw[aR,aL]at this;omega
     have hslhd:hd slu.data.toList=hd lab:=by
      rw[hie];conv=>rhs;rw[hktd]
      rw[qB hslne]
     refine ih (k.extract c k.size) v (by rw[hks];omega) (by rw[hks];omega) rn (fun y hy=>aQ (hW y hy) hu1.size) hcu fun h2 b2 w2 F2 added ch hu2 rn2 hc2 hp2 hsm hch=>?_
     rw[hkd]at hp2 hch;have hu02:=hu1.tr hu2;have hpn:vj (AI (lab,wk,Fk)) (AI (slu.data.toList,w2,F2)) k.data.toList v:=by
      have:=T4 (RX (lab:=slu.data.toList) hp2) hinn;rw[←hktd]at this;exact this
     have hchg:xz w F k.data.toList v→ch=false:=fun hin=>by
      rcases hin with⟨h,_⟩|hin
      ·exact absurd h hkne
      ·obtain⟨r,e,hr'⟩:=(hinn _ _).2 (hin_m hin)
       simp only at e;rw[hktd]at e;have e2:=List.append_cancel_left e;rw[←hktd]at e;exact hch (by rw[e2];exact hr')
     cases ch with
     |false=>
      obtain⟨_,rfl,rfl⟩:=hsm rfl;refine ay.2 (hk h2 b w F false false hu02 (hr.upd0 hu02) hc (Df hkne (hsame ?_)) (fun _=>⟨rfl,rfl,rfl⟩) fun _=>rfl)
      intro k' v';exact(hinn k' v').symm.trans (hpn k' v')
     |true=>
      refine aj.2 ?_;refine vv (hu02.get0 hb) (hs.upd hu02 fun _ h=>h.elim) (by rw[hL.1];exact hn) fun h3 s3 b3 ho3 hu3=>?_
      refine⟨_,rfl,s3,eT (i:=3) b3,?_⟩;have hil:i<ks.length:=by rw[hL.1];exact hi
      obtain⟨a3,ha3,hab,hw3,ho4,hu4⟩:=OwnS.setAt ho3 hil (some ⟨b2,0,none⟩);have hlen3:=ho3.len;refine⟨⟨by simp only;omega,by simp only;omega⟩,a3,ha3,?_⟩
      have hw1:Wr h3 (adr a3 (i*1)):=by
       rcases hw3 with hw|⟨b',hb',hw⟩
       ·cases hw
       ·cases hb';exact hw 0 (by simp)
      refine⟨hw1,bE ?_⟩;have b4:=hu4.get b3 fun e=>by have e:h2.size=a3.block:=e;have:=hab.1;omega
      have hu24:Upd No h2 _:=hu3.trans hu4 fun x hx=>.inr (by have hx:x=a3.block:=hx;have:=hab.1;omega)
      have hu04:=hu02.tr hu24;have eset:ks.set i (some ⟨b2,0,none⟩)=ks.take i++some ⟨b2,0,none⟩::ks.drop (i+1):=by rw[fa,if_pos hil]
      rw[←eset]at ho4;exact hk _ h2.size w _ added true hu04 ⟨val,s3,none,_,b4,hv,ho4.sl (fun x hx _ hw=>by have:=hW _ hw;have:=hu02.size;have:=hx.1;omega),⟨ho4.cap,fun hx=>by have:=hW _ hx;have:=hu02.size;omega⟩,oM.2 (by rw[Fo.to_of];exact hrset hu04 ⟨b2,slu,rfl,rfl,rn2.upd0 hu24⟩)⟩ (hset hslne hslhd hc2 (hbr _ _ hc2 hp2)) (Df hkne (hputs hpn)) (fun h=>by cases h) hchg
end Go.Proofs
namespace Go.Proofs
open Go Go.Lift
def y5:Fo→List (List UInt8×ByteArray)
 | .nil=> []
 | .cons lab w kids rest=>((w.map fun v=>(([]:List UInt8),v)).toList++y5 kids).map (fun p=>(lab++p.1,p.2))++y5 rest
def vz(w:Option ByteArray)(F:Fo):List (List UInt8×ByteArray):=(w.map fun v=>(([]:List UInt8),v)).toList++y5 F
theorem uh:∀{F:Fo} {k:List UInt8} {v:ByteArray},(k,v)∈y5 F↔vO F k v
 | .nil,_,_=>by simp[y5,vO]
 | .cons lab w kids rest,k,v=>by
  unfold y5 vO;rw[bG,uh (F:=rest)];refine or_congr ?_ yZ;rw[eS];constructor
  ·rintro⟨⟨r,u⟩,hm,he⟩
   simp only[p8.injEq]at he;obtain⟨rfl,rfl⟩:=he;refine⟨r,rfl,?_⟩;rcases bG.1 hm with h|h
   ·left
    rw[p9,lU]at h;obtain⟨a,ha,he⟩:=h;simp only[p8.injEq]at he;exact⟨he.1.symm,by rw[ha,he.2]⟩
   ·exact .inr (uh.1 h)
  ·rintro⟨r,rfl,h⟩
   refine⟨(r,v),bG.2 ?_,rfl⟩;rcases h with⟨rfl,h⟩|h
   ·left;rw[h];simp
   ·exact .inr (uh.2 h)
theorem mT{w:Option ByteArray}{F:Fo}{k:List UInt8}{v:ByteArray}:(k,v)∈vz w F↔xz w F k v:=by
 unfold vz xz;rw[bG,uh];refine or_congr ?_ yZ;cases w with
 |none=>simp
 |some u=>simp[Prod.ext_iff,eq_comm]
abbrev Up(l:List (List UInt8×ByteArray)):Prop:=l.Pairwise fun p q=>p.1<q.1
theorem Lm{a x y:List UInt8}(h:x<y):a++x<a++y:=by
 induction a with
 |nil=>exact h
 |cons c a ih=>exact List.Lex.cons ih
theorem MT{x y:List UInt8}(hy:y≠[])(h:hd x<hd y):x<y:=by
 match x,y,hy with
 | [],b::y,_=>exact w9
 |a::x,b::y,_=>exact List.Lex.rel (UInt8.lt_iff_toNat_lt.2 h)
theorem OA:∀{F:Fo},gJ F→Up (y5 F)
 | .nil,_=>ee
 | .cons lab w kids rest,h=>by
  unfold y5;refine cl.2 ⟨?_,OA h.2.2.2.2,?_⟩
  ·rw[kI]
   refine List.Pairwise.imp (R:=fun p q:List UInt8×ByteArray=>p.1<q.1) (fun hab=>Lm hab) ?_
   refine cl.2 ⟨?_,OA h.2.2.1,?_⟩
   ·cases w<;>simp
   ·intro a ha b hb
    have hne:b.1≠[]:=qA h.2.2.1 (uh (F:=kids).1 (show(b.1,b.2)∈_ from hb))
    have ha0:a.1= []:=by
     rw[p9,lU]at ha;obtain⟨v,_,e⟩:=ha;rw[←e]
    rw[ha0];match b.1,hne with
    |c::l,_=>exact w9
  ·intro a ha b hb
   obtain⟨p,_,rfl⟩:=eS.1 ha;obtain⟨n,hn,e,_⟩:=tc h.2.2.2.2 (uh (F:=rest).1 (show(b.1,b.2)∈_ from hb))
   have hne:b.1≠[]:=qA h.2.2.2.2 (uh (F:=rest).1 (show(b.1,b.2)∈_ from hb))
   have:=h.2.2.2.1 n hn;exact MT hne (by rw[qB h.1];omega)
theorem QF{w:Option ByteArray}{F:Fo}(h:gJ F):Up (vz w F):=by
 refine cl.2 ⟨by cases w<;>simp,OA h,?_⟩
 intro a ha b hb;have hne:b.1≠[]:=qA h (uh (F:=F).1 (show(b.1,b.2)∈_ from hb))
 have ha0:a.1= []:=by
  rw[p9,lU]at ha;obtain⟨v,_,e⟩:=ha;rw[←e]
 rw[ha0];match b.1,hne with
 |c::l,_=>exact w9
theorem Ts:∀{l l':List (List UInt8×ByteArray)},Up l→Up l'→(∀p,p∈l↔p∈l')→l=l'
 | [],[],_,_,_=>rfl
 | [],q::l',_,_,h=>absurd ((h q).2 (av ..)) (by simp)
 |p::l,[],_,_,h=>absurd ((h p).1 (av ..)) (by simp)
 |p::l,q::l',hr,hr',h=>by
  have hr:=aD.1 hr;have hr':=aD.1 hr';have e:p=q:=by
   rcases aB.1 ((h p).1 (av ..))with e|hp
   ·exact e
   ·rcases aB.1 ((h q).2 (av ..))with e|hq
    ·exact e.symm
    ·exact absurd (List.lt_trans (hr.1 q hq) (hr'.1 p hp)) (tX _)
  subst e;rw[Ts hr.2 hr'.2 fun z=>?_]
  constructor
  ·intro hz
   rcases aB.1 ((h z).1 (aC _ hz))with e|hz'
   ·exact absurd (hr.1 z hz) (by rw[e];exact tX _)
   ·exact hz'
  ·intro hz
   rcases aB.1 ((h z).2 (aC _ hz))with e|hz'
   ·exact absurd (hr'.1 z hz) (by rw[e];exact tX _)
   ·exact hz'
def Le:Fo→Nat
 | .nil=>0
 | .cons _ _ kids rest=>1+Le kids+Le rest
theorem Ld:∀{F:Fo},gJ F→Le F+F.toL.length≤2*(y5 F).length
 | .nil,_=>by simp[Le,Fo.toL]
 | .cons lab w kids rest,h=>by
  have h1:=Ld h.2.2.1;have h2:=Ld h.2.2.2.2;have h3:=h.2.1;rw[Fo.toL_cons];unfold Le y5;rw[ac,cD,ac,ar];cases w with
  |none=>
   simp only[Option.map_none,Option.toList_none,aL];have:2≤kids.toL.length:=h3.resolve_left (by simp);omega
  |some v=>simp only[Option.map_some,Option.toList_some,aI];omega
def LC:Fo→Prop
 | .nil=>True
 | .cons lab w kids rest=>lab.length≤10000∧(∀v,w=some v→v.size≤10000)∧kids.toL.length≤256∧LC kids∧LC rest
theorem O7:∀{F:Fo},gJ F→(∀k v,vO F k v→k.length≤10000∧v.size≤10000)→LC F
 | .nil,_,_=>trivial
 | .cons lab w kids rest,h,hl=>by
  obtain⟨r,v,hr⟩:=pI h _ (av ..);have h1:=(hl _ v (ju.2 ⟨_,av ..,r,rfl,hr⟩)).1;rw[ac]at h1;simp only at h1;refine⟨by omega,fun v hv=>(hl lab v (.inl ⟨[],(aJ _).symm,.inl ⟨rfl,hv⟩⟩)).2,lP h.2.2.1,O7 h.2.2.1 fun k v hk=>?_,O7 h.2.2.2.2 fun k v hk=>hl k v (.inr hk)⟩
  have:=hl (lab++k) v (.inl ⟨k,rfl,.inr hk⟩);rw[ac]at this;exact⟨by omega,this.2⟩
def uX:Option ByteArray→List UInt8
 |some v=>1::om v
 |none=> [0]
def rY(lab:List UInt8)(w:Option ByteArray)(n:Nat):List UInt8:=om ⟨lab.toArray⟩++(uX w++mW n 2)
def oV:Fo→List UInt8
 | .nil=> []
 | .cons lab w kids rest=>rY lab w kids.toL.length++(oV kids++oV rest)
def jd(n:Bn):List UInt8:=rY n.1 n.2.1 n.2.2.toL.length++oV n.2.2
theorem xI:∀F:Fo,oV F=F.toL.flatMap jd
 | .nil=>rfl
 | .cons lab w kids rest=>by
  rw[Fo.toL_cons,aN,←xI rest];show rY lab w kids.toL.length++(oV kids++oV rest)=(rY lab w kids.toL.length++oV kids)++oV rest
  rw[au]
theorem Jj{lab:List UInt8}{w:Option ByteArray}{n:Nat}(h1:lab.length≤10000)(h2:∀v,w=some v→v.size≤10000):(rY lab w n).length≤20010:=by
 unfold rY;rw[ac,ac,jI,dI];have e:(nQ lab.toArray).size=lab.length:=by simp[ByteArray.size]
 rw[e];cases w with
 |none=>simp only[uX,aI];omega
 |some v=>have:=h2 v rfl;simp only[uX,ar,jI];omega
theorem Ab:∀{F:Fo},LC F→(oV F).length≤Le F*20010
 | .nil,_=>by simp[oV]
 | .cons lab w kids rest,h=>by
  have h1:=Jj (n:=kids.toL.length) h.1 h.2.1;have h2:=Ab h.2.2.2.1;have h3:=Ab h.2.2.2.2;unfold oV Le;rw[ac,ac,jG,jG];omega
theorem Jk{lab lab':List UInt8}{w w':Option ByteArray}{n n':Nat}{r r':List UInt8}(h1:lab.length≤10000)(h1':lab'.length≤10000)(h2:∀v,w=some v→v.size≤10000)(h2':∀v,w'=some v→v.size≤10000)(hn:n≤256)(hn':n'≤256)(h:rY lab w n++r=rY lab' w' n'++r'):lab=lab'∧w=w'∧n=n'∧r=r':=by
 unfold rY at h;simp only[au]at h;have z:∀l:List UInt8,(nQ l.toArray).size=l.length:=fun l=>by simp[ByteArray.size]
 obtain⟨e1,h⟩:=yE (by rw[z];exact h1) (by rw[z];exact h1') h;have e1:lab=lab':=by
  have:=congrArg (fun b:ByteArray=>b.data.toList) e1
  simpa using this
 cases w with
 |none=>
  cases w' with
  |none=>
   simp only[uX,cK,List.nil_append,fe.injEq,true_and]at h;obtain⟨e2,h⟩:=vD (k:=2) (by omega) (by omega) h;exact⟨e1,rfl,e2,h⟩
  |some v=>simp[uX]at h
 |some v=>
  cases w' with
  |none=>simp[uX]at h
  |some v'=>
   simp only[uX,cK,fe.injEq,true_and]at h;obtain⟨e3,h⟩:=yE (h2 v rfl) (h2' v' rfl) h;obtain⟨e2,h⟩:=vD (k:=2) (by omega) (by omega) h;exact⟨e1,by rw[e3],e2,h⟩
theorem Ac:∀{F F':Fo} {r r':List UInt8},LC F→LC F'→F.toL.length=F'.toL.length→oV F++r=oV F'++r'→F=F'∧r=r'
 | .nil,.nil,_,_,_,_,_,h=>⟨rfl,h⟩
 | .nil,.cons ..,_,_,_,_,e,_=>by simp[Fo.toL]at e
 | .cons ..,.nil,_,_,_,_,e,_=>by simp[Fo.toL]at e
 | .cons lab w kids rest,.cons lab' w' kids' rest',r,r',h1,h2,e,h=>by
  unfold oV at h;simp only[au]at h;obtain⟨e1,e2,e3,h⟩:=Jk h1.1 h2.1 h1.2.1 h2.2.1 h1.2.2.1 h2.2.2.1 h;obtain⟨e4,h⟩:=Ac h1.2.2.2.1 h2.2.2.2.1 e3 h;obtain⟨e5,h⟩:=Ac h1.2.2.2.2 h2.2.2.2.2 (by rw[Fo.toL_cons,Fo.toL_cons]at e;simpa using e) h;exact⟨by rw[e1,e2,e4,e5],h⟩
end Go.Proofs
namespace Go.Proofs
open Go Go.Lift
theorem WP{M:Nat→Prop}{h:ae}{so:SliceV}{out ys:List UInt8}{vs:List Value}(hv:vs=ys.flatMap pu){n:Nat}(hn':n=ys.length){K:SliceV→ae→Prop}(ho:OwnS pu 1 cH M h so out)(hM:∀b,h.size≤b→M b)(hn:out.length+ys.length≤140737488355328)
  (hk:∀s' h',OwnS pu 1 cH M h' s' (out++ys)→Upd M h h'→K s' h'):
  ∃xs,SRow (hnew h vs cH) (some (aE h)) (n*1) xs∧AppP (some [.int .u8 0]) 1 1 cH so.a so.len so.cap n xs (hnew h vs cH) K:=by
 subst hv hn';have k:=Upd.hnew No h (ys.flatMap pu) cH;have h1:OwnS pu 1 cH (fun _=>True) (hnew h (ys.flatMap pu) cH) ⟨some (aE h),ys.length,ys.length⟩ ys:=⟨rfl,tC,aq _,.inr ⟨h.size,[],rfl,trivial,by rw[aJ];exact cq ..,by simp⟩⟩
 refine⟨_,(h1.sl (W:=No) fun _ _ _ h=>h).srow,?_⟩
 refine AppP.own (ys:=ys) (ho.upd k fun _ _ h=>h) rfl rfl (Bq _) rfl (by omega) (by omega) (hM _ (by rw[iM];omega)) fun s' h' ho' hu=>?_
 exact hk s' h' ho' ((Upd.hnew M h _ _).tr hu)
def ZC(W:Nat→Prop)(n:Bn):Prop:=∀{b:Nat} {sl:ByteArray} {h0 h:ae} {M:Nat→Prop} {s:SliceV} {xs:List UInt8},RxN W h0 b sl n.2.1 n.2.2→sl.data.toList=n.1→Upd No h0 h→(∀y,M y→h0.size≤y)→OwnS pu 1 cH M h s xs→(∀y,h.size≤y→M y)→
 xs.length+(jd n).length≤140737488355328→∀{K:SliceV→ae→Prop},(∀s' h',OwnS pu 1 cH M h' s' (xs++jd n)→Upd M h h'→K s' h')→HC PG kV [.pointer (some ⟨b,0,none⟩),.slice s.a s.len s.cap] [.c .slice] K h
theorem TL{W:Nat→Prop}{lab:List UInt8}{w:Option ByteArray}{kids:Fo}(hl:lab.length≤10000)(hw:∀v,w=some v→v.size≤10000)(hk256:kids.toL.length≤256)(ih:∀m∈kids.toL,ZC W m):ZC W (lab,w,kids):=by
 intro b sl h0 h M s xs r hsl hu0 hM0 ho hM hx K hk;simp only at r hsl;have hsle:(⟨lab.toArray⟩:ByteArray)=sl:=by rw[←hsl]
 refine y7 (some ⟨b,0,none⟩) s ?_;unfold se bM cB bR aO HJ cP Xr VB;obtain⟨val,s1,ow,ks,hb0,hv,hs,hcap,hF⟩:=r;have hL:=oM.1 hF;have st:∀{h'},Upd M h h'→Upd No h0 h':=fun k=>hu0.trans k fun y hy=>.inr (hM0 y hy)
 have blk:∀{h'},Upd M h h'→h'[b]? =some (.cells (EO sl w.isSome val s1 ow) cj (0,0)):=fun k=>(st k).get0 hb0
 have hM':∀{h'},Upd M h h'→∀y,h'.size≤y→M y:=fun k y hy=>hM y (bh k.size hy)
 have hsz:sl.size=lab.length:=by rw[←hsl];simp
 have hsl1:=hs.len;rw[hL.1]at hsl1;unfold jd at hx hk;rw[xI]at hx hk;simp only at hx hk;rw[ac]at hx;have hnl:(rY lab w kids.toL.length).length=2+lab.length+((uX w).length+2):=by
  unfold rY;rw[ac,ac,jI,dI,hsle,hsz]
 refine⟨_,rfl,sl,eT (i:=0) (blk (Upd.refl M h)),?_⟩;refine E8 (W:=No) (ho.sl fun _ _ _ h=>h) ho.cap sl (by omega) (by omega) fun s2 h2 ho2 hu2=>?_
 have ho2:=ho2.more hM;have hu02:Upd M h h2:=hu2.wide;refine Join.intro (fun t h'=>OwnS pu 1 cH M h' t (xs++om sl++(uX w))∧Upd M h h') (fun R hR=>⟨_,rfl,w.isSome,eT (i:=1) (blk hu02),?_⟩) ?_
 ·cases w with
  |none=>
   refine aj.2 (bE ?_);refine vN (b:=0) rfl ho2 (hM' hu02) ?_ fun s3 h3 ho3 hu3=>hR _ _ ⟨ho3,hu02.tr hu3⟩
   rw[ac,jI];simp only[uX,aI]at hnl;omega
  |some v=>
   have hve:=vw hv v rfl;subst hve;have hvs:=hw val rfl;simp only[uX,ar,jI]at hnl;have k3:Upd M h (hnew h2 [.int .u8 1] cH):=hu02.tr (Upd.hnew M h2 _ _);refine ay.2 ⟨_,rfl,val,eT (i:=2) (blk hu02),bE ⟨eT (i:=2) (blk k3),?_⟩⟩;refine vN (b:=1) rfl ho2 (hM' hu02) (by rw[ac,jI];omega) fun s3 h3 ho3 hu3=>⟨eT (i:=2) (blk (hu02.tr hu3)),?_⟩
   refine E8 (W:=No) (ho3.sl fun _ _ _ h=>h) ho3.cap val (by omega) (by rw[ac,ac,jI,aI];omega) fun s4 h4 ho4 hu4=>hR _ _ ⟨?_,(hu02.tr hu3).tr hu4.wide⟩
   have ho4:=ho4.more (hM' (hu02.tr hu3));simp only[uX,au,List.singleton_append]at ho4⊢;exact ho4
 ·rintro s3 h3 ⟨ho3,hu3⟩
  have e8:dY (s1.len:Int) (2^(min (8:Int).toNat (IntKind.bits .i64)))=((kids.toL.length>>>8:Nat):Int):=by
   have:(2^(min (8:Int).toNat (IntKind.bits .i64)):Int)=2^8:=rfl;rw[this,hsl1,mZ]
  refine Join.intro (fun t h'=>OwnS pu 1 cH M h' t (xs++rY lab w kids.toL.length)∧Upd M h h') (fun R hR=>⟨_,rfl,s1,eT (i:=3) (blk hu3),_,rfl,s1,eT (i:=3) (blk hu3),by omega,?_⟩) ?_
  ·simp only[Bd]
   rw[e8];have k4:Upd M h (hnew h3 [.int .u8 (IntKind.wrap .u8 (s1.len:Int)),.int .u8 (IntKind.wrap .u8 ((kids.toL.length>>>8:Nat):Int))] cH):=hu3.tr (Upd.hnew M h3 _ _);refine bE ⟨eT (i:=3) (blk k4),eT (i:=3) (blk k4),?_⟩;refine WP (ys:=mW kids.toL.length 2) ?_ rfl ho3 (hM' hu3) ?_ fun s5 h5 ho5 hu5=>⟨eT (i:=3) (blk (hu3.tr hu5)),eT (i:=3) (blk (hu3.tr hu5)),hR _ _ ⟨?_,hu3.tr hu5⟩⟩
   ·rw[hsl1,IntKind.wrap_u8,IntKind.wrap_u8]
    simp[mW,List.range_succ]
   ·rw[ac,ac,jI,dI];omega
   ·unfold rY
    rw[hsle,←au,←au];exact ho5
  ·rintro s4 h4 ⟨ho4,hu4⟩
   refine⟨_,rfl,s1,eT (i:=3) (blk hu4),?_⟩;have hs4:∀{h'},Upd M h h'→Sl ua 1 W h' s1 ks:=fun k=>hs.upd (st k) fun _ h=>h.elim
   refine LoopP.ghost (fun(i:Nat) (t:SliceV×Int) h'=>t.2=(i:Int)∧i≤kids.toL.length∧OwnS pu 1 cH M h' t.1 (xs++rY lab w kids.toL.length++(kids.toL.take i).flatMap jd)∧Upd M h h') (fun i=>kids.toL.length-i) 0 ⟨rfl,aW _,by simpa using ho4,hu4⟩ ?_
   rintro I i ⟨so,ti⟩ h' ⟨e1,hi,ho',hu'⟩ hI;simp only at e1 ho';subst e1;have hsplit:∀hlt:i<kids.toL.length,((kids.toL.take i).flatMap jd).length+(jd kids.toL[i]).length≤(kids.toL.flatMap jd).length:=fun hlt=>by
    have e:kids.toL=kids.toL.take i++kids.toL[i]::kids.toL.drop (i+1):=by rw[List.getElem_cons_drop,aK]
    have:=congrArg (fun L=>(List.flatMap jd L).length) e
    simp only[bH,aN,ac]at this;omega
   refine az (fun hlt=>?_) fun hge=>?_
   ·have hlt:i<kids.toL.length:=by have:(i:Int)<(s1.len:Int):=hlt;omega
    obtain⟨kb,ksl,hki,hkl,hkn⟩:=hL.at hlt;obtain⟨a,ha,_,hvv⟩:=(hs4 hu').at0 hki;have hsp:=hsplit hlt;refine⟨⟨by simp only;omega,by simp only;omega⟩,a,ha,some ⟨kb,0,none⟩,hvv,?_⟩
    refine ih _ (bw hlt) hkn hkl (st hu') hM0 ho' (hM' hu') (by rw[ac,ac];omega) fun s5 h5 ho5 hu5=>?_
    rw[cS hlt (by omega)];refine hI (i+1) _ _ ⟨rfl,hlt,?_,hu'.tr hu5⟩ (by omega);rw[List.take_succ_eq_append_getElem hlt,bH,aN,List.flatMap_nil,aJ,←au];exact ho5
   ·have hil:i=kids.toL.length:=by have:¬(i:Int)<(s1.len:Int):=hge;omega
    subst hil;rw[cd]at ho';refine hk _ _ ?_ hu';rw[←au];exact ho'
theorem Ku{W:Nat→Prop}:∀{F:Fo},LC F→∀n∈F.toL,ZC W n
 | .nil,_,n,hn=>by simp[Fo.toL]at hn
 | .cons lab w kids rest,h,n,hn=>by
  rcases aB.1 hn with rfl|hn
  ·exact TL h.1 h.2.1 h.2.2.1 (Ku h.2.2.2.1)
  ·exact Ku h.2.2.2.2 n hn
structure RadAt(W:Nat→Prop)(h:ae)(b:Nat)(l:List Pr):Prop where
 ex:∃w F,RxN W h b ⟨#[]⟩ w F∧gJ F∧∀k v,(k,v)∈vz w F↔∃p∈l,p.1.data.toList=k∧p.2=v
theorem RadAt.upd0{W:Nat→Prop}{h h':ae}{b:Nat}{l:List Pr}(k:Upd No h h')(r:RadAt W h b l):RadAt W h' b l:=by
 obtain⟨w,F,r1,r2,r3⟩:=r.ex;exact⟨w,F,r1.upd0 k,r2,r3⟩
theorem RadAt.less{W W':Nat→Prop}{h:ae}(hm:∀b,W' b→W b∨h.size≤b){b:Nat}{l:List Pr}(r:RadAt W h b l):RadAt W' h b l:=by
 obtain⟨w,F,r1,r2,r3⟩:=r.ex;exact⟨w,F,r1.less hm,r2,r3⟩
theorem RadAt.updM{W M:Nat→Prop}{h h':ae}(k:Upd M h h')(hm:∀b,M b→W b∨h.size≤b){b:Nat}{l:List Pr}(r:RadAt W h b l):RadAt W h' b l:=by
 obtain⟨w,F,r1,r2,r3⟩:=r.ex;exact⟨w,F,r1.updM k hm,r2,r3⟩
def Qm(l:List Pr):List (List UInt8×ByteArray):=l.map fun p=>(p.1.data.toList,p.2)
theorem Xv{l:List Pr}(hr:bO l):Up (Qm l):=by
 unfold Qm Up;rw[kI];refine List.Pairwise.imp (R:=fun p q:Pr=>kl p.1 q.1) (fun{a b} h=>?_) hr
 rw[KS,ByteArray.toList_eq,ByteArray.toList_eq]at h;exact h
theorem Ql:∀{l l':List Pr},Qm l=Qm l'→l=l'
 | [],[],_=>rfl
 | [],_::_,h=>by simp[Qm]at h
 |_::_,[],h=>by simp[Qm]at h
 |p::l,q::l',h=>by
  unfold Qm at h;simp only[List.map_cons,fe.injEq,p8.injEq]at h;obtain⟨⟨h1,h2⟩,h3⟩:=h;have e:p.1=q.1:=by
   generalize p.1=a at h1;generalize q.1=b at h1;cases a;cases b;exact congrArg nQ (ll.1 h1)
  rw[Ql h3,wp e h2]
theorem Kz{w:Option ByteArray}{F:Fo}{l:List Pr}(hc:gJ F)(hr:bO l)(he:∀k v,(k,v)∈vz w F↔∃p∈l,p.1.data.toList=k∧p.2=v):vz w F=Qm l:=by
 refine Ts (QF hc) (Xv hr) fun p=>?_
 have:=he p.1 p.2;rw[show(p.1,p.2)=p from rfl]at this
 rw[this];unfold Qm;rw[eS];constructor
 ·rintro⟨q,hq,e1,e2⟩;exact⟨q,hq,wp e1 e2⟩
 ·rintro⟨q,hq,e⟩;rw[←e];exact⟨q,hq,rfl,rfl⟩
theorem TQ{w w':Option ByteArray}{F F':Fo}(hc:gJ F)(hc':gJ F')(h:vz w F=vz w' F'):w=w'∧F=F':=by
 have hm:∀k v,xz w F k v↔xz w' F' k v:=fun k v=>by rw[←mT,←mT,h]
 refine⟨Option.ext fun v=>?_,Pk hc hc' fun k v=>?_⟩
 ·have:=hm [] v
  constructor
  ·intro e
   rcases this.1 (.inl ⟨rfl,e⟩)with⟨_,h⟩|h
   ·exact h
   ·exact absurd rfl (qA hc' h)
  ·intro e
   rcases this.2 (.inl ⟨rfl,e⟩)with⟨_,h⟩|h
   ·exact h
   ·exact absurd rfl (qA hc h)
 ·constructor
  ·intro hi
   rcases(hm k v).1 (.inr hi)with⟨e,_⟩|h
   ·exact absurd e (qA hc hi)
   ·exact h
  ·intro hi
   rcases(hm k v).2 (.inr hi)with⟨e,_⟩|h
   ·exact absurd e (qA hc' hi)
   ·exact h
end Go.Proofs
namespace Go.Proofs
open Go Go.Lift
theorem rh{p q:Pr}:∀{l:List Pr},bO l→(q∈gC p l↔q=p∨(q∈l∧q.1≠p.1))
 | [],_=>by simp[gC]
 |r::l,hr=>by
  have hr:=aD.1 hr;rw[fX];by_cases h1:kl r.1 p.1
  ·have hne:r.1≠p.1:=fun e=>by rw[e]at h1;exact cg _ h1
   rw[if_pos h1,aB,aB,rh hr.2];constructor
   ·rintro(rfl|h|⟨h,h'⟩)
    ·exact .inr ⟨.inl rfl,hne⟩
    ·exact .inl h
    ·exact .inr ⟨.inr h,h'⟩
   ·rintro(h|⟨h|h,h'⟩)
    ·exact .inr (.inl h)
    ·exact .inl h
    ·exact .inr (.inr ⟨h,h'⟩)
  ·rw[if_neg h1]
   by_cases h2:r.1=p.1
   ·rw[if_pos h2,aB,aB]
    constructor
    ·rintro(h|h)
     ·exact .inl h
     ·refine .inr ⟨.inr h,fun e=>?_⟩
      have:=hr.1 q h;rw[e,h2]at this;exact cg _ this
    ·rintro(h|⟨rfl|h,h'⟩)
     ·exact .inl h
     ·exact absurd h2 h'
     ·exact .inr h
   ·rw[if_neg h2,aB,aB]
    have h3:=pG h1 h2;constructor
    ·rintro(h|rfl|h)
     ·exact .inl h
     ·exact .inr ⟨.inl rfl,h2⟩
     ·refine .inr ⟨.inr h,fun e=>?_⟩
      have:=gq h3 (hr.1 q h);rw[e]at this;exact cg _ this
    ·rintro(h|⟨rfl|h,h'⟩)
     ·exact .inl h
     ·exact .inr (.inl rfl)
     ·exact .inr (.inr h)
def RadRoot(W:Nat→Prop)(h:ae)(r:Option Addr)(l:List Pr):Prop:=(r=none∧l= [])∨∃b,r=some ⟨b,0,none⟩∧RadAt W h b l
theorem RadRoot.upd0{W:Nat→Prop}{h h':ae}{r:Option Addr}{l:List Pr}(k:Upd No h h')(t:RadRoot W h r l):RadRoot W h' r l:=t.imp id fun⟨b,e,t⟩=>⟨b,e,t.upd0 k⟩
theorem wV{a b:ByteArray}:a.data.toList=b.data.toList↔a=b:=by
 constructor
 ·intro h;cases a;cases b;exact congrArg nQ (ll.1 h)
 ·rintro rfl;rfl
theorem FR{W:Nat→Prop}{h:ae}(hW:∀y,W y→y<h.size){K:Option Addr→ae→Prop}(hk:∀h' b,RadAt W h' b []→Upd No h h'→K (some ⟨b,0,none⟩) h'):HC PG qV [] [.c .ptr] K h:=by
 refine Ir ?_;unfold zK LN;refine bE (hk _ h.size ⟨none,.nil,⟨⟨#[]⟩,⟨none,0,0⟩,none,[],cq h W3 cj,rfl,Sl.nil rH,⟨aq _,fun hx=>qZ _ (hW _ hx)⟩,rfl⟩,trivial,fun k v=>?_⟩ (Upd.hnew No h _ _))
 simp[vz,y5]
theorem IU{W:Nat→Prop}{h:ae}{r:Option Addr}{l:List Pr}(t:RadRoot W h r l)(hW:∀y,W y→y<h.size){K:Option Addr→ae→Prop}(hk:∀h' b,RadAt W h' b l→Upd No h h'→(r=some ⟨b,0,none⟩∨r=none)→K (some ⟨b,0,none⟩) h'):HC PG sE [.pointer r] [.c .ptr] K h:=by
 refine Lq r ?_;unfold Cu;rcases t with⟨rfl,rfl⟩|⟨b,rfl,t⟩
 ·exact ay.2 (FR hW fun h' b t hu=>hk h' b t hu (.inr rfl))
 ·exact aj.2 (hk h b t (Upd.refl _ _) (.inl rfl))
theorem Mh{W:Nat→Prop}{h:ae}{r:Option Addr}{l:List Pr}(t:RadRoot W h r l)(hW:∀y,W y→y<h.size)(hr:bO l)(p:Pr)(hp:p.1.size≤1000000){K:Option Addr×Bool→ae→Prop}
  (hk:∀h' b' added,Upd No h h'→RadAt W h' b' (gC p l)→(p∈l→r=some ⟨b',0,none⟩∨r=none)→K (some ⟨b',0,none⟩,added) h'):
  HC PG yd [.pointer none,.pointer r,.agg #[.string p.1,.string p.2]] [.c .ptr,.c .bool] K h:=by
 refine Ni none r p ?_;unfold Ev aw wq Tq ui;have k1:=Upd.hnew No h [.string p.1,.string p.2] al;have b1:=cq h [.string p.1,.string p.2] al;refine bE ?_;simp only[cV h];generalize hnew h [.string p.1,.string p.2] al=h1 at k1 b1;have w1:∀{h':ae},Upd No h1 h'→∀i,aP h' (adr ⟨h.size,0,none⟩ i)=(#[.string p.1,.string p.2]:Array Value)[i]?:=fun k i=>by rw[bX,bq (k.get0 b1),aM]
 have r0:=Upd.refl No h1;refine⟨p.1,w1 r0 0,p.2,w1 r0 1,IU (t.upd0 k1) (fun y hy=>aQ (hW y hy) k1.size) fun h2 b t2 hu2 hb=>⟨w1 hu2 1,w1 hu2 0,?_⟩⟩
 obtain⟨w,F,r1,r2,r3⟩:=t2.ex;refine TN (p.1.size+1) p.1 p.2 (by omega) hp r1 (fun y hy=>aQ (hW y hy) (k1.tr hu2).size) r2 fun h3 b3 w' F' added ch hu3 rn3 hc3 hp3 hsm hch=>?_
 refine hk h3 b3 added ((k1.tr hu2).tr hu3) ⟨w',F',rn3,hc3,fun k v=>?_⟩ fun hm=>?_
 ·rw[mT,hp3 k v,←mT,r3 k v]
  constructor
  ·rintro(⟨rfl,rfl⟩|⟨hne,q,hq,rfl,rfl⟩)
   ·exact⟨p,(rh hr).2 (.inl rfl),rfl,rfl⟩
   ·exact⟨q,(rh hr).2 (.inr ⟨hq,fun e=>hne (by rw[e])⟩),rfl,rfl⟩
  ·rintro⟨q,hq,rfl,rfl⟩
   rcases(rh hr).1 hq with rfl|⟨hq,hne⟩
   ·exact .inl ⟨rfl,rfl⟩
   ·exact .inr ⟨fun e=>hne (wV.1 e),q,hq,rfl,rfl⟩
 ·have:=hch (mT.1 ((r3 _ _).2 ⟨p,hm,rfl,rfl⟩))
  rw[(hsm this).1];exact hb
def Pw(l:List Pr)(xs:List UInt8):Prop:=∃w F,gJ F∧vz w F=Qm l∧xs=jd ([],w,F)
theorem xZ{w:Option ByteArray}{F:Fo}{l:List Pr}(hc:gJ F)(hp:vz w F=Qm l)(hf:Fit l):LC F∧∀v,w=some v→v.size≤10000:=by
 have hm:∀k v,xz w F k v→k.length≤10000∧v.size≤10000:=fun k v hi=>by
  have:=mT.2 hi;rw[hp]at this;obtain⟨q,hq,e⟩:=eS.1 this;cases e;have:=hf q hq;exact⟨by simpa using this.1,this.2⟩
 exact⟨O7 hc fun k v hi=>hm k v (.inr hi),fun v hv=>(hm [] v (.inl ⟨rfl,hv⟩)).2⟩
theorem V0{l l':List Pr}{xs xs':List UInt8}(h:Pw l xs)(h':Pw l' xs')(hf:Fit l)(hf':Fit l'):xs=xs'↔l=l':=by
 obtain⟨w,F,c,e,rfl⟩:=h;obtain⟨w',F',c',e',rfl⟩:=h';have f1:=xZ c e hf;have f2:=xZ c' e' hf';constructor
 ·intro hx
  have hx:jd ([],w,F)++ []=jd ([],w',F')++ []:=by rw[hx]
  unfold jd at hx;simp only[au]at hx;obtain⟨_,e2,e3,hx⟩:=Jk (aW _) (aW _) f1.2 f2.2 (lP c) (lP c') hx;obtain⟨e4,_⟩:=Ac f1.1 f2.1 e3 hx;exact Ql (by rw[←e,←e',e2,e4])
 ·rintro rfl
  obtain⟨e2,e4⟩:=TQ c c' (e.trans e'.symm);rw[e2,e4]
theorem Bm{l:List Pr}{xs:List UInt8}(h:Pw l xs)(hf:Fit l):xs.length≤20010+2*l.length*20010:=by
 obtain⟨w,F,c,e,rfl⟩:=h;have f1:=xZ c e hf;have h1:=Jj (lab:= []) (n:=F.toL.length) (aW _) f1.2;have h2:=Ab f1.1;have h3:=Ld c;have h4:=congrArg fg e;unfold vz Qm at h4;rw[ac,cD]at h4;have h5:Le F*20010≤2*l.length*20010:=cy _ (by omega);unfold jd;rw[ac];simp only;omega
theorem Mj{W:Nat→Prop}{h:ae}{b:Nat}{l:List Pr}(t:RadAt W h b l)(hr:bO l)(hf:Fit l)(hn:l.length≤60000){K:SliceV→ae→Prop}
  (hk:∀s' h' xs,Pw l xs→OwnS pu 1 cH (fun y=>h.size≤y) h' s' xs→Upd No h h'→K s' h'):HC PG ve [.pointer (some ⟨b,0,none⟩)] [.c .slice] K h:=by
 refine Iq _ ?_;unfold zJ;refine aj.2 ?_;obtain⟨w,F,r1,r2,r3⟩:=t.ex;have hp:=Kz r2 hr r3;have f1:=xZ r2 hp hf;have hv:Pw l (jd ([],w,F)):=⟨w,F,r2,hp,rfl⟩;have hl:=Bm hv hf;exact TL (lab:= []) (aW _) f1.2 (lP r2) (Ku f1.1) (s:=⟨none,0,0⟩) (xs:= []) (M:=fun y=>h.size≤y) r1 rfl (Upd.refl _ _) (fun _ h=>h) (OwnS.nil tC) (fun _ h=>h) (by rw[aL];omega) fun s' h' ho hu=>hk s' h' _ hv ho (hu.mono fun y hy=>.inr hy)
end Go.Proofs
