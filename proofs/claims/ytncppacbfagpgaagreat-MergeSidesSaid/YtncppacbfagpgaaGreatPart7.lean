/- A part of the proof that the named laws of this program answer true, whatever the input. -/
import Derived.Test.YtncppacbfagpgaaGreatPart6
import Derived.Test.YtncppacbfagpgaaGreatPart4
import Derived.Test.YtncppacbfagpgaaGreatPart5
open Array renaming length_toList→oA
open List renaming getElem?_eq_getElem→ai,getElem?_eq_none→ml,cons→gO,append_nil→aK,append_assoc→al,length_append→ac,flatMap_cons→aI,map_append→dw,map_map→qC,mem_map→iz,take_append_drop→aY,flatMap_append→bJ,flatMap_nil→kN,mem_cons→az,length_cons→ak,map_nil→jc,length_nil→aJ,length_eq_zero_iff→aw,length_pos_iff→kr,not_mem_nil→gp,getElem_cons_zero→fp,mem_cons_self→ao,pairwise_cons→aF,sublist_cons_self→lI,mem_cons_of_mem→aC,length_take→aO,mem_append→bh,mem_singleton→aA,nil_append→cQ,getElem_of_mem→bH,pairwise_iff_getElem→cg
open List.Lex renaming nil→xa
open Nat renaming lt_of_lt_of_le→aD,le_refl→aq,le_trans→aZ,zero_le→bC,succ_pos→nY,mul_comm→w7,mul_le_mul_left→gM
open Option renaming some→bO
open Prod renaming mk→rF
namespace Go.Proofs
open Go Go.Lift
theorem Sl.det{α:Type}{f:α→List Value}{sz:Nat}{W W':Nat→Prop}{h:ad}{s:SliceV}{xs ys:List α}(hi:∀x y,f x=f y→x=y)(a:Sl f sz W h s xs)(b:Sl f sz W' h s ys):xs=ys:=by
 apply List.ext_getElem
 ·rw[←a.len,←b.len]
 ·intro i h1 h2
  refine hi _ _ (List.ext_getElem? fun j=>?_)
  obtain⟨p,hp,_,hv⟩:=a.at (ai h1);obtain⟨q,hq,_,hw⟩:=b.at (ai h2);rw[hp]at hq;cases hq;have l1:=(a.ne xs[i]).1;have l2:=(b.ne ys[i]).1;by_cases hj:j<sz
  ·have e1:=hv j _ (ai (by omega))
   have e2:=hw j _ (ai (by omega));rw[e1]at e2;rw[ai (by omega),ai (by omega)];exact e2
  ·rw[ml (by omega),ml (by omega)]
theorem OC(x y:Pr)(h:eh x=eh y):x=y:=by
 simp only[eh,gO.injEq,Value.string.injEq,and_true]at h;exact Prod.ext h.1 h.2
theorem Ti(x y:Option Addr)(h:rM x=rM y):x=y:=by
 simpa[rM]using h
theorem Ov(x y:Option Addr)(h:rI x=rI y):x=y:=by
 simpa[rI]using h
theorem Hu{d d' n n':Nat}{sp sk sp' sk':SliceV}{bu bu':Bool}{ow ow':Option Addr}(h:eZ d n sp sk bu ow=eZ d' n' sp' sk' bu' ow'):d=d'∧n=n'∧sp=sp'∧sk=sk':=by
 simp only[eZ,Array.mk.injEq,gO.injEq,Value.int.injEq,true_and,sv,Value.slice.injEq,Value.bool.injEq,Value.pointer.injEq,and_true]at h;obtain⟨h1,h2,⟨h3,h4,h5⟩,⟨h6,h7,h8⟩,_⟩:=h;refine⟨by omega,by omega,?_,?_⟩
 ·cases sp;cases sp';simp only at h3 h4 h5;subst h3 h4 h5;rfl
 ·cases sk;cases sk';simp only at h6 h7 h8;subst h6 h7 h8;rfl
theorem EF{W W':Nat→Prop}{x:Hs}{h:ad}:∀{m b:Nat} {l l':List Pr},TrieAt W x h m b l→TrieAt W' x h m b l'→bj l→bj l'→l=l'
 |0,b,l,l',t,t',_,_=>by
  obtain⟨sp,sk,ow,hb,hs,_⟩:=t.ex;obtain⟨sp',sk',ow',hb',hs',_⟩:=t'.ex;rw[hb]at hb';simp only[bO.injEq,Obj.cells.injEq,and_true]at hb';obtain⟨_,_,rfl,_⟩:=Hu hb';exact Sl.det OC hs hs'
 |m+1,b,l,l',⟨s,nd,hc⟩,⟨s',nd',hc'⟩,hr,hr'=>by
  obtain⟨d,n,sp,sk,ow,hb,bits,hs,hk,_⟩:=nd.ex;obtain⟨d',n',sp',sk',ow',hb',bits',hs',hk',_⟩:=nd'.ex;rw[hb]at hb';simp only[bO.injEq,Obj.cells.injEq,and_true]at hb';obtain⟨rfl,rfl,rfl,rfl⟩:=Hu hb';have e1:=Fx 32 (fun c hc=>by rw[←bits.dp c hc,bits'.dp c hc]) (Sl.det OC hs hs')
  have e2:=Fx 32 (fun c hc=>by rw[←bits.nk c hc,bits'.nk c hc]) (Sl.det Ti hk hk')
  refine KA (x:=x) (lev:=12-m) hr hr' fun c hlt=>?_
  have t1:=hc c hlt;have t2:=hc' c hlt;rw[←e1 c hlt,←e2 c hlt]at t2;rcases t1 with⟨h1,h2,h3⟩|⟨p,h1,h2,h3⟩|⟨h1,h2,kb,h3,h4⟩<;>rcases t2 with⟨g1,g2,g3⟩|⟨q,g1,g2,g3⟩|⟨g1,g2,kb',g3,g4⟩<;>simp_all
  exact EF h4 g4 (iT hr) (iT hr')
theorem Ow{sl sl' v v':ByteArray}{b b':Bool}{s s':SliceV}{ow ow':Option Addr}(h:B6 sl b v s ow=B6 sl' b' v' s' ow'):sl=sl'∧b=b'∧v=v'∧s=s':=by
 simp only[B6,Array.mk.injEq,gO.injEq,Value.string.injEq,sv,Value.slice.injEq,Value.bool.injEq,Value.pointer.injEq,and_true]at h;obtain⟨h1,h2,h3,⟨h6,h7,h8⟩,_⟩:=h;refine⟨h1,h2,h3,?_⟩;cases s;cases s';simp only at h6 h7 h8;subst h6 h7 h8;rfl
theorem OF{w w':Option ByteArray}{v:ByteArray}(h:w.isSome=w'.isSome)(h1:v=w.getD ⟨#[]⟩)(h2:v=w'.getD ⟨#[]⟩):w=w':=by
 cases w<;>cases w'<;>simp_all
theorem Mw{W W':Nat→Prop}{h:ad}:∀{F F':Fo} {ks:List (Option Addr)},RxF W h F ks→RxF W' h F' ks→F=F'
 | .nil,.nil,_,_,_=>rfl
 | .nil,.cons ..,ks,h1,h2=>by
  obtain⟨b,sl,val,s,ow,ks1,ks',e0,_⟩:=h2;have h1:ks= []:=h1;rw[h1]at e0;cases e0
 | .cons ..,.nil,ks,h1,h2=>by
  obtain⟨b,sl,val,s,ow,ks1,ks',e0,_⟩:=h1;have h2:ks= []:=h2;rw[h2]at e0;cases e0
 | .cons lab w kids rest,.cons lab' w' kids' rest',ks,⟨b,sl,val,s,ow,ks1,ks',e0,e1,e2,e3,e4,e5,e6,e7⟩,⟨b',sl',val',s',ow',ks1',ks'',f0,f1,f2,f3,f4,f5,f6,f7⟩=>by
  rw[e0]at f0;simp only[gO.injEq,bO.injEq,Addr.mk.injEq,and_true]at f0;obtain⟨rfl,rfl⟩:=f0;rw[e2]at f2;simp only[bO.injEq,Obj.cells.injEq,and_true]at f2;obtain⟨rfl,g2,rfl,rfl⟩:=Ow f2;have:=Sl.det Ov e4 f4;subst this;rw[Mw e6 f6,Mw e7 f7,←e1,←f1,OF g2 e3 f3]
end Go.Proofs
namespace Go.Proofs
open Go Go.Lift
theorem MN{h:ad}{b:Nat}{c:Array Value}{t:TypeId}(hb:h[b]? =some (.cells c t (0,0))) (hc:0<c.size):fQ h ⟨b,0,none⟩:=⟨c,t,hb,hc⟩
theorem TrieAt.plain{W:Nat→Prop}{x:Hs}{h:ad}:∀{m b:Nat} {l:List Pr},TrieAt W x h m b l→fQ h ⟨b,0,none⟩
 |0,_,_,t=>by obtain⟨_,_,_,hb,_⟩:=BuckAt.ex t;exact MN hb (by simp[eZ])
 |m+1,_,_,⟨s,nd,_⟩=>by obtain⟨_,_,_,_,_,hb,_⟩:=nd.ex;exact MN hb (by simp[eZ])
theorem On{W Wx:Nat→Prop}{x:Hs}{h:ad}{m b:Nat}{s:Slots}{c:Nat}{l:List Pr}(nd:NodeAt W h b s)(hc:c<32)(sl:SlotIs W x h m s c l)(hm:m≤13)(hr:bj l)(hn:l.length≤100000)(hWx:∀y,Wx y→y<h.size){K:SliceV→ad→Prop}
  (hk:∀s' h',Sl eh 2 Wx h' s' l→s'.len≤s'.cap→Upd No h h'→K s' h'):HC PG un [.pointer (some ⟨b,0,none⟩),.int .i64 c] [.c .slice] K h:=by
 refine LM _ c ?_;unfold DS nv jG av oT vo gf kY qa;refine AB nd hc fun h1 k1=>?_
 refine AA fun h2 b2 k2=>?_
 have k12:=k1.tr k2;have hkid:s.p c=none→Below W x h m ((s.k c).getD none) l:=fun hp=>by
  rcases sl with⟨rfl,_,e⟩|⟨p,_,e,_⟩|⟨_,_,kb,e,t⟩
  ·rw[e];exact .inl ⟨rfl,rfl⟩
  ·rw[hp]at e;cases e
  ·rw[e];exact .inr ⟨kb,rfl,t⟩
 rcases hp:s.p c with _|p
 ·refine ag.2 (wA (nd.upd k12 fun _ h=>h.elim) hc ?_)
  exact yP (W':=Wx) ((hkid hp).upd0 k12) hm hr hn (fun y hy=>aD (hWx y hy) k12.size) fun s3 h3 hs3 hc3 k3=>hk s3 h3 hs3 hc3 (k12.tr k3)
 ·have el:l= [p]:=by
   rcases sl with⟨_,e,_⟩|⟨q,e,e',_⟩|⟨_,e,_⟩
   ·rw[hp]at e;cases e
   ·rw[hp]at e';cases e';exact e
   ·rw[hp]at e;cases e
  subst el;rw[hp]at b2;refine ax.2 ⟨p.1,vc b2 0,p.2,vc b2 1,aW fun h3 b3 k3=>?_⟩
  have ho:OwnS eh 2 af (fun y=>h.size≤y) h3 ⟨some (aj h2),1,1⟩ [p]:=⟨rfl,f9,aq _,.inr ⟨h2.size,[],rfl,k12.size,b3,rfl⟩⟩
  exact hk _ h3 (ho.sl fun y hy _ hw=>by have:=hWx y hw;omega) (aq _) (k12.tr k3)
theorem QO{W:Nat→Prop}{x z:Hs}{sb:Nat}:∀(m:Nat),m≤13→∀{b b':Nat} {l l':List Pr} {C:Nat→Prop} {h:ad} {L:List Ch},TrieAt W x h m b l→TrieAt W x h m b' l'→SetAt C h sb z L→(∀y,C y∨y=sb→W y)→(∀y,h.size≤y→W y)→bj l→bj l'→l.length≤100000→l'.length≤100000→L.length+(m+1)*200000≤10000000→
  ∀{K:Unit→ad→Prop},(∀ys,ys.Perm (iC l l')→Qe C h sb z (L++ys) (K ()))→HC PG nJ [.pointer (some ⟨sb,0,none⟩),.pointer (some ⟨b,0,none⟩),.pointer (some ⟨b',0,none⟩)] [] K h:=by
 intro m;induction m with
 |zero=>
  intro hm b b' l l' C h L t t' st hCW hWn hr hr' hn hn' hL K hk;refine vK _ _ _ ?_;unfold rl UY gf Ik kY;refine⟨trivial,fun a a' e e'=>by cases e;cases e';exact⟨t.plain,t'.plain⟩,CondP.intro (fun e=>?_) fun e=>?_⟩
  ·obtain rfl:b=b':=by simpa using e
   obtain rfl:=EF t t' hr hr';refine hk [] (by rw[AZ]) h C (by rw[aK];exact st) (fun _ h=>.inl h) (Upd.refl _ _)
  ·obtain⟨sp,sk,ow,hb,hsp,_⟩:=BuckAt.ex t
   obtain⟨sp',sk',ow',hb',hsp',_⟩:=BuckAt.ex t';refine gR hb (ax.2 ?_);refine th hb hsp (by omega) fun s1 h1 ho1 k1=>?_
   refine th (k1.get0 hb') (hsp'.upd k1 fun _ h=>h.elim) (by omega) fun s2 h2 ho2 k2=>?_
   have s1z:=k1.size;obtain⟨_,hsb,_⟩:=st.ex;have zsb:=bd hsb;have ho1':=ho1.upd k2 fun _ _ h=>h
   refine AJ (st.upd0 (k1.tr k2)) (ho1'.sl fun y hy _ hw=>?_) (ho2.sl fun y hy _ hw=>?_) ho1.cap ho2.cap (by omega) fun h3 C3 st3 hC3 hu3=>?_
   ·rcases hw with h|h
    ·have:=st.lt y h;omega
    ·omega
   ·rcases hw with h|h
    ·have:=st.lt y h;omega
    ·omega
   ·have s2z:=k2.size
    exact hk (iC l l') (.refl _) h3 C3 st3 (fun y hy=>(hC3 y hy).imp id fun h=>by omega) ((k1.tr k2).wide.tr hu3)
 |succ m ih=>
  intro hm b b' l l' C h L t t' st hCW hWn hr hr' hn hn' hL K hk;refine vK _ _ _ ?_;unfold rl UY gf Ik kY;refine⟨trivial,fun a a' e e'=>by cases e;cases e';exact⟨t.plain,t'.plain⟩,CondP.intro (fun e=>?_) fun e=>?_⟩
  ·obtain rfl:b=b':=by simpa using e
   obtain rfl:=EF t t' hr hr';exact hk [] (by rw[AZ]) h C (by rw[aK];exact st) (fun _ h=>.inl h) (Upd.refl _ _)
  have hcl:=uq hr hr';obtain⟨s,nd,hs⟩:=t;obtain⟨s',nd',hs'⟩:=t';have hs:∀c,c<32→SlotIs W x h m s c (part x (12-m) c l):=hs;have hs':∀c,c<32→SlotIs W x h m s' c (part x (12-m) c l'):=hs';obtain⟨d,n,sp,sk,ow,hb,_⟩:=nd.ex;refine gR hb (ag.2 ?_);refine LoopP.ghost (fun(g:Nat×List Ch×(Nat→Prop)) (t:Int) h'=>t=(g.1:Int)∧g.1≤32∧SetAt g.2.2 h' sb z (L++g.2.1)∧(∀y,g.2.2 y→C y∨h.size≤y)∧Upd (fun y=>C y∨y=sb) h h'∧g.2.1.Perm ((iC l l').filter fun c=>decide (ck x (12-m) c.1<g.1))) (fun g=>32-g.1) (0,[],C)
   ⟨rfl,by omega,by rw[aK];exact st,fun _ h=>.inl h,Upd.refl _ _,by simp⟩ ?_
  rintro I ⟨i,ys,C1⟩ t h1 ⟨rfl,hi,st1,hC1,hu1,hp⟩ hI;simp only at hi st1 hC1 hp;have hCW1:∀y,C1 y∨y=sb→W y:=fun y hy=>hy.elim (fun h=>(hC1 y h).elim (fun h=>hCW y (.inl h)) (hWn y)) fun h=>hCW y (.inr h)
  have hm1:∀y,C y∨y=sb→W y∨h.size≤y:=fun y hy=>.inl (hCW y hy)
  refine aB (fun hlt=>?_) fun hge=>?_
  rotate_left
  ·have hi32:i=32:=by omega
   subst hi32;refine hk ys (hp.trans ?_) h1 C1 st1 hC1 hu1;rw[List.filter_eq_self.2 fun c _=>decide_eq_true (ya x (12-m) c.1)]
  have hlt:i<32:=by omega
  have hpart:(iC l l').filter (fun c=>decide (ck x (12-m) c.1=i))=iC (part x (12-m) i l) (part x (12-m) i l'):=(Nw (fun k=>decide (ck x (12-m) k=i)) hr hr').symm
  have hyl:ys.length≤200000:=by
   have:=hp.length_eq;have:=List.length_filter_le (fun c:Ch=>decide (ck x (12-m) c.1<i)) (iC l l')
   omega
  have hpl:=mV (x:=x) (lev:=12-m) (c:=i) (l:=l);have hpl':=mV (x:=x) (lev:=12-m) (c:=i) (l:=l');have step:∀zs:List Ch,zs.Perm (iC (part x (12-m) i l) (part x (12-m) i l'))→∀h2 C2,SetAt C2 h2 sb z ((L++ys)++zs)→(∀y,C2 y→C1 y∨h1.size≤y)→Upd (fun y=>C1 y∨y=sb) h1 h2→I (IntKind.wrap .i64 ((i:Int)+1)) h2:=by
   intro zs hz h2 C2 st2 hC2 hu2;rw[pd hlt (by omega)];refine hI (i+1,ys++zs,C2) _ h2 ⟨rfl,hlt,by rw[←al];exact st2,fun y hy=>?_,?_,?_⟩ (by show 32-(i+1)<32-i;omega)
   ·rcases hC2 y hy with h|h
    ·exact hC1 y h
    ·exact .inr (aZ hu1.size h)
   ·exact hu1.trans hu2 fun y hy=>hy.elim (fun h=>(hC1 y h).imp .inl id) fun h=>.inl (.inr h)
   ·rw[←hpart]at hz
    exact(hp.append hz).trans (Dm (fun c:Ch=>ck x (12-m) c.1) i (iC l l'))
  have nd1:=nd.upd hu1 hm1;have nd1':=nd'.upd hu1 hm1;have up:∀{s:Slots} {l:List Pr},SlotIs W x h m s i l→SlotIs W x h1 m s i l:=fun o=>o.imp id fun o=>o.imp id fun⟨h1,h2,kb,h3,h4⟩=>⟨h1,h2,kb,h3,TrieAt.updM hu1 hm1 h4⟩
  have sl:=up (hs i hlt);have sl':=up (hs' i hlt);have hWn1:∀y,h1.size≤y→W y:=fun y hy=>hWn y (aZ hu1.size hy)
  refine Join.plain (wA nd1 hlt (wA nd1' hlt ?_));refine Join.intro (fun t h'=>h'=h1∧(t=true→(s.k i).isSome=true∧(s'.k i).isSome=true)) (fun R hR=>?_) ?_
  ·refine CondP.intro (fun e=>hR _ _ ⟨rfl,fun e'=>⟨e,e'⟩⟩) fun e=>hR _ _ ⟨rfl,fun e=>by cases e⟩
  rintro t h2 ⟨rfl,ht⟩;refine CondP.intro (fun e=>?_) fun e=>?_
  ·obtain⟨e1,e2⟩:=ht e
   rcases sl with⟨_,_,e3⟩|⟨p,_,_,e3⟩|⟨_,_,kb,e3,tk⟩
   ·rw[e3]at e1;cases e1
   ·rw[e3]at e1;cases e1
   rcases sl' with⟨_,_,e4⟩|⟨p,_,_,e4⟩|⟨_,_,kb',e4,tk'⟩
   ·rw[e4]at e2;cases e2
   ·rw[e4]at e2;cases e2
   rw[e3,e4];refine ih (by omega) tk tk' st1 hCW1 hWn1 (iT hr) (iT hr') (by omega) (by omega) (by rw[ac];omega) fun zs hz h3 C3 st3 hC3 hu3=>?_
   exact step zs hz h3 C3 st3 hC3 hu3
  ·obtain⟨_,hsb,_⟩:=st1.ex
   have zsb:=bd hsb;have hWx:∀y,C1 y∨y=sb→y<h2.size:=fun y hy=>hy.elim (st1.lt y) fun h=>by omega
   refine On (Wx:=fun y=>C1 y∨y=sb) nd1 hlt sl (by omega) (iT hr) (by omega) hWx fun s3 h3 hs3 hc3 k3=>?_
   refine On (Wx:=fun y=>C1 y∨y=sb) (nd1'.upd k3 fun _ h=>h.elim) hlt (sl'.upd0 k3) (by omega) (iT hr') (by omega) (fun y hy=>aD (hWx y hy) k3.size) fun s4 h4 hs4 hc4 k4=>?_
   refine AJ (st1.upd0 (k3.tr k4)) (hs3.upd k4 fun _ h=>h.elim) hs4 hc3 hc4 (by rw[ac];omega) fun h5 C5 st5 hC5 hu5=>?_
   have s34:=(k3.tr k4).size;exact step _ (.refl _) h5 C5 st5 (fun y hy=>(hC5 y hy).imp id fun h=>by omega) ((k3.tr k4).wide.tr hu5)
end Go.Proofs
namespace Go.Proofs
open Go Go.Lift
def T3(pre:List UInt8):ByteArray:=⟨pre.toArray⟩
theorem KJ(pre:List UInt8):(T3 pre).data.toList=pre:=by unfold T3;simp
theorem MY(k:ByteArray):T3 k.data.toList=k:=by cases k;rfl
def AQ(pre:List UInt8)(p:List UInt8×ByteArray):Pr:=(T3 (pre++p.1),p.2)
def pp(pre:List UInt8)(n:Bn):List Pr:=(vn n.2.1 n.2.2).map (AQ (pre++n.1))
def vp(key:List UInt8)(w:Option ByteArray):List Pr:=(w.map fun v=>(T3 key,v)).toList
theorem Rv{x y:List UInt8}:kl (T3 x) (T3 y)↔x<y:=by rw[IV,ByteArray.toList_eq,ByteArray.toList_eq,KJ,KJ]
theorem PQ(a b:List UInt8)(p:List UInt8×ByteArray):AQ a (b++p.1,p.2)=AQ (a++b) p:=by unfold AQ;rw[al]
theorem OB(pre:List UInt8):∀F:Fo,(yF F).map (AQ pre)=F.toL.flatMap (pp pre)
 | .nil=>rfl
 | .cons lab w kids rest=>by
  rw[PD,Fo.toL_cons,aI,dw,OB pre rest,qC];congr 1
  unfold pp vn;exact List.map_congr_left fun p _=>PQ pre lab p
theorem Hn(pre lab:List UInt8)(w:Option ByteArray)(F:Fo):pp pre (lab,w,F)=vp (pre++lab) w++F.toL.flatMap (pp (pre++lab)):=by
 unfold pp;rw[show vn w F=(w.map fun v=>(([]:List UInt8),v)).toList++yF F from rfl,dw,OB]
 congr 1
 cases w with
 |none=>rfl
 |some v=>show[AQ (pre++lab) ([],v)]=_;unfold AQ vp;rw[aK];rfl
theorem rJ{pre:List UInt8}{n:Bn}(hc:fK n.2.2):bj (pp pre n):=by
 unfold pp;rw[bj,List.pairwise_map];exact(OA (w:=n.2.1) hc).imp fun{p q} h=>Rv.2 (Jo h)
structure NodeK(n:Bn)(pre:List UInt8):Prop where
 can:fK n.2.2
 len:pre.length+n.1.length≤10000
 all:∀p∈vn n.2.1 n.2.2,pre.length+n.1.length+p.1.length≤10000
theorem NodeK.kid{n m:Bn}{pre:List UInt8}(k:NodeK n pre)(hm:m∈n.2.2.toL):NodeK m (pre++n.1):=by
 have hcn:=(dY.1 k.can).2 _ hm;have hall:∀p∈vn m.2.1 m.2.2,(pre++n.1).length+m.1.length+p.1.length≤10000:=fun p hp=>by
  have hin:qN n.2.2 (m.1++p.1) p.2:=fE.2 ⟨_,hm,p.1,rfl,jM.1 (show(p.1,p.2)∈_ from hp)⟩
  have:=k.all (m.1++p.1,p.2) (jM.2 (.inr hin));simp only[ac]at this⊢;omega
 obtain⟨r,v,hr⟩:=mZ k.can _ hm;have:=hall (r,v) (jM.2 hr);exact⟨hcn.2.2,by simp only at this;omega,hall⟩
theorem Dk{pre:List UInt8}{m n:Bn}(hm:m.1≠[])(hn:n.1≠[])(h:hd m.1<hd n.1):∀p∈pp pre m,∀q∈pp pre n,kl p.1 q.1:=by
 intro p hp q hq;unfold pp at hp hq;obtain⟨a,_,rfl⟩:=iz.1 hp;obtain⟨b,_,rfl⟩:=iz.1 hq;refine Rv.2 ?_;rw[al,al];refine Jo (Lc (by simp[hn]) ?_);rw[pk hm,pk hn];exact h
theorem IJ{key:List UInt8}{w:Option ByteArray}{n:Bn}(hn:n.1≠[]):∀p∈vp key w,∀q∈pp key n,kl p.1 q.1:=by
 intro p hp q hq;unfold vp at hp;rw[Option.mem_toList,Option.map_eq_some_iff]at hp;obtain⟨v,_,rfl⟩:=hp;unfold pp at hq;obtain⟨b,_,rfl⟩:=iz.1 hq;refine Rv.2 ?_;rw[al];conv=>lhs;rw[←aK key]
 refine Jo ?_;match n.1,hn with
 |c::l,_=>exact xa
theorem PR{f:Bn→List Pr}(L:List Bn)(i:Nat):((L.take i).flatMap f).length≤(L.flatMap f).length:=by
 conv=>rhs;rw[←aY i L,bJ,ac]
 omega
theorem Vg{a b:ByteArray}:a.data.toList++b.data.toList=(a++b).data.toList:=by
 rw[ByteArray.data_append,Array.toList_append]
theorem RxL.updN{W M:Nat→Prop}{h h':ad}(k:Upd M h h')(hm:∀b,M b→W b∨h.size≤b){ks:List (Option Addr)}{L:List Bn}(r:RxL W h ks L):RxL W h' ks L:=
 ⟨r.1,fun p hp=>let⟨b,sl,e1,e2,e3⟩:=r.2 p hp;⟨b,sl,e1,e2,e3.updM k hm⟩⟩
def Sn(n:Bn):Prop:=∀{W:Nat→Prop} {h:ad} {b:Nat} {sl:ByteArray} {ahead:ByteArray},RxN W h b sl n.2.1 n.2.2→sl.data.toList=n.1→NodeK n ahead.data.toList→(pp ahead.data.toList n).length≤1000000→∀{K:SliceV→ad→Prop},(∀s' h',OwnS eh 2 af (fun y=>h.size≤y) h' s' (pp ahead.data.toList n)→Upd No h h'→K s' h')→HC PG jV [.pointer (some ⟨b,0,none⟩),.string ahead] [.c .slice] K h
theorem JZ{lab:List UInt8}{w:Option ByteArray}{F:Fo}(ih:∀n∈F.toL,Sn n):Sn (lab,w,F):=by
 intro W h b sl ahead r hlab nk hl K hk;simp only at r hlab;have r:=r.less (W':=fun y=>h.size≤y) fun _ h=>.inr h
 refine DE (some ⟨b,0,none⟩) ahead ?_;unfold yj aL bZ xx lj jG oT;refine ag.2 (mQ r ?_);have hkl:=nk.len;simp only at hkl;have esz:∀k:ByteArray,k.size=k.data.toList.length:=fun k=>by rw[oA];rfl
 have e1:=esz ahead;have e2:=esz sl;rw[hlab]at e2;refine⟨by omega,?_⟩;have ekey:(ahead++sl).data.toList=ahead.data.toList++lab:=by rw[←Vg,hlab]
 have emk:T3 (ahead.data.toList++lab)=ahead++sl:=by rw[←ekey,MY]
 rw[Hn]at hl hk;refine Join.intro (fun t h'=>OwnS eh 2 af (fun y=>h.size≤y) h' t (vp (ahead.data.toList++lab) w)∧Upd No h h') (fun R hR=>?_) ?_
 ·refine EZ r fun v hv=>?_
  cases w with
  |none=>exact ag.2 (hR _ _ ⟨OwnS.nil f9,Upd.refl _ _⟩)
  |some u=>
   refine ax.2 ?_;have:=hv u rfl;subst this;refine bq ?_;refine vF (p:=(ahead++sl,v)) (M:=fun y=>h.size≤y) (out:= []) (so:=⟨none,0,0⟩) (OwnS.nil f9) (fun _ h=>h) (by simp) fun s1 h1 ho1 k1=>hR _ _ ⟨?_,k1.mono fun y hy=>.inr hy⟩
   rw[show vp (ahead.data.toList++lab) (some v)= []++ [(ahead++sl,v)] by unfold vp;rw[emk];rfl]
   exact ho1
 rintro t h1 ⟨ho1,k1⟩;refine B4 (r.upd0 k1) (mA nk.can) fun s2 h2 ks ho2 hL2 k2=>?_
 have hs2:Sl rI 1 No h2 s2 ks:=ho2.sl fun _ _ _ h=>h
 have hlen:=hs2.len;rw[hL2.1]at hlen;have h256:=mA nk.can;simp only at h256;have z1:=k1.size;have z2:=k2.size;have hs2:Sl rI 1 (fun y=>h.size≤y∧(y<h1.size∨h2.size≤y)) h2 s2 ks:=ho2.sl fun y hy hl hw=>by omega
 refine LoopP.ghost (fun(i:Nat) (t:SliceV×Int) h3=>OwnS eh 2 af (fun y=>h.size≤y∧(y<h1.size∨h2.size≤y)) h3 t.1 (vp (ahead.data.toList++lab) w++(F.toL.take i).flatMap (pp (ahead.data.toList++lab)))∧t.2=(i:Int)∧i≤F.toL.length∧Upd (fun y=>h.size≤y∧(y<h1.size∨h2.size≤y)) h2 h3) (fun i=>F.toL.length-i) 0 ⟨?_,rfl,bC _,Upd.refl _ _⟩ ?_
 ·rw[List.take_zero,kN,aK]
  exact(ho1.within.more fun y hy=>⟨hy.1,.inl hy.2⟩).upd k2 fun _ _ h=>h
 rintro I i ⟨ta,ti⟩ h3 ⟨ho3,e3,hi,hu⟩ hI;simp only at ho3 e3;subst e3;have hle:((F.toL.take (i+1)).flatMap (pp (ahead.data.toList++lab))).length≤(F.toL.flatMap (pp (ahead.data.toList++lab))).length:=PR _ _;rw[ac]at hl;refine aB (fun hlt=>?_) fun hge=>?_
 ·have hlt:i<F.toL.length:=by have:(i:Int)<(s2.len:Int):=hlt;omega
  have hL3:=hL2.updN hu fun y hy=>.inl hy.1
  obtain⟨kb,ksl,hki,hkl,hkn⟩:=hL3.at hlt;obtain⟨a,ha,_,hv⟩:=(hs2.upd hu fun _ h=>.inl h).at0 hki
  refine Join.plain ⟨⟨by simp only;omega,by simp only;omega⟩,a,ha,some ⟨kb,0,none⟩,hv,?_⟩
  have hst:(F.toL.take (i+1)).flatMap (pp (ahead.data.toList++lab))=(F.toL.take i).flatMap (pp (ahead.data.toList++lab))++pp (ahead.data.toList++lab) F.toL[i]:=by
   rw[List.take_succ_eq_append_getElem hlt,bJ];simp
  rw[hst,ac]at hle;have hmem:=List.getElem_mem hlt;generalize F.toL[i]=m at hkl hkn hst hle hmem;refine ih m hmem hkn hkl (by rw[ekey];exact nk.kid hmem) (by rw[ekey];omega) fun s4 h4 ho4 hu4=>?_
  rw[ekey]at ho4;refine⟨_,(ho4.sl (W:=No) fun _ _ _ h=>h).srow,?_⟩
  have z3:=hu.size;have z4:=hu4.size;refine AppP.own (ys:=pp (ahead.data.toList++lab) m) (ho3.upd hu4 fun _ _ h=>h) ho4.len rfl (ww _) rfl (by omega) (by rw[ac];omega) ⟨by omega,.inr (by omega)⟩ fun s5 h5 ho5 hu5=>?_
  rw[ic hlt (by omega)];refine hI (i+1) _ _ ⟨?_,rfl,hlt,(hu.tr hu4.wide).tr hu5⟩ (by omega);rw[hst,←al];exact ho5
 ·have hil:i=F.toL.length:=by have:¬(i:Int)<(s2.len:Int):=hge;omega
  subst hil;rw[List.take_length]at ho3;exact hk _ h3 (ho3.more fun y hy=>hy.1) ((k1.tr k2).trans hu fun y hy=>.inr hy.1)
theorem BU:∀{F:Fo},fK F→∀n∈F.toL,Sn n
 | .nil,_,n,hn=>by simp[Fo.toL]at hn
 | .cons lab w kids rest,h,n,hn=>by
  rcases az.1 hn with rfl|hn
  ·exact JZ (BU h.2.2.1)
  ·exact BU h.2.2.2.2 n hn
theorem Q0{n:Bn}{W:Nat→Prop}{h:ad}{b:Nat}{sl:ByteArray}{ahead:ByteArray}(r:RxN W h b sl n.2.1 n.2.2)(e:sl.data.toList=n.1)(nk:NodeK n ahead.data.toList)(hl:(pp ahead.data.toList n).length≤1000000){K:SliceV→ad→Prop}(hk:∀s' h',OwnS eh 2 af (fun y=>h.size≤y) h' s' (pp ahead.data.toList n)→Upd No h h'→K s' h'):HC PG jV [.pointer (some ⟨b,0,none⟩),.string ahead] [.c .slice] K h:=
 JZ (BU nk.can) r e nk hl hk
theorem Dn{W:Nat→Prop}{h:ad}{b:Nat}{sl key:ByteArray}{w:Option ByteArray}{F:Fo}(r:RxN W h b sl w F){K:SliceV→ad→Prop}(hk:∀s' h',OwnS eh 2 af (fun y=>h.size≤y) h' s' (vp key.data.toList w)→Upd No h h'→K s' h'):HC PG wO [.pointer (some ⟨b,0,none⟩),.string key] [.c .slice] K h:=by
 refine NV _ key ?_;unfold Ge lj jG;refine EZ r fun v hv=>?_
 cases w with
 |none=>exact ax.2 (hk _ h (OwnS.nil f9) (Upd.refl _ _))
 |some u=>
  have:=hv u rfl;subst this;refine ag.2 (aW fun h1 b1 k1=>?_)
  refine hk _ h1 ⟨rfl,f9,aq _,.inr ⟨h.size,[],rfl,aq _,?_,rfl⟩⟩ k1;rw[b1];unfold vp;rw[MY];rfl
end Go.Proofs
namespace Go.Proofs
open Go Go.Lift
theorem SX{α:Type}{f:α→List Value}{sz:Nat}{W:Nat→Prop}{h:ad}{s:SliceV}{p:α}{l:List α}(hs:Sl f sz W h s (p::l))(hc:s.len≤s.cap):Sl f sz W h ⟨aU s.a 1 s.cap sz,s.len-1,s.cap-1⟩ l:=by
 have hl:=hs.len;rw[ak]at hl;have:=Sl.sub hs (l:=1) (hi:=s.len) (m:=s.cap) (c:=s.cap-1) (by omega) (by rw[ak];omega) hc;rw[show((p::l).drop 1).take (s.len-1)=l by rw[List.drop_succ_cons,List.drop_zero];exact List.take_of_length_le (by omega)]at this
 exact this
theorem S7{W W':Nat→Prop}{h:ad}{b:Nat}{sl sl':ByteArray}{w w':Option ByteArray}{F F':Fo}(r:RxN W h b sl w F)(r':RxN W' h b sl' w' F'):sl=sl'∧w=w'∧F=F':=by
 obtain⟨val,s,ow,ks,e2,e3,e4,e5,e6⟩:=r;obtain⟨val',s',ow',ks',f2,f3,f4,f5,f6⟩:=r';rw[e2]at f2;simp only[bO.injEq,Obj.cells.injEq,and_true]at f2;obtain⟨g1,g2,rfl,rfl⟩:=Ow f2;have:=Sl.det Ov e4 f4;subst this;exact⟨g1,OF g2 e3 f3,Mw e6 f6⟩
theorem RxN.plain{W:Nat→Prop}{h:ad}{b:Nat}{sl:ByteArray}{w:Option ByteArray}{F:Fo}(r:RxN W h b sl w F):fQ h ⟨b,0,none⟩:=by
 obtain⟨val,s,ow,ks,hb,_⟩:=r;exact MN hb (by simp[B6])
def NdO(W:Nat→Prop)(h:ad)(pre:List UInt8)(r:Option Addr)(A:List Pr):Prop:=(r=none∧A= [])∨∃b sl n,r=some ⟨b,0,none⟩∧RxN W h b sl n.2.1 n.2.2∧sl.data.toList=n.1∧NodeK n pre∧A=pp pre n
theorem NdO.upd0{W:Nat→Prop}{h h':ad}{pre:List UInt8}{r:Option Addr}{A:List Pr}(k:Upd No h h')(o:NdO W h pre r A):NdO W h' pre r A:=o.imp id fun⟨b,sl,n,e1,e2,e3⟩=>⟨b,sl,n,e1,e2.upd0 k,e3⟩
theorem JY{W:Nat→Prop}{h:ad}{ahead:ByteArray}{r:Option Addr}{A:List Pr}(o:NdO W h ahead.data.toList r A)(hl:A.length≤1000000){K:SliceV→ad→Prop}(hk:∀s' h',OwnS eh 2 af (fun y=>h.size≤y) h' s' A→Upd No h h'→K s' h'):HC PG jV [.pointer r,.string ahead] [.c .slice] K h:=by
 rcases o with⟨rfl,rfl⟩|⟨b,sl,n,rfl,r,e,nk,rfl⟩
 ·refine DE none ahead ?_
  unfold yj aL bZ xx lj jG oT;exact ax.2 (hk _ h (OwnS.nil f9) (Upd.refl _ _))
 ·exact Q0 r e nk hl hk
theorem Au{W C:Nat→Prop}{h:ad}{ahead:ByteArray}{r r':Option Addr}{A B:List Pr}{L:List Ch}{sb:Nat}{z:Hs}(o:NdO W h ahead.data.toList r A)(o':NdO W h ahead.data.toList r' B)(st:SetAt C h sb z L)(hA:A.length≤1000000)(hB:B.length≤1000000)(hL:L.length+A.length+B.length≤10000000){G:Unit→ad→Prop}(hk:Qe C h sb z (L++iC A B) (G ())):
  HC PG jV [.pointer r,.string ahead] [.c .slice] (fun(e8:SliceV) h9=>HC PG jV [.pointer r',.string ahead] [.c .slice] (fun(e10:SliceV) h11=>HC PG im [.pointer (some ⟨sb,0,none⟩),.slice e8.a e8.len e8.cap,.slice e10.a e10.len e10.cap] [] (fun(_:Unit) h13=>G () h13) h11) h9) h:=by
 refine JY o hA fun s1 h1 ho1 k1=>JY (o'.upd0 k1) hB fun s2 h2 ho2 k2=>?_
 have s1z:=k1.size;obtain⟨_,hsb,_⟩:=st.ex;have zsb:=bd hsb;have ho1':=ho1.upd k2 fun _ _ h=>h
 refine AJ (st.upd0 (k1.tr k2)) (ho1'.sl fun y hy _ hw=>?_) (ho2.sl fun y hy _ hw=>?_) ho1.cap ho2.cap (by omega) fun h3 C3 st3 hC3 hu3=>?_
 ·rcases hw with h|h
  ·have:=st.lt y h;omega
  ·omega
 ·rcases hw with h|h
  ·have:=st.lt y h;omega
  ·omega
 ·have s2z:=k2.size
  exact hk h3 C3 st3 (fun y hy=>(hC3 y hy).imp id fun h=>by omega) ((k1.tr k2).wide.tr hu3)
theorem G8{W C:Nat→Prop}{h:ad}{ahead:ByteArray}{r r':Option Addr}{A B:List Pr}{L:List Ch}{sb:Nat}{z:Hs}(o:NdO W h ahead.data.toList r A)(o':NdO W h ahead.data.toList r' B)(hn:r=none∨r'=none)(st:SetAt C h sb z L)(hA:A.length≤1000000)(hB:B.length≤1000000)(hL:L.length+A.length+B.length≤10000000){K:Unit→ad→Prop}(hk:Qe C h sb z (L++iC A B) (K ())):
  HC PG il [.pointer (some ⟨sb,0,none⟩),.pointer r,.pointer r',.string ahead] [] K h:=by
 refine vL _ r r' ahead ?_;unfold rm aL bZ TR xx Ik;refine⟨trivial,fun a a' e e'=>by rcases hn with h|h<;>simp_all,CondP.intro (fun e=>?_) fun e=>?_⟩
 ·have er:r=r':=by simpa using e
  have hr:r=none∧r'=none:=by rcases hn with h|h<;>simp_all
  obtain⟨rfl,rfl⟩:=hr;obtain rfl:A= []:=by rcases o with⟨_,h⟩|⟨_,_,_,h,_⟩;exact h;cases h
  obtain rfl:B= []:=by rcases o' with⟨_,h⟩|⟨_,_,_,h,_⟩;exact h;cases h
  exact hk h C (by rw[iW,jc,aK];exact st) (fun _ h=>.inl h) (Upd.refl _ _)
 ·refine Join.intro (fun t h'=>t=true∧h'=h) (fun R hR=>?_) ?_
  ·rcases hn with rfl|rfl
   ·exact ax.2 (hR _ _ ⟨rfl,rfl⟩)
   ·exact CondP.intro (fun _=>hR _ _ ⟨rfl,rfl⟩) fun _=>ax.2 (hR _ _ ⟨rfl,rfl⟩)
  ·rintro t h' ⟨rfl,rfl⟩
   exact ax.2 (Au o o' st hA hB hL hk)
theorem Tv{sl:ByteArray}{l:List UInt8}(e:sl.data.toList=l)(hl:l≠[]):∃c:UInt8,(0:Int)≤0∧sl[(0:Int).toNat]? =some c∧c.toNat=hd l:=by
 match l,hl with
 |c::l,_=>
  refine⟨c,Int.le_refl _,?_,rfl⟩;have hs:0<sl.size:=by
   have:sl.data.toList.length=sl.size:=oA;rw[←this,e];simp
  have:sl.data[0]? =some c:=by rw[←Array.getElem?_toList,e];rfl
  rw[show(0:Int).toNat=0 from rfl]
  rw[getElem?_pos sl 0 hs];rw[Array.getElem?_eq_getElem hs]at this;exact this
def NF(n:Bn):Prop:=∀{W C:Nat→Prop} {h:ad} {b b':Nat} {sl sl' ahead:ByteArray} {n':Bn} {L:List Ch} {sb:Nat} {z:Hs},RxN W h b sl n.2.1 n.2.2→sl.data.toList=n.1→RxN W h b' sl' n'.2.1 n'.2.2→sl'.data.toList=n'.1→NodeK n ahead.data.toList→NodeK n' ahead.data.toList→SetAt C h sb z L→
 (∀y,C y∨y=sb→W y)→(∀y,h.size≤y→W y)→(pp ahead.data.toList n).length≤1000000→(pp ahead.data.toList n').length≤1000000→L.length+(pp ahead.data.toList n).length+(pp ahead.data.toList n').length≤10000000→
 ∀{K:Unit→ad→Prop},Qe C h sb z (L++iC (pp ahead.data.toList n) (pp ahead.data.toList n')) (K ())→HC PG il [.pointer (some ⟨sb,0,none⟩),.pointer (some ⟨b,0,none⟩),.pointer (some ⟨b',0,none⟩),.string ahead] [] K h
theorem lN{key:List UInt8}{P:List Pr}{L:List Bn}(h:∀n∈L,∀p∈P,∀q∈pp key n,kl p.1 q.1):∀p∈P,∀q∈L.flatMap (pp key),kl p.1 q.1:=by
 intro p hp q hq;obtain⟨n,hn,hq⟩:=List.mem_flatMap.1 hq;exact h n hn p hp q hq
set_option maxHeartbeats 1000000 in
theorem G9{lab:List UInt8}{w:Option ByteArray}{F:Fo}(ih:∀n∈F.toL,NF n):NF (lab,w,F):=by
 intro W C h b b' sl sl' ahead n' L sb z r e r' e' nk nk' st hCW hWn hA hB hL K hk;obtain⟨lab',w',F'⟩:=n';simp only at r e r' e';refine vL _ _ _ ahead ?_;unfold rm aL bZ TR xx Ik;refine⟨trivial,fun a a' e1 e2=>by cases e1;cases e2;exact⟨r.plain,r'.plain⟩,CondP.intro (fun e1=>?_) fun e1=>?_⟩
 ·obtain rfl:b=b':=by simpa using e1
  obtain⟨rfl,rfl,rfl⟩:=S7 r r';subst e e';exact hk h C (by rw[AZ,aK];exact st) (fun _ h=>.inl h) (Upd.refl _ _)
 clear e1;refine Join.intro (fun t h'=>h'=h∧t= !(decide (sl=sl'))) (fun R hR=>?_) ?_
 ·refine ag.2 (ag.2 (mQ r (mQ r' (hR _ _ ⟨rfl,?_⟩))))
  have eb:(sl.toList==sl'.toList)=decide (sl=sl'):=gj;rw[eb]
 rintro t h0 ⟨rfl,et⟩;by_cases hsl:sl=sl'
 rotate_left
 ·rw[decide_eq_false hsl]at et
  subst et;refine ax.2 ?_;exact Au (.inr ⟨b,sl,(lab,w,F),rfl,r,e,nk,rfl⟩) (.inr ⟨b',sl',(lab',w',F'),rfl,r',e',nk',rfl⟩) st hA hB hL hk
 rw[decide_eq_true hsl]at et;subst et hsl;obtain rfl:lab=lab':=by rw[←e,←e']
 refine ag.2 (mQ r ?_);have hkl:=nk.len;simp only at hkl;have esz:∀k:ByteArray,k.size=k.data.toList.length:=fun k=>by rw[oA];rfl
 have e1:=esz ahead;have e2:=esz sl;rw[e]at e2;refine⟨by omega,?_⟩;have ekey:(ahead++sl).data.toList=ahead.data.toList++lab:=by rw[←Vg,e]
 rw[Hn,ac]at hA hB;rw[Hn,Hn,ac,ac]at hL;rw[Hn,Hn]at hk;have hcF:=dY.1 nk.can;have hcF':=dY.1 nk'.can;have hkid:∀m∈F.toL,NodeK m (ahead++sl).data.toList:=fun m hm=>by rw[ekey];exact nk.kid hm
 have hkid':∀m∈F'.toL,NodeK m (ahead++sl).data.toList:=fun m hm=>by rw[ekey];exact nk'.kid hm
 rw[←ekey]at hA hB hL hk;generalize ahead++sl=key at ekey hkid hkid' hA hB hL hk⊢;have hown:∀{u:Option ByteArray},bj (vp key.data.toList u):=fun{u}=>by cases u<;>simp[vp,bj]
 rw[Es hown hown (lN fun m hm=>IJ (hcF.2 m hm).1) (lN fun m hm=>IJ (hcF'.2 m hm).1) (lN fun m hm=>IJ (hcF.2 m hm).1) (lN fun m hm=>IJ (hcF'.2 m hm).1),←al]at hk
 refine Dn r fun s1 h1 ho1 k1=>Dn (r'.upd0 k1) fun s2 h2 ho2 k2=>?_
 have k12:=k1.tr k2;have s1z:=k1.size;have s2z:=k2.size;obtain⟨_,hsb,_⟩:=st.ex;have zsb:=bd hsb;refine AJ (st.upd0 k12) ((ho1.upd k2 fun _ _ h=>h).sl fun y hy _ hw=>?_) (ho2.sl fun y hy _ hw=>?_) ho1.cap ho2.cap (by omega) fun h3 C3 st3 hC3 hu3=>?_
 ·rcases hw with h|h
  ·have:=st.lt y h;omega
  ·omega
 ·rcases hw with h|h
  ·have:=st.lt y h;omega
  ·omega
 have hlo:∀u v:Option ByteArray,(iC (vp key.data.toList u) (vp key.data.toList v)).length≤(vp key.data.toList u).length+(vp key.data.toList v).length:=fun u v=>uq hown hown
 have hlo:=hlo w w';generalize iC (vp key.data.toList w) (vp key.data.toList w')=X at st3 hk hlo;generalize (vp key.data.toList w).length=x1 at hA hL hlo;generalize (vp key.data.toList w').length=x2 at hB hL hlo;have hM3:∀y,C y∨y=sb→W y∨h2.size≤y:=fun y hy=>.inl (hCW y hy)
 have s3z:=hu3.size;refine B4 ((r.upd0 k12).updM hu3 hM3) (mA nk.can) fun s4 h4 ks ho4 hL4 k4=>?_
 refine B4 (((r'.upd0 k12).updM hu3 hM3).upd0 k4) (mA nk'.can) fun s5 h5 ks' ho5 hL5 k5=>?_
 have s4z:=k4.size;have s5z:=k5.size;obtain⟨_,hsb3,_⟩:=st3.ex;have zsb3:=bd hsb3;have st5:=st3.upd0 (k4.tr k5);have hW5:∀y,h5.size≤y→W y:=fun y hy=>hWn y (by omega)
 have hC3W:∀y,C3 y∨y=sb→W y:=fun y hy=>hy.elim (fun h=>(hC3 y h).elim (fun h=>hCW y (.inl h)) fun h=>hWn y (by omega)) fun h=>hCW y (.inr h)
 have hv4:Sl rI 1 (fun y=>C3 y∨y=sb∨h5.size≤y) h5 s4 ks:=(ho4.sl (W:=fun y=>C3 y∨y=sb∨h5.size≤y) fun y hy hl hw=>by
  rcases hw with h|h|h
  ·have:=st3.lt y h;omega
  ·omega
  ·omega).upd k5 fun _ h=>h.elim
 have hv5:Sl rI 1 (fun y=>C3 y∨y=sb∨h5.size≤y) h5 s5 ks':=ho5.sl (W:=fun y=>C3 y∨y=sb∨h5.size≤y) fun y hy hl hw=>by
  rcases hw with h|h|h
  ·have:=st3.lt y h;omega
  ·omega
  ·omega
 have hku:Upd (fun y=>C y∨y=sb) h0 h5:=(k12.wide.tr hu3).tr (k4.tr k5).wide
 have hC5:∀y,C3 y→C y∨h0.size≤y:=fun y hy=>(hC3 y hy).imp id fun h=>by omega
 refine LoopP.ghost (fun(g:(List (Option Addr)×List Bn)×(List (Option Addr)×List Bn)×List Ch×(Nat→Prop)) (t:SliceV×SliceV) h'=>SetAt g.2.2.2 h' sb z g.2.2.1∧(∀y,g.2.2.2 y→C3 y∨h5.size≤y)∧Upd (fun y=>C3 y∨y=sb) h5 h'∧Sl rI 1 (fun y=>C3 y∨y=sb∨h5.size≤y) h' t.1 g.1.1∧Sl rI 1 (fun y=>C3 y∨y=sb∨h5.size≤y) h' t.2 g.2.1.1∧t.1.len≤t.1.cap∧t.2.len≤t.2.cap∧
   RxL W h' g.1.1 g.1.2∧RxL W h' g.2.1.1 g.2.1.2∧(∀m∈g.1.2,m∈F.toL)∧(∀m∈g.2.1.2,m∈F'.toL)∧g.1.2.Pairwise (fun m n=>hd m.1<hd n.1)∧g.2.1.2.Pairwise (fun m n=>hd m.1<hd n.1)∧
   g.2.2.1++iC (g.1.2.flatMap (pp key.data.toList)) (g.2.1.2.flatMap (pp key.data.toList))=(L++X)++iC (F.toL.flatMap (pp key.data.toList)) (F'.toL.flatMap (pp key.data.toList))∧
   g.2.2.1.length+(g.1.2.flatMap (pp key.data.toList)).length+(g.2.1.2.flatMap (pp key.data.toList)).length≤10000000∧(g.1.2.flatMap (pp key.data.toList)).length≤1000000∧(g.2.1.2.flatMap (pp key.data.toList)).length≤1000000)
  (fun g=>g.1.2.length+g.2.1.2.length) ((ks,F.toL),(ks',F'.toL),L++X,C3)
  ⟨st5,fun _ h=>.inl h,Upd.refl _ _,hv4,hv5,ho4.cap,ho5.cap,hL4.upd0 k5,hL5,fun _ h=>h,fun _ h=>h,hcF.1,hcF'.1,rfl,by rw[ac];simp only;omega,by(try simp only);omega,by(try simp only);omega⟩ ?_
 rintro I ⟨⟨ka,La⟩,⟨kb,Lb⟩,L1,C1⟩ ⟨t1,t2⟩ h1' ⟨st1,hC1,hu1,hs1,hs2,hc1,hc2,hRa,hRb,hma,hmb,hpa,hpb,he,hl1,hl2,hl3⟩ hI;simp only at st1 hC1 hs1 hs2 hc1 hc2 hRa hRb hma hmb hpa hpb he hl1 hl2 hl3;have z1:t1.len=La.length:=hs1.len.trans hRa.1;have z2:t2.len=Lb.length:=hs2.len.trans hRb.1;have hC1W:∀y,C1 y∨y=sb→W y:=fun y hy=>hy.elim (fun h=>(hC1 y h).elim (fun h=>hC3W y (.inl h)) (hW5 y)) fun h=>hC3W y (.inr h)
 have hW1:∀y,h1'.size≤y→W y:=fun y hy=>hW5 y (aZ hu1.size hy)
 have go:∀(c:List Ch) (u1 u2:SliceV) (ka2 kb2:List (Option Addr)) (A2 B2:List Bn) (h2:ad) (C2:Nat→Prop),SetAt C2 h2 sb z (L1++c)→(∀y,C2 y→C1 y∨h1'.size≤y)→Upd (fun y=>C1 y∨y=sb) h1' h2→iC (La.flatMap (pp key.data.toList)) (Lb.flatMap (pp key.data.toList))=c++iC (A2.flatMap (pp key.data.toList)) (B2.flatMap (pp key.data.toList))→
   c.length+(A2.flatMap (pp key.data.toList)).length+(B2.flatMap (pp key.data.toList)).length≤(La.flatMap (pp key.data.toList)).length+(Lb.flatMap (pp key.data.toList)).length→(A2.flatMap (pp key.data.toList)).length≤1000000→(B2.flatMap (pp key.data.toList)).length≤1000000→
   Sl rI 1 (fun y=>C3 y∨y=sb∨h5.size≤y) h1' u1 ka2→Sl rI 1 (fun y=>C3 y∨y=sb∨h5.size≤y) h1' u2 kb2→u1.len≤u1.cap→u2.len≤u2.cap→RxL W h1' ka2 A2→RxL W h1' kb2 B2→A2.Sublist La→B2.Sublist Lb→A2.length+B2.length<La.length+Lb.length→I (u1,u2) h2:=by
  intro c u1 u2 ka2 kb2 A2 B2 h2 C2 st2 hC2 hu2 ec hlc hlA hlB v1 v2 w1 w2 ra rb sa sb' hlt;have hm:∀y,C1 y∨y=sb→(C3 y∨y=sb∨h5.size≤y)∨h1'.size≤y:=fun y hy=>.inl (hy.elim (fun h=>(hC1 y h).imp id .inr) fun h=>.inr (.inl h))
  have hmW:∀y,C1 y∨y=sb→W y∨h1'.size≤y:=fun y hy=>.inl (hC1W y hy)
  refine hI ((ka2,A2),(kb2,B2),L1++c,C2) (u1,u2) h2 ⟨st2,fun y hy=>?_,?_,v1.upd hu2 hm,v2.upd hu2 hm,w1,w2,ra.updN hu2 hmW,rb.updN hu2 hmW,fun m hm=>hma m (sa.subset hm),fun m hm=>hmb m (sb'.subset hm),hpa.sublist sa,hpb.sublist sb',?_,?_,hlA,hlB⟩ hlt
  ·rcases hC2 y hy with h|h
   ·exact hC1 y h
   ·exact .inr (aZ hu1.size h)
  ·exact hu1.trans hu2 fun y hy=>hy.elim (fun h=>(hC1 y h).imp .inl id) fun h=>.inl (.inr h)
  ·show(L1++c)++_=_
   rw[al,←ec,he]
  ·show(L1++c).length+(A2.flatMap (pp key.data.toList)).length+(B2.flatMap (pp key.data.toList)).length≤10000000
   rw[ac];omega
 refine Join.intro (fun t h'=>h'=h1'∧(t=true↔La≠[]∨Lb≠[])) (fun R hR=>?_) ?_
 ·refine aB (fun hp=>hR _ _ ⟨rfl,?_⟩) fun hp=>hR _ _ ⟨rfl,?_⟩
  ·have hp:(t1.len:Int)>0:=hp
   simp only[true_iff];left;intro e;rw[e]at z1;simp only[aJ]at z1;omega
  ·have hp:¬(t1.len:Int)>0:=hp
   have e1:La= []:=aw.1 (by omega);show decide ((t2.len:Int)>0)=true↔_
   rw[decide_eq_true_iff];constructor
   ·intro h;right;intro e;rw[e]at z2;simp only[aJ]at z2;omega
   ·intro h
    rcases h with h|h
    ·exact absurd e1 h
    ·have:=kr.2 h;omega
 rintro t h6 ⟨rfl,ht⟩;refine CondP.intro (fun et=>?_) fun et=>?_
 rotate_left
 ·have hn:La= []∧Lb= []:=by
   rw[et]at ht;constructor
   ·exact Decidable.byContradiction fun h=>absurd (ht.2 (.inl h)) (by simp)
   ·exact Decidable.byContradiction fun h=>absurd (ht.2 (.inr h)) (by simp)
  obtain⟨rfl,rfl⟩:=hn;rw[kN,iW,jc,aK]at he;subst he;exact hk h6 C1 st1 (fun y hy=>(hC1 y hy).elim (hC5 y) fun h=>.inr (by omega)) (hku.trans hu1 fun y hy=>hy.elim (fun h=>(hC5 y h).imp .inl id) fun h=>.inl (.inr h))
 have hne:=ht.1 et;clear ht et;have hna:∀m∈La,m.1≠[]:=fun m hm=>(hcF.2 m (hma m hm)).1
 have hnb:∀m∈Lb,m.1≠[]:=fun m hm=>(hcF'.2 m (hmb m hm)).1
 refine Join.intro (fun t h'=>h'=h6∧((t=true∧∃a A',La=a::A'∧∀q∈Lb,hd a.1<hd q.1)∨(t=false∧∃b B',Lb=b::B'∧(La= []∨∃a A',La=a::A'∧¬hd a.1<hd b.1)))) (fun R hR=>?_) ?_
 ·rcases Lb with _|⟨q,B'⟩
  ·rcases La with _|⟨a,A'⟩
   ·exact absurd hne (by simp)
   rw[show(((t2.len:Nat):Int)==0)=true by rw[z2];rfl]
   exact ax.2 (hR _ _ ⟨rfl,.inl ⟨rfl,a,A',rfl,fun q hq=>absurd hq gp⟩⟩)
  ·rw[ak]at z2
   rw[show(((t2.len:Nat):Int)==0)=false by rw[beq_eq_false_iff_ne];omega]
   refine ag.2 ?_;rcases La with _|⟨a,A'⟩
   ·rw[aJ]at z1
    rw[decide_eq_false (show ¬((t1.len:Int)>0) by omega)]
    exact ag.2 (hR _ _ ⟨rfl,.inr ⟨rfl,q,B',rfl,.inl rfl⟩⟩)
   ·rw[ak]at z1
    rw[decide_eq_true (show((t1.len:Int)>0) by omega)]
    obtain⟨b1,l1,g1,g2,g3⟩:=hRa.at (i:=0) (nY _);obtain⟨b2,l2,f1,f2,f3⟩:=hRb.at (i:=0) (nY _);simp only[fp]at g2 g3 f2 f3;obtain⟨a1,ha1,_,v1⟩:=hs1.at0 g1;obtain⟨a2,ha2,_,v2⟩:=hs2.at0 f1;obtain⟨c1,cc1,cd1,ce1⟩:=Tv g2 (hna a (ao ..));obtain⟨c2,cc2,cd2,ce2⟩:=Tv f2 (hnb q (ao ..));refine ax.2 ⟨⟨by(try simp only);omega,by(try simp only);omega⟩,a1,ha1,_,v1,⟨by(try simp only);omega,by(try simp only);omega⟩,a2,ha2,_,v2,mQ g3 ⟨v2,c1,cc1,cd1,mQ f3 ⟨c2,cc2,cd2,hR _ _ ⟨rfl,?_⟩⟩⟩⟩
    rw[ce1,ce2];by_cases hlt:hd a.1<hd q.1
    ·refine .inl ⟨decide_eq_true (by omega),a,A',rfl,fun m hm=>?_⟩
     rcases az.1 hm with rfl|hm
     ·exact hlt
     ·exact Nat.lt_trans hlt ((aF.1 hpb).1 m hm)
    ·exact .inr ⟨decide_eq_false (by omega),q,B',rfl,.inr ⟨a,A',rfl,hlt⟩⟩
 rintro t h7 ⟨rfl,⟨rfl,a,A',rfl,hlow⟩|⟨rfl,q,B',rfl,hor⟩⟩
 ·
  rw[ak]at z1;obtain⟨b1,l1,g1,g2,g3⟩:=hRa.at (i:=0) (nY _);simp only[fp]at g2 g3;obtain⟨a1,ha1,_,v1⟩:=hs1.at0 g1;rw[aI,ac]at hl1 hl2;refine ax.2 ⟨⟨by(try simp only);omega,by(try simp only);omega⟩,a1,ha1,_,v1,?_⟩
  refine G8 (A:=pp key.data.toList a) (B:= []) (.inr ⟨b1,l1,a,rfl,g3,g2,hkid a (hma a (ao ..)),rfl⟩) (.inl ⟨rfl,rfl⟩) (.inr rfl) st1 (by omega) (bC _) (by rw[aJ];omega) fun h8 C8 st8 hC8 hu8=>?_
  refine⟨⟨by(try simp only);omega,by(try simp only);omega⟩,?_⟩
  simp only[Bd];rcases ka with _|⟨k0,ka⟩
  ·simp at g1
  have ca:=hcF.2 a (hma a (ao ..));have hp:=aF.1 hpa;refine go (iC (pp key.data.toList a) []) _ t2 ka kb A' Lb h8 C8 st8 hC8 hu8 ?_ ?_ (by omega) hl3 (SX hs1 hc1) hs2 (by show t1.len-1≤t1.cap-1;omega) hc2 (hRa.drop 1) hRb (lI ..) (.refl _) (by rw[ak];omega)
  ·rw[aI]
   exact Es (B1:= []) (rJ ca.2.2) .nil (lN fun m hm=>Dk ca.1 (hna m (aC _ hm)) (hp.1 m hm)) (lN fun m hm=>Dk ca.1 (hnb m hm) (hlow m hm)) (fun p hp=>absurd hp gp) (fun p hp=>absurd hp gp)
  ·have:=uq (rJ (pre:=key.data.toList) ca.2.2) (B:= []) .nil
   rw[aI,ac];rw[aJ]at this;omega
 refine ag.2 ?_;rw[ak]at z2;obtain⟨b2,l2,f1,f2,f3⟩:=hRb.at (i:=0) (nY _);simp only[fp]at f2 f3;obtain⟨a2,ha2,_,v2⟩:=hs2.at0 f1;obtain⟨c2,cc2,cd2,ce2⟩:=Tv f2 (hnb q (ao ..));rcases kb with _|⟨k0',kb⟩
 ·simp at f1
 have cb:=hcF'.2 q (hmb q (ao ..));have hpq:=aF.1 hpb;rw[aI (f:=pp key.data.toList),ac]at hl3;rw[aI (f:=pp key.data.toList) (x:=q),ac]at hl1;refine Join.intro (fun t h'=>h'=h7∧((t=true∧∀p∈La,hd q.1<hd p.1)∨(t=false∧∃a A',La=a::A'∧hd a.1=hd q.1))) (fun R hR=>?_) ?_
 ·rcases hor with rfl|⟨a,A',rfl,hnl⟩
  ·rw[show(((t1.len:Nat):Int)==0)=true by rw[z1];rfl]
   exact ax.2 (hR _ _ ⟨rfl,.inl ⟨rfl,fun p hp=>absurd hp gp⟩⟩)
  ·rw[ak]at z1
   rw[show(((t1.len:Nat):Int)==0)=false by rw[beq_eq_false_iff_ne];omega]
   obtain⟨b1,l1,g1,g2,g3⟩:=hRa.at (i:=0) (nY _);simp only[fp]at g2 g3;obtain⟨a1,ha1,_,v1⟩:=hs1.at0 g1;obtain⟨c1,cc1,cd1,ce1⟩:=Tv g2 (hna a (ao ..));refine ag.2 ⟨⟨by(try simp only);omega,by(try simp only);omega⟩,a2,ha2,_,v2,⟨by(try simp only);omega,by(try simp only);omega⟩,a1,ha1,_,v1,mQ f3 ⟨v1,c2,cc2,cd2,mQ g3 ⟨c1,cc1,cd1,hR _ _ ⟨rfl,?_⟩⟩⟩⟩
   rw[ce1,ce2];by_cases hlt:hd q.1<hd a.1
   ·refine .inl ⟨decide_eq_true (by omega),fun m hm=>?_⟩
    rcases az.1 hm with rfl|hm
    ·exact hlt
    ·exact Nat.lt_trans hlt ((aF.1 hpa).1 m hm)
   ·exact .inr ⟨decide_eq_false (by omega),a,A',rfl,by omega⟩
 rintro t h8 ⟨rfl,⟨rfl,hlow⟩|⟨rfl,a,A',rfl,heq⟩⟩
 ·
  refine ax.2 ⟨⟨by(try simp only);omega,by(try simp only);omega⟩,a2,ha2,_,v2,?_⟩
  refine G8 (A:= []) (B:=pp key.data.toList q) (.inl ⟨rfl,rfl⟩) (.inr ⟨b2,l2,q,rfl,f3,f2,hkid' q (hmb q (ao ..)),rfl⟩) (.inl rfl) st1 (bC _) (by omega) (by rw[aJ];omega) fun h9 C9 st9 hC9 hu9=>?_
  refine⟨⟨by(try simp only);omega,by(try simp only);omega⟩,?_⟩
  simp only[Bd];refine go (iC [] (pp key.data.toList q)) t1 _ ka kb La B' h9 C9 st9 hC9 hu9 ?_ ?_ hl2 (by omega) hs1 (SX hs2 hc2) hc1 (by show t2.len-1≤t2.cap-1;omega) hRa (hRb.drop 1) (.refl _) (lI ..) (by rw[ak];omega)
  ·rw[aI]
   exact Es (A1:= []) .nil (rJ cb.2.2) (fun p hp=>absurd hp gp) (fun p hp=>absurd hp gp) (lN fun m hm=>Dk cb.1 (hna m hm) (hlow m hm)) (lN fun m hm=>Dk cb.1 (hnb m (aC _ hm)) (hpq.1 m hm))
  ·have:=uq (A:= []) (B:=pp key.data.toList q) .nil (rJ cb.2.2)
   rw[aI,ac];rw[aJ]at this;omega
 ·
  rw[ak]at z1;obtain⟨b1,l1,g1,g2,g3⟩:=hRa.at (i:=0) (nY _);simp only[fp]at g2 g3;obtain⟨a1,ha1,_,v1⟩:=hs1.at0 g1;rcases ka with _|⟨k0,ka⟩
  ·simp at g1
  have ca:=hcF.2 a (hma a (ao ..));have hp:=aF.1 hpa;rw[aI,ac]at hl1 hl2;refine ag.2 ⟨⟨by(try simp only);omega,by(try simp only);omega⟩,a1,ha1,_,v1,⟨by(try simp only);omega,by(try simp only);omega⟩,a2,ha2,_,v2,?_⟩
  refine ih a (hma a (ao ..)) (n':=q) g3 g2 f3 f2 (hkid a (hma a (ao ..))) (hkid' q (hmb q (ao ..))) st1 hC1W hW1 (by omega) (by omega) (by omega) fun h9 C9 st9 hC9 hu9=>?_
  refine⟨⟨by(try simp only);omega,by(try simp only);omega⟩,?_⟩
  simp only[Bd];refine⟨⟨by(try simp only);omega,by(try simp only);omega⟩,?_⟩
  refine go (iC (pp key.data.toList a) (pp key.data.toList q)) _ _ ka kb A' B' h9 C9 st9 hC9 hu9 ?_ ?_ (by omega) (by omega) (SX hs1 hc1) (SX hs2 hc2) (by show t1.len-1≤t1.cap-1;omega) (by show t2.len-1≤t2.cap-1;omega) (hRa.drop 1) (hRb.drop 1) (lI ..) (lI ..) (by rw[ak,ak];omega)
  ·rw[aI,aI]
   exact Es (rJ ca.2.2) (rJ cb.2.2) (lN fun m hm=>Dk ca.1 (hna m (aC _ hm)) (hp.1 m hm)) (lN fun m hm=>Dk ca.1 (hnb m (aC _ hm)) (by rw[heq];exact hpq.1 m hm)) (lN fun m hm=>Dk cb.1 (hna m (aC _ hm)) (by rw[←heq];exact hp.1 m hm)) (lN fun m hm=>Dk cb.1 (hnb m (aC _ hm)) (hpq.1 m hm))
  ·have:=uq (rJ (pre:=key.data.toList) ca.2.2) (rJ (pre:=key.data.toList) cb.2.2)
   rw[aI,aI,ac,ac];omega
theorem zm:∀{F:Fo},fK F→∀n∈F.toL,NF n
 | .nil,_,n,hn=>by simp[Fo.toL]at hn
 | .cons lab w kids rest,h,n,hn=>by
  rcases az.1 hn with rfl|hn
  ·exact G9 (zm h.2.2.1)
  ·exact zm h.2.2.2.2 n hn
end Go.Proofs
namespace Go.Proofs
open Go Go.Lift
theorem K5{lt:Ch→Ch→Bool}(w:WO lt){M:Nat→Prop}{Iv:ad→Prop}{cmp:Value}(hc:Cmp lt BM M Iv cmp){h:ad}{s:SliceV}{A S B:List (Ch)}(ho:OwnS BM 5 bQ M h s (A++(S++B)))(hi:Iv h)(hn:s.len≤1000000000){a b:Nat}(ha:a=A.length)(hb:b=A.length+S.length){K:Unit→ad→Prop}
  (hk:∀h' R,OwnS BM 5 bQ M h' s (A++(R++B))→St lt S R→Upd M h h'→K () h'):HC PG dq [.slice s.a s.len s.cap,.int .i64 a,.int .i64 b,cmp] [] K h:=by
 subst ha hb;refine gU s A.length (A.length+S.length:Nat) cmp ?_;unfold eH aL bZ ay be bT ft jC l6;have hlen:=ho.len;simp only[ac]at hlen;have ea:IntKind.wrap .i64 ((A.length:Int)+1)=((A.length+1:Nat):Int):=by rw[dU (by omega)];omega
 rw[ea];refine LoopP.ghost (fun(g:List (Ch)×List (Ch)×List (Ch)) (t:Int) h'=>t=((A.length+max 1 g.1.length:Nat):Int)∧S=g.1++g.2.2∧(g.1= []→g.2.2= [])∧St lt g.1 g.2.1∧OwnS BM 5 bQ M h' s (A++(g.2.1++(g.2.2++B)))∧Upd M h h') (fun g=>g.2.2.length) (S.take 1,S.take 1,S.drop 1)
  ⟨?_,(aY ..).symm,fun e=>?_,⟨Eqf.rfl _,?_⟩,by rw[←al (S.take 1),aY];exact ho,Upd.refl _ _⟩ ?_
 ·simp only[aO];omega
 ·have:=congrArg List.length e
  simp only[aO,aJ]at this;exact aw.1 (by simp only[List.length_drop];omega)
 ·match S with
  | []=>exact Srt.nil
  |x::S=>exact Srt.one x
 rintro I ⟨S1,R1,T⟩ t h' ⟨e1,e2,hemp,hst,ho',hu⟩ hI;simp only at e1 e2 hemp hst ho';subst e1 e2;simp only[ac]at hlen;have hR1:=hst.eqf.len;refine aB (fun hlt=>?_) fun hge=>?_
 ·simp only[ac]at hlt
  have hS1:S1≠[]:=fun e=>by
   have:=hemp e;subst e;subst this;simp only[aJ]at hlt;omega
  have hS1l:0<S1.length:=kr.2 hS1;match T with
  | []=>simp only[aJ]at hlt;omega
  |x::T=>
   have emax:A.length+max 1 S1.length=A.length+S1.length:=by omega
   rw[emax];refine LoopP.ghost (fun(g:List (Ch)×List (Ch)) (t:Int) h2=>t=((A.length+g.1.length:Nat):Int)∧R1=g.1++g.2∧(∀y∈g.2,lt x y=true)∧OwnS BM 5 bQ M h2 s (A++(g.1++(x::(g.2++(T++B)))))∧Upd M h h2) (fun g=>g.1.length) (R1,[])
    ⟨by simp only;omega,by simp,fun y hy=>(by cases hy),by simpa using ho',hu⟩ ?_
   rintro I2 ⟨L,G⟩ t2 h2 ⟨e1,e2,hG,ho2,hu2⟩ hI2;simp only at e1 e2 hG ho2;subst e1 e2;simp only[ac]at hR1;simp only[ak]at hlen;refine Join.intro (fun t h3=>Upd M h h3∧OwnS BM 5 bQ M h3 s (A++(L++(x::(G++(T++B)))))∧(t=true→∃L' y,L=L'++ [y]∧lt x y=true)∧(t=false→∀y∈L,lt x y=false)) (fun Rj hRj=>?_) ?_
   ·refine aB (fun hgt=>?_) fun hle=>?_
    ·rcases AU L with rfl|⟨L',y,rfl⟩
     ·simp only[aJ]at hgt;omega
     have hlL:(L'++ [y]).length=L'.length+1:=by simp
     have ew:IntKind.wrap .i64 (((A.length+(L'++ [y]).length:Nat):Int)-1)=((A.length+L'.length:Nat):Int):=by rw[hlL,dU (by omega)];omega
     rw[ew];have f1:A++((L'++ [y])++(x::(G++(T++B))))=(A++L')++y::(x::(G++(T++B))):=by simp
     have f2:A++((L'++ [y])++(x::(G++(T++B))))=(A++(L'++ [y]))++x::(G++(T++B)):=by simp
     have o3:=ho2;have o4:=ho2;rw[f1]at o3;rw[f2]at o4;obtain⟨a,ha,hy⟩:=g8 o3 (i:=A.length+L'.length) (by first|omega|(simp;done)|(simp;omega))
     obtain⟨a',ha',hx⟩:=g8 o4 (i:=A.length+(L'++ [y]).length) (by first|omega|(simp;done)|(simp;omega))
     rw[ha]at ha';cases ha';refine⟨⟨by omega,by omega⟩,a,ha,x.1,hx 0 _ rfl,x.2.1,hx 1 _ rfl,x.2.2.1,hx 2 _ rfl,x.2.2.2.1,hx 3 _ rfl,x.2.2.2.2,hx 4 _ rfl,⟨by omega,by omega⟩,a,ha,y.1,hy 0 _ rfl,y.2.1,hy 1 _ rfl,y.2.2.1,hy 2 _ rfl,y.2.2.2.1,hy 3 _ rfl,y.2.2.2.2,hy 4 _ rfl,?_⟩
     refine hc.call x y (hc.step hu2 hi) fun h5 e k5 he=>?_
     rw[he];have ho5:=ho2.upd k5 fun _ _ h=>h
     refine hRj _ _ ⟨hu2.tr k5.wide,ho5,fun h=>⟨L',y,rfl,h⟩,fun h z hz=>?_⟩
     have hs:=hst.srt.left;rcases bh.1 hz with hz|hz
     ·exact w.ntr x y z h (hs.cross z hz y (aA.2 rfl))
     ·rw[aA.1 hz];exact h
    ·have hL:L= []:=aw.1 (by omega)
     exact hRj _ _ ⟨hu2,ho2,fun h=>(by cases h),fun _ y hy=>(by rw[hL]at hy;cases hy)⟩
   ·rintro t3 h3 ⟨hu3,ho3,ht,hf⟩
    cases t3 with
    |true=>
     obtain⟨L',y,rfl,hxy⟩:=ht rfl;have hlL:(L'++ [y]).length=L'.length+1:=by simp
     refine ax.2 ?_;have ew:IntKind.wrap .i64 (((A.length+(L'++ [y]).length:Nat):Int)-1)=((A.length+L'.length:Nat):Int):=by rw[hlL,dU (by omega)];omega
     rw[ew];have f1:A++((L'++ [y])++(x::(G++(T++B))))=(A++L')++y::(x::(G++(T++B))):=by simp
     have f2:(A++L')++y::(x::(G++(T++B)))=(A++(L'++ [y]))++x::(G++(T++B)):=by simp
     have f3:(A++(L'++ [y]))++y::(G++(T++B))=(A++L')++y::(y::(G++(T++B))):=by simp
     have f4:(A++L')++x::(y::(G++(T++B)))=A++(L'++(x::((y::G)++(T++B)))):=by simp
     rw[f1]at ho3;have o4:=ho3;rw[f2]at o4;obtain⟨a,ha,hy⟩:=g8 ho3 (i:=A.length+L'.length) (by first|omega|(simp;done)|(simp;omega))
     obtain⟨a',ha',hx⟩:=g8 o4 (i:=A.length+(L'++ [y]).length) (by first|omega|(simp;done)|(simp;omega))
     rw[ha]at ha';cases ha';refine⟨⟨by omega,by omega⟩,a,ha,y.1,hy 0 _ rfl,y.2.1,hy 1 _ rfl,y.2.2.1,hy 2 _ rfl,y.2.2.2.1,hy 3 _ rfl,y.2.2.2.2,hy 4 _ rfl,⟨by omega,by omega⟩,a,ha,x.1,hx 0 _ rfl,x.2.1,hx 1 _ rfl,x.2.2.1,hx 2 _ rfl,x.2.2.2.1,hx 3 _ rfl,x.2.2.2.2,hx 4 _ rfl,⟨by omega,by omega⟩,a,ha,?_⟩
     refine pT o4 y ha (by first|omega|(simp;done)|(simp;omega)) fun h5 o5 k5=>⟨⟨by omega,by omega⟩,a,ha,?_⟩
     rw[f3]at o5;refine pT o5 x ha (by first|omega|(simp;done)|(simp;omega)) fun h6 o6 k6=>?_
     rw[f4]at o6;refine hI2 (L',y::G) _ _ ⟨rfl,by simp,fun z hz=>?_,o6,(hu3.trans k5 fun b hb=>.inl hb).trans k6 fun b hb=>.inl hb⟩ (by simp only[hlL];omega)
     rcases az.1 hz with rfl|hz
     ·exact hxy
     ·exact hG z hz
    |false=>
     refine ag.2 ?_;have ew:IntKind.wrap .i64 (((A.length+S1.length:Nat):Int)+1)=((A.length+max 1 (S1.length+1):Nat):Int):=by rw[dU (by omega)];omega
     rw[ew];refine hI (S1++ [x],L++x::G,T) _ _ ⟨by simp,by simp,fun e=>(by simp at e),Ir w hst (hf rfl) hG,?_,hu3⟩ (by simp)
     have f1:A++((L++x::G)++(T++B))=A++(L++(x::(G++(T++B)))):=by simp
     rw[f1];exact ho3
 ·simp only[ac]at hge
  have hT:T= []:=by
   rcases Nat.eq_zero_or_pos S1.length with h0|h0
   ·exact hemp (aw.1 h0)
   ·exact aw.1 (by omega)
  subst hT;rw[cQ]at ho';rw[aK]at hk;exact hk h' R1 ho' hst hu
end Go.Proofs
namespace Go.Proofs
open Go Go.Lift
abbrev Ts:ByteArray:=⟨#[0,1,2,2,3,3,3,3,4,4,4,4,4,4,4,4,5,5,5,5,5,5,5,5,5,5,5,5,5,5,5,5,6,6,6,6,6,6,6,6,6,6,6,6,6,6,6,6,6,6,6,6,6,6,6,6,6,6,6,6,6,6,6,6,7,7,7,7,7,7,7,7,7,7,7,7,7,7,7,7,7,7,7,7,7,7,7,7,7,7,7,7,7,7,7,7,7,7,7,7,7,7,7,7,7,7,7,7,7,7,7,7,7,7,7,7,7,7,7,7,7,7,7,7,7,7,7,7,8,8,8,8,8,8,8,8,8,8,8,8,8,8,8,8,8,8,8,8,8,8,8,8,8,8,8,8,8,8,8,8,8,8,8,8,8,8,8,8,8,8,8,8,8,8,8,8,8,8,8,8,8,8,8,8,8,8,8,8,8,8,8,8,8,8,8,8,8,8,8,8,8,8,8,8,8,8,8,8,8,8,8,8,8,8,8,8,8,8,8,8,8,8,8,8,8,8,8,8,8,8,8,8,8,8,8,8,8,8,8,8,8,8,8,8,8,8,8,8,8,8,8,8,8,8,8,8]⟩
theorem Tq:∀x:Nat,x<256→∃c:UInt8,Ts[x]? =some c∧c.toNat≤8∧(1≤x→2^c.toNat≤2*x)∧(x=0→c.toNat=0):=by
 have key:∀x:Fin 256,∃c:UInt8,Ts[x.val]? =some c∧c.toNat≤8∧(1≤x.val→2^c.toNat≤2*x.val)∧(x.val=0→c.toNat=0):=by
  intro x;have:∀x:Fin 256,(match Ts[x.val]? with|some c=>decide (c.toNat≤8∧(1≤x.val→2^c.toNat≤2*x.val)∧(x.val=0→c.toNat=0))|none=>false)=true:=by decide+kernel
  have hx:=this x;split at hx
  ·rename_i c hc
   exact⟨c,hc,of_decide_eq_true hx⟩
  ·cases hx
 exact fun x hx=>key ⟨x,hx⟩
theorem Ru{h:ad}{n:Nat}(hn:n<4294967296){K:Int→ad→Prop}(hk:∀L:Nat,L≤64→(1≤n→2^L≤2*n)→K (L:Int) h):HC PG qk [.int .u64 n] [.c (.int .i64)] K h:=by
 refine Bo n ?_;unfold uN;have fd:∀(x k:Nat),Int.fdiv (x:Int) (2^k)=((x/2^k:Nat):Int):=fun x k=>by
  rw[Int.fdiv_eq_ediv_of_nonneg _ (Int.pow_nonneg (by omega))];rw[Int.natCast_ediv,Int.natCast_pow];rfl
 refine Join.intro (fun t h'=>h'=h∧t=((n:Int),(0:Int))) (fun R hR=>?_) ?_
 ·exact aB (fun h1=>by omega) fun h1=>hR _ _ ⟨rfl,rfl⟩
 ·rintro t h' ⟨rfl,rfl⟩
  refine Join.intro (fun t h2=>h2=h'∧∃x s:Nat,t=((x:Int),(s:Int))∧x*2^s≤n∧(1≤n→1≤x)∧x<65536∧s≤16) (fun R hR=>?_) ?_
  ·refine aB (fun h1=>?_) fun h1=>hR _ _ ⟨rfl,n,0,rfl,by simp,fun h=>h,by have h1:¬(n:Int)≥65536:=h1;omega,by omega⟩
   have h1:65536≤n:=by have h1:(n:Int)≥65536:=h1;omega
   refine⟨by omega,hR _ _ ⟨rfl,n/2^16,16,?_,Nat.div_mul_le_self ..,fun _=>by omega,by omega,by omega⟩⟩
   simp only[rF.injEq];exact⟨fd n 16,by decide⟩
  ·rintro t h2 ⟨rfl,x,s,rfl,hx,hx1,hxb,hsb⟩
   refine Join.intro (fun t h3=>h3=h2∧∃x s:Nat,t=((x:Int),(s:Int))∧x*2^s≤n∧(1≤n→1≤x)∧x<256∧s≤24) (fun R hR=>?_) ?_
   ·refine aB (fun h1=>?_) fun h1=>hR _ _ ⟨rfl,x,s,rfl,hx,hx1,by have h1:¬(x:Int)≥256:=h1;omega,by omega⟩
    have h1:256≤x:=by have h1:(x:Int)≥256:=h1;omega
    refine⟨by omega,hR _ _ ⟨rfl,x/2^8,s+8,?_,?_,fun _=>by omega,by omega,by omega⟩⟩
    ·simp only[rF.injEq]
     exact⟨fd x 8,by rw[dU (by omega)];omega⟩
    ·rw[Nat.pow_add,w7 (2^s),←Nat.mul_assoc]
     exact aZ (Nat.mul_le_mul_right _ (Nat.div_mul_le_self ..)) hx
   ·rintro t h3 ⟨rfl,x,s,rfl,hx,hx1,hxb,hsb⟩
    obtain⟨c,hc,hc8,hc1,hc0⟩:=Tq x hxb;have wx:IntKind.wrap .u8 (x:Int)=(x:Int):=by
     simp[IntKind.wrap,IntKind.bits,IntKind.signed];omega
    show∃b10:UInt8,(0:Int)≤IntKind.wrap .u8 (x:Int)∧Ts[(IntKind.wrap .u8 (x:Int)).toNat]? =some b10∧_
    rw[wx];refine⟨c,by omega,by simpa using hc,?_⟩
    have wc:IntKind.wrap .i64 (c.toNat:Int)=(c.toNat:Int):=dU (by omega);have e2:IntKind.wrap .i64 ((s:Int)+IntKind.wrap .i64 (c.toNat:Int))=((s+c.toNat:Nat):Int):=by rw[wc,dU (by omega)];omega
    show K (IntKind.wrap .i64 ((s:Int)+IntKind.wrap .i64 (c.toNat:Int))) h3
    rw[e2];refine hk _ (by omega) fun h1=>?_
    have:=hc1 (hx1 h1);rw[Nat.pow_add];calc 2^s*2^c.toNat≤2^s*(2*x):=gM _ this
     _=2*(x*2^s):=by rw[w7 (2^s),Nat.mul_assoc]
     _≤2*n:=gM _ hx
theorem M2{h:ad}{n:Nat}(hn:n<4294967296){K:Int→ad→Prop}(hk:∀L:Nat,L≤64→(1≤n→2^L≤2*n)→K (L:Int) h):HC PG oX [.int .u64 n] [.c (.int .i64)] K h:=by
 refine Ea n ?_;unfold xn bT;exact Ru hn hk
def To(a b:Ch):Bool:=decide (kl a.1 b.1)
theorem woG:WO To:=by
 refine⟨fun a=>decide_eq_false (bS _),fun a b h=>decide_eq_false (Fi (of_decide_eq_true h)),fun a b c h1 h2=>decide_eq_false fun h=>?_⟩
 have h1:¬kl a.1 b.1:=of_decide_eq_false h1;have h2:¬kl b.1 c.1:=of_decide_eq_false h2;by_cases e:a.1=b.1
 ·rw[e]at h;exact h2 h
 ·exact h2 (fu (pi h1 e) h)
theorem Ub(M:Nat→Prop):Cmp To BM M (fun _=>True) (.func (.func nh) #[] #[]):=by
 refine⟨fun a b h K _ hk=>HV.mk' (LN a b ?_),fun _ h=>h⟩
 unfold DT bT jG av UB;refine aW fun h1 b1 k1=>aW fun h2 b2 k2=>?_
 refine⟨a.1,vc (k2.get0 b1) 0,b.1,vc b2 0,FG (hk h2 _ (k1.tr k2) ?_)⟩;unfold GE To;split
 ·rename_i h;rw[decide_eq_true h];rfl
 ·rename_i h
  rw[decide_eq_false h];split<;>rfl
theorem Eqf.perm{α:Type}[DecidableEq α]{lt:α→α→Bool}(w:WO lt){l l':List α}(h:Eqf lt l l'):l'.Perm l:=by
 rw[List.perm_iff_count];intro a;have e:∀m:List α,m.count a=(m.filter (H2 lt a)).count a:=fun m=>(List.count_filter (FH w a)).symm
 rw[e l',e l,h.flt a]
theorem JX{R X:List Ch}(hp:R.Perm X)(hR:Srt To R)(hX:CB X):R=X:=by
 have hk:X.Pairwise fun a b=>To b a=false:=hX.imp fun h=>decide_eq_false (Fi h)
 refine hp.eq_of_pairwise (fun a b ha hb h1 h2=>?_) hR hk
 have h1:¬kl b.1 a.1:=of_decide_eq_false h1;have h2:¬kl a.1 b.1:=of_decide_eq_false h2;have ha:=hp.mem_iff.1 ha;have e:a.1=b.1:=Decidable.byContradiction fun hne=>h1 (pi h2 hne)
 refine Decidable.byContradiction fun hne=>?_
 obtain⟨i,hi,rfl⟩:=bH ha;obtain⟨j,hj,rfl⟩:=bH hb;rcases Nat.lt_trichotomy i j with h|h|h
 ·have:=cg.1 hX i j hi hj h
  rw[e]at this;exact bS _ this
 ·subst h;exact hne rfl
 ·have:=cg.1 hX j i hj hi h
  rw[e]at this;exact bS _ this
theorem QZ{M:Nat→Prop}{h:ad}{s:SliceV}{L X:List Ch}(ho:OwnS BM 5 bQ M h s L)(hp:L.Perm X)(hX:CB X)(hn:L.length≤12){K:Unit→ad→Prop}(hk:∀h',OwnS BM 5 bQ M h' s X→Upd M h h'→K () h'):
  HC PG cz [.slice s.a s.len s.cap,.func (.func nh) #[] #[]] [] K h:=by
 refine gr s _ ?_;unfold eg bT;have hlen:=ho.len;rw[Go.IntWalk.u64_in _ (by omega)];refine M2 (by omega) fun L0 _ _=>?_
 refine jg s 0 s.len L0 _ ?_;unfold fS aL bZ ay be bT iV l6 xJ;refine LoopP.ghost (fun(_:Unit) (t:Int×Int×Int×Bool×Bool) h'=>t=(0,(s.len:Int),(L0:Int),true,true)∧h'=h) (fun _=>0) () ⟨rfl,rfl⟩ ?_
 rintro I ⟨⟩ t h' ⟨rfl,rfl⟩ _;have e:IntKind.wrap .i64 ((s.len:Int)-0)=(s.len:Int):=by rw[dU (by omega)];omega
 simp only;rw[e];rw[decide_eq_true (show(s.len:Int)≤12 by omega)]
 refine ax.2 ?_;have ho':OwnS BM 5 bQ M h' s ([]++(L++ [])):=by simpa using ho
 refine K5 (A:= []) (B:= []) (a:=0) (b:=s.len) woG (Ub M) ho' trivial (by omega) rfl (by simp;omega) fun h2 R o2 s2 k2=>?_
 rw[cQ,aK]at o2;have:=JX ((s2.eqf.perm woG).trans hp) s2.srt hX;subst this;exact hk h2 o2 k2
theorem Mn{t:Tr}{h:ad}{K:Int×Int×Int→ad→Prop}(hk:∀h',Upd No h h'→K (t.2.1,t.2.2.1,t.2.2.2.1) h'):HC PG pn [zn t] [.agg [.int .u64,.int .u64,.int .u64]] K h:=by
 refine zW t ?_;unfold tP ae aG cU mK VI VL;refine aW fun h1 b1 k1=>aW fun h2 b2 k2=>?_
 have c1:=k2.get0 b1;refine⟨_,sF c1 1 0,_,sF c1 1 1,_,sF c1 1 2,?_⟩;refine cl (c:= [.int .u64 0,.int .u64 0,.int .u64 0]) (vs:= [.int .u64 t.2.1,.int .u64 t.2.2.1,.int .u64 t.2.2.2.1]) b2 rfl fun h3 b3 hu3=>?_
 exact⟨_,vc b3 0,_,vc b3 1,_,vc b3 2,hk h3 ((k1.tr k2).own hu3 k1.size)⟩
theorem Hc{t:Tr}{h:ad}{K:Option Addr→ad→Prop}(hk:∀h',Upd No h h'→K t.2.2.2.2.2 h'):HC PG mq [zn t] [.c .ptr] K h:=by
 refine A9 t ?_;unfold uA au mK;exact aW fun h1 b1 k1=>⟨_,vc b1 5,hk h1 k1⟩
theorem Rb{W:Nat→Prop}{h:ad}{b:Nat}{l:List Pr}(t:RadAt W h b l)(hr:bj l)(hf:Fit l):∃n:Bn,n.1= []∧RxN W h b ⟨#[]⟩ n.2.1 n.2.2∧NodeK n []∧pp [] n=l:=by
 obtain⟨w,F,r1,r2,r3⟩:=t.ex;have hp:=Ox r2 hr r3;refine⟨([],w,F),rfl,r1,⟨r2,by simp,fun p hp=>?_⟩,?_⟩
 ·obtain⟨q,hq,e,_⟩:=(r3 p.1 p.2).1 hp
  have:=(hf q hq).1;rw[←e];have e2:q.1.data.toList.length=q.1.size:=oA;simp only[aJ];omega
 ·unfold pp
  show(vn w F).map (AQ ([]++ []))=l
  rw[hp];unfold Pj;rw[qC];conv=>rhs;rw[←List.map_id l]
  exact List.map_congr_left fun p _=>by unfold AQ;simp[MY]
theorem FF{W W':Nat→Prop}{x x':Hs}{h:ad}{kind kind':Int}{t u:Tr}{l l':List Pr}(i:TreeIs W h kind x t l)(i':TreeIs W' h kind' x' u l')(hr:bj l)(hf:Fit l)(hn:l.length≤60000)(hr':bj l')(hf':Fit l')(hn':l'.length≤60000)(hsort:nZ t u=true→∀{M:Nat→Prop} {h':ad} {s:SliceV} {L:List Ch} {K':Unit→ad→Prop},OwnS BM 5 bQ M h' s L→(∀b,M b→b<h'.size)→L.Perm (iC l l')→(∀h2,OwnS BM 5 bQ M h2 s (iC l l')→Upd M h' h2→K' () h2)→HC PG cz [.slice s.a s.len s.cap,.func (.func nh) #[] #[]] [] K' h'){K:SliceV×Int→ad→Prop}
  (h0:nZ t u=false→∀h',Upd No h h'→K (⟨none,0,0⟩,11) h')(hk:nZ t u=true→∀h' s',OwnS BM 5 bQ (fun y=>h.size≤y) h' s' (iC l l')→Upd No h h'→K (s',0) h'):HC PG sZ [zn t,zn u] [.c .slice,.c (.int .i64)] K h:=by
 refine Ql t u ?_;unfold Ic aM ae au kU mK bW TR UY KY bT;refine aW fun h1 b1 k1=>aW fun h2 b2 k2=>?_
 have c1:=k2.get0 b1;refine⟨_,vc c1 0,_,vc c1 1,_,vc c1 2,_,vc c1 3,_,vc c1 4,_,vc c1 5,_,vc b2 0,_,vc b2 1,_,vc b2 2,_,vc b2 3,_,vc b2 4,_,vc b2 5,?_⟩;refine Ar fun h3 k3=>?_
 have k03:=(k1.tr k2).tr k3;have c3:=k3.get0 c1;have b3:=k3.get0 b2;rcases hl:nZ t u with _|_
 ·exact ax.2 (h0 hl h3 k03)
 refine ag.2 ⟨_,vc c3 0,_,vc c3 1,_,vc c3 2,_,vc c3 3,_,vc c3 4,_,vc c3 5,?_⟩;refine Mn fun h4 k4=>?_
 refine aW fun h5 b5 k5=>?_
 have k05:=(k03.tr k4).tr k5;have c5:=k5.get0 (k4.get0 c3);have d5:=k5.get0 (k4.get0 b3);have z5:=bd b5;have s4:=(k03.tr k4).size;have s5:=k5.size;obtain⟨rfl,hx⟩:=Hy i i' hl;let z:Hs:=⟨t.2.1,t.2.2.1,t.2.2.2.1⟩
 have st:SetAt No h5 h4.size z []:=⟨⟨⟨none,0,0⟩,b5,OwnS.nil RU⟩,fun _ h=>h.elim,id⟩
 have hul:∀h6,Upd No h5 h6→∀h' C' ys,SetAt C' h' h4.size z ([]++ys)→(∀b,C' b→No b∨h6.size≤b)→Upd (fun b=>No b∨b=h4.size) h6 h'→ys.Perm (iC l l')→∃C' ys,SetAt C' h' h4.size z ys∧(∀y,C' y→h5.size≤y)∧Upd (fun y=>y=h4.size) h5 h'∧ys.Perm (iC l l'):=
  fun h6 k6 h' C' ys st' hC' hu' hp=>⟨C',ys,st',fun y hy=>(hC' y hy).elim (fun h=>h.elim) fun h=>aZ k6.size h,k6.wide.trans hu' fun b hb=>hb.elim (fun h=>h.elim) fun h=>.inl h,hp⟩
 refine Join.intro (fun _ h'=>∃C' ys,SetAt C' h' h4.size z ys∧(∀y,C' y→h5.size≤y)∧Upd (fun y=>y=h4.size) h5 h'∧ys.Perm (iC l l')) (fun R hR=>?_) ?_
 ·refine⟨_,vc c5 0,_,vc c5 1,_,vc c5 2,_,vc c5 3,_,vc c5 4,_,vc c5 5,?_⟩
  refine QU fun h6 k6=>?_
  have c6:=k6.get0 c5;have d6:=k6.get0 d5;have i6:=(i.less (W':=fun y=>h.size≤y) fun _ h=>.inr h).upd0 (k05.tr k6)
  have i6':=(i'.less (W':=fun y=>h.size≤y) fun _ h=>.inr h).upd0 (k05.tr k6)
  have hCW:∀y,No y∨y=h4.size→h.size≤y:=fun y hy=>hy.elim (fun h=>h.elim) fun e=>by omega
  rcases i6 with⟨rfl,b,rfl,tt⟩|⟨rfl,b,rfl,tt⟩
  ·rcases i6' with⟨_,b',rfl,tt'⟩|⟨e,_⟩
   ·obtain rfl:=hx rfl
    refine ag.2 ⟨_,vc c6 0,_,vc c6 1,_,vc c6 2,_,vc c6 3,_,vc c6 4,_,vc c6 5,_,vc d6 0,_,vc d6 1,_,vc d6 2,_,vc d6 3,_,vc d6 4,_,vc d6 5,?_⟩;refine BS tt fun h7 k7=>?_
    have d7:=k7.get0 d6;refine⟨⟨vc d7 0,vc d7 1,vc d7 2,vc d7 3,vc d7 4,vc d7 5⟩,?_⟩;refine BS (TrieAt.upd0 k7 tt') fun h8 k8=>?_
    have k58:=(k6.tr k7).tr k8;refine QO 13 (aq _) (TrieAt.upd0 (k7.tr k8) tt) (TrieAt.upd0 (k7.tr k8) tt') (st.upd0 k58) hCW (fun y hy=>by have:=k58.size;omega) hr hr' (by omega) (by omega) (by simp) fun ys hp h9 C9 st9 hC9 hu9=>?_
    exact hR _ _ (hul h8 k58 h9 C9 ys st9 hC9 hu9 hp)
   ·cases e
  ·rcases i6' with⟨e,_⟩|⟨_,b',rfl,tt'⟩
   ·cases e
   ·refine ax.2 ⟨_,vc c6 0,_,vc c6 1,_,vc c6 2,_,vc c6 3,_,vc c6 4,_,vc c6 5,_,vc d6 0,_,vc d6 1,_,vc d6 2,_,vc d6 3,_,vc d6 4,_,vc d6 5,?_⟩
    refine Hc fun h7 k7=>?_
    have d7:=k7.get0 d6;refine⟨⟨vc d7 0,vc d7 1,vc d7 2,vc d7 3,vc d7 4,vc d7 5⟩,?_⟩;refine Hc fun h8 k8=>?_
    have k58:=(k6.tr k7).tr k8;obtain⟨n,e1,r1,nk,hp⟩:=Rb (tt.upd0 (k7.tr k8)) hr hf;obtain⟨n',e1',r1',nk',hp'⟩:=Rb (tt'.upd0 (k7.tr k8)) hr' hf';obtain⟨lab,w,F⟩:=n;simp only at e1;subst e1;refine G9 (zm nk.can) (sl:=⟨#[]⟩) (ahead:=⟨#[]⟩) r1 rfl r1' (by rw[e1']) nk nk' (st.upd0 k58) hCW (fun y hy=>by have:=k58.size;omega) (by show(pp [] _).length≤_;rw[hp];omega) (by show(pp [] _).length≤_;rw[hp'];omega) (by show 0+(pp [] _).length+(pp [] _).length≤_;rw[hp,hp'];omega) fun h9 C9 st9 hC9 hu9=>?_
    have st9:SetAt C9 h9 h4.size z ([]++iC (pp [] ([],w,F)) (pp [] n')):=st9;rw[hp,hp']at st9;exact hR _ _ (hul h8 k58 h9 C9 _ st9 hC9 hu9 (.refl _))
 ·rintro _ h6 ⟨C6,ys,st6,hC6,hu6,hp⟩
  obtain⟨s,e6,ho6⟩:=st6.ex;refine⟨_,rfl,s,vc e6 3,?_⟩;refine hsort hl ho6 st6.lt hp fun h7 ho7 hu7=>?_
  have e7:=hu7.get e6 st6.ne;refine⟨_,rfl,s,vc e7 3,hk hl h7 s (ho7.more fun y hy=>by have:=hC6 y hy;omega) ?_⟩
  exact(k05.trans hu6 fun y hy=>.inr (by omega)).trans hu7 fun y hy=>.inr (by have:=hC6 y hy;omega)
theorem PX{W W':Nat→Prop}{x x':Hs}{h:ad}{kind kind':Int}{t u:Tr}{l l':List Pr}(i:TreeIs W h kind x t l)(i':TreeIs W' h kind' x' u l')(hr:bj l)(hf:Fit l)(hn:l.length≤60000)(hr':bj l')(hf':Fit l')(hn':l'.length≤60000)(h12:nZ t u=true→(iC l l').length≤12){K:SliceV×Int→ad→Prop}
  (h0:nZ t u=false→∀h',Upd No h h'→K (⟨none,0,0⟩,11) h')(hk:nZ t u=true→∀h' s',OwnS BM 5 bQ (fun y=>h.size≤y) h' s' (iC l l')→Upd No h h'→K (s',0) h'):HC PG sZ [zn t,zn u] [.c .slice,.c (.int .i64)] K h:=
 FF i i' hr hf hn hr' hf' hn' (fun hl {_ _ _ _ _} ho _ hp hk=>QZ ho hp (ws hr hr') (by rw[hp.length_eq];exact h12 hl) hk) h0 hk
end Go.Proofs
namespace Go.Proofs
open Go Go.Lift
theorem JR{h:ad}{b:Nat}{c:Array Value}{t:TypeId}(hb:h[b]? =some (.cells c t (0,0))):aP h ⟨b,0,none⟩=c[0]?:=bf hb
theorem P4{z:Hs}{W:Nat→Prop}{h:ad}{s:SliceV}{xs:List Pr}(h1:Sl (zG z) 3 W h s xs)(hn:xs.length*40≤140737488355328){K:SliceV→ad→Prop}
  (hk:∀s' h',OwnS (zG z) 3 bN (fun b=>h.size≤b) h' s' xs→Upd No h h'→K s' h'):HC PG eA [.slice s.a s.len s.cap] [.c .slice] K h:=by
 refine lB s ?_;unfold gE L7;refine CondP.intro (fun he=>?_) (fun hne=>?_)
 ·have he:s.a=none:=by simpa using he
  have hx:xs= []:=by
   by_cases hx:xs= []
   ·exact hx
   ·obtain⟨a,ha,_⟩:=h1.row hx
    rw[he]at ha;cases ha
  subst hx;exact hk _ _ (OwnS.nil (IY z)) (Upd.refl _ _)
 ·have h2:=h1.upd (Upd.hnew No h [] bN) (fun _ h=>h.elim)
  refine⟨_,h2.srow,?_⟩;refine AppP.own (f:=zG z) (M:=fun b=>h.size≤b) (xs:= []) (ys:=xs) ⟨rfl,IY z,aq _,.inl rfl⟩ h1.len rfl (OG z xs) rfl (by omega) (by simpa using hn) (by rw[iJ];omega) fun s' h' ho hu=>?_
  exact hk _ _ ho ((Upd.hnew No h [] bN).trans hu fun b hb=>.inr hb)
theorem PP{z:Hs}{W:Nat→Prop}{h:ad}{s:SliceV}{xs:List Pr}(hs:Sl (zG z) 3 W h s xs)(hn:xs.length≤1000000000){g:Pr→Bool}{V:Value}(hg:∀p∈xs,∀{h':ad} {K:Bool→ad→Prop},Upd No h h'→(∀h'',Upd No h' h''→K (g p) h'')→HV PG V [.agg (zG z p).toArray] [.c .bool] K h'){K:Int→ad→Prop}
  (hk:∀h' A B e,xs=A++B→(∀a∈A,g a=false)→(B= []→e= -1)→(∀b B',B=b::B'→e=(A.length:Int)∧g b=true)→Upd No h h'→K e h'):HC PG cR [.slice s.a s.len s.cap,V] [.c (.int .i64)] K h:=by
 refine kh s V ?_;unfold fU bZ aG ay Ak;have hlen:=hs.len;refine LoopP.ghost (fun(g':List Pr×List Pr) (t:Int) h'=>t=(g'.1.length:Int)∧xs=g'.1++g'.2∧(∀a∈g'.1,g a=false)∧Upd No h h') (fun g=>g.2.length) ([],xs) ⟨rfl,rfl,fun a ha=>(by cases ha),Upd.refl _ _⟩ ?_
 rintro I ⟨A,B⟩ t h' ⟨e1,e2,hA,hu⟩ hI;simp only at e1 e2 hA;subst e1 e2;simp only[ac]at hlen hn;refine aB (fun hlt=>?_) fun hge=>?_
 ·rcases B with _|⟨p,B⟩
  ·simp only[aJ]at hlen;omega
  ·obtain⟨a,ha,_,hv⟩:=(hs.upd hu fun _ h=>h.elim).at (i:=A.length) (x:=p) (by rw[List.getElem?_append_right (aq _),Nat.sub_self];rfl)
   refine⟨⟨by omega,by omega⟩,a,ha,p.1,hv 0 _ rfl,p.2,hv 1 _ rfl,gh z p.1,hv 2 _ rfl,?_⟩
   refine hg p (by simp) hu fun h2 k2=>?_
   cases hgp:g p with
   |true=>exact ax.2 (hk h2 A (p::B) _ rfl hA (fun h=>by cases h) (fun b B' e=>by cases e;exact⟨rfl,hgp⟩) (hu.tr k2))
   |false=>
    refine ag.2 ?_;have ew:IntKind.wrap .i64 ((A.length:Int)+1)=((A++ [p]).length:Int):=by simp only[ak]at hn;rw[ac,List.length_singleton,dU (by omega)];omega
    rw[ew];refine hI (A++ [p],B) _ _ ⟨rfl,by simp,fun a ha=>?_,hu.tr k2⟩ (by simp)
    rcases bh.1 ha with ha|ha
    ·exact hA a ha
    ·rw[aA.1 ha];exact hgp
 ·have hB:B= []:=aw.1 (by omega)
  subst hB;exact hk h' A [] _ rfl hA (fun _=>rfl) (fun b B' e=>by cases e) hu
abbrev atV(bl:Nat):Value:=.func (.func tD) #[] #[.pointer (some ⟨bl,0,none⟩)]
theorem FQ{z:Hs}{lev:Nat}(hl:lev<13){h:ad}{bl:Nat}{t:TypeId}(hb:h[bl]? =some (.cells #[.int .i64 (lev:Int)] t (0,0))) (p:Pr) {K:Int→ad→Prop} (hk:∀h',Upd No h h'→K (ck z lev p.1:Int) h'):
  HV PG (atV bl) [.agg (zG z p).toArray] [.c (.int .i64)] K h:=by
 refine HV.mk' (FZ (p.1,p.2,gh z p.1) ⟨bl,0,none⟩ ?_);unfold ym ae bT tc MP;refine aW fun h1 b1 k1=>?_
 exact⟨_,vc b1 2,_,JR (k1.get0 hb),P5 hl (hk h1 k1)⟩
theorem K3{a:Int}{h:ad}{K:Bool→ad→Prop}(hk:K false h):HC PG oZ [.int .i64 a] [.c .bool] K h:=by
 refine Ec a ?_;unfold xp;rw[bne_self_eq_false];exact hk
theorem P1{a b:Int}{h:ad}{K:Int→ad→Prop}(hk:∀e,decide (e<0)=decide (a<b)→K e h):HC PG ql [.int .i64 a,.int .i64 b] [.c (.int .i64)] K h:=by
 refine Bq a b ?_;unfold uP;refine K3 (K3 (ag.2 (ag.2 ?_)));refine aB (fun h1=>hk _ ?_) fun h1=>aB (fun h2=>hk _ ?_) fun h2=>hk _ ?_
 ·rw[decide_eq_true h1];rfl
 ·rw[decide_eq_false h1];rfl
 ·rw[decide_eq_false h1];rfl
def UH(z:Hs)(lev:Nat)(a b:Pr):Bool:=decide (ck z lev a.1<ck z lev b.1)
theorem UG(z:Hs)(lev:Nat):WO (UH z lev):=by
 refine⟨fun a=>decide_eq_false (by omega),fun a b h=>decide_eq_false ?_,fun a b c h k=>decide_eq_false ?_⟩
 ·have:=of_decide_eq_true h;omega
 ·have:=of_decide_eq_false h;have:=of_decide_eq_false k;omega
theorem TE(z:Hs)(lev:Nat)(x a:Pr):H2 (UH z lev) x a=decide (ck z lev a.1=ck z lev x.1):=by
 unfold H2 UH;by_cases e:ck z lev a.1=ck z lev x.1
 ·rw[decide_eq_true e,e];simp
 ·rw[decide_eq_false e]
  rcases Nat.lt_or_gt_of_ne e with h|h
  ·rw[decide_eq_true h];rfl
  ·rw[decide_eq_true (p:=ck z lev x.1<ck z lev a.1) h];simp
def Two(bl ba:Nat)(lev:Nat)(h:ad):Prop:=h[bl]? =some (.cells #[.int .i64 (lev:Int)] sG (0,0))∧h[ba]? =some (.cells #[atV bl] pH (0,0))
theorem Two.upd{bl ba lev:Nat}{h h':ad}(t:Two bl ba lev h)(k:Upd No h h'):Two bl ba lev h':=⟨k.get0 t.1,k.get0 t.2⟩
theorem Wh{z:Hs}{lev:Nat}(hl:lev<13){bl ba:Nat}{M:Nat→Prop}(h1:¬M bl)(h2:¬M ba):Cmp (UH z lev) (zG z) M (Two bl ba lev) (.func (.func tC) #[] #[.pointer (some ⟨ba,0,none⟩)]):=by
 refine⟨fun a b h K t hk=>HV.mk' (FY (a.1,a.2,gh z a.1) (b.1,b.2,gh z b.1) ⟨ba,0,none⟩ ?_),fun k t=>⟨k.get t.1 h1,k.get t.2 h2⟩⟩
 unfold yl ae bT av Ak MP Uh;refine aW fun h1 b1 k1=>aW fun h2 b2 k2=>?_
 have k02:=k1.tr k2;have t2:=t.upd k02;have c1:=k2.get0 b1;refine⟨_,JR t2.2,_,vc c1 0,_,vc c1 1,_,vc c1 2,_,JR t2.2,_,vc b2 0,_,vc b2 1,_,vc b2 2,?_⟩;refine FQ (z:=z) hl t2.1 a fun h3 k3=>?_
 have t3:=t2.upd k3;have b3:=k3.get0 b2;refine⟨⟨vc b3 0,vc b3 1,vc b3 2⟩,JR t3.2,?_⟩;refine FQ (z:=z) hl t3.1 b fun h4 k4=>?_
 refine P1 fun e he=>hk h4 e ((k02.tr k3).tr k4) ?_
 rw[he];unfold UH;exact decide_eq_decide.2 (by omega)
end Go.Proofs
