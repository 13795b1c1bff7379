/- A part of the proof that the named laws of this program answer true, whatever the input. -/
import Derived.Test.YtncppacbfagpgaaGreatPart6
import Derived.Test.YtncppacbfagpgaaGreatPart4
import Derived.Test.YtncppacbfagpgaaGreatPart5
open Array renaming length_toList→oA
open List renaming getElem?_eq_getElem→ai,getElem?_eq_none→mp,cons→gU,append_nil→aK,append_assoc→al,length_append→ac,flatMap_cons→aI,map_append→dA,map_map→qv,mem_map→iH,take_append_drop→aZ,flatMap_append→bO,flatMap_nil→kU,mem_cons→az,length_cons→ak,map_nil→ji,length_nil→aJ,length_eq_zero_iff→aw,length_pos_iff→kH,not_mem_nil→gu,getElem_cons_zero→fy,mem_cons_self→ao,pairwise_cons→aG,sublist_cons_self→lO,mem_cons_of_mem→aC,length_take→aQ,mem_append→bi,mem_singleton→aB,nil_append→cU,getElem_of_mem→bK,pairwise_iff_getElem→cn
open List.Lex renaming nil→w8
open Nat renaming lt_of_lt_of_le→aE,le_refl→aq,le_trans→bc,zero_le→bw,succ_pos→nW,mul_comm→wZ,mul_le_mul_left→gS
open Option renaming some→bR
open Prod renaming mk→rz
namespace Go.Proofs
open Go Go.Lift
theorem Sl.det{α:Type}{f:α→List Value}{sz:Nat}{W W':Nat→Prop}{h:ad}{s:SliceV}{xs ys:List α}(hi:∀x y,f x=f y→x=y)(a:Sl f sz W h s xs)(b:Sl f sz W' h s ys):xs=ys:=by
 apply List.ext_getElem
 ·rw[←a.len,←b.len]
 ·intro i h1 h2
  refine hi _ _ (List.ext_getElem? fun j=>?_)
  obtain⟨p,hp,_,hv⟩:=a.at (ai h1);obtain⟨q,hq,_,hw⟩:=b.at (ai h2);rw[hp]at hq;cases hq;have l1:=(a.ne xs[i]).1;have l2:=(b.ne ys[i]).1;by_cases hj:j<sz
  ·have e1:=hv j _ (ai (by omega))
   have e2:=hw j _ (ai (by omega));rw[e1]at e2;rw[ai (by omega),ai (by omega)];exact e2
  ·rw[mp (by omega),mp (by omega)]
theorem Oq(x y:Pr)(h:eu x=eu y):x=y:=by
 simp only[eu,gU.injEq,Value.string.injEq,and_true]at h;exact Prod.ext h.1 h.2
theorem S5(x y:Option Addr)(h:rH x=rH y):x=y:=by
 simpa[rH]using h
theorem Oh(x y:Option Addr)(h:rD x=rD y):x=y:=by
 simpa[rD]using h
theorem Hq{d d' n n':Nat}{sp sk sp' sk':SliceV}{bu bu':Bool}{ow ow':Option Addr}(h:fg d n sp sk bu ow=fg d' n' sp' sk' bu' ow'):d=d'∧n=n'∧sp=sp'∧sk=sk':=by
 simp only[fg,Array.mk.injEq,gU.injEq,Value.int.injEq,true_and,sv,Value.slice.injEq,Value.bool.injEq,Value.pointer.injEq,and_true]at h;obtain⟨h1,h2,⟨h3,h4,h5⟩,⟨h6,h7,h8⟩,_⟩:=h;refine⟨by omega,by omega,?_,?_⟩
 ·cases sp;cases sp';simp only at h3 h4 h5;subst h3 h4 h5;rfl
 ·cases sk;cases sk';simp only at h6 h7 h8;subst h6 h7 h8;rfl
theorem EG{W W':Nat→Prop}{x:Hs}{h:ad}:∀{m b:Nat} {l l':List Pr},TrieAt W x h m b l→TrieAt W' x h m b l'→bE l→bE l'→l=l'
 |0,b,l,l',t,t',_,_=>by
  obtain⟨sp,sk,ow,hb,hs,_⟩:=t.ex;obtain⟨sp',sk',ow',hb',hs',_⟩:=t'.ex;rw[hb]at hb';simp only[bR.injEq,Obj.cells.injEq,and_true]at hb';obtain⟨_,_,rfl,_⟩:=Hq hb';exact Sl.det Oq hs hs'
 |m+1,b,l,l',⟨s,nd,hc⟩,⟨s',nd',hc'⟩,hr,hr'=>by
  obtain⟨d,n,sp,sk,ow,hb,bits,hs,hk,_⟩:=nd.ex;obtain⟨d',n',sp',sk',ow',hb',bits',hs',hk',_⟩:=nd'.ex;rw[hb]at hb';simp only[bR.injEq,Obj.cells.injEq,and_true]at hb';obtain⟨rfl,rfl,rfl,rfl⟩:=Hq hb';have e1:=Fw 32 (fun c hc=>by rw[←bits.dp c hc,bits'.dp c hc]) (Sl.det Oq hs hs')
  have e2:=Fw 32 (fun c hc=>by rw[←bits.nk c hc,bits'.nk c hc]) (Sl.det S5 hk hk')
  refine Kt (x:=x) (lev:=12-m) hr hr' fun c hlt=>?_
  have t1:=hc c hlt;have t2:=hc' c hlt;rw[←e1 c hlt,←e2 c hlt]at t2;rcases t1 with⟨h1,h2,h3⟩|⟨p,h1,h2,h3⟩|⟨h1,h2,kb,h3,h4⟩<;>rcases t2 with⟨g1,g2,g3⟩|⟨q,g1,g2,g3⟩|⟨g1,g2,kb',g3,g4⟩<;>simp_all
  exact EG h4 g4 (iZ hr) (iZ hr')
theorem Oi{sl sl' v v':ByteArray}{b b':Bool}{s s':SliceV}{ow ow':Option Addr}(h:B9 sl b v s ow=B9 sl' b' v' s' ow'):sl=sl'∧b=b'∧v=v'∧s=s':=by
 simp only[B9,Array.mk.injEq,gU.injEq,Value.string.injEq,sv,Value.slice.injEq,Value.bool.injEq,Value.pointer.injEq,and_true]at h;obtain⟨h1,h2,h3,⟨h6,h7,h8⟩,_⟩:=h;refine⟨h1,h2,h3,?_⟩;cases s;cases s';simp only at h6 h7 h8;subst h6 h7 h8;rfl
theorem Ov{w w':Option ByteArray}{v:ByteArray}(h:w.isSome=w'.isSome)(h1:v=w.getD ⟨#[]⟩)(h2:v=w'.getD ⟨#[]⟩):w=w':=by
 cases w<;>cases w'<;>simp_all
theorem Mk{W W':Nat→Prop}{h:ad}:∀{F F':Fo} {ks:List (Option Addr)},RxF W h F ks→RxF W' h F' ks→F=F'
 | .nil,.nil,_,_,_=>rfl
 | .nil,.cons ..,ks,h1,h2=>by
  obtain⟨b,sl,val,s,ow,ks1,ks',e0,_⟩:=h2;have h1:ks= []:=h1;rw[h1]at e0;cases e0
 | .cons ..,.nil,ks,h1,h2=>by
  obtain⟨b,sl,val,s,ow,ks1,ks',e0,_⟩:=h1;have h2:ks= []:=h2;rw[h2]at e0;cases e0
 | .cons lab w kids rest,.cons lab' w' kids' rest',ks,⟨b,sl,val,s,ow,ks1,ks',e0,e1,e2,e3,e4,e5,e6,e7⟩,⟨b',sl',val',s',ow',ks1',ks'',f0,f1,f2,f3,f4,f5,f6,f7⟩=>by
  rw[e0]at f0;simp only[gU.injEq,bR.injEq,Addr.mk.injEq,and_true]at f0;obtain⟨rfl,rfl⟩:=f0;rw[e2]at f2;simp only[bR.injEq,Obj.cells.injEq,and_true]at f2;obtain⟨rfl,g2,rfl,rfl⟩:=Oi f2;have:=Sl.det Oh e4 f4;subst this;rw[Mk e6 f6,Mk e7 f7,←e1,←f1,Ov g2 e3 f3]
end Go.Proofs
namespace Go.Proofs
open Go Go.Lift
theorem MC{h:ad}{b:Nat}{c:Array Value}{t:TypeId}(hb:h[b]? =some (.cells c t (0,0))) (hc:0<c.size):fW h ⟨b,0,none⟩:=⟨c,t,hb,hc⟩
theorem TrieAt.plain{W:Nat→Prop}{x:Hs}{h:ad}:∀{m b:Nat} {l:List Pr},TrieAt W x h m b l→fW h ⟨b,0,none⟩
 |0,_,_,t=>by obtain⟨_,_,_,hb,_⟩:=BuckAt.ex t;exact MC hb (by simp[fg])
 |m+1,_,_,⟨s,nd,_⟩=>by obtain⟨_,_,_,_,_,hb,_⟩:=nd.ex;exact MC hb (by simp[fg])
theorem Oc{W Wx:Nat→Prop}{x:Hs}{h:ad}{m b:Nat}{s:Slots}{c:Nat}{l:List Pr}(nd:NodeAt W h b s)(hc:c<32)(sl:SlotIs W x h m s c l)(hm:m≤13)(hr:bE l)(hn:l.length≤100000)(hWx:∀y,Wx y→y<h.size){K:SliceV→ad→Prop}
  (hk:∀s' h',Sl eu 2 Wx h' s' l→s'.len≤s'.cap→Upd No h h'→K s' h'):HC PG uk [.pointer (some ⟨b,0,none⟩),.int .i64 c] [.c .slice] K h:=by
 refine LC _ c ?_;unfold DT au nv nZ jH vp gm ll pZ;refine AF nd hc fun h1 k1=>?_
 refine xD fun h2 b2 k2=>?_
 have k12:=k1.tr k2;have hkid:s.p c=none→Below W x h m ((s.k c).getD none) l:=fun hp=>by
  rcases sl with⟨rfl,_,e⟩|⟨p,_,e,_⟩|⟨_,_,kb,e,t⟩
  ·rw[e];exact .inl ⟨rfl,rfl⟩
  ·rw[hp]at e;cases e
  ·rw[e];exact .inr ⟨kb,rfl,t⟩
 rcases hp:s.p c with _|p
 ·refine aj.2 (wA (nd.upd k12 fun _ h=>h.elim) hc ?_)
  exact yQ (W':=Wx) ((hkid hp).upd0 k12) hm hr hn (fun y hy=>aE (hWx y hy) k12.size) fun s3 h3 hs3 hc3 k3=>hk s3 h3 hs3 hc3 (k12.tr k3)
 ·have el:l= [p]:=by
   rcases sl with⟨_,e,_⟩|⟨q,e,e',_⟩|⟨_,e,_⟩
   ·rw[hp]at e;cases e
   ·rw[hp]at e';cases e';exact e
   ·rw[hp]at e;cases e
  subst el;rw[hp]at b2;refine av.2 ⟨p.1,vc b2 0,p.2,vc b2 1,aM fun h3 b3 k3=>?_⟩
  have ho:OwnS eu 2 af (fun y=>h.size≤y) h3 ⟨some (ag h2),1,1⟩ [p]:=⟨rfl,ge,aq _,.inr ⟨h2.size,[],rfl,k12.size,b3,rfl⟩⟩
  exact hk _ h3 (ho.sl fun y hy _ hw=>by have:=hWx y hw;omega) (aq _) (k12.tr k3)
theorem QC{W:Nat→Prop}{x z:Hs}{sb:Nat}:∀(m:Nat),m≤13→∀{b b':Nat} {l l':List Pr} {C:Nat→Prop} {h:ad} {L:List Ch},TrieAt W x h m b l→TrieAt W x h m b' l'→SetAt C h sb z L→(∀y,C y∨y=sb→W y)→(∀y,h.size≤y→W y)→bE l→bE l'→l.length≤100000→l'.length≤100000→L.length+(m+1)*200000≤10000000→
  ∀{K:Unit→ad→Prop},(∀ys,ys.Perm (iM l l')→P4 C h sb z (L++ys) (K ()))→HC PG nH [.pointer (some ⟨sb,0,none⟩),.pointer (some ⟨b,0,none⟩),.pointer (some ⟨b',0,none⟩)] [] K h:=by
 intro m;induction m with
 |zero=>
  intro hm b b' l l' C h L t t' st hCW hWn hr hr' hn hn' hL K hk;refine vK _ _ _ ?_;unfold rg UN gm Ib ll;refine⟨trivial,fun a a' e e'=>by cases e;cases e';exact⟨t.plain,t'.plain⟩,CondP.intro (fun e=>?_) fun e=>?_⟩
  ·obtain rfl:b=b':=by simpa using e
   obtain rfl:=EG t t' hr hr';refine hk [] (by rw[A4]) h C (by rw[aK];exact st) (fun _ h=>.inl h) (Upd.refl _ _)
  ·obtain⟨sp,sk,ow,hb,hsp,_⟩:=BuckAt.ex t
   obtain⟨sp',sk',ow',hb',hsp',_⟩:=BuckAt.ex t';refine gY hb (av.2 ?_);refine sZ hb hsp (by omega) fun s1 h1 ho1 k1=>?_
   refine sZ (k1.get0 hb') (hsp'.upd k1 fun _ h=>h.elim) (by omega) fun s2 h2 ho2 k2=>?_
   have s1z:=k1.size;obtain⟨_,hsb,_⟩:=st.ex;have zsb:=aO hsb;have ho1':=ho1.upd k2 fun _ _ h=>h
   refine AL (st.upd0 (k1.tr k2)) (ho1'.sl fun y hy _ hw=>?_) (ho2.sl fun y hy _ hw=>?_) ho1.cap ho2.cap (by omega) fun h3 C3 st3 hC3 hu3=>?_
   ·rcases hw with h|h
    ·have:=st.lt y h;omega
    ·omega
   ·rcases hw with h|h
    ·have:=st.lt y h;omega
    ·omega
   ·have s2z:=k2.size
    exact hk (iM l l') (.refl _) h3 C3 st3 (fun y hy=>(hC3 y hy).imp id fun h=>by omega) ((k1.tr k2).wide.tr hu3)
 |succ m ih=>
  intro hm b b' l l' C h L t t' st hCW hWn hr hr' hn hn' hL K hk;refine vK _ _ _ ?_;unfold rg UN gm Ib ll;refine⟨trivial,fun a a' e e'=>by cases e;cases e';exact⟨t.plain,t'.plain⟩,CondP.intro (fun e=>?_) fun e=>?_⟩
  ·obtain rfl:b=b':=by simpa using e
   obtain rfl:=EG t t' hr hr';exact hk [] (by rw[A4]) h C (by rw[aK];exact st) (fun _ h=>.inl h) (Upd.refl _ _)
  have hcl:=um hr hr';obtain⟨s,nd,hs⟩:=t;obtain⟨s',nd',hs'⟩:=t';have hs:∀c,c<32→SlotIs W x h m s c (part x (12-m) c l):=hs;have hs':∀c,c<32→SlotIs W x h m s' c (part x (12-m) c l'):=hs';obtain⟨d,n,sp,sk,ow,hb,_⟩:=nd.ex;refine gY hb (aj.2 ?_);refine LoopP.ghost (fun(g:Nat×List Ch×(Nat→Prop)) (t:Int) h'=>t=(g.1:Int)∧g.1≤32∧SetAt g.2.2 h' sb z (L++g.2.1)∧(∀y,g.2.2 y→C y∨h.size≤y)∧Upd (fun y=>C y∨y=sb) h h'∧g.2.1.Perm ((iM l l').filter fun c=>decide (ck x (12-m) c.1<g.1))) (fun g=>32-g.1) (0,[],C)
   ⟨rfl,by omega,by rw[aK];exact st,fun _ h=>.inl h,Upd.refl _ _,by simp⟩ ?_
  rintro I ⟨i,ys,C1⟩ t h1 ⟨rfl,hi,st1,hC1,hu1,hp⟩ hI;simp only at hi st1 hC1 hp;have hCW1:∀y,C1 y∨y=sb→W y:=fun y hy=>hy.elim (fun h=>(hC1 y h).elim (fun h=>hCW y (.inl h)) (hWn y)) fun h=>hCW y (.inr h)
  have hm1:∀y,C y∨y=sb→W y∨h.size≤y:=fun y hy=>.inl (hCW y hy)
  refine aA (fun hlt=>?_) fun hge=>?_
  rotate_left
  ·have hi32:i=32:=by omega
   subst hi32;refine hk ys (hp.trans ?_) h1 C1 st1 hC1 hu1;rw[List.filter_eq_self.2 fun c _=>decide_eq_true (ya x (12-m) c.1)]
  have hlt:i<32:=by omega
  have hpart:(iM l l').filter (fun c=>decide (ck x (12-m) c.1=i))=iM (part x (12-m) i l) (part x (12-m) i l'):=(Nm (fun k=>decide (ck x (12-m) k=i)) hr hr').symm
  have hyl:ys.length≤200000:=by
   have:=hp.length_eq;have:=List.length_filter_le (fun c:Ch=>decide (ck x (12-m) c.1<i)) (iM l l')
   omega
  have hpl:=mV (x:=x) (lev:=12-m) (c:=i) (l:=l);have hpl':=mV (x:=x) (lev:=12-m) (c:=i) (l:=l');have step:∀zs:List Ch,zs.Perm (iM (part x (12-m) i l) (part x (12-m) i l'))→∀h2 C2,SetAt C2 h2 sb z ((L++ys)++zs)→(∀y,C2 y→C1 y∨h1.size≤y)→Upd (fun y=>C1 y∨y=sb) h1 h2→I (IntKind.wrap .i64 ((i:Int)+1)) h2:=by
   intro zs hz h2 C2 st2 hC2 hu2;rw[pd hlt (by omega)];refine hI (i+1,ys++zs,C2) _ h2 ⟨rfl,hlt,by rw[←al];exact st2,fun y hy=>?_,?_,?_⟩ (by show 32-(i+1)<32-i;omega)
   ·rcases hC2 y hy with h|h
    ·exact hC1 y h
    ·exact .inr (bc hu1.size h)
   ·exact hu1.trans hu2 fun y hy=>hy.elim (fun h=>(hC1 y h).imp .inl id) fun h=>.inl (.inr h)
   ·rw[←hpart]at hz
    exact(hp.append hz).trans (Dn (fun c:Ch=>ck x (12-m) c.1) i (iM l l'))
  have nd1:=nd.upd hu1 hm1;have nd1':=nd'.upd hu1 hm1;have up:∀{s:Slots} {l:List Pr},SlotIs W x h m s i l→SlotIs W x h1 m s i l:=fun o=>o.imp id fun o=>o.imp id fun⟨h1,h2,kb,h3,h4⟩=>⟨h1,h2,kb,h3,TrieAt.updM hu1 hm1 h4⟩
  have sl:=up (hs i hlt);have sl':=up (hs' i hlt);have hWn1:∀y,h1.size≤y→W y:=fun y hy=>hWn y (bc hu1.size hy)
  refine Join.plain (wA nd1 hlt (wA nd1' hlt ?_));refine Join.intro (fun t h'=>h'=h1∧(t=true→(s.k i).isSome=true∧(s'.k i).isSome=true)) (fun R hR=>?_) ?_
  ·refine CondP.intro (fun e=>hR _ _ ⟨rfl,fun e'=>⟨e,e'⟩⟩) fun e=>hR _ _ ⟨rfl,fun e=>by cases e⟩
  rintro t h2 ⟨rfl,ht⟩;refine CondP.intro (fun e=>?_) fun e=>?_
  ·obtain⟨e1,e2⟩:=ht e
   rcases sl with⟨_,_,e3⟩|⟨p,_,_,e3⟩|⟨_,_,kb,e3,tk⟩
   ·rw[e3]at e1;cases e1
   ·rw[e3]at e1;cases e1
   rcases sl' with⟨_,_,e4⟩|⟨p,_,_,e4⟩|⟨_,_,kb',e4,tk'⟩
   ·rw[e4]at e2;cases e2
   ·rw[e4]at e2;cases e2
   rw[e3,e4];refine ih (by omega) tk tk' st1 hCW1 hWn1 (iZ hr) (iZ hr') (by omega) (by omega) (by rw[ac];omega) fun zs hz h3 C3 st3 hC3 hu3=>?_
   exact step zs hz h3 C3 st3 hC3 hu3
  ·obtain⟨_,hsb,_⟩:=st1.ex
   have zsb:=aO hsb;have hWx:∀y,C1 y∨y=sb→y<h2.size:=fun y hy=>hy.elim (st1.lt y) fun h=>by omega
   refine Oc (Wx:=fun y=>C1 y∨y=sb) nd1 hlt sl (by omega) (iZ hr) (by omega) hWx fun s3 h3 hs3 hc3 k3=>?_
   refine Oc (Wx:=fun y=>C1 y∨y=sb) (nd1'.upd k3 fun _ h=>h.elim) hlt (sl'.upd0 k3) (by omega) (iZ hr') (by omega) (fun y hy=>aE (hWx y hy) k3.size) fun s4 h4 hs4 hc4 k4=>?_
   refine AL (st1.upd0 (k3.tr k4)) (hs3.upd k4 fun _ h=>h.elim) hs4 hc3 hc4 (by rw[ac];omega) fun h5 C5 st5 hC5 hu5=>?_
   have s34:=(k3.tr k4).size;exact step _ (.refl _) h5 C5 st5 (fun y hy=>(hC5 y hy).imp id fun h=>by omega) ((k3.tr k4).wide.tr hu5)
end Go.Proofs
namespace Go.Proofs
open Go Go.Lift
def TO(pre:List UInt8):ByteArray:=⟨pre.toArray⟩
theorem KD(pre:List UInt8):(TO pre).data.toList=pre:=by unfold TO;simp
theorem MM(k:ByteArray):TO k.data.toList=k:=by cases k;rfl
def AS(pre:List UInt8)(p:List UInt8×ByteArray):Pr:=(TO (pre++p.1),p.2)
def pp(pre:List UInt8)(n:Bn):List Pr:=(vo n.2.1 n.2.2).map (AS (pre++n.1))
def vq(key:List UInt8)(w:Option ByteArray):List Pr:=(w.map fun v=>(TO key,v)).toList
theorem Rm{x y:List UInt8}:kl (TO x) (TO y)↔x<y:=by rw[IQ,ByteArray.toList_eq,ByteArray.toList_eq,KD,KD]
theorem PE(a b:List UInt8)(p:List UInt8×ByteArray):AS a (b++p.1,p.2)=AS (a++b) p:=by unfold AS;rw[al]
theorem Oo(pre:List UInt8):∀F:Fo,(yG F).map (AS pre)=F.toL.flatMap (pp pre)
 | .nil=>rfl
 | .cons lab w kids rest=>by
  rw[Pq,Fo.toL_cons,aI,dA,Oo pre rest,qv];congr 1
  unfold pp vo;exact List.map_congr_left fun p _=>PE pre lab p
theorem Hk(pre lab:List UInt8)(w:Option ByteArray)(F:Fo):pp pre (lab,w,F)=vq (pre++lab) w++F.toL.flatMap (pp (pre++lab)):=by
 unfold pp;rw[show vo w F=(w.map fun v=>(([]:List UInt8),v)).toList++yG F from rfl,dA,Oo]
 congr 1
 cases w with
 |none=>rfl
 |some v=>show[AS (pre++lab) ([],v)]=_;unfold AS vq;rw[aK];rfl
theorem rE{pre:List UInt8}{n:Bn}(hc:fS n.2.2):bE (pp pre n):=by
 unfold pp;rw[bE,List.pairwise_map];exact(On (w:=n.2.1) hc).imp fun{p q} h=>Rm.2 (Jj h)
structure NodeK(n:Bn)(pre:List UInt8):Prop where
 can:fS n.2.2
 len:pre.length+n.1.length≤10000
 all:∀p∈vo n.2.1 n.2.2,pre.length+n.1.length+p.1.length≤10000
theorem NodeK.kid{n m:Bn}{pre:List UInt8}(k:NodeK n pre)(hm:m∈n.2.2.toL):NodeK m (pre++n.1):=by
 have hcn:=(ef.1 k.can).2 _ hm;have hall:∀p∈vo m.2.1 m.2.2,(pre++n.1).length+m.1.length+p.1.length≤10000:=fun p hp=>by
  have hin:qG n.2.2 (m.1++p.1) p.2:=fK.2 ⟨_,hm,p.1,rfl,jV.1 (show(p.1,p.2)∈_ from hp)⟩
  have:=k.all (m.1++p.1,p.2) (jV.2 (.inr hin));simp only[ac]at this⊢;omega
 obtain⟨r,v,hr⟩:=mZ k.can _ hm;have:=hall (r,v) (jV.2 hr);exact⟨hcn.2.2,by simp only at this;omega,hall⟩
theorem Dl{pre:List UInt8}{m n:Bn}(hm:m.1≠[])(hn:n.1≠[])(h:hd m.1<hd n.1):∀p∈pp pre m,∀q∈pp pre n,kl p.1 q.1:=by
 intro p hp q hq;unfold pp at hp hq;obtain⟨a,_,rfl⟩:=iH.1 hp;obtain⟨b,_,rfl⟩:=iH.1 hq;refine Rm.2 ?_;rw[al,al];refine Jj (K2 (by simp[hn]) ?_);rw[pj hm,pj hn];exact h
theorem IC{key:List UInt8}{w:Option ByteArray}{n:Bn}(hn:n.1≠[]):∀p∈vq key w,∀q∈pp key n,kl p.1 q.1:=by
 intro p hp q hq;unfold vq at hp;rw[Option.mem_toList,Option.map_eq_some_iff]at hp;obtain⟨v,_,rfl⟩:=hp;unfold pp at hq;obtain⟨b,_,rfl⟩:=iH.1 hq;refine Rm.2 ?_;rw[al];conv=>lhs;rw[←aK key]
 refine Jj ?_;match n.1,hn with
 |c::l,_=>exact w8
theorem PF{f:Bn→List Pr}(L:List Bn)(i:Nat):((L.take i).flatMap f).length≤(L.flatMap f).length:=by
 conv=>rhs;rw[←aZ i L,bO,ac]
 omega
theorem U6{a b:ByteArray}:a.data.toList++b.data.toList=(a++b).data.toList:=by
 rw[ByteArray.data_append,Array.toList_append]
theorem RxL.updN{W M:Nat→Prop}{h h':ad}(k:Upd M h h')(hm:∀b,M b→W b∨h.size≤b){ks:List (Option Addr)}{L:List Bn}(r:RxL W h ks L):RxL W h' ks L:=
 ⟨r.1,fun p hp=>let⟨b,sl,e1,e2,e3⟩:=r.2 p hp;⟨b,sl,e1,e2,e3.updM k hm⟩⟩
def Se(n:Bn):Prop:=∀{W:Nat→Prop} {h:ad} {b:Nat} {sl:ByteArray} {ahead:ByteArray},RxN W h b sl n.2.1 n.2.2→sl.data.toList=n.1→NodeK n ahead.data.toList→(pp ahead.data.toList n).length≤1000000→∀{K:SliceV→ad→Prop},(∀s' h',OwnS eu 2 af (fun y=>h.size≤y) h' s' (pp ahead.data.toList n)→Upd No h h'→K s' h')→HC PG j9 [.pointer (some ⟨b,0,none⟩),.string ahead] [.c .slice] K h
theorem JV{lab:List UInt8}{w:Option ByteArray}{F:Fo}(ih:∀n∈F.toL,Se n):Se (lab,w,F):=by
 intro W h b sl ahead r hlab nk hl K hk;simp only at r hlab;have r:=r.less (W':=fun y=>h.size≤y) fun _ h=>.inr h
 refine DF (some ⟨b,0,none⟩) ahead ?_;unfold yj ay cj nZ jH xu lx;refine aj.2 (mQ r ?_);have hkl:=nk.len;simp only at hkl;have esz:∀k:ByteArray,k.size=k.data.toList.length:=fun k=>by rw[oA];rfl
 have e1:=esz ahead;have e2:=esz sl;rw[hlab]at e2;refine⟨by omega,?_⟩;have ekey:(ahead++sl).data.toList=ahead.data.toList++lab:=by rw[←U6,hlab]
 have emk:TO (ahead.data.toList++lab)=ahead++sl:=by rw[←ekey,MM]
 rw[Hk]at hl hk;refine Join.intro (fun t h'=>OwnS eu 2 af (fun y=>h.size≤y) h' t (vq (ahead.data.toList++lab) w)∧Upd No h h') (fun R hR=>?_) ?_
 ·refine EZ r fun v hv=>?_
  cases w with
  |none=>exact aj.2 (hR _ _ ⟨OwnS.nil ge,Upd.refl _ _⟩)
  |some u=>
   refine av.2 ?_;have:=hv u rfl;subst this;refine bq ?_;refine vF (p:=(ahead++sl,v)) (M:=fun y=>h.size≤y) (out:= []) (so:=⟨none,0,0⟩) (OwnS.nil ge) (fun _ h=>h) (by simp) fun s1 h1 ho1 k1=>hR _ _ ⟨?_,k1.mono fun y hy=>.inr hy⟩
   rw[show vq (ahead.data.toList++lab) (some v)= []++ [(ahead++sl,v)] by unfold vq;rw[emk];rfl]
   exact ho1
 rintro t h1 ⟨ho1,k1⟩;refine B7 (r.upd0 k1) (mC nk.can) fun s2 h2 ks ho2 hL2 k2=>?_
 have hs2:Sl rD 1 No h2 s2 ks:=ho2.sl fun _ _ _ h=>h
 have hlen:=hs2.len;rw[hL2.1]at hlen;have h256:=mC nk.can;simp only at h256;have z1:=k1.size;have z2:=k2.size;have hs2:Sl rD 1 (fun y=>h.size≤y∧(y<h1.size∨h2.size≤y)) h2 s2 ks:=ho2.sl fun y hy hl hw=>by omega
 refine LoopP.ghost (fun(i:Nat) (t:SliceV×Int) h3=>OwnS eu 2 af (fun y=>h.size≤y∧(y<h1.size∨h2.size≤y)) h3 t.1 (vq (ahead.data.toList++lab) w++(F.toL.take i).flatMap (pp (ahead.data.toList++lab)))∧t.2=(i:Int)∧i≤F.toL.length∧Upd (fun y=>h.size≤y∧(y<h1.size∨h2.size≤y)) h2 h3) (fun i=>F.toL.length-i) 0 ⟨?_,rfl,bw _,Upd.refl _ _⟩ ?_
 ·rw[List.take_zero,kU,aK]
  exact(ho1.within.more fun y hy=>⟨hy.1,.inl hy.2⟩).upd k2 fun _ _ h=>h
 rintro I i ⟨ta,ti⟩ h3 ⟨ho3,e3,hi,hu⟩ hI;simp only at ho3 e3;subst e3;have hle:((F.toL.take (i+1)).flatMap (pp (ahead.data.toList++lab))).length≤(F.toL.flatMap (pp (ahead.data.toList++lab))).length:=PF _ _;rw[ac]at hl;refine aA (fun hlt=>?_) fun hge=>?_
 ·have hlt:i<F.toL.length:=by have:(i:Int)<(s2.len:Int):=hlt;omega
  have hL3:=hL2.updN hu fun y hy=>.inl hy.1
  obtain⟨kb,ksl,hki,hkl,hkn⟩:=hL3.at hlt;obtain⟨a,ha,_,hv⟩:=(hs2.upd hu fun _ h=>.inl h).at0 hki
  refine Join.plain ⟨⟨by simp only;omega,by simp only;omega⟩,a,ha,some ⟨kb,0,none⟩,hv,?_⟩
  have hst:(F.toL.take (i+1)).flatMap (pp (ahead.data.toList++lab))=(F.toL.take i).flatMap (pp (ahead.data.toList++lab))++pp (ahead.data.toList++lab) F.toL[i]:=by
   rw[List.take_succ_eq_append_getElem hlt,bO];simp
  rw[hst,ac]at hle;have hmem:=List.getElem_mem hlt;generalize F.toL[i]=m at hkl hkn hst hle hmem;refine ih m hmem hkn hkl (by rw[ekey];exact nk.kid hmem) (by rw[ekey];omega) fun s4 h4 ho4 hu4=>?_
  rw[ekey]at ho4;refine⟨_,(ho4.sl (W:=No) fun _ _ _ h=>h).srow,?_⟩
  have z3:=hu.size;have z4:=hu4.size;refine AppP.own (ys:=pp (ahead.data.toList++lab) m) (ho3.upd hu4 fun _ _ h=>h) ho4.len rfl (ww _) rfl (by omega) (by rw[ac];omega) ⟨by omega,.inr (by omega)⟩ fun s5 h5 ho5 hu5=>?_
  rw[gR hlt (by omega)];refine hI (i+1) _ _ ⟨?_,rfl,hlt,(hu.tr hu4.wide).tr hu5⟩ (by omega);rw[hst,←al];exact ho5
 ·have hil:i=F.toL.length:=by have:¬(i:Int)<(s2.len:Int):=hge;omega
  subst hil;rw[List.take_length]at ho3;exact hk _ h3 (ho3.more fun y hy=>hy.1) ((k1.tr k2).trans hu fun y hy=>.inr hy.1)
theorem BX:∀{F:Fo},fS F→∀n∈F.toL,Se n
 | .nil,_,n,hn=>by simp[Fo.toL]at hn
 | .cons lab w kids rest,h,n,hn=>by
  rcases az.1 hn with rfl|hn
  ·exact JV (BX h.2.2.1)
  ·exact BX h.2.2.2.2 n hn
theorem QQ{n:Bn}{W:Nat→Prop}{h:ad}{b:Nat}{sl:ByteArray}{ahead:ByteArray}(r:RxN W h b sl n.2.1 n.2.2)(e:sl.data.toList=n.1)(nk:NodeK n ahead.data.toList)(hl:(pp ahead.data.toList n).length≤1000000){K:SliceV→ad→Prop}(hk:∀s' h',OwnS eu 2 af (fun y=>h.size≤y) h' s' (pp ahead.data.toList n)→Upd No h h'→K s' h'):HC PG j9 [.pointer (some ⟨b,0,none⟩),.string ahead] [.c .slice] K h:=
 JV (BX nk.can) r e nk hl hk
theorem Dp{W:Nat→Prop}{h:ad}{b:Nat}{sl key:ByteArray}{w:Option ByteArray}{F:Fo}(r:RxN W h b sl w F){K:SliceV→ad→Prop}(hk:∀s' h',OwnS eu 2 af (fun y=>h.size≤y) h' s' (vq key.data.toList w)→Upd No h h'→K s' h'):HC PG wO [.pointer (some ⟨b,0,none⟩),.string key] [.c .slice] K h:=by
 refine NM _ key ?_;unfold Gd jH lx;refine EZ r fun v hv=>?_
 cases w with
 |none=>exact av.2 (hk _ h (OwnS.nil ge) (Upd.refl _ _))
 |some u=>
  have:=hv u rfl;subst this;refine aj.2 (aM fun h1 b1 k1=>?_)
  refine hk _ h1 ⟨rfl,ge,aq _,.inr ⟨h.size,[],rfl,aq _,?_,rfl⟩⟩ k1;rw[b1];unfold vq;rw[MM];rfl
end Go.Proofs
namespace Go.Proofs
open Go Go.Lift
theorem SM{α:Type}{f:α→List Value}{sz:Nat}{W:Nat→Prop}{h:ad}{s:SliceV}{p:α}{l:List α}(hs:Sl f sz W h s (p::l))(hc:s.len≤s.cap):Sl f sz W h ⟨aW s.a 1 s.cap sz,s.len-1,s.cap-1⟩ l:=by
 have hl:=hs.len;rw[ak]at hl;have:=Sl.sub hs (l:=1) (hi:=s.len) (m:=s.cap) (c:=s.cap-1) (by omega) (by rw[ak];omega) hc;rw[show((p::l).drop 1).take (s.len-1)=l by rw[List.drop_succ_cons,List.drop_zero];exact List.take_of_length_le (by omega)]at this
 exact this
theorem SS{W W':Nat→Prop}{h:ad}{b:Nat}{sl sl':ByteArray}{w w':Option ByteArray}{F F':Fo}(r:RxN W h b sl w F)(r':RxN W' h b sl' w' F'):sl=sl'∧w=w'∧F=F':=by
 obtain⟨val,s,ow,ks,e2,e3,e4,e5,e6⟩:=r;obtain⟨val',s',ow',ks',f2,f3,f4,f5,f6⟩:=r';rw[e2]at f2;simp only[bR.injEq,Obj.cells.injEq,and_true]at f2;obtain⟨g1,g2,rfl,rfl⟩:=Oi f2;have:=Sl.det Oh e4 f4;subst this;exact⟨g1,Ov g2 e3 f3,Mk e6 f6⟩
theorem RxN.plain{W:Nat→Prop}{h:ad}{b:Nat}{sl:ByteArray}{w:Option ByteArray}{F:Fo}(r:RxN W h b sl w F):fW h ⟨b,0,none⟩:=by
 obtain⟨val,s,ow,ks,hb,_⟩:=r;exact MC hb (by simp[B9])
def NdO(W:Nat→Prop)(h:ad)(pre:List UInt8)(r:Option Addr)(A:List Pr):Prop:=(r=none∧A= [])∨∃b sl n,r=some ⟨b,0,none⟩∧RxN W h b sl n.2.1 n.2.2∧sl.data.toList=n.1∧NodeK n pre∧A=pp pre n
theorem NdO.upd0{W:Nat→Prop}{h h':ad}{pre:List UInt8}{r:Option Addr}{A:List Pr}(k:Upd No h h')(o:NdO W h pre r A):NdO W h' pre r A:=o.imp id fun⟨b,sl,n,e1,e2,e3⟩=>⟨b,sl,n,e1,e2.upd0 k,e3⟩
theorem JU{W:Nat→Prop}{h:ad}{ahead:ByteArray}{r:Option Addr}{A:List Pr}(o:NdO W h ahead.data.toList r A)(hl:A.length≤1000000){K:SliceV→ad→Prop}(hk:∀s' h',OwnS eu 2 af (fun y=>h.size≤y) h' s' A→Upd No h h'→K s' h'):HC PG j9 [.pointer r,.string ahead] [.c .slice] K h:=by
 rcases o with⟨rfl,rfl⟩|⟨b,sl,n,rfl,r,e,nk,rfl⟩
 ·refine DF none ahead ?_
  unfold yj ay cj nZ jH xu lx;exact av.2 (hk _ h (OwnS.nil ge) (Upd.refl _ _))
 ·exact QQ r e nk hl hk
theorem Az{W C:Nat→Prop}{h:ad}{ahead:ByteArray}{r r':Option Addr}{A B:List Pr}{L:List Ch}{sb:Nat}{z:Hs}(o:NdO W h ahead.data.toList r A)(o':NdO W h ahead.data.toList r' B)(st:SetAt C h sb z L)(hA:A.length≤1000000)(hB:B.length≤1000000)(hL:L.length+A.length+B.length≤10000000){G:Unit→ad→Prop}(hk:P4 C h sb z (L++iM A B) (G ())):
  HC PG j9 [.pointer r,.string ahead] [.c .slice] (fun(e8:SliceV) h9=>HC PG j9 [.pointer r',.string ahead] [.c .slice] (fun(e10:SliceV) h11=>HC PG iw [.pointer (some ⟨sb,0,none⟩),.slice e8.a e8.len e8.cap,.slice e10.a e10.len e10.cap] [] (fun(_:Unit) h13=>G () h13) h11) h9) h:=by
 refine JU o hA fun s1 h1 ho1 k1=>JU (o'.upd0 k1) hB fun s2 h2 ho2 k2=>?_
 have s1z:=k1.size;obtain⟨_,hsb,_⟩:=st.ex;have zsb:=aO hsb;have ho1':=ho1.upd k2 fun _ _ h=>h
 refine AL (st.upd0 (k1.tr k2)) (ho1'.sl fun y hy _ hw=>?_) (ho2.sl fun y hy _ hw=>?_) ho1.cap ho2.cap (by omega) fun h3 C3 st3 hC3 hu3=>?_
 ·rcases hw with h|h
  ·have:=st.lt y h;omega
  ·omega
 ·rcases hw with h|h
  ·have:=st.lt y h;omega
  ·omega
 ·have s2z:=k2.size
  exact hk h3 C3 st3 (fun y hy=>(hC3 y hy).imp id fun h=>by omega) ((k1.tr k2).wide.tr hu3)
theorem G5{W C:Nat→Prop}{h:ad}{ahead:ByteArray}{r r':Option Addr}{A B:List Pr}{L:List Ch}{sb:Nat}{z:Hs}(o:NdO W h ahead.data.toList r A)(o':NdO W h ahead.data.toList r' B)(hn:r=none∨r'=none)(st:SetAt C h sb z L)(hA:A.length≤1000000)(hB:B.length≤1000000)(hL:L.length+A.length+B.length≤10000000){K:Unit→ad→Prop}(hk:P4 C h sb z (L++iM A B) (K ())):
  HC PG iu [.pointer (some ⟨sb,0,none⟩),.pointer r,.pointer r',.string ahead] [] K h:=by
 refine vL _ r r' ahead ?_;unfold rh ay cj TE xu Ib;refine⟨trivial,fun a a' e e'=>by rcases hn with h|h<;>simp_all,CondP.intro (fun e=>?_) fun e=>?_⟩
 ·have er:r=r':=by simpa using e
  have hr:r=none∧r'=none:=by rcases hn with h|h<;>simp_all
  obtain⟨rfl,rfl⟩:=hr;obtain rfl:A= []:=by rcases o with⟨_,h⟩|⟨_,_,_,h,_⟩;exact h;cases h
  obtain rfl:B= []:=by rcases o' with⟨_,h⟩|⟨_,_,_,h,_⟩;exact h;cases h
  exact hk h C (by rw[jb,ji,aK];exact st) (fun _ h=>.inl h) (Upd.refl _ _)
 ·refine Join.intro (fun t h'=>t=true∧h'=h) (fun R hR=>?_) ?_
  ·rcases hn with rfl|rfl
   ·exact av.2 (hR _ _ ⟨rfl,rfl⟩)
   ·exact CondP.intro (fun _=>hR _ _ ⟨rfl,rfl⟩) fun _=>av.2 (hR _ _ ⟨rfl,rfl⟩)
  ·rintro t h' ⟨rfl,rfl⟩
   exact av.2 (Az o o' st hA hB hL hk)
theorem Th{sl:ByteArray}{l:List UInt8}(e:sl.data.toList=l)(hl:l≠[]):∃c:UInt8,(0:Int)≤0∧sl[(0:Int).toNat]? =some c∧c.toNat=hd l:=by
 match l,hl with
 |c::l,_=>
  refine⟨c,Int.le_refl _,?_,rfl⟩;have hs:0<sl.size:=by
   have:sl.data.toList.length=sl.size:=oA;rw[←this,e];simp
  have:sl.data[0]? =some c:=by rw[←Array.getElem?_toList,e];rfl
  rw[show(0:Int).toNat=0 from rfl]
  rw[getElem?_pos sl 0 hs];rw[Array.getElem?_eq_getElem hs]at this;exact this
def Nv(n:Bn):Prop:=∀{W C:Nat→Prop} {h:ad} {b b':Nat} {sl sl' ahead:ByteArray} {n':Bn} {L:List Ch} {sb:Nat} {z:Hs},RxN W h b sl n.2.1 n.2.2→sl.data.toList=n.1→RxN W h b' sl' n'.2.1 n'.2.2→sl'.data.toList=n'.1→NodeK n ahead.data.toList→NodeK n' ahead.data.toList→SetAt C h sb z L→
 (∀y,C y∨y=sb→W y)→(∀y,h.size≤y→W y)→(pp ahead.data.toList n).length≤1000000→(pp ahead.data.toList n').length≤1000000→L.length+(pp ahead.data.toList n).length+(pp ahead.data.toList n').length≤10000000→
 ∀{K:Unit→ad→Prop},P4 C h sb z (L++iM (pp ahead.data.toList n) (pp ahead.data.toList n')) (K ())→HC PG iu [.pointer (some ⟨sb,0,none⟩),.pointer (some ⟨b,0,none⟩),.pointer (some ⟨b',0,none⟩),.string ahead] [] K h
theorem lS{key:List UInt8}{P:List Pr}{L:List Bn}(h:∀n∈L,∀p∈P,∀q∈pp key n,kl p.1 q.1):∀p∈P,∀q∈L.flatMap (pp key),kl p.1 q.1:=by
 intro p hp q hq;obtain⟨n,hn,hq⟩:=List.mem_flatMap.1 hq;exact h n hn p hp q hq
set_option maxHeartbeats 1000000 in
theorem G6{lab:List UInt8}{w:Option ByteArray}{F:Fo}(ih:∀n∈F.toL,Nv n):Nv (lab,w,F):=by
 intro W C h b b' sl sl' ahead n' L sb z r e r' e' nk nk' st hCW hWn hA hB hL K hk;obtain⟨lab',w',F'⟩:=n';simp only at r e r' e';refine vL _ _ _ ahead ?_;unfold rh ay cj TE xu Ib;refine⟨trivial,fun a a' e1 e2=>by cases e1;cases e2;exact⟨r.plain,r'.plain⟩,CondP.intro (fun e1=>?_) fun e1=>?_⟩
 ·obtain rfl:b=b':=by simpa using e1
  obtain⟨rfl,rfl,rfl⟩:=SS r r';subst e e';exact hk h C (by rw[A4,aK];exact st) (fun _ h=>.inl h) (Upd.refl _ _)
 clear e1;refine Join.intro (fun t h'=>h'=h∧t= !(decide (sl=sl'))) (fun R hR=>?_) ?_
 ·refine aj.2 (aj.2 (mQ r (mQ r' (hR _ _ ⟨rfl,?_⟩))))
  have eb:(sl.toList==sl'.toList)=decide (sl=sl'):=gE;rw[eb]
 rintro t h0 ⟨rfl,et⟩;by_cases hsl:sl=sl'
 rotate_left
 ·rw[decide_eq_false hsl]at et
  subst et;refine av.2 ?_;exact Az (.inr ⟨b,sl,(lab,w,F),rfl,r,e,nk,rfl⟩) (.inr ⟨b',sl',(lab',w',F'),rfl,r',e',nk',rfl⟩) st hA hB hL hk
 rw[decide_eq_true hsl]at et;subst et hsl;obtain rfl:lab=lab':=by rw[←e,←e']
 refine aj.2 (mQ r ?_);have hkl:=nk.len;simp only at hkl;have esz:∀k:ByteArray,k.size=k.data.toList.length:=fun k=>by rw[oA];rfl
 have e1:=esz ahead;have e2:=esz sl;rw[e]at e2;refine⟨by omega,?_⟩;have ekey:(ahead++sl).data.toList=ahead.data.toList++lab:=by rw[←U6,e]
 rw[Hk,ac]at hA hB;rw[Hk,Hk,ac,ac]at hL;rw[Hk,Hk]at hk;have hcF:=ef.1 nk.can;have hcF':=ef.1 nk'.can;have hkid:∀m∈F.toL,NodeK m (ahead++sl).data.toList:=fun m hm=>by rw[ekey];exact nk.kid hm
 have hkid':∀m∈F'.toL,NodeK m (ahead++sl).data.toList:=fun m hm=>by rw[ekey];exact nk'.kid hm
 rw[←ekey]at hA hB hL hk;generalize ahead++sl=key at ekey hkid hkid' hA hB hL hk⊢;have hown:∀{u:Option ByteArray},bE (vq key.data.toList u):=fun{u}=>by cases u<;>simp[vq,bE]
 rw[Es hown hown (lS fun m hm=>IC (hcF.2 m hm).1) (lS fun m hm=>IC (hcF'.2 m hm).1) (lS fun m hm=>IC (hcF.2 m hm).1) (lS fun m hm=>IC (hcF'.2 m hm).1),←al]at hk
 refine Dp r fun s1 h1 ho1 k1=>Dp (r'.upd0 k1) fun s2 h2 ho2 k2=>?_
 have k12:=k1.tr k2;have s1z:=k1.size;have s2z:=k2.size;obtain⟨_,hsb,_⟩:=st.ex;have zsb:=aO hsb;refine AL (st.upd0 k12) ((ho1.upd k2 fun _ _ h=>h).sl fun y hy _ hw=>?_) (ho2.sl fun y hy _ hw=>?_) ho1.cap ho2.cap (by omega) fun h3 C3 st3 hC3 hu3=>?_
 ·rcases hw with h|h
  ·have:=st.lt y h;omega
  ·omega
 ·rcases hw with h|h
  ·have:=st.lt y h;omega
  ·omega
 have hlo:∀u v:Option ByteArray,(iM (vq key.data.toList u) (vq key.data.toList v)).length≤(vq key.data.toList u).length+(vq key.data.toList v).length:=fun u v=>um hown hown
 have hlo:=hlo w w';generalize iM (vq key.data.toList w) (vq key.data.toList w')=X at st3 hk hlo;generalize (vq key.data.toList w).length=x1 at hA hL hlo;generalize (vq key.data.toList w').length=x2 at hB hL hlo;have hM3:∀y,C y∨y=sb→W y∨h2.size≤y:=fun y hy=>.inl (hCW y hy)
 have s3z:=hu3.size;refine B7 ((r.upd0 k12).updM hu3 hM3) (mC nk.can) fun s4 h4 ks ho4 hL4 k4=>?_
 refine B7 (((r'.upd0 k12).updM hu3 hM3).upd0 k4) (mC nk'.can) fun s5 h5 ks' ho5 hL5 k5=>?_
 have s4z:=k4.size;have s5z:=k5.size;obtain⟨_,hsb3,_⟩:=st3.ex;have zsb3:=aO hsb3;have st5:=st3.upd0 (k4.tr k5);have hW5:∀y,h5.size≤y→W y:=fun y hy=>hWn y (by omega)
 have hC3W:∀y,C3 y∨y=sb→W y:=fun y hy=>hy.elim (fun h=>(hC3 y h).elim (fun h=>hCW y (.inl h)) fun h=>hWn y (by omega)) fun h=>hCW y (.inr h)
 have hv4:Sl rD 1 (fun y=>C3 y∨y=sb∨h5.size≤y) h5 s4 ks:=(ho4.sl (W:=fun y=>C3 y∨y=sb∨h5.size≤y) fun y hy hl hw=>by
  rcases hw with h|h|h
  ·have:=st3.lt y h;omega
  ·omega
  ·omega).upd k5 fun _ h=>h.elim
 have hv5:Sl rD 1 (fun y=>C3 y∨y=sb∨h5.size≤y) h5 s5 ks':=ho5.sl (W:=fun y=>C3 y∨y=sb∨h5.size≤y) fun y hy hl hw=>by
  rcases hw with h|h|h
  ·have:=st3.lt y h;omega
  ·omega
  ·omega
 have hku:Upd (fun y=>C y∨y=sb) h0 h5:=(k12.wide.tr hu3).tr (k4.tr k5).wide
 have hC5:∀y,C3 y→C y∨h0.size≤y:=fun y hy=>(hC3 y hy).imp id fun h=>by omega
 refine LoopP.ghost (fun(g:(List (Option Addr)×List Bn)×(List (Option Addr)×List Bn)×List Ch×(Nat→Prop)) (t:SliceV×SliceV) h'=>SetAt g.2.2.2 h' sb z g.2.2.1∧(∀y,g.2.2.2 y→C3 y∨h5.size≤y)∧Upd (fun y=>C3 y∨y=sb) h5 h'∧Sl rD 1 (fun y=>C3 y∨y=sb∨h5.size≤y) h' t.1 g.1.1∧Sl rD 1 (fun y=>C3 y∨y=sb∨h5.size≤y) h' t.2 g.2.1.1∧t.1.len≤t.1.cap∧t.2.len≤t.2.cap∧
   RxL W h' g.1.1 g.1.2∧RxL W h' g.2.1.1 g.2.1.2∧(∀m∈g.1.2,m∈F.toL)∧(∀m∈g.2.1.2,m∈F'.toL)∧g.1.2.Pairwise (fun m n=>hd m.1<hd n.1)∧g.2.1.2.Pairwise (fun m n=>hd m.1<hd n.1)∧
   g.2.2.1++iM (g.1.2.flatMap (pp key.data.toList)) (g.2.1.2.flatMap (pp key.data.toList))=(L++X)++iM (F.toL.flatMap (pp key.data.toList)) (F'.toL.flatMap (pp key.data.toList))∧
   g.2.2.1.length+(g.1.2.flatMap (pp key.data.toList)).length+(g.2.1.2.flatMap (pp key.data.toList)).length≤10000000∧(g.1.2.flatMap (pp key.data.toList)).length≤1000000∧(g.2.1.2.flatMap (pp key.data.toList)).length≤1000000)
  (fun g=>g.1.2.length+g.2.1.2.length) ((ks,F.toL),(ks',F'.toL),L++X,C3)
  ⟨st5,fun _ h=>.inl h,Upd.refl _ _,hv4,hv5,ho4.cap,ho5.cap,hL4.upd0 k5,hL5,fun _ h=>h,fun _ h=>h,hcF.1,hcF'.1,rfl,by rw[ac];simp only;omega,by(try simp only);omega,by(try simp only);omega⟩ ?_
 rintro I ⟨⟨ka,La⟩,⟨kb,Lb⟩,L1,C1⟩ ⟨t1,t2⟩ h1' ⟨st1,hC1,hu1,hs1,hs2,hc1,hc2,hRa,hRb,hma,hmb,hpa,hpb,he,hl1,hl2,hl3⟩ hI;simp only at st1 hC1 hs1 hs2 hc1 hc2 hRa hRb hma hmb hpa hpb he hl1 hl2 hl3;have z1:t1.len=La.length:=hs1.len.trans hRa.1;have z2:t2.len=Lb.length:=hs2.len.trans hRb.1;have hC1W:∀y,C1 y∨y=sb→W y:=fun y hy=>hy.elim (fun h=>(hC1 y h).elim (fun h=>hC3W y (.inl h)) (hW5 y)) fun h=>hC3W y (.inr h)
 have hW1:∀y,h1'.size≤y→W y:=fun y hy=>hW5 y (bc hu1.size hy)
 have go:∀(c:List Ch) (u1 u2:SliceV) (ka2 kb2:List (Option Addr)) (A2 B2:List Bn) (h2:ad) (C2:Nat→Prop),SetAt C2 h2 sb z (L1++c)→(∀y,C2 y→C1 y∨h1'.size≤y)→Upd (fun y=>C1 y∨y=sb) h1' h2→iM (La.flatMap (pp key.data.toList)) (Lb.flatMap (pp key.data.toList))=c++iM (A2.flatMap (pp key.data.toList)) (B2.flatMap (pp key.data.toList))→
   c.length+(A2.flatMap (pp key.data.toList)).length+(B2.flatMap (pp key.data.toList)).length≤(La.flatMap (pp key.data.toList)).length+(Lb.flatMap (pp key.data.toList)).length→(A2.flatMap (pp key.data.toList)).length≤1000000→(B2.flatMap (pp key.data.toList)).length≤1000000→
   Sl rD 1 (fun y=>C3 y∨y=sb∨h5.size≤y) h1' u1 ka2→Sl rD 1 (fun y=>C3 y∨y=sb∨h5.size≤y) h1' u2 kb2→u1.len≤u1.cap→u2.len≤u2.cap→RxL W h1' ka2 A2→RxL W h1' kb2 B2→A2.Sublist La→B2.Sublist Lb→A2.length+B2.length<La.length+Lb.length→I (u1,u2) h2:=by
  intro c u1 u2 ka2 kb2 A2 B2 h2 C2 st2 hC2 hu2 ec hlc hlA hlB v1 v2 w1 w2 ra rb sa sb' hlt;have hm:∀y,C1 y∨y=sb→(C3 y∨y=sb∨h5.size≤y)∨h1'.size≤y:=fun y hy=>.inl (hy.elim (fun h=>(hC1 y h).imp id .inr) fun h=>.inr (.inl h))
  have hmW:∀y,C1 y∨y=sb→W y∨h1'.size≤y:=fun y hy=>.inl (hC1W y hy)
  refine hI ((ka2,A2),(kb2,B2),L1++c,C2) (u1,u2) h2 ⟨st2,fun y hy=>?_,?_,v1.upd hu2 hm,v2.upd hu2 hm,w1,w2,ra.updN hu2 hmW,rb.updN hu2 hmW,fun m hm=>hma m (sa.subset hm),fun m hm=>hmb m (sb'.subset hm),hpa.sublist sa,hpb.sublist sb',?_,?_,hlA,hlB⟩ hlt
  ·rcases hC2 y hy with h|h
   ·exact hC1 y h
   ·exact .inr (bc hu1.size h)
  ·exact hu1.trans hu2 fun y hy=>hy.elim (fun h=>(hC1 y h).imp .inl id) fun h=>.inl (.inr h)
  ·show(L1++c)++_=_
   rw[al,←ec,he]
  ·show(L1++c).length+(A2.flatMap (pp key.data.toList)).length+(B2.flatMap (pp key.data.toList)).length≤10000000
   rw[ac];omega
 refine Join.intro (fun t h'=>h'=h1'∧(t=true↔La≠[]∨Lb≠[])) (fun R hR=>?_) ?_
 ·refine aA (fun hp=>hR _ _ ⟨rfl,?_⟩) fun hp=>hR _ _ ⟨rfl,?_⟩
  ·have hp:(t1.len:Int)>0:=hp
   simp only[true_iff];left;intro e;rw[e]at z1;simp only[aJ]at z1;omega
  ·have hp:¬(t1.len:Int)>0:=hp
   have e1:La= []:=aw.1 (by omega);show decide ((t2.len:Int)>0)=true↔_
   rw[decide_eq_true_iff];constructor
   ·intro h;right;intro e;rw[e]at z2;simp only[aJ]at z2;omega
   ·intro h
    rcases h with h|h
    ·exact absurd e1 h
    ·have:=kH.2 h;omega
 rintro t h6 ⟨rfl,ht⟩;refine CondP.intro (fun et=>?_) fun et=>?_
 rotate_left
 ·have hn:La= []∧Lb= []:=by
   rw[et]at ht;constructor
   ·exact Decidable.byContradiction fun h=>absurd (ht.2 (.inl h)) (by simp)
   ·exact Decidable.byContradiction fun h=>absurd (ht.2 (.inr h)) (by simp)
  obtain⟨rfl,rfl⟩:=hn;rw[kU,jb,ji,aK]at he;subst he;exact hk h6 C1 st1 (fun y hy=>(hC1 y hy).elim (hC5 y) fun h=>.inr (by omega)) (hku.trans hu1 fun y hy=>hy.elim (fun h=>(hC5 y h).imp .inl id) fun h=>.inl (.inr h))
 have hne:=ht.1 et;clear ht et;have hna:∀m∈La,m.1≠[]:=fun m hm=>(hcF.2 m (hma m hm)).1
 have hnb:∀m∈Lb,m.1≠[]:=fun m hm=>(hcF'.2 m (hmb m hm)).1
 refine Join.intro (fun t h'=>h'=h6∧((t=true∧∃a A',La=a::A'∧∀q∈Lb,hd a.1<hd q.1)∨(t=false∧∃b B',Lb=b::B'∧(La= []∨∃a A',La=a::A'∧¬hd a.1<hd b.1)))) (fun R hR=>?_) ?_
 ·rcases Lb with _|⟨q,B'⟩
  ·rcases La with _|⟨a,A'⟩
   ·exact absurd hne (by simp)
   rw[show(((t2.len:Nat):Int)==0)=true by rw[z2];rfl]
   exact av.2 (hR _ _ ⟨rfl,.inl ⟨rfl,a,A',rfl,fun q hq=>absurd hq gu⟩⟩)
  ·rw[ak]at z2
   rw[show(((t2.len:Nat):Int)==0)=false by rw[beq_eq_false_iff_ne];omega]
   refine aj.2 ?_;rcases La with _|⟨a,A'⟩
   ·rw[aJ]at z1
    rw[decide_eq_false (show ¬((t1.len:Int)>0) by omega)]
    exact aj.2 (hR _ _ ⟨rfl,.inr ⟨rfl,q,B',rfl,.inl rfl⟩⟩)
   ·rw[ak]at z1
    rw[decide_eq_true (show((t1.len:Int)>0) by omega)]
    obtain⟨b1,l1,g1,g2,g3⟩:=hRa.at (i:=0) (nW _);obtain⟨b2,l2,f1,f2,f3⟩:=hRb.at (i:=0) (nW _);simp only[fy]at g2 g3 f2 f3;obtain⟨a1,ha1,_,v1⟩:=hs1.at0 g1;obtain⟨a2,ha2,_,v2⟩:=hs2.at0 f1;obtain⟨c1,cc1,cd1,ce1⟩:=Th g2 (hna a (ao ..));obtain⟨c2,cc2,cd2,ce2⟩:=Th f2 (hnb q (ao ..));refine av.2 ⟨⟨by(try simp only);omega,by(try simp only);omega⟩,a1,ha1,_,v1,⟨by(try simp only);omega,by(try simp only);omega⟩,a2,ha2,_,v2,mQ g3 ⟨v2,c1,cc1,cd1,mQ f3 ⟨c2,cc2,cd2,hR _ _ ⟨rfl,?_⟩⟩⟩⟩
    rw[ce1,ce2];by_cases hlt:hd a.1<hd q.1
    ·refine .inl ⟨decide_eq_true (by omega),a,A',rfl,fun m hm=>?_⟩
     rcases az.1 hm with rfl|hm
     ·exact hlt
     ·exact Nat.lt_trans hlt ((aG.1 hpb).1 m hm)
    ·exact .inr ⟨decide_eq_false (by omega),q,B',rfl,.inr ⟨a,A',rfl,hlt⟩⟩
 rintro t h7 ⟨rfl,⟨rfl,a,A',rfl,hlow⟩|⟨rfl,q,B',rfl,hor⟩⟩
 ·
  rw[ak]at z1;obtain⟨b1,l1,g1,g2,g3⟩:=hRa.at (i:=0) (nW _);simp only[fy]at g2 g3;obtain⟨a1,ha1,_,v1⟩:=hs1.at0 g1;rw[aI,ac]at hl1 hl2;refine av.2 ⟨⟨by(try simp only);omega,by(try simp only);omega⟩,a1,ha1,_,v1,?_⟩
  refine G5 (A:=pp key.data.toList a) (B:= []) (.inr ⟨b1,l1,a,rfl,g3,g2,hkid a (hma a (ao ..)),rfl⟩) (.inl ⟨rfl,rfl⟩) (.inr rfl) st1 (by omega) (bw _) (by rw[aJ];omega) fun h8 C8 st8 hC8 hu8=>?_
  refine⟨⟨by(try simp only);omega,by(try simp only);omega⟩,?_⟩
  simp only[Bd];rcases ka with _|⟨k0,ka⟩
  ·simp at g1
  have ca:=hcF.2 a (hma a (ao ..));have hp:=aG.1 hpa;refine go (iM (pp key.data.toList a) []) _ t2 ka kb A' Lb h8 C8 st8 hC8 hu8 ?_ ?_ (by omega) hl3 (SM hs1 hc1) hs2 (by show t1.len-1≤t1.cap-1;omega) hc2 (hRa.drop 1) hRb (lO ..) (.refl _) (by rw[ak];omega)
  ·rw[aI]
   exact Es (B1:= []) (rE ca.2.2) .nil (lS fun m hm=>Dl ca.1 (hna m (aC _ hm)) (hp.1 m hm)) (lS fun m hm=>Dl ca.1 (hnb m hm) (hlow m hm)) (fun p hp=>absurd hp gu) (fun p hp=>absurd hp gu)
  ·have:=um (rE (pre:=key.data.toList) ca.2.2) (B:= []) .nil
   rw[aI,ac];rw[aJ]at this;omega
 refine aj.2 ?_;rw[ak]at z2;obtain⟨b2,l2,f1,f2,f3⟩:=hRb.at (i:=0) (nW _);simp only[fy]at f2 f3;obtain⟨a2,ha2,_,v2⟩:=hs2.at0 f1;obtain⟨c2,cc2,cd2,ce2⟩:=Th f2 (hnb q (ao ..));rcases kb with _|⟨k0',kb⟩
 ·simp at f1
 have cb:=hcF'.2 q (hmb q (ao ..));have hpq:=aG.1 hpb;rw[aI (f:=pp key.data.toList),ac]at hl3;rw[aI (f:=pp key.data.toList) (x:=q),ac]at hl1;refine Join.intro (fun t h'=>h'=h7∧((t=true∧∀p∈La,hd q.1<hd p.1)∨(t=false∧∃a A',La=a::A'∧hd a.1=hd q.1))) (fun R hR=>?_) ?_
 ·rcases hor with rfl|⟨a,A',rfl,hnl⟩
  ·rw[show(((t1.len:Nat):Int)==0)=true by rw[z1];rfl]
   exact av.2 (hR _ _ ⟨rfl,.inl ⟨rfl,fun p hp=>absurd hp gu⟩⟩)
  ·rw[ak]at z1
   rw[show(((t1.len:Nat):Int)==0)=false by rw[beq_eq_false_iff_ne];omega]
   obtain⟨b1,l1,g1,g2,g3⟩:=hRa.at (i:=0) (nW _);simp only[fy]at g2 g3;obtain⟨a1,ha1,_,v1⟩:=hs1.at0 g1;obtain⟨c1,cc1,cd1,ce1⟩:=Th g2 (hna a (ao ..));refine aj.2 ⟨⟨by(try simp only);omega,by(try simp only);omega⟩,a2,ha2,_,v2,⟨by(try simp only);omega,by(try simp only);omega⟩,a1,ha1,_,v1,mQ f3 ⟨v1,c2,cc2,cd2,mQ g3 ⟨c1,cc1,cd1,hR _ _ ⟨rfl,?_⟩⟩⟩⟩
   rw[ce1,ce2];by_cases hlt:hd q.1<hd a.1
   ·refine .inl ⟨decide_eq_true (by omega),fun m hm=>?_⟩
    rcases az.1 hm with rfl|hm
    ·exact hlt
    ·exact Nat.lt_trans hlt ((aG.1 hpa).1 m hm)
   ·exact .inr ⟨decide_eq_false (by omega),a,A',rfl,by omega⟩
 rintro t h8 ⟨rfl,⟨rfl,hlow⟩|⟨rfl,a,A',rfl,heq⟩⟩
 ·
  refine av.2 ⟨⟨by(try simp only);omega,by(try simp only);omega⟩,a2,ha2,_,v2,?_⟩
  refine G5 (A:= []) (B:=pp key.data.toList q) (.inl ⟨rfl,rfl⟩) (.inr ⟨b2,l2,q,rfl,f3,f2,hkid' q (hmb q (ao ..)),rfl⟩) (.inl rfl) st1 (bw _) (by omega) (by rw[aJ];omega) fun h9 C9 st9 hC9 hu9=>?_
  refine⟨⟨by(try simp only);omega,by(try simp only);omega⟩,?_⟩
  simp only[Bd];refine go (iM [] (pp key.data.toList q)) t1 _ ka kb La B' h9 C9 st9 hC9 hu9 ?_ ?_ hl2 (by omega) hs1 (SM hs2 hc2) hc1 (by show t2.len-1≤t2.cap-1;omega) hRa (hRb.drop 1) (.refl _) (lO ..) (by rw[ak];omega)
  ·rw[aI]
   exact Es (A1:= []) .nil (rE cb.2.2) (fun p hp=>absurd hp gu) (fun p hp=>absurd hp gu) (lS fun m hm=>Dl cb.1 (hna m hm) (hlow m hm)) (lS fun m hm=>Dl cb.1 (hnb m (aC _ hm)) (hpq.1 m hm))
  ·have:=um (A:= []) (B:=pp key.data.toList q) .nil (rE cb.2.2)
   rw[aI,ac];rw[aJ]at this;omega
 ·
  rw[ak]at z1;obtain⟨b1,l1,g1,g2,g3⟩:=hRa.at (i:=0) (nW _);simp only[fy]at g2 g3;obtain⟨a1,ha1,_,v1⟩:=hs1.at0 g1;rcases ka with _|⟨k0,ka⟩
  ·simp at g1
  have ca:=hcF.2 a (hma a (ao ..));have hp:=aG.1 hpa;rw[aI,ac]at hl1 hl2;refine aj.2 ⟨⟨by(try simp only);omega,by(try simp only);omega⟩,a1,ha1,_,v1,⟨by(try simp only);omega,by(try simp only);omega⟩,a2,ha2,_,v2,?_⟩
  refine ih a (hma a (ao ..)) (n':=q) g3 g2 f3 f2 (hkid a (hma a (ao ..))) (hkid' q (hmb q (ao ..))) st1 hC1W hW1 (by omega) (by omega) (by omega) fun h9 C9 st9 hC9 hu9=>?_
  refine⟨⟨by(try simp only);omega,by(try simp only);omega⟩,?_⟩
  simp only[Bd];refine⟨⟨by(try simp only);omega,by(try simp only);omega⟩,?_⟩
  refine go (iM (pp key.data.toList a) (pp key.data.toList q)) _ _ ka kb A' B' h9 C9 st9 hC9 hu9 ?_ ?_ (by omega) (by omega) (SM hs1 hc1) (SM hs2 hc2) (by show t1.len-1≤t1.cap-1;omega) (by show t2.len-1≤t2.cap-1;omega) (hRa.drop 1) (hRb.drop 1) (lO ..) (lO ..) (by rw[ak,ak];omega)
  ·rw[aI,aI]
   exact Es (rE ca.2.2) (rE cb.2.2) (lS fun m hm=>Dl ca.1 (hna m (aC _ hm)) (hp.1 m hm)) (lS fun m hm=>Dl ca.1 (hnb m (aC _ hm)) (by rw[heq];exact hpq.1 m hm)) (lS fun m hm=>Dl cb.1 (hna m (aC _ hm)) (by rw[←heq];exact hp.1 m hm)) (lS fun m hm=>Dl cb.1 (hnb m (aC _ hm)) (hpq.1 m hm))
  ·have:=um (rE (pre:=key.data.toList) ca.2.2) (rE (pre:=key.data.toList) cb.2.2)
   rw[aI,aI,ac,ac];omega
theorem zn:∀{F:Fo},fS F→∀n∈F.toL,Nv n
 | .nil,_,n,hn=>by simp[Fo.toL]at hn
 | .cons lab w kids rest,h,n,hn=>by
  rcases az.1 hn with rfl|hn
  ·exact G6 (zn h.2.2.1)
  ·exact zn h.2.2.2.2 n hn
end Go.Proofs
namespace Go.Proofs
open Go Go.Lift
theorem KU{lt:Ch→Ch→Bool}(w:WO lt){M:Nat→Prop}{Iv:ad→Prop}{cmp:Value}(hc:Cmp lt BP M Iv cmp){h:ad}{s:SliceV}{A S B:List (Ch)}(ho:OwnS BP 5 bT M h s (A++(S++B)))(hi:Iv h)(hn:s.len≤1000000000){a b:Nat}(ha:a=A.length)(hb:b=A.length+S.length){K:Unit→ad→Prop}
  (hk:∀h' R,OwnS BP 5 bT M h' s (A++(R++B))→St lt S R→Upd M h h'→K () h'):HC PG dx [.slice s.a s.len s.cap,.int .i64 a,.int .i64 b,cmp] [] K h:=by
 subst ha hb;refine g6 s A.length (A.length+S.length:Nat) cmp ?_;unfold eO ay cj aD bX fC bI jJ ma;have hlen:=ho.len;simp only[ac]at hlen;have ea:IntKind.wrap .i64 ((A.length:Int)+1)=((A.length+1:Nat):Int):=by rw[d8 (by omega)];omega
 rw[ea];refine LoopP.ghost (fun(g:List (Ch)×List (Ch)×List (Ch)) (t:Int) h'=>t=((A.length+max 1 g.1.length:Nat):Int)∧S=g.1++g.2.2∧(g.1= []→g.2.2= [])∧St lt g.1 g.2.1∧OwnS BP 5 bT M h' s (A++(g.2.1++(g.2.2++B)))∧Upd M h h') (fun g=>g.2.2.length) (S.take 1,S.take 1,S.drop 1)
  ⟨?_,(aZ ..).symm,fun e=>?_,⟨Eqf.rfl _,?_⟩,by rw[←al (S.take 1),aZ];exact ho,Upd.refl _ _⟩ ?_
 ·simp only[aQ];omega
 ·have:=congrArg List.length e
  simp only[aQ,aJ]at this;exact aw.1 (by simp only[List.length_drop];omega)
 ·match S with
  | []=>exact Srt.nil
  |x::S=>exact Srt.one x
 rintro I ⟨S1,R1,T⟩ t h' ⟨e1,e2,hemp,hst,ho',hu⟩ hI;simp only at e1 e2 hemp hst ho';subst e1 e2;simp only[ac]at hlen;have hR1:=hst.eqf.len;refine aA (fun hlt=>?_) fun hge=>?_
 ·simp only[ac]at hlt
  have hS1:S1≠[]:=fun e=>by
   have:=hemp e;subst e;subst this;simp only[aJ]at hlt;omega
  have hS1l:0<S1.length:=kH.2 hS1;match T with
  | []=>simp only[aJ]at hlt;omega
  |x::T=>
   have emax:A.length+max 1 S1.length=A.length+S1.length:=by omega
   rw[emax];refine LoopP.ghost (fun(g:List (Ch)×List (Ch)) (t:Int) h2=>t=((A.length+g.1.length:Nat):Int)∧R1=g.1++g.2∧(∀y∈g.2,lt x y=true)∧OwnS BP 5 bT M h2 s (A++(g.1++(x::(g.2++(T++B)))))∧Upd M h h2) (fun g=>g.1.length) (R1,[])
    ⟨by simp only;omega,by simp,fun y hy=>(by cases hy),by simpa using ho',hu⟩ ?_
   rintro I2 ⟨L,G⟩ t2 h2 ⟨e1,e2,hG,ho2,hu2⟩ hI2;simp only at e1 e2 hG ho2;subst e1 e2;simp only[ac]at hR1;simp only[ak]at hlen;refine Join.intro (fun t h3=>Upd M h h3∧OwnS BP 5 bT M h3 s (A++(L++(x::(G++(T++B)))))∧(t=true→∃L' y,L=L'++ [y]∧lt x y=true)∧(t=false→∀y∈L,lt x y=false)) (fun Rj hRj=>?_) ?_
   ·refine aA (fun hgt=>?_) fun hle=>?_
    ·rcases AW L with rfl|⟨L',y,rfl⟩
     ·simp only[aJ]at hgt;omega
     have hlL:(L'++ [y]).length=L'.length+1:=by simp
     have ew:IntKind.wrap .i64 (((A.length+(L'++ [y]).length:Nat):Int)-1)=((A.length+L'.length:Nat):Int):=by rw[hlL,d8 (by omega)];omega
     rw[ew];have f1:A++((L'++ [y])++(x::(G++(T++B))))=(A++L')++y::(x::(G++(T++B))):=by simp
     have f2:A++((L'++ [y])++(x::(G++(T++B))))=(A++(L'++ [y]))++x::(G++(T++B)):=by simp
     have o3:=ho2;have o4:=ho2;rw[f1]at o3;rw[f2]at o4;obtain⟨a,ha,hy⟩:=ie o3 (i:=A.length+L'.length) (by first|omega|(simp;done)|(simp;omega))
     obtain⟨a',ha',hx⟩:=ie o4 (i:=A.length+(L'++ [y]).length) (by first|omega|(simp;done)|(simp;omega))
     rw[ha]at ha';cases ha';refine⟨⟨by omega,by omega⟩,a,ha,x.1,hx 0 _ rfl,x.2.1,hx 1 _ rfl,x.2.2.1,hx 2 _ rfl,x.2.2.2.1,hx 3 _ rfl,x.2.2.2.2,hx 4 _ rfl,⟨by omega,by omega⟩,a,ha,y.1,hy 0 _ rfl,y.2.1,hy 1 _ rfl,y.2.2.1,hy 2 _ rfl,y.2.2.2.1,hy 3 _ rfl,y.2.2.2.2,hy 4 _ rfl,?_⟩
     refine hc.call x y (hc.step hu2 hi) fun h5 e k5 he=>?_
     rw[he];have ho5:=ho2.upd k5 fun _ _ h=>h
     refine hRj _ _ ⟨hu2.tr k5.wide,ho5,fun h=>⟨L',y,rfl,h⟩,fun h z hz=>?_⟩
     have hs:=hst.srt.left;rcases bi.1 hz with hz|hz
     ·exact w.ntr x y z h (hs.cross z hz y (aB.2 rfl))
     ·rw[aB.1 hz];exact h
    ·have hL:L= []:=aw.1 (by omega)
     exact hRj _ _ ⟨hu2,ho2,fun h=>(by cases h),fun _ y hy=>(by rw[hL]at hy;cases hy)⟩
   ·rintro t3 h3 ⟨hu3,ho3,ht,hf⟩
    cases t3 with
    |true=>
     obtain⟨L',y,rfl,hxy⟩:=ht rfl;have hlL:(L'++ [y]).length=L'.length+1:=by simp
     refine av.2 ?_;have ew:IntKind.wrap .i64 (((A.length+(L'++ [y]).length:Nat):Int)-1)=((A.length+L'.length:Nat):Int):=by rw[hlL,d8 (by omega)];omega
     rw[ew];have f1:A++((L'++ [y])++(x::(G++(T++B))))=(A++L')++y::(x::(G++(T++B))):=by simp
     have f2:(A++L')++y::(x::(G++(T++B)))=(A++(L'++ [y]))++x::(G++(T++B)):=by simp
     have f3:(A++(L'++ [y]))++y::(G++(T++B))=(A++L')++y::(y::(G++(T++B))):=by simp
     have f4:(A++L')++x::(y::(G++(T++B)))=A++(L'++(x::((y::G)++(T++B)))):=by simp
     rw[f1]at ho3;have o4:=ho3;rw[f2]at o4;obtain⟨a,ha,hy⟩:=ie ho3 (i:=A.length+L'.length) (by first|omega|(simp;done)|(simp;omega))
     obtain⟨a',ha',hx⟩:=ie o4 (i:=A.length+(L'++ [y]).length) (by first|omega|(simp;done)|(simp;omega))
     rw[ha]at ha';cases ha';refine⟨⟨by omega,by omega⟩,a,ha,y.1,hy 0 _ rfl,y.2.1,hy 1 _ rfl,y.2.2.1,hy 2 _ rfl,y.2.2.2.1,hy 3 _ rfl,y.2.2.2.2,hy 4 _ rfl,⟨by omega,by omega⟩,a,ha,x.1,hx 0 _ rfl,x.2.1,hx 1 _ rfl,x.2.2.1,hx 2 _ rfl,x.2.2.2.1,hx 3 _ rfl,x.2.2.2.2,hx 4 _ rfl,⟨by omega,by omega⟩,a,ha,?_⟩
     refine pQ o4 y ha (by first|omega|(simp;done)|(simp;omega)) fun h5 o5 k5=>⟨⟨by omega,by omega⟩,a,ha,?_⟩
     rw[f3]at o5;refine pQ o5 x ha (by first|omega|(simp;done)|(simp;omega)) fun h6 o6 k6=>?_
     rw[f4]at o6;refine hI2 (L',y::G) _ _ ⟨rfl,by simp,fun z hz=>?_,o6,(hu3.trans k5 fun b hb=>.inl hb).trans k6 fun b hb=>.inl hb⟩ (by simp only[hlL];omega)
     rcases az.1 hz with rfl|hz
     ·exact hxy
     ·exact hG z hz
    |false=>
     refine aj.2 ?_;have ew:IntKind.wrap .i64 (((A.length+S1.length:Nat):Int)+1)=((A.length+max 1 (S1.length+1):Nat):Int):=by rw[d8 (by omega)];omega
     rw[ew];refine hI (S1++ [x],L++x::G,T) _ _ ⟨by simp,by simp,fun e=>(by simp at e),Ij w hst (hf rfl) hG,?_,hu3⟩ (by simp)
     have f1:A++((L++x::G)++(T++B))=A++(L++(x::(G++(T++B)))):=by simp
     rw[f1];exact ho3
 ·simp only[ac]at hge
  have hT:T= []:=by
   rcases Nat.eq_zero_or_pos S1.length with h0|h0
   ·exact hemp (aw.1 h0)
   ·exact aw.1 (by omega)
  subst hT;rw[cU]at ho';rw[aK]at hk;exact hk h' R1 ho' hst hu
end Go.Proofs
namespace Go.Proofs
open Go Go.Lift
abbrev Te:ByteArray:=⟨#[0,1,2,2,3,3,3,3,4,4,4,4,4,4,4,4,5,5,5,5,5,5,5,5,5,5,5,5,5,5,5,5,6,6,6,6,6,6,6,6,6,6,6,6,6,6,6,6,6,6,6,6,6,6,6,6,6,6,6,6,6,6,6,6,7,7,7,7,7,7,7,7,7,7,7,7,7,7,7,7,7,7,7,7,7,7,7,7,7,7,7,7,7,7,7,7,7,7,7,7,7,7,7,7,7,7,7,7,7,7,7,7,7,7,7,7,7,7,7,7,7,7,7,7,7,7,7,7,8,8,8,8,8,8,8,8,8,8,8,8,8,8,8,8,8,8,8,8,8,8,8,8,8,8,8,8,8,8,8,8,8,8,8,8,8,8,8,8,8,8,8,8,8,8,8,8,8,8,8,8,8,8,8,8,8,8,8,8,8,8,8,8,8,8,8,8,8,8,8,8,8,8,8,8,8,8,8,8,8,8,8,8,8,8,8,8,8,8,8,8,8,8,8,8,8,8,8,8,8,8,8,8,8,8,8,8,8,8,8,8,8,8,8,8,8,8,8,8,8,8,8,8,8,8,8,8]⟩
theorem Td:∀x:Nat,x<256→∃c:UInt8,Te[x]? =some c∧c.toNat≤8∧(1≤x→2^c.toNat≤2*x)∧(x=0→c.toNat=0):=by
 have key:∀x:Fin 256,∃c:UInt8,Te[x.val]? =some c∧c.toNat≤8∧(1≤x.val→2^c.toNat≤2*x.val)∧(x.val=0→c.toNat=0):=by
  intro x;have:∀x:Fin 256,(match Te[x.val]? with|some c=>decide (c.toNat≤8∧(1≤x.val→2^c.toNat≤2*x.val)∧(x.val=0→c.toNat=0))|none=>false)=true:=by decide+kernel
  have hx:=this x;split at hx
  ·rename_i c hc
   exact⟨c,hc,of_decide_eq_true hx⟩
  ·cases hx
 exact fun x hx=>key ⟨x,hx⟩
theorem Rl{h:ad}{n:Nat}(hn:n<4294967296){K:Int→ad→Prop}(hk:∀L:Nat,L≤64→(1≤n→2^L≤2*n)→K (L:Int) h):HC PG qd [.int .u64 n] [.c (.int .i64)] K h:=by
 refine Bs n ?_;unfold uM;have fd:∀(x k:Nat),Int.fdiv (x:Int) (2^k)=((x/2^k:Nat):Int):=fun x k=>by
  rw[Int.fdiv_eq_ediv_of_nonneg _ (Int.pow_nonneg (by omega))];rw[Int.natCast_ediv,Int.natCast_pow];rfl
 refine Join.intro (fun t h'=>h'=h∧t=((n:Int),(0:Int))) (fun R hR=>?_) ?_
 ·exact aA (fun h1=>by omega) fun h1=>hR _ _ ⟨rfl,rfl⟩
 ·rintro t h' ⟨rfl,rfl⟩
  refine Join.intro (fun t h2=>h2=h'∧∃x s:Nat,t=((x:Int),(s:Int))∧x*2^s≤n∧(1≤n→1≤x)∧x<65536∧s≤16) (fun R hR=>?_) ?_
  ·refine aA (fun h1=>?_) fun h1=>hR _ _ ⟨rfl,n,0,rfl,by simp,fun h=>h,by have h1:¬(n:Int)≥65536:=h1;omega,by omega⟩
   have h1:65536≤n:=by have h1:(n:Int)≥65536:=h1;omega
   refine⟨by omega,hR _ _ ⟨rfl,n/2^16,16,?_,Nat.div_mul_le_self ..,fun _=>by omega,by omega,by omega⟩⟩
   simp only[rz.injEq];exact⟨fd n 16,by decide⟩
  ·rintro t h2 ⟨rfl,x,s,rfl,hx,hx1,hxb,hsb⟩
   refine Join.intro (fun t h3=>h3=h2∧∃x s:Nat,t=((x:Int),(s:Int))∧x*2^s≤n∧(1≤n→1≤x)∧x<256∧s≤24) (fun R hR=>?_) ?_
   ·refine aA (fun h1=>?_) fun h1=>hR _ _ ⟨rfl,x,s,rfl,hx,hx1,by have h1:¬(x:Int)≥256:=h1;omega,by omega⟩
    have h1:256≤x:=by have h1:(x:Int)≥256:=h1;omega
    refine⟨by omega,hR _ _ ⟨rfl,x/2^8,s+8,?_,?_,fun _=>by omega,by omega,by omega⟩⟩
    ·simp only[rz.injEq]
     exact⟨fd x 8,by rw[d8 (by omega)];omega⟩
    ·rw[Nat.pow_add,wZ (2^s),←Nat.mul_assoc]
     exact bc (Nat.mul_le_mul_right _ (Nat.div_mul_le_self ..)) hx
   ·rintro t h3 ⟨rfl,x,s,rfl,hx,hx1,hxb,hsb⟩
    obtain⟨c,hc,hc8,hc1,hc0⟩:=Td x hxb;have wx:IntKind.wrap .u8 (x:Int)=(x:Int):=by
     simp[IntKind.wrap,IntKind.bits,IntKind.signed];omega
    show∃b10:UInt8,(0:Int)≤IntKind.wrap .u8 (x:Int)∧Te[(IntKind.wrap .u8 (x:Int)).toNat]? =some b10∧_
    rw[wx];refine⟨c,by omega,by simpa using hc,?_⟩
    have wc:IntKind.wrap .i64 (c.toNat:Int)=(c.toNat:Int):=d8 (by omega);have e2:IntKind.wrap .i64 ((s:Int)+IntKind.wrap .i64 (c.toNat:Int))=((s+c.toNat:Nat):Int):=by rw[wc,d8 (by omega)];omega
    show K (IntKind.wrap .i64 ((s:Int)+IntKind.wrap .i64 (c.toNat:Int))) h3
    rw[e2];refine hk _ (by omega) fun h1=>?_
    have:=hc1 (hx1 h1);rw[Nat.pow_add];calc 2^s*2^c.toNat≤2^s*(2*x):=gS _ this
     _=2*(x*2^s):=by rw[wZ (2^s),Nat.mul_assoc]
     _≤2*n:=gS _ hx
theorem MR{h:ad}{n:Nat}(hn:n<4294967296){K:Int→ad→Prop}(hk:∀L:Nat,L≤64→(1≤n→2^L≤2*n)→K (L:Int) h):HC PG oX [.int .u64 n] [.c (.int .i64)] K h:=by
 refine Eb n ?_;unfold xk bX;exact Rl hn hk
def Tb(a b:Ch):Bool:=decide (kl a.1 b.1)
theorem woG:WO Tb:=by
 refine⟨fun a=>decide_eq_false (bW _),fun a b h=>decide_eq_false (Fh (of_decide_eq_true h)),fun a b c h1 h2=>decide_eq_false fun h=>?_⟩
 have h1:¬kl a.1 b.1:=of_decide_eq_false h1;have h2:¬kl b.1 c.1:=of_decide_eq_false h2;by_cases e:a.1=b.1
 ·rw[e]at h;exact h2 h
 ·exact h2 (fE (ph h1 e) h)
theorem TU(M:Nat→Prop):Cmp Tb BP M (fun _=>True) (.func (.func ng) #[] #[]):=by
 refine⟨fun a b h K _ hk=>HV.mk' (LD a b ?_),fun _ h=>h⟩
 unfold DU au jH bX Uo;refine aM fun h1 b1 k1=>aM fun h2 b2 k2=>?_
 refine⟨a.1,vc (k2.get0 b1) 0,b.1,vc b2 0,FF (hk h2 _ (k1.tr k2) ?_)⟩;unfold GB Tb;split
 ·rename_i h;rw[decide_eq_true h];rfl
 ·rename_i h
  rw[decide_eq_false h];split<;>rfl
theorem Eqf.perm{α:Type}[DecidableEq α]{lt:α→α→Bool}(w:WO lt){l l':List α}(h:Eqf lt l l'):l'.Perm l:=by
 rw[List.perm_iff_count];intro a;have e:∀m:List α,m.count a=(m.filter (HT lt a)).count a:=fun m=>(List.count_filter (FG w a)).symm
 rw[e l',e l,h.flt a]
theorem JT{R X:List Ch}(hp:R.Perm X)(hR:Srt Tb R)(hX:CD X):R=X:=by
 have hk:X.Pairwise fun a b=>Tb b a=false:=hX.imp fun h=>decide_eq_false (Fh h)
 refine hp.eq_of_pairwise (fun a b ha hb h1 h2=>?_) hR hk
 have h1:¬kl b.1 a.1:=of_decide_eq_false h1;have h2:¬kl a.1 b.1:=of_decide_eq_false h2;have ha:=hp.mem_iff.1 ha;have e:a.1=b.1:=Decidable.byContradiction fun hne=>h1 (ph h2 hne)
 refine Decidable.byContradiction fun hne=>?_
 obtain⟨i,hi,rfl⟩:=bK ha;obtain⟨j,hj,rfl⟩:=bK hb;rcases Nat.lt_trichotomy i j with h|h|h
 ·have:=cn.1 hX i j hi hj h
  rw[e]at this;exact bW _ this
 ·subst h;exact hne rfl
 ·have:=cn.1 hX j i hj hi h
  rw[e]at this;exact bW _ this
theorem QP{M:Nat→Prop}{h:ad}{s:SliceV}{L X:List Ch}(ho:OwnS BP 5 bT M h s L)(hp:L.Perm X)(hX:CD X)(hn:L.length≤12){K:Unit→ad→Prop}(hk:∀h',OwnS BP 5 bT M h' s X→Upd M h h'→K () h'):
  HC PG cD [.slice s.a s.len s.cap,.func (.func ng) #[] #[]] [] K h:=by
 refine gz s _ ?_;unfold eB bX;have hlen:=ho.len;rw[Go.IntWalk.u64_in _ (by omega)];refine MR (by omega) fun L0 _ _=>?_
 refine jm s 0 s.len L0 _ ?_;unfold fY ay cj aD bX bI ja ma xI;refine LoopP.ghost (fun(_:Unit) (t:Int×Int×Int×Bool×Bool) h'=>t=(0,(s.len:Int),(L0:Int),true,true)∧h'=h) (fun _=>0) () ⟨rfl,rfl⟩ ?_
 rintro I ⟨⟩ t h' ⟨rfl,rfl⟩ _;have e:IntKind.wrap .i64 ((s.len:Int)-0)=(s.len:Int):=by rw[d8 (by omega)];omega
 simp only;rw[e];rw[decide_eq_true (show(s.len:Int)≤12 by omega)]
 refine av.2 ?_;have ho':OwnS BP 5 bT M h' s ([]++(L++ [])):=by simpa using ho
 refine KU (A:= []) (B:= []) (a:=0) (b:=s.len) woG (TU M) ho' trivial (by omega) rfl (by simp;omega) fun h2 R o2 s2 k2=>?_
 rw[cU,aK]at o2;have:=JT ((s2.eqf.perm woG).trans hp) s2.srt hX;subst this;exact hk h2 o2 k2
theorem Mc{t:Tr}{h:ad}{K:Int×Int×Int→ad→Prop}(hk:∀h',Upd No h h'→K (t.2.1,t.2.2.1,t.2.2.2.1) h'):HC PG pm [zo t] [.agg [.int .u64,.int .u64,.int .u64]] K h:=by
 refine zY t ?_;unfold tK ae aH cp oa Vy VB;refine aM fun h1 b1 k1=>aM fun h2 b2 k2=>?_
 have c1:=k2.get0 b1;refine⟨_,sy c1 1 0,_,sy c1 1 1,_,sy c1 1 2,?_⟩;refine be (c:= [.int .u64 0,.int .u64 0,.int .u64 0]) (vs:= [.int .u64 t.2.1,.int .u64 t.2.2.1,.int .u64 t.2.2.2.1]) b2 rfl fun h3 b3 hu3=>?_
 exact⟨_,vc b3 0,_,vc b3 1,_,vc b3 2,hk h3 ((k1.tr k2).own hu3 k1.size)⟩
theorem G9{t:Tr}{h:ad}{K:Option Addr→ad→Prop}(hk:∀h',Upd No h h'→K t.2.2.2.2.2 h'):HC PG mu [zo t] [.c .ptr] K h:=by
 refine Bc t ?_;unfold uy ax oa;exact aM fun h1 b1 k1=>⟨_,vc b1 5,hk h1 k1⟩
theorem Q1{W:Nat→Prop}{h:ad}{b:Nat}{l:List Pr}(t:RadAt W h b l)(hr:bE l)(hf:Fit l):∃n:Bn,n.1= []∧RxN W h b ⟨#[]⟩ n.2.1 n.2.2∧NodeK n []∧pp [] n=l:=by
 obtain⟨w,F,r1,r2,r3⟩:=t.ex;have hp:=Oj r2 hr r3;refine⟨([],w,F),rfl,r1,⟨r2,by simp,fun p hp=>?_⟩,?_⟩
 ·obtain⟨q,hq,e,_⟩:=(r3 p.1 p.2).1 hp
  have:=(hf q hq).1;rw[←e];have e2:q.1.data.toList.length=q.1.size:=oA;simp only[aJ];omega
 ·unfold pp
  show(vo w F).map (AS ([]++ []))=l
  rw[hp];unfold O7;rw[qv];conv=>rhs;rw[←List.map_id l]
  exact List.map_congr_left fun p _=>by unfold AS;simp[MM]
theorem FE{W W':Nat→Prop}{x x':Hs}{h:ad}{kind kind':Int}{t u:Tr}{l l':List Pr}(i:TreeIs W h kind x t l)(i':TreeIs W' h kind' x' u l')(hr:bE l)(hf:Fit l)(hn:l.length≤60000)(hr':bE l')(hf':Fit l')(hn':l'.length≤60000)(hsort:nX t u=true→∀{M:Nat→Prop} {h':ad} {s:SliceV} {L:List Ch} {K':Unit→ad→Prop},OwnS BP 5 bT M h' s L→(∀b,M b→b<h'.size)→L.Perm (iM l l')→(∀h2,OwnS BP 5 bT M h2 s (iM l l')→Upd M h' h2→K' () h2)→HC PG cD [.slice s.a s.len s.cap,.func (.func ng) #[] #[]] [] K' h'){K:SliceV×Int→ad→Prop}
  (h0:nX t u=false→∀h',Upd No h h'→K (⟨none,0,0⟩,11) h')(hk:nX t u=true→∀h' s',OwnS BP 5 bT (fun y=>h.size≤y) h' s' (iM l l')→Upd No h h'→K (s',0) h'):HC PG sR [zo t,zo u] [.c .slice,.c (.int .i64)] K h:=by
 refine Qb t u ?_;unfold H5 aN ae ax cd jR oa TE UN KP bX;refine aM fun h1 b1 k1=>aM fun h2 b2 k2=>?_
 have c1:=k2.get0 b1;refine⟨_,vc c1 0,_,vc c1 1,_,vc c1 2,_,vc c1 3,_,vc c1 4,_,vc c1 5,_,vc b2 0,_,vc b2 1,_,vc b2 2,_,vc b2 3,_,vc b2 4,_,vc b2 5,?_⟩;refine Ax fun h3 k3=>?_
 have k03:=(k1.tr k2).tr k3;have c3:=k3.get0 c1;have b3:=k3.get0 b2;rcases hl:nX t u with _|_
 ·exact av.2 (h0 hl h3 k03)
 refine aj.2 ⟨_,vc c3 0,_,vc c3 1,_,vc c3 2,_,vc c3 3,_,vc c3 4,_,vc c3 5,?_⟩;refine Mc fun h4 k4=>?_
 refine aM fun h5 b5 k5=>?_
 have k05:=(k03.tr k4).tr k5;have c5:=k5.get0 (k4.get0 c3);have d5:=k5.get0 (k4.get0 b3);have z5:=aO b5;have s4:=(k03.tr k4).size;have s5:=k5.size;obtain⟨rfl,hx⟩:=Hv i i' hl;let z:Hs:=⟨t.2.1,t.2.2.1,t.2.2.2.1⟩
 have st:SetAt No h5 h4.size z []:=⟨⟨⟨none,0,0⟩,b5,OwnS.nil RM⟩,fun _ h=>h.elim,id⟩
 have hul:∀h6,Upd No h5 h6→∀h' C' ys,SetAt C' h' h4.size z ([]++ys)→(∀b,C' b→No b∨h6.size≤b)→Upd (fun b=>No b∨b=h4.size) h6 h'→ys.Perm (iM l l')→∃C' ys,SetAt C' h' h4.size z ys∧(∀y,C' y→h5.size≤y)∧Upd (fun y=>y=h4.size) h5 h'∧ys.Perm (iM l l'):=
  fun h6 k6 h' C' ys st' hC' hu' hp=>⟨C',ys,st',fun y hy=>(hC' y hy).elim (fun h=>h.elim) fun h=>bc k6.size h,k6.wide.trans hu' fun b hb=>hb.elim (fun h=>h.elim) fun h=>.inl h,hp⟩
 refine Join.intro (fun _ h'=>∃C' ys,SetAt C' h' h4.size z ys∧(∀y,C' y→h5.size≤y)∧Upd (fun y=>y=h4.size) h5 h'∧ys.Perm (iM l l')) (fun R hR=>?_) ?_
 ·refine⟨_,vc c5 0,_,vc c5 1,_,vc c5 2,_,vc c5 3,_,vc c5 4,_,vc c5 5,?_⟩
  refine QK fun h6 k6=>?_
  have c6:=k6.get0 c5;have d6:=k6.get0 d5;have i6:=(i.less (W':=fun y=>h.size≤y) fun _ h=>.inr h).upd0 (k05.tr k6)
  have i6':=(i'.less (W':=fun y=>h.size≤y) fun _ h=>.inr h).upd0 (k05.tr k6)
  have hCW:∀y,No y∨y=h4.size→h.size≤y:=fun y hy=>hy.elim (fun h=>h.elim) fun e=>by omega
  rcases i6 with⟨rfl,b,rfl,tt⟩|⟨rfl,b,rfl,tt⟩
  ·rcases i6' with⟨_,b',rfl,tt'⟩|⟨e,_⟩
   ·obtain rfl:=hx rfl
    refine aj.2 ⟨_,vc c6 0,_,vc c6 1,_,vc c6 2,_,vc c6 3,_,vc c6 4,_,vc c6 5,_,vc d6 0,_,vc d6 1,_,vc d6 2,_,vc d6 3,_,vc d6 4,_,vc d6 5,?_⟩;refine BV tt fun h7 k7=>?_
    have d7:=k7.get0 d6;refine⟨⟨vc d7 0,vc d7 1,vc d7 2,vc d7 3,vc d7 4,vc d7 5⟩,?_⟩;refine BV (TrieAt.upd0 k7 tt') fun h8 k8=>?_
    have k58:=(k6.tr k7).tr k8;refine QC 13 (aq _) (TrieAt.upd0 (k7.tr k8) tt) (TrieAt.upd0 (k7.tr k8) tt') (st.upd0 k58) hCW (fun y hy=>by have:=k58.size;omega) hr hr' (by omega) (by omega) (by simp) fun ys hp h9 C9 st9 hC9 hu9=>?_
    exact hR _ _ (hul h8 k58 h9 C9 ys st9 hC9 hu9 hp)
   ·cases e
  ·rcases i6' with⟨e,_⟩|⟨_,b',rfl,tt'⟩
   ·cases e
   ·refine av.2 ⟨_,vc c6 0,_,vc c6 1,_,vc c6 2,_,vc c6 3,_,vc c6 4,_,vc c6 5,_,vc d6 0,_,vc d6 1,_,vc d6 2,_,vc d6 3,_,vc d6 4,_,vc d6 5,?_⟩
    refine G9 fun h7 k7=>?_
    have d7:=k7.get0 d6;refine⟨⟨vc d7 0,vc d7 1,vc d7 2,vc d7 3,vc d7 4,vc d7 5⟩,?_⟩;refine G9 fun h8 k8=>?_
    have k58:=(k6.tr k7).tr k8;obtain⟨n,e1,r1,nk,hp⟩:=Q1 (tt.upd0 (k7.tr k8)) hr hf;obtain⟨n',e1',r1',nk',hp'⟩:=Q1 (tt'.upd0 (k7.tr k8)) hr' hf';obtain⟨lab,w,F⟩:=n;simp only at e1;subst e1;refine G6 (zn nk.can) (sl:=⟨#[]⟩) (ahead:=⟨#[]⟩) r1 rfl r1' (by rw[e1']) nk nk' (st.upd0 k58) hCW (fun y hy=>by have:=k58.size;omega) (by show(pp [] _).length≤_;rw[hp];omega) (by show(pp [] _).length≤_;rw[hp'];omega) (by show 0+(pp [] _).length+(pp [] _).length≤_;rw[hp,hp'];omega) fun h9 C9 st9 hC9 hu9=>?_
    have st9:SetAt C9 h9 h4.size z ([]++iM (pp [] ([],w,F)) (pp [] n')):=st9;rw[hp,hp']at st9;exact hR _ _ (hul h8 k58 h9 C9 _ st9 hC9 hu9 (.refl _))
 ·rintro _ h6 ⟨C6,ys,st6,hC6,hu6,hp⟩
  obtain⟨s,e6,ho6⟩:=st6.ex;refine⟨_,rfl,s,vc e6 3,?_⟩;refine hsort hl ho6 st6.lt hp fun h7 ho7 hu7=>?_
  have e7:=hu7.get e6 st6.ne;refine⟨_,rfl,s,vc e7 3,hk hl h7 s (ho7.more fun y hy=>by have:=hC6 y hy;omega) ?_⟩
  exact(k05.trans hu6 fun y hy=>.inr (by omega)).trans hu7 fun y hy=>.inr (by have:=hC6 y hy;omega)
theorem PM{W W':Nat→Prop}{x x':Hs}{h:ad}{kind kind':Int}{t u:Tr}{l l':List Pr}(i:TreeIs W h kind x t l)(i':TreeIs W' h kind' x' u l')(hr:bE l)(hf:Fit l)(hn:l.length≤60000)(hr':bE l')(hf':Fit l')(hn':l'.length≤60000)(h12:nX t u=true→(iM l l').length≤12){K:SliceV×Int→ad→Prop}
  (h0:nX t u=false→∀h',Upd No h h'→K (⟨none,0,0⟩,11) h')(hk:nX t u=true→∀h' s',OwnS BP 5 bT (fun y=>h.size≤y) h' s' (iM l l')→Upd No h h'→K (s',0) h'):HC PG sR [zo t,zo u] [.c .slice,.c (.int .i64)] K h:=
 FE i i' hr hf hn hr' hf' hn' (fun hl {_ _ _ _ _} ho _ hp hk=>QP ho hp (ws hr hr') (by rw[hp.length_eq];exact h12 hl) hk) h0 hk
end Go.Proofs
namespace Go.Proofs
open Go Go.Lift
theorem JN{h:ad}{b:Nat}{c:Array Value}{t:TypeId}(hb:h[b]? =some (.cells c t (0,0))):aS h ⟨b,0,none⟩=c[0]?:=bh hb
theorem PU{z:Hs}{W:Nat→Prop}{h:ad}{s:SliceV}{xs:List Pr}(h1:Sl (zH z) 3 W h s xs)(hn:xs.length*40≤140737488355328){K:SliceV→ad→Prop}
  (hk:∀s' h',OwnS (zH z) 3 bQ (fun b=>h.size≤b) h' s' xs→Upd No h h'→K s' h'):HC PG eG [.slice s.a s.len s.cap] [.c .slice] K h:=by
 refine lI s ?_;unfold gJ LU;refine CondP.intro (fun he=>?_) (fun hne=>?_)
 ·have he:s.a=none:=by simpa using he
  have hx:xs= []:=by
   by_cases hx:xs= []
   ·exact hx
   ·obtain⟨a,ha,_⟩:=h1.row hx
    rw[he]at ha;cases ha
  subst hx;exact hk _ _ (OwnS.nil (IT z)) (Upd.refl _ _)
 ·have h2:=h1.upd (Upd.hnew No h [] bQ) (fun _ h=>h.elim)
  refine⟨_,h2.srow,?_⟩;refine AppP.own (f:=zH z) (M:=fun b=>h.size≤b) (xs:= []) (ys:=xs) ⟨rfl,IT z,aq _,.inl rfl⟩ h1.len rfl (Ow z xs) rfl (by omega) (by simpa using hn) (by rw[iS];omega) fun s' h' ho hu=>?_
  exact hk _ _ ho ((Upd.hnew No h [] bQ).trans hu fun b hb=>.inr hb)
theorem PD{z:Hs}{W:Nat→Prop}{h:ad}{s:SliceV}{xs:List Pr}(hs:Sl (zH z) 3 W h s xs)(hn:xs.length≤1000000000){g:Pr→Bool}{V:Value}(hg:∀p∈xs,∀{h':ad} {K:Bool→ad→Prop},Upd No h h'→(∀h'',Upd No h' h''→K (g p) h'')→HV PG V [.agg (zH z p).toArray] [.c .bool] K h'){K:Int→ad→Prop}
  (hk:∀h' A B e,xs=A++B→(∀a∈A,g a=false)→(B= []→e= -1)→(∀b B',B=b::B'→e=(A.length:Int)∧g b=true)→Upd No h h'→K e h'):HC PG cW [.slice s.a s.len s.cap,V] [.c (.int .i64)] K h:=by
 refine kq s V ?_;unfold fZ cj aH aD Ap;have hlen:=hs.len;refine LoopP.ghost (fun(g':List Pr×List Pr) (t:Int) h'=>t=(g'.1.length:Int)∧xs=g'.1++g'.2∧(∀a∈g'.1,g a=false)∧Upd No h h') (fun g=>g.2.length) ([],xs) ⟨rfl,rfl,fun a ha=>(by cases ha),Upd.refl _ _⟩ ?_
 rintro I ⟨A,B⟩ t h' ⟨e1,e2,hA,hu⟩ hI;simp only at e1 e2 hA;subst e1 e2;simp only[ac]at hlen hn;refine aA (fun hlt=>?_) fun hge=>?_
 ·rcases B with _|⟨p,B⟩
  ·simp only[aJ]at hlen;omega
  ·obtain⟨a,ha,_,hv⟩:=(hs.upd hu fun _ h=>h.elim).at (i:=A.length) (x:=p) (by rw[List.getElem?_append_right (aq _),Nat.sub_self];rfl)
   refine⟨⟨by omega,by omega⟩,a,ha,p.1,hv 0 _ rfl,p.2,hv 1 _ rfl,gp z p.1,hv 2 _ rfl,?_⟩
   refine hg p (by simp) hu fun h2 k2=>?_
   cases hgp:g p with
   |true=>exact av.2 (hk h2 A (p::B) _ rfl hA (fun h=>by cases h) (fun b B' e=>by cases e;exact⟨rfl,hgp⟩) (hu.tr k2))
   |false=>
    refine aj.2 ?_;have ew:IntKind.wrap .i64 ((A.length:Int)+1)=((A++ [p]).length:Int):=by simp only[ak]at hn;rw[ac,List.length_singleton,d8 (by omega)];omega
    rw[ew];refine hI (A++ [p],B) _ _ ⟨rfl,by simp,fun a ha=>?_,hu.tr k2⟩ (by simp)
    rcases bi.1 ha with ha|ha
    ·exact hA a ha
    ·rw[aB.1 ha];exact hgp
 ·have hB:B= []:=aw.1 (by omega)
  subst hB;exact hk h' A [] _ rfl hA (fun _=>rfl) (fun b B' e=>by cases e) hu
abbrev atV(bl:Nat):Value:=.func (.func tw) #[] #[.pointer (some ⟨bl,0,none⟩)]
theorem FP{z:Hs}{lev:Nat}(hl:lev<13){h:ad}{bl:Nat}{t:TypeId}(hb:h[bl]? =some (.cells #[.int .i64 (lev:Int)] t (0,0))) (p:Pr) {K:Int→ad→Prop} (hk:∀h',Upd No h h'→K (ck z lev p.1:Int) h'):
  HV PG (atV bl) [.agg (zH z p).toArray] [.c (.int .i64)] K h:=by
 refine HV.mk' (FY (p.1,p.2,gp z p.1) ⟨bl,0,none⟩ ?_);unfold ym ae bX sS ME;refine aM fun h1 b1 k1=>?_
 exact⟨_,vc b1 2,_,JN (k1.get0 hb),PV hl (hk h1 k1)⟩
theorem KS{a:Int}{h:ad}{K:Bool→ad→Prop}(hk:K false h):HC PG oZ [.int .i64 a] [.c .bool] K h:=by
 refine Ed a ?_;unfold xn;rw[bne_self_eq_false];exact hk
theorem PR{a b:Int}{h:ad}{K:Int→ad→Prop}(hk:∀e,decide (e<0)=decide (a<b)→K e h):HC PG qe [.int .i64 a,.int .i64 b] [.c (.int .i64)] K h:=by
 refine Bu a b ?_;unfold uO;refine KS (KS (aj.2 (aj.2 ?_)));refine aA (fun h1=>hk _ ?_) fun h1=>aA (fun h2=>hk _ ?_) fun h2=>hk _ ?_
 ·rw[decide_eq_true h1];rfl
 ·rw[decide_eq_false h1];rfl
 ·rw[decide_eq_false h1];rfl
def Uw(z:Hs)(lev:Nat)(a b:Pr):Bool:=decide (ck z lev a.1<ck z lev b.1)
theorem Uv(z:Hs)(lev:Nat):WO (Uw z lev):=by
 refine⟨fun a=>decide_eq_false (by omega),fun a b h=>decide_eq_false ?_,fun a b c h k=>decide_eq_false ?_⟩
 ·have:=of_decide_eq_true h;omega
 ·have:=of_decide_eq_false h;have:=of_decide_eq_false k;omega
theorem Tq(z:Hs)(lev:Nat)(x a:Pr):HT (Uw z lev) x a=decide (ck z lev a.1=ck z lev x.1):=by
 unfold HT Uw;by_cases e:ck z lev a.1=ck z lev x.1
 ·rw[decide_eq_true e,e];simp
 ·rw[decide_eq_false e]
  rcases Nat.lt_or_gt_of_ne e with h|h
  ·rw[decide_eq_true h];rfl
  ·rw[decide_eq_true (p:=ck z lev x.1<ck z lev a.1) h];simp
def Two(bl ba:Nat)(lev:Nat)(h:ad):Prop:=h[bl]? =some (.cells #[.int .i64 (lev:Int)] sA (0,0))∧h[ba]? =some (.cells #[atV bl] pF (0,0))
theorem Two.upd{bl ba lev:Nat}{h h':ad}(t:Two bl ba lev h)(k:Upd No h h'):Two bl ba lev h':=⟨k.get0 t.1,k.get0 t.2⟩
theorem V7{z:Hs}{lev:Nat}(hl:lev<13){bl ba:Nat}{M:Nat→Prop}(h1:¬M bl)(h2:¬M ba):Cmp (Uw z lev) (zH z) M (Two bl ba lev) (.func (.func tu) #[] #[.pointer (some ⟨ba,0,none⟩)]):=by
 refine⟨fun a b h K t hk=>HV.mk' (FX (a.1,a.2,gp z a.1) (b.1,b.2,gp z b.1) ⟨ba,0,none⟩ ?_),fun k t=>⟨k.get t.1 h1,k.get t.2 h2⟩⟩
 unfold yl ae au bX Ap ME T3;refine aM fun h1 b1 k1=>aM fun h2 b2 k2=>?_
 have k02:=k1.tr k2;have t2:=t.upd k02;have c1:=k2.get0 b1;refine⟨_,JN t2.2,_,vc c1 0,_,vc c1 1,_,vc c1 2,_,JN t2.2,_,vc b2 0,_,vc b2 1,_,vc b2 2,?_⟩;refine FP (z:=z) hl t2.1 a fun h3 k3=>?_
 have t3:=t2.upd k3;have b3:=k3.get0 b2;refine⟨⟨vc b3 0,vc b3 1,vc b3 2⟩,JN t3.2,?_⟩;refine FP (z:=z) hl t3.1 b fun h4 k4=>?_
 refine PR fun e he=>hk h4 e ((k02.tr k3).tr k4) ?_
 rw[he];unfold Uw;exact decide_eq_decide.2 (by omega)
end Go.Proofs
