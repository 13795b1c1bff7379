/- A part of the proof that the named laws of this program answer true, whatever the input. -/
import Derived.Test.YtncppacbfagpgaaGreatDoorLift2
open Array renaming ext_getElem?→m8,getElem?_setIfInBounds→eA,getElem?_eq_some_iff→cF
open List renaming flatMap_cons→aO,length_append→ac,length_cons→ax,getElem?_append_left→bX,getElem?_append_right→aQ,getElem?_eq_some_iff→bl,length_take→aK,length_drop→aS,take_append_drop→aF,flatMap_append→bm,length_eq_zero_iff→aH,getElem?_toArray→fk,length_nil→aZ,size_toArray→dB,take_append_of_le_length→fi,drop_eq_nil_of_le→fX,nil_append→dM,append_assoc→aq,take_left'→dY,drop_drop→d8,drop_left'→cV,drop_append_of_le_length→gJ
open Nat renaming lt_or_ge→bN,le_refl→ao,lt_of_lt_of_le→bB,succ_mul→jd,zero_add→aD,add_zero→cU
namespace Go.Lift
open Go
attribute [simp] aw al
theorem aE{p:Prop}[Decidable p]{t e:Prop}(h1:p→t)(h2:¬p→e):CondP (decide p) t e:=CondP.intro (fun h=>h1 (of_decide_eq_true h)) (fun h=>h2 (of_decide_eq_false h))
theorem HC.mono{P:Program}{f:FuncId}{args:List Value}{ks:List Kind}{K K':cW ks→ad→Prop}{h:ad}(hc:HC P f args ks K h)(hk:∀t h',K t h'→K' t h'):HC P f args ks K' h:=by
 refine⟨fun w hw=>?_⟩
 rcases hc.run w hw with⟨h1,h2⟩|⟨v,w',h1,h2,t,h3,h4⟩
 ·exact .inl ⟨h1,h2.mono fun e w' ⟨ht,t,he,hK⟩=>⟨ht,t,he,hk t _ hK⟩⟩
 ·exact .inr ⟨v,w',h1,h2,t,h3,hk t _ h4⟩
theorem Join.intro{T:Type}{rest:T→ad→Prop}{k:(T→ad→Prop)→Prop}(J:T→ad→Prop)(h1:∀R:T→ad→Prop,(∀t h,J t h→R t h)→k R)(h2:∀t h,J t h→rest t h):Join rest k:=⟨h1 rest h2⟩
theorem Join.plain{T:Type}{rest:T→ad→Prop}{k:(T→ad→Prop)→Prop}(h:k rest):Join rest k:=⟨h⟩
theorem LoopP.intro{T:Type}{F:(T→ad→Prop)→T→ad→Prop}{t:T}{h:ad}(Inv:T→ad→Prop)(m:T→ad→Nat)(h0:Inv t h)
  (step:∀I:T→ad→Prop,∀t h,Inv t h→(∀t' h',Inv t' h'→m t' h'<m t h→I t' h')→F I t h):LoopP F t h:=by
 refine⟨fun I hI=>?_⟩
 have key:∀n t h,m t h=n→Inv t h→I t h:=by
  intro n;induction n using Nat.strongRecOn with
  |_ n ih=>exact fun t h hn hi=>hI t h (step I t h hi fun t' h' hi' hlt=>ih _ (hn▸hlt) t' h' rfl hi')
 exact key _ t h rfl h0
theorem LoopP.ghost{T G:Type}{F:(T→ad→Prop)→T→ad→Prop}{t:T}{h:ad}(Inv:G→T→ad→Prop)(m:G→Nat)(g:G)(h0:Inv g t h)
  (step:∀I:T→ad→Prop,∀g t h,Inv g t h→(∀g' t' h',Inv g' t' h'→m g'<m g→I t' h')→F I t h):LoopP F t h:=by
 refine⟨fun I hI=>?_⟩
 have key:∀n g t h,m g=n→Inv g t h→I t h:=by
  intro n;induction n using Nat.strongRecOn with
  |_ n ih=>exact fun g t h hn hi=>hI t h (step I g t h hi fun g' t' h' hi' hlt=>ih _ (hn▸hlt) g' t' h' rfl hi')
 exact key _ g t h rfl h0
theorem HV.mk'{P:Program}{f:FuncId}{first cap:Array Value}{args:List Value}{ks:List Kind}{K:cW ks→ad→Prop}{h:ad}(hc:HC P f (first.toList++args++cap.toList) ks K h):HV P (.func (.func f) first cap) args ks K h:=
 ⟨.inl ⟨f,first,cap,rfl,hc⟩⟩
@[simp] theorem bP(b o n:Nat):adr ⟨b,o,none⟩ n=⟨b,o+n,none⟩:=by
 cases n<;>rfl
@[simp] theorem vq(a:Addr)(n:Nat):(adr a n).block=a.block:=by
 cases n<;>rfl
theorem cM(h:ad):az h=⟨h.size,0,none⟩:=rfl
theorem GS{h:ad}{a:Addr}{v:Value}(hv:aN h a=some v):a.block<h.size:=by
 unfold aN at hv;rcases bN a.block h.size with hl|hl
 ·exact hl
 ·rw[Array.getElem?_eq_none hl]at hv;cases hv
theorem aV{h:ad}{b i:Nat}{c:Array Value}{e:TypeId}{fr:Nat×Nat}(hb:h[b]? =some (.cells c e fr)):aN h ⟨b,i,none⟩=c[i]?:=by
 unfold aN;rw[hb];rfl
theorem Jb{h h':ad}{a:Addr}(hb:h'[a.block]? =h[a.block]?):aN h' a=aN h a:=by
 unfold aN;rw[hb]
theorem BW{h:ad}{b i:Nat}{c:Array Value}{e:TypeId}{fr:Nat×Nat}{v:Value}(hb:h[b]? =some (.cells c e fr)):
  hset h ⟨b,i,none⟩ v=h.setIfInBounds b (.cells (c.setIfInBounds i v) e fr):=by
 unfold hset;apply m8;intro j;rw[Array.getElem?_modify,eA];by_cases hj:b=j
 ·subst hj
  have hlt:=(cF.1 hb).1;simp only[hb,if_true,hlt,Option.map_some];rfl
 ·simp[hj]
theorem gS{h:ad}{b i:Nat}{c:Array Value}{e:TypeId}(hb:h[b]? =some (.cells c e (0,0))) (hi:i<c.size):Wr h ⟨b,i,none⟩:=by
 refine⟨⟨c[i],by rw[aV hb,Array.getElem?_eq_getElem hi]⟩,?_⟩
 unfold AS;rw[hb];simp
structure Upd(M:Nat→Prop)(h h':ad):Prop where
 size:h.size≤h'.size
 same:∀b,b<h.size→¬M b→h'[b]? =h[b]?
abbrev No:Nat→Prop:=fun _=>False
theorem Upd.refl(M:Nat→Prop)(h:ad):Upd M h h:=⟨ao _,fun _ _ _=>rfl⟩
theorem Upd.trans{M M':Nat→Prop}{h h1 h2:ad}(k:Upd M h h1)(l:Upd M' h1 h2)(hs:∀b,M' b→M b∨h.size≤b):Upd M h h2:=
 ⟨Nat.le_trans k.size l.size,fun b hb hn=>by
  rw[l.same b (bB hb k.size) (fun hm=>(hs b hm).elim hn fun hge=>absurd hb (Nat.not_lt.2 hge)),k.same b hb hn]⟩
theorem Upd.tr{M:Nat→Prop}{h h1 h2:ad}(k:Upd M h h1)(l:Upd M h1 h2):Upd M h h2:=k.trans l fun _ h=>.inl h
theorem Upd.mono{M M':Nat→Prop}{h h':ad}(k:Upd M h h')(hs:∀b,M b→M' b∨h.size≤b):Upd M' h h':=
 ⟨k.size,fun b hb hn=>k.same b hb fun hm=>(hs b hm).elim hn fun hge=>absurd hb (Nat.not_lt.2 hge)⟩
theorem Upd.wide{M:Nat→Prop}{h h':ad}(k:Upd No h h'):Upd M h h':=k.mono fun _ h=>h.elim
theorem Upd.get{M:Nat→Prop}{h h':ad}(k:Upd M h h'){b:Nat}{o:Obj}(ho:h[b]? =some o) (hn:¬M b):h'[b]? =some o:=by
 rw[k.same b (cF.1 ho).1 hn,ho]
theorem Upd.get0{h h':ad}(k:Upd No h h'){b:Nat}{o:Obj}(ho:h[b]? =some o):h'[b]? =some o:=k.get ho id
theorem Upd.cell{M:Nat→Prop}{h h':ad}(k:Upd M h h'){a:Addr}{v:Value}(hv:aN h a=some v)(hn:¬M a.block):aN h' a=some v:=by
 rw[Jb (k.same _ (GS hv) hn),hv]
theorem Upd.cell0{h h':ad}(k:Upd No h h'){a:Addr}{v:Value}(hv:aN h a=some v):aN h' a=some v:=k.cell hv id
theorem Upd.push(M:Nat→Prop)(h:ad)(o:Obj):Upd M h (h.push o):=⟨by simp,fun b hb _=>by rw[Array.getElem?_push];simp[Nat.ne_of_lt hb]⟩
theorem Upd.set{M:Nat→Prop}(h:ad){b:Nat}(o:Obj)(hb:M b):Upd M h (h.setIfInBounds b o):=⟨by simp,fun c _ hn=>by
 rw[eA]
 have:b≠c:=fun e=>hn (e▸hb)
 simp[this]⟩
theorem Upd.hset{M:Nat→Prop}(h:ad){a:Addr}(v:Value)(hb:M a.block):Upd M h (hset h a v):=⟨by simp[Go.Lift.hset],fun c _ hn=>by
 unfold Go.Lift.hset
 rw[Array.getElem?_modify]
 have:a.block≠c:=fun e=>hn (e▸hb)
 simp[this]⟩
theorem Upd.hnew(M:Nat→Prop)(h:ad)(cs:List Value)(t:TypeId):Upd M h (hnew h cs t):=Upd.push M h _
theorem bZ(h:ad)(cs:List Value)(t:TypeId):(hnew h cs t)[h.size]? =some (.cells cs.toArray t (0,0)):=by
 unfold hnew;simp
theorem uo(h:ad)(o:Obj):(h.push o)[h.size]? =some o:=by simp
theorem iS(h:ad)(cs:List Value)(t:TypeId):(hnew h cs t).size=h.size+1:=by
 unfold hnew;simp
theorem iY{h:ad}{b:Nat}{o o':Obj}(hb:h[b]? =some o'):(h.setIfInBounds b o)[b]? =some o:=by
 rw[eA];simp[(cF.1 hb).1]
theorem aJ{h:ad}{b:Nat}{o:Obj}(hb:h[b]? =some o):b<h.size:=(cF.1 hb).1
theorem Row.upd{M:Nat→Prop}{h h':ad}{a:Addr}{vs:List Value}(hr:Row h a vs)(k:Upd M h h')(hn:¬M a.block):Row h' a vs:=fun i v hv=>k.cell (hr i v hv) (by rw[vq];exact hn)
theorem SRow.upd{M:Nat→Prop}{h h':ad}{a:Option Addr}{n:Nat}{vs:List Value}(hr:SRow h a n vs)(k:Upd M h h')(hn:vs≠[]→∀b,a=some b→¬M b.block):SRow h' a n vs:=by
 obtain⟨h1,h2⟩:=hr;refine⟨h1,?_⟩;rcases h2 with rfl|⟨b,hb,hr⟩
 ·exact .inl rfl
 ·by_cases hv:vs= []
  ·exact .inl hv
  ·exact .inr ⟨b,hb,hr.upd k (hn hv b hb)⟩
theorem oQ{h:ad}{b o:Nat}{c:Array Value}{e:TypeId}{fr:Nat×Nat}(hb:h[b]? =some (.cells c e fr)) {vs:List Value} (hv:∀i v,vs[i]? =some v→c[o+i]? =some v):Row h ⟨b,o,none⟩ vs:=fun i v hi=>by
 rw[bP,aV hb];exact hv i v hi
structure Sl{α:Type}(f:α→List Value)(sz:Nat)(W:Nat→Prop)(h:ad)(s:SliceV)(xs:List α):Prop where
 len:s.len=xs.length
 ne:∀x,(f x).length=sz∧0<sz
 row:xs≠[]→∃a,s.a=some a∧¬W a.block∧Row h a (xs.flatMap f)
theorem Sl.nil{α:Type}{f:α→List Value}{sz:Nat}{W:Nat→Prop}{h:ad}{a:Option Addr}{c:Nat}(hf:∀x,(f x).length=sz∧0<sz):Sl f sz W h ⟨a,0,c⟩ []:=⟨rfl,hf,fun h=>absurd rfl h⟩
theorem Sl.lt{α:Type}{f:α→List Value}{sz:Nat}{W:Nat→Prop}{h:ad}{s:SliceV}{xs:List α}(hs:Sl f sz W h s xs)(hx:xs≠[]){a:Addr}(ha:s.a=some a):a.block<h.size:=by
 obtain⟨a',ha',hn,hr⟩:=hs.row hx;rw[ha]at ha';cases ha';cases xs with
 |nil=>exact absurd rfl hx
 |cons x xs=>
  have h1:=hs.ne x;cases hf:f x with
  |nil=>rw[hf]at h1;simp at h1;omega
  |cons v vs=>
   have:=hr 0 v (by rw[aO,hf];rfl);have:=GS this;rw[vq]at this;exact this
theorem Sl.upd{α:Type}{f:α→List Value}{sz:Nat}{W M:Nat→Prop}{h h':ad}{s:SliceV}{xs:List α}(hs:Sl f sz W h s xs)(k:Upd M h h')(hm:∀b,M b→W b∨h.size≤b):Sl f sz W h' s xs:=by
 refine⟨hs.len,hs.ne,fun hx=>?_⟩
 obtain⟨a,ha,hn,hr⟩:=hs.row hx;exact⟨a,ha,hn,hr.upd k fun hb=>(hm _ hb).elim hn fun hge=>absurd (hs.lt hx ha) (Nat.not_lt.2 hge)⟩
theorem Sl.less{α:Type}{f:α→List Value}{sz:Nat}{W W':Nat→Prop}{h:ad}{s:SliceV}{xs:List α}(hs:Sl f sz W h s xs)(hm:∀b,W' b→W b∨h.size≤b):Sl f sz W' h s xs:=
 ⟨hs.len,hs.ne,fun hx=>let⟨a,ha,hn,hr⟩:=hs.row hx;⟨a,ha,fun hb=>(hm _ hb).elim hn fun hge=>absurd (hs.lt hx ha) (Nat.not_lt.2 hge),hr⟩⟩
theorem lr{α:Type}{f:α→List Value}{sz:Nat}(hsz:∀x,(f x).length=sz):∀xs:List α,(xs.flatMap f).length=xs.length*sz
 | []=>by simp
 |x::xs=>by rw[aO,ac,hsz,lr hsz xs,ax,jd];omega
theorem uy{α:Type}{f:α→List Value}{sz:Nat}(hsz:∀x,(f x).length=sz):∀(xs:List α) (i j:Nat) (x:α),xs[i]? =some x→j<sz→(xs.flatMap f)[i*sz+j]? =(f x)[j]?
 | [],i,j,x,h,_=>by simp at h
 |y::xs,0,j,x,h,hj=>by
  simp only[List.getElem?_cons_zero,Option.some.injEq]at h;subst h;rw[aO,Nat.zero_mul,aD,bX (by rw[hsz];exact hj)]
 |y::xs,i+1,j,x,h,hj=>by
  rw[List.getElem?_cons_succ]at h;rw[aO,aQ (by rw[hsz,jd];omega),hsz,show(i+1)*sz+j-sz=i*sz+j by rw[jd];omega]
  exact uy hsz xs i j x h hj
theorem Sl.at{α:Type}{f:α→List Value}{sz:Nat}{W:Nat→Prop}{h:ad}{s:SliceV}{xs:List α}(hs:Sl f sz W h s xs){i:Nat}{x:α}(hi:xs[i]? =some x):
  ∃a,s.a=some a∧¬W a.block∧∀j v,(f x)[j]? =some v→aN h (adr (adr a (i*sz)) j)=some v:=by
 obtain⟨a,ha,hn,hr⟩:=hs.row (fun e=>by subst e;simp at hi)
 refine⟨a,ha,hn,fun j v hv=>?_⟩
 have hj:j<sz:=by rw[←(hs.ne x).1];exact(bl.1 hv).1
 rw[yb];exact hr _ v (by rw[uy (fun x=>(hs.ne x).1) xs i j x hi hj];exact hv)
theorem Sl.at0{α:Type}{g:α→Value}{W:Nat→Prop}{h:ad}{s:SliceV}{xs:List α}(hs:Sl (fun x=> [g x]) 1 W h s xs){i:Nat}{x:α}(hi:xs[i]? =some x):
  ∃a,s.a=some a∧¬W a.block∧aN h (adr a (i*1))=some (g x):=by
 obtain⟨a,ha,hn,hr⟩:=hs.at hi;exact⟨a,ha,hn,hr 0 _ rfl⟩
theorem Sl.srow{α:Type}{f:α→List Value}{sz:Nat}{W:Nat→Prop}{h:ad}{s:SliceV}{xs:List α}(hs:Sl f sz W h s xs):SRow h s.a (s.len*sz) (xs.flatMap f):=by
 refine⟨?_,?_⟩
 ·rw[hs.len,lr fun x=>(hs.ne x).1]
 ·by_cases hx:xs= []
  ·subst hx;exact .inl rfl
  ·obtain⟨a,ha,_,hr⟩:=hs.row hx
   exact .inr ⟨a,ha,hr⟩
theorem Sl.sub{α:Type}{f:α→List Value}{sz:Nat}{W:Nat→Prop}{h:ad}{s:SliceV}{xs:List α}(hs:Sl f sz W h s xs){l hi m c:Nat}(h1:l≤hi)(h2:hi≤xs.length)(h3:hi≤m):
  Sl f sz W h ⟨aY s.a l m sz,hi-l,c⟩ ((xs.drop l).take (hi-l)):=by
 refine⟨by simp only[aK,aS];omega,hs.ne,fun hx=>?_⟩
 have hlt:l<hi:=by
  rcases bN l hi with h|h
  ·exact h
  ·rw[Nat.sub_eq_zero_of_le h]at hx;exact absurd List.take_zero hx
 obtain⟨a,ha,hn,hr⟩:=hs.row (fun e=>by rw[e]at h2;simp at h2;omega)
 refine⟨adr a (l*sz),?_,by rw[vq];exact hn,fun i v hv=>?_⟩
 ·unfold aY
  rw[if_neg (by omega),ha];rfl
 ·rw[yb]
  refine hr _ v ?_;have e:xs=xs.take l++((xs.drop l).take (hi-l)++(xs.drop l).drop (hi-l)):=by rw[aF,aF]
  rw[e,bm,bm];have hl:((xs.take l).flatMap f).length=l*sz:=by rw[lr fun x=>(hs.ne x).1,aK];congr 1;omega
  rw[aQ (by omega),hl,Nat.add_sub_cancel_left,bX (bl.1 hv).1];exact hv
structure OwnS{α:Type}(f:α→List Value)(sz:Nat)(t:TypeId)(M:Nat→Prop)(h:ad)(s:SliceV)(xs:List α):Prop where
 len:s.len=xs.length
 ne:∀x,(f x).length=sz∧0<sz
 cap:s.len≤s.cap
 blk:s.cap=0∨∃b rest,s.a=some ⟨b,0,none⟩∧M b∧h[b]? =some (.cells (xs.flatMap f++rest).toArray t (0,0))∧rest.length=(s.cap-s.len)*sz
theorem OwnS.nil{α:Type}{f:α→List Value}{sz:Nat}{t:TypeId}{M:Nat→Prop}{h:ad}{a:Option Addr}(hf:∀x,(f x).length=sz∧0<sz):OwnS f sz t M h ⟨a,0,0⟩ []:=⟨rfl,hf,ao _,.inl rfl⟩
theorem OwnS.sl{α:Type}{f:α→List Value}{sz:Nat}{t:TypeId}{M W:Nat→Prop}{h:ad}{s:SliceV}{xs:List α}(hs:OwnS f sz t M h s xs)(hm:∀b,M b→b<h.size→¬W b):Sl f sz W h s xs:=by
 refine⟨hs.len,hs.ne,fun hx=>?_⟩
 rcases hs.blk with h0|⟨b,rest,ha,hb,hc,_⟩
 ·have:=hs.len;have:=hs.cap
  have:xs.length=0:=by omega
  exact absurd (aH.1 this) hx
 ·exact⟨_,ha,hm b hb (aJ hc),oQ hc fun i v hv=>by
   rw[aD,fk,bX (bl.1 hv).1];exact hv⟩
theorem OwnS.upd{α:Type}{f:α→List Value}{sz:Nat}{t:TypeId}{M M':Nat→Prop}{h h':ad}{s:SliceV}{xs:List α}(hs:OwnS f sz t M h s xs)(k:Upd M' h h')(hm:∀b,M b→¬M' b):OwnS f sz t M h' s xs:=by
 refine⟨hs.len,hs.ne,hs.cap,hs.blk.imp id fun⟨b,rest,ha,hb,hc,hr⟩=>⟨b,rest,ha,hb,k.get hc (hm b hb),hr⟩⟩
theorem OwnS.more{α:Type}{f:α→List Value}{sz:Nat}{t:TypeId}{M M':Nat→Prop}{h:ad}{s:SliceV}{xs:List α}(hs:OwnS f sz t M h s xs)(hm:∀b,M b→M' b):OwnS f sz t M' h s xs:=by
 refine⟨hs.len,hs.ne,hs.cap,hs.blk.imp id fun⟨b,rest,ha,hb,hc,hr⟩=>⟨b,rest,ha,hm b hb,hc,hr⟩⟩
theorem OwnS.within{α:Type}{f:α→List Value}{sz:Nat}{t:TypeId}{M:Nat→Prop}{h:ad}{s:SliceV}{xs:List α}(hs:OwnS f sz t M h s xs):OwnS f sz t (fun b=>M b∧b<h.size) h s xs:=by
 refine⟨hs.len,hs.ne,hs.cap,hs.blk.imp id fun⟨b,rest,ha,hb,hc,hr⟩=>⟨b,rest,ha,⟨hb,aJ hc⟩,hc,hr⟩⟩
theorem iR{b:Nat}{t:TypeId}:∀(vs:List Value) (h:ad) (i o:Nat) (c:List Value),h[b]? =some (.cells c.toArray t (0,0))→o+i+vs.length≤c.length→
  jA h ⟨b,o,none⟩ i vs=h.setIfInBounds b (.cells (c.take (o+i)++vs++c.drop (o+i+vs.length)).toArray t (0,0))
 | [],h,i,o,c,hb,hl=>by
  simp only[jA,List.append_nil,aZ,cU,aF];apply m8;intro j;rw[eA];split
  ·rename_i e;subst e;rw[hb];simp[aJ hb]
  ·rfl
 |v::vs,h,i,o,c,hb,hl=>by
  rw[ax]at hl;simp only[jA];rw[bP,BW hb];have hb':(h.setIfInBounds b (.cells (c.toArray.setIfInBounds (o+i) v) t (0,0)))[b]? =some (.cells (c.set (o+i) v).toArray t (0,0)):=by
   rw[iY hb];simp
  rw[iR vs _ (i+1) o (c.set (o+i) v) hb' (by simp;omega)];have e:∀(x y:Obj),(h.setIfInBounds b x).setIfInBounds b y=h.setIfInBounds b y:=fun x y=>by
   apply m8;intro j;simp only[eA,Array.size_setIfInBounds];split<;>rfl
  rw[e];congr 3
  apply List.ext_getElem?;intro j;simp only[List.getElem?_append,ac,aK,List.length_set,ax,List.getElem?_take,List.getElem?_set,List.getElem?_drop];grind
theorem kV(n:Nat)(z:List Value):(dU n z).length=n*z.length:=by
 unfold dU;induction n with
 |zero=>simp
 |succ n ih=>rw[List.replicate_succ,List.flatten_cons,ac,ih,jd];omega
theorem AppP.own{α:Type}{f:α→List Value}{sz bytes:Nat}{t:TypeId}{M:Nat→Prop}{h:ad}{base:Option Addr}{sl sc xl:Nat}{xs ys:List α}{ysv z:List Value}{K:SliceV→ad→Prop}
  (hs:OwnS f sz t M h ⟨base,sl,sc⟩ xs)(hxl:xl=ys.length)(hys:ysv=ys.flatMap f)(hone:cj ysv=true)(hz:z.length=sz)(hb:0<bytes)(hfit:(xs.length+ys.length)*bytes≤140737488355328)(hM:M h.size)
  (hk:∀s' h',OwnS f sz t M h' s' (xs++ys)→Upd M h h'→K s' h'):AppP (some z) sz bytes t base sl sc xl ysv h K:=by
 have hlen:sl=xs.length:=hs.len;have hsz:∀x,(f x).length=sz:=fun x=>(hs.ne x).1
 subst hxl hys;have hyl:=lr hsz ys;have hxl:=lr hsz xs;refine⟨fun hin=>?_,fun hout=>?_⟩
 ·rcases hs.blk with h0|⟨b,rest,ha,hb',hc,hr⟩
  ·have h0:sc=0:=h0
   have hy0:ys.length=0:=by omega
   have hx0:xs.length=0:=by omega
   have hy:=aH.1 hy0;have hx:=aH.1 hx0;subst hy hx;refine⟨.inl rfl,rfl,?_⟩;have e:fP h base (sl*sz) (([]:List α).flatMap f)=h:=by cases base<;>rfl
   rw[e];exact hk _ _ ⟨by simp[hlen],hs.ne,by simp only[aZ];omega,.inl h0⟩ (Upd.refl _ _)
  ·have ha:base=some ⟨b,0,none⟩:=ha
   have hr:rest.length=(sc-sl)*sz:=hr;subst ha;have hin':sl+ys.length≤sc:=hin;have hle:ys.length*sz≤rest.length:=by rw[hr];exact Nat.mul_le_mul_right _ (Nat.le_sub_of_add_le (show ys.length+sl≤sc by omega))
   have hbnd:0+sl*sz+(ys.flatMap f).length≤(xs.flatMap f++rest).length:=by
    rw[ac,hxl,hyl,hlen];omega
   refine⟨.inr ⟨_,rfl,fun j hj=>?_⟩,hone,?_⟩
   ·rw[bP]
    refine gS hc ?_;rw[dB];omega
   ·have e:fP h (some ⟨b,0,none⟩) (sl*sz) (ys.flatMap f)=_:=iR (ys.flatMap f) h (sl*sz) 0 _ hc hbnd
    rw[e];have htk:(xs.flatMap f++rest).take (0+sl*sz)=xs.flatMap f:=by
     rw[aD,hlen,←hxl,fi (ao _),List.take_length]
    have hdr:(xs.flatMap f++rest).drop (0+sl*sz+(ys.flatMap f).length)=rest.drop (ys.length*sz):=by
     rw[aD,hlen,←hxl,List.drop_append,fX (by omega),dM,hyl];congr 1;omega
    rw[htk,hdr];refine hk _ _ ⟨by simp[hlen],hs.ne,hin,.inr ⟨b,rest.drop (ys.length*sz),rfl,hb',?_,?_⟩⟩ (Upd.set h _ hb')
    ·rw[iY hc,bm]
    ·rw[aS,hr]
     simp only;rw[show sc-(sl+ys.length)=(sc-sl)-ys.length by omega,Nat.sub_mul (sc-sl)]
 ·have hcs:sc*1≤sc:=by omega
  refine⟨xs.flatMap f,z,?_,rfl,hb,Go.growslice_fits hout (by rw[hlen];exact hfit),fun nc hnc=>?_⟩
  ·exact(hs.sl (W:=No) fun _ _ _=>id).srow
  ·refine hk _ _ ⟨by simp[hlen],hs.ne,hnc,.inr ⟨h.size,dU (nc-(sl+ys.length)) z,rfl,hM,?_,?_⟩⟩ (Upd.hnew M h _ _)
   ·rw[bZ,bm]
   ·rw[kV,hz]
end Go.Lift
namespace Go.Lift
open Go
theorem bj{h:ad}{k:ad→Prop}(hk:k h):At h k:=hk
theorem jP{b o l m sz:Nat}(h:m≠l):aY (some ⟨b,o,none⟩) l m sz=some ⟨b,o+l*sz,none⟩:=by simp[aY,h,bP]
theorem sub_zero{b m sz:Nat}:aY (some ⟨b,0,none⟩) 0 m sz=some ⟨b,0,none⟩:=by
 unfold aY;split
 ·rfl
 ·simp[bP]
theorem j6{h:ad}{b:Nat}{c:List Value}{t:TypeId}{o n:Nat}{vs:List Value}{src:Option Addr}{k:ad→Prop}(hs:SRow h src n vs)(h1:cj vs=true)(hb:h[b]? =some (.cells c.toArray t (0,0)))
  (hl:o+n≤c.length) (hk:∀h',h'[b]? =some (.cells (c.take o++vs++c.drop (o+n)).toArray t (0,0))→Upd (· =b) h h'→k h'):
  ∃xs,SRow h src n xs∧uc h (some ⟨b,o,none⟩) 0 xs∧cj xs=true∧At (fP h (some ⟨b,o,none⟩) 0 xs) k:=by
 have hn:=hs.1;refine⟨vs,hs,.inr ⟨_,rfl,fun j hj=>?_⟩,h1,bj ?_⟩
 ·rw[bP];exact gS hb (by rw[dB];omega)
 ·have e:fP h (some ⟨b,o,none⟩) 0 vs=_:=iR vs h 0 o c hb (by omega)
  rw[e];refine hk _ ?_ (Upd.set h _ rfl);rw[iY hb,cU,hn]
theorem lg{h:ad}{b:Nat}{c:List Value}{t:TypeId}{o n:Nat}{vs:List Value}(hb:h[b]? =some (.cells c.toArray t (0,0))) (hl:vs.length=n) (he:(c.drop o).take n=vs):SRow h (some ⟨b,o,none⟩) n vs:=by
 refine⟨hl,.inr ⟨_,rfl,oQ hb fun i v hv=>?_⟩⟩
 rw[fk,←List.getElem?_drop];have:((c.drop o).take n)[i]? =some v:=by rw[he];exact hv
 rw[List.getElem?_take]at this;split at this
 ·exact this
 ·cases this
section
variable {α:Type} {f:α→List Value} {sz:Nat}
theorem lR(hf:∀x,(f x).length=sz∧0<sz)(xs:List α):(xs.flatMap f).length=xs.length*sz:=lr (fun x=>(hf x).1) xs
theorem za(xs:List α)(k:Nat):xs.flatMap f=(xs.take k).flatMap f++(xs.drop k).flatMap f:=by rw[←bm,aF]
end
theorem E6{α:Type}{A X B Z1 Z2:List α}{p q r:Nat}(hA:A.length=p)(hX:X.length=q)(hZ:Z1.length=r+q):
  (((A++Z1++Z2).take p++X++(A++Z1++Z2).drop (p+q)).take (p+q))++B++((A++Z1++Z2).take p++X++(A++Z1++Z2).drop (p+q)).drop (p+q+r)=A++(X++B)++Z2:=by
 have e1:(A++Z1++Z2).take p=A:=by rw[aq,dY hA]
 have e2:(A++Z1++Z2).drop (p+q)=Z1.drop q++Z2:=by
  rw[aq,←d8,cV hA,gJ (by omega)]
 have hAX:(A++X).length=p+q:=by rw[ac];omega
 rw[e1,e2,dY hAX,←d8,cV hAX,gJ (by rw[aS];omega),d8,fX (by omega),dM];simp only[aq]
theorem I9{α:Type}{A X B R:List α}{p q r:Nat}(hA:A.length=p)(hB:B.length=r)(hR:q≤R.length):
  (((A++B++R).take (p+q)++B++(A++B++R).drop (p+q+r)).take p)++X++((A++B++R).take (p+q)++B++(A++B++R).drop (p+q+r)).drop (p+q)=A++(X++B)++R.drop q:=by
 have hl:((A++B++R).take (p+q)).length=p+q:=by rw[aK,ac,ac];omega
 have e3:(A++B++R).drop (p+q+r)=R.drop q:=by
  rw[show p+q+r=(p+r)+q by omega,←d8,cV (by rw[ac];omega)]
 have e1:((A++B++R).take (p+q)++(B++(A++B++R).drop (p+q+r))).take p=A:=by
  rw[fi (by omega),List.take_take,Nat.min_eq_left (by omega),aq,dY hA]
 rw[aq ((A++B++R).take (p+q)),e1,cV hl,e3];simp only[aq]
theorem NW{h:ad}{b:Nat}{c:List Value}{t t':TypeId}{sz bytes sl sc xl:Nat}{xs:List Value}{z:Option (List Value)}{K:SliceV→ad→Prop}(hb:h[b]? =some (.cells c.toArray t (0,0)))
  (hl:sl*sz+xs.length≤c.length) (hin:sl+xl≤sc) (h1:cj xs=true) (hk:∀h',h'[b]? =some (.cells (c.take (sl*sz)++xs++c.drop (sl*sz+xs.length)).toArray t (0,0))→Upd (· =b) h h'→K ⟨some ⟨b,0,none⟩,sl+xl,sc⟩ h'):
  AppP z sz bytes t' (some ⟨b,0,none⟩) sl sc xl xs h K:=by
 refine⟨fun _=>⟨.inr ⟨_,rfl,fun j hj=>?_⟩,h1,?_⟩,fun h=>by omega⟩
 ·rw[bP];exact gS hb (by rw[dB];omega)
 ·have e:fP h (some ⟨b,0,none⟩) (sl*sz) xs=_:=iR xs h (sl*sz) 0 c hb (by omega)
  rw[e];refine hk _ ?_ (Upd.set h _ rfl);rw[iY hb,aD]
theorem Kq{h:ad}{b:Nat}{c:List Value}{t:TypeId}{o:Nat}{vs:List Value}{k:ad→Prop}(hb:h[b]? =some (.cells c.toArray t (0,0)))
  (hl:o+vs.length≤c.length) (hk:∀h',h'[b]? =some (.cells (c.take o++vs++c.drop (o+vs.length)).toArray t (0,0))→Upd (· =b) h h'→k h'):
  uc h (some ⟨b,o,none⟩) 0 vs∧At (fP h (some ⟨b,o,none⟩) 0 vs) k:=by
 refine⟨.inr ⟨_,rfl,fun j hj=>?_⟩,bj ?_⟩
 ·rw[bP];exact gS hb (by rw[dB];omega)
 ·have e:fP h (some ⟨b,o,none⟩) 0 vs=_:=iR vs h 0 o c hb (by omega)
  rw[e];refine hk _ ?_ (Upd.set h _ rfl);rw[iY hb,cU]
end Go.Lift
namespace Go.Lift
open Go
structure Takes{α:Type}(P:Program)(y:Value)(enc:α→List Value)(N:Nat)(J:List α→(Nat→Prop)→ad→Prop):Prop where
 lt:∀pre A h,J pre A h→∀b,A b→b<h.size
 keep:∀pre A h h' B,J pre A h→Upd B h h'→(∀b,A b→¬B b)→J pre A h'
 step:∀pre A h x (K:Bool→ad→Prop),J pre A h→pre.length<N→(∀h' A',J (pre++ [x]) A' h'→Upd A h h'→(∀b,A' b→A b∨h.size≤b)→K true h')→HV P y (enc x) [.c .bool] K h
structure Gives{α:Type}(P:Program)(fv:Value)(enc:α→List Value)(N:Nat)(S:List α→Prop)(Q:Nat→Prop)(h:ad):Prop where
 lt:∀b,Q b→b<h.size
 run:∃f first cap,fv=.func (.func f) first cap∧∀(y:Value) (J:List α→(Nat→Prop)→ad→Prop) (A M:Nat→Prop) (h1:ad) (K:Unit→ad→Prop),Takes P y enc N J→J [] A h1→Upd M h h1→(∀b,Q b→¬M b)→(∀b,A b→¬Q b)→
  (∀xs A' h',S xs→J xs A' h'→Upd A h1 h'→(∀b,A' b→A b∨h1.size≤b)→K () h')→HE P f (first.toList++ [y]++cap.toList) [] K h1
theorem Gives.upd{α:Type}{P:Program}{fv:Value}{enc:α→List Value}{N:Nat}{S:List α→Prop}{Q M:Nat→Prop}{h h':ad}(g:Gives P fv enc N S Q h)(k:Upd M h h')(hm:∀b,Q b→¬M b):Gives P fv enc N S Q h':=by
 obtain⟨f,first,cap,e,hr⟩:=g.run
 refine⟨fun b hb=>bB (g.lt b hb) k.size,f,first,cap,e,fun y J A M' h1 K ht hj hu hq ha hk=>?_⟩
 exact hr y J A (fun b=>M b∨M' b) h1 K ht hj ((k.mono fun b hb=>.inl (.inl hb)).tr (hu.mono fun b hb=>.inl (.inr hb))) (fun b hb h=>h.elim (hm b hb) (hq b hb)) ha hk
end Go.Lift
