/- A part of the proof that the named laws of this program answer true, whatever the input. -/
import Derived.Test.YtfmnhpbjeapjaaaGreatLift2
open Array renaming getElem?_setIfInBounds→dL,getElem?_eq_some_iff→bT
open Bool renaming false_eq_true→cf
open List renaming flatMap_cons→bi,length_append→ad,length_cons→az,getElem?_append_left→bL,getElem?_append_right→aH,getElem?_eq_some_iff→aV,length_take→aK,length_drop→aM,take_append_drop→aY,flatMap_append→bV,length_eq_zero_iff→aD,getElem?_toArray→fz,length_nil→bH,size_toArray→cT,take_append_of_le_length→ey,drop_eq_nil_of_le→iX,nil_append→d4,append_assoc→ax,take_left'→de,drop_drop→cV,drop_left'→cp,drop_append_of_le_length→fW,mem_map→cX,map_map→hP,nodup_nil→mo,map_cons→be,nodup_cons→lj,mem_cons→au,mem_singleton→aw,filter_eq_self→kM,filter_sublist→gd
open Nat renaming lt_or_ge→cd,zero_add→aC,le_refl→aq,lt_of_lt_of_le→aG,not_lt→lI,succ_mul→pa,add_zero→fe
open Option renaming some→bE
namespace Go.Lift
open Go
attribute [simp] aB ak
theorem aE{p:Prop}[Decidable p]{t e:Prop}(b:p→t)(a:¬p→e):CondP (decide p) t e:=CondP.intro (fun h=>b (of_decide_eq_true h)) (fun h=>a (of_decide_eq_false h))
theorem HC.mono{P:Program}{f:FuncId}{args:List Value}{ks:List Kind}{K c:rF ks→ac→Prop}{h:ac}(hc:HC P f args ks K h)(d:∀t h',K t h'→c t h'):HC P f args ks c h:=by
 refine⟨fun w g=>?_⟩
 rcases hc.run w g with⟨a,b⟩|⟨v,w',a,b,t,m,k⟩
 ·exact .inl ⟨a,b.mono fun e w' ⟨j,t,i,n⟩=>⟨j,t,i,d t _ n⟩⟩
 ·exact .inr ⟨v,w',a,b,t,m,d t _ k⟩
theorem Join.intro{T:Type}{a:T→ac→Prop}{k:(T→ac→Prop)→Prop}(J:T→ac→Prop)(b:∀R:T→ac→Prop,(∀t h,J t h→R t h)→k R)(c:∀t h,J t h→a t h):Join a k:=⟨b a c⟩
theorem Join.plain{T:Type}{a:T→ac→Prop}{k:(T→ac→Prop)→Prop}(h:k a):Join a k:=⟨h⟩
theorem LoopP.intro{T:Type}{F:(T→ac→Prop)→T→ac→Prop}{t:T}{h:ac}(Inv:T→ac→Prop)(m:T→ac→Nat)(f:Inv t h)
  (step:∀I:T→ac→Prop,∀t h,Inv t h→(∀a h',Inv a h'→m a h'<m t h→I a h')→F I t h):LoopP F t h:=by
 refine⟨fun I d=>?_⟩
 have key:∀n t h,m t h=n→Inv t h→I t h:=by
  intro n;induction n using Nat.strongRecOn with
  |_ n ih=>exact fun t h e hi=>d t h (step I t h hi fun a h' c b=>ih _ (e▸b) a h' rfl c)
 exact key _ t h rfl f
theorem LoopP.ghost{T G:Type}{F:(T→ac→Prop)→T→ac→Prop}{t:T}{h:ac}(Inv:G→T→ac→Prop)(m:G→Nat)(g:G)(i:Inv g t h)
  (step:∀I:T→ac→Prop,∀g t h,Inv g t h→(∀b a h',Inv b a h'→m b<m g→I a h')→F I t h):LoopP F t h:=by
 refine⟨fun I e=>?_⟩
 have key:∀n g t h,m g=n→Inv g t h→I t h:=by
  intro n;induction n using Nat.strongRecOn with
  |_ n ih=>exact fun g t h f hi=>e t h (step I g t h hi fun b a h' d c=>ih _ (f▸c) b a h' rfl d)
 exact key _ g t h rfl i
theorem HV.mk'{P:Program}{f:FuncId}{first cap:Array Value}{args:List Value}{ks:List Kind}{K:rF ks→ac→Prop}{h:ac}(hc:HC P f (first.toList++args++cap.toList) ks K h):HV P (.func (.func f) first cap) args ks K h:=
 ⟨.inl ⟨f,first,cap,rfl,hc⟩⟩
@[simp] theorem bO(b o n:Nat):adr ⟨b,o,none⟩ n=⟨b,o+n,none⟩:=by
 cases n<;>rfl
@[simp] theorem yn(a:Addr)(n:Nat):(adr a n).block=a.block:=by
 cases n<;>rfl
theorem cr(h:ac):bc h=⟨h.size,0,none⟩:=rfl
theorem FA{h:ac}{a:Addr}{v:Value}(b:aF h a=some v):a.block<h.size:=by
 unfold aF at b;rcases cd a.block h.size with c|c
 ·exact c
 ·rw[Array.getElem?_eq_none c]at b;cases b
theorem aP{h:ac}{b i:Nat}{c:Array Value}{e:TypeId}{fr:Nat×Nat}(a:h[b]? =some (.cells c e fr)):aF h ⟨b,i,none⟩=c[i]?:=by
 unfold aF;rw[a];rfl
theorem Ho{h h':ac}{c:Array Value}{e:TypeId}{fr:Nat×Nat}(a:h'[h.size]? =some (.cells c e fr)) (i:Nat):aF h' (adr (bc h) i)=c[i]?:=by
 rw[cr,bO,aP a,aC]
theorem Hn{h h':ac}{a:Addr}(b:h'[a.block]? =h[a.block]?):aF h' a=aF h a:=by
 unfold aF;rw[b]
theorem wG{h:ac}{b i:Nat}{c:Array Value}{e:TypeId}{fr:Nat×Nat}{v:Value}(f:h[b]? =some (.cells c e fr)):
  hset h ⟨b,i,none⟩ v=h.setIfInBounds b (.cells (c.setIfInBounds i v) e fr):=by
 unfold hset;apply Array.ext_getElem?;intro j;rw[Array.getElem?_modify,dL];by_cases d:b=j
 ·subst d
  have a:=(bT.1 f).1;simp only[f,if_true,a,Option.map_some];rfl
 ·simp[d]
theorem gR{h:ac}{b i:Nat}{c:Array Value}{e:TypeId}(a:h[b]? =some (.cells c e (0,0))) (hi:i<c.size):Wr h ⟨b,i,none⟩:=by
 refine⟨⟨c[i],by rw[aP a,Array.getElem?_eq_getElem hi]⟩,?_⟩
 unfold zW;rw[a];simp
structure Upd(M:Nat→Prop)(h h':ac):Prop where
 size:h.size≤h'.size
 same:∀b,b<h.size→¬M b→h'[b]? =h[b]?
abbrev No:Nat→Prop:=fun _=>False
theorem Upd.refl(M:Nat→Prop)(h:ac):Upd M h h:=⟨aq _,fun _ _ _=>rfl⟩
theorem Upd.trans{M M':Nat→Prop}{h d f:ac}(k:Upd M h d)(l:Upd M' d f)(g:∀b,M' b→M b∨h.size≤b):Upd M h f:=
 ⟨Nat.le_trans k.size l.size,fun b c e=>by
  rw[l.same b (aG c k.size) (fun hm=>(g b hm).elim e fun a=>absurd c (lI.2 a)),k.same b c e]⟩
theorem Upd.tr{M:Nat→Prop}{h b a:ac}(k:Upd M h b)(l:Upd M b a):Upd M h a:=k.trans l fun _ h=>.inl h
theorem Upd.mono{M M':Nat→Prop}{h h':ac}(k:Upd M h h')(d:∀b,M b→M' b∨h.size≤b):Upd M' h h':=
 ⟨k.size,fun b c e=>k.same b c fun hm=>(d b hm).elim e fun a=>absurd c (lI.2 a)⟩
theorem Upd.wide{M:Nat→Prop}{h h':ac}(k:Upd No h h'):Upd M h h':=k.mono fun _ h=>h.elim
theorem Upd.get{M:Nat→Prop}{h h':ac}(k:Upd M h h'){b:Nat}{o:Obj}(a:h[b]? =some o) (c:¬M b):h'[b]? =some o:=by
 rw[k.same b (bT.1 a).1 c,a]
theorem Upd.get0{h h':ac}(k:Upd No h h'){b:Nat}{o:Obj}(a:h[b]? =some o):h'[b]? =some o:=k.get a id
theorem Upd.cell{M:Nat→Prop}{h h':ac}(k:Upd M h h'){a:Addr}{v:Value}(b:aF h a=some v)(c:¬M a.block):aF h' a=some v:=by
 rw[Hn (k.same _ (FA b) c),b]
theorem Upd.push(M:Nat→Prop)(h:ac)(o:Obj):Upd M h (h.push o):=⟨by simp,fun b a _=>by rw[Array.getElem?_push];simp[Nat.ne_of_lt a]⟩
theorem Upd.set{M:Nat→Prop}(h:ac){b:Nat}(o:Obj)(d:M b):Upd M h (h.setIfInBounds b o):=⟨by simp,fun c _ a=>by
 rw[dL]
 have:b≠c:=fun e=>a (e▸d)
 simp[this]⟩
theorem Upd.hset{M:Nat→Prop}(h:ac){a:Addr}(v:Value)(d:M a.block):Upd M h (hset h a v):=⟨by simp[Go.Lift.hset],fun c _ b=>by
 unfold Go.Lift.hset
 rw[Array.getElem?_modify]
 have:a.block≠c:=fun e=>b (e▸d)
 simp[this]⟩
theorem Upd.hnew(M:Nat→Prop)(h:ac)(cs:List Value)(t:TypeId):Upd M h (hnew h cs t):=Upd.push M h _
theorem bN(h:ac)(cs:List Value)(t:TypeId):(hnew h cs t)[h.size]? =some (.cells cs.toArray t (0,0)):=by
 unfold hnew;simp
theorem pj(h:ac)(o:Obj):(h.push o)[h.size]? =some o:=by simp
theorem gX(h:ac)(cs:List Value)(t:TypeId):(hnew h cs t).size=h.size+1:=by
 unfold hnew;simp
theorem gL{h:ac}{b:Nat}{o a:Obj}(c:h[b]? =some a):(h.setIfInBounds b o)[b]? =some o:=by
 rw[dL];simp[(bT.1 c).1]
theorem aW{h:ac}{b:Nat}{o:Obj}(a:h[b]? =some o):b<h.size:=(bT.1 a).1
theorem Row.upd{M:Nat→Prop}{h h':ac}{a:Addr}{vs:List Value}(b:Row h a vs)(k:Upd M h h')(c:¬M a.block):Row h' a vs:=fun i v d=>k.cell (b i v d) (by rw[yn];exact c)
theorem SRow.upd{M:Nat→Prop}{h h':ac}{a:Option Addr}{n:Nat}{vs:List Value}(c:SRow h a n vs)(k:Upd M h h')(g:vs≠[]→∀b,a=some b→¬M b.block):SRow h' a n vs:=by
 obtain⟨f,i⟩:=c;refine⟨f,?_⟩;rcases i with rfl|⟨b,d,c⟩
 ·exact .inl rfl
 ·by_cases e:vs= []
  ·exact .inl e
  ·exact .inr ⟨b,d,c.upd k (g e b d)⟩
theorem qe{h:ac}{b o:Nat}{c:Array Value}{e:TypeId}{fr:Nat×Nat}(d:h[b]? =some (.cells c e fr)) {vs:List Value} (a:∀i v,vs[i]? =some v→c[o+i]? =some v):Row h ⟨b,o,none⟩ vs:=fun i v hi=>by
 rw[bO,aP d];exact a i v hi
structure Sl{α:Type}(f:α→List Value)(sz:Nat)(W:Nat→Prop)(h:ac)(s:SliceV)(xs:List α):Prop where
 len:s.len=xs.length
 ne:∀x,(f x).length=sz∧0<sz
 row:xs≠[]→∃a,s.a=some a∧¬W a.block∧Row h a (xs.flatMap f)
theorem Sl.nil{α:Type}{f:α→List Value}{b:Nat}{W:Nat→Prop}{h:ac}{a:Option Addr}{c:Nat}(d:∀x,(f x).length=b∧0<b):Sl f b W h ⟨a,0,c⟩ []:=⟨rfl,d,fun h=>absurd rfl h⟩
theorem Sl.lt{α:Type}{f:α→List Value}{e:Nat}{W:Nat→Prop}{h:ac}{s:SliceV}{xs:List α}(c:Sl f e W h s xs)(hx:xs≠[]){a:Addr}(i:s.a=some a):a.block<h.size:=by
 obtain⟨a',b,j,g⟩:=c.row hx;rw[i]at b;cases b;cases xs with
 |nil=>exact absurd rfl hx
 |cons x xs=>
  have d:=c.ne x;cases hf:f x with
  |nil=>rw[hf]at d;simp at d;omega
  |cons v vs=>
   have:=g 0 v (by rw[bi,hf];rfl);have:=FA this;rw[yn]at this;exact this
theorem Sl.upd{α:Type}{f:α→List Value}{e:Nat}{W M:Nat→Prop}{h h':ac}{s:SliceV}{xs:List α}(c:Sl f e W h s xs)(k:Upd M h h')(hm:∀b,M b→W b∨h.size≤b):Sl f e W h' s xs:=by
 refine⟨c.len,c.ne,fun hx=>?_⟩
 obtain⟨a,g,i,m⟩:=c.row hx;exact⟨a,g,i,m.upd k fun j=>(hm _ j).elim i fun d=>absurd (c.lt hx g) (lI.2 d)⟩
theorem Sl.less{α:Type}{f:α→List Value}{e:Nat}{W W':Nat→Prop}{h:ac}{s:SliceV}{xs:List α}(c:Sl f e W h s xs)(hm:∀b,W' b→W b∨h.size≤b):Sl f e W' h s xs:=
 ⟨c.len,c.ne,fun hx=>let⟨a,g,k,j⟩:=c.row hx;⟨a,g,fun i=>(hm _ i).elim k fun d=>absurd (c.lt hx g) (lI.2 d),j⟩⟩
theorem jL{α:Type}{f:α→List Value}{b:Nat}(a:∀x,(f x).length=b):∀xs:List α,(xs.flatMap f).length=xs.length*b
 | []=>by simp
 |x::xs=>by rw[bi,ad,a,jL a xs,az,pa];omega
theorem sR{α:Type}{f:α→List Value}{b:Nat}(a:∀x,(f x).length=b):∀(xs:List α) (i j:Nat) (x:α),xs[i]? =some x→j<b→(xs.flatMap f)[i*b+j]? =(f x)[j]?
 | [],i,j,x,h,_=>by simp at h
 |y::xs,0,j,x,h,hj=>by
  simp only[List.getElem?_cons_zero,bE.injEq]at h;subst h;rw[bi,Nat.zero_mul,aC,bL (by rw[a];exact hj)]
 |y::xs,i+1,j,x,h,hj=>by
  rw[List.getElem?_cons_succ]at h;rw[bi,aH (by rw[a,pa];omega),a,show(i+1)*b+j-b=i*b+j by rw[pa];omega]
  exact sR a xs i j x h hj
theorem Sl.at{α:Type}{f:α→List Value}{b:Nat}{W:Nat→Prop}{h:ac}{s:SliceV}{xs:List α}(c:Sl f b W h s xs){i:Nat}{x:α}(hi:xs[i]? =some x):
  ∃a,s.a=some a∧¬W a.block∧∀j v,(f x)[j]? =some v→aF h (adr (adr a (i*b)) j)=some v:=by
 obtain⟨a,m,n,k⟩:=c.row (fun e=>by subst e;simp at hi)
 refine⟨a,m,n,fun j v d=>?_⟩
 have g:j<b:=by rw[←(c.ne x).1];exact(aV.1 d).1
 rw[wU];exact k _ v (by rw[sR (fun x=>(c.ne x).1) xs i j x hi g];exact d)
theorem Sl.at0{α:Type}{g:α→Value}{W:Nat→Prop}{h:ac}{s:SliceV}{xs:List α}(c:Sl (fun x=> [g x]) 1 W h s xs){i:Nat}{x:α}(hi:xs[i]? =some x):
  ∃a,s.a=some a∧¬W a.block∧aF h (adr a (i*1))=some (g x):=by
 obtain⟨a,b,d,e⟩:=c.at hi;exact⟨a,b,d,e 0 _ rfl⟩
theorem Sl.srow{α:Type}{f:α→List Value}{c:Nat}{W:Nat→Prop}{h:ac}{s:SliceV}{xs:List α}(b:Sl f c W h s xs):SRow h s.a (s.len*c) (xs.flatMap f):=by
 refine⟨?_,?_⟩
 ·rw[b.len,jL fun x=>(b.ne x).1]
 ·by_cases hx:xs= []
  ·subst hx;exact .inl rfl
  ·obtain⟨a,d,_,e⟩:=b.row hx
   exact .inr ⟨a,d,e⟩
theorem Sl.sub{α:Type}{f:α→List Value}{b:Nat}{W:Nat→Prop}{h:ac}{s:SliceV}{xs:List α}(d:Sl f b W h s xs){l hi m c:Nat}(t:l≤hi)(g:hi≤xs.length)(u:hi≤m):
  Sl f b W h ⟨aN s.a l m b,hi-l,c⟩ ((xs.drop l).take (hi-l)):=by
 refine⟨by simp only[aK,aM];omega,d.ne,fun hx=>?_⟩
 have k:l<hi:=by
  rcases cd l hi with h|h
  ·exact h
  ·rw[Nat.sub_eq_zero_of_le h]at hx;exact absurd List.take_zero hx
 obtain⟨a,p,q,n⟩:=d.row (fun e=>by rw[e]at g;simp at g;omega)
 refine⟨adr a (l*b),?_,by rw[yn];exact q,fun i v j=>?_⟩
 ·unfold aN
  rw[if_neg (by omega),p];rfl
 ·rw[wU]
  refine n _ v ?_;have e:xs=xs.take l++((xs.drop l).take (hi-l)++(xs.drop l).drop (hi-l)):=by rw[aY,aY]
  rw[e,bV,bV];have o:((xs.take l).flatMap f).length=l*b:=by rw[jL fun x=>(d.ne x).1,aK];congr 1;omega
  rw[aH (by omega),o,Nat.add_sub_cancel_left,bL (aV.1 j).1];exact j
structure OwnS{α:Type}(f:α→List Value)(sz:Nat)(t:TypeId)(M:Nat→Prop)(h:ac)(s:SliceV)(xs:List α):Prop where
 len:s.len=xs.length
 ne:∀x,(f x).length=sz∧0<sz
 cap:s.len≤s.cap
 blk:s.cap=0∨∃b rest,s.a=some ⟨b,0,none⟩∧M b∧h[b]? =some (.cells (xs.flatMap f++rest).toArray t (0,0))∧rest.length=(s.cap-s.len)*sz
theorem OwnS.nil{α:Type}{f:α→List Value}{b:Nat}{t:TypeId}{M:Nat→Prop}{h:ac}{a:Option Addr}(c:∀x,(f x).length=b∧0<b):OwnS f b t M h ⟨a,0,0⟩ []:=⟨rfl,c,aq _,.inl rfl⟩
theorem OwnS.sl{α:Type}{f:α→List Value}{c:Nat}{t:TypeId}{M W:Nat→Prop}{h:ac}{s:SliceV}{xs:List α}(a:OwnS f c t M h s xs)(hm:∀b,M b→b<h.size→¬W b):Sl f c W h s xs:=by
 refine⟨a.len,a.ne,fun hx=>?_⟩
 rcases a.blk with k|⟨b,d,j,g,hc,_⟩
 ·have:=a.len;have:=a.cap
  have:xs.length=0:=by omega
  exact absurd (aD.1 this) hx
 ·exact⟨_,j,hm b g (aW hc),qe hc fun i v e=>by
   rw[aC,fz,bL (aV.1 e).1];exact e⟩
theorem OwnS.upd{α:Type}{f:α→List Value}{d:Nat}{t:TypeId}{M M':Nat→Prop}{h h':ac}{s:SliceV}{xs:List α}(c:OwnS f d t M h s xs)(k:Upd M' h h')(hm:∀b,M b→¬M' b):OwnS f d t M h' s xs:=by
 refine⟨c.len,c.ne,c.cap,c.blk.imp id fun⟨b,a,i,e,hc,g⟩=>⟨b,a,i,e,k.get hc (hm b e),g⟩⟩
theorem OwnS.more{α:Type}{f:α→List Value}{d:Nat}{t:TypeId}{M M':Nat→Prop}{h:ac}{s:SliceV}{xs:List α}(c:OwnS f d t M h s xs)(hm:∀b,M b→M' b):OwnS f d t M' h s xs:=by
 refine⟨c.len,c.ne,c.cap,c.blk.imp id fun⟨b,a,i,e,hc,g⟩=>⟨b,a,i,hm b e,hc,g⟩⟩
theorem OwnS.within{α:Type}{f:α→List Value}{d:Nat}{t:TypeId}{M:Nat→Prop}{h:ac}{s:SliceV}{xs:List α}(c:OwnS f d t M h s xs):OwnS f d t (fun b=>M b∧b<h.size) h s xs:=by
 refine⟨c.len,c.ne,c.cap,c.blk.imp id fun⟨b,a,i,e,hc,g⟩=>⟨b,a,i,⟨e,aW hc⟩,hc,g⟩⟩
theorem gV{b:Nat}{t:TypeId}:∀(vs:List Value) (h:ac) (i o:Nat) (c:List Value),h[b]? =some (.cells c.toArray t (0,0))→o+i+vs.length≤c.length→
  ie h ⟨b,o,none⟩ i vs=h.setIfInBounds b (.cells (c.take (o+i)++vs++c.drop (o+i+vs.length)).toArray t (0,0))
 | [],h,i,o,c,hb,hl=>by
  simp only[ie,List.append_nil,bH,fe,aY];apply Array.ext_getElem?;intro j;rw[dL];split
  ·rename_i e;subst e;rw[hb];simp[aW hb]
  ·rfl
 |v::vs,h,i,o,c,hb,hl=>by
  rw[az]at hl;simp only[ie];rw[bO,wG hb];have a:(h.setIfInBounds b (.cells (c.toArray.setIfInBounds (o+i) v) t (0,0)))[b]? =some (.cells (c.set (o+i) v).toArray t (0,0)):=by
   rw[gL hb];simp
  rw[gV vs _ (i+1) o (c.set (o+i) v) a (by simp;omega)];have e:∀(x y:Obj),(h.setIfInBounds b x).setIfInBounds b y=h.setIfInBounds b y:=fun x y=>by
   apply Array.ext_getElem?;intro j;simp only[dL,Array.size_setIfInBounds];split<;>rfl
  rw[e];congr 3
  apply List.ext_getElem?;intro j;simp only[List.getElem?_append,ad,aK,List.length_set,az,List.getElem?_take,List.getElem?_set,List.getElem?_drop];grind
theorem jD(n:Nat)(z:List Value):(db n z).length=n*z.length:=by
 unfold db;induction n with
 |zero=>simp
 |succ n ih=>rw[List.replicate_succ,List.flatten_cons,ad,ih,pa];omega
theorem AppP.own{α:Type}{f:α→List Value}{g i:Nat}{t:TypeId}{M:Nat→Prop}{h:ac}{d:Option Addr}{sl m O:Nat}{xs ys:List α}{o z:List Value}{K:SliceV→ac→Prop}
  (n:OwnS f g t M h ⟨d,sl,m⟩ xs)(k:O=ys.length)(C:o=ys.flatMap f)(A:bR o=true)(U:z.length=g)(S:0<i)(v:(xs.length+ys.length)*i≤140737488355328)(hM:M h.size)
  (H:∀s' h',OwnS f g t M h' s' (xs++ys)→Upd M h h'→K s' h'):AppP (some z) g i t d sl m O o h K:=by
 have a:sl=xs.length:=n.len;have w:∀x,(f x).length=g:=fun x=>(n.ne x).1
 subst k C;have s:=jL w ys;have k:=jL w xs;refine⟨fun y=>?_,fun q=>?_⟩
 ·rcases n.blk with L|⟨b,c,D,u,hc,B⟩
  ·have L:m=0:=L
   have G:ys.length=0:=by omega
   have J:xs.length=0:=by omega
   have T:=aD.1 G;have hx:=aD.1 J;subst T hx;refine⟨.inl rfl,rfl,?_⟩;have e:eJ h d (sl*g) (([]:List α).flatMap f)=h:=by cases d<;>rfl
   rw[e];exact H _ _ ⟨by simp[a],n.ne,by simp only[bH];omega,.inl L⟩ (Upd.refl _ _)
  ·have D:d=some ⟨b,0,none⟩:=D
   have B:c.length=(m-sl)*g:=B;subst D;have N:sl+ys.length≤m:=y;have P:ys.length*g≤c.length:=by rw[B];exact Nat.mul_le_mul_right _ (Nat.le_sub_of_add_le (show ys.length+sl≤m by omega))
   have p:0+sl*g+(ys.flatMap f).length≤(xs.flatMap f++c).length:=by
    rw[ad,k,s,a];omega
   refine⟨.inr ⟨_,rfl,fun j V=>?_⟩,A,?_⟩
   ·rw[bO]
    refine gR hc ?_;rw[cT];omega
   ·have e:eJ h (some ⟨b,0,none⟩) (sl*g) (ys.flatMap f)=_:=gV (ys.flatMap f) h (sl*g) 0 _ hc p
    rw[e];have E:(xs.flatMap f++c).take (0+sl*g)=xs.flatMap f:=by
     rw[aC,a,←k,ey (aq _),List.take_length]
    have I:(xs.flatMap f++c).drop (0+sl*g+(ys.flatMap f).length)=c.drop (ys.length*g):=by
     rw[aC,a,←k,List.drop_append,iX (by omega),d4,s];congr 1;omega
    rw[E,I];refine H _ _ ⟨by simp[a],n.ne,y,.inr ⟨b,c.drop (ys.length*g),rfl,u,?_,?_⟩⟩ (Upd.set h _ u)
    ·rw[gL hc,bV]
    ·rw[aM,B]
     simp only;rw[show m-(sl+ys.length)=(m-sl)-ys.length by omega,Nat.sub_mul (m-sl)]
 ·have Q:m*1≤m:=by omega
  refine⟨xs.flatMap f,z,?_,rfl,S,Go.growslice_fits q (by rw[a];exact v),fun R F=>?_⟩
  ·exact(n.sl (W:=No) fun _ _ _=>id).srow
  ·refine H _ _ ⟨by simp[a],n.ne,F,.inr ⟨h.size,db (R-(sl+ys.length)) z,rfl,hM,?_,?_⟩⟩ (Upd.hnew M h _ _)
   ·rw[bN,bV]
   ·rw[jD,U]
end Go.Lift
namespace Go.Lift
open Go
theorem aX{h:ac}{k:ac→Prop}(a:k h):At h k:=a
theorem ip{b o l m a:Nat}(h:m≠l):aN (some ⟨b,o,none⟩) l m a=some ⟨b,o+l*a,none⟩:=by simp[aN,h,bO]
theorem sub_zero{b m a:Nat}:aN (some ⟨b,0,none⟩) 0 m a=some ⟨b,0,none⟩:=by
 unfold aN;split
 ·rfl
 ·simp[bO]
theorem i4{h:ac}{b:Nat}{c:List Value}{t:TypeId}{o n:Nat}{vs:List Value}{a:Option Addr}{k:ac→Prop}(f:SRow h a n vs)(g:bR vs=true)(d:h[b]? =some (.cells c.toArray t (0,0)))
  (q:o+n≤c.length) (i:∀h',h'[b]? =some (.cells (c.take o++vs++c.drop (o+n)).toArray t (0,0))→Upd (· =b) h h'→k h'):
  ∃xs,SRow h a n xs∧rk h (some ⟨b,o,none⟩) 0 xs∧bR xs=true∧At (eJ h (some ⟨b,o,none⟩) 0 xs) k:=by
 have m:=f.1;refine⟨vs,f,.inr ⟨_,rfl,fun j p=>?_⟩,g,aX ?_⟩
 ·rw[bO];exact gR d (by rw[cT];omega)
 ·have e:eJ h (some ⟨b,o,none⟩) 0 vs=_:=gV vs h 0 o c d (by omega)
  rw[e];refine i _ ?_ (Upd.set h _ rfl);rw[gL d,fe,m]
theorem jJ{h:ac}{b:Nat}{c:List Value}{t:TypeId}{o n:Nat}{vs:List Value}(d:h[b]? =some (.cells c.toArray t (0,0))) (f:vs.length=n) (a:(c.drop o).take n=vs):SRow h (some ⟨b,o,none⟩) n vs:=by
 refine⟨f,.inr ⟨_,rfl,qe d fun i v e=>?_⟩⟩
 rw[fz,←List.getElem?_drop];have:((c.drop o).take n)[i]? =some v:=by rw[a];exact e
 rw[List.getElem?_take]at this;split at this
 ·exact this
 ·cases this
section
variable {α:Type} {f:α→List Value} {sz:Nat}
theorem iT(a:∀x,(f x).length=sz∧0<sz)(xs:List α):(xs.flatMap f).length=xs.length*sz:=jL (fun x=>(a x).1) xs
theorem vz(xs:List α)(k:Nat):xs.flatMap f=(xs.take k).flatMap f++(xs.drop k).flatMap f:=by rw[←bV,aY]
end
theorem DZ{α:Type}{A X B Z1 Z2:List α}{p q r:Nat}(b:A.length=p)(e:X.length=q)(f:Z1.length=r+q):
  (((A++Z1++Z2).take p++X++(A++Z1++Z2).drop (p+q)).take (p+q))++B++((A++Z1++Z2).take p++X++(A++Z1++Z2).drop (p+q)).drop (p+q+r)=A++(X++B)++Z2:=by
 have d:(A++Z1++Z2).take p=A:=by rw[ax,de b]
 have c:(A++Z1++Z2).drop (p+q)=Z1.drop q++Z2:=by
  rw[ax,←cV,cp b,fW (by omega)]
 have a:(A++X).length=p+q:=by rw[ad];omega
 rw[d,c,de a,←cV,cp a,fW (by rw[aM];omega),cV,iX (by omega),d4];simp only[ax]
theorem Hk{α:Type}{A X B R:List α}{p q r:Nat}(b:A.length=p)(f:B.length=r)(e:q≤R.length):
  (((A++B++R).take (p+q)++B++(A++B++R).drop (p+q+r)).take p)++X++((A++B++R).take (p+q)++B++(A++B++R).drop (p+q+r)).drop (p+q)=A++(X++B)++R.drop q:=by
 have c:((A++B++R).take (p+q)).length=p+q:=by rw[aK,ad,ad];omega
 have a:(A++B++R).drop (p+q+r)=R.drop q:=by
  rw[show p+q+r=(p+r)+q by omega,←cV,cp (by rw[ad];omega)]
 have d:((A++B++R).take (p+q)++(B++(A++B++R).drop (p+q+r))).take p=A:=by
  rw[ey (by omega),List.take_take,Nat.min_eq_left (by omega),ax,de b]
 rw[ax ((A++B++R).take (p+q)),d,cp c,a];simp only[ax]
theorem LM{h:ac}{b:Nat}{c:List Value}{t o:TypeId}{d a sl i g:Nat}{xs:List Value}{z:Option (List Value)}{K:SliceV→ac→Prop}(f:h[b]? =some (.cells c.toArray t (0,0)))
  (q:sl*d+xs.length≤c.length) (m:sl+g≤i) (k:bR xs=true) (n:∀h',h'[b]? =some (.cells (c.take (sl*d)++xs++c.drop (sl*d+xs.length)).toArray t (0,0))→Upd (· =b) h h'→K ⟨some ⟨b,0,none⟩,sl+g,i⟩ h'):
  AppP z d a o (some ⟨b,0,none⟩) sl i g xs h K:=by
 refine⟨fun _=>⟨.inr ⟨_,rfl,fun j p=>?_⟩,k,?_⟩,fun h=>by omega⟩
 ·rw[bO];exact gR f (by rw[cT];omega)
 ·have e:eJ h (some ⟨b,0,none⟩) (sl*d) xs=_:=gV xs h (sl*d) 0 c f (by omega)
  rw[e];refine n _ ?_ (Upd.set h _ rfl);rw[gL f,aC]
theorem DK{h:ac}{b:Nat}{c:List Value}{t:TypeId}{o:Nat}{vs:List Value}{k:ac→Prop}(a:h[b]? =some (.cells c.toArray t (0,0)))
  (g:o+vs.length≤c.length) (d:∀h',h'[b]? =some (.cells (c.take o++vs++c.drop (o+vs.length)).toArray t (0,0))→Upd (· =b) h h'→k h'):
  rk h (some ⟨b,o,none⟩) 0 vs∧At (eJ h (some ⟨b,o,none⟩) 0 vs) k:=by
 refine⟨.inr ⟨_,rfl,fun j f=>?_⟩,aX ?_⟩
 ·rw[bO];exact gR a (by rw[cT];omega)
 ·have e:eJ h (some ⟨b,o,none⟩) 0 vs=_:=gV vs h 0 o c a (by omega)
  rw[e];refine d _ ?_ (Upd.set h _ rfl);rw[gL a,fe]
end Go.Lift
namespace Go.Lift
open Go
structure KeyE(κ:Type) where
 enc:κ→Value
 ck:CK
 den:∀x,∃d:ck.den,enc x=ck.enc d
 same:∀x y,eT (enc x) (enc y)=true↔x=y
def PR(k:IntKind):KeyE Int:=⟨fun x=>.int k x,.int k,fun x=>⟨x,rfl⟩,fun x y=>by simp[eT]⟩
section
variable {κ β:Type}
structure Ent(κ β:Type) where
 k:κ
 v:β
 n:Nat
variable (E:KeyE κ) (g:β→Value)
def Jn(x:Ent κ β):MapEntry:={key:=E.enc x.k,val:=g x.v,born:=x.n}
structure MapE(h:ac)(r:Nat)(ms:List (Ent κ β))(clock:Nat):Prop where
 here:h[r]? =some (.map (ms.map (Jn E g)).toArray clock)
 keys:(ms.map (·.k)).Nodup
 nums:(ms.map (·.n)).Nodup
 old:∀x∈ms,x.n<clock
def plain(ms:List (Ent κ β)):List (κ×β):=ms.map fun x=>(x.k,x.v)
def MapAt(h:ac)(r:Nat)(m:List (κ×β)):Prop:=∃ms clock,MapE E g h r ms clock∧plain ms=m
variable {E g}
theorem MapE.keysOf{h:ac}{r:Nat}{ms:List (Ent κ β)}{a:Nat}(_:MapE E g h r ms a):keysOf E.ck (ms.map (Jn E g)).toArray.toList:=by
 intro e b;simp only[cX]at b;obtain⟨x,_,rfl⟩:=b;exact E.den x.k
theorem MapAt.isMap{h:ac}{r:Nat}{m:List (κ×β)}(hm:MapAt E g h r m):wZ E.ck h r:=by
 obtain⟨ms,a,hm,_⟩:=hm;exact⟨_,_,hm.here,hm.keysOf⟩
theorem MapAt.len{h:ac}{r:Nat}{m:List (κ×β)}(hm:MapAt E g h r m):Bt h (some r) m.length:=by
 obtain⟨ms,a,hm,rfl⟩:=hm;exact⟨_,_,hm.here,by simp[plain]⟩
theorem MapAt.nodup{h:ac}{r:Nat}{m:List (κ×β)}(hm:MapAt E g h r m):(m.map (·.1)).Nodup:=by
 obtain⟨ms,a,hm,rfl⟩:=hm;have:=hm.keys;unfold plain;rw[hP];exact this
theorem MapAt.lt{h:ac}{r:Nat}{m:List (κ×β)}(hm:MapAt E g h r m):r<h.size:=by
 obtain⟨ms,a,hm,_⟩:=hm;exact aW hm.here
theorem MapAt.upd{h h':ac}{r:Nat}{m:List (κ×β)}{M:Nat→Prop}(hm:MapAt E g h r m)(k:Upd M h h')(b:¬M r):MapAt E g h' r m:=by
 obtain⟨ms,a,hm,e⟩:=hm;exact⟨ms,a,⟨k.get hm.here b,hm.keys,hm.nums,hm.old⟩,e⟩
theorem MapAt.new(h:ac):MapAt E g (h.push (.map #[] 0)) h.size []:=
 ⟨[],0,⟨pj h _,mo,mo,fun _ h=>by cases h⟩,rfl⟩
variable [DecidableEq κ]
def dh:List (κ×β)→κ→Option β
 | [],_=>none
 |(k',v)::l,k=>if k=k' then some v else dh l k
def ke:List (κ×β)→κ→β→List (κ×β)
 | [],k,v=> [(k,v)]
 |(k',u)::l,k,v=>if k=k' then(k,v)::l else(k',u)::ke l k v
theorem uc(l:List (κ×β))(k:κ)(v:β)(j:κ):dh (ke l k v) j=if j=k then some v else dh l j:=by
 induction l with
 |nil=>simp[ke,dh]
 |cons p l ih=>
  obtain⟨k',u⟩:=p;simp only[ke];split
  ·rename_i e;subst e;simp only[dh];split<;>rfl
  ·rename_i e
   simp only[dh,ih];by_cases a:j=k'
   ·subst a;simp[Ne.symm e]
   ·simp[a]
theorem Dj{l:List (κ×β)}{k:κ}{v:β}(a:(l.map (·.1)).Nodup):dh l k=some v↔(k,v)∈l:=by
 induction l with
 |nil=>simp[dh]
 |cons p l ih=>
  obtain⟨k',u⟩:=p;simp only[be,lj]at a;simp only[dh,au,Prod.mk.injEq];by_cases b:k=k'
  ·subst b
   simp only[if_true,bE.injEq,true_and];constructor
   ·exact fun e=>.inl e.symm
   ·rintro(e|e)
    ·exact e.symm
    ·exact absurd (cX.2 ⟨_,e,rfl⟩) a.1
  ·simp[b,ih a.2]
theorem mR{l:List (κ×β)}{k:κ}:dh l k=none↔k∉l.map (·.1):=by
 induction l with
 |nil=>simp[dh]
 |cons p l ih=>
  obtain⟨k',u⟩:=p;simp only[dh,be,au,not_or];by_cases a:k=k'
  ·simp[a]
  ·simp[a,ih]
theorem Di(l:List (κ×β))(k:κ)(v:β):(ke l k v).map (·.1)=if k∈l.map (·.1)then l.map (·.1)else l.map (·.1)++ [k]:=by
 induction l with
 |nil=>simp[ke]
 |cons p l ih=>
  obtain⟨k',u⟩:=p;simp only[ke];by_cases a:k=k'
  ·simp[a]
  ·simp only[a,if_false,be,ih,au,false_or]
   split<;>simp
theorem Hz{l:List (κ×β)}{k:κ}{v:β}(h:(l.map (·.1)).Nodup):((ke l k v).map (·.1)).Nodup:=by
 rw[Di];split
 ·exact h
 ·rename_i hn
  rw[List.nodup_append];refine⟨h,by simp,?_⟩
  intro a d b c;simp only[aw]at c;subst c;intro e;subst e;exact hn d
theorem DD(x y:κ):eT (E.enc x) (E.enc y)=decide (x=y):=by
 by_cases h:x=y
 ·rw[decide_eq_true h];exact(E.same x y).2 h
 ·rw[decide_eq_false h];exact Bool.eq_false_iff.2 fun e=>h ((E.same x y).1 e)
theorem Lr(k:κ)(ms:List (Ent κ β)):A0 (E.enc k) (ms.map (Jn E g))=(dh (plain ms) k).map g:=by
 induction ms with
 |nil=>rfl
 |cons x ms ih=>
  simp only[be,A0,Jn,plain,dh];rw[DD];by_cases h:k=x.k
  ·simp[h]
  ·simp only[h,decide_false,cf,if_false];exact ih
theorem MapAt.get{h:ac}{r:Nat}{m:List (κ×β)}(hm:MapAt E g h r m)(k:κ)(z:β):tE E.ck (g z) h (some r) (E.enc k) (g ((dh m k).getD z)) (dh m k).isSome:=by
 obtain⟨ms,a,hm,rfl⟩:=hm;refine⟨_,_,hm.here,hm.keysOf,?_⟩;rw[Lr];cases dh (plain ms) k<;>exact⟨rfl,rfl⟩
def tw(k:κ)(v:β)(a:Nat):List (Ent κ β)→List (Ent κ β)×Nat
 | []=>([⟨k,v,a⟩],a+1)
 |x::l=>if k=x.k then(⟨k,v,x.n⟩::l,a)else(x::(tw k v a l).1,(tw k v a l).2)
theorem Mo(k:κ)(v:β)(a:Nat)(ms:List (Ent κ β)):DL (E.enc k) (g v) a (ms.map (Jn E g))=((tw k v a ms).1.map (Jn E g),(tw k v a ms).2):=by
 induction ms with
 |nil=>rfl
 |cons x ms ih=>
  simp only[be,DL,tw];rw[ih,show(Jn E g x).key=E.enc x.k from rfl,DD]
  by_cases h:k=x.k
  ·simp[h,Jn]
  ·simp[h]
theorem Ba(k:κ)(v:β)(a:Nat)(ms:List (Ent κ β)):plain (tw k v a ms).1=ke (plain ms) k v:=by
 induction ms with
 |nil=>rfl
 |cons x ms ih=>
  simp only[tw,plain,be,ke];by_cases h:k=x.k
  ·simp[h]
  ·simp only[h,if_false,be,List.cons.injEq,true_and];exact ih
theorem N7(k:κ)(v:β)(a:Nat)(ms:List (Ent κ β)):(tw k v a ms).1.map (·.n)=(if k∈ms.map (·.k)then ms.map (·.n)else ms.map (·.n)++ [a])∧(tw k v a ms).2=(if k∈ms.map (·.k)then a else a+1):=by
 induction ms with
 |nil=>exact⟨rfl,rfl⟩
 |cons x ms ih=>
  simp only[tw];by_cases h:k=x.k
  ·simp[h]
  ·simp only[h,if_false,be,ih.1,ih.2,au,false_or,and_true]
   split<;>simp
theorem MA{h:ac}{r:Nat}{ms:List (Ent κ β)}{a:Nat}(hm:MapE E g h r ms a)(k:κ)(v:β):ns h r (E.enc k) (g v)=h.setIfInBounds r (.map ((tw k v a ms).1.map (Jn E g)).toArray (tw k v a ms).2):=by
 unfold ns;rw[hm.here];simp only;rw[Mo]
theorem MapE.put{h:ac}{r:Nat}{ms:List (Ent κ β)}{c:Nat}(hm:MapE E g h r ms c)(k:κ)(v:β):MapE E g (ns h r (E.enc k) (g v)) r (tw k v c ms).1 (tw k v c ms).2:=by
 rw[MA hm];have i:(tw k v c ms).1.map (·.k)=(plain (tw k v c ms).1).map (·.1):=by unfold plain;rw[hP];rfl
 have n:(plain ms).map (·.1)=ms.map (·.k):=by unfold plain;rw[hP];rfl
 have f:=N7 k v c ms;have d:∀y∈ms.map (·.n),y<c:=fun y o=>by
  obtain⟨x,hx,rfl⟩:=cX.1 o;exact hm.old x hx
 refine⟨gL hm.here,?_,?_,?_⟩
 ·rw[i,Ba];exact Hz (by rw[n];exact hm.keys)
 ·rw[f.1]
  split
  ·exact hm.nums
  ·rw[List.nodup_append]
   refine⟨hm.nums,by simp,?_⟩
   intro a m b j;simp only[aw]at j;have:=d a m;omega
 ·intro x hx
  have hx:x.n∈(tw k v c ms).1.map (·.n):=cX.2 ⟨x,hx,rfl⟩
  rw[f.1]at hx;rw[f.2];split
  ·rename_i hk;rw[if_pos hk]at hx;exact d _ hx
  ·rename_i hk
   rw[if_neg hk]at hx;rcases List.mem_append.1 hx with e|e
   ·have:=d _ e;omega
   ·simp only[aw]at e;omega
theorem MapAt.put{h:ac}{r:Nat}{m:List (κ×β)}(hm:MapAt E g h r m)(k:κ)(v:β):MapAt E g (ns h r (E.enc k) (g v)) r (ke m k v):=by
 obtain⟨ms,a,hm,rfl⟩:=hm;exact⟨_,_,hm.put k v,Ba ..⟩
theorem wg{M:Nat→Prop}(h:ac){r:Nat}(k v:Value)(a:M r):Upd M h (ns h r k v):=by
 unfold ns;split
 ·exact Upd.set h _ a
 ·exact Upd.refl _ _
theorem Lw(k:κ){ms:List (Ent κ β)}(a:(ms.map (·.k)).Nodup):Bb (E.enc k) (ms.map (Jn E g))=(ms.filter fun x=>x.k≠k).map (Jn E g):=by
 induction ms with
 |nil=>rfl
 |cons x ms ih=>
  simp only[be,lj]at a;simp only[be,Bb,List.filter_cons];rw[show(Jn E g x).key=E.enc x.k from rfl,DD]
  by_cases h:k=x.k
  ·subst h
   simp only[decide_true,if_true,ne_eq,not_true_eq_false,decide_false,cf,if_false];congr 1
   rw[kM.2];intro y b;simp only[decide_not,Bool.not_eq_eq_eq_not,Bool.not_true,decide_eq_false_iff_not];intro e;exact a.1 (e▸cX.2 ⟨y,b,rfl⟩)
  ·simp only[h,decide_false,cf,if_false,ne_eq,Ne.symm h,not_false_eq_true,decide_true,if_true,be]
   rw[ih a.2]
theorem MapE.drop{h:ac}{r:Nat}{ms:List (Ent κ β)}{a:Nat}(hm:MapE E g h r ms a)(k:κ):MapE E g (AM h r (E.enc k)) r (ms.filter fun x=>x.k≠k) a:=by
 have e:AM h r (E.enc k)=h.setIfInBounds r (.map ((ms.filter fun x=>x.k≠k).map (Jn E g)).toArray a):=by
  unfold AM;rw[hm.here];simp only;rw[Lw k hm.keys]
 rw[e];refine⟨gL hm.here,hm.keys.sublist ((gd).map _),hm.nums.sublist ((gd).map _),fun x hx=>hm.old x ((List.mem_filter.1 hx).1)⟩
end
section
variable {κ β:Type} (E:KeyE κ) (g:β→Value)
def IterSt(h:ac)(i r:Nat)(m a:List (κ×β)):Prop:=
 ∃ms clock since seen last,MapE E g h r ms clock∧plain ms=m∧h[i]? =some (.mapIter (some r) since seen last)∧a=plain (ms.filter fun x=> !seen.contains x.n)∧∀x∈ms,x.n<since∧x.n<last
variable {E g}
theorem IterSt.at{h:ac}{i r:Nat}{m b:List (κ×β)}(hi:IterSt E g h i r m b):MapAt E g h r m:=by
 obtain⟨ms,a,c,d,last,hm,e,_⟩:=hi;exact⟨ms,a,hm,e⟩
theorem IterSt.upd{h h':ac}{i r:Nat}{m a:List (κ×β)}{M:Nat→Prop}(hi:IterSt E g h i r m a)(k:Upd M h h')(j:¬M i)(p:¬M r):IterSt E g h' i r m a:=by
 obtain⟨ms,b,c,d,last,hm,f,n,o,e⟩:=hi;exact⟨ms,b,c,d,last,⟨k.get hm.here p,hm.keys,hm.nums,hm.old⟩,f,k.get n j,o,e⟩
theorem IterSt.ne{h:ac}{i r:Nat}{m a:List (κ×β)}(hi:IterSt E g h i r m a):i≠r:=by
 obtain⟨ms,b,c,f,last,hm,k,d,n,j⟩:=hi;intro e;subst e;rw[hm.here]at d;cases d
theorem IterSt.nodup{h:ac}{i r:Nat}{m a:List (κ×β)}(hi:IterSt E g h i r m a):(a.map (·.1)).Nodup:=by
 obtain⟨ms,b,c,d,last,hm,j,k,e,f⟩:=hi;rw[e];unfold plain;rw[hP];exact hm.keys.sublist ((gd).map _)
theorem MapAt.range{h:ac}{r:Nat}{m:List (κ×β)}(hm:MapAt E g h r m):∃a,(∃es,h[r]? =some (.map es a))∧IterSt E g (h.push (.mapIter (some r) a #[] a)) h.size r m m:=by
 obtain⟨ms,a,hm,b⟩:=hm;refine⟨a,⟨_,hm.here⟩,ms,a,a,#[],a,⟨(Upd.push No h _).get0 hm.here,hm.keys,hm.nums,hm.old⟩,b,pj h _,?_,fun x hx=>⟨hm.old x hx,hm.old x hx⟩⟩
 rw[show(fun x:Ent κ β=> !(#[]:Array Nat).contains x.n)=fun _=>true from funext fun x=>by simp,kM.2 fun _ _=>rfl,b]
variable [DecidableEq κ]
end
end Go.Lift
namespace Go.Lift
open Go
structure Takes{α:Type}(P:Program)(y:Value)(enc:α→List Value)(N:Nat)(J:List α→(Nat→Prop)→ac→Prop):Prop where
 lt:∀pre A h,J pre A h→∀b,A b→b<h.size
 keep:∀pre A h h' B,J pre A h→Upd B h h'→(∀b,A b→¬B b)→J pre A h'
 step:∀pre A h x (K:Bool→ac→Prop),J pre A h→pre.length<N→(∀h' A',J (pre++ [x]) A' h'→Upd A h h'→(∀b,A' b→A b∨h.size≤b)→K true h')→HV P y (enc x) [.c .bool] K h
structure Gives{α:Type}(P:Program)(fv:Value)(enc:α→List Value)(N:Nat)(S:List α→Prop)(Q:Nat→Prop)(h:ac):Prop where
 lt:∀b,Q b→b<h.size
 run:∃f first cap,fv=.func (.func f) first cap∧∀(y:Value) (J:List α→(Nat→Prop)→ac→Prop) (A M:Nat→Prop) (h1:ac) (K:Unit→ac→Prop),Takes P y enc N J→J [] A h1→Upd M h h1→(∀b,Q b→¬M b)→(∀b,A b→¬Q b)→
  (∀xs A' h',S xs→J xs A' h'→Upd A h1 h'→(∀b,A' b→A b∨h1.size≤b)→K () h')→HE P f (first.toList++ [y]++cap.toList) [] K h1
theorem Gives.upd{α:Type}{P:Program}{c:Value}{enc:α→List Value}{N:Nat}{S:List α→Prop}{Q M:Nat→Prop}{h h':ac}(g:Gives P c enc N S Q h)(k:Upd M h h')(hm:∀b,Q b→¬M b):Gives P c enc N S Q h':=by
 obtain⟨f,first,cap,e,m⟩:=g.run
 refine⟨fun b a=>aG (g.lt b a) k.size,f,first,cap,e,fun y J A M' d K i j n q p o=>?_⟩
 exact m y J A (fun b=>M b∨M' b) d K i j ((k.mono fun b a=>.inl (.inl a)).tr (n.mono fun b a=>.inl (.inr a))) (fun b a h=>h.elim (hm b a) (q b a)) p o
end Go.Lift
