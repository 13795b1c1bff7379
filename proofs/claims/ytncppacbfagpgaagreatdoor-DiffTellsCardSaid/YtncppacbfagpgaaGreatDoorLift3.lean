/- A part of the proof that the named laws of this program answer true, whatever the input. -/
import Derived.Test.YtncppacbfagpgaaGreatDoorLift2
open Array renaming ext_getElem?→rJ,getElem?_setIfInBounds→fJ,getElem?_eq_some_iff→cV
open List renaming flatMap_cons→aP,length_append→ac,length_cons→al,getElem?_append_left→bP,getElem?_append_right→aN,getElem?_eq_some_iff→bJ,length_take→aI,length_drop→aU,take_append_drop→aK,flatMap_append→bR,length_eq_zero_iff→aw,getElem?_toArray→gR,length_nil→aJ,size_toArray→ed,take_append_of_le_length→gP,drop_eq_nil_of_le→iR,nil_append→cz,append_assoc→ar,take_left'→dq,drop_drop→eo,drop_left'→cK,drop_append_of_le_length→gQ
open Nat renaming strongRecOn→vp,lt_or_ge→bZ,le_refl→aj,lt_of_lt_of_le→aD,succ_mul→mg,zero_add→aQ,add_zero→eN
namespace Go.Lift
open Go
attribute [simp] au ag
theorem ax{p:Prop}[Decidable p]{t e:Prop}(a:p→t)(h2:¬p→e):CondP (decide p) t e:=CondP.intro (fun h=>a (of_decide_eq_true h)) (fun h=>h2 (of_decide_eq_false h))
theorem HC.mono{P:Program}{f:FuncId}{args:List Value}{ks:List Kind}{K b:Ag ks→ad→Prop}{h:ad}(hc:HC P f args ks K h)(c:∀t h',K t h'→b t h'):HC P f args ks b h:=by
 refine⟨fun w j=>?_⟩
 rcases hc.run w j with⟨a,h2⟩|⟨v,d,a,h2,t,k,i⟩
 ·exact .inl ⟨a,h2.mono fun e d ⟨g,t,m,n⟩=>⟨g,t,m,c t _ n⟩⟩
 ·exact .inr ⟨v,d,a,h2,t,k,c t _ i⟩
theorem Join.intro{T:Type}{a:T→ad→Prop}{k:(T→ad→Prop)→Prop}(J:T→ad→Prop)(b:∀R:T→ad→Prop,(∀t h,J t h→R t h)→k R)(h2:∀t h,J t h→a t h):Join a k:=⟨b a h2⟩
theorem Join.plain{T:Type}{a:T→ad→Prop}{k:(T→ad→Prop)→Prop}(h:k a):Join a k:=⟨h⟩
theorem LoopP.intro{T:Type}{F:(T→ad→Prop)→T→ad→Prop}{t:T}{h:ad}(Inv:T→ad→Prop)(m:T→ad→Nat)(d:Inv t h)
  (step:∀I:T→ad→Prop,∀t h,Inv t h→(∀a h',Inv a h'→m a h'<m t h→I a h')→F I t h):LoopP F t h:=by
 refine⟨fun I e=>?_⟩
 have key:∀n t h,m t h=n→Inv t h→I t h:=by
  intro n;induction n using vp with
  |_ n ih=>exact fun t h f hi=>e t h (step I t h hi fun a h' c b=>ih _ (f▸b) a h' rfl c)
 exact key _ t h rfl d
theorem LoopP.ghost{T G:Type}{F:(T→ad→Prop)→T→ad→Prop}{t:T}{h:ad}(Inv:G→T→ad→Prop)(m:G→Nat)(g:G)(e:Inv g t h)
  (step:∀I:T→ad→Prop,∀g t h,Inv g t h→(∀b a h',Inv b a h'→m b<m g→I a h')→F I t h):LoopP F t h:=by
 refine⟨fun I f=>?_⟩
 have key:∀n g t h,m g=n→Inv g t h→I t h:=by
  intro n;induction n using vp with
  |_ n ih=>exact fun g t h i hi=>f t h (step I g t h hi fun b a h' d c=>ih _ (i▸c) b a h' rfl d)
 exact key _ g t h rfl e
theorem HV.mk'{P:Program}{f:FuncId}{first cap:Array Value}{args:List Value}{ks:List Kind}{K:Ag ks→ad→Prop}{h:ad}(hc:HC P f (first.toList++args++cap.toList) ks K h):HV P (.func (.func f) first cap) args ks K h:=
 ⟨.inl ⟨f,first,cap,rfl,hc⟩⟩
@[simp] theorem cp(b o n:Nat):adr ⟨b,o,none⟩ n=⟨b,o+n,none⟩:=by
 cases n<;>rfl
@[simp] theorem BX(a:Addr)(n:Nat):(adr a n).block=a.block:=by
 cases n<;>rfl
theorem cR(h:ad):aG h=⟨h.size,0,none⟩:=rfl
theorem QU{h:ad}{a:Addr}{v:Value}(hv:aO h a=some v):a.block<h.size:=by
 unfold aO at hv;rcases bZ a.block h.size with b|b
 ·exact b
 ·rw[Array.getElem?_eq_none b]at hv;cases hv
theorem bF{h:ad}{b i:Nat}{c:Array Value}{e:TypeId}{fr:Nat×Nat}(a:h[b]? =some (.cells c e fr)):aO h ⟨b,i,none⟩=c[i]?:=by
 unfold aO;rw[a];rfl
theorem Tx{h h':ad}{a:Addr}(b:h'[a.block]? =h[a.block]?):aO h' a=aO h a:=by
 unfold aO;rw[b]
theorem yD{h:ad}{b i:Nat}{c:Array Value}{e:TypeId}{fr:Nat×Nat}{v:Value}(f:h[b]? =some (.cells c e fr)):
  hset h ⟨b,i,none⟩ v=h.setIfInBounds b (.cells (c.setIfInBounds i v) e fr):=by
 unfold hset;apply rJ;intro j;rw[Array.getElem?_modify,fJ];by_cases d:b=j
 ·subst d
  have a:=(cV.1 f).1;simp only[f,if_true,a,Option.map_some];rfl
 ·simp[d]
theorem iw{h:ad}{b i:Nat}{c:Array Value}{e:TypeId}(a:h[b]? =some (.cells c e (0,0))) (hi:i<c.size):Wr h ⟨b,i,none⟩:=by
 refine⟨⟨c[i],by rw[bF a,Array.getElem?_eq_getElem hi]⟩,?_⟩
 unfold Ip;rw[a];simp
structure Upd(M:Nat→Prop)(h h':ad):Prop where
 size:h.size≤h'.size
 same:∀b,b<h.size→¬M b→h'[b]? =h[b]?
abbrev No:Nat→Prop:=fun _=>False
theorem Upd.refl(M:Nat→Prop)(h:ad):Upd M h h:=⟨aj _,fun _ _ _=>rfl⟩
theorem Upd.trans{M M':Nat→Prop}{h d h2:ad}(k:Upd M h d)(l:Upd M' d h2)(f:∀b,M' b→M b∨h.size≤b):Upd M h h2:=
 ⟨Nat.le_trans k.size l.size,fun b c e=>by
  rw[l.same b (aD c k.size) (fun hm=>(f b hm).elim e fun a=>absurd c (Nat.not_lt.2 a)),k.same b c e]⟩
theorem Upd.tr{M:Nat→Prop}{h a h2:ad}(k:Upd M h a)(l:Upd M a h2):Upd M h h2:=k.trans l fun _ h=>.inl h
theorem Upd.mono{M M':Nat→Prop}{h h':ad}(k:Upd M h h')(d:∀b,M b→M' b∨h.size≤b):Upd M' h h':=
 ⟨k.size,fun b c e=>k.same b c fun hm=>(d b hm).elim e fun a=>absurd c (Nat.not_lt.2 a)⟩
theorem Upd.wide{M:Nat→Prop}{h h':ad}(k:Upd No h h'):Upd M h h':=k.mono fun _ h=>h.elim
theorem Upd.get{M:Nat→Prop}{h h':ad}(k:Upd M h h'){b:Nat}{o:Obj}(a:h[b]? =some o) (c:¬M b):h'[b]? =some o:=by
 rw[k.same b (cV.1 a).1 c,a]
theorem Upd.get0{h h':ad}(k:Upd No h h'){b:Nat}{o:Obj}(a:h[b]? =some o):h'[b]? =some o:=k.get a id
theorem Upd.cell{M:Nat→Prop}{h h':ad}(k:Upd M h h'){a:Addr}{v:Value}(hv:aO h a=some v)(b:¬M a.block):aO h' a=some v:=by
 rw[Tx (k.same _ (QU hv) b),hv]
theorem Upd.cell0{h h':ad}(k:Upd No h h'){a:Addr}{v:Value}(hv:aO h a=some v):aO h' a=some v:=k.cell hv id
theorem Upd.push(M:Nat→Prop)(h:ad)(o:Obj):Upd M h (h.push o):=⟨by simp,fun b a _=>by rw[Array.getElem?_push];simp[Nat.ne_of_lt a]⟩
theorem Upd.set{M:Nat→Prop}(h:ad){b:Nat}(o:Obj)(a:M b):Upd M h (h.setIfInBounds b o):=⟨by simp,fun c _ d=>by
 rw[fJ]
 have:b≠c:=fun e=>d (e▸a)
 simp[this]⟩
theorem Upd.hset{M:Nat→Prop}(h:ad){a:Addr}(v:Value)(b:M a.block):Upd M h (hset h a v):=⟨by simp[Go.Lift.hset],fun c _ d=>by
 unfold Go.Lift.hset
 rw[Array.getElem?_modify]
 have:a.block≠c:=fun e=>d (e▸b)
 simp[this]⟩
theorem Upd.hnew(M:Nat→Prop)(h:ad)(cs:List Value)(t:TypeId):Upd M h (hnew h cs t):=Upd.push M h _
theorem cq(h:ad)(cs:List Value)(t:TypeId):(hnew h cs t)[h.size]? =some (.cells cs.toArray t (0,0)):=by
 unfold hnew;simp
theorem AJ(h:ad)(o:Obj):(h.push o)[h.size]? =some o:=by simp
theorem jw(h:ad)(cs:List Value)(t:TypeId):(hnew h cs t).size=h.size+1:=by
 unfold hnew;simp
theorem jZ{h:ad}{b:Nat}{o a:Obj}(c:h[b]? =some a):(h.setIfInBounds b o)[b]? =some o:=by
 rw[fJ];simp[(cV.1 c).1]
theorem bC{h:ad}{b:Nat}{o:Obj}(a:h[b]? =some o):b<h.size:=(cV.1 a).1
theorem Row.upd{M:Nat→Prop}{h h':ad}{a:Addr}{vs:List Value}(b:Row h a vs)(k:Upd M h h')(c:¬M a.block):Row h' a vs:=fun i v hv=>k.cell (b i v hv) (by rw[BX];exact c)
theorem SRow.upd{M:Nat→Prop}{h h':ad}{a:Option Addr}{n:Nat}{vs:List Value}(c:SRow h a n vs)(k:Upd M h h')(f:vs≠[]→∀b,a=some b→¬M b.block):SRow h' a n vs:=by
 obtain⟨e,h2⟩:=c;refine⟨e,?_⟩;rcases h2 with rfl|⟨b,d,c⟩
 ·exact .inl rfl
 ·by_cases hv:vs= []
  ·exact .inl hv
  ·exact .inr ⟨b,d,c.upd k (f hv b d)⟩
theorem pI{h:ad}{b o:Nat}{c:Array Value}{e:TypeId}{fr:Nat×Nat}(a:h[b]? =some (.cells c e fr)) {vs:List Value} (hv:∀i v,vs[i]? =some v→c[o+i]? =some v):Row h ⟨b,o,none⟩ vs:=fun i v hi=>by
 rw[cp,bF a];exact hv i v hi
structure Sl{α:Type}(f:α→List Value)(sz:Nat)(W:Nat→Prop)(h:ad)(s:SliceV)(xs:List α):Prop where
 len:s.len=xs.length
 ne:∀x,(f x).length=sz∧0<sz
 row:xs≠[]→∃a,s.a=some a∧¬W a.block∧Row h a (xs.flatMap f)
theorem Sl.nil{α:Type}{f:α→List Value}{b:Nat}{W:Nat→Prop}{h:ad}{a:Option Addr}{c:Nat}(d:∀x,(f x).length=b∧0<b):Sl f b W h ⟨a,0,c⟩ []:=⟨rfl,d,fun h=>absurd rfl h⟩
theorem Sl.lt{α:Type}{f:α→List Value}{g:Nat}{W:Nat→Prop}{h:ad}{s:SliceV}{xs:List α}(d:Sl f g W h s xs)(hx:xs≠[]){a:Addr}(e:s.a=some a):a.block<h.size:=by
 obtain⟨a',b,j,i⟩:=d.row hx;rw[e]at b;cases b;cases xs with
 |nil=>exact absurd rfl hx
 |cons x xs=>
  have c:=d.ne x;cases hf:f x with
  |nil=>rw[hf]at c;simp at c;omega
  |cons v vs=>
   have:=i 0 v (by rw[aP,hf];rfl);have:=QU this;rw[BX]at this;exact this
theorem Sl.upd{α:Type}{f:α→List Value}{g:Nat}{W M:Nat→Prop}{h h':ad}{s:SliceV}{xs:List α}(c:Sl f g W h s xs)(k:Upd M h h')(hm:∀b,M b→W b∨h.size≤b):Sl f g W h' s xs:=by
 refine⟨c.len,c.ne,fun hx=>?_⟩
 obtain⟨a,e,i,j⟩:=c.row hx;exact⟨a,e,i,j.upd k fun m=>(hm _ m).elim i fun d=>absurd (c.lt hx e) (Nat.not_lt.2 d)⟩
theorem Sl.less{α:Type}{f:α→List Value}{g:Nat}{W W':Nat→Prop}{h:ad}{s:SliceV}{xs:List α}(c:Sl f g W h s xs)(hm:∀b,W' b→W b∨h.size≤b):Sl f g W' h s xs:=
 ⟨c.len,c.ne,fun hx=>let⟨a,e,k,i⟩:=c.row hx;⟨a,e,fun j=>(hm _ j).elim k fun d=>absurd (c.lt hx e) (Nat.not_lt.2 d),i⟩⟩
theorem po{α:Type}{f:α→List Value}{b:Nat}(a:∀x,(f x).length=b):∀xs:List α,(xs.flatMap f).length=xs.length*b
 | []=>by simp
 |x::xs=>by rw[aP,ac,a,po a xs,al,mg];omega
theorem AU{α:Type}{f:α→List Value}{b:Nat}(a:∀x,(f x).length=b):∀(xs:List α) (i j:Nat) (x:α),xs[i]? =some x→j<b→(xs.flatMap f)[i*b+j]? =(f x)[j]?
 | [],i,j,x,h,_=>by simp at h
 |y::xs,0,j,x,h,hj=>by
  simp only[List.getElem?_cons_zero,Option.some.injEq]at h;subst h;rw[aP,Nat.zero_mul,aQ,bP (by rw[a];exact hj)]
 |y::xs,i+1,j,x,h,hj=>by
  rw[List.getElem?_cons_succ]at h;rw[aP,aN (by rw[a,mg];omega),a,show(i+1)*b+j-b=i*b+j by rw[mg];omega]
  exact AU a xs i j x h hj
theorem Sl.at{α:Type}{f:α→List Value}{c:Nat}{W:Nat→Prop}{h:ad}{s:SliceV}{xs:List α}(b:Sl f c W h s xs){i:Nat}{x:α}(hi:xs[i]? =some x):
  ∃a,s.a=some a∧¬W a.block∧∀j v,(f x)[j]? =some v→aO h (adr (adr a (i*c)) j)=some v:=by
 obtain⟨a,g,m,d⟩:=b.row (fun e=>by subst e;simp at hi)
 refine⟨a,g,m,fun j v hv=>?_⟩
 have k:j<c:=by rw[←(b.ne x).1];exact(bJ.1 hv).1
 rw[EW];exact d _ v (by rw[AU (fun x=>(b.ne x).1) xs i j x hi k];exact hv)
theorem Sl.at0{α:Type}{g:α→Value}{W:Nat→Prop}{h:ad}{s:SliceV}{xs:List α}(c:Sl (fun x=> [g x]) 1 W h s xs){i:Nat}{x:α}(hi:xs[i]? =some x):
  ∃a,s.a=some a∧¬W a.block∧aO h (adr a (i*1))=some (g x):=by
 obtain⟨a,d,e,b⟩:=c.at hi;exact⟨a,d,e,b 0 _ rfl⟩
theorem Sl.srow{α:Type}{f:α→List Value}{c:Nat}{W:Nat→Prop}{h:ad}{s:SliceV}{xs:List α}(b:Sl f c W h s xs):SRow h s.a (s.len*c) (xs.flatMap f):=by
 refine⟨?_,?_⟩
 ·rw[b.len,po fun x=>(b.ne x).1]
 ·by_cases hx:xs= []
  ·subst hx;exact .inl rfl
  ·obtain⟨a,e,_,d⟩:=b.row hx
   exact .inr ⟨a,e,d⟩
theorem Sl.sub{α:Type}{f:α→List Value}{b:Nat}{W:Nat→Prop}{h:ad}{s:SliceV}{xs:List α}(d:Sl f b W h s xs){l hi m c:Nat}(p:l≤hi)(h2:hi≤xs.length)(q:hi≤m):
  Sl f b W h ⟨aY s.a l m b,hi-l,c⟩ ((xs.drop l).take (hi-l)):=by
 refine⟨by simp only[aI,aU];omega,d.ne,fun hx=>?_⟩
 have g:l<hi:=by
  rcases bZ l hi with h|h
  ·exact h
  ·rw[Nat.sub_eq_zero_of_le h]at hx;exact absurd List.take_zero hx
 obtain⟨a,j,o,k⟩:=d.row (fun e=>by rw[e]at h2;simp at h2;omega)
 refine⟨adr a (l*b),?_,by rw[BX];exact o,fun i v hv=>?_⟩
 ·unfold aY
  rw[if_neg (by omega),j];rfl
 ·rw[EW]
  refine k _ v ?_;have e:xs=xs.take l++((xs.drop l).take (hi-l)++(xs.drop l).drop (hi-l)):=by rw[aK,aK]
  rw[e,bR,bR];have n:((xs.take l).flatMap f).length=l*b:=by rw[po fun x=>(d.ne x).1,aI];congr 1;omega
  rw[aN (by omega),n,Nat.add_sub_cancel_left,bP (bJ.1 hv).1];exact hv
structure OwnS{α:Type}(f:α→List Value)(sz:Nat)(t:TypeId)(M:Nat→Prop)(h:ad)(s:SliceV)(xs:List α):Prop where
 len:s.len=xs.length
 ne:∀x,(f x).length=sz∧0<sz
 cap:s.len≤s.cap
 blk:s.cap=0∨∃b rest,s.a=some ⟨b,0,none⟩∧M b∧h[b]? =some (.cells (xs.flatMap f++rest).toArray t (0,0))∧rest.length=(s.cap-s.len)*sz
theorem OwnS.nil{α:Type}{f:α→List Value}{b:Nat}{t:TypeId}{M:Nat→Prop}{h:ad}{a:Option Addr}(c:∀x,(f x).length=b∧0<b):OwnS f b t M h ⟨a,0,0⟩ []:=⟨rfl,c,aj _,.inl rfl⟩
theorem OwnS.sl{α:Type}{f:α→List Value}{d:Nat}{t:TypeId}{M W:Nat→Prop}{h:ad}{s:SliceV}{xs:List α}(a:OwnS f d t M h s xs)(hm:∀b,M b→b<h.size→¬W b):Sl f d W h s xs:=by
 refine⟨a.len,a.ne,fun hx=>?_⟩
 rcases a.blk with j|⟨b,c,e,g,hc,_⟩
 ·have:=a.len;have:=a.cap
  have:xs.length=0:=by omega
  exact absurd (aw.1 this) hx
 ·exact⟨_,e,hm b g (bC hc),pI hc fun i v hv=>by
   rw[aQ,gR,bP (bJ.1 hv).1];exact hv⟩
theorem OwnS.upd{α:Type}{f:α→List Value}{d:Nat}{t:TypeId}{M M':Nat→Prop}{h h':ad}{s:SliceV}{xs:List α}(c:OwnS f d t M h s xs)(k:Upd M' h h')(hm:∀b,M b→¬M' b):OwnS f d t M h' s xs:=by
 refine⟨c.len,c.ne,c.cap,c.blk.imp id fun⟨b,a,g,e,hc,i⟩=>⟨b,a,g,e,k.get hc (hm b e),i⟩⟩
theorem OwnS.more{α:Type}{f:α→List Value}{d:Nat}{t:TypeId}{M M':Nat→Prop}{h:ad}{s:SliceV}{xs:List α}(c:OwnS f d t M h s xs)(hm:∀b,M b→M' b):OwnS f d t M' h s xs:=by
 refine⟨c.len,c.ne,c.cap,c.blk.imp id fun⟨b,a,e,i,hc,g⟩=>⟨b,a,e,hm b i,hc,g⟩⟩
theorem OwnS.within{α:Type}{f:α→List Value}{d:Nat}{t:TypeId}{M:Nat→Prop}{h:ad}{s:SliceV}{xs:List α}(c:OwnS f d t M h s xs):OwnS f d t (fun b=>M b∧b<h.size) h s xs:=by
 refine⟨c.len,c.ne,c.cap,c.blk.imp id fun⟨b,a,e,i,hc,g⟩=>⟨b,a,e,⟨i,bC hc⟩,hc,g⟩⟩
theorem lS{b:Nat}{t:TypeId}:∀(vs:List Value) (h:ad) (i o:Nat) (c:List Value),h[b]? =some (.cells c.toArray t (0,0))→o+i+vs.length≤c.length→
  jj h ⟨b,o,none⟩ i vs=h.setIfInBounds b (.cells (c.take (o+i)++vs++c.drop (o+i+vs.length)).toArray t (0,0))
 | [],h,i,o,c,hb,hl=>by
  simp only[jj,List.append_nil,aJ,eN,aK];apply rJ;intro j;rw[fJ];split
  ·rename_i e;subst e;rw[hb];simp[bC hb]
  ·rfl
 |v::vs,h,i,o,c,hb,hl=>by
  rw[al]at hl;simp only[jj];rw[cp,yD hb];have a:(h.setIfInBounds b (.cells (c.toArray.setIfInBounds (o+i) v) t (0,0)))[b]? =some (.cells (c.set (o+i) v).toArray t (0,0)):=by
   rw[jZ hb];simp
  rw[lS vs _ (i+1) o (c.set (o+i) v) a (by simp;omega)];have e:∀(x y:Obj),(h.setIfInBounds b x).setIfInBounds b y=h.setIfInBounds b y:=fun x y=>by
   apply rJ;intro j;simp only[fJ,Array.size_setIfInBounds];split<;>rfl
  rw[e];congr 3
  apply List.ext_getElem?;intro j;simp only[List.getElem?_append,ac,aI,List.length_set,al,List.getElem?_take,List.getElem?_set,List.getElem?_drop];grind
theorem oZ(n:Nat)(z:List Value):(eO n z).length=n*z.length:=by
 unfold eO;induction n with
 |zero=>simp
 |succ n ih=>rw[List.replicate_succ,List.flatten_cons,ac,ih,mg];omega
theorem AppP.own{α:Type}{f:α→List Value}{g i:Nat}{t:TypeId}{M:Nat→Prop}{h:ad}{d:Option Addr}{sl m N:Nat}{xs ys:List α}{n z:List Value}{K:SliceV→ad→Prop}
  (o:OwnS f g t M h ⟨d,sl,m⟩ xs)(k:N=ys.length)(H:n=ys.flatMap f)(s:cH n=true)(U:z.length=g)(Q:0<i)(q:(xs.length+ys.length)*i≤140737488355328)(hM:M h.size)
  (J:∀s' h',OwnS f g t M h' s' (xs++ys)→Upd M h h'→K s' h'):AppP (some z) g i t d sl m N n h K:=by
 have c:sl=xs.length:=o.len;have u:∀x,(f x).length=g:=fun x=>(o.ne x).1
 subst k H;have y:=po u ys;have k:=po u xs;refine⟨fun w=>?_,fun v=>?_⟩
 ·rcases o.blk with G|⟨b,a,F,p,hc,B⟩
  ·have G:m=0:=G
   have C:ys.length=0:=by omega
   have L:xs.length=0:=by omega
   have T:=aw.1 C;have hx:=aw.1 L;subst T hx;refine⟨.inl rfl,rfl,?_⟩;have e:hO h d (sl*g) (([]:List α).flatMap f)=h:=by cases d<;>rfl
   rw[e];exact J _ _ ⟨by simp[c],o.ne,by simp only[aJ];omega,.inl G⟩ (Upd.refl _ _)
  ·have F:d=some ⟨b,0,none⟩:=F
   have B:a.length=(m-sl)*g:=B;subst F;have O:sl+ys.length≤m:=w;have R:ys.length*g≤a.length:=by rw[B];exact Nat.mul_le_mul_right _ (Nat.le_sub_of_add_le (show ys.length+sl≤m by omega))
   have A:0+sl*g+(ys.flatMap f).length≤(xs.flatMap f++a).length:=by
    rw[ac,k,y,c];omega
   refine⟨.inr ⟨_,rfl,fun j V=>?_⟩,s,?_⟩
   ·rw[cp]
    refine iw hc ?_;rw[ed];omega
   ·have e:hO h (some ⟨b,0,none⟩) (sl*g) (ys.flatMap f)=_:=lS (ys.flatMap f) h (sl*g) 0 _ hc A
    rw[e];have E:(xs.flatMap f++a).take (0+sl*g)=xs.flatMap f:=by
     rw[aQ,c,←k,gP (aj _),List.take_length]
    have I:(xs.flatMap f++a).drop (0+sl*g+(ys.flatMap f).length)=a.drop (ys.length*g):=by
     rw[aQ,c,←k,List.drop_append,iR (by omega),cz,y];congr 1;omega
    rw[E,I];refine J _ _ ⟨by simp[c],o.ne,w,.inr ⟨b,a.drop (ys.length*g),rfl,p,?_,?_⟩⟩ (Upd.set h _ p)
    ·rw[jZ hc,bR]
    ·rw[aU,B]
     simp only;rw[show m-(sl+ys.length)=(m-sl)-ys.length by omega,Nat.sub_mul (m-sl)]
 ·have P:m*1≤m:=by omega
  refine⟨xs.flatMap f,z,?_,rfl,Q,Go.growslice_fits v (by rw[c];exact q),fun S D=>?_⟩
  ·exact(o.sl (W:=No) fun _ _ _=>id).srow
  ·refine J _ _ ⟨by simp[c],o.ne,D,.inr ⟨h.size,eO (S-(sl+ys.length)) z,rfl,hM,?_,?_⟩⟩ (Upd.hnew M h _ _)
   ·rw[cq,bR]
   ·rw[oZ,U]
end Go.Lift
namespace Go.Lift
open Go
theorem bM{h:ad}{k:ad→Prop}(a:k h):At h k:=a
theorem mp{b o l m a:Nat}(h:m≠l):aY (some ⟨b,o,none⟩) l m a=some ⟨b,o+l*a,none⟩:=by simp[aY,h,cp]
theorem sub_zero{b m a:Nat}:aY (some ⟨b,0,none⟩) 0 m a=some ⟨b,0,none⟩:=by
 unfold aY;split
 ·rfl
 ·simp[cp]
theorem nP{h:ad}{b:Nat}{c:List Value}{t:TypeId}{o n:Nat}{vs:List Value}{a:Option Addr}{k:ad→Prop}(f:SRow h a n vs)(g:cH vs=true)(d:h[b]? =some (.cells c.toArray t (0,0)))
  (q:o+n≤c.length) (i:∀h',h'[b]? =some (.cells (c.take o++vs++c.drop (o+n)).toArray t (0,0))→Upd (· =b) h h'→k h'):
  ∃xs,SRow h a n xs∧wn h (some ⟨b,o,none⟩) 0 xs∧cH xs=true∧At (hO h (some ⟨b,o,none⟩) 0 xs) k:=by
 have m:=f.1;refine⟨vs,f,.inr ⟨_,rfl,fun j p=>?_⟩,g,bM ?_⟩
 ·rw[cp];exact iw d (by rw[ed];omega)
 ·have e:hO h (some ⟨b,o,none⟩) 0 vs=_:=lS vs h 0 o c d (by omega)
  rw[e];refine i _ ?_ (Upd.set h _ rfl);rw[jZ d,eN,m]
theorem oh{h:ad}{b:Nat}{c:List Value}{t:TypeId}{o n:Nat}{vs:List Value}(a:h[b]? =some (.cells c.toArray t (0,0))) (d:vs.length=n) (e:(c.drop o).take n=vs):SRow h (some ⟨b,o,none⟩) n vs:=by
 refine⟨d,.inr ⟨_,rfl,pI a fun i v hv=>?_⟩⟩
 rw[gR,←List.getElem?_drop];have:((c.drop o).take n)[i]? =some v:=by rw[e];exact hv
 rw[List.getElem?_take]at this;split at this
 ·exact this
 ·cases this
section
variable {α:Type} {f:α→List Value} {sz:Nat}
theorem nr(a:∀x,(f x).length=sz∧0<sz)(xs:List α):(xs.flatMap f).length=xs.length*sz:=po (fun x=>(a x).1) xs
theorem DF(xs:List α)(k:Nat):xs.flatMap f=(xs.take k).flatMap f++(xs.drop k).flatMap f:=by rw[←bR,aK]
end
theorem Ox{α:Type}{A X B Z1 Z2:List α}{p q r:Nat}(b:A.length=p)(e:X.length=q)(f:Z1.length=r+q):
  (((A++Z1++Z2).take p++X++(A++Z1++Z2).drop (p+q)).take (p+q))++B++((A++Z1++Z2).take p++X++(A++Z1++Z2).drop (p+q)).drop (p+q+r)=A++(X++B)++Z2:=by
 have d:(A++Z1++Z2).take p=A:=by rw[ar,dq b]
 have c:(A++Z1++Z2).drop (p+q)=Z1.drop q++Z2:=by
  rw[ar,←eo,cK b,gQ (by omega)]
 have a:(A++X).length=p+q:=by rw[ac];omega
 rw[d,c,dq a,←eo,cK a,gQ (by rw[aU];omega),eo,iR (by omega),cz];simp only[ar]
theorem Tu{α:Type}{A X B R:List α}{p q r:Nat}(a:A.length=p)(e:B.length=r)(f:q≤R.length):
  (((A++B++R).take (p+q)++B++(A++B++R).drop (p+q+r)).take p)++X++((A++B++R).take (p+q)++B++(A++B++R).drop (p+q+r)).drop (p+q)=A++(X++B)++R.drop q:=by
 have d:((A++B++R).take (p+q)).length=p+q:=by rw[aI,ac,ac];omega
 have b:(A++B++R).drop (p+q+r)=R.drop q:=by
  rw[show p+q+r=(p+r)+q by omega,←eo,cK (by rw[ac];omega)]
 have c:((A++B++R).take (p+q)++(B++(A++B++R).drop (p+q+r))).take p=A:=by
  rw[gP (by omega),List.take_take,Nat.min_eq_left (by omega),ar,dq a]
 rw[ar ((A++B++R).take (p+q)),c,cK d,b];simp only[ar]
theorem TX{h:ad}{b:Nat}{c:List Value}{t m:TypeId}{d a sl g f:Nat}{xs:List Value}{z:Option (List Value)}{K:SliceV→ad→Prop}(i:h[b]? =some (.cells c.toArray t (0,0)))
  (q:sl*d+xs.length≤c.length) (n:sl+f≤g) (k:cH xs=true) (o:∀h',h'[b]? =some (.cells (c.take (sl*d)++xs++c.drop (sl*d+xs.length)).toArray t (0,0))→Upd (· =b) h h'→K ⟨some ⟨b,0,none⟩,sl+f,g⟩ h'):
  AppP z d a m (some ⟨b,0,none⟩) sl g f xs h K:=by
 refine⟨fun _=>⟨.inr ⟨_,rfl,fun j p=>?_⟩,k,?_⟩,fun h=>by omega⟩
 ·rw[cp];exact iw i (by rw[ed];omega)
 ·have e:hO h (some ⟨b,0,none⟩) (sl*d) xs=_:=lS xs h (sl*d) 0 c i (by omega)
  rw[e];refine o _ ?_ (Upd.set h _ rfl);rw[jZ i,aQ]
theorem Oh{h:ad}{b:Nat}{c:List Value}{t:TypeId}{o:Nat}{vs:List Value}{k:ad→Prop}(a:h[b]? =some (.cells c.toArray t (0,0)))
  (g:o+vs.length≤c.length) (d:∀h',h'[b]? =some (.cells (c.take o++vs++c.drop (o+vs.length)).toArray t (0,0))→Upd (· =b) h h'→k h'):
  wn h (some ⟨b,o,none⟩) 0 vs∧At (hO h (some ⟨b,o,none⟩) 0 vs) k:=by
 refine⟨.inr ⟨_,rfl,fun j f=>?_⟩,bM ?_⟩
 ·rw[cp];exact iw a (by rw[ed];omega)
 ·have e:hO h (some ⟨b,o,none⟩) 0 vs=_:=lS vs h 0 o c a (by omega)
  rw[e];refine d _ ?_ (Upd.set h _ rfl);rw[jZ a,eN]
end Go.Lift
namespace Go.Lift
open Go
structure Takes{α:Type}(P:Program)(y:Value)(enc:α→List Value)(N:Nat)(J:List α→(Nat→Prop)→ad→Prop):Prop where
 lt:∀pre A h,J pre A h→∀b,A b→b<h.size
 keep:∀pre A h h' B,J pre A h→Upd B h h'→(∀b,A b→¬B b)→J pre A h'
 step:∀pre A h x (K:Bool→ad→Prop),J pre A h→pre.length<N→(∀h' A',J (pre++ [x]) A' h'→Upd A h h'→(∀b,A' b→A b∨h.size≤b)→K true h')→HV P y (enc x) [.c .bool] K h
structure Gives{α:Type}(P:Program)(fv:Value)(enc:α→List Value)(N:Nat)(S:List α→Prop)(Q:Nat→Prop)(h:ad):Prop where
 lt:∀b,Q b→b<h.size
 run:∃f first cap,fv=.func (.func f) first cap∧∀(y:Value) (J:List α→(Nat→Prop)→ad→Prop) (A M:Nat→Prop) (h1:ad) (K:Unit→ad→Prop),Takes P y enc N J→J [] A h1→Upd M h h1→(∀b,Q b→¬M b)→(∀b,A b→¬Q b)→
  (∀xs A' h',S xs→J xs A' h'→Upd A h1 h'→(∀b,A' b→A b∨h1.size≤b)→K () h')→HE P f (first.toList++ [y]++cap.toList) [] K h1
theorem Gives.upd{α:Type}{P:Program}{c:Value}{enc:α→List Value}{N:Nat}{S:List α→Prop}{Q M:Nat→Prop}{h h':ad}(g:Gives P c enc N S Q h)(k:Upd M h h')(hm:∀b,Q b→¬M b):Gives P c enc N S Q h':=by
 obtain⟨f,first,cap,e,i⟩:=g.run
 refine⟨fun b a=>aD (g.lt b a) k.size,f,first,cap,e,fun y J A M' d K j q n m o p=>?_⟩
 exact i y J A (fun b=>M b∨M' b) d K j q ((k.mono fun b a=>.inl (.inl a)).tr (n.mono fun b a=>.inl (.inr a))) (fun b a h=>h.elim (hm b a) (m b a)) o p
end Go.Lift
