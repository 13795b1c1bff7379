/- A part of the proof that the named laws of this program answer true, whatever the input. -/
import Derived.Test.YtajpljopgikpgaaGreatLift2
open Array renaming getElem?_setIfInBounds→bq,getElem?_eq_some_iff→aU
open List renaming flatMap_cons→ba,length_append→ae,length_cons→aQ,getElem?_append_left→dt,getElem?_append_right→c8,getElem?_eq_some_iff→bw,length_take→aE,length_drop→aB,take_append_drop→bc,flatMap_append→bh,length_eq_zero_iff→bp,getElem?_toArray→iY,length_nil→dQ,getElem?_take→ig,getElem?_drop→ii,size_toArray→bG,take_append_of_le_length→cJ,drop_eq_nil_of_le→dW,append_assoc→ay,take_left'→bW,drop_drop→cB,drop_left'→bH,drop_append_of_le_length→dH
open Nat renaming lt_or_ge→bV,le_refl→av,succ_mul→kc,zero_add→ar,add_zero→dE
namespace Go.Lift
open Go
attribute [simp] ao al
theorem bi{p:Prop}[Decidable p]{t e:Prop}(b:p→t)(a:¬p→e):CondP (decide p) t e:=CondP.intro (fun h=>b (of_decide_eq_true h)) (fun h=>a (of_decide_eq_false h))
theorem HC.mono{P:Program}{f:FuncId}{args:List Value}{ks:List Kind}{K c:mo ks→ac→Prop}{h:ac}(hc:HC P f args ks K h)(d:∀t h',K t h'→c t h'):HC P f args ks c h:=by
 refine⟨fun w j=>?_⟩
 rcases hc.run w j with⟨b,a⟩|⟨v,w',b,a,t,n,m⟩
 ·exact .inl ⟨b,a.mono fun e w' ⟨g,t,k,i⟩=>⟨g,t,k,d t _ i⟩⟩
 ·exact .inr ⟨v,w',b,a,t,n,d t _ m⟩
theorem Join.intro{T:Type}{a:T→ac→Prop}{k:(T→ac→Prop)→Prop}(J:T→ac→Prop)(c:∀R:T→ac→Prop,(∀t h,J t h→R t h)→k R)(b:∀t h,J t h→a t h):Join a k:=⟨c a b⟩
theorem Join.plain{T:Type}{a:T→ac→Prop}{k:(T→ac→Prop)→Prop}(h:k a):Join a k:=⟨h⟩
theorem LoopP.intro{T:Type}{F:(T→ac→Prop)→T→ac→Prop}{t:T}{h:ac}(Inv:T→ac→Prop)(m:T→ac→Nat)(i:Inv t h)
  (step:∀I:T→ac→Prop,∀t h,Inv t h→(∀a b,Inv a b→m a b<m t h→I a b)→F I t h):LoopP F t h:=by
 refine⟨fun I e=>?_⟩
 have key:∀n t h,m t h=n→Inv t h→I t h:=by
  intro n;induction n using Nat.strongRecOn with
  |_ n ih=>exact fun t h g f=>e t h (step I t h f fun a b d c=>ih _ (g▸c) a b rfl d)
 exact key _ t h rfl i
theorem LoopP.ghost{T G:Type}{F:(T→ac→Prop)→T→ac→Prop}{t:T}{h:ac}(Inv:G→T→ac→Prop)(m:G→Nat)(g:G)(k:Inv g t h)
  (step:∀I:T→ac→Prop,∀g t h,Inv g t h→(∀a b c,Inv a b c→m a<m g→I b c)→F I t h):LoopP F t h:=by
 refine⟨fun I f=>?_⟩
 have key:∀n g t h,m g=n→Inv g t h→I t h:=by
  intro n;induction n using Nat.strongRecOn with
  |_ n ih=>exact fun g t h j i=>f t h (step I g t h i fun a b c e d=>ih _ (j▸d) a b c rfl e)
 exact key _ g t h rfl k
theorem HV.mk'{P:Program}{f:FuncId}{first cap:Array Value}{args:List Value}{ks:List Kind}{K:mo ks→ac→Prop}{h:ac}(hc:HC P f (first.toList++args++cap.toList) ks K h):HV P (.func (.func f) first cap) args ks K h:=
 ⟨.inl ⟨f,first,cap,rfl,hc⟩⟩
@[simp] theorem aX(b o n:Nat):adr ⟨b,o,none⟩ n=⟨b,o+n,none⟩:=by
 cases n<;>rfl
@[simp] theorem qL(a:Addr)(n:Nat):(adr a n).block=a.block:=by
 cases n<;>rfl
theorem dK(h:ac):bN h=⟨h.size,0,none⟩:=rfl
theorem wK{h:ac}{a:Addr}{v:Value}(hv:aP h a=some v):a.block<h.size:=by
 unfold aP at hv;rcases bV a.block h.size with b|b
 ·exact b
 ·rw[Array.getElem?_eq_none b]at hv;cases hv
theorem aH{h:ac}{b i:Nat}{c:Array Value}{e:TypeId}{fr:Nat×Nat}(a:h[b]? =some (.cells c e fr)):aP h ⟨b,i,none⟩=c[i]?:=by
 unfold aP;rw[a];rfl
theorem yk{h b:ac}{a:Addr}(c:b[a.block]? =h[a.block]?):aP b a=aP h a:=by
 unfold aP;rw[c]
theorem tc{h:ac}{b i:Nat}{c:Array Value}{e:TypeId}{fr:Nat×Nat}{v:Value}(d:h[b]? =some (.cells c e fr)):
  hset h ⟨b,i,none⟩ v=h.setIfInBounds b (.cells (c.setIfInBounds i v) e fr):=by
 unfold hset;apply Array.ext_getElem?;intro j;rw[Array.getElem?_modify,bq];by_cases f:b=j
 ·subst f
  have a:=(aU.1 d).1;simp only[d,if_true,a,Option.map_some];rfl
 ·simp[f]
theorem fq{h:ac}{b i:Nat}{c:Array Value}{e:TypeId}(a:h[b]? =some (.cells c e (0,0))) (d:i<c.size):Wr h ⟨b,i,none⟩:=by
 refine⟨⟨c[i],by rw[aH a,Array.getElem?_eq_getElem d]⟩,?_⟩
 unfold rZ;rw[a];simp
structure Upd(M:Nat→Prop)(h h':ac):Prop where
 size:h.size≤h'.size
 same:∀b,b<h.size→¬M b→h'[b]? =h[b]?
abbrev No:Nat→Prop:=fun _=>False
theorem Upd.refl(M:Nat→Prop)(h:ac):Upd M h h:=⟨av _,fun _ _ _=>rfl⟩
theorem Upd.trans{M M':Nat→Prop}{h f d:ac}(k:Upd M h f)(l:Upd M' f d)(g:∀b,M' b→M b∨h.size≤b):Upd M h d:=
 ⟨Nat.le_trans k.size l.size,fun b a e=>by
  rw[l.same b (Nat.lt_of_lt_of_le a k.size) (fun hm=>(g b hm).elim e fun c=>absurd a (Nat.not_lt.2 c)),k.same b a e]⟩
theorem Upd.tr{M:Nat→Prop}{h b a:ac}(k:Upd M h b)(l:Upd M b a):Upd M h a:=k.trans l fun _ h=>.inl h
theorem Upd.mono{M M':Nat→Prop}{h d:ac}(k:Upd M h d)(e:∀b,M b→M' b∨h.size≤b):Upd M' h d:=
 ⟨k.size,fun b c f=>k.same b c fun hm=>(e b hm).elim f fun a=>absurd c (Nat.not_lt.2 a)⟩
theorem Upd.wide{M:Nat→Prop}{h a:ac}(k:Upd No h a):Upd M h a:=k.mono fun _ h=>h.elim
theorem Upd.get{M:Nat→Prop}{h c:ac}(k:Upd M h c){b:Nat}{o:Obj}(a:h[b]? =some o) (d:¬M b):c[b]? =some o:=by
 rw[k.same b (aU.1 a).1 d,a]
theorem Upd.get0{h a:ac}(k:Upd No h a){b:Nat}{o:Obj}(c:h[b]? =some o):a[b]? =some o:=k.get c id
theorem Upd.cell{M:Nat→Prop}{h b:ac}(k:Upd M h b){a:Addr}{v:Value}(hv:aP h a=some v)(c:¬M a.block):aP b a=some v:=by
 rw[yk (k.same _ (wK hv) c),hv]
theorem Upd.push(M:Nat→Prop)(h:ac)(o:Obj):Upd M h (h.push o):=⟨by simp,fun b a _=>by rw[Array.getElem?_push];simp[Nat.ne_of_lt a]⟩
theorem Upd.set{M:Nat→Prop}(h:ac){b:Nat}(o:Obj)(a:M b):Upd M h (h.setIfInBounds b o):=⟨by simp,fun c _ d=>by
 rw[bq]
 have:b≠c:=fun e=>d (e▸a)
 simp[this]⟩
theorem Upd.hset{M:Nat→Prop}(h:ac){a:Addr}(v:Value)(b:M a.block):Upd M h (hset h a v):=⟨by simp[Go.Lift.hset],fun c _ d=>by
 unfold Go.Lift.hset
 rw[Array.getElem?_modify]
 have:a.block≠c:=fun e=>d (e▸b)
 simp[this]⟩
theorem Upd.hnew(M:Nat→Prop)(h:ac)(cs:List Value)(t:TypeId):Upd M h (hnew h cs t):=Upd.push M h _
theorem cf(h:ac)(cs:List Value)(t:TypeId):(hnew h cs t)[h.size]? =some (.cells cs.toArray t (0,0)):=by
 unfold hnew;simp
theorem je(h:ac)(cs:List Value)(t:TypeId):(hnew h cs t).size=h.size+1:=by
 unfold hnew;simp
theorem gp{h:ac}{b:Nat}{o c:Obj}(a:h[b]? =some c):(h.setIfInBounds b o)[b]? =some o:=by
 rw[bq];simp[(aU.1 a).1]
theorem aW{h:ac}{b:Nat}{o:Obj}(a:h[b]? =some o):b<h.size:=(aU.1 a).1
theorem Row.upd{M:Nat→Prop}{h b:ac}{a:Addr}{vs:List Value}(d:Row h a vs)(k:Upd M h b)(c:¬M a.block):Row b a vs:=fun i v hv=>k.cell (d i v hv) (by rw[qL];exact c)
theorem SRow.upd{M:Nat→Prop}{h e:ac}{a:Option Addr}{n:Nat}{vs:List Value}(c:SRow h a n vs)(k:Upd M h e)(g:vs≠[]→∀b,a=some b→¬M b.block):SRow e a n vs:=by
 obtain⟨i,f⟩:=c;refine⟨i,?_⟩;rcases f with rfl|⟨b,d,c⟩
 ·exact .inl rfl
 ·by_cases hv:vs= []
  ·exact .inl hv
  ·exact .inr ⟨b,d,c.upd k (g hv b d)⟩
theorem mw{h:ac}{b o:Nat}{c:Array Value}{e:TypeId}{fr:Nat×Nat}(a:h[b]? =some (.cells c e fr)) {vs:List Value} (hv:∀i v,vs[i]? =some v→c[o+i]? =some v):Row h ⟨b,o,none⟩ vs:=fun i v d=>by
 rw[aX,aH a];exact hv i v d
structure Sl{α:Type}(f:α→List Value)(sz:Nat)(W:Nat→Prop)(h:ac)(s:SliceV)(xs:List α):Prop where
 len:s.len=xs.length
 ne:∀x,(f x).length=sz∧0<sz
 row:xs≠[]→∃a,s.a=some a∧¬W a.block∧Row h a (xs.flatMap f)
theorem Sl.nil{α:Type}{f:α→List Value}{b:Nat}{W:Nat→Prop}{h:ac}{a:Option Addr}{c:Nat}(d:∀x,(f x).length=b∧0<b):Sl f b W h ⟨a,0,c⟩ []:=⟨rfl,d,fun h=>absurd rfl h⟩
theorem Sl.lt{α:Type}{f:α→List Value}{g:Nat}{W:Nat→Prop}{h:ac}{s:SliceV}{xs:List α}(c:Sl f g W h s xs)(hx:xs≠[]){a:Addr}(i:s.a=some a):a.block<h.size:=by
 obtain⟨a',b,j,e⟩:=c.row hx;rw[i]at b;cases b;cases xs with
 |nil=>exact absurd rfl hx
 |cons x xs=>
  have d:=c.ne x;cases hf:f x with
  |nil=>rw[hf]at d;simp at d;omega
  |cons v vs=>
   have:=e 0 v (by rw[ba,hf];rfl);have:=wK this;rw[qL]at this;exact this
theorem Sl.upd{α:Type}{f:α→List Value}{e:Nat}{W M:Nat→Prop}{h j:ac}{s:SliceV}{xs:List α}(c:Sl f e W h s xs)(k:Upd M h j)(hm:∀b,M b→W b∨h.size≤b):Sl f e W j s xs:=by
 refine⟨c.len,c.ne,fun hx=>?_⟩
 obtain⟨a,g,i,m⟩:=c.row hx;exact⟨a,g,i,m.upd k fun n=>(hm _ n).elim i fun d=>absurd (c.lt hx g) (Nat.not_lt.2 d)⟩
theorem Sl.less{α:Type}{f:α→List Value}{e:Nat}{W W':Nat→Prop}{h:ac}{s:SliceV}{xs:List α}(c:Sl f e W h s xs)(hm:∀b,W' b→W b∨h.size≤b):Sl f e W' h s xs:=
 ⟨c.len,c.ne,fun hx=>let⟨a,g,k,i⟩:=c.row hx;⟨a,g,fun j=>(hm _ j).elim k fun d=>absurd (c.lt hx g) (Nat.not_lt.2 d),i⟩⟩
theorem im{α:Type}{f:α→List Value}{b:Nat}(a:∀x,(f x).length=b):∀xs:List α,(xs.flatMap f).length=xs.length*b
 | []=>by simp
 |x::xs=>by rw[ba,ae,a,im a xs,aQ,kc];omega
theorem rl{α:Type}{f:α→List Value}{b:Nat}(a:∀x,(f x).length=b):∀(xs:List α) (i j:Nat) (x:α),xs[i]? =some x→j<b→(xs.flatMap f)[i*b+j]? =(f x)[j]?
 | [],i,j,x,h,_=>by simp at h
 |y::xs,0,j,x,h,hj=>by
  simp only[List.getElem?_cons_zero,Option.some.injEq]at h;subst h;rw[ba,Nat.zero_mul,ar,dt (by rw[a];exact hj)]
 |y::xs,i+1,j,x,h,hj=>by
  rw[List.getElem?_cons_succ]at h;rw[ba,c8 (by rw[a,kc];omega),a,show(i+1)*b+j-b=i*b+j by rw[kc];omega]
  exact rl a xs i j x h hj
theorem Sl.at{α:Type}{f:α→List Value}{c:Nat}{W:Nat→Prop}{h:ac}{s:SliceV}{xs:List α}(b:Sl f c W h s xs){i:Nat}{x:α}(d:xs[i]? =some x):
  ∃a,s.a=some a∧¬W a.block∧∀j v,(f x)[j]? =some v→aP h (adr (adr a (i*c)) j)=some v:=by
 obtain⟨a,m,n,g⟩:=b.row (fun e=>by subst e;simp at d)
 refine⟨a,m,n,fun j v hv=>?_⟩
 have k:j<c:=by rw[←(b.ne x).1];exact(bw.1 hv).1
 rw[r8];exact g _ v (by rw[rl (fun x=>(b.ne x).1) xs i j x d k];exact hv)
theorem Sl.at0{α:Type}{g:α→Value}{W:Nat→Prop}{h:ac}{s:SliceV}{xs:List α}(c:Sl (fun x=> [g x]) 1 W h s xs){i:Nat}{x:α}(e:xs[i]? =some x):
  ∃a,s.a=some a∧¬W a.block∧aP h (adr a (i*1))=some (g x):=by
 obtain⟨a,d,f,b⟩:=c.at e;exact⟨a,d,f,b 0 _ rfl⟩
theorem Sl.srow{α:Type}{f:α→List Value}{c:Nat}{W:Nat→Prop}{h:ac}{s:SliceV}{xs:List α}(b:Sl f c W h s xs):SRow h s.a (s.len*c) (xs.flatMap f):=by
 refine⟨?_,?_⟩
 ·rw[b.len,im fun x=>(b.ne x).1]
 ·by_cases hx:xs= []
  ·subst hx;exact .inl rfl
  ·obtain⟨a,d,_,e⟩:=b.row hx
   exact .inr ⟨a,d,e⟩
theorem Sl.sub{α:Type}{f:α→List Value}{d:Nat}{W:Nat→Prop}{h:ac}{s:SliceV}{xs:List α}(g:Sl f d W h s xs){l b m c:Nat}(t:l≤b)(j:b≤xs.length)(u:b≤m):
  Sl f d W h ⟨aF s.a l m d,b-l,c⟩ ((xs.drop l).take (b-l)):=by
 refine⟨by simp only[aE,aB];omega,g.ne,fun hx=>?_⟩
 have o:l<b:=by
  rcases bV l b with h|h
  ·exact h
  ·rw[Nat.sub_eq_zero_of_le h]at hx;exact absurd List.take_zero hx
 obtain⟨a,n,p,k⟩:=g.row (fun e=>by rw[e]at j;simp at j;omega)
 refine⟨adr a (l*d),?_,by rw[qL];exact p,fun i v hv=>?_⟩
 ·unfold aF
  rw[if_neg (by omega),n];rfl
 ·rw[r8]
  refine k _ v ?_;have e:xs=xs.take l++((xs.drop l).take (b-l)++(xs.drop l).drop (b-l)):=by rw[bc,bc]
  rw[e,bh,bh];have q:((xs.take l).flatMap f).length=l*d:=by rw[im fun x=>(g.ne x).1,aE];congr 1;omega
  rw[c8 (by omega),q,Nat.add_sub_cancel_left,dt (bw.1 hv).1];exact hv
structure OwnS{α:Type}(f:α→List Value)(sz:Nat)(t:TypeId)(M:Nat→Prop)(h:ac)(s:SliceV)(xs:List α):Prop where
 len:s.len=xs.length
 ne:∀x,(f x).length=sz∧0<sz
 cap:s.len≤s.cap
 blk:s.cap=0∨∃b rest,s.a=some ⟨b,0,none⟩∧M b∧h[b]? =some (.cells (xs.flatMap f++rest).toArray t (0,0))∧rest.length=(s.cap-s.len)*sz
theorem OwnS.nil{α:Type}{f:α→List Value}{b:Nat}{t:TypeId}{M:Nat→Prop}{h:ac}{a:Option Addr}(c:∀x,(f x).length=b∧0<b):OwnS f b t M h ⟨a,0,0⟩ []:=⟨rfl,c,av _,.inl rfl⟩
theorem OwnS.sl{α:Type}{f:α→List Value}{c:Nat}{t:TypeId}{M W:Nat→Prop}{h:ac}{s:SliceV}{xs:List α}(a:OwnS f c t M h s xs)(hm:∀b,M b→b<h.size→¬W b):Sl f c W h s xs:=by
 refine⟨a.len,a.ne,fun hx=>?_⟩
 rcases a.blk with j|⟨b,d,g,e,hc,_⟩
 ·have:=a.len;have:=a.cap
  have:xs.length=0:=by omega
  exact absurd (bp.1 this) hx
 ·exact⟨_,g,hm b e (aW hc),mw hc fun i v hv=>by
   rw[ar,iY,dt (bw.1 hv).1];exact hv⟩
theorem OwnS.upd{α:Type}{f:α→List Value}{e:Nat}{t:TypeId}{M M':Nat→Prop}{h g:ac}{s:SliceV}{xs:List α}(c:OwnS f e t M h s xs)(k:Upd M' h g)(hm:∀b,M b→¬M' b):OwnS f e t M g s xs:=by
 refine⟨c.len,c.ne,c.cap,c.blk.imp id fun⟨b,a,j,d,hc,i⟩=>⟨b,a,j,d,k.get hc (hm b d),i⟩⟩
theorem OwnS.more{α:Type}{f:α→List Value}{d:Nat}{t:TypeId}{M M':Nat→Prop}{h:ac}{s:SliceV}{xs:List α}(c:OwnS f d t M h s xs)(hm:∀b,M b→M' b):OwnS f d t M' h s xs:=by
 refine⟨c.len,c.ne,c.cap,c.blk.imp id fun⟨b,a,i,g,hc,e⟩=>⟨b,a,i,hm b g,hc,e⟩⟩
theorem OwnS.within{α:Type}{f:α→List Value}{d:Nat}{t:TypeId}{M:Nat→Prop}{h:ac}{s:SliceV}{xs:List α}(c:OwnS f d t M h s xs):OwnS f d t (fun b=>M b∧b<h.size) h s xs:=by
 refine⟨c.len,c.ne,c.cap,c.blk.imp id fun⟨b,a,i,g,hc,e⟩=>⟨b,a,i,⟨g,aW hc⟩,hc,e⟩⟩
theorem eG{b:Nat}{t:TypeId}:∀(vs:List Value) (h:ac) (i o:Nat) (c:List Value),h[b]? =some (.cells c.toArray t (0,0))→o+i+vs.length≤c.length→
  fX h ⟨b,o,none⟩ i vs=h.setIfInBounds b (.cells (c.take (o+i)++vs++c.drop (o+i+vs.length)).toArray t (0,0))
 | [],h,i,o,c,hb,hl=>by
  simp only[fX,List.append_nil,dQ,dE,bc];apply Array.ext_getElem?;intro j;rw[bq];split
  ·rename_i e;subst e;rw[hb];simp[aW hb]
  ·rfl
 |v::vs,h,i,o,c,hb,hl=>by
  rw[aQ]at hl;simp only[fX];rw[aX,tc hb];have a:(h.setIfInBounds b (.cells (c.toArray.setIfInBounds (o+i) v) t (0,0)))[b]? =some (.cells (c.set (o+i) v).toArray t (0,0)):=by
   rw[gp hb];simp
  rw[eG vs _ (i+1) o (c.set (o+i) v) a (by simp;omega)];have e:∀(x y:Obj),(h.setIfInBounds b x).setIfInBounds b y=h.setIfInBounds b y:=fun x y=>by
   apply Array.ext_getElem?;intro j;simp only[bq,Array.size_setIfInBounds];split<;>rfl
  rw[e];congr 3
  apply List.ext_getElem?;intro j;simp only[List.getElem?_append,ae,aE,List.length_set,aQ,ig,List.getElem?_set,ii];grind
theorem gP(n:Nat)(z:List Value):(cd n z).length=n*z.length:=by
 unfold cd;induction n with
 |zero=>simp
 |succ n ih=>rw[List.replicate_succ,List.flatten_cons,ae,ih,kc];omega
theorem AppP.own{α:Type}{f:α→List Value}{g i:Nat}{t:TypeId}{M:Nat→Prop}{h:ac}{d:Option Addr}{sl k O:Nat}{xs ys:List α}{n z:List Value}{K:SliceV→ac→Prop}
  (o:OwnS f g t M h ⟨d,sl,k⟩ xs)(m:O=ys.length)(H:n=ys.flatMap f)(u:aY n=true)(hz:z.length=g)(S:0<i)(q:(xs.length+ys.length)*i≤140737488355328)(R:M h.size)
  (G:∀s' h',OwnS f g t M h' s' (xs++ys)→Upd M h h'→K s' h'):AppP (some z) g i t d sl k O n h K:=by
 have c:sl=xs.length:=o.len;have A:∀x,(f x).length=g:=fun x=>(o.ne x).1
 subst m H;have y:=im A ys;have m:=im A xs;refine⟨fun v=>?_,fun p=>?_⟩
 ·rcases o.blk with I|⟨b,a,L,s,hc,B⟩
  ·have I:k=0:=I
   have J:ys.length=0:=by omega
   have D:xs.length=0:=by omega
   have U:=bp.1 J;have hx:=bp.1 D;subst U hx;refine⟨.inl rfl,rfl,?_⟩;have e:cY h d (sl*g) (([]:List α).flatMap f)=h:=by cases d<;>rfl
   rw[e];exact G _ _ ⟨by simp[c],o.ne,by simp only[dQ];omega,.inl I⟩ (Upd.refl _ _)
  ·have L:d=some ⟨b,0,none⟩:=L
   have B:a.length=(k-sl)*g:=B;subst L;have N:sl+ys.length≤k:=v;have T:ys.length*g≤a.length:=by rw[B];exact Nat.mul_le_mul_right _ (Nat.le_sub_of_add_le (show ys.length+sl≤k by omega))
   have w:0+sl*g+(ys.flatMap f).length≤(xs.flatMap f++a).length:=by
    rw[ae,m,y,c];omega
   refine⟨.inr ⟨_,rfl,fun j V=>?_⟩,u,?_⟩
   ·rw[aX]
    refine fq hc ?_;rw[bG];omega
   ·have e:cY h (some ⟨b,0,none⟩) (sl*g) (ys.flatMap f)=_:=eG (ys.flatMap f) h (sl*g) 0 _ hc w
    rw[e];have E:(xs.flatMap f++a).take (0+sl*g)=xs.flatMap f:=by
     rw[ar,c,←m,cJ (av _),List.take_length]
    have C:(xs.flatMap f++a).drop (0+sl*g+(ys.flatMap f).length)=a.drop (ys.length*g):=by
     rw[ar,c,←m,List.drop_append,dW (by omega),List.nil_append,y];congr 1;omega
    rw[E,C];refine G _ _ ⟨by simp[c],o.ne,v,.inr ⟨b,a.drop (ys.length*g),rfl,s,?_,?_⟩⟩ (Upd.set h _ s)
    ·rw[gp hc,bh]
    ·rw[aB,B]
     simp only;rw[show k-(sl+ys.length)=(k-sl)-ys.length by omega,Nat.sub_mul (k-sl)]
 ·have Q:k*1≤k:=by omega
  refine⟨xs.flatMap f,z,?_,rfl,S,Go.growslice_fits p (by rw[c];exact q),fun P F=>?_⟩
  ·exact(o.sl (W:=No) fun _ _ _=>id).srow
  ·refine G _ _ ⟨by simp[c],o.ne,F,.inr ⟨h.size,cd (P-(sl+ys.length)) z,rfl,R,?_,?_⟩⟩ (Upd.hnew M h _ _)
   ·rw[cf,bh]
   ·rw[gP,hz]
end Go.Lift
namespace Go.Lift
open Go
theorem bK{h:ac}{k:ac→Prop}(a:k h):At h k:=a
theorem fu{b o l m a:Nat}(h:m≠l):aF (some ⟨b,o,none⟩) l m a=some ⟨b,o+l*a,none⟩:=by simp[aF,h,aX]
theorem sub_zero{b m a:Nat}:aF (some ⟨b,0,none⟩) 0 m a=some ⟨b,0,none⟩:=by
 unfold aF;split
 ·rfl
 ·simp[aX]
theorem fH{h:ac}{b:Nat}{c:List Value}{t:TypeId}{o n:Nat}{vs:List Value}{a:Option Addr}{k:ac→Prop}(f:SRow h a n vs)(m:aY vs=true)(d:h[b]? =some (.cells c.toArray t (0,0)))
  (q:o+n≤c.length) (g:∀h',h'[b]? =some (.cells (c.take o++vs++c.drop (o+n)).toArray t (0,0))→Upd (· =b) h h'→k h'):
  ∃xs,SRow h a n xs∧nO h (some ⟨b,o,none⟩) 0 xs∧aY xs=true∧At (cY h (some ⟨b,o,none⟩) 0 xs) k:=by
 have i:=f.1;refine⟨vs,f,.inr ⟨_,rfl,fun j p=>?_⟩,m,bK ?_⟩
 ·rw[aX];exact fq d (by rw[bG];omega)
 ·have e:cY h (some ⟨b,o,none⟩) 0 vs=_:=eG vs h 0 o c d (by omega)
  rw[e];refine g _ ?_ (Upd.set h _ rfl);rw[gp d,dE,i]
theorem ge{h:ac}{b:Nat}{c:List Value}{t:TypeId}{o n:Nat}{vs:List Value}(a:h[b]? =some (.cells c.toArray t (0,0))) (e:vs.length=n) (d:(c.drop o).take n=vs):SRow h (some ⟨b,o,none⟩) n vs:=by
 refine⟨e,.inr ⟨_,rfl,mw a fun i v hv=>?_⟩⟩
 rw[iY,←ii];have:((c.drop o).take n)[i]? =some v:=by rw[d];exact hv
 rw[ig]at this;split at this
 ·exact this
 ·cases this
section
variable {α:Type} {f:α→List Value} {sz:Nat}
theorem gw(a:∀x,(f x).length=sz∧0<sz)(xs:List α):(xs.flatMap f).length=xs.length*sz:=im (fun x=>(a x).1) xs
theorem qE(xs:List α)(k:Nat):xs.flatMap f=(xs.take k).flatMap f++(xs.drop k).flatMap f:=by rw[←bh,bc]
end
theorem vt{α:Type}{A X B Z1 Z2:List α}{p q r:Nat}(b:A.length=p)(e:X.length=q)(f:Z1.length=r+q):
  (((A++Z1++Z2).take p++X++(A++Z1++Z2).drop (p+q)).take (p+q))++B++((A++Z1++Z2).take p++X++(A++Z1++Z2).drop (p+q)).drop (p+q+r)=A++(X++B)++Z2:=by
 have d:(A++Z1++Z2).take p=A:=by rw[ay,bW b]
 have c:(A++Z1++Z2).drop (p+q)=Z1.drop q++Z2:=by
  rw[ay,←cB,bH b,dH (by omega)]
 have a:(A++X).length=p+q:=by rw[ae];omega
 rw[d,c,bW a,←cB,bH a,dH (by rw[aB];omega),cB,dW (by omega),List.nil_append];simp only[ay]
theorem yi{α:Type}{A X B R:List α}{p q r:Nat}(a:A.length=p)(f:B.length=r)(e:q≤R.length):
  (((A++B++R).take (p+q)++B++(A++B++R).drop (p+q+r)).take p)++X++((A++B++R).take (p+q)++B++(A++B++R).drop (p+q+r)).drop (p+q)=A++(X++B)++R.drop q:=by
 have d:((A++B++R).take (p+q)).length=p+q:=by rw[aE,ae,ae];omega
 have c:(A++B++R).drop (p+q+r)=R.drop q:=by
  rw[show p+q+r=(p+r)+q by omega,←cB,bH (by rw[ae];omega)]
 have b:((A++B++R).take (p+q)++(B++(A++B++R).drop (p+q+r))).take p=A:=by
  rw[cJ (by omega),List.take_take,Nat.min_eq_left (by omega),ay,bW a]
 rw[ay ((A++B++R).take (p+q)),b,bH d,c];simp only[ay]
theorem BT{h:ac}{b:Nat}{c:List Value}{t m:TypeId}{d a sl f i:Nat}{xs:List Value}{z:Option (List Value)}{K:SliceV→ac→Prop}(g:h[b]? =some (.cells c.toArray t (0,0)))
  (q:sl*d+xs.length≤c.length) (k:sl+i≤f) (o:aY xs=true) (n:∀h',h'[b]? =some (.cells (c.take (sl*d)++xs++c.drop (sl*d+xs.length)).toArray t (0,0))→Upd (· =b) h h'→K ⟨some ⟨b,0,none⟩,sl+i,f⟩ h'):
  AppP z d a m (some ⟨b,0,none⟩) sl f i xs h K:=by
 refine⟨fun _=>⟨.inr ⟨_,rfl,fun j p=>?_⟩,o,?_⟩,fun h=>by omega⟩
 ·rw[aX];exact fq g (by rw[bG];omega)
 ·have e:cY h (some ⟨b,0,none⟩) (sl*d) xs=_:=eG xs h (sl*d) 0 c g (by omega)
  rw[e];refine n _ ?_ (Upd.set h _ rfl);rw[gp g,ar]
theorem y3{h:ac}{b:Nat}{c:List Value}{t:TypeId}{o:Nat}{vs:List Value}{k:ac→Prop}(a:h[b]? =some (.cells c.toArray t (0,0)))
  (f:o+vs.length≤c.length) (d:∀h',h'[b]? =some (.cells (c.take o++vs++c.drop (o+vs.length)).toArray t (0,0))→Upd (· =b) h h'→k h'):
  nO h (some ⟨b,o,none⟩) 0 vs∧At (cY h (some ⟨b,o,none⟩) 0 vs) k:=by
 refine⟨.inr ⟨_,rfl,fun j g=>?_⟩,bK ?_⟩
 ·rw[aX];exact fq a (by rw[bG];omega)
 ·have e:cY h (some ⟨b,o,none⟩) 0 vs=_:=eG vs h 0 o c a (by omega)
  rw[e];refine d _ ?_ (Upd.set h _ rfl);rw[gp a,dE]
end Go.Lift
namespace Go.Lift
open Go
end Go.Lift
