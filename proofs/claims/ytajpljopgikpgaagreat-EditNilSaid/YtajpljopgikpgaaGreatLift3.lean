/- A part of the proof that the named laws of this program answer true, whatever the input. -/
import Derived.Test.YtajpljopgikpgaaGreatLift2
open Array renaming getElem?_setIfInBounds→bq,getElem?_eq_some_iff→aU
open List renaming flatMap_cons→ba,length_append→ae,length_cons→aQ,getElem?_append_left→dt,getElem?_append_right→c8,getElem?_eq_some_iff→bw,length_take→aE,length_drop→aB,take_append_drop→bc,flatMap_append→bh,length_eq_zero_iff→bp,getElem?_toArray→iY,length_nil→dQ,getElem?_take→ig,getElem?_drop→ii,size_toArray→bG,take_append_of_le_length→cJ,drop_eq_nil_of_le→dW,append_assoc→ay,take_left'→bW,drop_drop→cB,drop_left'→bH,drop_append_of_le_length→dH
open Nat renaming lt_or_ge→bV,le_refl→av,succ_mul→kc,zero_add→ar,add_zero→dE
namespace Go.Lift
open Go
attribute [simp] ao al
theorem bi{p:Prop}[Decidable p]{t e:Prop}(a:p→t)(b:¬p→e):CondP (decide p) t e:=CondP.intro (fun h=>a (of_decide_eq_true h)) (fun h=>b (of_decide_eq_false h))
theorem HC.mono{P:Program}{f:FuncId}{args:List Value}{ks:List Kind}{K d:mo ks→ac→Prop}{h:ac}(hc:HC P f args ks K h)(c:∀t h',K t h'→d t h'):HC P f args ks d h:=by
 refine⟨fun w m=>?_⟩
 rcases hc.run w m with⟨b,a⟩|⟨v,w',b,a,t,j,g⟩
 ·exact .inl ⟨b,a.mono fun e w' ⟨n,t,i,k⟩=>⟨n,t,i,c t _ k⟩⟩
 ·exact .inr ⟨v,w',b,a,t,j,c t _ g⟩
theorem Join.intro{T:Type}{a:T→ac→Prop}{k:(T→ac→Prop)→Prop}(J:T→ac→Prop)(b:∀R:T→ac→Prop,(∀t h,J t h→R t h)→k R)(c:∀t h,J t h→a t h):Join a k:=⟨b a c⟩
theorem Join.plain{T:Type}{a:T→ac→Prop}{k:(T→ac→Prop)→Prop}(h:k a):Join a k:=⟨h⟩
theorem LoopP.intro{T:Type}{F:(T→ac→Prop)→T→ac→Prop}{t:T}{h:ac}(Inv:T→ac→Prop)(m:T→ac→Nat)(e:Inv t h)
  (step:∀I:T→ac→Prop,∀t h,Inv t h→(∀b a,Inv b a→m b a<m t h→I b a)→F I t h):LoopP F t h:=by
 refine⟨fun I g=>?_⟩
 have key:∀n t h,m t h=n→Inv t h→I t h:=by
  intro n;induction n using Nat.strongRecOn with
  |_ n ih=>exact fun t h i f=>g t h (step I t h f fun b a c d=>ih _ (i▸d) b a rfl c)
 exact key _ t h rfl e
theorem LoopP.ghost{T G:Type}{F:(T→ac→Prop)→T→ac→Prop}{t:T}{h:ac}(Inv:G→T→ac→Prop)(m:G→Nat)(g:G)(f:Inv g t h)
  (step:∀I:T→ac→Prop,∀g t h,Inv g t h→(∀c b a,Inv c b a→m c<m g→I b a)→F I t h):LoopP F t h:=by
 refine⟨fun I j=>?_⟩
 have key:∀n g t h,m g=n→Inv g t h→I t h:=by
  intro n;induction n using Nat.strongRecOn with
  |_ n ih=>exact fun g t h k i=>j t h (step I g t h i fun c b a d e=>ih _ (k▸e) c b a rfl d)
 exact key _ g t h rfl f
theorem HV.mk'{P:Program}{f:FuncId}{first cap:Array Value}{args:List Value}{ks:List Kind}{K:mo ks→ac→Prop}{h:ac}(hc:HC P f (first.toList++args++cap.toList) ks K h):HV P (.func (.func f) first cap) args ks K h:=
 ⟨.inl ⟨f,first,cap,rfl,hc⟩⟩
@[simp] theorem aX(b o n:Nat):adr ⟨b,o,none⟩ n=⟨b,o+n,none⟩:=by
 cases n<;>rfl
@[simp] theorem qM(a:Addr)(n:Nat):(adr a n).block=a.block:=by
 cases n<;>rfl
theorem dK(h:ac):bN h=⟨h.size,0,none⟩:=rfl
theorem wL{h:ac}{a:Addr}{v:Value}(hv:aP h a=some v):a.block<h.size:=by
 unfold aP at hv;rcases bV a.block h.size with b|b
 ·exact b
 ·rw[Array.getElem?_eq_none b]at hv;cases hv
theorem aH{h:ac}{b i:Nat}{c:Array Value}{e:TypeId}{fr:Nat×Nat}(a:h[b]? =some (.cells c e fr)):aP h ⟨b,i,none⟩=c[i]?:=by
 unfold aP;rw[a];rfl
theorem yl{h b:ac}{a:Addr}(c:b[a.block]? =h[a.block]?):aP b a=aP h a:=by
 unfold aP;rw[c]
theorem td{h:ac}{b i:Nat}{c:Array Value}{e:TypeId}{fr:Nat×Nat}{v:Value}(d:h[b]? =some (.cells c e fr)):
  hset h ⟨b,i,none⟩ v=h.setIfInBounds b (.cells (c.setIfInBounds i v) e fr):=by
 unfold hset;apply Array.ext_getElem?;intro j;rw[Array.getElem?_modify,bq];by_cases f:b=j
 ·subst f
  have a:=(aU.1 d).1;simp only[d,if_true,a,Option.map_some];rfl
 ·simp[f]
theorem fq{h:ac}{b i:Nat}{c:Array Value}{e:TypeId}(a:h[b]? =some (.cells c e (0,0))) (d:i<c.size):Wr h ⟨b,i,none⟩:=by
 refine⟨⟨c[i],by rw[aH a,Array.getElem?_eq_getElem d]⟩,?_⟩
 unfold r4;rw[a];simp
structure Upd(M:Nat→Prop)(h h':ac):Prop where
 size:h.size≤h'.size
 same:∀b,b<h.size→¬M b→h'[b]? =h[b]?
abbrev No:Nat→Prop:=fun _=>False
theorem Upd.refl(M:Nat→Prop)(h:ac):Upd M h h:=⟨av _,fun _ _ _=>rfl⟩
theorem Upd.trans{M M':Nat→Prop}{h e d:ac}(k:Upd M h e)(l:Upd M' e d)(g:∀b,M' b→M b∨h.size≤b):Upd M h d:=
 ⟨Nat.le_trans k.size l.size,fun b a f=>by
  rw[l.same b (Nat.lt_of_lt_of_le a k.size) (fun hm=>(g b hm).elim f fun c=>absurd a (Nat.not_lt.2 c)),k.same b a f]⟩
theorem Upd.tr{M:Nat→Prop}{h a b:ac}(k:Upd M h a)(l:Upd M a b):Upd M h b:=k.trans l fun _ h=>.inl h
theorem Upd.mono{M M':Nat→Prop}{h d:ac}(k:Upd M h d)(e:∀b,M b→M' b∨h.size≤b):Upd M' h d:=
 ⟨k.size,fun b c f=>k.same b c fun hm=>(e b hm).elim f fun a=>absurd c (Nat.not_lt.2 a)⟩
theorem Upd.wide{M:Nat→Prop}{h a:ac}(k:Upd No h a):Upd M h a:=k.mono fun _ h=>h.elim
theorem Upd.get{M:Nat→Prop}{h a:ac}(k:Upd M h a){b:Nat}{o:Obj}(c:h[b]? =some o) (d:¬M b):a[b]? =some o:=by
 rw[k.same b (aU.1 c).1 d,c]
theorem Upd.get0{h a:ac}(k:Upd No h a){b:Nat}{o:Obj}(c:h[b]? =some o):a[b]? =some o:=k.get c id
theorem Upd.cell{M:Nat→Prop}{h b:ac}(k:Upd M h b){a:Addr}{v:Value}(hv:aP h a=some v)(c:¬M a.block):aP b a=some v:=by
 rw[yl (k.same _ (wL hv) c),hv]
theorem Upd.push(M:Nat→Prop)(h:ac)(o:Obj):Upd M h (h.push o):=⟨by simp,fun b a _=>by rw[Array.getElem?_push];simp[Nat.ne_of_lt a]⟩
theorem Upd.set{M:Nat→Prop}(h:ac){b:Nat}(o:Obj)(a:M b):Upd M h (h.setIfInBounds b o):=⟨by simp,fun c _ d=>by
 rw[bq]
 have:b≠c:=fun e=>d (e▸a)
 simp[this]⟩
theorem Upd.hset{M:Nat→Prop}(h:ac){a:Addr}(v:Value)(b:M a.block):Upd M h (hset h a v):=⟨by simp[Go.Lift.hset],fun c _ d=>by
 unfold Go.Lift.hset
 rw[Array.getElem?_modify]
 have:a.block≠c:=fun e=>d (e▸b)
 simp[this]⟩
theorem Upd.hnew(M:Nat→Prop)(h:ac)(cs:List Value)(t:TypeId):Upd M h (hnew h cs t):=Upd.push M h _
theorem cf(h:ac)(cs:List Value)(t:TypeId):(hnew h cs t)[h.size]? =some (.cells cs.toArray t (0,0)):=by
 unfold hnew;simp
theorem je(h:ac)(cs:List Value)(t:TypeId):(hnew h cs t).size=h.size+1:=by
 unfold hnew;simp
theorem gp{h:ac}{b:Nat}{o c:Obj}(a:h[b]? =some c):(h.setIfInBounds b o)[b]? =some o:=by
 rw[bq];simp[(aU.1 a).1]
theorem aW{h:ac}{b:Nat}{o:Obj}(a:h[b]? =some o):b<h.size:=(aU.1 a).1
theorem Row.upd{M:Nat→Prop}{h b:ac}{a:Addr}{vs:List Value}(c:Row h a vs)(k:Upd M h b)(d:¬M a.block):Row b a vs:=fun i v hv=>k.cell (c i v hv) (by rw[qM];exact d)
theorem SRow.upd{M:Nat→Prop}{h e:ac}{a:Option Addr}{n:Nat}{vs:List Value}(c:SRow h a n vs)(k:Upd M h e)(i:vs≠[]→∀b,a=some b→¬M b.block):SRow e a n vs:=by
 obtain⟨g,f⟩:=c;refine⟨g,?_⟩;rcases f with rfl|⟨b,d,c⟩
 ·exact .inl rfl
 ·by_cases hv:vs= []
  ·exact .inl hv
  ·exact .inr ⟨b,d,c.upd k (i hv b d)⟩
theorem mw{h:ac}{b o:Nat}{c:Array Value}{e:TypeId}{fr:Nat×Nat}(a:h[b]? =some (.cells c e fr)) {vs:List Value} (hv:∀i v,vs[i]? =some v→c[o+i]? =some v):Row h ⟨b,o,none⟩ vs:=fun i v d=>by
 rw[aX,aH a];exact hv i v d
structure Sl{α:Type}(f:α→List Value)(sz:Nat)(W:Nat→Prop)(h:ac)(s:SliceV)(xs:List α):Prop where
 len:s.len=xs.length
 ne:∀x,(f x).length=sz∧0<sz
 row:xs≠[]→∃a,s.a=some a∧¬W a.block∧Row h a (xs.flatMap f)
theorem Sl.nil{α:Type}{f:α→List Value}{b:Nat}{W:Nat→Prop}{h:ac}{a:Option Addr}{c:Nat}(d:∀x,(f x).length=b∧0<b):Sl f b W h ⟨a,0,c⟩ []:=⟨rfl,d,fun h=>absurd rfl h⟩
theorem Sl.lt{α:Type}{f:α→List Value}{e:Nat}{W:Nat→Prop}{h:ac}{s:SliceV}{xs:List α}(c:Sl f e W h s xs)(hx:xs≠[]){a:Addr}(i:s.a=some a):a.block<h.size:=by
 obtain⟨a',b,j,g⟩:=c.row hx;rw[i]at b;cases b;cases xs with
 |nil=>exact absurd rfl hx
 |cons x xs=>
  have d:=c.ne x;cases hf:f x with
  |nil=>rw[hf]at d;simp at d;omega
  |cons v vs=>
   have:=g 0 v (by rw[ba,hf];rfl);have:=wL this;rw[qM]at this;exact this
theorem Sl.upd{α:Type}{f:α→List Value}{e:Nat}{W M:Nat→Prop}{h g:ac}{s:SliceV}{xs:List α}(c:Sl f e W h s xs)(k:Upd M h g)(hm:∀b,M b→W b∨h.size≤b):Sl f e W g s xs:=by
 refine⟨c.len,c.ne,fun hx=>?_⟩
 obtain⟨a,i,j,n⟩:=c.row hx;exact⟨a,i,j,n.upd k fun m=>(hm _ m).elim j fun d=>absurd (c.lt hx i) (Nat.not_lt.2 d)⟩
theorem Sl.less{α:Type}{f:α→List Value}{e:Nat}{W W':Nat→Prop}{h:ac}{s:SliceV}{xs:List α}(c:Sl f e W h s xs)(hm:∀b,W' b→W b∨h.size≤b):Sl f e W' h s xs:=
 ⟨c.len,c.ne,fun hx=>let⟨a,g,k,j⟩:=c.row hx;⟨a,g,fun i=>(hm _ i).elim k fun d=>absurd (c.lt hx g) (Nat.not_lt.2 d),j⟩⟩
theorem im{α:Type}{f:α→List Value}{b:Nat}(a:∀x,(f x).length=b):∀xs:List α,(xs.flatMap f).length=xs.length*b
 | []=>by simp
 |x::xs=>by rw[ba,ae,a,im a xs,aQ,kc];omega
theorem rm{α:Type}{f:α→List Value}{b:Nat}(a:∀x,(f x).length=b):∀(xs:List α) (i j:Nat) (x:α),xs[i]? =some x→j<b→(xs.flatMap f)[i*b+j]? =(f x)[j]?
 | [],i,j,x,h,_=>by simp at h
 |y::xs,0,j,x,h,hj=>by
  simp only[List.getElem?_cons_zero,Option.some.injEq]at h;subst h;rw[ba,Nat.zero_mul,ar,dt (by rw[a];exact hj)]
 |y::xs,i+1,j,x,h,hj=>by
  rw[List.getElem?_cons_succ]at h;rw[ba,c8 (by rw[a,kc];omega),a,show(i+1)*b+j-b=i*b+j by rw[kc];omega]
  exact rm a xs i j x h hj
theorem Sl.at{α:Type}{f:α→List Value}{b:Nat}{W:Nat→Prop}{h:ac}{s:SliceV}{xs:List α}(c:Sl f b W h s xs){i:Nat}{x:α}(d:xs[i]? =some x):
  ∃a,s.a=some a∧¬W a.block∧∀j v,(f x)[j]? =some v→aP h (adr (adr a (i*b)) j)=some v:=by
 obtain⟨a,m,n,k⟩:=c.row (fun e=>by subst e;simp at d)
 refine⟨a,m,n,fun j v hv=>?_⟩
 have g:j<b:=by rw[←(c.ne x).1];exact(bw.1 hv).1
 rw[r9];exact k _ v (by rw[rm (fun x=>(c.ne x).1) xs i j x d g];exact hv)
theorem Sl.at0{α:Type}{g:α→Value}{W:Nat→Prop}{h:ac}{s:SliceV}{xs:List α}(b:Sl (fun x=> [g x]) 1 W h s xs){i:Nat}{x:α}(d:xs[i]? =some x):
  ∃a,s.a=some a∧¬W a.block∧aP h (adr a (i*1))=some (g x):=by
 obtain⟨a,e,f,c⟩:=b.at d;exact⟨a,e,f,c 0 _ rfl⟩
theorem Sl.srow{α:Type}{f:α→List Value}{c:Nat}{W:Nat→Prop}{h:ac}{s:SliceV}{xs:List α}(b:Sl f c W h s xs):SRow h s.a (s.len*c) (xs.flatMap f):=by
 refine⟨?_,?_⟩
 ·rw[b.len,im fun x=>(b.ne x).1]
 ·by_cases hx:xs= []
  ·subst hx;exact .inl rfl
  ·obtain⟨a,e,_,d⟩:=b.row hx
   exact .inr ⟨a,e,d⟩
theorem Sl.sub{α:Type}{f:α→List Value}{d:Nat}{W:Nat→Prop}{h:ac}{s:SliceV}{xs:List α}(g:Sl f d W h s xs){l b m c:Nat}(u:l≤b)(j:b≤xs.length)(t:b≤m):
  Sl f d W h ⟨aF s.a l m d,b-l,c⟩ ((xs.drop l).take (b-l)):=by
 refine⟨by simp only[aE,aB];omega,g.ne,fun hx=>?_⟩
 have o:l<b:=by
  rcases bV l b with h|h
  ·exact h
  ·rw[Nat.sub_eq_zero_of_le h]at hx;exact absurd List.take_zero hx
 obtain⟨a,p,q,n⟩:=g.row (fun e=>by rw[e]at j;simp at j;omega)
 refine⟨adr a (l*d),?_,by rw[qM];exact q,fun i v hv=>?_⟩
 ·unfold aF
  rw[if_neg (by omega),p];rfl
 ·rw[r9]
  refine n _ v ?_;have e:xs=xs.take l++((xs.drop l).take (b-l)++(xs.drop l).drop (b-l)):=by rw[bc,bc]
  rw[e,bh,bh];have k:((xs.take l).flatMap f).length=l*d:=by rw[im fun x=>(g.ne x).1,aE];congr 1;omega
  rw[c8 (by omega),k,Nat.add_sub_cancel_left,dt (bw.1 hv).1];exact hv
structure OwnS{α:Type}(f:α→List Value)(sz:Nat)(t:TypeId)(M:Nat→Prop)(h:ac)(s:SliceV)(xs:List α):Prop where
 len:s.len=xs.length
 ne:∀x,(f x).length=sz∧0<sz
 cap:s.len≤s.cap
 blk:s.cap=0∨∃b rest,s.a=some ⟨b,0,none⟩∧M b∧h[b]? =some (.cells (xs.flatMap f++rest).toArray t (0,0))∧rest.length=(s.cap-s.len)*sz
theorem OwnS.nil{α:Type}{f:α→List Value}{b:Nat}{t:TypeId}{M:Nat→Prop}{h:ac}{a:Option Addr}(c:∀x,(f x).length=b∧0<b):OwnS f b t M h ⟨a,0,0⟩ []:=⟨rfl,c,av _,.inl rfl⟩
theorem OwnS.sl{α:Type}{f:α→List Value}{c:Nat}{t:TypeId}{M W:Nat→Prop}{h:ac}{s:SliceV}{xs:List α}(a:OwnS f c t M h s xs)(hm:∀b,M b→b<h.size→¬W b):Sl f c W h s xs:=by
 refine⟨a.len,a.ne,fun hx=>?_⟩
 rcases a.blk with j|⟨b,d,g,e,hc,_⟩
 ·have:=a.len;have:=a.cap
  have:xs.length=0:=by omega
  exact absurd (bp.1 this) hx
 ·exact⟨_,g,hm b e (aW hc),mw hc fun i v hv=>by
   rw[ar,iY,dt (bw.1 hv).1];exact hv⟩
theorem OwnS.upd{α:Type}{f:α→List Value}{d:Nat}{t:TypeId}{M M':Nat→Prop}{h g:ac}{s:SliceV}{xs:List α}(c:OwnS f d t M h s xs)(k:Upd M' h g)(hm:∀b,M b→¬M' b):OwnS f d t M g s xs:=by
 refine⟨c.len,c.ne,c.cap,c.blk.imp id fun⟨b,a,j,e,hc,i⟩=>⟨b,a,j,e,k.get hc (hm b e),i⟩⟩
theorem OwnS.more{α:Type}{f:α→List Value}{d:Nat}{t:TypeId}{M M':Nat→Prop}{h:ac}{s:SliceV}{xs:List α}(c:OwnS f d t M h s xs)(hm:∀b,M b→M' b):OwnS f d t M' h s xs:=by
 refine⟨c.len,c.ne,c.cap,c.blk.imp id fun⟨b,a,i,e,hc,g⟩=>⟨b,a,i,hm b e,hc,g⟩⟩
theorem OwnS.within{α:Type}{f:α→List Value}{d:Nat}{t:TypeId}{M:Nat→Prop}{h:ac}{s:SliceV}{xs:List α}(c:OwnS f d t M h s xs):OwnS f d t (fun b=>M b∧b<h.size) h s xs:=by
 refine⟨c.len,c.ne,c.cap,c.blk.imp id fun⟨b,a,i,e,hc,g⟩=>⟨b,a,i,⟨e,aW hc⟩,hc,g⟩⟩
theorem eG{b:Nat}{t:TypeId}:∀(vs:List Value) (h:ac) (i o:Nat) (c:List Value),h[b]? =some (.cells c.toArray t (0,0))→o+i+vs.length≤c.length→
  fX h ⟨b,o,none⟩ i vs=h.setIfInBounds b (.cells (c.take (o+i)++vs++c.drop (o+i+vs.length)).toArray t (0,0))
 | [],h,i,o,c,hb,hl=>by
  simp only[fX,List.append_nil,dQ,dE,bc];apply Array.ext_getElem?;intro j;rw[bq];split
  ·rename_i e;subst e;rw[hb];simp[aW hb]
  ·rfl
 |v::vs,h,i,o,c,hb,hl=>by
  rw[aQ]at hl;simp only[fX];rw[aX,td hb];have a:(h.setIfInBounds b (.cells (c.toArray.setIfInBounds (o+i) v) t (0,0)))[b]? =some (.cells (c.set (o+i) v).toArray t (0,0)):=by
   rw[gp hb];simp
  rw[eG vs _ (i+1) o (c.set (o+i) v) a (by simp;omega)];have e:∀(x y:Obj),(h.setIfInBounds b x).setIfInBounds b y=h.setIfInBounds b y:=fun x y=>by
   apply Array.ext_getElem?;intro j;simp only[bq,Array.size_setIfInBounds];split<;>rfl
  rw[e];congr 3
  apply List.ext_getElem?;intro j;simp only[List.getElem?_append,ae,aE,List.length_set,aQ,ig,List.getElem?_set,ii];grind
theorem gP(n:Nat)(z:List Value):(cd n z).length=n*z.length:=by
 unfold cd;induction n with
 |zero=>simp
 |succ n ih=>rw[List.replicate_succ,List.flatten_cons,ae,ih,kc];omega
theorem AppP.own{α:Type}{f:α→List Value}{g i:Nat}{t:TypeId}{M:Nat→Prop}{h:ac}{d:Option Addr}{sl m O:Nat}{xs ys:List α}{o z:List Value}{K:SliceV→ac→Prop}
  (n:OwnS f g t M h ⟨d,sl,m⟩ xs)(k:O=ys.length)(E:o=ys.flatMap f)(w:aY o=true)(hz:z.length=g)(P:0<i)(q:(xs.length+ys.length)*i≤140737488355328)(U:M h.size)
  (C:∀s' h',OwnS f g t M h' s' (xs++ys)→Upd M h h'→K s' h'):AppP (some z) g i t d sl m O o h K:=by
 have a:sl=xs.length:=n.len;have u:∀x,(f x).length=g:=fun x=>(n.ne x).1
 subst k E;have A:=im u ys;have k:=im u xs;refine⟨fun s=>?_,fun v=>?_⟩
 ·rcases n.blk with F|⟨b,c,D,p,hc,B⟩
  ·have F:m=0:=F
   have L:ys.length=0:=by omega
   have G:xs.length=0:=by omega
   have Q:=bp.1 L;have hx:=bp.1 G;subst Q hx;refine⟨.inl rfl,rfl,?_⟩;have e:cY h d (sl*g) (([]:List α).flatMap f)=h:=by cases d<;>rfl
   rw[e];exact C _ _ ⟨by simp[a],n.ne,by simp only[dQ];omega,.inl F⟩ (Upd.refl _ _)
  ·have D:d=some ⟨b,0,none⟩:=D
   have B:c.length=(m-sl)*g:=B;subst D;have N:sl+ys.length≤m:=s;have R:ys.length*g≤c.length:=by rw[B];exact Nat.mul_le_mul_right _ (Nat.le_sub_of_add_le (show ys.length+sl≤m by omega))
   have y:0+sl*g+(ys.flatMap f).length≤(xs.flatMap f++c).length:=by
    rw[ae,k,A,a];omega
   refine⟨.inr ⟨_,rfl,fun j V=>?_⟩,w,?_⟩
   ·rw[aX]
    refine fq hc ?_;rw[bG];omega
   ·have e:cY h (some ⟨b,0,none⟩) (sl*g) (ys.flatMap f)=_:=eG (ys.flatMap f) h (sl*g) 0 _ hc y
    rw[e];have J:(xs.flatMap f++c).take (0+sl*g)=xs.flatMap f:=by
     rw[ar,a,←k,cJ (av _),List.take_length]
    have H:(xs.flatMap f++c).drop (0+sl*g+(ys.flatMap f).length)=c.drop (ys.length*g):=by
     rw[ar,a,←k,List.drop_append,dW (by omega),List.nil_append,A];congr 1;omega
    rw[J,H];refine C _ _ ⟨by simp[a],n.ne,s,.inr ⟨b,c.drop (ys.length*g),rfl,p,?_,?_⟩⟩ (Upd.set h _ p)
    ·rw[gp hc,bh]
    ·rw[aB,B]
     simp only;rw[show m-(sl+ys.length)=(m-sl)-ys.length by omega,Nat.sub_mul (m-sl)]
 ·have T:m*1≤m:=by omega
  refine⟨xs.flatMap f,z,?_,rfl,P,Go.growslice_fits v (by rw[a];exact q),fun S I=>?_⟩
  ·exact(n.sl (W:=No) fun _ _ _=>id).srow
  ·refine C _ _ ⟨by simp[a],n.ne,I,.inr ⟨h.size,cd (S-(sl+ys.length)) z,rfl,U,?_,?_⟩⟩ (Upd.hnew M h _ _)
   ·rw[cf,bh]
   ·rw[gP,hz]
end Go.Lift
namespace Go.Lift
open Go
theorem bK{h:ac}{k:ac→Prop}(a:k h):At h k:=a
theorem fu{b o l m a:Nat}(h:m≠l):aF (some ⟨b,o,none⟩) l m a=some ⟨b,o+l*a,none⟩:=by simp[aF,h,aX]
theorem sub_zero{b m a:Nat}:aF (some ⟨b,0,none⟩) 0 m a=some ⟨b,0,none⟩:=by
 unfold aF;split
 ·rfl
 ·simp[aX]
theorem fH{h:ac}{b:Nat}{c:List Value}{t:TypeId}{o n:Nat}{vs:List Value}{a:Option Addr}{k:ac→Prop}(f:SRow h a n vs)(g:aY vs=true)(d:h[b]? =some (.cells c.toArray t (0,0)))
  (q:o+n≤c.length) (i:∀h',h'[b]? =some (.cells (c.take o++vs++c.drop (o+n)).toArray t (0,0))→Upd (· =b) h h'→k h'):
  ∃xs,SRow h a n xs∧nO h (some ⟨b,o,none⟩) 0 xs∧aY xs=true∧At (cY h (some ⟨b,o,none⟩) 0 xs) k:=by
 have m:=f.1;refine⟨vs,f,.inr ⟨_,rfl,fun j p=>?_⟩,g,bK ?_⟩
 ·rw[aX];exact fq d (by rw[bG];omega)
 ·have e:cY h (some ⟨b,o,none⟩) 0 vs=_:=eG vs h 0 o c d (by omega)
  rw[e];refine i _ ?_ (Upd.set h _ rfl);rw[gp d,dE,m]
theorem ge{h:ac}{b:Nat}{c:List Value}{t:TypeId}{o n:Nat}{vs:List Value}(a:h[b]? =some (.cells c.toArray t (0,0))) (e:vs.length=n) (d:(c.drop o).take n=vs):SRow h (some ⟨b,o,none⟩) n vs:=by
 refine⟨e,.inr ⟨_,rfl,mw a fun i v hv=>?_⟩⟩
 rw[iY,←ii];have:((c.drop o).take n)[i]? =some v:=by rw[d];exact hv
 rw[ig]at this;split at this
 ·exact this
 ·cases this
section
variable {α:Type} {f:α→List Value} {sz:Nat}
theorem gw(a:∀x,(f x).length=sz∧0<sz)(xs:List α):(xs.flatMap f).length=xs.length*sz:=im (fun x=>(a x).1) xs
theorem qF(xs:List α)(k:Nat):xs.flatMap f=(xs.take k).flatMap f++(xs.drop k).flatMap f:=by rw[←bh,bc]
end
theorem vv{α:Type}{A X B Z1 Z2:List α}{p q r:Nat}(b:A.length=p)(f:X.length=q)(e:Z1.length=r+q):
  (((A++Z1++Z2).take p++X++(A++Z1++Z2).drop (p+q)).take (p+q))++B++((A++Z1++Z2).take p++X++(A++Z1++Z2).drop (p+q)).drop (p+q+r)=A++(X++B)++Z2:=by
 have c:(A++Z1++Z2).take p=A:=by rw[ay,bW b]
 have d:(A++Z1++Z2).drop (p+q)=Z1.drop q++Z2:=by
  rw[ay,←cB,bH b,dH (by omega)]
 have a:(A++X).length=p+q:=by rw[ae];omega
 rw[c,d,bW a,←cB,bH a,dH (by rw[aB];omega),cB,dW (by omega),List.nil_append];simp only[ay]
theorem yj{α:Type}{A X B R:List α}{p q r:Nat}(a:A.length=p)(f:B.length=r)(e:q≤R.length):
  (((A++B++R).take (p+q)++B++(A++B++R).drop (p+q+r)).take p)++X++((A++B++R).take (p+q)++B++(A++B++R).drop (p+q+r)).drop (p+q)=A++(X++B)++R.drop q:=by
 have b:((A++B++R).take (p+q)).length=p+q:=by rw[aE,ae,ae];omega
 have d:(A++B++R).drop (p+q+r)=R.drop q:=by
  rw[show p+q+r=(p+r)+q by omega,←cB,bH (by rw[ae];omega)]
 have c:((A++B++R).take (p+q)++(B++(A++B++R).drop (p+q+r))).take p=A:=by
  rw[cJ (by omega),List.take_take,Nat.min_eq_left (by omega),ay,bW a]
 rw[ay ((A++B++R).take (p+q)),c,bH b,d];simp only[ay]
theorem BU{h:ac}{b:Nat}{c:List Value}{t o:TypeId}{d a sl g i:Nat}{xs:List Value}{z:Option (List Value)}{K:SliceV→ac→Prop}(f:h[b]? =some (.cells c.toArray t (0,0)))
  (q:sl*d+xs.length≤c.length) (k:sl+i≤g) (n:aY xs=true) (m:∀h',h'[b]? =some (.cells (c.take (sl*d)++xs++c.drop (sl*d+xs.length)).toArray t (0,0))→Upd (· =b) h h'→K ⟨some ⟨b,0,none⟩,sl+i,g⟩ h'):
  AppP z d a o (some ⟨b,0,none⟩) sl g i xs h K:=by
 refine⟨fun _=>⟨.inr ⟨_,rfl,fun j p=>?_⟩,n,?_⟩,fun h=>by omega⟩
 ·rw[aX];exact fq f (by rw[bG];omega)
 ·have e:cY h (some ⟨b,0,none⟩) (sl*d) xs=_:=eG xs h (sl*d) 0 c f (by omega)
  rw[e];refine m _ ?_ (Upd.set h _ rfl);rw[gp f,ar]
theorem y4{h:ac}{b:Nat}{c:List Value}{t:TypeId}{o:Nat}{vs:List Value}{k:ac→Prop}(a:h[b]? =some (.cells c.toArray t (0,0)))
  (g:o+vs.length≤c.length) (d:∀h',h'[b]? =some (.cells (c.take o++vs++c.drop (o+vs.length)).toArray t (0,0))→Upd (· =b) h h'→k h'):
  nO h (some ⟨b,o,none⟩) 0 vs∧At (cY h (some ⟨b,o,none⟩) 0 vs) k:=by
 refine⟨.inr ⟨_,rfl,fun j f=>?_⟩,bK ?_⟩
 ·rw[aX];exact fq a (by rw[bG];omega)
 ·have e:cY h (some ⟨b,o,none⟩) 0 vs=_:=eG vs h 0 o c a (by omega)
  rw[e];refine d _ ?_ (Upd.set h _ rfl);rw[gp a,dE]
end Go.Lift
namespace Go.Lift
open Go
end Go.Lift
