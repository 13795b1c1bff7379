/- A part of the proof that the named laws of this program answer true, whatever the input. -/
import Derived.Test.YtopdngagmfanlaaGreatDoorLift2
open Array renaming getElem?_modify→iI,getElem?_setIfInBounds→dX,getElem?_eq_some_iff→cd
open Bool renaming false_eq_true→df
open List renaming flatMap_cons→bD,length_append→ah,length_cons→aG,getElem?_append_left→dS,getElem?_append_right→fJ,getElem?_eq_some_iff→aQ,length_take→aL,length_drop→aR,take_append_drop→cF,flatMap_append→cn,length_eq_zero_iff→bJ,getElem?_toArray→ef,length_nil→bU,size_toArray→cH,take_append_of_le_length→eY,drop_eq_nil_of_le→kE,nil_append→fh,append_assoc→aH,take_left'→cK,drop_drop→cU,drop_left'→cp,drop_append_of_le_length→eZ,mem_map→cL,map_map→kD,nodup_nil→po,map_cons→cD,nodup_cons→nJ,mem_cons→aA,mem_singleton→aM,filter_eq_self→jD,filter_sublist→jC
open Nat renaming strongRecOn→nI,lt_or_ge→co,zero_add→aI,le_refl→ax,not_lt→ir,succ_mul→pj,add_zero→jm
open Option renaming some→bh
namespace Go.Lift
open Go
attribute [simp] aB aj
theorem aK{p:Prop}[Decidable p]{t e:Prop}(a:p→t)(b:¬p→e):CondP (decide p) t e:=CondP.intro (fun h=>a (of_decide_eq_true h)) (fun h=>b (of_decide_eq_false h))
theorem HC.mono{P:Program}{f:FuncId}{args:List Value}{ks:List Kind}{K c:uc ks→ad→Prop}{h:ad}(hc:HC P f args ks K h)(d:∀t h',K t h'→c t h'):HC P f args ks c h:=by
 refine⟨fun w m=>?_⟩
 rcases hc.run w m with⟨a,b⟩|⟨v,w',a,b,t,i,k⟩
 ·exact .inl ⟨a,b.mono fun e w' ⟨n,t,j,g⟩=>⟨n,t,j,d t _ g⟩⟩
 ·exact .inr ⟨v,w',a,b,t,i,d t _ k⟩
theorem Join.intro{T:Type}{a:T→ad→Prop}{k:(T→ad→Prop)→Prop}(J:T→ad→Prop)(b:∀R:T→ad→Prop,(∀t h,J t h→R t h)→k R)(c:∀t h,J t h→a t h):Join a k:=⟨b a c⟩
theorem Join.plain{T:Type}{a:T→ad→Prop}{k:(T→ad→Prop)→Prop}(h:k a):Join a k:=⟨h⟩
theorem LoopP.intro{T:Type}{F:(T→ad→Prop)→T→ad→Prop}{t:T}{h:ad}(Inv:T→ad→Prop)(m:T→ad→Nat)(f:Inv t h)
  (step:∀I:T→ad→Prop,∀t h,Inv t h→(∀a h',Inv a h'→m a h'<m t h→I a h')→F I t h):LoopP F t h:=by
 refine⟨fun I e=>?_⟩
 have key:∀n t h,m t h=n→Inv t h→I t h:=by
  intro n;induction n using nI with
  |_ n ih=>exact fun t h d hi=>e t h (step I t h hi fun a h' b c=>ih _ (d▸c) a h' rfl b)
 exact key _ t h rfl f
theorem LoopP.ghost{T G:Type}{F:(T→ad→Prop)→T→ad→Prop}{t:T}{h:ad}(Inv:G→T→ad→Prop)(m:G→Nat)(g:G)(i:Inv g t h)
  (step:∀I:T→ad→Prop,∀g t h,Inv g t h→(∀b a h',Inv b a h'→m b<m g→I a h')→F I t h):LoopP F t h:=by
 refine⟨fun I f=>?_⟩
 have key:∀n g t h,m g=n→Inv g t h→I t h:=by
  intro n;induction n using nI with
  |_ n ih=>exact fun g t h e hi=>f t h (step I g t h hi fun b a h' c d=>ih _ (e▸d) b a h' rfl c)
 exact key _ g t h rfl i
theorem HV.mk'{P:Program}{f:FuncId}{first cap:Array Value}{args:List Value}{ks:List Kind}{K:uc ks→ad→Prop}{h:ad}(hc:HC P f (first.toList++args++cap.toList) ks K h):HV P (.func (.func f) first cap) args ks K h:=
 ⟨.inl ⟨f,first,cap,rfl,hc⟩⟩
@[simp] theorem cc(b o n:Nat):adr ⟨b,o,none⟩ n=⟨b,o+n,none⟩:=by
 cases n<;>rfl
@[simp] theorem yN(a:Addr)(n:Nat):(adr a n).block=a.block:=by
 cases n<;>rfl
theorem cV(h:ad):aJ h=⟨h.size,0,none⟩:=rfl
theorem F7{h:ad}{a:Addr}{v:Value}(c:aC h a=some v):a.block<h.size:=by
 unfold aC at c;rcases co a.block h.size with b|b
 ·exact b
 ·rw[Array.getElem?_eq_none b]at c;cases c
theorem aP{h:ad}{b i:Nat}{c:Array Value}{e:TypeId}{fr:Nat×Nat}(a:h[b]? =some (.cells c e fr)):aC h ⟨b,i,none⟩=c[i]?:=by
 unfold aC;rw[a];rfl
theorem NY{h h':ad}{c:Array Value}{e:TypeId}{fr:Nat×Nat}(a:h'[h.size]? =some (.cells c e fr)) (i:Nat):aC h' (adr (aJ h) i)=c[i]?:=by
 rw[cV,cc,aP a,aI]
theorem NX{h h':ad}{a:Addr}(b:h'[a.block]? =h[a.block]?):aC h' a=aC h a:=by
 unfold aC;rw[b]
theorem F5{h:ad}{b i:Nat}{c:Array Value}{e:TypeId}{fr:Nat×Nat}{v:Value}(f:h[b]? =some (.cells c e fr)):
  hset h ⟨b,i,none⟩ v=h.setIfInBounds b (.cells (c.setIfInBounds i v) e fr):=by
 unfold hset;apply Array.ext_getElem?;intro j;rw[iI,dX];by_cases d:b=j
 ·subst d
  have a:=(cd.1 f).1;simp only[f,if_true,a,Option.map_some];rfl
 ·simp[d]
theorem ij{h:ad}{b i:Nat}{c:Array Value}{e:TypeId}(a:h[b]? =some (.cells c e (0,0))) (hi:i<c.size):Wr h ⟨b,i,none⟩:=by
 refine⟨⟨c[i],by rw[aP a,Array.getElem?_eq_getElem hi]⟩,?_⟩
 unfold E3;rw[a];simp
structure Upd(M:Nat→Prop)(h h':ad):Prop where
 size:h.size≤h'.size
 same:∀b,b<h.size→¬M b→h'[b]? =h[b]?
abbrev No:Nat→Prop:=fun _=>False
theorem Upd.refl(M:Nat→Prop)(h:ad):Upd M h h:=⟨ax _,fun _ _ _=>rfl⟩
theorem Upd.trans{M M':Nat→Prop}{h e f:ad}(k:Upd M h e)(l:Upd M' e f)(g:∀b,M' b→M b∨h.size≤b):Upd M h f:=
 ⟨Nat.le_trans k.size l.size,fun b a d=>by
  rw[l.same b (Nat.lt_of_lt_of_le a k.size) (fun hm=>(g b hm).elim d fun c=>absurd a (ir.2 c)),k.same b a d]⟩
theorem Upd.tr{M:Nat→Prop}{h a b:ad}(k:Upd M h a)(l:Upd M a b):Upd M h b:=k.trans l fun _ h=>.inl h
theorem Upd.mono{M M':Nat→Prop}{h h':ad}(k:Upd M h h')(e:∀b,M b→M' b∨h.size≤b):Upd M' h h':=
 ⟨k.size,fun b c d=>k.same b c fun hm=>(e b hm).elim d fun a=>absurd c (ir.2 a)⟩
theorem Upd.wide{M:Nat→Prop}{h h':ad}(k:Upd No h h'):Upd M h h':=k.mono fun _ h=>h.elim
theorem Upd.get{M:Nat→Prop}{h h':ad}(k:Upd M h h'){b:Nat}{o:Obj}(a:h[b]? =some o) (c:¬M b):h'[b]? =some o:=by
 rw[k.same b (cd.1 a).1 c,a]
theorem Upd.get0{h h':ad}(k:Upd No h h'){b:Nat}{o:Obj}(a:h[b]? =some o):h'[b]? =some o:=k.get a id
theorem Upd.cell{M:Nat→Prop}{h h':ad}(k:Upd M h h'){a:Addr}{v:Value}(b:aC h a=some v)(c:¬M a.block):aC h' a=some v:=by
 rw[NX (k.same _ (F7 b) c),b]
theorem Upd.cell0{h h':ad}(k:Upd No h h'){a:Addr}{v:Value}(b:aC h a=some v):aC h' a=some v:=k.cell b id
theorem Upd.push(M:Nat→Prop)(h:ad)(o:Obj):Upd M h (h.push o):=⟨by simp,fun b a _=>by rw[Array.getElem?_push];simp[Nat.ne_of_lt a]⟩
theorem Upd.set{M:Nat→Prop}(h:ad){b:Nat}(o:Obj)(d:M b):Upd M h (h.setIfInBounds b o):=⟨by simp,fun c _ a=>by
 rw[dX]
 have:b≠c:=fun e=>a (e▸d)
 simp[this]⟩
theorem Upd.hset{M:Nat→Prop}(h:ad){a:Addr}(v:Value)(d:M a.block):Upd M h (hset h a v):=⟨by simp[Go.Lift.hset],fun c _ b=>by
 unfold Go.Lift.hset
 rw[iI]
 have:a.block≠c:=fun e=>b (e▸d)
 simp[this]⟩
theorem Upd.hnew(M:Nat→Prop)(h:ad)(cs:List Value)(t:TypeId):Upd M h (hnew h cs t):=Upd.push M h _
theorem bG(h:ad)(cs:List Value)(t:TypeId):(hnew h cs t)[h.size]? =some (.cells cs.toArray t (0,0)):=by
 unfold hnew;simp
theorem oD(h:ad)(o:Obj):(h.push o)[h.size]? =some o:=by simp
theorem fM(h:ad)(cs:List Value)(t:TypeId):(hnew h cs t).size=h.size+1:=by
 unfold hnew;simp
theorem iB{h:ad}{b:Nat}{o a:Obj}(c:h[b]? =some a):(h.setIfInBounds b o)[b]? =some o:=by
 rw[dX];simp[(cd.1 c).1]
theorem bv{h:ad}{b:Nat}{o:Obj}(a:h[b]? =some o):b<h.size:=(cd.1 a).1
theorem Row.upd{M:Nat→Prop}{h h':ad}{a:Addr}{vs:List Value}(d:Row h a vs)(k:Upd M h h')(b:¬M a.block):Row h' a vs:=fun i v c=>k.cell (d i v c) (by rw[yN];exact b)
theorem SRow.upd{M:Nat→Prop}{h h':ad}{a:Option Addr}{n:Nat}{vs:List Value}(c:SRow h a n vs)(k:Upd M h h')(f:vs≠[]→∀b,a=some b→¬M b.block):SRow h' a n vs:=by
 obtain⟨g,i⟩:=c;refine⟨g,?_⟩;rcases i with rfl|⟨b,d,c⟩
 ·exact .inl rfl
 ·by_cases e:vs= []
  ·exact .inl e
  ·exact .inr ⟨b,d,c.upd k (f e b d)⟩
theorem qc{h:ad}{b o:Nat}{c:Array Value}{e:TypeId}{fr:Nat×Nat}(d:h[b]? =some (.cells c e fr)) {vs:List Value} (a:∀i v,vs[i]? =some v→c[o+i]? =some v):Row h ⟨b,o,none⟩ vs:=fun i v hi=>by
 rw[cc,aP d];exact a i v hi
structure Sl{α:Type}(f:α→List Value)(sz:Nat)(W:Nat→Prop)(h:ad)(s:SliceV)(xs:List α):Prop where
 len:s.len=xs.length
 ne:∀x,(f x).length=sz∧0<sz
 row:xs≠[]→∃a,s.a=some a∧¬W a.block∧Row h a (xs.flatMap f)
theorem Sl.nil{α:Type}{f:α→List Value}{b:Nat}{W:Nat→Prop}{h:ad}{a:Option Addr}{c:Nat}(d:∀x,(f x).length=b∧0<b):Sl f b W h ⟨a,0,c⟩ []:=⟨rfl,d,fun h=>absurd rfl h⟩
theorem Sl.lt{α:Type}{f:α→List Value}{e:Nat}{W:Nat→Prop}{h:ad}{s:SliceV}{xs:List α}(d:Sl f e W h s xs)(hx:xs≠[]){a:Addr}(g:s.a=some a):a.block<h.size:=by
 obtain⟨a',b,j,i⟩:=d.row hx;rw[g]at b;cases b;cases xs with
 |nil=>exact absurd rfl hx
 |cons x xs=>
  have c:=d.ne x;cases hf:f x with
  |nil=>rw[hf]at c;simp at c;omega
  |cons v vs=>
   have:=i 0 v (by rw[bD,hf];rfl);have:=F7 this;rw[yN]at this;exact this
theorem Sl.upd{α:Type}{f:α→List Value}{g:Nat}{W M:Nat→Prop}{h h':ad}{s:SliceV}{xs:List α}(c:Sl f g W h s xs)(k:Upd M h h')(hm:∀b,M b→W b∨h.size≤b):Sl f g W h' s xs:=by
 refine⟨c.len,c.ne,fun hx=>?_⟩
 obtain⟨a,i,e,m⟩:=c.row hx;exact⟨a,i,e,m.upd k fun j=>(hm _ j).elim e fun d=>absurd (c.lt hx i) (ir.2 d)⟩
theorem Sl.less{α:Type}{f:α→List Value}{e:Nat}{W W':Nat→Prop}{h:ad}{s:SliceV}{xs:List α}(c:Sl f e W h s xs)(hm:∀b,W' b→W b∨h.size≤b):Sl f e W' h s xs:=
 ⟨c.len,c.ne,fun hx=>let⟨a,g,i,k⟩:=c.row hx;⟨a,g,fun j=>(hm _ j).elim i fun d=>absurd (c.lt hx g) (ir.2 d),k⟩⟩
theorem i7{α:Type}{f:α→List Value}{b:Nat}(a:∀x,(f x).length=b):∀xs:List α,(xs.flatMap f).length=xs.length*b
 | []=>by simp
 |x::xs=>by rw[bD,ah,a,i7 a xs,aG,pj];omega
theorem tR{α:Type}{f:α→List Value}{b:Nat}(a:∀x,(f x).length=b):∀(xs:List α) (i j:Nat) (x:α),xs[i]? =some x→j<b→(xs.flatMap f)[i*b+j]? =(f x)[j]?
 | [],i,j,x,h,_=>by simp at h
 |y::xs,0,j,x,h,hj=>by
  simp only[List.getElem?_cons_zero,bh.injEq]at h;subst h;rw[bD,Nat.zero_mul,aI,dS (by rw[a];exact hj)]
 |y::xs,i+1,j,x,h,hj=>by
  rw[List.getElem?_cons_succ]at h;rw[bD,fJ (by rw[a,pj];omega),a,show(i+1)*b+j-b=i*b+j by rw[pj];omega]
  exact tR a xs i j x h hj
theorem Sl.at{α:Type}{f:α→List Value}{c:Nat}{W:Nat→Prop}{h:ad}{s:SliceV}{xs:List α}(b:Sl f c W h s xs){i:Nat}{x:α}(hi:xs[i]? =some x):
  ∃a,s.a=some a∧¬W a.block∧∀j v,(f x)[j]? =some v→aC h (adr (adr a (i*c)) j)=some v:=by
 obtain⟨a,m,g,n⟩:=b.row (fun e=>by subst e;simp at hi)
 refine⟨a,m,g,fun j v d=>?_⟩
 have k:j<c:=by rw[←(b.ne x).1];exact(aQ.1 d).1
 rw[yO];exact n _ v (by rw[tR (fun x=>(b.ne x).1) xs i j x hi k];exact d)
theorem Sl.at0{α:Type}{g:α→Value}{W:Nat→Prop}{h:ad}{s:SliceV}{xs:List α}(d:Sl (fun x=> [g x]) 1 W h s xs){i:Nat}{x:α}(hi:xs[i]? =some x):
  ∃a,s.a=some a∧¬W a.block∧aC h (adr a (i*1))=some (g x):=by
 obtain⟨a,c,b,e⟩:=d.at hi;exact⟨a,c,b,e 0 _ rfl⟩
theorem Sl.srow{α:Type}{f:α→List Value}{c:Nat}{W:Nat→Prop}{h:ad}{s:SliceV}{xs:List α}(b:Sl f c W h s xs):SRow h s.a (s.len*c) (xs.flatMap f):=by
 refine⟨?_,?_⟩
 ·rw[b.len,i7 fun x=>(b.ne x).1]
 ·by_cases hx:xs= []
  ·subst hx;exact .inl rfl
  ·obtain⟨a,d,_,e⟩:=b.row hx
   exact .inr ⟨a,d,e⟩
theorem Sl.sub{α:Type}{f:α→List Value}{b:Nat}{W:Nat→Prop}{h:ad}{s:SliceV}{xs:List α}(d:Sl f b W h s xs){l hi m c:Nat}(t:l≤hi)(j:hi≤xs.length)(u:hi≤m):
  Sl f b W h ⟨aN s.a l m b,hi-l,c⟩ ((xs.drop l).take (hi-l)):=by
 refine⟨by simp only[aL,aR];omega,d.ne,fun hx=>?_⟩
 have n:l<hi:=by
  rcases co l hi with h|h
  ·exact h
  ·rw[Nat.sub_eq_zero_of_le h]at hx;exact absurd List.take_zero hx
 obtain⟨a,o,k,q⟩:=d.row (fun e=>by rw[e]at j;simp at j;omega)
 refine⟨adr a (l*b),?_,by rw[yN];exact k,fun i v g=>?_⟩
 ·unfold aN
  rw[if_neg (by omega),o];rfl
 ·rw[yO]
  refine q _ v ?_;have e:xs=xs.take l++((xs.drop l).take (hi-l)++(xs.drop l).drop (hi-l)):=by rw[cF,cF]
  rw[e,cn,cn];have p:((xs.take l).flatMap f).length=l*b:=by rw[i7 fun x=>(d.ne x).1,aL];congr 1;omega
  rw[fJ (by omega),p,Nat.add_sub_cancel_left,dS (aQ.1 g).1];exact g
structure OwnS{α:Type}(f:α→List Value)(sz:Nat)(t:TypeId)(M:Nat→Prop)(h:ad)(s:SliceV)(xs:List α):Prop where
 len:s.len=xs.length
 ne:∀x,(f x).length=sz∧0<sz
 cap:s.len≤s.cap
 blk:s.cap=0∨∃b rest,s.a=some ⟨b,0,none⟩∧M b∧h[b]? =some (.cells (xs.flatMap f++rest).toArray t (0,0))∧rest.length=(s.cap-s.len)*sz
theorem OwnS.nil{α:Type}{f:α→List Value}{b:Nat}{t:TypeId}{M:Nat→Prop}{h:ad}{a:Option Addr}(c:∀x,(f x).length=b∧0<b):OwnS f b t M h ⟨a,0,0⟩ []:=⟨rfl,c,ax _,.inl rfl⟩
theorem OwnS.sl{α:Type}{f:α→List Value}{e:Nat}{t:TypeId}{M W:Nat→Prop}{h:ad}{s:SliceV}{xs:List α}(a:OwnS f e t M h s xs)(hm:∀b,M b→b<h.size→¬W b):Sl f e W h s xs:=by
 refine⟨a.len,a.ne,fun hx=>?_⟩
 rcases a.blk with k|⟨b,c,j,g,hc,_⟩
 ·have:=a.len;have:=a.cap
  have:xs.length=0:=by omega
  exact absurd (bJ.1 this) hx
 ·exact⟨_,j,hm b g (bv hc),qc hc fun i v d=>by
   rw[aI,ef,dS (aQ.1 d).1];exact d⟩
theorem OwnS.upd{α:Type}{f:α→List Value}{e:Nat}{t:TypeId}{M M':Nat→Prop}{h h':ad}{s:SliceV}{xs:List α}(c:OwnS f e t M h s xs)(k:Upd M' h h')(hm:∀b,M b→¬M' b):OwnS f e t M h' s xs:=by
 refine⟨c.len,c.ne,c.cap,c.blk.imp id fun⟨b,a,g,d,hc,i⟩=>⟨b,a,g,d,k.get hc (hm b d),i⟩⟩
theorem OwnS.more{α:Type}{f:α→List Value}{d:Nat}{t:TypeId}{M M':Nat→Prop}{h:ad}{s:SliceV}{xs:List α}(c:OwnS f d t M h s xs)(hm:∀b,M b→M' b):OwnS f d t M' h s xs:=by
 refine⟨c.len,c.ne,c.cap,c.blk.imp id fun⟨b,a,g,e,hc,i⟩=>⟨b,a,g,hm b e,hc,i⟩⟩
theorem OwnS.within{α:Type}{f:α→List Value}{d:Nat}{t:TypeId}{M:Nat→Prop}{h:ad}{s:SliceV}{xs:List α}(c:OwnS f d t M h s xs):OwnS f d t (fun b=>M b∧b<h.size) h s xs:=by
 refine⟨c.len,c.ne,c.cap,c.blk.imp id fun⟨b,a,g,e,hc,i⟩=>⟨b,a,g,⟨e,bv hc⟩,hc,i⟩⟩
theorem iS{b:Nat}{t:TypeId}:∀(vs:List Value) (h:ad) (i o:Nat) (c:List Value),h[b]? =some (.cells c.toArray t (0,0))→o+i+vs.length≤c.length→
  gP h ⟨b,o,none⟩ i vs=h.setIfInBounds b (.cells (c.take (o+i)++vs++c.drop (o+i+vs.length)).toArray t (0,0))
 | [],h,i,o,c,hb,hl=>by
  simp only[gP,List.append_nil,bU,jm,cF];apply Array.ext_getElem?;intro j;rw[dX];split
  ·rename_i e;subst e;rw[hb];simp[bv hb]
  ·rfl
 |v::vs,h,i,o,c,hb,hl=>by
  rw[aG]at hl;simp only[gP];rw[cc,F5 hb];have a:(h.setIfInBounds b (.cells (c.toArray.setIfInBounds (o+i) v) t (0,0)))[b]? =some (.cells (c.set (o+i) v).toArray t (0,0)):=by
   rw[iB hb];simp
  rw[iS vs _ (i+1) o (c.set (o+i) v) a (by simp;omega)];have e:∀(x y:Obj),(h.setIfInBounds b x).setIfInBounds b y=h.setIfInBounds b y:=fun x y=>by
   apply Array.ext_getElem?;intro j;simp only[dX,Array.size_setIfInBounds];split<;>rfl
  rw[e];congr 3
  apply List.ext_getElem?;intro j;simp only[List.getElem?_append,ah,aL,List.length_set,aG,List.getElem?_take,List.getElem?_set,List.getElem?_drop];grind
theorem lA(n:Nat)(z:List Value):(de n z).length=n*z.length:=by
 unfold de;induction n with
 |zero=>simp
 |succ n ih=>rw[List.replicate_succ,List.flatten_cons,ah,ih,pj];omega
theorem AppP.own{α:Type}{f:α→List Value}{g i:Nat}{t:TypeId}{M:Nat→Prop}{h:ad}{d:Option Addr}{sl m N:Nat}{xs ys:List α}{n z:List Value}{K:SliceV→ad→Prop}
  (o:OwnS f g t M h ⟨d,sl,m⟩ xs)(k:N=ys.length)(C:n=ys.flatMap f)(y:cj n=true)(R:z.length=g)(T:0<i)(s:(xs.length+ys.length)*i≤140737488355328)(hM:M h.size)
  (L:∀s' h',OwnS f g t M h' s' (xs++ys)→Upd M h h'→K s' h'):AppP (some z) g i t d sl m N n h K:=by
 have c:sl=xs.length:=o.len;have u:∀x,(f x).length=g:=fun x=>(o.ne x).1
 subst k C;have w:=i7 u ys;have k:=i7 u xs;refine⟨fun A=>?_,fun p=>?_⟩
 ·rcases o.blk with I|⟨b,a,E,v,hc,B⟩
  ·have I:m=0:=I
   have H:ys.length=0:=by omega
   have D:xs.length=0:=by omega
   have Q:=bJ.1 H;have hx:=bJ.1 D;subst Q hx;refine⟨.inl rfl,rfl,?_⟩;have e:eR h d (sl*g) (([]:List α).flatMap f)=h:=by cases d<;>rfl
   rw[e];exact L _ _ ⟨by simp[c],o.ne,by simp only[bU];omega,.inl I⟩ (Upd.refl _ _)
  ·have E:d=some ⟨b,0,none⟩:=E
   have B:a.length=(m-sl)*g:=B;subst E;have O:sl+ys.length≤m:=A;have P:ys.length*g≤a.length:=by rw[B];exact Nat.mul_le_mul_right _ (Nat.le_sub_of_add_le (show ys.length+sl≤m by omega))
   have q:0+sl*g+(ys.flatMap f).length≤(xs.flatMap f++a).length:=by
    rw[ah,k,w,c];omega
   refine⟨.inr ⟨_,rfl,fun j V=>?_⟩,y,?_⟩
   ·rw[cc]
    refine ij hc ?_;rw[cH];omega
   ·have e:eR h (some ⟨b,0,none⟩) (sl*g) (ys.flatMap f)=_:=iS (ys.flatMap f) h (sl*g) 0 _ hc q
    rw[e];have G:(xs.flatMap f++a).take (0+sl*g)=xs.flatMap f:=by
     rw[aI,c,←k,eY (ax _),List.take_length]
    have J:(xs.flatMap f++a).drop (0+sl*g+(ys.flatMap f).length)=a.drop (ys.length*g):=by
     rw[aI,c,←k,List.drop_append,kE (by omega),fh,w];congr 1;omega
    rw[G,J];refine L _ _ ⟨by simp[c],o.ne,A,.inr ⟨b,a.drop (ys.length*g),rfl,v,?_,?_⟩⟩ (Upd.set h _ v)
    ·rw[iB hc,cn]
    ·rw[aR,B]
     simp only;rw[show m-(sl+ys.length)=(m-sl)-ys.length by omega,Nat.sub_mul (m-sl)]
 ·have S:m*1≤m:=by omega
  refine⟨xs.flatMap f,z,?_,rfl,T,Go.growslice_fits p (by rw[c];exact s),fun U F=>?_⟩
  ·exact(o.sl (W:=No) fun _ _ _=>id).srow
  ·refine L _ _ ⟨by simp[c],o.ne,F,.inr ⟨h.size,de (U-(sl+ys.length)) z,rfl,hM,?_,?_⟩⟩ (Upd.hnew M h _ _)
   ·rw[bG,cn]
   ·rw[lA,R]
end Go.Lift
namespace Go.Lift
open Go
theorem aY{h:ad}{k:ad→Prop}(a:k h):At h k:=a
theorem iM{b o l m a:Nat}(h:m≠l):aN (some ⟨b,o,none⟩) l m a=some ⟨b,o+l*a,none⟩:=by simp[aN,h,cc]
theorem sub_zero{b m a:Nat}:aN (some ⟨b,0,none⟩) 0 m a=some ⟨b,0,none⟩:=by
 unfold aN;split
 ·rfl
 ·simp[cc]
theorem kN{h:ad}{b:Nat}{c:List Value}{t:TypeId}{o n:Nat}{vs:List Value}{a:Option Addr}{k:ad→Prop}(f:SRow h a n vs)(i:cj vs=true)(d:h[b]? =some (.cells c.toArray t (0,0)))
  (q:o+n≤c.length) (m:∀h',h'[b]? =some (.cells (c.take o++vs++c.drop (o+n)).toArray t (0,0))→Upd (· =b) h h'→k h'):
  ∃xs,SRow h a n xs∧td h (some ⟨b,o,none⟩) 0 xs∧cj xs=true∧At (eR h (some ⟨b,o,none⟩) 0 xs) k:=by
 have g:=f.1;refine⟨vs,f,.inr ⟨_,rfl,fun j p=>?_⟩,i,aY ?_⟩
 ·rw[cc];exact ij d (by rw[cH];omega)
 ·have e:eR h (some ⟨b,o,none⟩) 0 vs=_:=iS vs h 0 o c d (by omega)
  rw[e];refine m _ ?_ (Upd.set h _ rfl);rw[iB d,jm,g]
theorem kZ{h:ad}{b:Nat}{c:List Value}{t:TypeId}{o n:Nat}{vs:List Value}(e:h[b]? =some (.cells c.toArray t (0,0))) (a:vs.length=n) (f:(c.drop o).take n=vs):SRow h (some ⟨b,o,none⟩) n vs:=by
 refine⟨a,.inr ⟨_,rfl,qc e fun i v d=>?_⟩⟩
 rw[ef,←List.getElem?_drop];have:((c.drop o).take n)[i]? =some v:=by rw[f];exact d
 rw[List.getElem?_take]at this;split at this
 ·exact this
 ·cases this
section
variable {α:Type} {f:α→List Value} {sz:Nat}
theorem jj(a:∀x,(f x).length=sz∧0<sz)(xs:List α):(xs.flatMap f).length=xs.length*sz:=i7 (fun x=>(a x).1) xs
theorem yd(xs:List α)(k:Nat):xs.flatMap f=(xs.take k).flatMap f++(xs.drop k).flatMap f:=by rw[←cn,cF]
end
theorem JR{α:Type}{A X B Z1 Z2:List α}{p q r:Nat}(b:A.length=p)(c:X.length=q)(d:Z1.length=r+q):
  (((A++Z1++Z2).take p++X++(A++Z1++Z2).drop (p+q)).take (p+q))++B++((A++Z1++Z2).take p++X++(A++Z1++Z2).drop (p+q)).drop (p+q+r)=A++(X++B)++Z2:=by
 have e1:(A++Z1++Z2).take p=A:=by rw[aH,cK b]
 have e2:(A++Z1++Z2).drop (p+q)=Z1.drop q++Z2:=by
  rw[aH,←cU,cp b,eZ (by omega)]
 have a:(A++X).length=p+q:=by rw[ah];omega
 rw[e1,e2,cK a,←cU,cp a,eZ (by rw[aR];omega),cU,kE (by omega),fh];simp only[aH]
theorem NV{α:Type}{A X B R:List α}{p q r:Nat}(b:A.length=p)(d:B.length=r)(e:q≤R.length):
  (((A++B++R).take (p+q)++B++(A++B++R).drop (p+q+r)).take p)++X++((A++B++R).take (p+q)++B++(A++B++R).drop (p+q+r)).drop (p+q)=A++(X++B)++R.drop q:=by
 have c:((A++B++R).take (p+q)).length=p+q:=by rw[aL,ah,ah];omega
 have a:(A++B++R).drop (p+q+r)=R.drop q:=by
  rw[show p+q+r=(p+r)+q by omega,←cU,cp (by rw[ah];omega)]
 have e1:((A++B++R).take (p+q)++(B++(A++B++R).drop (p+q+r))).take p=A:=by
  rw[eY (by omega),List.take_take,Nat.min_eq_left (by omega),aH,cK b]
 rw[aH ((A++B++R).take (p+q)),e1,cp c,a];simp only[aH]
theorem Om{h:ad}{b:Nat}{c:List Value}{t m:TypeId}{d a sl i f:Nat}{xs:List Value}{z:Option (List Value)}{K:SliceV→ad→Prop}(g:h[b]? =some (.cells c.toArray t (0,0)))
  (q:sl*d+xs.length≤c.length) (n:sl+f≤i) (k:cj xs=true) (o:∀h',h'[b]? =some (.cells (c.take (sl*d)++xs++c.drop (sl*d+xs.length)).toArray t (0,0))→Upd (· =b) h h'→K ⟨some ⟨b,0,none⟩,sl+f,i⟩ h'):
  AppP z d a m (some ⟨b,0,none⟩) sl i f xs h K:=by
 refine⟨fun _=>⟨.inr ⟨_,rfl,fun j p=>?_⟩,k,?_⟩,fun h=>by omega⟩
 ·rw[cc];exact ij g (by rw[cH];omega)
 ·have e:eR h (some ⟨b,0,none⟩) (sl*d) xs=_:=iS xs h (sl*d) 0 c g (by omega)
  rw[e];refine o _ ?_ (Upd.set h _ rfl);rw[iB g,aI]
theorem ER{h:ad}{b:Nat}{c:List Value}{t:TypeId}{o:Nat}{vs:List Value}{k:ad→Prop}(a:h[b]? =some (.cells c.toArray t (0,0)))
  (g:o+vs.length≤c.length) (d:∀h',h'[b]? =some (.cells (c.take o++vs++c.drop (o+vs.length)).toArray t (0,0))→Upd (· =b) h h'→k h'):
  td h (some ⟨b,o,none⟩) 0 vs∧At (eR h (some ⟨b,o,none⟩) 0 vs) k:=by
 refine⟨.inr ⟨_,rfl,fun j f=>?_⟩,aY ?_⟩
 ·rw[cc];exact ij a (by rw[cH];omega)
 ·have e:eR h (some ⟨b,o,none⟩) 0 vs=_:=iS vs h 0 o c a (by omega)
  rw[e];refine d _ ?_ (Upd.set h _ rfl);rw[iB a,jm]
end Go.Lift
namespace Go.Lift
open Go
structure KeyE(κ:Type) where
 enc:κ→Value
 ck:CK
 den:∀x,∃d:ck.den,enc x=ck.enc d
 same:∀x y,fC (enc x) (enc y)=true↔x=y
def X2(k:IntKind):KeyE Int:=⟨fun x=>.int k x,.int k,fun x=>⟨x,rfl⟩,fun x y=>by simp[fC]⟩
section
variable {κ β:Type}
structure Ent(κ β:Type) where
 k:κ
 v:β
 n:Nat
variable (E:KeyE κ) (g:β→Value)
def P5(x:Ent κ β):MapEntry:={key:=E.enc x.k,val:=g x.v,born:=x.n}
structure MapE(h:ad)(r:Nat)(ms:List (Ent κ β))(clock:Nat):Prop where
 here:h[r]? =some (.map (ms.map (P5 E g)).toArray clock)
 keys:(ms.map (·.k)).Nodup
 nums:(ms.map (·.n)).Nodup
 old:∀x∈ms,x.n<clock
def plain(ms:List (Ent κ β)):List (κ×β):=ms.map fun x=>(x.k,x.v)
def MapAt(h:ad)(r:Nat)(m:List (κ×β)):Prop:=∃ms clock,MapE E g h r ms clock∧plain ms=m
variable {E g}
theorem MapE.keysOf{h:ad}{r:Nat}{ms:List (Ent κ β)}{a:Nat}(_:MapE E g h r ms a):keysOf E.ck (ms.map (P5 E g)).toArray.toList:=by
 intro e b;simp only[cL]at b;obtain⟨x,_,rfl⟩:=b;exact E.den x.k
theorem MapAt.isMap{h:ad}{r:Nat}{m:List (κ×β)}(hm:MapAt E g h r m):yg E.ck h r:=by
 obtain⟨ms,a,hm,_⟩:=hm;exact⟨_,_,hm.here,hm.keysOf⟩
theorem MapAt.len{h:ad}{r:Nat}{m:List (κ×β)}(hm:MapAt E g h r m):GJ h (some r) m.length:=by
 obtain⟨ms,a,hm,rfl⟩:=hm;exact⟨_,_,hm.here,by simp[plain]⟩
theorem MapAt.nodup{h:ad}{r:Nat}{m:List (κ×β)}(hm:MapAt E g h r m):(m.map (·.1)).Nodup:=by
 obtain⟨ms,a,hm,rfl⟩:=hm;have:=hm.keys;unfold plain;rw[kD];exact this
theorem MapAt.lt{h:ad}{r:Nat}{m:List (κ×β)}(hm:MapAt E g h r m):r<h.size:=by
 obtain⟨ms,a,hm,_⟩:=hm;exact bv hm.here
theorem MapAt.upd{h h':ad}{r:Nat}{m:List (κ×β)}{M:Nat→Prop}(hm:MapAt E g h r m)(k:Upd M h h')(b:¬M r):MapAt E g h' r m:=by
 obtain⟨ms,a,hm,e⟩:=hm;exact⟨ms,a,⟨k.get hm.here b,hm.keys,hm.nums,hm.old⟩,e⟩
theorem MapAt.new(h:ad):MapAt E g (h.push (.map #[] 0)) h.size []:=
 ⟨[],0,⟨oD h _,po,po,fun _ h=>by cases h⟩,rfl⟩
variable [DecidableEq κ]
def dB:List (κ×β)→κ→Option β
 | [],_=>none
 |(k',v)::l,k=>if k=k' then some v else dB l k
def oY:List (κ×β)→κ→β→List (κ×β)
 | [],k,v=> [(k,v)]
 |(k',u)::l,k,v=>if k=k' then(k,v)::l else(k',u)::oY l k v
theorem QM(l:List (κ×β))(k:κ)(v:β)(j:κ):dB (oY l k v) j=if j=k then some v else dB l j:=by
 induction l with
 |nil=>simp[oY,dB]
 |cons p l ih=>
  obtain⟨k',u⟩:=p;simp only[oY];split
  ·rename_i e;subst e;simp only[dB];split<;>rfl
  ·rename_i e
   simp only[dB,ih];by_cases a:j=k'
   ·subst a;simp[Ne.symm e]
   ·simp[a]
theorem Jc{l:List (κ×β)}{k:κ}{v:β}(a:(l.map (·.1)).Nodup):dB l k=some v↔(k,v)∈l:=by
 induction l with
 |nil=>simp[dB]
 |cons p l ih=>
  obtain⟨k',u⟩:=p;simp only[cD,nJ]at a;simp only[dB,aA,Prod.mk.injEq];by_cases b:k=k'
  ·subst b
   simp only[if_true,bh.injEq,true_and];constructor
   ·exact fun e=>.inl e.symm
   ·rintro(e|e)
    ·exact e.symm
    ·exact absurd (cL.2 ⟨_,e,rfl⟩) a.1
  ·simp[b,ih a.2]
theorem pS{l:List (κ×β)}{k:κ}:dB l k=none↔k∉l.map (·.1):=by
 induction l with
 |nil=>simp[dB]
 |cons p l ih=>
  obtain⟨k',u⟩:=p;simp only[dB,cD,aA,not_or];by_cases a:k=k'
  ·simp[a]
  ·simp[a,ih]
theorem Jb(l:List (κ×β))(k:κ)(v:β):(oY l k v).map (·.1)=if k∈l.map (·.1)then l.map (·.1)else l.map (·.1)++ [k]:=by
 induction l with
 |nil=>simp[oY]
 |cons p l ih=>
  obtain⟨k',u⟩:=p;simp only[oY];by_cases a:k=k'
  ·simp[a]
  ·simp only[a,if_false,cD,ih,aA,false_or]
   split<;>simp
theorem Ol{l:List (κ×β)}{k:κ}{v:β}(h:(l.map (·.1)).Nodup):((oY l k v).map (·.1)).Nodup:=by
 rw[Jb];split
 ·exact h
 ·rename_i hn
  rw[List.nodup_append];refine⟨h,by simp,?_⟩
  intro a d b c;simp only[aM]at c;subst c;intro e;subst e;exact hn d
theorem Jt(x y:κ):fC (E.enc x) (E.enc y)=decide (x=y):=by
 by_cases h:x=y
 ·rw[decide_eq_true h];exact(E.same x y).2 h
 ·rw[decide_eq_false h];exact Bool.eq_false_iff.2 fun e=>h ((E.same x y).1 e)
theorem SS(k:κ)(ms:List (Ent κ β)):Gc (E.enc k) (ms.map (P5 E g))=(dB (plain ms) k).map g:=by
 induction ms with
 |nil=>rfl
 |cons x ms ih=>
  simp only[cD,Gc,P5,plain,dB];rw[Jt];by_cases h:k=x.k
  ·simp[h]
  ·simp only[h,decide_false,df,if_false];exact ih
theorem MapAt.get{h:ad}{r:Nat}{m:List (κ×β)}(hm:MapAt E g h r m)(k:κ)(z:β):wF E.ck (g z) h (some r) (E.enc k) (g ((dB m k).getD z)) (dB m k).isSome:=by
 obtain⟨ms,a,hm,rfl⟩:=hm;refine⟨_,_,hm.here,hm.keysOf,?_⟩;rw[SS];cases dB (plain ms) k<;>exact⟨rfl,rfl⟩
def xX(k:κ)(v:β)(a:Nat):List (Ent κ β)→List (Ent κ β)×Nat
 | []=>([⟨k,v,a⟩],a+1)
 |x::l=>if k=x.k then(⟨k,v,x.n⟩::l,a)else(x::(xX k v a l).1,(xX k v a l).2)
theorem Ul(k:κ)(v:β)(a:Nat)(ms:List (Ent κ β)):JE (E.enc k) (g v) a (ms.map (P5 E g))=((xX k v a ms).1.map (P5 E g),(xX k v a ms).2):=by
 induction ms with
 |nil=>rfl
 |cons x ms ih=>
  simp only[cD,JE,xX];rw[ih,show(P5 E g x).key=E.enc x.k from rfl,Jt]
  by_cases h:k=x.k
  ·simp[h,P5]
  ·simp[h]
theorem Gl(k:κ)(v:β)(a:Nat)(ms:List (Ent κ β)):plain (xX k v a ms).1=oY (plain ms) k v:=by
 induction ms with
 |nil=>rfl
 |cons x ms ih=>
  simp only[xX,plain,cD,oY];by_cases h:k=x.k
  ·simp[h]
  ·simp only[h,if_false,cD,List.cons.injEq,true_and];exact ih
theorem V1(k:κ)(v:β)(a:Nat)(ms:List (Ent κ β)):(xX k v a ms).1.map (·.n)=(if k∈ms.map (·.k)then ms.map (·.n)else ms.map (·.n)++ [a])∧(xX k v a ms).2=(if k∈ms.map (·.k)then a else a+1):=by
 induction ms with
 |nil=>exact⟨rfl,rfl⟩
 |cons x ms ih=>
  simp only[xX];by_cases h:k=x.k
  ·simp[h]
  ·simp only[h,if_false,cD,ih.1,ih.2,aA,false_or,and_true]
   split<;>simp
theorem Uu{h:ad}{r:Nat}{ms:List (Ent κ β)}{a:Nat}(hm:MapE E g h r ms a)(k:κ)(v:β):me h r (E.enc k) (g v)=h.setIfInBounds r (.map ((xX k v a ms).1.map (P5 E g)).toArray (xX k v a ms).2):=by
 unfold me;rw[hm.here];simp only;rw[Ul]
theorem MapE.put{h:ad}{r:Nat}{ms:List (Ent κ β)}{c:Nat}(hm:MapE E g h r ms c)(k:κ)(v:β):MapE E g (me h r (E.enc k) (g v)) r (xX k v c ms).1 (xX k v c ms).2:=by
 rw[Uu hm];have o:(xX k v c ms).1.map (·.k)=(plain (xX k v c ms).1).map (·.1):=by unfold plain;rw[kD];rfl
 have n:(plain ms).map (·.1)=ms.map (·.k):=by unfold plain;rw[kD];rfl
 have e:=V1 k v c ms;have d:∀y∈ms.map (·.n),y<c:=fun y i=>by
  obtain⟨x,hx,rfl⟩:=cL.1 i;exact hm.old x hx
 refine⟨iB hm.here,?_,?_,?_⟩
 ·rw[o,Gl];exact Ol (by rw[n];exact hm.keys)
 ·rw[e.1]
  split
  ·exact hm.nums
  ·rw[List.nodup_append]
   refine⟨hm.nums,by simp,?_⟩
   intro a m b j;simp only[aM]at j;have:=d a m;omega
 ·intro x hx
  have hx:x.n∈(xX k v c ms).1.map (·.n):=cL.2 ⟨x,hx,rfl⟩
  rw[e.1]at hx;rw[e.2];split
  ·rename_i hk;rw[if_pos hk]at hx;exact d _ hx
  ·rename_i hk
   rw[if_neg hk]at hx;rcases List.mem_append.1 hx with f|f
   ·have:=d _ f;omega
   ·simp only[aM]at f;omega
theorem MapAt.put{h:ad}{r:Nat}{m:List (κ×β)}(hm:MapAt E g h r m)(k:κ)(v:β):MapAt E g (me h r (E.enc k) (g v)) r (oY m k v):=by
 obtain⟨ms,a,hm,rfl⟩:=hm;exact⟨_,_,hm.put k v,Gl ..⟩
theorem vm{M:Nat→Prop}(h:ad){r:Nat}(k v:Value)(a:M r):Upd M h (me h r k v):=by
 unfold me;split
 ·exact Upd.set h _ a
 ·exact Upd.refl _ _
theorem SY(k:κ){ms:List (Ent κ β)}(a:(ms.map (·.k)).Nodup):Gq (E.enc k) (ms.map (P5 E g))=(ms.filter fun x=>x.k≠k).map (P5 E g):=by
 induction ms with
 |nil=>rfl
 |cons x ms ih=>
  simp only[cD,nJ]at a;simp only[cD,Gq,List.filter_cons];rw[show(P5 E g x).key=E.enc x.k from rfl,Jt]
  by_cases h:k=x.k
  ·subst h
   simp only[decide_true,if_true,ne_eq,not_true_eq_false,decide_false,df,if_false];congr 1
   rw[jD.2];intro y b;simp only[decide_not,Bool.not_eq_eq_eq_not,Bool.not_true,decide_eq_false_iff_not];intro e;exact a.1 (e▸cL.2 ⟨y,b,rfl⟩)
  ·simp only[h,decide_false,df,if_false,ne_eq,Ne.symm h,not_false_eq_true,decide_true,if_true,cD]
   rw[ih a.2]
theorem MapE.drop{h:ad}{r:Nat}{ms:List (Ent κ β)}{a:Nat}(hm:MapE E g h r ms a)(k:κ):MapE E g (FR h r (E.enc k)) r (ms.filter fun x=>x.k≠k) a:=by
 have e:FR h r (E.enc k)=h.setIfInBounds r (.map ((ms.filter fun x=>x.k≠k).map (P5 E g)).toArray a):=by
  unfold FR;rw[hm.here];simp only;rw[SY k hm.keys]
 rw[e];refine⟨iB hm.here,hm.keys.sublist ((jC).map _),hm.nums.sublist ((jC).map _),fun x hx=>hm.old x ((List.mem_filter.1 hx).1)⟩
end
section
variable {κ β:Type} (E:KeyE κ) (g:β→Value)
def IterSt(h:ad)(i r:Nat)(m a:List (κ×β)):Prop:=
 ∃ms clock since seen last,MapE E g h r ms clock∧plain ms=m∧h[i]? =some (.mapIter (some r) since seen last)∧a=plain (ms.filter fun x=> !seen.contains x.n)∧∀x∈ms,x.n<since∧x.n<last
variable {E g}
theorem IterSt.at{h:ad}{i r:Nat}{m b:List (κ×β)}(hi:IterSt E g h i r m b):MapAt E g h r m:=by
 obtain⟨ms,a,c,d,last,hm,e,_⟩:=hi;exact⟨ms,a,hm,e⟩
theorem IterSt.upd{h h':ad}{i r:Nat}{m a:List (κ×β)}{M:Nat→Prop}(hi:IterSt E g h i r m a)(k:Upd M h h')(e:¬M i)(j:¬M r):IterSt E g h' i r m a:=by
 obtain⟨ms,c,b,d,last,hm,p,f,o,n⟩:=hi;exact⟨ms,c,b,d,last,⟨k.get hm.here j,hm.keys,hm.nums,hm.old⟩,p,k.get f e,o,n⟩
theorem IterSt.ne{h:ad}{i r:Nat}{m a:List (κ×β)}(hi:IterSt E g h i r m a):i≠r:=by
 obtain⟨ms,c,b,f,last,hm,n,d,k,j⟩:=hi;intro e;subst e;rw[hm.here]at d;cases d
theorem IterSt.nodup{h:ad}{i r:Nat}{m a:List (κ×β)}(hi:IterSt E g h i r m a):(a.map (·.1)).Nodup:=by
 obtain⟨ms,c,b,d,last,hm,k,f,e,j⟩:=hi;rw[e];unfold plain;rw[kD];exact hm.keys.sublist ((jC).map _)
theorem MapAt.range{h:ad}{r:Nat}{m:List (κ×β)}(hm:MapAt E g h r m):∃a,(∃es,h[r]? =some (.map es a))∧IterSt E g (h.push (.mapIter (some r) a #[] a)) h.size r m m:=by
 obtain⟨ms,a,hm,b⟩:=hm;refine⟨a,⟨_,hm.here⟩,ms,a,a,#[],a,⟨(Upd.push No h _).get0 hm.here,hm.keys,hm.nums,hm.old⟩,b,oD h _,?_,fun x hx=>⟨hm.old x hx,hm.old x hx⟩⟩
 rw[show(fun x:Ent κ β=> !(#[]:Array Nat).contains x.n)=fun _=>true from funext fun x=>by simp,jD.2 fun _ _=>rfl,b]
variable [DecidableEq κ]
end
end Go.Lift
namespace Go.Lift
open Go
end Go.Lift
