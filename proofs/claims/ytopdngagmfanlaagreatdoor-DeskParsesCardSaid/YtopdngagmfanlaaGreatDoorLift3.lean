/- A part of the proof that the named laws of this program answer true, whatever the input. -/
import Derived.Test.YtopdngagmfanlaaGreatDoorLift2
open Array renaming getElem?_modify→jt,getElem?_setIfInBounds→ey,getElem?_eq_some_iff→cq
open Bool renaming false_eq_true→dy
open List renaming flatMap_cons→bH,length_append→ai,length_cons→ay,getElem?_append_left→ef,getElem?_append_right→jj,getElem?_eq_some_iff→bd,length_take→aY,length_drop→aS,take_append_drop→bQ,flatMap_append→bW,length_eq_zero_iff→bj,getElem?_toArray→dM,length_nil→bN,size_toArray→cP,take_append_of_le_length→fG,drop_eq_nil_of_le→lh,nil_append→jE,append_assoc→aK,take_left'→cR,drop_drop→cS,drop_left'→cD,drop_append_of_le_length→fH,mem_map→fu,map_map→lg,nodup_nil→pN,map_cons→cN,nodup_cons→lB,mem_cons→ar,mem_singleton→aQ,filter_eq_self→kc,filter_sublist→ka
open Nat renaming strongRecOn→lA,lt_or_ge→cC,zero_add→aP,le_refl→au,not_lt→jh,succ_mul→nn,add_zero→jX
open Option renaming some→bp
namespace Go.Lift
open Go
attribute [simp] aA af
theorem aF{p:Prop}[Decidable p]{t e:Prop}(b:p→t)(a:¬p→e):CondP (decide p) t e:=CondP.intro (fun h=>b (of_decide_eq_true h)) (fun h=>a (of_decide_eq_false h))
theorem HC.mono{P:Program}{f:FuncId}{args:List Value}{ks:List Kind}{K c:uC ks→ad→Prop}{h:ad}(hc:HC P f args ks K h)(d:∀t h',K t h'→c t h'):HC P f args ks c h:=by
 refine⟨fun w m=>?_⟩
 rcases hc.run w m with⟨a,b⟩|⟨v,w',a,b,t,k,n⟩
 ·exact .inl ⟨a,b.mono fun e w' ⟨j,t,g,i⟩=>⟨j,t,g,d t _ i⟩⟩
 ·exact .inr ⟨v,w',a,b,t,k,d t _ n⟩
theorem Join.intro{T:Type}{a:T→ad→Prop}{k:(T→ad→Prop)→Prop}(J:T→ad→Prop)(c:∀R:T→ad→Prop,(∀t h,J t h→R t h)→k R)(b:∀t h,J t h→a t h):Join a k:=⟨c a b⟩
theorem Join.plain{T:Type}{a:T→ad→Prop}{k:(T→ad→Prop)→Prop}(h:k a):Join a k:=⟨h⟩
theorem LoopP.intro{T:Type}{F:(T→ad→Prop)→T→ad→Prop}{t:T}{h:ad}(Inv:T→ad→Prop)(m:T→ad→Nat)(e:Inv t h)
  (step:∀I:T→ad→Prop,∀t h,Inv t h→(∀a h',Inv a h'→m a h'<m t h→I a h')→F I t h):LoopP F t h:=by
 refine⟨fun I f=>?_⟩
 have key:∀n t h,m t h=n→Inv t h→I t h:=by
  intro n;induction n using lA with
  |_ n ih=>exact fun t h d hi=>f t h (step I t h hi fun a h' b c=>ih _ (d▸c) a h' rfl b)
 exact key _ t h rfl e
theorem LoopP.ghost{T G:Type}{F:(T→ad→Prop)→T→ad→Prop}{t:T}{h:ad}(Inv:G→T→ad→Prop)(m:G→Nat)(g:G)(f:Inv g t h)
  (step:∀I:T→ad→Prop,∀g t h,Inv g t h→(∀a b h',Inv a b h'→m a<m g→I b h')→F I t h):LoopP F t h:=by
 refine⟨fun I i=>?_⟩
 have key:∀n g t h,m g=n→Inv g t h→I t h:=by
  intro n;induction n using lA with
  |_ n ih=>exact fun g t h e hi=>i t h (step I g t h hi fun a b h' c d=>ih _ (e▸d) a b h' rfl c)
 exact key _ g t h rfl f
theorem HV.mk'{P:Program}{f:FuncId}{first cap:Array Value}{args:List Value}{ks:List Kind}{K:uC ks→ad→Prop}{h:ad}(hc:HC P f (first.toList++args++cap.toList) ks K h):HV P (.func (.func f) first cap) args ks K h:=
 ⟨.inl ⟨f,first,cap,rfl,hc⟩⟩
@[simp] theorem ce(b o n:Nat):adr ⟨b,o,none⟩ n=⟨b,o+n,none⟩:=by
 cases n<;>rfl
@[simp] theorem zV(a:Addr)(n:Nat):(adr a n).block=a.block:=by
 cases n<;>rfl
theorem df(h:ad):aH h=⟨h.size,0,none⟩:=rfl
theorem G6{h:ad}{a:Addr}{v:Value}(b:aD h a=some v):a.block<h.size:=by
 unfold aD at b;rcases cC a.block h.size with c|c
 ·exact c
 ·rw[Array.getElem?_eq_none c]at b;cases b
theorem aW{h:ad}{b i:Nat}{c:Array Value}{e:TypeId}{fr:Nat×Nat}(a:h[b]? =some (.cells c e fr)):aD h ⟨b,i,none⟩=c[i]?:=by
 unfold aD;rw[a];rfl
theorem P6{h h':ad}{c:Array Value}{e:TypeId}{fr:Nat×Nat}(a:h'[h.size]? =some (.cells c e fr)) (i:Nat):aD h' (adr (aH h) i)=c[i]?:=by
 rw[df,ce,aW a,aP]
theorem P5{h h':ad}{a:Addr}(b:h'[a.block]? =h[a.block]?):aD h' a=aD h a:=by
 unfold aD;rw[b]
theorem G4{h:ad}{b i:Nat}{c:Array Value}{e:TypeId}{fr:Nat×Nat}{v:Value}(d:h[b]? =some (.cells c e fr)):
  hset h ⟨b,i,none⟩ v=h.setIfInBounds b (.cells (c.setIfInBounds i v) e fr):=by
 unfold hset;apply Array.ext_getElem?;intro j;rw[jt,ey];by_cases f:b=j
 ·subst f
  have a:=(cq.1 d).1;simp only[d,if_true,a,Option.map_some];rfl
 ·simp[f]
theorem iM{h:ad}{b i:Nat}{c:Array Value}{e:TypeId}(a:h[b]? =some (.cells c e (0,0))) (hi:i<c.size):Wr h ⟨b,i,none⟩:=by
 refine⟨⟨c[i],by rw[aW a,Array.getElem?_eq_getElem hi]⟩,?_⟩
 unfold F1;rw[a];simp
structure Upd(M:Nat→Prop)(h h':ad):Prop where
 size:h.size≤h'.size
 same:∀b,b<h.size→¬M b→h'[b]? =h[b]?
abbrev No:Nat→Prop:=fun _=>False
theorem Upd.refl(M:Nat→Prop)(h:ad):Upd M h h:=⟨au _,fun _ _ _=>rfl⟩
theorem Upd.trans{M M':Nat→Prop}{h e f:ad}(k:Upd M h e)(l:Upd M' e f)(g:∀b,M' b→M b∨h.size≤b):Upd M h f:=
 ⟨Nat.le_trans k.size l.size,fun b a d=>by
  rw[l.same b (Nat.lt_of_lt_of_le a k.size) (fun hm=>(g b hm).elim d fun c=>absurd a (jh.2 c)),k.same b a d]⟩
theorem Upd.tr{M:Nat→Prop}{h b a:ad}(k:Upd M h b)(l:Upd M b a):Upd M h a:=k.trans l fun _ h=>.inl h
theorem Upd.mono{M M':Nat→Prop}{h h':ad}(k:Upd M h h')(e:∀b,M b→M' b∨h.size≤b):Upd M' h h':=
 ⟨k.size,fun b c d=>k.same b c fun hm=>(e b hm).elim d fun a=>absurd c (jh.2 a)⟩
theorem Upd.wide{M:Nat→Prop}{h h':ad}(k:Upd No h h'):Upd M h h':=k.mono fun _ h=>h.elim
theorem Upd.get{M:Nat→Prop}{h h':ad}(k:Upd M h h'){b:Nat}{o:Obj}(a:h[b]? =some o) (c:¬M b):h'[b]? =some o:=by
 rw[k.same b (cq.1 a).1 c,a]
theorem Upd.get0{h h':ad}(k:Upd No h h'){b:Nat}{o:Obj}(a:h[b]? =some o):h'[b]? =some o:=k.get a id
theorem Upd.cell{M:Nat→Prop}{h h':ad}(k:Upd M h h'){a:Addr}{v:Value}(b:aD h a=some v)(c:¬M a.block):aD h' a=some v:=by
 rw[P5 (k.same _ (G6 b) c),b]
theorem Upd.cell0{h h':ad}(k:Upd No h h'){a:Addr}{v:Value}(b:aD h a=some v):aD h' a=some v:=k.cell b id
theorem Upd.push(M:Nat→Prop)(h:ad)(o:Obj):Upd M h (h.push o):=⟨by simp,fun b a _=>by rw[Array.getElem?_push];simp[Nat.ne_of_lt a]⟩
theorem Upd.set{M:Nat→Prop}(h:ad){b:Nat}(o:Obj)(d:M b):Upd M h (h.setIfInBounds b o):=⟨by simp,fun c _ a=>by
 rw[ey]
 have:b≠c:=fun e=>a (e▸d)
 simp[this]⟩
theorem Upd.hset{M:Nat→Prop}(h:ad){a:Addr}(v:Value)(d:M a.block):Upd M h (hset h a v):=⟨by simp[Go.Lift.hset],fun c _ b=>by
 unfold Go.Lift.hset
 rw[jt]
 have:a.block≠c:=fun e=>b (e▸d)
 simp[this]⟩
theorem Upd.hnew(M:Nat→Prop)(h:ad)(cs:List Value)(t:TypeId):Upd M h (hnew h cs t):=Upd.push M h _
theorem bF(h:ad)(cs:List Value)(t:TypeId):(hnew h cs t)[h.size]? =some (.cells cs.toArray t (0,0)):=by
 unfold hnew;simp
theorem mo(h:ad)(o:Obj):(h.push o)[h.size]? =some o:=by simp
theorem eN(h:ad)(cs:List Value)(t:TypeId):(hnew h cs t).size=h.size+1:=by
 unfold hnew;simp
theorem jo{h:ad}{b:Nat}{o a:Obj}(c:h[b]? =some a):(h.setIfInBounds b o)[b]? =some o:=by
 rw[ey];simp[(cq.1 c).1]
theorem bB{h:ad}{b:Nat}{o:Obj}(a:h[b]? =some o):b<h.size:=(cq.1 a).1
theorem Row.upd{M:Nat→Prop}{h h':ad}{a:Addr}{vs:List Value}(b:Row h a vs)(k:Upd M h h')(c:¬M a.block):Row h' a vs:=fun i v d=>k.cell (b i v d) (by rw[zV];exact c)
theorem SRow.upd{M:Nat→Prop}{h h':ad}{a:Option Addr}{n:Nat}{vs:List Value}(c:SRow h a n vs)(k:Upd M h h')(f:vs≠[]→∀b,a=some b→¬M b.block):SRow h' a n vs:=by
 obtain⟨g,i⟩:=c;refine⟨g,?_⟩;rcases i with rfl|⟨b,d,c⟩
 ·exact .inl rfl
 ·by_cases e:vs= []
  ·exact .inl e
  ·exact .inr ⟨b,d,c.upd k (f e b d)⟩
theorem pj{h:ad}{b o:Nat}{c:Array Value}{e:TypeId}{fr:Nat×Nat}(a:h[b]? =some (.cells c e fr)) {vs:List Value} (d:∀i v,vs[i]? =some v→c[o+i]? =some v):Row h ⟨b,o,none⟩ vs:=fun i v hi=>by
 rw[ce,aW a];exact d i v hi
structure Sl{α:Type}(f:α→List Value)(sz:Nat)(W:Nat→Prop)(h:ad)(s:SliceV)(xs:List α):Prop where
 len:s.len=xs.length
 ne:∀x,(f x).length=sz∧0<sz
 row:xs≠[]→∃a,s.a=some a∧¬W a.block∧Row h a (xs.flatMap f)
theorem Sl.nil{α:Type}{f:α→List Value}{b:Nat}{W:Nat→Prop}{h:ad}{a:Option Addr}{c:Nat}(d:∀x,(f x).length=b∧0<b):Sl f b W h ⟨a,0,c⟩ []:=⟨rfl,d,fun h=>absurd rfl h⟩
theorem Sl.lt{α:Type}{f:α→List Value}{e:Nat}{W:Nat→Prop}{h:ad}{s:SliceV}{xs:List α}(d:Sl f e W h s xs)(hx:xs≠[]){a:Addr}(i:s.a=some a):a.block<h.size:=by
 obtain⟨a',b,j,g⟩:=d.row hx;rw[i]at b;cases b;cases xs with
 |nil=>exact absurd rfl hx
 |cons x xs=>
  have c:=d.ne x;cases hf:f x with
  |nil=>rw[hf]at c;simp at c;omega
  |cons v vs=>
   have:=g 0 v (by rw[bH,hf];rfl);have:=G6 this;rw[zV]at this;exact this
theorem Sl.upd{α:Type}{f:α→List Value}{g:Nat}{W M:Nat→Prop}{h h':ad}{s:SliceV}{xs:List α}(c:Sl f g W h s xs)(k:Upd M h h')(hm:∀b,M b→W b∨h.size≤b):Sl f g W h' s xs:=by
 refine⟨c.len,c.ne,fun hx=>?_⟩
 obtain⟨a,i,e,m⟩:=c.row hx;exact⟨a,i,e,m.upd k fun j=>(hm _ j).elim e fun d=>absurd (c.lt hx i) (jh.2 d)⟩
theorem Sl.less{α:Type}{f:α→List Value}{e:Nat}{W W':Nat→Prop}{h:ad}{s:SliceV}{xs:List α}(c:Sl f e W h s xs)(hm:∀b,W' b→W b∨h.size≤b):Sl f e W' h s xs:=
 ⟨c.len,c.ne,fun hx=>let⟨a,g,i,k⟩:=c.row hx;⟨a,g,fun j=>(hm _ j).elim i fun d=>absurd (c.lt hx g) (jh.2 d),k⟩⟩
theorem mw{α:Type}{f:α→List Value}{b:Nat}(a:∀x,(f x).length=b):∀xs:List α,(xs.flatMap f).length=xs.length*b
 | []=>by simp
 |x::xs=>by rw[bH,ai,a,mw a xs,ay,nn];omega
theorem EM{α:Type}{f:α→List Value}{b:Nat}(a:∀x,(f x).length=b):∀(xs:List α) (i j:Nat) (x:α),xs[i]? =some x→j<b→(xs.flatMap f)[i*b+j]? =(f x)[j]?
 | [],i,j,x,h,_=>by simp at h
 |y::xs,0,j,x,h,hj=>by
  simp only[List.getElem?_cons_zero,bp.injEq]at h;subst h;rw[bH,Nat.zero_mul,aP,ef (by rw[a];exact hj)]
 |y::xs,i+1,j,x,h,hj=>by
  rw[List.getElem?_cons_succ]at h;rw[bH,jj (by rw[a,nn];omega),a,show(i+1)*b+j-b=i*b+j by rw[nn];omega]
  exact EM a xs i j x h hj
theorem Sl.at{α:Type}{f:α→List Value}{b:Nat}{W:Nat→Prop}{h:ad}{s:SliceV}{xs:List α}(c:Sl f b W h s xs){i:Nat}{x:α}(hi:xs[i]? =some x):
  ∃a,s.a=some a∧¬W a.block∧∀j v,(f x)[j]? =some v→aD h (adr (adr a (i*b)) j)=some v:=by
 obtain⟨a,n,g,m⟩:=c.row (fun e=>by subst e;simp at hi)
 refine⟨a,n,g,fun j v d=>?_⟩
 have k:j<b:=by rw[←(c.ne x).1];exact(bd.1 d).1
 rw[F7];exact m _ v (by rw[EM (fun x=>(c.ne x).1) xs i j x hi k];exact d)
theorem Sl.at0{α:Type}{g:α→Value}{W:Nat→Prop}{h:ad}{s:SliceV}{xs:List α}(d:Sl (fun x=> [g x]) 1 W h s xs){i:Nat}{x:α}(hi:xs[i]? =some x):
  ∃a,s.a=some a∧¬W a.block∧aD h (adr a (i*1))=some (g x):=by
 obtain⟨a,b,e,c⟩:=d.at hi;exact⟨a,b,e,c 0 _ rfl⟩
theorem Sl.srow{α:Type}{f:α→List Value}{c:Nat}{W:Nat→Prop}{h:ad}{s:SliceV}{xs:List α}(b:Sl f c W h s xs):SRow h s.a (s.len*c) (xs.flatMap f):=by
 refine⟨?_,?_⟩
 ·rw[b.len,mw fun x=>(b.ne x).1]
 ·by_cases hx:xs= []
  ·subst hx;exact .inl rfl
  ·obtain⟨a,d,_,e⟩:=b.row hx
   exact .inr ⟨a,d,e⟩
theorem Sl.sub{α:Type}{f:α→List Value}{b:Nat}{W:Nat→Prop}{h:ad}{s:SliceV}{xs:List α}(d:Sl f b W h s xs){l hi m c:Nat}(t:l≤hi)(j:hi≤xs.length)(u:hi≤m):
  Sl f b W h ⟨aV s.a l m b,hi-l,c⟩ ((xs.drop l).take (hi-l)):=by
 refine⟨by simp only[aY,aS];omega,d.ne,fun hx=>?_⟩
 have p:l<hi:=by
  rcases cC l hi with h|h
  ·exact h
  ·rw[Nat.sub_eq_zero_of_le h]at hx;exact absurd List.take_zero hx
 obtain⟨a,o,k,n⟩:=d.row (fun e=>by rw[e]at j;simp at j;omega)
 refine⟨adr a (l*b),?_,by rw[zV];exact k,fun i v g=>?_⟩
 ·unfold aV
  rw[if_neg (by omega),o];rfl
 ·rw[F7]
  refine n _ v ?_;have e:xs=xs.take l++((xs.drop l).take (hi-l)++(xs.drop l).drop (hi-l)):=by rw[bQ,bQ]
  rw[e,bW,bW];have q:((xs.take l).flatMap f).length=l*b:=by rw[mw fun x=>(d.ne x).1,aY];congr 1;omega
  rw[jj (by omega),q,Nat.add_sub_cancel_left,ef (bd.1 g).1];exact g
structure OwnS{α:Type}(f:α→List Value)(sz:Nat)(t:TypeId)(M:Nat→Prop)(h:ad)(s:SliceV)(xs:List α):Prop where
 len:s.len=xs.length
 ne:∀x,(f x).length=sz∧0<sz
 cap:s.len≤s.cap
 blk:s.cap=0∨∃b rest,s.a=some ⟨b,0,none⟩∧M b∧h[b]? =some (.cells (xs.flatMap f++rest).toArray t (0,0))∧rest.length=(s.cap-s.len)*sz
theorem OwnS.nil{α:Type}{f:α→List Value}{b:Nat}{t:TypeId}{M:Nat→Prop}{h:ad}{a:Option Addr}(c:∀x,(f x).length=b∧0<b):OwnS f b t M h ⟨a,0,0⟩ []:=⟨rfl,c,au _,.inl rfl⟩
theorem OwnS.sl{α:Type}{f:α→List Value}{d:Nat}{t:TypeId}{M W:Nat→Prop}{h:ad}{s:SliceV}{xs:List α}(a:OwnS f d t M h s xs)(hm:∀b,M b→b<h.size→¬W b):Sl f d W h s xs:=by
 refine⟨a.len,a.ne,fun hx=>?_⟩
 rcases a.blk with k|⟨b,c,j,g,hc,_⟩
 ·have:=a.len;have:=a.cap
  have:xs.length=0:=by omega
  exact absurd (bj.1 this) hx
 ·exact⟨_,j,hm b g (bB hc),pj hc fun i v e=>by
   rw[aP,dM,ef (bd.1 e).1];exact e⟩
theorem OwnS.upd{α:Type}{f:α→List Value}{e:Nat}{t:TypeId}{M M':Nat→Prop}{h h':ad}{s:SliceV}{xs:List α}(c:OwnS f e t M h s xs)(k:Upd M' h h')(hm:∀b,M b→¬M' b):OwnS f e t M h' s xs:=by
 refine⟨c.len,c.ne,c.cap,c.blk.imp id fun⟨b,a,i,d,hc,g⟩=>⟨b,a,i,d,k.get hc (hm b d),g⟩⟩
theorem OwnS.more{α:Type}{f:α→List Value}{d:Nat}{t:TypeId}{M M':Nat→Prop}{h:ad}{s:SliceV}{xs:List α}(c:OwnS f d t M h s xs)(hm:∀b,M b→M' b):OwnS f d t M' h s xs:=by
 refine⟨c.len,c.ne,c.cap,c.blk.imp id fun⟨b,a,i,e,hc,g⟩=>⟨b,a,i,hm b e,hc,g⟩⟩
theorem OwnS.within{α:Type}{f:α→List Value}{d:Nat}{t:TypeId}{M:Nat→Prop}{h:ad}{s:SliceV}{xs:List α}(c:OwnS f d t M h s xs):OwnS f d t (fun b=>M b∧b<h.size) h s xs:=by
 refine⟨c.len,c.ne,c.cap,c.blk.imp id fun⟨b,a,i,e,hc,g⟩=>⟨b,a,i,⟨e,bB hc⟩,hc,g⟩⟩
theorem jA{b:Nat}{t:TypeId}:∀(vs:List Value) (h:ad) (i o:Nat) (c:List Value),h[b]? =some (.cells c.toArray t (0,0))→o+i+vs.length≤c.length→
  ib h ⟨b,o,none⟩ i vs=h.setIfInBounds b (.cells (c.take (o+i)++vs++c.drop (o+i+vs.length)).toArray t (0,0))
 | [],h,i,o,c,hb,hl=>by
  simp only[ib,List.append_nil,bN,jX,bQ];apply Array.ext_getElem?;intro j;rw[ey];split
  ·rename_i e;subst e;rw[hb];simp[bB hb]
  ·rfl
 |v::vs,h,i,o,c,hb,hl=>by
  rw[ay]at hl;simp only[ib];rw[ce,G4 hb];have a:(h.setIfInBounds b (.cells (c.toArray.setIfInBounds (o+i) v) t (0,0)))[b]? =some (.cells (c.set (o+i) v).toArray t (0,0)):=by
   rw[jo hb];simp
  rw[jA vs _ (i+1) o (c.set (o+i) v) a (by simp;omega)];have e:∀(x y:Obj),(h.setIfInBounds b x).setIfInBounds b y=h.setIfInBounds b y:=fun x y=>by
   apply Array.ext_getElem?;intro j;simp only[ey,Array.size_setIfInBounds];split<;>rfl
  rw[e];congr 3
  apply List.ext_getElem?;intro j;simp only[List.getElem?_append,ai,aY,List.length_set,ay,List.getElem?_take,List.getElem?_set,List.getElem?_drop];grind
theorem md(n:Nat)(z:List Value):(du n z).length=n*z.length:=by
 unfold du;induction n with
 |zero=>simp
 |succ n ih=>rw[List.replicate_succ,List.flatten_cons,ai,ih,nn];omega
theorem AppP.own{α:Type}{f:α→List Value}{g i:Nat}{t:TypeId}{M:Nat→Prop}{h:ad}{d:Option Addr}{sl k N:Nat}{xs ys:List α}{o z:List Value}{K:SliceV→ad→Prop}
  (n:OwnS f g t M h ⟨d,sl,k⟩ xs)(m:N=ys.length)(E:o=ys.flatMap f)(w:cu o=true)(T:z.length=g)(P:0<i)(v:(xs.length+ys.length)*i≤140737488355328)(hM:M h.size)
  (G:∀s' h',OwnS f g t M h' s' (xs++ys)→Upd M h h'→K s' h'):AppP (some z) g i t d sl k N o h K:=by
 have c:sl=xs.length:=n.len;have A:∀x,(f x).length=g:=fun x=>(n.ne x).1
 subst m E;have s:=mw A ys;have m:=mw A xs;refine⟨fun p=>?_,fun q=>?_⟩
 ·rcases n.blk with D|⟨b,a,C,y,hc,B⟩
  ·have D:k=0:=D
   have F:ys.length=0:=by omega
   have H:xs.length=0:=by omega
   have U:=bj.1 F;have hx:=bj.1 H;subst U hx;refine⟨.inl rfl,rfl,?_⟩;have e:fI h d (sl*g) (([]:List α).flatMap f)=h:=by cases d<;>rfl
   rw[e];exact G _ _ ⟨by simp[c],n.ne,by simp only[bN];omega,.inl D⟩ (Upd.refl _ _)
  ·have C:d=some ⟨b,0,none⟩:=C
   have B:a.length=(k-sl)*g:=B;subst C;have O:sl+ys.length≤k:=p;have S:ys.length*g≤a.length:=by rw[B];exact Nat.mul_le_mul_right _ (Nat.le_sub_of_add_le (show ys.length+sl≤k by omega))
   have u:0+sl*g+(ys.flatMap f).length≤(xs.flatMap f++a).length:=by
    rw[ai,m,s,c];omega
   refine⟨.inr ⟨_,rfl,fun j V=>?_⟩,w,?_⟩
   ·rw[ce]
    refine iM hc ?_;rw[cP];omega
   ·have e:fI h (some ⟨b,0,none⟩) (sl*g) (ys.flatMap f)=_:=jA (ys.flatMap f) h (sl*g) 0 _ hc u
    rw[e];have L:(xs.flatMap f++a).take (0+sl*g)=xs.flatMap f:=by
     rw[aP,c,←m,fG (au _),List.take_length]
    have I:(xs.flatMap f++a).drop (0+sl*g+(ys.flatMap f).length)=a.drop (ys.length*g):=by
     rw[aP,c,←m,List.drop_append,lh (by omega),jE,s];congr 1;omega
    rw[L,I];refine G _ _ ⟨by simp[c],n.ne,p,.inr ⟨b,a.drop (ys.length*g),rfl,y,?_,?_⟩⟩ (Upd.set h _ y)
    ·rw[jo hc,bW]
    ·rw[aS,B]
     simp only;rw[show k-(sl+ys.length)=(k-sl)-ys.length by omega,Nat.sub_mul (k-sl)]
 ·have R:k*1≤k:=by omega
  refine⟨xs.flatMap f,z,?_,rfl,P,Go.growslice_fits q (by rw[c];exact v),fun Q J=>?_⟩
  ·exact(n.sl (W:=No) fun _ _ _=>id).srow
  ·refine G _ _ ⟨by simp[c],n.ne,J,.inr ⟨h.size,du (Q-(sl+ys.length)) z,rfl,hM,?_,?_⟩⟩ (Upd.hnew M h _ _)
   ·rw[bF,bW]
   ·rw[md,T]
end Go.Lift
namespace Go.Lift
open Go
theorem bi{h:ad}{k:ad→Prop}(a:k h):At h k:=a
theorem jw{b o l m a:Nat}(h:m≠l):aV (some ⟨b,o,none⟩) l m a=some ⟨b,o+l*a,none⟩:=by simp[aV,h,ce]
theorem sub_zero{b m a:Nat}:aV (some ⟨b,0,none⟩) 0 m a=some ⟨b,0,none⟩:=by
 unfold aV;split
 ·rfl
 ·simp[ce]
theorem lq{h:ad}{b:Nat}{c:List Value}{t:TypeId}{o n:Nat}{vs:List Value}{a:Option Addr}{k:ad→Prop}(f:SRow h a n vs)(i:cu vs=true)(d:h[b]? =some (.cells c.toArray t (0,0)))
  (q:o+n≤c.length) (m:∀h',h'[b]? =some (.cells (c.take o++vs++c.drop (o+n)).toArray t (0,0))→Upd (· =b) h h'→k h'):
  ∃xs,SRow h a n xs∧sN h (some ⟨b,o,none⟩) 0 xs∧cu xs=true∧At (fI h (some ⟨b,o,none⟩) 0 xs) k:=by
 have g:=f.1;refine⟨vs,f,.inr ⟨_,rfl,fun j p=>?_⟩,i,bi ?_⟩
 ·rw[ce];exact iM d (by rw[cP];omega)
 ·have e:fI h (some ⟨b,o,none⟩) 0 vs=_:=jA vs h 0 o c d (by omega)
  rw[e];refine m _ ?_ (Upd.set h _ rfl);rw[jo d,jX,g]
theorem lH{h:ad}{b:Nat}{c:List Value}{t:TypeId}{o n:Nat}{vs:List Value}(d:h[b]? =some (.cells c.toArray t (0,0))) (f:vs.length=n) (a:(c.drop o).take n=vs):SRow h (some ⟨b,o,none⟩) n vs:=by
 refine⟨f,.inr ⟨_,rfl,pj d fun i v e=>?_⟩⟩
 rw[dM,←List.getElem?_drop];have:((c.drop o).take n)[i]? =some v:=by rw[a];exact e
 rw[List.getElem?_take]at this;split at this
 ·exact this
 ·cases this
section
variable {α:Type} {f:α→List Value} {sz:Nat}
theorem jU(a:∀x,(f x).length=sz∧0<sz)(xs:List α):(xs.flatMap f).length=xs.length*sz:=mw (fun x=>(a x).1) xs
theorem yY(xs:List α)(k:Nat):xs.flatMap f=(xs.take k).flatMap f++(xs.drop k).flatMap f:=by rw[←bW,bQ]
end
theorem Lc{α:Type}{A X B Z1 Z2:List α}{p q r:Nat}(b:A.length=p)(d:X.length=q)(c:Z1.length=r+q):
  (((A++Z1++Z2).take p++X++(A++Z1++Z2).drop (p+q)).take (p+q))++B++((A++Z1++Z2).take p++X++(A++Z1++Z2).drop (p+q)).drop (p+q+r)=A++(X++B)++Z2:=by
 have e1:(A++Z1++Z2).take p=A:=by rw[aK,cR b]
 have e2:(A++Z1++Z2).drop (p+q)=Z1.drop q++Z2:=by
  rw[aK,←cS,cD b,fH (by omega)]
 have a:(A++X).length=p+q:=by rw[ai];omega
 rw[e1,e2,cR a,←cS,cD a,fH (by rw[aS];omega),cS,lh (by omega),jE];simp only[aK]
theorem P2{α:Type}{A X B R:List α}{p q r:Nat}(b:A.length=p)(e:B.length=r)(d:q≤R.length):
  (((A++B++R).take (p+q)++B++(A++B++R).drop (p+q+r)).take p)++X++((A++B++R).take (p+q)++B++(A++B++R).drop (p+q+r)).drop (p+q)=A++(X++B)++R.drop q:=by
 have c:((A++B++R).take (p+q)).length=p+q:=by rw[aY,ai,ai];omega
 have a:(A++B++R).drop (p+q+r)=R.drop q:=by
  rw[show p+q+r=(p+r)+q by omega,←cS,cD (by rw[ai];omega)]
 have e1:((A++B++R).take (p+q)++(B++(A++B++R).drop (p+q+r))).take p=A:=by
  rw[fG (by omega),List.take_take,Nat.min_eq_left (by omega),aK,cR b]
 rw[aK ((A++B++R).take (p+q)),e1,cD c,a];simp only[aK]
theorem Qq{h:ad}{b:Nat}{c:List Value}{t o:TypeId}{d a sl i g:Nat}{xs:List Value}{z:Option (List Value)}{K:SliceV→ad→Prop}(f:h[b]? =some (.cells c.toArray t (0,0)))
  (q:sl*d+xs.length≤c.length) (m:sl+g≤i) (k:cu xs=true) (n:∀h',h'[b]? =some (.cells (c.take (sl*d)++xs++c.drop (sl*d+xs.length)).toArray t (0,0))→Upd (· =b) h h'→K ⟨some ⟨b,0,none⟩,sl+g,i⟩ h'):
  AppP z d a o (some ⟨b,0,none⟩) sl i g xs h K:=by
 refine⟨fun _=>⟨.inr ⟨_,rfl,fun j p=>?_⟩,k,?_⟩,fun h=>by omega⟩
 ·rw[ce];exact iM f (by rw[cP];omega)
 ·have e:fI h (some ⟨b,0,none⟩) (sl*d) xs=_:=jA xs h (sl*d) 0 c f (by omega)
  rw[e];refine n _ ?_ (Upd.set h _ rfl);rw[jo f,aP]
theorem FM{h:ad}{b:Nat}{c:List Value}{t:TypeId}{o:Nat}{vs:List Value}{k:ad→Prop}(a:h[b]? =some (.cells c.toArray t (0,0)))
  (g:o+vs.length≤c.length) (d:∀h',h'[b]? =some (.cells (c.take o++vs++c.drop (o+vs.length)).toArray t (0,0))→Upd (· =b) h h'→k h'):
  sN h (some ⟨b,o,none⟩) 0 vs∧At (fI h (some ⟨b,o,none⟩) 0 vs) k:=by
 refine⟨.inr ⟨_,rfl,fun j f=>?_⟩,bi ?_⟩
 ·rw[ce];exact iM a (by rw[cP];omega)
 ·have e:fI h (some ⟨b,o,none⟩) 0 vs=_:=jA vs h 0 o c a (by omega)
  rw[e];refine d _ ?_ (Upd.set h _ rfl);rw[jo a,jX]
end Go.Lift
namespace Go.Lift
open Go
structure KeyE(κ:Type) where
 enc:κ→Value
 ck:CK
 den:∀x,∃d:ck.den,enc x=ck.enc d
 same:∀x y,f9 (enc x) (enc y)=true↔x=y
def aaA(k:IntKind):KeyE Int:=⟨fun x=>.int k x,.int k,fun x=>⟨x,rfl⟩,fun x y=>by simp[f9]⟩
section
variable {κ β:Type}
structure Ent(κ β:Type) where
 k:κ
 v:β
 n:Nat
variable (E:KeyE κ) (g:β→Value)
def SF(x:Ent κ β):MapEntry:={key:=E.enc x.k,val:=g x.v,born:=x.n}
structure MapE(h:ad)(r:Nat)(ms:List (Ent κ β))(clock:Nat):Prop where
 here:h[r]? =some (.map (ms.map (SF E g)).toArray clock)
 keys:(ms.map (·.k)).Nodup
 nums:(ms.map (·.n)).Nodup
 old:∀x∈ms,x.n<clock
def plain(ms:List (Ent κ β)):List (κ×β):=ms.map fun x=>(x.k,x.v)
def MapAt(h:ad)(r:Nat)(m:List (κ×β)):Prop:=∃ms clock,MapE E g h r ms clock∧plain ms=m
variable {E g}
theorem MapE.keysOf{h:ad}{r:Nat}{ms:List (Ent κ β)}{a:Nat}(_:MapE E g h r ms a):keysOf E.ck (ms.map (SF E g)).toArray.toList:=by
 intro e b;simp only[fu]at b;obtain⟨x,_,rfl⟩:=b;exact E.den x.k
theorem MapAt.isMap{h:ad}{r:Nat}{m:List (κ×β)}(hm:MapAt E g h r m):za E.ck h r:=by
 obtain⟨ms,a,hm,_⟩:=hm;exact⟨_,_,hm.here,hm.keysOf⟩
theorem MapAt.len{h:ad}{r:Nat}{m:List (κ×β)}(hm:MapAt E g h r m):HL h (some r) m.length:=by
 obtain⟨ms,a,hm,rfl⟩:=hm;exact⟨_,_,hm.here,by simp[plain]⟩
theorem MapAt.nodup{h:ad}{r:Nat}{m:List (κ×β)}(hm:MapAt E g h r m):(m.map (·.1)).Nodup:=by
 obtain⟨ms,a,hm,rfl⟩:=hm;have:=hm.keys;unfold plain;rw[lg];exact this
theorem MapAt.lt{h:ad}{r:Nat}{m:List (κ×β)}(hm:MapAt E g h r m):r<h.size:=by
 obtain⟨ms,a,hm,_⟩:=hm;exact bB hm.here
theorem MapAt.upd{h h':ad}{r:Nat}{m:List (κ×β)}{M:Nat→Prop}(hm:MapAt E g h r m)(k:Upd M h h')(b:¬M r):MapAt E g h' r m:=by
 obtain⟨ms,a,hm,e⟩:=hm;exact⟨ms,a,⟨k.get hm.here b,hm.keys,hm.nums,hm.old⟩,e⟩
theorem MapAt.new(h:ad):MapAt E g (h.push (.map #[] 0)) h.size []:=
 ⟨[],0,⟨mo h _,pN,pN,fun _ h=>by cases h⟩,rfl⟩
variable [DecidableEq κ]
def dK:List (κ×β)→κ→Option β
 | [],_=>none
 |(k',v)::l,k=>if k=k' then some v else dK l k
def pD:List (κ×β)→κ→β→List (κ×β)
 | [],k,v=> [(k,v)]
 |(k',u)::l,k,v=>if k=k' then(k,v)::l else(k',u)::pD l k v
theorem Tm(l:List (κ×β))(k:κ)(v:β)(j:κ):dK (pD l k v) j=if j=k then some v else dK l j:=by
 induction l with
 |nil=>simp[pD,dK]
 |cons p l ih=>
  obtain⟨k',u⟩:=p;simp only[pD];split
  ·rename_i e;subst e;simp only[dK];split<;>rfl
  ·rename_i e
   simp only[dK,ih];by_cases a:j=k'
   ·subst a;simp[Ne.symm e]
   ·simp[a]
theorem Kk{l:List (κ×β)}{k:κ}{v:β}(a:(l.map (·.1)).Nodup):dK l k=some v↔(k,v)∈l:=by
 induction l with
 |nil=>simp[dK]
 |cons p l ih=>
  obtain⟨k',u⟩:=p;simp only[cN,lB]at a;simp only[dK,ar,Prod.mk.injEq];by_cases b:k=k'
  ·subst b
   simp only[if_true,bp.injEq,true_and];constructor
   ·exact fun e=>.inl e.symm
   ·rintro(e|e)
    ·exact e.symm
    ·exact absurd (fu.2 ⟨_,e,rfl⟩) a.1
  ·simp[b,ih a.2]
theorem qr{l:List (κ×β)}{k:κ}:dK l k=none↔k∉l.map (·.1):=by
 induction l with
 |nil=>simp[dK]
 |cons p l ih=>
  obtain⟨k',u⟩:=p;simp only[dK,cN,ar,not_or];by_cases a:k=k'
  ·simp[a]
  ·simp[a,ih]
theorem Kj(l:List (κ×β))(k:κ)(v:β):(pD l k v).map (·.1)=if k∈l.map (·.1)then l.map (·.1)else l.map (·.1)++ [k]:=by
 induction l with
 |nil=>simp[pD]
 |cons p l ih=>
  obtain⟨k',u⟩:=p;simp only[pD];by_cases a:k=k'
  ·simp[a]
  ·simp only[a,if_false,cN,ih,ar,false_or]
   split<;>simp
theorem Qp{l:List (κ×β)}{k:κ}{v:β}(h:(l.map (·.1)).Nodup):((pD l k v).map (·.1)).Nodup:=by
 rw[Kj];split
 ·exact h
 ·rename_i hn
  rw[List.nodup_append];refine⟨h,by simp,?_⟩
  intro a d b c;simp only[aQ]at c;subst c;intro e;subst e;exact hn d
theorem KH(x y:κ):f9 (E.enc x) (E.enc y)=decide (x=y):=by
 by_cases h:x=y
 ·rw[decide_eq_true h];exact(E.same x y).2 h
 ·rw[decide_eq_false h];exact Bool.eq_false_iff.2 fun e=>h ((E.same x y).1 e)
theorem Vd(k:κ)(ms:List (Ent κ β)):Hb (E.enc k) (ms.map (SF E g))=(dK (plain ms) k).map g:=by
 induction ms with
 |nil=>rfl
 |cons x ms ih=>
  simp only[cN,Hb,SF,plain,dK];rw[KH];by_cases h:k=x.k
  ·simp[h]
  ·simp only[h,decide_false,dy,if_false];exact ih
theorem MapAt.get{h:ad}{r:Nat}{m:List (κ×β)}(hm:MapAt E g h r m)(k:κ)(z:β):xq E.ck (g z) h (some r) (E.enc k) (g ((dK m k).getD z)) (dK m k).isSome:=by
 obtain⟨ms,a,hm,rfl⟩:=hm;refine⟨_,_,hm.here,hm.keysOf,?_⟩;rw[Vd];cases dK (plain ms) k<;>exact⟨rfl,rfl⟩
def yV(k:κ)(v:β)(a:Nat):List (Ent κ β)→List (Ent κ β)×Nat
 | []=>([⟨k,v,a⟩],a+1)
 |x::l=>if k=x.k then(⟨k,v,x.n⟩::l,a)else(x::(yV k v a l).1,(yV k v a l).2)
theorem WH(k:κ)(v:β)(a:Nat)(ms:List (Ent κ β)):KW (E.enc k) (g v) a (ms.map (SF E g))=((yV k v a ms).1.map (SF E g),(yV k v a ms).2):=by
 induction ms with
 |nil=>rfl
 |cons x ms ih=>
  simp only[cN,KW,yV];rw[ih,show(SF E g x).key=E.enc x.k from rfl,KH]
  by_cases h:k=x.k
  ·simp[h,SF]
  ·simp[h]
theorem Hm(k:κ)(v:β)(a:Nat)(ms:List (Ent κ β)):plain (yV k v a ms).1=pD (plain ms) k v:=by
 induction ms with
 |nil=>rfl
 |cons x ms ih=>
  simp only[yV,plain,cN,pD];by_cases h:k=x.k
  ·simp[h]
  ·simp only[h,if_false,cN,List.cons.injEq,true_and];exact ih
theorem Yl(k:κ)(v:β)(a:Nat)(ms:List (Ent κ β)):(yV k v a ms).1.map (·.n)=(if k∈ms.map (·.k)then ms.map (·.n)else ms.map (·.n)++ [a])∧(yV k v a ms).2=(if k∈ms.map (·.k)then a else a+1):=by
 induction ms with
 |nil=>exact⟨rfl,rfl⟩
 |cons x ms ih=>
  simp only[yV];by_cases h:k=x.k
  ·simp[h]
  ·simp only[h,if_false,cN,ih.1,ih.2,ar,false_or,and_true]
   split<;>simp
theorem WS{h:ad}{r:Nat}{ms:List (Ent κ β)}{a:Nat}(hm:MapE E g h r ms a)(k:κ)(v:β):mR h r (E.enc k) (g v)=h.setIfInBounds r (.map ((yV k v a ms).1.map (SF E g)).toArray (yV k v a ms).2):=by
 unfold mR;rw[hm.here];simp only;rw[WH]
theorem MapE.put{h:ad}{r:Nat}{ms:List (Ent κ β)}{c:Nat}(hm:MapE E g h r ms c)(k:κ)(v:β):MapE E g (mR h r (E.enc k) (g v)) r (yV k v c ms).1 (yV k v c ms).2:=by
 rw[WS hm];have m:(yV k v c ms).1.map (·.k)=(plain (yV k v c ms).1).map (·.1):=by unfold plain;rw[lg];rfl
 have i:(plain ms).map (·.1)=ms.map (·.k):=by unfold plain;rw[lg];rfl
 have e:=Yl k v c ms;have d:∀y∈ms.map (·.n),y<c:=fun y o=>by
  obtain⟨x,hx,rfl⟩:=fu.1 o;exact hm.old x hx
 refine⟨jo hm.here,?_,?_,?_⟩
 ·rw[m,Hm];exact Qp (by rw[i];exact hm.keys)
 ·rw[e.1]
  split
  ·exact hm.nums
  ·rw[List.nodup_append]
   refine⟨hm.nums,by simp,?_⟩
   intro a n b j;simp only[aQ]at j;have:=d a n;omega
 ·intro x hx
  have hx:x.n∈(yV k v c ms).1.map (·.n):=fu.2 ⟨x,hx,rfl⟩
  rw[e.1]at hx;rw[e.2];split
  ·rename_i hk;rw[if_pos hk]at hx;exact d _ hx
  ·rename_i hk
   rw[if_neg hk]at hx;rcases List.mem_append.1 hx with f|f
   ·have:=d _ f;omega
   ·simp only[aQ]at f;omega
theorem MapAt.put{h:ad}{r:Nat}{m:List (κ×β)}(hm:MapAt E g h r m)(k:κ)(v:β):MapAt E g (mR h r (E.enc k) (g v)) r (pD m k v):=by
 obtain⟨ms,a,hm,rfl⟩:=hm;exact⟨_,_,hm.put k v,Hm ..⟩
theorem vU{M:Nat→Prop}(h:ad){r:Nat}(k v:Value)(a:M r):Upd M h (mR h r k v):=by
 unfold mR;split
 ·exact Upd.set h _ a
 ·exact Upd.refl _ _
theorem Vj(k:κ){ms:List (Ent κ β)}(a:(ms.map (·.k)).Nodup):Ho (E.enc k) (ms.map (SF E g))=(ms.filter fun x=>x.k≠k).map (SF E g):=by
 induction ms with
 |nil=>rfl
 |cons x ms ih=>
  simp only[cN,lB]at a;simp only[cN,Ho,List.filter_cons];rw[show(SF E g x).key=E.enc x.k from rfl,KH]
  by_cases h:k=x.k
  ·subst h
   simp only[decide_true,if_true,ne_eq,not_true_eq_false,decide_false,dy,if_false];congr 1
   rw[kc.2];intro y b;simp only[decide_not,Bool.not_eq_eq_eq_not,Bool.not_true,decide_eq_false_iff_not];intro e;exact a.1 (e▸fu.2 ⟨y,b,rfl⟩)
  ·simp only[h,decide_false,dy,if_false,ne_eq,Ne.symm h,not_false_eq_true,decide_true,if_true,cN]
   rw[ih a.2]
theorem MapE.drop{h:ad}{r:Nat}{ms:List (Ent κ β)}{a:Nat}(hm:MapE E g h r ms a)(k:κ):MapE E g (GR h r (E.enc k)) r (ms.filter fun x=>x.k≠k) a:=by
 have e:GR h r (E.enc k)=h.setIfInBounds r (.map ((ms.filter fun x=>x.k≠k).map (SF E g)).toArray a):=by
  unfold GR;rw[hm.here];simp only;rw[Vj k hm.keys]
 rw[e];refine⟨jo hm.here,hm.keys.sublist ((ka).map _),hm.nums.sublist ((ka).map _),fun x hx=>hm.old x ((List.mem_filter.1 hx).1)⟩
end
section
variable {κ β:Type} (E:KeyE κ) (g:β→Value)
def IterSt(h:ad)(i r:Nat)(m a:List (κ×β)):Prop:=
 ∃ms clock since seen last,MapE E g h r ms clock∧plain ms=m∧h[i]? =some (.mapIter (some r) since seen last)∧a=plain (ms.filter fun x=> !seen.contains x.n)∧∀x∈ms,x.n<since∧x.n<last
variable {E g}
theorem IterSt.at{h:ad}{i r:Nat}{m b:List (κ×β)}(hi:IterSt E g h i r m b):MapAt E g h r m:=by
 obtain⟨ms,a,c,d,last,hm,e,_⟩:=hi;exact⟨ms,a,hm,e⟩
theorem IterSt.upd{h h':ad}{i r:Nat}{m a:List (κ×β)}{M:Nat→Prop}(hi:IterSt E g h i r m a)(k:Upd M h h')(n:¬M i)(o:¬M r):IterSt E g h' i r m a:=by
 obtain⟨ms,c,b,d,last,hm,p,f,j,e⟩:=hi;exact⟨ms,c,b,d,last,⟨k.get hm.here o,hm.keys,hm.nums,hm.old⟩,p,k.get f n,j,e⟩
theorem IterSt.ne{h:ad}{i r:Nat}{m a:List (κ×β)}(hi:IterSt E g h i r m a):i≠r:=by
 obtain⟨ms,c,b,f,last,hm,n,d,k,j⟩:=hi;intro e;subst e;rw[hm.here]at d;cases d
theorem IterSt.nodup{h:ad}{i r:Nat}{m a:List (κ×β)}(hi:IterSt E g h i r m a):(a.map (·.1)).Nodup:=by
 obtain⟨ms,c,b,d,last,hm,k,j,e,f⟩:=hi;rw[e];unfold plain;rw[lg];exact hm.keys.sublist ((ka).map _)
theorem MapAt.range{h:ad}{r:Nat}{m:List (κ×β)}(hm:MapAt E g h r m):∃a,(∃es,h[r]? =some (.map es a))∧IterSt E g (h.push (.mapIter (some r) a #[] a)) h.size r m m:=by
 obtain⟨ms,a,hm,b⟩:=hm;refine⟨a,⟨_,hm.here⟩,ms,a,a,#[],a,⟨(Upd.push No h _).get0 hm.here,hm.keys,hm.nums,hm.old⟩,b,mo h _,?_,fun x hx=>⟨hm.old x hx,hm.old x hx⟩⟩
 rw[show(fun x:Ent κ β=> !(#[]:Array Nat).contains x.n)=fun _=>true from funext fun x=>by simp,kc.2 fun _ _=>rfl,b]
variable [DecidableEq κ]
end
end Go.Lift
namespace Go.Lift
open Go
end Go.Lift
