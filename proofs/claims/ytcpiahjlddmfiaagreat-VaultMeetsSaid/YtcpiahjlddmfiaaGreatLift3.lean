/- A part of the proof that the named laws of this program answer true, whatever the input. -/
import Derived.Test.YtcpiahjlddmfiaaGreatLift2
open Array renaming getElem?_setIfInBounds→dX,getElem?_eq_some_iff→cy
open Bool renaming false_eq_true→df,eq_false_iff→jI
open List renaming flatMap_cons→aK,length_append→ad,length_cons→ao,getElem?_append_left→bN,getElem?_append_right→aU,getElem?_eq_some_iff→bf,length_take→aP,length_drop→aM,take_append_drop→bc,flatMap_append→bL,length_eq_zero_iff→aE,getElem?_toArray→je,length_nil→aS,size_toArray→cY,take_append_of_le_length→eW,drop_eq_nil_of_le→kQ,nil_append→dV,append_assoc→ax,take_left'→cF,drop_drop→cG,drop_left'→cj,drop_append_of_le_length→eX,mem_map→bG,map_map→iE,nodup_nil→pT,filter_cons→bl,map_cons→bK,nodup_cons→il,mem_cons→aq,mem_singleton→av,filter_eq_self→iw,filter_sublist→iu,mem_filter→ci,filter_filter→kO,filter_congr→lU
open Nat renaming lt_or_ge→cg,zero_add→aH,le_refl→al,lt_of_lt_of_le→aC,not_lt→oU,succ_mul→pO,add_zero→iA
open Option renaming some→bD
namespace Go.Lift
open Go
attribute [simp] ar ai
theorem aD{p:Prop}[Decidable p]{t e:Prop}(b:p→t)(a:¬p→e):CondP (decide p) t e:=CondP.intro (fun h=>b (of_decide_eq_true h)) (fun h=>a (of_decide_eq_false h))
theorem HC.mono{P:Program}{f:FuncId}{args:List Value}{ks:List Kind}{K g:vh ks→ac→Prop}{h:ac}(hc:HC P f args ks K h)(d:∀t h',K t h'→g t h'):HC P f args ks g h:=by
 refine⟨fun w i=>?_⟩
 rcases hc.run w i with⟨b,a⟩|⟨v,c,b,a,t,o,k⟩
 ·exact .inl ⟨b,a.mono fun e c ⟨m,t,j,n⟩=>⟨m,t,j,d t _ n⟩⟩
 ·exact .inr ⟨v,c,b,a,t,o,d t _ k⟩
theorem Join.intro{T:Type}{a:T→ac→Prop}{k:(T→ac→Prop)→Prop}(J:T→ac→Prop)(b:∀R:T→ac→Prop,(∀t h,J t h→R t h)→k R)(c:∀t h,J t h→a t h):Join a k:=⟨b a c⟩
theorem Join.plain{T:Type}{a:T→ac→Prop}{k:(T→ac→Prop)→Prop}(h:k a):Join a k:=⟨h⟩
theorem LoopP.intro{T:Type}{F:(T→ac→Prop)→T→ac→Prop}{t:T}{h:ac}(Inv:T→ac→Prop)(m:T→ac→Nat)(f:Inv t h)
  (step:∀I:T→ac→Prop,∀t h,Inv t h→(∀a h',Inv a h'→m a h'<m t h→I a h')→F I t h):LoopP F t h:=by
 refine⟨fun I d=>?_⟩
 have key:∀n t h,m t h=n→Inv t h→I t h:=by
  intro n;induction n using Nat.strongRecOn with
  |_ n ih=>exact fun t h e hi=>d t h (step I t h hi fun a h' c b=>ih _ (e▸b) a h' rfl c)
 exact key _ t h rfl f
theorem LoopP.ghost{T G:Type}{F:(T→ac→Prop)→T→ac→Prop}{t:T}{h:ac}(Inv:G→T→ac→Prop)(m:G→Nat)(g:G)(i:Inv g t h)
  (step:∀I:T→ac→Prop,∀g t h,Inv g t h→(∀a b h',Inv a b h'→m a<m g→I b h')→F I t h):LoopP F t h:=by
 refine⟨fun I e=>?_⟩
 have key:∀n g t h,m g=n→Inv g t h→I t h:=by
  intro n;induction n using Nat.strongRecOn with
  |_ n ih=>exact fun g t h f hi=>e t h (step I g t h hi fun a b h' d c=>ih _ (f▸c) a b h' rfl d)
 exact key _ g t h rfl i
theorem HV.mk'{P:Program}{f:FuncId}{first cap:Array Value}{args:List Value}{ks:List Kind}{K:vh ks→ac→Prop}{h:ac}(hc:HC P f (first.toList++args++cap.toList) ks K h):HV P (.func (.func f) first cap) args ks K h:=
 ⟨.inl ⟨f,first,cap,rfl,hc⟩⟩
@[simp] theorem bW(b o n:Nat):adr ⟨b,o,none⟩ n=⟨b,o+n,none⟩:=by
 cases n<;>rfl
@[simp] theorem Cx(a:Addr)(n:Nat):(adr a n).block=a.block:=by
 cases n<;>rfl
theorem cr(h:ac):aO h=⟨h.size,0,none⟩:=rfl
theorem Ko{h:ac}{a:Addr}{v:Value}(b:aI h a=some v):a.block<h.size:=by
 unfold aI at b;rcases cg a.block h.size with c|c
 ·exact c
 ·rw[Array.getElem?_eq_none c]at b;cases b
theorem aL{h:ac}{b i:Nat}{c:Array Value}{e:TypeId}{fr:Nat×Nat}(a:h[b]? =some (.cells c e fr)):aI h ⟨b,i,none⟩=c[i]?:=by
 unfold aI;rw[a];rfl
theorem Mh{h h':ac}{c:Array Value}{e:TypeId}{fr:Nat×Nat}(a:h'[h.size]? =some (.cells c e fr)) (i:Nat):aI h' (adr (aO h) i)=c[i]?:=by
 rw[cr,bW,aL a,aH]
theorem Mg{h h':ac}{a:Addr}(b:h'[a.block]? =h[a.block]?):aI h' a=aI h a:=by
 unfold aI;rw[b]
theorem qP{h:ac}{b i:Nat}{c:Array Value}{e:TypeId}{fr:Nat×Nat}{v:Value}(f:h[b]? =some (.cells c e fr)):
  hset h ⟨b,i,none⟩ v=h.setIfInBounds b (.cells (c.setIfInBounds i v) e fr):=by
 unfold hset;apply Array.ext_getElem?;intro j;rw[Array.getElem?_modify,dX];by_cases d:b=j
 ·subst d
  have a:=(cy.1 f).1;simp only[f,if_true,a,Option.map_some];rfl
 ·simp[d]
theorem gn{h:ac}{b i:Nat}{c:Array Value}{e:TypeId}(a:h[b]? =some (.cells c e (0,0))) (hi:i<c.size):Wr h ⟨b,i,none⟩:=by
 refine⟨⟨c[i],by rw[aL a,Array.getElem?_eq_getElem hi]⟩,?_⟩
 unfold Eg;rw[a];simp
structure Upd(M:Nat→Prop)(h h':ac):Prop where
 size:h.size≤h'.size
 same:∀b,b<h.size→¬M b→h'[b]? =h[b]?
abbrev No:Nat→Prop:=fun _=>False
theorem Upd.refl(M:Nat→Prop)(h:ac):Upd M h h:=⟨al _,fun _ _ _=>rfl⟩
theorem Upd.trans{M M':Nat→Prop}{h f d:ac}(k:Upd M h f)(l:Upd M' f d)(g:∀b,M' b→M b∨h.size≤b):Upd M h d:=
 ⟨Nat.le_trans k.size l.size,fun b c e=>by
  rw[l.same b (aC c k.size) (fun hm=>(g b hm).elim e fun a=>absurd c (oU.2 a)),k.same b c e]⟩
theorem Upd.tr{M:Nat→Prop}{h b a:ac}(k:Upd M h b)(l:Upd M b a):Upd M h a:=k.trans l fun _ h=>.inl h
theorem Upd.mono{M M':Nat→Prop}{h h':ac}(k:Upd M h h')(e:∀b,M b→M' b∨h.size≤b):Upd M' h h':=
 ⟨k.size,fun b c d=>k.same b c fun hm=>(e b hm).elim d fun a=>absurd c (oU.2 a)⟩
theorem Upd.wide{M:Nat→Prop}{h h':ac}(k:Upd No h h'):Upd M h h':=k.mono fun _ h=>h.elim
theorem Upd.get{M:Nat→Prop}{h h':ac}(k:Upd M h h'){b:Nat}{o:Obj}(a:h[b]? =some o) (c:¬M b):h'[b]? =some o:=by
 rw[k.same b (cy.1 a).1 c,a]
theorem Upd.get0{h h':ac}(k:Upd No h h'){b:Nat}{o:Obj}(a:h[b]? =some o):h'[b]? =some o:=k.get a id
theorem Upd.cell{M:Nat→Prop}{h h':ac}(k:Upd M h h'){a:Addr}{v:Value}(b:aI h a=some v)(c:¬M a.block):aI h' a=some v:=by
 rw[Mg (k.same _ (Ko b) c),b]
theorem Upd.push(M:Nat→Prop)(h:ac)(o:Obj):Upd M h (h.push o):=⟨by simp,fun b a _=>by rw[Array.getElem?_push];simp[Nat.ne_of_lt a]⟩
theorem Upd.set{M:Nat→Prop}(h:ac){b:Nat}(o:Obj)(d:M b):Upd M h (h.setIfInBounds b o):=⟨by simp,fun c _ a=>by
 rw[dX]
 have:b≠c:=fun e=>a (e▸d)
 simp[this]⟩
theorem Upd.hset{M:Nat→Prop}(h:ac){a:Addr}(v:Value)(d:M a.block):Upd M h (hset h a v):=⟨by simp[Go.Lift.hset],fun c _ b=>by
 unfold Go.Lift.hset
 rw[Array.getElem?_modify]
 have:a.block≠c:=fun e=>b (e▸d)
 simp[this]⟩
theorem Upd.hnew(M:Nat→Prop)(h:ac)(cs:List Value)(t:TypeId):Upd M h (hnew h cs t):=Upd.push M h _
theorem bE(h:ac)(cs:List Value)(t:TypeId):(hnew h cs t)[h.size]? =some (.cells cs.toArray t (0,0)):=by
 unfold hnew;simp
theorem sD(h:ac)(o:Obj):(h.push o)[h.size]? =some o:=by simp
theorem gt(h:ac)(cs:List Value)(t:TypeId):(hnew h cs t).size=h.size+1:=by
 unfold hnew;simp
theorem fF{h:ac}{b:Nat}{o c:Obj}(a:h[b]? =some c):(h.setIfInBounds b o)[b]? =some o:=by
 rw[dX];simp[(cy.1 a).1]
theorem bo{h:ac}{b:Nat}{o:Obj}(a:h[b]? =some o):b<h.size:=(cy.1 a).1
theorem Row.upd{M:Nat→Prop}{h h':ac}{a:Addr}{vs:List Value}(c:Row h a vs)(k:Upd M h h')(b:¬M a.block):Row h' a vs:=fun i v d=>k.cell (c i v d) (by rw[Cx];exact b)
theorem SRow.upd{M:Nat→Prop}{h h':ac}{a:Option Addr}{n:Nat}{vs:List Value}(c:SRow h a n vs)(k:Upd M h h')(g:vs≠[]→∀b,a=some b→¬M b.block):SRow h' a n vs:=by
 obtain⟨i,f⟩:=c;refine⟨i,?_⟩;rcases f with rfl|⟨b,d,c⟩
 ·exact .inl rfl
 ·by_cases e:vs= []
  ·exact .inl e
  ·exact .inr ⟨b,d,c.upd k (g e b d)⟩
theorem rZ{h:ac}{b o:Nat}{c:Array Value}{e:TypeId}{fr:Nat×Nat}(d:h[b]? =some (.cells c e fr)) {vs:List Value} (a:∀i v,vs[i]? =some v→c[o+i]? =some v):Row h ⟨b,o,none⟩ vs:=fun i v hi=>by
 rw[bW,aL d];exact a i v hi
structure Sl{α:Type}(f:α→List Value)(sz:Nat)(W:Nat→Prop)(h:ac)(s:SliceV)(xs:List α):Prop where
 len:s.len=xs.length
 ne:∀x,(f x).length=sz∧0<sz
 row:xs≠[]→∃a,s.a=some a∧¬W a.block∧Row h a (xs.flatMap f)
theorem Sl.nil{α:Type}{f:α→List Value}{b:Nat}{W:Nat→Prop}{h:ac}{a:Option Addr}{c:Nat}(d:∀x,(f x).length=b∧0<b):Sl f b W h ⟨a,0,c⟩ []:=⟨rfl,d,fun h=>absurd rfl h⟩
theorem Sl.lt{α:Type}{f:α→List Value}{i:Nat}{W:Nat→Prop}{h:ac}{s:SliceV}{xs:List α}(c:Sl f i W h s xs)(hx:xs≠[]){a:Addr}(e:s.a=some a):a.block<h.size:=by
 obtain⟨a',b,j,g⟩:=c.row hx;rw[e]at b;cases b;cases xs with
 |nil=>exact absurd rfl hx
 |cons x xs=>
  have d:=c.ne x;cases hf:f x with
  |nil=>rw[hf]at d;simp at d;omega
  |cons v vs=>
   have:=g 0 v (by rw[aK,hf];rfl);have:=Ko this;rw[Cx]at this;exact this
theorem Sl.upd{α:Type}{f:α→List Value}{i:Nat}{W M:Nat→Prop}{h h':ac}{s:SliceV}{xs:List α}(c:Sl f i W h s xs)(k:Upd M h h')(hm:∀b,M b→W b∨h.size≤b):Sl f i W h' s xs:=by
 refine⟨c.len,c.ne,fun hx=>?_⟩
 obtain⟨a,e,g,j⟩:=c.row hx;exact⟨a,e,g,j.upd k fun m=>(hm _ m).elim g fun d=>absurd (c.lt hx e) (oU.2 d)⟩
theorem Sl.less{α:Type}{f:α→List Value}{g:Nat}{W W':Nat→Prop}{h:ac}{s:SliceV}{xs:List α}(c:Sl f g W h s xs)(hm:∀b,W' b→W b∨h.size≤b):Sl f g W' h s xs:=
 ⟨c.len,c.ne,fun hx=>let⟨a,e,j,i⟩:=c.row hx;⟨a,e,fun k=>(hm _ k).elim j fun d=>absurd (c.lt hx e) (oU.2 d),i⟩⟩
theorem mh{α:Type}{f:α→List Value}{b:Nat}(a:∀x,(f x).length=b):∀xs:List α,(xs.flatMap f).length=xs.length*b
 | []=>by simp
 |x::xs=>by rw[aK,ad,a,mh a xs,ao,pO];omega
theorem xA{α:Type}{f:α→List Value}{b:Nat}(a:∀x,(f x).length=b):∀(xs:List α) (i j:Nat) (x:α),xs[i]? =some x→j<b→(xs.flatMap f)[i*b+j]? =(f x)[j]?
 | [],i,j,x,h,_=>by simp at h
 |y::xs,0,j,x,h,hj=>by
  simp only[List.getElem?_cons_zero,bD.injEq]at h;subst h;rw[aK,Nat.zero_mul,aH,bN (by rw[a];exact hj)]
 |y::xs,i+1,j,x,h,hj=>by
  rw[List.getElem?_cons_succ]at h;rw[aK,aU (by rw[a,pO];omega),a,show(i+1)*b+j-b=i*b+j by rw[pO];omega]
  exact xA a xs i j x h hj
theorem Sl.at{α:Type}{f:α→List Value}{c:Nat}{W:Nat→Prop}{h:ac}{s:SliceV}{xs:List α}(b:Sl f c W h s xs){i:Nat}{x:α}(hi:xs[i]? =some x):
  ∃a,s.a=some a∧¬W a.block∧∀j v,(f x)[j]? =some v→aI h (adr (adr a (i*c)) j)=some v:=by
 obtain⟨a,g,m,k⟩:=b.row (fun e=>by subst e;simp at hi)
 refine⟨a,g,m,fun j v d=>?_⟩
 have n:j<c:=by rw[←(b.ne x).1];exact(bf.1 d).1
 rw[AY];exact k _ v (by rw[xA (fun x=>(b.ne x).1) xs i j x hi n];exact d)
theorem Sl.at0{α:Type}{g:α→Value}{W:Nat→Prop}{h:ac}{s:SliceV}{xs:List α}(d:Sl (fun x=> [g x]) 1 W h s xs){i:Nat}{x:α}(hi:xs[i]? =some x):
  ∃a,s.a=some a∧¬W a.block∧aI h (adr a (i*1))=some (g x):=by
 obtain⟨a,b,c,e⟩:=d.at hi;exact⟨a,b,c,e 0 _ rfl⟩
theorem Sl.srow{α:Type}{f:α→List Value}{c:Nat}{W:Nat→Prop}{h:ac}{s:SliceV}{xs:List α}(b:Sl f c W h s xs):SRow h s.a (s.len*c) (xs.flatMap f):=by
 refine⟨?_,?_⟩
 ·rw[b.len,mh fun x=>(b.ne x).1]
 ·by_cases hx:xs= []
  ·subst hx;exact .inl rfl
  ·obtain⟨a,d,_,e⟩:=b.row hx
   exact .inr ⟨a,d,e⟩
theorem Sl.sub{α:Type}{f:α→List Value}{b:Nat}{W:Nat→Prop}{h:ac}{s:SliceV}{xs:List α}(d:Sl f b W h s xs){l hi m c:Nat}(u:l≤hi)(g:hi≤xs.length)(t:hi≤m):
  Sl f b W h ⟨aJ s.a l m b,hi-l,c⟩ ((xs.drop l).take (hi-l)):=by
 refine⟨by simp only[aP,aM];omega,d.ne,fun hx=>?_⟩
 have k:l<hi:=by
  rcases cg l hi with h|h
  ·exact h
  ·rw[Nat.sub_eq_zero_of_le h]at hx;exact absurd List.take_zero hx
 obtain⟨a,n,q,p⟩:=d.row (fun e=>by rw[e]at g;simp at g;omega)
 refine⟨adr a (l*b),?_,by rw[Cx];exact q,fun i v j=>?_⟩
 ·unfold aJ
  rw[if_neg (by omega),n];rfl
 ·rw[AY]
  refine p _ v ?_;have e:xs=xs.take l++((xs.drop l).take (hi-l)++(xs.drop l).drop (hi-l)):=by rw[bc,bc]
  rw[e,bL,bL];have o:((xs.take l).flatMap f).length=l*b:=by rw[mh fun x=>(d.ne x).1,aP];congr 1;omega
  rw[aU (by omega),o,Nat.add_sub_cancel_left,bN (bf.1 j).1];exact j
structure OwnS{α:Type}(f:α→List Value)(sz:Nat)(t:TypeId)(M:Nat→Prop)(h:ac)(s:SliceV)(xs:List α):Prop where
 len:s.len=xs.length
 ne:∀x,(f x).length=sz∧0<sz
 cap:s.len≤s.cap
 blk:s.cap=0∨∃b rest,s.a=some ⟨b,0,none⟩∧M b∧h[b]? =some (.cells (xs.flatMap f++rest).toArray t (0,0))∧rest.length=(s.cap-s.len)*sz
theorem OwnS.nil{α:Type}{f:α→List Value}{b:Nat}{t:TypeId}{M:Nat→Prop}{h:ac}{a:Option Addr}(c:∀x,(f x).length=b∧0<b):OwnS f b t M h ⟨a,0,0⟩ []:=⟨rfl,c,al _,.inl rfl⟩
theorem OwnS.sl{α:Type}{f:α→List Value}{e:Nat}{t:TypeId}{M W:Nat→Prop}{h:ac}{s:SliceV}{xs:List α}(a:OwnS f e t M h s xs)(hm:∀b,M b→b<h.size→¬W b):Sl f e W h s xs:=by
 refine⟨a.len,a.ne,fun hx=>?_⟩
 rcases a.blk with k|⟨b,d,g,j,hc,_⟩
 ·have:=a.len;have:=a.cap
  have:xs.length=0:=by omega
  exact absurd (aE.1 this) hx
 ·exact⟨_,g,hm b j (bo hc),rZ hc fun i v c=>by
   rw[aH,je,bN (bf.1 c).1];exact c⟩
theorem OwnS.upd{α:Type}{f:α→List Value}{e:Nat}{t:TypeId}{M M':Nat→Prop}{h h':ac}{s:SliceV}{xs:List α}(c:OwnS f e t M h s xs)(k:Upd M' h h')(hm:∀b,M b→¬M' b):OwnS f e t M h' s xs:=by
 refine⟨c.len,c.ne,c.cap,c.blk.imp id fun⟨b,a,g,d,hc,i⟩=>⟨b,a,g,d,k.get hc (hm b d),i⟩⟩
theorem OwnS.more{α:Type}{f:α→List Value}{d:Nat}{t:TypeId}{M M':Nat→Prop}{h:ac}{s:SliceV}{xs:List α}(c:OwnS f d t M h s xs)(hm:∀b,M b→M' b):OwnS f d t M' h s xs:=by
 refine⟨c.len,c.ne,c.cap,c.blk.imp id fun⟨b,a,e,i,hc,g⟩=>⟨b,a,e,hm b i,hc,g⟩⟩
theorem OwnS.within{α:Type}{f:α→List Value}{d:Nat}{t:TypeId}{M:Nat→Prop}{h:ac}{s:SliceV}{xs:List α}(c:OwnS f d t M h s xs):OwnS f d t (fun b=>M b∧b<h.size) h s xs:=by
 refine⟨c.len,c.ne,c.cap,c.blk.imp id fun⟨b,a,e,i,hc,g⟩=>⟨b,a,e,⟨i,bo hc⟩,hc,g⟩⟩
theorem jo{b:Nat}{t:TypeId}:∀(vs:List Value) (h:ac) (i o:Nat) (c:List Value),h[b]? =some (.cells c.toArray t (0,0))→o+i+vs.length≤c.length→
  hH h ⟨b,o,none⟩ i vs=h.setIfInBounds b (.cells (c.take (o+i)++vs++c.drop (o+i+vs.length)).toArray t (0,0))
 | [],h,i,o,c,hb,hl=>by
  simp only[hH,List.append_nil,aS,iA,bc];apply Array.ext_getElem?;intro j;rw[dX];split
  ·rename_i e;subst e;rw[hb];simp[bo hb]
  ·rfl
 |v::vs,h,i,o,c,hb,hl=>by
  rw[ao]at hl;simp only[hH];rw[bW,qP hb];have a:(h.setIfInBounds b (.cells (c.toArray.setIfInBounds (o+i) v) t (0,0)))[b]? =some (.cells (c.set (o+i) v).toArray t (0,0)):=by
   rw[fF hb];simp
  rw[jo vs _ (i+1) o (c.set (o+i) v) a (by simp;omega)];have e:∀(x y:Obj),(h.setIfInBounds b x).setIfInBounds b y=h.setIfInBounds b y:=fun x y=>by
   apply Array.ext_getElem?;intro j;simp only[dX,Array.size_setIfInBounds];split<;>rfl
  rw[e];congr 3
  apply List.ext_getElem?;intro j;simp only[List.getElem?_append,ad,aP,List.length_set,ao,List.getElem?_take,List.getElem?_set,List.getElem?_drop];grind
theorem lZ(n:Nat)(z:List Value):(dq n z).length=n*z.length:=by
 unfold dq;induction n with
 |zero=>simp
 |succ n ih=>rw[List.replicate_succ,List.flatten_cons,ad,ih,pO];omega
theorem AppP.own{α:Type}{f:α→List Value}{g i:Nat}{t:TypeId}{M:Nat→Prop}{h:ac}{d:Option Addr}{sl m O:Nat}{xs ys:List α}{n z:List Value}{K:SliceV→ac→Prop}
  (o:OwnS f g t M h ⟨d,sl,m⟩ xs)(k:O=ys.length)(F:n=ys.flatMap f)(y:ce n=true)(T:z.length=g)(S:0<i)(p:(xs.length+ys.length)*i≤140737488355328)(V:M h.size)
  (I:∀s' h',OwnS f g t M h' s' (xs++ys)→Upd M h h'→K s' h'):AppP (some z) g i t d sl m O n h K:=by
 have a:sl=xs.length:=o.len;have u:∀x,(f x).length=g:=fun x=>(o.ne x).1
 subst k F;have w:=mh u ys;have k:=mh u xs;refine⟨fun A=>?_,fun s=>?_⟩
 ·rcases o.blk with D|⟨b,c,C,v,hc,B⟩
  ·have D:m=0:=D
   have L:ys.length=0:=by omega
   have H:xs.length=0:=by omega
   have Q:=aE.1 L;have hx:=aE.1 H;subst Q hx;refine⟨.inl rfl,rfl,?_⟩;have e:fc h d (sl*g) (([]:List α).flatMap f)=h:=by cases d<;>rfl
   rw[e];exact I _ _ ⟨by simp[a],o.ne,by simp only[aS];omega,.inl D⟩ (Upd.refl _ _)
  ·have C:d=some ⟨b,0,none⟩:=C
   have B:c.length=(m-sl)*g:=B;subst C;have N:sl+ys.length≤m:=A;have U:ys.length*g≤c.length:=by rw[B];exact Nat.mul_le_mul_right _ (Nat.le_sub_of_add_le (show ys.length+sl≤m by omega))
   have q:0+sl*g+(ys.flatMap f).length≤(xs.flatMap f++c).length:=by
    rw[ad,k,w,a];omega
   refine⟨.inr ⟨_,rfl,fun j X=>?_⟩,y,?_⟩
   ·rw[bW]
    refine gn hc ?_;rw[cY];omega
   ·have e:fc h (some ⟨b,0,none⟩) (sl*g) (ys.flatMap f)=_:=jo (ys.flatMap f) h (sl*g) 0 _ hc q
    rw[e];have J:(xs.flatMap f++c).take (0+sl*g)=xs.flatMap f:=by
     rw[aH,a,←k,eW (al _),List.take_length]
    have G:(xs.flatMap f++c).drop (0+sl*g+(ys.flatMap f).length)=c.drop (ys.length*g):=by
     rw[aH,a,←k,List.drop_append,kQ (by omega),dV,w];congr 1;omega
    rw[J,G];refine I _ _ ⟨by simp[a],o.ne,A,.inr ⟨b,c.drop (ys.length*g),rfl,v,?_,?_⟩⟩ (Upd.set h _ v)
    ·rw[fF hc,bL]
    ·rw[aM,B]
     simp only;rw[show m-(sl+ys.length)=(m-sl)-ys.length by omega,Nat.sub_mul (m-sl)]
 ·have P:m*1≤m:=by omega
  refine⟨xs.flatMap f,z,?_,rfl,S,Go.growslice_fits s (by rw[a];exact p),fun R E=>?_⟩
  ·exact(o.sl (W:=No) fun _ _ _=>id).srow
  ·refine I _ _ ⟨by simp[a],o.ne,E,.inr ⟨h.size,dq (R-(sl+ys.length)) z,rfl,V,?_,?_⟩⟩ (Upd.hnew M h _ _)
   ·rw[bE,bL]
   ·rw[lZ,T]
end Go.Lift
namespace Go.Lift
open Go
theorem bw{h:ac}{k:ac→Prop}(a:k h):At h k:=a
theorem ji{b o l m a:Nat}(h:m≠l):aJ (some ⟨b,o,none⟩) l m a=some ⟨b,o+l*a,none⟩:=by simp[aJ,h,bW]
theorem sub_zero{b m a:Nat}:aJ (some ⟨b,0,none⟩) 0 m a=some ⟨b,0,none⟩:=by
 unfold aJ;split
 ·rfl
 ·simp[bW]
theorem kU{h:ac}{b:Nat}{c:List Value}{t:TypeId}{o n:Nat}{vs:List Value}{a:Option Addr}{k:ac→Prop}(f:SRow h a n vs)(m:ce vs=true)(d:h[b]? =some (.cells c.toArray t (0,0)))
  (p:o+n≤c.length) (i:∀h',h'[b]? =some (.cells (c.take o++vs++c.drop (o+n)).toArray t (0,0))→Upd (· =b) h h'→k h'):
  ∃xs,SRow h a n xs∧sw h (some ⟨b,o,none⟩) 0 xs∧ce xs=true∧At (fc h (some ⟨b,o,none⟩) 0 xs) k:=by
 have g:=f.1;refine⟨vs,f,.inr ⟨_,rfl,fun j q=>?_⟩,m,bw ?_⟩
 ·rw[bW];exact gn d (by rw[cY];omega)
 ·have e:fc h (some ⟨b,o,none⟩) 0 vs=_:=jo vs h 0 o c d (by omega)
  rw[e];refine i _ ?_ (Upd.set h _ rfl);rw[fF d,iA,g]
theorem lx{h:ac}{b:Nat}{c:List Value}{t:TypeId}{o n:Nat}{vs:List Value}(e:h[b]? =some (.cells c.toArray t (0,0))) (d:vs.length=n) (f:(c.drop o).take n=vs):SRow h (some ⟨b,o,none⟩) n vs:=by
 refine⟨d,.inr ⟨_,rfl,rZ e fun i v a=>?_⟩⟩
 rw[je,←List.getElem?_drop];have:((c.drop o).take n)[i]? =some v:=by rw[f];exact a
 rw[List.getElem?_take]at this;split at this
 ·exact this
 ·cases this
section
variable {α:Type} {f:α→List Value} {sz:Nat}
theorem jC(a:∀x,(f x).length=sz∧0<sz)(xs:List α):(xs.flatMap f).length=xs.length*sz:=mh (fun x=>(a x).1) xs
theorem xM(xs:List α)(k:Nat):xs.flatMap f=(xs.take k).flatMap f++(xs.drop k).flatMap f:=by rw[←bL,bc]
end
theorem Ir{α:Type}{A X B Z1 Z2:List α}{p q r:Nat}(b:A.length=p)(f:X.length=q)(e:Z1.length=r+q):
  (((A++Z1++Z2).take p++X++(A++Z1++Z2).drop (p+q)).take (p+q))++B++((A++Z1++Z2).take p++X++(A++Z1++Z2).drop (p+q)).drop (p+q+r)=A++(X++B)++Z2:=by
 have c:(A++Z1++Z2).take p=A:=by rw[ax,cF b]
 have d:(A++Z1++Z2).drop (p+q)=Z1.drop q++Z2:=by
  rw[ax,←cG,cj b,eX (by omega)]
 have a:(A++X).length=p+q:=by rw[ad];omega
 rw[c,d,cF a,←cG,cj a,eX (by rw[aM];omega),cG,kQ (by omega),dV];simp only[ax]
theorem Md{α:Type}{A X B R:List α}{p q r:Nat}(c:A.length=p)(f:B.length=r)(e:q≤R.length):
  (((A++B++R).take (p+q)++B++(A++B++R).drop (p+q+r)).take p)++X++((A++B++R).take (p+q)++B++(A++B++R).drop (p+q+r)).drop (p+q)=A++(X++B)++R.drop q:=by
 have a:((A++B++R).take (p+q)).length=p+q:=by rw[aP,ad,ad];omega
 have b:(A++B++R).drop (p+q+r)=R.drop q:=by
  rw[show p+q+r=(p+r)+q by omega,←cG,cj (by rw[ad];omega)]
 have d:((A++B++R).take (p+q)++(B++(A++B++R).drop (p+q+r))).take p=A:=by
  rw[eW (by omega),List.take_take,Nat.min_eq_left (by omega),ax,cF c]
 rw[ax ((A++B++R).take (p+q)),d,cj a,b];simp only[ax]
theorem MB{h:ac}{b:Nat}{c:List Value}{t n:TypeId}{d a sl f g:Nat}{xs:List Value}{z:Option (List Value)}{K:SliceV→ac→Prop}(i:h[b]? =some (.cells c.toArray t (0,0)))
  (p:sl*d+xs.length≤c.length) (m:sl+g≤f) (k:ce xs=true) (o:∀h',h'[b]? =some (.cells (c.take (sl*d)++xs++c.drop (sl*d+xs.length)).toArray t (0,0))→Upd (· =b) h h'→K ⟨some ⟨b,0,none⟩,sl+g,f⟩ h'):
  AppP z d a n (some ⟨b,0,none⟩) sl f g xs h K:=by
 refine⟨fun _=>⟨.inr ⟨_,rfl,fun j q=>?_⟩,k,?_⟩,fun h=>by omega⟩
 ·rw[bW];exact gn i (by rw[cY];omega)
 ·have e:fc h (some ⟨b,0,none⟩) (sl*d) xs=_:=jo xs h (sl*d) 0 c i (by omega)
  rw[e];refine o _ ?_ (Upd.set h _ rfl);rw[fF i,aH]
theorem D8{h:ac}{b:Nat}{c:List Value}{t:TypeId}{o:Nat}{vs:List Value}{k:ac→Prop}(a:h[b]? =some (.cells c.toArray t (0,0)))
  (g:o+vs.length≤c.length) (d:∀h',h'[b]? =some (.cells (c.take o++vs++c.drop (o+vs.length)).toArray t (0,0))→Upd (· =b) h h'→k h'):
  sw h (some ⟨b,o,none⟩) 0 vs∧At (fc h (some ⟨b,o,none⟩) 0 vs) k:=by
 refine⟨.inr ⟨_,rfl,fun j f=>?_⟩,bw ?_⟩
 ·rw[bW];exact gn a (by rw[cY];omega)
 ·have e:fc h (some ⟨b,o,none⟩) 0 vs=_:=jo vs h 0 o c a (by omega)
  rw[e];refine d _ ?_ (Upd.set h _ rfl);rw[fF a,iA]
end Go.Lift
namespace Go.Lift
open Go
structure KeyE(κ:Type) where
 enc:κ→Value
 ck:CK
 den:∀x,∃d:ck.den,enc x=ck.enc d
 same:∀x y,fG (enc x) (enc y)=true↔x=y
def Vv(k:IntKind):KeyE Int:=⟨fun x=>.int k x,.int k,fun x=>⟨x,rfl⟩,fun x y=>by simp[fG]⟩
section
variable {κ β:Type}
structure Ent(κ β:Type) where
 k:κ
 v:β
 n:Nat
variable (E:KeyE κ) (g:β→Value)
def B9(x:Ent κ β):MapEntry:={key:=E.enc x.k,val:=g x.v,born:=x.n}
structure MapE(h:ac)(r:Nat)(ms:List (Ent κ β))(clock:Nat):Prop where
 here:h[r]? =some (.map (ms.map (B9 E g)).toArray clock)
 keys:(ms.map (·.k)).Nodup
 nums:(ms.map (·.n)).Nodup
 old:∀x∈ms,x.n<clock
def plain(ms:List (Ent κ β)):List (κ×β):=ms.map fun x=>(x.k,x.v)
def MapAt(h:ac)(r:Nat)(m:List (κ×β)):Prop:=∃ms clock,MapE E g h r ms clock∧plain ms=m
variable {E g}
theorem MapE.keysOf{h:ac}{r:Nat}{ms:List (Ent κ β)}{a:Nat}(_:MapE E g h r ms a):keysOf E.ck (ms.map (B9 E g)).toArray.toList:=by
 intro e b;simp only[bG]at b;obtain⟨x,_,rfl⟩:=b;exact E.den x.k
theorem MapAt.isMap{h:ac}{r:Nat}{m:List (κ×β)}(hm:MapAt E g h r m):wP E.ck h r:=by
 obtain⟨ms,a,hm,_⟩:=hm;exact⟨_,_,hm.here,hm.keysOf⟩
theorem MapAt.len{h:ac}{r:Nat}{m:List (κ×β)}(hm:MapAt E g h r m):Cy h (some r) m.length:=by
 obtain⟨ms,a,hm,rfl⟩:=hm;exact⟨_,_,hm.here,by simp[plain]⟩
theorem MapAt.nodup{h:ac}{r:Nat}{m:List (κ×β)}(hm:MapAt E g h r m):(m.map (·.1)).Nodup:=by
 obtain⟨ms,a,hm,rfl⟩:=hm;have:=hm.keys;unfold plain;rw[iE];exact this
theorem MapAt.lt{h:ac}{r:Nat}{m:List (κ×β)}(hm:MapAt E g h r m):r<h.size:=by
 obtain⟨ms,a,hm,_⟩:=hm;exact bo hm.here
theorem MapAt.upd{h h':ac}{r:Nat}{m:List (κ×β)}{M:Nat→Prop}(hm:MapAt E g h r m)(k:Upd M h h')(b:¬M r):MapAt E g h' r m:=by
 obtain⟨ms,a,hm,e⟩:=hm;exact⟨ms,a,⟨k.get hm.here b,hm.keys,hm.nums,hm.old⟩,e⟩
theorem MapAt.new(h:ac):MapAt E g (h.push (.map #[] 0)) h.size []:=
 ⟨[],0,⟨sD h _,pT,pT,fun _ h=>by cases h⟩,rfl⟩
variable [DecidableEq κ]
def bQ:List (κ×β)→κ→Option β
 | [],_=>none
 |(k',v)::l,k=>if k=k' then some v else bQ l k
def pC:List (κ×β)→κ→β→List (κ×β)
 | [],k,v=> [(k,v)]
 |(k',u)::l,k,v=>if k=k' then(k,v)::l else(k',u)::pC l k v
def w8(l:List (κ×β))(k:κ):List (κ×β):=l.filter fun p=>p.1≠k
theorem HB(l:List (κ×β))(k:κ)(v:β)(j:κ):bQ (pC l k v) j=if j=k then some v else bQ l j:=by
 induction l with
 |nil=>simp[pC,bQ]
 |cons p l ih=>
  obtain⟨k',u⟩:=p;simp only[pC];split
  ·rename_i e;subst e;simp only[bQ];split<;>rfl
  ·rename_i e
   simp only[bQ,ih];by_cases a:j=k'
   ·subst a;simp[Ne.symm e]
   ·simp[a]
theorem su(l:List (κ×β))(k:κ)(j:κ):bQ (w8 l k) j=if j=k then none else bQ l j:=by
 induction l with
 |nil=>simp[w8,bQ]
 |cons p l ih=>
  obtain⟨k',u⟩:=p;unfold w8 at*;rw[bl];by_cases a:k'=k
  ·subst a
   simp only[ne_eq,not_true_eq_false,decide_false,df,if_false,ih,bQ];split<;>rfl
  ·simp only[ne_eq,a,not_false_eq_true,decide_true,if_true,bQ,ih]
   by_cases b:j=k'
   ·subst b;simp[a]
   ·simp[b]
theorem mJ{l:List (κ×β)}{k:κ}{v:β}(a:(l.map (·.1)).Nodup):bQ l k=some v↔(k,v)∈l:=by
 induction l with
 |nil=>simp[bQ]
 |cons p l ih=>
  obtain⟨k',u⟩:=p;simp only[bK,il]at a;simp only[bQ,aq,Prod.mk.injEq];by_cases b:k=k'
  ·subst b
   simp only[if_true,bD.injEq,true_and];constructor
   ·exact fun e=>.inl e.symm
   ·rintro(e|e)
    ·exact e.symm
    ·exact absurd (bG.2 ⟨_,e,rfl⟩) a.1
  ·simp[b,ih a.2]
theorem ij{l:List (κ×β)}{k:κ}:bQ l k=none↔k∉l.map (·.1):=by
 induction l with
 |nil=>simp[bQ]
 |cons p l ih=>
  obtain⟨k',u⟩:=p;simp only[bQ,bK,aq,not_or];by_cases a:k=k'
  ·simp[a]
  ·simp[a,ih]
theorem yo(l:List (κ×β))(k:κ)(v:β):(pC l k v).map (·.1)=if k∈l.map (·.1)then l.map (·.1)else l.map (·.1)++ [k]:=by
 induction l with
 |nil=>simp[pC]
 |cons p l ih=>
  obtain⟨k',u⟩:=p;simp only[pC];by_cases a:k=k'
  ·simp[a]
  ·simp only[a,if_false,bK,ih,aq,false_or]
   split<;>simp
theorem MA{l:List (κ×β)}{k:κ}{v:β}(h:(l.map (·.1)).Nodup):((pC l k v).map (·.1)).Nodup:=by
 rw[yo];split
 ·exact h
 ·rename_i hn
  rw[List.nodup_append];refine⟨h,by simp,?_⟩
  intro a d b c;simp only[av]at c;subst c;intro e;subst e;exact hn d
theorem H3(x y:κ):fG (E.enc x) (E.enc y)=decide (x=y):=by
 by_cases h:x=y
 ·rw[decide_eq_true h];exact(E.same x y).2 h
 ·rw[decide_eq_false h];exact jI.2 fun e=>h ((E.same x y).1 e)
theorem Qk(k:κ)(ms:List (Ent κ β)):Fe (E.enc k) (ms.map (B9 E g))=(bQ (plain ms) k).map g:=by
 induction ms with
 |nil=>rfl
 |cons x ms ih=>
  simp only[bK,Fe,B9,plain,bQ];rw[H3];by_cases h:k=x.k
  ·simp[h]
  ·simp only[h,decide_false,df,if_false];exact ih
theorem MapAt.get{h:ac}{r:Nat}{m:List (κ×β)}(hm:MapAt E g h r m)(k:κ)(z:β):kG E.ck (g z) h (some r) (E.enc k) (g ((bQ m k).getD z)) (bQ m k).isSome:=by
 obtain⟨ms,a,hm,rfl⟩:=hm;refine⟨_,_,hm.here,hm.keysOf,?_⟩;rw[Qk];cases bQ (plain ms) k<;>exact⟨rfl,rfl⟩
def xK(k:κ)(v:β)(a:Nat):List (Ent κ β)→List (Ent κ β)×Nat
 | []=>([⟨k,v,a⟩],a+1)
 |x::l=>if k=x.k then(⟨k,v,x.n⟩::l,a)else(x::(xK k v a l).1,(xK k v a l).2)
theorem RH(k:κ)(v:β)(a:Nat)(ms:List (Ent κ β)):Ib (E.enc k) (g v) a (ms.map (B9 E g))=((xK k v a ms).1.map (B9 E g),(xK k v a ms).2):=by
 induction ms with
 |nil=>rfl
 |cons x ms ih=>
  simp only[bK,Ib,xK];rw[ih,show(B9 E g x).key=E.enc x.k from rfl,H3]
  by_cases h:k=x.k
  ·simp[h,B9]
  ·simp[h]
theorem Fl(k:κ)(v:β)(a:Nat)(ms:List (Ent κ β)):plain (xK k v a ms).1=pC (plain ms) k v:=by
 induction ms with
 |nil=>rfl
 |cons x ms ih=>
  simp only[xK,plain,bK,pC];by_cases h:k=x.k
  ·simp[h]
  ·simp only[h,if_false,bK,List.cons.injEq,true_and];exact ih
theorem TE(k:κ)(v:β)(a:Nat)(ms:List (Ent κ β)):(xK k v a ms).1.map (·.n)=(if k∈ms.map (·.k)then ms.map (·.n)else ms.map (·.n)++ [a])∧(xK k v a ms).2=(if k∈ms.map (·.k)then a else a+1):=by
 induction ms with
 |nil=>exact⟨rfl,rfl⟩
 |cons x ms ih=>
  simp only[xK];by_cases h:k=x.k
  ·simp[h]
  ·simp only[h,if_false,bK,ih.1,ih.2,aq,false_or,and_true]
   split<;>simp
theorem RS{h:ac}{r:Nat}{ms:List (Ent κ β)}{a:Nat}(hm:MapE E g h r ms a)(k:κ)(v:β):oz h r (E.enc k) (g v)=h.setIfInBounds r (.map ((xK k v a ms).1.map (B9 E g)).toArray (xK k v a ms).2):=by
 unfold oz;rw[hm.here];simp only;rw[RH]
theorem MapE.put{h:ac}{r:Nat}{ms:List (Ent κ β)}{c:Nat}(hm:MapE E g h r ms c)(k:κ)(v:β):MapE E g (oz h r (E.enc k) (g v)) r (xK k v c ms).1 (xK k v c ms).2:=by
 rw[RS hm];have j:(xK k v c ms).1.map (·.k)=(plain (xK k v c ms).1).map (·.1):=by unfold plain;rw[iE];rfl
 have o:(plain ms).map (·.1)=ms.map (·.k):=by unfold plain;rw[iE];rfl
 have e:=TE k v c ms;have d:∀y∈ms.map (·.n),y<c:=fun y i=>by
  obtain⟨x,hx,rfl⟩:=bG.1 i;exact hm.old x hx
 refine⟨fF hm.here,?_,?_,?_⟩
 ·rw[j,Fl];exact MA (by rw[o];exact hm.keys)
 ·rw[e.1]
  split
  ·exact hm.nums
  ·rw[List.nodup_append]
   refine⟨hm.nums,by simp,?_⟩
   intro a m b n;simp only[av]at n;have:=d a m;omega
 ·intro x hx
  have hx:x.n∈(xK k v c ms).1.map (·.n):=bG.2 ⟨x,hx,rfl⟩
  rw[e.1]at hx;rw[e.2];split
  ·rename_i hk;rw[if_pos hk]at hx;exact d _ hx
  ·rename_i hk
   rw[if_neg hk]at hx;rcases List.mem_append.1 hx with f|f
   ·have:=d _ f;omega
   ·simp only[av]at f;omega
theorem MapAt.put{h:ac}{r:Nat}{m:List (κ×β)}(hm:MapAt E g h r m)(k:κ)(v:β):MapAt E g (oz h r (E.enc k) (g v)) r (pC m k v):=by
 obtain⟨ms,a,hm,rfl⟩:=hm;exact⟨_,_,hm.put k v,Fl ..⟩
theorem sy{M:Nat→Prop}(h:ac){r:Nat}(k v:Value)(a:M r):Upd M h (oz h r k v):=by
 unfold oz;split
 ·exact Upd.set h _ a
 ·exact Upd.refl _ _
theorem GJ{M:Nat→Prop}(h:ac){r:Nat}(k:Value)(a:M r):Upd M h (wL h r k):=by
 unfold wL;split
 ·exact Upd.set h _ a
 ·exact Upd.refl _ _
theorem Qr(k:κ){ms:List (Ent κ β)}(a:(ms.map (·.k)).Nodup):Fp (E.enc k) (ms.map (B9 E g))=(ms.filter fun x=>x.k≠k).map (B9 E g):=by
 induction ms with
 |nil=>rfl
 |cons x ms ih=>
  simp only[bK,il]at a;simp only[bK,Fp,bl];rw[show(B9 E g x).key=E.enc x.k from rfl,H3]
  by_cases h:k=x.k
  ·subst h
   simp only[decide_true,if_true,ne_eq,not_true_eq_false,decide_false,df,if_false];congr 1
   rw[iw.2];intro y b;simp only[decide_not,Bool.not_eq_eq_eq_not,Bool.not_true,decide_eq_false_iff_not];intro e;exact a.1 (e▸bG.2 ⟨y,b,rfl⟩)
  ·simp only[h,decide_false,df,if_false,ne_eq,Ne.symm h,not_false_eq_true,decide_true,if_true,bK]
   rw[ih a.2]
theorem MapE.drop{h:ac}{r:Nat}{ms:List (Ent κ β)}{a:Nat}(hm:MapE E g h r ms a)(k:κ):MapE E g (wL h r (E.enc k)) r (ms.filter fun x=>x.k≠k) a:=by
 have e:wL h r (E.enc k)=h.setIfInBounds r (.map ((ms.filter fun x=>x.k≠k).map (B9 E g)).toArray a):=by
  unfold wL;rw[hm.here];simp only;rw[Qr k hm.keys]
 rw[e];refine⟨fF hm.here,hm.keys.sublist ((iu).map _),hm.nums.sublist ((iu).map _),fun x hx=>hm.old x ((ci.1 hx).1)⟩
theorem r7(k:κ)(ms:List (Ent κ β)):plain (ms.filter fun x=>x.k≠k)=w8 (plain ms) k:=by
 unfold plain w8;rw[List.filter_map];rfl
theorem MapAt.del{h:ac}{r:Nat}{m:List (κ×β)}(hm:MapAt E g h r m)(k:κ):MapAt E g (wL h r (E.enc k)) r (w8 m k):=by
 obtain⟨ms,a,hm,rfl⟩:=hm;exact⟨_,_,hm.drop k,r7 ..⟩
end
section
variable {κ β:Type} (E:KeyE κ) (g:β→Value)
def IterSt(h:ac)(i r:Nat)(m a:List (κ×β)):Prop:=
 ∃ms clock since seen last,MapE E g h r ms clock∧plain ms=m∧h[i]? =some (.mapIter (some r) since seen last)∧a=plain (ms.filter fun x=> !seen.contains x.n)∧∀x∈ms,x.n<since∧x.n<last
variable {E g}
theorem IterSt.at{h:ac}{i r:Nat}{m b:List (κ×β)}(hi:IterSt E g h i r m b):MapAt E g h r m:=by
 obtain⟨ms,a,c,d,last,hm,e,_⟩:=hi;exact⟨ms,a,hm,e⟩
theorem IterSt.upd{h h':ac}{i r:Nat}{m a:List (κ×β)}{M:Nat→Prop}(hi:IterSt E g h i r m a)(k:Upd M h h')(p:¬M i)(f:¬M r):IterSt E g h' i r m a:=by
 obtain⟨ms,b,c,d,last,hm,o,n,j,e⟩:=hi;exact⟨ms,b,c,d,last,⟨k.get hm.here f,hm.keys,hm.nums,hm.old⟩,o,k.get n p,j,e⟩
theorem IterSt.ne{h:ac}{i r:Nat}{m a:List (κ×β)}(hi:IterSt E g h i r m a):i≠r:=by
 obtain⟨ms,b,c,d,last,hm,n,f,k,j⟩:=hi;intro e;subst e;rw[hm.here]at f;cases f
theorem IterSt.nodup{h:ac}{i r:Nat}{m a:List (κ×β)}(hi:IterSt E g h i r m a):(a.map (·.1)).Nodup:=by
 obtain⟨ms,b,c,d,last,hm,k,j,e,f⟩:=hi;rw[e];unfold plain;rw[iE];exact hm.keys.sublist ((iu).map _)
theorem MapAt.range{h:ac}{r:Nat}{m:List (κ×β)}(hm:MapAt E g h r m):∃a,(∃es,h[r]? =some (.map es a))∧IterSt E g (h.push (.mapIter (some r) a #[] a)) h.size r m m:=by
 obtain⟨ms,a,hm,b⟩:=hm;refine⟨a,⟨_,hm.here⟩,ms,a,a,#[],a,⟨(Upd.push No h _).get0 hm.here,hm.keys,hm.nums,hm.old⟩,b,sD h _,?_,fun x hx=>⟨hm.old x hx,hm.old x hx⟩⟩
 rw[show(fun x:Ent κ β=> !(#[]:Array Nat).contains x.n)=fun _=>true from funext fun x=>by simp,iw.2 fun _ _=>rfl,b]
theorem B8{α γ:Type}{f:α→γ}:∀{l:List α},(l.map f).Nodup→∀{x y:α},x∈l→y∈l→f x=f y→x=y
 | [],_,x,y,h,_,_=>by cases h
 |z::l,hn,x,y,hx,hy,e=>by
  simp only[bK,il]at hn;rcases aq.1 hx with b|b<;>rcases aq.1 hy with a|a
  ·rw[b,a]
  ·exact absurd (bG.2 ⟨y,a,by rw[←e,b]⟩) hn.1
  ·exact absurd (bG.2 ⟨x,b,by rw[e,a]⟩) hn.1
  ·exact B8 hn.2 b a e
theorem Qj{ms:List (Ent κ β)}(a:(ms.map (·.n)).Nodup){x:Ent κ β}(hx:x∈ms):(ms.map (B9 E g)).find? (fun e=>e.born==x.n)=some (B9 E g x):=by
 induction ms with
 |nil=>cases hx
 |cons y ms ih=>
  simp only[bK,il]at a;rw[bK,List.find?_cons];rcases aq.1 hx with rfl|hx
  ·simp[B9]
  ·have:(B9 E g y).born≠x.n:=fun e=>a.1 (bG.2 ⟨x,hx,e.symm⟩)
   have b:((B9 E g y).born==x.n)=false:=by simpa using this
   rw[b];exact ih a.2 hx
variable [DecidableEq κ]
theorem NextP.at{M:Nat→Prop}{h:ac}{i r:Nat}{m f:List (κ×β)}{Kend:Prop}{Kstep:MapEntry→ac→Prop}(hi:IterSt E g h i r m f)(H:M i)
  (p:f= []→Kend)
  (j:∀k v,(k,v)∈f→∀(e:MapEntry) h',e.key=E.enc k→e.val=g v→Cz h' i e→IterSt E g h' i r m (w8 f k)→Upd M h h'→Kstep e h'):NextP ⟨i,0,none⟩ h Kend Kstep:=by
 have A:=hi.ne;obtain⟨ms,a,b,d,last,hm,G,D,w,z⟩:=hi;refine⟨rfl,_,b,d,last,D,.inr ⟨r,_,a,rfl,hm.here,?_,fun c=>?_,fun e C B=>?_⟩⟩
 ·by_cases F:ms= []
  ·right;left;subst F;rfl
  ·right;right
   obtain⟨x,l,hx⟩:=List.exists_cons_of_ne_nil F;rw[jI];intro c;rw[Array.all_eq_true']at c;have hx:x∈ms:=by rw[hx];exact List.mem_cons_self ..
   have:=c (B9 E g x) (by simp only[List.mem_toArray,bG];exact⟨x,hx,rfl⟩);have I:=(z x hx).2;simp[B9]at this;omega
 ·refine p ?_
  rw[w];unfold plain;rw[List.map_eq_nil_iff,List.filter_eq_nil_iff];intro x hx;have:=c (B9 E g x) (by simp only[bG];exact⟨x,hx,rfl⟩) (z x hx).1;have e:(B9 E g x).born=x.n:=rfl;rw[e]at this;rw[this];exact Bool.false_ne_true
 ·simp only[bG]at C
  obtain⟨x,hx,rfl⟩:=C;have B:d.contains x.n=false:=B;have s:=fF (o:=.mapIter (some r) b (d.push x.n) a) D;have n:(h.setIfInBounds i (.mapIter (some r) b (d.push x.n) a))[r]? =some (.map (ms.map (B9 E g)).toArray a):=by
   rw[dX];simp only[A,if_false];exact hm.here
  refine j x.k x.v ?_ _ _ rfl rfl ?_ ?_ (Upd.set h _ H)
  ·rw[w]
   exact bG.2 ⟨x,ci.2 ⟨hx,by rw[B];rfl⟩,rfl⟩
  ·refine⟨r,b,_,a,x.n,_,s,by simp,n,?_⟩
   rw[←Array.find?_toList];exact Qj hm.nums hx
  ·refine⟨ms,a,b,_,a,⟨n,hm.keys,hm.nums,hm.old⟩,G,s,?_,fun y q=>⟨(z y q).1,hm.old y q⟩⟩
   rw[w,←r7,kO];congr 1
   apply lU;intro y q;have t:y.n=x.n↔y.k=x.k:=⟨fun e=>congrArg _ (B8 hm.nums q hx e),fun e=>congrArg _ (B8 hm.keys q hx e)⟩
   simp only[Array.contains_push,ne_eq,decide_not,Bool.not_or];by_cases u:y.k=x.k
   ·have:=t.2 u;simp[u,this]
   ·have:¬y.n=x.n:=fun e=>u (t.1 e)
    simp[u,this]
theorem IterSt.del{h:ac}{i r:Nat}{m a:List (κ×β)}(hi:IterSt E g h i r m a)(k:κ):IterSt E g (wL h r (E.enc k)) i r (w8 m k) (w8 a k):=by
 have e:=hi.ne;obtain⟨ms,b,c,d,last,hm,o,n,j,f⟩:=hi;refine⟨_,b,c,d,last,hm.drop k,by rw[r7,o],(GJ (M:=(· =r)) h (E.enc k) rfl).get n e,?_,fun x hx=>f x (ci.1 hx).1⟩
 rw[j,←r7,kO,kO];congr 1
 apply lU;intro y _;exact Bool.and_comm ..
end
end Go.Lift
namespace Go.Lift
open Go
structure Takes{α:Type}(P:Program)(y:Value)(enc:α→List Value)(N:Nat)(J:List α→(Nat→Prop)→ac→Prop):Prop where
 lt:∀pre A h,J pre A h→∀b,A b→b<h.size
 keep:∀pre A h h' B,J pre A h→Upd B h h'→(∀b,A b→¬B b)→J pre A h'
 step:∀pre A h x (K:Bool→ac→Prop),J pre A h→pre.length<N→(∀h' A',J (pre++ [x]) A' h'→Upd A h h'→(∀b,A' b→A b∨h.size≤b)→K true h')→HV P y (enc x) [.c .bool] K h
structure Gives{α:Type}(P:Program)(fv:Value)(enc:α→List Value)(N:Nat)(S:List α→Prop)(Q:Nat→Prop)(h:ac):Prop where
 lt:∀b,Q b→b<h.size
 run:∃f first cap,fv=.func (.func f) first cap∧∀(y:Value) (J:List α→(Nat→Prop)→ac→Prop) (A M:Nat→Prop) (h1:ac) (K:Unit→ac→Prop),Takes P y enc N J→J [] A h1→Upd M h h1→(∀b,Q b→¬M b)→(∀b,A b→¬Q b)→
  (∀xs A' h',S xs→J xs A' h'→Upd A h1 h'→(∀b,A' b→A b∨h1.size≤b)→K () h')→HE P f (first.toList++ [y]++cap.toList) [] K h1
theorem Gives.upd{α:Type}{P:Program}{c:Value}{enc:α→List Value}{N:Nat}{S:List α→Prop}{Q M:Nat→Prop}{h h':ac}(g:Gives P c enc N S Q h)(k:Upd M h h')(hm:∀b,Q b→¬M b):Gives P c enc N S Q h':=by
 obtain⟨f,first,cap,e,i⟩:=g.run
 refine⟨fun b a=>aC (g.lt b a) k.size,f,first,cap,e,fun y J A M' q K m j p o d n=>?_⟩
 exact i y J A (fun b=>M b∨M' b) q K m j ((k.mono fun b a=>.inl (.inl a)).tr (p.mono fun b a=>.inl (.inr a))) (fun b a h=>h.elim (hm b a) (o b a)) d n
end Go.Lift
