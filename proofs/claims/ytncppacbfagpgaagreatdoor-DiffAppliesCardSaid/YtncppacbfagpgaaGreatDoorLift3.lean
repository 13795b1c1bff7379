/- A part of the proof that the named laws of this program answer true, whatever the input. -/
import Derived.Test.YtncppacbfagpgaaGreatDoorLift2
open Array renaming ext_getElem?→qB,getElem?_setIfInBounds→fF,getElem?_eq_some_iff→cV
open List renaming flatMap_cons→aO,length_append→ac,length_cons→ao,getElem?_append_left→bQ,getElem?_append_right→aN,getElem?_eq_some_iff→bM,length_take→aH,length_drop→aV,take_append_drop→aI,flatMap_append→bO,length_eq_zero_iff→ay,getElem?_toArray→gG,length_nil→aG,size_toArray→dE,take_append_of_le_length→gB,drop_eq_nil_of_le→ir,nil_append→cB,append_assoc→ar,take_left'→du,drop_drop→ed,drop_left'→cN,drop_append_of_le_length→gD
open Nat renaming lt_or_ge→bW,le_refl→al,lt_of_lt_of_le→aC,succ_mul→lA,zero_add→aR,add_zero→eN
namespace Go.Lift
open Go
attribute [simp] au aj
theorem az{p:Prop}[Decidable p]{t e:Prop}(a:p→t)(h2:¬p→e):CondP (decide p) t e:=CondP.intro (fun h=>a (of_decide_eq_true h)) (fun h=>h2 (of_decide_eq_false h))
theorem HC.mono{P:Program}{f:FuncId}{args:List Value}{ks:List Kind}{K b:yY ks→ae→Prop}{h:ae}(hc:HC P f args ks K h)(c:∀t h',K t h'→b t h'):HC P f args ks b h:=by
 refine⟨fun w j=>?_⟩
 rcases hc.run w j with⟨a,h2⟩|⟨v,d,a,h2,t,g,n⟩
 ·exact .inl ⟨a,h2.mono fun e d ⟨m,t,i,k⟩=>⟨m,t,i,c t _ k⟩⟩
 ·exact .inr ⟨v,d,a,h2,t,g,c t _ n⟩
theorem Join.intro{T:Type}{a:T→ae→Prop}{k:(T→ae→Prop)→Prop}(J:T→ae→Prop)(b:∀R:T→ae→Prop,(∀t h,J t h→R t h)→k R)(h2:∀t h,J t h→a t h):Join a k:=⟨b a h2⟩
theorem Join.plain{T:Type}{a:T→ae→Prop}{k:(T→ae→Prop)→Prop}(h:k a):Join a k:=⟨h⟩
theorem LoopP.intro{T:Type}{F:(T→ae→Prop)→T→ae→Prop}{t:T}{h:ae}(Inv:T→ae→Prop)(m:T→ae→Nat)(d:Inv t h)
  (step:∀I:T→ae→Prop,∀t h,Inv t h→(∀a h',Inv a h'→m a h'<m t h→I a h')→F I t h):LoopP F t h:=by
 refine⟨fun I e=>?_⟩
 have key:∀n t h,m t h=n→Inv t h→I t h:=by
  intro n;induction n using Nat.strongRecOn with
  |_ n ih=>exact fun t h f hi=>e t h (step I t h hi fun a h' b c=>ih _ (f▸c) a h' rfl b)
 exact key _ t h rfl d
theorem LoopP.ghost{T G:Type}{F:(T→ae→Prop)→T→ae→Prop}{t:T}{h:ae}(Inv:G→T→ae→Prop)(m:G→Nat)(g:G)(e:Inv g t h)
  (step:∀I:T→ae→Prop,∀g t h,Inv g t h→(∀b a h',Inv b a h'→m b<m g→I a h')→F I t h):LoopP F t h:=by
 refine⟨fun I f=>?_⟩
 have key:∀n g t h,m g=n→Inv g t h→I t h:=by
  intro n;induction n using Nat.strongRecOn with
  |_ n ih=>exact fun g t h i hi=>f t h (step I g t h hi fun b a h' c d=>ih _ (i▸d) b a h' rfl c)
 exact key _ g t h rfl e
theorem HV.mk'{P:Program}{f:FuncId}{first cap:Array Value}{args:List Value}{ks:List Kind}{K:yY ks→ae→Prop}{h:ae}(hc:HC P f (first.toList++args++cap.toList) ks K h):HV P (.func (.func f) first cap) args ks K h:=
 ⟨.inl ⟨f,first,cap,rfl,hc⟩⟩
@[simp] theorem cj(b o n:Nat):adr ⟨b,o,none⟩ n=⟨b,o+n,none⟩:=by
 cases n<;>rfl
@[simp] theorem AQ(a:Addr)(n:Nat):(adr a n).block=a.block:=by
 cases n<;>rfl
theorem cY(h:ae):aF h=⟨h.size,0,none⟩:=rfl
theorem Pw{h:ae}{a:Addr}{v:Value}(hv:aP h a=some v):a.block<h.size:=by
 unfold aP at hv;rcases bW a.block h.size with b|b
 ·exact b
 ·rw[Array.getElem?_eq_none b]at hv;cases hv
theorem bH{h:ae}{b i:Nat}{c:Array Value}{e:TypeId}{fr:Nat×Nat}(a:h[b]? =some (.cells c e fr)):aP h ⟨b,i,none⟩=c[i]?:=by
 unfold aP;rw[a];rfl
theorem RM{h h':ae}{a:Addr}(b:h'[a.block]? =h[a.block]?):aP h' a=aP h a:=by
 unfold aP;rw[b]
theorem IE{h:ae}{b i:Nat}{c:Array Value}{e:TypeId}{fr:Nat×Nat}{v:Value}(d:h[b]? =some (.cells c e fr)):
  hset h ⟨b,i,none⟩ v=h.setIfInBounds b (.cells (c.setIfInBounds i v) e fr):=by
 unfold hset;apply qB;intro j;rw[Array.getElem?_modify,fF];by_cases f:b=j
 ·subst f
  have a:=(cV.1 d).1;simp only[d,if_true,a,Option.map_some];rfl
 ·simp[f]
theorem iV{h:ae}{b i:Nat}{c:Array Value}{e:TypeId}(a:h[b]? =some (.cells c e (0,0))) (hi:i<c.size):Wr h ⟨b,i,none⟩:=by
 refine⟨⟨c[i],by rw[bH a,Array.getElem?_eq_getElem hi]⟩,?_⟩
 unfold Hn;rw[a];simp
structure Upd(M:Nat→Prop)(h h':ae):Prop where
 size:h.size≤h'.size
 same:∀b,b<h.size→¬M b→h'[b]? =h[b]?
abbrev No:Nat→Prop:=fun _=>False
theorem Upd.refl(M:Nat→Prop)(h:ae):Upd M h h:=⟨al _,fun _ _ _=>rfl⟩
theorem Upd.trans{M M':Nat→Prop}{h d h2:ae}(k:Upd M h d)(l:Upd M' d h2)(f:∀b,M' b→M b∨h.size≤b):Upd M h h2:=
 ⟨Nat.le_trans k.size l.size,fun b a e=>by
  rw[l.same b (aC a k.size) (fun hm=>(f b hm).elim e fun c=>absurd a (Nat.not_lt.2 c)),k.same b a e]⟩
theorem Upd.tr{M:Nat→Prop}{h a h2:ae}(k:Upd M h a)(l:Upd M a h2):Upd M h h2:=k.trans l fun _ h=>.inl h
theorem Upd.mono{M M':Nat→Prop}{h h':ae}(k:Upd M h h')(d:∀b,M b→M' b∨h.size≤b):Upd M' h h':=
 ⟨k.size,fun b c e=>k.same b c fun hm=>(d b hm).elim e fun a=>absurd c (Nat.not_lt.2 a)⟩
theorem Upd.wide{M:Nat→Prop}{h h':ae}(k:Upd No h h'):Upd M h h':=k.mono fun _ h=>h.elim
theorem Upd.get{M:Nat→Prop}{h h':ae}(k:Upd M h h'){b:Nat}{o:Obj}(a:h[b]? =some o) (c:¬M b):h'[b]? =some o:=by
 rw[k.same b (cV.1 a).1 c,a]
theorem Upd.get0{h h':ae}(k:Upd No h h'){b:Nat}{o:Obj}(a:h[b]? =some o):h'[b]? =some o:=k.get a id
theorem Upd.cell{M:Nat→Prop}{h h':ae}(k:Upd M h h'){a:Addr}{v:Value}(hv:aP h a=some v)(b:¬M a.block):aP h' a=some v:=by
 rw[RM (k.same _ (Pw hv) b),hv]
theorem Upd.cell0{h h':ae}(k:Upd No h h'){a:Addr}{v:Value}(hv:aP h a=some v):aP h' a=some v:=k.cell hv id
theorem Upd.push(M:Nat→Prop)(h:ae)(o:Obj):Upd M h (h.push o):=⟨by simp,fun b a _=>by rw[Array.getElem?_push];simp[Nat.ne_of_lt a]⟩
theorem Upd.set{M:Nat→Prop}(h:ae){b:Nat}(o:Obj)(a:M b):Upd M h (h.setIfInBounds b o):=⟨by simp,fun c _ d=>by
 rw[fF]
 have:b≠c:=fun e=>d (e▸a)
 simp[this]⟩
theorem Upd.hset{M:Nat→Prop}(h:ae){a:Addr}(v:Value)(b:M a.block):Upd M h (hset h a v):=⟨by simp[Go.Lift.hset],fun c _ d=>by
 unfold Go.Lift.hset
 rw[Array.getElem?_modify]
 have:a.block≠c:=fun e=>d (e▸b)
 simp[this]⟩
theorem Upd.hnew(M:Nat→Prop)(h:ae)(cs:List Value)(t:TypeId):Upd M h (hnew h cs t):=Upd.push M h _
theorem cp(h:ae)(cs:List Value)(t:TypeId):(hnew h cs t)[h.size]? =some (.cells cs.toArray t (0,0)):=by
 unfold hnew;simp
theorem zw(h:ae)(o:Obj):(h.push o)[h.size]? =some o:=by simp
theorem iY(h:ae)(cs:List Value)(t:TypeId):(hnew h cs t).size=h.size+1:=by
 unfold hnew;simp
theorem kY{h:ae}{b:Nat}{o a:Obj}(c:h[b]? =some a):(h.setIfInBounds b o)[b]? =some o:=by
 rw[fF];simp[(cV.1 c).1]
theorem bD{h:ae}{b:Nat}{o:Obj}(a:h[b]? =some o):b<h.size:=(cV.1 a).1
theorem Row.upd{M:Nat→Prop}{h h':ae}{a:Addr}{vs:List Value}(b:Row h a vs)(k:Upd M h h')(c:¬M a.block):Row h' a vs:=fun i v hv=>k.cell (b i v hv) (by rw[AQ];exact c)
theorem SRow.upd{M:Nat→Prop}{h h':ae}{a:Option Addr}{n:Nat}{vs:List Value}(c:SRow h a n vs)(k:Upd M h h')(e:vs≠[]→∀b,a=some b→¬M b.block):SRow h' a n vs:=by
 obtain⟨f,h2⟩:=c;refine⟨f,?_⟩;rcases h2 with rfl|⟨b,d,c⟩
 ·exact .inl rfl
 ·by_cases hv:vs= []
  ·exact .inl hv
  ·exact .inr ⟨b,d,c.upd k (e hv b d)⟩
theorem oI{h:ae}{b o:Nat}{c:Array Value}{e:TypeId}{fr:Nat×Nat}(a:h[b]? =some (.cells c e fr)) {vs:List Value} (hv:∀i v,vs[i]? =some v→c[o+i]? =some v):Row h ⟨b,o,none⟩ vs:=fun i v hi=>by
 rw[cj,bH a];exact hv i v hi
structure Sl{α:Type}(f:α→List Value)(sz:Nat)(W:Nat→Prop)(h:ae)(s:SliceV)(xs:List α):Prop where
 len:s.len=xs.length
 ne:∀x,(f x).length=sz∧0<sz
 row:xs≠[]→∃a,s.a=some a∧¬W a.block∧Row h a (xs.flatMap f)
theorem Sl.nil{α:Type}{f:α→List Value}{b:Nat}{W:Nat→Prop}{h:ae}{a:Option Addr}{c:Nat}(d:∀x,(f x).length=b∧0<b):Sl f b W h ⟨a,0,c⟩ []:=⟨rfl,d,fun h=>absurd rfl h⟩
theorem Sl.lt{α:Type}{f:α→List Value}{g:Nat}{W:Nat→Prop}{h:ae}{s:SliceV}{xs:List α}(c:Sl f g W h s xs)(hx:xs≠[]){a:Addr}(e:s.a=some a):a.block<h.size:=by
 obtain⟨a',b,j,i⟩:=c.row hx;rw[e]at b;cases b;cases xs with
 |nil=>exact absurd rfl hx
 |cons x xs=>
  have d:=c.ne x;cases hf:f x with
  |nil=>rw[hf]at d;simp at d;omega
  |cons v vs=>
   have:=i 0 v (by rw[aO,hf];rfl);have:=Pw this;rw[AQ]at this;exact this
theorem Sl.upd{α:Type}{f:α→List Value}{e:Nat}{W M:Nat→Prop}{h h':ae}{s:SliceV}{xs:List α}(c:Sl f e W h s xs)(k:Upd M h h')(hm:∀b,M b→W b∨h.size≤b):Sl f e W h' s xs:=by
 refine⟨c.len,c.ne,fun hx=>?_⟩
 obtain⟨a,g,i,m⟩:=c.row hx;exact⟨a,g,i,m.upd k fun j=>(hm _ j).elim i fun d=>absurd (c.lt hx g) (Nat.not_lt.2 d)⟩
theorem Sl.less{α:Type}{f:α→List Value}{e:Nat}{W W':Nat→Prop}{h:ae}{s:SliceV}{xs:List α}(c:Sl f e W h s xs)(hm:∀b,W' b→W b∨h.size≤b):Sl f e W' h s xs:=
 ⟨c.len,c.ne,fun hx=>let⟨a,g,k,j⟩:=c.row hx;⟨a,g,fun i=>(hm _ i).elim k fun d=>absurd (c.lt hx g) (Nat.not_lt.2 d),j⟩⟩
theorem oo{α:Type}{f:α→List Value}{b:Nat}(a:∀x,(f x).length=b):∀xs:List α,(xs.flatMap f).length=xs.length*b
 | []=>by simp
 |x::xs=>by rw[aO,ac,a,oo a xs,ao,lA];omega
theorem zH{α:Type}{f:α→List Value}{b:Nat}(a:∀x,(f x).length=b):∀(xs:List α) (i j:Nat) (x:α),xs[i]? =some x→j<b→(xs.flatMap f)[i*b+j]? =(f x)[j]?
 | [],i,j,x,h,_=>by simp at h
 |y::xs,0,j,x,h,hj=>by
  simp only[List.getElem?_cons_zero,Option.some.injEq]at h;subst h;rw[aO,Nat.zero_mul,aR,bQ (by rw[a];exact hj)]
 |y::xs,i+1,j,x,h,hj=>by
  rw[List.getElem?_cons_succ]at h;rw[aO,aN (by rw[a,lA];omega),a,show(i+1)*b+j-b=i*b+j by rw[lA];omega]
  exact zH a xs i j x h hj
theorem Sl.at{α:Type}{f:α→List Value}{c:Nat}{W:Nat→Prop}{h:ae}{s:SliceV}{xs:List α}(b:Sl f c W h s xs){i:Nat}{x:α}(hi:xs[i]? =some x):
  ∃a,s.a=some a∧¬W a.block∧∀j v,(f x)[j]? =some v→aP h (adr (adr a (i*c)) j)=some v:=by
 obtain⟨a,d,m,g⟩:=b.row (fun e=>by subst e;simp at hi)
 refine⟨a,d,m,fun j v hv=>?_⟩
 have k:j<c:=by rw[←(b.ne x).1];exact(bM.1 hv).1
 rw[DS];exact g _ v (by rw[zH (fun x=>(b.ne x).1) xs i j x hi k];exact hv)
theorem Sl.at0{α:Type}{g:α→Value}{W:Nat→Prop}{h:ae}{s:SliceV}{xs:List α}(b:Sl (fun x=> [g x]) 1 W h s xs){i:Nat}{x:α}(hi:xs[i]? =some x):
  ∃a,s.a=some a∧¬W a.block∧aP h (adr a (i*1))=some (g x):=by
 obtain⟨a,e,d,c⟩:=b.at hi;exact⟨a,e,d,c 0 _ rfl⟩
theorem Sl.srow{α:Type}{f:α→List Value}{c:Nat}{W:Nat→Prop}{h:ae}{s:SliceV}{xs:List α}(b:Sl f c W h s xs):SRow h s.a (s.len*c) (xs.flatMap f):=by
 refine⟨?_,?_⟩
 ·rw[b.len,oo fun x=>(b.ne x).1]
 ·by_cases hx:xs= []
  ·subst hx;exact .inl rfl
  ·obtain⟨a,d,_,e⟩:=b.row hx
   exact .inr ⟨a,d,e⟩
theorem Sl.sub{α:Type}{f:α→List Value}{b:Nat}{W:Nat→Prop}{h:ae}{s:SliceV}{xs:List α}(d:Sl f b W h s xs){l hi m c:Nat}(q:l≤hi)(h2:hi≤xs.length)(p:hi≤m):
  Sl f b W h ⟨bh s.a l m b,hi-l,c⟩ ((xs.drop l).take (hi-l)):=by
 refine⟨by simp only[aH,aV];omega,d.ne,fun hx=>?_⟩
 have k:l<hi:=by
  rcases bW l hi with h|h
  ·exact h
  ·rw[Nat.sub_eq_zero_of_le h]at hx;exact absurd List.take_zero hx
 obtain⟨a,g,n,j⟩:=d.row (fun e=>by rw[e]at h2;simp at h2;omega)
 refine⟨adr a (l*b),?_,by rw[AQ];exact n,fun i v hv=>?_⟩
 ·unfold bh
  rw[if_neg (by omega),g];rfl
 ·rw[DS]
  refine j _ v ?_;have e:xs=xs.take l++((xs.drop l).take (hi-l)++(xs.drop l).drop (hi-l)):=by rw[aI,aI]
  rw[e,bO,bO];have o:((xs.take l).flatMap f).length=l*b:=by rw[oo fun x=>(d.ne x).1,aH];congr 1;omega
  rw[aN (by omega),o,Nat.add_sub_cancel_left,bQ (bM.1 hv).1];exact hv
structure OwnS{α:Type}(f:α→List Value)(sz:Nat)(t:TypeId)(M:Nat→Prop)(h:ae)(s:SliceV)(xs:List α):Prop where
 len:s.len=xs.length
 ne:∀x,(f x).length=sz∧0<sz
 cap:s.len≤s.cap
 blk:s.cap=0∨∃b rest,s.a=some ⟨b,0,none⟩∧M b∧h[b]? =some (.cells (xs.flatMap f++rest).toArray t (0,0))∧rest.length=(s.cap-s.len)*sz
theorem OwnS.nil{α:Type}{f:α→List Value}{b:Nat}{t:TypeId}{M:Nat→Prop}{h:ae}{a:Option Addr}(c:∀x,(f x).length=b∧0<b):OwnS f b t M h ⟨a,0,0⟩ []:=⟨rfl,c,al _,.inl rfl⟩
theorem OwnS.sl{α:Type}{f:α→List Value}{c:Nat}{t:TypeId}{M W:Nat→Prop}{h:ae}{s:SliceV}{xs:List α}(a:OwnS f c t M h s xs)(hm:∀b,M b→b<h.size→¬W b):Sl f c W h s xs:=by
 refine⟨a.len,a.ne,fun hx=>?_⟩
 rcases a.blk with j|⟨b,d,g,e,hc,_⟩
 ·have:=a.len;have:=a.cap
  have:xs.length=0:=by omega
  exact absurd (ay.1 this) hx
 ·exact⟨_,g,hm b e (bD hc),oI hc fun i v hv=>by
   rw[aR,gG,bQ (bM.1 hv).1];exact hv⟩
theorem OwnS.upd{α:Type}{f:α→List Value}{e:Nat}{t:TypeId}{M M':Nat→Prop}{h h':ae}{s:SliceV}{xs:List α}(c:OwnS f e t M h s xs)(k:Upd M' h h')(hm:∀b,M b→¬M' b):OwnS f e t M h' s xs:=by
 refine⟨c.len,c.ne,c.cap,c.blk.imp id fun⟨b,a,i,d,hc,g⟩=>⟨b,a,i,d,k.get hc (hm b d),g⟩⟩
theorem OwnS.more{α:Type}{f:α→List Value}{d:Nat}{t:TypeId}{M M':Nat→Prop}{h:ae}{s:SliceV}{xs:List α}(c:OwnS f d t M h s xs)(hm:∀b,M b→M' b):OwnS f d t M' h s xs:=by
 refine⟨c.len,c.ne,c.cap,c.blk.imp id fun⟨b,a,i,e,hc,g⟩=>⟨b,a,i,hm b e,hc,g⟩⟩
theorem OwnS.within{α:Type}{f:α→List Value}{d:Nat}{t:TypeId}{M:Nat→Prop}{h:ae}{s:SliceV}{xs:List α}(c:OwnS f d t M h s xs):OwnS f d t (fun b=>M b∧b<h.size) h s xs:=by
 refine⟨c.len,c.ne,c.cap,c.blk.imp id fun⟨b,a,e,i,hc,g⟩=>⟨b,a,e,⟨i,bD hc⟩,hc,g⟩⟩
theorem kT{b:Nat}{t:TypeId}:∀(vs:List Value) (h:ae) (i o:Nat) (c:List Value),h[b]? =some (.cells c.toArray t (0,0))→o+i+vs.length≤c.length→
  iP h ⟨b,o,none⟩ i vs=h.setIfInBounds b (.cells (c.take (o+i)++vs++c.drop (o+i+vs.length)).toArray t (0,0))
 | [],h,i,o,c,hb,hl=>by
  simp only[iP,List.append_nil,aG,eN,aI];apply qB;intro j;rw[fF];split
  ·rename_i e;subst e;rw[hb];simp[bD hb]
  ·rfl
 |v::vs,h,i,o,c,hb,hl=>by
  rw[ao]at hl;simp only[iP];rw[cj,IE hb];have a:(h.setIfInBounds b (.cells (c.toArray.setIfInBounds (o+i) v) t (0,0)))[b]? =some (.cells (c.set (o+i) v).toArray t (0,0)):=by
   rw[kY hb];simp
  rw[kT vs _ (i+1) o (c.set (o+i) v) a (by simp;omega)];have e:∀(x y:Obj),(h.setIfInBounds b x).setIfInBounds b y=h.setIfInBounds b y:=fun x y=>by
   apply qB;intro j;simp only[fF,Array.size_setIfInBounds];split<;>rfl
  rw[e];congr 3
  apply List.ext_getElem?;intro j;simp only[List.getElem?_append,ac,aH,List.length_set,ao,List.getElem?_take,List.getElem?_set,List.getElem?_drop];grind
theorem nT(n:Nat)(z:List Value):(eh n z).length=n*z.length:=by
 unfold eh;induction n with
 |zero=>simp
 |succ n ih=>rw[List.replicate_succ,List.flatten_cons,ac,ih,lA];omega
theorem AppP.own{α:Type}{f:α→List Value}{g i:Nat}{t:TypeId}{M:Nat→Prop}{h:ae}{d:Option Addr}{sl k O:Nat}{xs ys:List α}{n z:List Value}{K:SliceV→ae→Prop}
  (o:OwnS f g t M h ⟨d,sl,k⟩ xs)(m:O=ys.length)(J:n=ys.flatMap f)(q:cG n=true)(S:z.length=g)(R:0<i)(w:(xs.length+ys.length)*i≤140737488355328)(hM:M h.size)
  (H:∀s' h',OwnS f g t M h' s' (xs++ys)→Upd M h h'→K s' h'):AppP (some z) g i t d sl k O n h K:=by
 have c:sl=xs.length:=o.len;have A:∀x,(f x).length=g:=fun x=>(o.ne x).1
 subst m J;have y:=oo A ys;have m:=oo A xs;refine⟨fun s=>?_,fun v=>?_⟩
 ·rcases o.blk with I|⟨b,a,C,u,hc,B⟩
  ·have I:k=0:=I
   have L:ys.length=0:=by omega
   have F:xs.length=0:=by omega
   have T:=ay.1 L;have hx:=ay.1 F;subst T hx;refine⟨.inl rfl,rfl,?_⟩;have e:gX h d (sl*g) (([]:List α).flatMap f)=h:=by cases d<;>rfl
   rw[e];exact H _ _ ⟨by simp[c],o.ne,by simp only[aG];omega,.inl I⟩ (Upd.refl _ _)
  ·have C:d=some ⟨b,0,none⟩:=C
   have B:a.length=(k-sl)*g:=B;subst C;have N:sl+ys.length≤k:=s;have U:ys.length*g≤a.length:=by rw[B];exact Nat.mul_le_mul_right _ (Nat.le_sub_of_add_le (show ys.length+sl≤k by omega))
   have p:0+sl*g+(ys.flatMap f).length≤(xs.flatMap f++a).length:=by
    rw[ac,m,y,c];omega
   refine⟨.inr ⟨_,rfl,fun j V=>?_⟩,q,?_⟩
   ·rw[cj]
    refine iV hc ?_;rw[dE];omega
   ·have e:gX h (some ⟨b,0,none⟩) (sl*g) (ys.flatMap f)=_:=kT (ys.flatMap f) h (sl*g) 0 _ hc p
    rw[e];have E:(xs.flatMap f++a).take (0+sl*g)=xs.flatMap f:=by
     rw[aR,c,←m,gB (al _),List.take_length]
    have G:(xs.flatMap f++a).drop (0+sl*g+(ys.flatMap f).length)=a.drop (ys.length*g):=by
     rw[aR,c,←m,List.drop_append,ir (by omega),cB,y];congr 1;omega
    rw[E,G];refine H _ _ ⟨by simp[c],o.ne,s,.inr ⟨b,a.drop (ys.length*g),rfl,u,?_,?_⟩⟩ (Upd.set h _ u)
    ·rw[kY hc,bO]
    ·rw[aV,B]
     simp only;rw[show k-(sl+ys.length)=(k-sl)-ys.length by omega,Nat.sub_mul (k-sl)]
 ·have Q:k*1≤k:=by omega
  refine⟨xs.flatMap f,z,?_,rfl,R,Go.growslice_fits v (by rw[c];exact w),fun P D=>?_⟩
  ·exact(o.sl (W:=No) fun _ _ _=>id).srow
  ·refine H _ _ ⟨by simp[c],o.ne,D,.inr ⟨h.size,eh (P-(sl+ys.length)) z,rfl,hM,?_,?_⟩⟩ (Upd.hnew M h _ _)
   ·rw[cp,bO]
   ·rw[nT,S]
end Go.Lift
namespace Go.Lift
open Go
theorem bP{h:ae}{k:ae→Prop}(a:k h):At h k:=a
theorem lF{b o l m a:Nat}(h:m≠l):bh (some ⟨b,o,none⟩) l m a=some ⟨b,o+l*a,none⟩:=by simp[bh,h,cj]
theorem sub_zero{b m a:Nat}:bh (some ⟨b,0,none⟩) 0 m a=some ⟨b,0,none⟩:=by
 unfold bh;split
 ·rfl
 ·simp[cj]
theorem mX{h:ae}{b:Nat}{c:List Value}{t:TypeId}{o n:Nat}{vs:List Value}{a:Option Addr}{k:ae→Prop}(f:SRow h a n vs)(g:cG vs=true)(d:h[b]? =some (.cells c.toArray t (0,0)))
  (q:o+n≤c.length) (i:∀h',h'[b]? =some (.cells (c.take o++vs++c.drop (o+n)).toArray t (0,0))→Upd (· =b) h h'→k h'):
  ∃xs,SRow h a n xs∧u6 h (some ⟨b,o,none⟩) 0 xs∧cG xs=true∧At (gX h (some ⟨b,o,none⟩) 0 xs) k:=by
 have m:=f.1;refine⟨vs,f,.inr ⟨_,rfl,fun j p=>?_⟩,g,bP ?_⟩
 ·rw[cj];exact iV d (by rw[dE];omega)
 ·have e:gX h (some ⟨b,o,none⟩) 0 vs=_:=kT vs h 0 o c d (by omega)
  rw[e];refine i _ ?_ (Upd.set h _ rfl);rw[kY d,eN,m]
theorem ni{h:ae}{b:Nat}{c:List Value}{t:TypeId}{o n:Nat}{vs:List Value}(a:h[b]? =some (.cells c.toArray t (0,0))) (e:vs.length=n) (d:(c.drop o).take n=vs):SRow h (some ⟨b,o,none⟩) n vs:=by
 refine⟨e,.inr ⟨_,rfl,oI a fun i v hv=>?_⟩⟩
 rw[gG,←List.getElem?_drop];have:((c.drop o).take n)[i]? =some v:=by rw[d];exact hv
 rw[List.getElem?_take]at this;split at this
 ·exact this
 ·cases this
section
variable {α:Type} {f:α→List Value} {sz:Nat}
theorem lW(a:∀x,(f x).length=sz∧0<sz)(xs:List α):(xs.flatMap f).length=xs.length*sz:=oo (fun x=>(a x).1) xs
theorem Aa(xs:List α)(k:Nat):xs.flatMap f=(xs.take k).flatMap f++(xs.drop k).flatMap f:=by rw[←bO,aI]
end
theorem Nk{α:Type}{A X B Z1 Z2:List α}{p q r:Nat}(b:A.length=p)(f:X.length=q)(e:Z1.length=r+q):
  (((A++Z1++Z2).take p++X++(A++Z1++Z2).drop (p+q)).take (p+q))++B++((A++Z1++Z2).take p++X++(A++Z1++Z2).drop (p+q)).drop (p+q+r)=A++(X++B)++Z2:=by
 have d:(A++Z1++Z2).take p=A:=by rw[ar,du b]
 have c:(A++Z1++Z2).drop (p+q)=Z1.drop q++Z2:=by
  rw[ar,←ed,cN b,gD (by omega)]
 have a:(A++X).length=p+q:=by rw[ac];omega
 rw[d,c,du a,←ed,cN a,gD (by rw[aV];omega),ed,ir (by omega),cB];simp only[ar]
theorem RJ{α:Type}{A X B R:List α}{p q r:Nat}(c:A.length=p)(f:B.length=r)(e:q≤R.length):
  (((A++B++R).take (p+q)++B++(A++B++R).drop (p+q+r)).take p)++X++((A++B++R).take (p+q)++B++(A++B++R).drop (p+q+r)).drop (p+q)=A++(X++B)++R.drop q:=by
 have d:((A++B++R).take (p+q)).length=p+q:=by rw[aH,ac,ac];omega
 have b:(A++B++R).drop (p+q+r)=R.drop q:=by
  rw[show p+q+r=(p+r)+q by omega,←ed,cN (by rw[ac];omega)]
 have a:((A++B++R).take (p+q)++(B++(A++B++R).drop (p+q+r))).take p=A:=by
  rw[gB (by omega),List.take_take,Nat.min_eq_left (by omega),ar,du c]
 rw[ar ((A++B++R).take (p+q)),a,cN d,b];simp only[ar]
theorem Sk{h:ae}{b:Nat}{c:List Value}{t o:TypeId}{d a sl f i:Nat}{xs:List Value}{z:Option (List Value)}{K:SliceV→ae→Prop}(g:h[b]? =some (.cells c.toArray t (0,0)))
  (q:sl*d+xs.length≤c.length) (k:sl+i≤f) (n:cG xs=true) (m:∀h',h'[b]? =some (.cells (c.take (sl*d)++xs++c.drop (sl*d+xs.length)).toArray t (0,0))→Upd (· =b) h h'→K ⟨some ⟨b,0,none⟩,sl+i,f⟩ h'):
  AppP z d a o (some ⟨b,0,none⟩) sl f i xs h K:=by
 refine⟨fun _=>⟨.inr ⟨_,rfl,fun j p=>?_⟩,n,?_⟩,fun h=>by omega⟩
 ·rw[cj];exact iV g (by rw[dE];omega)
 ·have e:gX h (some ⟨b,0,none⟩) (sl*d) xs=_:=kT xs h (sl*d) 0 c g (by omega)
  rw[e];refine m _ ?_ (Upd.set h _ rfl);rw[kY g,aR]
theorem M7{h:ae}{b:Nat}{c:List Value}{t:TypeId}{o:Nat}{vs:List Value}{k:ae→Prop}(a:h[b]? =some (.cells c.toArray t (0,0)))
  (f:o+vs.length≤c.length) (d:∀h',h'[b]? =some (.cells (c.take o++vs++c.drop (o+vs.length)).toArray t (0,0))→Upd (· =b) h h'→k h'):
  u6 h (some ⟨b,o,none⟩) 0 vs∧At (gX h (some ⟨b,o,none⟩) 0 vs) k:=by
 refine⟨.inr ⟨_,rfl,fun j g=>?_⟩,bP ?_⟩
 ·rw[cj];exact iV a (by rw[dE];omega)
 ·have e:gX h (some ⟨b,o,none⟩) 0 vs=_:=kT vs h 0 o c a (by omega)
  rw[e];refine d _ ?_ (Upd.set h _ rfl);rw[kY a,eN]
end Go.Lift
namespace Go.Lift
open Go
structure Takes{α:Type}(P:Program)(y:Value)(enc:α→List Value)(N:Nat)(J:List α→(Nat→Prop)→ae→Prop):Prop where
 lt:∀pre A h,J pre A h→∀b,A b→b<h.size
 keep:∀pre A h h' B,J pre A h→Upd B h h'→(∀b,A b→¬B b)→J pre A h'
 step:∀pre A h x (K:Bool→ae→Prop),J pre A h→pre.length<N→(∀h' A',J (pre++ [x]) A' h'→Upd A h h'→(∀b,A' b→A b∨h.size≤b)→K true h')→HV P y (enc x) [.c .bool] K h
structure Gives{α:Type}(P:Program)(fv:Value)(enc:α→List Value)(N:Nat)(S:List α→Prop)(Q:Nat→Prop)(h:ae):Prop where
 lt:∀b,Q b→b<h.size
 run:∃f first cap,fv=.func (.func f) first cap∧∀(y:Value) (J:List α→(Nat→Prop)→ae→Prop) (A M:Nat→Prop) (h1:ae) (K:Unit→ae→Prop),Takes P y enc N J→J [] A h1→Upd M h h1→(∀b,Q b→¬M b)→(∀b,A b→¬Q b)→
  (∀xs A' h',S xs→J xs A' h'→Upd A h1 h'→(∀b,A' b→A b∨h1.size≤b)→K () h')→HE P f (first.toList++ [y]++cap.toList) [] K h1
theorem Gives.upd{α:Type}{P:Program}{c:Value}{enc:α→List Value}{N:Nat}{S:List α→Prop}{Q M:Nat→Prop}{h h':ae}(g:Gives P c enc N S Q h)(k:Upd M h h')(hm:∀b,Q b→¬M b):Gives P c enc N S Q h':=by
 obtain⟨f,first,cap,e,d⟩:=g.run
 refine⟨fun b a=>aC (g.lt b a) k.size,f,first,cap,e,fun y J A M' n K o q p j i m=>?_⟩
 exact d y J A (fun b=>M b∨M' b) n K o q ((k.mono fun b a=>.inl (.inl a)).tr (p.mono fun b a=>.inl (.inr a))) (fun b a h=>h.elim (hm b a) (j b a)) i m
end Go.Lift
