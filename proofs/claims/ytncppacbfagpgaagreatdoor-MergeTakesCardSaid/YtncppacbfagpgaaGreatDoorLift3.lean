/- A part of the proof that the named laws of this program answer true, whatever the input. -/
import Derived.Test.YtncppacbfagpgaaGreatDoorLift2
open Array renaming ext_getElem?→rk,getElem?_setIfInBounds→fJ,getElem?_eq_some_iff→cX
open List renaming flatMap_cons→aN,length_append→ac,length_cons→ar,getElem?_append_left→cy,getElem?_append_right→aZ,getElem?_eq_some_iff→bN,length_take→aQ,length_drop→aV,take_append_drop→aO,flatMap_append→bI,length_eq_zero_iff→aA,getElem?_toArray→gS,length_nil→aM,size_toArray→dD,take_append_of_le_length→gP,drop_eq_nil_of_le→iP,nil_append→cN,append_assoc→aq,take_left'→dE,drop_drop→dZ,drop_left'→cP,drop_append_of_le_length→gQ
open Nat renaming strongRecOn→vg,lt_or_ge→bR,le_refl→aj,lt_of_lt_of_le→aG,succ_mul→mc,zero_add→aR,add_zero→eg
namespace Go.Lift
open Go
attribute [simp] aw ag
theorem ax{p:Prop}[Decidable p]{t e:Prop}(a:p→t)(h2:¬p→e):CondP (decide p) t e:=CondP.intro (fun h=>a (of_decide_eq_true h)) (fun h=>h2 (of_decide_eq_false h))
theorem HC.mono{P:Program}{f:FuncId}{args:List Value}{ks:List Kind}{K d:zU ks→ad→Prop}{h:ad}(hc:HC P f args ks K h)(c:∀t h',K t h'→d t h'):HC P f args ks d h:=by
 refine⟨fun w k=>?_⟩
 rcases hc.run w k with⟨a,h2⟩|⟨v,b,a,h2,t,m,j⟩
 ·exact .inl ⟨a,h2.mono fun e b ⟨g,t,i,n⟩=>⟨g,t,i,c t _ n⟩⟩
 ·exact .inr ⟨v,b,a,h2,t,m,c t _ j⟩
theorem Join.intro{T:Type}{a:T→ad→Prop}{k:(T→ad→Prop)→Prop}(J:T→ad→Prop)(b:∀R:T→ad→Prop,(∀t h,J t h→R t h)→k R)(h2:∀t h,J t h→a t h):Join a k:=⟨b a h2⟩
theorem Join.plain{T:Type}{a:T→ad→Prop}{k:(T→ad→Prop)→Prop}(h:k a):Join a k:=⟨h⟩
theorem LoopP.intro{T:Type}{F:(T→ad→Prop)→T→ad→Prop}{t:T}{h:ad}(Inv:T→ad→Prop)(m:T→ad→Nat)(f:Inv t h)
  (step:∀I:T→ad→Prop,∀t h,Inv t h→(∀a h',Inv a h'→m a h'<m t h→I a h')→F I t h):LoopP F t h:=by
 refine⟨fun I d=>?_⟩
 have key:∀n t h,m t h=n→Inv t h→I t h:=by
  intro n;induction n using vg with
  |_ n ih=>exact fun t h e hi=>d t h (step I t h hi fun a h' b c=>ih _ (e▸c) a h' rfl b)
 exact key _ t h rfl f
theorem LoopP.ghost{T G:Type}{F:(T→ad→Prop)→T→ad→Prop}{t:T}{h:ad}(Inv:G→T→ad→Prop)(m:G→Nat)(g:G)(i:Inv g t h)
  (step:∀I:T→ad→Prop,∀g t h,Inv g t h→(∀a b h',Inv a b h'→m a<m g→I b h')→F I t h):LoopP F t h:=by
 refine⟨fun I e=>?_⟩
 have key:∀n g t h,m g=n→Inv g t h→I t h:=by
  intro n;induction n using vg with
  |_ n ih=>exact fun g t h f hi=>e t h (step I g t h hi fun a b h' c d=>ih _ (f▸d) a b h' rfl c)
 exact key _ g t h rfl i
theorem HV.mk'{P:Program}{f:FuncId}{first cap:Array Value}{args:List Value}{ks:List Kind}{K:zU ks→ad→Prop}{h:ad}(hc:HC P f (first.toList++args++cap.toList) ks K h):HV P (.func (.func f) first cap) args ks K h:=
 ⟨.inl ⟨f,first,cap,rfl,hc⟩⟩
@[simp] theorem cd(b o n:Nat):adr ⟨b,o,none⟩ n=⟨b,o+n,none⟩:=by
 cases n<;>rfl
@[simp] theorem BK(a:Addr)(n:Nat):(adr a n).block=a.block:=by
 cases n<;>rfl
theorem cT(h:ad):ay h=⟨h.size,0,none⟩:=rfl
theorem Qi{h:ad}{a:Addr}{v:Value}(hv:aJ h a=some v):a.block<h.size:=by
 unfold aJ at hv;rcases bR a.block h.size with b|b
 ·exact b
 ·rw[Array.getElem?_eq_none b]at hv;cases hv
theorem bm{h:ad}{b i:Nat}{c:Array Value}{e:TypeId}{fr:Nat×Nat}(a:h[b]? =some (.cells c e fr)):aJ h ⟨b,i,none⟩=c[i]?:=by
 unfold aJ;rw[a];rfl
theorem SS{h h':ad}{a:Addr}(b:h'[a.block]? =h[a.block]?):aJ h' a=aJ h a:=by
 unfold aJ;rw[b]
theorem yo{h:ad}{b i:Nat}{c:Array Value}{e:TypeId}{fr:Nat×Nat}{v:Value}(f:h[b]? =some (.cells c e fr)):
  hset h ⟨b,i,none⟩ v=h.setIfInBounds b (.cells (c.setIfInBounds i v) e fr):=by
 unfold hset;apply rk;intro j;rw[Array.getElem?_modify,fJ];by_cases d:b=j
 ·subst d
  have a:=(cX.1 f).1;simp only[f,if_true,a,Option.map_some];rfl
 ·simp[d]
theorem ip{h:ad}{b i:Nat}{c:Array Value}{e:TypeId}(a:h[b]? =some (.cells c e (0,0))) (hi:i<c.size):Wr h ⟨b,i,none⟩:=by
 refine⟨⟨c[i],by rw[bm a,Array.getElem?_eq_getElem hi]⟩,?_⟩
 unfold H7;rw[a];simp
structure Upd(M:Nat→Prop)(h h':ad):Prop where
 size:h.size≤h'.size
 same:∀b,b<h.size→¬M b→h'[b]? =h[b]?
abbrev No:Nat→Prop:=fun _=>False
theorem Upd.refl(M:Nat→Prop)(h:ad):Upd M h h:=⟨aj _,fun _ _ _=>rfl⟩
theorem Upd.trans{M M':Nat→Prop}{h e h2:ad}(k:Upd M h e)(l:Upd M' e h2)(f:∀b,M' b→M b∨h.size≤b):Upd M h h2:=
 ⟨Nat.le_trans k.size l.size,fun b a d=>by
  rw[l.same b (aG a k.size) (fun hm=>(f b hm).elim d fun c=>absurd a (Nat.not_lt.2 c)),k.same b a d]⟩
theorem Upd.tr{M:Nat→Prop}{h a h2:ad}(k:Upd M h a)(l:Upd M a h2):Upd M h h2:=k.trans l fun _ h=>.inl h
theorem Upd.mono{M M':Nat→Prop}{h h':ad}(k:Upd M h h')(e:∀b,M b→M' b∨h.size≤b):Upd M' h h':=
 ⟨k.size,fun b c d=>k.same b c fun hm=>(e b hm).elim d fun a=>absurd c (Nat.not_lt.2 a)⟩
theorem Upd.wide{M:Nat→Prop}{h h':ad}(k:Upd No h h'):Upd M h h':=k.mono fun _ h=>h.elim
theorem Upd.get{M:Nat→Prop}{h h':ad}(k:Upd M h h'){b:Nat}{o:Obj}(a:h[b]? =some o) (c:¬M b):h'[b]? =some o:=by
 rw[k.same b (cX.1 a).1 c,a]
theorem Upd.get0{h h':ad}(k:Upd No h h'){b:Nat}{o:Obj}(a:h[b]? =some o):h'[b]? =some o:=k.get a id
theorem Upd.cell{M:Nat→Prop}{h h':ad}(k:Upd M h h'){a:Addr}{v:Value}(hv:aJ h a=some v)(b:¬M a.block):aJ h' a=some v:=by
 rw[SS (k.same _ (Qi hv) b),hv]
theorem Upd.cell0{h h':ad}(k:Upd No h h'){a:Addr}{v:Value}(hv:aJ h a=some v):aJ h' a=some v:=k.cell hv id
theorem Upd.push(M:Nat→Prop)(h:ad)(o:Obj):Upd M h (h.push o):=⟨by simp,fun b a _=>by rw[Array.getElem?_push];simp[Nat.ne_of_lt a]⟩
theorem Upd.set{M:Nat→Prop}(h:ad){b:Nat}(o:Obj)(d:M b):Upd M h (h.setIfInBounds b o):=⟨by simp,fun c _ a=>by
 rw[fJ]
 have:b≠c:=fun e=>a (e▸d)
 simp[this]⟩
theorem Upd.hset{M:Nat→Prop}(h:ad){a:Addr}(v:Value)(d:M a.block):Upd M h (hset h a v):=⟨by simp[Go.Lift.hset],fun c _ b=>by
 unfold Go.Lift.hset
 rw[Array.getElem?_modify]
 have:a.block≠c:=fun e=>b (e▸d)
 simp[this]⟩
theorem Upd.hnew(M:Nat→Prop)(h:ad)(cs:List Value)(t:TypeId):Upd M h (hnew h cs t):=Upd.push M h _
theorem co(h:ad)(cs:List Value)(t:TypeId):(hnew h cs t)[h.size]? =some (.cells cs.toArray t (0,0)):=by
 unfold hnew;simp
theorem Az(h:ad)(o:Obj):(h.push o)[h.size]? =some o:=by simp
theorem jV(h:ad)(cs:List Value)(t:TypeId):(hnew h cs t).size=h.size+1:=by
 unfold hnew;simp
theorem jE{h:ad}{b:Nat}{o c:Obj}(a:h[b]? =some c):(h.setIfInBounds b o)[b]? =some o:=by
 rw[fJ];simp[(cX.1 a).1]
theorem aY{h:ad}{b:Nat}{o:Obj}(a:h[b]? =some o):b<h.size:=(cX.1 a).1
theorem Row.upd{M:Nat→Prop}{h h':ad}{a:Addr}{vs:List Value}(c:Row h a vs)(k:Upd M h h')(b:¬M a.block):Row h' a vs:=fun i v hv=>k.cell (c i v hv) (by rw[BK];exact b)
theorem SRow.upd{M:Nat→Prop}{h h':ad}{a:Option Addr}{n:Nat}{vs:List Value}(c:SRow h a n vs)(k:Upd M h h')(e:vs≠[]→∀b,a=some b→¬M b.block):SRow h' a n vs:=by
 obtain⟨f,h2⟩:=c;refine⟨f,?_⟩;rcases h2 with rfl|⟨b,d,c⟩
 ·exact .inl rfl
 ·by_cases hv:vs= []
  ·exact .inl hv
  ·exact .inr ⟨b,d,c.upd k (e hv b d)⟩
theorem ox{h:ad}{b o:Nat}{c:Array Value}{e:TypeId}{fr:Nat×Nat}(a:h[b]? =some (.cells c e fr)) {vs:List Value} (hv:∀i v,vs[i]? =some v→c[o+i]? =some v):Row h ⟨b,o,none⟩ vs:=fun i v hi=>by
 rw[cd,bm a];exact hv i v hi
structure Sl{α:Type}(f:α→List Value)(sz:Nat)(W:Nat→Prop)(h:ad)(s:SliceV)(xs:List α):Prop where
 len:s.len=xs.length
 ne:∀x,(f x).length=sz∧0<sz
 row:xs≠[]→∃a,s.a=some a∧¬W a.block∧Row h a (xs.flatMap f)
theorem Sl.nil{α:Type}{f:α→List Value}{b:Nat}{W:Nat→Prop}{h:ad}{a:Option Addr}{c:Nat}(d:∀x,(f x).length=b∧0<b):Sl f b W h ⟨a,0,c⟩ []:=⟨rfl,d,fun h=>absurd rfl h⟩
theorem Sl.lt{α:Type}{f:α→List Value}{g:Nat}{W:Nat→Prop}{h:ad}{s:SliceV}{xs:List α}(d:Sl f g W h s xs)(hx:xs≠[]){a:Addr}(i:s.a=some a):a.block<h.size:=by
 obtain⟨a',b,j,e⟩:=d.row hx;rw[i]at b;cases b;cases xs with
 |nil=>exact absurd rfl hx
 |cons x xs=>
  have c:=d.ne x;cases hf:f x with
  |nil=>rw[hf]at c;simp at c;omega
  |cons v vs=>
   have:=e 0 v (by rw[aN,hf];rfl);have:=Qi this;rw[BK]at this;exact this
theorem Sl.upd{α:Type}{f:α→List Value}{g:Nat}{W M:Nat→Prop}{h h':ad}{s:SliceV}{xs:List α}(c:Sl f g W h s xs)(k:Upd M h h')(hm:∀b,M b→W b∨h.size≤b):Sl f g W h' s xs:=by
 refine⟨c.len,c.ne,fun hx=>?_⟩
 obtain⟨a,i,e,j⟩:=c.row hx;exact⟨a,i,e,j.upd k fun m=>(hm _ m).elim e fun d=>absurd (c.lt hx i) (Nat.not_lt.2 d)⟩
theorem Sl.less{α:Type}{f:α→List Value}{e:Nat}{W W':Nat→Prop}{h:ad}{s:SliceV}{xs:List α}(c:Sl f e W h s xs)(hm:∀b,W' b→W b∨h.size≤b):Sl f e W' h s xs:=
 ⟨c.len,c.ne,fun hx=>let⟨a,g,i,j⟩:=c.row hx;⟨a,g,fun k=>(hm _ k).elim i fun d=>absurd (c.lt hx g) (Nat.not_lt.2 d),j⟩⟩
theorem pg{α:Type}{f:α→List Value}{b:Nat}(a:∀x,(f x).length=b):∀xs:List α,(xs.flatMap f).length=xs.length*b
 | []=>by simp
 |x::xs=>by rw[aN,ac,a,pg a xs,ar,mc];omega
theorem AO{α:Type}{f:α→List Value}{b:Nat}(a:∀x,(f x).length=b):∀(xs:List α) (i j:Nat) (x:α),xs[i]? =some x→j<b→(xs.flatMap f)[i*b+j]? =(f x)[j]?
 | [],i,j,x,h,_=>by simp at h
 |y::xs,0,j,x,h,hj=>by
  simp only[List.getElem?_cons_zero,Option.some.injEq]at h;subst h;rw[aN,Nat.zero_mul,aR,cy (by rw[a];exact hj)]
 |y::xs,i+1,j,x,h,hj=>by
  rw[List.getElem?_cons_succ]at h;rw[aN,aZ (by rw[a,mc];omega),a,show(i+1)*b+j-b=i*b+j by rw[mc];omega]
  exact AO a xs i j x h hj
theorem Sl.at{α:Type}{f:α→List Value}{c:Nat}{W:Nat→Prop}{h:ad}{s:SliceV}{xs:List α}(b:Sl f c W h s xs){i:Nat}{x:α}(hi:xs[i]? =some x):
  ∃a,s.a=some a∧¬W a.block∧∀j v,(f x)[j]? =some v→aJ h (adr (adr a (i*c)) j)=some v:=by
 obtain⟨a,m,d,g⟩:=b.row (fun e=>by subst e;simp at hi)
 refine⟨a,m,d,fun j v hv=>?_⟩
 have k:j<c:=by rw[←(b.ne x).1];exact(bN.1 hv).1
 rw[sy];exact g _ v (by rw[AO (fun x=>(b.ne x).1) xs i j x hi k];exact hv)
theorem Sl.at0{α:Type}{g:α→Value}{W:Nat→Prop}{h:ad}{s:SliceV}{xs:List α}(c:Sl (fun x=> [g x]) 1 W h s xs){i:Nat}{x:α}(hi:xs[i]? =some x):
  ∃a,s.a=some a∧¬W a.block∧aJ h (adr a (i*1))=some (g x):=by
 obtain⟨a,e,b,d⟩:=c.at hi;exact⟨a,e,b,d 0 _ rfl⟩
theorem Sl.srow{α:Type}{f:α→List Value}{c:Nat}{W:Nat→Prop}{h:ad}{s:SliceV}{xs:List α}(b:Sl f c W h s xs):SRow h s.a (s.len*c) (xs.flatMap f):=by
 refine⟨?_,?_⟩
 ·rw[b.len,pg fun x=>(b.ne x).1]
 ·by_cases hx:xs= []
  ·subst hx;exact .inl rfl
  ·obtain⟨a,e,_,d⟩:=b.row hx
   exact .inr ⟨a,e,d⟩
theorem Sl.sub{α:Type}{f:α→List Value}{b:Nat}{W:Nat→Prop}{h:ad}{s:SliceV}{xs:List α}(d:Sl f b W h s xs){l hi m c:Nat}(p:l≤hi)(h2:hi≤xs.length)(q:hi≤m):
  Sl f b W h ⟨aW s.a l m b,hi-l,c⟩ ((xs.drop l).take (hi-l)):=by
 refine⟨by simp only[aQ,aV];omega,d.ne,fun hx=>?_⟩
 have g:l<hi:=by
  rcases bR l hi with h|h
  ·exact h
  ·rw[Nat.sub_eq_zero_of_le h]at hx;exact absurd List.take_zero hx
 obtain⟨a,o,k,j⟩:=d.row (fun e=>by rw[e]at h2;simp at h2;omega)
 refine⟨adr a (l*b),?_,by rw[BK];exact k,fun i v hv=>?_⟩
 ·unfold aW
  rw[if_neg (by omega),o];rfl
 ·rw[sy]
  refine j _ v ?_;have e:xs=xs.take l++((xs.drop l).take (hi-l)++(xs.drop l).drop (hi-l)):=by rw[aO,aO]
  rw[e,bI,bI];have n:((xs.take l).flatMap f).length=l*b:=by rw[pg fun x=>(d.ne x).1,aQ];congr 1;omega
  rw[aZ (by omega),n,Nat.add_sub_cancel_left,cy (bN.1 hv).1];exact hv
structure OwnS{α:Type}(f:α→List Value)(sz:Nat)(t:TypeId)(M:Nat→Prop)(h:ad)(s:SliceV)(xs:List α):Prop where
 len:s.len=xs.length
 ne:∀x,(f x).length=sz∧0<sz
 cap:s.len≤s.cap
 blk:s.cap=0∨∃b rest,s.a=some ⟨b,0,none⟩∧M b∧h[b]? =some (.cells (xs.flatMap f++rest).toArray t (0,0))∧rest.length=(s.cap-s.len)*sz
theorem OwnS.nil{α:Type}{f:α→List Value}{b:Nat}{t:TypeId}{M:Nat→Prop}{h:ad}{a:Option Addr}(c:∀x,(f x).length=b∧0<b):OwnS f b t M h ⟨a,0,0⟩ []:=⟨rfl,c,aj _,.inl rfl⟩
theorem OwnS.sl{α:Type}{f:α→List Value}{d:Nat}{t:TypeId}{M W:Nat→Prop}{h:ad}{s:SliceV}{xs:List α}(a:OwnS f d t M h s xs)(hm:∀b,M b→b<h.size→¬W b):Sl f d W h s xs:=by
 refine⟨a.len,a.ne,fun hx=>?_⟩
 rcases a.blk with j|⟨b,c,g,e,hc,_⟩
 ·have:=a.len;have:=a.cap
  have:xs.length=0:=by omega
  exact absurd (aA.1 this) hx
 ·exact⟨_,g,hm b e (aY hc),ox hc fun i v hv=>by
   rw[aR,gS,cy (bN.1 hv).1];exact hv⟩
theorem OwnS.upd{α:Type}{f:α→List Value}{e:Nat}{t:TypeId}{M M':Nat→Prop}{h h':ad}{s:SliceV}{xs:List α}(c:OwnS f e t M h s xs)(k:Upd M' h h')(hm:∀b,M b→¬M' b):OwnS f e t M h' s xs:=by
 refine⟨c.len,c.ne,c.cap,c.blk.imp id fun⟨b,a,i,d,hc,g⟩=>⟨b,a,i,d,k.get hc (hm b d),g⟩⟩
theorem OwnS.more{α:Type}{f:α→List Value}{d:Nat}{t:TypeId}{M M':Nat→Prop}{h:ad}{s:SliceV}{xs:List α}(c:OwnS f d t M h s xs)(hm:∀b,M b→M' b):OwnS f d t M' h s xs:=by
 refine⟨c.len,c.ne,c.cap,c.blk.imp id fun⟨b,a,i,g,hc,e⟩=>⟨b,a,i,hm b g,hc,e⟩⟩
theorem OwnS.within{α:Type}{f:α→List Value}{d:Nat}{t:TypeId}{M:Nat→Prop}{h:ad}{s:SliceV}{xs:List α}(c:OwnS f d t M h s xs):OwnS f d t (fun b=>M b∧b<h.size) h s xs:=by
 refine⟨c.len,c.ne,c.cap,c.blk.imp id fun⟨b,a,i,g,hc,e⟩=>⟨b,a,i,⟨g,aY hc⟩,hc,e⟩⟩
theorem kX{b:Nat}{t:TypeId}:∀(vs:List Value) (h:ad) (i o:Nat) (c:List Value),h[b]? =some (.cells c.toArray t (0,0))→o+i+vs.length≤c.length→
  fS h ⟨b,o,none⟩ i vs=h.setIfInBounds b (.cells (c.take (o+i)++vs++c.drop (o+i+vs.length)).toArray t (0,0))
 | [],h,i,o,c,hb,hl=>by
  simp only[fS,List.append_nil,aM,eg,aO];apply rk;intro j;rw[fJ];split
  ·rename_i e;subst e;rw[hb];simp[aY hb]
  ·rfl
 |v::vs,h,i,o,c,hb,hl=>by
  rw[ar]at hl;simp only[fS];rw[cd,yo hb];have a:(h.setIfInBounds b (.cells (c.toArray.setIfInBounds (o+i) v) t (0,0)))[b]? =some (.cells (c.set (o+i) v).toArray t (0,0)):=by
   rw[jE hb];simp
  rw[kX vs _ (i+1) o (c.set (o+i) v) a (by simp;omega)];have e:∀(x y:Obj),(h.setIfInBounds b x).setIfInBounds b y=h.setIfInBounds b y:=fun x y=>by
   apply rk;intro j;simp only[fJ,Array.size_setIfInBounds];split<;>rfl
  rw[e];congr 3
  apply List.ext_getElem?;intro j;simp only[List.getElem?_append,ac,aQ,List.length_set,ar,List.getElem?_take,List.getElem?_set,List.getElem?_drop];grind
theorem oQ(n:Nat)(z:List Value):(eK n z).length=n*z.length:=by
 unfold eK;induction n with
 |zero=>simp
 |succ n ih=>rw[List.replicate_succ,List.flatten_cons,ac,ih,mc];omega
theorem AppP.own{α:Type}{f:α→List Value}{g i:Nat}{t:TypeId}{M:Nat→Prop}{h:ad}{d:Option Addr}{sl m N:Nat}{xs ys:List α}{n z:List Value}{K:SliceV→ad→Prop}
  (o:OwnS f g t M h ⟨d,sl,m⟩ xs)(k:N=ys.length)(H:n=ys.flatMap f)(y:cH n=true)(S:z.length=g)(T:0<i)(v:(xs.length+ys.length)*i≤140737488355328)(hM:M h.size)
  (C:∀s' h',OwnS f g t M h' s' (xs++ys)→Upd M h h'→K s' h'):AppP (some z) g i t d sl m N n h K:=by
 have c:sl=xs.length:=o.len;have q:∀x,(f x).length=g:=fun x=>(o.ne x).1
 subst k H;have u:=pg q ys;have k:=pg q xs;refine⟨fun w=>?_,fun A=>?_⟩
 ·rcases o.blk with F|⟨b,a,L,p,hc,B⟩
  ·have F:m=0:=F
   have G:ys.length=0:=by omega
   have D:xs.length=0:=by omega
   have U:=aA.1 G;have hx:=aA.1 D;subst U hx;refine⟨.inl rfl,rfl,?_⟩;have e:ia h d (sl*g) (([]:List α).flatMap f)=h:=by cases d<;>rfl
   rw[e];exact C _ _ ⟨by simp[c],o.ne,by simp only[aM];omega,.inl F⟩ (Upd.refl _ _)
  ·have L:d=some ⟨b,0,none⟩:=L
   have B:a.length=(m-sl)*g:=B;subst L;have O:sl+ys.length≤m:=w;have P:ys.length*g≤a.length:=by rw[B];exact Nat.mul_le_mul_right _ (Nat.le_sub_of_add_le (show ys.length+sl≤m by omega))
   have s:0+sl*g+(ys.flatMap f).length≤(xs.flatMap f++a).length:=by
    rw[ac,k,u,c];omega
   refine⟨.inr ⟨_,rfl,fun j V=>?_⟩,y,?_⟩
   ·rw[cd]
    refine ip hc ?_;rw[dD];omega
   ·have e:ia h (some ⟨b,0,none⟩) (sl*g) (ys.flatMap f)=_:=kX (ys.flatMap f) h (sl*g) 0 _ hc s
    rw[e];have I:(xs.flatMap f++a).take (0+sl*g)=xs.flatMap f:=by
     rw[aR,c,←k,gP (aj _),List.take_length]
    have E:(xs.flatMap f++a).drop (0+sl*g+(ys.flatMap f).length)=a.drop (ys.length*g):=by
     rw[aR,c,←k,List.drop_append,iP (by omega),cN,u];congr 1;omega
    rw[I,E];refine C _ _ ⟨by simp[c],o.ne,w,.inr ⟨b,a.drop (ys.length*g),rfl,p,?_,?_⟩⟩ (Upd.set h _ p)
    ·rw[jE hc,bI]
    ·rw[aV,B]
     simp only;rw[show m-(sl+ys.length)=(m-sl)-ys.length by omega,Nat.sub_mul (m-sl)]
 ·have R:m*1≤m:=by omega
  refine⟨xs.flatMap f,z,?_,rfl,T,Go.growslice_fits A (by rw[c];exact v),fun Q J=>?_⟩
  ·exact(o.sl (W:=No) fun _ _ _=>id).srow
  ·refine C _ _ ⟨by simp[c],o.ne,J,.inr ⟨h.size,eK (Q-(sl+ys.length)) z,rfl,hM,?_,?_⟩⟩ (Upd.hnew M h _ _)
   ·rw[co,bI]
   ·rw[oQ,S]
end Go.Lift
namespace Go.Lift
open Go
theorem bG{h:ad}{k:ad→Prop}(a:k h):At h k:=a
theorem mh{b o l m a:Nat}(h:m≠l):aW (some ⟨b,o,none⟩) l m a=some ⟨b,o+l*a,none⟩:=by simp[aW,h,cd]
theorem sub_zero{b m a:Nat}:aW (some ⟨b,0,none⟩) 0 m a=some ⟨b,0,none⟩:=by
 unfold aW;split
 ·rfl
 ·simp[cd]
theorem nI{h:ad}{b:Nat}{c:List Value}{t:TypeId}{o n:Nat}{vs:List Value}{a:Option Addr}{k:ad→Prop}(f:SRow h a n vs)(m:cH vs=true)(d:h[b]? =some (.cells c.toArray t (0,0)))
  (p:o+n≤c.length) (i:∀h',h'[b]? =some (.cells (c.take o++vs++c.drop (o+n)).toArray t (0,0))→Upd (· =b) h h'→k h'):
  ∃xs,SRow h a n xs∧rE h (some ⟨b,o,none⟩) 0 xs∧cH xs=true∧At (ia h (some ⟨b,o,none⟩) 0 xs) k:=by
 have g:=f.1;refine⟨vs,f,.inr ⟨_,rfl,fun j q=>?_⟩,m,bG ?_⟩
 ·rw[cd];exact ip d (by rw[dD];omega)
 ·have e:ia h (some ⟨b,o,none⟩) 0 vs=_:=kX vs h 0 o c d (by omega)
  rw[e];refine i _ ?_ (Upd.set h _ rfl);rw[jE d,eg,g]
theorem nZ{h:ad}{b:Nat}{c:List Value}{t:TypeId}{o n:Nat}{vs:List Value}(e:h[b]? =some (.cells c.toArray t (0,0))) (a:vs.length=n) (d:(c.drop o).take n=vs):SRow h (some ⟨b,o,none⟩) n vs:=by
 refine⟨a,.inr ⟨_,rfl,ox e fun i v hv=>?_⟩⟩
 rw[gS,←List.getElem?_drop];have:((c.drop o).take n)[i]? =some v:=by rw[d];exact hv
 rw[List.getElem?_take]at this;split at this
 ·exact this
 ·cases this
section
variable {α:Type} {f:α→List Value} {sz:Nat}
theorem ni(a:∀x,(f x).length=sz∧0<sz)(xs:List α):(xs.flatMap f).length=xs.length*sz:=pg (fun x=>(a x).1) xs
theorem Dm(xs:List α)(k:Nat):xs.flatMap f=(xs.take k).flatMap f++(xs.drop k).flatMap f:=by rw[←bI,aO]
end
theorem N0{α:Type}{A X B Z1 Z2:List α}{p q r:Nat}(b:A.length=p)(e:X.length=q)(f:Z1.length=r+q):
  (((A++Z1++Z2).take p++X++(A++Z1++Z2).drop (p+q)).take (p+q))++B++((A++Z1++Z2).take p++X++(A++Z1++Z2).drop (p+q)).drop (p+q+r)=A++(X++B)++Z2:=by
 have c:(A++Z1++Z2).take p=A:=by rw[aq,dE b]
 have d:(A++Z1++Z2).drop (p+q)=Z1.drop q++Z2:=by
  rw[aq,←dZ,cP b,gQ (by omega)]
 have a:(A++X).length=p+q:=by rw[ac];omega
 rw[c,d,dE a,←dZ,cP a,gQ (by rw[aV];omega),dZ,iP (by omega),cN];simp only[aq]
theorem SP{α:Type}{A X B R:List α}{p q r:Nat}(c:A.length=p)(f:B.length=r)(e:q≤R.length):
  (((A++B++R).take (p+q)++B++(A++B++R).drop (p+q+r)).take p)++X++((A++B++R).take (p+q)++B++(A++B++R).drop (p+q+r)).drop (p+q)=A++(X++B)++R.drop q:=by
 have d:((A++B++R).take (p+q)).length=p+q:=by rw[aQ,ac,ac];omega
 have a:(A++B++R).drop (p+q+r)=R.drop q:=by
  rw[show p+q+r=(p+r)+q by omega,←dZ,cP (by rw[ac];omega)]
 have b:((A++B++R).take (p+q)++(B++(A++B++R).drop (p+q+r))).take p=A:=by
  rw[gP (by omega),List.take_take,Nat.min_eq_left (by omega),aq,dE c]
 rw[aq ((A++B++R).take (p+q)),b,cP d,a];simp only[aq]
theorem Tl{h:ad}{b:Nat}{c:List Value}{t n:TypeId}{d a sl i f:Nat}{xs:List Value}{z:Option (List Value)}{K:SliceV→ad→Prop}(g:h[b]? =some (.cells c.toArray t (0,0)))
  (p:sl*d+xs.length≤c.length) (o:sl+f≤i) (k:cH xs=true) (m:∀h',h'[b]? =some (.cells (c.take (sl*d)++xs++c.drop (sl*d+xs.length)).toArray t (0,0))→Upd (· =b) h h'→K ⟨some ⟨b,0,none⟩,sl+f,i⟩ h'):
  AppP z d a n (some ⟨b,0,none⟩) sl i f xs h K:=by
 refine⟨fun _=>⟨.inr ⟨_,rfl,fun j q=>?_⟩,k,?_⟩,fun h=>by omega⟩
 ·rw[cd];exact ip g (by rw[dD];omega)
 ·have e:ia h (some ⟨b,0,none⟩) (sl*d) xs=_:=kX xs h (sl*d) 0 c g (by omega)
  rw[e];refine m _ ?_ (Upd.set h _ rfl);rw[jE g,aR]
theorem NM{h:ad}{b:Nat}{c:List Value}{t:TypeId}{o:Nat}{vs:List Value}{k:ad→Prop}(a:h[b]? =some (.cells c.toArray t (0,0)))
  (g:o+vs.length≤c.length) (d:∀h',h'[b]? =some (.cells (c.take o++vs++c.drop (o+vs.length)).toArray t (0,0))→Upd (· =b) h h'→k h'):
  rE h (some ⟨b,o,none⟩) 0 vs∧At (ia h (some ⟨b,o,none⟩) 0 vs) k:=by
 refine⟨.inr ⟨_,rfl,fun j f=>?_⟩,bG ?_⟩
 ·rw[cd];exact ip a (by rw[dD];omega)
 ·have e:ia h (some ⟨b,o,none⟩) 0 vs=_:=kX vs h 0 o c a (by omega)
  rw[e];refine d _ ?_ (Upd.set h _ rfl);rw[jE a,eg]
end Go.Lift
namespace Go.Lift
open Go
structure Takes{α:Type}(P:Program)(y:Value)(enc:α→List Value)(N:Nat)(J:List α→(Nat→Prop)→ad→Prop):Prop where
 lt:∀pre A h,J pre A h→∀b,A b→b<h.size
 keep:∀pre A h h' B,J pre A h→Upd B h h'→(∀b,A b→¬B b)→J pre A h'
 step:∀pre A h x (K:Bool→ad→Prop),J pre A h→pre.length<N→(∀h' A',J (pre++ [x]) A' h'→Upd A h h'→(∀b,A' b→A b∨h.size≤b)→K true h')→HV P y (enc x) [.c .bool] K h
structure Gives{α:Type}(P:Program)(fv:Value)(enc:α→List Value)(N:Nat)(S:List α→Prop)(Q:Nat→Prop)(h:ad):Prop where
 lt:∀b,Q b→b<h.size
 run:∃f first cap,fv=.func (.func f) first cap∧∀(y:Value) (J:List α→(Nat→Prop)→ad→Prop) (A M:Nat→Prop) (h1:ad) (K:Unit→ad→Prop),Takes P y enc N J→J [] A h1→Upd M h h1→(∀b,Q b→¬M b)→(∀b,A b→¬Q b)→
  (∀xs A' h',S xs→J xs A' h'→Upd A h1 h'→(∀b,A' b→A b∨h1.size≤b)→K () h')→HE P f (first.toList++ [y]++cap.toList) [] K h1
theorem Gives.upd{α:Type}{P:Program}{c:Value}{enc:α→List Value}{N:Nat}{S:List α→Prop}{Q M:Nat→Prop}{h h':ad}(g:Gives P c enc N S Q h)(k:Upd M h h')(hm:∀b,Q b→¬M b):Gives P c enc N S Q h':=by
 obtain⟨f,first,cap,e,o⟩:=g.run
 refine⟨fun b a=>aG (g.lt b a) k.size,f,first,cap,e,fun y J A M' m K j p i d q n=>?_⟩
 exact o y J A (fun b=>M b∨M' b) m K j p ((k.mono fun b a=>.inl (.inl a)).tr (i.mono fun b a=>.inl (.inr a))) (fun b a h=>h.elim (hm b a) (d b a)) q n
end Go.Lift
