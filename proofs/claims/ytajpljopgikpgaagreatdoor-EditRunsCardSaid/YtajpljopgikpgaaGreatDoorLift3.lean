/- A part of the proof that the named laws of this program answer true, whatever the input. -/
import Derived.Test.YtajpljopgikpgaaGreatDoorLift2
open Array renaming ext_getElem?→ni,getElem?_setIfInBounds→cG,getElem?_eq_some_iff→cd
open List renaming flatMap_cons→aX,length_append→ae,length_cons→aN,getElem?_append_left→co,getElem?_append_right→cL,getElem?_eq_some_iff→aW,length_take→aI,length_drop→aL,take_append_drop→aV,flatMap_append→bA,length_eq_zero_iff→bV,getElem?_toArray→gj,length_nil→cF,getElem?_take→nf,getElem?_drop→ng,size_toArray→cP,take_append_of_le_length→fc,drop_eq_nil_of_le→eV,nil_append→gQ,append_assoc→ar,take_left'→cS,drop_drop→dH,drop_left'→cq,drop_append_of_le_length→ff
open Nat renaming lt_or_ge→bH,le_refl→ao,not_lt→um,succ_mul→iM,zero_add→aE,add_zero→cZ
namespace Go.Lift
open Go
attribute [simp] aA aj
theorem aG{p:Prop}[Decidable p]{t e:Prop}(a:p→t)(b:¬p→e):CondP (decide p) t e:=CondP.intro (fun h=>a (of_decide_eq_true h)) (fun h=>b (of_decide_eq_false h))
theorem HC.mono{P:Program}{f:FuncId}{args:List Value}{ks:List Kind}{K d:sU ks→ad→Prop}{h:ad}(hc:HC P f args ks K h)(c:∀t h',K t h'→d t h'):HC P f args ks d h:=by
 refine⟨fun w j=>?_⟩
 rcases hc.run w j with⟨a,b⟩|⟨v,w',a,b,t,k,i⟩
 ·exact .inl ⟨a,b.mono fun e w' ⟨n,t,m,g⟩=>⟨n,t,m,c t _ g⟩⟩
 ·exact .inr ⟨v,w',a,b,t,k,c t _ i⟩
theorem Join.intro{T:Type}{a:T→ad→Prop}{k:(T→ad→Prop)→Prop}(J:T→ad→Prop)(c:∀R:T→ad→Prop,(∀t h,J t h→R t h)→k R)(b:∀t h,J t h→a t h):Join a k:=⟨c a b⟩
theorem Join.plain{T:Type}{a:T→ad→Prop}{k:(T→ad→Prop)→Prop}(h:k a):Join a k:=⟨h⟩
theorem LoopP.intro{T:Type}{F:(T→ad→Prop)→T→ad→Prop}{t:T}{h:ad}(Inv:T→ad→Prop)(m:T→ad→Nat)(f:Inv t h)
  (step:∀I:T→ad→Prop,∀t h,Inv t h→(∀b a,Inv b a→m b a<m t h→I b a)→F I t h):LoopP F t h:=by
 refine⟨fun I g=>?_⟩
 have key:∀n t h,m t h=n→Inv t h→I t h:=by
  intro n;induction n using Nat.strongRecOn with
  |_ n ih=>exact fun t h e hi=>g t h (step I t h hi fun b a c d=>ih _ (e▸d) b a rfl c)
 exact key _ t h rfl f
theorem LoopP.ghost{T G:Type}{F:(T→ad→Prop)→T→ad→Prop}{t:T}{h:ad}(Inv:G→T→ad→Prop)(m:G→Nat)(g:G)(i:Inv g t h)
  (step:∀I:T→ad→Prop,∀g t h,Inv g t h→(∀b c a,Inv b c a→m b<m g→I c a)→F I t h):LoopP F t h:=by
 refine⟨fun I j=>?_⟩
 have key:∀n g t h,m g=n→Inv g t h→I t h:=by
  intro n;induction n using Nat.strongRecOn with
  |_ n ih=>exact fun g t h f hi=>j t h (step I g t h hi fun b c a d e=>ih _ (f▸e) b c a rfl d)
 exact key _ g t h rfl i
theorem HV.mk'{P:Program}{f:FuncId}{first cap:Array Value}{args:List Value}{ks:List Kind}{K:sU ks→ad→Prop}{h:ad}(hc:HC P f (first.toList++args++cap.toList) ks K h):HV P (.func (.func f) first cap) args ks K h:=
 ⟨.inl ⟨f,first,cap,rfl,hc⟩⟩
@[simp] theorem bL(b o n:Nat):adr ⟨b,o,none⟩ n=⟨b,o+n,none⟩:=by
 cases n<;>rfl
@[simp] theorem wi(a:Addr)(n:Nat):(adr a n).block=a.block:=by
 cases n<;>rfl
theorem fR(h:ad):aC h=⟨h.size,0,none⟩:=rfl
theorem Ia{h:ad}{a:Addr}{v:Value}(hv:aM h a=some v):a.block<h.size:=by
 unfold aM at hv;rcases bH a.block h.size with b|b
 ·exact b
 ·rw[Array.getElem?_eq_none b]at hv;cases hv
theorem bj{h:ad}{b i:Nat}{c:Array Value}{e:TypeId}{fr:Nat×Nat}(a:h[b]? =some (.cells c e fr)):aM h ⟨b,i,none⟩=c[i]?:=by
 unfold aM;rw[a];rfl
theorem Kt{h b:ad}{a:Addr}(c:b[a.block]? =h[a.block]?):aM b a=aM h a:=by
 unfold aM;rw[c]
theorem C3{h:ad}{b i:Nat}{c:Array Value}{e:TypeId}{fr:Nat×Nat}{v:Value}(f:h[b]? =some (.cells c e fr)):
  hset h ⟨b,i,none⟩ v=h.setIfInBounds b (.cells (c.setIfInBounds i v) e fr):=by
 unfold hset;apply ni;intro j;rw[Array.getElem?_modify,cG];by_cases d:b=j
 ·subst d
  have a:=(cd.1 f).1;simp only[f,if_true,a,Option.map_some];rfl
 ·simp[d]
theorem ia{h:ad}{b i:Nat}{c:Array Value}{e:TypeId}(a:h[b]? =some (.cells c e (0,0))) (hi:i<c.size):Wr h ⟨b,i,none⟩:=by
 refine⟨⟨c[i],by rw[bj a,Array.getElem?_eq_getElem hi]⟩,?_⟩
 unfold B8;rw[a];simp
structure Upd(M:Nat→Prop)(h h':ad):Prop where
 size:h.size≤h'.size
 same:∀b,b<h.size→¬M b→h'[b]? =h[b]?
abbrev No:Nat→Prop:=fun _=>False
theorem Upd.refl(M:Nat→Prop)(h:ad):Upd M h h:=⟨ao _,fun _ _ _=>rfl⟩
theorem Upd.trans{M M':Nat→Prop}{h e f:ad}(k:Upd M h e)(l:Upd M' e f)(g:∀b,M' b→M b∨h.size≤b):Upd M h f:=
 ⟨Nat.le_trans k.size l.size,fun b a d=>by
  rw[l.same b (Nat.lt_of_lt_of_le a k.size) (fun hm=>(g b hm).elim d fun c=>absurd a (um.2 c)),k.same b a d]⟩
theorem Upd.tr{M:Nat→Prop}{h a b:ad}(k:Upd M h a)(l:Upd M a b):Upd M h b:=k.trans l fun _ h=>.inl h
theorem Upd.mono{M M':Nat→Prop}{h c:ad}(k:Upd M h c)(f:∀b,M b→M' b∨h.size≤b):Upd M' h c:=
 ⟨k.size,fun b d e=>k.same b d fun hm=>(f b hm).elim e fun a=>absurd d (um.2 a)⟩
theorem Upd.wide{M:Nat→Prop}{h a:ad}(k:Upd No h a):Upd M h a:=k.mono fun _ h=>h.elim
theorem Upd.get{M:Nat→Prop}{h a:ad}(k:Upd M h a){b:Nat}{o:Obj}(c:h[b]? =some o) (d:¬M b):a[b]? =some o:=by
 rw[k.same b (cd.1 c).1 d,c]
theorem Upd.get0{h a:ad}(k:Upd No h a){b:Nat}{o:Obj}(c:h[b]? =some o):a[b]? =some o:=k.get c id
theorem Upd.cell{M:Nat→Prop}{h b:ad}(k:Upd M h b){a:Addr}{v:Value}(hv:aM h a=some v)(c:¬M a.block):aM b a=some v:=by
 rw[Kt (k.same _ (Ia hv) c),hv]
theorem Upd.cell0{h b:ad}(k:Upd No h b){a:Addr}{v:Value}(hv:aM h a=some v):aM b a=some v:=k.cell hv id
theorem Upd.push(M:Nat→Prop)(h:ad)(o:Obj):Upd M h (h.push o):=⟨by simp,fun b a _=>by rw[Array.getElem?_push];simp[Nat.ne_of_lt a]⟩
theorem Upd.set{M:Nat→Prop}(h:ad){b:Nat}(o:Obj)(d:M b):Upd M h (h.setIfInBounds b o):=⟨by simp,fun c _ a=>by
 rw[cG]
 have:b≠c:=fun e=>a (e▸d)
 simp[this]⟩
theorem Upd.hset{M:Nat→Prop}(h:ad){a:Addr}(v:Value)(d:M a.block):Upd M h (hset h a v):=⟨by simp[Go.Lift.hset],fun c _ b=>by
 unfold Go.Lift.hset
 rw[Array.getElem?_modify]
 have:a.block≠c:=fun e=>b (e▸d)
 simp[this]⟩
theorem Upd.hnew(M:Nat→Prop)(h:ad)(cs:List Value)(t:TypeId):Upd M h (hnew h cs t):=Upd.push M h _
theorem cW(h:ad)(cs:List Value)(t:TypeId):(hnew h cs t)[h.size]? =some (.cells cs.toArray t (0,0)):=by
 unfold hnew;simp
theorem CJ(h:ad)(o:Obj):(h.push o)[h.size]? =some o:=by simp
theorem kA(h:ad)(cs:List Value)(t:TypeId):(hnew h cs t).size=h.size+1:=by
 unfold hnew;simp
theorem jL{h:ad}{b:Nat}{o c:Obj}(a:h[b]? =some c):(h.setIfInBounds b o)[b]? =some o:=by
 rw[cG];simp[(cd.1 a).1]
theorem aD{h:ad}{b:Nat}{o:Obj}(a:h[b]? =some o):b<h.size:=(cd.1 a).1
theorem Row.upd{M:Nat→Prop}{h b:ad}{a:Addr}{vs:List Value}(d:Row h a vs)(k:Upd M h b)(c:¬M a.block):Row b a vs:=fun i v hv=>k.cell (d i v hv) (by rw[wi];exact c)
theorem SRow.upd{M:Nat→Prop}{h d:ad}{a:Option Addr}{n:Nat}{vs:List Value}(c:SRow h a n vs)(k:Upd M h d)(f:vs≠[]→∀b,a=some b→¬M b.block):SRow d a n vs:=by
 obtain⟨g,i⟩:=c;refine⟨g,?_⟩;rcases i with rfl|⟨b,e,c⟩
 ·exact .inl rfl
 ·by_cases hv:vs= []
  ·exact .inl hv
  ·exact .inr ⟨b,e,c.upd k (f hv b e)⟩
theorem oV{h:ad}{b o:Nat}{c:Array Value}{e:TypeId}{fr:Nat×Nat}(a:h[b]? =some (.cells c e fr)) {vs:List Value} (hv:∀i v,vs[i]? =some v→c[o+i]? =some v):Row h ⟨b,o,none⟩ vs:=fun i v hi=>by
 rw[bL,bj a];exact hv i v hi
structure Sl{α:Type}(f:α→List Value)(sz:Nat)(W:Nat→Prop)(h:ad)(s:SliceV)(xs:List α):Prop where
 len:s.len=xs.length
 ne:∀x,(f x).length=sz∧0<sz
 row:xs≠[]→∃a,s.a=some a∧¬W a.block∧Row h a (xs.flatMap f)
theorem Sl.nil{α:Type}{f:α→List Value}{b:Nat}{W:Nat→Prop}{h:ad}{a:Option Addr}{c:Nat}(d:∀x,(f x).length=b∧0<b):Sl f b W h ⟨a,0,c⟩ []:=⟨rfl,d,fun h=>absurd rfl h⟩
theorem Sl.lt{α:Type}{f:α→List Value}{i:Nat}{W:Nat→Prop}{h:ad}{s:SliceV}{xs:List α}(d:Sl f i W h s xs)(hx:xs≠[]){a:Addr}(g:s.a=some a):a.block<h.size:=by
 obtain⟨a',b,j,e⟩:=d.row hx;rw[g]at b;cases b;cases xs with
 |nil=>exact absurd rfl hx
 |cons x xs=>
  have c:=d.ne x;cases hf:f x with
  |nil=>rw[hf]at c;simp at c;omega
  |cons v vs=>
   have:=e 0 v (by rw[aX,hf];rfl);have:=Ia this;rw[wi]at this;exact this
theorem Sl.upd{α:Type}{f:α→List Value}{j:Nat}{W M:Nat→Prop}{h g:ad}{s:SliceV}{xs:List α}(c:Sl f j W h s xs)(k:Upd M h g)(hm:∀b,M b→W b∨h.size≤b):Sl f j W g s xs:=by
 refine⟨c.len,c.ne,fun hx=>?_⟩
 obtain⟨a,i,e,m⟩:=c.row hx;exact⟨a,i,e,m.upd k fun n=>(hm _ n).elim e fun d=>absurd (c.lt hx i) (um.2 d)⟩
theorem Sl.less{α:Type}{f:α→List Value}{g:Nat}{W W':Nat→Prop}{h:ad}{s:SliceV}{xs:List α}(c:Sl f g W h s xs)(hm:∀b,W' b→W b∨h.size≤b):Sl f g W' h s xs:=
 ⟨c.len,c.ne,fun hx=>let⟨a,e,i,j⟩:=c.row hx;⟨a,e,fun k=>(hm _ k).elim i fun d=>absurd (c.lt hx e) (um.2 d),j⟩⟩
theorem kZ{α:Type}{f:α→List Value}{b:Nat}(a:∀x,(f x).length=b):∀xs:List α,(xs.flatMap f).length=xs.length*b
 | []=>by simp
 |x::xs=>by rw[aX,ae,a,kZ a xs,aN,iM];omega
theorem vj{α:Type}{f:α→List Value}{b:Nat}(a:∀x,(f x).length=b):∀(xs:List α) (i j:Nat) (x:α),xs[i]? =some x→j<b→(xs.flatMap f)[i*b+j]? =(f x)[j]?
 | [],i,j,x,h,_=>by simp at h
 |y::xs,0,j,x,h,hj=>by
  simp only[List.getElem?_cons_zero,Option.some.injEq]at h;subst h;rw[aX,Nat.zero_mul,aE,co (by rw[a];exact hj)]
 |y::xs,i+1,j,x,h,hj=>by
  rw[List.getElem?_cons_succ]at h;rw[aX,cL (by rw[a,iM];omega),a,show(i+1)*b+j-b=i*b+j by rw[iM];omega]
  exact vj a xs i j x h hj
theorem Sl.at{α:Type}{f:α→List Value}{b:Nat}{W:Nat→Prop}{h:ad}{s:SliceV}{xs:List α}(c:Sl f b W h s xs){i:Nat}{x:α}(hi:xs[i]? =some x):
  ∃a,s.a=some a∧¬W a.block∧∀j v,(f x)[j]? =some v→aM h (adr (adr a (i*b)) j)=some v:=by
 obtain⟨a,k,d,g⟩:=c.row (fun e=>by subst e;simp at hi)
 refine⟨a,k,d,fun j v hv=>?_⟩
 have m:j<b:=by rw[←(c.ne x).1];exact(aW.1 hv).1
 rw[y3];exact g _ v (by rw[vj (fun x=>(c.ne x).1) xs i j x hi m];exact hv)
theorem Sl.at0{α:Type}{g:α→Value}{W:Nat→Prop}{h:ad}{s:SliceV}{xs:List α}(d:Sl (fun x=> [g x]) 1 W h s xs){i:Nat}{x:α}(hi:xs[i]? =some x):
  ∃a,s.a=some a∧¬W a.block∧aM h (adr a (i*1))=some (g x):=by
 obtain⟨a,c,b,e⟩:=d.at hi;exact⟨a,c,b,e 0 _ rfl⟩
theorem Sl.srow{α:Type}{f:α→List Value}{c:Nat}{W:Nat→Prop}{h:ad}{s:SliceV}{xs:List α}(b:Sl f c W h s xs):SRow h s.a (s.len*c) (xs.flatMap f):=by
 refine⟨?_,?_⟩
 ·rw[b.len,kZ fun x=>(b.ne x).1]
 ·by_cases hx:xs= []
  ·subst hx;exact .inl rfl
  ·obtain⟨a,d,_,e⟩:=b.row hx
   exact .inr ⟨a,d,e⟩
theorem Sl.sub{α:Type}{f:α→List Value}{b:Nat}{W:Nat→Prop}{h:ad}{s:SliceV}{xs:List α}(d:Sl f b W h s xs){l hi m c:Nat}(t:l≤hi)(g:hi≤xs.length)(q:hi≤m):
  Sl f b W h ⟨bh s.a l m b,hi-l,c⟩ ((xs.drop l).take (hi-l)):=by
 refine⟨by simp only[aI,aL];omega,d.ne,fun hx=>?_⟩
 have p:l<hi:=by
  rcases bH l hi with h|h
  ·exact h
  ·rw[Nat.sub_eq_zero_of_le h]at hx;exact absurd List.take_zero hx
 obtain⟨a,n,j,k⟩:=d.row (fun e=>by rw[e]at g;simp at g;omega)
 refine⟨adr a (l*b),?_,by rw[wi];exact j,fun i v hv=>?_⟩
 ·unfold bh
  rw[if_neg (by omega),n];rfl
 ·rw[y3]
  refine k _ v ?_;have e:xs=xs.take l++((xs.drop l).take (hi-l)++(xs.drop l).drop (hi-l)):=by rw[aV,aV]
  rw[e,bA,bA];have o:((xs.take l).flatMap f).length=l*b:=by rw[kZ fun x=>(d.ne x).1,aI];congr 1;omega
  rw[cL (by omega),o,Nat.add_sub_cancel_left,co (aW.1 hv).1];exact hv
structure OwnS{α:Type}(f:α→List Value)(sz:Nat)(t:TypeId)(M:Nat→Prop)(h:ad)(s:SliceV)(xs:List α):Prop where
 len:s.len=xs.length
 ne:∀x,(f x).length=sz∧0<sz
 cap:s.len≤s.cap
 blk:s.cap=0∨∃b rest,s.a=some ⟨b,0,none⟩∧M b∧h[b]? =some (.cells (xs.flatMap f++rest).toArray t (0,0))∧rest.length=(s.cap-s.len)*sz
theorem OwnS.nil{α:Type}{f:α→List Value}{b:Nat}{t:TypeId}{M:Nat→Prop}{h:ad}{a:Option Addr}(c:∀x,(f x).length=b∧0<b):OwnS f b t M h ⟨a,0,0⟩ []:=⟨rfl,c,ao _,.inl rfl⟩
theorem OwnS.sl{α:Type}{f:α→List Value}{c:Nat}{t:TypeId}{M W:Nat→Prop}{h:ad}{s:SliceV}{xs:List α}(a:OwnS f c t M h s xs)(hm:∀b,M b→b<h.size→¬W b):Sl f c W h s xs:=by
 refine⟨a.len,a.ne,fun hx=>?_⟩
 rcases a.blk with j|⟨b,d,e,g,hc,_⟩
 ·have:=a.len;have:=a.cap
  have:xs.length=0:=by omega
  exact absurd (bV.1 this) hx
 ·exact⟨_,e,hm b g (aD hc),oV hc fun i v hv=>by
   rw[aE,gj,co (aW.1 hv).1];exact hv⟩
theorem OwnS.upd{α:Type}{f:α→List Value}{g:Nat}{t:TypeId}{M M':Nat→Prop}{h d:ad}{s:SliceV}{xs:List α}(c:OwnS f g t M h s xs)(k:Upd M' h d)(hm:∀b,M b→¬M' b):OwnS f g t M d s xs:=by
 refine⟨c.len,c.ne,c.cap,c.blk.imp id fun⟨b,a,j,e,hc,i⟩=>⟨b,a,j,e,k.get hc (hm b e),i⟩⟩
theorem OwnS.more{α:Type}{f:α→List Value}{d:Nat}{t:TypeId}{M M':Nat→Prop}{h:ad}{s:SliceV}{xs:List α}(c:OwnS f d t M h s xs)(hm:∀b,M b→M' b):OwnS f d t M' h s xs:=by
 refine⟨c.len,c.ne,c.cap,c.blk.imp id fun⟨b,a,g,i,hc,e⟩=>⟨b,a,g,hm b i,hc,e⟩⟩
theorem OwnS.within{α:Type}{f:α→List Value}{d:Nat}{t:TypeId}{M:Nat→Prop}{h:ad}{s:SliceV}{xs:List α}(c:OwnS f d t M h s xs):OwnS f d t (fun b=>M b∧b<h.size) h s xs:=by
 refine⟨c.len,c.ne,c.cap,c.blk.imp id fun⟨b,a,g,i,hc,e⟩=>⟨b,a,g,⟨i,aD hc⟩,hc,e⟩⟩
theorem iB{b:Nat}{t:TypeId}:∀(vs:List Value) (h:ad) (i o:Nat) (c:List Value),h[b]? =some (.cells c.toArray t (0,0))→o+i+vs.length≤c.length→
  gT h ⟨b,o,none⟩ i vs=h.setIfInBounds b (.cells (c.take (o+i)++vs++c.drop (o+i+vs.length)).toArray t (0,0))
 | [],h,i,o,c,hb,hl=>by
  simp only[gT,List.append_nil,cF,cZ,aV];apply ni;intro j;rw[cG];split
  ·rename_i e;subst e;rw[hb];simp[aD hb]
  ·rfl
 |v::vs,h,i,o,c,hb,hl=>by
  rw[aN]at hl;simp only[gT];rw[bL,C3 hb];have a:(h.setIfInBounds b (.cells (c.toArray.setIfInBounds (o+i) v) t (0,0)))[b]? =some (.cells (c.set (o+i) v).toArray t (0,0)):=by
   rw[jL hb];simp
  rw[iB vs _ (i+1) o (c.set (o+i) v) a (by simp;omega)];have e:∀(x y:Obj),(h.setIfInBounds b x).setIfInBounds b y=h.setIfInBounds b y:=fun x y=>by
   apply ni;intro j;simp only[cG,Array.size_setIfInBounds];split<;>rfl
  rw[e];congr 3
  apply List.ext_getElem?;intro j;simp only[List.getElem?_append,ae,aI,List.length_set,aN,nf,List.getElem?_set,ng];grind
theorem kO(n:Nat)(z:List Value):(dy n z).length=n*z.length:=by
 unfold dy;induction n with
 |zero=>simp
 |succ n ih=>rw[List.replicate_succ,List.flatten_cons,ae,ih,iM];omega
theorem AppP.own{α:Type}{f:α→List Value}{i g:Nat}{t:TypeId}{M:Nat→Prop}{h:ad}{d:Option Addr}{sl k N:Nat}{xs ys:List α}{o z:List Value}{K:SliceV→ad→Prop}
  (n:OwnS f i t M h ⟨d,sl,k⟩ xs)(m:N=ys.length)(L:o=ys.flatMap f)(v:ce o=true)(hz:z.length=i)(Q:0<g)(u:(xs.length+ys.length)*g≤140737488355328)(hM:M h.size)
  (H:∀s' h',OwnS f i t M h' s' (xs++ys)→Upd M h h'→K s' h'):AppP (some z) i g t d sl k N o h K:=by
 have c:sl=xs.length:=n.len;have s:∀x,(f x).length=i:=fun x=>(n.ne x).1
 subst m L;have A:=kZ s ys;have m:=kZ s xs;refine⟨fun p=>?_,fun q=>?_⟩
 ·rcases n.blk with J|⟨b,a,G,y,hc,B⟩
  ·have J:k=0:=J
   have F:ys.length=0:=by omega
   have E:xs.length=0:=by omega
   have T:=bV.1 F;have hx:=bV.1 E;subst T hx;refine⟨.inl rfl,rfl,?_⟩;have e:fF h d (sl*i) (([]:List α).flatMap f)=h:=by cases d<;>rfl
   rw[e];exact H _ _ ⟨by simp[c],n.ne,by simp only[cF];omega,.inl J⟩ (Upd.refl _ _)
  ·have G:d=some ⟨b,0,none⟩:=G
   have B:a.length=(k-sl)*i:=B;subst G;have O:sl+ys.length≤k:=p;have P:ys.length*i≤a.length:=by rw[B];exact Nat.mul_le_mul_right _ (Nat.le_sub_of_add_le (show ys.length+sl≤k by omega))
   have w:0+sl*i+(ys.flatMap f).length≤(xs.flatMap f++a).length:=by
    rw[ae,m,A,c];omega
   refine⟨.inr ⟨_,rfl,fun j V=>?_⟩,v,?_⟩
   ·rw[bL]
    refine ia hc ?_;rw[cP];omega
   ·have e:fF h (some ⟨b,0,none⟩) (sl*i) (ys.flatMap f)=_:=iB (ys.flatMap f) h (sl*i) 0 _ hc w
    rw[e];have D:(xs.flatMap f++a).take (0+sl*i)=xs.flatMap f:=by
     rw[aE,c,←m,fc (ao _),List.take_length]
    have I:(xs.flatMap f++a).drop (0+sl*i+(ys.flatMap f).length)=a.drop (ys.length*i):=by
     rw[aE,c,←m,List.drop_append,eV (by omega),gQ,A];congr 1;omega
    rw[D,I];refine H _ _ ⟨by simp[c],n.ne,p,.inr ⟨b,a.drop (ys.length*i),rfl,y,?_,?_⟩⟩ (Upd.set h _ y)
    ·rw[jL hc,bA]
    ·rw[aL,B]
     simp only;rw[show k-(sl+ys.length)=(k-sl)-ys.length by omega,Nat.sub_mul (k-sl)]
 ·have S:k*1≤k:=by omega
  refine⟨xs.flatMap f,z,?_,rfl,Q,Go.growslice_fits q (by rw[c];exact u),fun R C=>?_⟩
  ·exact(n.sl (W:=No) fun _ _ _=>id).srow
  ·refine H _ _ ⟨by simp[c],n.ne,C,.inr ⟨h.size,dy (R-(sl+ys.length)) z,rfl,hM,?_,?_⟩⟩ (Upd.hnew M h _ _)
   ·rw[cW,bA]
   ·rw[kO,hz]
end Go.Lift
namespace Go.Lift
open Go
theorem bT{h:ad}{k:ad→Prop}(a:k h):At h k:=a
theorem iR{b o l m a:Nat}(h:m≠l):bh (some ⟨b,o,none⟩) l m a=some ⟨b,o+l*a,none⟩:=by simp[bh,h,bL]
theorem sub_zero{b m a:Nat}:bh (some ⟨b,0,none⟩) 0 m a=some ⟨b,0,none⟩:=by
 unfold bh;split
 ·rfl
 ·simp[bL]
theorem j7{h:ad}{b:Nat}{c:List Value}{t:TypeId}{o n:Nat}{vs:List Value}{a:Option Addr}{k:ad→Prop}(f:SRow h a n vs)(m:ce vs=true)(d:h[b]? =some (.cells c.toArray t (0,0)))
  (q:o+n≤c.length) (i:∀h',h'[b]? =some (.cells (c.take o++vs++c.drop (o+n)).toArray t (0,0))→Upd (· =b) h h'→k h'):
  ∃xs,SRow h a n xs∧sS h (some ⟨b,o,none⟩) 0 xs∧ce xs=true∧At (fF h (some ⟨b,o,none⟩) 0 xs) k:=by
 have g:=f.1;refine⟨vs,f,.inr ⟨_,rfl,fun j p=>?_⟩,m,bT ?_⟩
 ·rw[bL];exact ia d (by rw[cP];omega)
 ·have e:fF h (some ⟨b,o,none⟩) 0 vs=_:=iB vs h 0 o c d (by omega)
  rw[e];refine i _ ?_ (Upd.set h _ rfl);rw[jL d,cZ,g]
theorem kD{h:ad}{b:Nat}{c:List Value}{t:TypeId}{o n:Nat}{vs:List Value}(e:h[b]? =some (.cells c.toArray t (0,0))) (d:vs.length=n) (a:(c.drop o).take n=vs):SRow h (some ⟨b,o,none⟩) n vs:=by
 refine⟨d,.inr ⟨_,rfl,oV e fun i v hv=>?_⟩⟩
 rw[gj,←ng];have:((c.drop o).take n)[i]? =some v:=by rw[a];exact hv
 rw[nf]at this;split at this
 ·exact this
 ·cases this
section
variable {α:Type} {f:α→List Value} {sz:Nat}
theorem jR(a:∀x,(f x).length=sz∧0<sz)(xs:List α):(xs.flatMap f).length=xs.length*sz:=kZ (fun x=>(a x).1) xs
theorem xI(xs:List α)(k:Nat):xs.flatMap f=(xs.take k).flatMap f++(xs.drop k).flatMap f:=by rw[←bA,aV]
end
theorem Gv{α:Type}{A X B Z1 Z2:List α}{p q r:Nat}(b:A.length=p)(e:X.length=q)(f:Z1.length=r+q):
  (((A++Z1++Z2).take p++X++(A++Z1++Z2).drop (p+q)).take (p+q))++B++((A++Z1++Z2).take p++X++(A++Z1++Z2).drop (p+q)).drop (p+q+r)=A++(X++B)++Z2:=by
 have d:(A++Z1++Z2).take p=A:=by rw[ar,cS b]
 have c:(A++Z1++Z2).drop (p+q)=Z1.drop q++Z2:=by
  rw[ar,←dH,cq b,ff (by omega)]
 have a:(A++X).length=p+q:=by rw[ae];omega
 rw[d,c,cS a,←dH,cq a,ff (by rw[aL];omega),dH,eV (by omega),gQ];simp only[ar]
theorem Kq{α:Type}{A X B R:List α}{p q r:Nat}(a:A.length=p)(f:B.length=r)(e:q≤R.length):
  (((A++B++R).take (p+q)++B++(A++B++R).drop (p+q+r)).take p)++X++((A++B++R).take (p+q)++B++(A++B++R).drop (p+q+r)).drop (p+q)=A++(X++B)++R.drop q:=by
 have b:((A++B++R).take (p+q)).length=p+q:=by rw[aI,ae,ae];omega
 have d:(A++B++R).drop (p+q+r)=R.drop q:=by
  rw[show p+q+r=(p+r)+q by omega,←dH,cq (by rw[ae];omega)]
 have c:((A++B++R).take (p+q)++(B++(A++B++R).drop (p+q+r))).take p=A:=by
  rw[fc (by omega),List.take_take,Nat.min_eq_left (by omega),ar,cS a]
 rw[ar ((A++B++R).take (p+q)),c,cq b,d];simp only[ar]
theorem KS{h:ad}{b:Nat}{c:List Value}{t m:TypeId}{d a sl i f:Nat}{xs:List Value}{z:Option (List Value)}{K:SliceV→ad→Prop}(g:h[b]? =some (.cells c.toArray t (0,0)))
  (q:sl*d+xs.length≤c.length) (k:sl+f≤i) (n:ce xs=true) (o:∀h',h'[b]? =some (.cells (c.take (sl*d)++xs++c.drop (sl*d+xs.length)).toArray t (0,0))→Upd (· =b) h h'→K ⟨some ⟨b,0,none⟩,sl+f,i⟩ h'):
  AppP z d a m (some ⟨b,0,none⟩) sl i f xs h K:=by
 refine⟨fun _=>⟨.inr ⟨_,rfl,fun j p=>?_⟩,n,?_⟩,fun h=>by omega⟩
 ·rw[bL];exact ia g (by rw[cP];omega)
 ·have e:fF h (some ⟨b,0,none⟩) (sl*d) xs=_:=iB xs h (sl*d) 0 c g (by omega)
  rw[e];refine o _ ?_ (Upd.set h _ rfl);rw[jL g,aE]
theorem Gg{h:ad}{b:Nat}{c:List Value}{t:TypeId}{o:Nat}{vs:List Value}{k:ad→Prop}(a:h[b]? =some (.cells c.toArray t (0,0)))
  (g:o+vs.length≤c.length) (d:∀h',h'[b]? =some (.cells (c.take o++vs++c.drop (o+vs.length)).toArray t (0,0))→Upd (· =b) h h'→k h'):
  sS h (some ⟨b,o,none⟩) 0 vs∧At (fF h (some ⟨b,o,none⟩) 0 vs) k:=by
 refine⟨.inr ⟨_,rfl,fun j f=>?_⟩,bT ?_⟩
 ·rw[bL];exact ia a (by rw[cP];omega)
 ·have e:fF h (some ⟨b,o,none⟩) 0 vs=_:=iB vs h 0 o c a (by omega)
  rw[e];refine d _ ?_ (Upd.set h _ rfl);rw[jL a,cZ]
end Go.Lift
namespace Go.Lift
open Go
end Go.Lift
