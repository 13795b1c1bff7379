/- A part of the proof that the named laws of this program answer true, whatever the input. -/
import Derived.Test.YtajpljopgikpgaaGreatDoorLift2
open Array renaming ext_getElem?→mu,getElem?_setIfInBounds→cr,getElem?_eq_some_iff→bR
open List renaming flatMap_cons→aU,length_append→ae,length_cons→aL,getElem?_append_left→dI,getElem?_append_right→ee,getElem?_eq_some_iff→bM,length_take→aG,length_drop→aI,take_append_drop→aN,flatMap_append→bj,length_eq_zero_iff→bO,getElem?_toArray→eT,length_nil→cq,getElem?_take→mp,getElem?_drop→mq,size_toArray→cH,take_append_of_le_length→eM,drop_eq_nil_of_le→eE,nil_append→ij,append_assoc→ao,take_left'→cI,drop_drop→de,drop_left'→ce,drop_append_of_le_length→eP
open Nat renaming lt_or_ge→bD,le_refl→al,not_lt→sV,succ_mul→iv,zero_add→aB,add_zero→cN
namespace Go.Lift
open Go
attribute [simp] ax aj
theorem aH{p:Prop}[Decidable p]{t e:Prop}(b:p→t)(a:¬p→e):CondP (decide p) t e:=CondP.intro (fun h=>b (of_decide_eq_true h)) (fun h=>a (of_decide_eq_false h))
theorem HC.mono{P:Program}{f:FuncId}{args:List Value}{ks:List Kind}{K d:sU ks→ad→Prop}{h:ad}(hc:HC P f args ks K h)(c:∀t h',K t h'→d t h'):HC P f args ks d h:=by
 refine⟨fun w n=>?_⟩
 rcases hc.run w n with⟨a,b⟩|⟨v,w',a,b,t,i,g⟩
 ·exact .inl ⟨a,b.mono fun e w' ⟨m,t,k,j⟩=>⟨m,t,k,c t _ j⟩⟩
 ·exact .inr ⟨v,w',a,b,t,i,c t _ g⟩
theorem Join.intro{T:Type}{a:T→ad→Prop}{k:(T→ad→Prop)→Prop}(J:T→ad→Prop)(c:∀R:T→ad→Prop,(∀t h,J t h→R t h)→k R)(b:∀t h,J t h→a t h):Join a k:=⟨c a b⟩
theorem Join.plain{T:Type}{a:T→ad→Prop}{k:(T→ad→Prop)→Prop}(h:k a):Join a k:=⟨h⟩
theorem LoopP.intro{T:Type}{F:(T→ad→Prop)→T→ad→Prop}{t:T}{h:ad}(Inv:T→ad→Prop)(m:T→ad→Nat)(f:Inv t h)
  (step:∀I:T→ad→Prop,∀t h,Inv t h→(∀a b,Inv a b→m a b<m t h→I a b)→F I t h):LoopP F t h:=by
 refine⟨fun I g=>?_⟩
 have key:∀n t h,m t h=n→Inv t h→I t h:=by
  intro n;induction n using Nat.strongRecOn with
  |_ n ih=>exact fun t h e hi=>g t h (step I t h hi fun a b c d=>ih _ (e▸d) a b rfl c)
 exact key _ t h rfl f
theorem LoopP.ghost{T G:Type}{F:(T→ad→Prop)→T→ad→Prop}{t:T}{h:ad}(Inv:G→T→ad→Prop)(m:G→Nat)(g:G)(i:Inv g t h)
  (step:∀I:T→ad→Prop,∀g t h,Inv g t h→(∀c a b,Inv c a b→m c<m g→I a b)→F I t h):LoopP F t h:=by
 refine⟨fun I j=>?_⟩
 have key:∀n g t h,m g=n→Inv g t h→I t h:=by
  intro n;induction n using Nat.strongRecOn with
  |_ n ih=>exact fun g t h f hi=>j t h (step I g t h hi fun c a b d e=>ih _ (f▸e) c a b rfl d)
 exact key _ g t h rfl i
theorem HV.mk'{P:Program}{f:FuncId}{first cap:Array Value}{args:List Value}{ks:List Kind}{K:sU ks→ad→Prop}{h:ad}(hc:HC P f (first.toList++args++cap.toList) ks K h):HV P (.func (.func f) first cap) args ks K h:=
 ⟨.inl ⟨f,first,cap,rfl,hc⟩⟩
@[simp] theorem bF(b o n:Nat):adr ⟨b,o,none⟩ n=⟨b,o+n,none⟩:=by
 cases n<;>rfl
@[simp] theorem ve(a:Addr)(n:Nat):(adr a n).block=a.block:=by
 cases n<;>rfl
theorem fy(h:ad):aA h=⟨h.size,0,none⟩:=rfl
theorem GZ{h:ad}{a:Addr}{v:Value}(hv:aK h a=some v):a.block<h.size:=by
 unfold aK at hv;rcases bD a.block h.size with b|b
 ·exact b
 ·rw[Array.getElem?_eq_none b]at hv;cases hv
theorem aY{h:ad}{b i:Nat}{c:Array Value}{e:TypeId}{fr:Nat×Nat}(a:h[b]? =some (.cells c e fr)):aK h ⟨b,i,none⟩=c[i]?:=by
 unfold aK;rw[a];rfl
theorem I9{h b:ad}{a:Addr}(c:b[a.block]? =h[a.block]?):aK b a=aK h a:=by
 unfold aK;rw[c]
theorem B2{h:ad}{b i:Nat}{c:Array Value}{e:TypeId}{fr:Nat×Nat}{v:Value}(f:h[b]? =some (.cells c e fr)):
  hset h ⟨b,i,none⟩ v=h.setIfInBounds b (.cells (c.setIfInBounds i v) e fr):=by
 unfold hset;apply mu;intro j;rw[Array.getElem?_modify,cr];by_cases d:b=j
 ·subst d
  have a:=(bR.1 f).1;simp only[f,if_true,a,Option.map_some];rfl
 ·simp[d]
theorem gS{h:ad}{b i:Nat}{c:Array Value}{e:TypeId}(a:h[b]? =some (.cells c e (0,0))) (hi:i<c.size):Wr h ⟨b,i,none⟩:=by
 refine⟨⟨c[i],by rw[aY a,Array.getElem?_eq_getElem hi]⟩,?_⟩
 unfold A0;rw[a];simp
structure Upd(M:Nat→Prop)(h h':ad):Prop where
 size:h.size≤h'.size
 same:∀b,b<h.size→¬M b→h'[b]? =h[b]?
abbrev No:Nat→Prop:=fun _=>False
theorem Upd.refl(M:Nat→Prop)(h:ad):Upd M h h:=⟨al _,fun _ _ _=>rfl⟩
theorem Upd.trans{M M':Nat→Prop}{h d f:ad}(k:Upd M h d)(l:Upd M' d f)(g:∀b,M' b→M b∨h.size≤b):Upd M h f:=
 ⟨Nat.le_trans k.size l.size,fun b c e=>by
  rw[l.same b (Nat.lt_of_lt_of_le c k.size) (fun hm=>(g b hm).elim e fun a=>absurd c (sV.2 a)),k.same b c e]⟩
theorem Upd.tr{M:Nat→Prop}{h b a:ad}(k:Upd M h b)(l:Upd M b a):Upd M h a:=k.trans l fun _ h=>.inl h
theorem Upd.mono{M M':Nat→Prop}{h d:ad}(k:Upd M h d)(e:∀b,M b→M' b∨h.size≤b):Upd M' h d:=
 ⟨k.size,fun b c f=>k.same b c fun hm=>(e b hm).elim f fun a=>absurd c (sV.2 a)⟩
theorem Upd.wide{M:Nat→Prop}{h a:ad}(k:Upd No h a):Upd M h a:=k.mono fun _ h=>h.elim
theorem Upd.get{M:Nat→Prop}{h c:ad}(k:Upd M h c){b:Nat}{o:Obj}(a:h[b]? =some o) (d:¬M b):c[b]? =some o:=by
 rw[k.same b (bR.1 a).1 d,a]
theorem Upd.get0{h a:ad}(k:Upd No h a){b:Nat}{o:Obj}(c:h[b]? =some o):a[b]? =some o:=k.get c id
theorem Upd.cell{M:Nat→Prop}{h b:ad}(k:Upd M h b){a:Addr}{v:Value}(hv:aK h a=some v)(c:¬M a.block):aK b a=some v:=by
 rw[I9 (k.same _ (GZ hv) c),hv]
theorem Upd.cell0{h b:ad}(k:Upd No h b){a:Addr}{v:Value}(hv:aK h a=some v):aK b a=some v:=k.cell hv id
theorem Upd.push(M:Nat→Prop)(h:ad)(o:Obj):Upd M h (h.push o):=⟨by simp,fun b a _=>by rw[Array.getElem?_push];simp[Nat.ne_of_lt a]⟩
theorem Upd.set{M:Nat→Prop}(h:ad){b:Nat}(o:Obj)(d:M b):Upd M h (h.setIfInBounds b o):=⟨by simp,fun c _ a=>by
 rw[cr]
 have:b≠c:=fun e=>a (e▸d)
 simp[this]⟩
theorem Upd.hset{M:Nat→Prop}(h:ad){a:Addr}(v:Value)(d:M a.block):Upd M h (hset h a v):=⟨by simp[Go.Lift.hset],fun c _ b=>by
 unfold Go.Lift.hset
 rw[Array.getElem?_modify]
 have:a.block≠c:=fun e=>b (e▸d)
 simp[this]⟩
theorem Upd.hnew(M:Nat→Prop)(h:ad)(cs:List Value)(t:TypeId):Upd M h (hnew h cs t):=Upd.push M h _
theorem cJ(h:ad)(cs:List Value)(t:TypeId):(hnew h cs t)[h.size]? =some (.cells cs.toArray t (0,0)):=by
 unfold hnew;simp
theorem BJ(h:ad)(o:Obj):(h.push o)[h.size]? =some o:=by simp
theorem jM(h:ad)(cs:List Value)(t:TypeId):(hnew h cs t).size=h.size+1:=by
 unfold hnew;simp
theorem jh{h:ad}{b:Nat}{o a:Obj}(c:h[b]? =some a):(h.setIfInBounds b o)[b]? =some o:=by
 rw[cr];simp[(bR.1 c).1]
theorem aD{h:ad}{b:Nat}{o:Obj}(a:h[b]? =some o):b<h.size:=(bR.1 a).1
theorem Row.upd{M:Nat→Prop}{h b:ad}{a:Addr}{vs:List Value}(d:Row h a vs)(k:Upd M h b)(c:¬M a.block):Row b a vs:=fun i v hv=>k.cell (d i v hv) (by rw[ve];exact c)
theorem SRow.upd{M:Nat→Prop}{h e:ad}{a:Option Addr}{n:Nat}{vs:List Value}(c:SRow h a n vs)(k:Upd M h e)(g:vs≠[]→∀b,a=some b→¬M b.block):SRow e a n vs:=by
 obtain⟨f,i⟩:=c;refine⟨f,?_⟩;rcases i with rfl|⟨b,d,c⟩
 ·exact .inl rfl
 ·by_cases hv:vs= []
  ·exact .inl hv
  ·exact .inr ⟨b,d,c.upd k (g hv b d)⟩
theorem mH{h:ad}{b o:Nat}{c:Array Value}{e:TypeId}{fr:Nat×Nat}(a:h[b]? =some (.cells c e fr)) {vs:List Value} (hv:∀i v,vs[i]? =some v→c[o+i]? =some v):Row h ⟨b,o,none⟩ vs:=fun i v hi=>by
 rw[bF,aY a];exact hv i v hi
structure Sl{α:Type}(f:α→List Value)(sz:Nat)(W:Nat→Prop)(h:ad)(s:SliceV)(xs:List α):Prop where
 len:s.len=xs.length
 ne:∀x,(f x).length=sz∧0<sz
 row:xs≠[]→∃a,s.a=some a∧¬W a.block∧Row h a (xs.flatMap f)
theorem Sl.nil{α:Type}{f:α→List Value}{b:Nat}{W:Nat→Prop}{h:ad}{a:Option Addr}{c:Nat}(d:∀x,(f x).length=b∧0<b):Sl f b W h ⟨a,0,c⟩ []:=⟨rfl,d,fun h=>absurd rfl h⟩
theorem Sl.lt{α:Type}{f:α→List Value}{g:Nat}{W:Nat→Prop}{h:ad}{s:SliceV}{xs:List α}(d:Sl f g W h s xs)(hx:xs≠[]){a:Addr}(e:s.a=some a):a.block<h.size:=by
 obtain⟨a',b,j,i⟩:=d.row hx;rw[e]at b;cases b;cases xs with
 |nil=>exact absurd rfl hx
 |cons x xs=>
  have c:=d.ne x;cases hf:f x with
  |nil=>rw[hf]at c;simp at c;omega
  |cons v vs=>
   have:=i 0 v (by rw[aU,hf];rfl);have:=GZ this;rw[ve]at this;exact this
theorem Sl.upd{α:Type}{f:α→List Value}{j:Nat}{W M:Nat→Prop}{h g:ad}{s:SliceV}{xs:List α}(c:Sl f j W h s xs)(k:Upd M h g)(hm:∀b,M b→W b∨h.size≤b):Sl f j W g s xs:=by
 refine⟨c.len,c.ne,fun hx=>?_⟩
 obtain⟨a,e,i,n⟩:=c.row hx;exact⟨a,e,i,n.upd k fun m=>(hm _ m).elim i fun d=>absurd (c.lt hx e) (sV.2 d)⟩
theorem Sl.less{α:Type}{f:α→List Value}{g:Nat}{W W':Nat→Prop}{h:ad}{s:SliceV}{xs:List α}(c:Sl f g W h s xs)(hm:∀b,W' b→W b∨h.size≤b):Sl f g W' h s xs:=
 ⟨c.len,c.ne,fun hx=>let⟨a,e,j,k⟩:=c.row hx;⟨a,e,fun i=>(hm _ i).elim j fun d=>absurd (c.lt hx e) (sV.2 d),k⟩⟩
theorem mz{α:Type}{f:α→List Value}{b:Nat}(a:∀x,(f x).length=b):∀xs:List α,(xs.flatMap f).length=xs.length*b
 | []=>by simp
 |x::xs=>by rw[aU,ae,a,mz a xs,aL,iv];omega
theorem Ac{α:Type}{f:α→List Value}{b:Nat}(a:∀x,(f x).length=b):∀(xs:List α) (i j:Nat) (x:α),xs[i]? =some x→j<b→(xs.flatMap f)[i*b+j]? =(f x)[j]?
 | [],i,j,x,h,_=>by simp at h
 |y::xs,0,j,x,h,hj=>by
  simp only[List.getElem?_cons_zero,Option.some.injEq]at h;subst h;rw[aU,Nat.zero_mul,aB,dI (by rw[a];exact hj)]
 |y::xs,i+1,j,x,h,hj=>by
  rw[List.getElem?_cons_succ]at h;rw[aU,ee (by rw[a,iv];omega),a,show(i+1)*b+j-b=i*b+j by rw[iv];omega]
  exact Ac a xs i j x h hj
theorem Sl.at{α:Type}{f:α→List Value}{c:Nat}{W:Nat→Prop}{h:ad}{s:SliceV}{xs:List α}(b:Sl f c W h s xs){i:Nat}{x:α}(hi:xs[i]? =some x):
  ∃a,s.a=some a∧¬W a.block∧∀j v,(f x)[j]? =some v→aK h (adr (adr a (i*c)) j)=some v:=by
 obtain⟨a,d,g,m⟩:=b.row (fun e=>by subst e;simp at hi)
 refine⟨a,d,g,fun j v hv=>?_⟩
 have k:j<c:=by rw[←(b.ne x).1];exact(bM.1 hv).1
 rw[A8];exact m _ v (by rw[Ac (fun x=>(b.ne x).1) xs i j x hi k];exact hv)
theorem Sl.at0{α:Type}{g:α→Value}{W:Nat→Prop}{h:ad}{s:SliceV}{xs:List α}(c:Sl (fun x=> [g x]) 1 W h s xs){i:Nat}{x:α}(hi:xs[i]? =some x):
  ∃a,s.a=some a∧¬W a.block∧aK h (adr a (i*1))=some (g x):=by
 obtain⟨a,d,b,e⟩:=c.at hi;exact⟨a,d,b,e 0 _ rfl⟩
theorem Sl.srow{α:Type}{f:α→List Value}{c:Nat}{W:Nat→Prop}{h:ad}{s:SliceV}{xs:List α}(b:Sl f c W h s xs):SRow h s.a (s.len*c) (xs.flatMap f):=by
 refine⟨?_,?_⟩
 ·rw[b.len,mz fun x=>(b.ne x).1]
 ·by_cases hx:xs= []
  ·subst hx;exact .inl rfl
  ·obtain⟨a,d,_,e⟩:=b.row hx
   exact .inr ⟨a,d,e⟩
theorem Sl.sub{α:Type}{f:α→List Value}{b:Nat}{W:Nat→Prop}{h:ad}{s:SliceV}{xs:List α}(d:Sl f b W h s xs){l hi m c:Nat}(q:l≤hi)(g:hi≤xs.length)(t:hi≤m):
  Sl f b W h ⟨aW s.a l m b,hi-l,c⟩ ((xs.drop l).take (hi-l)):=by
 refine⟨by simp only[aG,aI];omega,d.ne,fun hx=>?_⟩
 have o:l<hi:=by
  rcases bD l hi with h|h
  ·exact h
  ·rw[Nat.sub_eq_zero_of_le h]at hx;exact absurd List.take_zero hx
 obtain⟨a,j,k,p⟩:=d.row (fun e=>by rw[e]at g;simp at g;omega)
 refine⟨adr a (l*b),?_,by rw[ve];exact k,fun i v hv=>?_⟩
 ·unfold aW
  rw[if_neg (by omega),j];rfl
 ·rw[A8]
  refine p _ v ?_;have e:xs=xs.take l++((xs.drop l).take (hi-l)++(xs.drop l).drop (hi-l)):=by rw[aN,aN]
  rw[e,bj,bj];have n:((xs.take l).flatMap f).length=l*b:=by rw[mz fun x=>(d.ne x).1,aG];congr 1;omega
  rw[ee (by omega),n,Nat.add_sub_cancel_left,dI (bM.1 hv).1];exact hv
structure OwnS{α:Type}(f:α→List Value)(sz:Nat)(t:TypeId)(M:Nat→Prop)(h:ad)(s:SliceV)(xs:List α):Prop where
 len:s.len=xs.length
 ne:∀x,(f x).length=sz∧0<sz
 cap:s.len≤s.cap
 blk:s.cap=0∨∃b rest,s.a=some ⟨b,0,none⟩∧M b∧h[b]? =some (.cells (xs.flatMap f++rest).toArray t (0,0))∧rest.length=(s.cap-s.len)*sz
theorem OwnS.nil{α:Type}{f:α→List Value}{b:Nat}{t:TypeId}{M:Nat→Prop}{h:ad}{a:Option Addr}(c:∀x,(f x).length=b∧0<b):OwnS f b t M h ⟨a,0,0⟩ []:=⟨rfl,c,al _,.inl rfl⟩
theorem OwnS.sl{α:Type}{f:α→List Value}{d:Nat}{t:TypeId}{M W:Nat→Prop}{h:ad}{s:SliceV}{xs:List α}(a:OwnS f d t M h s xs)(hm:∀b,M b→b<h.size→¬W b):Sl f d W h s xs:=by
 refine⟨a.len,a.ne,fun hx=>?_⟩
 rcases a.blk with j|⟨b,c,e,g,hc,_⟩
 ·have:=a.len;have:=a.cap
  have:xs.length=0:=by omega
  exact absurd (bO.1 this) hx
 ·exact⟨_,e,hm b g (aD hc),mH hc fun i v hv=>by
   rw[aB,eT,dI (bM.1 hv).1];exact hv⟩
theorem OwnS.upd{α:Type}{f:α→List Value}{g:Nat}{t:TypeId}{M M':Nat→Prop}{h e:ad}{s:SliceV}{xs:List α}(c:OwnS f g t M h s xs)(k:Upd M' h e)(hm:∀b,M b→¬M' b):OwnS f g t M e s xs:=by
 refine⟨c.len,c.ne,c.cap,c.blk.imp id fun⟨b,a,i,d,hc,j⟩=>⟨b,a,i,d,k.get hc (hm b d),j⟩⟩
theorem OwnS.more{α:Type}{f:α→List Value}{d:Nat}{t:TypeId}{M M':Nat→Prop}{h:ad}{s:SliceV}{xs:List α}(c:OwnS f d t M h s xs)(hm:∀b,M b→M' b):OwnS f d t M' h s xs:=by
 refine⟨c.len,c.ne,c.cap,c.blk.imp id fun⟨b,a,e,g,hc,i⟩=>⟨b,a,e,hm b g,hc,i⟩⟩
theorem OwnS.within{α:Type}{f:α→List Value}{d:Nat}{t:TypeId}{M:Nat→Prop}{h:ad}{s:SliceV}{xs:List α}(c:OwnS f d t M h s xs):OwnS f d t (fun b=>M b∧b<h.size) h s xs:=by
 refine⟨c.len,c.ne,c.cap,c.blk.imp id fun⟨b,a,e,g,hc,i⟩=>⟨b,a,e,⟨g,aD hc⟩,hc,i⟩⟩
theorem ia{b:Nat}{t:TypeId}:∀(vs:List Value) (h:ad) (i o:Nat) (c:List Value),h[b]? =some (.cells c.toArray t (0,0))→o+i+vs.length≤c.length→
  gD h ⟨b,o,none⟩ i vs=h.setIfInBounds b (.cells (c.take (o+i)++vs++c.drop (o+i+vs.length)).toArray t (0,0))
 | [],h,i,o,c,hb,hl=>by
  simp only[gD,List.append_nil,cq,cN,aN];apply mu;intro j;rw[cr];split
  ·rename_i e;subst e;rw[hb];simp[aD hb]
  ·rfl
 |v::vs,h,i,o,c,hb,hl=>by
  rw[aL]at hl;simp only[gD];rw[bF,B2 hb];have a:(h.setIfInBounds b (.cells (c.toArray.setIfInBounds (o+i) v) t (0,0)))[b]? =some (.cells (c.set (o+i) v).toArray t (0,0)):=by
   rw[jh hb];simp
  rw[ia vs _ (i+1) o (c.set (o+i) v) a (by simp;omega)];have e:∀(x y:Obj),(h.setIfInBounds b x).setIfInBounds b y=h.setIfInBounds b y:=fun x y=>by
   apply mu;intro j;simp only[cr,Array.size_setIfInBounds];split<;>rfl
  rw[e];congr 3
  apply List.ext_getElem?;intro j;simp only[List.getElem?_append,ae,aG,List.length_set,aL,mp,List.getElem?_set,mq];grind
theorem j3(n:Nat)(z:List Value):(df n z).length=n*z.length:=by
 unfold df;induction n with
 |zero=>simp
 |succ n ih=>rw[List.replicate_succ,List.flatten_cons,ae,ih,iv];omega
theorem AppP.own{α:Type}{f:α→List Value}{g i:Nat}{t:TypeId}{M:Nat→Prop}{h:ad}{d:Option Addr}{sl m N:Nat}{xs ys:List α}{o z:List Value}{K:SliceV→ad→Prop}
  (n:OwnS f g t M h ⟨d,sl,m⟩ xs)(k:N=ys.length)(F:o=ys.flatMap f)(s:bS o=true)(hz:z.length=g)(P:0<i)(u:(xs.length+ys.length)*i≤140737488355328)(hM:M h.size)
  (G:∀s' h',OwnS f g t M h' s' (xs++ys)→Upd M h h'→K s' h'):AppP (some z) g i t d sl m N o h K:=by
 have a:sl=xs.length:=n.len;have q:∀x,(f x).length=g:=fun x=>(n.ne x).1
 subst k F;have v:=mz q ys;have k:=mz q xs;refine⟨fun A=>?_,fun p=>?_⟩
 ·rcases n.blk with I|⟨b,c,J,w,hc,B⟩
  ·have I:m=0:=I
   have E:ys.length=0:=by omega
   have H:xs.length=0:=by omega
   have S:=bO.1 E;have hx:=bO.1 H;subst S hx;refine⟨.inl rfl,rfl,?_⟩;have e:fj h d (sl*g) (([]:List α).flatMap f)=h:=by cases d<;>rfl
   rw[e];exact G _ _ ⟨by simp[a],n.ne,by simp only[cq];omega,.inl I⟩ (Upd.refl _ _)
  ·have J:d=some ⟨b,0,none⟩:=J
   have B:c.length=(m-sl)*g:=B;subst J;have O:sl+ys.length≤m:=A;have T:ys.length*g≤c.length:=by rw[B];exact Nat.mul_le_mul_right _ (Nat.le_sub_of_add_le (show ys.length+sl≤m by omega))
   have y:0+sl*g+(ys.flatMap f).length≤(xs.flatMap f++c).length:=by
    rw[ae,k,v,a];omega
   refine⟨.inr ⟨_,rfl,fun j U=>?_⟩,s,?_⟩
   ·rw[bF]
    refine gS hc ?_;rw[cH];omega
   ·have e:fj h (some ⟨b,0,none⟩) (sl*g) (ys.flatMap f)=_:=ia (ys.flatMap f) h (sl*g) 0 _ hc y
    rw[e];have D:(xs.flatMap f++c).take (0+sl*g)=xs.flatMap f:=by
     rw[aB,a,←k,eM (al _),List.take_length]
    have C:(xs.flatMap f++c).drop (0+sl*g+(ys.flatMap f).length)=c.drop (ys.length*g):=by
     rw[aB,a,←k,List.drop_append,eE (by omega),ij,v];congr 1;omega
    rw[D,C];refine G _ _ ⟨by simp[a],n.ne,A,.inr ⟨b,c.drop (ys.length*g),rfl,w,?_,?_⟩⟩ (Upd.set h _ w)
    ·rw[jh hc,bj]
    ·rw[aI,B]
     simp only;rw[show m-(sl+ys.length)=(m-sl)-ys.length by omega,Nat.sub_mul (m-sl)]
 ·have Q:m*1≤m:=by omega
  refine⟨xs.flatMap f,z,?_,rfl,P,Go.growslice_fits p (by rw[a];exact u),fun R L=>?_⟩
  ·exact(n.sl (W:=No) fun _ _ _=>id).srow
  ·refine G _ _ ⟨by simp[a],n.ne,L,.inr ⟨h.size,df (R-(sl+ys.length)) z,rfl,hM,?_,?_⟩⟩ (Upd.hnew M h _ _)
   ·rw[cJ,bj]
   ·rw[j3,hz]
end Go.Lift
namespace Go.Lift
open Go
theorem bL{h:ad}{k:ad→Prop}(a:k h):At h k:=a
theorem iy{b o l m a:Nat}(h:m≠l):aW (some ⟨b,o,none⟩) l m a=some ⟨b,o+l*a,none⟩:=by simp[aW,h,bF]
theorem sub_zero{b m a:Nat}:aW (some ⟨b,0,none⟩) 0 m a=some ⟨b,0,none⟩:=by
 unfold aW;split
 ·rfl
 ·simp[bF]
theorem jD{h:ad}{b:Nat}{c:List Value}{t:TypeId}{o n:Nat}{vs:List Value}{a:Option Addr}{k:ad→Prop}(f:SRow h a n vs)(g:bS vs=true)(d:h[b]? =some (.cells c.toArray t (0,0)))
  (p:o+n≤c.length) (i:∀h',h'[b]? =some (.cells (c.take o++vs++c.drop (o+n)).toArray t (0,0))→Upd (· =b) h h'→k h'):
  ∃xs,SRow h a n xs∧rK h (some ⟨b,o,none⟩) 0 xs∧bS xs=true∧At (fj h (some ⟨b,o,none⟩) 0 xs) k:=by
 have m:=f.1;refine⟨vs,f,.inr ⟨_,rfl,fun j q=>?_⟩,g,bL ?_⟩
 ·rw[bF];exact gS d (by rw[cH];omega)
 ·have e:fj h (some ⟨b,o,none⟩) 0 vs=_:=ia vs h 0 o c d (by omega)
  rw[e];refine i _ ?_ (Upd.set h _ rfl);rw[jh d,cN,m]
theorem jQ{h:ad}{b:Nat}{c:List Value}{t:TypeId}{o n:Nat}{vs:List Value}(e:h[b]? =some (.cells c.toArray t (0,0))) (a:vs.length=n) (d:(c.drop o).take n=vs):SRow h (some ⟨b,o,none⟩) n vs:=by
 refine⟨a,.inr ⟨_,rfl,mH e fun i v hv=>?_⟩⟩
 rw[eT,←mq];have:((c.drop o).take n)[i]? =some v:=by rw[d];exact hv
 rw[mp]at this;split at this
 ·exact this
 ·cases this
section
variable {α:Type} {f:α→List Value} {sz:Nat}
theorem jp(a:∀x,(f x).length=sz∧0<sz)(xs:List α):(xs.flatMap f).length=xs.length*sz:=mz (fun x=>(a x).1) xs
theorem wJ(xs:List α)(k:Nat):xs.flatMap f=(xs.take k).flatMap f++(xs.drop k).flatMap f:=by rw[←bj,aN]
end
theorem Fe{α:Type}{A X B Z1 Z2:List α}{p q r:Nat}(b:A.length=p)(f:X.length=q)(e:Z1.length=r+q):
  (((A++Z1++Z2).take p++X++(A++Z1++Z2).drop (p+q)).take (p+q))++B++((A++Z1++Z2).take p++X++(A++Z1++Z2).drop (p+q)).drop (p+q+r)=A++(X++B)++Z2:=by
 have d:(A++Z1++Z2).take p=A:=by rw[ao,cI b]
 have c:(A++Z1++Z2).drop (p+q)=Z1.drop q++Z2:=by
  rw[ao,←de,ce b,eP (by omega)]
 have a:(A++X).length=p+q:=by rw[ae];omega
 rw[d,c,cI a,←de,ce a,eP (by rw[aI];omega),de,eE (by omega),ij];simp only[ao]
theorem IZ{α:Type}{A X B R:List α}{p q r:Nat}(d:A.length=p)(e:B.length=r)(f:q≤R.length):
  (((A++B++R).take (p+q)++B++(A++B++R).drop (p+q+r)).take p)++X++((A++B++R).take (p+q)++B++(A++B++R).drop (p+q+r)).drop (p+q)=A++(X++B)++R.drop q:=by
 have c:((A++B++R).take (p+q)).length=p+q:=by rw[aG,ae,ae];omega
 have a:(A++B++R).drop (p+q+r)=R.drop q:=by
  rw[show p+q+r=(p+r)+q by omega,←de,ce (by rw[ae];omega)]
 have b:((A++B++R).take (p+q)++(B++(A++B++R).drop (p+q+r))).take p=A:=by
  rw[eM (by omega),List.take_take,Nat.min_eq_left (by omega),ao,cI d]
 rw[ao ((A++B++R).take (p+q)),b,ce c,a];simp only[ao]
theorem Jt{h:ad}{b:Nat}{c:List Value}{t m:TypeId}{d a sl i g:Nat}{xs:List Value}{z:Option (List Value)}{K:SliceV→ad→Prop}(f:h[b]? =some (.cells c.toArray t (0,0)))
  (p:sl*d+xs.length≤c.length) (o:sl+g≤i) (k:bS xs=true) (n:∀h',h'[b]? =some (.cells (c.take (sl*d)++xs++c.drop (sl*d+xs.length)).toArray t (0,0))→Upd (· =b) h h'→K ⟨some ⟨b,0,none⟩,sl+g,i⟩ h'):
  AppP z d a m (some ⟨b,0,none⟩) sl i g xs h K:=by
 refine⟨fun _=>⟨.inr ⟨_,rfl,fun j q=>?_⟩,k,?_⟩,fun h=>by omega⟩
 ·rw[bF];exact gS f (by rw[cH];omega)
 ·have e:fj h (some ⟨b,0,none⟩) (sl*d) xs=_:=ia xs h (sl*d) 0 c f (by omega)
  rw[e];refine n _ ?_ (Upd.set h _ rfl);rw[jh f,aB]
theorem E0{h:ad}{b:Nat}{c:List Value}{t:TypeId}{o:Nat}{vs:List Value}{k:ad→Prop}(a:h[b]? =some (.cells c.toArray t (0,0)))
  (g:o+vs.length≤c.length) (d:∀h',h'[b]? =some (.cells (c.take o++vs++c.drop (o+vs.length)).toArray t (0,0))→Upd (· =b) h h'→k h'):
  rK h (some ⟨b,o,none⟩) 0 vs∧At (fj h (some ⟨b,o,none⟩) 0 vs) k:=by
 refine⟨.inr ⟨_,rfl,fun j f=>?_⟩,bL ?_⟩
 ·rw[bF];exact gS a (by rw[cH];omega)
 ·have e:fj h (some ⟨b,o,none⟩) 0 vs=_:=ia vs h 0 o c a (by omega)
  rw[e];refine d _ ?_ (Upd.set h _ rfl);rw[jh a,cN]
end Go.Lift
namespace Go.Lift
open Go
end Go.Lift
