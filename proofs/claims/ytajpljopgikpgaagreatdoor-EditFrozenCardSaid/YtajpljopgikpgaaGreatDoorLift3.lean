/- A part of the proof that the named laws of this program answer true, whatever the input. -/
import Derived.Test.YtajpljopgikpgaaGreatDoorLift2
open Array renaming ext_getElem?→ot,getElem?_setIfInBounds→cN,getElem?_eq_some_iff→cj
open List renaming flatMap_cons→aY,length_append→af,length_cons→aV,getElem?_append_left→cq,getElem?_append_right→dZ,getElem?_eq_some_iff→aF,length_take→aU,length_drop→aW,take_append_drop→ba,flatMap_append→bH,length_eq_zero_iff→bU,getElem?_toArray→gH,length_nil→cB,getElem?_take→om,getElem?_drop→oo,size_toArray→cP,take_append_of_le_length→fw,drop_eq_nil_of_le→fl,nil_append→ik,append_assoc→aw,take_left'→c5,drop_drop→dS,drop_left'→cG,drop_append_of_le_length→fx
open Nat renaming lt_or_ge→bK,le_refl→ao,not_lt→vC,succ_mul→jB,zero_add→aL,add_zero→cX
namespace Go.Lift
open Go
attribute [simp] ay aj
theorem aQ{p:Prop}[Decidable p]{t e:Prop}(a:p→t)(b:¬p→e):CondP (decide p) t e:=CondP.intro (fun h=>a (of_decide_eq_true h)) (fun h=>b (of_decide_eq_false h))
theorem HC.mono{P:Program}{f:FuncId}{args:List Value}{ks:List Kind}{K c:um ks→ad→Prop}{h:ad}(hc:HC P f args ks K h)(d:∀t h',K t h'→c t h'):HC P f args ks c h:=by
 refine⟨fun w i=>?_⟩
 rcases hc.run w i with⟨a,b⟩|⟨v,w',a,b,t,m,g⟩
 ·exact .inl ⟨a,b.mono fun e w' ⟨k,t,j,n⟩=>⟨k,t,j,d t _ n⟩⟩
 ·exact .inr ⟨v,w',a,b,t,m,d t _ g⟩
theorem Join.intro{T:Type}{a:T→ad→Prop}{k:(T→ad→Prop)→Prop}(J:T→ad→Prop)(b:∀R:T→ad→Prop,(∀t h,J t h→R t h)→k R)(c:∀t h,J t h→a t h):Join a k:=⟨b a c⟩
theorem Join.plain{T:Type}{a:T→ad→Prop}{k:(T→ad→Prop)→Prop}(h:k a):Join a k:=⟨h⟩
theorem LoopP.intro{T:Type}{F:(T→ad→Prop)→T→ad→Prop}{t:T}{h:ad}(Inv:T→ad→Prop)(m:T→ad→Nat)(g:Inv t h)
  (step:∀I:T→ad→Prop,∀t h,Inv t h→(∀a b,Inv a b→m a b<m t h→I a b)→F I t h):LoopP F t h:=by
 refine⟨fun I f=>?_⟩
 have key:∀n t h,m t h=n→Inv t h→I t h:=by
  intro n;induction n using Nat.strongRecOn with
  |_ n ih=>exact fun t h i hi=>f t h (step I t h hi fun a b c d=>ih _ (i▸d) a b rfl c)
 exact key _ t h rfl g
theorem LoopP.ghost{T G:Type}{F:(T→ad→Prop)→T→ad→Prop}{t:T}{h:ad}(Inv:G→T→ad→Prop)(m:G→Nat)(g:G)(j:Inv g t h)
  (step:∀I:T→ad→Prop,∀g t h,Inv g t h→(∀a b c,Inv a b c→m a<m g→I b c)→F I t h):LoopP F t h:=by
 refine⟨fun I i=>?_⟩
 have key:∀n g t h,m g=n→Inv g t h→I t h:=by
  intro n;induction n using Nat.strongRecOn with
  |_ n ih=>exact fun g t h k hi=>i t h (step I g t h hi fun a b c d f=>ih _ (k▸f) a b c rfl d)
 exact key _ g t h rfl j
theorem HV.mk'{P:Program}{f:FuncId}{first cap:Array Value}{args:List Value}{ks:List Kind}{K:um ks→ad→Prop}{h:ad}(hc:HC P f (first.toList++args++cap.toList) ks K h):HV P (.func (.func f) first cap) args ks K h:=
 ⟨.inl ⟨f,first,cap,rfl,hc⟩⟩
@[simp] theorem bO(b o n:Nat):adr ⟨b,o,none⟩ n=⟨b,o+n,none⟩:=by
 cases n<;>rfl
@[simp] theorem xK(a:Addr)(n:Nat):(adr a n).block=a.block:=by
 cases n<;>rfl
theorem gf(h:ad):aD h=⟨h.size,0,none⟩:=rfl
theorem Kp{h:ad}{a:Addr}{v:Value}(hv:aR h a=some v):a.block<h.size:=by
 unfold aR at hv;rcases bK a.block h.size with b|b
 ·exact b
 ·rw[Array.getElem?_eq_none b]at hv;cases hv
theorem bA{h:ad}{b i:Nat}{c:Array Value}{e:TypeId}{fr:Nat×Nat}(a:h[b]? =some (.cells c e fr)):aR h ⟨b,i,none⟩=c[i]?:=by
 unfold aR;rw[a];rfl
theorem Mw{h b:ad}{a:Addr}(c:b[a.block]? =h[a.block]?):aR b a=aR h a:=by
 unfold aR;rw[c]
theorem EI{h:ad}{b i:Nat}{c:Array Value}{e:TypeId}{fr:Nat×Nat}{v:Value}(d:h[b]? =some (.cells c e fr)):
  hset h ⟨b,i,none⟩ v=h.setIfInBounds b (.cells (c.setIfInBounds i v) e fr):=by
 unfold hset;apply ot;intro j;rw[Array.getElem?_modify,cN];by_cases f:b=j
 ·subst f
  have a:=(cj.1 d).1;simp only[d,if_true,a,Option.map_some];rfl
 ·simp[f]
theorem iv{h:ad}{b i:Nat}{c:Array Value}{e:TypeId}(a:h[b]? =some (.cells c e (0,0))) (hi:i<c.size):Wr h ⟨b,i,none⟩:=by
 refine⟨⟨c[i],by rw[bA a,Array.getElem?_eq_getElem hi]⟩,?_⟩
 unfold DD;rw[a];simp
structure Upd(M:Nat→Prop)(h h':ad):Prop where
 size:h.size≤h'.size
 same:∀b,b<h.size→¬M b→h'[b]? =h[b]?
abbrev No:Nat→Prop:=fun _=>False
theorem Upd.refl(M:Nat→Prop)(h:ad):Upd M h h:=⟨ao _,fun _ _ _=>rfl⟩
theorem Upd.trans{M M':Nat→Prop}{h f g:ad}(k:Upd M h f)(l:Upd M' f g)(i:∀b,M' b→M b∨h.size≤b):Upd M h g:=
 ⟨Nat.le_trans k.size l.size,fun b c d=>by
  rw[l.same b (Nat.lt_of_lt_of_le c k.size) (fun hm=>(i b hm).elim d fun a=>absurd c (vC.2 a)),k.same b c d]⟩
theorem Upd.tr{M:Nat→Prop}{h a b:ad}(k:Upd M h a)(l:Upd M a b):Upd M h b:=k.trans l fun _ h=>.inl h
theorem Upd.mono{M M':Nat→Prop}{h d:ad}(k:Upd M h d)(f:∀b,M b→M' b∨h.size≤b):Upd M' h d:=
 ⟨k.size,fun b c g=>k.same b c fun hm=>(f b hm).elim g fun a=>absurd c (vC.2 a)⟩
theorem Upd.wide{M:Nat→Prop}{h a:ad}(k:Upd No h a):Upd M h a:=k.mono fun _ h=>h.elim
theorem Upd.get{M:Nat→Prop}{h c:ad}(k:Upd M h c){b:Nat}{o:Obj}(a:h[b]? =some o) (d:¬M b):c[b]? =some o:=by
 rw[k.same b (cj.1 a).1 d,a]
theorem Upd.get0{h a:ad}(k:Upd No h a){b:Nat}{o:Obj}(c:h[b]? =some o):a[b]? =some o:=k.get c id
theorem Upd.cell{M:Nat→Prop}{h b:ad}(k:Upd M h b){a:Addr}{v:Value}(hv:aR h a=some v)(c:¬M a.block):aR b a=some v:=by
 rw[Mw (k.same _ (Kp hv) c),hv]
theorem Upd.cell0{h b:ad}(k:Upd No h b){a:Addr}{v:Value}(hv:aR h a=some v):aR b a=some v:=k.cell hv id
theorem Upd.push(M:Nat→Prop)(h:ad)(o:Obj):Upd M h (h.push o):=⟨by simp,fun b a _=>by rw[Array.getElem?_push];simp[Nat.ne_of_lt a]⟩
theorem Upd.set{M:Nat→Prop}(h:ad){b:Nat}(o:Obj)(d:M b):Upd M h (h.setIfInBounds b o):=⟨by simp,fun c _ a=>by
 rw[cN]
 have:b≠c:=fun e=>a (e▸d)
 simp[this]⟩
theorem Upd.hset{M:Nat→Prop}(h:ad){a:Addr}(v:Value)(d:M a.block):Upd M h (hset h a v):=⟨by simp[Go.Lift.hset],fun c _ b=>by
 unfold Go.Lift.hset
 rw[Array.getElem?_modify]
 have:a.block≠c:=fun e=>b (e▸d)
 simp[this]⟩
theorem Upd.hnew(M:Nat→Prop)(h:ad)(cs:List Value)(t:TypeId):Upd M h (hnew h cs t):=Upd.push M h _
theorem db(h:ad)(cs:List Value)(t:TypeId):(hnew h cs t)[h.size]? =some (.cells cs.toArray t (0,0)):=by
 unfold hnew;simp
theorem En(h:ad)(o:Obj):(h.push o)[h.size]? =some o:=by simp
theorem ly(h:ad)(cs:List Value)(t:TypeId):(hnew h cs t).size=h.size+1:=by
 unfold hnew;simp
theorem jK{h:ad}{b:Nat}{o c:Obj}(a:h[b]? =some c):(h.setIfInBounds b o)[b]? =some o:=by
 rw[cN];simp[(cj.1 a).1]
theorem aH{h:ad}{b:Nat}{o:Obj}(a:h[b]? =some o):b<h.size:=(cj.1 a).1
theorem Row.upd{M:Nat→Prop}{h b:ad}{a:Addr}{vs:List Value}(d:Row h a vs)(k:Upd M h b)(c:¬M a.block):Row b a vs:=fun i v hv=>k.cell (d i v hv) (by rw[xK];exact c)
theorem SRow.upd{M:Nat→Prop}{h f:ad}{a:Option Addr}{n:Nat}{vs:List Value}(c:SRow h a n vs)(k:Upd M h f)(g:vs≠[]→∀b,a=some b→¬M b.block):SRow f a n vs:=by
 obtain⟨i,j⟩:=c;refine⟨i,?_⟩;rcases j with rfl|⟨b,d,c⟩
 ·exact .inl rfl
 ·by_cases hv:vs= []
  ·exact .inl hv
  ·exact .inr ⟨b,d,c.upd k (g hv b d)⟩
theorem pU{h:ad}{b o:Nat}{c:Array Value}{e:TypeId}{fr:Nat×Nat}(a:h[b]? =some (.cells c e fr)) {vs:List Value} (hv:∀i v,vs[i]? =some v→c[o+i]? =some v):Row h ⟨b,o,none⟩ vs:=fun i v hi=>by
 rw[bO,bA a];exact hv i v hi
structure Sl{α:Type}(f:α→List Value)(sz:Nat)(W:Nat→Prop)(h:ad)(s:SliceV)(xs:List α):Prop where
 len:s.len=xs.length
 ne:∀x,(f x).length=sz∧0<sz
 row:xs≠[]→∃a,s.a=some a∧¬W a.block∧Row h a (xs.flatMap f)
theorem Sl.nil{α:Type}{f:α→List Value}{sz:Nat}{W:Nat→Prop}{h:ad}{a:Option Addr}{c:Nat}(b:∀x,(f x).length=sz∧0<sz):Sl f sz W h ⟨a,0,c⟩ []:=⟨rfl,b,fun h=>absurd rfl h⟩
theorem Sl.lt{α:Type}{f:α→List Value}{sz:Nat}{W:Nat→Prop}{h:ad}{s:SliceV}{xs:List α}(d:Sl f sz W h s xs)(hx:xs≠[]){a:Addr}(g:s.a=some a):a.block<h.size:=by
 obtain⟨a',b,j,i⟩:=d.row hx;rw[g]at b;cases b;cases xs with
 |nil=>exact absurd rfl hx
 |cons x xs=>
  have c:=d.ne x;cases hf:f x with
  |nil=>rw[hf]at c;simp at c;omega
  |cons v vs=>
   have:=i 0 v (by rw[aY,hf];rfl);have:=Kp this;rw[xK]at this;exact this
theorem Sl.upd{α:Type}{f:α→List Value}{sz:Nat}{W M:Nat→Prop}{h j:ad}{s:SliceV}{xs:List α}(c:Sl f sz W h s xs)(k:Upd M h j)(hm:∀b,M b→W b∨h.size≤b):Sl f sz W j s xs:=by
 refine⟨c.len,c.ne,fun hx=>?_⟩
 obtain⟨a,g,i,m⟩:=c.row hx;exact⟨a,g,i,m.upd k fun n=>(hm _ n).elim i fun d=>absurd (c.lt hx g) (vC.2 d)⟩
theorem Sl.less{α:Type}{f:α→List Value}{sz:Nat}{W W':Nat→Prop}{h:ad}{s:SliceV}{xs:List α}(c:Sl f sz W h s xs)(hm:∀b,W' b→W b∨h.size≤b):Sl f sz W' h s xs:=
 ⟨c.len,c.ne,fun hx=>let⟨a,g,i,j⟩:=c.row hx;⟨a,g,fun k=>(hm _ k).elim i fun d=>absurd (c.lt hx g) (vC.2 d),j⟩⟩
theorem ma{α:Type}{f:α→List Value}{sz:Nat}(a:∀x,(f x).length=sz):∀xs:List α,(xs.flatMap f).length=xs.length*sz
 | []=>by simp
 |x::xs=>by rw[aY,af,a,ma a xs,aV,jB];omega
theorem wK{α:Type}{f:α→List Value}{sz:Nat}(a:∀x,(f x).length=sz):∀(xs:List α) (i j:Nat) (x:α),xs[i]? =some x→j<sz→(xs.flatMap f)[i*sz+j]? =(f x)[j]?
 | [],i,j,x,h,_=>by simp at h
 |y::xs,0,j,x,h,hj=>by
  simp only[List.getElem?_cons_zero,Option.some.injEq]at h;subst h;rw[aY,Nat.zero_mul,aL,cq (by rw[a];exact hj)]
 |y::xs,i+1,j,x,h,hj=>by
  rw[List.getElem?_cons_succ]at h;rw[aY,dZ (by rw[a,jB];omega),a,show(i+1)*sz+j-sz=i*sz+j by rw[jB];omega]
  exact wK a xs i j x h hj
theorem Sl.at{α:Type}{f:α→List Value}{sz:Nat}{W:Nat→Prop}{h:ad}{s:SliceV}{xs:List α}(b:Sl f sz W h s xs){i:Nat}{x:α}(hi:xs[i]? =some x):
  ∃a,s.a=some a∧¬W a.block∧∀j v,(f x)[j]? =some v→aR h (adr (adr a (i*sz)) j)=some v:=by
 obtain⟨a,c,d,k⟩:=b.row (fun e=>by subst e;simp at hi)
 refine⟨a,c,d,fun j v hv=>?_⟩
 have g:j<sz:=by rw[←(b.ne x).1];exact(aF.1 hv).1
 rw[AA];exact k _ v (by rw[wK (fun x=>(b.ne x).1) xs i j x hi g];exact hv)
theorem Sl.at0{α:Type}{g:α→Value}{W:Nat→Prop}{h:ad}{s:SliceV}{xs:List α}(f:Sl (fun x=> [g x]) 1 W h s xs){i:Nat}{x:α}(hi:xs[i]? =some x):
  ∃a,s.a=some a∧¬W a.block∧aR h (adr a (i*1))=some (g x):=by
 obtain⟨a,b,c,d⟩:=f.at hi;exact⟨a,b,c,d 0 _ rfl⟩
theorem Sl.srow{α:Type}{f:α→List Value}{sz:Nat}{W:Nat→Prop}{h:ad}{s:SliceV}{xs:List α}(b:Sl f sz W h s xs):SRow h s.a (s.len*sz) (xs.flatMap f):=by
 refine⟨?_,?_⟩
 ·rw[b.len,ma fun x=>(b.ne x).1]
 ·by_cases hx:xs= []
  ·subst hx;exact .inl rfl
  ·obtain⟨a,c,_,d⟩:=b.row hx
   exact .inr ⟨a,c,d⟩
theorem Sl.sub{α:Type}{f:α→List Value}{sz:Nat}{W:Nat→Prop}{h:ad}{s:SliceV}{xs:List α}(b:Sl f sz W h s xs){l hi m c:Nat}(p:l≤hi)(d:hi≤xs.length)(q:hi≤m):
  Sl f sz W h ⟨bq s.a l m sz,hi-l,c⟩ ((xs.drop l).take (hi-l)):=by
 refine⟨by simp only[aU,aW];omega,b.ne,fun hx=>?_⟩
 have k:l<hi:=by
  rcases bK l hi with h|h
  ·exact h
  ·rw[Nat.sub_eq_zero_of_le h]at hx;exact absurd List.take_zero hx
 obtain⟨a,g,j,n⟩:=b.row (fun e=>by rw[e]at d;simp at d;omega)
 refine⟨adr a (l*sz),?_,by rw[xK];exact j,fun i v hv=>?_⟩
 ·unfold bq
  rw[if_neg (by omega),g];rfl
 ·rw[AA]
  refine n _ v ?_;have e:xs=xs.take l++((xs.drop l).take (hi-l)++(xs.drop l).drop (hi-l)):=by rw[ba,ba]
  rw[e,bH,bH];have o:((xs.take l).flatMap f).length=l*sz:=by rw[ma fun x=>(b.ne x).1,aU];congr 1;omega
  rw[dZ (by omega),o,Nat.add_sub_cancel_left,cq (aF.1 hv).1];exact hv
structure OwnS{α:Type}(f:α→List Value)(sz:Nat)(t:TypeId)(M:Nat→Prop)(h:ad)(s:SliceV)(xs:List α):Prop where
 len:s.len=xs.length
 ne:∀x,(f x).length=sz∧0<sz
 cap:s.len≤s.cap
 blk:s.cap=0∨∃b rest,s.a=some ⟨b,0,none⟩∧M b∧h[b]? =some (.cells (xs.flatMap f++rest).toArray t (0,0))∧rest.length=(s.cap-s.len)*sz
theorem OwnS.nil{α:Type}{f:α→List Value}{sz:Nat}{t:TypeId}{M:Nat→Prop}{h:ad}{a:Option Addr}(b:∀x,(f x).length=sz∧0<sz):OwnS f sz t M h ⟨a,0,0⟩ []:=⟨rfl,b,ao _,.inl rfl⟩
theorem OwnS.sl{α:Type}{f:α→List Value}{sz:Nat}{t:TypeId}{M W:Nat→Prop}{h:ad}{s:SliceV}{xs:List α}(a:OwnS f sz t M h s xs)(hm:∀b,M b→b<h.size→¬W b):Sl f sz W h s xs:=by
 refine⟨a.len,a.ne,fun hx=>?_⟩
 rcases a.blk with j|⟨b,c,d,g,hc,_⟩
 ·have:=a.len;have:=a.cap
  have:xs.length=0:=by omega
  exact absurd (bU.1 this) hx
 ·exact⟨_,d,hm b g (aH hc),pU hc fun i v hv=>by
   rw[aL,gH,cq (aF.1 hv).1];exact hv⟩
theorem OwnS.upd{α:Type}{f:α→List Value}{sz:Nat}{t:TypeId}{M M':Nat→Prop}{h g:ad}{s:SliceV}{xs:List α}(c:OwnS f sz t M h s xs)(k:Upd M' h g)(hm:∀b,M b→¬M' b):OwnS f sz t M g s xs:=by
 refine⟨c.len,c.ne,c.cap,c.blk.imp id fun⟨b,a,i,d,hc,j⟩=>⟨b,a,i,d,k.get hc (hm b d),j⟩⟩
theorem OwnS.more{α:Type}{f:α→List Value}{sz:Nat}{t:TypeId}{M M':Nat→Prop}{h:ad}{s:SliceV}{xs:List α}(c:OwnS f sz t M h s xs)(hm:∀b,M b→M' b):OwnS f sz t M' h s xs:=by
 refine⟨c.len,c.ne,c.cap,c.blk.imp id fun⟨b,a,d,i,hc,g⟩=>⟨b,a,d,hm b i,hc,g⟩⟩
theorem OwnS.within{α:Type}{f:α→List Value}{sz:Nat}{t:TypeId}{M:Nat→Prop}{h:ad}{s:SliceV}{xs:List α}(c:OwnS f sz t M h s xs):OwnS f sz t (fun b=>M b∧b<h.size) h s xs:=by
 refine⟨c.len,c.ne,c.cap,c.blk.imp id fun⟨b,a,d,i,hc,g⟩=>⟨b,a,d,⟨i,aH hc⟩,hc,g⟩⟩
theorem iG{b:Nat}{t:TypeId}:∀(vs:List Value) (h:ad) (i o:Nat) (c:List Value),h[b]? =some (.cells c.toArray t (0,0))→o+i+vs.length≤c.length→
  gT h ⟨b,o,none⟩ i vs=h.setIfInBounds b (.cells (c.take (o+i)++vs++c.drop (o+i+vs.length)).toArray t (0,0))
 | [],h,i,o,c,hb,hl=>by
  simp only[gT,List.append_nil,cB,cX,ba];apply ot;intro j;rw[cN];split
  ·rename_i e;subst e;rw[hb];simp[aH hb]
  ·rfl
 |v::vs,h,i,o,c,hb,hl=>by
  rw[aV]at hl;simp only[gT];rw[bO,EI hb];have a:(h.setIfInBounds b (.cells (c.toArray.setIfInBounds (o+i) v) t (0,0)))[b]? =some (.cells (c.set (o+i) v).toArray t (0,0)):=by
   rw[jK hb];simp
  rw[iG vs _ (i+1) o (c.set (o+i) v) a (by simp;omega)];have e:∀(x y:Obj),(h.setIfInBounds b x).setIfInBounds b y=h.setIfInBounds b y:=fun x y=>by
   apply ot;intro j;simp only[cN,Array.size_setIfInBounds];split<;>rfl
  rw[e];congr 3
  apply List.ext_getElem?;intro j;simp only[List.getElem?_append,af,aU,List.length_set,aV,om,List.getElem?_set,oo];grind
theorem lO(n:Nat)(z:List Value):(dE n z).length=n*z.length:=by
 unfold dE;induction n with
 |zero=>simp
 |succ n ih=>rw[List.replicate_succ,List.flatten_cons,af,ih,jB];omega
theorem AppP.own{α:Type}{f:α→List Value}{sz g:Nat}{t:TypeId}{M:Nat→Prop}{h:ad}{d:Option Addr}{sl i N:Nat}{xs ys:List α}{n z:List Value}{K:SliceV→ad→Prop}
  (m:OwnS f sz t M h ⟨d,sl,i⟩ xs)(k:N=ys.length)(H:n=ys.flatMap f)(w:co n=true)(hz:z.length=sz)(O:0<g)(v:(xs.length+ys.length)*g≤140737488355328)(hM:M h.size)
  (I:∀s' h',OwnS f sz t M h' s' (xs++ys)→Upd M h h'→K s' h'):AppP (some z) sz g t d sl i N n h K:=by
 have c:sl=xs.length:=m.len;have p:∀x,(f x).length=sz:=fun x=>(m.ne x).1
 subst k H;have q:=ma p ys;have k:=ma p xs;refine⟨fun s=>?_,fun y=>?_⟩
 ·rcases m.blk with C|⟨b,a,E,o,hc,A⟩
  ·have C:i=0:=C
   have B:ys.length=0:=by omega
   have G:xs.length=0:=by omega
   have P:=bU.1 B;have hx:=bU.1 G;subst P hx;refine⟨.inl rfl,rfl,?_⟩;have e:fT h d (sl*sz) (([]:List α).flatMap f)=h:=by cases d<;>rfl
   rw[e];exact I _ _ ⟨by simp[c],m.ne,by simp only[cB];omega,.inl C⟩ (Upd.refl _ _)
  ·have E:d=some ⟨b,0,none⟩:=E
   have A:a.length=(i-sl)*sz:=A;subst E;have L:sl+ys.length≤i:=s;have R:ys.length*sz≤a.length:=by rw[A];exact Nat.mul_le_mul_right _ (Nat.le_sub_of_add_le (show ys.length+sl≤i by omega))
   have u:0+sl*sz+(ys.flatMap f).length≤(xs.flatMap f++a).length:=by
    rw[af,k,q,c];omega
   refine⟨.inr ⟨_,rfl,fun j T=>?_⟩,w,?_⟩
   ·rw[bO]
    refine iv hc ?_;rw[cP];omega
   ·have e:fT h (some ⟨b,0,none⟩) (sl*sz) (ys.flatMap f)=_:=iG (ys.flatMap f) h (sl*sz) 0 _ hc u
    rw[e];have J:(xs.flatMap f++a).take (0+sl*sz)=xs.flatMap f:=by
     rw[aL,c,←k,fw (ao _),List.take_length]
    have D:(xs.flatMap f++a).drop (0+sl*sz+(ys.flatMap f).length)=a.drop (ys.length*sz):=by
     rw[aL,c,←k,List.drop_append,fl (by omega),ik,q];congr 1;omega
    rw[J,D];refine I _ _ ⟨by simp[c],m.ne,s,.inr ⟨b,a.drop (ys.length*sz),rfl,o,?_,?_⟩⟩ (Upd.set h _ o)
    ·rw[jK hc,bH]
    ·rw[aW,A]
     simp only;rw[show i-(sl+ys.length)=(i-sl)-ys.length by omega,Nat.sub_mul (i-sl)]
 ·have S:i*1≤i:=by omega
  refine⟨xs.flatMap f,z,?_,rfl,O,Go.growslice_fits y (by rw[c];exact v),fun Q F=>?_⟩
  ·exact(m.sl (W:=No) fun _ _ _=>id).srow
  ·refine I _ _ ⟨by simp[c],m.ne,F,.inr ⟨h.size,dE (Q-(sl+ys.length)) z,rfl,hM,?_,?_⟩⟩ (Upd.hnew M h _ _)
   ·rw[db,bH]
   ·rw[lO,hz]
end Go.Lift
namespace Go.Lift
open Go
theorem bV{h:ad}{k:ad→Prop}(a:k h):At h k:=a
theorem jG{b o l m sz:Nat}(h:m≠l):bq (some ⟨b,o,none⟩) l m sz=some ⟨b,o+l*sz,none⟩:=by simp[bq,h,bO]
theorem sub_zero{b m sz:Nat}:bq (some ⟨b,0,none⟩) 0 m sz=some ⟨b,0,none⟩:=by
 unfold bq;split
 ·rfl
 ·simp[bO]
theorem kZ{h:ad}{b:Nat}{c:List Value}{t:TypeId}{o n:Nat}{vs:List Value}{a:Option Addr}{k:ad→Prop}(f:SRow h a n vs)(m:co vs=true)(d:h[b]? =some (.cells c.toArray t (0,0)))
  (q:o+n≤c.length) (i:∀h',h'[b]? =some (.cells (c.take o++vs++c.drop (o+n)).toArray t (0,0))→Upd (· =b) h h'→k h'):
  ∃xs,SRow h a n xs∧tT h (some ⟨b,o,none⟩) 0 xs∧co xs=true∧At (fT h (some ⟨b,o,none⟩) 0 xs) k:=by
 have g:=f.1;refine⟨vs,f,.inr ⟨_,rfl,fun j p=>?_⟩,m,bV ?_⟩
 ·rw[bO];exact iv d (by rw[cP];omega)
 ·have e:fT h (some ⟨b,o,none⟩) 0 vs=_:=iG vs h 0 o c d (by omega)
  rw[e];refine i _ ?_ (Upd.set h _ rfl);rw[jK d,cX,g]
theorem lA{h:ad}{b:Nat}{c:List Value}{t:TypeId}{o n:Nat}{vs:List Value}(d:h[b]? =some (.cells c.toArray t (0,0))) (f:vs.length=n) (a:(c.drop o).take n=vs):SRow h (some ⟨b,o,none⟩) n vs:=by
 refine⟨f,.inr ⟨_,rfl,pU d fun i v hv=>?_⟩⟩
 rw[gH,←oo];have:((c.drop o).take n)[i]? =some v:=by rw[a];exact hv
 rw[om]at this;split at this
 ·exact this
 ·cases this
section
variable {α:Type} {f:α→List Value} {sz:Nat}
theorem kM(a:∀x,(f x).length=sz∧0<sz)(xs:List α):(xs.flatMap f).length=xs.length*sz:=ma (fun x=>(a x).1) xs
theorem y2(xs:List α)(k:Nat):xs.flatMap f=(xs.take k).flatMap f++(xs.drop k).flatMap f:=by rw[←bH,ba]
end
theorem It{α:Type}{A X B Z1 Z2:List α}{p q r:Nat}(b:A.length=p)(f:X.length=q)(g:Z1.length=r+q):
  (((A++Z1++Z2).take p++X++(A++Z1++Z2).drop (p+q)).take (p+q))++B++((A++Z1++Z2).take p++X++(A++Z1++Z2).drop (p+q)).drop (p+q+r)=A++(X++B)++Z2:=by
 have d:(A++Z1++Z2).take p=A:=by rw[aw,c5 b]
 have c:(A++Z1++Z2).drop (p+q)=Z1.drop q++Z2:=by
  rw[aw,←dS,cG b,fx (by omega)]
 have a:(A++X).length=p+q:=by rw[af];omega
 rw[d,c,c5 a,←dS,cG a,fx (by rw[aW];omega),dS,fl (by omega),ik];simp only[aw]
theorem Mr{α:Type}{A X B R:List α}{p q r:Nat}(b:A.length=p)(g:B.length=r)(f:q≤R.length):
  (((A++B++R).take (p+q)++B++(A++B++R).drop (p+q+r)).take p)++X++((A++B++R).take (p+q)++B++(A++B++R).drop (p+q+r)).drop (p+q)=A++(X++B)++R.drop q:=by
 have d:((A++B++R).take (p+q)).length=p+q:=by rw[aU,af,af];omega
 have a:(A++B++R).drop (p+q+r)=R.drop q:=by
  rw[show p+q+r=(p+r)+q by omega,←dS,cG (by rw[af];omega)]
 have c:((A++B++R).take (p+q)++(B++(A++B++R).drop (p+q+r))).take p=A:=by
  rw[fw (by omega),List.take_take,Nat.min_eq_left (by omega),aw,c5 b]
 rw[aw ((A++B++R).take (p+q)),c,cG d,a];simp only[aw]
theorem MS{h:ad}{b:Nat}{c:List Value}{t m:TypeId}{sz a sl f d:Nat}{xs:List Value}{z:Option (List Value)}{K:SliceV→ad→Prop}(g:h[b]? =some (.cells c.toArray t (0,0)))
  (p:sl*sz+xs.length≤c.length) (i:sl+d≤f) (n:co xs=true) (k:∀h',h'[b]? =some (.cells (c.take (sl*sz)++xs++c.drop (sl*sz+xs.length)).toArray t (0,0))→Upd (· =b) h h'→K ⟨some ⟨b,0,none⟩,sl+d,f⟩ h'):
  AppP z sz a m (some ⟨b,0,none⟩) sl f d xs h K:=by
 refine⟨fun _=>⟨.inr ⟨_,rfl,fun j o=>?_⟩,n,?_⟩,fun h=>by omega⟩
 ·rw[bO];exact iv g (by rw[cP];omega)
 ·have e:fT h (some ⟨b,0,none⟩) (sl*sz) xs=_:=iG xs h (sl*sz) 0 c g (by omega)
  rw[e];refine k _ ?_ (Upd.set h _ rfl);rw[jK g,aL]
theorem Ig{h:ad}{b:Nat}{c:List Value}{t:TypeId}{o:Nat}{vs:List Value}{k:ad→Prop}(a:h[b]? =some (.cells c.toArray t (0,0)))
  (f:o+vs.length≤c.length) (d:∀h',h'[b]? =some (.cells (c.take o++vs++c.drop (o+vs.length)).toArray t (0,0))→Upd (· =b) h h'→k h'):
  tT h (some ⟨b,o,none⟩) 0 vs∧At (fT h (some ⟨b,o,none⟩) 0 vs) k:=by
 refine⟨.inr ⟨_,rfl,fun j g=>?_⟩,bV ?_⟩
 ·rw[bO];exact iv a (by rw[cP];omega)
 ·have e:fT h (some ⟨b,o,none⟩) 0 vs=_:=iG vs h 0 o c a (by omega)
  rw[e];refine d _ ?_ (Upd.set h _ rfl);rw[jK a,cX]
end Go.Lift
namespace Go.Lift
open Go
end Go.Lift
