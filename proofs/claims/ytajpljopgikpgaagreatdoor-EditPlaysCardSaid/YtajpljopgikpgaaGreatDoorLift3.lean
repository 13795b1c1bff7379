/- A part of the proof that the named laws of this program answer true, whatever the input. -/
import Derived.Test.YtajpljopgikpgaaGreatDoorLift2
open Array renaming ext_getElem?→pP,getElem?_setIfInBounds→cZ,getElem?_eq_some_iff→cF
open List renaming flatMap_cons→ba,length_append→ad,length_cons→aH,getElem?_append_left→bK,getElem?_append_right→bh,getElem?_eq_some_iff→aG,length_take→aP,length_drop→aZ,take_append_drop→aS,flatMap_append→bN,length_eq_zero_iff→aO,getElem?_toArray→iq,length_nil→bL,getElem?_take→pM,getElem?_drop→pN,size_toArray→df,take_append_of_le_length→gf,drop_eq_nil_of_le→f9,nil_append→dE,append_assoc→az,take_left'→dD,drop_drop→dW,drop_left'→cR,drop_append_of_le_length→gg
open Nat renaming lt_or_ge→bO,le_refl→ao,lt_of_lt_of_le→bG,not_lt→yd,succ_mul→kM,zero_add→aU,add_zero→dd
namespace Go.Lift
open Go
attribute [simp] aA aj
theorem aM{p:Prop}[Decidable p]{t e:Prop}(b:p→t)(a:¬p→e):CondP (decide p) t e:=CondP.intro (fun h=>b (of_decide_eq_true h)) (fun h=>a (of_decide_eq_false h))
theorem HC.mono{P:Program}{f:FuncId}{args:List Value}{ks:List Kind}{K c:wR ks→af→Prop}{h:af}(hc:HC P f args ks K h)(d:∀t h',K t h'→c t h'):HC P f args ks c h:=by
 refine⟨fun w g=>?_⟩
 rcases hc.run w g with⟨b,a⟩|⟨v,w',b,a,t,m,j⟩
 ·exact .inl ⟨b,a.mono fun e w' ⟨k,t,i,n⟩=>⟨k,t,i,d t _ n⟩⟩
 ·exact .inr ⟨v,w',b,a,t,m,d t _ j⟩
theorem Join.intro{T:Type}{a:T→af→Prop}{k:(T→af→Prop)→Prop}(J:T→af→Prop)(c:∀R:T→af→Prop,(∀t h,J t h→R t h)→k R)(b:∀t h,J t h→a t h):Join a k:=⟨c a b⟩
theorem Join.plain{T:Type}{a:T→af→Prop}{k:(T→af→Prop)→Prop}(h:k a):Join a k:=⟨h⟩
theorem LoopP.intro{T:Type}{F:(T→af→Prop)→T→af→Prop}{t:T}{h:af}(Inv:T→af→Prop)(m:T→af→Nat)(i:Inv t h)
  (step:∀I:T→af→Prop,∀t h,Inv t h→(∀b a,Inv b a→m b a<m t h→I b a)→F I t h):LoopP F t h:=by
 refine⟨fun I g=>?_⟩
 have key:∀n t h,m t h=n→Inv t h→I t h:=by
  intro n;induction n using Nat.strongRecOn with
  |_ n ih=>exact fun t h f hi=>g t h (step I t h hi fun b a d c=>ih _ (f▸c) b a rfl d)
 exact key _ t h rfl i
theorem LoopP.ghost{T G:Type}{F:(T→af→Prop)→T→af→Prop}{t:T}{h:af}(Inv:G→T→af→Prop)(m:G→Nat)(g:G)(k:Inv g t h)
  (step:∀I:T→af→Prop,∀g t h,Inv g t h→(∀a c b,Inv a c b→m a<m g→I c b)→F I t h):LoopP F t h:=by
 refine⟨fun I j=>?_⟩
 have key:∀n g t h,m g=n→Inv g t h→I t h:=by
  intro n;induction n using Nat.strongRecOn with
  |_ n ih=>exact fun g t h i hi=>j t h (step I g t h hi fun a c b f d=>ih _ (i▸d) a c b rfl f)
 exact key _ g t h rfl k
theorem HV.mk'{P:Program}{f:FuncId}{first cap:Array Value}{args:List Value}{ks:List Kind}{K:wR ks→af→Prop}{h:af}(hc:HC P f (first.toList++args++cap.toList) ks K h):HV P (.func (.func f) first cap) args ks K h:=
 ⟨.inl ⟨f,first,cap,rfl,hc⟩⟩
@[simp] theorem cd(b o n:Nat):adr ⟨b,o,none⟩ n=⟨b,o+n,none⟩:=by
 cases n<;>rfl
@[simp] theorem Al(a:Addr)(n:Nat):(adr a n).block=a.block:=by
 cases n<;>rfl
theorem fX(h:af):aI h=⟨h.size,0,none⟩:=rfl
theorem Ob{h:af}{a:Addr}{v:Value}(hv:aR h a=some v):a.block<h.size:=by
 unfold aR at hv;rcases bO a.block h.size with b|b
 ·exact b
 ·rw[Array.getElem?_eq_none b]at hv;cases hv
theorem bI{h:af}{b i:Nat}{c:Array Value}{e:TypeId}{fr:Nat×Nat}(a:h[b]? =some (.cells c e fr)):aR h ⟨b,i,none⟩=c[i]?:=by
 unfold aR;rw[a];rfl
theorem Qt{h b:af}{a:Addr}(c:b[a.block]? =h[a.block]?):aR b a=aR h a:=by
 unfold aR;rw[c]
theorem CR{h:af}{b i:Nat}{c:Array Value}{e:TypeId}{fr:Nat×Nat}{v:Value}(d:h[b]? =some (.cells c e fr)):
  hset h ⟨b,i,none⟩ v=h.setIfInBounds b (.cells (c.setIfInBounds i v) e fr):=by
 unfold hset;apply pP;intro j;rw[Array.getElem?_modify,cZ];by_cases f:b=j
 ·subst f
  have a:=(cF.1 d).1;simp only[d,if_true,a,Option.map_some];rfl
 ·simp[f]
theorem jd{h:af}{b i:Nat}{c:Array Value}{e:TypeId}(a:h[b]? =some (.cells c e (0,0))) (hi:i<c.size):Wr h ⟨b,i,none⟩:=by
 refine⟨⟨c[i],by rw[bI a,Array.getElem?_eq_getElem hi]⟩,?_⟩
 unfold Gu;rw[a];simp
structure Upd(M:Nat→Prop)(h h':af):Prop where
 size:h.size≤h'.size
 same:∀b,b<h.size→¬M b→h'[b]? =h[b]?
abbrev No:Nat→Prop:=fun _=>False
theorem Upd.refl(M:Nat→Prop)(h:af):Upd M h h:=⟨ao _,fun _ _ _=>rfl⟩
theorem Upd.trans{M M':Nat→Prop}{h g f:af}(k:Upd M h g)(l:Upd M' g f)(i:∀b,M' b→M b∨h.size≤b):Upd M h f:=
 ⟨Nat.le_trans k.size l.size,fun b a d=>by
  rw[l.same b (bG a k.size) (fun hm=>(i b hm).elim d fun c=>absurd a (yd.2 c)),k.same b a d]⟩
theorem Upd.tr{M:Nat→Prop}{h b a:af}(k:Upd M h b)(l:Upd M b a):Upd M h a:=k.trans l fun _ h=>.inl h
theorem Upd.mono{M M':Nat→Prop}{h d:af}(k:Upd M h d)(g:∀b,M b→M' b∨h.size≤b):Upd M' h d:=
 ⟨k.size,fun b c f=>k.same b c fun hm=>(g b hm).elim f fun a=>absurd c (yd.2 a)⟩
theorem Upd.wide{M:Nat→Prop}{h a:af}(k:Upd No h a):Upd M h a:=k.mono fun _ h=>h.elim
theorem Upd.get{M:Nat→Prop}{h a:af}(k:Upd M h a){b:Nat}{o:Obj}(c:h[b]? =some o) (d:¬M b):a[b]? =some o:=by
 rw[k.same b (cF.1 c).1 d,c]
theorem Upd.get0{h a:af}(k:Upd No h a){b:Nat}{o:Obj}(c:h[b]? =some o):a[b]? =some o:=k.get c id
theorem Upd.cell{M:Nat→Prop}{h b:af}(k:Upd M h b){a:Addr}{v:Value}(hv:aR h a=some v)(c:¬M a.block):aR b a=some v:=by
 rw[Qt (k.same _ (Ob hv) c),hv]
theorem Upd.cell0{h b:af}(k:Upd No h b){a:Addr}{v:Value}(hv:aR h a=some v):aR b a=some v:=k.cell hv id
theorem Upd.push(M:Nat→Prop)(h:af)(o:Obj):Upd M h (h.push o):=⟨by simp,fun b a _=>by rw[Array.getElem?_push];simp[Nat.ne_of_lt a]⟩
theorem Upd.set{M:Nat→Prop}(h:af){b:Nat}(o:Obj)(a:M b):Upd M h (h.setIfInBounds b o):=⟨by simp,fun c _ d=>by
 rw[cZ]
 have:b≠c:=fun e=>d (e▸a)
 simp[this]⟩
theorem Upd.hset{M:Nat→Prop}(h:af){a:Addr}(v:Value)(b:M a.block):Upd M h (hset h a v):=⟨by simp[Go.Lift.hset],fun c _ d=>by
 unfold Go.Lift.hset
 rw[Array.getElem?_modify]
 have:a.block≠c:=fun e=>d (e▸b)
 simp[this]⟩
theorem Upd.hnew(M:Nat→Prop)(h:af)(cs:List Value)(t:TypeId):Upd M h (hnew h cs t):=Upd.push M h _
theorem dq(h:af)(cs:List Value)(t:TypeId):(hnew h cs t)[h.size]? =some (.cells cs.toArray t (0,0)):=by
 unfold hnew;simp
theorem yV(h:af)(o:Obj):(h.push o)[h.size]? =some o:=by simp
theorem ki(h:af)(cs:List Value)(t:TypeId):(hnew h cs t).size=h.size+1:=by
 unfold hnew;simp
theorem jw{h:af}{b:Nat}{o c:Obj}(a:h[b]? =some c):(h.setIfInBounds b o)[b]? =some o:=by
 rw[cZ];simp[(cF.1 a).1]
theorem aL{h:af}{b:Nat}{o:Obj}(a:h[b]? =some o):b<h.size:=(cF.1 a).1
theorem Row.upd{M:Nat→Prop}{h b:af}{a:Addr}{vs:List Value}(c:Row h a vs)(k:Upd M h b)(d:¬M a.block):Row b a vs:=fun i v hv=>k.cell (c i v hv) (by rw[Al];exact d)
theorem SRow.upd{M:Nat→Prop}{h f:af}{a:Option Addr}{n:Nat}{vs:List Value}(c:SRow h a n vs)(k:Upd M h f)(g:vs≠[]→∀b,a=some b→¬M b.block):SRow f a n vs:=by
 obtain⟨j,i⟩:=c;refine⟨j,?_⟩;rcases i with rfl|⟨b,d,c⟩
 ·exact .inl rfl
 ·by_cases hv:vs= []
  ·exact .inl hv
  ·exact .inr ⟨b,d,c.upd k (g hv b d)⟩
theorem rC{h:af}{b o:Nat}{c:Array Value}{e:TypeId}{fr:Nat×Nat}(a:h[b]? =some (.cells c e fr)) {vs:List Value} (hv:∀i v,vs[i]? =some v→c[o+i]? =some v):Row h ⟨b,o,none⟩ vs:=fun i v hi=>by
 rw[cd,bI a];exact hv i v hi
structure Sl{α:Type}(f:α→List Value)(sz:Nat)(W:Nat→Prop)(h:af)(s:SliceV)(xs:List α):Prop where
 len:s.len=xs.length
 ne:∀x,(f x).length=sz∧0<sz
 row:xs≠[]→∃a,s.a=some a∧¬W a.block∧Row h a (xs.flatMap f)
theorem Sl.nil{α:Type}{f:α→List Value}{sz:Nat}{W:Nat→Prop}{h:af}{a:Option Addr}{c:Nat}(b:∀x,(f x).length=sz∧0<sz):Sl f sz W h ⟨a,0,c⟩ []:=⟨rfl,b,fun h=>absurd rfl h⟩
theorem Sl.lt{α:Type}{f:α→List Value}{sz:Nat}{W:Nat→Prop}{h:af}{s:SliceV}{xs:List α}(c:Sl f sz W h s xs)(hx:xs≠[]){a:Addr}(i:s.a=some a):a.block<h.size:=by
 obtain⟨a',b,j,g⟩:=c.row hx;rw[i]at b;cases b;cases xs with
 |nil=>exact absurd rfl hx
 |cons x xs=>
  have d:=c.ne x;cases hf:f x with
  |nil=>rw[hf]at d;simp at d;omega
  |cons v vs=>
   have:=g 0 v (by rw[ba,hf];rfl);have:=Ob this;rw[Al]at this;exact this
theorem Sl.upd{α:Type}{f:α→List Value}{sz:Nat}{W M:Nat→Prop}{h j:af}{s:SliceV}{xs:List α}(c:Sl f sz W h s xs)(k:Upd M h j)(hm:∀b,M b→W b∨h.size≤b):Sl f sz W j s xs:=by
 refine⟨c.len,c.ne,fun hx=>?_⟩
 obtain⟨a,g,i,m⟩:=c.row hx;exact⟨a,g,i,m.upd k fun n=>(hm _ n).elim i fun d=>absurd (c.lt hx g) (yd.2 d)⟩
theorem Sl.less{α:Type}{f:α→List Value}{sz:Nat}{W W':Nat→Prop}{h:af}{s:SliceV}{xs:List α}(c:Sl f sz W h s xs)(hm:∀b,W' b→W b∨h.size≤b):Sl f sz W' h s xs:=
 ⟨c.len,c.ne,fun hx=>let⟨a,g,k,i⟩:=c.row hx;⟨a,g,fun j=>(hm _ j).elim k fun d=>absurd (c.lt hx g) (yd.2 d),i⟩⟩
theorem nu{α:Type}{f:α→List Value}{sz:Nat}(a:∀x,(f x).length=sz):∀xs:List α,(xs.flatMap f).length=xs.length*sz
 | []=>by simp
 |x::xs=>by rw[ba,ad,a,nu a xs,aH,kM];omega
theorem y4{α:Type}{f:α→List Value}{sz:Nat}(a:∀x,(f x).length=sz):∀(xs:List α) (i j:Nat) (x:α),xs[i]? =some x→j<sz→(xs.flatMap f)[i*sz+j]? =(f x)[j]?
 | [],i,j,x,h,_=>by simp at h
 |y::xs,0,j,x,h,hj=>by
  simp only[List.getElem?_cons_zero,Option.some.injEq]at h;subst h;rw[ba,Nat.zero_mul,aU,bK (by rw[a];exact hj)]
 |y::xs,i+1,j,x,h,hj=>by
  rw[List.getElem?_cons_succ]at h;rw[ba,bh (by rw[a,kM];omega),a,show(i+1)*sz+j-sz=i*sz+j by rw[kM];omega]
  exact y4 a xs i j x h hj
theorem Sl.at{α:Type}{f:α→List Value}{sz:Nat}{W:Nat→Prop}{h:af}{s:SliceV}{xs:List α}(b:Sl f sz W h s xs){i:Nat}{x:α}(hi:xs[i]? =some x):
  ∃a,s.a=some a∧¬W a.block∧∀j v,(f x)[j]? =some v→aR h (adr (adr a (i*sz)) j)=some v:=by
 obtain⟨a,d,k,c⟩:=b.row (fun e=>by subst e;simp at hi)
 refine⟨a,d,k,fun j v hv=>?_⟩
 have g:j<sz:=by rw[←(b.ne x).1];exact(aG.1 hv).1
 rw[Db];exact c _ v (by rw[y4 (fun x=>(b.ne x).1) xs i j x hi g];exact hv)
theorem Sl.at0{α:Type}{g:α→Value}{W:Nat→Prop}{h:af}{s:SliceV}{xs:List α}(c:Sl (fun x=> [g x]) 1 W h s xs){i:Nat}{x:α}(hi:xs[i]? =some x):
  ∃a,s.a=some a∧¬W a.block∧aR h (adr a (i*1))=some (g x):=by
 obtain⟨a,d,f,b⟩:=c.at hi;exact⟨a,d,f,b 0 _ rfl⟩
theorem Sl.srow{α:Type}{f:α→List Value}{sz:Nat}{W:Nat→Prop}{h:af}{s:SliceV}{xs:List α}(b:Sl f sz W h s xs):SRow h s.a (s.len*sz) (xs.flatMap f):=by
 refine⟨?_,?_⟩
 ·rw[b.len,nu fun x=>(b.ne x).1]
 ·by_cases hx:xs= []
  ·subst hx;exact .inl rfl
  ·obtain⟨a,d,_,c⟩:=b.row hx
   exact .inr ⟨a,d,c⟩
theorem Sl.sub{α:Type}{f:α→List Value}{sz:Nat}{W:Nat→Prop}{h:af}{s:SliceV}{xs:List α}(b:Sl f sz W h s xs){l hi m c:Nat}(p:l≤hi)(d:hi≤xs.length)(q:hi≤m):
  Sl f sz W h ⟨bq s.a l m sz,hi-l,c⟩ ((xs.drop l).take (hi-l)):=by
 refine⟨by simp only[aP,aZ];omega,b.ne,fun hx=>?_⟩
 have j:l<hi:=by
  rcases bO l hi with h|h
  ·exact h
  ·rw[Nat.sub_eq_zero_of_le h]at hx;exact absurd List.take_zero hx
 obtain⟨a,k,n,g⟩:=b.row (fun e=>by rw[e]at d;simp at d;omega)
 refine⟨adr a (l*sz),?_,by rw[Al];exact n,fun i v hv=>?_⟩
 ·unfold bq
  rw[if_neg (by omega),k];rfl
 ·rw[Db]
  refine g _ v ?_;have e:xs=xs.take l++((xs.drop l).take (hi-l)++(xs.drop l).drop (hi-l)):=by rw[aS,aS]
  rw[e,bN,bN];have o:((xs.take l).flatMap f).length=l*sz:=by rw[nu fun x=>(b.ne x).1,aP];congr 1;omega
  rw[bh (by omega),o,Nat.add_sub_cancel_left,bK (aG.1 hv).1];exact hv
structure OwnS{α:Type}(f:α→List Value)(sz:Nat)(t:TypeId)(M:Nat→Prop)(h:af)(s:SliceV)(xs:List α):Prop where
 len:s.len=xs.length
 ne:∀x,(f x).length=sz∧0<sz
 cap:s.len≤s.cap
 blk:s.cap=0∨∃b rest,s.a=some ⟨b,0,none⟩∧M b∧h[b]? =some (.cells (xs.flatMap f++rest).toArray t (0,0))∧rest.length=(s.cap-s.len)*sz
theorem OwnS.nil{α:Type}{f:α→List Value}{sz:Nat}{t:TypeId}{M:Nat→Prop}{h:af}{a:Option Addr}(b:∀x,(f x).length=sz∧0<sz):OwnS f sz t M h ⟨a,0,0⟩ []:=⟨rfl,b,ao _,.inl rfl⟩
theorem OwnS.sl{α:Type}{f:α→List Value}{sz:Nat}{t:TypeId}{M W:Nat→Prop}{h:af}{s:SliceV}{xs:List α}(a:OwnS f sz t M h s xs)(hm:∀b,M b→b<h.size→¬W b):Sl f sz W h s xs:=by
 refine⟨a.len,a.ne,fun hx=>?_⟩
 rcases a.blk with j|⟨b,c,g,d,hc,_⟩
 ·have:=a.len;have:=a.cap
  have:xs.length=0:=by omega
  exact absurd (aO.1 this) hx
 ·exact⟨_,g,hm b d (aL hc),rC hc fun i v hv=>by
   rw[aU,iq,bK (aG.1 hv).1];exact hv⟩
theorem OwnS.upd{α:Type}{f:α→List Value}{sz:Nat}{t:TypeId}{M M':Nat→Prop}{h g:af}{s:SliceV}{xs:List α}(c:OwnS f sz t M h s xs)(k:Upd M' h g)(hm:∀b,M b→¬M' b):OwnS f sz t M g s xs:=by
 refine⟨c.len,c.ne,c.cap,c.blk.imp id fun⟨b,a,j,d,hc,i⟩=>⟨b,a,j,d,k.get hc (hm b d),i⟩⟩
theorem OwnS.more{α:Type}{f:α→List Value}{sz:Nat}{t:TypeId}{M M':Nat→Prop}{h:af}{s:SliceV}{xs:List α}(c:OwnS f sz t M h s xs)(hm:∀b,M b→M' b):OwnS f sz t M' h s xs:=by
 refine⟨c.len,c.ne,c.cap,c.blk.imp id fun⟨b,a,i,d,hc,g⟩=>⟨b,a,i,hm b d,hc,g⟩⟩
theorem OwnS.within{α:Type}{f:α→List Value}{sz:Nat}{t:TypeId}{M:Nat→Prop}{h:af}{s:SliceV}{xs:List α}(c:OwnS f sz t M h s xs):OwnS f sz t (fun b=>M b∧b<h.size) h s xs:=by
 refine⟨c.len,c.ne,c.cap,c.blk.imp id fun⟨b,a,i,d,hc,g⟩=>⟨b,a,i,⟨d,aL hc⟩,hc,g⟩⟩
theorem jH{b:Nat}{t:TypeId}:∀(vs:List Value) (h:af) (i o:Nat) (c:List Value),h[b]? =some (.cells c.toArray t (0,0))→o+i+vs.length≤c.length→
  g8 h ⟨b,o,none⟩ i vs=h.setIfInBounds b (.cells (c.take (o+i)++vs++c.drop (o+i+vs.length)).toArray t (0,0))
 | [],h,i,o,c,hb,hl=>by
  simp only[g8,List.append_nil,bL,dd,aS];apply pP;intro j;rw[cZ];split
  ·rename_i e;subst e;rw[hb];simp[aL hb]
  ·rfl
 |v::vs,h,i,o,c,hb,hl=>by
  rw[aH]at hl;simp only[g8];rw[cd,CR hb];have a:(h.setIfInBounds b (.cells (c.toArray.setIfInBounds (o+i) v) t (0,0)))[b]? =some (.cells (c.set (o+i) v).toArray t (0,0)):=by
   rw[jw hb];simp
  rw[jH vs _ (i+1) o (c.set (o+i) v) a (by simp;omega)];have e:∀(x y:Obj),(h.setIfInBounds b x).setIfInBounds b y=h.setIfInBounds b y:=fun x y=>by
   apply pP;intro j;simp only[cZ,Array.size_setIfInBounds];split<;>rfl
  rw[e];congr 3
  apply List.ext_getElem?;intro j;simp only[List.getElem?_append,ad,aP,List.length_set,aH,pM,List.getElem?_set,pN];grind
theorem mX(n:Nat)(z:List Value):(eh n z).length=n*z.length:=by
 unfold eh;induction n with
 |zero=>simp
 |succ n ih=>rw[List.replicate_succ,List.flatten_cons,ad,ih,kM];omega
theorem AppP.own{α:Type}{f:α→List Value}{sz g:Nat}{t:TypeId}{M:Nat→Prop}{h:af}{d:Option Addr}{sl k N:Nat}{xs ys:List α}{n z:List Value}{K:SliceV→af→Prop}
  (m:OwnS f sz t M h ⟨d,sl,k⟩ xs)(i:N=ys.length)(F:n=ys.flatMap f)(s:cH n=true)(hz:z.length=sz)(S:0<g)(p:(xs.length+ys.length)*g≤140737488355328)(hM:M h.size)
  (J:∀s' h',OwnS f sz t M h' s' (xs++ys)→Upd M h h'→K s' h'):AppP (some z) sz g t d sl k N n h K:=by
 have a:sl=xs.length:=m.len;have q:∀x,(f x).length=sz:=fun x=>(m.ne x).1
 subst i F;have u:=nu q ys;have i:=nu q xs;refine⟨fun w=>?_,fun y=>?_⟩
 ·rcases m.blk with G|⟨b,c,I,v,hc,A⟩
  ·have G:k=0:=G
   have H:ys.length=0:=by omega
   have C:xs.length=0:=by omega
   have O:=aO.1 H;have hx:=aO.1 C;subst O hx;refine⟨.inl rfl,rfl,?_⟩;have e:gC h d (sl*sz) (([]:List α).flatMap f)=h:=by cases d<;>rfl
   rw[e];exact J _ _ ⟨by simp[a],m.ne,by simp only[bL];omega,.inl G⟩ (Upd.refl _ _)
  ·have I:d=some ⟨b,0,none⟩:=I
   have A:c.length=(k-sl)*sz:=A;subst I;have L:sl+ys.length≤k:=w;have P:ys.length*sz≤c.length:=by rw[A];exact Nat.mul_le_mul_right _ (Nat.le_sub_of_add_le (show ys.length+sl≤k by omega))
   have o:0+sl*sz+(ys.flatMap f).length≤(xs.flatMap f++c).length:=by
    rw[ad,i,u,a];omega
   refine⟨.inr ⟨_,rfl,fun j T=>?_⟩,s,?_⟩
   ·rw[cd]
    refine jd hc ?_;rw[df];omega
   ·have e:gC h (some ⟨b,0,none⟩) (sl*sz) (ys.flatMap f)=_:=jH (ys.flatMap f) h (sl*sz) 0 _ hc o
    rw[e];have D:(xs.flatMap f++c).take (0+sl*sz)=xs.flatMap f:=by
     rw[aU,a,←i,gf (ao _),List.take_length]
    have E:(xs.flatMap f++c).drop (0+sl*sz+(ys.flatMap f).length)=c.drop (ys.length*sz):=by
     rw[aU,a,←i,List.drop_append,f9 (by omega),dE,u];congr 1;omega
    rw[D,E];refine J _ _ ⟨by simp[a],m.ne,w,.inr ⟨b,c.drop (ys.length*sz),rfl,v,?_,?_⟩⟩ (Upd.set h _ v)
    ·rw[jw hc,bN]
    ·rw[aZ,A]
     simp only;rw[show k-(sl+ys.length)=(k-sl)-ys.length by omega,Nat.sub_mul (k-sl)]
 ·have Q:k*1≤k:=by omega
  refine⟨xs.flatMap f,z,?_,rfl,S,Go.growslice_fits y (by rw[a];exact p),fun R B=>?_⟩
  ·exact(m.sl (W:=No) fun _ _ _=>id).srow
  ·refine J _ _ ⟨by simp[a],m.ne,B,.inr ⟨h.size,eh (R-(sl+ys.length)) z,rfl,hM,?_,?_⟩⟩ (Upd.hnew M h _ _)
   ·rw[dq,bN]
   ·rw[mX,hz]
end Go.Lift
namespace Go.Lift
open Go
theorem ce{h:af}{k:af→Prop}(a:k h):At h k:=a
theorem kP{b o l m sz:Nat}(h:m≠l):bq (some ⟨b,o,none⟩) l m sz=some ⟨b,o+l*sz,none⟩:=by simp[bq,h,cd]
theorem sub_zero{b m sz:Nat}:bq (some ⟨b,0,none⟩) 0 m sz=some ⟨b,0,none⟩:=by
 unfold bq;split
 ·rfl
 ·simp[cd]
theorem mo{h:af}{b:Nat}{c:List Value}{t:TypeId}{o n:Nat}{vs:List Value}{a:Option Addr}{k:af→Prop}(f:SRow h a n vs)(m:cH vs=true)(d:h[b]? =some (.cells c.toArray t (0,0)))
  (q:o+n≤c.length) (i:∀h',h'[b]? =some (.cells (c.take o++vs++c.drop (o+n)).toArray t (0,0))→Upd (· =b) h h'→k h'):
  ∃xs,SRow h a n xs∧vo h (some ⟨b,o,none⟩) 0 xs∧cH xs=true∧At (gC h (some ⟨b,o,none⟩) 0 xs) k:=by
 have g:=f.1;refine⟨vs,f,.inr ⟨_,rfl,fun j p=>?_⟩,m,ce ?_⟩
 ·rw[cd];exact jd d (by rw[df];omega)
 ·have e:gC h (some ⟨b,o,none⟩) 0 vs=_:=jH vs h 0 o c d (by omega)
  rw[e];refine i _ ?_ (Upd.set h _ rfl);rw[jw d,dd,g]
theorem mD{h:af}{b:Nat}{c:List Value}{t:TypeId}{o n:Nat}{vs:List Value}(d:h[b]? =some (.cells c.toArray t (0,0))) (f:vs.length=n) (a:(c.drop o).take n=vs):SRow h (some ⟨b,o,none⟩) n vs:=by
 refine⟨f,.inr ⟨_,rfl,rC d fun i v hv=>?_⟩⟩
 rw[iq,←pN];have:((c.drop o).take n)[i]? =some v:=by rw[a];exact hv
 rw[pM]at this;split at this
 ·exact this
 ·cases this
section
variable {α:Type} {f:α→List Value} {sz:Nat}
theorem l0(a:∀x,(f x).length=sz∧0<sz)(xs:List α):(xs.flatMap f).length=xs.length*sz:=nu (fun x=>(a x).1) xs
theorem BH(xs:List α)(k:Nat):xs.flatMap f=(xs.take k).flatMap f++(xs.drop k).flatMap f:=by rw[←bN,aS]
end
theorem L6{α:Type}{A X B Z1 Z2:List α}{p q r:Nat}(b:A.length=p)(g:X.length=q)(f:Z1.length=r+q):
  (((A++Z1++Z2).take p++X++(A++Z1++Z2).drop (p+q)).take (p+q))++B++((A++Z1++Z2).take p++X++(A++Z1++Z2).drop (p+q)).drop (p+q+r)=A++(X++B)++Z2:=by
 have c:(A++Z1++Z2).take p=A:=by rw[az,dD b]
 have d:(A++Z1++Z2).drop (p+q)=Z1.drop q++Z2:=by
  rw[az,←dW,cR b,gg (by omega)]
 have a:(A++X).length=p+q:=by rw[ad];omega
 rw[c,d,dD a,←dW,cR a,gg (by rw[aZ];omega),dW,f9 (by omega),dE];simp only[az]
theorem Qq{α:Type}{A X B R:List α}{p q r:Nat}(b:A.length=p)(g:B.length=r)(f:q≤R.length):
  (((A++B++R).take (p+q)++B++(A++B++R).drop (p+q+r)).take p)++X++((A++B++R).take (p+q)++B++(A++B++R).drop (p+q+r)).drop (p+q)=A++(X++B)++R.drop q:=by
 have d:((A++B++R).take (p+q)).length=p+q:=by rw[aP,ad,ad];omega
 have c:(A++B++R).drop (p+q+r)=R.drop q:=by
  rw[show p+q+r=(p+r)+q by omega,←dW,cR (by rw[ad];omega)]
 have a:((A++B++R).take (p+q)++(B++(A++B++R).drop (p+q+r))).take p=A:=by
  rw[gf (by omega),List.take_take,Nat.min_eq_left (by omega),az,dD b]
 rw[az ((A++B++R).take (p+q)),a,cR d,c];simp only[az]
theorem QP{h:af}{b:Nat}{c:List Value}{t n:TypeId}{sz a sl g f:Nat}{xs:List Value}{z:Option (List Value)}{K:SliceV→af→Prop}(d:h[b]? =some (.cells c.toArray t (0,0)))
  (p:sl*sz+xs.length≤c.length) (i:sl+f≤g) (m:cH xs=true) (k:∀h',h'[b]? =some (.cells (c.take (sl*sz)++xs++c.drop (sl*sz+xs.length)).toArray t (0,0))→Upd (· =b) h h'→K ⟨some ⟨b,0,none⟩,sl+f,g⟩ h'):
  AppP z sz a n (some ⟨b,0,none⟩) sl g f xs h K:=by
 refine⟨fun _=>⟨.inr ⟨_,rfl,fun j o=>?_⟩,m,?_⟩,fun h=>by omega⟩
 ·rw[cd];exact jd d (by rw[df];omega)
 ·have e:gC h (some ⟨b,0,none⟩) (sl*sz) xs=_:=jH xs h (sl*sz) 0 c d (by omega)
  rw[e];refine k _ ?_ (Upd.set h _ rfl);rw[jw d,aU]
theorem LV{h:af}{b:Nat}{c:List Value}{t:TypeId}{o:Nat}{vs:List Value}{k:af→Prop}(a:h[b]? =some (.cells c.toArray t (0,0)))
  (f:o+vs.length≤c.length) (d:∀h',h'[b]? =some (.cells (c.take o++vs++c.drop (o+vs.length)).toArray t (0,0))→Upd (· =b) h h'→k h'):
  vo h (some ⟨b,o,none⟩) 0 vs∧At (gC h (some ⟨b,o,none⟩) 0 vs) k:=by
 refine⟨.inr ⟨_,rfl,fun j g=>?_⟩,ce ?_⟩
 ·rw[cd];exact jd a (by rw[df];omega)
 ·have e:gC h (some ⟨b,o,none⟩) 0 vs=_:=jH vs h 0 o c a (by omega)
  rw[e];refine d _ ?_ (Upd.set h _ rfl);rw[jw a,dd]
end Go.Lift
namespace Go.Lift
open Go
structure Takes{α:Type}(P:Program)(y:Value)(enc:α→List Value)(N:Nat)(J:List α→(Nat→Prop)→af→Prop):Prop where
 lt:∀pre A h,J pre A h→∀b,A b→b<h.size
 keep:∀pre A h h' B,J pre A h→Upd B h h'→(∀b,A b→¬B b)→J pre A h'
 step:∀pre A h x (K:Bool→af→Prop),J pre A h→pre.length<N→(∀h' A',J (pre++ [x]) A' h'→Upd A h h'→(∀b,A' b→A b∨h.size≤b)→K true h')→HV P y (enc x) [.c .bool] K h
structure Gives{α:Type}(P:Program)(fv:Value)(enc:α→List Value)(N:Nat)(S:List α→Prop)(Q:Nat→Prop)(h:af):Prop where
 lt:∀b,Q b→b<h.size
 run:∃f first cap,fv=.func (.func f) first cap∧∀(y:Value) (J:List α→(Nat→Prop)→af→Prop) (A M:Nat→Prop) (h1:af) (K:Unit→af→Prop),Takes P y enc N J→J [] A h1→Upd M h h1→(∀b,Q b→¬M b)→(∀b,A b→¬Q b)→
  (∀xs A' h',S xs→J xs A' h'→Upd A h1 h'→(∀b,A' b→A b∨h1.size≤b)→K () h')→HE P f (first.toList++ [y]++cap.toList) [] K h1
theorem Gives.upd{α:Type}{P:Program}{d:Value}{enc:α→List Value}{N:Nat}{S:List α→Prop}{Q M:Nat→Prop}{h c:af}(g:Gives P d enc N S Q h)(k:Upd M h c)(hm:∀b,Q b→¬M b):Gives P d enc N S Q c:=by
 obtain⟨f,first,cap,e,j⟩:=g.run
 refine⟨fun b a=>bG (g.lt b a) k.size,f,first,cap,e,fun y J A M' i K s n o q m p=>?_⟩
 exact j y J A (fun b=>M b∨M' b) i K s n ((k.mono fun b a=>.inl (.inl a)).tr (o.mono fun b a=>.inl (.inr a))) (fun b a h=>h.elim (hm b a) (q b a)) m p
end Go.Lift
