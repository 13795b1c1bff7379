/- A part of the proof that the named laws of this program answer true, whatever the input. -/
import Derived.Test.YtajpljopgikpgaaGreatDoorLift2
open Array renaming ext_getElem?→oo,getElem?_setIfInBounds→cK,getElem?_eq_some_iff→cj
open List renaming flatMap_cons→aR,length_append→ad,length_cons→az,getElem?_append_left→bQ,getElem?_append_right→aQ,getElem?_eq_some_iff→bm,length_take→aD,length_drop→aO,take_append_drop→aG,flatMap_append→bq,length_eq_zero_iff→aF,getElem?_toArray→gO,length_nil→bw,getElem?_take→oh,getElem?_drop→ol,size_toArray→dy,take_append_of_le_length→fM,drop_eq_nil_of_le→gu,nil_append→dM,append_assoc→au,take_left'→cX,drop_drop→dA,drop_left'→cF,drop_append_of_le_length→fO
open Nat renaming lt_or_ge→bG,le_refl→aj,lt_of_lt_of_le→bI,not_lt→vG,succ_mul→jE,zero_add→aI,add_zero→cW
namespace Go.Lift
open Go
attribute [simp] ax al
theorem aB{p:Prop}[Decidable p]{t e:Prop}(b:p→t)(a:¬p→e):CondP (decide p) t e:=CondP.intro (fun h=>b (of_decide_eq_true h)) (fun h=>a (of_decide_eq_false h))
theorem HC.mono{P:Program}{f:FuncId}{args:List Value}{ks:List Kind}{K c:vR ks→ae→Prop}{h:ae}(hc:HC P f args ks K h)(d:∀t h',K t h'→c t h'):HC P f args ks c h:=by
 refine⟨fun w k=>?_⟩
 rcases hc.run w k with⟨b,a⟩|⟨v,w',b,a,t,m,j⟩
 ·exact .inl ⟨b,a.mono fun e w' ⟨n,t,i,g⟩=>⟨n,t,i,d t _ g⟩⟩
 ·exact .inr ⟨v,w',b,a,t,m,d t _ j⟩
theorem Join.intro{T:Type}{a:T→ae→Prop}{k:(T→ae→Prop)→Prop}(J:T→ae→Prop)(c:∀R:T→ae→Prop,(∀t h,J t h→R t h)→k R)(b:∀t h,J t h→a t h):Join a k:=⟨c a b⟩
theorem Join.plain{T:Type}{a:T→ae→Prop}{k:(T→ae→Prop)→Prop}(h:k a):Join a k:=⟨h⟩
theorem LoopP.intro{T:Type}{F:(T→ae→Prop)→T→ae→Prop}{t:T}{h:ae}(Inv:T→ae→Prop)(m:T→ae→Nat)(g:Inv t h)
  (step:∀I:T→ae→Prop,∀t h,Inv t h→(∀a b,Inv a b→m a b<m t h→I a b)→F I t h):LoopP F t h:=by
 refine⟨fun I f=>?_⟩
 have key:∀n t h,m t h=n→Inv t h→I t h:=by
  intro n;induction n using Nat.strongRecOn with
  |_ n ih=>exact fun t h e hi=>f t h (step I t h hi fun a b d c=>ih _ (e▸c) a b rfl d)
 exact key _ t h rfl g
theorem LoopP.ghost{T G:Type}{F:(T→ae→Prop)→T→ae→Prop}{t:T}{h:ae}(Inv:G→T→ae→Prop)(m:G→Nat)(g:G)(j:Inv g t h)
  (step:∀I:T→ae→Prop,∀g t h,Inv g t h→(∀c a b,Inv c a b→m c<m g→I a b)→F I t h):LoopP F t h:=by
 refine⟨fun I i=>?_⟩
 have key:∀n g t h,m g=n→Inv g t h→I t h:=by
  intro n;induction n using Nat.strongRecOn with
  |_ n ih=>exact fun g t h f hi=>i t h (step I g t h hi fun c a b e d=>ih _ (f▸d) c a b rfl e)
 exact key _ g t h rfl j
theorem HV.mk'{P:Program}{f:FuncId}{first cap:Array Value}{args:List Value}{ks:List Kind}{K:vR ks→ae→Prop}{h:ae}(hc:HC P f (first.toList++args++cap.toList) ks K h):HV P (.func (.func f) first cap) args ks K h:=
 ⟨.inl ⟨f,first,cap,rfl,hc⟩⟩
@[simp] theorem bV(b o n:Nat):adr ⟨b,o,none⟩ n=⟨b,o+n,none⟩:=by
 cases n<;>rfl
@[simp] theorem xD(a:Addr)(n:Nat):(adr a n).block=a.block:=by
 cases n<;>rfl
theorem fE(h:ae):aC h=⟨h.size,0,none⟩:=rfl
theorem Km{h:ae}{a:Addr}{v:Value}(hv:aJ h a=some v):a.block<h.size:=by
 unfold aJ at hv;rcases bG a.block h.size with b|b
 ·exact b
 ·rw[Array.getElem?_eq_none b]at hv;cases hv
theorem bl{h:ae}{b i:Nat}{c:Array Value}{e:TypeId}{fr:Nat×Nat}(a:h[b]? =some (.cells c e fr)):aJ h ⟨b,i,none⟩=c[i]?:=by
 unfold aJ;rw[a];rfl
theorem ME{h b:ae}{a:Addr}(c:b[a.block]? =h[a.block]?):aJ b a=aJ h a:=by
 unfold aJ;rw[c]
theorem Ae{h:ae}{b i:Nat}{c:Array Value}{e:TypeId}{fr:Nat×Nat}{v:Value}(f:h[b]? =some (.cells c e fr)):
  hset h ⟨b,i,none⟩ v=h.setIfInBounds b (.cells (c.setIfInBounds i v) e fr):=by
 unfold hset;apply oo;intro j;rw[Array.getElem?_modify,cK];by_cases d:b=j
 ·subst d
  have a:=(cj.1 f).1;simp only[f,if_true,a,Option.map_some];rfl
 ·simp[d]
theorem iX{h:ae}{b i:Nat}{c:Array Value}{e:TypeId}(a:h[b]? =some (.cells c e (0,0))) (hi:i<c.size):Wr h ⟨b,i,none⟩:=by
 refine⟨⟨c[i],by rw[bl a,Array.getElem?_eq_getElem hi]⟩,?_⟩
 unfold Dm;rw[a];simp
structure Upd(M:Nat→Prop)(h h':ae):Prop where
 size:h.size≤h'.size
 same:∀b,b<h.size→¬M b→h'[b]? =h[b]?
abbrev No:Nat→Prop:=fun _=>False
theorem Upd.refl(M:Nat→Prop)(h:ae):Upd M h h:=⟨aj _,fun _ _ _=>rfl⟩
theorem Upd.trans{M M':Nat→Prop}{h e d:ae}(k:Upd M h e)(l:Upd M' e d)(g:∀b,M' b→M b∨h.size≤b):Upd M h d:=
 ⟨Nat.le_trans k.size l.size,fun b a f=>by
  rw[l.same b (bI a k.size) (fun hm=>(g b hm).elim f fun c=>absurd a (vG.2 c)),k.same b a f]⟩
theorem Upd.tr{M:Nat→Prop}{h b a:ae}(k:Upd M h b)(l:Upd M b a):Upd M h a:=k.trans l fun _ h=>.inl h
theorem Upd.mono{M M':Nat→Prop}{h d:ae}(k:Upd M h d)(f:∀b,M b→M' b∨h.size≤b):Upd M' h d:=
 ⟨k.size,fun b c e=>k.same b c fun hm=>(f b hm).elim e fun a=>absurd c (vG.2 a)⟩
theorem Upd.wide{M:Nat→Prop}{h a:ae}(k:Upd No h a):Upd M h a:=k.mono fun _ h=>h.elim
theorem Upd.get{M:Nat→Prop}{h c:ae}(k:Upd M h c){b:Nat}{o:Obj}(a:h[b]? =some o) (d:¬M b):c[b]? =some o:=by
 rw[k.same b (cj.1 a).1 d,a]
theorem Upd.get0{h a:ae}(k:Upd No h a){b:Nat}{o:Obj}(c:h[b]? =some o):a[b]? =some o:=k.get c id
theorem Upd.cell{M:Nat→Prop}{h b:ae}(k:Upd M h b){a:Addr}{v:Value}(hv:aJ h a=some v)(c:¬M a.block):aJ b a=some v:=by
 rw[ME (k.same _ (Km hv) c),hv]
theorem Upd.cell0{h b:ae}(k:Upd No h b){a:Addr}{v:Value}(hv:aJ h a=some v):aJ b a=some v:=k.cell hv id
theorem Upd.push(M:Nat→Prop)(h:ae)(o:Obj):Upd M h (h.push o):=⟨by simp,fun b a _=>by rw[Array.getElem?_push];simp[Nat.ne_of_lt a]⟩
theorem Upd.set{M:Nat→Prop}(h:ae){b:Nat}(o:Obj)(d:M b):Upd M h (h.setIfInBounds b o):=⟨by simp,fun c _ a=>by
 rw[cK]
 have:b≠c:=fun e=>a (e▸d)
 simp[this]⟩
theorem Upd.hset{M:Nat→Prop}(h:ae){a:Addr}(v:Value)(d:M a.block):Upd M h (hset h a v):=⟨by simp[Go.Lift.hset],fun c _ b=>by
 unfold Go.Lift.hset
 rw[Array.getElem?_modify]
 have:a.block≠c:=fun e=>b (e▸d)
 simp[this]⟩
theorem Upd.hnew(M:Nat→Prop)(h:ae)(cs:List Value)(t:TypeId):Upd M h (hnew h cs t):=Upd.push M h _
theorem cO(h:ae)(cs:List Value)(t:TypeId):(hnew h cs t)[h.size]? =some (.cells cs.toArray t (0,0)):=by
 unfold hnew;simp
theorem ww(h:ae)(o:Obj):(h.push o)[h.size]? =some o:=by simp
theorem jm(h:ae)(cs:List Value)(t:TypeId):(hnew h cs t).size=h.size+1:=by
 unfold hnew;simp
theorem jt{h:ae}{b:Nat}{o a:Obj}(c:h[b]? =some a):(h.setIfInBounds b o)[b]? =some o:=by
 rw[cK];simp[(cj.1 c).1]
theorem aN{h:ae}{b:Nat}{o:Obj}(a:h[b]? =some o):b<h.size:=(cj.1 a).1
theorem Row.upd{M:Nat→Prop}{h b:ae}{a:Addr}{vs:List Value}(d:Row h a vs)(k:Upd M h b)(c:¬M a.block):Row b a vs:=fun i v hv=>k.cell (d i v hv) (by rw[xD];exact c)
theorem SRow.upd{M:Nat→Prop}{h e:ae}{a:Option Addr}{n:Nat}{vs:List Value}(c:SRow h a n vs)(k:Upd M h e)(i:vs≠[]→∀b,a=some b→¬M b.block):SRow e a n vs:=by
 obtain⟨g,f⟩:=c;refine⟨g,?_⟩;rcases f with rfl|⟨b,d,c⟩
 ·exact .inl rfl
 ·by_cases hv:vs= []
  ·exact .inl hv
  ·exact .inr ⟨b,d,c.upd k (i hv b d)⟩
theorem pX{h:ae}{b o:Nat}{c:Array Value}{e:TypeId}{fr:Nat×Nat}(a:h[b]? =some (.cells c e fr)) {vs:List Value} (hv:∀i v,vs[i]? =some v→c[o+i]? =some v):Row h ⟨b,o,none⟩ vs:=fun i v hi=>by
 rw[bV,bl a];exact hv i v hi
structure Sl{α:Type}(f:α→List Value)(sz:Nat)(W:Nat→Prop)(h:ae)(s:SliceV)(xs:List α):Prop where
 len:s.len=xs.length
 ne:∀x,(f x).length=sz∧0<sz
 row:xs≠[]→∃a,s.a=some a∧¬W a.block∧Row h a (xs.flatMap f)
theorem Sl.nil{α:Type}{f:α→List Value}{b:Nat}{W:Nat→Prop}{h:ae}{a:Option Addr}{c:Nat}(d:∀x,(f x).length=b∧0<b):Sl f b W h ⟨a,0,c⟩ []:=⟨rfl,d,fun h=>absurd rfl h⟩
theorem Sl.lt{α:Type}{f:α→List Value}{i:Nat}{W:Nat→Prop}{h:ae}{s:SliceV}{xs:List α}(d:Sl f i W h s xs)(hx:xs≠[]){a:Addr}(e:s.a=some a):a.block<h.size:=by
 obtain⟨a',b,j,g⟩:=d.row hx;rw[e]at b;cases b;cases xs with
 |nil=>exact absurd rfl hx
 |cons x xs=>
  have c:=d.ne x;cases hf:f x with
  |nil=>rw[hf]at c;simp at c;omega
  |cons v vs=>
   have:=g 0 v (by rw[aR,hf];rfl);have:=Km this;rw[xD]at this;exact this
theorem Sl.upd{α:Type}{f:α→List Value}{i:Nat}{W M:Nat→Prop}{h j:ae}{s:SliceV}{xs:List α}(c:Sl f i W h s xs)(k:Upd M h j)(hm:∀b,M b→W b∨h.size≤b):Sl f i W j s xs:=by
 refine⟨c.len,c.ne,fun hx=>?_⟩
 obtain⟨a,g,e,n⟩:=c.row hx;exact⟨a,g,e,n.upd k fun m=>(hm _ m).elim e fun d=>absurd (c.lt hx g) (vG.2 d)⟩
theorem Sl.less{α:Type}{f:α→List Value}{g:Nat}{W W':Nat→Prop}{h:ae}{s:SliceV}{xs:List α}(c:Sl f g W h s xs)(hm:∀b,W' b→W b∨h.size≤b):Sl f g W' h s xs:=
 ⟨c.len,c.ne,fun hx=>let⟨a,e,i,k⟩:=c.row hx;⟨a,e,fun j=>(hm _ j).elim i fun d=>absurd (c.lt hx e) (vG.2 d),k⟩⟩
theorem mf{α:Type}{f:α→List Value}{b:Nat}(a:∀x,(f x).length=b):∀xs:List α,(xs.flatMap f).length=xs.length*b
 | []=>by simp
 |x::xs=>by rw[aR,ad,a,mf a xs,az,jE];omega
theorem wE{α:Type}{f:α→List Value}{b:Nat}(a:∀x,(f x).length=b):∀(xs:List α) (i j:Nat) (x:α),xs[i]? =some x→j<b→(xs.flatMap f)[i*b+j]? =(f x)[j]?
 | [],i,j,x,h,_=>by simp at h
 |y::xs,0,j,x,h,hj=>by
  simp only[List.getElem?_cons_zero,Option.some.injEq]at h;subst h;rw[aR,Nat.zero_mul,aI,bQ (by rw[a];exact hj)]
 |y::xs,i+1,j,x,h,hj=>by
  rw[List.getElem?_cons_succ]at h;rw[aR,aQ (by rw[a,jE];omega),a,show(i+1)*b+j-b=i*b+j by rw[jE];omega]
  exact wE a xs i j x h hj
theorem Sl.at{α:Type}{f:α→List Value}{b:Nat}{W:Nat→Prop}{h:ae}{s:SliceV}{xs:List α}(c:Sl f b W h s xs){i:Nat}{x:α}(hi:xs[i]? =some x):
  ∃a,s.a=some a∧¬W a.block∧∀j v,(f x)[j]? =some v→aJ h (adr (adr a (i*b)) j)=some v:=by
 obtain⟨a,k,g,m⟩:=c.row (fun e=>by subst e;simp at hi)
 refine⟨a,k,g,fun j v hv=>?_⟩
 have d:j<b:=by rw[←(c.ne x).1];exact(bm.1 hv).1
 rw[Ay];exact m _ v (by rw[wE (fun x=>(c.ne x).1) xs i j x hi d];exact hv)
theorem Sl.at0{α:Type}{g:α→Value}{W:Nat→Prop}{h:ae}{s:SliceV}{xs:List α}(c:Sl (fun x=> [g x]) 1 W h s xs){i:Nat}{x:α}(hi:xs[i]? =some x):
  ∃a,s.a=some a∧¬W a.block∧aJ h (adr a (i*1))=some (g x):=by
 obtain⟨a,b,d,e⟩:=c.at hi;exact⟨a,b,d,e 0 _ rfl⟩
theorem Sl.srow{α:Type}{f:α→List Value}{c:Nat}{W:Nat→Prop}{h:ae}{s:SliceV}{xs:List α}(b:Sl f c W h s xs):SRow h s.a (s.len*c) (xs.flatMap f):=by
 refine⟨?_,?_⟩
 ·rw[b.len,mf fun x=>(b.ne x).1]
 ·by_cases hx:xs= []
  ·subst hx;exact .inl rfl
  ·obtain⟨a,d,_,e⟩:=b.row hx
   exact .inr ⟨a,d,e⟩
theorem Sl.sub{α:Type}{f:α→List Value}{b:Nat}{W:Nat→Prop}{h:ae}{s:SliceV}{xs:List α}(d:Sl f b W h s xs){l hi m c:Nat}(q:l≤hi)(g:hi≤xs.length)(t:hi≤m):
  Sl f b W h ⟨aV s.a l m b,hi-l,c⟩ ((xs.drop l).take (hi-l)):=by
 refine⟨by simp only[aD,aO];omega,d.ne,fun hx=>?_⟩
 have o:l<hi:=by
  rcases bG l hi with h|h
  ·exact h
  ·rw[Nat.sub_eq_zero_of_le h]at hx;exact absurd List.take_zero hx
 obtain⟨a,n,j,p⟩:=d.row (fun e=>by rw[e]at g;simp at g;omega)
 refine⟨adr a (l*b),?_,by rw[xD];exact j,fun i v hv=>?_⟩
 ·unfold aV
  rw[if_neg (by omega),n];rfl
 ·rw[Ay]
  refine p _ v ?_;have e:xs=xs.take l++((xs.drop l).take (hi-l)++(xs.drop l).drop (hi-l)):=by rw[aG,aG]
  rw[e,bq,bq];have k:((xs.take l).flatMap f).length=l*b:=by rw[mf fun x=>(d.ne x).1,aD];congr 1;omega
  rw[aQ (by omega),k,Nat.add_sub_cancel_left,bQ (bm.1 hv).1];exact hv
structure OwnS{α:Type}(f:α→List Value)(sz:Nat)(t:TypeId)(M:Nat→Prop)(h:ae)(s:SliceV)(xs:List α):Prop where
 len:s.len=xs.length
 ne:∀x,(f x).length=sz∧0<sz
 cap:s.len≤s.cap
 blk:s.cap=0∨∃b rest,s.a=some ⟨b,0,none⟩∧M b∧h[b]? =some (.cells (xs.flatMap f++rest).toArray t (0,0))∧rest.length=(s.cap-s.len)*sz
theorem OwnS.nil{α:Type}{f:α→List Value}{b:Nat}{t:TypeId}{M:Nat→Prop}{h:ae}{a:Option Addr}(c:∀x,(f x).length=b∧0<b):OwnS f b t M h ⟨a,0,0⟩ []:=⟨rfl,c,aj _,.inl rfl⟩
theorem OwnS.sl{α:Type}{f:α→List Value}{d:Nat}{t:TypeId}{M W:Nat→Prop}{h:ae}{s:SliceV}{xs:List α}(a:OwnS f d t M h s xs)(hm:∀b,M b→b<h.size→¬W b):Sl f d W h s xs:=by
 refine⟨a.len,a.ne,fun hx=>?_⟩
 rcases a.blk with j|⟨b,c,e,g,hc,_⟩
 ·have:=a.len;have:=a.cap
  have:xs.length=0:=by omega
  exact absurd (aF.1 this) hx
 ·exact⟨_,e,hm b g (aN hc),pX hc fun i v hv=>by
   rw[aI,gO,bQ (bm.1 hv).1];exact hv⟩
theorem OwnS.upd{α:Type}{f:α→List Value}{e:Nat}{t:TypeId}{M M':Nat→Prop}{h g:ae}{s:SliceV}{xs:List α}(c:OwnS f e t M h s xs)(k:Upd M' h g)(hm:∀b,M b→¬M' b):OwnS f e t M g s xs:=by
 refine⟨c.len,c.ne,c.cap,c.blk.imp id fun⟨b,a,i,d,hc,j⟩=>⟨b,a,i,d,k.get hc (hm b d),j⟩⟩
theorem OwnS.more{α:Type}{f:α→List Value}{d:Nat}{t:TypeId}{M M':Nat→Prop}{h:ae}{s:SliceV}{xs:List α}(c:OwnS f d t M h s xs)(hm:∀b,M b→M' b):OwnS f d t M' h s xs:=by
 refine⟨c.len,c.ne,c.cap,c.blk.imp id fun⟨b,a,e,g,hc,i⟩=>⟨b,a,e,hm b g,hc,i⟩⟩
theorem OwnS.within{α:Type}{f:α→List Value}{d:Nat}{t:TypeId}{M:Nat→Prop}{h:ae}{s:SliceV}{xs:List α}(c:OwnS f d t M h s xs):OwnS f d t (fun b=>M b∧b<h.size) h s xs:=by
 refine⟨c.len,c.ne,c.cap,c.blk.imp id fun⟨b,a,e,g,hc,i⟩=>⟨b,a,e,⟨g,aN hc⟩,hc,i⟩⟩
theorem j1{b:Nat}{t:TypeId}:∀(vs:List Value) (h:ae) (i o:Nat) (c:List Value),h[b]? =some (.cells c.toArray t (0,0))→o+i+vs.length≤c.length→
  iC h ⟨b,o,none⟩ i vs=h.setIfInBounds b (.cells (c.take (o+i)++vs++c.drop (o+i+vs.length)).toArray t (0,0))
 | [],h,i,o,c,hb,hl=>by
  simp only[iC,List.append_nil,bw,cW,aG];apply oo;intro j;rw[cK];split
  ·rename_i e;subst e;rw[hb];simp[aN hb]
  ·rfl
 |v::vs,h,i,o,c,hb,hl=>by
  rw[az]at hl;simp only[iC];rw[bV,Ae hb];have a:(h.setIfInBounds b (.cells (c.toArray.setIfInBounds (o+i) v) t (0,0)))[b]? =some (.cells (c.set (o+i) v).toArray t (0,0)):=by
   rw[jt hb];simp
  rw[j1 vs _ (i+1) o (c.set (o+i) v) a (by simp;omega)];have e:∀(x y:Obj),(h.setIfInBounds b x).setIfInBounds b y=h.setIfInBounds b y:=fun x y=>by
   apply oo;intro j;simp only[cK,Array.size_setIfInBounds];split<;>rfl
  rw[e];congr 3
  apply List.ext_getElem?;intro j;simp only[List.getElem?_append,ad,aD,List.length_set,az,oh,List.getElem?_set,ol];grind
theorem lU(n:Nat)(z:List Value):(dH n z).length=n*z.length:=by
 unfold dH;induction n with
 |zero=>simp
 |succ n ih=>rw[List.replicate_succ,List.flatten_cons,ad,ih,jE];omega
theorem AppP.own{α:Type}{f:α→List Value}{i g:Nat}{t:TypeId}{M:Nat→Prop}{h:ae}{d:Option Addr}{sl m O:Nat}{xs ys:List α}{o z:List Value}{K:SliceV→ae→Prop}
  (n:OwnS f i t M h ⟨d,sl,m⟩ xs)(k:O=ys.length)(D:o=ys.flatMap f)(y:cl o=true)(hz:z.length=i)(P:0<g)(s:(xs.length+ys.length)*g≤140737488355328)(hM:M h.size)
  (F:∀s' h',OwnS f i t M h' s' (xs++ys)→Upd M h h'→K s' h'):AppP (some z) i g t d sl m O o h K:=by
 have a:sl=xs.length:=n.len;have w:∀x,(f x).length=i:=fun x=>(n.ne x).1
 subst k D;have p:=mf w ys;have k:=mf w xs;refine⟨fun v=>?_,fun A=>?_⟩
 ·rcases n.blk with L|⟨b,c,I,q,hc,B⟩
  ·have L:m=0:=L
   have C:ys.length=0:=by omega
   have H:xs.length=0:=by omega
   have Q:=aF.1 C;have hx:=aF.1 H;subst Q hx;refine⟨.inl rfl,rfl,?_⟩;have e:ga h d (sl*i) (([]:List α).flatMap f)=h:=by cases d<;>rfl
   rw[e];exact F _ _ ⟨by simp[a],n.ne,by simp only[bw];omega,.inl L⟩ (Upd.refl _ _)
  ·have I:d=some ⟨b,0,none⟩:=I
   have B:c.length=(m-sl)*i:=B;subst I;have N:sl+ys.length≤m:=v;have T:ys.length*i≤c.length:=by rw[B];exact Nat.mul_le_mul_right _ (Nat.le_sub_of_add_le (show ys.length+sl≤m by omega))
   have u:0+sl*i+(ys.flatMap f).length≤(xs.flatMap f++c).length:=by
    rw[ad,k,p,a];omega
   refine⟨.inr ⟨_,rfl,fun j U=>?_⟩,y,?_⟩
   ·rw[bV]
    refine iX hc ?_;rw[dy];omega
   ·have e:ga h (some ⟨b,0,none⟩) (sl*i) (ys.flatMap f)=_:=j1 (ys.flatMap f) h (sl*i) 0 _ hc u
    rw[e];have J:(xs.flatMap f++c).take (0+sl*i)=xs.flatMap f:=by
     rw[aI,a,←k,fM (aj _),List.take_length]
    have E:(xs.flatMap f++c).drop (0+sl*i+(ys.flatMap f).length)=c.drop (ys.length*i):=by
     rw[aI,a,←k,List.drop_append,gu (by omega),dM,p];congr 1;omega
    rw[J,E];refine F _ _ ⟨by simp[a],n.ne,v,.inr ⟨b,c.drop (ys.length*i),rfl,q,?_,?_⟩⟩ (Upd.set h _ q)
    ·rw[jt hc,bq]
    ·rw[aO,B]
     simp only;rw[show m-(sl+ys.length)=(m-sl)-ys.length by omega,Nat.sub_mul (m-sl)]
 ·have S:m*1≤m:=by omega
  refine⟨xs.flatMap f,z,?_,rfl,P,Go.growslice_fits A (by rw[a];exact s),fun R G=>?_⟩
  ·exact(n.sl (W:=No) fun _ _ _=>id).srow
  ·refine F _ _ ⟨by simp[a],n.ne,G,.inr ⟨h.size,dH (R-(sl+ys.length)) z,rfl,hM,?_,?_⟩⟩ (Upd.hnew M h _ _)
   ·rw[cO,bq]
   ·rw[lU,hz]
end Go.Lift
namespace Go.Lift
open Go
theorem bU{h:ae}{k:ae→Prop}(a:k h):At h k:=a
theorem jG{b o l m a:Nat}(h:m≠l):aV (some ⟨b,o,none⟩) l m a=some ⟨b,o+l*a,none⟩:=by simp[aV,h,bV]
theorem sub_zero{b m a:Nat}:aV (some ⟨b,0,none⟩) 0 m a=some ⟨b,0,none⟩:=by
 unfold aV;split
 ·rfl
 ·simp[bV]
theorem kZ{h:ae}{b:Nat}{c:List Value}{t:TypeId}{o n:Nat}{vs:List Value}{a:Option Addr}{k:ae→Prop}(f:SRow h a n vs)(g:cl vs=true)(d:h[b]? =some (.cells c.toArray t (0,0)))
  (q:o+n≤c.length) (m:∀h',h'[b]? =some (.cells (c.take o++vs++c.drop (o+n)).toArray t (0,0))→Upd (· =b) h h'→k h'):
  ∃xs,SRow h a n xs∧uD h (some ⟨b,o,none⟩) 0 xs∧cl xs=true∧At (ga h (some ⟨b,o,none⟩) 0 xs) k:=by
 have i:=f.1;refine⟨vs,f,.inr ⟨_,rfl,fun j p=>?_⟩,g,bU ?_⟩
 ·rw[bV];exact iX d (by rw[dy];omega)
 ·have e:ga h (some ⟨b,o,none⟩) 0 vs=_:=j1 vs h 0 o c d (by omega)
  rw[e];refine m _ ?_ (Upd.set h _ rfl);rw[jt d,cW,i]
theorem lr{h:ae}{b:Nat}{c:List Value}{t:TypeId}{o n:Nat}{vs:List Value}(e:h[b]? =some (.cells c.toArray t (0,0))) (a:vs.length=n) (d:(c.drop o).take n=vs):SRow h (some ⟨b,o,none⟩) n vs:=by
 refine⟨a,.inr ⟨_,rfl,pX e fun i v hv=>?_⟩⟩
 rw[gO,←ol];have:((c.drop o).take n)[i]? =some v:=by rw[d];exact hv
 rw[oh]at this;split at this
 ·exact this
 ·cases this
section
variable {α:Type} {f:α→List Value} {sz:Nat}
theorem kK(a:∀x,(f x).length=sz∧0<sz)(xs:List α):(xs.flatMap f).length=xs.length*sz:=mf (fun x=>(a x).1) xs
theorem yX(xs:List α)(k:Nat):xs.flatMap f=(xs.take k).flatMap f++(xs.drop k).flatMap f:=by rw[←bq,aG]
end
theorem H5{α:Type}{A X B Z1 Z2:List α}{p q r:Nat}(b:A.length=p)(f:X.length=q)(e:Z1.length=r+q):
  (((A++Z1++Z2).take p++X++(A++Z1++Z2).drop (p+q)).take (p+q))++B++((A++Z1++Z2).take p++X++(A++Z1++Z2).drop (p+q)).drop (p+q+r)=A++(X++B)++Z2:=by
 have c:(A++Z1++Z2).take p=A:=by rw[au,cX b]
 have d:(A++Z1++Z2).drop (p+q)=Z1.drop q++Z2:=by
  rw[au,←dA,cF b,fO (by omega)]
 have a:(A++X).length=p+q:=by rw[ad];omega
 rw[c,d,cX a,←dA,cF a,fO (by rw[aO];omega),dA,gu (by omega),dM];simp only[au]
theorem MB{α:Type}{A X B R:List α}{p q r:Nat}(c:A.length=p)(f:B.length=r)(e:q≤R.length):
  (((A++B++R).take (p+q)++B++(A++B++R).drop (p+q+r)).take p)++X++((A++B++R).take (p+q)++B++(A++B++R).drop (p+q+r)).drop (p+q)=A++(X++B)++R.drop q:=by
 have b:((A++B++R).take (p+q)).length=p+q:=by rw[aD,ad,ad];omega
 have d:(A++B++R).drop (p+q+r)=R.drop q:=by
  rw[show p+q+r=(p+r)+q by omega,←dA,cF (by rw[ad];omega)]
 have a:((A++B++R).take (p+q)++(B++(A++B++R).drop (p+q+r))).take p=A:=by
  rw[fM (by omega),List.take_take,Nat.min_eq_left (by omega),au,cX c]
 rw[au ((A++B++R).take (p+q)),a,cF b,d];simp only[au]
theorem M0{h:ae}{b:Nat}{c:List Value}{t m:TypeId}{d a sl g i:Nat}{xs:List Value}{z:Option (List Value)}{K:SliceV→ae→Prop}(f:h[b]? =some (.cells c.toArray t (0,0)))
  (q:sl*d+xs.length≤c.length) (n:sl+i≤g) (k:cl xs=true) (o:∀h',h'[b]? =some (.cells (c.take (sl*d)++xs++c.drop (sl*d+xs.length)).toArray t (0,0))→Upd (· =b) h h'→K ⟨some ⟨b,0,none⟩,sl+i,g⟩ h'):
  AppP z d a m (some ⟨b,0,none⟩) sl g i xs h K:=by
 refine⟨fun _=>⟨.inr ⟨_,rfl,fun j p=>?_⟩,k,?_⟩,fun h=>by omega⟩
 ·rw[bV];exact iX f (by rw[dy];omega)
 ·have e:ga h (some ⟨b,0,none⟩) (sl*d) xs=_:=j1 xs h (sl*d) 0 c f (by omega)
  rw[e];refine o _ ?_ (Upd.set h _ rfl);rw[jt f,aI]
theorem HQ{h:ae}{b:Nat}{c:List Value}{t:TypeId}{o:Nat}{vs:List Value}{k:ae→Prop}(a:h[b]? =some (.cells c.toArray t (0,0)))
  (f:o+vs.length≤c.length) (d:∀h',h'[b]? =some (.cells (c.take o++vs++c.drop (o+vs.length)).toArray t (0,0))→Upd (· =b) h h'→k h'):
  uD h (some ⟨b,o,none⟩) 0 vs∧At (ga h (some ⟨b,o,none⟩) 0 vs) k:=by
 refine⟨.inr ⟨_,rfl,fun j g=>?_⟩,bU ?_⟩
 ·rw[bV];exact iX a (by rw[dy];omega)
 ·have e:ga h (some ⟨b,o,none⟩) 0 vs=_:=j1 vs h 0 o c a (by omega)
  rw[e];refine d _ ?_ (Upd.set h _ rfl);rw[jt a,cW]
end Go.Lift
namespace Go.Lift
open Go
structure Takes{α:Type}(P:Program)(y:Value)(enc:α→List Value)(N:Nat)(J:List α→(Nat→Prop)→ae→Prop):Prop where
 lt:∀pre A h,J pre A h→∀b,A b→b<h.size
 keep:∀pre A h h' B,J pre A h→Upd B h h'→(∀b,A b→¬B b)→J pre A h'
 step:∀pre A h x (K:Bool→ae→Prop),J pre A h→pre.length<N→(∀h' A',J (pre++ [x]) A' h'→Upd A h h'→(∀b,A' b→A b∨h.size≤b)→K true h')→HV P y (enc x) [.c .bool] K h
structure Gives{α:Type}(P:Program)(fv:Value)(enc:α→List Value)(N:Nat)(S:List α→Prop)(Q:Nat→Prop)(h:ae):Prop where
 lt:∀b,Q b→b<h.size
 run:∃f first cap,fv=.func (.func f) first cap∧∀(y:Value) (J:List α→(Nat→Prop)→ae→Prop) (A M:Nat→Prop) (h1:ae) (K:Unit→ae→Prop),Takes P y enc N J→J [] A h1→Upd M h h1→(∀b,Q b→¬M b)→(∀b,A b→¬Q b)→
  (∀xs A' h',S xs→J xs A' h'→Upd A h1 h'→(∀b,A' b→A b∨h1.size≤b)→K () h')→HE P f (first.toList++ [y]++cap.toList) [] K h1
theorem Gives.upd{α:Type}{P:Program}{c:Value}{enc:α→List Value}{N:Nat}{S:List α→Prop}{Q M:Nat→Prop}{h d:ae}(g:Gives P c enc N S Q h)(k:Upd M h d)(hm:∀b,Q b→¬M b):Gives P c enc N S Q d:=by
 obtain⟨f,first,cap,e,p⟩:=g.run
 refine⟨fun b a=>bI (g.lt b a) k.size,f,first,cap,e,fun y J A M' j K s i o n m q=>?_⟩
 exact p y J A (fun b=>M b∨M' b) j K s i ((k.mono fun b a=>.inl (.inl a)).tr (o.mono fun b a=>.inl (.inr a))) (fun b a h=>h.elim (hm b a) (n b a)) m q
end Go.Lift
