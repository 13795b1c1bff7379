/- A part of the proof that the named laws of this program answer true, whatever the input. -/
import Derived.Test.YtajpljopgikpgaaGreatDoorLift2
open Array renaming getElem?_setIfInBounds→ci,getElem?_eq_some_iff→bE
open List renaming flatMap_cons→aL,length_append→ae,length_cons→aO,getElem?_append_left→df,getElem?_append_right→cX,getElem?_eq_some_iff→aP,length_take→aN,length_drop→aJ,take_append_drop→bF,flatMap_append→bv,length_eq_zero_iff→bC,getElem?_toArray→jf,length_nil→cR,getElem?_take→lA,getElem?_drop→lB,size_toArray→cz,take_append_of_le_length→dS,drop_eq_nil_of_le→fZ,nil_append→kW,append_assoc→ak,take_left'→cg,drop_drop→cZ,drop_left'→bT,drop_append_of_le_length→dV
open Nat renaming lt_or_ge→bM,le_refl→au,not_lt→rK,succ_mul→me,zero_add→aD,add_zero→dL
namespace Go.Lift
open Go
attribute [simp] az ah
theorem bj{p:Prop}[Decidable p]{t e:Prop}(b:p→t)(a:¬p→e):CondP (decide p) t e:=CondP.intro (fun h=>b (of_decide_eq_true h)) (fun h=>a (of_decide_eq_false h))
theorem HC.mono{P:Program}{f:FuncId}{args:List Value}{ks:List Kind}{K d:qI ks→ad→Prop}{h:ad}(hc:HC P f args ks K h)(c:∀t h',K t h'→d t h'):HC P f args ks d h:=by
 refine⟨fun w j=>?_⟩
 rcases hc.run w j with⟨a,b⟩|⟨v,w',a,b,t,m,g⟩
 ·exact .inl ⟨a,b.mono fun e w' ⟨i,t,k,n⟩=>⟨i,t,k,c t _ n⟩⟩
 ·exact .inr ⟨v,w',a,b,t,m,c t _ g⟩
theorem Join.intro{T:Type}{a:T→ad→Prop}{k:(T→ad→Prop)→Prop}(J:T→ad→Prop)(c:∀R:T→ad→Prop,(∀t h,J t h→R t h)→k R)(b:∀t h,J t h→a t h):Join a k:=⟨c a b⟩
theorem Join.plain{T:Type}{a:T→ad→Prop}{k:(T→ad→Prop)→Prop}(h:k a):Join a k:=⟨h⟩
theorem LoopP.intro{T:Type}{F:(T→ad→Prop)→T→ad→Prop}{t:T}{h:ad}(Inv:T→ad→Prop)(m:T→ad→Nat)(g:Inv t h)
  (step:∀I:T→ad→Prop,∀t h,Inv t h→(∀a b,Inv a b→m a b<m t h→I a b)→F I t h):LoopP F t h:=by
 refine⟨fun I f=>?_⟩
 have key:∀n t h,m t h=n→Inv t h→I t h:=by
  intro n;induction n using Nat.strongRecOn with
  |_ n ih=>exact fun t h e hi=>f t h (step I t h hi fun a b d c=>ih _ (e▸c) a b rfl d)
 exact key _ t h rfl g
theorem LoopP.ghost{T G:Type}{F:(T→ad→Prop)→T→ad→Prop}{t:T}{h:ad}(Inv:G→T→ad→Prop)(m:G→Nat)(g:G)(j:Inv g t h)
  (step:∀I:T→ad→Prop,∀g t h,Inv g t h→(∀a b c,Inv a b c→m a<m g→I b c)→F I t h):LoopP F t h:=by
 refine⟨fun I i=>?_⟩
 have key:∀n g t h,m g=n→Inv g t h→I t h:=by
  intro n;induction n using Nat.strongRecOn with
  |_ n ih=>exact fun g t h f hi=>i t h (step I g t h hi fun a b c e d=>ih _ (f▸d) a b c rfl e)
 exact key _ g t h rfl j
theorem HV.mk'{P:Program}{f:FuncId}{first cap:Array Value}{args:List Value}{ks:List Kind}{K:qI ks→ad→Prop}{h:ad}(hc:HC P f (first.toList++args++cap.toList) ks K h):HV P (.func (.func f) first cap) args ks K h:=
 ⟨.inl ⟨f,first,cap,rfl,hc⟩⟩
@[simp] theorem bG(b o n:Nat):adr ⟨b,o,none⟩ n=⟨b,o+n,none⟩:=by
 cases n<;>rfl
@[simp] theorem xO(a:Addr)(n:Nat):(adr a n).block=a.block:=by
 cases n<;>rfl
theorem fy(h:ad):aC h=⟨h.size,0,none⟩:=rfl
theorem ER{h:ad}{a:Addr}{v:Value}(hv:aG h a=some v):a.block<h.size:=by
 unfold aG at hv;rcases bM a.block h.size with b|b
 ·exact b
 ·rw[Array.getElem?_eq_none b]at hv;cases hv
theorem aS{h:ad}{b i:Nat}{c:Array Value}{e:TypeId}{fr:Nat×Nat}(a:h[b]? =some (.cells c e fr)):aG h ⟨b,i,none⟩=c[i]?:=by
 unfold aG;rw[a];rfl
theorem Gw{h b:ad}{a:Addr}(c:b[a.block]? =h[a.block]?):aG b a=aG h a:=by
 unfold aG;rw[c]
theorem Ay{h:ad}{b i:Nat}{c:Array Value}{e:TypeId}{fr:Nat×Nat}{v:Value}(f:h[b]? =some (.cells c e fr)):
  hset h ⟨b,i,none⟩ v=h.setIfInBounds b (.cells (c.setIfInBounds i v) e fr):=by
 unfold hset;apply Array.ext_getElem?;intro j;rw[Array.getElem?_modify,ci];by_cases d:b=j
 ·subst d
  have a:=(bE.1 f).1;simp only[f,if_true,a,Option.map_some];rfl
 ·simp[d]
theorem gM{h:ad}{b i:Nat}{c:Array Value}{e:TypeId}(a:h[b]? =some (.cells c e (0,0))) (hi:i<c.size):Wr h ⟨b,i,none⟩:=by
 refine⟨⟨c[i],by rw[aS a,Array.getElem?_eq_getElem hi]⟩,?_⟩
 unfold zo;rw[a];simp
structure Upd(M:Nat→Prop)(h h':ad):Prop where
 size:h.size≤h'.size
 same:∀b,b<h.size→¬M b→h'[b]? =h[b]?
abbrev No:Nat→Prop:=fun _=>False
theorem Upd.refl(M:Nat→Prop)(h:ad):Upd M h h:=⟨au _,fun _ _ _=>rfl⟩
theorem Upd.trans{M M':Nat→Prop}{h d f:ad}(k:Upd M h d)(l:Upd M' d f)(g:∀b,M' b→M b∨h.size≤b):Upd M h f:=
 ⟨Nat.le_trans k.size l.size,fun b a e=>by
  rw[l.same b (Nat.lt_of_lt_of_le a k.size) (fun hm=>(g b hm).elim e fun c=>absurd a (rK.2 c)),k.same b a e]⟩
theorem Upd.tr{M:Nat→Prop}{h b a:ad}(k:Upd M h b)(l:Upd M b a):Upd M h a:=k.trans l fun _ h=>.inl h
theorem Upd.mono{M M':Nat→Prop}{h d:ad}(k:Upd M h d)(e:∀b,M b→M' b∨h.size≤b):Upd M' h d:=
 ⟨k.size,fun b c f=>k.same b c fun hm=>(e b hm).elim f fun a=>absurd c (rK.2 a)⟩
theorem Upd.wide{M:Nat→Prop}{h a:ad}(k:Upd No h a):Upd M h a:=k.mono fun _ h=>h.elim
theorem Upd.get{M:Nat→Prop}{h a:ad}(k:Upd M h a){b:Nat}{o:Obj}(c:h[b]? =some o) (d:¬M b):a[b]? =some o:=by
 rw[k.same b (bE.1 c).1 d,c]
theorem Upd.get0{h a:ad}(k:Upd No h a){b:Nat}{o:Obj}(c:h[b]? =some o):a[b]? =some o:=k.get c id
theorem Upd.cell{M:Nat→Prop}{h b:ad}(k:Upd M h b){a:Addr}{v:Value}(hv:aG h a=some v)(c:¬M a.block):aG b a=some v:=by
 rw[Gw (k.same _ (ER hv) c),hv]
theorem Upd.cell0{h b:ad}(k:Upd No h b){a:Addr}{v:Value}(hv:aG h a=some v):aG b a=some v:=k.cell hv id
theorem Upd.push(M:Nat→Prop)(h:ad)(o:Obj):Upd M h (h.push o):=⟨by simp,fun b a _=>by rw[Array.getElem?_push];simp[Nat.ne_of_lt a]⟩
theorem Upd.set{M:Nat→Prop}(h:ad){b:Nat}(o:Obj)(d:M b):Upd M h (h.setIfInBounds b o):=⟨by simp,fun c _ a=>by
 rw[ci]
 have:b≠c:=fun e=>a (e▸d)
 simp[this]⟩
theorem Upd.hset{M:Nat→Prop}(h:ad){a:Addr}(v:Value)(d:M a.block):Upd M h (hset h a v):=⟨by simp[Go.Lift.hset],fun c _ b=>by
 unfold Go.Lift.hset
 rw[Array.getElem?_modify]
 have:a.block≠c:=fun e=>b (e▸d)
 simp[this]⟩
theorem Upd.hnew(M:Nat→Prop)(h:ad)(cs:List Value)(t:TypeId):Upd M h (hnew h cs t):=Upd.push M h _
theorem cu(h:ad)(cs:List Value)(t:TypeId):(hnew h cs t)[h.size]? =some (.cells cs.toArray t (0,0)):=by
 unfold hnew;simp
theorem Ez(h:ad)(o:Obj):(h.push o)[h.size]? =some o:=by simp
theorem jP(h:ad)(cs:List Value)(t:TypeId):(hnew h cs t).size=h.size+1:=by
 unfold hnew;simp
theorem ix{h:ad}{b:Nat}{o c:Obj}(a:h[b]? =some c):(h.setIfInBounds b o)[b]? =some o:=by
 rw[ci];simp[(bE.1 a).1]
theorem aF{h:ad}{b:Nat}{o:Obj}(a:h[b]? =some o):b<h.size:=(bE.1 a).1
theorem Row.upd{M:Nat→Prop}{h b:ad}{a:Addr}{vs:List Value}(c:Row h a vs)(k:Upd M h b)(d:¬M a.block):Row b a vs:=fun i v hv=>k.cell (c i v hv) (by rw[xO];exact d)
theorem SRow.upd{M:Nat→Prop}{h e:ad}{a:Option Addr}{n:Nat}{vs:List Value}(c:SRow h a n vs)(k:Upd M h e)(g:vs≠[]→∀b,a=some b→¬M b.block):SRow e a n vs:=by
 obtain⟨f,i⟩:=c;refine⟨f,?_⟩;rcases i with rfl|⟨b,d,c⟩
 ·exact .inl rfl
 ·by_cases hv:vs= []
  ·exact .inl hv
  ·exact .inr ⟨b,d,c.upd k (g hv b d)⟩
theorem nY{h:ad}{b o:Nat}{c:Array Value}{e:TypeId}{fr:Nat×Nat}(a:h[b]? =some (.cells c e fr)) {vs:List Value} (hv:∀i v,vs[i]? =some v→c[o+i]? =some v):Row h ⟨b,o,none⟩ vs:=fun i v hi=>by
 rw[bG,aS a];exact hv i v hi
structure Sl{α:Type}(f:α→List Value)(sz:Nat)(W:Nat→Prop)(h:ad)(s:SliceV)(xs:List α):Prop where
 len:s.len=xs.length
 ne:∀x,(f x).length=sz∧0<sz
 row:xs≠[]→∃a,s.a=some a∧¬W a.block∧Row h a (xs.flatMap f)
theorem Sl.nil{α:Type}{f:α→List Value}{b:Nat}{W:Nat→Prop}{h:ad}{a:Option Addr}{c:Nat}(d:∀x,(f x).length=b∧0<b):Sl f b W h ⟨a,0,c⟩ []:=⟨rfl,d,fun h=>absurd rfl h⟩
theorem Sl.lt{α:Type}{f:α→List Value}{i:Nat}{W:Nat→Prop}{h:ad}{s:SliceV}{xs:List α}(d:Sl f i W h s xs)(hx:xs≠[]){a:Addr}(g:s.a=some a):a.block<h.size:=by
 obtain⟨a',b,j,e⟩:=d.row hx;rw[g]at b;cases b;cases xs with
 |nil=>exact absurd rfl hx
 |cons x xs=>
  have c:=d.ne x;cases hf:f x with
  |nil=>rw[hf]at c;simp at c;omega
  |cons v vs=>
   have:=e 0 v (by rw[aL,hf];rfl);have:=ER this;rw[xO]at this;exact this
theorem Sl.upd{α:Type}{f:α→List Value}{i:Nat}{W M:Nat→Prop}{h j:ad}{s:SliceV}{xs:List α}(c:Sl f i W h s xs)(k:Upd M h j)(hm:∀b,M b→W b∨h.size≤b):Sl f i W j s xs:=by
 refine⟨c.len,c.ne,fun hx=>?_⟩
 obtain⟨a,e,g,m⟩:=c.row hx;exact⟨a,e,g,m.upd k fun n=>(hm _ n).elim g fun d=>absurd (c.lt hx e) (rK.2 d)⟩
theorem Sl.less{α:Type}{f:α→List Value}{g:Nat}{W W':Nat→Prop}{h:ad}{s:SliceV}{xs:List α}(c:Sl f g W h s xs)(hm:∀b,W' b→W b∨h.size≤b):Sl f g W' h s xs:=
 ⟨c.len,c.ne,fun hx=>let⟨a,e,k,i⟩:=c.row hx;⟨a,e,fun j=>(hm _ j).elim k fun d=>absurd (c.lt hx e) (rK.2 d),i⟩⟩
theorem jB{α:Type}{f:α→List Value}{b:Nat}(a:∀x,(f x).length=b):∀xs:List α,(xs.flatMap f).length=xs.length*b
 | []=>by simp
 |x::xs=>by rw[aL,ae,a,jB a xs,aO,me];omega
theorem sP{α:Type}{f:α→List Value}{b:Nat}(a:∀x,(f x).length=b):∀(xs:List α) (i j:Nat) (x:α),xs[i]? =some x→j<b→(xs.flatMap f)[i*b+j]? =(f x)[j]?
 | [],i,j,x,h,_=>by simp at h
 |y::xs,0,j,x,h,hj=>by
  simp only[List.getElem?_cons_zero,Option.some.injEq]at h;subst h;rw[aL,Nat.zero_mul,aD,df (by rw[a];exact hj)]
 |y::xs,i+1,j,x,h,hj=>by
  rw[List.getElem?_cons_succ]at h;rw[aL,cX (by rw[a,me];omega),a,show(i+1)*b+j-b=i*b+j by rw[me];omega]
  exact sP a xs i j x h hj
theorem Sl.at{α:Type}{f:α→List Value}{c:Nat}{W:Nat→Prop}{h:ad}{s:SliceV}{xs:List α}(b:Sl f c W h s xs){i:Nat}{x:α}(hi:xs[i]? =some x):
  ∃a,s.a=some a∧¬W a.block∧∀j v,(f x)[j]? =some v→aG h (adr (adr a (i*c)) j)=some v:=by
 obtain⟨a,k,m,d⟩:=b.row (fun e=>by subst e;simp at hi)
 refine⟨a,k,m,fun j v hv=>?_⟩
 have g:j<c:=by rw[←(b.ne x).1];exact(aP.1 hv).1
 rw[wC];exact d _ v (by rw[sP (fun x=>(b.ne x).1) xs i j x hi g];exact hv)
theorem Sl.at0{α:Type}{g:α→Value}{W:Nat→Prop}{h:ad}{s:SliceV}{xs:List α}(d:Sl (fun x=> [g x]) 1 W h s xs){i:Nat}{x:α}(hi:xs[i]? =some x):
  ∃a,s.a=some a∧¬W a.block∧aG h (adr a (i*1))=some (g x):=by
 obtain⟨a,c,e,b⟩:=d.at hi;exact⟨a,c,e,b 0 _ rfl⟩
theorem Sl.srow{α:Type}{f:α→List Value}{c:Nat}{W:Nat→Prop}{h:ad}{s:SliceV}{xs:List α}(b:Sl f c W h s xs):SRow h s.a (s.len*c) (xs.flatMap f):=by
 refine⟨?_,?_⟩
 ·rw[b.len,jB fun x=>(b.ne x).1]
 ·by_cases hx:xs= []
  ·subst hx;exact .inl rfl
  ·obtain⟨a,e,_,d⟩:=b.row hx
   exact .inr ⟨a,e,d⟩
theorem Sl.sub{α:Type}{f:α→List Value}{b:Nat}{W:Nat→Prop}{h:ad}{s:SliceV}{xs:List α}(d:Sl f b W h s xs){l hi m c:Nat}(q:l≤hi)(g:hi≤xs.length)(t:hi≤m):
  Sl f b W h ⟨aK s.a l m b,hi-l,c⟩ ((xs.drop l).take (hi-l)):=by
 refine⟨by simp only[aN,aJ];omega,d.ne,fun hx=>?_⟩
 have o:l<hi:=by
  rcases bM l hi with h|h
  ·exact h
  ·rw[Nat.sub_eq_zero_of_le h]at hx;exact absurd List.take_zero hx
 obtain⟨a,k,n,j⟩:=d.row (fun e=>by rw[e]at g;simp at g;omega)
 refine⟨adr a (l*b),?_,by rw[xO];exact n,fun i v hv=>?_⟩
 ·unfold aK
  rw[if_neg (by omega),k];rfl
 ·rw[wC]
  refine j _ v ?_;have e:xs=xs.take l++((xs.drop l).take (hi-l)++(xs.drop l).drop (hi-l)):=by rw[bF,bF]
  rw[e,bv,bv];have p:((xs.take l).flatMap f).length=l*b:=by rw[jB fun x=>(d.ne x).1,aN];congr 1;omega
  rw[cX (by omega),p,Nat.add_sub_cancel_left,df (aP.1 hv).1];exact hv
structure OwnS{α:Type}(f:α→List Value)(sz:Nat)(t:TypeId)(M:Nat→Prop)(h:ad)(s:SliceV)(xs:List α):Prop where
 len:s.len=xs.length
 ne:∀x,(f x).length=sz∧0<sz
 cap:s.len≤s.cap
 blk:s.cap=0∨∃b rest,s.a=some ⟨b,0,none⟩∧M b∧h[b]? =some (.cells (xs.flatMap f++rest).toArray t (0,0))∧rest.length=(s.cap-s.len)*sz
theorem OwnS.nil{α:Type}{f:α→List Value}{b:Nat}{t:TypeId}{M:Nat→Prop}{h:ad}{a:Option Addr}(c:∀x,(f x).length=b∧0<b):OwnS f b t M h ⟨a,0,0⟩ []:=⟨rfl,c,au _,.inl rfl⟩
theorem OwnS.sl{α:Type}{f:α→List Value}{d:Nat}{t:TypeId}{M W:Nat→Prop}{h:ad}{s:SliceV}{xs:List α}(a:OwnS f d t M h s xs)(hm:∀b,M b→b<h.size→¬W b):Sl f d W h s xs:=by
 refine⟨a.len,a.ne,fun hx=>?_⟩
 rcases a.blk with j|⟨b,c,g,e,hc,_⟩
 ·have:=a.len;have:=a.cap
  have:xs.length=0:=by omega
  exact absurd (bC.1 this) hx
 ·exact⟨_,g,hm b e (aF hc),nY hc fun i v hv=>by
   rw[aD,jf,df (aP.1 hv).1];exact hv⟩
theorem OwnS.upd{α:Type}{f:α→List Value}{e:Nat}{t:TypeId}{M M':Nat→Prop}{h g:ad}{s:SliceV}{xs:List α}(c:OwnS f e t M h s xs)(k:Upd M' h g)(hm:∀b,M b→¬M' b):OwnS f e t M g s xs:=by
 refine⟨c.len,c.ne,c.cap,c.blk.imp id fun⟨b,a,j,d,hc,i⟩=>⟨b,a,j,d,k.get hc (hm b d),i⟩⟩
theorem OwnS.more{α:Type}{f:α→List Value}{d:Nat}{t:TypeId}{M M':Nat→Prop}{h:ad}{s:SliceV}{xs:List α}(c:OwnS f d t M h s xs)(hm:∀b,M b→M' b):OwnS f d t M' h s xs:=by
 refine⟨c.len,c.ne,c.cap,c.blk.imp id fun⟨b,a,i,g,hc,e⟩=>⟨b,a,i,hm b g,hc,e⟩⟩
theorem OwnS.within{α:Type}{f:α→List Value}{d:Nat}{t:TypeId}{M:Nat→Prop}{h:ad}{s:SliceV}{xs:List α}(c:OwnS f d t M h s xs):OwnS f d t (fun b=>M b∧b<h.size) h s xs:=by
 refine⟨c.len,c.ne,c.cap,c.blk.imp id fun⟨b,a,i,g,hc,e⟩=>⟨b,a,i,⟨g,aF hc⟩,hc,e⟩⟩
theorem gw{b:Nat}{t:TypeId}:∀(vs:List Value) (h:ad) (i o:Nat) (c:List Value),h[b]? =some (.cells c.toArray t (0,0))→o+i+vs.length≤c.length→
  gd h ⟨b,o,none⟩ i vs=h.setIfInBounds b (.cells (c.take (o+i)++vs++c.drop (o+i+vs.length)).toArray t (0,0))
 | [],h,i,o,c,hb,hl=>by
  simp only[gd,List.append_nil,cR,dL,bF];apply Array.ext_getElem?;intro j;rw[ci];split
  ·rename_i e;subst e;rw[hb];simp[aF hb]
  ·rfl
 |v::vs,h,i,o,c,hb,hl=>by
  rw[aO]at hl;simp only[gd];rw[bG,Ay hb];have a:(h.setIfInBounds b (.cells (c.toArray.setIfInBounds (o+i) v) t (0,0)))[b]? =some (.cells (c.set (o+i) v).toArray t (0,0)):=by
   rw[ix hb];simp
  rw[gw vs _ (i+1) o (c.set (o+i) v) a (by simp;omega)];have e:∀(x y:Obj),(h.setIfInBounds b x).setIfInBounds b y=h.setIfInBounds b y:=fun x y=>by
   apply Array.ext_getElem?;intro j;simp only[ci,Array.size_setIfInBounds];split<;>rfl
  rw[e];congr 3
  apply List.ext_getElem?;intro j;simp only[List.getElem?_append,ae,aN,List.length_set,aO,lA,List.getElem?_set,lB];grind
theorem jr(n:Nat)(z:List Value):(cI n z).length=n*z.length:=by
 unfold cI;induction n with
 |zero=>simp
 |succ n ih=>rw[List.replicate_succ,List.flatten_cons,ae,ih,me];omega
theorem AppP.own{α:Type}{f:α→List Value}{g i:Nat}{t:TypeId}{M:Nat→Prop}{h:ad}{d:Option Addr}{sl m O:Nat}{xs ys:List α}{n z:List Value}{K:SliceV→ad→Prop}
  (o:OwnS f g t M h ⟨d,sl,m⟩ xs)(k:O=ys.length)(I:n=ys.flatMap f)(u:bH n=true)(hz:z.length=g)(Q:0<i)(v:(xs.length+ys.length)*i≤140737488355328)(hM:M h.size)
  (C:∀s' h',OwnS f g t M h' s' (xs++ys)→Upd M h h'→K s' h'):AppP (some z) g i t d sl m O n h K:=by
 have c:sl=xs.length:=o.len;have s:∀x,(f x).length=g:=fun x=>(o.ne x).1
 subst k I;have y:=jB s ys;have k:=jB s xs;refine⟨fun q=>?_,fun p=>?_⟩
 ·rcases o.blk with J|⟨b,a,H,A,hc,B⟩
  ·have J:m=0:=J
   have L:ys.length=0:=by omega
   have E:xs.length=0:=by omega
   have P:=bC.1 L;have hx:=bC.1 E;subst P hx;refine⟨.inl rfl,rfl,?_⟩;have e:ey h d (sl*g) (([]:List α).flatMap f)=h:=by cases d<;>rfl
   rw[e];exact C _ _ ⟨by simp[c],o.ne,by simp only[cR];omega,.inl J⟩ (Upd.refl _ _)
  ·have H:d=some ⟨b,0,none⟩:=H
   have B:a.length=(m-sl)*g:=B;subst H;have N:sl+ys.length≤m:=q;have T:ys.length*g≤a.length:=by rw[B];exact Nat.mul_le_mul_right _ (Nat.le_sub_of_add_le (show ys.length+sl≤m by omega))
   have w:0+sl*g+(ys.flatMap f).length≤(xs.flatMap f++a).length:=by
    rw[ae,k,y,c];omega
   refine⟨.inr ⟨_,rfl,fun j V=>?_⟩,u,?_⟩
   ·rw[bG]
    refine gM hc ?_;rw[cz];omega
   ·have e:ey h (some ⟨b,0,none⟩) (sl*g) (ys.flatMap f)=_:=gw (ys.flatMap f) h (sl*g) 0 _ hc w
    rw[e];have F:(xs.flatMap f++a).take (0+sl*g)=xs.flatMap f:=by
     rw[aD,c,←k,dS (au _),List.take_length]
    have G:(xs.flatMap f++a).drop (0+sl*g+(ys.flatMap f).length)=a.drop (ys.length*g):=by
     rw[aD,c,←k,List.drop_append,fZ (by omega),kW,y];congr 1;omega
    rw[F,G];refine C _ _ ⟨by simp[c],o.ne,q,.inr ⟨b,a.drop (ys.length*g),rfl,A,?_,?_⟩⟩ (Upd.set h _ A)
    ·rw[ix hc,bv]
    ·rw[aJ,B]
     simp only;rw[show m-(sl+ys.length)=(m-sl)-ys.length by omega,Nat.sub_mul (m-sl)]
 ·have R:m*1≤m:=by omega
  refine⟨xs.flatMap f,z,?_,rfl,Q,Go.growslice_fits p (by rw[c];exact v),fun S D=>?_⟩
  ·exact(o.sl (W:=No) fun _ _ _=>id).srow
  ·refine C _ _ ⟨by simp[c],o.ne,D,.inr ⟨h.size,cI (S-(sl+ys.length)) z,rfl,hM,?_,?_⟩⟩ (Upd.hnew M h _ _)
   ·rw[cu,bv]
   ·rw[jr,hz]
end Go.Lift
namespace Go.Lift
open Go
theorem bK{h:ad}{k:ad→Prop}(a:k h):At h k:=a
theorem gO{b o l m a:Nat}(h:m≠l):aK (some ⟨b,o,none⟩) l m a=some ⟨b,o+l*a,none⟩:=by simp[aK,h,bG]
theorem sub_zero{b m a:Nat}:aK (some ⟨b,0,none⟩) 0 m a=some ⟨b,0,none⟩:=by
 unfold aK;split
 ·rfl
 ·simp[bG]
theorem iR{h:ad}{b:Nat}{c:List Value}{t:TypeId}{o n:Nat}{vs:List Value}{a:Option Addr}{k:ad→Prop}(f:SRow h a n vs)(i:bH vs=true)(d:h[b]? =some (.cells c.toArray t (0,0)))
  (q:o+n≤c.length) (g:∀h',h'[b]? =some (.cells (c.take o++vs++c.drop (o+n)).toArray t (0,0))→Upd (· =b) h h'→k h'):
  ∃xs,SRow h a n xs∧rc h (some ⟨b,o,none⟩) 0 xs∧bH xs=true∧At (ey h (some ⟨b,o,none⟩) 0 xs) k:=by
 have m:=f.1;refine⟨vs,f,.inr ⟨_,rfl,fun j p=>?_⟩,i,bK ?_⟩
 ·rw[bG];exact gM d (by rw[cz];omega)
 ·have e:ey h (some ⟨b,o,none⟩) 0 vs=_:=gw vs h 0 o c d (by omega)
  rw[e];refine g _ ?_ (Upd.set h _ rfl);rw[ix d,dL,m]
theorem ja{h:ad}{b:Nat}{c:List Value}{t:TypeId}{o n:Nat}{vs:List Value}(a:h[b]? =some (.cells c.toArray t (0,0))) (d:vs.length=n) (e:(c.drop o).take n=vs):SRow h (some ⟨b,o,none⟩) n vs:=by
 refine⟨d,.inr ⟨_,rfl,nY a fun i v hv=>?_⟩⟩
 rw[jf,←lB];have:((c.drop o).take n)[i]? =some v:=by rw[e];exact hv
 rw[lA]at this;split at this
 ·exact this
 ·cases this
section
variable {α:Type} {f:α→List Value} {sz:Nat}
theorem iC(a:∀x,(f x).length=sz∧0<sz)(xs:List α):(xs.flatMap f).length=xs.length*sz:=jB (fun x=>(a x).1) xs
theorem vh(xs:List α)(k:Nat):xs.flatMap f=(xs.take k).flatMap f++(xs.drop k).flatMap f:=by rw[←bv,bF]
end
theorem Dl{α:Type}{A X B Z1 Z2:List α}{p q r:Nat}(b:A.length=p)(f:X.length=q)(e:Z1.length=r+q):
  (((A++Z1++Z2).take p++X++(A++Z1++Z2).drop (p+q)).take (p+q))++B++((A++Z1++Z2).take p++X++(A++Z1++Z2).drop (p+q)).drop (p+q+r)=A++(X++B)++Z2:=by
 have d:(A++Z1++Z2).take p=A:=by rw[ak,cg b]
 have c:(A++Z1++Z2).drop (p+q)=Z1.drop q++Z2:=by
  rw[ak,←cZ,bT b,dV (by omega)]
 have a:(A++X).length=p+q:=by rw[ae];omega
 rw[d,c,cg a,←cZ,bT a,dV (by rw[aJ];omega),cZ,fZ (by omega),kW];simp only[ak]
theorem Gu{α:Type}{A X B R:List α}{p q r:Nat}(a:A.length=p)(e:B.length=r)(f:q≤R.length):
  (((A++B++R).take (p+q)++B++(A++B++R).drop (p+q+r)).take p)++X++((A++B++R).take (p+q)++B++(A++B++R).drop (p+q+r)).drop (p+q)=A++(X++B)++R.drop q:=by
 have d:((A++B++R).take (p+q)).length=p+q:=by rw[aN,ae,ae];omega
 have c:(A++B++R).drop (p+q+r)=R.drop q:=by
  rw[show p+q+r=(p+r)+q by omega,←cZ,bT (by rw[ae];omega)]
 have b:((A++B++R).take (p+q)++(B++(A++B++R).drop (p+q+r))).take p=A:=by
  rw[dS (by omega),List.take_take,Nat.min_eq_left (by omega),ak,cg a]
 rw[ak ((A++B++R).take (p+q)),b,bT d,c];simp only[ak]
theorem GN{h:ad}{b:Nat}{c:List Value}{t o:TypeId}{d a sl g i:Nat}{xs:List Value}{z:Option (List Value)}{K:SliceV→ad→Prop}(f:h[b]? =some (.cells c.toArray t (0,0)))
  (q:sl*d+xs.length≤c.length) (n:sl+i≤g) (k:bH xs=true) (m:∀h',h'[b]? =some (.cells (c.take (sl*d)++xs++c.drop (sl*d+xs.length)).toArray t (0,0))→Upd (· =b) h h'→K ⟨some ⟨b,0,none⟩,sl+i,g⟩ h'):
  AppP z d a o (some ⟨b,0,none⟩) sl g i xs h K:=by
 refine⟨fun _=>⟨.inr ⟨_,rfl,fun j p=>?_⟩,k,?_⟩,fun h=>by omega⟩
 ·rw[bG];exact gM f (by rw[cz];omega)
 ·have e:ey h (some ⟨b,0,none⟩) (sl*d) xs=_:=gw xs h (sl*d) 0 c f (by omega)
  rw[e];refine m _ ?_ (Upd.set h _ rfl);rw[ix f,aD]
theorem C7{h:ad}{b:Nat}{c:List Value}{t:TypeId}{o:Nat}{vs:List Value}{k:ad→Prop}(a:h[b]? =some (.cells c.toArray t (0,0)))
  (g:o+vs.length≤c.length) (d:∀h',h'[b]? =some (.cells (c.take o++vs++c.drop (o+vs.length)).toArray t (0,0))→Upd (· =b) h h'→k h'):
  rc h (some ⟨b,o,none⟩) 0 vs∧At (ey h (some ⟨b,o,none⟩) 0 vs) k:=by
 refine⟨.inr ⟨_,rfl,fun j f=>?_⟩,bK ?_⟩
 ·rw[bG];exact gM a (by rw[cz];omega)
 ·have e:ey h (some ⟨b,o,none⟩) 0 vs=_:=gw vs h 0 o c a (by omega)
  rw[e];refine d _ ?_ (Upd.set h _ rfl);rw[ix a,dL]
end Go.Lift
namespace Go.Lift
open Go
end Go.Lift
