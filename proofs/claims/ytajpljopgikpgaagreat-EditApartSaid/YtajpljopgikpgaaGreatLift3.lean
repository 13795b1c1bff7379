/- A part of the proof that the named laws of this program answer true, whatever the input. -/
import Derived.Test.YtajpljopgikpgaaGreatLift2
open Array renaming getElem?_setIfInBounds→bX,getElem?_eq_some_iff→bw
open List renaming flatMap_cons→aJ,length_append→af,length_cons→aL,getElem?_append_left→dB,getElem?_append_right→bI,getElem?_eq_some_iff→aP,length_take→aK,length_drop→aH,take_append_drop→bB,flatMap_append→be,length_eq_zero_iff→bF,getElem?_toArray→lB,length_nil→cL,getElem?_take→ko,getElem?_drop→kq,size_toArray→co,take_append_of_le_length→dF,drop_eq_nil_of_le→fE,nil_append→j3,append_assoc→ao,take_left'→bV,drop_drop→cS,drop_left'→bN,drop_append_of_le_length→dI
open Nat renaming lt_or_ge→bP,le_refl→aw,not_lt→qq,succ_mul→kZ,zero_add→aC,add_zero→dN
namespace Go.Lift
open Go
attribute [simp] aA ak
theorem bf{p:Prop}[Decidable p]{t e:Prop}(a:p→t)(b:¬p→e):CondP (decide p) t e:=CondP.intro (fun h=>a (of_decide_eq_true h)) (fun h=>b (of_decide_eq_false h))
theorem HC.mono{P:Program}{f:FuncId}{args:List Value}{ks:List Kind}{K c:qn ks→ae→Prop}{h:ae}(hc:HC P f args ks K h)(d:∀t h',K t h'→c t h'):HC P f args ks c h:=by
 refine⟨fun w k=>?_⟩
 rcases hc.run w k with⟨a,b⟩|⟨v,w',a,b,t,j,i⟩
 ·exact .inl ⟨a,b.mono fun e w' ⟨m,t,g,n⟩=>⟨m,t,g,d t _ n⟩⟩
 ·exact .inr ⟨v,w',a,b,t,j,d t _ i⟩
theorem Join.intro{T:Type}{a:T→ae→Prop}{k:(T→ae→Prop)→Prop}(J:T→ae→Prop)(b:∀R:T→ae→Prop,(∀t h,J t h→R t h)→k R)(c:∀t h,J t h→a t h):Join a k:=⟨b a c⟩
theorem Join.plain{T:Type}{a:T→ae→Prop}{k:(T→ae→Prop)→Prop}(h:k a):Join a k:=⟨h⟩
theorem LoopP.intro{T:Type}{F:(T→ae→Prop)→T→ae→Prop}{t:T}{h:ae}(Inv:T→ae→Prop)(m:T→ae→Nat)(g:Inv t h)
  (step:∀I:T→ae→Prop,∀t h,Inv t h→(∀a b,Inv a b→m a b<m t h→I a b)→F I t h):LoopP F t h:=by
 refine⟨fun I e=>?_⟩
 have key:∀n t h,m t h=n→Inv t h→I t h:=by
  intro n;induction n using Nat.strongRecOn with
  |_ n ih=>exact fun t h f hi=>e t h (step I t h hi fun a b c d=>ih _ (f▸d) a b rfl c)
 exact key _ t h rfl g
theorem LoopP.ghost{T G:Type}{F:(T→ae→Prop)→T→ae→Prop}{t:T}{h:ae}(Inv:G→T→ae→Prop)(m:G→Nat)(g:G)(j:Inv g t h)
  (step:∀I:T→ae→Prop,∀g t h,Inv g t h→(∀b a c,Inv b a c→m b<m g→I a c)→F I t h):LoopP F t h:=by
 refine⟨fun I f=>?_⟩
 have key:∀n g t h,m g=n→Inv g t h→I t h:=by
  intro n;induction n using Nat.strongRecOn with
  |_ n ih=>exact fun g t h i hi=>f t h (step I g t h hi fun b a c d e=>ih _ (i▸e) b a c rfl d)
 exact key _ g t h rfl j
theorem HV.mk'{P:Program}{f:FuncId}{first cap:Array Value}{args:List Value}{ks:List Kind}{K:qn ks→ae→Prop}{h:ae}(hc:HC P f (first.toList++args++cap.toList) ks K h):HV P (.func (.func f) first cap) args ks K h:=
 ⟨.inl ⟨f,first,cap,rfl,hc⟩⟩
@[simp] theorem bC(b o n:Nat):adr ⟨b,o,none⟩ n=⟨b,o+n,none⟩:=by
 cases n<;>rfl
@[simp] theorem vL(a:Addr)(n:Nat):(adr a n).block=a.block:=by
 cases n<;>rfl
theorem eZ(h:ae):aU h=⟨h.size,0,none⟩:=rfl
theorem CD{h:ae}{a:Addr}{v:Value}(hv:aQ h a=some v):a.block<h.size:=by
 unfold aQ at hv;rcases bP a.block h.size with b|b
 ·exact b
 ·rw[Array.getElem?_eq_none b]at hv;cases hv
theorem aV{h:ae}{b i:Nat}{c:Array Value}{e:TypeId}{fr:Nat×Nat}(a:h[b]? =some (.cells c e fr)):aQ h ⟨b,i,none⟩=c[i]?:=by
 unfold aQ;rw[a];rfl
theorem D9{h b:ae}{a:Addr}(c:b[a.block]? =h[a.block]?):aQ b a=aQ h a:=by
 unfold aQ;rw[c]
theorem yq{h:ae}{b i:Nat}{c:Array Value}{e:TypeId}{fr:Nat×Nat}{v:Value}(d:h[b]? =some (.cells c e fr)):
  hset h ⟨b,i,none⟩ v=h.setIfInBounds b (.cells (c.setIfInBounds i v) e fr):=by
 unfold hset;apply Array.ext_getElem?;intro j;rw[Array.getElem?_modify,bX];by_cases f:b=j
 ·subst f
  have a:=(bw.1 d).1;simp only[d,if_true,a,Option.map_some];rfl
 ·simp[f]
theorem gL{h:ae}{b i:Nat}{c:Array Value}{e:TypeId}(a:h[b]? =some (.cells c e (0,0))) (hi:i<c.size):Wr h ⟨b,i,none⟩:=by
 refine⟨⟨c[i],by rw[aV a,Array.getElem?_eq_getElem hi]⟩,?_⟩
 unfold xw;rw[a];simp
structure Upd(M:Nat→Prop)(h h':ae):Prop where
 size:h.size≤h'.size
 same:∀b,b<h.size→¬M b→h'[b]? =h[b]?
abbrev No:Nat→Prop:=fun _=>False
theorem Upd.refl(M:Nat→Prop)(h:ae):Upd M h h:=⟨aw _,fun _ _ _=>rfl⟩
theorem Upd.trans{M M':Nat→Prop}{h d f:ae}(k:Upd M h d)(l:Upd M' d f)(g:∀b,M' b→M b∨h.size≤b):Upd M h f:=
 ⟨Nat.le_trans k.size l.size,fun b c e=>by
  rw[l.same b (Nat.lt_of_lt_of_le c k.size) (fun hm=>(g b hm).elim e fun a=>absurd c (qq.2 a)),k.same b c e]⟩
theorem Upd.tr{M:Nat→Prop}{h a b:ae}(k:Upd M h a)(l:Upd M a b):Upd M h b:=k.trans l fun _ h=>.inl h
theorem Upd.mono{M M':Nat→Prop}{h c:ae}(k:Upd M h c)(e:∀b,M b→M' b∨h.size≤b):Upd M' h c:=
 ⟨k.size,fun b d f=>k.same b d fun hm=>(e b hm).elim f fun a=>absurd d (qq.2 a)⟩
theorem Upd.wide{M:Nat→Prop}{h a:ae}(k:Upd No h a):Upd M h a:=k.mono fun _ h=>h.elim
theorem Upd.get{M:Nat→Prop}{h a:ae}(k:Upd M h a){b:Nat}{o:Obj}(c:h[b]? =some o) (d:¬M b):a[b]? =some o:=by
 rw[k.same b (bw.1 c).1 d,c]
theorem Upd.get0{h a:ae}(k:Upd No h a){b:Nat}{o:Obj}(c:h[b]? =some o):a[b]? =some o:=k.get c id
theorem Upd.cell{M:Nat→Prop}{h b:ae}(k:Upd M h b){a:Addr}{v:Value}(hv:aQ h a=some v)(c:¬M a.block):aQ b a=some v:=by
 rw[D9 (k.same _ (CD hv) c),hv]
theorem Upd.cell0{h b:ae}(k:Upd No h b){a:Addr}{v:Value}(hv:aQ h a=some v):aQ b a=some v:=k.cell hv id
theorem Upd.push(M:Nat→Prop)(h:ae)(o:Obj):Upd M h (h.push o):=⟨by simp,fun b a _=>by rw[Array.getElem?_push];simp[Nat.ne_of_lt a]⟩
theorem Upd.set{M:Nat→Prop}(h:ae){b:Nat}(o:Obj)(a:M b):Upd M h (h.setIfInBounds b o):=⟨by simp,fun c _ d=>by
 rw[bX]
 have:b≠c:=fun e=>d (e▸a)
 simp[this]⟩
theorem Upd.hset{M:Nat→Prop}(h:ae){a:Addr}(v:Value)(b:M a.block):Upd M h (hset h a v):=⟨by simp[Go.Lift.hset],fun c _ d=>by
 unfold Go.Lift.hset
 rw[Array.getElem?_modify]
 have:a.block≠c:=fun e=>d (e▸b)
 simp[this]⟩
theorem Upd.hnew(M:Nat→Prop)(h:ae)(cs:List Value)(t:TypeId):Upd M h (hnew h cs t):=Upd.push M h _
theorem ci(h:ae)(cs:List Value)(t:TypeId):(hnew h cs t)[h.size]? =some (.cells cs.toArray t (0,0)):=by
 unfold hnew;simp
theorem jd(h:ae)(cs:List Value)(t:TypeId):(hnew h cs t).size=h.size+1:=by
 unfold hnew;simp
theorem iY{h:ae}{b:Nat}{o c:Obj}(a:h[b]? =some c):(h.setIfInBounds b o)[b]? =some o:=by
 rw[bX];simp[(bw.1 a).1]
theorem aG{h:ae}{b:Nat}{o:Obj}(a:h[b]? =some o):b<h.size:=(bw.1 a).1
theorem Row.upd{M:Nat→Prop}{h b:ae}{a:Addr}{vs:List Value}(d:Row h a vs)(k:Upd M h b)(c:¬M a.block):Row b a vs:=fun i v hv=>k.cell (d i v hv) (by rw[vL];exact c)
theorem SRow.upd{M:Nat→Prop}{h d:ae}{a:Option Addr}{n:Nat}{vs:List Value}(c:SRow h a n vs)(k:Upd M h d)(g:vs≠[]→∀b,a=some b→¬M b.block):SRow d a n vs:=by
 obtain⟨f,i⟩:=c;refine⟨f,?_⟩;rcases i with rfl|⟨b,e,c⟩
 ·exact .inl rfl
 ·by_cases hv:vs= []
  ·exact .inl hv
  ·exact .inr ⟨b,e,c.upd k (g hv b e)⟩
theorem nX{h:ae}{b o:Nat}{c:Array Value}{e:TypeId}{fr:Nat×Nat}(a:h[b]? =some (.cells c e fr)) {vs:List Value} (hv:∀i v,vs[i]? =some v→c[o+i]? =some v):Row h ⟨b,o,none⟩ vs:=fun i v hi=>by
 rw[bC,aV a];exact hv i v hi
structure Sl{α:Type}(f:α→List Value)(sz:Nat)(W:Nat→Prop)(h:ae)(s:SliceV)(xs:List α):Prop where
 len:s.len=xs.length
 ne:∀x,(f x).length=sz∧0<sz
 row:xs≠[]→∃a,s.a=some a∧¬W a.block∧Row h a (xs.flatMap f)
theorem Sl.nil{α:Type}{f:α→List Value}{b:Nat}{W:Nat→Prop}{h:ae}{a:Option Addr}{c:Nat}(d:∀x,(f x).length=b∧0<b):Sl f b W h ⟨a,0,c⟩ []:=⟨rfl,d,fun h=>absurd rfl h⟩
theorem Sl.lt{α:Type}{f:α→List Value}{i:Nat}{W:Nat→Prop}{h:ae}{s:SliceV}{xs:List α}(d:Sl f i W h s xs)(hx:xs≠[]){a:Addr}(e:s.a=some a):a.block<h.size:=by
 obtain⟨a',b,j,g⟩:=d.row hx;rw[e]at b;cases b;cases xs with
 |nil=>exact absurd rfl hx
 |cons x xs=>
  have c:=d.ne x;cases hf:f x with
  |nil=>rw[hf]at c;simp at c;omega
  |cons v vs=>
   have:=g 0 v (by rw[aJ,hf];rfl);have:=CD this;rw[vL]at this;exact this
theorem Sl.upd{α:Type}{f:α→List Value}{j:Nat}{W M:Nat→Prop}{h g:ae}{s:SliceV}{xs:List α}(c:Sl f j W h s xs)(k:Upd M h g)(hm:∀b,M b→W b∨h.size≤b):Sl f j W g s xs:=by
 refine⟨c.len,c.ne,fun hx=>?_⟩
 obtain⟨a,e,i,m⟩:=c.row hx;exact⟨a,e,i,m.upd k fun n=>(hm _ n).elim i fun d=>absurd (c.lt hx e) (qq.2 d)⟩
theorem Sl.less{α:Type}{f:α→List Value}{g:Nat}{W W':Nat→Prop}{h:ae}{s:SliceV}{xs:List α}(c:Sl f g W h s xs)(hm:∀b,W' b→W b∨h.size≤b):Sl f g W' h s xs:=
 ⟨c.len,c.ne,fun hx=>let⟨a,e,i,j⟩:=c.row hx;⟨a,e,fun k=>(hm _ k).elim i fun d=>absurd (c.lt hx e) (qq.2 d),j⟩⟩
theorem iK{α:Type}{f:α→List Value}{b:Nat}(a:∀x,(f x).length=b):∀xs:List α,(xs.flatMap f).length=xs.length*b
 | []=>by simp
 |x::xs=>by rw[aJ,af,a,iK a xs,aL,kZ];omega
theorem q9{α:Type}{f:α→List Value}{b:Nat}(a:∀x,(f x).length=b):∀(xs:List α) (i j:Nat) (x:α),xs[i]? =some x→j<b→(xs.flatMap f)[i*b+j]? =(f x)[j]?
 | [],i,j,x,h,_=>by simp at h
 |y::xs,0,j,x,h,hj=>by
  simp only[List.getElem?_cons_zero,Option.some.injEq]at h;subst h;rw[aJ,Nat.zero_mul,aC,dB (by rw[a];exact hj)]
 |y::xs,i+1,j,x,h,hj=>by
  rw[List.getElem?_cons_succ]at h;rw[aJ,bI (by rw[a,kZ];omega),a,show(i+1)*b+j-b=i*b+j by rw[kZ];omega]
  exact q9 a xs i j x h hj
theorem Sl.at{α:Type}{f:α→List Value}{c:Nat}{W:Nat→Prop}{h:ae}{s:SliceV}{xs:List α}(b:Sl f c W h s xs){i:Nat}{x:α}(hi:xs[i]? =some x):
  ∃a,s.a=some a∧¬W a.block∧∀j v,(f x)[j]? =some v→aQ h (adr (adr a (i*c)) j)=some v:=by
 obtain⟨a,d,k,m⟩:=b.row (fun e=>by subst e;simp at hi)
 refine⟨a,d,k,fun j v hv=>?_⟩
 have g:j<c:=by rw[←(b.ne x).1];exact(aP.1 hv).1
 rw[uu];exact m _ v (by rw[q9 (fun x=>(b.ne x).1) xs i j x hi g];exact hv)
theorem Sl.at0{α:Type}{g:α→Value}{W:Nat→Prop}{h:ae}{s:SliceV}{xs:List α}(b:Sl (fun x=> [g x]) 1 W h s xs){i:Nat}{x:α}(hi:xs[i]? =some x):
  ∃a,s.a=some a∧¬W a.block∧aQ h (adr a (i*1))=some (g x):=by
 obtain⟨a,d,c,e⟩:=b.at hi;exact⟨a,d,c,e 0 _ rfl⟩
theorem Sl.srow{α:Type}{f:α→List Value}{c:Nat}{W:Nat→Prop}{h:ae}{s:SliceV}{xs:List α}(b:Sl f c W h s xs):SRow h s.a (s.len*c) (xs.flatMap f):=by
 refine⟨?_,?_⟩
 ·rw[b.len,iK fun x=>(b.ne x).1]
 ·by_cases hx:xs= []
  ·subst hx;exact .inl rfl
  ·obtain⟨a,d,_,e⟩:=b.row hx
   exact .inr ⟨a,d,e⟩
theorem Sl.sub{α:Type}{f:α→List Value}{b:Nat}{W:Nat→Prop}{h:ae}{s:SliceV}{xs:List α}(d:Sl f b W h s xs){l hi m c:Nat}(q:l≤hi)(g:hi≤xs.length)(t:hi≤m):
  Sl f b W h ⟨aM s.a l m b,hi-l,c⟩ ((xs.drop l).take (hi-l)):=by
 refine⟨by simp only[aK,aH];omega,d.ne,fun hx=>?_⟩
 have p:l<hi:=by
  rcases bP l hi with h|h
  ·exact h
  ·rw[Nat.sub_eq_zero_of_le h]at hx;exact absurd List.take_zero hx
 obtain⟨a,j,n,o⟩:=d.row (fun e=>by rw[e]at g;simp at g;omega)
 refine⟨adr a (l*b),?_,by rw[vL];exact n,fun i v hv=>?_⟩
 ·unfold aM
  rw[if_neg (by omega),j];rfl
 ·rw[uu]
  refine o _ v ?_;have e:xs=xs.take l++((xs.drop l).take (hi-l)++(xs.drop l).drop (hi-l)):=by rw[bB,bB]
  rw[e,be,be];have k:((xs.take l).flatMap f).length=l*b:=by rw[iK fun x=>(d.ne x).1,aK];congr 1;omega
  rw[bI (by omega),k,Nat.add_sub_cancel_left,dB (aP.1 hv).1];exact hv
structure OwnS{α:Type}(f:α→List Value)(sz:Nat)(t:TypeId)(M:Nat→Prop)(h:ae)(s:SliceV)(xs:List α):Prop where
 len:s.len=xs.length
 ne:∀x,(f x).length=sz∧0<sz
 cap:s.len≤s.cap
 blk:s.cap=0∨∃b rest,s.a=some ⟨b,0,none⟩∧M b∧h[b]? =some (.cells (xs.flatMap f++rest).toArray t (0,0))∧rest.length=(s.cap-s.len)*sz
theorem OwnS.nil{α:Type}{f:α→List Value}{b:Nat}{t:TypeId}{M:Nat→Prop}{h:ae}{a:Option Addr}(c:∀x,(f x).length=b∧0<b):OwnS f b t M h ⟨a,0,0⟩ []:=⟨rfl,c,aw _,.inl rfl⟩
theorem OwnS.sl{α:Type}{f:α→List Value}{d:Nat}{t:TypeId}{M W:Nat→Prop}{h:ae}{s:SliceV}{xs:List α}(a:OwnS f d t M h s xs)(hm:∀b,M b→b<h.size→¬W b):Sl f d W h s xs:=by
 refine⟨a.len,a.ne,fun hx=>?_⟩
 rcases a.blk with j|⟨b,c,e,g,hc,_⟩
 ·have:=a.len;have:=a.cap
  have:xs.length=0:=by omega
  exact absurd (bF.1 this) hx
 ·exact⟨_,e,hm b g (aG hc),nX hc fun i v hv=>by
   rw[aC,lB,dB (aP.1 hv).1];exact hv⟩
theorem OwnS.upd{α:Type}{f:α→List Value}{g:Nat}{t:TypeId}{M M':Nat→Prop}{h d:ae}{s:SliceV}{xs:List α}(c:OwnS f g t M h s xs)(k:Upd M' h d)(hm:∀b,M b→¬M' b):OwnS f g t M d s xs:=by
 refine⟨c.len,c.ne,c.cap,c.blk.imp id fun⟨b,a,i,e,hc,j⟩=>⟨b,a,i,e,k.get hc (hm b e),j⟩⟩
theorem OwnS.more{α:Type}{f:α→List Value}{d:Nat}{t:TypeId}{M M':Nat→Prop}{h:ae}{s:SliceV}{xs:List α}(c:OwnS f d t M h s xs)(hm:∀b,M b→M' b):OwnS f d t M' h s xs:=by
 refine⟨c.len,c.ne,c.cap,c.blk.imp id fun⟨b,a,e,i,hc,g⟩=>⟨b,a,e,hm b i,hc,g⟩⟩
theorem OwnS.within{α:Type}{f:α→List Value}{d:Nat}{t:TypeId}{M:Nat→Prop}{h:ae}{s:SliceV}{xs:List α}(c:OwnS f d t M h s xs):OwnS f d t (fun b=>M b∧b<h.size) h s xs:=by
 refine⟨c.len,c.ne,c.cap,c.blk.imp id fun⟨b,a,e,i,hc,g⟩=>⟨b,a,e,⟨i,aG hc⟩,hc,g⟩⟩
theorem f7{b:Nat}{t:TypeId}:∀(vs:List Value) (h:ae) (i o:Nat) (c:List Value),h[b]? =some (.cells c.toArray t (0,0))→o+i+vs.length≤c.length→
  fi h ⟨b,o,none⟩ i vs=h.setIfInBounds b (.cells (c.take (o+i)++vs++c.drop (o+i+vs.length)).toArray t (0,0))
 | [],h,i,o,c,hb,hl=>by
  simp only[fi,List.append_nil,cL,dN,bB];apply Array.ext_getElem?;intro j;rw[bX];split
  ·rename_i e;subst e;rw[hb];simp[aG hb]
  ·rfl
 |v::vs,h,i,o,c,hb,hl=>by
  rw[aL]at hl;simp only[fi];rw[bC,yq hb];have a:(h.setIfInBounds b (.cells (c.toArray.setIfInBounds (o+i) v) t (0,0)))[b]? =some (.cells (c.set (o+i) v).toArray t (0,0)):=by
   rw[iY hb];simp
  rw[f7 vs _ (i+1) o (c.set (o+i) v) a (by simp;omega)];have e:∀(x y:Obj),(h.setIfInBounds b x).setIfInBounds b y=h.setIfInBounds b y:=fun x y=>by
   apply Array.ext_getElem?;intro j;simp only[bX,Array.size_setIfInBounds];split<;>rfl
  rw[e];congr 3
  apply List.ext_getElem?;intro j;simp only[List.getElem?_append,af,aK,List.length_set,aL,ko,List.getElem?_set,kq];grind
theorem iA(n:Nat)(z:List Value):(cA n z).length=n*z.length:=by
 unfold cA;induction n with
 |zero=>simp
 |succ n ih=>rw[List.replicate_succ,List.flatten_cons,af,ih,kZ];omega
theorem AppP.own{α:Type}{f:α→List Value}{i g:Nat}{t:TypeId}{M:Nat→Prop}{h:ae}{d:Option Addr}{sl m O:Nat}{xs ys:List α}{o z:List Value}{K:SliceV→ae→Prop}
  (n:OwnS f i t M h ⟨d,sl,m⟩ xs)(k:O=ys.length)(I:o=ys.flatMap f)(y:bE o=true)(hz:z.length=i)(P:0<g)(s:(xs.length+ys.length)*g≤140737488355328)(hM:M h.size)
  (E:∀s' h',OwnS f i t M h' s' (xs++ys)→Upd M h h'→K s' h'):AppP (some z) i g t d sl m O o h K:=by
 have c:sl=xs.length:=n.len;have p:∀x,(f x).length=i:=fun x=>(n.ne x).1
 subst k I;have A:=iK p ys;have k:=iK p xs;refine⟨fun u=>?_,fun q=>?_⟩
 ·rcases n.blk with D|⟨b,a,H,w,hc,B⟩
  ·have D:m=0:=D
   have F:ys.length=0:=by omega
   have J:xs.length=0:=by omega
   have R:=bF.1 F;have hx:=bF.1 J;subst R hx;refine⟨.inl rfl,rfl,?_⟩;have e:dV h d (sl*i) (([]:List α).flatMap f)=h:=by cases d<;>rfl
   rw[e];exact E _ _ ⟨by simp[c],n.ne,by simp only[cL];omega,.inl D⟩ (Upd.refl _ _)
  ·have H:d=some ⟨b,0,none⟩:=H
   have B:a.length=(m-sl)*i:=B;subst H;have N:sl+ys.length≤m:=u;have T:ys.length*i≤a.length:=by rw[B];exact Nat.mul_le_mul_right _ (Nat.le_sub_of_add_le (show ys.length+sl≤m by omega))
   have v:0+sl*i+(ys.flatMap f).length≤(xs.flatMap f++a).length:=by
    rw[af,k,A,c];omega
   refine⟨.inr ⟨_,rfl,fun j U=>?_⟩,y,?_⟩
   ·rw[bC]
    refine gL hc ?_;rw[co];omega
   ·have e:dV h (some ⟨b,0,none⟩) (sl*i) (ys.flatMap f)=_:=f7 (ys.flatMap f) h (sl*i) 0 _ hc v
    rw[e];have C:(xs.flatMap f++a).take (0+sl*i)=xs.flatMap f:=by
     rw[aC,c,←k,dF (aw _),List.take_length]
    have L:(xs.flatMap f++a).drop (0+sl*i+(ys.flatMap f).length)=a.drop (ys.length*i):=by
     rw[aC,c,←k,List.drop_append,fE (by omega),j3,A];congr 1;omega
    rw[C,L];refine E _ _ ⟨by simp[c],n.ne,u,.inr ⟨b,a.drop (ys.length*i),rfl,w,?_,?_⟩⟩ (Upd.set h _ w)
    ·rw[iY hc,be]
    ·rw[aH,B]
     simp only;rw[show m-(sl+ys.length)=(m-sl)-ys.length by omega,Nat.sub_mul (m-sl)]
 ·have S:m*1≤m:=by omega
  refine⟨xs.flatMap f,z,?_,rfl,P,Go.growslice_fits q (by rw[c];exact s),fun Q G=>?_⟩
  ·exact(n.sl (W:=No) fun _ _ _=>id).srow
  ·refine E _ _ ⟨by simp[c],n.ne,G,.inr ⟨h.size,cA (Q-(sl+ys.length)) z,rfl,hM,?_,?_⟩⟩ (Upd.hnew M h _ _)
   ·rw[ci,be]
   ·rw[iA,hz]
end Go.Lift
namespace Go.Lift
open Go
theorem bG{h:ae}{k:ae→Prop}(a:k h):At h k:=a
theorem gm{b o l m a:Nat}(h:m≠l):aM (some ⟨b,o,none⟩) l m a=some ⟨b,o+l*a,none⟩:=by simp[aM,h,bC]
theorem sub_zero{b m a:Nat}:aM (some ⟨b,0,none⟩) 0 m a=some ⟨b,0,none⟩:=by
 unfold aM;split
 ·rfl
 ·simp[bC]
theorem g4{h:ae}{b:Nat}{c:List Value}{t:TypeId}{o n:Nat}{vs:List Value}{a:Option Addr}{k:ae→Prop}(f:SRow h a n vs)(g:bE vs=true)(d:h[b]? =some (.cells c.toArray t (0,0)))
  (q:o+n≤c.length) (m:∀h',h'[b]? =some (.cells (c.take o++vs++c.drop (o+n)).toArray t (0,0))→Upd (· =b) h h'→k h'):
  ∃xs,SRow h a n xs∧ph h (some ⟨b,o,none⟩) 0 xs∧bE xs=true∧At (dV h (some ⟨b,o,none⟩) 0 xs) k:=by
 have i:=f.1;refine⟨vs,f,.inr ⟨_,rfl,fun j p=>?_⟩,g,bG ?_⟩
 ·rw[bC];exact gL d (by rw[co];omega)
 ·have e:dV h (some ⟨b,o,none⟩) 0 vs=_:=f7 vs h 0 o c d (by omega)
  rw[e];refine m _ ?_ (Upd.set h _ rfl);rw[iY d,dN,i]
theorem ib{h:ae}{b:Nat}{c:List Value}{t:TypeId}{o n:Nat}{vs:List Value}(a:h[b]? =some (.cells c.toArray t (0,0))) (e:vs.length=n) (d:(c.drop o).take n=vs):SRow h (some ⟨b,o,none⟩) n vs:=by
 refine⟨e,.inr ⟨_,rfl,nX a fun i v hv=>?_⟩⟩
 rw[lB,←kq];have:((c.drop o).take n)[i]? =some v:=by rw[d];exact hv
 rw[ko]at this;split at this
 ·exact this
 ·cases this
section
variable {α:Type} {f:α→List Value} {sz:Nat}
theorem gQ(a:∀x,(f x).length=sz∧0<sz)(xs:List α):(xs.flatMap f).length=xs.length*sz:=iK (fun x=>(a x).1) xs
theorem te(xs:List α)(k:Nat):xs.flatMap f=(xs.take k).flatMap f++(xs.drop k).flatMap f:=by rw[←be,bB]
end
theorem Bb{α:Type}{A X B Z1 Z2:List α}{p q r:Nat}(b:A.length=p)(f:X.length=q)(e:Z1.length=r+q):
  (((A++Z1++Z2).take p++X++(A++Z1++Z2).drop (p+q)).take (p+q))++B++((A++Z1++Z2).take p++X++(A++Z1++Z2).drop (p+q)).drop (p+q+r)=A++(X++B)++Z2:=by
 have d:(A++Z1++Z2).take p=A:=by rw[ao,bV b]
 have c:(A++Z1++Z2).drop (p+q)=Z1.drop q++Z2:=by
  rw[ao,←cS,bN b,dI (by omega)]
 have a:(A++X).length=p+q:=by rw[af];omega
 rw[d,c,bV a,←cS,bN a,dI (by rw[aH];omega),cS,fE (by omega),j3];simp only[ao]
theorem D6{α:Type}{A X B R:List α}{p q r:Nat}(c:A.length=p)(e:B.length=r)(f:q≤R.length):
  (((A++B++R).take (p+q)++B++(A++B++R).drop (p+q+r)).take p)++X++((A++B++R).take (p+q)++B++(A++B++R).drop (p+q+r)).drop (p+q)=A++(X++B)++R.drop q:=by
 have a:((A++B++R).take (p+q)).length=p+q:=by rw[aK,af,af];omega
 have d:(A++B++R).drop (p+q+r)=R.drop q:=by
  rw[show p+q+r=(p+r)+q by omega,←cS,bN (by rw[af];omega)]
 have b:((A++B++R).take (p+q)++(B++(A++B++R).drop (p+q+r))).take p=A:=by
  rw[dF (by omega),List.take_take,Nat.min_eq_left (by omega),ao,bV c]
 rw[ao ((A++B++R).take (p+q)),b,bN a,d];simp only[ao]
theorem Es{h:ae}{b:Nat}{c:List Value}{t m:TypeId}{d a sl f g:Nat}{xs:List Value}{z:Option (List Value)}{K:SliceV→ae→Prop}(i:h[b]? =some (.cells c.toArray t (0,0)))
  (q:sl*d+xs.length≤c.length) (n:sl+g≤f) (k:bE xs=true) (o:∀h',h'[b]? =some (.cells (c.take (sl*d)++xs++c.drop (sl*d+xs.length)).toArray t (0,0))→Upd (· =b) h h'→K ⟨some ⟨b,0,none⟩,sl+g,f⟩ h'):
  AppP z d a m (some ⟨b,0,none⟩) sl f g xs h K:=by
 refine⟨fun _=>⟨.inr ⟨_,rfl,fun j p=>?_⟩,k,?_⟩,fun h=>by omega⟩
 ·rw[bC];exact gL i (by rw[co];omega)
 ·have e:dV h (some ⟨b,0,none⟩) (sl*d) xs=_:=f7 xs h (sl*d) 0 c i (by omega)
  rw[e];refine o _ ?_ (Upd.set h _ rfl);rw[iY i,aC]
theorem AV{h:ae}{b:Nat}{c:List Value}{t:TypeId}{o:Nat}{vs:List Value}{k:ae→Prop}(a:h[b]? =some (.cells c.toArray t (0,0)))
  (g:o+vs.length≤c.length) (d:∀h',h'[b]? =some (.cells (c.take o++vs++c.drop (o+vs.length)).toArray t (0,0))→Upd (· =b) h h'→k h'):
  ph h (some ⟨b,o,none⟩) 0 vs∧At (dV h (some ⟨b,o,none⟩) 0 vs) k:=by
 refine⟨.inr ⟨_,rfl,fun j f=>?_⟩,bG ?_⟩
 ·rw[bC];exact gL a (by rw[co];omega)
 ·have e:dV h (some ⟨b,o,none⟩) 0 vs=_:=f7 vs h 0 o c a (by omega)
  rw[e];refine d _ ?_ (Upd.set h _ rfl);rw[iY a,dN]
end Go.Lift
namespace Go.Lift
open Go
end Go.Lift
