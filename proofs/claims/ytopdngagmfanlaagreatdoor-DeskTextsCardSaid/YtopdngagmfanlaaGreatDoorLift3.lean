/- A part of the proof that the named laws of this program answer true, whatever the input. -/
import Derived.Test.YtopdngagmfanlaaGreatDoorLift2
open Array renaming getElem?_modify→jC,getElem?_setIfInBounds→eE,getElem?_eq_some_iff→ct
open Bool renaming false_eq_true→dy
open List renaming flatMap_cons→bK,length_append→aj,length_cons→ay,getElem?_append_left→dF,getElem?_append_right→gw,getElem?_eq_some_iff→aZ,length_take→be,length_drop→aS,take_append_drop→bT,flatMap_append→cc,length_eq_zero_iff→bp,getElem?_toArray→dP,length_nil→bN,size_toArray→cP,take_append_of_le_length→fJ,drop_eq_nil_of_le→lz,nil_append→jM,append_assoc→aM,take_left'→cR,drop_drop→cT,drop_left'→cD,drop_append_of_le_length→fK,mem_map→fy,map_map→ly,nodup_nil→p5,map_cons→cN,nodup_cons→lN,mem_cons→ar,mem_singleton→aO,filter_eq_self→kr,filter_sublist→kq
open Nat renaming strongRecOn→lM,lt_or_ge→cC,zero_add→aR,le_refl→av,not_lt→jr,succ_mul→nF,add_zero→j7
open Option renaming some→bq
namespace Go.Lift
open Go
attribute [simp] aA af
theorem aF{p:Prop}[Decidable p]{t e:Prop}(a:p→t)(b:¬p→e):CondP (decide p) t e:=CondP.intro (fun h=>a (of_decide_eq_true h)) (fun h=>b (of_decide_eq_false h))
theorem HC.mono{P:Program}{f:FuncId}{args:List Value}{ks:List Kind}{K d:uS ks→ad→Prop}{h:ad}(hc:HC P f args ks K h)(c:∀t h',K t h'→d t h'):HC P f args ks d h:=by
 refine⟨fun w g=>?_⟩
 rcases hc.run w g with⟨b,a⟩|⟨v,w',b,a,t,k,n⟩
 ·exact .inl ⟨b,a.mono fun e w' ⟨m,t,j,i⟩=>⟨m,t,j,c t _ i⟩⟩
 ·exact .inr ⟨v,w',b,a,t,k,c t _ n⟩
theorem Join.intro{T:Type}{a:T→ad→Prop}{k:(T→ad→Prop)→Prop}(J:T→ad→Prop)(b:∀R:T→ad→Prop,(∀t h,J t h→R t h)→k R)(c:∀t h,J t h→a t h):Join a k:=⟨b a c⟩
theorem Join.plain{T:Type}{a:T→ad→Prop}{k:(T→ad→Prop)→Prop}(h:k a):Join a k:=⟨h⟩
theorem LoopP.intro{T:Type}{F:(T→ad→Prop)→T→ad→Prop}{t:T}{h:ad}(Inv:T→ad→Prop)(m:T→ad→Nat)(e:Inv t h)
  (step:∀I:T→ad→Prop,∀t h,Inv t h→(∀a h',Inv a h'→m a h'<m t h→I a h')→F I t h):LoopP F t h:=by
 refine⟨fun I d=>?_⟩
 have key:∀n t h,m t h=n→Inv t h→I t h:=by
  intro n;induction n using lM with
  |_ n ih=>exact fun t h f hi=>d t h (step I t h hi fun a h' c b=>ih _ (f▸b) a h' rfl c)
 exact key _ t h rfl e
theorem LoopP.ghost{T G:Type}{F:(T→ad→Prop)→T→ad→Prop}{t:T}{h:ad}(Inv:G→T→ad→Prop)(m:G→Nat)(g:G)(f:Inv g t h)
  (step:∀I:T→ad→Prop,∀g t h,Inv g t h→(∀b a h',Inv b a h'→m b<m g→I a h')→F I t h):LoopP F t h:=by
 refine⟨fun I e=>?_⟩
 have key:∀n g t h,m g=n→Inv g t h→I t h:=by
  intro n;induction n using lM with
  |_ n ih=>exact fun g t h i hi=>e t h (step I g t h hi fun b a h' d c=>ih _ (i▸c) b a h' rfl d)
 exact key _ g t h rfl f
theorem HV.mk'{P:Program}{f:FuncId}{first cap:Array Value}{args:List Value}{ks:List Kind}{K:uS ks→ad→Prop}{h:ad}(hc:HC P f (first.toList++args++cap.toList) ks K h):HV P (.func (.func f) first cap) args ks K h:=
 ⟨.inl ⟨f,first,cap,rfl,hc⟩⟩
@[simp] theorem ci(b o n:Nat):adr ⟨b,o,none⟩ n=⟨b,o+n,none⟩:=by
 cases n<;>rfl
@[simp] theorem AB(a:Addr)(n:Nat):(adr a n).block=a.block:=by
 cases n<;>rfl
theorem df(h:ad):aH h=⟨h.size,0,none⟩:=rfl
theorem HH{h:ad}{a:Addr}{v:Value}(b:aD h a=some v):a.block<h.size:=by
 unfold aD at b;rcases cC a.block h.size with c|c
 ·exact c
 ·rw[Array.getElem?_eq_none c]at b;cases b
theorem bc{h:ad}{b i:Nat}{c:Array Value}{e:TypeId}{fr:Nat×Nat}(a:h[b]? =some (.cells c e fr)):aD h ⟨b,i,none⟩=c[i]?:=by
 unfold aD;rw[a];rfl
theorem QG{h h':ad}{c:Array Value}{e:TypeId}{fr:Nat×Nat}(a:h'[h.size]? =some (.cells c e fr)) (i:Nat):aD h' (adr (aH h) i)=c[i]?:=by
 rw[df,ci,bc a,aR]
theorem QF{h h':ad}{a:Addr}(b:h'[a.block]? =h[a.block]?):aD h' a=aD h a:=by
 unfold aD;rw[b]
theorem HF{h:ad}{b i:Nat}{c:Array Value}{e:TypeId}{fr:Nat×Nat}{v:Value}(f:h[b]? =some (.cells c e fr)):
  hset h ⟨b,i,none⟩ v=h.setIfInBounds b (.cells (c.setIfInBounds i v) e fr):=by
 unfold hset;apply Array.ext_getElem?;intro j;rw[jC,eE];by_cases d:b=j
 ·subst d
  have a:=(ct.1 f).1;simp only[f,if_true,a,Option.map_some];rfl
 ·simp[d]
theorem i5{h:ad}{b i:Nat}{c:Array Value}{e:TypeId}(a:h[b]? =some (.cells c e (0,0))) (hi:i<c.size):Wr h ⟨b,i,none⟩:=by
 refine⟨⟨c[i],by rw[bc a,Array.getElem?_eq_getElem hi]⟩,?_⟩
 unfold Gz;rw[a];simp
structure Upd(M:Nat→Prop)(h h':ad):Prop where
 size:h.size≤h'.size
 same:∀b,b<h.size→¬M b→h'[b]? =h[b]?
abbrev No:Nat→Prop:=fun _=>False
theorem Upd.refl(M:Nat→Prop)(h:ad):Upd M h h:=⟨av _,fun _ _ _=>rfl⟩
theorem Upd.trans{M M':Nat→Prop}{h e d:ad}(k:Upd M h e)(l:Upd M' e d)(g:∀b,M' b→M b∨h.size≤b):Upd M h d:=
 ⟨Nat.le_trans k.size l.size,fun b c f=>by
  rw[l.same b (Nat.lt_of_lt_of_le c k.size) (fun hm=>(g b hm).elim f fun a=>absurd c (jr.2 a)),k.same b c f]⟩
theorem Upd.tr{M:Nat→Prop}{h a b:ad}(k:Upd M h a)(l:Upd M a b):Upd M h b:=k.trans l fun _ h=>.inl h
theorem Upd.mono{M M':Nat→Prop}{h h':ad}(k:Upd M h h')(d:∀b,M b→M' b∨h.size≤b):Upd M' h h':=
 ⟨k.size,fun b c e=>k.same b c fun hm=>(d b hm).elim e fun a=>absurd c (jr.2 a)⟩
theorem Upd.wide{M:Nat→Prop}{h h':ad}(k:Upd No h h'):Upd M h h':=k.mono fun _ h=>h.elim
theorem Upd.get{M:Nat→Prop}{h h':ad}(k:Upd M h h'){b:Nat}{o:Obj}(a:h[b]? =some o) (c:¬M b):h'[b]? =some o:=by
 rw[k.same b (ct.1 a).1 c,a]
theorem Upd.get0{h h':ad}(k:Upd No h h'){b:Nat}{o:Obj}(a:h[b]? =some o):h'[b]? =some o:=k.get a id
theorem Upd.cell{M:Nat→Prop}{h h':ad}(k:Upd M h h'){a:Addr}{v:Value}(b:aD h a=some v)(c:¬M a.block):aD h' a=some v:=by
 rw[QF (k.same _ (HH b) c),b]
theorem Upd.cell0{h h':ad}(k:Upd No h h'){a:Addr}{v:Value}(b:aD h a=some v):aD h' a=some v:=k.cell b id
theorem Upd.push(M:Nat→Prop)(h:ad)(o:Obj):Upd M h (h.push o):=⟨by simp,fun b a _=>by rw[Array.getElem?_push];simp[Nat.ne_of_lt a]⟩
theorem Upd.set{M:Nat→Prop}(h:ad){b:Nat}(o:Obj)(d:M b):Upd M h (h.setIfInBounds b o):=⟨by simp,fun c _ a=>by
 rw[eE]
 have:b≠c:=fun e=>a (e▸d)
 simp[this]⟩
theorem Upd.hset{M:Nat→Prop}(h:ad){a:Addr}(v:Value)(d:M a.block):Upd M h (hset h a v):=⟨by simp[Go.Lift.hset],fun c _ b=>by
 unfold Go.Lift.hset
 rw[jC]
 have:a.block≠c:=fun e=>b (e▸d)
 simp[this]⟩
theorem Upd.hnew(M:Nat→Prop)(h:ad)(cs:List Value)(t:TypeId):Upd M h (hnew h cs t):=Upd.push M h _
theorem bI(h:ad)(cs:List Value)(t:TypeId):(hnew h cs t)[h.size]? =some (.cells cs.toArray t (0,0)):=by
 unfold hnew;simp
theorem mF(h:ad)(o:Obj):(h.push o)[h.size]? =some o:=by simp
theorem eT(h:ad)(cs:List Value)(t:TypeId):(hnew h cs t).size=h.size+1:=by
 unfold hnew;simp
theorem jx{h:ad}{b:Nat}{o a:Obj}(c:h[b]? =some a):(h.setIfInBounds b o)[b]? =some o:=by
 rw[eE];simp[(ct.1 c).1]
theorem bB{h:ad}{b:Nat}{o:Obj}(a:h[b]? =some o):b<h.size:=(ct.1 a).1
theorem Row.upd{M:Nat→Prop}{h h':ad}{a:Addr}{vs:List Value}(d:Row h a vs)(k:Upd M h h')(c:¬M a.block):Row h' a vs:=fun i v b=>k.cell (d i v b) (by rw[AB];exact c)
theorem SRow.upd{M:Nat→Prop}{h h':ad}{a:Option Addr}{n:Nat}{vs:List Value}(c:SRow h a n vs)(k:Upd M h h')(i:vs≠[]→∀b,a=some b→¬M b.block):SRow h' a n vs:=by
 obtain⟨g,f⟩:=c;refine⟨g,?_⟩;rcases f with rfl|⟨b,e,c⟩
 ·exact .inl rfl
 ·by_cases d:vs= []
  ·exact .inl d
  ·exact .inr ⟨b,e,c.upd k (i d b e)⟩
theorem py{h:ad}{b o:Nat}{c:Array Value}{e:TypeId}{fr:Nat×Nat}(d:h[b]? =some (.cells c e fr)) {vs:List Value} (a:∀i v,vs[i]? =some v→c[o+i]? =some v):Row h ⟨b,o,none⟩ vs:=fun i v hi=>by
 rw[ci,bc d];exact a i v hi
structure Sl{α:Type}(f:α→List Value)(sz:Nat)(W:Nat→Prop)(h:ad)(s:SliceV)(xs:List α):Prop where
 len:s.len=xs.length
 ne:∀x,(f x).length=sz∧0<sz
 row:xs≠[]→∃a,s.a=some a∧¬W a.block∧Row h a (xs.flatMap f)
theorem Sl.nil{α:Type}{f:α→List Value}{b:Nat}{W:Nat→Prop}{h:ad}{a:Option Addr}{c:Nat}(d:∀x,(f x).length=b∧0<b):Sl f b W h ⟨a,0,c⟩ []:=⟨rfl,d,fun h=>absurd rfl h⟩
theorem Sl.lt{α:Type}{f:α→List Value}{e:Nat}{W:Nat→Prop}{h:ad}{s:SliceV}{xs:List α}(c:Sl f e W h s xs)(hx:xs≠[]){a:Addr}(g:s.a=some a):a.block<h.size:=by
 obtain⟨a',b,j,i⟩:=c.row hx;rw[g]at b;cases b;cases xs with
 |nil=>exact absurd rfl hx
 |cons x xs=>
  have d:=c.ne x;cases hf:f x with
  |nil=>rw[hf]at d;simp at d;omega
  |cons v vs=>
   have:=i 0 v (by rw[bK,hf];rfl);have:=HH this;rw[AB]at this;exact this
theorem Sl.upd{α:Type}{f:α→List Value}{e:Nat}{W M:Nat→Prop}{h h':ad}{s:SliceV}{xs:List α}(c:Sl f e W h s xs)(k:Upd M h h')(hm:∀b,M b→W b∨h.size≤b):Sl f e W h' s xs:=by
 refine⟨c.len,c.ne,fun hx=>?_⟩
 obtain⟨a,g,i,j⟩:=c.row hx;exact⟨a,g,i,j.upd k fun m=>(hm _ m).elim i fun d=>absurd (c.lt hx g) (jr.2 d)⟩
theorem Sl.less{α:Type}{f:α→List Value}{e:Nat}{W W':Nat→Prop}{h:ad}{s:SliceV}{xs:List α}(c:Sl f e W h s xs)(hm:∀b,W' b→W b∨h.size≤b):Sl f e W' h s xs:=
 ⟨c.len,c.ne,fun hx=>let⟨a,g,i,j⟩:=c.row hx;⟨a,g,fun k=>(hm _ k).elim i fun d=>absurd (c.lt hx g) (jr.2 d),j⟩⟩
theorem kY{α:Type}{f:α→List Value}{b:Nat}(a:∀x,(f x).length=b):∀xs:List α,(xs.flatMap f).length=xs.length*b
 | []=>by simp
 |x::xs=>by rw[bK,aj,a,kY a xs,ay,nF];omega
theorem zg{α:Type}{f:α→List Value}{b:Nat}(a:∀x,(f x).length=b):∀(xs:List α) (i j:Nat) (x:α),xs[i]? =some x→j<b→(xs.flatMap f)[i*b+j]? =(f x)[j]?
 | [],i,j,x,h,_=>by simp at h
 |y::xs,0,j,x,h,hj=>by
  simp only[List.getElem?_cons_zero,bq.injEq]at h;subst h;rw[bK,Nat.zero_mul,aR,dF (by rw[a];exact hj)]
 |y::xs,i+1,j,x,h,hj=>by
  rw[List.getElem?_cons_succ]at h;rw[bK,gw (by rw[a,nF];omega),a,show(i+1)*b+j-b=i*b+j by rw[nF];omega]
  exact zg a xs i j x h hj
theorem Sl.at{α:Type}{f:α→List Value}{c:Nat}{W:Nat→Prop}{h:ad}{s:SliceV}{xs:List α}(b:Sl f c W h s xs){i:Nat}{x:α}(hi:xs[i]? =some x):
  ∃a,s.a=some a∧¬W a.block∧∀j v,(f x)[j]? =some v→aD h (adr (adr a (i*c)) j)=some v:=by
 obtain⟨a,g,k,n⟩:=b.row (fun e=>by subst e;simp at hi)
 refine⟨a,g,k,fun j v d=>?_⟩
 have m:j<c:=by rw[←(b.ne x).1];exact(aZ.1 d).1
 rw[Df];exact n _ v (by rw[zg (fun x=>(b.ne x).1) xs i j x hi m];exact d)
theorem Sl.at0{α:Type}{g:α→Value}{W:Nat→Prop}{h:ad}{s:SliceV}{xs:List α}(c:Sl (fun x=> [g x]) 1 W h s xs){i:Nat}{x:α}(hi:xs[i]? =some x):
  ∃a,s.a=some a∧¬W a.block∧aD h (adr a (i*1))=some (g x):=by
 obtain⟨a,e,b,d⟩:=c.at hi;exact⟨a,e,b,d 0 _ rfl⟩
theorem Sl.srow{α:Type}{f:α→List Value}{c:Nat}{W:Nat→Prop}{h:ad}{s:SliceV}{xs:List α}(b:Sl f c W h s xs):SRow h s.a (s.len*c) (xs.flatMap f):=by
 refine⟨?_,?_⟩
 ·rw[b.len,kY fun x=>(b.ne x).1]
 ·by_cases hx:xs= []
  ·subst hx;exact .inl rfl
  ·obtain⟨a,d,_,e⟩:=b.row hx
   exact .inr ⟨a,d,e⟩
theorem Sl.sub{α:Type}{f:α→List Value}{b:Nat}{W:Nat→Prop}{h:ad}{s:SliceV}{xs:List α}(d:Sl f b W h s xs){l hi m c:Nat}(t:l≤hi)(j:hi≤xs.length)(u:hi≤m):
  Sl f b W h ⟨aY s.a l m b,hi-l,c⟩ ((xs.drop l).take (hi-l)):=by
 refine⟨by simp only[be,aS];omega,d.ne,fun hx=>?_⟩
 have o:l<hi:=by
  rcases cC l hi with h|h
  ·exact h
  ·rw[Nat.sub_eq_zero_of_le h]at hx;exact absurd List.take_zero hx
 obtain⟨a,k,p,q⟩:=d.row (fun e=>by rw[e]at j;simp at j;omega)
 refine⟨adr a (l*b),?_,by rw[AB];exact p,fun i v g=>?_⟩
 ·unfold aY
  rw[if_neg (by omega),k];rfl
 ·rw[Df]
  refine q _ v ?_;have e:xs=xs.take l++((xs.drop l).take (hi-l)++(xs.drop l).drop (hi-l)):=by rw[bT,bT]
  rw[e,cc,cc];have n:((xs.take l).flatMap f).length=l*b:=by rw[kY fun x=>(d.ne x).1,be];congr 1;omega
  rw[gw (by omega),n,Nat.add_sub_cancel_left,dF (aZ.1 g).1];exact g
structure OwnS{α:Type}(f:α→List Value)(sz:Nat)(t:TypeId)(M:Nat→Prop)(h:ad)(s:SliceV)(xs:List α):Prop where
 len:s.len=xs.length
 ne:∀x,(f x).length=sz∧0<sz
 cap:s.len≤s.cap
 blk:s.cap=0∨∃b rest,s.a=some ⟨b,0,none⟩∧M b∧h[b]? =some (.cells (xs.flatMap f++rest).toArray t (0,0))∧rest.length=(s.cap-s.len)*sz
theorem OwnS.nil{α:Type}{f:α→List Value}{b:Nat}{t:TypeId}{M:Nat→Prop}{h:ad}{a:Option Addr}(c:∀x,(f x).length=b∧0<b):OwnS f b t M h ⟨a,0,0⟩ []:=⟨rfl,c,av _,.inl rfl⟩
theorem OwnS.sl{α:Type}{f:α→List Value}{d:Nat}{t:TypeId}{M W:Nat→Prop}{h:ad}{s:SliceV}{xs:List α}(a:OwnS f d t M h s xs)(hm:∀b,M b→b<h.size→¬W b):Sl f d W h s xs:=by
 refine⟨a.len,a.ne,fun hx=>?_⟩
 rcases a.blk with k|⟨b,e,g,j,hc,_⟩
 ·have:=a.len;have:=a.cap
  have:xs.length=0:=by omega
  exact absurd (bp.1 this) hx
 ·exact⟨_,g,hm b j (bB hc),py hc fun i v c=>by
   rw[aR,dP,dF (aZ.1 c).1];exact c⟩
theorem OwnS.upd{α:Type}{f:α→List Value}{d:Nat}{t:TypeId}{M M':Nat→Prop}{h h':ad}{s:SliceV}{xs:List α}(c:OwnS f d t M h s xs)(k:Upd M' h h')(hm:∀b,M b→¬M' b):OwnS f d t M h' s xs:=by
 refine⟨c.len,c.ne,c.cap,c.blk.imp id fun⟨b,a,g,e,hc,i⟩=>⟨b,a,g,e,k.get hc (hm b e),i⟩⟩
theorem OwnS.more{α:Type}{f:α→List Value}{d:Nat}{t:TypeId}{M M':Nat→Prop}{h:ad}{s:SliceV}{xs:List α}(c:OwnS f d t M h s xs)(hm:∀b,M b→M' b):OwnS f d t M' h s xs:=by
 refine⟨c.len,c.ne,c.cap,c.blk.imp id fun⟨b,a,e,i,hc,g⟩=>⟨b,a,e,hm b i,hc,g⟩⟩
theorem OwnS.within{α:Type}{f:α→List Value}{d:Nat}{t:TypeId}{M:Nat→Prop}{h:ad}{s:SliceV}{xs:List α}(c:OwnS f d t M h s xs):OwnS f d t (fun b=>M b∧b<h.size) h s xs:=by
 refine⟨c.len,c.ne,c.cap,c.blk.imp id fun⟨b,a,e,i,hc,g⟩=>⟨b,a,e,⟨i,bB hc⟩,hc,g⟩⟩
theorem jI{b:Nat}{t:TypeId}:∀(vs:List Value) (h:ad) (i o:Nat) (c:List Value),h[b]? =some (.cells c.toArray t (0,0))→o+i+vs.length≤c.length→
  ir h ⟨b,o,none⟩ i vs=h.setIfInBounds b (.cells (c.take (o+i)++vs++c.drop (o+i+vs.length)).toArray t (0,0))
 | [],h,i,o,c,hb,hl=>by
  simp only[ir,List.append_nil,bN,j7,bT];apply Array.ext_getElem?;intro j;rw[eE];split
  ·rename_i e;subst e;rw[hb];simp[bB hb]
  ·rfl
 |v::vs,h,i,o,c,hb,hl=>by
  rw[ay]at hl;simp only[ir];rw[ci,HF hb];have a:(h.setIfInBounds b (.cells (c.toArray.setIfInBounds (o+i) v) t (0,0)))[b]? =some (.cells (c.set (o+i) v).toArray t (0,0)):=by
   rw[jx hb];simp
  rw[jI vs _ (i+1) o (c.set (o+i) v) a (by simp;omega)];have e:∀(x y:Obj),(h.setIfInBounds b x).setIfInBounds b y=h.setIfInBounds b y:=fun x y=>by
   apply Array.ext_getElem?;intro j;simp only[eE,Array.size_setIfInBounds];split<;>rfl
  rw[e];congr 3
  apply List.ext_getElem?;intro j;simp only[List.getElem?_append,aj,be,List.length_set,ay,List.getElem?_take,List.getElem?_set,List.getElem?_drop];grind
theorem mu(n:Nat)(z:List Value):(dw n z).length=n*z.length:=by
 unfold dw;induction n with
 |zero=>simp
 |succ n ih=>rw[List.replicate_succ,List.flatten_cons,aj,ih,nF];omega
theorem AppP.own{α:Type}{f:α→List Value}{g i:Nat}{t:TypeId}{M:Nat→Prop}{h:ad}{d:Option Addr}{sl m O:Nat}{xs ys:List α}{n z:List Value}{K:SliceV→ad→Prop}
  (o:OwnS f g t M h ⟨d,sl,m⟩ xs)(k:O=ys.length)(F:n=ys.flatMap f)(q:cx n=true)(Q:z.length=g)(S:0<i)(w:(xs.length+ys.length)*i≤140737488355328)(hM:M h.size)
  (J:∀s' h',OwnS f g t M h' s' (xs++ys)→Upd M h h'→K s' h'):AppP (some z) g i t d sl m O n h K:=by
 have a:sl=xs.length:=o.len;have p:∀x,(f x).length=g:=fun x=>(o.ne x).1
 subst k F;have y:=kY p ys;have k:=kY p xs;refine⟨fun v=>?_,fun u=>?_⟩
 ·rcases o.blk with D|⟨b,c,H,s,hc,B⟩
  ·have D:m=0:=D
   have G:ys.length=0:=by omega
   have L:xs.length=0:=by omega
   have U:=bp.1 G;have hx:=bp.1 L;subst U hx;refine⟨.inl rfl,rfl,?_⟩;have e:fL h d (sl*g) (([]:List α).flatMap f)=h:=by cases d<;>rfl
   rw[e];exact J _ _ ⟨by simp[a],o.ne,by simp only[bN];omega,.inl D⟩ (Upd.refl _ _)
  ·have H:d=some ⟨b,0,none⟩:=H
   have B:c.length=(m-sl)*g:=B;subst H;have N:sl+ys.length≤m:=v;have T:ys.length*g≤c.length:=by rw[B];exact Nat.mul_le_mul_right _ (Nat.le_sub_of_add_le (show ys.length+sl≤m by omega))
   have A:0+sl*g+(ys.flatMap f).length≤(xs.flatMap f++c).length:=by
    rw[aj,k,y,a];omega
   refine⟨.inr ⟨_,rfl,fun j V=>?_⟩,q,?_⟩
   ·rw[ci]
    refine i5 hc ?_;rw[cP];omega
   ·have e:fL h (some ⟨b,0,none⟩) (sl*g) (ys.flatMap f)=_:=jI (ys.flatMap f) h (sl*g) 0 _ hc A
    rw[e];have C:(xs.flatMap f++c).take (0+sl*g)=xs.flatMap f:=by
     rw[aR,a,←k,fJ (av _),List.take_length]
    have I:(xs.flatMap f++c).drop (0+sl*g+(ys.flatMap f).length)=c.drop (ys.length*g):=by
     rw[aR,a,←k,List.drop_append,lz (by omega),jM,y];congr 1;omega
    rw[C,I];refine J _ _ ⟨by simp[a],o.ne,v,.inr ⟨b,c.drop (ys.length*g),rfl,s,?_,?_⟩⟩ (Upd.set h _ s)
    ·rw[jx hc,cc]
    ·rw[aS,B]
     simp only;rw[show m-(sl+ys.length)=(m-sl)-ys.length by omega,Nat.sub_mul (m-sl)]
 ·have P:m*1≤m:=by omega
  refine⟨xs.flatMap f,z,?_,rfl,S,Go.growslice_fits u (by rw[a];exact w),fun R E=>?_⟩
  ·exact(o.sl (W:=No) fun _ _ _=>id).srow
  ·refine J _ _ ⟨by simp[a],o.ne,E,.inr ⟨h.size,dw (R-(sl+ys.length)) z,rfl,hM,?_,?_⟩⟩ (Upd.hnew M h _ _)
   ·rw[bI,cc]
   ·rw[mu,Q]
end Go.Lift
namespace Go.Lift
open Go
theorem bj{h:ad}{k:ad→Prop}(a:k h):At h k:=a
theorem jF{b o l m a:Nat}(h:m≠l):aY (some ⟨b,o,none⟩) l m a=some ⟨b,o+l*a,none⟩:=by simp[aY,h,ci]
theorem sub_zero{b m a:Nat}:aY (some ⟨b,0,none⟩) 0 m a=some ⟨b,0,none⟩:=by
 unfold aY;split
 ·rfl
 ·simp[ci]
theorem lF{h:ad}{b:Nat}{c:List Value}{t:TypeId}{o n:Nat}{vs:List Value}{a:Option Addr}{k:ad→Prop}(f:SRow h a n vs)(i:cx vs=true)(d:h[b]? =some (.cells c.toArray t (0,0)))
  (p:o+n≤c.length) (g:∀h',h'[b]? =some (.cells (c.take o++vs++c.drop (o+n)).toArray t (0,0))→Upd (· =b) h h'→k h'):
  ∃xs,SRow h a n xs∧tc h (some ⟨b,o,none⟩) 0 xs∧cx xs=true∧At (fL h (some ⟨b,o,none⟩) 0 xs) k:=by
 have m:=f.1;refine⟨vs,f,.inr ⟨_,rfl,fun j q=>?_⟩,i,bj ?_⟩
 ·rw[ci];exact i5 d (by rw[cP];omega)
 ·have e:fL h (some ⟨b,o,none⟩) 0 vs=_:=jI vs h 0 o c d (by omega)
  rw[e];refine g _ ?_ (Upd.set h _ rfl);rw[jx d,j7,m]
theorem lS{h:ad}{b:Nat}{c:List Value}{t:TypeId}{o n:Nat}{vs:List Value}(f:h[b]? =some (.cells c.toArray t (0,0))) (d:vs.length=n) (e:(c.drop o).take n=vs):SRow h (some ⟨b,o,none⟩) n vs:=by
 refine⟨d,.inr ⟨_,rfl,py f fun i v a=>?_⟩⟩
 rw[dP,←List.getElem?_drop];have:((c.drop o).take n)[i]? =some v:=by rw[e];exact a
 rw[List.getElem?_take]at this;split at this
 ·exact this
 ·cases this
section
variable {α:Type} {f:α→List Value} {sz:Nat}
theorem j4(a:∀x,(f x).length=sz∧0<sz)(xs:List α):(xs.flatMap f).length=xs.length*sz:=kY (fun x=>(a x).1) xs
theorem zN(xs:List α)(k:Nat):xs.flatMap f=(xs.take k).flatMap f++(xs.drop k).flatMap f:=by rw[←cc,bT]
end
theorem LO{α:Type}{A X B Z1 Z2:List α}{p q r:Nat}(b:A.length=p)(d:X.length=q)(c:Z1.length=r+q):
  (((A++Z1++Z2).take p++X++(A++Z1++Z2).drop (p+q)).take (p+q))++B++((A++Z1++Z2).take p++X++(A++Z1++Z2).drop (p+q)).drop (p+q+r)=A++(X++B)++Z2:=by
 have e1:(A++Z1++Z2).take p=A:=by rw[aM,cR b]
 have e2:(A++Z1++Z2).drop (p+q)=Z1.drop q++Z2:=by
  rw[aM,←cT,cD b,fK (by omega)]
 have a:(A++X).length=p+q:=by rw[aj];omega
 rw[e1,e2,cR a,←cT,cD a,fK (by rw[aS];omega),cT,lz (by omega),jM];simp only[aM]
theorem QC{α:Type}{A X B R:List α}{p q r:Nat}(b:A.length=p)(e:B.length=r)(d:q≤R.length):
  (((A++B++R).take (p+q)++B++(A++B++R).drop (p+q+r)).take p)++X++((A++B++R).take (p+q)++B++(A++B++R).drop (p+q+r)).drop (p+q)=A++(X++B)++R.drop q:=by
 have c:((A++B++R).take (p+q)).length=p+q:=by rw[be,aj,aj];omega
 have a:(A++B++R).drop (p+q+r)=R.drop q:=by
  rw[show p+q+r=(p+r)+q by omega,←cT,cD (by rw[aj];omega)]
 have e1:((A++B++R).take (p+q)++(B++(A++B++R).drop (p+q+r))).take p=A:=by
  rw[fJ (by omega),List.take_take,Nat.min_eq_left (by omega),aM,cR b]
 rw[aM ((A++B++R).take (p+q)),e1,cD c,a];simp only[aM]
theorem Q2{h:ad}{b:Nat}{c:List Value}{t m:TypeId}{d a sl f g:Nat}{xs:List Value}{z:Option (List Value)}{K:SliceV→ad→Prop}(i:h[b]? =some (.cells c.toArray t (0,0)))
  (p:sl*d+xs.length≤c.length) (o:sl+g≤f) (n:cx xs=true) (k:∀h',h'[b]? =some (.cells (c.take (sl*d)++xs++c.drop (sl*d+xs.length)).toArray t (0,0))→Upd (· =b) h h'→K ⟨some ⟨b,0,none⟩,sl+g,f⟩ h'):
  AppP z d a m (some ⟨b,0,none⟩) sl f g xs h K:=by
 refine⟨fun _=>⟨.inr ⟨_,rfl,fun j q=>?_⟩,n,?_⟩,fun h=>by omega⟩
 ·rw[ci];exact i5 i (by rw[cP];omega)
 ·have e:fL h (some ⟨b,0,none⟩) (sl*d) xs=_:=jI xs h (sl*d) 0 c i (by omega)
  rw[e];refine k _ ?_ (Upd.set h _ rfl);rw[jx i,aR]
theorem Gl{h:ad}{b:Nat}{c:List Value}{t:TypeId}{o:Nat}{vs:List Value}{k:ad→Prop}(a:h[b]? =some (.cells c.toArray t (0,0)))
  (f:o+vs.length≤c.length) (d:∀h',h'[b]? =some (.cells (c.take o++vs++c.drop (o+vs.length)).toArray t (0,0))→Upd (· =b) h h'→k h'):
  tc h (some ⟨b,o,none⟩) 0 vs∧At (fL h (some ⟨b,o,none⟩) 0 vs) k:=by
 refine⟨.inr ⟨_,rfl,fun j g=>?_⟩,bj ?_⟩
 ·rw[ci];exact i5 a (by rw[cP];omega)
 ·have e:fL h (some ⟨b,o,none⟩) 0 vs=_:=jI vs h 0 o c a (by omega)
  rw[e];refine d _ ?_ (Upd.set h _ rfl);rw[jx a,j7]
end Go.Lift
namespace Go.Lift
open Go
structure KeyE(κ:Type) where
 enc:κ→Value
 ck:CK
 den:∀x,∃d:ck.den,enc x=ck.enc d
 same:∀x y,gk (enc x) (enc y)=true↔x=y
def abt(k:IntKind):KeyE Int:=⟨fun x=>.int k x,.int k,fun x=>⟨x,rfl⟩,fun x y=>by simp[gk]⟩
section
variable {κ β:Type}
structure Ent(κ β:Type) where
 k:κ
 v:β
 n:Nat
variable (E:KeyE κ) (g:β→Value)
def Tn(x:Ent κ β):MapEntry:={key:=E.enc x.k,val:=g x.v,born:=x.n}
structure MapE(h:ad)(r:Nat)(ms:List (Ent κ β))(clock:Nat):Prop where
 here:h[r]? =some (.map (ms.map (Tn E g)).toArray clock)
 keys:(ms.map (·.k)).Nodup
 nums:(ms.map (·.n)).Nodup
 old:∀x∈ms,x.n<clock
def plain(ms:List (Ent κ β)):List (κ×β):=ms.map fun x=>(x.k,x.v)
def MapAt(h:ad)(r:Nat)(m:List (κ×β)):Prop:=∃ms clock,MapE E g h r ms clock∧plain ms=m
variable {E g}
theorem MapE.keysOf{h:ad}{r:Nat}{ms:List (Ent κ β)}{a:Nat}(_:MapE E g h r ms a):keysOf E.ck (ms.map (Tn E g)).toArray.toList:=by
 intro e b;simp only[fy]at b;obtain⟨x,_,rfl⟩:=b;exact E.den x.k
theorem MapAt.isMap{h:ad}{r:Nat}{m:List (κ×β)}(hm:MapAt E g h r m):zR E.ck h r:=by
 obtain⟨ms,a,hm,_⟩:=hm;exact⟨_,_,hm.here,hm.keysOf⟩
theorem MapAt.len{h:ad}{r:Nat}{m:List (κ×β)}(hm:MapAt E g h r m):Im h (some r) m.length:=by
 obtain⟨ms,a,hm,rfl⟩:=hm;exact⟨_,_,hm.here,by simp[plain]⟩
theorem MapAt.nodup{h:ad}{r:Nat}{m:List (κ×β)}(hm:MapAt E g h r m):(m.map (·.1)).Nodup:=by
 obtain⟨ms,a,hm,rfl⟩:=hm;have:=hm.keys;unfold plain;rw[ly];exact this
theorem MapAt.lt{h:ad}{r:Nat}{m:List (κ×β)}(hm:MapAt E g h r m):r<h.size:=by
 obtain⟨ms,a,hm,_⟩:=hm;exact bB hm.here
theorem MapAt.upd{h h':ad}{r:Nat}{m:List (κ×β)}{M:Nat→Prop}(hm:MapAt E g h r m)(k:Upd M h h')(b:¬M r):MapAt E g h' r m:=by
 obtain⟨ms,a,hm,e⟩:=hm;exact⟨ms,a,⟨k.get hm.here b,hm.keys,hm.nums,hm.old⟩,e⟩
theorem MapAt.new(h:ad):MapAt E g (h.push (.map #[] 0)) h.size []:=
 ⟨[],0,⟨mF h _,p5,p5,fun _ h=>by cases h⟩,rfl⟩
variable [DecidableEq κ]
def dM:List (κ×β)→κ→Option β
 | [],_=>none
 |(k',v)::l,k=>if k=k' then some v else dM l k
def pP:List (κ×β)→κ→β→List (κ×β)
 | [],k,v=> [(k,v)]
 |(k',u)::l,k,v=>if k=k' then(k,v)::l else(k',u)::pP l k v
theorem T5(l:List (κ×β))(k:κ)(v:β)(j:κ):dM (pP l k v) j=if j=k then some v else dM l j:=by
 induction l with
 |nil=>simp[pP,dM]
 |cons p l ih=>
  obtain⟨k',u⟩:=p;simp only[pP];split
  ·rename_i e;subst e;simp only[dM];split<;>rfl
  ·rename_i e
   simp only[dM,ih];by_cases a:j=k'
   ·subst a;simp[Ne.symm e]
   ·simp[a]
theorem KZ{l:List (κ×β)}{k:κ}{v:β}(a:(l.map (·.1)).Nodup):dM l k=some v↔(k,v)∈l:=by
 induction l with
 |nil=>simp[dM]
 |cons p l ih=>
  obtain⟨k',u⟩:=p;simp only[cN,lN]at a;simp only[dM,ar,Prod.mk.injEq];by_cases b:k=k'
  ·subst b
   simp only[if_true,bq.injEq,true_and];constructor
   ·exact fun e=>.inl e.symm
   ·rintro(e|e)
    ·exact e.symm
    ·exact absurd (fy.2 ⟨_,e,rfl⟩) a.1
  ·simp[b,ih a.2]
theorem qD{l:List (κ×β)}{k:κ}:dM l k=none↔k∉l.map (·.1):=by
 induction l with
 |nil=>simp[dM]
 |cons p l ih=>
  obtain⟨k',u⟩:=p;simp only[dM,cN,ar,not_or];by_cases a:k=k'
  ·simp[a]
  ·simp[a,ih]
theorem KY(l:List (κ×β))(k:κ)(v:β):(pP l k v).map (·.1)=if k∈l.map (·.1)then l.map (·.1)else l.map (·.1)++ [k]:=by
 induction l with
 |nil=>simp[pP]
 |cons p l ih=>
  obtain⟨k',u⟩:=p;simp only[pP];by_cases a:k=k'
  ·simp[a]
  ·simp only[a,if_false,cN,ih,ar,false_or]
   split<;>simp
theorem Q0{l:List (κ×β)}{k:κ}{v:β}(h:(l.map (·.1)).Nodup):((pP l k v).map (·.1)).Nodup:=by
 rw[KY];split
 ·exact h
 ·rename_i hn
  rw[List.nodup_append];refine⟨h,by simp,?_⟩
  intro a d b c;simp only[aO]at c;subst c;intro e;subst e;exact hn d
theorem Lk(x y:κ):gk (E.enc x) (E.enc y)=decide (x=y):=by
 by_cases h:x=y
 ·rw[decide_eq_true h];exact(E.same x y).2 h
 ·rw[decide_eq_false h];exact Bool.eq_false_iff.2 fun e=>h ((E.same x y).1 e)
theorem VX(k:κ)(ms:List (Ent κ β)):HN (E.enc k) (ms.map (Tn E g))=(dM (plain ms) k).map g:=by
 induction ms with
 |nil=>rfl
 |cons x ms ih=>
  simp only[cN,HN,Tn,plain,dM];rw[Lk];by_cases h:k=x.k
  ·simp[h]
  ·simp only[h,decide_false,dy,if_false];exact ih
theorem MapAt.get{h:ad}{r:Nat}{m:List (κ×β)}(hm:MapAt E g h r m)(k:κ)(z:β):xT E.ck (g z) h (some r) (E.enc k) (g ((dM m k).getD z)) (dM m k).isSome:=by
 obtain⟨ms,a,hm,rfl⟩:=hm;refine⟨_,_,hm.here,hm.keysOf,?_⟩;rw[VX];cases dM (plain ms) k<;>exact⟨rfl,rfl⟩
def zJ(k:κ)(v:β)(a:Nat):List (Ent κ β)→List (Ent κ β)×Nat
 | []=>([⟨k,v,a⟩],a+1)
 |x::l=>if k=x.k then(⟨k,v,x.n⟩::l,a)else(x::(zJ k v a l).1,(zJ k v a l).2)
theorem Xv(k:κ)(v:β)(a:Nat)(ms:List (Ent κ β)):Lx (E.enc k) (g v) a (ms.map (Tn E g))=((zJ k v a ms).1.map (Tn E g),(zJ k v a ms).2):=by
 induction ms with
 |nil=>rfl
 |cons x ms ih=>
  simp only[cN,Lx,zJ];rw[ih,show(Tn E g x).key=E.enc x.k from rfl,Lk]
  by_cases h:k=x.k
  ·simp[h,Tn]
  ·simp[h]
theorem HZ(k:κ)(v:β)(a:Nat)(ms:List (Ent κ β)):plain (zJ k v a ms).1=pP (plain ms) k v:=by
 induction ms with
 |nil=>rfl
 |cons x ms ih=>
  simp only[zJ,plain,cN,pP];by_cases h:k=x.k
  ·simp[h]
  ·simp only[h,if_false,cN,List.cons.injEq,true_and];exact ih
theorem Za(k:κ)(v:β)(a:Nat)(ms:List (Ent κ β)):(zJ k v a ms).1.map (·.n)=(if k∈ms.map (·.k)then ms.map (·.n)else ms.map (·.n)++ [a])∧(zJ k v a ms).2=(if k∈ms.map (·.k)then a else a+1):=by
 induction ms with
 |nil=>exact⟨rfl,rfl⟩
 |cons x ms ih=>
  simp only[zJ];by_cases h:k=x.k
  ·simp[h]
  ·simp only[h,if_false,cN,ih.1,ih.2,ar,false_or,and_true]
   split<;>simp
theorem XG{h:ad}{r:Nat}{ms:List (Ent κ β)}{a:Nat}(hm:MapE E g h r ms a)(k:κ)(v:β):m9 h r (E.enc k) (g v)=h.setIfInBounds r (.map ((zJ k v a ms).1.map (Tn E g)).toArray (zJ k v a ms).2):=by
 unfold m9;rw[hm.here];simp only;rw[Xv]
theorem MapE.put{h:ad}{r:Nat}{ms:List (Ent κ β)}{c:Nat}(hm:MapE E g h r ms c)(k:κ)(v:β):MapE E g (m9 h r (E.enc k) (g v)) r (zJ k v c ms).1 (zJ k v c ms).2:=by
 rw[XG hm];have m:(zJ k v c ms).1.map (·.k)=(plain (zJ k v c ms).1).map (·.1):=by unfold plain;rw[ly];rfl
 have i:(plain ms).map (·.1)=ms.map (·.k):=by unfold plain;rw[ly];rfl
 have f:=Za k v c ms;have d:∀y∈ms.map (·.n),y<c:=fun y n=>by
  obtain⟨x,hx,rfl⟩:=fy.1 n;exact hm.old x hx
 refine⟨jx hm.here,?_,?_,?_⟩
 ·rw[m,HZ];exact Q0 (by rw[i];exact hm.keys)
 ·rw[f.1]
  split
  ·exact hm.nums
  ·rw[List.nodup_append]
   refine⟨hm.nums,by simp,?_⟩
   intro a j b o;simp only[aO]at o;have:=d a j;omega
 ·intro x hx
  have hx:x.n∈(zJ k v c ms).1.map (·.n):=fy.2 ⟨x,hx,rfl⟩
  rw[f.1]at hx;rw[f.2];split
  ·rename_i hk;rw[if_pos hk]at hx;exact d _ hx
  ·rename_i hk
   rw[if_neg hk]at hx;rcases List.mem_append.1 hx with e|e
   ·have:=d _ e;omega
   ·simp only[aO]at e;omega
theorem MapAt.put{h:ad}{r:Nat}{m:List (κ×β)}(hm:MapAt E g h r m)(k:κ)(v:β):MapAt E g (m9 h r (E.enc k) (g v)) r (pP m k v):=by
 obtain⟨ms,a,hm,rfl⟩:=hm;exact⟨_,_,hm.put k v,HZ ..⟩
theorem ww{M:Nat→Prop}(h:ad){r:Nat}(k v:Value)(a:M r):Upd M h (m9 h r k v):=by
 unfold m9;split
 ·exact Upd.set h _ a
 ·exact Upd.refl _ _
theorem V4(k:κ){ms:List (Ent κ β)}(a:(ms.map (·.k)).Nodup):H1 (E.enc k) (ms.map (Tn E g))=(ms.filter fun x=>x.k≠k).map (Tn E g):=by
 induction ms with
 |nil=>rfl
 |cons x ms ih=>
  simp only[cN,lN]at a;simp only[cN,H1,List.filter_cons];rw[show(Tn E g x).key=E.enc x.k from rfl,Lk]
  by_cases h:k=x.k
  ·subst h
   simp only[decide_true,if_true,ne_eq,not_true_eq_false,decide_false,dy,if_false];congr 1
   rw[kr.2];intro y b;simp only[decide_not,Bool.not_eq_eq_eq_not,Bool.not_true,decide_eq_false_iff_not];intro e;exact a.1 (e▸fy.2 ⟨y,b,rfl⟩)
  ·simp only[h,decide_false,dy,if_false,ne_eq,Ne.symm h,not_false_eq_true,decide_true,if_true,cN]
   rw[ih a.2]
theorem MapE.drop{h:ad}{r:Nat}{ms:List (Ent κ β)}{a:Nat}(hm:MapE E g h r ms a)(k:κ):MapE E g (Hn h r (E.enc k)) r (ms.filter fun x=>x.k≠k) a:=by
 have e:Hn h r (E.enc k)=h.setIfInBounds r (.map ((ms.filter fun x=>x.k≠k).map (Tn E g)).toArray a):=by
  unfold Hn;rw[hm.here];simp only;rw[V4 k hm.keys]
 rw[e];refine⟨jx hm.here,hm.keys.sublist ((kq).map _),hm.nums.sublist ((kq).map _),fun x hx=>hm.old x ((List.mem_filter.1 hx).1)⟩
end
section
variable {κ β:Type} (E:KeyE κ) (g:β→Value)
def IterSt(h:ad)(i r:Nat)(m a:List (κ×β)):Prop:=
 ∃ms clock since seen last,MapE E g h r ms clock∧plain ms=m∧h[i]? =some (.mapIter (some r) since seen last)∧a=plain (ms.filter fun x=> !seen.contains x.n)∧∀x∈ms,x.n<since∧x.n<last
variable {E g}
theorem IterSt.at{h:ad}{i r:Nat}{m b:List (κ×β)}(hi:IterSt E g h i r m b):MapAt E g h r m:=by
 obtain⟨ms,a,c,d,last,hm,e,_⟩:=hi;exact⟨ms,a,hm,e⟩
theorem IterSt.upd{h h':ad}{i r:Nat}{m a:List (κ×β)}{M:Nat→Prop}(hi:IterSt E g h i r m a)(k:Upd M h h')(j:¬M i)(f:¬M r):IterSt E g h' i r m a:=by
 obtain⟨ms,b,c,d,last,hm,n,p,o,e⟩:=hi;exact⟨ms,b,c,d,last,⟨k.get hm.here f,hm.keys,hm.nums,hm.old⟩,n,k.get p j,o,e⟩
theorem IterSt.ne{h:ad}{i r:Nat}{m a:List (κ×β)}(hi:IterSt E g h i r m a):i≠r:=by
 obtain⟨ms,b,c,d,last,hm,k,f,n,j⟩:=hi;intro e;subst e;rw[hm.here]at f;cases f
theorem IterSt.nodup{h:ad}{i r:Nat}{m a:List (κ×β)}(hi:IterSt E g h i r m a):(a.map (·.1)).Nodup:=by
 obtain⟨ms,b,c,d,last,hm,j,k,e,f⟩:=hi;rw[e];unfold plain;rw[ly];exact hm.keys.sublist ((kq).map _)
theorem MapAt.range{h:ad}{r:Nat}{m:List (κ×β)}(hm:MapAt E g h r m):∃a,(∃es,h[r]? =some (.map es a))∧IterSt E g (h.push (.mapIter (some r) a #[] a)) h.size r m m:=by
 obtain⟨ms,a,hm,b⟩:=hm;refine⟨a,⟨_,hm.here⟩,ms,a,a,#[],a,⟨(Upd.push No h _).get0 hm.here,hm.keys,hm.nums,hm.old⟩,b,mF h _,?_,fun x hx=>⟨hm.old x hx,hm.old x hx⟩⟩
 rw[show(fun x:Ent κ β=> !(#[]:Array Nat).contains x.n)=fun _=>true from funext fun x=>by simp,kr.2 fun _ _=>rfl,b]
variable [DecidableEq κ]
end
end Go.Lift
namespace Go.Lift
open Go
end Go.Lift
