/- A part of the proof that the named laws of this program answer true, whatever the input. -/
import Derived.Test.YtcpiahjlddmfiaaGreatLift2
open Array renaming getElem?_setIfInBounds→du,getElem?_eq_some_iff→bD
open Bool renaming false_eq_true→cB
open List renaming flatMap_cons→aD,length_append→ae,length_cons→aI,getElem?_append_left→d9,getElem?_append_right→fA,getElem?_eq_some_iff→bj,length_take→aY,length_drop→aH,take_append_drop→bC,flatMap_append→bo,length_eq_zero_iff→bV,getElem?_toArray→fF,length_nil→cQ,size_toArray→cx,take_append_of_le_length→df,drop_eq_nil_of_le→gN,nil_append→mc,append_assoc→aj,take_left'→cp,drop_drop→cz,drop_left'→bL,drop_append_of_le_length→eL,mem_map→cn,map_map→jc,nodup_nil→kC,map_cons→bN,nodup_cons→g5,mem_cons→ao,mem_singleton→ay,filter_sublist→gb
open Nat renaming lt_or_ge→cj,zero_add→aw,le_refl→ar,not_lt→gM,succ_mul→jb,add_zero→eG
open Option renaming some→bv
namespace Go.Lift
open Go
attribute [simp] aA ak
theorem aU{p:Prop}[Decidable p]{t e:Prop}(c:p→t)(a:¬p→e):CondP (decide p) t e:=CondP.intro (fun h=>c (of_decide_eq_true h)) (fun h=>a (of_decide_eq_false h))
theorem HC.mono{P:Program}{f:FuncId}{args:List Value}{ks:List Kind}{K d:pR ks→ac→Prop}{h:ac}(hc:HC P f args ks K h)(i:∀t h',K t h'→d t h'):HC P f args ks d h:=by
 refine⟨fun w n=>?_⟩
 rcases hc.run w n with⟨a,c⟩|⟨v,g,a,c,t,m,o⟩
 ·exact .inl ⟨a,c.mono fun e g ⟨j,t,k,p⟩=>⟨j,t,k,i t _ p⟩⟩
 ·exact .inr ⟨v,g,a,c,t,m,i t _ o⟩
theorem Join.intro{T:Type}{a:T→ac→Prop}{k:(T→ac→Prop)→Prop}(J:T→ac→Prop)(d:∀R:T→ac→Prop,(∀t h,J t h→R t h)→k R)(c:∀t h,J t h→a t h):Join a k:=⟨d a c⟩
theorem Join.plain{T:Type}{a:T→ac→Prop}{k:(T→ac→Prop)→Prop}(h:k a):Join a k:=⟨h⟩
theorem LoopP.intro{T:Type}{F:(T→ac→Prop)→T→ac→Prop}{t:T}{h:ac}(Inv:T→ac→Prop)(m:T→ac→Nat)(d:Inv t h)
  (step:∀I:T→ac→Prop,∀t h,Inv t h→(∀t' h',Inv t' h'→m t' h'<m t h→I t' h')→F I t h):LoopP F t h:=by
 refine⟨fun I e=>?_⟩
 have key:∀n t h,m t h=n→Inv t h→I t h:=by
  intro n;induction n using Nat.strongRecOn with
  |_ n ih=>exact fun t h f hi=>e t h (step I t h hi fun t' h' a c=>ih _ (f▸c) t' h' rfl a)
 exact key _ t h rfl d
theorem LoopP.ghost{T G:Type}{F:(T→ac→Prop)→T→ac→Prop}{t:T}{h:ac}(Inv:G→T→ac→Prop)(m:G→Nat)(g:G)(f:Inv g t h)
  (step:∀I:T→ac→Prop,∀g t h,Inv g t h→(∀a t' h',Inv a t' h'→m a<m g→I t' h')→F I t h):LoopP F t h:=by
 refine⟨fun I i=>?_⟩
 have key:∀n g t h,m g=n→Inv g t h→I t h:=by
  intro n;induction n using Nat.strongRecOn with
  |_ n ih=>exact fun g t h e hi=>i t h (step I g t h hi fun a t' h' c d=>ih _ (e▸d) a t' h' rfl c)
 exact key _ g t h rfl f
theorem HV.mk'{P:Program}{f:FuncId}{first cap:Array Value}{args:List Value}{ks:List Kind}{K:pR ks→ac→Prop}{h:ac}(hc:HC P f (first.toList++args++cap.toList) ks K h):HV P (.func (.func f) first cap) args ks K h:=
 ⟨.inl ⟨f,first,cap,rfl,hc⟩⟩
@[simp] theorem bp(b o n:Nat):adr ⟨b,o,none⟩ n=⟨b,o+n,none⟩:=by
 cases n<;>rfl
@[simp] theorem u9(a:Addr)(n:Nat):(adr a n).block=a.block:=by
 cases n<;>rfl
theorem bS(h:ac):aZ h=⟨h.size,0,none⟩:=rfl
theorem Bx{h:ac}{a:Addr}{v:Value}(c:bc h a=some v):a.block<h.size:=by
 unfold bc at c;rcases cj a.block h.size with d|d
 ·exact d
 ·rw[Array.getElem?_eq_none d]at c;cases c
theorem aE{h:ac}{b i:Nat}{c:Array Value}{e:TypeId}{fr:Nat×Nat}(a:h[b]? =some (.cells c e fr)):bc h ⟨b,i,none⟩=c[i]?:=by
 unfold bc;rw[a];rfl
theorem CS{h h':ac}{c:Array Value}{e:TypeId}{fr:Nat×Nat}(a:h'[h.size]? =some (.cells c e fr)) (i:Nat):bc h' (adr (aZ h) i)=c[i]?:=by
 rw[bS,bp,aE a,aw]
theorem CR{h h':ac}{a:Addr}(c:h'[a.block]? =h[a.block]?):bc h' a=bc h a:=by
 unfold bc;rw[c]
theorem xE{h:ac}{b i:Nat}{c:Array Value}{e:TypeId}{fr:Nat×Nat}{v:Value}(d:h[b]? =some (.cells c e fr)):
  hset h ⟨b,i,none⟩ v=h.setIfInBounds b (.cells (c.setIfInBounds i v) e fr):=by
 unfold hset;apply Array.ext_getElem?;intro j;rw[Array.getElem?_modify,du];by_cases f:b=j
 ·subst f
  have a:=(bD.1 d).1;simp only[d,if_true,a,Option.map_some];rfl
 ·simp[f]
theorem ge{h:ac}{b i:Nat}{c:Array Value}{e:TypeId}(a:h[b]? =some (.cells c e (0,0))) (hi:i<c.size):Wr h ⟨b,i,none⟩:=by
 refine⟨⟨c[i],by rw[aE a,Array.getElem?_eq_getElem hi]⟩,?_⟩
 unfold wL;rw[a];simp
structure Upd(M:Nat→Prop)(h h':ac):Prop where
 size:h.size≤h'.size
 same:∀b,b<h.size→¬M b→h'[b]? =h[b]?
abbrev No:Nat→Prop:=fun _=>False
theorem Upd.refl(M:Nat→Prop)(h:ac):Upd M h h:=⟨ar _,fun _ _ _=>rfl⟩
theorem Upd.trans{M M':Nat→Prop}{h e d:ac}(k:Upd M h e)(l:Upd M' e d)(g:∀b,M' b→M b∨h.size≤b):Upd M h d:=
 ⟨Nat.le_trans k.size l.size,fun b c f=>by
  rw[l.same b (Nat.lt_of_lt_of_le c k.size) (fun hm=>(g b hm).elim f fun a=>absurd c (gM.2 a)),k.same b c f]⟩
theorem Upd.tr{M:Nat→Prop}{h c a:ac}(k:Upd M h c)(l:Upd M c a):Upd M h a:=k.trans l fun _ h=>.inl h
theorem Upd.mono{M M':Nat→Prop}{h h':ac}(k:Upd M h h')(d:∀b,M b→M' b∨h.size≤b):Upd M' h h':=
 ⟨k.size,fun b c e=>k.same b c fun hm=>(d b hm).elim e fun a=>absurd c (gM.2 a)⟩
theorem Upd.wide{M:Nat→Prop}{h h':ac}(k:Upd No h h'):Upd M h h':=k.mono fun _ h=>h.elim
theorem Upd.get{M:Nat→Prop}{h h':ac}(k:Upd M h h'){b:Nat}{o:Obj}(a:h[b]? =some o) (c:¬M b):h'[b]? =some o:=by
 rw[k.same b (bD.1 a).1 c,a]
theorem Upd.get0{h h':ac}(k:Upd No h h'){b:Nat}{o:Obj}(a:h[b]? =some o):h'[b]? =some o:=k.get a id
theorem Upd.cell{M:Nat→Prop}{h h':ac}(k:Upd M h h'){a:Addr}{v:Value}(c:bc h a=some v)(d:¬M a.block):bc h' a=some v:=by
 rw[CR (k.same _ (Bx c) d),c]
theorem Upd.push(M:Nat→Prop)(h:ac)(o:Obj):Upd M h (h.push o):=⟨by simp,fun b a _=>by rw[Array.getElem?_push];simp[Nat.ne_of_lt a]⟩
theorem Upd.set{M:Nat→Prop}(h:ac){b:Nat}(o:Obj)(a:M b):Upd M h (h.setIfInBounds b o):=⟨by simp,fun c _ d=>by
 rw[du]
 have:b≠c:=fun e=>d (e▸a)
 simp[this]⟩
theorem Upd.hset{M:Nat→Prop}(h:ac){a:Addr}(v:Value)(d:M a.block):Upd M h (hset h a v):=⟨by simp[Go.Lift.hset],fun c _ f=>by
 unfold Go.Lift.hset
 rw[Array.getElem?_modify]
 have:a.block≠c:=fun e=>f (e▸d)
 simp[this]⟩
theorem Upd.hnew(M:Nat→Prop)(h:ac)(cs:List Value)(t:TypeId):Upd M h (hnew h cs t):=Upd.push M h _
theorem bh(h:ac)(cs:List Value)(t:TypeId):(hnew h cs t)[h.size]? =some (.cells cs.toArray t (0,0)):=by
 unfold hnew;simp
theorem qm(h:ac)(o:Obj):(h.push o)[h.size]? =some o:=by simp
theorem eO(h:ac)(cs:List Value)(t:TypeId):(hnew h cs t).size=h.size+1:=by
 unfold hnew;simp
theorem gH{h:ac}{b:Nat}{o c:Obj}(a:h[b]? =some c):(h.setIfInBounds b o)[b]? =some o:=by
 rw[du];simp[(bD.1 a).1]
theorem bG{h:ac}{b:Nat}{o:Obj}(a:h[b]? =some o):b<h.size:=(bD.1 a).1
theorem Row.upd{M:Nat→Prop}{h h':ac}{a:Addr}{vs:List Value}(d:Row h a vs)(k:Upd M h h')(e:¬M a.block):Row h' a vs:=fun i v c=>k.cell (d i v c) (by rw[u9];exact e)
theorem SRow.upd{M:Nat→Prop}{h h':ac}{a:Option Addr}{n:Nat}{vs:List Value}(c:SRow h a n vs)(k:Upd M h h')(i:vs≠[]→∀b,a=some b→¬M b.block):SRow h' a n vs:=by
 obtain⟨g,f⟩:=c;refine⟨g,?_⟩;rcases f with rfl|⟨b,e,c⟩
 ·exact .inl rfl
 ·by_cases d:vs= []
  ·exact .inl d
  ·exact .inr ⟨b,e,c.upd k (i d b e)⟩
theorem nu{h:ac}{b o:Nat}{c:Array Value}{e:TypeId}{fr:Nat×Nat}(d:h[b]? =some (.cells c e fr)) {vs:List Value} (a:∀i v,vs[i]? =some v→c[o+i]? =some v):Row h ⟨b,o,none⟩ vs:=fun i v hi=>by
 rw[bp,aE d];exact a i v hi
structure Sl{α:Type}(f:α→List Value)(sz:Nat)(W:Nat→Prop)(h:ac)(s:SliceV)(xs:List α):Prop where
 len:s.len=xs.length
 ne:∀x,(f x).length=sz∧0<sz
 row:xs≠[]→∃a,s.a=some a∧¬W a.block∧Row h a (xs.flatMap f)
theorem Sl.nil{α:Type}{f:α→List Value}{d:Nat}{W:Nat→Prop}{h:ac}{a:Option Addr}{c:Nat}(e:∀x,(f x).length=d∧0<d):Sl f d W h ⟨a,0,c⟩ []:=⟨rfl,e,fun h=>absurd rfl h⟩
theorem Sl.lt{α:Type}{f:α→List Value}{i:Nat}{W:Nat→Prop}{h:ac}{s:SliceV}{xs:List α}(e:Sl f i W h s xs)(hx:xs≠[]){a:Addr}(g:s.a=some a):a.block<h.size:=by
 obtain⟨a',c,k,j⟩:=e.row hx;rw[g]at c;cases c;cases xs with
 |nil=>exact absurd rfl hx
 |cons x xs=>
  have d:=e.ne x;cases hf:f x with
  |nil=>rw[hf]at d;simp at d;omega
  |cons v vs=>
   have:=j 0 v (by rw[aD,hf];rfl);have:=Bx this;rw[u9]at this;exact this
theorem Sl.upd{α:Type}{f:α→List Value}{g:Nat}{W M:Nat→Prop}{h h':ac}{s:SliceV}{xs:List α}(c:Sl f g W h s xs)(k:Upd M h h')(hm:∀b,M b→W b∨h.size≤b):Sl f g W h' s xs:=by
 refine⟨c.len,c.ne,fun hx=>?_⟩
 obtain⟨a,e,i,m⟩:=c.row hx;exact⟨a,e,i,m.upd k fun j=>(hm _ j).elim i fun d=>absurd (c.lt hx e) (gM.2 d)⟩
theorem Sl.less{α:Type}{f:α→List Value}{g:Nat}{W W':Nat→Prop}{h:ac}{s:SliceV}{xs:List α}(c:Sl f g W h s xs)(hm:∀b,W' b→W b∨h.size≤b):Sl f g W' h s xs:=
 ⟨c.len,c.ne,fun hx=>let⟨a,e,k,j⟩:=c.row hx;⟨a,e,fun i=>(hm _ i).elim k fun d=>absurd (c.lt hx e) (gM.2 d),j⟩⟩
theorem ir{α:Type}{f:α→List Value}{c:Nat}(a:∀x,(f x).length=c):∀xs:List α,(xs.flatMap f).length=xs.length*c
 | []=>by simp
 |x::xs=>by rw[aD,ae,a,ir a xs,aI,jb];omega
theorem qw{α:Type}{f:α→List Value}{c:Nat}(a:∀x,(f x).length=c):∀(xs:List α) (i j:Nat) (x:α),xs[i]? =some x→j<c→(xs.flatMap f)[i*c+j]? =(f x)[j]?
 | [],i,j,x,h,_=>by simp at h
 |y::xs,0,j,x,h,hj=>by
  simp only[List.getElem?_cons_zero,bv.injEq]at h;subst h;rw[aD,Nat.zero_mul,aw,d9 (by rw[a];exact hj)]
 |y::xs,i+1,j,x,h,hj=>by
  rw[List.getElem?_cons_succ]at h;rw[aD,fA (by rw[a,jb];omega),a,show(i+1)*c+j-c=i*c+j by rw[jb];omega]
  exact qw a xs i j x h hj
theorem Sl.at{α:Type}{f:α→List Value}{c:Nat}{W:Nat→Prop}{h:ac}{s:SliceV}{xs:List α}(d:Sl f c W h s xs){i:Nat}{x:α}(hi:xs[i]? =some x):
  ∃a,s.a=some a∧¬W a.block∧∀j v,(f x)[j]? =some v→bc h (adr (adr a (i*c)) j)=some v:=by
 obtain⟨a,k,o,n⟩:=d.row (fun e=>by subst e;simp at hi)
 refine⟨a,k,o,fun j v g=>?_⟩
 have m:j<c:=by rw[←(d.ne x).1];exact(bj.1 g).1
 rw[tL];exact n _ v (by rw[qw (fun x=>(d.ne x).1) xs i j x hi m];exact g)
theorem Sl.at0{α:Type}{g:α→Value}{W:Nat→Prop}{h:ac}{s:SliceV}{xs:List α}(e:Sl (fun x=> [g x]) 1 W h s xs){i:Nat}{x:α}(hi:xs[i]? =some x):
  ∃a,s.a=some a∧¬W a.block∧bc h (adr a (i*1))=some (g x):=by
 obtain⟨a,c,f,d⟩:=e.at hi;exact⟨a,c,f,d 0 _ rfl⟩
theorem Sl.srow{α:Type}{f:α→List Value}{d:Nat}{W:Nat→Prop}{h:ac}{s:SliceV}{xs:List α}(c:Sl f d W h s xs):SRow h s.a (s.len*d) (xs.flatMap f):=by
 refine⟨?_,?_⟩
 ·rw[c.len,ir fun x=>(c.ne x).1]
 ·by_cases hx:xs= []
  ·subst hx;exact .inl rfl
  ·obtain⟨a,g,_,e⟩:=c.row hx
   exact .inr ⟨a,g,e⟩
theorem Sl.sub{α:Type}{f:α→List Value}{d:Nat}{W:Nat→Prop}{h:ac}{s:SliceV}{xs:List α}(g:Sl f d W h s xs){l hi m c:Nat}(w:l≤hi)(k:hi≤xs.length)(u:hi≤m):
  Sl f d W h ⟨aF s.a l m d,hi-l,c⟩ ((xs.drop l).take (hi-l)):=by
 refine⟨by simp only[aY,aH];omega,g.ne,fun hx=>?_⟩
 have p:l<hi:=by
  rcases cj l hi with h|h
  ·exact h
  ·rw[Nat.sub_eq_zero_of_le h]at hx;exact absurd List.take_zero hx
 obtain⟨a,n,t,q⟩:=g.row (fun e=>by rw[e]at k;simp at k;omega)
 refine⟨adr a (l*d),?_,by rw[u9];exact t,fun i v j=>?_⟩
 ·unfold aF
  rw[if_neg (by omega),n];rfl
 ·rw[tL]
  refine q _ v ?_;have e:xs=xs.take l++((xs.drop l).take (hi-l)++(xs.drop l).drop (hi-l)):=by rw[bC,bC]
  rw[e,bo,bo];have o:((xs.take l).flatMap f).length=l*d:=by rw[ir fun x=>(g.ne x).1,aY];congr 1;omega
  rw[fA (by omega),o,Nat.add_sub_cancel_left,d9 (bj.1 j).1];exact j
structure OwnS{α:Type}(f:α→List Value)(sz:Nat)(t:TypeId)(M:Nat→Prop)(h:ac)(s:SliceV)(xs:List α):Prop where
 len:s.len=xs.length
 ne:∀x,(f x).length=sz∧0<sz
 cap:s.len≤s.cap
 blk:s.cap=0∨∃b rest,s.a=some ⟨b,0,none⟩∧M b∧h[b]? =some (.cells (xs.flatMap f++rest).toArray t (0,0))∧rest.length=(s.cap-s.len)*sz
theorem OwnS.nil{α:Type}{f:α→List Value}{c:Nat}{t:TypeId}{M:Nat→Prop}{h:ac}{a:Option Addr}(d:∀x,(f x).length=c∧0<c):OwnS f c t M h ⟨a,0,0⟩ []:=⟨rfl,d,ar _,.inl rfl⟩
theorem OwnS.sl{α:Type}{f:α→List Value}{d:Nat}{t:TypeId}{M W:Nat→Prop}{h:ac}{s:SliceV}{xs:List α}(a:OwnS f d t M h s xs)(hm:∀b,M b→b<h.size→¬W b):Sl f d W h s xs:=by
 refine⟨a.len,a.ne,fun hx=>?_⟩
 rcases a.blk with k|⟨b,e,g,j,hc,_⟩
 ·have:=a.len;have:=a.cap
  have:xs.length=0:=by omega
  exact absurd (bV.1 this) hx
 ·exact⟨_,g,hm b j (bG hc),nu hc fun i v c=>by
   rw[aw,fF,d9 (bj.1 c).1];exact c⟩
theorem OwnS.upd{α:Type}{f:α→List Value}{d:Nat}{t:TypeId}{M M':Nat→Prop}{h h':ac}{s:SliceV}{xs:List α}(c:OwnS f d t M h s xs)(k:Upd M' h h')(hm:∀b,M b→¬M' b):OwnS f d t M h' s xs:=by
 refine⟨c.len,c.ne,c.cap,c.blk.imp id fun⟨b,a,g,e,hc,i⟩=>⟨b,a,g,e,k.get hc (hm b e),i⟩⟩
theorem OwnS.more{α:Type}{f:α→List Value}{d:Nat}{t:TypeId}{M M':Nat→Prop}{h:ac}{s:SliceV}{xs:List α}(c:OwnS f d t M h s xs)(hm:∀b,M b→M' b):OwnS f d t M' h s xs:=by
 refine⟨c.len,c.ne,c.cap,c.blk.imp id fun⟨b,a,e,g,hc,i⟩=>⟨b,a,e,hm b g,hc,i⟩⟩
theorem OwnS.within{α:Type}{f:α→List Value}{d:Nat}{t:TypeId}{M:Nat→Prop}{h:ac}{s:SliceV}{xs:List α}(c:OwnS f d t M h s xs):OwnS f d t (fun b=>M b∧b<h.size) h s xs:=by
 refine⟨c.len,c.ne,c.cap,c.blk.imp id fun⟨b,a,e,g,hc,i⟩=>⟨b,a,e,⟨g,bG hc⟩,hc,i⟩⟩
theorem fK{b:Nat}{t:TypeId}:∀(vs:List Value) (h:ac) (i o:Nat) (c:List Value),h[b]? =some (.cells c.toArray t (0,0))→o+i+vs.length≤c.length→
  jd h ⟨b,o,none⟩ i vs=h.setIfInBounds b (.cells (c.take (o+i)++vs++c.drop (o+i+vs.length)).toArray t (0,0))
 | [],h,i,o,c,hb,hl=>by
  simp only[jd,List.append_nil,cQ,eG,bC];apply Array.ext_getElem?;intro j;rw[du];split
  ·rename_i e;subst e;rw[hb];simp[bG hb]
  ·rfl
 |v::vs,h,i,o,c,hb,hl=>by
  rw[aI]at hl;simp only[jd];rw[bp,xE hb];have a:(h.setIfInBounds b (.cells (c.toArray.setIfInBounds (o+i) v) t (0,0)))[b]? =some (.cells (c.set (o+i) v).toArray t (0,0)):=by
   rw[gH hb];simp
  rw[fK vs _ (i+1) o (c.set (o+i) v) a (by simp;omega)];have e:∀(x y:Obj),(h.setIfInBounds b x).setIfInBounds b y=h.setIfInBounds b y:=fun x y=>by
   apply Array.ext_getElem?;intro j;simp only[du,Array.size_setIfInBounds];split<;>rfl
  rw[e];congr 3
  apply List.ext_getElem?;intro j;simp only[List.getElem?_append,ae,aY,List.length_set,aI,List.getElem?_take,List.getElem?_set,List.getElem?_drop];grind
theorem gQ(n:Nat)(z:List Value):(cq n z).length=n*z.length:=by
 unfold cq;induction n with
 |zero=>simp
 |succ n ih=>rw[List.replicate_succ,List.flatten_cons,ae,ih,jb];omega
theorem AppP.own{α:Type}{f:α→List Value}{g i:Nat}{t:TypeId}{M:Nat→Prop}{h:ac}{d:Option Addr}{sl m N:Nat}{xs ys:List α}{o z:List Value}{K:SliceV→ac→Prop}
  (n:OwnS f g t M h ⟨d,sl,m⟩ xs)(k:N=ys.length)(J:o=ys.flatMap f)(p:bq o=true)(S:z.length=g)(R:0<i)(A:(xs.length+ys.length)*i≤140737488355328)(hM:M h.size)
  (G:∀s' h',OwnS f g t M h' s' (xs++ys)→Upd M h h'→K s' h'):AppP (some z) g i t d sl m N o h K:=by
 have a:sl=xs.length:=n.len;have v:∀x,(f x).length=g:=fun x=>(n.ne x).1
 subst k J;have q:=ir v ys;have k:=ir v xs;refine⟨fun s=>?_,fun u=>?_⟩
 ·rcases n.blk with D|⟨b,c,F,w,hc,B⟩
  ·have D:m=0:=D
   have I:ys.length=0:=by omega
   have E:xs.length=0:=by omega
   have Q:=bV.1 I;have hx:=bV.1 E;subst Q hx;refine⟨.inl rfl,rfl,?_⟩;have e:dy h d (sl*g) (([]:List α).flatMap f)=h:=by cases d<;>rfl
   rw[e];exact G _ _ ⟨by simp[a],n.ne,by simp only[cQ];omega,.inl D⟩ (Upd.refl _ _)
  ·have F:d=some ⟨b,0,none⟩:=F
   have B:c.length=(m-sl)*g:=B;subst F;have O:sl+ys.length≤m:=s;have P:ys.length*g≤c.length:=by rw[B];exact Nat.mul_le_mul_right _ (Nat.le_sub_of_add_le (show ys.length+sl≤m by omega))
   have y:0+sl*g+(ys.flatMap f).length≤(xs.flatMap f++c).length:=by
    rw[ae,k,q,a];omega
   refine⟨.inr ⟨_,rfl,fun j V=>?_⟩,p,?_⟩
   ·rw[bp]
    refine ge hc ?_;rw[cx];omega
   ·have e:dy h (some ⟨b,0,none⟩) (sl*g) (ys.flatMap f)=_:=fK (ys.flatMap f) h (sl*g) 0 _ hc y
    rw[e];have L:(xs.flatMap f++c).take (0+sl*g)=xs.flatMap f:=by
     rw[aw,a,←k,df (ar _),List.take_length]
    have C:(xs.flatMap f++c).drop (0+sl*g+(ys.flatMap f).length)=c.drop (ys.length*g):=by
     rw[aw,a,←k,List.drop_append,gN (by omega),mc,q];congr 1;omega
    rw[L,C];refine G _ _ ⟨by simp[a],n.ne,s,.inr ⟨b,c.drop (ys.length*g),rfl,w,?_,?_⟩⟩ (Upd.set h _ w)
    ·rw[gH hc,bo]
    ·rw[aH,B]
     simp only;rw[show m-(sl+ys.length)=(m-sl)-ys.length by omega,Nat.sub_mul (m-sl)]
 ·have T:m*1≤m:=by omega
  refine⟨xs.flatMap f,z,?_,rfl,R,Go.growslice_fits u (by rw[a];exact A),fun U H=>?_⟩
  ·exact(n.sl (W:=No) fun _ _ _=>id).srow
  ·refine G _ _ ⟨by simp[a],n.ne,H,.inr ⟨h.size,cq (U-(sl+ys.length)) z,rfl,hM,?_,?_⟩⟩ (Upd.hnew M h _ _)
   ·rw[bh,bo]
   ·rw[gQ,S]
end Go.Lift
namespace Go.Lift
open Go
theorem aR{h:ac}{k:ac→Prop}(a:k h):At h k:=a
theorem gg{b o l m a:Nat}(h:m≠l):aF (some ⟨b,o,none⟩) l m a=some ⟨b,o+l*a,none⟩:=by simp[aF,h,bp]
theorem sub_zero{b m a:Nat}:aF (some ⟨b,0,none⟩) 0 m a=some ⟨b,0,none⟩:=by
 unfold aF;split
 ·rfl
 ·simp[bp]
theorem gS{h:ac}{b:Nat}{c:List Value}{t:TypeId}{o n:Nat}{vs:List Value}{a:Option Addr}{k:ac→Prop}(f:SRow h a n vs)(i:bq vs=true)(d:h[b]? =some (.cells c.toArray t (0,0)))
  (p:o+n≤c.length) (g:∀h',h'[b]? =some (.cells (c.take o++vs++c.drop (o+n)).toArray t (0,0))→Upd (· =b) h h'→k h'):
  ∃xs,SRow h a n xs∧qH h (some ⟨b,o,none⟩) 0 xs∧bq xs=true∧At (dy h (some ⟨b,o,none⟩) 0 xs) k:=by
 have m:=f.1;refine⟨vs,f,.inr ⟨_,rfl,fun j q=>?_⟩,i,aR ?_⟩
 ·rw[bp];exact ge d (by rw[cx];omega)
 ·have e:dy h (some ⟨b,o,none⟩) 0 vs=_:=fK vs h 0 o c d (by omega)
  rw[e];refine g _ ?_ (Upd.set h _ rfl);rw[gH d,eG,m]
theorem il{h:ac}{b:Nat}{c:List Value}{t:TypeId}{o n:Nat}{vs:List Value}(d:h[b]? =some (.cells c.toArray t (0,0))) (e:vs.length=n) (f:(c.drop o).take n=vs):SRow h (some ⟨b,o,none⟩) n vs:=by
 refine⟨e,.inr ⟨_,rfl,nu d fun i v a=>?_⟩⟩
 rw[fF,←List.getElem?_drop];have:((c.drop o).take n)[i]? =some v:=by rw[f];exact a
 rw[List.getElem?_take]at this;split at this
 ·exact this
 ·cases this
section
variable {α:Type} {f:α→List Value} {sz:Nat}
theorem ia(a:∀x,(f x).length=sz∧0<sz)(xs:List α):(xs.flatMap f).length=xs.length*sz:=ir (fun x=>(a x).1) xs
theorem sy(xs:List α)(k:Nat):xs.flatMap f=(xs.take k).flatMap f++(xs.drop k).flatMap f:=by rw[←bo,bC]
end
theorem Ab{α:Type}{A X B Z1 Z2:List α}{p q r:Nat}(c:A.length=p)(g:X.length=q)(f:Z1.length=r+q):
  (((A++Z1++Z2).take p++X++(A++Z1++Z2).drop (p+q)).take (p+q))++B++((A++Z1++Z2).take p++X++(A++Z1++Z2).drop (p+q)).drop (p+q+r)=A++(X++B)++Z2:=by
 have e:(A++Z1++Z2).take p=A:=by rw[aj,cp c]
 have d:(A++Z1++Z2).drop (p+q)=Z1.drop q++Z2:=by
  rw[aj,←cz,bL c,eL (by omega)]
 have a:(A++X).length=p+q:=by rw[ae];omega
 rw[e,d,cp a,←cz,bL a,eL (by rw[aH];omega),cz,gN (by omega),mc];simp only[aj]
theorem CP{α:Type}{A X B R:List α}{p q r:Nat}(a:A.length=p)(g:B.length=r)(f:q≤R.length):
  (((A++B++R).take (p+q)++B++(A++B++R).drop (p+q+r)).take p)++X++((A++B++R).take (p+q)++B++(A++B++R).drop (p+q+r)).drop (p+q)=A++(X++B)++R.drop q:=by
 have c:((A++B++R).take (p+q)).length=p+q:=by rw[aY,ae,ae];omega
 have d:(A++B++R).drop (p+q+r)=R.drop q:=by
  rw[show p+q+r=(p+r)+q by omega,←cz,bL (by rw[ae];omega)]
 have e:((A++B++R).take (p+q)++(B++(A++B++R).drop (p+q+r))).take p=A:=by
  rw[df (by omega),List.take_take,Nat.min_eq_left (by omega),aj,cp a]
 rw[aj ((A++B++R).take (p+q)),e,bL c,d];simp only[aj]
theorem Gr{h:ac}{b:Nat}{c:List Value}{t t':TypeId}{d a sl g f:Nat}{xs:List Value}{z:Option (List Value)}{K:SliceV→ac→Prop}(i:h[b]? =some (.cells c.toArray t (0,0)))
  (o:sl*d+xs.length≤c.length) (k:sl+f≤g) (n:bq xs=true) (m:∀h',h'[b]? =some (.cells (c.take (sl*d)++xs++c.drop (sl*d+xs.length)).toArray t (0,0))→Upd (· =b) h h'→K ⟨some ⟨b,0,none⟩,sl+f,g⟩ h'):
  AppP z d a t' (some ⟨b,0,none⟩) sl g f xs h K:=by
 refine⟨fun _=>⟨.inr ⟨_,rfl,fun j p=>?_⟩,n,?_⟩,fun h=>by omega⟩
 ·rw[bp];exact ge i (by rw[cx];omega)
 ·have e:dy h (some ⟨b,0,none⟩) (sl*d) xs=_:=fK xs h (sl*d) 0 c i (by omega)
  rw[e];refine m _ ?_ (Upd.set h _ rfl);rw[gH i,aw]
theorem zS{h:ac}{b:Nat}{c:List Value}{t:TypeId}{o:Nat}{vs:List Value}{k:ac→Prop}(a:h[b]? =some (.cells c.toArray t (0,0)))
  (g:o+vs.length≤c.length) (d:∀h',h'[b]? =some (.cells (c.take o++vs++c.drop (o+vs.length)).toArray t (0,0))→Upd (· =b) h h'→k h'):
  qH h (some ⟨b,o,none⟩) 0 vs∧At (dy h (some ⟨b,o,none⟩) 0 vs) k:=by
 refine⟨.inr ⟨_,rfl,fun j f=>?_⟩,aR ?_⟩
 ·rw[bp];exact ge a (by rw[cx];omega)
 ·have e:dy h (some ⟨b,o,none⟩) 0 vs=_:=fK vs h 0 o c a (by omega)
  rw[e];refine d _ ?_ (Upd.set h _ rfl);rw[gH a,eG]
end Go.Lift
namespace Go.Lift
open Go
structure KeyE(κ:Type) where
 enc:κ→Value
 ck:CK
 den:∀x,∃d:ck.den,enc x=ck.enc d
 same:∀x y,dR (enc x) (enc y)=true↔x=y
def Kj(k:IntKind):KeyE Int:=⟨fun x=>.int k x,.int k,fun x=>⟨x,rfl⟩,fun x y=>by simp[dR]⟩
section
variable {κ β:Type}
structure Ent(κ β:Type) where
 k:κ
 v:β
 n:Nat
variable (E:KeyE κ) (g:β→Value)
def Bp(x:Ent κ β):MapEntry:={key:=E.enc x.k,val:=g x.v,born:=x.n}
structure MapE(h:ac)(r:Nat)(ms:List (Ent κ β))(clock:Nat):Prop where
 here:h[r]? =some (.map (ms.map (Bp E g)).toArray clock)
 keys:(ms.map (·.k)).Nodup
 nums:(ms.map (·.n)).Nodup
 old:∀x∈ms,x.n<clock
def plain(ms:List (Ent κ β)):List (κ×β):=ms.map fun x=>(x.k,x.v)
def MapAt(h:ac)(r:Nat)(m:List (κ×β)):Prop:=∃ms clock,MapE E g h r ms clock∧plain ms=m
variable {E g}
theorem MapE.keysOf{h:ac}{r:Nat}{ms:List (Ent κ β)}{a:Nat}(_:MapE E g h r ms a):keysOf E.ck (ms.map (Bp E g)).toArray.toList:=by
 intro e c;simp only[cn]at c;obtain⟨x,_,rfl⟩:=c;exact E.den x.k
theorem MapAt.isMap{h:ac}{r:Nat}{m:List (κ×β)}(hm:MapAt E g h r m):pT E.ck h r:=by
 obtain⟨ms,a,hm,_⟩:=hm;exact⟨_,_,hm.here,hm.keysOf⟩
theorem MapAt.len{h:ac}{r:Nat}{m:List (κ×β)}(hm:MapAt E g h r m):x9 h (some r) m.length:=by
 obtain⟨ms,a,hm,rfl⟩:=hm;exact⟨_,_,hm.here,by simp[plain]⟩
theorem MapAt.nodup{h:ac}{r:Nat}{m:List (κ×β)}(hm:MapAt E g h r m):(m.map (·.1)).Nodup:=by
 obtain⟨ms,a,hm,rfl⟩:=hm;have:=hm.keys;unfold plain;rw[jc];exact this
theorem MapAt.lt{h:ac}{r:Nat}{m:List (κ×β)}(hm:MapAt E g h r m):r<h.size:=by
 obtain⟨ms,a,hm,_⟩:=hm;exact bG hm.here
theorem MapAt.upd{h h':ac}{r:Nat}{m:List (κ×β)}{M:Nat→Prop}(hm:MapAt E g h r m)(k:Upd M h h')(c:¬M r):MapAt E g h' r m:=by
 obtain⟨ms,a,hm,e⟩:=hm;exact⟨ms,a,⟨k.get hm.here c,hm.keys,hm.nums,hm.old⟩,e⟩
theorem MapAt.new(h:ac):MapAt E g (h.push (.map #[] 0)) h.size []:=
 ⟨[],0,⟨qm h _,kC,kC,fun _ h=>by cases h⟩,rfl⟩
variable [DecidableEq κ]
def bP:List (κ×β)→κ→Option β
 | [],_=>none
 |(k',v)::l,k=>if k=k' then some v else bP l k
def ic:List (κ×β)→κ→β→List (κ×β)
 | [],k,v=> [(k,v)]
 |(k',u)::l,k,v=>if k=k' then(k,v)::l else(k',u)::ic l k v
theorem oY(l:List (κ×β))(k:κ)(v:β)(j:κ):bP (ic l k v) j=if j=k then some v else bP l j:=by
 induction l with
 |nil=>simp[ic,bP]
 |cons p l ih=>
  obtain⟨k',u⟩:=p;simp only[ic];split
  ·rename_i e;subst e;simp only[bP];split<;>rfl
  ·rename_i e
   simp only[bP,ih];by_cases a:j=k'
   ·subst a;simp[Ne.symm e]
   ·simp[a]
theorem mI{l:List (κ×β)}{k:κ}{v:β}(a:(l.map (·.1)).Nodup):bP l k=some v↔(k,v)∈l:=by
 induction l with
 |nil=>simp[bP]
 |cons p l ih=>
  obtain⟨k',u⟩:=p;simp only[bN,g5]at a;simp only[bP,ao,Prod.mk.injEq];by_cases c:k=k'
  ·subst c
   simp only[if_true,bv.injEq,true_and];constructor
   ·exact fun e=>.inl e.symm
   ·rintro(e|e)
    ·exact e.symm
    ·exact absurd (cn.2 ⟨_,e,rfl⟩) a.1
  ·simp[c,ih a.2]
theorem gK{l:List (κ×β)}{k:κ}:bP l k=none↔k∉l.map (·.1):=by
 induction l with
 |nil=>simp[bP]
 |cons p l ih=>
  obtain⟨k',u⟩:=p;simp only[bP,bN,ao,not_or];by_cases a:k=k'
  ·simp[a]
  ·simp[a,ih]
theorem rb(l:List (κ×β))(k:κ)(v:β):(ic l k v).map (·.1)=if k∈l.map (·.1)then l.map (·.1)else l.map (·.1)++ [k]:=by
 induction l with
 |nil=>simp[ic]
 |cons p l ih=>
  obtain⟨k',u⟩:=p;simp only[ic];by_cases a:k=k'
  ·simp[a]
  ·simp only[a,if_false,bN,ih,ao,false_or]
   split<;>simp
theorem C6{l:List (κ×β)}{k:κ}{v:β}(h:(l.map (·.1)).Nodup):((ic l k v).map (·.1)).Nodup:=by
 rw[rb];split
 ·exact h
 ·rename_i hn
  rw[List.nodup_append];refine⟨h,by simp,?_⟩
  intro a d b c;simp only[ay]at c;subst c;intro e;subst e;exact hn d
theorem zK(x y:κ):dR (E.enc x) (E.enc y)=decide (x=y):=by
 by_cases h:x=y
 ·rw[decide_eq_true h];exact(E.same x y).2 h
 ·rw[decide_eq_false h];exact Bool.eq_false_iff.2 fun e=>h ((E.same x y).1 e)
theorem Ga(k:κ)(ms:List (Ent κ β)):xJ (E.enc k) (ms.map (Bp E g))=(bP (plain ms) k).map g:=by
 induction ms with
 |nil=>rfl
 |cons x ms ih=>
  simp only[bN,xJ,Bp,plain,bP];rw[zK];by_cases h:k=x.k
  ·simp[h]
  ·simp only[h,decide_false,cB,if_false];exact ih
theorem MapAt.get{h:ac}{r:Nat}{m:List (κ×β)}(hm:MapAt E g h r m)(k:κ)(z:β):iw E.ck (g z) h (some r) (E.enc k) (g ((bP m k).getD z)) (bP m k).isSome:=by
 obtain⟨ms,a,hm,rfl⟩:=hm;refine⟨_,_,hm.here,hm.keysOf,?_⟩;rw[Ga];cases bP (plain ms) k<;>exact⟨rfl,rfl⟩
def qE(k:κ)(v:β)(a:Nat):List (Ent κ β)→List (Ent κ β)×Nat
 | []=>([⟨k,v,a⟩],a+1)
 |x::l=>if k=x.k then(⟨k,v,x.n⟩::l,a)else(x::(qE k v a l).1,(qE k v a l).2)
theorem G8(k:κ)(v:β)(a:Nat)(ms:List (Ent κ β)):zT (E.enc k) (g v) a (ms.map (Bp E g))=((qE k v a ms).1.map (Bp E g),(qE k v a ms).2):=by
 induction ms with
 |nil=>rfl
 |cons x ms ih=>
  simp only[bN,zT,qE];rw[ih,show(Bp E g x).key=E.enc x.k from rfl,zK]
  by_cases h:k=x.k
  ·simp[h,Bp]
  ·simp[h]
theorem xO(k:κ)(v:β)(a:Nat)(ms:List (Ent κ β)):plain (qE k v a ms).1=ic (plain ms) k v:=by
 induction ms with
 |nil=>rfl
 |cons x ms ih=>
  simp only[qE,plain,bN,ic];by_cases h:k=x.k
  ·simp[h]
  ·simp only[h,if_false,bN,List.cons.injEq,true_and];exact ih
theorem IB(k:κ)(v:β)(a:Nat)(ms:List (Ent κ β)):(qE k v a ms).1.map (·.n)=(if k∈ms.map (·.k)then ms.map (·.n)else ms.map (·.n)++ [a])∧(qE k v a ms).2=(if k∈ms.map (·.k)then a else a+1):=by
 induction ms with
 |nil=>exact⟨rfl,rfl⟩
 |cons x ms ih=>
  simp only[qE];by_cases h:k=x.k
  ·simp[h]
  ·simp only[h,if_false,bN,ih.1,ih.2,ao,false_or,and_true]
   split<;>simp
theorem Hh{h:ac}{r:Nat}{ms:List (Ent κ β)}{a:Nat}(hm:MapE E g h r ms a)(k:κ)(v:β):jh h r (E.enc k) (g v)=h.setIfInBounds r (.map ((qE k v a ms).1.map (Bp E g)).toArray (qE k v a ms).2):=by
 unfold jh;rw[hm.here];simp only;rw[G8]
theorem MapE.put{h:ac}{r:Nat}{ms:List (Ent κ β)}{c:Nat}(hm:MapE E g h r ms c)(k:κ)(v:β):MapE E g (jh h r (E.enc k) (g v)) r (qE k v c ms).1 (qE k v c ms).2:=by
 rw[Hh hm];have o:(qE k v c ms).1.map (·.k)=(plain (qE k v c ms).1).map (·.1):=by unfold plain;rw[jc];rfl
 have j:(plain ms).map (·.1)=ms.map (·.k):=by unfold plain;rw[jc];rfl
 have f:=IB k v c ms;have d:∀y∈ms.map (·.n),y<c:=fun y n=>by
  obtain⟨x,hx,rfl⟩:=cn.1 n;exact hm.old x hx
 refine⟨gH hm.here,?_,?_,?_⟩
 ·rw[o,xO];exact C6 (by rw[j];exact hm.keys)
 ·rw[f.1]
  split
  ·exact hm.nums
  ·rw[List.nodup_append]
   refine⟨hm.nums,by simp,?_⟩
   intro a i b m;simp only[ay]at m;have:=d a i;omega
 ·intro x hx
  have hx:x.n∈(qE k v c ms).1.map (·.n):=cn.2 ⟨x,hx,rfl⟩
  rw[f.1]at hx;rw[f.2];split
  ·rename_i hk;rw[if_pos hk]at hx;exact d _ hx
  ·rename_i hk
   rw[if_neg hk]at hx;rcases List.mem_append.1 hx with e|e
   ·have:=d _ e;omega
   ·simp only[ay]at e;omega
theorem MapAt.put{h:ac}{r:Nat}{m:List (κ×β)}(hm:MapAt E g h r m)(k:κ)(v:β):MapAt E g (jh h r (E.enc k) (g v)) r (ic m k v):=by
 obtain⟨ms,a,hm,rfl⟩:=hm;exact⟨_,_,hm.put k v,xO ..⟩
theorem lz{M:Nat→Prop}(h:ac){r:Nat}(k v:Value)(a:M r):Upd M h (jh h r k v):=by
 unfold jh;split
 ·exact Upd.set h _ a
 ·exact Upd.refl _ _
theorem Ge(k:κ){ms:List (Ent κ β)}(a:(ms.map (·.k)).Nodup):xP (E.enc k) (ms.map (Bp E g))=(ms.filter fun x=>x.k≠k).map (Bp E g):=by
 induction ms with
 |nil=>rfl
 |cons x ms ih=>
  simp only[bN,g5]at a;simp only[bN,xP,List.filter_cons];rw[show(Bp E g x).key=E.enc x.k from rfl,zK]
  by_cases h:k=x.k
  ·subst h
   simp only[decide_true,if_true,ne_eq,not_true_eq_false,decide_false,cB,if_false];congr 1
   rw[List.filter_eq_self.2];intro y c;simp only[decide_not,Bool.not_eq_eq_eq_not,Bool.not_true,decide_eq_false_iff_not];intro e;exact a.1 (e▸cn.2 ⟨y,c,rfl⟩)
  ·simp only[h,decide_false,cB,if_false,ne_eq,Ne.symm h,not_false_eq_true,decide_true,if_true,bN]
   rw[ih a.2]
theorem MapE.drop{h:ac}{r:Nat}{ms:List (Ent κ β)}{a:Nat}(hm:MapE E g h r ms a)(k:κ):MapE E g (xz h r (E.enc k)) r (ms.filter fun x=>x.k≠k) a:=by
 have e:xz h r (E.enc k)=h.setIfInBounds r (.map ((ms.filter fun x=>x.k≠k).map (Bp E g)).toArray a):=by
  unfold xz;rw[hm.here];simp only;rw[Ge k hm.keys]
 rw[e];refine⟨gH hm.here,hm.keys.sublist ((gb).map _),hm.nums.sublist ((gb).map _),fun x hx=>hm.old x ((List.mem_filter.1 hx).1)⟩
end
section
variable {κ β:Type} (E:KeyE κ) (g:β→Value)
def IterSt(h:ac)(i r:Nat)(m a:List (κ×β)):Prop:=
 ∃ms clock since seen last,MapE E g h r ms clock∧plain ms=m∧h[i]? =some (.mapIter (some r) since seen last)∧a=plain (ms.filter fun x=> !seen.contains x.n)∧∀x∈ms,x.n<since∧x.n<last
variable {E g}
theorem IterSt.at{h:ac}{i r:Nat}{m c:List (κ×β)}(hi:IterSt E g h i r m c):MapAt E g h r m:=by
 obtain⟨ms,a,d,e,last,hm,f,_⟩:=hi;exact⟨ms,a,hm,f⟩
theorem IterSt.upd{h h':ac}{i r:Nat}{m a:List (κ×β)}{M:Nat→Prop}(hi:IterSt E g h i r m a)(k:Upd M h h')(o:¬M i)(n:¬M r):IterSt E g h' i r m a:=by
 obtain⟨ms,d,c,e,last,hm,q,p,f,j⟩:=hi;exact⟨ms,d,c,e,last,⟨k.get hm.here n,hm.keys,hm.nums,hm.old⟩,q,k.get p o,f,j⟩
theorem IterSt.ne{h:ac}{i r:Nat}{m a:List (κ×β)}(hi:IterSt E g h i r m a):i≠r:=by
 obtain⟨ms,d,c,f,last,hm,o,j,k,n⟩:=hi;intro e;subst e;rw[hm.here]at j;cases j
theorem IterSt.nodup{h:ac}{i r:Nat}{m a:List (κ×β)}(hi:IterSt E g h i r m a):(a.map (·.1)).Nodup:=by
 obtain⟨ms,d,c,e,last,hm,n,k,f,j⟩:=hi;rw[f];unfold plain;rw[jc];exact hm.keys.sublist ((gb).map _)
theorem MapAt.range{h:ac}{r:Nat}{m:List (κ×β)}(hm:MapAt E g h r m):∃a,(∃es,h[r]? =some (.map es a))∧IterSt E g (h.push (.mapIter (some r) a #[] a)) h.size r m m:=by
 obtain⟨ms,a,hm,c⟩:=hm;refine⟨a,⟨_,hm.here⟩,ms,a,a,#[],a,⟨(Upd.push No h _).get0 hm.here,hm.keys,hm.nums,hm.old⟩,c,qm h _,?_,fun x hx=>⟨hm.old x hx,hm.old x hx⟩⟩
 rw[show(fun x:Ent κ β=> !(#[]:Array Nat).contains x.n)=fun _=>true from funext fun x=>by simp,List.filter_eq_self.2 fun _ _=>rfl,c]
variable [DecidableEq κ]
end
end Go.Lift
namespace Go.Lift
open Go
end Go.Lift
