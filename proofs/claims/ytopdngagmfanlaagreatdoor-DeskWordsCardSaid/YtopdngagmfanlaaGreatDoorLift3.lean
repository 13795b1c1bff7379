/- A part of the proof that the named laws of this program answer true, whatever the input. -/
import Derived.Test.YtopdngagmfanlaaGreatDoorLift2
open Array renaming getElem?_modify→gX,getElem?_setIfInBounds→dy,getElem?_eq_some_iff→bK
open Bool renaming false_eq_true→cM
open List renaming flatMap_cons→be,length_append→ai,length_cons→aV,getElem?_append_left→fx,getElem?_append_right→km,getElem?_eq_some_iff→bi,length_take→aP,length_drop→aK,take_append_drop→bO,flatMap_append→bV,length_eq_zero_iff→aY,getElem?_toArray→dB,length_nil→dT,size_toArray→cp,take_append_of_le_length→eg,drop_eq_nil_of_le→js,nil_append→lZ,append_assoc→aF,take_left'→ct,drop_drop→cE,drop_left'→bT,drop_append_of_le_length→ep,mem_map→dX,map_map→kZ,nodup_nil→np,map_cons→cn,nodup_cons→lY,mem_cons→au,mem_singleton→aN,filter_eq_self→iJ,filter_sublist→iI
open Nat renaming strongRecOn→jE,lt_or_ge→bQ,zero_add→aD,le_refl→az,not_lt→gO,succ_mul→p7,add_zero→iv
open Option renaming some→aZ
namespace Go.Lift
open Go
attribute [simp] ay ag
theorem aG{p:Prop}[Decidable p]{t e:Prop}(a:p→t)(b:¬p→e):CondP (decide p) t e:=CondP.intro (fun h=>a (of_decide_eq_true h)) (fun h=>b (of_decide_eq_false h))
theorem HC.mono{P:Program}{f:FuncId}{args:List Value}{ks:List Kind}{K d:rp ks→ad→Prop}{h:ad}(hc:HC P f args ks K h)(c:∀t h',K t h'→d t h'):HC P f args ks d h:=by
 refine⟨fun w k=>?_⟩
 rcases hc.run w k with⟨a,b⟩|⟨v,w',a,b,t,i,n⟩
 ·exact .inl ⟨a,b.mono fun e w' ⟨j,t,g,m⟩=>⟨j,t,g,c t _ m⟩⟩
 ·exact .inr ⟨v,w',a,b,t,i,c t _ n⟩
theorem Join.intro{T:Type}{a:T→ad→Prop}{k:(T→ad→Prop)→Prop}(J:T→ad→Prop)(b:∀R:T→ad→Prop,(∀t h,J t h→R t h)→k R)(c:∀t h,J t h→a t h):Join a k:=⟨b a c⟩
theorem Join.plain{T:Type}{a:T→ad→Prop}{k:(T→ad→Prop)→Prop}(h:k a):Join a k:=⟨h⟩
theorem LoopP.intro{T:Type}{F:(T→ad→Prop)→T→ad→Prop}{t:T}{h:ad}(Inv:T→ad→Prop)(m:T→ad→Nat)(d:Inv t h)
  (step:∀I:T→ad→Prop,∀t h,Inv t h→(∀a h',Inv a h'→m a h'<m t h→I a h')→F I t h):LoopP F t h:=by
 refine⟨fun I f=>?_⟩
 have key:∀n t h,m t h=n→Inv t h→I t h:=by
  intro n;induction n using jE with
  |_ n ih=>exact fun t h e hi=>f t h (step I t h hi fun a h' c b=>ih _ (e▸b) a h' rfl c)
 exact key _ t h rfl d
theorem LoopP.ghost{T G:Type}{F:(T→ad→Prop)→T→ad→Prop}{t:T}{h:ad}(Inv:G→T→ad→Prop)(m:G→Nat)(g:G)(e:Inv g t h)
  (step:∀I:T→ad→Prop,∀g t h,Inv g t h→(∀b a h',Inv b a h'→m b<m g→I a h')→F I t h):LoopP F t h:=by
 refine⟨fun I i=>?_⟩
 have key:∀n g t h,m g=n→Inv g t h→I t h:=by
  intro n;induction n using jE with
  |_ n ih=>exact fun g t h f hi=>i t h (step I g t h hi fun b a h' d c=>ih _ (f▸c) b a h' rfl d)
 exact key _ g t h rfl e
theorem HV.mk'{P:Program}{f:FuncId}{first cap:Array Value}{args:List Value}{ks:List Kind}{K:rp ks→ad→Prop}{h:ad}(hc:HC P f (first.toList++args++cap.toList) ks K h):HV P (.func (.func f) first cap) args ks K h:=
 ⟨.inl ⟨f,first,cap,rfl,hc⟩⟩
@[simp] theorem bJ(b o n:Nat):adr ⟨b,o,none⟩ n=⟨b,o+n,none⟩:=by
 cases n<;>rfl
@[simp] theorem AF(a:Addr)(n:Nat):(adr a n).block=a.block:=by
 cases n<;>rfl
theorem cG(h:ad):aR h=⟨h.size,0,none⟩:=rfl
theorem Ic{h:ad}{a:Addr}{v:Value}(c:aE h a=some v):a.block<h.size:=by
 unfold aE at c;rcases bQ a.block h.size with b|b
 ·exact b
 ·rw[Array.getElem?_eq_none b]at c;cases c
theorem aI{h:ad}{b i:Nat}{c:Array Value}{e:TypeId}{fr:Nat×Nat}(a:h[b]? =some (.cells c e fr)):aE h ⟨b,i,none⟩=c[i]?:=by
 unfold aE;rw[a];rfl
theorem Ku{h h':ad}{c:Array Value}{e:TypeId}{fr:Nat×Nat}(a:h'[h.size]? =some (.cells c e fr)) (i:Nat):aE h' (adr (aR h) i)=c[i]?:=by
 rw[cG,bJ,aI a,aD]
theorem Kt{h h':ad}{a:Addr}(b:h'[a.block]? =h[a.block]?):aE h' a=aE h a:=by
 unfold aE;rw[b]
theorem C6{h:ad}{b i:Nat}{c:Array Value}{e:TypeId}{fr:Nat×Nat}{v:Value}(d:h[b]? =some (.cells c e fr)):
  hset h ⟨b,i,none⟩ v=h.setIfInBounds b (.cells (c.setIfInBounds i v) e fr):=by
 unfold hset;apply Array.ext_getElem?;intro j;rw[gX,dy];by_cases f:b=j
 ·subst f
  have a:=(bK.1 d).1;simp only[d,if_true,a,Option.map_some];rfl
 ·simp[f]
theorem gI{h:ad}{b i:Nat}{c:Array Value}{e:TypeId}(a:h[b]? =some (.cells c e (0,0))) (hi:i<c.size):Wr h ⟨b,i,none⟩:=by
 refine⟨⟨c[i],by rw[aI a,Array.getElem?_eq_getElem hi]⟩,?_⟩
 unfold Cj;rw[a];simp
structure Upd(M:Nat→Prop)(h h':ad):Prop where
 size:h.size≤h'.size
 same:∀b,b<h.size→¬M b→h'[b]? =h[b]?
abbrev No:Nat→Prop:=fun _=>False
theorem Upd.refl(M:Nat→Prop)(h:ad):Upd M h h:=⟨az _,fun _ _ _=>rfl⟩
theorem Upd.trans{M M':Nat→Prop}{h e f:ad}(k:Upd M h e)(l:Upd M' e f)(g:∀b,M' b→M b∨h.size≤b):Upd M h f:=
 ⟨Nat.le_trans k.size l.size,fun b a d=>by
  rw[l.same b (Nat.lt_of_lt_of_le a k.size) (fun hm=>(g b hm).elim d fun c=>absurd a (gO.2 c)),k.same b a d]⟩
theorem Upd.tr{M:Nat→Prop}{h a b:ad}(k:Upd M h a)(l:Upd M a b):Upd M h b:=k.trans l fun _ h=>.inl h
theorem Upd.mono{M M':Nat→Prop}{h h':ad}(k:Upd M h h')(d:∀b,M b→M' b∨h.size≤b):Upd M' h h':=
 ⟨k.size,fun b c e=>k.same b c fun hm=>(d b hm).elim e fun a=>absurd c (gO.2 a)⟩
theorem Upd.wide{M:Nat→Prop}{h h':ad}(k:Upd No h h'):Upd M h h':=k.mono fun _ h=>h.elim
theorem Upd.get{M:Nat→Prop}{h h':ad}(k:Upd M h h'){b:Nat}{o:Obj}(a:h[b]? =some o) (c:¬M b):h'[b]? =some o:=by
 rw[k.same b (bK.1 a).1 c,a]
theorem Upd.get0{h h':ad}(k:Upd No h h'){b:Nat}{o:Obj}(a:h[b]? =some o):h'[b]? =some o:=k.get a id
theorem Upd.cell{M:Nat→Prop}{h h':ad}(k:Upd M h h'){a:Addr}{v:Value}(b:aE h a=some v)(c:¬M a.block):aE h' a=some v:=by
 rw[Kt (k.same _ (Ic b) c),b]
theorem Upd.cell0{h h':ad}(k:Upd No h h'){a:Addr}{v:Value}(b:aE h a=some v):aE h' a=some v:=k.cell b id
theorem Upd.push(M:Nat→Prop)(h:ad)(o:Obj):Upd M h (h.push o):=⟨by simp,fun b a _=>by rw[Array.getElem?_push];simp[Nat.ne_of_lt a]⟩
theorem Upd.set{M:Nat→Prop}(h:ad){b:Nat}(o:Obj)(a:M b):Upd M h (h.setIfInBounds b o):=⟨by simp,fun c _ d=>by
 rw[dy]
 have:b≠c:=fun e=>d (e▸a)
 simp[this]⟩
theorem Upd.hset{M:Nat→Prop}(h:ad){a:Addr}(v:Value)(b:M a.block):Upd M h (hset h a v):=⟨by simp[Go.Lift.hset],fun c _ d=>by
 unfold Go.Lift.hset
 rw[gX]
 have:a.block≠c:=fun e=>d (e▸b)
 simp[this]⟩
theorem Upd.hnew(M:Nat→Prop)(h:ad)(cs:List Value)(t:TypeId):Upd M h (hnew h cs t):=Upd.push M h _
theorem bh(h:ad)(cs:List Value)(t:TypeId):(hnew h cs t)[h.size]? =some (.cells cs.toArray t (0,0)):=by
 unfold hnew;simp
theorem mL(h:ad)(o:Obj):(h.push o)[h.size]? =some o:=by simp
theorem fe(h:ad)(cs:List Value)(t:TypeId):(hnew h cs t).size=h.size+1:=by
 unfold hnew;simp
theorem hT{h:ad}{b:Nat}{o c:Obj}(a:h[b]? =some c):(h.setIfInBounds b o)[b]? =some o:=by
 rw[dy];simp[(bK.1 a).1]
theorem bp{h:ad}{b:Nat}{o:Obj}(a:h[b]? =some o):b<h.size:=(bK.1 a).1
theorem Row.upd{M:Nat→Prop}{h h':ad}{a:Addr}{vs:List Value}(c:Row h a vs)(k:Upd M h h')(d:¬M a.block):Row h' a vs:=fun i v b=>k.cell (c i v b) (by rw[AF];exact d)
theorem SRow.upd{M:Nat→Prop}{h h':ad}{a:Option Addr}{n:Nat}{vs:List Value}(c:SRow h a n vs)(k:Upd M h h')(f:vs≠[]→∀b,a=some b→¬M b.block):SRow h' a n vs:=by
 obtain⟨g,i⟩:=c;refine⟨g,?_⟩;rcases i with rfl|⟨b,d,c⟩
 ·exact .inl rfl
 ·by_cases e:vs= []
  ·exact .inl e
  ·exact .inr ⟨b,d,c.upd k (f e b d)⟩
theorem om{h:ad}{b o:Nat}{c:Array Value}{e:TypeId}{fr:Nat×Nat}(a:h[b]? =some (.cells c e fr)) {vs:List Value} (d:∀i v,vs[i]? =some v→c[o+i]? =some v):Row h ⟨b,o,none⟩ vs:=fun i v hi=>by
 rw[bJ,aI a];exact d i v hi
structure Sl{α:Type}(f:α→List Value)(sz:Nat)(W:Nat→Prop)(h:ad)(s:SliceV)(xs:List α):Prop where
 len:s.len=xs.length
 ne:∀x,(f x).length=sz∧0<sz
 row:xs≠[]→∃a,s.a=some a∧¬W a.block∧Row h a (xs.flatMap f)
theorem Sl.nil{α:Type}{f:α→List Value}{b:Nat}{W:Nat→Prop}{h:ad}{a:Option Addr}{c:Nat}(d:∀x,(f x).length=b∧0<b):Sl f b W h ⟨a,0,c⟩ []:=⟨rfl,d,fun h=>absurd rfl h⟩
theorem Sl.lt{α:Type}{f:α→List Value}{i:Nat}{W:Nat→Prop}{h:ad}{s:SliceV}{xs:List α}(c:Sl f i W h s xs)(hx:xs≠[]){a:Addr}(e:s.a=some a):a.block<h.size:=by
 obtain⟨a',b,j,g⟩:=c.row hx;rw[e]at b;cases b;cases xs with
 |nil=>exact absurd rfl hx
 |cons x xs=>
  have d:=c.ne x;cases hf:f x with
  |nil=>rw[hf]at d;simp at d;omega
  |cons v vs=>
   have:=g 0 v (by rw[be,hf];rfl);have:=Ic this;rw[AF]at this;exact this
theorem Sl.upd{α:Type}{f:α→List Value}{i:Nat}{W M:Nat→Prop}{h h':ad}{s:SliceV}{xs:List α}(c:Sl f i W h s xs)(k:Upd M h h')(hm:∀b,M b→W b∨h.size≤b):Sl f i W h' s xs:=by
 refine⟨c.len,c.ne,fun hx=>?_⟩
 obtain⟨a,e,g,m⟩:=c.row hx;exact⟨a,e,g,m.upd k fun j=>(hm _ j).elim g fun d=>absurd (c.lt hx e) (gO.2 d)⟩
theorem Sl.less{α:Type}{f:α→List Value}{g:Nat}{W W':Nat→Prop}{h:ad}{s:SliceV}{xs:List α}(c:Sl f g W h s xs)(hm:∀b,W' b→W b∨h.size≤b):Sl f g W' h s xs:=
 ⟨c.len,c.ne,fun hx=>let⟨a,e,k,j⟩:=c.row hx;⟨a,e,fun i=>(hm _ i).elim k fun d=>absurd (c.lt hx e) (gO.2 d),j⟩⟩
theorem ke{α:Type}{f:α→List Value}{b:Nat}(a:∀x,(f x).length=b):∀xs:List α,(xs.flatMap f).length=xs.length*b
 | []=>by simp
 |x::xs=>by rw[be,ai,a,ke a xs,aV,p7];omega
theorem Bg{α:Type}{f:α→List Value}{b:Nat}(a:∀x,(f x).length=b):∀(xs:List α) (i j:Nat) (x:α),xs[i]? =some x→j<b→(xs.flatMap f)[i*b+j]? =(f x)[j]?
 | [],i,j,x,h,_=>by simp at h
 |y::xs,0,j,x,h,hj=>by
  simp only[List.getElem?_cons_zero,aZ.injEq]at h;subst h;rw[be,Nat.zero_mul,aD,fx (by rw[a];exact hj)]
 |y::xs,i+1,j,x,h,hj=>by
  rw[List.getElem?_cons_succ]at h;rw[be,km (by rw[a,p7];omega),a,show(i+1)*b+j-b=i*b+j by rw[p7];omega]
  exact Bg a xs i j x h hj
theorem Sl.at{α:Type}{f:α→List Value}{c:Nat}{W:Nat→Prop}{h:ad}{s:SliceV}{xs:List α}(b:Sl f c W h s xs){i:Nat}{x:α}(hi:xs[i]? =some x):
  ∃a,s.a=some a∧¬W a.block∧∀j v,(f x)[j]? =some v→aE h (adr (adr a (i*c)) j)=some v:=by
 obtain⟨a,g,m,k⟩:=b.row (fun e=>by subst e;simp at hi)
 refine⟨a,g,m,fun j v d=>?_⟩
 have n:j<c:=by rw[←(b.ne x).1];exact(bi.1 d).1
 rw[Cl];exact k _ v (by rw[Bg (fun x=>(b.ne x).1) xs i j x hi n];exact d)
theorem Sl.at0{α:Type}{g:α→Value}{W:Nat→Prop}{h:ad}{s:SliceV}{xs:List α}(b:Sl (fun x=> [g x]) 1 W h s xs){i:Nat}{x:α}(hi:xs[i]? =some x):
  ∃a,s.a=some a∧¬W a.block∧aE h (adr a (i*1))=some (g x):=by
 obtain⟨a,c,e,d⟩:=b.at hi;exact⟨a,c,e,d 0 _ rfl⟩
theorem Sl.srow{α:Type}{f:α→List Value}{c:Nat}{W:Nat→Prop}{h:ad}{s:SliceV}{xs:List α}(b:Sl f c W h s xs):SRow h s.a (s.len*c) (xs.flatMap f):=by
 refine⟨?_,?_⟩
 ·rw[b.len,ke fun x=>(b.ne x).1]
 ·by_cases hx:xs= []
  ·subst hx;exact .inl rfl
  ·obtain⟨a,d,_,e⟩:=b.row hx
   exact .inr ⟨a,d,e⟩
theorem Sl.sub{α:Type}{f:α→List Value}{b:Nat}{W:Nat→Prop}{h:ad}{s:SliceV}{xs:List α}(d:Sl f b W h s xs){l hi m c:Nat}(u:l≤hi)(j:hi≤xs.length)(t:hi≤m):
  Sl f b W h ⟨aM s.a l m b,hi-l,c⟩ ((xs.drop l).take (hi-l)):=by
 refine⟨by simp only[aP,aK];omega,d.ne,fun hx=>?_⟩
 have k:l<hi:=by
  rcases bQ l hi with h|h
  ·exact h
  ·rw[Nat.sub_eq_zero_of_le h]at hx;exact absurd List.take_zero hx
 obtain⟨a,n,p,o⟩:=d.row (fun e=>by rw[e]at j;simp at j;omega)
 refine⟨adr a (l*b),?_,by rw[AF];exact p,fun i v g=>?_⟩
 ·unfold aM
  rw[if_neg (by omega),n];rfl
 ·rw[Cl]
  refine o _ v ?_;have e:xs=xs.take l++((xs.drop l).take (hi-l)++(xs.drop l).drop (hi-l)):=by rw[bO,bO]
  rw[e,bV,bV];have q:((xs.take l).flatMap f).length=l*b:=by rw[ke fun x=>(d.ne x).1,aP];congr 1;omega
  rw[km (by omega),q,Nat.add_sub_cancel_left,fx (bi.1 g).1];exact g
structure OwnS{α:Type}(f:α→List Value)(sz:Nat)(t:TypeId)(M:Nat→Prop)(h:ad)(s:SliceV)(xs:List α):Prop where
 len:s.len=xs.length
 ne:∀x,(f x).length=sz∧0<sz
 cap:s.len≤s.cap
 blk:s.cap=0∨∃b rest,s.a=some ⟨b,0,none⟩∧M b∧h[b]? =some (.cells (xs.flatMap f++rest).toArray t (0,0))∧rest.length=(s.cap-s.len)*sz
theorem OwnS.nil{α:Type}{f:α→List Value}{b:Nat}{t:TypeId}{M:Nat→Prop}{h:ad}{a:Option Addr}(c:∀x,(f x).length=b∧0<b):OwnS f b t M h ⟨a,0,0⟩ []:=⟨rfl,c,az _,.inl rfl⟩
theorem OwnS.sl{α:Type}{f:α→List Value}{e:Nat}{t:TypeId}{M W:Nat→Prop}{h:ad}{s:SliceV}{xs:List α}(a:OwnS f e t M h s xs)(hm:∀b,M b→b<h.size→¬W b):Sl f e W h s xs:=by
 refine⟨a.len,a.ne,fun hx=>?_⟩
 rcases a.blk with k|⟨b,c,j,g,hc,_⟩
 ·have:=a.len;have:=a.cap
  have:xs.length=0:=by omega
  exact absurd (aY.1 this) hx
 ·exact⟨_,j,hm b g (bp hc),om hc fun i v d=>by
   rw[aD,dB,fx (bi.1 d).1];exact d⟩
theorem OwnS.upd{α:Type}{f:α→List Value}{e:Nat}{t:TypeId}{M M':Nat→Prop}{h h':ad}{s:SliceV}{xs:List α}(c:OwnS f e t M h s xs)(k:Upd M' h h')(hm:∀b,M b→¬M' b):OwnS f e t M h' s xs:=by
 refine⟨c.len,c.ne,c.cap,c.blk.imp id fun⟨b,a,g,d,hc,i⟩=>⟨b,a,g,d,k.get hc (hm b d),i⟩⟩
theorem OwnS.more{α:Type}{f:α→List Value}{d:Nat}{t:TypeId}{M M':Nat→Prop}{h:ad}{s:SliceV}{xs:List α}(c:OwnS f d t M h s xs)(hm:∀b,M b→M' b):OwnS f d t M' h s xs:=by
 refine⟨c.len,c.ne,c.cap,c.blk.imp id fun⟨b,a,g,e,hc,i⟩=>⟨b,a,g,hm b e,hc,i⟩⟩
theorem OwnS.within{α:Type}{f:α→List Value}{d:Nat}{t:TypeId}{M:Nat→Prop}{h:ad}{s:SliceV}{xs:List α}(c:OwnS f d t M h s xs):OwnS f d t (fun b=>M b∧b<h.size) h s xs:=by
 refine⟨c.len,c.ne,c.cap,c.blk.imp id fun⟨b,a,g,e,hc,i⟩=>⟨b,a,g,⟨e,bp hc⟩,hc,i⟩⟩
theorem g6{b:Nat}{t:TypeId}:∀(vs:List Value) (h:ad) (i o:Nat) (c:List Value),h[b]? =some (.cells c.toArray t (0,0))→o+i+vs.length≤c.length→
  ia h ⟨b,o,none⟩ i vs=h.setIfInBounds b (.cells (c.take (o+i)++vs++c.drop (o+i+vs.length)).toArray t (0,0))
 | [],h,i,o,c,hb,hl=>by
  simp only[ia,List.append_nil,dT,iv,bO];apply Array.ext_getElem?;intro j;rw[dy];split
  ·rename_i e;subst e;rw[hb];simp[bp hb]
  ·rfl
 |v::vs,h,i,o,c,hb,hl=>by
  rw[aV]at hl;simp only[ia];rw[bJ,C6 hb];have a:(h.setIfInBounds b (.cells (c.toArray.setIfInBounds (o+i) v) t (0,0)))[b]? =some (.cells (c.set (o+i) v).toArray t (0,0)):=by
   rw[hT hb];simp
  rw[g6 vs _ (i+1) o (c.set (o+i) v) a (by simp;omega)];have e:∀(x y:Obj),(h.setIfInBounds b x).setIfInBounds b y=h.setIfInBounds b y:=fun x y=>by
   apply Array.ext_getElem?;intro j;simp only[dy,Array.size_setIfInBounds];split<;>rfl
  rw[e];congr 3
  apply List.ext_getElem?;intro j;simp only[List.getElem?_append,ai,aP,List.length_set,aV,List.getElem?_take,List.getElem?_set,List.getElem?_drop];grind
theorem j4(n:Nat)(z:List Value):(cL n z).length=n*z.length:=by
 unfold cL;induction n with
 |zero=>simp
 |succ n ih=>rw[List.replicate_succ,List.flatten_cons,ai,ih,p7];omega
theorem AppP.own{α:Type}{f:α→List Value}{i g:Nat}{t:TypeId}{M:Nat→Prop}{h:ad}{d:Option Addr}{sl k O:Nat}{xs ys:List α}{o z:List Value}{K:SliceV→ad→Prop}
  (n:OwnS f i t M h ⟨d,sl,k⟩ xs)(m:O=ys.length)(J:o=ys.flatMap f)(w:bM o=true)(T:z.length=i)(P:0<g)(q:(xs.length+ys.length)*g≤140737488355328)(hM:M h.size)
  (E:∀s' h',OwnS f i t M h' s' (xs++ys)→Upd M h h'→K s' h'):AppP (some z) i g t d sl k O o h K:=by
 have a:sl=xs.length:=n.len;have y:∀x,(f x).length=i:=fun x=>(n.ne x).1
 subst m J;have v:=ke y ys;have m:=ke y xs;refine⟨fun s=>?_,fun u=>?_⟩
 ·rcases n.blk with G|⟨b,c,C,p,hc,B⟩
  ·have G:k=0:=G
   have D:ys.length=0:=by omega
   have L:xs.length=0:=by omega
   have Q:=aY.1 D;have hx:=aY.1 L;subst Q hx;refine⟨.inl rfl,rfl,?_⟩;have e:ez h d (sl*i) (([]:List α).flatMap f)=h:=by cases d<;>rfl
   rw[e];exact E _ _ ⟨by simp[a],n.ne,by simp only[dT];omega,.inl G⟩ (Upd.refl _ _)
  ·have C:d=some ⟨b,0,none⟩:=C
   have B:c.length=(k-sl)*i:=B;subst C;have N:sl+ys.length≤k:=s;have U:ys.length*i≤c.length:=by rw[B];exact Nat.mul_le_mul_right _ (Nat.le_sub_of_add_le (show ys.length+sl≤k by omega))
   have A:0+sl*i+(ys.flatMap f).length≤(xs.flatMap f++c).length:=by
    rw[ai,m,v,a];omega
   refine⟨.inr ⟨_,rfl,fun j V=>?_⟩,w,?_⟩
   ·rw[bJ]
    refine gI hc ?_;rw[cp];omega
   ·have e:ez h (some ⟨b,0,none⟩) (sl*i) (ys.flatMap f)=_:=g6 (ys.flatMap f) h (sl*i) 0 _ hc A
    rw[e];have H:(xs.flatMap f++c).take (0+sl*i)=xs.flatMap f:=by
     rw[aD,a,←m,eg (az _),List.take_length]
    have I:(xs.flatMap f++c).drop (0+sl*i+(ys.flatMap f).length)=c.drop (ys.length*i):=by
     rw[aD,a,←m,List.drop_append,js (by omega),lZ,v];congr 1;omega
    rw[H,I];refine E _ _ ⟨by simp[a],n.ne,s,.inr ⟨b,c.drop (ys.length*i),rfl,p,?_,?_⟩⟩ (Upd.set h _ p)
    ·rw[hT hc,bV]
    ·rw[aK,B]
     simp only;rw[show k-(sl+ys.length)=(k-sl)-ys.length by omega,Nat.sub_mul (k-sl)]
 ·have S:k*1≤k:=by omega
  refine⟨xs.flatMap f,z,?_,rfl,P,Go.growslice_fits u (by rw[a];exact q),fun R F=>?_⟩
  ·exact(n.sl (W:=No) fun _ _ _=>id).srow
  ·refine E _ _ ⟨by simp[a],n.ne,F,.inr ⟨h.size,cL (R-(sl+ys.length)) z,rfl,hM,?_,?_⟩⟩ (Upd.hnew M h _ _)
   ·rw[bh,bV]
   ·rw[j4,T]
end Go.Lift
namespace Go.Lift
open Go
theorem aU{h:ad}{k:ad→Prop}(a:k h):At h k:=a
theorem g0{b o l m a:Nat}(h:m≠l):aM (some ⟨b,o,none⟩) l m a=some ⟨b,o+l*a,none⟩:=by simp[aM,h,bJ]
theorem sub_zero{b m a:Nat}:aM (some ⟨b,0,none⟩) 0 m a=some ⟨b,0,none⟩:=by
 unfold aM;split
 ·rfl
 ·simp[bJ]
theorem jx{h:ad}{b:Nat}{c:List Value}{t:TypeId}{o n:Nat}{vs:List Value}{a:Option Addr}{k:ad→Prop}(f:SRow h a n vs)(m:bM vs=true)(d:h[b]? =some (.cells c.toArray t (0,0)))
  (p:o+n≤c.length) (g:∀h',h'[b]? =some (.cells (c.take o++vs++c.drop (o+n)).toArray t (0,0))→Upd (· =b) h h'→k h'):
  ∃xs,SRow h a n xs∧sq h (some ⟨b,o,none⟩) 0 xs∧bM xs=true∧At (ez h (some ⟨b,o,none⟩) 0 xs) k:=by
 have i:=f.1;refine⟨vs,f,.inr ⟨_,rfl,fun j q=>?_⟩,m,aU ?_⟩
 ·rw[bJ];exact gI d (by rw[cp];omega)
 ·have e:ez h (some ⟨b,o,none⟩) 0 vs=_:=g6 vs h 0 o c d (by omega)
  rw[e];refine g _ ?_ (Upd.set h _ rfl);rw[hT d,iv,i]
theorem jM{h:ad}{b:Nat}{c:List Value}{t:TypeId}{o n:Nat}{vs:List Value}(d:h[b]? =some (.cells c.toArray t (0,0))) (a:vs.length=n) (e:(c.drop o).take n=vs):SRow h (some ⟨b,o,none⟩) n vs:=by
 refine⟨a,.inr ⟨_,rfl,om d fun i v f=>?_⟩⟩
 rw[dB,←List.getElem?_drop];have:((c.drop o).take n)[i]? =some v:=by rw[e];exact f
 rw[List.getElem?_take]at this;split at this
 ·exact this
 ·cases this
section
variable {α:Type} {f:α→List Value} {sz:Nat}
theorem iq(a:∀x,(f x).length=sz∧0<sz)(xs:List α):(xs.flatMap f).length=xs.length*sz:=ke (fun x=>(a x).1) xs
theorem vo(xs:List α)(k:Nat):xs.flatMap f=(xs.take k).flatMap f++(xs.drop k).flatMap f:=by rw[←bV,bO]
end
theorem Gr{α:Type}{A X B Z1 Z2:List α}{p q r:Nat}(b:A.length=p)(d:X.length=q)(c:Z1.length=r+q):
  (((A++Z1++Z2).take p++X++(A++Z1++Z2).drop (p+q)).take (p+q))++B++((A++Z1++Z2).take p++X++(A++Z1++Z2).drop (p+q)).drop (p+q+r)=A++(X++B)++Z2:=by
 have e1:(A++Z1++Z2).take p=A:=by rw[aF,ct b]
 have e2:(A++Z1++Z2).drop (p+q)=Z1.drop q++Z2:=by
  rw[aF,←cE,bT b,ep (by omega)]
 have a:(A++X).length=p+q:=by rw[ai];omega
 rw[e1,e2,ct a,←cE,bT a,ep (by rw[aK];omega),cE,js (by omega),lZ];simp only[aF]
theorem Kq{α:Type}{A X B R:List α}{p q r:Nat}(b:A.length=p)(e:B.length=r)(d:q≤R.length):
  (((A++B++R).take (p+q)++B++(A++B++R).drop (p+q+r)).take p)++X++((A++B++R).take (p+q)++B++(A++B++R).drop (p+q+r)).drop (p+q)=A++(X++B)++R.drop q:=by
 have a:((A++B++R).take (p+q)).length=p+q:=by rw[aP,ai,ai];omega
 have c:(A++B++R).drop (p+q+r)=R.drop q:=by
  rw[show p+q+r=(p+r)+q by omega,←cE,bT (by rw[ai];omega)]
 have e1:((A++B++R).take (p+q)++(B++(A++B++R).drop (p+q+r))).take p=A:=by
  rw[eg (by omega),List.take_take,Nat.min_eq_left (by omega),aF,ct b]
 rw[aF ((A++B++R).take (p+q)),e1,bT a,c];simp only[aF]
theorem KP{h:ad}{b:Nat}{c:List Value}{t m:TypeId}{d a sl g i:Nat}{xs:List Value}{z:Option (List Value)}{K:SliceV→ad→Prop}(f:h[b]? =some (.cells c.toArray t (0,0)))
  (p:sl*d+xs.length≤c.length) (o:sl+i≤g) (n:bM xs=true) (k:∀h',h'[b]? =some (.cells (c.take (sl*d)++xs++c.drop (sl*d+xs.length)).toArray t (0,0))→Upd (· =b) h h'→K ⟨some ⟨b,0,none⟩,sl+i,g⟩ h'):
  AppP z d a m (some ⟨b,0,none⟩) sl g i xs h K:=by
 refine⟨fun _=>⟨.inr ⟨_,rfl,fun j q=>?_⟩,n,?_⟩,fun h=>by omega⟩
 ·rw[bJ];exact gI f (by rw[cp];omega)
 ·have e:ez h (some ⟨b,0,none⟩) (sl*d) xs=_:=g6 xs h (sl*d) 0 c f (by omega)
  rw[e];refine k _ ?_ (Upd.set h _ rfl);rw[hT f,aD]
theorem B6{h:ad}{b:Nat}{c:List Value}{t:TypeId}{o:Nat}{vs:List Value}{k:ad→Prop}(a:h[b]? =some (.cells c.toArray t (0,0)))
  (f:o+vs.length≤c.length) (d:∀h',h'[b]? =some (.cells (c.take o++vs++c.drop (o+vs.length)).toArray t (0,0))→Upd (· =b) h h'→k h'):
  sq h (some ⟨b,o,none⟩) 0 vs∧At (ez h (some ⟨b,o,none⟩) 0 vs) k:=by
 refine⟨.inr ⟨_,rfl,fun j g=>?_⟩,aU ?_⟩
 ·rw[bJ];exact gI a (by rw[cp];omega)
 ·have e:ez h (some ⟨b,o,none⟩) 0 vs=_:=g6 vs h 0 o c a (by omega)
  rw[e];refine d _ ?_ (Upd.set h _ rfl);rw[hT a,iv]
end Go.Lift
namespace Go.Lift
open Go
structure KeyE(κ:Type) where
 enc:κ→Value
 ck:CK
 den:∀x,∃d:ck.den,enc x=ck.enc d
 same:∀x y,eT (enc x) (enc y)=true↔x=y
def TE(k:IntKind):KeyE Int:=⟨fun x=>.int k x,.int k,fun x=>⟨x,rfl⟩,fun x y=>by simp[eT]⟩
section
variable {κ β:Type}
structure Ent(κ β:Type) where
 k:κ
 v:β
 n:Nat
variable (E:KeyE κ) (g:β→Value)
def Mw(x:Ent κ β):MapEntry:={key:=E.enc x.k,val:=g x.v,born:=x.n}
structure MapE(h:ad)(r:Nat)(ms:List (Ent κ β))(clock:Nat):Prop where
 here:h[r]? =some (.map (ms.map (Mw E g)).toArray clock)
 keys:(ms.map (·.k)).Nodup
 nums:(ms.map (·.n)).Nodup
 old:∀x∈ms,x.n<clock
def plain(ms:List (Ent κ β)):List (κ×β):=ms.map fun x=>(x.k,x.v)
def MapAt(h:ad)(r:Nat)(m:List (κ×β)):Prop:=∃ms clock,MapE E g h r ms clock∧plain ms=m
variable {E g}
theorem MapE.keysOf{h:ad}{r:Nat}{ms:List (Ent κ β)}{a:Nat}(_:MapE E g h r ms a):keysOf E.ck (ms.map (Mw E g)).toArray.toList:=by
 intro e b;simp only[dX]at b;obtain⟨x,_,rfl⟩:=b;exact E.den x.k
theorem MapAt.isMap{h:ad}{r:Nat}{m:List (κ×β)}(hm:MapAt E g h r m):vr E.ck h r:=by
 obtain⟨ms,a,hm,_⟩:=hm;exact⟨_,_,hm.here,hm.keysOf⟩
theorem MapAt.len{h:ad}{r:Nat}{m:List (κ×β)}(hm:MapAt E g h r m):DH h (some r) m.length:=by
 obtain⟨ms,a,hm,rfl⟩:=hm;exact⟨_,_,hm.here,by simp[plain]⟩
theorem MapAt.nodup{h:ad}{r:Nat}{m:List (κ×β)}(hm:MapAt E g h r m):(m.map (·.1)).Nodup:=by
 obtain⟨ms,a,hm,rfl⟩:=hm;have:=hm.keys;unfold plain;rw[kZ];exact this
theorem MapAt.lt{h:ad}{r:Nat}{m:List (κ×β)}(hm:MapAt E g h r m):r<h.size:=by
 obtain⟨ms,a,hm,_⟩:=hm;exact bp hm.here
theorem MapAt.upd{h h':ad}{r:Nat}{m:List (κ×β)}{M:Nat→Prop}(hm:MapAt E g h r m)(k:Upd M h h')(b:¬M r):MapAt E g h' r m:=by
 obtain⟨ms,a,hm,e⟩:=hm;exact⟨ms,a,⟨k.get hm.here b,hm.keys,hm.nums,hm.old⟩,e⟩
theorem MapAt.new(h:ad):MapAt E g (h.push (.map #[] 0)) h.size []:=
 ⟨[],0,⟨mL h _,np,np,fun _ h=>by cases h⟩,rfl⟩
variable [DecidableEq κ]
def cV:List (κ×β)→κ→Option β
 | [],_=>none
 |(k',v)::l,k=>if k=k' then some v else cV l k
def m5:List (κ×β)→κ→β→List (κ×β)
 | [],k,v=> [(k,v)]
 |(k',u)::l,k,v=>if k=k' then(k,v)::l else(k',u)::m5 l k v
theorem Na(l:List (κ×β))(k:κ)(v:β)(j:κ):cV (m5 l k v) j=if j=k then some v else cV l j:=by
 induction l with
 |nil=>simp[m5,cV]
 |cons p l ih=>
  obtain⟨k',u⟩:=p;simp only[m5];split
  ·rename_i e;subst e;simp only[cV];split<;>rfl
  ·rename_i e
   simp only[cV,ih];by_cases a:j=k'
   ·subst a;simp[Ne.symm e]
   ·simp[a]
theorem FE{l:List (κ×β)}{k:κ}{v:β}(a:(l.map (·.1)).Nodup):cV l k=some v↔(k,v)∈l:=by
 induction l with
 |nil=>simp[cV]
 |cons p l ih=>
  obtain⟨k',u⟩:=p;simp only[cn,lY]at a;simp only[cV,au,Prod.mk.injEq];by_cases b:k=k'
  ·subst b
   simp only[if_true,aZ.injEq,true_and];constructor
   ·exact fun e=>.inl e.symm
   ·rintro(e|e)
    ·exact e.symm
    ·exact absurd (dX.2 ⟨_,e,rfl⟩) a.1
  ·simp[b,ih a.2]
theorem nW{l:List (κ×β)}{k:κ}:cV l k=none↔k∉l.map (·.1):=by
 induction l with
 |nil=>simp[cV]
 |cons p l ih=>
  obtain⟨k',u⟩:=p;simp only[cV,cn,au,not_or];by_cases a:k=k'
  ·simp[a]
  ·simp[a,ih]
theorem FC(l:List (κ×β))(k:κ)(v:β):(m5 l k v).map (·.1)=if k∈l.map (·.1)then l.map (·.1)else l.map (·.1)++ [k]:=by
 induction l with
 |nil=>simp[m5]
 |cons p l ih=>
  obtain⟨k',u⟩:=p;simp only[m5];by_cases a:k=k'
  ·simp[a]
  ·simp only[a,if_false,cn,ih,au,false_or]
   split<;>simp
theorem KO{l:List (κ×β)}{k:κ}{v:β}(h:(l.map (·.1)).Nodup):((m5 l k v).map (·.1)).Nodup:=by
 rw[FC];split
 ·exact h
 ·rename_i hn
  rw[List.nodup_append];refine⟨h,by simp,?_⟩
  intro a d b c;simp only[aN]at c;subst c;intro e;subst e;exact hn d
theorem FY(x y:κ):eT (E.enc x) (E.enc y)=decide (x=y):=by
 by_cases h:x=y
 ·rw[decide_eq_true h];exact(E.same x y).2 h
 ·rw[decide_eq_false h];exact Bool.eq_false_iff.2 fun e=>h ((E.same x y).1 e)
theorem OV(k:κ)(ms:List (Ent κ β)):Dc (E.enc k) (ms.map (Mw E g))=(cV (plain ms) k).map g:=by
 induction ms with
 |nil=>rfl
 |cons x ms ih=>
  simp only[cn,Dc,Mw,plain,cV];rw[FY];by_cases h:k=x.k
  ·simp[h]
  ·simp only[h,decide_false,cM,if_false];exact ih
theorem MapAt.get{h:ad}{r:Nat}{m:List (κ×β)}(hm:MapAt E g h r m)(k:κ)(z:β):tS E.ck (g z) h (some r) (E.enc k) (g ((cV m k).getD z)) (cV m k).isSome:=by
 obtain⟨ms,a,hm,rfl⟩:=hm;refine⟨_,_,hm.here,hm.keysOf,?_⟩;rw[OV];cases cV (plain ms) k<;>exact⟨rfl,rfl⟩
def vm(k:κ)(v:β)(a:Nat):List (Ent κ β)→List (Ent κ β)×Nat
 | []=>([⟨k,v,a⟩],a+1)
 |x::l=>if k=x.k then(⟨k,v,x.n⟩::l,a)else(x::(vm k v a l).1,(vm k v a l).2)
theorem P9(k:κ)(v:β)(a:Nat)(ms:List (Ent κ β)):Gb (E.enc k) (g v) a (ms.map (Mw E g))=((vm k v a ms).1.map (Mw E g),(vm k v a ms).2):=by
 induction ms with
 |nil=>rfl
 |cons x ms ih=>
  simp only[cn,Gb,vm];rw[ih,show(Mw E g x).key=E.enc x.k from rfl,FY]
  by_cases h:k=x.k
  ·simp[h,Mw]
  ·simp[h]
theorem Dl(k:κ)(v:β)(a:Nat)(ms:List (Ent κ β)):plain (vm k v a ms).1=m5 (plain ms) k v:=by
 induction ms with
 |nil=>rfl
 |cons x ms ih=>
  simp only[vm,plain,cn,m5];by_cases h:k=x.k
  ·simp[h]
  ·simp only[h,if_false,cn,List.cons.injEq,true_and];exact ih
theorem RE(k:κ)(v:β)(a:Nat)(ms:List (Ent κ β)):(vm k v a ms).1.map (·.n)=(if k∈ms.map (·.k)then ms.map (·.n)else ms.map (·.n)++ [a])∧(vm k v a ms).2=(if k∈ms.map (·.k)then a else a+1):=by
 induction ms with
 |nil=>exact⟨rfl,rfl⟩
 |cons x ms ih=>
  simp only[vm];by_cases h:k=x.k
  ·simp[h]
  ·simp only[h,if_false,cn,ih.1,ih.2,au,false_or,and_true]
   split<;>simp
theorem Qf{h:ad}{r:Nat}{ms:List (Ent κ β)}{a:Nat}(hm:MapE E g h r ms a)(k:κ)(v:β):kJ h r (E.enc k) (g v)=h.setIfInBounds r (.map ((vm k v a ms).1.map (Mw E g)).toArray (vm k v a ms).2):=by
 unfold kJ;rw[hm.here];simp only;rw[P9]
theorem MapE.put{h:ad}{r:Nat}{ms:List (Ent κ β)}{c:Nat}(hm:MapE E g h r ms c)(k:κ)(v:β):MapE E g (kJ h r (E.enc k) (g v)) r (vm k v c ms).1 (vm k v c ms).2:=by
 rw[Qf hm];have o:(vm k v c ms).1.map (·.k)=(plain (vm k v c ms).1).map (·.1):=by unfold plain;rw[kZ];rfl
 have i:(plain ms).map (·.1)=ms.map (·.k):=by unfold plain;rw[kZ];rfl
 have e:=RE k v c ms;have d:∀y∈ms.map (·.n),y<c:=fun y m=>by
  obtain⟨x,hx,rfl⟩:=dX.1 m;exact hm.old x hx
 refine⟨hT hm.here,?_,?_,?_⟩
 ·rw[o,Dl];exact KO (by rw[i];exact hm.keys)
 ·rw[e.1]
  split
  ·exact hm.nums
  ·rw[List.nodup_append]
   refine⟨hm.nums,by simp,?_⟩
   intro a n b j;simp only[aN]at j;have:=d a n;omega
 ·intro x hx
  have hx:x.n∈(vm k v c ms).1.map (·.n):=dX.2 ⟨x,hx,rfl⟩
  rw[e.1]at hx;rw[e.2];split
  ·rename_i hk;rw[if_pos hk]at hx;exact d _ hx
  ·rename_i hk
   rw[if_neg hk]at hx;rcases List.mem_append.1 hx with f|f
   ·have:=d _ f;omega
   ·simp only[aN]at f;omega
theorem MapAt.put{h:ad}{r:Nat}{m:List (κ×β)}(hm:MapAt E g h r m)(k:κ)(v:β):MapAt E g (kJ h r (E.enc k) (g v)) r (m5 m k v):=by
 obtain⟨ms,a,hm,rfl⟩:=hm;exact⟨_,_,hm.put k v,Dl ..⟩
theorem sI{M:Nat→Prop}(h:ad){r:Nat}(k v:Value)(a:M r):Upd M h (kJ h r k v):=by
 unfold kJ;split
 ·exact Upd.set h _ a
 ·exact Upd.refl _ _
theorem O1(k:κ){ms:List (Ent κ β)}(a:(ms.map (·.k)).Nodup):Dn (E.enc k) (ms.map (Mw E g))=(ms.filter fun x=>x.k≠k).map (Mw E g):=by
 induction ms with
 |nil=>rfl
 |cons x ms ih=>
  simp only[cn,lY]at a;simp only[cn,Dn,List.filter_cons];rw[show(Mw E g x).key=E.enc x.k from rfl,FY]
  by_cases h:k=x.k
  ·subst h
   simp only[decide_true,if_true,ne_eq,not_true_eq_false,decide_false,cM,if_false];congr 1
   rw[iJ.2];intro y b;simp only[decide_not,Bool.not_eq_eq_eq_not,Bool.not_true,decide_eq_false_iff_not];intro e;exact a.1 (e▸dX.2 ⟨y,b,rfl⟩)
  ·simp only[h,decide_false,cM,if_false,ne_eq,Ne.symm h,not_false_eq_true,decide_true,if_true,cn]
   rw[ih a.2]
theorem MapE.drop{h:ad}{r:Nat}{ms:List (Ent κ β)}{a:Nat}(hm:MapE E g h r ms a)(k:κ):MapE E g (CV h r (E.enc k)) r (ms.filter fun x=>x.k≠k) a:=by
 have e:CV h r (E.enc k)=h.setIfInBounds r (.map ((ms.filter fun x=>x.k≠k).map (Mw E g)).toArray a):=by
  unfold CV;rw[hm.here];simp only;rw[O1 k hm.keys]
 rw[e];refine⟨hT hm.here,hm.keys.sublist ((iI).map _),hm.nums.sublist ((iI).map _),fun x hx=>hm.old x ((List.mem_filter.1 hx).1)⟩
end
section
variable {κ β:Type} (E:KeyE κ) (g:β→Value)
def IterSt(h:ad)(i r:Nat)(m a:List (κ×β)):Prop:=
 ∃ms clock since seen last,MapE E g h r ms clock∧plain ms=m∧h[i]? =some (.mapIter (some r) since seen last)∧a=plain (ms.filter fun x=> !seen.contains x.n)∧∀x∈ms,x.n<since∧x.n<last
variable {E g}
theorem IterSt.at{h:ad}{i r:Nat}{m b:List (κ×β)}(hi:IterSt E g h i r m b):MapAt E g h r m:=by
 obtain⟨ms,a,c,d,last,hm,e,_⟩:=hi;exact⟨ms,a,hm,e⟩
theorem IterSt.upd{h h':ad}{i r:Nat}{m a:List (κ×β)}{M:Nat→Prop}(hi:IterSt E g h i r m a)(k:Upd M h h')(j:¬M i)(p:¬M r):IterSt E g h' i r m a:=by
 obtain⟨ms,c,b,d,last,hm,n,e,o,f⟩:=hi;exact⟨ms,c,b,d,last,⟨k.get hm.here p,hm.keys,hm.nums,hm.old⟩,n,k.get e j,o,f⟩
theorem IterSt.ne{h:ad}{i r:Nat}{m a:List (κ×β)}(hi:IterSt E g h i r m a):i≠r:=by
 obtain⟨ms,c,b,f,last,hm,k,d,n,j⟩:=hi;intro e;subst e;rw[hm.here]at d;cases d
theorem IterSt.nodup{h:ad}{i r:Nat}{m a:List (κ×β)}(hi:IterSt E g h i r m a):(a.map (·.1)).Nodup:=by
 obtain⟨ms,c,b,d,last,hm,k,f,e,j⟩:=hi;rw[e];unfold plain;rw[kZ];exact hm.keys.sublist ((iI).map _)
theorem MapAt.range{h:ad}{r:Nat}{m:List (κ×β)}(hm:MapAt E g h r m):∃a,(∃es,h[r]? =some (.map es a))∧IterSt E g (h.push (.mapIter (some r) a #[] a)) h.size r m m:=by
 obtain⟨ms,a,hm,b⟩:=hm;refine⟨a,⟨_,hm.here⟩,ms,a,a,#[],a,⟨(Upd.push No h _).get0 hm.here,hm.keys,hm.nums,hm.old⟩,b,mL h _,?_,fun x hx=>⟨hm.old x hx,hm.old x hx⟩⟩
 rw[show(fun x:Ent κ β=> !(#[]:Array Nat).contains x.n)=fun _=>true from funext fun x=>by simp,iJ.2 fun _ _=>rfl,b]
variable [DecidableEq κ]
end
end Go.Lift
namespace Go.Lift
open Go
end Go.Lift
