/- A part of the proof that the named laws of this program answer true, whatever the input. -/
import Derived.Test.YtcpiahjlddmfiaaGreatLift2
open Array renaming ext_getElem?→mZ,getElem?_setIfInBounds→c5,getElem?_eq_some_iff→cd
open Bool renaming eq_false_iff→kA,false_eq_true→di
open List renaming flatMap_cons→aK,length_append→ae,length_cons→aN,getElem?_append_left→ez,getElem?_append_right→ic,getElem?_eq_some_iff→bW,length_take→aJ,length_drop→aI,take_append_drop→aM,flatMap_append→bA,length_eq_zero_iff→co,getElem?_toArray→du,length_nil→cc,size_toArray→cP,take_append_of_le_length→eF,drop_eq_nil_of_le→fy,nil_append→gD,append_assoc→ao,take_left'→cX,drop_drop→cS,drop_left'→cn,drop_append_of_le_length→gc,mem_map→bE,map_map→lJ,nodup_nil→oa,map_cons→bT,nodup_cons→fH,mem_cons→aq,mem_singleton→aB,filter_eq_self→fB,filter_sublist→gM,mem_filter→cY
open Nat renaming lt_or_ge→bV,zero_add→aA,le_refl→aj,not_lt→gC,succ_mul→gQ,add_zero→df
open Option renaming some→bC
namespace Go.Lift
open Go
attribute [simp] ay ah
theorem aw{p:Prop}[Decidable p]{t e:Prop}(b:p→t)(a:¬p→e):CondP (decide p) t e:=CondP.intro (fun h=>b (of_decide_eq_true h)) (fun h=>a (of_decide_eq_false h))
theorem HC.mono{P:Program}{f:FuncId}{args:List Value}{ks:List Kind}{K g:uQ ks→ac→Prop}{h:ac}(hc:HC P f args ks K h)(c:∀t h',K t h'→g t h'):HC P f args ks g h:=by
 refine⟨fun w j=>?_⟩
 rcases hc.run w j with⟨b,a⟩|⟨v,d,b,a,t,n,m⟩
 ·exact .inl ⟨b,a.mono fun e d ⟨o,t,i,k⟩=>⟨o,t,i,c t _ k⟩⟩
 ·exact .inr ⟨v,d,b,a,t,n,c t _ m⟩
theorem Join.intro{T:Type}{a:T→ac→Prop}{k:(T→ac→Prop)→Prop}(J:T→ac→Prop)(c:∀R:T→ac→Prop,(∀t h,J t h→R t h)→k R)(b:∀t h,J t h→a t h):Join a k:=⟨c a b⟩
theorem Join.plain{T:Type}{a:T→ac→Prop}{k:(T→ac→Prop)→Prop}(h:k a):Join a k:=⟨h⟩
theorem LoopP.intro{T:Type}{F:(T→ac→Prop)→T→ac→Prop}{t:T}{h:ac}(Inv:T→ac→Prop)(m:T→ac→Nat)(f:Inv t h)
  (step:∀I:T→ac→Prop,∀t h,Inv t h→(∀a h',Inv a h'→m a h'<m t h→I a h')→F I t h):LoopP F t h:=by
 refine⟨fun I e=>?_⟩
 have key:∀n t h,m t h=n→Inv t h→I t h:=by
  intro n;induction n using Nat.strongRecOn with
  |_ n ih=>exact fun t h d hi=>e t h (step I t h hi fun a h' b c=>ih _ (d▸c) a h' rfl b)
 exact key _ t h rfl f
theorem LoopP.ghost{T G:Type}{F:(T→ac→Prop)→T→ac→Prop}{t:T}{h:ac}(Inv:G→T→ac→Prop)(m:G→Nat)(g:G)(f:Inv g t h)
  (step:∀I:T→ac→Prop,∀g t h,Inv g t h→(∀a b h',Inv a b h'→m a<m g→I b h')→F I t h):LoopP F t h:=by
 refine⟨fun I i=>?_⟩
 have key:∀n g t h,m g=n→Inv g t h→I t h:=by
  intro n;induction n using Nat.strongRecOn with
  |_ n ih=>exact fun g t h e hi=>i t h (step I g t h hi fun a b h' c d=>ih _ (e▸d) a b h' rfl c)
 exact key _ g t h rfl f
theorem HV.mk'{P:Program}{f:FuncId}{first cap:Array Value}{args:List Value}{ks:List Kind}{K:uQ ks→ac→Prop}{h:ac}(hc:HC P f (first.toList++args++cap.toList) ks K h):HV P (.func (.func f) first cap) args ks K h:=
 ⟨.inl ⟨f,first,cap,rfl,hc⟩⟩
@[simp] theorem bB(b o n:Nat):adr ⟨b,o,none⟩ n=⟨b,o+n,none⟩:=by
 cases n<;>rfl
@[simp] theorem wZ(a:Addr)(n:Nat):(adr a n).block=a.block:=by
 cases n<;>rfl
theorem bZ(h:ac):aH h=⟨h.size,0,none⟩:=rfl
theorem Ip{h:ac}{a:Addr}{v:Value}(hv:aX h a=some v):a.block<h.size:=by
 unfold aX at hv;rcases bV a.block h.size with b|b
 ·exact b
 ·rw[Array.getElem?_eq_none b]at hv;cases hv
theorem aL{h:ac}{b i:Nat}{c:Array Value}{e:TypeId}{fr:Nat×Nat}(hb:h[b]? =some (.cells c e fr)):aX h ⟨b,i,none⟩=c[i]?:=by
 unfold aX;rw[hb];rfl
theorem Dt{h h':ac}{c:Array Value}{e:TypeId}{fr:Nat×Nat}(hb:h'[h.size]? =some (.cells c e fr)) (i:Nat):aX h' (adr (aH h) i)=c[i]?:=by
 rw[bZ,bB,aL hb,aA]
theorem KO{h h':ac}{a:Addr}(hb:h'[a.block]? =h[a.block]?):aX h' a=aX h a:=by
 unfold aX;rw[hb]
theorem tO{h:ac}{b i:Nat}{c:Array Value}{e:TypeId}{fr:Nat×Nat}{v:Value}(hb:h[b]? =some (.cells c e fr)):
  hset h ⟨b,i,none⟩ v=h.setIfInBounds b (.cells (c.setIfInBounds i v) e fr):=by
 unfold hset;apply mZ;intro j;rw[Array.getElem?_modify,c5];by_cases d:b=j
 ·subst d
  have a:=(cd.1 hb).1;simp only[hb,if_true,a,Option.map_some];rfl
 ·simp[d]
theorem f6{h:ac}{b i:Nat}{c:Array Value}{e:TypeId}(hb:h[b]? =some (.cells c e (0,0))) (hi:i<c.size):Wr h ⟨b,i,none⟩:=by
 refine⟨⟨c[i],by rw[aL hb,Array.getElem?_eq_getElem hi]⟩,?_⟩
 unfold CB;rw[hb];simp
structure Upd(M:Nat→Prop)(h h':ac):Prop where
 size:h.size≤h'.size
 same:∀b,b<h.size→¬M b→h'[b]? =h[b]?
abbrev No:Nat→Prop:=fun _=>False
theorem Upd.refl(M:Nat→Prop)(h:ac):Upd M h h:=⟨aj _,fun _ _ _=>rfl⟩
theorem Upd.trans{M M':Nat→Prop}{h e d:ac}(k:Upd M h e)(l:Upd M' e d)(f:∀b,M' b→M b∨h.size≤b):Upd M h d:=
 ⟨Nat.le_trans k.size l.size,fun b hb c=>by
  rw[l.same b (Nat.lt_of_lt_of_le hb k.size) (fun hm=>(f b hm).elim c fun a=>absurd hb (gC.2 a)),k.same b hb c]⟩
theorem Upd.tr{M:Nat→Prop}{h b a:ac}(k:Upd M h b)(l:Upd M b a):Upd M h a:=k.trans l fun _ h=>.inl h
theorem Upd.mono{M M':Nat→Prop}{h h':ac}(k:Upd M h h')(d:∀b,M b→M' b∨h.size≤b):Upd M' h h':=
 ⟨k.size,fun b hb c=>k.same b hb fun hm=>(d b hm).elim c fun a=>absurd hb (gC.2 a)⟩
theorem Upd.wide{M:Nat→Prop}{h h':ac}(k:Upd No h h'):Upd M h h':=k.mono fun _ h=>h.elim
theorem Upd.get{M:Nat→Prop}{h h':ac}(k:Upd M h h'){b:Nat}{o:Obj}(a:h[b]? =some o) (c:¬M b):h'[b]? =some o:=by
 rw[k.same b (cd.1 a).1 c,a]
theorem Upd.get0{h h':ac}(k:Upd No h h'){b:Nat}{o:Obj}(a:h[b]? =some o):h'[b]? =some o:=k.get a id
theorem Upd.cell{M:Nat→Prop}{h h':ac}(k:Upd M h h'){a:Addr}{v:Value}(hv:aX h a=some v)(b:¬M a.block):aX h' a=some v:=by
 rw[KO (k.same _ (Ip hv) b),hv]
theorem Upd.cell0{h h':ac}(k:Upd No h h'){a:Addr}{v:Value}(hv:aX h a=some v):aX h' a=some v:=k.cell hv id
theorem Upd.push(M:Nat→Prop)(h:ac)(o:Obj):Upd M h (h.push o):=⟨by simp,fun b hb _=>by rw[Array.getElem?_push];simp[Nat.ne_of_lt hb]⟩
theorem Upd.set{M:Nat→Prop}(h:ac){b:Nat}(o:Obj)(hb:M b):Upd M h (h.setIfInBounds b o):=⟨by simp,fun c _ a=>by
 rw[c5]
 have:b≠c:=fun e=>a (e▸hb)
 simp[this]⟩
theorem Upd.hset{M:Nat→Prop}(h:ac){a:Addr}(v:Value)(hb:M a.block):Upd M h (hset h a v):=⟨by simp[Go.Lift.hset],fun c _ b=>by
 unfold Go.Lift.hset
 rw[Array.getElem?_modify]
 have:a.block≠c:=fun e=>b (e▸hb)
 simp[this]⟩
theorem Upd.hnew(M:Nat→Prop)(h:ac)(cs:List Value)(t:TypeId):Upd M h (hnew h cs t):=Upd.push M h _
theorem bG(h:ac)(cs:List Value)(t:TypeId):(hnew h cs t)[h.size]? =some (.cells cs.toArray t (0,0)):=by
 unfold hnew;simp
theorem tL(h:ac)(o:Obj):(h.push o)[h.size]? =some o:=by simp
theorem eI(h:ac)(cs:List Value)(t:TypeId):(hnew h cs t).size=h.size+1:=by
 unfold hnew;simp
theorem gg{h:ac}{b:Nat}{o a:Obj}(hb:h[b]? =some a):(h.setIfInBounds b o)[b]? =some o:=by
 rw[c5];simp[(cd.1 hb).1]
theorem bF{h:ac}{b:Nat}{o:Obj}(hb:h[b]? =some o):b<h.size:=(cd.1 hb).1
theorem Row.upd{M:Nat→Prop}{h h':ac}{a:Addr}{vs:List Value}(b:Row h a vs)(k:Upd M h h')(c:¬M a.block):Row h' a vs:=fun i v hv=>k.cell (b i v hv) (by rw[wZ];exact c)
theorem SRow.upd{M:Nat→Prop}{h h':ac}{a:Option Addr}{n:Nat}{vs:List Value}(c:SRow h a n vs)(k:Upd M h h')(f:vs≠[]→∀b,a=some b→¬M b.block):SRow h' a n vs:=by
 obtain⟨e,d⟩:=c;refine⟨e,?_⟩;rcases d with rfl|⟨b,hb,c⟩
 ·exact .inl rfl
 ·by_cases hv:vs= []
  ·exact .inl hv
  ·exact .inr ⟨b,hb,c.upd k (f hv b hb)⟩
theorem np{h:ac}{b o:Nat}{c:Array Value}{e:TypeId}{fr:Nat×Nat}(hb:h[b]? =some (.cells c e fr)) {vs:List Value} (hv:∀i v,vs[i]? =some v→c[o+i]? =some v):Row h ⟨b,o,none⟩ vs:=fun i v hi=>by
 rw[bB,aL hb];exact hv i v hi
structure Sl{α:Type}(f:α→List Value)(sz:Nat)(W:Nat→Prop)(h:ac)(s:SliceV)(xs:List α):Prop where
 len:s.len=xs.length
 ne:∀x,(f x).length=sz∧0<sz
 row:xs≠[]→∃a,s.a=some a∧¬W a.block∧Row h a (xs.flatMap f)
theorem Sl.nil{α:Type}{f:α→List Value}{b:Nat}{W:Nat→Prop}{h:ac}{a:Option Addr}{c:Nat}(d:∀x,(f x).length=b∧0<b):Sl f b W h ⟨a,0,c⟩ []:=⟨rfl,d,fun h=>absurd rfl h⟩
theorem Sl.lt{α:Type}{f:α→List Value}{i:Nat}{W:Nat→Prop}{h:ac}{s:SliceV}{xs:List α}(d:Sl f i W h s xs)(hx:xs≠[]){a:Addr}(e:s.a=some a):a.block<h.size:=by
 obtain⟨a',b,j,g⟩:=d.row hx;rw[e]at b;cases b;cases xs with
 |nil=>exact absurd rfl hx
 |cons x xs=>
  have c:=d.ne x;cases hf:f x with
  |nil=>rw[hf]at c;simp at c;omega
  |cons v vs=>
   have:=g 0 v (by rw[aK,hf];rfl);have:=Ip this;rw[wZ]at this;exact this
theorem Sl.upd{α:Type}{f:α→List Value}{i:Nat}{W M:Nat→Prop}{h h':ac}{s:SliceV}{xs:List α}(c:Sl f i W h s xs)(k:Upd M h h')(hm:∀b,M b→W b∨h.size≤b):Sl f i W h' s xs:=by
 refine⟨c.len,c.ne,fun hx=>?_⟩
 obtain⟨a,g,e,j⟩:=c.row hx;exact⟨a,g,e,j.upd k fun hb=>(hm _ hb).elim e fun d=>absurd (c.lt hx g) (gC.2 d)⟩
theorem Sl.less{α:Type}{f:α→List Value}{g:Nat}{W W':Nat→Prop}{h:ac}{s:SliceV}{xs:List α}(c:Sl f g W h s xs)(hm:∀b,W' b→W b∨h.size≤b):Sl f g W' h s xs:=
 ⟨c.len,c.ne,fun hx=>let⟨a,e,i,j⟩:=c.row hx;⟨a,e,fun hb=>(hm _ hb).elim i fun d=>absurd (c.lt hx e) (gC.2 d),j⟩⟩
theorem kS{α:Type}{f:α→List Value}{b:Nat}(a:∀x,(f x).length=b):∀xs:List α,(xs.flatMap f).length=xs.length*b
 | []=>by simp
 |x::xs=>by rw[aK,ae,a,kS a xs,aN,gQ];omega
theorem vS{α:Type}{f:α→List Value}{b:Nat}(a:∀x,(f x).length=b):∀(xs:List α) (i j:Nat) (x:α),xs[i]? =some x→j<b→(xs.flatMap f)[i*b+j]? =(f x)[j]?
 | [],i,j,x,h,_=>by simp at h
 |y::xs,0,j,x,h,hj=>by
  simp only[List.getElem?_cons_zero,bC.injEq]at h;subst h;rw[aK,Nat.zero_mul,aA,ez (by rw[a];exact hj)]
 |y::xs,i+1,j,x,h,hj=>by
  rw[List.getElem?_cons_succ]at h;rw[aK,ic (by rw[a,gQ];omega),a,show(i+1)*b+j-b=i*b+j by rw[gQ];omega]
  exact vS a xs i j x h hj
theorem Sl.at{α:Type}{f:α→List Value}{b:Nat}{W:Nat→Prop}{h:ac}{s:SliceV}{xs:List α}(c:Sl f b W h s xs){i:Nat}{x:α}(hi:xs[i]? =some x):
  ∃a,s.a=some a∧¬W a.block∧∀j v,(f x)[j]? =some v→aX h (adr (adr a (i*b)) j)=some v:=by
 obtain⟨a,k,d,m⟩:=c.row (fun e=>by subst e;simp at hi)
 refine⟨a,k,d,fun j v hv=>?_⟩
 have g:j<b:=by rw[←(c.ne x).1];exact(bW.1 hv).1
 rw[zD];exact m _ v (by rw[vS (fun x=>(c.ne x).1) xs i j x hi g];exact hv)
theorem Sl.at0{α:Type}{g:α→Value}{W:Nat→Prop}{h:ac}{s:SliceV}{xs:List α}(e:Sl (fun x=> [g x]) 1 W h s xs){i:Nat}{x:α}(hi:xs[i]? =some x):
  ∃a,s.a=some a∧¬W a.block∧aX h (adr a (i*1))=some (g x):=by
 obtain⟨a,c,d,b⟩:=e.at hi;exact⟨a,c,d,b 0 _ rfl⟩
theorem Sl.srow{α:Type}{f:α→List Value}{c:Nat}{W:Nat→Prop}{h:ac}{s:SliceV}{xs:List α}(b:Sl f c W h s xs):SRow h s.a (s.len*c) (xs.flatMap f):=by
 refine⟨?_,?_⟩
 ·rw[b.len,kS fun x=>(b.ne x).1]
 ·by_cases hx:xs= []
  ·subst hx;exact .inl rfl
  ·obtain⟨a,e,_,d⟩:=b.row hx
   exact .inr ⟨a,e,d⟩
theorem Sl.sub{α:Type}{f:α→List Value}{b:Nat}{W:Nat→Prop}{h:ac}{s:SliceV}{xs:List α}(d:Sl f b W h s xs){l hi m c:Nat}(q:l≤hi)(g:hi≤xs.length)(t:hi≤m):
  Sl f b W h ⟨aS s.a l m b,hi-l,c⟩ ((xs.drop l).take (hi-l)):=by
 refine⟨by simp only[aJ,aI];omega,d.ne,fun hx=>?_⟩
 have k:l<hi:=by
  rcases bV l hi with h|h
  ·exact h
  ·rw[Nat.sub_eq_zero_of_le h]at hx;exact absurd List.take_zero hx
 obtain⟨a,o,j,p⟩:=d.row (fun e=>by rw[e]at g;simp at g;omega)
 refine⟨adr a (l*b),?_,by rw[wZ];exact j,fun i v hv=>?_⟩
 ·unfold aS
  rw[if_neg (by omega),o];rfl
 ·rw[zD]
  refine p _ v ?_;have e:xs=xs.take l++((xs.drop l).take (hi-l)++(xs.drop l).drop (hi-l)):=by rw[aM,aM]
  rw[e,bA,bA];have n:((xs.take l).flatMap f).length=l*b:=by rw[kS fun x=>(d.ne x).1,aJ];congr 1;omega
  rw[ic (by omega),n,Nat.add_sub_cancel_left,ez (bW.1 hv).1];exact hv
structure OwnS{α:Type}(f:α→List Value)(sz:Nat)(t:TypeId)(M:Nat→Prop)(h:ac)(s:SliceV)(xs:List α):Prop where
 len:s.len=xs.length
 ne:∀x,(f x).length=sz∧0<sz
 cap:s.len≤s.cap
 blk:s.cap=0∨∃b rest,s.a=some ⟨b,0,none⟩∧M b∧h[b]? =some (.cells (xs.flatMap f++rest).toArray t (0,0))∧rest.length=(s.cap-s.len)*sz
theorem OwnS.nil{α:Type}{f:α→List Value}{b:Nat}{t:TypeId}{M:Nat→Prop}{h:ac}{a:Option Addr}(c:∀x,(f x).length=b∧0<b):OwnS f b t M h ⟨a,0,0⟩ []:=⟨rfl,c,aj _,.inl rfl⟩
theorem OwnS.sl{α:Type}{f:α→List Value}{d:Nat}{t:TypeId}{M W:Nat→Prop}{h:ac}{s:SliceV}{xs:List α}(a:OwnS f d t M h s xs)(hm:∀b,M b→b<h.size→¬W b):Sl f d W h s xs:=by
 refine⟨a.len,a.ne,fun hx=>?_⟩
 rcases a.blk with g|⟨b,c,e,hb,hc,_⟩
 ·have:=a.len;have:=a.cap
  have:xs.length=0:=by omega
  exact absurd (co.1 this) hx
 ·exact⟨_,e,hm b hb (bF hc),np hc fun i v hv=>by
   rw[aA,du,ez (bW.1 hv).1];exact hv⟩
theorem OwnS.upd{α:Type}{f:α→List Value}{d:Nat}{t:TypeId}{M M':Nat→Prop}{h h':ac}{s:SliceV}{xs:List α}(c:OwnS f d t M h s xs)(k:Upd M' h h')(hm:∀b,M b→¬M' b):OwnS f d t M h' s xs:=by
 refine⟨c.len,c.ne,c.cap,c.blk.imp id fun⟨b,a,e,hb,hc,g⟩=>⟨b,a,e,hb,k.get hc (hm b hb),g⟩⟩
theorem OwnS.more{α:Type}{f:α→List Value}{d:Nat}{t:TypeId}{M M':Nat→Prop}{h:ac}{s:SliceV}{xs:List α}(c:OwnS f d t M h s xs)(hm:∀b,M b→M' b):OwnS f d t M' h s xs:=by
 refine⟨c.len,c.ne,c.cap,c.blk.imp id fun⟨b,a,e,hb,hc,g⟩=>⟨b,a,e,hm b hb,hc,g⟩⟩
theorem OwnS.within{α:Type}{f:α→List Value}{d:Nat}{t:TypeId}{M:Nat→Prop}{h:ac}{s:SliceV}{xs:List α}(c:OwnS f d t M h s xs):OwnS f d t (fun b=>M b∧b<h.size) h s xs:=by
 refine⟨c.len,c.ne,c.cap,c.blk.imp id fun⟨b,a,e,hb,hc,g⟩=>⟨b,a,e,⟨hb,bF hc⟩,hc,g⟩⟩
theorem gj{b:Nat}{t:TypeId}:∀(vs:List Value) (h:ac) (i o:Nat) (c:List Value),h[b]? =some (.cells c.toArray t (0,0))→o+i+vs.length≤c.length→
  iJ h ⟨b,o,none⟩ i vs=h.setIfInBounds b (.cells (c.take (o+i)++vs++c.drop (o+i+vs.length)).toArray t (0,0))
 | [],h,i,o,c,hb,hl=>by
  simp only[iJ,List.append_nil,cc,df,aM];apply mZ;intro j;rw[c5];split
  ·rename_i e;subst e;rw[hb];simp[bF hb]
  ·rfl
 |v::vs,h,i,o,c,hb,hl=>by
  rw[aN]at hl;simp only[iJ];rw[bB,tO hb];have a:(h.setIfInBounds b (.cells (c.toArray.setIfInBounds (o+i) v) t (0,0)))[b]? =some (.cells (c.set (o+i) v).toArray t (0,0)):=by
   rw[gg hb];simp
  rw[gj vs _ (i+1) o (c.set (o+i) v) a (by simp;omega)];have e:∀(x y:Obj),(h.setIfInBounds b x).setIfInBounds b y=h.setIfInBounds b y:=fun x y=>by
   apply mZ;intro j;simp only[c5,Array.size_setIfInBounds];split<;>rfl
  rw[e];congr 3
  apply List.ext_getElem?;intro j;simp only[List.getElem?_append,ae,aJ,List.length_set,aN,List.getElem?_take,List.getElem?_set,List.getElem?_drop];grind
theorem jG(n:Nat)(z:List Value):(c8 n z).length=n*z.length:=by
 unfold c8;induction n with
 |zero=>simp
 |succ n ih=>rw[List.replicate_succ,List.flatten_cons,ae,ih,gQ];omega
theorem AppP.own{α:Type}{f:α→List Value}{i g:Nat}{t:TypeId}{M:Nat→Prop}{h:ac}{d:Option Addr}{sl k N:Nat}{xs ys:List α}{o z:List Value}{K:SliceV→ac→Prop}
  (n:OwnS f i t M h ⟨d,sl,k⟩ xs)(m:N=ys.length)(G:o=ys.flatMap f)(A:bU o=true)(P:z.length=i)(hb:0<g)(p:(xs.length+ys.length)*g≤140737488355328)(hM:M h.size)
  (H:∀s' h',OwnS f i t M h' s' (xs++ys)→Upd M h h'→K s' h'):AppP (some z) i g t d sl k N o h K:=by
 have a:sl=xs.length:=n.len;have q:∀x,(f x).length=i:=fun x=>(n.ne x).1
 subst m G;have u:=kS q ys;have m:=kS q xs;refine⟨fun y=>?_,fun s=>?_⟩
 ·rcases n.blk with E|⟨b,c,I,v,hc,B⟩
  ·have E:k=0:=E
   have D:ys.length=0:=by omega
   have F:xs.length=0:=by omega
   have R:=co.1 D;have hx:=co.1 F;subst R hx;refine⟨.inl rfl,rfl,?_⟩;have e:eW h d (sl*i) (([]:List α).flatMap f)=h:=by cases d<;>rfl
   rw[e];exact H _ _ ⟨by simp[a],n.ne,by simp only[cc];omega,.inl E⟩ (Upd.refl _ _)
  ·have I:d=some ⟨b,0,none⟩:=I
   have B:c.length=(k-sl)*i:=B;subst I;have O:sl+ys.length≤k:=y;have T:ys.length*i≤c.length:=by rw[B];exact Nat.mul_le_mul_right _ (Nat.le_sub_of_add_le (show ys.length+sl≤k by omega))
   have w:0+sl*i+(ys.flatMap f).length≤(xs.flatMap f++c).length:=by
    rw[ae,m,u,a];omega
   refine⟨.inr ⟨_,rfl,fun j U=>?_⟩,A,?_⟩
   ·rw[bB]
    refine f6 hc ?_;rw[cP];omega
   ·have e:eW h (some ⟨b,0,none⟩) (sl*i) (ys.flatMap f)=_:=gj (ys.flatMap f) h (sl*i) 0 _ hc w
    rw[e];have L:(xs.flatMap f++c).take (0+sl*i)=xs.flatMap f:=by
     rw[aA,a,←m,eF (aj _),List.take_length]
    have C:(xs.flatMap f++c).drop (0+sl*i+(ys.flatMap f).length)=c.drop (ys.length*i):=by
     rw[aA,a,←m,List.drop_append,fy (by omega),gD,u];congr 1;omega
    rw[L,C];refine H _ _ ⟨by simp[a],n.ne,y,.inr ⟨b,c.drop (ys.length*i),rfl,v,?_,?_⟩⟩ (Upd.set h _ v)
    ·rw[gg hc,bA]
    ·rw[aI,B]
     simp only;rw[show k-(sl+ys.length)=(k-sl)-ys.length by omega,Nat.sub_mul (k-sl)]
 ·have S:k*1≤k:=by omega
  refine⟨xs.flatMap f,z,?_,rfl,hb,Go.growslice_fits s (by rw[a];exact p),fun Q J=>?_⟩
  ·exact(n.sl (W:=No) fun _ _ _=>id).srow
  ·refine H _ _ ⟨by simp[a],n.ne,J,.inr ⟨h.size,c8 (Q-(sl+ys.length)) z,rfl,hM,?_,?_⟩⟩ (Upd.hnew M h _ _)
   ·rw[bG,bA]
   ·rw[jG,P]
end Go.Lift
namespace Go.Lift
open Go
theorem bq{h:ac}{k:ac→Prop}(a:k h):At h k:=a
theorem i9{b o l m a:Nat}(h:m≠l):aS (some ⟨b,o,none⟩) l m a=some ⟨b,o+l*a,none⟩:=by simp[aS,h,bB]
theorem sub_zero{b m a:Nat}:aS (some ⟨b,0,none⟩) 0 m a=some ⟨b,0,none⟩:=by
 unfold aS;split
 ·rfl
 ·simp[bB]
theorem jJ{h:ac}{b:Nat}{c:List Value}{t:TypeId}{o n:Nat}{vs:List Value}{a:Option Addr}{k:ac→Prop}(d:SRow h a n vs)(i:bU vs=true)(hb:h[b]? =some (.cells c.toArray t (0,0)))
  (m:o+n≤c.length) (f:∀h',h'[b]? =some (.cells (c.take o++vs++c.drop (o+n)).toArray t (0,0))→Upd (· =b) h h'→k h'):
  ∃xs,SRow h a n xs∧uj h (some ⟨b,o,none⟩) 0 xs∧bU xs=true∧At (eW h (some ⟨b,o,none⟩) 0 xs) k:=by
 have g:=d.1;refine⟨vs,d,.inr ⟨_,rfl,fun j p=>?_⟩,i,bq ?_⟩
 ·rw[bB];exact f6 hb (by rw[cP];omega)
 ·have e:eW h (some ⟨b,o,none⟩) 0 vs=_:=gj vs h 0 o c hb (by omega)
  rw[e];refine f _ ?_ (Upd.set h _ rfl);rw[gg hb,df,g]
theorem kK{h:ac}{b:Nat}{c:List Value}{t:TypeId}{o n:Nat}{vs:List Value}(hb:h[b]? =some (.cells c.toArray t (0,0))) (a:vs.length=n) (d:(c.drop o).take n=vs):SRow h (some ⟨b,o,none⟩) n vs:=by
 refine⟨a,.inr ⟨_,rfl,np hb fun i v hv=>?_⟩⟩
 rw[du,←List.getElem?_drop];have:((c.drop o).take n)[i]? =some v:=by rw[d];exact hv
 rw[List.getElem?_take]at this;split at this
 ·exact this
 ·cases this
section
variable {α:Type} {f:α→List Value} {sz:Nat}
theorem ko(a:∀x,(f x).length=sz∧0<sz)(xs:List α):(xs.flatMap f).length=xs.length*sz:=kS (fun x=>(a x).1) xs
theorem yq(xs:List α)(k:Nat):xs.flatMap f=(xs.take k).flatMap f++(xs.drop k).flatMap f:=by rw[←bA,aM]
end
theorem GG{α:Type}{A X B Z1 Z2:List α}{p q r:Nat}(b:A.length=p)(e:X.length=q)(f:Z1.length=r+q):
  (((A++Z1++Z2).take p++X++(A++Z1++Z2).drop (p+q)).take (p+q))++B++((A++Z1++Z2).take p++X++(A++Z1++Z2).drop (p+q)).drop (p+q+r)=A++(X++B)++Z2:=by
 have d:(A++Z1++Z2).take p=A:=by rw[ao,cX b]
 have c:(A++Z1++Z2).drop (p+q)=Z1.drop q++Z2:=by
  rw[ao,←cS,cn b,gc (by omega)]
 have a:(A++X).length=p+q:=by rw[ae];omega
 rw[d,c,cX a,←cS,cn a,gc (by rw[aI];omega),cS,fy (by omega),gD];simp only[ao]
theorem KK{α:Type}{A X B R:List α}{p q r:Nat}(a:A.length=p)(e:B.length=r)(f:q≤R.length):
  (((A++B++R).take (p+q)++B++(A++B++R).drop (p+q+r)).take p)++X++((A++B++R).take (p+q)++B++(A++B++R).drop (p+q+r)).drop (p+q)=A++(X++B)++R.drop q:=by
 have b:((A++B++R).take (p+q)).length=p+q:=by rw[aJ,ae,ae];omega
 have d:(A++B++R).drop (p+q+r)=R.drop q:=by
  rw[show p+q+r=(p+r)+q by omega,←cS,cn (by rw[ae];omega)]
 have c:((A++B++R).take (p+q)++(B++(A++B++R).drop (p+q+r))).take p=A:=by
  rw[eF (by omega),List.take_take,Nat.min_eq_left (by omega),ao,cX a]
 rw[ao ((A++B++R).take (p+q)),c,cn b,d];simp only[ao]
theorem PY{h:ac}{b:Nat}{c:List Value}{t n:TypeId}{d a sl f g:Nat}{xs:List Value}{z:Option (List Value)}{K:SliceV→ac→Prop}(hb:h[b]? =some (.cells c.toArray t (0,0)))
  (o:sl*d+xs.length≤c.length) (i:sl+g≤f) (m:bU xs=true) (k:∀h',h'[b]? =some (.cells (c.take (sl*d)++xs++c.drop (sl*d+xs.length)).toArray t (0,0))→Upd (· =b) h h'→K ⟨some ⟨b,0,none⟩,sl+g,f⟩ h'):
  AppP z d a n (some ⟨b,0,none⟩) sl f g xs h K:=by
 refine⟨fun _=>⟨.inr ⟨_,rfl,fun j p=>?_⟩,m,?_⟩,fun h=>by omega⟩
 ·rw[bB];exact f6 hb (by rw[cP];omega)
 ·have e:eW h (some ⟨b,0,none⟩) (sl*d) xs=_:=gj xs h (sl*d) 0 c hb (by omega)
  rw[e];refine k _ ?_ (Upd.set h _ rfl);rw[gg hb,aA]
theorem Gp{h:ac}{b:Nat}{c:List Value}{t:TypeId}{o:Nat}{vs:List Value}{k:ac→Prop}(hb:h[b]? =some (.cells c.toArray t (0,0)))
  (d:o+vs.length≤c.length) (a:∀h',h'[b]? =some (.cells (c.take o++vs++c.drop (o+vs.length)).toArray t (0,0))→Upd (· =b) h h'→k h'):
  uj h (some ⟨b,o,none⟩) 0 vs∧At (eW h (some ⟨b,o,none⟩) 0 vs) k:=by
 refine⟨.inr ⟨_,rfl,fun j f=>?_⟩,bq ?_⟩
 ·rw[bB];exact f6 hb (by rw[cP];omega)
 ·have e:eW h (some ⟨b,o,none⟩) 0 vs=_:=gj vs h 0 o c hb (by omega)
  rw[e];refine a _ ?_ (Upd.set h _ rfl);rw[gg hb,df]
end Go.Lift
namespace Go.Lift
open Go
structure KeyE(κ:Type) where
 enc:κ→Value
 ck:CK
 den:∀x,∃d:ck.den,enc x=ck.enc d
 same:∀x y,fo (enc x) (enc y)=true↔x=y
def UG(k:IntKind):KeyE Int:=⟨fun x=>.int k x,.int k,fun x=>⟨x,rfl⟩,fun x y=>by simp[fo]⟩
section
variable {κ β:Type}
structure Ent(κ β:Type) where
 k:κ
 v:β
 n:Nat
variable (E:KeyE κ) (g:β→Value)
def AJ(x:Ent κ β):MapEntry:={key:=E.enc x.k,val:=g x.v,born:=x.n}
structure MapE(h:ac)(r:Nat)(ms:List (Ent κ β))(clock:Nat):Prop where
 here:h[r]? =some (.map (ms.map (AJ E g)).toArray clock)
 keys:(ms.map (·.k)).Nodup
 nums:(ms.map (·.n)).Nodup
 old:∀x∈ms,x.n<clock
def plain(ms:List (Ent κ β)):List (κ×β):=ms.map fun x=>(x.k,x.v)
def MapAt(h:ac)(r:Nat)(m:List (κ×β)):Prop:=∃ms clock,MapE E g h r ms clock∧plain ms=m
variable {E g}
theorem MapE.keysOf{h:ac}{r:Nat}{ms:List (Ent κ β)}{a:Nat}(_:MapE E g h r ms a):keysOf E.ck (ms.map (AJ E g)).toArray.toList:=by
 intro e b;simp only[bE]at b;obtain⟨x,_,rfl⟩:=b;exact E.den x.k
theorem MapAt.isMap{h:ac}{r:Nat}{m:List (κ×β)}(hm:MapAt E g h r m):ru E.ck h r:=by
 obtain⟨ms,a,hm,_⟩:=hm;exact⟨_,_,hm.here,hm.keysOf⟩
theorem MapAt.len{h:ac}{r:Nat}{m:List (κ×β)}(hm:MapAt E g h r m):A9 h (some r) m.length:=by
 obtain⟨ms,a,hm,rfl⟩:=hm;exact⟨_,_,hm.here,by simp[plain]⟩
theorem MapAt.nodup{h:ac}{r:Nat}{m:List (κ×β)}(hm:MapAt E g h r m):(m.map (·.1)).Nodup:=by
 obtain⟨ms,a,hm,rfl⟩:=hm;have:=hm.keys;unfold plain;rw[lJ];exact this
theorem MapAt.lt{h:ac}{r:Nat}{m:List (κ×β)}(hm:MapAt E g h r m):r<h.size:=by
 obtain⟨ms,a,hm,_⟩:=hm;exact bF hm.here
theorem MapAt.upd{h h':ac}{r:Nat}{m:List (κ×β)}{M:Nat→Prop}(hm:MapAt E g h r m)(k:Upd M h h')(b:¬M r):MapAt E g h' r m:=by
 obtain⟨ms,a,hm,e⟩:=hm;exact⟨ms,a,⟨k.get hm.here b,hm.keys,hm.nums,hm.old⟩,e⟩
theorem MapAt.new(h:ac):MapAt E g (h.push (.map #[] 0)) h.size []:=
 ⟨[],0,⟨tL h _,oa,oa,fun _ h=>by cases h⟩,rfl⟩
variable [DecidableEq κ]
def cE:List (κ×β)→κ→Option β
 | [],_=>none
 |(k',v)::l,k=>if k=k' then some v else cE l k
def jZ:List (κ×β)→κ→β→List (κ×β)
 | [],k,v=> [(k,v)]
 |(k',u)::l,k,v=>if k=k' then(k,v)::l else(k',u)::jZ l k v
def Ta(l:List (κ×β))(k:κ):List (κ×β):=l.filter fun p=>p.1≠k
theorem FS(l:List (κ×β))(k:κ)(v:β)(j:κ):cE (jZ l k v) j=if j=k then some v else cE l j:=by
 induction l with
 |nil=>simp[jZ,cE]
 |cons p l ih=>
  obtain⟨k',u⟩:=p;simp only[jZ];split
  ·rename_i e;subst e;simp only[cE];split<;>rfl
  ·rename_i e
   simp only[cE,ih];by_cases a:j=k'
   ·subst a;simp[Ne.symm e]
   ·simp[a]
theorem m9{l:List (κ×β)}{k:κ}{v:β}(a:(l.map (·.1)).Nodup):cE l k=some v↔(k,v)∈l:=by
 induction l with
 |nil=>simp[cE]
 |cons p l ih=>
  obtain⟨k',u⟩:=p;simp only[bT,fH]at a;simp only[cE,aq,Prod.mk.injEq];by_cases b:k=k'
  ·subst b
   simp only[if_true,bC.injEq,true_and];constructor
   ·exact fun e=>.inl e.symm
   ·rintro(e|e)
    ·exact e.symm
    ·exact absurd (bE.2 ⟨_,e,rfl⟩) a.1
  ·simp[b,ih a.2]
theorem hJ{l:List (κ×β)}{k:κ}:cE l k=none↔k∉l.map (·.1):=by
 induction l with
 |nil=>simp[cE]
 |cons p l ih=>
  obtain⟨k',u⟩:=p;simp only[cE,bT,aq,not_or];by_cases a:k=k'
  ·simp[a]
  ·simp[a,ih]
theorem tR(l:List (κ×β))(k:κ)(v:β):(jZ l k v).map (·.1)=if k∈l.map (·.1)then l.map (·.1)else l.map (·.1)++ [k]:=by
 induction l with
 |nil=>simp[jZ]
 |cons p l ih=>
  obtain⟨k',u⟩:=p;simp only[jZ];by_cases a:k=k'
  ·simp[a]
  ·simp only[a,if_false,bT,ih,aq,false_or]
   split<;>simp
theorem K9{l:List (κ×β)}{k:κ}{v:β}(h:(l.map (·.1)).Nodup):((jZ l k v).map (·.1)).Nodup:=by
 rw[tR];split
 ·exact h
 ·rename_i hn
  rw[List.nodup_append];refine⟨h,by simp,?_⟩
  intro a c b hb;simp only[aB]at hb;subst hb;intro e;subst e;exact hn c
theorem Gg(x y:κ):fo (E.enc x) (E.enc y)=decide (x=y):=by
 by_cases h:x=y
 ·rw[decide_eq_true h];exact(E.same x y).2 h
 ·rw[decide_eq_false h];exact kA.2 fun e=>h ((E.same x y).1 e)
theorem PE(k:κ)(ms:List (Ent κ β)):Dx (E.enc k) (ms.map (AJ E g))=(cE (plain ms) k).map g:=by
 induction ms with
 |nil=>rfl
 |cons x ms ih=>
  simp only[bT,Dx,AJ,plain,cE];rw[Gg];by_cases h:k=x.k
  ·simp[h]
  ·simp only[h,decide_false,di,if_false];exact ih
theorem MapAt.get{h:ac}{r:Nat}{m:List (κ×β)}(hm:MapAt E g h r m)(k:κ)(z:β):j1 E.ck (g z) h (some r) (E.enc k) (g ((cE m k).getD z)) (cE m k).isSome:=by
 obtain⟨ms,a,hm,rfl⟩:=hm;refine⟨_,_,hm.here,hm.keysOf,?_⟩;rw[PE];cases cE (plain ms) k<;>exact⟨rfl,rfl⟩
def ws(k:κ)(v:β)(a:Nat):List (Ent κ β)→List (Ent κ β)×Nat
 | []=>([⟨k,v,a⟩],a+1)
 |x::l=>if k=x.k then(⟨k,v,x.n⟩::l,a)else(x::(ws k v a l).1,(ws k v a l).2)
theorem Q7(k:κ)(v:β)(a:Nat)(ms:List (Ent κ β)):Gq (E.enc k) (g v) a (ms.map (AJ E g))=((ws k v a ms).1.map (AJ E g),(ws k v a ms).2):=by
 induction ms with
 |nil=>rfl
 |cons x ms ih=>
  simp only[bT,Gq,ws];rw[ih,show(AJ E g x).key=E.enc x.k from rfl,Gg]
  by_cases h:k=x.k
  ·simp[h,AJ]
  ·simp[h]
theorem DH(k:κ)(v:β)(a:Nat)(ms:List (Ent κ β)):plain (ws k v a ms).1=jZ (plain ms) k v:=by
 induction ms with
 |nil=>rfl
 |cons x ms ih=>
  simp only[ws,plain,bT,jZ];by_cases h:k=x.k
  ·simp[h]
  ·simp only[h,if_false,bT,List.cons.injEq,true_and];exact ih
theorem SV(k:κ)(v:β)(a:Nat)(ms:List (Ent κ β)):(ws k v a ms).1.map (·.n)=(if k∈ms.map (·.k)then ms.map (·.n)else ms.map (·.n)++ [a])∧(ws k v a ms).2=(if k∈ms.map (·.k)then a else a+1):=by
 induction ms with
 |nil=>exact⟨rfl,rfl⟩
 |cons x ms ih=>
  simp only[ws];by_cases h:k=x.k
  ·simp[h]
  ·simp only[h,if_false,bT,ih.1,ih.2,aq,false_or,and_true]
   split<;>simp
theorem Rj{h:ac}{r:Nat}{ms:List (Ent κ β)}{a:Nat}(hm:MapE E g h r ms a)(k:κ)(v:β):kP h r (E.enc k) (g v)=h.setIfInBounds r (.map ((ws k v a ms).1.map (AJ E g)).toArray (ws k v a ms).2):=by
 unfold kP;rw[hm.here];simp only;rw[Q7]
theorem MapE.put{h:ac}{r:Nat}{ms:List (Ent κ β)}{c:Nat}(hm:MapE E g h r ms c)(k:κ)(v:β):MapE E g (kP h r (E.enc k) (g v)) r (ws k v c ms).1 (ws k v c ms).2:=by
 rw[Rj hm];have m:(ws k v c ms).1.map (·.k)=(plain (ws k v c ms).1).map (·.1):=by unfold plain;rw[lJ];rfl
 have j:(plain ms).map (·.1)=ms.map (·.k):=by unfold plain;rw[lJ];rfl
 have e:=SV k v c ms;have d:∀y∈ms.map (·.n),y<c:=fun y n=>by
  obtain⟨x,hx,rfl⟩:=bE.1 n;exact hm.old x hx
 refine⟨gg hm.here,?_,?_,?_⟩
 ·rw[m,DH];exact K9 (by rw[j];exact hm.keys)
 ·rw[e.1]
  split
  ·exact hm.nums
  ·rw[List.nodup_append]
   refine⟨hm.nums,by simp,?_⟩
   intro a i b hb;simp only[aB]at hb;have:=d a i;omega
 ·intro x hx
  have hx:x.n∈(ws k v c ms).1.map (·.n):=bE.2 ⟨x,hx,rfl⟩
  rw[e.1]at hx;rw[e.2];split
  ·rename_i hk;rw[if_pos hk]at hx;exact d _ hx
  ·rename_i hk
   rw[if_neg hk]at hx;rcases List.mem_append.1 hx with f|f
   ·have:=d _ f;omega
   ·simp only[aB]at f;omega
theorem MapAt.put{h:ac}{r:Nat}{m:List (κ×β)}(hm:MapAt E g h r m)(k:κ)(v:β):MapAt E g (kP h r (E.enc k) (g v)) r (jZ m k v):=by
 obtain⟨ms,a,hm,rfl⟩:=hm;exact⟨_,_,hm.put k v,DH ..⟩
theorem pt{M:Nat→Prop}(h:ac){r:Nat}(k v:Value)(a:M r):Upd M h (kP h r k v):=by
 unfold kP;split
 ·exact Upd.set h _ a
 ·exact Upd.refl _ _
theorem PK(k:κ){ms:List (Ent κ β)}(a:(ms.map (·.k)).Nodup):DI (E.enc k) (ms.map (AJ E g))=(ms.filter fun x=>x.k≠k).map (AJ E g):=by
 induction ms with
 |nil=>rfl
 |cons x ms ih=>
  simp only[bT,fH]at a;simp only[bT,DI,List.filter_cons];rw[show(AJ E g x).key=E.enc x.k from rfl,Gg]
  by_cases h:k=x.k
  ·subst h
   simp only[decide_true,if_true,ne_eq,not_true_eq_false,decide_false,di,if_false];congr 1
   rw[fB.2];intro y b;simp only[decide_not,Bool.not_eq_eq_eq_not,Bool.not_true,decide_eq_false_iff_not];intro e;exact a.1 (e▸bE.2 ⟨y,b,rfl⟩)
  ·simp only[h,decide_false,di,if_false,ne_eq,Ne.symm h,not_false_eq_true,decide_true,if_true,bT]
   rw[ih a.2]
theorem MapE.drop{h:ac}{r:Nat}{ms:List (Ent κ β)}{a:Nat}(hm:MapE E g h r ms a)(k:κ):MapE E g (BF h r (E.enc k)) r (ms.filter fun x=>x.k≠k) a:=by
 have e:BF h r (E.enc k)=h.setIfInBounds r (.map ((ms.filter fun x=>x.k≠k).map (AJ E g)).toArray a):=by
  unfold BF;rw[hm.here];simp only;rw[PK k hm.keys]
 rw[e];refine⟨gg hm.here,hm.keys.sublist ((gM).map _),hm.nums.sublist ((gM).map _),fun x hx=>hm.old x ((cY.1 hx).1)⟩
theorem Gr(k:κ)(ms:List (Ent κ β)):plain (ms.filter fun x=>x.k≠k)=Ta (plain ms) k:=by
 unfold plain Ta;rw[List.filter_map];rfl
end
section
variable {κ β:Type} (E:KeyE κ) (g:β→Value)
def IterSt(h:ac)(i r:Nat)(m a:List (κ×β)):Prop:=
 ∃ms clock since seen last,MapE E g h r ms clock∧plain ms=m∧h[i]? =some (.mapIter (some r) since seen last)∧a=plain (ms.filter fun x=> !seen.contains x.n)∧∀x∈ms,x.n<since∧x.n<last
variable {E g}
theorem IterSt.at{h:ac}{i r:Nat}{m b:List (κ×β)}(hi:IterSt E g h i r m b):MapAt E g h r m:=by
 obtain⟨ms,a,c,d,last,hm,e,_⟩:=hi;exact⟨ms,a,hm,e⟩
theorem IterSt.upd{h h':ac}{i r:Nat}{m a:List (κ×β)}{M:Nat→Prop}(hi:IterSt E g h i r m a)(k:Upd M h h')(f:¬M i)(e:¬M r):IterSt E g h' i r m a:=by
 obtain⟨ms,c,b,d,last,hm,o,hb,n,j⟩:=hi;exact⟨ms,c,b,d,last,⟨k.get hm.here e,hm.keys,hm.nums,hm.old⟩,o,k.get hb f,n,j⟩
theorem IterSt.ne{h:ac}{i r:Nat}{m a:List (κ×β)}(hi:IterSt E g h i r m a):i≠r:=by
 obtain⟨ms,c,b,d,last,hm,k,hb,j,f⟩:=hi;intro e;subst e;rw[hm.here]at hb;cases hb
theorem IterSt.nodup{h:ac}{i r:Nat}{m a:List (κ×β)}(hi:IterSt E g h i r m a):(a.map (·.1)).Nodup:=by
 obtain⟨ms,c,b,d,last,hm,j,hb,e,f⟩:=hi;rw[e];unfold plain;rw[lJ];exact hm.keys.sublist ((gM).map _)
theorem MapAt.range{h:ac}{r:Nat}{m:List (κ×β)}(hm:MapAt E g h r m):∃a,(∃es,h[r]? =some (.map es a))∧IterSt E g (h.push (.mapIter (some r) a #[] a)) h.size r m m:=by
 obtain⟨ms,a,hm,b⟩:=hm;refine⟨a,⟨_,hm.here⟩,ms,a,a,#[],a,⟨(Upd.push No h _).get0 hm.here,hm.keys,hm.nums,hm.old⟩,b,tL h _,?_,fun x hx=>⟨hm.old x hx,hm.old x hx⟩⟩
 rw[show(fun x:Ent κ β=> !(#[]:Array Nat).contains x.n)=fun _=>true from funext fun x=>by simp,fB.2 fun _ _=>rfl,b]
theorem AI{α γ:Type}{f:α→γ}:∀{l:List α},(l.map f).Nodup→∀{x y:α},x∈l→y∈l→f x=f y→x=y
 | [],_,x,y,h,_,_=>by cases h
 |z::l,hn,x,y,hx,hy,e=>by
  simp only[bT,fH]at hn;rcases aq.1 hx with b|b<;>rcases aq.1 hy with a|a
  ·rw[b,a]
  ·exact absurd (bE.2 ⟨y,a,by rw[←e,b]⟩) hn.1
  ·exact absurd (bE.2 ⟨x,b,by rw[e,a]⟩) hn.1
  ·exact AI hn.2 b a e
theorem PD{ms:List (Ent κ β)}(a:(ms.map (·.n)).Nodup){x:Ent κ β}(hx:x∈ms):(ms.map (AJ E g)).find? (fun e=>e.born==x.n)=some (AJ E g x):=by
 induction ms with
 |nil=>cases hx
 |cons y ms ih=>
  simp only[bT,fH]at a;rw[bT,List.find?_cons];rcases aq.1 hx with rfl|hx
  ·simp[AJ]
  ·have:(AJ E g y).born≠x.n:=fun e=>a.1 (bE.2 ⟨x,hx,e.symm⟩)
   have hb:((AJ E g y).born==x.n)=false:=by simpa using this
   rw[hb];exact ih a.2 hx
variable [DecidableEq κ]
theorem NextP.at{M:Nat→Prop}{h:ac}{i r:Nat}{m d:List (κ×β)}{Kend:Prop}{Kstep:MapEntry→ac→Prop}(hi:IterSt E g h i r m d)(hM:M i)
  (p:d= []→Kend)
  (j:∀k v,(k,v)∈d→∀(e:MapEntry) h',e.key=E.enc k→e.val=g v→D5 h' i e→IterSt E g h' i r m (Ta d k)→Upd M h h'→Kstep e h'):NextP ⟨i,0,none⟩ h Kend Kstep:=by
 have w:=hi.ne;obtain⟨ms,a,b,f,last,hm,F,hb,A,B⟩:=hi;refine⟨rfl,_,b,f,last,hb,.inr ⟨r,_,a,rfl,hm.here,?_,fun c=>?_,fun e D z=>?_⟩⟩
 ·by_cases C:ms= []
  ·right;left;subst C;rfl
  ·right;right
   obtain⟨x,l,hx⟩:=List.exists_cons_of_ne_nil C;rw[kA];intro c;rw[Array.all_eq_true']at c;have hx:x∈ms:=by rw[hx];exact List.mem_cons_self ..
   have:=c (AJ E g x) (by simp only[List.mem_toArray,bE];exact⟨x,hx,rfl⟩);have G:=(B x hx).2;simp[AJ]at this;omega
 ·refine p ?_
  rw[A];unfold plain;rw[List.map_eq_nil_iff,List.filter_eq_nil_iff];intro x hx;have:=c (AJ E g x) (by simp only[bE];exact⟨x,hx,rfl⟩) (B x hx).1;have e:(AJ E g x).born=x.n:=rfl;rw[e]at this;rw[this];exact Bool.false_ne_true
 ·simp only[bE]at D
  obtain⟨x,hx,rfl⟩:=D;have z:f.contains x.n=false:=z;have t:=gg (o:=.mapIter (some r) b (f.push x.n) a) hb;have s:(h.setIfInBounds i (.mapIter (some r) b (f.push x.n) a))[r]? =some (.map (ms.map (AJ E g)).toArray a):=by
   rw[c5];simp only[w,if_false];exact hm.here
  refine j x.k x.v ?_ _ _ rfl rfl ?_ ?_ (Upd.set h _ hM)
  ·rw[A]
   exact bE.2 ⟨x,cY.2 ⟨hx,by rw[z];rfl⟩,rfl⟩
  ·refine⟨r,b,_,a,x.n,_,t,by simp,s,?_⟩
   rw[←Array.find?_toList];exact PD hm.nums hx
  ·refine⟨ms,a,b,_,a,⟨s,hm.keys,hm.nums,hm.old⟩,F,t,?_,fun y q=>⟨(B y q).1,hm.old y q⟩⟩
   rw[A,←Gr,List.filter_filter];congr 1
   apply List.filter_congr;intro y q;have n:y.n=x.n↔y.k=x.k:=⟨fun e=>congrArg _ (AI hm.nums q hx e),fun e=>congrArg _ (AI hm.keys q hx e)⟩
   simp only[Array.contains_push,ne_eq,decide_not,Bool.not_or];by_cases u:y.k=x.k
   ·have:=n.2 u;simp[u,this]
   ·have:¬y.n=x.n:=fun e=>u (n.1 e)
    simp[u,this]
end
end Go.Lift
namespace Go.Lift
open Go
end Go.Lift
