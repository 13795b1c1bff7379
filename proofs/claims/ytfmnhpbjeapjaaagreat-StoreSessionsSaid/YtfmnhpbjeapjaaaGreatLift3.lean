/- A part of the proof that the named laws of this program answer true, whatever the input. -/
import Derived.Test.YtfmnhpbjeapjaaaGreatLift2
open Array renaming getElem?_setIfInBounds→bS,getElem?_eq_some_iff→bE
open Bool renaming eq_false_iff→kH,false_eq_true→cE
open List renaming flatMap_cons→bv,length_append→ai,length_cons→aX,getElem?_append_left→ec,getElem?_append_right→hJ,getElem?_eq_some_iff→bA,length_take→bi,length_drop→aO,take_append_drop→co,flatMap_append→bX,length_eq_zero_iff→bU,getElem?_toArray→ey,length_nil→eK,size_toArray→cA,take_append_of_le_length→ep,drop_eq_nil_of_le→jJ,nil_append→mO,append_assoc→aJ,take_left'→cK,drop_drop→cR,drop_left'→bZ,drop_append_of_le_length→ge,mem_map→aI,map_map→fp,nodup_nil→db,map_cons→aY,nodup_cons→du,mem_cons→ah,nodup_append→kG,mem_singleton→ak,filter_eq_self→mf,filter_sublist→fw,mem_filter→bG,filter_congr→oT
open Nat renaming lt_or_ge→cF,zero_add→az,le_refl→av,lt_of_lt_of_le→aE,not_lt→ny,succ_mul→rB,add_zero→jI
open Option renaming some→bD
namespace Go.Lift
open Go
attribute [simp] aK aq
theorem ax{p:Prop}[Decidable p]{t e:Prop}(c:p→t)(b:¬p→e):CondP (decide p) t e:=CondP.intro (fun h=>c (of_decide_eq_true h)) (fun h=>b (of_decide_eq_false h))
theorem HC.mono{P:Program}{f:FuncId}{args:List Value}{ks:List Kind}{K g:un ks→ac→Prop}{h:ac}(hc:HC P f args ks K h)(d:∀t h',K t h'→g t h'):HC P f args ks g h:=by
 refine⟨fun w i=>?_⟩
 rcases hc.run w i with⟨b,c⟩|⟨v,w',b,c,t,o,n⟩
 ·exact .inl ⟨b,c.mono fun e w' ⟨m,t,k,j⟩=>⟨m,t,k,d t _ j⟩⟩
 ·exact .inr ⟨v,w',b,c,t,o,d t _ n⟩
theorem Join.intro{T:Type}{b:T→ac→Prop}{k:(T→ac→Prop)→Prop}(J:T→ac→Prop)(d:∀R:T→ac→Prop,(∀t h,J t h→R t h)→k R)(c:∀t h,J t h→b t h):Join b k:=⟨d b c⟩
theorem Join.plain{T:Type}{b:T→ac→Prop}{k:(T→ac→Prop)→Prop}(h:k b):Join b k:=⟨h⟩
theorem LoopP.intro{T:Type}{F:(T→ac→Prop)→T→ac→Prop}{t:T}{h:ac}(Inv:T→ac→Prop)(m:T→ac→Nat)(e:Inv t h)
  (step:∀I:T→ac→Prop,∀t h,Inv t h→(∀b h',Inv b h'→m b h'<m t h→I b h')→F I t h):LoopP F t h:=by
 refine⟨fun I i=>?_⟩
 have key:∀n t h,m t h=n→Inv t h→I t h:=by
  intro n;induction n using Nat.strongRecOn with
  |_ n ih=>exact fun t h g f=>i t h (step I t h f fun b h' d c=>ih _ (g▸c) b h' rfl d)
 exact key _ t h rfl e
theorem LoopP.ghost{T G:Type}{F:(T→ac→Prop)→T→ac→Prop}{t:T}{h:ac}(Inv:G→T→ac→Prop)(m:G→Nat)(g:G)(f:Inv g t h)
  (step:∀I:T→ac→Prop,∀g t h,Inv g t h→(∀c b h',Inv c b h'→m c<m g→I b h')→F I t h):LoopP F t h:=by
 refine⟨fun I k=>?_⟩
 have key:∀n g t h,m g=n→Inv g t h→I t h:=by
  intro n;induction n using Nat.strongRecOn with
  |_ n ih=>exact fun g t h j i=>k t h (step I g t h i fun c b h' e d=>ih _ (j▸d) c b h' rfl e)
 exact key _ g t h rfl f
theorem HV.mk'{P:Program}{f:FuncId}{first cap:Array Value}{args:List Value}{ks:List Kind}{K:un ks→ac→Prop}{h:ac}(hc:HC P f (first.toList++args++cap.toList) ks K h):HV P (.func (.func f) first cap) args ks K h:=
 ⟨.inl ⟨f,first,cap,rfl,hc⟩⟩
@[simp] theorem bC(b o n:Nat):adr ⟨b,o,none⟩ n=⟨b,o+n,none⟩:=by
 cases n<;>rfl
@[simp] theorem Bl(a:Addr)(n:Nat):(adr a n).block=a.block:=by
 cases n<;>rfl
theorem bN(h:ac):aV h=⟨h.size,0,none⟩:=rfl
theorem Hv{h:ac}{a:Addr}{v:Value}(c:aB h a=some v):a.block<h.size:=by
 unfold aB at c;rcases cF a.block h.size with b|b
 ·exact b
 ·rw[Array.getElem?_eq_none b]at c;cases c
theorem aC{h:ac}{b i:Nat}{c:Array Value}{e:TypeId}{fr:Nat×Nat}(d:h[b]? =some (.cells c e fr)):aB h ⟨b,i,none⟩=c[i]?:=by
 unfold aB;rw[d];rfl
theorem Jl{h h':ac}{c:Array Value}{e:TypeId}{fr:Nat×Nat}(b:h'[h.size]? =some (.cells c e fr)) (i:Nat):aB h' (adr (aV h) i)=c[i]?:=by
 rw[bN,bC,aC b,az]
theorem Jk{h h':ac}{a:Addr}(b:h'[a.block]? =h[a.block]?):aB h' a=aB h a:=by
 unfold aB;rw[b]
theorem mq{h:ac}{b i:Nat}{c:Array Value}{e:TypeId}{fr:Nat×Nat}{v:Value}(f:h[b]? =some (.cells c e fr)):
  hset h ⟨b,i,none⟩ v=h.setIfInBounds b (.cells (c.setIfInBounds i v) e fr):=by
 unfold hset;apply Array.ext_getElem?;intro j;rw[Array.getElem?_modify,bS];by_cases g:b=j
 ·subst g
  have d:=(bE.1 f).1;simp only[f,if_true,d,Option.map_some];rfl
 ·simp[g]
theorem fR{h:ac}{b i:Nat}{c:Array Value}{e:TypeId}(d:h[b]? =some (.cells c e (0,0))) (f:i<c.size):Wr h ⟨b,i,none⟩:=by
 refine⟨⟨c[i],by rw[aC d,Array.getElem?_eq_getElem f]⟩,?_⟩
 unfold CT;rw[d];simp
structure Upd(M:Nat→Prop)(h h':ac):Prop where
 size:h.size≤h'.size
 same:∀b,b<h.size→¬M b→h'[b]? =h[b]?
abbrev No:Nat→Prop:=fun _=>False
theorem Upd.refl(M:Nat→Prop)(h:ac):Upd M h h:=⟨av _,fun _ _ _=>rfl⟩
theorem Upd.trans{M M':Nat→Prop}{h e g:ac}(k:Upd M h e)(l:Upd M' e g)(i:∀b,M' b→M b∨h.size≤b):Upd M h g:=
 ⟨Nat.le_trans k.size l.size,fun b d f=>by
  rw[l.same b (aE d k.size) (fun hm=>(i b hm).elim f fun c=>absurd d (ny.2 c)),k.same b d f]⟩
theorem Upd.tr{M:Nat→Prop}{h c b:ac}(k:Upd M h c)(l:Upd M c b):Upd M h b:=k.trans l fun _ h=>.inl h
theorem Upd.mono{M M':Nat→Prop}{h h':ac}(k:Upd M h h')(e:∀b,M b→M' b∨h.size≤b):Upd M' h h':=
 ⟨k.size,fun b d f=>k.same b d fun hm=>(e b hm).elim f fun c=>absurd d (ny.2 c)⟩
theorem Upd.wide{M:Nat→Prop}{h h':ac}(k:Upd No h h'):Upd M h h':=k.mono fun _ h=>h.elim
theorem Upd.get{M:Nat→Prop}{h h':ac}(k:Upd M h h'){b:Nat}{o:Obj}(c:h[b]? =some o) (d:¬M b):h'[b]? =some o:=by
 rw[k.same b (bE.1 c).1 d,c]
theorem Upd.get0{h h':ac}(k:Upd No h h'){b:Nat}{o:Obj}(c:h[b]? =some o):h'[b]? =some o:=k.get c id
theorem Upd.cell{M:Nat→Prop}{h h':ac}(k:Upd M h h'){a:Addr}{v:Value}(b:aB h a=some v)(c:¬M a.block):aB h' a=some v:=by
 rw[Jk (k.same _ (Hv b) c),b]
theorem Upd.push(M:Nat→Prop)(h:ac)(o:Obj):Upd M h (h.push o):=⟨by simp,fun b c _=>by rw[Array.getElem?_push];simp[Nat.ne_of_lt c]⟩
theorem Upd.set{M:Nat→Prop}(h:ac){b:Nat}(o:Obj)(d:M b):Upd M h (h.setIfInBounds b o):=⟨by simp,fun c _ f=>by
 rw[bS]
 have:b≠c:=fun e=>f (e▸d)
 simp[this]⟩
theorem Upd.hset{M:Nat→Prop}(h:ac){a:Addr}(v:Value)(b:M a.block):Upd M h (hset h a v):=⟨by simp[Go.Lift.hset],fun c _ d=>by
 unfold Go.Lift.hset
 rw[Array.getElem?_modify]
 have:a.block≠c:=fun e=>d (e▸b)
 simp[this]⟩
theorem Upd.hnew(M:Nat→Prop)(h:ac)(cs:List Value)(t:TypeId):Upd M h (hnew h cs t):=Upd.push M h _
theorem be(h:ac)(cs:List Value)(t:TypeId):(hnew h cs t)[h.size]? =some (.cells cs.toArray t (0,0)):=by
 unfold hnew;simp
theorem jN(h:ac)(o:Obj):(h.push o)[h.size]? =some o:=by simp
theorem gg(h:ac)(cs:List Value)(t:TypeId):(hnew h cs t).size=h.size+1:=by
 unfold hnew;simp
theorem dU{h:ac}{b:Nat}{o c:Obj}(d:h[b]? =some c):(h.setIfInBounds b o)[b]? =some o:=by
 rw[bS];simp[(bE.1 d).1]
theorem aL{h:ac}{b:Nat}{o:Obj}(c:h[b]? =some o):b<h.size:=(bE.1 c).1
theorem Row.upd{M:Nat→Prop}{h h':ac}{a:Addr}{vs:List Value}(b:Row h a vs)(k:Upd M h h')(d:¬M a.block):Row h' a vs:=fun i v c=>k.cell (b i v c) (by rw[Bl];exact d)
theorem SRow.upd{M:Nat→Prop}{h h':ac}{a:Option Addr}{n:Nat}{vs:List Value}(c:SRow h a n vs)(k:Upd M h h')(g:vs≠[]→∀b,a=some b→¬M b.block):SRow h' a n vs:=by
 obtain⟨f,i⟩:=c;refine⟨f,?_⟩;rcases i with rfl|⟨b,e,c⟩
 ·exact .inl rfl
 ·by_cases d:vs= []
  ·exact .inl d
  ·exact .inr ⟨b,e,c.upd k (g d b e)⟩
theorem sX{h:ac}{b o:Nat}{c:Array Value}{e:TypeId}{fr:Nat×Nat}(f:h[b]? =some (.cells c e fr)) {vs:List Value} (g:∀i v,vs[i]? =some v→c[o+i]? =some v):Row h ⟨b,o,none⟩ vs:=fun i v d=>by
 rw[bC,aC f];exact g i v d
structure Sl{α:Type}(f:α→List Value)(sz:Nat)(W:Nat→Prop)(h:ac)(s:SliceV)(xs:List α):Prop where
 len:s.len=xs.length
 ne:∀x,(f x).length=sz∧0<sz
 row:xs≠[]→∃a,s.a=some a∧¬W a.block∧Row h a (xs.flatMap f)
theorem Sl.nil{α:Type}{f:α→List Value}{b:Nat}{W:Nat→Prop}{h:ac}{a:Option Addr}{c:Nat}(d:∀x,(f x).length=b∧0<b):Sl f b W h ⟨a,0,c⟩ []:=⟨rfl,d,fun h=>absurd rfl h⟩
theorem Sl.lt{α:Type}{f:α→List Value}{g:Nat}{W:Nat→Prop}{h:ac}{s:SliceV}{xs:List α}(c:Sl f g W h s xs)(hx:xs≠[]){a:Addr}(e:s.a=some a):a.block<h.size:=by
 obtain⟨a',b,j,i⟩:=c.row hx;rw[e]at b;cases b;cases xs with
 |nil=>exact absurd rfl hx
 |cons x xs=>
  have d:=c.ne x;cases hf:f x with
  |nil=>rw[hf]at d;simp at d;omega
  |cons v vs=>
   have:=i 0 v (by rw[bv,hf];rfl);have:=Hv this;rw[Bl]at this;exact this
theorem Sl.upd{α:Type}{f:α→List Value}{g:Nat}{W M:Nat→Prop}{h h':ac}{s:SliceV}{xs:List α}(c:Sl f g W h s xs)(k:Upd M h h')(hm:∀b,M b→W b∨h.size≤b):Sl f g W h' s xs:=by
 refine⟨c.len,c.ne,fun hx=>?_⟩
 obtain⟨a,e,i,j⟩:=c.row hx;exact⟨a,e,i,j.upd k fun m=>(hm _ m).elim i fun d=>absurd (c.lt hx e) (ny.2 d)⟩
theorem Sl.less{α:Type}{f:α→List Value}{g:Nat}{W W':Nat→Prop}{h:ac}{s:SliceV}{xs:List α}(c:Sl f g W h s xs)(hm:∀b,W' b→W b∨h.size≤b):Sl f g W' h s xs:=
 ⟨c.len,c.ne,fun hx=>let⟨a,e,k,i⟩:=c.row hx;⟨a,e,fun j=>(hm _ j).elim k fun d=>absurd (c.lt hx e) (ny.2 d),i⟩⟩
theorem kT{α:Type}{f:α→List Value}{c:Nat}(b:∀x,(f x).length=c):∀xs:List α,(xs.flatMap f).length=xs.length*c
 | []=>by simp
 |x::xs=>by rw[bv,ai,b,kT b xs,aX,rB];omega
theorem wh{α:Type}{f:α→List Value}{c:Nat}(b:∀x,(f x).length=c):∀(xs:List α) (i j:Nat) (x:α),xs[i]? =some x→j<c→(xs.flatMap f)[i*c+j]? =(f x)[j]?
 | [],i,j,x,h,_=>by simp at h
 |y::xs,0,j,x,h,hj=>by
  simp only[List.getElem?_cons_zero,bD.injEq]at h;subst h;rw[bv,Nat.zero_mul,az,ec (by rw[b];exact hj)]
 |y::xs,i+1,j,x,h,hj=>by
  rw[List.getElem?_cons_succ]at h;rw[bv,hJ (by rw[b,rB];omega),b,show(i+1)*c+j-c=i*c+j by rw[rB];omega]
  exact wh b xs i j x h hj
theorem Sl.at{α:Type}{f:α→List Value}{c:Nat}{W:Nat→Prop}{h:ac}{s:SliceV}{xs:List α}(b:Sl f c W h s xs){i:Nat}{x:α}(g:xs[i]? =some x):
  ∃a,s.a=some a∧¬W a.block∧∀j v,(f x)[j]? =some v→aB h (adr (adr a (i*c)) j)=some v:=by
 obtain⟨a,k,o,n⟩:=b.row (fun e=>by subst e;simp at g)
 refine⟨a,k,o,fun j v d=>?_⟩
 have m:j<c:=by rw[←(b.ne x).1];exact(bA.1 d).1
 rw[zY];exact n _ v (by rw[wh (fun x=>(b.ne x).1) xs i j x g m];exact d)
theorem Sl.at0{α:Type}{g:α→Value}{W:Nat→Prop}{h:ac}{s:SliceV}{xs:List α}(c:Sl (fun x=> [g x]) 1 W h s xs){i:Nat}{x:α}(d:xs[i]? =some x):
  ∃a,s.a=some a∧¬W a.block∧aB h (adr a (i*1))=some (g x):=by
 obtain⟨a,b,f,e⟩:=c.at d;exact⟨a,b,f,e 0 _ rfl⟩
theorem Sl.srow{α:Type}{f:α→List Value}{c:Nat}{W:Nat→Prop}{h:ac}{s:SliceV}{xs:List α}(b:Sl f c W h s xs):SRow h s.a (s.len*c) (xs.flatMap f):=by
 refine⟨?_,?_⟩
 ·rw[b.len,kT fun x=>(b.ne x).1]
 ·by_cases hx:xs= []
  ·subst hx;exact .inl rfl
  ·obtain⟨a,e,_,d⟩:=b.row hx
   exact .inr ⟨a,e,d⟩
theorem Sl.sub{α:Type}{f:α→List Value}{d:Nat}{W:Nat→Prop}{h:ac}{s:SliceV}{xs:List α}(g:Sl f d W h s xs){l b m c:Nat}(w:l≤b)(k:b≤xs.length)(u:b≤m):
  Sl f d W h ⟨aS s.a l m d,b-l,c⟩ ((xs.drop l).take (b-l)):=by
 refine⟨by simp only[bi,aO];omega,g.ne,fun hx=>?_⟩
 have q:l<b:=by
  rcases cF l b with h|h
  ·exact h
  ·rw[Nat.sub_eq_zero_of_le h]at hx;exact absurd List.take_zero hx
 obtain⟨a,n,t,p⟩:=g.row (fun e=>by rw[e]at k;simp at k;omega)
 refine⟨adr a (l*d),?_,by rw[Bl];exact t,fun i v j=>?_⟩
 ·unfold aS
  rw[if_neg (by omega),n];rfl
 ·rw[zY]
  refine p _ v ?_;have e:xs=xs.take l++((xs.drop l).take (b-l)++(xs.drop l).drop (b-l)):=by rw[co,co]
  rw[e,bX,bX];have o:((xs.take l).flatMap f).length=l*d:=by rw[kT fun x=>(g.ne x).1,bi];congr 1;omega
  rw[hJ (by omega),o,Nat.add_sub_cancel_left,ec (bA.1 j).1];exact j
structure OwnS{α:Type}(f:α→List Value)(sz:Nat)(t:TypeId)(M:Nat→Prop)(h:ac)(s:SliceV)(xs:List α):Prop where
 len:s.len=xs.length
 ne:∀x,(f x).length=sz∧0<sz
 cap:s.len≤s.cap
 blk:s.cap=0∨∃b rest,s.a=some ⟨b,0,none⟩∧M b∧h[b]? =some (.cells (xs.flatMap f++rest).toArray t (0,0))∧rest.length=(s.cap-s.len)*sz
theorem OwnS.nil{α:Type}{f:α→List Value}{b:Nat}{t:TypeId}{M:Nat→Prop}{h:ac}{a:Option Addr}(c:∀x,(f x).length=b∧0<b):OwnS f b t M h ⟨a,0,0⟩ []:=⟨rfl,c,av _,.inl rfl⟩
theorem OwnS.sl{α:Type}{f:α→List Value}{d:Nat}{t:TypeId}{M W:Nat→Prop}{h:ac}{s:SliceV}{xs:List α}(c:OwnS f d t M h s xs)(hm:∀b,M b→b<h.size→¬W b):Sl f d W h s xs:=by
 refine⟨c.len,c.ne,fun hx=>?_⟩
 rcases c.blk with m|⟨b,g,j,k,hc,_⟩
 ·have:=c.len;have:=c.cap
  have:xs.length=0:=by omega
  exact absurd (bU.1 this) hx
 ·exact⟨_,j,hm b k (aL hc),sX hc fun i v e=>by
   rw[az,ey,ec (bA.1 e).1];exact e⟩
theorem OwnS.upd{α:Type}{f:α→List Value}{e:Nat}{t:TypeId}{M M':Nat→Prop}{h h':ac}{s:SliceV}{xs:List α}(d:OwnS f e t M h s xs)(k:Upd M' h h')(hm:∀b,M b→¬M' b):OwnS f e t M h' s xs:=by
 refine⟨d.len,d.ne,d.cap,d.blk.imp id fun⟨b,c,i,g,hc,j⟩=>⟨b,c,i,g,k.get hc (hm b g),j⟩⟩
theorem OwnS.more{α:Type}{f:α→List Value}{e:Nat}{t:TypeId}{M M':Nat→Prop}{h:ac}{s:SliceV}{xs:List α}(d:OwnS f e t M h s xs)(hm:∀b,M b→M' b):OwnS f e t M' h s xs:=by
 refine⟨d.len,d.ne,d.cap,d.blk.imp id fun⟨b,c,g,j,hc,i⟩=>⟨b,c,g,hm b j,hc,i⟩⟩
theorem OwnS.within{α:Type}{f:α→List Value}{e:Nat}{t:TypeId}{M:Nat→Prop}{h:ac}{s:SliceV}{xs:List α}(d:OwnS f e t M h s xs):OwnS f e t (fun b=>M b∧b<h.size) h s xs:=by
 refine⟨d.len,d.ne,d.cap,d.blk.imp id fun⟨b,c,g,j,hc,i⟩=>⟨b,c,g,⟨j,aL hc⟩,hc,i⟩⟩
theorem iz{b:Nat}{t:TypeId}:∀(vs:List Value) (h:ac) (i o:Nat) (c:List Value),h[b]? =some (.cells c.toArray t (0,0))→o+i+vs.length≤c.length→
  ii h ⟨b,o,none⟩ i vs=h.setIfInBounds b (.cells (c.take (o+i)++vs++c.drop (o+i+vs.length)).toArray t (0,0))
 | [],h,i,o,c,hb,hl=>by
  simp only[ii,List.append_nil,eK,jI,co];apply Array.ext_getElem?;intro j;rw[bS];split
  ·rename_i e;subst e;rw[hb];simp[aL hb]
  ·rfl
 |v::vs,h,i,o,c,hb,hl=>by
  rw[aX]at hl;simp only[ii];rw[bC,mq hb];have d:(h.setIfInBounds b (.cells (c.toArray.setIfInBounds (o+i) v) t (0,0)))[b]? =some (.cells (c.set (o+i) v).toArray t (0,0)):=by
   rw[dU hb];simp
  rw[iz vs _ (i+1) o (c.set (o+i) v) d (by simp;omega)];have e:∀(x y:Obj),(h.setIfInBounds b x).setIfInBounds b y=h.setIfInBounds b y:=fun x y=>by
   apply Array.ext_getElem?;intro j;simp only[bS,Array.size_setIfInBounds];split<;>rfl
  rw[e];congr 3
  apply List.ext_getElem?;intro j;simp only[List.getElem?_append,ai,bi,List.length_set,aX,List.getElem?_take,List.getElem?_set,List.getElem?_drop];grind
theorem kK(n:Nat)(z:List Value):(cS n z).length=n*z.length:=by
 unfold cS;induction n with
 |zero=>simp
 |succ n ih=>rw[List.replicate_succ,List.flatten_cons,ai,ih,rB];omega
theorem AppP.own{α:Type}{f:α→List Value}{i k:Nat}{t:TypeId}{M:Nat→Prop}{h:ac}{g:Option Addr}{sl m P:Nat}{xs ys:List α}{o z:List Value}{K:SliceV→ac→Prop}
  (p:OwnS f i t M h ⟨g,sl,m⟩ xs)(n:P=ys.length)(I:o=ys.flatMap f)(y:bL o=true)(S:z.length=i)(V:0<k)(q:(xs.length+ys.length)*k≤140737488355328)(hM:M h.size)
  (F:∀s' h',OwnS f i t M h' s' (xs++ys)→Upd M h h'→K s' h'):AppP (some z) i k t g sl m P o h K:=by
 have c:sl=xs.length:=p.len;have w:∀x,(f x).length=i:=fun x=>(p.ne x).1
 subst n I;have A:=kT w ys;have n:=kT w xs;refine⟨fun s=>?_,fun v=>?_⟩
 ·rcases p.blk with D|⟨b,d,H,u,hc,C⟩
  ·have D:m=0:=D
   have L:ys.length=0:=by omega
   have G:xs.length=0:=by omega
   have R:=bU.1 L;have hx:=bU.1 G;subst R hx;refine⟨.inl rfl,rfl,?_⟩;have e:eM h g (sl*i) (([]:List α).flatMap f)=h:=by cases g<;>rfl
   rw[e];exact F _ _ ⟨by simp[c],p.ne,by simp only[eK];omega,.inl D⟩ (Upd.refl _ _)
  ·have H:g=some ⟨b,0,none⟩:=H
   have C:d.length=(m-sl)*i:=C;subst H;have O:sl+ys.length≤m:=s;have U:ys.length*i≤d.length:=by rw[C];exact Nat.mul_le_mul_right _ (Nat.le_sub_of_add_le (show ys.length+sl≤m by omega))
   have B:0+sl*i+(ys.flatMap f).length≤(xs.flatMap f++d).length:=by
    rw[ai,n,A,c];omega
   refine⟨.inr ⟨_,rfl,fun j X=>?_⟩,y,?_⟩
   ·rw[bC]
    refine fR hc ?_;rw[cA];omega
   ·have e:eM h (some ⟨b,0,none⟩) (sl*i) (ys.flatMap f)=_:=iz (ys.flatMap f) h (sl*i) 0 _ hc B
    rw[e];have E:(xs.flatMap f++d).take (0+sl*i)=xs.flatMap f:=by
     rw[az,c,←n,ep (av _),List.take_length]
    have N:(xs.flatMap f++d).drop (0+sl*i+(ys.flatMap f).length)=d.drop (ys.length*i):=by
     rw[az,c,←n,List.drop_append,jJ (by omega),mO,A];congr 1;omega
    rw[E,N];refine F _ _ ⟨by simp[c],p.ne,s,.inr ⟨b,d.drop (ys.length*i),rfl,u,?_,?_⟩⟩ (Upd.set h _ u)
    ·rw[dU hc,bX]
    ·rw[aO,C]
     simp only;rw[show m-(sl+ys.length)=(m-sl)-ys.length by omega,Nat.sub_mul (m-sl)]
 ·have T:m*1≤m:=by omega
  refine⟨xs.flatMap f,z,?_,rfl,V,Go.growslice_fits v (by rw[c];exact q),fun Q J=>?_⟩
  ·exact(p.sl (W:=No) fun _ _ _=>id).srow
  ·refine F _ _ ⟨by simp[c],p.ne,J,.inr ⟨h.size,cS (Q-(sl+ys.length)) z,rfl,hM,?_,?_⟩⟩ (Upd.hnew M h _ _)
   ·rw[be,bX]
   ·rw[kK,S]
end Go.Lift
namespace Go.Lift
open Go
theorem bl{h:ac}{k:ac→Prop}(b:k h):At h k:=b
theorem i7{b o l m c:Nat}(h:m≠l):aS (some ⟨b,o,none⟩) l m c=some ⟨b,o+l*c,none⟩:=by simp[aS,h,bC]
theorem sub_zero{b m c:Nat}:aS (some ⟨b,0,none⟩) 0 m c=some ⟨b,0,none⟩:=by
 unfold aS;split
 ·rfl
 ·simp[bC]
theorem jP{h:ac}{b:Nat}{c:List Value}{t:TypeId}{o n:Nat}{vs:List Value}{d:Option Addr}{k:ac→Prop}(g:SRow h d n vs)(m:bL vs=true)(f:h[b]? =some (.cells c.toArray t (0,0)))
  (q:o+n≤c.length) (i:∀h',h'[b]? =some (.cells (c.take o++vs++c.drop (o+n)).toArray t (0,0))→Upd (· =b) h h'→k h'):
  ∃xs,SRow h d n xs∧uf h (some ⟨b,o,none⟩) 0 xs∧bL xs=true∧At (eM h (some ⟨b,o,none⟩) 0 xs) k:=by
 have p:=g.1;refine⟨vs,g,.inr ⟨_,rfl,fun j s=>?_⟩,m,bl ?_⟩
 ·rw[bC];exact fR f (by rw[cA];omega)
 ·have e:eM h (some ⟨b,o,none⟩) 0 vs=_:=iz vs h 0 o c f (by omega)
  rw[e];refine i _ ?_ (Upd.set h _ rfl);rw[dU f,jI,p]
theorem kR{h:ac}{b:Nat}{c:List Value}{t:TypeId}{o n:Nat}{vs:List Value}(e:h[b]? =some (.cells c.toArray t (0,0))) (d:vs.length=n) (f:(c.drop o).take n=vs):SRow h (some ⟨b,o,none⟩) n vs:=by
 refine⟨d,.inr ⟨_,rfl,sX e fun i v g=>?_⟩⟩
 rw[ey,←List.getElem?_drop];have:((c.drop o).take n)[i]? =some v:=by rw[f];exact g
 rw[List.getElem?_take]at this;split at this
 ·exact this
 ·cases this
section
variable {α:Type} {f:α→List Value} {sz:Nat}
theorem jF(b:∀x,(f x).length=sz∧0<sz)(xs:List α):(xs.flatMap f).length=xs.length*sz:=kT (fun x=>(b x).1) xs
theorem yH(xs:List α)(k:Nat):xs.flatMap f=(xs.take k).flatMap f++(xs.drop k).flatMap f:=by rw[←bX,co]
end
theorem F4{α:Type}{A X B Z1 Z2:List α}{p q r:Nat}(c:A.length=p)(f:X.length=q)(g:Z1.length=r+q):
  (((A++Z1++Z2).take p++X++(A++Z1++Z2).drop (p+q)).take (p+q))++B++((A++Z1++Z2).take p++X++(A++Z1++Z2).drop (p+q)).drop (p+q+r)=A++(X++B)++Z2:=by
 have e:(A++Z1++Z2).take p=A:=by rw[aJ,cK c]
 have d:(A++Z1++Z2).drop (p+q)=Z1.drop q++Z2:=by
  rw[aJ,←cR,bZ c,ge (by omega)]
 have b:(A++X).length=p+q:=by rw[ai];omega
 rw[e,d,cK b,←cR,bZ b,ge (by rw[aO];omega),cR,jJ (by omega),mO];simp only[aJ]
theorem Jh{α:Type}{A X B R:List α}{p q r:Nat}(e:A.length=p)(f:B.length=r)(g:q≤R.length):
  (((A++B++R).take (p+q)++B++(A++B++R).drop (p+q+r)).take p)++X++((A++B++R).take (p+q)++B++(A++B++R).drop (p+q+r)).drop (p+q)=A++(X++B)++R.drop q:=by
 have b:((A++B++R).take (p+q)).length=p+q:=by rw[bi,ai,ai];omega
 have d:(A++B++R).drop (p+q+r)=R.drop q:=by
  rw[show p+q+r=(p+r)+q by omega,←cR,bZ (by rw[ai];omega)]
 have c:((A++B++R).take (p+q)++(B++(A++B++R).drop (p+q+r))).take p=A:=by
  rw[ep (by omega),List.take_take,Nat.min_eq_left (by omega),aJ,cK e]
 rw[aJ ((A++B++R).take (p+q)),c,bZ b,d];simp only[aJ]
theorem NS{h:ac}{b:Nat}{c:List Value}{t m:TypeId}{f d sl i g:Nat}{xs:List Value}{z:Option (List Value)}{K:SliceV→ac→Prop}(k:h[b]? =some (.cells c.toArray t (0,0)))
  (q:sl*f+xs.length≤c.length) (p:sl+g≤i) (o:bL xs=true) (n:∀h',h'[b]? =some (.cells (c.take (sl*f)++xs++c.drop (sl*f+xs.length)).toArray t (0,0))→Upd (· =b) h h'→K ⟨some ⟨b,0,none⟩,sl+g,i⟩ h'):
  AppP z f d m (some ⟨b,0,none⟩) sl i g xs h K:=by
 refine⟨fun _=>⟨.inr ⟨_,rfl,fun j s=>?_⟩,o,?_⟩,fun h=>by omega⟩
 ·rw[bC];exact fR k (by rw[cA];omega)
 ·have e:eM h (some ⟨b,0,none⟩) (sl*f) xs=_:=iz xs h (sl*f) 0 c k (by omega)
  rw[e];refine n _ ?_ (Upd.set h _ rfl);rw[dU k,az]
theorem FO{h:ac}{b:Nat}{c:List Value}{t:TypeId}{o:Nat}{vs:List Value}{k:ac→Prop}(d:h[b]? =some (.cells c.toArray t (0,0)))
  (g:o+vs.length≤c.length) (f:∀h',h'[b]? =some (.cells (c.take o++vs++c.drop (o+vs.length)).toArray t (0,0))→Upd (· =b) h h'→k h'):
  uf h (some ⟨b,o,none⟩) 0 vs∧At (eM h (some ⟨b,o,none⟩) 0 vs) k:=by
 refine⟨.inr ⟨_,rfl,fun j i=>?_⟩,bl ?_⟩
 ·rw[bC];exact fR d (by rw[cA];omega)
 ·have e:eM h (some ⟨b,o,none⟩) 0 vs=_:=iz vs h 0 o c d (by omega)
  rw[e];refine f _ ?_ (Upd.set h _ rfl);rw[dU d,jI]
end Go.Lift
namespace Go.Lift
open Go
structure KeyE(κ:Type) where
 enc:κ→Value
 ck:CK
 den:∀x,∃d:ck.den,enc x=ck.enc d
 same:∀x y,fg (enc x) (enc y)=true↔x=y
def Rd(k:IntKind):KeyE Int:=⟨fun x=>.int k x,.int k,fun x=>⟨x,rfl⟩,fun x y=>by simp[fg]⟩
section
variable {κ β:Type}
structure Ent(κ β:Type) where
 k:κ
 v:β
 n:Nat
variable (E:KeyE κ) (g:β→Value)
def AZ(x:Ent κ β):MapEntry:={key:=E.enc x.k,val:=g x.v,born:=x.n}
structure MapE(h:ac)(r:Nat)(ms:List (Ent κ β))(clock:Nat):Prop where
 here:h[r]? =some (.map (ms.map (AZ E g)).toArray clock)
 keys:(ms.map (·.k)).Nodup
 nums:(ms.map (·.n)).Nodup
 old:∀x∈ms,x.n<clock
def plain(ms:List (Ent κ β)):List (κ×β):=ms.map fun x=>(x.k,x.v)
def MapAt(h:ac)(r:Nat)(m:List (κ×β)):Prop:=∃ms clock,MapE E g h r ms clock∧plain ms=m
variable {E g}
theorem MapE.keysOf{h:ac}{r:Nat}{ms:List (Ent κ β)}{b:Nat}(_:MapE E g h r ms b):keysOf E.ck (ms.map (AZ E g)).toArray.toList:=by
 intro e c;simp only[aI]at c;obtain⟨x,_,rfl⟩:=c;exact E.den x.k
theorem MapAt.isMap{h:ac}{r:Nat}{m:List (κ×β)}(hm:MapAt E g h r m):vx E.ck h r:=by
 obtain⟨ms,b,hm,_⟩:=hm;exact⟨_,_,hm.here,hm.keysOf⟩
theorem MapAt.len{h:ac}{r:Nat}{m:List (κ×β)}(hm:MapAt E g h r m):wM h (some r) m.length:=by
 obtain⟨ms,b,hm,rfl⟩:=hm;exact⟨_,_,hm.here,by simp[plain]⟩
theorem MapAt.nodup{h:ac}{r:Nat}{m:List (κ×β)}(hm:MapAt E g h r m):(m.map (·.1)).Nodup:=by
 obtain⟨ms,b,hm,rfl⟩:=hm;have:=hm.keys;unfold plain;rw[fp];exact this
theorem MapAt.lt{h:ac}{r:Nat}{m:List (κ×β)}(hm:MapAt E g h r m):r<h.size:=by
 obtain⟨ms,b,hm,_⟩:=hm;exact aL hm.here
theorem MapAt.upd{h h':ac}{r:Nat}{m:List (κ×β)}{M:Nat→Prop}(hm:MapAt E g h r m)(k:Upd M h h')(c:¬M r):MapAt E g h' r m:=by
 obtain⟨ms,b,hm,e⟩:=hm;exact⟨ms,b,⟨k.get hm.here c,hm.keys,hm.nums,hm.old⟩,e⟩
theorem MapAt.new(h:ac):MapAt E g (h.push (.map #[] 0)) h.size []:=
 ⟨[],0,⟨jN h _,db,db,fun _ h=>by cases h⟩,rfl⟩
variable [DecidableEq κ]
def cz:List (κ×β)→κ→Option β
 | [],_=>none
 |(k',v)::l,k=>if k=k' then some v else cz l k
def my:List (κ×β)→κ→β→List (κ×β)
 | [],k,v=> [(k,v)]
 |(k',u)::l,k,v=>if k=k' then(k,v)::l else(k',u)::my l k v
def sP(l:List (κ×β))(k:κ):List (κ×β):=l.filter fun p=>p.1≠k
theorem LD(l:List (κ×β))(k:κ)(v:β)(j:κ):cz (my l k v) j=if j=k then some v else cz l j:=by
 induction l with
 |nil=>simp[my,cz]
 |cons p l ih=>
  obtain⟨k',u⟩:=p;simp only[my];split
  ·rename_i e;subst e;simp only[cz];split<;>rfl
  ·rename_i e
   simp only[cz,ih];by_cases b:j=k'
   ·subst b;simp[Ne.symm e]
   ·simp[b]
theorem Bk{l:List (κ×β)}{k:κ}{v:β}(b:(l.map (·.1)).Nodup):cz l k=some v↔(k,v)∈l:=by
 induction l with
 |nil=>simp[cz]
 |cons p l ih=>
  obtain⟨k',u⟩:=p;simp only[aY,du]at b;simp only[cz,ah,Prod.mk.injEq];by_cases c:k=k'
  ·subst c
   simp only[if_true,bD.injEq,true_and];constructor
   ·exact fun e=>.inl e.symm
   ·rintro(e|e)
    ·exact e.symm
    ·exact absurd (aI.2 ⟨_,e,rfl⟩) b.1
  ·simp[c,ih b.2]
theorem lh{l:List (κ×β)}{k:κ}:cz l k=none↔k∉l.map (·.1):=by
 induction l with
 |nil=>simp[cz]
 |cons p l ih=>
  obtain⟨k',u⟩:=p;simp only[cz,aY,ah,not_or];by_cases b:k=k'
  ·simp[b]
  ·simp[b,ih]
theorem Ft(l:List (κ×β))(k:κ)(v:β):(my l k v).map (·.1)=if k∈l.map (·.1)then l.map (·.1)else l.map (·.1)++ [k]:=by
 induction l with
 |nil=>simp[my]
 |cons p l ih=>
  obtain⟨k',u⟩:=p;simp only[my];by_cases b:k=k'
  ·simp[b]
  ·simp only[b,if_false,aY,ih,ah,false_or]
   split<;>simp
theorem JA{l:List (κ×β)}{k:κ}{v:β}(h:(l.map (·.1)).Nodup):((my l k v).map (·.1)).Nodup:=by
 rw[Ft];split
 ·exact h
 ·rename_i hn
  rw[kG];refine⟨h,by simp,?_⟩
  intro a d b c;simp only[ak]at c;subst c;intro e;subst e;exact hn d
theorem FG(x y:κ):fg (E.enc x) (E.enc y)=decide (x=y):=by
 by_cases h:x=y
 ·rw[decide_eq_true h];exact(E.same x y).2 h
 ·rw[decide_eq_false h];exact kH.2 fun e=>h ((E.same x y).1 e)
theorem Nf(k:κ)(ms:List (Ent κ β)):DF (E.enc k) (ms.map (AZ E g))=(cz (plain ms) k).map g:=by
 induction ms with
 |nil=>rfl
 |cons x ms ih=>
  simp only[aY,DF,AZ,plain,cz];rw[FG];by_cases h:k=x.k
  ·simp[h]
  ·simp only[h,decide_false,cE,if_false];exact ih
theorem MapAt.get{h:ac}{r:Nat}{m:List (κ×β)}(hm:MapAt E g h r m)(k:κ)(z:β):qu E.ck (g z) h (some r) (E.enc k) (g ((cz m k).getD z)) (cz m k).isSome:=by
 obtain⟨ms,b,hm,rfl⟩:=hm;refine⟨_,_,hm.here,hm.keysOf,?_⟩;rw[Nf];cases cz (plain ms) k<;>exact⟨rfl,rfl⟩
def wG(k:κ)(v:β)(b:Nat):List (Ent κ β)→List (Ent κ β)×Nat
 | []=>([⟨k,v,b⟩],b+1)
 |x::l=>if k=x.k then(⟨k,v,x.n⟩::l,b)else(x::(wG k v b l).1,(wG k v b l).2)
theorem Oy(k:κ)(v:β)(b:Nat)(ms:List (Ent κ β)):FP (E.enc k) (g v) b (ms.map (AZ E g))=((wG k v b ms).1.map (AZ E g),(wG k v b ms).2):=by
 induction ms with
 |nil=>rfl
 |cons x ms ih=>
  simp only[aY,FP,wG];rw[ih,show(AZ E g x).key=E.enc x.k from rfl,FG]
  by_cases h:k=x.k
  ·simp[h,AZ]
  ·simp[h]
theorem DN(k:κ)(v:β)(b:Nat)(ms:List (Ent κ β)):plain (wG k v b ms).1=my (plain ms) k v:=by
 induction ms with
 |nil=>rfl
 |cons x ms ih=>
  simp only[wG,plain,aY,my];by_cases h:k=x.k
  ·simp[h]
  ·simp only[h,if_false,aY,List.cons.injEq,true_and];exact ih
theorem Qe(k:κ)(v:β)(b:Nat)(ms:List (Ent κ β)):(wG k v b ms).1.map (·.n)=(if k∈ms.map (·.k)then ms.map (·.n)else ms.map (·.n)++ [b])∧(wG k v b ms).2=(if k∈ms.map (·.k)then b else b+1):=by
 induction ms with
 |nil=>exact⟨rfl,rfl⟩
 |cons x ms ih=>
  simp only[wG];by_cases h:k=x.k
  ·simp[h]
  ·simp only[h,if_false,aY,ih.1,ih.2,ah,false_or,and_true]
   split<;>simp
theorem OI{h:ac}{r:Nat}{ms:List (Ent κ β)}{b:Nat}(hm:MapE E g h r ms b)(k:κ)(v:β):nJ h r (E.enc k) (g v)=h.setIfInBounds r (.map ((wG k v b ms).1.map (AZ E g)).toArray (wG k v b ms).2):=by
 unfold nJ;rw[hm.here];simp only;rw[Oy]
theorem MapE.put{h:ac}{r:Nat}{ms:List (Ent κ β)}{c:Nat}(hm:MapE E g h r ms c)(k:κ)(v:β):MapE E g (nJ h r (E.enc k) (g v)) r (wG k v c ms).1 (wG k v c ms).2:=by
 rw[OI hm];have o:(wG k v c ms).1.map (·.k)=(plain (wG k v c ms).1).map (·.1):=by unfold plain;rw[fp];rfl
 have n:(plain ms).map (·.1)=ms.map (·.k):=by unfold plain;rw[fp];rfl
 have f:=Qe k v c ms;have d:∀y∈ms.map (·.n),y<c:=fun y m=>by
  obtain⟨x,hx,rfl⟩:=aI.1 m;exact hm.old x hx
 refine⟨dU hm.here,?_,?_,?_⟩
 ·rw[o,DN];exact JA (by rw[n];exact hm.keys)
 ·rw[f.1]
  split
  ·exact hm.nums
  ·rw[kG]
   refine⟨hm.nums,by simp,?_⟩
   intro a i b j;simp only[ak]at j;have:=d a i;omega
 ·intro x hx
  have hx:x.n∈(wG k v c ms).1.map (·.n):=aI.2 ⟨x,hx,rfl⟩
  rw[f.1]at hx;rw[f.2];split
  ·rename_i hk;rw[if_pos hk]at hx;exact d _ hx
  ·rename_i hk
   rw[if_neg hk]at hx;rcases List.mem_append.1 hx with e|e
   ·have:=d _ e;omega
   ·simp only[ak]at e;omega
theorem MapAt.put{h:ac}{r:Nat}{m:List (κ×β)}(hm:MapAt E g h r m)(k:κ)(v:β):MapAt E g (nJ h r (E.enc k) (g v)) r (my m k v):=by
 obtain⟨ms,b,hm,rfl⟩:=hm;exact⟨_,_,hm.put k v,DN ..⟩
theorem ur{M:Nat→Prop}(h:ac){r:Nat}(k v:Value)(b:M r):Upd M h (nJ h r k v):=by
 unfold nJ;split
 ·exact Upd.set h _ b
 ·exact Upd.refl _ _
theorem AN{M:Nat→Prop}(h:ac){r:Nat}(k:Value)(b:M r):Upd M h (qJ h r k):=by
 unfold qJ;split
 ·exact Upd.set h _ b
 ·exact Upd.refl _ _
theorem Nz(k:κ){ms:List (Ent κ β)}(b:(ms.map (·.k)).Nodup):DP (E.enc k) (ms.map (AZ E g))=(ms.filter fun x=>x.k≠k).map (AZ E g):=by
 induction ms with
 |nil=>rfl
 |cons x ms ih=>
  simp only[aY,du]at b;simp only[aY,DP,List.filter_cons];rw[show(AZ E g x).key=E.enc x.k from rfl,FG]
  by_cases h:k=x.k
  ·subst h
   simp only[decide_true,if_true,ne_eq,not_true_eq_false,decide_false,cE,if_false];congr 1
   rw[mf.2];intro y c;simp only[decide_not,Bool.not_eq_eq_eq_not,Bool.not_true,decide_eq_false_iff_not];intro e;exact b.1 (e▸aI.2 ⟨y,c,rfl⟩)
  ·simp only[h,decide_false,cE,if_false,ne_eq,Ne.symm h,not_false_eq_true,decide_true,if_true,aY]
   rw[ih b.2]
theorem MapE.drop{h:ac}{r:Nat}{ms:List (Ent κ β)}{b:Nat}(hm:MapE E g h r ms b)(k:κ):MapE E g (qJ h r (E.enc k)) r (ms.filter fun x=>x.k≠k) b:=by
 have e:qJ h r (E.enc k)=h.setIfInBounds r (.map ((ms.filter fun x=>x.k≠k).map (AZ E g)).toArray b):=by
  unfold qJ;rw[hm.here];simp only;rw[Nz k hm.keys]
 rw[e];refine⟨dU hm.here,hm.keys.sublist ((fw).map _),hm.nums.sublist ((fw).map _),fun x hx=>hm.old x ((bG.1 hx).1)⟩
theorem rk(k:κ)(ms:List (Ent κ β)):plain (ms.filter fun x=>x.k≠k)=sP (plain ms) k:=by
 unfold plain sP;rw[List.filter_map];rfl
theorem MapAt.del{h:ac}{r:Nat}{m:List (κ×β)}(hm:MapAt E g h r m)(k:κ):MapAt E g (qJ h r (E.enc k)) r (sP m k):=by
 obtain⟨ms,b,hm,rfl⟩:=hm;exact⟨_,_,hm.drop k,rk ..⟩
end
section
variable {κ β:Type} (E:KeyE κ) (g:β→Value)
def IterSt(h:ac)(i r:Nat)(m b:List (κ×β)):Prop:=
 ∃ms clock since seen last,MapE E g h r ms clock∧plain ms=m∧h[i]? =some (.mapIter (some r) since seen last)∧b=plain (ms.filter fun x=> !seen.contains x.n)∧∀x∈ms,x.n<since∧x.n<last
variable {E g}
theorem IterSt.at{h:ac}{i r:Nat}{m c:List (κ×β)}(f:IterSt E g h i r m c):MapAt E g h r m:=by
 obtain⟨ms,b,d,e,last,hm,j,_⟩:=f;exact⟨ms,b,hm,j⟩
theorem IterSt.upd{h h':ac}{i r:Nat}{m b:List (κ×β)}{M:Nat→Prop}(j:IterSt E g h i r m b)(k:Upd M h h')(o:¬M i)(p:¬M r):IterSt E g h' i r m b:=by
 obtain⟨ms,c,d,e,last,hm,q,n,f,s⟩:=j;exact⟨ms,c,d,e,last,⟨k.get hm.here p,hm.keys,hm.nums,hm.old⟩,q,k.get n o,f,s⟩
theorem IterSt.ne{h:ac}{i r:Nat}{m b:List (κ×β)}(k:IterSt E g h i r m b):i≠r:=by
 obtain⟨ms,c,d,f,last,hm,o,j,n,p⟩:=k;intro e;subst e;rw[hm.here]at j;cases j
theorem IterSt.nodup{h:ac}{i r:Nat}{m b:List (κ×β)}(j:IterSt E g h i r m b):(b.map (·.1)).Nodup:=by
 obtain⟨ms,c,d,e,last,hm,n,k,f,o⟩:=j;rw[f];unfold plain;rw[fp];exact hm.keys.sublist ((fw).map _)
theorem MapAt.range{h:ac}{r:Nat}{m:List (κ×β)}(hm:MapAt E g h r m):∃b,(∃es,h[r]? =some (.map es b))∧IterSt E g (h.push (.mapIter (some r) b #[] b)) h.size r m m:=by
 obtain⟨ms,b,hm,c⟩:=hm;refine⟨b,⟨_,hm.here⟩,ms,b,b,#[],b,⟨(Upd.push No h _).get0 hm.here,hm.keys,hm.nums,hm.old⟩,c,jN h _,?_,fun x hx=>⟨hm.old x hx,hm.old x hx⟩⟩
 rw[show(fun x:Ent κ β=> !(#[]:Array Nat).contains x.n)=fun _=>true from funext fun x=>by simp,mf.2 fun _ _=>rfl,c]
theorem AY{α γ:Type}{f:α→γ}:∀{l:List α},(l.map f).Nodup→∀{x y:α},x∈l→y∈l→f x=f y→x=y
 | [],_,x,y,h,_,_=>by cases h
 |z::l,hn,x,y,hx,hy,e=>by
  simp only[aY,du]at hn;rcases ah.1 hx with c|c<;>rcases ah.1 hy with b|b
  ·rw[c,b]
  ·exact absurd (aI.2 ⟨y,b,by rw[←e,c]⟩) hn.1
  ·exact absurd (aI.2 ⟨x,c,by rw[e,b]⟩) hn.1
  ·exact AY hn.2 c b e
theorem Nd{ms:List (Ent κ β)}(b:(ms.map (·.n)).Nodup){x:Ent κ β}(hx:x∈ms):(ms.map (AZ E g)).find? (fun e=>e.born==x.n)=some (AZ E g x):=by
 induction ms with
 |nil=>cases hx
 |cons y ms ih=>
  simp only[aY,du]at b;rw[aY,List.find?_cons];rcases ah.1 hx with rfl|hx
  ·simp[AZ]
  ·have:(AZ E g y).born≠x.n:=fun e=>b.1 (aI.2 ⟨x,hx,e.symm⟩)
   have c:((AZ E g y).born==x.n)=false:=by simpa using this
   rw[c];exact ih b.2 hx
variable [DecidableEq κ]
theorem NextP.at{M:Nat→Prop}{h:ac}{i r:Nat}{m d:List (κ×β)}{Kend:Prop}{Kstep:MapEntry→ac→Prop}(F:IterSt E g h i r m d)(hM:M i)
  (u:d= []→Kend)
  (n:∀k v,(k,v)∈d→∀(e:MapEntry) h',e.key=E.enc k→e.val=g v→wN h' i e→IterSt E g h' i r m (sP d k)→Upd M h h'→Kstep e h'):NextP ⟨i,0,none⟩ h Kend Kstep:=by
 have A:=F.ne;obtain⟨ms,b,c,j,last,hm,I,H,z,B⟩:=F;refine⟨rfl,_,c,j,last,H,.inr ⟨r,_,b,rfl,hm.here,?_,fun f=>?_,fun e D C=>?_⟩⟩
 ·by_cases G:ms= []
  ·right;left;subst G;rfl
  ·right;right
   obtain⟨x,l,hx⟩:=List.exists_cons_of_ne_nil G;rw[kH];intro f;rw[Array.all_eq_true']at f;have hx:x∈ms:=by rw[hx];exact List.mem_cons_self ..
   have:=f (AZ E g x) (by simp only[List.mem_toArray,aI];exact⟨x,hx,rfl⟩);have J:=(B x hx).2;simp[AZ]at this;omega
 ·refine u ?_
  rw[z];unfold plain;rw[List.map_eq_nil_iff,List.filter_eq_nil_iff];intro x hx;have:=f (AZ E g x) (by simp only[aI];exact⟨x,hx,rfl⟩) (B x hx).1;have e:(AZ E g x).born=x.n:=rfl;rw[e]at this;rw[this];exact Bool.false_ne_true
 ·simp only[aI]at D
  obtain⟨x,hx,rfl⟩:=D;have C:j.contains x.n=false:=C;have s:=dU (o:=.mapIter (some r) c (j.push x.n) b) H;have p:(h.setIfInBounds i (.mapIter (some r) c (j.push x.n) b))[r]? =some (.map (ms.map (AZ E g)).toArray b):=by
   rw[bS];simp only[A,if_false];exact hm.here
  refine n x.k x.v ?_ _ _ rfl rfl ?_ ?_ (Upd.set h _ hM)
  ·rw[z]
   exact aI.2 ⟨x,bG.2 ⟨hx,by rw[C];rfl⟩,rfl⟩
  ·refine⟨r,c,_,b,x.n,_,s,by simp,p,?_⟩
   rw[←Array.find?_toList];exact Nd hm.nums hx
  ·refine⟨ms,b,c,_,b,⟨p,hm.keys,hm.nums,hm.old⟩,I,s,?_,fun y q=>⟨(B y q).1,hm.old y q⟩⟩
   rw[z,←rk,List.filter_filter];congr 1
   apply oT;intro y q;have t:y.n=x.n↔y.k=x.k:=⟨fun e=>congrArg _ (AY hm.nums q hx e),fun e=>congrArg _ (AY hm.keys q hx e)⟩
   simp only[Array.contains_push,ne_eq,decide_not,Bool.not_or];by_cases w:y.k=x.k
   ·have:=t.2 w;simp[w,this]
   ·have:¬y.n=x.n:=fun e=>w (t.1 e)
    simp[w,this]
theorem IterSt.del{h:ac}{i r:Nat}{m b:List (κ×β)}(j:IterSt E g h i r m b)(k:κ):IterSt E g (qJ h r (E.enc k)) i r (sP m k) (sP b k):=by
 have f:=j.ne;obtain⟨ms,c,d,e,last,hm,p,o,n,q⟩:=j;refine⟨_,c,d,e,last,hm.drop k,by rw[rk,p],(AN (M:=(· =r)) h (E.enc k) rfl).get o f,?_,fun x hx=>q x (bG.1 hx).1⟩
 rw[n,←rk,List.filter_filter,List.filter_filter];congr 1
 apply oT;intro y _;exact Bool.and_comm ..
end
end Go.Lift
namespace Go.Lift
open Go
structure Takes{α:Type}(P:Program)(y:Value)(enc:α→List Value)(N:Nat)(J:List α→(Nat→Prop)→ac→Prop):Prop where
 lt:∀pre A h,J pre A h→∀b,A b→b<h.size
 keep:∀pre A h h' B,J pre A h→Upd B h h'→(∀b,A b→¬B b)→J pre A h'
 step:∀pre A h x (K:Bool→ac→Prop),J pre A h→pre.length<N→(∀h' A',J (pre++ [x]) A' h'→Upd A h h'→(∀b,A' b→A b∨h.size≤b)→K true h')→HV P y (enc x) [.c .bool] K h
structure Gives{α:Type}(P:Program)(fv:Value)(enc:α→List Value)(N:Nat)(S:List α→Prop)(Q:Nat→Prop)(h:ac):Prop where
 lt:∀b,Q b→b<h.size
 run:∃f first cap,fv=.func (.func f) first cap∧∀(y:Value) (J:List α→(Nat→Prop)→ac→Prop) (A M:Nat→Prop) (h1:ac) (K:Unit→ac→Prop),Takes P y enc N J→J [] A h1→Upd M h h1→(∀b,Q b→¬M b)→(∀b,A b→¬Q b)→
  (∀xs A' h',S xs→J xs A' h'→Upd A h1 h'→(∀b,A' b→A b∨h1.size≤b)→K () h')→HE P f (first.toList++ [y]++cap.toList) [] K h1
theorem Gives.upd{α:Type}{P:Program}{d:Value}{enc:α→List Value}{N:Nat}{S:List α→Prop}{Q M:Nat→Prop}{h h':ac}(g:Gives P d enc N S Q h)(k:Upd M h h')(hm:∀b,Q b→¬M b):Gives P d enc N S Q h':=by
 obtain⟨f,first,cap,e,o⟩:=g.run
 refine⟨fun b c=>aE (g.lt b c) k.size,f,first,cap,e,fun y J A M' q K j n m s i p=>?_⟩
 exact o y J A (fun b=>M b∨M' b) q K j n ((k.mono fun b c=>.inl (.inl c)).tr (m.mono fun b c=>.inl (.inr c))) (fun b c h=>h.elim (hm b c) (s b c)) i p
end Go.Lift
