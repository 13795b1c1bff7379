/- A part of the proof that the named laws of this program answer true, whatever the input. -/
import Derived.Test.YtakmnggbneeicaaGreatLift2
open Array renaming ext_getElem?→nG,getElem?_modify→kI,getElem?_setIfInBounds→dK,getElem?_eq_some_iff→cF
open Bool renaming false_eq_true→cJ,eq_false_iff→ey
open List renaming flatMap_cons→aU,length_append→ae,length_cons→au,getElem?_append_left→bO,getElem?_append_right→bq,getElem?_eq_some_iff→bG,length_take→aQ,length_drop→aX,take_append_drop→bJ,flatMap_append→co,length_eq_zero_iff→aG,getElem?_toArray→dP,length_nil→bA,size_toArray→cP,take_append_of_le_length→ee,drop_eq_nil_of_le→jU,nil_append→cS,append_assoc→aE,take_left'→cK,drop_drop→cL,drop_left'→cA,drop_append_of_le_length→eo,mem_map→aP,map_map→hE,nodup_nil→oL,filter_cons→aR,map_cons→bX,nodup_cons→dJ,mem_cons→aq,mem_singleton→al,filter_sublist→cX,filter_eq_self→di,mem_filter→bE,filter_filter→iB,filter_congr→ef
open Nat renaming lt_or_ge→cr,zero_add→aO,le_refl→ai,lt_of_lt_of_le→az,not_lt→de,succ_mul→mn,add_zero→gZ
open Option renaming some→bK
namespace Go.Lift
open Go
attribute [simp] aw ag
theorem ao{p:Prop}[Decidable p]{t e:Prop}(b:p→t)(a:¬p→e):CondP (decide p) t e:=CondP.intro (fun h=>b (of_decide_eq_true h)) (fun h=>a (of_decide_eq_false h))
theorem HC.mono{P:Program}{f:FuncId}{args:List Value}{ks:List Kind}{K d:sW ks→ad→Prop}{h:ad}(hc:HC P f args ks K h)(g:∀t h',K t h'→d t h'):HC P f args ks d h:=by
 refine⟨fun w k=>?_⟩
 rcases hc.run w k with⟨a,b⟩|⟨v,c,a,b,t,j,m⟩
 ·exact .inl ⟨a,b.mono fun e c ⟨ht,t,n,i⟩=>⟨ht,t,n,g t _ i⟩⟩
 ·exact .inr ⟨v,c,a,b,t,j,g t _ m⟩
theorem Join.intro{T:Type}{a:T→ad→Prop}{k:(T→ad→Prop)→Prop}(J:T→ad→Prop)(c:∀R:T→ad→Prop,(∀t h,J t h→R t h)→k R)(b:∀t h,J t h→a t h):Join a k:=⟨c a b⟩
theorem Join.plain{T:Type}{a:T→ad→Prop}{k:(T→ad→Prop)→Prop}(h:k a):Join a k:=⟨h⟩
theorem LoopP.intro{T:Type}{F:(T→ad→Prop)→T→ad→Prop}{t:T}{h:ad}(Inv:T→ad→Prop)(m:T→ad→Nat)(e:Inv t h)
  (step:∀I:T→ad→Prop,∀t h,Inv t h→(∀a h',Inv a h'→m a h'<m t h→I a h')→F I t h):LoopP F t h:=by
 refine⟨fun I f=>?_⟩
 have key:∀n t h,m t h=n→Inv t h→I t h:=by
  intro n;induction n using Nat.strongRecOn with
  |_ n ih=>exact fun t h d hi=>f t h (step I t h hi fun a h' b c=>ih _ (d▸c) a h' rfl b)
 exact key _ t h rfl e
theorem LoopP.ghost{T G:Type}{F:(T→ad→Prop)→T→ad→Prop}{t:T}{h:ad}(Inv:G→T→ad→Prop)(m:G→Nat)(g:G)(f:Inv g t h)
  (step:∀I:T→ad→Prop,∀g t h,Inv g t h→(∀a b h',Inv a b h'→m a<m g→I b h')→F I t h):LoopP F t h:=by
 refine⟨fun I i=>?_⟩
 have key:∀n g t h,m g=n→Inv g t h→I t h:=by
  intro n;induction n using Nat.strongRecOn with
  |_ n ih=>exact fun g t h e hi=>i t h (step I g t h hi fun a b h' c d=>ih _ (e▸d) a b h' rfl c)
 exact key _ g t h rfl f
theorem HV.mk'{P:Program}{f:FuncId}{first cap:Array Value}{args:List Value}{ks:List Kind}{K:sW ks→ad→Prop}{h:ad}(hc:HC P f (first.toList++args++cap.toList) ks K h):HV P (.func (.func f) first cap) args ks K h:=
 ⟨.inl ⟨f,first,cap,rfl,hc⟩⟩
@[simp] theorem ce(b o n:Nat):adr ⟨b,o,none⟩ n=⟨b,o+n,none⟩:=by
 cases n<;>rfl
@[simp] theorem Cg(a:Addr)(n:Nat):(adr a n).block=a.block:=by
 cases n<;>rfl
theorem cz(h:ad):aL h=⟨h.size,0,none⟩:=rfl
theorem L0{h:ad}{a:Addr}{v:Value}(hv:aK h a=some v):a.block<h.size:=by
 unfold aK at hv;rcases cr a.block h.size with b|b
 ·exact b
 ·rw[Array.getElem?_eq_none b]at hv;cases hv
theorem bd{h:ad}{b i:Nat}{c:Array Value}{e:TypeId}{fr:Nat×Nat}(hb:h[b]? =some (.cells c e fr)):aK h ⟨b,i,none⟩=c[i]?:=by
 unfold aK;rw[hb];rfl
theorem jN{h h':ad}{c:Array Value}{e:TypeId}{fr:Nat×Nat}(hb:h'[h.size]? =some (.cells c e fr)) (i:Nat):aK h' (adr (aL h) i)=c[i]?:=by
 rw[cz,ce,bd hb,aO]
theorem NZ{h h':ad}{a:Addr}(hb:h'[a.block]? =h[a.block]?):aK h' a=aK h a:=by
 unfold aK;rw[hb]
theorem ju{h:ad}{b i:Nat}{c:Array Value}{e:TypeId}{fr:Nat×Nat}{v:Value}(hb:h[b]? =some (.cells c e fr)):
  hset h ⟨b,i,none⟩ v=h.setIfInBounds b (.cells (c.setIfInBounds i v) e fr):=by
 unfold hset;apply nG;intro j;rw[kI,dK];by_cases d:b=j
 ·subst d
  have a:=(cF.1 hb).1;simp only[hb,if_true,a,Option.map_some];rfl
 ·simp[d]
theorem eC{h:ad}{b i:Nat}{c:Array Value}{e:TypeId}(hb:h[b]? =some (.cells c e (0,0))) (hi:i<c.size):Wr h ⟨b,i,none⟩:=by
 refine⟨⟨c[i],by rw[bd hb,Array.getElem?_eq_getElem hi]⟩,?_⟩
 unfold Er;rw[hb];simp
structure Upd(M:Nat→Prop)(h h':ad):Prop where
 size:h.size≤h'.size
 same:∀b,b<h.size→¬M b→h'[b]? =h[b]?
abbrev No:Nat→Prop:=fun _=>False
theorem Upd.refl(M:Nat→Prop)(h:ad):Upd M h h:=⟨ai _,fun _ _ _=>rfl⟩
theorem Upd.trans{M M':Nat→Prop}{h d e:ad}(k:Upd M h d)(l:Upd M' d e)(f:∀b,M' b→M b∨h.size≤b):Upd M h e:=
 ⟨Nat.le_trans k.size l.size,fun b hb c=>by
  rw[l.same b (az hb k.size) (fun hm=>(f b hm).elim c fun a=>absurd hb (de.2 a)),k.same b hb c]⟩
theorem Upd.tr{M:Nat→Prop}{h b a:ad}(k:Upd M h b)(l:Upd M b a):Upd M h a:=k.trans l fun _ h=>.inl h
theorem Upd.mono{M M':Nat→Prop}{h h':ad}(k:Upd M h h')(c:∀b,M b→M' b∨h.size≤b):Upd M' h h':=
 ⟨k.size,fun b hb d=>k.same b hb fun hm=>(c b hm).elim d fun a=>absurd hb (de.2 a)⟩
theorem Upd.wide{M:Nat→Prop}{h h':ad}(k:Upd No h h'):Upd M h h':=k.mono fun _ h=>h.elim
theorem Upd.get{M:Nat→Prop}{h h':ad}(k:Upd M h h'){b:Nat}{o:Obj}(a:h[b]? =some o) (c:¬M b):h'[b]? =some o:=by
 rw[k.same b (cF.1 a).1 c,a]
theorem Upd.get0{h h':ad}(k:Upd No h h'){b:Nat}{o:Obj}(a:h[b]? =some o):h'[b]? =some o:=k.get a id
theorem Upd.cell{M:Nat→Prop}{h h':ad}(k:Upd M h h'){a:Addr}{v:Value}(hv:aK h a=some v)(b:¬M a.block):aK h' a=some v:=by
 rw[NZ (k.same _ (L0 hv) b),hv]
theorem Upd.cell0{h h':ad}(k:Upd No h h'){a:Addr}{v:Value}(hv:aK h a=some v):aK h' a=some v:=k.cell hv id
theorem Upd.push(M:Nat→Prop)(h:ad)(o:Obj):Upd M h (h.push o):=⟨by simp,fun b hb _=>by rw[Array.getElem?_push];simp[Nat.ne_of_lt hb]⟩
theorem Upd.set{M:Nat→Prop}(h:ad){b:Nat}(o:Obj)(hb:M b):Upd M h (h.setIfInBounds b o):=⟨by simp,fun c _ a=>by
 rw[dK]
 have:b≠c:=fun e=>a (e▸hb)
 simp[this]⟩
theorem Upd.hset{M:Nat→Prop}(h:ad){a:Addr}(v:Value)(hb:M a.block):Upd M h (hset h a v):=⟨by simp[Go.Lift.hset],fun c _ b=>by
 unfold Go.Lift.hset
 rw[kI]
 have:a.block≠c:=fun e=>b (e▸hb)
 simp[this]⟩
theorem Upd.hnew(M:Nat→Prop)(h:ad)(cs:List Value)(t:TypeId):Upd M h (hnew h cs t):=Upd.push M h _
theorem bU(h:ad)(cs:List Value)(t:TypeId):(hnew h cs t)[h.size]? =some (.cells cs.toArray t (0,0)):=by
 unfold hnew;simp
theorem oh(h:ad)(o:Obj):(h.push o)[h.size]? =some o:=by simp
theorem dC(h:ad)(cs:List Value)(t:TypeId):(hnew h cs t).size=h.size+1:=by
 unfold hnew;simp
theorem dE{h:ad}{b:Nat}{o a:Obj}(hb:h[b]? =some a):(h.setIfInBounds b o)[b]? =some o:=by
 rw[dK];simp[(cF.1 hb).1]
theorem bw{h:ad}{b:Nat}{o:Obj}(hb:h[b]? =some o):b<h.size:=(cF.1 hb).1
theorem Row.upd{M:Nat→Prop}{h h':ad}{a:Addr}{vs:List Value}(b:Row h a vs)(k:Upd M h h')(c:¬M a.block):Row h' a vs:=fun i v hv=>k.cell (b i v hv) (by rw[Cg];exact c)
theorem SRow.upd{M:Nat→Prop}{h h':ad}{a:Option Addr}{n:Nat}{vs:List Value}(c:SRow h a n vs)(k:Upd M h h')(f:vs≠[]→∀b,a=some b→¬M b.block):SRow h' a n vs:=by
 obtain⟨d,e⟩:=c;refine⟨d,?_⟩;rcases e with rfl|⟨b,hb,c⟩
 ·exact .inl rfl
 ·by_cases hv:vs= []
  ·exact .inl hv
  ·exact .inr ⟨b,hb,c.upd k (f hv b hb)⟩
theorem qU{h:ad}{b o:Nat}{c:Array Value}{e:TypeId}{fr:Nat×Nat}(hb:h[b]? =some (.cells c e fr)) {vs:List Value} (hv:∀i v,vs[i]? =some v→c[o+i]? =some v):Row h ⟨b,o,none⟩ vs:=fun i v hi=>by
 rw[ce,bd hb];exact hv i v hi
structure Sl{α:Type}(f:α→List Value)(sz:Nat)(W:Nat→Prop)(h:ad)(s:SliceV)(xs:List α):Prop where
 len:s.len=xs.length
 ne:∀x,(f x).length=sz∧0<sz
 row:xs≠[]→∃a,s.a=some a∧¬W a.block∧Row h a (xs.flatMap f)
theorem Sl.nil{α:Type}{f:α→List Value}{sz:Nat}{W:Nat→Prop}{h:ad}{a:Option Addr}{c:Nat}(b:∀x,(f x).length=sz∧0<sz):Sl f sz W h ⟨a,0,c⟩ []:=⟨rfl,b,fun h=>absurd rfl h⟩
theorem Sl.lt{α:Type}{f:α→List Value}{sz:Nat}{W:Nat→Prop}{h:ad}{s:SliceV}{xs:List α}(c:Sl f sz W h s xs)(hx:xs≠[]){a:Addr}(g:s.a=some a):a.block<h.size:=by
 obtain⟨a',b,i,e⟩:=c.row hx;rw[g]at b;cases b;cases xs with
 |nil=>exact absurd rfl hx
 |cons x xs=>
  have d:=c.ne x;cases hf:f x with
  |nil=>rw[hf]at d;simp at d;omega
  |cons v vs=>
   have:=e 0 v (by rw[aU,hf];rfl);have:=L0 this;rw[Cg]at this;exact this
theorem Sl.upd{α:Type}{f:α→List Value}{sz:Nat}{W M:Nat→Prop}{h h':ad}{s:SliceV}{xs:List α}(c:Sl f sz W h s xs)(k:Upd M h h')(hm:∀b,M b→W b∨h.size≤b):Sl f sz W h' s xs:=by
 refine⟨c.len,c.ne,fun hx=>?_⟩
 obtain⟨a,g,e,i⟩:=c.row hx;exact⟨a,g,e,i.upd k fun hb=>(hm _ hb).elim e fun d=>absurd (c.lt hx g) (de.2 d)⟩
theorem Sl.less{α:Type}{f:α→List Value}{sz:Nat}{W W':Nat→Prop}{h:ad}{s:SliceV}{xs:List α}(c:Sl f sz W h s xs)(hm:∀b,W' b→W b∨h.size≤b):Sl f sz W' h s xs:=
 ⟨c.len,c.ne,fun hx=>let⟨a,e,i,g⟩:=c.row hx;⟨a,e,fun hb=>(hm _ hb).elim i fun d=>absurd (c.lt hx e) (de.2 d),g⟩⟩
theorem gq{α:Type}{f:α→List Value}{sz:Nat}(a:∀x,(f x).length=sz):∀xs:List α,(xs.flatMap f).length=xs.length*sz
 | []=>by simp
 |x::xs=>by rw[aU,ae,a,gq a xs,au,mn];omega
theorem th{α:Type}{f:α→List Value}{sz:Nat}(a:∀x,(f x).length=sz):∀(xs:List α) (i j:Nat) (x:α),xs[i]? =some x→j<sz→(xs.flatMap f)[i*sz+j]? =(f x)[j]?
 | [],i,j,x,h,_=>by simp at h
 |y::xs,0,j,x,h,hj=>by
  simp only[List.getElem?_cons_zero,bK.injEq]at h;subst h;rw[aU,Nat.zero_mul,aO,bO (by rw[a];exact hj)]
 |y::xs,i+1,j,x,h,hj=>by
  rw[List.getElem?_cons_succ]at h;rw[aU,bq (by rw[a,mn];omega),a,show(i+1)*sz+j-sz=i*sz+j by rw[mn];omega]
  exact th a xs i j x h hj
theorem Sl.at{α:Type}{f:α→List Value}{sz:Nat}{W:Nat→Prop}{h:ad}{s:SliceV}{xs:List α}(b:Sl f sz W h s xs){i:Nat}{x:α}(hi:xs[i]? =some x):
  ∃a,s.a=some a∧¬W a.block∧∀j v,(f x)[j]? =some v→aK h (adr (adr a (i*sz)) j)=some v:=by
 obtain⟨a,g,d,c⟩:=b.row (fun e=>by subst e;simp at hi)
 refine⟨a,g,d,fun j v hv=>?_⟩
 have k:j<sz:=by rw[←(b.ne x).1];exact(bG.1 hv).1
 rw[nf];exact c _ v (by rw[th (fun x=>(b.ne x).1) xs i j x hi k];exact hv)
theorem Sl.at0{α:Type}{g:α→Value}{W:Nat→Prop}{h:ad}{s:SliceV}{xs:List α}(c:Sl (fun x=> [g x]) 1 W h s xs){i:Nat}{x:α}(hi:xs[i]? =some x):
  ∃a,s.a=some a∧¬W a.block∧aK h (adr a (i*1))=some (g x):=by
 obtain⟨a,d,e,b⟩:=c.at hi;exact⟨a,d,e,b 0 _ rfl⟩
theorem Sl.srow{α:Type}{f:α→List Value}{sz:Nat}{W:Nat→Prop}{h:ad}{s:SliceV}{xs:List α}(b:Sl f sz W h s xs):SRow h s.a (s.len*sz) (xs.flatMap f):=by
 refine⟨?_,?_⟩
 ·rw[b.len,gq fun x=>(b.ne x).1]
 ·by_cases hx:xs= []
  ·subst hx;exact .inl rfl
  ·obtain⟨a,c,_,d⟩:=b.row hx
   exact .inr ⟨a,c,d⟩
theorem Sl.sub{α:Type}{f:α→List Value}{sz:Nat}{W:Nat→Prop}{h:ad}{s:SliceV}{xs:List α}(b:Sl f sz W h s xs){l hi m c:Nat}(p:l≤hi)(d:hi≤xs.length)(q:hi≤m):
  Sl f sz W h ⟨aV s.a l m sz,hi-l,c⟩ ((xs.drop l).take (hi-l)):=by
 refine⟨by simp only[aQ,aX];omega,b.ne,fun hx=>?_⟩
 have o:l<hi:=by
  rcases cr l hi with h|h
  ·exact h
  ·rw[Nat.sub_eq_zero_of_le h]at hx;exact absurd List.take_zero hx
 obtain⟨a,k,g,j⟩:=b.row (fun e=>by rw[e]at d;simp at d;omega)
 refine⟨adr a (l*sz),?_,by rw[Cg];exact g,fun i v hv=>?_⟩
 ·unfold aV
  rw[if_neg (by omega),k];rfl
 ·rw[nf]
  refine j _ v ?_;have e:xs=xs.take l++((xs.drop l).take (hi-l)++(xs.drop l).drop (hi-l)):=by rw[bJ,bJ]
  rw[e,co,co];have n:((xs.take l).flatMap f).length=l*sz:=by rw[gq fun x=>(b.ne x).1,aQ];congr 1;omega
  rw[bq (by omega),n,Nat.add_sub_cancel_left,bO (bG.1 hv).1];exact hv
structure OwnS{α:Type}(f:α→List Value)(sz:Nat)(t:TypeId)(M:Nat→Prop)(h:ad)(s:SliceV)(xs:List α):Prop where
 len:s.len=xs.length
 ne:∀x,(f x).length=sz∧0<sz
 cap:s.len≤s.cap
 blk:s.cap=0∨∃b rest,s.a=some ⟨b,0,none⟩∧M b∧h[b]? =some (.cells (xs.flatMap f++rest).toArray t (0,0))∧rest.length=(s.cap-s.len)*sz
theorem OwnS.nil{α:Type}{f:α→List Value}{sz:Nat}{t:TypeId}{M:Nat→Prop}{h:ad}{a:Option Addr}(b:∀x,(f x).length=sz∧0<sz):OwnS f sz t M h ⟨a,0,0⟩ []:=⟨rfl,b,ai _,.inl rfl⟩
theorem OwnS.sl{α:Type}{f:α→List Value}{sz:Nat}{t:TypeId}{M W:Nat→Prop}{h:ad}{s:SliceV}{xs:List α}(a:OwnS f sz t M h s xs)(hm:∀b,M b→b<h.size→¬W b):Sl f sz W h s xs:=by
 refine⟨a.len,a.ne,fun hx=>?_⟩
 rcases a.blk with e|⟨b,c,d,hb,hc,_⟩
 ·have:=a.len;have:=a.cap
  have:xs.length=0:=by omega
  exact absurd (aG.1 this) hx
 ·exact⟨_,d,hm b hb (bw hc),qU hc fun i v hv=>by
   rw[aO,dP,bO (bG.1 hv).1];exact hv⟩
theorem OwnS.upd{α:Type}{f:α→List Value}{sz:Nat}{t:TypeId}{M M':Nat→Prop}{h h':ad}{s:SliceV}{xs:List α}(c:OwnS f sz t M h s xs)(k:Upd M' h h')(hm:∀b,M b→¬M' b):OwnS f sz t M h' s xs:=by
 refine⟨c.len,c.ne,c.cap,c.blk.imp id fun⟨b,a,d,hb,hc,e⟩=>⟨b,a,d,hb,k.get hc (hm b hb),e⟩⟩
theorem OwnS.more{α:Type}{f:α→List Value}{sz:Nat}{t:TypeId}{M M':Nat→Prop}{h:ad}{s:SliceV}{xs:List α}(c:OwnS f sz t M h s xs)(hm:∀b,M b→M' b):OwnS f sz t M' h s xs:=by
 refine⟨c.len,c.ne,c.cap,c.blk.imp id fun⟨b,a,d,hb,hc,e⟩=>⟨b,a,d,hm b hb,hc,e⟩⟩
theorem OwnS.within{α:Type}{f:α→List Value}{sz:Nat}{t:TypeId}{M:Nat→Prop}{h:ad}{s:SliceV}{xs:List α}(c:OwnS f sz t M h s xs):OwnS f sz t (fun b=>M b∧b<h.size) h s xs:=by
 refine⟨c.len,c.ne,c.cap,c.blk.imp id fun⟨b,a,d,hb,hc,e⟩=>⟨b,a,d,⟨hb,bw hc⟩,hc,e⟩⟩
theorem gC{b:Nat}{t:TypeId}:∀(vs:List Value) (h:ad) (i o:Nat) (c:List Value),h[b]? =some (.cells c.toArray t (0,0))→o+i+vs.length≤c.length→
  eN h ⟨b,o,none⟩ i vs=h.setIfInBounds b (.cells (c.take (o+i)++vs++c.drop (o+i+vs.length)).toArray t (0,0))
 | [],h,i,o,c,hb,hl=>by
  simp only[eN,List.append_nil,bA,gZ,bJ];apply nG;intro j;rw[dK];split
  ·rename_i e;subst e;rw[hb];simp[bw hb]
  ·rfl
 |v::vs,h,i,o,c,hb,hl=>by
  rw[au]at hl;simp only[eN];rw[ce,ju hb];have a:(h.setIfInBounds b (.cells (c.toArray.setIfInBounds (o+i) v) t (0,0)))[b]? =some (.cells (c.set (o+i) v).toArray t (0,0)):=by
   rw[dE hb];simp
  rw[gC vs _ (i+1) o (c.set (o+i) v) a (by simp;omega)];have e:∀(x y:Obj),(h.setIfInBounds b x).setIfInBounds b y=h.setIfInBounds b y:=fun x y=>by
   apply nG;intro j;simp only[dK,Array.size_setIfInBounds];split<;>rfl
  rw[e];congr 3
  apply List.ext_getElem?;intro j;simp only[List.getElem?_append,ae,aQ,List.length_set,au,List.getElem?_take,List.getElem?_set,List.getElem?_drop];grind
theorem kV(n:Nat)(z:List Value):(cU n z).length=n*z.length:=by
 unfold cU;induction n with
 |zero=>simp
 |succ n ih=>rw[List.replicate_succ,List.flatten_cons,ae,ih,mn];omega
theorem AppP.own{α:Type}{f:α→List Value}{sz d:Nat}{t:TypeId}{M:Nat→Prop}{h:ad}{base:Option Addr}{sl i J:Nat}{xs ys:List α}{k z:List Value}{K:SliceV→ad→Prop}
  (m:OwnS f sz t M h ⟨base,sl,i⟩ xs)(g:J=ys.length)(I:k=ys.flatMap f)(s:cx k=true)(S:z.length=sz)(hb:0<d)(w:(xs.length+ys.length)*d≤140737488355328)(O:M h.size)
  (G:∀s' h',OwnS f sz t M h' s' (xs++ys)→Upd M h h'→K s' h'):AppP (some z) sz d t base sl i J k h K:=by
 have a:sl=xs.length:=m.len;have p:∀x,(f x).length=sz:=fun x=>(m.ne x).1
 subst g I;have q:=gq p ys;have g:=gq p xs;refine⟨fun n=>?_,fun v=>?_⟩
 ·rcases m.blk with A|⟨b,c,E,o,hc,y⟩
  ·have A:i=0:=A
   have C:ys.length=0:=by omega
   have D:xs.length=0:=by omega
   have R:=aG.1 C;have hx:=aG.1 D;subst R hx;refine⟨.inl rfl,rfl,?_⟩;have e:eG h base (sl*sz) (([]:List α).flatMap f)=h:=by cases base<;>rfl
   rw[e];exact G _ _ ⟨by simp[a],m.ne,by simp only[bA];omega,.inl A⟩ (Upd.refl _ _)
  ·have E:base=some ⟨b,0,none⟩:=E
   have y:c.length=(i-sl)*sz:=y;subst E;have L:sl+ys.length≤i:=n;have Q:ys.length*sz≤c.length:=by rw[y];exact Nat.mul_le_mul_right _ (Nat.le_sub_of_add_le (show ys.length+sl≤i by omega))
   have u:0+sl*sz+(ys.flatMap f).length≤(xs.flatMap f++c).length:=by
    rw[ae,g,q,a];omega
   refine⟨.inr ⟨_,rfl,fun j T=>?_⟩,s,?_⟩
   ·rw[ce]
    refine eC hc ?_;rw[cP];omega
   ·have e:eG h (some ⟨b,0,none⟩) (sl*sz) (ys.flatMap f)=_:=gC (ys.flatMap f) h (sl*sz) 0 _ hc u
    rw[e];have H:(xs.flatMap f++c).take (0+sl*sz)=xs.flatMap f:=by
     rw[aO,a,←g,ee (ai _),List.take_length]
    have F:(xs.flatMap f++c).drop (0+sl*sz+(ys.flatMap f).length)=c.drop (ys.length*sz):=by
     rw[aO,a,←g,List.drop_append,jU (by omega),cS,q];congr 1;omega
    rw[H,F];refine G _ _ ⟨by simp[a],m.ne,n,.inr ⟨b,c.drop (ys.length*sz),rfl,o,?_,?_⟩⟩ (Upd.set h _ o)
    ·rw[dE hc,co]
    ·rw[aX,y]
     simp only;rw[show i-(sl+ys.length)=(i-sl)-ys.length by omega,Nat.sub_mul (i-sl)]
 ·have P:i*1≤i:=by omega
  refine⟨xs.flatMap f,z,?_,rfl,hb,Go.growslice_fits v (by rw[a];exact w),fun N B=>?_⟩
  ·exact(m.sl (W:=No) fun _ _ _=>id).srow
  ·refine G _ _ ⟨by simp[a],m.ne,B,.inr ⟨h.size,cU (N-(sl+ys.length)) z,rfl,O,?_,?_⟩⟩ (Upd.hnew M h _ _)
   ·rw[bU,co]
   ·rw[kV,S]
end Go.Lift
namespace Go.Lift
open Go
theorem bL{h:ad}{k:ad→Prop}(a:k h):At h k:=a
theorem iM{b o l m sz:Nat}(h:m≠l):aV (some ⟨b,o,none⟩) l m sz=some ⟨b,o+l*sz,none⟩:=by simp[aV,h,ce]
theorem sub_zero{b m sz:Nat}:aV (some ⟨b,0,none⟩) 0 m sz=some ⟨b,0,none⟩:=by
 unfold aV;split
 ·rfl
 ·simp[ce]
theorem j4{h:ad}{b:Nat}{c:List Value}{t:TypeId}{o n:Nat}{vs:List Value}{a:Option Addr}{k:ad→Prop}(d:SRow h a n vs)(i:cx vs=true)(hb:h[b]? =some (.cells c.toArray t (0,0)))
  (m:o+n≤c.length) (g:∀h',h'[b]? =some (.cells (c.take o++vs++c.drop (o+n)).toArray t (0,0))→Upd (· =b) h h'→k h'):
  ∃xs,SRow h a n xs∧pk h (some ⟨b,o,none⟩) 0 xs∧cx xs=true∧At (eG h (some ⟨b,o,none⟩) 0 xs) k:=by
 have f:=d.1;refine⟨vs,d,.inr ⟨_,rfl,fun j p=>?_⟩,i,bL ?_⟩
 ·rw[ce];exact eC hb (by rw[cP];omega)
 ·have e:eG h (some ⟨b,o,none⟩) 0 vs=_:=gC vs h 0 o c hb (by omega)
  rw[e];refine g _ ?_ (Upd.set h _ rfl);rw[dE hb,gZ,f]
theorem kr{h:ad}{b:Nat}{c:List Value}{t:TypeId}{o n:Nat}{vs:List Value}(hb:h[b]? =some (.cells c.toArray t (0,0))) (d:vs.length=n) (a:(c.drop o).take n=vs):SRow h (some ⟨b,o,none⟩) n vs:=by
 refine⟨d,.inr ⟨_,rfl,qU hb fun i v hv=>?_⟩⟩
 rw[dP,←List.getElem?_drop];have:((c.drop o).take n)[i]? =some v:=by rw[a];exact hv
 rw[List.getElem?_take]at this;split at this
 ·exact this
 ·cases this
section
variable {α:Type} {f:α→List Value} {sz:Nat}
theorem iV(a:∀x,(f x).length=sz∧0<sz)(xs:List α):(xs.flatMap f).length=xs.length*sz:=gq (fun x=>(a x).1) xs
theorem xr(xs:List α)(k:Nat):xs.flatMap f=(xs.take k).flatMap f++(xs.drop k).flatMap f:=by rw[←co,bJ]
end
theorem JJ{α:Type}{A X B Z1 Z2:List α}{p q r:Nat}(b:A.length=p)(e:X.length=q)(f:Z1.length=r+q):
  (((A++Z1++Z2).take p++X++(A++Z1++Z2).drop (p+q)).take (p+q))++B++((A++Z1++Z2).take p++X++(A++Z1++Z2).drop (p+q)).drop (p+q+r)=A++(X++B)++Z2:=by
 have c:(A++Z1++Z2).take p=A:=by rw[aE,cK b]
 have d:(A++Z1++Z2).drop (p+q)=Z1.drop q++Z2:=by
  rw[aE,←cL,cA b,eo (by omega)]
 have a:(A++X).length=p+q:=by rw[ae];omega
 rw[c,d,cK a,←cL,cA a,eo (by rw[aX];omega),cL,jU (by omega),cS];simp only[aE]
theorem NX{α:Type}{A X B R:List α}{p q r:Nat}(c:A.length=p)(f:B.length=r)(e:q≤R.length):
  (((A++B++R).take (p+q)++B++(A++B++R).drop (p+q+r)).take p)++X++((A++B++R).take (p+q)++B++(A++B++R).drop (p+q+r)).drop (p+q)=A++(X++B)++R.drop q:=by
 have b:((A++B++R).take (p+q)).length=p+q:=by rw[aQ,ae,ae];omega
 have d:(A++B++R).drop (p+q+r)=R.drop q:=by
  rw[show p+q+r=(p+r)+q by omega,←cL,cA (by rw[ae];omega)]
 have a:((A++B++R).take (p+q)++(B++(A++B++R).drop (p+q+r))).take p=A:=by
  rw[ee (by omega),List.take_take,Nat.min_eq_left (by omega),aE,cK c]
 rw[aE ((A++B++R).take (p+q)),a,cA b,d];simp only[aE]
theorem Oi{h:ad}{b:Nat}{c:List Value}{t m:TypeId}{sz a sl d f:Nat}{xs:List Value}{z:Option (List Value)}{K:SliceV→ad→Prop}(hb:h[b]? =some (.cells c.toArray t (0,0)))
  (n:sl*sz+xs.length≤c.length) (g:sl+f≤d) (i:cx xs=true) (k:∀h',h'[b]? =some (.cells (c.take (sl*sz)++xs++c.drop (sl*sz+xs.length)).toArray t (0,0))→Upd (· =b) h h'→K ⟨some ⟨b,0,none⟩,sl+f,d⟩ h'):
  AppP z sz a m (some ⟨b,0,none⟩) sl d f xs h K:=by
 refine⟨fun _=>⟨.inr ⟨_,rfl,fun j o=>?_⟩,i,?_⟩,fun h=>by omega⟩
 ·rw[ce];exact eC hb (by rw[cP];omega)
 ·have e:eG h (some ⟨b,0,none⟩) (sl*sz) xs=_:=gC xs h (sl*sz) 0 c hb (by omega)
  rw[e];refine k _ ?_ (Upd.set h _ rfl);rw[dE hb,aO]
theorem Eh{h:ad}{b:Nat}{c:List Value}{t:TypeId}{o:Nat}{vs:List Value}{k:ad→Prop}(hb:h[b]? =some (.cells c.toArray t (0,0)))
  (d:o+vs.length≤c.length) (a:∀h',h'[b]? =some (.cells (c.take o++vs++c.drop (o+vs.length)).toArray t (0,0))→Upd (· =b) h h'→k h'):
  pk h (some ⟨b,o,none⟩) 0 vs∧At (eG h (some ⟨b,o,none⟩) 0 vs) k:=by
 refine⟨.inr ⟨_,rfl,fun j f=>?_⟩,bL ?_⟩
 ·rw[ce];exact eC hb (by rw[cP];omega)
 ·have e:eG h (some ⟨b,o,none⟩) 0 vs=_:=gC vs h 0 o c hb (by omega)
  rw[e];refine a _ ?_ (Upd.set h _ rfl);rw[dE hb,gZ]
end Go.Lift
namespace Go.Lift
open Go
structure KeyE(κ:Type) where
 enc:κ→Value
 ck:CK
 den:∀x,∃d:ck.den,enc x=ck.enc d
 same:∀x y,fa (enc x) (enc y)=true↔x=y
def YI(k:IntKind):KeyE Int:=⟨fun x=>.int k x,.int k,fun x=>⟨x,rfl⟩,fun x y=>by simp[fa]⟩
section
variable {κ β:Type}
structure Ent(κ β:Type) where
 k:κ
 v:β
 n:Nat
variable (E:KeyE κ) (g:β→Value)
def BZ(x:Ent κ β):MapEntry:={key:=E.enc x.k,val:=g x.v,born:=x.n}
structure MapE(h:ad)(r:Nat)(ms:List (Ent κ β))(clock:Nat):Prop where
 here:h[r]? =some (.map (ms.map (BZ E g)).toArray clock)
 keys:(ms.map (·.k)).Nodup
 nums:(ms.map (·.n)).Nodup
 old:∀x∈ms,x.n<clock
def plain(ms:List (Ent κ β)):List (κ×β):=ms.map fun x=>(x.k,x.v)
def MapAt(h:ad)(r:Nat)(m:List (κ×β)):Prop:=∃ms clock,MapE E g h r ms clock∧plain ms=m
variable {E g}
theorem MapE.keysOf{h:ad}{r:Nat}{ms:List (Ent κ β)}{a:Nat}(_:MapE E g h r ms a):keysOf E.ck (ms.map (BZ E g)).toArray.toList:=by
 intro e b;simp only[aP]at b;obtain⟨x,_,rfl⟩:=b;exact E.den x.k
theorem MapAt.isMap{h:ad}{r:Nat}{m:List (κ×β)}(hm:MapAt E g h r m):uS E.ck h r:=by
 obtain⟨ms,a,hm,_⟩:=hm;exact⟨_,_,hm.here,hm.keysOf⟩
theorem MapAt.len{h:ad}{r:Nat}{m:List (κ×β)}(hm:MapAt E g h r m):Gk h (some r) m.length:=by
 obtain⟨ms,a,hm,rfl⟩:=hm;exact⟨_,_,hm.here,by simp[plain]⟩
theorem MapAt.nodup{h:ad}{r:Nat}{m:List (κ×β)}(hm:MapAt E g h r m):(m.map (·.1)).Nodup:=by
 obtain⟨ms,a,hm,rfl⟩:=hm;have:=hm.keys;unfold plain;rw[hE];exact this
theorem MapAt.lt{h:ad}{r:Nat}{m:List (κ×β)}(hm:MapAt E g h r m):r<h.size:=by
 obtain⟨ms,a,hm,_⟩:=hm;exact bw hm.here
theorem MapAt.upd{h h':ad}{r:Nat}{m:List (κ×β)}{M:Nat→Prop}(hm:MapAt E g h r m)(k:Upd M h h')(b:¬M r):MapAt E g h' r m:=by
 obtain⟨ms,a,hm,e⟩:=hm;exact⟨ms,a,⟨k.get hm.here b,hm.keys,hm.nums,hm.old⟩,e⟩
theorem MapAt.new(h:ad):MapAt E g (h.push (.map #[] 0)) h.size []:=
 ⟨[],0,⟨oh h _,oL,oL,fun _ h=>by cases h⟩,rfl⟩
variable [DecidableEq κ]
def bC:List (κ×β)→κ→Option β
 | [],_=>none
 |(k',v)::l,k=>if k=k' then some v else bC l k
def j5:List (κ×β)→κ→β→List (κ×β)
 | [],k,v=> [(k,v)]
 |(k',u)::l,k,v=>if k=k' then(k,v)::l else(k',u)::j5 l k v
def jP(l:List (κ×β))(k:κ):List (κ×β):=l.filter fun p=>p.1≠k
theorem uQ(l:List (κ×β))(k:κ)(v:β)(j:κ):bC (j5 l k v) j=if j=k then some v else bC l j:=by
 induction l with
 |nil=>simp[j5,bC]
 |cons p l ih=>
  obtain⟨k',u⟩:=p;simp only[j5];split
  ·rename_i e;subst e;simp only[bC];split<;>rfl
  ·rename_i e
   simp only[bC,ih];by_cases a:j=k'
   ·subst a;simp[Ne.symm e]
   ·simp[a]
theorem nM(l:List (κ×β))(k:κ)(j:κ):bC (jP l k) j=if j=k then none else bC l j:=by
 induction l with
 |nil=>simp[jP,bC]
 |cons p l ih=>
  obtain⟨k',u⟩:=p;unfold jP at*;rw[aR];by_cases a:k'=k
  ·subst a
   simp only[ne_eq,not_true_eq_false,decide_false,cJ,if_false,ih,bC];split<;>rfl
  ·simp only[ne_eq,a,not_false_eq_true,decide_true,if_true,bC,ih]
   by_cases b:j=k'
   ·subst b;simp[a]
   ·simp[b]
theorem eB{l:List (κ×β)}{k:κ}{v:β}(a:(l.map (·.1)).Nodup):bC l k=some v↔(k,v)∈l:=by
 induction l with
 |nil=>simp[bC]
 |cons p l ih=>
  obtain⟨k',u⟩:=p;simp only[bX,dJ]at a;simp only[bC,aq,Prod.mk.injEq];by_cases b:k=k'
  ·subst b
   simp only[if_true,bK.injEq,true_and];constructor
   ·exact fun e=>.inl e.symm
   ·rintro(e|e)
    ·exact e.symm
    ·exact absurd (aP.2 ⟨_,e,rfl⟩) a.1
  ·simp[b,ih a.2]
theorem dN{l:List (κ×β)}{k:κ}:bC l k=none↔k∉l.map (·.1):=by
 induction l with
 |nil=>simp[bC]
 |cons p l ih=>
  obtain⟨k',u⟩:=p;simp only[bC,bX,aq,not_or];by_cases a:k=k'
  ·simp[a]
  ·simp[a,ih]
theorem uP(l:List (κ×β))(k:κ)(v:β):(j5 l k v).map (·.1)=if k∈l.map (·.1)then l.map (·.1)else l.map (·.1)++ [k]:=by
 induction l with
 |nil=>simp[j5]
 |cons p l ih=>
  obtain⟨k',u⟩:=p;simp only[j5];by_cases a:k=k'
  ·simp[a]
  ·simp only[a,if_false,bX,ih,aq,false_or]
   split<;>simp
theorem zB{l:List (κ×β)}{k:κ}{v:β}(h:(l.map (·.1)).Nodup):((j5 l k v).map (·.1)).Nodup:=by
 rw[uP];split
 ·exact h
 ·rename_i hn
  rw[List.nodup_append];refine⟨h,by simp,?_⟩
  intro a c b hb;simp only[al]at hb;subst hb;intro e;subst e;exact hn c
theorem On{l:List (κ×β)}{k:κ}(h:(l.map (·.1)).Nodup):((jP l k).map (·.1)).Nodup:=h.sublist ((cX).map _)
theorem Jo(x y:κ):fa (E.enc x) (E.enc y)=decide (x=y):=by
 by_cases h:x=y
 ·rw[decide_eq_true h];exact(E.same x y).2 h
 ·rw[decide_eq_false h];exact ey.2 fun e=>h ((E.same x y).1 e)
theorem Ta(k:κ)(ms:List (Ent κ β)):FH (E.enc k) (ms.map (BZ E g))=(bC (plain ms) k).map g:=by
 induction ms with
 |nil=>rfl
 |cons x ms ih=>
  simp only[bX,FH,BZ,plain,bC];rw[Jo];by_cases h:k=x.k
  ·simp[h]
  ·simp only[h,decide_false,cJ,if_false];exact ih
theorem MapAt.get{h:ad}{r:Nat}{m:List (κ×β)}(hm:MapAt E g h r m)(k:κ)(z:β):jv E.ck (g z) h (some r) (E.enc k) (g ((bC m k).getD z)) (bC m k).isSome:=by
 obtain⟨ms,a,hm,rfl⟩:=hm;refine⟨_,_,hm.here,hm.keysOf,?_⟩;rw[Ta];cases bC (plain ms) k<;>exact⟨rfl,rfl⟩
def xn(k:κ)(v:β)(a:Nat):List (Ent κ β)→List (Ent κ β)×Nat
 | []=>([⟨k,v,a⟩],a+1)
 |x::l=>if k=x.k then(⟨k,v,x.n⟩::l,a)else(x::(xn k v a l).1,(xn k v a l).2)
theorem UH(k:κ)(v:β)(a:Nat)(ms:List (Ent κ β)):Jx (E.enc k) (g v) a (ms.map (BZ E g))=((xn k v a ms).1.map (BZ E g),(xn k v a ms).2):=by
 induction ms with
 |nil=>rfl
 |cons x ms ih=>
  simp only[bX,Jx,xn];rw[ih,show(BZ E g x).key=E.enc x.k from rfl,Jo]
  by_cases h:k=x.k
  ·simp[h,BZ]
  ·simp[h]
theorem FO(k:κ)(v:β)(a:Nat)(ms:List (Ent κ β)):plain (xn k v a ms).1=j5 (plain ms) k v:=by
 induction ms with
 |nil=>rfl
 |cons x ms ih=>
  simp only[xn,plain,bX,j5];by_cases h:k=x.k
  ·simp[h]
  ·simp only[h,if_false,bX,List.cons.injEq,true_and];exact ih
theorem Ww(k:κ)(v:β)(a:Nat)(ms:List (Ent κ β)):(xn k v a ms).1.map (·.n)=(if k∈ms.map (·.k)then ms.map (·.n)else ms.map (·.n)++ [a])∧(xn k v a ms).2=(if k∈ms.map (·.k)then a else a+1):=by
 induction ms with
 |nil=>exact⟨rfl,rfl⟩
 |cons x ms ih=>
  simp only[xn];by_cases h:k=x.k
  ·simp[h]
  ·simp only[h,if_false,bX,ih.1,ih.2,aq,false_or,and_true]
   split<;>simp
theorem UR{h:ad}{r:Nat}{ms:List (Ent κ β)}{a:Nat}(hm:MapE E g h r ms a)(k:κ)(v:β):lY h r (E.enc k) (g v)=h.setIfInBounds r (.map ((xn k v a ms).1.map (BZ E g)).toArray (xn k v a ms).2):=by
 unfold lY;rw[hm.here];simp only;rw[UH]
theorem MapE.put{h:ad}{r:Nat}{ms:List (Ent κ β)}{c:Nat}(hm:MapE E g h r ms c)(k:κ)(v:β):MapE E g (lY h r (E.enc k) (g v)) r (xn k v c ms).1 (xn k v c ms).2:=by
 rw[UR hm];have n:(xn k v c ms).1.map (·.k)=(plain (xn k v c ms).1).map (·.1):=by unfold plain;rw[hE];rfl
 have m:(plain ms).map (·.1)=ms.map (·.k):=by unfold plain;rw[hE];rfl
 have e:=Ww k v c ms;have d:∀y∈ms.map (·.n),y<c:=fun y i=>by
  obtain⟨x,hx,rfl⟩:=aP.1 i;exact hm.old x hx
 refine⟨dE hm.here,?_,?_,?_⟩
 ·rw[n,FO];exact zB (by rw[m];exact hm.keys)
 ·rw[e.1]
  split
  ·exact hm.nums
  ·rw[List.nodup_append]
   refine⟨hm.nums,by simp,?_⟩
   intro a j b hb;simp only[al]at hb;have:=d a j;omega
 ·intro x hx
  have hx:x.n∈(xn k v c ms).1.map (·.n):=aP.2 ⟨x,hx,rfl⟩
  rw[e.1]at hx;rw[e.2];split
  ·rename_i hk;rw[if_pos hk]at hx;exact d _ hx
  ·rename_i hk
   rw[if_neg hk]at hx;rcases List.mem_append.1 hx with f|f
   ·have:=d _ f;omega
   ·simp only[al]at f;omega
theorem MapAt.put{h:ad}{r:Nat}{m:List (κ×β)}(hm:MapAt E g h r m)(k:κ)(v:β):MapAt E g (lY h r (E.enc k) (g v)) r (j5 m k v):=by
 obtain⟨ms,a,hm,rfl⟩:=hm;exact⟨_,_,hm.put k v,FO ..⟩
theorem mI{M:Nat→Prop}(h:ad){r:Nat}(k v:Value)(a:M r):Upd M h (lY h r k v):=by
 unfold lY;split
 ·exact Upd.set h _ a
 ·exact Upd.refl _ _
theorem uD{M:Nat→Prop}(h:ad){r:Nat}(k:Value)(a:M r):Upd M h (pW h r k):=by
 unfold pW;split
 ·exact Upd.set h _ a
 ·exact Upd.refl _ _
theorem Ti(k:κ){ms:List (Ent κ β)}(a:(ms.map (·.k)).Nodup):FQ (E.enc k) (ms.map (BZ E g))=(ms.filter fun x=>x.k≠k).map (BZ E g):=by
 induction ms with
 |nil=>rfl
 |cons x ms ih=>
  simp only[bX,dJ]at a;simp only[bX,FQ,aR];rw[show(BZ E g x).key=E.enc x.k from rfl,Jo]
  by_cases h:k=x.k
  ·subst h
   simp only[decide_true,if_true,ne_eq,not_true_eq_false,decide_false,cJ,if_false];congr 1
   rw[di.2];intro y b;simp only[decide_not,Bool.not_eq_eq_eq_not,Bool.not_true,decide_eq_false_iff_not];intro e;exact a.1 (e▸aP.2 ⟨y,b,rfl⟩)
  ·simp only[h,decide_false,cJ,if_false,ne_eq,Ne.symm h,not_false_eq_true,decide_true,if_true,bX]
   rw[ih a.2]
theorem MapE.drop{h:ad}{r:Nat}{ms:List (Ent κ β)}{a:Nat}(hm:MapE E g h r ms a)(k:κ):MapE E g (pW h r (E.enc k)) r (ms.filter fun x=>x.k≠k) a:=by
 have e:pW h r (E.enc k)=h.setIfInBounds r (.map ((ms.filter fun x=>x.k≠k).map (BZ E g)).toArray a):=by
  unfold pW;rw[hm.here];simp only;rw[Ti k hm.keys]
 rw[e];refine⟨dE hm.here,hm.keys.sublist ((cX).map _),hm.nums.sublist ((cX).map _),fun x hx=>hm.old x ((bE.1 hx).1)⟩
theorem qV(k:κ)(ms:List (Ent κ β)):plain (ms.filter fun x=>x.k≠k)=jP (plain ms) k:=by
 unfold plain jP;rw[List.filter_map];rfl
theorem MapAt.del{h:ad}{r:Nat}{m:List (κ×β)}(hm:MapAt E g h r m)(k:κ):MapAt E g (pW h r (E.enc k)) r (jP m k):=by
 obtain⟨ms,a,hm,rfl⟩:=hm;exact⟨_,_,hm.drop k,qV ..⟩
end
section
variable {κ β:Type} (E:KeyE κ) (g:β→Value)
def IterSt(h:ad)(i r:Nat)(m a:List (κ×β)):Prop:=
 ∃ms clock since seen last,MapE E g h r ms clock∧plain ms=m∧h[i]? =some (.mapIter (some r) since seen last)∧a=plain (ms.filter fun x=> !seen.contains x.n)∧∀x∈ms,x.n<since∧x.n<last
variable {E g}
theorem IterSt.at{h:ad}{i r:Nat}{m b:List (κ×β)}(hi:IterSt E g h i r m b):MapAt E g h r m:=by
 obtain⟨ms,a,c,d,last,hm,e,_⟩:=hi;exact⟨ms,a,hm,e⟩
theorem IterSt.upd{h h':ad}{i r:Nat}{m a:List (κ×β)}{M:Nat→Prop}(hi:IterSt E g h i r m a)(k:Upd M h h')(e:¬M i)(n:¬M r):IterSt E g h' i r m a:=by
 obtain⟨ms,c,b,d,last,hm,f,hb,ht,j⟩:=hi;exact⟨ms,c,b,d,last,⟨k.get hm.here n,hm.keys,hm.nums,hm.old⟩,f,k.get hb e,ht,j⟩
theorem IterSt.ne{h:ad}{i r:Nat}{m a:List (κ×β)}(hi:IterSt E g h i r m a):i≠r:=by
 obtain⟨ms,c,b,d,last,hm,j,hb,ht,f⟩:=hi;intro e;subst e;rw[hm.here]at hb;cases hb
theorem IterSt.nodup{h:ad}{i r:Nat}{m a:List (κ×β)}(hi:IterSt E g h i r m a):(a.map (·.1)).Nodup:=by
 obtain⟨ms,c,b,d,last,hm,f,hb,ht,e⟩:=hi;rw[ht];unfold plain;rw[hE];exact hm.keys.sublist ((cX).map _)
theorem MapAt.range{h:ad}{r:Nat}{m:List (κ×β)}(hm:MapAt E g h r m):∃a,(∃es,h[r]? =some (.map es a))∧IterSt E g (h.push (.mapIter (some r) a #[] a)) h.size r m m:=by
 obtain⟨ms,a,hm,b⟩:=hm;refine⟨a,⟨_,hm.here⟩,ms,a,a,#[],a,⟨(Upd.push No h _).get0 hm.here,hm.keys,hm.nums,hm.old⟩,b,oh h _,?_,fun x hx=>⟨hm.old x hx,hm.old x hx⟩⟩
 rw[show(fun x:Ent κ β=> !(#[]:Array Nat).contains x.n)=fun _=>true from funext fun x=>by simp,di.2 fun _ _=>rfl,b]
theorem BX{α γ:Type}{f:α→γ}:∀{l:List α},(l.map f).Nodup→∀{x y:α},x∈l→y∈l→f x=f y→x=y
 | [],_,x,y,h,_,_=>by cases h
 |z::l,hn,x,y,hx,hy,e=>by
  simp only[bX,dJ]at hn;rcases aq.1 hx with b|b<;>rcases aq.1 hy with a|a
  ·rw[b,a]
  ·exact absurd (aP.2 ⟨y,a,by rw[←e,b]⟩) hn.1
  ·exact absurd (aP.2 ⟨x,b,by rw[e,a]⟩) hn.1
  ·exact BX hn.2 b a e
theorem S9{ms:List (Ent κ β)}(a:(ms.map (·.n)).Nodup){x:Ent κ β}(hx:x∈ms):(ms.map (BZ E g)).find? (fun e=>e.born==x.n)=some (BZ E g x):=by
 induction ms with
 |nil=>cases hx
 |cons y ms ih=>
  simp only[bX,dJ]at a;rw[bX,List.find?_cons];rcases aq.1 hx with rfl|hx
  ·simp[BZ]
  ·have:(BZ E g y).born≠x.n:=fun e=>a.1 (aP.2 ⟨x,hx,e.symm⟩)
   have hb:((BZ E g y).born==x.n)=false:=by simpa using this
   rw[hb];exact ih a.2 hx
variable [DecidableEq κ]
theorem NextP.at{M:Nat→Prop}{h:ad}{i r:Nat}{m d:List (κ×β)}{Kend:Prop}{Kstep:MapEntry→ad→Prop}(hi:IterSt E g h i r m d)(F:M i)
  (p:d= []→Kend)
  (j:∀k v,(k,v)∈d→∀(e:MapEntry) h',e.key=E.enc k→e.val=g v→vO h' i e→IterSt E g h' i r m (jP d k)→Upd M h h'→Kstep e h'):NextP ⟨i,0,none⟩ h Kend Kstep:=by
 have z:=hi.ne;obtain⟨ms,a,b,c,last,hm,D,hb,ht,w⟩:=hi;refine⟨rfl,_,b,c,last,hb,.inr ⟨r,_,a,rfl,hm.here,?_,fun f=>?_,fun e B A=>?_⟩⟩
 ·by_cases C:ms= []
  ·right;left;subst C;rfl
  ·right;right
   obtain⟨x,l,hx⟩:=List.exists_cons_of_ne_nil C;rw[ey];intro f;rw[Array.all_eq_true']at f;have hx:x∈ms:=by rw[hx];exact List.mem_cons_self ..
   have:=f (BZ E g x) (by simp only[List.mem_toArray,aP];exact⟨x,hx,rfl⟩);have G:=(w x hx).2;simp[BZ]at this;omega
 ·refine p ?_
  rw[ht];unfold plain;rw[List.map_eq_nil_iff,List.filter_eq_nil_iff];intro x hx;have:=f (BZ E g x) (by simp only[aP];exact⟨x,hx,rfl⟩) (w x hx).1;have e:(BZ E g x).born=x.n:=rfl;rw[e]at this;rw[this];exact Bool.false_ne_true
 ·simp only[aP]at B
  obtain⟨x,hx,rfl⟩:=B;have A:c.contains x.n=false:=A;have t:=dE (o:=.mapIter (some r) b (c.push x.n) a) hb;have q:(h.setIfInBounds i (.mapIter (some r) b (c.push x.n) a))[r]? =some (.map (ms.map (BZ E g)).toArray a):=by
   rw[dK];simp only[z,if_false];exact hm.here
  refine j x.k x.v ?_ _ _ rfl rfl ?_ ?_ (Upd.set h _ F)
  ·rw[ht]
   exact aP.2 ⟨x,bE.2 ⟨hx,by rw[A];rfl⟩,rfl⟩
  ·refine⟨r,b,_,a,x.n,_,t,by simp,q,?_⟩
   rw[←Array.find?_toList];exact S9 hm.nums hx
  ·refine⟨ms,a,b,_,a,⟨q,hm.keys,hm.nums,hm.old⟩,D,t,?_,fun y s=>⟨(w y s).1,hm.old y s⟩⟩
   rw[ht,←qV,iB];congr 1
   apply ef;intro y s;have n:y.n=x.n↔y.k=x.k:=⟨fun e=>congrArg _ (BX hm.nums s hx e),fun e=>congrArg _ (BX hm.keys s hx e)⟩
   simp only[Array.contains_push,ne_eq,decide_not,Bool.not_or];by_cases u:y.k=x.k
   ·have:=n.2 u;simp[u,this]
   ·have:¬y.n=x.n:=fun e=>u (n.1 e)
    simp[u,this]
theorem IterSt.del{h:ad}{i r:Nat}{m a:List (κ×β)}(hi:IterSt E g h i r m a)(k:κ):IterSt E g (pW h r (E.enc k)) i r (jP m k) (jP a k):=by
 have e:=hi.ne;obtain⟨ms,c,b,d,last,hm,j,hb,ht,f⟩:=hi;refine⟨_,c,b,d,last,hm.drop k,by rw[qV,j],(uD (M:=(· =r)) h (E.enc k) rfl).get hb e,?_,fun x hx=>f x (bE.1 hx).1⟩
 rw[ht,←qV,iB,iB];congr 1
 apply ef;intro y _;exact Bool.and_comm ..
end
end Go.Lift
namespace Go.Lift
open Go
structure Takes{α:Type}(P:Program)(y:Value)(enc:α→List Value)(N:Nat)(J:List α→(Nat→Prop)→ad→Prop):Prop where
 lt:∀pre A h,J pre A h→∀b,A b→b<h.size
 keep:∀pre A h h' B,J pre A h→Upd B h h'→(∀b,A b→¬B b)→J pre A h'
 step:∀pre A h x (K:Bool→ad→Prop),J pre A h→pre.length<N→(∀h' A',J (pre++ [x]) A' h'→Upd A h h'→(∀b,A' b→A b∨h.size≤b)→K true h')→HV P y (enc x) [.c .bool] K h
structure Gives{α:Type}(P:Program)(fv:Value)(enc:α→List Value)(N:Nat)(S:List α→Prop)(Q:Nat→Prop)(h:ad):Prop where
 lt:∀b,Q b→b<h.size
 run:∃f first cap,fv=.func (.func f) first cap∧∀(y:Value) (J:List α→(Nat→Prop)→ad→Prop) (A M:Nat→Prop) (h1:ad) (K:Unit→ad→Prop),Takes P y enc N J→J [] A h1→Upd M h h1→(∀b,Q b→¬M b)→(∀b,A b→¬Q b)→
  (∀xs A' h',S xs→J xs A' h'→Upd A h1 h'→(∀b,A' b→A b∨h1.size≤b)→K () h')→HE P f (first.toList++ [y]++cap.toList) [] K h1
theorem Gives.upd{α:Type}{P:Program}{a:Value}{enc:α→List Value}{N:Nat}{S:List α→Prop}{Q M:Nat→Prop}{h h':ad}(g:Gives P a enc N S Q h)(k:Upd M h h')(hm:∀b,Q b→¬M b):Gives P a enc N S Q h':=by
 obtain⟨f,first,cap,e,c⟩:=g.run
 refine⟨fun b hb=>az (g.lt b hb) k.size,f,first,cap,e,fun y J A M' j K ht m o n i d=>?_⟩
 exact c y J A (fun b=>M b∨M' b) j K ht m ((k.mono fun b hb=>.inl (.inl hb)).tr (o.mono fun b hb=>.inl (.inr hb))) (fun b hb h=>h.elim (hm b hb) (n b hb)) i d
end Go.Lift
