/- A part of the proof that the named laws of this program answer true, whatever the input. -/
import Derived.Test.YtceikogjngfacaaGreatLift2
open Array renaming getElem?_setIfInBounds→cR,getElem?_eq_some_iff→ct
open Bool renaming eq_false_iff→mQ,false_eq_true→ce
open List renaming flatMap_cons→cy,length_append→ae,length_cons→ax,getElem?_append_left→bf,getElem?_append_right→aD,getElem?_eq_some_iff→aY,length_take→aO,length_drop→aP,take_append_drop→aL,flatMap_append→cX,length_eq_zero_iff→aw,getElem?_toArray→mH,length_nil→aM,getElem?_drop→pX,size_toArray→dE,take_append_of_le_length→iw,drop_eq_nil_of_le→fy,nil_append→cG,append_assoc→aF,take_left'→dM,drop_drop→cS,drop_left'→du,drop_append_of_le_length→ix,mem_map→bQ,map_map→ik,nodup_nil→fk,map_cons→cx,nodup_cons→fT,mem_cons→au,mem_singleton→aA,filter_eq_self→oF,filter_sublist→kW,mem_filter→dP
open Nat renaming lt_or_ge→eD,le_refl→aq,lt_of_lt_of_le→aG,not_lt→rR,succ_mul→ui,zero_add→bi,add_zero→ii
open Option renaming some→bX
namespace Go.Lift
open Go
attribute [simp] aX aH
theorem av{p:Prop}[Decidable p]{t e:Prop}(b:p→t)(h2:¬p→e):CondP (decide p) t e:=CondP.intro (fun h=>b (of_decide_eq_true h)) (fun h=>h2 (of_decide_eq_false h))
theorem HC.mono{P:Program}{f:FuncId}{args:List Value}{ks:List Kind}{K d:wS ks→af→Prop}{h:af}(hc:HC P f args ks K h)(c:∀t h',K t h'→d t h'):HC P f args ks d h:=by
 refine⟨fun w j=>?_⟩
 rcases hc.run w j with⟨b,h2⟩|⟨v,w',b,h2,t,i,n⟩
 ·exact .inl ⟨b,h2.mono fun e w' ⟨k,t,g,m⟩=>⟨k,t,g,c t _ m⟩⟩
 ·exact .inr ⟨v,w',b,h2,t,i,c t _ n⟩
theorem Join.intro{T:Type}{b:T→af→Prop}{k:(T→af→Prop)→Prop}(J:T→af→Prop)(c:∀R:T→af→Prop,(∀t h,J t h→R t h)→k R)(h2:∀t h,J t h→b t h):Join b k:=⟨c b h2⟩
theorem Join.plain{T:Type}{b:T→af→Prop}{k:(T→af→Prop)→Prop}(h:k b):Join b k:=⟨h⟩
theorem LoopP.intro{T:Type}{F:(T→af→Prop)→T→af→Prop}{t:T}{h:af}(Inv:T→af→Prop)(m:T→af→Nat)(g:Inv t h)
  (step:∀I:T→af→Prop,∀t h,Inv t h→(∀c b,Inv c b→m c b<m t h→I c b)→F I t h):LoopP F t h:=by
 refine⟨fun I f=>?_⟩
 have key:∀n t h,m t h=n→Inv t h→I t h:=by
  intro n;induction n using Nat.strongRecOn with
  |_ n ih=>exact fun t h i hi=>f t h (step I t h hi fun c b e d=>ih _ (i▸d) c b rfl e)
 exact key _ t h rfl g
theorem LoopP.ghost{T G:Type}{F:(T→af→Prop)→T→af→Prop}{t:T}{h:af}(Inv:G→T→af→Prop)(m:G→Nat)(g:G)(j:Inv g t h)
  (step:∀I:T→af→Prop,∀g t h,Inv g t h→(∀c d b,Inv c d b→m c<m g→I d b)→F I t h):LoopP F t h:=by
 refine⟨fun I i=>?_⟩
 have key:∀n g t h,m g=n→Inv g t h→I t h:=by
  intro n;induction n using Nat.strongRecOn with
  |_ n ih=>exact fun g t h k hi=>i t h (step I g t h hi fun c d b f e=>ih _ (k▸e) c d b rfl f)
 exact key _ g t h rfl j
theorem HV.mk'{P:Program}{f:FuncId}{first cap:Array Value}{args:List Value}{ks:List Kind}{K:wS ks→af→Prop}{h:af}(hc:HC P f (first.toList++args++cap.toList) ks K h):HV P (.func (.func f) first cap) args ks K h:=
 ⟨.inl ⟨f,first,cap,rfl,hc⟩⟩
@[simp] theorem dt(b o n:Nat):adr ⟨b,o,none⟩ n=⟨b,o+n,none⟩:=by
 cases n<;>rfl
@[simp] theorem DD(a:Addr)(n:Nat):(adr a n).block=a.block:=by
 cases n<;>rfl
theorem eS(h:af):aI h=⟨h.size,0,none⟩:=rfl
theorem Ld{h:af}{a:Addr}{v:Value}(hv:bj h a=some v):a.block<h.size:=by
 unfold bj at hv;rcases eD a.block h.size with b|b
 ·exact b
 ·rw[Array.getElem?_eq_none b]at hv;cases hv
theorem bP{h:af}{b i:Nat}{c:Array Value}{e:TypeId}{fr:Nat×Nat}(d:h[b]? =some (.cells c e fr)):bj h ⟨b,i,none⟩=c[i]?:=by
 unfold bj;rw[d];rfl
theorem MX{h b:af}{a:Addr}(c:b[a.block]? =h[a.block]?):bj b a=bj h a:=by
 unfold bj;rw[c]
theorem oL{h:af}{b i:Nat}{c:Array Value}{e:TypeId}{fr:Nat×Nat}{v:Value}(f:h[b]? =some (.cells c e fr)):
  hset h ⟨b,i,none⟩ v=h.setIfInBounds b (.cells (c.setIfInBounds i v) e fr):=by
 unfold hset;apply Array.ext_getElem?;intro j;rw[Array.getElem?_modify,cR];by_cases g:b=j
 ·subst g
  have d:=(ct.1 f).1;simp only[f,if_true,d,Option.map_some];rfl
 ·simp[g]
theorem gI{h:af}{b i:Nat}{c:Array Value}{e:TypeId}(d:h[b]? =some (.cells c e (0,0))) (hi:i<c.size):Wr h ⟨b,i,none⟩:=by
 refine⟨⟨c[i],by rw[bP d,Array.getElem?_eq_getElem hi]⟩,?_⟩
 unfold EX;rw[d];simp
structure Upd(M:Nat→Prop)(h h':af):Prop where
 size:h.size≤h'.size
 same:∀b,b<h.size→¬M b→h'[b]? =h[b]?
abbrev No:Nat→Prop:=fun _=>False
theorem Upd.refl(M:Nat→Prop)(h:af):Upd M h h:=⟨aq _,fun _ _ _=>rfl⟩
theorem Upd.trans{M M':Nat→Prop}{h e h2:af}(k:Upd M h e)(l:Upd M' e h2)(g:∀b,M' b→M b∨h.size≤b):Upd M h h2:=
 ⟨Nat.le_trans k.size l.size,fun b d f=>by
  rw[l.same b (aG d k.size) (fun hm=>(g b hm).elim f fun c=>absurd d (rR.2 c)),k.same b d f]⟩
theorem Upd.tr{M:Nat→Prop}{h b h2:af}(k:Upd M h b)(l:Upd M b h2):Upd M h h2:=k.trans l fun _ h=>.inl h
theorem Upd.mono{M M':Nat→Prop}{h e:af}(k:Upd M h e)(f:∀b,M b→M' b∨h.size≤b):Upd M' h e:=
 ⟨k.size,fun b d g=>k.same b d fun hm=>(f b hm).elim g fun c=>absurd d (rR.2 c)⟩
theorem Upd.wide{M:Nat→Prop}{h b:af}(k:Upd No h b):Upd M h b:=k.mono fun _ h=>h.elim
theorem Upd.get{M:Nat→Prop}{h d:af}(k:Upd M h d){b:Nat}{o:Obj}(c:h[b]? =some o) (e:¬M b):d[b]? =some o:=by
 rw[k.same b (ct.1 c).1 e,c]
theorem Upd.get0{h c:af}(k:Upd No h c){b:Nat}{o:Obj}(d:h[b]? =some o):c[b]? =some o:=k.get d id
theorem Upd.cell{M:Nat→Prop}{h b:af}(k:Upd M h b){a:Addr}{v:Value}(hv:bj h a=some v)(c:¬M a.block):bj b a=some v:=by
 rw[MX (k.same _ (Ld hv) c),hv]
theorem Upd.push(M:Nat→Prop)(h:af)(o:Obj):Upd M h (h.push o):=⟨by simp,fun b c _=>by rw[Array.getElem?_push];simp[Nat.ne_of_lt c]⟩
theorem Upd.set{M:Nat→Prop}(h:af){b:Nat}(o:Obj)(f:M b):Upd M h (h.setIfInBounds b o):=⟨by simp,fun c _ d=>by
 rw[cR]
 have:b≠c:=fun e=>d (e▸f)
 simp[this]⟩
theorem Upd.hset{M:Nat→Prop}(h:af){a:Addr}(v:Value)(d:M a.block):Upd M h (hset h a v):=⟨by simp[Go.Lift.hset],fun c _ b=>by
 unfold Go.Lift.hset
 rw[Array.getElem?_modify]
 have:a.block≠c:=fun e=>b (e▸d)
 simp[this]⟩
theorem Upd.hnew(M:Nat→Prop)(h:af)(cs:List Value)(t:TypeId):Upd M h (hnew h cs t):=Upd.push M h _
theorem c6(h:af)(cs:List Value)(t:TypeId):(hnew h cs t)[h.size]? =some (.cells cs.toArray t (0,0)):=by
 unfold hnew;simp
theorem qo(h:af)(o:Obj):(h.push o)[h.size]? =some o:=by simp
theorem gS(h:af)(cs:List Value)(t:TypeId):(hnew h cs t).size=h.size+1:=by
 unfold hnew;simp
theorem fe{h:af}{b:Nat}{o d:Obj}(c:h[b]? =some d):(h.setIfInBounds b o)[b]? =some o:=by
 rw[cR];simp[(ct.1 c).1]
theorem bo{h:af}{b:Nat}{o:Obj}(c:h[b]? =some o):b<h.size:=(ct.1 c).1
theorem Row.upd{M:Nat→Prop}{h b:af}{a:Addr}{vs:List Value}(c:Row h a vs)(k:Upd M h b)(d:¬M a.block):Row b a vs:=fun i v hv=>k.cell (c i v hv) (by rw[DD];exact d)
theorem SRow.upd{M:Nat→Prop}{h e:af}{a:Option Addr}{n:Nat}{vs:List Value}(c:SRow h a n vs)(k:Upd M h e)(g:vs≠[]→∀b,a=some b→¬M b.block):SRow e a n vs:=by
 obtain⟨f,h2⟩:=c;refine⟨f,?_⟩;rcases h2 with rfl|⟨b,d,c⟩
 ·exact .inl rfl
 ·by_cases hv:vs= []
  ·exact .inl hv
  ·exact .inr ⟨b,d,c.upd k (g hv b d)⟩
theorem zP{h:af}{b o:Nat}{c:Array Value}{e:TypeId}{fr:Nat×Nat}(d:h[b]? =some (.cells c e fr)) {vs:List Value} (hv:∀i v,vs[i]? =some v→c[o+i]? =some v):Row h ⟨b,o,none⟩ vs:=fun i v hi=>by
 rw[dt,bP d];exact hv i v hi
structure Sl{α:Type}(f:α→List Value)(sz:Nat)(W:Nat→Prop)(h:af)(s:SliceV)(xs:List α):Prop where
 len:s.len=xs.length
 ne:∀x,(f x).length=sz∧0<sz
 row:xs≠[]→∃a,s.a=some a∧¬W a.block∧Row h a (xs.flatMap f)
theorem Sl.nil{α:Type}{f:α→List Value}{b:Nat}{W:Nat→Prop}{h:af}{a:Option Addr}{c:Nat}(d:∀x,(f x).length=b∧0<b):Sl f b W h ⟨a,0,c⟩ []:=⟨rfl,d,fun h=>absurd rfl h⟩
theorem Sl.lt{α:Type}{f:α→List Value}{g:Nat}{W:Nat→Prop}{h:af}{s:SliceV}{xs:List α}(c:Sl f g W h s xs)(hx:xs≠[]){a:Addr}(i:s.a=some a):a.block<h.size:=by
 obtain⟨a',b,j,e⟩:=c.row hx;rw[i]at b;cases b;cases xs with
 |nil=>exact absurd rfl hx
 |cons x xs=>
  have d:=c.ne x;cases hf:f x with
  |nil=>rw[hf]at d;simp at d;omega
  |cons v vs=>
   have:=e 0 v (by rw[cy,hf];rfl);have:=Ld this;rw[DD]at this;exact this
theorem Sl.upd{α:Type}{f:α→List Value}{e:Nat}{W M:Nat→Prop}{h i:af}{s:SliceV}{xs:List α}(c:Sl f e W h s xs)(k:Upd M h i)(hm:∀b,M b→W b∨h.size≤b):Sl f e W i s xs:=by
 refine⟨c.len,c.ne,fun hx=>?_⟩
 obtain⟨a,g,j,m⟩:=c.row hx;exact⟨a,g,j,m.upd k fun n=>(hm _ n).elim j fun d=>absurd (c.lt hx g) (rR.2 d)⟩
theorem Sl.less{α:Type}{f:α→List Value}{e:Nat}{W W':Nat→Prop}{h:af}{s:SliceV}{xs:List α}(c:Sl f e W h s xs)(hm:∀b,W' b→W b∨h.size≤b):Sl f e W' h s xs:=
 ⟨c.len,c.ne,fun hx=>let⟨a,g,j,i⟩:=c.row hx;⟨a,g,fun k=>(hm _ k).elim j fun d=>absurd (c.lt hx g) (rR.2 d),i⟩⟩
theorem na{α:Type}{f:α→List Value}{c:Nat}(b:∀x,(f x).length=c):∀xs:List α,(xs.flatMap f).length=xs.length*c
 | []=>by simp
 |x::xs=>by rw[cy,ae,b,na b xs,ax,ui];omega
theorem yP{α:Type}{f:α→List Value}{c:Nat}(b:∀x,(f x).length=c):∀(xs:List α) (i j:Nat) (x:α),xs[i]? =some x→j<c→(xs.flatMap f)[i*c+j]? =(f x)[j]?
 | [],i,j,x,h,_=>by simp at h
 |y::xs,0,j,x,h,hj=>by
  simp only[List.getElem?_cons_zero,bX.injEq]at h;subst h;rw[cy,Nat.zero_mul,bi,bf (by rw[b];exact hj)]
 |y::xs,i+1,j,x,h,hj=>by
  rw[List.getElem?_cons_succ]at h;rw[cy,aD (by rw[b,ui];omega),b,show(i+1)*c+j-c=i*c+j by rw[ui];omega]
  exact yP b xs i j x h hj
theorem Sl.at{α:Type}{f:α→List Value}{b:Nat}{W:Nat→Prop}{h:af}{s:SliceV}{xs:List α}(c:Sl f b W h s xs){i:Nat}{x:α}(hi:xs[i]? =some x):
  ∃a,s.a=some a∧¬W a.block∧∀j v,(f x)[j]? =some v→bj h (adr (adr a (i*b)) j)=some v:=by
 obtain⟨a,g,m,d⟩:=c.row (fun e=>by subst e;simp at hi)
 refine⟨a,g,m,fun j v hv=>?_⟩
 have k:j<b:=by rw[←(c.ne x).1];exact(aY.1 hv).1
 rw[Cv];exact d _ v (by rw[yP (fun x=>(c.ne x).1) xs i j x hi k];exact hv)
theorem Sl.at0{α:Type}{g:α→Value}{W:Nat→Prop}{h:af}{s:SliceV}{xs:List α}(d:Sl (fun x=> [g x]) 1 W h s xs){i:Nat}{x:α}(hi:xs[i]? =some x):
  ∃a,s.a=some a∧¬W a.block∧bj h (adr a (i*1))=some (g x):=by
 obtain⟨a,e,c,b⟩:=d.at hi;exact⟨a,e,c,b 0 _ rfl⟩
theorem Sl.srow{α:Type}{f:α→List Value}{c:Nat}{W:Nat→Prop}{h:af}{s:SliceV}{xs:List α}(b:Sl f c W h s xs):SRow h s.a (s.len*c) (xs.flatMap f):=by
 refine⟨?_,?_⟩
 ·rw[b.len,na fun x=>(b.ne x).1]
 ·by_cases hx:xs= []
  ·subst hx;exact .inl rfl
  ·obtain⟨a,e,_,d⟩:=b.row hx
   exact .inr ⟨a,e,d⟩
theorem Sl.sub{α:Type}{f:α→List Value}{b:Nat}{W:Nat→Prop}{h:af}{s:SliceV}{xs:List α}(d:Sl f b W h s xs){l hi m c:Nat}(q:l≤hi)(h2:hi≤xs.length)(p:hi≤m):
  Sl f b W h ⟨bw s.a l m b,hi-l,c⟩ ((xs.drop l).take (hi-l)):=by
 refine⟨by simp only[aO,aP];omega,d.ne,fun hx=>?_⟩
 have j:l<hi:=by
  rcases eD l hi with h|h
  ·exact h
  ·rw[Nat.sub_eq_zero_of_le h]at hx;exact absurd List.take_zero hx
 obtain⟨a,k,n,g⟩:=d.row (fun e=>by rw[e]at h2;simp at h2;omega)
 refine⟨adr a (l*b),?_,by rw[DD];exact n,fun i v hv=>?_⟩
 ·unfold bw
  rw[if_neg (by omega),k];rfl
 ·rw[Cv]
  refine g _ v ?_;have e:xs=xs.take l++((xs.drop l).take (hi-l)++(xs.drop l).drop (hi-l)):=by rw[aL,aL]
  rw[e,cX,cX];have o:((xs.take l).flatMap f).length=l*b:=by rw[na fun x=>(d.ne x).1,aO];congr 1;omega
  rw[aD (by omega),o,Nat.add_sub_cancel_left,bf (aY.1 hv).1];exact hv
structure OwnS{α:Type}(f:α→List Value)(sz:Nat)(t:TypeId)(M:Nat→Prop)(h:af)(s:SliceV)(xs:List α):Prop where
 len:s.len=xs.length
 ne:∀x,(f x).length=sz∧0<sz
 cap:s.len≤s.cap
 blk:s.cap=0∨∃b rest,s.a=some ⟨b,0,none⟩∧M b∧h[b]? =some (.cells (xs.flatMap f++rest).toArray t (0,0))∧rest.length=(s.cap-s.len)*sz
theorem OwnS.nil{α:Type}{f:α→List Value}{b:Nat}{t:TypeId}{M:Nat→Prop}{h:af}{a:Option Addr}(c:∀x,(f x).length=b∧0<b):OwnS f b t M h ⟨a,0,0⟩ []:=⟨rfl,c,aq _,.inl rfl⟩
theorem OwnS.sl{α:Type}{f:α→List Value}{d:Nat}{t:TypeId}{M W:Nat→Prop}{h:af}{s:SliceV}{xs:List α}(c:OwnS f d t M h s xs)(hm:∀b,M b→b<h.size→¬W b):Sl f d W h s xs:=by
 refine⟨c.len,c.ne,fun hx=>?_⟩
 rcases c.blk with k|⟨b,e,j,g,hc,_⟩
 ·have:=c.len;have:=c.cap
  have:xs.length=0:=by omega
  exact absurd (aw.1 this) hx
 ·exact⟨_,j,hm b g (bo hc),zP hc fun i v hv=>by
   rw[bi,mH,bf (aY.1 hv).1];exact hv⟩
theorem OwnS.upd{α:Type}{f:α→List Value}{e:Nat}{t:TypeId}{M M':Nat→Prop}{h g:af}{s:SliceV}{xs:List α}(d:OwnS f e t M h s xs)(k:Upd M' h g)(hm:∀b,M b→¬M' b):OwnS f e t M g s xs:=by
 refine⟨d.len,d.ne,d.cap,d.blk.imp id fun⟨b,c,m,i,hc,j⟩=>⟨b,c,m,i,k.get hc (hm b i),j⟩⟩
theorem OwnS.more{α:Type}{f:α→List Value}{e:Nat}{t:TypeId}{M M':Nat→Prop}{h:af}{s:SliceV}{xs:List α}(d:OwnS f e t M h s xs)(hm:∀b,M b→M' b):OwnS f e t M' h s xs:=by
 refine⟨d.len,d.ne,d.cap,d.blk.imp id fun⟨b,c,j,i,hc,g⟩=>⟨b,c,j,hm b i,hc,g⟩⟩
theorem OwnS.within{α:Type}{f:α→List Value}{e:Nat}{t:TypeId}{M:Nat→Prop}{h:af}{s:SliceV}{xs:List α}(d:OwnS f e t M h s xs):OwnS f e t (fun b=>M b∧b<h.size) h s xs:=by
 refine⟨d.len,d.ne,d.cap,d.blk.imp id fun⟨b,c,j,i,hc,g⟩=>⟨b,c,j,⟨i,bo hc⟩,hc,g⟩⟩
theorem jq{b:Nat}{t:TypeId}:∀(vs:List Value) (h:af) (i o:Nat) (c:List Value),h[b]? =some (.cells c.toArray t (0,0))→o+i+vs.length≤c.length→
  jK h ⟨b,o,none⟩ i vs=h.setIfInBounds b (.cells (c.take (o+i)++vs++c.drop (o+i+vs.length)).toArray t (0,0))
 | [],h,i,o,c,hb,hl=>by
  simp only[jK,List.append_nil,aM,ii,aL];apply Array.ext_getElem?;intro j;rw[cR];split
  ·rename_i e;subst e;rw[hb];simp[bo hb]
  ·rfl
 |v::vs,h,i,o,c,hb,hl=>by
  rw[ax]at hl;simp only[jK];rw[dt,oL hb];have d:(h.setIfInBounds b (.cells (c.toArray.setIfInBounds (o+i) v) t (0,0)))[b]? =some (.cells (c.set (o+i) v).toArray t (0,0)):=by
   rw[fe hb];simp
  rw[jq vs _ (i+1) o (c.set (o+i) v) d (by simp;omega)];have e:∀(x y:Obj),(h.setIfInBounds b x).setIfInBounds b y=h.setIfInBounds b y:=fun x y=>by
   apply Array.ext_getElem?;intro j;simp only[cR,Array.size_setIfInBounds];split<;>rfl
  rw[e];congr 3
  apply List.ext_getElem?;intro j;simp only[List.getElem?_append,ae,aO,List.length_set,ax,List.getElem?_take,List.getElem?_set,pX];grind
theorem sn(n:Nat)(z:List Value):(eM n z).length=n*z.length:=by
 unfold eM;induction n with
 |zero=>simp
 |succ n ih=>rw[List.replicate_succ,List.flatten_cons,ae,ih,ui];omega
theorem AppP.own{α:Type}{f:α→List Value}{i bytes:Nat}{t:TypeId}{M:Nat→Prop}{h:af}{g:Option Addr}{sl k N:Nat}{xs ys:List α}{o z:List Value}{K:SliceV→af→Prop}
  (n:OwnS f i t M h ⟨g,sl,k⟩ xs)(m:N=ys.length)(G:o=ys.flatMap f)(A:cI o=true)(S:z.length=i)(U:0<bytes)(v:(xs.length+ys.length)*bytes≤140737488355328)(hM:M h.size)
  (I:∀s' h',OwnS f i t M h' s' (xs++ys)→Upd M h h'→K s' h'):AppP (some z) i bytes t g sl k N o h K:=by
 have c:sl=xs.length:=n.len;have p:∀x,(f x).length=i:=fun x=>(n.ne x).1
 subst m G;have w:=na p ys;have m:=na p xs;refine⟨fun q=>?_,fun y=>?_⟩
 ·rcases n.blk with J|⟨b,d,L,s,hc,B⟩
  ·have J:k=0:=J
   have C:ys.length=0:=by omega
   have F:xs.length=0:=by omega
   have T:=aw.1 C;have hx:=aw.1 F;subst T hx;refine⟨.inl rfl,rfl,?_⟩;have e:ip h g (sl*i) (([]:List α).flatMap f)=h:=by cases g<;>rfl
   rw[e];exact I _ _ ⟨by simp[c],n.ne,by simp only[aM];omega,.inl J⟩ (Upd.refl _ _)
  ·have L:g=some ⟨b,0,none⟩:=L
   have B:d.length=(k-sl)*i:=B;subst L;have O:sl+ys.length≤k:=q;have Q:ys.length*i≤d.length:=by rw[B];exact Nat.mul_le_mul_right _ (Nat.le_sub_of_add_le (show ys.length+sl≤k by omega))
   have u:0+sl*i+(ys.flatMap f).length≤(xs.flatMap f++d).length:=by
    rw[ae,m,w,c];omega
   refine⟨.inr ⟨_,rfl,fun j V=>?_⟩,A,?_⟩
   ·rw[dt]
    refine gI hc ?_;rw[dE];omega
   ·have e:ip h (some ⟨b,0,none⟩) (sl*i) (ys.flatMap f)=_:=jq (ys.flatMap f) h (sl*i) 0 _ hc u
    rw[e];have H:(xs.flatMap f++d).take (0+sl*i)=xs.flatMap f:=by
     rw[bi,c,←m,iw (aq _),List.take_length]
    have E:(xs.flatMap f++d).drop (0+sl*i+(ys.flatMap f).length)=d.drop (ys.length*i):=by
     rw[bi,c,←m,List.drop_append,fy (by omega),cG,w];congr 1;omega
    rw[H,E];refine I _ _ ⟨by simp[c],n.ne,q,.inr ⟨b,d.drop (ys.length*i),rfl,s,?_,?_⟩⟩ (Upd.set h _ s)
    ·rw[fe hc,cX]
    ·rw[aP,B]
     simp only;rw[show k-(sl+ys.length)=(k-sl)-ys.length by omega,Nat.sub_mul (k-sl)]
 ·have R:k*1≤k:=by omega
  refine⟨xs.flatMap f,z,?_,rfl,U,Go.growslice_fits y (by rw[c];exact v),fun P D=>?_⟩
  ·exact(n.sl (W:=No) fun _ _ _=>id).srow
  ·refine I _ _ ⟨by simp[c],n.ne,D,.inr ⟨h.size,eM (P-(sl+ys.length)) z,rfl,hM,?_,?_⟩⟩ (Upd.hnew M h _ _)
   ·rw[c6,cX]
   ·rw[sn,S]
end Go.Lift
namespace Go.Lift
open Go
theorem dx{h:af}{k:af→Prop}(b:k h):At h k:=b
theorem qk{b o l m c:Nat}(h:m≠l):bw (some ⟨b,o,none⟩) l m c=some ⟨b,o+l*c,none⟩:=by simp[bw,h,dt]
theorem sub_zero{b m c:Nat}:bw (some ⟨b,0,none⟩) 0 m c=some ⟨b,0,none⟩:=by
 unfold bw;split
 ·rfl
 ·simp[dt]
theorem sF{h:af}{b:Nat}{c:List Value}{t:TypeId}{o n:Nat}{vs:List Value}{d:Option Addr}{k:af→Prop}(g:SRow h d n vs)(m:cI vs=true)(f:h[b]? =some (.cells c.toArray t (0,0)))
  (s:o+n≤c.length) (i:∀h',h'[b]? =some (.cells (c.take o++vs++c.drop (o+n)).toArray t (0,0))→Upd (· =b) h h'→k h'):
  ∃xs,SRow h d n xs∧yr h (some ⟨b,o,none⟩) 0 xs∧cI xs=true∧At (ip h (some ⟨b,o,none⟩) 0 xs) k:=by
 have p:=g.1;refine⟨vs,g,.inr ⟨_,rfl,fun j q=>?_⟩,m,dx ?_⟩
 ·rw[dt];exact gI f (by rw[dE];omega)
 ·have e:ip h (some ⟨b,o,none⟩) 0 vs=_:=jq vs h 0 o c f (by omega)
  rw[e];refine i _ ?_ (Upd.set h _ rfl);rw[fe f,ii,p]
theorem sQ{h:af}{b:Nat}{c:List Value}{t:TypeId}{o n:Nat}{vs:List Value}(f:h[b]? =some (.cells c.toArray t (0,0))) (e:vs.length=n) (d:(c.drop o).take n=vs):SRow h (some ⟨b,o,none⟩) n vs:=by
 refine⟨e,.inr ⟨_,rfl,zP f fun i v hv=>?_⟩⟩
 rw[mH,←pX];have:((c.drop o).take n)[i]? =some v:=by rw[d];exact hv
 rw[List.getElem?_take]at this;split at this
 ·exact this
 ·cases this
section
variable {α:Type} {f:α→List Value} {sz:Nat}
theorem qG(b:∀x,(f x).length=sz∧0<sz)(xs:List α):(xs.flatMap f).length=xs.length*sz:=na (fun x=>(b x).1) xs
theorem F8(xs:List α)(k:Nat):xs.flatMap f=(xs.take k).flatMap f++(xs.drop k).flatMap f:=by rw[←cX,aL]
end
theorem N6{α:Type}{A X B Z1 Z2:List α}{p q r:Nat}(c:A.length=p)(g:X.length=q)(f:Z1.length=r+q):
  (((A++Z1++Z2).take p++X++(A++Z1++Z2).drop (p+q)).take (p+q))++B++((A++Z1++Z2).take p++X++(A++Z1++Z2).drop (p+q)).drop (p+q+r)=A++(X++B)++Z2:=by
 have d:(A++Z1++Z2).take p=A:=by rw[aF,dM c]
 have e:(A++Z1++Z2).drop (p+q)=Z1.drop q++Z2:=by
  rw[aF,←cS,du c,ix (by omega)]
 have b:(A++X).length=p+q:=by rw[ae];omega
 rw[d,e,dM b,←cS,du b,ix (by rw[aP];omega),cS,fy (by omega),cG];simp only[aF]
theorem QU{α:Type}{A X B R:List α}{p q r:Nat}(b:A.length=p)(f:B.length=r)(g:q≤R.length):
  (((A++B++R).take (p+q)++B++(A++B++R).drop (p+q+r)).take p)++X++((A++B++R).take (p+q)++B++(A++B++R).drop (p+q+r)).drop (p+q)=A++(X++B)++R.drop q:=by
 have e:((A++B++R).take (p+q)).length=p+q:=by rw[aO,ae,ae];omega
 have d:(A++B++R).drop (p+q+r)=R.drop q:=by
  rw[show p+q+r=(p+r)+q by omega,←cS,du (by rw[ae];omega)]
 have c:((A++B++R).take (p+q)++(B++(A++B++R).drop (p+q+r))).take p=A:=by
  rw[iw (by omega),List.take_take,Nat.min_eq_left (by omega),aF,dM b]
 rw[aF ((A++B++R).take (p+q)),c,du e,d];simp only[aF]
theorem R0{h:af}{b:Nat}{c:List Value}{t o:TypeId}{d bytes sl g i:Nat}{xs:List Value}{z:Option (List Value)}{K:SliceV→af→Prop}(f:h[b]? =some (.cells c.toArray t (0,0)))
  (q:sl*d+xs.length≤c.length) (m:sl+i≤g) (k:cI xs=true) (n:∀h',h'[b]? =some (.cells (c.take (sl*d)++xs++c.drop (sl*d+xs.length)).toArray t (0,0))→Upd (· =b) h h'→K ⟨some ⟨b,0,none⟩,sl+i,g⟩ h'):
  AppP z d bytes o (some ⟨b,0,none⟩) sl g i xs h K:=by
 refine⟨fun _=>⟨.inr ⟨_,rfl,fun j p=>?_⟩,k,?_⟩,fun h=>by omega⟩
 ·rw[dt];exact gI f (by rw[dE];omega)
 ·have e:ip h (some ⟨b,0,none⟩) (sl*d) xs=_:=jq xs h (sl*d) 0 c f (by omega)
  rw[e];refine n _ ?_ (Upd.set h _ rfl);rw[fe f,bi]
theorem NV{h:af}{b:Nat}{c:List Value}{t:TypeId}{o:Nat}{vs:List Value}{k:af→Prop}(d:h[b]? =some (.cells c.toArray t (0,0)))
  (i:o+vs.length≤c.length) (f:∀h',h'[b]? =some (.cells (c.take o++vs++c.drop (o+vs.length)).toArray t (0,0))→Upd (· =b) h h'→k h'):
  yr h (some ⟨b,o,none⟩) 0 vs∧At (ip h (some ⟨b,o,none⟩) 0 vs) k:=by
 refine⟨.inr ⟨_,rfl,fun j g=>?_⟩,dx ?_⟩
 ·rw[dt];exact gI d (by rw[dE];omega)
 ·have e:ip h (some ⟨b,o,none⟩) 0 vs=_:=jq vs h 0 o c d (by omega)
  rw[e];refine f _ ?_ (Upd.set h _ rfl);rw[fe d,ii]
end Go.Lift
namespace Go.Lift
open Go
structure Takes{α:Type}(P:Program)(y:Value)(enc:α→List Value)(N:Nat)(J:List α→(Nat→Prop)→af→Prop):Prop where
 lt:∀pre A h,J pre A h→∀b,A b→b<h.size
 keep:∀pre A h h' B,J pre A h→Upd B h h'→(∀b,A b→¬B b)→J pre A h'
 step:∀pre A h x (K:Bool→af→Prop),J pre A h→pre.length<N→(∀h' A',J (pre++ [x]) A' h'→Upd A h h'→(∀b,A' b→A b∨h.size≤b)→K true h')→HV P y (enc x) [.c .bool] K h
structure Gives{α:Type}(P:Program)(fv:Value)(enc:α→List Value)(N:Nat)(S:List α→Prop)(Q:Nat→Prop)(h:af):Prop where
 lt:∀b,Q b→b<h.size
 run:∃f first cap,fv=.func (.func f) first cap∧∀(y:Value) (J:List α→(Nat→Prop)→af→Prop) (A M:Nat→Prop) (h1:af) (K:Unit→af→Prop),Takes P y enc N J→J [] A h1→Upd M h h1→(∀b,Q b→¬M b)→(∀b,A b→¬Q b)→
  (∀xs A' h',S xs→J xs A' h'→Upd A h1 h'→(∀b,A' b→A b∨h1.size≤b)→K () h')→HE P f (first.toList++ [y]++cap.toList) [] K h1
theorem Gives.upd{α:Type}{P:Program}{d:Value}{enc:α→List Value}{N:Nat}{S:List α→Prop}{Q M:Nat→Prop}{h i:af}(g:Gives P d enc N S Q h)(k:Upd M h i)(hm:∀b,Q b→¬M b):Gives P d enc N S Q i:=by
 obtain⟨f,first,cap,e,j⟩:=g.run
 refine⟨fun b c=>aG (g.lt b c) k.size,f,first,cap,e,fun y J A M' p K o m t q s n=>?_⟩
 exact j y J A (fun b=>M b∨M' b) p K o m ((k.mono fun b c=>.inl (.inl c)).tr (t.mono fun b c=>.inl (.inr c))) (fun b c h=>h.elim (hm b c) (q b c)) s n
end Go.Lift
namespace Go.Lift
open Go
structure KeyE(κ:Type) where
 enc:κ→Value
 ck:CK
 den:∀x,∃d:ck.den,enc x=ck.enc d
 same:∀x y,gj (enc x) (enc y)=true↔x=y
def Vt(k:IntKind):KeyE Int:=⟨fun x=>.int k x,.int k,fun x=>⟨x,rfl⟩,fun x y=>by simp[gj]⟩
section
variable {κ β:Type}
structure Ent(κ β:Type) where
 k:κ
 v:β
 n:Nat
variable (E:KeyE κ) (g:β→Value)
def Dh(x:Ent κ β):MapEntry:={key:=E.enc x.k,val:=g x.v,born:=x.n}
structure MapE(h:af)(r:Nat)(ms:List (Ent κ β))(clock:Nat):Prop where
 here:h[r]? =some (.map (ms.map (Dh E g)).toArray clock)
 keys:(ms.map (·.k)).Nodup
 nums:(ms.map (·.n)).Nodup
 old:∀x∈ms,x.n<clock
def plain(ms:List (Ent κ β)):List (κ×β):=ms.map fun x=>(x.k,x.v)
def MapAt(h:af)(r:Nat)(m:List (κ×β)):Prop:=∃ms clock,MapE E g h r ms clock∧plain ms=m
variable {E g}
theorem MapE.keysOf{h:af}{r:Nat}{ms:List (Ent κ β)}{b:Nat}(_:MapE E g h r ms b):keysOf E.ck (ms.map (Dh E g)).toArray.toList:=by
 intro e c;simp only[bQ]at c;obtain⟨x,_,rfl⟩:=c;exact E.den x.k
theorem MapAt.isMap{h:af}{r:Nat}{m:List (κ×β)}(hm:MapAt E g h r m):LC E.ck h r:=by
 obtain⟨ms,b,hm,_⟩:=hm;exact⟨_,_,hm.here,hm.keysOf⟩
theorem MapAt.len{h:af}{r:Nat}{m:List (κ×β)}(hm:MapAt E g h r m):Nk h (some r) m.length:=by
 obtain⟨ms,b,hm,rfl⟩:=hm;exact⟨_,_,hm.here,by simp[plain]⟩
theorem MapAt.nodup{h:af}{r:Nat}{m:List (κ×β)}(hm:MapAt E g h r m):(m.map (·.1)).Nodup:=by
 obtain⟨ms,b,hm,rfl⟩:=hm;have:=hm.keys;unfold plain;rw[ik];exact this
theorem MapAt.lt{h:af}{r:Nat}{m:List (κ×β)}(hm:MapAt E g h r m):r<h.size:=by
 obtain⟨ms,b,hm,_⟩:=hm;exact bo hm.here
theorem MapAt.upd{h c:af}{r:Nat}{m:List (κ×β)}{M:Nat→Prop}(hm:MapAt E g h r m)(k:Upd M h c)(d:¬M r):MapAt E g c r m:=by
 obtain⟨ms,b,hm,e⟩:=hm;exact⟨ms,b,⟨k.get hm.here d,hm.keys,hm.nums,hm.old⟩,e⟩
theorem MapAt.new(h:af):MapAt E g (h.push (.map #[] 0)) h.size []:=
 ⟨[],0,⟨qo h _,fk,fk,fun _ h=>by cases h⟩,rfl⟩
variable [DecidableEq κ]
def fW:List (κ×β)→κ→Option β
 | [],_=>none
 |(k',v)::l,k=>if k=k' then some v else fW l k
def EF:List (κ×β)→κ→β→List (κ×β)
 | [],k,v=> [(k,v)]
 |(k',u)::l,k,v=>if k=k' then(k,v)::l else(k',u)::EF l k v
def Gj(l:List (κ×β))(k:κ):List (κ×β):=l.filter fun p=>p.1≠k
theorem Pv(l:List (κ×β))(k:κ)(v:β)(j:κ):fW (EF l k v) j=if j=k then some v else fW l j:=by
 induction l with
 |nil=>simp[EF,fW]
 |cons p l ih=>
  obtain⟨k',u⟩:=p;simp only[EF];split
  ·rename_i e;subst e;simp only[fW];split<;>rfl
  ·rename_i e
   simp only[fW,ih];by_cases b:j=k'
   ·subst b;simp[Ne.symm e]
   ·simp[b]
theorem DB{l:List (κ×β)}{k:κ}{v:β}(b:(l.map (·.1)).Nodup):fW l k=some v↔(k,v)∈l:=by
 induction l with
 |nil=>simp[fW]
 |cons p l ih=>
  obtain⟨k',u⟩:=p;simp only[cx,fT]at b;simp only[fW,au,Prod.mk.injEq];by_cases c:k=k'
  ·subst c
   simp only[if_true,bX.injEq,true_and];constructor
   ·exact fun e=>.inl e.symm
   ·rintro(e|e)
    ·exact e.symm
    ·exact absurd (bQ.2 ⟨_,e,rfl⟩) b.1
  ·simp[c,ih b.2]
theorem uT{l:List (κ×β)}{k:κ}:fW l k=none↔k∉l.map (·.1):=by
 induction l with
 |nil=>simp[fW]
 |cons p l ih=>
  obtain⟨k',u⟩:=p;simp only[fW,cx,au,not_or];by_cases b:k=k'
  ·simp[b]
  ·simp[b,ih]
theorem Pu(l:List (κ×β))(k:κ)(v:β):(EF l k v).map (·.1)=if k∈l.map (·.1)then l.map (·.1)else l.map (·.1)++ [k]:=by
 induction l with
 |nil=>simp[EF]
 |cons p l ih=>
  obtain⟨k',u⟩:=p;simp only[EF];by_cases b:k=k'
  ·simp[b]
  ·simp only[b,if_false,cx,ih,au,false_or]
   split<;>simp
theorem Na{l:List (κ×β)}{k:κ}{v:β}(h:(l.map (·.1)).Nodup):((EF l k v).map (·.1)).Nodup:=by
 rw[Pu];split
 ·exact h
 ·rename_i hn
  rw[List.nodup_append];refine⟨h,by simp,?_⟩
  intro a d b c;simp only[aA]at c;subst c;intro e;subst e;exact hn d
theorem IV(x y:κ):gj (E.enc x) (E.enc y)=decide (x=y):=by
 by_cases h:x=y
 ·rw[decide_eq_true h];exact(E.same x y).2 h
 ·rw[decide_eq_false h];exact mQ.2 fun e=>h ((E.same x y).1 e)
theorem Rb(k:κ)(ms:List (Ent κ β)):FZ (E.enc k) (ms.map (Dh E g))=(fW (plain ms) k).map g:=by
 induction ms with
 |nil=>rfl
 |cons x ms ih=>
  simp only[cx,FZ,Dh,plain,fW];rw[IV];by_cases h:k=x.k
  ·simp[h]
  ·simp only[h,decide_false,ce,if_false];exact ih
theorem MapAt.get{h:af}{r:Nat}{m:List (κ×β)}(hm:MapAt E g h r m)(k:κ)(z:β):Gl E.ck (g z) h (some r) (E.enc k) (g ((fW m k).getD z)) (fW m k).isSome:=by
 obtain⟨ms,b,hm,rfl⟩:=hm;refine⟨_,_,hm.here,hm.keysOf,?_⟩;rw[Rb];cases fW (plain ms) k<;>exact⟨rfl,rfl⟩
def y5(k:κ)(v:β)(b:Nat):List (Ent κ β)→List (Ent κ β)×Nat
 | []=>([⟨k,v,b⟩],b+1)
 |x::l=>if k=x.k then(⟨k,v,x.n⟩::l,b)else(x::(y5 k v b l).1,(y5 k v b l).2)
theorem SO(k:κ)(v:β)(b:Nat)(ms:List (Ent κ β)):Ji (E.enc k) (g v) b (ms.map (Dh E g))=((y5 k v b ms).1.map (Dh E g),(y5 k v b ms).2):=by
 induction ms with
 |nil=>rfl
 |cons x ms ih=>
  simp only[cx,Ji,y5];rw[ih,show(Dh E g x).key=E.enc x.k from rfl,IV]
  by_cases h:k=x.k
  ·simp[h,Dh]
  ·simp[h]
theorem F4(k:κ)(v:β)(b:Nat)(ms:List (Ent κ β)):plain (y5 k v b ms).1=EF (plain ms) k v:=by
 induction ms with
 |nil=>rfl
 |cons x ms ih=>
  simp only[y5,plain,cx,EF];by_cases h:k=x.k
  ·simp[h]
  ·simp only[h,if_false,cx,List.cons.injEq,true_and];exact ih
theorem Uv(k:κ)(v:β)(b:Nat)(ms:List (Ent κ β)):(y5 k v b ms).1.map (·.n)=(if k∈ms.map (·.k)then ms.map (·.n)else ms.map (·.n)++ [b])∧(y5 k v b ms).2=(if k∈ms.map (·.k)then b else b+1):=by
 induction ms with
 |nil=>exact⟨rfl,rfl⟩
 |cons x ms ih=>
  simp only[y5];by_cases h:k=x.k
  ·simp[h]
  ·simp only[h,if_false,cx,ih.1,ih.2,au,false_or,and_true]
   split<;>simp
theorem S4{h:af}{r:Nat}{ms:List (Ent κ β)}{b:Nat}(hm:MapE E g h r ms b)(k:κ)(v:β):wZ h r (E.enc k) (g v)=h.setIfInBounds r (.map ((y5 k v b ms).1.map (Dh E g)).toArray (y5 k v b ms).2):=by
 unfold wZ;rw[hm.here];simp only;rw[SO]
theorem MapE.put{h:af}{r:Nat}{ms:List (Ent κ β)}{c:Nat}(hm:MapE E g h r ms c)(k:κ)(v:β):MapE E g (wZ h r (E.enc k) (g v)) r (y5 k v c ms).1 (y5 k v c ms).2:=by
 rw[S4 hm];have j:(y5 k v c ms).1.map (·.k)=(plain (y5 k v c ms).1).map (·.1):=by unfold plain;rw[ik];rfl
 have o:(plain ms).map (·.1)=ms.map (·.k):=by unfold plain;rw[ik];rfl
 have f:=Uv k v c ms;have d:∀y∈ms.map (·.n),y<c:=fun y m=>by
  obtain⟨x,hx,rfl⟩:=bQ.1 m;exact hm.old x hx
 refine⟨fe hm.here,?_,?_,?_⟩
 ·rw[j,F4];exact Na (by rw[o];exact hm.keys)
 ·rw[f.1]
  split
  ·exact hm.nums
  ·rw[List.nodup_append]
   refine⟨hm.nums,by simp,?_⟩
   intro a i b n;simp only[aA]at n;have:=d a i;omega
 ·intro x hx
  have hx:x.n∈(y5 k v c ms).1.map (·.n):=bQ.2 ⟨x,hx,rfl⟩
  rw[f.1]at hx;rw[f.2];split
  ·rename_i hk;rw[if_pos hk]at hx;exact d _ hx
  ·rename_i hk
   rw[if_neg hk]at hx;rcases List.mem_append.1 hx with e|e
   ·have:=d _ e;omega
   ·simp only[aA]at e;omega
theorem MapAt.put{h:af}{r:Nat}{m:List (κ×β)}(hm:MapAt E g h r m)(k:κ)(v:β):MapAt E g (wZ h r (E.enc k) (g v)) r (EF m k v):=by
 obtain⟨ms,b,hm,rfl⟩:=hm;exact⟨_,_,hm.put k v,F4 ..⟩
theorem P2{M:Nat→Prop}(h:af){r:Nat}(k v:Value)(b:M r):Upd M h (wZ h r k v):=by
 unfold wZ;split
 ·exact Upd.set h _ b
 ·exact Upd.refl _ _
theorem RI(k:κ){ms:List (Ent κ β)}(b:(ms.map (·.k)).Nodup):F5 (E.enc k) (ms.map (Dh E g))=(ms.filter fun x=>x.k≠k).map (Dh E g):=by
 induction ms with
 |nil=>rfl
 |cons x ms ih=>
  simp only[cx,fT]at b;simp only[cx,F5,List.filter_cons];rw[show(Dh E g x).key=E.enc x.k from rfl,IV]
  by_cases h:k=x.k
  ·subst h
   simp only[decide_true,if_true,ne_eq,not_true_eq_false,decide_false,ce,if_false];congr 1
   rw[oF.2];intro y c;simp only[decide_not,Bool.not_eq_eq_eq_not,Bool.not_true,decide_eq_false_iff_not];intro e;exact b.1 (e▸bQ.2 ⟨y,c,rfl⟩)
  ·simp only[h,decide_false,ce,if_false,ne_eq,Ne.symm h,not_false_eq_true,decide_true,if_true,cx]
   rw[ih b.2]
theorem MapE.drop{h:af}{r:Nat}{ms:List (Ent κ β)}{b:Nat}(hm:MapE E g h r ms b)(k:κ):MapE E g (FJ h r (E.enc k)) r (ms.filter fun x=>x.k≠k) b:=by
 have e:FJ h r (E.enc k)=h.setIfInBounds r (.map ((ms.filter fun x=>x.k≠k).map (Dh E g)).toArray b):=by
  unfold FJ;rw[hm.here];simp only;rw[RI k hm.keys]
 rw[e];refine⟨fe hm.here,hm.keys.sublist ((kW).map _),hm.nums.sublist ((kW).map _),fun x hx=>hm.old x ((dP.1 hx).1)⟩
theorem Jj(k:κ)(ms:List (Ent κ β)):plain (ms.filter fun x=>x.k≠k)=Gj (plain ms) k:=by
 unfold plain Gj;rw[List.filter_map];rfl
end
section
variable {κ β:Type} (E:KeyE κ) (g:β→Value)
def IterSt(h:af)(i r:Nat)(m b:List (κ×β)):Prop:=
 ∃ms clock since seen last,MapE E g h r ms clock∧plain ms=m∧h[i]? =some (.mapIter (some r) since seen last)∧b=plain (ms.filter fun x=> !seen.contains x.n)∧∀x∈ms,x.n<since∧x.n<last
variable {E g}
theorem IterSt.at{h:af}{i r:Nat}{m c:List (κ×β)}(hi:IterSt E g h i r m c):MapAt E g h r m:=by
 obtain⟨ms,b,d,e,last,hm,f,_⟩:=hi;exact⟨ms,b,hm,f⟩
theorem IterSt.upd{h f:af}{i r:Nat}{m b:List (κ×β)}{M:Nat→Prop}(hi:IterSt E g h i r m b)(k:Upd M h f)(p:¬M i)(h2:¬M r):IterSt E g f i r m b:=by
 obtain⟨ms,c,d,e,last,hm,n,q,o,j⟩:=hi;exact⟨ms,c,d,e,last,⟨k.get hm.here h2,hm.keys,hm.nums,hm.old⟩,n,k.get q p,o,j⟩
theorem IterSt.ne{h:af}{i r:Nat}{m b:List (κ×β)}(hi:IterSt E g h i r m b):i≠r:=by
 obtain⟨ms,c,d,f,last,hm,n,j,o,k⟩:=hi;intro e;subst e;rw[hm.here]at j;cases j
theorem IterSt.nodup{h:af}{i r:Nat}{m b:List (κ×β)}(hi:IterSt E g h i r m b):(b.map (·.1)).Nodup:=by
 obtain⟨ms,c,d,e,last,hm,k,n,f,j⟩:=hi;rw[f];unfold plain;rw[ik];exact hm.keys.sublist ((kW).map _)
theorem MapAt.range{h:af}{r:Nat}{m:List (κ×β)}(hm:MapAt E g h r m):∃b,(∃es,h[r]? =some (.map es b))∧IterSt E g (h.push (.mapIter (some r) b #[] b)) h.size r m m:=by
 obtain⟨ms,b,hm,c⟩:=hm;refine⟨b,⟨_,hm.here⟩,ms,b,b,#[],b,⟨(Upd.push No h _).get0 hm.here,hm.keys,hm.nums,hm.old⟩,c,qo h _,?_,fun x hx=>⟨hm.old x hx,hm.old x hx⟩⟩
 rw[show(fun x:Ent κ β=> !(#[]:Array Nat).contains x.n)=fun _=>true from funext fun x=>by simp,oF.2 fun _ _=>rfl,c]
theorem Dg{α γ:Type}{f:α→γ}:∀{l:List α},(l.map f).Nodup→∀{x y:α},x∈l→y∈l→f x=f y→x=y
 | [],_,x,y,h,_,_=>by cases h
 |z::l,hn,x,y,hx,hy,e=>by
  simp only[cx,fT]at hn;rcases au.1 hx with b|b<;>rcases au.1 hy with h2|h2
  ·rw[b,h2]
  ·exact absurd (bQ.2 ⟨y,h2,by rw[←e,b]⟩) hn.1
  ·exact absurd (bQ.2 ⟨x,b,by rw[e,h2]⟩) hn.1
  ·exact Dg hn.2 b h2 e
theorem Ra{ms:List (Ent κ β)}(b:(ms.map (·.n)).Nodup){x:Ent κ β}(hx:x∈ms):(ms.map (Dh E g)).find? (fun e=>e.born==x.n)=some (Dh E g x):=by
 induction ms with
 |nil=>cases hx
 |cons y ms ih=>
  simp only[cx,fT]at b;rw[cx,List.find?_cons];rcases au.1 hx with rfl|hx
  ·simp[Dh]
  ·have:(Dh E g y).born≠x.n:=fun e=>b.1 (bQ.2 ⟨x,hx,e.symm⟩)
   have c:((Dh E g y).born==x.n)=false:=by simpa using this
   rw[c];exact ih b.2 hx
variable [DecidableEq κ]
theorem NextP.at{M:Nat→Prop}{h:af}{i r:Nat}{m j:List (κ×β)}{Kend:Prop}{Kstep:MapEntry→af→Prop}(hi:IterSt E g h i r m j)(hM:M i)
  (s:j= []→Kend)
  (n:∀k v,(k,v)∈j→∀(e:MapEntry) h',e.key=E.enc k→e.val=g v→y9 h' i e→IterSt E g h' i r m (Gj j k)→Upd M h h'→Kstep e h'):NextP ⟨i,0,none⟩ h Kend Kstep:=by
 have B:=hi.ne;obtain⟨ms,b,c,f,last,hm,H,G,A,C⟩:=hi;refine⟨rfl,_,c,f,last,G,.inr ⟨r,_,b,rfl,hm.here,?_,fun d=>?_,fun e D z=>?_⟩⟩
 ·by_cases F:ms= []
  ·right;left;subst F;rfl
  ·right;right
   obtain⟨x,l,hx⟩:=List.exists_cons_of_ne_nil F;rw[mQ];intro d;rw[Array.all_eq_true']at d;have hx:x∈ms:=by rw[hx];exact List.mem_cons_self ..
   have:=d (Dh E g x) (by simp only[List.mem_toArray,bQ];exact⟨x,hx,rfl⟩);have h2:=(C x hx).2;simp[Dh]at this;omega
 ·refine s ?_
  rw[A];unfold plain;rw[List.map_eq_nil_iff,List.filter_eq_nil_iff];intro x hx;have:=d (Dh E g x) (by simp only[bQ];exact⟨x,hx,rfl⟩) (C x hx).1;have e:(Dh E g x).born=x.n:=rfl;rw[e]at this;rw[this];exact Bool.false_ne_true
 ·simp only[bQ]at D
  obtain⟨x,hx,rfl⟩:=D;have z:f.contains x.n=false:=z;have p:=fe (o:=.mapIter (some r) c (f.push x.n) b) G;have q:(h.setIfInBounds i (.mapIter (some r) c (f.push x.n) b))[r]? =some (.map (ms.map (Dh E g)).toArray b):=by
   rw[cR];simp only[B,if_false];exact hm.here
  refine n x.k x.v ?_ _ _ rfl rfl ?_ ?_ (Upd.set h _ hM)
  ·rw[A]
   exact bQ.2 ⟨x,dP.2 ⟨hx,by rw[z];rfl⟩,rfl⟩
  ·refine⟨r,c,_,b,x.n,_,p,by simp,q,?_⟩
   rw[←Array.find?_toList];exact Ra hm.nums hx
  ·refine⟨ms,b,c,_,b,⟨q,hm.keys,hm.nums,hm.old⟩,H,p,?_,fun y t=>⟨(C y t).1,hm.old y t⟩⟩
   rw[A,←Jj,List.filter_filter];congr 1
   apply List.filter_congr;intro y t;have u:y.n=x.n↔y.k=x.k:=⟨fun e=>congrArg _ (Dg hm.nums t hx e),fun e=>congrArg _ (Dg hm.keys t hx e)⟩
   simp only[Array.contains_push,ne_eq,decide_not,Bool.not_or];by_cases w:y.k=x.k
   ·have:=u.2 w;simp[w,this]
   ·have:¬y.n=x.n:=fun e=>w (u.1 e)
    simp[w,this]
end
end Go.Lift
