/- A part of the proof that the named laws of this program answer true, whatever the input. -/
import Derived.Test.YtceikogjngfacaaGreatLift2
open Array renaming ext_getElem?→ly,getElem?_modify→mg,getElem?_setIfInBounds→dd,getElem?_eq_some_iff→cz
open Bool renaming eq_false_iff→my,false_eq_true→bS
open List renaming flatMap_cons→aZ,length_append→af,length_cons→av,getElem?_append_left→bw,getElem?_append_right→aH,getElem?_eq_some_iff→bv,length_take→aL,length_drop→aW,take_append_drop→aN,flatMap_append→cQ,length_eq_zero_iff→ax,getElem?_toArray→eX,length_nil→aQ,getElem?_drop→oL,size_toArray→dD,take_append_of_le_length→iq,drop_eq_nil_of_le→fC,nil_append→bZ,append_assoc→aw,take_left'→dY,drop_drop→cW,drop_left'→dH,drop_append_of_le_length→is,mem_map→bI,map_map→dR,nodup_nil→fp,map_cons→bJ,nodup_cons→eE,mem_cons→ar,nodup_append→mo,mem_singleton→aq,filter_eq_self→kG,filter_sublist→kF,mem_filter→dG
open Nat renaming lt_or_ge→dB,zero_add→bK,le_refl→ai,lt_of_lt_of_le→aC,not_lt→eW,succ_mul→sP,add_zero→eY
open Option renaming some→bX
namespace Go.Lift
open Go
attribute [simp] aV ay
theorem ak{p:Prop}[Decidable p]{t e:Prop}(b:p→t)(h2:¬p→e):CondP (decide p) t e:=CondP.intro (fun h=>b (of_decide_eq_true h)) (fun h=>h2 (of_decide_eq_false h))
theorem HC.mono{P:Program}{f:FuncId}{args:List Value}{ks:List Kind}{K c:uO ks→ae→Prop}{h:ae}(hc:HC P f args ks K h)(d:∀t h',K t h'→c t h'):HC P f args ks c h:=by
 refine⟨fun w m=>?_⟩
 rcases hc.run w m with⟨b,h2⟩|⟨v,w',b,h2,t,g,j⟩
 ·exact .inl ⟨b,h2.mono fun e w' ⟨n,t,i,o⟩=>⟨n,t,i,d t _ o⟩⟩
 ·exact .inr ⟨v,w',b,h2,t,g,d t _ j⟩
theorem Join.intro{T:Type}{b:T→ae→Prop}{k:(T→ae→Prop)→Prop}(J:T→ae→Prop)(c:∀R:T→ae→Prop,(∀t h,J t h→R t h)→k R)(h2:∀t h,J t h→b t h):Join b k:=⟨c b h2⟩
theorem Join.plain{T:Type}{b:T→ae→Prop}{k:(T→ae→Prop)→Prop}(h:k b):Join b k:=⟨h⟩
theorem LoopP.intro{T:Type}{F:(T→ae→Prop)→T→ae→Prop}{t:T}{h:ae}(Inv:T→ae→Prop)(m:T→ae→Nat)(i:Inv t h)
  (step:∀I:T→ae→Prop,∀t h,Inv t h→(∀c b,Inv c b→m c b<m t h→I c b)→F I t h):LoopP F t h:=by
 refine⟨fun I f=>?_⟩
 have key:∀n t h,m t h=n→Inv t h→I t h:=by
  intro n;induction n using Nat.strongRecOn with
  |_ n ih=>exact fun t h g hi=>f t h (step I t h hi fun c b e d=>ih _ (g▸d) c b rfl e)
 exact key _ t h rfl i
theorem LoopP.ghost{T G:Type}{F:(T→ae→Prop)→T→ae→Prop}{t:T}{h:ae}(Inv:G→T→ae→Prop)(m:G→Nat)(g:G)(o:Inv g t h)
  (step:∀I:T→ae→Prop,∀g t h,Inv g t h→(∀c d b,Inv c d b→m c<m g→I d b)→F I t h):LoopP F t h:=by
 refine⟨fun I i=>?_⟩
 have key:∀n g t h,m g=n→Inv g t h→I t h:=by
  intro n;induction n using Nat.strongRecOn with
  |_ n ih=>exact fun g t h j hi=>i t h (step I g t h hi fun c d b f e=>ih _ (j▸e) c d b rfl f)
 exact key _ g t h rfl o
theorem HV.mk'{P:Program}{f:FuncId}{first cap:Array Value}{args:List Value}{ks:List Kind}{K:uO ks→ae→Prop}{h:ae}(hc:HC P f (first.toList++args++cap.toList) ks K h):HV P (.func (.func f) first cap) args ks K h:=
 ⟨.inl ⟨f,first,cap,rfl,hc⟩⟩
@[simp] theorem cM(b o n:Nat):adr ⟨b,o,none⟩ n=⟨b,o+n,none⟩:=by
 cases n<;>rfl
@[simp] theorem Ea(a:Addr)(n:Nat):(adr a n).block=a.block:=by
 cases n<;>rfl
theorem dA(h:ae):aJ h=⟨h.size,0,none⟩:=rfl
theorem NO{h:ae}{a:Addr}{v:Value}(hv:bh h a=some v):a.block<h.size:=by
 unfold bh at hv;rcases dB a.block h.size with b|b
 ·exact b
 ·rw[Array.getElem?_eq_none b]at hv;cases hv
theorem bO{h:ae}{b i:Nat}{c:Array Value}{e:TypeId}{fr:Nat×Nat}(d:h[b]? =some (.cells c e fr)):bh h ⟨b,i,none⟩=c[i]?:=by
 unfold bh;rw[d];rfl
theorem Hc{h b:ae}{c:Array Value}{e:TypeId}{fr:Nat×Nat}(d:b[h.size]? =some (.cells c e fr)) (i:Nat):bh b (adr (aJ h) i)=c[i]?:=by
 rw[dA,cM,bO d,bK]
theorem PX{h b:ae}{a:Addr}(c:b[a.block]? =h[a.block]?):bh b a=bh h a:=by
 unfold bh;rw[c]
theorem ju{h:ae}{b i:Nat}{c:Array Value}{e:TypeId}{fr:Nat×Nat}{v:Value}(g:h[b]? =some (.cells c e fr)):
  hset h ⟨b,i,none⟩ v=h.setIfInBounds b (.cells (c.setIfInBounds i v) e fr):=by
 unfold hset;apply ly;intro j;rw[mg,dd];by_cases f:b=j
 ·subst f
  have d:=(cz.1 g).1;simp only[g,if_true,d,Option.map_some];rfl
 ·simp[f]
theorem fz{h:ae}{b i:Nat}{c:Array Value}{e:TypeId}(d:h[b]? =some (.cells c e (0,0))) (hi:i<c.size):Wr h ⟨b,i,none⟩:=by
 refine⟨⟨c[i],by rw[bO d,Array.getElem?_eq_getElem hi]⟩,?_⟩
 unfold F1;rw[d];simp
structure Upd(M:Nat→Prop)(h h':ae):Prop where
 size:h.size≤h'.size
 same:∀b,b<h.size→¬M b→h'[b]? =h[b]?
abbrev No:Nat→Prop:=fun _=>False
theorem Upd.refl(M:Nat→Prop)(h:ae):Upd M h h:=⟨ai _,fun _ _ _=>rfl⟩
theorem Upd.trans{M M':Nat→Prop}{h e h2:ae}(k:Upd M h e)(l:Upd M' e h2)(g:∀b,M' b→M b∨h.size≤b):Upd M h h2:=
 ⟨Nat.le_trans k.size l.size,fun b d f=>by
  rw[l.same b (aC d k.size) (fun hm=>(g b hm).elim f fun c=>absurd d (eW.2 c)),k.same b d f]⟩
theorem Upd.tr{M:Nat→Prop}{h b h2:ae}(k:Upd M h b)(l:Upd M b h2):Upd M h h2:=k.trans l fun _ h=>.inl h
theorem Upd.mono{M M':Nat→Prop}{h d:ae}(k:Upd M h d)(g:∀b,M b→M' b∨h.size≤b):Upd M' h d:=
 ⟨k.size,fun b e f=>k.same b e fun hm=>(g b hm).elim f fun c=>absurd e (eW.2 c)⟩
theorem Upd.wide{M:Nat→Prop}{h b:ae}(k:Upd No h b):Upd M h b:=k.mono fun _ h=>h.elim
theorem Upd.get{M:Nat→Prop}{h d:ae}(k:Upd M h d){b:Nat}{o:Obj}(c:h[b]? =some o) (e:¬M b):d[b]? =some o:=by
 rw[k.same b (cz.1 c).1 e,c]
theorem Upd.get0{h c:ae}(k:Upd No h c){b:Nat}{o:Obj}(d:h[b]? =some o):c[b]? =some o:=k.get d id
theorem Upd.cell{M:Nat→Prop}{h b:ae}(k:Upd M h b){a:Addr}{v:Value}(hv:bh h a=some v)(c:¬M a.block):bh b a=some v:=by
 rw[PX (k.same _ (NO hv) c),hv]
theorem Upd.cell0{h b:ae}(k:Upd No h b){a:Addr}{v:Value}(hv:bh h a=some v):bh b a=some v:=k.cell hv id
theorem Upd.push(M:Nat→Prop)(h:ae)(o:Obj):Upd M h (h.push o):=⟨by simp,fun b c _=>by rw[Array.getElem?_push];simp[Nat.ne_of_lt c]⟩
theorem Upd.set{M:Nat→Prop}(h:ae){b:Nat}(o:Obj)(d:M b):Upd M h (h.setIfInBounds b o):=⟨by simp,fun c _ f=>by
 rw[dd]
 have:b≠c:=fun e=>f (e▸d)
 simp[this]⟩
theorem Upd.hset{M:Nat→Prop}(h:ae){a:Addr}(v:Value)(b:M a.block):Upd M h (hset h a v):=⟨by simp[Go.Lift.hset],fun c _ d=>by
 unfold Go.Lift.hset
 rw[mg]
 have:a.block≠c:=fun e=>d (e▸b)
 simp[this]⟩
theorem Upd.hnew(M:Nat→Prop)(h:ae)(cs:List Value)(t:TypeId):Upd M h (hnew h cs t):=Upd.push M h _
theorem cO(h:ae)(cs:List Value)(t:TypeId):(hnew h cs t)[h.size]? =some (.cells cs.toArray t (0,0)):=by
 unfold hnew;simp
theorem lD(h:ae)(o:Obj):(h.push o)[h.size]? =some o:=by simp
theorem eI(h:ae)(cs:List Value)(t:TypeId):(hnew h cs t).size=h.size+1:=by
 unfold hnew;simp
theorem dU{h:ae}{b:Nat}{o d:Obj}(c:h[b]? =some d):(h.setIfInBounds b o)[b]? =some o:=by
 rw[dd];simp[(cz.1 c).1]
theorem bc{h:ae}{b:Nat}{o:Obj}(c:h[b]? =some o):b<h.size:=(cz.1 c).1
theorem Row.upd{M:Nat→Prop}{h b:ae}{a:Addr}{vs:List Value}(c:Row h a vs)(k:Upd M h b)(d:¬M a.block):Row b a vs:=fun i v hv=>k.cell (c i v hv) (by rw[Ea];exact d)
theorem SRow.upd{M:Nat→Prop}{h d:ae}{a:Option Addr}{n:Nat}{vs:List Value}(c:SRow h a n vs)(k:Upd M h d)(g:vs≠[]→∀b,a=some b→¬M b.block):SRow d a n vs:=by
 obtain⟨f,h2⟩:=c;refine⟨f,?_⟩;rcases h2 with rfl|⟨b,e,c⟩
 ·exact .inl rfl
 ·by_cases hv:vs= []
  ·exact .inl hv
  ·exact .inr ⟨b,e,c.upd k (g hv b e)⟩
theorem zJ{h:ae}{b o:Nat}{c:Array Value}{e:TypeId}{fr:Nat×Nat}(d:h[b]? =some (.cells c e fr)) {vs:List Value} (hv:∀i v,vs[i]? =some v→c[o+i]? =some v):Row h ⟨b,o,none⟩ vs:=fun i v hi=>by
 rw[cM,bO d];exact hv i v hi
structure Sl{α:Type}(f:α→List Value)(sz:Nat)(W:Nat→Prop)(h:ae)(s:SliceV)(xs:List α):Prop where
 len:s.len=xs.length
 ne:∀x,(f x).length=sz∧0<sz
 row:xs≠[]→∃a,s.a=some a∧¬W a.block∧Row h a (xs.flatMap f)
theorem Sl.nil{α:Type}{f:α→List Value}{sz:Nat}{W:Nat→Prop}{h:ae}{a:Option Addr}{c:Nat}(b:∀x,(f x).length=sz∧0<sz):Sl f sz W h ⟨a,0,c⟩ []:=⟨rfl,b,fun h=>absurd rfl h⟩
theorem Sl.lt{α:Type}{f:α→List Value}{sz:Nat}{W:Nat→Prop}{h:ae}{s:SliceV}{xs:List α}(d:Sl f sz W h s xs)(hx:xs≠[]){a:Addr}(g:s.a=some a):a.block<h.size:=by
 obtain⟨a',b,i,e⟩:=d.row hx;rw[g]at b;cases b;cases xs with
 |nil=>exact absurd rfl hx
 |cons x xs=>
  have c:=d.ne x;cases hf:f x with
  |nil=>rw[hf]at c;simp at c;omega
  |cons v vs=>
   have:=e 0 v (by rw[aZ,hf];rfl);have:=NO this;rw[Ea]at this;exact this
theorem Sl.upd{α:Type}{f:α→List Value}{sz:Nat}{W M:Nat→Prop}{h e:ae}{s:SliceV}{xs:List α}(c:Sl f sz W h s xs)(k:Upd M h e)(hm:∀b,M b→W b∨h.size≤b):Sl f sz W e s xs:=by
 refine⟨c.len,c.ne,fun hx=>?_⟩
 obtain⟨a,i,g,m⟩:=c.row hx;exact⟨a,i,g,m.upd k fun j=>(hm _ j).elim g fun d=>absurd (c.lt hx i) (eW.2 d)⟩
theorem Sl.less{α:Type}{f:α→List Value}{sz:Nat}{W W':Nat→Prop}{h:ae}{s:SliceV}{xs:List α}(c:Sl f sz W h s xs)(hm:∀b,W' b→W b∨h.size≤b):Sl f sz W' h s xs:=
 ⟨c.len,c.ne,fun hx=>let⟨a,e,i,j⟩:=c.row hx;⟨a,e,fun g=>(hm _ g).elim i fun d=>absurd (c.lt hx e) (eW.2 d),j⟩⟩
theorem jj{α:Type}{f:α→List Value}{sz:Nat}(b:∀x,(f x).length=sz):∀xs:List α,(xs.flatMap f).length=xs.length*sz
 | []=>by simp
 |x::xs=>by rw[aZ,af,b,jj b xs,av,sP];omega
theorem ux{α:Type}{f:α→List Value}{sz:Nat}(b:∀x,(f x).length=sz):∀(xs:List α) (i j:Nat) (x:α),xs[i]? =some x→j<sz→(xs.flatMap f)[i*sz+j]? =(f x)[j]?
 | [],i,j,x,h,_=>by simp at h
 |y::xs,0,j,x,h,hj=>by
  simp only[List.getElem?_cons_zero,bX.injEq]at h;subst h;rw[aZ,Nat.zero_mul,bK,bw (by rw[b];exact hj)]
 |y::xs,i+1,j,x,h,hj=>by
  rw[List.getElem?_cons_succ]at h;rw[aZ,aH (by rw[b,sP];omega),b,show(i+1)*sz+j-sz=i*sz+j by rw[sP];omega]
  exact ux b xs i j x h hj
theorem Sl.at{α:Type}{f:α→List Value}{sz:Nat}{W:Nat→Prop}{h:ae}{s:SliceV}{xs:List α}(b:Sl f sz W h s xs){i:Nat}{x:α}(hi:xs[i]? =some x):
  ∃a,s.a=some a∧¬W a.block∧∀j v,(f x)[j]? =some v→bh h (adr (adr a (i*sz)) j)=some v:=by
 obtain⟨a,m,d,g⟩:=b.row (fun e=>by subst e;simp at hi)
 refine⟨a,m,d,fun j v hv=>?_⟩
 have c:j<sz:=by rw[←(b.ne x).1];exact(bv.1 hv).1
 rw[CQ];exact g _ v (by rw[ux (fun x=>(b.ne x).1) xs i j x hi c];exact hv)
theorem Sl.at0{α:Type}{g:α→Value}{W:Nat→Prop}{h:ae}{s:SliceV}{xs:List α}(b:Sl (fun x=> [g x]) 1 W h s xs){i:Nat}{x:α}(hi:xs[i]? =some x):
  ∃a,s.a=some a∧¬W a.block∧bh h (adr a (i*1))=some (g x):=by
 obtain⟨a,d,e,c⟩:=b.at hi;exact⟨a,d,e,c 0 _ rfl⟩
theorem Sl.srow{α:Type}{f:α→List Value}{sz:Nat}{W:Nat→Prop}{h:ae}{s:SliceV}{xs:List α}(b:Sl f sz W h s xs):SRow h s.a (s.len*sz) (xs.flatMap f):=by
 refine⟨?_,?_⟩
 ·rw[b.len,jj fun x=>(b.ne x).1]
 ·by_cases hx:xs= []
  ·subst hx;exact .inl rfl
  ·obtain⟨a,d,_,c⟩:=b.row hx
   exact .inr ⟨a,d,c⟩
theorem Sl.sub{α:Type}{f:α→List Value}{sz:Nat}{W:Nat→Prop}{h:ae}{s:SliceV}{xs:List α}(b:Sl f sz W h s xs){l hi m c:Nat}(q:l≤hi)(h2:hi≤xs.length)(p:hi≤m):
  Sl f sz W h ⟨bN s.a l m sz,hi-l,c⟩ ((xs.drop l).take (hi-l)):=by
 refine⟨by simp only[aL,aW];omega,b.ne,fun hx=>?_⟩
 have d:l<hi:=by
  rcases dB l hi with h|h
  ·exact h
  ·rw[Nat.sub_eq_zero_of_le h]at hx;exact absurd List.take_zero hx
 obtain⟨a,n,g,j⟩:=b.row (fun e=>by rw[e]at h2;simp at h2;omega)
 refine⟨adr a (l*sz),?_,by rw[Ea];exact g,fun i v hv=>?_⟩
 ·unfold bN
  rw[if_neg (by omega),n];rfl
 ·rw[CQ]
  refine j _ v ?_;have e:xs=xs.take l++((xs.drop l).take (hi-l)++(xs.drop l).drop (hi-l)):=by rw[aN,aN]
  rw[e,cQ,cQ];have o:((xs.take l).flatMap f).length=l*sz:=by rw[jj fun x=>(b.ne x).1,aL];congr 1;omega
  rw[aH (by omega),o,Nat.add_sub_cancel_left,bw (bv.1 hv).1];exact hv
structure OwnS{α:Type}(f:α→List Value)(sz:Nat)(t:TypeId)(M:Nat→Prop)(h:ae)(s:SliceV)(xs:List α):Prop where
 len:s.len=xs.length
 ne:∀x,(f x).length=sz∧0<sz
 cap:s.len≤s.cap
 blk:s.cap=0∨∃b rest,s.a=some ⟨b,0,none⟩∧M b∧h[b]? =some (.cells (xs.flatMap f++rest).toArray t (0,0))∧rest.length=(s.cap-s.len)*sz
theorem OwnS.nil{α:Type}{f:α→List Value}{sz:Nat}{t:TypeId}{M:Nat→Prop}{h:ae}{a:Option Addr}(b:∀x,(f x).length=sz∧0<sz):OwnS f sz t M h ⟨a,0,0⟩ []:=⟨rfl,b,ai _,.inl rfl⟩
theorem OwnS.sl{α:Type}{f:α→List Value}{sz:Nat}{t:TypeId}{M W:Nat→Prop}{h:ae}{s:SliceV}{xs:List α}(c:OwnS f sz t M h s xs)(hm:∀b,M b→b<h.size→¬W b):Sl f sz W h s xs:=by
 refine⟨c.len,c.ne,fun hx=>?_⟩
 rcases c.blk with j|⟨b,d,g,e,hc,_⟩
 ·have:=c.len;have:=c.cap
  have:xs.length=0:=by omega
  exact absurd (ax.1 this) hx
 ·exact⟨_,g,hm b e (bc hc),zJ hc fun i v hv=>by
   rw[bK,eX,bw (bv.1 hv).1];exact hv⟩
theorem OwnS.upd{α:Type}{f:α→List Value}{sz:Nat}{t:TypeId}{M M':Nat→Prop}{h e:ae}{s:SliceV}{xs:List α}(d:OwnS f sz t M h s xs)(k:Upd M' h e)(hm:∀b,M b→¬M' b):OwnS f sz t M e s xs:=by
 refine⟨d.len,d.ne,d.cap,d.blk.imp id fun⟨b,c,j,g,hc,i⟩=>⟨b,c,j,g,k.get hc (hm b g),i⟩⟩
theorem OwnS.more{α:Type}{f:α→List Value}{sz:Nat}{t:TypeId}{M M':Nat→Prop}{h:ae}{s:SliceV}{xs:List α}(d:OwnS f sz t M h s xs)(hm:∀b,M b→M' b):OwnS f sz t M' h s xs:=by
 refine⟨d.len,d.ne,d.cap,d.blk.imp id fun⟨b,c,i,e,hc,g⟩=>⟨b,c,i,hm b e,hc,g⟩⟩
theorem OwnS.within{α:Type}{f:α→List Value}{sz:Nat}{t:TypeId}{M:Nat→Prop}{h:ae}{s:SliceV}{xs:List α}(d:OwnS f sz t M h s xs):OwnS f sz t (fun b=>M b∧b<h.size) h s xs:=by
 refine⟨d.len,d.ne,d.cap,d.blk.imp id fun⟨b,c,i,e,hc,g⟩=>⟨b,c,i,⟨e,bc hc⟩,hc,g⟩⟩
theorem gQ{b:Nat}{t:TypeId}:∀(vs:List Value) (h:ae) (i o:Nat) (c:List Value),h[b]? =some (.cells c.toArray t (0,0))→o+i+vs.length≤c.length→
  iw h ⟨b,o,none⟩ i vs=h.setIfInBounds b (.cells (c.take (o+i)++vs++c.drop (o+i+vs.length)).toArray t (0,0))
 | [],h,i,o,c,hb,hl=>by
  simp only[iw,List.append_nil,aQ,eY,aN];apply ly;intro j;rw[dd];split
  ·rename_i e;subst e;rw[hb];simp[bc hb]
  ·rfl
 |v::vs,h,i,o,c,hb,hl=>by
  rw[av]at hl;simp only[iw];rw[cM,ju hb];have d:(h.setIfInBounds b (.cells (c.toArray.setIfInBounds (o+i) v) t (0,0)))[b]? =some (.cells (c.set (o+i) v).toArray t (0,0)):=by
   rw[dU hb];simp
  rw[gQ vs _ (i+1) o (c.set (o+i) v) d (by simp;omega)];have e:∀(x y:Obj),(h.setIfInBounds b x).setIfInBounds b y=h.setIfInBounds b y:=fun x y=>by
   apply ly;intro j;simp only[dd,Array.size_setIfInBounds];split<;>rfl
  rw[e];congr 3
  apply List.ext_getElem?;intro j;simp only[List.getElem?_append,af,aL,List.length_set,av,List.getElem?_take,List.getElem?_set,oL];grind
theorem qE(n:Nat)(z:List Value):(fb n z).length=n*z.length:=by
 unfold fb;induction n with
 |zero=>simp
 |succ n ih=>rw[List.replicate_succ,List.flatten_cons,af,ih,sP];omega
theorem AppP.own{α:Type}{f:α→List Value}{sz bytes:Nat}{t:TypeId}{M:Nat→Prop}{h:ae}{g:Option Addr}{sl m N:Nat}{xs ys:List α}{n z:List Value}{K:SliceV→ae→Prop}
  (o:OwnS f sz t M h ⟨g,sl,m⟩ xs)(i:N=ys.length)(D:n=ys.flatMap f)(p:cF n=true)(R:z.length=sz)(U:0<bytes)(w:(xs.length+ys.length)*bytes≤140737488355328)(hM:M h.size)
  (F:∀s' h',OwnS f sz t M h' s' (xs++ys)→Upd M h h'→K s' h'):AppP (some z) sz bytes t g sl m N n h K:=by
 have d:sl=xs.length:=o.len;have q:∀x,(f x).length=sz:=fun x=>(o.ne x).1
 subst i D;have y:=jj q ys;have i:=jj q xs;refine⟨fun s=>?_,fun u=>?_⟩
 ·rcases o.blk with J|⟨b,c,G,v,hc,B⟩
  ·have J:m=0:=J
   have I:ys.length=0:=by omega
   have C:xs.length=0:=by omega
   have S:=ax.1 I;have hx:=ax.1 C;subst S hx;refine⟨.inl rfl,rfl,?_⟩;have e:ik h g (sl*sz) (([]:List α).flatMap f)=h:=by cases g<;>rfl
   rw[e];exact F _ _ ⟨by simp[d],o.ne,by simp only[aQ];omega,.inl J⟩ (Upd.refl _ _)
  ·have G:g=some ⟨b,0,none⟩:=G
   have B:c.length=(m-sl)*sz:=B;subst G;have O:sl+ys.length≤m:=s;have Q:ys.length*sz≤c.length:=by rw[B];exact Nat.mul_le_mul_right _ (Nat.le_sub_of_add_le (show ys.length+sl≤m by omega))
   have A:0+sl*sz+(ys.flatMap f).length≤(xs.flatMap f++c).length:=by
    rw[af,i,y,d];omega
   refine⟨.inr ⟨_,rfl,fun j V=>?_⟩,p,?_⟩
   ·rw[cM]
    refine fz hc ?_;rw[dD];omega
   ·have e:ik h (some ⟨b,0,none⟩) (sl*sz) (ys.flatMap f)=_:=gQ (ys.flatMap f) h (sl*sz) 0 _ hc A
    rw[e];have H:(xs.flatMap f++c).take (0+sl*sz)=xs.flatMap f:=by
     rw[bK,d,←i,iq (ai _),List.take_length]
    have L:(xs.flatMap f++c).drop (0+sl*sz+(ys.flatMap f).length)=c.drop (ys.length*sz):=by
     rw[bK,d,←i,List.drop_append,fC (by omega),bZ,y];congr 1;omega
    rw[H,L];refine F _ _ ⟨by simp[d],o.ne,s,.inr ⟨b,c.drop (ys.length*sz),rfl,v,?_,?_⟩⟩ (Upd.set h _ v)
    ·rw[dU hc,cQ]
    ·rw[aW,B]
     simp only;rw[show m-(sl+ys.length)=(m-sl)-ys.length by omega,Nat.sub_mul (m-sl)]
 ·have T:m*1≤m:=by omega
  refine⟨xs.flatMap f,z,?_,rfl,U,Go.growslice_fits u (by rw[d];exact w),fun P E=>?_⟩
  ·exact(o.sl (W:=No) fun _ _ _=>id).srow
  ·refine F _ _ ⟨by simp[d],o.ne,E,.inr ⟨h.size,fb (P-(sl+ys.length)) z,rfl,hM,?_,?_⟩⟩ (Upd.hnew M h _ _)
   ·rw[cO,cQ]
   ·rw[qE,R]
end Go.Lift
namespace Go.Lift
open Go
theorem cP{h:ae}{k:ae→Prop}(b:k h):At h k:=b
theorem pa{b o l m sz:Nat}(h:m≠l):bN (some ⟨b,o,none⟩) l m sz=some ⟨b,o+l*sz,none⟩:=by simp[bN,h,cM]
theorem sub_zero{b m sz:Nat}:bN (some ⟨b,0,none⟩) 0 m sz=some ⟨b,0,none⟩:=by
 unfold bN;split
 ·rfl
 ·simp[cM]
theorem qQ{h:ae}{b:Nat}{c:List Value}{t:TypeId}{o n:Nat}{vs:List Value}{d:Option Addr}{k:ae→Prop}(g:SRow h d n vs)(m:cF vs=true)(f:h[b]? =some (.cells c.toArray t (0,0)))
  (s:o+n≤c.length) (i:∀h',h'[b]? =some (.cells (c.take o++vs++c.drop (o+n)).toArray t (0,0))→Upd (· =b) h h'→k h'):
  ∃xs,SRow h d n xs∧xw h (some ⟨b,o,none⟩) 0 xs∧cF xs=true∧At (ik h (some ⟨b,o,none⟩) 0 xs) k:=by
 have p:=g.1;refine⟨vs,g,.inr ⟨_,rfl,fun j q=>?_⟩,m,cP ?_⟩
 ·rw[cM];exact fz f (by rw[dD];omega)
 ·have e:ik h (some ⟨b,o,none⟩) 0 vs=_:=gQ vs h 0 o c f (by omega)
  rw[e];refine i _ ?_ (Upd.set h _ rfl);rw[dU f,eY,p]
theorem rq{h:ae}{b:Nat}{c:List Value}{t:TypeId}{o n:Nat}{vs:List Value}(d:h[b]? =some (.cells c.toArray t (0,0))) (e:vs.length=n) (f:(c.drop o).take n=vs):SRow h (some ⟨b,o,none⟩) n vs:=by
 refine⟨e,.inr ⟨_,rfl,zJ d fun i v hv=>?_⟩⟩
 rw[eX,←oL];have:((c.drop o).take n)[i]? =some v:=by rw[f];exact hv
 rw[List.getElem?_take]at this;split at this
 ·exact this
 ·cases this
section
variable {α:Type} {f:α→List Value} {sz:Nat}
theorem pp(b:∀x,(f x).length=sz∧0<sz)(xs:List α):(xs.flatMap f).length=xs.length*sz:=jj (fun x=>(b x).1) xs
theorem Hq(xs:List α)(k:Nat):xs.flatMap f=(xs.take k).flatMap f++(xs.drop k).flatMap f:=by rw[←cQ,aN]
end
theorem QZ{α:Type}{A X B Z1 Z2:List α}{p q r:Nat}(c:A.length=p)(g:X.length=q)(f:Z1.length=r+q):
  (((A++Z1++Z2).take p++X++(A++Z1++Z2).drop (p+q)).take (p+q))++B++((A++Z1++Z2).take p++X++(A++Z1++Z2).drop (p+q)).drop (p+q+r)=A++(X++B)++Z2:=by
 have e:(A++Z1++Z2).take p=A:=by rw[aw,dY c]
 have d:(A++Z1++Z2).drop (p+q)=Z1.drop q++Z2:=by
  rw[aw,←cW,dH c,is (by omega)]
 have b:(A++X).length=p+q:=by rw[af];omega
 rw[e,d,dY b,←cW,dH b,is (by rw[aW];omega),cW,fC (by omega),bZ];simp only[aw]
theorem UO{α:Type}{A X B R:List α}{p q r:Nat}(e:A.length=p)(f:B.length=r)(g:q≤R.length):
  (((A++B++R).take (p+q)++B++(A++B++R).drop (p+q+r)).take p)++X++((A++B++R).take (p+q)++B++(A++B++R).drop (p+q+r)).drop (p+q)=A++(X++B)++R.drop q:=by
 have c:((A++B++R).take (p+q)).length=p+q:=by rw[aL,af,af];omega
 have b:(A++B++R).drop (p+q+r)=R.drop q:=by
  rw[show p+q+r=(p+r)+q by omega,←cW,dH (by rw[af];omega)]
 have d:((A++B++R).take (p+q)++(B++(A++B++R).drop (p+q+r))).take p=A:=by
  rw[iq (by omega),List.take_take,Nat.min_eq_left (by omega),aw,dY e]
 rw[aw ((A++B++R).take (p+q)),d,dH c,b];simp only[aw]
theorem VG{h:ae}{b:Nat}{c:List Value}{t n:TypeId}{sz bytes sl f d:Nat}{xs:List Value}{z:Option (List Value)}{K:SliceV→ae→Prop}(g:h[b]? =some (.cells c.toArray t (0,0)))
  (q:sl*sz+xs.length≤c.length) (o:sl+d≤f) (m:cF xs=true) (i:∀h',h'[b]? =some (.cells (c.take (sl*sz)++xs++c.drop (sl*sz+xs.length)).toArray t (0,0))→Upd (· =b) h h'→K ⟨some ⟨b,0,none⟩,sl+d,f⟩ h'):
  AppP z sz bytes n (some ⟨b,0,none⟩) sl f d xs h K:=by
 refine⟨fun _=>⟨.inr ⟨_,rfl,fun j p=>?_⟩,m,?_⟩,fun h=>by omega⟩
 ·rw[cM];exact fz g (by rw[dD];omega)
 ·have e:ik h (some ⟨b,0,none⟩) (sl*sz) xs=_:=gQ xs h (sl*sz) 0 c g (by omega)
  rw[e];refine i _ ?_ (Upd.set h _ rfl);rw[dU g,bK]
theorem QL{h:ae}{b:Nat}{c:List Value}{t:TypeId}{o:Nat}{vs:List Value}{k:ae→Prop}(d:h[b]? =some (.cells c.toArray t (0,0)))
  (i:o+vs.length≤c.length) (f:∀h',h'[b]? =some (.cells (c.take o++vs++c.drop (o+vs.length)).toArray t (0,0))→Upd (· =b) h h'→k h'):
  xw h (some ⟨b,o,none⟩) 0 vs∧At (ik h (some ⟨b,o,none⟩) 0 vs) k:=by
 refine⟨.inr ⟨_,rfl,fun j g=>?_⟩,cP ?_⟩
 ·rw[cM];exact fz d (by rw[dD];omega)
 ·have e:ik h (some ⟨b,o,none⟩) 0 vs=_:=gQ vs h 0 o c d (by omega)
  rw[e];refine f _ ?_ (Upd.set h _ rfl);rw[dU d,eY]
end Go.Lift
namespace Go.Lift
open Go
structure Takes{α:Type}(P:Program)(y:Value)(enc:α→List Value)(N:Nat)(J:List α→(Nat→Prop)→ae→Prop):Prop where
 lt:∀pre A h,J pre A h→∀b,A b→b<h.size
 keep:∀pre A h h' B,J pre A h→Upd B h h'→(∀b,A b→¬B b)→J pre A h'
 step:∀pre A h x (K:Bool→ae→Prop),J pre A h→pre.length<N→(∀h' A',J (pre++ [x]) A' h'→Upd A h h'→(∀b,A' b→A b∨h.size≤b)→K true h')→HV P y (enc x) [.c .bool] K h
structure Gives{α:Type}(P:Program)(fv:Value)(enc:α→List Value)(N:Nat)(S:List α→Prop)(Q:Nat→Prop)(h:ae):Prop where
 lt:∀b,Q b→b<h.size
 run:∃f first cap,fv=.func (.func f) first cap∧∀(y:Value) (J:List α→(Nat→Prop)→ae→Prop) (A M:Nat→Prop) (h1:ae) (K:Unit→ae→Prop),Takes P y enc N J→J [] A h1→Upd M h h1→(∀b,Q b→¬M b)→(∀b,A b→¬Q b)→
  (∀xs A' h',S xs→J xs A' h'→Upd A h1 h'→(∀b,A' b→A b∨h1.size≤b)→K () h')→HE P f (first.toList++ [y]++cap.toList) [] K h1
theorem Gives.upd{α:Type}{P:Program}{i:Value}{enc:α→List Value}{N:Nat}{S:List α→Prop}{Q M:Nat→Prop}{h d:ae}(g:Gives P i enc N S Q h)(k:Upd M h d)(hm:∀b,Q b→¬M b):Gives P i enc N S Q d:=by
 obtain⟨f,first,cap,e,q⟩:=g.run
 refine⟨fun b c=>aC (g.lt b c) k.size,f,first,cap,e,fun y J A M' p K u j m o s n=>?_⟩
 exact q y J A (fun b=>M b∨M' b) p K u j ((k.mono fun b c=>.inl (.inl c)).tr (m.mono fun b c=>.inl (.inr c))) (fun b c h=>h.elim (hm b c) (o b c)) s n
end Go.Lift
namespace Go.Lift
open Go
structure KeyE(κ:Type) where
 enc:κ→Value
 ck:CK
 den:∀x,∃d:ck.den,enc x=ck.enc d
 same:∀x y,f6 (enc x) (enc y)=true↔x=y
def Z0(k:IntKind):KeyE Int:=⟨fun x=>.int k x,.int k,fun x=>⟨x,rfl⟩,fun x y=>by simp[f6]⟩
section
variable {κ β:Type}
structure Ent(κ β:Type) where
 k:κ
 v:β
 n:Nat
variable (E:KeyE κ) (g:β→Value)
def DT(x:Ent κ β):MapEntry:={key:=E.enc x.k,val:=g x.v,born:=x.n}
structure MapE(h:ae)(r:Nat)(ms:List (Ent κ β))(clock:Nat):Prop where
 here:h[r]? =some (.map (ms.map (DT E g)).toArray clock)
 keys:(ms.map (·.k)).Nodup
 nums:(ms.map (·.n)).Nodup
 old:∀x∈ms,x.n<clock
def plain(ms:List (Ent κ β)):List (κ×β):=ms.map fun x=>(x.k,x.v)
def MapAt(h:ae)(r:Nat)(m:List (κ×β)):Prop:=∃ms clock,MapE E g h r ms clock∧plain ms=m
variable {E g}
theorem MapE.keysOf{h:ae}{r:Nat}{ms:List (Ent κ β)}{b:Nat}(_:MapE E g h r ms b):keysOf E.ck (ms.map (DT E g)).toArray.toList:=by
 intro e c;simp only[bI]at c;obtain⟨x,_,rfl⟩:=c;exact E.den x.k
theorem MapAt.isMap{h:ae}{r:Nat}{m:List (κ×β)}(hm:MapAt E g h r m):CV E.ck h r:=by
 obtain⟨ms,b,hm,_⟩:=hm;exact⟨_,_,hm.here,hm.keysOf⟩
theorem MapAt.len{h:ae}{r:Nat}{m:List (κ×β)}(hm:MapAt E g h r m):HM h (some r) m.length:=by
 obtain⟨ms,b,hm,rfl⟩:=hm;exact⟨_,_,hm.here,by simp[plain]⟩
theorem MapAt.nodup{h:ae}{r:Nat}{m:List (κ×β)}(hm:MapAt E g h r m):(m.map (·.1)).Nodup:=by
 obtain⟨ms,b,hm,rfl⟩:=hm;have:=hm.keys;unfold plain;rw[dR];exact this
theorem MapAt.lt{h:ae}{r:Nat}{m:List (κ×β)}(hm:MapAt E g h r m):r<h.size:=by
 obtain⟨ms,b,hm,_⟩:=hm;exact bc hm.here
theorem MapAt.upd{h c:ae}{r:Nat}{m:List (κ×β)}{M:Nat→Prop}(hm:MapAt E g h r m)(k:Upd M h c)(d:¬M r):MapAt E g c r m:=by
 obtain⟨ms,b,hm,e⟩:=hm;exact⟨ms,b,⟨k.get hm.here d,hm.keys,hm.nums,hm.old⟩,e⟩
theorem MapAt.new(h:ae):MapAt E g (h.push (.map #[] 0)) h.size []:=
 ⟨[],0,⟨lD h _,fp,fp,fun _ h=>by cases h⟩,rfl⟩
variable [DecidableEq κ]
def dT:List (κ×β)→κ→Option β
 | [],_=>none
 |(k',v)::l,k=>if k=k' then some v else dT l k
def oE:List (κ×β)→κ→β→List (κ×β)
 | [],k,v=> [(k,v)]
 |(k',u)::l,k,v=>if k=k' then(k,v)::l else(k',u)::oE l k v
def Ag(l:List (κ×β))(k:κ):List (κ×β):=l.filter fun p=>p.1≠k
theorem KA(l:List (κ×β))(k:κ)(v:β)(j:κ):dT (oE l k v) j=if j=k then some v else dT l j:=by
 induction l with
 |nil=>simp[oE,dT]
 |cons p l ih=>
  obtain⟨k',u⟩:=p;simp only[oE];split
  ·rename_i e;subst e;simp only[dT];split<;>rfl
  ·rename_i e
   simp only[dT,ih];by_cases b:j=k'
   ·subst b;simp[Ne.symm e]
   ·simp[b]
theorem sZ{l:List (κ×β)}{k:κ}{v:β}(b:(l.map (·.1)).Nodup):dT l k=some v↔(k,v)∈l:=by
 induction l with
 |nil=>simp[dT]
 |cons p l ih=>
  obtain⟨k',u⟩:=p;simp only[bJ,eE]at b;simp only[dT,ar,Prod.mk.injEq];by_cases c:k=k'
  ·subst c
   simp only[if_true,bX.injEq,true_and];constructor
   ·exact fun e=>.inl e.symm
   ·rintro(e|e)
    ·exact e.symm
    ·exact absurd (bI.2 ⟨_,e,rfl⟩) b.1
  ·simp[c,ih b.2]
theorem mF{l:List (κ×β)}{k:κ}:dT l k=none↔k∉l.map (·.1):=by
 induction l with
 |nil=>simp[dT]
 |cons p l ih=>
  obtain⟨k',u⟩:=p;simp only[dT,bJ,ar,not_or];by_cases b:k=k'
  ·simp[b]
  ·simp[b,ih]
theorem Kz(l:List (κ×β))(k:κ)(v:β):(oE l k v).map (·.1)=if k∈l.map (·.1)then l.map (·.1)else l.map (·.1)++ [k]:=by
 induction l with
 |nil=>simp[oE]
 |cons p l ih=>
  obtain⟨k',u⟩:=p;simp only[oE];by_cases b:k=k'
  ·simp[b]
  ·simp only[b,if_false,bJ,ih,ar,false_or]
   split<;>simp
theorem Qb{l:List (κ×β)}{k:κ}{v:β}(h:(l.map (·.1)).Nodup):((oE l k v).map (·.1)).Nodup:=by
 rw[Kz];split
 ·exact h
 ·rename_i hn
  rw[mo];refine⟨h,by simp,?_⟩
  intro a d b c;simp only[aq]at c;subst c;intro e;subst e;exact hn d
theorem Lc(x y:κ):f6 (E.enc x) (E.enc y)=decide (x=y):=by
 by_cases h:x=y
 ·rw[decide_eq_true h];exact(E.same x y).2 h
 ·rw[decide_eq_false h];exact my.2 fun e=>h ((E.same x y).1 e)
theorem U8(k:κ)(ms:List (Ent κ β)):Hi (E.enc k) (ms.map (DT E g))=(dT (plain ms) k).map g:=by
 induction ms with
 |nil=>rfl
 |cons x ms ih=>
  simp only[bJ,Hi,DT,plain,dT];rw[Lc];by_cases h:k=x.k
  ·simp[h]
  ·simp only[h,decide_false,bS,if_false];exact ih
theorem MapAt.get{h:ae}{r:Nat}{m:List (κ×β)}(hm:MapAt E g h r m)(k:κ)(z:β):xy E.ck (g z) h (some r) (E.enc k) (g ((dT m k).getD z)) (dT m k).isSome:=by
 obtain⟨ms,b,hm,rfl⟩:=hm;refine⟨_,_,hm.here,hm.keysOf,?_⟩;rw[U8];cases dT (plain ms) k<;>exact⟨rfl,rfl⟩
def yP(k:κ)(v:β)(b:Nat):List (Ent κ β)→List (Ent κ β)×Nat
 | []=>([⟨k,v,b⟩],b+1)
 |x::l=>if k=x.k then(⟨k,v,x.n⟩::l,b)else(x::(yP k v b l).1,(yP k v b l).2)
theorem WN(k:κ)(v:β)(b:Nat)(ms:List (Ent κ β)):Ln (E.enc k) (g v) b (ms.map (DT E g))=((yP k v b ms).1.map (DT E g),(yP k v b ms).2):=by
 induction ms with
 |nil=>rfl
 |cons x ms ih=>
  simp only[bJ,Ln,yP];rw[ih,show(DT E g x).key=E.enc x.k from rfl,Lc]
  by_cases h:k=x.k
  ·simp[h,DT]
  ·simp[h]
theorem Hm(k:κ)(v:β)(b:Nat)(ms:List (Ent κ β)):plain (yP k v b ms).1=oE (plain ms) k v:=by
 induction ms with
 |nil=>rfl
 |cons x ms ih=>
  simp only[yP,plain,bJ,oE];by_cases h:k=x.k
  ·simp[h]
  ·simp only[h,if_false,bJ,List.cons.injEq,true_and];exact ih
theorem YO(k:κ)(v:β)(b:Nat)(ms:List (Ent κ β)):(yP k v b ms).1.map (·.n)=(if k∈ms.map (·.k)then ms.map (·.n)else ms.map (·.n)++ [b])∧(yP k v b ms).2=(if k∈ms.map (·.k)then b else b+1):=by
 induction ms with
 |nil=>exact⟨rfl,rfl⟩
 |cons x ms ih=>
  simp only[yP];by_cases h:k=x.k
  ·simp[h]
  ·simp only[h,if_false,bJ,ih.1,ih.2,ar,false_or,and_true]
   split<;>simp
theorem W6{h:ae}{r:Nat}{ms:List (Ent κ β)}{b:Nat}(hm:MapE E g h r ms b)(k:κ)(v:β):qM h r (E.enc k) (g v)=h.setIfInBounds r (.map ((yP k v b ms).1.map (DT E g)).toArray (yP k v b ms).2):=by
 unfold qM;rw[hm.here];simp only;rw[WN]
theorem MapE.put{h:ae}{r:Nat}{ms:List (Ent κ β)}{c:Nat}(hm:MapE E g h r ms c)(k:κ)(v:β):MapE E g (qM h r (E.enc k) (g v)) r (yP k v c ms).1 (yP k v c ms).2:=by
 rw[W6 hm];have m:(yP k v c ms).1.map (·.k)=(plain (yP k v c ms).1).map (·.1):=by unfold plain;rw[dR];rfl
 have i:(plain ms).map (·.1)=ms.map (·.k):=by unfold plain;rw[dR];rfl
 have f:=YO k v c ms;have d:∀y∈ms.map (·.n),y<c:=fun y o=>by
  obtain⟨x,hx,rfl⟩:=bI.1 o;exact hm.old x hx
 refine⟨dU hm.here,?_,?_,?_⟩
 ·rw[m,Hm];exact Qb (by rw[i];exact hm.keys)
 ·rw[f.1]
  split
  ·exact hm.nums
  ·rw[mo]
   refine⟨hm.nums,by simp,?_⟩
   intro a n b j;simp only[aq]at j;have:=d a n;omega
 ·intro x hx
  have hx:x.n∈(yP k v c ms).1.map (·.n):=bI.2 ⟨x,hx,rfl⟩
  rw[f.1]at hx;rw[f.2];split
  ·rename_i hk;rw[if_pos hk]at hx;exact d _ hx
  ·rename_i hk
   rw[if_neg hk]at hx;rcases List.mem_append.1 hx with e|e
   ·have:=d _ e;omega
   ·simp only[aq]at e;omega
theorem MapAt.put{h:ae}{r:Nat}{m:List (κ×β)}(hm:MapAt E g h r m)(k:κ)(v:β):MapAt E g (qM h r (E.enc k) (g v)) r (oE m k v):=by
 obtain⟨ms,b,hm,rfl⟩:=hm;exact⟨_,_,hm.put k v,Hm ..⟩
theorem BU{M:Nat→Prop}(h:ae){r:Nat}(k v:Value)(b:M r):Upd M h (qM h r k v):=by
 unfold qM;split
 ·exact Upd.set h _ b
 ·exact Upd.refl _ _
theorem Vt(k:κ){ms:List (Ent κ β)}(b:(ms.map (·.k)).Nodup):Hn (E.enc k) (ms.map (DT E g))=(ms.filter fun x=>x.k≠k).map (DT E g):=by
 induction ms with
 |nil=>rfl
 |cons x ms ih=>
  simp only[bJ,eE]at b;simp only[bJ,Hn,List.filter_cons];rw[show(DT E g x).key=E.enc x.k from rfl,Lc]
  by_cases h:k=x.k
  ·subst h
   simp only[decide_true,if_true,ne_eq,not_true_eq_false,decide_false,bS,if_false];congr 1
   rw[kG.2];intro y c;simp only[decide_not,Bool.not_eq_eq_eq_not,Bool.not_true,decide_eq_false_iff_not];intro e;exact b.1 (e▸bI.2 ⟨y,c,rfl⟩)
  ·simp only[h,decide_false,bS,if_false,ne_eq,Ne.symm h,not_false_eq_true,decide_true,if_true,bJ]
   rw[ih b.2]
theorem MapE.drop{h:ae}{r:Nat}{ms:List (Ent κ β)}{b:Nat}(hm:MapE E g h r ms b)(k:κ):MapE E g (GV h r (E.enc k)) r (ms.filter fun x=>x.k≠k) b:=by
 have e:GV h r (E.enc k)=h.setIfInBounds r (.map ((ms.filter fun x=>x.k≠k).map (DT E g)).toArray b):=by
  unfold GV;rw[hm.here];simp only;rw[Vt k hm.keys]
 rw[e];refine⟨dU hm.here,hm.keys.sublist ((kF).map _),hm.nums.sublist ((kF).map _),fun x hx=>hm.old x ((dG.1 hx).1)⟩
theorem Lo(k:κ)(ms:List (Ent κ β)):plain (ms.filter fun x=>x.k≠k)=Ag (plain ms) k:=by
 unfold plain Ag;rw[List.filter_map];rfl
end
section
variable {κ β:Type} (E:KeyE κ) (g:β→Value)
def IterSt(h:ae)(i r:Nat)(m b:List (κ×β)):Prop:=
 ∃ms clock since seen last,MapE E g h r ms clock∧plain ms=m∧h[i]? =some (.mapIter (some r) since seen last)∧b=plain (ms.filter fun x=> !seen.contains x.n)∧∀x∈ms,x.n<since∧x.n<last
variable {E g}
theorem IterSt.at{h:ae}{i r:Nat}{m c:List (κ×β)}(hi:IterSt E g h i r m c):MapAt E g h r m:=by
 obtain⟨ms,b,d,e,last,hm,f,_⟩:=hi;exact⟨ms,b,hm,f⟩
theorem IterSt.upd{h f:ae}{i r:Nat}{m b:List (κ×β)}{M:Nat→Prop}(hi:IterSt E g h i r m b)(k:Upd M h f)(n:¬M i)(h2:¬M r):IterSt E g f i r m b:=by
 obtain⟨ms,d,c,e,last,hm,p,o,q,j⟩:=hi;exact⟨ms,d,c,e,last,⟨k.get hm.here h2,hm.keys,hm.nums,hm.old⟩,p,k.get o n,q,j⟩
theorem IterSt.ne{h:ae}{i r:Nat}{m b:List (κ×β)}(hi:IterSt E g h i r m b):i≠r:=by
 obtain⟨ms,d,c,f,last,hm,o,j,p,n⟩:=hi;intro e;subst e;rw[hm.here]at j;cases j
theorem IterSt.nodup{h:ae}{i r:Nat}{m b:List (κ×β)}(hi:IterSt E g h i r m b):(b.map (·.1)).Nodup:=by
 obtain⟨ms,d,c,e,last,hm,o,n,f,j⟩:=hi;rw[f];unfold plain;rw[dR];exact hm.keys.sublist ((kF).map _)
theorem MapAt.range{h:ae}{r:Nat}{m:List (κ×β)}(hm:MapAt E g h r m):∃b,(∃es,h[r]? =some (.map es b))∧IterSt E g (h.push (.mapIter (some r) b #[] b)) h.size r m m:=by
 obtain⟨ms,b,hm,c⟩:=hm;refine⟨b,⟨_,hm.here⟩,ms,b,b,#[],b,⟨(Upd.push No h _).get0 hm.here,hm.keys,hm.nums,hm.old⟩,c,lD h _,?_,fun x hx=>⟨hm.old x hx,hm.old x hx⟩⟩
 rw[show(fun x:Ent κ β=> !(#[]:Array Nat).contains x.n)=fun _=>true from funext fun x=>by simp,kG.2 fun _ _=>rfl,c]
theorem DR{α γ:Type}{f:α→γ}:∀{l:List α},(l.map f).Nodup→∀{x y:α},x∈l→y∈l→f x=f y→x=y
 | [],_,x,y,h,_,_=>by cases h
 |z::l,hn,x,y,hx,hy,e=>by
  simp only[bJ,eE]at hn;rcases ar.1 hx with b|b<;>rcases ar.1 hy with h2|h2
  ·rw[b,h2]
  ·exact absurd (bI.2 ⟨y,h2,by rw[←e,b]⟩) hn.1
  ·exact absurd (bI.2 ⟨x,b,by rw[e,h2]⟩) hn.1
  ·exact DR hn.2 b h2 e
theorem U7{ms:List (Ent κ β)}(b:(ms.map (·.n)).Nodup){x:Ent κ β}(hx:x∈ms):(ms.map (DT E g)).find? (fun e=>e.born==x.n)=some (DT E g x):=by
 induction ms with
 |nil=>cases hx
 |cons y ms ih=>
  simp only[bJ,eE]at b;rw[bJ,List.find?_cons];rcases ar.1 hx with rfl|hx
  ·simp[DT]
  ·have:(DT E g y).born≠x.n:=fun e=>b.1 (bI.2 ⟨x,hx,e.symm⟩)
   have c:((DT E g y).born==x.n)=false:=by simpa using this
   rw[c];exact ih b.2 hx
variable [DecidableEq κ]
theorem NextP.at{M:Nat→Prop}{h:ae}{i r:Nat}{m f:List (κ×β)}{Kend:Prop}{Kstep:MapEntry→ae→Prop}(hi:IterSt E g h i r m f)(hM:M i)
  (q:f= []→Kend)
  (n:∀k v,(k,v)∈f→∀(e:MapEntry) h',e.key=E.enc k→e.val=g v→yW h' i e→IterSt E g h' i r m (Ag f k)→Upd M h h'→Kstep e h'):NextP ⟨i,0,none⟩ h Kend Kstep:=by
 have B:=hi.ne;obtain⟨ms,b,c,j,last,hm,I,H,D,A⟩:=hi;refine⟨rfl,_,c,j,last,H,.inr ⟨r,_,b,rfl,hm.here,?_,fun d=>?_,fun e G C=>?_⟩⟩
 ·by_cases F:ms= []
  ·right;left;subst F;rfl
  ·right;right
   obtain⟨x,l,hx⟩:=List.exists_cons_of_ne_nil F;rw[my];intro d;rw[Array.all_eq_true']at d;have hx:x∈ms:=by rw[hx];exact List.mem_cons_self ..
   have:=d (DT E g x) (by simp only[List.mem_toArray,bI];exact⟨x,hx,rfl⟩);have h2:=(A x hx).2;simp[DT]at this;omega
 ·refine q ?_
  rw[D];unfold plain;rw[List.map_eq_nil_iff,List.filter_eq_nil_iff];intro x hx;have:=d (DT E g x) (by simp only[bI];exact⟨x,hx,rfl⟩) (A x hx).1;have e:(DT E g x).born=x.n:=rfl;rw[e]at this;rw[this];exact Bool.false_ne_true
 ·simp only[bI]at G
  obtain⟨x,hx,rfl⟩:=G;have C:j.contains x.n=false:=C;have w:=dU (o:=.mapIter (some r) c (j.push x.n) b) H;have s:(h.setIfInBounds i (.mapIter (some r) c (j.push x.n) b))[r]? =some (.map (ms.map (DT E g)).toArray b):=by
   rw[dd];simp only[B,if_false];exact hm.here
  refine n x.k x.v ?_ _ _ rfl rfl ?_ ?_ (Upd.set h _ hM)
  ·rw[D]
   exact bI.2 ⟨x,dG.2 ⟨hx,by rw[C];rfl⟩,rfl⟩
  ·refine⟨r,c,_,b,x.n,_,w,by simp,s,?_⟩
   rw[←Array.find?_toList];exact U7 hm.nums hx
  ·refine⟨ms,b,c,_,b,⟨s,hm.keys,hm.nums,hm.old⟩,I,w,?_,fun y u=>⟨(A y u).1,hm.old y u⟩⟩
   rw[D,←Lo,List.filter_filter];congr 1
   apply List.filter_congr;intro y u;have p:y.n=x.n↔y.k=x.k:=⟨fun e=>congrArg _ (DR hm.nums u hx e),fun e=>congrArg _ (DR hm.keys u hx e)⟩
   simp only[Array.contains_push,ne_eq,decide_not,Bool.not_or];by_cases z:y.k=x.k
   ·have:=p.2 z;simp[z,this]
   ·have:¬y.n=x.n:=fun e=>z (p.1 e)
    simp[z,this]
end
end Go.Lift
