/- A part of the proof that the named laws of this program answer true, whatever the input. -/
import Derived.Test.YtopdngagmfanlaaGreatDoorLift1
import Derived.BigFrameIn
open Array renaming getD_eq_getD_getElem?→cW,getElem?_toList→aV,getElem?_setIfInBounds_ne→eC,replicate→iW,getElem?_eq_some_iff→cd,getElem?_eq_getElem→fZ,getElem?_eq_none→kH,mapM_eq_mapM_toList→mH,ext'→cJ
open Bool renaming eq_false_iff→pr,or_eq_true→iU,and_eq_true→aX,not_eq_true'→pp,or_eq_false_iff→jp
open Go.Result renaming andThen_ok→az
open Go.Sem renaming run_bind→aO,run_pure→bB
open List renaming mem_of_getElem?→bC,length_cons→aG,mem_cons→aA,getElem?_cons_zero→dh,getElem?_eq_getElem→ag,any_eq_true→bZ,getElem?_eq_some_iff→aQ,mem_cons_of_mem→bj,mem_cons_self→aU,range→ee,filter_cons→dy,mem_singleton→aM,size_toArray→cH
open Nat renaming blt→yQ,beq→av,eq_of_beq_eq_true→aS,land→jl,lor→cS,testBit_and→ry,zero_testBit→mB,succ→fq,zero_add→aI,beq_refl→sq,lt_or_ge→co,pred→yz,sub_zero→ep
open Option renaming some→bh
namespace Go.Lift
open Go
variable {P:Program} {ro:Option Nat} {n:Nat}
def FW(ro:Option Nat):Fence:={fn:=fun _=>True,depth:=none,alive:=false,round:=ro}
theorem Qo(m:Machine):m.fenced P (FW ro):=by
 intro g _;exact⟨fun h=>by simp[FW]at h,.inl trivial,fun _ _=>trivial,fun d h=>by simp[FW]at h⟩
theorem Ad{m a:Machine}(h:Steps P m a):StepsIn (Machine.fenced P (FW ro)) P m a:=(StepsIn.of_steps h).mono fun m _=>Qo m
theorem GB{k:Nat}{f:FuncId}{args:Array Value}{w:World}{R:Ending→World→Prop}(h:Calls P f args w R):CallsIn (FW ro) k P f args w R:=by
 refine⟨trivial,fun cs _=>?_⟩
 obtain⟨e,w',fr,d,hc,a,b⟩:=h cs;refine⟨e,w',fr,d,?_,a,b⟩;cases e with
 |returned v=>exact Ad hc
 |panicked c=>exact Ad hc
 |outgrown=>exact hc
theorem qv{o:Oper}{a:Act}{w:World}{K:WK}{next:Act→World→Prop}{Q:Exit→Act→World→Prop}(hd:∀c,o.op≠ .defer c)(h:Mo P (execOp a.eval o) K w)
  (j:∀v w',Tame w w'→K v w'.heap→next (a.put o.dst v) w'):o.wpIn (FW ro) n P a w next Q:=by
 refine⟨fun _ _=>trivial,?_⟩
 rw[Oper.semAt_eq _ _ _ hd];rcases h with⟨v,w',i,g,d⟩|⟨w',i,g,d⟩|⟨f,args,i,hc⟩|⟨l,fn,tmps,assign,body,i,hc⟩
 ·rw[i];exact j v w' g d
 ·rw[i];exact j undef w' g d
 ·rw[i]
  refine⟨fun h=>by simp[FW]at h,GB (hc.mono ?_)⟩
  rintro e w' ⟨g,v,rfl,d⟩;exact j v w' g d
 ·rw[i]
  refine⟨fun h=>by simp[FW]at h,trivial,fun c cs _=>?_⟩
  obtain⟨b,w',g,d,k⟩:=hc c cs;exact⟨.returned (.bool b),w',j _ w' g d,Ad k⟩
theorem tZ{N:Nat}{o:Oper}{v:Value}{r:cB}{K:cB→Prop}{a:Act}{d:vP}{dv:DV}(h:Ay N o v r K)(c:Agree N r a)(hd:DecOk d r)(g:HX dv v):
  ∃r',K r'∧Agree N r' (a.put o.dst v)∧DecOk (sg d o dv) r':=by
 unfold Ay at h;unfold sg;cases ho:o.dst with
 |none=>rw[ho]at h;exact⟨r,h,c,hd⟩
 |some t=>
  rw[ho]at h;simp only at h;cases hb:yQ t N with
  |false=>rw[hb]at h;exact h.elim
  |true=>
   rw[hb]at h;have b:t<N:=by simpa using hb
   refine⟨_,h,c.put t v b,fun s=>?_⟩
   by_cases e:t=s
   ·subst e
    have:rM ((t,dv)::d) t=dv:=by simp[rM]
    rw[this];exact .inr ⟨v,hG t v r,g⟩
   ·have f:rM ((t,dv)::d) s=rM d s:=by
     have:av t s=false:=pr.2 fun i=>e (aS i)
     show(bif av t s then dv else rM d s)=_
     rw[this];rfl
    rw[f,gq v r e];exact hd s
theorem DL{ek:Option (Kind×Kind)}{o:Op}{r:cB}{K:RK}{h:ad}(a:CE P ek o r K h):∀c,o≠ .defer c:=by
 intro c e;subst e;exact a
theorem xp{o:Oper}{r:cB}{K:WK}{h:ad}(a:Hg P o r K h):∀c,o.op≠ .defer c:=by
 intro c e;unfold Hg at a;rw[e]at a;exact a
theorem Xd{d:vP}{o:Op}(h:wR P o=false):KV d o=.x:=by
 cases o<;>first|rfl|(simp[wR]at h)
theorem PL{N:Nat}{ek:Option (Kind×Kind)}{o:Oper}{r:cB}{K:cB→ad→Prop}{a:Act}{w:World}{d:vP}{next:Act→World→Prop}{Q:Exit→Act→World→Prop}
  (e:Wi P N ek o r K w.heap)(i:Agree N r a)(hd:DecOk d r)
  (p:∀v w' b,Tame w w'→K b w'.heap→Agree N b (a.put o.dst v)→DecOk (sg d o (KV d o.op)) b→next (a.put o.dst v) w'):o.wpIn (FW ro) n P a w next Q:=by
 unfold Wi at e;cases hq:wR P o.op with
 |true=>
  rw[hq,cond_true]at e;obtain⟨v,S,j,q,k,t⟩:=CS i e d hd;refine qv (K:=fun u h'=>u=v∧h'=w.heap) (DL e) (.inl ⟨v,w,t w q,Tame.refl w,rfl,rfl⟩) ?_
  rintro u w' m ⟨rfl,s⟩;obtain⟨b,g,f,c⟩:=tZ j i hd k;exact p u w' b m (by rw[s];exact g) f c
 |false=>
  rw[hq,cond_false]at e;refine qv (xp e) (CI i e) ?_;intro v w' m j;obtain⟨b,g,f,c⟩:=tZ j i hd (dv:=KV d o.op) (by rw[Xd hq];trivial);exact p v w' b m g f c
theorem IP{t:Array Value}{i:Nat}{b:Bool}(h:t.getD i undef=.bool b):t[i]? =some (.bool b):=by
 rw[cW]at h;cases hc:t[i]? with
 |none=>rw[hc]at h;simp[undef]at h
 |some v=>rw[hc]at h;simp at h;rw[h]
theorem N1{t:Array Value}{i:Nat}(h:t.getD i undef=undef):t[i]? =none∨t[i]? =some undef:=by
 rw[cW]at h;cases hc:t[i]? with
 |none=>exact .inl rfl
 |some v=>rw[hc]at h;simp at h;rw[h];exact .inr rfl
theorem mW{N:Nat}{ops:Array Oper}{d:vP}{o:Oper}{b:Bool}{r:cB}{a:Act}(h:iA ops.toList d o=some b)(n:Agree N r a)(hd:DecOk d r):
  Region.wanted o (yielded ops a.tmps)=b:=by
 unfold iA at h;unfold Region.wanted;cases hg:o.guard with
 |none=>rw[hg]at h;simp only[bh.injEq]at h;exact h
 |some g=>
  obtain⟨j,c⟩:=g;rw[hg]at h;simp only[aV]at h;simp only;cases hj:ops[j]? with
  |none=>rw[hj]at h;cases h
  |some oj=>
   rw[hj]at h;simp only at h;cases ht:oj.dst with
   |none=>rw[ht]at h;cases h
   |some t=>
    rw[ht]at h;simp only at h;have p:yielded ops a.tmps j=(match a.tmps[t]? with|some (.bool b)=>some b|_=>none):=by
     unfold yielded;simp[hj,ht];rfl
    rw[p];rcases hd t with hx|⟨v,m,k⟩
    ·rw[hx]at h;cases h
    ·have i:=n.look t v m
     cases hdl:rM d t with
     |x=>rw[hdl]at h;cases h
     |t=>
      rw[hdl]at h k;simp only[bh.injEq]at h;subst h;have:v=.bool true:=k;subst this;rw[IP i];cases c<;>rfl
     |f=>
      rw[hdl]at h k;simp only[bh.injEq]at h;subst h;have:v=.bool false:=k;subst this;rw[IP i];cases c<;>rfl
     |u=>
      rw[hdl]at h k;simp only[bh.injEq]at h;subst h;have:v=undef:=k;subst this;rcases N1 i with e|e<;>rw[e]<;>cases c<;>rfl
structure Fr(W:Nat→Prop)(a0:Act)(w0:World)(a:Act)(w:World):Prop where
 tame:Tame w0 w
 defers:a.defers=a0.defers
 same:∀t,¬W t→a.tmps.getD t undef=a0.tmps.getD t undef
theorem Fr.refl(W:Nat→Prop)(a:Act)(w:World):Fr W a w a w:=⟨Tame.refl w,rfl,fun _ _=>rfl⟩
theorem Fr.put{W:Nat→Prop}{g a:Act}{f w w':World}(h:Fr W g f a w){o:Oper}(j:∀d,o.dst=some d→W d)(v:Value)(i:Tame w w'):Fr W g f (a.put o.dst v) w':=by
 refine⟨h.tame.trans i,?_,fun t b=>?_⟩
 ·cases ho:o.dst<;>simp[Act.put,h.defers]
 ·cases ho:o.dst with
  |none=>exact h.same t b
  |some d=>
   have c:d≠t:=fun e=>b (e▸j d ho)
   rw[←h.same t b];simp[Act.put,eC c]
theorem Fr.trans{W:Nat→Prop}{g b c:Act}{e a d:World}(h:Fr W g e b a)(k:Fr W b a c d):Fr W g e c d:=
 ⟨h.tame.trans k.tame,k.defers.trans h.defers,fun t f=>(k.same t f).trans (h.same t f)⟩
theorem Fr.mono{W W':Nat→Prop}{c a:Act}{b w:World}(h:Fr W c b a w)(f:∀t,W t→W' t):Fr W' c b a w:=
 ⟨h.tame,h.defers,fun t d=>h.same t fun e=>d (f t e)⟩
theorem DecOk.known{d:vP}{r:cB}(h:DecOk d r){t:Nat}{dv:DV}{v:Value}(b:HX dv v):DecOk ((t,dv)::d) ((t,v)::r):=fun s=>by
 by_cases e:t=s
 ·subst e
  have:rM ((t,dv)::d) t=dv:=by simp[rM]
  rw[this];exact .inr ⟨v,hG t v r,b⟩
 ·have a:rM ((t,dv)::d) s=rM d s:=by
   have:av t s=false:=pr.2 fun c=>e (aS c)
   show(bif av t s then dv else rM d s)=_
   rw[this];rfl
  rw[a,gq v r e];exact h s
theorem E7{N:Nat}{ek:Option (Kind×Kind)}{ops:Array Oper}{o:Oper}{i:Nat}{d:vP}{r:cB}{a:Act}{w:World}{b:Bool}{K:vP→cB→ad→Prop}{next:Act→World→Prop}{Q:Exit→Act→World→Prop}
  (hi:ops[i]? =some o) (q:iA ops.toList d o=some b) (g:Agree N r a) (hd:DecOk d r)
  (k:match b with
   |true=>Wi P N ek o r (K (sg d o (KV d o.op))) w.heap
   |false=>Ay N o undef r fun c=>K (sg d o .u) c w.heap)
  (m:∀v w' d' c,Tame w w'→K d' c w'.heap→Agree N c (a.put o.dst v)→DecOk d' c→next (a.put o.dst v) w'):
  wpOpIn (FW ro) n P ops Q i next a w:=by
 unfold wpOpIn;rw[hi];simp only[mW q g hd];cases b with
 |true=>exact PL k g hd fun v w' c s p f e=>m v w' _ c s p f e
 |false=>
  obtain⟨c,j,f,e⟩:=tZ (dv:=.u) k g hd rfl;exact⟨fun _ _=>trivial,m undef w _ c (Tame.refl w) j f e⟩
theorem PK{N:Nat}{ek:Option (Kind×Kind)}{ops:List Oper}{o:Oper}{os:List Oper}{d:vP}{K:cB→ad→Prop}{r:cB}{h:ad}:FC P N ek ops (o::os) d K r h=
 (match iA ops d o with
 |some true=>Wi P N ek o r (fun a h'=>FC P N ek ops os (sg d o (KV d o.op)) K a h') h
 |some false=>Ay N o undef r fun a=>FC P N ek ops os (sg d o .u) K a h
 |none=>match F9 ops o with
  |none=>False
  |some t=>match jZ r t with
   |some (.bool b)=>CondP b
    (Ie P N ek ops o ((t,.t)::d) ((t,.bool true)::r) h fun c a h'=>FC P N ek ops os c K a h')
    (Ie P N ek ops o ((t,.f)::d) ((t,.bool false)::r) h fun c a h'=>FC P N ek ops os c K a h')
   |_=>False):=rfl
theorem H7{N:Nat}{ek:Option (Kind×Kind)}{ops:Array Oper}{o:Oper}{i:Nat}{d:vP}{r:cB}{a:Act}{w:World}{K:vP→cB→ad→Prop}{next:Act→World→Prop}{Q:Exit→Act→World→Prop}
  (hi:ops[i]? =some o) (e:Agree N r a) (hd:DecOk d r) (c:Ie P N ek ops.toList o d r w.heap K)
  (f:∀v w' d' r',Tame w w'→K d' r' w'.heap→Agree N r' (a.put o.dst v)→DecOk d' r'→next (a.put o.dst v) w'):
  wpOpIn (FW ro) n P ops Q i next a w:=by
 unfold Ie at c;cases hw:iA ops.toList d o with
 |none=>rw[hw]at c;exact c.elim
 |some b=>rw[hw]at c;exact E7 (ek:=ek) hi hw e hd (by cases b<;>exact c) f
theorem FB{N:Nat}{ek:Option (Kind×Kind)}{ops:Array Oper}{W:Nat→Prop}(s:∀o∈ops.toList,∀d,o.dst=some d→W d){u:Act}{p:World}{K:cB→ad→Prop}{Q:Exit→Act→World→Prop}
  (m:∀r a w,Agree N r a→Fr W u p a w→K r w.heap→Q .normal a w):
  ∀(l:List Oper) (i:Nat),ops.toList.drop i=l→∀(d:vP) (r:cB) (a:Act) (w:World),FC P N ek ops.toList l d K r w.heap→Agree N r a→DecOk d r→Fr W u p a w→
   wpOpsIn (FW ro) n P ops Q (List.range' i l.length) a w
 | [],i,_,d,r,a,w,hs,ha,hd,hf=>m r a w ha hf hs
 |o::os,i,hdr,d,r,a,w,hs,ha,hd,hf=>by
  have hi:ops[i]? =some o:=by
   rw[←aV];have:(ops.toList.drop i)[0]? =some o:=by rw[hdr];rfl
   simpa using this
  have g:o∈ops.toList:=bC (by rw[aV];exact hi);have f:ops.toList.drop (i+1)=os:=by rw[←List.tail_drop,hdr];rfl
  rw[aG,List.range'_succ,wpOpsIn_cons];rw[PK]at hs;have go:∀v w' e c,Tame w w'→FC P N ek ops.toList os e K c w'.heap→Agree N c (a.put o.dst v)→DecOk e c→wpOpsIn (FW ro) n P ops Q (List.range' (i+1) os.length) (a.put o.dst v) w':=
   fun v w' e c q x k j=>FB s m os (i+1) f e c _ w' x k j (hf.put (s o g) v q)
  cases hw:iA ops.toList d o with
  |some b=>
   rw[hw]at hs;exact E7 (ek:=ek) (K:=fun e c h'=>FC P N ek ops.toList os e K c h') hi hw ha hd (by cases b<;>exact hs) go
  |none=>
   rw[hw]at hs;simp only at hs;split at hs
   ·exact hs.elim
   ·rename_i t q
    split at hs
    ·rename_i b hb
     cases b with
     |true=>exact H7 hi (ha.known hb) (hd.known (dv:=.t) rfl) (hs.yes rfl) go
     |false=>exact H7 hi (ha.known hb) (hd.known (dv:=.f) rfl) (hs.no rfl) go
    ·exact hs.elim
end Go.Lift
namespace Go.Lift
open Go
theorem Ba(m i:Nat):tb m i=m.testBit i:=by
 have h:jl (Nat.shiftRight m i) 1=(m>>>i)&&&1:=rfl;unfold tb;rw[h,Nat.testBit_eq_decide_div_mod_eq,Nat.and_one_is_mod,Nat.shiftRight_eq_div_pow];cases hm:decide (m/2^i%2=1)with
 |true=>rw[of_decide_eq_true hm];rfl
 |false=>
  have a:=of_decide_eq_false hm;have:m/2^i%2=0:=by omega
  rw[this];rfl
theorem nU(a b i:Nat):(cS a b).testBit i=(a.testBit i||b.testBit i):=Nat.testBit_or a b i
theorem AC(i j:Nat):(gn i).testBit j=decide (i=j):=Nat.testBit_two_pow
theorem Df{a b:Nat}(h:av (jl a b) 0=true)(t:Nat)(c:a.testBit t=true)(d:b.testBit t=true):False:=by
 have e:=aS h;have:(jl a b).testBit t=(a.testBit t&&b.testBit t):=ry a b t;rw[e,c,d]at this;simp at this
theorem U0{a b:Nat}(h:av (jl a b) a=true)(t:Nat)(c:a.testBit t=true):b.testBit t=true:=by
 have d:=aS h;have:(jl a b).testBit t=(a.testBit t&&b.testBit t):=ry a b t;rw[d,c]at this;simpa using this.symm
theorem zE(i:Nat):∀l:List Edge,(mq l).testBit i=l.any fun e=>av e.on i&&Region.binds .any e
 | []=>mB i
 |e::l=>by
  have b:=zE i l;have hc:mq (e::l)=bif Region.binds .any e then cS (gn e.on) (mq l)else mq l:=rfl;rw[hc,List.any_cons,←b];cases hb:Region.binds .any e with
  |true=>
   rw[cond_true,nU,AC,Bool.and_true];congr 1
   cases hd:av e.on i with
   |true=>simpa using aS hd
   |false=>rw[decide_eq_false_iff_not];intro a;rw[a]at hd;simp at hd
  |false=>simp
theorem BO(o:Oper)(i:Nat):(mq o.after.toList).testBit i=iC o i:=zE i o.after.toList
theorem A9(t:Nat):∀l:List Operand,(lC l).testBit t=true↔Operand.tmp t∈l
 | []=>by simp[show lC []=0 from rfl]
 |o::l=>by
  have a:=A9 t l;cases o with
  |tmp u=>
   have hc:lC (.tmp u::l)=cS (gn u) (lC l):=rfl;rw[hc,nU,AC,iU,a,aA];simp[eq_comm]
  |const v=>
   have hc:lC (.const v::l)=lC l:=rfl;rw[hc,a,aA];simp
  |global v=>
   have hc:lC (.global v::l)=lC l:=rfl;rw[hc,a,aA];simp
  |func v=>
   have hc:lC (.func v::l)=lC l:=rfl;rw[hc,a,aA];simp
theorem xY(o:Oper)(t:Nat):(nF o).testBit t=true↔o.dst=some t:=by
 unfold nF;cases o.dst with
 |none=>simp
 |some d=>simp[AC]
theorem Hq(ops:Array Oper)(o:Oper)(t:Nat):(nX ops.toList o).testBit t=true↔t∈o.looksAt ops:=by
 unfold nX Oper.looksAt;rw[nU,iU,A9,List.mem_append,List.mem_filterMap];refine or_congr ⟨fun h=>⟨_,h,rfl⟩,?_⟩ ?_
 ·rintro⟨x,hx,b⟩
  cases x<;>simp at b
  subst b;exact hx
 ·cases hg:o.guard with
  |none=>simp
  |some g=>
   obtain⟨j,a⟩:=g;simp only[aV];cases hj:ops[j]? with
   |none=>simp
   |some oj=>simp[xY]
variable {P:Program} {ro:Option Nat} {n:Nat} {ops:Array Oper} {Q:Exit→Act→World→Prop}
structure MsOk(ops:Array Oper)(ms:List DM):Prop where
 am:∀(i:Nat) (o:Oper) (m:DM),ops[i]? =some o→ms[i]? =some m→∀j,m.am.testBit j=iC o j
 lk:∀(i:Nat) (o:Oper) (m:DM),ops[i]? =some o→ms[i]? =some m→∀t,m.lk.testBit t=true↔t∈o.looksAt ops
 ds:∀(i:Nat) (o:Oper) (m:DM),ops[i]? =some o→ms[i]? =some m→∀t,m.ds.testBit t=true↔o.dst=some t
 len:ms.length=ops.size
 free:∀(i j:Nat) (m k:DM),ms[i]? =some m→ms[j]? =some k→m.fr.testBit j=true→j=i∨k.am.testBit i=true∨Dg m k=true
 nosel:∀(i:Nat) (o:Oper),ops[i]? =some o→(∀cs b,o.op≠ .select cs b)∧(∀c,o.op≠ .defer c)
theorem Bo(ops:List Oper):∀(l:List Oper) (ms:List DM),xz ops l ms=true→ms.length=l.length∧∀(i:Nat) (o:Oper) (m:DM),l[i]? =some o→ms[i]? =some m→
  m.am=mq o.after.toList∧m.lk=nX ops o∧m.ds=nF o
 | [],[],_=>⟨rfl,fun i o m h=>by simp at h⟩
 | [],_::_,h=>by cases h
 |o::l,[],h=>by cases h
 |o::l,m::ms,h=>by
  have hc:xz ops (o::l) (m::ms)=(av (mq o.after.toList) m.am&&av (nX ops o) m.lk&&av (nF o) m.ds&&xz ops l ms):=rfl;rw[hc]at h;simp only[aX]at h;obtain⟨⟨⟨b,k⟩,c⟩,d⟩:=h;obtain⟨g,j⟩:=Bo ops l ms d;refine⟨by simp[g],fun i e f a hm=>?_⟩
  cases i with
  |zero=>
   simp only[dh,bh.injEq]at a hm;subst a;subst hm;exact⟨(aS b).symm,(aS k).symm,(aS c).symm⟩
  |succ i=>exact j i e f (by simpa using a) (by simpa using hm)
theorem IR(i:Nat)(m:DM):∀(l:List DM) (j0:Nat),IS i m l j0=true→∀(j:Nat) (k:DM),l[j]? =some k→m.fr.testBit (j0+j)=true→j0+j=i∨k.am.testBit i=true∨Dg m k=true
 | [],j0,_,j,k,hk,_=>by simp at hk
 |x::l,j0,h,j,k,hk,hb=>by
  have hc:IS i m (x::l) j0=((!(tb m.fr j0)||av j0 i||tb x.am i||Dg m x)&&IS i m l (fq j0)):=rfl
  rw[hc]at h;simp only[aX,iU,pp,Ba]at h;cases j with
  |zero=>
   simp only[dh,bh.injEq]at hk;subst hk;simp only[Nat.add_zero]at hb⊢;rcases h.1 with((a|a)|a)|a
   ·rw[a]at hb;cases hb
   ·exact .inl (aS a)
   ·exact .inr (.inl a)
   ·exact .inr (.inr a)
  |succ j=>
   have:=IR i m l (j0+1) h.2 j k (by simpa using hk) (by rw[show j0+1+j=j0+(j+1) by omega];exact hb)
   rw[show j0+1+j=j0+(j+1) by omega]at this
   exact this
theorem DS(a:List DM):∀(l:List DM) (i0:Nat),Bz a l i0=true→∀(i:Nat) (m:DM),l[i]? =some m→IS (i0+i) m a 0=true
 | [],i0,_,i,m,hm=>by simp at hm
 |x::l,i0,h,i,m,hm=>by
  have hc:Bz a (x::l) i0=(IS i0 x a 0&&Bz a l (fq i0)):=rfl;rw[hc,aX]at h;cases i with
  |zero=>simp only[dh,bh.injEq]at hm;subst hm;exact h.1
  |succ i=>
   have:=DS a l (i0+1) h.2 i m (by simpa using hm);rw[show i0+1+i=i0+(i+1) by omega]at this
   exact this
theorem Ix:∀(l:List Oper),LL l=true→∀o∈l,(∀cs b,o.op≠ .select cs b)∧(∀c,o.op≠ .defer c)
 | [],_,o,a=>by cases a
 |x::l,h,o,a=>by
  simp only[LL,aX]at h;rcases aA.1 a with rfl|a
  ·refine⟨fun cs b e=>?_,fun c e=>?_⟩
   ·rw[e]at h;cases h.1
   ·rw[e]at h;cases h.1
  ·exact Ix l h.2 o a
theorem NH{ms:List DM}(h:E0 ops.toList ms=true):MsOk ops ms:=by
 have hc:E0 ops.toList ms=(xz ops.toList ops.toList ms&&Bz ms ms 0&&LL ops.toList):=rfl;rw[hc]at h;simp only[aX]at h;obtain⟨⟨c,g⟩,d⟩:=h;obtain⟨f,b⟩:=Bo ops.toList ops.toList ms c;refine⟨fun i o m a hm j=>?_,fun i o m a hm t=>?_,fun i o m a hm t=>?_,by simpa using f,fun i j m k hm e n=>?_,fun i o a=>?_⟩
 ·rw[(b i o m (by simpa using a) hm).1,BO]
 ·rw[(b i o m (by simpa using a) hm).2.1,Hq]
 ·rw[(b i o m (by simpa using a) hm).2.2,xY]
 ·have:=DS ms ms 0 g i m hm
  rw[aI]at this;have:=IR i m ms 0 this j k e (by rwa [aI]);rwa [aI]at this
 ·exact Ix _ d o (bC (by rw[aV];exact a))
theorem Ty{ms:List DM}(hm:MsOk ops ms){i j:Nat}{a c:Oper}{g f:DM}(hi:ops[i]? =some a) (k:ops[j]? =some c) (e:ms[i]? =some g) (b:ms[j]? =some f) (h:Dg g f=true):
  (∀d,a.dst=some d→d∉c.looksAt ops)∧(∀d,a.dst=some d→c.dst≠some d)∧(∀d,c.dst=some d→d∉a.looksAt ops):=by
 unfold Dg at h;rw[aX]at h;refine⟨fun d hd m=>?_,fun d hd n=>?_,fun d hd m=>?_⟩
 ·exact Df h.1 d ((hm.ds i a g hi e d).2 hd) (by rw[nU,(hm.lk j c f k b d).2 m,Bool.true_or])
 ·exact Df h.1 d ((hm.ds i a g hi e d).2 hd) (by rw[nU,(hm.ds j c f k b d).2 n,Bool.or_true])
 ·exact Df h.2 d ((hm.ds j c f k b d).2 hd) ((hm.lk i a g hi e d).2 m)
structure LsRel(ops:Array Oper)(ls:Nat)(listed:Array Bool):Prop where
 size:listed.size=ops.size
 bit:∀j,listed.getD j false=ls.testBit j
theorem LsRel.start:LsRel ops 0 (iW ops.size false):=⟨by simp,fun j=>by
 rw[mB,cW]
 by_cases h:j<ops.size<;>simp[h]⟩
theorem LsRel.put{ls:Nat}{listed:Array Bool}(h:LsRel ops ls listed){i:Nat}(hi:i<ops.size):LsRel ops (cS ls (gn i)) (listed.setIfInBounds i true):=by
 refine⟨by simp[h.size],fun j=>?_⟩
 rw[nU,AC,←h.bit];by_cases e:i=j
 ·subst e;simp[h.size,hi]
 ·simp[e,eC e]
theorem LsRel.unlisted{ls:Nat}{listed:Array Bool}(h:LsRel ops ls listed){i:Nat}(hi:i<ops.size):listed.getD i true=ls.testBit i:=by
 rw[←h.bit];have:i<listed.size:=by rw[h.size];exact hi
 simp[this]
theorem Il{ms:List DM}(hm:MsOk ops ms){ls:Nat}{listed:Array Bool}(h:LsRel ops ls listed){j:Nat}:j∈Region.ready .any ops listed↔∃m,ms[j]? =some m∧ls.testBit j=false∧Im m ls=true:=by
 rw[mem_ready];constructor
 ·rintro⟨k,o,n,c⟩
  have a:j<ops.size:=(cd.1 n).1;have f:j<ms.length:=by rw[hm.len];exact a
  refine⟨ms[j],ag f,by rw[←h.unlisted a];exact k,?_⟩
  unfold Im;have:jl (ms[j]).am ls=(ms[j]).am:=by
   apply Nat.eq_of_testBit_eq;intro t;have g:(jl (ms[j]).am ls).testBit t=((ms[j]).am.testBit t&&ls.testBit t):=ry _ _ t;rw[g];cases ht:(ms[j]).am.testBit t with
   |false=>rfl
   |true=>
    rw[hm.am j o _ n (ag f)]at ht;unfold iC at ht;obtain⟨e,i,b⟩:=bZ.1 ht;simp only[aX]at b;have:=c e (by simpa using i) b.2;rw[aS b.1,h.bit]at this;rw[this];rfl
  rw[this];exact sq _
 ·rintro⟨m,d,k,p⟩
  have a:j<ops.size:=by rw[←hm.len];exact(aQ.1 d).1
  refine⟨by rw[h.unlisted a];exact k,ops[j],fZ a,fun e i b=>?_⟩
  rw[h.bit];refine U0 p e.on ?_;rw[hm.am j _ m (fZ a) d];unfold iC;exact bZ.2 ⟨e,by simpa using i,by simp[b]⟩
theorem sD(ls:Nat):∀(l:List DM) (j0 j:Nat),j∈lI ls l j0↔∃k m,l[k]? =some m∧j=j0+k∧ls.testBit j=false∧Im m ls=true
 | [],j0,j=>by simp[show lI ls [] j0= []from rfl]
 |m::l,j0,j=>by
  have hc:lI ls (m::l) j0=bif !(tb ls j0)&&Im m ls then j0::lI ls l (fq j0)else lI ls l (fq j0):=rfl;have e:=sD ls l (j0+1) j;rw[hc,Ba];have step:(∃k c,(m::l)[k]? =some c∧j=j0+k∧ls.testBit j=false∧Im c ls=true)↔(j=j0∧ls.testBit j0=false∧Im m ls=true)∨j∈lI ls l (j0+1):=by
   rw[e];constructor
   ·rintro⟨k,c,d,rfl,a,b⟩
    cases k with
    |zero=>simp only[dh,bh.injEq]at d;subst d;exact .inl ⟨rfl,a,b⟩
    |succ k=>exact .inr ⟨k,c,by simpa using d,by omega,a,b⟩
   ·rintro(⟨rfl,a,b⟩|⟨k,c,d,rfl,a,b⟩)
    ·exact⟨0,m,rfl,rfl,a,b⟩
    ·exact⟨k+1,c,by simpa using d,by omega,a,b⟩
  rw[step];cases hb:(!(ls.testBit j0)&&Im m ls)with
  |true=>
   simp only[aX,pp]at hb;rw[cond_true,aA];simp[hb.1,hb.2]
  |false=>
   rw[cond_false];constructor
   ·exact .inr
   ·rintro(⟨_,a,b⟩|h)
    ·rw[a,b]at hb;cases hb
    ·exact h
theorem ma{ms:List DM}(hm:MsOk ops ms){ls:Nat}{listed:Array Bool}(h:LsRel ops ls listed){j:Nat}:j∈Region.ready .any ops listed↔j∈lI ls ms 0:=by
 rw[Il hm h,sD];constructor
 ·rintro⟨m,a,c,b⟩;exact⟨j,m,a,by omega,c,b⟩
 ·rintro⟨k,m,a,rfl,c,b⟩;exact⟨m,by simpa using a,c,b⟩
theorem yF:∀{a b:List Nat},wa a b=true→a=b
 | [],[],_=>rfl
 | [],_::_,h=>by cases h
 |_::_,[],h=>by cases h
 |a::as,b::bs,h=>by
  simp only[wa,aX]at h;rw[aS h.1,yF h.2]
end Go.Lift
namespace Go.Lift
open Go
variable {P:Program} {ro:Option Nat} {n:Nat} {ops:Array Oper} {Q:Exit→Act→World→Prop}
theorem A7{m:Nat}{p:Nat→Bool}(hm:∀j,m.testBit j=true→p j=true):∀(l:List DM) (j0:Nat),(∀j x,l[j]? =some x→p (j0+j)=true→∀k,x.am.testBit k=true→p k=true)→∀k,(QW m l j0).testBit k=true→p k=true
 | [],_,_,k,h=>hm k h
 |x::l,j0,hl,k,h=>by
  have hc:QW m (x::l) j0=bif tb m j0 then cS x.am (QW m l (fq j0))else QW m l (fq j0):=rfl;have a:=A7 hm l (j0+1) (fun j y b c=>hl (j+1) y (by simpa using b) (by rw[show j0+(j+1)=j0+1+j by omega];exact c)) k
  rw[hc,Ba]at h;cases hb:m.testBit j0 with
  |true=>
   rw[hb,cond_true,nU,iU]at h;rcases h with h|h
   ·exact hl 0 x rfl (hm _ hb) k h
   ·exact a h
  |false=>
   rw[hb,cond_false]at h;exact a h
theorem A6{m k:Nat}(h:m.testBit k=true):∀(l:List DM) (j0:Nat),(QW m l j0).testBit k=true
 | [],_=>h
 |x::l,j0=>by
  have hc:QW m (x::l) j0=bif tb m j0 then cS x.am (QW m l (fq j0))else QW m l (fq j0):=rfl;have a:=A6 h l (j0+1);rw[hc];cases tb m j0 with
  |true=>rw[cond_true,nU,iU];exact .inr a
  |false=>exact a
def Shut(ms:List DM)(listed:Array Bool):Prop:=∀j x,ms[j]? =some x→listed.getD j false=true→∀k,x.am.testBit k=true→listed.getD k false=true
theorem QC{ms:List DM}{listed:Array Bool}(c:Shut ms listed){m:Nat}(hm:∀j,m.testBit j=true→listed.getD j false=true){k:Nat}(h:(BG ms m).testBit k=true):listed.getD k false=true:=by
 have a:∀j x,ms[j]? =some x→(fun k=>listed.getD k false) (0+j)=true→∀k,x.am.testBit k=true→(fun k=>listed.getD k false) k=true:=fun j x hx b=>c j x hx (by rw[aI]at b;exact b)
 unfold BG at h;exact A7 (p:=fun k=>listed.getD k false) (A7 (A7 (A7 hm ms 0 a) ms 0 a) ms 0 a) ms 0 a k h
theorem I7{ms:List DM}{m k:Nat}(h:m.testBit k=true):(BG ms m).testBit k=true:=by
 unfold BG;exact A6 (A6 (A6 (A6 h ms 0) ms 0) ms 0) ms 0
noncomputable abbrev MO(ms:List DM)(i:Nat)(L:rt):rt:=Bh (BG ms (Kq ms i)) L
theorem jI{m:Nat}{x:Nat×(ad→Prop)}:∀{L:rt},x∈Bh m L↔x∈L∧tb m x.1=false
 | []=>by simp[Bh]
 |(k,S)::L=>by
  have b:=jI (m:=m) (x:=x) (L:=L);simp only[Bh];cases hk:tb m k with
  |true=>
   rw[cond_true,b,aA];constructor
   ·exact fun h=>⟨.inr h.1,h.2⟩
   ·rintro⟨h|h,a⟩
    ·subst h;rw[hk]at a;cases a
    ·exact⟨h,a⟩
  |false=>
   rw[cond_false,aA,b,aA];constructor
   ·rintro(h|h)
    ·subst h;exact⟨.inl rfl,hk⟩
    ·exact⟨.inr h.1,h.2⟩
   ·rintro⟨h|h,a⟩
    ·exact .inl h
    ·exact .inr ⟨h,a⟩
def Ra(ms:List DM)(ro:Option Nat)(n:Nat)(P:Program)(ops:Array Oper)(Q:Exit→Act→World→Prop):Nat→rt→Array Bool→Act→World→Prop
 |0,_,listed,a,w=>Region.ready .any ops listed= []∧Q .normal a w
 |f+1,L,listed,a,w=>(Region.ready .any ops listed= []→Q .normal a w)∧
  ∀i∈Region.ready .any ops listed,∀o,ops[i]? =some o→
   wpOpIn (FW ro) n P ops Q i (fun a' w'=>(∀x∈MO ms i L,x.2 w'.heap)∧Ra ms ro n P ops Q f (MO ms i L) (listed.setIfInBounds i true) a' w') a w
theorem xx{o:Oper}{x:Nat×(ad→Prop)}:∀{L:rt},x∈oB o L↔x∈L∧iC o x.1=false
 | []=>by simp[oB]
 |(k,S)::L=>by
  have b:=xx (o:=o) (x:=x) (L:=L);simp only[oB];cases hk:iC o k with
  |true=>
   rw[cond_true,b,aA];constructor
   ·exact fun h=>⟨.inr h.1,h.2⟩
   ·rintro⟨h|h,a⟩
    ·subst h;rw[hk]at a;cases a
    ·exact⟨h,a⟩
  |false=>
   rw[cond_false,aA,b,aA];constructor
   ·rintro(h|h)
    ·subst h;exact⟨.inl rfl,hk⟩
    ·exact⟨.inr h.1,h.2⟩
   ·rintro⟨h|h,a⟩
    ·exact .inl h
    ·exact .inr ⟨h,a⟩
theorem PP{listed:Array Bool}{i:Nat}(h:i∈Region.ready .any ops listed):∃o,ops[i]? =some o:=by
 obtain⟨_,o,a,_⟩:=mem_ready.1 h;exact⟨o,a⟩
theorem OQ{ms:List DM}:∀(f:Nat) (L:rt) (listed:Array Bool) (a:Act) (w:World),Ra ms ro n P ops Q f L listed a w→wpAnyIn (FW ro) n P .any ops Q f listed a w
 |0,_,_,_,_,h=>h
 |f+1,L,listed,a,w,h=>⟨h.1,fun i hi=>by
  obtain⟨o,b⟩:=PP hi
  exact wpOpIn_mono (fun a' w' h'=>OQ f _ _ a' w' h'.2) (h.2 i hi o b)⟩
theorem vj{ms:List DM}:∀(f:Nat) (L L':rt) (listed:Array Bool) (a:Act) (w:World),(∀x∈L',x∈L∨∀h,x.2 h)→Ra ms ro n P ops Q f L listed a w→Ra ms ro n P ops Q f L' listed a w
 |0,_,_,_,_,_,_,h=>h
 |f+1,L,L',listed,a,w,hs,h=>⟨h.1,fun i hi o c=>by
  have b:∀x∈MO ms i L',x∈MO ms i L∨∀h,x.2 h:=fun x hx=>(hs x (jI.1 hx).1).imp (fun h=>jI.2 ⟨h,(jI.1 hx).2⟩) id
  exact wpOpIn_mono (fun a' w' h'=>⟨fun x hx=>(b x hx).elim (h'.1 x) fun h=>h _,vj f _ _ _ a' w' b h'.2⟩) (h.2 i hi o c)⟩
def YG(P:Program)(ops:Array Oper)(S:ad→Prop)(o:Oper)(v:Value)(a:Act):Prop:=
 (Region.wanted o (yielded ops a.tmps)=true∧∀w:World,S w.heap→(execOp a.eval o).run P w=.ok (.value v) w)∨
 (Region.wanted o (yielded ops a.tmps)=false∧v=undef)
theorem YG.wpOp{S:ad→Prop}{i:Nat}{o:Oper}{v:Value}{a:Act}(hi:ops[i]? =some o) (hd:∀c,o.op≠ .defer c) (f:YG P ops S o v a) {K:Act→World→Prop} {w:World} (e:S w.heap)
  (h:K (a.put o.dst v) w):wpOpIn (FW ro) n P ops Q i K a w:=by
 unfold wpOpIn;simp only[hi];rcases f with⟨b,d⟩|⟨b,rfl⟩
 ·simp only[b,if_true]
  refine⟨fun _ _=>trivial,?_⟩
  rw[Oper.semAt_eq _ _ _ hd,d w e];exact h
 ·simp only[b,Bool.false_eq_true,if_false];exact⟨fun _ _=>trivial,h⟩
theorem YG.of_same{S:ad→Prop}{o:Oper}{v:Value}{a a':Act}(c:YG P ops S o v a)(d:execOp a'.eval o=execOp a.eval o)
  (b:Region.wanted o (yielded ops a'.tmps)=Region.wanted o (yielded ops a.tmps)):YG P ops S o v a':=by
 unfold YG at*;rw[d,b];exact c
theorem MS{S:ad→Prop}{j:Nat}{g i:Oper}{v:Value}(D:ops[j]? =some i)
  (A:(∀d,g.dst=some d→d∉i.looksAt ops)∧(∀d,g.dst=some d→i.dst≠some d)∧(∀d,i.dst=some d→d∉g.looksAt ops))
  (t:∀cs b,g.op≠ .select cs b) (z:∀cs b,i.op≠ .select cs b) (q:∀c,i.op≠ .defer c)
  (C:∀e a w,(∀c,e=.panic c→False)∨¬Q e a w) {K:Act→World→Prop} {a:Act} {w:World}
  (m:YG P ops S g v a) (h:wpOpIn (FW ro) n P ops Q j K (a.put g.dst v) w):
  wpOpIn (FW ro) n P ops Q j (fun a' w'=>YG P ops S g v a'∧K (a'.put g.dst v) w') a w:=by
 obtain⟨B,p,y⟩:=A;have o:∀c a w,¬Q (.panic c) a w:=fun c a w E=>(C (.panic c) a w).elim (fun h=>h c rfl) fun h=>h E
 have keep:∀(a:Act),YG P ops S g v a→∀u,YG P ops S g v (a.put i.dst u):=fun a m u=>
  m.of_same (execOp_put g t a i.dst u y) (wanted_put g a i.dst u y)
 unfold wpOpIn at*;simp only[D]at*;rw[wanted_put i a g.dst v B]at h;split
 ·rename_i hw
  simp only[hw,if_true]at h;refine⟨fun _ _=>trivial,?_⟩
  have h:=h.2;rw[Oper.semAt_eq _ _ _ q,execOp_put i z a g.dst v B]at h;rw[Oper.semAt_eq _ _ _ q];generalize (execOp a.eval i).run P w=r at*;cases r with
  |ok x w'=>
   cases x<;>simp only[Oper.uponIn]at h⊢
   case value u=>exact⟨keep a m u,by rw[←Act.put_comm a v u p];exact h⟩
   case skip=>exact⟨keep a m _,by rw[←Act.put_comm a v undef p];exact h⟩
   case defer d=>
    refine⟨(m.of_same (a':={a with defers:=d::a.defers}) rfl rfl).of_same (execOp_put g t _ i.dst undef y) (wanted_put g _ i.dst undef y),?_⟩;rw[←Act.put_comm _ v undef p,←Act.put_defers];exact h
   case enter f args=>
    refine⟨h.1,CallsIn.mono h.2 fun e s k=>?_⟩
    cases e with
    |returned u=>exact⟨keep a m u,by rw[←Act.put_comm a v u p];exact k⟩
    |panicked c=>exact(o _ _ _ k).elim
    |outgrown=>exact k
   case row row args=>exact⟨h.1,RowsIn.mono h.2 fun u s k=>⟨keep a m u,by rw[←Act.put_comm a v u p];exact k⟩⟩
   case round l f tmps assign body=>
    refine⟨h.1,RoundIn.mono h.2 fun e s k=>?_⟩
    cases e with
    |returned u=>exact⟨keep a m u,by rw[←Act.put_comm a v u p];exact k⟩
    |panicked c=>exact(o _ _ _ k).elim
    |outgrown=>exact k
  |halt x w'=>
   cases x<;>simp only[Oper.uponIn]at h⊢
   case panic u=>exact(o _ _ _ h).elim
 ·rename_i hw
  simp only[hw]at h;exact⟨fun _ _=>trivial,keep a m _,by rw[←Act.put_comm a v undef p];exact h.2⟩
theorem Kp{ms:List DM}(hm:MsOk ops ms){i:Nat}{o:Oper}(a:ops[i]? =some o) (k:Nat):(Kq ms i).testBit k=iC o k:=by
 have hi:i<ms.length:=by rw[hm.len];exact(cd.1 a).1
 unfold Kq;rw[ag hi];exact hm.am i o _ a (ag hi) k
theorem Lr{ms:List DM}(hm:MsOk ops ms){listed:Array Bool}{j:Nat}(f:j∈Region.ready .any ops listed)(k:Nat)(c:(Kq ms j).testBit k=true):listed.getD k false=true:=by
 obtain⟨_,o,g,a⟩:=mem_ready.1 f;rw[Kp hm g]at c;unfold iC at c;obtain⟨e,d,b⟩:=bZ.1 c;simp only[aX]at b;have:=a e (by simpa using d) b.2;rw[aS b.1]at this;exact this
theorem L0{listed:Array Bool}{j k:Nat}(h:listed.getD k false=true):(listed.setIfInBounds j true).getD k false=true:=by
 by_cases e:j=k
 ·subst e
  rw[cW]at h⊢;rcases co j listed.size with h'|h'
  ·simp[h']
  ·simp[kH h']at h
 ·rw[cW,eC e,←cW]
  exact h
theorem Shut.put{ms:List DM}(hm:MsOk ops ms){listed:Array Bool}(d:Shut ms listed){j:Nat}(c:j∈Region.ready .any ops listed):Shut ms (listed.setIfInBounds j true):=by
 intro i x hx b k a;by_cases e:j=i
 ·subst e
  refine L0 (Lr hm c k ?_);unfold Kq;rw[hx];exact a
 ·rw[cW,eC e,←cW]at b
  exact L0 (d i x hx b k a)
theorem E8{ms:List DM}(hm:MsOk ops ms){S:ad→Prop}{i:Nat}{u:Oper}{v:Value}(hi:ops[i]? =some u) (m:∀(j:Nat) (o:Oper),ops[j]? =some o→(∀cs b,o.op≠ .select cs b)∧(∀c,o.op≠ .defer c))
  (hQ:∀e a w,(∀c,e=.panic c→False)∨¬Q e a w):
  ∀(p:Nat) (L:rt) (listed:Array Bool) (a:Act) (w:World),
   (∀j t,ops[j]? =some t→j≠i→listed.getD j true=false→iC t i=false→
    (∀d,u.dst=some d→d∉t.looksAt ops)∧(∀d,u.dst=some d→t.dst≠some d)∧(∀d,t.dst=some d→d∉u.looksAt ops))→
   Shut ms listed→i∈Region.ready .any ops listed→YG P ops S u v a→S w.heap→(∀x∈L,x.2 w.heap)→
   Ra ms ro n P ops Q p ((i,S)::L) (listed.setIfInBounds i true) (a.put u.dst v) w→Ra ms ro n P ops Q (p+1) L listed a w:=by
 intro p;induction p with
 |zero=>
  intro L listed a w _ _ C U V Y H;refine⟨fun h=>(by rw[h]at C;cases C),fun j F t f=>?_⟩
  by_cases g:j=i
  ·subst g
   rw[hi]at f;cases f;exact U.wpOp hi (m _ _ hi).2 V ⟨fun x hx=>Y x (jI.1 hx).1,H⟩
  ·have:=ready_mono F g
   rw[H.1]at this;cases this
 |succ p ih=>
  intro L listed a w s N C U V Y H;refine⟨fun h=>(by rw[h]at C;cases C),fun j F t f=>?_⟩
  by_cases g:j=i
  ·subst g
   rw[hi]at f;cases f;exact U.wpOp hi (m _ _ hi).2 V ⟨fun x hx=>Y x (jI.1 hx).1,vj _ _ _ _ _ _ (fun x hx=>.inl (bj _ (jI.1 hx).1)) H⟩
  ·have q:=H.2 j (ready_mono F g) t f
   obtain⟨A,Z,B,K⟩:=mem_ready.1 F;rw[f]at B;cases B;have I:iC t i=false:=by
    cases z:iC t i with
    |false=>rfl
    |true=>
     unfold iC at z;obtain⟨e,he,z⟩:=bZ.1 z;simp only[aX]at z;have q:=K e (by simpa using he) z.2;rw[aS z.1]at q;have G:=(mem_ready.1 C).1;rcases co i listed.size with h'|h'
     ·simp[h']at G q;rw[G]at q;cases q
     ·simp[kH h']at q
   have E:tb (BG ms (Kq ms j)) i=false:=by
    cases z:tb (BG ms (Kq ms j)) i with
    |false=>rfl
    |true=>
     rw[Ba]at z;have q:=QC N (Lr hm F) z;have G:=(mem_ready.1 C).1;rcases co i listed.size with h'|h'
     ·simp[h']at G q;rw[G]at q;cases q
     ·simp[kH h']at q
   have R:MO ms j ((i,S)::L)=(i,S)::MO ms j L:=by simp only[MO,Bh,E,cond_false]
   rw[R]at q;have h2:=MS f (s j t f g A I) (m _ _ hi).1 (m _ _ f).1 (m _ _ f).2 hQ U q;have y:∀k D,ops[k]? =some D→k≠i→(listed.setIfInBounds j true).getD k true=false→iC D i=false→
     (∀d,u.dst=some d→d∉D.looksAt ops)∧(∀d,u.dst=some d→D.dst≠some d)∧(∀d,D.dst=some d→d∉u.looksAt ops):=fun k D hk W T X=>by
    refine s k D hk W ?_ X;by_cases O:j=k
    ·subst O;exact A
    ·rw[getD_set_ne true O]at T;exact T
   refine wpOpIn_mono (fun a' w' J=>⟨fun x hx=>J.2.1 x (bj _ hx),ih (MO ms j L) (listed.setIfInBounds j true) a' w' y (N.put hm F) (ready_mono C (Ne.symm g)) J.1 (J.2.1 _ (aU ..)) (fun x hx=>J.2.1 x (bj _ hx)) ?_⟩) h2
   rw[Array.setIfInBounds_comm _ _ g];exact J.2.2
theorem rZ{h:ad}{R:Prop}:∀{L:rt},sI L h R↔(∀x∈L,x.2 h)∧R
 | []=>by simp[sI]
 |(k,S)::L=>by
  simp only[sI,rZ (L:=L),aA,forall_eq_or_imp,and_assoc]
theorem Q9{ms:List DM}{f:Nat}{L:rt}{listed:Array Bool}{a:Act}{w:World}(b:Region.ready .any ops listed= [])(h:Q .normal a w):Ra ms ro n P ops Q f L listed a w:=by
 cases f with
 |zero=>exact⟨b,h⟩
 |succ f=>exact⟨fun _=>h,by rw[b];simp⟩
def left(ops:Array Oper)(ls:Nat):Nat:=((ee ops.size).filter fun j=> !ls.testBit j).length
theorem xB{ls i:Nat}(hi:i<ops.size)(f:ls.testBit i=false):left ops (cS ls (gn i))+1=left ops ls:=by
 have key:∀l:List Nat,l.Nodup→i∈l→(l.filter fun j=> !(cS ls (gn i)).testBit j).length+1=(l.filter fun j=> !ls.testBit j).length:=by
  intro l;induction l with
  |nil=>intro _ h;cases h
  |cons x l ih=>
   intro b hm;rw[List.nodup_cons]at b;by_cases hx:x=i
   ·subst hx
    have a:(l.filter fun j=> !(cS ls (gn x)).testBit j)=l.filter fun j=> !ls.testBit j:=by
     apply List.filter_congr;intro y g;have:x≠y:=fun e=>b.1 (e▸g)
     rw[nU,AC,decide_eq_false this,Bool.or_false]
    have c:(cS ls (gn x)).testBit x=true:=by rw[nU,AC];simp
    rw[dy,dy,c,f,a];rfl
   ·have d:i∈l:=by rcases aA.1 hm with h|h;exact absurd h.symm hx;exact h
    have c:(cS ls (gn i)).testBit x=ls.testBit x:=by rw[nU,AC,decide_eq_false (Ne.symm hx),Bool.or_false]
    have:=ih b.2 d;rw[dy,dy,c];cases ls.testBit x with
    |true=>exact this
    |false=>exact congrArg (· +1) this
 exact key _ List.nodup_range (List.mem_range.2 hi)
theorem Qn{N:Nat}{a:List Oper}{ms:List DM}{ls:Nat}{L:rt}{d:vP}{K:cB→ad→Prop}{r:cB}{b:ad}:∀{l:DA},mY P N a ms l true ls L d K r b→∃i,i∈C6 l
 | .done,h=>h.elim
 | .take i rest,h=>by
  exfalso;have hc:mY P N a ms (.take i rest) true ls L d K r b=(match a[i]?,ms[i]? with|some _,some _=>False|_,_=>False):=rfl
  rw[hc]at h;split at h<;>exact h
 | .all _,h=>h.elim
 | .pick i _ _,_=>⟨i,aU ..⟩
 | .last i _,_=>⟨i,aU ..⟩
 | .lastT i _,_=>⟨i,aU ..⟩
 | .split ..,h=>h.elim
def OF(ro:Option Nat)(n:Nat)(P:Program)(ops:Array Oper)(Q:Exit→Act→World→Prop)(N:Nat)(ms:List DM)(W:Nat→Prop)(e:Act)(c:World)(K:cB→ad→Prop)(b:DA):Prop:=
 ∀(m:Bool) (ls:Nat) (L:rt) (d:vP) (r:cB) (a:Act) (w:World) (listed:Array Bool) (fuel:Nat),
  mY P N ops.toList ms b m ls L d K r w.heap→Agree N r a→DecOk d r→Fr W e c a w→LsRel ops ls listed→Shut ms listed→(∀x∈L,x.2 w.heap)→
  (m=false→left ops ls≤fuel→Ra ms ro n P ops Q fuel L listed a w)∧
  (m=true→left ops ls≤fuel+1→∀i∈C6 b,i∈lI ls ms 0→∀o,ops[i]? =some o→
   wpOpIn (FW ro) n P ops Q i (fun a' w'=>(∀x∈MO ms i L,x.2 w'.heap)∧Ra ms ro n P ops Q fuel (MO ms i L) (listed.setIfInBounds i true) a' w') a w)
theorem Ll{N:Nat}{ms:List DM}(hm:MsOk ops ms){W:Nat→Prop}(hW:∀o∈ops.toList,∀d,o.dst=some d→W d){a0:Act}{w0:World}{K:cB→ad→Prop}
  (hQ:∀r a w,Agree N r a→Fr W a0 w0 a w→K r w.heap→Q .normal a w)(hnp:∀e a w,(∀c,e=.panic c→False)∨¬Q e a w)(da:DA):
  OF ro n P ops Q N ms W a0 w0 K da:=by
 have one:∀(i:Nat) (p:DA)
   (_:OF ro n P ops Q N ms W a0 w0 K p)
   (ls:Nat) (L:rt) (d:vP) (r:cB) (a:Act) (w:World) (listed:Array Bool) (g:Nat),
   PM P N ops.toList i L d r w.heap (fun L' d' E h'=>mY P N ops.toList ms p false (cS ls (gn i)) L' d' K E h')→Agree N r a→DecOk d r→Fr W a0 w0 a w→LsRel ops ls listed→Shut ms listed→
   left ops ls≤g+1→i∈lI ls ms 0→∀o,ops[i]? =some o→
    wpOpIn (FW ro) n P ops Q i (fun a' w'=>(∀x∈MO ms i L,x.2 w'.heap)∧Ra ms ro n P ops Q g (MO ms i L) (listed.setIfInBounds i true) a' w') a w:=by
  intro i p X ls L d r a w listed g f B hd I C q z hr o y;have A:i<ops.size:=(cd.1 y).1;obtain⟨k,mm,hk,hki,O,_⟩:=(sD ls ms 0 i).1 hr;unfold PM at f;rw[aV,y]at f;simp only at f;cases hw:iA ops.toList d o with
  |none=>rw[hw]at f;exact f.elim
  |some b=>
   rw[hw]at f;cases b with
   |false=>exact f.elim
   |true=>
    simp only at f;cases hq:wR P o.op with
    |true=>
     rw[hq,cond_true]at f;unfold wpOpIn;rw[y];simp only[mW hw B hd,if_true];obtain⟨v,S,hK,hS,_,Y⟩:=CS B f d hd;refine qv (K:=fun u h'=>u=v∧h'=w.heap) (DL f) (.inl ⟨v,w,Y w hS,Tame.refl w,rfl,rfl⟩) ?_
     rintro u w' ht ⟨rfl,hw'⟩;obtain⟨E,J,H,G⟩:=tZ (dv:=.x) hK B hd trivial;obtain⟨hh,hs'⟩:=rZ.1 J;have D:o∈ops.toList:=bC (by rw[aV];exact y);have R:=xB A O;have F:∀x∈MO ms i L,x∈oB o L:=fun x hx=>xx.2 ⟨(jI.1 hx).1,by
      cases hb:iC o x.1 with
      |false=>rfl
      |true=>
        have:=(jI.1 hx).2
        rw[Ba,I7 (by rw[Kp hm y];exact hb)]at this;cases this⟩
     rw[←hw']at hh hs';exact⟨fun x hx=>hh x (F x hx),vj _ _ _ _ _ _ (fun x hx=>.inl (F x hx)) ((X false _ _ _ E _ w' _ g hs' H G (I.put (hW o D) u ht) (C.put A) (q.put hm ((ma hm C).2 hr)) hh).1 rfl (by omega))⟩
    |false=>
     rw[hq,cond_false]at f;unfold wpOpIn;rw[y];simp only[mW hw B hd,if_true];refine qv (xp f) (CI B f) ?_;intro v w' ht hK;obtain⟨E,J,H,G⟩:=tZ (dv:=.x) hK B hd trivial;obtain⟨hh,hs'⟩:=rZ.1 J;have D:o∈ops.toList:=bC (by rw[aV];exact y);have R:=xB A O;have F:∀x∈MO ms i L,x∈oB o L:=fun x hx=>xx.2 ⟨(jI.1 hx).1,by
      cases hb:iC o x.1 with
      |false=>rfl
      |true=>
        have:=(jI.1 hx).2
        rw[Ba,I7 (by rw[Kp hm y];exact hb)]at this;cases this⟩
     exact⟨fun x hx=>hh x (F x hx),vj _ _ _ _ _ _ (fun x hx=>.inl (F x hx)) ((X false _ _ _ E _ w' _ g hs' H G (I.put (hW o D) v ht) (C.put A) (q.put hm ((ma hm C).2 hr)) hh).1 rfl (by omega))⟩
 have oneT:∀(i:Nat) (p:DA)
   (_:OF ro n P ops Q N ms W a0 w0 K p)
   (ls:Nat) (L:rt) (d:vP) (r:cB) (a:Act) (w:World) (listed:Array Bool) (g:Nat),
   O4 P N ops.toList ms i L d r w.heap (fun L' d' E h'=>mY P N ops.toList ms p false (cS ls (gn i)) L' d' K E h')→Agree N r a→DecOk d r→Fr W a0 w0 a w→LsRel ops ls listed→Shut ms listed→
   left ops ls≤g+1→i∈lI ls ms 0→∀o,ops[i]? =some o→
    wpOpIn (FW ro) n P ops Q i (fun a' w'=>(∀x∈MO ms i L,x.2 w'.heap)∧Ra ms ro n P ops Q g (MO ms i L) (listed.setIfInBounds i true) a' w') a w:=by
  intro i p X ls L d r a w listed g f B hd I C q z hr o y;have A:i<ops.size:=(cd.1 y).1;obtain⟨k,mm,hk,hki,O,_⟩:=(sD ls ms 0 i).1 hr;unfold O4 at f;rw[aV,y]at f;simp only at f;cases hw:iA ops.toList d o with
  |none=>rw[hw]at f;exact f.elim
  |some b=>
   rw[hw]at f;cases b with
   |false=>exact f.elim
   |true=>
    simp only at f;cases hq:wR P o.op with
    |true=>rw[hq]at f;exact f.elim
    |false=>
     rw[hq,cond_false]at f;unfold wpOpIn;rw[y];simp only[mW hw B hd,if_true];refine qv (xp f) (CI B f) ?_;intro v w' ht hK;obtain⟨E,J,H,G⟩:=tZ (dv:=.x) hK B hd trivial;obtain⟨hh,hs'⟩:=rZ.1 J;have D:o∈ops.toList:=bC (by rw[aV];exact y);have R:=xB A O;exact⟨hh,(X false _ _ _ E _ w' _ g hs' H G (I.put (hW o D) v ht) (C.put A) (q.put hm ((ma hm C).2 hr)) hh).1 rfl (by omega)⟩
 induction da with
 |done=>
  intro m ls L d r a w listed g f B hd I C q U;cases m with
  |true=>exact f.elim
  |false=>
   refine⟨fun _ _=>?_,fun h=>by cases h⟩
   have hc:mY P N ops.toList ms .done false ls L d K r w.heap=bif wa (lI ls ms 0) []then K r w.heap else False:=rfl;rw[hc]at f;cases hb:wa (lI ls ms 0) []with
   |false=>rw[hb]at f;exact f.elim
   |true=>
    rw[hb]at f;have hnil:Region.ready .any ops listed= []:=by
     apply List.eq_nil_iff_forall_not_mem.2;intro j T;rw[ma hm C,yF hb]at T;cases T
    exact Q9 hnil (hQ r a w B I f)
 |take i p X=>
  intro m ls L d r a w listed g f B hd I C q U;cases m with
  |true=>
   exfalso;have hc:mY P N ops.toList ms (.take i p) true ls L d K r w.heap=(match ops.toList[i]?,ms[i]? with|some _,some _=>False|_,_=>False):=rfl
   rw[hc]at f;split at f<;>exact f
  |false=>
   refine⟨fun _ z=>?_,fun h=>by cases h⟩
   have hc:mY P N ops.toList ms (.take i p) false ls L d K r w.heap=(match ops.toList[i]?,ms[i]? with
    |some o,some mi=>bif Fs mi i ls ops.toList.length then
      (match iA ops.toList d o with
       |none=>False
       |some false=>Ay N o undef r fun E=>mY P N ops.toList ms p false (cS ls (gn i)) L (sg d o .u) K E w.heap
       |some true=>bif wR P o.op then
          CE P none o.op r (fun v S=>Ay N o v r fun E=>match S with
            |none=>mY P N ops.toList ms p false (cS ls (gn i)) L (sg d o (KV d o.op)) K E w.heap
            |some S=>mY P N ops.toList ms p false (cS ls (gn i)) ((i,S)::L) (sg d o (KV d o.op)) K E w.heap) w.heap
          else False)
     else False
    |_,_=>False):=rfl
   rw[hc]at f;split at f
   ·rename_i o mi y hmi
    rw[aV]at y;cases htk:Fs mi i ls ops.toList.length with
    |false=>rw[htk]at f;exact f.elim
    |true=>
     rw[htk,cond_true]at f;unfold Fs at htk;simp only[aX,pp,Ba]at htk;obtain⟨⟨hun,hrd⟩,hfr⟩:=htk;have A:i<ops.size:=(cd.1 y).1;have s:i∈Region.ready .any ops listed:=(Il hm C).2 ⟨mi,hmi,hun,hrd⟩;have R:=xB (ops:=ops) A hun;obtain⟨f',rfl⟩:∃f',g=f'+1:=⟨g-1,by omega⟩
     have D:o∈ops.toList:=bC (by rw[aV];exact y);have hcov:∀j,j<ops.size→ls.testBit j=true∨mi.fr.testBit j=true:=by
      intro j T;have h0:=aS hfr;have hpb:(yz (gn ops.toList.length)).testBit j=true:=by
        have:yz (gn ops.toList.length)=2^ops.toList.length-1:=rfl;rw[this,Nat.testBit_two_pow_sub_one];simpa using T
      have hand:(jl (cS ls mi.fr) (yz (gn ops.toList.length))).testBit j=((cS ls mi.fr).testBit j&&(yz (gn ops.toList.length)).testBit j):=ry _ _ j;rw[h0,hpb,Bool.and_true,nU]at hand;exact(Bool.or_eq_true_iff).1 hand.symm
     have V:∀j oj,ops[j]? =some oj→j≠i→listed.getD j true=false→iC oj i=false→
        (∀d,o.dst=some d→d∉oj.looksAt ops)∧(∀d,o.dst=some d→oj.dst≠some d)∧(∀d,oj.dst=some d→d∉o.looksAt ops):=by
      intro j oj hoj hne hju hna;have T:j<ops.size:=(cd.1 hoj).1;rw[C.unlisted T]at hju;have hjm:j<ms.length:=by rw[hm.len];exact T
      have hmj:=ag hjm;rcases hcov j T with h|h
      · rw[h]at hju;cases hju
      · rcases hm.free i j mi _ hmi hmj h with h|h|h
        ·exact absurd h hne
        ·rw[hm.am j oj _ hoj hmj,hna]at h;cases h
        ·exact Ty hm y hoj hmi hmj h
     cases hw:iA ops.toList d o with
     |none=>rw[hw]at f;exact f.elim
     |some b=>
      rw[hw]at f;have hwd:=mW hw B hd;cases b with
      |false=>
        obtain⟨E,J,H,G⟩:=tZ (dv:=.u) f B hd rfl;have hy:YG P ops (fun _=>True) o undef a:=.inr ⟨hwd,rfl⟩
        refine E8 hm y hm.nosel hnp f' L listed a w V q s hy trivial U ?_;refine vj _ L _ _ _ _ (fun x hx=>(aA.1 hx).elim (fun e=>.inr fun h=>by rw[e];trivial) .inl) ?_
        exact(X false _ _ _ E _ w _ f' J H G (I.put (hW o D) undef (Tame.refl w)) (C.put A) (q.put hm s) U).1 rfl (by omega)
      |true=>
        simp only at f;cases hq:wR P o.op with
        |false=>rw[hq]at f;exact f.elim
        |true=>
         rw[hq,cond_true]at f;obtain⟨v,S,hK,hS,hdv,Y⟩:=CS B f d hd;obtain⟨E,J,H,G⟩:=tZ hK B hd hdv;have hfr':=I.put (hW o D) v (Tame.refl w);cases S with
         |none=>
           have hy:YG P ops (fun _=>True) o v a:=.inl ⟨hwd,fun w _=>Y w trivial⟩
           refine E8 hm y hm.nosel hnp f' L listed a w V q s hy trivial U ?_;refine vj _ L _ _ _ _ (fun x hx=>(aA.1 hx).elim (fun e=>.inr fun h=>by rw[e];trivial) .inl) ?_
           exact(X false _ _ _ E _ w _ f' J H G hfr' (C.put A) (q.put hm s) U).1 rfl (by omega)
         |some S=>
           have hy:YG P ops S o v a:=.inl ⟨hwd,fun w h=>Y w h⟩
           refine E8 hm y hm.nosel hnp f' L listed a w V q s hy hS U ?_;exact(X false _ _ _ E _ w _ f' J H G hfr' (C.put A) (q.put hm s) (fun x hx=>(aA.1 hx).elim (fun e=>by rw[e];exact hS) (U x))).1 rfl (by omega)
   ·exact f.elim
 |all l X=>
  intro m ls L d r a w listed g f B hd I C q U;cases m with
  |true=>exact f.elim
  |false=>
   refine⟨fun _ z=>?_,fun h=>by cases h⟩
   have hc:mY P N ops.toList ms (.all l) false ls L d K r w.heap=bif wa (lI ls ms 0) (C6 l)then mY P N ops.toList ms l true ls L d K r w.heap else False:=rfl;rw[hc]at f;cases hb:wa (lI ls ms 0) (C6 l)with
   |false=>rw[hb]at f;exact f.elim
   |true=>
    rw[hb,cond_true]at f;obtain⟨i,hi⟩:=Qn f;rw[←yF hb]at hi;have hrd:=(ma hm C (j:=i)).2 hi;obtain⟨k,mm,hk,hki,O,_⟩:=(sD ls ms 0 i).1 hi;have A:i<ops.size:=by
     have:=(aQ.1 hk).1;rw[hm.len]at this;omega
    have R:=xB (ops:=ops) A O;obtain⟨f',rfl⟩:∃f',g=f'+1:=⟨g-1,by omega⟩
    refine⟨fun h=>(by rw[h]at hrd;cases hrd),fun j T o y=>?_⟩
    have hj':=(ma hm C).1 T;exact(X true ls L d r a w listed f' f B hd I C q U).2 rfl z j (by rw[←yF hb];exact hj') hj' o y
 |pick i p more ih1 ih2=>
  intro m ls L d r a w listed g f B hd I C q U;cases m with
  |false=>exact f.elim
  |true=>
   refine⟨fun h=>(by cases h),fun _ z j T Z o y=>?_⟩
   have f:PM P N ops.toList i L d r w.heap (fun L' d' E h'=>mY P N ops.toList ms p false (cS ls (gn i)) L' d' K E h')∧mY P N ops.toList ms more true ls L d K r w.heap:=f
   rcases aA.1 T with rfl|T
   ·exact one _ p ih1 ls L d r a w listed g f.1 B hd I C q z Z o y
   ·exact(ih2 true ls L d r a w listed g f.2 B hd I C q U).2 rfl z j T Z o y
 |last i p X=>
  intro m ls L d r a w listed g f B hd I C q U;cases m with
  |false=>exact f.elim
  |true=>
   refine⟨fun h=>(by cases h),fun _ z j T Z o y=>?_⟩
   have f:PM P N ops.toList i L d r w.heap (fun L' d' E h'=>mY P N ops.toList ms p false (cS ls (gn i)) L' d' K E h'):=f
   have hji:j=i:=aM.1 T;subst hji;exact one _ p X ls L d r a w listed g f B hd I C q z Z o y
 |lastT i p X=>
  intro m ls L d r a w listed g f B hd I C q U;cases m with
  |false=>exact f.elim
  |true=>
   refine⟨fun h=>(by cases h),fun _ z j T Z o y=>?_⟩
   have f:O4 P N ops.toList ms i L d r w.heap (fun L' d' E h'=>mY P N ops.toList ms p false (cS ls (gn i)) L' d' K E h'):=f
   have hji:j=i:=aM.1 T;subst hji;exact oneT _ p X ls L d r a w listed g f B hd I C q z Z o y
 |split t yes no ih1 ih2=>
  intro m ls L d r a w listed g f B hd I C q U;cases m with
  |true=>exact f.elim
  |false=>
   refine⟨fun _ z=>?_,fun h=>by cases h⟩
   have hc:mY P N ops.toList ms (.split t yes no) false ls L d K r w.heap=(match jZ r t with
    |some (.bool b)=>CondP b (mY P N ops.toList ms yes false ls L ((t,.t)::d) K ((t,.bool true)::r) w.heap) (mY P N ops.toList ms no false ls L ((t,.f)::d) K ((t,.bool false)::r) w.heap)
    |_=>False):=rfl
   rw[hc]at f;split at f
   ·rename_i b hlk
    cases b with
    |true=>exact(ih1 false ls L _ _ a w listed g (f.yes rfl) (B.known hlk) (hd.known rfl) I C q U).1 rfl z
    |false=>exact(ih2 false ls L _ _ a w listed g (f.no rfl) (B.known hlk) (hd.known rfl) I C q U).1 rfl z
   ·exact f.elim
end Go.Lift
namespace Go.Lift
open Go
variable {P:Program} {ro:Option Nat} {n:Nat}
theorem IG{r:cB}:∀{l:List Nat} {r0:cB},Pd r l=some r0→∀t v,jZ r0 t=some v→t∈l∧jZ r t=some v
 | [],r0,h,t,v,hv=>by cases h;cases hv
 |s::l,r0,h,t,v,hv=>by
  have h:(match jZ r s,Pd r l with|some v,some l=>some ((s,v)::l)|_,_=>none)=some r0:=h
  split at h
  ·rename_i u l' hu hl
   cases h;by_cases e:s=t
   ·subst e;rw[hG]at hv;cases hv;exact⟨aU ..,hu⟩
   ·rw[gq u _ e]at hv
    have:=IG hl t v hv;exact⟨bj _ this.1,this.2⟩
  ·cases h
theorem C1{m:Nat}{t:Nat}{v:Value}:∀{r:cB},jZ (xD m r) t=some v→m.testBit t=false∧jZ r t=some v
 | [],h=>by cases h
 |(k,u)::r,h=>by
  have h:jZ (bif tb m k then xD m r else(k,u)::xD m r) t=some v:=h;cases hk:tb m k with
  |true=>
   rw[hk]at h;have:=C1 h;by_cases e:k=t
   ·subst e;rw[Ba,this.1]at hk;cases hk
   ·rw[gq u _ e];exact this
  |false=>
   rw[hk]at h;have h:jZ ((k,u)::xD m r) t=some v:=h;by_cases e:k=t
   ·subst e;rw[hG]at h⊢;rw[Ba]at hk;exact⟨hk,h⟩
   ·rw[gq u _ e]at h⊢;exact C1 h
theorem CH{t:Nat}:∀{l:List Oper},(Rd l).testBit t=false→¬lB t l=true
 | [],_,h=>by cases h
 |o::l,hm,h=>by
  have hm:(cS (nF o) (Rd l)).testBit t=false:=hm;rw[nU,jp]at hm;have h:(match o.dst with|some d=>bif av d t then true else lB t l|none=>lB t l)=true:=h
  cases hd:o.dst with
  |none=>rw[hd]at h;exact CH hm.2 h
  |some d=>
   rw[hd]at h;cases e:av d t with
   |true=>have:=(xY o t).2 (by rw[hd,aS e]);rw[hm.1]at this;cases this
   |false=>simp only[e]at h;exact CH hm.2 h
theorem LI{a b:Option Nat}{m:Nat}(h:WP a b=some m):∃x y,a=some x∧b=some y∧m=cS x y:=by
 cases a<;>cases b<;>cases h
 exact⟨_,_,rfl,rfl,rfl⟩
theorem Rc{t:Nat}(c:Code):∀{m:Nat},zq c=some m→m.testBit t=false→¬fW t c=true:=by
 induction c with
 |skip=>intro m _ _ h;cases h
 |region id ops dr=>intro m h hm d;cases h;exact CH hm d
 |seq a b iha ihb=>
  intro m h hm d;obtain⟨x,y,hx,e,rfl⟩:=LI (show WP (zq a) (zq b)=some m from h)
  rw[nU,jp]at hm;have d:(bif fW t a then true else fW t b)=true:=d;cases ha:fW t a with
  |true=>exact iha hx hm.1 ha
  |false=>rw[ha]at d;exact ihb e hm.2 d
 |cond c a b iha ihb=>
  intro m h hm d;obtain⟨x,y,hx,e,rfl⟩:=LI (show WP (zq a) (zq b)=some m from h)
  rw[nU,jp]at hm;have d:(bif fW t a then true else fW t b)=true:=d;cases ha:fW t a with
  |true=>exact iha hx hm.1 ha
  |false=>rw[ha]at d;exact ihb e hm.2 d
 |block id b ih=>exact fun h hm=>ih h hm
 |loop b ih=>exact fun h hm=>ih h hm
 |rangeFunc _ _ _ _ _ _=>intro m h;cases h
 |scope b ih=>exact fun h hm=>ih h hm
 |_=>intro m _ _ h;cases h
theorem Agree.keep{N:Nat}{r b:cB}{a a':Act}{w w':World}{m:Nat}{c:Code}(h:Agree N r a)(hm:zq c=some m)(f:Fr (fun t=>fW t c=true) a w a' w')(h':Agree N b a'):Agree N (xD m r) a':=
 ⟨h'.size,fun t v e=>by
  obtain⟨d,g⟩:=C1 e
  rw[f.same t (Rc c hm d)];exact h.look t v g⟩
theorem xt{st:St}{r:cB}{f:uc (Ae st)→Prop}(h:DH st r f):∃t,Fx r st=some (lO (Ae st) t)∧f t:=by
 unfold DH at h;split at h
 ·rename_i vs hv
  obtain⟨t,rfl,a⟩:=ta h;exact⟨t,hv,a⟩
 ·exact h.elim
theorem Agree.zip{N:Nat}{r:cB}{a:Act}(h:Agree N r a):∀{st:St} {vs:List Value} {r0:cB},Fx r st=some vs→Agree N r0 a→Agree N (nu st vs r0) a
 | [],vs,r0,_,h0=>by cases vs<;>exact h0
 |(i,k)::st,vs,r0,hv,h0=>by
  unfold Fx at hv;split at hv
  ·rename_i v vs' h1 h2
   cases hv;have:=Agree.zip h h2 h0;refine⟨this.size,fun t u b=>?_⟩
   by_cases e:i=t
   ·subst e
    rw[show nu ((i,k)::st) (v::vs') r0=(i,v)::nu st vs' r0 from rfl,hG]at b;cases b
    exact h.look i v h1
   ·rw[show nu ((i,k)::st) (v::vs') r0=(i,v)::nu st vs' r0 from rfl,gq v _ e]at b
    exact this.look t u b
  ·cases hv
theorem A1{t:Nat}:∀{l:List Oper} {o:Oper},o∈l→o.dst=some t→lB t l=true
 | [],_,h,_=>by cases h
 |x::l,o,h,hd=>by
  have e:lB t (x::l)=(match x.dst with|some d=>bif av d t then true else lB t l|none=>lB t l):=rfl
  rw[e];rcases aA.1 h with rfl|h
  ·rw[hd];simp only;rw[show av t t=true from sq t];rfl
  ·have:=A1 h hd
   cases x.dst with
   |none=>exact this
   |some d=>
    simp only;cases av d t with
    |true=>rfl
    |false=>exact this
def LWP(ro:Option Nat)(n:Nat)(P:Program)(c:Code)(Q:Exit→Act→World→Prop)(a:Act)(w:World):Prop:=
 ∀(b:Frame) (k:List Item) (cs:List Frame),b.roundOf=(FW ro).round→(FW ro).fn b.fn→(FW ro).room (cs.length+1+n)→
  ∃e a' w',Q e a' w'∧ArrivesIn (Machine.fenced P (FW ro)) P (lone (b.atR a (.code c:: .inLoop c::k)) cs w) b k cs e a' w'
theorem LWP.step{c:Code}{Q:Exit→Act→World→Prop}{a:Act}{w:World}(h:c.wpIn (FW ro) n P (Exit.then (LWP ro n P c Q) Q) a w):LWP ro n P c Q a w:=by
 intro b k cs j o q;obtain⟨e,i,m,g,d⟩:=h b (.inLoop c::k) cs j o q;cases e with
 |normal=>
  obtain⟨u,s,t,p,f⟩:=g b k cs j o q;exact⟨u,s,t,p,.of_steps (StepsIn.trans d (.one (fenced_calm o q rfl) stepR_inLoop)) f⟩
 |exit id=>exact⟨_,i,m,g,.pass (x:=.inLoop c) rfl (fun _ _=>.inl (by simp)) d⟩
 |goto l=>exact⟨_,i,m,g,.pass (x:=.inLoop c) rfl (fun _ _=>.inl (by simp)) d⟩
 |ret=>exact⟨_,i,m,g,.pass (x:=.inLoop c) rfl (fun _ _=>.inl (by simp)) d⟩
 |panic ch=>exact⟨_,i,m,g,.pass (x:=.inLoop c) rfl (fun _ _=>.inl (by simp)) d⟩
 |outgrown=>exact⟨_,i,m,g,.pass (x:=.inLoop c) rfl (fun _ _=>.inl (by simp)) d⟩
theorem LWP.loop{c:Code}{Q:Exit→Act→World→Prop}{a:Act}{w:World}(h:LWP ro n P c Q a w):(Code.loop c).wpIn (FW ro) n P Q a w:=by
 intro b k cs f g i;obtain⟨e,a',w',j,d⟩:=h b k cs f g i;exact⟨e,a',w',j,.of_steps (.one (fenced_calm g i rfl) stepR_loop) d⟩
theorem IZ(r:cB):DecOk [] r:=fun _=>.inl rfl
theorem Uy(ops:Array Oper)(ls:Nat):left ops ls≤ops.size:=by
 unfold left;exact Nat.le_trans (List.length_filter_le ..) (by simp)
theorem lG(f:P.follows .mixedOrders=true){N id:Nat}{ops:Array Oper}{g:Bool}{p:Ann}{K:cB→ad→Prop}{r:cB}{a:Act}{w:World}{Q:Exit→Act→World→Prop}
  (b:CN P N ops.toList g p K r w.heap)(k:Agree N r a)(v:∀c a w,¬Q (.panic c) a w)
  (i:∀r' a' w',Agree N r' a'→Fr (fun t=>lB t ops.toList=true) a w a' w'→K r' w'.heap→Q .normal a' w'):(Code.region id ops g).wpIn (FW ro) n P Q a w:=by
 have m:∀o∈ops.toList,∀d,o.dst=some d→lB d ops.toList=true:=fun o q d hd=>A1 q hd
 cases g with
 |false=>
  have key:∀ek,FC P N ek ops.toList ops.toList [] K r w.heap→(Code.region id ops false).wpIn (FW ro) n P Q a w:=fun ek b=>by
   refine wpIn_region ?_;rw[List.range_eq_range',show ops.size=ops.toList.length from rfl]
   exact FB m i ops.toList 0 rfl [] r a w b k (IZ r) (Fr.refl _ a w)
  unfold CN at b;simp only at b;split at b
  ·exact key _ b
  ·exact key _ b
 |true=>
  unfold CN at b;simp only at b;generalize O9 ops.toList=ms at b;cases hm:E0 ops.toList ms with
  |false=>rw[hm]at b;exact b.elim
  |true=>
   rw[hm,cond_true]at b;refine wpIn_region_any f (OQ (ms:=ms) _ [] _ _ _ ?_);have u:Tame w {w with drawn:=w.drawn+1}:=⟨rfl,rfl,rfl⟩;have s:Fr (fun t=>lB t ops.toList=true) a w a {w with drawn:=w.drawn+1}:=⟨u,rfl,fun _ _=>rfl⟩
   refine(Ll (NH hm) m i (fun e a w=>?_) _ false 0 [] [] r a {w with drawn:=w.drawn+1} _ ops.size b k (IZ r) s LsRel.start (fun j x _ h=>by rw[(LsRel.start (ops:=ops)).bit,mB]at h;cases h) (fun x hx=>by cases hx)).1 rfl (Uy ops 0)
   cases e with
   |panic ch=>exact .inr (v _ a w)
   |_=>exact .inl fun c hc=>by cases hc
theorem E6(t:Nat)(x y:Code):fW t (.seq x y)=(bif fW t x then true else fW t y):=rfl
theorem Dz(t:Nat)(c:Operand)(x y:Code):fW t (.cond c x y)=(bif fW t x then true else fW t y):=rfl
theorem Kl{a b:Bool}:(bif a then true else b)=true↔a=true∨b=true:=by cases a<;>cases b<;>decide
theorem tN(u:P.follows .mixedOrders=true){N:Nat}(c:Code):∀(D:Ann) (Kn:cB→ad→Prop) (Kx:Ex→cB→ad→Prop) (r:cB) (a:Act) (w:World) (Q:Exit→Act→World→Prop),
  kJ P N c D Kn Kx r w.heap→Agree N r a→(∀L a w,¬Q (.panic L) a w)→
  (∀g a' w',Agree N g a'→Fr (fun t=>fW t c=true) a w a' w'→Kn g w'.heap→Q .normal a' w')→
  (∀i g a' w',Agree N g a'→Fr (fun t=>fW t c=true) a w a' w'→Kx (.exit i) g w'.heap→Q (.exit i) a' w')→
  (∀g a' w',Agree N g a'→Fr (fun t=>fW t c=true) a w a' w'→Kx .ret g w'.heap→Q .ret a' w')→
  c.wpIn (FW ro) n P Q a w:=by
 induction c with
 |skip=>
  intro D Kn Kx r a w Q j s _ z _ _;exact wpIn_skip (z r a w s (Fr.refl ..) j)
 |region id ops dr=>
  intro D Kn Kx r a w Q j s A z _ _;cases D with
  |reg keep inner=>
   have j:CN P N ops.toList dr inner (fun g h'=>match Pd g keep with|some r0=>Kn r0 h'|none=>False) r w.heap:=j
   refine lG u j s A fun g a' w' O V hk=>?_
   split at hk
   ·rename_i r0 hr0
    refine z r0 a' w' ⟨O.size,fun t v hv=>O.look t v (IG hr0 t v hv).2⟩ V hk
   ·exact hk.elim
  |nil=>exact lG u (show CN P N ops.toList dr (.nil) Kn r w.heap from j) s A z
  |node x y=>exact lG u (show CN P N ops.toList dr (.node x y) Kn r w.heap from j) s A z
  |join st x y=>exact lG u (show CN P N ops.toList dr (.join st x y) Kn r w.heap from j) s A z
  |loop st y=>exact lG u (show CN P N ops.toList dr (.loop st y) Kn r w.heap from j) s A z
  |draw d=>exact lG u (show CN P N ops.toList dr (.draw d) Kn r w.heap from j) s A z
  |kinds k v=>exact lG u (show CN P N ops.toList dr (.kinds k v) Kn r w.heap from j) s A z
  |rf ks x y=>exact lG u (show CN P N ops.toList dr (.rf ks x y) Kn r w.heap from j) s A z
 |seq x y ihx ihy=>
  intro D Kn Kx r a w Q j s A z hx G;have E:∀{a' w'},Fr (fun t=>fW t x=true) a w a' w'→Fr (fun t=>fW t (.seq x y)=true) a w a' w':=fun h=>h.mono fun t R=>by rw[E6,Kl];exact .inl R
  have C:∀{a' w' I H},Fr (fun t=>fW t x=true) a w a' w'→Fr (fun t=>fW t y=true) a' w' I H→Fr (fun t=>fW t (.seq x y)=true) a w I H:=
   fun h k=>(E h).trans (k.mono fun t R=>by rw[E6,Kl];exact .inr R)
  have plain:∀W S,kJ P N x W (fun g h'=>kJ P N y S Kn Kx g h') Kx r w.heap→(Code.seq x y).wpIn (FW ro) n P Q a w:=fun W S j=>by
   refine wpIn_seq (ihx W _ Kx r a w _ j s (fun L a w=>A L a w) ?_ (fun i g a' w' p q o=>hx i g a' w' p (E q) o) (fun g a' w' p q o=>G g a' w' p (E q) o))
   intro r1 U Y F B K;exact ihy S Kn Kx r1 U Y Q K F A (fun g a' w' p q o=>z g a' w' p (C B q) o) (fun i g a' w' p q o=>hx i g a' w' p (C B q) o) (fun g a' w' p q o=>G g a' w' p (C B q) o)
  cases D with
  |join st W S=>
   have j:(match zq x with
      |none=>False
      |some m=>Join (T:=uc (Ae st)) (fun t h'=>kJ P N y S Kn Kx (nu st (lO (Ae st) t) (xD m r)) h')
       fun J=>kJ P N x W (fun g h'=>DH st g fun t=>J t h') Kx r w.heap):=j
   split at j
   ·exact j.elim
   ·rename_i m hm
    refine wpIn_seq (ihx W _ Kx r a w _ j.run s (fun L a w=>A L a w) ?_ (fun i g a' w' p q o=>hx i g a' w' p (E q) o) (fun g a' w' p q o=>G g a' w' p (E q) o))
    intro r1 U Y F B K;obtain⟨t,hst,hs2⟩:=xt K;have ha2:Agree N (nu st (lO (Ae st) t) (xD m r)) U:=F.zip hst (s.keep hm B F);exact ihy S Kn Kx _ U Y Q hs2 ha2 A (fun g a' w' p q o=>z g a' w' p (C B q) o) (fun i g a' w' p q o=>hx i g a' w' p (C B q) o) (fun g a' w' p q o=>G g a' w' p (C B q) o)
  |_=>exact plain _ _ j
 |cond c x y ihx ihy=>
  intro D Kn Kx r a w Q j s A z hx G;have j:(match cZ r c with
   |some (.bool t)=>CondP t (kJ P N x D.l Kn Kx r w.heap) (kJ P N y D.r Kn Kx r w.heap)
   |_=>False):=j
  have E:∀{a' w'},Fr (fun t=>fW t x=true) a w a' w'→Fr (fun t=>fW t (.cond c x y)=true) a w a' w':=fun h=>h.mono fun t R=>by rw[Dz,Kl];exact .inl R
  have C:∀{a' w'},Fr (fun t=>fW t y=true) a w a' w'→Fr (fun t=>fW t (.cond c x y)=true) a w a' w':=fun h=>h.mono fun t R=>by rw[Dz,Kl];exact .inr R
  split at j
  ·rename_i t R
   refine wpIn_cond_split (j1 s R) (fun e=>?_) (fun e=>?_)
   ·exact ihx _ Kn Kx r a w Q (j.yes e) s A (fun g a' w' p q o=>z g a' w' p (E q) o) (fun i g a' w' p q o=>hx i g a' w' p (E q) o) (fun g a' w' p q o=>G g a' w' p (E q) o)
   ·exact ihy _ Kn Kx r a w Q (j.no e) s A (fun g a' w' p q o=>z g a' w' p (C q) o) (fun i g a' w' p q o=>hx i g a' w' p (C q) o) (fun g a' w' p q o=>G g a' w' p (C q) o)
  ·exact j.elim
 |block id b ih=>
  intro D Kn Kx r a w Q j s A z hx G;refine wpIn_block (ih D Kn _ r a w _ j s (fun L a w=>A L a w) z (fun i g a' w' p q o=>?_) G)
  simp only[Exit.inBlock]at o⊢;cases hi:av i id with
  |true=>
   rw[hi,cond_true]at o;rw[if_pos (aS hi)];exact z g a' w' p q o
  |false=>
   rw[hi,cond_false]at o;rw[if_neg (fun e=>by rw[e,sq]at hi;cases hi)]
   exact hx i g a' w' p q o
 |loop b ih=>
  intro D Kn Kx r a w Q j s A z hx G;cases D with
  |loop st S=>
   have j:(match zq b with
      |none=>False
      |some m=>DH st r fun t0=>LoopP (T:=uc (Ae st)) (fun Z t h'=>kJ P N b S (fun g h''=>DH st g fun t'=>Z t' h'') Kx (nu st (lO (Ae st) t) (xD m r)) h') t0 w.heap):=j
   split at j
   ·exact j.elim
   ·rename_i m hm
    obtain⟨t0,X,hl⟩:=xt j;have h0:=hl.run (fun t h'=>∀a' w',w'.heap=h'→Agree N (nu st (lO (Ae st) t) (xD m r)) a'→Fr (fun t=>fW t b=true) a w a' w'→LWP ro n P b Q a' w') (fun t h' hF a' w' hw O V=>by
     subst hw
     refine LWP.step (ih S _ Kx _ a' w' _ hF O (fun L a w=>A L a w) ?_ (fun i g I H p q o=>hx i g I H p (V.trans q) o) (fun g I H p q o=>G g I H p (V.trans q) o))
     intro r1 U Y F B K
     obtain⟨t1,hst1,hk1⟩:=xt K
     exact hk1 U Y rfl (F.zip hst1 (s.keep hm (V.trans B) F)) (V.trans B))
    exact LWP.loop (h0 a w rfl (s.zip X (s.keep hm (Fr.refl _ a w) s)) (Fr.refl _ a w))
  |_=>exact j.elim
 |rangeFunc f params assign body _ _=>intro D Kn Kx r a w Q j;exact j.elim
 |exit id=>
  intro D Kn Kx r a w Q j s A z hx G;exact wpIn_exit (hx id r a w s (Fr.refl ..) j)
 |scope b _=>intro D Kn Kx r a w Q j;exact j.elim
 |label l=>
  intro D Kn Kx r a w Q j s A z hx G;exact wpIn_label (z r a w s (Fr.refl ..) j)
 |goto l=>intro D Kn Kx r a w Q j;exact j.elim
 |ret=>
  intro D Kn Kx r a w Q j s A z hx G;exact wpIn_ret (G r a w s (Fr.refl ..) j)
 |refuse why=>intro D Kn Kx r a w Q j;exact j.elim
end Go.Lift
namespace Go.Lift
open Go
variable {P:Program}
theorem qe{N:Nat}{r:cB}{a:Act}{w:World}(d:Agree N r a):∀{l:List ResultVar} {K:List Value→Prop},nA P r w.heap l K→
  ∃vs,(∀g:ResultVar→Sem Value,(∀t,g (.tmp t)=pure (a.tmps.getD t undef))→(∀x t,g (.cell x t)=do loadVar t (←asAddr (a.tmps.getD x undef)))→(l.mapM g).run P w=.ok vs w)∧K vs
 | [],K,h=>⟨[],fun g _ _=>by rw[List.mapM_nil];rfl,h⟩
 | .tmp t::l,K,h=>by
  unfold nA at h;split at h
  ·rename_i v hv
   obtain⟨vs,i,f⟩:=qe d h;refine⟨v::vs,fun g c e=>?_,f⟩
   rw[List.mapM_cons,c];simp only[aO,bB,az];rw[i g c e];simp only[az,d.look t v hv]
  ·exact h.elim
 | .cell x t::l,K,h=>by
  unfold nA at h;split at h
  ·rename_i v hv
   obtain⟨u,S,k,m,n⟩:=DN h;obtain⟨vs,i,f⟩:=qe d k;refine⟨u::vs,fun g c e=>?_,f⟩
   rw[List.mapM_cons,e];have j:(do loadVar t (←asAddr (a.tmps.getD x undef)):Sem Value).run P w=.ok u w:=by
    rw[d.look x v hv];unfold Lv at h;cases v with
    |pointer p=>cases p with
     |none=>exact h.elim
     |some b=>exact n w m
    |_=>exact h.elim
   simp only[aO]at j⊢;rw[j];simp only[az];rw[i g c e];simp only[bB,az]
  ·exact h.elim
theorem Ik(ks:List Kind)(t:uc ks):(if h:(lO ks t).toArray.size=1 then(lO ks t).toArray[0]else Value.tuple (lO ks t).toArray)=Bf ks (lO ks t):=by
 match ks,t with
 | [],t=>rfl
 | [k],t=>rfl
 |k::l::ks,(x,t)=>
  have:(lO (k::l::ks) (x,t)).length=(k::l::ks).length:=tY _ _;rw[dif_neg (by simp only[cH,this,aG];omega)];rfl
theorem wC:∀(vs:List Value) (i t:Nat) (v:Value),jZ (qp i vs) t=some v→i≤t∧vs[t-i]? =some v
 | [],i,t,v,h=>by cases h
 |u::vs,i,t,v,h=>by
  by_cases e:i=t
  ·subst e
   rw[show qp i (u::vs)=(i,u)::qp (i+1) vs from rfl,hG]at h
   cases h;exact⟨Nat.le_refl _,by simp⟩
  ·rw[show qp i (u::vs)=(i,u)::qp (i+1) vs from rfl,gq u _ e]at h
   obtain⟨b,a⟩:=wC vs (i+1) t v h;refine⟨by omega,?_⟩;rw[show t-i=(t-(i+1))+1 by omega,List.getElem?_cons_succ]
   exact a
theorem Pt(f:P.follows .mixedOrders=true){n:Nat}{fn:Func}{c:Code}{p:Ann}{args:List Value}{ks:List Kind}{K:uc ks→ad→Prop}{w:World}(o:args.length≤fn.ntmps)(s:Ig P fn c p args ks K w.heap):
  c.wpIn (FW none) n P (bodyPost P fn fun e w'=>Tame w w'∧∃t:uc ks,e=.returned (Bf ks (lO ks t))∧K t w'.heap) {tmps:=args.toArray++iW (fn.ntmps-args.toArray.size) undef,defers:= []} w:=by
 have y:Agree fn.ntmps (qp 0 args) {tmps:=args.toArray++iW (fn.ntmps-args.toArray.size) undef,defers:= []}:=by
  refine⟨by simp;omega,fun t v x=>?_⟩
  obtain⟨_,j⟩:=wC args 0 t v x;simp only[ep]at j;have b:=(aQ.1 j).1;simp[Array.getElem?_append,b];rw[ag b]at j;cases j;rfl
 have d:∀k a' (w':World),Agree fn.ntmps k a'→Fr (fun t=>fW t c=true) {tmps:=args.toArray++iW (fn.ntmps-args.toArray.size) undef,defers:= []} w a' w'→
   nA P k w'.heap fn.results.toList (fun vs=>Eu ks vs fun t=>K t w'.heap)→
   a'.defers= []∧∃v,(results fn a'.tmps).run P w'=.ok v w'∧(Tame w w'∧∃t:uc ks,Ending.returned v=.returned (Bf ks (lO ks t))∧K t w'.heap):=fun k a' w' m i u=>by
  obtain⟨vs,g,hd⟩:=qe m u;obtain⟨t,rfl,q⟩:=ta hd;refine⟨i.defers,_,?_,i.tame,t,rfl,q⟩;unfold results;rw[mH];simp only[aO,Sem.run_map];rw[g _ (fun _=>rfl) (fun _ _=>rfl)]
  simp only[az,bB];rw[←Ik]
 exact tN f c p _ _ _ _ w _ s y (fun z a w h=>h.2.2.elim fun _ h=>by cases h.1) d (fun _ _ _ _ _ _ h=>h.elim) d
theorem HE.intro(d:P.follows .mixedOrders=true){f:FuncId}{fn:Func}{c:Code}{g:Ann}{args:List Value}{ks:List Kind}{K:uc ks→ad→Prop}{h:ad}
  (k:P.funcs[f]? =some fn) (e:fn.body=some c) (a:∀(args:Array Value) (w:World),(callFunc f args).run P w=.ok (.enter f args) w) (b:args.length≤fn.ntmps)
  (i:Ig P fn c g args ks K h):HE P f args ks K h:=by
 refine⟨fun w j=>⟨a,?_⟩⟩
 subst j;exact(callsIn_wide (n:=0)).1 (callsIn_of_wp (F:=FW none) k e trivial (Pt d b i) rfl)
theorem HD.intro(d:P.follows .mixedOrders=true){f:FuncId}{fn:Func}{c:Code}{i:Ann}{args:List Value}{ks:List Kind}{K:ad→Prop}{h:ad}
  (q:P.funcs[f]? =some fn) (g:fn.body=some c) (a:∀(args:Array Value) (w:World),(callFunc f args).run P w=.ok (.enter f args) w) (b:args.length≤fn.ntmps)
  (k:Ig P fn c i args ks (fun _ h'=>K h') h):HD P f args K h:=by
 refine fun w o=>⟨a,fun n=>?_⟩
 subst o;exact(callsDIn_of_wp (F:=FW none) q g trivial (Pt d b k) rfl).mono fun e u w' ⟨m,s,t,j,p⟩=>⟨m,s,⟨_,j⟩,p⟩
theorem HC.intro(d:P.follows .mixedOrders=true){f:FuncId}{fn:Func}{c:Code}{g:Ann}{args:List Value}{ks:List Kind}{K:uc ks→ad→Prop}{h:ad}
 (j:P.funcs[f]? =some fn) (e:fn.body=some c) (a:∀(args:Array Value) (w:World),(callFunc f args).run P w=.ok (.enter f args) w) (b:args.length≤fn.ntmps)
 (i:Ig P fn c g args ks K h):HC P f args ks K h:=(HE.intro d j e a b i).hc
theorem Oo{N:Nat}{args:List Value}(c:args.length≤N):Agree N (qp 0 args) {tmps:=args.toArray++iW (N-args.toArray.size) undef,defers:= []}:=by
 refine⟨by simp;omega,fun t v d=>?_⟩
 obtain⟨_,b⟩:=wC args 0 t v d;simp only[ep]at b;have a:=(aQ.1 b).1;simp[Array.getElem?_append,a];rw[ag a]at b;cases b;rfl
theorem Lq{N:Nat}{fn:Func}{ks:List Kind}{K:uc ks→ad→Prop}{c:cB}{a':Act}{w':World}(b:Agree N c a')(e:nA P c w'.heap fn.results.toList (fun vs=>Eu ks vs fun t=>K t w'.heap)):
  ∃t:uc ks,(results fn a'.tmps).run P w'=.ok (Bf ks (lO ks t)) w'∧K t w'.heap:=by
 obtain⟨vs,a,hd⟩:=qe b e;obtain⟨t,rfl,d⟩:=ta hd;refine⟨t,?_,d⟩;unfold results;rw[mH];simp only[aO,Sem.run_map];rw[a _ (fun _=>rfl) (fun _ _=>rfl)]
 simp only[az,bB];rw[←Ik]
end Go.Lift
namespace Go.Lift
open Go
variable {P:Program}
abbrev FS(D:Nat):Deferred:={target:=.collected D,args:= #[]}
abbrev pL:Mk→Deferred
 | .it D=>FS D
 | .call f vs=>{target:=.fn (.func f) #[],args:= #[]++vs.toArray}
theorem GG{N:Nat}:∀{ps:List Nat} {vs:List Value} {r:cB} {tmps:Array Value},Ao N ps=true→Agree N r {tmps:=tmps,defers:= []}→
  Agree N (TU ps vs r) {tmps:=(ps.zip vs).foldl (fun t x=>t.setIfInBounds x.1 x.2) tmps,defers:= []}
 | [],vs,r,tmps,_,h=>by cases vs<;>exact h
 |i::ps,[],r,tmps,_,h=>h
 |i::ps,v::vs,r,tmps,a,h=>by
  have a:(yQ i N&&Ao N ps)=true:=a;rw[aX]at a;have b:i<N:=by simpa using a.1
  have:=h.put i v b;exact GG (tmps:=tmps.setIfInBounds i v) a.2 this
theorem Fp(w:World)(o:Obj):Tame w (w.alloc o):=⟨rfl,rfl,rfl⟩
theorem nW(w:World)(b:Nat)(o:Obj):Tame w (w.putObj b o):=⟨rfl,rfl,rfl⟩
theorem Ly(w:World)(b:Nat)(o:Obj):(w.putObj b o).heap=w.heap.setIfInBounds b o:=rfl
theorem PA(ps:Array Nat)(vs:List Value)(t:Array Value):(ps.zip vs.toArray).foldl (fun t (x:Nat×Value)=>t.setIfInBounds x.1 x.2) t=(ps.toList.zip vs).foldl (fun t x=>t.setIfInBounds x.1 x.2) t:=by
 obtain⟨l⟩:=ps;simp
theorem Em(A:P.follows .mixedOrders=true){n N:Nat}{g:Operand}{ps:Array Tmp}{assign body:Code}{aa ab:Ann}{ks:List Kind}{fv:Value}{r:cB}{a:Act}{w:World}{Q:Exit→Act→World→Prop}
  {KN:ad→Prop}{KX:Nat→ad→Prop}{KR:ad→Prop}(Y:Ao N ps.toList=true)(L:ps.toList.length=ks.length)(hg:cZ r g=some fv)(V:Agree N r a)
  (hR:RangeP P fv ks w.heap (fun Im bz x k h'=>Nb P N ps.toList ks assign body (.node aa ab) r (w.heap.size+1) Im bz x k h') KN KX KR)
  (hn:∀w',Tame w w'→KN w'.heap→Q .normal {a with defers:=FS w.heap.size::a.defers} w')
  (hx:∀i w',Tame w w'→KX i w'.heap→Q (.exit i) {a with defers:=FS w.heap.size::a.defers} w')
  (hr:∀w',Tame w w'→KR w'.heap→Q .ret {a with defers:=FS w.heap.size::a.defers} w'):(Code.rangeFunc g ps assign body).wpIn (FW none) n P Q a w:=by
 refine wpIn_rangeFunc fun fn _=>?_
 obtain⟨lo,m⟩:∃lo:LoopState→Option Ex→Obj,lo=fun s j=>.loop {state:=s,pending:=J0 j,fn,tmps:=a.tmps,params:=ps,assign,body,defers:=w.heap.size}:=⟨_,rfl⟩
 have hj:∀j:Option Ex,(J0 j).isNone=j.isNone:=fun j=>by rcases j with _|⟨_|_⟩<;>rfl
 obtain⟨f,first,cap,rfl,he⟩:=hR.run lo (fun s j=>⟨_,by rw[m]⟩) (fun x h' K q z=>by
  refine⟨.inr ⟨_,rfl,⟨fun G U=>?_⟩⟩⟩
  subst U
  rw[m]at q
  have hy:=run_yield (P:=P) (args:=(lO ks x).toArray) q (by simp only[cH,tY];rw[←L];rfl)
  refine⟨_,_,_,_,hy,fun c cs=>?_⟩
  have hA:Agree N (TU ps.toList (lO ks x) r) {tmps:=(ps.zip (lO ks x).toArray).foldl (fun t (x:Nat×Value)=>t.setIfInBounds x.1 x.2) a.tmps,defers:= []}:=by
   rw[PA]
   exact GG Y ⟨V.size,V.look⟩
  have p:∀j:Option Ex,∀W:World,Tame G W→(W.heap[w.heap.size+1]? =some (lo .busy none)∧K j.isNone (W.heap.setIfInBounds (w.heap.size+1) (lo (if j.isNone then .ready else .done) j)))→
    ∃v w',(Instr.endRound (w.heap.size+1) (J0 j)).run P W=.ok v w'∧∃b,Ending.returned v=.returned (.bool b)∧Tame G w'∧K b w'.heap:=by
   rintro j W H ⟨h1,T⟩
   rw[m]at h1
   have:=run_endRound (P:=P) (J0 j) h1
   refine⟨_,_,this,_,rfl,H.trans (nW ..),?_⟩
   rw[m]at T
   rw[hj]
   exact T
  have:=roundIn_of_wpIn (F:=FW none) (n:=0) (P:=P) (l:=w.heap.size+1) (f:=fn) (assign:=assign) (body:=body) (w:=G)
   (tmps:=(ps.zip (lO ks x).toArray).foldl (fun t (x:Nat×Value)=>t.setIfInBounds x.1 x.2) a.tmps)
   (R:=fun e w'=>∃b,e=.returned (.bool b)∧Tame G w'∧K b w'.heap) trivial (by
    refine tN (ro:=some (w.heap.size+1)) A assign aa _ _ _ _ G _ z hA (fun ch a w h=>h) ?_ (fun i r' a' w' _ _ h=>h.elim) (fun r' a' w' _ _ h=>h.elim)
    rintro r2 a2 Z ha2 D ⟨u,C⟩
    rw[m]at u
    refine⟨_,run_beginRound u rfl,?_⟩
    have J:∀o,o=lo .busy none→Z.heap.setIfInBounds (w.heap.size+1) o=Z.heap.setIfInBounds (w.heap.size+1) (lo .busy none):=fun o ho=>by rw[ho]
    refine tN (ro:=some (w.heap.size+1)) A body ab (fun _ T=>_) (fun e _ T=>_) _ _ (Z.putObj (w.heap.size+1) _) _ (by
     rw[Ly,J _ (by rw[m])];exact C) ha2 (fun ch a w h=>h) ?_ ?_ ?_
    ·rintro r3 a3 O I y S
     exact p none O ((D.tame.trans (nW ..)).trans y.tame) S
    ·rintro i r3 a3 O I y S
     exact p (some (.exit i)) O ((D.tame.trans (nW ..)).trans y.tame) S
    ·rintro r3 a3 O I y S
     exact p (some .ret) O ((D.tame.trans (nW ..)).trans y.tame) S)
  obtain⟨e,w',⟨b,rfl,H,hK⟩,hs⟩:=this.2 c cs (fun d h=>by simp[FW]at h)
  exact⟨b,w',H,hK,hs.steps⟩)
 have B:=he.run ((w.alloc (.deferred (some []))).alloc (lo .ready none)) rfl;refine⟨w.heap.size+1,[FS w.heap.size],(w.alloc (.deferred (some []))).alloc (lo .ready none),{target:=.fn (.func f) cap,args:=first++ #[.func (.yield (w.heap.size+1)) #[] #[]]},(w.alloc (.deferred (some []))).alloc (lo .ready none),f,
  first++ #[.func (.yield (w.heap.size+1)) #[] #[]]++cap,(w.alloc (.deferred (some []))).alloc (lo .ready none),?_,?_,fun _ _=>trivial,?_,fun h=>by simp[FW]at h,?_⟩
 ·rw[m];exact run_enterLoop_outer fn a.tmps ps assign body
 ·have hev:=j1 V hg
  simp[resolve,hev,Deferred.ofValue,bB];rfl
 ·simp[invoke,B.1]
 ·refine GB ?_
  have e:(first.toList++ [Value.func (.yield (w.heap.size+1)) #[] #[]]++cap.toList).toArray=first++ #[.func (.yield (w.heap.size+1)) #[] #[]]++cap:=by apply cJ;simp
  rw[←e];refine B.2.mono ?_;rintro e w' ⟨H,t,rfl,s,j,hs,q,p⟩;have X:Tame w w':=((Fp w _).trans (Fp _ _)).trans H;rw[m]at q;refine⟨_,_,run_endLoop q hs,?_⟩;have E:∀o,Tame w (w'.putObj (w.heap.size+1) o):=fun o=>X.trans (nW ..)
  have J:∀o,o=lo .exhausted j→(w'.putObj (w.heap.size+1) o).heap=w'.heap.setIfInBounds (w.heap.size+1) (lo .exhausted j):=fun o ho=>by rw[ho];rfl
  rcases j with _|⟨i|_⟩
  ·exact hn _ (E _) (by rw[J _ (by rw[m])];exact p)
  ·exact wpIn_exit (hx i _ (E _) (by rw[J _ (by rw[m])];exact p))
  ·exact wpIn_ret (hr _ (E _) (by rw[J _ (by rw[m])];exact p))
theorem Gs{n N id d:Nat}{ops:Array Oper}{m o:Oper}{x:Operand}{f:FuncId}{as:List Operand}{vs:List Value}{v:Value}{r:cB}{a:Act}{w:World}{Q:Exit→Act→World→Prop}(b:Gt ops.toList=some (m,o,x,d,f,as))(t:cZ r x=some v)(p:d<N)(g:nN ((d,v)::r) as=some vs)(i:Agree N r a)
  (j:∀a',Agree N ((d,v)::r) a'→a'.defers=pL (.call f vs)::a.defers→Q .normal a' w):(Code.region id ops false).wpIn (FW none) n P Q a w:=by
 unfold Gt at b;split at b
 ·rename_i m' o' hl
  split at b
  ·rename_i x' d' c h1 h2 h3 h4 h5 h6
   split at b
   ·rename_i f' hc
    cases b;have q:ops[0]? =some m:=by rw[←aV,hl];rfl
    have e1:ops[1]? =some o:=by rw[←aV,hl];rfl
    have es:ops.size=2:=by rw[←Array.length_toList,hl];rfl
    have s:∀y,Region.wanted m y=true:=fun y=>by simp[Region.wanted,h2]
    have k:∀y,Region.wanted o y=true:=fun y=>by simp[Region.wanted,h6]
    refine wpIn_region ?_;rw[es,show ee 2= [0,1]from rfl]
    simp only[wpOpsIn,q,e1,s,k,if_true];refine BigFrame.wpIn_move x h1 ?_;rw[j1 i t,h3];have e:=i.put d v p;refine⟨fun _ _=>trivial,?_⟩
    have z:((Oper.semAt (FW none).round (a.put (some d) v).eval o).run P w)=.ok (.defer (pL (.call f vs))) w:=by
     show((execOp (a.put (some d) v).eval o).run P w)=_
     have e2:=l4 e g;have u:c.args.map (a.put (some d) v).eval=vs.toArray:=by rw[←e2];apply cJ;simp
     simp only[execOp,h4,resolve,hc,u];simp[Act.eval,Deferred.ofValue,pL]
    rw[z,Oper.uponIn_defer,h5];exact j _ ⟨e.size,e.look⟩ rfl
   ·cases b
  ·cases b
 ·cases b
theorem Jv(G:P.follows .mixedOrders=true){n N:Nat}(c:Code):∀(s:Ann) (Kn:List Mk→cB→ad→Prop) (Kx:Ex→List Mk→cB→ad→Prop) (ms:List Mk) (r:cB) (a:Act) (w:World) (Q:Exit→Act→World→Prop),
  Ah P N c s Kn Kx ms r w.heap→Agree N r a→a.defers=ms.map pL→(∀H a w,¬Q (.panic H) a w)→
  (∀p q a' w',Agree N q a'→a'.defers=p.map pL→Tame w w'→Kn p q w'.heap→Q .normal a' w')→
  (∀i p q a' w',Agree N q a'→a'.defers=p.map pL→Tame w w'→Kx (.exit i) p q w'.heap→Q (.exit i) a' w')→
  (∀p q a' w',Agree N q a'→a'.defers=p.map pL→Tame w w'→Kx .ret p q w'.heap→Q .ret a' w')→
  c.wpIn (FW none) n P Q a w:=by
 have plain:∀(c:Code) (s:Ann) (Kn:List Mk→cB→ad→Prop) (Kx:Ex→List Mk→cB→ad→Prop) (ms:List Mk) (r:cB) (a:Act) (w:World) (Q:Exit→Act→World→Prop),
  kJ P N c s (Kn ms) (fun e=>Kx e ms) r w.heap→Agree N r a→a.defers=ms.map pL→(∀H a w,¬Q (.panic H) a w)→
  (∀p q a' w',Agree N q a'→a'.defers=p.map pL→Tame w w'→Kn p q w'.heap→Q .normal a' w')→
  (∀i p q a' w',Agree N q a'→a'.defers=p.map pL→Tame w w'→Kx (.exit i) p q w'.heap→Q (.exit i) a' w')→
  (∀p q a' w',Agree N q a'→a'.defers=p.map pL→Tame w w'→Kx .ret p q w'.heap→Q .ret a' w')→
  c.wpIn (FW none) n P Q a w:=by
  intro c s Kn Kx ms r a w Q j u hd C z hx B;exact tN G c s _ _ r a w Q j u C (fun q a' w' D A E=>z ms q a' w' D (A.defers.trans hd) A.tame E) (fun i q a' w' D A E=>hx i ms q a' w' D (A.defers.trans hd) A.tame E)
   (fun q a' w' D A E=>B ms q a' w' D (A.defers.trans hd) A.tame E)
 induction c with
 |skip=>intro s Kn Kx ms r a w Q j;exact plain _ s Kn Kx ms r a w Q j
 |region id ops dr=>
  intro s Kn Kx ms r a w Q j u hd C z hx B;have j:(match Gt ops.toList with
   |none=>kJ P N (.region id ops dr) s (Kn ms) (fun e=>Kx e ms) r w.heap
   |some (_,_,x,d,f,as)=>bif dr then False else match cZ r x with
    |some v=>bif yQ d N then(match nN ((d,v)::r) as with|some vs=>Kn (.call f vs::ms) ((d,v)::r) w.heap|none=>False)else False
    |none=>False):=j
  split at j
  ·exact plain _ s Kn Kx ms r a w Q j u hd C z hx B
  ·rename_i m o x d f as he
   cases dr with
   |true=>exact j.elim
   |false=>
    rw[cond_false]at j;split at j
    · rename_i v hv
      cases hb:yQ d N with
      |false=>rw[hb]at j;exact j.elim
      |true=>
       rw[hb,cond_true]at j;split at j
       ·rename_i vs hvs
        refine Gs he hv (by simpa using hb) hvs u fun a' S O=>z (.call f vs::ms) _ a' w S ?_ ⟨rfl,rfl,rfl⟩ j
        rw[O,hd];rfl
       ·exact j.elim
    · exact j.elim
 |seq x y ihx ihy=>
  intro s Kn Kx ms r a w Q j u hd C z hx B;have j:(bif (bif sJ x then true else sJ y)then Ah P N x s.l (fun ms q h'=>Ah P N y s.r Kn Kx ms q h') Kx ms r w.heap
   else kJ P N (.seq x y) s (Kn ms) (fun e=>Kx e ms) r w.heap):=j
  cases hb:(bif sJ x then true else sJ y)with
  |false=>rw[hb]at j;exact plain _ _ _ _ _ _ _ _ _ j u hd C z hx B
  |true=>
   rw[hb,cond_true]at j;refine wpIn_seq (ihx s.l _ Kx ms r a w _ j u hd (fun H a w=>C H a w) ?_ hx B)
   intro U Y X Z R L I V;exact ihy s.r Kn Kx U Y X Z Q V R L C (fun p q a' w' D A E F=>z p q a' w' D A (I.trans E) F) (fun i p q a' w' D A E F=>hx i p q a' w' D A (I.trans E) F)
    (fun p q a' w' D A E F=>B p q a' w' D A (I.trans E) F)
 |cond c x y ihx ihy=>
  intro s Kn Kx ms r a w Q j u hd C z hx B;have j:(bif (bif sJ x then true else sJ y)then
    (match cZ r c with
     |some (.bool t)=>CondP t (Ah P N x s.l Kn Kx ms r w.heap) (Ah P N y s.r Kn Kx ms r w.heap)
     |_=>False)
   else kJ P N (.cond c x y) s (Kn ms) (fun e=>Kx e ms) r w.heap):=j
  cases hb:(bif sJ x then true else sJ y)with
  |false=>rw[hb]at j;exact plain _ _ _ _ _ _ _ _ _ j u hd C z hx B
  |true=>
   rw[hb,cond_true]at j;split at j
   ·rename_i t J
    exact wpIn_cond_split (j1 u J) (fun e=>ihx _ Kn Kx ms r a w Q (j.yes e) u hd C z hx B) (fun e=>ihy _ Kn Kx ms r a w Q (j.no e) u hd C z hx B)
   ·exact j.elim
 |block id b ih=>
  intro s Kn Kx ms r a w Q j u hd C z hx B;have j:(bif sJ b then Ah P N b s Kn (fun e ms q h'=>match e with
    | .exit i=>bif av i id then Kn ms q h' else Kx (.exit i) ms q h'
    | .ret=>Kx .ret ms q h') ms r w.heap
   else kJ P N (.block id b) s (Kn ms) (fun e=>Kx e ms) r w.heap):=j
  cases hb:sJ b with
  |false=>rw[hb]at j;exact plain _ _ _ _ _ _ _ _ _ j u hd C z hx B
  |true=>
   rw[hb,cond_true]at j;refine wpIn_block (ih s Kn _ ms r a w _ j u hd (fun H a w=>C H a w) z (fun i p q a' w' D A E F=>?_) B)
   simp only[Exit.inBlock]at F⊢;cases hi:av i id with
   |true=>
    rw[hi,cond_true]at F;rw[if_pos (aS hi)];exact z p q a' w' D A E F
   |false=>
    rw[hi,cond_false]at F;rw[if_neg (fun e=>by rw[e,sq]at hi;cases hi)]
    exact hx i p q a' w' D A E F
 |loop b ih=>intro s Kn Kx ms r a w Q j;exact plain _ s Kn Kx ms r a w Q j
 |rangeFunc g ps assign body _ _=>
  intro s Kn Kx ms r a w Q j u hd C z hx B;cases s with
  |rf ks aa ab=>
   have j:(bif Ao N ps.toList&&av ps.toList.length ks.length then
    (match cZ r g with
     |some fv=>RangeP P fv ks w.heap (fun Im bz x k h'=>Nb P N ps.toList ks assign body (.node aa ab) r (w.heap.size+1) Im bz x k h')
       (fun h'=>Kn (.it w.heap.size::ms) r h') (fun i h'=>Kx (.exit i) (.it w.heap.size::ms) r h') (fun h'=>Kx .ret (.it w.heap.size::ms) r h')
     |none=>False)else False):=j
   cases hb:(Ao N ps.toList&&av ps.toList.length ks.length)with
   |false=>rw[hb]at j;exact j.elim
   |true=>
    rw[hb,cond_true]at j;rw[aX]at hb;split at j
    · rename_i fv hfv
      have W:Agree N r {a with defers:=FS w.heap.size::a.defers}:=⟨u.size,u.look⟩;have T:({a with defers:=FS w.heap.size::a.defers}:Act).defers=(.it w.heap.size::ms).map pL:=by rw[List.map_cons,←hd]
      exact Em G hb.1 (aS hb.2) hfv u j (fun w' J K=>z _ r _ w' W T J K) (fun i w' J K=>hx i _ r _ w' W T J K) (fun w' J K=>B _ r _ w' W T J K)
    · exact j.elim
  |_=>exact j.elim
 |exit id=>intro s Kn Kx ms r a w Q j;exact plain _ s Kn Kx ms r a w Q j
 |scope b _=>intro s Kn Kx ms r a w Q j;exact j.elim
 |label l=>intro s Kn Kx ms r a w Q j;exact plain _ s Kn Kx ms r a w Q j
 |goto l=>intro s Kn Kx ms r a w Q j;exact j.elim
 |ret=>intro s Kn Kx ms r a w Q j;exact plain _ s Kn Kx ms r a w Q j
 |refuse why=>intro s Kn Kx ms r a w Q j;exact j.elim
theorem vV{fn:Func}{ks:List Kind}{K:uc ks→ad→Prop}{N:Nat}{n:Nat}{r:cB}{a:Act}{g:World}(c:Agree N r a):∀(ms:List Mk) (w:World),Tame g w→
  Lk P ms (fun h'=>nA P r h' fn.results.toList fun vs=>Eu ks vs fun t=>K t h') w.heap→
  LeavesInM (FW none) n P fn a.tmps (fun e w'=>Tame g w'∧∃t:uc ks,e=.returned (Bf ks (lO ks t))∧K t w'.heap) (ms.map pL) .returning w
 | [],w,ht,h=>by
  obtain⟨t,b,i⟩:=Lq c h;exact⟨_,b,ht,t,rfl,i⟩
 | .it D::ms,w,ht,h=>by
  refine⟨by simp,.inl ⟨D,_,rfl,run_takeDeferred h.1,?_⟩⟩;exact vV c ms (w.putObj D (.deferred none)) (ht.trans (nW ..)) h.2
 | .call f vs::ms,w,ht,h=>by
  obtain⟨hc,hd⟩:=h w rfl;refine⟨by simp,.inr ⟨(fun e=>by cases e),.func f,#[],f,vs.toArray,rfl,?_,fun _ _=>trivial,CallsDIn.mono (hd (n-1)) fun e u w' ⟨k,d,⟨v,j⟩,m⟩=>?_⟩⟩
  ·have:=hc vs.toArray w
   simpa[invoke]using this
  ·subst k j
   exact vV c ms w' (ht.trans d) m
theorem HE.introM(m:P.follows .mixedOrders=true){f:FuncId}{fn:Func}{c:Code}{q:Ann}{args:List Value}{ks:List Kind}{K:uc ks→ad→Prop}{h:ad}
  (y:P.funcs[f]? =some fn) (u:fn.body=some c) (d:∀(args:Array Value) (w:World),(callFunc f args).run P w=.ok (.enter f args) w) (k:args.length≤fn.ntmps)
  (v:Nc P fn c q args ks K h):HE P f args ks K h:=by
 refine⟨fun w x=>⟨d,?_⟩⟩
 subst x;refine(callsIn_wide (n:=0)).1 (callsIn_of_wp_marks (F:=FW none) y u trivial ?_ rfl);refine wpIn_mono (Q:=fun e a w'=>(∀o,e≠ .panic o)∧bodyPostM (FW none) 0 P fn (fun e w'=>Tame w w'∧∃t:uc ks,e=.returned (Bf ks (lO ks t))∧K t w'.heap) e a w') ?_ fun e a w h=>h.2
 refine Jv m c q _ _ [] _ _ w _ v (Oo k) rfl (fun o a w h=>h.1 o rfl) ?_ (fun _ _ _ _ _ _ _ _ h=>h.elim) ?_
 ·intro i s a' w' g b j p
  refine⟨(fun _ e=>by cases e),?_⟩
  show LeavesInM _ _ _ _ _ _ a'.defers _ _
  rw[b];exact vV g i w' j p
 ·intro i s a' w' g b j p
  refine⟨(fun _ e=>by cases e),?_⟩
  show LeavesInM _ _ _ _ _ _ a'.defers _ _
  rw[b];exact vV g i w' j p
theorem HC.introM(d:P.follows .mixedOrders=true){f:FuncId}{fn:Func}{c:Code}{g:Ann}{args:List Value}{ks:List Kind}{K:uc ks→ad→Prop}{h:ad}
 (j:P.funcs[f]? =some fn) (e:fn.body=some c) (a:∀(args:Array Value) (w:World),(callFunc f args).run P w=.ok (.enter f args) w) (b:args.length≤fn.ntmps)
 (i:Nc P fn c g args ks K h):HC P f args ks K h:=(HE.introM d j e a b i).hc
end Go.Lift
namespace Go.Lift
open Go
def AppP(z:Option (List Value))(e b:Nat)(t:TypeId)(a:Option Addr)(sl d c:Nat)(xs:List Value)(h:ad)(K:SliceV→ad→Prop):Prop:=
 (sl+c≤d→td h a (sl*e) xs∧cj xs=true∧K ⟨a,sl+c,d⟩ (eR h a (sl*e) xs))∧
 (d<sl+c→∃old z',SRow h a (sl*e) old∧z=some z'∧0<b∧Builtin.nextslicecap (sl+c) d*b≤2^48∧
  ∀nc,sl+c≤nc→K ⟨some (aJ h),sl+c,nc⟩ (hnew h (old++xs++de (nc-(sl+c)) z') t))
def NextS(a:Addr)(h:ad)(Kend:Prop)(Kstep:Nat→UInt8→ad→Prop):Prop:=
 a.off=0∧∃s pos,h[a.block]? =some (.stringIter s pos)∧
  ((s.size≤pos∧Kend)∨(∃b:UInt8,s[pos]? =some b∧b.toNat<128∧Kstep pos b (h.setIfInBounds a.block (.stringIter s (pos+1)))))
end Go.Lift
