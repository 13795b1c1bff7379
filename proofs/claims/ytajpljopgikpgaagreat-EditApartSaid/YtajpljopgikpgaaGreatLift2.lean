/- A part of the proof that the named laws of this program answer true, whatever the input. -/
import Derived.Test.YtajpljopgikpgaaGreatLift1
import Derived.BigFrameIn
open Array renaming getD_eq_getD_getElem?→cg,getElem?_toList→aO,getElem?_setIfInBounds_ne→dh,replicate→j6,getElem?_eq_some_iff→bw,getElem?_eq_getElem→fX,getElem?_eq_none→gV,mapM_eq_mapM_toList→jz,ext'→bZ
open Bool renaming or_eq_true→f9,and_eq_true→aS,or_eq_false_iff→iS
open List renaming mem_of_getElem?→au,length_cons→aL,mem_cons→ar,getElem?_cons_zero→bU,getElem?_eq_getElem→aj,any_eq_true→bH,getElem?_eq_some_iff→aP,mem_cons_of_mem→aI,mem_cons_self→ax,range→bW,filter_cons→cR,mem_singleton→ai,size_toArray→co
open Nat renaming blt→rN,beq→aX,eq_of_beq_eq_true→aF,land→gj,lor→bT,testBit_and→hG,zero_testBit→jv,succ→dX,zero_add→aC,beq_refl→m5,lt_or_ge→bP,pred→rA,sub_zero→dA
open Option renaming some→bj
namespace Go.Lift
open Go
variable {P:Program} {ro:Option Nat} {n:Nat}
def FW(ro:Option Nat):Fence:={fn:=fun _=>True,depth:=none,alive:=false,round:=ro}
theorem Gj(m:Machine):m.fenced P (FW ro):=by
 intro g _;exact⟨fun h=>by simp[FW]at h,.inl trivial,fun _ _=>trivial,fun d h=>by simp[FW]at h⟩
theorem sI{m a:Machine}(h:Steps P m a):StepsIn (Machine.fenced P (FW ro)) P m a:=(StepsIn.of_steps h).mono fun m _=>Gj m
theorem yJ{k:Nat}{f:FuncId}{args:Array Value}{w:World}{R:Ending→World→Prop}(h:Calls P f args w R):CallsIn (FW ro) k P f args w R:=by
 refine⟨trivial,fun cs _=>?_⟩
 obtain⟨e,w',fr,d,hc,a,b⟩:=h cs;refine⟨e,w',fr,d,?_,a,b⟩;cases e with
 |returned v=>exact sI hc
 |panicked c=>exact sI hc
 |outgrown=>exact hc
theorem l8{o:Oper}{a:Act}{w:World}{K:WK}{next:Act→World→Prop}{Q:Exit→Act→World→Prop}(hd:∀c,o.op≠ .defer c)(h:CW P (execOp a.eval o) K w)
  (j:∀v w',Tame w w'→K v w'.heap→next (a.put o.dst v) w'):o.wpIn (FW ro) n P a w next Q:=by
 refine⟨fun _ _=>trivial,?_⟩
 rw[Oper.semAt_eq _ _ _ hd];rcases h with⟨v,w',d,g,i⟩|⟨w',d,g,i⟩|⟨f,args,d,hc⟩|⟨l,fn,tmps,assign,body,d,hc⟩
 ·rw[d];exact j v w' g i
 ·rw[d];exact j undef w' g i
 ·rw[d]
  refine⟨fun h=>by simp[FW]at h,yJ (hc.mono ?_)⟩
  rintro e w' ⟨g,v,rfl,i⟩;exact j v w' g i
 ·rw[d]
  refine⟨fun h=>by simp[FW]at h,trivial,fun c cs _=>?_⟩
  obtain⟨b,w',g,i,k⟩:=hc c cs;exact⟨.returned (.bool b),w',j _ w' g i,sI k⟩
theorem ox{N:Nat}{o:Oper}{v:Value}{r:bJ}{K:bJ→Prop}{a:Act}{d:pT}{dv:DV}(h:tc N o v r K)(c:Agree N r a)(hd:DecOk d r)(hv:zB dv v):
  ∃r',K r'∧Agree N r' (a.put o.dst v)∧DecOk (mZ d o dv) r':=by
 unfold tc at h;unfold mZ;cases ho:o.dst with
 |none=>rw[ho]at h;exact⟨r,h,c,hd⟩
 |some t=>
  rw[ho]at h;simp only at h;cases hb:rN t N with
  |false=>rw[hb]at h;exact h.elim
  |true=>
   rw[hb]at h;have b:t<N:=by simpa using hb
   refine⟨_,h,c.put t v b,fun s=>?_⟩
   by_cases e:t=s
   ·subst e
    have:mN ((t,dv)::d) t=dv:=by simp[mN]
    rw[this];exact .inr ⟨v,fF t v r,hv⟩
   ·have f:mN ((t,dv)::d) s=mN d s:=by
     have:aX t s=false:=Bool.eq_false_iff.2 fun e'=>e (aF e')
     show(bif aX t s then dv else mN d s)=_
     rw[this];rfl
    rw[f,eY v r e];exact hd s
theorem wz{ek:Option (Kind×Kind)}{o:Op}{r:bJ}{K:RK}{h:ae}(a:uY P ek o r K h):∀c,o≠ .defer c:=by
 intro c e;subst e;exact a
theorem qK{o:Oper}{r:bJ}{K:WK}{h:ae}(a:y6 P o r K h):∀c,o.op≠ .defer c:=by
 intro c e;unfold y6 at a;rw[e]at a;exact a
theorem Lp{d:pT}{o:Op}(h:qz P o=false):BM d o=.x:=by
 cases o<;>first|rfl|(simp[qz]at h)
theorem FR{N:Nat}{ek:Option (Kind×Kind)}{o:Oper}{r:bJ}{K:bJ→ae→Prop}{a:Act}{w:World}{d:pT}{next:Act→World→Prop}{Q:Exit→Act→World→Prop}
  (b:KP P N ek o r K w.heap)(i:Agree N r a)(hd:DecOk d r)
  (p:∀v w' e,Tame w w'→K e w'.heap→Agree N e (a.put o.dst v)→DecOk (mZ d o (BM d o.op)) e→next (a.put o.dst v) w'):o.wpIn (FW ro) n P a w next Q:=by
 unfold KP at b;cases hq:qz P o.op with
 |true=>
  rw[hq,cond_true]at b;obtain⟨v,S,m,x,j,t⟩:=vl i b d hd;refine l8 (K:=fun u s=>u=v∧s=w.heap) (wz b) (.inl ⟨v,w,t w x,Tame.refl w,rfl,rfl⟩) ?_
  rintro u w' k ⟨rfl,q⟩;obtain⟨e,f,g,c⟩:=ox m i hd j;exact p u w' e k (by rw[q];exact f) g c
 |false=>
  rw[hq,cond_false]at b;refine l8 (qK b) (u1 i b) ?_;intro v w' k m;obtain⟨e,f,g,c⟩:=ox m i hd (dv:=BM d o.op) (by rw[Lp hq];trivial);exact p v w' e k f g c
theorem Ai{t:Array Value}{i:Nat}{b:Bool}(h:t.getD i undef=.bool b):t[i]? =some (.bool b):=by
 rw[cg]at h;cases hc:t[i]? with
 |none=>rw[hc]at h;simp[undef]at h
 |some v=>rw[hc]at h;simp at h;rw[h]
theorem Ec{t:Array Value}{i:Nat}(h:t.getD i undef=undef):t[i]? =none∨t[i]? =some undef:=by
 rw[cg]at h;cases hc:t[i]? with
 |none=>exact .inl rfl
 |some v=>rw[hc]at h;simp at h;rw[h];exact .inr rfl
theorem jJ{N:Nat}{ops:Array Oper}{d:pT}{o:Oper}{b:Bool}{r:bJ}{a:Act}(h:fT ops.toList d o=some b)(n:Agree N r a)(hd:DecOk d r):
  Region.wanted o (yielded ops a.tmps)=b:=by
 unfold fT at h;unfold Region.wanted;cases hg:o.guard with
 |none=>rw[hg]at h;simp only[bj.injEq]at h;exact h
 |some g=>
  obtain⟨j,c⟩:=g;rw[hg]at h;simp only[aO]at h;simp only;cases hj:ops[j]? with
  |none=>rw[hj]at h;cases h
  |some oj=>
   rw[hj]at h;simp only at h;cases ht:oj.dst with
   |none=>rw[ht]at h;cases h
   |some t=>
    rw[ht]at h;simp only at h;have m:yielded ops a.tmps j=(match a.tmps[t]? with|some (.bool b)=>some b|_=>none):=by
     unfold yielded;simp[hj,ht];rfl
    rw[m];rcases hd t with hx|⟨v,hv,k⟩
    ·rw[hx]at h;cases h
    ·have i:=n.look t v hv
     cases hdl:mN d t with
     |x=>rw[hdl]at h;cases h
     |t=>
      rw[hdl]at h k;simp only[bj.injEq]at h;subst h;have:v=.bool true:=k;subst this;rw[Ai i];cases c<;>rfl
     |f=>
      rw[hdl]at h k;simp only[bj.injEq]at h;subst h;have:v=.bool false:=k;subst this;rw[Ai i];cases c<;>rfl
     |u=>
      rw[hdl]at h k;simp only[bj.injEq]at h;subst h;have:v=undef:=k;subst this;rcases Ec i with e|e<;>rw[e]<;>cases c<;>rfl
structure Fr(W:Nat→Prop)(a0:Act)(w0:World)(a:Act)(w:World):Prop where
 tame:Tame w0 w
 defers:a.defers=a0.defers
 same:∀t,¬W t→a.tmps.getD t undef=a0.tmps.getD t undef
theorem Fr.refl(W:Nat→Prop)(a:Act)(w:World):Fr W a w a w:=⟨Tame.refl w,rfl,fun _ _=>rfl⟩
theorem Fr.put{W:Nat→Prop}{f a:Act}{w0 w w':World}(h:Fr W f w0 a w){o:Oper}(g:∀d,o.dst=some d→W d)(v:Value)(i:Tame w w'):Fr W f w0 (a.put o.dst v) w':=by
 refine⟨h.tame.trans i,?_,fun t c=>?_⟩
 ·cases ho:o.dst<;>simp[Act.put,h.defers]
 ·cases ho:o.dst with
  |none=>exact h.same t c
  |some d=>
   have b:d≠t:=fun e=>c (e▸g d ho)
   rw[←h.same t c];simp[Act.put,dh b]
theorem Fr.trans{W:Nat→Prop}{a d b:Act}{w0 f c:World}(h:Fr W a w0 d f)(k:Fr W d f b c):Fr W a w0 b c:=
 ⟨h.tame.trans k.tame,k.defers.trans h.defers,fun t e=>(k.same t e).trans (h.same t e)⟩
theorem Fr.mono{W W':Nat→Prop}{b a:Act}{w0 w:World}(h:Fr W b w0 a w)(c:∀t,W t→W' t):Fr W' b w0 a w:=
 ⟨h.tame,h.defers,fun t d=>h.same t fun e=>d (c t e)⟩
theorem DecOk.known{d:pT}{r:bJ}(h:DecOk d r){t:Nat}{dv:DV}{v:Value}(hv:zB dv v):DecOk ((t,dv)::d) ((t,v)::r):=fun s=>by
 by_cases e:t=s
 ·subst e
  have:mN ((t,dv)::d) t=dv:=by simp[mN]
  rw[this];exact .inr ⟨v,fF t v r,hv⟩
 ·have a:mN ((t,dv)::d) s=mN d s:=by
   have:aX t s=false:=Bool.eq_false_iff.2 fun e'=>e (aF e')
   show(bif aX t s then dv else mN d s)=_
   rw[this];rfl
  rw[a,eY v r e];exact h s
theorem xC{N:Nat}{ek:Option (Kind×Kind)}{ops:Array Oper}{o:Oper}{i:Nat}{d:pT}{r:bJ}{a:Act}{w:World}{b:Bool}{K:pT→bJ→ae→Prop}{next:Act→World→Prop}{Q:Exit→Act→World→Prop}
  (hi:ops[i]? =some o) (p:fT ops.toList d o=some b) (g:Agree N r a) (hd:DecOk d r)
  (k:match b with
   |true=>KP P N ek o r (K (mZ d o (BM d o.op))) w.heap
   |false=>tc N o undef r fun c=>K (mZ d o .u) c w.heap)
  (m:∀v w' d' c,Tame w w'→K d' c w'.heap→Agree N c (a.put o.dst v)→DecOk d' c→next (a.put o.dst v) w'):
  wpOpIn (FW ro) n P ops Q i next a w:=by
 unfold wpOpIn;rw[hi];simp only[jJ p g hd];cases b with
 |true=>exact FR k g hd fun v w' c q s f e=>m v w' _ c q s f e
 |false=>
  obtain⟨c,j,f,e⟩:=ox (dv:=.u) k g hd rfl;exact⟨fun _ _=>trivial,m undef w _ c (Tame.refl w) j f e⟩
theorem FQ{N:Nat}{ek:Option (Kind×Kind)}{ops:List Oper}{o:Oper}{os:List Oper}{d:pT}{K:bJ→ae→Prop}{r:bJ}{h:ae}:xY P N ek ops (o::os) d K r h=
 (match fT ops d o with
 |some true=>KP P N ek o r (fun a c=>xY P N ek ops os (mZ d o (BM d o.op)) K a c) h
 |some false=>tc N o undef r fun a=>xY P N ek ops os (mZ d o .u) K a h
 |none=>match yu ops o with
  |none=>False
  |some t=>match gG r t with
   |some (.bool b)=>CondP b
    (zL P N ek ops o ((t,.t)::d) ((t,.bool true)::r) h fun e a c=>xY P N ek ops os e K a c)
    (zL P N ek ops o ((t,.f)::d) ((t,.bool false)::r) h fun e a c=>xY P N ek ops os e K a c)
   |_=>False):=rfl
theorem zF{N:Nat}{ek:Option (Kind×Kind)}{ops:Array Oper}{o:Oper}{i:Nat}{d:pT}{r:bJ}{a:Act}{w:World}{K:pT→bJ→ae→Prop}{next:Act→World→Prop}{Q:Exit→Act→World→Prop}
  (hi:ops[i]? =some o) (e:Agree N r a) (hd:DecOk d r) (c:zL P N ek ops.toList o d r w.heap K)
  (f:∀v w' d' r',Tame w w'→K d' r' w'.heap→Agree N r' (a.put o.dst v)→DecOk d' r'→next (a.put o.dst v) w'):
  wpOpIn (FW ro) n P ops Q i next a w:=by
 unfold zL at c;cases hw:fT ops.toList d o with
 |none=>rw[hw]at c;exact c.elim
 |some b=>rw[hw]at c;exact xC (ek:=ek) hi hw e hd (by cases b<;>exact c) f
theorem xX{N:Nat}{ek:Option (Kind×Kind)}{ops:Array Oper}{W:Nat→Prop}(p:∀o∈ops.toList,∀d,o.dst=some d→W d){q:Act}{w0:World}{K:bJ→ae→Prop}{Q:Exit→Act→World→Prop}
  (u:∀r a w,Agree N r a→Fr W q w0 a w→K r w.heap→Q .normal a w):
  ∀(l:List Oper) (i:Nat),ops.toList.drop i=l→∀(d:pT) (r:bJ) (a:Act) (w:World),xY P N ek ops.toList l d K r w.heap→Agree N r a→DecOk d r→Fr W q w0 a w→
   wpOpsIn (FW ro) n P ops Q (List.range' i l.length) a w
 | [],i,_,d,r,a,w,hs,ha,hd,hf=>u r a w ha hf hs
 |o::os,i,hdr,d,r,a,w,hs,ha,hd,hf=>by
  have hi:ops[i]? =some o:=by
   rw[←aO];have:(ops.toList.drop i)[0]? =some o:=by rw[hdr];rfl
   simpa using this
  have f:o∈ops.toList:=au (by rw[aO];exact hi);have g:ops.toList.drop (i+1)=os:=by rw[←List.tail_drop,hdr];rfl
  rw[aL,List.range'_succ,wpOpsIn_cons];rw[FQ]at hs;have j:∀v w' e c,Tame w w'→xY P N ek ops.toList os e K c w'.heap→Agree N c (a.put o.dst v)→DecOk e c→wpOpsIn (FW ro) n P ops Q (List.range' (i+1) os.length) (a.put o.dst v) w':=
   fun v w' e c s y m k=>xX p u os (i+1) g e c _ w' y m k (hf.put (p o f) v s)
  cases hw:fT ops.toList d o with
  |some b=>
   rw[hw]at hs;exact xC (ek:=ek) (K:=fun e c x=>xY P N ek ops.toList os e K c x) hi hw ha hd (by cases b<;>exact hs) j
  |none=>
   rw[hw]at hs;simp only at hs;split at hs
   ·exact hs.elim
   ·rename_i t s
    split at hs
    ·rename_i b hb
     cases b with
     |true=>exact zF hi (ha.known hb) (hd.known (dv:=.t) rfl) (hs.yes rfl) j
     |false=>exact zF hi (ha.known hb) (hd.known (dv:=.f) rfl) (hs.no rfl) j
    ·exact hs.elim
end Go.Lift
namespace Go.Lift
open Go
theorem tO(m i:Nat):tb m i=m.testBit i:=by
 have h:gj (Nat.shiftRight m i) 1=(m>>>i)&&&1:=rfl;unfold tb;rw[h,Nat.testBit_eq_decide_div_mod_eq,Nat.and_one_is_mod,Nat.shiftRight_eq_div_pow];cases hm:decide (m/2^i%2=1)with
 |true=>rw[of_decide_eq_true hm];rfl
 |false=>
  have a:=of_decide_eq_false hm;have:m/2^i%2=0:=by omega
  rw[this];rfl
theorem km(a b i:Nat):(bT a b).testBit i=(a.testBit i||b.testBit i):=Nat.testBit_or a b i
theorem tg(i j:Nat):(eX i).testBit j=decide (i=j):=Nat.testBit_two_pow
theorem vH{a b:Nat}(h:aX (gj a b) 0=true)(t:Nat)(e:a.testBit t=true)(c:b.testBit t=true):False:=by
 have d:=aF h;have:(gj a b).testBit t=(a.testBit t&&b.testBit t):=hG a b t;rw[d,e,c]at this;simp at this
theorem Jr{a b:Nat}(h:aX (gj a b) a=true)(t:Nat)(d:a.testBit t=true):b.testBit t=true:=by
 have c:=aF h;have:(gj a b).testBit t=(a.testBit t&&b.testBit t):=hG a b t;rw[c,d]at this;simpa using this.symm
theorem sh(i:Nat):∀l:List Edge,(jo l).testBit i=l.any fun e=>aX e.on i&&Region.binds .any e
 | []=>jv i
 |e::l=>by
  have a:=sh i l;have hc:jo (e::l)=bif Region.binds .any e then bT (eX e.on) (jo l)else jo l:=rfl;rw[hc,List.any_cons,←a];cases hb:Region.binds .any e with
  |true=>
   rw[cond_true,km,tg,Bool.and_true];congr 1
   cases hd:aX e.on i with
   |true=>simpa using aF hd
   |false=>rw[decide_eq_false_iff_not];intro e';rw[e']at hd;simp at hd
  |false=>simp
theorem ur(o:Oper)(i:Nat):(jo o.after.toList).testBit i=fU o i:=sh i o.after.toList
theorem tN(t:Nat):∀l:List Operand,(iC l).testBit t=true↔Operand.tmp t∈l
 | []=>by simp[show iC []=0 from rfl]
 |o::l=>by
  have a:=tN t l;cases o with
  |tmp u=>
   have hc:iC (.tmp u::l)=bT (eX u) (iC l):=rfl;rw[hc,km,tg,f9,a,ar];simp[eq_comm]
  |const v=>
   have hc:iC (.const v::l)=iC l:=rfl;rw[hc,a,ar];simp
  |global v=>
   have hc:iC (.global v::l)=iC l:=rfl;rw[hc,a,ar];simp
  |func v=>
   have hc:iC (.func v::l)=iC l:=rfl;rw[hc,a,ar];simp
theorem rl(o:Oper)(t:Nat):(j1 o).testBit t=true↔o.dst=some t:=by
 unfold j1;cases o.dst with
 |none=>simp
 |some d=>simp[tg]
theorem zi(ops:Array Oper)(o:Oper)(t:Nat):(kB ops.toList o).testBit t=true↔t∈o.looksAt ops:=by
 unfold kB Oper.looksAt;rw[km,f9,tN,List.mem_append,List.mem_filterMap];refine or_congr ⟨fun h=>⟨_,h,rfl⟩,?_⟩ ?_
 ·rintro⟨x,hx,a⟩
  cases x<;>simp at a
  subst a;exact hx
 ·cases hg:o.guard with
  |none=>simp
  |some g=>
   obtain⟨j,b⟩:=g;simp only[aO];cases hj:ops[j]? with
   |none=>simp
   |some oj=>simp[rl]
variable {P:Program} {ro:Option Nat} {n:Nat} {ops:Array Oper} {Q:Exit→Act→World→Prop}
structure MsOk(ops:Array Oper)(ms:List DM):Prop where
 am:∀(i:Nat) (o:Oper) (m:DM),ops[i]? =some o→ms[i]? =some m→∀j,m.am.testBit j=fU o j
 lk:∀(i:Nat) (o:Oper) (m:DM),ops[i]? =some o→ms[i]? =some m→∀t,m.lk.testBit t=true↔t∈o.looksAt ops
 ds:∀(i:Nat) (o:Oper) (m:DM),ops[i]? =some o→ms[i]? =some m→∀t,m.ds.testBit t=true↔o.dst=some t
 len:ms.length=ops.size
 free:∀(i j:Nat) (m k:DM),ms[i]? =some m→ms[j]? =some k→m.fr.testBit j=true→j=i∨k.am.testBit i=true∨vK m k=true
 nosel:∀(i:Nat) (o:Oper),ops[i]? =some o→(∀cs b,o.op≠ .select cs b)∧(∀c,o.op≠ .defer c)
theorem uc(ops:List Oper):∀(l:List Oper) (ms:List DM),qT ops l ms=true→ms.length=l.length∧∀(i:Nat) (o:Oper) (m:DM),l[i]? =some o→ms[i]? =some m→
  m.am=jo o.after.toList∧m.lk=kB ops o∧m.ds=j1 o
 | [],[],_=>⟨rfl,fun i o m h=>by simp at h⟩
 | [],_::_,h=>by cases h
 |o::l,[],h=>by cases h
 |o::l,m::ms,h=>by
  have hc:qT ops (o::l) (m::ms)=(aX (jo o.after.toList) m.am&&aX (kB ops o) m.lk&&aX (j1 o) m.ds&&qT ops l ms):=rfl;rw[hc]at h;simp only[aS]at h;obtain⟨⟨⟨c,j⟩,e⟩,d⟩:=h;obtain⟨f,b⟩:=uc ops l ms d;refine⟨by simp[f],fun i g k a hm=>?_⟩
  cases i with
  |zero=>
   simp only[bU,bj.injEq]at a hm;subst a;subst hm;exact⟨(aF c).symm,(aF j).symm,(aF e).symm⟩
  |succ i=>exact b i g k (by simpa using a) (by simpa using hm)
theorem Aj(i:Nat)(m:DM):∀(l:List DM) (j0:Nat),Ak i m l j0=true→∀(j:Nat) (k:DM),l[j]? =some k→m.fr.testBit (j0+j)=true→j0+j=i∨k.am.testBit i=true∨vK m k=true
 | [],j0,_,j,k,hk,_=>by simp at hk
 |x::l,j0,h,j,k,hk,hb=>by
  have hc:Ak i m (x::l) j0=((!(tb m.fr j0)||aX j0 i||tb x.am i||vK m x)&&Ak i m l (dX j0)):=rfl
  rw[hc]at h;simp only[aS,f9,Bool.not_eq_true',tO]at h;cases j with
  |zero=>
   simp only[bU,bj.injEq]at hk;subst hk;simp only[Nat.add_zero]at hb⊢;rcases h.1 with((a|a)|a)|a
   ·rw[a]at hb;cases hb
   ·exact .inl (aF a)
   ·exact .inr (.inl a)
   ·exact .inr (.inr a)
  |succ j=>
   have:=Aj i m l (j0+1) h.2 j k (by simpa using hk) (by rw[show j0+1+j=j0+(j+1) by omega];exact hb)
   rw[show j0+1+j=j0+(j+1) by omega]at this
   exact this
theorem wE(a:List DM):∀(l:List DM) (i0:Nat),uh a l i0=true→∀(i:Nat) (m:DM),l[i]? =some m→Ak (i0+i) m a 0=true
 | [],i0,_,i,m,hm=>by simp at hm
 |x::l,i0,h,i,m,hm=>by
  have hc:uh a (x::l) i0=(Ak i0 x a 0&&uh a l (dX i0)):=rfl;rw[hc,aS]at h;cases i with
  |zero=>simp only[bU,bj.injEq]at hm;subst hm;exact h.1
  |succ i=>
   have:=wE a l (i0+1) h.2 i m (by simpa using hm);rw[show i0+1+i=i0+(i+1) by omega]at this
   exact this
theorem zY:∀(l:List Oper),Cw l=true→∀o∈l,(∀cs b,o.op≠ .select cs b)∧(∀c,o.op≠ .defer c)
 | [],_,o,a=>by cases a
 |x::l,h,o,a=>by
  simp only[Cw,aS]at h;rcases ar.1 a with rfl|a
  ·refine⟨fun cs b e=>?_,fun c e=>?_⟩
   ·rw[e]at h;cases h.1
   ·rw[e]at h;cases h.1
  ·exact zY l h.2 o a
theorem DQ{ms:List DM}(h:xt ops.toList ms=true):MsOk ops ms:=by
 have hc:xt ops.toList ms=(qT ops.toList ops.toList ms&&uh ms ms 0&&Cw ops.toList):=rfl;rw[hc]at h;simp only[aS]at h;obtain⟨⟨c,f⟩,d⟩:=h;obtain⟨e,b⟩:=uc ops.toList ops.toList ms c;refine⟨fun i o m a hm j=>?_,fun i o m a hm t=>?_,fun i o m a hm t=>?_,by simpa using e,fun i j m k hm g n=>?_,fun i o a=>?_⟩
 ·rw[(b i o m (by simpa using a) hm).1,ur]
 ·rw[(b i o m (by simpa using a) hm).2.1,zi]
 ·rw[(b i o m (by simpa using a) hm).2.2,rl]
 ·have:=wE ms ms 0 f i m hm
  rw[aC]at this;have:=Aj i m ms 0 this j k g (by rwa [aC]);rwa [aC]at this
 ·exact zY _ d o (au (by rw[aO];exact a))
theorem Iq{ms:List DM}(hm:MsOk ops ms){i j:Nat}{c b:Oper}{f g:DM}(hi:ops[i]? =some c) (k:ops[j]? =some b) (a:ms[i]? =some f) (e:ms[j]? =some g) (h:vK f g=true):
  (∀d,c.dst=some d→d∉b.looksAt ops)∧(∀d,c.dst=some d→b.dst≠some d)∧(∀d,b.dst=some d→d∉c.looksAt ops):=by
 unfold vK at h;rw[aS]at h;refine⟨fun d hd m=>?_,fun d hd n=>?_,fun d hd m=>?_⟩
 ·exact vH h.1 d ((hm.ds i c f hi a d).2 hd) (by rw[km,(hm.lk j b g k e d).2 m,Bool.true_or])
 ·exact vH h.1 d ((hm.ds i c f hi a d).2 hd) (by rw[km,(hm.ds j b g k e d).2 n,Bool.or_true])
 ·exact vH h.2 d ((hm.ds j b g k e d).2 hd) ((hm.lk i c f hi a d).2 m)
structure LsRel(ops:Array Oper)(ls:Nat)(listed:Array Bool):Prop where
 size:listed.size=ops.size
 bit:∀j,listed.getD j false=ls.testBit j
theorem LsRel.start:LsRel ops 0 (j6 ops.size false):=⟨by simp,fun j=>by
 rw[jv,cg]
 by_cases h:j<ops.size<;>simp[h]⟩
theorem LsRel.put{ls:Nat}{listed:Array Bool}(h:LsRel ops ls listed){i:Nat}(hi:i<ops.size):LsRel ops (bT ls (eX i)) (listed.setIfInBounds i true):=by
 refine⟨by simp[h.size],fun j=>?_⟩
 rw[km,tg,←h.bit];by_cases e:i=j
 ·subst e;simp[h.size,hi]
 ·simp[e,dh e]
theorem LsRel.unlisted{ls:Nat}{listed:Array Bool}(h:LsRel ops ls listed){i:Nat}(hi:i<ops.size):listed.getD i true=ls.testBit i:=by
 rw[←h.bit];have:i<listed.size:=by rw[h.size];exact hi
 simp[this]
theorem zS{ms:List DM}(hm:MsOk ops ms){ls:Nat}{listed:Array Bool}(h:LsRel ops ls listed){j:Nat}:j∈Region.ready .any ops listed↔∃m,ms[j]? =some m∧ls.testBit j=false∧BK m ls=true:=by
 rw[mem_ready];constructor
 ·rintro⟨k,o,n,b⟩
  have a:j<ops.size:=(bw.1 n).1;have d:j<ms.length:=by rw[hm.len];exact a
  refine⟨ms[j],aj d,by rw[←h.unlisted a];exact k,?_⟩
  unfold BK;have:gj (ms[j]).am ls=(ms[j]).am:=by
   apply Nat.eq_of_testBit_eq;intro t;have c:(gj (ms[j]).am ls).testBit t=((ms[j]).am.testBit t&&ls.testBit t):=hG _ _ t;rw[c];cases ht:(ms[j]).am.testBit t with
   |false=>rfl
   |true=>
    rw[hm.am j o _ n (aj d)]at ht;unfold fU at ht;obtain⟨e,i,f⟩:=bH.1 ht;simp only[aS]at f;have:=b e (by simpa using i) f.2;rw[aF f.1,h.bit]at this;rw[this];rfl
  rw[this];exact m5 _
 ·rintro⟨m,g,k,p⟩
  have a:j<ops.size:=by rw[←hm.len];exact(aP.1 g).1
  refine⟨by rw[h.unlisted a];exact k,ops[j],fX a,fun e i f=>?_⟩
  rw[h.bit];refine Jr p e.on ?_;rw[hm.am j _ m (fX a) g];unfold fU;exact bH.2 ⟨e,by simpa using i,by simp[f]⟩
theorem m9(ls:Nat):∀(l:List DM) (j0 j:Nat),j∈iH ls l j0↔∃k m,l[k]? =some m∧j=j0+k∧ls.testBit j=false∧BK m ls=true
 | [],j0,j=>by simp[show iH ls [] j0= []from rfl]
 |m::l,j0,j=>by
  have hc:iH ls (m::l) j0=bif !(tb ls j0)&&BK m ls then j0::iH ls l (dX j0)else iH ls l (dX j0):=rfl;have e:=m9 ls l (j0+1) j;rw[hc,tO];have step:(∃k c,(m::l)[k]? =some c∧j=j0+k∧ls.testBit j=false∧BK c ls=true)↔(j=j0∧ls.testBit j0=false∧BK m ls=true)∨j∈iH ls l (j0+1):=by
   rw[e];constructor
   ·rintro⟨k,c,d,rfl,a,b⟩
    cases k with
    |zero=>simp only[bU,bj.injEq]at d;subst d;exact .inl ⟨rfl,a,b⟩
    |succ k=>exact .inr ⟨k,c,by simpa using d,by omega,a,b⟩
   ·rintro(⟨rfl,a,b⟩|⟨k,c,d,rfl,a,b⟩)
    ·exact⟨0,m,rfl,rfl,a,b⟩
    ·exact⟨k+1,c,by simpa using d,by omega,a,b⟩
  rw[step];cases hb:(!(ls.testBit j0)&&BK m ls)with
  |true=>
   simp only[aS,Bool.not_eq_true']at hb;rw[cond_true,ar];simp[hb.1,hb.2]
  |false=>
   rw[cond_false];constructor
   ·exact .inr
   ·rintro(⟨_,a,b⟩|h)
    ·rw[a,b]at hb;cases hb
    ·exact h
theorem ja{ms:List DM}(hm:MsOk ops ms){ls:Nat}{listed:Array Bool}(h:LsRel ops ls listed){j:Nat}:j∈Region.ready .any ops listed↔j∈iH ls ms 0:=by
 rw[zS hm h,m9];constructor
 ·rintro⟨m,a,c,b⟩;exact⟨j,m,a,by omega,c,b⟩
 ·rintro⟨k,m,a,rfl,c,b⟩;exact⟨m,by simpa using a,c,b⟩
theorem rF:∀{a b:List Nat},qd a b=true→a=b
 | [],[],_=>rfl
 | [],_::_,h=>by cases h
 |_::_,[],h=>by cases h
 |a::as,b::bs,h=>by
  simp only[qd,aS]at h;rw[aF h.1,rF h.2]
end Go.Lift
namespace Go.Lift
open Go
variable {P:Program} {ro:Option Nat} {n:Nat} {ops:Array Oper} {Q:Exit→Act→World→Prop}
theorem tM{m:Nat}{p:Nat→Bool}(hm:∀j,m.testBit j=true→p j=true):∀(l:List DM) (j0:Nat),(∀j x,l[j]? =some x→p (j0+j)=true→∀k,x.am.testBit k=true→p k=true)→∀k,(upM m l j0).testBit k=true→p k=true
 | [],_,_,k,h=>hm k h
 |x::l,j0,hl,k,h=>by
  have hc:upM m (x::l) j0=bif tb m j0 then bT x.am (upM m l (dX j0))else upM m l (dX j0):=rfl;have a:=tM hm l (j0+1) (fun j y b c=>hl (j+1) y (by simpa using b) (by rw[show j0+(j+1)=j0+1+j by omega];exact c)) k
  rw[hc,tO]at h;cases hb:m.testBit j0 with
  |true=>
   rw[hb,cond_true,km,f9]at h;rcases h with h|h
   ·exact hl 0 x rfl (hm _ hb) k h
   ·exact a h
  |false=>
   rw[hb,cond_false]at h;exact a h
theorem tL{m k:Nat}(h:m.testBit k=true):∀(l:List DM) (j0:Nat),(upM m l j0).testBit k=true
 | [],_=>h
 |x::l,j0=>by
  have hc:upM m (x::l) j0=bif tb m j0 then bT x.am (upM m l (dX j0))else upM m l (dX j0):=rfl;have a:=tL h l (j0+1);rw[hc];cases tb m j0 with
  |true=>rw[cond_true,km,f9];exact .inr a
  |false=>exact a
def Shut(ms:List DM)(listed:Array Bool):Prop:=∀j x,ms[j]? =some x→listed.getD j false=true→∀k,x.am.testBit k=true→listed.getD k false=true
theorem Gs{ms:List DM}{listed:Array Bool}(c:Shut ms listed){m:Nat}(hm:∀j,m.testBit j=true→listed.getD j false=true){k:Nat}(h:(uk ms m).testBit k=true):listed.getD k false=true:=by
 have a:∀j x,ms[j]? =some x→(fun k=>listed.getD k false) (0+j)=true→∀k,x.am.testBit k=true→(fun k=>listed.getD k false) k=true:=fun j x hx b=>c j x hx (by rw[aC]at b;exact b)
 unfold uk at h;exact tM (p:=fun k=>listed.getD k false) (tM (tM (tM hm ms 0 a) ms 0 a) ms 0 a) ms 0 a k h
theorem Aq{ms:List DM}{m k:Nat}(h:m.testBit k=true):(uk ms m).testBit k=true:=by
 unfold uk;exact tL (tL (tL (tL h ms 0) ms 0) ms 0) ms 0
noncomputable abbrev rel(ms:List DM)(i:Nat)(L:mE):mE:=tV (uk ms (Bx ms i)) L
theorem gu{m:Nat}{x:Nat×(ae→Prop)}:∀{L:mE},x∈tV m L↔x∈L∧tb m x.1=false
 | []=>by simp[tV]
 |(k,S)::L=>by
  have b:=gu (m:=m) (x:=x) (L:=L);simp only[tV];cases hk:tb m k with
  |true=>
   rw[cond_true,b,ar];constructor
   ·exact fun h=>⟨.inr h.1,h.2⟩
   ·rintro⟨h|h,a⟩
    ·subst h;rw[hk]at a;cases a
    ·exact⟨h,a⟩
  |false=>
   rw[cond_false,ar,b,ar];constructor
   ·rintro(h|h)
    ·subst h;exact⟨.inl rfl,hk⟩
    ·exact⟨.inr h.1,h.2⟩
   ·rintro⟨h|h,a⟩
    ·exact .inl h
    ·exact .inr ⟨h,a⟩
def GQ(ms:List DM)(ro:Option Nat)(n:Nat)(P:Program)(ops:Array Oper)(Q:Exit→Act→World→Prop):Nat→mE→Array Bool→Act→World→Prop
 |0,_,listed,a,w=>Region.ready .any ops listed= []∧Q .normal a w
 |f+1,L,listed,a,w=>(Region.ready .any ops listed= []→Q .normal a w)∧
  ∀i∈Region.ready .any ops listed,∀o,ops[i]? =some o→
   wpOpIn (FW ro) n P ops Q i (fun a' w'=>(∀x∈rel ms i L,x.2 w'.heap)∧GQ ms ro n P ops Q f (rel ms i L) (listed.setIfInBounds i true) a' w') a w
theorem qR{o:Oper}{x:Nat×(ae→Prop)}:∀{L:mE},x∈kH o L↔x∈L∧fU o x.1=false
 | []=>by simp[kH]
 |(k,S)::L=>by
  have b:=qR (o:=o) (x:=x) (L:=L);simp only[kH];cases hk:fU o k with
  |true=>
   rw[cond_true,b,ar];constructor
   ·exact fun h=>⟨.inr h.1,h.2⟩
   ·rintro⟨h|h,a⟩
    ·subst h;rw[hk]at a;cases a
    ·exact⟨h,a⟩
  |false=>
   rw[cond_false,ar,b,ar];constructor
   ·rintro(h|h)
    ·subst h;exact⟨.inl rfl,hk⟩
    ·exact⟨.inr h.1,h.2⟩
   ·rintro⟨h|h,a⟩
    ·exact .inl h
    ·exact .inr ⟨h,a⟩
theorem FZ{listed:Array Bool}{i:Nat}(h:i∈Region.ready .any ops listed):∃o,ops[i]? =some o:=by
 obtain⟨_,o,a,_⟩:=mem_ready.1 h;exact⟨o,a⟩
theorem EP{ms:List DM}:∀(f:Nat) (L:mE) (listed:Array Bool) (a:Act) (w:World),GQ ms ro n P ops Q f L listed a w→wpAnyIn (FW ro) n P .any ops Q f listed a w
 |0,_,_,_,_,h=>h
 |f+1,L,listed,a,w,h=>⟨h.1,fun i hi=>by
  obtain⟨o,c⟩:=FZ hi
  exact wpOpIn_mono (fun a' w' b=>EP f _ _ a' w' b.2) (h.2 i hi o c)⟩
theorem pp{ms:List DM}:∀(f:Nat) (L L':mE) (listed:Array Bool) (a:Act) (w:World),(∀x∈L',x∈L∨∀h,x.2 h)→GQ ms ro n P ops Q f L listed a w→GQ ms ro n P ops Q f L' listed a w
 |0,_,_,_,_,_,_,h=>h
 |f+1,L,L',listed,a,w,hs,h=>⟨h.1,fun i hi o d=>by
  have b:∀x∈rel ms i L',x∈rel ms i L∨∀h,x.2 h:=fun x hx=>(hs x (gu.1 hx).1).imp (fun h=>gu.2 ⟨h,(gu.1 hx).2⟩) id
  exact wpOpIn_mono (fun a' w' c=>⟨fun x hx=>(b x hx).elim (c.1 x) fun h=>h _,pp f _ _ _ a' w' b c.2⟩) (h.2 i hi o d)⟩
def YG(P:Program)(ops:Array Oper)(S:ae→Prop)(o:Oper)(v:Value)(a:Act):Prop:=
 (Region.wanted o (yielded ops a.tmps)=true∧∀w:World,S w.heap→(execOp a.eval o).run P w=.ok (.value v) w)∨
 (Region.wanted o (yielded ops a.tmps)=false∧v=undef)
theorem YG.wpOp{S:ae→Prop}{i:Nat}{o:Oper}{v:Value}{a:Act}(hi:ops[i]? =some o) (hd:∀c,o.op≠ .defer c) (d:YG P ops S o v a) {K:Act→World→Prop} {w:World} (e:S w.heap)
  (h:K (a.put o.dst v) w):wpOpIn (FW ro) n P ops Q i K a w:=by
 unfold wpOpIn;simp only[hi];rcases d with⟨b,hv⟩|⟨b,rfl⟩
 ·simp only[b,if_true]
  refine⟨fun _ _=>trivial,?_⟩
  rw[Oper.semAt_eq _ _ _ hd,hv w e];exact h
 ·simp only[b,Bool.false_eq_true,if_false];exact⟨fun _ _=>trivial,h⟩
theorem YG.of_same{S:ae→Prop}{o:Oper}{v:Value}{a a':Act}(b:YG P ops S o v a)(c:execOp a'.eval o=execOp a.eval o)
  (d:Region.wanted o (yielded ops a'.tmps)=Region.wanted o (yielded ops a.tmps)):YG P ops S o v a':=by
 unfold YG at*;rw[c,d];exact b
theorem Dd{S:ae→Prop}{j:Nat}{g i:Oper}{v:Value}(C:ops[j]? =some i)
  (A:(∀d,g.dst=some d→d∉i.looksAt ops)∧(∀d,g.dst=some d→i.dst≠some d)∧(∀d,i.dst=some d→d∉g.looksAt ops))
  (s:∀cs b,g.op≠ .select cs b) (z:∀cs b,i.op≠ .select cs b) (t:∀c,i.op≠ .defer c)
  (E:∀e a w,(∀c,e=.panic c→False)∨¬Q e a w) {K:Act→World→Prop} {a:Act} {w:World}
  (k:YG P ops S g v a) (h:wpOpIn (FW ro) n P ops Q j K (a.put g.dst v) w):
  wpOpIn (FW ro) n P ops Q j (fun a' w'=>YG P ops S g v a'∧K (a'.put g.dst v) w') a w:=by
 obtain⟨B,o,y⟩:=A;have p:∀c a w,¬Q (.panic c) a w:=fun c a w D=>(E (.panic c) a w).elim (fun h=>h c rfl) fun h=>h D
 have keep:∀(a:Act),YG P ops S g v a→∀u,YG P ops S g v (a.put i.dst u):=fun a k u=>
  k.of_same (execOp_put g s a i.dst u y) (wanted_put g a i.dst u y)
 unfold wpOpIn at*;simp only[C]at*;rw[wanted_put i a g.dst v B]at h;split
 ·rename_i hw
  simp only[hw,if_true]at h;refine⟨fun _ _=>trivial,?_⟩
  have h:=h.2;rw[Oper.semAt_eq _ _ _ t,execOp_put i z a g.dst v B]at h;rw[Oper.semAt_eq _ _ _ t];generalize (execOp a.eval i).run P w=r at*;cases r with
  |ok x w'=>
   cases x<;>simp only[Oper.uponIn]at h⊢
   case value u=>exact⟨keep a k u,by rw[←Act.put_comm a v u o];exact h⟩
   case skip=>exact⟨keep a k _,by rw[←Act.put_comm a v undef o];exact h⟩
   case defer d=>
    refine⟨(k.of_same (a':={a with defers:=d::a.defers}) rfl rfl).of_same (execOp_put g s _ i.dst undef y) (wanted_put g _ i.dst undef y),?_⟩;rw[←Act.put_comm _ v undef o,←Act.put_defers];exact h
   case enter f args=>
    refine⟨h.1,CallsIn.mono h.2 fun e q m=>?_⟩
    cases e with
    |returned u=>exact⟨keep a k u,by rw[←Act.put_comm a v u o];exact m⟩
    |panicked c=>exact(p _ _ _ m).elim
    |outgrown=>exact m
   case row row args=>exact⟨h.1,RowsIn.mono h.2 fun u q m=>⟨keep a k u,by rw[←Act.put_comm a v u o];exact m⟩⟩
   case round l f tmps assign body=>
    refine⟨h.1,RoundIn.mono h.2 fun e q m=>?_⟩
    cases e with
    |returned u=>exact⟨keep a k u,by rw[←Act.put_comm a v u o];exact m⟩
    |panicked c=>exact(p _ _ _ m).elim
    |outgrown=>exact m
  |halt x w'=>
   cases x<;>simp only[Oper.uponIn]at h⊢
   case panic u=>exact(p _ _ _ h).elim
 ·rename_i hw
  simp only[hw]at h;exact⟨fun _ _=>trivial,keep a k _,by rw[←Act.put_comm a v undef o];exact h.2⟩
theorem Bw{ms:List DM}(hm:MsOk ops ms){i:Nat}{o:Oper}(a:ops[i]? =some o) (k:Nat):(Bx ms i).testBit k=fU o k:=by
 have hi:i<ms.length:=by rw[hm.len];exact(bw.1 a).1
 unfold Bx;rw[aj hi];exact hm.am i o _ a (aj hi) k
theorem Cc{ms:List DM}(hm:MsOk ops ms){listed:Array Bool}{j:Nat}(g:j∈Region.ready .any ops listed)(k:Nat)(c:(Bx ms j).testBit k=true):listed.getD k false=true:=by
 obtain⟨_,o,f,a⟩:=mem_ready.1 g;rw[Bw hm f]at c;unfold fU at c;obtain⟨e,d,b⟩:=bH.1 c;simp only[aS]at b;have:=a e (by simpa using d) b.2;rw[aF b.1]at this;exact this
theorem CH{listed:Array Bool}{j k:Nat}(h:listed.getD k false=true):(listed.setIfInBounds j true).getD k false=true:=by
 by_cases e:j=k
 ·subst e
  rw[cg]at h⊢;rcases bP j listed.size with a|a
  ·simp[a]
  ·simp[gV a]at h
 ·rw[cg,dh e,←cg]
  exact h
theorem Shut.put{ms:List DM}(hm:MsOk ops ms){listed:Array Bool}(d:Shut ms listed){j:Nat}(c:j∈Region.ready .any ops listed):Shut ms (listed.setIfInBounds j true):=by
 intro i x hx a k b;by_cases e:j=i
 ·subst e
  refine CH (Cc hm c k ?_);unfold Bx;rw[hx];exact b
 ·rw[cg,dh e,←cg]at a
  exact CH (d i x hx a k b)
theorem xD{ms:List DM}(hm:MsOk ops ms){S:ae→Prop}{i:Nat}{y:Oper}{v:Value}(hi:ops[i]? =some y) (m:∀(j:Nat) (o:Oper),ops[j]? =some o→(∀cs b,o.op≠ .select cs b)∧(∀c,o.op≠ .defer c))
  (hQ:∀e a w,(∀c,e=.panic c→False)∨¬Q e a w):
  ∀(fuel:Nat) (L:mE) (listed:Array Bool) (a:Act) (w:World),
   (∀j s,ops[j]? =some s→j≠i→listed.getD j true=false→fU s i=false→
    (∀d,y.dst=some d→d∉s.looksAt ops)∧(∀d,y.dst=some d→s.dst≠some d)∧(∀d,s.dst=some d→d∉y.looksAt ops))→
   Shut ms listed→i∈Region.ready .any ops listed→YG P ops S y v a→S w.heap→(∀x∈L,x.2 w.heap)→
   GQ ms ro n P ops Q fuel ((i,S)::L) (listed.setIfInBounds i true) (a.put y.dst v) w→GQ ms ro n P ops Q (fuel+1) L listed a w:=by
 intro fuel;induction fuel with
 |zero=>
  intro L listed a w _ _ B T V U H;refine⟨fun h=>(by rw[h]at B;cases B),fun j F s f=>?_⟩
  by_cases g:j=i
  ·subst g
   rw[hi]at f;cases f;exact T.wpOp hi (m _ _ hi).2 V ⟨fun x hx=>U x (gu.1 hx).1,H⟩
  ·have:=ready_mono F g
   rw[H.1]at this;cases this
 |succ fuel ih=>
  intro L listed a w q G B T V U H;refine⟨fun h=>(by rw[h]at B;cases B),fun j F s f=>?_⟩
  by_cases g:j=i
  ·subst g
   rw[hi]at f;cases f;exact T.wpOp hi (m _ _ hi).2 V ⟨fun x hx=>U x (gu.1 hx).1,pp _ _ _ _ _ _ (fun x hx=>.inl (aI _ (gu.1 hx).1)) H⟩
  ·have p:=H.2 j (ready_mono F g) s f
   obtain⟨z,Z,A,N⟩:=mem_ready.1 F;rw[f]at A;cases A;have K:fU s i=false:=by
    cases t:fU s i with
    |false=>rfl
    |true=>
     unfold fU at t;obtain⟨e,Y,t⟩:=bH.1 t;simp only[aS]at t;have p:=N e (by simpa using Y) t.2;rw[aF t.1]at p;have J:=(mem_ready.1 B).1;rcases bP i listed.size with E|E
     ·simp[E]at J p;rw[J]at p;cases p
     ·simp[gV E]at p
   have D:tb (uk ms (Bx ms j)) i=false:=by
    cases t:tb (uk ms (Bx ms j)) i with
    |false=>rfl
    |true=>
     rw[tO]at t;have p:=Gs G (Cc hm F) t;have J:=(mem_ready.1 B).1;rcases bP i listed.size with E|E
     ·simp[E]at J p;rw[J]at p;cases p
     ·simp[gV E]at p
   have O:rel ms j ((i,S)::L)=(i,S)::rel ms j L:=by simp only[rel,tV,D,cond_false]
   rw[O]at p;have h2:=Dd f (q j s f g z K) (m _ _ hi).1 (m _ _ f).1 (m _ _ f).2 hQ T p;have u:∀k C,ops[k]? =some C→k≠i→(listed.setIfInBounds j true).getD k true=false→fU C i=false→
     (∀d,y.dst=some d→d∉C.looksAt ops)∧(∀d,y.dst=some d→C.dst≠some d)∧(∀d,C.dst=some d→d∉y.looksAt ops):=fun k C hk X M W=>by
    refine q k C hk X ?_ W;by_cases R:j=k
    ·subst R;exact z
    ·rw[getD_set_ne true R]at M;exact M
   refine wpOpIn_mono (fun a' w' I=>⟨fun x hx=>I.2.1 x (aI _ hx),ih (rel ms j L) (listed.setIfInBounds j true) a' w' u (G.put hm F) (ready_mono B (Ne.symm g)) I.1 (I.2.1 _ (ax ..)) (fun x hx=>I.2.1 x (aI _ hx)) ?_⟩) h2
   rw[Array.setIfInBounds_comm _ _ g];exact I.2.2
theorem mV{h:ae}{R:Prop}:∀{L:mE},nh L h R↔(∀x∈L,x.2 h)∧R
 | []=>by simp[nh]
 |(k,S)::L=>by
  simp only[nh,mV (L:=L),ar,forall_eq_or_imp,and_assoc]
theorem GP{ms:List DM}{f:Nat}{L:mE}{listed:Array Bool}{a:Act}{w:World}(b:Region.ready .any ops listed= [])(h:Q .normal a w):GQ ms ro n P ops Q f L listed a w:=by
 cases f with
 |zero=>exact⟨b,h⟩
 |succ f=>exact⟨fun _=>h,by rw[b];simp⟩
def left(ops:Array Oper)(ls:Nat):Nat:=((bW ops.size).filter fun j=> !ls.testBit j).length
theorem qV{ls i:Nat}(hi:i<ops.size)(g:ls.testBit i=false):left ops (bT ls (eX i))+1=left ops ls:=by
 have key:∀l:List Nat,l.Nodup→i∈l→(l.filter fun j=> !(bT ls (eX i)).testBit j).length+1=(l.filter fun j=> !ls.testBit j).length:=by
  intro l;induction l with
  |nil=>intro _ h;cases h
  |cons x l ih=>
   intro d hm;rw[List.nodup_cons]at d;by_cases hx:x=i
   ·subst hx
    have a:(l.filter fun j=> !(bT ls (eX x)).testBit j)=l.filter fun j=> !ls.testBit j:=by
     apply List.filter_congr;intro y f;have:x≠y:=fun e=>d.1 (e▸f)
     rw[km,tg,decide_eq_false this,Bool.or_false]
    have b:(bT ls (eX x)).testBit x=true:=by rw[km,tg];simp
    rw[cR,cR,b,g,a];rfl
   ·have c:i∈l:=by rcases ar.1 hm with h|h;exact absurd h.symm hx;exact h
    have b:(bT ls (eX i)).testBit x=ls.testBit x:=by rw[km,tg,decide_eq_false (Ne.symm hx),Bool.or_false]
    have:=ih d.2 c;rw[cR,cR,b];cases ls.testBit x with
    |true=>exact this
    |false=>exact congrArg (· +1) this
 exact key _ List.nodup_range (List.mem_range.2 hi)
theorem Gi{N:Nat}{a:List Oper}{ms:List DM}{ls:Nat}{L:mE}{d:pT}{K:bJ→ae→Prop}{r:bJ}{b:ae}:∀{l:DA},jK P N a ms l true ls L d K r b→∃i,i∈vu l
 | .done,h=>h.elim
 | .take i rest,h=>by
  exfalso;have hc:jK P N a ms (.take i rest) true ls L d K r b=(match a[i]?,ms[i]? with|some _,some _=>False|_,_=>False):=rfl
  rw[hc]at h;split at h<;>exact h
 | .all _,h=>h.elim
 | .pick i _ _,_=>⟨i,ax ..⟩
 | .last i _,_=>⟨i,ax ..⟩
 | .lastT i _,_=>⟨i,ax ..⟩
 | .split ..,h=>h.elim
def EI(ro:Option Nat)(n:Nat)(P:Program)(ops:Array Oper)(Q:Exit→Act→World→Prop)(N:Nat)(ms:List DM)(W:Nat→Prop)(c:Act)(w0:World)(K:bJ→ae→Prop)(b:DA):Prop:=
 ∀(m:Bool) (ls:Nat) (L:mE) (d:pT) (r:bJ) (a:Act) (w:World) (listed:Array Bool) (fuel:Nat),
  jK P N ops.toList ms b m ls L d K r w.heap→Agree N r a→DecOk d r→Fr W c w0 a w→LsRel ops ls listed→Shut ms listed→(∀x∈L,x.2 w.heap)→
  (m=false→left ops ls≤fuel→GQ ms ro n P ops Q fuel L listed a w)∧
  (m=true→left ops ls≤fuel+1→∀i∈vu b,i∈iH ls ms 0→∀o,ops[i]? =some o→
   wpOpIn (FW ro) n P ops Q i (fun a' w'=>(∀x∈rel ms i L,x.2 w'.heap)∧GQ ms ro n P ops Q fuel (rel ms i L) (listed.setIfInBounds i true) a' w') a w)
theorem B4{N:Nat}{ms:List DM}(hm:MsOk ops ms){W:Nat→Prop}(hW:∀o∈ops.toList,∀d,o.dst=some d→W d){a0:Act}{w0:World}{K:bJ→ae→Prop}
  (hQ:∀r a w,Agree N r a→Fr W a0 w0 a w→K r w.heap→Q .normal a w)(hnp:∀e a w,(∀c,e=.panic c→False)∨¬Q e a w)(da:DA):
  EI ro n P ops Q N ms W a0 w0 K da:=by
 have one:∀(i:Nat) (g:DA)
   (_:EI ro n P ops Q N ms W a0 w0 K g)
   (ls:Nat) (L:mE) (d:pT) (r:bJ) (a:Act) (w:World) (listed:Array Bool) (fuel:Nat),
   FS P N ops.toList i L d r w.heap (fun L' d' D h'=>jK P N ops.toList ms g false (bT ls (eX i)) L' d' K D h')→Agree N r a→DecOk d r→Fr W a0 w0 a w→LsRel ops ls listed→Shut ms listed→
   left ops ls≤fuel+1→i∈iH ls ms 0→∀o,ops[i]? =some o→
    wpOpIn (FW ro) n P ops Q i (fun a' w'=>(∀x∈rel ms i L,x.2 w'.heap)∧GQ ms ro n P ops Q fuel (rel ms i L) (listed.setIfInBounds i true) a' w') a w:=by
  intro i g V ls L d r a w listed fuel f A hd H y p B hr o s;have z:i<ops.size:=(bw.1 s).1;obtain⟨k,mm,hk,hki,J,_⟩:=(m9 ls ms 0 i).1 hr;unfold FS at f;rw[aO,s]at f;simp only at f;cases hw:fT ops.toList d o with
  |none=>rw[hw]at f;exact f.elim
  |some b=>
   rw[hw]at f;cases b with
   |false=>exact f.elim
   |true=>
    simp only at f;cases hq:qz P o.op with
    |true=>
     rw[hq,cond_true]at f;unfold wpOpIn;rw[s];simp only[jJ hw A hd,if_true];obtain⟨v,S,hK,hS,_,U⟩:=vl A f d hd;refine l8 (K:=fun u h'=>u=v∧h'=w.heap) (wz f) (.inl ⟨v,w,U w hS,Tame.refl w,rfl,rfl⟩) ?_
     rintro u w' ht ⟨rfl,hw'⟩;obtain⟨D,I,G,F⟩:=ox (dv:=.x) hK A hd trivial;obtain⟨hh,X⟩:=mV.1 I;have C:o∈ops.toList:=au (by rw[aO];exact s);have M:=qV z J;have E:∀x∈rel ms i L,x∈kH o L:=fun x hx=>qR.2 ⟨(gu.1 hx).1,by
      cases hb:fU o x.1 with
      |false=>rfl
      |true=>
        have:=(gu.1 hx).2
        rw[tO,Aq (by rw[Bw hm s];exact hb)]at this;cases this⟩
     rw[←hw']at hh X;exact⟨fun x hx=>hh x (E x hx),pp _ _ _ _ _ _ (fun x hx=>.inl (E x hx)) ((V false _ _ _ D _ w' _ fuel X G F (H.put (hW o C) u ht) (y.put z) (p.put hm ((ja hm y).2 hr)) hh).1 rfl (by omega))⟩
    |false=>
     rw[hq,cond_false]at f;unfold wpOpIn;rw[s];simp only[jJ hw A hd,if_true];refine l8 (qK f) (u1 A f) ?_;intro v w' ht hK;obtain⟨D,I,G,F⟩:=ox (dv:=.x) hK A hd trivial;obtain⟨hh,X⟩:=mV.1 I;have C:o∈ops.toList:=au (by rw[aO];exact s);have M:=qV z J;have E:∀x∈rel ms i L,x∈kH o L:=fun x hx=>qR.2 ⟨(gu.1 hx).1,by
      cases hb:fU o x.1 with
      |false=>rfl
      |true=>
        have:=(gu.1 hx).2
        rw[tO,Aq (by rw[Bw hm s];exact hb)]at this;cases this⟩
     exact⟨fun x hx=>hh x (E x hx),pp _ _ _ _ _ _ (fun x hx=>.inl (E x hx)) ((V false _ _ _ D _ w' _ fuel X G F (H.put (hW o C) v ht) (y.put z) (p.put hm ((ja hm y).2 hr)) hh).1 rfl (by omega))⟩
 have oneT:∀(i:Nat) (g:DA)
   (_:EI ro n P ops Q N ms W a0 w0 K g)
   (ls:Nat) (L:mE) (d:pT) (r:bJ) (a:Act) (w:World) (listed:Array Bool) (fuel:Nat),
   E2 P N ops.toList ms i L d r w.heap (fun L' d' D h'=>jK P N ops.toList ms g false (bT ls (eX i)) L' d' K D h')→Agree N r a→DecOk d r→Fr W a0 w0 a w→LsRel ops ls listed→Shut ms listed→
   left ops ls≤fuel+1→i∈iH ls ms 0→∀o,ops[i]? =some o→
    wpOpIn (FW ro) n P ops Q i (fun a' w'=>(∀x∈rel ms i L,x.2 w'.heap)∧GQ ms ro n P ops Q fuel (rel ms i L) (listed.setIfInBounds i true) a' w') a w:=by
  intro i g V ls L d r a w listed fuel f A hd H y p B hr o s;have z:i<ops.size:=(bw.1 s).1;obtain⟨k,mm,hk,hki,J,_⟩:=(m9 ls ms 0 i).1 hr;unfold E2 at f;rw[aO,s]at f;simp only at f;cases hw:fT ops.toList d o with
  |none=>rw[hw]at f;exact f.elim
  |some b=>
   rw[hw]at f;cases b with
   |false=>exact f.elim
   |true=>
    simp only at f;cases hq:qz P o.op with
    |true=>rw[hq]at f;exact f.elim
    |false=>
     rw[hq,cond_false]at f;unfold wpOpIn;rw[s];simp only[jJ hw A hd,if_true];refine l8 (qK f) (u1 A f) ?_;intro v w' ht hK;obtain⟨D,I,G,F⟩:=ox (dv:=.x) hK A hd trivial;obtain⟨hh,X⟩:=mV.1 I;have C:o∈ops.toList:=au (by rw[aO];exact s);have M:=qV z J;exact⟨hh,(V false _ _ _ D _ w' _ fuel X G F (H.put (hW o C) v ht) (y.put z) (p.put hm ((ja hm y).2 hr)) hh).1 rfl (by omega)⟩
 induction da with
 |done=>
  intro m ls L d r a w listed fuel f A hd H y p R;cases m with
  |true=>exact f.elim
  |false=>
   refine⟨fun _ _=>?_,fun h=>by cases h⟩
   have hc:jK P N ops.toList ms .done false ls L d K r w.heap=bif qd (iH ls ms 0) []then K r w.heap else False:=rfl;rw[hc]at f;cases hb:qd (iH ls ms 0) []with
   |false=>rw[hb]at f;exact f.elim
   |true=>
    rw[hb]at f;have hnil:Region.ready .any ops listed= []:=by
     apply List.eq_nil_iff_forall_not_mem.2;intro j O;rw[ja hm y,rF hb]at O;cases O
    exact GP hnil (hQ r a w A H f)
 |take i g V=>
  intro m ls L d r a w listed fuel f A hd H y p R;cases m with
  |true=>
   exfalso;have hc:jK P N ops.toList ms (.take i g) true ls L d K r w.heap=(match ops.toList[i]?,ms[i]? with|some _,some _=>False|_,_=>False):=rfl
   rw[hc]at f;split at f<;>exact f
  |false=>
   refine⟨fun _ B=>?_,fun h=>by cases h⟩
   have hc:jK P N ops.toList ms (.take i g) false ls L d K r w.heap=(match ops.toList[i]?,ms[i]? with
    |some o,some mi=>bif xP mi i ls ops.toList.length then
      (match fT ops.toList d o with
       |none=>False
       |some false=>tc N o undef r fun D=>jK P N ops.toList ms g false (bT ls (eX i)) L (mZ d o .u) K D w.heap
       |some true=>bif qz P o.op then
          uY P none o.op r (fun v S=>tc N o v r fun D=>match S with
            |none=>jK P N ops.toList ms g false (bT ls (eX i)) L (mZ d o (BM d o.op)) K D w.heap
            |some S=>jK P N ops.toList ms g false (bT ls (eX i)) ((i,S)::L) (mZ d o (BM d o.op)) K D w.heap) w.heap
          else False)
     else False
    |_,_=>False):=rfl
   rw[hc]at f;split at f
   ·rename_i o mi s hmi
    rw[aO]at s;cases htk:xP mi i ls ops.toList.length with
    |false=>rw[htk]at f;exact f.elim
    |true=>
     rw[htk,cond_true]at f;unfold xP at htk;simp only[aS,Bool.not_eq_true',tO]at htk;obtain⟨⟨hun,hrd⟩,hfr⟩:=htk;have z:i<ops.size:=(bw.1 s).1;have q:i∈Region.ready .any ops listed:=(zS hm y).2 ⟨mi,hmi,hun,hrd⟩;have M:=qV (ops:=ops) z hun;obtain⟨Z,rfl⟩:∃Z,fuel=Z+1:=⟨fuel-1,by omega⟩
     have C:o∈ops.toList:=au (by rw[aO];exact s);have hcov:∀j,j<ops.size→ls.testBit j=true∨mi.fr.testBit j=true:=by
      intro j O;have h0:=aF hfr;have hpb:(rA (eX ops.toList.length)).testBit j=true:=by
        have:rA (eX ops.toList.length)=2^ops.toList.length-1:=rfl;rw[this,Nat.testBit_two_pow_sub_one];simpa using O
      have hand:(gj (bT ls mi.fr) (rA (eX ops.toList.length))).testBit j=((bT ls mi.fr).testBit j&&(rA (eX ops.toList.length)).testBit j):=hG _ _ j;rw[h0,hpb,Bool.and_true,km]at hand;exact(Bool.or_eq_true_iff).1 hand.symm
     have T:∀j oj,ops[j]? =some oj→j≠i→listed.getD j true=false→fU oj i=false→
        (∀d,o.dst=some d→d∉oj.looksAt ops)∧(∀d,o.dst=some d→oj.dst≠some d)∧(∀d,oj.dst=some d→d∉o.looksAt ops):=by
      intro j oj hoj hne hju hna;have O:j<ops.size:=(bw.1 hoj).1;rw[y.unlisted O]at hju;have hjm:j<ms.length:=by rw[hm.len];exact O
      have hmj:=aj hjm;rcases hcov j O with h|h
      · rw[h]at hju;cases hju
      · rcases hm.free i j mi _ hmi hmj h with h|h|h
        ·exact absurd h hne
        ·rw[hm.am j oj _ hoj hmj,hna]at h;cases h
        ·exact Iq hm s hoj hmi hmj h
     cases hw:fT ops.toList d o with
     |none=>rw[hw]at f;exact f.elim
     |some b=>
      rw[hw]at f;have hwd:=jJ hw A hd;cases b with
      |false=>
        obtain⟨D,I,G,F⟩:=ox (dv:=.u) f A hd rfl;have hy:YG P ops (fun _=>True) o undef a:=.inr ⟨hwd,rfl⟩
        refine xD hm s hm.nosel hnp Z L listed a w T p q hy trivial R ?_;refine pp _ L _ _ _ _ (fun x hx=>(ar.1 hx).elim (fun e=>.inr fun h=>by rw[e];trivial) .inl) ?_
        exact(V false _ _ _ D _ w _ Z I G F (H.put (hW o C) undef (Tame.refl w)) (y.put z) (p.put hm q) R).1 rfl (by omega)
      |true=>
        simp only at f;cases hq:qz P o.op with
        |false=>rw[hq]at f;exact f.elim
        |true=>
         rw[hq,cond_true]at f;obtain⟨v,S,hK,hS,hdv,U⟩:=vl A f d hd;obtain⟨D,I,G,F⟩:=ox hK A hd hdv;have hfr':=H.put (hW o C) v (Tame.refl w);cases S with
         |none=>
           have hy:YG P ops (fun _=>True) o v a:=.inl ⟨hwd,fun w _=>U w trivial⟩
           refine xD hm s hm.nosel hnp Z L listed a w T p q hy trivial R ?_;refine pp _ L _ _ _ _ (fun x hx=>(ar.1 hx).elim (fun e=>.inr fun h=>by rw[e];trivial) .inl) ?_
           exact(V false _ _ _ D _ w _ Z I G F hfr' (y.put z) (p.put hm q) R).1 rfl (by omega)
         |some S=>
           have hy:YG P ops S o v a:=.inl ⟨hwd,fun w h=>U w h⟩
           refine xD hm s hm.nosel hnp Z L listed a w T p q hy hS R ?_;exact(V false _ _ _ D _ w _ Z I G F hfr' (y.put z) (p.put hm q) (fun x hx=>(ar.1 hx).elim (fun e=>by rw[e];exact hS) (R x))).1 rfl (by omega)
   ·exact f.elim
 |all l V=>
  intro m ls L d r a w listed fuel f A hd H y p R;cases m with
  |true=>exact f.elim
  |false=>
   refine⟨fun _ B=>?_,fun h=>by cases h⟩
   have hc:jK P N ops.toList ms (.all l) false ls L d K r w.heap=bif qd (iH ls ms 0) (vu l)then jK P N ops.toList ms l true ls L d K r w.heap else False:=rfl;rw[hc]at f;cases hb:qd (iH ls ms 0) (vu l)with
   |false=>rw[hb]at f;exact f.elim
   |true=>
    rw[hb,cond_true]at f;obtain⟨i,hi⟩:=Gi f;rw[←rF hb]at hi;have hrd:=(ja hm y (j:=i)).2 hi;obtain⟨k,mm,hk,hki,J,_⟩:=(m9 ls ms 0 i).1 hi;have z:i<ops.size:=by
     have:=(aP.1 hk).1;rw[hm.len]at this;omega
    have M:=qV (ops:=ops) z J;obtain⟨Z,rfl⟩:∃Z,fuel=Z+1:=⟨fuel-1,by omega⟩
    refine⟨fun h=>(by rw[h]at hrd;cases hrd),fun j O o s=>?_⟩
    have hj':=(ja hm y).1 O;exact(V true ls L d r a w listed Z f A hd H y p R).2 rfl B j (by rw[←rF hb];exact hj') hj' o s
 |pick i g more ih1 ih2=>
  intro m ls L d r a w listed fuel f A hd H y p R;cases m with
  |false=>exact f.elim
  |true=>
   refine⟨fun h=>(by cases h),fun _ B j O Y o s=>?_⟩
   have f:FS P N ops.toList i L d r w.heap (fun L' d' D h'=>jK P N ops.toList ms g false (bT ls (eX i)) L' d' K D h')∧jK P N ops.toList ms more true ls L d K r w.heap:=f
   rcases ar.1 O with rfl|O
   ·exact one _ g ih1 ls L d r a w listed fuel f.1 A hd H y p B Y o s
   ·exact(ih2 true ls L d r a w listed fuel f.2 A hd H y p R).2 rfl B j O Y o s
 |last i g V=>
  intro m ls L d r a w listed fuel f A hd H y p R;cases m with
  |false=>exact f.elim
  |true=>
   refine⟨fun h=>(by cases h),fun _ B j O Y o s=>?_⟩
   have f:FS P N ops.toList i L d r w.heap (fun L' d' D h'=>jK P N ops.toList ms g false (bT ls (eX i)) L' d' K D h'):=f
   have hji:j=i:=ai.1 O;subst hji;exact one _ g V ls L d r a w listed fuel f A hd H y p B Y o s
 |lastT i g V=>
  intro m ls L d r a w listed fuel f A hd H y p R;cases m with
  |false=>exact f.elim
  |true=>
   refine⟨fun h=>(by cases h),fun _ B j O Y o s=>?_⟩
   have f:E2 P N ops.toList ms i L d r w.heap (fun L' d' D h'=>jK P N ops.toList ms g false (bT ls (eX i)) L' d' K D h'):=f
   have hji:j=i:=ai.1 O;subst hji;exact oneT _ g V ls L d r a w listed fuel f A hd H y p B Y o s
 |split t yes no ih1 ih2=>
  intro m ls L d r a w listed fuel f A hd H y p R;cases m with
  |true=>exact f.elim
  |false=>
   refine⟨fun _ B=>?_,fun h=>by cases h⟩
   have hc:jK P N ops.toList ms (.split t yes no) false ls L d K r w.heap=(match gG r t with
    |some (.bool b)=>CondP b (jK P N ops.toList ms yes false ls L ((t,.t)::d) K ((t,.bool true)::r) w.heap) (jK P N ops.toList ms no false ls L ((t,.f)::d) K ((t,.bool false)::r) w.heap)
    |_=>False):=rfl
   rw[hc]at f;split at f
   ·rename_i b hlk
    cases b with
    |true=>exact(ih1 false ls L _ _ a w listed fuel (f.yes rfl) (A.known hlk) (hd.known rfl) H y p R).1 rfl B
    |false=>exact(ih2 false ls L _ _ a w listed fuel (f.no rfl) (A.known hlk) (hd.known rfl) H y p R).1 rfl B
   ·exact f.elim
end Go.Lift
namespace Go.Lift
open Go
variable {P:Program} {ro:Option Nat} {n:Nat}
theorem Ad{r:bJ}:∀{l:List Nat} {r0:bJ},Fh r l=some r0→∀t v,gG r0 t=some v→t∈l∧gG r t=some v
 | [],r0,h,t,v,hv=>by cases h;cases hv
 |s::l,r0,h,t,v,hv=>by
  have h:(match gG r s,Fh r l with|some v,some l=>some ((s,v)::l)|_,_=>none)=some r0:=h
  split at h
  ·rename_i u l' hu hl
   cases h;by_cases e:s=t
   ·subst e;rw[fF]at hv;cases hv;exact⟨ax ..,hu⟩
   ·rw[eY u _ e]at hv
    have:=Ad hl t v hv;exact⟨aI _ this.1,this.2⟩
  ·cases h
theorem vq{m:Nat}{t:Nat}{v:Value}:∀{r:bJ},gG (qX m r) t=some v→m.testBit t=false∧gG r t=some v
 | [],h=>by cases h
 |(k,u)::r,h=>by
  have h:gG (bif tb m k then qX m r else(k,u)::qX m r) t=some v:=h;cases hk:tb m k with
  |true=>
   rw[hk]at h;have:=vq h;by_cases e:k=t
   ·subst e;rw[tO,this.1]at hk;cases hk
   ·rw[eY u _ e];exact this
  |false=>
   rw[hk]at h;have h:gG ((k,u)::qX m r) t=some v:=h;by_cases e:k=t
   ·subst e;rw[fF]at h⊢;rw[tO]at hk;exact⟨hk,h⟩
   ·rw[eY u _ e]at h⊢;exact vq h
theorem u0{t:Nat}:∀{l:List Oper},(GT l).testBit t=false→¬iB t l=true
 | [],_,h=>by cases h
 |o::l,hm,h=>by
  have hm:(bT (j1 o) (GT l)).testBit t=false:=hm;rw[km,iS]at hm;have h:(match o.dst with|some d=>bif aX d t then true else iB t l|none=>iB t l)=true:=h
  cases hd:o.dst with
  |none=>rw[hd]at h;exact u0 hm.2 h
  |some d=>
   rw[hd]at h;cases e:aX d t with
   |true=>have:=(rl o t).2 (by rw[hd,aF e]);rw[hm.1]at this;cases this
   |false=>simp only[e]at h;exact u0 hm.2 h
theorem Cu{a b:Option Nat}{m:Nat}(h:Lc a b=some m):∃x y,a=some x∧b=some y∧m=bT x y:=by
 cases a<;>cases b<;>cases h
 exact⟨_,_,rfl,rfl,rfl⟩
theorem GS{t:Nat}(c:Code):∀{m:Nat},rZ c=some m→m.testBit t=false→¬eE t c=true:=by
 induction c with
 |skip=>intro m _ _ h;cases h
 |region id ops dr=>intro m h hm d;cases h;exact u0 hm d
 |seq a b iha ihb=>
  intro m h hm d;obtain⟨x,y,hx,e,rfl⟩:=Cu (show Lc (rZ a) (rZ b)=some m from h)
  rw[km,iS]at hm;have d:(bif eE t a then true else eE t b)=true:=d;cases ha:eE t a with
  |true=>exact iha hx hm.1 ha
  |false=>rw[ha]at d;exact ihb e hm.2 d
 |cond c a b iha ihb=>
  intro m h hm d;obtain⟨x,y,hx,e,rfl⟩:=Cu (show Lc (rZ a) (rZ b)=some m from h)
  rw[km,iS]at hm;have d:(bif eE t a then true else eE t b)=true:=d;cases ha:eE t a with
  |true=>exact iha hx hm.1 ha
  |false=>rw[ha]at d;exact ihb e hm.2 d
 |block id b ih=>exact fun h hm=>ih h hm
 |loop b ih=>exact fun h hm=>ih h hm
 |rangeFunc _ _ _ _ _ _=>intro m h;cases h
 |scope b ih=>exact fun h hm=>ih h hm
 |_=>intro m _ _ h;cases h
theorem Agree.keep{N:Nat}{r b:bJ}{a a':Act}{w w':World}{m:Nat}{c:Code}(h:Agree N r a)(hm:rZ c=some m)(d:Fr (fun t=>eE t c=true) a w a' w')(e:Agree N b a'):Agree N (qX m r) a':=
 ⟨e.size,fun t v hv=>by
  obtain⟨g,f⟩:=vq hv
  rw[d.same t (GS c hm g)];exact h.look t v f⟩
theorem qN{a:St}{r:bJ}{f:qn (sJ a)→Prop}(h:wn a r f):∃t,xU r a=some (jC (sJ a) t)∧f t:=by
 unfold wn at h;split at h
 ·rename_i vs hv
  obtain⟨t,rfl,b⟩:=nu h;exact⟨t,hv,b⟩
 ·exact h.elim
theorem Agree.zip{N:Nat}{r:bJ}{a:Act}(h:Agree N r a):∀{st:St} {vs:List Value} {r0:bJ},xU r st=some vs→Agree N r0 a→Agree N (jV st vs r0) a
 | [],vs,r0,_,h0=>by cases vs<;>exact h0
 |(i,k)::st,vs,r0,hv,h0=>by
  unfold xU at hv;split at hv
  ·rename_i v vs' h1 h2
   cases hv;have:=Agree.zip h h2 h0;refine⟨this.size,fun t u b=>?_⟩
   by_cases e:i=t
   ·subst e
    rw[show jV ((i,k)::st) (v::vs') r0=(i,v)::jV st vs' r0 from rfl,fF]at b;cases b
    exact h.look i v h1
   ·rw[show jV ((i,k)::st) (v::vs') r0=(i,v)::jV st vs' r0 from rfl,eY v _ e]at b
    exact this.look t u b
  ·cases hv
theorem tJ{t:Nat}:∀{l:List Oper} {o:Oper},o∈l→o.dst=some t→iB t l=true
 | [],_,h,_=>by cases h
 |x::l,o,h,hd=>by
  have e:iB t (x::l)=(match x.dst with|some d=>bif aX d t then true else iB t l|none=>iB t l):=rfl
  rw[e];rcases ar.1 h with rfl|h
  ·rw[hd];simp only;rw[show aX t t=true from m5 t];rfl
  ·have:=tJ h hd
   cases x.dst with
   |none=>exact this
   |some d=>
    simp only;cases aX d t with
    |true=>rfl
    |false=>exact this
def LWP(ro:Option Nat)(n:Nat)(P:Program)(c:Code)(Q:Exit→Act→World→Prop)(a:Act)(w:World):Prop:=
 ∀(b:Frame) (k:List Item) (cs:List Frame),b.roundOf=(FW ro).round→(FW ro).fn b.fn→(FW ro).room (cs.length+1+n)→
  ∃e a' w',Q e a' w'∧ArrivesIn (Machine.fenced P (FW ro)) P (lone (b.atR a (.code c:: .inLoop c::k)) cs w) b k cs e a' w'
theorem LWP.step{c:Code}{Q:Exit→Act→World→Prop}{a:Act}{w:World}(h:c.wpIn (FW ro) n P (Exit.then (LWP ro n P c Q) Q) a w):LWP ro n P c Q a w:=by
 intro b k cs i q p;obtain⟨e,j,m,g,d⟩:=h b (.inLoop c::k) cs i q p;cases e with
 |normal=>
  obtain⟨s,t,u,o,f⟩:=g b k cs i q p;exact⟨s,t,u,o,.of_steps (StepsIn.trans d (.one (fenced_calm q p rfl) stepR_inLoop)) f⟩
 |exit id=>exact⟨_,j,m,g,.pass (x:=.inLoop c) rfl (fun _ _=>.inl (by simp)) d⟩
 |goto l=>exact⟨_,j,m,g,.pass (x:=.inLoop c) rfl (fun _ _=>.inl (by simp)) d⟩
 |ret=>exact⟨_,j,m,g,.pass (x:=.inLoop c) rfl (fun _ _=>.inl (by simp)) d⟩
 |panic ch=>exact⟨_,j,m,g,.pass (x:=.inLoop c) rfl (fun _ _=>.inl (by simp)) d⟩
 |outgrown=>exact⟨_,j,m,g,.pass (x:=.inLoop c) rfl (fun _ _=>.inl (by simp)) d⟩
theorem LWP.loop{c:Code}{Q:Exit→Act→World→Prop}{a:Act}{w:World}(h:LWP ro n P c Q a w):(Code.loop c).wpIn (FW ro) n P Q a w:=by
 intro b k cs f i g;obtain⟨e,a',w',j,d⟩:=h b k cs f i g;exact⟨e,a',w',j,.of_steps (.one (fenced_calm i g rfl) stepR_loop) d⟩
theorem Ao(r:bJ):DecOk [] r:=fun _=>.inl rfl
theorem Je(ops:Array Oper)(ls:Nat):left ops ls≤ops.size:=by
 unfold left;exact Nat.le_trans (List.length_filter_le ..) (by simp)
theorem iE(f:P.follows .mixedOrders=true){N id:Nat}{ops:Array Oper}{g:Bool}{p:Ann}{K:bJ→ae→Prop}{r:bJ}{a:Act}{w:World}{Q:Exit→Act→World→Prop}
  (b:vh P N ops.toList g p K r w.heap)(k:Agree N r a)(u:∀c a w,¬Q (.panic c) a w)
  (m:∀r' a' w',Agree N r' a'→Fr (fun t=>iB t ops.toList=true) a w a' w'→K r' w'.heap→Q .normal a' w'):(Code.region id ops g).wpIn (FW ro) n P Q a w:=by
 have i:∀o∈ops.toList,∀d,o.dst=some d→iB d ops.toList=true:=fun o q d hd=>tJ q hd
 cases g with
 |false=>
  have key:∀ek,xY P N ek ops.toList ops.toList [] K r w.heap→(Code.region id ops false).wpIn (FW ro) n P Q a w:=fun ek b=>by
   refine wpIn_region ?_;rw[List.range_eq_range',show ops.size=ops.toList.length from rfl]
   exact xX i m ops.toList 0 rfl [] r a w b k (Ao r) (Fr.refl _ a w)
  unfold vh at b;simp only at b;split at b
  ·exact key _ b
  ·exact key _ b
 |true=>
  unfold vh at b;simp only at b;generalize Fb ops.toList=ms at b;cases hm:xt ops.toList ms with
  |false=>rw[hm]at b;exact b.elim
  |true=>
   rw[hm,cond_true]at b;refine wpIn_region_any f (EP (ms:=ms) _ [] _ _ _ ?_);have v:Tame w {w with drawn:=w.drawn+1}:=⟨rfl,rfl,rfl⟩;have s:Fr (fun t=>iB t ops.toList=true) a w a {w with drawn:=w.drawn+1}:=⟨v,rfl,fun _ _=>rfl⟩
   refine(B4 (DQ hm) i m (fun e a w=>?_) _ false 0 [] [] r a {w with drawn:=w.drawn+1} _ ops.size b k (Ao r) s LsRel.start (fun j x _ h=>by rw[(LsRel.start (ops:=ops)).bit,jv]at h;cases h) (fun x hx=>by cases hx)).1 rfl (Je ops 0)
   cases e with
   |panic ch=>exact .inr (u _ a w)
   |_=>exact .inl fun c hc=>by cases hc
theorem xB(t:Nat)(x y:Code):eE t (.seq x y)=(bif eE t x then true else eE t y):=rfl
theorem wa(t:Nat)(c:Operand)(x y:Code):eE t (.cond c x y)=(bif eE t x then true else eE t y):=rfl
theorem Bu{a b:Bool}:(bif a then true else b)=true↔a=true∨b=true:=by cases a<;>cases b<;>decide
theorem nU(u:P.follows .mixedOrders=true){N:Nat}(c:Code):∀(D:Ann) (Kn:bJ→ae→Prop) (Kx:Ex→bJ→ae→Prop) (r:bJ) (a:Act) (w:World) (Q:Exit→Act→World→Prop),
  gX P N c D Kn Kx r w.heap→Agree N r a→(∀R a w,¬Q (.panic R) a w)→
  (∀g a' w',Agree N g a'→Fr (fun t=>eE t c=true) a w a' w'→Kn g w'.heap→Q .normal a' w')→
  (∀i g a' w',Agree N g a'→Fr (fun t=>eE t c=true) a w a' w'→Kx (.exit i) g w'.heap→Q (.exit i) a' w')→
  (∀g a' w',Agree N g a'→Fr (fun t=>eE t c=true) a w a' w'→Kx .ret g w'.heap→Q .ret a' w')→
  c.wpIn (FW ro) n P Q a w:=by
 induction c with
 |skip=>
  intro D Kn Kx r a w Q j s _ z _ _;exact wpIn_skip (z r a w s (Fr.refl ..) j)
 |region id ops dr=>
  intro D Kn Kx r a w Q j s B z _ _;cases D with
  |reg keep inner=>
   have j:vh P N ops.toList dr inner (fun g K=>match Fh g keep with|some r0=>Kn r0 K|none=>False) r w.heap:=j
   refine iE u j s B fun g a' w' S V hk=>?_
   split at hk
   ·rename_i r0 hr0
    refine z r0 a' w' ⟨S.size,fun t v hv=>S.look t v (Ad hr0 t v hv).2⟩ V hk
   ·exact hk.elim
  |nil=>exact iE u (show vh P N ops.toList dr (.nil) Kn r w.heap from j) s B z
  |node x y=>exact iE u (show vh P N ops.toList dr (.node x y) Kn r w.heap from j) s B z
  |join st x y=>exact iE u (show vh P N ops.toList dr (.join st x y) Kn r w.heap from j) s B z
  |loop st y=>exact iE u (show vh P N ops.toList dr (.loop st y) Kn r w.heap from j) s B z
  |draw d=>exact iE u (show vh P N ops.toList dr (.draw d) Kn r w.heap from j) s B z
  |kinds k v=>exact iE u (show vh P N ops.toList dr (.kinds k v) Kn r w.heap from j) s B z
  |rf ks x y=>exact iE u (show vh P N ops.toList dr (.rf ks x y) Kn r w.heap from j) s B z
 |seq x y ihx ihy=>
  intro D Kn Kx r a w Q j s B z hx G;have E:∀{a' w'},Fr (fun t=>eE t x=true) a w a' w'→Fr (fun t=>eE t (.seq x y)=true) a w a' w':=fun h=>h.mono fun t O=>by rw[xB,Bu];exact .inl O
  have C:∀{a' w' I H},Fr (fun t=>eE t x=true) a w a' w'→Fr (fun t=>eE t y=true) a' w' I H→Fr (fun t=>eE t (.seq x y)=true) a w I H:=
   fun h k=>(E h).trans (k.mono fun t O=>by rw[xB,Bu];exact .inr O)
  have plain:∀U M,gX P N x U (fun g K=>gX P N y M Kn Kx g K) Kx r w.heap→(Code.seq x y).wpIn (FW ro) n P Q a w:=fun U M j=>by
   refine wpIn_seq (ihx U _ Kx r a w _ j s (fun R a w=>B R a w) ?_ (fun i g a' w' p q o=>hx i g a' w' p (E q) o) (fun g a' w' p q o=>G g a' w' p (E q) o))
   intro r1 W w1 F A L;exact ihy M Kn Kx r1 W w1 Q L F B (fun g a' w' p q o=>z g a' w' p (C A q) o) (fun i g a' w' p q o=>hx i g a' w' p (C A q) o) (fun g a' w' p q o=>G g a' w' p (C A q) o)
  cases D with
  |join st U M=>
   have j:(match rZ x with
      |none=>False
      |some m=>Join (T:=qn (sJ st)) (fun t K=>gX P N y M Kn Kx (jV st (jC (sJ st) t) (qX m r)) K)
       fun J=>gX P N x U (fun g K=>wn st g fun t=>J t K) Kx r w.heap):=j
   split at j
   ·exact j.elim
   ·rename_i m hm
    refine wpIn_seq (ihx U _ Kx r a w _ j.run s (fun R a w=>B R a w) ?_ (fun i g a' w' p q o=>hx i g a' w' p (E q) o) (fun g a' w' p q o=>G g a' w' p (E q) o))
    intro r1 W w1 F A L;obtain⟨t,hst,hs2⟩:=qN L;have ha2:Agree N (jV st (jC (sJ st) t) (qX m r)) W:=F.zip hst (s.keep hm A F);exact ihy M Kn Kx _ W w1 Q hs2 ha2 B (fun g a' w' p q o=>z g a' w' p (C A q) o) (fun i g a' w' p q o=>hx i g a' w' p (C A q) o) (fun g a' w' p q o=>G g a' w' p (C A q) o)
  |_=>exact plain _ _ j
 |cond c x y ihx ihy=>
  intro D Kn Kx r a w Q j s B z hx G;have j:(match cp r c with
   |some (.bool t)=>CondP t (gX P N x D.l Kn Kx r w.heap) (gX P N y D.r Kn Kx r w.heap)
   |_=>False):=j
  have E:∀{a' w'},Fr (fun t=>eE t x=true) a w a' w'→Fr (fun t=>eE t (.cond c x y)=true) a w a' w':=fun h=>h.mono fun t O=>by rw[wa,Bu];exact .inl O
  have C:∀{a' w'},Fr (fun t=>eE t y=true) a w a' w'→Fr (fun t=>eE t (.cond c x y)=true) a w a' w':=fun h=>h.mono fun t O=>by rw[wa,Bu];exact .inr O
  split at j
  ·rename_i t O
   refine wpIn_cond_split (gH s O) (fun e=>?_) (fun e=>?_)
   ·exact ihx _ Kn Kx r a w Q (j.yes e) s B (fun g a' w' p q o=>z g a' w' p (E q) o) (fun i g a' w' p q o=>hx i g a' w' p (E q) o) (fun g a' w' p q o=>G g a' w' p (E q) o)
   ·exact ihy _ Kn Kx r a w Q (j.no e) s B (fun g a' w' p q o=>z g a' w' p (C q) o) (fun i g a' w' p q o=>hx i g a' w' p (C q) o) (fun g a' w' p q o=>G g a' w' p (C q) o)
  ·exact j.elim
 |block id b ih=>
  intro D Kn Kx r a w Q j s B z hx G;refine wpIn_block (ih D Kn _ r a w _ j s (fun R a w=>B R a w) z (fun i g a' w' p q o=>?_) G)
  simp only[Exit.inBlock]at o⊢;cases hi:aX i id with
  |true=>
   rw[hi,cond_true]at o;rw[if_pos (aF hi)];exact z g a' w' p q o
  |false=>
   rw[hi,cond_false]at o;rw[if_neg (fun e=>by rw[e,m5]at hi;cases hi)]
   exact hx i g a' w' p q o
 |loop b ih=>
  intro D Kn Kx r a w Q j s B z hx G;cases D with
  |loop st M=>
   have j:(match rZ b with
      |none=>False
      |some m=>wn st r fun t0=>LoopP (T:=qn (sJ st)) (fun Y t K=>gX P N b M (fun g h''=>wn st g fun t'=>Y t' h'') Kx (jV st (jC (sJ st) t) (qX m r)) K) t0 w.heap):=j
   split at j
   ·exact j.elim
   ·rename_i m hm
    obtain⟨t0,X,hl⟩:=qN j;have h0:=hl.run (fun t K=>∀a' w',w'.heap=K→Agree N (jV st (jC (sJ st) t) (qX m r)) a'→Fr (fun t=>eE t b=true) a w a' w'→LWP ro n P b Q a' w') (fun t K hF a' w' hw S V=>by
     subst hw
     refine LWP.step (ih M _ Kx _ a' w' _ hF S (fun R a w=>B R a w) ?_ (fun i g I H p q o=>hx i g I H p (V.trans q) o) (fun g I H p q o=>G g I H p (V.trans q) o))
     intro r1 W w1 F A L
     obtain⟨t1,Z,hk1⟩:=qN L
     exact hk1 W w1 rfl (F.zip Z (s.keep hm (V.trans A) F)) (V.trans A))
    exact LWP.loop (h0 a w rfl (s.zip X (s.keep hm (Fr.refl _ a w) s)) (Fr.refl _ a w))
  |_=>exact j.elim
 |rangeFunc f params assign body _ _=>intro D Kn Kx r a w Q j;exact j.elim
 |exit id=>
  intro D Kn Kx r a w Q j s B z hx G;exact wpIn_exit (hx id r a w s (Fr.refl ..) j)
 |scope b _=>intro D Kn Kx r a w Q j;exact j.elim
 |label l=>
  intro D Kn Kx r a w Q j s B z hx G;exact wpIn_label (z r a w s (Fr.refl ..) j)
 |goto l=>intro D Kn Kx r a w Q j;exact j.elim
 |ret=>
  intro D Kn Kx r a w Q j s B z hx G;exact wpIn_ret (G r a w s (Fr.refl ..) j)
 |refuse why=>intro D Kn Kx r a w Q j;exact j.elim
end Go.Lift
namespace Go.Lift
open Go
variable {P:Program}
theorem lY{N:Nat}{r:bJ}{a:Act}{w:World}(d:Agree N r a):∀{l:List ResultVar} {K:List Value→Prop},jX P r w.heap l K→
  ∃vs,(∀g:ResultVar→Sem Value,(∀t,g (.tmp t)=pure (a.tmps.getD t undef))→(∀x t,g (.cell x t)=do loadVar t (←asAddr (a.tmps.getD x undef)))→(l.mapM g).run P w=.ok vs w)∧K vs
 | [],K,h=>⟨[],fun g _ _=>by rw[List.mapM_nil];rfl,h⟩
 | .tmp t::l,K,h=>by
  unfold jX at h;split at h
  ·rename_i v hv
   obtain⟨vs,f,i⟩:=lY d h;refine⟨v::vs,fun g e c=>?_,i⟩
   rw[List.mapM_cons,e];simp only[Sem.run_bind,Sem.run_pure,Result.andThen_ok];rw[f g e c];simp only[Result.andThen_ok,d.look t v hv]
  ·exact h.elim
 | .cell x t::l,K,h=>by
  unfold jX at h;split at h
  ·rename_i v hv
   obtain⟨u,S,m,n,k⟩:=wA h;obtain⟨vs,f,i⟩:=lY d m;refine⟨u::vs,fun g e c=>?_,i⟩
   rw[List.mapM_cons,c];have j:(do loadVar t (←asAddr (a.tmps.getD x undef)):Sem Value).run P w=.ok u w:=by
    rw[d.look x v hv];unfold Cf at h;cases v with
    |pointer p=>cases p with
     |none=>exact h.elim
     |some b=>exact k w n
    |_=>exact h.elim
   simp only[Sem.run_bind]at j⊢;rw[j];simp only[Result.andThen_ok];rw[f g e c];simp only[Sem.run_pure,Result.andThen_ok]
  ·exact h.elim
theorem zR(ks:List Kind)(t:qn ks):(if h:(jC ks t).toArray.size=1 then(jC ks t).toArray[0]else Value.tuple (jC ks t).toArray)=wY ks (jC ks t):=by
 match ks,t with
 | [],t=>rfl
 | [k],t=>rfl
 |k::l::ks,(x,t)=>
  have:(jC (k::l::ks) (x,t)).length=(k::l::ks).length:=ou _ _;rw[dif_neg (by simp only[co,this,aL];omega)];rfl
theorem qk:∀(vs:List Value) (i t:Nat) (v:Value),gG (l5 i vs) t=some v→i≤t∧vs[t-i]? =some v
 | [],i,t,v,h=>by cases h
 |u::vs,i,t,v,h=>by
  by_cases e:i=t
  ·subst e
   rw[show l5 i (u::vs)=(i,u)::l5 (i+1) vs from rfl,fF]at h
   cases h;exact⟨Nat.le_refl _,by simp⟩
  ·rw[show l5 i (u::vs)=(i,u)::l5 (i+1) vs from rfl,eY u _ e]at h
   obtain⟨b,a⟩:=qk vs (i+1) t v h;refine⟨by omega,?_⟩;rw[show t-i=(t-(i+1))+1 by omega,List.getElem?_cons_succ]
   exact a
theorem FA(d:P.follows .mixedOrders=true){n:Nat}{fn:Func}{c:Code}{m:Ann}{args:List Value}{ks:List Kind}{K:qn ks→ae→Prop}{w:World}(o:args.length≤fn.ntmps)(p:B5 P fn c m args ks K w.heap):
  c.wpIn (FW none) n P (bodyPost P fn fun e w'=>Tame w w'∧∃t:qn ks,e=.returned (wY ks (jC ks t))∧K t w'.heap) {tmps:=args.toArray++j6 (fn.ntmps-args.toArray.size) undef,defers:= []} w:=by
 have q:Agree fn.ntmps (l5 0 args) {tmps:=args.toArray++j6 (fn.ntmps-args.toArray.size) undef,defers:= []}:=by
  refine⟨by simp;omega,fun t v hv=>?_⟩
  obtain⟨_,i⟩:=qk args 0 t v hv;simp only[dA]at i;have g:=(aP.1 i).1;simp[Array.getElem?_append,g];rw[aj g]at i;cases i;rfl
 have fin:∀j a' (w':World),Agree fn.ntmps j a'→Fr (fun t=>eE t c=true) {tmps:=args.toArray++j6 (fn.ntmps-args.toArray.size) undef,defers:= []} w a' w'→
   jX P j w'.heap fn.results.toList (fun vs=>w8 ks vs fun t=>K t w'.heap)→
   a'.defers= []∧∃v,(results fn a'.tmps).run P w'=.ok v w'∧(Tame w w'∧∃t:qn ks,Ending.returned v=.returned (wY ks (jC ks t))∧K t w'.heap):=fun j a' w' k b s=>by
  obtain⟨vs,f,hd⟩:=lY k s;obtain⟨t,rfl,u⟩:=nu hd;refine⟨b.defers,_,?_,b.tame,t,rfl,u⟩;unfold results;rw[jz];simp only[Sem.run_bind,Sem.run_map];rw[f _ (fun _=>rfl) (fun _ _=>rfl)]
  simp only[Result.andThen_ok,Sem.run_pure];rw[←zR]
 exact nU d c m _ _ _ _ w _ p q (fun x a w h=>h.2.2.elim fun _ h=>by cases h.1) fin (fun _ _ _ _ _ _ h=>h.elim) fin
theorem HE.intro(b:P.follows .mixedOrders=true){f:FuncId}{fn:Func}{c:Code}{e:Ann}{args:List Value}{ks:List Kind}{K:qn ks→ae→Prop}{h:ae}
  (i:P.funcs[f]? =some fn) (j:fn.body=some c) (a:∀(args:Array Value) (w:World),(callFunc f args).run P w=.ok (.enter f args) w) (d:args.length≤fn.ntmps)
  (g:B5 P fn c e args ks K h):HE P f args ks K h:=by
 refine⟨fun w k=>⟨a,?_⟩⟩
 subst k;exact(callsIn_wide (n:=0)).1 (callsIn_of_wp (F:=FW none) i j trivial (FA b d g) rfl)
theorem HD.intro(b:P.follows .mixedOrders=true){f:FuncId}{fn:Func}{c:Code}{i:Ann}{args:List Value}{ks:List Kind}{K:ae→Prop}{h:ae}
  (k:P.funcs[f]? =some fn) (o:fn.body=some c) (a:∀(args:Array Value) (w:World),(callFunc f args).run P w=.ok (.enter f args) w) (d:args.length≤fn.ntmps)
  (j:B5 P fn c i args ks (fun _ h'=>K h') h):HD P f args K h:=by
 refine fun w p=>⟨a,fun n=>?_⟩
 subst p;exact(callsDIn_of_wp (F:=FW none) k o trivial (FA b d j) rfl).mono fun e u w' ⟨m,q,t,g,s⟩=>⟨m,q,⟨_,g⟩,s⟩
theorem HC.intro(b:P.follows .mixedOrders=true){f:FuncId}{fn:Func}{c:Code}{e:Ann}{args:List Value}{ks:List Kind}{K:qn ks→ae→Prop}{h:ae}
 (i:P.funcs[f]? =some fn) (j:fn.body=some c) (a:∀(args:Array Value) (w:World),(callFunc f args).run P w=.ok (.enter f args) w) (d:args.length≤fn.ntmps)
 (g:B5 P fn c e args ks K h):HC P f args ks K h:=(HE.intro b i j a d g).hc
theorem Eu{N:Nat}{args:List Value}(c:args.length≤N):Agree N (l5 0 args) {tmps:=args.toArray++j6 (N-args.toArray.size) undef,defers:= []}:=by
 refine⟨by simp;omega,fun t v hv=>?_⟩
 obtain⟨_,b⟩:=qk args 0 t v hv;simp only[dA]at b;have a:=(aP.1 b).1;simp[Array.getElem?_append,a];rw[aj a]at b;cases b;rfl
theorem Cb{N:Nat}{fn:Func}{ks:List Kind}{K:qn ks→ae→Prop}{c:bJ}{a':Act}{w':World}(b:Agree N c a')(d:jX P c w'.heap fn.results.toList (fun vs=>w8 ks vs fun t=>K t w'.heap)):
  ∃t:qn ks,(results fn a'.tmps).run P w'=.ok (wY ks (jC ks t)) w'∧K t w'.heap:=by
 obtain⟨vs,a,hd⟩:=lY b d;obtain⟨t,rfl,e⟩:=nu hd;refine⟨t,?_,e⟩;unfold results;rw[jz];simp only[Sem.run_bind,Sem.run_map];rw[a _ (fun _=>rfl) (fun _ _=>rfl)]
 simp only[Result.andThen_ok,Sem.run_pure];rw[←zR]
end Go.Lift
namespace Go.Lift
open Go
variable {P:Program}
abbrev yi(D:Nat):Deferred:={target:=.collected D,args:= #[]}
abbrev lJ:Mk→Deferred
 | .it D=>yi D
 | .call f vs=>{target:=.fn (.func f) #[],args:= #[]++vs.toArray}
theorem yP{N:Nat}:∀{ps:List Nat} {vs:List Value} {r:bJ} {tmps:Array Value},sS N ps=true→Agree N r {tmps:=tmps,defers:= []}→
  Agree N (IH ps vs r) {tmps:=(ps.zip vs).foldl (fun t x=>t.setIfInBounds x.1 x.2) tmps,defers:= []}
 | [],vs,r,tmps,_,h=>by cases vs<;>exact h
 |i::ps,[],r,tmps,_,h=>h
 |i::ps,v::vs,r,tmps,a,h=>by
  have a:(rN i N&&sS N ps)=true:=a;rw[aS]at a;have b:i<N:=by simpa using a.1
  have:=h.put i v b;exact yP (tmps:=tmps.setIfInBounds i v) a.2 this
theorem xN(w:World)(o:Obj):Tame w (w.alloc o):=⟨rfl,rfl,rfl⟩
theorem kz(w:World)(b:Nat)(o:Obj):Tame w (w.putObj b o):=⟨rfl,rfl,rfl⟩
theorem Cj(w:World)(b:Nat)(o:Obj):(w.putObj b o).heap=w.heap.setIfInBounds b o:=rfl
theorem FH(ps:Array Nat)(vs:List Value)(t:Array Value):(ps.zip vs.toArray).foldl (fun t (x:Nat×Value)=>t.setIfInBounds x.1 x.2) t=(ps.toList.zip vs).foldl (fun t x=>t.setIfInBounds x.1 x.2) t:=by
 obtain⟨l⟩:=ps;simp
theorem wZ(B:P.follows .mixedOrders=true){n N:Nat}{g:Operand}{ps:Array Tmp}{assign body:Code}{aa ab:Ann}{ks:List Kind}{fv:Value}{r:bJ}{a:Act}{w:World}{Q:Exit→Act→World→Prop}
  {KN:ae→Prop}{KX:Nat→ae→Prop}{KR:ae→Prop}(T:sS N ps.toList=true)(J:ps.toList.length=ks.length)(hg:cp r g=some fv)(ha:Agree N r a)
  (hR:RangeP P fv ks w.heap (fun BK bz x k h'=>Dn P N ps.toList ks assign body (.node aa ab) r (w.heap.size+1) BK bz x k h') KN KX KR)
  (hn:∀w',Tame w w'→KN w'.heap→Q .normal {a with defers:=yi w.heap.size::a.defers} w')
  (hx:∀i w',Tame w w'→KX i w'.heap→Q (.exit i) {a with defers:=yi w.heap.size::a.defers} w')
  (hr:∀w',Tame w w'→KR w'.heap→Q .ret {a with defers:=yi w.heap.size::a.defers} w'):(Code.rangeFunc g ps assign body).wpIn (FW none) n P Q a w:=by
 refine wpIn_rangeFunc fun fn _=>?_
 obtain⟨lo,m⟩:∃lo:LoopState→Option Ex→Obj,lo=fun s j=>.loop {state:=s,pending:=Bg j,fn,tmps:=a.tmps,params:=ps,assign,body,defers:=w.heap.size}:=⟨_,rfl⟩
 have hj:∀j:Option Ex,(Bg j).isNone=j.isNone:=fun j=>by rcases j with _|⟨_|_⟩<;>rfl
 obtain⟨f,first,cap,rfl,he⟩:=hR.run lo (fun s j=>⟨_,by rw[m]⟩) (fun x h' K q z=>by
  refine⟨.inr ⟨_,rfl,⟨fun O Z=>?_⟩⟩⟩
  subst Z
  rw[m]at q
  have hy:=run_yield (P:=P) (args:=(jC ks x).toArray) q (by simp only[co,ou];rw[←J];rfl)
  refine⟨_,_,_,_,hy,fun c cs=>?_⟩
  have hA:Agree N (IH ps.toList (jC ks x) r) {tmps:=(ps.zip (jC ks x).toArray).foldl (fun t (x:Nat×Value)=>t.setIfInBounds x.1 x.2) a.tmps,defers:= []}:=by
   rw[FH]
   exact yP T ⟨ha.size,ha.look⟩
  have p:∀j:Option Ex,∀W:World,Tame O W→(W.heap[w.heap.size+1]? =some (lo .busy none)∧K j.isNone (W.heap.setIfInBounds (w.heap.size+1) (lo (if j.isNone then .ready else .done) j)))→
    ∃v w',(Instr.endRound (w.heap.size+1) (Bg j)).run P W=.ok v w'∧∃b,Ending.returned v=.returned (.bool b)∧Tame O w'∧K b w'.heap:=by
   rintro j W L ⟨h1,S⟩
   rw[m]at h1
   have:=run_endRound (P:=P) (Bg j) h1
   refine⟨_,_,this,_,rfl,L.trans (kz ..),?_⟩
   rw[m]at S
   rw[hj]
   exact S
  have:=roundIn_of_wpIn (F:=FW none) (n:=0) (P:=P) (l:=w.heap.size+1) (f:=fn) (assign:=assign) (body:=body) (w:=O)
   (tmps:=(ps.zip (jC ks x).toArray).foldl (fun t (x:Nat×Value)=>t.setIfInBounds x.1 x.2) a.tmps)
   (R:=fun e w'=>∃b,e=.returned (.bool b)∧Tame O w'∧K b w'.heap) trivial (by
    refine nU (ro:=some (w.heap.size+1)) B assign aa _ _ _ _ O _ z hA (fun ch a w h=>h) ?_ (fun i r' a' w' _ _ h=>h.elim) (fun r' a' w' _ _ h=>h.elim)
    rintro r2 a2 Y ha2 E ⟨y,D⟩
    rw[m]at y
    refine⟨_,run_beginRound y rfl,?_⟩
    have G:∀o,o=lo .busy none→Y.heap.setIfInBounds (w.heap.size+1) o=Y.heap.setIfInBounds (w.heap.size+1) (lo .busy none):=fun o V=>by rw[V]
    refine nU (ro:=some (w.heap.size+1)) B body ab (fun _ S=>_) (fun e _ S=>_) _ _ (Y.putObj (w.heap.size+1) _) _ (by
     rw[Cj,G _ (by rw[m])];exact D) ha2 (fun ch a w h=>h) ?_ ?_ ?_
    ·rintro r3 a3 I M u H
     exact p none I ((E.tame.trans (kz ..)).trans u.tame) H
    ·rintro i r3 a3 I M u H
     exact p (some (.exit i)) I ((E.tame.trans (kz ..)).trans u.tame) H
    ·rintro r3 a3 I M u H
     exact p (some .ret) I ((E.tame.trans (kz ..)).trans u.tame) H)
  obtain⟨e,w',⟨b,rfl,L,hK⟩,X⟩:=this.2 c cs (fun d h=>by simp[FW]at h)
  exact⟨b,w',L,hK,X.steps⟩)
 have A:=he.run ((w.alloc (.deferred (some []))).alloc (lo .ready none)) rfl;refine⟨w.heap.size+1,[yi w.heap.size],(w.alloc (.deferred (some []))).alloc (lo .ready none),{target:=.fn (.func f) cap,args:=first++ #[.func (.yield (w.heap.size+1)) #[] #[]]},(w.alloc (.deferred (some []))).alloc (lo .ready none),f,
  first++ #[.func (.yield (w.heap.size+1)) #[] #[]]++cap,(w.alloc (.deferred (some []))).alloc (lo .ready none),?_,?_,fun _ _=>trivial,?_,fun h=>by simp[FW]at h,?_⟩
 ·rw[m];exact run_enterLoop_outer fn a.tmps ps assign body
 ·have U:=gH ha hg
  simp[resolve,U,Deferred.ofValue,Sem.run_pure];rfl
 ·simp[invoke,A.1]
 ·refine yJ ?_
  have e:(first.toList++ [Value.func (.yield (w.heap.size+1)) #[] #[]]++cap.toList).toArray=first++ #[.func (.yield (w.heap.size+1)) #[] #[]]++cap:=by apply bZ;simp
  rw[←e];refine A.2.mono ?_;rintro e w' ⟨L,t,rfl,s,j,X,q,p⟩;have ht':Tame w w':=((xN w _).trans (xN _ _)).trans L;rw[m]at q;refine⟨_,_,run_endLoop q X,?_⟩;have C:∀o,Tame w (w'.putObj (w.heap.size+1) o):=fun o=>ht'.trans (kz ..)
  have G:∀o,o=lo .exhausted j→(w'.putObj (w.heap.size+1) o).heap=w'.heap.setIfInBounds (w.heap.size+1) (lo .exhausted j):=fun o V=>by rw[V];rfl
  rcases j with _|⟨i|_⟩
  ·exact hn _ (C _) (by rw[G _ (by rw[m])];exact p)
  ·exact wpIn_exit (hx i _ (C _) (by rw[G _ (by rw[m])];exact p))
  ·exact wpIn_ret (hr _ (C _) (by rw[G _ (by rw[m])];exact p))
theorem yF{n N id d:Nat}{ops:Array Oper}{m o:Oper}{x:Operand}{f:FuncId}{as:List Operand}{vs:List Value}{v:Value}{r:bJ}{a:Act}{w:World}{Q:Exit→Act→World→Prop}(b:yG ops.toList=some (m,o,x,d,f,as))(hv:cp r x=some v)(t:d<N)(g:j9 ((d,v)::r) as=some vs)(i:Agree N r a)
  (s:∀a',Agree N ((d,v)::r) a'→a'.defers=lJ (.call f vs)::a.defers→Q .normal a' w):(Code.region id ops false).wpIn (FW none) n P Q a w:=by
 unfold yG at b;split at b
 ·rename_i m' o' hl
  split at b
  ·rename_i x' d' c h1 h2 h3 h4 h5 h6
   split at b
   ·rename_i f' hc
    cases b;have u:ops[0]? =some m:=by rw[←aO,hl];rfl
    have q:ops[1]? =some o:=by rw[←aO,hl];rfl
    have es:ops.size=2:=by rw[←Array.length_toList,hl];rfl
    have w0:∀y,Region.wanted m y=true:=fun y=>by simp[Region.wanted,h2]
    have z:∀y,Region.wanted o y=true:=fun y=>by simp[Region.wanted,h6]
    refine wpIn_region ?_;rw[es,show bW 2= [0,1]from rfl]
    simp only[wpOpsIn,u,q,w0,z,if_true];refine BigFrame.wpIn_move x h1 ?_;rw[gH i hv,h3];have e:=i.put d v t;refine⟨fun _ _=>trivial,?_⟩
    have k:((Oper.semAt (FW none).round (a.put (some d) v).eval o).run P w)=.ok (.defer (lJ (.call f vs))) w:=by
     show((execOp (a.put (some d) v).eval o).run P w)=_
     have p:=iZ e g;have j:c.args.map (a.put (some d) v).eval=vs.toArray:=by rw[←p];apply bZ;simp
     simp only[execOp,h4,resolve,hc,j];simp[Act.eval,Deferred.ofValue,lJ]
    rw[k,Oper.uponIn_defer,h5];exact s _ ⟨e.size,e.look⟩ rfl
   ·cases b
  ·cases b
 ·cases b
theorem AN(H:P.follows .mixedOrders=true){n N:Nat}(c:Code):∀(s:Ann) (Kn:List Mk→bJ→ae→Prop) (Kx:Ex→List Mk→bJ→ae→Prop) (ms:List Mk) (r:bJ) (a:Act) (w:World) (Q:Exit→Act→World→Prop),
  sN P N c s Kn Kx ms r w.heap→Agree N r a→a.defers=ms.map lJ→(∀K a w,¬Q (.panic K) a w)→
  (∀p q a' w',Agree N q a'→a'.defers=p.map lJ→Tame w w'→Kn p q w'.heap→Q .normal a' w')→
  (∀i p q a' w',Agree N q a'→a'.defers=p.map lJ→Tame w w'→Kx (.exit i) p q w'.heap→Q (.exit i) a' w')→
  (∀p q a' w',Agree N q a'→a'.defers=p.map lJ→Tame w w'→Kx .ret p q w'.heap→Q .ret a' w')→
  c.wpIn (FW none) n P Q a w:=by
 have plain:∀(c:Code) (s:Ann) (Kn:List Mk→bJ→ae→Prop) (Kx:Ex→List Mk→bJ→ae→Prop) (ms:List Mk) (r:bJ) (a:Act) (w:World) (Q:Exit→Act→World→Prop),
  gX P N c s (Kn ms) (fun e=>Kx e ms) r w.heap→Agree N r a→a.defers=ms.map lJ→(∀K a w,¬Q (.panic K) a w)→
  (∀p q a' w',Agree N q a'→a'.defers=p.map lJ→Tame w w'→Kn p q w'.heap→Q .normal a' w')→
  (∀i p q a' w',Agree N q a'→a'.defers=p.map lJ→Tame w w'→Kx (.exit i) p q w'.heap→Q (.exit i) a' w')→
  (∀p q a' w',Agree N q a'→a'.defers=p.map lJ→Tame w w'→Kx .ret p q w'.heap→Q .ret a' w')→
  c.wpIn (FW none) n P Q a w:=by
  intro c s Kn Kx ms r a w Q j u hd C z hx B;exact nU H c s _ _ r a w Q j u C (fun q a' w' E A D=>z ms q a' w' E (A.defers.trans hd) A.tame D) (fun i q a' w' E A D=>hx i ms q a' w' E (A.defers.trans hd) A.tame D)
   (fun q a' w' E A D=>B ms q a' w' E (A.defers.trans hd) A.tame D)
 induction c with
 |skip=>intro s Kn Kx ms r a w Q j;exact plain _ s Kn Kx ms r a w Q j
 |region id ops dr=>
  intro s Kn Kx ms r a w Q j u hd C z hx B;have j:(match yG ops.toList with
   |none=>gX P N (.region id ops dr) s (Kn ms) (fun e=>Kx e ms) r w.heap
   |some (_,_,x,d,f,as)=>bif dr then False else match cp r x with
    |some v=>bif rN d N then(match j9 ((d,v)::r) as with|some vs=>Kn (.call f vs::ms) ((d,v)::r) w.heap|none=>False)else False
    |none=>False):=j
  split at j
  ·exact plain _ s Kn Kx ms r a w Q j u hd C z hx B
  ·rename_i m o x d f as he
   cases dr with
   |true=>exact j.elim
   |false=>
    rw[cond_false]at j;split at j
    · rename_i v hv
      cases hb:rN d N with
      |false=>rw[hb]at j;exact j.elim
      |true=>
       rw[hb,cond_true]at j;split at j
       ·rename_i vs hvs
        refine yF he hv (by simpa using hb) hvs u fun a' U R=>z (.call f vs::ms) _ a' w U ?_ ⟨rfl,rfl,rfl⟩ j
        rw[R,hd];rfl
       ·exact j.elim
    · exact j.elim
 |seq x y ihx ihy=>
  intro s Kn Kx ms r a w Q j u hd C z hx B;have j:(bif (bif ni x then true else ni y)then sN P N x s.l (fun ms q F=>sN P N y s.r Kn Kx ms q F) Kx ms r w.heap
   else gX P N (.seq x y) s (Kn ms) (fun e=>Kx e ms) r w.heap):=j
  cases hb:(bif ni x then true else ni y)with
  |false=>rw[hb]at j;exact plain _ _ _ _ _ _ _ _ _ j u hd C z hx B
  |true=>
   rw[hb,cond_true]at j;refine wpIn_seq (ihx s.l _ Kx ms r a w _ j u hd (fun K a w=>C K a w) ?_ hx B)
   intro W Y Z w1 O T I M;exact ihy s.r Kn Kx W Y Z w1 Q M O T C (fun p q a' w' E A D G=>z p q a' w' E A (I.trans D) G) (fun i p q a' w' E A D G=>hx i p q a' w' E A (I.trans D) G)
    (fun p q a' w' E A D G=>B p q a' w' E A (I.trans D) G)
 |cond c x y ihx ihy=>
  intro s Kn Kx ms r a w Q j u hd C z hx B;have j:(bif (bif ni x then true else ni y)then
    (match cp r c with
     |some (.bool t)=>CondP t (sN P N x s.l Kn Kx ms r w.heap) (sN P N y s.r Kn Kx ms r w.heap)
     |_=>False)
   else gX P N (.cond c x y) s (Kn ms) (fun e=>Kx e ms) r w.heap):=j
  cases hb:(bif ni x then true else ni y)with
  |false=>rw[hb]at j;exact plain _ _ _ _ _ _ _ _ _ j u hd C z hx B
  |true=>
   rw[hb,cond_true]at j;split at j
   ·rename_i t J
    exact wpIn_cond_split (gH u J) (fun e=>ihx _ Kn Kx ms r a w Q (j.yes e) u hd C z hx B) (fun e=>ihy _ Kn Kx ms r a w Q (j.no e) u hd C z hx B)
   ·exact j.elim
 |block id b ih=>
  intro s Kn Kx ms r a w Q j u hd C z hx B;have j:(bif ni b then sN P N b s Kn (fun e ms q F=>match e with
    | .exit i=>bif aX i id then Kn ms q F else Kx (.exit i) ms q F
    | .ret=>Kx .ret ms q F) ms r w.heap
   else gX P N (.block id b) s (Kn ms) (fun e=>Kx e ms) r w.heap):=j
  cases hb:ni b with
  |false=>rw[hb]at j;exact plain _ _ _ _ _ _ _ _ _ j u hd C z hx B
  |true=>
   rw[hb,cond_true]at j;refine wpIn_block (ih s Kn _ ms r a w _ j u hd (fun K a w=>C K a w) z (fun i p q a' w' E A D G=>?_) B)
   simp only[Exit.inBlock]at G⊢;cases hi:aX i id with
   |true=>
    rw[hi,cond_true]at G;rw[if_pos (aF hi)];exact z p q a' w' E A D G
   |false=>
    rw[hi,cond_false]at G;rw[if_neg (fun e=>by rw[e,m5]at hi;cases hi)]
    exact hx i p q a' w' E A D G
 |loop b ih=>intro s Kn Kx ms r a w Q j;exact plain _ s Kn Kx ms r a w Q j
 |rangeFunc g ps assign body _ _=>
  intro s Kn Kx ms r a w Q j u hd C z hx B;cases s with
  |rf ks aa ab=>
   have j:(bif sS N ps.toList&&aX ps.toList.length ks.length then
    (match cp r g with
     |some fv=>RangeP P fv ks w.heap (fun BK X x k F=>Dn P N ps.toList ks assign body (.node aa ab) r (w.heap.size+1) BK X x k F)
       (fun F=>Kn (.it w.heap.size::ms) r F) (fun i F=>Kx (.exit i) (.it w.heap.size::ms) r F) (fun F=>Kx .ret (.it w.heap.size::ms) r F)
     |none=>False)else False):=j
   cases hb:(sS N ps.toList&&aX ps.toList.length ks.length)with
   |false=>rw[hb]at j;exact j.elim
   |true=>
    rw[hb,cond_true]at j;rw[aS]at hb;split at j
    · rename_i fv hfv
      have V:Agree N r {a with defers:=yi w.heap.size::a.defers}:=⟨u.size,u.look⟩;have S:({a with defers:=yi w.heap.size::a.defers}:Act).defers=(.it w.heap.size::ms).map lJ:=by rw[List.map_cons,←hd]
      exact wZ H hb.1 (aF hb.2) hfv u j (fun w' J L=>z _ r _ w' V S J L) (fun i w' J L=>hx i _ r _ w' V S J L) (fun w' J L=>B _ r _ w' V S J L)
    · exact j.elim
  |_=>exact j.elim
 |exit id=>intro s Kn Kx ms r a w Q j;exact plain _ s Kn Kx ms r a w Q j
 |scope b _=>intro s Kn Kx ms r a w Q j;exact j.elim
 |label l=>intro s Kn Kx ms r a w Q j;exact plain _ s Kn Kx ms r a w Q j
 |goto l=>intro s Kn Kx ms r a w Q j;exact j.elim
 |ret=>intro s Kn Kx ms r a w Q j;exact plain _ s Kn Kx ms r a w Q j
 |refuse why=>intro s Kn Kx ms r a w Q j;exact j.elim
theorem pY{fn:Func}{ks:List Kind}{K:qn ks→ae→Prop}{N:Nat}{n:Nat}{r:bJ}{a:Act}{w0:World}(c:Agree N r a):∀(ms:List Mk) (w:World),Tame w0 w→
  B2 P ms (fun g=>jX P r g fn.results.toList fun vs=>w8 ks vs fun t=>K t g) w.heap→
  LeavesInM (FW none) n P fn a.tmps (fun e w'=>Tame w0 w'∧∃t:qn ks,e=.returned (wY ks (jC ks t))∧K t w'.heap) (ms.map lJ) .returning w
 | [],w,ht,h=>by
  obtain⟨t,b,k⟩:=Cb c h;exact⟨_,b,ht,t,rfl,k⟩
 | .it D::ms,w,ht,h=>by
  refine⟨by simp,.inl ⟨D,_,rfl,run_takeDeferred h.1,?_⟩⟩;exact pY c ms (w.putObj D (.deferred none)) (ht.trans (kz ..)) h.2
 | .call f vs::ms,w,ht,h=>by
  obtain⟨hc,hd⟩:=h w rfl;refine⟨by simp,.inr ⟨(fun e=>by cases e),.func f,#[],f,vs.toArray,rfl,?_,fun _ _=>trivial,CallsDIn.mono (hd (n-1)) fun e u w' ⟨j,d,⟨v,i⟩,m⟩=>?_⟩⟩
  ·have:=hc vs.toArray w
   simpa[invoke]using this
  ·subst j i
   exact pY c ms w' (ht.trans d) m
theorem HE.introM(k:P.follows .mixedOrders=true){f:FuncId}{fn:Func}{c:Code}{q:Ann}{args:List Value}{ks:List Kind}{K:qn ks→ae→Prop}{h:ae}
  (v:P.funcs[f]? =some fn) (x:fn.body=some c) (b:∀(args:Array Value) (w:World),(callFunc f args).run P w=.ok (.enter f args) w) (m:args.length≤fn.ntmps)
  (s:Ha P fn c q args ks K h):HE P f args ks K h:=by
 refine⟨fun w y=>⟨b,?_⟩⟩
 subst y;refine(callsIn_wide (n:=0)).1 (callsIn_of_wp_marks (F:=FW none) v x trivial ?_ rfl);refine wpIn_mono (Q:=fun e a w'=>(∀o,e≠ .panic o)∧bodyPostM (FW none) 0 P fn (fun e w'=>Tame w w'∧∃t:qn ks,e=.returned (wY ks (jC ks t))∧K t w'.heap) e a w') ?_ fun e a w h=>h.2
 refine AN k c q _ _ [] _ _ w _ s (Eu m) rfl (fun o a w h=>h.1 o rfl) ?_ (fun _ _ _ _ _ _ _ _ h=>h.elim) ?_
 ·intro d u a' w' i g j p
  refine⟨(fun _ e=>by cases e),?_⟩
  show LeavesInM _ _ _ _ _ _ a'.defers _ _
  rw[g];exact pY i d w' j p
 ·intro d u a' w' i g j p
  refine⟨(fun _ e=>by cases e),?_⟩
  show LeavesInM _ _ _ _ _ _ a'.defers _ _
  rw[g];exact pY i d w' j p
theorem HC.introM(b:P.follows .mixedOrders=true){f:FuncId}{fn:Func}{c:Code}{e:Ann}{args:List Value}{ks:List Kind}{K:qn ks→ae→Prop}{h:ae}
 (i:P.funcs[f]? =some fn) (j:fn.body=some c) (a:∀(args:Array Value) (w:World),(callFunc f args).run P w=.ok (.enter f args) w) (d:args.length≤fn.ntmps)
 (g:Ha P fn c e args ks K h):HC P f args ks K h:=(HE.introM b i j a d g).hc
end Go.Lift
namespace Go.Lift
open Go
def AppP(z:Option (List Value))(e b:Nat)(t:TypeId)(a:Option Addr)(sl d c:Nat)(xs:List Value)(h:ae)(K:SliceV→ae→Prop):Prop:=
 (sl+c≤d→ph h a (sl*e) xs∧bE xs=true∧K ⟨a,sl+c,d⟩ (dV h a (sl*e) xs))∧
 (d<sl+c→∃old z',SRow h a (sl*e) old∧z=some z'∧0<b∧Builtin.nextslicecap (sl+c) d*b≤2^48∧
  ∀nc,sl+c≤nc→K ⟨some (aU h),sl+c,nc⟩ (hnew h (old++xs++cA (nc-(sl+c)) z') t))
end Go.Lift
