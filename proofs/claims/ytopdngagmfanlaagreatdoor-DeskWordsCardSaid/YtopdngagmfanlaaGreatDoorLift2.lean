/- A part of the proof that the named laws of this program answer true, whatever the input. -/
import Derived.Test.YtopdngagmfanlaaGreatDoorLift1
import Derived.BigFrameIn
open Array renaming getD_eq_getD_getElem?→cH,getElem?_toList→aS,getElem?_setIfInBounds_ne→dJ,replicate→hG,getElem?_eq_some_iff→bK,getElem?_eq_getElem→fA,getElem?_eq_none→ju,mapM_eq_mapM_toList→lh,ext'→cr
open Bool renaming eq_false_iff→nt,or_eq_true→hE,and_eq_true→aQ,not_eq_true'→ns,or_eq_false_iff→kz
open Go.Result renaming andThen_ok→ar
open Go.Sem renaming run_bind→aH,run_pure→bd
open List renaming mem_of_getElem?→bD,length_cons→aV,mem_cons→au,getElem?_cons_zero→dI,getElem?_eq_getElem→aJ,any_eq_true→bI,getElem?_eq_some_iff→bi,mem_cons_of_mem→bj,mem_cons_self→aW,range→dA,filter_cons→cS,mem_singleton→aN,size_toArray→cp
open Nat renaming blt→vY,beq→ax,eq_of_beq_eq_true→aL,land→iu,lor→cB,testBit_and→pz,zero_testBit→kY,succ→eM,zero_add→aD,beq_refl→qc,lt_or_ge→bQ,pred→vJ,sub_zero→dD
open Option renaming some→aZ
namespace Go.Lift
open Go
variable {P:Program} {ro:Option Nat} {n:Nat}
def FW(ro:Option Nat):Fence:={fn:=fun _=>True,depth:=none,alive:=false,round:=ro}
theorem ML(m:Machine):m.fenced P (FW ro):=by
 intro g _;exact⟨fun h=>by simp[FW]at h,.inl trivial,fun _ _=>trivial,fun d h=>by simp[FW]at h⟩
theorem w9{m a:Machine}(h:Steps P m a):StepsIn (Machine.fenced P (FW ro)) P m a:=(StepsIn.of_steps h).mono fun m _=>ML m
theorem Dy{k:Nat}{f:FuncId}{args:Array Value}{w:World}{R:Ending→World→Prop}(h:Calls P f args w R):CallsIn (FW ro) k P f args w R:=by
 refine⟨trivial,fun cs _=>?_⟩
 obtain⟨e,w',fr,d,hc,a,b⟩:=h cs;refine⟨e,w',fr,d,?_,a,b⟩;cases e with
 |returned v=>exact w9 hc
 |panicked c=>exact w9 hc
 |outgrown=>exact hc
theorem oE{o:Oper}{a:Act}{w:World}{K:WK}{next:Act→World→Prop}{Q:Exit→Act→World→Prop}(hd:∀c,o.op≠ .defer c)(h:II P (execOp a.eval o) K w)
  (j:∀v w',Tame w w'→K v w'.heap→next (a.put o.dst v) w'):o.wpIn (FW ro) n P a w next Q:=by
 refine⟨fun _ _=>trivial,?_⟩
 rw[Oper.semAt_eq _ _ _ hd];rcases h with⟨v,w',d,i,g⟩|⟨w',d,i,g⟩|⟨f,args,d,hc⟩|⟨l,fn,tmps,assign,body,d,hc⟩
 ·rw[d];exact j v w' i g
 ·rw[d];exact j undef w' i g
 ·rw[d]
  refine⟨fun h=>by simp[FW]at h,Dy (hc.mono ?_)⟩
  rintro e w' ⟨i,v,rfl,g⟩;exact j v w' i g
 ·rw[d]
  refine⟨fun h=>by simp[FW]at h,trivial,fun c cs _=>?_⟩
  obtain⟨b,w',i,g,k⟩:=hc c cs;exact⟨.returned (.bool b),w',j _ w' i g,w9 k⟩
theorem rl{N:Nat}{o:Oper}{v:Value}{r:cd}{K:cd→Prop}{a:Act}{d:tg}{dv:DV}(h:xw N o v r K)(c:Agree N r a)(hd:DecOk d r)(g:EE dv v):
  ∃r',K r'∧Agree N r' (a.put o.dst v)∧DecOk (p5 d o dv) r':=by
 unfold xw at h;unfold p5;cases ho:o.dst with
 |none=>rw[ho]at h;exact⟨r,h,c,hd⟩
 |some t=>
  rw[ho]at h;simp only at h;cases hb:vY t N with
  |false=>rw[hb]at h;exact h.elim
  |true=>
   rw[hb]at h;have b:t<N:=by simpa using hb
   refine⟨_,h,c.put t v b,fun s=>?_⟩
   by_cases e:t=s
   ·subst e
    have:pM ((t,dv)::d) t=dv:=by simp[pM]
    rw[this];exact .inr ⟨v,gx t v r,g⟩
   ·have i:pM ((t,dv)::d) s=pM d s:=by
     have:ax t s=false:=nt.2 fun f=>e (aL f)
     show(bif ax t s then dv else pM d s)=_
     rw[this];rfl
    rw[i,fS v r e];exact hd s
theorem A8{ek:Option (Kind×Kind)}{o:Op}{r:cd}{K:RK}{h:ad}(a:zR P ek o r K h):∀c,o≠ .defer c:=by
 intro c e;subst e;exact a
theorem uD{o:Oper}{r:cd}{K:WK}{h:ad}(a:D3 P o r K h):∀c,o.op≠ .defer c:=by
 intro c e;unfold D3 at a;rw[e]at a;exact a
theorem SQ{d:tg}{o:Op}(h:ug P o=false):Hd d o=.x:=by
 cases o<;>first|rfl|(simp[ug]at h)
theorem Ma{N:Nat}{ek:Option (Kind×Kind)}{o:Oper}{r:cd}{K:cd→ad→Prop}{a:Act}{w:World}{d:tg}{next:Act→World→Prop}{Q:Exit→Act→World→Prop}
  (f:RS P N ek o r K w.heap)(i:Agree N r a)(hd:DecOk d r)
  (p:∀v w' c,Tame w w'→K c w'.heap→Agree N c (a.put o.dst v)→DecOk (p5 d o (Hd d o.op)) c→next (a.put o.dst v) w'):o.wpIn (FW ro) n P a w next Q:=by
 unfold RS at f;cases hq:ug P o.op with
 |true=>
  rw[hq,cond_true]at f;obtain⟨v,S,k,q,j,s⟩:=Ag i f d hd;refine oE (K:=fun u h'=>u=v∧h'=w.heap) (A8 f) (.inl ⟨v,w,s w q,Tame.refl w,rfl,rfl⟩) ?_
  rintro u w' m ⟨rfl,t⟩;obtain⟨c,b,e,g⟩:=rl k i hd j;exact p u w' c m (by rw[t];exact b) e g
 |false=>
  rw[hq,cond_false]at f;refine oE (uD f) (zU i f) ?_;intro v w' m k;obtain⟨c,b,e,g⟩:=rl k i hd (dv:=Hd d o.op) (by rw[SQ hq];trivial);exact p v w' c m b e g
theorem Fj{t:Array Value}{i:Nat}{b:Bool}(h:t.getD i undef=.bool b):t[i]? =some (.bool b):=by
 rw[cH]at h;cases hc:t[i]? with
 |none=>rw[hc]at h;simp[undef]at h
 |some v=>rw[hc]at h;simp at h;rw[h]
theorem Ky{t:Array Value}{i:Nat}(h:t.getD i undef=undef):t[i]? =none∨t[i]? =some undef:=by
 rw[cH]at h;cases hc:t[i]? with
 |none=>exact .inl rfl
 |some v=>rw[hc]at h;simp at h;rw[h];exact .inr rfl
theorem ly{N:Nat}{ops:Array Oper}{d:tg}{o:Oper}{b:Bool}{r:cd}{a:Act}(h:gS ops.toList d o=some b)(n:Agree N r a)(hd:DecOk d r):
  Region.wanted o (yielded ops a.tmps)=b:=by
 unfold gS at h;unfold Region.wanted;cases hg:o.guard with
 |none=>rw[hg]at h;simp only[aZ.injEq]at h;exact h
 |some g=>
  obtain⟨j,c⟩:=g;rw[hg]at h;simp only[aS]at h;simp only;cases hj:ops[j]? with
  |none=>rw[hj]at h;cases h
  |some oj=>
   rw[hj]at h;simp only at h;cases ht:oj.dst with
   |none=>rw[ht]at h;cases h
   |some t=>
    rw[ht]at h;simp only at h;have m:yielded ops a.tmps j=(match a.tmps[t]? with|some (.bool b)=>some b|_=>none):=by
     unfold yielded;simp[hj,ht];rfl
    rw[m];rcases hd t with hx|⟨v,p,k⟩
    ·rw[hx]at h;cases h
    ·have i:=n.look t v p
     cases hdl:pM d t with
     |x=>rw[hdl]at h;cases h
     |t=>
      rw[hdl]at h k;simp only[aZ.injEq]at h;subst h;have:v=.bool true:=k;subst this;rw[Fj i];cases c<;>rfl
     |f=>
      rw[hdl]at h k;simp only[aZ.injEq]at h;subst h;have:v=.bool false:=k;subst this;rw[Fj i];cases c<;>rfl
     |u=>
      rw[hdl]at h k;simp only[aZ.injEq]at h;subst h;have:v=undef:=k;subst this;rcases Ky i with e|e<;>rw[e]<;>cases c<;>rfl
structure Fr(W:Nat→Prop)(a0:Act)(w0:World)(a:Act)(w:World):Prop where
 tame:Tame w0 w
 defers:a.defers=a0.defers
 same:∀t,¬W t→a.tmps.getD t undef=a0.tmps.getD t undef
theorem Fr.refl(W:Nat→Prop)(a:Act)(w:World):Fr W a w a w:=⟨Tame.refl w,rfl,fun _ _=>rfl⟩
theorem Fr.put{W:Nat→Prop}{f a:Act}{g w w':World}(h:Fr W f g a w){o:Oper}(i:∀d,o.dst=some d→W d)(v:Value)(j:Tame w w'):Fr W f g (a.put o.dst v) w':=by
 refine⟨h.tame.trans j,?_,fun t c=>?_⟩
 ·cases ho:o.dst<;>simp[Act.put,h.defers]
 ·cases ho:o.dst with
  |none=>exact h.same t c
  |some d=>
   have b:d≠t:=fun e=>c (e▸i d ho)
   rw[←h.same t c];simp[Act.put,dJ b]
theorem Fr.trans{W:Nat→Prop}{a d c:Act}{b f e:World}(h:Fr W a b d f)(k:Fr W d f c e):Fr W a b c e:=
 ⟨h.tame.trans k.tame,k.defers.trans h.defers,fun t g=>(k.same t g).trans (h.same t g)⟩
theorem Fr.mono{W W':Nat→Prop}{b a:Act}{c w:World}(h:Fr W b c a w)(f:∀t,W t→W' t):Fr W' b c a w:=
 ⟨h.tame,h.defers,fun t d=>h.same t fun e=>d (f t e)⟩
theorem DecOk.known{d:tg}{r:cd}(h:DecOk d r){t:Nat}{dv:DV}{v:Value}(a:EE dv v):DecOk ((t,dv)::d) ((t,v)::r):=fun s=>by
 by_cases e:t=s
 ·subst e
  have:pM ((t,dv)::d) t=dv:=by simp[pM]
  rw[this];exact .inr ⟨v,gx t v r,a⟩
 ·have b:pM ((t,dv)::d) s=pM d s:=by
   have:ax t s=false:=nt.2 fun c=>e (aL c)
   show(bif ax t s then dv else pM d s)=_
   rw[this];rfl
  rw[b,fS v r e];exact h s
theorem Cn{N:Nat}{ek:Option (Kind×Kind)}{ops:Array Oper}{o:Oper}{i:Nat}{d:tg}{r:cd}{a:Act}{w:World}{b:Bool}{K:tg→cd→ad→Prop}{next:Act→World→Prop}{Q:Exit→Act→World→Prop}
  (hi:ops[i]? =some o) (p:gS ops.toList d o=some b) (j:Agree N r a) (hd:DecOk d r)
  (m:match b with
   |true=>RS P N ek o r (K (p5 d o (Hd d o.op))) w.heap
   |false=>xw N o undef r fun c=>K (p5 d o .u) c w.heap)
  (k:∀v w' d' c,Tame w w'→K d' c w'.heap→Agree N c (a.put o.dst v)→DecOk d' c→next (a.put o.dst v) w'):
  wpOpIn (FW ro) n P ops Q i next a w:=by
 unfold wpOpIn;rw[hi];simp only[ly p j hd];cases b with
 |true=>exact Ma m j hd fun v w' c s q e f=>k v w' _ c s q e f
 |false=>
  obtain⟨c,g,e,f⟩:=rl (dv:=.u) m j hd rfl;exact⟨fun _ _=>trivial,k undef w _ c (Tame.refl w) g e f⟩
theorem L9{N:Nat}{ek:Option (Kind×Kind)}{ops:List Oper}{o:Oper}{os:List Oper}{d:tg}{K:cd→ad→Prop}{r:cd}{h:ad}:CJ P N ek ops (o::os) d K r h=
 (match gS ops d o with
 |some true=>RS P N ek o r (fun a h'=>CJ P N ek ops os (p5 d o (Hd d o.op)) K a h') h
 |some false=>xw N o undef r fun a=>CJ P N ek ops os (p5 d o .u) K a h
 |none=>match C9 ops o with
  |none=>False
  |some t=>match ja r t with
   |some (.bool b)=>CondP b
    (EP P N ek ops o ((t,.t)::d) ((t,.bool true)::r) h fun c a h'=>CJ P N ek ops os c K a h')
    (EP P N ek ops o ((t,.f)::d) ((t,.bool false)::r) h fun c a h'=>CJ P N ek ops os c K a h')
   |_=>False):=rfl
theorem EL{N:Nat}{ek:Option (Kind×Kind)}{ops:Array Oper}{o:Oper}{i:Nat}{d:tg}{r:cd}{a:Act}{w:World}{K:tg→cd→ad→Prop}{next:Act→World→Prop}{Q:Exit→Act→World→Prop}
  (hi:ops[i]? =some o) (f:Agree N r a) (hd:DecOk d r) (c:EP P N ek ops.toList o d r w.heap K)
  (e:∀v w' d' r',Tame w w'→K d' r' w'.heap→Agree N r' (a.put o.dst v)→DecOk d' r'→next (a.put o.dst v) w'):
  wpOpIn (FW ro) n P ops Q i next a w:=by
 unfold EP at c;cases hw:gS ops.toList d o with
 |none=>rw[hw]at c;exact c.elim
 |some b=>rw[hw]at c;exact Cn (ek:=ek) hi hw f hd (by cases b<;>exact c) e
theorem CI{N:Nat}{ek:Option (Kind×Kind)}{ops:Array Oper}{W:Nat→Prop}(u:∀o∈ops.toList,∀d,o.dst=some d→W d){p:Act}{q:World}{K:cd→ad→Prop}{Q:Exit→Act→World→Prop}
  (s:∀r a w,Agree N r a→Fr W p q a w→K r w.heap→Q .normal a w):
  ∀(l:List Oper) (i:Nat),ops.toList.drop i=l→∀(d:tg) (r:cd) (a:Act) (w:World),CJ P N ek ops.toList l d K r w.heap→Agree N r a→DecOk d r→Fr W p q a w→
   wpOpsIn (FW ro) n P ops Q (List.range' i l.length) a w
 | [],i,_,d,r,a,w,hs,ha,hd,hf=>s r a w ha hf hs
 |o::os,i,hdr,d,r,a,w,hs,ha,hd,hf=>by
  have hi:ops[i]? =some o:=by
   rw[←aS];have:(ops.toList.drop i)[0]? =some o:=by rw[hdr];rfl
   simpa using this
  have f:o∈ops.toList:=bD (by rw[aS];exact hi);have g:ops.toList.drop (i+1)=os:=by rw[←List.tail_drop,hdr];rfl
  rw[aV,List.range'_succ,wpOpsIn_cons];rw[L9]at hs;have k:∀v w' e c,Tame w w'→CJ P N ek ops.toList os e K c w'.heap→Agree N c (a.put o.dst v)→DecOk e c→wpOpsIn (FW ro) n P ops Q (List.range' (i+1) os.length) (a.put o.dst v) w':=
   fun v w' e c x y j m=>CI u s os (i+1) g e c _ w' y j m (hf.put (u o f) v x)
  cases hw:gS ops.toList d o with
  |some b=>
   rw[hw]at hs;exact Cn (ek:=ek) (K:=fun e c h'=>CJ P N ek ops.toList os e K c h') hi hw ha hd (by cases b<;>exact hs) k
  |none=>
   rw[hw]at hs;simp only at hs;split at hs
   ·exact hs.elim
   ·rename_i t x
    split at hs
    ·rename_i b hb
     cases b with
     |true=>exact EL hi (ha.known hb) (hd.known (dv:=.t) rfl) (hs.yes rfl) k
     |false=>exact EL hi (ha.known hb) (hd.known (dv:=.f) rfl) (hs.no rfl) k
    ·exact hs.elim
end Go.Lift
namespace Go.Lift
open Go
theorem yd(m i:Nat):tb m i=m.testBit i:=by
 have h:iu (Nat.shiftRight m i) 1=(m>>>i)&&&1:=rfl;unfold tb;rw[h,Nat.testBit_eq_decide_div_mod_eq,Nat.and_one_is_mod,Nat.shiftRight_eq_div_pow];cases hm:decide (m/2^i%2=1)with
 |true=>rw[of_decide_eq_true hm];rfl
 |false=>
  have a:=of_decide_eq_false hm;have:m/2^i%2=0:=by omega
  rw[this];rfl
theorem mg(a b i:Nat):(cB a b).testBit i=(a.testBit i||b.testBit i):=Nat.testBit_or a b i
theorem xz(i j:Nat):(fQ i).testBit j=decide (i=j):=Nat.testBit_two_pow
theorem AC{a b:Nat}(h:ax (iu a b) 0=true)(t:Nat)(d:a.testBit t=true)(c:b.testBit t=true):False:=by
 have e:=aL h;have:(iu a b).testBit t=(a.testBit t&&b.testBit t):=pz a b t;rw[e,d,c]at this;simp at this
theorem QH{a b:Nat}(h:ax (iu a b) a=true)(t:Nat)(c:a.testBit t=true):b.testBit t=true:=by
 have d:=aL h;have:(iu a b).testBit t=(a.testBit t&&b.testBit t):=pz a b t;rw[d,c]at this;simpa using this.symm
theorem wJ(i:Nat):∀l:List Edge,(kR l).testBit i=l.any fun e=>ax e.on i&&Region.binds .any e
 | []=>kY i
 |e::l=>by
  have a:=wJ i l;have hc:kR (e::l)=bif Region.binds .any e then cB (fQ e.on) (kR l)else kR l:=rfl;rw[hc,List.any_cons,←a];cases hb:Region.binds .any e with
  |true=>
   rw[cond_true,mg,xz,Bool.and_true];congr 1
   cases hd:ax e.on i with
   |true=>simpa using aL hd
   |false=>rw[decide_eq_false_iff_not];intro b;rw[b]at hd;simp at hd
  |false=>simp
theorem yO(o:Oper)(i:Nat):(kR o.after.toList).testBit i=gT o i:=wJ i o.after.toList
theorem ya(t:Nat):∀l:List Operand,(j7 l).testBit t=true↔Operand.tmp t∈l
 | []=>by simp[show j7 []=0 from rfl]
 |o::l=>by
  have a:=ya t l;cases o with
  |tmp u=>
   have hc:j7 (.tmp u::l)=cB (fQ u) (j7 l):=rfl;rw[hc,mg,xz,hE,a,au];simp[eq_comm]
  |const v=>
   have hc:j7 (.const v::l)=j7 l:=rfl;rw[hc,a,au];simp
  |global v=>
   have hc:j7 (.global v::l)=j7 l:=rfl;rw[hc,a,au];simp
  |func v=>
   have hc:j7 (.func v::l)=j7 l:=rfl;rw[hc,a,au];simp
theorem vn(o:Oper)(t:Nat):(lU o).testBit t=true↔o.dst=some t:=by
 unfold lU;cases o.dst with
 |none=>simp
 |some d=>simp[xz]
theorem Ee(ops:Array Oper)(o:Oper)(t:Nat):(mo ops.toList o).testBit t=true↔t∈o.looksAt ops:=by
 unfold mo Oper.looksAt;rw[mg,hE,ya,List.mem_append,List.mem_filterMap];refine or_congr ⟨fun h=>⟨_,h,rfl⟩,?_⟩ ?_
 ·rintro⟨x,hx,a⟩
  cases x<;>simp at a
  subst a;exact hx
 ·cases hg:o.guard with
  |none=>simp
  |some g=>
   obtain⟨j,b⟩:=g;simp only[aS];cases hj:ops[j]? with
   |none=>simp
   |some oj=>simp[vn]
variable {P:Program} {ro:Option Nat} {n:Nat} {ops:Array Oper} {Q:Exit→Act→World→Prop}
structure MsOk(ops:Array Oper)(ms:List DM):Prop where
 am:∀(i:Nat) (o:Oper) (m:DM),ops[i]? =some o→ms[i]? =some m→∀j,m.am.testBit j=gT o j
 lk:∀(i:Nat) (o:Oper) (m:DM),ops[i]? =some o→ms[i]? =some m→∀t,m.lk.testBit t=true↔t∈o.looksAt ops
 ds:∀(i:Nat) (o:Oper) (m:DM),ops[i]? =some o→ms[i]? =some m→∀t,m.ds.testBit t=true↔o.dst=some t
 len:ms.length=ops.size
 free:∀(i j:Nat) (m k:DM),ms[i]? =some m→ms[j]? =some k→m.fr.testBit j=true→j=i∨k.am.testBit i=true∨AE m k=true
 nosel:∀(i:Nat) (o:Oper),ops[i]? =some o→(∀cs b,o.op≠ .select cs b)∧(∀c,o.op≠ .defer c)
theorem yq(ops:List Oper):∀(l:List Oper) (ms:List DM),uL ops l ms=true→ms.length=l.length∧∀(i:Nat) (o:Oper) (m:DM),l[i]? =some o→ms[i]? =some m→
  m.am=kR o.after.toList∧m.lk=mo ops o∧m.ds=lU o
 | [],[],_=>⟨rfl,fun i o m h=>by simp at h⟩
 | [],_::_,h=>by cases h
 |o::l,[],h=>by cases h
 |o::l,m::ms,h=>by
  have hc:uL ops (o::l) (m::ms)=(ax (kR o.after.toList) m.am&&ax (mo ops o) m.lk&&ax (lU o) m.ds&&uL ops l ms):=rfl;rw[hc]at h;simp only[aQ]at h;obtain⟨⟨⟨g,k⟩,b⟩,j⟩:=h;obtain⟨d,f⟩:=yq ops l ms j;refine⟨by simp[d],fun i c e a hm=>?_⟩
  cases i with
  |zero=>
   simp only[dI,aZ.injEq]at a hm;subst a;subst hm;exact⟨(aL g).symm,(aL k).symm,(aL b).symm⟩
  |succ i=>exact f i c e (by simpa using a) (by simpa using hm)
theorem Fm(i:Nat)(m:DM):∀(l:List DM) (j0:Nat),Fp i m l j0=true→∀(j:Nat) (k:DM),l[j]? =some k→m.fr.testBit (j0+j)=true→j0+j=i∨k.am.testBit i=true∨AE m k=true
 | [],j0,_,j,k,hk,_=>by simp at hk
 |x::l,j0,h,j,k,hk,hb=>by
  have hc:Fp i m (x::l) j0=((!(tb m.fr j0)||ax j0 i||tb x.am i||AE m x)&&Fp i m l (eM j0)):=rfl
  rw[hc]at h;simp only[aQ,hE,ns,yd]at h;cases j with
  |zero=>
   simp only[dI,aZ.injEq]at hk;subst hk;simp only[Nat.add_zero]at hb⊢;rcases h.1 with((a|a)|a)|a
   ·rw[a]at hb;cases hb
   ·exact .inl (aL a)
   ·exact .inr (.inl a)
   ·exact .inr (.inr a)
  |succ j=>
   have:=Fm i m l (j0+1) h.2 j k (by simpa using hk) (by rw[show j0+1+j=j0+(j+1) by omega];exact hb)
   rw[show j0+1+j=j0+(j+1) by omega]at this
   exact this
theorem Be(a:List DM):∀(l:List DM) (i0:Nat),yB a l i0=true→∀(i:Nat) (m:DM),l[i]? =some m→Fp (i0+i) m a 0=true
 | [],i0,_,i,m,hm=>by simp at hm
 |x::l,i0,h,i,m,hm=>by
  have hc:yB a (x::l) i0=(Fp i0 x a 0&&yB a l (eM i0)):=rfl;rw[hc,aQ]at h;cases i with
  |zero=>simp only[dI,aZ.injEq]at hm;subst hm;exact h.1
  |succ i=>
   have:=Be a l (i0+1) h.2 i m (by simpa using hm);rw[show i0+1+i=i0+(i+1) by omega]at this
   exact this
theorem E4:∀(l:List Oper),H1 l=true→∀o∈l,(∀cs b,o.op≠ .select cs b)∧(∀c,o.op≠ .defer c)
 | [],_,o,a=>by cases a
 |x::l,h,o,a=>by
  simp only[H1,aQ]at h;rcases au.1 a with rfl|a
  ·refine⟨fun cs b e=>?_,fun c e=>?_⟩
   ·rw[e]at h;cases h.1
   ·rw[e]at h;cases h.1
  ·exact E4 l h.2 o a
theorem Ka{ms:List DM}(h:Ce ops.toList ms=true):MsOk ops ms:=by
 have hc:Ce ops.toList ms=(uL ops.toList ops.toList ms&&yB ms ms 0&&H1 ops.toList):=rfl;rw[hc]at h;simp only[aQ]at h;obtain⟨⟨f,g⟩,d⟩:=h;obtain⟨e,b⟩:=yq ops.toList ops.toList ms f;refine⟨fun i o m a hm j=>?_,fun i o m a hm t=>?_,fun i o m a hm t=>?_,by simpa using e,fun i j m k hm c n=>?_,fun i o a=>?_⟩
 ·rw[(b i o m (by simpa using a) hm).1,yO]
 ·rw[(b i o m (by simpa using a) hm).2.1,Ee]
 ·rw[(b i o m (by simpa using a) hm).2.2,vn]
 ·have:=Be ms ms 0 g i m hm
  rw[aD]at this;have:=Fm i m ms 0 this j k c (by rwa [aD]);rwa [aD]at this
 ·exact E4 _ d o (bD (by rw[aS];exact a))
theorem Pv{ms:List DM}(hm:MsOk ops ms){i j:Nat}{c b:Oper}{f g:DM}(hi:ops[i]? =some c) (m:ops[j]? =some b) (a:ms[i]? =some f) (e:ms[j]? =some g) (h:AE f g=true):
  (∀d,c.dst=some d→d∉b.looksAt ops)∧(∀d,c.dst=some d→b.dst≠some d)∧(∀d,b.dst=some d→d∉c.looksAt ops):=by
 unfold AE at h;rw[aQ]at h;refine⟨fun d hd k=>?_,fun d hd n=>?_,fun d hd k=>?_⟩
 ·exact AC h.1 d ((hm.ds i c f hi a d).2 hd) (by rw[mg,(hm.lk j b g m e d).2 k,Bool.true_or])
 ·exact AC h.1 d ((hm.ds i c f hi a d).2 hd) (by rw[mg,(hm.ds j b g m e d).2 n,Bool.or_true])
 ·exact AC h.2 d ((hm.ds j b g m e d).2 hd) ((hm.lk i c f hi a d).2 k)
structure LsRel(ops:Array Oper)(ls:Nat)(listed:Array Bool):Prop where
 size:listed.size=ops.size
 bit:∀j,listed.getD j false=ls.testBit j
theorem LsRel.start:LsRel ops 0 (hG ops.size false):=⟨by simp,fun j=>by
 rw[kY,cH]
 by_cases h:j<ops.size<;>simp[h]⟩
theorem LsRel.put{ls:Nat}{listed:Array Bool}(h:LsRel ops ls listed){i:Nat}(hi:i<ops.size):LsRel ops (cB ls (fQ i)) (listed.setIfInBounds i true):=by
 refine⟨by simp[h.size],fun j=>?_⟩
 rw[mg,xz,←h.bit];by_cases e:i=j
 ·subst e;simp[h.size,hi]
 ·simp[e,dJ e]
theorem LsRel.unlisted{ls:Nat}{listed:Array Bool}(h:LsRel ops ls listed){i:Nat}(hi:i<ops.size):listed.getD i true=ls.testBit i:=by
 rw[←h.bit];have:i<listed.size:=by rw[h.size];exact hi
 simp[this]
theorem EW{ms:List DM}(hm:MsOk ops ms){ls:Nat}{listed:Array Bool}(h:LsRel ops ls listed){j:Nat}:j∈Region.ready .any ops listed↔∃m,ms[j]? =some m∧ls.testBit j=false∧EX m ls=true:=by
 rw[mem_ready];constructor
 ·rintro⟨k,o,n,b⟩
  have a:j<ops.size:=(bK.1 n).1;have c:j<ms.length:=by rw[hm.len];exact a
  refine⟨ms[j],aJ c,by rw[←h.unlisted a];exact k,?_⟩
  unfold EX;have:iu (ms[j]).am ls=(ms[j]).am:=by
   apply Nat.eq_of_testBit_eq;intro t;have f:(iu (ms[j]).am ls).testBit t=((ms[j]).am.testBit t&&ls.testBit t):=pz _ _ t;rw[f];cases ht:(ms[j]).am.testBit t with
   |false=>rfl
   |true=>
    rw[hm.am j o _ n (aJ c)]at ht;unfold gT at ht;obtain⟨e,i,d⟩:=bI.1 ht;simp only[aQ]at d;have:=b e (by simpa using i) d.2;rw[aL d.1,h.bit]at this;rw[this];rfl
  rw[this];exact qc _
 ·rintro⟨m,g,k,p⟩
  have a:j<ops.size:=by rw[←hm.len];exact(bi.1 g).1
  refine⟨by rw[h.unlisted a];exact k,ops[j],fA a,fun e i d=>?_⟩
  rw[h.bit];refine QH p e.on ?_;rw[hm.am j _ m (fA a) g];unfold gT;exact bI.2 ⟨e,by simpa using i,by simp[d]⟩
theorem qi(ls:Nat):∀(l:List DM) (j0 j:Nat),j∈ka ls l j0↔∃k m,l[k]? =some m∧j=j0+k∧ls.testBit j=false∧EX m ls=true
 | [],j0,j=>by simp[show ka ls [] j0= []from rfl]
 |m::l,j0,j=>by
  have hc:ka ls (m::l) j0=bif !(tb ls j0)&&EX m ls then j0::ka ls l (eM j0)else ka ls l (eM j0):=rfl;have e:=qi ls l (j0+1) j;rw[hc,yd];have step:(∃k c,(m::l)[k]? =some c∧j=j0+k∧ls.testBit j=false∧EX c ls=true)↔(j=j0∧ls.testBit j0=false∧EX m ls=true)∨j∈ka ls l (j0+1):=by
   rw[e];constructor
   ·rintro⟨k,c,d,rfl,a,b⟩
    cases k with
    |zero=>simp only[dI,aZ.injEq]at d;subst d;exact .inl ⟨rfl,a,b⟩
    |succ k=>exact .inr ⟨k,c,by simpa using d,by omega,a,b⟩
   ·rintro(⟨rfl,a,b⟩|⟨k,c,d,rfl,a,b⟩)
    ·exact⟨0,m,rfl,rfl,a,b⟩
    ·exact⟨k+1,c,by simpa using d,by omega,a,b⟩
  rw[step];cases hb:(!(ls.testBit j0)&&EX m ls)with
  |true=>
   simp only[aQ,ns]at hb;rw[cond_true,au];simp[hb.1,hb.2]
  |false=>
   rw[cond_false];constructor
   ·exact .inr
   ·rintro(⟨_,a,b⟩|h)
    ·rw[a,b]at hb;cases hb
    ·exact h
theorem kG{ms:List DM}(hm:MsOk ops ms){ls:Nat}{listed:Array Bool}(h:LsRel ops ls listed){j:Nat}:j∈Region.ready .any ops listed↔j∈ka ls ms 0:=by
 rw[EW hm h,qi];constructor
 ·rintro⟨m,a,c,b⟩;exact⟨j,m,a,by omega,c,b⟩
 ·rintro⟨k,m,a,rfl,c,b⟩;exact⟨m,by simpa using a,c,b⟩
theorem vQ:∀{a b:List Nat},tC a b=true→a=b
 | [],[],_=>rfl
 | [],_::_,h=>by cases h
 |_::_,[],h=>by cases h
 |a::as,b::bs,h=>by
  simp only[tC,aQ]at h;rw[aL h.1,vQ h.2]
end Go.Lift
namespace Go.Lift
open Go
variable {P:Program} {ro:Option Nat} {n:Nat} {ops:Array Oper} {Q:Exit→Act→World→Prop}
theorem xZ{m:Nat}{p:Nat→Bool}(hm:∀j,m.testBit j=true→p j=true):∀(l:List DM) (j0:Nat),(∀j x,l[j]? =some x→p (j0+j)=true→∀k,x.am.testBit k=true→p k=true)→∀k,(Nk m l j0).testBit k=true→p k=true
 | [],_,_,k,h=>hm k h
 |x::l,j0,hl,k,h=>by
  have hc:Nk m (x::l) j0=bif tb m j0 then cB x.am (Nk m l (eM j0))else Nk m l (eM j0):=rfl;have a:=xZ hm l (j0+1) (fun j y b c=>hl (j+1) y (by simpa using b) (by rw[show j0+(j+1)=j0+1+j by omega];exact c)) k
  rw[hc,yd]at h;cases hb:m.testBit j0 with
  |true=>
   rw[hb,cond_true,mg,hE]at h;rcases h with h|h
   ·exact hl 0 x rfl (hm _ hb) k h
   ·exact a h
  |false=>
   rw[hb,cond_false]at h;exact a h
theorem xY{m k:Nat}(h:m.testBit k=true):∀(l:List DM) (j0:Nat),(Nk m l j0).testBit k=true
 | [],_=>h
 |x::l,j0=>by
  have hc:Nk m (x::l) j0=bif tb m j0 then cB x.am (Nk m l (eM j0))else Nk m l (eM j0):=rfl;have a:=xY h l (j0+1);rw[hc];cases tb m j0 with
  |true=>rw[cond_true,mg,hE];exact .inr a
  |false=>exact a
def Shut(ms:List DM)(listed:Array Bool):Prop:=∀j x,ms[j]? =some x→listed.getD j false=true→∀k,x.am.testBit k=true→listed.getD k false=true
theorem M0{ms:List DM}{listed:Array Bool}(c:Shut ms listed){m:Nat}(hm:∀j,m.testBit j=true→listed.getD j false=true){k:Nat}(h:(yJ ms m).testBit k=true):listed.getD k false=true:=by
 have a:∀j x,ms[j]? =some x→(fun k=>listed.getD k false) (0+j)=true→∀k,x.am.testBit k=true→(fun k=>listed.getD k false) k=true:=fun j x hx b=>c j x hx (by rw[aD]at b;exact b)
 unfold yJ at h;exact xZ (p:=fun k=>listed.getD k false) (xZ (xZ (xZ hm ms 0 a) ms 0 a) ms 0 a) ms 0 a k h
theorem Fz{ms:List DM}{m k:Nat}(h:m.testBit k=true):(yJ ms m).testBit k=true:=by
 unfold yJ;exact xY (xY (xY (xY h ms 0) ms 0) ms 0) ms 0
noncomputable abbrev Jg(ms:List DM)(i:Nat)(L:pw):pw:=yj (yJ ms (GS ms i)) L
theorem iP{m:Nat}{x:Nat×(ad→Prop)}:∀{L:pw},x∈yj m L↔x∈L∧tb m x.1=false
 | []=>by simp[yj]
 |(k,S)::L=>by
  have b:=iP (m:=m) (x:=x) (L:=L);simp only[yj];cases hk:tb m k with
  |true=>
   rw[cond_true,b,au];constructor
   ·exact fun h=>⟨.inr h.1,h.2⟩
   ·rintro⟨h|h,a⟩
    ·subst h;rw[hk]at a;cases a
    ·exact⟨h,a⟩
  |false=>
   rw[cond_false,au,b,au];constructor
   ·rintro(h|h)
    ·subst h;exact⟨.inl rfl,hk⟩
    ·exact⟨.inr h.1,h.2⟩
   ·rintro⟨h|h,a⟩
    ·exact .inl h
    ·exact .inr ⟨h,a⟩
def Nx(ms:List DM)(ro:Option Nat)(n:Nat)(P:Program)(ops:Array Oper)(Q:Exit→Act→World→Prop):Nat→pw→Array Bool→Act→World→Prop
 |0,_,listed,a,w=>Region.ready .any ops listed= []∧Q .normal a w
 |f+1,L,listed,a,w=>(Region.ready .any ops listed= []→Q .normal a w)∧
  ∀i∈Region.ready .any ops listed,∀o,ops[i]? =some o→
   wpOpIn (FW ro) n P ops Q i (fun a' w'=>(∀x∈Jg ms i L,x.2 w'.heap)∧Nx ms ro n P ops Q f (Jg ms i L) (listed.setIfInBounds i true) a' w') a w
theorem uJ{o:Oper}{x:Nat×(ad→Prop)}:∀{L:pw},x∈mJ o L↔x∈L∧gT o x.1=false
 | []=>by simp[mJ]
 |(k,S)::L=>by
  have b:=uJ (o:=o) (x:=x) (L:=L);simp only[mJ];cases hk:gT o k with
  |true=>
   rw[cond_true,b,au];constructor
   ·exact fun h=>⟨.inr h.1,h.2⟩
   ·rintro⟨h|h,a⟩
    ·subst h;rw[hk]at a;cases a
    ·exact⟨h,a⟩
  |false=>
   rw[cond_false,au,b,au];constructor
   ·rintro(h|h)
    ·subst h;exact⟨.inl rfl,hk⟩
    ·exact⟨.inr h.1,h.2⟩
   ·rintro⟨h|h,a⟩
    ·exact .inl h
    ·exact .inr ⟨h,a⟩
theorem Me{listed:Array Bool}{i:Nat}(h:i∈Region.ready .any ops listed):∃o,ops[i]? =some o:=by
 obtain⟨_,o,a,_⟩:=mem_ready.1 h;exact⟨o,a⟩
theorem Lg{ms:List DM}:∀(f:Nat) (L:pw) (listed:Array Bool) (a:Act) (w:World),Nx ms ro n P ops Q f L listed a w→wpAnyIn (FW ro) n P .any ops Q f listed a w
 |0,_,_,_,_,h=>h
 |f+1,L,listed,a,w,h=>⟨h.1,fun i hi=>by
  obtain⟨o,b⟩:=Me hi
  exact wpOpIn_mono (fun a' w' h'=>Lg f _ _ a' w' h'.2) (h.2 i hi o b)⟩
theorem sF{ms:List DM}:∀(f:Nat) (L L':pw) (listed:Array Bool) (a:Act) (w:World),(∀x∈L',x∈L∨∀h,x.2 h)→Nx ms ro n P ops Q f L listed a w→Nx ms ro n P ops Q f L' listed a w
 |0,_,_,_,_,_,_,h=>h
 |f+1,L,L',listed,a,w,hs,h=>⟨h.1,fun i hi o c=>by
  have b:∀x∈Jg ms i L',x∈Jg ms i L∨∀h,x.2 h:=fun x hx=>(hs x (iP.1 hx).1).imp (fun h=>iP.2 ⟨h,(iP.1 hx).2⟩) id
  exact wpOpIn_mono (fun a' w' h'=>⟨fun x hx=>(b x hx).elim (h'.1 x) fun h=>h _,sF f _ _ _ a' w' b h'.2⟩) (h.2 i hi o c)⟩
def YG(P:Program)(ops:Array Oper)(S:ad→Prop)(o:Oper)(v:Value)(a:Act):Prop:=
 (Region.wanted o (yielded ops a.tmps)=true∧∀w:World,S w.heap→(execOp a.eval o).run P w=.ok (.value v) w)∨
 (Region.wanted o (yielded ops a.tmps)=false∧v=undef)
theorem YG.wpOp{S:ad→Prop}{i:Nat}{o:Oper}{v:Value}{a:Act}(hi:ops[i]? =some o) (hd:∀c,o.op≠ .defer c) (d:YG P ops S o v a) {K:Act→World→Prop} {w:World} (f:S w.heap)
  (h:K (a.put o.dst v) w):wpOpIn (FW ro) n P ops Q i K a w:=by
 unfold wpOpIn;simp only[hi];rcases d with⟨b,e⟩|⟨b,rfl⟩
 ·simp only[b,if_true]
  refine⟨fun _ _=>trivial,?_⟩
  rw[Oper.semAt_eq _ _ _ hd,e w f];exact h
 ·simp only[b,Bool.false_eq_true,if_false];exact⟨fun _ _=>trivial,h⟩
theorem YG.of_same{S:ad→Prop}{o:Oper}{v:Value}{a a':Act}(b:YG P ops S o v a)(c:execOp a'.eval o=execOp a.eval o)
  (d:Region.wanted o (yielded ops a'.tmps)=Region.wanted o (yielded ops a.tmps)):YG P ops S o v a':=by
 unfold YG at*;rw[c,d];exact b
theorem Ji{S:ad→Prop}{j:Nat}{g i:Oper}{v:Value}(E:ops[j]? =some i)
  (A:(∀d,g.dst=some d→d∉i.looksAt ops)∧(∀d,g.dst=some d→i.dst≠some d)∧(∀d,i.dst=some d→d∉g.looksAt ops))
  (s:∀cs b,g.op≠ .select cs b) (z:∀cs b,i.op≠ .select cs b) (q:∀c,i.op≠ .defer c)
  (C:∀e a w,(∀c,e=.panic c→False)∨¬Q e a w) {K:Act→World→Prop} {a:Act} {w:World}
  (m:YG P ops S g v a) (h:wpOpIn (FW ro) n P ops Q j K (a.put g.dst v) w):
  wpOpIn (FW ro) n P ops Q j (fun a' w'=>YG P ops S g v a'∧K (a'.put g.dst v) w') a w:=by
 obtain⟨B,p,y⟩:=A;have o:∀c a w,¬Q (.panic c) a w:=fun c a w D=>(C (.panic c) a w).elim (fun h=>h c rfl) fun h=>h D
 have keep:∀(a:Act),YG P ops S g v a→∀u,YG P ops S g v (a.put i.dst u):=fun a m u=>
  m.of_same (execOp_put g s a i.dst u y) (wanted_put g a i.dst u y)
 unfold wpOpIn at*;simp only[E]at*;rw[wanted_put i a g.dst v B]at h;split
 ·rename_i hw
  simp only[hw,if_true]at h;refine⟨fun _ _=>trivial,?_⟩
  have h:=h.2;rw[Oper.semAt_eq _ _ _ q,execOp_put i z a g.dst v B]at h;rw[Oper.semAt_eq _ _ _ q];generalize (execOp a.eval i).run P w=r at*;cases r with
  |ok x w'=>
   cases x<;>simp only[Oper.uponIn]at h⊢
   case value u=>exact⟨keep a m u,by rw[←Act.put_comm a v u p];exact h⟩
   case skip=>exact⟨keep a m _,by rw[←Act.put_comm a v undef p];exact h⟩
   case defer d=>
    refine⟨(m.of_same (a':={a with defers:=d::a.defers}) rfl rfl).of_same (execOp_put g s _ i.dst undef y) (wanted_put g _ i.dst undef y),?_⟩;rw[←Act.put_comm _ v undef p,←Act.put_defers];exact h
   case enter f args=>
    refine⟨h.1,CallsIn.mono h.2 fun e t k=>?_⟩
    cases e with
    |returned u=>exact⟨keep a m u,by rw[←Act.put_comm a v u p];exact k⟩
    |panicked c=>exact(o _ _ _ k).elim
    |outgrown=>exact k
   case row row args=>exact⟨h.1,RowsIn.mono h.2 fun u t k=>⟨keep a m u,by rw[←Act.put_comm a v u p];exact k⟩⟩
   case round l f tmps assign body=>
    refine⟨h.1,RoundIn.mono h.2 fun e t k=>?_⟩
    cases e with
    |returned u=>exact⟨keep a m u,by rw[←Act.put_comm a v u p];exact k⟩
    |panicked c=>exact(o _ _ _ k).elim
    |outgrown=>exact k
  |halt x w'=>
   cases x<;>simp only[Oper.uponIn]at h⊢
   case panic u=>exact(o _ _ _ h).elim
 ·rename_i hw
  simp only[hw]at h;exact⟨fun _ _=>trivial,keep a m _,by rw[←Act.put_comm a v undef p];exact h.2⟩
theorem GR{ms:List DM}(hm:MsOk ops ms){i:Nat}{o:Oper}(a:ops[i]? =some o) (k:Nat):(GS ms i).testBit k=gT o k:=by
 have hi:i<ms.length:=by rw[hm.len];exact(bK.1 a).1
 unfold GS;rw[aJ hi];exact hm.am i o _ a (aJ hi) k
theorem HF{ms:List DM}(hm:MsOk ops ms){listed:Array Bool}{j:Nat}(f:j∈Region.ready .any ops listed)(k:Nat)(b:(GS ms j).testBit k=true):listed.getD k false=true:=by
 obtain⟨_,o,g,a⟩:=mem_ready.1 f;rw[GR hm g]at b;unfold gT at b;obtain⟨e,d,c⟩:=bI.1 b;simp only[aQ]at c;have:=a e (by simpa using d) c.2;rw[aL c.1]at this;exact this
theorem Ig{listed:Array Bool}{j k:Nat}(h:listed.getD k false=true):(listed.setIfInBounds j true).getD k false=true:=by
 by_cases e:j=k
 ·subst e
  rw[cH]at h⊢;rcases bQ j listed.size with h'|h'
  ·simp[h']
  ·simp[ju h']at h
 ·rw[cH,dJ e,←cH]
  exact h
theorem Shut.put{ms:List DM}(hm:MsOk ops ms){listed:Array Bool}(c:Shut ms listed){j:Nat}(d:j∈Region.ready .any ops listed):Shut ms (listed.setIfInBounds j true):=by
 intro i x hx a k b;by_cases e:j=i
 ·subst e
  refine Ig (HF hm d k ?_);unfold GS;rw[hx];exact b
 ·rw[cH,dJ e,←cH]at a
  exact Ig (c i x hx a k b)
theorem Co{ms:List DM}(hm:MsOk ops ms){S:ad→Prop}{i:Nat}{y:Oper}{v:Value}(hi:ops[i]? =some y) (m:∀(j:Nat) (o:Oper),ops[j]? =some o→(∀cs b,o.op≠ .select cs b)∧(∀c,o.op≠ .defer c))
  (hQ:∀e a w,(∀c,e=.panic c→False)∨¬Q e a w):
  ∀(g:Nat) (L:pw) (listed:Array Bool) (a:Act) (w:World),
   (∀j t,ops[j]? =some t→j≠i→listed.getD j true=false→gT t i=false→
    (∀d,y.dst=some d→d∉t.looksAt ops)∧(∀d,y.dst=some d→t.dst≠some d)∧(∀d,t.dst=some d→d∉y.looksAt ops))→
   Shut ms listed→i∈Region.ready .any ops listed→YG P ops S y v a→S w.heap→(∀x∈L,x.2 w.heap)→
   Nx ms ro n P ops Q g ((i,S)::L) (listed.setIfInBounds i true) (a.put y.dst v) w→Nx ms ro n P ops Q (g+1) L listed a w:=by
 intro g;induction g with
 |zero=>
  intro L listed a w _ _ B U V X H;refine⟨fun h=>(by rw[h]at B;cases B),fun j F t f=>?_⟩
  by_cases p:j=i
  ·subst p
   rw[hi]at f;cases f;exact U.wpOp hi (m _ _ hi).2 V ⟨fun x hx=>X x (iP.1 hx).1,H⟩
  ·have:=ready_mono F p
   rw[H.1]at this;cases this
 |succ g ih=>
  intro L listed a w s J B U V X H;refine⟨fun h=>(by rw[h]at B;cases B),fun j F t f=>?_⟩
  by_cases p:j=i
  ·subst p
   rw[hi]at f;cases f;exact U.wpOp hi (m _ _ hi).2 V ⟨fun x hx=>X x (iP.1 hx).1,sF _ _ _ _ _ _ (fun x hx=>.inl (bj _ (iP.1 hx).1)) H⟩
  ·have q:=H.2 j (ready_mono F p) t f
   obtain⟨C,oj',A,K⟩:=mem_ready.1 F;rw[f]at A;cases A;have O:gT t i=false:=by
    cases u:gT t i with
    |false=>rfl
    |true=>
     unfold gT at u;obtain⟨e,Z,u⟩:=bI.1 u;simp only[aQ]at u;have q:=K e (by simpa using Z) u.2;rw[aL u.1]at q;have T:=(mem_ready.1 B).1;rcases bQ i listed.size with h'|h'
     ·simp[h']at T q;rw[T]at q;cases q
     ·simp[ju h']at q
   have E:tb (yJ ms (GS ms j)) i=false:=by
    cases u:tb (yJ ms (GS ms j)) i with
    |false=>rfl
    |true=>
     rw[yd]at u;have q:=M0 J (HF hm F) u;have T:=(mem_ready.1 B).1;rcases bQ i listed.size with h'|h'
     ·simp[h']at T q;rw[T]at q;cases q
     ·simp[ju h']at q
   have R:Jg ms j ((i,S)::L)=(i,S)::Jg ms j L:=by simp only[Jg,yj,E,cond_false]
   rw[R]at q;have h2:=Ji f (s j t f p C O) (m _ _ hi).1 (m _ _ f).1 (m _ _ f).2 hQ U q;have z:∀k D,ops[k]? =some D→k≠i→(listed.setIfInBounds j true).getD k true=false→gT D i=false→
     (∀d,y.dst=some d→d∉D.looksAt ops)∧(∀d,y.dst=some d→D.dst≠some d)∧(∀d,D.dst=some d→d∉y.looksAt ops):=fun k D hk Y I W=>by
    refine s k D hk Y ?_ W;by_cases N:j=k
    ·subst N;exact C
    ·rw[getD_set_ne true N]at I;exact I
   refine wpOpIn_mono (fun a' w' G=>⟨fun x hx=>G.2.1 x (bj _ hx),ih (Jg ms j L) (listed.setIfInBounds j true) a' w' z (J.put hm F) (ready_mono B (Ne.symm p)) G.1 (G.2.1 _ (aW ..)) (fun x hx=>G.2.1 x (bj _ hx)) ?_⟩) h2
   rw[Array.setIfInBounds_comm _ _ p];exact G.2.2
theorem pX{h:ad}{R:Prop}:∀{L:pw},qn L h R↔(∀x∈L,x.2 h)∧R
 | []=>by simp[qn]
 |(k,S)::L=>by
  simp only[qn,pX (L:=L),au,forall_eq_or_imp,and_assoc]
theorem Nw{ms:List DM}{f:Nat}{L:pw}{listed:Array Bool}{a:Act}{w:World}(b:Region.ready .any ops listed= [])(h:Q .normal a w):Nx ms ro n P ops Q f L listed a w:=by
 cases f with
 |zero=>exact⟨b,h⟩
 |succ f=>exact⟨fun _=>h,by rw[b];simp⟩
def left(ops:Array Oper)(ls:Nat):Nat:=((dA ops.size).filter fun j=> !ls.testBit j).length
theorem uO{ls i:Nat}(hi:i<ops.size)(g:ls.testBit i=false):left ops (cB ls (fQ i))+1=left ops ls:=by
 have key:∀l:List Nat,l.Nodup→i∈l→(l.filter fun j=> !(cB ls (fQ i)).testBit j).length+1=(l.filter fun j=> !ls.testBit j).length:=by
  intro l;induction l with
  |nil=>intro _ h;cases h
  |cons x l ih=>
   intro c hm;rw[List.nodup_cons]at c;by_cases hx:x=i
   ·subst hx
    have a:(l.filter fun j=> !(cB ls (fQ x)).testBit j)=l.filter fun j=> !ls.testBit j:=by
     apply List.filter_congr;intro y f;have:x≠y:=fun e=>c.1 (e▸f)
     rw[mg,xz,decide_eq_false this,Bool.or_false]
    have d:(cB ls (fQ x)).testBit x=true:=by rw[mg,xz];simp
    rw[cS,cS,d,g,a];rfl
   ·have b:i∈l:=by rcases au.1 hm with h|h;exact absurd h.symm hx;exact h
    have d:(cB ls (fQ i)).testBit x=ls.testBit x:=by rw[mg,xz,decide_eq_false (Ne.symm hx),Bool.or_false]
    have:=ih c.2 b;rw[cS,cS,d];cases ls.testBit x with
    |true=>exact this
    |false=>exact congrArg (· +1) this
 exact key _ List.nodup_range (List.mem_range.2 hi)
theorem MK{N:Nat}{a:List Oper}{ms:List DM}{ls:Nat}{L:pw}{d:tg}{K:cd→ad→Prop}{r:cd}{b:ad}:∀{l:DA},lB P N a ms l true ls L d K r b→∃i,i∈Av l
 | .done,h=>h.elim
 | .take i rest,h=>by
  exfalso;have hc:lB P N a ms (.take i rest) true ls L d K r b=(match a[i]?,ms[i]? with|some _,some _=>False|_,_=>False):=rfl
  rw[hc]at h;split at h<;>exact h
 | .all _,h=>h.elim
 | .pick i _ _,_=>⟨i,aW ..⟩
 | .last i _,_=>⟨i,aW ..⟩
 | .lastT i _,_=>⟨i,aW ..⟩
 | .split ..,h=>h.elim
def K6(ro:Option Nat)(n:Nat)(P:Program)(ops:Array Oper)(Q:Exit→Act→World→Prop)(N:Nat)(ms:List DM)(W:Nat→Prop)(c:Act)(e:World)(K:cd→ad→Prop)(b:DA):Prop:=
 ∀(m:Bool) (ls:Nat) (L:pw) (d:tg) (r:cd) (a:Act) (w:World) (listed:Array Bool) (fuel:Nat),
  lB P N ops.toList ms b m ls L d K r w.heap→Agree N r a→DecOk d r→Fr W c e a w→LsRel ops ls listed→Shut ms listed→(∀x∈L,x.2 w.heap)→
  (m=false→left ops ls≤fuel→Nx ms ro n P ops Q fuel L listed a w)∧
  (m=true→left ops ls≤fuel+1→∀i∈Av b,i∈ka ls ms 0→∀o,ops[i]? =some o→
   wpOpIn (FW ro) n P ops Q i (fun a' w'=>(∀x∈Jg ms i L,x.2 w'.heap)∧Nx ms ro n P ops Q fuel (Jg ms i L) (listed.setIfInBounds i true) a' w') a w)
theorem Hw{N:Nat}{ms:List DM}(hm:MsOk ops ms){W:Nat→Prop}(hW:∀o∈ops.toList,∀d,o.dst=some d→W d){a0:Act}{w0:World}{K:cd→ad→Prop}
  (hQ:∀r a w,Agree N r a→Fr W a0 w0 a w→K r w.heap→Q .normal a w)(hnp:∀e a w,(∀c,e=.panic c→False)∨¬Q e a w)(da:DA):
  K6 ro n P ops Q N ms W a0 w0 K da:=by
 have one:∀(i:Nat) (p:DA)
   (_:K6 ro n P ops Q N ms W a0 w0 K p)
   (ls:Nat) (L:pw) (d:tg) (r:cd) (a:Act) (w:World) (listed:Array Bool) (g:Nat),
   Mb P N ops.toList i L d r w.heap (fun L' d' E h'=>lB P N ops.toList ms p false (cB ls (fQ i)) L' d' K E h')→Agree N r a→DecOk d r→Fr W a0 w0 a w→LsRel ops ls listed→Shut ms listed→
   left ops ls≤g+1→i∈ka ls ms 0→∀o,ops[i]? =some o→
    wpOpIn (FW ro) n P ops Q i (fun a' w'=>(∀x∈Jg ms i L,x.2 w'.heap)∧Nx ms ro n P ops Q g (Jg ms i L) (listed.setIfInBounds i true) a' w') a w:=by
  intro i p X ls L d r a w listed g f z hd H B q C hr o y;have A:i<ops.size:=(bK.1 y).1;obtain⟨k,mm,hk,hki,O,_⟩:=(qi ls ms 0 i).1 hr;unfold Mb at f;rw[aS,y]at f;simp only at f;cases hw:gS ops.toList d o with
  |none=>rw[hw]at f;exact f.elim
  |some b=>
   rw[hw]at f;cases b with
   |false=>exact f.elim
   |true=>
    simp only at f;cases hq:ug P o.op with
    |true=>
     rw[hq,cond_true]at f;unfold wpOpIn;rw[y];simp only[ly hw z hd,if_true];obtain⟨v,S,hK,hS,_,Y⟩:=Ag z f d hd;refine oE (K:=fun u h'=>u=v∧h'=w.heap) (A8 f) (.inl ⟨v,w,Y w hS,Tame.refl w,rfl,rfl⟩) ?_
     rintro u w' ht ⟨rfl,hw'⟩;obtain⟨E,G,I,J⟩:=rl (dv:=.x) hK z hd trivial;obtain⟨hh,hs'⟩:=pX.1 G;have D:o∈ops.toList:=bD (by rw[aS];exact y);have R:=uO A O;have F:∀x∈Jg ms i L,x∈mJ o L:=fun x hx=>uJ.2 ⟨(iP.1 hx).1,by
      cases hb:gT o x.1 with
      |false=>rfl
      |true=>
        have:=(iP.1 hx).2
        rw[yd,Fz (by rw[GR hm y];exact hb)]at this;cases this⟩
     rw[←hw']at hh hs';exact⟨fun x hx=>hh x (F x hx),sF _ _ _ _ _ _ (fun x hx=>.inl (F x hx)) ((X false _ _ _ E _ w' _ g hs' I J (H.put (hW o D) u ht) (B.put A) (q.put hm ((kG hm B).2 hr)) hh).1 rfl (by omega))⟩
    |false=>
     rw[hq,cond_false]at f;unfold wpOpIn;rw[y];simp only[ly hw z hd,if_true];refine oE (uD f) (zU z f) ?_;intro v w' ht hK;obtain⟨E,G,I,J⟩:=rl (dv:=.x) hK z hd trivial;obtain⟨hh,hs'⟩:=pX.1 G;have D:o∈ops.toList:=bD (by rw[aS];exact y);have R:=uO A O;have F:∀x∈Jg ms i L,x∈mJ o L:=fun x hx=>uJ.2 ⟨(iP.1 hx).1,by
      cases hb:gT o x.1 with
      |false=>rfl
      |true=>
        have:=(iP.1 hx).2
        rw[yd,Fz (by rw[GR hm y];exact hb)]at this;cases this⟩
     exact⟨fun x hx=>hh x (F x hx),sF _ _ _ _ _ _ (fun x hx=>.inl (F x hx)) ((X false _ _ _ E _ w' _ g hs' I J (H.put (hW o D) v ht) (B.put A) (q.put hm ((kG hm B).2 hr)) hh).1 rfl (by omega))⟩
 have oneT:∀(i:Nat) (p:DA)
   (_:K6 ro n P ops Q N ms W a0 w0 K p)
   (ls:Nat) (L:pw) (d:tg) (r:cd) (a:Act) (w:World) (listed:Array Bool) (g:Nat),
   Lq P N ops.toList ms i L d r w.heap (fun L' d' E h'=>lB P N ops.toList ms p false (cB ls (fQ i)) L' d' K E h')→Agree N r a→DecOk d r→Fr W a0 w0 a w→LsRel ops ls listed→Shut ms listed→
   left ops ls≤g+1→i∈ka ls ms 0→∀o,ops[i]? =some o→
    wpOpIn (FW ro) n P ops Q i (fun a' w'=>(∀x∈Jg ms i L,x.2 w'.heap)∧Nx ms ro n P ops Q g (Jg ms i L) (listed.setIfInBounds i true) a' w') a w:=by
  intro i p X ls L d r a w listed g f z hd H B q C hr o y;have A:i<ops.size:=(bK.1 y).1;obtain⟨k,mm,hk,hki,O,_⟩:=(qi ls ms 0 i).1 hr;unfold Lq at f;rw[aS,y]at f;simp only at f;cases hw:gS ops.toList d o with
  |none=>rw[hw]at f;exact f.elim
  |some b=>
   rw[hw]at f;cases b with
   |false=>exact f.elim
   |true=>
    simp only at f;cases hq:ug P o.op with
    |true=>rw[hq]at f;exact f.elim
    |false=>
     rw[hq,cond_false]at f;unfold wpOpIn;rw[y];simp only[ly hw z hd,if_true];refine oE (uD f) (zU z f) ?_;intro v w' ht hK;obtain⟨E,G,I,J⟩:=rl (dv:=.x) hK z hd trivial;obtain⟨hh,hs'⟩:=pX.1 G;have D:o∈ops.toList:=bD (by rw[aS];exact y);have R:=uO A O;exact⟨hh,(X false _ _ _ E _ w' _ g hs' I J (H.put (hW o D) v ht) (B.put A) (q.put hm ((kG hm B).2 hr)) hh).1 rfl (by omega)⟩
 induction da with
 |done=>
  intro m ls L d r a w listed g f z hd H B q U;cases m with
  |true=>exact f.elim
  |false=>
   refine⟨fun _ _=>?_,fun h=>by cases h⟩
   have hc:lB P N ops.toList ms .done false ls L d K r w.heap=bif tC (ka ls ms 0) []then K r w.heap else False:=rfl;rw[hc]at f;cases hb:tC (ka ls ms 0) []with
   |false=>rw[hb]at f;exact f.elim
   |true=>
    rw[hb]at f;have hnil:Region.ready .any ops listed= []:=by
     apply List.eq_nil_iff_forall_not_mem.2;intro j T;rw[kG hm B,vQ hb]at T;cases T
    exact Nw hnil (hQ r a w z H f)
 |take i p X=>
  intro m ls L d r a w listed g f z hd H B q U;cases m with
  |true=>
   exfalso;have hc:lB P N ops.toList ms (.take i p) true ls L d K r w.heap=(match ops.toList[i]?,ms[i]? with|some _,some _=>False|_,_=>False):=rfl
   rw[hc]at f;split at f<;>exact f
  |false=>
   refine⟨fun _ C=>?_,fun h=>by cases h⟩
   have hc:lB P N ops.toList ms (.take i p) false ls L d K r w.heap=(match ops.toList[i]?,ms[i]? with
    |some o,some mi=>bif CB mi i ls ops.toList.length then
      (match gS ops.toList d o with
       |none=>False
       |some false=>xw N o undef r fun E=>lB P N ops.toList ms p false (cB ls (fQ i)) L (p5 d o .u) K E w.heap
       |some true=>bif ug P o.op then
          zR P none o.op r (fun v S=>xw N o v r fun E=>match S with
            |none=>lB P N ops.toList ms p false (cB ls (fQ i)) L (p5 d o (Hd d o.op)) K E w.heap
            |some S=>lB P N ops.toList ms p false (cB ls (fQ i)) ((i,S)::L) (p5 d o (Hd d o.op)) K E w.heap) w.heap
          else False)
     else False
    |_,_=>False):=rfl
   rw[hc]at f;split at f
   ·rename_i o mi y hmi
    rw[aS]at y;cases htk:CB mi i ls ops.toList.length with
    |false=>rw[htk]at f;exact f.elim
    |true=>
     rw[htk,cond_true]at f;unfold CB at htk;simp only[aQ,ns,yd]at htk;obtain⟨⟨hun,hrd⟩,hfr⟩:=htk;have A:i<ops.size:=(bK.1 y).1;have s:i∈Region.ready .any ops listed:=(EW hm B).2 ⟨mi,hmi,hun,hrd⟩;have R:=uO (ops:=ops) A hun;obtain⟨f',rfl⟩:∃f',g=f'+1:=⟨g-1,by omega⟩
     have D:o∈ops.toList:=bD (by rw[aS];exact y);have hcov:∀j,j<ops.size→ls.testBit j=true∨mi.fr.testBit j=true:=by
      intro j T;have h0:=aL hfr;have hpb:(vJ (fQ ops.toList.length)).testBit j=true:=by
        have:vJ (fQ ops.toList.length)=2^ops.toList.length-1:=rfl;rw[this,Nat.testBit_two_pow_sub_one];simpa using T
      have hand:(iu (cB ls mi.fr) (vJ (fQ ops.toList.length))).testBit j=((cB ls mi.fr).testBit j&&(vJ (fQ ops.toList.length)).testBit j):=pz _ _ j;rw[h0,hpb,Bool.and_true,mg]at hand;exact(Bool.or_eq_true_iff).1 hand.symm
     have V:∀j oj,ops[j]? =some oj→j≠i→listed.getD j true=false→gT oj i=false→
        (∀d,o.dst=some d→d∉oj.looksAt ops)∧(∀d,o.dst=some d→oj.dst≠some d)∧(∀d,oj.dst=some d→d∉o.looksAt ops):=by
      intro j oj hoj hne hju hna;have T:j<ops.size:=(bK.1 hoj).1;rw[B.unlisted T]at hju;have hjm:j<ms.length:=by rw[hm.len];exact T
      have hmj:=aJ hjm;rcases hcov j T with h|h
      · rw[h]at hju;cases hju
      · rcases hm.free i j mi _ hmi hmj h with h|h|h
        ·exact absurd h hne
        ·rw[hm.am j oj _ hoj hmj,hna]at h;cases h
        ·exact Pv hm y hoj hmi hmj h
     cases hw:gS ops.toList d o with
     |none=>rw[hw]at f;exact f.elim
     |some b=>
      rw[hw]at f;have hwd:=ly hw z hd;cases b with
      |false=>
        obtain⟨E,G,I,J⟩:=rl (dv:=.u) f z hd rfl;have hy:YG P ops (fun _=>True) o undef a:=.inr ⟨hwd,rfl⟩
        refine Co hm y hm.nosel hnp f' L listed a w V q s hy trivial U ?_;refine sF _ L _ _ _ _ (fun x hx=>(au.1 hx).elim (fun e=>.inr fun h=>by rw[e];trivial) .inl) ?_
        exact(X false _ _ _ E _ w _ f' G I J (H.put (hW o D) undef (Tame.refl w)) (B.put A) (q.put hm s) U).1 rfl (by omega)
      |true=>
        simp only at f;cases hq:ug P o.op with
        |false=>rw[hq]at f;exact f.elim
        |true=>
         rw[hq,cond_true]at f;obtain⟨v,S,hK,hS,hdv,Y⟩:=Ag z f d hd;obtain⟨E,G,I,J⟩:=rl hK z hd hdv;have hfr':=H.put (hW o D) v (Tame.refl w);cases S with
         |none=>
           have hy:YG P ops (fun _=>True) o v a:=.inl ⟨hwd,fun w _=>Y w trivial⟩
           refine Co hm y hm.nosel hnp f' L listed a w V q s hy trivial U ?_;refine sF _ L _ _ _ _ (fun x hx=>(au.1 hx).elim (fun e=>.inr fun h=>by rw[e];trivial) .inl) ?_
           exact(X false _ _ _ E _ w _ f' G I J hfr' (B.put A) (q.put hm s) U).1 rfl (by omega)
         |some S=>
           have hy:YG P ops S o v a:=.inl ⟨hwd,fun w h=>Y w h⟩
           refine Co hm y hm.nosel hnp f' L listed a w V q s hy hS U ?_;exact(X false _ _ _ E _ w _ f' G I J hfr' (B.put A) (q.put hm s) (fun x hx=>(au.1 hx).elim (fun e=>by rw[e];exact hS) (U x))).1 rfl (by omega)
   ·exact f.elim
 |all l X=>
  intro m ls L d r a w listed g f z hd H B q U;cases m with
  |true=>exact f.elim
  |false=>
   refine⟨fun _ C=>?_,fun h=>by cases h⟩
   have hc:lB P N ops.toList ms (.all l) false ls L d K r w.heap=bif tC (ka ls ms 0) (Av l)then lB P N ops.toList ms l true ls L d K r w.heap else False:=rfl;rw[hc]at f;cases hb:tC (ka ls ms 0) (Av l)with
   |false=>rw[hb]at f;exact f.elim
   |true=>
    rw[hb,cond_true]at f;obtain⟨i,hi⟩:=MK f;rw[←vQ hb]at hi;have hrd:=(kG hm B (j:=i)).2 hi;obtain⟨k,mm,hk,hki,O,_⟩:=(qi ls ms 0 i).1 hi;have A:i<ops.size:=by
     have:=(bi.1 hk).1;rw[hm.len]at this;omega
    have R:=uO (ops:=ops) A O;obtain⟨f',rfl⟩:∃f',g=f'+1:=⟨g-1,by omega⟩
    refine⟨fun h=>(by rw[h]at hrd;cases hrd),fun j T o y=>?_⟩
    have hj':=(kG hm B).1 T;exact(X true ls L d r a w listed f' f z hd H B q U).2 rfl C j (by rw[←vQ hb];exact hj') hj' o y
 |pick i p more ih1 ih2=>
  intro m ls L d r a w listed g f z hd H B q U;cases m with
  |false=>exact f.elim
  |true=>
   refine⟨fun h=>(by cases h),fun _ C j T Z o y=>?_⟩
   have f:Mb P N ops.toList i L d r w.heap (fun L' d' E h'=>lB P N ops.toList ms p false (cB ls (fQ i)) L' d' K E h')∧lB P N ops.toList ms more true ls L d K r w.heap:=f
   rcases au.1 T with rfl|T
   ·exact one _ p ih1 ls L d r a w listed g f.1 z hd H B q C Z o y
   ·exact(ih2 true ls L d r a w listed g f.2 z hd H B q U).2 rfl C j T Z o y
 |last i p X=>
  intro m ls L d r a w listed g f z hd H B q U;cases m with
  |false=>exact f.elim
  |true=>
   refine⟨fun h=>(by cases h),fun _ C j T Z o y=>?_⟩
   have f:Mb P N ops.toList i L d r w.heap (fun L' d' E h'=>lB P N ops.toList ms p false (cB ls (fQ i)) L' d' K E h'):=f
   have hji:j=i:=aN.1 T;subst hji;exact one _ p X ls L d r a w listed g f z hd H B q C Z o y
 |lastT i p X=>
  intro m ls L d r a w listed g f z hd H B q U;cases m with
  |false=>exact f.elim
  |true=>
   refine⟨fun h=>(by cases h),fun _ C j T Z o y=>?_⟩
   have f:Lq P N ops.toList ms i L d r w.heap (fun L' d' E h'=>lB P N ops.toList ms p false (cB ls (fQ i)) L' d' K E h'):=f
   have hji:j=i:=aN.1 T;subst hji;exact oneT _ p X ls L d r a w listed g f z hd H B q C Z o y
 |split t yes no ih1 ih2=>
  intro m ls L d r a w listed g f z hd H B q U;cases m with
  |true=>exact f.elim
  |false=>
   refine⟨fun _ C=>?_,fun h=>by cases h⟩
   have hc:lB P N ops.toList ms (.split t yes no) false ls L d K r w.heap=(match ja r t with
    |some (.bool b)=>CondP b (lB P N ops.toList ms yes false ls L ((t,.t)::d) K ((t,.bool true)::r) w.heap) (lB P N ops.toList ms no false ls L ((t,.f)::d) K ((t,.bool false)::r) w.heap)
    |_=>False):=rfl
   rw[hc]at f;split at f
   ·rename_i b hlk
    cases b with
    |true=>exact(ih1 false ls L _ _ a w listed g (f.yes rfl) (z.known hlk) (hd.known rfl) H B q U).1 rfl C
    |false=>exact(ih2 false ls L _ _ a w listed g (f.no rfl) (z.known hlk) (hd.known rfl) H B q U).1 rfl C
   ·exact f.elim
end Go.Lift
namespace Go.Lift
open Go
variable {P:Program} {ro:Option Nat} {n:Nat}
theorem Fb{r:cd}:∀{l:List Nat} {r0:cd},LB r l=some r0→∀t v,ja r0 t=some v→t∈l∧ja r t=some v
 | [],r0,h,t,v,hv=>by cases h;cases hv
 |s::l,r0,h,t,v,hv=>by
  have h:(match ja r s,LB r l with|some v,some l=>some ((s,v)::l)|_,_=>none)=some r0:=h
  split at h
  ·rename_i u l' hu hl
   cases h;by_cases e:s=t
   ·subst e;rw[gx]at hv;cases hv;exact⟨aW ..,hu⟩
   ·rw[fS u _ e]at hv
    have:=Fb hl t v hv;exact⟨bj _ this.1,this.2⟩
  ·cases h
theorem Ap{m:Nat}{t:Nat}{v:Value}:∀{r:cd},ja (uQ m r) t=some v→m.testBit t=false∧ja r t=some v
 | [],h=>by cases h
 |(k,u)::r,h=>by
  have h:ja (bif tb m k then uQ m r else(k,u)::uQ m r) t=some v:=h;cases hk:tb m k with
  |true=>
   rw[hk]at h;have:=Ap h;by_cases e:k=t
   ·subst e;rw[yd,this.1]at hk;cases hk
   ·rw[fS u _ e];exact this
  |false=>
   rw[hk]at h;have h:ja ((k,u)::uQ m r) t=some v:=h;by_cases e:k=t
   ·subst e;rw[gx]at h⊢;rw[yd]at hk;exact⟨hk,h⟩
   ·rw[fS u _ e]at h⊢;exact Ap h
theorem zT{t:Nat}:∀{l:List Oper},(NA l).testBit t=false→¬j5 t l=true
 | [],_,h=>by cases h
 |o::l,hm,h=>by
  have hm:(cB (lU o) (NA l)).testBit t=false:=hm;rw[mg,kz]at hm;have h:(match o.dst with|some d=>bif ax d t then true else j5 t l|none=>j5 t l)=true:=h
  cases hd:o.dst with
  |none=>rw[hd]at h;exact zT hm.2 h
  |some d=>
   rw[hd]at h;cases e:ax d t with
   |true=>have:=(vn o t).2 (by rw[hd,aL e]);rw[hm.1]at this;cases this
   |false=>simp only[e]at h;exact zT hm.2 h
theorem HW{a b:Option Nat}{m:Nat}(h:Sw a b=some m):∃x y,a=some x∧b=some y∧m=cB x y:=by
 cases a<;>cases b<;>cases h
 exact⟨_,_,rfl,rfl,rfl⟩
theorem Nz{t:Nat}(c:Code):∀{m:Nat},wA c=some m→m.testBit t=false→¬ft t c=true:=by
 induction c with
 |skip=>intro m _ _ h;cases h
 |region id ops dr=>intro m h hm d;cases h;exact zT hm d
 |seq a b iha ihb=>
  intro m h hm d;obtain⟨x,y,hx,e,rfl⟩:=HW (show Sw (wA a) (wA b)=some m from h)
  rw[mg,kz]at hm;have d:(bif ft t a then true else ft t b)=true:=d;cases ha:ft t a with
  |true=>exact iha hx hm.1 ha
  |false=>rw[ha]at d;exact ihb e hm.2 d
 |cond c a b iha ihb=>
  intro m h hm d;obtain⟨x,y,hx,e,rfl⟩:=HW (show Sw (wA a) (wA b)=some m from h)
  rw[mg,kz]at hm;have d:(bif ft t a then true else ft t b)=true:=d;cases ha:ft t a with
  |true=>exact iha hx hm.1 ha
  |false=>rw[ha]at d;exact ihb e hm.2 d
 |block id b ih=>exact fun h hm=>ih h hm
 |loop b ih=>exact fun h hm=>ih h hm
 |rangeFunc _ _ _ _ _ _=>intro m h;cases h
 |scope b ih=>exact fun h hm=>ih h hm
 |_=>intro m _ _ h;cases h
theorem Agree.keep{N:Nat}{r g:cd}{a a':Act}{w w':World}{m:Nat}{c:Code}(h:Agree N r a)(hm:wA c=some m)(e:Fr (fun t=>ft t c=true) a w a' w')(h':Agree N g a'):Agree N (uQ m r) a':=
 ⟨h'.size,fun t v f=>by
  obtain⟨b,d⟩:=Ap f
  rw[e.same t (Nz c hm b)];exact h.look t v d⟩
theorem uG{st:St}{r:cd}{f:rp (xa st)→Prop}(h:A4 st r f):∃t,CF r st=some (ki (xa st) t)∧f t:=by
 unfold A4 at h;split at h
 ·rename_i vs hv
  obtain⟨t,rfl,a⟩:=qD h;exact⟨t,hv,a⟩
 ·exact h.elim
theorem Agree.zip{N:Nat}{r:cd}{a:Act}(h:Agree N r a):∀{st:St} {vs:List Value} {r0:cd},CF r st=some vs→Agree N r0 a→Agree N (lQ st vs r0) a
 | [],vs,r0,_,h0=>by cases vs<;>exact h0
 |(i,k)::st,vs,r0,hv,h0=>by
  unfold CF at hv;split at hv
  ·rename_i v vs' h1 h2
   cases hv;have:=Agree.zip h h2 h0;refine⟨this.size,fun t u b=>?_⟩
   by_cases e:i=t
   ·subst e
    rw[show lQ ((i,k)::st) (v::vs') r0=(i,v)::lQ st vs' r0 from rfl,gx]at b;cases b
    exact h.look i v h1
   ·rw[show lQ ((i,k)::st) (v::vs') r0=(i,v)::lQ st vs' r0 from rfl,fS v _ e]at b
    exact this.look t u b
  ·cases hv
theorem xU{t:Nat}:∀{l:List Oper} {o:Oper},o∈l→o.dst=some t→j5 t l=true
 | [],_,h,_=>by cases h
 |x::l,o,h,hd=>by
  have e:j5 t (x::l)=(match x.dst with|some d=>bif ax d t then true else j5 t l|none=>j5 t l):=rfl
  rw[e];rcases au.1 h with rfl|h
  ·rw[hd];simp only;rw[show ax t t=true from qc t];rfl
  ·have:=xU h hd
   cases x.dst with
   |none=>exact this
   |some d=>
    simp only;cases ax d t with
    |true=>rfl
    |false=>exact this
def LWP(ro:Option Nat)(n:Nat)(P:Program)(c:Code)(Q:Exit→Act→World→Prop)(a:Act)(w:World):Prop:=
 ∀(b:Frame) (k:List Item) (cs:List Frame),b.roundOf=(FW ro).round→(FW ro).fn b.fn→(FW ro).room (cs.length+1+n)→
  ∃e a' w',Q e a' w'∧ArrivesIn (Machine.fenced P (FW ro)) P (lone (b.atR a (.code c:: .inLoop c::k)) cs w) b k cs e a' w'
theorem LWP.step{c:Code}{Q:Exit→Act→World→Prop}{a:Act}{w:World}(h:c.wpIn (FW ro) n P (Exit.then (LWP ro n P c Q) Q) a w):LWP ro n P c Q a w:=by
 intro b k cs m o p;obtain⟨e,i,j,g,d⟩:=h b (.inLoop c::k) cs m o p;cases e with
 |normal=>
  obtain⟨s,t,u,q,f⟩:=g b k cs m o p;exact⟨s,t,u,q,.of_steps (StepsIn.trans d (.one (fenced_calm o p rfl) stepR_inLoop)) f⟩
 |exit id=>exact⟨_,i,j,g,.pass (x:=.inLoop c) rfl (fun _ _=>.inl (by simp)) d⟩
 |goto l=>exact⟨_,i,j,g,.pass (x:=.inLoop c) rfl (fun _ _=>.inl (by simp)) d⟩
 |ret=>exact⟨_,i,j,g,.pass (x:=.inLoop c) rfl (fun _ _=>.inl (by simp)) d⟩
 |panic ch=>exact⟨_,i,j,g,.pass (x:=.inLoop c) rfl (fun _ _=>.inl (by simp)) d⟩
 |outgrown=>exact⟨_,i,j,g,.pass (x:=.inLoop c) rfl (fun _ _=>.inl (by simp)) d⟩
theorem LWP.loop{c:Code}{Q:Exit→Act→World→Prop}{a:Act}{w:World}(h:LWP ro n P c Q a w):(Code.loop c).wpIn (FW ro) n P Q a w:=by
 intro b k cs f g i;obtain⟨e,a',w',j,d⟩:=h b k cs f g i;exact⟨e,a',w',j,.of_steps (.one (fenced_calm g i rfl) stepR_loop) d⟩
theorem Fx(r:cd):DecOk [] r:=fun _=>.inl rfl
theorem Qj(ops:Array Oper)(ls:Nat):left ops ls≤ops.size:=by
 unfold left;exact Nat.le_trans (List.length_filter_le ..) (by simp)
theorem j8(f:P.follows .mixedOrders=true){N id:Nat}{ops:Array Oper}{g:Bool}{p:Ann}{K:cd→ad→Prop}{r:cd}{a:Act}{w:World}{Q:Exit→Act→World→Prop}
  (b:Ab P N ops.toList g p K r w.heap)(i:Agree N r a)(s:∀c a w,¬Q (.panic c) a w)
  (k:∀r' a' w',Agree N r' a'→Fr (fun t=>j5 t ops.toList=true) a w a' w'→K r' w'.heap→Q .normal a' w'):(Code.region id ops g).wpIn (FW ro) n P Q a w:=by
 have m:∀o∈ops.toList,∀d,o.dst=some d→j5 d ops.toList=true:=fun o v d hd=>xU v hd
 cases g with
 |false=>
  have key:∀ek,CJ P N ek ops.toList ops.toList [] K r w.heap→(Code.region id ops false).wpIn (FW ro) n P Q a w:=fun ek b=>by
   refine wpIn_region ?_;rw[List.range_eq_range',show ops.size=ops.toList.length from rfl]
   exact CI m k ops.toList 0 rfl [] r a w b i (Fx r) (Fr.refl _ a w)
  unfold Ab at b;simp only at b;split at b
  ·exact key _ b
  ·exact key _ b
 |true=>
  unfold Ab at b;simp only at b;generalize Lx ops.toList=ms at b;cases hm:Ce ops.toList ms with
  |false=>rw[hm]at b;exact b.elim
  |true=>
   rw[hm,cond_true]at b;refine wpIn_region_any f (Lg (ms:=ms) _ [] _ _ _ ?_);have u:Tame w {w with drawn:=w.drawn+1}:=⟨rfl,rfl,rfl⟩;have q:Fr (fun t=>j5 t ops.toList=true) a w a {w with drawn:=w.drawn+1}:=⟨u,rfl,fun _ _=>rfl⟩
   refine(Hw (Ka hm) m k (fun e a w=>?_) _ false 0 [] [] r a {w with drawn:=w.drawn+1} _ ops.size b i (Fx r) q LsRel.start (fun j x _ h=>by rw[(LsRel.start (ops:=ops)).bit,kY]at h;cases h) (fun x hx=>by cases hx)).1 rfl (Qj ops 0)
   cases e with
   |panic ch=>exact .inr (s _ a w)
   |_=>exact .inl fun c hc=>by cases hc
theorem Cm(t:Nat)(x y:Code):ft t (.seq x y)=(bif ft t x then true else ft t y):=rfl
theorem AW(t:Nat)(c:Operand)(x y:Code):ft t (.cond c x y)=(bif ft t x then true else ft t y):=rfl
theorem GO{a b:Bool}:(bif a then true else b)=true↔a=true∨b=true:=by cases a<;>cases b<;>decide
theorem qZ(u:P.follows .mixedOrders=true){N:Nat}(c:Code):∀(D:Ann) (Kn:cd→ad→Prop) (Kx:Ex→cd→ad→Prop) (r:cd) (a:Act) (w:World) (Q:Exit→Act→World→Prop),
  jv P N c D Kn Kx r w.heap→Agree N r a→(∀L a w,¬Q (.panic L) a w)→
  (∀g a' w',Agree N g a'→Fr (fun t=>ft t c=true) a w a' w'→Kn g w'.heap→Q .normal a' w')→
  (∀i g a' w',Agree N g a'→Fr (fun t=>ft t c=true) a w a' w'→Kx (.exit i) g w'.heap→Q (.exit i) a' w')→
  (∀g a' w',Agree N g a'→Fr (fun t=>ft t c=true) a w a' w'→Kx .ret g w'.heap→Q .ret a' w')→
  c.wpIn (FW ro) n P Q a w:=by
 induction c with
 |skip=>
  intro D Kn Kx r a w Q j s _ z _ _;exact wpIn_skip (z r a w s (Fr.refl ..) j)
 |region id ops dr=>
  intro D Kn Kx r a w Q j s A z _ _;cases D with
  |reg keep inner=>
   have j:Ab P N ops.toList dr inner (fun g h'=>match LB g keep with|some r0=>Kn r0 h'|none=>False) r w.heap:=j
   refine j8 u j s A fun g a' w' O W hk=>?_
   split at hk
   ·rename_i r0 hr0
    refine z r0 a' w' ⟨O.size,fun t v hv=>O.look t v (Fb hr0 t v hv).2⟩ W hk
   ·exact hk.elim
  |nil=>exact j8 u (show Ab P N ops.toList dr (.nil) Kn r w.heap from j) s A z
  |node x y=>exact j8 u (show Ab P N ops.toList dr (.node x y) Kn r w.heap from j) s A z
  |join st x y=>exact j8 u (show Ab P N ops.toList dr (.join st x y) Kn r w.heap from j) s A z
  |loop st y=>exact j8 u (show Ab P N ops.toList dr (.loop st y) Kn r w.heap from j) s A z
  |draw d=>exact j8 u (show Ab P N ops.toList dr (.draw d) Kn r w.heap from j) s A z
  |kinds k v=>exact j8 u (show Ab P N ops.toList dr (.kinds k v) Kn r w.heap from j) s A z
  |rf ks x y=>exact j8 u (show Ab P N ops.toList dr (.rf ks x y) Kn r w.heap from j) s A z
 |seq x y ihx ihy=>
  intro D Kn Kx r a w Q j s A z hx G;have E:∀{a' w'},Fr (fun t=>ft t x=true) a w a' w'→Fr (fun t=>ft t (.seq x y)=true) a w a' w':=fun h=>h.mono fun t S=>by rw[Cm,GO];exact .inl S
  have C:∀{a' w' H I},Fr (fun t=>ft t x=true) a w a' w'→Fr (fun t=>ft t y=true) a' w' H I→Fr (fun t=>ft t (.seq x y)=true) a w H I:=
   fun h k=>(E h).trans (k.mono fun t S=>by rw[Cm,GO];exact .inr S)
  have plain:∀U R,jv P N x U (fun g h'=>jv P N y R Kn Kx g h') Kx r w.heap→(Code.seq x y).wpIn (FW ro) n P Q a w:=fun U R j=>by
   refine wpIn_seq (ihx U _ Kx r a w _ j s (fun L a w=>A L a w) ?_ (fun i g a' w' p q o=>hx i g a' w' p (E q) o) (fun g a' w' p q o=>G g a' w' p (E q) o))
   intro r1 V Y F B K;exact ihy R Kn Kx r1 V Y Q K F A (fun g a' w' p q o=>z g a' w' p (C B q) o) (fun i g a' w' p q o=>hx i g a' w' p (C B q) o) (fun g a' w' p q o=>G g a' w' p (C B q) o)
  cases D with
  |join st U R=>
   have j:(match wA x with
      |none=>False
      |some m=>Join (T:=rp (xa st)) (fun t h'=>jv P N y R Kn Kx (lQ st (ki (xa st) t) (uQ m r)) h')
       fun J=>jv P N x U (fun g h'=>A4 st g fun t=>J t h') Kx r w.heap):=j
   split at j
   ·exact j.elim
   ·rename_i m hm
    refine wpIn_seq (ihx U _ Kx r a w _ j.run s (fun L a w=>A L a w) ?_ (fun i g a' w' p q o=>hx i g a' w' p (E q) o) (fun g a' w' p q o=>G g a' w' p (E q) o))
    intro r1 V Y F B K;obtain⟨t,hst,hs2⟩:=uG K;have ha2:Agree N (lQ st (ki (xa st) t) (uQ m r)) V:=F.zip hst (s.keep hm B F);exact ihy R Kn Kx _ V Y Q hs2 ha2 A (fun g a' w' p q o=>z g a' w' p (C B q) o) (fun i g a' w' p q o=>hx i g a' w' p (C B q) o) (fun g a' w' p q o=>G g a' w' p (C B q) o)
  |_=>exact plain _ _ j
 |cond c x y ihx ihy=>
  intro D Kn Kx r a w Q j s A z hx G;have j:(match cJ r c with
   |some (.bool t)=>CondP t (jv P N x D.l Kn Kx r w.heap) (jv P N y D.r Kn Kx r w.heap)
   |_=>False):=j
  have E:∀{a' w'},Fr (fun t=>ft t x=true) a w a' w'→Fr (fun t=>ft t (.cond c x y)=true) a w a' w':=fun h=>h.mono fun t S=>by rw[AW,GO];exact .inl S
  have C:∀{a' w'},Fr (fun t=>ft t y=true) a w a' w'→Fr (fun t=>ft t (.cond c x y)=true) a w a' w':=fun h=>h.mono fun t S=>by rw[AW,GO];exact .inr S
  split at j
  ·rename_i t S
   refine wpIn_cond_split (jb s S) (fun e=>?_) (fun e=>?_)
   ·exact ihx _ Kn Kx r a w Q (j.yes e) s A (fun g a' w' p q o=>z g a' w' p (E q) o) (fun i g a' w' p q o=>hx i g a' w' p (E q) o) (fun g a' w' p q o=>G g a' w' p (E q) o)
   ·exact ihy _ Kn Kx r a w Q (j.no e) s A (fun g a' w' p q o=>z g a' w' p (C q) o) (fun i g a' w' p q o=>hx i g a' w' p (C q) o) (fun g a' w' p q o=>G g a' w' p (C q) o)
  ·exact j.elim
 |block id b ih=>
  intro D Kn Kx r a w Q j s A z hx G;refine wpIn_block (ih D Kn _ r a w _ j s (fun L a w=>A L a w) z (fun i g a' w' p q o=>?_) G)
  simp only[Exit.inBlock]at o⊢;cases hi:ax i id with
  |true=>
   rw[hi,cond_true]at o;rw[if_pos (aL hi)];exact z g a' w' p q o
  |false=>
   rw[hi,cond_false]at o;rw[if_neg (fun e=>by rw[e,qc]at hi;cases hi)]
   exact hx i g a' w' p q o
 |loop b ih=>
  intro D Kn Kx r a w Q j s A z hx G;cases D with
  |loop st R=>
   have j:(match wA b with
      |none=>False
      |some m=>A4 st r fun t0=>LoopP (T:=rp (xa st)) (fun self t h'=>jv P N b R (fun g h''=>A4 st g fun t'=>self t' h'') Kx (lQ st (ki (xa st) t) (uQ m r)) h') t0 w.heap):=j
   split at j
   ·exact j.elim
   ·rename_i m hm
    obtain⟨t0,X,hl⟩:=uG j;have h0:=hl.run (fun t h'=>∀a' w',w'.heap=h'→Agree N (lQ st (ki (xa st) t) (uQ m r)) a'→Fr (fun t=>ft t b=true) a w a' w'→LWP ro n P b Q a' w') (fun t h' hF a' w' hw O W=>by
     subst hw
     refine LWP.step (ih R _ Kx _ a' w' _ hF O (fun L a w=>A L a w) ?_ (fun i g H I p q o=>hx i g H I p (W.trans q) o) (fun g H I p q o=>G g H I p (W.trans q) o))
     intro r1 V Y F B K
     obtain⟨t1,Z,hk1⟩:=uG K
     exact hk1 V Y rfl (F.zip Z (s.keep hm (W.trans B) F)) (W.trans B))
    exact LWP.loop (h0 a w rfl (s.zip X (s.keep hm (Fr.refl _ a w) s)) (Fr.refl _ a w))
  |_=>exact j.elim
 |rangeFunc f params assign body _ _=>intro D Kn Kx r a w Q j;exact j.elim
 |exit id=>
  intro D Kn Kx r a w Q j s A z hx G;exact wpIn_exit (hx id r a w s (Fr.refl ..) j)
 |scope b _=>intro D Kn Kx r a w Q j;exact j.elim
 |label l=>
  intro D Kn Kx r a w Q j s A z hx G;exact wpIn_label (z r a w s (Fr.refl ..) j)
 |goto l=>intro D Kn Kx r a w Q j;exact j.elim
 |ret=>
  intro D Kn Kx r a w Q j s A z hx G;exact wpIn_ret (G r a w s (Fr.refl ..) j)
 |refuse why=>intro D Kn Kx r a w Q j;exact j.elim
end Go.Lift
namespace Go.Lift
open Go
variable {P:Program}
theorem oo{N:Nat}{r:cd}{a:Act}{w:World}(c:Agree N r a):∀{l:List ResultVar} {K:List Value→Prop},lR P r w.heap l K→
  ∃vs,(∀g:ResultVar→Sem Value,(∀t,g (.tmp t)=pure (a.tmps.getD t undef))→(∀x t,g (.cell x t)=do loadVar t (←asAddr (a.tmps.getD x undef)))→(l.mapM g).run P w=.ok vs w)∧K vs
 | [],K,h=>⟨[],fun g _ _=>by rw[List.mapM_nil];rfl,h⟩
 | .tmp t::l,K,h=>by
  unfold lR at h;split at h
  ·rename_i v hv
   obtain⟨vs,i,f⟩:=oo c h;refine⟨v::vs,fun g d e=>?_,f⟩
   rw[List.mapM_cons,d];simp only[aH,bd,ar];rw[i g d e];simp only[ar,c.look t v hv]
  ·exact h.elim
 | .cell x t::l,K,h=>by
  unfold lR at h;split at h
  ·rename_i v hv
   obtain⟨u,S,n,k,m⟩:=A9 h;obtain⟨vs,i,f⟩:=oo c n;refine⟨u::vs,fun g d e=>?_,f⟩
   rw[List.mapM_cons,e];have j:(do loadVar t (←asAddr (a.tmps.getD x undef)):Sem Value).run P w=.ok u w:=by
    rw[c.look x v hv];unfold HI at h;cases v with
    |pointer p=>cases p with
     |none=>exact h.elim
     |some b=>exact m w k
    |_=>exact h.elim
   simp only[aH]at j⊢;rw[j];simp only[ar];rw[i g d e];simp only[bd,ar]
  ·exact h.elim
theorem EV(ks:List Kind)(t:rp ks):(if h:(ki ks t).toArray.size=1 then(ki ks t).toArray[0]else Value.tuple (ki ks t).toArray)=yh ks (ki ks t):=by
 match ks,t with
 | [],t=>rfl
 | [k],t=>rfl
 |k::l::ks,(x,t)=>
  have:(ki (k::l::ks) (x,t)).length=(k::l::ks).length:=rk _ _;rw[dif_neg (by simp only[cp,this,aV];omega)];rfl
theorem tP:∀(vs:List Value) (i t:Nat) (v:Value),ja (oz i vs) t=some v→i≤t∧vs[t-i]? =some v
 | [],i,t,v,h=>by cases h
 |u::vs,i,t,v,h=>by
  by_cases e:i=t
  ·subst e
   rw[show oz i (u::vs)=(i,u)::oz (i+1) vs from rfl,gx]at h
   cases h;exact⟨Nat.le_refl _,by simp⟩
  ·rw[show oz i (u::vs)=(i,u)::oz (i+1) vs from rfl,fS u _ e]at h
   obtain⟨b,a⟩:=tP vs (i+1) t v h;refine⟨by omega,?_⟩;rw[show t-i=(t-(i+1))+1 by omega,List.getElem?_cons_succ]
   exact a
theorem LP(f:P.follows .mixedOrders=true){n:Nat}{fn:Func}{c:Code}{p:Ann}{args:List Value}{ks:List Kind}{K:rp ks→ad→Prop}{w:World}(o:args.length≤fn.ntmps)(u:ER P fn c p args ks K w.heap):
  c.wpIn (FW none) n P (bodyPost P fn fun e w'=>Tame w w'∧∃t:rp ks,e=.returned (yh ks (ki ks t))∧K t w'.heap) {tmps:=args.toArray++hG (fn.ntmps-args.toArray.size) undef,defers:= []} w:=by
 have q:Agree fn.ntmps (oz 0 args) {tmps:=args.toArray++hG (fn.ntmps-args.toArray.size) undef,defers:= []}:=by
  refine⟨by simp;omega,fun t v x=>?_⟩
  obtain⟨_,j⟩:=tP args 0 t v x;simp only[dD]at j;have d:=(bi.1 j).1;simp[Array.getElem?_append,d];rw[aJ d]at j;cases j;rfl
 have i:∀m a' (w':World),Agree fn.ntmps m a'→Fr (fun t=>ft t c=true) {tmps:=args.toArray++hG (fn.ntmps-args.toArray.size) undef,defers:= []} w a' w'→
   lR P m w'.heap fn.results.toList (fun vs=>BP ks vs fun t=>K t w'.heap)→
   a'.defers= []∧∃v,(results fn a'.tmps).run P w'=.ok v w'∧(Tame w w'∧∃t:rp ks,Ending.returned v=.returned (yh ks (ki ks t))∧K t w'.heap):=fun m a' w' k b s=>by
  obtain⟨vs,g,hd⟩:=oo k s;obtain⟨t,rfl,y⟩:=qD hd;refine⟨b.defers,_,?_,b.tame,t,rfl,y⟩;unfold results;rw[lh];simp only[aH,Sem.run_map];rw[g _ (fun _=>rfl) (fun _ _=>rfl)]
  simp only[ar,bd];rw[←EV]
 exact qZ f c p _ _ _ _ w _ u q (fun z a w h=>h.2.2.elim fun _ h=>by cases h.1) i (fun _ _ _ _ _ _ h=>h.elim) i
theorem HE.intro(d:P.follows .mixedOrders=true){f:FuncId}{fn:Func}{c:Code}{i:Ann}{args:List Value}{ks:List Kind}{K:rp ks→ad→Prop}{h:ad}
  (j:P.funcs[f]? =some fn) (e:fn.body=some c) (a:∀(args:Array Value) (w:World),(callFunc f args).run P w=.ok (.enter f args) w) (b:args.length≤fn.ntmps)
  (k:ER P fn c i args ks K h):HE P f args ks K h:=by
 refine⟨fun w g=>⟨a,?_⟩⟩
 subst g;exact(callsIn_wide (n:=0)).1 (callsIn_of_wp (F:=FW none) j e trivial (LP d b k) rfl)
theorem HD.intro(d:P.follows .mixedOrders=true){f:FuncId}{fn:Func}{c:Code}{m:Ann}{args:List Value}{ks:List Kind}{K:ad→Prop}{h:ad}
  (p:P.funcs[f]? =some fn) (j:fn.body=some c) (a:∀(args:Array Value) (w:World),(callFunc f args).run P w=.ok (.enter f args) w) (b:args.length≤fn.ntmps)
  (o:ER P fn c m args ks (fun _ h'=>K h') h):HD P f args K h:=by
 refine fun w k=>⟨a,fun n=>?_⟩
 subst k;exact(callsDIn_of_wp (F:=FW none) p j trivial (LP d b o) rfl).mono fun e u w' ⟨s,q,t,g,i⟩=>⟨s,q,⟨_,g⟩,i⟩
theorem HC.intro(d:P.follows .mixedOrders=true){f:FuncId}{fn:Func}{c:Code}{g:Ann}{args:List Value}{ks:List Kind}{K:rp ks→ad→Prop}{h:ad}
 (i:P.funcs[f]? =some fn) (e:fn.body=some c) (a:∀(args:Array Value) (w:World),(callFunc f args).run P w=.ok (.enter f args) w) (b:args.length≤fn.ntmps)
 (j:ER P fn c g args ks K h):HC P f args ks K h:=(HE.intro d i e a b j).hc
theorem KT{N:Nat}{args:List Value}(c:args.length≤N):Agree N (oz 0 args) {tmps:=args.toArray++hG (N-args.toArray.size) undef,defers:= []}:=by
 refine⟨by simp;omega,fun t v d=>?_⟩
 obtain⟨_,b⟩:=tP args 0 t v d;simp only[dD]at b;have a:=(bi.1 b).1;simp[Array.getElem?_append,a];rw[aJ a]at b;cases b;rfl
theorem HB{N:Nat}{fn:Func}{ks:List Kind}{K:rp ks→ad→Prop}{c:cd}{a':Act}{w':World}(b:Agree N c a')(d:lR P c w'.heap fn.results.toList (fun vs=>BP ks vs fun t=>K t w'.heap)):
  ∃t:rp ks,(results fn a'.tmps).run P w'=.ok (yh ks (ki ks t)) w'∧K t w'.heap:=by
 obtain⟨vs,a,hd⟩:=oo b d;obtain⟨t,rfl,e⟩:=qD hd;refine⟨t,?_,e⟩;unfold results;rw[lh];simp only[aH,Sem.run_map];rw[a _ (fun _=>rfl) (fun _ _=>rfl)]
 simp only[ar,bd];rw[←EV]
end Go.Lift
namespace Go.Lift
open Go
variable {P:Program}
abbrev CW(D:Nat):Deferred:={target:=.collected D,args:= #[]}
abbrev nO:Mk→Deferred
 | .it D=>CW D
 | .call f vs=>{target:=.fn (.func f) #[],args:= #[]++vs.toArray}
theorem DE{N:Nat}:∀{ps:List Nat} {vs:List Value} {r:cd} {tmps:Array Value},xk N ps=true→Agree N r {tmps:=tmps,defers:= []}→
  Agree N (PR ps vs r) {tmps:=(ps.zip vs).foldl (fun t x=>t.setIfInBounds x.1 x.2) tmps,defers:= []}
 | [],vs,r,tmps,_,h=>by cases vs<;>exact h
 |i::ps,[],r,tmps,_,h=>h
 |i::ps,v::vs,r,tmps,a,h=>by
  have a:(vY i N&&xk N ps)=true:=a;rw[aQ]at a;have b:i<N:=by simpa using a.1
  have:=h.put i v b;exact DE (tmps:=tmps.setIfInBounds i v) a.2 this
theorem Cz(w:World)(o:Obj):Tame w (w.alloc o):=⟨rfl,rfl,rfl⟩
theorem ml(w:World)(b:Nat)(o:Obj):Tame w (w.putObj b o):=⟨rfl,rfl,rfl⟩
theorem HM(w:World)(b:Nat)(o:Obj):(w.putObj b o).heap=w.heap.setIfInBounds b o:=rfl
theorem LY(ps:Array Nat)(vs:List Value)(t:Array Value):(ps.zip vs.toArray).foldl (fun t (x:Nat×Value)=>t.setIfInBounds x.1 x.2) t=(ps.toList.zip vs).foldl (fun t x=>t.setIfInBounds x.1 x.2) t:=by
 obtain⟨l⟩:=ps;simp
theorem BJ(A:P.follows .mixedOrders=true){n N:Nat}{g:Operand}{ps:Array Tmp}{assign body:Code}{aa ab:Ann}{ks:List Kind}{fv:Value}{r:cd}{a:Act}{w:World}{Q:Exit→Act→World→Prop}
  {KN:ad→Prop}{KX:Nat→ad→Prop}{KR:ad→Prop}(X:xk N ps.toList=true)(L:ps.toList.length=ks.length)(hg:cJ r g=some fv)(V:Agree N r a)
  (hR:RangeP P fv ks w.heap (fun EX bz x k h'=>Jz P N ps.toList ks assign body (.node aa ab) r (w.heap.size+1) EX bz x k h') KN KX KR)
  (hn:∀w',Tame w w'→KN w'.heap→Q .normal {a with defers:=CW w.heap.size::a.defers} w')
  (hx:∀i w',Tame w w'→KX i w'.heap→Q (.exit i) {a with defers:=CW w.heap.size::a.defers} w')
  (hr:∀w',Tame w w'→KR w'.heap→Q .ret {a with defers:=CW w.heap.size::a.defers} w'):(Code.rangeFunc g ps assign body).wpIn (FW none) n P Q a w:=by
 refine wpIn_rangeFunc fun fn _=>?_
 obtain⟨lo,p⟩:∃lo:LoopState→Option Ex→Obj,lo=fun s j=>.loop {state:=s,pending:=GB j,fn,tmps:=a.tmps,params:=ps,assign,body,defers:=w.heap.size}:=⟨_,rfl⟩
 have hj:∀j:Option Ex,(GB j).isNone=j.isNone:=fun j=>by rcases j with _|⟨_|_⟩<;>rfl
 obtain⟨f,first,cap,rfl,he⟩:=hR.run lo (fun s j=>⟨_,by rw[p]⟩) (fun x h' K q z=>by
  refine⟨.inr ⟨_,rfl,⟨fun I hw1=>?_⟩⟩⟩
  subst hw1
  rw[p]at q
  have hy:=run_yield (P:=P) (args:=(ki ks x).toArray) q (by simp only[cp,rk];rw[←L];rfl)
  refine⟨_,_,_,_,hy,fun c cs=>?_⟩
  have hA:Agree N (PR ps.toList (ki ks x) r) {tmps:=(ps.zip (ki ks x).toArray).foldl (fun t (x:Nat×Value)=>t.setIfInBounds x.1 x.2) a.tmps,defers:= []}:=by
   rw[LY]
   exact DE X ⟨V.size,V.look⟩
  have m:∀j:Option Ex,∀W:World,Tame I W→(W.heap[w.heap.size+1]? =some (lo .busy none)∧K j.isNone (W.heap.setIfInBounds (w.heap.size+1) (lo (if j.isNone then .ready else .done) j)))→
    ∃v w',(Instr.endRound (w.heap.size+1) (GB j)).run P W=.ok v w'∧∃b,Ending.returned v=.returned (.bool b)∧Tame I w'∧K b w'.heap:=by
   rintro j W O ⟨h1,T⟩
   rw[p]at h1
   have:=run_endRound (P:=P) (GB j) h1
   refine⟨_,_,this,_,rfl,O.trans (ml ..),?_⟩
   rw[p]at T
   rw[hj]
   exact T
  have:=roundIn_of_wpIn (F:=FW none) (n:=0) (P:=P) (l:=w.heap.size+1) (f:=fn) (assign:=assign) (body:=body) (w:=I)
   (tmps:=(ps.zip (ki ks x).toArray).foldl (fun t (x:Nat×Value)=>t.setIfInBounds x.1 x.2) a.tmps)
   (R:=fun e w'=>∃b,e=.returned (.bool b)∧Tame I w'∧K b w'.heap) trivial (by
    refine qZ (ro:=some (w.heap.size+1)) A assign aa _ _ _ _ I _ z hA (fun ch a w h=>h) ?_ (fun i r' a' w' _ _ h=>h.elim) (fun r' a' w' _ _ h=>h.elim)
    rintro r2 a2 Y U E ⟨u,D⟩
    rw[p]at u
    refine⟨_,run_beginRound u rfl,?_⟩
    have G:∀o,o=lo .busy none→Y.heap.setIfInBounds (w.heap.size+1) o=Y.heap.setIfInBounds (w.heap.size+1) (lo .busy none):=fun o ho=>by rw[ho]
    refine qZ (ro:=some (w.heap.size+1)) A body ab (fun _ T=>_) (fun e _ T=>_) _ _ (Y.putObj (w.heap.size+1) _) _ (by
     rw[HM,G _ (by rw[p])];exact D) U (fun ch a w h=>h) ?_ ?_ ?_
    ·rintro r3 a3 S H y J
     exact m none S ((E.tame.trans (ml ..)).trans y.tame) J
    ·rintro i r3 a3 S H y J
     exact m (some (.exit i)) S ((E.tame.trans (ml ..)).trans y.tame) J
    ·rintro r3 a3 S H y J
     exact m (some .ret) S ((E.tame.trans (ml ..)).trans y.tame) J)
  obtain⟨e,w',⟨b,rfl,O,hK⟩,Z⟩:=this.2 c cs (fun d h=>by simp[FW]at h)
  exact⟨b,w',O,hK,Z.steps⟩)
 have B:=he.run ((w.alloc (.deferred (some []))).alloc (lo .ready none)) rfl;refine⟨w.heap.size+1,[CW w.heap.size],(w.alloc (.deferred (some []))).alloc (lo .ready none),{target:=.fn (.func f) cap,args:=first++ #[.func (.yield (w.heap.size+1)) #[] #[]]},(w.alloc (.deferred (some []))).alloc (lo .ready none),f,
  first++ #[.func (.yield (w.heap.size+1)) #[] #[]]++cap,(w.alloc (.deferred (some []))).alloc (lo .ready none),?_,?_,fun _ _=>trivial,?_,fun h=>by simp[FW]at h,?_⟩
 ·rw[p];exact run_enterLoop_outer fn a.tmps ps assign body
 ·have hev:=jb V hg
  simp[resolve,hev,Deferred.ofValue,bd];rfl
 ·simp[invoke,B.1]
 ·refine Dy ?_
  have e:(first.toList++ [Value.func (.yield (w.heap.size+1)) #[] #[]]++cap.toList).toArray=first++ #[.func (.yield (w.heap.size+1)) #[] #[]]++cap:=by apply cr;simp
  rw[←e];refine B.2.mono ?_;rintro e w' ⟨O,t,rfl,s,j,Z,q,m⟩;have ht':Tame w w':=((Cz w _).trans (Cz _ _)).trans O;rw[p]at q;refine⟨_,_,run_endLoop q Z,?_⟩;have C:∀o,Tame w (w'.putObj (w.heap.size+1) o):=fun o=>ht'.trans (ml ..)
  have G:∀o,o=lo .exhausted j→(w'.putObj (w.heap.size+1) o).heap=w'.heap.setIfInBounds (w.heap.size+1) (lo .exhausted j):=fun o ho=>by rw[ho];rfl
  rcases j with _|⟨i|_⟩
  ·exact hn _ (C _) (by rw[G _ (by rw[p])];exact m)
  ·exact wpIn_exit (hx i _ (C _) (by rw[G _ (by rw[p])];exact m))
  ·exact wpIn_ret (hr _ (C _) (by rw[G _ (by rw[p])];exact m))
theorem Dq{n N id d:Nat}{ops:Array Oper}{m o:Oper}{x:Operand}{f:FuncId}{as:List Operand}{vs:List Value}{v:Value}{r:cd}{a:Act}{w:World}{Q:Exit→Act→World→Prop}(b:Dr ops.toList=some (m,o,x,d,f,as))(t:cJ r x=some v)(p:d<N)(g:l7 ((d,v)::r) as=some vs)(i:Agree N r a)
  (q:∀a',Agree N ((d,v)::r) a'→a'.defers=nO (.call f vs)::a.defers→Q .normal a' w):(Code.region id ops false).wpIn (FW none) n P Q a w:=by
 unfold Dr at b;split at b
 ·rename_i m' o' hl
  split at b
  ·rename_i x' d' c h1 h2 h3 h4 h5 h6
   split at b
   ·rename_i f' hc
    cases b;have k:ops[0]? =some m:=by rw[←aS,hl];rfl
    have e1:ops[1]? =some o:=by rw[←aS,hl];rfl
    have es:ops.size=2:=by rw[←Array.length_toList,hl];rfl
    have j:∀y,Region.wanted m y=true:=fun y=>by simp[Region.wanted,h2]
    have s:∀y,Region.wanted o y=true:=fun y=>by simp[Region.wanted,h6]
    refine wpIn_region ?_;rw[es,show dA 2= [0,1]from rfl]
    simp only[wpOpsIn,k,e1,j,s,if_true];refine BigFrame.wpIn_move x h1 ?_;rw[jb i t,h3];have e:=i.put d v p;refine⟨fun _ _=>trivial,?_⟩
    have z:((Oper.semAt (FW none).round (a.put (some d) v).eval o).run P w)=.ok (.defer (nO (.call f vs))) w:=by
     show((execOp (a.put (some d) v).eval o).run P w)=_
     have e2:=kF e g;have u:c.args.map (a.put (some d) v).eval=vs.toArray:=by rw[←e2];apply cr;simp
     simp only[execOp,h4,resolve,hc,u];simp[Act.eval,Deferred.ofValue,nO]
    rw[z,Oper.uponIn_defer,h5];exact q _ ⟨e.size,e.look⟩ rfl
   ·cases b
  ·cases b
 ·cases b
theorem F0(G:P.follows .mixedOrders=true){n N:Nat}(c:Code):∀(s:Ann) (Kn:List Mk→cd→ad→Prop) (Kx:Ex→List Mk→cd→ad→Prop) (ms:List Mk) (r:cd) (a:Act) (w:World) (Q:Exit→Act→World→Prop),
  xe P N c s Kn Kx ms r w.heap→Agree N r a→a.defers=ms.map nO→(∀H a w,¬Q (.panic H) a w)→
  (∀p q a' w',Agree N q a'→a'.defers=p.map nO→Tame w w'→Kn p q w'.heap→Q .normal a' w')→
  (∀i p q a' w',Agree N q a'→a'.defers=p.map nO→Tame w w'→Kx (.exit i) p q w'.heap→Q (.exit i) a' w')→
  (∀p q a' w',Agree N q a'→a'.defers=p.map nO→Tame w w'→Kx .ret p q w'.heap→Q .ret a' w')→
  c.wpIn (FW none) n P Q a w:=by
 have plain:∀(c:Code) (s:Ann) (Kn:List Mk→cd→ad→Prop) (Kx:Ex→List Mk→cd→ad→Prop) (ms:List Mk) (r:cd) (a:Act) (w:World) (Q:Exit→Act→World→Prop),
  jv P N c s (Kn ms) (fun e=>Kx e ms) r w.heap→Agree N r a→a.defers=ms.map nO→(∀H a w,¬Q (.panic H) a w)→
  (∀p q a' w',Agree N q a'→a'.defers=p.map nO→Tame w w'→Kn p q w'.heap→Q .normal a' w')→
  (∀i p q a' w',Agree N q a'→a'.defers=p.map nO→Tame w w'→Kx (.exit i) p q w'.heap→Q (.exit i) a' w')→
  (∀p q a' w',Agree N q a'→a'.defers=p.map nO→Tame w w'→Kx .ret p q w'.heap→Q .ret a' w')→
  c.wpIn (FW none) n P Q a w:=by
  intro c s Kn Kx ms r a w Q j u hd C z hx B;exact qZ G c s _ _ r a w Q j u C (fun q a' w' E A D=>z ms q a' w' E (A.defers.trans hd) A.tame D) (fun i q a' w' E A D=>hx i ms q a' w' E (A.defers.trans hd) A.tame D)
   (fun q a' w' E A D=>B ms q a' w' E (A.defers.trans hd) A.tame D)
 induction c with
 |skip=>intro s Kn Kx ms r a w Q j;exact plain _ s Kn Kx ms r a w Q j
 |region id ops dr=>
  intro s Kn Kx ms r a w Q j u hd C z hx B;have j:(match Dr ops.toList with
   |none=>jv P N (.region id ops dr) s (Kn ms) (fun e=>Kx e ms) r w.heap
   |some (_,_,x,d,f,as)=>bif dr then False else match cJ r x with
    |some v=>bif vY d N then(match l7 ((d,v)::r) as with|some vs=>Kn (.call f vs::ms) ((d,v)::r) w.heap|none=>False)else False
    |none=>False):=j
  split at j
  ·exact plain _ s Kn Kx ms r a w Q j u hd C z hx B
  ·rename_i m o x d f as he
   cases dr with
   |true=>exact j.elim
   |false=>
    rw[cond_false]at j;split at j
    · rename_i v hv
      cases hb:vY d N with
      |false=>rw[hb]at j;exact j.elim
      |true=>
       rw[hb,cond_true]at j;split at j
       ·rename_i vs hvs
        refine Dq he hv (by simpa using hb) hvs u fun a' S V=>z (.call f vs::ms) _ a' w S ?_ ⟨rfl,rfl,rfl⟩ j
        rw[V,hd];rfl
       ·exact j.elim
    · exact j.elim
 |seq x y ihx ihy=>
  intro s Kn Kx ms r a w Q j u hd C z hx B;have j:(bif (bif qo x then true else qo y)then xe P N x s.l (fun ms q h'=>xe P N y s.r Kn Kx ms q h') Kx ms r w.heap
   else jv P N (.seq x y) s (Kn ms) (fun e=>Kx e ms) r w.heap):=j
  cases hb:(bif qo x then true else qo y)with
  |false=>rw[hb]at j;exact plain _ _ _ _ _ _ _ _ _ j u hd C z hx B
  |true=>
   rw[hb,cond_true]at j;refine wpIn_seq (ihx s.l _ Kx ms r a w _ j u hd (fun H a w=>C H a w) ?_ hx B)
   intro O X Y Z L R I W;exact ihy s.r Kn Kx O X Y Z Q W L R C (fun p q a' w' E A D F=>z p q a' w' E A (I.trans D) F) (fun i p q a' w' E A D F=>hx i p q a' w' E A (I.trans D) F)
    (fun p q a' w' E A D F=>B p q a' w' E A (I.trans D) F)
 |cond c x y ihx ihy=>
  intro s Kn Kx ms r a w Q j u hd C z hx B;have j:(bif (bif qo x then true else qo y)then
    (match cJ r c with
     |some (.bool t)=>CondP t (xe P N x s.l Kn Kx ms r w.heap) (xe P N y s.r Kn Kx ms r w.heap)
     |_=>False)
   else jv P N (.cond c x y) s (Kn ms) (fun e=>Kx e ms) r w.heap):=j
  cases hb:(bif qo x then true else qo y)with
  |false=>rw[hb]at j;exact plain _ _ _ _ _ _ _ _ _ j u hd C z hx B
  |true=>
   rw[hb,cond_true]at j;split at j
   ·rename_i t J
    exact wpIn_cond_split (jb u J) (fun e=>ihx _ Kn Kx ms r a w Q (j.yes e) u hd C z hx B) (fun e=>ihy _ Kn Kx ms r a w Q (j.no e) u hd C z hx B)
   ·exact j.elim
 |block id b ih=>
  intro s Kn Kx ms r a w Q j u hd C z hx B;have j:(bif qo b then xe P N b s Kn (fun e ms q h'=>match e with
    | .exit i=>bif ax i id then Kn ms q h' else Kx (.exit i) ms q h'
    | .ret=>Kx .ret ms q h') ms r w.heap
   else jv P N (.block id b) s (Kn ms) (fun e=>Kx e ms) r w.heap):=j
  cases hb:qo b with
  |false=>rw[hb]at j;exact plain _ _ _ _ _ _ _ _ _ j u hd C z hx B
  |true=>
   rw[hb,cond_true]at j;refine wpIn_block (ih s Kn _ ms r a w _ j u hd (fun H a w=>C H a w) z (fun i p q a' w' E A D F=>?_) B)
   simp only[Exit.inBlock]at F⊢;cases hi:ax i id with
   |true=>
    rw[hi,cond_true]at F;rw[if_pos (aL hi)];exact z p q a' w' E A D F
   |false=>
    rw[hi,cond_false]at F;rw[if_neg (fun e=>by rw[e,qc]at hi;cases hi)]
    exact hx i p q a' w' E A D F
 |loop b ih=>intro s Kn Kx ms r a w Q j;exact plain _ s Kn Kx ms r a w Q j
 |rangeFunc g ps assign body _ _=>
  intro s Kn Kx ms r a w Q j u hd C z hx B;cases s with
  |rf ks aa ab=>
   have j:(bif xk N ps.toList&&ax ps.toList.length ks.length then
    (match cJ r g with
     |some fv=>RangeP P fv ks w.heap (fun EX bz x k h'=>Jz P N ps.toList ks assign body (.node aa ab) r (w.heap.size+1) EX bz x k h')
       (fun h'=>Kn (.it w.heap.size::ms) r h') (fun i h'=>Kx (.exit i) (.it w.heap.size::ms) r h') (fun h'=>Kx .ret (.it w.heap.size::ms) r h')
     |none=>False)else False):=j
   cases hb:(xk N ps.toList&&ax ps.toList.length ks.length)with
   |false=>rw[hb]at j;exact j.elim
   |true=>
    rw[hb,cond_true]at j;rw[aQ]at hb;split at j
    · rename_i fv hfv
      have T:Agree N r {a with defers:=CW w.heap.size::a.defers}:=⟨u.size,u.look⟩;have U:({a with defers:=CW w.heap.size::a.defers}:Act).defers=(.it w.heap.size::ms).map nO:=by rw[List.map_cons,←hd]
      exact BJ G hb.1 (aL hb.2) hfv u j (fun w' J K=>z _ r _ w' T U J K) (fun i w' J K=>hx i _ r _ w' T U J K) (fun w' J K=>B _ r _ w' T U J K)
    · exact j.elim
  |_=>exact j.elim
 |exit id=>intro s Kn Kx ms r a w Q j;exact plain _ s Kn Kx ms r a w Q j
 |scope b _=>intro s Kn Kx ms r a w Q j;exact j.elim
 |label l=>intro s Kn Kx ms r a w Q j;exact plain _ s Kn Kx ms r a w Q j
 |goto l=>intro s Kn Kx ms r a w Q j;exact j.elim
 |ret=>intro s Kn Kx ms r a w Q j;exact plain _ s Kn Kx ms r a w Q j
 |refuse why=>intro s Kn Kx ms r a w Q j;exact j.elim
theorem tw{fn:Func}{ks:List Kind}{K:rp ks→ad→Prop}{N:Nat}{n:Nat}{r:cd}{a:Act}{g:World}(c:Agree N r a):∀(ms:List Mk) (w:World),Tame g w→
  Hv P ms (fun h'=>lR P r h' fn.results.toList fun vs=>BP ks vs fun t=>K t h') w.heap→
  LeavesInM (FW none) n P fn a.tmps (fun e w'=>Tame g w'∧∃t:rp ks,e=.returned (yh ks (ki ks t))∧K t w'.heap) (ms.map nO) .returning w
 | [],w,ht,h=>by
  obtain⟨t,b,k⟩:=HB c h;exact⟨_,b,ht,t,rfl,k⟩
 | .it D::ms,w,ht,h=>by
  refine⟨by simp,.inl ⟨D,_,rfl,run_takeDeferred h.1,?_⟩⟩;exact tw c ms (w.putObj D (.deferred none)) (ht.trans (ml ..)) h.2
 | .call f vs::ms,w,ht,h=>by
  obtain⟨hc,hd⟩:=h w rfl;refine⟨by simp,.inr ⟨(fun e=>by cases e),.func f,#[],f,vs.toArray,rfl,?_,fun _ _=>trivial,CallsDIn.mono (hd (n-1)) fun e u w' ⟨m,d,⟨v,i⟩,j⟩=>?_⟩⟩
  ·have:=hc vs.toArray w
   simpa[invoke]using this
  ·subst m i
   exact tw c ms w' (ht.trans d) j
theorem HE.introM(m:P.follows .mixedOrders=true){f:FuncId}{fn:Func}{c:Code}{q:Ann}{args:List Value}{ks:List Kind}{K:rp ks→ad→Prop}{h:ad}
  (y:P.funcs[f]? =some fn) (s:fn.body=some c) (b:∀(args:Array Value) (w:World),(callFunc f args).run P w=.ok (.enter f args) w) (k:args.length≤fn.ntmps)
  (x:JA P fn c q args ks K h):HE P f args ks K h:=by
 refine⟨fun w v=>⟨b,?_⟩⟩
 subst v;refine(callsIn_wide (n:=0)).1 (callsIn_of_wp_marks (F:=FW none) y s trivial ?_ rfl);refine wpIn_mono (Q:=fun e a w'=>(∀p,e≠ .panic p)∧bodyPostM (FW none) 0 P fn (fun e w'=>Tame w w'∧∃t:rp ks,e=.returned (yh ks (ki ks t))∧K t w'.heap) e a w') ?_ fun e a w h=>h.2
 refine F0 m c q _ _ [] _ _ w _ x (KT k) rfl (fun p a w h=>h.1 p rfl) ?_ (fun _ _ _ _ _ _ _ _ h=>h.elim) ?_
 ·intro i u a' w' d j g o
  refine⟨(fun _ e=>by cases e),?_⟩
  show LeavesInM _ _ _ _ _ _ a'.defers _ _
  rw[j];exact tw d i w' g o
 ·intro i u a' w' d j g o
  refine⟨(fun _ e=>by cases e),?_⟩
  show LeavesInM _ _ _ _ _ _ a'.defers _ _
  rw[j];exact tw d i w' g o
theorem HC.introM(d:P.follows .mixedOrders=true){f:FuncId}{fn:Func}{c:Code}{g:Ann}{args:List Value}{ks:List Kind}{K:rp ks→ad→Prop}{h:ad}
 (i:P.funcs[f]? =some fn) (e:fn.body=some c) (a:∀(args:Array Value) (w:World),(callFunc f args).run P w=.ok (.enter f args) w) (b:args.length≤fn.ntmps)
 (j:JA P fn c g args ks K h):HC P f args ks K h:=(HE.introM d i e a b j).hc
end Go.Lift
namespace Go.Lift
open Go
def AppP(z:Option (List Value))(e b:Nat)(t:TypeId)(a:Option Addr)(sl d c:Nat)(xs:List Value)(h:ad)(K:SliceV→ad→Prop):Prop:=
 (sl+c≤d→sq h a (sl*e) xs∧bM xs=true∧K ⟨a,sl+c,d⟩ (ez h a (sl*e) xs))∧
 (d<sl+c→∃old z',SRow h a (sl*e) old∧z=some z'∧0<b∧Builtin.nextslicecap (sl+c) d*b≤2^48∧
  ∀nc,sl+c≤nc→K ⟨some (aR h),sl+c,nc⟩ (hnew h (old++xs++cL (nc-(sl+c)) z') t))
def Q2(a:Addr)(h:ad)(Kend:Prop)(Kstep:Nat→UInt8→ad→Prop):Prop:=
 a.off=0∧∃s pos,h[a.block]? =some (.stringIter s pos)∧
  ((s.size≤pos∧Kend)∨(∃b:UInt8,s[pos]? =some b∧b.toNat<128∧Kstep pos b (h.setIfInBounds a.block (.stringIter s (pos+1)))))
end Go.Lift
