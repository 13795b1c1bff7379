/- A part of the proof that the named laws of this program answer true, whatever the input. -/
import Derived.Test.YtceikogjngfacaaGreatLift1
import Derived.BigFrameIn
open Array renaming getD_eq_getD_getElem?→dM,getElem?_toList→bP,getElem?_setIfInBounds_ne→fi,replicate→ox,getElem?_eq_some_iff→cz,getElem?_eq_getElem→gw,getElem?_eq_none→lx,mapM_eq_mapM_toList→nI,ext'→dx
open Bool renaming eq_false_iff→my,and_true→vS,or_eq_true→iQ,and_eq_true→aO,not_eq_true'→iG,or_eq_false_iff→mW
open Go.Result renaming andThen_ok→aF
open Go.Sem renaming run_bind→bf,run_pure→cd
open List renaming mem_of_getElem?→ao,length_cons→av,mem_cons→ar,getElem?_cons_zero→cJ,getElem?_eq_getElem→ag,any_eq_true→dZ,getElem?_eq_some_iff→bv,mem_cons_of_mem→aA,mem_cons_self→aD,range→eR,filter_cons→fB,mem_singleton→aq,size_toArray→dD
open Nat renaming blt→Ae,beq→aM,eq_of_beq_eq_true→bG,land→ki,lor→dC,testBit_and→lS,succ→fW,zero_add→bK,beq_refl→sR,lt_or_ge→dB,pred→zG,sub_zero→ec
open Option renaming some→bX
namespace Go.Lift
open Go
variable {P:Program} {ro:Option Nat} {n:Nat}
def FW(ro:Option Nat):Fence:={fn:=fun _=>True,depth:=none,alive:=false,round:=ro}
theorem SU(m:Machine):m.fenced P (FW ro):=by
 intro g _;exact⟨fun h=>by simp[FW]at h,.inl trivial,fun _ _=>trivial,fun d h=>by simp[FW]at h⟩
theorem AW{m b:Machine}(h:Steps P m b):StepsIn (Machine.fenced P (FW ro)) P m b:=(StepsIn.of_steps h).mono fun m _=>SU m
theorem Hy{k:Nat}{f:FuncId}{args:Array Value}{w:World}{R:Ending→World→Prop}(h:Calls P f args w R):CallsIn (FW ro) k P f args w R:=by
 refine⟨trivial,fun cs _=>?_⟩
 obtain⟨e,w',fr,d,hc,b,g⟩:=h cs;refine⟨e,w',fr,d,?_,b,g⟩;cases e with
 |returned v=>exact AW hc
 |panicked c=>exact AW hc
 |outgrown=>exact hc
theorem qF{o:Oper}{a:Act}{w:World}{K:WK}{next:Act→World→Prop}{Q:Exit→Act→World→Prop}(hd:∀c,o.op≠ .defer c)(h:Oc P (execOp a.eval o) K w)
  (j:∀v w',Tame w w'→K v w'.heap→next (a.put o.dst v) w'):o.wpIn (FW ro) n P a w next Q:=by
 refine⟨fun _ _=>trivial,?_⟩
 rw[Oper.semAt_eq _ _ _ hd];rcases h with⟨v,w',d,g,i⟩|⟨w',d,g,i⟩|⟨f,args,d,hc⟩|⟨l,fn,tmps,assign,body,d,hc⟩
 ·rw[d];exact j v w' g i
 ·rw[d];exact j undef w' g i
 ·rw[d]
  refine⟨fun h=>by simp[FW]at h,Hy (hc.mono ?_)⟩
  rintro e w' ⟨g,v,rfl,i⟩;exact j v w' g i
 ·rw[d]
  refine⟨fun h=>by simp[FW]at h,trivial,fun c cs _=>?_⟩
  obtain⟨b,w',g,i,m⟩:=hc c cs;exact⟨.returned (.bool b),w',j _ w' g i,AW m⟩
theorem uI{N:Nat}{o:Oper}{v:Value}{r:cY}{K:cY→Prop}{a:Act}{d:wV}{dv:DV}(h:Bk N o v r K)(c:Agree N r a)(hd:DecOk d r)(hv:Jo dv v):
  ∃r',K r'∧Agree N r' (a.put o.dst v)∧DecOk (sK d o dv) r':=by
 unfold Bk at h;unfold sK;cases ho:o.dst with
 |none=>rw[ho]at h;exact⟨r,h,c,hd⟩
 |some t=>
  rw[ho]at h;simp only at h;cases hb:Ae t N with
  |false=>rw[hb]at h;exact h.elim
  |true=>
   rw[hb]at h;have b:t<N:=by simpa using hb
   refine⟨_,h,c.put t v b,fun s=>?_⟩
   by_cases e:t=s
   ·subst e
    have:rW ((t,dv)::d) t=dv:=by simp[rW]
    rw[this];exact .inr ⟨v,jh t v r,hv⟩
   ·have g:rW ((t,dv)::d) s=rW d s:=by
     have:aM t s=false:=my.2 fun f=>e (bG f)
     show(bif aM t s then dv else rW d s)=_
     rw[this];rfl
    rw[g,ia v r e];exact hd s
theorem EG{ek:Option (Kind×Kind)}{o:Op}{r:cY}{K:RK}{h:ae}(b:Dp P ek o r K h):∀c,o≠ .defer c:=by
 intro c e;subst e;exact b
theorem yp{o:Oper}{r:cY}{K:WK}{h:ae}(b:Iu P o r K h):∀c,o.op≠ .defer c:=by
 intro c e;unfold Iu at b;rw[e]at b;exact b
theorem aae{d:wV}{o:Op}(h:xO P o=false):MA d o=.x:=by
 cases o<;>first|rfl|(simp[xO]at h)
theorem R0{N:Nat}{ek:Option (Kind×Kind)}{o:Oper}{r:cY}{K:cY→ae→Prop}{a:Act}{w:World}{d:wV}{next:Act→World→Prop}{Q:Exit→Act→World→Prop}
  (g:Zg P N ek o r K w.heap)(i:Agree N r a)(hd:DecOk d r)
  (q:∀v w' e,Tame w w'→K e w'.heap→Agree N e (a.put o.dst v)→DecOk (sK d o (MA d o.op)) e→next (a.put o.dst v) w'):o.wpIn (FW ro) n P a w next Q:=by
 unfold Zg at g;cases hq:xO P o.op with
 |true=>
  rw[hq,cond_true]at g;obtain⟨v,S,p,x,j,z⟩:=DJ i g d hd;refine qF (K:=fun u s=>u=v∧s=w.heap) (EG g) (.inl ⟨v,w,z w x,Tame.refl w,rfl,rfl⟩) ?_
  rintro u w' m ⟨rfl,y⟩;obtain⟨e,c,f,b⟩:=uI p i hd j;exact q u w' e m (by rw[y];exact c) f b
 |false=>
  rw[hq,cond_false]at g;refine qF (yp g) (Dt i g) ?_;intro v w' m p;obtain⟨e,c,f,b⟩:=uI p i hd (dv:=MA d o.op) (by rw[aae hq];trivial);exact q v w' e m c f b
theorem Kl{t:Array Value}{i:Nat}{b:Bool}(h:t.getD i undef=.bool b):t[i]? =some (.bool b):=by
 rw[dM]at h;cases hc:t[i]? with
 |none=>rw[hc]at h;simp[undef]at h
 |some v=>rw[hc]at h;simp at h;rw[h]
theorem PY{t:Array Value}{i:Nat}(h:t.getD i undef=undef):t[i]? =none∨t[i]? =some undef:=by
 rw[dM]at h;cases hc:t[i]? with
 |none=>exact .inl rfl
 |some v=>rw[hc]at h;simp at h;rw[h];exact .inr rfl
theorem nP{N:Nat}{ops:Array Oper}{d:wV}{o:Oper}{b:Bool}{r:cY}{a:Act}(h:jE ops.toList d o=some b)(n:Agree N r a)(hd:DecOk d r):
  Region.wanted o (yielded ops a.tmps)=b:=by
 unfold jE at h;unfold Region.wanted;cases hg:o.guard with
 |none=>rw[hg]at h;simp only[bX.injEq]at h;exact h
 |some g=>
  obtain⟨j,c⟩:=g;rw[hg]at h;simp only[bP]at h;simp only;cases hj:ops[j]? with
  |none=>rw[hj]at h;cases h
  |some oj=>
   rw[hj]at h;simp only at h;cases ht:oj.dst with
   |none=>rw[ht]at h;cases h
   |some t=>
    rw[ht]at h;simp only at h;have p:yielded ops a.tmps j=(match a.tmps[t]? with|some (.bool b)=>some b|_=>none):=by
     unfold yielded;simp[hj,ht];rfl
    rw[p];rcases hd t with hx|⟨v,hv,m⟩
    ·rw[hx]at h;cases h
    ·have i:=n.look t v hv
     cases hdl:rW d t with
     |x=>rw[hdl]at h;cases h
     |t=>
      rw[hdl]at h m;simp only[bX.injEq]at h;subst h;have:v=.bool true:=m;subst this;rw[Kl i];cases c<;>rfl
     |f=>
      rw[hdl]at h m;simp only[bX.injEq]at h;subst h;have:v=.bool false:=m;subst this;rw[Kl i];cases c<;>rfl
     |u=>
      rw[hdl]at h m;simp only[bX.injEq]at h;subst h;have:v=undef:=m;subst this;rcases PY i with e|e<;>rw[e]<;>cases c<;>rfl
structure Fr(W:Nat→Prop)(a0:Act)(w0:World)(a:Act)(w:World):Prop where
 tame:Tame w0 w
 defers:a.defers=a0.defers
 same:∀t,¬W t→a.tmps.getD t undef=a0.tmps.getD t undef
theorem Fr.refl(W:Nat→Prop)(a:Act)(w:World):Fr W a w a w:=⟨Tame.refl w,rfl,fun _ _=>rfl⟩
theorem Fr.put{W:Nat→Prop}{g a:Act}{f w w':World}(h:Fr W g f a w){o:Oper}(i:∀d,o.dst=some d→W d)(v:Value)(j:Tame w w'):Fr W g f (a.put o.dst v) w':=by
 refine⟨h.tame.trans j,?_,fun t c=>?_⟩
 ·cases ho:o.dst<;>simp[Act.put,h.defers]
 ·cases ho:o.dst with
  |none=>exact h.same t c
  |some d=>
   have b:d≠t:=fun e=>c (e▸i d ho)
   rw[←h.same t c];simp[Act.put,fi b]
theorem Fr.trans{W:Nat→Prop}{f b g:Act}{c e d:World}(h:Fr W f c b e)(k:Fr W b e g d):Fr W f c g d:=
 ⟨h.tame.trans k.tame,k.defers.trans h.defers,fun t i=>(k.same t i).trans (h.same t i)⟩
theorem Fr.mono{W W':Nat→Prop}{b a:Act}{c w:World}(h:Fr W b c a w)(f:∀t,W t→W' t):Fr W' b c a w:=
 ⟨h.tame,h.defers,fun t d=>h.same t fun e=>d (f t e)⟩
theorem DecOk.known{d:wV}{r:cY}(h:DecOk d r){t:Nat}{dv:DV}{v:Value}(hv:Jo dv v):DecOk ((t,dv)::d) ((t,v)::r):=fun s=>by
 by_cases e:t=s
 ·subst e
  have:rW ((t,dv)::d) t=dv:=by simp[rW]
  rw[this];exact .inr ⟨v,jh t v r,hv⟩
 ·have c:rW ((t,dv)::d) s=rW d s:=by
   have:aM t s=false:=my.2 fun b=>e (bG b)
   show(bif aM t s then dv else rW d s)=_
   rw[this];rfl
  rw[c,ia v r e];exact h s
theorem Gb{N:Nat}{ek:Option (Kind×Kind)}{ops:Array Oper}{o:Oper}{i:Nat}{d:wV}{r:cY}{a:Act}{w:World}{b:Bool}{K:wV→cY→ae→Prop}{next:Act→World→Prop}{Q:Exit→Act→World→Prop}
  (hi:ops[i]? =some o) (q:jE ops.toList d o=some b) (j:Agree N r a) (hd:DecOk d r)
  (p:match b with
   |true=>Zg P N ek o r (K (sK d o (MA d o.op))) w.heap
   |false=>Bk N o undef r fun c=>K (sK d o .u) c w.heap)
  (m:∀v w' d' c,Tame w w'→K d' c w'.heap→Agree N c (a.put o.dst v)→DecOk d' c→next (a.put o.dst v) w'):
  wpOpIn (FW ro) n P ops Q i next a w:=by
 unfold wpOpIn;rw[hi];simp only[nP q j hd];cases b with
 |true=>exact R0 p j hd fun v w' c s u f e=>m v w' _ c s u f e
 |false=>
  obtain⟨c,g,f,e⟩:=uI (dv:=.u) p j hd rfl;exact⟨fun _ _=>trivial,m undef w _ c (Tame.refl w) g f e⟩
theorem RZ{N:Nat}{ek:Option (Kind×Kind)}{ops:List Oper}{o:Oper}{os:List Oper}{d:wV}{K:cY→ae→Prop}{r:cY}{h:ae}:Gu P N ek ops (o::os) d K r h=
 (match jE ops d o with
 |some true=>Zg P N ek o r (fun c e=>Gu P N ek ops os (sK d o (MA d o.op)) K c e) h
 |some false=>Bk N o undef r fun c=>Gu P N ek ops os (sK d o .u) K c h
 |none=>match He ops o with
  |none=>False
  |some t=>match kU r t with
   |some (.bool b)=>CondP b
    (JF P N ek ops o ((t,.t)::d) ((t,.bool true)::r) h fun f c e=>Gu P N ek ops os f K c e)
    (JF P N ek ops o ((t,.f)::d) ((t,.bool false)::r) h fun f c e=>Gu P N ek ops os f K c e)
   |_=>False):=rfl
theorem Jz{N:Nat}{ek:Option (Kind×Kind)}{ops:Array Oper}{o:Oper}{i:Nat}{d:wV}{r:cY}{a:Act}{w:World}{K:wV→cY→ae→Prop}{next:Act→World→Prop}{Q:Exit→Act→World→Prop}
  (hi:ops[i]? =some o) (e:Agree N r a) (hd:DecOk d r) (c:JF P N ek ops.toList o d r w.heap K)
  (f:∀v w' d' r',Tame w w'→K d' r' w'.heap→Agree N r' (a.put o.dst v)→DecOk d' r'→next (a.put o.dst v) w'):
  wpOpIn (FW ro) n P ops Q i next a w:=by
 unfold JF at c;cases hw:jE ops.toList d o with
 |none=>rw[hw]at c;exact c.elim
 |some b=>rw[hw]at c;exact Gb (ek:=ek) hi hw e hd (by cases b<;>exact c) f
theorem Gt{N:Nat}{ek:Option (Kind×Kind)}{ops:Array Oper}{W:Nat→Prop}(u:∀o∈ops.toList,∀d,o.dst=some d→W d){s:Act}{p:World}{K:cY→ae→Prop}{Q:Exit→Act→World→Prop}
  (q:∀r a w,Agree N r a→Fr W s p a w→K r w.heap→Q .normal a w):
  ∀(l:List Oper) (i:Nat),ops.toList.drop i=l→∀(d:wV) (r:cY) (a:Act) (w:World),Gu P N ek ops.toList l d K r w.heap→Agree N r a→DecOk d r→Fr W s p a w→
   wpOpsIn (FW ro) n P ops Q (List.range' i l.length) a w
 | [],i,_,d,r,a,w,hs,ha,hd,hf=>q r a w ha hf hs
 |o::os,i,hdr,d,r,a,w,hs,ha,hd,hf=>by
  have hi:ops[i]? =some o:=by
   rw[←bP];have:(ops.toList.drop i)[0]? =some o:=by rw[hdr];rfl
   simpa using this
  have g:o∈ops.toList:=ao (by rw[bP];exact hi);have f:ops.toList.drop (i+1)=os:=by rw[←List.tail_drop,hdr];rfl
  rw[av,List.range'_succ,wpOpsIn_cons];rw[RZ]at hs;have go:∀v w' e c,Tame w w'→Gu P N ek ops.toList os e K c w'.heap→Agree N c (a.put o.dst v)→DecOk e c→wpOpsIn (FW ro) n P ops Q (List.range' (i+1) os.length) (a.put o.dst v) w':=
   fun v w' e c x z m j=>Gt u q os (i+1) f e c _ w' z m j (hf.put (u o g) v x)
  cases hw:jE ops.toList d o with
  |some b=>
   rw[hw]at hs;exact Gb (ek:=ek) (K:=fun e c y=>Gu P N ek ops.toList os e K c y) hi hw ha hd (by cases b<;>exact hs) go
  |none=>
   rw[hw]at hs;simp only at hs;split at hs
   ·exact hs.elim
   ·rename_i t x
    split at hs
    ·rename_i b hb
     cases b with
     |true=>exact Jz hi (ha.known hb) (hd.known (dv:=.t) rfl) (hs.yes rfl) go
     |false=>exact Jz hi (ha.known hb) (hd.known (dv:=.f) rfl) (hs.no rfl) go
    ·exact hs.elim
end Go.Lift
namespace Go.Lift
open Go
theorem B0(m i:Nat):tb m i=m.testBit i:=by
 have h:ki (Nat.shiftRight m i) 1=(m>>>i)&&&1:=rfl;unfold tb;rw[h,Nat.testBit_eq_decide_div_mod_eq,Nat.and_one_is_mod,Nat.shiftRight_eq_div_pow];cases hm:decide (m/2^i%2=1)with
 |true=>rw[of_decide_eq_true hm];rfl
 |false=>
  have h2:=of_decide_eq_false hm;have:m/2^i%2=0:=by omega
  rw[this];rfl
theorem oD(a b i:Nat):(dC a b).testBit i=(a.testBit i||b.testBit i):=Nat.testBit_or a b i
theorem Bp(i j:Nat):(gY i).testBit j=decide (i=j):=Nat.testBit_two_pow
theorem D7{a b:Nat}(h:aM (ki a b) 0=true)(t:Nat)(d:a.testBit t=true)(c:b.testBit t=true):False:=by
 have e:=bG h;have:(ki a b).testBit t=(a.testBit t&&b.testBit t):=lS a b t;rw[e,d,c]at this;simp at this
theorem Xu{a b:Nat}(h:aM (ki a b) a=true)(t:Nat)(d:a.testBit t=true):b.testBit t=true:=by
 have c:=bG h;have:(ki a b).testBit t=(a.testBit t&&b.testBit t):=lS a b t;rw[c,d]at this;simpa using this.symm
theorem Aw(i:Nat):∀l:List Edge,(ng l).testBit i=l.any fun e=>aM e.on i&&Region.binds .any e
 | []=>Nat.zero_testBit i
 |e::l=>by
  have c:=Aw i l;have hc:ng (e::l)=bif Region.binds .any e then dC (gY e.on) (ng l)else ng l:=rfl;rw[hc,List.any_cons,←c];cases hb:Region.binds .any e with
  |true=>
   rw[cond_true,oD,Bp,vS];congr 1
   cases hd:aM e.on i with
   |true=>simpa using bG hd
   |false=>rw[decide_eq_false_iff_not];intro b;rw[b]at hd;simp at hd
  |false=>simp
theorem CO(o:Oper)(i:Nat):(ng o.after.toList).testBit i=jG o i:=Aw i o.after.toList
theorem BZ(t:Nat):∀l:List Operand,(mB l).testBit t=true↔Operand.tmp t∈l
 | []=>by simp[show mB []=0 from rfl]
 |o::l=>by
  have b:=BZ t l;cases o with
  |tmp u=>
   have hc:mB (.tmp u::l)=dC (gY u) (mB l):=rfl;rw[hc,oD,Bp,iQ,b,ar];simp[eq_comm]
  |const v=>
   have hc:mB (.const v::l)=mB l:=rfl;rw[hc,b,ar];simp
  |global v=>
   have hc:mB (.global v::l)=mB l:=rfl;rw[hc,b,ar];simp
  |func v=>
   have hc:mB (.func v::l)=mB l:=rfl;rw[hc,b,ar];simp
theorem yR(o:Oper)(t:Nat):(ot o).testBit t=true↔o.dst=some t:=by
 unfold ot;cases o.dst with
 |none=>simp
 |some d=>simp[Bp]
theorem IG(ops:Array Oper)(o:Oper)(t:Nat):(oN ops.toList o).testBit t=true↔t∈o.looksAt ops:=by
 unfold oN Oper.looksAt;rw[oD,iQ,BZ,List.mem_append,List.mem_filterMap];refine or_congr ⟨fun h=>⟨_,h,rfl⟩,?_⟩ ?_
 ·rintro⟨x,hx,c⟩
  cases x<;>simp at c
  subst c;exact hx
 ·cases hg:o.guard with
  |none=>simp
  |some g=>
   obtain⟨j,b⟩:=g;simp only[bP];cases hj:ops[j]? with
   |none=>simp
   |some oj=>simp[yR]
variable {P:Program} {ro:Option Nat} {n:Nat} {ops:Array Oper} {Q:Exit→Act→World→Prop}
structure MsOk(ops:Array Oper)(ms:List DM):Prop where
 am:∀(i:Nat) (o:Oper) (m:DM),ops[i]? =some o→ms[i]? =some m→∀j,m.am.testBit j=jG o j
 lk:∀(i:Nat) (o:Oper) (m:DM),ops[i]? =some o→ms[i]? =some m→∀t,m.lk.testBit t=true↔t∈o.looksAt ops
 ds:∀(i:Nat) (o:Oper) (m:DM),ops[i]? =some o→ms[i]? =some m→∀t,m.ds.testBit t=true↔o.dst=some t
 len:ms.length=ops.size
 free:∀(i j:Nat) (m k:DM),ms[i]? =some m→ms[j]? =some k→m.fr.testBit j=true→j=i∨k.am.testBit i=true∨D8 m k=true
 nosel:∀(i:Nat) (o:Oper),ops[i]? =some o→(∀cs b,o.op≠ .select cs b)∧(∀c,o.op≠ .defer c)
theorem Cv(ops:List Oper):∀(l:List Oper) (ms:List DM),yE ops l ms=true→ms.length=l.length∧∀(i:Nat) (o:Oper) (m:DM),l[i]? =some o→ms[i]? =some m→
  m.am=ng o.after.toList∧m.lk=oN ops o∧m.ds=ot o
 | [],[],_=>⟨rfl,fun i o m h=>by simp at h⟩
 | [],_::_,h=>by cases h
 |o::l,[],h=>by cases h
 |o::l,m::ms,h=>by
  have hc:yE ops (o::l) (m::ms)=(aM (ng o.after.toList) m.am&&aM (oN ops o) m.lk&&aM (ot o) m.ds&&yE ops l ms):=rfl;rw[hc]at h;simp only[aO]at h;obtain⟨⟨⟨g,h2⟩,d⟩,f⟩:=h;obtain⟨n,c⟩:=Cv ops l ms f;refine⟨by simp[n],fun i e j b hm=>?_⟩
  cases i with
  |zero=>
   simp only[cJ,bX.injEq]at b hm;subst b;subst hm;exact⟨(bG g).symm,(bG h2).symm,(bG d).symm⟩
  |succ i=>exact c i e j (by simpa using b) (by simpa using hm)
theorem Ko(i:Nat)(m:DM):∀(l:List DM) (j0:Nat),Kp i m l j0=true→∀(j:Nat) (k:DM),l[j]? =some k→m.fr.testBit (j0+j)=true→j0+j=i∨k.am.testBit i=true∨D8 m k=true
 | [],j0,_,j,k,hk,_=>by simp at hk
 |x::l,j0,h,j,k,hk,hb=>by
  have hc:Kp i m (x::l) j0=((!(tb m.fr j0)||aM j0 i||tb x.am i||D8 m x)&&Kp i m l (fW j0)):=rfl
  rw[hc]at h;simp only[aO,iQ,iG,B0]at h;cases j with
  |zero=>
   simp only[cJ,bX.injEq]at hk;subst hk;simp only[Nat.add_zero]at hb⊢;rcases h.1 with((b|b)|b)|b
   ·rw[b]at hb;cases hb
   ·exact .inl (bG b)
   ·exact .inr (.inl b)
   ·exact .inr (.inr b)
  |succ j=>
   have:=Ko i m l (j0+1) h.2 j k (by simpa using hk) (by rw[show j0+1+j=j0+(j+1) by omega];exact hb)
   rw[show j0+1+j=j0+(j+1) by omega]at this
   exact this
theorem ES(b:List DM):∀(l:List DM) (i0:Nat),CA b l i0=true→∀(i:Nat) (m:DM),l[i]? =some m→Kp (i0+i) m b 0=true
 | [],i0,_,i,m,hm=>by simp at hm
 |x::l,i0,h,i,m,hm=>by
  have hc:CA b (x::l) i0=(Kp i0 x b 0&&CA b l (fW i0)):=rfl;rw[hc,aO]at h;cases i with
  |zero=>simp only[cJ,bX.injEq]at hm;subst hm;exact h.1
  |succ i=>
   have:=ES b l (i0+1) h.2 i m (by simpa using hm);rw[show i0+1+i=i0+(i+1) by omega]at this
   exact this
theorem JY:∀(l:List Oper),Nn l=true→∀o∈l,(∀cs b,o.op≠ .select cs b)∧(∀c,o.op≠ .defer c)
 | [],_,o,d=>by cases d
 |x::l,h,o,d=>by
  simp only[Nn,aO]at h;rcases ar.1 d with rfl|d
  ·refine⟨fun cs b e=>?_,fun c e=>?_⟩
   ·rw[e]at h;cases h.1
   ·rw[e]at h;cases h.1
  ·exact JY l h.2 o d
theorem PH{ms:List DM}(h:F0 ops.toList ms=true):MsOk ops ms:=by
 have hc:F0 ops.toList ms=(yE ops.toList ops.toList ms&&CA ms ms 0&&Nn ops.toList):=rfl;rw[hc]at h;simp only[aO]at h;obtain⟨⟨f,h2⟩,d⟩:=h;obtain⟨g,c⟩:=Cv ops.toList ops.toList ms f;refine⟨fun i o m b hm j=>?_,fun i o m b hm t=>?_,fun i o m b hm t=>?_,by simpa using g,fun i j m k hm e n=>?_,fun i o b=>?_⟩
 ·rw[(c i o m (by simpa using b) hm).1,CO]
 ·rw[(c i o m (by simpa using b) hm).2.1,IG]
 ·rw[(c i o m (by simpa using b) hm).2.2,yR]
 ·have:=ES ms ms 0 h2 i m hm
  rw[bK]at this;have:=Ko i m ms 0 this j k e (by rwa [bK]);rwa [bK]at this
 ·exact JY _ d o (ao (by rw[bP];exact b))
theorem VK{ms:List DM}(hm:MsOk ops ms){i j:Nat}{b f:Oper}{m g:DM}(hi:ops[i]? =some b) (n:ops[j]? =some f) (c:ms[i]? =some m) (e:ms[j]? =some g) (h:D8 m g=true):
  (∀d,b.dst=some d→d∉f.looksAt ops)∧(∀d,b.dst=some d→f.dst≠some d)∧(∀d,f.dst=some d→d∉b.looksAt ops):=by
 unfold D8 at h;rw[aO]at h;refine⟨fun d hd o=>?_,fun d hd p=>?_,fun d hd o=>?_⟩
 ·exact D7 h.1 d ((hm.ds i b m hi c d).2 hd) (by rw[oD,(hm.lk j f g n e d).2 o,Bool.true_or])
 ·exact D7 h.1 d ((hm.ds i b m hi c d).2 hd) (by rw[oD,(hm.ds j f g n e d).2 p,Bool.or_true])
 ·exact D7 h.2 d ((hm.ds j f g n e d).2 hd) ((hm.lk i b m hi c d).2 o)
structure LsRel(ops:Array Oper)(ls:Nat)(listed:Array Bool):Prop where
 size:listed.size=ops.size
 bit:∀j,listed.getD j false=ls.testBit j
theorem LsRel.start:LsRel ops 0 (ox ops.size false):=⟨by simp,fun j=>by
 rw[Nat.zero_testBit,dM]
 by_cases h:j<ops.size<;>simp[h]⟩
theorem LsRel.put{ls:Nat}{listed:Array Bool}(h:LsRel ops ls listed){i:Nat}(hi:i<ops.size):LsRel ops (dC ls (gY i)) (listed.setIfInBounds i true):=by
 refine⟨by simp[h.size],fun j=>?_⟩
 rw[oD,Bp,←h.bit];by_cases e:i=j
 ·subst e;simp[h.size,hi]
 ·simp[e,fi e]
theorem LsRel.unlisted{ls:Nat}{listed:Array Bool}(h:LsRel ops ls listed){i:Nat}(hi:i<ops.size):listed.getD i true=ls.testBit i:=by
 rw[←h.bit];have:i<listed.size:=by rw[h.size];exact hi
 simp[this]
theorem JM{ms:List DM}(hm:MsOk ops ms){ls:Nat}{listed:Array Bool}(h:LsRel ops ls listed){j:Nat}:j∈Region.ready .any ops listed↔∃m,ms[j]? =some m∧ls.testBit j=false∧Mz m ls=true:=by
 rw[mem_ready];constructor
 ·rintro⟨p,o,q,d⟩
  have b:j<ops.size:=(cz.1 q).1;have i:j<ms.length:=by rw[hm.len];exact b
  refine⟨ms[j],ag i,by rw[←h.unlisted b];exact p,?_⟩
  unfold Mz;have:ki (ms[j]).am ls=(ms[j]).am:=by
   apply Nat.eq_of_testBit_eq;intro t;have c:(ki (ms[j]).am ls).testBit t=((ms[j]).am.testBit t&&ls.testBit t):=lS _ _ t;rw[c];cases ht:(ms[j]).am.testBit t with
   |false=>rfl
   |true=>
    rw[hm.am j o _ q (ag i)]at ht;unfold jG at ht;obtain⟨e,n,f⟩:=dZ.1 ht;simp only[aO]at f;have:=d e (by simpa using n) f.2;rw[bG f.1,h.bit]at this;rw[this];rfl
  rw[this];exact sR _
 ·rintro⟨m,g,p,s⟩
  have b:j<ops.size:=by rw[←hm.len];exact(bv.1 g).1
  refine⟨by rw[h.unlisted b];exact p,ops[j],gw b,fun e n f=>?_⟩
  rw[h.bit];refine Xu s e.on ?_;rw[hm.am j _ m (gw b) g];unfold jG;exact dZ.2 ⟨e,by simpa using n,by simp[f]⟩
theorem tp(ls:Nat):∀(l:List DM) (j0 j:Nat),j∈mE ls l j0↔∃k m,l[k]? =some m∧j=j0+k∧ls.testBit j=false∧Mz m ls=true
 | [],j0,j=>by simp[show mE ls [] j0= []from rfl]
 |m::l,j0,j=>by
  have hc:mE ls (m::l) j0=bif !(tb ls j0)&&Mz m ls then j0::mE ls l (fW j0)else mE ls l (fW j0):=rfl;have e:=tp ls l (j0+1) j;rw[hc,B0];have step:(∃k c,(m::l)[k]? =some c∧j=j0+k∧ls.testBit j=false∧Mz c ls=true)↔(j=j0∧ls.testBit j0=false∧Mz m ls=true)∨j∈mE ls l (j0+1):=by
   rw[e];constructor
   ·rintro⟨k,c,d,rfl,b,h2⟩
    cases k with
    |zero=>simp only[cJ,bX.injEq]at d;subst d;exact .inl ⟨rfl,b,h2⟩
    |succ k=>exact .inr ⟨k,c,by simpa using d,by omega,b,h2⟩
   ·rintro(⟨rfl,b,h2⟩|⟨k,c,d,rfl,b,h2⟩)
    ·exact⟨0,m,rfl,rfl,b,h2⟩
    ·exact⟨k+1,c,by simpa using d,by omega,b,h2⟩
  rw[step];cases hb:(!(ls.testBit j0)&&Mz m ls)with
  |true=>
   simp only[aO,iG]at hb;rw[cond_true,ar];simp[hb.1,hb.2]
  |false=>
   rw[cond_false];constructor
   ·exact .inr
   ·rintro(⟨_,b,h2⟩|h)
    ·rw[b,h2]at hb;cases hb
    ·exact h
theorem mZ{ms:List DM}(hm:MsOk ops ms){ls:Nat}{listed:Array Bool}(h:LsRel ops ls listed){j:Nat}:j∈Region.ready .any ops listed↔j∈mE ls ms 0:=by
 rw[JM hm h,tp];constructor
 ·rintro⟨m,c,h2,b⟩;exact⟨j,m,c,by omega,h2,b⟩
 ·rintro⟨k,m,c,rfl,h2,b⟩;exact⟨m,by simpa using c,h2,b⟩
theorem zU:∀{a b:List Nat},xm a b=true→a=b
 | [],[],_=>rfl
 | [],_::_,h=>by cases h
 |_::_,[],h=>by cases h
 |a::as,b::bs,h=>by
  simp only[xm,aO]at h;rw[bG h.1,zU h.2]
end Go.Lift
namespace Go.Lift
open Go
variable {P:Program} {ro:Option Nat} {n:Nat} {ops:Array Oper} {Q:Exit→Act→World→Prop}
theorem BW{m:Nat}{p:Nat→Bool}(hm:∀j,m.testBit j=true→p j=true):∀(l:List DM) (j0:Nat),(∀j x,l[j]? =some x→p (j0+j)=true→∀k,x.am.testBit k=true→p k=true)→∀k,(Tv m l j0).testBit k=true→p k=true
 | [],_,_,k,h=>hm k h
 |x::l,j0,hl,k,h=>by
  have hc:Tv m (x::l) j0=bif tb m j0 then dC x.am (Tv m l (fW j0))else Tv m l (fW j0):=rfl;have b:=BW hm l (j0+1) (fun j y d c=>hl (j+1) y (by simpa using d) (by rw[show j0+(j+1)=j0+1+j by omega];exact c)) k
  rw[hc,B0]at h;cases hb:m.testBit j0 with
  |true=>
   rw[hb,cond_true,oD,iQ]at h;rcases h with h|h
   ·exact hl 0 x rfl (hm _ hb) k h
   ·exact b h
  |false=>
   rw[hb,cond_false]at h;exact b h
theorem BV{m k:Nat}(h:m.testBit k=true):∀(l:List DM) (j0:Nat),(Tv m l j0).testBit k=true
 | [],_=>h
 |x::l,j0=>by
  have hc:Tv m (x::l) j0=bif tb m j0 then dC x.am (Tv m l (fW j0))else Tv m l (fW j0):=rfl;have b:=BV h l (j0+1);rw[hc];cases tb m j0 with
  |true=>rw[cond_true,oD,iQ];exact .inr b
  |false=>exact b
def Shut(ms:List DM)(listed:Array Bool):Prop:=∀j x,ms[j]? =some x→listed.getD j false=true→∀k,x.am.testBit k=true→listed.getD k false=true
theorem S5{ms:List DM}{listed:Array Bool}(d:Shut ms listed){m:Nat}(hm:∀j,m.testBit j=true→listed.getD j false=true){k:Nat}(h:(CF ms m).testBit k=true):listed.getD k false=true:=by
 have b:∀j x,ms[j]? =some x→(fun k=>listed.getD k false) (0+j)=true→∀k,x.am.testBit k=true→(fun k=>listed.getD k false) k=true:=fun j x hx c=>d j x hx (by rw[bK]at c;exact c)
 unfold CF at h;exact BW (p:=fun k=>listed.getD k false) (BW (BW (BW hm ms 0 b) ms 0 b) ms 0 b) ms 0 b k h
theorem Kv{ms:List DM}{m k:Nat}(h:m.testBit k=true):(CF ms m).testBit k=true:=by
 unfold CF;exact BV (BV (BV (BV h ms 0) ms 0) ms 0) ms 0
noncomputable abbrev rel(ms:List DM)(i:Nat)(L:ry):ry:=Cb (CF ms (L5 ms i)) L
theorem kJ{m:Nat}{x:Nat×(ae→Prop)}:∀{L:ry},x∈Cb m L↔x∈L∧tb m x.1=false
 | []=>by simp[Cb]
 |(k,S)::L=>by
  have b:=kJ (m:=m) (x:=x) (L:=L);simp only[Cb];cases hk:tb m k with
  |true=>
   rw[cond_true,b,ar];constructor
   ·exact fun h=>⟨.inr h.1,h.2⟩
   ·rintro⟨h|h,h2⟩
    ·subst h;rw[hk]at h2;cases h2
    ·exact⟨h,h2⟩
  |false=>
   rw[cond_false,ar,b,ar];constructor
   ·rintro(h|h)
    ·subst h;exact⟨.inl rfl,hk⟩
    ·exact⟨.inr h.1,h.2⟩
   ·rintro⟨h|h,h2⟩
    ·exact .inl h
    ·exact .inr ⟨h,h2⟩
def TA(ms:List DM)(ro:Option Nat)(n:Nat)(P:Program)(ops:Array Oper)(Q:Exit→Act→World→Prop):Nat→ry→Array Bool→Act→World→Prop
 |0,_,listed,a,w=>Region.ready .any ops listed= []∧Q .normal a w
 |f+1,L,listed,a,w=>(Region.ready .any ops listed= []→Q .normal a w)∧
  ∀i∈Region.ready .any ops listed,∀o,ops[i]? =some o→
   wpOpIn (FW ro) n P ops Q i (fun a' w'=>(∀x∈rel ms i L,x.2 w'.heap)∧TA ms ro n P ops Q f (rel ms i L) (listed.setIfInBounds i true) a' w') a w
theorem yx{o:Oper}{x:Nat×(ae→Prop)}:∀{L:ry},x∈pg o L↔x∈L∧jG o x.1=false
 | []=>by simp[pg]
 |(k,S)::L=>by
  have b:=yx (o:=o) (x:=x) (L:=L);simp only[pg];cases hk:jG o k with
  |true=>
   rw[cond_true,b,ar];constructor
   ·exact fun h=>⟨.inr h.1,h.2⟩
   ·rintro⟨h|h,h2⟩
    ·subst h;rw[hk]at h2;cases h2
    ·exact⟨h,h2⟩
  |false=>
   rw[cond_false,ar,b,ar];constructor
   ·rintro(h|h)
    ·subst h;exact⟨.inl rfl,hk⟩
    ·exact⟨.inr h.1,h.2⟩
   ·rintro⟨h|h,h2⟩
    ·exact .inl h
    ·exact .inr ⟨h,h2⟩
theorem Sm{listed:Array Bool}{i:Nat}(h:i∈Region.ready .any ops listed):∃o,ops[i]? =some o:=by
 obtain⟨_,o,b,_⟩:=mem_ready.1 h;exact⟨o,b⟩
theorem Qv{ms:List DM}:∀(f:Nat) (L:ry) (listed:Array Bool) (a:Act) (w:World),TA ms ro n P ops Q f L listed a w→wpAnyIn (FW ro) n P .any ops Q f listed a w
 |0,_,_,_,_,h=>h
 |f+1,L,listed,a,w,h=>⟨h.1,fun i hi=>by
  obtain⟨o,b⟩:=Sm hi
  exact wpOpIn_mono (fun a' w' c=>Qv f _ _ a' w' c.2) (h.2 i hi o b)⟩
theorem vT{ms:List DM}:∀(f:Nat) (L L':ry) (listed:Array Bool) (a:Act) (w:World),(∀x∈L',x∈L∨∀h,x.2 h)→TA ms ro n P ops Q f L listed a w→TA ms ro n P ops Q f L' listed a w
 |0,_,_,_,_,_,_,h=>h
 |f+1,L,L',listed,a,w,hs,h=>⟨h.1,fun i hi o d=>by
  have b:∀x∈rel ms i L',x∈rel ms i L∨∀h,x.2 h:=fun x hx=>(hs x (kJ.1 hx).1).imp (fun h=>kJ.2 ⟨h,(kJ.1 hx).2⟩) id
  exact wpOpIn_mono (fun a' w' c=>⟨fun x hx=>(b x hx).elim (c.1 x) fun h=>h _,vT f _ _ _ a' w' b c.2⟩) (h.2 i hi o d)⟩
def YG(P:Program)(ops:Array Oper)(S:ae→Prop)(o:Oper)(v:Value)(a:Act):Prop:=
 (Region.wanted o (yielded ops a.tmps)=true∧∀w:World,S w.heap→(execOp a.eval o).run P w=.ok (.value v) w)∨
 (Region.wanted o (yielded ops a.tmps)=false∧v=undef)
theorem YG.wpOp{S:ae→Prop}{i:Nat}{o:Oper}{v:Value}{a:Act}(hi:ops[i]? =some o) (hd:∀c,o.op≠ .defer c) (e:YG P ops S o v a) {K:Act→World→Prop} {w:World} (d:S w.heap)
  (h:K (a.put o.dst v) w):wpOpIn (FW ro) n P ops Q i K a w:=by
 unfold wpOpIn;simp only[hi];rcases e with⟨b,hv⟩|⟨b,rfl⟩
 ·simp only[b,if_true]
  refine⟨fun _ _=>trivial,?_⟩
  rw[Oper.semAt_eq _ _ _ hd,hv w d];exact h
 ·simp only[b,Bool.false_eq_true,if_false];exact⟨fun _ _=>trivial,h⟩
theorem YG.of_same{S:ae→Prop}{o:Oper}{v:Value}{a a':Act}(d:YG P ops S o v a)(b:execOp a'.eval o=execOp a.eval o)
  (c:Region.wanted o (yielded ops a'.tmps)=Region.wanted o (yielded ops a.tmps)):YG P ops S o v a':=by
 unfold YG at*;rw[b,c];exact d
theorem OB{S:ae→Prop}{j:Nat}{g i:Oper}{v:Value}(E:ops[j]? =some i)
  (A:(∀d,g.dst=some d→d∉i.looksAt ops)∧(∀d,g.dst=some d→i.dst≠some d)∧(∀d,i.dst=some d→d∉g.looksAt ops))
  (s:∀cs b,g.op≠ .select cs b) (B:∀cs b,i.op≠ .select cs b) (q:∀c,i.op≠ .defer c)
  (D:∀e a w,(∀c,e=.panic c→False)∨¬Q e a w) {K:Act→World→Prop} {a:Act} {w:World}
  (o:YG P ops S g v a) (h:wpOpIn (FW ro) n P ops Q j K (a.put g.dst v) w):
  wpOpIn (FW ro) n P ops Q j (fun a' w'=>YG P ops S g v a'∧K (a'.put g.dst v) w') a w:=by
 obtain⟨C,h2,z⟩:=A;have p:∀c a w,¬Q (.panic c) a w:=fun c a w F=>(D (.panic c) a w).elim (fun h=>h c rfl) fun h=>h F
 have keep:∀(a:Act),YG P ops S g v a→∀u,YG P ops S g v (a.put i.dst u):=fun a o u=>
  o.of_same (execOp_put g s a i.dst u z) (wanted_put g a i.dst u z)
 unfold wpOpIn at*;simp only[E]at*;rw[wanted_put i a g.dst v C]at h;split
 ·rename_i hw
  simp only[hw,if_true]at h;refine⟨fun _ _=>trivial,?_⟩
  have h:=h.2;rw[Oper.semAt_eq _ _ _ q,execOp_put i B a g.dst v C]at h;rw[Oper.semAt_eq _ _ _ q];generalize (execOp a.eval i).run P w=r at*;cases r with
  |ok x w'=>
   cases x<;>simp only[Oper.uponIn]at h⊢
   case value u=>exact⟨keep a o u,by rw[←Act.put_comm a v u h2];exact h⟩
   case skip=>exact⟨keep a o _,by rw[←Act.put_comm a v undef h2];exact h⟩
   case defer d=>
    refine⟨(o.of_same (a':={a with defers:=d::a.defers}) rfl rfl).of_same (execOp_put g s _ i.dst undef z) (wanted_put g _ i.dst undef z),?_⟩;rw[←Act.put_comm _ v undef h2,←Act.put_defers];exact h
   case enter f args=>
    refine⟨h.1,CallsIn.mono h.2 fun e y m=>?_⟩
    cases e with
    |returned u=>exact⟨keep a o u,by rw[←Act.put_comm a v u h2];exact m⟩
    |panicked c=>exact(p _ _ _ m).elim
    |outgrown=>exact m
   case row row args=>exact⟨h.1,RowsIn.mono h.2 fun u y m=>⟨keep a o u,by rw[←Act.put_comm a v u h2];exact m⟩⟩
   case round l f tmps assign body=>
    refine⟨h.1,RoundIn.mono h.2 fun e y m=>?_⟩
    cases e with
    |returned u=>exact⟨keep a o u,by rw[←Act.put_comm a v u h2];exact m⟩
    |panicked c=>exact(p _ _ _ m).elim
    |outgrown=>exact m
  |halt x w'=>
   cases x<;>simp only[Oper.uponIn]at h⊢
   case panic u=>exact(p _ _ _ h).elim
 ·rename_i hw
  simp only[hw]at h;exact⟨fun _ _=>trivial,keep a o _,by rw[←Act.put_comm a v undef h2];exact h.2⟩
theorem L4{ms:List DM}(hm:MsOk ops ms){i:Nat}{o:Oper}(b:ops[i]? =some o) (k:Nat):(L5 ms i).testBit k=jG o k:=by
 have hi:i<ms.length:=by rw[hm.len];exact(cz.1 b).1
 unfold L5;rw[ag hi];exact hm.am i o _ b (ag hi) k
theorem MY{ms:List DM}(hm:MsOk ops ms){listed:Array Bool}{j:Nat}(i:j∈Region.ready .any ops listed)(k:Nat)(c:(L5 ms j).testBit k=true):listed.getD k false=true:=by
 obtain⟨_,o,f,b⟩:=mem_ready.1 i;rw[L4 hm f]at c;unfold jG at c;obtain⟨e,g,d⟩:=dZ.1 c;simp only[aO]at d;have:=b e (by simpa using g) d.2;rw[bG d.1]at this;exact this
theorem NR{listed:Array Bool}{j k:Nat}(h:listed.getD k false=true):(listed.setIfInBounds j true).getD k false=true:=by
 by_cases e:j=k
 ·subst e
  rw[dM]at h⊢;rcases dB j listed.size with b|b
  ·simp[b]
  ·simp[lx b]at h
 ·rw[dM,fi e,←dM]
  exact h
theorem Shut.put{ms:List DM}(hm:MsOk ops ms){listed:Array Bool}(f:Shut ms listed){j:Nat}(d:j∈Region.ready .any ops listed):Shut ms (listed.setIfInBounds j true):=by
 intro i x hx c k b;by_cases e:j=i
 ·subst e
  refine NR (MY hm d k ?_);unfold L5;rw[hx];exact b
 ·rw[dM,fi e,←dM]at c
  exact NR (f i x hx c k b)
theorem Gc{ms:List DM}(hm:MsOk ops ms){S:ae→Prop}{i:Nat}{y:Oper}{v:Value}(hi:ops[i]? =some y) (g:∀(j:Nat) (o:Oper),ops[j]? =some o→(∀cs b,o.op≠ .select cs b)∧(∀c,o.op≠ .defer c))
  (hQ:∀e a w,(∀c,e=.panic c→False)∨¬Q e a w):
  ∀(fuel:Nat) (L:ry) (listed:Array Bool) (a:Act) (w:World),
   (∀j q,ops[j]? =some q→j≠i→listed.getD j true=false→jG q i=false→
    (∀d,y.dst=some d→d∉q.looksAt ops)∧(∀d,y.dst=some d→q.dst≠some d)∧(∀d,q.dst=some d→d∉y.looksAt ops))→
   Shut ms listed→i∈Region.ready .any ops listed→YG P ops S y v a→S w.heap→(∀x∈L,x.2 w.heap)→
   TA ms ro n P ops Q fuel ((i,S)::L) (listed.setIfInBounds i true) (a.put y.dst v) w→TA ms ro n P ops Q (fuel+1) L listed a w:=by
 intro fuel;induction fuel with
 |zero=>
  intro L listed a w _ _ B U Y X H;refine⟨fun h=>(by rw[h]at B;cases B),fun j F q f=>?_⟩
  by_cases m:j=i
  ·subst m
   rw[hi]at f;cases f;exact U.wpOp hi (g _ _ hi).2 Y ⟨fun x hx=>X x (kJ.1 hx).1,H⟩
  ·have:=ready_mono F m
   rw[H.1]at this;cases this
 |succ fuel ih=>
  intro L listed a w s J B U Y X H;refine⟨fun h=>(by rw[h]at B;cases B),fun j F q f=>?_⟩
  by_cases m:j=i
  ·subst m
   rw[hi]at f;cases f;exact U.wpOp hi (g _ _ hi).2 Y ⟨fun x hx=>X x (kJ.1 hx).1,vT _ _ _ _ _ _ (fun x hx=>.inl (aA _ (kJ.1 hx).1)) H⟩
  ·have p:=H.2 j (ready_mono F m) q f
   obtain⟨C,Z,A,G⟩:=mem_ready.1 F;rw[f]at A;cases A;have T:jG q i=false:=by
    cases z:jG q i with
    |false=>rfl
    |true=>
     unfold jG at z;obtain⟨e,he,z⟩:=dZ.1 z;simp only[aO]at z;have p:=G e (by simpa using he) z.2;rw[bG z.1]at p;have O:=(mem_ready.1 B).1;rcases dB i listed.size with D|D
     ·simp[D]at O p;rw[O]at p;cases p
     ·simp[lx D]at p
   have E:tb (CF ms (L5 ms j)) i=false:=by
    cases z:tb (CF ms (L5 ms j)) i with
    |false=>rfl
    |true=>
     rw[B0]at z;have p:=S5 J (MY hm F) z;have O:=(mem_ready.1 B).1;rcases dB i listed.size with D|D
     ·simp[D]at O p;rw[O]at p;cases p
     ·simp[lx D]at p
   have K:rel ms j ((i,S)::L)=(i,S)::rel ms j L:=by simp only[rel,Cb,E,cond_false]
   rw[K]at p;have h2:=OB f (s j q f m C T) (g _ _ hi).1 (g _ _ f).1 (g _ _ f).2 hQ U p;have u:∀k ok,ops[k]? =some ok→k≠i→(listed.setIfInBounds j true).getD k true=false→jG ok i=false→
     (∀d,y.dst=some d→d∉ok.looksAt ops)∧(∀d,y.dst=some d→ok.dst≠some d)∧(∀d,ok.dst=some d→d∉y.looksAt ops):=fun k ok hk W I V=>by
    refine s k ok hk W ?_ V;by_cases N:j=k
    ·subst N;exact C
    ·rw[getD_set_ne true N]at I;exact I
   refine wpOpIn_mono (fun a' w' R=>⟨fun x hx=>R.2.1 x (aA _ hx),ih (rel ms j L) (listed.setIfInBounds j true) a' w' u (J.put hm F) (ready_mono B (Ne.symm m)) R.1 (R.2.1 _ (aD ..)) (fun x hx=>R.2.1 x (aA _ hx)) ?_⟩) h2
   rw[Array.setIfInBounds_comm _ _ m];exact R.2.2
theorem sH{h:ae}{R:Prop}:∀{L:ry},tF L h R↔(∀x∈L,x.2 h)∧R
 | []=>by simp[tF]
 |(k,S)::L=>by
  simp only[tF,sH (L:=L),ar,forall_eq_or_imp,and_assoc]
theorem Tz{ms:List DM}{f:Nat}{L:ry}{listed:Array Bool}{a:Act}{w:World}(b:Region.ready .any ops listed= [])(h:Q .normal a w):TA ms ro n P ops Q f L listed a w:=by
 cases f with
 |zero=>exact⟨b,h⟩
 |succ f=>exact⟨fun _=>h,by rw[b];simp⟩
def left(ops:Array Oper)(ls:Nat):Nat:=((eR ops.size).filter fun j=> !ls.testBit j).length
theorem yG{ls i:Nat}(hi:i<ops.size)(g:ls.testBit i=false):left ops (dC ls (gY i))+1=left ops ls:=by
 have key:∀l:List Nat,l.Nodup→i∈l→(l.filter fun j=> !(dC ls (gY i)).testBit j).length+1=(l.filter fun j=> !ls.testBit j).length:=by
  intro l;induction l with
  |nil=>intro _ h;cases h
  |cons x l ih=>
   intro f hm;rw[List.nodup_cons]at f;by_cases hx:x=i
   ·subst hx
    have b:(l.filter fun j=> !(dC ls (gY x)).testBit j)=l.filter fun j=> !ls.testBit j:=by
     apply List.filter_congr;intro y m;have:x≠y:=fun e=>f.1 (e▸m)
     rw[oD,Bp,decide_eq_false this,Bool.or_false]
    have d:(dC ls (gY x)).testBit x=true:=by rw[oD,Bp];simp
    rw[fB,fB,d,g,b];rfl
   ·have c:i∈l:=by rcases ar.1 hm with h|h;exact absurd h.symm hx;exact h
    have d:(dC ls (gY i)).testBit x=ls.testBit x:=by rw[oD,Bp,decide_eq_false (Ne.symm hx),Bool.or_false]
    have:=ih f.2 c;rw[fB,fB,d];cases ls.testBit x with
    |true=>exact this
    |false=>exact congrArg (· +1) this
 exact key _ List.nodup_range (List.mem_range.2 hi)
theorem SQ{N:Nat}{b:List Oper}{ms:List DM}{ls:Nat}{L:ry}{d:wV}{K:cY→ae→Prop}{r:cY}{c:ae}:∀{l:DA},nS P N b ms l true ls L d K r c→∃i,i∈D2 l
 | .done,h=>h.elim
 | .take i rest,h=>by
  exfalso;have hc:nS P N b ms (.take i rest) true ls L d K r c=(match b[i]?,ms[i]? with|some _,some _=>False|_,_=>False):=rfl
  rw[hc]at h;split at h<;>exact h
 | .all _,h=>h.elim
 | .pick i _ _,_=>⟨i,aD ..⟩
 | .last i _,_=>⟨i,aD ..⟩
 | .lastT i _,_=>⟨i,aD ..⟩
 | .split ..,h=>h.elim
def Qj(ro:Option Nat)(n:Nat)(P:Program)(ops:Array Oper)(Q:Exit→Act→World→Prop)(N:Nat)(ms:List DM)(W:Nat→Prop)(c:Act)(e:World)(K:cY→ae→Prop)(b:DA):Prop:=
 ∀(m:Bool) (ls:Nat) (L:ry) (d:wV) (r:cY) (a:Act) (w:World) (listed:Array Bool) (fuel:Nat),
  nS P N ops.toList ms b m ls L d K r w.heap→Agree N r a→DecOk d r→Fr W c e a w→LsRel ops ls listed→Shut ms listed→(∀x∈L,x.2 w.heap)→
  (m=false→left ops ls≤fuel→TA ms ro n P ops Q fuel L listed a w)∧
  (m=true→left ops ls≤fuel+1→∀i∈D2 b,i∈mE ls ms 0→∀o,ops[i]? =some o→
   wpOpIn (FW ro) n P ops Q i (fun a' w'=>(∀x∈rel ms i L,x.2 w'.heap)∧TA ms ro n P ops Q fuel (rel ms i L) (listed.setIfInBounds i true) a' w') a w)
theorem MS{N:Nat}{ms:List DM}(hm:MsOk ops ms){W:Nat→Prop}(hW:∀o∈ops.toList,∀d,o.dst=some d→W d){a0:Act}{w0:World}{K:cY→ae→Prop}
  (hQ:∀r a w,Agree N r a→Fr W a0 w0 a w→K r w.heap→Q .normal a w)(hnp:∀e a w,(∀c,e=.panic c→False)∨¬Q e a w)(da:DA):
  Qj ro n P ops Q N ms W a0 w0 K da:=by
 have one:∀(i:Nat) (g:DA)
   (_:Qj ro n P ops Q N ms W a0 w0 K g)
   (ls:Nat) (L:ry) (d:wV) (r:cY) (a:Act) (w:World) (listed:Array Bool) (fuel:Nat),
   Sa P N ops.toList i L d r w.heap (fun L' d' D h'=>nS P N ops.toList ms g false (dC ls (gY i)) L' d' K D h')→Agree N r a→DecOk d r→Fr W a0 w0 a w→LsRel ops ls listed→Shut ms listed→
   left ops ls≤fuel+1→i∈mE ls ms 0→∀o,ops[i]? =some o→
    wpOpIn (FW ro) n P ops Q i (fun a' w'=>(∀x∈rel ms i L,x.2 w'.heap)∧TA ms ro n P ops Q fuel (rel ms i L) (listed.setIfInBounds i true) a' w') a w:=by
  intro i g V ls L d r a w listed fuel f z hd I y p B hr o s;have A:i<ops.size:=(cz.1 s).1;obtain⟨k,mm,hk,hki,J,_⟩:=(tp ls ms 0 i).1 hr;unfold Sa at f;rw[bP,s]at f;simp only at f;cases hw:jE ops.toList d o with
  |none=>rw[hw]at f;exact f.elim
  |some b=>
   rw[hw]at f;cases b with
   |false=>exact f.elim
   |true=>
    simp only at f;cases hq:xO P o.op with
    |true=>
     rw[hq,cond_true]at f;unfold wpOpIn;rw[s];simp only[nP hw z hd,if_true];obtain⟨v,S,hK,hS,_,X⟩:=DJ z f d hd;refine qF (K:=fun u h'=>u=v∧h'=w.heap) (EG f) (.inl ⟨v,w,X w hS,Tame.refl w,rfl,rfl⟩) ?_
     rintro u w' ht ⟨rfl,hw'⟩;obtain⟨D,H,G,F⟩:=uI (dv:=.x) hK z hd trivial;obtain⟨hh,Z⟩:=sH.1 H;have C:o∈ops.toList:=ao (by rw[bP];exact s);have O:=yG A J;have E:∀x∈rel ms i L,x∈pg o L:=fun x hx=>yx.2 ⟨(kJ.1 hx).1,by
      cases hb:jG o x.1 with
      |false=>rfl
      |true=>
        have:=(kJ.1 hx).2
        rw[B0,Kv (by rw[L4 hm s];exact hb)]at this;cases this⟩
     rw[←hw']at hh Z;exact⟨fun x hx=>hh x (E x hx),vT _ _ _ _ _ _ (fun x hx=>.inl (E x hx)) ((V false _ _ _ D _ w' _ fuel Z G F (I.put (hW o C) u ht) (y.put A) (p.put hm ((mZ hm y).2 hr)) hh).1 rfl (by omega))⟩
    |false=>
     rw[hq,cond_false]at f;unfold wpOpIn;rw[s];simp only[nP hw z hd,if_true];refine qF (yp f) (Dt z f) ?_;intro v w' ht hK;obtain⟨D,H,G,F⟩:=uI (dv:=.x) hK z hd trivial;obtain⟨hh,Z⟩:=sH.1 H;have C:o∈ops.toList:=ao (by rw[bP];exact s);have O:=yG A J;have E:∀x∈rel ms i L,x∈pg o L:=fun x hx=>yx.2 ⟨(kJ.1 hx).1,by
      cases hb:jG o x.1 with
      |false=>rfl
      |true=>
        have:=(kJ.1 hx).2
        rw[B0,Kv (by rw[L4 hm s];exact hb)]at this;cases this⟩
     exact⟨fun x hx=>hh x (E x hx),vT _ _ _ _ _ _ (fun x hx=>.inl (E x hx)) ((V false _ _ _ D _ w' _ fuel Z G F (I.put (hW o C) v ht) (y.put A) (p.put hm ((mZ hm y).2 hr)) hh).1 rfl (by omega))⟩
 have oneT:∀(i:Nat) (g:DA)
   (_:Qj ro n P ops Q N ms W a0 w0 K g)
   (ls:Nat) (L:ry) (d:wV) (r:cY) (a:Act) (w:World) (listed:Array Bool) (fuel:Nat),
   QH P N ops.toList ms i L d r w.heap (fun L' d' D h'=>nS P N ops.toList ms g false (dC ls (gY i)) L' d' K D h')→Agree N r a→DecOk d r→Fr W a0 w0 a w→LsRel ops ls listed→Shut ms listed→
   left ops ls≤fuel+1→i∈mE ls ms 0→∀o,ops[i]? =some o→
    wpOpIn (FW ro) n P ops Q i (fun a' w'=>(∀x∈rel ms i L,x.2 w'.heap)∧TA ms ro n P ops Q fuel (rel ms i L) (listed.setIfInBounds i true) a' w') a w:=by
  intro i g V ls L d r a w listed fuel f z hd I y p B hr o s;have A:i<ops.size:=(cz.1 s).1;obtain⟨k,mm,hk,hki,J,_⟩:=(tp ls ms 0 i).1 hr;unfold QH at f;rw[bP,s]at f;simp only at f;cases hw:jE ops.toList d o with
  |none=>rw[hw]at f;exact f.elim
  |some b=>
   rw[hw]at f;cases b with
   |false=>exact f.elim
   |true=>
    simp only at f;cases hq:xO P o.op with
    |true=>rw[hq]at f;exact f.elim
    |false=>
     rw[hq,cond_false]at f;unfold wpOpIn;rw[s];simp only[nP hw z hd,if_true];refine qF (yp f) (Dt z f) ?_;intro v w' ht hK;obtain⟨D,H,G,F⟩:=uI (dv:=.x) hK z hd trivial;obtain⟨hh,Z⟩:=sH.1 H;have C:o∈ops.toList:=ao (by rw[bP];exact s);have O:=yG A J;exact⟨hh,(V false _ _ _ D _ w' _ fuel Z G F (I.put (hW o C) v ht) (y.put A) (p.put hm ((mZ hm y).2 hr)) hh).1 rfl (by omega)⟩
 induction da with
 |done=>
  intro m ls L d r a w listed fuel f z hd I y p T;cases m with
  |true=>exact f.elim
  |false=>
   refine⟨fun _ _=>?_,fun h=>by cases h⟩
   have hc:nS P N ops.toList ms .done false ls L d K r w.heap=bif xm (mE ls ms 0) []then K r w.heap else False:=rfl;rw[hc]at f;cases hb:xm (mE ls ms 0) []with
   |false=>rw[hb]at f;exact f.elim
   |true=>
    rw[hb]at f;have hnil:Region.ready .any ops listed= []:=by
     apply List.eq_nil_iff_forall_not_mem.2;intro j R;rw[mZ hm y,zU hb]at R;cases R
    exact Tz hnil (hQ r a w z I f)
 |take i g V=>
  intro m ls L d r a w listed fuel f z hd I y p T;cases m with
  |true=>
   exfalso;have hc:nS P N ops.toList ms (.take i g) true ls L d K r w.heap=(match ops.toList[i]?,ms[i]? with|some _,some _=>False|_,_=>False):=rfl
   rw[hc]at f;split at f<;>exact f
  |false=>
   refine⟨fun _ B=>?_,fun h=>by cases h⟩
   have hc:nS P N ops.toList ms (.take i g) false ls L d K r w.heap=(match ops.toList[i]?,ms[i]? with
    |some o,some mi=>bif Gn mi i ls ops.toList.length then
      (match jE ops.toList d o with
       |none=>False
       |some false=>Bk N o undef r fun D=>nS P N ops.toList ms g false (dC ls (gY i)) L (sK d o .u) K D w.heap
       |some true=>bif xO P o.op then
          Dp P none o.op r (fun v S=>Bk N o v r fun D=>match S with
            |none=>nS P N ops.toList ms g false (dC ls (gY i)) L (sK d o (MA d o.op)) K D w.heap
            |some S=>nS P N ops.toList ms g false (dC ls (gY i)) ((i,S)::L) (sK d o (MA d o.op)) K D w.heap) w.heap
          else False)
     else False
    |_,_=>False):=rfl
   rw[hc]at f;split at f
   ·rename_i o mi s hmi
    rw[bP]at s;cases htk:Gn mi i ls ops.toList.length with
    |false=>rw[htk]at f;exact f.elim
    |true=>
     rw[htk,cond_true]at f;unfold Gn at htk;simp only[aO,iG,B0]at htk;obtain⟨⟨hun,hrd⟩,hfr⟩:=htk;have A:i<ops.size:=(cz.1 s).1;have q:i∈Region.ready .any ops listed:=(JM hm y).2 ⟨mi,hmi,hun,hrd⟩;have O:=yG (ops:=ops) A hun;obtain⟨f',rfl⟩:∃f',fuel=f'+1:=⟨fuel-1,by omega⟩
     have C:o∈ops.toList:=ao (by rw[bP];exact s);have hcov:∀j,j<ops.size→ls.testBit j=true∨mi.fr.testBit j=true:=by
      intro j R;have h0:=bG hfr;have hpb:(zG (gY ops.toList.length)).testBit j=true:=by
        have:zG (gY ops.toList.length)=2^ops.toList.length-1:=rfl;rw[this,Nat.testBit_two_pow_sub_one];simpa using R
      have hand:(ki (dC ls mi.fr) (zG (gY ops.toList.length))).testBit j=((dC ls mi.fr).testBit j&&(zG (gY ops.toList.length)).testBit j):=lS _ _ j;rw[h0,hpb,vS,oD]at hand;exact(Bool.or_eq_true_iff).1 hand.symm
     have U:∀j oj,ops[j]? =some oj→j≠i→listed.getD j true=false→jG oj i=false→
        (∀d,o.dst=some d→d∉oj.looksAt ops)∧(∀d,o.dst=some d→oj.dst≠some d)∧(∀d,oj.dst=some d→d∉o.looksAt ops):=by
      intro j oj hoj hne hju hna;have R:j<ops.size:=(cz.1 hoj).1;rw[y.unlisted R]at hju;have hjm:j<ms.length:=by rw[hm.len];exact R
      have hmj:=ag hjm;rcases hcov j R with h|h
      · rw[h]at hju;cases hju
      · rcases hm.free i j mi _ hmi hmj h with h|h|h
        ·exact absurd h hne
        ·rw[hm.am j oj _ hoj hmj,hna]at h;cases h
        ·exact VK hm s hoj hmi hmj h
     cases hw:jE ops.toList d o with
     |none=>rw[hw]at f;exact f.elim
     |some b=>
      rw[hw]at f;have hwd:=nP hw z hd;cases b with
      |false=>
        obtain⟨D,H,G,F⟩:=uI (dv:=.u) f z hd rfl;have hy:YG P ops (fun _=>True) o undef a:=.inr ⟨hwd,rfl⟩
        refine Gc hm s hm.nosel hnp f' L listed a w U p q hy trivial T ?_;refine vT _ L _ _ _ _ (fun x hx=>(ar.1 hx).elim (fun e=>.inr fun h=>by rw[e];trivial) .inl) ?_
        exact(V false _ _ _ D _ w _ f' H G F (I.put (hW o C) undef (Tame.refl w)) (y.put A) (p.put hm q) T).1 rfl (by omega)
      |true=>
        simp only at f;cases hq:xO P o.op with
        |false=>rw[hq]at f;exact f.elim
        |true=>
         rw[hq,cond_true]at f;obtain⟨v,S,hK,hS,hdv,X⟩:=DJ z f d hd;obtain⟨D,H,G,F⟩:=uI hK z hd hdv;have hfr':=I.put (hW o C) v (Tame.refl w);cases S with
         |none=>
           have hy:YG P ops (fun _=>True) o v a:=.inl ⟨hwd,fun w _=>X w trivial⟩
           refine Gc hm s hm.nosel hnp f' L listed a w U p q hy trivial T ?_;refine vT _ L _ _ _ _ (fun x hx=>(ar.1 hx).elim (fun e=>.inr fun h=>by rw[e];trivial) .inl) ?_
           exact(V false _ _ _ D _ w _ f' H G F hfr' (y.put A) (p.put hm q) T).1 rfl (by omega)
         |some S=>
           have hy:YG P ops S o v a:=.inl ⟨hwd,fun w h=>X w h⟩
           refine Gc hm s hm.nosel hnp f' L listed a w U p q hy hS T ?_;exact(V false _ _ _ D _ w _ f' H G F hfr' (y.put A) (p.put hm q) (fun x hx=>(ar.1 hx).elim (fun e=>by rw[e];exact hS) (T x))).1 rfl (by omega)
   ·exact f.elim
 |all l V=>
  intro m ls L d r a w listed fuel f z hd I y p T;cases m with
  |true=>exact f.elim
  |false=>
   refine⟨fun _ B=>?_,fun h=>by cases h⟩
   have hc:nS P N ops.toList ms (.all l) false ls L d K r w.heap=bif xm (mE ls ms 0) (D2 l)then nS P N ops.toList ms l true ls L d K r w.heap else False:=rfl;rw[hc]at f;cases hb:xm (mE ls ms 0) (D2 l)with
   |false=>rw[hb]at f;exact f.elim
   |true=>
    rw[hb,cond_true]at f;obtain⟨i,hi⟩:=SQ f;rw[←zU hb]at hi;have hrd:=(mZ hm y (j:=i)).2 hi;obtain⟨k,mm,hk,hki,J,_⟩:=(tp ls ms 0 i).1 hi;have A:i<ops.size:=by
     have:=(bv.1 hk).1;rw[hm.len]at this;omega
    have O:=yG (ops:=ops) A J;obtain⟨f',rfl⟩:∃f',fuel=f'+1:=⟨fuel-1,by omega⟩
    refine⟨fun h=>(by rw[h]at hrd;cases hrd),fun j R o s=>?_⟩
    have hj':=(mZ hm y).1 R;exact(V true ls L d r a w listed f' f z hd I y p T).2 rfl B j (by rw[←zU hb];exact hj') hj' o s
 |pick i g more ih1 ih2=>
  intro m ls L d r a w listed fuel f z hd I y p T;cases m with
  |false=>exact f.elim
  |true=>
   refine⟨fun h=>(by cases h),fun _ B j R Y o s=>?_⟩
   have f:Sa P N ops.toList i L d r w.heap (fun L' d' D h'=>nS P N ops.toList ms g false (dC ls (gY i)) L' d' K D h')∧nS P N ops.toList ms more true ls L d K r w.heap:=f
   rcases ar.1 R with rfl|R
   ·exact one _ g ih1 ls L d r a w listed fuel f.1 z hd I y p B Y o s
   ·exact(ih2 true ls L d r a w listed fuel f.2 z hd I y p T).2 rfl B j R Y o s
 |last i g V=>
  intro m ls L d r a w listed fuel f z hd I y p T;cases m with
  |false=>exact f.elim
  |true=>
   refine⟨fun h=>(by cases h),fun _ B j R Y o s=>?_⟩
   have f:Sa P N ops.toList i L d r w.heap (fun L' d' D h'=>nS P N ops.toList ms g false (dC ls (gY i)) L' d' K D h'):=f
   have hji:j=i:=aq.1 R;subst hji;exact one _ g V ls L d r a w listed fuel f z hd I y p B Y o s
 |lastT i g V=>
  intro m ls L d r a w listed fuel f z hd I y p T;cases m with
  |false=>exact f.elim
  |true=>
   refine⟨fun h=>(by cases h),fun _ B j R Y o s=>?_⟩
   have f:QH P N ops.toList ms i L d r w.heap (fun L' d' D h'=>nS P N ops.toList ms g false (dC ls (gY i)) L' d' K D h'):=f
   have hji:j=i:=aq.1 R;subst hji;exact oneT _ g V ls L d r a w listed fuel f z hd I y p B Y o s
 |split t yes no ih1 ih2=>
  intro m ls L d r a w listed fuel f z hd I y p T;cases m with
  |true=>exact f.elim
  |false=>
   refine⟨fun _ B=>?_,fun h=>by cases h⟩
   have hc:nS P N ops.toList ms (.split t yes no) false ls L d K r w.heap=(match kU r t with
    |some (.bool b)=>CondP b (nS P N ops.toList ms yes false ls L ((t,.t)::d) K ((t,.bool true)::r) w.heap) (nS P N ops.toList ms no false ls L ((t,.f)::d) K ((t,.bool false)::r) w.heap)
    |_=>False):=rfl
   rw[hc]at f;split at f
   ·rename_i b hlk
    cases b with
    |true=>exact(ih1 false ls L _ _ a w listed fuel (f.yes rfl) (z.known hlk) (hd.known rfl) I y p T).1 rfl B
    |false=>exact(ih2 false ls L _ _ a w listed fuel (f.no rfl) (z.known hlk) (hd.known rfl) I y p T).1 rfl B
   ·exact f.elim
end Go.Lift
namespace Go.Lift
open Go
variable {P:Program} {ro:Option Nat} {n:Nat}
theorem Ki{r:cY}:∀{l:List Nat} {r0:cY},QY r l=some r0→∀t v,kU r0 t=some v→t∈l∧kU r t=some v
 | [],r0,h,t,v,hv=>by cases h;cases hv
 |s::l,r0,h,t,v,hv=>by
  have h:(match kU r s,QY r l with|some v,some l=>some ((s,v)::l)|_,_=>none)=some r0:=h
  split at h
  ·rename_i u l' hu hl
   cases h;by_cases e:s=t
   ·subst e;rw[jh]at hv;cases hv;exact⟨aD ..,hu⟩
   ·rw[ia u _ e]at hv
    have:=Ki hl t v hv;exact⟨aA _ this.1,this.2⟩
  ·cases h
theorem DW{m:Nat}{t:Nat}{v:Value}:∀{r:cY},kU (yJ m r) t=some v→m.testBit t=false∧kU r t=some v
 | [],h=>by cases h
 |(k,u)::r,h=>by
  have h:kU (bif tb m k then yJ m r else(k,u)::yJ m r) t=some v:=h;cases hk:tb m k with
  |true=>
   rw[hk]at h;have:=DW h;by_cases e:k=t
   ·subst e;rw[B0,this.1]at hk;cases hk
   ·rw[ia u _ e];exact this
  |false=>
   rw[hk]at h;have h:kU ((k,u)::yJ m r) t=some v:=h;by_cases e:k=t
   ·subst e;rw[jh]at h⊢;rw[B0]at hk;exact⟨hk,h⟩
   ·rw[ia u _ e]at h⊢;exact DW h
theorem Dr{t:Nat}:∀{l:List Oper},(TC l).testBit t=false→¬mA t l=true
 | [],_,h=>by cases h
 |o::l,hm,h=>by
  have hm:(dC (ot o) (TC l)).testBit t=false:=hm;rw[oD,mW]at hm;have h:(match o.dst with|some d=>bif aM d t then true else mA t l|none=>mA t l)=true:=h
  cases hd:o.dst with
  |none=>rw[hd]at h;exact Dr hm.2 h
  |some d=>
   rw[hd]at h;cases e:aM d t with
   |true=>have:=(yR o t).2 (by rw[hd,bG e]);rw[hm.1]at this;cases this
   |false=>simp only[e]at h;exact Dr hm.2 h
theorem Nl{a b:Option Nat}{m:Nat}(h:ZJ a b=some m):∃x y,a=some x∧b=some y∧m=dC x y:=by
 cases a<;>cases b<;>cases h
 exact⟨_,_,rfl,rfl,rfl⟩
theorem TB{t:Nat}(c:Code):∀{m:Nat},Ao c=some m→m.testBit t=false→¬gu t c=true:=by
 induction c with
 |skip=>intro m _ _ h;cases h
 |region id ops dr=>intro m h hm d;cases h;exact Dr hm d
 |seq a b iha ihb=>
  intro m h hm d;obtain⟨x,y,hx,e,rfl⟩:=Nl (show ZJ (Ao a) (Ao b)=some m from h)
  rw[oD,mW]at hm;have d:(bif gu t a then true else gu t b)=true:=d;cases ha:gu t a with
  |true=>exact iha hx hm.1 ha
  |false=>rw[ha]at d;exact ihb e hm.2 d
 |cond c a b iha ihb=>
  intro m h hm d;obtain⟨x,y,hx,e,rfl⟩:=Nl (show ZJ (Ao a) (Ao b)=some m from h)
  rw[oD,mW]at hm;have d:(bif gu t a then true else gu t b)=true:=d;cases ha:gu t a with
  |true=>exact iha hx hm.1 ha
  |false=>rw[ha]at d;exact ihb e hm.2 d
 |block id b ih=>exact fun h hm=>ih h hm
 |loop b ih=>exact fun h hm=>ih h hm
 |rangeFunc _ _ _ _ _ _=>intro m h;cases h
 |scope b ih=>exact fun h hm=>ih h hm
 |_=>intro m _ _ h;cases h
theorem Agree.keep{N:Nat}{r d:cY}{a a':Act}{w w':World}{m:Nat}{c:Code}(h:Agree N r a)(hm:Ao c=some m)(e:Fr (fun t=>gu t c=true) a w a' w')(b:Agree N d a'):Agree N (yJ m r) a':=
 ⟨b.size,fun t v hv=>by
  obtain⟨f,g⟩:=DW hv
  rw[e.same t (TB c hm f)];exact h.look t v g⟩
theorem yr{st:St}{r:cY}{f:uO (AX st)→Prop}(h:EA st r f):∃t,Gr r st=some (na (AX st) t)∧f t:=by
 unfold EA at h;split at h
 ·rename_i vs hv
  obtain⟨t,rfl,b⟩:=tI h;exact⟨t,hv,b⟩
 ·exact h.elim
theorem Agree.zip{N:Nat}{r:cY}{a:Act}(h:Agree N r a):∀{st:St} {vs:List Value} {r0:cY},Gr r st=some vs→Agree N r0 a→Agree N (om st vs r0) a
 | [],vs,r0,_,h0=>by cases vs<;>exact h0
 |(i,k)::st,vs,r0,hv,h0=>by
  unfold Gr at hv;split at hv
  ·rename_i v vs' h1 h2
   cases hv;have:=Agree.zip h h2 h0;refine⟨this.size,fun t u b=>?_⟩
   by_cases e:i=t
   ·subst e
    rw[show om ((i,k)::st) (v::vs') r0=(i,v)::om st vs' r0 from rfl,jh]at b;cases b
    exact h.look i v h1
   ·rw[show om ((i,k)::st) (v::vs') r0=(i,v)::om st vs' r0 from rfl,ia v _ e]at b
    exact this.look t u b
  ·cases hv
theorem BP{t:Nat}:∀{l:List Oper} {o:Oper},o∈l→o.dst=some t→mA t l=true
 | [],_,h,_=>by cases h
 |x::l,o,h,hd=>by
  have e:mA t (x::l)=(match x.dst with|some d=>bif aM d t then true else mA t l|none=>mA t l):=rfl
  rw[e];rcases ar.1 h with rfl|h
  ·rw[hd];simp only;rw[show aM t t=true from sR t];rfl
  ·have:=BP h hd
   cases x.dst with
   |none=>exact this
   |some d=>
    simp only;cases aM d t with
    |true=>rfl
    |false=>exact this
def LWP(ro:Option Nat)(n:Nat)(P:Program)(c:Code)(Q:Exit→Act→World→Prop)(a:Act)(w:World):Prop:=
 ∀(b:Frame) (k:List Item) (cs:List Frame),b.roundOf=(FW ro).round→(FW ro).fn b.fn→(FW ro).room (cs.length+1+n)→
  ∃e a' w',Q e a' w'∧ArrivesIn (Machine.fenced P (FW ro)) P (lone (b.atR a (.code c:: .inLoop c::k)) cs w) b k cs e a' w'
theorem LWP.step{c:Code}{Q:Exit→Act→World→Prop}{a:Act}{w:World}(h:c.wpIn (FW ro) n P (Exit.then (LWP ro n P c Q) Q) a w):LWP ro n P c Q a w:=by
 intro b k cs i o q;obtain⟨e,j,m,g,d⟩:=h b (.inLoop c::k) cs i o q;cases e with
 |normal=>
  obtain⟨u,s,v,p,f⟩:=g b k cs i o q;exact⟨u,s,v,p,.of_steps (StepsIn.trans d (.one (fenced_calm o q rfl) stepR_inLoop)) f⟩
 |exit id=>exact⟨_,j,m,g,.pass (x:=.inLoop c) rfl (fun _ _=>.inl (by simp)) d⟩
 |goto l=>exact⟨_,j,m,g,.pass (x:=.inLoop c) rfl (fun _ _=>.inl (by simp)) d⟩
 |ret=>exact⟨_,j,m,g,.pass (x:=.inLoop c) rfl (fun _ _=>.inl (by simp)) d⟩
 |panic ch=>exact⟨_,j,m,g,.pass (x:=.inLoop c) rfl (fun _ _=>.inl (by simp)) d⟩
 |outgrown=>exact⟨_,j,m,g,.pass (x:=.inLoop c) rfl (fun _ _=>.inl (by simp)) d⟩
theorem LWP.loop{c:Code}{Q:Exit→Act→World→Prop}{a:Act}{w:World}(h:LWP ro n P c Q a w):(Code.loop c).wpIn (FW ro) n P Q a w:=by
 intro b k cs f g i;obtain⟨e,a',w',j,d⟩:=h b k cs f g i;exact⟨e,a',w',j,.of_steps (.one (fenced_calm g i rfl) stepR_loop) d⟩
theorem Kt(r:cY):DecOk [] r:=fun _=>.inl rfl
theorem Xa(ops:Array Oper)(ls:Nat):left ops ls≤ops.size:=by
 unfold left;exact Nat.le_trans (List.length_filter_le ..) (by simp)
theorem mC(f:P.follows .mixedOrders=true){N id:Nat}{ops:Array Oper}{g:Bool}{s:Ann}{K:cY→ae→Prop}{r:cY}{a:Act}{w:World}{Q:Exit→Act→World→Prop}
  (b:Dz P N ops.toList g s K r w.heap)(p:Agree N r a)(v:∀c a w,¬Q (.panic c) a w)
  (i:∀r' a' w',Agree N r' a'→Fr (fun t=>mA t ops.toList=true) a w a' w'→K r' w'.heap→Q .normal a' w'):(Code.region id ops g).wpIn (FW ro) n P Q a w:=by
 have m:∀o∈ops.toList,∀d,o.dst=some d→mA d ops.toList=true:=fun o q d hd=>BP q hd
 cases g with
 |false=>
  have key:∀ek,Gu P N ek ops.toList ops.toList [] K r w.heap→(Code.region id ops false).wpIn (FW ro) n P Q a w:=fun ek b=>by
   refine wpIn_region ?_;rw[List.range_eq_range',show ops.size=ops.toList.length from rfl]
   exact Gt m i ops.toList 0 rfl [] r a w b p (Kt r) (Fr.refl _ a w)
  unfold Dz at b;simp only at b;split at b
  ·exact key _ b
  ·exact key _ b
 |true=>
  unfold Dz at b;simp only at b;generalize QS ops.toList=ms at b;cases hm:F0 ops.toList ms with
  |false=>rw[hm]at b;exact b.elim
  |true=>
   rw[hm,cond_true]at b;refine wpIn_region_any f (Qv (ms:=ms) _ [] _ _ _ ?_);have y:Tame w {w with drawn:=w.drawn+1}:=⟨rfl,rfl,rfl⟩;have u:Fr (fun t=>mA t ops.toList=true) a w a {w with drawn:=w.drawn+1}:=⟨y,rfl,fun _ _=>rfl⟩
   refine(MS (PH hm) m i (fun e a w=>?_) _ false 0 [] [] r a {w with drawn:=w.drawn+1} _ ops.size b p (Kt r) u LsRel.start (fun j x _ h=>by rw[(LsRel.start (ops:=ops)).bit,Nat.zero_testBit]at h;cases h) (fun x hx=>by cases hx)).1 rfl (Xa ops 0)
   cases e with
   |panic ch=>exact .inr (v _ a w)
   |_=>exact .inl fun c hc=>by cases hc
theorem Ga(t:Nat)(x y:Code):gu t (.seq x y)=(bif gu t x then true else gu t y):=rfl
theorem Et(t:Nat)(c:Operand)(x y:Code):gu t (.cond c x y)=(bif gu t x then true else gu t y):=rfl
theorem LZ{a b:Bool}:(bif a then true else b)=true↔a=true∨b=true:=by cases a<;>cases b<;>decide
theorem un(s:P.follows .mixedOrders=true){N:Nat}(c:Code):∀(C:Ann) (Kn:cY→ae→Prop) (Kx:Ex→cY→ae→Prop) (r:cY) (a:Act) (w:World) (Q:Exit→Act→World→Prop),
  lC P N c C Kn Kx r w.heap→Agree N r a→(∀S a w,¬Q (.panic S) a w)→
  (∀g a' w',Agree N g a'→Fr (fun t=>gu t c=true) a w a' w'→Kn g w'.heap→Q .normal a' w')→
  (∀i g a' w',Agree N g a'→Fr (fun t=>gu t c=true) a w a' w'→Kx (.exit i) g w'.heap→Q (.exit i) a' w')→
  (∀g a' w',Agree N g a'→Fr (fun t=>gu t c=true) a w a' w'→Kx .ret g w'.heap→Q .ret a' w')→
  c.wpIn (FW ro) n P Q a w:=by
 induction c with
 |skip=>
  intro C Kn Kx r a w Q j q _ u _ _;exact wpIn_skip (u r a w q (Fr.refl ..) j)
 |region id ops dr=>
  intro C Kn Kx r a w Q j q A u _ _;cases C with
  |reg keep inner=>
   have j:Dz P N ops.toList dr inner (fun g I=>match QY g keep with|some r0=>Kn r0 I|none=>False) r w.heap:=j
   refine mC s j q A fun g a' w' O W hk=>?_
   split at hk
   ·rename_i r0 hr0
    refine u r0 a' w' ⟨O.size,fun t v hv=>O.look t v (Ki hr0 t v hv).2⟩ W hk
   ·exact hk.elim
  |nil=>exact mC s (show Dz P N ops.toList dr (.nil) Kn r w.heap from j) q A u
  |node x y=>exact mC s (show Dz P N ops.toList dr (.node x y) Kn r w.heap from j) q A u
  |join st x y=>exact mC s (show Dz P N ops.toList dr (.join st x y) Kn r w.heap from j) q A u
  |loop st y=>exact mC s (show Dz P N ops.toList dr (.loop st y) Kn r w.heap from j) q A u
  |draw d=>exact mC s (show Dz P N ops.toList dr (.draw d) Kn r w.heap from j) q A u
  |kinds k v=>exact mC s (show Dz P N ops.toList dr (.kinds k v) Kn r w.heap from j) q A u
  |rf ks x y=>exact mC s (show Dz P N ops.toList dr (.rf ks x y) Kn r w.heap from j) q A u
 |seq x y ihx ihy=>
  intro C Kn Kx r a w Q j q A u hx F;have D:∀{a' w'},Fr (fun t=>gu t x=true) a w a' w'→Fr (fun t=>gu t (.seq x y)=true) a w a' w':=fun h=>h.mono fun t R=>by rw[Ga,LZ];exact .inl R
  have B:∀{a' w' H G},Fr (fun t=>gu t x=true) a w a' w'→Fr (fun t=>gu t y=true) a' w' H G→Fr (fun t=>gu t (.seq x y)=true) a w H G:=
   fun h k=>(D h).trans (k.mono fun t R=>by rw[Ga,LZ];exact .inr R)
  have plain:∀V L,lC P N x V (fun g I=>lC P N y L Kn Kx g I) Kx r w.heap→(Code.seq x y).wpIn (FW ro) n P Q a w:=fun V L j=>by
   refine wpIn_seq (ihx V _ Kx r a w _ j q (fun S a w=>A S a w) ?_ (fun i g a' w' p h2 o=>hx i g a' w' p (D h2) o) (fun g a' w' p h2 o=>F g a' w' p (D h2) o))
   intro r1 U Y E z K;exact ihy L Kn Kx r1 U Y Q K E A (fun g a' w' p h2 o=>u g a' w' p (B z h2) o) (fun i g a' w' p h2 o=>hx i g a' w' p (B z h2) o) (fun g a' w' p h2 o=>F g a' w' p (B z h2) o)
  cases C with
  |join st V L=>
   have j:(match Ao x with
      |none=>False
      |some m=>Join (T:=uO (AX st)) (fun t I=>lC P N y L Kn Kx (om st (na (AX st) t) (yJ m r)) I)
       fun J=>lC P N x V (fun g I=>EA st g fun t=>J t I) Kx r w.heap):=j
   split at j
   ·exact j.elim
   ·rename_i m hm
    refine wpIn_seq (ihx V _ Kx r a w _ j.run q (fun S a w=>A S a w) ?_ (fun i g a' w' p h2 o=>hx i g a' w' p (D h2) o) (fun g a' w' p h2 o=>F g a' w' p (D h2) o))
    intro r1 U Y E z K;obtain⟨t,hst,hs2⟩:=yr K;have ha2:Agree N (om st (na (AX st) t) (yJ m r)) U:=E.zip hst (q.keep hm z E);exact ihy L Kn Kx _ U Y Q hs2 ha2 A (fun g a' w' p h2 o=>u g a' w' p (B z h2) o) (fun i g a' w' p h2 o=>hx i g a' w' p (B z h2) o) (fun g a' w' p h2 o=>F g a' w' p (B z h2) o)
  |_=>exact plain _ _ j
 |cond c x y ihx ihy=>
  intro C Kn Kx r a w Q j q A u hx F;have j:(match dQ r c with
   |some (.bool t)=>CondP t (lC P N x C.l Kn Kx r w.heap) (lC P N y C.r Kn Kx r w.heap)
   |_=>False):=j
  have D:∀{a' w'},Fr (fun t=>gu t x=true) a w a' w'→Fr (fun t=>gu t (.cond c x y)=true) a w a' w':=fun h=>h.mono fun t R=>by rw[Et,LZ];exact .inl R
  have B:∀{a' w'},Fr (fun t=>gu t y=true) a w a' w'→Fr (fun t=>gu t (.cond c x y)=true) a w a' w':=fun h=>h.mono fun t R=>by rw[Et,LZ];exact .inr R
  split at j
  ·rename_i t R
   refine wpIn_cond_split (kW q R) (fun e=>?_) (fun e=>?_)
   ·exact ihx _ Kn Kx r a w Q (j.yes e) q A (fun g a' w' p h2 o=>u g a' w' p (D h2) o) (fun i g a' w' p h2 o=>hx i g a' w' p (D h2) o) (fun g a' w' p h2 o=>F g a' w' p (D h2) o)
   ·exact ihy _ Kn Kx r a w Q (j.no e) q A (fun g a' w' p h2 o=>u g a' w' p (B h2) o) (fun i g a' w' p h2 o=>hx i g a' w' p (B h2) o) (fun g a' w' p h2 o=>F g a' w' p (B h2) o)
  ·exact j.elim
 |block id b ih=>
  intro C Kn Kx r a w Q j q A u hx F;refine wpIn_block (ih C Kn _ r a w _ j q (fun S a w=>A S a w) u (fun i g a' w' p h2 o=>?_) F)
  simp only[Exit.inBlock]at o⊢;cases hi:aM i id with
  |true=>
   rw[hi,cond_true]at o;rw[if_pos (bG hi)];exact u g a' w' p h2 o
  |false=>
   rw[hi,cond_false]at o;rw[if_neg (fun e=>by rw[e,sR]at hi;cases hi)]
   exact hx i g a' w' p h2 o
 |loop b ih=>
  intro C Kn Kx r a w Q j q A u hx F;cases C with
  |loop st L=>
   have j:(match Ao b with
      |none=>False
      |some m=>EA st r fun t0=>LoopP (T:=uO (AX st)) (fun Z t I=>lC P N b L (fun g h''=>EA st g fun t'=>Z t' h'') Kx (om st (na (AX st) t) (yJ m r)) I) t0 w.heap):=j
   split at j
   ·exact j.elim
   ·rename_i m hm
    obtain⟨t0,X,hl⟩:=yr j;have h0:=hl.run (fun t I=>∀a' w',w'.heap=I→Agree N (om st (na (AX st) t) (yJ m r)) a'→Fr (fun t=>gu t b=true) a w a' w'→LWP ro n P b Q a' w') (fun t I hF a' w' hw O W=>by
     subst hw
     refine LWP.step (ih L _ Kx _ a' w' _ hF O (fun S a w=>A S a w) ?_ (fun i g H G p h2 o=>hx i g H G p (W.trans h2) o) (fun g H G p h2 o=>F g H G p (W.trans h2) o))
     intro r1 U Y E z K
     obtain⟨t1,hst1,hk1⟩:=yr K
     exact hk1 U Y rfl (E.zip hst1 (q.keep hm (W.trans z) E)) (W.trans z))
    exact LWP.loop (h0 a w rfl (q.zip X (q.keep hm (Fr.refl _ a w) q)) (Fr.refl _ a w))
  |_=>exact j.elim
 |rangeFunc f params assign body _ _=>intro C Kn Kx r a w Q j;exact j.elim
 |exit id=>
  intro C Kn Kx r a w Q j q A u hx F;exact wpIn_exit (hx id r a w q (Fr.refl ..) j)
 |scope b _=>intro C Kn Kx r a w Q j;exact j.elim
 |label l=>
  intro C Kn Kx r a w Q j q A u hx F;exact wpIn_label (u r a w q (Fr.refl ..) j)
 |goto l=>intro C Kn Kx r a w Q j;exact j.elim
 |ret=>
  intro C Kn Kx r a w Q j q A u hx F;exact wpIn_ret (F r a w q (Fr.refl ..) j)
 |refuse why=>intro C Kn Kx r a w Q j;exact j.elim
end Go.Lift
namespace Go.Lift
open Go
variable {P:Program}
theorem qs{N:Nat}{r:cY}{a:Act}{w:World}(e:Agree N r a):∀{l:List ResultVar} {K:List Value→Prop},oq P r w.heap l K→
  ∃vs,(∀g:ResultVar→Sem Value,(∀t,g (.tmp t)=pure (a.tmps.getD t undef))→(∀x t,g (.cell x t)=do loadVar t (←asAddr (a.tmps.getD x undef)))→(l.mapM g).run P w=.ok vs w)∧K vs
 | [],K,h=>⟨[],fun g _ _=>by rw[List.mapM_nil];rfl,h⟩
 | .tmp t::l,K,h=>by
  unfold oq at h;split at h
  ·rename_i v hv
   obtain⟨vs,i,f⟩:=qs e h;refine⟨v::vs,fun g c d=>?_,f⟩
   rw[List.mapM_cons,c];simp only[bf,cd,aF];rw[i g c d];simp only[aF,e.look t v hv]
  ·exact h.elim
 | .cell x t::l,K,h=>by
  unfold oq at h;split at h
  ·rename_i v hv
   obtain⟨u,S,o,n,m⟩:=EH h;obtain⟨vs,i,f⟩:=qs e o;refine⟨u::vs,fun g c d=>?_,f⟩
   rw[List.mapM_cons,d];have j:(do loadVar t (←asAddr (a.tmps.getD x undef)):Sem Value).run P w=.ok u w:=by
    rw[e.look x v hv];unfold M5 at h;cases v with
    |pointer p=>cases p with
     |none=>exact h.elim
     |some b=>exact m w n
    |_=>exact h.elim
   simp only[bf]at j⊢;rw[j];simp only[aF];rw[i g c d];simp only[cd,aF]
  ·exact h.elim
theorem JK(ks:List Kind)(t:uO ks):(if h:(na ks t).toArray.size=1 then(na ks t).toArray[0]else Value.tuple (na ks t).toArray)=DG ks (na ks t):=by
 match ks,t with
 | [],t=>rfl
 | [k],t=>rfl
 |k::l::ks,(x,t)=>
  have:(na (k::l::ks) (x,t)).length=(k::l::ks).length:=uz _ _;rw[dif_neg (by simp only[dD,this,av];omega)];rfl
theorem xq:∀(vs:List Value) (i t:Nat) (v:Value),kU (qv i vs) t=some v→i≤t∧vs[t-i]? =some v
 | [],i,t,v,h=>by cases h
 |u::vs,i,t,v,h=>by
  by_cases e:i=t
  ·subst e
   rw[show qv i (u::vs)=(i,u)::qv (i+1) vs from rfl,jh]at h
   cases h;exact⟨Nat.le_refl _,by simp⟩
  ·rw[show qv i (u::vs)=(i,u)::qv (i+1) vs from rfl,ia u _ e]at h
   obtain⟨b,h2⟩:=xq vs (i+1) t v h;refine⟨by omega,?_⟩;rw[show t-i=(t-(i+1))+1 by omega,List.getElem?_cons_succ]
   exact h2
theorem Rb(f:P.follows .mixedOrders=true){n:Nat}{fn:Func}{c:Code}{o:Ann}{args:List Value}{ks:List Kind}{K:uO ks→ae→Prop}{w:World}(m:args.length≤fn.ntmps)(p:Gv P fn c o args ks K w.heap):
  c.wpIn (FW none) n P (bodyPost P fn fun e w'=>Tame w w'∧∃t:uO ks,e=.returned (DG ks (na ks t))∧K t w'.heap) {tmps:=args.toArray++ox (fn.ntmps-args.toArray.size) undef,defers:= []} w:=by
 have s:Agree fn.ntmps (qv 0 args) {tmps:=args.toArray++ox (fn.ntmps-args.toArray.size) undef,defers:= []}:=by
  refine⟨by simp;omega,fun t v hv=>?_⟩
  obtain⟨_,h2⟩:=xq args 0 t v hv;simp only[ec]at h2;have b:=(bv.1 h2).1;simp[Array.getElem?_append,b];rw[ag b]at h2;cases h2;rfl
 have fin:∀i a' (w':World),Agree fn.ntmps i a'→Fr (fun t=>gu t c=true) {tmps:=args.toArray++ox (fn.ntmps-args.toArray.size) undef,defers:= []} w a' w'→
   oq P i w'.heap fn.results.toList (fun vs=>Fy ks vs fun t=>K t w'.heap)→
   a'.defers= []∧∃v,(results fn a'.tmps).run P w'=.ok v w'∧(Tame w w'∧∃t:uO ks,Ending.returned v=.returned (DG ks (na ks t))∧K t w'.heap):=fun i a' w' j g q=>by
  obtain⟨vs,d,hd⟩:=qs j q;obtain⟨t,rfl,u⟩:=tI hd;refine⟨g.defers,_,?_,g.tame,t,rfl,u⟩;unfold results;rw[nI];simp only[bf,Sem.run_map];rw[d _ (fun _=>rfl) (fun _ _=>rfl)]
  simp only[aF,cd];rw[←JK]
 exact un f c o _ _ _ _ w _ p s (fun x a w h=>h.2.2.elim fun _ h=>by cases h.1) fin (fun _ _ _ _ _ _ h=>h.elim) fin
theorem HE.intro(d:P.follows .mixedOrders=true){f:FuncId}{fn:Func}{c:Code}{o:Ann}{args:List Value}{ks:List Kind}{K:uO ks→ae→Prop}{h:ae}
  (g:P.funcs[f]? =some fn) (i:fn.body=some c) (b:∀(args:Array Value) (w:World),(callFunc f args).run P w=.ok (.enter f args) w) (e:args.length≤fn.ntmps)
  (m:Gv P fn c o args ks K h):HE P f args ks K h:=by
 refine⟨fun w j=>⟨b,?_⟩⟩
 subst j;exact(callsIn_wide (n:=0)).1 (callsIn_of_wp (F:=FW none) g i trivial (Rb d e m) rfl)
theorem HD.intro(d:P.follows .mixedOrders=true){f:FuncId}{fn:Func}{c:Code}{v:Ann}{args:List Value}{ks:List Kind}{K:ae→Prop}{h:ae}
  (o:P.funcs[f]? =some fn) (p:fn.body=some c) (b:∀(args:Array Value) (w:World),(callFunc f args).run P w=.ok (.enter f args) w) (g:args.length≤fn.ntmps)
  (s:Gv P fn c v args ks (fun _ h'=>K h') h):HD P f args K h:=by
 refine fun w q=>⟨b,fun n=>?_⟩
 subst q;exact(callsDIn_of_wp (F:=FW none) o p trivial (Rb d g s) rfl).mono fun e u w' ⟨j,x,t,i,m⟩=>⟨j,x,⟨_,i⟩,m⟩
theorem HC.intro(d:P.follows .mixedOrders=true){f:FuncId}{fn:Func}{c:Code}{m:Ann}{args:List Value}{ks:List Kind}{K:uO ks→ae→Prop}{h:ae}
 (g:P.funcs[f]? =some fn) (i:fn.body=some c) (b:∀(args:Array Value) (w:World),(callFunc f args).run P w=.ok (.enter f args) w) (e:args.length≤fn.ntmps)
 (j:Gv P fn c m args ks K h):HC P f args ks K h:=(HE.intro d g i b e j).hc
theorem Qd{N:Nat}{args:List Value}(c:args.length≤N):Agree N (qv 0 args) {tmps:=args.toArray++ox (N-args.toArray.size) undef,defers:= []}:=by
 refine⟨by simp;omega,fun t v hv=>?_⟩
 obtain⟨_,h2⟩:=xq args 0 t v hv;simp only[ec]at h2;have b:=(bv.1 h2).1;simp[Array.getElem?_append,b];rw[ag b]at h2;cases h2;rfl
theorem MX{N:Nat}{fn:Func}{ks:List Kind}{K:uO ks→ae→Prop}{d:cY}{a':Act}{w':World}(c:Agree N d a')(e:oq P d w'.heap fn.results.toList (fun vs=>Fy ks vs fun t=>K t w'.heap)):
  ∃t:uO ks,(results fn a'.tmps).run P w'=.ok (DG ks (na ks t)) w'∧K t w'.heap:=by
 obtain⟨vs,b,hd⟩:=qs c e;obtain⟨t,rfl,f⟩:=tI hd;refine⟨t,?_,f⟩;unfold results;rw[nI];simp only[bf,Sem.run_map];rw[b _ (fun _=>rfl) (fun _ _=>rfl)]
 simp only[aF,cd];rw[←JK]
end Go.Lift
namespace Go.Lift
open Go
variable {P:Program}
abbrev GW(D:Nat):Deferred:={target:=.collected D,args:= #[]}
abbrev qh:Mk→Deferred
 | .it D=>GW D
 | .call f vs=>{target:=.fn (.func f) #[],args:= #[]++vs.toArray}
theorem HI{N:Nat}:∀{ps:List Nat} {vs:List Value} {r:cY} {tmps:Array Value},Bf N ps=true→Agree N r {tmps:=tmps,defers:= []}→
  Agree N (Wc ps vs r) {tmps:=(ps.zip vs).foldl (fun t x=>t.setIfInBounds x.1 x.2) tmps,defers:= []}
 | [],vs,r,tmps,_,h=>by cases vs<;>exact h
 |i::ps,[],r,tmps,_,h=>h
 |i::ps,v::vs,r,tmps,b,h=>by
  have b:(Ae i N&&Bf N ps)=true:=b;rw[aO]at b;have c:i<N:=by simpa using b.1
  have:=h.put i v c;exact HI (tmps:=tmps.setIfInBounds i v) b.2 this
theorem Gl(w:World)(o:Obj):Tame w (w.alloc o):=⟨rfl,rfl,rfl⟩
theorem oM(w:World)(b:Nat)(o:Obj):Tame w (w.putObj b o):=⟨rfl,rfl,rfl⟩
theorem Nb(w:World)(b:Nat)(o:Obj):(w.putObj b o).heap=w.heap.setIfInBounds b o:=rfl
theorem Ro(ps:Array Nat)(vs:List Value)(t:Array Value):(ps.zip vs.toArray).foldl (fun t (x:Nat×Value)=>t.setIfInBounds x.1 x.2) t=(ps.toList.zip vs).foldl (fun t x=>t.setIfInBounds x.1 x.2) t:=by
 obtain⟨l⟩:=ps;simp
theorem Fq(B:P.follows .mixedOrders=true){n N:Nat}{g:Operand}{ps:Array Tmp}{assign body:Code}{aa ab:Ann}{ks:List Kind}{fv:Value}{r:cY}{a:Act}{w:World}{Q:Exit→Act→World→Prop}
  {KN:ae→Prop}{KX:Nat→ae→Prop}{KR:ae→Prop}(X:Bf N ps.toList=true)(G:ps.toList.length=ks.length)(hg:dQ r g=some fv)(Z:Agree N r a)
  (hR:RangeP P fv ks w.heap (fun Mz bz x k h'=>O2 P N ps.toList ks assign body (.node aa ab) r (w.heap.size+1) Mz bz x k h') KN KX KR)
  (hn:∀w',Tame w w'→KN w'.heap→Q .normal {a with defers:=GW w.heap.size::a.defers} w')
  (hx:∀i w',Tame w w'→KX i w'.heap→Q (.exit i) {a with defers:=GW w.heap.size::a.defers} w')
  (hr:∀w',Tame w w'→KR w'.heap→Q .ret {a with defers:=GW w.heap.size::a.defers} w'):(Code.rangeFunc g ps assign body).wpIn (FW none) n P Q a w:=by
 refine wpIn_rangeFunc fun fn _=>?_
 obtain⟨lo,p⟩:∃lo:LoopState→Option Ex→Obj,lo=fun s j=>.loop {state:=s,pending:=LN j,fn,tmps:=a.tmps,params:=ps,assign,body,defers:=w.heap.size}:=⟨_,rfl⟩
 have hj:∀j:Option Ex,(LN j).isNone=j.isNone:=fun j=>by rcases j with _|⟨_|_⟩<;>rfl
 obtain⟨f,first,cap,rfl,he⟩:=hR.run lo (fun s j=>⟨_,by rw[p]⟩) (fun x h' K q z=>by
  refine⟨.inr ⟨_,rfl,⟨fun L hw1=>?_⟩⟩⟩
  subst hw1
  rw[p]at q
  have hy:=run_yield (P:=P) (args:=(na ks x).toArray) q (by simp only[dD,uz];rw[←G];rfl)
  refine⟨_,_,_,_,hy,fun c cs=>?_⟩
  have hA:Agree N (Wc ps.toList (na ks x) r) {tmps:=(ps.zip (na ks x).toArray).foldl (fun t (x:Nat×Value)=>t.setIfInBounds x.1 x.2) a.tmps,defers:= []}:=by
   rw[Ro]
   exact HI X ⟨Z.size,Z.look⟩
  have m:∀j:Option Ex,∀W:World,Tame L W→(W.heap[w.heap.size+1]? =some (lo .busy none)∧K j.isNone (W.heap.setIfInBounds (w.heap.size+1) (lo (if j.isNone then .ready else .done) j)))→
    ∃v w',(Instr.endRound (w.heap.size+1) (LN j)).run P W=.ok v w'∧∃b,Ending.returned v=.returned (.bool b)∧Tame L w'∧K b w'.heap:=by
   rintro j W O ⟨h1,h2⟩
   rw[p]at h1
   have:=run_endRound (P:=P) (LN j) h1
   refine⟨_,_,this,_,rfl,O.trans (oM ..),?_⟩
   rw[p]at h2
   rw[hj]
   exact h2
  have:=roundIn_of_wpIn (F:=FW none) (n:=0) (P:=P) (l:=w.heap.size+1) (f:=fn) (assign:=assign) (body:=body) (w:=L)
   (tmps:=(ps.zip (na ks x).toArray).foldl (fun t (x:Nat×Value)=>t.setIfInBounds x.1 x.2) a.tmps)
   (R:=fun e w'=>∃b,e=.returned (.bool b)∧Tame L w'∧K b w'.heap) trivial (by
    refine un (ro:=some (w.heap.size+1)) B assign aa _ _ _ _ L _ z hA (fun ch a w h=>h) ?_ (fun i r' a' w' _ _ h=>h.elim) (fun r' a' w' _ _ h=>h.elim)
    rintro r2 a2 V U D ⟨y,C⟩
    rw[p]at y
    refine⟨_,run_beginRound y rfl,?_⟩
    have S:∀o,o=lo .busy none→V.heap.setIfInBounds (w.heap.size+1) o=V.heap.setIfInBounds (w.heap.size+1) (lo .busy none):=fun o T=>by rw[T]
    refine un (ro:=some (w.heap.size+1)) B body ab (fun _ h2=>_) (fun e _ h2=>_) _ _ (V.putObj (w.heap.size+1) _) _ (by
     rw[Nb,S _ (by rw[p])];exact C) U (fun ch a w h=>h) ?_ ?_ ?_
    ·rintro r3 a3 J H u I
     exact m none J ((D.tame.trans (oM ..)).trans u.tame) I
    ·rintro i r3 a3 J H u I
     exact m (some (.exit i)) J ((D.tame.trans (oM ..)).trans u.tame) I
    ·rintro r3 a3 J H u I
     exact m (some .ret) J ((D.tame.trans (oM ..)).trans u.tame) I)
  obtain⟨e,w',⟨b,rfl,O,hK⟩,hs⟩:=this.2 c cs (fun d h=>by simp[FW]at h)
  exact⟨b,w',O,hK,hs.steps⟩)
 have A:=he.run ((w.alloc (.deferred (some []))).alloc (lo .ready none)) rfl;refine⟨w.heap.size+1,[GW w.heap.size],(w.alloc (.deferred (some []))).alloc (lo .ready none),{target:=.fn (.func f) cap,args:=first++ #[.func (.yield (w.heap.size+1)) #[] #[]]},(w.alloc (.deferred (some []))).alloc (lo .ready none),f,
  first++ #[.func (.yield (w.heap.size+1)) #[] #[]]++cap,(w.alloc (.deferred (some []))).alloc (lo .ready none),?_,?_,fun _ _=>trivial,?_,fun h=>by simp[FW]at h,?_⟩
 ·rw[p];exact run_enterLoop_outer fn a.tmps ps assign body
 ·have hev:=kW Z hg
  simp[resolve,hev,Deferred.ofValue,cd];rfl
 ·simp[invoke,A.1]
 ·refine Hy ?_
  have e:(first.toList++ [Value.func (.yield (w.heap.size+1)) #[] #[]]++cap.toList).toArray=first++ #[.func (.yield (w.heap.size+1)) #[] #[]]++cap:=by apply dx;simp
  rw[←e];refine A.2.mono ?_;rintro e w' ⟨O,t,rfl,s,j,hs,q,m⟩;have Y:Tame w w':=((Gl w _).trans (Gl _ _)).trans O;rw[p]at q;refine⟨_,_,run_endLoop q hs,?_⟩;have E:∀o,Tame w (w'.putObj (w.heap.size+1) o):=fun o=>Y.trans (oM ..)
  have S:∀o,o=lo .exhausted j→(w'.putObj (w.heap.size+1) o).heap=w'.heap.setIfInBounds (w.heap.size+1) (lo .exhausted j):=fun o T=>by rw[T];rfl
  rcases j with _|⟨i|_⟩
  ·exact hn _ (E _) (by rw[S _ (by rw[p])];exact m)
  ·exact wpIn_exit (hx i _ (E _) (by rw[S _ (by rw[p])];exact m))
  ·exact wpIn_ret (hr _ (E _) (by rw[S _ (by rw[p])];exact m))
theorem Ho{n N id d:Nat}{ops:Array Oper}{m o:Oper}{x:Operand}{f:FuncId}{as:List Operand}{vs:List Value}{v:Value}{r:cY}{a:Act}{w:World}{Q:Exit→Act→World→Prop}(b:Hp ops.toList=some (m,o,x,d,f,as))(hv:dQ r x=some v)(u:d<N)(g:oz ((d,v)::r) as=some vs)(i:Agree N r a)
  (z:∀a',Agree N ((d,v)::r) a'→a'.defers=qh (.call f vs)::a.defers→Q .normal a' w):(Code.region id ops false).wpIn (FW none) n P Q a w:=by
 unfold Hp at b;split at b
 ·rename_i m' o' hl
  split at b
  ·rename_i x' d' c h1 h2 h3 h4 h5 h6
   split at b
   ·rename_i f' hc
    cases b;have j:ops[0]? =some m:=by rw[←bP,hl];rfl
    have C:ops[1]? =some o:=by rw[←bP,hl];rfl
    have es:ops.size=2:=by rw[←Array.length_toList,hl];rfl
    have q:∀y,Region.wanted m y=true:=fun y=>by simp[Region.wanted,h2]
    have A:∀y,Region.wanted o y=true:=fun y=>by simp[Region.wanted,h6]
    refine wpIn_region ?_;rw[es,show eR 2= [0,1]from rfl]
    simp only[wpOpsIn,j,C,q,A,if_true];refine BigFrame.wpIn_move x h1 ?_;rw[kW i hv,h3];have e:=i.put d v u;refine⟨fun _ _=>trivial,?_⟩
    have p:((Oper.semAt (FW none).round (a.put (some d) v).eval o).run P w)=.ok (.defer (qh (.call f vs))) w:=by
     show((execOp (a.put (some d) v).eval o).run P w)=_
     have s:=mY e g;have B:c.args.map (a.put (some d) v).eval=vs.toArray:=by rw[←s];apply dx;simp
     simp only[execOp,h4,resolve,hc,B];simp[Act.eval,Deferred.ofValue,qh]
    rw[p,Oper.uponIn_defer,h5];exact z _ ⟨e.size,e.look⟩ rfl
   ·cases b
  ·cases b
 ·cases b
theorem Lf(G:P.follows .mixedOrders=true){n N:Nat}(c:Code):∀(s:Ann) (Kn:List Mk→cY→ae→Prop) (Kx:Ex→List Mk→cY→ae→Prop) (ms:List Mk) (r:cY) (a:Act) (w:World) (Q:Exit→Act→World→Prop),
  A2 P N c s Kn Kx ms r w.heap→Agree N r a→a.defers=ms.map qh→(∀I a w,¬Q (.panic I) a w)→
  (∀p q a' w',Agree N q a'→a'.defers=p.map qh→Tame w w'→Kn p q w'.heap→Q .normal a' w')→
  (∀i p q a' w',Agree N q a'→a'.defers=p.map qh→Tame w w'→Kx (.exit i) p q w'.heap→Q (.exit i) a' w')→
  (∀p q a' w',Agree N q a'→a'.defers=p.map qh→Tame w w'→Kx .ret p q w'.heap→Q .ret a' w')→
  c.wpIn (FW none) n P Q a w:=by
 have plain:∀(c:Code) (s:Ann) (Kn:List Mk→cY→ae→Prop) (Kx:Ex→List Mk→cY→ae→Prop) (ms:List Mk) (r:cY) (a:Act) (w:World) (Q:Exit→Act→World→Prop),
  lC P N c s (Kn ms) (fun e=>Kx e ms) r w.heap→Agree N r a→a.defers=ms.map qh→(∀I a w,¬Q (.panic I) a w)→
  (∀p q a' w',Agree N q a'→a'.defers=p.map qh→Tame w w'→Kn p q w'.heap→Q .normal a' w')→
  (∀i p q a' w',Agree N q a'→a'.defers=p.map qh→Tame w w'→Kx (.exit i) p q w'.heap→Q (.exit i) a' w')→
  (∀p q a' w',Agree N q a'→a'.defers=p.map qh→Tame w w'→Kx .ret p q w'.heap→Q .ret a' w')→
  c.wpIn (FW none) n P Q a w:=by
  intro c s Kn Kx ms r a w Q j u hd B z hx A;exact un G c s _ _ r a w Q j u B (fun q a' w' D h2 C=>z ms q a' w' D (h2.defers.trans hd) h2.tame C) (fun i q a' w' D h2 C=>hx i ms q a' w' D (h2.defers.trans hd) h2.tame C)
   (fun q a' w' D h2 C=>A ms q a' w' D (h2.defers.trans hd) h2.tame C)
 induction c with
 |skip=>intro s Kn Kx ms r a w Q j;exact plain _ s Kn Kx ms r a w Q j
 |region id ops dr=>
  intro s Kn Kx ms r a w Q j u hd B z hx A;have j:(match Hp ops.toList with
   |none=>lC P N (.region id ops dr) s (Kn ms) (fun e=>Kx e ms) r w.heap
   |some (_,_,x,d,f,as)=>bif dr then False else match dQ r x with
    |some v=>bif Ae d N then(match oz ((d,v)::r) as with|some vs=>Kn (.call f vs::ms) ((d,v)::r) w.heap|none=>False)else False
    |none=>False):=j
  split at j
  ·exact plain _ s Kn Kx ms r a w Q j u hd B z hx A
  ·rename_i m o x d f as he
   cases dr with
   |true=>exact j.elim
   |false=>
    rw[cond_false]at j;split at j
    · rename_i v hv
      cases hb:Ae d N with
      |false=>rw[hb]at j;exact j.elim
      |true=>
       rw[hb,cond_true]at j;split at j
       ·rename_i vs hvs
        refine Ho he hv (by simpa using hb) hvs u fun a' V S=>z (.call f vs::ms) _ a' w V ?_ ⟨rfl,rfl,rfl⟩ j
        rw[S,hd];rfl
       ·exact j.elim
    · exact j.elim
 |seq x y ihx ihy=>
  intro s Kn Kx ms r a w Q j u hd B z hx A;have j:(bif (bif tG x then true else tG y)then A2 P N x s.l (fun ms q E=>A2 P N y s.r Kn Kx ms q E) Kx ms r w.heap
   else lC P N (.seq x y) s (Kn ms) (fun e=>Kx e ms) r w.heap):=j
  cases hb:(bif tG x then true else tG y)with
  |false=>rw[hb]at j;exact plain _ _ _ _ _ _ _ _ _ j u hd B z hx A
  |true=>
   rw[hb,cond_true]at j;refine wpIn_seq (ihx s.l _ Kx ms r a w _ j u hd (fun I a w=>B I a w) ?_ hx A)
   intro R X Y Z O U J T;exact ihy s.r Kn Kx R X Y Z Q T O U B (fun p q a' w' D h2 C F=>z p q a' w' D h2 (J.trans C) F) (fun i p q a' w' D h2 C F=>hx i p q a' w' D h2 (J.trans C) F)
    (fun p q a' w' D h2 C F=>A p q a' w' D h2 (J.trans C) F)
 |cond c x y ihx ihy=>
  intro s Kn Kx ms r a w Q j u hd B z hx A;have j:(bif (bif tG x then true else tG y)then
    (match dQ r c with
     |some (.bool t)=>CondP t (A2 P N x s.l Kn Kx ms r w.heap) (A2 P N y s.r Kn Kx ms r w.heap)
     |_=>False)
   else lC P N (.cond c x y) s (Kn ms) (fun e=>Kx e ms) r w.heap):=j
  cases hb:(bif tG x then true else tG y)with
  |false=>rw[hb]at j;exact plain _ _ _ _ _ _ _ _ _ j u hd B z hx A
  |true=>
   rw[hb,cond_true]at j;split at j
   ·rename_i t H
    exact wpIn_cond_split (kW u H) (fun e=>ihx _ Kn Kx ms r a w Q (j.yes e) u hd B z hx A) (fun e=>ihy _ Kn Kx ms r a w Q (j.no e) u hd B z hx A)
   ·exact j.elim
 |block id b ih=>
  intro s Kn Kx ms r a w Q j u hd B z hx A;have j:(bif tG b then A2 P N b s Kn (fun e ms q E=>match e with
    | .exit i=>bif aM i id then Kn ms q E else Kx (.exit i) ms q E
    | .ret=>Kx .ret ms q E) ms r w.heap
   else lC P N (.block id b) s (Kn ms) (fun e=>Kx e ms) r w.heap):=j
  cases hb:tG b with
  |false=>rw[hb]at j;exact plain _ _ _ _ _ _ _ _ _ j u hd B z hx A
  |true=>
   rw[hb,cond_true]at j;refine wpIn_block (ih s Kn _ ms r a w _ j u hd (fun I a w=>B I a w) z (fun i p q a' w' D h2 C F=>?_) A)
   simp only[Exit.inBlock]at F⊢;cases hi:aM i id with
   |true=>
    rw[hi,cond_true]at F;rw[if_pos (bG hi)];exact z p q a' w' D h2 C F
   |false=>
    rw[hi,cond_false]at F;rw[if_neg (fun e=>by rw[e,sR]at hi;cases hi)]
    exact hx i p q a' w' D h2 C F
 |loop b ih=>intro s Kn Kx ms r a w Q j;exact plain _ s Kn Kx ms r a w Q j
 |rangeFunc g ps assign body _ _=>
  intro s Kn Kx ms r a w Q j u hd B z hx A;cases s with
  |rf ks aa ab=>
   have j:(bif Bf N ps.toList&&aM ps.toList.length ks.length then
    (match dQ r g with
     |some fv=>RangeP P fv ks w.heap (fun Mz bz x k E=>O2 P N ps.toList ks assign body (.node aa ab) r (w.heap.size+1) Mz bz x k E)
       (fun E=>Kn (.it w.heap.size::ms) r E) (fun i E=>Kx (.exit i) (.it w.heap.size::ms) r E) (fun E=>Kx .ret (.it w.heap.size::ms) r E)
     |none=>False)else False):=j
   cases hb:(Bf N ps.toList&&aM ps.toList.length ks.length)with
   |false=>rw[hb]at j;exact j.elim
   |true=>
    rw[hb,cond_true]at j;rw[aO]at hb;split at j
    · rename_i fv hfv
      have W:Agree N r {a with defers:=GW w.heap.size::a.defers}:=⟨u.size,u.look⟩;have L:({a with defers:=GW w.heap.size::a.defers}:Act).defers=(.it w.heap.size::ms).map qh:=by rw[List.map_cons,←hd]
      exact Fq G hb.1 (bG hb.2) hfv u j (fun w' H K=>z _ r _ w' W L H K) (fun i w' H K=>hx i _ r _ w' W L H K) (fun w' H K=>A _ r _ w' W L H K)
    · exact j.elim
  |_=>exact j.elim
 |exit id=>intro s Kn Kx ms r a w Q j;exact plain _ s Kn Kx ms r a w Q j
 |scope b _=>intro s Kn Kx ms r a w Q j;exact j.elim
 |label l=>intro s Kn Kx ms r a w Q j;exact plain _ s Kn Kx ms r a w Q j
 |goto l=>intro s Kn Kx ms r a w Q j;exact j.elim
 |ret=>intro s Kn Kx ms r a w Q j;exact plain _ s Kn Kx ms r a w Q j
 |refuse why=>intro s Kn Kx ms r a w Q j;exact j.elim
theorem xa{fn:Func}{ks:List Kind}{K:uO ks→ae→Prop}{N:Nat}{n:Nat}{r:cY}{a:Act}{g:World}(d:Agree N r a):∀(ms:List Mk) (w:World),Tame g w→
  MR P ms (fun i=>oq P r i fn.results.toList fun vs=>Fy ks vs fun t=>K t i) w.heap→
  LeavesInM (FW none) n P fn a.tmps (fun e w'=>Tame g w'∧∃t:uO ks,e=.returned (DG ks (na ks t))∧K t w'.heap) (ms.map qh) .returning w
 | [],w,ht,h=>by
  obtain⟨t,b,p⟩:=MX d h;exact⟨_,b,ht,t,rfl,p⟩
 | .it D::ms,w,ht,h=>by
  refine⟨by simp,.inl ⟨D,_,rfl,run_takeDeferred h.1,?_⟩⟩;exact xa d ms (w.putObj D (.deferred none)) (ht.trans (oM ..)) h.2
 | .call f vs::ms,w,ht,h=>by
  obtain⟨hc,hd⟩:=h w rfl;refine⟨by simp,.inr ⟨(fun e=>by cases e),.func f,#[],f,vs.toArray,rfl,?_,fun _ _=>trivial,CallsDIn.mono (hd (n-1)) fun e u w' ⟨m,c,⟨v,j⟩,o⟩=>?_⟩⟩
  ·have:=hc vs.toArray w
   simpa[invoke]using this
  ·subst m j
   exact xa d ms w' (ht.trans c) o
theorem HE.introM(m:P.follows .mixedOrders=true){f:FuncId}{fn:Func}{c:Code}{s:Ann}{args:List Value}{ks:List Kind}{K:uO ks→ae→Prop}{h:ae}
  (x:P.funcs[f]? =some fn) (y:fn.body=some c) (g:∀(args:Array Value) (w:World),(callFunc f args).run P w=.ok (.enter f args) w) (o:args.length≤fn.ntmps)
  (v:O3 P fn c s args ks K h):HE P f args ks K h:=by
 refine⟨fun w z=>⟨g,?_⟩⟩
 subst z;refine(callsIn_wide (n:=0)).1 (callsIn_of_wp_marks (F:=FW none) x y trivial ?_ rfl);refine wpIn_mono (Q:=fun e a w'=>(∀p,e≠ .panic p)∧bodyPostM (FW none) 0 P fn (fun e w'=>Tame w w'∧∃t:uO ks,e=.returned (DG ks (na ks t))∧K t w'.heap) e a w') ?_ fun e a w h=>h.2
 refine Lf m c s _ _ [] _ _ w _ v (Qd o) rfl (fun p a w h=>h.1 p rfl) ?_ (fun _ _ _ _ _ _ _ _ h=>h.elim) ?_
 ·intro d u a' w' i b j q
  refine⟨(fun _ e=>by cases e),?_⟩
  show LeavesInM _ _ _ _ _ _ a'.defers _ _
  rw[b];exact xa i d w' j q
 ·intro d u a' w' i b j q
  refine⟨(fun _ e=>by cases e),?_⟩
  show LeavesInM _ _ _ _ _ _ a'.defers _ _
  rw[b];exact xa i d w' j q
theorem HC.introM(d:P.follows .mixedOrders=true){f:FuncId}{fn:Func}{c:Code}{m:Ann}{args:List Value}{ks:List Kind}{K:uO ks→ae→Prop}{h:ae}
 (g:P.funcs[f]? =some fn) (i:fn.body=some c) (b:∀(args:Array Value) (w:World),(callFunc f args).run P w=.ok (.enter f args) w) (e:args.length≤fn.ntmps)
 (j:O3 P fn c m args ks K h):HC P f args ks K h:=(HE.introM d g i b e j).hc
end Go.Lift
namespace Go.Lift
open Go
def AppP(z:Option (List Value))(sz bytes:Nat)(t:TypeId)(b:Option Addr)(sl d c:Nat)(xs:List Value)(h:ae)(K:SliceV→ae→Prop):Prop:=
 (sl+c≤d→xw h b (sl*sz) xs∧cF xs=true∧K ⟨b,sl+c,d⟩ (ik h b (sl*sz) xs))∧
 (d<sl+c→∃old z',SRow h b (sl*sz) old∧z=some z'∧0<bytes∧Builtin.nextslicecap (sl+c) d*bytes≤2^48∧
  ∀nc,sl+c≤nc→K ⟨some (aJ h),sl+c,nc⟩ (hnew h (old++xs++fb (nc-(sl+c)) z') t))
def NextP(a:Addr)(h:ae)(Kend:Prop)(Kstep:MapEntry→ae→Prop):Prop:=
 a.off=0∧∃m since seen last,h[a.block]? =some (.mapIter m since seen last)∧
  ((m=none∧Kend)∨
   (∃r es clock,m=some r∧h[r]? =some (.map es clock)∧(seen.isEmpty=true∨es.isEmpty=true∨es.all (fun e=>decide (e.born≥last))=false)∧
    ((∀e∈es.toList,e.born<since→seen.contains e.born=true)→Kend)∧
    (∀e∈es.toList,seen.contains e.born=false→Kstep e (h.setIfInBounds a.block (.mapIter (some r) since (seen.push e.born) clock)))))
end Go.Lift
