/- A part of the proof that the named laws of this program answer true, whatever the input. -/
import Derived.Test.YtceikogjngfacaaGreatLift1
import Derived.BigFrameIn
open Array renaming getD_eq_getD_getElem?→dz,getElem?_toList→bv,getElem?_setIfInBounds_ne→ff,replicate→pw,getElem?_eq_some_iff→ct,getElem?_eq_getElem→jV,getElem?_eq_none→lZ,mapM_eq_mapM_toList→om,ext'→dw
open Bool renaming eq_false_iff→mQ,or_eq_true→iW,and_eq_true→bc,not_eq_true'→ri,or_eq_false_iff→nI
open Go.Result renaming andThen_ok→aB
open Go.Sem renaming run_bind→aU,run_pure→bT
open List renaming mem_of_getElem?→ak,length_cons→ax,mem_cons→au,getElem?_cons_zero→cE,getElem?_eq_getElem→aj,any_eq_true→g8,getElem?_eq_some_iff→aY,mem_cons_of_mem→aR,mem_cons_self→aN,range→fB,filter_cons→g7,mem_singleton→aA,size_toArray→dE
open Nat renaming blt→Ad,beq→bK,eq_of_beq_eq_true→aV,land→km,lor→di,testBit_and→mo,succ→f6,zero_add→bi,beq_refl→uj,lt_or_ge→eD,pred→zL,sub_zero→eX
open Option renaming some→bX
namespace Go.Lift
open Go
variable {P:Program} {ro:Option Nat} {n:Nat}
def FW(ro:Option Nat):Fence:={fn:=fun _=>True,depth:=none,alive:=false,round:=ro}
theorem Pa(m:Machine):m.fenced P (FW ro):=by
 intro g _;exact⟨fun h=>by simp[FW]at h,.inl trivial,fun _ _=>trivial,fun d h=>by simp[FW]at h⟩
theorem AZ{m b:Machine}(h:Steps P m b):StepsIn (Machine.fenced P (FW ro)) P m b:=(StepsIn.of_steps h).mono fun m _=>Pa m
theorem Gc{k:Nat}{f:FuncId}{args:Array Value}{w:World}{R:Ending→World→Prop}(h:Calls P f args w R):CallsIn (FW ro) k P f args w R:=by
 refine⟨trivial,fun cs _=>?_⟩
 obtain⟨e,w',fr,g,hc,b,d⟩:=h cs;refine⟨e,w',fr,g,?_,b,d⟩;cases e with
 |returned v=>exact AZ hc
 |panicked c=>exact AZ hc
 |outgrown=>exact hc
theorem sq{o:Oper}{a:Act}{w:World}{K:WK}{next:Act→World→Prop}{Q:Exit→Act→World→Prop}(hd:∀c,o.op≠ .defer c)(h:Lw P (execOp a.eval o) K w)
  (j:∀v w',Tame w w'→K v w'.heap→next (a.put o.dst v) w'):o.wpIn (FW ro) n P a w next Q:=by
 refine⟨fun _ _=>trivial,?_⟩
 rw[Oper.semAt_eq _ _ _ hd];rcases h with⟨v,w',d,g,i⟩|⟨w',d,g,i⟩|⟨f,args,d,hc⟩|⟨l,fn,tmps,assign,body,d,hc⟩
 ·rw[d];exact j v w' g i
 ·rw[d];exact j undef w' g i
 ·rw[d]
  refine⟨fun h=>by simp[FW]at h,Gc (hc.mono ?_)⟩
  rintro e w' ⟨g,v,rfl,i⟩;exact j v w' g i
 ·rw[d]
  refine⟨fun h=>by simp[FW]at h,trivial,fun c cs _=>?_⟩
  obtain⟨b,w',g,i,k⟩:=hc c cs;exact⟨.returned (.bool b),w',j _ w' g i,AZ k⟩
theorem vF{N:Nat}{o:Oper}{v:Value}{r:cO}{K:cO→Prop}{a:Act}{d:xu}{dv:DV}(h:Bq N o v r K)(c:Agree N r a)(hd:DecOk d r)(hv:HF dv v):
  ∃r',K r'∧Agree N r' (a.put o.dst v)∧DecOk (uc d o dv) r':=by
 unfold Bq at h;unfold uc;cases ho:o.dst with
 |none=>rw[ho]at h;exact⟨r,h,c,hd⟩
 |some t=>
  rw[ho]at h;simp only at h;cases hb:Ad t N with
  |false=>rw[hb]at h;exact h.elim
  |true=>
   rw[hb]at h;have b:t<N:=by simpa using hb
   refine⟨_,h,c.put t v b,fun s=>?_⟩
   by_cases e:t=s
   ·subst e
    have:tH ((t,dv)::d) t=dv:=by simp[tH]
    rw[this];exact .inr ⟨v,jg t v r,hv⟩
   ·have g:tH ((t,dv)::d) s=tH d s:=by
     have:bK t s=false:=mQ.2 fun f=>e (aV f)
     show(bif bK t s then dv else tH d s)=_
     rw[this];rfl
    rw[g,ic v r e];exact hd s
theorem D4{ek:Option (Kind×Kind)}{o:Op}{r:cO}{K:RK}{h:af}(b:CY P ek o r K h):∀c,o≠ .defer c:=by
 intro c e;subst e;exact b
theorem yu{o:Oper}{r:cO}{K:WK}{h:af}(b:GX P o r K h):∀c,o.op≠ .defer c:=by
 intro c e;unfold GX at b;rw[e]at b;exact b
theorem VD{d:xu}{o:Op}(h:yd P o=false):Kj d o=.x:=by
 cases o<;>first|rfl|(simp[yd]at h)
theorem OK{N:Nat}{ek:Option (Kind×Kind)}{o:Oper}{r:cO}{K:cO→af→Prop}{a:Act}{w:World}{d:xu}{next:Act→World→Prop}{Q:Exit→Act→World→Prop}
  (c:UR P N ek o r K w.heap)(i:Agree N r a)(hd:DecOk d r)
  (p:∀v w' f,Tame w w'→K f w'.heap→Agree N f (a.put o.dst v)→DecOk (uc d o (Kj d o.op)) f→next (a.put o.dst v) w'):o.wpIn (FW ro) n P a w next Q:=by
 unfold UR at c;cases hq:yd P o.op with
 |true=>
  rw[hq,cond_true]at c;obtain⟨v,S,m,t,j,q⟩:=Dc i c d hd;refine sq (K:=fun u x=>u=v∧x=w.heap) (D4 c) (.inl ⟨v,w,q w t,Tame.refl w,rfl,rfl⟩) ?_
  rintro u w' k ⟨rfl,s⟩;obtain⟨f,e,g,b⟩:=vF m i hd j;exact p u w' f k (by rw[s];exact e) g b
 |false=>
  rw[hq,cond_false]at c;refine sq (yu c) (C1 i c) ?_;intro v w' k m;obtain⟨f,e,g,b⟩:=vF m i hd (dv:=Kj d o.op) (by rw[VD hq];trivial);exact p v w' f k e g b
theorem Ip{t:Array Value}{i:Nat}{b:Bool}(h:t.getD i undef=.bool b):t[i]? =some (.bool b):=by
 rw[dz]at h;cases hc:t[i]? with
 |none=>rw[hc]at h;simp[undef]at h
 |some v=>rw[hc]at h;simp at h;rw[h]
theorem MY{t:Array Value}{i:Nat}(h:t.getD i undef=undef):t[i]? =none∨t[i]? =some undef:=by
 rw[dz]at h;cases hc:t[i]? with
 |none=>exact .inl rfl
 |some v=>rw[hc]at h;simp at h;rw[h];exact .inr rfl
theorem oH{N:Nat}{ops:Array Oper}{d:xu}{o:Oper}{b:Bool}{r:cO}{a:Act}(h:jG ops.toList d o=some b)(n:Agree N r a)(hd:DecOk d r):
  Region.wanted o (yielded ops a.tmps)=b:=by
 unfold jG at h;unfold Region.wanted;cases hg:o.guard with
 |none=>rw[hg]at h;simp only[bX.injEq]at h;exact h
 |some g=>
  obtain⟨j,c⟩:=g;rw[hg]at h;simp only[bv]at h;simp only;cases hj:ops[j]? with
  |none=>rw[hj]at h;cases h
  |some oj=>
   rw[hj]at h;simp only at h;cases ht:oj.dst with
   |none=>rw[ht]at h;cases h
   |some t=>
    rw[ht]at h;simp only at h;have m:yielded ops a.tmps j=(match a.tmps[t]? with|some (.bool b)=>some b|_=>none):=by
     unfold yielded;simp[hj,ht];rfl
    rw[m];rcases hd t with hx|⟨v,hv,k⟩
    ·rw[hx]at h;cases h
    ·have i:=n.look t v hv
     cases hdl:tH d t with
     |x=>rw[hdl]at h;cases h
     |t=>
      rw[hdl]at h k;simp only[bX.injEq]at h;subst h;have:v=.bool true:=k;subst this;rw[Ip i];cases c<;>rfl
     |f=>
      rw[hdl]at h k;simp only[bX.injEq]at h;subst h;have:v=.bool false:=k;subst this;rw[Ip i];cases c<;>rfl
     |u=>
      rw[hdl]at h k;simp only[bX.injEq]at h;subst h;have:v=undef:=k;subst this;rcases MY i with e|e<;>rw[e]<;>cases c<;>rfl
structure Fr(W:Nat→Prop)(a0:Act)(w0:World)(a:Act)(w:World):Prop where
 tame:Tame w0 w
 defers:a.defers=a0.defers
 same:∀t,¬W t→a.tmps.getD t undef=a0.tmps.getD t undef
theorem Fr.refl(W:Nat→Prop)(a:Act)(w:World):Fr W a w a w:=⟨Tame.refl w,rfl,fun _ _=>rfl⟩
theorem Fr.put{W:Nat→Prop}{f a:Act}{g w w':World}(h:Fr W f g a w){o:Oper}(j:∀d,o.dst=some d→W d)(v:Value)(i:Tame w w'):Fr W f g (a.put o.dst v) w':=by
 refine⟨h.tame.trans i,?_,fun t b=>?_⟩
 ·cases ho:o.dst<;>simp[Act.put,h.defers]
 ·cases ho:o.dst with
  |none=>exact h.same t b
  |some d=>
   have c:d≠t:=fun e=>b (e▸j d ho)
   rw[←h.same t b];simp[Act.put,ff c]
theorem Fr.trans{W:Nat→Prop}{c g e:Act}{i d b:World}(h:Fr W c i g d)(k:Fr W g d e b):Fr W c i e b:=
 ⟨h.tame.trans k.tame,k.defers.trans h.defers,fun t f=>(k.same t f).trans (h.same t f)⟩
theorem Fr.mono{W W':Nat→Prop}{c a:Act}{b w:World}(h:Fr W c b a w)(f:∀t,W t→W' t):Fr W' c b a w:=
 ⟨h.tame,h.defers,fun t d=>h.same t fun e=>d (f t e)⟩
theorem DecOk.known{d:xu}{r:cO}(h:DecOk d r){t:Nat}{dv:DV}{v:Value}(hv:HF dv v):DecOk ((t,dv)::d) ((t,v)::r):=fun s=>by
 by_cases e:t=s
 ·subst e
  have:tH ((t,dv)::d) t=dv:=by simp[tH]
  rw[this];exact .inr ⟨v,jg t v r,hv⟩
 ·have c:tH ((t,dv)::d) s=tH d s:=by
   have:bK t s=false:=mQ.2 fun b=>e (aV b)
   show(bif bK t s then dv else tH d s)=_
   rw[this];rfl
  rw[c,ic v r e];exact h s
theorem E4{N:Nat}{ek:Option (Kind×Kind)}{ops:Array Oper}{o:Oper}{i:Nat}{d:xu}{r:cO}{a:Act}{w:World}{b:Bool}{K:xu→cO→af→Prop}{next:Act→World→Prop}{Q:Exit→Act→World→Prop}
  (hi:ops[i]? =some o) (q:jG ops.toList d o=some b) (j:Agree N r a) (hd:DecOk d r)
  (k:match b with
   |true=>UR P N ek o r (K (uc d o (Kj d o.op))) w.heap
   |false=>Bq N o undef r fun c=>K (uc d o .u) c w.heap)
  (m:∀v w' d' c,Tame w w'→K d' c w'.heap→Agree N c (a.put o.dst v)→DecOk d' c→next (a.put o.dst v) w'):
  wpOpIn (FW ro) n P ops Q i next a w:=by
 unfold wpOpIn;rw[hi];simp only[oH q j hd];cases b with
 |true=>exact OK k j hd fun v w' c p s f e=>m v w' _ c p s f e
 |false=>
  obtain⟨c,g,f,e⟩:=vF (dv:=.u) k j hd rfl;exact⟨fun _ _=>trivial,m undef w _ c (Tame.refl w) g f e⟩
theorem OJ{N:Nat}{ek:Option (Kind×Kind)}{ops:List Oper}{o:Oper}{os:List Oper}{d:xu}{K:cO→af→Prop}{r:cO}{h:af}:Fq P N ek ops (o::os) d K r h=
 (match jG ops d o with
 |some true=>UR P N ek o r (fun c e=>Fq P N ek ops os (uc d o (Kj d o.op)) K c e) h
 |some false=>Bq N o undef r fun c=>Fq P N ek ops os (uc d o .u) K c h
 |none=>match FV ops o with
  |none=>False
  |some t=>match lD r t with
   |some (.bool b)=>CondP b
    (HQ P N ek ops o ((t,.t)::d) ((t,.bool true)::r) h fun f c e=>Fq P N ek ops os f K c e)
    (HQ P N ek ops o ((t,.f)::d) ((t,.bool false)::r) h fun f c e=>Fq P N ek ops os f K c e)
   |_=>False):=rfl
theorem HO{N:Nat}{ek:Option (Kind×Kind)}{ops:Array Oper}{o:Oper}{i:Nat}{d:xu}{r:cO}{a:Act}{w:World}{K:xu→cO→af→Prop}{next:Act→World→Prop}{Q:Exit→Act→World→Prop}
  (hi:ops[i]? =some o) (e:Agree N r a) (hd:DecOk d r) (c:HQ P N ek ops.toList o d r w.heap K)
  (f:∀v w' d' r',Tame w w'→K d' r' w'.heap→Agree N r' (a.put o.dst v)→DecOk d' r'→next (a.put o.dst v) w'):
  wpOpIn (FW ro) n P ops Q i next a w:=by
 unfold HQ at c;cases hw:jG ops.toList d o with
 |none=>rw[hw]at c;exact c.elim
 |some b=>rw[hw]at c;exact E4 (ek:=ek) hi hw e hd (by cases b<;>exact c) f
theorem Fp{N:Nat}{ek:Option (Kind×Kind)}{ops:Array Oper}{W:Nat→Prop}(q:∀o∈ops.toList,∀d,o.dst=some d→W d){m:Act}{u:World}{K:cO→af→Prop}{Q:Exit→Act→World→Prop}
  (p:∀r a w,Agree N r a→Fr W m u a w→K r w.heap→Q .normal a w):
  ∀(l:List Oper) (i:Nat),ops.toList.drop i=l→∀(d:xu) (r:cO) (a:Act) (w:World),Fq P N ek ops.toList l d K r w.heap→Agree N r a→DecOk d r→Fr W m u a w→
   wpOpsIn (FW ro) n P ops Q (List.range' i l.length) a w
 | [],i,_,d,r,a,w,hs,ha,hd,hf=>p r a w ha hf hs
 |o::os,i,hdr,d,r,a,w,hs,ha,hd,hf=>by
  have hi:ops[i]? =some o:=by
   rw[←bv];have:(ops.toList.drop i)[0]? =some o:=by rw[hdr];rfl
   simpa using this
  have g:o∈ops.toList:=ak (by rw[bv];exact hi);have f:ops.toList.drop (i+1)=os:=by rw[←List.tail_drop,hdr];rfl
  rw[ax,List.range'_succ,wpOpsIn_cons];rw[OJ]at hs;have go:∀v w' e c,Tame w w'→Fq P N ek ops.toList os e K c w'.heap→Agree N c (a.put o.dst v)→DecOk e c→wpOpsIn (FW ro) n P ops Q (List.range' (i+1) os.length) (a.put o.dst v) w':=
   fun v w' e c s x k j=>Fp q p os (i+1) f e c _ w' x k j (hf.put (q o g) v s)
  cases hw:jG ops.toList d o with
  |some b=>
   rw[hw]at hs;exact E4 (ek:=ek) (K:=fun e c y=>Fq P N ek ops.toList os e K c y) hi hw ha hd (by cases b<;>exact hs) go
  |none=>
   rw[hw]at hs;simp only at hs;split at hs
   ·exact hs.elim
   ·rename_i t s
    split at hs
    ·rename_i b hb
     cases b with
     |true=>exact HO hi (ha.known hb) (hd.known (dv:=.t) rfl) (hs.yes rfl) go
     |false=>exact HO hi (ha.known hb) (hd.known (dv:=.f) rfl) (hs.no rfl) go
    ·exact hs.elim
end Go.Lift
namespace Go.Lift
open Go
theorem BU(m i:Nat):tb m i=m.testBit i:=by
 have h:km (Nat.shiftRight m i) 1=(m>>>i)&&&1:=rfl;unfold tb;rw[h,Nat.testBit_eq_decide_div_mod_eq,Nat.and_one_is_mod,Nat.shiftRight_eq_div_pow];cases hm:decide (m/2^i%2=1)with
 |true=>rw[of_decide_eq_true hm];rfl
 |false=>
  have h2:=of_decide_eq_false hm;have:m/2^i%2=0:=by omega
  rw[this];rfl
theorem pL(a b i:Nat):(di a b).testBit i=(a.testBit i||b.testBit i):=Nat.testBit_or a b i
theorem Bu(i j:Nat):(ia i).testBit j=decide (i=j):=Nat.testBit_two_pow
theorem Dy{a b:Nat}(h:bK (km a b) 0=true)(t:Nat)(d:a.testBit t=true)(e:b.testBit t=true):False:=by
 have c:=aV h;have:(km a b).testBit t=(a.testBit t&&b.testBit t):=mo a b t;rw[c,d,e]at this;simp at this
theorem To{a b:Nat}(h:bK (km a b) a=true)(t:Nat)(d:a.testBit t=true):b.testBit t=true:=by
 have c:=aV h;have:(km a b).testBit t=(a.testBit t&&b.testBit t):=mo a b t;rw[c,d]at this;simpa using this.symm
theorem AE(i:Nat):∀l:List Edge,(nU l).testBit i=l.any fun e=>bK e.on i&&Region.binds .any e
 | []=>Nat.zero_testBit i
 |e::l=>by
  have c:=AE i l;have hc:nU (e::l)=bif Region.binds .any e then di (ia e.on) (nU l)else nU l:=rfl;rw[hc,List.any_cons,←c];cases hb:Region.binds .any e with
  |true=>
   rw[cond_true,pL,Bu,Bool.and_true];congr 1
   cases hd:bK e.on i with
   |true=>simpa using aV hd
   |false=>rw[decide_eq_false_iff_not];intro b;rw[b]at hd;simp at hd
  |false=>simp
theorem Ct(o:Oper)(i:Nat):(nU o.after.toList).testBit i=jI o i:=AE i o.after.toList
theorem BT(t:Nat):∀l:List Operand,(mW l).testBit t=true↔Operand.tmp t∈l
 | []=>by simp[show mW []=0 from rfl]
 |o::l=>by
  have b:=BT t l;cases o with
  |tmp u=>
   have hc:mW (.tmp u::l)=di (ia u) (mW l):=rfl;rw[hc,pL,Bu,iW,b,au];simp[eq_comm]
  |const v=>
   have hc:mW (.const v::l)=mW l:=rfl;rw[hc,b,au];simp
  |global v=>
   have hc:mW (.global v::l)=mW l:=rfl;rw[hc,b,au];simp
  |func v=>
   have hc:mW (.func v::l)=mW l:=rfl;rw[hc,b,au];simp
theorem y7(o:Oper)(t:Nat):(pq o).testBit t=true↔o.dst=some t:=by
 unfold pq;cases o.dst with
 |none=>simp
 |some d=>simp[Bu]
theorem G9(ops:Array Oper)(o:Oper)(t:Nat):(p0 ops.toList o).testBit t=true↔t∈o.looksAt ops:=by
 unfold p0 Oper.looksAt;rw[pL,iW,BT,List.mem_append,List.mem_filterMap];refine or_congr ⟨fun h=>⟨_,h,rfl⟩,?_⟩ ?_
 ·rintro⟨x,hx,b⟩
  cases x<;>simp at b
  subst b;exact hx
 ·cases hg:o.guard with
  |none=>simp
  |some g=>
   obtain⟨j,c⟩:=g;simp only[bv];cases hj:ops[j]? with
   |none=>simp
   |some oj=>simp[y7]
variable {P:Program} {ro:Option Nat} {n:Nat} {ops:Array Oper} {Q:Exit→Act→World→Prop}
structure MsOk(ops:Array Oper)(ms:List DM):Prop where
 am:∀(i:Nat) (o:Oper) (m:DM),ops[i]? =some o→ms[i]? =some m→∀j,m.am.testBit j=jI o j
 lk:∀(i:Nat) (o:Oper) (m:DM),ops[i]? =some o→ms[i]? =some m→∀t,m.lk.testBit t=true↔t∈o.looksAt ops
 ds:∀(i:Nat) (o:Oper) (m:DM),ops[i]? =some o→ms[i]? =some m→∀t,m.ds.testBit t=true↔o.dst=some t
 len:ms.length=ops.size
 free:∀(i j:Nat) (m k:DM),ms[i]? =some m→ms[j]? =some k→m.fr.testBit j=true→j=i∨k.am.testBit i=true∨Dz m k=true
 nosel:∀(i:Nat) (o:Oper),ops[i]? =some o→(∀cs b,o.op≠ .select cs b)∧(∀c,o.op≠ .defer c)
theorem Cf(ops:List Oper):∀(l:List Oper) (ms:List DM),yI ops l ms=true→ms.length=l.length∧∀(i:Nat) (o:Oper) (m:DM),l[i]? =some o→ms[i]? =some m→
  m.am=nU o.after.toList∧m.lk=p0 ops o∧m.ds=pq o
 | [],[],_=>⟨rfl,fun i o m h=>by simp at h⟩
 | [],_::_,h=>by cases h
 |o::l,[],h=>by cases h
 |o::l,m::ms,h=>by
  have hc:yI ops (o::l) (m::ms)=(bK (nU o.after.toList) m.am&&bK (p0 ops o) m.lk&&bK (pq o) m.ds&&yI ops l ms):=rfl;rw[hc]at h;simp only[bc]at h;obtain⟨⟨⟨g,h2⟩,d⟩,f⟩:=h;obtain⟨k,j⟩:=Cf ops l ms f;refine⟨by simp[k],fun i e c b hm=>?_⟩
  cases i with
  |zero=>
   simp only[cE,bX.injEq]at b hm;subst b;subst hm;exact⟨(aV g).symm,(aV h2).symm,(aV d).symm⟩
  |succ i=>exact j i e c (by simpa using b) (by simpa using hm)
theorem Iq(i:Nat)(m:DM):∀(l:List DM) (j0:Nat),Ir i m l j0=true→∀(j:Nat) (k:DM),l[j]? =some k→m.fr.testBit (j0+j)=true→j0+j=i∨k.am.testBit i=true∨Dz m k=true
 | [],j0,_,j,k,hk,_=>by simp at hk
 |x::l,j0,h,j,k,hk,hb=>by
  have hc:Ir i m (x::l) j0=((!(tb m.fr j0)||bK j0 i||tb x.am i||Dz m x)&&Ir i m l (f6 j0)):=rfl
  rw[hc]at h;simp only[bc,iW,ri,BU]at h;cases j with
  |zero=>
   simp only[cE,bX.injEq]at hk;subst hk;simp only[Nat.add_zero]at hb⊢;rcases h.1 with((b|b)|b)|b
   ·rw[b]at hb;cases hb
   ·exact .inl (aV b)
   ·exact .inr (.inl b)
   ·exact .inr (.inr b)
  |succ j=>
   have:=Iq i m l (j0+1) h.2 j k (by simpa using hk) (by rw[show j0+1+j=j0+(j+1) by omega];exact hb)
   rw[show j0+1+j=j0+(j+1) by omega]at this
   exact this
theorem Ea(b:List DM):∀(l:List DM) (i0:Nat),Ck b l i0=true→∀(i:Nat) (m:DM),l[i]? =some m→Ir (i0+i) m b 0=true
 | [],i0,_,i,m,hm=>by simp at hm
 |x::l,i0,h,i,m,hm=>by
  have hc:Ck b (x::l) i0=(Ir i0 x b 0&&Ck b l (f6 i0)):=rfl;rw[hc,bc]at h;cases i with
  |zero=>simp only[cE,bX.injEq]at hm;subst hm;exact h.1
  |succ i=>
   have:=Ea b l (i0+1) h.2 i m (by simpa using hm);rw[show i0+1+i=i0+(i+1) by omega]at this
   exact this
theorem Ib:∀(l:List Oper),KW l=true→∀o∈l,(∀cs b,o.op≠ .select cs b)∧(∀c,o.op≠ .defer c)
 | [],_,o,d=>by cases d
 |x::l,h,o,d=>by
  simp only[KW,bc]at h;rcases au.1 d with rfl|d
  ·refine⟨fun cs b e=>?_,fun c e=>?_⟩
   ·rw[e]at h;cases h.1
   ·rw[e]at h;cases h.1
  ·exact Ib l h.2 o d
theorem MJ{ms:List DM}(h:EW ops.toList ms=true):MsOk ops ms:=by
 have hc:EW ops.toList ms=(yI ops.toList ops.toList ms&&Ck ms ms 0&&KW ops.toList):=rfl;rw[hc]at h;simp only[bc]at h;obtain⟨⟨e,h2⟩,d⟩:=h;obtain⟨g,c⟩:=Cf ops.toList ops.toList ms e;refine⟨fun i o m b hm j=>?_,fun i o m b hm t=>?_,fun i o m b hm t=>?_,by simpa using g,fun i j m k hm f n=>?_,fun i o b=>?_⟩
 ·rw[(c i o m (by simpa using b) hm).1,Ct]
 ·rw[(c i o m (by simpa using b) hm).2.1,G9]
 ·rw[(c i o m (by simpa using b) hm).2.2,y7]
 ·have:=Ea ms ms 0 h2 i m hm
  rw[bi]at this;have:=Iq i m ms 0 this j k f (by rwa [bi]);rwa [bi]at this
 ·exact Ib _ d o (ak (by rw[bv];exact b))
theorem Sc{ms:List DM}(hm:MsOk ops ms){i j:Nat}{f e:Oper}{g k:DM}(hi:ops[i]? =some f) (m:ops[j]? =some e) (c:ms[i]? =some g) (b:ms[j]? =some k) (h:Dz g k=true):
  (∀d,f.dst=some d→d∉e.looksAt ops)∧(∀d,f.dst=some d→e.dst≠some d)∧(∀d,e.dst=some d→d∉f.looksAt ops):=by
 unfold Dz at h;rw[bc]at h;refine⟨fun d hd n=>?_,fun d hd o=>?_,fun d hd n=>?_⟩
 ·exact Dy h.1 d ((hm.ds i f g hi c d).2 hd) (by rw[pL,(hm.lk j e k m b d).2 n,Bool.true_or])
 ·exact Dy h.1 d ((hm.ds i f g hi c d).2 hd) (by rw[pL,(hm.ds j e k m b d).2 o,Bool.or_true])
 ·exact Dy h.2 d ((hm.ds j e k m b d).2 hd) ((hm.lk i f g hi c d).2 n)
structure LsRel(ops:Array Oper)(ls:Nat)(listed:Array Bool):Prop where
 size:listed.size=ops.size
 bit:∀j,listed.getD j false=ls.testBit j
theorem LsRel.start:LsRel ops 0 (pw ops.size false):=⟨by simp,fun j=>by
 rw[Nat.zero_testBit,dz]
 by_cases h:j<ops.size<;>simp[h]⟩
theorem LsRel.put{ls:Nat}{listed:Array Bool}(h:LsRel ops ls listed){i:Nat}(hi:i<ops.size):LsRel ops (di ls (ia i)) (listed.setIfInBounds i true):=by
 refine⟨by simp[h.size],fun j=>?_⟩
 rw[pL,Bu,←h.bit];by_cases e:i=j
 ·subst e;simp[h.size,hi]
 ·simp[e,ff e]
theorem LsRel.unlisted{ls:Nat}{listed:Array Bool}(h:LsRel ops ls listed){i:Nat}(hi:i<ops.size):listed.getD i true=ls.testBit i:=by
 rw[←h.bit];have:i<listed.size:=by rw[h.size];exact hi
 simp[this]
theorem H0{ms:List DM}(hm:MsOk ops ms){ls:Nat}{listed:Array Bool}(h:LsRel ops ls listed){j:Nat}:j∈Region.ready .any ops listed↔∃m,ms[j]? =some m∧ls.testBit j=false∧Ki m ls=true:=by
 rw[mem_ready];constructor
 ·rintro⟨n,o,p,c⟩
  have b:j<ops.size:=(ct.1 p).1;have i:j<ms.length:=by rw[hm.len];exact b
  refine⟨ms[j],aj i,by rw[←h.unlisted b];exact n,?_⟩
  unfold Ki;have:km (ms[j]).am ls=(ms[j]).am:=by
   apply Nat.eq_of_testBit_eq;intro t;have f:(km (ms[j]).am ls).testBit t=((ms[j]).am.testBit t&&ls.testBit t):=mo _ _ t;rw[f];cases ht:(ms[j]).am.testBit t with
   |false=>rfl
   |true=>
    rw[hm.am j o _ p (aj i)]at ht;unfold jI at ht;obtain⟨e,k,g⟩:=g8.1 ht;simp only[bc]at g;have:=c e (by simpa using k) g.2;rw[aV g.1,h.bit]at this;rw[this];rfl
  rw[this];exact uj _
 ·rintro⟨m,d,n,q⟩
  have b:j<ops.size:=by rw[←hm.len];exact(aY.1 d).1
  refine⟨by rw[h.unlisted b];exact n,ops[j],jV b,fun e k g=>?_⟩
  rw[h.bit];refine To q e.on ?_;rw[hm.am j _ m (jV b) d];unfold jI;exact g8.2 ⟨e,by simpa using k,by simp[g]⟩
theorem ur(ls:Nat):∀(l:List DM) (j0 j:Nat),j∈mZ ls l j0↔∃k m,l[k]? =some m∧j=j0+k∧ls.testBit j=false∧Ki m ls=true
 | [],j0,j=>by simp[show mZ ls [] j0= []from rfl]
 |m::l,j0,j=>by
  have hc:mZ ls (m::l) j0=bif !(tb ls j0)&&Ki m ls then j0::mZ ls l (f6 j0)else mZ ls l (f6 j0):=rfl;have e:=ur ls l (j0+1) j;rw[hc,BU];have step:(∃k c,(m::l)[k]? =some c∧j=j0+k∧ls.testBit j=false∧Ki c ls=true)↔(j=j0∧ls.testBit j0=false∧Ki m ls=true)∨j∈mZ ls l (j0+1):=by
   rw[e];constructor
   ·rintro⟨k,c,d,rfl,b,h2⟩
    cases k with
    |zero=>simp only[cE,bX.injEq]at d;subst d;exact .inl ⟨rfl,b,h2⟩
    |succ k=>exact .inr ⟨k,c,by simpa using d,by omega,b,h2⟩
   ·rintro(⟨rfl,b,h2⟩|⟨k,c,d,rfl,b,h2⟩)
    ·exact⟨0,m,rfl,rfl,b,h2⟩
    ·exact⟨k+1,c,by simpa using d,by omega,b,h2⟩
  rw[step];cases hb:(!(ls.testBit j0)&&Ki m ls)with
  |true=>
   simp only[bc,ri]at hb;rw[cond_true,au];simp[hb.1,hb.2]
  |false=>
   rw[cond_false];constructor
   ·exact .inr
   ·rintro(⟨_,b,h2⟩|h)
    ·rw[b,h2]at hb;cases hb
    ·exact h
theorem nN{ms:List DM}(hm:MsOk ops ms){ls:Nat}{listed:Array Bool}(h:LsRel ops ls listed){j:Nat}:j∈Region.ready .any ops listed↔j∈mZ ls ms 0:=by
 rw[H0 hm h,ur];constructor
 ·rintro⟨m,c,h2,b⟩;exact⟨j,m,c,by omega,h2,b⟩
 ·rintro⟨k,m,c,rfl,h2,b⟩;exact⟨m,by simpa using c,h2,b⟩
theorem zV:∀{a b:List Nat},xC a b=true→a=b
 | [],[],_=>rfl
 | [],_::_,h=>by cases h
 |_::_,[],h=>by cases h
 |a::as,b::bs,h=>by
  simp only[xC,bc]at h;rw[aV h.1,zV h.2]
end Go.Lift
namespace Go.Lift
open Go
variable {P:Program} {ro:Option Nat} {n:Nat} {ops:Array Oper} {Q:Exit→Act→World→Prop}
theorem BR{m:Nat}{p:Nat→Bool}(hm:∀j,m.testBit j=true→p j=true):∀(l:List DM) (j0:Nat),(∀j x,l[j]? =some x→p (j0+j)=true→∀k,x.am.testBit k=true→p k=true)→∀k,(PD m l j0).testBit k=true→p k=true
 | [],_,_,k,h=>hm k h
 |x::l,j0,hl,k,h=>by
  have hc:PD m (x::l) j0=bif tb m j0 then di x.am (PD m l (f6 j0))else PD m l (f6 j0):=rfl;have b:=BR hm l (j0+1) (fun j y c d=>hl (j+1) y (by simpa using c) (by rw[show j0+(j+1)=j0+1+j by omega];exact d)) k
  rw[hc,BU]at h;cases hb:m.testBit j0 with
  |true=>
   rw[hb,cond_true,pL,iW]at h;rcases h with h|h
   ·exact hl 0 x rfl (hm _ hb) k h
   ·exact b h
  |false=>
   rw[hb,cond_false]at h;exact b h
theorem BQ{m k:Nat}(h:m.testBit k=true):∀(l:List DM) (j0:Nat),(PD m l j0).testBit k=true
 | [],_=>h
 |x::l,j0=>by
  have hc:PD m (x::l) j0=bif tb m j0 then di x.am (PD m l (f6 j0))else PD m l (f6 j0):=rfl;have b:=BQ h l (j0+1);rw[hc];cases tb m j0 with
  |true=>rw[cond_true,pL,iW];exact .inr b
  |false=>exact b
def Shut(ms:List DM)(listed:Array Bool):Prop:=∀j x,ms[j]? =some x→listed.getD j false=true→∀k,x.am.testBit k=true→listed.getD k false=true
theorem Pi{ms:List DM}{listed:Array Bool}(d:Shut ms listed){m:Nat}(hm:∀j,m.testBit j=true→listed.getD j false=true){k:Nat}(h:(Cn ms m).testBit k=true):listed.getD k false=true:=by
 have b:∀j x,ms[j]? =some x→(fun k=>listed.getD k false) (0+j)=true→∀k,x.am.testBit k=true→(fun k=>listed.getD k false) k=true:=fun j x hx c=>d j x hx (by rw[bi]at c;exact c)
 unfold Cn at h;exact BR (p:=fun k=>listed.getD k false) (BR (BR (BR hm ms 0 b) ms 0 b) ms 0 b) ms 0 b k h
theorem IA{ms:List DM}{m k:Nat}(h:m.testBit k=true):(Cn ms m).testBit k=true:=by
 unfold Cn;exact BQ (BQ (BQ (BQ h ms 0) ms 0) ms 0) ms 0
noncomputable abbrev LR(ms:List DM)(i:Nat)(L:tc):tc:=B6 (Cn ms (JQ ms i)) L
theorem kZ{m:Nat}{x:Nat×(af→Prop)}:∀{L:tc},x∈B6 m L↔x∈L∧tb m x.1=false
 | []=>by simp[B6]
 |(k,S)::L=>by
  have b:=kZ (m:=m) (x:=x) (L:=L);simp only[B6];cases hk:tb m k with
  |true=>
   rw[cond_true,b,au];constructor
   ·exact fun h=>⟨.inr h.1,h.2⟩
   ·rintro⟨h|h,h2⟩
    ·subst h;rw[hk]at h2;cases h2
    ·exact⟨h,h2⟩
  |false=>
   rw[cond_false,au,b,au];constructor
   ·rintro(h|h)
    ·subst h;exact⟨.inl rfl,hk⟩
    ·exact⟨.inr h.1,h.2⟩
   ·rintro⟨h|h,h2⟩
    ·exact .inl h
    ·exact .inr ⟨h,h2⟩
def PR(ms:List DM)(ro:Option Nat)(n:Nat)(P:Program)(ops:Array Oper)(Q:Exit→Act→World→Prop):Nat→tc→Array Bool→Act→World→Prop
 |0,_,listed,a,w=>Region.ready .any ops listed= []∧Q .normal a w
 |f+1,L,listed,a,w=>(Region.ready .any ops listed= []→Q .normal a w)∧
  ∀i∈Region.ready .any ops listed,∀o,ops[i]? =some o→
   wpOpIn (FW ro) n P ops Q i (fun a' w'=>(∀x∈LR ms i L,x.2 w'.heap)∧PR ms ro n P ops Q f (LR ms i L) (listed.setIfInBounds i true) a' w') a w
theorem yD{o:Oper}{x:Nat×(af→Prop)}:∀{L:tc},x∈qm o L↔x∈L∧jI o x.1=false
 | []=>by simp[qm]
 |(k,S)::L=>by
  have b:=yD (o:=o) (x:=x) (L:=L);simp only[qm];cases hk:jI o k with
  |true=>
   rw[cond_true,b,au];constructor
   ·exact fun h=>⟨.inr h.1,h.2⟩
   ·rintro⟨h|h,h2⟩
    ·subst h;rw[hk]at h2;cases h2
    ·exact⟨h,h2⟩
  |false=>
   rw[cond_false,au,b,au];constructor
   ·rintro(h|h)
    ·subst h;exact⟨.inl rfl,hk⟩
    ·exact⟨.inr h.1,h.2⟩
   ·rintro⟨h|h,h2⟩
    ·exact .inl h
    ·exact .inr ⟨h,h2⟩
theorem OT{listed:Array Bool}{i:Nat}(h:i∈Region.ready .any ops listed):∃o,ops[i]? =some o:=by
 obtain⟨_,o,b,_⟩:=mem_ready.1 h;exact⟨o,b⟩
theorem NI{ms:List DM}:∀(f:Nat) (L:tc) (listed:Array Bool) (a:Act) (w:World),PR ms ro n P ops Q f L listed a w→wpAnyIn (FW ro) n P .any ops Q f listed a w
 |0,_,_,_,_,h=>h
 |f+1,L,listed,a,w,h=>⟨h.1,fun i hi=>by
  obtain⟨o,b⟩:=OT hi
  exact wpOpIn_mono (fun a' w' c=>NI f _ _ a' w' c.2) (h.2 i hi o b)⟩
theorem wT{ms:List DM}:∀(f:Nat) (L L':tc) (listed:Array Bool) (a:Act) (w:World),(∀x∈L',x∈L∨∀h,x.2 h)→PR ms ro n P ops Q f L listed a w→PR ms ro n P ops Q f L' listed a w
 |0,_,_,_,_,_,_,h=>h
 |f+1,L,L',listed,a,w,hs,h=>⟨h.1,fun i hi o d=>by
  have b:∀x∈LR ms i L',x∈LR ms i L∨∀h,x.2 h:=fun x hx=>(hs x (kZ.1 hx).1).imp (fun h=>kZ.2 ⟨h,(kZ.1 hx).2⟩) id
  exact wpOpIn_mono (fun a' w' c=>⟨fun x hx=>(b x hx).elim (c.1 x) fun h=>h _,wT f _ _ _ a' w' b c.2⟩) (h.2 i hi o d)⟩
def YG(P:Program)(ops:Array Oper)(S:af→Prop)(o:Oper)(v:Value)(a:Act):Prop:=
 (Region.wanted o (yielded ops a.tmps)=true∧∀w:World,S w.heap→(execOp a.eval o).run P w=.ok (.value v) w)∨
 (Region.wanted o (yielded ops a.tmps)=false∧v=undef)
theorem YG.wpOp{S:af→Prop}{i:Nat}{o:Oper}{v:Value}{a:Act}(hi:ops[i]? =some o) (hd:∀c,o.op≠ .defer c) (d:YG P ops S o v a) {K:Act→World→Prop} {w:World} (e:S w.heap)
  (h:K (a.put o.dst v) w):wpOpIn (FW ro) n P ops Q i K a w:=by
 unfold wpOpIn;simp only[hi];rcases d with⟨b,hv⟩|⟨b,rfl⟩
 ·simp only[b,if_true]
  refine⟨fun _ _=>trivial,?_⟩
  rw[Oper.semAt_eq _ _ _ hd,hv w e];exact h
 ·simp only[b,Bool.false_eq_true,if_false];exact⟨fun _ _=>trivial,h⟩
theorem YG.of_same{S:af→Prop}{o:Oper}{v:Value}{a a':Act}(d:YG P ops S o v a)(b:execOp a'.eval o=execOp a.eval o)
  (c:Region.wanted o (yielded ops a'.tmps)=Region.wanted o (yielded ops a.tmps)):YG P ops S o v a':=by
 unfold YG at*;rw[b,c];exact d
theorem LU{S:af→Prop}{j:Nat}{g i:Oper}{v:Value}(C:ops[j]? =some i)
  (y:(∀d,g.dst=some d→d∉i.looksAt ops)∧(∀d,g.dst=some d→i.dst≠some d)∧(∀d,i.dst=some d→d∉g.looksAt ops))
  (s:∀cs b,g.op≠ .select cs b) (z:∀cs b,i.op≠ .select cs b) (p:∀c,i.op≠ .defer c)
  (B:∀e a w,(∀c,e=.panic c→False)∨¬Q e a w) {K:Act→World→Prop} {a:Act} {w:World}
  (m:YG P ops S g v a) (h:wpOpIn (FW ro) n P ops Q j K (a.put g.dst v) w):
  wpOpIn (FW ro) n P ops Q j (fun a' w'=>YG P ops S g v a'∧K (a'.put g.dst v) w') a w:=by
 obtain⟨A,h2,t⟩:=y;have o:∀c a w,¬Q (.panic c) a w:=fun c a w D=>(B (.panic c) a w).elim (fun h=>h c rfl) fun h=>h D
 have keep:∀(a:Act),YG P ops S g v a→∀u,YG P ops S g v (a.put i.dst u):=fun a m u=>
  m.of_same (execOp_put g s a i.dst u t) (wanted_put g a i.dst u t)
 unfold wpOpIn at*;simp only[C]at*;rw[wanted_put i a g.dst v A]at h;split
 ·rename_i hw
  simp only[hw,if_true]at h;refine⟨fun _ _=>trivial,?_⟩
  have h:=h.2;rw[Oper.semAt_eq _ _ _ p,execOp_put i z a g.dst v A]at h;rw[Oper.semAt_eq _ _ _ p];generalize (execOp a.eval i).run P w=r at*;cases r with
  |ok x w'=>
   cases x<;>simp only[Oper.uponIn]at h⊢
   case value u=>exact⟨keep a m u,by rw[←Act.put_comm a v u h2];exact h⟩
   case skip=>exact⟨keep a m _,by rw[←Act.put_comm a v undef h2];exact h⟩
   case defer d=>
    refine⟨(m.of_same (a':={a with defers:=d::a.defers}) rfl rfl).of_same (execOp_put g s _ i.dst undef t) (wanted_put g _ i.dst undef t),?_⟩;rw[←Act.put_comm _ v undef h2,←Act.put_defers];exact h
   case enter f args=>
    refine⟨h.1,CallsIn.mono h.2 fun e q k=>?_⟩
    cases e with
    |returned u=>exact⟨keep a m u,by rw[←Act.put_comm a v u h2];exact k⟩
    |panicked c=>exact(o _ _ _ k).elim
    |outgrown=>exact k
   case row row args=>exact⟨h.1,RowsIn.mono h.2 fun u q k=>⟨keep a m u,by rw[←Act.put_comm a v u h2];exact k⟩⟩
   case round l f tmps assign body=>
    refine⟨h.1,RoundIn.mono h.2 fun e q k=>?_⟩
    cases e with
    |returned u=>exact⟨keep a m u,by rw[←Act.put_comm a v u h2];exact k⟩
    |panicked c=>exact(o _ _ _ k).elim
    |outgrown=>exact k
  |halt x w'=>
   cases x<;>simp only[Oper.uponIn]at h⊢
   case panic u=>exact(o _ _ _ h).elim
 ·rename_i hw
  simp only[hw]at h;exact⟨fun _ _=>trivial,keep a m _,by rw[←Act.put_comm a v undef h2];exact h.2⟩
theorem JP{ms:List DM}(hm:MsOk ops ms){i:Nat}{o:Oper}(b:ops[i]? =some o) (k:Nat):(JQ ms i).testBit k=jI o k:=by
 have hi:i<ms.length:=by rw[hm.len];exact(ct.1 b).1
 unfold JQ;rw[aj hi];exact hm.am i o _ b (aj hi) k
theorem Ky{ms:List DM}(hm:MsOk ops ms){listed:Array Bool}{j:Nat}(i:j∈Region.ready .any ops listed)(k:Nat)(d:(JQ ms j).testBit k=true):listed.getD k false=true:=by
 obtain⟨_,o,f,b⟩:=mem_ready.1 i;rw[JP hm f]at d;unfold jI at d;obtain⟨e,g,c⟩:=g8.1 d;simp only[bc]at c;have:=b e (by simpa using g) c.2;rw[aV c.1]at this;exact this
theorem Lj{listed:Array Bool}{j k:Nat}(h:listed.getD k false=true):(listed.setIfInBounds j true).getD k false=true:=by
 by_cases e:j=k
 ·subst e
  rw[dz]at h⊢;rcases eD j listed.size with b|b
  ·simp[b]
  ·simp[lZ b]at h
 ·rw[dz,ff e,←dz]
  exact h
theorem Shut.put{ms:List DM}(hm:MsOk ops ms){listed:Array Bool}(d:Shut ms listed){j:Nat}(f:j∈Region.ready .any ops listed):Shut ms (listed.setIfInBounds j true):=by
 intro i x hx c k b;by_cases e:j=i
 ·subst e
  refine Lj (Ky hm f k ?_);unfold JQ;rw[hx];exact b
 ·rw[dz,ff e,←dz]at c
  exact Lj (d i x hx c k b)
theorem E5{ms:List DM}(hm:MsOk ops ms){S:af→Prop}{i:Nat}{u:Oper}{v:Value}(hi:ops[i]? =some u) (m:∀(j:Nat) (o:Oper),ops[j]? =some o→(∀cs b,o.op≠ .select cs b)∧(∀c,o.op≠ .defer c))
  (hQ:∀e a w,(∀c,e=.panic c→False)∨¬Q e a w):
  ∀(fuel:Nat) (L:tc) (listed:Array Bool) (a:Act) (w:World),
   (∀j q,ops[j]? =some q→j≠i→listed.getD j true=false→jI q i=false→
    (∀d,u.dst=some d→d∉q.looksAt ops)∧(∀d,u.dst=some d→q.dst≠some d)∧(∀d,q.dst=some d→d∉u.looksAt ops))→
   Shut ms listed→i∈Region.ready .any ops listed→YG P ops S u v a→S w.heap→(∀x∈L,x.2 w.heap)→
   PR ms ro n P ops Q fuel ((i,S)::L) (listed.setIfInBounds i true) (a.put u.dst v) w→PR ms ro n P ops Q (fuel+1) L listed a w:=by
 intro fuel;induction fuel with
 |zero=>
  intro L listed a w _ _ B U W X H;refine⟨fun h=>(by rw[h]at B;cases B),fun j F q f=>?_⟩
  by_cases g:j=i
  ·subst g
   rw[hi]at f;cases f;exact U.wpOp hi (m _ _ hi).2 W ⟨fun x hx=>X x (kZ.1 hx).1,H⟩
  ·have:=ready_mono F g
   rw[H.1]at this;cases this
 |succ fuel ih=>
  intro L listed a w s R B U W X H;refine⟨fun h=>(by rw[h]at B;cases B),fun j F q f=>?_⟩
  by_cases g:j=i
  ·subst g
   rw[hi]at f;cases f;exact U.wpOp hi (m _ _ hi).2 W ⟨fun x hx=>X x (kZ.1 hx).1,wT _ _ _ _ _ _ (fun x hx=>.inl (aR _ (kZ.1 hx).1)) H⟩
  ·have p:=H.2 j (ready_mono F g) q f
   obtain⟨z,oj',A,G⟩:=mem_ready.1 F;rw[f]at A;cases A;have J:jI q i=false:=by
    cases y:jI q i with
    |false=>rfl
    |true=>
     unfold jI at y;obtain⟨e,Z,y⟩:=g8.1 y;simp only[bc]at y;have p:=G e (by simpa using Z) y.2;rw[aV y.1]at p;have N:=(mem_ready.1 B).1;rcases eD i listed.size with C|C
     ·simp[C]at N p;rw[N]at p;cases p
     ·simp[lZ C]at p
   have E:tb (Cn ms (JQ ms j)) i=false:=by
    cases y:tb (Cn ms (JQ ms j)) i with
    |false=>rfl
    |true=>
     rw[BU]at y;have p:=Pi R (Ky hm F) y;have N:=(mem_ready.1 B).1;rcases eD i listed.size with C|C
     ·simp[C]at N p;rw[N]at p;cases p
     ·simp[lZ C]at p
   have I:LR ms j ((i,S)::L)=(i,S)::LR ms j L:=by simp only[LR,B6,E,cond_false]
   rw[I]at p;have h2:=LU f (s j q f g z J) (m _ _ hi).1 (m _ _ f).1 (m _ _ f).2 hQ U p;have t:∀k D,ops[k]? =some D→k≠i→(listed.setIfInBounds j true).getD k true=false→jI D i=false→
     (∀d,u.dst=some d→d∉D.looksAt ops)∧(∀d,u.dst=some d→D.dst≠some d)∧(∀d,D.dst=some d→d∉u.looksAt ops):=fun k D hk V O Y=>by
    refine s k D hk V ?_ Y;by_cases T:j=k
    ·subst T;exact z
    ·rw[getD_set_ne true T]at O;exact O
   refine wpOpIn_mono (fun a' w' K=>⟨fun x hx=>K.2.1 x (aR _ hx),ih (LR ms j L) (listed.setIfInBounds j true) a' w' t (R.put hm F) (ready_mono B (Ne.symm g)) K.1 (K.2.1 _ (aN ..)) (fun x hx=>K.2.1 x (aR _ hx)) ?_⟩) h2
   rw[Array.setIfInBounds_comm _ _ g];exact K.2.2
theorem tT{h:af}{R:Prop}:∀{L:tc},ux L h R↔(∀x∈L,x.2 h)∧R
 | []=>by simp[ux]
 |(k,S)::L=>by
  simp only[ux,tT (L:=L),au,forall_eq_or_imp,and_assoc]
theorem PQ{ms:List DM}{f:Nat}{L:tc}{listed:Array Bool}{a:Act}{w:World}(b:Region.ready .any ops listed= [])(h:Q .normal a w):PR ms ro n P ops Q f L listed a w:=by
 cases f with
 |zero=>exact⟨b,h⟩
 |succ f=>exact⟨fun _=>h,by rw[b];simp⟩
def left(ops:Array Oper)(ls:Nat):Nat:=((fB ops.size).filter fun j=> !ls.testBit j).length
theorem yJ{ls i:Nat}(hi:i<ops.size)(k:ls.testBit i=false):left ops (di ls (ia i))+1=left ops ls:=by
 have key:∀l:List Nat,l.Nodup→i∈l→(l.filter fun j=> !(di ls (ia i)).testBit j).length+1=(l.filter fun j=> !ls.testBit j).length:=by
  intro l;induction l with
  |nil=>intro _ h;cases h
  |cons x l ih=>
   intro f hm;rw[List.nodup_cons]at f;by_cases hx:x=i
   ·subst hx
    have b:(l.filter fun j=> !(di ls (ia x)).testBit j)=l.filter fun j=> !ls.testBit j:=by
     apply List.filter_congr;intro y g;have:x≠y:=fun e=>f.1 (e▸g)
     rw[pL,Bu,decide_eq_false this,Bool.or_false]
    have d:(di ls (ia x)).testBit x=true:=by rw[pL,Bu];simp
    rw[g7,g7,d,k,b];rfl
   ·have c:i∈l:=by rcases au.1 hm with h|h;exact absurd h.symm hx;exact h
    have d:(di ls (ia i)).testBit x=ls.testBit x:=by rw[pL,Bu,decide_eq_false (Ne.symm hx),Bool.or_false]
    have:=ih f.2 c;rw[g7,g7,d];cases ls.testBit x with
    |true=>exact this
    |false=>exact congrArg (· +1) this
 exact key _ List.nodup_range (List.mem_range.2 hi)
theorem O9{N:Nat}{b:List Oper}{ms:List DM}{ls:Nat}{L:tc}{d:xu}{K:cO→af→Prop}{r:cO}{c:af}:∀{l:DA},oK P N b ms l true ls L d K r c→∃i,i∈Dp l
 | .done,h=>h.elim
 | .take i rest,h=>by
  exfalso;have hc:oK P N b ms (.take i rest) true ls L d K r c=(match b[i]?,ms[i]? with|some _,some _=>False|_,_=>False):=rfl
  rw[hc]at h;split at h<;>exact h
 | .all _,h=>h.elim
 | .pick i _ _,_=>⟨i,aN ..⟩
 | .last i _,_=>⟨i,aN ..⟩
 | .lastT i _,_=>⟨i,aN ..⟩
 | .split ..,h=>h.elim
def Nw(ro:Option Nat)(n:Nat)(P:Program)(ops:Array Oper)(Q:Exit→Act→World→Prop)(N:Nat)(ms:List DM)(W:Nat→Prop)(c:Act)(e:World)(K:cO→af→Prop)(b:DA):Prop:=
 ∀(m:Bool) (ls:Nat) (L:tc) (d:xu) (r:cO) (a:Act) (w:World) (listed:Array Bool) (fuel:Nat),
  oK P N ops.toList ms b m ls L d K r w.heap→Agree N r a→DecOk d r→Fr W c e a w→LsRel ops ls listed→Shut ms listed→(∀x∈L,x.2 w.heap)→
  (m=false→left ops ls≤fuel→PR ms ro n P ops Q fuel L listed a w)∧
  (m=true→left ops ls≤fuel+1→∀i∈Dp b,i∈mZ ls ms 0→∀o,ops[i]? =some o→
   wpOpIn (FW ro) n P ops Q i (fun a' w'=>(∀x∈LR ms i L,x.2 w'.heap)∧PR ms ro n P ops Q fuel (LR ms i L) (listed.setIfInBounds i true) a' w') a w)
theorem Ks{N:Nat}{ms:List DM}(hm:MsOk ops ms){W:Nat→Prop}(hW:∀o∈ops.toList,∀d,o.dst=some d→W d){a0:Act}{w0:World}{K:cO→af→Prop}
  (hQ:∀r a w,Agree N r a→Fr W a0 w0 a w→K r w.heap→Q .normal a w)(hnp:∀e a w,(∀c,e=.panic c→False)∨¬Q e a w)(da:DA):
  Nw ro n P ops Q N ms W a0 w0 K da:=by
 have one:∀(i:Nat) (g:DA)
   (_:Nw ro n P ops Q N ms W a0 w0 K g)
   (ls:Nat) (L:tc) (d:xu) (r:cO) (a:Act) (w:World) (listed:Array Bool) (fuel:Nat),
   OL P N ops.toList i L d r w.heap (fun L' d' D h'=>oK P N ops.toList ms g false (di ls (ia i)) L' d' K D h')→Agree N r a→DecOk d r→Fr W a0 w0 a w→LsRel ops ls listed→Shut ms listed→
   left ops ls≤fuel+1→i∈mZ ls ms 0→∀o,ops[i]? =some o→
    wpOpIn (FW ro) n P ops Q i (fun a' w'=>(∀x∈LR ms i L,x.2 w'.heap)∧PR ms ro n P ops Q fuel (LR ms i L) (listed.setIfInBounds i true) a' w') a w:=by
  intro i g X ls L d r a w listed fuel f A hd G z p y hr o s;have B:i<ops.size:=(ct.1 s).1;obtain⟨k,mm,hk,hki,J,_⟩:=(ur ls ms 0 i).1 hr;unfold OL at f;rw[bv,s]at f;simp only at f;cases hw:jG ops.toList d o with
  |none=>rw[hw]at f;exact f.elim
  |some b=>
   rw[hw]at f;cases b with
   |false=>exact f.elim
   |true=>
    simp only at f;cases hq:yd P o.op with
    |true=>
     rw[hq,cond_true]at f;unfold wpOpIn;rw[s];simp only[oH hw A hd,if_true];obtain⟨v,S,hK,hS,_,V⟩:=Dc A f d hd;refine sq (K:=fun u h'=>u=v∧h'=w.heap) (D4 f) (.inl ⟨v,w,V w hS,Tame.refl w,rfl,rfl⟩) ?_
     rintro u w' ht ⟨rfl,hw'⟩;obtain⟨D,H,F,I⟩:=vF (dv:=.x) hK A hd trivial;obtain⟨hh,Y⟩:=tT.1 H;have C:o∈ops.toList:=ak (by rw[bv];exact s);have O:=yJ B J;have E:∀x∈LR ms i L,x∈qm o L:=fun x hx=>yD.2 ⟨(kZ.1 hx).1,by
      cases hb:jI o x.1 with
      |false=>rfl
      |true=>
        have:=(kZ.1 hx).2
        rw[BU,IA (by rw[JP hm s];exact hb)]at this;cases this⟩
     rw[←hw']at hh Y;exact⟨fun x hx=>hh x (E x hx),wT _ _ _ _ _ _ (fun x hx=>.inl (E x hx)) ((X false _ _ _ D _ w' _ fuel Y F I (G.put (hW o C) u ht) (z.put B) (p.put hm ((nN hm z).2 hr)) hh).1 rfl (by omega))⟩
    |false=>
     rw[hq,cond_false]at f;unfold wpOpIn;rw[s];simp only[oH hw A hd,if_true];refine sq (yu f) (C1 A f) ?_;intro v w' ht hK;obtain⟨D,H,F,I⟩:=vF (dv:=.x) hK A hd trivial;obtain⟨hh,Y⟩:=tT.1 H;have C:o∈ops.toList:=ak (by rw[bv];exact s);have O:=yJ B J;have E:∀x∈LR ms i L,x∈qm o L:=fun x hx=>yD.2 ⟨(kZ.1 hx).1,by
      cases hb:jI o x.1 with
      |false=>rfl
      |true=>
        have:=(kZ.1 hx).2
        rw[BU,IA (by rw[JP hm s];exact hb)]at this;cases this⟩
     exact⟨fun x hx=>hh x (E x hx),wT _ _ _ _ _ _ (fun x hx=>.inl (E x hx)) ((X false _ _ _ D _ w' _ fuel Y F I (G.put (hW o C) v ht) (z.put B) (p.put hm ((nN hm z).2 hr)) hh).1 rfl (by omega))⟩
 have oneT:∀(i:Nat) (g:DA)
   (_:Nw ro n P ops Q N ms W a0 w0 K g)
   (ls:Nat) (L:tc) (d:xu) (r:cO) (a:Act) (w:World) (listed:Array Bool) (fuel:Nat),
   NT P N ops.toList ms i L d r w.heap (fun L' d' D h'=>oK P N ops.toList ms g false (di ls (ia i)) L' d' K D h')→Agree N r a→DecOk d r→Fr W a0 w0 a w→LsRel ops ls listed→Shut ms listed→
   left ops ls≤fuel+1→i∈mZ ls ms 0→∀o,ops[i]? =some o→
    wpOpIn (FW ro) n P ops Q i (fun a' w'=>(∀x∈LR ms i L,x.2 w'.heap)∧PR ms ro n P ops Q fuel (LR ms i L) (listed.setIfInBounds i true) a' w') a w:=by
  intro i g X ls L d r a w listed fuel f A hd G z p y hr o s;have B:i<ops.size:=(ct.1 s).1;obtain⟨k,mm,hk,hki,J,_⟩:=(ur ls ms 0 i).1 hr;unfold NT at f;rw[bv,s]at f;simp only at f;cases hw:jG ops.toList d o with
  |none=>rw[hw]at f;exact f.elim
  |some b=>
   rw[hw]at f;cases b with
   |false=>exact f.elim
   |true=>
    simp only at f;cases hq:yd P o.op with
    |true=>rw[hq]at f;exact f.elim
    |false=>
     rw[hq,cond_false]at f;unfold wpOpIn;rw[s];simp only[oH hw A hd,if_true];refine sq (yu f) (C1 A f) ?_;intro v w' ht hK;obtain⟨D,H,F,I⟩:=vF (dv:=.x) hK A hd trivial;obtain⟨hh,Y⟩:=tT.1 H;have C:o∈ops.toList:=ak (by rw[bv];exact s);have O:=yJ B J;exact⟨hh,(X false _ _ _ D _ w' _ fuel Y F I (G.put (hW o C) v ht) (z.put B) (p.put hm ((nN hm z).2 hr)) hh).1 rfl (by omega)⟩
 induction da with
 |done=>
  intro m ls L d r a w listed fuel f A hd G z p T;cases m with
  |true=>exact f.elim
  |false=>
   refine⟨fun _ _=>?_,fun h=>by cases h⟩
   have hc:oK P N ops.toList ms .done false ls L d K r w.heap=bif xC (mZ ls ms 0) []then K r w.heap else False:=rfl;rw[hc]at f;cases hb:xC (mZ ls ms 0) []with
   |false=>rw[hb]at f;exact f.elim
   |true=>
    rw[hb]at f;have hnil:Region.ready .any ops listed= []:=by
     apply List.eq_nil_iff_forall_not_mem.2;intro j R;rw[nN hm z,zV hb]at R;cases R
    exact PQ hnil (hQ r a w A G f)
 |take i g X=>
  intro m ls L d r a w listed fuel f A hd G z p T;cases m with
  |true=>
   exfalso;have hc:oK P N ops.toList ms (.take i g) true ls L d K r w.heap=(match ops.toList[i]?,ms[i]? with|some _,some _=>False|_,_=>False):=rfl
   rw[hc]at f;split at f<;>exact f
  |false=>
   refine⟨fun _ y=>?_,fun h=>by cases h⟩
   have hc:oK P N ops.toList ms (.take i g) false ls L d K r w.heap=(match ops.toList[i]?,ms[i]? with
    |some o,some mi=>bif Fi mi i ls ops.toList.length then
      (match jG ops.toList d o with
       |none=>False
       |some false=>Bq N o undef r fun D=>oK P N ops.toList ms g false (di ls (ia i)) L (uc d o .u) K D w.heap
       |some true=>bif yd P o.op then
          CY P none o.op r (fun v S=>Bq N o v r fun D=>match S with
            |none=>oK P N ops.toList ms g false (di ls (ia i)) L (uc d o (Kj d o.op)) K D w.heap
            |some S=>oK P N ops.toList ms g false (di ls (ia i)) ((i,S)::L) (uc d o (Kj d o.op)) K D w.heap) w.heap
          else False)
     else False
    |_,_=>False):=rfl
   rw[hc]at f;split at f
   ·rename_i o mi s hmi
    rw[bv]at s;cases htk:Fi mi i ls ops.toList.length with
    |false=>rw[htk]at f;exact f.elim
    |true=>
     rw[htk,cond_true]at f;unfold Fi at htk;simp only[bc,ri,BU]at htk;obtain⟨⟨hun,hrd⟩,hfr⟩:=htk;have B:i<ops.size:=(ct.1 s).1;have q:i∈Region.ready .any ops listed:=(H0 hm z).2 ⟨mi,hmi,hun,hrd⟩;have O:=yJ (ops:=ops) B hun;obtain⟨f',rfl⟩:∃f',fuel=f'+1:=⟨fuel-1,by omega⟩
     have C:o∈ops.toList:=ak (by rw[bv];exact s);have hcov:∀j,j<ops.size→ls.testBit j=true∨mi.fr.testBit j=true:=by
      intro j R;have h0:=aV hfr;have hpb:(zL (ia ops.toList.length)).testBit j=true:=by
        have:zL (ia ops.toList.length)=2^ops.toList.length-1:=rfl;rw[this,Nat.testBit_two_pow_sub_one];simpa using R
      have hand:(km (di ls mi.fr) (zL (ia ops.toList.length))).testBit j=((di ls mi.fr).testBit j&&(zL (ia ops.toList.length)).testBit j):=mo _ _ j;rw[h0,hpb,Bool.and_true,pL]at hand;exact(Bool.or_eq_true_iff).1 hand.symm
     have U:∀j oj,ops[j]? =some oj→j≠i→listed.getD j true=false→jI oj i=false→
        (∀d,o.dst=some d→d∉oj.looksAt ops)∧(∀d,o.dst=some d→oj.dst≠some d)∧(∀d,oj.dst=some d→d∉o.looksAt ops):=by
      intro j oj hoj hne hju hna;have R:j<ops.size:=(ct.1 hoj).1;rw[z.unlisted R]at hju;have hjm:j<ms.length:=by rw[hm.len];exact R
      have hmj:=aj hjm;rcases hcov j R with h|h
      · rw[h]at hju;cases hju
      · rcases hm.free i j mi _ hmi hmj h with h|h|h
        ·exact absurd h hne
        ·rw[hm.am j oj _ hoj hmj,hna]at h;cases h
        ·exact Sc hm s hoj hmi hmj h
     cases hw:jG ops.toList d o with
     |none=>rw[hw]at f;exact f.elim
     |some b=>
      rw[hw]at f;have hwd:=oH hw A hd;cases b with
      |false=>
        obtain⟨D,H,F,I⟩:=vF (dv:=.u) f A hd rfl;have hy:YG P ops (fun _=>True) o undef a:=.inr ⟨hwd,rfl⟩
        refine E5 hm s hm.nosel hnp f' L listed a w U p q hy trivial T ?_;refine wT _ L _ _ _ _ (fun x hx=>(au.1 hx).elim (fun e=>.inr fun h=>by rw[e];trivial) .inl) ?_
        exact(X false _ _ _ D _ w _ f' H F I (G.put (hW o C) undef (Tame.refl w)) (z.put B) (p.put hm q) T).1 rfl (by omega)
      |true=>
        simp only at f;cases hq:yd P o.op with
        |false=>rw[hq]at f;exact f.elim
        |true=>
         rw[hq,cond_true]at f;obtain⟨v,S,hK,hS,hdv,V⟩:=Dc A f d hd;obtain⟨D,H,F,I⟩:=vF hK A hd hdv;have hfr':=G.put (hW o C) v (Tame.refl w);cases S with
         |none=>
           have hy:YG P ops (fun _=>True) o v a:=.inl ⟨hwd,fun w _=>V w trivial⟩
           refine E5 hm s hm.nosel hnp f' L listed a w U p q hy trivial T ?_;refine wT _ L _ _ _ _ (fun x hx=>(au.1 hx).elim (fun e=>.inr fun h=>by rw[e];trivial) .inl) ?_
           exact(X false _ _ _ D _ w _ f' H F I hfr' (z.put B) (p.put hm q) T).1 rfl (by omega)
         |some S=>
           have hy:YG P ops S o v a:=.inl ⟨hwd,fun w h=>V w h⟩
           refine E5 hm s hm.nosel hnp f' L listed a w U p q hy hS T ?_;exact(X false _ _ _ D _ w _ f' H F I hfr' (z.put B) (p.put hm q) (fun x hx=>(au.1 hx).elim (fun e=>by rw[e];exact hS) (T x))).1 rfl (by omega)
   ·exact f.elim
 |all l X=>
  intro m ls L d r a w listed fuel f A hd G z p T;cases m with
  |true=>exact f.elim
  |false=>
   refine⟨fun _ y=>?_,fun h=>by cases h⟩
   have hc:oK P N ops.toList ms (.all l) false ls L d K r w.heap=bif xC (mZ ls ms 0) (Dp l)then oK P N ops.toList ms l true ls L d K r w.heap else False:=rfl;rw[hc]at f;cases hb:xC (mZ ls ms 0) (Dp l)with
   |false=>rw[hb]at f;exact f.elim
   |true=>
    rw[hb,cond_true]at f;obtain⟨i,hi⟩:=O9 f;rw[←zV hb]at hi;have hrd:=(nN hm z (j:=i)).2 hi;obtain⟨k,mm,hk,hki,J,_⟩:=(ur ls ms 0 i).1 hi;have B:i<ops.size:=by
     have:=(aY.1 hk).1;rw[hm.len]at this;omega
    have O:=yJ (ops:=ops) B J;obtain⟨f',rfl⟩:∃f',fuel=f'+1:=⟨fuel-1,by omega⟩
    refine⟨fun h=>(by rw[h]at hrd;cases hrd),fun j R o s=>?_⟩
    have hj':=(nN hm z).1 R;exact(X true ls L d r a w listed f' f A hd G z p T).2 rfl y j (by rw[←zV hb];exact hj') hj' o s
 |pick i g more ih1 ih2=>
  intro m ls L d r a w listed fuel f A hd G z p T;cases m with
  |false=>exact f.elim
  |true=>
   refine⟨fun h=>(by cases h),fun _ y j R Z o s=>?_⟩
   have f:OL P N ops.toList i L d r w.heap (fun L' d' D h'=>oK P N ops.toList ms g false (di ls (ia i)) L' d' K D h')∧oK P N ops.toList ms more true ls L d K r w.heap:=f
   rcases au.1 R with rfl|R
   ·exact one _ g ih1 ls L d r a w listed fuel f.1 A hd G z p y Z o s
   ·exact(ih2 true ls L d r a w listed fuel f.2 A hd G z p T).2 rfl y j R Z o s
 |last i g X=>
  intro m ls L d r a w listed fuel f A hd G z p T;cases m with
  |false=>exact f.elim
  |true=>
   refine⟨fun h=>(by cases h),fun _ y j R Z o s=>?_⟩
   have f:OL P N ops.toList i L d r w.heap (fun L' d' D h'=>oK P N ops.toList ms g false (di ls (ia i)) L' d' K D h'):=f
   have hji:j=i:=aA.1 R;subst hji;exact one _ g X ls L d r a w listed fuel f A hd G z p y Z o s
 |lastT i g X=>
  intro m ls L d r a w listed fuel f A hd G z p T;cases m with
  |false=>exact f.elim
  |true=>
   refine⟨fun h=>(by cases h),fun _ y j R Z o s=>?_⟩
   have f:NT P N ops.toList ms i L d r w.heap (fun L' d' D h'=>oK P N ops.toList ms g false (di ls (ia i)) L' d' K D h'):=f
   have hji:j=i:=aA.1 R;subst hji;exact oneT _ g X ls L d r a w listed fuel f A hd G z p y Z o s
 |split t yes no ih1 ih2=>
  intro m ls L d r a w listed fuel f A hd G z p T;cases m with
  |true=>exact f.elim
  |false=>
   refine⟨fun _ y=>?_,fun h=>by cases h⟩
   have hc:oK P N ops.toList ms (.split t yes no) false ls L d K r w.heap=(match lD r t with
    |some (.bool b)=>CondP b (oK P N ops.toList ms yes false ls L ((t,.t)::d) K ((t,.bool true)::r) w.heap) (oK P N ops.toList ms no false ls L ((t,.f)::d) K ((t,.bool false)::r) w.heap)
    |_=>False):=rfl
   rw[hc]at f;split at f
   ·rename_i b hlk
    cases b with
    |true=>exact(ih1 false ls L _ _ a w listed fuel (f.yes rfl) (A.known hlk) (hd.known rfl) G z p T).1 rfl y
    |false=>exact(ih2 false ls L _ _ a w listed fuel (f.no rfl) (A.known hlk) (hd.known rfl) G z p T).1 rfl y
   ·exact f.elim
end Go.Lift
namespace Go.Lift
open Go
variable {P:Program} {ro:Option Nat} {n:Nat}
theorem Ik{r:cO}:∀{l:List Nat} {r0:cO},N5 r l=some r0→∀t v,lD r0 t=some v→t∈l∧lD r t=some v
 | [],r0,h,t,v,hv=>by cases h;cases hv
 |s::l,r0,h,t,v,hv=>by
  have h:(match lD r s,N5 r l with|some v,some l=>some ((s,v)::l)|_,_=>none)=some r0:=h
  split at h
  ·rename_i u l' hu hl
   cases h;by_cases e:s=t
   ·subst e;rw[jg]at hv;cases hv;exact⟨aN ..,hu⟩
   ·rw[ic u _ e]at hv
    have:=Ik hl t v hv;exact⟨aR _ this.1,this.2⟩
  ·cases h
theorem Di{m:Nat}{t:Nat}{v:Value}:∀{r:cO},lD (yM m r) t=some v→m.testBit t=false∧lD r t=some v
 | [],h=>by cases h
 |(k,u)::r,h=>by
  have h:lD (bif tb m k then yM m r else(k,u)::yM m r) t=some v:=h;cases hk:tb m k with
  |true=>
   rw[hk]at h;have:=Di h;by_cases e:k=t
   ·subst e;rw[BU,this.1]at hk;cases hk
   ·rw[ic u _ e];exact this
  |false=>
   rw[hk]at h;have h:lD ((k,u)::yM m r) t=some v:=h;by_cases e:k=t
   ·subst e;rw[jg]at h⊢;rw[BU]at hk;exact⟨hk,h⟩
   ·rw[ic u _ e]at h⊢;exact Di h
theorem C0{t:Nat}:∀{l:List Oper},(PT l).testBit t=false→¬mV t l=true
 | [],_,h=>by cases h
 |o::l,hm,h=>by
  have hm:(di (pq o) (PT l)).testBit t=false:=hm;rw[pL,nI]at hm;have h:(match o.dst with|some d=>bif bK d t then true else mV t l|none=>mV t l)=true:=h
  cases hd:o.dst with
  |none=>rw[hd]at h;exact C0 hm.2 h
  |some d=>
   rw[hd]at h;cases e:bK d t with
   |true=>have:=(y7 o t).2 (by rw[hd,aV e]);rw[hm.1]at this;cases this
   |false=>simp only[e]at h;exact C0 hm.2 h
theorem KV{a b:Option Nat}{m:Nat}(h:Vh a b=some m):∃x y,a=some x∧b=some y∧m=di x y:=by
 cases a<;>cases b<;>cases h
 exact⟨_,_,rfl,rfl,rfl⟩
theorem PS{t:Nat}(c:Code):∀{m:Nat},As c=some m→m.testBit t=false→¬gH t c=true:=by
 induction c with
 |skip=>intro m _ _ h;cases h
 |region id ops dr=>intro m h hm d;cases h;exact C0 hm d
 |seq a b iha ihb=>
  intro m h hm d;obtain⟨x,y,hx,e,rfl⟩:=KV (show Vh (As a) (As b)=some m from h)
  rw[pL,nI]at hm;have d:(bif gH t a then true else gH t b)=true:=d;cases ha:gH t a with
  |true=>exact iha hx hm.1 ha
  |false=>rw[ha]at d;exact ihb e hm.2 d
 |cond c a b iha ihb=>
  intro m h hm d;obtain⟨x,y,hx,e,rfl⟩:=KV (show Vh (As a) (As b)=some m from h)
  rw[pL,nI]at hm;have d:(bif gH t a then true else gH t b)=true:=d;cases ha:gH t a with
  |true=>exact iha hx hm.1 ha
  |false=>rw[ha]at d;exact ihb e hm.2 d
 |block id b ih=>exact fun h hm=>ih h hm
 |loop b ih=>exact fun h hm=>ih h hm
 |rangeFunc _ _ _ _ _ _=>intro m h;cases h
 |scope b ih=>exact fun h hm=>ih h hm
 |_=>intro m _ _ h;cases h
theorem Agree.keep{N:Nat}{r g:cO}{a a':Act}{w w':World}{m:Nat}{c:Code}(h:Agree N r a)(hm:As c=some m)(f:Fr (fun t=>gH t c=true) a w a' w')(e:Agree N g a'):Agree N (yM m r) a':=
 ⟨e.size,fun t v hv=>by
  obtain⟨d,b⟩:=Di hv
  rw[f.same t (PS c hm d)];exact h.look t v b⟩
theorem yz{st:St}{r:cO}{f:wS (A0 st)→Prop}(h:DZ st r f):∃t,Fl r st=some (oA (A0 st) t)∧f t:=by
 unfold DZ at h;split at h
 ·rename_i vs hv
  obtain⟨t,rfl,b⟩:=uR h;exact⟨t,hv,b⟩
 ·exact h.elim
theorem Agree.zip{N:Nat}{r:cO}{a:Act}(h:Agree N r a):∀{st:St} {vs:List Value} {r0:cO},Fl r st=some vs→Agree N r0 a→Agree N (pl st vs r0) a
 | [],vs,r0,_,h0=>by cases vs<;>exact h0
 |(i,k)::st,vs,r0,hv,h0=>by
  unfold Fl at hv;split at hv
  ·rename_i v vs' h1 h2
   cases hv;have:=Agree.zip h h2 h0;refine⟨this.size,fun t u b=>?_⟩
   by_cases e:i=t
   ·subst e
    rw[show pl ((i,k)::st) (v::vs') r0=(i,v)::pl st vs' r0 from rfl,jg]at b;cases b
    exact h.look i v h1
   ·rw[show pl ((i,k)::st) (v::vs') r0=(i,v)::pl st vs' r0 from rfl,ic v _ e]at b
    exact this.look t u b
  ·cases hv
theorem BM{t:Nat}:∀{l:List Oper} {o:Oper},o∈l→o.dst=some t→mV t l=true
 | [],_,h,_=>by cases h
 |x::l,o,h,hd=>by
  have e:mV t (x::l)=(match x.dst with|some d=>bif bK d t then true else mV t l|none=>mV t l):=rfl
  rw[e];rcases au.1 h with rfl|h
  ·rw[hd];simp only;rw[show bK t t=true from uj t];rfl
  ·have:=BM h hd
   cases x.dst with
   |none=>exact this
   |some d=>
    simp only;cases bK d t with
    |true=>rfl
    |false=>exact this
def LWP(ro:Option Nat)(n:Nat)(P:Program)(c:Code)(Q:Exit→Act→World→Prop)(a:Act)(w:World):Prop:=
 ∀(b:Frame) (k:List Item) (cs:List Frame),b.roundOf=(FW ro).round→(FW ro).fn b.fn→(FW ro).room (cs.length+1+n)→
  ∃e a' w',Q e a' w'∧ArrivesIn (Machine.fenced P (FW ro)) P (lone (b.atR a (.code c:: .inLoop c::k)) cs w) b k cs e a' w'
theorem LWP.step{c:Code}{Q:Exit→Act→World→Prop}{a:Act}{w:World}(h:c.wpIn (FW ro) n P (Exit.then (LWP ro n P c Q) Q) a w):LWP ro n P c Q a w:=by
 intro b k cs j q o;obtain⟨e,i,m,g,d⟩:=h b (.inLoop c::k) cs j q o;cases e with
 |normal=>
  obtain⟨u,t,s,p,f⟩:=g b k cs j q o;exact⟨u,t,s,p,.of_steps (StepsIn.trans d (.one (fenced_calm q o rfl) stepR_inLoop)) f⟩
 |exit id=>exact⟨_,i,m,g,.pass (x:=.inLoop c) rfl (fun _ _=>.inl (by simp)) d⟩
 |goto l=>exact⟨_,i,m,g,.pass (x:=.inLoop c) rfl (fun _ _=>.inl (by simp)) d⟩
 |ret=>exact⟨_,i,m,g,.pass (x:=.inLoop c) rfl (fun _ _=>.inl (by simp)) d⟩
 |panic ch=>exact⟨_,i,m,g,.pass (x:=.inLoop c) rfl (fun _ _=>.inl (by simp)) d⟩
 |outgrown=>exact⟨_,i,m,g,.pass (x:=.inLoop c) rfl (fun _ _=>.inl (by simp)) d⟩
theorem LWP.loop{c:Code}{Q:Exit→Act→World→Prop}{a:Act}{w:World}(h:LWP ro n P c Q a w):(Code.loop c).wpIn (FW ro) n P Q a w:=by
 intro b k cs f i g;obtain⟨e,a',w',j,d⟩:=h b k cs f i g;exact⟨e,a',w',j,.of_steps (.one (fenced_calm i g rfl) stepR_loop) d⟩
theorem Iy(r:cO):DecOk [] r:=fun _=>.inl rfl
theorem S9(ops:Array Oper)(ls:Nat):left ops ls≤ops.size:=by
 unfold left;exact Nat.le_trans (List.length_filter_le ..) (by simp)
theorem mX(f:P.follows .mixedOrders=true){N id:Nat}{ops:Array Oper}{g:Bool}{v:Ann}{K:cO→af→Prop}{r:cO}{a:Act}{w:World}{Q:Exit→Act→World→Prop}
  (b:C7 P N ops.toList g v K r w.heap)(i:Agree N r a)(q:∀c a w,¬Q (.panic c) a w)
  (k:∀r' a' w',Agree N r' a'→Fr (fun t=>mV t ops.toList=true) a w a' w'→K r' w'.heap→Q .normal a' w'):(Code.region id ops g).wpIn (FW ro) n P Q a w:=by
 have m:∀o∈ops.toList,∀d,o.dst=some d→mV d ops.toList=true:=fun o p d hd=>BM p hd
 cases g with
 |false=>
  have key:∀ek,Fq P N ek ops.toList ops.toList [] K r w.heap→(Code.region id ops false).wpIn (FW ro) n P Q a w:=fun ek b=>by
   refine wpIn_region ?_;rw[List.range_eq_range',show ops.size=ops.toList.length from rfl]
   exact Fp m k ops.toList 0 rfl [] r a w b i (Iy r) (Fr.refl _ a w)
  unfold C7 at b;simp only at b;split at b
  ·exact key _ b
  ·exact key _ b
 |true=>
  unfold C7 at b;simp only at b;generalize N0 ops.toList=ms at b;cases hm:EW ops.toList ms with
  |false=>rw[hm]at b;exact b.elim
  |true=>
   rw[hm,cond_true]at b;refine wpIn_region_any f (NI (ms:=ms) _ [] _ _ _ ?_);have s:Tame w {w with drawn:=w.drawn+1}:=⟨rfl,rfl,rfl⟩;have u:Fr (fun t=>mV t ops.toList=true) a w a {w with drawn:=w.drawn+1}:=⟨s,rfl,fun _ _=>rfl⟩
   refine(Ks (MJ hm) m k (fun e a w=>?_) _ false 0 [] [] r a {w with drawn:=w.drawn+1} _ ops.size b i (Iy r) u LsRel.start (fun j x _ h=>by rw[(LsRel.start (ops:=ops)).bit,Nat.zero_testBit]at h;cases h) (fun x hx=>by cases hx)).1 rfl (S9 ops 0)
   cases e with
   |panic ch=>exact .inr (q _ a w)
   |_=>exact .inl fun c hc=>by cases hc
theorem E3(t:Nat)(x y:Code):gH t (.seq x y)=(bif gH t x then true else gH t y):=rfl
theorem DS(t:Nat)(c:Operand)(x y:Code):gH t (.cond c x y)=(bif gH t x then true else gH t y):=rfl
theorem JM{a b:Bool}:(bif a then true else b)=true↔a=true∨b=true:=by cases a<;>cases b<;>decide
theorem vt(s:P.follows .mixedOrders=true){N:Nat}(c:Code):∀(C:Ann) (Kn:cO→af→Prop) (Kx:Ex→cO→af→Prop) (r:cO) (a:Act) (w:World) (Q:Exit→Act→World→Prop),
  l5 P N c C Kn Kx r w.heap→Agree N r a→(∀L a w,¬Q (.panic L) a w)→
  (∀g a' w',Agree N g a'→Fr (fun t=>gH t c=true) a w a' w'→Kn g w'.heap→Q .normal a' w')→
  (∀i g a' w',Agree N g a'→Fr (fun t=>gH t c=true) a w a' w'→Kx (.exit i) g w'.heap→Q (.exit i) a' w')→
  (∀g a' w',Agree N g a'→Fr (fun t=>gH t c=true) a w a' w'→Kx .ret g w'.heap→Q .ret a' w')→
  c.wpIn (FW ro) n P Q a w:=by
 induction c with
 |skip=>
  intro C Kn Kx r a w Q j q _ u _ _;exact wpIn_skip (u r a w q (Fr.refl ..) j)
 |region id ops dr=>
  intro C Kn Kx r a w Q j q A u _ _;cases C with
  |reg keep inner=>
   have j:C7 P N ops.toList dr inner (fun g I=>match N5 g keep with|some r0=>Kn r0 I|none=>False) r w.heap:=j
   refine mX s j q A fun g a' w' O W hk=>?_
   split at hk
   ·rename_i r0 hr0
    refine u r0 a' w' ⟨O.size,fun t v hv=>O.look t v (Ik hr0 t v hv).2⟩ W hk
   ·exact hk.elim
  |nil=>exact mX s (show C7 P N ops.toList dr (.nil) Kn r w.heap from j) q A u
  |node x y=>exact mX s (show C7 P N ops.toList dr (.node x y) Kn r w.heap from j) q A u
  |join st x y=>exact mX s (show C7 P N ops.toList dr (.join st x y) Kn r w.heap from j) q A u
  |loop st y=>exact mX s (show C7 P N ops.toList dr (.loop st y) Kn r w.heap from j) q A u
  |draw d=>exact mX s (show C7 P N ops.toList dr (.draw d) Kn r w.heap from j) q A u
  |kinds k v=>exact mX s (show C7 P N ops.toList dr (.kinds k v) Kn r w.heap from j) q A u
  |rf ks x y=>exact mX s (show C7 P N ops.toList dr (.rf ks x y) Kn r w.heap from j) q A u
 |seq x y ihx ihy=>
  intro C Kn Kx r a w Q j q A u hx F;have D:∀{a' w'},Fr (fun t=>gH t x=true) a w a' w'→Fr (fun t=>gH t (.seq x y)=true) a w a' w':=fun h=>h.mono fun t R=>by rw[E3,JM];exact .inl R
  have B:∀{a' w' G H},Fr (fun t=>gH t x=true) a w a' w'→Fr (fun t=>gH t y=true) a' w' G H→Fr (fun t=>gH t (.seq x y)=true) a w G H:=
   fun h k=>(D h).trans (k.mono fun t R=>by rw[E3,JM];exact .inr R)
  have plain:∀U S,l5 P N x U (fun g I=>l5 P N y S Kn Kx g I) Kx r w.heap→(Code.seq x y).wpIn (FW ro) n P Q a w:=fun U S j=>by
   refine wpIn_seq (ihx U _ Kx r a w _ j q (fun L a w=>A L a w) ?_ (fun i g a' w' p h2 o=>hx i g a' w' p (D h2) o) (fun g a' w' p h2 o=>F g a' w' p (D h2) o))
   intro r1 V Z E z K;exact ihy S Kn Kx r1 V Z Q K E A (fun g a' w' p h2 o=>u g a' w' p (B z h2) o) (fun i g a' w' p h2 o=>hx i g a' w' p (B z h2) o) (fun g a' w' p h2 o=>F g a' w' p (B z h2) o)
  cases C with
  |join st U S=>
   have j:(match As x with
      |none=>False
      |some m=>Join (T:=wS (A0 st)) (fun t I=>l5 P N y S Kn Kx (pl st (oA (A0 st) t) (yM m r)) I)
       fun J=>l5 P N x U (fun g I=>DZ st g fun t=>J t I) Kx r w.heap):=j
   split at j
   ·exact j.elim
   ·rename_i m hm
    refine wpIn_seq (ihx U _ Kx r a w _ j.run q (fun L a w=>A L a w) ?_ (fun i g a' w' p h2 o=>hx i g a' w' p (D h2) o) (fun g a' w' p h2 o=>F g a' w' p (D h2) o))
    intro r1 V Z E z K;obtain⟨t,hst,hs2⟩:=yz K;have ha2:Agree N (pl st (oA (A0 st) t) (yM m r)) V:=E.zip hst (q.keep hm z E);exact ihy S Kn Kx _ V Z Q hs2 ha2 A (fun g a' w' p h2 o=>u g a' w' p (B z h2) o) (fun i g a' w' p h2 o=>hx i g a' w' p (B z h2) o) (fun g a' w' p h2 o=>F g a' w' p (B z h2) o)
  |_=>exact plain _ _ j
 |cond c x y ihx ihy=>
  intro C Kn Kx r a w Q j q A u hx F;have j:(match dF r c with
   |some (.bool t)=>CondP t (l5 P N x C.l Kn Kx r w.heap) (l5 P N y C.r Kn Kx r w.heap)
   |_=>False):=j
  have D:∀{a' w'},Fr (fun t=>gH t x=true) a w a' w'→Fr (fun t=>gH t (.cond c x y)=true) a w a' w':=fun h=>h.mono fun t R=>by rw[DS,JM];exact .inl R
  have B:∀{a' w'},Fr (fun t=>gH t y=true) a w a' w'→Fr (fun t=>gH t (.cond c x y)=true) a w a' w':=fun h=>h.mono fun t R=>by rw[DS,JM];exact .inr R
  split at j
  ·rename_i t R
   refine wpIn_cond_split (lF q R) (fun e=>?_) (fun e=>?_)
   ·exact ihx _ Kn Kx r a w Q (j.yes e) q A (fun g a' w' p h2 o=>u g a' w' p (D h2) o) (fun i g a' w' p h2 o=>hx i g a' w' p (D h2) o) (fun g a' w' p h2 o=>F g a' w' p (D h2) o)
   ·exact ihy _ Kn Kx r a w Q (j.no e) q A (fun g a' w' p h2 o=>u g a' w' p (B h2) o) (fun i g a' w' p h2 o=>hx i g a' w' p (B h2) o) (fun g a' w' p h2 o=>F g a' w' p (B h2) o)
  ·exact j.elim
 |block id b ih=>
  intro C Kn Kx r a w Q j q A u hx F;refine wpIn_block (ih C Kn _ r a w _ j q (fun L a w=>A L a w) u (fun i g a' w' p h2 o=>?_) F)
  simp only[Exit.inBlock]at o⊢;cases hi:bK i id with
  |true=>
   rw[hi,cond_true]at o;rw[if_pos (aV hi)];exact u g a' w' p h2 o
  |false=>
   rw[hi,cond_false]at o;rw[if_neg (fun e=>by rw[e,uj]at hi;cases hi)]
   exact hx i g a' w' p h2 o
 |loop b ih=>
  intro C Kn Kx r a w Q j q A u hx F;cases C with
  |loop st S=>
   have j:(match As b with
      |none=>False
      |some m=>DZ st r fun t0=>LoopP (T:=wS (A0 st)) (fun self t I=>l5 P N b S (fun g h''=>DZ st g fun t'=>self t' h'') Kx (pl st (oA (A0 st) t) (yM m r)) I) t0 w.heap):=j
   split at j
   ·exact j.elim
   ·rename_i m hm
    obtain⟨t0,Y,hl⟩:=yz j;have h0:=hl.run (fun t I=>∀a' w',w'.heap=I→Agree N (pl st (oA (A0 st) t) (yM m r)) a'→Fr (fun t=>gH t b=true) a w a' w'→LWP ro n P b Q a' w') (fun t I hF a' w' hw O W=>by
     subst hw
     refine LWP.step (ih S _ Kx _ a' w' _ hF O (fun L a w=>A L a w) ?_ (fun i g G H p h2 o=>hx i g G H p (W.trans h2) o) (fun g G H p h2 o=>F g G H p (W.trans h2) o))
     intro r1 V Z E z K
     obtain⟨t1,X,hk1⟩:=yz K
     exact hk1 V Z rfl (E.zip X (q.keep hm (W.trans z) E)) (W.trans z))
    exact LWP.loop (h0 a w rfl (q.zip Y (q.keep hm (Fr.refl _ a w) q)) (Fr.refl _ a w))
  |_=>exact j.elim
 |rangeFunc f params assign body _ _=>intro C Kn Kx r a w Q j;exact j.elim
 |exit id=>
  intro C Kn Kx r a w Q j q A u hx F;exact wpIn_exit (hx id r a w q (Fr.refl ..) j)
 |scope b _=>intro C Kn Kx r a w Q j;exact j.elim
 |label l=>
  intro C Kn Kx r a w Q j q A u hx F;exact wpIn_label (u r a w q (Fr.refl ..) j)
 |goto l=>intro C Kn Kx r a w Q j;exact j.elim
 |ret=>
  intro C Kn Kx r a w Q j q A u hx F;exact wpIn_ret (F r a w q (Fr.refl ..) j)
 |refuse why=>intro C Kn Kx r a w Q j;exact j.elim
end Go.Lift
namespace Go.Lift
open Go
variable {P:Program}
theorem rW{N:Nat}{r:cO}{a:Act}{w:World}(e:Agree N r a):∀{l:List ResultVar} {K:List Value→Prop},pm P r w.heap l K→
  ∃vs,(∀g:ResultVar→Sem Value,(∀t,g (.tmp t)=pure (a.tmps.getD t undef))→(∀x t,g (.cell x t)=do loadVar t (←asAddr (a.tmps.getD x undef)))→(l.mapM g).run P w=.ok vs w)∧K vs
 | [],K,h=>⟨[],fun g _ _=>by rw[List.mapM_nil];rfl,h⟩
 | .tmp t::l,K,h=>by
  unfold pm at h;split at h
  ·rename_i v hv
   obtain⟨vs,f,i⟩:=rW e h;refine⟨v::vs,fun g c d=>?_,i⟩
   rw[List.mapM_cons,c];simp only[aU,bT,aB];rw[f g c d];simp only[aB,e.look t v hv]
  ·exact h.elim
 | .cell x t::l,K,h=>by
  unfold pm at h;split at h
  ·rename_i v hv
   obtain⟨u,S,m,k,n⟩:=D5 h;obtain⟨vs,f,i⟩:=rW e m;refine⟨u::vs,fun g c d=>?_,i⟩
   rw[List.mapM_cons,d];have j:(do loadVar t (←asAddr (a.tmps.getD x undef)):Sem Value).run P w=.ok u w:=by
    rw[e.look x v hv];unfold KF at h;cases v with
    |pointer p=>cases p with
     |none=>exact h.elim
     |some b=>exact n w k
    |_=>exact h.elim
   simp only[aU]at j⊢;rw[j];simp only[aB];rw[f g c d];simp only[bT,aB]
  ·exact h.elim
theorem HZ(ks:List Kind)(t:wS ks):(if h:(oA ks t).toArray.size=1 then(oA ks t).toArray[0]else Value.tuple (oA ks t).toArray)=Eu ks (oA ks t):=by
 match ks,t with
 | [],t=>rfl
 | [k],t=>rfl
 |k::l::ks,(x,t)=>
  have:(oA (k::l::ks) (x,t)).length=(k::l::ks).length:=vE _ _;rw[dif_neg (by simp only[dE,this,ax];omega)];rfl
theorem xM:∀(vs:List Value) (i t:Nat) (v:Value),lD (rZ i vs) t=some v→i≤t∧vs[t-i]? =some v
 | [],i,t,v,h=>by cases h
 |u::vs,i,t,v,h=>by
  by_cases e:i=t
  ·subst e
   rw[show rZ i (u::vs)=(i,u)::rZ (i+1) vs from rfl,jg]at h
   cases h;exact⟨Nat.le_refl _,by simp⟩
  ·rw[show rZ i (u::vs)=(i,u)::rZ (i+1) vs from rfl,ic u _ e]at h
   obtain⟨b,h2⟩:=xM vs (i+1) t v h;refine⟨by omega,?_⟩;rw[show t-i=(t-(i+1))+1 by omega,List.getElem?_cons_succ]
   exact h2
theorem Oi(d:P.follows .mixedOrders=true){n:Nat}{fn:Func}{c:Code}{k:Ann}{args:List Value}{ks:List Kind}{K:wS ks→af→Prop}{w:World}(m:args.length≤fn.ntmps)(p:HR P fn c k args ks K w.heap):
  c.wpIn (FW none) n P (bodyPost P fn fun e w'=>Tame w w'∧∃t:wS ks,e=.returned (Eu ks (oA ks t))∧K t w'.heap) {tmps:=args.toArray++pw (fn.ntmps-args.toArray.size) undef,defers:= []} w:=by
 have s:Agree fn.ntmps (rZ 0 args) {tmps:=args.toArray++pw (fn.ntmps-args.toArray.size) undef,defers:= []}:=by
  refine⟨by simp;omega,fun t v hv=>?_⟩
  obtain⟨_,h2⟩:=xM args 0 t v hv;simp only[eX]at h2;have b:=(aY.1 h2).1;simp[Array.getElem?_append,b];rw[aj b]at h2;cases h2;rfl
 have fin:∀i a' (w':World),Agree fn.ntmps i a'→Fr (fun t=>gH t c=true) {tmps:=args.toArray++pw (fn.ntmps-args.toArray.size) undef,defers:= []} w a' w'→
   pm P i w'.heap fn.results.toList (fun vs=>ED ks vs fun t=>K t w'.heap)→
   a'.defers= []∧∃v,(results fn a'.tmps).run P w'=.ok v w'∧(Tame w w'∧∃t:wS ks,Ending.returned v=.returned (Eu ks (oA ks t))∧K t w'.heap):=fun i a' w' j g o=>by
  obtain⟨vs,f,hd⟩:=rW j o;obtain⟨t,rfl,q⟩:=uR hd;refine⟨g.defers,_,?_,g.tame,t,rfl,q⟩;unfold results;rw[om];simp only[aU,Sem.run_map];rw[f _ (fun _=>rfl) (fun _ _=>rfl)]
  simp only[aB,bT];rw[←HZ]
 exact vt d c k _ _ _ _ w _ p s (fun u a w h=>h.2.2.elim fun _ h=>by cases h.1) fin (fun _ _ _ _ _ _ h=>h.elim) fin
theorem HE.intro(e:P.follows .mixedOrders=true){f:FuncId}{fn:Func}{c:Code}{m:Ann}{args:List Value}{ks:List Kind}{K:wS ks→af→Prop}{h:af}
  (k:P.funcs[f]? =some fn) (j:fn.body=some c) (b:∀(args:Array Value) (w:World),(callFunc f args).run P w=.ok (.enter f args) w) (d:args.length≤fn.ntmps)
  (g:HR P fn c m args ks K h):HE P f args ks K h:=by
 refine⟨fun w i=>⟨b,?_⟩⟩
 subst i;exact(callsIn_wide (n:=0)).1 (callsIn_of_wp (F:=FW none) k j trivial (Oi e d g) rfl)
theorem HD.intro(g:P.follows .mixedOrders=true){f:FuncId}{fn:Func}{c:Code}{s:Ann}{args:List Value}{ks:List Kind}{K:af→Prop}{h:af}
  (p:P.funcs[f]? =some fn) (o:fn.body=some c) (b:∀(args:Array Value) (w:World),(callFunc f args).run P w=.ok (.enter f args) w) (d:args.length≤fn.ntmps)
  (j:HR P fn c s args ks (fun _ h'=>K h') h):HD P f args K h:=by
 refine fun w k=>⟨b,fun n=>?_⟩
 subst k;exact(callsDIn_of_wp (F:=FW none) p o trivial (Oi g d j) rfl).mono fun e u w' ⟨v,m,t,i,q⟩=>⟨v,m,⟨_,i⟩,q⟩
theorem HC.intro(e:P.follows .mixedOrders=true){f:FuncId}{fn:Func}{c:Code}{k:Ann}{args:List Value}{ks:List Kind}{K:wS ks→af→Prop}{h:af}
 (j:P.funcs[f]? =some fn) (i:fn.body=some c) (b:∀(args:Array Value) (w:World),(callFunc f args).run P w=.ok (.enter f args) w) (d:args.length≤fn.ntmps)
 (g:HR P fn c k args ks K h):HC P f args ks K h:=(HE.intro e j i b d g).hc
theorem Nc{N:Nat}{args:List Value}(c:args.length≤N):Agree N (rZ 0 args) {tmps:=args.toArray++pw (N-args.toArray.size) undef,defers:= []}:=by
 refine⟨by simp;omega,fun t v hv=>?_⟩
 obtain⟨_,h2⟩:=xM args 0 t v hv;simp only[eX]at h2;have b:=(aY.1 h2).1;simp[Array.getElem?_append,b];rw[aj b]at h2;cases h2;rfl
theorem Kw{N:Nat}{fn:Func}{ks:List Kind}{K:wS ks→af→Prop}{d:cO}{a':Act}{w':World}(c:Agree N d a')(e:pm P d w'.heap fn.results.toList (fun vs=>ED ks vs fun t=>K t w'.heap)):
  ∃t:wS ks,(results fn a'.tmps).run P w'=.ok (Eu ks (oA ks t)) w'∧K t w'.heap:=by
 obtain⟨vs,b,hd⟩:=rW c e;obtain⟨t,rfl,f⟩:=uR hd;refine⟨t,?_,f⟩;unfold results;rw[om];simp only[aU,Sem.run_map];rw[b _ (fun _=>rfl) (fun _ _=>rfl)]
 simp only[aB,bT];rw[←HZ]
end Go.Lift
namespace Go.Lift
open Go
variable {P:Program}
abbrev FK(D:Nat):Deferred:={target:=.collected D,args:= #[]}
abbrev rI:Mk→Deferred
 | .it D=>FK D
 | .call f vs=>{target:=.fn (.func f) #[],args:= #[]++vs.toArray}
theorem Gh{N:Nat}:∀{ps:List Nat} {vs:List Value} {r:cO} {tmps:Array Value},Bc N ps=true→Agree N r {tmps:=tmps,defers:= []}→
  Agree N (Sx ps vs r) {tmps:=(ps.zip vs).foldl (fun t x=>t.setIfInBounds x.1 x.2) tmps,defers:= []}
 | [],vs,r,tmps,_,h=>by cases vs<;>exact h
 |i::ps,[],r,tmps,_,h=>h
 |i::ps,v::vs,r,tmps,b,h=>by
  have b:(Ad i N&&Bc N ps)=true:=b;rw[bc]at b;have c:i<N:=by simpa using b.1
  have:=h.put i v c;exact Gh (tmps:=tmps.setIfInBounds i v) b.2 this
theorem Fg(w:World)(o:Obj):Tame w (w.alloc o):=⟨rfl,rfl,rfl⟩
theorem pY(w:World)(b:Nat)(o:Obj):Tame w (w.putObj b o):=⟨rfl,rfl,rfl⟩
theorem KK(w:World)(b:Nat)(o:Obj):(w.putObj b o).heap=w.heap.setIfInBounds b o:=rfl
theorem Oo(ps:Array Nat)(vs:List Value)(t:Array Value):(ps.zip vs.toArray).foldl (fun t (x:Nat×Value)=>t.setIfInBounds x.1 x.2) t=(ps.toList.zip vs).foldl (fun t x=>t.setIfInBounds x.1 x.2) t:=by
 obtain⟨l⟩:=ps;simp
theorem Ev(B:P.follows .mixedOrders=true){n N:Nat}{g:Operand}{ps:Array Tmp}{assign body:Code}{aa ab:Ann}{ks:List Kind}{fv:Value}{r:cO}{a:Act}{w:World}{Q:Exit→Act→World→Prop}
  {KN:af→Prop}{KX:Nat→af→Prop}{KR:af→Prop}(U:Bc N ps.toList=true)(J:ps.toList.length=ks.length)(hg:dF r g=some fv)(X:Agree N r a)
  (hR:RangeP P fv ks w.heap (fun Ki bz x k h'=>Ma P N ps.toList ks assign body (.node aa ab) r (w.heap.size+1) Ki bz x k h') KN KX KR)
  (hn:∀w',Tame w w'→KN w'.heap→Q .normal {a with defers:=FK w.heap.size::a.defers} w')
  (hx:∀i w',Tame w w'→KX i w'.heap→Q (.exit i) {a with defers:=FK w.heap.size::a.defers} w')
  (hr:∀w',Tame w w'→KR w'.heap→Q .ret {a with defers:=FK w.heap.size::a.defers} w'):(Code.rangeFunc g ps assign body).wpIn (FW none) n P Q a w:=by
 refine wpIn_rangeFunc fun fn _=>?_
 obtain⟨lo,p⟩:∃lo:LoopState→Option Ex→Obj,lo=fun s j=>.loop {state:=s,pending:=JC j,fn,tmps:=a.tmps,params:=ps,assign,body,defers:=w.heap.size}:=⟨_,rfl⟩
 have hj:∀j:Option Ex,(JC j).isNone=j.isNone:=fun j=>by rcases j with _|⟨_|_⟩<;>rfl
 obtain⟨f,first,cap,rfl,he⟩:=hR.run lo (fun s j=>⟨_,by rw[p]⟩) (fun x h' K q z=>by
  refine⟨.inr ⟨_,rfl,⟨fun G hw1=>?_⟩⟩⟩
  subst hw1
  rw[p]at q
  have hy:=run_yield (P:=P) (args:=(oA ks x).toArray) q (by simp only[dE,vE];rw[←J];rfl)
  refine⟨_,_,_,_,hy,fun c cs=>?_⟩
  have hA:Agree N (Sx ps.toList (oA ks x) r) {tmps:=(ps.zip (oA ks x).toArray).foldl (fun t (x:Nat×Value)=>t.setIfInBounds x.1 x.2) a.tmps,defers:= []}:=by
   rw[Oo]
   exact Gh U ⟨X.size,X.look⟩
  have m:∀j:Option Ex,∀W:World,Tame G W→(W.heap[w.heap.size+1]? =some (lo .busy none)∧K j.isNone (W.heap.setIfInBounds (w.heap.size+1) (lo (if j.isNone then .ready else .done) j)))→
    ∃v w',(Instr.endRound (w.heap.size+1) (JC j)).run P W=.ok v w'∧∃b,Ending.returned v=.returned (.bool b)∧Tame G w'∧K b w'.heap:=by
   rintro j W H ⟨h1,h2⟩
   rw[p]at h1
   have:=run_endRound (P:=P) (JC j) h1
   refine⟨_,_,this,_,rfl,H.trans (pY ..),?_⟩
   rw[p]at h2
   rw[hj]
   exact h2
  have:=roundIn_of_wpIn (F:=FW none) (n:=0) (P:=P) (l:=w.heap.size+1) (f:=fn) (assign:=assign) (body:=body) (w:=G)
   (tmps:=(ps.zip (oA ks x).toArray).foldl (fun t (x:Nat×Value)=>t.setIfInBounds x.1 x.2) a.tmps)
   (R:=fun e w'=>∃b,e=.returned (.bool b)∧Tame G w'∧K b w'.heap) trivial (by
    refine vt (ro:=some (w.heap.size+1)) B assign aa _ _ _ _ G _ z hA (fun ch a w h=>h) ?_ (fun i r' a' w' _ _ h=>h.elim) (fun r' a' w' _ _ h=>h.elim)
    rintro r2 a2 T ha2 E ⟨y,D⟩
    rw[p]at y
    refine⟨_,run_beginRound y rfl,?_⟩
    have O:∀o,o=lo .busy none→T.heap.setIfInBounds (w.heap.size+1) o=T.heap.setIfInBounds (w.heap.size+1) (lo .busy none):=fun o Z=>by rw[Z]
    refine vt (ro:=some (w.heap.size+1)) B body ab (fun _ h2=>_) (fun e _ h2=>_) _ _ (T.putObj (w.heap.size+1) _) _ (by
     rw[KK,O _ (by rw[p])];exact D) ha2 (fun ch a w h=>h) ?_ ?_ ?_
    ·rintro r3 a3 L S u I
     exact m none L ((E.tame.trans (pY ..)).trans u.tame) I
    ·rintro i r3 a3 L S u I
     exact m (some (.exit i)) L ((E.tame.trans (pY ..)).trans u.tame) I
    ·rintro r3 a3 L S u I
     exact m (some .ret) L ((E.tame.trans (pY ..)).trans u.tame) I)
  obtain⟨e,w',⟨b,rfl,H,hK⟩,V⟩:=this.2 c cs (fun d h=>by simp[FW]at h)
  exact⟨b,w',H,hK,V.steps⟩)
 have A:=he.run ((w.alloc (.deferred (some []))).alloc (lo .ready none)) rfl;refine⟨w.heap.size+1,[FK w.heap.size],(w.alloc (.deferred (some []))).alloc (lo .ready none),{target:=.fn (.func f) cap,args:=first++ #[.func (.yield (w.heap.size+1)) #[] #[]]},(w.alloc (.deferred (some []))).alloc (lo .ready none),f,
  first++ #[.func (.yield (w.heap.size+1)) #[] #[]]++cap,(w.alloc (.deferred (some []))).alloc (lo .ready none),?_,?_,fun _ _=>trivial,?_,fun h=>by simp[FW]at h,?_⟩
 ·rw[p];exact run_enterLoop_outer fn a.tmps ps assign body
 ·have Y:=lF X hg
  simp[resolve,Y,Deferred.ofValue,bT];rfl
 ·simp[invoke,A.1]
 ·refine Gc ?_
  have e:(first.toList++ [Value.func (.yield (w.heap.size+1)) #[] #[]]++cap.toList).toArray=first++ #[.func (.yield (w.heap.size+1)) #[] #[]]++cap:=by apply dw;simp
  rw[←e];refine A.2.mono ?_;rintro e w' ⟨H,t,rfl,s,j,V,q,m⟩;have ht':Tame w w':=((Fg w _).trans (Fg _ _)).trans H;rw[p]at q;refine⟨_,_,run_endLoop q V,?_⟩;have C:∀o,Tame w (w'.putObj (w.heap.size+1) o):=fun o=>ht'.trans (pY ..)
  have O:∀o,o=lo .exhausted j→(w'.putObj (w.heap.size+1) o).heap=w'.heap.setIfInBounds (w.heap.size+1) (lo .exhausted j):=fun o Z=>by rw[Z];rfl
  rcases j with _|⟨i|_⟩
  ·exact hn _ (C _) (by rw[O _ (by rw[p])];exact m)
  ·exact wpIn_exit (hx i _ (C _) (by rw[O _ (by rw[p])];exact m))
  ·exact wpIn_ret (hr _ (C _) (by rw[O _ (by rw[p])];exact m))
theorem F6{n N id d:Nat}{ops:Array Oper}{m o:Oper}{x:Operand}{f:FuncId}{as:List Operand}{vs:List Value}{v:Value}{r:cO}{a:Act}{w:World}{Q:Exit→Act→World→Prop}(b:F7 ops.toList=some (m,o,x,d,f,as))(hv:dF r x=some v)(s:d<N)(g:pC ((d,v)::r) as=some vs)(i:Agree N r a)
  (z:∀a',Agree N ((d,v)::r) a'→a'.defers=rI (.call f vs)::a.defers→Q .normal a' w):(Code.region id ops false).wpIn (FW none) n P Q a w:=by
 unfold F7 at b;split at b
 ·rename_i m' o' hl
  split at b
  ·rename_i x' d' c h1 h2 h3 h4 h5 h6
   split at b
   ·rename_i f' hc
    cases b;have j:ops[0]? =some m:=by rw[←bv,hl];rfl
    have p:ops[1]? =some o:=by rw[←bv,hl];rfl
    have es:ops.size=2:=by rw[←Array.length_toList,hl];rfl
    have t:∀y,Region.wanted m y=true:=fun y=>by simp[Region.wanted,h2]
    have k:∀y,Region.wanted o y=true:=fun y=>by simp[Region.wanted,h6]
    refine wpIn_region ?_;rw[es,show fB 2= [0,1]from rfl]
    simp only[wpOpsIn,j,p,t,k,if_true];refine BigFrame.wpIn_move x h1 ?_;rw[lF i hv,h3];have e:=i.put d v s;refine⟨fun _ _=>trivial,?_⟩
    have q:((Oper.semAt (FW none).round (a.put (some d) v).eval o).run P w)=.ok (.defer (rI (.call f vs))) w:=by
     show((execOp (a.put (some d) v).eval o).run P w)=_
     have u:=nM e g;have A:c.args.map (a.put (some d) v).eval=vs.toArray:=by rw[←u];apply dw;simp
     simp only[execOp,h4,resolve,hc,A];simp[Act.eval,Deferred.ofValue,rI]
    rw[q,Oper.uponIn_defer,h5];exact z _ ⟨e.size,e.look⟩ rfl
   ·cases b
  ·cases b
 ·cases b
theorem IX(G:P.follows .mixedOrders=true){n N:Nat}(c:Code):∀(s:Ann) (Kn:List Mk→cO→af→Prop) (Kx:Ex→List Mk→cO→af→Prop) (ms:List Mk) (r:cO) (a:Act) (w:World) (Q:Exit→Act→World→Prop),
  A5 P N c s Kn Kx ms r w.heap→Agree N r a→a.defers=ms.map rI→(∀H a w,¬Q (.panic H) a w)→
  (∀p q a' w',Agree N q a'→a'.defers=p.map rI→Tame w w'→Kn p q w'.heap→Q .normal a' w')→
  (∀i p q a' w',Agree N q a'→a'.defers=p.map rI→Tame w w'→Kx (.exit i) p q w'.heap→Q (.exit i) a' w')→
  (∀p q a' w',Agree N q a'→a'.defers=p.map rI→Tame w w'→Kx .ret p q w'.heap→Q .ret a' w')→
  c.wpIn (FW none) n P Q a w:=by
 have plain:∀(c:Code) (s:Ann) (Kn:List Mk→cO→af→Prop) (Kx:Ex→List Mk→cO→af→Prop) (ms:List Mk) (r:cO) (a:Act) (w:World) (Q:Exit→Act→World→Prop),
  l5 P N c s (Kn ms) (fun e=>Kx e ms) r w.heap→Agree N r a→a.defers=ms.map rI→(∀H a w,¬Q (.panic H) a w)→
  (∀p q a' w',Agree N q a'→a'.defers=p.map rI→Tame w w'→Kn p q w'.heap→Q .normal a' w')→
  (∀i p q a' w',Agree N q a'→a'.defers=p.map rI→Tame w w'→Kx (.exit i) p q w'.heap→Q (.exit i) a' w')→
  (∀p q a' w',Agree N q a'→a'.defers=p.map rI→Tame w w'→Kx .ret p q w'.heap→Q .ret a' w')→
  c.wpIn (FW none) n P Q a w:=by
  intro c s Kn Kx ms r a w Q j u hd B z hx A;exact vt G c s _ _ r a w Q j u B (fun q a' w' D h2 C=>z ms q a' w' D (h2.defers.trans hd) h2.tame C) (fun i q a' w' D h2 C=>hx i ms q a' w' D (h2.defers.trans hd) h2.tame C)
   (fun q a' w' D h2 C=>A ms q a' w' D (h2.defers.trans hd) h2.tame C)
 induction c with
 |skip=>intro s Kn Kx ms r a w Q j;exact plain _ s Kn Kx ms r a w Q j
 |region id ops dr=>
  intro s Kn Kx ms r a w Q j u hd B z hx A;have j:(match F7 ops.toList with
   |none=>l5 P N (.region id ops dr) s (Kn ms) (fun e=>Kx e ms) r w.heap
   |some (_,_,x,d,f,as)=>bif dr then False else match dF r x with
    |some v=>bif Ad d N then(match pC ((d,v)::r) as with|some vs=>Kn (.call f vs::ms) ((d,v)::r) w.heap|none=>False)else False
    |none=>False):=j
  split at j
  ·exact plain _ s Kn Kx ms r a w Q j u hd B z hx A
  ·rename_i m o x d f as he
   cases dr with
   |true=>exact j.elim
   |false=>
    rw[cond_false]at j;split at j
    · rename_i v hv
      cases hb:Ad d N with
      |false=>rw[hb]at j;exact j.elim
      |true=>
       rw[hb,cond_true]at j;split at j
       ·rename_i vs hvs
        refine F6 he hv (by simpa using hb) hvs u fun a' S U=>z (.call f vs::ms) _ a' w S ?_ ⟨rfl,rfl,rfl⟩ j
        rw[U,hd];rfl
       ·exact j.elim
    · exact j.elim
 |seq x y ihx ihy=>
  intro s Kn Kx ms r a w Q j u hd B z hx A;have j:(bif (bif uy x then true else uy y)then A5 P N x s.l (fun ms q E=>A5 P N y s.r Kn Kx ms q E) Kx ms r w.heap
   else l5 P N (.seq x y) s (Kn ms) (fun e=>Kx e ms) r w.heap):=j
  cases hb:(bif uy x then true else uy y)with
  |false=>rw[hb]at j;exact plain _ _ _ _ _ _ _ _ _ j u hd B z hx A
  |true=>
   rw[hb,cond_true]at j;refine wpIn_seq (ihx s.l _ Kx ms r a w _ j u hd (fun H a w=>B H a w) ?_ hx A)
   intro T r1 Z Y L W I R;exact ihy s.r Kn Kx T r1 Z Y Q R L W B (fun p q a' w' D h2 C F=>z p q a' w' D h2 (I.trans C) F) (fun i p q a' w' D h2 C F=>hx i p q a' w' D h2 (I.trans C) F)
    (fun p q a' w' D h2 C F=>A p q a' w' D h2 (I.trans C) F)
 |cond c x y ihx ihy=>
  intro s Kn Kx ms r a w Q j u hd B z hx A;have j:(bif (bif uy x then true else uy y)then
    (match dF r c with
     |some (.bool t)=>CondP t (A5 P N x s.l Kn Kx ms r w.heap) (A5 P N y s.r Kn Kx ms r w.heap)
     |_=>False)
   else l5 P N (.cond c x y) s (Kn ms) (fun e=>Kx e ms) r w.heap):=j
  cases hb:(bif uy x then true else uy y)with
  |false=>rw[hb]at j;exact plain _ _ _ _ _ _ _ _ _ j u hd B z hx A
  |true=>
   rw[hb,cond_true]at j;split at j
   ·rename_i t J
    exact wpIn_cond_split (lF u J) (fun e=>ihx _ Kn Kx ms r a w Q (j.yes e) u hd B z hx A) (fun e=>ihy _ Kn Kx ms r a w Q (j.no e) u hd B z hx A)
   ·exact j.elim
 |block id b ih=>
  intro s Kn Kx ms r a w Q j u hd B z hx A;have j:(bif uy b then A5 P N b s Kn (fun e ms q E=>match e with
    | .exit i=>bif bK i id then Kn ms q E else Kx (.exit i) ms q E
    | .ret=>Kx .ret ms q E) ms r w.heap
   else l5 P N (.block id b) s (Kn ms) (fun e=>Kx e ms) r w.heap):=j
  cases hb:uy b with
  |false=>rw[hb]at j;exact plain _ _ _ _ _ _ _ _ _ j u hd B z hx A
  |true=>
   rw[hb,cond_true]at j;refine wpIn_block (ih s Kn _ ms r a w _ j u hd (fun H a w=>B H a w) z (fun i p q a' w' D h2 C F=>?_) A)
   simp only[Exit.inBlock]at F⊢;cases hi:bK i id with
   |true=>
    rw[hi,cond_true]at F;rw[if_pos (aV hi)];exact z p q a' w' D h2 C F
   |false=>
    rw[hi,cond_false]at F;rw[if_neg (fun e=>by rw[e,uj]at hi;cases hi)]
    exact hx i p q a' w' D h2 C F
 |loop b ih=>intro s Kn Kx ms r a w Q j;exact plain _ s Kn Kx ms r a w Q j
 |rangeFunc g ps assign body _ _=>
  intro s Kn Kx ms r a w Q j u hd B z hx A;cases s with
  |rf ks aa ab=>
   have j:(bif Bc N ps.toList&&bK ps.toList.length ks.length then
    (match dF r g with
     |some fv=>RangeP P fv ks w.heap (fun Ki X x k E=>Ma P N ps.toList ks assign body (.node aa ab) r (w.heap.size+1) Ki X x k E)
       (fun E=>Kn (.it w.heap.size::ms) r E) (fun i E=>Kx (.exit i) (.it w.heap.size::ms) r E) (fun E=>Kx .ret (.it w.heap.size::ms) r E)
     |none=>False)else False):=j
   cases hb:(Bc N ps.toList&&bK ps.toList.length ks.length)with
   |false=>rw[hb]at j;exact j.elim
   |true=>
    rw[hb,cond_true]at j;rw[bc]at hb;split at j
    · rename_i fv hfv
      have V:Agree N r {a with defers:=FK w.heap.size::a.defers}:=⟨u.size,u.look⟩;have O:({a with defers:=FK w.heap.size::a.defers}:Act).defers=(.it w.heap.size::ms).map rI:=by rw[List.map_cons,←hd]
      exact Ev G hb.1 (aV hb.2) hfv u j (fun w' J K=>z _ r _ w' V O J K) (fun i w' J K=>hx i _ r _ w' V O J K) (fun w' J K=>A _ r _ w' V O J K)
    · exact j.elim
  |_=>exact j.elim
 |exit id=>intro s Kn Kx ms r a w Q j;exact plain _ s Kn Kx ms r a w Q j
 |scope b _=>intro s Kn Kx ms r a w Q j;exact j.elim
 |label l=>intro s Kn Kx ms r a w Q j;exact plain _ s Kn Kx ms r a w Q j
 |goto l=>intro s Kn Kx ms r a w Q j;exact j.elim
 |ret=>intro s Kn Kx ms r a w Q j;exact plain _ s Kn Kx ms r a w Q j
 |refuse why=>intro s Kn Kx ms r a w Q j;exact j.elim
theorem xz{fn:Func}{ks:List Kind}{K:wS ks→af→Prop}{N:Nat}{n:Nat}{r:cO}{a:Act}{i:World}(d:Agree N r a):∀(ms:List Mk) (w:World),Tame i w→
  Kr P ms (fun g=>pm P r g fn.results.toList fun vs=>ED ks vs fun t=>K t g) w.heap→
  LeavesInM (FW none) n P fn a.tmps (fun e w'=>Tame i w'∧∃t:wS ks,e=.returned (Eu ks (oA ks t))∧K t w'.heap) (ms.map rI) .returning w
 | [],w,ht,h=>by
  obtain⟨t,b,k⟩:=Kw d h;exact⟨_,b,ht,t,rfl,k⟩
 | .it D::ms,w,ht,h=>by
  refine⟨by simp,.inl ⟨D,_,rfl,run_takeDeferred h.1,?_⟩⟩;exact xz d ms (w.putObj D (.deferred none)) (ht.trans (pY ..)) h.2
 | .call f vs::ms,w,ht,h=>by
  obtain⟨hc,hd⟩:=h w rfl;refine⟨by simp,.inr ⟨(fun e=>by cases e),.func f,#[],f,vs.toArray,rfl,?_,fun _ _=>trivial,CallsDIn.mono (hd (n-1)) fun e u w' ⟨o,c,⟨v,j⟩,m⟩=>?_⟩⟩
  ·have:=hc vs.toArray w
   simpa[invoke]using this
  ·subst o j
   exact xz d ms w' (ht.trans c) m
theorem HE.introM(m:P.follows .mixedOrders=true){f:FuncId}{fn:Func}{c:Code}{q:Ann}{args:List Value}{ks:List Kind}{K:wS ks→af→Prop}{h:af}
  (x:P.funcs[f]? =some fn) (v:fn.body=some c) (g:∀(args:Array Value) (w:World),(callFunc f args).run P w=.ok (.enter f args) w) (k:args.length≤fn.ntmps)
  (s:Mb P fn c q args ks K h):HE P f args ks K h:=by
 refine⟨fun w u=>⟨g,?_⟩⟩
 subst u;refine(callsIn_wide (n:=0)).1 (callsIn_of_wp_marks (F:=FW none) x v trivial ?_ rfl);refine wpIn_mono (Q:=fun e a w'=>(∀o,e≠ .panic o)∧bodyPostM (FW none) 0 P fn (fun e w'=>Tame w w'∧∃t:wS ks,e=.returned (Eu ks (oA ks t))∧K t w'.heap) e a w') ?_ fun e a w h=>h.2
 refine IX m c q _ _ [] _ _ w _ s (Nc k) rfl (fun o a w h=>h.1 o rfl) ?_ (fun _ _ _ _ _ _ _ _ h=>h.elim) ?_
 ·intro i y a' w' j d b p
  refine⟨(fun _ e=>by cases e),?_⟩
  show LeavesInM _ _ _ _ _ _ a'.defers _ _
  rw[d];exact xz j i w' b p
 ·intro i y a' w' j d b p
  refine⟨(fun _ e=>by cases e),?_⟩
  show LeavesInM _ _ _ _ _ _ a'.defers _ _
  rw[d];exact xz j i w' b p
theorem HC.introM(e:P.follows .mixedOrders=true){f:FuncId}{fn:Func}{c:Code}{k:Ann}{args:List Value}{ks:List Kind}{K:wS ks→af→Prop}{h:af}
 (j:P.funcs[f]? =some fn) (i:fn.body=some c) (b:∀(args:Array Value) (w:World),(callFunc f args).run P w=.ok (.enter f args) w) (d:args.length≤fn.ntmps)
 (g:Mb P fn c k args ks K h):HC P f args ks K h:=(HE.introM e j i b d g).hc
end Go.Lift
namespace Go.Lift
open Go
def AppP(z:Option (List Value))(e bytes:Nat)(t:TypeId)(b:Option Addr)(sl d c:Nat)(xs:List Value)(h:af)(K:SliceV→af→Prop):Prop:=
 (sl+c≤d→yr h b (sl*e) xs∧cI xs=true∧K ⟨b,sl+c,d⟩ (ip h b (sl*e) xs))∧
 (d<sl+c→∃old z',SRow h b (sl*e) old∧z=some z'∧0<bytes∧Builtin.nextslicecap (sl+c) d*bytes≤2^48∧
  ∀nc,sl+c≤nc→K ⟨some (aI h),sl+c,nc⟩ (hnew h (old++xs++eM (nc-(sl+c)) z') t))
def NextP(a:Addr)(h:af)(Kend:Prop)(Kstep:MapEntry→af→Prop):Prop:=
 a.off=0∧∃m since seen last,h[a.block]? =some (.mapIter m since seen last)∧
  ((m=none∧Kend)∨
   (∃r es clock,m=some r∧h[r]? =some (.map es clock)∧(seen.isEmpty=true∨es.isEmpty=true∨es.all (fun e=>decide (e.born≥last))=false)∧
    ((∀e∈es.toList,e.born<since→seen.contains e.born=true)→Kend)∧
    (∀e∈es.toList,seen.contains e.born=false→Kstep e (h.setIfInBounds a.block (.mapIter (some r) since (seen.push e.born) clock)))))
end Go.Lift
