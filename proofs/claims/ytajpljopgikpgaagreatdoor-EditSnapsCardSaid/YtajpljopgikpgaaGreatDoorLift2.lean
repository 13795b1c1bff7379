/- A part of the proof that the named laws of this program answer true, whatever the input. -/
import Derived.Test.YtajpljopgikpgaaGreatDoorLift1
import Derived.BigFrameIn
open Array renaming getD_eq_getD_getElem?→ct,getElem?_toList→aR,getElem?_setIfInBounds_ne→dA,replicate→kY,getElem?_eq_some_iff→bE,getElem?_eq_getElem→gu,getElem?_eq_none→iK,mapM_eq_mapM_toList→j9,ext'→cj
open Bool renaming or_eq_true→gB,and_eq_true→aV,or_eq_false_iff→jH
open List renaming mem_of_getElem?→aw,length_cons→aO,mem_cons→aq,getElem?_cons_zero→bU,getElem?_eq_getElem→ag,any_eq_true→bO,getElem?_eq_some_iff→aP,mem_cons_of_mem→aQ,mem_cons_self→ay,range→bX,filter_cons→cY,mem_singleton→aj,size_toArray→cz
open Nat renaming blt→tM,beq→aY,eq_of_beq_eq_true→aI,land→gJ,lor→ce,testBit_and→fR,zero_testBit→eA,succ→eB,zero_add→aD,beq_refl→ot,lt_or_ge→bM,pred→tw,sub_zero→dJ
open Option renaming some→bi
namespace Go.Lift
open Go
variable {P:Program} {ro:Option Nat} {n:Nat}
def FW(ro:Option Nat):Fence:={fn:=fun _=>True,depth:=none,alive:=false,round:=ro}
theorem IK(m:Machine):m.fenced P (FW ro):=by
 intro g _;exact⟨fun h=>by simp[FW]at h,.inl trivial,fun _ _=>trivial,fun d h=>by simp[FW]at h⟩
theorem uJ{m a:Machine}(h:Steps P m a):StepsIn (Machine.fenced P (FW ro)) P m a:=(StepsIn.of_steps h).mono fun m _=>IK m
theorem AQ{k:Nat}{f:FuncId}{args:Array Value}{w:World}{R:Ending→World→Prop}(h:Calls P f args w R):CallsIn (FW ro) k P f args w R:=by
 refine⟨trivial,fun cs _=>?_⟩
 obtain⟨e,w',fr,b,hc,a,d⟩:=h cs;refine⟨e,w',fr,b,?_,a,d⟩;cases e with
 |returned v=>exact uJ hc
 |panicked c=>exact uJ hc
 |outgrown=>exact hc
theorem m7{o:Oper}{a:Act}{w:World}{K:WK}{next:Act→World→Prop}{Q:Exit→Act→World→Prop}(hd:∀c,o.op≠ .defer c)(h:E9 P (execOp a.eval o) K w)
  (j:∀v w',Tame w w'→K v w'.heap→next (a.put o.dst v) w'):o.wpIn (FW ro) n P a w next Q:=by
 refine⟨fun _ _=>trivial,?_⟩
 rw[Oper.semAt_eq _ _ _ hd];rcases h with⟨v,w',d,g,i⟩|⟨w',d,g,i⟩|⟨f,args,d,hc⟩|⟨l,fn,tmps,assign,body,d,hc⟩
 ·rw[d];exact j v w' g i
 ·rw[d];exact j undef w' g i
 ·rw[d]
  refine⟨fun h=>by simp[FW]at h,AQ (hc.mono ?_)⟩
  rintro e w' ⟨g,v,rfl,i⟩;exact j v w' g i
 ·rw[d]
  refine⟨fun h=>by simp[FW]at h,trivial,fun c cs _=>?_⟩
  obtain⟨b,w',g,i,k⟩:=hc c cs;exact⟨.returned (.bool b),w',j _ w' g i,uJ k⟩
theorem pE{N:Nat}{o:Oper}{v:Value}{r:bP}{K:bP→Prop}{a:Act}{d:q9}{dv:DV}(h:ve N o v r K)(c:Agree N r a)(hd:DecOk d r)(hv:BQ dv v):
  ∃r',K r'∧Agree N r' (a.put o.dst v)∧DecOk (ol d o dv) r':=by
 unfold ve at h;unfold ol;cases ho:o.dst with
 |none=>rw[ho]at h;exact⟨r,h,c,hd⟩
 |some t=>
  rw[ho]at h;simp only at h;cases hb:tM t N with
  |false=>rw[hb]at h;exact h.elim
  |true=>
   rw[hb]at h;have b:t<N:=by simpa using hb
   refine⟨_,h,c.put t v b,fun s=>?_⟩
   by_cases e:t=s
   ·subst e
    have:nP ((t,dv)::d) t=dv:=by simp[nP]
    rw[this];exact .inr ⟨v,f3 t v r,hv⟩
   ·have f:nP ((t,dv)::d) s=nP d s:=by
     have:aY t s=false:=Bool.eq_false_iff.2 fun e'=>e (aI e')
     show(bif aY t s then dv else nP d s)=_
     rw[this];rfl
    rw[f,fx v r e];exact hd s
theorem yr{ek:Option (Kind×Kind)}{o:Op}{r:bP}{K:RK}{h:ad}(a:xh P ek o r K h):∀c,o≠ .defer c:=by
 intro c e;subst e;exact a
theorem sy{o:Oper}{r:bP}{K:WK}{h:ad}(a:Bh P o r K h):∀c,o.op≠ .defer c:=by
 intro c e;unfold Bh at a;rw[e]at a;exact a
theorem N6{d:q9}{o:Op}(h:rW P o=false):D6 d o=.x:=by
 cases o<;>first|rfl|(simp[rW]at h)
theorem Ib{N:Nat}{ek:Option (Kind×Kind)}{o:Oper}{r:bP}{K:bP→ad→Prop}{a:Act}{w:World}{d:q9}{next:Act→World→Prop}{Q:Exit→Act→World→Prop}
  (b:Ny P N ek o r K w.heap)(i:Agree N r a)(hd:DecOk d r)
  (p:∀v w' c,Tame w w'→K c w'.heap→Agree N c (a.put o.dst v)→DecOk (ol d o (D6 d o.op)) c→next (a.put o.dst v) w'):o.wpIn (FW ro) n P a w next Q:=by
 unfold Ny at b;cases hq:rW P o.op with
 |true=>
  rw[hq,cond_true]at b;obtain⟨v,S,m,x,j,q⟩:=xq i b d hd;refine m7 (K:=fun u t=>u=v∧t=w.heap) (yr b) (.inl ⟨v,w,q w x,Tame.refl w,rfl,rfl⟩) ?_
  rintro u w' k ⟨rfl,s⟩;obtain⟨c,g,f,e⟩:=pE m i hd j;exact p u w' c k (by rw[s];exact g) f e
 |false=>
  rw[hq,cond_false]at b;refine m7 (sy b) (xk i b) ?_;intro v w' k m;obtain⟨c,g,f,e⟩:=pE m i hd (dv:=D6 d o.op) (by rw[N6 hq];trivial);exact p v w' c k g f e
theorem Cu{t:Array Value}{i:Nat}{b:Bool}(h:t.getD i undef=.bool b):t[i]? =some (.bool b):=by
 rw[ct]at h;cases hc:t[i]? with
 |none=>rw[hc]at h;simp[undef]at h
 |some v=>rw[hc]at h;simp at h;rw[h]
theorem Gz{t:Array Value}{i:Nat}(h:t.getD i undef=undef):t[i]? =none∨t[i]? =some undef:=by
 rw[ct]at h;cases hc:t[i]? with
 |none=>exact .inl rfl
 |some v=>rw[hc]at h;simp at h;rw[h];exact .inr rfl
theorem kD{N:Nat}{ops:Array Oper}{d:q9}{o:Oper}{b:Bool}{r:bP}{a:Act}(h:gl ops.toList d o=some b)(n:Agree N r a)(hd:DecOk d r):
  Region.wanted o (yielded ops a.tmps)=b:=by
 unfold gl at h;unfold Region.wanted;cases hg:o.guard with
 |none=>rw[hg]at h;simp only[bi.injEq]at h;exact h
 |some g=>
  obtain⟨j,c⟩:=g;rw[hg]at h;simp only[aR]at h;simp only;cases hj:ops[j]? with
  |none=>rw[hj]at h;cases h
  |some oj=>
   rw[hj]at h;simp only at h;cases ht:oj.dst with
   |none=>rw[ht]at h;cases h
   |some t=>
    rw[ht]at h;simp only at h;have m:yielded ops a.tmps j=(match a.tmps[t]? with|some (.bool b)=>some b|_=>none):=by
     unfold yielded;simp[hj,ht];rfl
    rw[m];rcases hd t with hx|⟨v,hv,k⟩
    ·rw[hx]at h;cases h
    ·have i:=n.look t v hv
     cases hdl:nP d t with
     |x=>rw[hdl]at h;cases h
     |t=>
      rw[hdl]at h k;simp only[bi.injEq]at h;subst h;have:v=.bool true:=k;subst this;rw[Cu i];cases c<;>rfl
     |f=>
      rw[hdl]at h k;simp only[bi.injEq]at h;subst h;have:v=.bool false:=k;subst this;rw[Cu i];cases c<;>rfl
     |u=>
      rw[hdl]at h k;simp only[bi.injEq]at h;subst h;have:v=undef:=k;subst this;rcases Gz i with e|e<;>rw[e]<;>cases c<;>rfl
structure Fr(W:Nat→Prop)(a0:Act)(w0:World)(a:Act)(w:World):Prop where
 tame:Tame w0 w
 defers:a.defers=a0.defers
 same:∀t,¬W t→a.tmps.getD t undef=a0.tmps.getD t undef
theorem Fr.refl(W:Nat→Prop)(a:Act)(w:World):Fr W a w a w:=⟨Tame.refl w,rfl,fun _ _=>rfl⟩
theorem Fr.put{W:Nat→Prop}{f a:Act}{w0 w w':World}(h:Fr W f w0 a w){o:Oper}(i:∀d,o.dst=some d→W d)(v:Value)(g:Tame w w'):Fr W f w0 (a.put o.dst v) w':=by
 refine⟨h.tame.trans g,?_,fun t c=>?_⟩
 ·cases ho:o.dst<;>simp[Act.put,h.defers]
 ·cases ho:o.dst with
  |none=>exact h.same t c
  |some d=>
   have b:d≠t:=fun e=>c (e▸i d ho)
   rw[←h.same t c];simp[Act.put,dA b]
theorem Fr.trans{W:Nat→Prop}{f c e:Act}{w0 d b:World}(h:Fr W f w0 c d)(k:Fr W c d e b):Fr W f w0 e b:=
 ⟨h.tame.trans k.tame,k.defers.trans h.defers,fun t a=>(k.same t a).trans (h.same t a)⟩
theorem Fr.mono{W W':Nat→Prop}{b a:Act}{w0 w:World}(h:Fr W b w0 a w)(c:∀t,W t→W' t):Fr W' b w0 a w:=
 ⟨h.tame,h.defers,fun t d=>h.same t fun e=>d (c t e)⟩
theorem DecOk.known{d:q9}{r:bP}(h:DecOk d r){t:Nat}{dv:DV}{v:Value}(hv:BQ dv v):DecOk ((t,dv)::d) ((t,v)::r):=fun s=>by
 by_cases e:t=s
 ·subst e
  have:nP ((t,dv)::d) t=dv:=by simp[nP]
  rw[this];exact .inr ⟨v,f3 t v r,hv⟩
 ·have a:nP ((t,dv)::d) s=nP d s:=by
   have:aY t s=false:=Bool.eq_false_iff.2 fun e'=>e (aI e')
   show(bif aY t s then dv else nP d s)=_
   rw[this];rfl
  rw[a,fx v r e];exact h s
theorem zy{N:Nat}{ek:Option (Kind×Kind)}{ops:Array Oper}{o:Oper}{i:Nat}{d:q9}{r:bP}{a:Act}{w:World}{b:Bool}{K:q9→bP→ad→Prop}{next:Act→World→Prop}{Q:Exit→Act→World→Prop}
  (hi:ops[i]? =some o) (q:gl ops.toList d o=some b) (g:Agree N r a) (hd:DecOk d r)
  (m:match b with
   |true=>Ny P N ek o r (K (ol d o (D6 d o.op))) w.heap
   |false=>ve N o undef r fun c=>K (ol d o .u) c w.heap)
  (k:∀v w' d' c,Tame w w'→K d' c w'.heap→Agree N c (a.put o.dst v)→DecOk d' c→next (a.put o.dst v) w'):
  wpOpIn (FW ro) n P ops Q i next a w:=by
 unfold wpOpIn;rw[hi];simp only[kD q g hd];cases b with
 |true=>exact Ib m g hd fun v w' c p s f e=>k v w' _ c p s f e
 |false=>
  obtain⟨c,j,f,e⟩:=pE (dv:=.u) m g hd rfl;exact⟨fun _ _=>trivial,k undef w _ c (Tame.refl w) j f e⟩
theorem Ia{N:Nat}{ek:Option (Kind×Kind)}{ops:List Oper}{o:Oper}{os:List Oper}{d:q9}{K:bP→ad→Prop}{r:bP}{h:ad}:zY P N ek ops (o::os) d K r h=
 (match gl ops d o with
 |some true=>Ny P N ek o r (fun a c=>zY P N ek ops os (ol d o (D6 d o.op)) K a c) h
 |some false=>ve N o undef r fun a=>zY P N ek ops os (ol d o .u) K a h
 |none=>match AA ops o with
  |none=>False
  |some t=>match il r t with
   |some (.bool b)=>CondP b
    (B5 P N ek ops o ((t,.t)::d) ((t,.bool true)::r) h fun e a c=>zY P N ek ops os e K a c)
    (B5 P N ek ops o ((t,.f)::d) ((t,.bool false)::r) h fun e a c=>zY P N ek ops os e K a c)
   |_=>False):=rfl
theorem BW{N:Nat}{ek:Option (Kind×Kind)}{ops:Array Oper}{o:Oper}{i:Nat}{d:q9}{r:bP}{a:Act}{w:World}{K:q9→bP→ad→Prop}{next:Act→World→Prop}{Q:Exit→Act→World→Prop}
  (hi:ops[i]? =some o) (e:Agree N r a) (hd:DecOk d r) (c:B5 P N ek ops.toList o d r w.heap K)
  (f:∀v w' d' r',Tame w w'→K d' r' w'.heap→Agree N r' (a.put o.dst v)→DecOk d' r'→next (a.put o.dst v) w'):
  wpOpIn (FW ro) n P ops Q i next a w:=by
 unfold B5 at c;cases hw:gl ops.toList d o with
 |none=>rw[hw]at c;exact c.elim
 |some b=>rw[hw]at c;exact zy (ek:=ek) hi hw e hd (by cases b<;>exact c) f
theorem zX{N:Nat}{ek:Option (Kind×Kind)}{ops:Array Oper}{W:Nat→Prop}(s:∀o∈ops.toList,∀d,o.dst=some d→W d){u:Act}{w0:World}{K:bP→ad→Prop}{Q:Exit→Act→World→Prop}
  (p:∀r a w,Agree N r a→Fr W u w0 a w→K r w.heap→Q .normal a w):
  ∀(l:List Oper) (i:Nat),ops.toList.drop i=l→∀(d:q9) (r:bP) (a:Act) (w:World),zY P N ek ops.toList l d K r w.heap→Agree N r a→DecOk d r→Fr W u w0 a w→
   wpOpsIn (FW ro) n P ops Q (List.range' i l.length) a w
 | [],i,_,d,r,a,w,hs,ha,hd,hf=>p r a w ha hf hs
 |o::os,i,hdr,d,r,a,w,hs,ha,hd,hf=>by
  have hi:ops[i]? =some o:=by
   rw[←aR];have:(ops.toList.drop i)[0]? =some o:=by rw[hdr];rfl
   simpa using this
  have g:o∈ops.toList:=aw (by rw[aR];exact hi);have f:ops.toList.drop (i+1)=os:=by rw[←List.tail_drop,hdr];rfl
  rw[aO,List.range'_succ,wpOpsIn_cons];rw[Ia]at hs;have m:∀v w' e c,Tame w w'→zY P N ek ops.toList os e K c w'.heap→Agree N c (a.put o.dst v)→DecOk e c→wpOpsIn (FW ro) n P ops Q (List.range' (i+1) os.length) (a.put o.dst v) w':=
   fun v w' e c q x k j=>zX s p os (i+1) f e c _ w' x k j (hf.put (s o g) v q)
  cases hw:gl ops.toList d o with
  |some b=>
   rw[hw]at hs;exact zy (ek:=ek) (K:=fun e c y=>zY P N ek ops.toList os e K c y) hi hw ha hd (by cases b<;>exact hs) m
  |none=>
   rw[hw]at hs;simp only at hs;split at hs
   ·exact hs.elim
   ·rename_i t q
    split at hs
    ·rename_i b hb
     cases b with
     |true=>exact BW hi (ha.known hb) (hd.known (dv:=.t) rfl) (hs.yes rfl) m
     |false=>exact BW hi (ha.known hb) (hd.known (dv:=.f) rfl) (hs.no rfl) m
    ·exact hs.elim
end Go.Lift
namespace Go.Lift
open Go
theorem vM(m i:Nat):tb m i=m.testBit i:=by
 have h:gJ (Nat.shiftRight m i) 1=(m>>>i)&&&1:=rfl;unfold tb;rw[h,Nat.testBit_eq_decide_div_mod_eq,Nat.and_one_is_mod,Nat.shiftRight_eq_div_pow];cases hm:decide (m/2^i%2=1)with
 |true=>rw[of_decide_eq_true hm];rfl
 |false=>
  have a:=of_decide_eq_false hm;have:m/2^i%2=0:=by omega
  rw[this];rfl
theorem ly(a b i:Nat):(ce a b).testBit i=(a.testBit i||b.testBit i):=Nat.testBit_or a b i
theorem vj(i j:Nat):(fw i).testBit j=decide (i=j):=Nat.testBit_two_pow
theorem xM{a b:Nat}(h:aY (gJ a b) 0=true)(t:Nat)(c:a.testBit t=true)(d:b.testBit t=true):False:=by
 have e:=aI h;have:(gJ a b).testBit t=(a.testBit t&&b.testBit t):=fR a b t;rw[e,c,d]at this;simp at this
theorem L9{a b:Nat}(h:aY (gJ a b) a=true)(t:Nat)(c:a.testBit t=true):b.testBit t=true:=by
 have d:=aI h;have:(gJ a b).testBit t=(a.testBit t&&b.testBit t):=fR a b t;rw[d,c]at this;simpa using this.symm
theorem uo(i:Nat):∀l:List Edge,(jZ l).testBit i=l.any fun e=>aY e.on i&&Region.binds .any e
 | []=>eA i
 |e::l=>by
  have a:=uo i l;have hc:jZ (e::l)=bif Region.binds .any e then ce (fw e.on) (jZ l)else jZ l:=rfl;rw[hc,List.any_cons,←a];cases hb:Region.binds .any e with
  |true=>
   rw[cond_true,ly,vj,Bool.and_true];congr 1
   cases hd:aY e.on i with
   |true=>simpa using aI hd
   |false=>rw[decide_eq_false_iff_not];intro e';rw[e']at hd;simp at hd
  |false=>simp
theorem wA(o:Oper)(i:Nat):(jZ o.after.toList).testBit i=gn o i:=uo i o.after.toList
theorem vL(t:Nat):∀l:List Operand,(jt l).testBit t=true↔Operand.tmp t∈l
 | []=>by simp[show jt []=0 from rfl]
 |o::l=>by
  have a:=vL t l;cases o with
  |tmp u=>
   have hc:jt (.tmp u::l)=ce (fw u) (jt l):=rfl;rw[hc,ly,vj,gB,a,aq];simp[eq_comm]
  |const v=>
   have hc:jt (.const v::l)=jt l:=rfl;rw[hc,a,aq];simp
  |global v=>
   have hc:jt (.global v::l)=jt l:=rfl;rw[hc,a,aq];simp
  |func v=>
   have hc:jt (.func v::l)=jt l:=rfl;rw[hc,a,aq];simp
theorem tc(o:Oper)(t:Nat):(kU o).testBit t=true↔o.dst=some t:=by
 unfold kU;cases o.dst with
 |none=>simp
 |some d=>simp[vj]
theorem Bs(ops:Array Oper)(o:Oper)(t:Nat):(lF ops.toList o).testBit t=true↔t∈o.looksAt ops:=by
 unfold lF Oper.looksAt;rw[ly,gB,vL,List.mem_append,List.mem_filterMap];refine or_congr ⟨fun h=>⟨_,h,rfl⟩,?_⟩ ?_
 ·rintro⟨x,hx,b⟩
  cases x<;>simp at b
  subst b;exact hx
 ·cases hg:o.guard with
  |none=>simp
  |some g=>
   obtain⟨j,a⟩:=g;simp only[aR];cases hj:ops[j]? with
   |none=>simp
   |some oj=>simp[tc]
variable {P:Program} {ro:Option Nat} {n:Nat} {ops:Array Oper} {Q:Exit→Act→World→Prop}
structure MsOk(ops:Array Oper)(ms:List DM):Prop where
 am:∀(i:Nat) (o:Oper) (m:DM),ops[i]? =some o→ms[i]? =some m→∀j,m.am.testBit j=gn o j
 lk:∀(i:Nat) (o:Oper) (m:DM),ops[i]? =some o→ms[i]? =some m→∀t,m.lk.testBit t=true↔t∈o.looksAt ops
 ds:∀(i:Nat) (o:Oper) (m:DM),ops[i]? =some o→ms[i]? =some m→∀t,m.ds.testBit t=true↔o.dst=some t
 len:ms.length=ops.size
 free:∀(i j:Nat) (m k:DM),ms[i]? =some m→ms[j]? =some k→m.fr.testBit j=true→j=i∨k.am.testBit i=true∨xN m k=true
 nosel:∀(i:Nat) (o:Oper),ops[i]? =some o→(∀cs b,o.op≠ .select cs b)∧(∀c,o.op≠ .defer c)
theorem vY(ops:List Oper):∀(l:List Oper) (ms:List DM),sI ops l ms=true→ms.length=l.length∧∀(i:Nat) (o:Oper) (m:DM),l[i]? =some o→ms[i]? =some m→
  m.am=jZ o.after.toList∧m.lk=lF ops o∧m.ds=kU o
 | [],[],_=>⟨rfl,fun i o m h=>by simp at h⟩
 | [],_::_,h=>by cases h
 |o::l,[],h=>by cases h
 |o::l,m::ms,h=>by
  have hc:sI ops (o::l) (m::ms)=(aY (jZ o.after.toList) m.am&&aY (lF ops o) m.lk&&aY (kU o) m.ds&&sI ops l ms):=rfl;rw[hc]at h;simp only[aV]at h;obtain⟨⟨⟨c,j⟩,g⟩,b⟩:=h;obtain⟨k,f⟩:=vY ops l ms b;refine⟨by simp[k],fun i e d a hm=>?_⟩
  cases i with
  |zero=>
   simp only[bU,bi.injEq]at a hm;subst a;subst hm;exact⟨(aI c).symm,(aI j).symm,(aI g).symm⟩
  |succ i=>exact f i e d (by simpa using a) (by simpa using hm)
theorem Cv(i:Nat)(m:DM):∀(l:List DM) (j0:Nat),Cw i m l j0=true→∀(j:Nat) (k:DM),l[j]? =some k→m.fr.testBit (j0+j)=true→j0+j=i∨k.am.testBit i=true∨xN m k=true
 | [],j0,_,j,k,hk,_=>by simp at hk
 |x::l,j0,h,j,k,hk,hb=>by
  have hc:Cw i m (x::l) j0=((!(tb m.fr j0)||aY j0 i||tb x.am i||xN m x)&&Cw i m l (eB j0)):=rfl
  rw[hc]at h;simp only[aV,gB,Bool.not_eq_true',vM]at h;cases j with
  |zero=>
   simp only[bU,bi.injEq]at hk;subst hk;simp only[Nat.add_zero]at hb⊢;rcases h.1 with((a|a)|a)|a
   ·rw[a]at hb;cases hb
   ·exact .inl (aI a)
   ·exact .inr (.inl a)
   ·exact .inr (.inr a)
  |succ j=>
   have:=Cv i m l (j0+1) h.2 j k (by simpa using hk) (by rw[show j0+1+j=j0+(j+1) by omega];exact hb)
   rw[show j0+1+j=j0+(j+1) by omega]at this
   exact this
theorem yz(a:List DM):∀(l:List DM) (i0:Nat),wh a l i0=true→∀(i:Nat) (m:DM),l[i]? =some m→Cw (i0+i) m a 0=true
 | [],i0,_,i,m,hm=>by simp at hm
 |x::l,i0,h,i,m,hm=>by
  have hc:wh a (x::l) i0=(Cw i0 x a 0&&wh a l (eB i0)):=rfl;rw[hc,aV]at h;cases i with
  |zero=>simp only[bU,bi.injEq]at hm;subst hm;exact h.1
  |succ i=>
   have:=yz a l (i0+1) h.2 i m (by simpa using hm);rw[show i0+1+i=i0+(i+1) by omega]at this
   exact this
theorem Cm:∀(l:List Oper),EK l=true→∀o∈l,(∀cs b,o.op≠ .select cs b)∧(∀c,o.op≠ .defer c)
 | [],_,o,a=>by cases a
 |x::l,h,o,a=>by
  simp only[EK,aV]at h;rcases aq.1 a with rfl|a
  ·refine⟨fun cs b e=>?_,fun c e=>?_⟩
   ·rw[e]at h;cases h.1
   ·rw[e]at h;cases h.1
  ·exact Cm l h.2 o a
theorem Gf{ms:List DM}(h:zm ops.toList ms=true):MsOk ops ms:=by
 have hc:zm ops.toList ms=(sI ops.toList ops.toList ms&&wh ms ms 0&&EK ops.toList):=rfl;rw[hc]at h;simp only[aV]at h;obtain⟨⟨d,f⟩,e⟩:=h;obtain⟨g,b⟩:=vY ops.toList ops.toList ms d;refine⟨fun i o m a hm j=>?_,fun i o m a hm t=>?_,fun i o m a hm t=>?_,by simpa using g,fun i j m k hm c n=>?_,fun i o a=>?_⟩
 ·rw[(b i o m (by simpa using a) hm).1,wA]
 ·rw[(b i o m (by simpa using a) hm).2.1,Bs]
 ·rw[(b i o m (by simpa using a) hm).2.2,tc]
 ·have:=yz ms ms 0 f i m hm
  rw[aD]at this;have:=Cv i m ms 0 this j k c (by rwa [aD]);rwa [aD]at this
 ·exact Cm _ e o (aw (by rw[aR];exact a))
theorem Lc{ms:List DM}(hm:MsOk ops ms){i j:Nat}{c a:Oper}{g f:DM}(hi:ops[i]? =some c) (k:ops[j]? =some a) (b:ms[i]? =some g) (e:ms[j]? =some f) (h:xN g f=true):
  (∀d,c.dst=some d→d∉a.looksAt ops)∧(∀d,c.dst=some d→a.dst≠some d)∧(∀d,a.dst=some d→d∉c.looksAt ops):=by
 unfold xN at h;rw[aV]at h;refine⟨fun d hd m=>?_,fun d hd n=>?_,fun d hd m=>?_⟩
 ·exact xM h.1 d ((hm.ds i c g hi b d).2 hd) (by rw[ly,(hm.lk j a f k e d).2 m,Bool.true_or])
 ·exact xM h.1 d ((hm.ds i c g hi b d).2 hd) (by rw[ly,(hm.ds j a f k e d).2 n,Bool.or_true])
 ·exact xM h.2 d ((hm.ds j a f k e d).2 hd) ((hm.lk i c g hi b d).2 m)
structure LsRel(ops:Array Oper)(ls:Nat)(listed:Array Bool):Prop where
 size:listed.size=ops.size
 bit:∀j,listed.getD j false=ls.testBit j
theorem LsRel.start:LsRel ops 0 (kY ops.size false):=⟨by simp,fun j=>by
 rw[eA,ct]
 by_cases h:j<ops.size<;>simp[h]⟩
theorem LsRel.put{ls:Nat}{listed:Array Bool}(h:LsRel ops ls listed){i:Nat}(hi:i<ops.size):LsRel ops (ce ls (fw i)) (listed.setIfInBounds i true):=by
 refine⟨by simp[h.size],fun j=>?_⟩
 rw[ly,vj,←h.bit];by_cases e:i=j
 ·subst e;simp[h.size,hi]
 ·simp[e,dA e]
theorem LsRel.unlisted{ls:Nat}{listed:Array Bool}(h:LsRel ops ls listed){i:Nat}(hi:i<ops.size):listed.getD i true=ls.testBit i:=by
 rw[←h.bit];have:i<listed.size:=by rw[h.size];exact hi
 simp[this]
theorem Cd{ms:List DM}(hm:MsOk ops ms){ls:Nat}{listed:Array Bool}(h:LsRel ops ls listed){j:Nat}:j∈Region.ready .any ops listed↔∃m,ms[j]? =some m∧ls.testBit j=false∧Ce m ls=true:=by
 rw[mem_ready];constructor
 ·rintro⟨k,o,n,b⟩
  have a:j<ops.size:=(bE.1 n).1;have f:j<ms.length:=by rw[hm.len];exact a
  refine⟨ms[j],ag f,by rw[←h.unlisted a];exact k,?_⟩
  unfold Ce;have:gJ (ms[j]).am ls=(ms[j]).am:=by
   apply Nat.eq_of_testBit_eq;intro t;have c:(gJ (ms[j]).am ls).testBit t=((ms[j]).am.testBit t&&ls.testBit t):=fR _ _ t;rw[c];cases ht:(ms[j]).am.testBit t with
   |false=>rfl
   |true=>
    rw[hm.am j o _ n (ag f)]at ht;unfold gn at ht;obtain⟨e,i,d⟩:=bO.1 ht;simp only[aV]at d;have:=b e (by simpa using i) d.2;rw[aI d.1,h.bit]at this;rw[this];rfl
  rw[this];exact ot _
 ·rintro⟨m,g,k,p⟩
  have a:j<ops.size:=by rw[←hm.len];exact(aP.1 g).1
  refine⟨by rw[h.unlisted a];exact k,ops[j],gu a,fun e i d=>?_⟩
  rw[h.bit];refine L9 p e.on ?_;rw[hm.am j _ m (gu a) g];unfold gn;exact bO.2 ⟨e,by simpa using i,by simp[d]⟩
theorem oE(ls:Nat):∀(l:List DM) (j0 j:Nat),j∈jx ls l j0↔∃k m,l[k]? =some m∧j=j0+k∧ls.testBit j=false∧Ce m ls=true
 | [],j0,j=>by simp[show jx ls [] j0= []from rfl]
 |m::l,j0,j=>by
  have hc:jx ls (m::l) j0=bif !(tb ls j0)&&Ce m ls then j0::jx ls l (eB j0)else jx ls l (eB j0):=rfl;have e:=oE ls l (j0+1) j;rw[hc,vM];have step:(∃k c,(m::l)[k]? =some c∧j=j0+k∧ls.testBit j=false∧Ce c ls=true)↔(j=j0∧ls.testBit j0=false∧Ce m ls=true)∨j∈jx ls l (j0+1):=by
   rw[e];constructor
   ·rintro⟨k,c,d,rfl,a,b⟩
    cases k with
    |zero=>simp only[bU,bi.injEq]at d;subst d;exact .inl ⟨rfl,a,b⟩
    |succ k=>exact .inr ⟨k,c,by simpa using d,by omega,a,b⟩
   ·rintro(⟨rfl,a,b⟩|⟨k,c,d,rfl,a,b⟩)
    ·exact⟨0,m,rfl,rfl,a,b⟩
    ·exact⟨k+1,c,by simpa using d,by omega,a,b⟩
  rw[step];cases hb:(!(ls.testBit j0)&&Ce m ls)with
  |true=>
   simp only[aV,Bool.not_eq_true']at hb;rw[cond_true,aq];simp[hb.1,hb.2]
  |false=>
   rw[cond_false];constructor
   ·exact .inr
   ·rintro(⟨_,a,b⟩|h)
    ·rw[a,b]at hb;cases hb
    ·exact h
theorem jM{ms:List DM}(hm:MsOk ops ms){ls:Nat}{listed:Array Bool}(h:LsRel ops ls listed){j:Nat}:j∈Region.ready .any ops listed↔j∈jx ls ms 0:=by
 rw[Cd hm h,oE];constructor
 ·rintro⟨m,c,b,a⟩;exact⟨j,m,c,by omega,b,a⟩
 ·rintro⟨k,m,c,rfl,b,a⟩;exact⟨m,by simpa using c,b,a⟩
theorem tE:∀{a b:List Nat},rt a b=true→a=b
 | [],[],_=>rfl
 | [],_::_,h=>by cases h
 |_::_,[],h=>by cases h
 |a::as,b::bs,h=>by
  simp only[rt,aV]at h;rw[aI h.1,tE h.2]
end Go.Lift
namespace Go.Lift
open Go
variable {P:Program} {ro:Option Nat} {n:Nat} {ops:Array Oper} {Q:Exit→Act→World→Prop}
theorem vK{m:Nat}{p:Nat→Bool}(hm:∀j,m.testBit j=true→p j=true):∀(l:List DM) (j0:Nat),(∀j x,l[j]? =some x→p (j0+j)=true→∀k,x.am.testBit k=true→p k=true)→∀k,(upM m l j0).testBit k=true→p k=true
 | [],_,_,k,h=>hm k h
 |x::l,j0,hl,k,h=>by
  have hc:upM m (x::l) j0=bif tb m j0 then ce x.am (upM m l (eB j0))else upM m l (eB j0):=rfl;have a:=vK hm l (j0+1) (fun j y c b=>hl (j+1) y (by simpa using c) (by rw[show j0+(j+1)=j0+1+j by omega];exact b)) k
  rw[hc,vM]at h;cases hb:m.testBit j0 with
  |true=>
   rw[hb,cond_true,ly,gB]at h;rcases h with h|h
   ·exact hl 0 x rfl (hm _ hb) k h
   ·exact a h
  |false=>
   rw[hb,cond_false]at h;exact a h
theorem vJ{m k:Nat}(h:m.testBit k=true):∀(l:List DM) (j0:Nat),(upM m l j0).testBit k=true
 | [],_=>h
 |x::l,j0=>by
  have hc:upM m (x::l) j0=bif tb m j0 then ce x.am (upM m l (eB j0))else upM m l (eB j0):=rfl;have a:=vJ h l (j0+1);rw[hc];cases tb m j0 with
  |true=>rw[cond_true,ly,gB];exact .inr a
  |false=>exact a
def Shut(ms:List DM)(listed:Array Bool):Prop:=∀j x,ms[j]? =some x→listed.getD j false=true→∀k,x.am.testBit k=true→listed.getD k false=true
theorem IV{ms:List DM}{listed:Array Bool}(c:Shut ms listed){m:Nat}(hm:∀j,m.testBit j=true→listed.getD j false=true){k:Nat}(h:(wp ms m).testBit k=true):listed.getD k false=true:=by
 have a:∀j x,ms[j]? =some x→(fun k=>listed.getD k false) (0+j)=true→∀k,x.am.testBit k=true→(fun k=>listed.getD k false) k=true:=fun j x hx b=>c j x hx (by rw[aD]at b;exact b)
 unfold wp at h;exact vK (p:=fun k=>listed.getD k false) (vK (vK (vK hm ms 0 a) ms 0 a) ms 0 a) ms 0 a k h
theorem CC{ms:List DM}{m k:Nat}(h:m.testBit k=true):(wp ms m).testBit k=true:=by
 unfold wp;exact vJ (vJ (vJ (vJ h ms 0) ms 0) ms 0) ms 0
noncomputable abbrev rel(ms:List DM)(i:Nat)(L:nG):nG:=vS (wp ms (DK ms i)) L
theorem g6{m:Nat}{x:Nat×(ad→Prop)}:∀{L:nG},x∈vS m L↔x∈L∧tb m x.1=false
 | []=>by simp[vS]
 |(k,S)::L=>by
  have b:=g6 (m:=m) (x:=x) (L:=L);simp only[vS];cases hk:tb m k with
  |true=>
   rw[cond_true,b,aq];constructor
   ·exact fun h=>⟨.inr h.1,h.2⟩
   ·rintro⟨h|h,a⟩
    ·subst h;rw[hk]at a;cases a
    ·exact⟨h,a⟩
  |false=>
   rw[cond_false,aq,b,aq];constructor
   ·rintro(h|h)
    ·subst h;exact⟨.inl rfl,hk⟩
    ·exact⟨.inr h.1,h.2⟩
   ·rintro⟨h|h,a⟩
    ·exact .inl h
    ·exact .inr ⟨h,a⟩
def Jq(ms:List DM)(ro:Option Nat)(n:Nat)(P:Program)(ops:Array Oper)(Q:Exit→Act→World→Prop):Nat→nG→Array Bool→Act→World→Prop
 |0,_,listed,a,w=>Region.ready .any ops listed= []∧Q .normal a w
 |f+1,L,listed,a,w=>(Region.ready .any ops listed= []→Q .normal a w)∧
  ∀i∈Region.ready .any ops listed,∀o,ops[i]? =some o→
   wpOpIn (FW ro) n P ops Q i (fun a' w'=>(∀x∈rel ms i L,x.2 w'.heap)∧Jq ms ro n P ops Q f (rel ms i L) (listed.setIfInBounds i true) a' w') a w
theorem sG{o:Oper}{x:Nat×(ad→Prop)}:∀{L:nG},x∈lN o L↔x∈L∧gn o x.1=false
 | []=>by simp[lN]
 |(k,S)::L=>by
  have b:=sG (o:=o) (x:=x) (L:=L);simp only[lN];cases hk:gn o k with
  |true=>
   rw[cond_true,b,aq];constructor
   ·exact fun h=>⟨.inr h.1,h.2⟩
   ·rintro⟨h|h,a⟩
    ·subst h;rw[hk]at a;cases a
    ·exact⟨h,a⟩
  |false=>
   rw[cond_false,aq,b,aq];constructor
   ·rintro(h|h)
    ·subst h;exact⟨.inl rfl,hk⟩
    ·exact⟨.inr h.1,h.2⟩
   ·rintro⟨h|h,a⟩
    ·exact .inl h
    ·exact .inr ⟨h,a⟩
theorem Il{listed:Array Bool}{i:Nat}(h:i∈Region.ready .any ops listed):∃o,ops[i]? =some o:=by
 obtain⟨_,o,a,_⟩:=mem_ready.1 h;exact⟨o,a⟩
theorem Hb{ms:List DM}:∀(f:Nat) (L:nG) (listed:Array Bool) (a:Act) (w:World),Jq ms ro n P ops Q f L listed a w→wpAnyIn (FW ro) n P .any ops Q f listed a w
 |0,_,_,_,_,h=>h
 |f+1,L,listed,a,w,h=>⟨h.1,fun i hi=>by
  obtain⟨o,b⟩:=Il hi
  exact wpOpIn_mono (fun a' w' c=>Hb f _ _ a' w' c.2) (h.2 i hi o b)⟩
theorem qy{ms:List DM}:∀(f:Nat) (L L':nG) (listed:Array Bool) (a:Act) (w:World),(∀x∈L',x∈L∨∀h,x.2 h)→Jq ms ro n P ops Q f L listed a w→Jq ms ro n P ops Q f L' listed a w
 |0,_,_,_,_,_,_,h=>h
 |f+1,L,L',listed,a,w,hs,h=>⟨h.1,fun i hi o d=>by
  have b:∀x∈rel ms i L',x∈rel ms i L∨∀h,x.2 h:=fun x hx=>(hs x (g6.1 hx).1).imp (fun h=>g6.2 ⟨h,(g6.1 hx).2⟩) id
  exact wpOpIn_mono (fun a' w' c=>⟨fun x hx=>(b x hx).elim (c.1 x) fun h=>h _,qy f _ _ _ a' w' b c.2⟩) (h.2 i hi o d)⟩
def YG(P:Program)(ops:Array Oper)(S:ad→Prop)(o:Oper)(v:Value)(a:Act):Prop:=
 (Region.wanted o (yielded ops a.tmps)=true∧∀w:World,S w.heap→(execOp a.eval o).run P w=.ok (.value v) w)∨
 (Region.wanted o (yielded ops a.tmps)=false∧v=undef)
theorem YG.wpOp{S:ad→Prop}{i:Nat}{o:Oper}{v:Value}{a:Act}(hi:ops[i]? =some o) (hd:∀c,o.op≠ .defer c) (d:YG P ops S o v a) {K:Act→World→Prop} {w:World} (e:S w.heap)
  (h:K (a.put o.dst v) w):wpOpIn (FW ro) n P ops Q i K a w:=by
 unfold wpOpIn;simp only[hi];rcases d with⟨b,hv⟩|⟨b,rfl⟩
 ·simp only[b,if_true]
  refine⟨fun _ _=>trivial,?_⟩
  rw[Oper.semAt_eq _ _ _ hd,hv w e];exact h
 ·simp only[b,Bool.false_eq_true,if_false];exact⟨fun _ _=>trivial,h⟩
theorem YG.of_same{S:ad→Prop}{o:Oper}{v:Value}{a a':Act}(b:YG P ops S o v a)(c:execOp a'.eval o=execOp a.eval o)
  (d:Region.wanted o (yielded ops a'.tmps)=Region.wanted o (yielded ops a.tmps)):YG P ops S o v a':=by
 unfold YG at*;rw[c,d];exact b
theorem Fw{S:ad→Prop}{j:Nat}{g i:Oper}{v:Value}(D:ops[j]? =some i)
  (z:(∀d,g.dst=some d→d∉i.looksAt ops)∧(∀d,g.dst=some d→i.dst≠some d)∧(∀d,i.dst=some d→d∉g.looksAt ops))
  (s:∀cs b,g.op≠ .select cs b) (A:∀cs b,i.op≠ .select cs b) (t:∀c,i.op≠ .defer c)
  (C:∀e a w,(∀c,e=.panic c→False)∨¬Q e a w) {K:Act→World→Prop} {a:Act} {w:World}
  (k:YG P ops S g v a) (h:wpOpIn (FW ro) n P ops Q j K (a.put g.dst v) w):
  wpOpIn (FW ro) n P ops Q j (fun a' w'=>YG P ops S g v a'∧K (a'.put g.dst v) w') a w:=by
 obtain⟨B,p,y⟩:=z;have o:∀c a w,¬Q (.panic c) a w:=fun c a w E=>(C (.panic c) a w).elim (fun h=>h c rfl) fun h=>h E
 have keep:∀(a:Act),YG P ops S g v a→∀u,YG P ops S g v (a.put i.dst u):=fun a k u=>
  k.of_same (execOp_put g s a i.dst u y) (wanted_put g a i.dst u y)
 unfold wpOpIn at*;simp only[D]at*;rw[wanted_put i a g.dst v B]at h;split
 ·rename_i hw
  simp only[hw,if_true]at h;refine⟨fun _ _=>trivial,?_⟩
  have h:=h.2;rw[Oper.semAt_eq _ _ _ t,execOp_put i A a g.dst v B]at h;rw[Oper.semAt_eq _ _ _ t];generalize (execOp a.eval i).run P w=r at*;cases r with
  |ok x w'=>
   cases x<;>simp only[Oper.uponIn]at h⊢
   case value u=>exact⟨keep a k u,by rw[←Act.put_comm a v u p];exact h⟩
   case skip=>exact⟨keep a k _,by rw[←Act.put_comm a v undef p];exact h⟩
   case defer d=>
    refine⟨(k.of_same (a':={a with defers:=d::a.defers}) rfl rfl).of_same (execOp_put g s _ i.dst undef y) (wanted_put g _ i.dst undef y),?_⟩;rw[←Act.put_comm _ v undef p,←Act.put_defers];exact h
   case enter f args=>
    refine⟨h.1,CallsIn.mono h.2 fun e q m=>?_⟩
    cases e with
    |returned u=>exact⟨keep a k u,by rw[←Act.put_comm a v u p];exact m⟩
    |panicked c=>exact(o _ _ _ m).elim
    |outgrown=>exact m
   case row row args=>exact⟨h.1,RowsIn.mono h.2 fun u q m=>⟨keep a k u,by rw[←Act.put_comm a v u p];exact m⟩⟩
   case round l f tmps assign body=>
    refine⟨h.1,RoundIn.mono h.2 fun e q m=>?_⟩
    cases e with
    |returned u=>exact⟨keep a k u,by rw[←Act.put_comm a v u p];exact m⟩
    |panicked c=>exact(o _ _ _ m).elim
    |outgrown=>exact m
  |halt x w'=>
   cases x<;>simp only[Oper.uponIn]at h⊢
   case panic u=>exact(o _ _ _ h).elim
 ·rename_i hw
  simp only[hw]at h;exact⟨fun _ _=>trivial,keep a k _,by rw[←Act.put_comm a v undef p];exact h.2⟩
theorem DJ{ms:List DM}(hm:MsOk ops ms){i:Nat}{o:Oper}(a:ops[i]? =some o) (k:Nat):(DK ms i).testBit k=gn o k:=by
 have hi:i<ms.length:=by rw[hm.len];exact(bE.1 a).1
 unfold DK;rw[ag hi];exact hm.am i o _ a (ag hi) k
theorem Ep{ms:List DM}(hm:MsOk ops ms){listed:Array Bool}{j:Nat}(d:j∈Region.ready .any ops listed)(k:Nat)(c:(DK ms j).testBit k=true):listed.getD k false=true:=by
 obtain⟨_,o,g,a⟩:=mem_ready.1 d;rw[DJ hm g]at c;unfold gn at c;obtain⟨e,f,b⟩:=bO.1 c;simp only[aV]at b;have:=a e (by simpa using f) b.2;rw[aI b.1]at this;exact this
theorem EU{listed:Array Bool}{j k:Nat}(h:listed.getD k false=true):(listed.setIfInBounds j true).getD k false=true:=by
 by_cases e:j=k
 ·subst e
  rw[ct]at h⊢;rcases bM j listed.size with a|a
  ·simp[a]
  ·simp[iK a]at h
 ·rw[ct,dA e,←ct]
  exact h
theorem Shut.put{ms:List DM}(hm:MsOk ops ms){listed:Array Bool}(d:Shut ms listed){j:Nat}(c:j∈Region.ready .any ops listed):Shut ms (listed.setIfInBounds j true):=by
 intro i x hx a k b;by_cases e:j=i
 ·subst e
  refine EU (Ep hm c k ?_);unfold DK;rw[hx];exact b
 ·rw[ct,dA e,←ct]at a
  exact EU (d i x hx a k b)
theorem zA{ms:List DM}(hm:MsOk ops ms){S:ad→Prop}{i:Nat}{u:Oper}{v:Value}(hi:ops[i]? =some u) (m:∀(j:Nat) (o:Oper),ops[j]? =some o→(∀cs b,o.op≠ .select cs b)∧(∀c,o.op≠ .defer c))
  (hQ:∀e a w,(∀c,e=.panic c→False)∨¬Q e a w):
  ∀(fuel:Nat) (L:nG) (listed:Array Bool) (a:Act) (w:World),
   (∀j s,ops[j]? =some s→j≠i→listed.getD j true=false→gn s i=false→
    (∀d,u.dst=some d→d∉s.looksAt ops)∧(∀d,u.dst=some d→s.dst≠some d)∧(∀d,s.dst=some d→d∉u.looksAt ops))→
   Shut ms listed→i∈Region.ready .any ops listed→YG P ops S u v a→S w.heap→(∀x∈L,x.2 w.heap)→
   Jq ms ro n P ops Q fuel ((i,S)::L) (listed.setIfInBounds i true) (a.put u.dst v) w→Jq ms ro n P ops Q (fuel+1) L listed a w:=by
 intro fuel;induction fuel with
 |zero=>
  intro L listed a w _ _ A T W V H;refine⟨fun h=>(by rw[h]at A;cases A),fun j F s f=>?_⟩
  by_cases g:j=i
  ·subst g
   rw[hi]at f;cases f;exact T.wpOp hi (m _ _ hi).2 W ⟨fun x hx=>V x (g6.1 hx).1,H⟩
  ·have:=ready_mono F g
   rw[H.1]at this;cases this
 |succ fuel ih=>
  intro L listed a w q N A T W V H;refine⟨fun h=>(by rw[h]at A;cases A),fun j F s f=>?_⟩
  by_cases g:j=i
  ·subst g
   rw[hi]at f;cases f;exact T.wpOp hi (m _ _ hi).2 W ⟨fun x hx=>V x (g6.1 hx).1,qy _ _ _ _ _ _ (fun x hx=>.inl (aQ _ (g6.1 hx).1)) H⟩
  ·have p:=H.2 j (ready_mono F g) s f
   obtain⟨z,oj',B,G⟩:=mem_ready.1 F;rw[f]at B;cases B;have J:gn s i=false:=by
    cases t:gn s i with
    |false=>rfl
    |true=>
     unfold gn at t;obtain⟨e,he,t⟩:=bO.1 t;simp only[aV]at t;have p:=G e (by simpa using he) t.2;rw[aI t.1]at p;have M:=(mem_ready.1 A).1;rcases bM i listed.size with E|E
     ·simp[E]at M p;rw[M]at p;cases p
     ·simp[iK E]at p
   have C:tb (wp ms (DK ms j)) i=false:=by
    cases t:tb (wp ms (DK ms j)) i with
    |false=>rfl
    |true=>
     rw[vM]at t;have p:=IV N (Ep hm F) t;have M:=(mem_ready.1 A).1;rcases bM i listed.size with E|E
     ·simp[E]at M p;rw[M]at p;cases p
     ·simp[iK E]at p
   have R:rel ms j ((i,S)::L)=(i,S)::rel ms j L:=by simp only[rel,vS,C,cond_false]
   rw[R]at p;have h2:=Fw f (q j s f g z J) (m _ _ hi).1 (m _ _ f).1 (m _ _ f).2 hQ T p;have y:∀k D,ops[k]? =some D→k≠i→(listed.setIfInBounds j true).getD k true=false→gn D i=false→
     (∀d,u.dst=some d→d∉D.looksAt ops)∧(∀d,u.dst=some d→D.dst≠some d)∧(∀d,D.dst=some d→d∉u.looksAt ops):=fun k D Z Y K X=>by
    refine q k D Z Y ?_ X;by_cases O:j=k
    ·subst O;exact z
    ·rw[getD_set_ne true O]at K;exact K
   refine wpOpIn_mono (fun a' w' I=>⟨fun x hx=>I.2.1 x (aQ _ hx),ih (rel ms j L) (listed.setIfInBounds j true) a' w' y (N.put hm F) (ready_mono A (Ne.symm g)) I.1 (I.2.1 _ (ay ..)) (fun x hx=>I.2.1 x (aQ _ hx)) ?_⟩) h2
   rw[Array.setIfInBounds_comm _ _ g];exact I.2.2
theorem oa{h:ad}{R:Prop}:∀{L:nG},oI L h R↔(∀x∈L,x.2 h)∧R
 | []=>by simp[oI]
 |(k,S)::L=>by
  simp only[oI,oa (L:=L),aq,forall_eq_or_imp,and_assoc]
theorem Jp{ms:List DM}{f:Nat}{L:nG}{listed:Array Bool}{a:Act}{w:World}(b:Region.ready .any ops listed= [])(h:Q .normal a w):Jq ms ro n P ops Q f L listed a w:=by
 cases f with
 |zero=>exact⟨b,h⟩
 |succ f=>exact⟨fun _=>h,by rw[b];simp⟩
def left(ops:Array Oper)(ls:Nat):Nat:=((bX ops.size).filter fun j=> !ls.testBit j).length
theorem sK{ls i:Nat}(hi:i<ops.size)(g:ls.testBit i=false):left ops (ce ls (fw i))+1=left ops ls:=by
 have key:∀l:List Nat,l.Nodup→i∈l→(l.filter fun j=> !(ce ls (fw i)).testBit j).length+1=(l.filter fun j=> !ls.testBit j).length:=by
  intro l;induction l with
  |nil=>intro _ h;cases h
  |cons x l ih=>
   intro d hm;rw[List.nodup_cons]at d;by_cases hx:x=i
   ·subst hx
    have a:(l.filter fun j=> !(ce ls (fw x)).testBit j)=l.filter fun j=> !ls.testBit j:=by
     apply List.filter_congr;intro y f;have:x≠y:=fun e=>d.1 (e▸f)
     rw[ly,vj,decide_eq_false this,Bool.or_false]
    have c:(ce ls (fw x)).testBit x=true:=by rw[ly,vj];simp
    rw[cY,cY,c,g,a];rfl
   ·have b:i∈l:=by rcases aq.1 hm with h|h;exact absurd h.symm hx;exact h
    have c:(ce ls (fw i)).testBit x=ls.testBit x:=by rw[ly,vj,decide_eq_false (Ne.symm hx),Bool.or_false]
    have:=ih d.2 b;rw[cY,cY,c];cases ls.testBit x with
    |true=>exact this
    |false=>exact congrArg (· +1) this
 exact key _ List.nodup_range (List.mem_range.2 hi)
theorem IJ{N:Nat}{a:List Oper}{ms:List DM}{ls:Nat}{L:nG}{d:q9}{K:bP→ad→Prop}{r:bP}{b:ad}:∀{l:DA},kE P N a ms l true ls L d K r b→∃i,i∈xz l
 | .done,h=>h.elim
 | .take i rest,h=>by
  exfalso;have hc:kE P N a ms (.take i rest) true ls L d K r b=(match a[i]?,ms[i]? with|some _,some _=>False|_,_=>False):=rfl
  rw[hc]at h;split at h<;>exact h
 | .all _,h=>h.elim
 | .pick i _ _,_=>⟨i,ay ..⟩
 | .last i _,_=>⟨i,ay ..⟩
 | .lastT i _,_=>⟨i,ay ..⟩
 | .split ..,h=>h.elim
def G4(ro:Option Nat)(n:Nat)(P:Program)(ops:Array Oper)(Q:Exit→Act→World→Prop)(N:Nat)(ms:List DM)(W:Nat→Prop)(c:Act)(w0:World)(K:bP→ad→Prop)(b:DA):Prop:=
 ∀(m:Bool) (ls:Nat) (L:nG) (d:q9) (r:bP) (a:Act) (w:World) (listed:Array Bool) (fuel:Nat),
  kE P N ops.toList ms b m ls L d K r w.heap→Agree N r a→DecOk d r→Fr W c w0 a w→LsRel ops ls listed→Shut ms listed→(∀x∈L,x.2 w.heap)→
  (m=false→left ops ls≤fuel→Jq ms ro n P ops Q fuel L listed a w)∧
  (m=true→left ops ls≤fuel+1→∀i∈xz b,i∈jx ls ms 0→∀o,ops[i]? =some o→
   wpOpIn (FW ro) n P ops Q i (fun a' w'=>(∀x∈rel ms i L,x.2 w'.heap)∧Jq ms ro n P ops Q fuel (rel ms i L) (listed.setIfInBounds i true) a' w') a w)
theorem Ej{N:Nat}{ms:List DM}(hm:MsOk ops ms){W:Nat→Prop}(hW:∀o∈ops.toList,∀d,o.dst=some d→W d){a0:Act}{w0:World}{K:bP→ad→Prop}
  (hQ:∀r a w,Agree N r a→Fr W a0 w0 a w→K r w.heap→Q .normal a w)(hnp:∀e a w,(∀c,e=.panic c→False)∨¬Q e a w)(da:DA):
  G4 ro n P ops Q N ms W a0 w0 K da:=by
 have one:∀(i:Nat) (g:DA)
   (_:G4 ro n P ops Q N ms W a0 w0 K g)
   (ls:Nat) (L:nG) (d:q9) (r:bP) (a:Act) (w:World) (listed:Array Bool) (fuel:Nat),
   Ic P N ops.toList i L d r w.heap (fun L' d' D h'=>kE P N ops.toList ms g false (ce ls (fw i)) L' d' K D h')→Agree N r a→DecOk d r→Fr W a0 w0 a w→LsRel ops ls listed→Shut ms listed→
   left ops ls≤fuel+1→i∈jx ls ms 0→∀o,ops[i]? =some o→
    wpOpIn (FW ro) n P ops Q i (fun a' w'=>(∀x∈rel ms i L,x.2 w'.heap)∧Jq ms ro n P ops Q fuel (rel ms i L) (listed.setIfInBounds i true) a' w') a w:=by
  intro i g V ls L d r a w listed fuel f z hd F A p y hr o s;have B:i<ops.size:=(bE.1 s).1;obtain⟨k,mm,hk,hki,J,_⟩:=(oE ls ms 0 i).1 hr;unfold Ic at f;rw[aR,s]at f;simp only at f;cases hw:gl ops.toList d o with
  |none=>rw[hw]at f;exact f.elim
  |some b=>
   rw[hw]at f;cases b with
   |false=>exact f.elim
   |true=>
    simp only at f;cases hq:rW P o.op with
    |true=>
     rw[hq,cond_true]at f;unfold wpOpIn;rw[s];simp only[kD hw z hd,if_true];obtain⟨v,S,hK,hS,_,X⟩:=xq z f d hd;refine m7 (K:=fun u h'=>u=v∧h'=w.heap) (yr f) (.inl ⟨v,w,X w hS,Tame.refl w,rfl,rfl⟩) ?_
     rintro u w' ht ⟨rfl,hw'⟩;obtain⟨D,G,I,H⟩:=pE (dv:=.x) hK z hd trivial;obtain⟨hh,Z⟩:=oa.1 G;have C:o∈ops.toList:=aw (by rw[aR];exact s);have M:=sK B J;have E:∀x∈rel ms i L,x∈lN o L:=fun x hx=>sG.2 ⟨(g6.1 hx).1,by
      cases hb:gn o x.1 with
      |false=>rfl
      |true=>
        have:=(g6.1 hx).2
        rw[vM,CC (by rw[DJ hm s];exact hb)]at this;cases this⟩
     rw[←hw']at hh Z;exact⟨fun x hx=>hh x (E x hx),qy _ _ _ _ _ _ (fun x hx=>.inl (E x hx)) ((V false _ _ _ D _ w' _ fuel Z I H (F.put (hW o C) u ht) (A.put B) (p.put hm ((jM hm A).2 hr)) hh).1 rfl (by omega))⟩
    |false=>
     rw[hq,cond_false]at f;unfold wpOpIn;rw[s];simp only[kD hw z hd,if_true];refine m7 (sy f) (xk z f) ?_;intro v w' ht hK;obtain⟨D,G,I,H⟩:=pE (dv:=.x) hK z hd trivial;obtain⟨hh,Z⟩:=oa.1 G;have C:o∈ops.toList:=aw (by rw[aR];exact s);have M:=sK B J;have E:∀x∈rel ms i L,x∈lN o L:=fun x hx=>sG.2 ⟨(g6.1 hx).1,by
      cases hb:gn o x.1 with
      |false=>rfl
      |true=>
        have:=(g6.1 hx).2
        rw[vM,CC (by rw[DJ hm s];exact hb)]at this;cases this⟩
     exact⟨fun x hx=>hh x (E x hx),qy _ _ _ _ _ _ (fun x hx=>.inl (E x hx)) ((V false _ _ _ D _ w' _ fuel Z I H (F.put (hW o C) v ht) (A.put B) (p.put hm ((jM hm A).2 hr)) hh).1 rfl (by omega))⟩
 have oneT:∀(i:Nat) (g:DA)
   (_:G4 ro n P ops Q N ms W a0 w0 K g)
   (ls:Nat) (L:nG) (d:q9) (r:bP) (a:Act) (w:World) (listed:Array Bool) (fuel:Nat),
   Hl P N ops.toList ms i L d r w.heap (fun L' d' D h'=>kE P N ops.toList ms g false (ce ls (fw i)) L' d' K D h')→Agree N r a→DecOk d r→Fr W a0 w0 a w→LsRel ops ls listed→Shut ms listed→
   left ops ls≤fuel+1→i∈jx ls ms 0→∀o,ops[i]? =some o→
    wpOpIn (FW ro) n P ops Q i (fun a' w'=>(∀x∈rel ms i L,x.2 w'.heap)∧Jq ms ro n P ops Q fuel (rel ms i L) (listed.setIfInBounds i true) a' w') a w:=by
  intro i g V ls L d r a w listed fuel f z hd F A p y hr o s;have B:i<ops.size:=(bE.1 s).1;obtain⟨k,mm,hk,hki,J,_⟩:=(oE ls ms 0 i).1 hr;unfold Hl at f;rw[aR,s]at f;simp only at f;cases hw:gl ops.toList d o with
  |none=>rw[hw]at f;exact f.elim
  |some b=>
   rw[hw]at f;cases b with
   |false=>exact f.elim
   |true=>
    simp only at f;cases hq:rW P o.op with
    |true=>rw[hq]at f;exact f.elim
    |false=>
     rw[hq,cond_false]at f;unfold wpOpIn;rw[s];simp only[kD hw z hd,if_true];refine m7 (sy f) (xk z f) ?_;intro v w' ht hK;obtain⟨D,G,I,H⟩:=pE (dv:=.x) hK z hd trivial;obtain⟨hh,Z⟩:=oa.1 G;have C:o∈ops.toList:=aw (by rw[aR];exact s);have M:=sK B J;exact⟨hh,(V false _ _ _ D _ w' _ fuel Z I H (F.put (hW o C) v ht) (A.put B) (p.put hm ((jM hm A).2 hr)) hh).1 rfl (by omega)⟩
 induction da with
 |done=>
  intro m ls L d r a w listed fuel f z hd F A p R;cases m with
  |true=>exact f.elim
  |false=>
   refine⟨fun _ _=>?_,fun h=>by cases h⟩
   have hc:kE P N ops.toList ms .done false ls L d K r w.heap=bif rt (jx ls ms 0) []then K r w.heap else False:=rfl;rw[hc]at f;cases hb:rt (jx ls ms 0) []with
   |false=>rw[hb]at f;exact f.elim
   |true=>
    rw[hb]at f;have hnil:Region.ready .any ops listed= []:=by
     apply List.eq_nil_iff_forall_not_mem.2;intro j O;rw[jM hm A,tE hb]at O;cases O
    exact Jp hnil (hQ r a w z F f)
 |take i g V=>
  intro m ls L d r a w listed fuel f z hd F A p R;cases m with
  |true=>
   exfalso;have hc:kE P N ops.toList ms (.take i g) true ls L d K r w.heap=(match ops.toList[i]?,ms[i]? with|some _,some _=>False|_,_=>False):=rfl
   rw[hc]at f;split at f<;>exact f
  |false=>
   refine⟨fun _ y=>?_,fun h=>by cases h⟩
   have hc:kE P N ops.toList ms (.take i g) false ls L d K r w.heap=(match ops.toList[i]?,ms[i]? with
    |some o,some mi=>bif zO mi i ls ops.toList.length then
      (match gl ops.toList d o with
       |none=>False
       |some false=>ve N o undef r fun D=>kE P N ops.toList ms g false (ce ls (fw i)) L (ol d o .u) K D w.heap
       |some true=>bif rW P o.op then
          xh P none o.op r (fun v S=>ve N o v r fun D=>match S with
            |none=>kE P N ops.toList ms g false (ce ls (fw i)) L (ol d o (D6 d o.op)) K D w.heap
            |some S=>kE P N ops.toList ms g false (ce ls (fw i)) ((i,S)::L) (ol d o (D6 d o.op)) K D w.heap) w.heap
          else False)
     else False
    |_,_=>False):=rfl
   rw[hc]at f;split at f
   ·rename_i o mi s hmi
    rw[aR]at s;cases htk:zO mi i ls ops.toList.length with
    |false=>rw[htk]at f;exact f.elim
    |true=>
     rw[htk,cond_true]at f;unfold zO at htk;simp only[aV,Bool.not_eq_true',vM]at htk;obtain⟨⟨hun,hrd⟩,hfr⟩:=htk;have B:i<ops.size:=(bE.1 s).1;have q:i∈Region.ready .any ops listed:=(Cd hm A).2 ⟨mi,hmi,hun,hrd⟩;have M:=sK (ops:=ops) B hun;obtain⟨f',rfl⟩:∃f',fuel=f'+1:=⟨fuel-1,by omega⟩
     have C:o∈ops.toList:=aw (by rw[aR];exact s);have hcov:∀j,j<ops.size→ls.testBit j=true∨mi.fr.testBit j=true:=by
      intro j O;have h0:=aI hfr;have hpb:(tw (fw ops.toList.length)).testBit j=true:=by
        have:tw (fw ops.toList.length)=2^ops.toList.length-1:=rfl;rw[this,Nat.testBit_two_pow_sub_one];simpa using O
      have hand:(gJ (ce ls mi.fr) (tw (fw ops.toList.length))).testBit j=((ce ls mi.fr).testBit j&&(tw (fw ops.toList.length)).testBit j):=fR _ _ j;rw[h0,hpb,Bool.and_true,ly]at hand;exact(Bool.or_eq_true_iff).1 hand.symm
     have T:∀j oj,ops[j]? =some oj→j≠i→listed.getD j true=false→gn oj i=false→
        (∀d,o.dst=some d→d∉oj.looksAt ops)∧(∀d,o.dst=some d→oj.dst≠some d)∧(∀d,oj.dst=some d→d∉o.looksAt ops):=by
      intro j oj hoj hne hju hna;have O:j<ops.size:=(bE.1 hoj).1;rw[A.unlisted O]at hju;have hjm:j<ms.length:=by rw[hm.len];exact O
      have hmj:=ag hjm;rcases hcov j O with h|h
      · rw[h]at hju;cases hju
      · rcases hm.free i j mi _ hmi hmj h with h|h|h
        ·exact absurd h hne
        ·rw[hm.am j oj _ hoj hmj,hna]at h;cases h
        ·exact Lc hm s hoj hmi hmj h
     cases hw:gl ops.toList d o with
     |none=>rw[hw]at f;exact f.elim
     |some b=>
      rw[hw]at f;have hwd:=kD hw z hd;cases b with
      |false=>
        obtain⟨D,G,I,H⟩:=pE (dv:=.u) f z hd rfl;have hy:YG P ops (fun _=>True) o undef a:=.inr ⟨hwd,rfl⟩
        refine zA hm s hm.nosel hnp f' L listed a w T p q hy trivial R ?_;refine qy _ L _ _ _ _ (fun x hx=>(aq.1 hx).elim (fun e=>.inr fun h=>by rw[e];trivial) .inl) ?_
        exact(V false _ _ _ D _ w _ f' G I H (F.put (hW o C) undef (Tame.refl w)) (A.put B) (p.put hm q) R).1 rfl (by omega)
      |true=>
        simp only at f;cases hq:rW P o.op with
        |false=>rw[hq]at f;exact f.elim
        |true=>
         rw[hq,cond_true]at f;obtain⟨v,S,hK,hS,hdv,X⟩:=xq z f d hd;obtain⟨D,G,I,H⟩:=pE hK z hd hdv;have hfr':=F.put (hW o C) v (Tame.refl w);cases S with
         |none=>
           have hy:YG P ops (fun _=>True) o v a:=.inl ⟨hwd,fun w _=>X w trivial⟩
           refine zA hm s hm.nosel hnp f' L listed a w T p q hy trivial R ?_;refine qy _ L _ _ _ _ (fun x hx=>(aq.1 hx).elim (fun e=>.inr fun h=>by rw[e];trivial) .inl) ?_
           exact(V false _ _ _ D _ w _ f' G I H hfr' (A.put B) (p.put hm q) R).1 rfl (by omega)
         |some S=>
           have hy:YG P ops S o v a:=.inl ⟨hwd,fun w h=>X w h⟩
           refine zA hm s hm.nosel hnp f' L listed a w T p q hy hS R ?_;exact(V false _ _ _ D _ w _ f' G I H hfr' (A.put B) (p.put hm q) (fun x hx=>(aq.1 hx).elim (fun e=>by rw[e];exact hS) (R x))).1 rfl (by omega)
   ·exact f.elim
 |all l V=>
  intro m ls L d r a w listed fuel f z hd F A p R;cases m with
  |true=>exact f.elim
  |false=>
   refine⟨fun _ y=>?_,fun h=>by cases h⟩
   have hc:kE P N ops.toList ms (.all l) false ls L d K r w.heap=bif rt (jx ls ms 0) (xz l)then kE P N ops.toList ms l true ls L d K r w.heap else False:=rfl;rw[hc]at f;cases hb:rt (jx ls ms 0) (xz l)with
   |false=>rw[hb]at f;exact f.elim
   |true=>
    rw[hb,cond_true]at f;obtain⟨i,hi⟩:=IJ f;rw[←tE hb]at hi;have hrd:=(jM hm A (j:=i)).2 hi;obtain⟨k,mm,hk,hki,J,_⟩:=(oE ls ms 0 i).1 hi;have B:i<ops.size:=by
     have:=(aP.1 hk).1;rw[hm.len]at this;omega
    have M:=sK (ops:=ops) B J;obtain⟨f',rfl⟩:∃f',fuel=f'+1:=⟨fuel-1,by omega⟩
    refine⟨fun h=>(by rw[h]at hrd;cases hrd),fun j O o s=>?_⟩
    have hj':=(jM hm A).1 O;exact(V true ls L d r a w listed f' f z hd F A p R).2 rfl y j (by rw[←tE hb];exact hj') hj' o s
 |pick i g more ih1 ih2=>
  intro m ls L d r a w listed fuel f z hd F A p R;cases m with
  |false=>exact f.elim
  |true=>
   refine⟨fun h=>(by cases h),fun _ y j O Y o s=>?_⟩
   have f:Ic P N ops.toList i L d r w.heap (fun L' d' D h'=>kE P N ops.toList ms g false (ce ls (fw i)) L' d' K D h')∧kE P N ops.toList ms more true ls L d K r w.heap:=f
   rcases aq.1 O with rfl|O
   ·exact one _ g ih1 ls L d r a w listed fuel f.1 z hd F A p y Y o s
   ·exact(ih2 true ls L d r a w listed fuel f.2 z hd F A p R).2 rfl y j O Y o s
 |last i g V=>
  intro m ls L d r a w listed fuel f z hd F A p R;cases m with
  |false=>exact f.elim
  |true=>
   refine⟨fun h=>(by cases h),fun _ y j O Y o s=>?_⟩
   have f:Ic P N ops.toList i L d r w.heap (fun L' d' D h'=>kE P N ops.toList ms g false (ce ls (fw i)) L' d' K D h'):=f
   have hji:j=i:=aj.1 O;subst hji;exact one _ g V ls L d r a w listed fuel f z hd F A p y Y o s
 |lastT i g V=>
  intro m ls L d r a w listed fuel f z hd F A p R;cases m with
  |false=>exact f.elim
  |true=>
   refine⟨fun h=>(by cases h),fun _ y j O Y o s=>?_⟩
   have f:Hl P N ops.toList ms i L d r w.heap (fun L' d' D h'=>kE P N ops.toList ms g false (ce ls (fw i)) L' d' K D h'):=f
   have hji:j=i:=aj.1 O;subst hji;exact oneT _ g V ls L d r a w listed fuel f z hd F A p y Y o s
 |split t yes no ih1 ih2=>
  intro m ls L d r a w listed fuel f z hd F A p R;cases m with
  |true=>exact f.elim
  |false=>
   refine⟨fun _ y=>?_,fun h=>by cases h⟩
   have hc:kE P N ops.toList ms (.split t yes no) false ls L d K r w.heap=(match il r t with
    |some (.bool b)=>CondP b (kE P N ops.toList ms yes false ls L ((t,.t)::d) K ((t,.bool true)::r) w.heap) (kE P N ops.toList ms no false ls L ((t,.f)::d) K ((t,.bool false)::r) w.heap)
    |_=>False):=rfl
   rw[hc]at f;split at f
   ·rename_i b hlk
    cases b with
    |true=>exact(ih1 false ls L _ _ a w listed fuel (f.yes rfl) (z.known hlk) (hd.known rfl) F A p R).1 rfl y
    |false=>exact(ih2 false ls L _ _ a w listed fuel (f.no rfl) (z.known hlk) (hd.known rfl) F A p R).1 rfl y
   ·exact f.elim
end Go.Lift
namespace Go.Lift
open Go
variable {P:Program} {ro:Option Nat} {n:Nat}
theorem Cq{r:bP}:∀{l:List Nat} {r0:bP},Hz r l=some r0→∀t v,il r0 t=some v→t∈l∧il r t=some v
 | [],r0,h,t,v,hv=>by cases h;cases hv
 |s::l,r0,h,t,v,hv=>by
  have h:(match il r s,Hz r l with|some v,some l=>some ((s,v)::l)|_,_=>none)=some r0:=h
  split at h
  ·rename_i u l' hu hl
   cases h;by_cases e:s=t
   ·subst e;rw[f3]at hv;cases hv;exact⟨ay ..,hu⟩
   ·rw[fx u _ e]at hv
    have:=Cq hl t v hv;exact⟨aQ _ this.1,this.2⟩
  ·cases h
theorem xx{m:Nat}{t:Nat}{v:Value}:∀{r:bP},il (sM m r) t=some v→m.testBit t=false∧il r t=some v
 | [],h=>by cases h
 |(k,u)::r,h=>by
  have h:il (bif tb m k then sM m r else(k,u)::sM m r) t=some v:=h;cases hk:tb m k with
  |true=>
   rw[hk]at h;have:=xx h;by_cases e:k=t
   ·subst e;rw[vM,this.1]at hk;cases hk
   ·rw[fx u _ e];exact this
  |false=>
   rw[hk]at h;have h:il ((k,u)::sM m r) t=some v:=h;by_cases e:k=t
   ·subst e;rw[f3]at h⊢;rw[vM]at hk;exact⟨hk,h⟩
   ·rw[fx u _ e]at h⊢;exact xx h
theorem xj{t:Nat}:∀{l:List Oper},(Ju l).testBit t=false→¬js t l=true
 | [],_,h=>by cases h
 |o::l,hm,h=>by
  have hm:(ce (kU o) (Ju l)).testBit t=false:=hm;rw[ly,jH]at hm;have h:(match o.dst with|some d=>bif aY d t then true else js t l|none=>js t l)=true:=h
  cases hd:o.dst with
  |none=>rw[hd]at h;exact xj hm.2 h
  |some d=>
   rw[hd]at h;cases e:aY d t with
   |true=>have:=(tc o t).2 (by rw[hd,aI e]);rw[hm.1]at this;cases this
   |false=>simp only[e]at h;exact xj hm.2 h
theorem EI{a b:Option Nat}{m:Nat}(h:NV a b=some m):∃x y,a=some x∧b=some y∧m=ce x y:=by
 cases a<;>cases b<;>cases h
 exact⟨_,_,rfl,rfl,rfl⟩
theorem Jt{t:Nat}(c:Code):∀{m:Nat},uc c=some m→m.testBit t=false→¬fa t c=true:=by
 induction c with
 |skip=>intro m _ _ h;cases h
 |region id ops dr=>intro m h hm d;cases h;exact xj hm d
 |seq a b iha ihb=>
  intro m h hm d;obtain⟨x,y,hx,e,rfl⟩:=EI (show NV (uc a) (uc b)=some m from h)
  rw[ly,jH]at hm;have d:(bif fa t a then true else fa t b)=true:=d;cases ha:fa t a with
  |true=>exact iha hx hm.1 ha
  |false=>rw[ha]at d;exact ihb e hm.2 d
 |cond c a b iha ihb=>
  intro m h hm d;obtain⟨x,y,hx,e,rfl⟩:=EI (show NV (uc a) (uc b)=some m from h)
  rw[ly,jH]at hm;have d:(bif fa t a then true else fa t b)=true:=d;cases ha:fa t a with
  |true=>exact iha hx hm.1 ha
  |false=>rw[ha]at d;exact ihb e hm.2 d
 |block id b ih=>exact fun h hm=>ih h hm
 |loop b ih=>exact fun h hm=>ih h hm
 |rangeFunc _ _ _ _ _ _=>intro m h;cases h
 |scope b ih=>exact fun h hm=>ih h hm
 |_=>intro m _ _ h;cases h
theorem Agree.keep{N:Nat}{r e:bP}{a a':Act}{w w':World}{m:Nat}{c:Code}(h:Agree N r a)(hm:uc c=some m)(f:Fr (fun t=>fa t c=true) a w a' w')(g:Agree N e a'):Agree N (sM m r) a':=
 ⟨g.size,fun t v hv=>by
  obtain⟨d,b⟩:=xx hv
  rw[f.same t (Jt c hm d)];exact h.look t v b⟩
theorem sC{a:St}{r:bP}{f:qI (uK a)→Prop}(h:ym a r f):∃t,zT r a=some (ki (uK a) t)∧f t:=by
 unfold ym at h;split at h
 ·rename_i vs hv
  obtain⟨t,rfl,b⟩:=oQ h;exact⟨t,hv,b⟩
 ·exact h.elim
theorem Agree.zip{N:Nat}{r:bP}{a:Act}(h:Agree N r a):∀{st:St} {vs:List Value} {r0:bP},zT r st=some vs→Agree N r0 a→Agree N (kR st vs r0) a
 | [],vs,r0,_,h0=>by cases vs<;>exact h0
 |(i,k)::st,vs,r0,hv,h0=>by
  unfold zT at hv;split at hv
  ·rename_i v vs' h1 h2
   cases hv;have:=Agree.zip h h2 h0;refine⟨this.size,fun t u b=>?_⟩
   by_cases e:i=t
   ·subst e
    rw[show kR ((i,k)::st) (v::vs') r0=(i,v)::kR st vs' r0 from rfl,f3]at b;cases b
    exact h.look i v h1
   ·rw[show kR ((i,k)::st) (v::vs') r0=(i,v)::kR st vs' r0 from rfl,fx v _ e]at b
    exact this.look t u b
  ·cases hv
theorem vF{t:Nat}:∀{l:List Oper} {o:Oper},o∈l→o.dst=some t→js t l=true
 | [],_,h,_=>by cases h
 |x::l,o,h,hd=>by
  have e:js t (x::l)=(match x.dst with|some d=>bif aY d t then true else js t l|none=>js t l):=rfl
  rw[e];rcases aq.1 h with rfl|h
  ·rw[hd];simp only;rw[show aY t t=true from ot t];rfl
  ·have:=vF h hd
   cases x.dst with
   |none=>exact this
   |some d=>
    simp only;cases aY d t with
    |true=>rfl
    |false=>exact this
def LWP(ro:Option Nat)(n:Nat)(P:Program)(c:Code)(Q:Exit→Act→World→Prop)(a:Act)(w:World):Prop:=
 ∀(b:Frame) (k:List Item) (cs:List Frame),b.roundOf=(FW ro).round→(FW ro).fn b.fn→(FW ro).room (cs.length+1+n)→
  ∃e a' w',Q e a' w'∧ArrivesIn (Machine.fenced P (FW ro)) P (lone (b.atR a (.code c:: .inLoop c::k)) cs w) b k cs e a' w'
theorem LWP.step{c:Code}{Q:Exit→Act→World→Prop}{a:Act}{w:World}(h:c.wpIn (FW ro) n P (Exit.then (LWP ro n P c Q) Q) a w):LWP ro n P c Q a w:=by
 intro b k cs j p o;obtain⟨e,m,i,g,d⟩:=h b (.inLoop c::k) cs j p o;cases e with
 |normal=>
  obtain⟨s,t,u,q,f⟩:=g b k cs j p o;exact⟨s,t,u,q,.of_steps (StepsIn.trans d (.one (fenced_calm p o rfl) stepR_inLoop)) f⟩
 |exit id=>exact⟨_,m,i,g,.pass (x:=.inLoop c) rfl (fun _ _=>.inl (by simp)) d⟩
 |goto l=>exact⟨_,m,i,g,.pass (x:=.inLoop c) rfl (fun _ _=>.inl (by simp)) d⟩
 |ret=>exact⟨_,m,i,g,.pass (x:=.inLoop c) rfl (fun _ _=>.inl (by simp)) d⟩
 |panic ch=>exact⟨_,m,i,g,.pass (x:=.inLoop c) rfl (fun _ _=>.inl (by simp)) d⟩
 |outgrown=>exact⟨_,m,i,g,.pass (x:=.inLoop c) rfl (fun _ _=>.inl (by simp)) d⟩
theorem LWP.loop{c:Code}{Q:Exit→Act→World→Prop}{a:Act}{w:World}(h:LWP ro n P c Q a w):(Code.loop c).wpIn (FW ro) n P Q a w:=by
 intro b k cs f i g;obtain⟨e,a',w',j,d⟩:=h b k cs f i g;exact⟨e,a',w',j,.of_steps (.one (fenced_calm i g rfl) stepR_loop) d⟩
theorem CA(r:bP):DecOk [] r:=fun _=>.inl rfl
theorem LV(ops:Array Oper)(ls:Nat):left ops ls≤ops.size:=by
 unfold left;exact Nat.le_trans (List.length_filter_le ..) (by simp)
theorem ju(f:P.follows .mixedOrders=true){N id:Nat}{ops:Array Oper}{g:Bool}{q:Ann}{K:bP→ad→Prop}{r:bP}{a:Act}{w:World}{Q:Exit→Act→World→Prop}
  (b:xn P N ops.toList g q K r w.heap)(i:Agree N r a)(p:∀c a w,¬Q (.panic c) a w)
  (k:∀r' a' w',Agree N r' a'→Fr (fun t=>js t ops.toList=true) a w a' w'→K r' w'.heap→Q .normal a' w'):(Code.region id ops g).wpIn (FW ro) n P Q a w:=by
 have m:∀o∈ops.toList,∀d,o.dst=some d→js d ops.toList=true:=fun o v d hd=>vF v hd
 cases g with
 |false=>
  have key:∀ek,zY P N ek ops.toList ops.toList [] K r w.heap→(Code.region id ops false).wpIn (FW ro) n P Q a w:=fun ek b=>by
   refine wpIn_region ?_;rw[List.range_eq_range',show ops.size=ops.toList.length from rfl]
   exact zX m k ops.toList 0 rfl [] r a w b i (CA r) (Fr.refl _ a w)
  unfold xn at b;simp only at b;split at b
  ·exact key _ b
  ·exact key _ b
 |true=>
  unfold xn at b;simp only at b;generalize Hu ops.toList=ms at b;cases hm:zm ops.toList ms with
  |false=>rw[hm]at b;exact b.elim
  |true=>
   rw[hm,cond_true]at b;refine wpIn_region_any f (Hb (ms:=ms) _ [] _ _ _ ?_);have s:Tame w {w with drawn:=w.drawn+1}:=⟨rfl,rfl,rfl⟩;have u:Fr (fun t=>js t ops.toList=true) a w a {w with drawn:=w.drawn+1}:=⟨s,rfl,fun _ _=>rfl⟩
   refine(Ej (Gf hm) m k (fun e a w=>?_) _ false 0 [] [] r a {w with drawn:=w.drawn+1} _ ops.size b i (CA r) u LsRel.start (fun j x _ h=>by rw[(LsRel.start (ops:=ops)).bit,eA]at h;cases h) (fun x hx=>by cases hx)).1 rfl (LV ops 0)
   cases e with
   |panic ch=>exact .inr (p _ a w)
   |_=>exact .inl fun c hc=>by cases hc
theorem zx(t:Nat)(x y:Code):fa t (.seq x y)=(bif fa t x then true else fa t y):=rfl
theorem yg(t:Nat)(c:Operand)(x y:Code):fa t (.cond c x y)=(bif fa t x then true else fa t y):=rfl
theorem DH{a b:Bool}:(bif a then true else b)=true↔a=true∨b=true:=by cases a<;>cases b<;>decide
theorem pk(u:P.follows .mixedOrders=true){N:Nat}(c:Code):∀(D:Ann) (Kn:bP→ad→Prop) (Kx:Ex→bP→ad→Prop) (r:bP) (a:Act) (w:World) (Q:Exit→Act→World→Prop),
  iL P N c D Kn Kx r w.heap→Agree N r a→(∀R a w,¬Q (.panic R) a w)→
  (∀g a' w',Agree N g a'→Fr (fun t=>fa t c=true) a w a' w'→Kn g w'.heap→Q .normal a' w')→
  (∀i g a' w',Agree N g a'→Fr (fun t=>fa t c=true) a w a' w'→Kx (.exit i) g w'.heap→Q (.exit i) a' w')→
  (∀g a' w',Agree N g a'→Fr (fun t=>fa t c=true) a w a' w'→Kx .ret g w'.heap→Q .ret a' w')→
  c.wpIn (FW ro) n P Q a w:=by
 induction c with
 |skip=>
  intro D Kn Kx r a w Q j s _ z _ _;exact wpIn_skip (z r a w s (Fr.refl ..) j)
 |region id ops dr=>
  intro D Kn Kx r a w Q j s B z _ _;cases D with
  |reg keep inner=>
   have j:xn P N ops.toList dr inner (fun g K=>match Hz g keep with|some r0=>Kn r0 K|none=>False) r w.heap:=j
   refine ju u j s B fun g a' w' O W hk=>?_
   split at hk
   ·rename_i r0 hr0
    refine z r0 a' w' ⟨O.size,fun t v hv=>O.look t v (Cq hr0 t v hv).2⟩ W hk
   ·exact hk.elim
  |nil=>exact ju u (show xn P N ops.toList dr (.nil) Kn r w.heap from j) s B z
  |node x y=>exact ju u (show xn P N ops.toList dr (.node x y) Kn r w.heap from j) s B z
  |join st x y=>exact ju u (show xn P N ops.toList dr (.join st x y) Kn r w.heap from j) s B z
  |loop st y=>exact ju u (show xn P N ops.toList dr (.loop st y) Kn r w.heap from j) s B z
  |draw d=>exact ju u (show xn P N ops.toList dr (.draw d) Kn r w.heap from j) s B z
  |kinds k v=>exact ju u (show xn P N ops.toList dr (.kinds k v) Kn r w.heap from j) s B z
  |rf ks x y=>exact ju u (show xn P N ops.toList dr (.rf ks x y) Kn r w.heap from j) s B z
 |seq x y ihx ihy=>
  intro D Kn Kx r a w Q j s B z hx F;have E:∀{a' w'},Fr (fun t=>fa t x=true) a w a' w'→Fr (fun t=>fa t (.seq x y)=true) a w a' w':=fun h=>h.mono fun t M=>by rw[zx,DH];exact .inl M
  have C:∀{a' w' H I},Fr (fun t=>fa t x=true) a w a' w'→Fr (fun t=>fa t y=true) a' w' H I→Fr (fun t=>fa t (.seq x y)=true) a w H I:=
   fun h k=>(E h).trans (k.mono fun t M=>by rw[zx,DH];exact .inr M)
  have plain:∀X S,iL P N x X (fun g K=>iL P N y S Kn Kx g K) Kx r w.heap→(Code.seq x y).wpIn (FW ro) n P Q a w:=fun X S j=>by
   refine wpIn_seq (ihx X _ Kx r a w _ j s (fun R a w=>B R a w) ?_ (fun i g a' w' q p o=>hx i g a' w' q (E p) o) (fun g a' w' q p o=>F g a' w' q (E p) o))
   intro r1 V Y G A L;exact ihy S Kn Kx r1 V Y Q L G B (fun g a' w' q p o=>z g a' w' q (C A p) o) (fun i g a' w' q p o=>hx i g a' w' q (C A p) o) (fun g a' w' q p o=>F g a' w' q (C A p) o)
  cases D with
  |join st X S=>
   have j:(match uc x with
      |none=>False
      |some m=>Join (T:=qI (uK st)) (fun t K=>iL P N y S Kn Kx (kR st (ki (uK st) t) (sM m r)) K)
       fun J=>iL P N x X (fun g K=>ym st g fun t=>J t K) Kx r w.heap):=j
   split at j
   ·exact j.elim
   ·rename_i m hm
    refine wpIn_seq (ihx X _ Kx r a w _ j.run s (fun R a w=>B R a w) ?_ (fun i g a' w' q p o=>hx i g a' w' q (E p) o) (fun g a' w' q p o=>F g a' w' q (E p) o))
    intro r1 V Y G A L;obtain⟨t,hst,hs2⟩:=sC L;have ha2:Agree N (kR st (ki (uK st) t) (sM m r)) V:=G.zip hst (s.keep hm A G);exact ihy S Kn Kx _ V Y Q hs2 ha2 B (fun g a' w' q p o=>z g a' w' q (C A p) o) (fun i g a' w' q p o=>hx i g a' w' q (C A p) o) (fun g a' w' q p o=>F g a' w' q (C A p) o)
  |_=>exact plain _ _ j
 |cond c x y ihx ihy=>
  intro D Kn Kx r a w Q j s B z hx F;have j:(match cA r c with
   |some (.bool t)=>CondP t (iL P N x D.l Kn Kx r w.heap) (iL P N y D.r Kn Kx r w.heap)
   |_=>False):=j
  have E:∀{a' w'},Fr (fun t=>fa t x=true) a w a' w'→Fr (fun t=>fa t (.cond c x y)=true) a w a' w':=fun h=>h.mono fun t M=>by rw[yg,DH];exact .inl M
  have C:∀{a' w'},Fr (fun t=>fa t y=true) a w a' w'→Fr (fun t=>fa t (.cond c x y)=true) a w a' w':=fun h=>h.mono fun t M=>by rw[yg,DH];exact .inr M
  split at j
  ·rename_i t M
   refine wpIn_cond_split (im s M) (fun e=>?_) (fun e=>?_)
   ·exact ihx _ Kn Kx r a w Q (j.yes e) s B (fun g a' w' q p o=>z g a' w' q (E p) o) (fun i g a' w' q p o=>hx i g a' w' q (E p) o) (fun g a' w' q p o=>F g a' w' q (E p) o)
   ·exact ihy _ Kn Kx r a w Q (j.no e) s B (fun g a' w' q p o=>z g a' w' q (C p) o) (fun i g a' w' q p o=>hx i g a' w' q (C p) o) (fun g a' w' q p o=>F g a' w' q (C p) o)
  ·exact j.elim
 |block id b ih=>
  intro D Kn Kx r a w Q j s B z hx F;refine wpIn_block (ih D Kn _ r a w _ j s (fun R a w=>B R a w) z (fun i g a' w' q p o=>?_) F)
  simp only[Exit.inBlock]at o⊢;cases hi:aY i id with
  |true=>
   rw[hi,cond_true]at o;rw[if_pos (aI hi)];exact z g a' w' q p o
  |false=>
   rw[hi,cond_false]at o;rw[if_neg (fun e=>by rw[e,ot]at hi;cases hi)]
   exact hx i g a' w' q p o
 |loop b ih=>
  intro D Kn Kx r a w Q j s B z hx F;cases D with
  |loop st S=>
   have j:(match uc b with
      |none=>False
      |some m=>ym st r fun t0=>LoopP (T:=qI (uK st)) (fun self t K=>iL P N b S (fun g h''=>ym st g fun t'=>self t' h'') Kx (kR st (ki (uK st) t) (sM m r)) K) t0 w.heap):=j
   split at j
   ·exact j.elim
   ·rename_i m hm
    obtain⟨t0,hst0,hl⟩:=sC j;have h0:=hl.run (fun t K=>∀a' w',w'.heap=K→Agree N (kR st (ki (uK st) t) (sM m r)) a'→Fr (fun t=>fa t b=true) a w a' w'→LWP ro n P b Q a' w') (fun t K hF a' w' hw O W=>by
     subst hw
     refine LWP.step (ih S _ Kx _ a' w' _ hF O (fun R a w=>B R a w) ?_ (fun i g H I q p o=>hx i g H I q (W.trans p) o) (fun g H I q p o=>F g H I q (W.trans p) o))
     intro r1 V Y G A L
     obtain⟨t1,Z,hk1⟩:=sC L
     exact hk1 V Y rfl (G.zip Z (s.keep hm (W.trans A) G)) (W.trans A))
    exact LWP.loop (h0 a w rfl (s.zip hst0 (s.keep hm (Fr.refl _ a w) s)) (Fr.refl _ a w))
  |_=>exact j.elim
 |rangeFunc f params assign body _ _=>intro D Kn Kx r a w Q j;exact j.elim
 |exit id=>
  intro D Kn Kx r a w Q j s B z hx F;exact wpIn_exit (hx id r a w s (Fr.refl ..) j)
 |scope b _=>intro D Kn Kx r a w Q j;exact j.elim
 |label l=>
  intro D Kn Kx r a w Q j s B z hx F;exact wpIn_label (z r a w s (Fr.refl ..) j)
 |goto l=>intro D Kn Kx r a w Q j;exact j.elim
 |ret=>
  intro D Kn Kx r a w Q j s B z hx F;exact wpIn_ret (F r a w s (Fr.refl ..) j)
 |refuse why=>intro D Kn Kx r a w Q j;exact j.elim
end Go.Lift
namespace Go.Lift
open Go
variable {P:Program}
theorem mV{N:Nat}{r:bP}{a:Act}{w:World}(d:Agree N r a):∀{l:List ResultVar} {K:List Value→Prop},kS P r w.heap l K→
  ∃vs,(∀g:ResultVar→Sem Value,(∀t,g (.tmp t)=pure (a.tmps.getD t undef))→(∀x t,g (.cell x t)=do loadVar t (←asAddr (a.tmps.getD x undef)))→(l.mapM g).run P w=.ok vs w)∧K vs
 | [],K,h=>⟨[],fun g _ _=>by rw[List.mapM_nil];rfl,h⟩
 | .tmp t::l,K,h=>by
  unfold kS at h;split at h
  ·rename_i v hv
   obtain⟨vs,f,i⟩:=mV d h;refine⟨v::vs,fun g e c=>?_,i⟩
   rw[List.mapM_cons,e];simp only[Sem.run_bind,Sem.run_pure,Result.andThen_ok];rw[f g e c];simp only[Result.andThen_ok,d.look t v hv]
  ·exact h.elim
 | .cell x t::l,K,h=>by
  unfold kS at h;split at h
  ·rename_i v hv
   obtain⟨u,S,m,n,k⟩:=yu h;obtain⟨vs,f,i⟩:=mV d m;refine⟨u::vs,fun g e c=>?_,i⟩
   rw[List.mapM_cons,c];have j:(do loadVar t (←asAddr (a.tmps.getD x undef)):Sem Value).run P w=.ok u w:=by
    rw[d.look x v hv];unfold Et at h;cases v with
    |pointer p=>cases p with
     |none=>exact h.elim
     |some b=>exact k w n
    |_=>exact h.elim
   simp only[Sem.run_bind]at j⊢;rw[j];simp only[Result.andThen_ok];rw[f g e c];simp only[Sem.run_pure,Result.andThen_ok]
  ·exact h.elim
theorem Cc(ks:List Kind)(t:qI ks):(if h:(ki ks t).toArray.size=1 then(ki ks t).toArray[0]else Value.tuple (ki ks t).toArray)=yS ks (ki ks t):=by
 match ks,t with
 | [],t=>rfl
 | [k],t=>rfl
 |k::l::ks,(x,t)=>
  have:(ki (k::l::ks) (x,t)).length=(k::l::ks).length:=pD _ _;rw[dif_neg (by simp only[cz,this,aO];omega)];rfl
theorem rG:∀(vs:List Value) (i t:Nat) (v:Value),il (mZ i vs) t=some v→i≤t∧vs[t-i]? =some v
 | [],i,t,v,h=>by cases h
 |u::vs,i,t,v,h=>by
  by_cases e:i=t
  ·subst e
   rw[show mZ i (u::vs)=(i,u)::mZ (i+1) vs from rfl,f3]at h
   cases h;exact⟨Nat.le_refl _,by simp⟩
  ·rw[show mZ i (u::vs)=(i,u)::mZ (i+1) vs from rfl,fx u _ e]at h
   obtain⟨b,a⟩:=rG vs (i+1) t v h;refine⟨by omega,?_⟩;rw[show t-i=(t-(i+1))+1 by omega,List.getElem?_cons_succ]
   exact a
theorem HQ(d:P.follows .mixedOrders=true){n:Nat}{fn:Func}{c:Code}{m:Ann}{args:List Value}{ks:List Kind}{K:qI ks→ad→Prop}{w:World}(o:args.length≤fn.ntmps)(q:B6 P fn c m args ks K w.heap):
  c.wpIn (FW none) n P (bodyPost P fn fun e w'=>Tame w w'∧∃t:qI ks,e=.returned (yS ks (ki ks t))∧K t w'.heap) {tmps:=args.toArray++kY (fn.ntmps-args.toArray.size) undef,defers:= []} w:=by
 have s:Agree fn.ntmps (mZ 0 args) {tmps:=args.toArray++kY (fn.ntmps-args.toArray.size) undef,defers:= []}:=by
  refine⟨by simp;omega,fun t v hv=>?_⟩
  obtain⟨_,i⟩:=rG args 0 t v hv;simp only[dJ]at i;have g:=(aP.1 i).1;simp[Array.getElem?_append,g];rw[ag g]at i;cases i;rfl
 have fin:∀j a' (w':World),Agree fn.ntmps j a'→Fr (fun t=>fa t c=true) {tmps:=args.toArray++kY (fn.ntmps-args.toArray.size) undef,defers:= []} w a' w'→
   kS P j w'.heap fn.results.toList (fun vs=>yX ks vs fun t=>K t w'.heap)→
   a'.defers= []∧∃v,(results fn a'.tmps).run P w'=.ok v w'∧(Tame w w'∧∃t:qI ks,Ending.returned v=.returned (yS ks (ki ks t))∧K t w'.heap):=fun j a' w' k b p=>by
  obtain⟨vs,f,hd⟩:=mV k p;obtain⟨t,rfl,u⟩:=oQ hd;refine⟨b.defers,_,?_,b.tame,t,rfl,u⟩;unfold results;rw[j9];simp only[Sem.run_bind,Sem.run_map];rw[f _ (fun _=>rfl) (fun _ _=>rfl)]
  simp only[Result.andThen_ok,Sem.run_pure];rw[←Cc]
 exact pk d c m _ _ _ _ w _ q s (fun x a w h=>h.2.2.elim fun _ h=>by cases h.1) fin (fun _ _ _ _ _ _ h=>h.elim) fin
theorem HE.intro(d:P.follows .mixedOrders=true){f:FuncId}{fn:Func}{c:Code}{e:Ann}{args:List Value}{ks:List Kind}{K:qI ks→ad→Prop}{h:ad}
  (k:P.funcs[f]? =some fn) (g:fn.body=some c) (a:∀(args:Array Value) (w:World),(callFunc f args).run P w=.ok (.enter f args) w) (b:args.length≤fn.ntmps)
  (i:B6 P fn c e args ks K h):HE P f args ks K h:=by
 refine⟨fun w j=>⟨a,?_⟩⟩
 subst j;exact(callsIn_wide (n:=0)).1 (callsIn_of_wp (F:=FW none) k g trivial (HQ d b i) rfl)
theorem HD.intro(d:P.follows .mixedOrders=true){f:FuncId}{fn:Func}{c:Code}{g:Ann}{args:List Value}{ks:List Kind}{K:ad→Prop}{h:ad}
  (s:P.funcs[f]? =some fn) (i:fn.body=some c) (a:∀(args:Array Value) (w:World),(callFunc f args).run P w=.ok (.enter f args) w) (b:args.length≤fn.ntmps)
  (m:B6 P fn c g args ks (fun _ h'=>K h') h):HD P f args K h:=by
 refine fun w o=>⟨a,fun n=>?_⟩
 subst o;exact(callsDIn_of_wp (F:=FW none) s i trivial (HQ d b m) rfl).mono fun e u w' ⟨j,k,t,q,p⟩=>⟨j,k,⟨_,q⟩,p⟩
theorem HC.intro(d:P.follows .mixedOrders=true){f:FuncId}{fn:Func}{c:Code}{e:Ann}{args:List Value}{ks:List Kind}{K:qI ks→ad→Prop}{h:ad}
 (j:P.funcs[f]? =some fn) (g:fn.body=some c) (a:∀(args:Array Value) (w:World),(callFunc f args).run P w=.ok (.enter f args) w) (b:args.length≤fn.ntmps)
 (i:B6 P fn c e args ks K h):HC P f args ks K h:=(HE.intro d j g a b i).hc
theorem GQ{N:Nat}{args:List Value}(c:args.length≤N):Agree N (mZ 0 args) {tmps:=args.toArray++kY (N-args.toArray.size) undef,defers:= []}:=by
 refine⟨by simp;omega,fun t v hv=>?_⟩
 obtain⟨_,b⟩:=rG args 0 t v hv;simp only[dJ]at b;have a:=(aP.1 b).1;simp[Array.getElem?_append,a];rw[ag a]at b;cases b;rfl
theorem Eo{N:Nat}{fn:Func}{ks:List Kind}{K:qI ks→ad→Prop}{c:bP}{a':Act}{w':World}(b:Agree N c a')(d:kS P c w'.heap fn.results.toList (fun vs=>yX ks vs fun t=>K t w'.heap)):
  ∃t:qI ks,(results fn a'.tmps).run P w'=.ok (yS ks (ki ks t)) w'∧K t w'.heap:=by
 obtain⟨vs,a,hd⟩:=mV b d;obtain⟨t,rfl,e⟩:=oQ hd;refine⟨t,?_,e⟩;unfold results;rw[j9];simp only[Sem.run_bind,Sem.run_map];rw[a _ (fun _=>rfl) (fun _ _=>rfl)]
 simp only[Result.andThen_ok,Sem.run_pure];rw[←Cc]
end Go.Lift
namespace Go.Lift
open Go
variable {P:Program}
abbrev Ao(D:Nat):Deferred:={target:=.collected D,args:= #[]}
abbrev mH:Mk→Deferred
 | .it D=>Ao D
 | .call f vs=>{target:=.fn (.func f) #[],args:= #[]++vs.toArray}
theorem AX{N:Nat}:∀{ps:List Nat} {vs:List Value} {r:bP} {tmps:Array Value},uU N ps=true→Agree N r {tmps:=tmps,defers:= []}→
  Agree N (Lr ps vs r) {tmps:=(ps.zip vs).foldl (fun t x=>t.setIfInBounds x.1 x.2) tmps,defers:= []}
 | [],vs,r,tmps,_,h=>by cases vs<;>exact h
 |i::ps,[],r,tmps,_,h=>h
 |i::ps,v::vs,r,tmps,a,h=>by
  have a:(tM i N&&uU N ps)=true:=a;rw[aV]at a;have b:i<N:=by simpa using a.1
  have:=h.put i v b;exact AX (tmps:=tmps.setIfInBounds i v) a.2 this
theorem zM(w:World)(o:Obj):Tame w (w.alloc o):=⟨rfl,rfl,rfl⟩
theorem lC(w:World)(b:Nat)(o:Obj):Tame w (w.putObj b o):=⟨rfl,rfl,rfl⟩
theorem Ew(w:World)(b:Nat)(o:Obj):(w.putObj b o).heap=w.heap.setIfInBounds b o:=rfl
theorem HW(ps:Array Nat)(vs:List Value)(t:Array Value):(ps.zip vs.toArray).foldl (fun t (x:Nat×Value)=>t.setIfInBounds x.1 x.2) t=(ps.toList.zip vs).foldl (fun t x=>t.setIfInBounds x.1 x.2) t:=by
 obtain⟨l⟩:=ps;simp
theorem yT(A:P.follows .mixedOrders=true){n N:Nat}{g:Operand}{ps:Array Tmp}{assign body:Code}{aa ab:Ann}{ks:List Kind}{fv:Value}{r:bP}{a:Act}{w:World}{Q:Exit→Act→World→Prop}
  {KN:ad→Prop}{KX:Nat→ad→Prop}{KR:ad→Prop}(Y:uU N ps.toList=true)(O:ps.toList.length=ks.length)(hg:cA r g=some fv)(Z:Agree N r a)
  (hR:RangeP P fv ks w.heap (fun Ce bz x k h'=>FI P N ps.toList ks assign body (.node aa ab) r (w.heap.size+1) Ce bz x k h') KN KX KR)
  (hn:∀w',Tame w w'→KN w'.heap→Q .normal {a with defers:=Ao w.heap.size::a.defers} w')
  (hx:∀i w',Tame w w'→KX i w'.heap→Q (.exit i) {a with defers:=Ao w.heap.size::a.defers} w')
  (hr:∀w',Tame w w'→KR w'.heap→Q .ret {a with defers:=Ao w.heap.size::a.defers} w'):(Code.rangeFunc g ps assign body).wpIn (FW none) n P Q a w:=by
 refine wpIn_rangeFunc fun fn _=>?_
 obtain⟨lo,p⟩:∃lo:LoopState→Option Ex→Obj,lo=fun s j=>.loop {state:=s,pending:=Ds j,fn,tmps:=a.tmps,params:=ps,assign,body,defers:=w.heap.size}:=⟨_,rfl⟩
 have hj:∀j:Option Ex,(Ds j).isNone=j.isNone:=fun j=>by rcases j with _|⟨_|_⟩<;>rfl
 obtain⟨f,first,cap,rfl,he⟩:=hR.run lo (fun s j=>⟨_,by rw[p]⟩) (fun x h' K q z=>by
  refine⟨.inr ⟨_,rfl,⟨fun I X=>?_⟩⟩⟩
  subst X
  rw[p]at q
  have hy:=run_yield (P:=P) (args:=(ki ks x).toArray) q (by simp only[cz,pD];rw[←O];rfl)
  refine⟨_,_,_,_,hy,fun c cs=>?_⟩
  have hA:Agree N (Lr ps.toList (ki ks x) r) {tmps:=(ps.zip (ki ks x).toArray).foldl (fun t (x:Nat×Value)=>t.setIfInBounds x.1 x.2) a.tmps,defers:= []}:=by
   rw[HW]
   exact AX Y ⟨Z.size,Z.look⟩
  have m:∀j:Option Ex,∀W:World,Tame I W→(W.heap[w.heap.size+1]? =some (lo .busy none)∧K j.isNone (W.heap.setIfInBounds (w.heap.size+1) (lo (if j.isNone then .ready else .done) j)))→
    ∃v w',(Instr.endRound (w.heap.size+1) (Ds j)).run P W=.ok v w'∧∃b,Ending.returned v=.returned (.bool b)∧Tame I w'∧K b w'.heap:=by
   rintro j W J ⟨h1,S⟩
   rw[p]at h1
   have:=run_endRound (P:=P) (Ds j) h1
   refine⟨_,_,this,_,rfl,J.trans (lC ..),?_⟩
   rw[p]at S
   rw[hj]
   exact S
  have:=roundIn_of_wpIn (F:=FW none) (n:=0) (P:=P) (l:=w.heap.size+1) (f:=fn) (assign:=assign) (body:=body) (w:=I)
   (tmps:=(ps.zip (ki ks x).toArray).foldl (fun t (x:Nat×Value)=>t.setIfInBounds x.1 x.2) a.tmps)
   (R:=fun e w'=>∃b,e=.returned (.bool b)∧Tame I w'∧K b w'.heap) trivial (by
    refine pk (ro:=some (w.heap.size+1)) A assign aa _ _ _ _ I _ z hA (fun ch a w h=>h) ?_ (fun i r' a' w' _ _ h=>h.elim) (fun r' a' w' _ _ h=>h.elim)
    rintro r2 a2 w2 V D ⟨u,C⟩
    rw[p]at u
    refine⟨_,run_beginRound u rfl,?_⟩
    have G:∀o,o=lo .busy none→w2.heap.setIfInBounds (w.heap.size+1) o=w2.heap.setIfInBounds (w.heap.size+1) (lo .busy none):=fun o ho=>by rw[ho]
    refine pk (ro:=some (w.heap.size+1)) A body ab (fun _ S=>_) (fun e _ S=>_) _ _ (w2.putObj (w.heap.size+1) _) _ (by
     rw[Ew,G _ (by rw[p])];exact C) V (fun ch a w h=>h) ?_ ?_ ?_
    ·rintro r3 a3 M L y H
     exact m none M ((D.tame.trans (lC ..)).trans y.tame) H
    ·rintro i r3 a3 M L y H
     exact m (some (.exit i)) M ((D.tame.trans (lC ..)).trans y.tame) H
    ·rintro r3 a3 M L y H
     exact m (some .ret) M ((D.tame.trans (lC ..)).trans y.tame) H)
  obtain⟨e,w',⟨b,rfl,J,hK⟩,T⟩:=this.2 c cs (fun d h=>by simp[FW]at h)
  exact⟨b,w',J,hK,T.steps⟩)
 have B:=he.run ((w.alloc (.deferred (some []))).alloc (lo .ready none)) rfl;refine⟨w.heap.size+1,[Ao w.heap.size],(w.alloc (.deferred (some []))).alloc (lo .ready none),{target:=.fn (.func f) cap,args:=first++ #[.func (.yield (w.heap.size+1)) #[] #[]]},(w.alloc (.deferred (some []))).alloc (lo .ready none),f,
  first++ #[.func (.yield (w.heap.size+1)) #[] #[]]++cap,(w.alloc (.deferred (some []))).alloc (lo .ready none),?_,?_,fun _ _=>trivial,?_,fun h=>by simp[FW]at h,?_⟩
 ·rw[p];exact run_enterLoop_outer fn a.tmps ps assign body
 ·have hev:=im Z hg
  simp[resolve,hev,Deferred.ofValue,Sem.run_pure];rfl
 ·simp[invoke,B.1]
 ·refine AQ ?_
  have e:(first.toList++ [Value.func (.yield (w.heap.size+1)) #[] #[]]++cap.toList).toArray=first++ #[.func (.yield (w.heap.size+1)) #[] #[]]++cap:=by apply cj;simp
  rw[←e];refine B.2.mono ?_;rintro e w' ⟨J,t,rfl,s,j,T,q,m⟩;have ht':Tame w w':=((zM w _).trans (zM _ _)).trans J;rw[p]at q;refine⟨_,_,run_endLoop q T,?_⟩;have E:∀o,Tame w (w'.putObj (w.heap.size+1) o):=fun o=>ht'.trans (lC ..)
  have G:∀o,o=lo .exhausted j→(w'.putObj (w.heap.size+1) o).heap=w'.heap.setIfInBounds (w.heap.size+1) (lo .exhausted j):=fun o ho=>by rw[ho];rfl
  rcases j with _|⟨i|_⟩
  ·exact hn _ (E _) (by rw[G _ (by rw[p])];exact m)
  ·exact wpIn_exit (hx i _ (E _) (by rw[G _ (by rw[p])];exact m))
  ·exact wpIn_ret (hr _ (E _) (by rw[G _ (by rw[p])];exact m))
theorem AK{n N id d:Nat}{ops:Array Oper}{m o:Oper}{x:Operand}{f:FuncId}{as:List Operand}{vs:List Value}{v:Value}{r:bP}{a:Act}{w:World}{Q:Exit→Act→World→Prop}(b:AM ops.toList=some (m,o,x,d,f,as))(hv:cA r x=some v)(j:d<N)(g:lg ((d,v)::r) as=some vs)(i:Agree N r a)
  (p:∀a',Agree N ((d,v)::r) a'→a'.defers=mH (.call f vs)::a.defers→Q .normal a' w):(Code.region id ops false).wpIn (FW none) n P Q a w:=by
 unfold AM at b;split at b
 ·rename_i m' o' hl
  split at b
  ·rename_i x' d' c h1 h2 h3 h4 h5 h6
   split at b
   ·rename_i f' hc
    cases b;have k:ops[0]? =some m:=by rw[←aR,hl];rfl
    have z:ops[1]? =some o:=by rw[←aR,hl];rfl
    have es:ops.size=2:=by rw[←Array.length_toList,hl];rfl
    have w0:∀y,Region.wanted m y=true:=fun y=>by simp[Region.wanted,h2]
    have q:∀y,Region.wanted o y=true:=fun y=>by simp[Region.wanted,h6]
    refine wpIn_region ?_;rw[es,show bX 2= [0,1]from rfl]
    simp only[wpOpsIn,k,z,w0,q,if_true];refine BigFrame.wpIn_move x h1 ?_;rw[im i hv,h3];have e:=i.put d v j;refine⟨fun _ _=>trivial,?_⟩
    have t:((Oper.semAt (FW none).round (a.put (some d) v).eval o).run P w)=.ok (.defer (mH (.call f vs))) w:=by
     show((execOp (a.put (some d) v).eval o).run P w)=_
     have u:=jL e g;have s:c.args.map (a.put (some d) v).eval=vs.toArray:=by rw[←u];apply cj;simp
     simp only[execOp,h4,resolve,hc,s];simp[Act.eval,Deferred.ofValue,mH]
    rw[t,Oper.uponIn_defer,h5];exact p _ ⟨e.size,e.look⟩ rfl
   ·cases b
  ·cases b
 ·cases b
theorem CZ(H:P.follows .mixedOrders=true){n N:Nat}(c:Code):∀(s:Ann) (Kn:List Mk→bP→ad→Prop) (Kx:Ex→List Mk→bP→ad→Prop) (ms:List Mk) (r:bP) (a:Act) (w:World) (Q:Exit→Act→World→Prop),
  uO P N c s Kn Kx ms r w.heap→Agree N r a→a.defers=ms.map mH→(∀K a w,¬Q (.panic K) a w)→
  (∀p q a' w',Agree N q a'→a'.defers=p.map mH→Tame w w'→Kn p q w'.heap→Q .normal a' w')→
  (∀i p q a' w',Agree N q a'→a'.defers=p.map mH→Tame w w'→Kx (.exit i) p q w'.heap→Q (.exit i) a' w')→
  (∀p q a' w',Agree N q a'→a'.defers=p.map mH→Tame w w'→Kx .ret p q w'.heap→Q .ret a' w')→
  c.wpIn (FW none) n P Q a w:=by
 have plain:∀(c:Code) (s:Ann) (Kn:List Mk→bP→ad→Prop) (Kx:Ex→List Mk→bP→ad→Prop) (ms:List Mk) (r:bP) (a:Act) (w:World) (Q:Exit→Act→World→Prop),
  iL P N c s (Kn ms) (fun e=>Kx e ms) r w.heap→Agree N r a→a.defers=ms.map mH→(∀K a w,¬Q (.panic K) a w)→
  (∀p q a' w',Agree N q a'→a'.defers=p.map mH→Tame w w'→Kn p q w'.heap→Q .normal a' w')→
  (∀i p q a' w',Agree N q a'→a'.defers=p.map mH→Tame w w'→Kx (.exit i) p q w'.heap→Q (.exit i) a' w')→
  (∀p q a' w',Agree N q a'→a'.defers=p.map mH→Tame w w'→Kx .ret p q w'.heap→Q .ret a' w')→
  c.wpIn (FW none) n P Q a w:=by
  intro c s Kn Kx ms r a w Q j u hd C z hx B;exact pk H c s _ _ r a w Q j u C (fun q a' w' E A D=>z ms q a' w' E (A.defers.trans hd) A.tame D) (fun i q a' w' E A D=>hx i ms q a' w' E (A.defers.trans hd) A.tame D)
   (fun q a' w' E A D=>B ms q a' w' E (A.defers.trans hd) A.tame D)
 induction c with
 |skip=>intro s Kn Kx ms r a w Q j;exact plain _ s Kn Kx ms r a w Q j
 |region id ops dr=>
  intro s Kn Kx ms r a w Q j u hd C z hx B;have j:(match AM ops.toList with
   |none=>iL P N (.region id ops dr) s (Kn ms) (fun e=>Kx e ms) r w.heap
   |some (_,_,x,d,f,as)=>bif dr then False else match cA r x with
    |some v=>bif tM d N then(match lg ((d,v)::r) as with|some vs=>Kn (.call f vs::ms) ((d,v)::r) w.heap|none=>False)else False
    |none=>False):=j
  split at j
  ·exact plain _ s Kn Kx ms r a w Q j u hd C z hx B
  ·rename_i m o x d f as he
   cases dr with
   |true=>exact j.elim
   |false=>
    rw[cond_false]at j;split at j
    · rename_i v hv
      cases hb:tM d N with
      |false=>rw[hb]at j;exact j.elim
      |true=>
       rw[hb,cond_true]at j;split at j
       ·rename_i vs hvs
        refine AK he hv (by simpa using hb) hvs u fun a' W S=>z (.call f vs::ms) _ a' w W ?_ ⟨rfl,rfl,rfl⟩ j
        rw[S,hd];rfl
       ·exact j.elim
    · exact j.elim
 |seq x y ihx ihy=>
  intro s Kn Kx ms r a w Q j u hd C z hx B;have j:(bif (bif oJ x then true else oJ y)then uO P N x s.l (fun ms q F=>uO P N y s.r Kn Kx ms q F) Kx ms r w.heap
   else iL P N (.seq x y) s (Kn ms) (fun e=>Kx e ms) r w.heap):=j
  cases hb:(bif oJ x then true else oJ y)with
  |false=>rw[hb]at j;exact plain _ _ _ _ _ _ _ _ _ j u hd C z hx B
  |true=>
   rw[hb,cond_true]at j;refine wpIn_seq (ihx s.l _ Kx ms r a w _ j u hd (fun K a w=>C K a w) ?_ hx B)
   intro T r1 Y Z R O I M;exact ihy s.r Kn Kx T r1 Y Z Q M R O C (fun p q a' w' E A D G=>z p q a' w' E A (I.trans D) G) (fun i p q a' w' E A D G=>hx i p q a' w' E A (I.trans D) G)
    (fun p q a' w' E A D G=>B p q a' w' E A (I.trans D) G)
 |cond c x y ihx ihy=>
  intro s Kn Kx ms r a w Q j u hd C z hx B;have j:(bif (bif oJ x then true else oJ y)then
    (match cA r c with
     |some (.bool t)=>CondP t (uO P N x s.l Kn Kx ms r w.heap) (uO P N y s.r Kn Kx ms r w.heap)
     |_=>False)
   else iL P N (.cond c x y) s (Kn ms) (fun e=>Kx e ms) r w.heap):=j
  cases hb:(bif oJ x then true else oJ y)with
  |false=>rw[hb]at j;exact plain _ _ _ _ _ _ _ _ _ j u hd C z hx B
  |true=>
   rw[hb,cond_true]at j;split at j
   ·rename_i t J
    exact wpIn_cond_split (im u J) (fun e=>ihx _ Kn Kx ms r a w Q (j.yes e) u hd C z hx B) (fun e=>ihy _ Kn Kx ms r a w Q (j.no e) u hd C z hx B)
   ·exact j.elim
 |block id b ih=>
  intro s Kn Kx ms r a w Q j u hd C z hx B;have j:(bif oJ b then uO P N b s Kn (fun e ms q F=>match e with
    | .exit i=>bif aY i id then Kn ms q F else Kx (.exit i) ms q F
    | .ret=>Kx .ret ms q F) ms r w.heap
   else iL P N (.block id b) s (Kn ms) (fun e=>Kx e ms) r w.heap):=j
  cases hb:oJ b with
  |false=>rw[hb]at j;exact plain _ _ _ _ _ _ _ _ _ j u hd C z hx B
  |true=>
   rw[hb,cond_true]at j;refine wpIn_block (ih s Kn _ ms r a w _ j u hd (fun K a w=>C K a w) z (fun i p q a' w' E A D G=>?_) B)
   simp only[Exit.inBlock]at G⊢;cases hi:aY i id with
   |true=>
    rw[hi,cond_true]at G;rw[if_pos (aI hi)];exact z p q a' w' E A D G
   |false=>
    rw[hi,cond_false]at G;rw[if_neg (fun e=>by rw[e,ot]at hi;cases hi)]
    exact hx i p q a' w' E A D G
 |loop b ih=>intro s Kn Kx ms r a w Q j;exact plain _ s Kn Kx ms r a w Q j
 |rangeFunc g ps assign body _ _=>
  intro s Kn Kx ms r a w Q j u hd C z hx B;cases s with
  |rf ks aa ab=>
   have j:(bif uU N ps.toList&&aY ps.toList.length ks.length then
    (match cA r g with
     |some fv=>RangeP P fv ks w.heap (fun Ce bz x k F=>FI P N ps.toList ks assign body (.node aa ab) r (w.heap.size+1) Ce bz x k F)
       (fun F=>Kn (.it w.heap.size::ms) r F) (fun i F=>Kx (.exit i) (.it w.heap.size::ms) r F) (fun F=>Kx .ret (.it w.heap.size::ms) r F)
     |none=>False)else False):=j
   cases hb:(uU N ps.toList&&aY ps.toList.length ks.length)with
   |false=>rw[hb]at j;exact j.elim
   |true=>
    rw[hb,cond_true]at j;rw[aV]at hb;split at j
    · rename_i fv hfv
      have X:Agree N r {a with defers:=Ao w.heap.size::a.defers}:=⟨u.size,u.look⟩;have V:({a with defers:=Ao w.heap.size::a.defers}:Act).defers=(.it w.heap.size::ms).map mH:=by rw[List.map_cons,←hd]
      exact yT H hb.1 (aI hb.2) hfv u j (fun w' J L=>z _ r _ w' X V J L) (fun i w' J L=>hx i _ r _ w' X V J L) (fun w' J L=>B _ r _ w' X V J L)
    · exact j.elim
  |_=>exact j.elim
 |exit id=>intro s Kn Kx ms r a w Q j;exact plain _ s Kn Kx ms r a w Q j
 |scope b _=>intro s Kn Kx ms r a w Q j;exact j.elim
 |label l=>intro s Kn Kx ms r a w Q j;exact plain _ s Kn Kx ms r a w Q j
 |goto l=>intro s Kn Kx ms r a w Q j;exact j.elim
 |ret=>intro s Kn Kx ms r a w Q j;exact plain _ s Kn Kx ms r a w Q j
 |refuse why=>intro s Kn Kx ms r a w Q j;exact j.elim
theorem rh{fn:Func}{ks:List Kind}{K:qI ks→ad→Prop}{N:Nat}{n:Nat}{r:bP}{a:Act}{w0:World}(c:Agree N r a):∀(ms:List Mk) (w:World),Tame w0 w→
  Ei P ms (fun g=>kS P r g fn.results.toList fun vs=>yX ks vs fun t=>K t g) w.heap→
  LeavesInM (FW none) n P fn a.tmps (fun e w'=>Tame w0 w'∧∃t:qI ks,e=.returned (yS ks (ki ks t))∧K t w'.heap) (ms.map mH) .returning w
 | [],w,ht,h=>by
  obtain⟨t,b,m⟩:=Eo c h;exact⟨_,b,ht,t,rfl,m⟩
 | .it D::ms,w,ht,h=>by
  refine⟨by simp,.inl ⟨D,_,rfl,run_takeDeferred h.1,?_⟩⟩;exact rh c ms (w.putObj D (.deferred none)) (ht.trans (lC ..)) h.2
 | .call f vs::ms,w,ht,h=>by
  obtain⟨hc,hd⟩:=h w rfl;refine⟨by simp,.inr ⟨(fun e=>by cases e),.func f,#[],f,vs.toArray,rfl,?_,fun _ _=>trivial,CallsDIn.mono (hd (n-1)) fun e u w' ⟨i,d,⟨v,k⟩,j⟩=>?_⟩⟩
  ·have:=hc vs.toArray w
   simpa[invoke]using this
  ·subst i k
   exact rh c ms w' (ht.trans d) j
theorem HE.introM(m:P.follows .mixedOrders=true){f:FuncId}{fn:Func}{c:Code}{q:Ann}{args:List Value}{ks:List Kind}{K:qI ks→ad→Prop}{h:ad}
  (y:P.funcs[f]? =some fn) (s:fn.body=some c) (j:∀(args:Array Value) (w:World),(callFunc f args).run P w=.ok (.enter f args) w) (k:args.length≤fn.ntmps)
  (u:FJ P fn c q args ks K h):HE P f args ks K h:=by
 refine⟨fun w v=>⟨j,?_⟩⟩
 subst v;refine(callsIn_wide (n:=0)).1 (callsIn_of_wp_marks (F:=FW none) y s trivial ?_ rfl);refine wpIn_mono (Q:=fun e a w'=>(∀o,e≠ .panic o)∧bodyPostM (FW none) 0 P fn (fun e w'=>Tame w w'∧∃t:qI ks,e=.returned (yS ks (ki ks t))∧K t w'.heap) e a w') ?_ fun e a w h=>h.2
 refine CZ m c q _ _ [] _ _ w _ u (GQ k) rfl (fun o a w h=>h.1 o rfl) ?_ (fun _ _ _ _ _ _ _ _ h=>h.elim) ?_
 ·intro b x a' w' i g d p
  refine⟨(fun _ e=>by cases e),?_⟩
  show LeavesInM _ _ _ _ _ _ a'.defers _ _
  rw[g];exact rh i b w' d p
 ·intro b x a' w' i g d p
  refine⟨(fun _ e=>by cases e),?_⟩
  show LeavesInM _ _ _ _ _ _ a'.defers _ _
  rw[g];exact rh i b w' d p
theorem HC.introM(d:P.follows .mixedOrders=true){f:FuncId}{fn:Func}{c:Code}{e:Ann}{args:List Value}{ks:List Kind}{K:qI ks→ad→Prop}{h:ad}
 (j:P.funcs[f]? =some fn) (g:fn.body=some c) (a:∀(args:Array Value) (w:World),(callFunc f args).run P w=.ok (.enter f args) w) (b:args.length≤fn.ntmps)
 (i:FJ P fn c e args ks K h):HC P f args ks K h:=(HE.introM d j g a b i).hc
end Go.Lift
namespace Go.Lift
open Go
def AppP(z:Option (List Value))(e b:Nat)(t:TypeId)(a:Option Addr)(sl d c:Nat)(xs:List Value)(h:ad)(K:SliceV→ad→Prop):Prop:=
 (sl+c≤d→rc h a (sl*e) xs∧bH xs=true∧K ⟨a,sl+c,d⟩ (ey h a (sl*e) xs))∧
 (d<sl+c→∃old z',SRow h a (sl*e) old∧z=some z'∧0<b∧Builtin.nextslicecap (sl+c) d*b≤2^48∧
  ∀nc,sl+c≤nc→K ⟨some (aC h),sl+c,nc⟩ (hnew h (old++xs++cI (nc-(sl+c)) z') t))
end Go.Lift
