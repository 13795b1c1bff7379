/- A part of the proof that the named laws of this program answer true, whatever the input. -/
import Derived.Test.YtncppacbfagpgaaGreatDoorLift1
open Array renaming getD_eq_getD_getElem?→dQ,getElem?_toList→cd,getElem?_setIfInBounds_ne→f9,replicate→vt,getElem?_eq_some_iff→cV,getElem?_eq_getElem→gH,getElem?_eq_none→nL,mapM_eq_mapM_toList→qf
open Bool renaming eq_false_iff→tE,or_eq_true→lW,and_eq_true→bH,not_eq_true'→tD,or_eq_false_iff→pF
open List renaming mem_of_getElem?→ml,length_cons→al,mem_cons→aB,getElem?_cons_zero→cN,getElem?_eq_getElem→ae,any_eq_true→cA,getElem?_eq_some_iff→bJ,mem_cons_of_mem→aC,mem_cons_self→av,filter_cons→bW,mem_singleton→aF,size_toArray→ed
open Nat renaming beq→cg,eq_of_beq_eq_true→bG,land→mh,lor→dL,testBit_and→kG,zero_testBit→ij,succ→ik,zero_add→aQ,beq_refl→vX,lt_or_ge→bZ,pred→BB,sub_zero→fa
open Option renaming some→bQ
namespace Go.Lift
open Go
variable {P:Program} {ro:Option Nat} {n:Nat}
def FW(ro:Option Nat):Fence:={fn:=fun _=>True,depth:=none,alive:=false,round:=ro}
theorem WW(m:Machine):m.fenced P (FW ro):=by
 intro g _;exact⟨fun h=>by simp[FW]at h,.inl trivial,fun _ _=>trivial,fun d h=>by simp[FW]at h⟩
theorem Db{m a:Machine}(h:Steps P m a):StepsIn (Machine.fenced P (FW ro)) P m a:=(StepsIn.of_steps h).mono fun m _=>WW m
theorem Kj{k:Nat}{f:FuncId}{args:Array Value}{w:World}{R:Ending→World→Prop}(h:Calls P f args w R):CallsIn (FW ro) k P f args w R:=by
 refine⟨trivial,fun cs _=>?_⟩
 obtain⟨e,d,fr,g,hc,a,b⟩:=h cs;refine⟨e,d,fr,g,?_,a,b⟩;cases e with
 |returned v=>exact Db hc
 |panicked c=>exact Db hc
 |outgrown=>exact hc
theorem xe{o:Oper}{a:Act}{w:World}{K:WK}{next:Act→World→Prop}{Q:Exit→Act→World→Prop}(hd:∀c,o.op≠ .defer c)(h:Rp P (execOp a.eval o) K w)
  (k:∀v d,Tame w d→K v d.heap→next (a.put o.dst v) d):o.wpIn (FW ro) n P a w next Q:=by
 refine⟨fun _ _=>trivial,?_⟩
 rw[Oper.semAt_eq _ _ _ hd];rcases h with⟨v,d,g,i,j⟩|⟨d,g,i,j⟩|⟨f,args,g,hc⟩|⟨l,fn,tmps,assign,body,g,hc⟩
 ·rw[g];exact k v d i j
 ·rw[g];exact k undef d i j
 ·rw[g]
  refine⟨fun h=>by simp[FW]at h,Kj (hc.mono ?_)⟩
  rintro e d ⟨i,v,rfl,j⟩;exact k v d i j
 ·rw[g]
  refine⟨fun h=>by simp[FW]at h,trivial,fun c cs _=>?_⟩
  obtain⟨b,d,i,j,m⟩:=hc c cs;exact⟨.returned (.bool b),d,k _ d i j,Db m⟩
theorem zM{N:Nat}{o:Oper}{v:Value}{r:cY}{K:cY→Prop}{a:Act}{d:zd}{dv:DV}(h:EJ N o v r K)(c:Agree N r a)(hd:DecOk d r)(hv:Mh dv v):
  ∃r',K r'∧Agree N r' (a.put o.dst v)∧DecOk (wH d o dv) r':=by
 unfold EJ at h;unfold wH;cases ho:o.dst with
 |none=>rw[ho]at h;exact⟨r,h,c,hd⟩
 |some t=>
  rw[ho]at h;simp only at h;cases hb:Nat.blt t N with
  |false=>rw[hb]at h;exact h.elim
  |true=>
   rw[hb]at h;have b:t<N:=by simpa using hb
   refine⟨_,h,c.put t v b,fun s=>?_⟩
   by_cases e:t=s
   ·subst e
    have:vA ((t,dv)::d) t=dv:=by simp[vA]
    rw[this];exact .inr ⟨v,kV t v r,hv⟩
   ·have g:vA ((t,dv)::d) s=vA d s:=by
     have:cg t s=false:=tE.2 fun f=>e (bG f)
     show(bif cg t s then dv else vA d s)=_
     rw[this];rfl
    rw[g,jO v r e];exact hd s
theorem Qm{ek:Option (Kind×Kind)}{o:Op}{r:cY}{K:RK}{h:ad}(a:F4 P ek o r K h):∀c,o≠ .defer c:=by
 intro c e;subst e;exact a
theorem AA{o:Oper}{r:cY}{K:WK}{h:ad}(a:Lm P o r K h):∀c,o.op≠ .defer c:=by
 intro c e;unfold Lm at a;rw[e]at a;exact a
theorem acV{d:zd}{o:Op}(h:Ah P o=false):PL d o=.x:=by
 cases o<;>first|rfl|(simp[Ah]at h)
theorem V9{N:Nat}{ek:Option (Kind×Kind)}{o:Oper}{r:cY}{K:cY→ad→Prop}{a:Act}{w:World}{d:zd}{next:Act→World→Prop}{Q:Exit→Act→World→Prop}
  (g:ach P N ek o r K w.heap)(j:Agree N r a)(hd:DecOk d r)
  (q:∀v i f,Tame w i→K f i.heap→Agree N f (a.put o.dst v)→DecOk (wH d o (PL d o.op)) f→next (a.put o.dst v) i):o.wpIn (FW ro) n P a w next Q:=by
 unfold ach at g;cases hq:Ah P o.op with
 |true=>
  rw[hq,cond_true]at g;obtain⟨v,S,p,s,k,x⟩:=MO j g d hd;refine xe (K:=fun u h'=>u=v∧h'=w.heap) (Qm g) (.inl ⟨v,w,x w s,Tame.refl w,rfl,rfl⟩) ?_
  rintro u i m ⟨rfl,t⟩;obtain⟨f,c,e,b⟩:=zM p j hd k;exact q u i f m (by rw[t];exact c) e b
 |false=>
  rw[hq,cond_false]at g;refine xe (AA g) (FO j g) ?_;intro v i m p;obtain⟨f,c,e,b⟩:=zM p j hd (dv:=PL d o.op) (by rw[acV hq];trivial);exact q v i f m c e b
theorem Nj{t:Array Value}{i:Nat}{b:Bool}(h:t.getD i undef=.bool b):t[i]? =some (.bool b):=by
 rw[dQ]at h;cases hc:t[i]? with
 |none=>rw[hc]at h;simp[undef]at h
 |some v=>rw[hc]at h;simp at h;rw[h]
theorem TA{t:Array Value}{i:Nat}(h:t.getD i undef=undef):t[i]? =none∨t[i]? =some undef:=by
 rw[dQ]at h;cases hc:t[i]? with
 |none=>exact .inl rfl
 |some v=>rw[hc]at h;simp at h;rw[h];exact .inr rfl
theorem ur{N:Nat}{ops:Array Oper}{d:zd}{o:Oper}{b:Bool}{r:cY}{a:Act}(h:lI ops.toList d o=some b)(n:Agree N r a)(hd:DecOk d r):
  Region.wanted o (yielded ops a.tmps)=b:=by
 unfold lI at h;unfold Region.wanted;cases hg:o.guard with
 |none=>rw[hg]at h;simp only[bQ.injEq]at h;exact h
 |some g=>
  obtain⟨j,c⟩:=g;rw[hg]at h;simp only[cd]at h;simp only;cases hj:ops[j]? with
  |none=>rw[hj]at h;cases h
  |some oj=>
   rw[hj]at h;simp only at h;cases ht:oj.dst with
   |none=>rw[ht]at h;cases h
   |some t=>
    rw[ht]at h;simp only at h;have m:yielded ops a.tmps j=(match a.tmps[t]? with|some (.bool b)=>some b|_=>none):=by
     unfold yielded;simp[hj,ht];rfl
    rw[m];rcases hd t with hx|⟨v,hv,k⟩
    ·rw[hx]at h;cases h
    ·have i:=n.look t v hv
     cases hdl:vA d t with
     |x=>rw[hdl]at h;cases h
     |t=>
      rw[hdl]at h k;simp only[bQ.injEq]at h;subst h;have:v=.bool true:=k;subst this;rw[Nj i];cases c<;>rfl
     |f=>
      rw[hdl]at h k;simp only[bQ.injEq]at h;subst h;have:v=.bool false:=k;subst this;rw[Nj i];cases c<;>rfl
     |u=>
      rw[hdl]at h k;simp only[bQ.injEq]at h;subst h;have:v=undef:=k;subst this;rcases TA i with e|e<;>rw[e]<;>cases c<;>rfl
structure Fr(W:Nat→Prop)(a0:Act)(w0:World)(a:Act)(w:World):Prop where
 tame:Tame w0 w
 defers:a.defers=a0.defers
 same:∀t,¬W t→a.tmps.getD t undef=a0.tmps.getD t undef
theorem Fr.refl(W:Nat→Prop)(a:Act)(w:World):Fr W a w a w:=⟨Tame.refl w,rfl,fun _ _=>rfl⟩
theorem Fr.put{W:Nat→Prop}{g a:Act}{i w f:World}(h:Fr W g i a w){o:Oper}(k:∀d,o.dst=some d→W d)(v:Value)(j:Tame w f):Fr W g i (a.put o.dst v) f:=by
 refine⟨h.tame.trans j,?_,fun t b=>?_⟩
 ·cases ho:o.dst<;>simp[Act.put,h.defers]
 ·cases ho:o.dst with
  |none=>exact h.same t b
  |some d=>
   have c:d≠t:=fun e=>b (e▸k d ho)
   rw[←h.same t b];simp[Act.put,f9 c]
theorem Fr.trans{W:Nat→Prop}{e f c:Act}{g d b:World}(h:Fr W e g f d)(k:Fr W f d c b):Fr W e g c b:=
 ⟨h.tame.trans k.tame,k.defers.trans h.defers,fun t a=>(k.same t a).trans (h.same t a)⟩
theorem Fr.mono{W W':Nat→Prop}{b a:Act}{c w:World}(h:Fr W b c a w)(f:∀t,W t→W' t):Fr W' b c a w:=
 ⟨h.tame,h.defers,fun t d=>h.same t fun e=>d (f t e)⟩
theorem DecOk.known{d:zd}{r:cY}(h:DecOk d r){t:Nat}{dv:DV}{v:Value}(hv:Mh dv v):DecOk ((t,dv)::d) ((t,v)::r):=fun s=>by
 by_cases e:t=s
 ·subst e
  have:vA ((t,dv)::d) t=dv:=by simp[vA]
  rw[this];exact .inr ⟨v,kV t v r,hv⟩
 ·have b:vA ((t,dv)::d) s=vA d s:=by
   have:cg t s=false:=tE.2 fun a=>e (bG a)
   show(bif cg t s then dv else vA d s)=_
   rw[this];rfl
  rw[b,jO v r e];exact h s
theorem Iz{N:Nat}{ek:Option (Kind×Kind)}{ops:Array Oper}{o:Oper}{i:Nat}{d:zd}{r:cY}{a:Act}{w:World}{b:Bool}{K:zd→cY→ad→Prop}{next:Act→World→Prop}{Q:Exit→Act→World→Prop}
  (hi:ops[i]? =some o) (s:lI ops.toList d o=some b) (k:Agree N r a) (hd:DecOk d r)
  (m:match b with
   |true=>ach P N ek o r (K (wH d o (PL d o.op))) w.heap
   |false=>EJ N o undef r fun c=>K (wH d o .u) c w.heap)
  (p:∀v g d' c,Tame w g→K d' c g.heap→Agree N c (a.put o.dst v)→DecOk d' c→next (a.put o.dst v) g):
  wpOpIn (FW ro) n P ops Q i next a w:=by
 unfold wpOpIn;rw[hi];simp only[ur s k hd];cases b with
 |true=>exact V9 m k hd fun v g c q t f e=>p v g _ c q t f e
 |false=>
  obtain⟨c,j,f,e⟩:=zM (dv:=.u) m k hd rfl;exact⟨fun _ _=>trivial,p undef w _ c (Tame.refl w) j f e⟩
theorem V8{N:Nat}{ek:Option (Kind×Kind)}{ops:List Oper}{o:Oper}{os:List Oper}{d:zd}{K:cY→ad→Prop}{r:cY}{h:ad}:Jd P N ek ops (o::os) d K r h=
 (match lI ops d o with
 |some true=>ach P N ek o r (fun a h'=>Jd P N ek ops os (wH d o (PL d o.op)) K a h') h
 |some false=>EJ N o undef r fun a=>Jd P N ek ops os (wH d o .u) K a h
 |none=>match JR ops o with
  |none=>False
  |some t=>match m0 r t with
   |some (.bool b)=>CondP b
    (MG P N ek ops o ((t,.t)::d) ((t,.bool true)::r) h fun c a h'=>Jd P N ek ops os c K a h')
    (MG P N ek ops o ((t,.f)::d) ((t,.bool false)::r) h fun c a h'=>Jd P N ek ops os c K a h')
   |_=>False):=rfl
theorem Mw{N:Nat}{ek:Option (Kind×Kind)}{ops:Array Oper}{o:Oper}{i:Nat}{d:zd}{r:cY}{a:Act}{w:World}{K:zd→cY→ad→Prop}{next:Act→World→Prop}{Q:Exit→Act→World→Prop}
  (hi:ops[i]? =some o) (f:Agree N r a) (hd:DecOk d r) (c:MG P N ek ops.toList o d r w.heap K)
  (e:∀v w' d' r',Tame w w'→K d' r' w'.heap→Agree N r' (a.put o.dst v)→DecOk d' r'→next (a.put o.dst v) w'):
  wpOpIn (FW ro) n P ops Q i next a w:=by
 unfold MG at c;cases hw:lI ops.toList d o with
 |none=>rw[hw]at c;exact c.elim
 |some b=>rw[hw]at c;exact Iz (ek:=ek) hi hw f hd (by cases b<;>exact c) e
theorem Jc{N:Nat}{ek:Option (Kind×Kind)}{ops:Array Oper}{W:Nat→Prop}(y:∀o∈ops.toList,∀d,o.dst=some d→W d){s:Act}{x:World}{K:cY→ad→Prop}{Q:Exit→Act→World→Prop}
  (u:∀r a w,Agree N r a→Fr W s x a w→K r w.heap→Q .normal a w):
  ∀(l:List Oper) (i:Nat),ops.toList.drop i=l→∀(d:zd) (r:cY) (a:Act) (w:World),Jd P N ek ops.toList l d K r w.heap→Agree N r a→DecOk d r→Fr W s x a w→
   wpOpsIn (FW ro) n P ops Q (List.range' i l.length) a w
 | [],i,_,d,r,a,w,hs,ha,hd,hf=>u r a w ha hf hs
 |o::os,i,hdr,d,r,a,w,hs,ha,hd,hf=>by
  have hi:ops[i]? =some o:=by
   rw[←cd];have:(ops.toList.drop i)[0]? =some o:=by rw[hdr];rfl
   simpa using this
  have f:o∈ops.toList:=ml (by rw[cd];exact hi);have g:ops.toList.drop (i+1)=os:=by rw[←List.tail_drop,hdr];rfl
  rw[al,List.range'_succ,wpOpsIn_cons];rw[V8]at hs;have p:∀v j e c,Tame w j→Jd P N ek ops.toList os e K c j.heap→Agree N c (a.put o.dst v)→DecOk e c→wpOpsIn (FW ro) n P ops Q (List.range' (i+1) os.length) (a.put o.dst v) j:=
   fun v j e c q z m k=>Jc y u os (i+1) g e c _ j z m k (hf.put (y o f) v q)
  cases hw:lI ops.toList d o with
  |some b=>
   rw[hw]at hs;exact Iz (ek:=ek) (K:=fun e c h'=>Jd P N ek ops.toList os e K c h') hi hw ha hd (by cases b<;>exact hs) p
  |none=>
   rw[hw]at hs;simp only at hs;split at hs
   ·exact hs.elim
   ·rename_i t q
    split at hs
    ·rename_i b hb
     cases b with
     |true=>exact Mw hi (ha.known hb) (hd.known (dv:=.t) rfl) (hs.yes rfl) p
     |false=>exact Mw hi (ha.known hb) (hd.known (dv:=.f) rfl) (hs.no rfl) p
    ·exact hs.elim
end Go.Lift
namespace Go.Lift
open Go
theorem GS(m i:Nat):tb m i=m.testBit i:=by
 have h:mh (Nat.shiftRight m i) 1=(m>>>i)&&&1:=rfl;unfold tb;rw[h,Nat.testBit_eq_decide_div_mod_eq,Nat.and_one_is_mod,Nat.shiftRight_eq_div_pow];cases hm:decide (m/2^i%2=1)with
 |true=>rw[of_decide_eq_true hm];rfl
 |false=>
  have h2:=of_decide_eq_false hm;have:m/2^i%2=0:=by omega
  rw[this];rfl
theorem rA(a b i:Nat):(dL a b).testBit i=(a.testBit i||b.testBit i):=Nat.testBit_or a b i
theorem DI(i j:Nat):(jK i).testBit j=decide (i=j):=Nat.testBit_two_pow
theorem Gv{a b:Nat}(h:cg (mh a b) 0=true)(t:Nat)(e:a.testBit t=true)(d:b.testBit t=true):False:=by
 have c:=bG h;have:(mh a b).testBit t=(a.testBit t&&b.testBit t):=kG a b t;rw[c,e,d]at this;simp at this
theorem aa2{a b:Nat}(h:cg (mh a b) a=true)(t:Nat)(d:a.testBit t=true):b.testBit t=true:=by
 have c:=bG h;have:(mh a b).testBit t=(a.testBit t&&b.testBit t):=kG a b t;rw[c,d]at this;simpa using this.symm
theorem Cx(i:Nat):∀l:List Edge,(pU l).testBit i=l.any fun e=>cg e.on i&&Region.binds .any e
 | []=>ij i
 |e::l=>by
  have b:=Cx i l;have hc:pU (e::l)=bif Region.binds .any e then dL (jK e.on) (pU l)else pU l:=rfl;rw[hc,List.any_cons,←b];cases hb:Region.binds .any e with
  |true=>
   rw[cond_true,rA,DI,Bool.and_true];congr 1
   cases hd:cg e.on i with
   |true=>simpa using bG hd
   |false=>rw[decide_eq_false_iff_not];intro a;rw[a]at hd;simp at hd
  |false=>simp
theorem EU(o:Oper)(i:Nat):(pU o.after.toList).testBit i=lZ o i:=Cx i o.after.toList
theorem D8(t:Nat):∀l:List Operand,(pa l).testBit t=true↔Operand.tmp t∈l
 | []=>by simp[show pa []=0 from rfl]
 |o::l=>by
  have a:=D8 t l;cases o with
  |tmp u=>
   have hc:pa (.tmp u::l)=dL (jK u) (pa l):=rfl;rw[hc,rA,DI,lW,a,aB];simp[eq_comm]
  |const v=>
   have hc:pa (.const v::l)=pa l:=rfl;rw[hc,a,aB];simp
  |global v=>
   have hc:pa (.global v::l)=pa l:=rfl;rw[hc,a,aB];simp
  |func v=>
   have hc:pa (.func v::l)=pa l:=rfl;rw[hc,a,aB];simp
theorem Bf(o:Oper)(t:Nat):(qX o).testBit t=true↔o.dst=some t:=by
 unfold qX;cases o.dst with
 |none=>simp
 |some d=>simp[DI]
theorem LA(ops:Array Oper)(o:Oper)(t:Nat):(rN ops.toList o).testBit t=true↔t∈o.looksAt ops:=by
 unfold rN Oper.looksAt;rw[rA,lW,D8,List.mem_append,List.mem_filterMap];refine or_congr ⟨fun h=>⟨_,h,rfl⟩,?_⟩ ?_
 ·rintro⟨x,hx,b⟩
  cases x<;>simp at b
  subst b;exact hx
 ·cases hg:o.guard with
  |none=>simp
  |some g=>
   obtain⟨j,a⟩:=g;simp only[cd];cases hj:ops[j]? with
   |none=>simp
   |some oj=>simp[Bf]
variable {P:Program} {ro:Option Nat} {n:Nat} {ops:Array Oper} {Q:Exit→Act→World→Prop}
structure MsOk(ops:Array Oper)(ms:List DM):Prop where
 am:∀(i:Nat) (o:Oper) (m:DM),ops[i]? =some o→ms[i]? =some m→∀j,m.am.testBit j=lZ o j
 lk:∀(i:Nat) (o:Oper) (m:DM),ops[i]? =some o→ms[i]? =some m→∀t,m.lk.testBit t=true↔t∈o.looksAt ops
 ds:∀(i:Nat) (o:Oper) (m:DM),ops[i]? =some o→ms[i]? =some m→∀t,m.ds.testBit t=true↔o.dst=some t
 len:ms.length=ops.size
 free:∀(i j:Nat) (m k:DM),ms[i]? =some m→ms[j]? =some k→m.fr.testBit j=true→j=i∨k.am.testBit i=true∨Gw m k=true
 nosel:∀(i:Nat) (o:Oper),ops[i]? =some o→(∀cs b,o.op≠ .select cs b)∧(∀c,o.op≠ .defer c)
theorem Ep(ops:List Oper):∀(l:List Oper) (ms:List DM),AN ops l ms=true→ms.length=l.length∧∀(i:Nat) (o:Oper) (m:DM),l[i]? =some o→ms[i]? =some m→
  m.am=pU o.after.toList∧m.lk=rN ops o∧m.ds=qX o
 | [],[],_=>⟨rfl,fun i o m h=>by simp at h⟩
 | [],_::_,h=>by cases h
 |o::l,[],h=>by cases h
 |o::l,m::ms,h=>by
  have hc:AN ops (o::l) (m::ms)=(cg (pU o.after.toList) m.am&&cg (rN ops o) m.lk&&cg (qX o) m.ds&&AN ops l ms):=rfl;rw[hc]at h;simp only[bH]at h;obtain⟨⟨⟨b,h2⟩,f⟩,d⟩:=h;obtain⟨j,e⟩:=Ep ops l ms d;refine⟨by simp[j],fun i g c a hm=>?_⟩
  cases i with
  |zero=>
   simp only[cN,bQ.injEq]at a hm;subst a;subst hm;exact⟨(bG b).symm,(bG h2).symm,(bG f).symm⟩
  |succ i=>exact e i g c (by simpa using a) (by simpa using hm)
theorem Nk(i:Nat)(m:DM):∀(l:List DM) (j0:Nat),Nl i m l j0=true→∀(j:Nat) (k:DM),l[j]? =some k→m.fr.testBit (j0+j)=true→j0+j=i∨k.am.testBit i=true∨Gw m k=true
 | [],j0,_,j,k,hk,_=>by simp at hk
 |x::l,j0,h,j,k,hk,hb=>by
  have hc:Nl i m (x::l) j0=((!(tb m.fr j0)||cg j0 i||tb x.am i||Gw m x)&&Nl i m l (ik j0)):=rfl
  rw[hc]at h;simp only[bH,lW,tD,GS]at h;cases j with
  |zero=>
   simp only[cN,bQ.injEq]at hk;subst hk;simp only[Nat.add_zero]at hb⊢;rcases h.1 with((a|a)|a)|a
   ·rw[a]at hb;cases hb
   ·exact .inl (bG a)
   ·exact .inr (.inl a)
   ·exact .inr (.inr a)
  |succ j=>
   have:=Nk i m l (j0+1) h.2 j k (by simpa using hk) (by rw[show j0+1+j=j0+(j+1) by omega];exact hb)
   rw[show j0+1+j=j0+(j+1) by omega]at this
   exact this
theorem Hi(all:List DM):∀(l:List DM) (i0:Nat),EB all l i0=true→∀(i:Nat) (m:DM),l[i]? =some m→Nl (i0+i) m all 0=true
 | [],i0,_,i,m,hm=>by simp at hm
 |x::l,i0,h,i,m,hm=>by
  have hc:EB all (x::l) i0=(Nl i0 x all 0&&EB all l (ik i0)):=rfl;rw[hc,bH]at h;cases i with
  |zero=>simp only[cN,bQ.injEq]at hm;subst hm;exact h.1
  |succ i=>
   have:=Hi all l (i0+1) h.2 i m (by simpa using hm);rw[show i0+1+i=i0+(i+1) by omega]at this
   exact this
theorem MY:∀(l:List Oper),QE l=true→∀o∈l,(∀cs b,o.op≠ .select cs b)∧(∀c,o.op≠ .defer c)
 | [],_,o,a=>by cases a
 |x::l,h,o,a=>by
  simp only[QE,bH]at h;rcases aB.1 a with rfl|a
  ·refine⟨fun cs b e=>?_,fun c e=>?_⟩
   ·rw[e]at h;cases h.1
   ·rw[e]at h;cases h.1
  ·exact MY l h.2 o a
theorem Ta{ms:List DM}(h:Il ops.toList ms=true):MsOk ops ms:=by
 have hc:Il ops.toList ms=(AN ops.toList ops.toList ms&&EB ms ms 0&&QE ops.toList):=rfl;rw[hc]at h;simp only[bH]at h;obtain⟨⟨c,h2⟩,d⟩:=h;obtain⟨f,b⟩:=Ep ops.toList ops.toList ms c;refine⟨fun i o m a hm j=>?_,fun i o m a hm t=>?_,fun i o m a hm t=>?_,by simpa using f,fun i j m k hm e g=>?_,fun i o a=>?_⟩
 ·rw[(b i o m (by simpa using a) hm).1,EU]
 ·rw[(b i o m (by simpa using a) hm).2.1,LA]
 ·rw[(b i o m (by simpa using a) hm).2.2,Bf]
 ·have:=Hi ms ms 0 h2 i m hm
  rw[aQ]at this;have:=Nk i m ms 0 this j k e (by rwa [aQ]);rwa [aQ]at this
 ·exact MY _ d o (ml (by rw[cd];exact a))
theorem Zr{ms:List DM}(hm:MsOk ops ms){i j:Nat}{b c:Oper}{g f:DM}(hi:ops[i]? =some b) (k:ops[j]? =some c) (e:ms[i]? =some g) (a:ms[j]? =some f) (h:Gw g f=true):
  (∀d,b.dst=some d→d∉c.looksAt ops)∧(∀d,b.dst=some d→c.dst≠some d)∧(∀d,c.dst=some d→d∉b.looksAt ops):=by
 unfold Gw at h;rw[bH]at h;refine⟨fun d hd m=>?_,fun d hd n=>?_,fun d hd m=>?_⟩
 ·exact Gv h.1 d ((hm.ds i b g hi e d).2 hd) (by rw[rA,(hm.lk j c f k a d).2 m,Bool.true_or])
 ·exact Gv h.1 d ((hm.ds i b g hi e d).2 hd) (by rw[rA,(hm.ds j c f k a d).2 n,Bool.or_true])
 ·exact Gv h.2 d ((hm.ds j c f k a d).2 hd) ((hm.lk i b g hi e d).2 m)
structure LsRel(ops:Array Oper)(ls:Nat)(listed:Array Bool):Prop where
 size:listed.size=ops.size
 bit:∀j,listed.getD j false=ls.testBit j
theorem LsRel.start:LsRel ops 0 (vt ops.size false):=⟨by simp,fun j=>by
 rw[ij,dQ]
 by_cases h:j<ops.size<;>simp[h]⟩
theorem LsRel.put{ls:Nat}{listed:Array Bool}(h:LsRel ops ls listed){i:Nat}(hi:i<ops.size):LsRel ops (dL ls (jK i)) (listed.setIfInBounds i true):=by
 refine⟨by simp[h.size],fun j=>?_⟩
 rw[rA,DI,←h.bit];by_cases e:i=j
 ·subst e;simp[h.size,hi]
 ·simp[e,f9 e]
theorem LsRel.unlisted{ls:Nat}{listed:Array Bool}(h:LsRel ops ls listed){i:Nat}(hi:i<ops.size):listed.getD i true=ls.testBit i:=by
 rw[←h.bit];have:i<listed.size:=by rw[h.size];exact hi
 simp[this]
theorem ML{ms:List DM}(hm:MsOk ops ms){ls:Nat}{listed:Array Bool}(h:LsRel ops ls listed){j:Nat}:j∈Region.ready .any ops listed↔∃m,ms[j]? =some m∧ls.testBit j=false∧MM m ls=true:=by
 rw[mem_ready];constructor
 ·rintro⟨k,o,n,d⟩
  have a:j<ops.size:=(cV.1 n).1;have g:j<ms.length:=by rw[hm.len];exact a
  refine⟨ms[j],ae g,by rw[←h.unlisted a];exact k,?_⟩
  unfold MM;have:mh (ms[j]).am ls=(ms[j]).am:=by
   apply Nat.eq_of_testBit_eq;intro t;have c:(mh (ms[j]).am ls).testBit t=((ms[j]).am.testBit t&&ls.testBit t):=kG _ _ t;rw[c];cases ht:(ms[j]).am.testBit t with
   |false=>rfl
   |true=>
    rw[hm.am j o _ n (ae g)]at ht;unfold lZ at ht;obtain⟨e,i,f⟩:=cA.1 ht;simp only[bH]at f;have:=d e (by simpa using i) f.2;rw[bG f.1,h.bit]at this;rw[this];rfl
  rw[this];exact vX _
 ·rintro⟨m,b,k,p⟩
  have a:j<ops.size:=by rw[←hm.len];exact(bJ.1 b).1
  refine⟨by rw[h.unlisted a];exact k,ops[j],gH a,fun e i f=>?_⟩
  rw[h.bit];refine aa2 p e.on ?_;rw[hm.am j _ m (gH a) b];unfold lZ;exact cA.2 ⟨e,by simpa using i,by simp[f]⟩
theorem wt(ls:Nat):∀(l:List DM) (j0 j:Nat),j∈pi ls l j0↔∃k m,l[k]? =some m∧j=j0+k∧ls.testBit j=false∧MM m ls=true
 | [],j0,j=>by simp[show pi ls [] j0= []from rfl]
 |m::l,j0,j=>by
  have hc:pi ls (m::l) j0=bif !(tb ls j0)&&MM m ls then j0::pi ls l (ik j0)else pi ls l (ik j0):=rfl;have d:=wt ls l (j0+1) j;rw[hc,GS];have step:(∃k b,(m::l)[k]? =some b∧j=j0+k∧ls.testBit j=false∧MM b ls=true)↔(j=j0∧ls.testBit j0=false∧MM m ls=true)∨j∈pi ls l (j0+1):=by
   rw[d];constructor
   ·rintro⟨k,b,c,rfl,a,h2⟩
    cases k with
    |zero=>simp only[cN,bQ.injEq]at c;subst c;exact .inl ⟨rfl,a,h2⟩
    |succ k=>exact .inr ⟨k,b,by simpa using c,by omega,a,h2⟩
   ·rintro(⟨rfl,a,h2⟩|⟨k,b,c,rfl,a,h2⟩)
    ·exact⟨0,m,rfl,rfl,a,h2⟩
    ·exact⟨k+1,b,by simpa using c,by omega,a,h2⟩
  rw[step];cases hb:(!(ls.testBit j0)&&MM m ls)with
  |true=>
   simp only[bH,tD]at hb;rw[cond_true,aB];simp[hb.1,hb.2]
  |false=>
   rw[cond_false];constructor
   ·exact .inr
   ·rintro(⟨_,a,h2⟩|h)
    ·rw[a,h2]at hb;cases hb
    ·exact h
theorem r7{ms:List DM}(hm:MsOk ops ms){ls:Nat}{listed:Array Bool}(h:LsRel ops ls listed){j:Nat}:j∈Region.ready .any ops listed↔j∈pi ls ms 0:=by
 rw[ML hm h,wt];constructor
 ·rintro⟨m,a,h2,b⟩;exact⟨j,m,a,by omega,h2,b⟩
 ·rintro⟨k,m,a,rfl,h2,b⟩;exact⟨m,by simpa using a,h2,b⟩
theorem BM:∀{a b:List Nat},zr a b=true→a=b
 | [],[],_=>rfl
 | [],_::_,h=>by cases h
 |_::_,[],h=>by cases h
 |a::as,b::bs,h=>by
  simp only[zr,bH]at h;rw[bG h.1,BM h.2]
end Go.Lift
namespace Go.Lift
open Go
variable {P:Program} {ro:Option Nat} {n:Nat} {ops:Array Oper} {Q:Exit→Act→World→Prop}
theorem D7{m:Nat}{p:Nat→Bool}(hm:∀j,m.testBit j=true→p j=true):∀(l:List DM) (j0:Nat),(∀j x,l[j]? =some x→p (j0+j)=true→∀k,x.am.testBit k=true→p k=true)→∀k,(Xv m l j0).testBit k=true→p k=true
 | [],_,_,k,h=>hm k h
 |x::l,j0,hl,k,h=>by
  have hc:Xv m (x::l) j0=bif tb m j0 then dL x.am (Xv m l (ik j0))else Xv m l (ik j0):=rfl;have a:=D7 hm l (j0+1) (fun j y b c=>hl (j+1) y (by simpa using b) (by rw[show j0+(j+1)=j0+1+j by omega];exact c)) k
  rw[hc,GS]at h;cases hb:m.testBit j0 with
  |true=>
   rw[hb,cond_true,rA,lW]at h;rcases h with h|h
   ·exact hl 0 x rfl (hm _ hb) k h
   ·exact a h
  |false=>
   rw[hb,cond_false]at h;exact a h
theorem D6{m k:Nat}(h:m.testBit k=true):∀(l:List DM) (j0:Nat),(Xv m l j0).testBit k=true
 | [],_=>h
 |x::l,j0=>by
  have hc:Xv m (x::l) j0=bif tb m j0 then dL x.am (Xv m l (ik j0))else Xv m l (ik j0):=rfl;have a:=D6 h l (j0+1);rw[hc];cases tb m j0 with
  |true=>rw[cond_true,rA,lW];exact .inr a
  |false=>exact a
def Shut(ms:List DM)(listed:Array Bool):Prop:=∀j x,ms[j]? =some x→listed.getD j false=true→∀k,x.am.testBit k=true→listed.getD k false=true
theorem W5{ms:List DM}{listed:Array Bool}(c:Shut ms listed){m:Nat}(hm:∀j,m.testBit j=true→listed.getD j false=true){k:Nat}(h:(EN ms m).testBit k=true):listed.getD k false=true:=by
 have a:∀j x,ms[j]? =some x→(fun k=>listed.getD k false) (0+j)=true→∀k,x.am.testBit k=true→(fun k=>listed.getD k false) k=true:=fun j x hx b=>c j x hx (by rw[aQ]at b;exact b)
 unfold EN at h;exact D7 (p:=fun k=>listed.getD k false) (D7 (D7 (D7 hm ms 0 a) ms 0 a) ms 0 a) ms 0 a k h
theorem W4{ms:List DM}{m k:Nat}(h:m.testBit k=true):(EN ms m).testBit k=true:=by
 unfold EN;exact D6 (D6 (D6 (D6 h ms 0) ms 0) ms 0) ms 0
noncomputable abbrev rel(ms:List DM)(i:Nat)(L:vm):vm:=Eh (EN ms (O8 ms i)) L
theorem pJ{m:Nat}{x:Nat×(ad→Prop)}:∀{L:vm},x∈Eh m L↔x∈L∧tb m x.1=false
 | []=>by simp[Eh]
 |(k,S)::L=>by
  have a:=pJ (m:=m) (x:=x) (L:=L);simp only[Eh];cases hk:tb m k with
  |true=>
   rw[cond_true,a,aB];constructor
   ·exact fun h=>⟨.inr h.1,h.2⟩
   ·rintro⟨h|h,h2⟩
    ·subst h;rw[hk]at h2;cases h2
    ·exact⟨h,h2⟩
  |false=>
   rw[cond_false,aB,a,aB];constructor
   ·rintro(h|h)
    ·subst h;exact⟨.inl rfl,hk⟩
    ·exact⟨.inr h.1,h.2⟩
   ·rintro⟨h|h,h2⟩
    ·exact .inl h
    ·exact .inr ⟨h,h2⟩
def XG(ms:List DM)(ro:Option Nat)(n:Nat)(P:Program)(ops:Array Oper)(Q:Exit→Act→World→Prop):Nat→vm→Array Bool→Act→World→Prop
 |0,_,listed,a,w=>Region.ready .any ops listed= []∧Q .normal a w
 |f+1,L,listed,a,w=>(Region.ready .any ops listed= []→Q .normal a w)∧
  ∀i∈Region.ready .any ops listed,∀o,ops[i]? =some o→
   wpOpIn (FW ro) n P ops Q i (fun a' b=>(∀x∈rel ms i L,x.2 b.heap)∧XG ms ro n P ops Q f (rel ms i L) (listed.setIfInBounds i true) a' b) a w
theorem G5{o:Oper}{x:Nat×(ad→Prop)}:∀{L:vm},x∈xi o L↔x∈L∧lZ o x.1=false
 | []=>by simp[xi]
 |(k,S)::L=>by
  have a:=G5 (o:=o) (x:=x) (L:=L);simp only[xi];cases hk:lZ o k with
  |true=>
   rw[cond_true,a,aB];constructor
   ·exact fun h=>⟨.inr h.1,h.2⟩
   ·rintro⟨h|h,h2⟩
    ·subst h;rw[hk]at h2;cases h2
    ·exact⟨h,h2⟩
  |false=>
   rw[cond_false,aB,a,aB];constructor
   ·rintro(h|h)
    ·subst h;exact⟨.inl rfl,hk⟩
    ·exact⟨.inr h.1,h.2⟩
   ·rintro⟨h|h,h2⟩
    ·exact .inl h
    ·exact .inr ⟨h,h2⟩
theorem Wg{listed:Array Bool}{i:Nat}(h:i∈Region.ready .any ops listed):∃o,ops[i]? =some o:=by
 obtain⟨_,o,a,_⟩:=mem_ready.1 h;exact⟨o,a⟩
theorem UL{ms:List DM}:∀(f:Nat) (L:vm) (listed:Array Bool) (a:Act) (w:World),XG ms ro n P ops Q f L listed a w→wpAnyIn (FW ro) n P .any ops Q f listed a w
 |0,_,_,_,_,h=>h
 |f+1,L,listed,a,w,h=>⟨h.1,fun i hi=>by
  obtain⟨o,c⟩:=Wg hi
  exact wpOpIn_mono (fun a' b h'=>UL f _ _ a' b h'.2) (h.2 i hi o c)⟩
theorem Az{ms:List DM}:∀(f:Nat) (L L':vm) (listed:Array Bool) (a:Act) (w:World),(∀x∈L',x∈L∨∀h,x.2 h)→XG ms ro n P ops Q f L listed a w→XG ms ro n P ops Q f L' listed a w
 |0,_,_,_,_,_,_,h=>h
 |f+1,L,L',listed,a,w,hs,h=>⟨h.1,fun i hi o c=>by
  have b:∀x∈rel ms i L',x∈rel ms i L∨∀h,x.2 h:=fun x hx=>(hs x (pJ.1 hx).1).imp (fun h=>pJ.2 ⟨h,(pJ.1 hx).2⟩) id
  exact wpOpIn_mono (fun a' d h'=>⟨fun x hx=>(b x hx).elim (h'.1 x) fun h=>h _,Az f _ _ _ a' d b h'.2⟩) (h.2 i hi o c)⟩
def YG(P:Program)(ops:Array Oper)(S:ad→Prop)(o:Oper)(v:Value)(a:Act):Prop:=
 (Region.wanted o (yielded ops a.tmps)=true∧∀w:World,S w.heap→(execOp a.eval o).run P w=.ok (.value v) w)∨
 (Region.wanted o (yielded ops a.tmps)=false∧v=undef)
theorem YG.wpOp{S:ad→Prop}{i:Nat}{o:Oper}{v:Value}{a:Act}(hi:ops[i]? =some o) (hd:∀c,o.op≠ .defer c) (e:YG P ops S o v a) {K:Act→World→Prop} {w:World} (d:S w.heap)
  (h:K (a.put o.dst v) w):wpOpIn (FW ro) n P ops Q i K a w:=by
 unfold wpOpIn;simp only[hi];rcases e with⟨b,hv⟩|⟨b,rfl⟩
 ·simp only[b,if_true]
  refine⟨fun _ _=>trivial,?_⟩
  rw[Oper.semAt_eq _ _ _ hd,hv w d];exact h
 ·simp only[b,Bool.false_eq_true,if_false];exact⟨fun _ _=>trivial,h⟩
theorem YG.of_same{S:ad→Prop}{o:Oper}{v:Value}{a a':Act}(c:YG P ops S o v a)(d:execOp a'.eval o=execOp a.eval o)
  (b:Region.wanted o (yielded ops a'.tmps)=Region.wanted o (yielded ops a.tmps)):YG P ops S o v a':=by
 unfold YG at*;rw[d,b];exact c
theorem Si{S:ad→Prop}{j:Nat}{g i:Oper}{v:Value}(C:ops[j]? =some i)
  (z:(∀d,g.dst=some d→d∉i.looksAt ops)∧(∀d,g.dst=some d→i.dst≠some d)∧(∀d,i.dst=some d→d∉g.looksAt ops))
  (q:∀cs b,g.op≠ .select cs b) (y:∀cs b,i.op≠ .select cs b) (p:∀c,i.op≠ .defer c)
  (E:∀e a w,(∀c,e=.panic c→False)∨¬Q e a w) {K:Act→World→Prop} {a:Act} {w:World}
  (k:YG P ops S g v a) (h:wpOpIn (FW ro) n P ops Q j K (a.put g.dst v) w):
  wpOpIn (FW ro) n P ops Q j (fun a' A=>YG P ops S g v a'∧K (a'.put g.dst v) A) a w:=by
 obtain⟨B,h2,t⟩:=z;have o:∀c a w,¬Q (.panic c) a w:=fun c a w D=>(E (.panic c) a w).elim (fun h=>h c rfl) fun h=>h D
 have keep:∀(a:Act),YG P ops S g v a→∀u,YG P ops S g v (a.put i.dst u):=fun a k u=>
  k.of_same (execOp_put g q a i.dst u t) (wanted_put g a i.dst u t)
 unfold wpOpIn at*;simp only[C]at*;rw[wanted_put i a g.dst v B]at h;split
 ·rename_i hw
  simp only[hw,if_true]at h;refine⟨fun _ _=>trivial,?_⟩
  have h:=h.2;rw[Oper.semAt_eq _ _ _ p,execOp_put i y a g.dst v B]at h;rw[Oper.semAt_eq _ _ _ p];generalize (execOp a.eval i).run P w=r at*;cases r with
  |ok x A=>
   cases x<;>simp only[Oper.uponIn]at h⊢
   case value u=>exact⟨keep a k u,by rw[←Act.put_comm a v u h2];exact h⟩
   case skip=>exact⟨keep a k _,by rw[←Act.put_comm a v undef h2];exact h⟩
   case defer d=>
    refine⟨(k.of_same (a':={a with defers:=d::a.defers}) rfl rfl).of_same (execOp_put g q _ i.dst undef t) (wanted_put g _ i.dst undef t),?_⟩;rw[←Act.put_comm _ v undef h2,←Act.put_defers];exact h
   case enter f args=>
    refine⟨h.1,CallsIn.mono h.2 fun e s m=>?_⟩
    cases e with
    |returned u=>exact⟨keep a k u,by rw[←Act.put_comm a v u h2];exact m⟩
    |panicked c=>exact(o _ _ _ m).elim
    |outgrown=>exact m
   case row row args=>exact⟨h.1,RowsIn.mono h.2 fun u s m=>⟨keep a k u,by rw[←Act.put_comm a v u h2];exact m⟩⟩
   case round l f tmps assign body=>
    refine⟨h.1,RoundIn.mono h.2 fun e s m=>?_⟩
    cases e with
    |returned u=>exact⟨keep a k u,by rw[←Act.put_comm a v u h2];exact m⟩
    |panicked c=>exact(o _ _ _ m).elim
    |outgrown=>exact m
  |halt x A=>
   cases x<;>simp only[Oper.uponIn]at h⊢
   case panic u=>exact(o _ _ _ h).elim
 ·rename_i hw
  simp only[hw]at h;exact⟨fun _ _=>trivial,keep a k _,by rw[←Act.put_comm a v undef h2];exact h.2⟩
theorem VJ{ms:List DM}(hm:MsOk ops ms){i:Nat}{o:Oper}(a:ops[i]? =some o) (k:Nat):(O8 ms i).testBit k=lZ o k:=by
 have hi:i<ms.length:=by rw[hm.len];exact(cV.1 a).1
 unfold O8;rw[ae hi];exact hm.am i o _ a (ae hi) k
theorem Qh{ms:List DM}(hm:MsOk ops ms){listed:Array Bool}{j:Nat}(g:j∈Region.ready .any ops listed)(k:Nat)(b:(O8 ms j).testBit k=true):listed.getD k false=true:=by
 obtain⟨_,o,f,a⟩:=mem_ready.1 g;rw[VJ hm f]at b;unfold lZ at b;obtain⟨e,d,c⟩:=cA.1 b;simp only[bH]at c;have:=a e (by simpa using d) c.2;rw[bG c.1]at this;exact this
theorem QY{listed:Array Bool}{j k:Nat}(h:listed.getD k false=true):(listed.setIfInBounds j true).getD k false=true:=by
 by_cases e:j=k
 ·subst e
  rw[dQ]at h⊢;rcases bZ j listed.size with h'|h'
  ·simp[h']
  ·simp[nL h']at h
 ·rw[dQ,f9 e,←dQ]
  exact h
theorem Shut.put{ms:List DM}(hm:MsOk ops ms){listed:Array Bool}(d:Shut ms listed){j:Nat}(c:j∈Region.ready .any ops listed):Shut ms (listed.setIfInBounds j true):=by
 intro i x hx b k a;by_cases e:j=i
 ·subst e
  refine QY (Qh hm c k ?_);unfold O8;rw[hx];exact a
 ·rw[dQ,f9 e,←dQ]at b
  exact QY (d i x hx b k a)
theorem IA{ms:List DM}(hm:MsOk ops ms){S:ad→Prop}{i:Nat}{y:Oper}{v:Value}(hi:ops[i]? =some y) (m:∀(j:Nat) (o:Oper),ops[j]? =some o→(∀cs b,o.op≠ .select cs b)∧(∀c,o.op≠ .defer c))
  (W:∀e a w,(∀c,e=.panic c→False)∨¬Q e a w):
  ∀(fuel:Nat) (L:vm) (listed:Array Bool) (a:Act) (w:World),
   (∀j s,ops[j]? =some s→j≠i→listed.getD j true=false→lZ s i=false→
    (∀d,y.dst=some d→d∉s.looksAt ops)∧(∀d,y.dst=some d→s.dst≠some d)∧(∀d,s.dst=some d→d∉y.looksAt ops))→
   Shut ms listed→i∈Region.ready .any ops listed→YG P ops S y v a→S w.heap→(∀x∈L,x.2 w.heap)→
   XG ms ro n P ops Q fuel ((i,S)::L) (listed.setIfInBounds i true) (a.put y.dst v) w→XG ms ro n P ops Q (fuel+1) L listed a w:=by
 intro fuel;induction fuel with
 |zero=>
  intro L listed a w _ _ z O V R H;refine⟨fun h=>(by rw[h]at z;cases z),fun j D s f=>?_⟩
  by_cases g:j=i
  ·subst g
   rw[hi]at f;cases f;exact O.wpOp hi (m _ _ hi).2 V ⟨fun x hx=>R x (pJ.1 hx).1,H⟩
  ·have:=ready_mono D g
   rw[H.1]at this;cases this
 |succ fuel ih=>
  intro L listed a w q E z O V R H;refine⟨fun h=>(by rw[h]at z;cases z),fun j D s f=>?_⟩
  by_cases g:j=i
  ·subst g
   rw[hi]at f;cases f;exact O.wpOp hi (m _ _ hi).2 V ⟨fun x hx=>R x (pJ.1 hx).1,Az _ _ _ _ _ _ (fun x hx=>.inl (aC _ (pJ.1 hx).1)) H⟩
  ·have p:=H.2 j (ready_mono D g) s f
   obtain⟨B,X,A,J⟩:=mem_ready.1 D;rw[f]at A;cases A;have F:lZ s i=false:=by
    cases t:lZ s i with
    |false=>rfl
    |true=>
     unfold lZ at t;obtain⟨e,Y,t⟩:=cA.1 t;simp only[bH]at t;have p:=J e (by simpa using Y) t.2;rw[bG t.1]at p;have M:=(mem_ready.1 z).1;rcases bZ i listed.size with h'|h'
     ·simp[h']at M p;rw[M]at p;cases p
     ·simp[nL h']at p
   have C:tb (EN ms (O8 ms j)) i=false:=by
    cases t:tb (EN ms (O8 ms j)) i with
    |false=>rfl
    |true=>
     rw[GS]at t;have p:=W5 E (Qh hm D) t;have M:=(mem_ready.1 z).1;rcases bZ i listed.size with h'|h'
     ·simp[h']at M p;rw[M]at p;cases p
     ·simp[nL h']at p
   have I:rel ms j ((i,S)::L)=(i,S)::rel ms j L:=by simp only[rel,Eh,C,cond_false]
   rw[I]at p;have h2:=Si f (q j s f g B F) (m _ _ hi).1 (m _ _ f).1 (m _ _ f).2 W O p;have u:∀k ok,ops[k]? =some ok→k≠i→(listed.setIfInBounds j true).getD k true=false→lZ ok i=false→
     (∀d,y.dst=some d→d∉ok.looksAt ops)∧(∀d,y.dst=some d→ok.dst≠some d)∧(∀d,ok.dst=some d→d∉y.looksAt ops):=fun k ok Z T N U=>by
    refine q k ok Z T ?_ U;by_cases G:j=k
    ·subst G;exact B
    ·rw[getD_set_ne true G]at N;exact N
   refine wpOpIn_mono (fun a' w' K=>⟨fun x hx=>K.2.1 x (aC _ hx),ih (rel ms j L) (listed.setIfInBounds j true) a' w' u (E.put hm D) (ready_mono z (Ne.symm g)) K.1 (K.2.1 _ (av ..)) (fun x hx=>K.2.1 x (aC _ hx)) ?_⟩) h2
   rw[Array.setIfInBounds_comm _ _ g];exact K.2.2
theorem zu{h:ad}{R:Prop}:∀{L:vm},yE L h R↔(∀x∈L,x.2 h)∧R
 | []=>by simp[yE]
 |(k,S)::L=>by
  simp only[yE,zu (L:=L),aB,forall_eq_or_imp,and_assoc]
theorem XF{ms:List DM}{f:Nat}{L:vm}{listed:Array Bool}{a:Act}{w:World}(b:Region.ready .any ops listed= [])(h:Q .normal a w):XG ms ro n P ops Q f L listed a w:=by
 cases f with
 |zero=>exact⟨b,h⟩
 |succ f=>exact⟨fun _=>h,by rw[b];simp⟩
def left(ops:Array Oper)(ls:Nat):Nat:=((List.range ops.size).filter fun j=> !ls.testBit j).length
theorem Eu{ls i:Nat}(hi:i<ops.size)(g:ls.testBit i=false):left ops (dL ls (jK i))+1=left ops ls:=by
 have key:∀l:List Nat,l.Nodup→i∈l→(l.filter fun j=> !(dL ls (jK i)).testBit j).length+1=(l.filter fun j=> !ls.testBit j).length:=by
  intro l;induction l with
  |nil=>intro _ h;cases h
  |cons x l ih=>
   intro d hm;rw[List.nodup_cons]at d;by_cases hx:x=i
   ·subst hx
    have a:(l.filter fun j=> !(dL ls (jK x)).testBit j)=l.filter fun j=> !ls.testBit j:=by
     apply List.filter_congr;intro y f;have:x≠y:=fun e=>d.1 (e▸f)
     rw[rA,DI,decide_eq_false this,Bool.or_false]
    have b:(dL ls (jK x)).testBit x=true:=by rw[rA,DI];simp
    rw[bW,bW,b,g,a];rfl
   ·have c:i∈l:=by rcases aB.1 hm with h|h;exact absurd h.symm hx;exact h
    have b:(dL ls (jK i)).testBit x=ls.testBit x:=by rw[rA,DI,decide_eq_false (Ne.symm hx),Bool.or_false]
    have:=ih d.2 c;rw[bW,bW,b];cases ls.testBit x with
    |true=>exact this
    |false=>exact congrArg (· +1) this
 exact key _ List.nodup_range (List.mem_range.2 hi)
theorem WV{N:Nat}{a:List Oper}{ms:List DM}{ls:Nat}{L:vm}{d:zd}{K:cY→ad→Prop}{r:cY}{b:ad}:∀{l:DA},qx P N a ms l true ls L d K r b→∃i,i∈Gg l
 | .done,h=>h.elim
 | .take i rest,h=>by
  exfalso;have hc:qx P N a ms (.take i rest) true ls L d K r b=(match a[i]?,ms[i]? with|some _,some _=>False|_,_=>False):=rfl
  rw[hc]at h;split at h<;>exact h
 | .all _,h=>h.elim
 | .pick i _ _,_=>⟨i,av ..⟩
 | .last i _,_=>⟨i,av ..⟩
 | .lastT i _,_=>⟨i,av ..⟩
 | .split ..,h=>h.elim
def Ux(ro:Option Nat)(n:Nat)(P:Program)(ops:Array Oper)(Q:Exit→Act→World→Prop)(N:Nat)(ms:List DM)(W:Nat→Prop)(e:Act)(f:World)(K:cY→ad→Prop)(b:DA):Prop:=
 ∀(m:Bool) (ls:Nat) (L:vm) (d:zd) (r:cY) (a:Act) (w:World) (listed:Array Bool) (fuel:Nat),
  qx P N ops.toList ms b m ls L d K r w.heap→Agree N r a→DecOk d r→Fr W e f a w→LsRel ops ls listed→Shut ms listed→(∀x∈L,x.2 w.heap)→
  (m=false→left ops ls≤fuel→XG ms ro n P ops Q fuel L listed a w)∧
  (m=true→left ops ls≤fuel+1→∀i∈Gg b,i∈pi ls ms 0→∀o,ops[i]? =some o→
   wpOpIn (FW ro) n P ops Q i (fun a' c=>(∀x∈rel ms i L,x.2 c.heap)∧XG ms ro n P ops Q fuel (rel ms i L) (listed.setIfInBounds i true) a' c) a w)
theorem P8{N:Nat}{ms:List DM}(hm:MsOk ops ms){W:Nat→Prop}(hW:∀o∈ops.toList,∀d,o.dst=some d→W d){a0:Act}{w0:World}{K:cY→ad→Prop}
  (hQ:∀r a w,Agree N r a→Fr W a0 w0 a w→K r w.heap→Q .normal a w)(hnp:∀e a w,(∀c,e=.panic c→False)∨¬Q e a w)(da:DA):
  Ux ro n P ops Q N ms W a0 w0 K da:=by
 have one:∀(i:Nat) (g:DA)
   (_:Ux ro n P ops Q N ms W a0 w0 K g)
   (ls:Nat) (L:vm) (d:zd) (r:cY) (a:Act) (w:World) (listed:Array Bool) (fuel:Nat),
   Wa P N ops.toList i L d r w.heap (fun L' X B h'=>qx P N ops.toList ms g false (dL ls (jK i)) L' X K B h')→Agree N r a→DecOk d r→Fr W a0 w0 a w→LsRel ops ls listed→Shut ms listed→
   left ops ls≤fuel+1→i∈pi ls ms 0→∀o,ops[i]? =some o→
    wpOpIn (FW ro) n P ops Q i (fun a' Y=>(∀x∈rel ms i L,x.2 Y.heap)∧XG ms ro n P ops Q fuel (rel ms i L) (listed.setIfInBounds i true) a' Y) a w:=by
  intro i g R ls L d r a w listed fuel f z hd D y p s hr o u;have A:i<ops.size:=(cV.1 u).1;obtain⟨k,mm,hk,hki,H,_⟩:=(wt ls ms 0 i).1 hr;unfold Wa at f;rw[cd,u]at f;simp only at f;cases hw:lI ops.toList d o with
  |none=>rw[hw]at f;exact f.elim
  |some b=>
   rw[hw]at f;cases b with
   |false=>exact f.elim
   |true=>
    simp only at f;cases hq:Ah P o.op with
    |true=>rw[hq]at f;exact f.elim
    |false=>
     rw[hq,cond_false]at f;unfold wpOpIn;rw[u];simp only[ur hw z hd,if_true];refine xe (AA f) (FO z f) ?_;intro v Y ht hK;obtain⟨B,F,I,G⟩:=zM (dv:=.x) hK z hd trivial;obtain⟨hh,hs'⟩:=zu.1 F;have C:o∈ops.toList:=ml (by rw[cd];exact u);have O:=Eu A H;have V:∀x∈rel ms i L,x∈xi o L:=fun x hx=>G5.2 ⟨(pJ.1 hx).1,by
      cases hb:lZ o x.1 with
      |false=>rfl
      |true=>
        have:=(pJ.1 hx).2
        rw[GS,W4 (by rw[VJ hm u];exact hb)]at this;cases this⟩
     exact⟨fun x hx=>hh x (V x hx),Az _ _ _ _ _ _ (fun x hx=>.inl (V x hx)) ((R false _ _ _ B _ Y _ fuel hs' I G (D.put (hW o C) v ht) (y.put A) (p.put hm ((r7 hm y).2 hr)) hh).1 rfl (by omega))⟩
 have oneT:∀(i:Nat) (g:DA)
   (_:Ux ro n P ops Q N ms W a0 w0 K g)
   (ls:Nat) (L:vm) (d:zd) (r:cY) (a:Act) (w:World) (listed:Array Bool) (fuel:Nat),
   U3 P N ops.toList ms i L d r w.heap (fun L' X B h'=>qx P N ops.toList ms g false (dL ls (jK i)) L' X K B h')→Agree N r a→DecOk d r→Fr W a0 w0 a w→LsRel ops ls listed→Shut ms listed→
   left ops ls≤fuel+1→i∈pi ls ms 0→∀o,ops[i]? =some o→
    wpOpIn (FW ro) n P ops Q i (fun a' Y=>(∀x∈rel ms i L,x.2 Y.heap)∧XG ms ro n P ops Q fuel (rel ms i L) (listed.setIfInBounds i true) a' Y) a w:=by
  intro i g R ls L d r a w listed fuel f z hd D y p s hr o u;have A:i<ops.size:=(cV.1 u).1;obtain⟨k,mm,hk,hki,H,_⟩:=(wt ls ms 0 i).1 hr;unfold U3 at f;rw[cd,u]at f;simp only at f;cases hw:lI ops.toList d o with
  |none=>rw[hw]at f;exact f.elim
  |some b=>
   rw[hw]at f;cases b with
   |false=>exact f.elim
   |true=>
    simp only at f;cases hq:Ah P o.op with
    |true=>rw[hq]at f;exact f.elim
    |false=>
     rw[hq,cond_false]at f;unfold wpOpIn;rw[u];simp only[ur hw z hd,if_true];refine xe (AA f) (FO z f) ?_;intro v Y ht hK;obtain⟨B,F,I,G⟩:=zM (dv:=.x) hK z hd trivial;obtain⟨hh,hs'⟩:=zu.1 F;have C:o∈ops.toList:=ml (by rw[cd];exact u);have O:=Eu A H;exact⟨hh,(R false _ _ _ B _ Y _ fuel hs' I G (D.put (hW o C) v ht) (y.put A) (p.put hm ((r7 hm y).2 hr)) hh).1 rfl (by omega)⟩
 induction da with
 |done=>
  intro m ls L d r a w listed fuel f z hd D y p J;cases m with
  |true=>exact f.elim
  |false=>
   refine⟨fun _ _=>?_,fun h=>by cases h⟩
   have hc:qx P N ops.toList ms .done false ls L d K r w.heap=bif zr (pi ls ms 0) []then K r w.heap else False:=rfl;rw[hc]at f;cases hb:zr (pi ls ms 0) []with
   |false=>rw[hb]at f;exact f.elim
   |true=>
    rw[hb]at f;have hnil:Region.ready .any ops listed= []:=by
     apply List.eq_nil_iff_forall_not_mem.2;intro j E;rw[r7 hm y,BM hb]at E;cases E
    exact XF hnil (hQ r a w z D f)
 |take i g R=>
  intro m ls L d r a w listed fuel f z hd D y p J;cases m with
  |true=>
   exfalso;have hc:qx P N ops.toList ms (.take i g) true ls L d K r w.heap=(match ops.toList[i]?,ms[i]? with|some _,some _=>False|_,_=>False):=rfl
   rw[hc]at f;split at f<;>exact f
  |false=>
   refine⟨fun _ s=>?_,fun h=>by cases h⟩
   have hc:qx P N ops.toList ms (.take i g) false ls L d K r w.heap=(match ops.toList[i]?,ms[i]? with
    |some o,some mi=>bif IR mi i ls ops.toList.length then
      (match lI ops.toList d o with
       |none=>False
       |some false=>EJ N o undef r fun B=>qx P N ops.toList ms g false (dL ls (jK i)) L (wH d o .u) K B w.heap
       |some true=>bif Ah P o.op then
          F4 P none o.op r (fun v S=>EJ N o v r fun B=>match S with
            |none=>qx P N ops.toList ms g false (dL ls (jK i)) L (wH d o (PL d o.op)) K B w.heap
            |some S=>qx P N ops.toList ms g false (dL ls (jK i)) ((i,S)::L) (wH d o (PL d o.op)) K B w.heap) w.heap
          else False)
     else False
    |_,_=>False):=rfl
   rw[hc]at f;split at f
   ·rename_i o mi u hmi
    rw[cd]at u;cases htk:IR mi i ls ops.toList.length with
    |false=>rw[htk]at f;exact f.elim
    |true=>
     rw[htk,cond_true]at f;unfold IR at htk;simp only[bH,tD,GS]at htk;obtain⟨⟨hun,Z⟩,hfr⟩:=htk;have A:i<ops.size:=(cV.1 u).1;have q:i∈Region.ready .any ops listed:=(ML hm y).2 ⟨mi,hmi,hun,Z⟩;have O:=Eu (ops:=ops) A hun;obtain⟨U,rfl⟩:∃U,fuel=U+1:=⟨fuel-1,by omega⟩
     have C:o∈ops.toList:=ml (by rw[cd];exact u);have hcov:∀j,j<ops.size→ls.testBit j=true∨mi.fr.testBit j=true:=by
      intro j E;have h0:=bG hfr;have hpb:(BB (jK ops.toList.length)).testBit j=true:=by
        have:BB (jK ops.toList.length)=2^ops.toList.length-1:=rfl;rw[this,Nat.testBit_two_pow_sub_one];simpa using E
      have hand:(mh (dL ls mi.fr) (BB (jK ops.toList.length))).testBit j=((dL ls mi.fr).testBit j&&(BB (jK ops.toList.length)).testBit j):=kG _ _ j;rw[h0,hpb,Bool.and_true,rA]at hand;exact(Bool.or_eq_true_iff).1 hand.symm
     have M:∀j oj,ops[j]? =some oj→j≠i→listed.getD j true=false→lZ oj i=false→
        (∀d,o.dst=some d→d∉oj.looksAt ops)∧(∀d,o.dst=some d→oj.dst≠some d)∧(∀d,oj.dst=some d→d∉o.looksAt ops):=by
      intro j oj hoj hne hju hna;have E:j<ops.size:=(cV.1 hoj).1;rw[y.unlisted E]at hju;have hjm:j<ms.length:=by rw[hm.len];exact E
      have hmj:=ae hjm;rcases hcov j E with h|h
      · rw[h]at hju;cases hju
      · rcases hm.free i j mi _ hmi hmj h with h|h|h
        ·exact absurd h hne
        ·rw[hm.am j oj _ hoj hmj,hna]at h;cases h
        ·exact Zr hm u hoj hmi hmj h
     cases hw:lI ops.toList d o with
     |none=>rw[hw]at f;exact f.elim
     |some b=>
      rw[hw]at f;have hwd:=ur hw z hd;cases b with
      |false=>
        obtain⟨B,F,I,G⟩:=zM (dv:=.u) f z hd rfl;have hy:YG P ops (fun _=>True) o undef a:=.inr ⟨hwd,rfl⟩
        refine IA hm u hm.nosel hnp U L listed a w M p q hy trivial J ?_;refine Az _ L _ _ _ _ (fun x hx=>(aB.1 hx).elim (fun e=>.inr fun h=>by rw[e];trivial) .inl) ?_
        exact(R false _ _ _ B _ w _ U F I G (D.put (hW o C) undef (Tame.refl w)) (y.put A) (p.put hm q) J).1 rfl (by omega)
      |true=>
        simp only at f;cases hq:Ah P o.op with
        |false=>rw[hq]at f;exact f.elim
        |true=>
         rw[hq,cond_true]at f;obtain⟨v,S,hK,hS,hdv,hrun⟩:=MO z f d hd;obtain⟨B,F,I,G⟩:=zM hK z hd hdv;have hfr':=D.put (hW o C) v (Tame.refl w);cases S with
         |none=>
           have hy:YG P ops (fun _=>True) o v a:=.inl ⟨hwd,fun w _=>hrun w trivial⟩
           refine IA hm u hm.nosel hnp U L listed a w M p q hy trivial J ?_;refine Az _ L _ _ _ _ (fun x hx=>(aB.1 hx).elim (fun e=>.inr fun h=>by rw[e];trivial) .inl) ?_
           exact(R false _ _ _ B _ w _ U F I G hfr' (y.put A) (p.put hm q) J).1 rfl (by omega)
         |some S=>
           have hy:YG P ops S o v a:=.inl ⟨hwd,fun w h=>hrun w h⟩
           refine IA hm u hm.nosel hnp U L listed a w M p q hy hS J ?_;exact(R false _ _ _ B _ w _ U F I G hfr' (y.put A) (p.put hm q) (fun x hx=>(aB.1 hx).elim (fun e=>by rw[e];exact hS) (J x))).1 rfl (by omega)
   ·exact f.elim
 |all l R=>
  intro m ls L d r a w listed fuel f z hd D y p J;cases m with
  |true=>exact f.elim
  |false=>
   refine⟨fun _ s=>?_,fun h=>by cases h⟩
   have hc:qx P N ops.toList ms (.all l) false ls L d K r w.heap=bif zr (pi ls ms 0) (Gg l)then qx P N ops.toList ms l true ls L d K r w.heap else False:=rfl;rw[hc]at f;cases hb:zr (pi ls ms 0) (Gg l)with
   |false=>rw[hb]at f;exact f.elim
   |true=>
    rw[hb,cond_true]at f;obtain⟨i,hi⟩:=WV f;rw[←BM hb]at hi;have Z:=(r7 hm y (j:=i)).2 hi;obtain⟨k,mm,hk,hki,H,_⟩:=(wt ls ms 0 i).1 hi;have A:i<ops.size:=by
     have:=(bJ.1 hk).1;rw[hm.len]at this;omega
    have O:=Eu (ops:=ops) A H;obtain⟨U,rfl⟩:∃U,fuel=U+1:=⟨fuel-1,by omega⟩
    refine⟨fun h=>(by rw[h]at Z;cases Z),fun j E o u=>?_⟩
    have hj':=(r7 hm y).1 E;exact(R true ls L d r a w listed U f z hd D y p J).2 rfl s j (by rw[←BM hb];exact hj') hj' o u
 |pick i g more ih1 ih2=>
  intro m ls L d r a w listed fuel f z hd D y p J;cases m with
  |false=>exact f.elim
  |true=>
   refine⟨fun h=>(by cases h),fun _ s j E T o u=>?_⟩
   have f:Wa P N ops.toList i L d r w.heap (fun L' X B h'=>qx P N ops.toList ms g false (dL ls (jK i)) L' X K B h')∧qx P N ops.toList ms more true ls L d K r w.heap:=f
   rcases aB.1 E with rfl|E
   ·exact one _ g ih1 ls L d r a w listed fuel f.1 z hd D y p s T o u
   ·exact(ih2 true ls L d r a w listed fuel f.2 z hd D y p J).2 rfl s j E T o u
 |last i g R=>
  intro m ls L d r a w listed fuel f z hd D y p J;cases m with
  |false=>exact f.elim
  |true=>
   refine⟨fun h=>(by cases h),fun _ s j E T o u=>?_⟩
   have f:Wa P N ops.toList i L d r w.heap (fun L' X B h'=>qx P N ops.toList ms g false (dL ls (jK i)) L' X K B h'):=f
   have hji:j=i:=aF.1 E;subst hji;exact one _ g R ls L d r a w listed fuel f z hd D y p s T o u
 |lastT i g R=>
  intro m ls L d r a w listed fuel f z hd D y p J;cases m with
  |false=>exact f.elim
  |true=>
   refine⟨fun h=>(by cases h),fun _ s j E T o u=>?_⟩
   have f:U3 P N ops.toList ms i L d r w.heap (fun L' X B h'=>qx P N ops.toList ms g false (dL ls (jK i)) L' X K B h'):=f
   have hji:j=i:=aF.1 E;subst hji;exact oneT _ g R ls L d r a w listed fuel f z hd D y p s T o u
 |split t yes no ih1 ih2=>
  intro m ls L d r a w listed fuel f z hd D y p J;cases m with
  |true=>exact f.elim
  |false=>
   refine⟨fun _ s=>?_,fun h=>by cases h⟩
   have hc:qx P N ops.toList ms (.split t yes no) false ls L d K r w.heap=(match m0 r t with
    |some (.bool b)=>CondP b (qx P N ops.toList ms yes false ls L ((t,.t)::d) K ((t,.bool true)::r) w.heap) (qx P N ops.toList ms no false ls L ((t,.f)::d) K ((t,.bool false)::r) w.heap)
    |_=>False):=rfl
   rw[hc]at f;split at f
   ·rename_i b hlk
    cases b with
    |true=>exact(ih1 false ls L _ _ a w listed fuel (f.yes rfl) (z.known hlk) (hd.known rfl) D y p J).1 rfl s
    |false=>exact(ih2 false ls L _ _ a w listed fuel (f.no rfl) (z.known hlk) (hd.known rfl) D y p J).1 rfl s
   ·exact f.elim
end Go.Lift
namespace Go.Lift
open Go
variable {P:Program} {ro:Option Nat} {n:Nat}
theorem Nb{r:cY}:∀{l:List Nat} {r0:cY},Vq r l=some r0→∀t v,m0 r0 t=some v→t∈l∧m0 r t=some v
 | [],r0,h,t,v,hv=>by cases h;cases hv
 |s::l,r0,h,t,v,hv=>by
  have h:(match m0 r s,Vq r l with|some v,some l=>some ((s,v)::l)|_,_=>none)=some r0:=h
  split at h
  ·rename_i u l' hu hl
   cases h;by_cases e:s=t
   ·subst e;rw[kV]at hv;cases hv;exact⟨av ..,hu⟩
   ·rw[jO u _ e]at hv
    have:=Nb hl t v hv;exact⟨aC _ this.1,this.2⟩
  ·cases h
theorem F9{m:Nat}{t:Nat}{v:Value}:∀{r:cY},m0 (AQ m r) t=some v→m.testBit t=false∧m0 r t=some v
 | [],h=>by cases h
 |(k,u)::r,h=>by
  have h:m0 (bif tb m k then AQ m r else(k,u)::AQ m r) t=some v:=h;cases hk:tb m k with
  |true=>
   rw[hk]at h;have:=F9 h;by_cases e:k=t
   ·subst e;rw[GS,this.1]at hk;cases hk
   ·rw[jO u _ e];exact this
  |false=>
   rw[hk]at h;have h:m0 ((k,u)::AQ m r) t=some v:=h;by_cases e:k=t
   ·subst e;rw[kV]at h⊢;rw[GS]at hk;exact⟨hk,h⟩
   ·rw[jO u _ e]at h⊢;exact F9 h
theorem FM{t:Nat}:∀{l:List Oper},(XJ l).testBit t=false→¬o8 t l=true
 | [],_,h=>by cases h
 |o::l,hm,h=>by
  have hm:(dL (qX o) (XJ l)).testBit t=false:=hm;rw[rA,pF]at hm;have h:(match o.dst with|some d=>bif cg d t then true else o8 t l|none=>o8 t l)=true:=h
  cases hd:o.dst with
  |none=>rw[hd]at h;exact FM hm.2 h
  |some d=>
   rw[hd]at h;cases e:cg d t with
   |true=>have:=(Bf o t).2 (by rw[hd,bG e]);rw[hm.1]at this;cases this
   |false=>simp only[e]at h;exact FM hm.2 h
theorem QC{a b:Option Nat}{m:Nat}(h:acH a b=some m):∃x y,a=some x∧b=some y∧m=dL x y:=by
 cases a<;>cases b<;>cases h
 exact⟨_,_,rfl,rfl,rfl⟩
theorem XI{t:Nat}(c:Code):∀{m:Nat},Cp c=some m→m.testBit t=false→¬jg t c=true:=by
 induction c with
 |skip=>intro m _ _ h;cases h
 |region id ops dr=>intro m h hm d;cases h;exact FM hm d
 |seq a b iha ihb=>
  intro m h hm d;obtain⟨x,y,hx,e,rfl⟩:=QC (show acH (Cp a) (Cp b)=some m from h)
  rw[rA,pF]at hm;have d:(bif jg t a then true else jg t b)=true:=d;cases ha:jg t a with
  |true=>exact iha hx hm.1 ha
  |false=>rw[ha]at d;exact ihb e hm.2 d
 |cond c a b iha ihb=>
  intro m h hm d;obtain⟨x,y,hx,e,rfl⟩:=QC (show acH (Cp a) (Cp b)=some m from h)
  rw[rA,pF]at hm;have d:(bif jg t a then true else jg t b)=true:=d;cases ha:jg t a with
  |true=>exact iha hx hm.1 ha
  |false=>rw[ha]at d;exact ihb e hm.2 d
 |block id b ih=>exact fun h hm=>ih h hm
 |loop b ih=>exact fun h hm=>ih h hm
 |rangeFunc _ _ _ _ _ _=>intro m h;cases h
 |scope b ih=>exact fun h hm=>ih h hm
 |_=>intro m _ _ h;cases h
theorem Agree.keep{N:Nat}{r d:cY}{a a':Act}{w g:World}{m:Nat}{c:Code}(h:Agree N r a)(hm:Cp c=some m)(b:Fr (fun t=>jg t c=true) a w a' g)(h':Agree N d a'):Agree N (AQ m r) a':=
 ⟨h'.size,fun t v hv=>by
  obtain⟨f,e⟩:=F9 hv
  rw[b.same t (XI c hm f)];exact h.look t v e⟩
theorem AC{st:St}{r:cY}{f:Ag (Dc st)→Prop}(h:GY st r f):∃t,IW r st=some (qE (Dc st) t)∧f t:=by
 unfold GY at h;split at h
 ·rename_i vs hv
  obtain⟨t,rfl,a⟩:=wG h;exact⟨t,hv,a⟩
 ·exact h.elim
theorem Agree.zip{N:Nat}{r:cY}{a:Act}(h:Agree N r a):∀{st:St} {vs:List Value} {r0:cY},IW r st=some vs→Agree N r0 a→Agree N (qS st vs r0) a
 | [],vs,r0,_,h0=>by cases vs<;>exact h0
 |(i,k)::st,vs,r0,hv,h0=>by
  unfold IW at hv;split at hv
  ·rename_i v vs' h1 h2
   cases hv;have:=Agree.zip h h2 h0;refine⟨this.size,fun t u b=>?_⟩
   by_cases e:i=t
   ·subst e
    rw[show qS ((i,k)::st) (v::vs') r0=(i,v)::qS st vs' r0 from rfl,kV]at b;cases b
    exact h.look i v h1
   ·rw[show qS ((i,k)::st) (v::vs') r0=(i,v)::qS st vs' r0 from rfl,jO v _ e]at b
    exact this.look t u b
  ·cases hv
theorem D3{t:Nat}:∀{l:List Oper} {o:Oper},o∈l→o.dst=some t→o8 t l=true
 | [],_,h,_=>by cases h
 |x::l,o,h,hd=>by
  have e:o8 t (x::l)=(match x.dst with|some d=>bif cg d t then true else o8 t l|none=>o8 t l):=rfl
  rw[e];rcases aB.1 h with rfl|h
  ·rw[hd];simp only;rw[show cg t t=true from vX t];rfl
  ·have:=D3 h hd
   cases x.dst with
   |none=>exact this
   |some d=>
    simp only;cases cg d t with
    |true=>rfl
    |false=>exact this
def LWP(ro:Option Nat)(n:Nat)(P:Program)(c:Code)(Q:Exit→Act→World→Prop)(a:Act)(w:World):Prop:=
 ∀(b:Frame) (k:List Item) (cs:List Frame),b.roundOf=(FW ro).round→(FW ro).fn b.fn→(FW ro).room (cs.length+1+n)→
  ∃e a' w',Q e a' w'∧ArrivesIn (Machine.fenced P (FW ro)) P (lone (b.atR a (.code c:: .inLoop c::k)) cs w) b k cs e a' w'
theorem LWP.step{c:Code}{Q:Exit→Act→World→Prop}{a:Act}{w:World}(h:c.wpIn (FW ro) n P (Exit.then (LWP ro n P c Q) Q) a w):LWP ro n P c Q a w:=by
 intro b k cs i q p;obtain⟨e,j,m,g,d⟩:=h b (.inLoop c::k) cs i q p;cases e with
 |normal=>
  obtain⟨t,s,u,o,f⟩:=g b k cs i q p;exact⟨t,s,u,o,.of_steps (StepsIn.trans d (.one (fenced_calm q p rfl) stepR_inLoop)) f⟩
 |exit id=>exact⟨_,j,m,g,.pass (x:=.inLoop c) rfl (fun _ _=>.inl (by simp)) d⟩
 |goto l=>exact⟨_,j,m,g,.pass (x:=.inLoop c) rfl (fun _ _=>.inl (by simp)) d⟩
 |ret=>exact⟨_,j,m,g,.pass (x:=.inLoop c) rfl (fun _ _=>.inl (by simp)) d⟩
 |panic ch=>exact⟨_,j,m,g,.pass (x:=.inLoop c) rfl (fun _ _=>.inl (by simp)) d⟩
 |outgrown=>exact⟨_,j,m,g,.pass (x:=.inLoop c) rfl (fun _ _=>.inl (by simp)) d⟩
theorem LWP.loop{c:Code}{Q:Exit→Act→World→Prop}{a:Act}{w:World}(h:LWP ro n P c Q a w):(Code.loop c).wpIn (FW ro) n P Q a w:=by
 intro b k cs f i g;obtain⟨e,a',m,j,d⟩:=h b k cs f i g;exact⟨e,a',m,j,.of_steps (.one (fenced_calm i g rfl) stepR_loop) d⟩
theorem Nu(r:cY):DecOk [] r:=fun _=>.inl rfl
theorem aaG(ops:Array Oper)(ls:Nat):left ops ls≤ops.size:=by
 unfold left;exact Nat.le_trans (List.length_filter_le ..) (by simp)
theorem pb(f:P.follows .mixedOrders=true){N id:Nat}{ops:Array Oper}{g:Bool}{v:Ann}{K:cY→ad→Prop}{r:cY}{a:Act}{w:World}{Q:Exit→Act→World→Prop}
  (b:FV P N ops.toList g v K r w.heap)(i:Agree N r a)(u:∀c a w,¬Q (.panic c) a w)
  (m:∀r' a' w',Agree N r' a'→Fr (fun t=>o8 t ops.toList=true) a w a' w'→K r' w'.heap→Q .normal a' w'):(Code.region id ops g).wpIn (FW ro) n P Q a w:=by
 have k:∀o∈ops.toList,∀d,o.dst=some d→o8 d ops.toList=true:=fun o s d hd=>D3 s hd
 cases g with
 |false=>
  have key:∀ek,Jd P N ek ops.toList ops.toList [] K r w.heap→(Code.region id ops false).wpIn (FW ro) n P Q a w:=fun ek b=>by
   refine wpIn_region ?_;rw[List.range_eq_range',show ops.size=ops.toList.length from rfl]
   exact Jc k m ops.toList 0 rfl [] r a w b i (Nu r) (Fr.refl _ a w)
  unfold FV at b;simp only at b;split at b
  ·exact key _ b
  ·exact key _ b
 |true=>
  unfold FV at b;simp only at b;generalize Vj ops.toList=ms at b;cases hm:Il ops.toList ms with
  |false=>rw[hm]at b;exact b.elim
  |true=>
   rw[hm,cond_true]at b;refine wpIn_region_any f (UL (ms:=ms) _ [] _ _ _ ?_);have p:Tame w {w with drawn:=w.drawn+1}:=⟨rfl,rfl,rfl⟩;have q:Fr (fun t=>o8 t ops.toList=true) a w a {w with drawn:=w.drawn+1}:=⟨p,rfl,fun _ _=>rfl⟩
   refine(P8 (Ta hm) k m (fun e a w=>?_) _ false 0 [] [] r a {w with drawn:=w.drawn+1} _ ops.size b i (Nu r) q LsRel.start (fun j x _ h=>by rw[(LsRel.start (ops:=ops)).bit,ij]at h;cases h) (fun x hx=>by cases hx)).1 rfl (aaG ops 0)
   cases e with
   |panic ch=>exact .inr (u _ a w)
   |_=>exact .inl fun c hc=>by cases hc
theorem Iy(t:Nat)(x y:Code):jg t (.seq x y)=(bif jg t x then true else jg t y):=rfl
theorem GQ(t:Nat)(c:Operand)(x y:Code):jg t (.cond c x y)=(bif jg t x then true else jg t y):=rfl
theorem O5{a b:Bool}:(bif a then true else b)=true↔a=true∨b=true:=by cases a<;>cases b<;>decide
theorem xg(u:P.follows .mixedOrders=true){N:Nat}(c:Code):∀(D:Ann) (Kn:cY→ad→Prop) (Kx:Ex→cY→ad→Prop) (r:cY) (a:Act) (w:World) (Q:Exit→Act→World→Prop),
  oG P N c D Kn Kx r w.heap→Agree N r a→(∀M a w,¬Q (.panic M) a w)→
  (∀j a' g,Agree N j a'→Fr (fun t=>jg t c=true) a w a' g→Kn j g.heap→Q .normal a' g)→
  (∀i j a' g,Agree N j a'→Fr (fun t=>jg t c=true) a w a' g→Kx (.exit i) j g.heap→Q (.exit i) a' g)→
  (∀j a' g,Agree N j a'→Fr (fun t=>jg t c=true) a w a' g→Kx .ret j g.heap→Q .ret a' g)→
  c.wpIn (FW ro) n P Q a w:=by
 induction c with
 |skip=>
  intro D Kn Kx r a w Q o s _ z _ _;exact wpIn_skip (z r a w s (Fr.refl ..) o)
 |region id ops dr=>
  intro D Kn Kx r a w Q o s B z _ _;cases D with
  |reg keep inner=>
   have o:FV P N ops.toList dr inner (fun j h'=>match Vq j keep with|some r0=>Kn r0 h'|none=>False) r w.heap:=o
   refine pb u o s B fun j a' g O S hk=>?_
   split at hk
   ·rename_i r0 hr0
    refine z r0 a' g ⟨O.size,fun t v hv=>O.look t v (Nb hr0 t v hv).2⟩ S hk
   ·exact hk.elim
  |nil=>exact pb u (show FV P N ops.toList dr (.nil) Kn r w.heap from o) s B z
  |node x y=>exact pb u (show FV P N ops.toList dr (.node x y) Kn r w.heap from o) s B z
  |join st x y=>exact pb u (show FV P N ops.toList dr (.join st x y) Kn r w.heap from o) s B z
  |loop st y=>exact pb u (show FV P N ops.toList dr (.loop st y) Kn r w.heap from o) s B z
  |draw d=>exact pb u (show FV P N ops.toList dr (.draw d) Kn r w.heap from o) s B z
  |kinds k v=>exact pb u (show FV P N ops.toList dr (.kinds k v) Kn r w.heap from o) s B z
  |rf ks x y=>exact pb u (show FV P N ops.toList dr (.rf ks x y) Kn r w.heap from o) s B z
 |seq x y ihx ihy=>
  intro D Kn Kx r a w Q o s B z hx F;have E:∀{a' g},Fr (fun t=>jg t x=true) a w a' g→Fr (fun t=>jg t (.seq x y)=true) a w a' g:=fun h=>h.mono fun t R=>by rw[Iy,O5];exact .inl R
  have C:∀{a' g H I},Fr (fun t=>jg t x=true) a w a' g→Fr (fun t=>jg t y=true) a' g H I→Fr (fun t=>jg t (.seq x y)=true) a w H I:=
   fun h k=>(E h).trans (k.mono fun t R=>by rw[Iy,O5];exact .inr R)
  have plain:∀V L,oG P N x V (fun j h'=>oG P N y L Kn Kx j h') Kx r w.heap→(Code.seq x y).wpIn (FW ro) n P Q a w:=fun V L o=>by
   refine wpIn_seq (ihx V _ Kx r a w _ o s (fun M a w=>B M a w) ?_ (fun i j a' g q h2 p=>hx i j a' g q (E h2) p) (fun j a' g q h2 p=>F j a' g q (E h2) p))
   intro r1 U Y G A K;exact ihy L Kn Kx r1 U Y Q K G B (fun j a' g q h2 p=>z j a' g q (C A h2) p) (fun i j a' g q h2 p=>hx i j a' g q (C A h2) p) (fun j a' g q h2 p=>F j a' g q (C A h2) p)
  cases D with
  |join st V L=>
   have o:(match Cp x with
      |none=>False
      |some m=>Join (T:=Ag (Dc st)) (fun t h'=>oG P N y L Kn Kx (qS st (qE (Dc st) t) (AQ m r)) h')
       fun J=>oG P N x V (fun j h'=>GY st j fun t=>J t h') Kx r w.heap):=o
   split at o
   ·exact o.elim
   ·rename_i m hm
    refine wpIn_seq (ihx V _ Kx r a w _ o.run s (fun M a w=>B M a w) ?_ (fun i j a' g q h2 p=>hx i j a' g q (E h2) p) (fun j a' g q h2 p=>F j a' g q (E h2) p))
    intro r1 U Y G A K;obtain⟨t,hst,hs2⟩:=AC K;have ha2:Agree N (qS st (qE (Dc st) t) (AQ m r)) U:=G.zip hst (s.keep hm A G);exact ihy L Kn Kx _ U Y Q hs2 ha2 B (fun j a' g q h2 p=>z j a' g q (C A h2) p) (fun i j a' g q h2 p=>hx i j a' g q (C A h2) p) (fun j a' g q h2 p=>F j a' g q (C A h2) p)
  |_=>exact plain _ _ o
 |cond c x y ihx ihy=>
  intro D Kn Kx r a w Q o s B z hx F;have o:(match eI r c with
   |some (.bool t)=>CondP t (oG P N x D.l Kn Kx r w.heap) (oG P N y D.r Kn Kx r w.heap)
   |_=>False):=o
  have E:∀{a' g},Fr (fun t=>jg t x=true) a w a' g→Fr (fun t=>jg t (.cond c x y)=true) a w a' g:=fun h=>h.mono fun t R=>by rw[GQ,O5];exact .inl R
  have C:∀{a' g},Fr (fun t=>jg t y=true) a w a' g→Fr (fun t=>jg t (.cond c x y)=true) a w a' g:=fun h=>h.mono fun t R=>by rw[GQ,O5];exact .inr R
  split at o
  ·rename_i t R
   refine wpIn_cond_split (ph s R) (fun e=>?_) (fun e=>?_)
   ·exact ihx _ Kn Kx r a w Q (o.yes e) s B (fun j a' g q h2 p=>z j a' g q (E h2) p) (fun i j a' g q h2 p=>hx i j a' g q (E h2) p) (fun j a' g q h2 p=>F j a' g q (E h2) p)
   ·exact ihy _ Kn Kx r a w Q (o.no e) s B (fun j a' g q h2 p=>z j a' g q (C h2) p) (fun i j a' g q h2 p=>hx i j a' g q (C h2) p) (fun j a' g q h2 p=>F j a' g q (C h2) p)
  ·exact o.elim
 |block id b ih=>
  intro D Kn Kx r a w Q o s B z hx F;refine wpIn_block (ih D Kn _ r a w _ o s (fun M a w=>B M a w) z (fun i j a' g q h2 p=>?_) F)
  simp only[Exit.inBlock]at p⊢;cases hi:cg i id with
  |true=>
   rw[hi,cond_true]at p;rw[if_pos (bG hi)];exact z j a' g q h2 p
  |false=>
   rw[hi,cond_false]at p;rw[if_neg (fun e=>by rw[e,vX]at hi;cases hi)]
   exact hx i j a' g q h2 p
 |loop b ih=>
  intro D Kn Kx r a w Q o s B z hx F;cases D with
  |loop st L=>
   have o:(match Cp b with
      |none=>False
      |some m=>GY st r fun t0=>LoopP (T:=Ag (Dc st)) (fun X t h'=>oG P N b L (fun j h''=>GY st j fun t'=>X t' h'') Kx (qS st (qE (Dc st) t) (AQ m r)) h') t0 w.heap):=o
   split at o
   ·exact o.elim
   ·rename_i m hm
    obtain⟨t0,W,hl⟩:=AC o;have h0:=hl.run (fun t h'=>∀a' g,g.heap=h'→Agree N (qS st (qE (Dc st) t) (AQ m r)) a'→Fr (fun t=>jg t b=true) a w a' g→LWP ro n P b Q a' g) (fun t h' hF a' g hw O S=>by
     subst hw
     refine LWP.step (ih L _ Kx _ a' g _ hF O (fun M a w=>B M a w) ?_ (fun i j H I q h2 p=>hx i j H I q (S.trans h2) p) (fun j H I q h2 p=>F j H I q (S.trans h2) p))
     intro r1 U Y G A K
     obtain⟨t1,Z,hk1⟩:=AC K
     exact hk1 U Y rfl (G.zip Z (s.keep hm (S.trans A) G)) (S.trans A))
    exact LWP.loop (h0 a w rfl (s.zip W (s.keep hm (Fr.refl _ a w) s)) (Fr.refl _ a w))
  |_=>exact o.elim
 |rangeFunc f params assign body _ _=>intro D Kn Kx r a w Q o;exact o.elim
 |exit id=>
  intro D Kn Kx r a w Q o s B z hx F;exact wpIn_exit (hx id r a w s (Fr.refl ..) o)
 |scope b _=>intro D Kn Kx r a w Q o;exact o.elim
 |label l=>
  intro D Kn Kx r a w Q o s B z hx F;exact wpIn_label (z r a w s (Fr.refl ..) o)
 |goto l=>intro D Kn Kx r a w Q o;exact o.elim
 |ret=>
  intro D Kn Kx r a w Q o s B z hx F;exact wpIn_ret (F r a w s (Fr.refl ..) o)
 |refuse why=>intro D Kn Kx r a w Q o;exact o.elim
end Go.Lift
namespace Go.Lift
open Go
variable {P:Program}
theorem uv{N:Nat}{r:cY}{a:Act}{w:World}(d:Agree N r a):∀{l:List ResultVar} {K:List Value→Prop},qT P r w.heap l K→
  ∃vs,(∀g:ResultVar→Sem Value,(∀t,g (.tmp t)=pure (a.tmps.getD t undef))→(∀x t,g (.cell x t)=do loadVar t (←asAddr (a.tmps.getD x undef)))→(l.mapM g).run P w=.ok vs w)∧K vs
 | [],K,h=>⟨[],fun g _ _=>by rw[List.mapM_nil];rfl,h⟩
 | .tmp t::l,K,h=>by
  unfold qT at h;split at h
  ·rename_i v hv
   obtain⟨vs,i,f⟩:=uv d h;refine⟨v::vs,fun g e c=>?_,f⟩
   rw[List.mapM_cons,e];simp only[Sem.run_bind,Sem.run_pure,Result.andThen_ok];rw[i g e c];simp only[Result.andThen_ok,d.look t v hv]
  ·exact h.elim
 | .cell x t::l,K,h=>by
  unfold qT at h;split at h
  ·rename_i v hv
   obtain⟨u,S,m,k,n⟩:=G6 h;obtain⟨vs,i,f⟩:=uv d m;refine⟨u::vs,fun g e c=>?_,f⟩
   rw[List.mapM_cons,c];have j:(do loadVar t (←asAddr (a.tmps.getD x undef)):Sem Value).run P w=.ok u w:=by
    rw[d.look x v hv];unfold Qn at h;cases v with
    |pointer p=>cases p with
     |none=>exact h.elim
     |some b=>exact n w k
    |_=>exact h.elim
   simp only[Sem.run_bind]at j⊢;rw[j];simp only[Result.andThen_ok];rw[i g e c];simp only[Sem.run_pure,Result.andThen_ok]
  ·exact h.elim
theorem MK(ks:List Kind)(t:Ag ks):(if h:(qE ks t).toArray.size=1 then(qE ks t).toArray[0]else Value.tuple (qE ks t).toArray)=Jp ks (qE ks t):=by
 match ks,t with
 | [],t=>rfl
 | [k],t=>rfl
 |k::l::ks,(x,t)=>
  have:(qE (k::l::ks) (x,t)).length=(k::l::ks).length:=xu _ _;rw[dif_neg (by simp only[ed,this,al];omega)];rfl
theorem zP:∀(vs:List Value) (i t:Nat) (v:Value),m0 (uC i vs) t=some v→i≤t∧vs[t-i]? =some v
 | [],i,t,v,h=>by cases h
 |u::vs,i,t,v,h=>by
  by_cases e:i=t
  ·subst e
   rw[show uC i (u::vs)=(i,u)::uC (i+1) vs from rfl,kV]at h
   cases h;exact⟨Nat.le_refl _,by simp⟩
  ·rw[show uC i (u::vs)=(i,u)::uC (i+1) vs from rfl,jO u _ e]at h
   obtain⟨a,h2⟩:=zP vs (i+1) t v h;refine⟨by omega,?_⟩;rw[show t-i=(t-(i+1))+1 by omega,List.getElem?_cons_succ]
   exact h2
theorem HE.intro(i:P.follows .mixedOrders=true){f:FuncId}{fn:Func}{c:Code}{p:Ann}{args:List Value}{ks:List Kind}{K:Ag ks→ad→Prop}{h:ad}
  (u:P.funcs[f]? =some fn) (x:fn.body=some c) (d:∀(args:Array Value) (w:World),(callFunc f args).run P w=.ok (.enter f args) w) (q:args.length≤fn.ntmps)
  (B:U4 P fn c p args ks K h):HE P f args ks K h:=by
 refine⟨fun w y=>⟨d,?_⟩⟩
 subst y;refine(callsIn_wide (n:=0)).1 (callsIn_of_wp (F:=FW none) u x trivial ?_ rfl);have z:Agree fn.ntmps (uC 0 args) {tmps:=args.toArray++vt (fn.ntmps-args.toArray.size) undef,defers:= []}:=by
  refine⟨by simp;omega,fun t v hv=>?_⟩
  obtain⟨_,h2⟩:=zP args 0 t v hv;simp only[fa]at h2;have k:=(bJ.1 h2).1;simp[Array.getElem?_append,k];rw[ae k]at h2;cases h2;rfl
 have j:∀m a' (b:World),Agree fn.ntmps m a'→Fr (fun t=>jg t c=true) {tmps:=args.toArray++vt (fn.ntmps-args.toArray.size) undef,defers:= []} w a' b→
   qT P m b.heap fn.results.toList (fun vs=>HU ks vs fun t=>K t b.heap)→
   a'.defers= []∧∃v,(results fn a'.tmps).run P b=.ok v b∧(Tame w b∧∃t:Ag ks,Ending.returned v=.returned (Jp ks (qE ks t))∧K t b.heap):=fun m a' b o g s=>by
  obtain⟨vs,e,hd⟩:=uv o s;obtain⟨t,rfl,A⟩:=wG hd;refine⟨g.defers,_,?_,g.tame,t,rfl,A⟩;unfold results;rw[qf];simp only[Sem.run_bind,Sem.run_map];rw[e _ (fun _=>rfl) (fun _ _=>rfl)]
  simp only[Result.andThen_ok,Sem.run_pure];rw[←MK]
 exact xg i c p _ _ _ _ w _ B z (fun C a w h=>h.2.2.elim fun _ h=>by cases h.1) j (fun _ _ _ _ _ _ h=>h.elim) j
theorem HC.intro(d:P.follows .mixedOrders=true){f:FuncId}{fn:Func}{c:Code}{j:Ann}{args:List Value}{ks:List Kind}{K:Ag ks→ad→Prop}{h:ad}
 (e:P.funcs[f]? =some fn) (i:fn.body=some c) (a:∀(args:Array Value) (w:World),(callFunc f args).run P w=.ok (.enter f args) w) (b:args.length≤fn.ntmps)
 (g:U4 P fn c j args ks K h):HC P f args ks K h:=(HE.intro d e i a b g).hc
theorem TZ{N:Nat}{args:List Value}(b:args.length≤N):Agree N (uC 0 args) {tmps:=args.toArray++vt (N-args.toArray.size) undef,defers:= []}:=by
 refine⟨by simp;omega,fun t v hv=>?_⟩
 obtain⟨_,h2⟩:=zP args 0 t v hv;simp only[fa]at h2;have a:=(bJ.1 h2).1;simp[Array.getElem?_append,a];rw[ae a]at h2;cases h2;rfl
theorem Qg{N:Nat}{fn:Func}{ks:List Kind}{K:Ag ks→ad→Prop}{d:cY}{a':Act}{b:World}(c:Agree N d a')(f:qT P d b.heap fn.results.toList (fun vs=>HU ks vs fun t=>K t b.heap)):
  ∃t:Ag ks,(results fn a'.tmps).run P b=.ok (Jp ks (qE ks t)) b∧K t b.heap:=by
 obtain⟨vs,a,hd⟩:=uv c f;obtain⟨t,rfl,e⟩:=wG hd;refine⟨t,?_,e⟩;unfold results;rw[qf];simp only[Sem.run_bind,Sem.run_map];rw[a _ (fun _=>rfl) (fun _ _=>rfl)]
 simp only[Result.andThen_ok,Sem.run_pure];rw[←MK]
end Go.Lift
namespace Go.Lift
open Go
variable {P:Program}
abbrev qg(D:Nat):Deferred:={target:=.collected D,args:= #[]}
theorem Kv{N:Nat}:∀{ps:List Nat} {vs:List Value} {r:cY} {tmps:Array Value},Dp N ps=true→Agree N r {tmps:=tmps,defers:= []}→
  Agree N (ZU ps vs r) {tmps:=(ps.zip vs).foldl (fun t x=>t.setIfInBounds x.1 x.2) tmps,defers:= []}
 | [],vs,r,tmps,_,h=>by cases vs<;>exact h
 |i::ps,[],r,tmps,_,h=>h
 |i::ps,v::vs,r,tmps,a,h=>by
  have a:(Nat.blt i N&&Dp N ps)=true:=a;rw[bH]at a;have b:i<N:=by simpa using a.1
  have:=h.put i v b;exact Kv (tmps:=tmps.setIfInBounds i v) a.2 this
theorem IQ(w:World)(o:Obj):Tame w (w.alloc o):=⟨rfl,rfl,rfl⟩
theorem rK(w:World)(b:Nat)(o:Obj):Tame w (w.putObj b o):=⟨rfl,rfl,rfl⟩
theorem Qu(w:World)(b:Nat)(o:Obj):(w.putObj b o).heap=w.heap.setIfInBounds b o:=rfl
theorem VP(ps:Array Nat)(vs:List Value)(t:Array Value):(ps.zip vs.toArray).foldl (fun t (x:Nat×Value)=>t.setIfInBounds x.1 x.2) t=(ps.toList.zip vs).foldl (fun t x=>t.setIfInBounds x.1 x.2) t:=by
 obtain⟨l⟩:=ps;simp
theorem HQ(C:P.follows .mixedOrders=true){n N:Nat}{g:Operand}{ps:Array Tmp}{assign body:Code}{aa ab:Ann}{ks:List Kind}{fv:Value}{r:cY}{a:Act}{w:World}{Q:Exit→Act→World→Prop}
  {KN:ad→Prop}{KX:Nat→ad→Prop}{KR:ad→Prop}(hps:Dp N ps.toList=true)(M:ps.toList.length=ks.length)(hg:eI r g=some fv)(Z:Agree N r a)
  (hR:RangeP P fv ks w.heap (fun MM bz x k h'=>SB P N ps.toList ks assign body (.node aa ab) r (w.heap.size+1) MM bz x k h') KN KX KR)
  (hn:∀m,Tame w m→KN m.heap→Q .normal {a with defers:=qg w.heap.size::a.defers} m)
  (hx:∀i m,Tame w m→KX i m.heap→Q (.exit i) {a with defers:=qg w.heap.size::a.defers} m)
  (hr:∀m,Tame w m→KR m.heap→Q .ret {a with defers:=qg w.heap.size::a.defers} m):(Code.rangeFunc g ps assign body).wpIn (FW none) n P Q a w:=by
 refine wpIn_rangeFunc fun fn _=>?_
 obtain⟨lo,p⟩:∃lo:LoopState→Option Ex→Obj,lo=fun s j=>.loop {state:=s,pending:=OJ j,fn,tmps:=a.tmps,params:=ps,assign,body,defers:=w.heap.size}:=⟨_,rfl⟩
 have hj:∀j:Option Ex,(OJ j).isNone=j.isNone:=fun j=>by rcases j with _|⟨_|_⟩<;>rfl
 obtain⟨f,first,cap,rfl,he⟩:=hR.run lo (fun s j=>⟨_,by rw[p]⟩) (fun x h' K u A=>by
  refine⟨.inr ⟨_,rfl,⟨fun L hw1=>?_⟩⟩⟩
  subst hw1
  rw[p]at u
  have hy:=run_yield (P:=P) (args:=(qE ks x).toArray) u (by simp only[ed,xu];rw[←M];rfl)
  refine⟨_,_,_,_,hy,fun c cs=>?_⟩
  have hA:Agree N (ZU ps.toList (qE ks x) r) {tmps:=(ps.zip (qE ks x).toArray).foldl (fun t (x:Nat×Value)=>t.setIfInBounds x.1 x.2) a.tmps,defers:= []}:=by
   rw[VP]
   exact Kv hps ⟨Z.size,Z.look⟩
  have q:∀j:Option Ex,∀W:World,Tame L W→(W.heap[w.heap.size+1]? =some (lo .busy none)∧K j.isNone (W.heap.setIfInBounds (w.heap.size+1) (lo (if j.isNone then .ready else .done) j)))→
    ∃v m,(Instr.endRound (w.heap.size+1) (OJ j)).run P W=.ok v m∧∃b,Ending.returned v=.returned (.bool b)∧Tame L m∧K b m.heap:=by
   rintro j W O ⟨h1,h2⟩
   rw[p]at h1
   have:=run_endRound (P:=P) (OJ j) h1
   refine⟨_,_,this,_,rfl,O.trans (rK ..),?_⟩
   rw[p]at h2
   rw[hj]
   exact h2
  have:=roundIn_of_wpIn (F:=FW none) (n:=0) (P:=P) (l:=w.heap.size+1) (f:=fn) (assign:=assign) (body:=body) (w:=L)
   (tmps:=(ps.zip (qE ks x).toArray).foldl (fun t (x:Nat×Value)=>t.setIfInBounds x.1 x.2) a.tmps)
   (R:=fun e m=>∃b,e=.returned (.bool b)∧Tame L m∧K b m.heap) trivial (by
    refine xg (ro:=some (w.heap.size+1)) C assign aa _ _ _ _ L _ A hA (fun ch a w h=>h) ?_ (fun i r' a' m _ _ h=>h.elim) (fun r' a' m _ _ h=>h.elim)
    rintro r2 a2 X U G ⟨z,E⟩
    rw[p]at z
    refine⟨_,run_beginRound z rfl,?_⟩
    have I:∀o,o=lo .busy none→X.heap.setIfInBounds (w.heap.size+1) o=X.heap.setIfInBounds (w.heap.size+1) (lo .busy none):=fun o T=>by rw[T]
    refine xg (ro:=some (w.heap.size+1)) C body ab (fun _ h2=>_) (fun e _ h2=>_) _ _ (X.putObj (w.heap.size+1) _) _ (by
     rw[Qu,I _ (by rw[p])];exact E) U (fun ch a w h=>h) ?_ ?_ ?_
    ·rintro r3 a3 J H y S
     exact q none J ((G.tame.trans (rK ..)).trans y.tame) S
    ·rintro i r3 a3 J H y S
     exact q (some (.exit i)) J ((G.tame.trans (rK ..)).trans y.tame) S
    ·rintro r3 a3 J H y S
     exact q (some .ret) J ((G.tame.trans (rK ..)).trans y.tame) S)
  obtain⟨e,m,⟨b,rfl,O,hK⟩,hs⟩:=this.2 c cs (fun d h=>by simp[FW]at h)
  exact⟨b,m,O,hK,hs.steps⟩)
 have B:=he.run ((w.alloc (.deferred (some []))).alloc (lo .ready none)) rfl;refine⟨w.heap.size+1,[qg w.heap.size],(w.alloc (.deferred (some []))).alloc (lo .ready none),{target:=.fn (.func f) cap,args:=first++ #[.func (.yield (w.heap.size+1)) #[] #[]]},(w.alloc (.deferred (some []))).alloc (lo .ready none),f,
  first++ #[.func (.yield (w.heap.size+1)) #[] #[]]++cap,(w.alloc (.deferred (some []))).alloc (lo .ready none),?_,?_,fun _ _=>trivial,?_,fun h=>by simp[FW]at h,?_⟩
 ·rw[p];exact run_enterLoop_outer fn a.tmps ps assign body
 ·have V:=ph Z hg
  simp[resolve,V,Deferred.ofValue,Sem.run_pure];rfl
 ·simp[invoke,B.1]
 ·refine Kj ?_
  have e:(first.toList++ [Value.func (.yield (w.heap.size+1)) #[] #[]]++cap.toList).toArray=first++ #[.func (.yield (w.heap.size+1)) #[] #[]]++cap:=by apply Array.ext';simp
  rw[←e];refine B.2.mono ?_;rintro e m ⟨O,t,rfl,s,j,hs,u,q⟩;have Y:Tame w m:=((IQ w _).trans (IQ _ _)).trans O;rw[p]at u;refine⟨_,_,run_endLoop u hs,?_⟩;have D:∀o,Tame w (m.putObj (w.heap.size+1) o):=fun o=>Y.trans (rK ..)
  have I:∀o,o=lo .exhausted j→(m.putObj (w.heap.size+1) o).heap=m.heap.setIfInBounds (w.heap.size+1) (lo .exhausted j):=fun o T=>by rw[T];rfl
  rcases j with _|⟨i|_⟩
  ·exact hn _ (D _) (by rw[I _ (by rw[p])];exact q)
  ·exact wpIn_exit (hx i _ (D _) (by rw[I _ (by rw[p])];exact q))
  ·exact wpIn_ret (hr _ (D _) (by rw[I _ (by rw[p])];exact q))
theorem N9(B:P.follows .mixedOrders=true){n N:Nat}(c:Code):∀(o:Ann) (Kn:List Nat→cY→ad→Prop) (Kx:Ex→List Nat→cY→ad→Prop) (ms:List Nat) (r:cY) (a:Act) (w:World) (Q:Exit→Act→World→Prop),
  Di P N c o Kn Kx ms r w.heap→Agree N r a→a.defers=ms.map qg→(∀D a w,¬Q (.panic D) a w)→
  (∀d m a' j,Agree N m a'→a'.defers=d.map qg→Tame w j→Kn d m j.heap→Q .normal a' j)→
  (∀i d m a' j,Agree N m a'→a'.defers=d.map qg→Tame w j→Kx (.exit i) d m j.heap→Q (.exit i) a' j)→
  (∀d m a' j,Agree N m a'→a'.defers=d.map qg→Tame w j→Kx .ret d m j.heap→Q .ret a' j)→
  c.wpIn (FW none) n P Q a w:=by
 have plain:∀(c:Code) (o:Ann) (Kn:List Nat→cY→ad→Prop) (Kx:Ex→List Nat→cY→ad→Prop) (ms:List Nat) (r:cY) (a:Act) (w:World) (Q:Exit→Act→World→Prop),
  oG P N c o (Kn ms) (fun e=>Kx e ms) r w.heap→Agree N r a→a.defers=ms.map qg→(∀D a w,¬Q (.panic D) a w)→
  (∀d m a' j,Agree N m a'→a'.defers=d.map qg→Tame w j→Kn d m j.heap→Q .normal a' j)→
  (∀i d m a' j,Agree N m a'→a'.defers=d.map qg→Tame w j→Kx (.exit i) d m j.heap→Q (.exit i) a' j)→
  (∀d m a' j,Agree N m a'→a'.defers=d.map qg→Tame w j→Kx .ret d m j.heap→Q .ret a' j)→
  c.wpIn (FW none) n P Q a w:=by
  intro c o Kn Kx ms r a w Q f p hd z v hx q;exact xg B c o _ _ r a w Q f p z (fun m a' j s h2 u=>v ms m a' j s (h2.defers.trans hd) h2.tame u) (fun i m a' j s h2 u=>hx i ms m a' j s (h2.defers.trans hd) h2.tame u)
   (fun m a' j s h2 u=>q ms m a' j s (h2.defers.trans hd) h2.tame u)
 induction c with
 |skip=>intro o Kn Kx ms r a w Q f;exact plain _ o Kn Kx ms r a w Q f
 |region id ops dr=>intro o Kn Kx ms r a w Q f;exact plain _ o Kn Kx ms r a w Q f
 |seq x y ihx ihy=>
  intro o Kn Kx ms r a w Q f p hd z v hx q;have f:(bif (bif wA x then true else wA y)then Di P N x o.l (fun ms m h'=>Di P N y o.r Kn Kx ms m h') Kx ms r w.heap
   else oG P N (.seq x y) o (Kn ms) (fun e=>Kx e ms) r w.heap):=f
  cases hb:(bif wA x then true else wA y)with
  |false=>rw[hb]at f;exact plain _ _ _ _ _ _ _ _ _ f p hd z v hx q
  |true=>
   rw[hb,cond_true]at f;refine wpIn_seq (ihx o.l _ Kx ms r a w _ f p hd (fun D a w=>z D a w) ?_ hx q)
   intro G S R O K J C I;exact ihy o.r Kn Kx G S R O Q I K J z (fun d m a' j s h2 u A=>v d m a' j s h2 (C.trans u) A) (fun i d m a' j s h2 u A=>hx i d m a' j s h2 (C.trans u) A)
    (fun d m a' j s h2 u A=>q d m a' j s h2 (C.trans u) A)
 |cond c x y ihx ihy=>
  intro o Kn Kx ms r a w Q f p hd z v hx q;have f:(bif (bif wA x then true else wA y)then
    (match eI r c with
     |some (.bool t)=>CondP t (Di P N x o.l Kn Kx ms r w.heap) (Di P N y o.r Kn Kx ms r w.heap)
     |_=>False)
   else oG P N (.cond c x y) o (Kn ms) (fun e=>Kx e ms) r w.heap):=f
  cases hb:(bif wA x then true else wA y)with
  |false=>rw[hb]at f;exact plain _ _ _ _ _ _ _ _ _ f p hd z v hx q
  |true=>
   rw[hb,cond_true]at f;split at f
   ·rename_i t E
    exact wpIn_cond_split (ph p E) (fun e=>ihx _ Kn Kx ms r a w Q (f.yes e) p hd z v hx q) (fun e=>ihy _ Kn Kx ms r a w Q (f.no e) p hd z v hx q)
   ·exact f.elim
 |block id b ih=>
  intro o Kn Kx ms r a w Q f p hd z v hx q;have f:(bif wA b then Di P N b o Kn (fun e ms m h'=>match e with
    | .exit i=>bif cg i id then Kn ms m h' else Kx (.exit i) ms m h'
    | .ret=>Kx .ret ms m h') ms r w.heap
   else oG P N (.block id b) o (Kn ms) (fun e=>Kx e ms) r w.heap):=f
  cases hb:wA b with
  |false=>rw[hb]at f;exact plain _ _ _ _ _ _ _ _ _ f p hd z v hx q
  |true=>
   rw[hb,cond_true]at f;refine wpIn_block (ih o Kn _ ms r a w _ f p hd (fun D a w=>z D a w) v (fun i d m a' j s h2 u A=>?_) q)
   simp only[Exit.inBlock]at A⊢;cases hi:cg i id with
   |true=>
    rw[hi,cond_true]at A;rw[if_pos (bG hi)];exact v d m a' j s h2 u A
   |false=>
    rw[hi,cond_false]at A;rw[if_neg (fun e=>by rw[e,vX]at hi;cases hi)]
    exact hx i d m a' j s h2 u A
 |loop b ih=>intro o Kn Kx ms r a w Q f;exact plain _ o Kn Kx ms r a w Q f
 |rangeFunc g ps assign body _ _=>
  intro o Kn Kx ms r a w Q f p hd z v hx q;cases o with
  |rf ks aa ab=>
   have f:(bif Dp N ps.toList&&cg ps.toList.length ks.length then
    (match eI r g with
     |some fv=>RangeP P fv ks w.heap (fun MM M x k h'=>SB P N ps.toList ks assign body (.node aa ab) r (w.heap.size+1) MM M x k h')
       (fun h'=>Kn (w.heap.size::ms) r h') (fun i h'=>Kx (.exit i) (w.heap.size::ms) r h') (fun h'=>Kx .ret (w.heap.size::ms) r h')
     |none=>False)else False):=f
   cases hb:(Dp N ps.toList&&cg ps.toList.length ks.length)with
   |false=>rw[hb]at f;exact f.elim
   |true=>
    rw[hb,cond_true]at f;rw[bH]at hb;split at f
    · rename_i fv hfv
      have H:Agree N r {a with defers:=qg w.heap.size::a.defers}:=⟨p.size,p.look⟩;have L:({a with defers:=qg w.heap.size::a.defers}:Act).defers=(w.heap.size::ms).map qg:=by rw[List.map_cons,←hd]
      exact HQ B hb.1 (bG hb.2) hfv p f (fun j E F=>v _ r _ j H L E F) (fun i j E F=>hx i _ r _ j H L E F) (fun j E F=>q _ r _ j H L E F)
    · exact f.elim
  |_=>exact f.elim
 |exit id=>intro o Kn Kx ms r a w Q f;exact plain _ o Kn Kx ms r a w Q f
 |scope b _=>intro o Kn Kx ms r a w Q f;exact f.elim
 |label l=>intro o Kn Kx ms r a w Q f;exact plain _ o Kn Kx ms r a w Q f
 |goto l=>intro o Kn Kx ms r a w Q f;exact f.elim
 |ret=>intro o Kn Kx ms r a w Q f;exact plain _ o Kn Kx ms r a w Q f
 |refuse why=>intro o Kn Kx ms r a w Q f;exact f.elim
theorem Df{fn:Func}{ks:List Kind}{K:Ag ks→ad→Prop}{N:Nat}{n:Nat}{r:cY}{a:Act}{d:World}(c:Agree N r a):∀(ms:List Nat) (w:World),Tame d w→
  U0 ms (fun h'=>qT P r h' fn.results.toList fun vs=>HU ks vs fun t=>K t h') w.heap→
  LeavesInM (FW none) n P fn a.tmps (fun e f=>Tame d f∧∃t:Ag ks,e=.returned (Jp ks (qE ks t))∧K t f.heap) (ms.map qg) .returning w
 | [],w,ht,h=>by
  obtain⟨t,b,g⟩:=Qg c h;exact⟨_,b,ht,t,rfl,g⟩
 |D::ms,w,ht,h=>by
  refine⟨by simp,.inl ⟨D,_,rfl,run_takeDeferred h.1,?_⟩⟩;exact Df c ms (w.putObj D (.deferred none)) (ht.trans (rK ..)) h.2
theorem HE.introM(o:P.follows .mixedOrders=true){f:FuncId}{fn:Func}{c:Code}{s:Ann}{args:List Value}{ks:List Kind}{K:Ag ks→ad→Prop}{h:ad}
  (u:P.funcs[f]? =some fn) (z:fn.body=some c) (d:∀(args:Array Value) (w:World),(callFunc f args).run P w=.ok (.enter f args) w) (m:args.length≤fn.ntmps)
  (y:SC P fn c s args ks K h):HE P f args ks K h:=by
 refine⟨fun w v=>⟨d,?_⟩⟩
 subst v;refine(callsIn_wide (n:=0)).1 (callsIn_of_wp_marks (F:=FW none) u z trivial ?_ rfl);refine wpIn_mono (Q:=fun e a b=>(∀p,e≠ .panic p)∧bodyPostM (FW none) 0 P fn (fun e b=>Tame w b∧∃t:Ag ks,e=.returned (Jp ks (qE ks t))∧K t b.heap) e a b) ?_ fun e a w h=>h.2
 refine N9 o c s _ _ [] _ _ w _ y (TZ m) rfl (fun p a w h=>h.1 p rfl) ?_ (fun _ _ _ _ _ _ _ _ h=>h.elim) ?_
 ·intro i x a' b j g k q
  refine⟨(fun _ e=>by cases e),?_⟩
  show LeavesInM _ _ _ _ _ _ a'.defers _ _
  rw[g];exact Df j i b k q
 ·intro i x a' b j g k q
  refine⟨(fun _ e=>by cases e),?_⟩
  show LeavesInM _ _ _ _ _ _ a'.defers _ _
  rw[g];exact Df j i b k q
theorem HC.introM(d:P.follows .mixedOrders=true){f:FuncId}{fn:Func}{c:Code}{j:Ann}{args:List Value}{ks:List Kind}{K:Ag ks→ad→Prop}{h:ad}
 (e:P.funcs[f]? =some fn) (i:fn.body=some c) (a:∀(args:Array Value) (w:World),(callFunc f args).run P w=.ok (.enter f args) w) (b:args.length≤fn.ntmps)
 (g:SC P fn c j args ks K h):HC P f args ks K h:=(HE.introM d e i a b g).hc
end Go.Lift
namespace Go.Lift
open Go
def AppP(z:Option (List Value))(e b:Nat)(t:TypeId)(a:Option Addr)(sl d c:Nat)(xs:List Value)(h:ad)(K:SliceV→ad→Prop):Prop:=
 (sl+c≤d→wn h a (sl*e) xs∧cH xs=true∧K ⟨a,sl+c,d⟩ (hO h a (sl*e) xs))∧
 (d<sl+c→∃old z',SRow h a (sl*e) old∧z=some z'∧0<b∧Builtin.nextslicecap (sl+c) d*b≤2^48∧
  ∀nc,sl+c≤nc→K ⟨some (aG h),sl+c,nc⟩ (hnew h (old++xs++eO (nc-(sl+c)) z') t))
end Go.Lift
