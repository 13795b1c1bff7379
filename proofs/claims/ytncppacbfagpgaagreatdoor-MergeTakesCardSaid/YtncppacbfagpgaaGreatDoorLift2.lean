/- A part of the proof that the named laws of this program answer true, whatever the input. -/
import Derived.Test.YtncppacbfagpgaaGreatDoorLift1
open Array renaming getD_eq_getD_getElem?→dI,getElem?_toList→bS,getElem?_setIfInBounds_ne→f9,replicate→vj,getElem?_eq_some_iff→cX,getElem?_eq_getElem→gG,getElem?_eq_none→nD,mapM_eq_mapM_toList→pX
open Bool renaming eq_false_iff→tf,or_eq_true→lS,and_eq_true→bq,not_eq_true'→te,or_eq_false_iff→pr
open List renaming mem_of_getElem?→me,length_cons→ar,mem_cons→aC,getElem?_cons_zero→cL,getElem?_eq_getElem→af,any_eq_true→cE,getElem?_eq_some_iff→bN,mem_cons_of_mem→aE,mem_cons_self→au,filter_cons→bJ,mem_singleton→aD,size_toArray→dD
open Nat renaming beq→bX,eq_of_beq_eq_true→bw,land→md,lor→dB,testBit_and→kw,zero_testBit→ij,succ→ik,zero_add→aR,beq_refl→vK,lt_or_ge→bR,pred→Bp,sub_zero→fz
open Option renaming some→bO
namespace Go.Lift
open Go
variable {P:Program} {ro:Option Nat} {n:Nat}
def FW(ro:Option Nat):Fence:={fn:=fun _=>True,depth:=none,alive:=false,round:=ro}
theorem Wn(m:Machine):m.fenced P (FW ro):=by
 intro g _;exact⟨fun h=>by simp[FW]at h,.inl trivial,fun _ _=>trivial,fun d h=>by simp[FW]at h⟩
theorem CJ{m a:Machine}(h:Steps P m a):StepsIn (Machine.fenced P (FW ro)) P m a:=(StepsIn.of_steps h).mono fun m _=>Wn m
theorem JT{k:Nat}{f:FuncId}{args:Array Value}{w:World}{R:Ending→World→Prop}(h:Calls P f args w R):CallsIn (FW ro) k P f args w R:=by
 refine⟨trivial,fun cs _=>?_⟩
 obtain⟨e,d,fr,g,hc,a,b⟩:=h cs;refine⟨e,d,fr,g,?_,a,b⟩;cases e with
 |returned v=>exact CJ hc
 |panicked c=>exact CJ hc
 |outgrown=>exact hc
theorem wP{o:Oper}{a:Act}{w:World}{K:WK}{next:Act→World→Prop}{Q:Exit→Act→World→Prop}(hd:∀c,o.op≠ .defer c)(h:QJ P (execOp a.eval o) K w)
  (k:∀v d,Tame w d→K v d.heap→next (a.put o.dst v) d):o.wpIn (FW ro) n P a w next Q:=by
 refine⟨fun _ _=>trivial,?_⟩
 rw[Oper.semAt_eq _ _ _ hd];rcases h with⟨v,d,i,g,j⟩|⟨d,i,g,j⟩|⟨f,args,i,hc⟩|⟨l,fn,tmps,assign,body,i,hc⟩
 ·rw[i];exact k v d g j
 ·rw[i];exact k undef d g j
 ·rw[i]
  refine⟨fun h=>by simp[FW]at h,JT (hc.mono ?_)⟩
  rintro e d ⟨g,v,rfl,j⟩;exact k v d g j
 ·rw[i]
  refine⟨fun h=>by simp[FW]at h,trivial,fun c cs _=>?_⟩
  obtain⟨b,d,g,j,m⟩:=hc c cs;exact⟨.returned (.bool b),d,k _ d g j,CJ m⟩
theorem zD{N:Nat}{o:Oper}{v:Value}{r:cZ}{K:cZ→Prop}{a:Act}{d:yW}{dv:DV}(h:Ev N o v r K)(c:Agree N r a)(hd:DecOk d r)(hv:LS dv v):
  ∃r',K r'∧Agree N r' (a.put o.dst v)∧DecOk (vZ d o dv) r':=by
 unfold Ev at h;unfold vZ;cases ho:o.dst with
 |none=>rw[ho]at h;exact⟨r,h,c,hd⟩
 |some t=>
  rw[ho]at h;simp only at h;cases hb:Nat.blt t N with
  |false=>rw[hb]at h;exact h.elim
  |true=>
   rw[hb]at h;have b:t<N:=by simpa using hb
   refine⟨_,h,c.put t v b,fun s=>?_⟩
   by_cases e:t=s
   ·subst e
    have:vp ((t,dv)::d) t=dv:=by simp[vp]
    rw[this];exact .inr ⟨v,kO t v r,hv⟩
   ·have f:vp ((t,dv)::d) s=vp d s:=by
     have:bX t s=false:=tf.2 fun g=>e (bw g)
     show(bif bX t s then dv else vp d s)=_
     rw[this];rfl
    rw[f,jF v r e];exact hd s
theorem PC{ek:Option (Kind×Kind)}{o:Op}{r:cZ}{K:RK}{h:ad}(a:FS P ek o r K h):∀c,o≠ .defer c:=by
 intro c e;subst e;exact a
theorem Al{o:Oper}{r:cZ}{K:WK}{h:ad}(a:KY P o r K h):∀c,o.op≠ .defer c:=by
 intro c e;unfold KY at a;rw[e]at a;exact a
theorem acZ{d:yW}{o:Op}(h:zV P o=false):OZ d o=.x:=by
 cases o<;>first|rfl|(simp[zV]at h)
theorem VH{N:Nat}{ek:Option (Kind×Kind)}{o:Oper}{r:cZ}{K:cZ→ad→Prop}{a:Act}{w:World}{d:yW}{next:Act→World→Prop}{Q:Exit→Act→World→Prop}
  (g:ab8 P N ek o r K w.heap)(j:Agree N r a)(hd:DecOk d r)
  (q:∀v c f,Tame w c→K f c.heap→Agree N f (a.put o.dst v)→DecOk (vZ d o (OZ d o.op)) f→next (a.put o.dst v) c):o.wpIn (FW ro) n P a w next Q:=by
 unfold ab8 at g;cases hq:zV P o.op with
 |true=>
  rw[hq,cond_true]at g;obtain⟨v,S,p,t,m,s⟩:=Mk j g d hd;refine wP (K:=fun u h'=>u=v∧h'=w.heap) (PC g) (.inl ⟨v,w,s w t,Tame.refl w,rfl,rfl⟩) ?_
  rintro u c k ⟨rfl,x⟩;obtain⟨f,e,b,i⟩:=zD p j hd m;exact q u c f k (by rw[x];exact e) b i
 |false=>
  rw[hq,cond_false]at g;refine wP (Al g) (Fy j g) ?_;intro v c k p;obtain⟨f,e,b,i⟩:=zD p j hd (dv:=OZ d o.op) (by rw[acZ hq];trivial);exact q v c f k e b i
theorem MP{t:Array Value}{i:Nat}{b:Bool}(h:t.getD i undef=.bool b):t[i]? =some (.bool b):=by
 rw[dI]at h;cases hc:t[i]? with
 |none=>rw[hc]at h;simp[undef]at h
 |some v=>rw[hc]at h;simp at h;rw[h]
theorem SW{t:Array Value}{i:Nat}(h:t.getD i undef=undef):t[i]? =none∨t[i]? =some undef:=by
 rw[dI]at h;cases hc:t[i]? with
 |none=>exact .inl rfl
 |some v=>rw[hc]at h;simp at h;rw[h];exact .inr rfl
theorem uh{N:Nat}{ops:Array Oper}{d:yW}{o:Oper}{b:Bool}{r:cZ}{a:Act}(h:lB ops.toList d o=some b)(m:Agree N r a)(hd:DecOk d r):
  Region.wanted o (yielded ops a.tmps)=b:=by
 unfold lB at h;unfold Region.wanted;cases hg:o.guard with
 |none=>rw[hg]at h;simp only[bO.injEq]at h;exact h
 |some g=>
  obtain⟨j,c⟩:=g;rw[hg]at h;simp only[bS]at h;simp only;cases hj:ops[j]? with
  |none=>rw[hj]at h;cases h
  |some oj=>
   rw[hj]at h;simp only at h;cases ht:oj.dst with
   |none=>rw[ht]at h;cases h
   |some t=>
    rw[ht]at h;simp only at h;have n:yielded ops a.tmps j=(match a.tmps[t]? with|some (.bool b)=>some b|_=>none):=by
     unfold yielded;simp[hj,ht];rfl
    rw[n];rcases hd t with hx|⟨v,hv,k⟩
    ·rw[hx]at h;cases h
    ·have i:=m.look t v hv
     cases hdl:vp d t with
     |x=>rw[hdl]at h;cases h
     |t=>
      rw[hdl]at h k;simp only[bO.injEq]at h;subst h;have:v=.bool true:=k;subst this;rw[MP i];cases c<;>rfl
     |f=>
      rw[hdl]at h k;simp only[bO.injEq]at h;subst h;have:v=.bool false:=k;subst this;rw[MP i];cases c<;>rfl
     |u=>
      rw[hdl]at h k;simp only[bO.injEq]at h;subst h;have:v=undef:=k;subst this;rcases SW i with e|e<;>rw[e]<;>cases c<;>rfl
structure Fr(W:Nat→Prop)(a0:Act)(w0:World)(a:Act)(w:World):Prop where
 tame:Tame w0 w
 defers:a.defers=a0.defers
 same:∀t,¬W t→a.tmps.getD t undef=a0.tmps.getD t undef
theorem Fr.refl(W:Nat→Prop)(a:Act)(w:World):Fr W a w a w:=⟨Tame.refl w,rfl,fun _ _=>rfl⟩
theorem Fr.put{W:Nat→Prop}{i a:Act}{g w f:World}(h:Fr W i g a w){o:Oper}(k:∀d,o.dst=some d→W d)(v:Value)(j:Tame w f):Fr W i g (a.put o.dst v) f:=by
 refine⟨h.tame.trans j,?_,fun t c=>?_⟩
 ·cases ho:o.dst<;>simp[Act.put,h.defers]
 ·cases ho:o.dst with
  |none=>exact h.same t c
  |some d=>
   have b:d≠t:=fun e=>c (e▸k d ho)
   rw[←h.same t c];simp[Act.put,f9 b]
theorem Fr.trans{W:Nat→Prop}{g f e:Act}{c b d:World}(h:Fr W g c f b)(k:Fr W f b e d):Fr W g c e d:=
 ⟨h.tame.trans k.tame,k.defers.trans h.defers,fun t a=>(k.same t a).trans (h.same t a)⟩
theorem Fr.mono{W W':Nat→Prop}{c a:Act}{b w:World}(h:Fr W c b a w)(f:∀t,W t→W' t):Fr W' c b a w:=
 ⟨h.tame,h.defers,fun t d=>h.same t fun e=>d (f t e)⟩
theorem DecOk.known{d:yW}{r:cZ}(h:DecOk d r){t:Nat}{dv:DV}{v:Value}(hv:LS dv v):DecOk ((t,dv)::d) ((t,v)::r):=fun s=>by
 by_cases e:t=s
 ·subst e
  have:vp ((t,dv)::d) t=dv:=by simp[vp]
  rw[this];exact .inr ⟨v,kO t v r,hv⟩
 ·have a:vp ((t,dv)::d) s=vp d s:=by
   have:bX t s=false:=tf.2 fun b=>e (bw b)
   show(bif bX t s then dv else vp d s)=_
   rw[this];rfl
  rw[a,jF v r e];exact h s
theorem Ig{N:Nat}{ek:Option (Kind×Kind)}{ops:Array Oper}{o:Oper}{i:Nat}{d:yW}{r:cZ}{a:Act}{w:World}{b:Bool}{K:yW→cZ→ad→Prop}{next:Act→World→Prop}{Q:Exit→Act→World→Prop}
  (hi:ops[i]? =some o) (s:lB ops.toList d o=some b) (k:Agree N r a) (hd:DecOk d r)
  (m:match b with
   |true=>ab8 P N ek o r (K (vZ d o (OZ d o.op))) w.heap
   |false=>Ev N o undef r fun c=>K (vZ d o .u) c w.heap)
  (p:∀v g d' c,Tame w g→K d' c g.heap→Agree N c (a.put o.dst v)→DecOk d' c→next (a.put o.dst v) g):
  wpOpIn (FW ro) n P ops Q i next a w:=by
 unfold wpOpIn;rw[hi];simp only[uh s k hd];cases b with
 |true=>exact VH m k hd fun v g c q t e f=>p v g _ c q t e f
 |false=>
  obtain⟨c,j,e,f⟩:=zD (dv:=.u) m k hd rfl;exact⟨fun _ _=>trivial,p undef w _ c (Tame.refl w) j e f⟩
theorem VG{N:Nat}{ek:Option (Kind×Kind)}{ops:List Oper}{o:Oper}{os:List Oper}{d:yW}{K:cZ→ad→Prop}{r:cZ}{h:ad}:IM P N ek ops (o::os) d K r h=
 (match lB ops d o with
 |some true=>ab8 P N ek o r (fun a h'=>IM P N ek ops os (vZ d o (OZ d o.op)) K a h') h
 |some false=>Ev N o undef r fun a=>IM P N ek ops os (vZ d o .u) K a h
 |none=>match JA ops o with
  |none=>False
  |some t=>match mU r t with
   |some (.bool b)=>CondP b
    (Mc P N ek ops o ((t,.t)::d) ((t,.bool true)::r) h fun c a h'=>IM P N ek ops os c K a h')
    (Mc P N ek ops o ((t,.f)::d) ((t,.bool false)::r) h fun c a h'=>IM P N ek ops os c K a h')
   |_=>False):=rfl
theorem L3{N:Nat}{ek:Option (Kind×Kind)}{ops:Array Oper}{o:Oper}{i:Nat}{d:yW}{r:cZ}{a:Act}{w:World}{K:yW→cZ→ad→Prop}{next:Act→World→Prop}{Q:Exit→Act→World→Prop}
  (hi:ops[i]? =some o) (f:Agree N r a) (hd:DecOk d r) (c:Mc P N ek ops.toList o d r w.heap K)
  (e:∀v w' d' r',Tame w w'→K d' r' w'.heap→Agree N r' (a.put o.dst v)→DecOk d' r'→next (a.put o.dst v) w'):
  wpOpIn (FW ro) n P ops Q i next a w:=by
 unfold Mc at c;cases hw:lB ops.toList d o with
 |none=>rw[hw]at c;exact c.elim
 |some b=>rw[hw]at c;exact Ig (ek:=ek) hi hw f hd (by cases b<;>exact c) e
theorem IL{N:Nat}{ek:Option (Kind×Kind)}{ops:Array Oper}{W:Nat→Prop}(x:∀o∈ops.toList,∀d,o.dst=some d→W d){y:Act}{u:World}{K:cZ→ad→Prop}{Q:Exit→Act→World→Prop}
  (s:∀r a w,Agree N r a→Fr W y u a w→K r w.heap→Q .normal a w):
  ∀(l:List Oper) (i:Nat),ops.toList.drop i=l→∀(d:yW) (r:cZ) (a:Act) (w:World),IM P N ek ops.toList l d K r w.heap→Agree N r a→DecOk d r→Fr W y u a w→
   wpOpsIn (FW ro) n P ops Q (List.range' i l.length) a w
 | [],i,_,d,r,a,w,hs,ha,hd,hf=>s r a w ha hf hs
 |o::os,i,hdr,d,r,a,w,hs,ha,hd,hf=>by
  have hi:ops[i]? =some o:=by
   rw[←bS];have:(ops.toList.drop i)[0]? =some o:=by rw[hdr];rfl
   simpa using this
  have g:o∈ops.toList:=me (by rw[bS];exact hi);have j:ops.toList.drop (i+1)=os:=by rw[←List.tail_drop,hdr];rfl
  rw[ar,List.range'_succ,wpOpsIn_cons];rw[VG]at hs;have m:∀v f e c,Tame w f→IM P N ek ops.toList os e K c f.heap→Agree N c (a.put o.dst v)→DecOk e c→wpOpsIn (FW ro) n P ops Q (List.range' (i+1) os.length) (a.put o.dst v) f:=
   fun v f e c q z k p=>IL x s os (i+1) j e c _ f z k p (hf.put (x o g) v q)
  cases hw:lB ops.toList d o with
  |some b=>
   rw[hw]at hs;exact Ig (ek:=ek) (K:=fun e c h'=>IM P N ek ops.toList os e K c h') hi hw ha hd (by cases b<;>exact hs) m
  |none=>
   rw[hw]at hs;simp only at hs;split at hs
   ·exact hs.elim
   ·rename_i t q
    split at hs
    ·rename_i b hb
     cases b with
     |true=>exact L3 hi (ha.known hb) (hd.known (dv:=.t) rfl) (hs.yes rfl) m
     |false=>exact L3 hi (ha.known hb) (hd.known (dv:=.f) rfl) (hs.no rfl) m
    ·exact hs.elim
end Go.Lift
namespace Go.Lift
open Go
theorem GJ(m i:Nat):tb m i=m.testBit i:=by
 have h:md (Nat.shiftRight m i) 1=(m>>>i)&&&1:=rfl;unfold tb;rw[h,Nat.testBit_eq_decide_div_mod_eq,Nat.and_one_is_mod,Nat.shiftRight_eq_div_pow];cases hm:decide (m/2^i%2=1)with
 |true=>rw[of_decide_eq_true hm];rfl
 |false=>
  have h2:=of_decide_eq_false hm;have:m/2^i%2=0:=by omega
  rw[this];rfl
theorem qZ(a b i:Nat):(dB a b).testBit i=(a.testBit i||b.testBit i):=Nat.testBit_or a b i
theorem Dq(i j:Nat):(jB i).testBit j=decide (i=j):=Nat.testBit_two_pow
theorem Gi{a b:Nat}(h:bX (md a b) 0=true)(t:Nat)(c:a.testBit t=true)(e:b.testBit t=true):False:=by
 have d:=bw h;have:(md a b).testBit t=(a.testBit t&&b.testBit t):=kw a b t;rw[d,c,e]at this;simp at this
theorem aaD{a b:Nat}(h:bX (md a b) a=true)(t:Nat)(d:a.testBit t=true):b.testBit t=true:=by
 have c:=bw h;have:(md a b).testBit t=(a.testBit t&&b.testBit t):=kw a b t;rw[c,d]at this;simpa using this.symm
theorem Ci(i:Nat):∀l:List Edge,(pL l).testBit i=l.any fun e=>bX e.on i&&Region.binds .any e
 | []=>ij i
 |e::l=>by
  have a:=Ci i l;have hc:pL (e::l)=bif Region.binds .any e then dB (jB e.on) (pL l)else pL l:=rfl;rw[hc,List.any_cons,←a];cases hb:Region.binds .any e with
  |true=>
   rw[cond_true,qZ,Dq,Bool.and_true];congr 1
   cases hd:bX e.on i with
   |true=>simpa using bw hd
   |false=>rw[decide_eq_false_iff_not];intro b;rw[b]at hd;simp at hd
  |false=>simp
theorem EE(o:Oper)(i:Nat):(pL o.after.toList).testBit i=lY o i:=Ci i o.after.toList
theorem DW(t:Nat):∀l:List Operand,(oV l).testBit t=true↔Operand.tmp t∈l
 | []=>by simp[show oV []=0 from rfl]
 |o::l=>by
  have a:=DW t l;cases o with
  |tmp u=>
   have hc:oV (.tmp u::l)=dB (jB u) (oV l):=rfl;rw[hc,qZ,Dq,lS,a,aC];simp[eq_comm]
  |const v=>
   have hc:oV (.const v::l)=oV l:=rfl;rw[hc,a,aC];simp
  |global v=>
   have hc:oV (.global v::l)=oV l:=rfl;rw[hc,a,aC];simp
  |func v=>
   have hc:oV (.func v::l)=oV l:=rfl;rw[hc,a,aC];simp
theorem A8(o:Oper)(t:Nat):(qF o).testBit t=true↔o.dst=some t:=by
 unfold qF;cases o.dst with
 |none=>simp
 |some d=>simp[Dq]
theorem Lj(ops:Array Oper)(o:Oper)(t:Nat):(rq ops.toList o).testBit t=true↔t∈o.looksAt ops:=by
 unfold rq Oper.looksAt;rw[qZ,lS,DW,List.mem_append,List.mem_filterMap];refine or_congr ⟨fun h=>⟨_,h,rfl⟩,?_⟩ ?_
 ·rintro⟨x,hx,a⟩
  cases x<;>simp at a
  subst a;exact hx
 ·cases hg:o.guard with
  |none=>simp
  |some g=>
   obtain⟨j,b⟩:=g;simp only[bS];cases hj:ops[j]? with
   |none=>simp
   |some oj=>simp[A8]
variable {P:Program} {ro:Option Nat} {n:Nat} {ops:Array Oper} {Q:Exit→Act→World→Prop}
structure MsOk(ops:Array Oper)(ms:List DM):Prop where
 am:∀(i:Nat) (o:Oper) (m:DM),ops[i]? =some o→ms[i]? =some m→∀j,m.am.testBit j=lY o j
 lk:∀(i:Nat) (o:Oper) (m:DM),ops[i]? =some o→ms[i]? =some m→∀t,m.lk.testBit t=true↔t∈o.looksAt ops
 ds:∀(i:Nat) (o:Oper) (m:DM),ops[i]? =some o→ms[i]? =some m→∀t,m.ds.testBit t=true↔o.dst=some t
 len:ms.length=ops.size
 free:∀(i j:Nat) (m k:DM),ms[i]? =some m→ms[j]? =some k→m.fr.testBit j=true→j=i∨k.am.testBit i=true∨Gk m k=true
 nosel:∀(i:Nat) (o:Oper),ops[i]? =some o→(∀cs b,o.op≠ .select cs b)∧(∀c,o.op≠ .defer c)
theorem Ec(ops:List Oper):∀(l:List Oper) (ms:List DM),AG ops l ms=true→ms.length=l.length∧∀(i:Nat) (o:Oper) (m:DM),l[i]? =some o→ms[i]? =some m→
  m.am=pL o.after.toList∧m.lk=rq ops o∧m.ds=qF o
 | [],[],_=>⟨rfl,fun i o m h=>by simp at h⟩
 | [],_::_,h=>by cases h
 |o::l,[],h=>by cases h
 |o::l,m::ms,h=>by
  have hc:AG ops (o::l) (m::ms)=(bX (pL o.after.toList) m.am&&bX (rq ops o) m.lk&&bX (qF o) m.ds&&AG ops l ms):=rfl;rw[hc]at h;simp only[bq]at h;obtain⟨⟨⟨b,h2⟩,f⟩,c⟩:=h;obtain⟨d,g⟩:=Ec ops l ms c;refine⟨by simp[d],fun i j e a hm=>?_⟩
  cases i with
  |zero=>
   simp only[cL,bO.injEq]at a hm;subst a;subst hm;exact⟨(bw b).symm,(bw h2).symm,(bw f).symm⟩
  |succ i=>exact g i j e (by simpa using a) (by simpa using hm)
theorem MQ(i:Nat)(m:DM):∀(l:List DM) (j0:Nat),MR i m l j0=true→∀(j:Nat) (k:DM),l[j]? =some k→m.fr.testBit (j0+j)=true→j0+j=i∨k.am.testBit i=true∨Gk m k=true
 | [],j0,_,j,k,hk,_=>by simp at hk
 |x::l,j0,h,j,k,hk,hb=>by
  have hc:MR i m (x::l) j0=((!(tb m.fr j0)||bX j0 i||tb x.am i||Gk m x)&&MR i m l (ik j0)):=rfl
  rw[hc]at h;simp only[bq,lS,te,GJ]at h;cases j with
  |zero=>
   simp only[cL,bO.injEq]at hk;subst hk;simp only[Nat.add_zero]at hb⊢;rcases h.1 with((a|a)|a)|a
   ·rw[a]at hb;cases hb
   ·exact .inl (bw a)
   ·exact .inr (.inl a)
   ·exact .inr (.inr a)
  |succ j=>
   have:=MQ i m l (j0+1) h.2 j k (by simpa using hk) (by rw[show j0+1+j=j0+(j+1) by omega];exact hb)
   rw[show j0+1+j=j0+(j+1) by omega]at this
   exact this
theorem G8(all:List DM):∀(l:List DM) (i0:Nat),Em all l i0=true→∀(i:Nat) (m:DM),l[i]? =some m→MR (i0+i) m all 0=true
 | [],i0,_,i,m,hm=>by simp at hm
 |x::l,i0,h,i,m,hm=>by
  have hc:Em all (x::l) i0=(MR i0 x all 0&&Em all l (ik i0)):=rfl;rw[hc,bq]at h;cases i with
  |zero=>simp only[cL,bO.injEq]at hm;subst hm;exact h.1
  |succ i=>
   have:=G8 all l (i0+1) h.2 i m (by simpa using hm);rw[show i0+1+i=i0+(i+1) by omega]at this
   exact this
theorem Mv:∀(l:List Oper),PV l=true→∀o∈l,(∀cs b,o.op≠ .select cs b)∧(∀c,o.op≠ .defer c)
 | [],_,o,a=>by cases a
 |x::l,h,o,a=>by
  simp only[PV,bq]at h;rcases aC.1 a with rfl|a
  ·refine⟨fun cs b e=>?_,fun c e=>?_⟩
   ·rw[e]at h;cases h.1
   ·rw[e]at h;cases h.1
  ·exact Mv l h.2 o a
theorem Sv{ms:List DM}(h:H5 ops.toList ms=true):MsOk ops ms:=by
 have hc:H5 ops.toList ms=(AG ops.toList ops.toList ms&&Em ms ms 0&&PV ops.toList):=rfl;rw[hc]at h;simp only[bq]at h;obtain⟨⟨c,h2⟩,f⟩:=h;obtain⟨e,b⟩:=Ec ops.toList ops.toList ms c;refine⟨fun i o m a hm j=>?_,fun i o m a hm t=>?_,fun i o m a hm t=>?_,by simpa using e,fun i j m k hm d g=>?_,fun i o a=>?_⟩
 ·rw[(b i o m (by simpa using a) hm).1,EE]
 ·rw[(b i o m (by simpa using a) hm).2.1,Lj]
 ·rw[(b i o m (by simpa using a) hm).2.2,A8]
 ·have:=G8 ms ms 0 h2 i m hm
  rw[aR]at this;have:=MQ i m ms 0 this j k d (by rwa [aR]);rwa [aR]at this
 ·exact Mv _ f o (me (by rw[bS];exact a))
theorem YZ{ms:List DM}(hm:MsOk ops ms){i j:Nat}{c e:Oper}{f g:DM}(hi:ops[i]? =some c) (m:ops[j]? =some e) (a:ms[i]? =some f) (b:ms[j]? =some g) (h:Gk f g=true):
  (∀d,c.dst=some d→d∉e.looksAt ops)∧(∀d,c.dst=some d→e.dst≠some d)∧(∀d,e.dst=some d→d∉c.looksAt ops):=by
 unfold Gk at h;rw[bq]at h;refine⟨fun d hd k=>?_,fun d hd n=>?_,fun d hd k=>?_⟩
 ·exact Gi h.1 d ((hm.ds i c f hi a d).2 hd) (by rw[qZ,(hm.lk j e g m b d).2 k,Bool.true_or])
 ·exact Gi h.1 d ((hm.ds i c f hi a d).2 hd) (by rw[qZ,(hm.ds j e g m b d).2 n,Bool.or_true])
 ·exact Gi h.2 d ((hm.ds j e g m b d).2 hd) ((hm.lk i c f hi a d).2 k)
structure LsRel(ops:Array Oper)(ls:Nat)(listed:Array Bool):Prop where
 size:listed.size=ops.size
 bit:∀j,listed.getD j false=ls.testBit j
theorem LsRel.start:LsRel ops 0 (vj ops.size false):=⟨by simp,fun j=>by
 rw[ij,dI]
 by_cases h:j<ops.size<;>simp[h]⟩
theorem LsRel.put{ls:Nat}{listed:Array Bool}(h:LsRel ops ls listed){i:Nat}(hi:i<ops.size):LsRel ops (dB ls (jB i)) (listed.setIfInBounds i true):=by
 refine⟨by simp[h.size],fun j=>?_⟩
 rw[qZ,Dq,←h.bit];by_cases e:i=j
 ·subst e;simp[h.size,hi]
 ·simp[e,f9 e]
theorem LsRel.unlisted{ls:Nat}{listed:Array Bool}(h:LsRel ops ls listed){i:Nat}(hi:i<ops.size):listed.getD i true=ls.testBit i:=by
 rw[←h.bit];have:i<listed.size:=by rw[h.size];exact hi
 simp[this]
theorem Mh{ms:List DM}(hm:MsOk ops ms){ls:Nat}{listed:Array Bool}(h:LsRel ops ls listed){j:Nat}:j∈Region.ready .any ops listed↔∃m,ms[j]? =some m∧ls.testBit j=false∧Mi m ls=true:=by
 rw[mem_ready];constructor
 ·rintro⟨k,o,n,g⟩
  have a:j<ops.size:=(cX.1 n).1;have c:j<ms.length:=by rw[hm.len];exact a
  refine⟨ms[j],af c,by rw[←h.unlisted a];exact k,?_⟩
  unfold Mi;have:md (ms[j]).am ls=(ms[j]).am:=by
   apply Nat.eq_of_testBit_eq;intro t;have f:(md (ms[j]).am ls).testBit t=((ms[j]).am.testBit t&&ls.testBit t):=kw _ _ t;rw[f];cases ht:(ms[j]).am.testBit t with
   |false=>rfl
   |true=>
    rw[hm.am j o _ n (af c)]at ht;unfold lY at ht;obtain⟨e,i,b⟩:=cE.1 ht;simp only[bq]at b;have:=g e (by simpa using i) b.2;rw[bw b.1,h.bit]at this;rw[this];rfl
  rw[this];exact vK _
 ·rintro⟨m,d,k,p⟩
  have a:j<ops.size:=by rw[←hm.len];exact(bN.1 d).1
  refine⟨by rw[h.unlisted a];exact k,ops[j],gG a,fun e i b=>?_⟩
  rw[h.bit];refine aaD p e.on ?_;rw[hm.am j _ m (gG a) d];unfold lY;exact cE.2 ⟨e,by simpa using i,by simp[b]⟩
theorem vQ(ls:Nat):∀(l:List DM) (j0 j:Nat),j∈o8 ls l j0↔∃k m,l[k]? =some m∧j=j0+k∧ls.testBit j=false∧Mi m ls=true
 | [],j0,j=>by simp[show o8 ls [] j0= []from rfl]
 |m::l,j0,j=>by
  have hc:o8 ls (m::l) j0=bif !(tb ls j0)&&Mi m ls then j0::o8 ls l (ik j0)else o8 ls l (ik j0):=rfl;have d:=vQ ls l (j0+1) j;rw[hc,GJ];have step:(∃k b,(m::l)[k]? =some b∧j=j0+k∧ls.testBit j=false∧Mi b ls=true)↔(j=j0∧ls.testBit j0=false∧Mi m ls=true)∨j∈o8 ls l (j0+1):=by
   rw[d];constructor
   ·rintro⟨k,b,c,rfl,a,h2⟩
    cases k with
    |zero=>simp only[cL,bO.injEq]at c;subst c;exact .inl ⟨rfl,a,h2⟩
    |succ k=>exact .inr ⟨k,b,by simpa using c,by omega,a,h2⟩
   ·rintro(⟨rfl,a,h2⟩|⟨k,b,c,rfl,a,h2⟩)
    ·exact⟨0,m,rfl,rfl,a,h2⟩
    ·exact⟨k+1,b,by simpa using c,by omega,a,h2⟩
  rw[step];cases hb:(!(ls.testBit j0)&&Mi m ls)with
  |true=>
   simp only[bq,te]at hb;rw[cond_true,aC];simp[hb.1,hb.2]
  |false=>
   rw[cond_false];constructor
   ·exact .inr
   ·rintro(⟨_,a,h2⟩|h)
    ·rw[a,h2]at hb;cases hb
    ·exact h
theorem rM{ms:List DM}(hm:MsOk ops ms){ls:Nat}{listed:Array Bool}(h:LsRel ops ls listed){j:Nat}:j∈Region.ready .any ops listed↔j∈o8 ls ms 0:=by
 rw[Mh hm h,vQ];constructor
 ·rintro⟨m,b,h2,a⟩;exact⟨j,m,b,by omega,h2,a⟩
 ·rintro⟨k,m,b,rfl,h2,a⟩;exact⟨m,by simpa using b,h2,a⟩
theorem BA:∀{a b:List Nat},ze a b=true→a=b
 | [],[],_=>rfl
 | [],_::_,h=>by cases h
 |_::_,[],h=>by cases h
 |a::as,b::bs,h=>by
  simp only[ze,bq]at h;rw[bw h.1,BA h.2]
end Go.Lift
namespace Go.Lift
open Go
variable {P:Program} {ro:Option Nat} {n:Nat} {ops:Array Oper} {Q:Exit→Act→World→Prop}
theorem DU{m:Nat}{p:Nat→Bool}(hm:∀j,m.testBit j=true→p j=true):∀(l:List DM) (j0:Nat),(∀j x,l[j]? =some x→p (j0+j)=true→∀k,x.am.testBit k=true→p k=true)→∀k,(W4 m l j0).testBit k=true→p k=true
 | [],_,_,k,h=>hm k h
 |x::l,j0,hl,k,h=>by
  have hc:W4 m (x::l) j0=bif tb m j0 then dB x.am (W4 m l (ik j0))else W4 m l (ik j0):=rfl;have a:=DU hm l (j0+1) (fun j y c b=>hl (j+1) y (by simpa using c) (by rw[show j0+(j+1)=j0+1+j by omega];exact b)) k
  rw[hc,GJ]at h;cases hb:m.testBit j0 with
  |true=>
   rw[hb,cond_true,qZ,lS]at h;rcases h with h|h
   ·exact hl 0 x rfl (hm _ hb) k h
   ·exact a h
  |false=>
   rw[hb,cond_false]at h;exact a h
theorem DT{m k:Nat}(h:m.testBit k=true):∀(l:List DM) (j0:Nat),(W4 m l j0).testBit k=true
 | [],_=>h
 |x::l,j0=>by
  have hc:W4 m (x::l) j0=bif tb m j0 then dB x.am (W4 m l (ik j0))else W4 m l (ik j0):=rfl;have a:=DT h l (j0+1);rw[hc];cases tb m j0 with
  |true=>rw[cond_true,qZ,lS];exact .inr a
  |false=>exact a
def Shut(ms:List DM)(listed:Array Bool):Prop:=∀j x,ms[j]? =some x→listed.getD j false=true→∀k,x.am.testBit k=true→listed.getD k false=true
theorem WC{ms:List DM}{listed:Array Bool}(c:Shut ms listed){m:Nat}(hm:∀j,m.testBit j=true→listed.getD j false=true){k:Nat}(h:(Ey ms m).testBit k=true):listed.getD k false=true:=by
 have a:∀j x,ms[j]? =some x→(fun k=>listed.getD k false) (0+j)=true→∀k,x.am.testBit k=true→(fun k=>listed.getD k false) k=true:=fun j x hx b=>c j x hx (by rw[aR]at b;exact b)
 unfold Ey at h;exact DU (p:=fun k=>listed.getD k false) (DU (DU (DU hm ms 0 a) ms 0 a) ms 0 a) ms 0 a k h
theorem WB{ms:List DM}{m k:Nat}(h:m.testBit k=true):(Ey ms m).testBit k=true:=by
 unfold Ey;exact DT (DT (DT (DT h ms 0) ms 0) ms 0) ms 0
noncomputable abbrev rel(ms:List DM)(i:Nat)(L:vd):vd:=D3 (Ey ms (Ou ms i)) L
theorem px{m:Nat}{x:Nat×(ad→Prop)}:∀{L:vd},x∈D3 m L↔x∈L∧tb m x.1=false
 | []=>by simp[D3]
 |(k,S)::L=>by
  have a:=px (m:=m) (x:=x) (L:=L);simp only[D3];cases hk:tb m k with
  |true=>
   rw[cond_true,a,aC];constructor
   ·exact fun h=>⟨.inr h.1,h.2⟩
   ·rintro⟨h|h,h2⟩
    ·subst h;rw[hk]at h2;cases h2
    ·exact⟨h,h2⟩
  |false=>
   rw[cond_false,aC,a,aC];constructor
   ·rintro(h|h)
    ·subst h;exact⟨.inl rfl,hk⟩
    ·exact⟨.inr h.1,h.2⟩
   ·rintro⟨h|h,h2⟩
    ·exact .inl h
    ·exact .inr ⟨h,h2⟩
def Xe(ms:List DM)(ro:Option Nat)(n:Nat)(P:Program)(ops:Array Oper)(Q:Exit→Act→World→Prop):Nat→vd→Array Bool→Act→World→Prop
 |0,_,listed,a,w=>Region.ready .any ops listed= []∧Q .normal a w
 |f+1,L,listed,a,w=>(Region.ready .any ops listed= []→Q .normal a w)∧
  ∀i∈Region.ready .any ops listed,∀o,ops[i]? =some o→
   wpOpIn (FW ro) n P ops Q i (fun a' b=>(∀x∈rel ms i L,x.2 b.heap)∧Xe ms ro n P ops Q f (rel ms i L) (listed.setIfInBounds i true) a' b) a w
theorem GS{o:Oper}{x:Nat×(ad→Prop)}:∀{L:vd},x∈wS o L↔x∈L∧lY o x.1=false
 | []=>by simp[wS]
 |(k,S)::L=>by
  have a:=GS (o:=o) (x:=x) (L:=L);simp only[wS];cases hk:lY o k with
  |true=>
   rw[cond_true,a,aC];constructor
   ·exact fun h=>⟨.inr h.1,h.2⟩
   ·rintro⟨h|h,h2⟩
    ·subst h;rw[hk]at h2;cases h2
    ·exact⟨h,h2⟩
  |false=>
   rw[cond_false,aC,a,aC];constructor
   ·rintro(h|h)
    ·subst h;exact⟨.inl rfl,hk⟩
    ·exact⟨.inr h.1,h.2⟩
   ·rintro⟨h|h,h2⟩
    ·exact .inl h
    ·exact .inr ⟨h,h2⟩
theorem VL{listed:Array Bool}{i:Nat}(h:i∈Region.ready .any ops listed):∃o,ops[i]? =some o:=by
 obtain⟨_,o,a,_⟩:=mem_ready.1 h;exact⟨o,a⟩
theorem Ub{ms:List DM}:∀(f:Nat) (L:vd) (listed:Array Bool) (a:Act) (w:World),Xe ms ro n P ops Q f L listed a w→wpAnyIn (FW ro) n P .any ops Q f listed a w
 |0,_,_,_,_,h=>h
 |f+1,L,listed,a,w,h=>⟨h.1,fun i hi=>by
  obtain⟨o,c⟩:=VL hi
  exact wpOpIn_mono (fun a' b h'=>Ub f _ _ a' b h'.2) (h.2 i hi o c)⟩
theorem Ak{ms:List DM}:∀(f:Nat) (L L':vd) (listed:Array Bool) (a:Act) (w:World),(∀x∈L',x∈L∨∀h,x.2 h)→Xe ms ro n P ops Q f L listed a w→Xe ms ro n P ops Q f L' listed a w
 |0,_,_,_,_,_,_,h=>h
 |f+1,L,L',listed,a,w,hs,h=>⟨h.1,fun i hi o d=>by
  have b:∀x∈rel ms i L',x∈rel ms i L∨∀h,x.2 h:=fun x hx=>(hs x (px.1 hx).1).imp (fun h=>px.2 ⟨h,(px.1 hx).2⟩) id
  exact wpOpIn_mono (fun a' c h'=>⟨fun x hx=>(b x hx).elim (h'.1 x) fun h=>h _,Ak f _ _ _ a' c b h'.2⟩) (h.2 i hi o d)⟩
def YG(P:Program)(ops:Array Oper)(S:ad→Prop)(o:Oper)(v:Value)(a:Act):Prop:=
 (Region.wanted o (yielded ops a.tmps)=true∧∀w:World,S w.heap→(execOp a.eval o).run P w=.ok (.value v) w)∨
 (Region.wanted o (yielded ops a.tmps)=false∧v=undef)
theorem YG.wpOp{S:ad→Prop}{i:Nat}{o:Oper}{v:Value}{a:Act}(hi:ops[i]? =some o) (hd:∀c,o.op≠ .defer c) (e:YG P ops S o v a) {K:Act→World→Prop} {w:World} (d:S w.heap)
  (h:K (a.put o.dst v) w):wpOpIn (FW ro) n P ops Q i K a w:=by
 unfold wpOpIn;simp only[hi];rcases e with⟨b,hv⟩|⟨b,rfl⟩
 ·simp only[b,if_true]
  refine⟨fun _ _=>trivial,?_⟩
  rw[Oper.semAt_eq _ _ _ hd,hv w d];exact h
 ·simp only[b,Bool.false_eq_true,if_false];exact⟨fun _ _=>trivial,h⟩
theorem YG.of_same{S:ad→Prop}{o:Oper}{v:Value}{a a':Act}(d:YG P ops S o v a)(b:execOp a'.eval o=execOp a.eval o)
  (c:Region.wanted o (yielded ops a'.tmps)=Region.wanted o (yielded ops a.tmps)):YG P ops S o v a':=by
 unfold YG at*;rw[b,c];exact d
theorem Ru{S:ad→Prop}{j:Nat}{g i:Oper}{v:Value}(D:ops[j]? =some i)
  (z:(∀d,g.dst=some d→d∉i.looksAt ops)∧(∀d,g.dst=some d→i.dst≠some d)∧(∀d,i.dst=some d→d∉g.looksAt ops))
  (s:∀cs b,g.op≠ .select cs b) (A:∀cs b,i.op≠ .select cs b) (p:∀c,i.op≠ .defer c)
  (E:∀e a w,(∀c,e=.panic c→False)∨¬Q e a w) {K:Act→World→Prop} {a:Act} {w:World}
  (m:YG P ops S g v a) (h:wpOpIn (FW ro) n P ops Q j K (a.put g.dst v) w):
  wpOpIn (FW ro) n P ops Q j (fun a' y=>YG P ops S g v a'∧K (a'.put g.dst v) y) a w:=by
 obtain⟨B,h2,t⟩:=z;have o:∀c a w,¬Q (.panic c) a w:=fun c a w C=>(E (.panic c) a w).elim (fun h=>h c rfl) fun h=>h C
 have keep:∀(a:Act),YG P ops S g v a→∀u,YG P ops S g v (a.put i.dst u):=fun a m u=>
  m.of_same (execOp_put g s a i.dst u t) (wanted_put g a i.dst u t)
 unfold wpOpIn at*;simp only[D]at*;rw[wanted_put i a g.dst v B]at h;split
 ·rename_i hw
  simp only[hw,if_true]at h;refine⟨fun _ _=>trivial,?_⟩
  have h:=h.2;rw[Oper.semAt_eq _ _ _ p,execOp_put i A a g.dst v B]at h;rw[Oper.semAt_eq _ _ _ p];generalize (execOp a.eval i).run P w=r at*;cases r with
  |ok x y=>
   cases x<;>simp only[Oper.uponIn]at h⊢
   case value u=>exact⟨keep a m u,by rw[←Act.put_comm a v u h2];exact h⟩
   case skip=>exact⟨keep a m _,by rw[←Act.put_comm a v undef h2];exact h⟩
   case defer d=>
    refine⟨(m.of_same (a':={a with defers:=d::a.defers}) rfl rfl).of_same (execOp_put g s _ i.dst undef t) (wanted_put g _ i.dst undef t),?_⟩;rw[←Act.put_comm _ v undef h2,←Act.put_defers];exact h
   case enter f args=>
    refine⟨h.1,CallsIn.mono h.2 fun e q k=>?_⟩
    cases e with
    |returned u=>exact⟨keep a m u,by rw[←Act.put_comm a v u h2];exact k⟩
    |panicked c=>exact(o _ _ _ k).elim
    |outgrown=>exact k
   case row row args=>exact⟨h.1,RowsIn.mono h.2 fun u q k=>⟨keep a m u,by rw[←Act.put_comm a v u h2];exact k⟩⟩
   case round l f tmps assign body=>
    refine⟨h.1,RoundIn.mono h.2 fun e q k=>?_⟩
    cases e with
    |returned u=>exact⟨keep a m u,by rw[←Act.put_comm a v u h2];exact k⟩
    |panicked c=>exact(o _ _ _ k).elim
    |outgrown=>exact k
  |halt x y=>
   cases x<;>simp only[Oper.uponIn]at h⊢
   case panic u=>exact(o _ _ _ h).elim
 ·rename_i hw
  simp only[hw]at h;exact⟨fun _ _=>trivial,keep a m _,by rw[←Act.put_comm a v undef h2];exact h.2⟩
theorem Vf{ms:List DM}(hm:MsOk ops ms){i:Nat}{o:Oper}(a:ops[i]? =some o) (k:Nat):(Ou ms i).testBit k=lY o k:=by
 have hi:i<ms.length:=by rw[hm.len];exact(cX.1 a).1
 unfold Ou;rw[af hi];exact hm.am i o _ a (af hi) k
theorem Px{ms:List DM}(hm:MsOk ops ms){listed:Array Bool}{j:Nat}(g:j∈Region.ready .any ops listed)(k:Nat)(b:(Ou ms j).testBit k=true):listed.getD k false=true:=by
 obtain⟨_,o,f,a⟩:=mem_ready.1 g;rw[Vf hm f]at b;unfold lY at b;obtain⟨e,d,c⟩:=cE.1 b;simp only[bq]at c;have:=a e (by simpa using d) c.2;rw[bw c.1]at this;exact this
theorem Qm{listed:Array Bool}{j k:Nat}(h:listed.getD k false=true):(listed.setIfInBounds j true).getD k false=true:=by
 by_cases e:j=k
 ·subst e
  rw[dI]at h⊢;rcases bR j listed.size with h'|h'
  ·simp[h']
  ·simp[nD h']at h
 ·rw[dI,f9 e,←dI]
  exact h
theorem Shut.put{ms:List DM}(hm:MsOk ops ms){listed:Array Bool}(c:Shut ms listed){j:Nat}(d:j∈Region.ready .any ops listed):Shut ms (listed.setIfInBounds j true):=by
 intro i x hx a k b;by_cases e:j=i
 ·subst e
  refine Qm (Px hm d k ?_);unfold Ou;rw[hx];exact b
 ·rw[dI,f9 e,←dI]at a
  exact Qm (c i x hx a k b)
theorem Ih{ms:List DM}(hm:MsOk ops ms){S:ad→Prop}{i:Nat}{t:Oper}{v:Value}(hi:ops[i]? =some t) (m:∀(j:Nat) (o:Oper),ops[j]? =some o→(∀cs b,o.op≠ .select cs b)∧(∀c,o.op≠ .defer c))
  (X:∀e a w,(∀c,e=.panic c→False)∨¬Q e a w):
  ∀(fuel:Nat) (L:vd) (listed:Array Bool) (a:Act) (w:World),
   (∀j q,ops[j]? =some q→j≠i→listed.getD j true=false→lY q i=false→
    (∀d,t.dst=some d→d∉q.looksAt ops)∧(∀d,t.dst=some d→q.dst≠some d)∧(∀d,q.dst=some d→d∉t.looksAt ops))→
   Shut ms listed→i∈Region.ready .any ops listed→YG P ops S t v a→S w.heap→(∀x∈L,x.2 w.heap)→
   Xe ms ro n P ops Q fuel ((i,S)::L) (listed.setIfInBounds i true) (a.put t.dst v) w→Xe ms ro n P ops Q (fuel+1) L listed a w:=by
 intro fuel;induction fuel with
 |zero=>
  intro L listed a w _ _ A O T R H;refine⟨fun h=>(by rw[h]at A;cases A),fun j D q f=>?_⟩
  by_cases g:j=i
  ·subst g
   rw[hi]at f;cases f;exact O.wpOp hi (m _ _ hi).2 T ⟨fun x hx=>R x (px.1 hx).1,H⟩
  ·have:=ready_mono D g
   rw[H.1]at this;cases this
 |succ fuel ih=>
  intro L listed a w s F A O T R H;refine⟨fun h=>(by rw[h]at A;cases A),fun j D q f=>?_⟩
  by_cases g:j=i
  ·subst g
   rw[hi]at f;cases f;exact O.wpOp hi (m _ _ hi).2 T ⟨fun x hx=>R x (px.1 hx).1,Ak _ _ _ _ _ _ (fun x hx=>.inl (aE _ (px.1 hx).1)) H⟩
  ·have p:=H.2 j (ready_mono D g) q f
   obtain⟨z,Z,B,K⟩:=mem_ready.1 D;rw[f]at B;cases B;have I:lY q i=false:=by
    cases y:lY q i with
    |false=>rfl
    |true=>
     unfold lY at y;obtain⟨e,Y,y⟩:=cE.1 y;simp only[bq]at y;have p:=K e (by simpa using Y) y.2;rw[bw y.1]at p;have J:=(mem_ready.1 A).1;rcases bR i listed.size with h'|h'
     ·simp[h']at J p;rw[J]at p;cases p
     ·simp[nD h']at p
   have C:tb (Ey ms (Ou ms j)) i=false:=by
    cases y:tb (Ey ms (Ou ms j)) i with
    |false=>rfl
    |true=>
     rw[GJ]at y;have p:=WC F (Px hm D) y;have J:=(mem_ready.1 A).1;rcases bR i listed.size with h'|h'
     ·simp[h']at J p;rw[J]at p;cases p
     ·simp[nD h']at p
   have E:rel ms j ((i,S)::L)=(i,S)::rel ms j L:=by simp only[rel,D3,C,cond_false]
   rw[E]at p;have h2:=Ru f (s j q f g z I) (m _ _ hi).1 (m _ _ f).1 (m _ _ f).2 X O p;have u:∀k ok,ops[k]? =some ok→k≠i→(listed.setIfInBounds j true).getD k true=false→lY ok i=false→
     (∀d,t.dst=some d→d∉ok.looksAt ops)∧(∀d,t.dst=some d→ok.dst≠some d)∧(∀d,ok.dst=some d→d∉t.looksAt ops):=fun k ok W U M V=>by
    refine s k ok W U ?_ V;by_cases N:j=k
    ·subst N;exact z
    ·rw[getD_set_ne true N]at M;exact M
   refine wpOpIn_mono (fun a' w' G=>⟨fun x hx=>G.2.1 x (aE _ hx),ih (rel ms j L) (listed.setIfInBounds j true) a' w' u (F.put hm D) (ready_mono A (Ne.symm g)) G.1 (G.2.1 _ (au ..)) (fun x hx=>G.2.1 x (aE _ hx)) ?_⟩) h2
   rw[Array.setIfInBounds_comm _ _ g];exact G.2.2
theorem zi{h:ad}{R:Prop}:∀{L:vd},yp L h R↔(∀x∈L,x.2 h)∧R
 | []=>by simp[yp]
 |(k,S)::L=>by
  simp only[yp,zi (L:=L),aC,forall_eq_or_imp,and_assoc]
theorem Xd{ms:List DM}{f:Nat}{L:vd}{listed:Array Bool}{a:Act}{w:World}(b:Region.ready .any ops listed= [])(h:Q .normal a w):Xe ms ro n P ops Q f L listed a w:=by
 cases f with
 |zero=>exact⟨b,h⟩
 |succ f=>exact⟨fun _=>h,by rw[b];simp⟩
def left(ops:Array Oper)(ls:Nat):Nat:=((List.range ops.size).filter fun j=> !ls.testBit j).length
theorem Eg{ls i:Nat}(hi:i<ops.size)(f:ls.testBit i=false):left ops (dB ls (jB i))+1=left ops ls:=by
 have key:∀l:List Nat,l.Nodup→i∈l→(l.filter fun j=> !(dB ls (jB i)).testBit j).length+1=(l.filter fun j=> !ls.testBit j).length:=by
  intro l;induction l with
  |nil=>intro _ h;cases h
  |cons x l ih=>
   intro c hm;rw[List.nodup_cons]at c;by_cases hx:x=i
   ·subst hx
    have a:(l.filter fun j=> !(dB ls (jB x)).testBit j)=l.filter fun j=> !ls.testBit j:=by
     apply List.filter_congr;intro y g;have:x≠y:=fun e=>c.1 (e▸g)
     rw[qZ,Dq,decide_eq_false this,Bool.or_false]
    have d:(dB ls (jB x)).testBit x=true:=by rw[qZ,Dq];simp
    rw[bJ,bJ,d,f,a];rfl
   ·have b:i∈l:=by rcases aC.1 hm with h|h;exact absurd h.symm hx;exact h
    have d:(dB ls (jB i)).testBit x=ls.testBit x:=by rw[qZ,Dq,decide_eq_false (Ne.symm hx),Bool.or_false]
    have:=ih c.2 b;rw[bJ,bJ,d];cases ls.testBit x with
    |true=>exact this
    |false=>exact congrArg (· +1) this
 exact key _ List.nodup_range (List.mem_range.2 hi)
theorem Wm{N:Nat}{a:List Oper}{ms:List DM}{ls:Nat}{L:vd}{d:yW}{K:cZ→ad→Prop}{r:cZ}{b:ad}:∀{l:DA},qi P N a ms l true ls L d K r b→∃i,i∈F7 l
 | .done,h=>h.elim
 | .take i rest,h=>by
  exfalso;have hc:qi P N a ms (.take i rest) true ls L d K r b=(match a[i]?,ms[i]? with|some _,some _=>False|_,_=>False):=rfl
  rw[hc]at h;split at h<;>exact h
 | .all _,h=>h.elim
 | .pick i _ _,_=>⟨i,au ..⟩
 | .last i _,_=>⟨i,au ..⟩
 | .lastT i _,_=>⟨i,au ..⟩
 | .split ..,h=>h.elim
def TT(ro:Option Nat)(n:Nat)(P:Program)(ops:Array Oper)(Q:Exit→Act→World→Prop)(N:Nat)(ms:List DM)(W:Nat→Prop)(e:Act)(f:World)(K:cZ→ad→Prop)(c:DA):Prop:=
 ∀(m:Bool) (ls:Nat) (L:vd) (d:yW) (r:cZ) (a:Act) (w:World) (listed:Array Bool) (fuel:Nat),
  qi P N ops.toList ms c m ls L d K r w.heap→Agree N r a→DecOk d r→Fr W e f a w→LsRel ops ls listed→Shut ms listed→(∀x∈L,x.2 w.heap)→
  (m=false→left ops ls≤fuel→Xe ms ro n P ops Q fuel L listed a w)∧
  (m=true→left ops ls≤fuel+1→∀i∈F7 c,i∈o8 ls ms 0→∀o,ops[i]? =some o→
   wpOpIn (FW ro) n P ops Q i (fun a' b=>(∀x∈rel ms i L,x.2 b.heap)∧Xe ms ro n P ops Q fuel (rel ms i L) (listed.setIfInBounds i true) a' b) a w)
theorem Pn{N:Nat}{ms:List DM}(hm:MsOk ops ms){W:Nat→Prop}(hW:∀o∈ops.toList,∀d,o.dst=some d→W d){a0:Act}{w0:World}{K:cZ→ad→Prop}
  (hQ:∀r a w,Agree N r a→Fr W a0 w0 a w→K r w.heap→Q .normal a w)(hnp:∀e a w,(∀c,e=.panic c→False)∨¬Q e a w)(da:DA):
  TT ro n P ops Q N ms W a0 w0 K da:=by
 have one:∀(i:Nat) (g:DA)
   (_:TT ro n P ops Q N ms W a0 w0 K g)
   (ls:Nat) (L:vd) (d:yW) (r:cZ) (a:Act) (w:World) (listed:Array Bool) (fuel:Nat),
   VI P N ops.toList i L d r w.heap (fun L' Y B h'=>qi P N ops.toList ms g false (dB ls (jB i)) L' Y K B h')→Agree N r a→DecOk d r→Fr W a0 w0 a w→LsRel ops ls listed→Shut ms listed→
   left ops ls≤fuel+1→i∈o8 ls ms 0→∀o,ops[i]? =some o→
    wpOpIn (FW ro) n P ops Q i (fun a' Z=>(∀x∈rel ms i L,x.2 Z.heap)∧Xe ms ro n P ops Q fuel (rel ms i L) (listed.setIfInBounds i true) a' Z) a w:=by
  intro i g R ls L d r a w listed fuel f z hd C y p s hr o u;have A:i<ops.size:=(cX.1 u).1;obtain⟨k,mm,hk,hki,F,_⟩:=(vQ ls ms 0 i).1 hr;unfold VI at f;rw[bS,u]at f;simp only at f;cases hw:lB ops.toList d o with
  |none=>rw[hw]at f;exact f.elim
  |some b=>
   rw[hw]at f;cases b with
   |false=>exact f.elim
   |true=>
    simp only at f;cases hq:zV P o.op with
    |true=>rw[hq]at f;exact f.elim
    |false=>
     rw[hq,cond_false]at f;unfold wpOpIn;rw[u];simp only[uh hw z hd,if_true];refine wP (Al f) (Fy z f) ?_;intro v Z ht hK;obtain⟨B,I,G,H⟩:=zD (dv:=.x) hK z hd trivial;obtain⟨hh,hs'⟩:=zi.1 I;have D:o∈ops.toList:=me (by rw[bS];exact u);have O:=Eg A F;have V:∀x∈rel ms i L,x∈wS o L:=fun x hx=>GS.2 ⟨(px.1 hx).1,by
      cases hb:lY o x.1 with
      |false=>rfl
      |true=>
        have:=(px.1 hx).2
        rw[GJ,WB (by rw[Vf hm u];exact hb)]at this;cases this⟩
     exact⟨fun x hx=>hh x (V x hx),Ak _ _ _ _ _ _ (fun x hx=>.inl (V x hx)) ((R false _ _ _ B _ Z _ fuel hs' G H (C.put (hW o D) v ht) (y.put A) (p.put hm ((rM hm y).2 hr)) hh).1 rfl (by omega))⟩
 have oneT:∀(i:Nat) (g:DA)
   (_:TT ro n P ops Q N ms W a0 w0 K g)
   (ls:Nat) (L:vd) (d:yW) (r:cZ) (a:Act) (w:World) (listed:Array Bool) (fuel:Nat),
   Uu P N ops.toList ms i L d r w.heap (fun L' Y B h'=>qi P N ops.toList ms g false (dB ls (jB i)) L' Y K B h')→Agree N r a→DecOk d r→Fr W a0 w0 a w→LsRel ops ls listed→Shut ms listed→
   left ops ls≤fuel+1→i∈o8 ls ms 0→∀o,ops[i]? =some o→
    wpOpIn (FW ro) n P ops Q i (fun a' Z=>(∀x∈rel ms i L,x.2 Z.heap)∧Xe ms ro n P ops Q fuel (rel ms i L) (listed.setIfInBounds i true) a' Z) a w:=by
  intro i g R ls L d r a w listed fuel f z hd C y p s hr o u;have A:i<ops.size:=(cX.1 u).1;obtain⟨k,mm,hk,hki,F,_⟩:=(vQ ls ms 0 i).1 hr;unfold Uu at f;rw[bS,u]at f;simp only at f;cases hw:lB ops.toList d o with
  |none=>rw[hw]at f;exact f.elim
  |some b=>
   rw[hw]at f;cases b with
   |false=>exact f.elim
   |true=>
    simp only at f;cases hq:zV P o.op with
    |true=>rw[hq]at f;exact f.elim
    |false=>
     rw[hq,cond_false]at f;unfold wpOpIn;rw[u];simp only[uh hw z hd,if_true];refine wP (Al f) (Fy z f) ?_;intro v Z ht hK;obtain⟨B,I,G,H⟩:=zD (dv:=.x) hK z hd trivial;obtain⟨hh,hs'⟩:=zi.1 I;have D:o∈ops.toList:=me (by rw[bS];exact u);have O:=Eg A F;exact⟨hh,(R false _ _ _ B _ Z _ fuel hs' G H (C.put (hW o D) v ht) (y.put A) (p.put hm ((rM hm y).2 hr)) hh).1 rfl (by omega)⟩
 induction da with
 |done=>
  intro m ls L d r a w listed fuel f z hd C y p J;cases m with
  |true=>exact f.elim
  |false=>
   refine⟨fun _ _=>?_,fun h=>by cases h⟩
   have hc:qi P N ops.toList ms .done false ls L d K r w.heap=bif ze (o8 ls ms 0) []then K r w.heap else False:=rfl;rw[hc]at f;cases hb:ze (o8 ls ms 0) []with
   |false=>rw[hb]at f;exact f.elim
   |true=>
    rw[hb]at f;have hnil:Region.ready .any ops listed= []:=by
     apply List.eq_nil_iff_forall_not_mem.2;intro j E;rw[rM hm y,BA hb]at E;cases E
    exact Xd hnil (hQ r a w z C f)
 |take i g R=>
  intro m ls L d r a w listed fuel f z hd C y p J;cases m with
  |true=>
   exfalso;have hc:qi P N ops.toList ms (.take i g) true ls L d K r w.heap=(match ops.toList[i]?,ms[i]? with|some _,some _=>False|_,_=>False):=rfl
   rw[hc]at f;split at f<;>exact f
  |false=>
   refine⟨fun _ s=>?_,fun h=>by cases h⟩
   have hc:qi P N ops.toList ms (.take i g) false ls L d K r w.heap=(match ops.toList[i]?,ms[i]? with
    |some o,some mi=>bif Iy mi i ls ops.toList.length then
      (match lB ops.toList d o with
       |none=>False
       |some false=>Ev N o undef r fun B=>qi P N ops.toList ms g false (dB ls (jB i)) L (vZ d o .u) K B w.heap
       |some true=>bif zV P o.op then
          FS P none o.op r (fun v S=>Ev N o v r fun B=>match S with
            |none=>qi P N ops.toList ms g false (dB ls (jB i)) L (vZ d o (OZ d o.op)) K B w.heap
            |some S=>qi P N ops.toList ms g false (dB ls (jB i)) ((i,S)::L) (vZ d o (OZ d o.op)) K B w.heap) w.heap
          else False)
     else False
    |_,_=>False):=rfl
   rw[hc]at f;split at f
   ·rename_i o mi u hmi
    rw[bS]at u;cases htk:Iy mi i ls ops.toList.length with
    |false=>rw[htk]at f;exact f.elim
    |true=>
     rw[htk,cond_true]at f;unfold Iy at htk;simp only[bq,te,GJ]at htk;obtain⟨⟨hun,X⟩,hfr⟩:=htk;have A:i<ops.size:=(cX.1 u).1;have q:i∈Region.ready .any ops listed:=(Mh hm y).2 ⟨mi,hmi,hun,X⟩;have O:=Eg (ops:=ops) A hun;obtain⟨U,rfl⟩:∃U,fuel=U+1:=⟨fuel-1,by omega⟩
     have D:o∈ops.toList:=me (by rw[bS];exact u);have hcov:∀j,j<ops.size→ls.testBit j=true∨mi.fr.testBit j=true:=by
      intro j E;have h0:=bw hfr;have hpb:(Bp (jB ops.toList.length)).testBit j=true:=by
        have:Bp (jB ops.toList.length)=2^ops.toList.length-1:=rfl;rw[this,Nat.testBit_two_pow_sub_one];simpa using E
      have hand:(md (dB ls mi.fr) (Bp (jB ops.toList.length))).testBit j=((dB ls mi.fr).testBit j&&(Bp (jB ops.toList.length)).testBit j):=kw _ _ j;rw[h0,hpb,Bool.and_true,qZ]at hand;exact(Bool.or_eq_true_iff).1 hand.symm
     have M:∀j oj,ops[j]? =some oj→j≠i→listed.getD j true=false→lY oj i=false→
        (∀d,o.dst=some d→d∉oj.looksAt ops)∧(∀d,o.dst=some d→oj.dst≠some d)∧(∀d,oj.dst=some d→d∉o.looksAt ops):=by
      intro j oj hoj hne hju hna;have E:j<ops.size:=(cX.1 hoj).1;rw[y.unlisted E]at hju;have hjm:j<ms.length:=by rw[hm.len];exact E
      have hmj:=af hjm;rcases hcov j E with h|h
      · rw[h]at hju;cases hju
      · rcases hm.free i j mi _ hmi hmj h with h|h|h
        ·exact absurd h hne
        ·rw[hm.am j oj _ hoj hmj,hna]at h;cases h
        ·exact YZ hm u hoj hmi hmj h
     cases hw:lB ops.toList d o with
     |none=>rw[hw]at f;exact f.elim
     |some b=>
      rw[hw]at f;have hwd:=uh hw z hd;cases b with
      |false=>
        obtain⟨B,I,G,H⟩:=zD (dv:=.u) f z hd rfl;have hy:YG P ops (fun _=>True) o undef a:=.inr ⟨hwd,rfl⟩
        refine Ih hm u hm.nosel hnp U L listed a w M p q hy trivial J ?_;refine Ak _ L _ _ _ _ (fun x hx=>(aC.1 hx).elim (fun e=>.inr fun h=>by rw[e];trivial) .inl) ?_
        exact(R false _ _ _ B _ w _ U I G H (C.put (hW o D) undef (Tame.refl w)) (y.put A) (p.put hm q) J).1 rfl (by omega)
      |true=>
        simp only at f;cases hq:zV P o.op with
        |false=>rw[hq]at f;exact f.elim
        |true=>
         rw[hq,cond_true]at f;obtain⟨v,S,hK,hS,hdv,hrun⟩:=Mk z f d hd;obtain⟨B,I,G,H⟩:=zD hK z hd hdv;have hfr':=C.put (hW o D) v (Tame.refl w);cases S with
         |none=>
           have hy:YG P ops (fun _=>True) o v a:=.inl ⟨hwd,fun w _=>hrun w trivial⟩
           refine Ih hm u hm.nosel hnp U L listed a w M p q hy trivial J ?_;refine Ak _ L _ _ _ _ (fun x hx=>(aC.1 hx).elim (fun e=>.inr fun h=>by rw[e];trivial) .inl) ?_
           exact(R false _ _ _ B _ w _ U I G H hfr' (y.put A) (p.put hm q) J).1 rfl (by omega)
         |some S=>
           have hy:YG P ops S o v a:=.inl ⟨hwd,fun w h=>hrun w h⟩
           refine Ih hm u hm.nosel hnp U L listed a w M p q hy hS J ?_;exact(R false _ _ _ B _ w _ U I G H hfr' (y.put A) (p.put hm q) (fun x hx=>(aC.1 hx).elim (fun e=>by rw[e];exact hS) (J x))).1 rfl (by omega)
   ·exact f.elim
 |all l R=>
  intro m ls L d r a w listed fuel f z hd C y p J;cases m with
  |true=>exact f.elim
  |false=>
   refine⟨fun _ s=>?_,fun h=>by cases h⟩
   have hc:qi P N ops.toList ms (.all l) false ls L d K r w.heap=bif ze (o8 ls ms 0) (F7 l)then qi P N ops.toList ms l true ls L d K r w.heap else False:=rfl;rw[hc]at f;cases hb:ze (o8 ls ms 0) (F7 l)with
   |false=>rw[hb]at f;exact f.elim
   |true=>
    rw[hb,cond_true]at f;obtain⟨i,hi⟩:=Wm f;rw[←BA hb]at hi;have X:=(rM hm y (j:=i)).2 hi;obtain⟨k,mm,hk,hki,F,_⟩:=(vQ ls ms 0 i).1 hi;have A:i<ops.size:=by
     have:=(bN.1 hk).1;rw[hm.len]at this;omega
    have O:=Eg (ops:=ops) A F;obtain⟨U,rfl⟩:∃U,fuel=U+1:=⟨fuel-1,by omega⟩
    refine⟨fun h=>(by rw[h]at X;cases X),fun j E o u=>?_⟩
    have hj':=(rM hm y).1 E;exact(R true ls L d r a w listed U f z hd C y p J).2 rfl s j (by rw[←BA hb];exact hj') hj' o u
 |pick i g more ih1 ih2=>
  intro m ls L d r a w listed fuel f z hd C y p J;cases m with
  |false=>exact f.elim
  |true=>
   refine⟨fun h=>(by cases h),fun _ s j E T o u=>?_⟩
   have f:VI P N ops.toList i L d r w.heap (fun L' Y B h'=>qi P N ops.toList ms g false (dB ls (jB i)) L' Y K B h')∧qi P N ops.toList ms more true ls L d K r w.heap:=f
   rcases aC.1 E with rfl|E
   ·exact one _ g ih1 ls L d r a w listed fuel f.1 z hd C y p s T o u
   ·exact(ih2 true ls L d r a w listed fuel f.2 z hd C y p J).2 rfl s j E T o u
 |last i g R=>
  intro m ls L d r a w listed fuel f z hd C y p J;cases m with
  |false=>exact f.elim
  |true=>
   refine⟨fun h=>(by cases h),fun _ s j E T o u=>?_⟩
   have f:VI P N ops.toList i L d r w.heap (fun L' Y B h'=>qi P N ops.toList ms g false (dB ls (jB i)) L' Y K B h'):=f
   have hji:j=i:=aD.1 E;subst hji;exact one _ g R ls L d r a w listed fuel f z hd C y p s T o u
 |lastT i g R=>
  intro m ls L d r a w listed fuel f z hd C y p J;cases m with
  |false=>exact f.elim
  |true=>
   refine⟨fun h=>(by cases h),fun _ s j E T o u=>?_⟩
   have f:Uu P N ops.toList ms i L d r w.heap (fun L' Y B h'=>qi P N ops.toList ms g false (dB ls (jB i)) L' Y K B h'):=f
   have hji:j=i:=aD.1 E;subst hji;exact oneT _ g R ls L d r a w listed fuel f z hd C y p s T o u
 |split t yes no ih1 ih2=>
  intro m ls L d r a w listed fuel f z hd C y p J;cases m with
  |true=>exact f.elim
  |false=>
   refine⟨fun _ s=>?_,fun h=>by cases h⟩
   have hc:qi P N ops.toList ms (.split t yes no) false ls L d K r w.heap=(match mU r t with
    |some (.bool b)=>CondP b (qi P N ops.toList ms yes false ls L ((t,.t)::d) K ((t,.bool true)::r) w.heap) (qi P N ops.toList ms no false ls L ((t,.f)::d) K ((t,.bool false)::r) w.heap)
    |_=>False):=rfl
   rw[hc]at f;split at f
   ·rename_i b hlk
    cases b with
    |true=>exact(ih1 false ls L _ _ a w listed fuel (f.yes rfl) (z.known hlk) (hd.known rfl) C y p J).1 rfl s
    |false=>exact(ih2 false ls L _ _ a w listed fuel (f.no rfl) (z.known hlk) (hd.known rfl) C y p J).1 rfl s
   ·exact f.elim
end Go.Lift
namespace Go.Lift
open Go
variable {P:Program} {ro:Option Nat} {n:Nat}
theorem MI{r:cZ}:∀{l:List Nat} {r0:cZ},UT r l=some r0→∀t v,mU r0 t=some v→t∈l∧mU r t=some v
 | [],r0,h,t,v,hv=>by cases h;cases hv
 |s::l,r0,h,t,v,hv=>by
  have h:(match mU r s,UT r l with|some v,some l=>some ((s,v)::l)|_,_=>none)=some r0:=h
  split at h
  ·rename_i u l' hu hl
   cases h;by_cases e:s=t
   ·subst e;rw[kO]at hv;cases hv;exact⟨au ..,hu⟩
   ·rw[jF u _ e]at hv
    have:=MI hl t v hv;exact⟨aE _ this.1,this.2⟩
  ·cases h
theorem FZ{m:Nat}{t:Nat}{v:Value}:∀{r:cZ},mU (AK m r) t=some v→m.testBit t=false∧mU r t=some v
 | [],h=>by cases h
 |(k,u)::r,h=>by
  have h:mU (bif tb m k then AK m r else(k,u)::AK m r) t=some v:=h;cases hk:tb m k with
  |true=>
   rw[hk]at h;have:=FZ h;by_cases e:k=t
   ·subst e;rw[GJ,this.1]at hk;cases hk
   ·rw[jF u _ e];exact this
  |false=>
   rw[hk]at h;have h:mU ((k,u)::AK m r) t=some v:=h;by_cases e:k=t
   ·subst e;rw[kO]at h⊢;rw[GJ]at hk;exact⟨hk,h⟩
   ·rw[jF u _ e]at h⊢;exact FZ h
theorem Fx{t:Nat}:∀{l:List Oper},(Xh l).testBit t=false→¬oT t l=true
 | [],_,h=>by cases h
 |o::l,hm,h=>by
  have hm:(dB (qF o) (Xh l)).testBit t=false:=hm;rw[qZ,pr]at hm;have h:(match o.dst with|some d=>bif bX d t then true else oT t l|none=>oT t l)=true:=h
  cases hd:o.dst with
  |none=>rw[hd]at h;exact Fx hm.2 h
  |some d=>
   rw[hd]at h;cases e:bX d t with
   |true=>have:=(A8 o t).2 (by rw[hd,bw e]);rw[hm.1]at this;cases this
   |false=>simp only[e]at h;exact Fx hm.2 h
theorem PU{a b:Option Nat}{m:Nat}(h:acC a b=some m):∃x y,a=some x∧b=some y∧m=dB x y:=by
 cases a<;>cases b<;>cases h
 exact⟨_,_,rfl,rfl,rfl⟩
theorem Xg{t:Nat}(c:Code):∀{m:Nat},B7 c=some m→m.testBit t=false→¬je t c=true:=by
 induction c with
 |skip=>intro m _ _ h;cases h
 |region id ops dr=>intro m h hm d;cases h;exact Fx hm d
 |seq a b iha ihb=>
  intro m h hm d;obtain⟨x,y,hx,e,rfl⟩:=PU (show acC (B7 a) (B7 b)=some m from h)
  rw[qZ,pr]at hm;have d:(bif je t a then true else je t b)=true:=d;cases ha:je t a with
  |true=>exact iha hx hm.1 ha
  |false=>rw[ha]at d;exact ihb e hm.2 d
 |cond c a b iha ihb=>
  intro m h hm d;obtain⟨x,y,hx,e,rfl⟩:=PU (show acC (B7 a) (B7 b)=some m from h)
  rw[qZ,pr]at hm;have d:(bif je t a then true else je t b)=true:=d;cases ha:je t a with
  |true=>exact iha hx hm.1 ha
  |false=>rw[ha]at d;exact ihb e hm.2 d
 |block id b ih=>exact fun h hm=>ih h hm
 |loop b ih=>exact fun h hm=>ih h hm
 |rangeFunc _ _ _ _ _ _=>intro m h;cases h
 |scope b ih=>exact fun h hm=>ih h hm
 |_=>intro m _ _ h;cases h
theorem Agree.keep{N:Nat}{r e:cZ}{a a':Act}{w d:World}{m:Nat}{c:Code}(h:Agree N r a)(hm:B7 c=some m)(b:Fr (fun t=>je t c=true) a w a' d)(h':Agree N e a'):Agree N (AK m r) a':=
 ⟨h'.size,fun t v hv=>by
  obtain⟨g,f⟩:=FZ hv
  rw[b.same t (Xg c hm g)];exact h.look t v f⟩
theorem Aq{st:St}{r:cZ}{f:zU (CL st)→Prop}(h:GN st r f):∃t,IE r st=some (qq (CL st) t)∧f t:=by
 unfold GN at h;split at h
 ·rename_i vs hv
  obtain⟨t,rfl,a⟩:=vY h;exact⟨t,hv,a⟩
 ·exact h.elim
theorem Agree.zip{N:Nat}{r:cZ}{a:Act}(h:Agree N r a):∀{st:St} {vs:List Value} {r0:cZ},IE r st=some vs→Agree N r0 a→Agree N (qA st vs r0) a
 | [],vs,r0,_,h0=>by cases vs<;>exact h0
 |(i,k)::st,vs,r0,hv,h0=>by
  unfold IE at hv;split at hv
  ·rename_i v vs' h1 h2
   cases hv;have:=Agree.zip h h2 h0;refine⟨this.size,fun t u b=>?_⟩
   by_cases e:i=t
   ·subst e
    rw[show qA ((i,k)::st) (v::vs') r0=(i,v)::qA st vs' r0 from rfl,kO]at b;cases b
    exact h.look i v h1
   ·rw[show qA ((i,k)::st) (v::vs') r0=(i,v)::qA st vs' r0 from rfl,jF v _ e]at b
    exact this.look t u b
  ·cases hv
theorem DL{t:Nat}:∀{l:List Oper} {o:Oper},o∈l→o.dst=some t→oT t l=true
 | [],_,h,_=>by cases h
 |x::l,o,h,hd=>by
  have e:oT t (x::l)=(match x.dst with|some d=>bif bX d t then true else oT t l|none=>oT t l):=rfl
  rw[e];rcases aC.1 h with rfl|h
  ·rw[hd];simp only;rw[show bX t t=true from vK t];rfl
  ·have:=DL h hd
   cases x.dst with
   |none=>exact this
   |some d=>
    simp only;cases bX d t with
    |true=>rfl
    |false=>exact this
def LWP(ro:Option Nat)(n:Nat)(P:Program)(c:Code)(Q:Exit→Act→World→Prop)(a:Act)(w:World):Prop:=
 ∀(b:Frame) (k:List Item) (cs:List Frame),b.roundOf=(FW ro).round→(FW ro).fn b.fn→(FW ro).room (cs.length+1+n)→
  ∃e a' w',Q e a' w'∧ArrivesIn (Machine.fenced P (FW ro)) P (lone (b.atR a (.code c:: .inLoop c::k)) cs w) b k cs e a' w'
theorem LWP.step{c:Code}{Q:Exit→Act→World→Prop}{a:Act}{w:World}(h:c.wpIn (FW ro) n P (Exit.then (LWP ro n P c Q) Q) a w):LWP ro n P c Q a w:=by
 intro b k cs m q p;obtain⟨e,j,i,g,d⟩:=h b (.inLoop c::k) cs m q p;cases e with
 |normal=>
  obtain⟨s,t,u,o,f⟩:=g b k cs m q p;exact⟨s,t,u,o,.of_steps (StepsIn.trans d (.one (fenced_calm q p rfl) stepR_inLoop)) f⟩
 |exit id=>exact⟨_,j,i,g,.pass (x:=.inLoop c) rfl (fun _ _=>.inl (by simp)) d⟩
 |goto l=>exact⟨_,j,i,g,.pass (x:=.inLoop c) rfl (fun _ _=>.inl (by simp)) d⟩
 |ret=>exact⟨_,j,i,g,.pass (x:=.inLoop c) rfl (fun _ _=>.inl (by simp)) d⟩
 |panic ch=>exact⟨_,j,i,g,.pass (x:=.inLoop c) rfl (fun _ _=>.inl (by simp)) d⟩
 |outgrown=>exact⟨_,j,i,g,.pass (x:=.inLoop c) rfl (fun _ _=>.inl (by simp)) d⟩
theorem LWP.loop{c:Code}{Q:Exit→Act→World→Prop}{a:Act}{w:World}(h:LWP ro n P c Q a w):(Code.loop c).wpIn (FW ro) n P Q a w:=by
 intro b k cs f i g;obtain⟨e,a',m,j,d⟩:=h b k cs f i g;exact⟨e,a',m,j,.of_steps (.one (fenced_calm i g rfl) stepR_loop) d⟩
theorem MY(r:cZ):DecOk [] r:=fun _=>.inl rfl
theorem aai(ops:Array Oper)(ls:Nat):left ops ls≤ops.size:=by
 unfold left;exact Nat.le_trans (List.length_filter_le ..) (by simp)
theorem oW(f:P.follows .mixedOrders=true){N id:Nat}{ops:Array Oper}{g:Bool}{v:Ann}{K:cZ→ad→Prop}{r:cZ}{a:Act}{w:World}{Q:Exit→Act→World→Prop}
  (b:FJ P N ops.toList g v K r w.heap)(m:Agree N r a)(u:∀c a w,¬Q (.panic c) a w)
  (i:∀r' a' w',Agree N r' a'→Fr (fun t=>oT t ops.toList=true) a w a' w'→K r' w'.heap→Q .normal a' w'):(Code.region id ops g).wpIn (FW ro) n P Q a w:=by
 have k:∀o∈ops.toList,∀d,o.dst=some d→oT d ops.toList=true:=fun o s d hd=>DL s hd
 cases g with
 |false=>
  have key:∀ek,IM P N ek ops.toList ops.toList [] K r w.heap→(Code.region id ops false).wpIn (FW ro) n P Q a w:=fun ek b=>by
   refine wpIn_region ?_;rw[List.range_eq_range',show ops.size=ops.toList.length from rfl]
   exact IL k i ops.toList 0 rfl [] r a w b m (MY r) (Fr.refl _ a w)
  unfold FJ at b;simp only at b;split at b
  ·exact key _ b
  ·exact key _ b
 |true=>
  unfold FJ at b;simp only at b;generalize UK ops.toList=ms at b;cases hm:H5 ops.toList ms with
  |false=>rw[hm]at b;exact b.elim
  |true=>
   rw[hm,cond_true]at b;refine wpIn_region_any f (Ub (ms:=ms) _ [] _ _ _ ?_);have q:Tame w {w with drawn:=w.drawn+1}:=⟨rfl,rfl,rfl⟩;have p:Fr (fun t=>oT t ops.toList=true) a w a {w with drawn:=w.drawn+1}:=⟨q,rfl,fun _ _=>rfl⟩
   refine(Pn (Sv hm) k i (fun e a w=>?_) _ false 0 [] [] r a {w with drawn:=w.drawn+1} _ ops.size b m (MY r) p LsRel.start (fun j x _ h=>by rw[(LsRel.start (ops:=ops)).bit,ij]at h;cases h) (fun x hx=>by cases hx)).1 rfl (aai ops 0)
   cases e with
   |panic ch=>exact .inr (u _ a w)
   |_=>exact .inl fun c hc=>by cases hc
theorem Ie(t:Nat)(x y:Code):je t (.seq x y)=(bif je t x then true else je t y):=rfl
theorem GH(t:Nat)(c:Operand)(x y:Code):je t (.cond c x y)=(bif je t x then true else je t y):=rfl
theorem On{a b:Bool}:(bif a then true else b)=true↔a=true∨b=true:=by cases a<;>cases b<;>decide
theorem wQ(u:P.follows .mixedOrders=true){N:Nat}(c:Code):∀(D:Ann) (Kn:cZ→ad→Prop) (Kx:Ex→cZ→ad→Prop) (r:cZ) (a:Act) (w:World) (Q:Exit→Act→World→Prop),
  ot P N c D Kn Kx r w.heap→Agree N r a→(∀O a w,¬Q (.panic O) a w)→
  (∀j a' g,Agree N j a'→Fr (fun t=>je t c=true) a w a' g→Kn j g.heap→Q .normal a' g)→
  (∀i j a' g,Agree N j a'→Fr (fun t=>je t c=true) a w a' g→Kx (.exit i) j g.heap→Q (.exit i) a' g)→
  (∀j a' g,Agree N j a'→Fr (fun t=>je t c=true) a w a' g→Kx .ret j g.heap→Q .ret a' g)→
  c.wpIn (FW ro) n P Q a w:=by
 induction c with
 |skip=>
  intro D Kn Kx r a w Q o s _ z _ _;exact wpIn_skip (z r a w s (Fr.refl ..) o)
 |region id ops dr=>
  intro D Kn Kx r a w Q o s A z _ _;cases D with
  |reg keep inner=>
   have o:FJ P N ops.toList dr inner (fun j h'=>match UT j keep with|some r0=>Kn r0 h'|none=>False) r w.heap:=o
   refine oW u o s A fun j a' g M U hk=>?_
   split at hk
   ·rename_i r0 hr0
    refine z r0 a' g ⟨M.size,fun t v hv=>M.look t v (MI hr0 t v hv).2⟩ U hk
   ·exact hk.elim
  |nil=>exact oW u (show FJ P N ops.toList dr (.nil) Kn r w.heap from o) s A z
  |node x y=>exact oW u (show FJ P N ops.toList dr (.node x y) Kn r w.heap from o) s A z
  |join st x y=>exact oW u (show FJ P N ops.toList dr (.join st x y) Kn r w.heap from o) s A z
  |loop st y=>exact oW u (show FJ P N ops.toList dr (.loop st y) Kn r w.heap from o) s A z
  |draw d=>exact oW u (show FJ P N ops.toList dr (.draw d) Kn r w.heap from o) s A z
  |kinds k v=>exact oW u (show FJ P N ops.toList dr (.kinds k v) Kn r w.heap from o) s A z
  |rf ks x y=>exact oW u (show FJ P N ops.toList dr (.rf ks x y) Kn r w.heap from o) s A z
 |seq x y ihx ihy=>
  intro D Kn Kx r a w Q o s A z hx G;have E:∀{a' g},Fr (fun t=>je t x=true) a w a' g→Fr (fun t=>je t (.seq x y)=true) a w a' g:=fun h=>h.mono fun t L=>by rw[Ie,On];exact .inl L
  have C:∀{a' g H I},Fr (fun t=>je t x=true) a w a' g→Fr (fun t=>je t y=true) a' g H I→Fr (fun t=>je t (.seq x y)=true) a w H I:=
   fun h k=>(E h).trans (k.mono fun t L=>by rw[Ie,On];exact .inr L)
  have plain:∀V R,ot P N x V (fun j h'=>ot P N y R Kn Kx j h') Kx r w.heap→(Code.seq x y).wpIn (FW ro) n P Q a w:=fun V R o=>by
   refine wpIn_seq (ihx V _ Kx r a w _ o s (fun O a w=>A O a w) ?_ (fun i j a' g q h2 p=>hx i j a' g q (E h2) p) (fun j a' g q h2 p=>G j a' g q (E h2) p))
   intro r1 S Y F B K;exact ihy R Kn Kx r1 S Y Q K F A (fun j a' g q h2 p=>z j a' g q (C B h2) p) (fun i j a' g q h2 p=>hx i j a' g q (C B h2) p) (fun j a' g q h2 p=>G j a' g q (C B h2) p)
  cases D with
  |join st V R=>
   have o:(match B7 x with
      |none=>False
      |some m=>Join (T:=zU (CL st)) (fun t h'=>ot P N y R Kn Kx (qA st (qq (CL st) t) (AK m r)) h')
       fun J=>ot P N x V (fun j h'=>GN st j fun t=>J t h') Kx r w.heap):=o
   split at o
   ·exact o.elim
   ·rename_i m hm
    refine wpIn_seq (ihx V _ Kx r a w _ o.run s (fun O a w=>A O a w) ?_ (fun i j a' g q h2 p=>hx i j a' g q (E h2) p) (fun j a' g q h2 p=>G j a' g q (E h2) p))
    intro r1 S Y F B K;obtain⟨t,hst,hs2⟩:=Aq K;have ha2:Agree N (qA st (qq (CL st) t) (AK m r)) S:=F.zip hst (s.keep hm B F);exact ihy R Kn Kx _ S Y Q hs2 ha2 A (fun j a' g q h2 p=>z j a' g q (C B h2) p) (fun i j a' g q h2 p=>hx i j a' g q (C B h2) p) (fun j a' g q h2 p=>G j a' g q (C B h2) p)
  |_=>exact plain _ _ o
 |cond c x y ihx ihy=>
  intro D Kn Kx r a w Q o s A z hx G;have o:(match eD r c with
   |some (.bool t)=>CondP t (ot P N x D.l Kn Kx r w.heap) (ot P N y D.r Kn Kx r w.heap)
   |_=>False):=o
  have E:∀{a' g},Fr (fun t=>je t x=true) a w a' g→Fr (fun t=>je t (.cond c x y)=true) a w a' g:=fun h=>h.mono fun t L=>by rw[GH,On];exact .inl L
  have C:∀{a' g},Fr (fun t=>je t y=true) a w a' g→Fr (fun t=>je t (.cond c x y)=true) a w a' g:=fun h=>h.mono fun t L=>by rw[GH,On];exact .inr L
  split at o
  ·rename_i t L
   refine wpIn_cond_split (oZ s L) (fun e=>?_) (fun e=>?_)
   ·exact ihx _ Kn Kx r a w Q (o.yes e) s A (fun j a' g q h2 p=>z j a' g q (E h2) p) (fun i j a' g q h2 p=>hx i j a' g q (E h2) p) (fun j a' g q h2 p=>G j a' g q (E h2) p)
   ·exact ihy _ Kn Kx r a w Q (o.no e) s A (fun j a' g q h2 p=>z j a' g q (C h2) p) (fun i j a' g q h2 p=>hx i j a' g q (C h2) p) (fun j a' g q h2 p=>G j a' g q (C h2) p)
  ·exact o.elim
 |block id b ih=>
  intro D Kn Kx r a w Q o s A z hx G;refine wpIn_block (ih D Kn _ r a w _ o s (fun O a w=>A O a w) z (fun i j a' g q h2 p=>?_) G)
  simp only[Exit.inBlock]at p⊢;cases hi:bX i id with
  |true=>
   rw[hi,cond_true]at p;rw[if_pos (bw hi)];exact z j a' g q h2 p
  |false=>
   rw[hi,cond_false]at p;rw[if_neg (fun e=>by rw[e,vK]at hi;cases hi)]
   exact hx i j a' g q h2 p
 |loop b ih=>
  intro D Kn Kx r a w Q o s A z hx G;cases D with
  |loop st R=>
   have o:(match B7 b with
      |none=>False
      |some m=>GN st r fun t0=>LoopP (T:=zU (CL st)) (fun W t h'=>ot P N b R (fun j h''=>GN st j fun t'=>W t' h'') Kx (qA st (qq (CL st) t) (AK m r)) h') t0 w.heap):=o
   split at o
   ·exact o.elim
   ·rename_i m hm
    obtain⟨t0,X,hl⟩:=Aq o;have h0:=hl.run (fun t h'=>∀a' g,g.heap=h'→Agree N (qA st (qq (CL st) t) (AK m r)) a'→Fr (fun t=>je t b=true) a w a' g→LWP ro n P b Q a' g) (fun t h' hF a' g hw M U=>by
     subst hw
     refine LWP.step (ih R _ Kx _ a' g _ hF M (fun O a w=>A O a w) ?_ (fun i j H I q h2 p=>hx i j H I q (U.trans h2) p) (fun j H I q h2 p=>G j H I q (U.trans h2) p))
     intro r1 S Y F B K
     obtain⟨t1,Z,hk1⟩:=Aq K
     exact hk1 S Y rfl (F.zip Z (s.keep hm (U.trans B) F)) (U.trans B))
    exact LWP.loop (h0 a w rfl (s.zip X (s.keep hm (Fr.refl _ a w) s)) (Fr.refl _ a w))
  |_=>exact o.elim
 |rangeFunc f params assign body _ _=>intro D Kn Kx r a w Q o;exact o.elim
 |exit id=>
  intro D Kn Kx r a w Q o s A z hx G;exact wpIn_exit (hx id r a w s (Fr.refl ..) o)
 |scope b _=>intro D Kn Kx r a w Q o;exact o.elim
 |label l=>
  intro D Kn Kx r a w Q o s A z hx G;exact wpIn_label (z r a w s (Fr.refl ..) o)
 |goto l=>intro D Kn Kx r a w Q o;exact o.elim
 |ret=>
  intro D Kn Kx r a w Q o s A z hx G;exact wpIn_ret (G r a w s (Fr.refl ..) o)
 |refuse why=>intro D Kn Kx r a w Q o;exact o.elim
end Go.Lift
namespace Go.Lift
open Go
variable {P:Program}
theorem ui{N:Nat}{r:cZ}{a:Act}{w:World}(e:Agree N r a):∀{l:List ResultVar} {K:List Value→Prop},qB P r w.heap l K→
  ∃vs,(∀g:ResultVar→Sem Value,(∀t,g (.tmp t)=pure (a.tmps.getD t undef))→(∀x t,g (.cell x t)=do loadVar t (←asAddr (a.tmps.getD x undef)))→(l.mapM g).run P w=.ok vs w)∧K vs
 | [],K,h=>⟨[],fun g _ _=>by rw[List.mapM_nil];rfl,h⟩
 | .tmp t::l,K,h=>by
  unfold qB at h;split at h
  ·rename_i v hv
   obtain⟨vs,i,f⟩:=ui e h;refine⟨v::vs,fun g c d=>?_,f⟩
   rw[List.mapM_cons,c];simp only[Sem.run_bind,Sem.run_pure,Result.andThen_ok];rw[i g c d];simp only[Result.andThen_ok,e.look t v hv]
  ·exact h.elim
 | .cell x t::l,K,h=>by
  unfold qB at h;split at h
  ·rename_i v hv
   obtain⟨u,S,m,n,k⟩:=GT h;obtain⟨vs,i,f⟩:=ui e m;refine⟨u::vs,fun g c d=>?_,f⟩
   rw[List.mapM_cons,d];have j:(do loadVar t (←asAddr (a.tmps.getD x undef)):Sem Value).run P w=.ok u w:=by
    rw[e.look x v hv];unfold PD at h;cases v with
    |pointer p=>cases p with
     |none=>exact h.elim
     |some b=>exact k w n
    |_=>exact h.elim
   simp only[Sem.run_bind]at j⊢;rw[j];simp only[Result.andThen_ok];rw[i g c d];simp only[Sem.run_pure,Result.andThen_ok]
  ·exact h.elim
theorem Mg(ks:List Kind)(t:zU ks):(if h:(qq ks t).toArray.size=1 then(qq ks t).toArray[0]else Value.tuple (qq ks t).toArray)=I0 ks (qq ks t):=by
 match ks,t with
 | [],t=>rfl
 | [k],t=>rfl
 |k::l::ks,(x,t)=>
  have:(qq (k::l::ks) (x,t)).length=(k::l::ks).length:=w8 _ _;rw[dif_neg (by simp only[dD,this,ar];omega)];rfl
theorem zF:∀(vs:List Value) (i t:Nat) (v:Value),mU (uo i vs) t=some v→i≤t∧vs[t-i]? =some v
 | [],i,t,v,h=>by cases h
 |u::vs,i,t,v,h=>by
  by_cases e:i=t
  ·subst e
   rw[show uo i (u::vs)=(i,u)::uo (i+1) vs from rfl,kO]at h
   cases h;exact⟨Nat.le_refl _,by simp⟩
  ·rw[show uo i (u::vs)=(i,u)::uo (i+1) vs from rfl,jF u _ e]at h
   obtain⟨a,h2⟩:=zF vs (i+1) t v h;refine⟨by omega,?_⟩;rw[show t-i=(t-(i+1))+1 by omega,List.getElem?_cons_succ]
   exact h2
theorem HE.intro(i:P.follows .mixedOrders=true){f:FuncId}{fn:Func}{c:Code}{q:Ann}{args:List Value}{ks:List Kind}{K:zU ks→ad→Prop}{h:ad}
  (x:P.funcs[f]? =some fn) (A:fn.body=some c) (d:∀(args:Array Value) (w:World),(callFunc f args).run P w=.ok (.enter f args) w) (p:args.length≤fn.ntmps)
  (y:Uv P fn c q args ks K h):HE P f args ks K h:=by
 refine⟨fun w z=>⟨d,?_⟩⟩
 subst z;refine(callsIn_wide (n:=0)).1 (callsIn_of_wp (F:=FW none) x A trivial ?_ rfl);have B:Agree fn.ntmps (uo 0 args) {tmps:=args.toArray++vj (fn.ntmps-args.toArray.size) undef,defers:= []}:=by
  refine⟨by simp;omega,fun t v hv=>?_⟩
  obtain⟨_,h2⟩:=zF args 0 t v hv;simp only[fz]at h2;have j:=(bN.1 h2).1;simp[Array.getElem?_append,j];rw[af j]at h2;cases h2;rfl
 have k:∀o a' (b:World),Agree fn.ntmps o a'→Fr (fun t=>je t c=true) {tmps:=args.toArray++vj (fn.ntmps-args.toArray.size) undef,defers:= []} w a' b→
   qB P o b.heap fn.results.toList (fun vs=>HJ ks vs fun t=>K t b.heap)→
   a'.defers= []∧∃v,(results fn a'.tmps).run P b=.ok v b∧(Tame w b∧∃t:zU ks,Ending.returned v=.returned (I0 ks (qq ks t))∧K t b.heap):=fun o a' b m e s=>by
  obtain⟨vs,g,hd⟩:=ui m s;obtain⟨t,rfl,u⟩:=vY hd;refine⟨e.defers,_,?_,e.tame,t,rfl,u⟩;unfold results;rw[pX];simp only[Sem.run_bind,Sem.run_map];rw[g _ (fun _=>rfl) (fun _ _=>rfl)]
  simp only[Result.andThen_ok,Sem.run_pure];rw[←Mg]
 exact wQ i c q _ _ _ _ w _ y B (fun C a w h=>h.2.2.elim fun _ h=>by cases h.1) k (fun _ _ _ _ _ _ h=>h.elim) k
theorem HC.intro(b:P.follows .mixedOrders=true){f:FuncId}{fn:Func}{c:Code}{j:Ann}{args:List Value}{ks:List Kind}{K:zU ks→ad→Prop}{h:ad}
 (e:P.funcs[f]? =some fn) (i:fn.body=some c) (a:∀(args:Array Value) (w:World),(callFunc f args).run P w=.ok (.enter f args) w) (d:args.length≤fn.ntmps)
 (g:Uv P fn c j args ks K h):HC P f args ks K h:=(HE.intro b e i a d g).hc
theorem Tn{N:Nat}{args:List Value}(b:args.length≤N):Agree N (uo 0 args) {tmps:=args.toArray++vj (N-args.toArray.size) undef,defers:= []}:=by
 refine⟨by simp;omega,fun t v hv=>?_⟩
 obtain⟨_,h2⟩:=zF args 0 t v hv;simp only[fz]at h2;have a:=(bN.1 h2).1;simp[Array.getElem?_append,a];rw[af a]at h2;cases h2;rfl
theorem Pw{N:Nat}{fn:Func}{ks:List Kind}{K:zU ks→ad→Prop}{d:cZ}{a':Act}{a:World}(c:Agree N d a')(e:qB P d a.heap fn.results.toList (fun vs=>HJ ks vs fun t=>K t a.heap)):
  ∃t:zU ks,(results fn a'.tmps).run P a=.ok (I0 ks (qq ks t)) a∧K t a.heap:=by
 obtain⟨vs,b,hd⟩:=ui c e;obtain⟨t,rfl,f⟩:=vY hd;refine⟨t,?_,f⟩;unfold results;rw[pX];simp only[Sem.run_bind,Sem.run_map];rw[b _ (fun _=>rfl) (fun _ _=>rfl)]
 simp only[Result.andThen_ok,Sem.run_pure];rw[←Mg]
end Go.Lift
namespace Go.Lift
open Go
variable {P:Program}
abbrev pY(D:Nat):Deferred:={target:=.collected D,args:= #[]}
theorem J9{N:Nat}:∀{ps:List Nat} {vs:List Value} {r:cZ} {tmps:Array Value},CV N ps=true→Agree N r {tmps:=tmps,defers:= []}→
  Agree N (Zs ps vs r) {tmps:=(ps.zip vs).foldl (fun t x=>t.setIfInBounds x.1 x.2) tmps,defers:= []}
 | [],vs,r,tmps,_,h=>by cases vs<;>exact h
 |i::ps,[],r,tmps,_,h=>h
 |i::ps,v::vs,r,tmps,a,h=>by
  have a:(Nat.blt i N&&CV N ps)=true:=a;rw[bq]at a;have b:i<N:=by simpa using a.1
  have:=h.put i v b;exact J9 (tmps:=tmps.setIfInBounds i v) a.2 this
theorem Ix(w:World)(o:Obj):Tame w (w.alloc o):=⟨rfl,rfl,rfl⟩
theorem rl(w:World)(b:Nat)(o:Obj):Tame w (w.putObj b o):=⟨rfl,rfl,rfl⟩
theorem PM(w:World)(b:Nat)(o:Obj):(w.putObj b o).heap=w.heap.setIfInBounds b o:=rfl
theorem Vl(ps:Array Nat)(vs:List Value)(t:Array Value):(ps.zip vs.toArray).foldl (fun t (x:Nat×Value)=>t.setIfInBounds x.1 x.2) t=(ps.toList.zip vs).foldl (fun t x=>t.setIfInBounds x.1 x.2) t:=by
 obtain⟨l⟩:=ps;simp
theorem HF(C:P.follows .mixedOrders=true){n N:Nat}{g:Operand}{ps:Array Tmp}{assign body:Code}{aa ab:Ann}{ks:List Kind}{fv:Value}{r:cZ}{a:Act}{w:World}{Q:Exit→Act→World→Prop}
  {KN:ad→Prop}{KX:Nat→ad→Prop}{KR:ad→Prop}(Y:CV N ps.toList=true)(M:ps.toList.length=ks.length)(hg:eD r g=some fv)(ha:Agree N r a)
  (hR:RangeP P fv ks w.heap (fun Mi bz x k h'=>RL P N ps.toList ks assign body (.node aa ab) r (w.heap.size+1) Mi bz x k h') KN KX KR)
  (hn:∀m,Tame w m→KN m.heap→Q .normal {a with defers:=pY w.heap.size::a.defers} m)
  (hx:∀i m,Tame w m→KX i m.heap→Q (.exit i) {a with defers:=pY w.heap.size::a.defers} m)
  (hr:∀m,Tame w m→KR m.heap→Q .ret {a with defers:=pY w.heap.size::a.defers} m):(Code.rangeFunc g ps assign body).wpIn (FW none) n P Q a w:=by
 refine wpIn_rangeFunc fun fn _=>?_
 obtain⟨lo,p⟩:∃lo:LoopState→Option Ex→Obj,lo=fun s j=>.loop {state:=s,pending:=N8 j,fn,tmps:=a.tmps,params:=ps,assign,body,defers:=w.heap.size}:=⟨_,rfl⟩
 have hj:∀j:Option Ex,(N8 j).isNone=j.isNone:=fun j=>by rcases j with _|⟨_|_⟩<;>rfl
 obtain⟨f,first,cap,rfl,he⟩:=hR.run lo (fun s j=>⟨_,by rw[p]⟩) (fun x h' K u A=>by
  refine⟨.inr ⟨_,rfl,⟨fun L S=>?_⟩⟩⟩
  subst S
  rw[p]at u
  have hy:=run_yield (P:=P) (args:=(qq ks x).toArray) u (by simp only[dD,w8];rw[←M];rfl)
  refine⟨_,_,_,_,hy,fun c cs=>?_⟩
  have hA:Agree N (Zs ps.toList (qq ks x) r) {tmps:=(ps.zip (qq ks x).toArray).foldl (fun t (x:Nat×Value)=>t.setIfInBounds x.1 x.2) a.tmps,defers:= []}:=by
   rw[Vl]
   exact J9 Y ⟨ha.size,ha.look⟩
  have q:∀j:Option Ex,∀W:World,Tame L W→(W.heap[w.heap.size+1]? =some (lo .busy none)∧K j.isNone (W.heap.setIfInBounds (w.heap.size+1) (lo (if j.isNone then .ready else .done) j)))→
    ∃v m,(Instr.endRound (w.heap.size+1) (N8 j)).run P W=.ok v m∧∃b,Ending.returned v=.returned (.bool b)∧Tame L m∧K b m.heap:=by
   rintro j W H ⟨h1,h2⟩
   rw[p]at h1
   have:=run_endRound (P:=P) (N8 j) h1
   refine⟨_,_,this,_,rfl,H.trans (rl ..),?_⟩
   rw[p]at h2
   rw[hj]
   exact h2
  have:=roundIn_of_wpIn (F:=FW none) (n:=0) (P:=P) (l:=w.heap.size+1) (f:=fn) (assign:=assign) (body:=body) (w:=L)
   (tmps:=(ps.zip (qq ks x).toArray).foldl (fun t (x:Nat×Value)=>t.setIfInBounds x.1 x.2) a.tmps)
   (R:=fun e m=>∃b,e=.returned (.bool b)∧Tame L m∧K b m.heap) trivial (by
    refine wQ (ro:=some (w.heap.size+1)) C assign aa _ _ _ _ L _ A hA (fun ch a w h=>h) ?_ (fun i r' a' m _ _ h=>h.elim) (fun r' a' m _ _ h=>h.elim)
    rintro r2 a2 X V E ⟨z,G⟩
    rw[p]at z
    refine⟨_,run_beginRound z rfl,?_⟩
    have O:∀o,o=lo .busy none→X.heap.setIfInBounds (w.heap.size+1) o=X.heap.setIfInBounds (w.heap.size+1) (lo .busy none):=fun o T=>by rw[T]
    refine wQ (ro:=some (w.heap.size+1)) C body ab (fun _ h2=>_) (fun e _ h2=>_) _ _ (X.putObj (w.heap.size+1) _) _ (by
     rw[PM,O _ (by rw[p])];exact G) V (fun ch a w h=>h) ?_ ?_ ?_
    ·rintro r3 a3 w3 J y I
     exact q none w3 ((E.tame.trans (rl ..)).trans y.tame) I
    ·rintro i r3 a3 w3 J y I
     exact q (some (.exit i)) w3 ((E.tame.trans (rl ..)).trans y.tame) I
    ·rintro r3 a3 w3 J y I
     exact q (some .ret) w3 ((E.tame.trans (rl ..)).trans y.tame) I)
  obtain⟨e,m,⟨b,rfl,H,hK⟩,Z⟩:=this.2 c cs (fun d h=>by simp[FW]at h)
  exact⟨b,m,H,hK,Z.steps⟩)
 have B:=he.run ((w.alloc (.deferred (some []))).alloc (lo .ready none)) rfl;refine⟨w.heap.size+1,[pY w.heap.size],(w.alloc (.deferred (some []))).alloc (lo .ready none),{target:=.fn (.func f) cap,args:=first++ #[.func (.yield (w.heap.size+1)) #[] #[]]},(w.alloc (.deferred (some []))).alloc (lo .ready none),f,
  first++ #[.func (.yield (w.heap.size+1)) #[] #[]]++cap,(w.alloc (.deferred (some []))).alloc (lo .ready none),?_,?_,fun _ _=>trivial,?_,fun h=>by simp[FW]at h,?_⟩
 ·rw[p];exact run_enterLoop_outer fn a.tmps ps assign body
 ·have U:=oZ ha hg
  simp[resolve,U,Deferred.ofValue,Sem.run_pure];rfl
 ·simp[invoke,B.1]
 ·refine JT ?_
  have e:(first.toList++ [Value.func (.yield (w.heap.size+1)) #[] #[]]++cap.toList).toArray=first++ #[.func (.yield (w.heap.size+1)) #[] #[]]++cap:=by apply Array.ext';simp
  rw[←e];refine B.2.mono ?_;rintro e m ⟨H,t,rfl,s,j,Z,u,q⟩;have ht':Tame w m:=((Ix w _).trans (Ix _ _)).trans H;rw[p]at u;refine⟨_,_,run_endLoop u Z,?_⟩;have D:∀o,Tame w (m.putObj (w.heap.size+1) o):=fun o=>ht'.trans (rl ..)
  have O:∀o,o=lo .exhausted j→(m.putObj (w.heap.size+1) o).heap=m.heap.setIfInBounds (w.heap.size+1) (lo .exhausted j):=fun o T=>by rw[T];rfl
  rcases j with _|⟨i|_⟩
  ·exact hn _ (D _) (by rw[O _ (by rw[p])];exact q)
  ·exact wpIn_exit (hx i _ (D _) (by rw[O _ (by rw[p])];exact q))
  ·exact wpIn_ret (hr _ (D _) (by rw[O _ (by rw[p])];exact q))
theorem NF(B:P.follows .mixedOrders=true){n N:Nat}(c:Code):∀(o:Ann) (Kn:List Nat→cZ→ad→Prop) (Kx:Ex→List Nat→cZ→ad→Prop) (ms:List Nat) (r:cZ) (a:Act) (w:World) (Q:Exit→Act→World→Prop),
  CQ P N c o Kn Kx ms r w.heap→Agree N r a→a.defers=ms.map pY→(∀D a w,¬Q (.panic D) a w)→
  (∀d m a' j,Agree N m a'→a'.defers=d.map pY→Tame w j→Kn d m j.heap→Q .normal a' j)→
  (∀i d m a' j,Agree N m a'→a'.defers=d.map pY→Tame w j→Kx (.exit i) d m j.heap→Q (.exit i) a' j)→
  (∀d m a' j,Agree N m a'→a'.defers=d.map pY→Tame w j→Kx .ret d m j.heap→Q .ret a' j)→
  c.wpIn (FW none) n P Q a w:=by
 have plain:∀(c:Code) (o:Ann) (Kn:List Nat→cZ→ad→Prop) (Kx:Ex→List Nat→cZ→ad→Prop) (ms:List Nat) (r:cZ) (a:Act) (w:World) (Q:Exit→Act→World→Prop),
  ot P N c o (Kn ms) (fun e=>Kx e ms) r w.heap→Agree N r a→a.defers=ms.map pY→(∀D a w,¬Q (.panic D) a w)→
  (∀d m a' j,Agree N m a'→a'.defers=d.map pY→Tame w j→Kn d m j.heap→Q .normal a' j)→
  (∀i d m a' j,Agree N m a'→a'.defers=d.map pY→Tame w j→Kx (.exit i) d m j.heap→Q (.exit i) a' j)→
  (∀d m a' j,Agree N m a'→a'.defers=d.map pY→Tame w j→Kx .ret d m j.heap→Q .ret a' j)→
  c.wpIn (FW none) n P Q a w:=by
  intro c o Kn Kx ms r a w Q f p hd z q hx s;exact wQ B c o _ _ r a w Q f p z (fun m a' j v h2 u=>q ms m a' j v (h2.defers.trans hd) h2.tame u) (fun i m a' j v h2 u=>hx i ms m a' j v (h2.defers.trans hd) h2.tame u)
   (fun m a' j v h2 u=>s ms m a' j v (h2.defers.trans hd) h2.tame u)
 induction c with
 |skip=>intro o Kn Kx ms r a w Q f;exact plain _ o Kn Kx ms r a w Q f
 |region id ops dr=>intro o Kn Kx ms r a w Q f;exact plain _ o Kn Kx ms r a w Q f
 |seq x y ihx ihy=>
  intro o Kn Kx ms r a w Q f p hd z q hx s;have f:(bif (bif vT x then true else vT y)then CQ P N x o.l (fun ms m h'=>CQ P N y o.r Kn Kx ms m h') Kx ms r w.heap
   else ot P N (.seq x y) o (Kn ms) (fun e=>Kx e ms) r w.heap):=f
  cases hb:(bif vT x then true else vT y)with
  |false=>rw[hb]at f;exact plain _ _ _ _ _ _ _ _ _ f p hd z q hx s
  |true=>
   rw[hb,cond_true]at f;refine wpIn_seq (ihx o.l _ Kx ms r a w _ f p hd (fun D a w=>z D a w) ?_ hx s)
   intro L r1 M O J K E H;exact ihy o.r Kn Kx L r1 M O Q H J K z (fun d m a' j v h2 u A=>q d m a' j v h2 (E.trans u) A) (fun i d m a' j v h2 u A=>hx i d m a' j v h2 (E.trans u) A)
    (fun d m a' j v h2 u A=>s d m a' j v h2 (E.trans u) A)
 |cond c x y ihx ihy=>
  intro o Kn Kx ms r a w Q f p hd z q hx s;have f:(bif (bif vT x then true else vT y)then
    (match eD r c with
     |some (.bool t)=>CondP t (CQ P N x o.l Kn Kx ms r w.heap) (CQ P N y o.r Kn Kx ms r w.heap)
     |_=>False)
   else ot P N (.cond c x y) o (Kn ms) (fun e=>Kx e ms) r w.heap):=f
  cases hb:(bif vT x then true else vT y)with
  |false=>rw[hb]at f;exact plain _ _ _ _ _ _ _ _ _ f p hd z q hx s
  |true=>
   rw[hb,cond_true]at f;split at f
   ·rename_i t C
    exact wpIn_cond_split (oZ p C) (fun e=>ihx _ Kn Kx ms r a w Q (f.yes e) p hd z q hx s) (fun e=>ihy _ Kn Kx ms r a w Q (f.no e) p hd z q hx s)
   ·exact f.elim
 |block id b ih=>
  intro o Kn Kx ms r a w Q f p hd z q hx s;have f:(bif vT b then CQ P N b o Kn (fun e ms m h'=>match e with
    | .exit i=>bif bX i id then Kn ms m h' else Kx (.exit i) ms m h'
    | .ret=>Kx .ret ms m h') ms r w.heap
   else ot P N (.block id b) o (Kn ms) (fun e=>Kx e ms) r w.heap):=f
  cases hb:vT b with
  |false=>rw[hb]at f;exact plain _ _ _ _ _ _ _ _ _ f p hd z q hx s
  |true=>
   rw[hb,cond_true]at f;refine wpIn_block (ih o Kn _ ms r a w _ f p hd (fun D a w=>z D a w) q (fun i d m a' j v h2 u A=>?_) s)
   simp only[Exit.inBlock]at A⊢;cases hi:bX i id with
   |true=>
    rw[hi,cond_true]at A;rw[if_pos (bw hi)];exact q d m a' j v h2 u A
   |false=>
    rw[hi,cond_false]at A;rw[if_neg (fun e=>by rw[e,vK]at hi;cases hi)]
    exact hx i d m a' j v h2 u A
 |loop b ih=>intro o Kn Kx ms r a w Q f;exact plain _ o Kn Kx ms r a w Q f
 |rangeFunc g ps assign body _ _=>
  intro o Kn Kx ms r a w Q f p hd z q hx s;cases o with
  |rf ks aa ab=>
   have f:(bif CV N ps.toList&&bX ps.toList.length ks.length then
    (match eD r g with
     |some fv=>RangeP P fv ks w.heap (fun Mi R x k h'=>RL P N ps.toList ks assign body (.node aa ab) r (w.heap.size+1) Mi R x k h')
       (fun h'=>Kn (w.heap.size::ms) r h') (fun i h'=>Kx (.exit i) (w.heap.size::ms) r h') (fun h'=>Kx .ret (w.heap.size::ms) r h')
     |none=>False)else False):=f
   cases hb:(CV N ps.toList&&bX ps.toList.length ks.length)with
   |false=>rw[hb]at f;exact f.elim
   |true=>
    rw[hb,cond_true]at f;rw[bq]at hb;split at f
    · rename_i fv hfv
      have G:Agree N r {a with defers:=pY w.heap.size::a.defers}:=⟨p.size,p.look⟩;have I:({a with defers:=pY w.heap.size::a.defers}:Act).defers=(w.heap.size::ms).map pY:=by rw[List.map_cons,←hd]
      exact HF B hb.1 (bw hb.2) hfv p f (fun j C F=>q _ r _ j G I C F) (fun i j C F=>hx i _ r _ j G I C F) (fun j C F=>s _ r _ j G I C F)
    · exact f.elim
  |_=>exact f.elim
 |exit id=>intro o Kn Kx ms r a w Q f;exact plain _ o Kn Kx ms r a w Q f
 |scope b _=>intro o Kn Kx ms r a w Q f;exact f.elim
 |label l=>intro o Kn Kx ms r a w Q f;exact plain _ o Kn Kx ms r a w Q f
 |goto l=>intro o Kn Kx ms r a w Q f;exact f.elim
 |ret=>intro o Kn Kx ms r a w Q f;exact plain _ o Kn Kx ms r a w Q f
 |refuse why=>intro o Kn Kx ms r a w Q f;exact f.elim
theorem CN{fn:Func}{ks:List Kind}{K:zU ks→ad→Prop}{N:Nat}{n:Nat}{r:cZ}{a:Act}{d:World}(f:Agree N r a):∀(ms:List Nat) (w:World),Tame d w→
  Ut ms (fun h'=>qB P r h' fn.results.toList fun vs=>HJ ks vs fun t=>K t h') w.heap→
  LeavesInM (FW none) n P fn a.tmps (fun e c=>Tame d c∧∃t:zU ks,e=.returned (I0 ks (qq ks t))∧K t c.heap) (ms.map pY) .returning w
 | [],w,ht,h=>by
  obtain⟨t,b,g⟩:=Pw f h;exact⟨_,b,ht,t,rfl,g⟩
 |D::ms,w,ht,h=>by
  refine⟨by simp,.inl ⟨D,_,rfl,run_takeDeferred h.1,?_⟩⟩;exact CN f ms (w.putObj D (.deferred none)) (ht.trans (rl ..)) h.2
theorem HE.introM(m:P.follows .mixedOrders=true){f:FuncId}{fn:Func}{c:Code}{s:Ann}{args:List Value}{ks:List Kind}{K:zU ks→ad→Prop}{h:ad}
  (u:P.funcs[f]? =some fn) (z:fn.body=some c) (i:∀(args:Array Value) (w:World),(callFunc f args).run P w=.ok (.enter f args) w) (o:args.length≤fn.ntmps)
  (x:RM P fn c s args ks K h):HE P f args ks K h:=by
 refine⟨fun w y=>⟨i,?_⟩⟩
 subst y;refine(callsIn_wide (n:=0)).1 (callsIn_of_wp_marks (F:=FW none) u z trivial ?_ rfl);refine wpIn_mono (Q:=fun e a b=>(∀p,e≠ .panic p)∧bodyPostM (FW none) 0 P fn (fun e b=>Tame w b∧∃t:zU ks,e=.returned (I0 ks (qq ks t))∧K t b.heap) e a b) ?_ fun e a w h=>h.2
 refine NF m c s _ _ [] _ _ w _ x (Tn o) rfl (fun p a w h=>h.1 p rfl) ?_ (fun _ _ _ _ _ _ _ _ h=>h.elim) ?_
 ·intro g v a' b d k j q
  refine⟨(fun _ e=>by cases e),?_⟩
  show LeavesInM _ _ _ _ _ _ a'.defers _ _
  rw[k];exact CN d g b j q
 ·intro g v a' b d k j q
  refine⟨(fun _ e=>by cases e),?_⟩
  show LeavesInM _ _ _ _ _ _ a'.defers _ _
  rw[k];exact CN d g b j q
theorem HC.introM(b:P.follows .mixedOrders=true){f:FuncId}{fn:Func}{c:Code}{j:Ann}{args:List Value}{ks:List Kind}{K:zU ks→ad→Prop}{h:ad}
 (e:P.funcs[f]? =some fn) (i:fn.body=some c) (a:∀(args:Array Value) (w:World),(callFunc f args).run P w=.ok (.enter f args) w) (d:args.length≤fn.ntmps)
 (g:RM P fn c j args ks K h):HC P f args ks K h:=(HE.introM b e i a d g).hc
end Go.Lift
namespace Go.Lift
open Go
def AppP(z:Option (List Value))(e b:Nat)(t:TypeId)(a:Option Addr)(sl d c:Nat)(xs:List Value)(h:ad)(K:SliceV→ad→Prop):Prop:=
 (sl+c≤d→rE h a (sl*e) xs∧cH xs=true∧K ⟨a,sl+c,d⟩ (ia h a (sl*e) xs))∧
 (d<sl+c→∃old z',SRow h a (sl*e) old∧z=some z'∧0<b∧Builtin.nextslicecap (sl+c) d*b≤2^48∧
  ∀nc,sl+c≤nc→K ⟨some (ay h),sl+c,nc⟩ (hnew h (old++xs++eK (nc-(sl+c)) z') t))
end Go.Lift
