/- A part of the proof that the named laws of this program answer true, whatever the input. -/
import Derived.Test.YtakmnggbneeicaaGreatLift1
import Derived.BigFrameIn
open Array renaming getD_eq_getD_getElem?→cQ,getElem?_toList→bB,getElem?_setIfInBounds_ne→dV,replicate→nq,getElem?_eq_some_iff→cF,getElem?_eq_getElem→dD,getElem?_eq_none→jX,mapM_eq_mapM_toList→my,ext'→cM
open Bool renaming eq_false_iff→ey,and_true→uw,or_eq_true→iQ,and_eq_true→bj,not_eq_true'→jf,or_eq_false_iff→lR
open Go.Result renaming andThen_ok→aC
open Go.Sem renaming run_bind→aZ,run_pure→bV
open List renaming mem_of_getElem?→gu,length_cons→au,mem_cons→aq,getElem?_cons_zero→cI,getElem?_eq_getElem→af,any_eq_true→bT,getElem?_eq_some_iff→bG,mem_cons_of_mem→ax,mem_cons_self→ar,range→gc,filter_cons→aR,mem_singleton→al,size_toArray→cP
open Nat renaming blt→yf,beq→aJ,eq_of_beq_eq_true→bo,land→ja,lor→cO,testBit_and→ki,zero_testBit→mh,succ→eR,zero_add→aO,beq_refl→ru,lt_or_ge→cr,pred→xL,sub_zero→dG
open Option renaming some→bK
namespace Go.Lift
open Go
variable {P:Program} {ro:Option Nat} {n:Nat}
def FW(ro:Option Nat):Fence:={fn:=fun _=>True,depth:=none,alive:=false,round:=ro}
theorem QK(m:Machine):m.fenced P (FW ro):=by
 intro g _;exact⟨fun h=>by simp[FW]at h,.inl trivial,fun _ _=>trivial,fun d h=>by simp[FW]at h⟩
theorem yY{m a:Machine}(h:Steps P m a):StepsIn (Machine.fenced P (FW ro)) P m a:=(StepsIn.of_steps h).mono fun m _=>QK m
theorem F0{k:Nat}{f:FuncId}{args:Array Value}{w:World}{R:Ending→World→Prop}(h:Calls P f args w R):CallsIn (FW ro) k P f args w R:=by
 refine⟨trivial,fun cs _=>?_⟩
 obtain⟨e,b,fr,d,hc,a,g⟩:=h cs;refine⟨e,b,fr,d,?_,a,g⟩;cases e with
 |returned v=>exact yY hc
 |panicked c=>exact yY hc
 |outgrown=>exact hc
theorem pP{o:Oper}{a:Act}{w:World}{K:WK}{next:Act→World→Prop}{Q:Exit→Act→World→Prop}(hd:∀c,o.op≠ .defer c)(h:Mn P (execOp a.eval o) K w)
  (j:∀v d,Tame w d→K v d.heap→next (a.put o.dst v) d):o.wpIn (FW ro) n P a w next Q:=by
 refine⟨fun _ _=>trivial,?_⟩
 rw[Oper.semAt_eq _ _ _ hd];rcases h with⟨v,d,g,ht,i⟩|⟨d,g,ht,i⟩|⟨f,args,g,hc⟩|⟨l,fn,tmps,assign,body,g,hc⟩
 ·rw[g];exact j v d ht i
 ·rw[g];exact j undef d ht i
 ·rw[g]
  refine⟨fun h=>by simp[FW]at h,F0 (hc.mono ?_)⟩
  rintro e d ⟨ht,v,rfl,i⟩;exact j v d ht i
 ·rw[g]
  refine⟨fun h=>by simp[FW]at h,trivial,fun c cs _=>?_⟩
  obtain⟨b,d,ht,i,k⟩:=hc c cs;exact⟨.returned (.bool b),d,j _ d ht i,yY k⟩
theorem tA{N:Nat}{o:Oper}{v:Value}{r:cG}{K:cG→Prop}{a:Act}{d:vn}{dv:DV}(h:zu N o v r K)(c:Agree N r a)(hd:DecOk d r)(hv:Hj dv v):
  ∃r',K r'∧Agree N r' (a.put o.dst v)∧DecOk (rh d o dv) r':=by
 unfold zu at h;unfold rh;cases ho:o.dst with
 |none=>rw[ho]at h;exact⟨r,h,c,hd⟩
 |some t=>
  rw[ho]at h;simp only at h;cases hb:yf t N with
  |false=>rw[hb]at h;exact h.elim
  |true=>
   rw[hb]at h;have b:t<N:=by simpa using hb
   refine⟨_,h,c.put t v b,fun s=>?_⟩
   by_cases e:t=s
   ·subst e
    have:qE ((t,dv)::d) t=dv:=by simp[qE]
    rw[this];exact .inr ⟨v,ic t v r,hv⟩
   ·have g:qE ((t,dv)::d) s=qE d s:=by
     have:aJ t s=false:=ey.2 fun f=>e (bo f)
     show(bif aJ t s then dv else qE d s)=_
     rw[this];rfl
    rw[g,gi v r e];exact hd s
theorem CJ{ek:Option (Kind×Kind)}{o:Op}{r:cG}{K:RK}{h:ad}(a:BA P ek o r K h):∀c,o≠ .defer c:=by
 intro c e;subst e;exact a
theorem wM{o:Oper}{r:cG}{K:WK}{h:ad}(a:GQ P o r K h):∀c,o.op≠ .defer c:=by
 intro c e;unfold GQ at a;rw[e]at a;exact a
theorem XR{d:vn}{o:Op}(h:wr P o=false):Kz d o=.x:=by
 cases o<;>first|rfl|(simp[wr]at h)
theorem P9{N:Nat}{ek:Option (Kind×Kind)}{o:Oper}{r:cG}{K:cG→ad→Prop}{a:Act}{w:World}{d:vn}{next:Act→World→Prop}{Q:Exit→Act→World→Prop}
  (c:WR P N ek o r K w.heap)(j:Agree N r a)(hd:DecOk d r)
  (p:∀v f e,Tame w f→K e f.heap→Agree N e (a.put o.dst v)→DecOk (rh d o (Kz d o.op)) e→next (a.put o.dst v) f):o.wpIn (FW ro) n P a w next Q:=by
 unfold WR at c;cases hq:wr P o.op with
 |true=>
  rw[hq,cond_true]at c;obtain⟨v,S,k,s,m,q⟩:=BU j c d hd;refine pP (K:=fun u h'=>u=v∧h'=w.heap) (CJ c) (.inl ⟨v,w,q w s,Tame.refl w,rfl,rfl⟩) ?_
  rintro u f ht ⟨rfl,t⟩;obtain⟨e,b,i,g⟩:=tA k j hd m;exact p u f e ht (by rw[t];exact b) i g
 |false=>
  rw[hq,cond_false]at c;refine pP (wM c) (BF j c) ?_;intro v f ht k;obtain⟨e,b,i,g⟩:=tA k j hd (dv:=Kz d o.op) (by rw[XR hq];trivial);exact p v f e ht b i g
theorem H8{t:Array Value}{i:Nat}{b:Bool}(h:t.getD i undef=.bool b):t[i]? =some (.bool b):=by
 rw[cQ]at h;cases hc:t[i]? with
 |none=>rw[hc]at h;simp[undef]at h
 |some v=>rw[hc]at h;simp at h;rw[h]
theorem N1{t:Array Value}{i:Nat}(h:t.getD i undef=undef):t[i]? =none∨t[i]? =some undef:=by
 rw[cQ]at h;cases hc:t[i]? with
 |none=>exact .inl rfl
 |some v=>rw[hc]at h;simp at h;rw[h];exact .inr rfl
theorem mH{N:Nat}{ops:Array Oper}{d:vn}{o:Oper}{b:Bool}{r:cG}{a:Act}(h:iE ops.toList d o=some b)(n:Agree N r a)(hd:DecOk d r):
  Region.wanted o (yielded ops a.tmps)=b:=by
 unfold iE at h;unfold Region.wanted;cases hg:o.guard with
 |none=>rw[hg]at h;simp only[bK.injEq]at h;exact h
 |some g=>
  obtain⟨j,c⟩:=g;rw[hg]at h;simp only[bB]at h;simp only;cases hj:ops[j]? with
  |none=>rw[hj]at h;cases h
  |some oj=>
   rw[hj]at h;simp only at h;cases ht:oj.dst with
   |none=>rw[ht]at h;cases h
   |some t=>
    rw[ht]at h;simp only at h;have m:yielded ops a.tmps j=(match a.tmps[t]? with|some (.bool b)=>some b|_=>none):=by
     unfold yielded;simp[hj,ht];rfl
    rw[m];rcases hd t with hx|⟨v,hv,k⟩
    ·rw[hx]at h;cases h
    ·have i:=n.look t v hv
     cases hdl:qE d t with
     |x=>rw[hdl]at h;cases h
     |t=>
      rw[hdl]at h k;simp only[bK.injEq]at h;subst h;have:v=.bool true:=k;subst this;rw[H8 i];cases c<;>rfl
     |f=>
      rw[hdl]at h k;simp only[bK.injEq]at h;subst h;have:v=.bool false:=k;subst this;rw[H8 i];cases c<;>rfl
     |u=>
      rw[hdl]at h k;simp only[bK.injEq]at h;subst h;have:v=undef:=k;subst this;rcases N1 i with e|e<;>rw[e]<;>cases c<;>rfl
structure Fr(W:Nat→Prop)(a0:Act)(w0:World)(a:Act)(w:World):Prop where
 tame:Tame w0 w
 defers:a.defers=a0.defers
 same:∀t,¬W t→a.tmps.getD t undef=a0.tmps.getD t undef
theorem Fr.refl(W:Nat→Prop)(a:Act)(w:World):Fr W a w a w:=⟨Tame.refl w,rfl,fun _ _=>rfl⟩
theorem Fr.put{W:Nat→Prop}{i a:Act}{g w f:World}(h:Fr W i g a w){o:Oper}(j:∀d,o.dst=some d→W d)(v:Value)(ht:Tame w f):Fr W i g (a.put o.dst v) f:=by
 refine⟨h.tame.trans ht,?_,fun t c=>?_⟩
 ·cases ho:o.dst<;>simp[Act.put,h.defers]
 ·cases ho:o.dst with
  |none=>exact h.same t c
  |some d=>
   have b:d≠t:=fun e=>c (e▸j d ho)
   rw[←h.same t c];simp[Act.put,dV b]
theorem Fr.trans{W:Nat→Prop}{d a f:Act}{b c e:World}(h:Fr W d b a c)(k:Fr W a c f e):Fr W d b f e:=
 ⟨h.tame.trans k.tame,k.defers.trans h.defers,fun t ht=>(k.same t ht).trans (h.same t ht)⟩
theorem Fr.mono{W W':Nat→Prop}{b a:Act}{c w:World}(h:Fr W b c a w)(d:∀t,W t→W' t):Fr W' b c a w:=
 ⟨h.tame,h.defers,fun t ht=>h.same t fun e=>ht (d t e)⟩
theorem DecOk.known{d:vn}{r:cG}(h:DecOk d r){t:Nat}{dv:DV}{v:Value}(hv:Hj dv v):DecOk ((t,dv)::d) ((t,v)::r):=fun s=>by
 by_cases e:t=s
 ·subst e
  have:qE ((t,dv)::d) t=dv:=by simp[qE]
  rw[this];exact .inr ⟨v,ic t v r,hv⟩
 ·have b:qE ((t,dv)::d) s=qE d s:=by
   have:aJ t s=false:=ey.2 fun a=>e (bo a)
   show(bif aJ t s then dv else qE d s)=_
   rw[this];rfl
  rw[b,gi v r e];exact h s
theorem ED{N:Nat}{ek:Option (Kind×Kind)}{ops:Array Oper}{o:Oper}{i:Nat}{d:vn}{r:cG}{a:Act}{w:World}{b:Bool}{K:vn→cG→ad→Prop}{next:Act→World→Prop}{Q:Exit→Act→World→Prop}
  (hi:ops[i]? =some o) (s:iE ops.toList d o=some b) (k:Agree N r a) (hd:DecOk d r)
  (m:match b with
   |true=>WR P N ek o r (K (rh d o (Kz d o.op))) w.heap
   |false=>zu N o undef r fun c=>K (rh d o .u) c w.heap)
  (p:∀v g d' c,Tame w g→K d' c g.heap→Agree N c (a.put o.dst v)→DecOk d' c→next (a.put o.dst v) g):
  wpOpIn (FW ro) n P ops Q i next a w:=by
 unfold wpOpIn;rw[hi];simp only[mH s k hd];cases b with
 |true=>exact P9 m k hd fun v g c ht q f e=>p v g _ c ht q f e
 |false=>
  obtain⟨c,j,f,e⟩:=tA (dv:=.u) m k hd rfl;exact⟨fun _ _=>trivial,p undef w _ c (Tame.refl w) j f e⟩
theorem P8{N:Nat}{ek:Option (Kind×Kind)}{ops:List Oper}{o:Oper}{os:List Oper}{d:vn}{K:cG→ad→Prop}{r:cG}{h:ad}:EZ P N ek ops (o::os) d K r h=
 (match iE ops d o with
 |some true=>WR P N ek o r (fun a h'=>EZ P N ek ops os (rh d o (Kz d o.op)) K a h') h
 |some false=>zu N o undef r fun a=>EZ P N ek ops os (rh d o .u) K a h
 |none=>match FE ops o with
  |none=>False
  |some t=>match jF r t with
   |some (.bool b)=>CondP b
    (HA P N ek ops o ((t,.t)::d) ((t,.bool true)::r) h fun c a h'=>EZ P N ek ops os c K a h')
    (HA P N ek ops o ((t,.f)::d) ((t,.bool false)::r) h fun c a h'=>EZ P N ek ops os c K a h')
   |_=>False):=rfl
theorem Hq{N:Nat}{ek:Option (Kind×Kind)}{ops:Array Oper}{o:Oper}{i:Nat}{d:vn}{r:cG}{a:Act}{w:World}{K:vn→cG→ad→Prop}{next:Act→World→Prop}{Q:Exit→Act→World→Prop}
  (hi:ops[i]? =some o) (f:Agree N r a) (hd:DecOk d r) (c:HA P N ek ops.toList o d r w.heap K)
  (e:∀v w' d' r',Tame w w'→K d' r' w'.heap→Agree N r' (a.put o.dst v)→DecOk d' r'→next (a.put o.dst v) w'):
  wpOpIn (FW ro) n P ops Q i next a w:=by
 unfold HA at c;cases hw:iE ops.toList d o with
 |none=>rw[hw]at c;exact c.elim
 |some b=>rw[hw]at c;exact ED (ek:=ek) hi hw f hd (by cases b<;>exact c) e
theorem EY{N:Nat}{ek:Option (Kind×Kind)}{ops:Array Oper}{W:Nat→Prop}(q:∀o∈ops.toList,∀d,o.dst=some d→W d){x:Act}{s:World}{K:cG→ad→Prop}{Q:Exit→Act→World→Prop}
  (u:∀r a w,Agree N r a→Fr W x s a w→K r w.heap→Q .normal a w):
  ∀(l:List Oper) (i:Nat),ops.toList.drop i=l→∀(d:vn) (r:cG) (a:Act) (w:World),EZ P N ek ops.toList l d K r w.heap→Agree N r a→DecOk d r→Fr W x s a w→
   wpOpsIn (FW ro) n P ops Q (List.range' i l.length) a w
 | [],i,_,d,r,a,w,hs,ha,hd,hf=>u r a w ha hf hs
 |o::os,i,hdr,d,r,a,w,hs,ha,hd,hf=>by
  have hi:ops[i]? =some o:=by
   rw[←bB];have:(ops.toList.drop i)[0]? =some o:=by rw[hdr];rfl
   simpa using this
  have j:o∈ops.toList:=gu (by rw[bB];exact hi);have f:ops.toList.drop (i+1)=os:=by rw[←List.tail_drop,hdr];rfl
  rw[au,List.range'_succ,wpOpsIn_cons];rw[P8]at hs;have k:∀v g e c,Tame w g→EZ P N ek ops.toList os e K c g.heap→Agree N c (a.put o.dst v)→DecOk e c→wpOpsIn (FW ro) n P ops Q (List.range' (i+1) os.length) (a.put o.dst v) g:=
   fun v g e c ht y p m=>EY q u os (i+1) f e c _ g y p m (hf.put (q o j) v ht)
  cases hw:iE ops.toList d o with
  |some b=>
   rw[hw]at hs;exact ED (ek:=ek) (K:=fun e c h'=>EZ P N ek ops.toList os e K c h') hi hw ha hd (by cases b<;>exact hs) k
  |none=>
   rw[hw]at hs;simp only at hs;split at hs
   ·exact hs.elim
   ·rename_i t ht
    split at hs
    ·rename_i b hb
     cases b with
     |true=>exact Hq hi (ha.known hb) (hd.known (dv:=.t) rfl) (hs.yes rfl) k
     |false=>exact Hq hi (ha.known hb) (hd.known (dv:=.f) rfl) (hs.no rfl) k
    ·exact hs.elim
end Go.Lift
namespace Go.Lift
open Go
theorem Ae(m i:Nat):tb m i=m.testBit i:=by
 have h:ja (Nat.shiftRight m i) 1=(m>>>i)&&&1:=rfl;unfold tb;rw[h,Nat.testBit_eq_decide_div_mod_eq,Nat.and_one_is_mod,Nat.shiftRight_eq_div_pow];cases hm:decide (m/2^i%2=1)with
 |true=>rw[of_decide_eq_true hm];rfl
 |false=>
  have a:=of_decide_eq_false hm;have:m/2^i%2=0:=by omega
  rw[this];rfl
theorem ny(a b i:Nat):(cO a b).testBit i=(a.testBit i||b.testBit i):=Nat.testBit_or a b i
theorem zy(i j:Nat):(gf i).testBit j=decide (i=j):=Nat.testBit_two_pow
theorem Cd{a b:Nat}(h:aJ (ja a b) 0=true)(t:Nat)(d:a.testBit t=true)(hb:b.testBit t=true):False:=by
 have c:=bo h;have:(ja a b).testBit t=(a.testBit t&&b.testBit t):=ki a b t;rw[c,d,hb]at this;simp at this
theorem Vp{a b:Nat}(h:aJ (ja a b) a=true)(t:Nat)(d:a.testBit t=true):b.testBit t=true:=by
 have c:=bo h;have:(ja a b).testBit t=(a.testBit t&&b.testBit t):=ki a b t;rw[c,d]at this;simpa using this.symm
theorem yB(i:Nat):∀l:List Edge,(l5 l).testBit i=l.any fun e=>aJ e.on i&&Region.binds .any e
 | []=>mh i
 |e::l=>by
  have b:=yB i l;have hc:l5 (e::l)=bif Region.binds .any e then cO (gf e.on) (l5 l)else l5 l:=rfl;rw[hc,List.any_cons,←b];cases hb:Region.binds .any e with
  |true=>
   rw[cond_true,ny,zy,uw];congr 1
   cases hd:aJ e.on i with
   |true=>simpa using bo hd
   |false=>rw[decide_eq_false_iff_not];intro a;rw[a]at hd;simp at hd
  |false=>simp
theorem AQ(o:Oper)(i:Nat):(l5 o.after.toList).testBit i=iG o i:=yB i o.after.toList
theorem Ac(t:Nat):∀l:List Operand,(kY l).testBit t=true↔Operand.tmp t∈l
 | []=>by simp[show kY []=0 from rfl]
 |o::l=>by
  have a:=Ac t l;cases o with
  |tmp u=>
   have hc:kY (.tmp u::l)=cO (gf u) (kY l):=rfl;rw[hc,ny,zy,iQ,a,aq];simp[eq_comm]
  |const v=>
   have hc:kY (.const v::l)=kY l:=rfl;rw[hc,a,aq];simp
  |global v=>
   have hc:kY (.global v::l)=kY l:=rfl;rw[hc,a,aq];simp
  |func v=>
   have hc:kY (.func v::l)=kY l:=rfl;rw[hc,a,aq];simp
theorem xo(o:Oper)(t:Nat):(m9 o).testBit t=true↔o.dst=some t:=by
 unfold m9;cases o.dst with
 |none=>simp
 |some d=>simp[zy]
theorem G4(ops:Array Oper)(o:Oper)(t:Nat):(nJ ops.toList o).testBit t=true↔t∈o.looksAt ops:=by
 unfold nJ Oper.looksAt;rw[ny,iQ,Ac,List.mem_append,List.mem_filterMap];refine or_congr ⟨fun h=>⟨_,h,rfl⟩,?_⟩ ?_
 ·rintro⟨x,hx,a⟩
  cases x<;>simp at a
  subst a;exact hx
 ·cases hg:o.guard with
  |none=>simp
  |some g=>
   obtain⟨j,b⟩:=g;simp only[bB];cases hj:ops[j]? with
   |none=>simp
   |some oj=>simp[xo]
variable {P:Program} {ro:Option Nat} {n:Nat} {ops:Array Oper} {Q:Exit→Act→World→Prop}
structure MsOk(ops:Array Oper)(ms:List DM):Prop where
 am:∀(i:Nat) (o:Oper) (m:DM),ops[i]? =some o→ms[i]? =some m→∀j,m.am.testBit j=iG o j
 lk:∀(i:Nat) (o:Oper) (m:DM),ops[i]? =some o→ms[i]? =some m→∀t,m.lk.testBit t=true↔t∈o.looksAt ops
 ds:∀(i:Nat) (o:Oper) (m:DM),ops[i]? =some o→ms[i]? =some m→∀t,m.ds.testBit t=true↔o.dst=some t
 len:ms.length=ops.size
 free:∀(i j:Nat) (m k:DM),ms[i]? =some m→ms[j]? =some k→m.fr.testBit j=true→j=i∨k.am.testBit i=true∨Ce m k=true
 nosel:∀(i:Nat) (o:Oper),ops[i]? =some o→(∀cs b,o.op≠ .select cs b)∧(∀c,o.op≠ .defer c)
theorem Au(ops:List Oper):∀(l:List Oper) (ms:List DM),wZ ops l ms=true→ms.length=l.length∧∀(i:Nat) (o:Oper) (m:DM),l[i]? =some o→ms[i]? =some m→
  m.am=l5 o.after.toList∧m.lk=nJ ops o∧m.ds=m9 o
 | [],[],_=>⟨rfl,fun i o m h=>by simp at h⟩
 | [],_::_,h=>by cases h
 |o::l,[],h=>by cases h
 |o::l,m::ms,h=>by
  have hc:wZ ops (o::l) (m::ms)=(aJ (l5 o.after.toList) m.am&&aJ (nJ ops o) m.lk&&aJ (m9 o) m.ds&&wZ ops l ms):=rfl;rw[hc]at h;simp only[bj]at h;obtain⟨⟨⟨c,j⟩,d⟩,e⟩:=h;obtain⟨b,f⟩:=Au ops l ms e;refine⟨by simp[b],fun i k g a hm=>?_⟩
  cases i with
  |zero=>
   simp only[cI,bK.injEq]at a hm;subst a;subst hm;exact⟨(bo c).symm,(bo j).symm,(bo d).symm⟩
  |succ i=>exact f i k g (by simpa using a) (by simpa using hm)
theorem Ic(i:Nat)(m:DM):∀(l:List DM) (j0:Nat),Ie i m l j0=true→∀(j:Nat) (k:DM),l[j]? =some k→m.fr.testBit (j0+j)=true→j0+j=i∨k.am.testBit i=true∨Ce m k=true
 | [],j0,_,j,k,hk,_=>by simp at hk
 |x::l,j0,h,j,k,hk,hb=>by
  have hc:Ie i m (x::l) j0=((!(tb m.fr j0)||aJ j0 i||tb x.am i||Ce m x)&&Ie i m l (eR j0)):=rfl
  rw[hc]at h;simp only[bj,iQ,jf,Ae]at h;cases j with
  |zero=>
   simp only[cI,bK.injEq]at hk;subst hk;simp only[Nat.add_zero]at hb⊢;rcases h.1 with((a|a)|a)|a
   ·rw[a]at hb;cases hb
   ·exact .inl (bo a)
   ·exact .inr (.inl a)
   ·exact .inr (.inr a)
  |succ j=>
   have:=Ic i m l (j0+1) h.2 j k (by simpa using hk) (by rw[show j0+1+j=j0+(j+1) by omega];exact hb)
   rw[show j0+1+j=j0+(j+1) by omega]at this
   exact this
theorem CW(all:List DM):∀(l:List DM) (i0:Nat),AF all l i0=true→∀(i:Nat) (m:DM),l[i]? =some m→Ie (i0+i) m all 0=true
 | [],i0,_,i,m,hm=>by simp at hm
 |x::l,i0,h,i,m,hm=>by
  have hc:AF all (x::l) i0=(Ie i0 x all 0&&AF all l (eR i0)):=rfl;rw[hc,bj]at h;cases i with
  |zero=>simp only[cI,bK.injEq]at hm;subst hm;exact h.1
  |succ i=>
   have:=CW all l (i0+1) h.2 i m (by simpa using hm);rw[show i0+1+i=i0+(i+1) by omega]at this
   exact this
theorem HP:∀(l:List Oper),LG l=true→∀o∈l,(∀cs b,o.op≠ .select cs b)∧(∀c,o.op≠ .defer c)
 | [],_,o,a=>by cases a
 |x::l,h,o,a=>by
  simp only[LG,bj]at h;rcases aq.1 a with rfl|a
  ·refine⟨fun cs b e=>?_,fun c e=>?_⟩
   ·rw[e]at h;cases h.1
   ·rw[e]at h;cases h.1
  ·exact HP l h.2 o a
theorem NH{ms:List DM}(h:En ops.toList ms=true):MsOk ops ms:=by
 have hc:En ops.toList ms=(wZ ops.toList ops.toList ms&&AF ms ms 0&&LG ops.toList):=rfl;rw[hc]at h;simp only[bj]at h;obtain⟨⟨e,g⟩,f⟩:=h;obtain⟨d,b⟩:=Au ops.toList ops.toList ms e;refine⟨fun i o m a hm j=>?_,fun i o m a hm t=>?_,fun i o m a hm t=>?_,by simpa using d,fun i j m k hm c hb=>?_,fun i o a=>?_⟩
 ·rw[(b i o m (by simpa using a) hm).1,AQ]
 ·rw[(b i o m (by simpa using a) hm).2.1,G4]
 ·rw[(b i o m (by simpa using a) hm).2.2,xo]
 ·have:=CW ms ms 0 g i m hm
  rw[aO]at this;have:=Ic i m ms 0 this j k c (by rwa [aO]);rwa [aO]at this
 ·exact HP _ f o (gu (by rw[bB];exact a))
theorem TL{ms:List DM}(hm:MsOk ops ms){i j:Nat}{e a:Oper}{g f:DM}(hi:ops[i]? =some e) (m:ops[j]? =some a) (b:ms[i]? =some g) (c:ms[j]? =some f) (h:Ce g f=true):
  (∀d,e.dst=some d→d∉a.looksAt ops)∧(∀d,e.dst=some d→a.dst≠some d)∧(∀d,a.dst=some d→d∉e.looksAt ops):=by
 unfold Ce at h;rw[bj]at h;refine⟨fun d hd k=>?_,fun d hd n=>?_,fun d hd k=>?_⟩
 ·exact Cd h.1 d ((hm.ds i e g hi b d).2 hd) (by rw[ny,(hm.lk j a f m c d).2 k,Bool.true_or])
 ·exact Cd h.1 d ((hm.ds i e g hi b d).2 hd) (by rw[ny,(hm.ds j a f m c d).2 n,Bool.or_true])
 ·exact Cd h.2 d ((hm.ds j a f m c d).2 hd) ((hm.lk i e g hi b d).2 k)
structure LsRel(ops:Array Oper)(ls:Nat)(listed:Array Bool):Prop where
 size:listed.size=ops.size
 bit:∀j,listed.getD j false=ls.testBit j
theorem LsRel.start:LsRel ops 0 (nq ops.size false):=⟨by simp,fun j=>by
 rw[mh,cQ]
 by_cases h:j<ops.size<;>simp[h]⟩
theorem LsRel.put{ls:Nat}{a:Array Bool}(h:LsRel ops ls a){i:Nat}(hi:i<ops.size):LsRel ops (cO ls (gf i)) (a.setIfInBounds i true):=by
 refine⟨by simp[h.size],fun j=>?_⟩
 rw[ny,zy,←h.bit];by_cases e:i=j
 ·subst e;simp[h.size,hi]
 ·simp[e,dV e]
theorem LsRel.unlisted{ls:Nat}{a:Array Bool}(h:LsRel ops ls a){i:Nat}(hi:i<ops.size):a.getD i true=ls.testBit i:=by
 rw[←h.bit];have:i<a.size:=by rw[h.size];exact hi
 simp[this]
theorem HH{ms:List DM}(hm:MsOk ops ms){ls:Nat}{a:Array Bool}(h:LsRel ops ls a){j:Nat}:j∈Region.ready .any ops a↔∃m,ms[j]? =some m∧ls.testBit j=false∧Ky m ls=true:=by
 rw[mem_ready];constructor
 ·rintro⟨i,o,n,g⟩
  have b:j<ops.size:=(cF.1 n).1;have d:j<ms.length:=by rw[hm.len];exact b
  refine⟨ms[j],af d,by rw[←h.unlisted b];exact i,?_⟩
  unfold Ky;have:ja (ms[j]).am ls=(ms[j]).am:=by
   apply Nat.eq_of_testBit_eq;intro t;have c:(ja (ms[j]).am ls).testBit t=((ms[j]).am.testBit t&&ls.testBit t):=ki _ _ t;rw[c];cases ht:(ms[j]).am.testBit t with
   |false=>rfl
   |true=>
    rw[hm.am j o _ n (af d)]at ht;unfold iG at ht;obtain⟨e,k,hb⟩:=bT.1 ht;simp only[bj]at hb;have:=g e (by simpa using k) hb.2;rw[bo hb.1,h.bit]at this;rw[this];rfl
  rw[this];exact ru _
 ·rintro⟨m,f,i,p⟩
  have b:j<ops.size:=by rw[←hm.len];exact(bG.1 f).1
  refine⟨by rw[h.unlisted b];exact i,ops[j],dD b,fun e k hb=>?_⟩
  rw[h.bit];refine Vp p e.on ?_;rw[hm.am j _ m (dD b) f];unfold iG;exact bT.2 ⟨e,by simpa using k,by simp[hb]⟩
theorem rF(ls:Nat):∀(l:List DM) (j0 j:Nat),j∈ll ls l j0↔∃k m,l[k]? =some m∧j=j0+k∧ls.testBit j=false∧Ky m ls=true
 | [],j0,j=>by simp[show ll ls [] j0= []from rfl]
 |m::l,j0,j=>by
  have hc:ll ls (m::l) j0=bif !(tb ls j0)&&Ky m ls then j0::ll ls l (eR j0)else ll ls l (eR j0):=rfl;have e:=rF ls l (j0+1) j;rw[hc,Ae];have step:(∃k c,(m::l)[k]? =some c∧j=j0+k∧ls.testBit j=false∧Ky c ls=true)↔(j=j0∧ls.testBit j0=false∧Ky m ls=true)∨j∈ll ls l (j0+1):=by
   rw[e];constructor
   ·rintro⟨k,c,d,rfl,a,b⟩
    cases k with
    |zero=>simp only[cI,bK.injEq]at d;subst d;exact .inl ⟨rfl,a,b⟩
    |succ k=>exact .inr ⟨k,c,by simpa using d,by omega,a,b⟩
   ·rintro(⟨rfl,a,b⟩|⟨k,c,d,rfl,a,b⟩)
    ·exact⟨0,m,rfl,rfl,a,b⟩
    ·exact⟨k+1,c,by simpa using d,by omega,a,b⟩
  rw[step];cases hb:(!(ls.testBit j0)&&Ky m ls)with
  |true=>
   simp only[bj,jf]at hb;rw[cond_true,aq];simp[hb.1,hb.2]
  |false=>
   rw[cond_false];constructor
   ·exact .inr
   ·rintro(⟨_,a,b⟩|h)
    ·rw[a,b]at hb;cases hb
    ·exact h
theorem lW{ms:List DM}(hm:MsOk ops ms){ls:Nat}{a:Array Bool}(h:LsRel ops ls a){j:Nat}:j∈Region.ready .any ops a↔j∈ll ls ms 0:=by
 rw[HH hm h,rF];constructor
 ·rintro⟨m,d,c,b⟩;exact⟨j,m,d,by omega,c,b⟩
 ·rintro⟨k,m,d,rfl,c,b⟩;exact⟨m,by simpa using d,c,b⟩
theorem xV:∀{a b:List Nat},vE a b=true→a=b
 | [],[],_=>rfl
 | [],_::_,h=>by cases h
 |_::_,[],h=>by cases h
 |a::as,b::bs,h=>by
  simp only[vE,bj]at h;rw[bo h.1,xV h.2]
end Go.Lift
namespace Go.Lift
open Go
variable {P:Program} {ro:Option Nat} {n:Nat} {ops:Array Oper} {Q:Exit→Act→World→Prop}
theorem Aa{m:Nat}{p:Nat→Bool}(hm:∀j,m.testBit j=true→p j=true):∀(l:List DM) (j0:Nat),(∀j x,l[j]? =some x→p (j0+j)=true→∀k,x.am.testBit k=true→p k=true)→∀k,(Rm m l j0).testBit k=true→p k=true
 | [],_,_,k,h=>hm k h
 |x::l,j0,hl,k,h=>by
  have hc:Rm m (x::l) j0=bif tb m j0 then cO x.am (Rm m l (eR j0))else Rm m l (eR j0):=rfl;have a:=Aa hm l (j0+1) (fun j y c b=>hl (j+1) y (by simpa using c) (by rw[show j0+(j+1)=j0+1+j by omega];exact b)) k
  rw[hc,Ae]at h;cases hb:m.testBit j0 with
  |true=>
   rw[hb,cond_true,ny,iQ]at h;rcases h with h|h
   ·exact hl 0 x rfl (hm _ hb) k h
   ·exact a h
  |false=>
   rw[hb,cond_false]at h;exact a h
theorem z9{m k:Nat}(h:m.testBit k=true):∀(l:List DM) (j0:Nat),(Rm m l j0).testBit k=true
 | [],_=>h
 |x::l,j0=>by
  have hc:Rm m (x::l) j0=bif tb m j0 then cO x.am (Rm m l (eR j0))else Rm m l (eR j0):=rfl;have a:=z9 h l (j0+1);rw[hc];cases tb m j0 with
  |true=>rw[cond_true,ny,iQ];exact .inr a
  |false=>exact a
def Shut(ms:List DM)(a:Array Bool):Prop:=∀j x,ms[j]? =some x→a.getD j false=true→∀k,x.am.testBit k=true→a.getD k false=true
theorem QS{ms:List DM}{a:Array Bool}(d:Shut ms a){m:Nat}(hm:∀j,m.testBit j=true→a.getD j false=true){k:Nat}(h:(AJ ms m).testBit k=true):a.getD k false=true:=by
 have b:∀j x,ms[j]? =some x→(fun k=>a.getD k false) (0+j)=true→∀k,x.am.testBit k=true→(fun k=>a.getD k false) k=true:=fun j x hx c=>d j x hx (by rw[aO]at c;exact c)
 unfold AJ at h;exact Aa (p:=fun k=>a.getD k false) (Aa (Aa (Aa hm ms 0 b) ms 0 b) ms 0 b) ms 0 b k h
theorem Iq{ms:List DM}{m k:Nat}(h:m.testBit k=true):(AJ ms m).testBit k=true:=by
 unfold AJ;exact z9 (z9 (z9 (z9 h ms 0) ms 0) ms 0) ms 0
noncomputable abbrev rel(ms:List DM)(i:Nat)(L:qt):qt:=Al (AJ ms (Kj ms i)) L
theorem js{m:Nat}{x:Nat×(ad→Prop)}:∀{L:qt},x∈Al m L↔x∈L∧tb m x.1=false
 | []=>by simp[Al]
 |(k,S)::L=>by
  have b:=js (m:=m) (x:=x) (L:=L);simp only[Al];cases hk:tb m k with
  |true=>
   rw[cond_true,b,aq];constructor
   ·exact fun h=>⟨.inr h.1,h.2⟩
   ·rintro⟨h|h,a⟩
    ·subst h;rw[hk]at a;cases a
    ·exact⟨h,a⟩
  |false=>
   rw[cond_false,aq,b,aq];constructor
   ·rintro(h|h)
    ·subst h;exact⟨.inl rfl,hk⟩
    ·exact⟨.inr h.1,h.2⟩
   ·rintro⟨h|h,a⟩
    ·exact .inl h
    ·exact .inr ⟨h,a⟩
def Rw(ms:List DM)(ro:Option Nat)(n:Nat)(P:Program)(ops:Array Oper)(Q:Exit→Act→World→Prop):Nat→qt→Array Bool→Act→World→Prop
 |0,_,listed,a,w=>Region.ready .any ops listed= []∧Q .normal a w
 |f+1,L,listed,a,w=>(Region.ready .any ops listed= []→Q .normal a w)∧
  ∀i∈Region.ready .any ops listed,∀o,ops[i]? =some o→
   wpOpIn (FW ro) n P ops Q i (fun a' b=>(∀x∈rel ms i L,x.2 b.heap)∧Rw ms ro n P ops Q f (rel ms i L) (listed.setIfInBounds i true) a' b) a w
theorem wV{o:Oper}{x:Nat×(ad→Prop)}:∀{L:qt},x∈oe o L↔x∈L∧iG o x.1=false
 | []=>by simp[oe]
 |(k,S)::L=>by
  have b:=wV (o:=o) (x:=x) (L:=L);simp only[oe];cases hk:iG o k with
  |true=>
   rw[cond_true,b,aq];constructor
   ·exact fun h=>⟨.inr h.1,h.2⟩
   ·rintro⟨h|h,a⟩
    ·subst h;rw[hk]at a;cases a
    ·exact⟨h,a⟩
  |false=>
   rw[cond_false,aq,b,aq];constructor
   ·rintro(h|h)
    ·subst h;exact⟨.inl rfl,hk⟩
    ·exact⟨.inr h.1,h.2⟩
   ·rintro⟨h|h,a⟩
    ·exact .inl h
    ·exact .inr ⟨h,a⟩
theorem Qd{a:Array Bool}{i:Nat}(h:i∈Region.ready .any ops a):∃o,ops[i]? =some o:=by
 obtain⟨_,o,b,_⟩:=mem_ready.1 h;exact⟨o,b⟩
theorem ON{ms:List DM}:∀(f:Nat) (L:qt) (listed:Array Bool) (a:Act) (w:World),Rw ms ro n P ops Q f L listed a w→wpAnyIn (FW ro) n P .any ops Q f listed a w
 |0,_,_,_,_,h=>h
 |f+1,L,listed,a,w,h=>⟨h.1,fun i hi=>by
  obtain⟨o,c⟩:=Qd hi
  exact wpOpIn_mono (fun a' b h'=>ON f _ _ a' b h'.2) (h.2 i hi o c)⟩
theorem uA{ms:List DM}:∀(f:Nat) (L L':qt) (listed:Array Bool) (a:Act) (w:World),(∀x∈L',x∈L∨∀h,x.2 h)→Rw ms ro n P ops Q f L listed a w→Rw ms ro n P ops Q f L' listed a w
 |0,_,_,_,_,_,_,h=>h
 |f+1,L,L',listed,a,w,hs,h=>⟨h.1,fun i hi o d=>by
  have b:∀x∈rel ms i L',x∈rel ms i L∨∀h,x.2 h:=fun x hx=>(hs x (js.1 hx).1).imp (fun h=>js.2 ⟨h,(js.1 hx).2⟩) id
  exact wpOpIn_mono (fun a' c h'=>⟨fun x hx=>(b x hx).elim (h'.1 x) fun h=>h _,uA f _ _ _ a' c b h'.2⟩) (h.2 i hi o d)⟩
def YG(P:Program)(ops:Array Oper)(S:ad→Prop)(o:Oper)(v:Value)(a:Act):Prop:=
 (Region.wanted o (yielded ops a.tmps)=true∧∀w:World,S w.heap→(execOp a.eval o).run P w=.ok (.value v) w)∨
 (Region.wanted o (yielded ops a.tmps)=false∧v=undef)
theorem YG.wpOp{S:ad→Prop}{i:Nat}{o:Oper}{v:Value}{a:Act}(hi:ops[i]? =some o) (hd:∀c,o.op≠ .defer c) (e:YG P ops S o v a) {K:Act→World→Prop} {w:World} (d:S w.heap)
  (h:K (a.put o.dst v) w):wpOpIn (FW ro) n P ops Q i K a w:=by
 unfold wpOpIn;simp only[hi];rcases e with⟨b,hv⟩|⟨b,rfl⟩
 ·simp only[b,if_true]
  refine⟨fun _ _=>trivial,?_⟩
  rw[Oper.semAt_eq _ _ _ hd,hv w d];exact h
 ·simp only[b,Bool.false_eq_true,if_false];exact⟨fun _ _=>trivial,h⟩
theorem YG.of_same{S:ad→Prop}{o:Oper}{v:Value}{a a':Act}(d:YG P ops S o v a)(b:execOp a'.eval o=execOp a.eval o)
  (c:Region.wanted o (yielded ops a'.tmps)=Region.wanted o (yielded ops a.tmps)):YG P ops S o v a':=by
 unfold YG at*;rw[b,c];exact d
theorem MN{S:ad→Prop}{j:Nat}{g i:Oper}{v:Value}(D:ops[j]? =some i)
  (A:(∀d,g.dst=some d→d∉i.looksAt ops)∧(∀d,g.dst=some d→i.dst≠some d)∧(∀d,i.dst=some d→d∉g.looksAt ops))
  (t:∀cs b,g.op≠ .select cs b) (B:∀cs b,i.op≠ .select cs b) (s:∀c,i.op≠ .defer c)
  (F:∀e a w,(∀c,e=.panic c→False)∨¬Q e a w) {K:Act→World→Prop} {a:Act} {w:World}
  (k:YG P ops S g v a) (h:wpOpIn (FW ro) n P ops Q j K (a.put g.dst v) w):
  wpOpIn (FW ro) n P ops Q j (fun a' z=>YG P ops S g v a'∧K (a'.put g.dst v) z) a w:=by
 obtain⟨C,p,y⟩:=A;have o:∀c a w,¬Q (.panic c) a w:=fun c a w E=>(F (.panic c) a w).elim (fun h=>h c rfl) fun h=>h E
 have keep:∀(a:Act),YG P ops S g v a→∀u,YG P ops S g v (a.put i.dst u):=fun a k u=>
  k.of_same (execOp_put g t a i.dst u y) (wanted_put g a i.dst u y)
 unfold wpOpIn at*;simp only[D]at*;rw[wanted_put i a g.dst v C]at h;split
 ·rename_i hw
  simp only[hw,if_true]at h;refine⟨fun _ _=>trivial,?_⟩
  have h:=h.2;rw[Oper.semAt_eq _ _ _ s,execOp_put i B a g.dst v C]at h;rw[Oper.semAt_eq _ _ _ s];generalize (execOp a.eval i).run P w=r at*;cases r with
  |ok x z=>
   cases x<;>simp only[Oper.uponIn]at h⊢
   case value u=>exact⟨keep a k u,by rw[←Act.put_comm a v u p];exact h⟩
   case skip=>exact⟨keep a k _,by rw[←Act.put_comm a v undef p];exact h⟩
   case defer d=>
    refine⟨(k.of_same (a':={a with defers:=d::a.defers}) rfl rfl).of_same (execOp_put g t _ i.dst undef y) (wanted_put g _ i.dst undef y),?_⟩;rw[←Act.put_comm _ v undef p,←Act.put_defers];exact h
   case enter f args=>
    refine⟨h.1,CallsIn.mono h.2 fun e q m=>?_⟩
    cases e with
    |returned u=>exact⟨keep a k u,by rw[←Act.put_comm a v u p];exact m⟩
    |panicked c=>exact(o _ _ _ m).elim
    |outgrown=>exact m
   case row row args=>exact⟨h.1,RowsIn.mono h.2 fun u q m=>⟨keep a k u,by rw[←Act.put_comm a v u p];exact m⟩⟩
   case round l f tmps assign body=>
    refine⟨h.1,RoundIn.mono h.2 fun e q m=>?_⟩
    cases e with
    |returned u=>exact⟨keep a k u,by rw[←Act.put_comm a v u p];exact m⟩
    |panicked c=>exact(o _ _ _ m).elim
    |outgrown=>exact m
  |halt x z=>
   cases x<;>simp only[Oper.uponIn]at h⊢
   case panic u=>exact(o _ _ _ h).elim
 ·rename_i hw
  simp only[hw]at h;exact⟨fun _ _=>trivial,keep a k _,by rw[←Act.put_comm a v undef p];exact h.2⟩
theorem Ki{ms:List DM}(hm:MsOk ops ms){i:Nat}{o:Oper}(a:ops[i]? =some o) (k:Nat):(Kj ms i).testBit k=iG o k:=by
 have hi:i<ms.length:=by rw[hm.len];exact(cF.1 a).1
 unfold Kj;rw[af hi];exact hm.am i o _ a (af hi) k
theorem Lj{ms:List DM}(hm:MsOk ops ms){a:Array Bool}{j:Nat}(d:j∈Region.ready .any ops a)(k:Nat)(c:(Kj ms j).testBit k=true):a.getD k false=true:=by
 obtain⟨_,o,f,b⟩:=mem_ready.1 d;rw[Ki hm f]at c;unfold iG at c;obtain⟨e,g,hb⟩:=bT.1 c;simp only[bj]at hb;have:=b e (by simpa using g) hb.2;rw[bo hb.1]at this;exact this
theorem L3{a:Array Bool}{j k:Nat}(h:a.getD k false=true):(a.setIfInBounds j true).getD k false=true:=by
 by_cases e:j=k
 ·subst e
  rw[cQ]at h⊢;rcases cr j a.size with h'|h'
  ·simp[h']
  ·simp[jX h']at h
 ·rw[cQ,dV e,←cQ]
  exact h
theorem Shut.put{ms:List DM}(hm:MsOk ops ms){a:Array Bool}(d:Shut ms a){j:Nat}(f:j∈Region.ready .any ops a):Shut ms (a.setIfInBounds j true):=by
 intro i x hx c k b;by_cases e:j=i
 ·subst e
  refine L3 (Lj hm f k ?_);unfold Kj;rw[hx];exact b
 ·rw[cQ,dV e,←cQ]at c
  exact L3 (d i x hx c k b)
theorem EE{ms:List DM}(hm:MsOk ops ms){S:ad→Prop}{i:Nat}{z:Oper}{v:Value}(hi:ops[i]? =some z) (q:∀(j:Nat) (o:Oper),ops[j]? =some o→(∀cs b,o.op≠ .select cs b)∧(∀c,o.op≠ .defer c))
  (hQ:∀e a w,(∀c,e=.panic c→False)∨¬Q e a w):
  ∀(m:Nat) (L:qt) (f:Array Bool) (a:Act) (w:World),
   (∀j u,ops[j]? =some u→j≠i→f.getD j true=false→iG u i=false→
    (∀d,z.dst=some d→d∉u.looksAt ops)∧(∀d,z.dst=some d→u.dst≠some d)∧(∀d,u.dst=some d→d∉z.looksAt ops))→
   Shut ms f→i∈Region.ready .any ops f→YG P ops S z v a→S w.heap→(∀x∈L,x.2 w.heap)→
   Rw ms ro n P ops Q m ((i,S)::L) (f.setIfInBounds i true) (a.put z.dst v) w→Rw ms ro n P ops Q (m+1) L f a w:=by
 intro m;induction m with
 |zero=>
  intro L f a w _ _ C T V X H;refine⟨fun h=>(by rw[h]at C;cases C),fun j E u g=>?_⟩
  by_cases p:j=i
  ·subst p
   rw[hi]at g;cases g;exact T.wpOp hi (q _ _ hi).2 V ⟨fun x hx=>X x (js.1 hx).1,H⟩
  ·have:=ready_mono E p
   rw[H.1]at this;cases this
 |succ m ih=>
  intro L f a w t J C T V X H;refine⟨fun h=>(by rw[h]at C;cases C),fun j E u g=>?_⟩
  by_cases p:j=i
  ·subst p
   rw[hi]at g;cases g;exact T.wpOp hi (q _ _ hi).2 V ⟨fun x hx=>X x (js.1 hx).1,uA _ _ _ _ _ _ (fun x hx=>.inl (ax _ (js.1 hx).1)) H⟩
  ·have s:=H.2 j (ready_mono E p) u g
   obtain⟨B,oj',A,R⟩:=mem_ready.1 E;rw[g]at A;cases A;have N:iG u i=false:=by
    cases hb:iG u i with
    |false=>rfl
    |true=>
     unfold iG at hb;obtain⟨e,Y,hb⟩:=bT.1 hb;simp only[bj]at hb;have s:=R e (by simpa using Y) hb.2;rw[bo hb.1]at s;have F:=(mem_ready.1 C).1;rcases cr i f.size with h'|h'
     ·simp[h']at F s;rw[F]at s;cases s
     ·simp[jX h']at s
   have D:tb (AJ ms (Kj ms j)) i=false:=by
    cases hb:tb (AJ ms (Kj ms j)) i with
    |false=>rfl
    |true=>
     rw[Ae]at hb;have s:=QS J (Lj hm E) hb;have F:=(mem_ready.1 C).1;rcases cr i f.size with h'|h'
     ·simp[h']at F s;rw[F]at s;cases s
     ·simp[jX h']at s
   have I:rel ms j ((i,S)::L)=(i,S)::rel ms j L:=by simp only[rel,Al,D,cond_false]
   rw[I]at s;have h2:=MN g (t j u g p B N) (q _ _ hi).1 (q _ _ g).1 (q _ _ g).2 hQ T s;have y:∀k ok,ops[k]? =some ok→k≠i→(f.setIfInBounds j true).getD k true=false→iG ok i=false→
     (∀d,z.dst=some d→d∉ok.looksAt ops)∧(∀d,z.dst=some d→ok.dst≠some d)∧(∀d,ok.dst=some d→d∉z.looksAt ops):=fun k ok hk W G U=>by
    refine t k ok hk W ?_ U;by_cases O:j=k
    ·subst O;exact B
    ·rw[getD_set_ne true O]at G;exact G
   refine wpOpIn_mono (fun a' Z K=>⟨fun x hx=>K.2.1 x (ax _ hx),ih (rel ms j L) (f.setIfInBounds j true) a' Z y (J.put hm E) (ready_mono C (Ne.symm p)) K.1 (K.2.1 _ (ar ..)) (fun x hx=>K.2.1 x (ax _ hx)) ?_⟩) h2
   rw[Array.setIfInBounds_comm _ _ p];exact K.2.2
theorem qZ{h:ad}{R:Prop}:∀{L:qt},rM L h R↔(∀x∈L,x.2 h)∧R
 | []=>by simp[rM]
 |(k,S)::L=>by
  simp only[rM,qZ (L:=L),aq,forall_eq_or_imp,and_assoc]
theorem Rv{ms:List DM}{f:Nat}{L:qt}{b:Array Bool}{a:Act}{w:World}(c:Region.ready .any ops b= [])(h:Q .normal a w):Rw ms ro n P ops Q f L b a w:=by
 cases f with
 |zero=>exact⟨c,h⟩
 |succ f=>exact⟨fun _=>h,by rw[c];simp⟩
def left(ops:Array Oper)(ls:Nat):Nat:=((gc ops.size).filter fun j=> !ls.testBit j).length
theorem xa{ls i:Nat}(hi:i<ops.size)(g:ls.testBit i=false):left ops (cO ls (gf i))+1=left ops ls:=by
 have key:∀l:List Nat,l.Nodup→i∈l→(l.filter fun j=> !(cO ls (gf i)).testBit j).length+1=(l.filter fun j=> !ls.testBit j).length:=by
  intro l;induction l with
  |nil=>intro _ h;cases h
  |cons x l ih=>
   intro b hm;rw[List.nodup_cons]at b;by_cases hx:x=i
   ·subst hx
    have a:(l.filter fun j=> !(cO ls (gf x)).testBit j)=l.filter fun j=> !ls.testBit j:=by
     apply List.filter_congr;intro y f;have:x≠y:=fun e=>b.1 (e▸f)
     rw[ny,zy,decide_eq_false this,Bool.or_false]
    have c:(cO ls (gf x)).testBit x=true:=by rw[ny,zy];simp
    rw[aR,aR,c,g,a];rfl
   ·have d:i∈l:=by rcases aq.1 hm with h|h;exact absurd h.symm hx;exact h
    have c:(cO ls (gf i)).testBit x=ls.testBit x:=by rw[ny,zy,decide_eq_false (Ne.symm hx),Bool.or_false]
    have:=ih b.2 d;rw[aR,aR,c];cases ls.testBit x with
    |true=>exact this
    |false=>exact congrArg (· +1) this
 exact key _ List.nodup_range (List.mem_range.2 hi)
theorem QJ{N:Nat}{a:List Oper}{ms:List DM}{ls:Nat}{L:qt}{d:vn}{K:cG→ad→Prop}{r:cG}{b:ad}:∀{l:DA},mJ P N a ms l true ls L d K r b→∃i,i∈Ca l
 | .done,h=>h.elim
 | .take i rest,h=>by
  exfalso;have hc:mJ P N a ms (.take i rest) true ls L d K r b=(match a[i]?,ms[i]? with|some _,some _=>False|_,_=>False):=rfl
  rw[hc]at h;split at h<;>exact h
 | .all _,h=>h.elim
 | .pick i _ _,_=>⟨i,ar ..⟩
 | .last i _,_=>⟨i,ar ..⟩
 | .lastT i _,_=>⟨i,ar ..⟩
 | .split ..,h=>h.elim
def Ox(ro:Option Nat)(n:Nat)(P:Program)(ops:Array Oper)(Q:Exit→Act→World→Prop)(N:Nat)(ms:List DM)(W:Nat→Prop)(e:Act)(f:World)(K:cG→ad→Prop)(c:DA):Prop:=
 ∀(m:Bool) (ls:Nat) (L:qt) (d:vn) (r:cG) (a:Act) (w:World) (listed:Array Bool) (fuel:Nat),
  mJ P N ops.toList ms c m ls L d K r w.heap→Agree N r a→DecOk d r→Fr W e f a w→LsRel ops ls listed→Shut ms listed→(∀x∈L,x.2 w.heap)→
  (m=false→left ops ls≤fuel→Rw ms ro n P ops Q fuel L listed a w)∧
  (m=true→left ops ls≤fuel+1→∀i∈Ca c,i∈ll ls ms 0→∀o,ops[i]? =some o→
   wpOpIn (FW ro) n P ops Q i (fun a' b=>(∀x∈rel ms i L,x.2 b.heap)∧Rw ms ro n P ops Q fuel (rel ms i L) (listed.setIfInBounds i true) a' b) a w)
theorem K9{N:Nat}{ms:List DM}(hm:MsOk ops ms){W:Nat→Prop}(hW:∀o∈ops.toList,∀d,o.dst=some d→W d){a0:Act}{w0:World}{K:cG→ad→Prop}
  (hQ:∀r a w,Agree N r a→Fr W a0 w0 a w→K r w.heap→Q .normal a w)(hnp:∀e a w,(∀c,e=.panic c→False)∨¬Q e a w)(da:DA):
  Ox ro n P ops Q N ms W a0 w0 K da:=by
 have one:∀(i:Nat) (q:DA)
   (_:Ox ro n P ops Q N ms W a0 w0 K q)
   (ls:Nat) (L:qt) (d:vn) (r:cG) (a:Act) (w:World) (f:Array Bool) (p:Nat),
   Qa P N ops.toList i L d r w.heap (fun L' d' F h'=>mJ P N ops.toList ms q false (cO ls (gf i)) L' d' K F h')→Agree N r a→DecOk d r→Fr W a0 w0 a w→LsRel ops ls f→Shut ms f→
   left ops ls≤p+1→i∈ll ls ms 0→∀o,ops[i]? =some o→
    wpOpIn (FW ro) n P ops Q i (fun a' w'=>(∀x∈rel ms i L,x.2 w'.heap)∧Rw ms ro n P ops Q p (rel ms i L) (f.setIfInBounds i true) a' w') a w:=by
  intro i q Z ls L d r a w f p g C hd J A s D hr o z;have B:i<ops.size:=(cF.1 z).1;obtain⟨k,mm,hk,hki,R,_⟩:=(rF ls ms 0 i).1 hr;unfold Qa at g;rw[bB,z]at g;simp only at g;cases hw:iE ops.toList d o with
  |none=>rw[hw]at g;exact g.elim
  |some b=>
   rw[hw]at g;cases b with
   |false=>exact g.elim
   |true=>
    simp only at g;cases hq:wr P o.op with
    |true=>
     rw[hq,cond_true]at g;unfold wpOpIn;rw[z];simp only[mH hw C hd,if_true];obtain⟨v,S,hK,hS,_,Y⟩:=BU C g d hd;refine pP (K:=fun u h'=>u=v∧h'=w.heap) (CJ g) (.inl ⟨v,w,Y w hS,Tame.refl w,rfl,rfl⟩) ?_
     rintro u w' ht ⟨rfl,hw'⟩;obtain⟨F,H,I,O⟩:=tA (dv:=.x) hK C hd trivial;obtain⟨hh,hs'⟩:=qZ.1 H;have E:o∈ops.toList:=gu (by rw[bB];exact z);have T:=xa B R;have G:∀x∈rel ms i L,x∈oe o L:=fun x hx=>wV.2 ⟨(js.1 hx).1,by
      cases hb:iG o x.1 with
      |false=>rfl
      |true=>
        have:=(js.1 hx).2
        rw[Ae,Iq (by rw[Ki hm z];exact hb)]at this;cases this⟩
     rw[←hw']at hh hs';exact⟨fun x hx=>hh x (G x hx),uA _ _ _ _ _ _ (fun x hx=>.inl (G x hx)) ((Z false _ _ _ F _ w' _ p hs' I O (J.put (hW o E) u ht) (A.put B) (s.put hm ((lW hm A).2 hr)) hh).1 rfl (by omega))⟩
    |false=>
     rw[hq,cond_false]at g;unfold wpOpIn;rw[z];simp only[mH hw C hd,if_true];refine pP (wM g) (BF C g) ?_;intro v w' ht hK;obtain⟨F,H,I,O⟩:=tA (dv:=.x) hK C hd trivial;obtain⟨hh,hs'⟩:=qZ.1 H;have E:o∈ops.toList:=gu (by rw[bB];exact z);have T:=xa B R;have G:∀x∈rel ms i L,x∈oe o L:=fun x hx=>wV.2 ⟨(js.1 hx).1,by
      cases hb:iG o x.1 with
      |false=>rfl
      |true=>
        have:=(js.1 hx).2
        rw[Ae,Iq (by rw[Ki hm z];exact hb)]at this;cases this⟩
     exact⟨fun x hx=>hh x (G x hx),uA _ _ _ _ _ _ (fun x hx=>.inl (G x hx)) ((Z false _ _ _ F _ w' _ p hs' I O (J.put (hW o E) v ht) (A.put B) (s.put hm ((lW hm A).2 hr)) hh).1 rfl (by omega))⟩
 have oneT:∀(i:Nat) (q:DA)
   (_:Ox ro n P ops Q N ms W a0 w0 K q)
   (ls:Nat) (L:qt) (d:vn) (r:cG) (a:Act) (w:World) (f:Array Bool) (p:Nat),
   O6 P N ops.toList ms i L d r w.heap (fun L' d' F h'=>mJ P N ops.toList ms q false (cO ls (gf i)) L' d' K F h')→Agree N r a→DecOk d r→Fr W a0 w0 a w→LsRel ops ls f→Shut ms f→
   left ops ls≤p+1→i∈ll ls ms 0→∀o,ops[i]? =some o→
    wpOpIn (FW ro) n P ops Q i (fun a' w'=>(∀x∈rel ms i L,x.2 w'.heap)∧Rw ms ro n P ops Q p (rel ms i L) (f.setIfInBounds i true) a' w') a w:=by
  intro i q Z ls L d r a w f p g C hd J A s D hr o z;have B:i<ops.size:=(cF.1 z).1;obtain⟨k,mm,hk,hki,R,_⟩:=(rF ls ms 0 i).1 hr;unfold O6 at g;rw[bB,z]at g;simp only at g;cases hw:iE ops.toList d o with
  |none=>rw[hw]at g;exact g.elim
  |some b=>
   rw[hw]at g;cases b with
   |false=>exact g.elim
   |true=>
    simp only at g;cases hq:wr P o.op with
    |true=>rw[hq]at g;exact g.elim
    |false=>
     rw[hq,cond_false]at g;unfold wpOpIn;rw[z];simp only[mH hw C hd,if_true];refine pP (wM g) (BF C g) ?_;intro v w' ht hK;obtain⟨F,H,I,O⟩:=tA (dv:=.x) hK C hd trivial;obtain⟨hh,hs'⟩:=qZ.1 H;have E:o∈ops.toList:=gu (by rw[bB];exact z);have T:=xa B R;exact⟨hh,(Z false _ _ _ F _ w' _ p hs' I O (J.put (hW o E) v ht) (A.put B) (s.put hm ((lW hm A).2 hr)) hh).1 rfl (by omega)⟩
 induction da with
 |done=>
  intro m ls L d r a w f p g C hd J A s V;cases m with
  |true=>exact g.elim
  |false=>
   refine⟨fun _ _=>?_,fun h=>by cases h⟩
   have hc:mJ P N ops.toList ms .done false ls L d K r w.heap=bif vE (ll ls ms 0) []then K r w.heap else False:=rfl;rw[hc]at g;cases hb:vE (ll ls ms 0) []with
   |false=>rw[hb]at g;exact g.elim
   |true=>
    rw[hb]at g;have hnil:Region.ready .any ops f= []:=by
     apply List.eq_nil_iff_forall_not_mem.2;intro j U;rw[lW hm A,xV hb]at U;cases U
    exact Rv hnil (hQ r a w C J g)
 |take i q Z=>
  intro m ls L d r a w f p g C hd J A s V;cases m with
  |true=>
   exfalso;have hc:mJ P N ops.toList ms (.take i q) true ls L d K r w.heap=(match ops.toList[i]?,ms[i]? with|some _,some _=>False|_,_=>False):=rfl
   rw[hc]at g;split at g<;>exact g
  |false=>
   refine⟨fun _ D=>?_,fun h=>by cases h⟩
   have hc:mJ P N ops.toList ms (.take i q) false ls L d K r w.heap=(match ops.toList[i]?,ms[i]? with
    |some o,some mi=>bif ET mi i ls ops.toList.length then
      (match iE ops.toList d o with
       |none=>False
       |some false=>zu N o undef r fun F=>mJ P N ops.toList ms q false (cO ls (gf i)) L (rh d o .u) K F w.heap
       |some true=>bif wr P o.op then
          BA P none o.op r (fun v S=>zu N o v r fun F=>match S with
            |none=>mJ P N ops.toList ms q false (cO ls (gf i)) L (rh d o (Kz d o.op)) K F w.heap
            |some S=>mJ P N ops.toList ms q false (cO ls (gf i)) ((i,S)::L) (rh d o (Kz d o.op)) K F w.heap) w.heap
          else False)
     else False
    |_,_=>False):=rfl
   rw[hc]at g;split at g
   ·rename_i o mi z hmi
    rw[bB]at z;cases htk:ET mi i ls ops.toList.length with
    |false=>rw[htk]at g;exact g.elim
    |true=>
     rw[htk,cond_true]at g;unfold ET at htk;simp only[bj,jf,Ae]at htk;obtain⟨⟨hun,hrd⟩,hfr⟩:=htk;have B:i<ops.size:=(cF.1 z).1;have y:i∈Region.ready .any ops f:=(HH hm A).2 ⟨mi,hmi,hun,hrd⟩;have T:=xa (ops:=ops) B hun;obtain⟨f',rfl⟩:∃f',p=f'+1:=⟨p-1,by omega⟩
     have E:o∈ops.toList:=gu (by rw[bB];exact z);have hcov:∀j,j<ops.size→ls.testBit j=true∨mi.fr.testBit j=true:=by
      intro j U;have h0:=bo hfr;have hpb:(xL (gf ops.toList.length)).testBit j=true:=by
        have:xL (gf ops.toList.length)=2^ops.toList.length-1:=rfl;rw[this,Nat.testBit_two_pow_sub_one];simpa using U
      have hand:(ja (cO ls mi.fr) (xL (gf ops.toList.length))).testBit j=((cO ls mi.fr).testBit j&&(xL (gf ops.toList.length)).testBit j):=ki _ _ j;rw[h0,hpb,uw,ny]at hand;exact(Bool.or_eq_true_iff).1 hand.symm
     have X:∀j oj,ops[j]? =some oj→j≠i→f.getD j true=false→iG oj i=false→
        (∀d,o.dst=some d→d∉oj.looksAt ops)∧(∀d,o.dst=some d→oj.dst≠some d)∧(∀d,oj.dst=some d→d∉o.looksAt ops):=by
      intro j oj hoj hne hju hna;have U:j<ops.size:=(cF.1 hoj).1;rw[A.unlisted U]at hju;have hjm:j<ms.length:=by rw[hm.len];exact U
      have hmj:=af hjm;rcases hcov j U with h|h
      · rw[h]at hju;cases hju
      · rcases hm.free i j mi _ hmi hmj h with h|h|h
        ·exact absurd h hne
        ·rw[hm.am j oj _ hoj hmj,hna]at h;cases h
        ·exact TL hm z hoj hmi hmj h
     cases hw:iE ops.toList d o with
     |none=>rw[hw]at g;exact g.elim
     |some b=>
      rw[hw]at g;have hwd:=mH hw C hd;cases b with
      |false=>
        obtain⟨F,H,I,O⟩:=tA (dv:=.u) g C hd rfl;have hy:YG P ops (fun _=>True) o undef a:=.inr ⟨hwd,rfl⟩
        refine EE hm z hm.nosel hnp f' L f a w X s y hy trivial V ?_;refine uA _ L _ _ _ _ (fun x hx=>(aq.1 hx).elim (fun e=>.inr fun h=>by rw[e];trivial) .inl) ?_
        exact(Z false _ _ _ F _ w _ f' H I O (J.put (hW o E) undef (Tame.refl w)) (A.put B) (s.put hm y) V).1 rfl (by omega)
      |true=>
        simp only at g;cases hq:wr P o.op with
        |false=>rw[hq]at g;exact g.elim
        |true=>
         rw[hq,cond_true]at g;obtain⟨v,S,hK,hS,hdv,Y⟩:=BU C g d hd;obtain⟨F,H,I,O⟩:=tA hK C hd hdv;have hfr':=J.put (hW o E) v (Tame.refl w);cases S with
         |none=>
           have hy:YG P ops (fun _=>True) o v a:=.inl ⟨hwd,fun w _=>Y w trivial⟩
           refine EE hm z hm.nosel hnp f' L f a w X s y hy trivial V ?_;refine uA _ L _ _ _ _ (fun x hx=>(aq.1 hx).elim (fun e=>.inr fun h=>by rw[e];trivial) .inl) ?_
           exact(Z false _ _ _ F _ w _ f' H I O hfr' (A.put B) (s.put hm y) V).1 rfl (by omega)
         |some S=>
           have hy:YG P ops S o v a:=.inl ⟨hwd,fun w h=>Y w h⟩
           refine EE hm z hm.nosel hnp f' L f a w X s y hy hS V ?_;exact(Z false _ _ _ F _ w _ f' H I O hfr' (A.put B) (s.put hm y) (fun x hx=>(aq.1 hx).elim (fun e=>by rw[e];exact hS) (V x))).1 rfl (by omega)
   ·exact g.elim
 |all l Z=>
  intro m ls L d r a w f p g C hd J A s V;cases m with
  |true=>exact g.elim
  |false=>
   refine⟨fun _ D=>?_,fun h=>by cases h⟩
   have hc:mJ P N ops.toList ms (.all l) false ls L d K r w.heap=bif vE (ll ls ms 0) (Ca l)then mJ P N ops.toList ms l true ls L d K r w.heap else False:=rfl;rw[hc]at g;cases hb:vE (ll ls ms 0) (Ca l)with
   |false=>rw[hb]at g;exact g.elim
   |true=>
    rw[hb,cond_true]at g;obtain⟨i,hi⟩:=QJ g;rw[←xV hb]at hi;have hrd:=(lW hm A (j:=i)).2 hi;obtain⟨k,mm,hk,hki,R,_⟩:=(rF ls ms 0 i).1 hi;have B:i<ops.size:=by
     have:=(bG.1 hk).1;rw[hm.len]at this;omega
    have T:=xa (ops:=ops) B R;obtain⟨f',rfl⟩:∃f',p=f'+1:=⟨p-1,by omega⟩
    refine⟨fun h=>(by rw[h]at hrd;cases hrd),fun j U o z=>?_⟩
    have hj':=(lW hm A).1 U;exact(Z true ls L d r a w f f' g C hd J A s V).2 rfl D j (by rw[←xV hb];exact hj') hj' o z
 |pick i q more ih1 ih2=>
  intro m ls L d r a w f p g C hd J A s V;cases m with
  |false=>exact g.elim
  |true=>
   refine⟨fun h=>(by cases h),fun _ D j U hjr o z=>?_⟩
   have g:Qa P N ops.toList i L d r w.heap (fun L' d' F h'=>mJ P N ops.toList ms q false (cO ls (gf i)) L' d' K F h')∧mJ P N ops.toList ms more true ls L d K r w.heap:=g
   rcases aq.1 U with rfl|U
   ·exact one _ q ih1 ls L d r a w f p g.1 C hd J A s D hjr o z
   ·exact(ih2 true ls L d r a w f p g.2 C hd J A s V).2 rfl D j U hjr o z
 |last i q Z=>
  intro m ls L d r a w f p g C hd J A s V;cases m with
  |false=>exact g.elim
  |true=>
   refine⟨fun h=>(by cases h),fun _ D j U hjr o z=>?_⟩
   have g:Qa P N ops.toList i L d r w.heap (fun L' d' F h'=>mJ P N ops.toList ms q false (cO ls (gf i)) L' d' K F h'):=g
   have hji:j=i:=al.1 U;subst hji;exact one _ q Z ls L d r a w f p g C hd J A s D hjr o z
 |lastT i q Z=>
  intro m ls L d r a w f p g C hd J A s V;cases m with
  |false=>exact g.elim
  |true=>
   refine⟨fun h=>(by cases h),fun _ D j U hjr o z=>?_⟩
   have g:O6 P N ops.toList ms i L d r w.heap (fun L' d' F h'=>mJ P N ops.toList ms q false (cO ls (gf i)) L' d' K F h'):=g
   have hji:j=i:=al.1 U;subst hji;exact oneT _ q Z ls L d r a w f p g C hd J A s D hjr o z
 |split t yes no ih1 ih2=>
  intro m ls L d r a w f p g C hd J A s V;cases m with
  |true=>exact g.elim
  |false=>
   refine⟨fun _ D=>?_,fun h=>by cases h⟩
   have hc:mJ P N ops.toList ms (.split t yes no) false ls L d K r w.heap=(match jF r t with
    |some (.bool b)=>CondP b (mJ P N ops.toList ms yes false ls L ((t,.t)::d) K ((t,.bool true)::r) w.heap) (mJ P N ops.toList ms no false ls L ((t,.f)::d) K ((t,.bool false)::r) w.heap)
    |_=>False):=rfl
   rw[hc]at g;split at g
   ·rename_i b hlk
    cases b with
    |true=>exact(ih1 false ls L _ _ a w f p (g.yes rfl) (C.known hlk) (hd.known rfl) J A s V).1 rfl D
    |false=>exact(ih2 false ls L _ _ a w f p (g.no rfl) (C.known hlk) (hd.known rfl) J A s V).1 rfl D
   ·exact g.elim
end Go.Lift
namespace Go.Lift
open Go
variable {P:Program} {ro:Option Nat} {n:Nat}
theorem H3{r:cG}:∀{l:List Nat} {r0:cG},PA r l=some r0→∀t v,jF r0 t=some v→t∈l∧jF r t=some v
 | [],r0,h,t,v,hv=>by cases h;cases hv
 |s::l,r0,h,t,v,hv=>by
  have h:(match jF r s,PA r l with|some v,some l=>some ((s,v)::l)|_,_=>none)=some r0:=h
  split at h
  ·rename_i u l' hu hl
   cases h;by_cases e:s=t
   ·subst e;rw[ic]at hv;cases hv;exact⟨ar ..,hu⟩
   ·rw[gi u _ e]at hv
    have:=H3 hl t v hv;exact⟨ax _ this.1,this.2⟩
  ·cases h
theorem B5{m:Nat}{t:Nat}{v:Value}:∀{r:cG},jF (xe m r) t=some v→m.testBit t=false∧jF r t=some v
 | [],h=>by cases h
 |(k,u)::r,h=>by
  have h:jF (bif tb m k then xe m r else(k,u)::xe m r) t=some v:=h;cases hk:tb m k with
  |true=>
   rw[hk]at h;have:=B5 h;by_cases e:k=t
   ·subst e;rw[Ae,this.1]at hk;cases hk
   ·rw[gi u _ e];exact this
  |false=>
   rw[hk]at h;have h:jF ((k,u)::xe m r) t=some v:=h;by_cases e:k=t
   ·subst e;rw[ic]at h⊢;rw[Ae]at hk;exact⟨hk,h⟩
   ·rw[gi u _ e]at h⊢;exact B5 h
theorem BD{t:Nat}:∀{l:List Oper},(Rz l).testBit t=false→¬kW t l=true
 | [],_,h=>by cases h
 |o::l,hm,h=>by
  have hm:(cO (m9 o) (Rz l)).testBit t=false:=hm;rw[ny,lR]at hm;have h:(match o.dst with|some d=>bif aJ d t then true else kW t l|none=>kW t l)=true:=h
  cases hd:o.dst with
  |none=>rw[hd]at h;exact BD hm.2 h
  |some d=>
   rw[hd]at h;cases e:aJ d t with
   |true=>have:=(xo o t).2 (by rw[hd,bo e]);rw[hm.1]at this;cases this
   |false=>simp only[e]at h;exact BD hm.2 h
theorem LD{a b:Option Nat}{m:Nat}(h:Xk a b=some m):∃x y,a=some x∧b=some y∧m=cO x y:=by
 cases a<;>cases b<;>cases h
 exact⟨_,_,rfl,rfl,rfl⟩
theorem Ry{t:Nat}(c:Code):∀{m:Nat},yq c=some m→m.testBit t=false→¬fF t c=true:=by
 induction c with
 |skip=>intro m _ _ h;cases h
 |region id ops dr=>intro m h hm d;cases h;exact BD hm d
 |seq a b iha ihb=>
  intro m h hm d;obtain⟨x,y,hx,e,rfl⟩:=LD (show Xk (yq a) (yq b)=some m from h)
  rw[ny,lR]at hm;have d:(bif fF t a then true else fF t b)=true:=d;cases ha:fF t a with
  |true=>exact iha hx hm.1 ha
  |false=>rw[ha]at d;exact ihb e hm.2 d
 |cond c a b iha ihb=>
  intro m h hm d;obtain⟨x,y,hx,e,rfl⟩:=LD (show Xk (yq a) (yq b)=some m from h)
  rw[ny,lR]at hm;have d:(bif fF t a then true else fF t b)=true:=d;cases ha:fF t a with
  |true=>exact iha hx hm.1 ha
  |false=>rw[ha]at d;exact ihb e hm.2 d
 |block id b ih=>exact fun h hm=>ih h hm
 |loop b ih=>exact fun h hm=>ih h hm
 |rangeFunc _ _ _ _ _ _=>intro m h;cases h
 |scope b ih=>exact fun h hm=>ih h hm
 |_=>intro m _ _ h;cases h
theorem Agree.keep{N:Nat}{r d:cG}{a a':Act}{w e:World}{m:Nat}{c:Code}(h:Agree N r a)(hm:yq c=some m)(b:Fr (fun t=>fF t c=true) a w a' e)(h':Agree N d a'):Agree N (xe m r) a':=
 ⟨h'.size,fun t v hv=>by
  obtain⟨hb,f⟩:=B5 hv
  rw[b.same t (Ry c hm hb)];exact h.look t v f⟩
theorem wR{st:St}{r:cG}{f:sW (yZ st)→Prop}(h:CD st r f):∃t,EW r st=some (lZ (yZ st) t)∧f t:=by
 unfold CD at h;split at h
 ·rename_i vs hv
  obtain⟨t,rfl,a⟩:=rR h;exact⟨t,hv,a⟩
 ·exact h.elim
theorem Agree.zip{N:Nat}{r:cG}{a:Act}(h:Agree N r a):∀{st:St} {vs:List Value} {r0:cG},EW r st=some vs→Agree N r0 a→Agree N (mZ st vs r0) a
 | [],vs,r0,_,h0=>by cases vs<;>exact h0
 |(i,k)::st,vs,r0,hv,h0=>by
  unfold EW at hv;split at hv
  ·rename_i v vs' h1 h2
   cases hv;have:=Agree.zip h h2 h0;refine⟨this.size,fun t u b=>?_⟩
   by_cases e:i=t
   ·subst e
    rw[show mZ ((i,k)::st) (v::vs') r0=(i,v)::mZ st vs' r0 from rfl,ic]at b;cases b
    exact h.look i v h1
   ·rw[show mZ ((i,k)::st) (v::vs') r0=(i,v)::mZ st vs' r0 from rfl,gi v _ e]at b
    exact this.look t u b
  ·cases hv
theorem zY{t:Nat}:∀{l:List Oper} {o:Oper},o∈l→o.dst=some t→kW t l=true
 | [],_,h,_=>by cases h
 |x::l,o,h,hd=>by
  have e:kW t (x::l)=(match x.dst with|some d=>bif aJ d t then true else kW t l|none=>kW t l):=rfl
  rw[e];rcases aq.1 h with rfl|h
  ·rw[hd];simp only;rw[show aJ t t=true from ru t];rfl
  ·have:=zY h hd
   cases x.dst with
   |none=>exact this
   |some d=>
    simp only;cases aJ d t with
    |true=>rfl
    |false=>exact this
def LWP(ro:Option Nat)(n:Nat)(P:Program)(c:Code)(Q:Exit→Act→World→Prop)(a:Act)(w:World):Prop:=
 ∀(b:Frame) (k:List Item) (cs:List Frame),b.roundOf=(FW ro).round→(FW ro).fn b.fn→(FW ro).room (cs.length+1+n)→
  ∃e a' w',Q e a' w'∧ArrivesIn (Machine.fenced P (FW ro)) P (lone (b.atR a (.code c:: .inLoop c::k)) cs w) b k cs e a' w'
theorem LWP.step{c:Code}{Q:Exit→Act→World→Prop}{a:Act}{w:World}(h:c.wpIn (FW ro) n P (Exit.then (LWP ro n P c Q) Q) a w):LWP ro n P c Q a w:=by
 intro b k cs i hb o;obtain⟨e,j,m,g,d⟩:=h b (.inLoop c::k) cs i hb o;cases e with
 |normal=>
  obtain⟨s,t,q,p,f⟩:=g b k cs i hb o;exact⟨s,t,q,p,.of_steps (StepsIn.trans d (.one (fenced_calm hb o rfl) stepR_inLoop)) f⟩
 |exit id=>exact⟨_,j,m,g,.pass (x:=.inLoop c) rfl (fun _ _=>.inl (by simp)) d⟩
 |goto l=>exact⟨_,j,m,g,.pass (x:=.inLoop c) rfl (fun _ _=>.inl (by simp)) d⟩
 |ret=>exact⟨_,j,m,g,.pass (x:=.inLoop c) rfl (fun _ _=>.inl (by simp)) d⟩
 |panic ch=>exact⟨_,j,m,g,.pass (x:=.inLoop c) rfl (fun _ _=>.inl (by simp)) d⟩
 |outgrown=>exact⟨_,j,m,g,.pass (x:=.inLoop c) rfl (fun _ _=>.inl (by simp)) d⟩
theorem LWP.loop{c:Code}{Q:Exit→Act→World→Prop}{a:Act}{w:World}(h:LWP ro n P c Q a w):(Code.loop c).wpIn (FW ro) n P Q a w:=by
 intro b k cs f hb g;obtain⟨e,a',i,j,d⟩:=h b k cs f hb g;exact⟨e,a',i,j,.of_steps (.one (fenced_calm hb g rfl) stepR_loop) d⟩
theorem Ik(r:cG):DecOk [] r:=fun _=>.inl rfl
theorem UX(ops:Array Oper)(ls:Nat):left ops ls≤ops.size:=by
 unfold left;exact Nat.le_trans (List.length_filter_le ..) (by simp)
theorem lf(f:P.follows .mixedOrders=true){N id:Nat}{ops:Array Oper}{g:Bool}{u:Ann}{K:cG→ad→Prop}{r:cG}{a:Act}{w:World}{Q:Exit→Act→World→Prop}
  (b:BM P N ops.toList g u K r w.heap)(m:Agree N r a)(s:∀c a w,¬Q (.panic c) a w)
  (i:∀r' a' w',Agree N r' a'→Fr (fun t=>kW t ops.toList=true) a w a' w'→K r' w'.heap→Q .normal a' w'):(Code.region id ops g).wpIn (FW ro) n P Q a w:=by
 have k:∀o∈ops.toList,∀d,o.dst=some d→kW d ops.toList=true:=fun o q d hd=>zY q hd
 cases g with
 |false=>
  have key:∀ek,EZ P N ek ops.toList ops.toList [] K r w.heap→(Code.region id ops false).wpIn (FW ro) n P Q a w:=fun ek b=>by
   refine wpIn_region ?_;rw[List.range_eq_range',show ops.size=ops.toList.length from rfl]
   exact EY k i ops.toList 0 rfl [] r a w b m (Ik r) (Fr.refl _ a w)
  unfold BM at b;simp only at b;split at b
  ·exact key _ b
  ·exact key _ b
 |true=>
  unfold BM at b;simp only at b;generalize Pp ops.toList=ms at b;cases hm:En ops.toList ms with
  |false=>rw[hm]at b;exact b.elim
  |true=>
   rw[hm,cond_true]at b;refine wpIn_region_any f (ON (ms:=ms) _ [] _ _ _ ?_);have ht:Tame w {w with drawn:=w.drawn+1}:=⟨rfl,rfl,rfl⟩;have p:Fr (fun t=>kW t ops.toList=true) a w a {w with drawn:=w.drawn+1}:=⟨ht,rfl,fun _ _=>rfl⟩
   refine(K9 (NH hm) k i (fun e a w=>?_) _ false 0 [] [] r a {w with drawn:=w.drawn+1} _ ops.size b m (Ik r) p LsRel.start (fun j x _ h=>by rw[(LsRel.start (ops:=ops)).bit,mh]at h;cases h) (fun x hx=>by cases hx)).1 rfl (UX ops 0)
   cases e with
   |panic ch=>exact .inr (s _ a w)
   |_=>exact .inl fun c hc=>by cases hc
theorem EC(t:Nat)(x y:Code):fF t (.seq x y)=(bif fF t x then true else fF t y):=rfl
theorem Cy(t:Nat)(c:Operand)(x y:Code):fF t (.cond c x y)=(bif fF t x then true else fF t y):=rfl
theorem Kd{a b:Bool}:(bif a then true else b)=true↔a=true∨b=true:=by cases a<;>cases b<;>decide
theorem sZ(z:P.follows .mixedOrders=true){N:Nat}(c:Code):∀(E:Ann) (Kn:cG→ad→Prop) (Kx:Ex→cG→ad→Prop) (r:cG) (a:Act) (w:World) (Q:Exit→Act→World→Prop),
  jY P N c E Kn Kx r w.heap→Agree N r a→(∀O a w,¬Q (.panic O) a w)→
  (∀j a' g,Agree N j a'→Fr (fun t=>fF t c=true) a w a' g→Kn j g.heap→Q .normal a' g)→
  (∀i j a' g,Agree N j a'→Fr (fun t=>fF t c=true) a w a' g→Kx (.exit i) j g.heap→Q (.exit i) a' g)→
  (∀j a' g,Agree N j a'→Fr (fun t=>fF t c=true) a w a' g→Kx .ret j g.heap→Q .ret a' g)→
  c.wpIn (FW ro) n P Q a w:=by
 induction c with
 |skip=>
  intro E Kn Kx r a w Q o u _ A _ _;exact wpIn_skip (A r a w u (Fr.refl ..) o)
 |region id ops dr=>
  intro E Kn Kx r a w Q o u B A _ _;cases E with
  |reg keep inner=>
   have o:BM P N ops.toList dr inner (fun j h'=>match PA j keep with|some r0=>Kn r0 h'|none=>False) r w.heap:=o
   refine lf z o u B fun j a' g R W hk=>?_
   split at hk
   ·rename_i r0 hr0
    refine A r0 a' g ⟨R.size,fun t v hv=>R.look t v (H3 hr0 t v hv).2⟩ W hk
   ·exact hk.elim
  |nil=>exact lf z (show BM P N ops.toList dr (.nil) Kn r w.heap from o) u B A
  |node x y=>exact lf z (show BM P N ops.toList dr (.node x y) Kn r w.heap from o) u B A
  |join st x y=>exact lf z (show BM P N ops.toList dr (.join st x y) Kn r w.heap from o) u B A
  |loop st y=>exact lf z (show BM P N ops.toList dr (.loop st y) Kn r w.heap from o) u B A
  |draw d=>exact lf z (show BM P N ops.toList dr (.draw d) Kn r w.heap from o) u B A
  |kinds k v=>exact lf z (show BM P N ops.toList dr (.kinds k v) Kn r w.heap from o) u B A
  |rf ks x y=>exact lf z (show BM P N ops.toList dr (.rf ks x y) Kn r w.heap from o) u B A
 |seq x y ihx ihy=>
  intro E Kn Kx r a w Q o u B A hx H;have F:∀{a' g},Fr (fun t=>fF t x=true) a w a' g→Fr (fun t=>fF t (.seq x y)=true) a w a' g:=fun h=>h.mono fun t ht=>by rw[EC,Kd];exact .inl ht
  have D:∀{a' g I K},Fr (fun t=>fF t x=true) a w a' g→Fr (fun t=>fF t y=true) a' g I K→Fr (fun t=>fF t (.seq x y)=true) a w I K:=
   fun h k=>(F h).trans (k.mono fun t ht=>by rw[EC,Kd];exact .inr ht)
  have plain:∀V S,jY P N x V (fun j h'=>jY P N y S Kn Kx j h') Kx r w.heap→(Code.seq x y).wpIn (FW ro) n P Q a w:=fun V S o=>by
   refine wpIn_seq (ihx V _ Kx r a w _ o u (fun O a w=>B O a w) ?_ (fun i j a' g s q p=>hx i j a' g s (F q) p) (fun j a' g s q p=>H j a' g s (F q) p))
   intro r1 U Y G C L;exact ihy S Kn Kx r1 U Y Q L G B (fun j a' g s q p=>A j a' g s (D C q) p) (fun i j a' g s q p=>hx i j a' g s (D C q) p) (fun j a' g s q p=>H j a' g s (D C q) p)
  cases E with
  |join st V S=>
   have o:(match yq x with
      |none=>False
      |some m=>Join (T:=sW (yZ st)) (fun t h'=>jY P N y S Kn Kx (mZ st (lZ (yZ st) t) (xe m r)) h')
       fun J=>jY P N x V (fun j h'=>CD st j fun t=>J t h') Kx r w.heap):=o
   split at o
   ·exact o.elim
   ·rename_i m hm
    refine wpIn_seq (ihx V _ Kx r a w _ o.run u (fun O a w=>B O a w) ?_ (fun i j a' g s q p=>hx i j a' g s (F q) p) (fun j a' g s q p=>H j a' g s (F q) p))
    intro r1 U Y G C L;obtain⟨t,hst,hs2⟩:=wR L;have ha2:Agree N (mZ st (lZ (yZ st) t) (xe m r)) U:=G.zip hst (u.keep hm C G);exact ihy S Kn Kx _ U Y Q hs2 ha2 B (fun j a' g s q p=>A j a' g s (D C q) p) (fun i j a' g s q p=>hx i j a' g s (D C q) p) (fun j a' g s q p=>H j a' g s (D C q) p)
  |_=>exact plain _ _ o
 |cond c x y ihx ihy=>
  intro E Kn Kx r a w Q o u B A hx H;have o:(match cR r c with
   |some (.bool t)=>CondP t (jY P N x E.l Kn Kx r w.heap) (jY P N y E.r Kn Kx r w.heap)
   |_=>False):=o
  have F:∀{a' g},Fr (fun t=>fF t x=true) a w a' g→Fr (fun t=>fF t (.cond c x y)=true) a w a' g:=fun h=>h.mono fun t ht=>by rw[Cy,Kd];exact .inl ht
  have D:∀{a' g},Fr (fun t=>fF t y=true) a w a' g→Fr (fun t=>fF t (.cond c x y)=true) a w a' g:=fun h=>h.mono fun t ht=>by rw[Cy,Kd];exact .inr ht
  split at o
  ·rename_i t ht
   refine wpIn_cond_split (jG u ht) (fun e=>?_) (fun e=>?_)
   ·exact ihx _ Kn Kx r a w Q (o.yes e) u B (fun j a' g s q p=>A j a' g s (F q) p) (fun i j a' g s q p=>hx i j a' g s (F q) p) (fun j a' g s q p=>H j a' g s (F q) p)
   ·exact ihy _ Kn Kx r a w Q (o.no e) u B (fun j a' g s q p=>A j a' g s (D q) p) (fun i j a' g s q p=>hx i j a' g s (D q) p) (fun j a' g s q p=>H j a' g s (D q) p)
  ·exact o.elim
 |block id b ih=>
  intro E Kn Kx r a w Q o u B A hx H;refine wpIn_block (ih E Kn _ r a w _ o u (fun O a w=>B O a w) A (fun i j a' g s q p=>?_) H)
  simp only[Exit.inBlock]at p⊢;cases hi:aJ i id with
  |true=>
   rw[hi,cond_true]at p;rw[if_pos (bo hi)];exact A j a' g s q p
  |false=>
   rw[hi,cond_false]at p;rw[if_neg (fun e=>by rw[e,ru]at hi;cases hi)]
   exact hx i j a' g s q p
 |loop b ih=>
  intro E Kn Kx r a w Q o u B A hx H;cases E with
  |loop st S=>
   have o:(match yq b with
      |none=>False
      |some m=>CD st r fun t0=>LoopP (T:=sW (yZ st)) (fun self t h'=>jY P N b S (fun j h''=>CD st j fun t'=>self t' h'') Kx (mZ st (lZ (yZ st) t) (xe m r)) h') t0 w.heap):=o
   split at o
   ·exact o.elim
   ·rename_i m hm
    obtain⟨t0,X,hl⟩:=wR o;have h0:=hl.run (fun t h'=>∀a' g,g.heap=h'→Agree N (mZ st (lZ (yZ st) t) (xe m r)) a'→Fr (fun t=>fF t b=true) a w a' g→LWP ro n P b Q a' g) (fun t h' hF a' g hw R W=>by
     subst hw
     refine LWP.step (ih S _ Kx _ a' g _ hF R (fun O a w=>B O a w) ?_ (fun i j I K s q p=>hx i j I K s (W.trans q) p) (fun j I K s q p=>H j I K s (W.trans q) p))
     intro r1 U Y G C L
     obtain⟨t1,Z,hk1⟩:=wR L
     exact hk1 U Y rfl (G.zip Z (u.keep hm (W.trans C) G)) (W.trans C))
    exact LWP.loop (h0 a w rfl (u.zip X (u.keep hm (Fr.refl _ a w) u)) (Fr.refl _ a w))
  |_=>exact o.elim
 |rangeFunc f params assign body _ _=>intro E Kn Kx r a w Q o;exact o.elim
 |exit id=>
  intro E Kn Kx r a w Q o u B A hx H;exact wpIn_exit (hx id r a w u (Fr.refl ..) o)
 |scope b _=>intro E Kn Kx r a w Q o;exact o.elim
 |label l=>
  intro E Kn Kx r a w Q o u B A hx H;exact wpIn_label (A r a w u (Fr.refl ..) o)
 |goto l=>intro E Kn Kx r a w Q o;exact o.elim
 |ret=>
  intro E Kn Kx r a w Q o u B A hx H;exact wpIn_ret (H r a w u (Fr.refl ..) o)
 |refuse why=>intro E Kn Kx r a w Q o;exact o.elim
end Go.Lift
namespace Go.Lift
open Go
variable {P:Program}
theorem pG{N:Nat}{r:cG}{a:Act}{w:World}(c:Agree N r a):∀{l:List ResultVar} {K:List Value→Prop},m8 P r w.heap l K→
  ∃vs,(∀g:ResultVar→Sem Value,(∀t,g (.tmp t)=pure (a.tmps.getD t undef))→(∀x t,g (.cell x t)=do loadVar t (←asAddr (a.tmps.getD x undef)))→(l.mapM g).run P w=.ok vs w)∧K vs
 | [],K,h=>⟨[],fun g _ _=>by rw[List.mapM_nil];rfl,h⟩
 | .tmp t::l,K,h=>by
  unfold m8 at h;split at h
  ·rename_i v hv
   obtain⟨vs,f,i⟩:=pG c h;refine⟨v::vs,fun g d e=>?_,i⟩
   rw[List.mapM_cons,d];simp only[aZ,bV,aC];rw[f g d e];simp only[aC,c.look t v hv]
  ·exact h.elim
 | .cell x t::l,K,h=>by
  unfold m8 at h;split at h
  ·rename_i v hv
   obtain⟨u,S,m,n,k⟩:=CL h;obtain⟨vs,f,i⟩:=pG c m;refine⟨u::vs,fun g d e=>?_,i⟩
   rw[List.mapM_cons,e];have j:(do loadVar t (←asAddr (a.tmps.getD x undef)):Sem Value).run P w=.ok u w:=by
    rw[c.look x v hv];unfold Ln at h;cases v with
    |pointer p=>cases p with
     |none=>exact h.elim
     |some b=>exact k w n
    |_=>exact h.elim
   simp only[aZ]at j⊢;rw[j];simp only[aC];rw[f g d e];simp only[bV,aC]
  ·exact h.elim
theorem HG(ks:List Kind)(t:sW ks):(if h:(lZ ks t).toArray.size=1 then(lZ ks t).toArray[0]else Value.tuple (lZ ks t).toArray)=BS ks (lZ ks t):=by
 match ks,t with
 | [],t=>rfl
 | [k],t=>rfl
 |k::l::ks,(x,t)=>
  have:(lZ (k::l::ks) (x,t)).length=(k::l::ks).length:=tx _ _;rw[dif_neg (by simp only[cP,this,au];omega)];rfl
theorem vK:∀(vs:List Value) (i t:Nat) (v:Value),jF (pJ i vs) t=some v→i≤t∧vs[t-i]? =some v
 | [],i,t,v,h=>by cases h
 |u::vs,i,t,v,h=>by
  by_cases e:i=t
  ·subst e
   rw[show pJ i (u::vs)=(i,u)::pJ (i+1) vs from rfl,ic]at h
   cases h;exact⟨Nat.le_refl _,by simp⟩
  ·rw[show pJ i (u::vs)=(i,u)::pJ (i+1) vs from rfl,gi u _ e]at h
   obtain⟨b,a⟩:=vK vs (i+1) t v h;refine⟨by omega,?_⟩;rw[show t-i=(t-(i+1))+1 by omega,List.getElem?_cons_succ]
   exact a
theorem PQ(f:P.follows .mixedOrders=true){n:Nat}{fn:Func}{c:Code}{p:Ann}{args:List Value}{ks:List Kind}{K:sW ks→ad→Prop}{w:World}(o:args.length≤fn.ntmps)(q:E0 P fn c p args ks K w.heap):
  c.wpIn (FW none) n P (bodyPost P fn fun e b=>Tame w b∧∃t:sW ks,e=.returned (BS ks (lZ ks t))∧K t b.heap) {tmps:=args.toArray++nq (fn.ntmps-args.toArray.size) undef,defers:= []} w:=by
 have u:Agree fn.ntmps (pJ 0 args) {tmps:=args.toArray++nq (fn.ntmps-args.toArray.size) undef,defers:= []}:=by
  refine⟨by simp;omega,fun t v hv=>?_⟩
  obtain⟨_,j⟩:=vK args 0 t v hv;simp only[dG]at j;have i:=(bG.1 j).1;simp[Array.getElem?_append,i];rw[af i]at j;cases j;rfl
 have fin:∀k a' (b:World),Agree fn.ntmps k a'→Fr (fun t=>fF t c=true) {tmps:=args.toArray++nq (fn.ntmps-args.toArray.size) undef,defers:= []} w a' b→
   m8 P k b.heap fn.results.toList (fun vs=>DT ks vs fun t=>K t b.heap)→
   a'.defers= []∧∃v,(results fn a'.tmps).run P b=.ok v b∧(Tame w b∧∃t:sW ks,Ending.returned v=.returned (BS ks (lZ ks t))∧K t b.heap):=fun k a' b m g s=>by
  obtain⟨vs,d,hd⟩:=pG m s;obtain⟨t,rfl,x⟩:=rR hd;refine⟨g.defers,_,?_,g.tame,t,rfl,x⟩;unfold results;rw[my];simp only[aZ,Sem.run_map];rw[d _ (fun _=>rfl) (fun _ _=>rfl)]
  simp only[aC,bV];rw[←HG]
 exact sZ f c p _ _ _ _ w _ q u (fun y a w h=>h.2.2.elim fun _ h=>by cases h.1) fin (fun _ _ _ _ _ _ h=>h.elim) fin
theorem HE.intro(d:P.follows .mixedOrders=true){f:FuncId}{fn:Func}{c:Code}{j:Ann}{args:List Value}{ks:List Kind}{K:sW ks→ad→Prop}{h:ad}
  (g:P.funcs[f]? =some fn) (hb:fn.body=some c) (a:∀(args:Array Value) (w:World),(callFunc f args).run P w=.ok (.enter f args) w) (b:args.length≤fn.ntmps)
  (e:E0 P fn c j args ks K h):HE P f args ks K h:=by
 refine⟨fun w i=>⟨a,?_⟩⟩
 subst i;exact(callsIn_wide (n:=0)).1 (callsIn_of_wp (F:=FW none) g hb trivial (PQ d b e) rfl)
theorem HD.intro(d:P.follows .mixedOrders=true){f:FuncId}{fn:Func}{c:Code}{p:Ann}{args:List Value}{ks:List Kind}{K:ad→Prop}{h:ad}
  (j:P.funcs[f]? =some fn) (hb:fn.body=some c) (a:∀(args:Array Value) (w:World),(callFunc f args).run P w=.ok (.enter f args) w) (b:args.length≤fn.ntmps)
  (g:E0 P fn c p args ks (fun _ h'=>K h') h):HD P f args K h:=by
 refine fun w k=>⟨a,fun n=>?_⟩
 subst k;exact(callsDIn_of_wp (F:=FW none) j hb trivial (PQ d b g) rfl).mono fun e u q ⟨m,ht,t,o,i⟩=>⟨m,ht,⟨_,o⟩,i⟩
theorem HC.intro(d:P.follows .mixedOrders=true){f:FuncId}{fn:Func}{c:Code}{i:Ann}{args:List Value}{ks:List Kind}{K:sW ks→ad→Prop}{h:ad}
 (g:P.funcs[f]? =some fn) (hb:fn.body=some c) (a:∀(args:Array Value) (w:World),(callFunc f args).run P w=.ok (.enter f args) w) (b:args.length≤fn.ntmps)
 (e:E0 P fn c i args ks K h):HC P f args ks K h:=(HE.intro d g hb a b e).hc
theorem Om{N:Nat}{args:List Value}(c:args.length≤N):Agree N (pJ 0 args) {tmps:=args.toArray++nq (N-args.toArray.size) undef,defers:= []}:=by
 refine⟨by simp;omega,fun t v hv=>?_⟩
 obtain⟨_,b⟩:=vK args 0 t v hv;simp only[dG]at b;have a:=(bG.1 b).1;simp[Array.getElem?_append,a];rw[af a]at b;cases b;rfl
theorem Li{N:Nat}{fn:Func}{ks:List Kind}{K:sW ks→ad→Prop}{d:cG}{a':Act}{b:World}(c:Agree N d a')(e:m8 P d b.heap fn.results.toList (fun vs=>DT ks vs fun t=>K t b.heap)):
  ∃t:sW ks,(results fn a'.tmps).run P b=.ok (BS ks (lZ ks t)) b∧K t b.heap:=by
 obtain⟨vs,a,hd⟩:=pG c e;obtain⟨t,rfl,f⟩:=rR hd;refine⟨t,?_,f⟩;unfold results;rw[my];simp only[aZ,Sem.run_map];rw[a _ (fun _=>rfl) (fun _ _=>rfl)]
 simp only[aC,bV];rw[←HG]
end Go.Lift
namespace Go.Lift
open Go
variable {P:Program}
abbrev Fm(D:Nat):Deferred:={target:=.collected D,args:= #[]}
abbrev ph:Mk→Deferred
 | .it D=>Fm D
 | .call f vs=>{target:=.fn (.func f) #[],args:= #[]++vs.toArray}
theorem F7{N:Nat}:∀{ps:List Nat} {vs:List Value} {r:cG} {tmps:Array Value},zk N ps=true→Agree N r {tmps:=tmps,defers:= []}→
  Agree N (Ue ps vs r) {tmps:=(ps.zip vs).foldl (fun t x=>t.setIfInBounds x.1 x.2) tmps,defers:= []}
 | [],vs,r,tmps,_,h=>by cases vs<;>exact h
 |i::ps,[],r,tmps,_,h=>h
 |i::ps,v::vs,r,tmps,a,h=>by
  have a:(yf i N&&zk N ps)=true:=a;rw[bj]at a;have b:i<N:=by simpa using a.1
  have:=h.put i v b;exact F7 (tmps:=tmps.setIfInBounds i v) a.2 this
theorem ER(w:World)(o:Obj):Tame w (w.alloc o):=⟨rfl,rfl,rfl⟩
theorem nH(w:World)(b:Nat)(o:Obj):Tame w (w.putObj b o):=⟨rfl,rfl,rfl⟩
theorem Lu(w:World)(b:Nat)(o:Obj):(w.putObj b o).heap=w.heap.setIfInBounds b o:=rfl
theorem PX(ps:Array Nat)(vs:List Value)(t:Array Value):(ps.zip vs.toArray).foldl (fun t (x:Nat×Value)=>t.setIfInBounds x.1 x.2) t=(ps.toList.zip vs).foldl (fun t x=>t.setIfInBounds x.1 x.2) t:=by
 obtain⟨l⟩:=ps;simp
theorem DK(C:P.follows .mixedOrders=true){n N:Nat}{g:Operand}{ps:Array Tmp}{assign body:Code}{aa ab:Ann}{ks:List Kind}{fv:Value}{r:cG}{a:Act}{w:World}{Q:Exit→Act→World→Prop}
  {KN:ad→Prop}{KX:Nat→ad→Prop}{KR:ad→Prop}(Y:zk N ps.toList=true)(H:ps.toList.length=ks.length)(hg:cR r g=some fv)(Z:Agree N r a)
  (hR:RangeP P fv ks w.heap (fun Ky bz x k h'=>Nc P N ps.toList ks assign body (.node aa ab) r (w.heap.size+1) Ky bz x k h') KN KX KR)
  (hn:∀m,Tame w m→KN m.heap→Q .normal {a with defers:=Fm w.heap.size::a.defers} m)
  (hx:∀i m,Tame w m→KX i m.heap→Q (.exit i) {a with defers:=Fm w.heap.size::a.defers} m)
  (hr:∀m,Tame w m→KR m.heap→Q .ret {a with defers:=Fm w.heap.size::a.defers} m):(Code.rangeFunc g ps assign body).wpIn (FW none) n P Q a w:=by
 refine wpIn_rangeFunc fun fn _=>?_
 obtain⟨lo,p⟩:∃lo:LoopState→Option Ex→Obj,lo=fun s j=>.loop {state:=s,pending:=JT j,fn,tmps:=a.tmps,params:=ps,assign,body,defers:=w.heap.size}:=⟨_,rfl⟩
 have hj:∀j:Option Ex,(JT j).isNone=j.isNone:=fun j=>by rcases j with _|⟨_|_⟩<;>rfl
 obtain⟨f,first,cap,rfl,he⟩:=hR.run lo (fun s j=>⟨_,by rw[p]⟩) (fun x h' K u A=>by
  refine⟨.inr ⟨_,rfl,⟨fun I T=>?_⟩⟩⟩
  subst T
  rw[p]at u
  have hy:=run_yield (P:=P) (args:=(lZ ks x).toArray) u (by simp only[cP,tx];rw[←H];rfl)
  refine⟨_,_,_,_,hy,fun c cs=>?_⟩
  have hA:Agree N (Ue ps.toList (lZ ks x) r) {tmps:=(ps.zip (lZ ks x).toArray).foldl (fun t (x:Nat×Value)=>t.setIfInBounds x.1 x.2) a.tmps,defers:= []}:=by
   rw[PX]
   exact F7 Y ⟨Z.size,Z.look⟩
  have q:∀j:Option Ex,∀W:World,Tame I W→(W.heap[w.heap.size+1]? =some (lo .busy none)∧K j.isNone (W.heap.setIfInBounds (w.heap.size+1) (lo (if j.isNone then .ready else .done) j)))→
    ∃v m,(Instr.endRound (w.heap.size+1) (JT j)).run P W=.ok v m∧∃b,Ending.returned v=.returned (.bool b)∧Tame I m∧K b m.heap:=by
   rintro j W ht ⟨h1,S⟩
   rw[p]at h1
   have:=run_endRound (P:=P) (JT j) h1
   refine⟨_,_,this,_,rfl,ht.trans (nH ..),?_⟩
   rw[p]at S
   rw[hj]
   exact S
  have:=roundIn_of_wpIn (F:=FW none) (n:=0) (P:=P) (l:=w.heap.size+1) (f:=fn) (assign:=assign) (body:=body) (w:=I)
   (tmps:=(ps.zip (lZ ks x).toArray).foldl (fun t (x:Nat×Value)=>t.setIfInBounds x.1 x.2) a.tmps)
   (R:=fun e m=>∃b,e=.returned (.bool b)∧Tame I m∧K b m.heap) trivial (by
    refine sZ (ro:=some (w.heap.size+1)) C assign aa _ _ _ _ I _ A hA (fun ch a w h=>h) ?_ (fun i r' a' m _ _ h=>h.elim) (fun r' a' m _ _ h=>h.elim)
    rintro r2 a2 w2 ha2 E ⟨y,G⟩
    rw[p]at y
    refine⟨_,run_beginRound y rfl,?_⟩
    have hb:∀o,o=lo .busy none→w2.heap.setIfInBounds (w.heap.size+1) o=w2.heap.setIfInBounds (w.heap.size+1) (lo .busy none):=fun o X=>by rw[X]
    refine sZ (ro:=some (w.heap.size+1)) C body ab (fun _ S=>_) (fun e _ S=>_) _ _ (w2.putObj (w.heap.size+1) _) _ (by
     rw[Lu,hb _ (by rw[p])];exact G) ha2 (fun ch a w h=>h) ?_ ?_ ?_
    ·rintro r3 a3 L J z O
     exact q none L ((E.tame.trans (nH ..)).trans z.tame) O
    ·rintro i r3 a3 L J z O
     exact q (some (.exit i)) L ((E.tame.trans (nH ..)).trans z.tame) O
    ·rintro r3 a3 L J z O
     exact q (some .ret) L ((E.tame.trans (nH ..)).trans z.tame) O)
  obtain⟨e,m,⟨b,rfl,ht,hK⟩,hs⟩:=this.2 c cs (fun d h=>by simp[FW]at h)
  exact⟨b,m,ht,hK,hs.steps⟩)
 have B:=he.run ((w.alloc (.deferred (some []))).alloc (lo .ready none)) rfl;refine⟨w.heap.size+1,[Fm w.heap.size],(w.alloc (.deferred (some []))).alloc (lo .ready none),{target:=.fn (.func f) cap,args:=first++ #[.func (.yield (w.heap.size+1)) #[] #[]]},(w.alloc (.deferred (some []))).alloc (lo .ready none),f,
  first++ #[.func (.yield (w.heap.size+1)) #[] #[]]++cap,(w.alloc (.deferred (some []))).alloc (lo .ready none),?_,?_,fun _ _=>trivial,?_,fun h=>by simp[FW]at h,?_⟩
 ·rw[p];exact run_enterLoop_outer fn a.tmps ps assign body
 ·have V:=jG Z hg
  simp[resolve,V,Deferred.ofValue,bV];rfl
 ·simp[invoke,B.1]
 ·refine F0 ?_
  have e:(first.toList++ [Value.func (.yield (w.heap.size+1)) #[] #[]]++cap.toList).toArray=first++ #[.func (.yield (w.heap.size+1)) #[] #[]]++cap:=by apply cM;simp
  rw[←e];refine B.2.mono ?_;rintro e m ⟨ht,t,rfl,s,j,hs,u,q⟩;have U:Tame w m:=((ER w _).trans (ER _ _)).trans ht;rw[p]at u;refine⟨_,_,run_endLoop u hs,?_⟩;have D:∀o,Tame w (m.putObj (w.heap.size+1) o):=fun o=>U.trans (nH ..)
  have hb:∀o,o=lo .exhausted j→(m.putObj (w.heap.size+1) o).heap=m.heap.setIfInBounds (w.heap.size+1) (lo .exhausted j):=fun o X=>by rw[X];rfl
  rcases j with _|⟨i|_⟩
  ·exact hn _ (D _) (by rw[hb _ (by rw[p])];exact q)
  ·exact wpIn_exit (hx i _ (D _) (by rw[hb _ (by rw[p])];exact q))
  ·exact wpIn_ret (hr _ (D _) (by rw[hb _ (by rw[p])];exact q))
theorem FR{n N id d:Nat}{ops:Array Oper}{m o:Oper}{x:Operand}{f:FuncId}{as:List Operand}{vs:List Value}{v:Value}{r:cG}{a:Act}{w:World}{Q:Exit→Act→World→Prop}(b:FS ops.toList=some (m,o,x,d,f,as))(hv:cR r x=some v)(hb:d<N)(g:nr ((d,v)::r) as=some vs)(i:Agree N r a)
  (j:∀a',Agree N ((d,v)::r) a'→a'.defers=ph (.call f vs)::a.defers→Q .normal a' w):(Code.region id ops false).wpIn (FW none) n P Q a w:=by
 unfold FS at b;split at b
 ·rename_i m' o' hl
  split at b
  ·rename_i x' d' c h1 h2 h3 h4 h5 h6
   split at b
   ·rename_i f' hc
    cases b;have q:ops[0]? =some m:=by rw[←bB,hl];rfl
    have k:ops[1]? =some o:=by rw[←bB,hl];rfl
    have es:ops.size=2:=by rw[←Array.length_toList,hl];rfl
    have s:∀y,Region.wanted m y=true:=fun y=>by simp[Region.wanted,h2]
    have t:∀y,Region.wanted o y=true:=fun y=>by simp[Region.wanted,h6]
    refine wpIn_region ?_;rw[es,show gc 2= [0,1]from rfl]
    simp only[wpOpsIn,q,k,s,t,if_true];refine BigFrame.wpIn_move x h1 ?_;rw[jG i hv,h3];have e:=i.put d v hb;refine⟨fun _ _=>trivial,?_⟩
    have p:((Oper.semAt (FW none).round (a.put (some d) v).eval o).run P w)=.ok (.defer (ph (.call f vs))) w:=by
     show((execOp (a.put (some d) v).eval o).run P w)=_
     have u:=lV e g;have f1:c.args.map (a.put (some d) v).eval=vs.toArray:=by rw[←u];apply cM;simp
     simp only[execOp,h4,resolve,hc,f1];simp[Act.eval,Deferred.ofValue,ph]
    rw[p,Oper.uponIn_defer,h5];exact j _ ⟨e.size,e.look⟩ rfl
   ·cases b
  ·cases b
 ·cases b
theorem Jq(H:P.follows .mixedOrders=true){n N:Nat}(c:Code):∀(u:Ann) (Kn:List Mk→cG→ad→Prop) (Kx:Ex→List Mk→cG→ad→Prop) (ms:List Mk) (r:cG) (a:Act) (w:World) (Q:Exit→Act→World→Prop),
  y7 P N c u Kn Kx ms r w.heap→Agree N r a→a.defers=ms.map ph→(∀I a w,¬Q (.panic I) a w)→
  (∀p s a' q,Agree N s a'→a'.defers=p.map ph→Tame w q→Kn p s q.heap→Q .normal a' q)→
  (∀i p s a' q,Agree N s a'→a'.defers=p.map ph→Tame w q→Kx (.exit i) p s q.heap→Q (.exit i) a' q)→
  (∀p s a' q,Agree N s a'→a'.defers=p.map ph→Tame w q→Kx .ret p s q.heap→Q .ret a' q)→
  c.wpIn (FW none) n P Q a w:=by
 have plain:∀(c:Code) (u:Ann) (Kn:List Mk→cG→ad→Prop) (Kx:Ex→List Mk→cG→ad→Prop) (ms:List Mk) (r:cG) (a:Act) (w:World) (Q:Exit→Act→World→Prop),
  jY P N c u (Kn ms) (fun e=>Kx e ms) r w.heap→Agree N r a→a.defers=ms.map ph→(∀I a w,¬Q (.panic I) a w)→
  (∀p s a' q,Agree N s a'→a'.defers=p.map ph→Tame w q→Kn p s q.heap→Q .normal a' q)→
  (∀i p s a' q,Agree N s a'→a'.defers=p.map ph→Tame w q→Kx (.exit i) p s q.heap→Q (.exit i) a' q)→
  (∀p s a' q,Agree N s a'→a'.defers=p.map ph→Tame w q→Kx .ret p s q.heap→Q .ret a' q)→
  c.wpIn (FW none) n P Q a w:=by
  intro c u Kn Kx ms r a w Q j z hd D B hx C;exact sZ H c u _ _ r a w Q j z D (fun s a' q F A E=>B ms s a' q F (A.defers.trans hd) A.tame E) (fun i s a' q F A E=>hx i ms s a' q F (A.defers.trans hd) A.tame E)
   (fun s a' q F A E=>C ms s a' q F (A.defers.trans hd) A.tame E)
 induction c with
 |skip=>intro u Kn Kx ms r a w Q j;exact plain _ u Kn Kx ms r a w Q j
 |region id ops dr=>
  intro u Kn Kx ms r a w Q j z hd D B hx C;have j:(match FS ops.toList with
   |none=>jY P N (.region id ops dr) u (Kn ms) (fun e=>Kx e ms) r w.heap
   |some (_,_,x,d,f,as)=>bif dr then False else match cR r x with
    |some v=>bif yf d N then(match nr ((d,v)::r) as with|some vs=>Kn (.call f vs::ms) ((d,v)::r) w.heap|none=>False)else False
    |none=>False):=j
  split at j
  ·exact plain _ u Kn Kx ms r a w Q j z hd D B hx C
  ·rename_i m o x d f as he
   cases dr with
   |true=>exact j.elim
   |false=>
    rw[cond_false]at j;split at j
    · rename_i v hv
      cases hb:yf d N with
      |false=>rw[hb]at j;exact j.elim
      |true=>
       rw[hb,cond_true]at j;split at j
       ·rename_i vs hvs
        refine FR he hv (by simpa using hb) hvs z fun a' T V=>B (.call f vs::ms) _ a' w T ?_ ⟨rfl,rfl,rfl⟩ j
        rw[V,hd];rfl
       ·exact j.elim
    · exact j.elim
 |seq x y ihx ihy=>
  intro u Kn Kx ms r a w Q j z hd D B hx C;have j:(bif (bif rN x then true else rN y)then y7 P N x u.l (fun ms s h'=>y7 P N y u.r Kn Kx ms s h') Kx ms r w.heap
   else jY P N (.seq x y) u (Kn ms) (fun e=>Kx e ms) r w.heap):=j
  cases hb:(bif rN x then true else rN y)with
  |false=>rw[hb]at j;exact plain _ _ _ _ _ _ _ _ _ j z hd D B hx C
  |true=>
   rw[hb,cond_true]at j;refine wpIn_seq (ihx u.l _ Kx ms r a w _ j z hd (fun I a w=>D I a w) ?_ hx C)
   intro R r1 Z X O L J W;exact ihy u.r Kn Kx R r1 Z X Q W O L D (fun p s a' q F A E G=>B p s a' q F A (J.trans E) G) (fun i p s a' q F A E G=>hx i p s a' q F A (J.trans E) G)
    (fun p s a' q F A E G=>C p s a' q F A (J.trans E) G)
 |cond c x y ihx ihy=>
  intro u Kn Kx ms r a w Q j z hd D B hx C;have j:(bif (bif rN x then true else rN y)then
    (match cR r c with
     |some (.bool t)=>CondP t (y7 P N x u.l Kn Kx ms r w.heap) (y7 P N y u.r Kn Kx ms r w.heap)
     |_=>False)
   else jY P N (.cond c x y) u (Kn ms) (fun e=>Kx e ms) r w.heap):=j
  cases hb:(bif rN x then true else rN y)with
  |false=>rw[hb]at j;exact plain _ _ _ _ _ _ _ _ _ j z hd D B hx C
  |true=>
   rw[hb,cond_true]at j;split at j
   ·rename_i t ht
    exact wpIn_cond_split (jG z ht) (fun e=>ihx _ Kn Kx ms r a w Q (j.yes e) z hd D B hx C) (fun e=>ihy _ Kn Kx ms r a w Q (j.no e) z hd D B hx C)
   ·exact j.elim
 |block id b ih=>
  intro u Kn Kx ms r a w Q j z hd D B hx C;have j:(bif rN b then y7 P N b u Kn (fun e ms s h'=>match e with
    | .exit i=>bif aJ i id then Kn ms s h' else Kx (.exit i) ms s h'
    | .ret=>Kx .ret ms s h') ms r w.heap
   else jY P N (.block id b) u (Kn ms) (fun e=>Kx e ms) r w.heap):=j
  cases hb:rN b with
  |false=>rw[hb]at j;exact plain _ _ _ _ _ _ _ _ _ j z hd D B hx C
  |true=>
   rw[hb,cond_true]at j;refine wpIn_block (ih u Kn _ ms r a w _ j z hd (fun I a w=>D I a w) B (fun i p s a' q F A E G=>?_) C)
   simp only[Exit.inBlock]at G⊢;cases hi:aJ i id with
   |true=>
    rw[hi,cond_true]at G;rw[if_pos (bo hi)];exact B p s a' q F A E G
   |false=>
    rw[hi,cond_false]at G;rw[if_neg (fun e=>by rw[e,ru]at hi;cases hi)]
    exact hx i p s a' q F A E G
 |loop b ih=>intro u Kn Kx ms r a w Q j;exact plain _ u Kn Kx ms r a w Q j
 |rangeFunc g ps assign body _ _=>
  intro u Kn Kx ms r a w Q j z hd D B hx C;cases u with
  |rf ks aa ab=>
   have j:(bif zk N ps.toList&&aJ ps.toList.length ks.length then
    (match cR r g with
     |some fv=>RangeP P fv ks w.heap (fun Ky Y x k h'=>Nc P N ps.toList ks assign body (.node aa ab) r (w.heap.size+1) Ky Y x k h')
       (fun h'=>Kn (.it w.heap.size::ms) r h') (fun i h'=>Kx (.exit i) (.it w.heap.size::ms) r h') (fun h'=>Kx .ret (.it w.heap.size::ms) r h')
     |none=>False)else False):=j
   cases hb:(zk N ps.toList&&aJ ps.toList.length ks.length)with
   |false=>rw[hb]at j;exact j.elim
   |true=>
    rw[hb,cond_true]at j;rw[bj]at hb;split at j
    · rename_i fv hfv
      have S:Agree N r {a with defers:=Fm w.heap.size::a.defers}:=⟨z.size,z.look⟩;have U:({a with defers:=Fm w.heap.size::a.defers}:Act).defers=(.it w.heap.size::ms).map ph:=by rw[List.map_cons,←hd]
      exact DK H hb.1 (bo hb.2) hfv z j (fun q ht K=>B _ r _ q S U ht K) (fun i q ht K=>hx i _ r _ q S U ht K) (fun q ht K=>C _ r _ q S U ht K)
    · exact j.elim
  |_=>exact j.elim
 |exit id=>intro u Kn Kx ms r a w Q j;exact plain _ u Kn Kx ms r a w Q j
 |scope b _=>intro u Kn Kx ms r a w Q j;exact j.elim
 |label l=>intro u Kn Kx ms r a w Q j;exact plain _ u Kn Kx ms r a w Q j
 |goto l=>intro u Kn Kx ms r a w Q j;exact j.elim
 |ret=>intro u Kn Kx ms r a w Q j;exact plain _ u Kn Kx ms r a w Q j
 |refuse why=>intro u Kn Kx ms r a w Q j;exact j.elim
theorem vu{fn:Func}{ks:List Kind}{K:sW ks→ad→Prop}{N:Nat}{n:Nat}{r:cG}{a:Act}{i:World}(d:Agree N r a):∀(ms:List Mk) (w:World),Tame i w→
  K8 P ms (fun h'=>m8 P r h' fn.results.toList fun vs=>DT ks vs fun t=>K t h') w.heap→
  LeavesInM (FW none) n P fn a.tmps (fun e c=>Tame i c∧∃t:sW ks,e=.returned (BS ks (lZ ks t))∧K t c.heap) (ms.map ph) .returning w
 | [],w,ht,h=>by
  obtain⟨t,b,k⟩:=Li d h;exact⟨_,b,ht,t,rfl,k⟩
 | .it D::ms,w,ht,h=>by
  refine⟨by simp,.inl ⟨D,_,rfl,run_takeDeferred h.1,?_⟩⟩;exact vu d ms (w.putObj D (.deferred none)) (ht.trans (nH ..)) h.2
 | .call f vs::ms,w,ht,h=>by
  obtain⟨hc,hd⟩:=h w rfl;refine⟨by simp,.inr ⟨(fun e=>by cases e),.func f,#[],f,vs.toArray,rfl,?_,fun _ _=>trivial,CallsDIn.mono (hd (n-1)) fun e u c ⟨m,g,⟨v,o⟩,j⟩=>?_⟩⟩
  ·have:=hc vs.toArray w
   simpa[invoke]using this
  ·subst m o
   exact vu d ms c (ht.trans g) j
theorem HE.introM(o:P.follows .mixedOrders=true){f:FuncId}{fn:Func}{c:Code}{s:Ann}{args:List Value}{ks:List Kind}{K:sW ks→ad→Prop}{h:ad}
  (x:P.funcs[f]? =some fn) (hb:fn.body=some c) (j:∀(args:Array Value) (w:World),(callFunc f args).run P w=.ok (.enter f args) w) (m:args.length≤fn.ntmps)
  (u:Nd P fn c s args ks K h):HE P f args ks K h:=by
 refine⟨fun w y=>⟨j,?_⟩⟩
 subst y;refine(callsIn_wide (n:=0)).1 (callsIn_of_wp_marks (F:=FW none) x hb trivial ?_ rfl);refine wpIn_mono (Q:=fun e a b=>(∀p,e≠ .panic p)∧bodyPostM (FW none) 0 P fn (fun e b=>Tame w b∧∃t:sW ks,e=.returned (BS ks (lZ ks t))∧K t b.heap) e a b) ?_ fun e a w h=>h.2
 refine Jq o c s _ _ [] _ _ w _ u (Om m) rfl (fun p a w h=>h.1 p rfl) ?_ (fun _ _ _ _ _ _ _ _ h=>h.elim) ?_
 ·intro d v a' b k i g q
  refine⟨(fun _ e=>by cases e),?_⟩
  show LeavesInM _ _ _ _ _ _ a'.defers _ _
  rw[i];exact vu k d b g q
 ·intro d v a' b k i g q
  refine⟨(fun _ e=>by cases e),?_⟩
  show LeavesInM _ _ _ _ _ _ a'.defers _ _
  rw[i];exact vu k d b g q
theorem HC.introM(d:P.follows .mixedOrders=true){f:FuncId}{fn:Func}{c:Code}{i:Ann}{args:List Value}{ks:List Kind}{K:sW ks→ad→Prop}{h:ad}
 (g:P.funcs[f]? =some fn) (hb:fn.body=some c) (a:∀(args:Array Value) (w:World),(callFunc f args).run P w=.ok (.enter f args) w) (b:args.length≤fn.ntmps)
 (e:Nd P fn c i args ks K h):HC P f args ks K h:=(HE.introM d g hb a b e).hc
end Go.Lift
namespace Go.Lift
open Go
def AppP(z:Option (List Value))(sz a:Nat)(t:TypeId)(base:Option Addr)(sl c b:Nat)(xs:List Value)(h:ad)(K:SliceV→ad→Prop):Prop:=
 (sl+b≤c→pk h base (sl*sz) xs∧cx xs=true∧K ⟨base,sl+b,c⟩ (eG h base (sl*sz) xs))∧
 (c<sl+b→∃old z',SRow h base (sl*sz) old∧z=some z'∧0<a∧Builtin.nextslicecap (sl+b) c*a≤2^48∧
  ∀nc,sl+b≤nc→K ⟨some (aL h),sl+b,nc⟩ (hnew h (old++xs++cU (nc-(sl+b)) z') t))
def NextP(a:Addr)(h:ad)(Kend:Prop)(Kstep:MapEntry→ad→Prop):Prop:=
 a.off=0∧∃m since seen last,h[a.block]? =some (.mapIter m since seen last)∧
  ((m=none∧Kend)∨
   (∃r es clock,m=some r∧h[r]? =some (.map es clock)∧(seen.isEmpty=true∨es.isEmpty=true∨es.all (fun e=>decide (e.born≥last))=false)∧
    ((∀e∈es.toList,e.born<since→seen.contains e.born=true)→Kend)∧
    (∀e∈es.toList,seen.contains e.born=false→Kstep e (h.setIfInBounds a.block (.mapIter (some r) since (seen.push e.born) clock)))))
def VB(c:CK)(m:Option Nat)(k:Value)(h:ad)(K:ad→Prop):Prop:=
 (m=none∧K h)∨∃r:Nat,m=some r∧uS c h r∧K (pW h r k)
end Go.Lift
