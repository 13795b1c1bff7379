/- A part of the proof that the named laws of this program answer true, whatever the input. -/
import Derived.Test.YtajpljopgikpgaaGreatDoorLift1
open Array renaming getD_eq_getD_getElem?→dd,getElem?_toList→bJ,getElem?_setIfInBounds_ne→fj,replicate→qQ,getElem?_eq_some_iff→cj,getElem?_eq_getElem→jj,getElem?_eq_none→kT,mapM_eq_mapM_toList→mY
open Bool renaming or_eq_true→jp,and_eq_true→bE,not_eq_true'→pr,or_eq_false_iff→mz
open List renaming mem_of_getElem?→bK,length_cons→az,mem_cons→aw,getElem?_cons_zero→cf,getElem?_eq_getElem→af,any_eq_true→co,getElem?_eq_some_iff→bm,mem_cons_of_mem→aL,mem_cons_self→av,filter_cons→cE,mem_singleton→aq,size_toArray→dy
open Nat renaming beq→bN,eq_of_beq_eq_true→aZ,land→jF,lor→cV,testBit_and→ir,zero_testBit→ge,succ→gf,zero_add→aI,beq_refl→rt,lt_or_ge→bG,pred→xa,sub_zero→fc
open Option renaming some→bA
namespace Go.Lift
open Go
variable {P:Program} {ro:Option Nat} {n:Nat}
def FW(ro:Option Nat):Fence:={fn:=fun _=>True,depth:=none,alive:=false,round:=ro}
theorem Py(m:Machine):m.fenced P (FW ro):=by
 intro g _;exact⟨fun h=>by simp[FW]at h,.inl trivial,fun _ _=>trivial,fun d h=>by simp[FW]at h⟩
theorem yy{m a:Machine}(h:Steps P m a):StepsIn (Machine.fenced P (FW ro)) P m a:=(StepsIn.of_steps h).mono fun m _=>Py m
theorem EJ{k:Nat}{f:FuncId}{args:Array Value}{w:World}{R:Ending→World→Prop}(h:Calls P f args w R):CallsIn (FW ro) k P f args w R:=by
 refine⟨trivial,fun cs _=>?_⟩
 obtain⟨e,w',fr,d,hc,a,b⟩:=h cs;refine⟨e,w',fr,d,?_,a,b⟩;cases e with
 |returned v=>exact yy hc
 |panicked c=>exact yy hc
 |outgrown=>exact hc
theorem qh{o:Oper}{a:Act}{w:World}{K:WK}{next:Act→World→Prop}{Q:Exit→Act→World→Prop}(hd:∀c,o.op≠ .defer c)(h:KO P (execOp a.eval o) K w)
  (j:∀v w',Tame w w'→K v w'.heap→next (a.put o.dst v) w'):o.wpIn (FW ro) n P a w next Q:=by
 refine⟨fun _ _=>trivial,?_⟩
 rw[Oper.semAt_eq _ _ _ hd];rcases h with⟨v,w',i,g,d⟩|⟨w',i,g,d⟩|⟨f,args,i,hc⟩|⟨l,fn,tmps,assign,body,i,hc⟩
 ·rw[i];exact j v w' g d
 ·rw[i];exact j undef w' g d
 ·rw[i]
  refine⟨fun h=>by simp[FW]at h,EJ (hc.mono ?_)⟩
  rintro e w' ⟨g,v,rfl,d⟩;exact j v w' g d
 ·rw[i]
  refine⟨fun h=>by simp[FW]at h,trivial,fun c cs _=>?_⟩
  obtain⟨b,w',g,d,k⟩:=hc c cs;exact⟨.returned (.bool b),w',j _ w' g d,yy k⟩
theorem sP{N:Nat}{o:Oper}{v:Value}{r:cH}{K:cH→Prop}{a:Act}{d:uT}{dv:DV}(h:yW N o v r K)(c:Agree N r a)(hd:DecOk d r)(hv:Gc dv v):
  ∃r',K r'∧Agree N r' (a.put o.dst v)∧DecOk (rl d o dv) r':=by
 unfold yW at h;unfold rl;cases ho:o.dst with
 |none=>rw[ho]at h;exact⟨r,h,c,hd⟩
 |some t=>
  rw[ho]at h;simp only at h;cases hb:Nat.blt t N with
  |false=>rw[hb]at h;exact h.elim
  |true=>
   rw[hb]at h;have b:t<N:=by simpa using hb
   refine⟨_,h,c.put t v b,fun s=>?_⟩
   by_cases e:t=s
   ·subst e
    have:qU ((t,dv)::d) t=dv:=by simp[qU]
    rw[this];exact .inr ⟨v,iK t v r,hv⟩
   ·have g:qU ((t,dv)::d) s=qU d s:=by
     have:bN t s=false:=Bool.eq_false_iff.2 fun f=>e (aZ f)
     show(bif bN t s then dv else qU d s)=_
     rw[this];rfl
    rw[g,g7 v r e];exact hd s
theorem Ck{ek:Option (Kind×Kind)}{o:Op}{r:cH}{K:RK}{h:ae}(a:Bc P ek o r K h):∀c,o≠ .defer c:=by
 intro c e;subst e;exact a
theorem wh{o:Oper}{r:cH}{K:WK}{h:ae}(a:Fz P o r K h):∀c,o.op≠ .defer c:=by
 intro c e;unfold Fz at a;rw[e]at a;exact a
theorem Wm{d:uT}{o:Op}(h:vS P o=false):Jb d o=.x:=by
 cases o<;>first|rfl|(simp[vS]at h)
theorem O5{N:Nat}{ek:Option (Kind×Kind)}{o:Oper}{r:cH}{K:cH→ae→Prop}{a:Act}{w:World}{d:uT}{next:Act→World→Prop}{Q:Exit→Act→World→Prop}
  (b:VG P N ek o r K w.heap)(i:Agree N r a)(hd:DecOk d r)
  (p:∀v w' e,Tame w w'→K e w'.heap→Agree N e (a.put o.dst v)→DecOk (rl d o (Jb d o.op)) e→next (a.put o.dst v) w'):o.wpIn (FW ro) n P a w next Q:=by
 unfold VG at b;cases hq:vS P o.op with
 |true=>
  rw[hq,cond_true]at b;obtain⟨v,S,j,s,k,x⟩:=Bu i b d hd;refine qh (K:=fun u t=>u=v∧t=w.heap) (Ck b) (.inl ⟨v,w,x w s,Tame.refl w,rfl,rfl⟩) ?_
  rintro u w' m ⟨rfl,q⟩;obtain⟨e,c,f,g⟩:=sP j i hd k;exact p u w' e m (by rw[q];exact c) f g
 |false=>
  rw[hq,cond_false]at b;refine qh (wh b) (Bg i b) ?_;intro v w' m j;obtain⟨e,c,f,g⟩:=sP j i hd (dv:=Jb d o.op) (by rw[Wm hq];trivial);exact p v w' e m c f g
theorem GU{t:Array Value}{i:Nat}{b:Bool}(h:t.getD i undef=.bool b):t[i]? =some (.bool b):=by
 rw[dd]at h;cases hc:t[i]? with
 |none=>rw[hc]at h;simp[undef]at h
 |some v=>rw[hc]at h;simp at h;rw[h]
theorem MH{t:Array Value}{i:Nat}(h:t.getD i undef=undef):t[i]? =none∨t[i]? =some undef:=by
 rw[dd]at h;cases hc:t[i]? with
 |none=>exact .inl rfl
 |some v=>rw[hc]at h;simp at h;rw[h];exact .inr rfl
theorem na{N:Nat}{ops:Array Oper}{d:uT}{o:Oper}{b:Bool}{r:cH}{a:Act}(h:je ops.toList d o=some b)(m:Agree N r a)(hd:DecOk d r):
  Region.wanted o (yielded ops a.tmps)=b:=by
 unfold je at h;unfold Region.wanted;cases hg:o.guard with
 |none=>rw[hg]at h;simp only[bA.injEq]at h;exact h
 |some g=>
  obtain⟨j,c⟩:=g;rw[hg]at h;simp only[bJ]at h;simp only;cases hj:ops[j]? with
  |none=>rw[hj]at h;cases h
  |some oj=>
   rw[hj]at h;simp only at h;cases ht:oj.dst with
   |none=>rw[ht]at h;cases h
   |some t=>
    rw[ht]at h;simp only at h;have n:yielded ops a.tmps j=(match a.tmps[t]? with|some (.bool b)=>some b|_=>none):=by
     unfold yielded;simp[hj,ht];rfl
    rw[n];rcases hd t with hx|⟨v,hv,k⟩
    ·rw[hx]at h;cases h
    ·have i:=m.look t v hv
     cases hdl:qU d t with
     |x=>rw[hdl]at h;cases h
     |t=>
      rw[hdl]at h k;simp only[bA.injEq]at h;subst h;have:v=.bool true:=k;subst this;rw[GU i];cases c<;>rfl
     |f=>
      rw[hdl]at h k;simp only[bA.injEq]at h;subst h;have:v=.bool false:=k;subst this;rw[GU i];cases c<;>rfl
     |u=>
      rw[hdl]at h k;simp only[bA.injEq]at h;subst h;have:v=undef:=k;subst this;rcases MH i with e|e<;>rw[e]<;>cases c<;>rfl
structure Fr(W:Nat→Prop)(a0:Act)(w0:World)(a:Act)(w:World):Prop where
 tame:Tame w0 w
 defers:a.defers=a0.defers
 same:∀t,¬W t→a.tmps.getD t undef=a0.tmps.getD t undef
theorem Fr.refl(W:Nat→Prop)(a:Act)(w:World):Fr W a w a w:=⟨Tame.refl w,rfl,fun _ _=>rfl⟩
theorem Fr.put{W:Nat→Prop}{g a:Act}{f w w':World}(h:Fr W g f a w){o:Oper}(i:∀d,o.dst=some d→W d)(v:Value)(j:Tame w w'):Fr W g f (a.put o.dst v) w':=by
 refine⟨h.tame.trans j,?_,fun t b=>?_⟩
 ·cases ho:o.dst<;>simp[Act.put,h.defers]
 ·cases ho:o.dst with
  |none=>exact h.same t b
  |some d=>
   have c:d≠t:=fun e=>b (e▸i d ho)
   rw[←h.same t b];simp[Act.put,fj c]
theorem Fr.trans{W:Nat→Prop}{e f d:Act}{b a c:World}(h:Fr W e b f a)(k:Fr W f a d c):Fr W e b d c:=
 ⟨h.tame.trans k.tame,k.defers.trans h.defers,fun t g=>(k.same t g).trans (h.same t g)⟩
theorem Fr.mono{W W':Nat→Prop}{b a:Act}{c w:World}(h:Fr W b c a w)(d:∀t,W t→W' t):Fr W' b c a w:=
 ⟨h.tame,h.defers,fun t f=>h.same t fun e=>f (d t e)⟩
theorem DecOk.known{d:uT}{r:cH}(h:DecOk d r){t:Nat}{dv:DV}{v:Value}(hv:Gc dv v):DecOk ((t,dv)::d) ((t,v)::r):=fun s=>by
 by_cases e:t=s
 ·subst e
  have:qU ((t,dv)::d) t=dv:=by simp[qU]
  rw[this];exact .inr ⟨v,iK t v r,hv⟩
 ·have b:qU ((t,dv)::d) s=qU d s:=by
   have:bN t s=false:=Bool.eq_false_iff.2 fun a=>e (aZ a)
   show(bif bN t s then dv else qU d s)=_
   rw[this];rfl
  rw[b,g7 v r e];exact h s
theorem Dv{N:Nat}{ek:Option (Kind×Kind)}{ops:Array Oper}{o:Oper}{i:Nat}{d:uT}{r:cH}{a:Act}{w:World}{b:Bool}{K:uT→cH→ae→Prop}{next:Act→World→Prop}{Q:Exit→Act→World→Prop}
  (hi:ops[i]? =some o) (q:je ops.toList d o=some b) (j:Agree N r a) (hd:DecOk d r)
  (k:match b with
   |true=>VG P N ek o r (K (rl d o (Jb d o.op))) w.heap
   |false=>yW N o undef r fun c=>K (rl d o .u) c w.heap)
  (m:∀v w' d' c,Tame w w'→K d' c w'.heap→Agree N c (a.put o.dst v)→DecOk d' c→next (a.put o.dst v) w'):
  wpOpIn (FW ro) n P ops Q i next a w:=by
 unfold wpOpIn;rw[hi];simp only[na q j hd];cases b with
 |true=>exact O5 k j hd fun v w' c s p f e=>m v w' _ c s p f e
 |false=>
  obtain⟨c,g,f,e⟩:=sP (dv:=.u) k j hd rfl;exact⟨fun _ _=>trivial,m undef w _ c (Tame.refl w) g f e⟩
theorem O4{N:Nat}{ek:Option (Kind×Kind)}{ops:List Oper}{o:Oper}{os:List Oper}{d:uT}{K:cH→ae→Prop}{r:cH}{h:ae}:DX P N ek ops (o::os) d K r h=
 (match je ops d o with
 |some true=>VG P N ek o r (fun a c=>DX P N ek ops os (rl d o (Jb d o.op)) K a c) h
 |some false=>yW N o undef r fun a=>DX P N ek ops os (rl d o .u) K a h
 |none=>match Ev ops o with
  |none=>False
  |some t=>match kw r t with
   |some (.bool b)=>CondP b
    (Gs P N ek ops o ((t,.t)::d) ((t,.bool true)::r) h fun e a c=>DX P N ek ops os e K a c)
    (Gs P N ek ops o ((t,.f)::d) ((t,.bool false)::r) h fun e a c=>DX P N ek ops os e K a c)
   |_=>False):=rfl
theorem Gj{N:Nat}{ek:Option (Kind×Kind)}{ops:Array Oper}{o:Oper}{i:Nat}{d:uT}{r:cH}{a:Act}{w:World}{K:uT→cH→ae→Prop}{next:Act→World→Prop}{Q:Exit→Act→World→Prop}
  (hi:ops[i]? =some o) (e:Agree N r a) (hd:DecOk d r) (c:Gs P N ek ops.toList o d r w.heap K)
  (f:∀v w' d' r',Tame w w'→K d' r' w'.heap→Agree N r' (a.put o.dst v)→DecOk d' r'→next (a.put o.dst v) w'):
  wpOpIn (FW ro) n P ops Q i next a w:=by
 unfold Gs at c;cases hw:je ops.toList d o with
 |none=>rw[hw]at c;exact c.elim
 |some b=>rw[hw]at c;exact Dv (ek:=ek) hi hw e hd (by cases b<;>exact c) f
theorem DW{N:Nat}{ek:Option (Kind×Kind)}{ops:Array Oper}{W:Nat→Prop}(s:∀o∈ops.toList,∀d,o.dst=some d→W d){u:Act}{q:World}{K:cH→ae→Prop}{Q:Exit→Act→World→Prop}
  (p:∀r a w,Agree N r a→Fr W u q a w→K r w.heap→Q .normal a w):
  ∀(l:List Oper) (i:Nat),ops.toList.drop i=l→∀(d:uT) (r:cH) (a:Act) (w:World),DX P N ek ops.toList l d K r w.heap→Agree N r a→DecOk d r→Fr W u q a w→
   wpOpsIn (FW ro) n P ops Q (List.range' i l.length) a w
 | [],i,_,d,r,a,w,hs,ha,hd,hf=>p r a w ha hf hs
 |o::os,i,hdr,d,r,a,w,hs,ha,hd,hf=>by
  have hi:ops[i]? =some o:=by
   rw[←bJ];have:(ops.toList.drop i)[0]? =some o:=by rw[hdr];rfl
   simpa using this
  have f:o∈ops.toList:=bK (by rw[bJ];exact hi);have g:ops.toList.drop (i+1)=os:=by rw[←List.tail_drop,hdr];rfl
  rw[az,List.range'_succ,wpOpsIn_cons];rw[O4]at hs;have m:∀v w' e c,Tame w w'→DX P N ek ops.toList os e K c w'.heap→Agree N c (a.put o.dst v)→DecOk e c→wpOpsIn (FW ro) n P ops Q (List.range' (i+1) os.length) (a.put o.dst v) w':=
   fun v w' e c x y k j=>DW s p os (i+1) g e c _ w' y k j (hf.put (s o f) v x)
  cases hw:je ops.toList d o with
  |some b=>
   rw[hw]at hs;exact Dv (ek:=ek) (K:=fun e c z=>DX P N ek ops.toList os e K c z) hi hw ha hd (by cases b<;>exact hs) m
  |none=>
   rw[hw]at hs;simp only at hs;split at hs
   ·exact hs.elim
   ·rename_i t x
    split at hs
    ·rename_i b hb
     cases b with
     |true=>exact Gj hi (ha.known hb) (hd.known (dv:=.t) rfl) (hs.yes rfl) m
     |false=>exact Gj hi (ha.known hb) (hd.known (dv:=.f) rfl) (hs.no rfl) m
    ·exact hs.elim
end Go.Lift
namespace Go.Lift
open Go
theorem zJ(m i:Nat):tb m i=m.testBit i:=by
 have h:jF (Nat.shiftRight m i) 1=(m>>>i)&&&1:=rfl;unfold tb;rw[h,Nat.testBit_eq_decide_div_mod_eq,Nat.and_one_is_mod,Nat.shiftRight_eq_div_pow];cases hm:decide (m/2^i%2=1)with
 |true=>rw[of_decide_eq_true hm];rfl
 |false=>
  have a:=of_decide_eq_false hm;have:m/2^i%2=0:=by omega
  rw[this];rfl
theorem nY(a b i:Nat):(cV a b).testBit i=(a.testBit i||b.testBit i):=Nat.testBit_or a b i
theorem y3(i j:Nat):(g5 i).testBit j=decide (i=j):=Nat.testBit_two_pow
theorem BR{a b:Nat}(h:bN (jF a b) 0=true)(t:Nat)(c:a.testBit t=true)(e:b.testBit t=true):False:=by
 have d:=aZ h;have:(jF a b).testBit t=(a.testBit t&&b.testBit t):=ir a b t;rw[d,c,e]at this;simp at this
theorem T3{a b:Nat}(h:bN (jF a b) a=true)(t:Nat)(c:a.testBit t=true):b.testBit t=true:=by
 have d:=aZ h;have:(jF a b).testBit t=(a.testBit t&&b.testBit t):=ir a b t;rw[d,c]at this;simpa using this.symm
theorem x9(i:Nat):∀l:List Edge,(mN l).testBit i=l.any fun e=>bN e.on i&&Region.binds .any e
 | []=>ge i
 |e::l=>by
  have b:=x9 i l;have hc:mN (e::l)=bif Region.binds .any e then cV (g5 e.on) (mN l)else mN l:=rfl;rw[hc,List.any_cons,←b];cases hb:Region.binds .any e with
  |true=>
   rw[cond_true,nY,y3,Bool.and_true];congr 1
   cases hd:bN e.on i with
   |true=>simpa using aZ hd
   |false=>rw[decide_eq_false_iff_not];intro a;rw[a]at hd;simp at hd
  |false=>simp
theorem Aw(o:Oper)(i:Nat):(mN o.after.toList).testBit i=jf o i:=x9 i o.after.toList
theorem zH(t:Nat):∀l:List Operand,(lW l).testBit t=true↔Operand.tmp t∈l
 | []=>by simp[show lW []=0 from rfl]
 |o::l=>by
  have a:=zH t l;cases o with
  |tmp u=>
   have hc:lW (.tmp u::l)=cV (g5 u) (lW l):=rfl;rw[hc,nY,y3,jp,a,aw];simp[eq_comm]
  |const v=>
   have hc:lW (.const v::l)=lW l:=rfl;rw[hc,a,aw];simp
  |global v=>
   have hc:lW (.global v::l)=lW l:=rfl;rw[hc,a,aw];simp
  |func v=>
   have hc:lW (.func v::l)=lW l:=rfl;rw[hc,a,aw];simp
theorem wQ(o:Oper)(t:Nat):(nF o).testBit t=true↔o.dst=some t:=by
 unfold nF;cases o.dst with
 |none=>simp
 |some d=>simp[y3]
theorem FM(ops:Array Oper)(o:Oper)(t:Nat):(ou ops.toList o).testBit t=true↔t∈o.looksAt ops:=by
 unfold ou Oper.looksAt;rw[nY,jp,zH,List.mem_append,List.mem_filterMap];refine or_congr ⟨fun h=>⟨_,h,rfl⟩,?_⟩ ?_
 ·rintro⟨x,hx,b⟩
  cases x<;>simp at b
  subst b;exact hx
 ·cases hg:o.guard with
  |none=>simp
  |some g=>
   obtain⟨j,a⟩:=g;simp only[bJ];cases hj:ops[j]? with
   |none=>simp
   |some oj=>simp[wQ]
variable {P:Program} {ro:Option Nat} {n:Nat} {ops:Array Oper} {Q:Exit→Act→World→Prop}
structure MsOk(ops:Array Oper)(ms:List DM):Prop where
 am:∀(i:Nat) (o:Oper) (m:DM),ops[i]? =some o→ms[i]? =some m→∀j,m.am.testBit j=jf o j
 lk:∀(i:Nat) (o:Oper) (m:DM),ops[i]? =some o→ms[i]? =some m→∀t,m.lk.testBit t=true↔t∈o.looksAt ops
 ds:∀(i:Nat) (o:Oper) (m:DM),ops[i]? =some o→ms[i]? =some m→∀t,m.ds.testBit t=true↔o.dst=some t
 len:ms.length=ops.size
 free:∀(i j:Nat) (m k:DM),ms[i]? =some m→ms[j]? =some k→m.fr.testBit j=true→j=i∨k.am.testBit i=true∨BS m k=true
 nosel:∀(i:Nat) (o:Oper),ops[i]? =some o→(∀cs b,o.op≠ .select cs b)∧(∀c,o.op≠ .defer c)
theorem Aa(ops:List Oper):∀(l:List Oper) (ms:List DM),wy ops l ms=true→ms.length=l.length∧∀(i:Nat) (o:Oper) (m:DM),l[i]? =some o→ms[i]? =some m→
  m.am=mN o.after.toList∧m.lk=ou ops o∧m.ds=nF o
 | [],[],_=>⟨rfl,fun i o m h=>by simp at h⟩
 | [],_::_,h=>by cases h
 |o::l,[],h=>by cases h
 |o::l,m::ms,h=>by
  have hc:wy ops (o::l) (m::ms)=(bN (mN o.after.toList) m.am&&bN (ou ops o) m.lk&&bN (nF o) m.ds&&wy ops l ms):=rfl;rw[hc]at h;simp only[bE]at h;obtain⟨⟨⟨d,b⟩,g⟩,f⟩:=h;obtain⟨e,c⟩:=Aa ops l ms f;refine⟨by simp[e],fun i k j a hm=>?_⟩
  cases i with
  |zero=>
   simp only[cf,bA.injEq]at a hm;subst a;subst hm;exact⟨(aZ d).symm,(aZ b).symm,(aZ g).symm⟩
  |succ i=>exact c i k j (by simpa using a) (by simpa using hm)
theorem GV(i:Nat)(m:DM):∀(l:List DM) (j0:Nat),GW i m l j0=true→∀(j:Nat) (k:DM),l[j]? =some k→m.fr.testBit (j0+j)=true→j0+j=i∨k.am.testBit i=true∨BS m k=true
 | [],j0,_,j,k,hk,_=>by simp at hk
 |x::l,j0,h,j,k,hk,hb=>by
  have hc:GW i m (x::l) j0=((!(tb m.fr j0)||bN j0 i||tb x.am i||BS m x)&&GW i m l (gf j0)):=rfl
  rw[hc]at h;simp only[bE,jp,pr,zJ]at h;cases j with
  |zero=>
   simp only[cf,bA.injEq]at hk;subst hk;simp only[Nat.add_zero]at hb⊢;rcases h.1 with((a|a)|a)|a
   ·rw[a]at hb;cases hb
   ·exact .inl (aZ a)
   ·exact .inr (.inl a)
   ·exact .inr (.inr a)
  |succ j=>
   have:=GV i m l (j0+1) h.2 j k (by simpa using hk) (by rw[show j0+1+j=j0+(j+1) by omega];exact hb)
   rw[show j0+1+j=j0+(j+1) by omega]at this
   exact this
theorem Cu(a:List DM):∀(l:List DM) (i0:Nat),Ah a l i0=true→∀(i:Nat) (m:DM),l[i]? =some m→GW (i0+i) m a 0=true
 | [],i0,_,i,m,hm=>by simp at hm
 |x::l,i0,h,i,m,hm=>by
  have hc:Ah a (x::l) i0=(GW i0 x a 0&&Ah a l (gf i0)):=rfl;rw[hc,bE]at h;cases i with
  |zero=>simp only[cf,bA.injEq]at hm;subst hm;exact h.1
  |succ i=>
   have:=Cu a l (i0+1) h.2 i m (by simpa using hm);rw[show i0+1+i=i0+(i+1) by omega]at this
   exact this
theorem GI:∀(l:List Oper),Kb l=true→∀o∈l,(∀cs b,o.op≠ .select cs b)∧(∀c,o.op≠ .defer c)
 | [],_,o,a=>by cases a
 |x::l,h,o,a=>by
  simp only[Kb,bE]at h;rcases aw.1 a with rfl|a
  ·refine⟨fun cs b e=>?_,fun c e=>?_⟩
   ·rw[e]at h;cases h.1
   ·rw[e]at h;cases h.1
  ·exact GI l h.2 o a
theorem Mg{ms:List DM}(h:Dh ops.toList ms=true):MsOk ops ms:=by
 have hc:Dh ops.toList ms=(wy ops.toList ops.toList ms&&Ah ms ms 0&&Kb ops.toList):=rfl;rw[hc]at h;simp only[bE]at h;obtain⟨⟨d,c⟩,f⟩:=h;obtain⟨e,b⟩:=Aa ops.toList ops.toList ms d;refine⟨fun i o m a hm j=>?_,fun i o m a hm t=>?_,fun i o m a hm t=>?_,by simpa using e,fun i j m k hm g n=>?_,fun i o a=>?_⟩
 ·rw[(b i o m (by simpa using a) hm).1,Aw]
 ·rw[(b i o m (by simpa using a) hm).2.1,FM]
 ·rw[(b i o m (by simpa using a) hm).2.2,wQ]
 ·have:=Cu ms ms 0 c i m hm
  rw[aI]at this;have:=GV i m ms 0 this j k g (by rwa [aI]);rwa [aI]at this
 ·exact GI _ f o (bK (by rw[bJ];exact a))
theorem Sm{ms:List DM}(hm:MsOk ops ms){i j:Nat}{c e:Oper}{f g:DM}(hi:ops[i]? =some c) (k:ops[j]? =some e) (a:ms[i]? =some f) (b:ms[j]? =some g) (h:BS f g=true):
  (∀d,c.dst=some d→d∉e.looksAt ops)∧(∀d,c.dst=some d→e.dst≠some d)∧(∀d,e.dst=some d→d∉c.looksAt ops):=by
 unfold BS at h;rw[bE]at h;refine⟨fun d hd m=>?_,fun d hd n=>?_,fun d hd m=>?_⟩
 ·exact BR h.1 d ((hm.ds i c f hi a d).2 hd) (by rw[nY,(hm.lk j e g k b d).2 m,Bool.true_or])
 ·exact BR h.1 d ((hm.ds i c f hi a d).2 hd) (by rw[nY,(hm.ds j e g k b d).2 n,Bool.or_true])
 ·exact BR h.2 d ((hm.ds j e g k b d).2 hd) ((hm.lk i c f hi a d).2 m)
structure LsRel(ops:Array Oper)(ls:Nat)(listed:Array Bool):Prop where
 size:listed.size=ops.size
 bit:∀j,listed.getD j false=ls.testBit j
theorem LsRel.start:LsRel ops 0 (qQ ops.size false):=⟨by simp,fun j=>by
 rw[ge,dd]
 by_cases h:j<ops.size<;>simp[h]⟩
theorem LsRel.put{ls:Nat}{listed:Array Bool}(h:LsRel ops ls listed){i:Nat}(hi:i<ops.size):LsRel ops (cV ls (g5 i)) (listed.setIfInBounds i true):=by
 refine⟨by simp[h.size],fun j=>?_⟩
 rw[nY,y3,←h.bit];by_cases e:i=j
 ·subst e;simp[h.size,hi]
 ·simp[e,fj e]
theorem LsRel.unlisted{ls:Nat}{listed:Array Bool}(h:LsRel ops ls listed){i:Nat}(hi:i<ops.size):listed.getD i true=ls.testBit i:=by
 rw[←h.bit];have:i<listed.size:=by rw[h.size];exact hi
 simp[this]
theorem Gz{ms:List DM}(hm:MsOk ops ms){ls:Nat}{listed:Array Bool}(h:LsRel ops ls listed){j:Nat}:j∈Region.ready .any ops listed↔∃m,ms[j]? =some m∧ls.testBit j=false∧GA m ls=true:=by
 rw[mem_ready];constructor
 ·rintro⟨k,o,n,f⟩
  have a:j<ops.size:=(cj.1 n).1;have b:j<ms.length:=by rw[hm.len];exact a
  refine⟨ms[j],af b,by rw[←h.unlisted a];exact k,?_⟩
  unfold GA;have:jF (ms[j]).am ls=(ms[j]).am:=by
   apply Nat.eq_of_testBit_eq;intro t;have g:(jF (ms[j]).am ls).testBit t=((ms[j]).am.testBit t&&ls.testBit t):=ir _ _ t;rw[g];cases ht:(ms[j]).am.testBit t with
   |false=>rfl
   |true=>
    rw[hm.am j o _ n (af b)]at ht;unfold jf at ht;obtain⟨e,i,c⟩:=co.1 ht;simp only[bE]at c;have:=f e (by simpa using i) c.2;rw[aZ c.1,h.bit]at this;rw[this];rfl
  rw[this];exact rt _
 ·rintro⟨m,d,k,p⟩
  have a:j<ops.size:=by rw[←hm.len];exact(bm.1 d).1
  refine⟨by rw[h.unlisted a];exact k,ops[j],jj a,fun e i c=>?_⟩
  rw[h.bit];refine T3 p e.on ?_;rw[hm.am j _ m (jj a) d];unfold jf;exact co.2 ⟨e,by simpa using i,by simp[c]⟩
theorem rF(ls:Nat):∀(l:List DM) (j0 j:Nat),j∈l4 ls l j0↔∃k m,l[k]? =some m∧j=j0+k∧ls.testBit j=false∧GA m ls=true
 | [],j0,j=>by simp[show l4 ls [] j0= []from rfl]
 |m::l,j0,j=>by
  have hc:l4 ls (m::l) j0=bif !(tb ls j0)&&GA m ls then j0::l4 ls l (gf j0)else l4 ls l (gf j0):=rfl;have e:=rF ls l (j0+1) j;rw[hc,zJ];have step:(∃k c,(m::l)[k]? =some c∧j=j0+k∧ls.testBit j=false∧GA c ls=true)↔(j=j0∧ls.testBit j0=false∧GA m ls=true)∨j∈l4 ls l (j0+1):=by
   rw[e];constructor
   ·rintro⟨k,c,d,rfl,b,a⟩
    cases k with
    |zero=>simp only[cf,bA.injEq]at d;subst d;exact .inl ⟨rfl,b,a⟩
    |succ k=>exact .inr ⟨k,c,by simpa using d,by omega,b,a⟩
   ·rintro(⟨rfl,b,a⟩|⟨k,c,d,rfl,b,a⟩)
    ·exact⟨0,m,rfl,rfl,b,a⟩
    ·exact⟨k+1,c,by simpa using d,by omega,b,a⟩
  rw[step];cases hb:(!(ls.testBit j0)&&GA m ls)with
  |true=>
   simp only[bE,pr]at hb;rw[cond_true,aw];simp[hb.1,hb.2]
  |false=>
   rw[cond_false];constructor
   ·exact .inr
   ·rintro(⟨_,b,a⟩|h)
    ·rw[b,a]at hb;cases hb
    ·exact h
theorem mD{ms:List DM}(hm:MsOk ops ms){ls:Nat}{listed:Array Bool}(h:LsRel ops ls listed){j:Nat}:j∈Region.ready .any ops listed↔j∈l4 ls ms 0:=by
 rw[Gz hm h,rF];constructor
 ·rintro⟨m,c,a,b⟩;exact⟨j,m,c,by omega,a,b⟩
 ·rintro⟨k,m,c,rfl,a,b⟩;exact⟨m,by simpa using c,a,b⟩
theorem xn:∀{a b:List Nat},vi a b=true→a=b
 | [],[],_=>rfl
 | [],_::_,h=>by cases h
 |_::_,[],h=>by cases h
 |a::as,b::bs,h=>by
  simp only[vi,bE]at h;rw[aZ h.1,xn h.2]
end Go.Lift
namespace Go.Lift
open Go
variable {P:Program} {ro:Option Nat} {n:Nat} {ops:Array Oper} {Q:Exit→Act→World→Prop}
theorem zF{m:Nat}{p:Nat→Bool}(hm:∀j,m.testBit j=true→p j=true):∀(l:List DM) (j0:Nat),(∀j x,l[j]? =some x→p (j0+j)=true→∀k,x.am.testBit k=true→p k=true)→∀k,(P3 m l j0).testBit k=true→p k=true
 | [],_,_,k,h=>hm k h
 |x::l,j0,hl,k,h=>by
  have hc:P3 m (x::l) j0=bif tb m j0 then cV x.am (P3 m l (gf j0))else P3 m l (gf j0):=rfl;have a:=zF hm l (j0+1) (fun j y b c=>hl (j+1) y (by simpa using b) (by rw[show j0+(j+1)=j0+1+j by omega];exact c)) k
  rw[hc,zJ]at h;cases hb:m.testBit j0 with
  |true=>
   rw[hb,cond_true,nY,jp]at h;rcases h with h|h
   ·exact hl 0 x rfl (hm _ hb) k h
   ·exact a h
  |false=>
   rw[hb,cond_false]at h;exact a h
theorem zE{m k:Nat}(h:m.testBit k=true):∀(l:List DM) (j0:Nat),(P3 m l j0).testBit k=true
 | [],_=>h
 |x::l,j0=>by
  have hc:P3 m (x::l) j0=bif tb m j0 then cV x.am (P3 m l (gf j0))else P3 m l (gf j0):=rfl;have a:=zE h l (j0+1);rw[hc];cases tb m j0 with
  |true=>rw[cond_true,nY,jp];exact .inr a
  |false=>exact a
def Shut(ms:List DM)(listed:Array Bool):Prop:=∀j x,ms[j]? =some x→listed.getD j false=true→∀k,x.am.testBit k=true→listed.getD k false=true
theorem PH{ms:List DM}{listed:Array Bool}(c:Shut ms listed){m:Nat}(hm:∀j,m.testBit j=true→listed.getD j false=true){k:Nat}(h:(Aq ms m).testBit k=true):listed.getD k false=true:=by
 have a:∀j x,ms[j]? =some x→(fun k=>listed.getD k false) (0+j)=true→∀k,x.am.testBit k=true→(fun k=>listed.getD k false) k=true:=fun j x hx b=>c j x hx (by rw[aI]at b;exact b)
 unfold Aq at h;exact zF (p:=fun k=>listed.getD k false) (zF (zF (zF hm ms 0 a) ms 0 a) ms 0 a) ms 0 a k h
theorem G7{ms:List DM}{m k:Nat}(h:m.testBit k=true):(Aq ms m).testBit k=true:=by
 unfold Aq;exact zE (zE (zE (zE h ms 0) ms 0) ms 0) ms 0
noncomputable abbrev rel(ms:List DM)(i:Nat)(L:qK):qK:=zR (Aq ms (IA ms i)) L
theorem jW{m:Nat}{x:Nat×(ae→Prop)}:∀{L:qK},x∈zR m L↔x∈L∧tb m x.1=false
 | []=>by simp[zR]
 |(k,S)::L=>by
  have b:=jW (m:=m) (x:=x) (L:=L);simp only[zR];cases hk:tb m k with
  |true=>
   rw[cond_true,b,aw];constructor
   ·exact fun h=>⟨.inr h.1,h.2⟩
   ·rintro⟨h|h,a⟩
    ·subst h;rw[hk]at a;cases a
    ·exact⟨h,a⟩
  |false=>
   rw[cond_false,aw,b,aw];constructor
   ·rintro(h|h)
    ·subst h;exact⟨.inl rfl,hk⟩
    ·exact⟨.inr h.1,h.2⟩
   ·rintro⟨h|h,a⟩
    ·exact .inl h
    ·exact .inr ⟨h,a⟩
def Qg(ms:List DM)(ro:Option Nat)(n:Nat)(P:Program)(ops:Array Oper)(Q:Exit→Act→World→Prop):Nat→qK→Array Bool→Act→World→Prop
 |0,_,listed,a,w=>Region.ready .any ops listed= []∧Q .normal a w
 |f+1,L,listed,a,w=>(Region.ready .any ops listed= []→Q .normal a w)∧
  ∀i∈Region.ready .any ops listed,∀o,ops[i]? =some o→
   wpOpIn (FW ro) n P ops Q i (fun a' w'=>(∀x∈rel ms i L,x.2 w'.heap)∧Qg ms ro n P ops Q f (rel ms i L) (listed.setIfInBounds i true) a' w') a w
theorem wt{o:Oper}{x:Nat×(ae→Prop)}:∀{L:qK},x∈oF o L↔x∈L∧jf o x.1=false
 | []=>by simp[oF]
 |(k,S)::L=>by
  have b:=wt (o:=o) (x:=x) (L:=L);simp only[oF];cases hk:jf o k with
  |true=>
   rw[cond_true,b,aw];constructor
   ·exact fun h=>⟨.inr h.1,h.2⟩
   ·rintro⟨h|h,a⟩
    ·subst h;rw[hk]at a;cases a
    ·exact⟨h,a⟩
  |false=>
   rw[cond_false,aw,b,aw];constructor
   ·rintro(h|h)
    ·subst h;exact⟨.inl rfl,hk⟩
    ·exact⟨.inr h.1,h.2⟩
   ·rintro⟨h|h,a⟩
    ·exact .inl h
    ·exact .inr ⟨h,a⟩
theorem Pb{listed:Array Bool}{i:Nat}(h:i∈Region.ready .any ops listed):∃o,ops[i]? =some o:=by
 obtain⟨_,o,a,_⟩:=mem_ready.1 h;exact⟨o,a⟩
theorem NK{ms:List DM}:∀(f:Nat) (L:qK) (listed:Array Bool) (a:Act) (w:World),Qg ms ro n P ops Q f L listed a w→wpAnyIn (FW ro) n P .any ops Q f listed a w
 |0,_,_,_,_,h=>h
 |f+1,L,listed,a,w,h=>⟨h.1,fun i hi=>by
  obtain⟨o,b⟩:=Pb hi
  exact wpOpIn_mono (fun a' w' c=>NK f _ _ a' w' c.2) (h.2 i hi o b)⟩
theorem uo{ms:List DM}:∀(f:Nat) (L L':qK) (listed:Array Bool) (a:Act) (w:World),(∀x∈L',x∈L∨∀h,x.2 h)→Qg ms ro n P ops Q f L listed a w→Qg ms ro n P ops Q f L' listed a w
 |0,_,_,_,_,_,_,h=>h
 |f+1,L,L',listed,a,w,hs,h=>⟨h.1,fun i hi o d=>by
  have b:∀x∈rel ms i L',x∈rel ms i L∨∀h,x.2 h:=fun x hx=>(hs x (jW.1 hx).1).imp (fun h=>jW.2 ⟨h,(jW.1 hx).2⟩) id
  exact wpOpIn_mono (fun a' w' c=>⟨fun x hx=>(b x hx).elim (c.1 x) fun h=>h _,uo f _ _ _ a' w' b c.2⟩) (h.2 i hi o d)⟩
def YG(P:Program)(ops:Array Oper)(S:ae→Prop)(o:Oper)(v:Value)(a:Act):Prop:=
 (Region.wanted o (yielded ops a.tmps)=true∧∀w:World,S w.heap→(execOp a.eval o).run P w=.ok (.value v) w)∨
 (Region.wanted o (yielded ops a.tmps)=false∧v=undef)
theorem YG.wpOp{S:ae→Prop}{i:Nat}{o:Oper}{v:Value}{a:Act}(hi:ops[i]? =some o) (hd:∀c,o.op≠ .defer c) (d:YG P ops S o v a) {K:Act→World→Prop} {w:World} (e:S w.heap)
  (h:K (a.put o.dst v) w):wpOpIn (FW ro) n P ops Q i K a w:=by
 unfold wpOpIn;simp only[hi];rcases d with⟨b,hv⟩|⟨b,rfl⟩
 ·simp only[b,if_true]
  refine⟨fun _ _=>trivial,?_⟩
  rw[Oper.semAt_eq _ _ _ hd,hv w e];exact h
 ·simp only[b,Bool.false_eq_true,if_false];exact⟨fun _ _=>trivial,h⟩
theorem YG.of_same{S:ae→Prop}{o:Oper}{v:Value}{a a':Act}(c:YG P ops S o v a)(d:execOp a'.eval o=execOp a.eval o)
  (b:Region.wanted o (yielded ops a'.tmps)=Region.wanted o (yielded ops a.tmps)):YG P ops S o v a':=by
 unfold YG at*;rw[d,b];exact c
theorem Ls{S:ae→Prop}{j:Nat}{g i:Oper}{v:Value}(C:ops[j]? =some i)
  (z:(∀d,g.dst=some d→d∉i.looksAt ops)∧(∀d,g.dst=some d→i.dst≠some d)∧(∀d,i.dst=some d→d∉g.looksAt ops))
  (t:∀cs b,g.op≠ .select cs b) (A:∀cs b,i.op≠ .select cs b) (s:∀c,i.op≠ .defer c)
  (D:∀e a w,(∀c,e=.panic c→False)∨¬Q e a w) {K:Act→World→Prop} {a:Act} {w:World}
  (m:YG P ops S g v a) (h:wpOpIn (FW ro) n P ops Q j K (a.put g.dst v) w):
  wpOpIn (FW ro) n P ops Q j (fun a' w'=>YG P ops S g v a'∧K (a'.put g.dst v) w') a w:=by
 obtain⟨B,o,y⟩:=z;have p:∀c a w,¬Q (.panic c) a w:=fun c a w E=>(D (.panic c) a w).elim (fun h=>h c rfl) fun h=>h E
 have keep:∀(a:Act),YG P ops S g v a→∀u,YG P ops S g v (a.put i.dst u):=fun a m u=>
  m.of_same (execOp_put g t a i.dst u y) (wanted_put g a i.dst u y)
 unfold wpOpIn at*;simp only[C]at*;rw[wanted_put i a g.dst v B]at h;split
 ·rename_i hw
  simp only[hw,if_true]at h;refine⟨fun _ _=>trivial,?_⟩
  have h:=h.2;rw[Oper.semAt_eq _ _ _ s,execOp_put i A a g.dst v B]at h;rw[Oper.semAt_eq _ _ _ s];generalize (execOp a.eval i).run P w=r at*;cases r with
  |ok x w'=>
   cases x<;>simp only[Oper.uponIn]at h⊢
   case value u=>exact⟨keep a m u,by rw[←Act.put_comm a v u o];exact h⟩
   case skip=>exact⟨keep a m _,by rw[←Act.put_comm a v undef o];exact h⟩
   case defer d=>
    refine⟨(m.of_same (a':={a with defers:=d::a.defers}) rfl rfl).of_same (execOp_put g t _ i.dst undef y) (wanted_put g _ i.dst undef y),?_⟩;rw[←Act.put_comm _ v undef o,←Act.put_defers];exact h
   case enter f args=>
    refine⟨h.1,CallsIn.mono h.2 fun e q k=>?_⟩
    cases e with
    |returned u=>exact⟨keep a m u,by rw[←Act.put_comm a v u o];exact k⟩
    |panicked c=>exact(p _ _ _ k).elim
    |outgrown=>exact k
   case row row args=>exact⟨h.1,RowsIn.mono h.2 fun u q k=>⟨keep a m u,by rw[←Act.put_comm a v u o];exact k⟩⟩
   case round l f tmps assign body=>
    refine⟨h.1,RoundIn.mono h.2 fun e q k=>?_⟩
    cases e with
    |returned u=>exact⟨keep a m u,by rw[←Act.put_comm a v u o];exact k⟩
    |panicked c=>exact(p _ _ _ k).elim
    |outgrown=>exact k
  |halt x w'=>
   cases x<;>simp only[Oper.uponIn]at h⊢
   case panic u=>exact(p _ _ _ h).elim
 ·rename_i hw
  simp only[hw]at h;exact⟨fun _ _=>trivial,keep a m _,by rw[←Act.put_comm a v undef o];exact h.2⟩
theorem Iz{ms:List DM}(hm:MsOk ops ms){i:Nat}{o:Oper}(a:ops[i]? =some o) (k:Nat):(IA ms i).testBit k=jf o k:=by
 have hi:i<ms.length:=by rw[hm.len];exact(cj.1 a).1
 unfold IA;rw[af hi];exact hm.am i o _ a (af hi) k
theorem JE{ms:List DM}(hm:MsOk ops ms){listed:Array Bool}{j:Nat}(d:j∈Region.ready .any ops listed)(k:Nat)(c:(IA ms j).testBit k=true):listed.getD k false=true:=by
 obtain⟨_,o,g,a⟩:=mem_ready.1 d;rw[Iz hm g]at c;unfold jf at c;obtain⟨e,f,b⟩:=co.1 c;simp only[bE]at b;have:=a e (by simpa using f) b.2;rw[aZ b.1]at this;exact this
theorem Kr{listed:Array Bool}{j k:Nat}(h:listed.getD k false=true):(listed.setIfInBounds j true).getD k false=true:=by
 by_cases e:j=k
 ·subst e
  rw[dd]at h⊢;rcases bG j listed.size with a|a
  ·simp[a]
  ·simp[kT a]at h
 ·rw[dd,fj e,←dd]
  exact h
theorem Shut.put{ms:List DM}(hm:MsOk ops ms){listed:Array Bool}(d:Shut ms listed){j:Nat}(c:j∈Region.ready .any ops listed):Shut ms (listed.setIfInBounds j true):=by
 intro i x hx a k b;by_cases e:j=i
 ·subst e
  refine Kr (JE hm c k ?_);unfold IA;rw[hx];exact b
 ·rw[dd,fj e,←dd]at a
  exact Kr (d i x hx a k b)
theorem Dw{ms:List DM}(hm:MsOk ops ms){S:ae→Prop}{i:Nat}{y:Oper}{v:Value}(hi:ops[i]? =some y) (m:∀(j:Nat) (o:Oper),ops[j]? =some o→(∀cs b,o.op≠ .select cs b)∧(∀c,o.op≠ .defer c))
  (X:∀e a w,(∀c,e=.panic c→False)∨¬Q e a w):
  ∀(fuel:Nat) (L:qK) (listed:Array Bool) (a:Act) (w:World),
   (∀j s,ops[j]? =some s→j≠i→listed.getD j true=false→jf s i=false→
    (∀d,y.dst=some d→d∉s.looksAt ops)∧(∀d,y.dst=some d→s.dst≠some d)∧(∀d,s.dst=some d→d∉y.looksAt ops))→
   Shut ms listed→i∈Region.ready .any ops listed→YG P ops S y v a→S w.heap→(∀x∈L,x.2 w.heap)→
   Qg ms ro n P ops Q fuel ((i,S)::L) (listed.setIfInBounds i true) (a.put y.dst v) w→Qg ms ro n P ops Q (fuel+1) L listed a w:=by
 intro fuel;induction fuel with
 |zero=>
  intro L listed a w _ _ A R W T H;refine⟨fun h=>(by rw[h]at A;cases A),fun j E s f=>?_⟩
  by_cases g:j=i
  ·subst g
   rw[hi]at f;cases f;exact R.wpOp hi (m _ _ hi).2 W ⟨fun x hx=>T x (jW.1 hx).1,H⟩
  ·have:=ready_mono E g
   rw[H.1]at this;cases this
 |succ fuel ih=>
  intro L listed a w q G A R W T H;refine⟨fun h=>(by rw[h]at A;cases A),fun j E s f=>?_⟩
  by_cases g:j=i
  ·subst g
   rw[hi]at f;cases f;exact R.wpOp hi (m _ _ hi).2 W ⟨fun x hx=>T x (jW.1 hx).1,uo _ _ _ _ _ _ (fun x hx=>.inl (aL _ (jW.1 hx).1)) H⟩
  ·have p:=H.2 j (ready_mono E g) s f
   obtain⟨z,Z,B,M⟩:=mem_ready.1 E;rw[f]at B;cases B;have J:jf s i=false:=by
    cases t:jf s i with
    |false=>rfl
    |true=>
     unfold jf at t;obtain⟨e,Y,t⟩:=co.1 t;simp only[bE]at t;have p:=M e (by simpa using Y) t.2;rw[aZ t.1]at p;have K:=(mem_ready.1 A).1;rcases bG i listed.size with C|C
     ·simp[C]at K p;rw[K]at p;cases p
     ·simp[kT C]at p
   have D:tb (Aq ms (IA ms j)) i=false:=by
    cases t:tb (Aq ms (IA ms j)) i with
    |false=>rfl
    |true=>
     rw[zJ]at t;have p:=PH G (JE hm E) t;have K:=(mem_ready.1 A).1;rcases bG i listed.size with C|C
     ·simp[C]at K p;rw[K]at p;cases p
     ·simp[kT C]at p
   have N:rel ms j ((i,S)::L)=(i,S)::rel ms j L:=by simp only[rel,zR,D,cond_false]
   rw[N]at p;have h2:=Ls f (q j s f g z J) (m _ _ hi).1 (m _ _ f).1 (m _ _ f).2 X R p;have u:∀k ok,ops[k]? =some ok→k≠i→(listed.setIfInBounds j true).getD k true=false→jf ok i=false→
     (∀d,y.dst=some d→d∉ok.looksAt ops)∧(∀d,y.dst=some d→ok.dst≠some d)∧(∀d,ok.dst=some d→d∉y.looksAt ops):=fun k ok hk U O V=>by
    refine q k ok hk U ?_ V;by_cases I:j=k
    ·subst I;exact z
    ·rw[getD_set_ne true I]at O;exact O
   refine wpOpIn_mono (fun a' w' F=>⟨fun x hx=>F.2.1 x (aL _ hx),ih (rel ms j L) (listed.setIfInBounds j true) a' w' u (G.put hm E) (ready_mono A (Ne.symm g)) F.1 (F.2.1 _ (av ..)) (fun x hx=>F.2.1 x (aL _ hx)) ?_⟩) h2
   rw[Array.setIfInBounds_comm _ _ g];exact F.2.2
theorem rg{h:ae}{R:Prop}:∀{L:qK},rI L h R↔(∀x∈L,x.2 h)∧R
 | []=>by simp[rI]
 |(k,S)::L=>by
  simp only[rI,rg (L:=L),aw,forall_eq_or_imp,and_assoc]
theorem Qf{ms:List DM}{f:Nat}{L:qK}{listed:Array Bool}{a:Act}{w:World}(b:Region.ready .any ops listed= [])(h:Q .normal a w):Qg ms ro n P ops Q f L listed a w:=by
 cases f with
 |zero=>exact⟨b,h⟩
 |succ f=>exact⟨fun _=>h,by rw[b];simp⟩
def left(ops:Array Oper)(ls:Nat):Nat:=((List.range ops.size).filter fun j=> !ls.testBit j).length
theorem wz{ls i:Nat}(hi:i<ops.size)(f:ls.testBit i=false):left ops (cV ls (g5 i))+1=left ops ls:=by
 have key:∀l:List Nat,l.Nodup→i∈l→(l.filter fun j=> !(cV ls (g5 i)).testBit j).length+1=(l.filter fun j=> !ls.testBit j).length:=by
  intro l;induction l with
  |nil=>intro _ h;cases h
  |cons x l ih=>
   intro c hm;rw[List.nodup_cons]at c;by_cases hx:x=i
   ·subst hx
    have a:(l.filter fun j=> !(cV ls (g5 x)).testBit j)=l.filter fun j=> !ls.testBit j:=by
     apply List.filter_congr;intro y g;have:x≠y:=fun e=>c.1 (e▸g)
     rw[nY,y3,decide_eq_false this,Bool.or_false]
    have b:(cV ls (g5 x)).testBit x=true:=by rw[nY,y3];simp
    rw[cE,cE,b,f,a];rfl
   ·have d:i∈l:=by rcases aw.1 hm with h|h;exact absurd h.symm hx;exact h
    have b:(cV ls (g5 i)).testBit x=ls.testBit x:=by rw[nY,y3,decide_eq_false (Ne.symm hx),Bool.or_false]
    have:=ih c.2 d;rw[cE,cE,b];cases ls.testBit x with
    |true=>exact this
    |false=>exact congrArg (· +1) this
 exact key _ List.nodup_range (List.mem_range.2 hi)
theorem Px{N:Nat}{a:List Oper}{ms:List DM}{ls:Nat}{L:qK}{d:uT}{K:cH→ae→Prop}{r:cH}{b:ae}:∀{l:DA},ng P N a ms l true ls L d K r b→∃i,i∈BG l
 | .done,h=>h.elim
 | .take i rest,h=>by
  exfalso;have hc:ng P N a ms (.take i rest) true ls L d K r b=(match a[i]?,ms[i]? with|some _,some _=>False|_,_=>False):=rfl
  rw[hc]at h;split at h<;>exact h
 | .all _,h=>h.elim
 | .pick i _ _,_=>⟨i,av ..⟩
 | .last i _,_=>⟨i,av ..⟩
 | .lastT i _,_=>⟨i,av ..⟩
 | .split ..,h=>h.elim
def Nv(ro:Option Nat)(n:Nat)(P:Program)(ops:Array Oper)(Q:Exit→Act→World→Prop)(N:Nat)(ms:List DM)(W:Nat→Prop)(c:Act)(e:World)(K:cH→ae→Prop)(b:DA):Prop:=
 ∀(m:Bool) (ls:Nat) (L:qK) (d:uT) (r:cH) (a:Act) (w:World) (listed:Array Bool) (fuel:Nat),
  ng P N ops.toList ms b m ls L d K r w.heap→Agree N r a→DecOk d r→Fr W c e a w→LsRel ops ls listed→Shut ms listed→(∀x∈L,x.2 w.heap)→
  (m=false→left ops ls≤fuel→Qg ms ro n P ops Q fuel L listed a w)∧
  (m=true→left ops ls≤fuel+1→∀i∈BG b,i∈l4 ls ms 0→∀o,ops[i]? =some o→
   wpOpIn (FW ro) n P ops Q i (fun a' w'=>(∀x∈rel ms i L,x.2 w'.heap)∧Qg ms ro n P ops Q fuel (rel ms i L) (listed.setIfInBounds i true) a' w') a w)
theorem Jy{N:Nat}{ms:List DM}(hm:MsOk ops ms){W:Nat→Prop}(hW:∀o∈ops.toList,∀d,o.dst=some d→W d){a0:Act}{w0:World}{K:cH→ae→Prop}
  (hQ:∀r a w,Agree N r a→Fr W a0 w0 a w→K r w.heap→Q .normal a w)(hnp:∀e a w,(∀c,e=.panic c→False)∨¬Q e a w)(da:DA):
  Nv ro n P ops Q N ms W a0 w0 K da:=by
 have one:∀(i:Nat) (g:DA)
   (_:Nv ro n P ops Q N ms W a0 w0 K g)
   (ls:Nat) (L:qK) (d:uT) (r:cH) (a:Act) (w:World) (listed:Array Bool) (fuel:Nat),
   O6 P N ops.toList i L d r w.heap (fun L' d' D h'=>ng P N ops.toList ms g false (cV ls (g5 i)) L' d' K D h')→Agree N r a→DecOk d r→Fr W a0 w0 a w→LsRel ops ls listed→Shut ms listed→
   left ops ls≤fuel+1→i∈l4 ls ms 0→∀o,ops[i]? =some o→
    wpOpIn (FW ro) n P ops Q i (fun a' w'=>(∀x∈rel ms i L,x.2 w'.heap)∧Qg ms ro n P ops Q fuel (rel ms i L) (listed.setIfInBounds i true) a' w') a w:=by
  intro i g U ls L d r a w listed fuel f B hd F A p y hr o s;have z:i<ops.size:=(cj.1 s).1;obtain⟨k,mm,hk,hki,J,_⟩:=(rF ls ms 0 i).1 hr;unfold O6 at f;rw[bJ,s]at f;simp only at f;cases hw:je ops.toList d o with
  |none=>rw[hw]at f;exact f.elim
  |some b=>
   rw[hw]at f;cases b with
   |false=>exact f.elim
   |true=>
    simp only at f;cases hq:vS P o.op with
    |true=>
     rw[hq,cond_true]at f;unfold wpOpIn;rw[s];simp only[na hw B hd,if_true];obtain⟨v,S,hK,hS,_,V⟩:=Bu B f d hd;refine qh (K:=fun u h'=>u=v∧h'=w.heap) (Ck f) (.inl ⟨v,w,V w hS,Tame.refl w,rfl,rfl⟩) ?_
     rintro u w' ht ⟨rfl,hw'⟩;obtain⟨D,H,G,I⟩:=sP (dv:=.x) hK B hd trivial;obtain⟨hh,X⟩:=rg.1 H;have C:o∈ops.toList:=bK (by rw[bJ];exact s);have M:=wz z J;have E:∀x∈rel ms i L,x∈oF o L:=fun x hx=>wt.2 ⟨(jW.1 hx).1,by
      cases hb:jf o x.1 with
      |false=>rfl
      |true=>
        have:=(jW.1 hx).2
        rw[zJ,G7 (by rw[Iz hm s];exact hb)]at this;cases this⟩
     rw[←hw']at hh X;exact⟨fun x hx=>hh x (E x hx),uo _ _ _ _ _ _ (fun x hx=>.inl (E x hx)) ((U false _ _ _ D _ w' _ fuel X G I (F.put (hW o C) u ht) (A.put z) (p.put hm ((mD hm A).2 hr)) hh).1 rfl (by omega))⟩
    |false=>
     rw[hq,cond_false]at f;unfold wpOpIn;rw[s];simp only[na hw B hd,if_true];refine qh (wh f) (Bg B f) ?_;intro v w' ht hK;obtain⟨D,H,G,I⟩:=sP (dv:=.x) hK B hd trivial;obtain⟨hh,X⟩:=rg.1 H;have C:o∈ops.toList:=bK (by rw[bJ];exact s);have M:=wz z J;have E:∀x∈rel ms i L,x∈oF o L:=fun x hx=>wt.2 ⟨(jW.1 hx).1,by
      cases hb:jf o x.1 with
      |false=>rfl
      |true=>
        have:=(jW.1 hx).2
        rw[zJ,G7 (by rw[Iz hm s];exact hb)]at this;cases this⟩
     exact⟨fun x hx=>hh x (E x hx),uo _ _ _ _ _ _ (fun x hx=>.inl (E x hx)) ((U false _ _ _ D _ w' _ fuel X G I (F.put (hW o C) v ht) (A.put z) (p.put hm ((mD hm A).2 hr)) hh).1 rfl (by omega))⟩
 have oneT:∀(i:Nat) (g:DA)
   (_:Nv ro n P ops Q N ms W a0 w0 K g)
   (ls:Nat) (L:qK) (d:uT) (r:cH) (a:Act) (w:World) (listed:Array Bool) (fuel:Nat),
   NU P N ops.toList ms i L d r w.heap (fun L' d' D h'=>ng P N ops.toList ms g false (cV ls (g5 i)) L' d' K D h')→Agree N r a→DecOk d r→Fr W a0 w0 a w→LsRel ops ls listed→Shut ms listed→
   left ops ls≤fuel+1→i∈l4 ls ms 0→∀o,ops[i]? =some o→
    wpOpIn (FW ro) n P ops Q i (fun a' w'=>(∀x∈rel ms i L,x.2 w'.heap)∧Qg ms ro n P ops Q fuel (rel ms i L) (listed.setIfInBounds i true) a' w') a w:=by
  intro i g U ls L d r a w listed fuel f B hd F A p y hr o s;have z:i<ops.size:=(cj.1 s).1;obtain⟨k,mm,hk,hki,J,_⟩:=(rF ls ms 0 i).1 hr;unfold NU at f;rw[bJ,s]at f;simp only at f;cases hw:je ops.toList d o with
  |none=>rw[hw]at f;exact f.elim
  |some b=>
   rw[hw]at f;cases b with
   |false=>exact f.elim
   |true=>
    simp only at f;cases hq:vS P o.op with
    |true=>rw[hq]at f;exact f.elim
    |false=>
     rw[hq,cond_false]at f;unfold wpOpIn;rw[s];simp only[na hw B hd,if_true];refine qh (wh f) (Bg B f) ?_;intro v w' ht hK;obtain⟨D,H,G,I⟩:=sP (dv:=.x) hK B hd trivial;obtain⟨hh,X⟩:=rg.1 H;have C:o∈ops.toList:=bK (by rw[bJ];exact s);have M:=wz z J;exact⟨hh,(U false _ _ _ D _ w' _ fuel X G I (F.put (hW o C) v ht) (A.put z) (p.put hm ((mD hm A).2 hr)) hh).1 rfl (by omega)⟩
 induction da with
 |done=>
  intro m ls L d r a w listed fuel f B hd F A p R;cases m with
  |true=>exact f.elim
  |false=>
   refine⟨fun _ _=>?_,fun h=>by cases h⟩
   have hc:ng P N ops.toList ms .done false ls L d K r w.heap=bif vi (l4 ls ms 0) []then K r w.heap else False:=rfl;rw[hc]at f;cases hb:vi (l4 ls ms 0) []with
   |false=>rw[hb]at f;exact f.elim
   |true=>
    rw[hb]at f;have hnil:Region.ready .any ops listed= []:=by
     apply List.eq_nil_iff_forall_not_mem.2;intro j O;rw[mD hm A,xn hb]at O;cases O
    exact Qf hnil (hQ r a w B F f)
 |take i g U=>
  intro m ls L d r a w listed fuel f B hd F A p R;cases m with
  |true=>
   exfalso;have hc:ng P N ops.toList ms (.take i g) true ls L d K r w.heap=(match ops.toList[i]?,ms[i]? with|some _,some _=>False|_,_=>False):=rfl
   rw[hc]at f;split at f<;>exact f
  |false=>
   refine⟨fun _ y=>?_,fun h=>by cases h⟩
   have hc:ng P N ops.toList ms (.take i g) false ls L d K r w.heap=(match ops.toList[i]?,ms[i]? with
    |some o,some mi=>bif DL mi i ls ops.toList.length then
      (match je ops.toList d o with
       |none=>False
       |some false=>yW N o undef r fun D=>ng P N ops.toList ms g false (cV ls (g5 i)) L (rl d o .u) K D w.heap
       |some true=>bif vS P o.op then
          Bc P none o.op r (fun v S=>yW N o v r fun D=>match S with
            |none=>ng P N ops.toList ms g false (cV ls (g5 i)) L (rl d o (Jb d o.op)) K D w.heap
            |some S=>ng P N ops.toList ms g false (cV ls (g5 i)) ((i,S)::L) (rl d o (Jb d o.op)) K D w.heap) w.heap
          else False)
     else False
    |_,_=>False):=rfl
   rw[hc]at f;split at f
   ·rename_i o mi s hmi
    rw[bJ]at s;cases htk:DL mi i ls ops.toList.length with
    |false=>rw[htk]at f;exact f.elim
    |true=>
     rw[htk,cond_true]at f;unfold DL at htk;simp only[bE,pr,zJ]at htk;obtain⟨⟨hun,hrd⟩,hfr⟩:=htk;have z:i<ops.size:=(cj.1 s).1;have q:i∈Region.ready .any ops listed:=(Gz hm A).2 ⟨mi,hmi,hun,hrd⟩;have M:=wz (ops:=ops) z hun;obtain⟨Z,rfl⟩:∃Z,fuel=Z+1:=⟨fuel-1,by omega⟩
     have C:o∈ops.toList:=bK (by rw[bJ];exact s);have hcov:∀j,j<ops.size→ls.testBit j=true∨mi.fr.testBit j=true:=by
      intro j O;have h0:=aZ hfr;have hpb:(xa (g5 ops.toList.length)).testBit j=true:=by
        have:xa (g5 ops.toList.length)=2^ops.toList.length-1:=rfl;rw[this,Nat.testBit_two_pow_sub_one];simpa using O
      have hand:(jF (cV ls mi.fr) (xa (g5 ops.toList.length))).testBit j=((cV ls mi.fr).testBit j&&(xa (g5 ops.toList.length)).testBit j):=ir _ _ j;rw[h0,hpb,Bool.and_true,nY]at hand;exact(Bool.or_eq_true_iff).1 hand.symm
     have T:∀j oj,ops[j]? =some oj→j≠i→listed.getD j true=false→jf oj i=false→
        (∀d,o.dst=some d→d∉oj.looksAt ops)∧(∀d,o.dst=some d→oj.dst≠some d)∧(∀d,oj.dst=some d→d∉o.looksAt ops):=by
      intro j oj hoj hne hju hna;have O:j<ops.size:=(cj.1 hoj).1;rw[A.unlisted O]at hju;have hjm:j<ms.length:=by rw[hm.len];exact O
      have hmj:=af hjm;rcases hcov j O with h|h
      · rw[h]at hju;cases hju
      · rcases hm.free i j mi _ hmi hmj h with h|h|h
        ·exact absurd h hne
        ·rw[hm.am j oj _ hoj hmj,hna]at h;cases h
        ·exact Sm hm s hoj hmi hmj h
     cases hw:je ops.toList d o with
     |none=>rw[hw]at f;exact f.elim
     |some b=>
      rw[hw]at f;have hwd:=na hw B hd;cases b with
      |false=>
        obtain⟨D,H,G,I⟩:=sP (dv:=.u) f B hd rfl;have hy:YG P ops (fun _=>True) o undef a:=.inr ⟨hwd,rfl⟩
        refine Dw hm s hm.nosel hnp Z L listed a w T p q hy trivial R ?_;refine uo _ L _ _ _ _ (fun x hx=>(aw.1 hx).elim (fun e=>.inr fun h=>by rw[e];trivial) .inl) ?_
        exact(U false _ _ _ D _ w _ Z H G I (F.put (hW o C) undef (Tame.refl w)) (A.put z) (p.put hm q) R).1 rfl (by omega)
      |true=>
        simp only at f;cases hq:vS P o.op with
        |false=>rw[hq]at f;exact f.elim
        |true=>
         rw[hq,cond_true]at f;obtain⟨v,S,hK,hS,hdv,V⟩:=Bu B f d hd;obtain⟨D,H,G,I⟩:=sP hK B hd hdv;have hfr':=F.put (hW o C) v (Tame.refl w);cases S with
         |none=>
           have hy:YG P ops (fun _=>True) o v a:=.inl ⟨hwd,fun w _=>V w trivial⟩
           refine Dw hm s hm.nosel hnp Z L listed a w T p q hy trivial R ?_;refine uo _ L _ _ _ _ (fun x hx=>(aw.1 hx).elim (fun e=>.inr fun h=>by rw[e];trivial) .inl) ?_
           exact(U false _ _ _ D _ w _ Z H G I hfr' (A.put z) (p.put hm q) R).1 rfl (by omega)
         |some S=>
           have hy:YG P ops S o v a:=.inl ⟨hwd,fun w h=>V w h⟩
           refine Dw hm s hm.nosel hnp Z L listed a w T p q hy hS R ?_;exact(U false _ _ _ D _ w _ Z H G I hfr' (A.put z) (p.put hm q) (fun x hx=>(aw.1 hx).elim (fun e=>by rw[e];exact hS) (R x))).1 rfl (by omega)
   ·exact f.elim
 |all l U=>
  intro m ls L d r a w listed fuel f B hd F A p R;cases m with
  |true=>exact f.elim
  |false=>
   refine⟨fun _ y=>?_,fun h=>by cases h⟩
   have hc:ng P N ops.toList ms (.all l) false ls L d K r w.heap=bif vi (l4 ls ms 0) (BG l)then ng P N ops.toList ms l true ls L d K r w.heap else False:=rfl;rw[hc]at f;cases hb:vi (l4 ls ms 0) (BG l)with
   |false=>rw[hb]at f;exact f.elim
   |true=>
    rw[hb,cond_true]at f;obtain⟨i,hi⟩:=Px f;rw[←xn hb]at hi;have hrd:=(mD hm A (j:=i)).2 hi;obtain⟨k,mm,hk,hki,J,_⟩:=(rF ls ms 0 i).1 hi;have z:i<ops.size:=by
     have:=(bm.1 hk).1;rw[hm.len]at this;omega
    have M:=wz (ops:=ops) z J;obtain⟨Z,rfl⟩:∃Z,fuel=Z+1:=⟨fuel-1,by omega⟩
    refine⟨fun h=>(by rw[h]at hrd;cases hrd),fun j O o s=>?_⟩
    have hj':=(mD hm A).1 O;exact(U true ls L d r a w listed Z f B hd F A p R).2 rfl y j (by rw[←xn hb];exact hj') hj' o s
 |pick i g more ih1 ih2=>
  intro m ls L d r a w listed fuel f B hd F A p R;cases m with
  |false=>exact f.elim
  |true=>
   refine⟨fun h=>(by cases h),fun _ y j O Y o s=>?_⟩
   have f:O6 P N ops.toList i L d r w.heap (fun L' d' D h'=>ng P N ops.toList ms g false (cV ls (g5 i)) L' d' K D h')∧ng P N ops.toList ms more true ls L d K r w.heap:=f
   rcases aw.1 O with rfl|O
   ·exact one _ g ih1 ls L d r a w listed fuel f.1 B hd F A p y Y o s
   ·exact(ih2 true ls L d r a w listed fuel f.2 B hd F A p R).2 rfl y j O Y o s
 |last i g U=>
  intro m ls L d r a w listed fuel f B hd F A p R;cases m with
  |false=>exact f.elim
  |true=>
   refine⟨fun h=>(by cases h),fun _ y j O Y o s=>?_⟩
   have f:O6 P N ops.toList i L d r w.heap (fun L' d' D h'=>ng P N ops.toList ms g false (cV ls (g5 i)) L' d' K D h'):=f
   have hji:j=i:=aq.1 O;subst hji;exact one _ g U ls L d r a w listed fuel f B hd F A p y Y o s
 |lastT i g U=>
  intro m ls L d r a w listed fuel f B hd F A p R;cases m with
  |false=>exact f.elim
  |true=>
   refine⟨fun h=>(by cases h),fun _ y j O Y o s=>?_⟩
   have f:NU P N ops.toList ms i L d r w.heap (fun L' d' D h'=>ng P N ops.toList ms g false (cV ls (g5 i)) L' d' K D h'):=f
   have hji:j=i:=aq.1 O;subst hji;exact oneT _ g U ls L d r a w listed fuel f B hd F A p y Y o s
 |split t yes no ih1 ih2=>
  intro m ls L d r a w listed fuel f B hd F A p R;cases m with
  |true=>exact f.elim
  |false=>
   refine⟨fun _ y=>?_,fun h=>by cases h⟩
   have hc:ng P N ops.toList ms (.split t yes no) false ls L d K r w.heap=(match kw r t with
    |some (.bool b)=>CondP b (ng P N ops.toList ms yes false ls L ((t,.t)::d) K ((t,.bool true)::r) w.heap) (ng P N ops.toList ms no false ls L ((t,.f)::d) K ((t,.bool false)::r) w.heap)
    |_=>False):=rfl
   rw[hc]at f;split at f
   ·rename_i b hlk
    cases b with
    |true=>exact(ih1 false ls L _ _ a w listed fuel (f.yes rfl) (B.known hlk) (hd.known rfl) F A p R).1 rfl y
    |false=>exact(ih2 false ls L _ _ a w listed fuel (f.no rfl) (B.known hlk) (hd.known rfl) F A p R).1 rfl y
   ·exact f.elim
end Go.Lift
namespace Go.Lift
open Go
variable {P:Program} {ro:Option Nat} {n:Nat}
theorem GP{r:cH}:∀{l:List Nat} {r0:cH},Od r l=some r0→∀t v,kw r0 t=some v→t∈l∧kw r t=some v
 | [],r0,h,t,v,hv=>by cases h;cases hv
 |s::l,r0,h,t,v,hv=>by
  have h:(match kw r s,Od r l with|some v,some l=>some ((s,v)::l)|_,_=>none)=some r0:=h
  split at h
  ·rename_i u l' hu hl
   cases h;by_cases e:s=t
   ·subst e;rw[iK]at hv;cases hv;exact⟨av ..,hu⟩
   ·rw[g7 u _ e]at hv
    have:=GP hl t v hv;exact⟨aL _ this.1,this.2⟩
  ·cases h
theorem BA{m:Nat}{t:Nat}{v:Value}:∀{r:cH},kw (wB m r) t=some v→m.testBit t=false∧kw r t=some v
 | [],h=>by cases h
 |(k,u)::r,h=>by
  have h:kw (bif tb m k then wB m r else(k,u)::wB m r) t=some v:=h;cases hk:tb m k with
  |true=>
   rw[hk]at h;have:=BA h;by_cases e:k=t
   ·subst e;rw[zJ,this.1]at hk;cases hk
   ·rw[g7 u _ e];exact this
  |false=>
   rw[hk]at h;have h:kw ((k,u)::wB m r) t=some v:=h;by_cases e:k=t
   ·subst e;rw[iK]at h⊢;rw[zJ]at hk;exact⟨hk,h⟩
   ·rw[g7 u _ e]at h⊢;exact BA h
theorem Bf{t:Nat}:∀{l:List Oper},(Qj l).testBit t=false→¬lV t l=true
 | [],_,h=>by cases h
 |o::l,hm,h=>by
  have hm:(cV (nF o) (Qj l)).testBit t=false:=hm;rw[nY,mz]at hm;have h:(match o.dst with|some d=>bif bN d t then true else lV t l|none=>lV t l)=true:=h
  cases hd:o.dst with
  |none=>rw[hd]at h;exact Bf hm.2 h
  |some d=>
   rw[hd]at h;cases e:bN d t with
   |true=>have:=(wQ o t).2 (by rw[hd,aZ e]);rw[hm.1]at this;cases this
   |false=>simp only[e]at h;exact Bf hm.2 h
theorem Ka{a b:Option Nat}{m:Nat}(h:V7 a b=some m):∃x y,a=some x∧b=some y∧m=cV x y:=by
 cases a<;>cases b<;>cases h
 exact⟨_,_,rfl,rfl,rfl⟩
theorem Qi{t:Nat}(c:Code):∀{m:Nat},xS c=some m→m.testBit t=false→¬gH t c=true:=by
 induction c with
 |skip=>intro m _ _ h;cases h
 |region id ops dr=>intro m h hm d;cases h;exact Bf hm d
 |seq a b iha ihb=>
  intro m h hm d;obtain⟨x,y,hx,e,rfl⟩:=Ka (show V7 (xS a) (xS b)=some m from h)
  rw[nY,mz]at hm;have d:(bif gH t a then true else gH t b)=true:=d;cases ha:gH t a with
  |true=>exact iha hx hm.1 ha
  |false=>rw[ha]at d;exact ihb e hm.2 d
 |cond c a b iha ihb=>
  intro m h hm d;obtain⟨x,y,hx,e,rfl⟩:=Ka (show V7 (xS a) (xS b)=some m from h)
  rw[nY,mz]at hm;have d:(bif gH t a then true else gH t b)=true:=d;cases ha:gH t a with
  |true=>exact iha hx hm.1 ha
  |false=>rw[ha]at d;exact ihb e hm.2 d
 |block id b ih=>exact fun h hm=>ih h hm
 |loop b ih=>exact fun h hm=>ih h hm
 |rangeFunc _ _ _ _ _ _=>intro m h;cases h
 |scope b ih=>exact fun h hm=>ih h hm
 |_=>intro m _ _ h;cases h
theorem Agree.keep{N:Nat}{r b:cH}{a a':Act}{w w':World}{m:Nat}{c:Code}(h:Agree N r a)(hm:xS c=some m)(e:Fr (fun t=>gH t c=true) a w a' w')(f:Agree N b a'):Agree N (wB m r) a':=
 ⟨f.size,fun t v hv=>by
  obtain⟨d,g⟩:=BA hv
  rw[e.same t (Qi c hm d)];exact h.look t v g⟩
theorem wi{a:St}{r:cH}{f:vR (yz a)→Prop}(h:Cg a r f):∃t,DR r a=some (np (yz a) t)∧f t:=by
 unfold Cg at h;split at h
 ·rename_i vs hv
  obtain⟨t,rfl,b⟩:=rO h;exact⟨t,hv,b⟩
 ·exact h.elim
theorem Agree.zip{N:Nat}{r:cH}{a:Act}(h:Agree N r a):∀{st:St} {vs:List Value} {r0:cH},DR r st=some vs→Agree N r0 a→Agree N (nB st vs r0) a
 | [],vs,r0,_,h0=>by cases vs<;>exact h0
 |(i,k)::st,vs,r0,hv,h0=>by
  unfold DR at hv;split at hv
  ·rename_i v vs' h1 h2
   cases hv;have:=Agree.zip h h2 h0;refine⟨this.size,fun t u b=>?_⟩
   by_cases e:i=t
   ·subst e
    rw[show nB ((i,k)::st) (v::vs') r0=(i,v)::nB st vs' r0 from rfl,iK]at b;cases b
    exact h.look i v h1
   ·rw[show nB ((i,k)::st) (v::vs') r0=(i,v)::nB st vs' r0 from rfl,g7 v _ e]at b
    exact this.look t u b
  ·cases hv
theorem zA{t:Nat}:∀{l:List Oper} {o:Oper},o∈l→o.dst=some t→lV t l=true
 | [],_,h,_=>by cases h
 |x::l,o,h,hd=>by
  have e:lV t (x::l)=(match x.dst with|some d=>bif bN d t then true else lV t l|none=>lV t l):=rfl
  rw[e];rcases aw.1 h with rfl|h
  ·rw[hd];simp only;rw[show bN t t=true from rt t];rfl
  ·have:=zA h hd
   cases x.dst with
   |none=>exact this
   |some d=>
    simp only;cases bN d t with
    |true=>rfl
    |false=>exact this
def LWP(ro:Option Nat)(n:Nat)(P:Program)(c:Code)(Q:Exit→Act→World→Prop)(a:Act)(w:World):Prop:=
 ∀(b:Frame) (k:List Item) (cs:List Frame),b.roundOf=(FW ro).round→(FW ro).fn b.fn→(FW ro).room (cs.length+1+n)→
  ∃e a' w',Q e a' w'∧ArrivesIn (Machine.fenced P (FW ro)) P (lone (b.atR a (.code c:: .inLoop c::k)) cs w) b k cs e a' w'
theorem LWP.step{c:Code}{Q:Exit→Act→World→Prop}{a:Act}{w:World}(h:c.wpIn (FW ro) n P (Exit.then (LWP ro n P c Q) Q) a w):LWP ro n P c Q a w:=by
 intro b k cs j p q;obtain⟨e,m,i,g,d⟩:=h b (.inLoop c::k) cs j p q;cases e with
 |normal=>
  obtain⟨t,s,u,o,f⟩:=g b k cs j p q;exact⟨t,s,u,o,.of_steps (StepsIn.trans d (.one (fenced_calm p q rfl) stepR_inLoop)) f⟩
 |exit id=>exact⟨_,m,i,g,.pass (x:=.inLoop c) rfl (fun _ _=>.inl (by simp)) d⟩
 |goto l=>exact⟨_,m,i,g,.pass (x:=.inLoop c) rfl (fun _ _=>.inl (by simp)) d⟩
 |ret=>exact⟨_,m,i,g,.pass (x:=.inLoop c) rfl (fun _ _=>.inl (by simp)) d⟩
 |panic ch=>exact⟨_,m,i,g,.pass (x:=.inLoop c) rfl (fun _ _=>.inl (by simp)) d⟩
 |outgrown=>exact⟨_,m,i,g,.pass (x:=.inLoop c) rfl (fun _ _=>.inl (by simp)) d⟩
theorem LWP.loop{c:Code}{Q:Exit→Act→World→Prop}{a:Act}{w:World}(h:LWP ro n P c Q a w):(Code.loop c).wpIn (FW ro) n P Q a w:=by
 intro b k cs f g i;obtain⟨e,a',w',j,d⟩:=h b k cs f g i;exact⟨e,a',w',j,.of_steps (.one (fenced_calm g i rfl) stepR_loop) d⟩
theorem G4(r:cH):DecOk [] r:=fun _=>.inl rfl
theorem TJ(ops:Array Oper)(ls:Nat):left ops ls≤ops.size:=by
 unfold left;exact Nat.le_trans (List.length_filter_le ..) (by simp)
theorem lX(f:P.follows .mixedOrders=true){N id:Nat}{ops:Array Oper}{g:Bool}{q:Ann}{K:cH→ae→Prop}{r:cH}{a:Act}{w:World}{Q:Exit→Act→World→Prop}
  (b:Bo P N ops.toList g q K r w.heap)(k:Agree N r a)(p:∀c a w,¬Q (.panic c) a w)
  (i:∀r' a' w',Agree N r' a'→Fr (fun t=>lV t ops.toList=true) a w a' w'→K r' w'.heap→Q .normal a' w'):(Code.region id ops g).wpIn (FW ro) n P Q a w:=by
 have m:∀o∈ops.toList,∀d,o.dst=some d→lV d ops.toList=true:=fun o u d hd=>zA u hd
 cases g with
 |false=>
  have key:∀ek,DX P N ek ops.toList ops.toList [] K r w.heap→(Code.region id ops false).wpIn (FW ro) n P Q a w:=fun ek b=>by
   refine wpIn_region ?_;rw[List.range_eq_range',show ops.size=ops.toList.length from rfl]
   exact DW m i ops.toList 0 rfl [] r a w b k (G4 r) (Fr.refl _ a w)
  unfold Bo at b;simp only at b;split at b
  ·exact key _ b
  ·exact key _ b
 |true=>
  unfold Bo at b;simp only at b;generalize N5 ops.toList=ms at b;cases hm:Dh ops.toList ms with
  |false=>rw[hm]at b;exact b.elim
  |true=>
   rw[hm,cond_true]at b;refine wpIn_region_any f (NK (ms:=ms) _ [] _ _ _ ?_);have v:Tame w {w with drawn:=w.drawn+1}:=⟨rfl,rfl,rfl⟩;have s:Fr (fun t=>lV t ops.toList=true) a w a {w with drawn:=w.drawn+1}:=⟨v,rfl,fun _ _=>rfl⟩
   refine(Jy (Mg hm) m i (fun e a w=>?_) _ false 0 [] [] r a {w with drawn:=w.drawn+1} _ ops.size b k (G4 r) s LsRel.start (fun j x _ h=>by rw[(LsRel.start (ops:=ops)).bit,ge]at h;cases h) (fun x hx=>by cases hx)).1 rfl (TJ ops 0)
   cases e with
   |panic ch=>exact .inr (p _ a w)
   |_=>exact .inl fun c hc=>by cases hc
theorem Du(t:Nat)(x y:Code):gH t (.seq x y)=(bif gH t x then true else gH t y):=rfl
theorem Cd(t:Nat)(c:Operand)(x y:Code):gH t (.cond c x y)=(bif gH t x then true else gH t y):=rfl
theorem Ix{a b:Bool}:(bif a then true else b)=true↔a=true∨b=true:=by cases a<;>cases b<;>decide
theorem sB(u:P.follows .mixedOrders=true){N:Nat}(c:Code):∀(D:Ann) (Kn:cH→ae→Prop) (Kx:Ex→cH→ae→Prop) (r:cH) (a:Act) (w:World) (Q:Exit→Act→World→Prop),
  lB P N c D Kn Kx r w.heap→Agree N r a→(∀O a w,¬Q (.panic O) a w)→
  (∀g a' w',Agree N g a'→Fr (fun t=>gH t c=true) a w a' w'→Kn g w'.heap→Q .normal a' w')→
  (∀i g a' w',Agree N g a'→Fr (fun t=>gH t c=true) a w a' w'→Kx (.exit i) g w'.heap→Q (.exit i) a' w')→
  (∀g a' w',Agree N g a'→Fr (fun t=>gH t c=true) a w a' w'→Kx .ret g w'.heap→Q .ret a' w')→
  c.wpIn (FW ro) n P Q a w:=by
 induction c with
 |skip=>
  intro D Kn Kx r a w Q j s _ z _ _;exact wpIn_skip (z r a w s (Fr.refl ..) j)
 |region id ops dr=>
  intro D Kn Kx r a w Q j s A z _ _;cases D with
  |reg keep inner=>
   have j:Bo P N ops.toList dr inner (fun g K=>match Od g keep with|some r0=>Kn r0 K|none=>False) r w.heap:=j
   refine lX u j s A fun g a' w' M U hk=>?_
   split at hk
   ·rename_i r0 hr0
    refine z r0 a' w' ⟨M.size,fun t v hv=>M.look t v (GP hr0 t v hv).2⟩ U hk
   ·exact hk.elim
  |nil=>exact lX u (show Bo P N ops.toList dr (.nil) Kn r w.heap from j) s A z
  |node x y=>exact lX u (show Bo P N ops.toList dr (.node x y) Kn r w.heap from j) s A z
  |join st x y=>exact lX u (show Bo P N ops.toList dr (.join st x y) Kn r w.heap from j) s A z
  |loop st y=>exact lX u (show Bo P N ops.toList dr (.loop st y) Kn r w.heap from j) s A z
  |draw d=>exact lX u (show Bo P N ops.toList dr (.draw d) Kn r w.heap from j) s A z
  |kinds k v=>exact lX u (show Bo P N ops.toList dr (.kinds k v) Kn r w.heap from j) s A z
  |rf ks x y=>exact lX u (show Bo P N ops.toList dr (.rf ks x y) Kn r w.heap from j) s A z
 |seq x y ihx ihy=>
  intro D Kn Kx r a w Q j s A z hx F;have E:∀{a' w'},Fr (fun t=>gH t x=true) a w a' w'→Fr (fun t=>gH t (.seq x y)=true) a w a' w':=fun h=>h.mono fun t R=>by rw[Du,Ix];exact .inl R
  have C:∀{a' w' I H},Fr (fun t=>gH t x=true) a w a' w'→Fr (fun t=>gH t y=true) a' w' I H→Fr (fun t=>gH t (.seq x y)=true) a w I H:=
   fun h k=>(E h).trans (k.mono fun t R=>by rw[Du,Ix];exact .inr R)
  have plain:∀W S,lB P N x W (fun g K=>lB P N y S Kn Kx g K) Kx r w.heap→(Code.seq x y).wpIn (FW ro) n P Q a w:=fun W S j=>by
   refine wpIn_seq (ihx W _ Kx r a w _ j s (fun O a w=>A O a w) ?_ (fun i g a' w' p q o=>hx i g a' w' p (E q) o) (fun g a' w' p q o=>F g a' w' p (E q) o))
   intro r1 V Z G B L;exact ihy S Kn Kx r1 V Z Q L G A (fun g a' w' p q o=>z g a' w' p (C B q) o) (fun i g a' w' p q o=>hx i g a' w' p (C B q) o) (fun g a' w' p q o=>F g a' w' p (C B q) o)
  cases D with
  |join st W S=>
   have j:(match xS x with
      |none=>False
      |some m=>Join (T:=vR (yz st)) (fun t K=>lB P N y S Kn Kx (nB st (np (yz st) t) (wB m r)) K)
       fun J=>lB P N x W (fun g K=>Cg st g fun t=>J t K) Kx r w.heap):=j
   split at j
   ·exact j.elim
   ·rename_i m hm
    refine wpIn_seq (ihx W _ Kx r a w _ j.run s (fun O a w=>A O a w) ?_ (fun i g a' w' p q o=>hx i g a' w' p (E q) o) (fun g a' w' p q o=>F g a' w' p (E q) o))
    intro r1 V Z G B L;obtain⟨t,hst,hs2⟩:=wi L;have ha2:Agree N (nB st (np (yz st) t) (wB m r)) V:=G.zip hst (s.keep hm B G);exact ihy S Kn Kx _ V Z Q hs2 ha2 A (fun g a' w' p q o=>z g a' w' p (C B q) o) (fun i g a' w' p q o=>hx i g a' w' p (C B q) o) (fun g a' w' p q o=>F g a' w' p (C B q) o)
  |_=>exact plain _ _ j
 |cond c x y ihx ihy=>
  intro D Kn Kx r a w Q j s A z hx F;have j:(match dK r c with
   |some (.bool t)=>CondP t (lB P N x D.l Kn Kx r w.heap) (lB P N y D.r Kn Kx r w.heap)
   |_=>False):=j
  have E:∀{a' w'},Fr (fun t=>gH t x=true) a w a' w'→Fr (fun t=>gH t (.cond c x y)=true) a w a' w':=fun h=>h.mono fun t R=>by rw[Cd,Ix];exact .inl R
  have C:∀{a' w'},Fr (fun t=>gH t y=true) a w a' w'→Fr (fun t=>gH t (.cond c x y)=true) a w a' w':=fun h=>h.mono fun t R=>by rw[Cd,Ix];exact .inr R
  split at j
  ·rename_i t R
   refine wpIn_cond_split (l3 s R) (fun e=>?_) (fun e=>?_)
   ·exact ihx _ Kn Kx r a w Q (j.yes e) s A (fun g a' w' p q o=>z g a' w' p (E q) o) (fun i g a' w' p q o=>hx i g a' w' p (E q) o) (fun g a' w' p q o=>F g a' w' p (E q) o)
   ·exact ihy _ Kn Kx r a w Q (j.no e) s A (fun g a' w' p q o=>z g a' w' p (C q) o) (fun i g a' w' p q o=>hx i g a' w' p (C q) o) (fun g a' w' p q o=>F g a' w' p (C q) o)
  ·exact j.elim
 |block id b ih=>
  intro D Kn Kx r a w Q j s A z hx F;refine wpIn_block (ih D Kn _ r a w _ j s (fun O a w=>A O a w) z (fun i g a' w' p q o=>?_) F)
  simp only[Exit.inBlock]at o⊢;cases hi:bN i id with
  |true=>
   rw[hi,cond_true]at o;rw[if_pos (aZ hi)];exact z g a' w' p q o
  |false=>
   rw[hi,cond_false]at o;rw[if_neg (fun e=>by rw[e,rt]at hi;cases hi)]
   exact hx i g a' w' p q o
 |loop b ih=>
  intro D Kn Kx r a w Q j s A z hx F;cases D with
  |loop st S=>
   have j:(match xS b with
      |none=>False
      |some m=>Cg st r fun t0=>LoopP (T:=vR (yz st)) (fun Y t K=>lB P N b S (fun g h''=>Cg st g fun t'=>Y t' h'') Kx (nB st (np (yz st) t) (wB m r)) K) t0 w.heap):=j
   split at j
   ·exact j.elim
   ·rename_i m hm
    obtain⟨t0,hst0,hl⟩:=wi j;have h0:=hl.run (fun t K=>∀a' w',w'.heap=K→Agree N (nB st (np (yz st) t) (wB m r)) a'→Fr (fun t=>gH t b=true) a w a' w'→LWP ro n P b Q a' w') (fun t K hF a' w' hw M U=>by
     subst hw
     refine LWP.step (ih S _ Kx _ a' w' _ hF M (fun O a w=>A O a w) ?_ (fun i g I H p q o=>hx i g I H p (U.trans q) o) (fun g I H p q o=>F g I H p (U.trans q) o))
     intro r1 V Z G B L
     obtain⟨t1,X,hk1⟩:=wi L
     exact hk1 V Z rfl (G.zip X (s.keep hm (U.trans B) G)) (U.trans B))
    exact LWP.loop (h0 a w rfl (s.zip hst0 (s.keep hm (Fr.refl _ a w) s)) (Fr.refl _ a w))
  |_=>exact j.elim
 |rangeFunc f params assign body _ _=>intro D Kn Kx r a w Q j;exact j.elim
 |exit id=>
  intro D Kn Kx r a w Q j s A z hx F;exact wpIn_exit (hx id r a w s (Fr.refl ..) j)
 |scope b _=>intro D Kn Kx r a w Q j;exact j.elim
 |label l=>
  intro D Kn Kx r a w Q j s A z hx F;exact wpIn_label (z r a w s (Fr.refl ..) j)
 |goto l=>intro D Kn Kx r a w Q j;exact j.elim
 |ret=>
  intro D Kn Kx r a w Q j s A z hx F;exact wpIn_ret (F r a w s (Fr.refl ..) j)
 |refuse why=>intro D Kn Kx r a w Q j;exact j.elim
end Go.Lift
namespace Go.Lift
open Go
variable {P:Program}
theorem pY{N:Nat}{r:cH}{a:Act}{w:World}(d:Agree N r a):∀{l:List ResultVar} {K:List Value→Prop},nC P r w.heap l K→
  ∃vs,(∀g:ResultVar→Sem Value,(∀t,g (.tmp t)=pure (a.tmps.getD t undef))→(∀x t,g (.cell x t)=do loadVar t (←asAddr (a.tmps.getD x undef)))→(l.mapM g).run P w=.ok vs w)∧K vs
 | [],K,h=>⟨[],fun g _ _=>by rw[List.mapM_nil];rfl,h⟩
 | .tmp t::l,K,h=>by
  unfold nC at h;split at h
  ·rename_i v hv
   obtain⟨vs,i,f⟩:=pY d h;refine⟨v::vs,fun g e c=>?_,f⟩
   rw[List.mapM_cons,e];simp only[Sem.run_bind,Sem.run_pure,Result.andThen_ok];rw[i g e c];simp only[Result.andThen_ok,d.look t v hv]
  ·exact h.elim
 | .cell x t::l,K,h=>by
  unfold nC at h;split at h
  ·rename_i v hv
   obtain⟨u,S,k,n,m⟩:=Cl h;obtain⟨vs,i,f⟩:=pY d k;refine⟨u::vs,fun g e c=>?_,f⟩
   rw[List.mapM_cons,c];have j:(do loadVar t (←asAddr (a.tmps.getD x undef)):Sem Value).run P w=.ok u w:=by
    rw[d.look x v hv];unfold JI at h;cases v with
    |pointer p=>cases p with
     |none=>exact h.elim
     |some b=>exact m w n
    |_=>exact h.elim
   simp only[Sem.run_bind]at j⊢;rw[j];simp only[Result.andThen_ok];rw[i g e c];simp only[Sem.run_pure,Result.andThen_ok]
  ·exact h.elim
theorem Gx(ks:List Kind)(t:vR ks):(if h:(np ks t).toArray.size=1 then(np ks t).toArray[0]else Value.tuple (np ks t).toArray)=D9 ks (np ks t):=by
 match ks,t with
 | [],t=>rfl
 | [k],t=>rfl
 |k::l::ks,(x,t)=>
  have:(np (k::l::ks) (x,t)).length=(k::l::ks).length:=sO _ _;rw[dif_neg (by simp only[dy,this,az];omega)];rfl
theorem vC:∀(vs:List Value) (i t:Nat) (v:Value),kw (qd i vs) t=some v→i≤t∧vs[t-i]? =some v
 | [],i,t,v,h=>by cases h
 |u::vs,i,t,v,h=>by
  by_cases e:i=t
  ·subst e
   rw[show qd i (u::vs)=(i,u)::qd (i+1) vs from rfl,iK]at h
   cases h;exact⟨Nat.le_refl _,by simp⟩
  ·rw[show qd i (u::vs)=(i,u)::qd (i+1) vs from rfl,g7 u _ e]at h
   obtain⟨b,a⟩:=vC vs (i+1) t v h;refine⟨by omega,?_⟩;rw[show t-i=(t-(i+1))+1 by omega,List.getElem?_cons_succ]
   exact a
theorem HE.intro(j:P.follows .mixedOrders=true){f:FuncId}{fn:Func}{c:Code}{p:Ann}{args:List Value}{ks:List Kind}{K:vR ks→ae→Prop}{h:ae}
  (x:P.funcs[f]? =some fn) (s:fn.body=some c) (b:∀(args:Array Value) (w:World),(callFunc f args).run P w=.ok (.enter f args) w) (q:args.length≤fn.ntmps)
  (A:NV P fn c p args ks K h):HE P f args ks K h:=by
 refine⟨fun w u=>⟨b,?_⟩⟩
 subst u;refine(callsIn_wide (n:=0)).1 (callsIn_of_wp (F:=FW none) x s trivial ?_ rfl);have B:Agree fn.ntmps (qd 0 args) {tmps:=args.toArray++qQ (fn.ntmps-args.toArray.size) undef,defers:= []}:=by
  refine⟨by simp;omega,fun t v hv=>?_⟩
  obtain⟨_,k⟩:=vC args 0 t v hv;simp only[fc]at k;have i:=(bm.1 k).1;simp[Array.getElem?_append,i];rw[af i]at k;cases k;rfl
 have g:∀o a' (w':World),Agree fn.ntmps o a'→Fr (fun t=>gH t c=true) {tmps:=args.toArray++qQ (fn.ntmps-args.toArray.size) undef,defers:= []} w a' w'→
   nC P o w'.heap fn.results.toList (fun vs=>CV ks vs fun t=>K t w'.heap)→
   a'.defers= []∧∃v,(results fn a'.tmps).run P w'=.ok v w'∧(Tame w w'∧∃t:vR ks,Ending.returned v=.returned (D9 ks (np ks t))∧K t w'.heap):=fun o a' w' m d y=>by
  obtain⟨vs,e,hd⟩:=pY m y;obtain⟨t,rfl,z⟩:=rO hd;refine⟨d.defers,_,?_,d.tame,t,rfl,z⟩;unfold results;rw[mY];simp only[Sem.run_bind,Sem.run_map];rw[e _ (fun _=>rfl) (fun _ _=>rfl)]
  simp only[Result.andThen_ok,Sem.run_pure];rw[←Gx]
 exact sB j c p _ _ _ _ w _ A B (fun C a w h=>h.2.2.elim fun _ h=>by cases h.1) g (fun _ _ _ _ _ _ h=>h.elim) g
theorem HC.intro(b:P.follows .mixedOrders=true){f:FuncId}{fn:Func}{c:Code}{g:Ann}{args:List Value}{ks:List Kind}{K:vR ks→ae→Prop}{h:ae}
 (i:P.funcs[f]? =some fn) (e:fn.body=some c) (a:∀(args:Array Value) (w:World),(callFunc f args).run P w=.ok (.enter f args) w) (d:args.length≤fn.ntmps)
 (j:NV P fn c g args ks K h):HC P f args ks K h:=(HE.intro b i e a d j).hc
theorem M2{N:Nat}{args:List Value}(c:args.length≤N):Agree N (qd 0 args) {tmps:=args.toArray++qQ (N-args.toArray.size) undef,defers:= []}:=by
 refine⟨by simp;omega,fun t v hv=>?_⟩
 obtain⟨_,b⟩:=vC args 0 t v hv;simp only[fc]at b;have a:=(bm.1 b).1;simp[Array.getElem?_append,a];rw[af a]at b;cases b;rfl
theorem JD{N:Nat}{fn:Func}{ks:List Kind}{K:vR ks→ae→Prop}{c:cH}{a':Act}{w':World}(b:Agree N c a')(e:nC P c w'.heap fn.results.toList (fun vs=>CV ks vs fun t=>K t w'.heap)):
  ∃t:vR ks,(results fn a'.tmps).run P w'=.ok (D9 ks (np ks t)) w'∧K t w'.heap:=by
 obtain⟨vs,a,hd⟩:=pY b e;obtain⟨t,rfl,d⟩:=rO hd;refine⟨t,?_,d⟩;unfold results;rw[mY];simp only[Sem.run_bind,Sem.run_map];rw[a _ (fun _=>rfl) (fun _ _=>rfl)]
 simp only[Result.andThen_ok,Sem.run_pure];rw[←Gx]
end Go.Lift
namespace Go.Lift
open Go
variable {P:Program}
abbrev m0(D:Nat):Deferred:={target:=.collected D,args:= #[]}
theorem ES{N:Nat}:∀{ps:List Nat} {vs:List Value} {r:cH} {tmps:Array Value},yI N ps=true→Agree N r {tmps:=tmps,defers:= []}→
  Agree N (SS ps vs r) {tmps:=(ps.zip vs).foldl (fun t x=>t.setIfInBounds x.1 x.2) tmps,defers:= []}
 | [],vs,r,tmps,_,h=>by cases vs<;>exact h
 |i::ps,[],r,tmps,_,h=>h
 |i::ps,v::vs,r,tmps,a,h=>by
  have a:(Nat.blt i N&&yI N ps)=true:=a;rw[bE]at a;have b:i<N:=by simpa using a.1
  have:=h.put i v b;exact ES (tmps:=tmps.setIfInBounds i v) a.2 this
theorem DK(w:World)(o:Obj):Tame w (w.alloc o):=⟨rfl,rfl,rfl⟩
theorem oq(w:World)(b:Nat)(o:Obj):Tame w (w.putObj b o):=⟨rfl,rfl,rfl⟩
theorem JO(w:World)(b:Nat)(o:Obj):(w.putObj b o).heap=w.heap.setIfInBounds b o:=rfl
theorem OG(ps:Array Nat)(vs:List Value)(t:Array Value):(ps.zip vs.toArray).foldl (fun t (x:Nat×Value)=>t.setIfInBounds x.1 x.2) t=(ps.toList.zip vs).foldl (fun t x=>t.setIfInBounds x.1 x.2) t:=by
 obtain⟨l⟩:=ps;simp
theorem CS(B:P.follows .mixedOrders=true){n N:Nat}{g:Operand}{ps:Array Tmp}{assign body:Code}{aa ab:Ann}{ks:List Kind}{fv:Value}{r:cH}{a:Act}{w:World}{Q:Exit→Act→World→Prop}
  {KN:ae→Prop}{KX:Nat→ae→Prop}{KR:ae→Prop}(U:yI N ps.toList=true)(L:ps.toList.length=ks.length)(hg:dK r g=some fv)(ha:Agree N r a)
  (hR:RangeP P fv ks w.heap (fun GA bz x k h'=>LL P N ps.toList ks assign body (.node aa ab) r (w.heap.size+1) GA bz x k h') KN KX KR)
  (hn:∀w',Tame w w'→KN w'.heap→Q .normal {a with defers:=m0 w.heap.size::a.defers} w')
  (hx:∀i w',Tame w w'→KX i w'.heap→Q (.exit i) {a with defers:=m0 w.heap.size::a.defers} w')
  (hr:∀w',Tame w w'→KR w'.heap→Q .ret {a with defers:=m0 w.heap.size::a.defers} w'):(Code.rangeFunc g ps assign body).wpIn (FW none) n P Q a w:=by
 refine wpIn_rangeFunc fun fn _=>?_
 obtain⟨lo,m⟩:∃lo:LoopState→Option Ex→Obj,lo=fun s j=>.loop {state:=s,pending:=Ic j,fn,tmps:=a.tmps,params:=ps,assign,body,defers:=w.heap.size}:=⟨_,rfl⟩
 have hj:∀j:Option Ex,(Ic j).isNone=j.isNone:=fun j=>by rcases j with _|⟨_|_⟩<;>rfl
 obtain⟨f,first,cap,rfl,he⟩:=hR.run lo (fun s j=>⟨_,by rw[m]⟩) (fun x h' K q z=>by
  refine⟨.inr ⟨_,rfl,⟨fun I X=>?_⟩⟩⟩
  subst X
  rw[m]at q
  have hy:=run_yield (P:=P) (args:=(np ks x).toArray) q (by simp only[dy,sO];rw[←L];rfl)
  refine⟨_,_,_,_,hy,fun c cs=>?_⟩
  have hA:Agree N (SS ps.toList (np ks x) r) {tmps:=(ps.zip (np ks x).toArray).foldl (fun t (x:Nat×Value)=>t.setIfInBounds x.1 x.2) a.tmps,defers:= []}:=by
   rw[OG]
   exact ES U ⟨ha.size,ha.look⟩
  have p:∀j:Option Ex,∀W:World,Tame I W→(W.heap[w.heap.size+1]? =some (lo .busy none)∧K j.isNone (W.heap.setIfInBounds (w.heap.size+1) (lo (if j.isNone then .ready else .done) j)))→
    ∃v w',(Instr.endRound (w.heap.size+1) (Ic j)).run P W=.ok v w'∧∃b,Ending.returned v=.returned (.bool b)∧Tame I w'∧K b w'.heap:=by
   rintro j W M ⟨h1,S⟩
   rw[m]at h1
   have:=run_endRound (P:=P) (Ic j) h1
   refine⟨_,_,this,_,rfl,M.trans (oq ..),?_⟩
   rw[m]at S
   rw[hj]
   exact S
  have:=roundIn_of_wpIn (F:=FW none) (n:=0) (P:=P) (l:=w.heap.size+1) (f:=fn) (assign:=assign) (body:=body) (w:=I)
   (tmps:=(ps.zip (np ks x).toArray).foldl (fun t (x:Nat×Value)=>t.setIfInBounds x.1 x.2) a.tmps)
   (R:=fun e w'=>∃b,e=.returned (.bool b)∧Tame I w'∧K b w'.heap) trivial (by
    refine sB (ro:=some (w.heap.size+1)) B assign aa _ _ _ _ I _ z hA (fun ch a w h=>h) ?_ (fun i r' a' w' _ _ h=>h.elim) (fun r' a' w' _ _ h=>h.elim)
    rintro r2 a2 V Y E ⟨u,C⟩
    rw[m]at u
    refine⟨_,run_beginRound u rfl,?_⟩
    have G:∀o,o=lo .busy none→V.heap.setIfInBounds (w.heap.size+1) o=V.heap.setIfInBounds (w.heap.size+1) (lo .busy none):=fun o T=>by rw[T]
    refine sB (ro:=some (w.heap.size+1)) B body ab (fun _ S=>_) (fun e _ S=>_) _ _ (V.putObj (w.heap.size+1) _) _ (by
     rw[JO,G _ (by rw[m])];exact C) Y (fun ch a w h=>h) ?_ ?_ ?_
    ·rintro r3 a3 H J y O
     exact p none H ((E.tame.trans (oq ..)).trans y.tame) O
    ·rintro i r3 a3 H J y O
     exact p (some (.exit i)) H ((E.tame.trans (oq ..)).trans y.tame) O
    ·rintro r3 a3 H J y O
     exact p (some .ret) H ((E.tame.trans (oq ..)).trans y.tame) O)
  obtain⟨e,w',⟨b,rfl,M,hK⟩,Z⟩:=this.2 c cs (fun d h=>by simp[FW]at h)
  exact⟨b,w',M,hK,Z.steps⟩)
 have A:=he.run ((w.alloc (.deferred (some []))).alloc (lo .ready none)) rfl;refine⟨w.heap.size+1,[m0 w.heap.size],(w.alloc (.deferred (some []))).alloc (lo .ready none),{target:=.fn (.func f) cap,args:=first++ #[.func (.yield (w.heap.size+1)) #[] #[]]},(w.alloc (.deferred (some []))).alloc (lo .ready none),f,
  first++ #[.func (.yield (w.heap.size+1)) #[] #[]]++cap,(w.alloc (.deferred (some []))).alloc (lo .ready none),?_,?_,fun _ _=>trivial,?_,fun h=>by simp[FW]at h,?_⟩
 ·rw[m];exact run_enterLoop_outer fn a.tmps ps assign body
 ·have hev:=l3 ha hg
  simp[resolve,hev,Deferred.ofValue,Sem.run_pure];rfl
 ·simp[invoke,A.1]
 ·refine EJ ?_
  have e:(first.toList++ [Value.func (.yield (w.heap.size+1)) #[] #[]]++cap.toList).toArray=first++ #[.func (.yield (w.heap.size+1)) #[] #[]]++cap:=by apply Array.ext';simp
  rw[←e];refine A.2.mono ?_;rintro e w' ⟨M,t,rfl,s,j,Z,q,p⟩;have ht':Tame w w':=((DK w _).trans (DK _ _)).trans M;rw[m]at q;refine⟨_,_,run_endLoop q Z,?_⟩;have D:∀o,Tame w (w'.putObj (w.heap.size+1) o):=fun o=>ht'.trans (oq ..)
  have G:∀o,o=lo .exhausted j→(w'.putObj (w.heap.size+1) o).heap=w'.heap.setIfInBounds (w.heap.size+1) (lo .exhausted j):=fun o T=>by rw[T];rfl
  rcases j with _|⟨i|_⟩
  ·exact hn _ (D _) (by rw[G _ (by rw[m])];exact p)
  ·exact wpIn_exit (hx i _ (D _) (by rw[G _ (by rw[m])];exact p))
  ·exact wpIn_ret (hr _ (D _) (by rw[G _ (by rw[m])];exact p))
theorem HJ(C:P.follows .mixedOrders=true){n N:Nat}(c:Code):∀(m:Ann) (Kn:List Nat→cH→ae→Prop) (Kx:Ex→List Nat→cH→ae→Prop) (ms:List Nat) (r:cH) (a:Act) (w:World) (Q:Exit→Act→World→Prop),
  yE P N c m Kn Kx ms r w.heap→Agree N r a→a.defers=ms.map m0→(∀D a w,¬Q (.panic D) a w)→
  (∀d j a' w',Agree N j a'→a'.defers=d.map m0→Tame w w'→Kn d j w'.heap→Q .normal a' w')→
  (∀i d j a' w',Agree N j a'→a'.defers=d.map m0→Tame w w'→Kx (.exit i) d j w'.heap→Q (.exit i) a' w')→
  (∀d j a' w',Agree N j a'→a'.defers=d.map m0→Tame w w'→Kx .ret d j w'.heap→Q .ret a' w')→
  c.wpIn (FW none) n P Q a w:=by
 have plain:∀(c:Code) (m:Ann) (Kn:List Nat→cH→ae→Prop) (Kx:Ex→List Nat→cH→ae→Prop) (ms:List Nat) (r:cH) (a:Act) (w:World) (Q:Exit→Act→World→Prop),
  lB P N c m (Kn ms) (fun e=>Kx e ms) r w.heap→Agree N r a→a.defers=ms.map m0→(∀D a w,¬Q (.panic D) a w)→
  (∀d j a' w',Agree N j a'→a'.defers=d.map m0→Tame w w'→Kn d j w'.heap→Q .normal a' w')→
  (∀i d j a' w',Agree N j a'→a'.defers=d.map m0→Tame w w'→Kx (.exit i) d j w'.heap→Q (.exit i) a' w')→
  (∀d j a' w',Agree N j a'→a'.defers=d.map m0→Tame w w'→Kx .ret d j w'.heap→Q .ret a' w')→
  c.wpIn (FW none) n P Q a w:=by
  intro c m Kn Kx ms r a w Q f p hd A v hx u;exact sB C c m _ _ r a w Q f p A (fun j a' w' q o s=>v ms j a' w' q (o.defers.trans hd) o.tame s) (fun i j a' w' q o s=>hx i ms j a' w' q (o.defers.trans hd) o.tame s)
   (fun j a' w' q o s=>u ms j a' w' q (o.defers.trans hd) o.tame s)
 induction c with
 |skip=>intro m Kn Kx ms r a w Q f;exact plain _ m Kn Kx ms r a w Q f
 |region id ops dr=>intro m Kn Kx ms r a w Q f;exact plain _ m Kn Kx ms r a w Q f
 |seq x y ihx ihy=>
  intro m Kn Kx ms r a w Q f p hd A v hx u;have f:(bif (bif rJ x then true else rJ y)then yE P N x m.l (fun ms j z=>yE P N y m.r Kn Kx ms j z) Kx ms r w.heap
   else lB P N (.seq x y) m (Kn ms) (fun e=>Kx e ms) r w.heap):=f
  cases hb:(bif rJ x then true else rJ y)with
  |false=>rw[hb]at f;exact plain _ _ _ _ _ _ _ _ _ f p hd A v hx u
  |true=>
   rw[hb,cond_true]at f;refine wpIn_seq (ihx m.l _ Kx ms r a w _ f p hd (fun D a w=>A D a w) ?_ hx u)
   intro K T O R I J F L;exact ihy m.r Kn Kx K T O R Q L I J A (fun d j a' w' q o s B=>v d j a' w' q o (F.trans s) B) (fun i d j a' w' q o s B=>hx i d j a' w' q o (F.trans s) B)
    (fun d j a' w' q o s B=>u d j a' w' q o (F.trans s) B)
 |cond c x y ihx ihy=>
  intro m Kn Kx ms r a w Q f p hd A v hx u;have f:(bif (bif rJ x then true else rJ y)then
    (match dK r c with
     |some (.bool t)=>CondP t (yE P N x m.l Kn Kx ms r w.heap) (yE P N y m.r Kn Kx ms r w.heap)
     |_=>False)
   else lB P N (.cond c x y) m (Kn ms) (fun e=>Kx e ms) r w.heap):=f
  cases hb:(bif rJ x then true else rJ y)with
  |false=>rw[hb]at f;exact plain _ _ _ _ _ _ _ _ _ f p hd A v hx u
  |true=>
   rw[hb,cond_true]at f;split at f
   ·rename_i t E
    exact wpIn_cond_split (l3 p E) (fun e=>ihx _ Kn Kx ms r a w Q (f.yes e) p hd A v hx u) (fun e=>ihy _ Kn Kx ms r a w Q (f.no e) p hd A v hx u)
   ·exact f.elim
 |block id b ih=>
  intro m Kn Kx ms r a w Q f p hd A v hx u;have f:(bif rJ b then yE P N b m Kn (fun e ms j z=>match e with
    | .exit i=>bif bN i id then Kn ms j z else Kx (.exit i) ms j z
    | .ret=>Kx .ret ms j z) ms r w.heap
   else lB P N (.block id b) m (Kn ms) (fun e=>Kx e ms) r w.heap):=f
  cases hb:rJ b with
  |false=>rw[hb]at f;exact plain _ _ _ _ _ _ _ _ _ f p hd A v hx u
  |true=>
   rw[hb,cond_true]at f;refine wpIn_block (ih m Kn _ ms r a w _ f p hd (fun D a w=>A D a w) v (fun i d j a' w' q o s B=>?_) u)
   simp only[Exit.inBlock]at B⊢;cases hi:bN i id with
   |true=>
    rw[hi,cond_true]at B;rw[if_pos (aZ hi)];exact v d j a' w' q o s B
   |false=>
    rw[hi,cond_false]at B;rw[if_neg (fun e=>by rw[e,rt]at hi;cases hi)]
    exact hx i d j a' w' q o s B
 |loop b ih=>intro m Kn Kx ms r a w Q f;exact plain _ m Kn Kx ms r a w Q f
 |rangeFunc g ps assign body _ _=>
  intro m Kn Kx ms r a w Q f p hd A v hx u;cases m with
  |rf ks aa ab=>
   have f:(bif yI N ps.toList&&bN ps.toList.length ks.length then
    (match dK r g with
     |some fv=>RangeP P fv ks w.heap (fun GA S x k z=>LL P N ps.toList ks assign body (.node aa ab) r (w.heap.size+1) GA S x k z)
       (fun z=>Kn (w.heap.size::ms) r z) (fun i z=>Kx (.exit i) (w.heap.size::ms) r z) (fun z=>Kx .ret (w.heap.size::ms) r z)
     |none=>False)else False):=f
   cases hb:(yI N ps.toList&&bN ps.toList.length ks.length)with
   |false=>rw[hb]at f;exact f.elim
   |true=>
    rw[hb,cond_true]at f;rw[bE]at hb;split at f
    · rename_i fv hfv
      have H:Agree N r {a with defers:=m0 w.heap.size::a.defers}:=⟨p.size,p.look⟩;have M:({a with defers:=m0 w.heap.size::a.defers}:Act).defers=(w.heap.size::ms).map m0:=by rw[List.map_cons,←hd]
      exact CS C hb.1 (aZ hb.2) hfv p f (fun w' E G=>v _ r _ w' H M E G) (fun i w' E G=>hx i _ r _ w' H M E G) (fun w' E G=>u _ r _ w' H M E G)
    · exact f.elim
  |_=>exact f.elim
 |exit id=>intro m Kn Kx ms r a w Q f;exact plain _ m Kn Kx ms r a w Q f
 |scope b _=>intro m Kn Kx ms r a w Q f;exact f.elim
 |label l=>intro m Kn Kx ms r a w Q f;exact plain _ m Kn Kx ms r a w Q f
 |goto l=>intro m Kn Kx ms r a w Q f;exact f.elim
 |ret=>intro m Kn Kx ms r a w Q f;exact plain _ m Kn Kx ms r a w Q f
 |refuse why=>intro m Kn Kx ms r a w Q f;exact f.elim
theorem yB{fn:Func}{ks:List Kind}{K:vR ks→ae→Prop}{N:Nat}{n:Nat}{r:cH}{a:Act}{c:World}(d:Agree N r a):∀(ms:List Nat) (w:World),Tame c w→
  NT ms (fun f=>nC P r f fn.results.toList fun vs=>CV ks vs fun t=>K t f) w.heap→
  LeavesInM (FW none) n P fn a.tmps (fun e w'=>Tame c w'∧∃t:vR ks,e=.returned (D9 ks (np ks t))∧K t w'.heap) (ms.map m0) .returning w
 | [],w,ht,h=>by
  obtain⟨t,b,g⟩:=JD d h;exact⟨_,b,ht,t,rfl,g⟩
 |D::ms,w,ht,h=>by
  refine⟨by simp,.inl ⟨D,_,rfl,run_takeDeferred h.1,?_⟩⟩;exact yB d ms (w.putObj D (.deferred none)) (ht.trans (oq ..)) h.2
theorem HE.introM(k:P.follows .mixedOrders=true){f:FuncId}{fn:Func}{c:Code}{q:Ann}{args:List Value}{ks:List Kind}{K:vR ks→ae→Prop}{h:ae}
  (x:P.funcs[f]? =some fn) (u:fn.body=some c) (i:∀(args:Array Value) (w:World),(callFunc f args).run P w=.ok (.enter f args) w) (m:args.length≤fn.ntmps)
  (y:LM P fn c q args ks K h):HE P f args ks K h:=by
 refine⟨fun w v=>⟨i,?_⟩⟩
 subst v;refine(callsIn_wide (n:=0)).1 (callsIn_of_wp_marks (F:=FW none) x u trivial ?_ rfl);refine wpIn_mono (Q:=fun e a w'=>(∀o,e≠ .panic o)∧bodyPostM (FW none) 0 P fn (fun e w'=>Tame w w'∧∃t:vR ks,e=.returned (D9 ks (np ks t))∧K t w'.heap) e a w') ?_ fun e a w h=>h.2
 refine HJ k c q _ _ [] _ _ w _ y (M2 m) rfl (fun o a w h=>h.1 o rfl) ?_ (fun _ _ _ _ _ _ _ _ h=>h.elim) ?_
 ·intro g s a' w' b d j p
  refine⟨(fun _ e=>by cases e),?_⟩
  show LeavesInM _ _ _ _ _ _ a'.defers _ _
  rw[d];exact yB b g w' j p
 ·intro g s a' w' b d j p
  refine⟨(fun _ e=>by cases e),?_⟩
  show LeavesInM _ _ _ _ _ _ a'.defers _ _
  rw[d];exact yB b g w' j p
theorem HC.introM(b:P.follows .mixedOrders=true){f:FuncId}{fn:Func}{c:Code}{g:Ann}{args:List Value}{ks:List Kind}{K:vR ks→ae→Prop}{h:ae}
 (i:P.funcs[f]? =some fn) (e:fn.body=some c) (a:∀(args:Array Value) (w:World),(callFunc f args).run P w=.ok (.enter f args) w) (d:args.length≤fn.ntmps)
 (j:LM P fn c g args ks K h):HC P f args ks K h:=(HE.introM b i e a d j).hc
end Go.Lift
namespace Go.Lift
open Go
def AppP(z:Option (List Value))(e b:Nat)(t:TypeId)(a:Option Addr)(sl d c:Nat)(xs:List Value)(h:ae)(K:SliceV→ae→Prop):Prop:=
 (sl+c≤d→uD h a (sl*e) xs∧cl xs=true∧K ⟨a,sl+c,d⟩ (ga h a (sl*e) xs))∧
 (d<sl+c→∃old z',SRow h a (sl*e) old∧z=some z'∧0<b∧Builtin.nextslicecap (sl+c) d*b≤2^48∧
  ∀nc,sl+c≤nc→K ⟨some (aC h),sl+c,nc⟩ (hnew h (old++xs++dH (nc-(sl+c)) z') t))
end Go.Lift
