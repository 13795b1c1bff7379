/- A part of the proof that the named laws of this program answer true, whatever the input. -/
import Derived.Test.YtfmnhpbjeapjaaaGreatLift1
import Derived.BigFrameIn
open Array renaming getD_eq_getD_getElem?→cK,getElem?_toList→aR,getElem?_setIfInBounds_ne→dU,replicate→ll,getElem?_eq_some_iff→bT,getElem?_eq_getElem→ft,getElem?_eq_none→iZ,mapM_eq_mapM_toList→kA,ext'→cG
open Bool renaming eq_false_iff→mz,or_eq_true→g3,and_eq_true→aS,not_eq_true'→my,or_eq_false_iff→jV
open List renaming mem_of_getElem?→fU,length_cons→az,mem_cons→au,getElem?_cons_zero→cn,getElem?_eq_getElem→ag,any_eq_true→bZ,getElem?_eq_some_iff→aV,mem_cons_of_mem→aI,mem_cons_self→ay,range→dH,filter_cons→cD,mem_singleton→aw,size_toArray→cT
open Nat renaming blt→ud,beq→bj,eq_of_beq_eq_true→aJ,land→hO,lor→cC,testBit_and→jf,succ→eP,zero_add→aC,beq_refl→pd,lt_or_ge→cd,pred→tQ,sub_zero→eH
open Option renaming some→bE
namespace Go.Lift
open Go
variable {P:Program} {ro:Option Nat} {n:Nat}
def FW(ro:Option Nat):Fence:={fn:=fun _=>True,depth:=none,alive:=false,round:=ro}
theorem Jy(m:Machine):m.fenced P (FW ro):=by
 intro g _;exact⟨fun h=>by simp[FW]at h,.inl trivial,fun _ _=>trivial,fun d h=>by simp[FW]at h⟩
theorem uV{m a:Machine}(h:Steps P m a):StepsIn (Machine.fenced P (FW ro)) P m a:=(StepsIn.of_steps h).mono fun m _=>Jy m
theorem Bk{k:Nat}{f:FuncId}{args:Array Value}{w:World}{R:Ending→World→Prop}(h:Calls P f args w R):CallsIn (FW ro) k P f args w R:=by
 refine⟨trivial,fun cs _=>?_⟩
 obtain⟨e,w',fr,b,hc,a,d⟩:=h cs;refine⟨e,w',fr,b,?_,a,d⟩;cases e with
 |returned v=>exact uV hc
 |panicked c=>exact uV hc
 |outgrown=>exact hc
theorem np{o:Oper}{a:Act}{w:World}{K:WK}{next:Act→World→Prop}{Q:Exit→Act→World→Prop}(hd:∀c,o.op≠ .defer c)(h:FU P (execOp a.eval o) K w)
  (j:∀v w',Tame w w'→K v w'.heap→next (a.put o.dst v) w'):o.wpIn (FW ro) n P a w next Q:=by
 refine⟨fun _ _=>trivial,?_⟩
 rw[Oper.semAt_eq _ _ _ hd];rcases h with⟨v,w',g,d,i⟩|⟨w',g,d,i⟩|⟨f,args,g,hc⟩|⟨l,fn,tmps,assign,body,g,hc⟩
 ·rw[g];exact j v w' d i
 ·rw[g];exact j undef w' d i
 ·rw[g]
  refine⟨fun h=>by simp[FW]at h,Bk (hc.mono ?_)⟩
  rintro e w' ⟨d,v,rfl,i⟩;exact j v w' d i
 ·rw[g]
  refine⟨fun h=>by simp[FW]at h,trivial,fun c cs _=>?_⟩
  obtain⟨b,w',d,i,k⟩:=hc c cs;exact⟨.returned (.bool b),w',j _ w' d i,uV k⟩
theorem qm{N:Nat}{o:Oper}{v:Value}{r:cg}{K:cg→Prop}{a:Act}{d:rD}{dv:DV}(h:vy N o v r K)(c:Agree N r a)(hd:DecOk d r)(i:Cq dv v):
  ∃r',K r'∧Agree N r' (a.put o.dst v)∧DecOk (o8 d o dv) r':=by
 unfold vy at h;unfold o8;cases ho:o.dst with
 |none=>rw[ho]at h;exact⟨r,h,c,hd⟩
 |some t=>
  rw[ho]at h;simp only at h;cases hb:ud t N with
  |false=>rw[hb]at h;exact h.elim
  |true=>
   rw[hb]at h;have b:t<N:=by simpa using hb
   refine⟨_,h,c.put t v b,fun s=>?_⟩
   by_cases e:t=s
   ·subst e
    have:oI ((t,dv)::d) t=dv:=by simp[oI]
    rw[this];exact .inr ⟨v,gf t v r,i⟩
   ·have f:oI ((t,dv)::d) s=oI d s:=by
     have:bj t s=false:=mz.2 fun g=>e (aJ g)
     show(bif bj t s then dv else oI d s)=_
     rw[this];rfl
    rw[f,fL v r e];exact hd s
theorem yV{ek:Option (Kind×Kind)}{o:Op}{r:cg}{K:RK}{h:ac}(a:xC P ek o r K h):∀c,o≠ .defer c:=by
 intro c e;subst e;exact a
theorem sx{o:Oper}{r:cg}{K:WK}{h:ac}(a:BS P o r K h):∀c,o.op≠ .defer c:=by
 intro c e;unfold BS at a;rw[e]at a;exact a
theorem Pd{d:rD}{o:Op}(h:sd P o=false):Ew d o=.x:=by
 cases o<;>first|rfl|(simp[sd]at h)
theorem I6{N:Nat}{ek:Option (Kind×Kind)}{o:Oper}{r:cg}{K:cg→ac→Prop}{a:Act}{w:World}{d:rD}{next:Act→World→Prop}{Q:Exit→Act→World→Prop}
  (b:Oo P N ek o r K w.heap)(i:Agree N r a)(hd:DecOk d r)
  (p:∀v w' e,Tame w w'→K e w'.heap→Agree N e (a.put o.dst v)→DecOk (o8 d o (Ew d o.op)) e→next (a.put o.dst v) w'):o.wpIn (FW ro) n P a w next Q:=by
 unfold Oo at b;cases hq:sd P o.op with
 |true=>
  rw[hq,cond_true]at b;obtain⟨v,S,m,q,k,s⟩:=xS i b d hd;refine np (K:=fun u h'=>u=v∧h'=w.heap) (yV b) (.inl ⟨v,w,s w q,Tame.refl w,rfl,rfl⟩) ?_
  rintro u w' j ⟨rfl,hh⟩;obtain⟨e,c,f,g⟩:=qm m i hd k;exact p u w' e j (by rw[hh];exact c) f g
 |false=>
  rw[hq,cond_false]at b;refine np (sx b) (xG i b) ?_;intro v w' j m;obtain⟨e,c,f,g⟩:=qm m i hd (dv:=Ew d o.op) (by rw[Pd hq];trivial);exact p v w' e j c f g
theorem C8{t:Array Value}{i:Nat}{b:Bool}(h:t.getD i undef=.bool b):t[i]? =some (.bool b):=by
 rw[cK]at h;cases hc:t[i]? with
 |none=>rw[hc]at h;simp[undef]at h
 |some v=>rw[hc]at h;simp at h;rw[h]
theorem Hu{t:Array Value}{i:Nat}(h:t.getD i undef=undef):t[i]? =none∨t[i]? =some undef:=by
 rw[cK]at h;cases hc:t[i]? with
 |none=>exact .inl rfl
 |some v=>rw[hc]at h;simp at h;rw[h];exact .inr rfl
theorem kO{N:Nat}{ops:Array Oper}{d:rD}{o:Oper}{b:Bool}{r:cg}{a:Act}(h:gK ops.toList d o=some b)(m:Agree N r a)(hd:DecOk d r):
  Region.wanted o (yielded ops a.tmps)=b:=by
 unfold gK at h;unfold Region.wanted;cases hg:o.guard with
 |none=>rw[hg]at h;simp only[bE.injEq]at h;exact h
 |some g=>
  obtain⟨j,c⟩:=g;rw[hg]at h;simp only[aR]at h;simp only;cases hj:ops[j]? with
  |none=>rw[hj]at h;cases h
  |some oj=>
   rw[hj]at h;simp only at h;cases ht:oj.dst with
   |none=>rw[ht]at h;cases h
   |some t=>
    rw[ht]at h;simp only at h;have n:yielded ops a.tmps j=(match a.tmps[t]? with|some (.bool b)=>some b|_=>none):=by
     unfold yielded;simp[hj,ht];rfl
    rw[n];rcases hd t with hx|⟨v,p,k⟩
    ·rw[hx]at h;cases h
    ·have i:=m.look t v p
     cases hdl:oI d t with
     |x=>rw[hdl]at h;cases h
     |t=>
      rw[hdl]at h k;simp only[bE.injEq]at h;subst h;have:v=.bool true:=k;subst this;rw[C8 i];cases c<;>rfl
     |f=>
      rw[hdl]at h k;simp only[bE.injEq]at h;subst h;have:v=.bool false:=k;subst this;rw[C8 i];cases c<;>rfl
     |u=>
      rw[hdl]at h k;simp only[bE.injEq]at h;subst h;have:v=undef:=k;subst this;rcases Hu i with e|e<;>rw[e]<;>cases c<;>rfl
structure Fr(W:Nat→Prop)(a0:Act)(w0:World)(a:Act)(w:World):Prop where
 tame:Tame w0 w
 defers:a.defers=a0.defers
 same:∀t,¬W t→a.tmps.getD t undef=a0.tmps.getD t undef
theorem Fr.refl(W:Nat→Prop)(a:Act)(w:World):Fr W a w a w:=⟨Tame.refl w,rfl,fun _ _=>rfl⟩
theorem Fr.put{W:Nat→Prop}{g a:Act}{f w w':World}(h:Fr W g f a w){o:Oper}(i:∀d,o.dst=some d→W d)(v:Value)(j:Tame w w'):Fr W g f (a.put o.dst v) w':=by
 refine⟨h.tame.trans j,?_,fun t c=>?_⟩
 ·cases ho:o.dst<;>simp[Act.put,h.defers]
 ·cases ho:o.dst with
  |none=>exact h.same t c
  |some d=>
   have b:d≠t:=fun e=>c (e▸i d ho)
   rw[←h.same t c];simp[Act.put,dU b]
theorem Fr.trans{W:Nat→Prop}{e g b:Act}{c f d:World}(h:Fr W e c g f)(k:Fr W g f b d):Fr W e c b d:=
 ⟨h.tame.trans k.tame,k.defers.trans h.defers,fun t a=>(k.same t a).trans (h.same t a)⟩
theorem Fr.mono{W W':Nat→Prop}{c a:Act}{b w:World}(h:Fr W c b a w)(f:∀t,W t→W' t):Fr W' c b a w:=
 ⟨h.tame,h.defers,fun t d=>h.same t fun e=>d (f t e)⟩
theorem DecOk.known{d:rD}{r:cg}(h:DecOk d r){t:Nat}{dv:DV}{v:Value}(c:Cq dv v):DecOk ((t,dv)::d) ((t,v)::r):=fun s=>by
 by_cases e:t=s
 ·subst e
  have:oI ((t,dv)::d) t=dv:=by simp[oI]
  rw[this];exact .inr ⟨v,gf t v r,c⟩
 ·have b:oI ((t,dv)::d) s=oI d s:=by
   have:bj t s=false:=mz.2 fun a=>e (aJ a)
   show(bif bj t s then dv else oI d s)=_
   rw[this];rfl
  rw[b,fL v r e];exact h s
theorem Ad{N:Nat}{ek:Option (Kind×Kind)}{ops:Array Oper}{o:Oper}{i:Nat}{d:rD}{r:cg}{a:Act}{w:World}{b:Bool}{K:rD→cg→ac→Prop}{next:Act→World→Prop}{Q:Exit→Act→World→Prop}
  (hi:ops[i]? =some o) (p:gK ops.toList d o=some b) (j:Agree N r a) (hd:DecOk d r)
  (k:match b with
   |true=>Oo P N ek o r (K (o8 d o (Ew d o.op))) w.heap
   |false=>vy N o undef r fun c=>K (o8 d o .u) c w.heap)
  (m:∀v w' d' c,Tame w w'→K d' c w'.heap→Agree N c (a.put o.dst v)→DecOk d' c→next (a.put o.dst v) w'):
  wpOpIn (FW ro) n P ops Q i next a w:=by
 unfold wpOpIn;rw[hi];simp only[kO p j hd];cases b with
 |true=>exact I6 k j hd fun v w' c q s e f=>m v w' _ c q s e f
 |false=>
  obtain⟨c,g,e,f⟩:=qm (dv:=.u) k j hd rfl;exact⟨fun _ _=>trivial,m undef w _ c (Tame.refl w) g e f⟩
theorem I0{N:Nat}{ek:Option (Kind×Kind)}{ops:List Oper}{o:Oper}{os:List Oper}{d:rD}{K:cg→ac→Prop}{r:cg}{h:ac}:Ay P N ek ops (o::os) d K r h=
 (match gK ops d o with
 |some true=>Oo P N ek o r (fun a h'=>Ay P N ek ops os (o8 d o (Ew d o.op)) K a h') h
 |some false=>vy N o undef r fun a=>Ay P N ek ops os (o8 d o .u) K a h
 |none=>match AW ops o with
  |none=>False
  |some t=>match iE r t with
   |some (.bool b)=>CondP b
    (CD P N ek ops o ((t,.t)::d) ((t,.bool true)::r) h fun c a h'=>Ay P N ek ops os c K a h')
    (CD P N ek ops o ((t,.f)::d) ((t,.bool false)::r) h fun c a h'=>Ay P N ek ops os c K a h')
   |_=>False):=rfl
theorem Cv{N:Nat}{ek:Option (Kind×Kind)}{ops:Array Oper}{o:Oper}{i:Nat}{d:rD}{r:cg}{a:Act}{w:World}{K:rD→cg→ac→Prop}{next:Act→World→Prop}{Q:Exit→Act→World→Prop}
  (hi:ops[i]? =some o) (e:Agree N r a) (hd:DecOk d r) (c:CD P N ek ops.toList o d r w.heap K)
  (f:∀v w' d' r',Tame w w'→K d' r' w'.heap→Agree N r' (a.put o.dst v)→DecOk d' r'→next (a.put o.dst v) w'):
  wpOpIn (FW ro) n P ops Q i next a w:=by
 unfold CD at c;cases hw:gK ops.toList d o with
 |none=>rw[hw]at c;exact c.elim
 |some b=>rw[hw]at c;exact Ad (ek:=ek) hi hw e hd (by cases b<;>exact c) f
theorem Ax{N:Nat}{ek:Option (Kind×Kind)}{ops:Array Oper}{W:Nat→Prop}(q:∀o∈ops.toList,∀d,o.dst=some d→W d){x:Act}{u:World}{K:cg→ac→Prop}{Q:Exit→Act→World→Prop}
  (p:∀r a w,Agree N r a→Fr W x u a w→K r w.heap→Q .normal a w):
  ∀(l:List Oper) (i:Nat),ops.toList.drop i=l→∀(d:rD) (r:cg) (a:Act) (w:World),Ay P N ek ops.toList l d K r w.heap→Agree N r a→DecOk d r→Fr W x u a w→
   wpOpsIn (FW ro) n P ops Q (List.range' i l.length) a w
 | [],i,_,d,r,a,w,hs,ha,hd,hf=>p r a w ha hf hs
 |o::os,i,hdr,d,r,a,w,hs,ha,hd,hf=>by
  have hi:ops[i]? =some o:=by
   rw[←aR];have:(ops.toList.drop i)[0]? =some o:=by rw[hdr];rfl
   simpa using this
  have f:o∈ops.toList:=fU (by rw[aR];exact hi);have g:ops.toList.drop (i+1)=os:=by rw[←List.tail_drop,hdr];rfl
  rw[az,List.range'_succ,wpOpsIn_cons];rw[I0]at hs;have k:∀v w' e c,Tame w w'→Ay P N ek ops.toList os e K c w'.heap→Agree N c (a.put o.dst v)→DecOk e c→wpOpsIn (FW ro) n P ops Q (List.range' (i+1) os.length) (a.put o.dst v) w':=
   fun v w' e c s y j m=>Ax q p os (i+1) g e c _ w' y j m (hf.put (q o f) v s)
  cases hw:gK ops.toList d o with
  |some b=>
   rw[hw]at hs;exact Ad (ek:=ek) (K:=fun e c h'=>Ay P N ek ops.toList os e K c h') hi hw ha hd (by cases b<;>exact hs) k
  |none=>
   rw[hw]at hs;simp only at hs;split at hs
   ·exact hs.elim
   ·rename_i t s
    split at hs
    ·rename_i b hb
     cases b with
     |true=>exact Cv hi (ha.known hb) (hd.known (dv:=.t) rfl) (hs.yes rfl) k
     |false=>exact Cv hi (ha.known hb) (hd.known (dv:=.f) rfl) (hs.no rfl) k
    ·exact hs.elim
end Go.Lift
namespace Go.Lift
open Go
theorem wr(m i:Nat):tb m i=m.testBit i:=by
 have h:hO (Nat.shiftRight m i) 1=(m>>>i)&&&1:=rfl;unfold tb;rw[h,Nat.testBit_eq_decide_div_mod_eq,Nat.and_one_is_mod,Nat.shiftRight_eq_div_pow];cases hm:decide (m/2^i%2=1)with
 |true=>rw[of_decide_eq_true hm];rfl
 |false=>
  have a:=of_decide_eq_false hm;have:m/2^i%2=0:=by omega
  rw[this];rfl
theorem lD(a b i:Nat):(cC a b).testBit i=(a.testBit i||b.testBit i):=Nat.testBit_or a b i
theorem vC(i j:Nat):(fJ i).testBit j=decide (i=j):=Nat.testBit_two_pow
theorem yl{a b:Nat}(h:bj (hO a b) 0=true)(t:Nat)(c:a.testBit t=true)(e:b.testBit t=true):False:=by
 have d:=aJ h;have:(hO a b).testBit t=(a.testBit t&&b.testBit t):=jf a b t;rw[d,c,e]at this;simp at this
theorem M3{a b:Nat}(h:bj (hO a b) a=true)(t:Nat)(c:a.testBit t=true):b.testBit t=true:=by
 have d:=aJ h;have:(hO a b).testBit t=(a.testBit t&&b.testBit t):=jf a b t;rw[d,c]at this;simpa using this.symm
theorem uC(i:Nat):∀l:List Edge,(kf l).testBit i=l.any fun e=>bj e.on i&&Region.binds .any e
 | []=>Nat.zero_testBit i
 |e::l=>by
  have b:=uC i l;have hc:kf (e::l)=bif Region.binds .any e then cC (fJ e.on) (kf l)else kf l:=rfl;rw[hc,List.any_cons,←b];cases hb:Region.binds .any e with
  |true=>
   rw[cond_true,lD,vC,Bool.and_true];congr 1
   cases hd:bj e.on i with
   |true=>simpa using aJ hd
   |false=>rw[decide_eq_false_iff_not];intro a;rw[a]at hd;simp at hd
  |false=>simp
theorem wS(o:Oper)(i:Nat):(kf o.after.toList).testBit i=gM o i:=uC i o.after.toList
theorem wq(t:Nat):∀l:List Operand,(jG l).testBit t=true↔Operand.tmp t∈l
 | []=>by simp[show jG []=0 from rfl]
 |o::l=>by
  have a:=wq t l;cases o with
  |tmp u=>
   have hc:jG (.tmp u::l)=cC (fJ u) (jG l):=rfl;rw[hc,lD,vC,g3,a,au];simp[eq_comm]
  |const v=>
   have hc:jG (.const v::l)=jG l:=rfl;rw[hc,a,au];simp
  |global v=>
   have hc:jG (.global v::l)=jG l:=rfl;rw[hc,a,au];simp
  |func v=>
   have hc:jG (.func v::l)=jG l:=rfl;rw[hc,a,au];simp
theorem tx(o:Oper)(t:Nat):(lh o).testBit t=true↔o.dst=some t:=by
 unfold lh;cases o.dst with
 |none=>simp
 |some d=>simp[vC]
theorem B7(ops:Array Oper)(o:Oper)(t:Nat):(lM ops.toList o).testBit t=true↔t∈o.looksAt ops:=by
 unfold lM Oper.looksAt;rw[lD,g3,wq,List.mem_append,List.mem_filterMap];refine or_congr ⟨fun h=>⟨_,h,rfl⟩,?_⟩ ?_
 ·rintro⟨x,hx,b⟩
  cases x<;>simp at b
  subst b;exact hx
 ·cases hg:o.guard with
  |none=>simp
  |some g=>
   obtain⟨j,a⟩:=g;simp only[aR];cases hj:ops[j]? with
   |none=>simp
   |some oj=>simp[tx]
variable {P:Program} {ro:Option Nat} {n:Nat} {ops:Array Oper} {Q:Exit→Act→World→Prop}
structure MsOk(ops:Array Oper)(ms:List DM):Prop where
 am:∀(i:Nat) (o:Oper) (m:DM),ops[i]? =some o→ms[i]? =some m→∀j,m.am.testBit j=gM o j
 lk:∀(i:Nat) (o:Oper) (m:DM),ops[i]? =some o→ms[i]? =some m→∀t,m.lk.testBit t=true↔t∈o.looksAt ops
 ds:∀(i:Nat) (o:Oper) (m:DM),ops[i]? =some o→ms[i]? =some m→∀t,m.ds.testBit t=true↔o.dst=some t
 len:ms.length=ops.size
 free:∀(i j:Nat) (m k:DM),ms[i]? =some m→ms[j]? =some k→m.fr.testBit j=true→j=i∨k.am.testBit i=true∨ym m k=true
 nosel:∀(i:Nat) (o:Oper),ops[i]? =some o→(∀cs b,o.op≠ .select cs b)∧(∀c,o.op≠ .defer c)
theorem wD(ops:List Oper):∀(l:List Oper) (ms:List DM),sH ops l ms=true→ms.length=l.length∧∀(i:Nat) (o:Oper) (m:DM),l[i]? =some o→ms[i]? =some m→
  m.am=kf o.after.toList∧m.lk=lM ops o∧m.ds=lh o
 | [],[],_=>⟨rfl,fun i o m h=>by simp at h⟩
 | [],_::_,h=>by cases h
 |o::l,[],h=>by cases h
 |o::l,m::ms,h=>by
  have hc:sH ops (o::l) (m::ms)=(bj (kf o.after.toList) m.am&&bj (lM ops o) m.lk&&bj (lh o) m.ds&&sH ops l ms):=rfl;rw[hc]at h;simp only[aS]at h;obtain⟨⟨⟨b,k⟩,g⟩,e⟩:=h;obtain⟨f,c⟩:=wD ops l ms e;refine⟨by simp[f],fun i d j a hm=>?_⟩
  cases i with
  |zero=>
   simp only[cn,bE.injEq]at a hm;subst a;subst hm;exact⟨(aJ b).symm,(aJ k).symm,(aJ g).symm⟩
  |succ i=>exact c i d j (by simpa using a) (by simpa using hm)
theorem C9(i:Nat)(m:DM):∀(l:List DM) (j0:Nat),Da i m l j0=true→∀(j:Nat) (k:DM),l[j]? =some k→m.fr.testBit (j0+j)=true→j0+j=i∨k.am.testBit i=true∨ym m k=true
 | [],j0,_,j,k,hk,_=>by simp at hk
 |x::l,j0,h,j,k,hk,hb=>by
  have hc:Da i m (x::l) j0=((!(tb m.fr j0)||bj j0 i||tb x.am i||ym m x)&&Da i m l (eP j0)):=rfl
  rw[hc]at h;simp only[aS,g3,my,wr]at h;cases j with
  |zero=>
   simp only[cn,bE.injEq]at hk;subst hk;simp only[Nat.add_zero]at hb⊢;rcases h.1 with((a|a)|a)|a
   ·rw[a]at hb;cases hb
   ·exact .inl (aJ a)
   ·exact .inr (.inl a)
   ·exact .inr (.inr a)
  |succ j=>
   have:=C9 i m l (j0+1) h.2 j k (by simpa using hk) (by rw[show j0+1+j=j0+(j+1) by omega];exact hb)
   rw[show j0+1+j=j0+(j+1) by omega]at this
   exact this
theorem yZ(a:List DM):∀(l:List DM) (i0:Nat),wJ a l i0=true→∀(i:Nat) (m:DM),l[i]? =some m→Da (i0+i) m a 0=true
 | [],i0,_,i,m,hm=>by simp at hm
 |x::l,i0,h,i,m,hm=>by
  have hc:wJ a (x::l) i0=(Da i0 x a 0&&wJ a l (eP i0)):=rfl;rw[hc,aS]at h;cases i with
  |zero=>simp only[cn,bE.injEq]at hm;subst hm;exact h.1
  |succ i=>
   have:=yZ a l (i0+1) h.2 i m (by simpa using hm);rw[show i0+1+i=i0+(i+1) by omega]at this
   exact this
theorem CT:∀(l:List Oper),Fh l=true→∀o∈l,(∀cs b,o.op≠ .select cs b)∧(∀c,o.op≠ .defer c)
 | [],_,o,a=>by cases a
 |x::l,h,o,a=>by
  simp only[Fh,aS]at h;rcases au.1 a with rfl|a
  ·refine⟨fun cs b e=>?_,fun c e=>?_⟩
   ·rw[e]at h;cases h.1
   ·rw[e]at h;cases h.1
  ·exact CT l h.2 o a
theorem G5{ms:List DM}(h:zT ops.toList ms=true):MsOk ops ms:=by
 have hc:zT ops.toList ms=(sH ops.toList ops.toList ms&&wJ ms ms 0&&Fh ops.toList):=rfl;rw[hc]at h;simp only[aS]at h;obtain⟨⟨c,g⟩,f⟩:=h;obtain⟨e,b⟩:=wD ops.toList ops.toList ms c;refine⟨fun i o m a hm j=>?_,fun i o m a hm t=>?_,fun i o m a hm t=>?_,by simpa using e,fun i j m k hm d n=>?_,fun i o a=>?_⟩
 ·rw[(b i o m (by simpa using a) hm).1,wS]
 ·rw[(b i o m (by simpa using a) hm).2.1,B7]
 ·rw[(b i o m (by simpa using a) hm).2.2,tx]
 ·have:=yZ ms ms 0 g i m hm
  rw[aC]at this;have:=C9 i m ms 0 this j k d (by rwa [aC]);rwa [aC]at this
 ·exact CT _ f o (fU (by rw[aR];exact a))
theorem LO{ms:List DM}(hm:MsOk ops ms){i j:Nat}{e b:Oper}{f g:DM}(hi:ops[i]? =some e) (k:ops[j]? =some b) (c:ms[i]? =some f) (a:ms[j]? =some g) (h:ym f g=true):
  (∀d,e.dst=some d→d∉b.looksAt ops)∧(∀d,e.dst=some d→b.dst≠some d)∧(∀d,b.dst=some d→d∉e.looksAt ops):=by
 unfold ym at h;rw[aS]at h;refine⟨fun d hd m=>?_,fun d hd n=>?_,fun d hd m=>?_⟩
 ·exact yl h.1 d ((hm.ds i e f hi c d).2 hd) (by rw[lD,(hm.lk j b g k a d).2 m,Bool.true_or])
 ·exact yl h.1 d ((hm.ds i e f hi c d).2 hd) (by rw[lD,(hm.ds j b g k a d).2 n,Bool.or_true])
 ·exact yl h.2 d ((hm.ds j b g k a d).2 hd) ((hm.lk i e f hi c d).2 m)
structure LsRel(ops:Array Oper)(ls:Nat)(listed:Array Bool):Prop where
 size:listed.size=ops.size
 bit:∀j,listed.getD j false=ls.testBit j
theorem LsRel.start:LsRel ops 0 (ll ops.size false):=⟨by simp,fun j=>by
 rw[Nat.zero_testBit,cK]
 by_cases h:j<ops.size<;>simp[h]⟩
theorem LsRel.put{ls:Nat}{a:Array Bool}(h:LsRel ops ls a){i:Nat}(hi:i<ops.size):LsRel ops (cC ls (fJ i)) (a.setIfInBounds i true):=by
 refine⟨by simp[h.size],fun j=>?_⟩
 rw[lD,vC,←h.bit];by_cases e:i=j
 ·subst e;simp[h.size,hi]
 ·simp[e,dU e]
theorem LsRel.unlisted{ls:Nat}{a:Array Bool}(h:LsRel ops ls a){i:Nat}(hi:i<ops.size):a.getD i true=ls.testBit i:=by
 rw[←h.bit];have:i<a.size:=by rw[h.size];exact hi
 simp[this]
theorem CN{ms:List DM}(hm:MsOk ops ms){ls:Nat}{a:Array Bool}(h:LsRel ops ls a){j:Nat}:j∈Region.ready .any ops a↔∃m,ms[j]? =some m∧ls.testBit j=false∧Ev m ls=true:=by
 rw[mem_ready];constructor
 ·rintro⟨n,o,p,f⟩
  have b:j<ops.size:=(bT.1 p).1;have g:j<ms.length:=by rw[hm.len];exact b
  refine⟨ms[j],ag g,by rw[←h.unlisted b];exact n,?_⟩
  unfold Ev;have:hO (ms[j]).am ls=(ms[j]).am:=by
   apply Nat.eq_of_testBit_eq;intro t;have i:(hO (ms[j]).am ls).testBit t=((ms[j]).am.testBit t&&ls.testBit t):=jf _ _ t;rw[i];cases ht:(ms[j]).am.testBit t with
   |false=>rfl
   |true=>
    rw[hm.am j o _ p (ag g)]at ht;unfold gM at ht;obtain⟨e,k,d⟩:=bZ.1 ht;simp only[aS]at d;have:=f e (by simpa using k) d.2;rw[aJ d.1,h.bit]at this;rw[this];rfl
  rw[this];exact pd _
 ·rintro⟨m,c,n,q⟩
  have b:j<ops.size:=by rw[←hm.len];exact(aV.1 c).1
  refine⟨by rw[h.unlisted b];exact n,ops[j],ft b,fun e k d=>?_⟩
  rw[h.bit];refine M3 q e.on ?_;rw[hm.am j _ m (ft b) c];unfold gM;exact bZ.2 ⟨e,by simpa using k,by simp[d]⟩
theorem pi(ls:Nat):∀(l:List DM) (j0 j:Nat),j∈jK ls l j0↔∃k m,l[k]? =some m∧j=j0+k∧ls.testBit j=false∧Ev m ls=true
 | [],j0,j=>by simp[show jK ls [] j0= []from rfl]
 |m::l,j0,j=>by
  have hc:jK ls (m::l) j0=bif !(tb ls j0)&&Ev m ls then j0::jK ls l (eP j0)else jK ls l (eP j0):=rfl;have e:=pi ls l (j0+1) j;rw[hc,wr];have step:(∃k c,(m::l)[k]? =some c∧j=j0+k∧ls.testBit j=false∧Ev c ls=true)↔(j=j0∧ls.testBit j0=false∧Ev m ls=true)∨j∈jK ls l (j0+1):=by
   rw[e];constructor
   ·rintro⟨k,c,d,rfl,a,b⟩
    cases k with
    |zero=>simp only[cn,bE.injEq]at d;subst d;exact .inl ⟨rfl,a,b⟩
    |succ k=>exact .inr ⟨k,c,by simpa using d,by omega,a,b⟩
   ·rintro(⟨rfl,a,b⟩|⟨k,c,d,rfl,a,b⟩)
    ·exact⟨0,m,rfl,rfl,a,b⟩
    ·exact⟨k+1,c,by simpa using d,by omega,a,b⟩
  rw[step];cases hb:(!(ls.testBit j0)&&Ev m ls)with
  |true=>
   simp only[aS,my]at hb;rw[cond_true,au];simp[hb.1,hb.2]
  |false=>
   rw[cond_false];constructor
   ·exact .inr
   ·rintro(⟨_,a,b⟩|h)
    ·rw[a,b]at hb;cases hb
    ·exact h
theorem j2{ms:List DM}(hm:MsOk ops ms){ls:Nat}{a:Array Bool}(h:LsRel ops ls a){j:Nat}:j∈Region.ready .any ops a↔j∈jK ls ms 0:=by
 rw[CN hm h,pi];constructor
 ·rintro⟨m,d,b,c⟩;exact⟨j,m,d,by omega,b,c⟩
 ·rintro⟨k,m,d,rfl,b,c⟩;exact⟨m,by simpa using d,b,c⟩
theorem tW:∀{a b:List Nat},rN a b=true→a=b
 | [],[],_=>rfl
 | [],_::_,h=>by cases h
 |_::_,[],h=>by cases h
 |a::as,b::bs,h=>by
  simp only[rN,aS]at h;rw[aJ h.1,tW h.2]
end Go.Lift
namespace Go.Lift
open Go
variable {P:Program} {ro:Option Nat} {n:Nat} {ops:Array Oper} {Q:Exit→Act→World→Prop}
theorem wn{m:Nat}{p:Nat→Bool}(hm:∀j,m.testBit j=true→p j=true):∀(l:List DM) (j0:Nat),(∀j x,l[j]? =some x→p (j0+j)=true→∀k,x.am.testBit k=true→p k=true)→∀k,(JS m l j0).testBit k=true→p k=true
 | [],_,_,k,h=>hm k h
 |x::l,j0,hl,k,h=>by
  have hc:JS m (x::l) j0=bif tb m j0 then cC x.am (JS m l (eP j0))else JS m l (eP j0):=rfl;have a:=wn hm l (j0+1) (fun j y b c=>hl (j+1) y (by simpa using b) (by rw[show j0+(j+1)=j0+1+j by omega];exact c)) k
  rw[hc,wr]at h;cases hb:m.testBit j0 with
  |true=>
   rw[hb,cond_true,lD,g3]at h;rcases h with h|h
   ·exact hl 0 x rfl (hm _ hb) k h
   ·exact a h
  |false=>
   rw[hb,cond_false]at h;exact a h
theorem wh{m k:Nat}(h:m.testBit k=true):∀(l:List DM) (j0:Nat),(JS m l j0).testBit k=true
 | [],_=>h
 |x::l,j0=>by
  have hc:JS m (x::l) j0=bif tb m j0 then cC x.am (JS m l (eP j0))else JS m l (eP j0):=rfl;have a:=wh h l (j0+1);rw[hc];cases tb m j0 with
  |true=>rw[cond_true,lD,g3];exact .inr a
  |false=>exact a
def Shut(ms:List DM)(a:Array Bool):Prop:=∀j x,ms[j]? =some x→a.getD j false=true→∀k,x.am.testBit k=true→a.getD k false=true
theorem JF{ms:List DM}{a:Array Bool}(d:Shut ms a){m:Nat}(hm:∀j,m.testBit j=true→a.getD j false=true){k:Nat}(h:(wN ms m).testBit k=true):a.getD k false=true:=by
 have b:∀j x,ms[j]? =some x→(fun k=>a.getD k false) (0+j)=true→∀k,x.am.testBit k=true→(fun k=>a.getD k false) k=true:=fun j x hx c=>d j x hx (by rw[aC]at c;exact c)
 unfold wN at h;exact wn (p:=fun k=>a.getD k false) (wn (wn (wn hm ms 0 b) ms 0 b) ms 0 b) ms 0 b k h
theorem Dg{ms:List DM}{m k:Nat}(h:m.testBit k=true):(wN ms m).testBit k=true:=by
 unfold wN;exact wh (wh (wh (wh h ms 0) ms 0) ms 0) ms 0
noncomputable abbrev rel(ms:List DM)(i:Nat)(L:oo):oo:=wy (wN ms (Ek ms i)) L
theorem iq{m:Nat}{x:Nat×(ac→Prop)}:∀{L:oo},x∈wy m L↔x∈L∧tb m x.1=false
 | []=>by simp[wy]
 |(k,S)::L=>by
  have b:=iq (m:=m) (x:=x) (L:=L);simp only[wy];cases hk:tb m k with
  |true=>
   rw[cond_true,b,au];constructor
   ·exact fun h=>⟨.inr h.1,h.2⟩
   ·rintro⟨h|h,a⟩
    ·subst h;rw[hk]at a;cases a
    ·exact⟨h,a⟩
  |false=>
   rw[cond_false,au,b,au];constructor
   ·rintro(h|h)
    ·subst h;exact⟨.inl rfl,hk⟩
    ·exact⟨.inr h.1,h.2⟩
   ·rintro⟨h|h,a⟩
    ·exact .inl h
    ·exact .inr ⟨h,a⟩
def Kf(ms:List DM)(ro:Option Nat)(n:Nat)(P:Program)(ops:Array Oper)(Q:Exit→Act→World→Prop):Nat→oo→Array Bool→Act→World→Prop
 |0,_,listed,a,w=>Region.ready .any ops listed= []∧Q .normal a w
 |f+1,L,listed,a,w=>(Region.ready .any ops listed= []→Q .normal a w)∧
  ∀i∈Region.ready .any ops listed,∀o,ops[i]? =some o→
   wpOpIn (FW ro) n P ops Q i (fun a' w'=>(∀x∈rel ms i L,x.2 w'.heap)∧Kf ms ro n P ops Q f (rel ms i L) (listed.setIfInBounds i true) a' w') a w
theorem sE{o:Oper}{x:Nat×(ac→Prop)}:∀{L:oo},x∈lS o L↔x∈L∧gM o x.1=false
 | []=>by simp[lS]
 |(k,S)::L=>by
  have b:=sE (o:=o) (x:=x) (L:=L);simp only[lS];cases hk:gM o k with
  |true=>
   rw[cond_true,b,au];constructor
   ·exact fun h=>⟨.inr h.1,h.2⟩
   ·rintro⟨h|h,a⟩
    ·subst h;rw[hk]at a;cases a
    ·exact⟨h,a⟩
  |false=>
   rw[cond_false,au,b,au];constructor
   ·rintro(h|h)
    ·subst h;exact⟨.inl rfl,hk⟩
    ·exact⟨.inr h.1,h.2⟩
   ·rintro⟨h|h,a⟩
    ·exact .inl h
    ·exact .inr ⟨h,a⟩
theorem Jc{a:Array Bool}{i:Nat}(h:i∈Region.ready .any ops a):∃o,ops[i]? =some o:=by
 obtain⟨_,o,b,_⟩:=mem_ready.1 h;exact⟨o,b⟩
theorem H3{ms:List DM}:∀(f:Nat) (L:oo) (listed:Array Bool) (a:Act) (w:World),Kf ms ro n P ops Q f L listed a w→wpAnyIn (FW ro) n P .any ops Q f listed a w
 |0,_,_,_,_,h=>h
 |f+1,L,listed,a,w,h=>⟨h.1,fun i hi=>by
  obtain⟨o,b⟩:=Jc hi
  exact wpOpIn_mono (fun a' w' h'=>H3 f _ _ a' w' h'.2) (h.2 i hi o b)⟩
theorem q9{ms:List DM}:∀(f:Nat) (L L':oo) (listed:Array Bool) (a:Act) (w:World),(∀x∈L',x∈L∨∀h,x.2 h)→Kf ms ro n P ops Q f L listed a w→Kf ms ro n P ops Q f L' listed a w
 |0,_,_,_,_,_,_,h=>h
 |f+1,L,L',listed,a,w,hs,h=>⟨h.1,fun i hi o c=>by
  have b:∀x∈rel ms i L',x∈rel ms i L∨∀h,x.2 h:=fun x hx=>(hs x (iq.1 hx).1).imp (fun h=>iq.2 ⟨h,(iq.1 hx).2⟩) id
  exact wpOpIn_mono (fun a' w' h'=>⟨fun x hx=>(b x hx).elim (h'.1 x) fun h=>h _,q9 f _ _ _ a' w' b h'.2⟩) (h.2 i hi o c)⟩
def YG(P:Program)(ops:Array Oper)(S:ac→Prop)(o:Oper)(v:Value)(a:Act):Prop:=
 (Region.wanted o (yielded ops a.tmps)=true∧∀w:World,S w.heap→(execOp a.eval o).run P w=.ok (.value v) w)∨
 (Region.wanted o (yielded ops a.tmps)=false∧v=undef)
theorem YG.wpOp{S:ac→Prop}{i:Nat}{o:Oper}{v:Value}{a:Act}(hi:ops[i]? =some o) (hd:∀c,o.op≠ .defer c) (d:YG P ops S o v a) {K:Act→World→Prop} {w:World} (e:S w.heap)
  (h:K (a.put o.dst v) w):wpOpIn (FW ro) n P ops Q i K a w:=by
 unfold wpOpIn;simp only[hi];rcases d with⟨b,f⟩|⟨b,rfl⟩
 ·simp only[b,if_true]
  refine⟨fun _ _=>trivial,?_⟩
  rw[Oper.semAt_eq _ _ _ hd,f w e];exact h
 ·simp only[b,Bool.false_eq_true,if_false];exact⟨fun _ _=>trivial,h⟩
theorem YG.of_same{S:ac→Prop}{o:Oper}{v:Value}{a a':Act}(c:YG P ops S o v a)(d:execOp a'.eval o=execOp a.eval o)
  (b:Region.wanted o (yielded ops a'.tmps)=Region.wanted o (yielded ops a.tmps)):YG P ops S o v a':=by
 unfold YG at*;rw[d,b];exact c
theorem Gk{S:ac→Prop}{j:Nat}{g i:Oper}{v:Value}(D:ops[j]? =some i)
  (A:(∀d,g.dst=some d→d∉i.looksAt ops)∧(∀d,g.dst=some d→i.dst≠some d)∧(∀d,i.dst=some d→d∉g.looksAt ops))
  (s:∀cs b,g.op≠ .select cs b) (z:∀cs b,i.op≠ .select cs b) (t:∀c,i.op≠ .defer c)
  (C:∀e a w,(∀c,e=.panic c→False)∨¬Q e a w) {K:Act→World→Prop} {a:Act} {w:World}
  (m:YG P ops S g v a) (h:wpOpIn (FW ro) n P ops Q j K (a.put g.dst v) w):
  wpOpIn (FW ro) n P ops Q j (fun a' w'=>YG P ops S g v a'∧K (a'.put g.dst v) w') a w:=by
 obtain⟨B,o,y⟩:=A;have p:∀c a w,¬Q (.panic c) a w:=fun c a w E=>(C (.panic c) a w).elim (fun h=>h c rfl) fun h=>h E
 have keep:∀(a:Act),YG P ops S g v a→∀u,YG P ops S g v (a.put i.dst u):=fun a m u=>
  m.of_same (execOp_put g s a i.dst u y) (wanted_put g a i.dst u y)
 unfold wpOpIn at*;simp only[D]at*;rw[wanted_put i a g.dst v B]at h;split
 ·rename_i hw
  simp only[hw,if_true]at h;refine⟨fun _ _=>trivial,?_⟩
  have h:=h.2;rw[Oper.semAt_eq _ _ _ t,execOp_put i z a g.dst v B]at h;rw[Oper.semAt_eq _ _ _ t];generalize (execOp a.eval i).run P w=r at*;cases r with
  |ok x w'=>
   cases x<;>simp only[Oper.uponIn]at h⊢
   case value u=>exact⟨keep a m u,by rw[←Act.put_comm a v u o];exact h⟩
   case skip=>exact⟨keep a m _,by rw[←Act.put_comm a v undef o];exact h⟩
   case defer d=>
    refine⟨(m.of_same (a':={a with defers:=d::a.defers}) rfl rfl).of_same (execOp_put g s _ i.dst undef y) (wanted_put g _ i.dst undef y),?_⟩;rw[←Act.put_comm _ v undef o,←Act.put_defers];exact h
   case enter f args=>
    refine⟨h.1,CallsIn.mono h.2 fun e q k=>?_⟩
    cases e with
    |returned u=>exact⟨keep a m u,by rw[←Act.put_comm a v u o];exact k⟩
    |panicked c=>exact(p _ _ _ k).elim
    |outgrown=>exact k
   case row row args=>exact⟨h.1,RowsIn.mono h.2 fun u q k=>⟨keep a m u,by rw[←Act.put_comm a v u o];exact k⟩⟩
   case round l f tmps assign body=>
    refine⟨h.1,RoundIn.mono h.2 fun e q k=>?_⟩
    cases e with
    |returned u=>exact⟨keep a m u,by rw[←Act.put_comm a v u o];exact k⟩
    |panicked c=>exact(p _ _ _ k).elim
    |outgrown=>exact k
  |halt x w'=>
   cases x<;>simp only[Oper.uponIn]at h⊢
   case panic u=>exact(p _ _ _ h).elim
 ·rename_i hw
  simp only[hw]at h;exact⟨fun _ _=>trivial,keep a m _,by rw[←Act.put_comm a v undef o];exact h.2⟩
theorem Ej{ms:List DM}(hm:MsOk ops ms){i:Nat}{o:Oper}(a:ops[i]? =some o) (k:Nat):(Ek ms i).testBit k=gM o k:=by
 have hi:i<ms.length:=by rw[hm.len];exact(bT.1 a).1
 unfold Ek;rw[ag hi];exact hm.am i o _ a (ag hi) k
theorem E0{ms:List DM}(hm:MsOk ops ms){a:Array Bool}{j:Nat}(i:j∈Region.ready .any ops a)(k:Nat)(d:(Ek ms j).testBit k=true):a.getD k false=true:=by
 obtain⟨_,o,f,b⟩:=mem_ready.1 i;rw[Ej hm f]at d;unfold gM at d;obtain⟨e,g,c⟩:=bZ.1 d;simp only[aS]at c;have:=b e (by simpa using g) c.2;rw[aJ c.1]at this;exact this
theorem FE{a:Array Bool}{j k:Nat}(h:a.getD k false=true):(a.setIfInBounds j true).getD k false=true:=by
 by_cases e:j=k
 ·subst e
  rw[cK]at h⊢;rcases cd j a.size with h'|h'
  ·simp[h']
  ·simp[iZ h']at h
 ·rw[cK,dU e,←cK]
  exact h
theorem Shut.put{ms:List DM}(hm:MsOk ops ms){a:Array Bool}(d:Shut ms a){j:Nat}(f:j∈Region.ready .any ops a):Shut ms (a.setIfInBounds j true):=by
 intro i x hx c k b;by_cases e:j=i
 ·subst e
  refine FE (E0 hm f k ?_);unfold Ek;rw[hx];exact b
 ·rw[cK,dU e,←cK]at c
  exact FE (d i x hx c k b)
theorem Ae{ms:List DM}(hm:MsOk ops ms){S:ac→Prop}{i:Nat}{A:Oper}{v:Value}(hi:ops[i]? =some A) (m:∀(j:Nat) (o:Oper),ops[j]? =some o→(∀cs b,o.op≠ .select cs b)∧(∀c,o.op≠ .defer c))
  (Z:∀e a w,(∀c,e=.panic c→False)∨¬Q e a w):
  ∀(p:Nat) (L:oo) (f:Array Bool) (a:Act) (w:World),
   (∀j t,ops[j]? =some t→j≠i→f.getD j true=false→gM t i=false→
    (∀d,A.dst=some d→d∉t.looksAt ops)∧(∀d,A.dst=some d→t.dst≠some d)∧(∀d,t.dst=some d→d∉A.looksAt ops))→
   Shut ms f→i∈Region.ready .any ops f→YG P ops S A v a→S w.heap→(∀x∈L,x.2 w.heap)→
   Kf ms ro n P ops Q p ((i,S)::L) (f.setIfInBounds i true) (a.put A.dst v) w→Kf ms ro n P ops Q (p+1) L f a w:=by
 intro p;induction p with
 |zero=>
  intro L f a w _ _ C U X Y H;refine⟨fun h=>(by rw[h]at C;cases C),fun j F t g=>?_⟩
  by_cases q:j=i
  ·subst q
   rw[hi]at g;cases g;exact U.wpOp hi (m _ _ hi).2 X ⟨fun x hx=>Y x (iq.1 hx).1,H⟩
  ·have:=ready_mono F q
   rw[H.1]at this;cases this
 |succ p ih=>
  intro L f a w u O C U X Y H;refine⟨fun h=>(by rw[h]at C;cases C),fun j F t g=>?_⟩
  by_cases q:j=i
  ·subst q
   rw[hi]at g;cases g;exact U.wpOp hi (m _ _ hi).2 X ⟨fun x hx=>Y x (iq.1 hx).1,q9 _ _ _ _ _ _ (fun x hx=>.inl (aI _ (iq.1 hx).1)) H⟩
  ·have s:=H.2 j (ready_mono F q) t g
   obtain⟨D,oj',B,J⟩:=mem_ready.1 F;rw[g]at B;cases B;have I:gM t i=false:=by
    cases y:gM t i with
    |false=>rfl
    |true=>
     unfold gM at y;obtain⟨e,he,y⟩:=bZ.1 y;simp only[aS]at y;have s:=J e (by simpa using he) y.2;rw[aJ y.1]at s;have R:=(mem_ready.1 C).1;rcases cd i f.size with h'|h'
     ·simp[h']at R s;rw[R]at s;cases s
     ·simp[iZ h']at s
   have E:tb (wN ms (Ek ms j)) i=false:=by
    cases y:tb (wN ms (Ek ms j)) i with
    |false=>rfl
    |true=>
     rw[wr]at y;have s:=JF O (E0 hm F) y;have R:=(mem_ready.1 C).1;rcases cd i f.size with h'|h'
     ·simp[h']at R s;rw[R]at s;cases s
     ·simp[iZ h']at s
   have T:rel ms j ((i,S)::L)=(i,S)::rel ms j L:=by simp only[rel,wy,E,cond_false]
   rw[T]at s;have h2:=Gk g (u j t g q D I) (m _ _ hi).1 (m _ _ g).1 (m _ _ g).2 Z U s;have z:∀k ok,ops[k]? =some ok→k≠i→(f.setIfInBounds j true).getD k true=false→gM ok i=false→
     (∀d,A.dst=some d→d∉ok.looksAt ops)∧(∀d,A.dst=some d→ok.dst≠some d)∧(∀d,ok.dst=some d→d∉A.looksAt ops):=fun k ok hk W G V=>by
    refine u k ok hk W ?_ V;by_cases N:j=k
    ·subst N;exact D
    ·rw[getD_set_ne true N]at G;exact G
   refine wpOpIn_mono (fun a' w' K=>⟨fun x hx=>K.2.1 x (aI _ hx),ih (rel ms j L) (f.setIfInBounds j true) a' w' z (O.put hm F) (ready_mono C (Ne.symm q)) K.1 (K.2.1 _ (ay ..)) (fun x hx=>K.2.1 x (aI _ hx)) ?_⟩) h2
   rw[Array.setIfInBounds_comm _ _ q];exact K.2.2
theorem oX{h:ac}{R:Prop}:∀{L:oo},pq L h R↔(∀x∈L,x.2 h)∧R
 | []=>by simp[pq]
 |(k,S)::L=>by
  simp only[pq,oX (L:=L),au,forall_eq_or_imp,and_assoc]
theorem Ke{ms:List DM}{f:Nat}{L:oo}{b:Array Bool}{a:Act}{w:World}(c:Region.ready .any ops b= [])(h:Q .normal a w):Kf ms ro n P ops Q f L b a w:=by
 cases f with
 |zero=>exact⟨c,h⟩
 |succ f=>exact⟨fun _=>h,by rw[c];simp⟩
def left(ops:Array Oper)(ls:Nat):Nat:=((dH ops.size).filter fun j=> !ls.testBit j).length
theorem sK{ls i:Nat}(hi:i<ops.size)(f:ls.testBit i=false):left ops (cC ls (fJ i))+1=left ops ls:=by
 have key:∀l:List Nat,l.Nodup→i∈l→(l.filter fun j=> !(cC ls (fJ i)).testBit j).length+1=(l.filter fun j=> !ls.testBit j).length:=by
  intro l;induction l with
  |nil=>intro _ h;cases h
  |cons x l ih=>
   intro d hm;rw[List.nodup_cons]at d;by_cases hx:x=i
   ·subst hx
    have a:(l.filter fun j=> !(cC ls (fJ x)).testBit j)=l.filter fun j=> !ls.testBit j:=by
     apply List.filter_congr;intro y g;have:x≠y:=fun e=>d.1 (e▸g)
     rw[lD,vC,decide_eq_false this,Bool.or_false]
    have c:(cC ls (fJ x)).testBit x=true:=by rw[lD,vC];simp
    rw[cD,cD,c,f,a];rfl
   ·have b:i∈l:=by rcases au.1 hm with h|h;exact absurd h.symm hx;exact h
    have c:(cC ls (fJ i)).testBit x=ls.testBit x:=by rw[lD,vC,decide_eq_false (Ne.symm hx),Bool.or_false]
    have:=ih d.2 b;rw[cD,cD,c];cases ls.testBit x with
    |true=>exact this
    |false=>exact congrArg (· +1) this
 exact key _ List.nodup_range (List.mem_range.2 hi)
theorem Jx{N:Nat}{a:List Oper}{ms:List DM}{ls:Nat}{L:oo}{d:rD}{K:cg→ac→Prop}{r:cg}{b:ac}:∀{l:DA},kQ P N a ms l true ls L d K r b→∃i,i∈yf l
 | .done,h=>h.elim
 | .take i rest,h=>by
  exfalso;have hc:kQ P N a ms (.take i rest) true ls L d K r b=(match a[i]?,ms[i]? with|some _,some _=>False|_,_=>False):=rfl
  rw[hc]at h;split at h<;>exact h
 | .all _,h=>h.elim
 | .pick i _ _,_=>⟨i,ay ..⟩
 | .last i _,_=>⟨i,ay ..⟩
 | .lastT i _,_=>⟨i,ay ..⟩
 | .split ..,h=>h.elim
def HT(ro:Option Nat)(n:Nat)(P:Program)(ops:Array Oper)(Q:Exit→Act→World→Prop)(N:Nat)(ms:List DM)(W:Nat→Prop)(e:Act)(c:World)(K:cg→ac→Prop)(b:DA):Prop:=
 ∀(m:Bool) (ls:Nat) (L:oo) (d:rD) (r:cg) (a:Act) (w:World) (listed:Array Bool) (fuel:Nat),
  kQ P N ops.toList ms b m ls L d K r w.heap→Agree N r a→DecOk d r→Fr W e c a w→LsRel ops ls listed→Shut ms listed→(∀x∈L,x.2 w.heap)→
  (m=false→left ops ls≤fuel→Kf ms ro n P ops Q fuel L listed a w)∧
  (m=true→left ops ls≤fuel+1→∀i∈yf b,i∈jK ls ms 0→∀o,ops[i]? =some o→
   wpOpIn (FW ro) n P ops Q i (fun a' w'=>(∀x∈rel ms i L,x.2 w'.heap)∧Kf ms ro n P ops Q fuel (rel ms i L) (listed.setIfInBounds i true) a' w') a w)
theorem EU{N:Nat}{ms:List DM}(hm:MsOk ops ms){W:Nat→Prop}(hW:∀o∈ops.toList,∀d,o.dst=some d→W d){a0:Act}{w0:World}{K:cg→ac→Prop}
  (hQ:∀r a w,Agree N r a→Fr W a0 w0 a w→K r w.heap→Q .normal a w)(hnp:∀e a w,(∀c,e=.panic c→False)∨¬Q e a w)(da:DA):
  HT ro n P ops Q N ms W a0 w0 K da:=by
 have one:∀(i:Nat) (q:DA)
   (_:HT ro n P ops Q N ms W a0 w0 K q)
   (ls:Nat) (L:oo) (d:rD) (r:cg) (a:Act) (w:World) (f:Array Bool) (p:Nat),
   I7 P N ops.toList i L d r w.heap (fun L' d' F h'=>kQ P N ops.toList ms q false (cC ls (fJ i)) L' d' K F h')→Agree N r a→DecOk d r→Fr W a0 w0 a w→LsRel ops ls f→Shut ms f→
   left ops ls≤p+1→i∈jK ls ms 0→∀o,ops[i]? =some o→
    wpOpIn (FW ro) n P ops Q i (fun a' w'=>(∀x∈rel ms i L,x.2 w'.heap)∧Kf ms ro n P ops Q p (rel ms i L) (f.setIfInBounds i true) a' w') a w:=by
  intro i q Z ls L d r a w f p g A hd J C s B hr o z;have D:i<ops.size:=(bT.1 z).1;obtain⟨k,mm,hk,hki,R,_⟩:=(pi ls ms 0 i).1 hr;unfold I7 at g;rw[aR,z]at g;simp only at g;cases hw:gK ops.toList d o with
  |none=>rw[hw]at g;exact g.elim
  |some b=>
   rw[hw]at g;cases b with
   |false=>exact g.elim
   |true=>
    simp only at g;cases hq:sd P o.op with
    |true=>
     rw[hq,cond_true]at g;unfold wpOpIn;rw[z];simp only[kO hw A hd,if_true];obtain⟨v,S,hK,hS,_,Y⟩:=xS A g d hd;refine np (K:=fun u h'=>u=v∧h'=w.heap) (yV g) (.inl ⟨v,w,Y w hS,Tame.refl w,rfl,rfl⟩) ?_
     rintro u w' ht ⟨rfl,hw'⟩;obtain⟨F,O,I,H⟩:=qm (dv:=.x) hK A hd trivial;obtain⟨hh,hs'⟩:=oX.1 O;have E:o∈ops.toList:=fU (by rw[aR];exact z);have T:=sK D R;have G:∀x∈rel ms i L,x∈lS o L:=fun x hx=>sE.2 ⟨(iq.1 hx).1,by
      cases hb:gM o x.1 with
      |false=>rfl
      |true=>
        have:=(iq.1 hx).2
        rw[wr,Dg (by rw[Ej hm z];exact hb)]at this;cases this⟩
     rw[←hw']at hh hs';exact⟨fun x hx=>hh x (G x hx),q9 _ _ _ _ _ _ (fun x hx=>.inl (G x hx)) ((Z false _ _ _ F _ w' _ p hs' I H (J.put (hW o E) u ht) (C.put D) (s.put hm ((j2 hm C).2 hr)) hh).1 rfl (by omega))⟩
    |false=>
     rw[hq,cond_false]at g;unfold wpOpIn;rw[z];simp only[kO hw A hd,if_true];refine np (sx g) (xG A g) ?_;intro v w' ht hK;obtain⟨F,O,I,H⟩:=qm (dv:=.x) hK A hd trivial;obtain⟨hh,hs'⟩:=oX.1 O;have E:o∈ops.toList:=fU (by rw[aR];exact z);have T:=sK D R;have G:∀x∈rel ms i L,x∈lS o L:=fun x hx=>sE.2 ⟨(iq.1 hx).1,by
      cases hb:gM o x.1 with
      |false=>rfl
      |true=>
        have:=(iq.1 hx).2
        rw[wr,Dg (by rw[Ej hm z];exact hb)]at this;cases this⟩
     exact⟨fun x hx=>hh x (G x hx),q9 _ _ _ _ _ _ (fun x hx=>.inl (G x hx)) ((Z false _ _ _ F _ w' _ p hs' I H (J.put (hW o E) v ht) (C.put D) (s.put hm ((j2 hm C).2 hr)) hh).1 rfl (by omega))⟩
 have oneT:∀(i:Nat) (q:DA)
   (_:HT ro n P ops Q N ms W a0 w0 K q)
   (ls:Nat) (L:oo) (d:rD) (r:cg) (a:Act) (w:World) (f:Array Bool) (p:Nat),
   Ij P N ops.toList ms i L d r w.heap (fun L' d' F h'=>kQ P N ops.toList ms q false (cC ls (fJ i)) L' d' K F h')→Agree N r a→DecOk d r→Fr W a0 w0 a w→LsRel ops ls f→Shut ms f→
   left ops ls≤p+1→i∈jK ls ms 0→∀o,ops[i]? =some o→
    wpOpIn (FW ro) n P ops Q i (fun a' w'=>(∀x∈rel ms i L,x.2 w'.heap)∧Kf ms ro n P ops Q p (rel ms i L) (f.setIfInBounds i true) a' w') a w:=by
  intro i q Z ls L d r a w f p g A hd J C s B hr o z;have D:i<ops.size:=(bT.1 z).1;obtain⟨k,mm,hk,hki,R,_⟩:=(pi ls ms 0 i).1 hr;unfold Ij at g;rw[aR,z]at g;simp only at g;cases hw:gK ops.toList d o with
  |none=>rw[hw]at g;exact g.elim
  |some b=>
   rw[hw]at g;cases b with
   |false=>exact g.elim
   |true=>
    simp only at g;cases hq:sd P o.op with
    |true=>rw[hq]at g;exact g.elim
    |false=>
     rw[hq,cond_false]at g;unfold wpOpIn;rw[z];simp only[kO hw A hd,if_true];refine np (sx g) (xG A g) ?_;intro v w' ht hK;obtain⟨F,O,I,H⟩:=qm (dv:=.x) hK A hd trivial;obtain⟨hh,hs'⟩:=oX.1 O;have E:o∈ops.toList:=fU (by rw[aR];exact z);have T:=sK D R;exact⟨hh,(Z false _ _ _ F _ w' _ p hs' I H (J.put (hW o E) v ht) (C.put D) (s.put hm ((j2 hm C).2 hr)) hh).1 rfl (by omega)⟩
 induction da with
 |done=>
  intro m ls L d r a w f p g A hd J C s V;cases m with
  |true=>exact g.elim
  |false=>
   refine⟨fun _ _=>?_,fun h=>by cases h⟩
   have hc:kQ P N ops.toList ms .done false ls L d K r w.heap=bif rN (jK ls ms 0) []then K r w.heap else False:=rfl;rw[hc]at g;cases hb:rN (jK ls ms 0) []with
   |false=>rw[hb]at g;exact g.elim
   |true=>
    rw[hb]at g;have hnil:Region.ready .any ops f= []:=by
     apply List.eq_nil_iff_forall_not_mem.2;intro j U;rw[j2 hm C,tW hb]at U;cases U
    exact Ke hnil (hQ r a w A J g)
 |take i q Z=>
  intro m ls L d r a w f p g A hd J C s V;cases m with
  |true=>
   exfalso;have hc:kQ P N ops.toList ms (.take i q) true ls L d K r w.heap=(match ops.toList[i]?,ms[i]? with|some _,some _=>False|_,_=>False):=rfl
   rw[hc]at g;split at g<;>exact g
  |false=>
   refine⟨fun _ B=>?_,fun h=>by cases h⟩
   have hc:kQ P N ops.toList ms (.take i q) false ls L d K r w.heap=(match ops.toList[i]?,ms[i]? with
    |some o,some mi=>bif Ap mi i ls ops.toList.length then
      (match gK ops.toList d o with
       |none=>False
       |some false=>vy N o undef r fun F=>kQ P N ops.toList ms q false (cC ls (fJ i)) L (o8 d o .u) K F w.heap
       |some true=>bif sd P o.op then
          xC P none o.op r (fun v S=>vy N o v r fun F=>match S with
            |none=>kQ P N ops.toList ms q false (cC ls (fJ i)) L (o8 d o (Ew d o.op)) K F w.heap
            |some S=>kQ P N ops.toList ms q false (cC ls (fJ i)) ((i,S)::L) (o8 d o (Ew d o.op)) K F w.heap) w.heap
          else False)
     else False
    |_,_=>False):=rfl
   rw[hc]at g;split at g
   ·rename_i o mi z hmi
    rw[aR]at z;cases htk:Ap mi i ls ops.toList.length with
    |false=>rw[htk]at g;exact g.elim
    |true=>
     rw[htk,cond_true]at g;unfold Ap at htk;simp only[aS,my,wr]at htk;obtain⟨⟨hun,hrd⟩,hfr⟩:=htk;have D:i<ops.size:=(bT.1 z).1;have y:i∈Region.ready .any ops f:=(CN hm C).2 ⟨mi,hmi,hun,hrd⟩;have T:=sK (ops:=ops) D hun;obtain⟨f',rfl⟩:∃f',p=f'+1:=⟨p-1,by omega⟩
     have E:o∈ops.toList:=fU (by rw[aR];exact z);have hcov:∀j,j<ops.size→ls.testBit j=true∨mi.fr.testBit j=true:=by
      intro j U;have h0:=aJ hfr;have hpb:(tQ (fJ ops.toList.length)).testBit j=true:=by
        have:tQ (fJ ops.toList.length)=2^ops.toList.length-1:=rfl;rw[this,Nat.testBit_two_pow_sub_one];simpa using U
      have hand:(hO (cC ls mi.fr) (tQ (fJ ops.toList.length))).testBit j=((cC ls mi.fr).testBit j&&(tQ (fJ ops.toList.length)).testBit j):=jf _ _ j;rw[h0,hpb,Bool.and_true,lD]at hand;exact(Bool.or_eq_true_iff).1 hand.symm
     have X:∀j oj,ops[j]? =some oj→j≠i→f.getD j true=false→gM oj i=false→
        (∀d,o.dst=some d→d∉oj.looksAt ops)∧(∀d,o.dst=some d→oj.dst≠some d)∧(∀d,oj.dst=some d→d∉o.looksAt ops):=by
      intro j oj hoj hne hju hna;have U:j<ops.size:=(bT.1 hoj).1;rw[C.unlisted U]at hju;have hjm:j<ms.length:=by rw[hm.len];exact U
      have hmj:=ag hjm;rcases hcov j U with h|h
      · rw[h]at hju;cases hju
      · rcases hm.free i j mi _ hmi hmj h with h|h|h
        ·exact absurd h hne
        ·rw[hm.am j oj _ hoj hmj,hna]at h;cases h
        ·exact LO hm z hoj hmi hmj h
     cases hw:gK ops.toList d o with
     |none=>rw[hw]at g;exact g.elim
     |some b=>
      rw[hw]at g;have hwd:=kO hw A hd;cases b with
      |false=>
        obtain⟨F,O,I,H⟩:=qm (dv:=.u) g A hd rfl;have hy:YG P ops (fun _=>True) o undef a:=.inr ⟨hwd,rfl⟩
        refine Ae hm z hm.nosel hnp f' L f a w X s y hy trivial V ?_;refine q9 _ L _ _ _ _ (fun x hx=>(au.1 hx).elim (fun e=>.inr fun h=>by rw[e];trivial) .inl) ?_
        exact(Z false _ _ _ F _ w _ f' O I H (J.put (hW o E) undef (Tame.refl w)) (C.put D) (s.put hm y) V).1 rfl (by omega)
      |true=>
        simp only at g;cases hq:sd P o.op with
        |false=>rw[hq]at g;exact g.elim
        |true=>
         rw[hq,cond_true]at g;obtain⟨v,S,hK,hS,hdv,Y⟩:=xS A g d hd;obtain⟨F,O,I,H⟩:=qm hK A hd hdv;have hfr':=J.put (hW o E) v (Tame.refl w);cases S with
         |none=>
           have hy:YG P ops (fun _=>True) o v a:=.inl ⟨hwd,fun w _=>Y w trivial⟩
           refine Ae hm z hm.nosel hnp f' L f a w X s y hy trivial V ?_;refine q9 _ L _ _ _ _ (fun x hx=>(au.1 hx).elim (fun e=>.inr fun h=>by rw[e];trivial) .inl) ?_
           exact(Z false _ _ _ F _ w _ f' O I H hfr' (C.put D) (s.put hm y) V).1 rfl (by omega)
         |some S=>
           have hy:YG P ops S o v a:=.inl ⟨hwd,fun w h=>Y w h⟩
           refine Ae hm z hm.nosel hnp f' L f a w X s y hy hS V ?_;exact(Z false _ _ _ F _ w _ f' O I H hfr' (C.put D) (s.put hm y) (fun x hx=>(au.1 hx).elim (fun e=>by rw[e];exact hS) (V x))).1 rfl (by omega)
   ·exact g.elim
 |all l Z=>
  intro m ls L d r a w f p g A hd J C s V;cases m with
  |true=>exact g.elim
  |false=>
   refine⟨fun _ B=>?_,fun h=>by cases h⟩
   have hc:kQ P N ops.toList ms (.all l) false ls L d K r w.heap=bif rN (jK ls ms 0) (yf l)then kQ P N ops.toList ms l true ls L d K r w.heap else False:=rfl;rw[hc]at g;cases hb:rN (jK ls ms 0) (yf l)with
   |false=>rw[hb]at g;exact g.elim
   |true=>
    rw[hb,cond_true]at g;obtain⟨i,hi⟩:=Jx g;rw[←tW hb]at hi;have hrd:=(j2 hm C (j:=i)).2 hi;obtain⟨k,mm,hk,hki,R,_⟩:=(pi ls ms 0 i).1 hi;have D:i<ops.size:=by
     have:=(aV.1 hk).1;rw[hm.len]at this;omega
    have T:=sK (ops:=ops) D R;obtain⟨f',rfl⟩:∃f',p=f'+1:=⟨p-1,by omega⟩
    refine⟨fun h=>(by rw[h]at hrd;cases hrd),fun j U o z=>?_⟩
    have hj':=(j2 hm C).1 U;exact(Z true ls L d r a w f f' g A hd J C s V).2 rfl B j (by rw[←tW hb];exact hj') hj' o z
 |pick i q more ih1 ih2=>
  intro m ls L d r a w f p g A hd J C s V;cases m with
  |false=>exact g.elim
  |true=>
   refine⟨fun h=>(by cases h),fun _ B j U hjr o z=>?_⟩
   have g:I7 P N ops.toList i L d r w.heap (fun L' d' F h'=>kQ P N ops.toList ms q false (cC ls (fJ i)) L' d' K F h')∧kQ P N ops.toList ms more true ls L d K r w.heap:=g
   rcases au.1 U with rfl|U
   ·exact one _ q ih1 ls L d r a w f p g.1 A hd J C s B hjr o z
   ·exact(ih2 true ls L d r a w f p g.2 A hd J C s V).2 rfl B j U hjr o z
 |last i q Z=>
  intro m ls L d r a w f p g A hd J C s V;cases m with
  |false=>exact g.elim
  |true=>
   refine⟨fun h=>(by cases h),fun _ B j U hjr o z=>?_⟩
   have g:I7 P N ops.toList i L d r w.heap (fun L' d' F h'=>kQ P N ops.toList ms q false (cC ls (fJ i)) L' d' K F h'):=g
   have hji:j=i:=aw.1 U;subst hji;exact one _ q Z ls L d r a w f p g A hd J C s B hjr o z
 |lastT i q Z=>
  intro m ls L d r a w f p g A hd J C s V;cases m with
  |false=>exact g.elim
  |true=>
   refine⟨fun h=>(by cases h),fun _ B j U hjr o z=>?_⟩
   have g:Ij P N ops.toList ms i L d r w.heap (fun L' d' F h'=>kQ P N ops.toList ms q false (cC ls (fJ i)) L' d' K F h'):=g
   have hji:j=i:=aw.1 U;subst hji;exact oneT _ q Z ls L d r a w f p g A hd J C s B hjr o z
 |split t yes no ih1 ih2=>
  intro m ls L d r a w f p g A hd J C s V;cases m with
  |true=>exact g.elim
  |false=>
   refine⟨fun _ B=>?_,fun h=>by cases h⟩
   have hc:kQ P N ops.toList ms (.split t yes no) false ls L d K r w.heap=(match iE r t with
    |some (.bool b)=>CondP b (kQ P N ops.toList ms yes false ls L ((t,.t)::d) K ((t,.bool true)::r) w.heap) (kQ P N ops.toList ms no false ls L ((t,.f)::d) K ((t,.bool false)::r) w.heap)
    |_=>False):=rfl
   rw[hc]at g;split at g
   ·rename_i b hlk
    cases b with
    |true=>exact(ih1 false ls L _ _ a w f p (g.yes rfl) (A.known hlk) (hd.known rfl) J C s V).1 rfl B
    |false=>exact(ih2 false ls L _ _ a w f p (g.no rfl) (A.known hlk) (hd.known rfl) J C s V).1 rfl B
   ·exact g.elim
end Go.Lift
namespace Go.Lift
open Go
variable {P:Program} {ro:Option Nat} {n:Nat}
theorem C3{r:cg}:∀{l:List Nat} {r0:cg},Ix r l=some r0→∀t v,iE r0 t=some v→t∈l∧iE r t=some v
 | [],r0,h,t,v,hv=>by cases h;cases hv
 |s::l,r0,h,t,v,hv=>by
  have h:(match iE r s,Ix r l with|some v,some l=>some ((s,v)::l)|_,_=>none)=some r0:=h
  split at h
  ·rename_i u l' hu hl
   cases h;by_cases e:s=t
   ·subst e;rw[gf]at hv;cases hv;exact⟨ay ..,hu⟩
   ·rw[fL u _ e]at hv
    have:=C3 hl t v hv;exact⟨aI _ this.1,this.2⟩
  ·cases h
theorem ya{m:Nat}{t:Nat}{v:Value}:∀{r:cg},iE (sM m r) t=some v→m.testBit t=false∧iE r t=some v
 | [],h=>by cases h
 |(k,u)::r,h=>by
  have h:iE (bif tb m k then sM m r else(k,u)::sM m r) t=some v:=h;cases hk:tb m k with
  |true=>
   rw[hk]at h;have:=ya h;by_cases e:k=t
   ·subst e;rw[wr,this.1]at hk;cases hk
   ·rw[fL u _ e];exact this
  |false=>
   rw[hk]at h;have h:iE ((k,u)::sM m r) t=some v:=h;by_cases e:k=t
   ·subst e;rw[gf]at h⊢;rw[wr]at hk;exact⟨hk,h⟩
   ·rw[fL u _ e]at h⊢;exact ya h
theorem xF{t:Nat}:∀{l:List Oper},(Kh l).testBit t=false→¬jE t l=true
 | [],_,h=>by cases h
 |o::l,hm,h=>by
  have hm:(cC (lh o) (Kh l)).testBit t=false:=hm;rw[lD,jV]at hm;have h:(match o.dst with|some d=>bif bj d t then true else jE t l|none=>jE t l)=true:=h
  cases hd:o.dst with
  |none=>rw[hd]at h;exact xF hm.2 h
  |some d=>
   rw[hd]at h;cases e:bj d t with
   |true=>have:=(tx o t).2 (by rw[hd,aJ e]);rw[hm.1]at this;cases this
   |false=>simp only[e]at h;exact xF hm.2 h
theorem Fg{a b:Option Nat}{m:Nat}(h:OY a b=some m):∃x y,a=some x∧b=some y∧m=cC x y:=by
 cases a<;>cases b<;>cases h
 exact⟨_,_,rfl,rfl,rfl⟩
theorem Kg{t:Nat}(c:Code):∀{m:Nat},ur c=some m→m.testBit t=false→¬fl t c=true:=by
 induction c with
 |skip=>intro m _ _ h;cases h
 |region id ops dr=>intro m h hm d;cases h;exact xF hm d
 |seq a b iha ihb=>
  intro m h hm d;obtain⟨x,y,hx,e,rfl⟩:=Fg (show OY (ur a) (ur b)=some m from h)
  rw[lD,jV]at hm;have d:(bif fl t a then true else fl t b)=true:=d;cases ha:fl t a with
  |true=>exact iha hx hm.1 ha
  |false=>rw[ha]at d;exact ihb e hm.2 d
 |cond c a b iha ihb=>
  intro m h hm d;obtain⟨x,y,hx,e,rfl⟩:=Fg (show OY (ur a) (ur b)=some m from h)
  rw[lD,jV]at hm;have d:(bif fl t a then true else fl t b)=true:=d;cases ha:fl t a with
  |true=>exact iha hx hm.1 ha
  |false=>rw[ha]at d;exact ihb e hm.2 d
 |block id b ih=>exact fun h hm=>ih h hm
 |loop b ih=>exact fun h hm=>ih h hm
 |rangeFunc _ _ _ _ _ _=>intro m h;cases h
 |scope b ih=>exact fun h hm=>ih h hm
 |_=>intro m _ _ h;cases h
theorem Agree.keep{N:Nat}{r d:cg}{a a':Act}{w w':World}{m:Nat}{c:Code}(h:Agree N r a)(hm:ur c=some m)(f:Fr (fun t=>fl t c=true) a w a' w')(h':Agree N d a'):Agree N (sM m r) a':=
 ⟨h'.size,fun t v g=>by
  obtain⟨b,e⟩:=ya g
  rw[f.same t (Kg c hm b)];exact h.look t v e⟩
theorem sB{st:St}{r:cg}{f:rF (uX st)→Prop}(h:yQ st r f):∃t,Av r st=some (kE (uX st) t)∧f t:=by
 unfold yQ at h;split at h
 ·rename_i vs hv
  obtain⟨t,rfl,a⟩:=pG h;exact⟨t,hv,a⟩
 ·exact h.elim
theorem Agree.zip{N:Nat}{r:cg}{a:Act}(h:Agree N r a):∀{st:St} {vs:List Value} {r0:cg},Av r st=some vs→Agree N r0 a→Agree N (kZ st vs r0) a
 | [],vs,r0,_,h0=>by cases vs<;>exact h0
 |(i,k)::st,vs,r0,hv,h0=>by
  unfold Av at hv;split at hv
  ·rename_i v vs' h1 h2
   cases hv;have:=Agree.zip h h2 h0;refine⟨this.size,fun t u b=>?_⟩
   by_cases e:i=t
   ·subst e
    rw[show kZ ((i,k)::st) (v::vs') r0=(i,v)::kZ st vs' r0 from rfl,gf]at b;cases b
    exact h.look i v h1
   ·rw[show kZ ((i,k)::st) (v::vs') r0=(i,v)::kZ st vs' r0 from rfl,fL v _ e]at b
    exact this.look t u b
  ·cases hv
theorem wc{t:Nat}:∀{l:List Oper} {o:Oper},o∈l→o.dst=some t→jE t l=true
 | [],_,h,_=>by cases h
 |x::l,o,h,hd=>by
  have e:jE t (x::l)=(match x.dst with|some d=>bif bj d t then true else jE t l|none=>jE t l):=rfl
  rw[e];rcases au.1 h with rfl|h
  ·rw[hd];simp only;rw[show bj t t=true from pd t];rfl
  ·have:=wc h hd
   cases x.dst with
   |none=>exact this
   |some d=>
    simp only;cases bj d t with
    |true=>rfl
    |false=>exact this
def LWP(ro:Option Nat)(n:Nat)(P:Program)(c:Code)(Q:Exit→Act→World→Prop)(a:Act)(w:World):Prop:=
 ∀(b:Frame) (k:List Item) (cs:List Frame),b.roundOf=(FW ro).round→(FW ro).fn b.fn→(FW ro).room (cs.length+1+n)→
  ∃e a' w',Q e a' w'∧ArrivesIn (Machine.fenced P (FW ro)) P (lone (b.atR a (.code c:: .inLoop c::k)) cs w) b k cs e a' w'
theorem LWP.step{c:Code}{Q:Exit→Act→World→Prop}{a:Act}{w:World}(h:c.wpIn (FW ro) n P (Exit.then (LWP ro n P c Q) Q) a w):LWP ro n P c Q a w:=by
 intro b k cs m o q;obtain⟨e,j,i,g,d⟩:=h b (.inLoop c::k) cs m o q;cases e with
 |normal=>
  obtain⟨s,t,u,p,f⟩:=g b k cs m o q;exact⟨s,t,u,p,.of_steps (StepsIn.trans d (.one (fenced_calm o q rfl) stepR_inLoop)) f⟩
 |exit id=>exact⟨_,j,i,g,.pass (x:=.inLoop c) rfl (fun _ _=>.inl (by simp)) d⟩
 |goto l=>exact⟨_,j,i,g,.pass (x:=.inLoop c) rfl (fun _ _=>.inl (by simp)) d⟩
 |ret=>exact⟨_,j,i,g,.pass (x:=.inLoop c) rfl (fun _ _=>.inl (by simp)) d⟩
 |panic ch=>exact⟨_,j,i,g,.pass (x:=.inLoop c) rfl (fun _ _=>.inl (by simp)) d⟩
 |outgrown=>exact⟨_,j,i,g,.pass (x:=.inLoop c) rfl (fun _ _=>.inl (by simp)) d⟩
theorem LWP.loop{c:Code}{Q:Exit→Act→World→Prop}{a:Act}{w:World}(h:LWP ro n P c Q a w):(Code.loop c).wpIn (FW ro) n P Q a w:=by
 intro b k cs f g i;obtain⟨e,a',w',j,d⟩:=h b k cs f g i;exact⟨e,a',w',j,.of_steps (.one (fenced_calm g i rfl) stepR_loop) d⟩
theorem Df(r:cg):DecOk [] r:=fun _=>.inl rfl
theorem MD(ops:Array Oper)(ls:Nat):left ops ls≤ops.size:=by
 unfold left;exact Nat.le_trans (List.length_filter_le ..) (by simp)
theorem jH(f:P.follows .mixedOrders=true){N id:Nat}{ops:Array Oper}{g:Bool}{s:Ann}{K:cg→ac→Prop}{r:cg}{a:Act}{w:World}{Q:Exit→Act→World→Prop}
  (b:xM P N ops.toList g s K r w.heap)(k:Agree N r a)(q:∀c a w,¬Q (.panic c) a w)
  (m:∀r' a' w',Agree N r' a'→Fr (fun t=>jE t ops.toList=true) a w a' w'→K r' w'.heap→Q .normal a' w'):(Code.region id ops g).wpIn (FW ro) n P Q a w:=by
 have i:∀o∈ops.toList,∀d,o.dst=some d→jE d ops.toList=true:=fun o p d hd=>wc p hd
 cases g with
 |false=>
  have key:∀ek,Ay P N ek ops.toList ops.toList [] K r w.heap→(Code.region id ops false).wpIn (FW ro) n P Q a w:=fun ek b=>by
   refine wpIn_region ?_;rw[List.range_eq_range',show ops.size=ops.toList.length from rfl]
   exact Ax i m ops.toList 0 rfl [] r a w b k (Df r) (Fr.refl _ a w)
  unfold xM at b;simp only at b;split at b
  ·exact key _ b
  ·exact key _ b
 |true=>
  unfold xM at b;simp only at b;generalize Iq ops.toList=ms at b;cases hm:zT ops.toList ms with
  |false=>rw[hm]at b;exact b.elim
  |true=>
   rw[hm,cond_true]at b;refine wpIn_region_any f (H3 (ms:=ms) _ [] _ _ _ ?_);have u:Tame w {w with drawn:=w.drawn+1}:=⟨rfl,rfl,rfl⟩;have v:Fr (fun t=>jE t ops.toList=true) a w a {w with drawn:=w.drawn+1}:=⟨u,rfl,fun _ _=>rfl⟩
   refine(EU (G5 hm) i m (fun e a w=>?_) _ false 0 [] [] r a {w with drawn:=w.drawn+1} _ ops.size b k (Df r) v LsRel.start (fun j x _ h=>by rw[(LsRel.start (ops:=ops)).bit,Nat.zero_testBit]at h;cases h) (fun x hx=>by cases hx)).1 rfl (MD ops 0)
   cases e with
   |panic ch=>exact .inr (q _ a w)
   |_=>exact .inl fun c hc=>by cases hc
theorem Ab(t:Nat)(x y:Code):fl t (.seq x y)=(bif fl t x then true else fl t y):=rfl
theorem yL(t:Nat)(c:Operand)(x y:Code):fl t (.cond c x y)=(bif fl t x then true else fl t y):=rfl
theorem Ee{a b:Bool}:(bif a then true else b)=true↔a=true∨b=true:=by cases a<;>cases b<;>decide
theorem qc(u:P.follows .mixedOrders=true){N:Nat}(c:Code):∀(D:Ann) (Kn:cg→ac→Prop) (Kx:Ex→cg→ac→Prop) (r:cg) (a:Act) (w:World) (Q:Exit→Act→World→Prop),
  i1 P N c D Kn Kx r w.heap→Agree N r a→(∀L a w,¬Q (.panic L) a w)→
  (∀g a' w',Agree N g a'→Fr (fun t=>fl t c=true) a w a' w'→Kn g w'.heap→Q .normal a' w')→
  (∀i g a' w',Agree N g a'→Fr (fun t=>fl t c=true) a w a' w'→Kx (.exit i) g w'.heap→Q (.exit i) a' w')→
  (∀g a' w',Agree N g a'→Fr (fun t=>fl t c=true) a w a' w'→Kx .ret g w'.heap→Q .ret a' w')→
  c.wpIn (FW ro) n P Q a w:=by
 induction c with
 |skip=>
  intro D Kn Kx r a w Q j s _ z _ _;exact wpIn_skip (z r a w s (Fr.refl ..) j)
 |region id ops dr=>
  intro D Kn Kx r a w Q j s B z _ _;cases D with
  |reg keep inner=>
   have j:xM P N ops.toList dr inner (fun g h'=>match Ix g keep with|some r0=>Kn r0 h'|none=>False) r w.heap:=j
   refine jH u j s B fun g a' w' S V hk=>?_
   split at hk
   ·rename_i r0 hr0
    refine z r0 a' w' ⟨S.size,fun t v hv=>S.look t v (C3 hr0 t v hv).2⟩ V hk
   ·exact hk.elim
  |nil=>exact jH u (show xM P N ops.toList dr (.nil) Kn r w.heap from j) s B z
  |node x y=>exact jH u (show xM P N ops.toList dr (.node x y) Kn r w.heap from j) s B z
  |join st x y=>exact jH u (show xM P N ops.toList dr (.join st x y) Kn r w.heap from j) s B z
  |loop st y=>exact jH u (show xM P N ops.toList dr (.loop st y) Kn r w.heap from j) s B z
  |draw d=>exact jH u (show xM P N ops.toList dr (.draw d) Kn r w.heap from j) s B z
  |kinds k v=>exact jH u (show xM P N ops.toList dr (.kinds k v) Kn r w.heap from j) s B z
  |rf ks x y=>exact jH u (show xM P N ops.toList dr (.rf ks x y) Kn r w.heap from j) s B z
 |seq x y ihx ihy=>
  intro D Kn Kx r a w Q j s B z hx G;have E:∀{a' w'},Fr (fun t=>fl t x=true) a w a' w'→Fr (fun t=>fl t (.seq x y)=true) a w a' w':=fun h=>h.mono fun t O=>by rw[Ab,Ee];exact .inl O
  have C:∀{a' w' I H},Fr (fun t=>fl t x=true) a w a' w'→Fr (fun t=>fl t y=true) a' w' I H→Fr (fun t=>fl t (.seq x y)=true) a w I H:=
   fun h k=>(E h).trans (k.mono fun t O=>by rw[Ab,Ee];exact .inr O)
  have plain:∀U R,i1 P N x U (fun g h'=>i1 P N y R Kn Kx g h') Kx r w.heap→(Code.seq x y).wpIn (FW ro) n P Q a w:=fun U R j=>by
   refine wpIn_seq (ihx U _ Kx r a w _ j s (fun L a w=>B L a w) ?_ (fun i g a' w' q p o=>hx i g a' w' q (E p) o) (fun g a' w' q p o=>G g a' w' q (E p) o))
   intro r1 W Z F A K;exact ihy R Kn Kx r1 W Z Q K F B (fun g a' w' q p o=>z g a' w' q (C A p) o) (fun i g a' w' q p o=>hx i g a' w' q (C A p) o) (fun g a' w' q p o=>G g a' w' q (C A p) o)
  cases D with
  |join st U R=>
   have j:(match ur x with
      |none=>False
      |some m=>Join (T:=rF (uX st)) (fun t h'=>i1 P N y R Kn Kx (kZ st (kE (uX st) t) (sM m r)) h')
       fun J=>i1 P N x U (fun g h'=>yQ st g fun t=>J t h') Kx r w.heap):=j
   split at j
   ·exact j.elim
   ·rename_i m hm
    refine wpIn_seq (ihx U _ Kx r a w _ j.run s (fun L a w=>B L a w) ?_ (fun i g a' w' q p o=>hx i g a' w' q (E p) o) (fun g a' w' q p o=>G g a' w' q (E p) o))
    intro r1 W Z F A K;obtain⟨t,hst,hs2⟩:=sB K;have ha2:Agree N (kZ st (kE (uX st) t) (sM m r)) W:=F.zip hst (s.keep hm A F);exact ihy R Kn Kx _ W Z Q hs2 ha2 B (fun g a' w' q p o=>z g a' w' q (C A p) o) (fun i g a' w' q p o=>hx i g a' w' q (C A p) o) (fun g a' w' q p o=>G g a' w' q (C A p) o)
  |_=>exact plain _ _ j
 |cond c x y ihx ihy=>
  intro D Kn Kx r a w Q j s B z hx G;have j:(match cU r c with
   |some (.bool t)=>CondP t (i1 P N x D.l Kn Kx r w.heap) (i1 P N y D.r Kn Kx r w.heap)
   |_=>False):=j
  have E:∀{a' w'},Fr (fun t=>fl t x=true) a w a' w'→Fr (fun t=>fl t (.cond c x y)=true) a w a' w':=fun h=>h.mono fun t O=>by rw[yL,Ee];exact .inl O
  have C:∀{a' w'},Fr (fun t=>fl t y=true) a w a' w'→Fr (fun t=>fl t (.cond c x y)=true) a w a' w':=fun h=>h.mono fun t O=>by rw[yL,Ee];exact .inr O
  split at j
  ·rename_i t O
   refine wpIn_cond_split (iG s O) (fun e=>?_) (fun e=>?_)
   ·exact ihx _ Kn Kx r a w Q (j.yes e) s B (fun g a' w' q p o=>z g a' w' q (E p) o) (fun i g a' w' q p o=>hx i g a' w' q (E p) o) (fun g a' w' q p o=>G g a' w' q (E p) o)
   ·exact ihy _ Kn Kx r a w Q (j.no e) s B (fun g a' w' q p o=>z g a' w' q (C p) o) (fun i g a' w' q p o=>hx i g a' w' q (C p) o) (fun g a' w' q p o=>G g a' w' q (C p) o)
  ·exact j.elim
 |block id b ih=>
  intro D Kn Kx r a w Q j s B z hx G;refine wpIn_block (ih D Kn _ r a w _ j s (fun L a w=>B L a w) z (fun i g a' w' q p o=>?_) G)
  simp only[Exit.inBlock]at o⊢;cases hi:bj i id with
  |true=>
   rw[hi,cond_true]at o;rw[if_pos (aJ hi)];exact z g a' w' q p o
  |false=>
   rw[hi,cond_false]at o;rw[if_neg (fun e=>by rw[e,pd]at hi;cases hi)]
   exact hx i g a' w' q p o
 |loop b ih=>
  intro D Kn Kx r a w Q j s B z hx G;cases D with
  |loop st R=>
   have j:(match ur b with
      |none=>False
      |some m=>yQ st r fun t0=>LoopP (T:=rF (uX st)) (fun self t h'=>i1 P N b R (fun g h''=>yQ st g fun t'=>self t' h'') Kx (kZ st (kE (uX st) t) (sM m r)) h') t0 w.heap):=j
   split at j
   ·exact j.elim
   ·rename_i m hm
    obtain⟨t0,Y,hl⟩:=sB j;have h0:=hl.run (fun t h'=>∀a' w',w'.heap=h'→Agree N (kZ st (kE (uX st) t) (sM m r)) a'→Fr (fun t=>fl t b=true) a w a' w'→LWP ro n P b Q a' w') (fun t h' hF a' w' hw S V=>by
     subst hw
     refine LWP.step (ih R _ Kx _ a' w' _ hF S (fun L a w=>B L a w) ?_ (fun i g I H q p o=>hx i g I H q (V.trans p) o) (fun g I H q p o=>G g I H q (V.trans p) o))
     intro r1 W Z F A K
     obtain⟨t1,X,hk1⟩:=sB K
     exact hk1 W Z rfl (F.zip X (s.keep hm (V.trans A) F)) (V.trans A))
    exact LWP.loop (h0 a w rfl (s.zip Y (s.keep hm (Fr.refl _ a w) s)) (Fr.refl _ a w))
  |_=>exact j.elim
 |rangeFunc f params assign body _ _=>intro D Kn Kx r a w Q j;exact j.elim
 |exit id=>
  intro D Kn Kx r a w Q j s B z hx G;exact wpIn_exit (hx id r a w s (Fr.refl ..) j)
 |scope b _=>intro D Kn Kx r a w Q j;exact j.elim
 |label l=>
  intro D Kn Kx r a w Q j s B z hx G;exact wpIn_label (z r a w s (Fr.refl ..) j)
 |goto l=>intro D Kn Kx r a w Q j;exact j.elim
 |ret=>
  intro D Kn Kx r a w Q j s B z hx G;exact wpIn_ret (G r a w s (Fr.refl ..) j)
 |refuse why=>intro D Kn Kx r a w Q j;exact j.elim
end Go.Lift
namespace Go.Lift
open Go
variable {P:Program}
theorem m5{N:Nat}{r:cg}{a:Act}{w:World}(e:Agree N r a):∀{l:List ResultVar} {K:List Value→Prop},ld P r w.heap l K→
  ∃vs,(∀g:ResultVar→Sem Value,(∀t,g (.tmp t)=pure (a.tmps.getD t undef))→(∀x t,g (.cell x t)=do loadVar t (←asAddr (a.tmps.getD x undef)))→(l.mapM g).run P w=.ok vs w)∧K vs
 | [],K,h=>⟨[],fun g _ _=>by rw[List.mapM_nil];rfl,h⟩
 | .tmp t::l,K,h=>by
  unfold ld at h;split at h
  ·rename_i v hv
   obtain⟨vs,f,i⟩:=m5 e h;refine⟨v::vs,fun g d c=>?_,i⟩
   rw[List.mapM_cons,d];simp only[Sem.run_bind,Sem.run_pure,Result.andThen_ok];rw[f g d c];simp only[Result.andThen_ok,e.look t v hv]
  ·exact h.elim
 | .cell x t::l,K,h=>by
  unfold ld at h;split at h
  ·rename_i v hv
   obtain⟨u,S,n,k,m⟩:=yW h;obtain⟨vs,f,i⟩:=m5 e n;refine⟨u::vs,fun g d c=>?_,i⟩
   rw[List.mapM_cons,c];have j:(do loadVar t (←asAddr (a.tmps.getD x undef)):Sem Value).run P w=.ok u w:=by
    rw[e.look x v hv];unfold E3 at h;cases v with
    |pointer p=>cases p with
     |none=>exact h.elim
     |some b=>exact m w k
    |_=>exact h.elim
   simp only[Sem.run_bind]at j⊢;rw[j];simp only[Result.andThen_ok];rw[f g d c];simp only[Sem.run_pure,Result.andThen_ok]
  ·exact h.elim
theorem CL(ks:List Kind)(t:rF ks):(if h:(kE ks t).toArray.size=1 then(kE ks t).toArray[0]else Value.tuple (kE ks t).toArray)=zz ks (kE ks t):=by
 match ks,t with
 | [],t=>rfl
 | [k],t=>rfl
 |k::l::ks,(x,t)=>
  have:(kE (k::l::ks) (x,t)).length=(k::l::ks).length:=ql _ _;rw[dif_neg (by simp only[cT,this,az];omega)];rfl
theorem rV:∀(vs:List Value) (i t:Nat) (v:Value),iE (ng i vs) t=some v→i≤t∧vs[t-i]? =some v
 | [],i,t,v,h=>by cases h
 |u::vs,i,t,v,h=>by
  by_cases e:i=t
  ·subst e
   rw[show ng i (u::vs)=(i,u)::ng (i+1) vs from rfl,gf]at h
   cases h;exact⟨Nat.le_refl _,by simp⟩
  ·rw[show ng i (u::vs)=(i,u)::ng (i+1) vs from rfl,fL u _ e]at h
   obtain⟨b,a⟩:=rV vs (i+1) t v h;refine⟨by omega,?_⟩;rw[show t-i=(t-(i+1))+1 by omega,List.getElem?_cons_succ]
   exact a
theorem IK(b:P.follows .mixedOrders=true){n:Nat}{fn:Func}{c:Code}{o:Ann}{args:List Value}{ks:List Kind}{K:rF ks→ac→Prop}{w:World}(p:args.length≤fn.ntmps)(q:CE P fn c o args ks K w.heap):
  c.wpIn (FW none) n P (bodyPost P fn fun e w'=>Tame w w'∧∃t:rF ks,e=.returned (zz ks (kE ks t))∧K t w'.heap) {tmps:=args.toArray++ll (fn.ntmps-args.toArray.size) undef,defers:= []} w:=by
 have u:Agree fn.ntmps (ng 0 args) {tmps:=args.toArray++ll (fn.ntmps-args.toArray.size) undef,defers:= []}:=by
  refine⟨by simp;omega,fun t v y=>?_⟩
  obtain⟨_,j⟩:=rV args 0 t v y;simp only[eH]at j;have d:=(aV.1 j).1;simp[Array.getElem?_append,d];rw[ag d]at j;cases j;rfl
 have g:∀k a' (w':World),Agree fn.ntmps k a'→Fr (fun t=>fl t c=true) {tmps:=args.toArray++ll (fn.ntmps-args.toArray.size) undef,defers:= []} w a' w'→
   ld P k w'.heap fn.results.toList (fun vs=>zE ks vs fun t=>K t w'.heap)→
   a'.defers= []∧∃v,(results fn a'.tmps).run P w'=.ok v w'∧(Tame w w'∧∃t:rF ks,Ending.returned v=.returned (zz ks (kE ks t))∧K t w'.heap):=fun k a' w' m i s=>by
  obtain⟨vs,f,hd⟩:=m5 m s;obtain⟨t,rfl,x⟩:=pG hd;refine⟨i.defers,_,?_,i.tame,t,rfl,x⟩;unfold results;rw[kA];simp only[Sem.run_bind,Sem.run_map];rw[f _ (fun _=>rfl) (fun _ _=>rfl)]
  simp only[Result.andThen_ok,Sem.run_pure];rw[←CL]
 exact qc b c o _ _ _ _ w _ q u (fun z a w h=>h.2.2.elim fun _ h=>by cases h.1) g (fun _ _ _ _ _ _ h=>h.elim) g
theorem HE.intro(b:P.follows .mixedOrders=true){f:FuncId}{fn:Func}{c:Code}{i:Ann}{args:List Value}{ks:List Kind}{K:rF ks→ac→Prop}{h:ac}
  (k:P.funcs[f]? =some fn) (j:fn.body=some c) (a:∀(args:Array Value) (w:World),(callFunc f args).run P w=.ok (.enter f args) w) (d:args.length≤fn.ntmps)
  (g:CE P fn c i args ks K h):HE P f args ks K h:=by
 refine⟨fun w e=>⟨a,?_⟩⟩
 subst e;exact(callsIn_wide (n:=0)).1 (callsIn_of_wp (F:=FW none) k j trivial (IK b d g) rfl)
theorem HD.intro(b:P.follows .mixedOrders=true){f:FuncId}{fn:Func}{c:Code}{j:Ann}{args:List Value}{ks:List Kind}{K:ac→Prop}{h:ac}
  (s:P.funcs[f]? =some fn) (k:fn.body=some c) (a:∀(args:Array Value) (w:World),(callFunc f args).run P w=.ok (.enter f args) w) (d:args.length≤fn.ntmps)
  (i:CE P fn c j args ks (fun _ h'=>K h') h):HD P f args K h:=by
 refine fun w g=>⟨a,fun n=>?_⟩
 subst g;exact(callsDIn_of_wp (F:=FW none) s k trivial (IK b d i) rfl).mono fun e u w' ⟨p,o,t,m,q⟩=>⟨p,o,⟨_,m⟩,q⟩
theorem HC.intro(b:P.follows .mixedOrders=true){f:FuncId}{fn:Func}{c:Code}{g:Ann}{args:List Value}{ks:List Kind}{K:rF ks→ac→Prop}{h:ac}
 (j:P.funcs[f]? =some fn) (i:fn.body=some c) (a:∀(args:Array Value) (w:World),(callFunc f args).run P w=.ok (.enter f args) w) (d:args.length≤fn.ntmps)
 (e:CE P fn c g args ks K h):HC P f args ks K h:=(HE.intro b j i a d e).hc
theorem HB{N:Nat}{args:List Value}(c:args.length≤N):Agree N (ng 0 args) {tmps:=args.toArray++ll (N-args.toArray.size) undef,defers:= []}:=by
 refine⟨by simp;omega,fun t v d=>?_⟩
 obtain⟨_,b⟩:=rV args 0 t v d;simp only[eH]at b;have a:=(aV.1 b).1;simp[Array.getElem?_append,a];rw[ag a]at b;cases b;rfl
theorem EZ{N:Nat}{fn:Func}{ks:List Kind}{K:rF ks→ac→Prop}{c:cg}{a':Act}{w':World}(b:Agree N c a')(d:ld P c w'.heap fn.results.toList (fun vs=>zE ks vs fun t=>K t w'.heap)):
  ∃t:rF ks,(results fn a'.tmps).run P w'=.ok (zz ks (kE ks t)) w'∧K t w'.heap:=by
 obtain⟨vs,a,hd⟩:=m5 b d;obtain⟨t,rfl,e⟩:=pG hd;refine⟨t,?_,e⟩;unfold results;rw[kA];simp only[Sem.run_bind,Sem.run_map];rw[a _ (fun _=>rfl) (fun _ _=>rfl)]
 simp only[Result.andThen_ok,Sem.run_pure];rw[←CL]
end Go.Lift
namespace Go.Lift
open Go
variable {P:Program}
abbrev AN(D:Nat):Deferred:={target:=.collected D,args:= #[]}
abbrev mL:Mk→Deferred
 | .it D=>AN D
 | .call f vs=>{target:=.fn (.func f) #[],args:= #[]++vs.toArray}
theorem Bp{N:Nat}:∀{ps:List Nat} {vs:List Value} {r:cg} {tmps:Array Value},vf N ps=true→Agree N r {tmps:=tmps,defers:= []}→
  Agree N (L5 ps vs r) {tmps:=(ps.zip vs).foldl (fun t x=>t.setIfInBounds x.1 x.2) tmps,defers:= []}
 | [],vs,r,tmps,_,h=>by cases vs<;>exact h
 |i::ps,[],r,tmps,_,h=>h
 |i::ps,v::vs,r,tmps,a,h=>by
  have a:(ud i N&&vf N ps)=true:=a;rw[aS]at a;have b:i<N:=by simpa using a.1
  have:=h.put i v b;exact Bp (tmps:=tmps.setIfInBounds i v) a.2 this
theorem Am(w:World)(o:Obj):Tame w (w.alloc o):=⟨rfl,rfl,rfl⟩
theorem lK(w:World)(b:Nat)(o:Obj):Tame w (w.putObj b o):=⟨rfl,rfl,rfl⟩
theorem E6(w:World)(b:Nat)(o:Obj):(w.putObj b o).heap=w.heap.setIfInBounds b o:=rfl
theorem IQ(ps:Array Nat)(vs:List Value)(t:Array Value):(ps.zip vs.toArray).foldl (fun t (x:Nat×Value)=>t.setIfInBounds x.1 x.2) t=(ps.toList.zip vs).foldl (fun t x=>t.setIfInBounds x.1 x.2) t:=by
 obtain⟨l⟩:=ps;simp
theorem zA(B:P.follows .mixedOrders=true){n N:Nat}{g:Operand}{ps:Array Tmp}{assign body:Code}{aa ab:Ann}{ks:List Kind}{fv:Value}{r:cg}{a:Act}{w:World}{Q:Exit→Act→World→Prop}
  {KN:ac→Prop}{KX:Nat→ac→Prop}{KR:ac→Prop}(Z:vf N ps.toList=true)(O:ps.toList.length=ks.length)(hg:cU r g=some fv)(X:Agree N r a)
  (hR:RangeP P fv ks w.heap (fun Ev bz x k h'=>GD P N ps.toList ks assign body (.node aa ab) r (w.heap.size+1) Ev bz x k h') KN KX KR)
  (hn:∀w',Tame w w'→KN w'.heap→Q .normal {a with defers:=AN w.heap.size::a.defers} w')
  (hx:∀i w',Tame w w'→KX i w'.heap→Q (.exit i) {a with defers:=AN w.heap.size::a.defers} w')
  (hr:∀w',Tame w w'→KR w'.heap→Q .ret {a with defers:=AN w.heap.size::a.defers} w'):(Code.rangeFunc g ps assign body).wpIn (FW none) n P Q a w:=by
 refine wpIn_rangeFunc fun fn _=>?_
 obtain⟨lo,p⟩:∃lo:LoopState→Option Ex→Obj,lo=fun s j=>.loop {state:=s,pending:=D5 j,fn,tmps:=a.tmps,params:=ps,assign,body,defers:=w.heap.size}:=⟨_,rfl⟩
 have hj:∀j:Option Ex,(D5 j).isNone=j.isNone:=fun j=>by rcases j with _|⟨_|_⟩<;>rfl
 obtain⟨f,first,cap,rfl,he⟩:=hR.run lo (fun s j=>⟨_,by rw[p]⟩) (fun x h' K q z=>by
  refine⟨.inr ⟨_,rfl,⟨fun S hw1=>?_⟩⟩⟩
  subst hw1
  rw[p]at q
  have hy:=run_yield (P:=P) (args:=(kE ks x).toArray) q (by simp only[cT,ql];rw[←O];rfl)
  refine⟨_,_,_,_,hy,fun c cs=>?_⟩
  have hA:Agree N (L5 ps.toList (kE ks x) r) {tmps:=(ps.zip (kE ks x).toArray).foldl (fun t (x:Nat×Value)=>t.setIfInBounds x.1 x.2) a.tmps,defers:= []}:=by
   rw[IQ]
   exact Bp Z ⟨X.size,X.look⟩
  have m:∀j:Option Ex,∀W:World,Tame S W→(W.heap[w.heap.size+1]? =some (lo .busy none)∧K j.isNone (W.heap.setIfInBounds (w.heap.size+1) (lo (if j.isNone then .ready else .done) j)))→
    ∃v w',(Instr.endRound (w.heap.size+1) (D5 j)).run P W=.ok v w'∧∃b,Ending.returned v=.returned (.bool b)∧Tame S w'∧K b w'.heap:=by
   rintro j W H ⟨h1,T⟩
   rw[p]at h1
   have:=run_endRound (P:=P) (D5 j) h1
   refine⟨_,_,this,_,rfl,H.trans (lK ..),?_⟩
   rw[p]at T
   rw[hj]
   exact T
  have:=roundIn_of_wpIn (F:=FW none) (n:=0) (P:=P) (l:=w.heap.size+1) (f:=fn) (assign:=assign) (body:=body) (w:=S)
   (tmps:=(ps.zip (kE ks x).toArray).foldl (fun t (x:Nat×Value)=>t.setIfInBounds x.1 x.2) a.tmps)
   (R:=fun e w'=>∃b,e=.returned (.bool b)∧Tame S w'∧K b w'.heap) trivial (by
    refine qc (ro:=some (w.heap.size+1)) B assign aa _ _ _ _ S _ z hA (fun ch a w h=>h) ?_ (fun i r' a' w' _ _ h=>h.elim) (fun r' a' w' _ _ h=>h.elim)
    rintro r2 a2 Y ha2 D ⟨u,E⟩
    rw[p]at u
    refine⟨_,run_beginRound u rfl,?_⟩
    have G:∀o,o=lo .busy none→Y.heap.setIfInBounds (w.heap.size+1) o=Y.heap.setIfInBounds (w.heap.size+1) (lo .busy none):=fun o U=>by rw[U]
    refine qc (ro:=some (w.heap.size+1)) B body ab (fun _ T=>_) (fun e _ T=>_) _ _ (Y.putObj (w.heap.size+1) _) _ (by
     rw[E6,G _ (by rw[p])];exact E) ha2 (fun ch a w h=>h) ?_ ?_ ?_
    ·rintro r3 a3 L I y J
     exact m none L ((D.tame.trans (lK ..)).trans y.tame) J
    ·rintro i r3 a3 L I y J
     exact m (some (.exit i)) L ((D.tame.trans (lK ..)).trans y.tame) J
    ·rintro r3 a3 L I y J
     exact m (some .ret) L ((D.tame.trans (lK ..)).trans y.tame) J)
  obtain⟨e,w',⟨b,rfl,H,hK⟩,V⟩:=this.2 c cs (fun d h=>by simp[FW]at h)
  exact⟨b,w',H,hK,V.steps⟩)
 have A:=he.run ((w.alloc (.deferred (some []))).alloc (lo .ready none)) rfl;refine⟨w.heap.size+1,[AN w.heap.size],(w.alloc (.deferred (some []))).alloc (lo .ready none),{target:=.fn (.func f) cap,args:=first++ #[.func (.yield (w.heap.size+1)) #[] #[]]},(w.alloc (.deferred (some []))).alloc (lo .ready none),f,
  first++ #[.func (.yield (w.heap.size+1)) #[] #[]]++cap,(w.alloc (.deferred (some []))).alloc (lo .ready none),?_,?_,fun _ _=>trivial,?_,fun h=>by simp[FW]at h,?_⟩
 ·rw[p];exact run_enterLoop_outer fn a.tmps ps assign body
 ·have hev:=iG X hg
  simp[resolve,hev,Deferred.ofValue,Sem.run_pure];rfl
 ·simp[invoke,A.1]
 ·refine Bk ?_
  have e:(first.toList++ [Value.func (.yield (w.heap.size+1)) #[] #[]]++cap.toList).toArray=first++ #[.func (.yield (w.heap.size+1)) #[] #[]]++cap:=by apply cG;simp
  rw[←e];refine A.2.mono ?_;rintro e w' ⟨H,t,rfl,s,j,V,q,m⟩;have ht':Tame w w':=((Am w _).trans (Am _ _)).trans H;rw[p]at q;refine⟨_,_,run_endLoop q V,?_⟩;have C:∀o,Tame w (w'.putObj (w.heap.size+1) o):=fun o=>ht'.trans (lK ..)
  have G:∀o,o=lo .exhausted j→(w'.putObj (w.heap.size+1) o).heap=w'.heap.setIfInBounds (w.heap.size+1) (lo .exhausted j):=fun o U=>by rw[U];rfl
  rcases j with _|⟨i|_⟩
  ·exact hn _ (C _) (by rw[G _ (by rw[p])];exact m)
  ·exact wpIn_exit (hx i _ (C _) (by rw[G _ (by rw[p])];exact m))
  ·exact wpIn_ret (hr _ (C _) (by rw[G _ (by rw[p])];exact m))
theorem Bc{n N id d:Nat}{ops:Array Oper}{m o:Oper}{x:Operand}{f:FuncId}{as:List Operand}{vs:List Value}{v:Value}{r:cg}{a:Act}{w:World}{Q:Exit→Act→World→Prop}(b:Be ops.toList=some (m,o,x,d,f,as))(A:cU r x=some v)(k:d<N)(g:lq ((d,v)::r) as=some vs)(i:Agree N r a)
  (t:∀a',Agree N ((d,v)::r) a'→a'.defers=mL (.call f vs)::a.defers→Q .normal a' w):(Code.region id ops false).wpIn (FW none) n P Q a w:=by
 unfold Be at b;split at b
 ·rename_i m' o' hl
  split at b
  ·rename_i x' d' c h1 h2 h3 h4 h5 h6
   split at b
   ·rename_i f' hc
    cases b;have j:ops[0]? =some m:=by rw[←aR,hl];rfl
    have B:ops[1]? =some o:=by rw[←aR,hl];rfl
    have es:ops.size=2:=by rw[←Array.length_toList,hl];rfl
    have s:∀y,Region.wanted m y=true:=fun y=>by simp[Region.wanted,h2]
    have z:∀y,Region.wanted o y=true:=fun y=>by simp[Region.wanted,h6]
    refine wpIn_region ?_;rw[es,show dH 2= [0,1]from rfl]
    simp only[wpOpsIn,j,B,s,z,if_true];refine BigFrame.wpIn_move x h1 ?_;rw[iG i A,h3];have e:=i.put d v k;refine⟨fun _ _=>trivial,?_⟩
    have q:((Oper.semAt (FW none).round (a.put (some d) v).eval o).run P w)=.ok (.defer (mL (.call f vs))) w:=by
     show((execOp (a.put (some d) v).eval o).run P w)=_
     have p:=j1 e g;have u:c.args.map (a.put (some d) v).eval=vs.toArray:=by rw[←p];apply cG;simp
     simp only[execOp,h4,resolve,hc,u];simp[Act.eval,Deferred.ofValue,mL]
    rw[q,Oper.uponIn_defer,h5];exact t _ ⟨e.size,e.look⟩ rfl
   ·cases b
  ·cases b
 ·cases b
theorem DF(G:P.follows .mixedOrders=true){n N:Nat}(c:Code):∀(s:Ann) (Kn:List Mk→cg→ac→Prop) (Kx:Ex→List Mk→cg→ac→Prop) (ms:List Mk) (r:cg) (a:Act) (w:World) (Q:Exit→Act→World→Prop),
  uZ P N c s Kn Kx ms r w.heap→Agree N r a→a.defers=ms.map mL→(∀H a w,¬Q (.panic H) a w)→
  (∀p q a' w',Agree N q a'→a'.defers=p.map mL→Tame w w'→Kn p q w'.heap→Q .normal a' w')→
  (∀i p q a' w',Agree N q a'→a'.defers=p.map mL→Tame w w'→Kx (.exit i) p q w'.heap→Q (.exit i) a' w')→
  (∀p q a' w',Agree N q a'→a'.defers=p.map mL→Tame w w'→Kx .ret p q w'.heap→Q .ret a' w')→
  c.wpIn (FW none) n P Q a w:=by
 have plain:∀(c:Code) (s:Ann) (Kn:List Mk→cg→ac→Prop) (Kx:Ex→List Mk→cg→ac→Prop) (ms:List Mk) (r:cg) (a:Act) (w:World) (Q:Exit→Act→World→Prop),
  i1 P N c s (Kn ms) (fun e=>Kx e ms) r w.heap→Agree N r a→a.defers=ms.map mL→(∀H a w,¬Q (.panic H) a w)→
  (∀p q a' w',Agree N q a'→a'.defers=p.map mL→Tame w w'→Kn p q w'.heap→Q .normal a' w')→
  (∀i p q a' w',Agree N q a'→a'.defers=p.map mL→Tame w w'→Kx (.exit i) p q w'.heap→Q (.exit i) a' w')→
  (∀p q a' w',Agree N q a'→a'.defers=p.map mL→Tame w w'→Kx .ret p q w'.heap→Q .ret a' w')→
  c.wpIn (FW none) n P Q a w:=by
  intro c s Kn Kx ms r a w Q j u hd C z hx B;exact qc G c s _ _ r a w Q j u C (fun q a' w' E A D=>z ms q a' w' E (A.defers.trans hd) A.tame D) (fun i q a' w' E A D=>hx i ms q a' w' E (A.defers.trans hd) A.tame D)
   (fun q a' w' E A D=>B ms q a' w' E (A.defers.trans hd) A.tame D)
 induction c with
 |skip=>intro s Kn Kx ms r a w Q j;exact plain _ s Kn Kx ms r a w Q j
 |region id ops dr=>
  intro s Kn Kx ms r a w Q j u hd C z hx B;have j:(match Be ops.toList with
   |none=>i1 P N (.region id ops dr) s (Kn ms) (fun e=>Kx e ms) r w.heap
   |some (_,_,x,d,f,as)=>bif dr then False else match cU r x with
    |some v=>bif ud d N then(match lq ((d,v)::r) as with|some vs=>Kn (.call f vs::ms) ((d,v)::r) w.heap|none=>False)else False
    |none=>False):=j
  split at j
  ·exact plain _ s Kn Kx ms r a w Q j u hd C z hx B
  ·rename_i m o x d f as he
   cases dr with
   |true=>exact j.elim
   |false=>
    rw[cond_false]at j;split at j
    · rename_i v hv
      cases hb:ud d N with
      |false=>rw[hb]at j;exact j.elim
      |true=>
       rw[hb,cond_true]at j;split at j
       ·rename_i vs hvs
        refine Bc he hv (by simpa using hb) hvs u fun a' U R=>z (.call f vs::ms) _ a' w U ?_ ⟨rfl,rfl,rfl⟩ j
        rw[R,hd];rfl
       ·exact j.elim
    · exact j.elim
 |seq x y ihx ihy=>
  intro s Kn Kx ms r a w Q j u hd C z hx B;have j:(bif (bif pr x then true else pr y)then uZ P N x s.l (fun ms q h'=>uZ P N y s.r Kn Kx ms q h') Kx ms r w.heap
   else i1 P N (.seq x y) s (Kn ms) (fun e=>Kx e ms) r w.heap):=j
  cases hb:(bif pr x then true else pr y)with
  |false=>rw[hb]at j;exact plain _ _ _ _ _ _ _ _ _ j u hd C z hx B
  |true=>
   rw[hb,cond_true]at j;refine wpIn_seq (ihx s.l _ Kx ms r a w _ j u hd (fun H a w=>C H a w) ?_ hx B)
   intro O X a1 Z L T J W;exact ihy s.r Kn Kx O X a1 Z Q W L T C (fun p q a' w' E A D F=>z p q a' w' E A (J.trans D) F) (fun i p q a' w' E A D F=>hx i p q a' w' E A (J.trans D) F)
    (fun p q a' w' E A D F=>B p q a' w' E A (J.trans D) F)
 |cond c x y ihx ihy=>
  intro s Kn Kx ms r a w Q j u hd C z hx B;have j:(bif (bif pr x then true else pr y)then
    (match cU r c with
     |some (.bool t)=>CondP t (uZ P N x s.l Kn Kx ms r w.heap) (uZ P N y s.r Kn Kx ms r w.heap)
     |_=>False)
   else i1 P N (.cond c x y) s (Kn ms) (fun e=>Kx e ms) r w.heap):=j
  cases hb:(bif pr x then true else pr y)with
  |false=>rw[hb]at j;exact plain _ _ _ _ _ _ _ _ _ j u hd C z hx B
  |true=>
   rw[hb,cond_true]at j;split at j
   ·rename_i t I
    exact wpIn_cond_split (iG u I) (fun e=>ihx _ Kn Kx ms r a w Q (j.yes e) u hd C z hx B) (fun e=>ihy _ Kn Kx ms r a w Q (j.no e) u hd C z hx B)
   ·exact j.elim
 |block id b ih=>
  intro s Kn Kx ms r a w Q j u hd C z hx B;have j:(bif pr b then uZ P N b s Kn (fun e ms q h'=>match e with
    | .exit i=>bif bj i id then Kn ms q h' else Kx (.exit i) ms q h'
    | .ret=>Kx .ret ms q h') ms r w.heap
   else i1 P N (.block id b) s (Kn ms) (fun e=>Kx e ms) r w.heap):=j
  cases hb:pr b with
  |false=>rw[hb]at j;exact plain _ _ _ _ _ _ _ _ _ j u hd C z hx B
  |true=>
   rw[hb,cond_true]at j;refine wpIn_block (ih s Kn _ ms r a w _ j u hd (fun H a w=>C H a w) z (fun i p q a' w' E A D F=>?_) B)
   simp only[Exit.inBlock]at F⊢;cases hi:bj i id with
   |true=>
    rw[hi,cond_true]at F;rw[if_pos (aJ hi)];exact z p q a' w' E A D F
   |false=>
    rw[hi,cond_false]at F;rw[if_neg (fun e=>by rw[e,pd]at hi;cases hi)]
    exact hx i p q a' w' E A D F
 |loop b ih=>intro s Kn Kx ms r a w Q j;exact plain _ s Kn Kx ms r a w Q j
 |rangeFunc g ps assign body _ _=>
  intro s Kn Kx ms r a w Q j u hd C z hx B;cases s with
  |rf ks aa ab=>
   have j:(bif vf N ps.toList&&bj ps.toList.length ks.length then
    (match cU r g with
     |some fv=>RangeP P fv ks w.heap (fun Ev Y x k h'=>GD P N ps.toList ks assign body (.node aa ab) r (w.heap.size+1) Ev Y x k h')
       (fun h'=>Kn (.it w.heap.size::ms) r h') (fun i h'=>Kx (.exit i) (.it w.heap.size::ms) r h') (fun h'=>Kx .ret (.it w.heap.size::ms) r h')
     |none=>False)else False):=j
   cases hb:(vf N ps.toList&&bj ps.toList.length ks.length)with
   |false=>rw[hb]at j;exact j.elim
   |true=>
    rw[hb,cond_true]at j;rw[aS]at hb;split at j
    · rename_i fv hfv
      have V:Agree N r {a with defers:=AN w.heap.size::a.defers}:=⟨u.size,u.look⟩;have S:({a with defers:=AN w.heap.size::a.defers}:Act).defers=(.it w.heap.size::ms).map mL:=by rw[List.map_cons,←hd]
      exact zA G hb.1 (aJ hb.2) hfv u j (fun w' I K=>z _ r _ w' V S I K) (fun i w' I K=>hx i _ r _ w' V S I K) (fun w' I K=>B _ r _ w' V S I K)
    · exact j.elim
  |_=>exact j.elim
 |exit id=>intro s Kn Kx ms r a w Q j;exact plain _ s Kn Kx ms r a w Q j
 |scope b _=>intro s Kn Kx ms r a w Q j;exact j.elim
 |label l=>intro s Kn Kx ms r a w Q j;exact plain _ s Kn Kx ms r a w Q j
 |goto l=>intro s Kn Kx ms r a w Q j;exact j.elim
 |ret=>intro s Kn Kx ms r a w Q j;exact plain _ s Kn Kx ms r a w Q j
 |refuse why=>intro s Kn Kx ms r a w Q j;exact j.elim
theorem rJ{fn:Func}{ks:List Kind}{K:rF ks→ac→Prop}{N:Nat}{n:Nat}{r:cg}{a:Act}{g:World}(c:Agree N r a):∀(ms:List Mk) (w:World),Tame g w→
  ET P ms (fun h'=>ld P r h' fn.results.toList fun vs=>zE ks vs fun t=>K t h') w.heap→
  LeavesInM (FW none) n P fn a.tmps (fun e w'=>Tame g w'∧∃t:rF ks,e=.returned (zz ks (kE ks t))∧K t w'.heap) (ms.map mL) .returning w
 | [],w,ht,h=>by
  obtain⟨t,b,m⟩:=EZ c h;exact⟨_,b,ht,t,rfl,m⟩
 | .it D::ms,w,ht,h=>by
  refine⟨by simp,.inl ⟨D,_,rfl,run_takeDeferred h.1,?_⟩⟩;exact rJ c ms (w.putObj D (.deferred none)) (ht.trans (lK ..)) h.2
 | .call f vs::ms,w,ht,h=>by
  obtain⟨hc,hd⟩:=h w rfl;refine⟨by simp,.inr ⟨(fun e=>by cases e),.func f,#[],f,vs.toArray,rfl,?_,fun _ _=>trivial,CallsDIn.mono (hd (n-1)) fun e u w' ⟨j,d,⟨v,i⟩,k⟩=>?_⟩⟩
  ·have:=hc vs.toArray w
   simpa[invoke]using this
  ·subst j i
   exact rJ c ms w' (ht.trans d) k
theorem HE.introM(k:P.follows .mixedOrders=true){f:FuncId}{fn:Func}{c:Code}{q:Ann}{args:List Value}{ks:List Kind}{K:rF ks→ac→Prop}{h:ac}
  (y:P.funcs[f]? =some fn) (v:fn.body=some c) (b:∀(args:Array Value) (w:World),(callFunc f args).run P w=.ok (.enter f args) w) (m:args.length≤fn.ntmps)
  (u:GE P fn c q args ks K h):HE P f args ks K h:=by
 refine⟨fun w s=>⟨b,?_⟩⟩
 subst s;refine(callsIn_wide (n:=0)).1 (callsIn_of_wp_marks (F:=FW none) y v trivial ?_ rfl);refine wpIn_mono (Q:=fun e a w'=>(∀o,e≠ .panic o)∧bodyPostM (FW none) 0 P fn (fun e w'=>Tame w w'∧∃t:rF ks,e=.returned (zz ks (kE ks t))∧K t w'.heap) e a w') ?_ fun e a w h=>h.2
 refine DF k c q _ _ [] _ _ w _ u (HB m) rfl (fun o a w h=>h.1 o rfl) ?_ (fun _ _ _ _ _ _ _ _ h=>h.elim) ?_
 ·intro j x a' w' d i g p
  refine⟨(fun _ e=>by cases e),?_⟩
  show LeavesInM _ _ _ _ _ _ a'.defers _ _
  rw[i];exact rJ d j w' g p
 ·intro j x a' w' d i g p
  refine⟨(fun _ e=>by cases e),?_⟩
  show LeavesInM _ _ _ _ _ _ a'.defers _ _
  rw[i];exact rJ d j w' g p
theorem HC.introM(b:P.follows .mixedOrders=true){f:FuncId}{fn:Func}{c:Code}{g:Ann}{args:List Value}{ks:List Kind}{K:rF ks→ac→Prop}{h:ac}
 (j:P.funcs[f]? =some fn) (i:fn.body=some c) (a:∀(args:Array Value) (w:World),(callFunc f args).run P w=.ok (.enter f args) w) (d:args.length≤fn.ntmps)
 (e:GE P fn c g args ks K h):HC P f args ks K h:=(HE.introM b j i a d e).hc
end Go.Lift
namespace Go.Lift
open Go
def AppP(z:Option (List Value))(e b:Nat)(t:TypeId)(a:Option Addr)(sl d c:Nat)(xs:List Value)(h:ac)(K:SliceV→ac→Prop):Prop:=
 (sl+c≤d→rk h a (sl*e) xs∧bR xs=true∧K ⟨a,sl+c,d⟩ (eJ h a (sl*e) xs))∧
 (d<sl+c→∃old z',SRow h a (sl*e) old∧z=some z'∧0<b∧Builtin.nextslicecap (sl+c) d*b≤2^48∧
  ∀nc,sl+c≤nc→K ⟨some (bc h),sl+c,nc⟩ (hnew h (old++xs++db (nc-(sl+c)) z') t))
end Go.Lift
