/- A part of the proof that the named laws of this program answer true, whatever the input. -/
import Derived.Test.YtajpljopgikpgaaGreatDoorLift1
import Derived.BigFrameIn
open Array renaming getD_eq_getD_getElem?→dg,getElem?_toList→bE,getElem?_setIfInBounds_ne→eR,replicate→nL,getElem?_eq_some_iff→cj,getElem?_eq_getElem→ji,getElem?_eq_none→kU,mapM_eq_mapM_toList→m5,ext'→c8
open Bool renaming or_eq_true→jo,and_eq_true→bI,or_eq_false_iff→mr
open List renaming mem_of_getElem?→az,length_cons→aV,mem_cons→aA,getElem?_cons_zero→ce,getElem?_eq_getElem→ag,any_eq_true→cy,getElem?_eq_some_iff→aF,mem_cons_of_mem→aX,mem_cons_self→aE,range→cQ,filter_cons→cK,mem_singleton→au,size_toArray→cP
open Nat renaming blt→xM,beq→bL,eq_of_beq_eq_true→bm,land→jC,lor→cW,testBit_and→ii,zero_testBit→fW,succ→fX,zero_add→aL,beq_refl→rj,lt_or_ge→bK,pred→xm,sub_zero→fj
open Option renaming some→bF
namespace Go.Lift
open Go
variable {P:Program} {ro:Option Nat} {n:Nat}
def FW(ro:Option Nat):Fence:={fn:=fun _=>True,depth:=none,alive:=false,round:=ro}
theorem Po(m:Machine):m.fenced P (FW ro):=by
 intro g _;exact⟨fun h=>by simp[FW]at h,.inl trivial,fun _ _=>trivial,fun d h=>by simp[FW]at h⟩
theorem yF{m a:Machine}(h:Steps P m a):StepsIn (Machine.fenced P (FW ro)) P m a:=(StepsIn.of_steps h).mono fun m _=>Po m
theorem E1{k:Nat}{f:FuncId}{args:Array Value}{w:World}{R:Ending→World→Prop}(h:Calls P f args w R):CallsIn (FW ro) k P f args w R:=by
 refine⟨trivial,fun cs _=>?_⟩
 obtain⟨e,w',fr,d,hc,a,b⟩:=h cs;refine⟨e,w',fr,d,?_,a,b⟩;cases e with
 |returned v=>exact yF hc
 |panicked c=>exact yF hc
 |outgrown=>exact hc
theorem qc{o:Oper}{a:Act}{w:World}{K:WK}{next:Act→World→Prop}{Q:Exit→Act→World→Prop}(hd:∀c,o.op≠ .defer c)(h:KQ P (execOp a.eval o) K w)
  (j:∀v w',Tame w w'→K v w'.heap→next (a.put o.dst v) w'):o.wpIn (FW ro) n P a w next Q:=by
 refine⟨fun _ _=>trivial,?_⟩
 rw[Oper.semAt_eq _ _ _ hd];rcases h with⟨v,w',i,d,g⟩|⟨w',i,d,g⟩|⟨f,args,i,hc⟩|⟨l,fn,tmps,assign,body,i,hc⟩
 ·rw[i];exact j v w' d g
 ·rw[i];exact j undef w' d g
 ·rw[i]
  refine⟨fun h=>by simp[FW]at h,E1 (hc.mono ?_)⟩
  rintro e w' ⟨d,v,rfl,g⟩;exact j v w' d g
 ·rw[i]
  refine⟨fun h=>by simp[FW]at h,trivial,fun c cs _=>?_⟩
  obtain⟨b,w',d,g,k⟩:=hc c cs;exact⟨.returned (.bool b),w',j _ w' d g,yF k⟩
theorem sL{N:Nat}{o:Oper}{v:Value}{r:cJ}{K:cJ→Prop}{a:Act}{d:uK}{dv:DV}(h:yZ N o v r K)(c:Agree N r a)(hd:DecOk d r)(hv:Gz dv v):
  ∃r',K r'∧Agree N r' (a.put o.dst v)∧DecOk (rd d o dv) r':=by
 unfold yZ at h;unfold rd;cases ho:o.dst with
 |none=>rw[ho]at h;exact⟨r,h,c,hd⟩
 |some t=>
  rw[ho]at h;simp only at h;cases hb:xM t N with
  |false=>rw[hb]at h;exact h.elim
  |true=>
   rw[hb]at h;have b:t<N:=by simpa using hb
   refine⟨_,h,c.put t v b,fun s=>?_⟩
   by_cases e:t=s
   ·subst e
    have:qN ((t,dv)::d) t=dv:=by simp[qN]
    rw[this];exact .inr ⟨v,iB t v r,hv⟩
   ·have f:qN ((t,dv)::d) s=qN d s:=by
     have:bL t s=false:=Bool.eq_false_iff.2 fun e'=>e (bm e')
     show(bif bL t s then dv else qN d s)=_
     rw[this];rfl
    rw[f,gX v r e];exact hd s
theorem Cx{ek:Option (Kind×Kind)}{o:Op}{r:cJ}{K:RK}{h:ad}(a:Bm P ek o r K h):∀c,o≠ .defer c:=by
 intro c e;subst e;exact a
theorem wi{o:Oper}{r:cJ}{K:WK}{h:ad}(a:FV P o r K h):∀c,o.op≠ .defer c:=by
 intro c e;unfold FV at a;rw[e]at a;exact a
theorem V7{d:uK}{o:Op}(h:vN P o=false):Jl d o=.x:=by
 cases o<;>first|rfl|(simp[vN]at h)
theorem OO{N:Nat}{ek:Option (Kind×Kind)}{o:Oper}{r:cJ}{K:cJ→ad→Prop}{a:Act}{w:World}{d:uK}{next:Act→World→Prop}{Q:Exit→Act→World→Prop}
  (g:Vu P N ek o r K w.heap)(j:Agree N r a)(hd:DecOk d r)
  (q:∀v w' c,Tame w w'→K c w'.heap→Agree N c (a.put o.dst v)→DecOk (rd d o (Jl d o.op)) c→next (a.put o.dst v) w'):o.wpIn (FW ro) n P a w next Q:=by
 unfold Vu at g;cases hq:vN P o.op with
 |true=>
  rw[hq,cond_true]at g;obtain⟨v,S,p,y,k,z⟩:=BC j g d hd;refine qc (K:=fun u A=>u=v∧A=w.heap) (Cx g) (.inl ⟨v,w,z w y,Tame.refl w,rfl,rfl⟩) ?_
  rintro u w' m ⟨rfl,s⟩;obtain⟨c,b,i,f⟩:=sL p j hd k;exact q u w' c m (by rw[s];exact b) i f
 |false=>
  rw[hq,cond_false]at g;refine qc (wi g) (Bq j g) ?_;intro v w' m p;obtain⟨c,b,i,f⟩:=sL p j hd (dv:=Jl d o.op) (by rw[V7 hq];trivial);exact q v w' c m b i f
theorem Hi{t:Array Value}{i:Nat}{b:Bool}(h:t.getD i undef=.bool b):t[i]? =some (.bool b):=by
 rw[dg]at h;cases hc:t[i]? with
 |none=>rw[hc]at h;simp[undef]at h
 |some v=>rw[hc]at h;simp at h;rw[h]
theorem MA{t:Array Value}{i:Nat}(h:t.getD i undef=undef):t[i]? =none∨t[i]? =some undef:=by
 rw[dg]at h;cases hc:t[i]? with
 |none=>exact .inl rfl
 |some v=>rw[hc]at h;simp at h;rw[h];exact .inr rfl
theorem ni{N:Nat}{ops:Array Oper}{d:uK}{o:Oper}{b:Bool}{r:cJ}{a:Act}(h:jc ops.toList d o=some b)(m:Agree N r a)(hd:DecOk d r):
  Region.wanted o (yielded ops a.tmps)=b:=by
 unfold jc at h;unfold Region.wanted;cases hg:o.guard with
 |none=>rw[hg]at h;simp only[bF.injEq]at h;exact h
 |some g=>
  obtain⟨j,c⟩:=g;rw[hg]at h;simp only[bE]at h;simp only;cases hj:ops[j]? with
  |none=>rw[hj]at h;cases h
  |some oj=>
   rw[hj]at h;simp only at h;cases ht:oj.dst with
   |none=>rw[ht]at h;cases h
   |some t=>
    rw[ht]at h;simp only at h;have n:yielded ops a.tmps j=(match a.tmps[t]? with|some (.bool b)=>some b|_=>none):=by
     unfold yielded;simp[hj,ht];rfl
    rw[n];rcases hd t with hx|⟨v,hv,k⟩
    ·rw[hx]at h;cases h
    ·have i:=m.look t v hv
     cases hdl:qN d t with
     |x=>rw[hdl]at h;cases h
     |t=>
      rw[hdl]at h k;simp only[bF.injEq]at h;subst h;have:v=.bool true:=k;subst this;rw[Hi i];cases c<;>rfl
     |f=>
      rw[hdl]at h k;simp only[bF.injEq]at h;subst h;have:v=.bool false:=k;subst this;rw[Hi i];cases c<;>rfl
     |u=>
      rw[hdl]at h k;simp only[bF.injEq]at h;subst h;have:v=undef:=k;subst this;rcases MA i with e|e<;>rw[e]<;>cases c<;>rfl
structure Fr(W:Nat→Prop)(a0:Act)(w0:World)(a:Act)(w:World):Prop where
 tame:Tame w0 w
 defers:a.defers=a0.defers
 same:∀t,¬W t→a.tmps.getD t undef=a0.tmps.getD t undef
theorem Fr.refl(W:Nat→Prop)(a:Act)(w:World):Fr W a w a w:=⟨Tame.refl w,rfl,fun _ _=>rfl⟩
theorem Fr.put{W:Nat→Prop}{f a:Act}{w0 w w':World}(h:Fr W f w0 a w){o:Oper}(i:∀d,o.dst=some d→W d)(v:Value)(g:Tame w w'):Fr W f w0 (a.put o.dst v) w':=by
 refine⟨h.tame.trans g,?_,fun t c=>?_⟩
 ·cases ho:o.dst<;>simp[Act.put,h.defers]
 ·cases ho:o.dst with
  |none=>exact h.same t c
  |some d=>
   have b:d≠t:=fun e=>c (e▸i d ho)
   rw[←h.same t c];simp[Act.put,eR b]
theorem Fr.trans{W:Nat→Prop}{c a f:Act}{w0 g d:World}(h:Fr W c w0 a g)(k:Fr W a g f d):Fr W c w0 f d:=
 ⟨h.tame.trans k.tame,k.defers.trans h.defers,fun t b=>(k.same t b).trans (h.same t b)⟩
theorem Fr.mono{W W':Nat→Prop}{b a:Act}{w0 w:World}(h:Fr W b w0 a w)(c:∀t,W t→W' t):Fr W' b w0 a w:=
 ⟨h.tame,h.defers,fun t d=>h.same t fun e=>d (c t e)⟩
theorem DecOk.known{d:uK}{r:cJ}(h:DecOk d r){t:Nat}{dv:DV}{v:Value}(hv:Gz dv v):DecOk ((t,dv)::d) ((t,v)::r):=fun s=>by
 by_cases e:t=s
 ·subst e
  have:qN ((t,dv)::d) t=dv:=by simp[qN]
  rw[this];exact .inr ⟨v,iB t v r,hv⟩
 ·have a:qN ((t,dv)::d) s=qN d s:=by
   have:bL t s=false:=Bool.eq_false_iff.2 fun e'=>e (bm e')
   show(bif bL t s then dv else qN d s)=_
   rw[this];rfl
  rw[a,gX v r e];exact h s
theorem DJ{N:Nat}{ek:Option (Kind×Kind)}{ops:Array Oper}{o:Oper}{i:Nat}{d:uK}{r:cJ}{a:Act}{w:World}{b:Bool}{K:uK→cJ→ad→Prop}{next:Act→World→Prop}{Q:Exit→Act→World→Prop}
  (hi:ops[i]? =some o) (q:jc ops.toList d o=some b) (j:Agree N r a) (hd:DecOk d r)
  (p:match b with
   |true=>Vu P N ek o r (K (rd d o (Jl d o.op))) w.heap
   |false=>yZ N o undef r fun c=>K (rd d o .u) c w.heap)
  (m:∀v w' d' c,Tame w w'→K d' c w'.heap→Agree N c (a.put o.dst v)→DecOk d' c→next (a.put o.dst v) w'):
  wpOpIn (FW ro) n P ops Q i next a w:=by
 unfold wpOpIn;rw[hi];simp only[ni q j hd];cases b with
 |true=>exact OO p j hd fun v w' c s u g f=>m v w' _ c s u g f
 |false=>
  obtain⟨c,k,g,f⟩:=sL (dv:=.u) p j hd rfl;exact⟨fun _ _=>trivial,m undef w _ c (Tame.refl w) k g f⟩
theorem ON{N:Nat}{ek:Option (Kind×Kind)}{ops:List Oper}{o:Oper}{os:List Oper}{d:uK}{K:cJ→ad→Prop}{r:cJ}{h:ad}:D9 P N ek ops (o::os) d K r h=
 (match jc ops d o with
 |some true=>Vu P N ek o r (fun a c=>D9 P N ek ops os (rd d o (Jl d o.op)) K a c) h
 |some false=>yZ N o undef r fun a=>D9 P N ek ops os (rd d o .u) K a h
 |none=>match EJ ops o with
  |none=>False
  |some t=>match kq r t with
   |some (.bool b)=>CondP b
    (GP P N ek ops o ((t,.t)::d) ((t,.bool true)::r) h fun f a c=>D9 P N ek ops os f K a c)
    (GP P N ek ops o ((t,.f)::d) ((t,.bool false)::r) h fun f a c=>D9 P N ek ops os f K a c)
   |_=>False):=rfl
theorem GF{N:Nat}{ek:Option (Kind×Kind)}{ops:Array Oper}{o:Oper}{i:Nat}{d:uK}{r:cJ}{a:Act}{w:World}{K:uK→cJ→ad→Prop}{next:Act→World→Prop}{Q:Exit→Act→World→Prop}
  (hi:ops[i]? =some o) (f:Agree N r a) (hd:DecOk d r) (c:GP P N ek ops.toList o d r w.heap K)
  (g:∀v w' d' r',Tame w w'→K d' r' w'.heap→Agree N r' (a.put o.dst v)→DecOk d' r'→next (a.put o.dst v) w'):
  wpOpIn (FW ro) n P ops Q i next a w:=by
 unfold GP at c;cases hw:jc ops.toList d o with
 |none=>rw[hw]at c;exact c.elim
 |some b=>rw[hw]at c;exact DJ (ek:=ek) hi hw f hd (by cases b<;>exact c) g
theorem D8{N:Nat}{ek:Option (Kind×Kind)}{ops:Array Oper}{W:Nat→Prop}(y:∀o∈ops.toList,∀d,o.dst=some d→W d){u:Act}{w0:World}{K:cJ→ad→Prop}{Q:Exit→Act→World→Prop}
  (q:∀r a w,Agree N r a→Fr W u w0 a w→K r w.heap→Q .normal a w):
  ∀(l:List Oper) (i:Nat),ops.toList.drop i=l→∀(d:uK) (r:cJ) (a:Act) (w:World),D9 P N ek ops.toList l d K r w.heap→Agree N r a→DecOk d r→Fr W u w0 a w→
   wpOpsIn (FW ro) n P ops Q (List.range' i l.length) a w
 | [],i,_,d,r,a,w,hs,ha,hd,hf=>q r a w ha hf hs
 |o::os,i,hdr,d,r,a,w,hs,ha,hd,hf=>by
  have hi:ops[i]? =some o:=by
   rw[←bE];have:(ops.toList.drop i)[0]? =some o:=by rw[hdr];rfl
   simpa using this
  have j:o∈ops.toList:=az (by rw[bE];exact hi);have g:ops.toList.drop (i+1)=os:=by rw[←List.tail_drop,hdr];rfl
  rw[aV,List.range'_succ,wpOpsIn_cons];rw[ON]at hs;have m:∀v w' f c,Tame w w'→D9 P N ek ops.toList os f K c w'.heap→Agree N c (a.put o.dst v)→DecOk f c→wpOpsIn (FW ro) n P ops Q (List.range' (i+1) os.length) (a.put o.dst v) w':=
   fun v w' f c s z p k=>D8 y q os (i+1) g f c _ w' z p k (hf.put (y o j) v s)
  cases hw:jc ops.toList d o with
  |some b=>
   rw[hw]at hs;exact DJ (ek:=ek) (K:=fun f c A=>D9 P N ek ops.toList os f K c A) hi hw ha hd (by cases b<;>exact hs) m
  |none=>
   rw[hw]at hs;simp only at hs;split at hs
   ·exact hs.elim
   ·rename_i t s
    split at hs
    ·rename_i b hb
     cases b with
     |true=>exact GF hi (ha.known hb) (hd.known (dv:=.t) rfl) (hs.yes rfl) m
     |false=>exact GF hi (ha.known hb) (hd.known (dv:=.f) rfl) (hs.no rfl) m
    ·exact hs.elim
end Go.Lift
namespace Go.Lift
open Go
theorem zK(m i:Nat):tb m i=m.testBit i:=by
 have h:jC (Nat.shiftRight m i) 1=(m>>>i)&&&1:=rfl;unfold tb;rw[h,Nat.testBit_eq_decide_div_mod_eq,Nat.and_one_is_mod,Nat.shiftRight_eq_div_pow];cases hm:decide (m/2^i%2=1)with
 |true=>rw[of_decide_eq_true hm];rfl
 |false=>
  have a:=of_decide_eq_false hm;have:m/2^i%2=0:=by omega
  rw[this];rfl
theorem oc(a b i:Nat):(cW a b).testBit i=(a.testBit i||b.testBit i):=Nat.testBit_or a b i
theorem y4(i j:Nat):(gU i).testBit j=decide (i=j):=Nat.testBit_two_pow
theorem B2{a b:Nat}(h:bL (jC a b) 0=true)(t:Nat)(c:a.testBit t=true)(f:b.testBit t=true):False:=by
 have d:=bm h;have:(jC a b).testBit t=(a.testBit t&&b.testBit t):=ii a b t;rw[d,c,f]at this;simp at this
theorem TO{a b:Nat}(h:bL (jC a b) a=true)(t:Nat)(c:a.testBit t=true):b.testBit t=true:=by
 have d:=bm h;have:(jC a b).testBit t=(a.testBit t&&b.testBit t):=ii a b t;rw[d,c]at this;simpa using this.symm
theorem yh(i:Nat):∀l:List Edge,(mN l).testBit i=l.any fun e=>bL e.on i&&Region.binds .any e
 | []=>fW i
 |e::l=>by
  have a:=yh i l;have hc:mN (e::l)=bif Region.binds .any e then cW (gU e.on) (mN l)else mN l:=rfl;rw[hc,List.any_cons,←a];cases hb:Region.binds .any e with
  |true=>
   rw[cond_true,oc,y4,Bool.and_true];congr 1
   cases hd:bL e.on i with
   |true=>simpa using bm hd
   |false=>rw[decide_eq_false_iff_not];intro e';rw[e']at hd;simp at hd
  |false=>simp
theorem Ay(o:Oper)(i:Nat):(mN o.after.toList).testBit i=jd o i:=yh i o.after.toList
theorem zI(t:Nat):∀l:List Operand,(lS l).testBit t=true↔Operand.tmp t∈l
 | []=>by simp[show lS []=0 from rfl]
 |o::l=>by
  have a:=zI t l;cases o with
  |tmp u=>
   have hc:lS (.tmp u::l)=cW (gU u) (lS l):=rfl;rw[hc,oc,y4,jo,a,aA];simp[eq_comm]
  |const v=>
   have hc:lS (.const v::l)=lS l:=rfl;rw[hc,a,aA];simp
  |global v=>
   have hc:lS (.global v::l)=lS l:=rfl;rw[hc,a,aA];simp
  |func v=>
   have hc:lS (.func v::l)=lS l:=rfl;rw[hc,a,aA];simp
theorem wY(o:Oper)(t:Nat):(nK o).testBit t=true↔o.dst=some t:=by
 unfold nK;cases o.dst with
 |none=>simp
 |some d=>simp[y4]
theorem F8(ops:Array Oper)(o:Oper)(t:Nat):(ox ops.toList o).testBit t=true↔t∈o.looksAt ops:=by
 unfold ox Oper.looksAt;rw[oc,jo,zI,List.mem_append,List.mem_filterMap];refine or_congr ⟨fun h=>⟨_,h,rfl⟩,?_⟩ ?_
 ·rintro⟨x,hx,b⟩
  cases x<;>simp at b
  subst b;exact hx
 ·cases hg:o.guard with
  |none=>simp
  |some g=>
   obtain⟨j,a⟩:=g;simp only[bE];cases hj:ops[j]? with
   |none=>simp
   |some oj=>simp[wY]
variable {P:Program} {ro:Option Nat} {n:Nat} {ops:Array Oper} {Q:Exit→Act→World→Prop}
structure MsOk(ops:Array Oper)(ms:List DM):Prop where
 am:∀(i:Nat) (o:Oper) (m:DM),ops[i]? =some o→ms[i]? =some m→∀j,m.am.testBit j=jd o j
 lk:∀(i:Nat) (o:Oper) (m:DM),ops[i]? =some o→ms[i]? =some m→∀t,m.lk.testBit t=true↔t∈o.looksAt ops
 ds:∀(i:Nat) (o:Oper) (m:DM),ops[i]? =some o→ms[i]? =some m→∀t,m.ds.testBit t=true↔o.dst=some t
 len:ms.length=ops.size
 free:∀(i j:Nat) (m k:DM),ms[i]? =some m→ms[j]? =some k→m.fr.testBit j=true→j=i∨k.am.testBit i=true∨B4 m k=true
 nosel:∀(i:Nat) (o:Oper),ops[i]? =some o→(∀cs b,o.op≠ .select cs b)∧(∀c,o.op≠ .defer c)
theorem Ad(ops:List Oper):∀(l:List Oper) (ms:List DM),wD ops l ms=true→ms.length=l.length∧∀(i:Nat) (o:Oper) (m:DM),l[i]? =some o→ms[i]? =some m→
  m.am=mN o.after.toList∧m.lk=ox ops o∧m.ds=nK o
 | [],[],_=>⟨rfl,fun i o m h=>by simp at h⟩
 | [],_::_,h=>by cases h
 |o::l,[],h=>by cases h
 |o::l,m::ms,h=>by
  have hc:wD ops (o::l) (m::ms)=(bL (mN o.after.toList) m.am&&bL (ox ops o) m.lk&&bL (nK o) m.ds&&wD ops l ms):=rfl;rw[hc]at h;simp only[bI]at h;obtain⟨⟨⟨d,k⟩,f⟩,b⟩:=h;obtain⟨n,c⟩:=Ad ops l ms b;refine⟨by simp[n],fun i j g a hm=>?_⟩
  cases i with
  |zero=>
   simp only[ce,bF.injEq]at a hm;subst a;subst hm;exact⟨(bm d).symm,(bm k).symm,(bm f).symm⟩
  |succ i=>exact c i j g (by simpa using a) (by simpa using hm)
theorem Hj(i:Nat)(m:DM):∀(l:List DM) (j0:Nat),Hk i m l j0=true→∀(j:Nat) (k:DM),l[j]? =some k→m.fr.testBit (j0+j)=true→j0+j=i∨k.am.testBit i=true∨B4 m k=true
 | [],j0,_,j,k,hk,_=>by simp at hk
 |x::l,j0,h,j,k,hk,hb=>by
  have hc:Hk i m (x::l) j0=((!(tb m.fr j0)||bL j0 i||tb x.am i||B4 m x)&&Hk i m l (fX j0)):=rfl
  rw[hc]at h;simp only[bI,jo,Bool.not_eq_true',zK]at h;cases j with
  |zero=>
   simp only[ce,bF.injEq]at hk;subst hk;simp only[Nat.add_zero]at hb⊢;rcases h.1 with((a|a)|a)|a
   ·rw[a]at hb;cases hb
   ·exact .inl (bm a)
   ·exact .inr (.inl a)
   ·exact .inr (.inr a)
  |succ j=>
   have:=Hj i m l (j0+1) h.2 j k (by simpa using hk) (by rw[show j0+1+j=j0+(j+1) by omega];exact hb)
   rw[show j0+1+j=j0+(j+1) by omega]at this
   exact this
theorem CG(a:List DM):∀(l:List DM) (i0:Nat),Aj a l i0=true→∀(i:Nat) (m:DM),l[i]? =some m→Hk (i0+i) m a 0=true
 | [],i0,_,i,m,hm=>by simp at hm
 |x::l,i0,h,i,m,hm=>by
  have hc:Aj a (x::l) i0=(Hk i0 x a 0&&Aj a l (fX i0)):=rfl;rw[hc,bI]at h;cases i with
  |zero=>simp only[ce,bF.injEq]at hm;subst hm;exact h.1
  |succ i=>
   have:=CG a l (i0+1) h.2 i m (by simpa using hm);rw[show i0+1+i=i0+(i+1) by omega]at this
   exact this
theorem G6:∀(l:List Oper),Ke l=true→∀o∈l,(∀cs b,o.op≠ .select cs b)∧(∀c,o.op≠ .defer c)
 | [],_,o,a=>by cases a
 |x::l,h,o,a=>by
  simp only[Ke,bI]at h;rcases aA.1 a with rfl|a
  ·refine⟨fun cs b e=>?_,fun c e=>?_⟩
   ·rw[e]at h;cases h.1
   ·rw[e]at h;cases h.1
  ·exact G6 l h.2 o a
theorem L6{ms:List DM}(h:DB ops.toList ms=true):MsOk ops ms:=by
 have hc:DB ops.toList ms=(wD ops.toList ops.toList ms&&Aj ms ms 0&&Ke ops.toList):=rfl;rw[hc]at h;simp only[bI]at h;obtain⟨⟨d,g⟩,f⟩:=h;obtain⟨n,b⟩:=Ad ops.toList ops.toList ms d;refine⟨fun i o m a hm j=>?_,fun i o m a hm t=>?_,fun i o m a hm t=>?_,by simpa using n,fun i j m k hm c p=>?_,fun i o a=>?_⟩
 ·rw[(b i o m (by simpa using a) hm).1,Ay]
 ·rw[(b i o m (by simpa using a) hm).2.1,F8]
 ·rw[(b i o m (by simpa using a) hm).2.2,wY]
 ·have:=CG ms ms 0 g i m hm
  rw[aL]at this;have:=Hj i m ms 0 this j k c (by rwa [aL]);rwa [aL]at this
 ·exact G6 _ f o (az (by rw[bE];exact a))
theorem RW{ms:List DM}(hm:MsOk ops ms){i j:Nat}{b c:Oper}{k g:DM}(hi:ops[i]? =some b) (m:ops[j]? =some c) (a:ms[i]? =some k) (f:ms[j]? =some g) (h:B4 k g=true):
  (∀d,b.dst=some d→d∉c.looksAt ops)∧(∀d,b.dst=some d→c.dst≠some d)∧(∀d,c.dst=some d→d∉b.looksAt ops):=by
 unfold B4 at h;rw[bI]at h;refine⟨fun d hd n=>?_,fun d hd o=>?_,fun d hd n=>?_⟩
 ·exact B2 h.1 d ((hm.ds i b k hi a d).2 hd) (by rw[oc,(hm.lk j c g m f d).2 n,Bool.true_or])
 ·exact B2 h.1 d ((hm.ds i b k hi a d).2 hd) (by rw[oc,(hm.ds j c g m f d).2 o,Bool.or_true])
 ·exact B2 h.2 d ((hm.ds j c g m f d).2 hd) ((hm.lk i b k hi a d).2 n)
structure LsRel(ops:Array Oper)(ls:Nat)(listed:Array Bool):Prop where
 size:listed.size=ops.size
 bit:∀j,listed.getD j false=ls.testBit j
theorem LsRel.start:LsRel ops 0 (nL ops.size false):=⟨by simp,fun j=>by
 rw[fW,dg]
 by_cases h:j<ops.size<;>simp[h]⟩
theorem LsRel.put{ls:Nat}{listed:Array Bool}(h:LsRel ops ls listed){i:Nat}(hi:i<ops.size):LsRel ops (cW ls (gU i)) (listed.setIfInBounds i true):=by
 refine⟨by simp[h.size],fun j=>?_⟩
 rw[oc,y4,←h.bit];by_cases e:i=j
 ·subst e;simp[h.size,hi]
 ·simp[e,eR e]
theorem LsRel.unlisted{ls:Nat}{listed:Array Bool}(h:LsRel ops ls listed){i:Nat}(hi:i<ops.size):listed.getD i true=ls.testBit i:=by
 rw[←h.bit];have:i<listed.size:=by rw[h.size];exact hi
 simp[this]
theorem GW{ms:List DM}(hm:MsOk ops ms){ls:Nat}{listed:Array Bool}(h:LsRel ops ls listed){j:Nat}:j∈Region.ready .any ops listed↔∃m,ms[j]? =some m∧ls.testBit j=false∧GX m ls=true:=by
 rw[mem_ready];constructor
 ·rintro⟨i,o,n,b⟩
  have a:j<ops.size:=(cj.1 n).1;have g:j<ms.length:=by rw[hm.len];exact a
  refine⟨ms[j],ag g,by rw[←h.unlisted a];exact i,?_⟩
  unfold GX;have:jC (ms[j]).am ls=(ms[j]).am:=by
   apply Nat.eq_of_testBit_eq;intro t;have c:(jC (ms[j]).am ls).testBit t=((ms[j]).am.testBit t&&ls.testBit t):=ii _ _ t;rw[c];cases ht:(ms[j]).am.testBit t with
   |false=>rfl
   |true=>
    rw[hm.am j o _ n (ag g)]at ht;unfold jd at ht;obtain⟨e,k,f⟩:=cy.1 ht;simp only[bI]at f;have:=b e (by simpa using k) f.2;rw[bm f.1,h.bit]at this;rw[this];rfl
  rw[this];exact rj _
 ·rintro⟨m,d,i,p⟩
  have a:j<ops.size:=by rw[←hm.len];exact(aF.1 d).1
  refine⟨by rw[h.unlisted a];exact i,ops[j],ji a,fun e k f=>?_⟩
  rw[h.bit];refine TO p e.on ?_;rw[hm.am j _ m (ji a) d];unfold jd;exact cy.2 ⟨e,by simpa using k,by simp[f]⟩
theorem rz(ls:Nat):∀(l:List DM) (j0 j:Nat),j∈lW ls l j0↔∃k m,l[k]? =some m∧j=j0+k∧ls.testBit j=false∧GX m ls=true
 | [],j0,j=>by simp[show lW ls [] j0= []from rfl]
 |m::l,j0,j=>by
  have hc:lW ls (m::l) j0=bif !(tb ls j0)&&GX m ls then j0::lW ls l (fX j0)else lW ls l (fX j0):=rfl;have f:=rz ls l (j0+1) j;rw[hc,zK];have step:(∃k c,(m::l)[k]? =some c∧j=j0+k∧ls.testBit j=false∧GX c ls=true)↔(j=j0∧ls.testBit j0=false∧GX m ls=true)∨j∈lW ls l (j0+1):=by
   rw[f];constructor
   ·rintro⟨k,c,d,rfl,a,b⟩
    cases k with
    |zero=>simp only[ce,bF.injEq]at d;subst d;exact .inl ⟨rfl,a,b⟩
    |succ k=>exact .inr ⟨k,c,by simpa using d,by omega,a,b⟩
   ·rintro(⟨rfl,a,b⟩|⟨k,c,d,rfl,a,b⟩)
    ·exact⟨0,m,rfl,rfl,a,b⟩
    ·exact⟨k+1,c,by simpa using d,by omega,a,b⟩
  rw[step];cases hb:(!(ls.testBit j0)&&GX m ls)with
  |true=>
   simp only[bI,Bool.not_eq_true']at hb;rw[cond_true,aA];simp[hb.1,hb.2]
  |false=>
   rw[cond_false];constructor
   ·exact .inr
   ·rintro(⟨_,a,b⟩|h)
    ·rw[a,b]at hb;cases hb
    ·exact h
theorem mD{ms:List DM}(hm:MsOk ops ms){ls:Nat}{listed:Array Bool}(h:LsRel ops ls listed){j:Nat}:j∈Region.ready .any ops listed↔j∈lW ls ms 0:=by
 rw[GW hm h,rz];constructor
 ·rintro⟨m,a,b,c⟩;exact⟨j,m,a,by omega,b,c⟩
 ·rintro⟨k,m,a,rfl,b,c⟩;exact⟨m,by simpa using a,b,c⟩
theorem xy:∀{a b:List Nat},uU a b=true→a=b
 | [],[],_=>rfl
 | [],_::_,h=>by cases h
 |_::_,[],h=>by cases h
 |a::as,b::bs,h=>by
  simp only[uU,bI]at h;rw[bm h.1,xy h.2]
end Go.Lift
namespace Go.Lift
open Go
variable {P:Program} {ro:Option Nat} {n:Nat} {ops:Array Oper} {Q:Exit→Act→World→Prop}
theorem zH{m:Nat}{p:Nat→Bool}(hm:∀j,m.testBit j=true→p j=true):∀(l:List DM) (j0:Nat),(∀j x,l[j]? =some x→p (j0+j)=true→∀k,x.am.testBit k=true→p k=true)→∀k,(upM m l j0).testBit k=true→p k=true
 | [],_,_,k,h=>hm k h
 |x::l,j0,hl,k,h=>by
  have hc:upM m (x::l) j0=bif tb m j0 then cW x.am (upM m l (fX j0))else upM m l (fX j0):=rfl;have a:=zH hm l (j0+1) (fun j y b c=>hl (j+1) y (by simpa using b) (by rw[show j0+(j+1)=j0+1+j by omega];exact c)) k
  rw[hc,zK]at h;cases hb:m.testBit j0 with
  |true=>
   rw[hb,cond_true,oc,jo]at h;rcases h with h|h
   ·exact hl 0 x rfl (hm _ hb) k h
   ·exact a h
  |false=>
   rw[hb,cond_false]at h;exact a h
theorem zG{m k:Nat}(h:m.testBit k=true):∀(l:List DM) (j0:Nat),(upM m l j0).testBit k=true
 | [],_=>h
 |x::l,j0=>by
  have hc:upM m (x::l) j0=bif tb m j0 then cW x.am (upM m l (fX j0))else upM m l (fX j0):=rfl;have a:=zG h l (j0+1);rw[hc];cases tb m j0 with
  |true=>rw[cond_true,oc,jo];exact .inr a
  |false=>exact a
def Shut(ms:List DM)(listed:Array Bool):Prop:=∀j x,ms[j]? =some x→listed.getD j false=true→∀k,x.am.testBit k=true→listed.getD k false=true
theorem Pz{ms:List DM}{listed:Array Bool}(c:Shut ms listed){m:Nat}(hm:∀j,m.testBit j=true→listed.getD j false=true){k:Nat}(h:(Ar ms m).testBit k=true):listed.getD k false=true:=by
 have a:∀j x,ms[j]? =some x→(fun k=>listed.getD k false) (0+j)=true→∀k,x.am.testBit k=true→(fun k=>listed.getD k false) k=true:=fun j x hx b=>c j x hx (by rw[aL]at b;exact b)
 unfold Ar at h;exact zH (p:=fun k=>listed.getD k false) (zH (zH (zH hm ms 0 a) ms 0 a) ms 0 a) ms 0 a k h
theorem Hv{ms:List DM}{m k:Nat}(h:m.testBit k=true):(Ar ms m).testBit k=true:=by
 unfold Ar;exact zG (zG (zG (zG h ms 0) ms 0) ms 0) ms 0
noncomputable abbrev rel(ms:List DM)(i:Nat)(L:qC):qC:=zP (Ar ms (IV ms i)) L
theorem jV{m:Nat}{x:Nat×(ad→Prop)}:∀{L:qC},x∈zP m L↔x∈L∧tb m x.1=false
 | []=>by simp[zP]
 |(k,S)::L=>by
  have b:=jV (m:=m) (x:=x) (L:=L);simp only[zP];cases hk:tb m k with
  |true=>
   rw[cond_true,b,aA];constructor
   ·exact fun h=>⟨.inr h.1,h.2⟩
   ·rintro⟨h|h,a⟩
    ·subst h;rw[hk]at a;cases a
    ·exact⟨h,a⟩
  |false=>
   rw[cond_false,aA,b,aA];constructor
   ·rintro(h|h)
    ·subst h;exact⟨.inl rfl,hk⟩
    ·exact⟨.inr h.1,h.2⟩
   ·rintro⟨h|h,a⟩
    ·exact .inl h
    ·exact .inr ⟨h,a⟩
def Qa(ms:List DM)(ro:Option Nat)(n:Nat)(P:Program)(ops:Array Oper)(Q:Exit→Act→World→Prop):Nat→qC→Array Bool→Act→World→Prop
 |0,_,listed,a,w=>Region.ready .any ops listed= []∧Q .normal a w
 |f+1,L,listed,a,w=>(Region.ready .any ops listed= []→Q .normal a w)∧
  ∀i∈Region.ready .any ops listed,∀o,ops[i]? =some o→
   wpOpIn (FW ro) n P ops Q i (fun a' w'=>(∀x∈rel ms i L,x.2 w'.heap)∧Qa ms ro n P ops Q f (rel ms i L) (listed.setIfInBounds i true) a' w') a w
theorem wB{o:Oper}{x:Nat×(ad→Prop)}:∀{L:qC},x∈oH o L↔x∈L∧jd o x.1=false
 | []=>by simp[oH]
 |(k,S)::L=>by
  have b:=wB (o:=o) (x:=x) (L:=L);simp only[oH];cases hk:jd o k with
  |true=>
   rw[cond_true,b,aA];constructor
   ·exact fun h=>⟨.inr h.1,h.2⟩
   ·rintro⟨h|h,a⟩
    ·subst h;rw[hk]at a;cases a
    ·exact⟨h,a⟩
  |false=>
   rw[cond_false,aA,b,aA];constructor
   ·rintro(h|h)
    ·subst h;exact⟨.inl rfl,hk⟩
    ·exact⟨.inr h.1,h.2⟩
   ·rintro⟨h|h,a⟩
    ·exact .inl h
    ·exact .inr ⟨h,a⟩
theorem OY{listed:Array Bool}{i:Nat}(h:i∈Region.ready .any ops listed):∃o,ops[i]? =some o:=by
 obtain⟨_,o,a,_⟩:=mem_ready.1 h;exact⟨o,a⟩
theorem NA{ms:List DM}:∀(f:Nat) (L:qC) (listed:Array Bool) (a:Act) (w:World),Qa ms ro n P ops Q f L listed a w→wpAnyIn (FW ro) n P .any ops Q f listed a w
 |0,_,_,_,_,h=>h
 |f+1,L,listed,a,w,h=>⟨h.1,fun i hi=>by
  obtain⟨o,b⟩:=OY hi
  exact wpOpIn_mono (fun a' w' c=>NA f _ _ a' w' c.2) (h.2 i hi o b)⟩
theorem tV{ms:List DM}:∀(f:Nat) (L L':qC) (listed:Array Bool) (a:Act) (w:World),(∀x∈L',x∈L∨∀h,x.2 h)→Qa ms ro n P ops Q f L listed a w→Qa ms ro n P ops Q f L' listed a w
 |0,_,_,_,_,_,_,h=>h
 |f+1,L,L',listed,a,w,hs,h=>⟨h.1,fun i hi o d=>by
  have b:∀x∈rel ms i L',x∈rel ms i L∨∀h,x.2 h:=fun x hx=>(hs x (jV.1 hx).1).imp (fun h=>jV.2 ⟨h,(jV.1 hx).2⟩) id
  exact wpOpIn_mono (fun a' w' c=>⟨fun x hx=>(b x hx).elim (c.1 x) fun h=>h _,tV f _ _ _ a' w' b c.2⟩) (h.2 i hi o d)⟩
def YG(P:Program)(ops:Array Oper)(S:ad→Prop)(o:Oper)(v:Value)(a:Act):Prop:=
 (Region.wanted o (yielded ops a.tmps)=true∧∀w:World,S w.heap→(execOp a.eval o).run P w=.ok (.value v) w)∨
 (Region.wanted o (yielded ops a.tmps)=false∧v=undef)
theorem YG.wpOp{S:ad→Prop}{i:Nat}{o:Oper}{v:Value}{a:Act}(hi:ops[i]? =some o) (hd:∀c,o.op≠ .defer c) (d:YG P ops S o v a) {K:Act→World→Prop} {w:World} (f:S w.heap)
  (h:K (a.put o.dst v) w):wpOpIn (FW ro) n P ops Q i K a w:=by
 unfold wpOpIn;simp only[hi];rcases d with⟨b,hv⟩|⟨b,rfl⟩
 ·simp only[b,if_true]
  refine⟨fun _ _=>trivial,?_⟩
  rw[Oper.semAt_eq _ _ _ hd,hv w f];exact h
 ·simp only[b,Bool.false_eq_true,if_false];exact⟨fun _ _=>trivial,h⟩
theorem YG.of_same{S:ad→Prop}{o:Oper}{v:Value}{a a':Act}(d:YG P ops S o v a)(c:execOp a'.eval o=execOp a.eval o)
  (b:Region.wanted o (yielded ops a'.tmps)=Region.wanted o (yielded ops a.tmps)):YG P ops S o v a':=by
 unfold YG at*;rw[c,b];exact d
theorem Lp{S:ad→Prop}{j:Nat}{g i:Oper}{v:Value}(E:ops[j]? =some i)
  (B:(∀d,g.dst=some d→d∉i.looksAt ops)∧(∀d,g.dst=some d→i.dst≠some d)∧(∀d,i.dst=some d→d∉g.looksAt ops))
  (y:∀cs b,g.op≠ .select cs b) (A:∀cs b,i.op≠ .select cs b) (s:∀c,i.op≠ .defer c)
  (F:∀e a w,(∀c,e=.panic c→False)∨¬Q e a w) {K:Act→World→Prop} {a:Act} {w:World}
  (m:YG P ops S g v a) (h:wpOpIn (FW ro) n P ops Q j K (a.put g.dst v) w):
  wpOpIn (FW ro) n P ops Q j (fun a' w'=>YG P ops S g v a'∧K (a'.put g.dst v) w') a w:=by
 obtain⟨C,p,z⟩:=B;have o:∀c a w,¬Q (.panic c) a w:=fun c a w D=>(F (.panic c) a w).elim (fun h=>h c rfl) fun h=>h D
 have keep:∀(a:Act),YG P ops S g v a→∀u,YG P ops S g v (a.put i.dst u):=fun a m u=>
  m.of_same (execOp_put g y a i.dst u z) (wanted_put g a i.dst u z)
 unfold wpOpIn at*;simp only[E]at*;rw[wanted_put i a g.dst v C]at h;split
 ·rename_i hw
  simp only[hw,if_true]at h;refine⟨fun _ _=>trivial,?_⟩
  have h:=h.2;rw[Oper.semAt_eq _ _ _ s,execOp_put i A a g.dst v C]at h;rw[Oper.semAt_eq _ _ _ s];generalize (execOp a.eval i).run P w=r at*;cases r with
  |ok x w'=>
   cases x<;>simp only[Oper.uponIn]at h⊢
   case value u=>exact⟨keep a m u,by rw[←Act.put_comm a v u p];exact h⟩
   case skip=>exact⟨keep a m _,by rw[←Act.put_comm a v undef p];exact h⟩
   case defer d=>
    refine⟨(m.of_same (a':={a with defers:=d::a.defers}) rfl rfl).of_same (execOp_put g y _ i.dst undef z) (wanted_put g _ i.dst undef z),?_⟩;rw[←Act.put_comm _ v undef p,←Act.put_defers];exact h
   case enter f args=>
    refine⟨h.1,CallsIn.mono h.2 fun e q k=>?_⟩
    cases e with
    |returned u=>exact⟨keep a m u,by rw[←Act.put_comm a v u p];exact k⟩
    |panicked c=>exact(o _ _ _ k).elim
    |outgrown=>exact k
   case row row args=>exact⟨h.1,RowsIn.mono h.2 fun u q k=>⟨keep a m u,by rw[←Act.put_comm a v u p];exact k⟩⟩
   case round l f tmps assign body=>
    refine⟨h.1,RoundIn.mono h.2 fun e q k=>?_⟩
    cases e with
    |returned u=>exact⟨keep a m u,by rw[←Act.put_comm a v u p];exact k⟩
    |panicked c=>exact(o _ _ _ k).elim
    |outgrown=>exact k
  |halt x w'=>
   cases x<;>simp only[Oper.uponIn]at h⊢
   case panic u=>exact(o _ _ _ h).elim
 ·rename_i hw
  simp only[hw]at h;exact⟨fun _ _=>trivial,keep a m _,by rw[←Act.put_comm a v undef p];exact h.2⟩
theorem IU{ms:List DM}(hm:MsOk ops ms){i:Nat}{o:Oper}(a:ops[i]? =some o) (k:Nat):(IV ms i).testBit k=jd o k:=by
 have hi:i<ms.length:=by rw[hm.len];exact(cj.1 a).1
 unfold IV;rw[ag hi];exact hm.am i o _ a (ag hi) k
theorem JK{ms:List DM}(hm:MsOk ops ms){listed:Array Bool}{j:Nat}(g:j∈Region.ready .any ops listed)(k:Nat)(b:(IV ms j).testBit k=true):listed.getD k false=true:=by
 obtain⟨_,o,d,a⟩:=mem_ready.1 g;rw[IU hm d]at b;unfold jd at b;obtain⟨e,f,c⟩:=cy.1 b;simp only[bI]at c;have:=a e (by simpa using f) c.2;rw[bm c.1]at this;exact this
theorem Kr{listed:Array Bool}{j k:Nat}(h:listed.getD k false=true):(listed.setIfInBounds j true).getD k false=true:=by
 by_cases e:j=k
 ·subst e
  rw[dg]at h⊢;rcases bK j listed.size with a|a
  ·simp[a]
  ·simp[kU a]at h
 ·rw[dg,eR e,←dg]
  exact h
theorem Shut.put{ms:List DM}(hm:MsOk ops ms){listed:Array Bool}(c:Shut ms listed){j:Nat}(d:j∈Region.ready .any ops listed):Shut ms (listed.setIfInBounds j true):=by
 intro i x hx b k a;by_cases e:j=i
 ·subst e
  refine Kr (JK hm d k ?_);unfold IV;rw[hx];exact a
 ·rw[dg,eR e,←dg]at b
  exact Kr (c i x hx b k a)
theorem DK{ms:List DM}(hm:MsOk ops ms){S:ad→Prop}{i:Nat}{z:Oper}{v:Value}(hi:ops[i]? =some z) (g:∀(j:Nat) (o:Oper),ops[j]? =some o→(∀cs b,o.op≠ .select cs b)∧(∀c,o.op≠ .defer c))
  (hQ:∀e a w,(∀c,e=.panic c→False)∨¬Q e a w):
  ∀(fuel:Nat) (L:qC) (listed:Array Bool) (a:Act) (w:World),
   (∀j q,ops[j]? =some q→j≠i→listed.getD j true=false→jd q i=false→
    (∀d,z.dst=some d→d∉q.looksAt ops)∧(∀d,z.dst=some d→q.dst≠some d)∧(∀d,q.dst=some d→d∉z.looksAt ops))→
   Shut ms listed→i∈Region.ready .any ops listed→YG P ops S z v a→S w.heap→(∀x∈L,x.2 w.heap)→
   Qa ms ro n P ops Q fuel ((i,S)::L) (listed.setIfInBounds i true) (a.put z.dst v) w→Qa ms ro n P ops Q (fuel+1) L listed a w:=by
 intro fuel;induction fuel with
 |zero=>
  intro L listed a w _ _ B V W Z H;refine⟨fun h=>(by rw[h]at B;cases B),fun j G q f=>?_⟩
  by_cases m:j=i
  ·subst m
   rw[hi]at f;cases f;exact V.wpOp hi (g _ _ hi).2 W ⟨fun x hx=>Z x (jV.1 hx).1,H⟩
  ·have:=ready_mono G m
   rw[H.1]at this;cases this
 |succ fuel ih=>
  intro L listed a w s O B V W Z H;refine⟨fun h=>(by rw[h]at B;cases B),fun j G q f=>?_⟩
  by_cases m:j=i
  ·subst m
   rw[hi]at f;cases f;exact V.wpOp hi (g _ _ hi).2 W ⟨fun x hx=>Z x (jV.1 hx).1,tV _ _ _ _ _ _ (fun x hx=>.inl (aX _ (jV.1 hx).1)) H⟩
  ·have p:=H.2 j (ready_mono G m) q f
   obtain⟨A,oj',C,R⟩:=mem_ready.1 G;rw[f]at C;cases C;have M:jd q i=false:=by
    cases y:jd q i with
    |false=>rfl
    |true=>
     unfold jd at y;obtain⟨e,he,y⟩:=cy.1 y;simp only[bI]at y;have p:=R e (by simpa using he) y.2;rw[bm y.1]at p;have I:=(mem_ready.1 B).1;rcases bK i listed.size with D|D
     ·simp[D]at I p;rw[I]at p;cases p
     ·simp[kU D]at p
   have E:tb (Ar ms (IV ms j)) i=false:=by
    cases y:tb (Ar ms (IV ms j)) i with
    |false=>rfl
    |true=>
     rw[zK]at y;have p:=Pz O (JK hm G) y;have I:=(mem_ready.1 B).1;rcases bK i listed.size with D|D
     ·simp[D]at I p;rw[I]at p;cases p
     ·simp[kU D]at p
   have K:rel ms j ((i,S)::L)=(i,S)::rel ms j L:=by simp only[rel,zP,E,cond_false]
   rw[K]at p;have h2:=Lp f (s j q f m A M) (g _ _ hi).1 (g _ _ f).1 (g _ _ f).2 hQ V p;have u:∀k F,ops[k]? =some F→k≠i→(listed.setIfInBounds j true).getD k true=false→jd F i=false→
     (∀d,z.dst=some d→d∉F.looksAt ops)∧(∀d,z.dst=some d→F.dst≠some d)∧(∀d,F.dst=some d→d∉z.looksAt ops):=fun k F hk X J Y=>by
    refine s k F hk X ?_ Y;by_cases T:j=k
    ·subst T;exact A
    ·rw[getD_set_ne true T]at J;exact J
   refine wpOpIn_mono (fun a' w' N=>⟨fun x hx=>N.2.1 x (aX _ hx),ih (rel ms j L) (listed.setIfInBounds j true) a' w' u (O.put hm G) (ready_mono B (Ne.symm m)) N.1 (N.2.1 _ (aE ..)) (fun x hx=>N.2.1 x (aX _ hx)) ?_⟩) h2
   rw[Array.setIfInBounds_comm _ _ m];exact N.2.2
theorem qY{h:ad}{R:Prop}:∀{L:qC},rB L h R↔(∀x∈L,x.2 h)∧R
 | []=>by simp[rB]
 |(k,S)::L=>by
  simp only[rB,qY (L:=L),aA,forall_eq_or_imp,and_assoc]
theorem P9{ms:List DM}{f:Nat}{L:qC}{listed:Array Bool}{a:Act}{w:World}(b:Region.ready .any ops listed= [])(h:Q .normal a w):Qa ms ro n P ops Q f L listed a w:=by
 cases f with
 |zero=>exact⟨b,h⟩
 |succ f=>exact⟨fun _=>h,by rw[b];simp⟩
def left(ops:Array Oper)(ls:Nat):Nat:=((cQ ops.size).filter fun j=> !ls.testBit j).length
theorem wE{ls i:Nat}(hi:i<ops.size)(f:ls.testBit i=false):left ops (cW ls (gU i))+1=left ops ls:=by
 have key:∀l:List Nat,l.Nodup→i∈l→(l.filter fun j=> !(cW ls (gU i)).testBit j).length+1=(l.filter fun j=> !ls.testBit j).length:=by
  intro l;induction l with
  |nil=>intro _ h;cases h
  |cons x l ih=>
   intro c hm;rw[List.nodup_cons]at c;by_cases hx:x=i
   ·subst hx
    have a:(l.filter fun j=> !(cW ls (gU x)).testBit j)=l.filter fun j=> !ls.testBit j:=by
     apply List.filter_congr;intro y g;have:x≠y:=fun e=>c.1 (e▸g)
     rw[oc,y4,decide_eq_false this,Bool.or_false]
    have d:(cW ls (gU x)).testBit x=true:=by rw[oc,y4];simp
    rw[cK,cK,d,f,a];rfl
   ·have b:i∈l:=by rcases aA.1 hm with h|h;exact absurd h.symm hx;exact h
    have d:(cW ls (gU i)).testBit x=ls.testBit x:=by rw[oc,y4,decide_eq_false (Ne.symm hx),Bool.or_false]
    have:=ih c.2 b;rw[cK,cK,d];cases ls.testBit x with
    |true=>exact this
    |false=>exact congrArg (· +1) this
 exact key _ List.nodup_range (List.mem_range.2 hi)
theorem Pn{N:Nat}{a:List Oper}{ms:List DM}{ls:Nat}{L:qC}{d:uK}{K:cJ→ad→Prop}{r:cJ}{b:ad}:∀{l:DA},np P N a ms l true ls L d K r b→∃i,i∈BO l
 | .done,h=>h.elim
 | .take i rest,h=>by
  exfalso;have hc:np P N a ms (.take i rest) true ls L d K r b=(match a[i]?,ms[i]? with|some _,some _=>False|_,_=>False):=rfl
  rw[hc]at h;split at h<;>exact h
 | .all _,h=>h.elim
 | .pick i _ _,_=>⟨i,aE ..⟩
 | .last i _,_=>⟨i,aE ..⟩
 | .lastT i _,_=>⟨i,aE ..⟩
 | .split ..,h=>h.elim
def Nl(ro:Option Nat)(n:Nat)(P:Program)(ops:Array Oper)(Q:Exit→Act→World→Prop)(N:Nat)(ms:List DM)(W:Nat→Prop)(c:Act)(w0:World)(K:cJ→ad→Prop)(b:DA):Prop:=
 ∀(m:Bool) (ls:Nat) (L:qC) (d:uK) (r:cJ) (a:Act) (w:World) (listed:Array Bool) (fuel:Nat),
  np P N ops.toList ms b m ls L d K r w.heap→Agree N r a→DecOk d r→Fr W c w0 a w→LsRel ops ls listed→Shut ms listed→(∀x∈L,x.2 w.heap)→
  (m=false→left ops ls≤fuel→Qa ms ro n P ops Q fuel L listed a w)∧
  (m=true→left ops ls≤fuel+1→∀i∈BO b,i∈lW ls ms 0→∀o,ops[i]? =some o→
   wpOpIn (FW ro) n P ops Q i (fun a' w'=>(∀x∈rel ms i L,x.2 w'.heap)∧Qa ms ro n P ops Q fuel (rel ms i L) (listed.setIfInBounds i true) a' w') a w)
theorem JC{N:Nat}{ms:List DM}(hm:MsOk ops ms){W:Nat→Prop}(hW:∀o∈ops.toList,∀d,o.dst=some d→W d){a0:Act}{w0:World}{K:cJ→ad→Prop}
  (hQ:∀r a w,Agree N r a→Fr W a0 w0 a w→K r w.heap→Q .normal a w)(hnp:∀e a w,(∀c,e=.panic c→False)∨¬Q e a w)(da:DA):
  Nl ro n P ops Q N ms W a0 w0 K da:=by
 have one:∀(i:Nat) (g:DA)
   (_:Nl ro n P ops Q N ms W a0 w0 K g)
   (ls:Nat) (L:qC) (d:uK) (r:cJ) (a:Act) (w:World) (listed:Array Bool) (fuel:Nat),
   OQ P N ops.toList i L d r w.heap (fun L' d' D h'=>np P N ops.toList ms g false (cW ls (gU i)) L' d' K D h')→Agree N r a→DecOk d r→Fr W a0 w0 a w→LsRel ops ls listed→Shut ms listed→
   left ops ls≤fuel+1→i∈lW ls ms 0→∀o,ops[i]? =some o→
    wpOpIn (FW ro) n P ops Q i (fun a' w'=>(∀x∈rel ms i L,x.2 w'.heap)∧Qa ms ro n P ops Q fuel (rel ms i L) (listed.setIfInBounds i true) a' w') a w:=by
  intro i g V ls L d r a w listed fuel f z hd F y p A hr o s;have B:i<ops.size:=(cj.1 s).1;obtain⟨k,mm,hk,hki,J,_⟩:=(rz ls ms 0 i).1 hr;unfold OQ at f;rw[bE,s]at f;simp only at f;cases hw:jc ops.toList d o with
  |none=>rw[hw]at f;exact f.elim
  |some b=>
   rw[hw]at f;cases b with
   |false=>exact f.elim
   |true=>
    simp only at f;cases hq:vN P o.op with
    |true=>
     rw[hq,cond_true]at f;unfold wpOpIn;rw[s];simp only[ni hw z hd,if_true];obtain⟨v,S,hK,hS,_,X⟩:=BC z f d hd;refine qc (K:=fun u h'=>u=v∧h'=w.heap) (Cx f) (.inl ⟨v,w,X w hS,Tame.refl w,rfl,rfl⟩) ?_
     rintro u w' ht ⟨rfl,hw'⟩;obtain⟨D,G,I,H⟩:=sL (dv:=.x) hK z hd trivial;obtain⟨hh,Y⟩:=qY.1 G;have C:o∈ops.toList:=az (by rw[bE];exact s);have M:=wE B J;have E:∀x∈rel ms i L,x∈oH o L:=fun x hx=>wB.2 ⟨(jV.1 hx).1,by
      cases hb:jd o x.1 with
      |false=>rfl
      |true=>
        have:=(jV.1 hx).2
        rw[zK,Hv (by rw[IU hm s];exact hb)]at this;cases this⟩
     rw[←hw']at hh Y;exact⟨fun x hx=>hh x (E x hx),tV _ _ _ _ _ _ (fun x hx=>.inl (E x hx)) ((V false _ _ _ D _ w' _ fuel Y I H (F.put (hW o C) u ht) (y.put B) (p.put hm ((mD hm y).2 hr)) hh).1 rfl (by omega))⟩
    |false=>
     rw[hq,cond_false]at f;unfold wpOpIn;rw[s];simp only[ni hw z hd,if_true];refine qc (wi f) (Bq z f) ?_;intro v w' ht hK;obtain⟨D,G,I,H⟩:=sL (dv:=.x) hK z hd trivial;obtain⟨hh,Y⟩:=qY.1 G;have C:o∈ops.toList:=az (by rw[bE];exact s);have M:=wE B J;have E:∀x∈rel ms i L,x∈oH o L:=fun x hx=>wB.2 ⟨(jV.1 hx).1,by
      cases hb:jd o x.1 with
      |false=>rfl
      |true=>
        have:=(jV.1 hx).2
        rw[zK,Hv (by rw[IU hm s];exact hb)]at this;cases this⟩
     exact⟨fun x hx=>hh x (E x hx),tV _ _ _ _ _ _ (fun x hx=>.inl (E x hx)) ((V false _ _ _ D _ w' _ fuel Y I H (F.put (hW o C) v ht) (y.put B) (p.put hm ((mD hm y).2 hr)) hh).1 rfl (by omega))⟩
 have oneT:∀(i:Nat) (g:DA)
   (_:Nl ro n P ops Q N ms W a0 w0 K g)
   (ls:Nat) (L:qC) (d:uK) (r:cJ) (a:Act) (w:World) (listed:Array Bool) (fuel:Nat),
   NN P N ops.toList ms i L d r w.heap (fun L' d' D h'=>np P N ops.toList ms g false (cW ls (gU i)) L' d' K D h')→Agree N r a→DecOk d r→Fr W a0 w0 a w→LsRel ops ls listed→Shut ms listed→
   left ops ls≤fuel+1→i∈lW ls ms 0→∀o,ops[i]? =some o→
    wpOpIn (FW ro) n P ops Q i (fun a' w'=>(∀x∈rel ms i L,x.2 w'.heap)∧Qa ms ro n P ops Q fuel (rel ms i L) (listed.setIfInBounds i true) a' w') a w:=by
  intro i g V ls L d r a w listed fuel f z hd F y p A hr o s;have B:i<ops.size:=(cj.1 s).1;obtain⟨k,mm,hk,hki,J,_⟩:=(rz ls ms 0 i).1 hr;unfold NN at f;rw[bE,s]at f;simp only at f;cases hw:jc ops.toList d o with
  |none=>rw[hw]at f;exact f.elim
  |some b=>
   rw[hw]at f;cases b with
   |false=>exact f.elim
   |true=>
    simp only at f;cases hq:vN P o.op with
    |true=>rw[hq]at f;exact f.elim
    |false=>
     rw[hq,cond_false]at f;unfold wpOpIn;rw[s];simp only[ni hw z hd,if_true];refine qc (wi f) (Bq z f) ?_;intro v w' ht hK;obtain⟨D,G,I,H⟩:=sL (dv:=.x) hK z hd trivial;obtain⟨hh,Y⟩:=qY.1 G;have C:o∈ops.toList:=az (by rw[bE];exact s);have M:=wE B J;exact⟨hh,(V false _ _ _ D _ w' _ fuel Y I H (F.put (hW o C) v ht) (y.put B) (p.put hm ((mD hm y).2 hr)) hh).1 rfl (by omega)⟩
 induction da with
 |done=>
  intro m ls L d r a w listed fuel f z hd F y p R;cases m with
  |true=>exact f.elim
  |false=>
   refine⟨fun _ _=>?_,fun h=>by cases h⟩
   have hc:np P N ops.toList ms .done false ls L d K r w.heap=bif uU (lW ls ms 0) []then K r w.heap else False:=rfl;rw[hc]at f;cases hb:uU (lW ls ms 0) []with
   |false=>rw[hb]at f;exact f.elim
   |true=>
    rw[hb]at f;have hnil:Region.ready .any ops listed= []:=by
     apply List.eq_nil_iff_forall_not_mem.2;intro j O;rw[mD hm y,xy hb]at O;cases O
    exact P9 hnil (hQ r a w z F f)
 |take i g V=>
  intro m ls L d r a w listed fuel f z hd F y p R;cases m with
  |true=>
   exfalso;have hc:np P N ops.toList ms (.take i g) true ls L d K r w.heap=(match ops.toList[i]?,ms[i]? with|some _,some _=>False|_,_=>False):=rfl
   rw[hc]at f;split at f<;>exact f
  |false=>
   refine⟨fun _ A=>?_,fun h=>by cases h⟩
   have hc:np P N ops.toList ms (.take i g) false ls L d K r w.heap=(match ops.toList[i]?,ms[i]? with
    |some o,some mi=>bif D0 mi i ls ops.toList.length then
      (match jc ops.toList d o with
       |none=>False
       |some false=>yZ N o undef r fun D=>np P N ops.toList ms g false (cW ls (gU i)) L (rd d o .u) K D w.heap
       |some true=>bif vN P o.op then
          Bm P none o.op r (fun v S=>yZ N o v r fun D=>match S with
            |none=>np P N ops.toList ms g false (cW ls (gU i)) L (rd d o (Jl d o.op)) K D w.heap
            |some S=>np P N ops.toList ms g false (cW ls (gU i)) ((i,S)::L) (rd d o (Jl d o.op)) K D w.heap) w.heap
          else False)
     else False
    |_,_=>False):=rfl
   rw[hc]at f;split at f
   ·rename_i o mi s hmi
    rw[bE]at s;cases htk:D0 mi i ls ops.toList.length with
    |false=>rw[htk]at f;exact f.elim
    |true=>
     rw[htk,cond_true]at f;unfold D0 at htk;simp only[bI,Bool.not_eq_true',zK]at htk;obtain⟨⟨hun,hrd⟩,hfr⟩:=htk;have B:i<ops.size:=(cj.1 s).1;have q:i∈Region.ready .any ops listed:=(GW hm y).2 ⟨mi,hmi,hun,hrd⟩;have M:=wE (ops:=ops) B hun;obtain⟨f',rfl⟩:∃f',fuel=f'+1:=⟨fuel-1,by omega⟩
     have C:o∈ops.toList:=az (by rw[bE];exact s);have hcov:∀j,j<ops.size→ls.testBit j=true∨mi.fr.testBit j=true:=by
      intro j O;have h0:=bm hfr;have hpb:(xm (gU ops.toList.length)).testBit j=true:=by
        have:xm (gU ops.toList.length)=2^ops.toList.length-1:=rfl;rw[this,Nat.testBit_two_pow_sub_one];simpa using O
      have hand:(jC (cW ls mi.fr) (xm (gU ops.toList.length))).testBit j=((cW ls mi.fr).testBit j&&(xm (gU ops.toList.length)).testBit j):=ii _ _ j;rw[h0,hpb,Bool.and_true,oc]at hand;exact(Bool.or_eq_true_iff).1 hand.symm
     have T:∀j oj,ops[j]? =some oj→j≠i→listed.getD j true=false→jd oj i=false→
        (∀d,o.dst=some d→d∉oj.looksAt ops)∧(∀d,o.dst=some d→oj.dst≠some d)∧(∀d,oj.dst=some d→d∉o.looksAt ops):=by
      intro j oj hoj hne hju hna;have O:j<ops.size:=(cj.1 hoj).1;rw[y.unlisted O]at hju;have hjm:j<ms.length:=by rw[hm.len];exact O
      have hmj:=ag hjm;rcases hcov j O with h|h
      · rw[h]at hju;cases hju
      · rcases hm.free i j mi _ hmi hmj h with h|h|h
        ·exact absurd h hne
        ·rw[hm.am j oj _ hoj hmj,hna]at h;cases h
        ·exact RW hm s hoj hmi hmj h
     cases hw:jc ops.toList d o with
     |none=>rw[hw]at f;exact f.elim
     |some b=>
      rw[hw]at f;have hwd:=ni hw z hd;cases b with
      |false=>
        obtain⟨D,G,I,H⟩:=sL (dv:=.u) f z hd rfl;have hy:YG P ops (fun _=>True) o undef a:=.inr ⟨hwd,rfl⟩
        refine DK hm s hm.nosel hnp f' L listed a w T p q hy trivial R ?_;refine tV _ L _ _ _ _ (fun x hx=>(aA.1 hx).elim (fun e=>.inr fun h=>by rw[e];trivial) .inl) ?_
        exact(V false _ _ _ D _ w _ f' G I H (F.put (hW o C) undef (Tame.refl w)) (y.put B) (p.put hm q) R).1 rfl (by omega)
      |true=>
        simp only at f;cases hq:vN P o.op with
        |false=>rw[hq]at f;exact f.elim
        |true=>
         rw[hq,cond_true]at f;obtain⟨v,S,hK,hS,hdv,X⟩:=BC z f d hd;obtain⟨D,G,I,H⟩:=sL hK z hd hdv;have hfr':=F.put (hW o C) v (Tame.refl w);cases S with
         |none=>
           have hy:YG P ops (fun _=>True) o v a:=.inl ⟨hwd,fun w _=>X w trivial⟩
           refine DK hm s hm.nosel hnp f' L listed a w T p q hy trivial R ?_;refine tV _ L _ _ _ _ (fun x hx=>(aA.1 hx).elim (fun e=>.inr fun h=>by rw[e];trivial) .inl) ?_
           exact(V false _ _ _ D _ w _ f' G I H hfr' (y.put B) (p.put hm q) R).1 rfl (by omega)
         |some S=>
           have hy:YG P ops S o v a:=.inl ⟨hwd,fun w h=>X w h⟩
           refine DK hm s hm.nosel hnp f' L listed a w T p q hy hS R ?_;exact(V false _ _ _ D _ w _ f' G I H hfr' (y.put B) (p.put hm q) (fun x hx=>(aA.1 hx).elim (fun e=>by rw[e];exact hS) (R x))).1 rfl (by omega)
   ·exact f.elim
 |all l V=>
  intro m ls L d r a w listed fuel f z hd F y p R;cases m with
  |true=>exact f.elim
  |false=>
   refine⟨fun _ A=>?_,fun h=>by cases h⟩
   have hc:np P N ops.toList ms (.all l) false ls L d K r w.heap=bif uU (lW ls ms 0) (BO l)then np P N ops.toList ms l true ls L d K r w.heap else False:=rfl;rw[hc]at f;cases hb:uU (lW ls ms 0) (BO l)with
   |false=>rw[hb]at f;exact f.elim
   |true=>
    rw[hb,cond_true]at f;obtain⟨i,hi⟩:=Pn f;rw[←xy hb]at hi;have hrd:=(mD hm y (j:=i)).2 hi;obtain⟨k,mm,hk,hki,J,_⟩:=(rz ls ms 0 i).1 hi;have B:i<ops.size:=by
     have:=(aF.1 hk).1;rw[hm.len]at this;omega
    have M:=wE (ops:=ops) B J;obtain⟨f',rfl⟩:∃f',fuel=f'+1:=⟨fuel-1,by omega⟩
    refine⟨fun h=>(by rw[h]at hrd;cases hrd),fun j O o s=>?_⟩
    have hj':=(mD hm y).1 O;exact(V true ls L d r a w listed f' f z hd F y p R).2 rfl A j (by rw[←xy hb];exact hj') hj' o s
 |pick i g more ih1 ih2=>
  intro m ls L d r a w listed fuel f z hd F y p R;cases m with
  |false=>exact f.elim
  |true=>
   refine⟨fun h=>(by cases h),fun _ A j O Z o s=>?_⟩
   have f:OQ P N ops.toList i L d r w.heap (fun L' d' D h'=>np P N ops.toList ms g false (cW ls (gU i)) L' d' K D h')∧np P N ops.toList ms more true ls L d K r w.heap:=f
   rcases aA.1 O with rfl|O
   ·exact one _ g ih1 ls L d r a w listed fuel f.1 z hd F y p A Z o s
   ·exact(ih2 true ls L d r a w listed fuel f.2 z hd F y p R).2 rfl A j O Z o s
 |last i g V=>
  intro m ls L d r a w listed fuel f z hd F y p R;cases m with
  |false=>exact f.elim
  |true=>
   refine⟨fun h=>(by cases h),fun _ A j O Z o s=>?_⟩
   have f:OQ P N ops.toList i L d r w.heap (fun L' d' D h'=>np P N ops.toList ms g false (cW ls (gU i)) L' d' K D h'):=f
   have hji:j=i:=au.1 O;subst hji;exact one _ g V ls L d r a w listed fuel f z hd F y p A Z o s
 |lastT i g V=>
  intro m ls L d r a w listed fuel f z hd F y p R;cases m with
  |false=>exact f.elim
  |true=>
   refine⟨fun h=>(by cases h),fun _ A j O Z o s=>?_⟩
   have f:NN P N ops.toList ms i L d r w.heap (fun L' d' D h'=>np P N ops.toList ms g false (cW ls (gU i)) L' d' K D h'):=f
   have hji:j=i:=au.1 O;subst hji;exact oneT _ g V ls L d r a w listed fuel f z hd F y p A Z o s
 |split t yes no ih1 ih2=>
  intro m ls L d r a w listed fuel f z hd F y p R;cases m with
  |true=>exact f.elim
  |false=>
   refine⟨fun _ A=>?_,fun h=>by cases h⟩
   have hc:np P N ops.toList ms (.split t yes no) false ls L d K r w.heap=(match kq r t with
    |some (.bool b)=>CondP b (np P N ops.toList ms yes false ls L ((t,.t)::d) K ((t,.bool true)::r) w.heap) (np P N ops.toList ms no false ls L ((t,.f)::d) K ((t,.bool false)::r) w.heap)
    |_=>False):=rfl
   rw[hc]at f;split at f
   ·rename_i b hlk
    cases b with
    |true=>exact(ih1 false ls L _ _ a w listed fuel (f.yes rfl) (z.known hlk) (hd.known rfl) F y p R).1 rfl A
    |false=>exact(ih2 false ls L _ _ a w listed fuel (f.no rfl) (z.known hlk) (hd.known rfl) F y p R).1 rfl A
   ·exact f.elim
end Go.Lift
namespace Go.Lift
open Go
variable {P:Program} {ro:Option Nat} {n:Nat}
theorem Hc{r:cJ}:∀{l:List Nat} {r0:cJ},N4 r l=some r0→∀t v,kq r0 t=some v→t∈l∧kq r t=some v
 | [],r0,h,t,v,hv=>by cases h;cases hv
 |s::l,r0,h,t,v,hv=>by
  have h:(match kq r s,N4 r l with|some v,some l=>some ((s,v)::l)|_,_=>none)=some r0:=h
  split at h
  ·rename_i u l' hu hl
   cases h;by_cases e:s=t
   ·subst e;rw[iB]at hv;cases hv;exact⟨aE ..,hu⟩
   ·rw[gX u _ e]at hv
    have:=Hc hl t v hv;exact⟨aX _ this.1,this.2⟩
  ·cases h
theorem BJ{m:Nat}{t:Nat}{v:Value}:∀{r:cJ},kq (wH m r) t=some v→m.testBit t=false∧kq r t=some v
 | [],h=>by cases h
 |(k,u)::r,h=>by
  have h:kq (bif tb m k then wH m r else(k,u)::wH m r) t=some v:=h;cases hk:tb m k with
  |true=>
   rw[hk]at h;have:=BJ h;by_cases e:k=t
   ·subst e;rw[zK,this.1]at hk;cases hk
   ·rw[gX u _ e];exact this
  |false=>
   rw[hk]at h;have h:kq ((k,u)::wH m r) t=some v:=h;by_cases e:k=t
   ·subst e;rw[iB]at h⊢;rw[zK]at hk;exact⟨hk,h⟩
   ·rw[gX u _ e]at h⊢;exact BJ h
theorem Bp{t:Nat}:∀{l:List Oper},(Qd l).testBit t=false→¬lP t l=true
 | [],_,h=>by cases h
 |o::l,hm,h=>by
  have hm:(cW (nK o) (Qd l)).testBit t=false:=hm;rw[oc,mr]at hm;have h:(match o.dst with|some d=>bif bL d t then true else lP t l|none=>lP t l)=true:=h
  cases hd:o.dst with
  |none=>rw[hd]at h;exact Bp hm.2 h
  |some d=>
   rw[hd]at h;cases e:bL d t with
   |true=>have:=(wY o t).2 (by rw[hd,bm e]);rw[hm.1]at this;cases this
   |false=>simp only[e]at h;exact Bp hm.2 h
theorem Kd{a b:Option Nat}{m:Nat}(h:VU a b=some m):∃x y,a=some x∧b=some y∧m=cW x y:=by
 cases a<;>cases b<;>cases h
 exact⟨_,_,rfl,rfl,rfl⟩
theorem Qc{t:Nat}(c:Code):∀{m:Nat},x8 c=some m→m.testBit t=false→¬gA t c=true:=by
 induction c with
 |skip=>intro m _ _ h;cases h
 |region id ops dr=>intro m h hm d;cases h;exact Bp hm d
 |seq a b iha ihb=>
  intro m h hm d;obtain⟨x,y,hx,f,rfl⟩:=Kd (show VU (x8 a) (x8 b)=some m from h)
  rw[oc,mr]at hm;have d:(bif gA t a then true else gA t b)=true:=d;cases ha:gA t a with
  |true=>exact iha hx hm.1 ha
  |false=>rw[ha]at d;exact ihb f hm.2 d
 |cond c a b iha ihb=>
  intro m h hm d;obtain⟨x,y,hx,f,rfl⟩:=Kd (show VU (x8 a) (x8 b)=some m from h)
  rw[oc,mr]at hm;have d:(bif gA t a then true else gA t b)=true:=d;cases ha:gA t a with
  |true=>exact iha hx hm.1 ha
  |false=>rw[ha]at d;exact ihb f hm.2 d
 |block id b ih=>exact fun h hm=>ih h hm
 |loop b ih=>exact fun h hm=>ih h hm
 |rangeFunc _ _ _ _ _ _=>intro m h;cases h
 |scope b ih=>exact fun h hm=>ih h hm
 |_=>intro m _ _ h;cases h
theorem Agree.keep{N:Nat}{r d:cJ}{a a':Act}{w w':World}{m:Nat}{c:Code}(h:Agree N r a)(hm:x8 c=some m)(b:Fr (fun t=>gA t c=true) a w a' w')(i:Agree N d a'):Agree N (wH m r) a':=
 ⟨i.size,fun t v hv=>by
  obtain⟨g,f⟩:=BJ hv
  rw[b.same t (Qc c hm g)];exact h.look t v f⟩
theorem wq{a:St}{r:cJ}{f:um (yG a)→Prop}(h:Ct a r f):∃t,D4 r a=some (m9 (yG a) t)∧f t:=by
 unfold Ct at h;split at h
 ·rename_i vs hv
  obtain⟨t,rfl,b⟩:=rJ h;exact⟨t,hv,b⟩
 ·exact h.elim
theorem Agree.zip{N:Nat}{r:cJ}{a:Act}(h:Agree N r a):∀{st:St} {vs:List Value} {r0:cJ},D4 r st=some vs→Agree N r0 a→Agree N (nH st vs r0) a
 | [],vs,r0,_,h0=>by cases vs<;>exact h0
 |(i,k)::st,vs,r0,hv,h0=>by
  unfold D4 at hv;split at hv
  ·rename_i v vs' h1 h2
   cases hv;have:=Agree.zip h h2 h0;refine⟨this.size,fun t u b=>?_⟩
   by_cases e:i=t
   ·subst e
    rw[show nH ((i,k)::st) (v::vs') r0=(i,v)::nH st vs' r0 from rfl,iB]at b;cases b
    exact h.look i v h1
   ·rw[show nH ((i,k)::st) (v::vs') r0=(i,v)::nH st vs' r0 from rfl,gX v _ e]at b
    exact this.look t u b
  ·cases hv
theorem zB{t:Nat}:∀{l:List Oper} {o:Oper},o∈l→o.dst=some t→lP t l=true
 | [],_,h,_=>by cases h
 |x::l,o,h,hd=>by
  have e:lP t (x::l)=(match x.dst with|some d=>bif bL d t then true else lP t l|none=>lP t l):=rfl
  rw[e];rcases aA.1 h with rfl|h
  ·rw[hd];simp only;rw[show bL t t=true from rj t];rfl
  ·have:=zB h hd
   cases x.dst with
   |none=>exact this
   |some d=>
    simp only;cases bL d t with
    |true=>rfl
    |false=>exact this
def LWP(ro:Option Nat)(n:Nat)(P:Program)(c:Code)(Q:Exit→Act→World→Prop)(a:Act)(w:World):Prop:=
 ∀(b:Frame) (k:List Item) (cs:List Frame),b.roundOf=(FW ro).round→(FW ro).fn b.fn→(FW ro).room (cs.length+1+n)→
  ∃e a' w',Q e a' w'∧ArrivesIn (Machine.fenced P (FW ro)) P (lone (b.atR a (.code c:: .inLoop c::k)) cs w) b k cs e a' w'
theorem LWP.step{c:Code}{Q:Exit→Act→World→Prop}{a:Act}{w:World}(h:c.wpIn (FW ro) n P (Exit.then (LWP ro n P c Q) Q) a w):LWP ro n P c Q a w:=by
 intro b k cs i q p;obtain⟨e,m,j,g,d⟩:=h b (.inLoop c::k) cs i q p;cases e with
 |normal=>
  obtain⟨u,s,v,o,f⟩:=g b k cs i q p;exact⟨u,s,v,o,.of_steps (StepsIn.trans d (.one (fenced_calm q p rfl) stepR_inLoop)) f⟩
 |exit id=>exact⟨_,m,j,g,.pass (x:=.inLoop c) rfl (fun _ _=>.inl (by simp)) d⟩
 |goto l=>exact⟨_,m,j,g,.pass (x:=.inLoop c) rfl (fun _ _=>.inl (by simp)) d⟩
 |ret=>exact⟨_,m,j,g,.pass (x:=.inLoop c) rfl (fun _ _=>.inl (by simp)) d⟩
 |panic ch=>exact⟨_,m,j,g,.pass (x:=.inLoop c) rfl (fun _ _=>.inl (by simp)) d⟩
 |outgrown=>exact⟨_,m,j,g,.pass (x:=.inLoop c) rfl (fun _ _=>.inl (by simp)) d⟩
theorem LWP.loop{c:Code}{Q:Exit→Act→World→Prop}{a:Act}{w:World}(h:LWP ro n P c Q a w):(Code.loop c).wpIn (FW ro) n P Q a w:=by
 intro b k cs f i g;obtain⟨e,a',w',j,d⟩:=h b k cs f i g;exact⟨e,a',w',j,.of_steps (.one (fenced_calm i g rfl) stepR_loop) d⟩
theorem Hr(r:cJ):DecOk [] r:=fun _=>.inl rfl
theorem Tw(ops:Array Oper)(ls:Nat):left ops ls≤ops.size:=by
 unfold left;exact Nat.le_trans (List.length_filter_le ..) (by simp)
theorem lU(f:P.follows .mixedOrders=true){N id:Nat}{ops:Array Oper}{g:Bool}{u:Ann}{K:cJ→ad→Prop}{r:cJ}{a:Act}{w:World}{Q:Exit→Act→World→Prop}
  (b:Bv P N ops.toList g u K r w.heap)(i:Agree N r a)(q:∀c a w,¬Q (.panic c) a w)
  (k:∀r' a' w',Agree N r' a'→Fr (fun t=>lP t ops.toList=true) a w a' w'→K r' w'.heap→Q .normal a' w'):(Code.region id ops g).wpIn (FW ro) n P Q a w:=by
 have m:∀o∈ops.toList,∀d,o.dst=some d→lP d ops.toList=true:=fun o p d hd=>zB p hd
 cases g with
 |false=>
  have key:∀ek,D9 P N ek ops.toList ops.toList [] K r w.heap→(Code.region id ops false).wpIn (FW ro) n P Q a w:=fun ek b=>by
   refine wpIn_region ?_;rw[List.range_eq_range',show ops.size=ops.toList.length from rfl]
   exact D8 m k ops.toList 0 rfl [] r a w b i (Hr r) (Fr.refl _ a w)
  unfold Bv at b;simp only at b;split at b
  ·exact key _ b
  ·exact key _ b
 |true=>
  unfold Bv at b;simp only at b;generalize NY ops.toList=ms at b;cases hm:DB ops.toList ms with
  |false=>rw[hm]at b;exact b.elim
  |true=>
   rw[hm,cond_true]at b;refine wpIn_region_any f (NA (ms:=ms) _ [] _ _ _ ?_);have v:Tame w {w with drawn:=w.drawn+1}:=⟨rfl,rfl,rfl⟩;have s:Fr (fun t=>lP t ops.toList=true) a w a {w with drawn:=w.drawn+1}:=⟨v,rfl,fun _ _=>rfl⟩
   refine(JC (L6 hm) m k (fun e a w=>?_) _ false 0 [] [] r a {w with drawn:=w.drawn+1} _ ops.size b i (Hr r) s LsRel.start (fun j x _ h=>by rw[(LsRel.start (ops:=ops)).bit,fW]at h;cases h) (fun x hx=>by cases hx)).1 rfl (Tw ops 0)
   cases e with
   |panic ch=>exact .inr (q _ a w)
   |_=>exact .inl fun c hc=>by cases hc
theorem DI(t:Nat)(x y:Code):gA t (.seq x y)=(bif gA t x then true else gA t y):=rfl
theorem Cp(t:Nat)(c:Operand)(x y:Code):gA t (.cond c x y)=(bif gA t x then true else gA t y):=rfl
theorem IS{a b:Bool}:(bif a then true else b)=true↔a=true∨b=true:=by cases a<;>cases b<;>decide
theorem sd(u:P.follows .mixedOrders=true){N:Nat}(c:Code):∀(D:Ann) (Kn:cJ→ad→Prop) (Kx:Ex→cJ→ad→Prop) (r:cJ) (a:Act) (w:World) (Q:Exit→Act→World→Prop),
  kV P N c D Kn Kx r w.heap→Agree N r a→(∀O a w,¬Q (.panic O) a w)→
  (∀g a' w',Agree N g a'→Fr (fun t=>gA t c=true) a w a' w'→Kn g w'.heap→Q .normal a' w')→
  (∀i g a' w',Agree N g a'→Fr (fun t=>gA t c=true) a w a' w'→Kx (.exit i) g w'.heap→Q (.exit i) a' w')→
  (∀g a' w',Agree N g a'→Fr (fun t=>gA t c=true) a w a' w'→Kx .ret g w'.heap→Q .ret a' w')→
  c.wpIn (FW ro) n P Q a w:=by
 induction c with
 |skip=>
  intro D Kn Kx r a w Q j s _ z _ _;exact wpIn_skip (z r a w s (Fr.refl ..) j)
 |region id ops dr=>
  intro D Kn Kx r a w Q j s A z _ _;cases D with
  |reg keep inner=>
   have j:Bv P N ops.toList dr inner (fun g K=>match N4 g keep with|some r0=>Kn r0 K|none=>False) r w.heap:=j
   refine lU u j s A fun g a' w' M W hk=>?_
   split at hk
   ·rename_i r0 hr0
    refine z r0 a' w' ⟨M.size,fun t v hv=>M.look t v (Hc hr0 t v hv).2⟩ W hk
   ·exact hk.elim
  |nil=>exact lU u (show Bv P N ops.toList dr (.nil) Kn r w.heap from j) s A z
  |node x y=>exact lU u (show Bv P N ops.toList dr (.node x y) Kn r w.heap from j) s A z
  |join st x y=>exact lU u (show Bv P N ops.toList dr (.join st x y) Kn r w.heap from j) s A z
  |loop st y=>exact lU u (show Bv P N ops.toList dr (.loop st y) Kn r w.heap from j) s A z
  |draw d=>exact lU u (show Bv P N ops.toList dr (.draw d) Kn r w.heap from j) s A z
  |kinds k v=>exact lU u (show Bv P N ops.toList dr (.kinds k v) Kn r w.heap from j) s A z
  |rf ks x y=>exact lU u (show Bv P N ops.toList dr (.rf ks x y) Kn r w.heap from j) s A z
 |seq x y ihx ihy=>
  intro D Kn Kx r a w Q j s A z hx F;have E:∀{a' w'},Fr (fun t=>gA t x=true) a w a' w'→Fr (fun t=>gA t (.seq x y)=true) a w a' w':=fun h=>h.mono fun t R=>by rw[DI,IS];exact .inl R
  have C:∀{a' w' H I},Fr (fun t=>gA t x=true) a w a' w'→Fr (fun t=>gA t y=true) a' w' H I→Fr (fun t=>gA t (.seq x y)=true) a w H I:=
   fun h k=>(E h).trans (k.mono fun t R=>by rw[DI,IS];exact .inr R)
  have plain:∀V S,kV P N x V (fun g K=>kV P N y S Kn Kx g K) Kx r w.heap→(Code.seq x y).wpIn (FW ro) n P Q a w:=fun V S j=>by
   refine wpIn_seq (ihx V _ Kx r a w _ j s (fun O a w=>A O a w) ?_ (fun i g a' w' q p o=>hx i g a' w' q (E p) o) (fun g a' w' q p o=>F g a' w' q (E p) o))
   intro r1 X w1 G B L;exact ihy S Kn Kx r1 X w1 Q L G A (fun g a' w' q p o=>z g a' w' q (C B p) o) (fun i g a' w' q p o=>hx i g a' w' q (C B p) o) (fun g a' w' q p o=>F g a' w' q (C B p) o)
  cases D with
  |join st V S=>
   have j:(match x8 x with
      |none=>False
      |some m=>Join (T:=um (yG st)) (fun t K=>kV P N y S Kn Kx (nH st (m9 (yG st) t) (wH m r)) K)
       fun J=>kV P N x V (fun g K=>Ct st g fun t=>J t K) Kx r w.heap):=j
   split at j
   ·exact j.elim
   ·rename_i m hm
    refine wpIn_seq (ihx V _ Kx r a w _ j.run s (fun O a w=>A O a w) ?_ (fun i g a' w' q p o=>hx i g a' w' q (E p) o) (fun g a' w' q p o=>F g a' w' q (E p) o))
    intro r1 X w1 G B L;obtain⟨t,hst,hs2⟩:=wq L;have ha2:Agree N (nH st (m9 (yG st) t) (wH m r)) X:=G.zip hst (s.keep hm B G);exact ihy S Kn Kx _ X w1 Q hs2 ha2 A (fun g a' w' q p o=>z g a' w' q (C B p) o) (fun i g a' w' q p o=>hx i g a' w' q (C B p) o) (fun g a' w' q p o=>F g a' w' q (C B p) o)
  |_=>exact plain _ _ j
 |cond c x y ihx ihy=>
  intro D Kn Kx r a w Q j s A z hx F;have j:(match dA r c with
   |some (.bool t)=>CondP t (kV P N x D.l Kn Kx r w.heap) (kV P N y D.r Kn Kx r w.heap)
   |_=>False):=j
  have E:∀{a' w'},Fr (fun t=>gA t x=true) a w a' w'→Fr (fun t=>gA t (.cond c x y)=true) a w a' w':=fun h=>h.mono fun t R=>by rw[Cp,IS];exact .inl R
  have C:∀{a' w'},Fr (fun t=>gA t y=true) a w a' w'→Fr (fun t=>gA t (.cond c x y)=true) a w a' w':=fun h=>h.mono fun t R=>by rw[Cp,IS];exact .inr R
  split at j
  ·rename_i t R
   refine wpIn_cond_split (kz s R) (fun e=>?_) (fun e=>?_)
   ·exact ihx _ Kn Kx r a w Q (j.yes e) s A (fun g a' w' q p o=>z g a' w' q (E p) o) (fun i g a' w' q p o=>hx i g a' w' q (E p) o) (fun g a' w' q p o=>F g a' w' q (E p) o)
   ·exact ihy _ Kn Kx r a w Q (j.no e) s A (fun g a' w' q p o=>z g a' w' q (C p) o) (fun i g a' w' q p o=>hx i g a' w' q (C p) o) (fun g a' w' q p o=>F g a' w' q (C p) o)
  ·exact j.elim
 |block id b ih=>
  intro D Kn Kx r a w Q j s A z hx F;refine wpIn_block (ih D Kn _ r a w _ j s (fun O a w=>A O a w) z (fun i g a' w' q p o=>?_) F)
  simp only[Exit.inBlock]at o⊢;cases hi:bL i id with
  |true=>
   rw[hi,cond_true]at o;rw[if_pos (bm hi)];exact z g a' w' q p o
  |false=>
   rw[hi,cond_false]at o;rw[if_neg (fun e=>by rw[e,rj]at hi;cases hi)]
   exact hx i g a' w' q p o
 |loop b ih=>
  intro D Kn Kx r a w Q j s A z hx F;cases D with
  |loop st S=>
   have j:(match x8 b with
      |none=>False
      |some m=>Ct st r fun t0=>LoopP (T:=um (yG st)) (fun Z t K=>kV P N b S (fun g h''=>Ct st g fun t'=>Z t' h'') Kx (nH st (m9 (yG st) t) (wH m r)) K) t0 w.heap):=j
   split at j
   ·exact j.elim
   ·rename_i m hm
    obtain⟨t0,Y,hl⟩:=wq j;have h0:=hl.run (fun t K=>∀a' w',w'.heap=K→Agree N (nH st (m9 (yG st) t) (wH m r)) a'→Fr (fun t=>gA t b=true) a w a' w'→LWP ro n P b Q a' w') (fun t K hF a' w' hw M W=>by
     subst hw
     refine LWP.step (ih S _ Kx _ a' w' _ hF M (fun O a w=>A O a w) ?_ (fun i g H I q p o=>hx i g H I q (W.trans p) o) (fun g H I q p o=>F g H I q (W.trans p) o))
     intro r1 X w1 G B L
     obtain⟨t1,hst1,hk1⟩:=wq L
     exact hk1 X w1 rfl (G.zip hst1 (s.keep hm (W.trans B) G)) (W.trans B))
    exact LWP.loop (h0 a w rfl (s.zip Y (s.keep hm (Fr.refl _ a w) s)) (Fr.refl _ a w))
  |_=>exact j.elim
 |rangeFunc f params assign body _ _=>intro D Kn Kx r a w Q j;exact j.elim
 |exit id=>
  intro D Kn Kx r a w Q j s A z hx F;exact wpIn_exit (hx id r a w s (Fr.refl ..) j)
 |scope b _=>intro D Kn Kx r a w Q j;exact j.elim
 |label l=>
  intro D Kn Kx r a w Q j s A z hx F;exact wpIn_label (z r a w s (Fr.refl ..) j)
 |goto l=>intro D Kn Kx r a w Q j;exact j.elim
 |ret=>
  intro D Kn Kx r a w Q j s A z hx F;exact wpIn_ret (F r a w s (Fr.refl ..) j)
 |refuse why=>intro D Kn Kx r a w Q j;exact j.elim
end Go.Lift
namespace Go.Lift
open Go
variable {P:Program}
theorem pV{N:Nat}{r:cJ}{a:Act}{w:World}(c:Agree N r a):∀{l:List ResultVar} {K:List Value→Prop},nI P r w.heap l K→
  ∃vs,(∀g:ResultVar→Sem Value,(∀t,g (.tmp t)=pure (a.tmps.getD t undef))→(∀x t,g (.cell x t)=do loadVar t (←asAddr (a.tmps.getD x undef)))→(l.mapM g).run P w=.ok vs w)∧K vs
 | [],K,h=>⟨[],fun g _ _=>by rw[List.mapM_nil];rfl,h⟩
 | .tmp t::l,K,h=>by
  unfold nI at h;split at h
  ·rename_i v hv
   obtain⟨vs,j,i⟩:=pV c h;refine⟨v::vs,fun g f d=>?_,i⟩
   rw[List.mapM_cons,f];simp only[Sem.run_bind,Sem.run_pure,Result.andThen_ok];rw[j g f d];simp only[Result.andThen_ok,c.look t v hv]
  ·exact h.elim
 | .cell x t::l,K,h=>by
  unfold nI at h;split at h
  ·rename_i v hv
   obtain⟨u,S,n,m,o⟩:=Cy h;obtain⟨vs,j,i⟩:=pV c n;refine⟨u::vs,fun g f d=>?_,i⟩
   rw[List.mapM_cons,d];have k:(do loadVar t (←asAddr (a.tmps.getD x undef)):Sem Value).run P w=.ok u w:=by
    rw[c.look x v hv];unfold JN at h;cases v with
    |pointer p=>cases p with
     |none=>exact h.elim
     |some b=>exact o w m
    |_=>exact h.elim
   simp only[Sem.run_bind]at k⊢;rw[k];simp only[Result.andThen_ok];rw[j g f d];simp only[Sem.run_pure,Result.andThen_ok]
  ·exact h.elim
theorem GV(ks:List Kind)(t:um ks):(if h:(m9 ks t).toArray.size=1 then(m9 ks t).toArray[0]else Value.tuple (m9 ks t).toArray)=C7 ks (m9 ks t):=by
 match ks,t with
 | [],t=>rfl
 | [k],t=>rfl
 |k::l::ks,(x,t)=>
  have:(m9 (k::l::ks) (x,t)).length=(k::l::ks).length:=sK _ _;rw[dif_neg (by simp only[cP,this,aV];omega)];rfl
theorem vr:∀(vs:List Value) (i t:Nat) (v:Value),kq (p6 i vs) t=some v→i≤t∧vs[t-i]? =some v
 | [],i,t,v,h=>by cases h
 |u::vs,i,t,v,h=>by
  by_cases e:i=t
  ·subst e
   rw[show p6 i (u::vs)=(i,u)::p6 (i+1) vs from rfl,iB]at h
   cases h;exact⟨Nat.le_refl _,by simp⟩
  ·rw[show p6 i (u::vs)=(i,u)::p6 (i+1) vs from rfl,gX u _ e]at h
   obtain⟨b,a⟩:=vr vs (i+1) t v h;refine⟨by omega,?_⟩;rw[show t-i=(t-(i+1))+1 by omega,List.getElem?_cons_succ]
   exact a
theorem Oo(f:P.follows .mixedOrders=true){n:Nat}{fn:Func}{c:Code}{m:Ann}{args:List Value}{ks:List Kind}{K:um ks→ad→Prop}{w:World}(o:args.length≤fn.ntmps)(u:GQ P fn c m args ks K w.heap):
  c.wpIn (FW none) n P (bodyPost P fn fun e w'=>Tame w w'∧∃t:um ks,e=.returned (C7 ks (m9 ks t))∧K t w'.heap) {tmps:=args.toArray++nL (fn.ntmps-args.toArray.size) undef,defers:= []} w:=by
 have p:Agree fn.ntmps (p6 0 args) {tmps:=args.toArray++nL (fn.ntmps-args.toArray.size) undef,defers:= []}:=by
  refine⟨by simp;omega,fun t v hv=>?_⟩
  obtain⟨_,i⟩:=vr args 0 t v hv;simp only[fj]at i;have g:=(aF.1 i).1;simp[Array.getElem?_append,g];rw[ag g]at i;cases i;rfl
 have fin:∀j a' (w':World),Agree fn.ntmps j a'→Fr (fun t=>gA t c=true) {tmps:=args.toArray++nL (fn.ntmps-args.toArray.size) undef,defers:= []} w a' w'→
   nI P j w'.heap fn.results.toList (fun vs=>Dd ks vs fun t=>K t w'.heap)→
   a'.defers= []∧∃v,(results fn a'.tmps).run P w'=.ok v w'∧(Tame w w'∧∃t:um ks,Ending.returned v=.returned (C7 ks (m9 ks t))∧K t w'.heap):=fun j a' w' k b s=>by
  obtain⟨vs,d,hd⟩:=pV k s;obtain⟨t,rfl,q⟩:=rJ hd;refine⟨b.defers,_,?_,b.tame,t,rfl,q⟩;unfold results;rw[m5];simp only[Sem.run_bind,Sem.run_map];rw[d _ (fun _=>rfl) (fun _ _=>rfl)]
  simp only[Result.andThen_ok,Sem.run_pure];rw[←GV]
 exact sd f c m _ _ _ _ w _ u p (fun y a w h=>h.2.2.elim fun _ h=>by cases h.1) fin (fun _ _ _ _ _ _ h=>h.elim) fin
theorem HE.intro(b:P.follows .mixedOrders=true){f:FuncId}{fn:Func}{c:Code}{k:Ann}{args:List Value}{ks:List Kind}{K:um ks→ad→Prop}{h:ad}
  (j:P.funcs[f]? =some fn) (m:fn.body=some c) (a:∀(args:Array Value) (w:World),(callFunc f args).run P w=.ok (.enter f args) w) (d:args.length≤fn.ntmps)
  (g:GQ P fn c k args ks K h):HE P f args ks K h:=by
 refine⟨fun w i=>⟨a,?_⟩⟩
 subst i;exact(callsIn_wide (n:=0)).1 (callsIn_of_wp (F:=FW none) j m trivial (Oo b d g) rfl)
theorem HD.intro(b:P.follows .mixedOrders=true){f:FuncId}{fn:Func}{c:Code}{k:Ann}{args:List Value}{ks:List Kind}{K:ad→Prop}{h:ad}
  (j:P.funcs[f]? =some fn) (q:fn.body=some c) (a:∀(args:Array Value) (w:World),(callFunc f args).run P w=.ok (.enter f args) w) (d:args.length≤fn.ntmps)
  (g:GQ P fn c k args ks (fun _ h'=>K h') h):HD P f args K h:=by
 refine fun w i=>⟨a,fun n=>?_⟩
 subst i;exact(callsDIn_of_wp (F:=FW none) j q trivial (Oo b d g) rfl).mono fun e u w' ⟨s,p,t,o,m⟩=>⟨s,p,⟨_,o⟩,m⟩
theorem HC.intro(b:P.follows .mixedOrders=true){f:FuncId}{fn:Func}{c:Code}{j:Ann}{args:List Value}{ks:List Kind}{K:um ks→ad→Prop}{h:ad}
 (i:P.funcs[f]? =some fn) (k:fn.body=some c) (a:∀(args:Array Value) (w:World),(callFunc f args).run P w=.ok (.enter f args) w) (d:args.length≤fn.ntmps)
 (g:GQ P fn c j args ks K h):HC P f args ks K h:=(HE.intro b i k a d g).hc
theorem MV{N:Nat}{args:List Value}(c:args.length≤N):Agree N (p6 0 args) {tmps:=args.toArray++nL (N-args.toArray.size) undef,defers:= []}:=by
 refine⟨by simp;omega,fun t v hv=>?_⟩
 obtain⟨_,b⟩:=vr args 0 t v hv;simp only[fj]at b;have a:=(aF.1 b).1;simp[Array.getElem?_append,a];rw[ag a]at b;cases b;rfl
theorem JJ{N:Nat}{fn:Func}{ks:List Kind}{K:um ks→ad→Prop}{c:cJ}{a':Act}{w':World}(b:Agree N c a')(f:nI P c w'.heap fn.results.toList (fun vs=>Dd ks vs fun t=>K t w'.heap)):
  ∃t:um ks,(results fn a'.tmps).run P w'=.ok (C7 ks (m9 ks t)) w'∧K t w'.heap:=by
 obtain⟨vs,a,hd⟩:=pV b f;obtain⟨t,rfl,d⟩:=rJ hd;refine⟨t,?_,d⟩;unfold results;rw[m5];simp only[Sem.run_bind,Sem.run_map];rw[a _ (fun _=>rfl) (fun _ _=>rfl)]
 simp only[Result.andThen_ok,Sem.run_pure];rw[←GV]
end Go.Lift
namespace Go.Lift
open Go
variable {P:Program}
abbrev Ey(D:Nat):Deferred:={target:=.collected D,args:= #[]}
abbrev pD:Mk→Deferred
 | .it D=>Ey D
 | .call f vs=>{target:=.fn (.func f) #[],args:= #[]++vs.toArray}
theorem E9{N:Nat}:∀{ps:List Nat} {vs:List Value} {r:cJ} {tmps:Array Value},yP N ps=true→Agree N r {tmps:=tmps,defers:= []}→
  Agree N (SC ps vs r) {tmps:=(ps.zip vs).foldl (fun t x=>t.setIfInBounds x.1 x.2) tmps,defers:= []}
 | [],vs,r,tmps,_,h=>by cases vs<;>exact h
 |i::ps,[],r,tmps,_,h=>h
 |i::ps,v::vs,r,tmps,a,h=>by
  have a:(xM i N&&yP N ps)=true:=a;rw[bI]at a;have b:i<N:=by simpa using a.1
  have:=h.put i v b;exact E9 (tmps:=tmps.setIfInBounds i v) a.2 this
theorem DZ(w:World)(o:Obj):Tame w (w.alloc o):=⟨rfl,rfl,rfl⟩
theorem ou(w:World)(b:Nat)(o:Obj):Tame w (w.putObj b o):=⟨rfl,rfl,rfl⟩
theorem JV(w:World)(b:Nat)(o:Obj):(w.putObj b o).heap=w.heap.setIfInBounds b o:=rfl
theorem Oy(ps:Array Nat)(vs:List Value)(t:Array Value):(ps.zip vs.toArray).foldl (fun t (x:Nat×Value)=>t.setIfInBounds x.1 x.2) t=(ps.toList.zip vs).foldl (fun t x=>t.setIfInBounds x.1 x.2) t:=by
 obtain⟨l⟩:=ps;simp
theorem C8(A:P.follows .mixedOrders=true){n N:Nat}{g:Operand}{ps:Array Tmp}{assign body:Code}{aa ab:Ann}{ks:List Kind}{fv:Value}{r:cJ}{a:Act}{w:World}{Q:Exit→Act→World→Prop}
  {KN:ad→Prop}{KX:Nat→ad→Prop}{KR:ad→Prop}(hps:yP N ps.toList=true)(J:ps.toList.length=ks.length)(hg:dA r g=some fv)(ha:Agree N r a)
  (hR:RangeP P fv ks w.heap (fun GX bz x k h'=>LB P N ps.toList ks assign body (.node aa ab) r (w.heap.size+1) GX bz x k h') KN KX KR)
  (hn:∀w',Tame w w'→KN w'.heap→Q .normal {a with defers:=Ey w.heap.size::a.defers} w')
  (hx:∀i w',Tame w w'→KX i w'.heap→Q (.exit i) {a with defers:=Ey w.heap.size::a.defers} w')
  (hr:∀w',Tame w w'→KR w'.heap→Q .ret {a with defers:=Ey w.heap.size::a.defers} w'):(Code.rangeFunc g ps assign body).wpIn (FW none) n P Q a w:=by
 refine wpIn_rangeFunc fun fn _=>?_
 obtain⟨lo,p⟩:∃lo:LoopState→Option Ex→Obj,lo=fun s j=>.loop {state:=s,pending:=Iz j,fn,tmps:=a.tmps,params:=ps,assign,body,defers:=w.heap.size}:=⟨_,rfl⟩
 have hj:∀j:Option Ex,(Iz j).isNone=j.isNone:=fun j=>by rcases j with _|⟨_|_⟩<;>rfl
 obtain⟨f,first,cap,rfl,he⟩:=hR.run lo (fun s j=>⟨_,by rw[p]⟩) (fun x h' K q z=>by
  refine⟨.inr ⟨_,rfl,⟨fun O X=>?_⟩⟩⟩
  subst X
  rw[p]at q
  have hy:=run_yield (P:=P) (args:=(m9 ks x).toArray) q (by simp only[cP,sK];rw[←J];rfl)
  refine⟨_,_,_,_,hy,fun c cs=>?_⟩
  have hA:Agree N (SC ps.toList (m9 ks x) r) {tmps:=(ps.zip (m9 ks x).toArray).foldl (fun t (x:Nat×Value)=>t.setIfInBounds x.1 x.2) a.tmps,defers:= []}:=by
   rw[Oy]
   exact E9 hps ⟨ha.size,ha.look⟩
  have m:∀j:Option Ex,∀W:World,Tame O W→(W.heap[w.heap.size+1]? =some (lo .busy none)∧K j.isNone (W.heap.setIfInBounds (w.heap.size+1) (lo (if j.isNone then .ready else .done) j)))→
    ∃v w',(Instr.endRound (w.heap.size+1) (Iz j)).run P W=.ok v w'∧∃b,Ending.returned v=.returned (.bool b)∧Tame O w'∧K b w'.heap:=by
   rintro j W I ⟨h1,S⟩
   rw[p]at h1
   have:=run_endRound (P:=P) (Iz j) h1
   refine⟨_,_,this,_,rfl,I.trans (ou ..),?_⟩
   rw[p]at S
   rw[hj]
   exact S
  have:=roundIn_of_wpIn (F:=FW none) (n:=0) (P:=P) (l:=w.heap.size+1) (f:=fn) (assign:=assign) (body:=body) (w:=O)
   (tmps:=(ps.zip (m9 ks x).toArray).foldl (fun t (x:Nat×Value)=>t.setIfInBounds x.1 x.2) a.tmps)
   (R:=fun e w'=>∃b,e=.returned (.bool b)∧Tame O w'∧K b w'.heap) trivial (by
    refine sd (ro:=some (w.heap.size+1)) A assign aa _ _ _ _ O _ z hA (fun ch a w h=>h) ?_ (fun i r' a' w' _ _ h=>h.elim) (fun r' a' w' _ _ h=>h.elim)
    rintro r2 a2 V T D ⟨u,C⟩
    rw[p]at u
    refine⟨_,run_beginRound u rfl,?_⟩
    have H:∀o,o=lo .busy none→V.heap.setIfInBounds (w.heap.size+1) o=V.heap.setIfInBounds (w.heap.size+1) (lo .busy none):=fun o ho=>by rw[ho]
    refine sd (ro:=some (w.heap.size+1)) A body ab (fun _ S=>_) (fun e _ S=>_) _ _ (V.putObj (w.heap.size+1) _) _ (by
     rw[JV,H _ (by rw[p])];exact C) T (fun ch a w h=>h) ?_ ?_ ?_
    ·rintro r3 a3 M G y L
     exact m none M ((D.tame.trans (ou ..)).trans y.tame) L
    ·rintro i r3 a3 M G y L
     exact m (some (.exit i)) M ((D.tame.trans (ou ..)).trans y.tame) L
    ·rintro r3 a3 M G y L
     exact m (some .ret) M ((D.tame.trans (ou ..)).trans y.tame) L)
  obtain⟨e,w',⟨b,rfl,I,hK⟩,Y⟩:=this.2 c cs (fun d h=>by simp[FW]at h)
  exact⟨b,w',I,hK,Y.steps⟩)
 have B:=he.run ((w.alloc (.deferred (some []))).alloc (lo .ready none)) rfl;refine⟨w.heap.size+1,[Ey w.heap.size],(w.alloc (.deferred (some []))).alloc (lo .ready none),{target:=.fn (.func f) cap,args:=first++ #[.func (.yield (w.heap.size+1)) #[] #[]]},(w.alloc (.deferred (some []))).alloc (lo .ready none),f,
  first++ #[.func (.yield (w.heap.size+1)) #[] #[]]++cap,(w.alloc (.deferred (some []))).alloc (lo .ready none),?_,?_,fun _ _=>trivial,?_,fun h=>by simp[FW]at h,?_⟩
 ·rw[p];exact run_enterLoop_outer fn a.tmps ps assign body
 ·have hev:=kz ha hg
  simp[resolve,hev,Deferred.ofValue,Sem.run_pure];rfl
 ·simp[invoke,B.1]
 ·refine E1 ?_
  have e:(first.toList++ [Value.func (.yield (w.heap.size+1)) #[] #[]]++cap.toList).toArray=first++ #[.func (.yield (w.heap.size+1)) #[] #[]]++cap:=by apply c8;simp
  rw[←e];refine B.2.mono ?_;rintro e w' ⟨I,t,rfl,s,j,Y,q,m⟩;have Z:Tame w w':=((DZ w _).trans (DZ _ _)).trans I;rw[p]at q;refine⟨_,_,run_endLoop q Y,?_⟩;have E:∀o,Tame w (w'.putObj (w.heap.size+1) o):=fun o=>Z.trans (ou ..)
  have H:∀o,o=lo .exhausted j→(w'.putObj (w.heap.size+1) o).heap=w'.heap.setIfInBounds (w.heap.size+1) (lo .exhausted j):=fun o ho=>by rw[ho];rfl
  rcases j with _|⟨i|_⟩
  ·exact hn _ (E _) (by rw[H _ (by rw[p])];exact m)
  ·exact wpIn_exit (hx i _ (E _) (by rw[H _ (by rw[p])];exact m))
  ·exact wpIn_ret (hr _ (E _) (by rw[H _ (by rw[p])];exact m))
theorem EV{n N id d:Nat}{ops:Array Oper}{m o:Oper}{x:Operand}{f:FuncId}{as:List Operand}{vs:List Value}{v:Value}{r:cJ}{a:Act}{w:World}{Q:Exit→Act→World→Prop}(b:EW ops.toList=some (m,o,x,d,f,as))(hv:dA r x=some v)(z:d<N)(i:nR ((d,v)::r) as=some vs)(j:Agree N r a)
  (s:∀a',Agree N ((d,v)::r) a'→a'.defers=pD (.call f vs)::a.defers→Q .normal a' w):(Code.region id ops false).wpIn (FW none) n P Q a w:=by
 unfold EW at b;split at b
 ·rename_i m' o' hl
  split at b
  ·rename_i x' d' c h1 h2 h3 h4 h5 h6
   split at b
   ·rename_i f' hc
    cases b;have u:ops[0]? =some m:=by rw[←bE,hl];rfl
    have q:ops[1]? =some o:=by rw[←bE,hl];rfl
    have es:ops.size=2:=by rw[←Array.length_toList,hl];rfl
    have w0:∀y,Region.wanted m y=true:=fun y=>by simp[Region.wanted,h2]
    have A:∀y,Region.wanted o y=true:=fun y=>by simp[Region.wanted,h6]
    refine wpIn_region ?_;rw[es,show cQ 2= [0,1]from rfl]
    simp only[wpOpsIn,u,q,w0,A,if_true];refine BigFrame.wpIn_move x h1 ?_;rw[kz j hv,h3];have g:=j.put d v z;refine⟨fun _ _=>trivial,?_⟩
    have er:((Oper.semAt (FW none).round (a.put (some d) v).eval o).run P w)=.ok (.defer (pD (.call f vs))) w:=by
     show((execOp (a.put (some d) v).eval o).run P w)=_
     have p:=mB g i;have k:c.args.map (a.put (some d) v).eval=vs.toArray:=by rw[←p];apply c8;simp
     simp only[execOp,h4,resolve,hc,k];simp[Act.eval,Deferred.ofValue,pD]
    rw[er,Oper.uponIn_defer,h5];exact s _ ⟨g.size,g.look⟩ rfl
   ·cases b
  ·cases b
 ·cases b
theorem H4(H:P.follows .mixedOrders=true){n N:Nat}(c:Code):∀(s:Ann) (Kn:List Mk→cJ→ad→Prop) (Kx:Ex→List Mk→cJ→ad→Prop) (ms:List Mk) (r:cJ) (a:Act) (w:World) (Q:Exit→Act→World→Prop),
  yK P N c s Kn Kx ms r w.heap→Agree N r a→a.defers=ms.map pD→(∀J a w,¬Q (.panic J) a w)→
  (∀p q a' w',Agree N q a'→a'.defers=p.map pD→Tame w w'→Kn p q w'.heap→Q .normal a' w')→
  (∀i p q a' w',Agree N q a'→a'.defers=p.map pD→Tame w w'→Kx (.exit i) p q w'.heap→Q (.exit i) a' w')→
  (∀p q a' w',Agree N q a'→a'.defers=p.map pD→Tame w w'→Kx .ret p q w'.heap→Q .ret a' w')→
  c.wpIn (FW none) n P Q a w:=by
 have plain:∀(c:Code) (s:Ann) (Kn:List Mk→cJ→ad→Prop) (Kx:Ex→List Mk→cJ→ad→Prop) (ms:List Mk) (r:cJ) (a:Act) (w:World) (Q:Exit→Act→World→Prop),
  kV P N c s (Kn ms) (fun e=>Kx e ms) r w.heap→Agree N r a→a.defers=ms.map pD→(∀J a w,¬Q (.panic J) a w)→
  (∀p q a' w',Agree N q a'→a'.defers=p.map pD→Tame w w'→Kn p q w'.heap→Q .normal a' w')→
  (∀i p q a' w',Agree N q a'→a'.defers=p.map pD→Tame w w'→Kx (.exit i) p q w'.heap→Q (.exit i) a' w')→
  (∀p q a' w',Agree N q a'→a'.defers=p.map pD→Tame w w'→Kx .ret p q w'.heap→Q .ret a' w')→
  c.wpIn (FW none) n P Q a w:=by
  intro c s Kn Kx ms r a w Q j u hd C z hx B;exact sd H c s _ _ r a w Q j u C (fun q a' w' E A D=>z ms q a' w' E (A.defers.trans hd) A.tame D) (fun i q a' w' E A D=>hx i ms q a' w' E (A.defers.trans hd) A.tame D)
   (fun q a' w' E A D=>B ms q a' w' E (A.defers.trans hd) A.tame D)
 induction c with
 |skip=>intro s Kn Kx ms r a w Q j;exact plain _ s Kn Kx ms r a w Q j
 |region id ops dr=>
  intro s Kn Kx ms r a w Q j u hd C z hx B;have j:(match EW ops.toList with
   |none=>kV P N (.region id ops dr) s (Kn ms) (fun e=>Kx e ms) r w.heap
   |some (_,_,x,d,f,as)=>bif dr then False else match dA r x with
    |some v=>bif xM d N then(match nR ((d,v)::r) as with|some vs=>Kn (.call f vs::ms) ((d,v)::r) w.heap|none=>False)else False
    |none=>False):=j
  split at j
  ·exact plain _ s Kn Kx ms r a w Q j u hd C z hx B
  ·rename_i m o x d f as he
   cases dr with
   |true=>exact j.elim
   |false=>
    rw[cond_false]at j;split at j
    · rename_i v hv
      cases hb:xM d N with
      |false=>rw[hb]at j;exact j.elim
      |true=>
       rw[hb,cond_true]at j;split at j
       ·rename_i vs hvs
        refine EV he hv (by simpa using hb) hvs u fun a' O W=>z (.call f vs::ms) _ a' w O ?_ ⟨rfl,rfl,rfl⟩ j
        rw[W,hd];rfl
       ·exact j.elim
    · exact j.elim
 |seq x y ihx ihy=>
  intro s Kn Kx ms r a w Q j u hd C z hx B;have j:(bif (bif rC x then true else rC y)then yK P N x s.l (fun ms q F=>yK P N y s.r Kn Kx ms q F) Kx ms r w.heap
   else kV P N (.seq x y) s (Kn ms) (fun e=>Kx e ms) r w.heap):=j
  cases hb:(bif rC x then true else rC y)with
  |false=>rw[hb]at j;exact plain _ _ _ _ _ _ _ _ _ j u hd C z hx B
  |true=>
   rw[hb,cond_true]at j;refine wpIn_seq (ihx s.l _ Kx ms r a w _ j u hd (fun J a w=>C J a w) ?_ hx B)
   intro M Y Z w1 T R I X;exact ihy s.r Kn Kx M Y Z w1 Q X T R C (fun p q a' w' E A D G=>z p q a' w' E A (I.trans D) G) (fun i p q a' w' E A D G=>hx i p q a' w' E A (I.trans D) G)
    (fun p q a' w' E A D G=>B p q a' w' E A (I.trans D) G)
 |cond c x y ihx ihy=>
  intro s Kn Kx ms r a w Q j u hd C z hx B;have j:(bif (bif rC x then true else rC y)then
    (match dA r c with
     |some (.bool t)=>CondP t (yK P N x s.l Kn Kx ms r w.heap) (yK P N y s.r Kn Kx ms r w.heap)
     |_=>False)
   else kV P N (.cond c x y) s (Kn ms) (fun e=>Kx e ms) r w.heap):=j
  cases hb:(bif rC x then true else rC y)with
  |false=>rw[hb]at j;exact plain _ _ _ _ _ _ _ _ _ j u hd C z hx B
  |true=>
   rw[hb,cond_true]at j;split at j
   ·rename_i t K
    exact wpIn_cond_split (kz u K) (fun e=>ihx _ Kn Kx ms r a w Q (j.yes e) u hd C z hx B) (fun e=>ihy _ Kn Kx ms r a w Q (j.no e) u hd C z hx B)
   ·exact j.elim
 |block id b ih=>
  intro s Kn Kx ms r a w Q j u hd C z hx B;have j:(bif rC b then yK P N b s Kn (fun e ms q F=>match e with
    | .exit i=>bif bL i id then Kn ms q F else Kx (.exit i) ms q F
    | .ret=>Kx .ret ms q F) ms r w.heap
   else kV P N (.block id b) s (Kn ms) (fun e=>Kx e ms) r w.heap):=j
  cases hb:rC b with
  |false=>rw[hb]at j;exact plain _ _ _ _ _ _ _ _ _ j u hd C z hx B
  |true=>
   rw[hb,cond_true]at j;refine wpIn_block (ih s Kn _ ms r a w _ j u hd (fun J a w=>C J a w) z (fun i p q a' w' E A D G=>?_) B)
   simp only[Exit.inBlock]at G⊢;cases hi:bL i id with
   |true=>
    rw[hi,cond_true]at G;rw[if_pos (bm hi)];exact z p q a' w' E A D G
   |false=>
    rw[hi,cond_false]at G;rw[if_neg (fun e=>by rw[e,rj]at hi;cases hi)]
    exact hx i p q a' w' E A D G
 |loop b ih=>intro s Kn Kx ms r a w Q j;exact plain _ s Kn Kx ms r a w Q j
 |rangeFunc g ps assign body _ _=>
  intro s Kn Kx ms r a w Q j u hd C z hx B;cases s with
  |rf ks aa ab=>
   have j:(bif yP N ps.toList&&bL ps.toList.length ks.length then
    (match dA r g with
     |some fv=>RangeP P fv ks w.heap (fun GX bz x k F=>LB P N ps.toList ks assign body (.node aa ab) r (w.heap.size+1) GX bz x k F)
       (fun F=>Kn (.it w.heap.size::ms) r F) (fun i F=>Kx (.exit i) (.it w.heap.size::ms) r F) (fun F=>Kx .ret (.it w.heap.size::ms) r F)
     |none=>False)else False):=j
   cases hb:(yP N ps.toList&&bL ps.toList.length ks.length)with
   |false=>rw[hb]at j;exact j.elim
   |true=>
    rw[hb,cond_true]at j;rw[bI]at hb;split at j
    · rename_i fv hfv
      have V:Agree N r {a with defers:=Ey w.heap.size::a.defers}:=⟨u.size,u.look⟩;have S:({a with defers:=Ey w.heap.size::a.defers}:Act).defers=(.it w.heap.size::ms).map pD:=by rw[List.map_cons,←hd]
      exact C8 H hb.1 (bm hb.2) hfv u j (fun w' K L=>z _ r _ w' V S K L) (fun i w' K L=>hx i _ r _ w' V S K L) (fun w' K L=>B _ r _ w' V S K L)
    · exact j.elim
  |_=>exact j.elim
 |exit id=>intro s Kn Kx ms r a w Q j;exact plain _ s Kn Kx ms r a w Q j
 |scope b _=>intro s Kn Kx ms r a w Q j;exact j.elim
 |label l=>intro s Kn Kx ms r a w Q j;exact plain _ s Kn Kx ms r a w Q j
 |goto l=>intro s Kn Kx ms r a w Q j;exact j.elim
 |ret=>intro s Kn Kx ms r a w Q j;exact plain _ s Kn Kx ms r a w Q j
 |refuse why=>intro s Kn Kx ms r a w Q j;exact j.elim
theorem uO{fn:Func}{ks:List Kind}{K:um ks→ad→Prop}{N:Nat}{n:Nat}{r:cJ}{a:Act}{w0:World}(c:Agree N r a):∀(ms:List Mk) (w:World),Tame w0 w→
  JB P ms (fun g=>nI P r g fn.results.toList fun vs=>Dd ks vs fun t=>K t g) w.heap→
  LeavesInM (FW none) n P fn a.tmps (fun e w'=>Tame w0 w'∧∃t:um ks,e=.returned (C7 ks (m9 ks t))∧K t w'.heap) (ms.map pD) .returning w
 | [],w,ht,h=>by
  obtain⟨t,b,k⟩:=JJ c h;exact⟨_,b,ht,t,rfl,k⟩
 | .it D::ms,w,ht,h=>by
  refine⟨by simp,.inl ⟨D,_,rfl,run_takeDeferred h.1,?_⟩⟩;exact uO c ms (w.putObj D (.deferred none)) (ht.trans (ou ..)) h.2
 | .call f vs::ms,w,ht,h=>by
  obtain⟨hc,hd⟩:=h w rfl;refine⟨by simp,.inr ⟨(fun e=>by cases e),.func f,#[],f,vs.toArray,rfl,?_,fun _ _=>trivial,CallsDIn.mono (hd (n-1)) fun e u w' ⟨m,d,⟨v,i⟩,j⟩=>?_⟩⟩
  ·have:=hc vs.toArray w
   simpa[invoke]using this
  ·subst m i
   exact uO c ms w' (ht.trans d) j
theorem HE.introM(k:P.follows .mixedOrders=true){f:FuncId}{fn:Func}{c:Code}{q:Ann}{args:List Value}{ks:List Kind}{K:um ks→ad→Prop}{h:ad}
  (v:P.funcs[f]? =some fn) (z:fn.body=some c) (b:∀(args:Array Value) (w:World),(callFunc f args).run P w=.ok (.enter f args) w) (m:args.length≤fn.ntmps)
  (s:LC P fn c q args ks K h):HE P f args ks K h:=by
 refine⟨fun w u=>⟨b,?_⟩⟩
 subst u;refine(callsIn_wide (n:=0)).1 (callsIn_of_wp_marks (F:=FW none) v z trivial ?_ rfl);refine wpIn_mono (Q:=fun e a w'=>(∀o,e≠ .panic o)∧bodyPostM (FW none) 0 P fn (fun e w'=>Tame w w'∧∃t:um ks,e=.returned (C7 ks (m9 ks t))∧K t w'.heap) e a w') ?_ fun e a w h=>h.2
 refine H4 k c q _ _ [] _ _ w _ s (MV m) rfl (fun o a w h=>h.1 o rfl) ?_ (fun _ _ _ _ _ _ _ _ h=>h.elim) ?_
 ·intro g y a' w' i d j p
  refine⟨(fun _ e=>by cases e),?_⟩
  show LeavesInM _ _ _ _ _ _ a'.defers _ _
  rw[d];exact uO i g w' j p
 ·intro g y a' w' i d j p
  refine⟨(fun _ e=>by cases e),?_⟩
  show LeavesInM _ _ _ _ _ _ a'.defers _ _
  rw[d];exact uO i g w' j p
theorem HC.introM(b:P.follows .mixedOrders=true){f:FuncId}{fn:Func}{c:Code}{j:Ann}{args:List Value}{ks:List Kind}{K:um ks→ad→Prop}{h:ad}
 (i:P.funcs[f]? =some fn) (k:fn.body=some c) (a:∀(args:Array Value) (w:World),(callFunc f args).run P w=.ok (.enter f args) w) (d:args.length≤fn.ntmps)
 (g:LC P fn c j args ks K h):HC P f args ks K h:=(HE.introM b i k a d g).hc
end Go.Lift
namespace Go.Lift
open Go
def AppP(z:Option (List Value))(sz b:Nat)(t:TypeId)(a:Option Addr)(sl d c:Nat)(xs:List Value)(h:ad)(K:SliceV→ad→Prop):Prop:=
 (sl+c≤d→tT h a (sl*sz) xs∧co xs=true∧K ⟨a,sl+c,d⟩ (fT h a (sl*sz) xs))∧
 (d<sl+c→∃old z',SRow h a (sl*sz) old∧z=some z'∧0<b∧Builtin.nextslicecap (sl+c) d*b≤2^48∧
  ∀nc,sl+c≤nc→K ⟨some (aD h),sl+c,nc⟩ (hnew h (old++xs++dE (nc-(sl+c)) z') t))
end Go.Lift
