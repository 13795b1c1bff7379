/- A part of the proof that the named laws of this program answer true, whatever the input. -/
import Derived.Test.YtajpljopgikpgaaGreatDoorLift1
open Array renaming getD_eq_getD_getElem?→cO,getElem?_toList→bv,getElem?_setIfInBounds_ne→dY,replicate→o5,getElem?_eq_some_iff→bR,getElem?_eq_getElem→hO,getElem?_eq_none→jz,mapM_eq_mapM_toList→lq
open Bool renaming or_eq_true→ik,and_eq_true→bq,or_eq_false_iff→kH
open List renaming mem_of_getElem?→aF,length_cons→aL,mem_cons→ar,getElem?_cons_zero→bT,getElem?_eq_getElem→ag,any_eq_true→bV,getElem?_eq_some_iff→bM,mem_cons_of_mem→aM,mem_cons_self→au,filter_cons→cl,mem_singleton→aq,size_toArray→cH
open Nat renaming beq→bw,eq_of_beq_eq_true→aS,land→iw,lor→cG,testBit_and→gy,zero_testBit→fo,succ→fp,zero_add→aB,beq_refl→pC,lt_or_ge→bD,pred→uH,sub_zero→eD
open Option renaming some→bm
namespace Go.Lift
open Go
variable {P:Program} {ro:Option Nat} {n:Nat}
def FW(ro:Option Nat):Fence:={fn:=fun _=>True,depth:=none,alive:=false,round:=ro}
theorem LY(m:Machine):m.fenced P (FW ro):=by
 intro g _;exact⟨fun h=>by simp[FW]at h,.inl trivial,fun _ _=>trivial,fun d h=>by simp[FW]at h⟩
theorem wc{m a:Machine}(h:Steps P m a):StepsIn (Machine.fenced P (FW ro)) P m a:=(StepsIn.of_steps h).mono fun m _=>LY m
theorem Cj{k:Nat}{f:FuncId}{args:Array Value}{w:World}{R:Ending→World→Prop}(h:Calls P f args w R):CallsIn (FW ro) k P f args w R:=by
 refine⟨trivial,fun cs _=>?_⟩
 obtain⟨e,w',fr,d,hc,a,b⟩:=h cs;refine⟨e,w',fr,d,?_,a,b⟩;cases e with
 |returned v=>exact wc hc
 |panicked c=>exact wc hc
 |outgrown=>exact hc
theorem om{o:Oper}{a:Act}{w:World}{K:WK}{next:Act→World→Prop}{Q:Exit→Act→World→Prop}(hd:∀c,o.op≠ .defer c)(h:Hl P (execOp a.eval o) K w)
  (j:∀v w',Tame w w'→K v w'.heap→next (a.put o.dst v) w'):o.wpIn (FW ro) n P a w next Q:=by
 refine⟨fun _ _=>trivial,?_⟩
 rw[Oper.semAt_eq _ _ _ hd];rcases h with⟨v,w',i,g,d⟩|⟨w',i,g,d⟩|⟨f,args,i,hc⟩|⟨l,fn,tmps,assign,body,i,hc⟩
 ·rw[i];exact j v w' g d
 ·rw[i];exact j undef w' g d
 ·rw[i]
  refine⟨fun h=>by simp[FW]at h,Cj (hc.mono ?_)⟩
  rintro e w' ⟨g,v,rfl,d⟩;exact j v w' g d
 ·rw[i]
  refine⟨fun h=>by simp[FW]at h,trivial,fun c cs _=>?_⟩
  obtain⟨b,w',g,d,k⟩:=hc c cs;exact⟨.returned (.bool b),w',j _ w' g d,wc k⟩
theorem qA{N:Nat}{o:Oper}{v:Value}{r:cn}{K:cn→Prop}{a:Act}{d:r7}{dv:DV}(h:wI N o v r K)(c:Agree N r a)(hd:DecOk d r)(hv:Dq dv v):
  ∃r',K r'∧Agree N r' (a.put o.dst v)∧DecOk (px d o dv) r':=by
 unfold wI at h;unfold px;cases ho:o.dst with
 |none=>rw[ho]at h;exact⟨r,h,c,hd⟩
 |some t=>
  rw[ho]at h;simp only at h;cases hb:Nat.blt t N with
  |false=>rw[hb]at h;exact h.elim
  |true=>
   rw[hb]at h;have b:t<N:=by simpa using hb
   refine⟨_,h,c.put t v b,fun s=>?_⟩
   by_cases e:t=s
   ·subst e
    have:pc ((t,dv)::d) t=dv:=by simp[pc]
    rw[this];exact .inr ⟨v,gK t v r,hv⟩
   ·have f:pc ((t,dv)::d) s=pc d s:=by
     have:bw t s=false:=Bool.eq_false_iff.2 fun e'=>e (aS e')
     show(bif bw t s then dv else pc d s)=_
     rw[this];rfl
    rw[f,ge v r e];exact hd s
theorem zT{ek:Option (Kind×Kind)}{o:Op}{r:cn}{K:RK}{h:ad}(a:yK P ek o r K h):∀c,o≠ .defer c:=by
 intro c e;subst e;exact a
theorem tK{o:Oper}{r:cn}{K:WK}{h:ad}(a:CW P o r K h):∀c,o.op≠ .defer c:=by
 intro c e;unfold CW at a;rw[e]at a;exact a
theorem R8{d:r7}{o:Op}(h:th P o=false):Gb d o=.x:=by
 cases o<;>first|rfl|(simp[th]at h)
theorem Lo{N:Nat}{ek:Option (Kind×Kind)}{o:Oper}{r:cn}{K:cn→ad→Prop}{a:Act}{w:World}{d:r7}{next:Act→World→Prop}{Q:Exit→Act→World→Prop}
  (c:Rj P N ek o r K w.heap)(i:Agree N r a)(hd:DecOk d r)
  (p:∀v w' e,Tame w w'→K e w'.heap→Agree N e (a.put o.dst v)→DecOk (px d o (Gb d o.op)) e→next (a.put o.dst v) w'):o.wpIn (FW ro) n P a w next Q:=by
 unfold Rj at c;cases hq:th P o.op with
 |true=>
  rw[hq,cond_true]at c;obtain⟨v,S,j,s,m,x⟩:=yX i c d hd;refine om (K:=fun u q=>u=v∧q=w.heap) (zT c) (.inl ⟨v,w,x w s,Tame.refl w,rfl,rfl⟩) ?_
  rintro u w' k ⟨rfl,t⟩;obtain⟨e,g,f,b⟩:=qA j i hd m;exact p u w' e k (by rw[t];exact g) f b
 |false=>
  rw[hq,cond_false]at c;refine om (tK c) (yN i c) ?_;intro v w' k j;obtain⟨e,g,f,b⟩:=qA j i hd (dv:=Gb d o.op) (by rw[R8 hq];trivial);exact p v w' e k g f b
theorem Eb{t:Array Value}{i:Nat}{b:Bool}(h:t.getD i undef=.bool b):t[i]? =some (.bool b):=by
 rw[cO]at h;cases hc:t[i]? with
 |none=>rw[hc]at h;simp[undef]at h
 |some v=>rw[hc]at h;simp at h;rw[h]
theorem Jc{t:Array Value}{i:Nat}(h:t.getD i undef=undef):t[i]? =none∨t[i]? =some undef:=by
 rw[cO]at h;cases hc:t[i]? with
 |none=>exact .inl rfl
 |some v=>rw[hc]at h;simp at h;rw[h];exact .inr rfl
theorem lG{N:Nat}{ops:Array Oper}{d:r7}{o:Oper}{b:Bool}{r:cn}{a:Act}(h:g7 ops.toList d o=some b)(n:Agree N r a)(hd:DecOk d r):
  Region.wanted o (yielded ops a.tmps)=b:=by
 unfold g7 at h;unfold Region.wanted;cases hg:o.guard with
 |none=>rw[hg]at h;simp only[bm.injEq]at h;exact h
 |some g=>
  obtain⟨j,c⟩:=g;rw[hg]at h;simp only[bv]at h;simp only;cases hj:ops[j]? with
  |none=>rw[hj]at h;cases h
  |some oj=>
   rw[hj]at h;simp only at h;cases ht:oj.dst with
   |none=>rw[ht]at h;cases h
   |some t=>
    rw[ht]at h;simp only at h;have m:yielded ops a.tmps j=(match a.tmps[t]? with|some (.bool b)=>some b|_=>none):=by
     unfold yielded;simp[hj,ht];rfl
    rw[m];rcases hd t with hx|⟨v,hv,k⟩
    ·rw[hx]at h;cases h
    ·have i:=n.look t v hv
     cases hdl:pc d t with
     |x=>rw[hdl]at h;cases h
     |t=>
      rw[hdl]at h k;simp only[bm.injEq]at h;subst h;have:v=.bool true:=k;subst this;rw[Eb i];cases c<;>rfl
     |f=>
      rw[hdl]at h k;simp only[bm.injEq]at h;subst h;have:v=.bool false:=k;subst this;rw[Eb i];cases c<;>rfl
     |u=>
      rw[hdl]at h k;simp only[bm.injEq]at h;subst h;have:v=undef:=k;subst this;rcases Jc i with e|e<;>rw[e]<;>cases c<;>rfl
structure Fr(W:Nat→Prop)(a0:Act)(w0:World)(a:Act)(w:World):Prop where
 tame:Tame w0 w
 defers:a.defers=a0.defers
 same:∀t,¬W t→a.tmps.getD t undef=a0.tmps.getD t undef
theorem Fr.refl(W:Nat→Prop)(a:Act)(w:World):Fr W a w a w:=⟨Tame.refl w,rfl,fun _ _=>rfl⟩
theorem Fr.put{W:Nat→Prop}{f a:Act}{w0 w w':World}(h:Fr W f w0 a w){o:Oper}(g:∀d,o.dst=some d→W d)(v:Value)(i:Tame w w'):Fr W f w0 (a.put o.dst v) w':=by
 refine⟨h.tame.trans i,?_,fun t b=>?_⟩
 ·cases ho:o.dst<;>simp[Act.put,h.defers]
 ·cases ho:o.dst with
  |none=>exact h.same t b
  |some d=>
   have c:d≠t:=fun e=>b (e▸g d ho)
   rw[←h.same t b];simp[Act.put,dY c]
theorem Fr.trans{W:Nat→Prop}{f b e:Act}{w0 a c:World}(h:Fr W f w0 b a)(k:Fr W b a e c):Fr W f w0 e c:=
 ⟨h.tame.trans k.tame,k.defers.trans h.defers,fun t d=>(k.same t d).trans (h.same t d)⟩
theorem Fr.mono{W W':Nat→Prop}{b a:Act}{w0 w:World}(h:Fr W b w0 a w)(d:∀t,W t→W' t):Fr W' b w0 a w:=
 ⟨h.tame,h.defers,fun t c=>h.same t fun e=>c (d t e)⟩
theorem DecOk.known{d:r7}{r:cn}(h:DecOk d r){t:Nat}{dv:DV}{v:Value}(hv:Dq dv v):DecOk ((t,dv)::d) ((t,v)::r):=fun s=>by
 by_cases e:t=s
 ·subst e
  have:pc ((t,dv)::d) t=dv:=by simp[pc]
  rw[this];exact .inr ⟨v,gK t v r,hv⟩
 ·have a:pc ((t,dv)::d) s=pc d s:=by
   have:bw t s=false:=Bool.eq_false_iff.2 fun e'=>e (aS e')
   show(bif bw t s then dv else pc d s)=_
   rw[this];rfl
  rw[a,ge v r e];exact h s
theorem Ba{N:Nat}{ek:Option (Kind×Kind)}{ops:Array Oper}{o:Oper}{i:Nat}{d:r7}{r:cn}{a:Act}{w:World}{b:Bool}{K:r7→cn→ad→Prop}{next:Act→World→Prop}{Q:Exit→Act→World→Prop}
  (hi:ops[i]? =some o) (s:g7 ops.toList d o=some b) (g:Agree N r a) (hd:DecOk d r)
  (k:match b with
   |true=>Rj P N ek o r (K (px d o (Gb d o.op))) w.heap
   |false=>wI N o undef r fun c=>K (px d o .u) c w.heap)
  (m:∀v w' d' c,Tame w w'→K d' c w'.heap→Agree N c (a.put o.dst v)→DecOk d' c→next (a.put o.dst v) w'):
  wpOpIn (FW ro) n P ops Q i next a w:=by
 unfold wpOpIn;rw[hi];simp only[lG s g hd];cases b with
 |true=>exact Lo k g hd fun v w' c q p f e=>m v w' _ c q p f e
 |false=>
  obtain⟨c,j,f,e⟩:=qA (dv:=.u) k g hd rfl;exact⟨fun _ _=>trivial,m undef w _ c (Tame.refl w) j f e⟩
theorem Ln{N:Nat}{ek:Option (Kind×Kind)}{ops:List Oper}{o:Oper}{os:List Oper}{d:r7}{K:cn→ad→Prop}{r:cn}{h:ad}:Bz P N ek ops (o::os) d K r h=
 (match g7 ops d o with
 |some true=>Rj P N ek o r (fun a c=>Bz P N ek ops os (px d o (Gb d o.op)) K a c) h
 |some false=>wI N o undef r fun a=>Bz P N ek ops os (px d o .u) K a h
 |none=>match B5 ops o with
  |none=>False
  |some t=>match jd r t with
   |some (.bool b)=>CondP b
    (DG P N ek ops o ((t,.t)::d) ((t,.bool true)::r) h fun e a c=>Bz P N ek ops os e K a c)
    (DG P N ek ops o ((t,.f)::d) ((t,.bool false)::r) h fun e a c=>Bz P N ek ops os e K a c)
   |_=>False):=rfl
theorem Dw{N:Nat}{ek:Option (Kind×Kind)}{ops:Array Oper}{o:Oper}{i:Nat}{d:r7}{r:cn}{a:Act}{w:World}{K:r7→cn→ad→Prop}{next:Act→World→Prop}{Q:Exit→Act→World→Prop}
  (hi:ops[i]? =some o) (f:Agree N r a) (hd:DecOk d r) (c:DG P N ek ops.toList o d r w.heap K)
  (e:∀v w' d' r',Tame w w'→K d' r' w'.heap→Agree N r' (a.put o.dst v)→DecOk d' r'→next (a.put o.dst v) w'):
  wpOpIn (FW ro) n P ops Q i next a w:=by
 unfold DG at c;cases hw:g7 ops.toList d o with
 |none=>rw[hw]at c;exact c.elim
 |some b=>rw[hw]at c;exact Ba (ek:=ek) hi hw f hd (by cases b<;>exact c) e
theorem Bx{N:Nat}{ek:Option (Kind×Kind)}{ops:Array Oper}{W:Nat→Prop}(p:∀o∈ops.toList,∀d,o.dst=some d→W d){u:Act}{w0:World}{K:cn→ad→Prop}{Q:Exit→Act→World→Prop}
  (q:∀r a w,Agree N r a→Fr W u w0 a w→K r w.heap→Q .normal a w):
  ∀(l:List Oper) (i:Nat),ops.toList.drop i=l→∀(d:r7) (r:cn) (a:Act) (w:World),Bz P N ek ops.toList l d K r w.heap→Agree N r a→DecOk d r→Fr W u w0 a w→
   wpOpsIn (FW ro) n P ops Q (List.range' i l.length) a w
 | [],i,_,d,r,a,w,hs,ha,hd,hf=>q r a w ha hf hs
 |o::os,i,hdr,d,r,a,w,hs,ha,hd,hf=>by
  have hi:ops[i]? =some o:=by
   rw[←bv];have:(ops.toList.drop i)[0]? =some o:=by rw[hdr];rfl
   simpa using this
  have f:o∈ops.toList:=aF (by rw[bv];exact hi);have g:ops.toList.drop (i+1)=os:=by rw[←List.tail_drop,hdr];rfl
  rw[aL,List.range'_succ,wpOpsIn_cons];rw[Ln]at hs;have k:∀v w' e c,Tame w w'→Bz P N ek ops.toList os e K c w'.heap→Agree N c (a.put o.dst v)→DecOk e c→wpOpsIn (FW ro) n P ops Q (List.range' (i+1) os.length) (a.put o.dst v) w':=
   fun v w' e c s y m j=>Bx p q os (i+1) g e c _ w' y m j (hf.put (p o f) v s)
  cases hw:g7 ops.toList d o with
  |some b=>
   rw[hw]at hs;exact Ba (ek:=ek) (K:=fun e c x=>Bz P N ek ops.toList os e K c x) hi hw ha hd (by cases b<;>exact hs) k
  |none=>
   rw[hw]at hs;simp only at hs;split at hs
   ·exact hs.elim
   ·rename_i t s
    split at hs
    ·rename_i b hb
     cases b with
     |true=>exact Dw hi (ha.known hb) (hd.known (dv:=.t) rfl) (hs.yes rfl) k
     |false=>exact Dw hi (ha.known hb) (hd.known (dv:=.f) rfl) (hs.no rfl) k
    ·exact hs.elim
end Go.Lift
namespace Go.Lift
open Go
theorem xm(m i:Nat):tb m i=m.testBit i:=by
 have h:iw (Nat.shiftRight m i) 1=(m>>>i)&&&1:=rfl;unfold tb;rw[h,Nat.testBit_eq_decide_div_mod_eq,Nat.and_one_is_mod,Nat.shiftRight_eq_div_pow];cases hm:decide (m/2^i%2=1)with
 |true=>rw[of_decide_eq_true hm];rfl
 |false=>
  have a:=of_decide_eq_false hm;have:m/2^i%2=0:=by omega
  rw[this];rfl
theorem mn(a b i:Nat):(cG a b).testBit i=(a.testBit i||b.testBit i):=Nat.testBit_or a b i
theorem wL(i j:Nat):(gc i).testBit j=decide (i=j):=Nat.testBit_two_pow
theorem zq{a b:Nat}(h:bw (iw a b) 0=true)(t:Nat)(d:a.testBit t=true)(e:b.testBit t=true):False:=by
 have c:=aS h;have:(iw a b).testBit t=(a.testBit t&&b.testBit t):=gy a b t;rw[c,d,e]at this;simp at this
theorem PO{a b:Nat}(h:bw (iw a b) a=true)(t:Nat)(d:a.testBit t=true):b.testBit t=true:=by
 have c:=aS h;have:(iw a b).testBit t=(a.testBit t&&b.testBit t):=gy a b t;rw[c,d]at this;simpa using this.symm
theorem vG(i:Nat):∀l:List Edge,(kY l).testBit i=l.any fun e=>bw e.on i&&Region.binds .any e
 | []=>fo i
 |e::l=>by
  have a:=vG i l;have hc:kY (e::l)=bif Region.binds .any e then cG (gc e.on) (kY l)else kY l:=rfl;rw[hc,List.any_cons,←a];cases hb:Region.binds .any e with
  |true=>
   rw[cond_true,mn,wL,Bool.and_true];congr 1
   cases hd:bw e.on i with
   |true=>simpa using aS hd
   |false=>rw[decide_eq_false_iff_not];intro e';rw[e']at hd;simp at hd
  |false=>simp
theorem xY(o:Oper)(i:Nat):(kY o.after.toList).testBit i=g8 o i:=vG i o.after.toList
theorem xj(t:Nat):∀l:List Operand,(j5 l).testBit t=true↔Operand.tmp t∈l
 | []=>by simp[show j5 []=0 from rfl]
 |o::l=>by
  have a:=xj t l;cases o with
  |tmp u=>
   have hc:j5 (.tmp u::l)=cG (gc u) (j5 l):=rfl;rw[hc,mn,wL,ik,a,ar];simp[eq_comm]
  |const v=>
   have hc:j5 (.const v::l)=j5 l:=rfl;rw[hc,a,ar];simp
  |global v=>
   have hc:j5 (.global v::l)=j5 l:=rfl;rw[hc,a,ar];simp
  |func v=>
   have hc:j5 (.func v::l)=j5 l:=rfl;rw[hc,a,ar];simp
theorem ut(o:Oper)(t:Nat):(l0 o).testBit t=true↔o.dst=some t:=by
 unfold l0;cases o.dst with
 |none=>simp
 |some d=>simp[wL]
theorem C6(ops:Array Oper)(o:Oper)(t:Nat):(my ops.toList o).testBit t=true↔t∈o.looksAt ops:=by
 unfold my Oper.looksAt;rw[mn,ik,xj,List.mem_append,List.mem_filterMap];refine or_congr ⟨fun h=>⟨_,h,rfl⟩,?_⟩ ?_
 ·rintro⟨x,hx,a⟩
  cases x<;>simp at a
  subst a;exact hx
 ·cases hg:o.guard with
  |none=>simp
  |some g=>
   obtain⟨j,b⟩:=g;simp only[bv];cases hj:ops[j]? with
   |none=>simp
   |some oj=>simp[ut]
variable {P:Program} {ro:Option Nat} {n:Nat} {ops:Array Oper} {Q:Exit→Act→World→Prop}
structure MsOk(ops:Array Oper)(ms:List DM):Prop where
 am:∀(i:Nat) (o:Oper) (m:DM),ops[i]? =some o→ms[i]? =some m→∀j,m.am.testBit j=g8 o j
 lk:∀(i:Nat) (o:Oper) (m:DM),ops[i]? =some o→ms[i]? =some m→∀t,m.lk.testBit t=true↔t∈o.looksAt ops
 ds:∀(i:Nat) (o:Oper) (m:DM),ops[i]? =some o→ms[i]? =some m→∀t,m.ds.testBit t=true↔o.dst=some t
 len:ms.length=ops.size
 free:∀(i j:Nat) (m k:DM),ms[i]? =some m→ms[j]? =some k→m.fr.testBit j=true→j=i∨k.am.testBit i=true∨zs m k=true
 nosel:∀(i:Nat) (o:Oper),ops[i]? =some o→(∀cs b,o.op≠ .select cs b)∧(∀c,o.op≠ .defer c)
theorem xD(ops:List Oper):∀(l:List Oper) (ms:List DM),tT ops l ms=true→ms.length=l.length∧∀(i:Nat) (o:Oper) (m:DM),l[i]? =some o→ms[i]? =some m→
  m.am=kY o.after.toList∧m.lk=my ops o∧m.ds=l0 o
 | [],[],_=>⟨rfl,fun i o m h=>by simp at h⟩
 | [],_::_,h=>by cases h
 |o::l,[],h=>by cases h
 |o::l,m::ms,h=>by
  have hc:tT ops (o::l) (m::ms)=(bw (kY o.after.toList) m.am&&bw (my ops o) m.lk&&bw (l0 o) m.ds&&tT ops l ms):=rfl;rw[hc]at h;simp only[bq]at h;obtain⟨⟨⟨b,j⟩,f⟩,e⟩:=h;obtain⟨g,c⟩:=xD ops l ms e;refine⟨by simp[g],fun i k d a hm=>?_⟩
  cases i with
  |zero=>
   simp only[bT,bm.injEq]at a hm;subst a;subst hm;exact⟨(aS b).symm,(aS j).symm,(aS f).symm⟩
  |succ i=>exact c i k d (by simpa using a) (by simpa using hm)
theorem Ec(i:Nat)(m:DM):∀(l:List DM) (j0:Nat),Ee i m l j0=true→∀(j:Nat) (k:DM),l[j]? =some k→m.fr.testBit (j0+j)=true→j0+j=i∨k.am.testBit i=true∨zs m k=true
 | [],j0,_,j,k,hk,_=>by simp at hk
 |x::l,j0,h,j,k,hk,hb=>by
  have hc:Ee i m (x::l) j0=((!(tb m.fr j0)||bw j0 i||tb x.am i||zs m x)&&Ee i m l (fp j0)):=rfl
  rw[hc]at h;simp only[bq,ik,Bool.not_eq_true',xm]at h;cases j with
  |zero=>
   simp only[bT,bm.injEq]at hk;subst hk;simp only[Nat.add_zero]at hb⊢;rcases h.1 with((a|a)|a)|a
   ·rw[a]at hb;cases hb
   ·exact .inl (aS a)
   ·exact .inr (.inl a)
   ·exact .inr (.inr a)
  |succ j=>
   have:=Ec i m l (j0+1) h.2 j k (by simpa using hk) (by rw[show j0+1+j=j0+(j+1) by omega];exact hb)
   rw[show j0+1+j=j0+(j+1) by omega]at this
   exact this
theorem Ab(a:List DM):∀(l:List DM) (i0:Nat),xJ a l i0=true→∀(i:Nat) (m:DM),l[i]? =some m→Ee (i0+i) m a 0=true
 | [],i0,_,i,m,hm=>by simp at hm
 |x::l,i0,h,i,m,hm=>by
  have hc:xJ a (x::l) i0=(Ee i0 x a 0&&xJ a l (fp i0)):=rfl;rw[hc,bq]at h;cases i with
  |zero=>simp only[bT,bm.injEq]at hm;subst hm;exact h.1
  |succ i=>
   have:=Ab a l (i0+1) h.2 i m (by simpa using hm);rw[show i0+1+i=i0+(i+1) by omega]at this
   exact this
theorem DY:∀(l:List Oper),GR l=true→∀o∈l,(∀cs b,o.op≠ .select cs b)∧(∀c,o.op≠ .defer c)
 | [],_,o,a=>by cases a
 |x::l,h,o,a=>by
  simp only[GR,bq]at h;rcases ar.1 a with rfl|a
  ·refine⟨fun cs b e=>?_,fun c e=>?_⟩
   ·rw[e]at h;cases h.1
   ·rw[e]at h;cases h.1
  ·exact DY l h.2 o a
theorem IG{ms:List DM}(h:AY ops.toList ms=true):MsOk ops ms:=by
 have hc:AY ops.toList ms=(tT ops.toList ops.toList ms&&xJ ms ms 0&&GR ops.toList):=rfl;rw[hc]at h;simp only[bq]at h;obtain⟨⟨c,g⟩,f⟩:=h;obtain⟨e,b⟩:=xD ops.toList ops.toList ms c;refine⟨fun i o m a hm j=>?_,fun i o m a hm t=>?_,fun i o m a hm t=>?_,by simpa using e,fun i j m k hm d n=>?_,fun i o a=>?_⟩
 ·rw[(b i o m (by simpa using a) hm).1,xY]
 ·rw[(b i o m (by simpa using a) hm).2.1,C6]
 ·rw[(b i o m (by simpa using a) hm).2.2,ut]
 ·have:=Ab ms ms 0 g i m hm
  rw[aB]at this;have:=Ec i m ms 0 this j k d (by rwa [aB]);rwa [aB]at this
 ·exact DY _ f o (aF (by rw[bv];exact a))
theorem On{ms:List DM}(hm:MsOk ops ms){i j:Nat}{c a:Oper}{g f:DM}(hi:ops[i]? =some c) (k:ops[j]? =some a) (e:ms[i]? =some g) (b:ms[j]? =some f) (h:zs g f=true):
  (∀d,c.dst=some d→d∉a.looksAt ops)∧(∀d,c.dst=some d→a.dst≠some d)∧(∀d,a.dst=some d→d∉c.looksAt ops):=by
 unfold zs at h;rw[bq]at h;refine⟨fun d hd m=>?_,fun d hd n=>?_,fun d hd m=>?_⟩
 ·exact zq h.1 d ((hm.ds i c g hi e d).2 hd) (by rw[mn,(hm.lk j a f k b d).2 m,Bool.true_or])
 ·exact zq h.1 d ((hm.ds i c g hi e d).2 hd) (by rw[mn,(hm.ds j a f k b d).2 n,Bool.or_true])
 ·exact zq h.2 d ((hm.ds j a f k b d).2 hd) ((hm.lk i c g hi e d).2 m)
structure LsRel(ops:Array Oper)(ls:Nat)(listed:Array Bool):Prop where
 size:listed.size=ops.size
 bit:∀j,listed.getD j false=ls.testBit j
theorem LsRel.start:LsRel ops 0 (o5 ops.size false):=⟨by simp,fun j=>by
 rw[fo,cO]
 by_cases h:j<ops.size<;>simp[h]⟩
theorem LsRel.put{ls:Nat}{listed:Array Bool}(h:LsRel ops ls listed){i:Nat}(hi:i<ops.size):LsRel ops (cG ls (gc i)) (listed.setIfInBounds i true):=by
 refine⟨by simp[h.size],fun j=>?_⟩
 rw[mn,wL,←h.bit];by_cases e:i=j
 ·subst e;simp[h.size,hi]
 ·simp[e,dY e]
theorem LsRel.unlisted{ls:Nat}{listed:Array Bool}(h:LsRel ops ls listed){i:Nat}(hi:i<ops.size):listed.getD i true=ls.testBit i:=by
 rw[←h.bit];have:i<listed.size:=by rw[h.size];exact hi
 simp[this]
theorem DP{ms:List DM}(hm:MsOk ops ms){ls:Nat}{listed:Array Bool}(h:LsRel ops ls listed){j:Nat}:j∈Region.ready .any ops listed↔∃m,ms[j]? =some m∧ls.testBit j=false∧DQ m ls=true:=by
 rw[mem_ready];constructor
 ·rintro⟨i,o,n,f⟩
  have a:j<ops.size:=(bR.1 n).1;have b:j<ms.length:=by rw[hm.len];exact a
  refine⟨ms[j],ag b,by rw[←h.unlisted a];exact i,?_⟩
  unfold DQ;have:iw (ms[j]).am ls=(ms[j]).am:=by
   apply Nat.eq_of_testBit_eq;intro t;have g:(iw (ms[j]).am ls).testBit t=((ms[j]).am.testBit t&&ls.testBit t):=gy _ _ t;rw[g];cases ht:(ms[j]).am.testBit t with
   |false=>rfl
   |true=>
    rw[hm.am j o _ n (ag b)]at ht;unfold g8 at ht;obtain⟨e,k,d⟩:=bV.1 ht;simp only[bq]at d;have:=f e (by simpa using k) d.2;rw[aS d.1,h.bit]at this;rw[this];rfl
  rw[this];exact pC _
 ·rintro⟨m,c,i,p⟩
  have a:j<ops.size:=by rw[←hm.len];exact(bM.1 c).1
  refine⟨by rw[h.unlisted a];exact i,ops[j],hO a,fun e k d=>?_⟩
  rw[h.bit];refine PO p e.on ?_;rw[hm.am j _ m (hO a) c];unfold g8;exact bV.2 ⟨e,by simpa using k,by simp[d]⟩
theorem pJ(ls:Nat):∀(l:List DM) (j0 j:Nat),j∈j9 ls l j0↔∃k m,l[k]? =some m∧j=j0+k∧ls.testBit j=false∧DQ m ls=true
 | [],j0,j=>by simp[show j9 ls [] j0= []from rfl]
 |m::l,j0,j=>by
  have hc:j9 ls (m::l) j0=bif !(tb ls j0)&&DQ m ls then j0::j9 ls l (fp j0)else j9 ls l (fp j0):=rfl;have e:=pJ ls l (j0+1) j;rw[hc,xm];have step:(∃k c,(m::l)[k]? =some c∧j=j0+k∧ls.testBit j=false∧DQ c ls=true)↔(j=j0∧ls.testBit j0=false∧DQ m ls=true)∨j∈j9 ls l (j0+1):=by
   rw[e];constructor
   ·rintro⟨k,c,d,rfl,a,b⟩
    cases k with
    |zero=>simp only[bT,bm.injEq]at d;subst d;exact .inl ⟨rfl,a,b⟩
    |succ k=>exact .inr ⟨k,c,by simpa using d,by omega,a,b⟩
   ·rintro(⟨rfl,a,b⟩|⟨k,c,d,rfl,a,b⟩)
    ·exact⟨0,m,rfl,rfl,a,b⟩
    ·exact⟨k+1,c,by simpa using d,by omega,a,b⟩
  rw[step];cases hb:(!(ls.testBit j0)&&DQ m ls)with
  |true=>
   simp only[bq,Bool.not_eq_true']at hb;rw[cond_true,ar];simp[hb.1,hb.2]
  |false=>
   rw[cond_false];constructor
   ·exact .inr
   ·rintro(⟨_,a,b⟩|h)
    ·rw[a,b]at hb;cases hb
    ·exact h
theorem kO{ms:List DM}(hm:MsOk ops ms){ls:Nat}{listed:Array Bool}(h:LsRel ops ls listed){j:Nat}:j∈Region.ready .any ops listed↔j∈j9 ls ms 0:=by
 rw[DP hm h,pJ];constructor
 ·rintro⟨m,c,b,a⟩;exact⟨j,m,c,by omega,b,a⟩
 ·rintro⟨k,m,c,rfl,b,a⟩;exact⟨m,by simpa using c,b,a⟩
theorem uP:∀{a b:List Nat},sA a b=true→a=b
 | [],[],_=>rfl
 | [],_::_,h=>by cases h
 |_::_,[],h=>by cases h
 |a::as,b::bs,h=>by
  simp only[sA,bq]at h;rw[aS h.1,uP h.2]
end Go.Lift
namespace Go.Lift
open Go
variable {P:Program} {ro:Option Nat} {n:Nat} {ops:Array Oper} {Q:Exit→Act→World→Prop}
theorem xi{m:Nat}{p:Nat→Bool}(hm:∀j,m.testBit j=true→p j=true):∀(l:List DM) (j0:Nat),(∀j x,l[j]? =some x→p (j0+j)=true→∀k,x.am.testBit k=true→p k=true)→∀k,(upM m l j0).testBit k=true→p k=true
 | [],_,_,k,h=>hm k h
 |x::l,j0,hl,k,h=>by
  have hc:upM m (x::l) j0=bif tb m j0 then cG x.am (upM m l (fp j0))else upM m l (fp j0):=rfl;have a:=xi hm l (j0+1) (fun j y c b=>hl (j+1) y (by simpa using c) (by rw[show j0+(j+1)=j0+1+j by omega];exact b)) k
  rw[hc,xm]at h;cases hb:m.testBit j0 with
  |true=>
   rw[hb,cond_true,mn,ik]at h;rcases h with h|h
   ·exact hl 0 x rfl (hm _ hb) k h
   ·exact a h
  |false=>
   rw[hb,cond_false]at h;exact a h
theorem xh{m k:Nat}(h:m.testBit k=true):∀(l:List DM) (j0:Nat),(upM m l j0).testBit k=true
 | [],_=>h
 |x::l,j0=>by
  have hc:upM m (x::l) j0=bif tb m j0 then cG x.am (upM m l (fp j0))else upM m l (fp j0):=rfl;have a:=xh h l (j0+1);rw[hc];cases tb m j0 with
  |true=>rw[cond_true,mn,ik];exact .inr a
  |false=>exact a
def Shut(ms:List DM)(listed:Array Bool):Prop:=∀j x,ms[j]? =some x→listed.getD j false=true→∀k,x.am.testBit k=true→listed.getD k false=true
theorem L6{ms:List DM}{listed:Array Bool}(c:Shut ms listed){m:Nat}(hm:∀j,m.testBit j=true→listed.getD j false=true){k:Nat}(h:(xR ms m).testBit k=true):listed.getD k false=true:=by
 have a:∀j x,ms[j]? =some x→(fun k=>listed.getD k false) (0+j)=true→∀k,x.am.testBit k=true→(fun k=>listed.getD k false) k=true:=fun j x hx b=>c j x hx (by rw[aB]at b;exact b)
 unfold xR at h;exact xi (p:=fun k=>listed.getD k false) (xi (xi (xi hm ms 0 a) ms 0 a) ms 0 a) ms 0 a k h
theorem Em{ms:List DM}{m k:Nat}(h:m.testBit k=true):(xR ms m).testBit k=true:=by
 unfold xR;exact xh (xh (xh (xh h ms 0) ms 0) ms 0) ms 0
noncomputable abbrev rel(ms:List DM)(i:Nat)(L:oT):oT:=xq (xR ms (FJ ms i)) L
theorem iL{m:Nat}{x:Nat×(ad→Prop)}:∀{L:oT},x∈xq m L↔x∈L∧tb m x.1=false
 | []=>by simp[xq]
 |(k,S)::L=>by
  have b:=iL (m:=m) (x:=x) (L:=L);simp only[xq];cases hk:tb m k with
  |true=>
   rw[cond_true,b,ar];constructor
   ·exact fun h=>⟨.inr h.1,h.2⟩
   ·rintro⟨h|h,a⟩
    ·subst h;rw[hk]at a;cases a
    ·exact⟨h,a⟩
  |false=>
   rw[cond_false,ar,b,ar];constructor
   ·rintro(h|h)
    ·subst h;exact⟨.inl rfl,hk⟩
    ·exact⟨.inr h.1,h.2⟩
   ·rintro⟨h|h,a⟩
    ·exact .inl h
    ·exact .inr ⟨h,a⟩
def MG(ms:List DM)(ro:Option Nat)(n:Nat)(P:Program)(ops:Array Oper)(Q:Exit→Act→World→Prop):Nat→oT→Array Bool→Act→World→Prop
 |0,_,listed,a,w=>Region.ready .any ops listed= []∧Q .normal a w
 |f+1,L,listed,a,w=>(Region.ready .any ops listed= []→Q .normal a w)∧
  ∀i∈Region.ready .any ops listed,∀o,ops[i]? =some o→
   wpOpIn (FW ro) n P ops Q i (fun a' w'=>(∀x∈rel ms i L,x.2 w'.heap)∧MG ms ro n P ops Q f (rel ms i L) (listed.setIfInBounds i true) a' w') a w
theorem tS{o:Oper}{x:Nat×(ad→Prop)}:∀{L:oT},x∈mK o L↔x∈L∧g8 o x.1=false
 | []=>by simp[mK]
 |(k,S)::L=>by
  have b:=tS (o:=o) (x:=x) (L:=L);simp only[mK];cases hk:g8 o k with
  |true=>
   rw[cond_true,b,ar];constructor
   ·exact fun h=>⟨.inr h.1,h.2⟩
   ·rintro⟨h|h,a⟩
    ·subst h;rw[hk]at a;cases a
    ·exact⟨h,a⟩
  |false=>
   rw[cond_false,ar,b,ar];constructor
   ·rintro(h|h)
    ·subst h;exact⟨.inl rfl,hk⟩
    ·exact⟨.inr h.1,h.2⟩
   ·rintro⟨h|h,a⟩
    ·exact .inl h
    ·exact .inr ⟨h,a⟩
theorem Lv{listed:Array Bool}{i:Nat}(h:i∈Region.ready .any ops listed):∃o,ops[i]? =some o:=by
 obtain⟨_,o,a,_⟩:=mem_ready.1 h;exact⟨o,a⟩
theorem Kd{ms:List DM}:∀(f:Nat) (L:oT) (listed:Array Bool) (a:Act) (w:World),MG ms ro n P ops Q f L listed a w→wpAnyIn (FW ro) n P .any ops Q f listed a w
 |0,_,_,_,_,h=>h
 |f+1,L,listed,a,w,h=>⟨h.1,fun i hi=>by
  obtain⟨o,b⟩:=Lv hi
  exact wpOpIn_mono (fun a' w' c=>Kd f _ _ a' w' c.2) (h.2 i hi o b)⟩
theorem rB{ms:List DM}:∀(f:Nat) (L L':oT) (listed:Array Bool) (a:Act) (w:World),(∀x∈L',x∈L∨∀h,x.2 h)→MG ms ro n P ops Q f L listed a w→MG ms ro n P ops Q f L' listed a w
 |0,_,_,_,_,_,_,h=>h
 |f+1,L,L',listed,a,w,hs,h=>⟨h.1,fun i hi o d=>by
  have b:∀x∈rel ms i L',x∈rel ms i L∨∀h,x.2 h:=fun x hx=>(hs x (iL.1 hx).1).imp (fun h=>iL.2 ⟨h,(iL.1 hx).2⟩) id
  exact wpOpIn_mono (fun a' w' c=>⟨fun x hx=>(b x hx).elim (c.1 x) fun h=>h _,rB f _ _ _ a' w' b c.2⟩) (h.2 i hi o d)⟩
def YG(P:Program)(ops:Array Oper)(S:ad→Prop)(o:Oper)(v:Value)(a:Act):Prop:=
 (Region.wanted o (yielded ops a.tmps)=true∧∀w:World,S w.heap→(execOp a.eval o).run P w=.ok (.value v) w)∨
 (Region.wanted o (yielded ops a.tmps)=false∧v=undef)
theorem YG.wpOp{S:ad→Prop}{i:Nat}{o:Oper}{v:Value}{a:Act}(hi:ops[i]? =some o) (hd:∀c,o.op≠ .defer c) (e:YG P ops S o v a) {K:Act→World→Prop} {w:World} (d:S w.heap)
  (h:K (a.put o.dst v) w):wpOpIn (FW ro) n P ops Q i K a w:=by
 unfold wpOpIn;simp only[hi];rcases e with⟨b,hv⟩|⟨b,rfl⟩
 ·simp only[b,if_true]
  refine⟨fun _ _=>trivial,?_⟩
  rw[Oper.semAt_eq _ _ _ hd,hv w d];exact h
 ·simp only[b,Bool.false_eq_true,if_false];exact⟨fun _ _=>trivial,h⟩
theorem YG.of_same{S:ad→Prop}{o:Oper}{v:Value}{a a':Act}(d:YG P ops S o v a)(c:execOp a'.eval o=execOp a.eval o)
  (b:Region.wanted o (yielded ops a'.tmps)=Region.wanted o (yielded ops a.tmps)):YG P ops S o v a':=by
 unfold YG at*;rw[c,b];exact d
theorem HX{S:ad→Prop}{j:Nat}{g i:Oper}{v:Value}(E:ops[j]? =some i)
  (A:(∀d,g.dst=some d→d∉i.looksAt ops)∧(∀d,g.dst=some d→i.dst≠some d)∧(∀d,i.dst=some d→d∉g.looksAt ops))
  (t:∀cs b,g.op≠ .select cs b) (z:∀cs b,i.op≠ .select cs b) (q:∀c,i.op≠ .defer c)
  (C:∀e a w,(∀c,e=.panic c→False)∨¬Q e a w) {K:Act→World→Prop} {a:Act} {w:World}
  (k:YG P ops S g v a) (h:wpOpIn (FW ro) n P ops Q j K (a.put g.dst v) w):
  wpOpIn (FW ro) n P ops Q j (fun a' w'=>YG P ops S g v a'∧K (a'.put g.dst v) w') a w:=by
 obtain⟨B,p,y⟩:=A;have o:∀c a w,¬Q (.panic c) a w:=fun c a w D=>(C (.panic c) a w).elim (fun h=>h c rfl) fun h=>h D
 have keep:∀(a:Act),YG P ops S g v a→∀u,YG P ops S g v (a.put i.dst u):=fun a k u=>
  k.of_same (execOp_put g t a i.dst u y) (wanted_put g a i.dst u y)
 unfold wpOpIn at*;simp only[E]at*;rw[wanted_put i a g.dst v B]at h;split
 ·rename_i hw
  simp only[hw,if_true]at h;refine⟨fun _ _=>trivial,?_⟩
  have h:=h.2;rw[Oper.semAt_eq _ _ _ q,execOp_put i z a g.dst v B]at h;rw[Oper.semAt_eq _ _ _ q];generalize (execOp a.eval i).run P w=r at*;cases r with
  |ok x w'=>
   cases x<;>simp only[Oper.uponIn]at h⊢
   case value u=>exact⟨keep a k u,by rw[←Act.put_comm a v u p];exact h⟩
   case skip=>exact⟨keep a k _,by rw[←Act.put_comm a v undef p];exact h⟩
   case defer d=>
    refine⟨(k.of_same (a':={a with defers:=d::a.defers}) rfl rfl).of_same (execOp_put g t _ i.dst undef y) (wanted_put g _ i.dst undef y),?_⟩;rw[←Act.put_comm _ v undef p,←Act.put_defers];exact h
   case enter f args=>
    refine⟨h.1,CallsIn.mono h.2 fun e s m=>?_⟩
    cases e with
    |returned u=>exact⟨keep a k u,by rw[←Act.put_comm a v u p];exact m⟩
    |panicked c=>exact(o _ _ _ m).elim
    |outgrown=>exact m
   case row row args=>exact⟨h.1,RowsIn.mono h.2 fun u s m=>⟨keep a k u,by rw[←Act.put_comm a v u p];exact m⟩⟩
   case round l f tmps assign body=>
    refine⟨h.1,RoundIn.mono h.2 fun e s m=>?_⟩
    cases e with
    |returned u=>exact⟨keep a k u,by rw[←Act.put_comm a v u p];exact m⟩
    |panicked c=>exact(o _ _ _ m).elim
    |outgrown=>exact m
  |halt x w'=>
   cases x<;>simp only[Oper.uponIn]at h⊢
   case panic u=>exact(o _ _ _ h).elim
 ·rename_i hw
  simp only[hw]at h;exact⟨fun _ _=>trivial,keep a k _,by rw[←Act.put_comm a v undef p];exact h.2⟩
theorem FI{ms:List DM}(hm:MsOk ops ms){i:Nat}{o:Oper}(a:ops[i]? =some o) (k:Nat):(FJ ms i).testBit k=g8 o k:=by
 have hi:i<ms.length:=by rw[hm.len];exact(bR.1 a).1
 unfold FJ;rw[ag hi];exact hm.am i o _ a (ag hi) k
theorem Gw{ms:List DM}(hm:MsOk ops ms){listed:Array Bool}{j:Nat}(d:j∈Region.ready .any ops listed)(k:Nat)(b:(FJ ms j).testBit k=true):listed.getD k false=true:=by
 obtain⟨_,o,f,a⟩:=mem_ready.1 d;rw[FI hm f]at b;unfold g8 at b;obtain⟨e,g,c⟩:=bV.1 b;simp only[bq]at c;have:=a e (by simpa using g) c.2;rw[aS c.1]at this;exact this
theorem G0{listed:Array Bool}{j k:Nat}(h:listed.getD k false=true):(listed.setIfInBounds j true).getD k false=true:=by
 by_cases e:j=k
 ·subst e
  rw[cO]at h⊢;rcases bD j listed.size with a|a
  ·simp[a]
  ·simp[jz a]at h
 ·rw[cO,dY e,←cO]
  exact h
theorem Shut.put{ms:List DM}(hm:MsOk ops ms){listed:Array Bool}(c:Shut ms listed){j:Nat}(d:j∈Region.ready .any ops listed):Shut ms (listed.setIfInBounds j true):=by
 intro i x hx a k b;by_cases e:j=i
 ·subst e
  refine G0 (Gw hm d k ?_);unfold FJ;rw[hx];exact b
 ·rw[cO,dY e,←cO]at a
  exact G0 (c i x hx a k b)
theorem Bb{ms:List DM}(hm:MsOk ops ms){S:ad→Prop}{i:Nat}{y:Oper}{v:Value}(hi:ops[i]? =some y) (g:∀(j:Nat) (o:Oper),ops[j]? =some o→(∀cs b,o.op≠ .select cs b)∧(∀c,o.op≠ .defer c))
  (hQ:∀e a w,(∀c,e=.panic c→False)∨¬Q e a w):
  ∀(fuel:Nat) (L:oT) (listed:Array Bool) (a:Act) (w:World),
   (∀j q,ops[j]? =some q→j≠i→listed.getD j true=false→g8 q i=false→
    (∀d,y.dst=some d→d∉q.looksAt ops)∧(∀d,y.dst=some d→q.dst≠some d)∧(∀d,q.dst=some d→d∉y.looksAt ops))→
   Shut ms listed→i∈Region.ready .any ops listed→YG P ops S y v a→S w.heap→(∀x∈L,x.2 w.heap)→
   MG ms ro n P ops Q fuel ((i,S)::L) (listed.setIfInBounds i true) (a.put y.dst v) w→MG ms ro n P ops Q (fuel+1) L listed a w:=by
 intro fuel;induction fuel with
 |zero=>
  intro L listed a w _ _ B T V W H;refine⟨fun h=>(by rw[h]at B;cases B),fun j F q f=>?_⟩
  by_cases m:j=i
  ·subst m
   rw[hi]at f;cases f;exact T.wpOp hi (g _ _ hi).2 V ⟨fun x hx=>W x (iL.1 hx).1,H⟩
  ·have:=ready_mono F m
   rw[H.1]at this;cases this
 |succ fuel ih=>
  intro L listed a w s I B T V W H;refine⟨fun h=>(by rw[h]at B;cases B),fun j F q f=>?_⟩
  by_cases m:j=i
  ·subst m
   rw[hi]at f;cases f;exact T.wpOp hi (g _ _ hi).2 V ⟨fun x hx=>W x (iL.1 hx).1,rB _ _ _ _ _ _ (fun x hx=>.inl (aM _ (iL.1 hx).1)) H⟩
  ·have p:=H.2 j (ready_mono F m) q f
   obtain⟨z,oj',A,N⟩:=mem_ready.1 F;rw[f]at A;cases A;have G:g8 q i=false:=by
    cases t:g8 q i with
    |false=>rfl
    |true=>
     unfold g8 at t;obtain⟨e,Z,t⟩:=bV.1 t;simp only[bq]at t;have p:=N e (by simpa using Z) t.2;rw[aS t.1]at p;have M:=(mem_ready.1 B).1;rcases bD i listed.size with C|C
     ·simp[C]at M p;rw[M]at p;cases p
     ·simp[jz C]at p
   have E:tb (xR ms (FJ ms j)) i=false:=by
    cases t:tb (xR ms (FJ ms j)) i with
    |false=>rfl
    |true=>
     rw[xm]at t;have p:=L6 I (Gw hm F) t;have M:=(mem_ready.1 B).1;rcases bD i listed.size with C|C
     ·simp[C]at M p;rw[M]at p;cases p
     ·simp[jz C]at p
   have K:rel ms j ((i,S)::L)=(i,S)::rel ms j L:=by simp only[rel,xq,E,cond_false]
   rw[K]at p;have h2:=HX f (s j q f m z G) (g _ _ hi).1 (g _ _ f).1 (g _ _ f).2 hQ T p;have u:∀k D,ops[k]? =some D→k≠i→(listed.setIfInBounds j true).getD k true=false→g8 D i=false→
     (∀d,y.dst=some d→d∉D.looksAt ops)∧(∀d,y.dst=some d→D.dst≠some d)∧(∀d,D.dst=some d→d∉y.looksAt ops):=fun k D Y X O U=>by
    refine s k D Y X ?_ U;by_cases J:j=k
    ·subst J;exact z
    ·rw[getD_set_ne true J]at O;exact O
   refine wpOpIn_mono (fun a' w' R=>⟨fun x hx=>R.2.1 x (aM _ hx),ih (rel ms j L) (listed.setIfInBounds j true) a' w' u (I.put hm F) (ready_mono B (Ne.symm m)) R.1 (R.2.1 _ (au ..)) (fun x hx=>R.2.1 x (aM _ hx)) ?_⟩) h2
   rw[Array.setIfInBounds_comm _ _ m];exact R.2.2
theorem pp{h:ad}{R:Prop}:∀{L:oT},pM L h R↔(∀x∈L,x.2 h)∧R
 | []=>by simp[pM]
 |(k,S)::L=>by
  simp only[pM,pp (L:=L),ar,forall_eq_or_imp,and_assoc]
theorem MF{ms:List DM}{f:Nat}{L:oT}{listed:Array Bool}{a:Act}{w:World}(b:Region.ready .any ops listed= [])(h:Q .normal a w):MG ms ro n P ops Q f L listed a w:=by
 cases f with
 |zero=>exact⟨b,h⟩
 |succ f=>exact⟨fun _=>h,by rw[b];simp⟩
def left(ops:Array Oper)(ls:Nat):Nat:=((List.range ops.size).filter fun j=> !ls.testBit j).length
theorem tV{ls i:Nat}(hi:i<ops.size)(g:ls.testBit i=false):left ops (cG ls (gc i))+1=left ops ls:=by
 have key:∀l:List Nat,l.Nodup→i∈l→(l.filter fun j=> !(cG ls (gc i)).testBit j).length+1=(l.filter fun j=> !ls.testBit j).length:=by
  intro l;induction l with
  |nil=>intro _ h;cases h
  |cons x l ih=>
   intro d hm;rw[List.nodup_cons]at d;by_cases hx:x=i
   ·subst hx
    have a:(l.filter fun j=> !(cG ls (gc x)).testBit j)=l.filter fun j=> !ls.testBit j:=by
     apply List.filter_congr;intro y f;have:x≠y:=fun e=>d.1 (e▸f)
     rw[mn,wL,decide_eq_false this,Bool.or_false]
    have b:(cG ls (gc x)).testBit x=true:=by rw[mn,wL];simp
    rw[cl,cl,b,g,a];rfl
   ·have c:i∈l:=by rcases ar.1 hm with h|h;exact absurd h.symm hx;exact h
    have b:(cG ls (gc i)).testBit x=ls.testBit x:=by rw[mn,wL,decide_eq_false (Ne.symm hx),Bool.or_false]
    have:=ih d.2 c;rw[cl,cl,b];cases ls.testBit x with
    |true=>exact this
    |false=>exact congrArg (· +1) this
 exact key _ List.nodup_range (List.mem_range.2 hi)
theorem LX{N:Nat}{a:List Oper}{ms:List DM}{ls:Nat}{L:oT}{d:r7}{K:cn→ad→Prop}{r:cn}{b:ad}:∀{l:DA},lI P N a ms l true ls L d K r b→∃i,i∈y8 l
 | .done,h=>h.elim
 | .take i rest,h=>by
  exfalso;have hc:lI P N a ms (.take i rest) true ls L d K r b=(match a[i]?,ms[i]? with|some _,some _=>False|_,_=>False):=rfl
  rw[hc]at h;split at h<;>exact h
 | .all _,h=>h.elim
 | .pick i _ _,_=>⟨i,au ..⟩
 | .last i _,_=>⟨i,au ..⟩
 | .lastT i _,_=>⟨i,au ..⟩
 | .split ..,h=>h.elim
def JS(ro:Option Nat)(n:Nat)(P:Program)(ops:Array Oper)(Q:Exit→Act→World→Prop)(N:Nat)(ms:List DM)(W:Nat→Prop)(c:Act)(w0:World)(K:cn→ad→Prop)(b:DA):Prop:=
 ∀(m:Bool) (ls:Nat) (L:oT) (d:r7) (r:cn) (a:Act) (w:World) (listed:Array Bool) (fuel:Nat),
  lI P N ops.toList ms b m ls L d K r w.heap→Agree N r a→DecOk d r→Fr W c w0 a w→LsRel ops ls listed→Shut ms listed→(∀x∈L,x.2 w.heap)→
  (m=false→left ops ls≤fuel→MG ms ro n P ops Q fuel L listed a w)∧
  (m=true→left ops ls≤fuel+1→∀i∈y8 b,i∈j9 ls ms 0→∀o,ops[i]? =some o→
   wpOpIn (FW ro) n P ops Q i (fun a' w'=>(∀x∈rel ms i L,x.2 w'.heap)∧MG ms ro n P ops Q fuel (rel ms i L) (listed.setIfInBounds i true) a' w') a w)
theorem Gq{N:Nat}{ms:List DM}(hm:MsOk ops ms){W:Nat→Prop}(hW:∀o∈ops.toList,∀d,o.dst=some d→W d){a0:Act}{w0:World}{K:cn→ad→Prop}
  (hQ:∀r a w,Agree N r a→Fr W a0 w0 a w→K r w.heap→Q .normal a w)(hnp:∀e a w,(∀c,e=.panic c→False)∨¬Q e a w)(da:DA):
  JS ro n P ops Q N ms W a0 w0 K da:=by
 have one:∀(i:Nat) (g:DA)
   (_:JS ro n P ops Q N ms W a0 w0 K g)
   (ls:Nat) (L:oT) (d:r7) (r:cn) (a:Act) (w:World) (listed:Array Bool) (fuel:Nat),
   Lp P N ops.toList i L d r w.heap (fun L' d' D h'=>lI P N ops.toList ms g false (cG ls (gc i)) L' d' K D h')→Agree N r a→DecOk d r→Fr W a0 w0 a w→LsRel ops ls listed→Shut ms listed→
   left ops ls≤fuel+1→i∈j9 ls ms 0→∀o,ops[i]? =some o→
    wpOpIn (FW ro) n P ops Q i (fun a' w'=>(∀x∈rel ms i L,x.2 w'.heap)∧MG ms ro n P ops Q fuel (rel ms i L) (listed.setIfInBounds i true) a' w') a w:=by
  intro i g U ls L d r a w listed fuel f B hd H y p A hr o s;have z:i<ops.size:=(bR.1 s).1;obtain⟨k,mm,hk,hki,J,_⟩:=(pJ ls ms 0 i).1 hr;unfold Lp at f;rw[bv,s]at f;simp only at f;cases hw:g7 ops.toList d o with
  |none=>rw[hw]at f;exact f.elim
  |some b=>
   rw[hw]at f;cases b with
   |false=>exact f.elim
   |true=>
    simp only at f;cases hq:th P o.op with
    |true=>
     rw[hq,cond_true]at f;unfold wpOpIn;rw[s];simp only[lG hw B hd,if_true];obtain⟨v,S,hK,hS,_,V⟩:=yX B f d hd;refine om (K:=fun u h'=>u=v∧h'=w.heap) (zT f) (.inl ⟨v,w,V w hS,Tame.refl w,rfl,rfl⟩) ?_
     rintro u w' ht ⟨rfl,hw'⟩;obtain⟨D,I,F,G⟩:=qA (dv:=.x) hK B hd trivial;obtain⟨hh,X⟩:=pp.1 I;have C:o∈ops.toList:=aF (by rw[bv];exact s);have M:=tV z J;have E:∀x∈rel ms i L,x∈mK o L:=fun x hx=>tS.2 ⟨(iL.1 hx).1,by
      cases hb:g8 o x.1 with
      |false=>rfl
      |true=>
        have:=(iL.1 hx).2
        rw[xm,Em (by rw[FI hm s];exact hb)]at this;cases this⟩
     rw[←hw']at hh X;exact⟨fun x hx=>hh x (E x hx),rB _ _ _ _ _ _ (fun x hx=>.inl (E x hx)) ((U false _ _ _ D _ w' _ fuel X F G (H.put (hW o C) u ht) (y.put z) (p.put hm ((kO hm y).2 hr)) hh).1 rfl (by omega))⟩
    |false=>
     rw[hq,cond_false]at f;unfold wpOpIn;rw[s];simp only[lG hw B hd,if_true];refine om (tK f) (yN B f) ?_;intro v w' ht hK;obtain⟨D,I,F,G⟩:=qA (dv:=.x) hK B hd trivial;obtain⟨hh,X⟩:=pp.1 I;have C:o∈ops.toList:=aF (by rw[bv];exact s);have M:=tV z J;have E:∀x∈rel ms i L,x∈mK o L:=fun x hx=>tS.2 ⟨(iL.1 hx).1,by
      cases hb:g8 o x.1 with
      |false=>rfl
      |true=>
        have:=(iL.1 hx).2
        rw[xm,Em (by rw[FI hm s];exact hb)]at this;cases this⟩
     exact⟨fun x hx=>hh x (E x hx),rB _ _ _ _ _ _ (fun x hx=>.inl (E x hx)) ((U false _ _ _ D _ w' _ fuel X F G (H.put (hW o C) v ht) (y.put z) (p.put hm ((kO hm y).2 hr)) hh).1 rfl (by omega))⟩
 have oneT:∀(i:Nat) (g:DA)
   (_:JS ro n P ops Q N ms W a0 w0 K g)
   (ls:Nat) (L:oT) (d:r7) (r:cn) (a:Act) (w:World) (listed:Array Bool) (fuel:Nat),
   Kq P N ops.toList ms i L d r w.heap (fun L' d' D h'=>lI P N ops.toList ms g false (cG ls (gc i)) L' d' K D h')→Agree N r a→DecOk d r→Fr W a0 w0 a w→LsRel ops ls listed→Shut ms listed→
   left ops ls≤fuel+1→i∈j9 ls ms 0→∀o,ops[i]? =some o→
    wpOpIn (FW ro) n P ops Q i (fun a' w'=>(∀x∈rel ms i L,x.2 w'.heap)∧MG ms ro n P ops Q fuel (rel ms i L) (listed.setIfInBounds i true) a' w') a w:=by
  intro i g U ls L d r a w listed fuel f B hd H y p A hr o s;have z:i<ops.size:=(bR.1 s).1;obtain⟨k,mm,hk,hki,J,_⟩:=(pJ ls ms 0 i).1 hr;unfold Kq at f;rw[bv,s]at f;simp only at f;cases hw:g7 ops.toList d o with
  |none=>rw[hw]at f;exact f.elim
  |some b=>
   rw[hw]at f;cases b with
   |false=>exact f.elim
   |true=>
    simp only at f;cases hq:th P o.op with
    |true=>rw[hq]at f;exact f.elim
    |false=>
     rw[hq,cond_false]at f;unfold wpOpIn;rw[s];simp only[lG hw B hd,if_true];refine om (tK f) (yN B f) ?_;intro v w' ht hK;obtain⟨D,I,F,G⟩:=qA (dv:=.x) hK B hd trivial;obtain⟨hh,X⟩:=pp.1 I;have C:o∈ops.toList:=aF (by rw[bv];exact s);have M:=tV z J;exact⟨hh,(U false _ _ _ D _ w' _ fuel X F G (H.put (hW o C) v ht) (y.put z) (p.put hm ((kO hm y).2 hr)) hh).1 rfl (by omega)⟩
 induction da with
 |done=>
  intro m ls L d r a w listed fuel f B hd H y p R;cases m with
  |true=>exact f.elim
  |false=>
   refine⟨fun _ _=>?_,fun h=>by cases h⟩
   have hc:lI P N ops.toList ms .done false ls L d K r w.heap=bif sA (j9 ls ms 0) []then K r w.heap else False:=rfl;rw[hc]at f;cases hb:sA (j9 ls ms 0) []with
   |false=>rw[hb]at f;exact f.elim
   |true=>
    rw[hb]at f;have hnil:Region.ready .any ops listed= []:=by
     apply List.eq_nil_iff_forall_not_mem.2;intro j O;rw[kO hm y,uP hb]at O;cases O
    exact MF hnil (hQ r a w B H f)
 |take i g U=>
  intro m ls L d r a w listed fuel f B hd H y p R;cases m with
  |true=>
   exfalso;have hc:lI P N ops.toList ms (.take i g) true ls L d K r w.heap=(match ops.toList[i]?,ms[i]? with|some _,some _=>False|_,_=>False):=rfl
   rw[hc]at f;split at f<;>exact f
  |false=>
   refine⟨fun _ A=>?_,fun h=>by cases h⟩
   have hc:lI P N ops.toList ms (.take i g) false ls L d K r w.heap=(match ops.toList[i]?,ms[i]? with
    |some o,some mi=>bif Bp mi i ls ops.toList.length then
      (match g7 ops.toList d o with
       |none=>False
       |some false=>wI N o undef r fun D=>lI P N ops.toList ms g false (cG ls (gc i)) L (px d o .u) K D w.heap
       |some true=>bif th P o.op then
          yK P none o.op r (fun v S=>wI N o v r fun D=>match S with
            |none=>lI P N ops.toList ms g false (cG ls (gc i)) L (px d o (Gb d o.op)) K D w.heap
            |some S=>lI P N ops.toList ms g false (cG ls (gc i)) ((i,S)::L) (px d o (Gb d o.op)) K D w.heap) w.heap
          else False)
     else False
    |_,_=>False):=rfl
   rw[hc]at f;split at f
   ·rename_i o mi s hmi
    rw[bv]at s;cases htk:Bp mi i ls ops.toList.length with
    |false=>rw[htk]at f;exact f.elim
    |true=>
     rw[htk,cond_true]at f;unfold Bp at htk;simp only[bq,Bool.not_eq_true',xm]at htk;obtain⟨⟨hun,hrd⟩,hfr⟩:=htk;have z:i<ops.size:=(bR.1 s).1;have q:i∈Region.ready .any ops listed:=(DP hm y).2 ⟨mi,hmi,hun,hrd⟩;have M:=tV (ops:=ops) z hun;obtain⟨Z,rfl⟩:∃Z,fuel=Z+1:=⟨fuel-1,by omega⟩
     have C:o∈ops.toList:=aF (by rw[bv];exact s);have hcov:∀j,j<ops.size→ls.testBit j=true∨mi.fr.testBit j=true:=by
      intro j O;have h0:=aS hfr;have hpb:(uH (gc ops.toList.length)).testBit j=true:=by
        have:uH (gc ops.toList.length)=2^ops.toList.length-1:=rfl;rw[this,Nat.testBit_two_pow_sub_one];simpa using O
      have hand:(iw (cG ls mi.fr) (uH (gc ops.toList.length))).testBit j=((cG ls mi.fr).testBit j&&(uH (gc ops.toList.length)).testBit j):=gy _ _ j;rw[h0,hpb,Bool.and_true,mn]at hand;exact(Bool.or_eq_true_iff).1 hand.symm
     have T:∀j oj,ops[j]? =some oj→j≠i→listed.getD j true=false→g8 oj i=false→
        (∀d,o.dst=some d→d∉oj.looksAt ops)∧(∀d,o.dst=some d→oj.dst≠some d)∧(∀d,oj.dst=some d→d∉o.looksAt ops):=by
      intro j oj hoj hne hju hna;have O:j<ops.size:=(bR.1 hoj).1;rw[y.unlisted O]at hju;have hjm:j<ms.length:=by rw[hm.len];exact O
      have hmj:=ag hjm;rcases hcov j O with h|h
      · rw[h]at hju;cases hju
      · rcases hm.free i j mi _ hmi hmj h with h|h|h
        ·exact absurd h hne
        ·rw[hm.am j oj _ hoj hmj,hna]at h;cases h
        ·exact On hm s hoj hmi hmj h
     cases hw:g7 ops.toList d o with
     |none=>rw[hw]at f;exact f.elim
     |some b=>
      rw[hw]at f;have hwd:=lG hw B hd;cases b with
      |false=>
        obtain⟨D,I,F,G⟩:=qA (dv:=.u) f B hd rfl;have hy:YG P ops (fun _=>True) o undef a:=.inr ⟨hwd,rfl⟩
        refine Bb hm s hm.nosel hnp Z L listed a w T p q hy trivial R ?_;refine rB _ L _ _ _ _ (fun x hx=>(ar.1 hx).elim (fun e=>.inr fun h=>by rw[e];trivial) .inl) ?_
        exact(U false _ _ _ D _ w _ Z I F G (H.put (hW o C) undef (Tame.refl w)) (y.put z) (p.put hm q) R).1 rfl (by omega)
      |true=>
        simp only at f;cases hq:th P o.op with
        |false=>rw[hq]at f;exact f.elim
        |true=>
         rw[hq,cond_true]at f;obtain⟨v,S,hK,hS,hdv,V⟩:=yX B f d hd;obtain⟨D,I,F,G⟩:=qA hK B hd hdv;have hfr':=H.put (hW o C) v (Tame.refl w);cases S with
         |none=>
           have hy:YG P ops (fun _=>True) o v a:=.inl ⟨hwd,fun w _=>V w trivial⟩
           refine Bb hm s hm.nosel hnp Z L listed a w T p q hy trivial R ?_;refine rB _ L _ _ _ _ (fun x hx=>(ar.1 hx).elim (fun e=>.inr fun h=>by rw[e];trivial) .inl) ?_
           exact(U false _ _ _ D _ w _ Z I F G hfr' (y.put z) (p.put hm q) R).1 rfl (by omega)
         |some S=>
           have hy:YG P ops S o v a:=.inl ⟨hwd,fun w h=>V w h⟩
           refine Bb hm s hm.nosel hnp Z L listed a w T p q hy hS R ?_;exact(U false _ _ _ D _ w _ Z I F G hfr' (y.put z) (p.put hm q) (fun x hx=>(ar.1 hx).elim (fun e=>by rw[e];exact hS) (R x))).1 rfl (by omega)
   ·exact f.elim
 |all l U=>
  intro m ls L d r a w listed fuel f B hd H y p R;cases m with
  |true=>exact f.elim
  |false=>
   refine⟨fun _ A=>?_,fun h=>by cases h⟩
   have hc:lI P N ops.toList ms (.all l) false ls L d K r w.heap=bif sA (j9 ls ms 0) (y8 l)then lI P N ops.toList ms l true ls L d K r w.heap else False:=rfl;rw[hc]at f;cases hb:sA (j9 ls ms 0) (y8 l)with
   |false=>rw[hb]at f;exact f.elim
   |true=>
    rw[hb,cond_true]at f;obtain⟨i,hi⟩:=LX f;rw[←uP hb]at hi;have hrd:=(kO hm y (j:=i)).2 hi;obtain⟨k,mm,hk,hki,J,_⟩:=(pJ ls ms 0 i).1 hi;have z:i<ops.size:=by
     have:=(bM.1 hk).1;rw[hm.len]at this;omega
    have M:=tV (ops:=ops) z J;obtain⟨Z,rfl⟩:∃Z,fuel=Z+1:=⟨fuel-1,by omega⟩
    refine⟨fun h=>(by rw[h]at hrd;cases hrd),fun j O o s=>?_⟩
    have hj':=(kO hm y).1 O;exact(U true ls L d r a w listed Z f B hd H y p R).2 rfl A j (by rw[←uP hb];exact hj') hj' o s
 |pick i g more ih1 ih2=>
  intro m ls L d r a w listed fuel f B hd H y p R;cases m with
  |false=>exact f.elim
  |true=>
   refine⟨fun h=>(by cases h),fun _ A j O Y o s=>?_⟩
   have f:Lp P N ops.toList i L d r w.heap (fun L' d' D h'=>lI P N ops.toList ms g false (cG ls (gc i)) L' d' K D h')∧lI P N ops.toList ms more true ls L d K r w.heap:=f
   rcases ar.1 O with rfl|O
   ·exact one _ g ih1 ls L d r a w listed fuel f.1 B hd H y p A Y o s
   ·exact(ih2 true ls L d r a w listed fuel f.2 B hd H y p R).2 rfl A j O Y o s
 |last i g U=>
  intro m ls L d r a w listed fuel f B hd H y p R;cases m with
  |false=>exact f.elim
  |true=>
   refine⟨fun h=>(by cases h),fun _ A j O Y o s=>?_⟩
   have f:Lp P N ops.toList i L d r w.heap (fun L' d' D h'=>lI P N ops.toList ms g false (cG ls (gc i)) L' d' K D h'):=f
   have hji:j=i:=aq.1 O;subst hji;exact one _ g U ls L d r a w listed fuel f B hd H y p A Y o s
 |lastT i g U=>
  intro m ls L d r a w listed fuel f B hd H y p R;cases m with
  |false=>exact f.elim
  |true=>
   refine⟨fun h=>(by cases h),fun _ A j O Y o s=>?_⟩
   have f:Kq P N ops.toList ms i L d r w.heap (fun L' d' D h'=>lI P N ops.toList ms g false (cG ls (gc i)) L' d' K D h'):=f
   have hji:j=i:=aq.1 O;subst hji;exact oneT _ g U ls L d r a w listed fuel f B hd H y p A Y o s
 |split t yes no ih1 ih2=>
  intro m ls L d r a w listed fuel f B hd H y p R;cases m with
  |true=>exact f.elim
  |false=>
   refine⟨fun _ A=>?_,fun h=>by cases h⟩
   have hc:lI P N ops.toList ms (.split t yes no) false ls L d K r w.heap=(match jd r t with
    |some (.bool b)=>CondP b (lI P N ops.toList ms yes false ls L ((t,.t)::d) K ((t,.bool true)::r) w.heap) (lI P N ops.toList ms no false ls L ((t,.f)::d) K ((t,.bool false)::r) w.heap)
    |_=>False):=rfl
   rw[hc]at f;split at f
   ·rename_i b hlk
    cases b with
    |true=>exact(ih1 false ls L _ _ a w listed fuel (f.yes rfl) (B.known hlk) (hd.known rfl) H y p R).1 rfl A
    |false=>exact(ih2 false ls L _ _ a w listed fuel (f.no rfl) (B.known hlk) (hd.known rfl) H y p R).1 rfl A
   ·exact f.elim
end Go.Lift
namespace Go.Lift
open Go
variable {P:Program} {ro:Option Nat} {n:Nat}
theorem D5{r:cn}:∀{l:List Nat} {r0:cn},KG r l=some r0→∀t v,jd r0 t=some v→t∈l∧jd r t=some v
 | [],r0,h,t,v,hv=>by cases h;cases hv
 |s::l,r0,h,t,v,hv=>by
  have h:(match jd r s,KG r l with|some v,some l=>some ((s,v)::l)|_,_=>none)=some r0:=h
  split at h
  ·rename_i u l' hu hl
   cases h;by_cases e:s=t
   ·subst e;rw[gK]at hv;cases hv;exact⟨au ..,hu⟩
   ·rw[ge u _ e]at hv
    have:=D5 hl t v hv;exact⟨aM _ this.1,this.2⟩
  ·cases h
theorem y4{m:Nat}{t:Nat}{v:Value}:∀{r:cn},jd (tY m r) t=some v→m.testBit t=false∧jd r t=some v
 | [],h=>by cases h
 |(k,u)::r,h=>by
  have h:jd (bif tb m k then tY m r else(k,u)::tY m r) t=some v:=h;cases hk:tb m k with
  |true=>
   rw[hk]at h;have:=y4 h;by_cases e:k=t
   ·subst e;rw[xm,this.1]at hk;cases hk
   ·rw[ge u _ e];exact this
  |false=>
   rw[hk]at h;have h:jd ((k,u)::tY m r) t=some v:=h;by_cases e:k=t
   ·subst e;rw[gK]at h⊢;rw[xm]at hk;exact⟨hk,h⟩
   ·rw[ge u _ e]at h⊢;exact y4 h
theorem yM{t:Nat}:∀{l:List Oper},(MK l).testBit t=false→¬j4 t l=true
 | [],_,h=>by cases h
 |o::l,hm,h=>by
  have hm:(cG (l0 o) (MK l)).testBit t=false:=hm;rw[mn,kH]at hm;have h:(match o.dst with|some d=>bif bw d t then true else j4 t l|none=>j4 t l)=true:=h
  cases hd:o.dst with
  |none=>rw[hd]at h;exact yM hm.2 h
  |some d=>
   rw[hd]at h;cases e:bw d t with
   |true=>have:=(ut o t).2 (by rw[hd,aS e]);rw[hm.1]at this;cases this
   |false=>simp only[e]at h;exact yM hm.2 h
theorem GQ{a b:Option Nat}{m:Nat}(h:RP a b=some m):∃x y,a=some x∧b=some y∧m=cG x y:=by
 cases a<;>cases b<;>cases h
 exact⟨_,_,rfl,rfl,rfl⟩
theorem MJ{t:Nat}(c:Code):∀{m:Nat},vx c=some m→m.testBit t=false→¬fQ t c=true:=by
 induction c with
 |skip=>intro m _ _ h;cases h
 |region id ops dr=>intro m h hm d;cases h;exact yM hm d
 |seq a b iha ihb=>
  intro m h hm d;obtain⟨x,y,hx,e,rfl⟩:=GQ (show RP (vx a) (vx b)=some m from h)
  rw[mn,kH]at hm;have d:(bif fQ t a then true else fQ t b)=true:=d;cases ha:fQ t a with
  |true=>exact iha hx hm.1 ha
  |false=>rw[ha]at d;exact ihb e hm.2 d
 |cond c a b iha ihb=>
  intro m h hm d;obtain⟨x,y,hx,e,rfl⟩:=GQ (show RP (vx a) (vx b)=some m from h)
  rw[mn,kH]at hm;have d:(bif fQ t a then true else fQ t b)=true:=d;cases ha:fQ t a with
  |true=>exact iha hx hm.1 ha
  |false=>rw[ha]at d;exact ihb e hm.2 d
 |block id b ih=>exact fun h hm=>ih h hm
 |loop b ih=>exact fun h hm=>ih h hm
 |rangeFunc _ _ _ _ _ _=>intro m h;cases h
 |scope b ih=>exact fun h hm=>ih h hm
 |_=>intro m _ _ h;cases h
theorem Agree.keep{N:Nat}{r f:cn}{a a':Act}{w w':World}{m:Nat}{c:Code}(h:Agree N r a)(hm:vx c=some m)(b:Fr (fun t=>fQ t c=true) a w a' w')(e:Agree N f a'):Agree N (tY m r) a':=
 ⟨e.size,fun t v hv=>by
  obtain⟨d,g⟩:=y4 hv
  rw[b.same t (MJ c hm d)];exact h.look t v g⟩
theorem tM{a:St}{r:cn}{f:sU (wd a)→Prop}(h:zQ a r f):∃t,Bt r a=some (lQ (wd a) t)∧f t:=by
 unfold zQ at h;split at h
 ·rename_i vs hv
  obtain⟨t,rfl,b⟩:=pS h;exact⟨t,hv,b⟩
 ·exact h.elim
theorem Agree.zip{N:Nat}{r:cn}{a:Act}(h:Agree N r a):∀{st:St} {vs:List Value} {r0:cn},Bt r st=some vs→Agree N r0 a→Agree N (lX st vs r0) a
 | [],vs,r0,_,h0=>by cases vs<;>exact h0
 |(i,k)::st,vs,r0,hv,h0=>by
  unfold Bt at hv;split at hv
  ·rename_i v vs' h1 h2
   cases hv;have:=Agree.zip h h2 h0;refine⟨this.size,fun t u b=>?_⟩
   by_cases e:i=t
   ·subst e
    rw[show lX ((i,k)::st) (v::vs') r0=(i,v)::lX st vs' r0 from rfl,gK]at b;cases b
    exact h.look i v h1
   ·rw[show lX ((i,k)::st) (v::vs') r0=(i,v)::lX st vs' r0 from rfl,ge v _ e]at b
    exact this.look t u b
  ·cases hv
theorem xe{t:Nat}:∀{l:List Oper} {o:Oper},o∈l→o.dst=some t→j4 t l=true
 | [],_,h,_=>by cases h
 |x::l,o,h,hd=>by
  have e:j4 t (x::l)=(match x.dst with|some d=>bif bw d t then true else j4 t l|none=>j4 t l):=rfl
  rw[e];rcases ar.1 h with rfl|h
  ·rw[hd];simp only;rw[show bw t t=true from pC t];rfl
  ·have:=xe h hd
   cases x.dst with
   |none=>exact this
   |some d=>
    simp only;cases bw d t with
    |true=>rfl
    |false=>exact this
def LWP(ro:Option Nat)(n:Nat)(P:Program)(c:Code)(Q:Exit→Act→World→Prop)(a:Act)(w:World):Prop:=
 ∀(b:Frame) (k:List Item) (cs:List Frame),b.roundOf=(FW ro).round→(FW ro).fn b.fn→(FW ro).room (cs.length+1+n)→
  ∃e a' w',Q e a' w'∧ArrivesIn (Machine.fenced P (FW ro)) P (lone (b.atR a (.code c:: .inLoop c::k)) cs w) b k cs e a' w'
theorem LWP.step{c:Code}{Q:Exit→Act→World→Prop}{a:Act}{w:World}(h:c.wpIn (FW ro) n P (Exit.then (LWP ro n P c Q) Q) a w):LWP ro n P c Q a w:=by
 intro b k cs m o q;obtain⟨e,j,i,g,d⟩:=h b (.inLoop c::k) cs m o q;cases e with
 |normal=>
  obtain⟨u,t,s,p,f⟩:=g b k cs m o q;exact⟨u,t,s,p,.of_steps (StepsIn.trans d (.one (fenced_calm o q rfl) stepR_inLoop)) f⟩
 |exit id=>exact⟨_,j,i,g,.pass (x:=.inLoop c) rfl (fun _ _=>.inl (by simp)) d⟩
 |goto l=>exact⟨_,j,i,g,.pass (x:=.inLoop c) rfl (fun _ _=>.inl (by simp)) d⟩
 |ret=>exact⟨_,j,i,g,.pass (x:=.inLoop c) rfl (fun _ _=>.inl (by simp)) d⟩
 |panic ch=>exact⟨_,j,i,g,.pass (x:=.inLoop c) rfl (fun _ _=>.inl (by simp)) d⟩
 |outgrown=>exact⟨_,j,i,g,.pass (x:=.inLoop c) rfl (fun _ _=>.inl (by simp)) d⟩
theorem LWP.loop{c:Code}{Q:Exit→Act→World→Prop}{a:Act}{w:World}(h:LWP ro n P c Q a w):(Code.loop c).wpIn (FW ro) n P Q a w:=by
 intro b k cs f g i;obtain⟨e,a',w',j,d⟩:=h b k cs f g i;exact⟨e,a',w',j,.of_steps (.one (fenced_calm g i rfl) stepR_loop) d⟩
theorem Ej(r:cn):DecOk [] r:=fun _=>.inl rfl
theorem Pw(ops:Array Oper)(ls:Nat):left ops ls≤ops.size:=by
 unfold left;exact Nat.le_trans (List.length_filter_le ..) (by simp)
theorem j6(f:P.follows .mixedOrders=true){N id:Nat}{ops:Array Oper}{g:Bool}{v:Ann}{K:cn→ad→Prop}{r:cn}{a:Act}{w:World}{Q:Exit→Act→World→Prop}
  (b:yS P N ops.toList g v K r w.heap)(i:Agree N r a)(s:∀c a w,¬Q (.panic c) a w)
  (m:∀r' a' w',Agree N r' a'→Fr (fun t=>j4 t ops.toList=true) a w a' w'→K r' w'.heap→Q .normal a' w'):(Code.region id ops g).wpIn (FW ro) n P Q a w:=by
 have k:∀o∈ops.toList,∀d,o.dst=some d→j4 d ops.toList=true:=fun o p d hd=>xe p hd
 cases g with
 |false=>
  have key:∀ek,Bz P N ek ops.toList ops.toList [] K r w.heap→(Code.region id ops false).wpIn (FW ro) n P Q a w:=fun ek b=>by
   refine wpIn_region ?_;rw[List.range_eq_range',show ops.size=ops.toList.length from rfl]
   exact Bx k m ops.toList 0 rfl [] r a w b i (Ej r) (Fr.refl _ a w)
  unfold yS at b;simp only at b;split at b
  ·exact key _ b
  ·exact key _ b
 |true=>
  unfold yS at b;simp only at b;generalize KA ops.toList=ms at b;cases hm:AY ops.toList ms with
  |false=>rw[hm]at b;exact b.elim
  |true=>
   rw[hm,cond_true]at b;refine wpIn_region_any f (Kd (ms:=ms) _ [] _ _ _ ?_);have u:Tame w {w with drawn:=w.drawn+1}:=⟨rfl,rfl,rfl⟩;have q:Fr (fun t=>j4 t ops.toList=true) a w a {w with drawn:=w.drawn+1}:=⟨u,rfl,fun _ _=>rfl⟩
   refine(Gq (IG hm) k m (fun e a w=>?_) _ false 0 [] [] r a {w with drawn:=w.drawn+1} _ ops.size b i (Ej r) q LsRel.start (fun j x _ h=>by rw[(LsRel.start (ops:=ops)).bit,fo]at h;cases h) (fun x hx=>by cases hx)).1 rfl (Pw ops 0)
   cases e with
   |panic ch=>exact .inr (s _ a w)
   |_=>exact .inl fun c hc=>by cases hc
theorem A9(t:Nat)(x y:Code):fQ t (.seq x y)=(bif fQ t x then true else fQ t y):=rfl
theorem zM(t:Nat)(c:Operand)(x y:Code):fQ t (.cond c x y)=(bif fQ t x then true else fQ t y):=rfl
theorem FG{a b:Bool}:(bif a then true else b)=true↔a=true∨b=true:=by cases a<;>cases b<;>decide
theorem ql(u:P.follows .mixedOrders=true){N:Nat}(c:Code):∀(D:Ann) (Kn:cn→ad→Prop) (Kx:Ex→cn→ad→Prop) (r:cn) (a:Act) (w:World) (Q:Exit→Act→World→Prop),
  jT P N c D Kn Kx r w.heap→Agree N r a→(∀R a w,¬Q (.panic R) a w)→
  (∀g a' w',Agree N g a'→Fr (fun t=>fQ t c=true) a w a' w'→Kn g w'.heap→Q .normal a' w')→
  (∀i g a' w',Agree N g a'→Fr (fun t=>fQ t c=true) a w a' w'→Kx (.exit i) g w'.heap→Q (.exit i) a' w')→
  (∀g a' w',Agree N g a'→Fr (fun t=>fQ t c=true) a w a' w'→Kx .ret g w'.heap→Q .ret a' w')→
  c.wpIn (FW ro) n P Q a w:=by
 induction c with
 |skip=>
  intro D Kn Kx r a w Q j s _ z _ _;exact wpIn_skip (z r a w s (Fr.refl ..) j)
 |region id ops dr=>
  intro D Kn Kx r a w Q j s B z _ _;cases D with
  |reg keep inner=>
   have j:yS P N ops.toList dr inner (fun g K=>match KG g keep with|some r0=>Kn r0 K|none=>False) r w.heap:=j
   refine j6 u j s B fun g a' w' M V hk=>?_
   split at hk
   ·rename_i r0 hr0
    refine z r0 a' w' ⟨M.size,fun t v hv=>M.look t v (D5 hr0 t v hv).2⟩ V hk
   ·exact hk.elim
  |nil=>exact j6 u (show yS P N ops.toList dr (.nil) Kn r w.heap from j) s B z
  |node x y=>exact j6 u (show yS P N ops.toList dr (.node x y) Kn r w.heap from j) s B z
  |join st x y=>exact j6 u (show yS P N ops.toList dr (.join st x y) Kn r w.heap from j) s B z
  |loop st y=>exact j6 u (show yS P N ops.toList dr (.loop st y) Kn r w.heap from j) s B z
  |draw d=>exact j6 u (show yS P N ops.toList dr (.draw d) Kn r w.heap from j) s B z
  |kinds k v=>exact j6 u (show yS P N ops.toList dr (.kinds k v) Kn r w.heap from j) s B z
  |rf ks x y=>exact j6 u (show yS P N ops.toList dr (.rf ks x y) Kn r w.heap from j) s B z
 |seq x y ihx ihy=>
  intro D Kn Kx r a w Q j s B z hx F;have E:∀{a' w'},Fr (fun t=>fQ t x=true) a w a' w'→Fr (fun t=>fQ t (.seq x y)=true) a w a' w':=fun h=>h.mono fun t O=>by rw[A9,FG];exact .inl O
  have C:∀{a' w' H I},Fr (fun t=>fQ t x=true) a w a' w'→Fr (fun t=>fQ t y=true) a' w' H I→Fr (fun t=>fQ t (.seq x y)=true) a w H I:=
   fun h k=>(E h).trans (k.mono fun t O=>by rw[A9,FG];exact .inr O)
  have plain:∀W S,jT P N x W (fun g K=>jT P N y S Kn Kx g K) Kx r w.heap→(Code.seq x y).wpIn (FW ro) n P Q a w:=fun W S j=>by
   refine wpIn_seq (ihx W _ Kx r a w _ j s (fun R a w=>B R a w) ?_ (fun i g a' w' p q o=>hx i g a' w' p (E q) o) (fun g a' w' p q o=>F g a' w' p (E q) o))
   intro r1 U X G A L;exact ihy S Kn Kx r1 U X Q L G B (fun g a' w' p q o=>z g a' w' p (C A q) o) (fun i g a' w' p q o=>hx i g a' w' p (C A q) o) (fun g a' w' p q o=>F g a' w' p (C A q) o)
  cases D with
  |join st W S=>
   have j:(match vx x with
      |none=>False
      |some m=>Join (T:=sU (wd st)) (fun t K=>jT P N y S Kn Kx (lX st (lQ (wd st) t) (tY m r)) K)
       fun J=>jT P N x W (fun g K=>zQ st g fun t=>J t K) Kx r w.heap):=j
   split at j
   ·exact j.elim
   ·rename_i m hm
    refine wpIn_seq (ihx W _ Kx r a w _ j.run s (fun R a w=>B R a w) ?_ (fun i g a' w' p q o=>hx i g a' w' p (E q) o) (fun g a' w' p q o=>F g a' w' p (E q) o))
    intro r1 U X G A L;obtain⟨t,hst,hs2⟩:=tM L;have ha2:Agree N (lX st (lQ (wd st) t) (tY m r)) U:=G.zip hst (s.keep hm A G);exact ihy S Kn Kx _ U X Q hs2 ha2 B (fun g a' w' p q o=>z g a' w' p (C A q) o) (fun i g a' w' p q o=>hx i g a' w' p (C A q) o) (fun g a' w' p q o=>F g a' w' p (C A q) o)
  |_=>exact plain _ _ j
 |cond c x y ihx ihy=>
  intro D Kn Kx r a w Q j s B z hx F;have j:(match c7 r c with
   |some (.bool t)=>CondP t (jT P N x D.l Kn Kx r w.heap) (jT P N y D.r Kn Kx r w.heap)
   |_=>False):=j
  have E:∀{a' w'},Fr (fun t=>fQ t x=true) a w a' w'→Fr (fun t=>fQ t (.cond c x y)=true) a w a' w':=fun h=>h.mono fun t O=>by rw[zM,FG];exact .inl O
  have C:∀{a' w'},Fr (fun t=>fQ t y=true) a w a' w'→Fr (fun t=>fQ t (.cond c x y)=true) a w a' w':=fun h=>h.mono fun t O=>by rw[zM,FG];exact .inr O
  split at j
  ·rename_i t O
   refine wpIn_cond_split (j8 s O) (fun e=>?_) (fun e=>?_)
   ·exact ihx _ Kn Kx r a w Q (j.yes e) s B (fun g a' w' p q o=>z g a' w' p (E q) o) (fun i g a' w' p q o=>hx i g a' w' p (E q) o) (fun g a' w' p q o=>F g a' w' p (E q) o)
   ·exact ihy _ Kn Kx r a w Q (j.no e) s B (fun g a' w' p q o=>z g a' w' p (C q) o) (fun i g a' w' p q o=>hx i g a' w' p (C q) o) (fun g a' w' p q o=>F g a' w' p (C q) o)
  ·exact j.elim
 |block id b ih=>
  intro D Kn Kx r a w Q j s B z hx F;refine wpIn_block (ih D Kn _ r a w _ j s (fun R a w=>B R a w) z (fun i g a' w' p q o=>?_) F)
  simp only[Exit.inBlock]at o⊢;cases hi:bw i id with
  |true=>
   rw[hi,cond_true]at o;rw[if_pos (aS hi)];exact z g a' w' p q o
  |false=>
   rw[hi,cond_false]at o;rw[if_neg (fun e=>by rw[e,pC]at hi;cases hi)]
   exact hx i g a' w' p q o
 |loop b ih=>
  intro D Kn Kx r a w Q j s B z hx F;cases D with
  |loop st S=>
   have j:(match vx b with
      |none=>False
      |some m=>zQ st r fun t0=>LoopP (T:=sU (wd st)) (fun self t K=>jT P N b S (fun g h''=>zQ st g fun t'=>self t' h'') Kx (lX st (lQ (wd st) t) (tY m r)) K) t0 w.heap):=j
   split at j
   ·exact j.elim
   ·rename_i m hm
    obtain⟨t0,Y,hl⟩:=tM j;have h0:=hl.run (fun t K=>∀a' w',w'.heap=K→Agree N (lX st (lQ (wd st) t) (tY m r)) a'→Fr (fun t=>fQ t b=true) a w a' w'→LWP ro n P b Q a' w') (fun t K hF a' w' hw M V=>by
     subst hw
     refine LWP.step (ih S _ Kx _ a' w' _ hF M (fun R a w=>B R a w) ?_ (fun i g H I p q o=>hx i g H I p (V.trans q) o) (fun g H I p q o=>F g H I p (V.trans q) o))
     intro r1 U X G A L
     obtain⟨t1,Z,hk1⟩:=tM L
     exact hk1 U X rfl (G.zip Z (s.keep hm (V.trans A) G)) (V.trans A))
    exact LWP.loop (h0 a w rfl (s.zip Y (s.keep hm (Fr.refl _ a w) s)) (Fr.refl _ a w))
  |_=>exact j.elim
 |rangeFunc f params assign body _ _=>intro D Kn Kx r a w Q j;exact j.elim
 |exit id=>
  intro D Kn Kx r a w Q j s B z hx F;exact wpIn_exit (hx id r a w s (Fr.refl ..) j)
 |scope b _=>intro D Kn Kx r a w Q j;exact j.elim
 |label l=>
  intro D Kn Kx r a w Q j s B z hx F;exact wpIn_label (z r a w s (Fr.refl ..) j)
 |goto l=>intro D Kn Kx r a w Q j;exact j.elim
 |ret=>
  intro D Kn Kx r a w Q j s B z hx F;exact wpIn_ret (F r a w s (Fr.refl ..) j)
 |refuse why=>intro D Kn Kx r a w Q j;exact j.elim
end Go.Lift
namespace Go.Lift
open Go
variable {P:Program}
theorem nY{N:Nat}{r:cn}{a:Act}{w:World}(d:Agree N r a):∀{l:List ResultVar} {K:List Value→Prop},lY P r w.heap l K→
  ∃vs,(∀g:ResultVar→Sem Value,(∀t,g (.tmp t)=pure (a.tmps.getD t undef))→(∀x t,g (.cell x t)=do loadVar t (←asAddr (a.tmps.getD x undef)))→(l.mapM g).run P w=.ok vs w)∧K vs
 | [],K,h=>⟨[],fun g _ _=>by rw[List.mapM_nil];rfl,h⟩
 | .tmp t::l,K,h=>by
  unfold lY at h;split at h
  ·rename_i v hv
   obtain⟨vs,i,f⟩:=nY d h;refine⟨v::vs,fun g c e=>?_,f⟩
   rw[List.mapM_cons,c];simp only[Sem.run_bind,Sem.run_pure,Result.andThen_ok];rw[i g c e];simp only[Result.andThen_ok,d.look t v hv]
  ·exact h.elim
 | .cell x t::l,K,h=>by
  unfold lY at h;split at h
  ·rename_i v hv
   obtain⟨u,S,m,n,k⟩:=zU h;obtain⟨vs,i,f⟩:=nY d m;refine⟨u::vs,fun g c e=>?_,f⟩
   rw[List.mapM_cons,e];have j:(do loadVar t (←asAddr (a.tmps.getD x undef)):Sem Value).run P w=.ok u w:=by
    rw[d.look x v hv];unfold Gy at h;cases v with
    |pointer p=>cases p with
     |none=>exact h.elim
     |some b=>exact k w n
    |_=>exact h.elim
   simp only[Sem.run_bind]at j⊢;rw[j];simp only[Result.andThen_ok];rw[i g c e];simp only[Sem.run_pure,Result.andThen_ok]
  ·exact h.elim
theorem DN(ks:List Kind)(t:sU ks):(if h:(lQ ks t).toArray.size=1 then(lQ ks t).toArray[0]else Value.tuple (lQ ks t).toArray)=BI ks (lQ ks t):=by
 match ks,t with
 | [],t=>rfl
 | [k],t=>rfl
 |k::l::ks,(x,t)=>
  have:(lQ (k::l::ks) (x,t)).length=(k::l::ks).length:=qz _ _;rw[dif_neg (by simp only[cH,this,aL];omega)];rfl
theorem sQ:∀(vs:List Value) (i t:Nat) (v:Value),jd (oe i vs) t=some v→i≤t∧vs[t-i]? =some v
 | [],i,t,v,h=>by cases h
 |u::vs,i,t,v,h=>by
  by_cases e:i=t
  ·subst e
   rw[show oe i (u::vs)=(i,u)::oe (i+1) vs from rfl,gK]at h
   cases h;exact⟨Nat.le_refl _,by simp⟩
  ·rw[show oe i (u::vs)=(i,u)::oe (i+1) vs from rfl,ge u _ e]at h
   obtain⟨b,a⟩:=sQ vs (i+1) t v h;refine⟨by omega,?_⟩;rw[show t-i=(t-(i+1))+1 by omega,List.getElem?_cons_succ]
   exact a
theorem HE.intro(g:P.follows .mixedOrders=true){f:FuncId}{fn:Func}{c:Code}{p:Ann}{args:List Value}{ks:List Kind}{K:sU ks→ad→Prop}{h:ad}
  (s:P.funcs[f]? =some fn) (x:fn.body=some c) (b:∀(args:Array Value) (w:World),(callFunc f args).run P w=.ok (.enter f args) w) (o:args.length≤fn.ntmps)
  (q:Kr P fn c p args ks K h):HE P f args ks K h:=by
 refine⟨fun w z=>⟨b,?_⟩⟩
 subst z;refine(callsIn_wide (n:=0)).1 (callsIn_of_wp (F:=FW none) s x trivial ?_ rfl);have u:Agree fn.ntmps (oe 0 args) {tmps:=args.toArray++o5 (fn.ntmps-args.toArray.size) undef,defers:= []}:=by
  refine⟨by simp;omega,fun t v hv=>?_⟩
  obtain⟨_,j⟩:=sQ args 0 t v hv;simp only[eD]at j;have e:=(bM.1 j).1;simp[Array.getElem?_append,e];rw[ag e]at j;cases j;rfl
 have fin:∀k a' (w':World),Agree fn.ntmps k a'→Fr (fun t=>fQ t c=true) {tmps:=args.toArray++o5 (fn.ntmps-args.toArray.size) undef,defers:= []} w a' w'→
   lY P k w'.heap fn.results.toList (fun vs=>AE ks vs fun t=>K t w'.heap)→
   a'.defers= []∧∃v,(results fn a'.tmps).run P w'=.ok v w'∧(Tame w w'∧∃t:sU ks,Ending.returned v=.returned (BI ks (lQ ks t))∧K t w'.heap):=fun k a' w' m i A=>by
  obtain⟨vs,d,hd⟩:=nY m A;obtain⟨t,rfl,y⟩:=pS hd;refine⟨i.defers,_,?_,i.tame,t,rfl,y⟩;unfold results;rw[lq];simp only[Sem.run_bind,Sem.run_map];rw[d _ (fun _=>rfl) (fun _ _=>rfl)]
  simp only[Result.andThen_ok,Sem.run_pure];rw[←DN]
 exact ql g c p _ _ _ _ w _ q u (fun B a w h=>h.2.2.elim fun _ h=>by cases h.1) fin (fun _ _ _ _ _ _ h=>h.elim) fin
theorem HC.intro(d:P.follows .mixedOrders=true){f:FuncId}{fn:Func}{c:Code}{j:Ann}{args:List Value}{ks:List Kind}{K:sU ks→ad→Prop}{h:ad}
 (g:P.funcs[f]? =some fn) (i:fn.body=some c) (a:∀(args:Array Value) (w:World),(callFunc f args).run P w=.ok (.enter f args) w) (b:args.length≤fn.ntmps)
 (e:Kr P fn c j args ks K h):HC P f args ks K h:=(HE.intro d g i a b e).hc
theorem Jv{N:Nat}{args:List Value}(c:args.length≤N):Agree N (oe 0 args) {tmps:=args.toArray++o5 (N-args.toArray.size) undef,defers:= []}:=by
 refine⟨by simp;omega,fun t v hv=>?_⟩
 obtain⟨_,b⟩:=sQ args 0 t v hv;simp only[eD]at b;have a:=(bM.1 b).1;simp[Array.getElem?_append,a];rw[ag a]at b;cases b;rfl
theorem Gv{N:Nat}{fn:Func}{ks:List Kind}{K:sU ks→ad→Prop}{c:cn}{a':Act}{w':World}(b:Agree N c a')(e:lY P c w'.heap fn.results.toList (fun vs=>AE ks vs fun t=>K t w'.heap)):
  ∃t:sU ks,(results fn a'.tmps).run P w'=.ok (BI ks (lQ ks t)) w'∧K t w'.heap:=by
 obtain⟨vs,a,hd⟩:=nY b e;obtain⟨t,rfl,d⟩:=pS hd;refine⟨t,?_,d⟩;unfold results;rw[lq];simp only[Sem.run_bind,Sem.run_map];rw[a _ (fun _=>rfl) (fun _ _=>rfl)]
 simp only[Result.andThen_ok,Sem.run_pure];rw[←DN]
end Go.Lift
namespace Go.Lift
open Go
variable {P:Program}
abbrev lw(D:Nat):Deferred:={target:=.collected D,args:= #[]}
theorem Cr{N:Nat}:∀{ps:List Nat} {vs:List Value} {r:cn} {tmps:Array Value},wx N ps=true→Agree N r {tmps:=tmps,defers:= []}→
  Agree N (OU ps vs r) {tmps:=(ps.zip vs).foldl (fun t x=>t.setIfInBounds x.1 x.2) tmps,defers:= []}
 | [],vs,r,tmps,_,h=>by cases vs<;>exact h
 |i::ps,[],r,tmps,_,h=>h
 |i::ps,v::vs,r,tmps,a,h=>by
  have a:(Nat.blt i N&&wx N ps)=true:=a;rw[bq]at a;have b:i<N:=by simpa using a.1
  have:=h.put i v b;exact Cr (tmps:=tmps.setIfInBounds i v) a.2 this
theorem Bo(w:World)(o:Obj):Tame w (w.alloc o):=⟨rfl,rfl,rfl⟩
theorem mw(w:World)(b:Nat)(o:Obj):Tame w (w.putObj b o):=⟨rfl,rfl,rfl⟩
theorem GE(w:World)(b:Nat)(o:Obj):(w.putObj b o).heap=w.heap.setIfInBounds b o:=rfl
theorem K8(ps:Array Nat)(vs:List Value)(t:Array Value):(ps.zip vs.toArray).foldl (fun t (x:Nat×Value)=>t.setIfInBounds x.1 x.2) t=(ps.toList.zip vs).foldl (fun t x=>t.setIfInBounds x.1 x.2) t:=by
 obtain⟨l⟩:=ps;simp
theorem AA(A:P.follows .mixedOrders=true){n N:Nat}{g:Operand}{ps:Array Tmp}{assign body:Code}{aa ab:Ann}{ks:List Kind}{fv:Value}{r:cn}{a:Act}{w:World}{Q:Exit→Act→World→Prop}
  {KN:ad→Prop}{KX:Nat→ad→Prop}{KR:ad→Prop}(hps:wx N ps.toList=true)(J:ps.toList.length=ks.length)(hg:c7 r g=some fv)(Z:Agree N r a)
  (hR:RangeP P fv ks w.heap (fun DQ bz x k h'=>H8 P N ps.toList ks assign body (.node aa ab) r (w.heap.size+1) DQ bz x k h') KN KX KR)
  (hn:∀w',Tame w w'→KN w'.heap→Q .normal {a with defers:=lw w.heap.size::a.defers} w')
  (hx:∀i w',Tame w w'→KX i w'.heap→Q (.exit i) {a with defers:=lw w.heap.size::a.defers} w')
  (hr:∀w',Tame w w'→KR w'.heap→Q .ret {a with defers:=lw w.heap.size::a.defers} w'):(Code.rangeFunc g ps assign body).wpIn (FW none) n P Q a w:=by
 refine wpIn_rangeFunc fun fn _=>?_
 obtain⟨lo,m⟩:∃lo:LoopState→Option Ex→Obj,lo=fun s j=>.loop {state:=s,pending:=Fm j,fn,tmps:=a.tmps,params:=ps,assign,body,defers:=w.heap.size}:=⟨_,rfl⟩
 have hj:∀j:Option Ex,(Fm j).isNone=j.isNone:=fun j=>by rcases j with _|⟨_|_⟩<;>rfl
 obtain⟨f,first,cap,rfl,he⟩:=hR.run lo (fun s j=>⟨_,by rw[m]⟩) (fun x h' K q z=>by
  refine⟨.inr ⟨_,rfl,⟨fun L hw1=>?_⟩⟩⟩
  subst hw1
  rw[m]at q
  have hy:=run_yield (P:=P) (args:=(lQ ks x).toArray) q (by simp only[cH,qz];rw[←J];rfl)
  refine⟨_,_,_,_,hy,fun c cs=>?_⟩
  have hA:Agree N (OU ps.toList (lQ ks x) r) {tmps:=(ps.zip (lQ ks x).toArray).foldl (fun t (x:Nat×Value)=>t.setIfInBounds x.1 x.2) a.tmps,defers:= []}:=by
   rw[K8]
   exact Cr hps ⟨Z.size,Z.look⟩
  have p:∀j:Option Ex,∀W:World,Tame L W→(W.heap[w.heap.size+1]? =some (lo .busy none)∧K j.isNone (W.heap.setIfInBounds (w.heap.size+1) (lo (if j.isNone then .ready else .done) j)))→
    ∃v w',(Instr.endRound (w.heap.size+1) (Fm j)).run P W=.ok v w'∧∃b,Ending.returned v=.returned (.bool b)∧Tame L w'∧K b w'.heap:=by
   rintro j W O ⟨h1,S⟩
   rw[m]at h1
   have:=run_endRound (P:=P) (Fm j) h1
   refine⟨_,_,this,_,rfl,O.trans (mw ..),?_⟩
   rw[m]at S
   rw[hj]
   exact S
  have:=roundIn_of_wpIn (F:=FW none) (n:=0) (P:=P) (l:=w.heap.size+1) (f:=fn) (assign:=assign) (body:=body) (w:=L)
   (tmps:=(ps.zip (lQ ks x).toArray).foldl (fun t (x:Nat×Value)=>t.setIfInBounds x.1 x.2) a.tmps)
   (R:=fun e w'=>∃b,e=.returned (.bool b)∧Tame L w'∧K b w'.heap) trivial (by
    refine ql (ro:=some (w.heap.size+1)) A assign aa _ _ _ _ L _ z hA (fun ch a w h=>h) ?_ (fun i r' a' w' _ _ h=>h.elim) (fun r' a' w' _ _ h=>h.elim)
    rintro r2 a2 w2 Y E ⟨u,C⟩
    rw[m]at u
    refine⟨_,run_beginRound u rfl,?_⟩
    have H:∀o,o=lo .busy none→w2.heap.setIfInBounds (w.heap.size+1) o=w2.heap.setIfInBounds (w.heap.size+1) (lo .busy none):=fun o U=>by rw[U]
    refine ql (ro:=some (w.heap.size+1)) A body ab (fun _ S=>_) (fun e _ S=>_) _ _ (w2.putObj (w.heap.size+1) _) _ (by
     rw[GE,H _ (by rw[m])];exact C) Y (fun ch a w h=>h) ?_ ?_ ?_
    ·rintro r3 a3 G I y M
     exact p none G ((E.tame.trans (mw ..)).trans y.tame) M
    ·rintro i r3 a3 G I y M
     exact p (some (.exit i)) G ((E.tame.trans (mw ..)).trans y.tame) M
    ·rintro r3 a3 G I y M
     exact p (some .ret) G ((E.tame.trans (mw ..)).trans y.tame) M)
  obtain⟨e,w',⟨b,rfl,O,hK⟩,T⟩:=this.2 c cs (fun d h=>by simp[FW]at h)
  exact⟨b,w',O,hK,T.steps⟩)
 have B:=he.run ((w.alloc (.deferred (some []))).alloc (lo .ready none)) rfl;refine⟨w.heap.size+1,[lw w.heap.size],(w.alloc (.deferred (some []))).alloc (lo .ready none),{target:=.fn (.func f) cap,args:=first++ #[.func (.yield (w.heap.size+1)) #[] #[]]},(w.alloc (.deferred (some []))).alloc (lo .ready none),f,
  first++ #[.func (.yield (w.heap.size+1)) #[] #[]]++cap,(w.alloc (.deferred (some []))).alloc (lo .ready none),?_,?_,fun _ _=>trivial,?_,fun h=>by simp[FW]at h,?_⟩
 ·rw[m];exact run_enterLoop_outer fn a.tmps ps assign body
 ·have X:=j8 Z hg
  simp[resolve,X,Deferred.ofValue,Sem.run_pure];rfl
 ·simp[invoke,B.1]
 ·refine Cj ?_
  have e:(first.toList++ [Value.func (.yield (w.heap.size+1)) #[] #[]]++cap.toList).toArray=first++ #[.func (.yield (w.heap.size+1)) #[] #[]]++cap:=by apply Array.ext';simp
  rw[←e];refine B.2.mono ?_;rintro e w' ⟨O,t,rfl,s,j,T,q,p⟩;have V:Tame w w':=((Bo w _).trans (Bo _ _)).trans O;rw[m]at q;refine⟨_,_,run_endLoop q T,?_⟩;have D:∀o,Tame w (w'.putObj (w.heap.size+1) o):=fun o=>V.trans (mw ..)
  have H:∀o,o=lo .exhausted j→(w'.putObj (w.heap.size+1) o).heap=w'.heap.setIfInBounds (w.heap.size+1) (lo .exhausted j):=fun o U=>by rw[U];rfl
  rcases j with _|⟨i|_⟩
  ·exact hn _ (D _) (by rw[H _ (by rw[m])];exact p)
  ·exact wpIn_exit (hx i _ (D _) (by rw[H _ (by rw[m])];exact p))
  ·exact wpIn_ret (hr _ (D _) (by rw[H _ (by rw[m])];exact p))
theorem ES(C:P.follows .mixedOrders=true){n N:Nat}(c:Code):∀(m:Ann) (Kn:List Nat→cn→ad→Prop) (Kx:Ex→List Nat→cn→ad→Prop) (ms:List Nat) (r:cn) (a:Act) (w:World) (Q:Exit→Act→World→Prop),
  wn P N c m Kn Kx ms r w.heap→Agree N r a→a.defers=ms.map lw→(∀F a w,¬Q (.panic F) a w)→
  (∀f j a' w',Agree N j a'→a'.defers=f.map lw→Tame w w'→Kn f j w'.heap→Q .normal a' w')→
  (∀i f j a' w',Agree N j a'→a'.defers=f.map lw→Tame w w'→Kx (.exit i) f j w'.heap→Q (.exit i) a' w')→
  (∀f j a' w',Agree N j a'→a'.defers=f.map lw→Tame w w'→Kx .ret f j w'.heap→Q .ret a' w')→
  c.wpIn (FW none) n P Q a w:=by
 have plain:∀(c:Code) (m:Ann) (Kn:List Nat→cn→ad→Prop) (Kx:Ex→List Nat→cn→ad→Prop) (ms:List Nat) (r:cn) (a:Act) (w:World) (Q:Exit→Act→World→Prop),
  jT P N c m (Kn ms) (fun e=>Kx e ms) r w.heap→Agree N r a→a.defers=ms.map lw→(∀F a w,¬Q (.panic F) a w)→
  (∀f j a' w',Agree N j a'→a'.defers=f.map lw→Tame w w'→Kn f j w'.heap→Q .normal a' w')→
  (∀i f j a' w',Agree N j a'→a'.defers=f.map lw→Tame w w'→Kx (.exit i) f j w'.heap→Q (.exit i) a' w')→
  (∀f j a' w',Agree N j a'→a'.defers=f.map lw→Tame w w'→Kx .ret f j w'.heap→Q .ret a' w')→
  c.wpIn (FW none) n P Q a w:=by
  intro c m Kn Kx ms r a w Q d p hd A q hx s;exact ql C c m _ _ r a w Q d p A (fun j a' w' u o v=>q ms j a' w' u (o.defers.trans hd) o.tame v) (fun i j a' w' u o v=>hx i ms j a' w' u (o.defers.trans hd) o.tame v)
   (fun j a' w' u o v=>s ms j a' w' u (o.defers.trans hd) o.tame v)
 induction c with
 |skip=>intro m Kn Kx ms r a w Q d;exact plain _ m Kn Kx ms r a w Q d
 |region id ops dr=>intro m Kn Kx ms r a w Q d;exact plain _ m Kn Kx ms r a w Q d
 |seq x y ihx ihy=>
  intro m Kn Kx ms r a w Q d p hd A q hx s;have d:(bif (bif pN x then true else pN y)then wn P N x m.l (fun ms j z=>wn P N y m.r Kn Kx ms j z) Kx ms r w.heap
   else jT P N (.seq x y) m (Kn ms) (fun e=>Kx e ms) r w.heap):=d
  cases hb:(bif pN x then true else pN y)with
  |false=>rw[hb]at d;exact plain _ _ _ _ _ _ _ _ _ d p hd A q hx s
  |true=>
   rw[hb,cond_true]at d;refine wpIn_seq (ihx m.l _ Kx ms r a w _ d p hd (fun F a w=>A F a w) ?_ hx s)
   intro H R T S K I D L;exact ihy m.r Kn Kx H R T S Q L K I A (fun f j a' w' u o v B=>q f j a' w' u o (D.trans v) B) (fun i f j a' w' u o v B=>hx i f j a' w' u o (D.trans v) B)
    (fun f j a' w' u o v B=>s f j a' w' u o (D.trans v) B)
 |cond c x y ihx ihy=>
  intro m Kn Kx ms r a w Q d p hd A q hx s;have d:(bif (bif pN x then true else pN y)then
    (match c7 r c with
     |some (.bool t)=>CondP t (wn P N x m.l Kn Kx ms r w.heap) (wn P N y m.r Kn Kx ms r w.heap)
     |_=>False)
   else jT P N (.cond c x y) m (Kn ms) (fun e=>Kx e ms) r w.heap):=d
  cases hb:(bif pN x then true else pN y)with
  |false=>rw[hb]at d;exact plain _ _ _ _ _ _ _ _ _ d p hd A q hx s
  |true=>
   rw[hb,cond_true]at d;split at d
   ·rename_i t E
    exact wpIn_cond_split (j8 p E) (fun e=>ihx _ Kn Kx ms r a w Q (d.yes e) p hd A q hx s) (fun e=>ihy _ Kn Kx ms r a w Q (d.no e) p hd A q hx s)
   ·exact d.elim
 |block id b ih=>
  intro m Kn Kx ms r a w Q d p hd A q hx s;have d:(bif pN b then wn P N b m Kn (fun e ms j z=>match e with
    | .exit i=>bif bw i id then Kn ms j z else Kx (.exit i) ms j z
    | .ret=>Kx .ret ms j z) ms r w.heap
   else jT P N (.block id b) m (Kn ms) (fun e=>Kx e ms) r w.heap):=d
  cases hb:pN b with
  |false=>rw[hb]at d;exact plain _ _ _ _ _ _ _ _ _ d p hd A q hx s
  |true=>
   rw[hb,cond_true]at d;refine wpIn_block (ih m Kn _ ms r a w _ d p hd (fun F a w=>A F a w) q (fun i f j a' w' u o v B=>?_) s)
   simp only[Exit.inBlock]at B⊢;cases hi:bw i id with
   |true=>
    rw[hi,cond_true]at B;rw[if_pos (aS hi)];exact q f j a' w' u o v B
   |false=>
    rw[hi,cond_false]at B;rw[if_neg (fun e=>by rw[e,pC]at hi;cases hi)]
    exact hx i f j a' w' u o v B
 |loop b ih=>intro m Kn Kx ms r a w Q d;exact plain _ m Kn Kx ms r a w Q d
 |rangeFunc g ps assign body _ _=>
  intro m Kn Kx ms r a w Q d p hd A q hx s;cases m with
  |rf ks aa ab=>
   have d:(bif wx N ps.toList&&bw ps.toList.length ks.length then
    (match c7 r g with
     |some fv=>RangeP P fv ks w.heap (fun DQ O x k z=>H8 P N ps.toList ks assign body (.node aa ab) r (w.heap.size+1) DQ O x k z)
       (fun z=>Kn (w.heap.size::ms) r z) (fun i z=>Kx (.exit i) (w.heap.size::ms) r z) (fun z=>Kx .ret (w.heap.size::ms) r z)
     |none=>False)else False):=d
   cases hb:(wx N ps.toList&&bw ps.toList.length ks.length)with
   |false=>rw[hb]at d;exact d.elim
   |true=>
    rw[hb,cond_true]at d;rw[bq]at hb;split at d
    · rename_i fv hfv
      have M:Agree N r {a with defers:=lw w.heap.size::a.defers}:=⟨p.size,p.look⟩;have J:({a with defers:=lw w.heap.size::a.defers}:Act).defers=(w.heap.size::ms).map lw:=by rw[List.map_cons,←hd]
      exact AA C hb.1 (aS hb.2) hfv p d (fun w' E G=>q _ r _ w' M J E G) (fun i w' E G=>hx i _ r _ w' M J E G) (fun w' E G=>s _ r _ w' M J E G)
    · exact d.elim
  |_=>exact d.elim
 |exit id=>intro m Kn Kx ms r a w Q d;exact plain _ m Kn Kx ms r a w Q d
 |scope b _=>intro m Kn Kx ms r a w Q d;exact d.elim
 |label l=>intro m Kn Kx ms r a w Q d;exact plain _ m Kn Kx ms r a w Q d
 |goto l=>intro m Kn Kx ms r a w Q d;exact d.elim
 |ret=>intro m Kn Kx ms r a w Q d;exact plain _ m Kn Kx ms r a w Q d
 |refuse why=>intro m Kn Kx ms r a w Q d;exact d.elim
theorem wh{fn:Func}{ks:List Kind}{K:sU ks→ad→Prop}{N:Nat}{n:Nat}{r:cn}{a:Act}{w0:World}(c:Agree N r a):∀(ms:List Nat) (w:World),Tame w0 w→
  Kp ms (fun d=>lY P r d fn.results.toList fun vs=>AE ks vs fun t=>K t d) w.heap→
  LeavesInM (FW none) n P fn a.tmps (fun e w'=>Tame w0 w'∧∃t:sU ks,e=.returned (BI ks (lQ ks t))∧K t w'.heap) (ms.map lw) .returning w
 | [],w,ht,h=>by
  obtain⟨t,b,f⟩:=Gv c h;exact⟨_,b,ht,t,rfl,f⟩
 |D::ms,w,ht,h=>by
  refine⟨by simp,.inl ⟨D,_,rfl,run_takeDeferred h.1,?_⟩⟩;exact wh c ms (w.putObj D (.deferred none)) (ht.trans (mw ..)) h.2
theorem HE.introM(m:P.follows .mixedOrders=true){f:FuncId}{fn:Func}{c:Code}{q:Ann}{args:List Value}{ks:List Kind}{K:sU ks→ad→Prop}{h:ad}
  (u:P.funcs[f]? =some fn) (v:fn.body=some c) (j:∀(args:Array Value) (w:World),(callFunc f args).run P w=.ok (.enter f args) w) (k:args.length≤fn.ntmps)
  (s:H9 P fn c q args ks K h):HE P f args ks K h:=by
 refine⟨fun w y=>⟨j,?_⟩⟩
 subst y;refine(callsIn_wide (n:=0)).1 (callsIn_of_wp_marks (F:=FW none) u v trivial ?_ rfl);refine wpIn_mono (Q:=fun e a w'=>(∀o,e≠ .panic o)∧bodyPostM (FW none) 0 P fn (fun e w'=>Tame w w'∧∃t:sU ks,e=.returned (BI ks (lQ ks t))∧K t w'.heap) e a w') ?_ fun e a w h=>h.2
 refine ES m c q _ _ [] _ _ w _ s (Jv k) rfl (fun o a w h=>h.1 o rfl) ?_ (fun _ _ _ _ _ _ _ _ h=>h.elim) ?_
 ·intro i x a' w' g b d p
  refine⟨(fun _ e=>by cases e),?_⟩
  show LeavesInM _ _ _ _ _ _ a'.defers _ _
  rw[b];exact wh g i w' d p
 ·intro i x a' w' g b d p
  refine⟨(fun _ e=>by cases e),?_⟩
  show LeavesInM _ _ _ _ _ _ a'.defers _ _
  rw[b];exact wh g i w' d p
theorem HC.introM(d:P.follows .mixedOrders=true){f:FuncId}{fn:Func}{c:Code}{j:Ann}{args:List Value}{ks:List Kind}{K:sU ks→ad→Prop}{h:ad}
 (g:P.funcs[f]? =some fn) (i:fn.body=some c) (a:∀(args:Array Value) (w:World),(callFunc f args).run P w=.ok (.enter f args) w) (b:args.length≤fn.ntmps)
 (e:H9 P fn c j args ks K h):HC P f args ks K h:=(HE.introM d g i a b e).hc
end Go.Lift
namespace Go.Lift
open Go
def AppP(z:Option (List Value))(e b:Nat)(t:TypeId)(a:Option Addr)(sl d c:Nat)(xs:List Value)(h:ad)(K:SliceV→ad→Prop):Prop:=
 (sl+c≤d→rK h a (sl*e) xs∧bS xs=true∧K ⟨a,sl+c,d⟩ (fj h a (sl*e) xs))∧
 (d<sl+c→∃old z',SRow h a (sl*e) old∧z=some z'∧0<b∧Builtin.nextslicecap (sl+c) d*b≤2^48∧
  ∀nc,sl+c≤nc→K ⟨some (aA h),sl+c,nc⟩ (hnew h (old++xs++df (nc-(sl+c)) z') t))
end Go.Lift
