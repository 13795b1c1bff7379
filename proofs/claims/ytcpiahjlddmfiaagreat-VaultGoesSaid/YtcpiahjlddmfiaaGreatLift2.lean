/- A part of the proof that the named laws of this program answer true, whatever the input. -/
import Derived.Test.YtcpiahjlddmfiaaGreatLift1
import Derived.BigFrameIn
open Array renaming getD_eq_getD_getElem?→bZ,getElem?_toList→aJ,getElem?_setIfInBounds_ne→cX,replicate→jH,getElem?_eq_some_iff→bD,getElem?_eq_getElem→fI,getElem?_eq_none→gP,mapM_eq_mapM_toList→jf,ext'→bX
open Bool renaming eq_false_iff→kG,or_eq_true→fQ,and_eq_true→aO,or_eq_false_iff→iC
open List renaming mem_of_getElem?→bw,length_cons→aI,mem_cons→ao,getElem?_cons_zero→cI,getElem?_eq_getElem→au,any_eq_true→bF,getElem?_eq_some_iff→bj,mem_cons_of_mem→aC,mem_cons_self→aq,range→dB,filter_cons→cJ,mem_singleton→ay,size_toArray→cx
open Nat renaming blt→rg,beq→aV,eq_of_beq_eq_true→az,land→fX,lor→bU,testBit_and→g3,succ→dK,zero_add→aw,beq_refl→mF,lt_or_ge→cj,pred→qS,sub_zero→dT
open Option renaming some→bv
namespace Go.Lift
open Go
variable {P:Program} {ro:Option Nat} {n:Nat}
def FW(ro:Option Nat):Fence:={fn:=fun _=>True,depth:=none,alive:=false,round:=ro}
theorem EC(m:Machine):m.fenced P (FW ro):=by
 intro g _;exact⟨fun h=>by simp[FW]at h,.inl trivial,fun _ _=>trivial,fun d h=>by simp[FW]at h⟩
theorem rW{m a:Machine}(h:Steps P m a):StepsIn (Machine.fenced P (FW ro)) P m a:=(StepsIn.of_steps h).mono fun m _=>EC m
theorem xW{k:Nat}{f:FuncId}{args:Array Value}{w:World}{R:Ending→World→Prop}(h:Calls P f args w R):CallsIn (FW ro) k P f args w R:=by
 refine⟨trivial,fun cs _=>?_⟩
 obtain⟨e,g,fr,d,hc,a,i⟩:=h cs;refine⟨e,g,fr,d,?_,a,i⟩;cases e with
 |returned v=>exact rW hc
 |panicked c=>exact rW hc
 |outgrown=>exact hc
theorem ly{o:Oper}{a:Act}{w:World}{K:WK}{next:Act→World→Prop}{Q:Exit→Act→World→Prop}(hd:∀c,o.op≠ .defer c)(h:BN P (execOp a.eval o) K w)
  (k:∀v d,Tame w d→K v d.heap→next (a.put o.dst v) d):o.wpIn (FW ro) n P a w next Q:=by
 refine⟨fun _ _=>trivial,?_⟩
 rw[Oper.semAt_eq _ _ _ hd];rcases h with⟨v,d,i,g,j⟩|⟨d,i,g,j⟩|⟨f,args,i,hc⟩|⟨l,fn,tmps,assign,body,i,hc⟩
 ·rw[i];exact k v d g j
 ·rw[i];exact k undef d g j
 ·rw[i]
  refine⟨fun h=>by simp[FW]at h,xW (hc.mono ?_)⟩
  rintro e d ⟨g,v,rfl,j⟩;exact k v d g j
 ·rw[i]
  refine⟨fun h=>by simp[FW]at h,trivial,fun c cs _=>?_⟩
  obtain⟨b,d,g,j,m⟩:=hc c cs;exact⟨.returned (.bool b),d,k _ d g j,rW m⟩
theorem nO{N:Nat}{o:Oper}{v:Value}{r:bE}{K:bE→Prop}{a:Act}{d:pi}{dv:DV}(h:sx N o v r K)(f:Agree N r a)(hd:DecOk d r)(g:yJ dv v):
  ∃r',K r'∧Agree N r' (a.put o.dst v)∧DecOk (mC d o dv) r':=by
 unfold sx at h;unfold mC;cases ho:o.dst with
 |none=>rw[ho]at h;exact⟨r,h,f,hd⟩
 |some t=>
  rw[ho]at h;simp only at h;cases hb:rg t N with
  |false=>rw[hb]at h;exact h.elim
  |true=>
   rw[hb]at h;have c:t<N:=by simpa using hb
   refine⟨_,h,f.put t v c,fun s=>?_⟩
   by_cases e:t=s
   ·subst e
    have:me ((t,dv)::d) t=dv:=by simp[me]
    rw[this];exact .inr ⟨v,fh t v r,g⟩
   ·have j:me ((t,dv)::d) s=me d s:=by
     have:aV t s=false:=kG.2 fun i=>e (az i)
     show(bif aV t s then dv else me d s)=_
     rw[this];rfl
    rw[j,eD v r e];exact hd s
theorem vD{ek:Option (Kind×Kind)}{o:Op}{r:bE}{K:RK}{h:ac}(a:uv P ek o r K h):∀c,o≠ .defer c:=by
 intro c e;subst e;exact a
theorem qd{o:Oper}{r:bE}{K:WK}{h:ac}(a:yn P o r K h):∀c,o.op≠ .defer c:=by
 intro c e;unfold yn at a;rw[e]at a;exact a
theorem JD{d:pi}{o:Op}(h:pS P o=false):AJ d o=.x:=by
 cases o<;>first|rfl|(simp[pS]at h)
theorem Eb{N:Nat}{ek:Option (Kind×Kind)}{o:Oper}{r:bE}{K:bE→ac→Prop}{a:Act}{w:World}{d:pi}{next:Act→World→Prop}{Q:Exit→Act→World→Prop}
  (c:IQ P N ek o r K w.heap)(k:Agree N r a)(hd:DecOk d r)
  (s:∀v g i,Tame w g→K i g.heap→Agree N i (a.put o.dst v)→DecOk (mC d o (AJ d o.op)) i→next (a.put o.dst v) g):o.wpIn (FW ro) n P a w next Q:=by
 unfold IQ at c;cases hq:pS P o.op with
 |true=>
  rw[hq,cond_true]at c;obtain⟨v,S,p,t,q,y⟩:=uI k c d hd;refine ly (K:=fun u h'=>u=v∧h'=w.heap) (vD c) (.inl ⟨v,w,y w t,Tame.refl w,rfl,rfl⟩) ?_
  rintro u g m ⟨rfl,x⟩;obtain⟨i,e,j,f⟩:=nO p k hd q;exact s u g i m (by rw[x];exact e) j f
 |false=>
  rw[hq,cond_false]at c;refine ly (qd c) (uz k c) ?_;intro v g m p;obtain⟨i,e,j,f⟩:=nO p k hd (dv:=AJ d o.op) (by rw[JD hq];trivial);exact s v g i m e j f
theorem zh{t:Array Value}{i:Nat}{b:Bool}(h:t.getD i undef=.bool b):t[i]? =some (.bool b):=by
 rw[bZ]at h;cases hc:t[i]? with
 |none=>rw[hc]at h;simp[undef]at h
 |some v=>rw[hc]at h;simp at h;rw[h]
theorem CU{t:Array Value}{i:Nat}(h:t.getD i undef=undef):t[i]? =none∨t[i]? =some undef:=by
 rw[bZ]at h;cases hc:t[i]? with
 |none=>exact .inl rfl
 |some v=>rw[hc]at h;simp at h;rw[h];exact .inr rfl
theorem jr{N:Nat}{ops:Array Oper}{d:pi}{o:Oper}{b:Bool}{r:bE}{a:Act}(h:fC ops.toList d o=some b)(m:Agree N r a)(hd:DecOk d r):
  Region.wanted o (yielded ops a.tmps)=b:=by
 unfold fC at h;unfold Region.wanted;cases hg:o.guard with
 |none=>rw[hg]at h;simp only[bv.injEq]at h;exact h
 |some g=>
  obtain⟨j,c⟩:=g;rw[hg]at h;simp only[aJ]at h;simp only;cases hj:ops[j]? with
  |none=>rw[hj]at h;cases h
  |some oj=>
   rw[hj]at h;simp only at h;cases ht:oj.dst with
   |none=>rw[ht]at h;cases h
   |some t=>
    rw[ht]at h;simp only at h;have p:yielded ops a.tmps j=(match a.tmps[t]? with|some (.bool b)=>some b|_=>none):=by
     unfold yielded;simp[hj,ht];rfl
    rw[p];rcases hd t with hx|⟨v,n,k⟩
    ·rw[hx]at h;cases h
    ·have i:=m.look t v n
     cases hdl:me d t with
     |x=>rw[hdl]at h;cases h
     |t=>
      rw[hdl]at h k;simp only[bv.injEq]at h;subst h;have:v=.bool true:=k;subst this;rw[zh i];cases c<;>rfl
     |f=>
      rw[hdl]at h k;simp only[bv.injEq]at h;subst h;have:v=.bool false:=k;subst this;rw[zh i];cases c<;>rfl
     |u=>
      rw[hdl]at h k;simp only[bv.injEq]at h;subst h;have:v=undef:=k;subst this;rcases CU i with e|e<;>rw[e]<;>cases c<;>rfl
structure Fr(W:Nat→Prop)(a0:Act)(w0:World)(a:Act)(w:World):Prop where
 tame:Tame w0 w
 defers:a.defers=a0.defers
 same:∀t,¬W t→a.tmps.getD t undef=a0.tmps.getD t undef
theorem Fr.refl(W:Nat→Prop)(a:Act)(w:World):Fr W a w a w:=⟨Tame.refl w,rfl,fun _ _=>rfl⟩
theorem Fr.put{W:Nat→Prop}{g a:Act}{j w i:World}(h:Fr W g j a w){o:Oper}(m:∀d,o.dst=some d→W d)(v:Value)(k:Tame w i):Fr W g j (a.put o.dst v) i:=by
 refine⟨h.tame.trans k,?_,fun t f=>?_⟩
 ·cases ho:o.dst<;>simp[Act.put,h.defers]
 ·cases ho:o.dst with
  |none=>exact h.same t f
  |some d=>
   have c:d≠t:=fun e=>f (e▸m d ho)
   rw[←h.same t f];simp[Act.put,cX c]
theorem Fr.trans{W:Nat→Prop}{c f e:Act}{d g i:World}(h:Fr W c d f g)(k:Fr W f g e i):Fr W c d e i:=
 ⟨h.tame.trans k.tame,k.defers.trans h.defers,fun t a=>(k.same t a).trans (h.same t a)⟩
theorem Fr.mono{W W':Nat→Prop}{d a:Act}{c w:World}(h:Fr W d c a w)(f:∀t,W t→W' t):Fr W' d c a w:=
 ⟨h.tame,h.defers,fun t g=>h.same t fun e=>g (f t e)⟩
theorem DecOk.known{d:pi}{r:bE}(h:DecOk d r){t:Nat}{dv:DV}{v:Value}(a:yJ dv v):DecOk ((t,dv)::d) ((t,v)::r):=fun s=>by
 by_cases e:t=s
 ·subst e
  have:me ((t,dv)::d) t=dv:=by simp[me]
  rw[this];exact .inr ⟨v,fh t v r,a⟩
 ·have c:me ((t,dv)::d) s=me d s:=by
   have:aV t s=false:=kG.2 fun f=>e (az f)
   show(bif aV t s then dv else me d s)=_
   rw[this];rfl
  rw[c,eD v r e];exact h s
theorem wR{N:Nat}{ek:Option (Kind×Kind)}{ops:Array Oper}{o:Oper}{i:Nat}{d:pi}{r:bE}{a:Act}{w:World}{b:Bool}{K:pi→bE→ac→Prop}{next:Act→World→Prop}{Q:Exit→Act→World→Prop}
  (hi:ops[i]? =some o) (s:fC ops.toList d o=some b) (j:Agree N r a) (hd:DecOk d r)
  (p:match b with
   |true=>IQ P N ek o r (K (mC d o (AJ d o.op))) w.heap
   |false=>sx N o undef r fun c=>K (mC d o .u) c w.heap)
  (m:∀v g d' c,Tame w g→K d' c g.heap→Agree N c (a.put o.dst v)→DecOk d' c→next (a.put o.dst v) g):
  wpOpIn (FW ro) n P ops Q i next a w:=by
 unfold wpOpIn;rw[hi];simp only[jr s j hd];cases b with
 |true=>exact Eb p j hd fun v g c q t f e=>m v g _ c q t f e
 |false=>
  obtain⟨c,k,f,e⟩:=nO (dv:=.u) p j hd rfl;exact⟨fun _ _=>trivial,m undef w _ c (Tame.refl w) k f e⟩
theorem Ea{N:Nat}{ek:Option (Kind×Kind)}{ops:List Oper}{o:Oper}{os:List Oper}{d:pi}{K:bE→ac→Prop}{r:bE}{h:ac}:xm P N ek ops (o::os) d K r h=
 (match fC ops d o with
 |some true=>IQ P N ek o r (fun a h'=>xm P N ek ops os (mC d o (AJ d o.op)) K a h') h
 |some false=>sx N o undef r fun a=>xm P N ek ops os (mC d o .u) K a h
 |none=>match xF ops o with
  |none=>False
  |some t=>match gC r t with
   |some (.bool b)=>CondP b
    (yS P N ek ops o ((t,.t)::d) ((t,.bool true)::r) h fun c a h'=>xm P N ek ops os c K a h')
    (yS P N ek ops o ((t,.f)::d) ((t,.bool false)::r) h fun c a h'=>xm P N ek ops os c K a h')
   |_=>False):=rfl
theorem yN{N:Nat}{ek:Option (Kind×Kind)}{ops:Array Oper}{o:Oper}{i:Nat}{d:pi}{r:bE}{a:Act}{w:World}{K:pi→bE→ac→Prop}{next:Act→World→Prop}{Q:Exit→Act→World→Prop}
  (hi:ops[i]? =some o) (e:Agree N r a) (hd:DecOk d r) (c:yS P N ek ops.toList o d r w.heap K)
  (f:∀v w' d' r',Tame w w'→K d' r' w'.heap→Agree N r' (a.put o.dst v)→DecOk d' r'→next (a.put o.dst v) w'):
  wpOpIn (FW ro) n P ops Q i next a w:=by
 unfold yS at c;cases hw:fC ops.toList d o with
 |none=>rw[hw]at c;exact c.elim
 |some b=>rw[hw]at c;exact wR (ek:=ek) hi hw e hd (by cases b<;>exact c) f
theorem xk{N:Nat}{ek:Option (Kind×Kind)}{ops:Array Oper}{W:Nat→Prop}(y:∀o∈ops.toList,∀d,o.dst=some d→W d){s:Act}{x:World}{K:bE→ac→Prop}{Q:Exit→Act→World→Prop}
  (u:∀r a w,Agree N r a→Fr W s x a w→K r w.heap→Q .normal a w):
  ∀(l:List Oper) (i:Nat),ops.toList.drop i=l→∀(d:pi) (r:bE) (a:Act) (w:World),xm P N ek ops.toList l d K r w.heap→Agree N r a→DecOk d r→Fr W s x a w→
   wpOpsIn (FW ro) n P ops Q (List.range' i l.length) a w
 | [],i,_,d,r,a,w,hs,ha,hd,hf=>u r a w ha hf hs
 |o::os,i,hdr,d,r,a,w,hs,ha,hd,hf=>by
  have hi:ops[i]? =some o:=by
   rw[←aJ];have:(ops.toList.drop i)[0]? =some o:=by rw[hdr];rfl
   simpa using this
  have j:o∈ops.toList:=bw (by rw[aJ];exact hi);have f:ops.toList.drop (i+1)=os:=by rw[←List.tail_drop,hdr];rfl
  rw[aI,List.range'_succ,wpOpsIn_cons];rw[Ea]at hs;have p:∀v g e c,Tame w g→xm P N ek ops.toList os e K c g.heap→Agree N c (a.put o.dst v)→DecOk e c→wpOpsIn (FW ro) n P ops Q (List.range' (i+1) os.length) (a.put o.dst v) g:=
   fun v g e c q z m k=>xk y u os (i+1) f e c _ g z m k (hf.put (y o j) v q)
  cases hw:fC ops.toList d o with
  |some b=>
   rw[hw]at hs;exact wR (ek:=ek) (K:=fun e c h'=>xm P N ek ops.toList os e K c h') hi hw ha hd (by cases b<;>exact hs) p
  |none=>
   rw[hw]at hs;simp only at hs;split at hs
   ·exact hs.elim
   ·rename_i t q
    split at hs
    ·rename_i b hb
     cases b with
     |true=>exact yN hi (ha.known hb) (hd.known (dv:=.t) rfl) (hs.yes rfl) p
     |false=>exact yN hi (ha.known hb) (hd.known (dv:=.f) rfl) (hs.no rfl) p
    ·exact hs.elim
end Go.Lift
namespace Go.Lift
open Go
theorem sY(m i:Nat):tb m i=m.testBit i:=by
 have h:fX (Nat.shiftRight m i) 1=(m>>>i)&&&1:=rfl;unfold tb;rw[h,Nat.testBit_eq_decide_div_mod_eq,Nat.and_one_is_mod,Nat.shiftRight_eq_div_pow];cases hm:decide (m/2^i%2=1)with
 |true=>rw[of_decide_eq_true hm];rfl
 |false=>
  have a:=of_decide_eq_false hm;have:m/2^i%2=0:=by omega
  rw[this];rfl
theorem jQ(a b i:Nat):(bU a b).testBit i=(a.testBit i||b.testBit i):=Nat.testBit_or a b i
theorem sB(i j:Nat):(eB i).testBit j=decide (i=j):=Nat.testBit_two_pow
theorem u1{a b:Nat}(h:aV (fX a b) 0=true)(t:Nat)(e:a.testBit t=true)(c:b.testBit t=true):False:=by
 have d:=az h;have:(fX a b).testBit t=(a.testBit t&&b.testBit t):=g3 a b t;rw[d,e,c]at this;simp at this
theorem HH{a b:Nat}(h:aV (fX a b) a=true)(t:Nat)(d:a.testBit t=true):b.testBit t=true:=by
 have c:=az h;have:(fX a b).testBit t=(a.testBit t&&b.testBit t):=g3 a b t;rw[c,d]at this;simpa using this.symm
theorem rK(i:Nat):∀l:List Edge,(iV l).testBit i=l.any fun e=>aV e.on i&&Region.binds .any e
 | []=>Nat.zero_testBit i
 |e::l=>by
  have a:=rK i l;have hc:iV (e::l)=bif Region.binds .any e then bU (eB e.on) (iV l)else iV l:=rfl;rw[hc,List.any_cons,←a];cases hb:Region.binds .any e with
  |true=>
   rw[cond_true,jQ,sB,Bool.and_true];congr 1
   cases hd:aV e.on i with
   |true=>simpa using az hd
   |false=>rw[decide_eq_false_iff_not];intro c;rw[c]at hd;simp at hd
  |false=>simp
theorem tJ(o:Oper)(i:Nat):(iV o.after.toList).testBit i=fE o i:=rK i o.after.toList
theorem sX(t:Nat):∀l:List Operand,(ii l).testBit t=true↔Operand.tmp t∈l
 | []=>by simp[show ii []=0 from rfl]
 |o::l=>by
  have a:=sX t l;cases o with
  |tmp u=>
   have hc:ii (.tmp u::l)=bU (eB u) (ii l):=rfl;rw[hc,jQ,sB,fQ,a,ao];simp[eq_comm]
  |const v=>
   have hc:ii (.const v::l)=ii l:=rfl;rw[hc,a,ao];simp
  |global v=>
   have hc:ii (.global v::l)=ii l:=rfl;rw[hc,a,ao];simp
  |func v=>
   have hc:ii (.func v::l)=ii l:=rfl;rw[hc,a,ao];simp
theorem qF(o:Oper)(t:Nat):(jF o).testBit t=true↔o.dst=some t:=by
 unfold jF;cases o.dst with
 |none=>simp
 |some d=>simp[sB]
theorem yx(ops:Array Oper)(o:Oper)(t:Nat):(jU ops.toList o).testBit t=true↔t∈o.looksAt ops:=by
 unfold jU Oper.looksAt;rw[jQ,fQ,sX,List.mem_append,List.mem_filterMap];refine or_congr ⟨fun h=>⟨_,h,rfl⟩,?_⟩ ?_
 ·rintro⟨x,hx,c⟩
  cases x<;>simp at c
  subst c;exact hx
 ·cases hg:o.guard with
  |none=>simp
  |some g=>
   obtain⟨j,a⟩:=g;simp only[aJ];cases hj:ops[j]? with
   |none=>simp
   |some oj=>simp[qF]
variable {P:Program} {ro:Option Nat} {n:Nat} {ops:Array Oper} {Q:Exit→Act→World→Prop}
structure MsOk(ops:Array Oper)(ms:List DM):Prop where
 am:∀(i:Nat) (o:Oper) (m:DM),ops[i]? =some o→ms[i]? =some m→∀j,m.am.testBit j=fE o j
 lk:∀(i:Nat) (o:Oper) (m:DM),ops[i]? =some o→ms[i]? =some m→∀t,m.lk.testBit t=true↔t∈o.looksAt ops
 ds:∀(i:Nat) (o:Oper) (m:DM),ops[i]? =some o→ms[i]? =some m→∀t,m.ds.testBit t=true↔o.dst=some t
 len:ms.length=ops.size
 free:∀(i j:Nat) (m k:DM),ms[i]? =some m→ms[j]? =some k→m.fr.testBit j=true→j=i∨k.am.testBit i=true∨u6 m k=true
 nosel:∀(i:Nat) (o:Oper),ops[i]? =some o→(∀cs b,o.op≠ .select cs b)∧(∀c,o.op≠ .defer c)
theorem th(ops:List Oper):∀(l:List Oper) (ms:List DM),qq ops l ms=true→ms.length=l.length∧∀(i:Nat) (o:Oper) (m:DM),l[i]? =some o→ms[i]? =some m→
  m.am=iV o.after.toList∧m.lk=jU ops o∧m.ds=jF o
 | [],[],_=>⟨rfl,fun i o m h=>by simp at h⟩
 | [],_::_,h=>by cases h
 |o::l,[],h=>by cases h
 |o::l,m::ms,h=>by
  have hc:qq ops (o::l) (m::ms)=(aV (iV o.after.toList) m.am&&aV (jU ops o) m.lk&&aV (jF o) m.ds&&qq ops l ms):=rfl;rw[hc]at h;simp only[aO]at h;obtain⟨⟨⟨j,g⟩,f⟩,k⟩:=h;obtain⟨e,c⟩:=th ops l ms k;refine⟨by simp[e],fun i d n a hm=>?_⟩
  cases i with
  |zero=>
   simp only[cI,bv.injEq]at a hm;subst a;subst hm;exact⟨(az j).symm,(az g).symm,(az f).symm⟩
  |succ i=>exact c i d n (by simpa using a) (by simpa using hm)
theorem zi(i:Nat)(m:DM):∀(l:List DM) (j0:Nat),zj i m l j0=true→∀(j:Nat) (k:DM),l[j]? =some k→m.fr.testBit (j0+j)=true→j0+j=i∨k.am.testBit i=true∨u6 m k=true
 | [],j0,_,j,k,hk,_=>by simp at hk
 |x::l,j0,h,j,k,hk,hb=>by
  have hc:zj i m (x::l) j0=((!(tb m.fr j0)||aV j0 i||tb x.am i||u6 m x)&&zj i m l (dK j0)):=rfl
  rw[hc]at h;simp only[aO,fQ,Bool.not_eq_true',sY]at h;cases j with
  |zero=>
   simp only[cI,bv.injEq]at hk;subst hk;simp only[Nat.add_zero]at hb⊢;rcases h.1 with((a|a)|a)|a
   ·rw[a]at hb;cases hb
   ·exact .inl (az a)
   ·exact .inr (.inl a)
   ·exact .inr (.inr a)
  |succ j=>
   have:=zi i m l (j0+1) h.2 j k (by simpa using hk) (by rw[show j0+1+j=j0+(j+1) by omega];exact hb)
   rw[show j0+1+j=j0+(j+1) by omega]at this
   exact this
theorem vG(a:List DM):∀(l:List DM) (i0:Nat),tw a l i0=true→∀(i:Nat) (m:DM),l[i]? =some m→zj (i0+i) m a 0=true
 | [],i0,_,i,m,hm=>by simp at hm
 |x::l,i0,h,i,m,hm=>by
  have hc:tw a (x::l) i0=(zj i0 x a 0&&tw a l (dK i0)):=rfl;rw[hc,aO]at h;cases i with
  |zero=>simp only[cI,bv.injEq]at hm;subst hm;exact h.1
  |succ i=>
   have:=vG a l (i0+1) h.2 i m (by simpa using hm);rw[show i0+1+i=i0+(i+1) by omega]at this
   exact this
theorem za:∀(l:List Oper),Bo l=true→∀o∈l,(∀cs b,o.op≠ .select cs b)∧(∀c,o.op≠ .defer c)
 | [],_,o,a=>by cases a
 |x::l,h,o,a=>by
  simp only[Bo,aO]at h;rcases ao.1 a with rfl|a
  ·refine⟨fun cs b e=>?_,fun c e=>?_⟩
   ·rw[e]at h;cases h.1
   ·rw[e]at h;cases h.1
  ·exact za l h.2 o a
theorem CA{ms:List DM}(h:wI ops.toList ms=true):MsOk ops ms:=by
 have hc:wI ops.toList ms=(qq ops.toList ops.toList ms&&tw ms ms 0&&Bo ops.toList):=rfl;rw[hc]at h;simp only[aO]at h;obtain⟨⟨n,g⟩,e⟩:=h;obtain⟨d,c⟩:=th ops.toList ops.toList ms n;refine⟨fun i o m a hm j=>?_,fun i o m a hm t=>?_,fun i o m a hm t=>?_,by simpa using d,fun i j m k hm f p=>?_,fun i o a=>?_⟩
 ·rw[(c i o m (by simpa using a) hm).1,tJ]
 ·rw[(c i o m (by simpa using a) hm).2.1,yx]
 ·rw[(c i o m (by simpa using a) hm).2.2,qF]
 ·have:=vG ms ms 0 g i m hm
  rw[aw]at this;have:=zi i m ms 0 this j k f (by rwa [aw]);rwa [aw]at this
 ·exact za _ e o (bw (by rw[aJ];exact a))
theorem Gv{ms:List DM}(hm:MsOk ops ms){i j:Nat}{f c:Oper}{g k:DM}(hi:ops[i]? =some f) (n:ops[j]? =some c) (a:ms[i]? =some g) (e:ms[j]? =some k) (h:u6 g k=true):
  (∀d,f.dst=some d→d∉c.looksAt ops)∧(∀d,f.dst=some d→c.dst≠some d)∧(∀d,c.dst=some d→d∉f.looksAt ops):=by
 unfold u6 at h;rw[aO]at h;refine⟨fun d hd m=>?_,fun d hd o=>?_,fun d hd m=>?_⟩
 ·exact u1 h.1 d ((hm.ds i f g hi a d).2 hd) (by rw[jQ,(hm.lk j c k n e d).2 m,Bool.true_or])
 ·exact u1 h.1 d ((hm.ds i f g hi a d).2 hd) (by rw[jQ,(hm.ds j c k n e d).2 o,Bool.or_true])
 ·exact u1 h.2 d ((hm.ds j c k n e d).2 hd) ((hm.lk i f g hi a d).2 m)
structure LsRel(ops:Array Oper)(ls:Nat)(listed:Array Bool):Prop where
 size:listed.size=ops.size
 bit:∀j,listed.getD j false=ls.testBit j
theorem LsRel.start:LsRel ops 0 (jH ops.size false):=⟨by simp,fun j=>by
 rw[Nat.zero_testBit,bZ]
 by_cases h:j<ops.size<;>simp[h]⟩
theorem LsRel.put{ls:Nat}{a:Array Bool}(h:LsRel ops ls a){i:Nat}(hi:i<ops.size):LsRel ops (bU ls (eB i)) (a.setIfInBounds i true):=by
 refine⟨by simp[h.size],fun j=>?_⟩
 rw[jQ,sB,←h.bit];by_cases e:i=j
 ·subst e;simp[h.size,hi]
 ·simp[e,cX e]
theorem LsRel.unlisted{ls:Nat}{a:Array Bool}(h:LsRel ops ls a){i:Nat}(hi:i<ops.size):a.getD i true=ls.testBit i:=by
 rw[←h.bit];have:i<a.size:=by rw[h.size];exact hi
 simp[this]
theorem yX{ms:List DM}(hm:MsOk ops ms){ls:Nat}{a:Array Bool}(h:LsRel ops ls a){j:Nat}:j∈Region.ready .any ops a↔∃m,ms[j]? =some m∧ls.testBit j=false∧AI m ls=true:=by
 rw[mem_ready];constructor
 ·rintro⟨n,o,q,k⟩
  have c:j<ops.size:=(bD.1 q).1;have d:j<ms.length:=by rw[hm.len];exact c
  refine⟨ms[j],au d,by rw[←h.unlisted c];exact n,?_⟩
  unfold AI;have:fX (ms[j]).am ls=(ms[j]).am:=by
   apply Nat.eq_of_testBit_eq;intro t;have f:(fX (ms[j]).am ls).testBit t=((ms[j]).am.testBit t&&ls.testBit t):=g3 _ _ t;rw[f];cases ht:(ms[j]).am.testBit t with
   |false=>rfl
   |true=>
    rw[hm.am j o _ q (au d)]at ht;unfold fE at ht;obtain⟨e,p,i⟩:=bF.1 ht;simp only[aO]at i;have:=k e (by simpa using p) i.2;rw[az i.1,h.bit]at this;rw[this];rfl
  rw[this];exact mF _
 ·rintro⟨m,g,n,s⟩
  have c:j<ops.size:=by rw[←hm.len];exact(bj.1 g).1
  refine⟨by rw[h.unlisted c];exact n,ops[j],fI c,fun e p i=>?_⟩
  rw[h.bit];refine HH s e.on ?_;rw[hm.am j _ m (fI c) g];unfold fE;exact bF.2 ⟨e,by simpa using p,by simp[i]⟩
theorem mL(ls:Nat):∀(l:List DM) (j0 j:Nat),j∈im ls l j0↔∃k m,l[k]? =some m∧j=j0+k∧ls.testBit j=false∧AI m ls=true
 | [],j0,j=>by simp[show im ls [] j0= []from rfl]
 |m::l,j0,j=>by
  have hc:im ls (m::l) j0=bif !(tb ls j0)&&AI m ls then j0::im ls l (dK j0)else im ls l (dK j0):=rfl;have f:=mL ls l (j0+1) j;rw[hc,sY];have step:(∃k d,(m::l)[k]? =some d∧j=j0+k∧ls.testBit j=false∧AI d ls=true)↔(j=j0∧ls.testBit j0=false∧AI m ls=true)∨j∈im ls l (j0+1):=by
   rw[f];constructor
   ·rintro⟨k,d,e,rfl,c,a⟩
    cases k with
    |zero=>simp only[cI,bv.injEq]at e;subst e;exact .inl ⟨rfl,c,a⟩
    |succ k=>exact .inr ⟨k,d,by simpa using e,by omega,c,a⟩
   ·rintro(⟨rfl,c,a⟩|⟨k,d,e,rfl,c,a⟩)
    ·exact⟨0,m,rfl,rfl,c,a⟩
    ·exact⟨k+1,d,by simpa using e,by omega,c,a⟩
  rw[step];cases hb:(!(ls.testBit j0)&&AI m ls)with
  |true=>
   simp only[aO,Bool.not_eq_true']at hb;rw[cond_true,ao];simp[hb.1,hb.2]
  |false=>
   rw[cond_false];constructor
   ·exact .inr
   ·rintro(⟨_,c,a⟩|h)
    ·rw[c,a]at hb;cases hb
    ·exact h
theorem iK{ms:List DM}(hm:MsOk ops ms){ls:Nat}{a:Array Bool}(h:LsRel ops ls a){j:Nat}:j∈Region.ready .any ops a↔j∈im ls ms 0:=by
 rw[yX hm h,mL];constructor
 ·rintro⟨m,e,c,d⟩;exact⟨j,m,e,by omega,c,d⟩
 ·rintro⟨k,m,e,rfl,c,d⟩;exact⟨m,by simpa using e,c,d⟩
theorem qX:∀{a b:List Nat},pu a b=true→a=b
 | [],[],_=>rfl
 | [],_::_,h=>by cases h
 |_::_,[],h=>by cases h
 |a::as,b::bs,h=>by
  simp only[pu,aO]at h;rw[az h.1,qX h.2]
end Go.Lift
namespace Go.Lift
open Go
variable {P:Program} {ro:Option Nat} {n:Nat} {ops:Array Oper} {Q:Exit→Act→World→Prop}
theorem sW{m:Nat}{p:Nat→Bool}(hm:∀j,m.testBit j=true→p j=true):∀(l:List DM) (j0:Nat),(∀j x,l[j]? =some x→p (j0+j)=true→∀k,x.am.testBit k=true→p k=true)→∀k,(EZ m l j0).testBit k=true→p k=true
 | [],_,_,k,h=>hm k h
 |x::l,j0,hl,k,h=>by
  have hc:EZ m (x::l) j0=bif tb m j0 then bU x.am (EZ m l (dK j0))else EZ m l (dK j0):=rfl;have a:=sW hm l (j0+1) (fun j y c d=>hl (j+1) y (by simpa using c) (by rw[show j0+(j+1)=j0+1+j by omega];exact d)) k
  rw[hc,sY]at h;cases hb:m.testBit j0 with
  |true=>
   rw[hb,cond_true,jQ,fQ]at h;rcases h with h|h
   ·exact hl 0 x rfl (hm _ hb) k h
   ·exact a h
  |false=>
   rw[hb,cond_false]at h;exact a h
theorem sV{m k:Nat}(h:m.testBit k=true):∀(l:List DM) (j0:Nat),(EZ m l j0).testBit k=true
 | [],_=>h
 |x::l,j0=>by
  have hc:EZ m (x::l) j0=bif tb m j0 then bU x.am (EZ m l (dK j0))else EZ m l (dK j0):=rfl;have a:=sV h l (j0+1);rw[hc];cases tb m j0 with
  |true=>rw[cond_true,jQ,fQ];exact .inr a
  |false=>exact a
def Shut(ms:List DM)(a:Array Bool):Prop:=∀j x,ms[j]? =some x→a.getD j false=true→∀k,x.am.testBit k=true→a.getD k false=true
theorem EH{ms:List DM}{a:Array Bool}(e:Shut ms a){m:Nat}(hm:∀j,m.testBit j=true→a.getD j false=true){k:Nat}(h:(tD ms m).testBit k=true):a.getD k false=true:=by
 have c:∀j x,ms[j]? =some x→(fun k=>a.getD k false) (0+j)=true→∀k,x.am.testBit k=true→(fun k=>a.getD k false) k=true:=fun j x hx d=>e j x hx (by rw[aw]at d;exact d)
 unfold tD at h;exact sW (p:=fun k=>a.getD k false) (sW (sW (sW hm ms 0 c) ms 0 c) ms 0 c) ms 0 c k h
theorem zq{ms:List DM}{m k:Nat}(h:m.testBit k=true):(tD ms m).testBit k=true:=by
 unfold tD;exact sV (sV (sV (sV h ms 0) ms 0) ms 0) ms 0
noncomputable abbrev rel(ms:List DM)(i:Nat)(L:l7):l7:=s9 (tD ms (Ay ms i)) L
theorem gi{m:Nat}{x:Nat×(ac→Prop)}:∀{L:l7},x∈s9 m L↔x∈L∧tb m x.1=false
 | []=>by simp[s9]
 |(k,S)::L=>by
  have c:=gi (m:=m) (x:=x) (L:=L);simp only[s9];cases hk:tb m k with
  |true=>
   rw[cond_true,c,ao];constructor
   ·exact fun h=>⟨.inr h.1,h.2⟩
   ·rintro⟨h|h,a⟩
    ·subst h;rw[hk]at a;cases a
    ·exact⟨h,a⟩
  |false=>
   rw[cond_false,ao,c,ao];constructor
   ·rintro(h|h)
    ·subst h;exact⟨.inl rfl,hk⟩
    ·exact⟨.inr h.1,h.2⟩
   ·rintro⟨h|h,a⟩
    ·exact .inl h
    ·exact .inr ⟨h,a⟩
def E9(ms:List DM)(ro:Option Nat)(n:Nat)(P:Program)(ops:Array Oper)(Q:Exit→Act→World→Prop):Nat→l7→Array Bool→Act→World→Prop
 |0,_,listed,a,w=>Region.ready .any ops listed= []∧Q .normal a w
 |f+1,L,listed,a,w=>(Region.ready .any ops listed= []→Q .normal a w)∧
  ∀i∈Region.ready .any ops listed,∀o,ops[i]? =some o→
   wpOpIn (FW ro) n P ops Q i (fun a' c=>(∀x∈rel ms i L,x.2 c.heap)∧E9 ms ro n P ops Q f (rel ms i L) (listed.setIfInBounds i true) a' c) a w
theorem ql{o:Oper}{x:Nat×(ac→Prop)}:∀{L:l7},x∈j5 o L↔x∈L∧fE o x.1=false
 | []=>by simp[j5]
 |(k,S)::L=>by
  have c:=ql (o:=o) (x:=x) (L:=L);simp only[j5];cases hk:fE o k with
  |true=>
   rw[cond_true,c,ao];constructor
   ·exact fun h=>⟨.inr h.1,h.2⟩
   ·rintro⟨h|h,a⟩
    ·subst h;rw[hk]at a;cases a
    ·exact⟨h,a⟩
  |false=>
   rw[cond_false,ao,c,ao];constructor
   ·rintro(h|h)
    ·subst h;exact⟨.inl rfl,hk⟩
    ·exact⟨.inr h.1,h.2⟩
   ·rintro⟨h|h,a⟩
    ·exact .inl h
    ·exact .inr ⟨h,a⟩
theorem Eg{a:Array Bool}{i:Nat}(h:i∈Region.ready .any ops a):∃o,ops[i]? =some o:=by
 obtain⟨_,o,c,_⟩:=mem_ready.1 h;exact⟨o,c⟩
theorem Dp{ms:List DM}:∀(f:Nat) (L:l7) (listed:Array Bool) (a:Act) (w:World),E9 ms ro n P ops Q f L listed a w→wpAnyIn (FW ro) n P .any ops Q f listed a w
 |0,_,_,_,_,h=>h
 |f+1,L,listed,a,w,h=>⟨h.1,fun i hi=>by
  obtain⟨o,d⟩:=Eg hi
  exact wpOpIn_mono (fun a' c h'=>Dp f _ _ a' c h'.2) (h.2 i hi o d)⟩
theorem oM{ms:List DM}:∀(f:Nat) (L L':l7) (listed:Array Bool) (a:Act) (w:World),(∀x∈L',x∈L∨∀h,x.2 h)→E9 ms ro n P ops Q f L listed a w→E9 ms ro n P ops Q f L' listed a w
 |0,_,_,_,_,_,_,h=>h
 |f+1,L,L',listed,a,w,hs,h=>⟨h.1,fun i hi o e=>by
  have c:∀x∈rel ms i L',x∈rel ms i L∨∀h,x.2 h:=fun x hx=>(hs x (gi.1 hx).1).imp (fun h=>gi.2 ⟨h,(gi.1 hx).2⟩) id
  exact wpOpIn_mono (fun a' d h'=>⟨fun x hx=>(c x hx).elim (h'.1 x) fun h=>h _,oM f _ _ _ a' d c h'.2⟩) (h.2 i hi o e)⟩
def YG(P:Program)(ops:Array Oper)(S:ac→Prop)(o:Oper)(v:Value)(a:Act):Prop:=
 (Region.wanted o (yielded ops a.tmps)=true∧∀w:World,S w.heap→(execOp a.eval o).run P w=.ok (.value v) w)∨
 (Region.wanted o (yielded ops a.tmps)=false∧v=undef)
theorem YG.wpOp{S:ac→Prop}{i:Nat}{o:Oper}{v:Value}{a:Act}(hi:ops[i]? =some o) (hd:∀c,o.op≠ .defer c) (g:YG P ops S o v a) {K:Act→World→Prop} {w:World} (e:S w.heap)
  (h:K (a.put o.dst v) w):wpOpIn (FW ro) n P ops Q i K a w:=by
 unfold wpOpIn;simp only[hi];rcases g with⟨d,f⟩|⟨d,rfl⟩
 ·simp only[d,if_true]
  refine⟨fun _ _=>trivial,?_⟩
  rw[Oper.semAt_eq _ _ _ hd,f w e];exact h
 ·simp only[d,Bool.false_eq_true,if_false];exact⟨fun _ _=>trivial,h⟩
theorem YG.of_same{S:ac→Prop}{o:Oper}{v:Value}{a a':Act}(d:YG P ops S o v a)(c:execOp a'.eval o=execOp a.eval o)
  (e:Region.wanted o (yielded ops a'.tmps)=Region.wanted o (yielded ops a.tmps)):YG P ops S o v a':=by
 unfold YG at*;rw[c,e];exact d
theorem B2{S:ac→Prop}{j:Nat}{g i:Oper}{v:Value}(F:ops[j]? =some i)
  (z:(∀d,g.dst=some d→d∉i.looksAt ops)∧(∀d,g.dst=some d→i.dst≠some d)∧(∀d,i.dst=some d→d∉g.looksAt ops))
  (t:∀cs b,g.op≠ .select cs b) (A:∀cs b,i.op≠ .select cs b) (s:∀c,i.op≠ .defer c)
  (D:∀e a w,(∀c,e=.panic c→False)∨¬Q e a w) {K:Act→World→Prop} {a:Act} {w:World}
  (m:YG P ops S g v a) (h:wpOpIn (FW ro) n P ops Q j K (a.put g.dst v) w):
  wpOpIn (FW ro) n P ops Q j (fun a' B=>YG P ops S g v a'∧K (a'.put g.dst v) B) a w:=by
 obtain⟨C,o,y⟩:=z;have p:∀c a w,¬Q (.panic c) a w:=fun c a w E=>(D (.panic c) a w).elim (fun h=>h c rfl) fun h=>h E
 have keep:∀(a:Act),YG P ops S g v a→∀u,YG P ops S g v (a.put i.dst u):=fun a m u=>
  m.of_same (execOp_put g t a i.dst u y) (wanted_put g a i.dst u y)
 unfold wpOpIn at*;simp only[F]at*;rw[wanted_put i a g.dst v C]at h;split
 ·rename_i hw
  simp only[hw,if_true]at h;refine⟨fun _ _=>trivial,?_⟩
  have h:=h.2;rw[Oper.semAt_eq _ _ _ s,execOp_put i A a g.dst v C]at h;rw[Oper.semAt_eq _ _ _ s];generalize (execOp a.eval i).run P w=r at*;cases r with
  |ok x B=>
   cases x<;>simp only[Oper.uponIn]at h⊢
   case value u=>exact⟨keep a m u,by rw[←Act.put_comm a v u o];exact h⟩
   case skip=>exact⟨keep a m _,by rw[←Act.put_comm a v undef o];exact h⟩
   case defer d=>
    refine⟨(m.of_same (a':={a with defers:=d::a.defers}) rfl rfl).of_same (execOp_put g t _ i.dst undef y) (wanted_put g _ i.dst undef y),?_⟩;rw[←Act.put_comm _ v undef o,←Act.put_defers];exact h
   case enter f args=>
    refine⟨h.1,CallsIn.mono h.2 fun e q k=>?_⟩
    cases e with
    |returned u=>exact⟨keep a m u,by rw[←Act.put_comm a v u o];exact k⟩
    |panicked c=>exact(p _ _ _ k).elim
    |outgrown=>exact k
   case row row args=>exact⟨h.1,RowsIn.mono h.2 fun u q k=>⟨keep a m u,by rw[←Act.put_comm a v u o];exact k⟩⟩
   case round l f tmps assign body=>
    refine⟨h.1,RoundIn.mono h.2 fun e q k=>?_⟩
    cases e with
    |returned u=>exact⟨keep a m u,by rw[←Act.put_comm a v u o];exact k⟩
    |panicked c=>exact(p _ _ _ k).elim
    |outgrown=>exact k
  |halt x B=>
   cases x<;>simp only[Oper.uponIn]at h⊢
   case panic u=>exact(p _ _ _ h).elim
 ·rename_i hw
  simp only[hw]at h;exact⟨fun _ _=>trivial,keep a m _,by rw[←Act.put_comm a v undef o];exact h.2⟩
theorem Ax{ms:List DM}(hm:MsOk ops ms){i:Nat}{o:Oper}(a:ops[i]? =some o) (k:Nat):(Ay ms i).testBit k=fE o k:=by
 have hi:i<ms.length:=by rw[hm.len];exact(bD.1 a).1
 unfold Ay;rw[au hi];exact hm.am i o _ a (au hi) k
theorem A7{ms:List DM}(hm:MsOk ops ms){a:Array Bool}{j:Nat}(m:j∈Region.ready .any ops a)(k:Nat)(d:(Ay ms j).testBit k=true):a.getD k false=true:=by
 obtain⟨_,o,i,c⟩:=mem_ready.1 m;rw[Ax hm i]at d;unfold fE at d;obtain⟨e,g,f⟩:=bF.1 d;simp only[aO]at f;have:=c e (by simpa using g) f.2;rw[az f.1]at this;exact this
theorem BA{a:Array Bool}{j k:Nat}(h:a.getD k false=true):(a.setIfInBounds j true).getD k false=true:=by
 by_cases e:j=k
 ·subst e
  rw[bZ]at h⊢;rcases cj j a.size with h'|h'
  ·simp[h']
  ·simp[gP h']at h
 ·rw[bZ,cX e,←bZ]
  exact h
theorem Shut.put{ms:List DM}(hm:MsOk ops ms){a:Array Bool}(g:Shut ms a){j:Nat}(f:j∈Region.ready .any ops a):Shut ms (a.setIfInBounds j true):=by
 intro i x hx c k d;by_cases e:j=i
 ·subst e
  refine BA (A7 hm f k ?_);unfold Ay;rw[hx];exact d
 ·rw[bZ,cX e,←bZ]at c
  exact BA (g i x hx c k d)
theorem wS{ms:List DM}(hm:MsOk ops ms){S:ac→Prop}{i:Nat}{A:Oper}{v:Value}(hi:ops[i]? =some A) (p:∀(j:Nat) (o:Oper),ops[j]? =some o→(∀cs b,o.op≠ .select cs b)∧(∀c,o.op≠ .defer c))
  (hQ:∀e a w,(∀c,e=.panic c→False)∨¬Q e a w):
  ∀(q:Nat) (L:l7) (f:Array Bool) (a:Act) (w:World),
   (∀j u,ops[j]? =some u→j≠i→f.getD j true=false→fE u i=false→
    (∀d,A.dst=some d→d∉u.looksAt ops)∧(∀d,A.dst=some d→u.dst≠some d)∧(∀d,u.dst=some d→d∉A.looksAt ops))→
   Shut ms f→i∈Region.ready .any ops f→YG P ops S A v a→S w.heap→(∀x∈L,x.2 w.heap)→
   E9 ms ro n P ops Q q ((i,S)::L) (f.setIfInBounds i true) (a.put A.dst v) w→E9 ms ro n P ops Q (q+1) L f a w:=by
 intro q;induction q with
 |zero=>
  intro L f a w _ _ C V W X H;refine⟨fun h=>(by rw[h]at C;cases C),fun j G u g=>?_⟩
  by_cases m:j=i
  ·subst m
   rw[hi]at g;cases g;exact V.wpOp hi (p _ _ hi).2 W ⟨fun x hx=>X x (gi.1 hx).1,H⟩
  ·have:=ready_mono G m
   rw[H.1]at this;cases this
 |succ q ih=>
  intro L f a w t N C V W X H;refine⟨fun h=>(by rw[h]at C;cases C),fun j G u g=>?_⟩
  by_cases m:j=i
  ·subst m
   rw[hi]at g;cases g;exact V.wpOp hi (p _ _ hi).2 W ⟨fun x hx=>X x (gi.1 hx).1,oM _ _ _ _ _ _ (fun x hx=>.inl (aC _ (gi.1 hx).1)) H⟩
  ·have s:=H.2 j (ready_mono G m) u g
   obtain⟨D,oj',B,R⟩:=mem_ready.1 G;rw[g]at B;cases B;have O:fE u i=false:=by
    cases z:fE u i with
    |false=>rfl
    |true=>
     unfold fE at z;obtain⟨e,he,z⟩:=bF.1 z;simp only[aO]at z;have s:=R e (by simpa using he) z.2;rw[az z.1]at s;have K:=(mem_ready.1 C).1;rcases cj i f.size with h'|h'
     ·simp[h']at K s;rw[K]at s;cases s
     ·simp[gP h']at s
   have E:tb (tD ms (Ay ms j)) i=false:=by
    cases z:tb (tD ms (Ay ms j)) i with
    |false=>rfl
    |true=>
     rw[sY]at z;have s:=EH N (A7 hm G) z;have K:=(mem_ready.1 C).1;rcases cj i f.size with h'|h'
     ·simp[h']at K s;rw[K]at s;cases s
     ·simp[gP h']at s
   have I:rel ms j ((i,S)::L)=(i,S)::rel ms j L:=by simp only[rel,s9,E,cond_false]
   rw[I]at s;have h2:=B2 g (t j u g m D O) (p _ _ hi).1 (p _ _ g).1 (p _ _ g).2 hQ V s;have y:∀k F,ops[k]? =some F→k≠i→(f.setIfInBounds j true).getD k true=false→fE F i=false→
     (∀d,A.dst=some d→d∉F.looksAt ops)∧(∀d,A.dst=some d→F.dst≠some d)∧(∀d,F.dst=some d→d∉A.looksAt ops):=fun k F hk Y T Z=>by
    refine t k F hk Y ?_ Z;by_cases J:j=k
    ·subst J;exact D
    ·rw[getD_set_ne true J]at T;exact T
   refine wpOpIn_mono (fun a' w' U=>⟨fun x hx=>U.2.1 x (aC _ hx),ih (rel ms j L) (f.setIfInBounds j true) a' w' y (N.put hm G) (ready_mono C (Ne.symm m)) U.1 (U.2.1 _ (aq ..)) (fun x hx=>U.2.1 x (aC _ hx)) ?_⟩) h2
   rw[Array.setIfInBounds_comm _ _ m];exact U.2.2
theorem mA{h:ac}{R:Prop}:∀{L:l7},mS L h R↔(∀x∈L,x.2 h)∧R
 | []=>by simp[mS]
 |(k,S)::L=>by
  simp only[mS,mA (L:=L),ao,forall_eq_or_imp,and_assoc]
theorem E8{ms:List DM}{f:Nat}{L:l7}{c:Array Bool}{a:Act}{w:World}(d:Region.ready .any ops c= [])(h:Q .normal a w):E9 ms ro n P ops Q f L c a w:=by
 cases f with
 |zero=>exact⟨d,h⟩
 |succ f=>exact⟨fun _=>h,by rw[d];simp⟩
def left(ops:Array Oper)(ls:Nat):Nat:=((dB ops.size).filter fun j=> !ls.testBit j).length
theorem qs{ls i:Nat}(hi:i<ops.size)(g:ls.testBit i=false):left ops (bU ls (eB i))+1=left ops ls:=by
 have key:∀l:List Nat,l.Nodup→i∈l→(l.filter fun j=> !(bU ls (eB i)).testBit j).length+1=(l.filter fun j=> !ls.testBit j).length:=by
  intro l;induction l with
  |nil=>intro _ h;cases h
  |cons x l ih=>
   intro f hm;rw[List.nodup_cons]at f;by_cases hx:x=i
   ·subst hx
    have a:(l.filter fun j=> !(bU ls (eB x)).testBit j)=l.filter fun j=> !ls.testBit j:=by
     apply List.filter_congr;intro y k;have:x≠y:=fun e=>f.1 (e▸k)
     rw[jQ,sB,decide_eq_false this,Bool.or_false]
    have d:(bU ls (eB x)).testBit x=true:=by rw[jQ,sB];simp
    rw[cJ,cJ,d,g,a];rfl
   ·have c:i∈l:=by rcases ao.1 hm with h|h;exact absurd h.symm hx;exact h
    have d:(bU ls (eB i)).testBit x=ls.testBit x:=by rw[jQ,sB,decide_eq_false (Ne.symm hx),Bool.or_false]
    have:=ih f.2 c;rw[cJ,cJ,d];cases ls.testBit x with
    |true=>exact this
    |false=>exact congrArg (· +1) this
 exact key _ List.nodup_range (List.mem_range.2 hi)
theorem EB{N:Nat}{a:List Oper}{ms:List DM}{ls:Nat}{L:l7}{d:pi}{K:bE→ac→Prop}{r:bE}{c:ac}:∀{l:DA},js P N a ms l true ls L d K r c→∃i,i∈uP l
 | .done,h=>h.elim
 | .take i rest,h=>by
  exfalso;have hc:js P N a ms (.take i rest) true ls L d K r c=(match a[i]?,ms[i]? with|some _,some _=>False|_,_=>False):=rfl
  rw[hc]at h;split at h<;>exact h
 | .all _,h=>h.elim
 | .pick i _ _,_=>⟨i,aq ..⟩
 | .last i _,_=>⟨i,aq ..⟩
 | .lastT i _,_=>⟨i,aq ..⟩
 | .split ..,h=>h.elim
def Dh(ro:Option Nat)(n:Nat)(P:Program)(ops:Array Oper)(Q:Exit→Act→World→Prop)(N:Nat)(ms:List DM)(W:Nat→Prop)(g:Act)(f:World)(K:bE→ac→Prop)(c:DA):Prop:=
 ∀(m:Bool) (ls:Nat) (L:l7) (d:pi) (r:bE) (a:Act) (w:World) (listed:Array Bool) (fuel:Nat),
  js P N ops.toList ms c m ls L d K r w.heap→Agree N r a→DecOk d r→Fr W g f a w→LsRel ops ls listed→Shut ms listed→(∀x∈L,x.2 w.heap)→
  (m=false→left ops ls≤fuel→E9 ms ro n P ops Q fuel L listed a w)∧
  (m=true→left ops ls≤fuel+1→∀i∈uP c,i∈im ls ms 0→∀o,ops[i]? =some o→
   wpOpIn (FW ro) n P ops Q i (fun a' e=>(∀x∈rel ms i L,x.2 e.heap)∧E9 ms ro n P ops Q fuel (rel ms i L) (listed.setIfInBounds i true) a' e) a w)
theorem A0{N:Nat}{ms:List DM}(hm:MsOk ops ms){W:Nat→Prop}(hW:∀o∈ops.toList,∀d,o.dst=some d→W d){a0:Act}{w0:World}{K:bE→ac→Prop}
  (hQ:∀r a w,Agree N r a→Fr W a0 w0 a w→K r w.heap→Q .normal a w)(hnp:∀e a w,(∀c,e=.panic c→False)∨¬Q e a w)(da:DA):
  Dh ro n P ops Q N ms W a0 w0 K da:=by
 have one:∀(i:Nat) (q:DA)
   (_:Dh ro n P ops Q N ms W a0 w0 K q)
   (ls:Nat) (L:l7) (d:pi) (r:bE) (a:Act) (w:World) (f:Array Bool) (p:Nat),
   Ec P N ops.toList i L d r w.heap (fun L' d' F h'=>js P N ops.toList ms q false (bU ls (eB i)) L' d' K F h')→Agree N r a→DecOk d r→Fr W a0 w0 a w→LsRel ops ls f→Shut ms f→
   left ops ls≤p+1→i∈im ls ms 0→∀o,ops[i]? =some o→
    wpOpIn (FW ro) n P ops Q i (fun a' w'=>(∀x∈rel ms i L,x.2 w'.heap)∧E9 ms ro n P ops Q p (rel ms i L) (f.setIfInBounds i true) a' w') a w:=by
  intro i q Z ls L d r a w f p g D hd O A s B hr o z;have C:i<ops.size:=(bD.1 z).1;obtain⟨k,mm,hk,hki,R,_⟩:=(mL ls ms 0 i).1 hr;unfold Ec at g;rw[aJ,z]at g;simp only at g;cases hw:fC ops.toList d o with
  |none=>rw[hw]at g;exact g.elim
  |some b=>
   rw[hw]at g;cases b with
   |false=>exact g.elim
   |true=>
    simp only at g;cases hq:pS P o.op with
    |true=>
     rw[hq,cond_true]at g;unfold wpOpIn;rw[z];simp only[jr hw D hd,if_true];obtain⟨v,S,hK,hS,_,Y⟩:=uI D g d hd;refine ly (K:=fun u h'=>u=v∧h'=w.heap) (vD g) (.inl ⟨v,w,Y w hS,Tame.refl w,rfl,rfl⟩) ?_
     rintro u w' ht ⟨rfl,hw'⟩;obtain⟨F,I,J,H⟩:=nO (dv:=.x) hK D hd trivial;obtain⟨hh,hs'⟩:=mA.1 I;have E:o∈ops.toList:=bw (by rw[aJ];exact z);have T:=qs C R;have G:∀x∈rel ms i L,x∈j5 o L:=fun x hx=>ql.2 ⟨(gi.1 hx).1,by
      cases hb:fE o x.1 with
      |false=>rfl
      |true=>
        have:=(gi.1 hx).2
        rw[sY,zq (by rw[Ax hm z];exact hb)]at this;cases this⟩
     rw[←hw']at hh hs';exact⟨fun x hx=>hh x (G x hx),oM _ _ _ _ _ _ (fun x hx=>.inl (G x hx)) ((Z false _ _ _ F _ w' _ p hs' J H (O.put (hW o E) u ht) (A.put C) (s.put hm ((iK hm A).2 hr)) hh).1 rfl (by omega))⟩
    |false=>
     rw[hq,cond_false]at g;unfold wpOpIn;rw[z];simp only[jr hw D hd,if_true];refine ly (qd g) (uz D g) ?_;intro v w' ht hK;obtain⟨F,I,J,H⟩:=nO (dv:=.x) hK D hd trivial;obtain⟨hh,hs'⟩:=mA.1 I;have E:o∈ops.toList:=bw (by rw[aJ];exact z);have T:=qs C R;have G:∀x∈rel ms i L,x∈j5 o L:=fun x hx=>ql.2 ⟨(gi.1 hx).1,by
      cases hb:fE o x.1 with
      |false=>rfl
      |true=>
        have:=(gi.1 hx).2
        rw[sY,zq (by rw[Ax hm z];exact hb)]at this;cases this⟩
     exact⟨fun x hx=>hh x (G x hx),oM _ _ _ _ _ _ (fun x hx=>.inl (G x hx)) ((Z false _ _ _ F _ w' _ p hs' J H (O.put (hW o E) v ht) (A.put C) (s.put hm ((iK hm A).2 hr)) hh).1 rfl (by omega))⟩
 have oneT:∀(i:Nat) (q:DA)
   (_:Dh ro n P ops Q N ms W a0 w0 K q)
   (ls:Nat) (L:l7) (d:pi) (r:bE) (a:Act) (w:World) (f:Array Bool) (p:Nat),
   DB P N ops.toList ms i L d r w.heap (fun L' d' F h'=>js P N ops.toList ms q false (bU ls (eB i)) L' d' K F h')→Agree N r a→DecOk d r→Fr W a0 w0 a w→LsRel ops ls f→Shut ms f→
   left ops ls≤p+1→i∈im ls ms 0→∀o,ops[i]? =some o→
    wpOpIn (FW ro) n P ops Q i (fun a' w'=>(∀x∈rel ms i L,x.2 w'.heap)∧E9 ms ro n P ops Q p (rel ms i L) (f.setIfInBounds i true) a' w') a w:=by
  intro i q Z ls L d r a w f p g D hd O A s B hr o z;have C:i<ops.size:=(bD.1 z).1;obtain⟨k,mm,hk,hki,R,_⟩:=(mL ls ms 0 i).1 hr;unfold DB at g;rw[aJ,z]at g;simp only at g;cases hw:fC ops.toList d o with
  |none=>rw[hw]at g;exact g.elim
  |some b=>
   rw[hw]at g;cases b with
   |false=>exact g.elim
   |true=>
    simp only at g;cases hq:pS P o.op with
    |true=>rw[hq]at g;exact g.elim
    |false=>
     rw[hq,cond_false]at g;unfold wpOpIn;rw[z];simp only[jr hw D hd,if_true];refine ly (qd g) (uz D g) ?_;intro v w' ht hK;obtain⟨F,I,J,H⟩:=nO (dv:=.x) hK D hd trivial;obtain⟨hh,hs'⟩:=mA.1 I;have E:o∈ops.toList:=bw (by rw[aJ];exact z);have T:=qs C R;exact⟨hh,(Z false _ _ _ F _ w' _ p hs' J H (O.put (hW o E) v ht) (A.put C) (s.put hm ((iK hm A).2 hr)) hh).1 rfl (by omega)⟩
 induction da with
 |done=>
  intro m ls L d r a w f p g D hd O A s V;cases m with
  |true=>exact g.elim
  |false=>
   refine⟨fun _ _=>?_,fun h=>by cases h⟩
   have hc:js P N ops.toList ms .done false ls L d K r w.heap=bif pu (im ls ms 0) []then K r w.heap else False:=rfl;rw[hc]at g;cases hb:pu (im ls ms 0) []with
   |false=>rw[hb]at g;exact g.elim
   |true=>
    rw[hb]at g;have hnil:Region.ready .any ops f= []:=by
     apply List.eq_nil_iff_forall_not_mem.2;intro j U;rw[iK hm A,qX hb]at U;cases U
    exact E8 hnil (hQ r a w D O g)
 |take i q Z=>
  intro m ls L d r a w f p g D hd O A s V;cases m with
  |true=>
   exfalso;have hc:js P N ops.toList ms (.take i q) true ls L d K r w.heap=(match ops.toList[i]?,ms[i]? with|some _,some _=>False|_,_=>False):=rfl
   rw[hc]at g;split at g<;>exact g
  |false=>
   refine⟨fun _ B=>?_,fun h=>by cases h⟩
   have hc:js P N ops.toList ms (.take i q) false ls L d K r w.heap=(match ops.toList[i]?,ms[i]? with
    |some o,some mi=>bif xa mi i ls ops.toList.length then
      (match fC ops.toList d o with
       |none=>False
       |some false=>sx N o undef r fun F=>js P N ops.toList ms q false (bU ls (eB i)) L (mC d o .u) K F w.heap
       |some true=>bif pS P o.op then
          uv P none o.op r (fun v S=>sx N o v r fun F=>match S with
            |none=>js P N ops.toList ms q false (bU ls (eB i)) L (mC d o (AJ d o.op)) K F w.heap
            |some S=>js P N ops.toList ms q false (bU ls (eB i)) ((i,S)::L) (mC d o (AJ d o.op)) K F w.heap) w.heap
          else False)
     else False
    |_,_=>False):=rfl
   rw[hc]at g;split at g
   ·rename_i o mi z hmi
    rw[aJ]at z;cases htk:xa mi i ls ops.toList.length with
    |false=>rw[htk]at g;exact g.elim
    |true=>
     rw[htk,cond_true]at g;unfold xa at htk;simp only[aO,Bool.not_eq_true',sY]at htk;obtain⟨⟨hun,hrd⟩,hfr⟩:=htk;have C:i<ops.size:=(bD.1 z).1;have y:i∈Region.ready .any ops f:=(yX hm A).2 ⟨mi,hmi,hun,hrd⟩;have T:=qs (ops:=ops) C hun;obtain⟨f',rfl⟩:∃f',p=f'+1:=⟨p-1,by omega⟩
     have E:o∈ops.toList:=bw (by rw[aJ];exact z);have hcov:∀j,j<ops.size→ls.testBit j=true∨mi.fr.testBit j=true:=by
      intro j U;have h0:=az hfr;have hpb:(qS (eB ops.toList.length)).testBit j=true:=by
        have:qS (eB ops.toList.length)=2^ops.toList.length-1:=rfl;rw[this,Nat.testBit_two_pow_sub_one];simpa using U
      have hand:(fX (bU ls mi.fr) (qS (eB ops.toList.length))).testBit j=((bU ls mi.fr).testBit j&&(qS (eB ops.toList.length)).testBit j):=g3 _ _ j;rw[h0,hpb,Bool.and_true,jQ]at hand;exact(Bool.or_eq_true_iff).1 hand.symm
     have X:∀j oj,ops[j]? =some oj→j≠i→f.getD j true=false→fE oj i=false→
        (∀d,o.dst=some d→d∉oj.looksAt ops)∧(∀d,o.dst=some d→oj.dst≠some d)∧(∀d,oj.dst=some d→d∉o.looksAt ops):=by
      intro j oj hoj hne hju hna;have U:j<ops.size:=(bD.1 hoj).1;rw[A.unlisted U]at hju;have hjm:j<ms.length:=by rw[hm.len];exact U
      have hmj:=au hjm;rcases hcov j U with h|h
      · rw[h]at hju;cases hju
      · rcases hm.free i j mi _ hmi hmj h with h|h|h
        ·exact absurd h hne
        ·rw[hm.am j oj _ hoj hmj,hna]at h;cases h
        ·exact Gv hm z hoj hmi hmj h
     cases hw:fC ops.toList d o with
     |none=>rw[hw]at g;exact g.elim
     |some b=>
      rw[hw]at g;have hwd:=jr hw D hd;cases b with
      |false=>
        obtain⟨F,I,J,H⟩:=nO (dv:=.u) g D hd rfl;have hy:YG P ops (fun _=>True) o undef a:=.inr ⟨hwd,rfl⟩
        refine wS hm z hm.nosel hnp f' L f a w X s y hy trivial V ?_;refine oM _ L _ _ _ _ (fun x hx=>(ao.1 hx).elim (fun e=>.inr fun h=>by rw[e];trivial) .inl) ?_
        exact(Z false _ _ _ F _ w _ f' I J H (O.put (hW o E) undef (Tame.refl w)) (A.put C) (s.put hm y) V).1 rfl (by omega)
      |true=>
        simp only at g;cases hq:pS P o.op with
        |false=>rw[hq]at g;exact g.elim
        |true=>
         rw[hq,cond_true]at g;obtain⟨v,S,hK,hS,hdv,Y⟩:=uI D g d hd;obtain⟨F,I,J,H⟩:=nO hK D hd hdv;have hfr':=O.put (hW o E) v (Tame.refl w);cases S with
         |none=>
           have hy:YG P ops (fun _=>True) o v a:=.inl ⟨hwd,fun w _=>Y w trivial⟩
           refine wS hm z hm.nosel hnp f' L f a w X s y hy trivial V ?_;refine oM _ L _ _ _ _ (fun x hx=>(ao.1 hx).elim (fun e=>.inr fun h=>by rw[e];trivial) .inl) ?_
           exact(Z false _ _ _ F _ w _ f' I J H hfr' (A.put C) (s.put hm y) V).1 rfl (by omega)
         |some S=>
           have hy:YG P ops S o v a:=.inl ⟨hwd,fun w h=>Y w h⟩
           refine wS hm z hm.nosel hnp f' L f a w X s y hy hS V ?_;exact(Z false _ _ _ F _ w _ f' I J H hfr' (A.put C) (s.put hm y) (fun x hx=>(ao.1 hx).elim (fun e=>by rw[e];exact hS) (V x))).1 rfl (by omega)
   ·exact g.elim
 |all l Z=>
  intro m ls L d r a w f p g D hd O A s V;cases m with
  |true=>exact g.elim
  |false=>
   refine⟨fun _ B=>?_,fun h=>by cases h⟩
   have hc:js P N ops.toList ms (.all l) false ls L d K r w.heap=bif pu (im ls ms 0) (uP l)then js P N ops.toList ms l true ls L d K r w.heap else False:=rfl;rw[hc]at g;cases hb:pu (im ls ms 0) (uP l)with
   |false=>rw[hb]at g;exact g.elim
   |true=>
    rw[hb,cond_true]at g;obtain⟨i,hi⟩:=EB g;rw[←qX hb]at hi;have hrd:=(iK hm A (j:=i)).2 hi;obtain⟨k,mm,hk,hki,R,_⟩:=(mL ls ms 0 i).1 hi;have C:i<ops.size:=by
     have:=(bj.1 hk).1;rw[hm.len]at this;omega
    have T:=qs (ops:=ops) C R;obtain⟨f',rfl⟩:∃f',p=f'+1:=⟨p-1,by omega⟩
    refine⟨fun h=>(by rw[h]at hrd;cases hrd),fun j U o z=>?_⟩
    have hj':=(iK hm A).1 U;exact(Z true ls L d r a w f f' g D hd O A s V).2 rfl B j (by rw[←qX hb];exact hj') hj' o z
 |pick i q more ih1 ih2=>
  intro m ls L d r a w f p g D hd O A s V;cases m with
  |false=>exact g.elim
  |true=>
   refine⟨fun h=>(by cases h),fun _ B j U hjr o z=>?_⟩
   have g:Ec P N ops.toList i L d r w.heap (fun L' d' F h'=>js P N ops.toList ms q false (bU ls (eB i)) L' d' K F h')∧js P N ops.toList ms more true ls L d K r w.heap:=g
   rcases ao.1 U with rfl|U
   ·exact one _ q ih1 ls L d r a w f p g.1 D hd O A s B hjr o z
   ·exact(ih2 true ls L d r a w f p g.2 D hd O A s V).2 rfl B j U hjr o z
 |last i q Z=>
  intro m ls L d r a w f p g D hd O A s V;cases m with
  |false=>exact g.elim
  |true=>
   refine⟨fun h=>(by cases h),fun _ B j U hjr o z=>?_⟩
   have g:Ec P N ops.toList i L d r w.heap (fun L' d' F h'=>js P N ops.toList ms q false (bU ls (eB i)) L' d' K F h'):=g
   have hji:j=i:=ay.1 U;subst hji;exact one _ q Z ls L d r a w f p g D hd O A s B hjr o z
 |lastT i q Z=>
  intro m ls L d r a w f p g D hd O A s V;cases m with
  |false=>exact g.elim
  |true=>
   refine⟨fun h=>(by cases h),fun _ B j U hjr o z=>?_⟩
   have g:DB P N ops.toList ms i L d r w.heap (fun L' d' F h'=>js P N ops.toList ms q false (bU ls (eB i)) L' d' K F h'):=g
   have hji:j=i:=ay.1 U;subst hji;exact oneT _ q Z ls L d r a w f p g D hd O A s B hjr o z
 |split t yes no ih1 ih2=>
  intro m ls L d r a w f p g D hd O A s V;cases m with
  |true=>exact g.elim
  |false=>
   refine⟨fun _ B=>?_,fun h=>by cases h⟩
   have hc:js P N ops.toList ms (.split t yes no) false ls L d K r w.heap=(match gC r t with
    |some (.bool b)=>CondP b (js P N ops.toList ms yes false ls L ((t,.t)::d) K ((t,.bool true)::r) w.heap) (js P N ops.toList ms no false ls L ((t,.f)::d) K ((t,.bool false)::r) w.heap)
    |_=>False):=rfl
   rw[hc]at g;split at g
   ·rename_i b hlk
    cases b with
    |true=>exact(ih1 false ls L _ _ a w f p (g.yes rfl) (D.known hlk) (hd.known rfl) O A s V).1 rfl B
    |false=>exact(ih2 false ls L _ _ a w f p (g.no rfl) (D.known hlk) (hd.known rfl) O A s V).1 rfl B
   ·exact g.elim
end Go.Lift
namespace Go.Lift
open Go
variable {P:Program} {ro:Option Nat} {n:Nat}
theorem zc{r:bE}:∀{l:List Nat} {r0:bE},DJ r l=some r0→∀t v,gC r0 t=some v→t∈l∧gC r t=some v
 | [],r0,h,t,v,hv=>by cases h;cases hv
 |s::l,r0,h,t,v,hv=>by
  have h:(match gC r s,DJ r l with|some v,some l=>some ((s,v)::l)|_,_=>none)=some r0:=h
  split at h
  ·rename_i u l' hu hl
   cases h;by_cases e:s=t
   ·subst e;rw[fh]at hv;cases hv;exact⟨aq ..,hu⟩
   ·rw[eD u _ e]at hv
    have:=zc hl t v hv;exact⟨aC _ this.1,this.2⟩
  ·cases h
theorem uN{m:Nat}{t:Nat}{v:Value}:∀{r:bE},gC (qu m r) t=some v→m.testBit t=false∧gC r t=some v
 | [],h=>by cases h
 |(k,u)::r,h=>by
  have h:gC (bif tb m k then qu m r else(k,u)::qu m r) t=some v:=h;cases hk:tb m k with
  |true=>
   rw[hk]at h;have:=uN h;by_cases e:k=t
   ·subst e;rw[sY,this.1]at hk;cases hk
   ·rw[eD u _ e];exact this
  |false=>
   rw[hk]at h;have h:gC ((k,u)::qu m r) t=some v:=h;by_cases e:k=t
   ·subst e;rw[fh]at h⊢;rw[sY]at hk;exact⟨hk,h⟩
   ·rw[eD u _ e]at h⊢;exact uN h
theorem uy{t:Nat}:∀{l:List Oper},(Fb l).testBit t=false→¬ie t l=true
 | [],_,h=>by cases h
 |o::l,hm,h=>by
  have hm:(bU (jF o) (Fb l)).testBit t=false:=hm;rw[jQ,iC]at hm;have h:(match o.dst with|some d=>bif aV d t then true else ie t l|none=>ie t l)=true:=h
  cases hd:o.dst with
  |none=>rw[hd]at h;exact uy hm.2 h
  |some d=>
   rw[hd]at h;cases e:aV d t with
   |true=>have:=(qF o t).2 (by rw[hd,az e]);rw[hm.1]at this;cases this
   |false=>simp only[e]at h;exact uy hm.2 h
theorem Bl{a b:Option Nat}{m:Nat}(h:Jc a b=some m):∃x y,a=some x∧b=some y∧m=bU x y:=by
 cases a<;>cases b<;>cases h
 exact⟨_,_,rfl,rfl,rfl⟩
theorem Fa{t:Nat}(c:Code):∀{m:Nat},rC c=some m→m.testBit t=false→¬d6 t c=true:=by
 induction c with
 |skip=>intro m _ _ h;cases h
 |region id ops dr=>intro m h hm d;cases h;exact uy hm d
 |seq a b iha ihb=>
  intro m h hm d;obtain⟨x,y,hx,e,rfl⟩:=Bl (show Jc (rC a) (rC b)=some m from h)
  rw[jQ,iC]at hm;have d:(bif d6 t a then true else d6 t b)=true:=d;cases ha:d6 t a with
  |true=>exact iha hx hm.1 ha
  |false=>rw[ha]at d;exact ihb e hm.2 d
 |cond c a b iha ihb=>
  intro m h hm d;obtain⟨x,y,hx,e,rfl⟩:=Bl (show Jc (rC a) (rC b)=some m from h)
  rw[jQ,iC]at hm;have d:(bif d6 t a then true else d6 t b)=true:=d;cases ha:d6 t a with
  |true=>exact iha hx hm.1 ha
  |false=>rw[ha]at d;exact ihb e hm.2 d
 |block id b ih=>exact fun h hm=>ih h hm
 |loop b ih=>exact fun h hm=>ih h hm
 |rangeFunc _ _ _ _ _ _=>intro m h;cases h
 |scope b ih=>exact fun h hm=>ih h hm
 |_=>intro m _ _ h;cases h
theorem Agree.keep{N:Nat}{r f:bE}{a a':Act}{w e:World}{m:Nat}{c:Code}(h:Agree N r a)(hm:rC c=some m)(j:Fr (fun t=>d6 t c=true) a w a' e)(h':Agree N f a'):Agree N (qu m r) a':=
 ⟨h'.size,fun t v d=>by
  obtain⟨g,i⟩:=uN d
  rw[j.same t (Fa c hm g)];exact h.look t v i⟩
theorem qh{st:St}{r:bE}{f:pR (rX st)→Prop}(h:vx st r f):∃t,xh r st=some (jl (rX st) t)∧f t:=by
 unfold vx at h;split at h
 ·rename_i vs hv
  obtain⟨t,rfl,a⟩:=mY h;exact⟨t,hv,a⟩
 ·exact h.elim
theorem Agree.zip{N:Nat}{r:bE}{a:Act}(h:Agree N r a):∀{st:St} {vs:List Value} {r0:bE},xh r st=some vs→Agree N r0 a→Agree N (jC st vs r0) a
 | [],vs,r0,_,h0=>by cases vs<;>exact h0
 |(i,k)::st,vs,r0,hv,h0=>by
  unfold xh at hv;split at hv
  ·rename_i v vs' h1 h2
   cases hv;have:=Agree.zip h h2 h0;refine⟨this.size,fun t u c=>?_⟩
   by_cases e:i=t
   ·subst e
    rw[show jC ((i,k)::st) (v::vs') r0=(i,v)::jC st vs' r0 from rfl,fh]at c;cases c
    exact h.look i v h1
   ·rw[show jC ((i,k)::st) (v::vs') r0=(i,v)::jC st vs' r0 from rfl,eD v _ e]at c
    exact this.look t u c
  ·cases hv
theorem sR{t:Nat}:∀{l:List Oper} {o:Oper},o∈l→o.dst=some t→ie t l=true
 | [],_,h,_=>by cases h
 |x::l,o,h,hd=>by
  have e:ie t (x::l)=(match x.dst with|some d=>bif aV d t then true else ie t l|none=>ie t l):=rfl
  rw[e];rcases ao.1 h with rfl|h
  ·rw[hd];simp only;rw[show aV t t=true from mF t];rfl
  ·have:=sR h hd
   cases x.dst with
   |none=>exact this
   |some d=>
    simp only;cases aV d t with
    |true=>rfl
    |false=>exact this
def LWP(ro:Option Nat)(n:Nat)(P:Program)(c:Code)(Q:Exit→Act→World→Prop)(a:Act)(w:World):Prop:=
 ∀(b:Frame) (k:List Item) (cs:List Frame),b.roundOf=(FW ro).round→(FW ro).fn b.fn→(FW ro).room (cs.length+1+n)→
  ∃e a' w',Q e a' w'∧ArrivesIn (Machine.fenced P (FW ro)) P (lone (b.atR a (.code c:: .inLoop c::k)) cs w) b k cs e a' w'
theorem LWP.step{c:Code}{Q:Exit→Act→World→Prop}{a:Act}{w:World}(h:c.wpIn (FW ro) n P (Exit.then (LWP ro n P c Q) Q) a w):LWP ro n P c Q a w:=by
 intro b k cs m p q;obtain⟨e,j,i,g,d⟩:=h b (.inLoop c::k) cs m p q;cases e with
 |normal=>
  obtain⟨u,s,t,o,f⟩:=g b k cs m p q;exact⟨u,s,t,o,.of_steps (StepsIn.trans d (.one (fenced_calm p q rfl) stepR_inLoop)) f⟩
 |exit id=>exact⟨_,j,i,g,.pass (x:=.inLoop c) rfl (fun _ _=>.inl (by simp)) d⟩
 |goto l=>exact⟨_,j,i,g,.pass (x:=.inLoop c) rfl (fun _ _=>.inl (by simp)) d⟩
 |ret=>exact⟨_,j,i,g,.pass (x:=.inLoop c) rfl (fun _ _=>.inl (by simp)) d⟩
 |panic ch=>exact⟨_,j,i,g,.pass (x:=.inLoop c) rfl (fun _ _=>.inl (by simp)) d⟩
 |outgrown=>exact⟨_,j,i,g,.pass (x:=.inLoop c) rfl (fun _ _=>.inl (by simp)) d⟩
theorem LWP.loop{c:Code}{Q:Exit→Act→World→Prop}{a:Act}{w:World}(h:LWP ro n P c Q a w):(Code.loop c).wpIn (FW ro) n P Q a w:=by
 intro b k cs f g i;obtain⟨e,a',j,m,d⟩:=h b k cs f g i;exact⟨e,a',j,m,.of_steps (.one (fenced_calm g i rfl) stepR_loop) d⟩
theorem zo(r:bE):DecOk [] r:=fun _=>.inl rfl
theorem Hj(ops:Array Oper)(ls:Nat):left ops ls≤ops.size:=by
 unfold left;exact Nat.le_trans (List.length_filter_le ..) (by simp)
theorem ij(g:P.follows .mixedOrders=true){N id:Nat}{ops:Array Oper}{i:Bool}{q:Ann}{K:bE→ac→Prop}{r:bE}{a:Act}{w:World}{Q:Exit→Act→World→Prop}
  (f:uE P N ops.toList i q K r w.heap)(m:Agree N r a)(y:∀c a w,¬Q (.panic c) a w)
  (k:∀r' a' w',Agree N r' a'→Fr (fun t=>ie t ops.toList=true) a w a' w'→K r' w'.heap→Q .normal a' w'):(Code.region id ops i).wpIn (FW ro) n P Q a w:=by
 have p:∀o∈ops.toList,∀d,o.dst=some d→ie d ops.toList=true:=fun o u d hd=>sR u hd
 cases i with
 |false=>
  have key:∀ek,xm P N ek ops.toList ops.toList [] K r w.heap→(Code.region id ops false).wpIn (FW ro) n P Q a w:=fun ek f=>by
   refine wpIn_region ?_;rw[List.range_eq_range',show ops.size=ops.toList.length from rfl]
   exact xk p k ops.toList 0 rfl [] r a w f m (zo r) (Fr.refl _ a w)
  unfold uE at f;simp only at f;split at f
  ·exact key _ f
  ·exact key _ f
 |true=>
  unfold uE at f;simp only at f;generalize DG ops.toList=ms at f;cases hm:wI ops.toList ms with
  |false=>rw[hm]at f;exact f.elim
  |true=>
   rw[hm,cond_true]at f;refine wpIn_region_any g (Dp (ms:=ms) _ [] _ _ _ ?_);have s:Tame w {w with drawn:=w.drawn+1}:=⟨rfl,rfl,rfl⟩;have v:Fr (fun t=>ie t ops.toList=true) a w a {w with drawn:=w.drawn+1}:=⟨s,rfl,fun _ _=>rfl⟩
   refine(A0 (CA hm) p k (fun e a w=>?_) _ false 0 [] [] r a {w with drawn:=w.drawn+1} _ ops.size f m (zo r) v LsRel.start (fun j x _ h=>by rw[(LsRel.start (ops:=ops)).bit,Nat.zero_testBit]at h;cases h) (fun x hx=>by cases hx)).1 rfl (Hj ops 0)
   cases e with
   |panic ch=>exact .inr (y _ a w)
   |_=>exact .inl fun c hc=>by cases hc
theorem wP(t:Nat)(x y:Code):d6 t (.seq x y)=(bif d6 t x then true else d6 t y):=rfl
theorem vq(t:Nat)(c:Operand)(x y:Code):d6 t (.cond c x y)=(bif d6 t x then true else d6 t y):=rfl
theorem As{a b:Bool}:(bif a then true else b)=true↔a=true∨b=true:=by cases a<;>cases b<;>decide
theorem nr(z:P.follows .mixedOrders=true){N:Nat}(c:Code):∀(E:Ann) (Kn:bE→ac→Prop) (Kx:Ex→bE→ac→Prop) (r:bE) (a:Act) (w:World) (Q:Exit→Act→World→Prop),
  gR P N c E Kn Kx r w.heap→Agree N r a→(∀O a w,¬Q (.panic O) a w)→
  (∀j a' g,Agree N j a'→Fr (fun t=>d6 t c=true) a w a' g→Kn j g.heap→Q .normal a' g)→
  (∀i j a' g,Agree N j a'→Fr (fun t=>d6 t c=true) a w a' g→Kx (.exit i) j g.heap→Q (.exit i) a' g)→
  (∀j a' g,Agree N j a'→Fr (fun t=>d6 t c=true) a w a' g→Kx .ret j g.heap→Q .ret a' g)→
  c.wpIn (FW ro) n P Q a w:=by
 induction c with
 |skip=>
  intro E Kn Kx r a w Q o u _ A _ _;exact wpIn_skip (A r a w u (Fr.refl ..) o)
 |region id ops dr=>
  intro E Kn Kx r a w Q o u B A _ _;cases E with
  |reg keep inner=>
   have o:uE P N ops.toList dr inner (fun j h'=>match DJ j keep with|some r0=>Kn r0 h'|none=>False) r w.heap:=o
   refine ij z o u B fun j a' g S W hk=>?_
   split at hk
   ·rename_i r0 hr0
    refine A r0 a' g ⟨S.size,fun t v hv=>S.look t v (zc hr0 t v hv).2⟩ W hk
   ·exact hk.elim
  |nil=>exact ij z (show uE P N ops.toList dr (.nil) Kn r w.heap from o) u B A
  |node x y=>exact ij z (show uE P N ops.toList dr (.node x y) Kn r w.heap from o) u B A
  |join st x y=>exact ij z (show uE P N ops.toList dr (.join st x y) Kn r w.heap from o) u B A
  |loop st y=>exact ij z (show uE P N ops.toList dr (.loop st y) Kn r w.heap from o) u B A
  |draw d=>exact ij z (show uE P N ops.toList dr (.draw d) Kn r w.heap from o) u B A
  |kinds k v=>exact ij z (show uE P N ops.toList dr (.kinds k v) Kn r w.heap from o) u B A
  |rf ks x y=>exact ij z (show uE P N ops.toList dr (.rf ks x y) Kn r w.heap from o) u B A
 |seq x y ihx ihy=>
  intro E Kn Kx r a w Q o u B A hx G;have F:∀{a' g},Fr (fun t=>d6 t x=true) a w a' g→Fr (fun t=>d6 t (.seq x y)=true) a w a' g:=fun h=>h.mono fun t U=>by rw[wP,As];exact .inl U
  have D:∀{a' g K I},Fr (fun t=>d6 t x=true) a w a' g→Fr (fun t=>d6 t y=true) a' g K I→Fr (fun t=>d6 t (.seq x y)=true) a w K I:=
   fun h k=>(F h).trans (k.mono fun t U=>by rw[wP,As];exact .inr U)
  have plain:∀X R,gR P N x X (fun j h'=>gR P N y R Kn Kx j h') Kx r w.heap→(Code.seq x y).wpIn (FW ro) n P Q a w:=fun X R o=>by
   refine wpIn_seq (ihx X _ Kx r a w _ o u (fun O a w=>B O a w) ?_ (fun i j a' g q s p=>hx i j a' g q (F s) p) (fun j a' g q s p=>G j a' g q (F s) p))
   intro r1 V Z H C L;exact ihy R Kn Kx r1 V Z Q L H B (fun j a' g q s p=>A j a' g q (D C s) p) (fun i j a' g q s p=>hx i j a' g q (D C s) p) (fun j a' g q s p=>G j a' g q (D C s) p)
  cases E with
  |join st X R=>
   have o:(match rC x with
      |none=>False
      |some m=>Join (T:=pR (rX st)) (fun t h'=>gR P N y R Kn Kx (jC st (jl (rX st) t) (qu m r)) h')
       fun J=>gR P N x X (fun j h'=>vx st j fun t=>J t h') Kx r w.heap):=o
   split at o
   ·exact o.elim
   ·rename_i m hm
    refine wpIn_seq (ihx X _ Kx r a w _ o.run u (fun O a w=>B O a w) ?_ (fun i j a' g q s p=>hx i j a' g q (F s) p) (fun j a' g q s p=>G j a' g q (F s) p))
    intro r1 V Z H C L;obtain⟨t,hst,hs2⟩:=qh L;have ha2:Agree N (jC st (jl (rX st) t) (qu m r)) V:=H.zip hst (u.keep hm C H);exact ihy R Kn Kx _ V Z Q hs2 ha2 B (fun j a' g q s p=>A j a' g q (D C s) p) (fun i j a' g q s p=>hx i j a' g q (D C s) p) (fun j a' g q s p=>G j a' g q (D C s) p)
  |_=>exact plain _ _ o
 |cond c x y ihx ihy=>
  intro E Kn Kx r a w Q o u B A hx G;have o:(match cf r c with
   |some (.bool t)=>CondP t (gR P N x E.l Kn Kx r w.heap) (gR P N y E.r Kn Kx r w.heap)
   |_=>False):=o
  have F:∀{a' g},Fr (fun t=>d6 t x=true) a w a' g→Fr (fun t=>d6 t (.cond c x y)=true) a w a' g:=fun h=>h.mono fun t U=>by rw[vq,As];exact .inl U
  have D:∀{a' g},Fr (fun t=>d6 t y=true) a w a' g→Fr (fun t=>d6 t (.cond c x y)=true) a w a' g:=fun h=>h.mono fun t U=>by rw[vq,As];exact .inr U
  split at o
  ·rename_i t U
   refine wpIn_cond_split (gD u U) (fun e=>?_) (fun e=>?_)
   ·exact ihx _ Kn Kx r a w Q (o.yes e) u B (fun j a' g q s p=>A j a' g q (F s) p) (fun i j a' g q s p=>hx i j a' g q (F s) p) (fun j a' g q s p=>G j a' g q (F s) p)
   ·exact ihy _ Kn Kx r a w Q (o.no e) u B (fun j a' g q s p=>A j a' g q (D s) p) (fun i j a' g q s p=>hx i j a' g q (D s) p) (fun j a' g q s p=>G j a' g q (D s) p)
  ·exact o.elim
 |block id b ih=>
  intro E Kn Kx r a w Q o u B A hx G;refine wpIn_block (ih E Kn _ r a w _ o u (fun O a w=>B O a w) A (fun i j a' g q s p=>?_) G)
  simp only[Exit.inBlock]at p⊢;cases hi:aV i id with
  |true=>
   rw[hi,cond_true]at p;rw[if_pos (az hi)];exact A j a' g q s p
  |false=>
   rw[hi,cond_false]at p;rw[if_neg (fun e=>by rw[e,mF]at hi;cases hi)]
   exact hx i j a' g q s p
 |loop b ih=>
  intro E Kn Kx r a w Q o u B A hx G;cases E with
  |loop st R=>
   have o:(match rC b with
      |none=>False
      |some m=>vx st r fun t0=>LoopP (T:=pR (rX st)) (fun self t h'=>gR P N b R (fun j h''=>vx st j fun t'=>self t' h'') Kx (jC st (jl (rX st) t) (qu m r)) h') t0 w.heap):=o
   split at o
   ·exact o.elim
   ·rename_i m hm
    obtain⟨t0,hst0,hl⟩:=qh o;have h0:=hl.run (fun t h'=>∀a' g,g.heap=h'→Agree N (jC st (jl (rX st) t) (qu m r)) a'→Fr (fun t=>d6 t b=true) a w a' g→LWP ro n P b Q a' g) (fun t h' hF a' g hw S W=>by
     subst hw
     refine LWP.step (ih R _ Kx _ a' g _ hF S (fun O a w=>B O a w) ?_ (fun i j K I q s p=>hx i j K I q (W.trans s) p) (fun j K I q s p=>G j K I q (W.trans s) p))
     intro r1 V Z H C L
     obtain⟨t1,Y,hk1⟩:=qh L
     exact hk1 V Z rfl (H.zip Y (u.keep hm (W.trans C) H)) (W.trans C))
    exact LWP.loop (h0 a w rfl (u.zip hst0 (u.keep hm (Fr.refl _ a w) u)) (Fr.refl _ a w))
  |_=>exact o.elim
 |rangeFunc f params assign body _ _=>intro E Kn Kx r a w Q o;exact o.elim
 |exit id=>
  intro E Kn Kx r a w Q o u B A hx G;exact wpIn_exit (hx id r a w u (Fr.refl ..) o)
 |scope b _=>intro E Kn Kx r a w Q o;exact o.elim
 |label l=>
  intro E Kn Kx r a w Q o u B A hx G;exact wpIn_label (A r a w u (Fr.refl ..) o)
 |goto l=>intro E Kn Kx r a w Q o;exact o.elim
 |ret=>
  intro E Kn Kx r a w Q o u B A hx G;exact wpIn_ret (G r a w u (Fr.refl ..) o)
 |refuse why=>intro E Kn Kx r a w Q o;exact o.elim
end Go.Lift
namespace Go.Lift
open Go
variable {P:Program}
theorem lq{N:Nat}{r:bE}{a:Act}{w:World}(d:Agree N r a):∀{l:List ResultVar} {K:List Value→Prop},jD P r w.heap l K→
  ∃vs,(∀g:ResultVar→Sem Value,(∀t,g (.tmp t)=pure (a.tmps.getD t undef))→(∀x t,g (.cell x t)=do loadVar t (←asAddr (a.tmps.getD x undef)))→(l.mapM g).run P w=.ok vs w)∧K vs
 | [],K,h=>⟨[],fun g _ _=>by rw[List.mapM_nil];rfl,h⟩
 | .tmp t::l,K,h=>by
  unfold jD at h;split at h
  ·rename_i v hv
   obtain⟨vs,i,f⟩:=lq d h;refine⟨v::vs,fun g e c=>?_,f⟩
   rw[List.mapM_cons,e];simp only[Sem.run_bind,Sem.run_pure,Result.andThen_ok];rw[i g e c];simp only[Result.andThen_ok,d.look t v hv]
  ·exact h.elim
 | .cell x t::l,K,h=>by
  unfold jD at h;split at h
  ·rename_i v hv
   obtain⟨u,S,n,m,k⟩:=vE h;obtain⟨vs,i,f⟩:=lq d n;refine⟨u::vs,fun g e c=>?_,f⟩
   rw[List.mapM_cons,c];have j:(do loadVar t (←asAddr (a.tmps.getD x undef)):Sem Value).run P w=.ok u w:=by
    rw[d.look x v hv];unfold Bb at h;cases v with
    |pointer p=>cases p with
     |none=>exact h.elim
     |some b=>exact k w m
    |_=>exact h.elim
   simp only[Sem.run_bind]at j⊢;rw[j];simp only[Result.andThen_ok];rw[i g e c];simp only[Sem.run_pure,Result.andThen_ok]
  ·exact h.elim
theorem yW(ks:List Kind)(t:pR ks):(if h:(jl ks t).toArray.size=1 then(jl ks t).toArray[0]else Value.tuple (jl ks t).toArray)=wb ks (jl ks t):=by
 match ks,t with
 | [],t=>rfl
 | [k],t=>rfl
 |k::l::ks,(x,t)=>
  have:(jl (k::l::ks) (x,t)).length=(k::l::ks).length:=nN _ _;rw[dif_neg (by simp only[cx,this,aI];omega)];rfl
theorem pF:∀(vs:List Value) (i t:Nat) (v:Value),gC (lw i vs) t=some v→i≤t∧vs[t-i]? =some v
 | [],i,t,v,h=>by cases h
 |u::vs,i,t,v,h=>by
  by_cases e:i=t
  ·subst e
   rw[show lw i (u::vs)=(i,u)::lw (i+1) vs from rfl,fh]at h
   cases h;exact⟨Nat.le_refl _,by simp⟩
  ·rw[show lw i (u::vs)=(i,u)::lw (i+1) vs from rfl,eD u _ e]at h
   obtain⟨c,a⟩:=pF vs (i+1) t v h;refine⟨by omega,?_⟩;rw[show t-i=(t-(i+1))+1 by omega,List.getElem?_cons_succ]
   exact a
theorem DX(f:P.follows .mixedOrders=true){n:Nat}{fn:Func}{c:Code}{q:Ann}{args:List Value}{ks:List Kind}{K:pR ks→ac→Prop}{w:World}(s:args.length≤fn.ntmps)(u:A1 P fn c q args ks K w.heap):
  c.wpIn (FW none) n P (bodyPost P fn fun e d=>Tame w d∧∃t:pR ks,e=.returned (wb ks (jl ks t))∧K t d.heap) {tmps:=args.toArray++jH (fn.ntmps-args.toArray.size) undef,defers:= []} w:=by
 have x:Agree fn.ntmps (lw 0 args) {tmps:=args.toArray++jH (fn.ntmps-args.toArray.size) undef,defers:= []}:=by
  refine⟨by simp;omega,fun t v y=>?_⟩
  obtain⟨_,m⟩:=pF args 0 t v y;simp only[dT]at m;have j:=(bj.1 m).1;simp[Array.getElem?_append,j];rw[au j]at m;cases m;rfl
 have i:∀o a' (d:World),Agree fn.ntmps o a'→Fr (fun t=>d6 t c=true) {tmps:=args.toArray++jH (fn.ntmps-args.toArray.size) undef,defers:= []} w a' d→
   jD P o d.heap fn.results.toList (fun vs=>wi ks vs fun t=>K t d.heap)→
   a'.defers= []∧∃v,(results fn a'.tmps).run P d=.ok v d∧(Tame w d∧∃t:pR ks,Ending.returned v=.returned (wb ks (jl ks t))∧K t d.heap):=fun o a' d p k z=>by
  obtain⟨vs,g,hd⟩:=lq p z;obtain⟨t,rfl,A⟩:=mY hd;refine⟨k.defers,_,?_,k.tame,t,rfl,A⟩;unfold results;rw[jf];simp only[Sem.run_bind,Sem.run_map];rw[g _ (fun _=>rfl) (fun _ _=>rfl)]
  simp only[Result.andThen_ok,Sem.run_pure];rw[←yW]
 exact nr f c q _ _ _ _ w _ u x (fun B a w h=>h.2.2.elim fun _ h=>by cases h.1) i (fun _ _ _ _ _ _ h=>h.elim) i
theorem HE.intro(d:P.follows .mixedOrders=true){f:FuncId}{fn:Func}{c:Code}{g:Ann}{args:List Value}{ks:List Kind}{K:pR ks→ac→Prop}{h:ac}
  (m:P.funcs[f]? =some fn) (j:fn.body=some c) (a:∀(args:Array Value) (w:World),(callFunc f args).run P w=.ok (.enter f args) w) (e:args.length≤fn.ntmps)
  (k:A1 P fn c g args ks K h):HE P f args ks K h:=by
 refine⟨fun w i=>⟨a,?_⟩⟩
 subst i;exact(callsIn_wide (n:=0)).1 (callsIn_of_wp (F:=FW none) m j trivial (DX d e k) rfl)
theorem HD.intro(d:P.follows .mixedOrders=true){f:FuncId}{fn:Func}{c:Code}{i:Ann}{args:List Value}{ks:List Kind}{K:ac→Prop}{h:ac}
  (v:P.funcs[f]? =some fn) (q:fn.body=some c) (a:∀(args:Array Value) (w:World),(callFunc f args).run P w=.ok (.enter f args) w) (g:args.length≤fn.ntmps)
  (s:A1 P fn c i args ks (fun _ h'=>K h') h):HD P f args K h:=by
 refine fun w p=>⟨a,fun n=>?_⟩
 subst p;exact(callsDIn_of_wp (F:=FW none) v q trivial (DX d g s) rfl).mono fun e u x ⟨o,j,t,k,m⟩=>⟨o,j,⟨_,k⟩,m⟩
theorem HC.intro(d:P.follows .mixedOrders=true){f:FuncId}{fn:Func}{c:Code}{g:Ann}{args:List Value}{ks:List Kind}{K:pR ks→ac→Prop}{h:ac}
 (k:P.funcs[f]? =some fn) (i:fn.body=some c) (a:∀(args:Array Value) (w:World),(callFunc f args).run P w=.ok (.enter f args) w) (e:args.length≤fn.ntmps)
 (j:A1 P fn c g args ks K h):HC P f args ks K h:=(HE.intro d k i a e j).hc
theorem C8{N:Nat}{args:List Value}(d:args.length≤N):Agree N (lw 0 args) {tmps:=args.toArray++jH (N-args.toArray.size) undef,defers:= []}:=by
 refine⟨by simp;omega,fun t v e=>?_⟩
 obtain⟨_,c⟩:=pF args 0 t v e;simp only[dT]at c;have a:=(bj.1 c).1;simp[Array.getElem?_append,a];rw[au a]at c;cases c;rfl
theorem A6{N:Nat}{fn:Func}{ks:List Kind}{K:pR ks→ac→Prop}{e:bE}{a':Act}{c:World}(d:Agree N e a')(f:jD P e c.heap fn.results.toList (fun vs=>wi ks vs fun t=>K t c.heap)):
  ∃t:pR ks,(results fn a'.tmps).run P c=.ok (wb ks (jl ks t)) c∧K t c.heap:=by
 obtain⟨vs,a,hd⟩:=lq d f;obtain⟨t,rfl,g⟩:=mY hd;refine⟨t,?_,g⟩;unfold results;rw[jf];simp only[Sem.run_bind,Sem.run_map];rw[a _ (fun _=>rfl) (fun _ _=>rfl)]
 simp only[Result.andThen_ok,Sem.run_pure];rw[←yW]
end Go.Lift
namespace Go.Lift
open Go
variable {P:Program}
abbrev xA(D:Nat):Deferred:={target:=.collected D,args:= #[]}
abbrev kU:Mk→Deferred
 | .it D=>xA D
 | .call f vs=>{target:=.fn (.func f) #[],args:= #[]++vs.toArray}
theorem x6{N:Nat}:∀{ps:List Nat} {vs:List Value} {r:bE} {tmps:Array Value},sg N ps=true→Agree N r {tmps:=tmps,defers:= []}→
  Agree N (GM ps vs r) {tmps:=(ps.zip vs).foldl (fun t x=>t.setIfInBounds x.1 x.2) tmps,defers:= []}
 | [],vs,r,tmps,_,h=>by cases vs<;>exact h
 |i::ps,[],r,tmps,_,h=>h
 |i::ps,v::vs,r,tmps,a,h=>by
  have a:(rg i N&&sg N ps)=true:=a;rw[aO]at a;have c:i<N:=by simpa using a.1
  have:=h.put i v c;exact x6 (tmps:=tmps.setIfInBounds i v) a.2 this
theorem w8(w:World)(o:Obj):Tame w (w.alloc o):=⟨rfl,rfl,rfl⟩
theorem jS(w:World)(b:Nat)(o:Obj):Tame w (w.putObj b o):=⟨rfl,rfl,rfl⟩
theorem Bf(w:World)(b:Nat)(o:Obj):(w.putObj b o).heap=w.heap.setIfInBounds b o:=rfl
theorem D2(ps:Array Nat)(vs:List Value)(t:Array Value):(ps.zip vs.toArray).foldl (fun t (x:Nat×Value)=>t.setIfInBounds x.1 x.2) t=(ps.toList.zip vs).foldl (fun t x=>t.setIfInBounds x.1 x.2) t:=by
 obtain⟨l⟩:=ps;simp
theorem wc(B:P.follows .mixedOrders=true){n N:Nat}{g:Operand}{ps:Array Tmp}{assign body:Code}{aa ab:Ann}{ks:List Kind}{fv:Value}{r:bE}{a:Act}{w:World}{Q:Exit→Act→World→Prop}
  {KN:ac→Prop}{KX:Nat→ac→Prop}{KR:ac→Prop}(Z:sg N ps.toList=true)(I:ps.toList.length=ks.length)(hg:cf r g=some fv)(X:Agree N r a)
  (hR:RangeP P fv ks w.heap (fun AI bz x k h'=>Ce P N ps.toList ks assign body (.node aa ab) r (w.heap.size+1) AI bz x k h') KN KX KR)
  (hn:∀m,Tame w m→KN m.heap→Q .normal {a with defers:=xA w.heap.size::a.defers} m)
  (hx:∀i m,Tame w m→KX i m.heap→Q (.exit i) {a with defers:=xA w.heap.size::a.defers} m)
  (hr:∀m,Tame w m→KR m.heap→Q .ret {a with defers:=xA w.heap.size::a.defers} m):(Code.rangeFunc g ps assign body).wpIn (FW none) n P Q a w:=by
 refine wpIn_rangeFunc fun fn _=>?_
 obtain⟨lo,q⟩:∃lo:LoopState→Option Ex→Obj,lo=fun s j=>.loop {state:=s,pending:=Aj j,fn,tmps:=a.tmps,params:=ps,assign,body,defers:=w.heap.size}:=⟨_,rfl⟩
 have hj:∀j:Option Ex,(Aj j).isNone=j.isNone:=fun j=>by rcases j with _|⟨_|_⟩<;>rfl
 obtain⟨f,first,cap,rfl,he⟩:=hR.run lo (fun s j=>⟨_,by rw[q]⟩) (fun x h' K u A=>by
  refine⟨.inr ⟨_,rfl,⟨fun H hw1=>?_⟩⟩⟩
  subst hw1
  rw[q]at u
  have hy:=run_yield (P:=P) (args:=(jl ks x).toArray) u (by simp only[cx,nN];rw[←I];rfl)
  refine⟨_,_,_,_,hy,fun c cs=>?_⟩
  have hA:Agree N (GM ps.toList (jl ks x) r) {tmps:=(ps.zip (jl ks x).toArray).foldl (fun t (x:Nat×Value)=>t.setIfInBounds x.1 x.2) a.tmps,defers:= []}:=by
   rw[D2]
   exact x6 Z ⟨X.size,X.look⟩
  have p:∀j:Option Ex,∀W:World,Tame H W→(W.heap[w.heap.size+1]? =some (lo .busy none)∧K j.isNone (W.heap.setIfInBounds (w.heap.size+1) (lo (if j.isNone then .ready else .done) j)))→
    ∃v m,(Instr.endRound (w.heap.size+1) (Aj j)).run P W=.ok v m∧∃b,Ending.returned v=.returned (.bool b)∧Tame H m∧K b m.heap:=by
   rintro j W T ⟨h1,U⟩
   rw[q]at h1
   have:=run_endRound (P:=P) (Aj j) h1
   refine⟨_,_,this,_,rfl,T.trans (jS ..),?_⟩
   rw[q]at U
   rw[hj]
   exact U
  have:=roundIn_of_wpIn (F:=FW none) (n:=0) (P:=P) (l:=w.heap.size+1) (f:=fn) (assign:=assign) (body:=body) (w:=H)
   (tmps:=(ps.zip (jl ks x).toArray).foldl (fun t (x:Nat×Value)=>t.setIfInBounds x.1 x.2) a.tmps)
   (R:=fun e m=>∃b,e=.returned (.bool b)∧Tame H m∧K b m.heap) trivial (by
    refine nr (ro:=some (w.heap.size+1)) B assign aa _ _ _ _ H _ A hA (fun ch a w h=>h) ?_ (fun i r' a' m _ _ h=>h.elim) (fun r' a' m _ _ h=>h.elim)
    rintro r2 a2 w2 ha2 E ⟨y,D⟩
    rw[q]at y
    refine⟨_,run_beginRound y rfl,?_⟩
    have L:∀o,o=lo .busy none→w2.heap.setIfInBounds (w.heap.size+1) o=w2.heap.setIfInBounds (w.heap.size+1) (lo .busy none):=fun o Y=>by rw[Y]
    refine nr (ro:=some (w.heap.size+1)) B body ab (fun _ U=>_) (fun e _ U=>_) _ _ (w2.putObj (w.heap.size+1) _) _ (by
     rw[Bf,L _ (by rw[q])];exact D) ha2 (fun ch a w h=>h) ?_ ?_ ?_
    ·rintro r3 a3 J S z O
     exact p none J ((E.tame.trans (jS ..)).trans z.tame) O
    ·rintro i r3 a3 J S z O
     exact p (some (.exit i)) J ((E.tame.trans (jS ..)).trans z.tame) O
    ·rintro r3 a3 J S z O
     exact p (some .ret) J ((E.tame.trans (jS ..)).trans z.tame) O)
  obtain⟨e,m,⟨b,rfl,T,hK⟩,V⟩:=this.2 c cs (fun d h=>by simp[FW]at h)
  exact⟨b,m,T,hK,V.steps⟩)
 have C:=he.run ((w.alloc (.deferred (some []))).alloc (lo .ready none)) rfl;refine⟨w.heap.size+1,[xA w.heap.size],(w.alloc (.deferred (some []))).alloc (lo .ready none),{target:=.fn (.func f) cap,args:=first++ #[.func (.yield (w.heap.size+1)) #[] #[]]},(w.alloc (.deferred (some []))).alloc (lo .ready none),f,
  first++ #[.func (.yield (w.heap.size+1)) #[] #[]]++cap,(w.alloc (.deferred (some []))).alloc (lo .ready none),?_,?_,fun _ _=>trivial,?_,fun h=>by simp[FW]at h,?_⟩
 ·rw[q];exact run_enterLoop_outer fn a.tmps ps assign body
 ·have hev:=gD X hg
  simp[resolve,hev,Deferred.ofValue,Sem.run_pure];rfl
 ·simp[invoke,C.1]
 ·refine xW ?_
  have e:(first.toList++ [Value.func (.yield (w.heap.size+1)) #[] #[]]++cap.toList).toArray=first++ #[.func (.yield (w.heap.size+1)) #[] #[]]++cap:=by apply bX;simp
  rw[←e];refine C.2.mono ?_;rintro e m ⟨T,t,rfl,s,j,V,u,p⟩;have ht':Tame w m:=((w8 w _).trans (w8 _ _)).trans T;rw[q]at u;refine⟨_,_,run_endLoop u V,?_⟩;have G:∀o,Tame w (m.putObj (w.heap.size+1) o):=fun o=>ht'.trans (jS ..)
  have L:∀o,o=lo .exhausted j→(m.putObj (w.heap.size+1) o).heap=m.heap.setIfInBounds (w.heap.size+1) (lo .exhausted j):=fun o Y=>by rw[Y];rfl
  rcases j with _|⟨i|_⟩
  ·exact hn _ (G _) (by rw[L _ (by rw[q])];exact p)
  ·exact wpIn_exit (hx i _ (G _) (by rw[L _ (by rw[q])];exact p))
  ·exact wpIn_ret (hr _ (G _) (by rw[L _ (by rw[q])];exact p))
theorem xQ{n N id d:Nat}{ops:Array Oper}{m o:Oper}{x:Operand}{f:FuncId}{as:List Operand}{vs:List Value}{v:Value}{r:bE}{a:Act}{w:World}{Q:Exit→Act→World→Prop}(e:xR ops.toList=some (m,o,x,d,f,as))(p:cf r x=some v)(z:d<N)(i:jK ((d,v)::r) as=some vs)(j:Agree N r a)
  (C:∀a',Agree N ((d,v)::r) a'→a'.defers=kU (.call f vs)::a.defers→Q .normal a' w):(Code.region id ops false).wpIn (FW none) n P Q a w:=by
 unfold xR at e;split at e
 ·rename_i m' o' hl
  split at e
  ·rename_i x' d' c h1 h2 h3 h4 h5 h6
   split at e
   ·rename_i f' hc
    cases e;have s:ops[0]? =some m:=by rw[←aJ,hl];rfl
    have B:ops[1]? =some o:=by rw[←aJ,hl];rfl
    have es:ops.size=2:=by rw[←Array.length_toList,hl];rfl
    have u:∀y,Region.wanted m y=true:=fun y=>by simp[Region.wanted,h2]
    have A:∀y,Region.wanted o y=true:=fun y=>by simp[Region.wanted,h6]
    refine wpIn_region ?_;rw[es,show dB 2= [0,1]from rfl]
    simp only[wpOpsIn,s,B,u,A,if_true];refine BigFrame.wpIn_move x h1 ?_;rw[gD j p,h3];have g:=j.put d v z;refine⟨fun _ _=>trivial,?_⟩
    have t:((Oper.semAt (FW none).round (a.put (some d) v).eval o).run P w)=.ok (.defer (kU (.call f vs))) w:=by
     show((execOp (a.put (some d) v).eval o).run P w)=_
     have k:=iJ g i;have q:c.args.map (a.put (some d) v).eval=vs.toArray:=by rw[←k];apply bX;simp
     simp only[execOp,h4,resolve,hc,q];simp[Act.eval,Deferred.ofValue,kU]
    rw[t,Oper.uponIn_defer,h5];exact C _ ⟨g.size,g.look⟩ rfl
   ·cases e
  ·cases e
 ·cases e
theorem zN(H:P.follows .mixedOrders=true){n N:Nat}(c:Code):∀(u:Ann) (Kn:List Mk→bE→ac→Prop) (Kx:Ex→List Mk→bE→ac→Prop) (ms:List Mk) (r:bE) (a:Act) (w:World) (Q:Exit→Act→World→Prop),
  r7 P N c u Kn Kx ms r w.heap→Agree N r a→a.defers=ms.map kU→(∀I a w,¬Q (.panic I) a w)→
  (∀p s a' q,Agree N s a'→a'.defers=p.map kU→Tame w q→Kn p s q.heap→Q .normal a' q)→
  (∀i p s a' q,Agree N s a'→a'.defers=p.map kU→Tame w q→Kx (.exit i) p s q.heap→Q (.exit i) a' q)→
  (∀p s a' q,Agree N s a'→a'.defers=p.map kU→Tame w q→Kx .ret p s q.heap→Q .ret a' q)→
  c.wpIn (FW none) n P Q a w:=by
 have plain:∀(c:Code) (u:Ann) (Kn:List Mk→bE→ac→Prop) (Kx:Ex→List Mk→bE→ac→Prop) (ms:List Mk) (r:bE) (a:Act) (w:World) (Q:Exit→Act→World→Prop),
  gR P N c u (Kn ms) (fun e=>Kx e ms) r w.heap→Agree N r a→a.defers=ms.map kU→(∀I a w,¬Q (.panic I) a w)→
  (∀p s a' q,Agree N s a'→a'.defers=p.map kU→Tame w q→Kn p s q.heap→Q .normal a' q)→
  (∀i p s a' q,Agree N s a'→a'.defers=p.map kU→Tame w q→Kx (.exit i) p s q.heap→Q (.exit i) a' q)→
  (∀p s a' q,Agree N s a'→a'.defers=p.map kU→Tame w q→Kx .ret p s q.heap→Q .ret a' q)→
  c.wpIn (FW none) n P Q a w:=by
  intro c u Kn Kx ms r a w Q j z hd D A hx C;exact nr H c u _ _ r a w Q j z D (fun s a' q E B F=>A ms s a' q E (B.defers.trans hd) B.tame F) (fun i s a' q E B F=>hx i ms s a' q E (B.defers.trans hd) B.tame F)
   (fun s a' q E B F=>C ms s a' q E (B.defers.trans hd) B.tame F)
 induction c with
 |skip=>intro u Kn Kx ms r a w Q j;exact plain _ u Kn Kx ms r a w Q j
 |region id ops dr=>
  intro u Kn Kx ms r a w Q j z hd D A hx C;have j:(match xR ops.toList with
   |none=>gR P N (.region id ops dr) u (Kn ms) (fun e=>Kx e ms) r w.heap
   |some (_,_,x,d,f,as)=>bif dr then False else match cf r x with
    |some v=>bif rg d N then(match jK ((d,v)::r) as with|some vs=>Kn (.call f vs::ms) ((d,v)::r) w.heap|none=>False)else False
    |none=>False):=j
  split at j
  ·exact plain _ u Kn Kx ms r a w Q j z hd D A hx C
  ·rename_i m o x d f as he
   cases dr with
   |true=>exact j.elim
   |false=>
    rw[cond_false]at j;split at j
    · rename_i v hv
      cases hb:rg d N with
      |false=>rw[hb]at j;exact j.elim
      |true=>
       rw[hb,cond_true]at j;split at j
       ·rename_i vs hvs
        refine xQ he hv (by simpa using hb) hvs z fun a' S O=>A (.call f vs::ms) _ a' w S ?_ ⟨rfl,rfl,rfl⟩ j
        rw[O,hd];rfl
       ·exact j.elim
    · exact j.elim
 |seq x y ihx ihy=>
  intro u Kn Kx ms r a w Q j z hd D A hx C;have j:(bif (bif mU x then true else mU y)then r7 P N x u.l (fun ms s h'=>r7 P N y u.r Kn Kx ms s h') Kx ms r w.heap
   else gR P N (.seq x y) u (Kn ms) (fun e=>Kx e ms) r w.heap):=j
  cases hb:(bif mU x then true else mU y)with
  |false=>rw[hb]at j;exact plain _ _ _ _ _ _ _ _ _ j z hd D A hx C
  |true=>
   rw[hb,cond_true]at j;refine wpIn_seq (ihx u.l _ Kx ms r a w _ j z hd (fun I a w=>D I a w) ?_ hx C)
   intro R r1 a1 Y W U J T;exact ihy u.r Kn Kx R r1 a1 Y Q T W U D (fun p s a' q E B F G=>A p s a' q E B (J.trans F) G) (fun i p s a' q E B F G=>hx i p s a' q E B (J.trans F) G)
    (fun p s a' q E B F G=>C p s a' q E B (J.trans F) G)
 |cond c x y ihx ihy=>
  intro u Kn Kx ms r a w Q j z hd D A hx C;have j:(bif (bif mU x then true else mU y)then
    (match cf r c with
     |some (.bool t)=>CondP t (r7 P N x u.l Kn Kx ms r w.heap) (r7 P N y u.r Kn Kx ms r w.heap)
     |_=>False)
   else gR P N (.cond c x y) u (Kn ms) (fun e=>Kx e ms) r w.heap):=j
  cases hb:(bif mU x then true else mU y)with
  |false=>rw[hb]at j;exact plain _ _ _ _ _ _ _ _ _ j z hd D A hx C
  |true=>
   rw[hb,cond_true]at j;split at j
   ·rename_i t K
    exact wpIn_cond_split (gD z K) (fun e=>ihx _ Kn Kx ms r a w Q (j.yes e) z hd D A hx C) (fun e=>ihy _ Kn Kx ms r a w Q (j.no e) z hd D A hx C)
   ·exact j.elim
 |block id b ih=>
  intro u Kn Kx ms r a w Q j z hd D A hx C;have j:(bif mU b then r7 P N b u Kn (fun e ms s h'=>match e with
    | .exit i=>bif aV i id then Kn ms s h' else Kx (.exit i) ms s h'
    | .ret=>Kx .ret ms s h') ms r w.heap
   else gR P N (.block id b) u (Kn ms) (fun e=>Kx e ms) r w.heap):=j
  cases hb:mU b with
  |false=>rw[hb]at j;exact plain _ _ _ _ _ _ _ _ _ j z hd D A hx C
  |true=>
   rw[hb,cond_true]at j;refine wpIn_block (ih u Kn _ ms r a w _ j z hd (fun I a w=>D I a w) A (fun i p s a' q E B F G=>?_) C)
   simp only[Exit.inBlock]at G⊢;cases hi:aV i id with
   |true=>
    rw[hi,cond_true]at G;rw[if_pos (az hi)];exact A p s a' q E B F G
   |false=>
    rw[hi,cond_false]at G;rw[if_neg (fun e=>by rw[e,mF]at hi;cases hi)]
    exact hx i p s a' q E B F G
 |loop b ih=>intro u Kn Kx ms r a w Q j;exact plain _ u Kn Kx ms r a w Q j
 |rangeFunc g ps assign body _ _=>
  intro u Kn Kx ms r a w Q j z hd D A hx C;cases u with
  |rf ks aa ab=>
   have j:(bif sg N ps.toList&&aV ps.toList.length ks.length then
    (match cf r g with
     |some fv=>RangeP P fv ks w.heap (fun AI Z x k h'=>Ce P N ps.toList ks assign body (.node aa ab) r (w.heap.size+1) AI Z x k h')
       (fun h'=>Kn (.it w.heap.size::ms) r h') (fun i h'=>Kx (.exit i) (.it w.heap.size::ms) r h') (fun h'=>Kx .ret (.it w.heap.size::ms) r h')
     |none=>False)else False):=j
   cases hb:(sg N ps.toList&&aV ps.toList.length ks.length)with
   |false=>rw[hb]at j;exact j.elim
   |true=>
    rw[hb,cond_true]at j;rw[aO]at hb;split at j
    · rename_i fv hfv
      have V:Agree N r {a with defers:=xA w.heap.size::a.defers}:=⟨z.size,z.look⟩;have X:({a with defers:=xA w.heap.size::a.defers}:Act).defers=(.it w.heap.size::ms).map kU:=by rw[List.map_cons,←hd]
      exact wc H hb.1 (az hb.2) hfv z j (fun q K L=>A _ r _ q V X K L) (fun i q K L=>hx i _ r _ q V X K L) (fun q K L=>C _ r _ q V X K L)
    · exact j.elim
  |_=>exact j.elim
 |exit id=>intro u Kn Kx ms r a w Q j;exact plain _ u Kn Kx ms r a w Q j
 |scope b _=>intro u Kn Kx ms r a w Q j;exact j.elim
 |label l=>intro u Kn Kx ms r a w Q j;exact plain _ u Kn Kx ms r a w Q j
 |goto l=>intro u Kn Kx ms r a w Q j;exact j.elim
 |ret=>intro u Kn Kx ms r a w Q j;exact plain _ u Kn Kx ms r a w Q j
 |refuse why=>intro u Kn Kx ms r a w Q j;exact j.elim
theorem pp{fn:Func}{ks:List Kind}{K:pR ks→ac→Prop}{N:Nat}{n:Nat}{r:bE}{a:Act}{j:World}(g:Agree N r a):∀(ms:List Mk) (w:World),Tame j w→
  AZ P ms (fun h'=>jD P r h' fn.results.toList fun vs=>wi ks vs fun t=>K t h') w.heap→
  LeavesInM (FW none) n P fn a.tmps (fun e d=>Tame j d∧∃t:pR ks,e=.returned (wb ks (jl ks t))∧K t d.heap) (ms.map kU) .returning w
 | [],w,ht,h=>by
  obtain⟨t,c,p⟩:=A6 g h;exact⟨_,c,ht,t,rfl,p⟩
 | .it D::ms,w,ht,h=>by
  refine⟨by simp,.inl ⟨D,_,rfl,run_takeDeferred h.1,?_⟩⟩;exact pp g ms (w.putObj D (.deferred none)) (ht.trans (jS ..)) h.2
 | .call f vs::ms,w,ht,h=>by
  obtain⟨hc,hd⟩:=h w rfl;refine⟨by simp,.inr ⟨(fun e=>by cases e),.func f,#[],f,vs.toArray,rfl,?_,fun _ _=>trivial,CallsDIn.mono (hd (n-1)) fun e u d ⟨o,i,⟨v,k⟩,m⟩=>?_⟩⟩
  ·have:=hc vs.toArray w
   simpa[invoke]using this
  ·subst o k
   exact pp g ms d (ht.trans i) m
theorem HE.introM(o:P.follows .mixedOrders=true){f:FuncId}{fn:Func}{c:Code}{u:Ann}{args:List Value}{ks:List Kind}{K:pR ks→ac→Prop}{h:ac}
  (A:P.funcs[f]? =some fn) (y:fn.body=some c) (i:∀(args:Array Value) (w:World),(callFunc f args).run P w=.ok (.enter f args) w) (p:args.length≤fn.ntmps)
  (z:FB P fn c u args ks K h):HE P f args ks K h:=by
 refine⟨fun w x=>⟨i,?_⟩⟩
 subst x;refine(callsIn_wide (n:=0)).1 (callsIn_of_wp_marks (F:=FW none) A y trivial ?_ rfl);refine wpIn_mono (Q:=fun e a d=>(∀q,e≠ .panic q)∧bodyPostM (FW none) 0 P fn (fun e d=>Tame w d∧∃t:pR ks,e=.returned (wb ks (jl ks t))∧K t d.heap) e a d) ?_ fun e a w h=>h.2
 refine zN o c u _ _ [] _ _ w _ z (C8 p) rfl (fun q a w h=>h.1 q rfl) ?_ (fun _ _ _ _ _ _ _ _ h=>h.elim) ?_
 ·intro k v a' d g j m s
  refine⟨(fun _ e=>by cases e),?_⟩
  show LeavesInM _ _ _ _ _ _ a'.defers _ _
  rw[j];exact pp g k d m s
 ·intro k v a' d g j m s
  refine⟨(fun _ e=>by cases e),?_⟩
  show LeavesInM _ _ _ _ _ _ a'.defers _ _
  rw[j];exact pp g k d m s
theorem HC.introM(d:P.follows .mixedOrders=true){f:FuncId}{fn:Func}{c:Code}{g:Ann}{args:List Value}{ks:List Kind}{K:pR ks→ac→Prop}{h:ac}
 (k:P.funcs[f]? =some fn) (i:fn.body=some c) (a:∀(args:Array Value) (w:World),(callFunc f args).run P w=.ok (.enter f args) w) (e:args.length≤fn.ntmps)
 (j:FB P fn c g args ks K h):HC P f args ks K h:=(HE.introM d k i a e j).hc
end Go.Lift
namespace Go.Lift
open Go
def AppP(z:Option (List Value))(f c:Nat)(t:TypeId)(a:Option Addr)(sl e d:Nat)(xs:List Value)(h:ac)(K:SliceV→ac→Prop):Prop:=
 (sl+d≤e→qH h a (sl*f) xs∧bq xs=true∧K ⟨a,sl+d,e⟩ (dy h a (sl*f) xs))∧
 (e<sl+d→∃old z',SRow h a (sl*f) old∧z=some z'∧0<c∧Builtin.nextslicecap (sl+d) e*c≤2^48∧
  ∀nc,sl+d≤nc→K ⟨some (aZ h),sl+d,nc⟩ (hnew h (old++xs++cq (nc-(sl+d)) z') t))
end Go.Lift
