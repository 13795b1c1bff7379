/- A part of the proof that the named laws of this program answer true, whatever the input. -/
import Derived.Test.YtfmnhpbjeapjaaaGreatLift1
import Derived.BigFrameIn
open Array renaming getD_eq_getD_getElem?→cr,getElem?_toList→aN,getElem?_setIfInBounds_ne→dF,replicate→mS,getElem?_eq_some_iff→bE,getElem?_eq_getElem→fJ,getElem?_eq_none→jL,mapM_eq_mapM_toList→lW,ext'→cq
open Bool renaming eq_false_iff→kH,or_eq_true→iC,and_eq_true→aH,not_eq_true'→oV,or_eq_false_iff→lu
open List renaming mem_of_getElem?→bh,length_cons→aX,mem_cons→ah,getElem?_cons_zero→cn,getElem?_eq_getElem→aA,any_eq_true→bQ,getElem?_eq_some_iff→bA,mem_cons_of_mem→aQ,mem_cons_self→aP,range→dK,filter_cons→ba,mem_singleton→ak,size_toArray→cA
open Nat renaming blt→xr,beq→aW,eq_of_beq_eq_true→aG,land→iL,lor→ci,testBit_and→j1,succ→eV,zero_add→az,beq_refl→rC,lt_or_ge→cF,pred→xf,sub_zero→fo
open Option renaming some→bD
namespace Go.Lift
open Go
variable {P:Program} {ro:Option Nat} {n:Nat}
def FW(ro:Option Nat):Fence:={fn:=fun _=>True,depth:=none,alive:=false,round:=ro}
theorem Lm(m:Machine):m.fenced P (FW ro):=by
 intro g _;exact⟨fun h=>by simp[FW]at h,.inl trivial,fun _ _=>trivial,fun d h=>by simp[FW]at h⟩
theorem yo{m b:Machine}(h:Steps P m b):StepsIn (Machine.fenced P (FW ro)) P m b:=(StepsIn.of_steps h).mono fun m _=>Lm m
theorem DX{k:Nat}{f:FuncId}{args:Array Value}{w:World}{R:Ending→World→Prop}(h:Calls P f args w R):CallsIn (FW ro) k P f args w R:=by
 refine⟨trivial,fun cs _=>?_⟩
 obtain⟨e,w',fr,g,hc,b,d⟩:=h cs;refine⟨e,w',fr,g,?_,b,d⟩;cases e with
 |returned v=>exact yo hc
 |panicked c=>exact yo hc
 |outgrown=>exact hc
theorem pJ{o:Oper}{a:Act}{w:World}{K:WK}{next:Act→World→Prop}{Q:Exit→Act→World→Prop}(hd:∀c,o.op≠ .defer c)(h:HP P (execOp a.eval o) K w)
  (j:∀v w',Tame w w'→K v w'.heap→next (a.put o.dst v) w'):o.wpIn (FW ro) n P a w next Q:=by
 refine⟨fun _ _=>trivial,?_⟩
 rw[Oper.semAt_eq _ _ _ hd];rcases h with⟨v,w',i,g,d⟩|⟨w',i,g,d⟩|⟨f,args,i,hc⟩|⟨l,fn,tmps,assign,body,i,hc⟩
 ·rw[i];exact j v w' g d
 ·rw[i];exact j undef w' g d
 ·rw[i]
  refine⟨fun h=>by simp[FW]at h,DX (hc.mono ?_)⟩
  rintro e w' ⟨g,v,rfl,d⟩;exact j v w' g d
 ·rw[i]
  refine⟨fun h=>by simp[FW]at h,trivial,fun c cs _=>?_⟩
  obtain⟨b,w',g,d,k⟩:=hc c cs;exact⟨.returned (.bool b),w',j _ w' g d,yo k⟩
theorem th{N:Nat}{o:Oper}{v:Value}{r:bP}{K:bP→Prop}{a:Act}{d:uS}{dv:DV}(h:yG N o v r K)(c:Agree N r a)(hd:DecOk d r)(f:EJ dv v):
  ∃r',K r'∧Agree N r' (a.put o.dst v)∧DecOk (rv d o dv) r':=by
 unfold yG at h;unfold rv;cases ho:o.dst with
 |none=>rw[ho]at h;exact⟨r,h,c,hd⟩
 |some t=>
  rw[ho]at h;simp only at h;cases hb:xr t N with
  |false=>rw[hb]at h;exact h.elim
  |true=>
   rw[hb]at h;have b:t<N:=by simpa using hb
   refine⟨_,h,c.put t v b,fun s=>?_⟩
   by_cases e:t=s
   ·subst e
    have:qS ((t,dv)::d) t=dv:=by simp[qS]
    rw[this];exact .inr ⟨v,gK t v r,f⟩
   ·have g:qS ((t,dv)::d) s=qS d s:=by
     have:aW t s=false:=kH.2 fun i=>e (aG i)
     show(bif aW t s then dv else qS d s)=_
     rw[this];rfl
    rw[g,fZ v r e];exact hd s
theorem BW{ek:Option (Kind×Kind)}{o:Op}{r:bP}{K:RK}{h:ac}(b:AG P ek o r K h):∀c,o≠ .defer c:=by
 intro c e;subst e;exact b
theorem vN{o:Oper}{r:bP}{K:WK}{h:ac}(b:Ei P o r K h):∀c,o.op≠ .defer c:=by
 intro c e;unfold Ei at b;rw[e]at b;exact b
theorem Rj{d:uS}{o:Op}(h:vv P o=false):GD d o=.x:=by
 cases o<;>first|rfl|(simp[vv]at h)
theorem KS{N:Nat}{ek:Option (Kind×Kind)}{o:Oper}{r:bP}{K:bP→ac→Prop}{a:Act}{w:World}{d:uS}{next:Act→World→Prop}{Q:Exit→Act→World→Prop}
  (b:QE P N ek o r K w.heap)(i:Agree N r a)(hd:DecOk d r)
  (p:∀v w' e,Tame w w'→K e w'.heap→Agree N e (a.put o.dst v)→DecOk (rv d o (GD d o.op)) e→next (a.put o.dst v) w'):o.wpIn (FW ro) n P a w next Q:=by
 unfold QE at b;cases hq:vv P o.op with
 |true=>
  rw[hq,cond_true]at b;obtain⟨v,S,j,q,k,s⟩:=AV i b d hd;refine pJ (K:=fun u h'=>u=v∧h'=w.heap) (BW b) (.inl ⟨v,w,s w q,Tame.refl w,rfl,rfl⟩) ?_
  rintro u w' m ⟨rfl,t⟩;obtain⟨e,f,c,g⟩:=th j i hd k;exact p u w' e m (by rw[t];exact f) c g
 |false=>
  rw[hq,cond_false]at b;refine pJ (vN b) (AJ i b) ?_;intro v w' m j;obtain⟨e,f,c,g⟩:=th j i hd (dv:=GD d o.op) (by rw[Rj hq];trivial);exact p v w' e m f c g
theorem Fc{t:Array Value}{i:Nat}{b:Bool}(h:t.getD i undef=.bool b):t[i]? =some (.bool b):=by
 rw[cr]at h;cases hc:t[i]? with
 |none=>rw[hc]at h;simp[undef]at h
 |some v=>rw[hc]at h;simp at h;rw[h]
theorem Jq{t:Array Value}{i:Nat}(h:t.getD i undef=undef):t[i]? =none∨t[i]? =some undef:=by
 rw[cr]at h;cases hc:t[i]? with
 |none=>exact .inl rfl
 |some v=>rw[hc]at h;simp at h;rw[h];exact .inr rfl
theorem mh{N:Nat}{ops:Array Oper}{d:uS}{o:Oper}{b:Bool}{r:bP}{a:Act}(h:ia ops.toList d o=some b)(m:Agree N r a)(hd:DecOk d r):
  Region.wanted o (yielded ops a.tmps)=b:=by
 unfold ia at h;unfold Region.wanted;cases hg:o.guard with
 |none=>rw[hg]at h;simp only[bD.injEq]at h;exact h
 |some g=>
  obtain⟨j,c⟩:=g;rw[hg]at h;simp only[aN]at h;simp only;cases hj:ops[j]? with
  |none=>rw[hj]at h;cases h
  |some oj=>
   rw[hj]at h;simp only at h;cases ht:oj.dst with
   |none=>rw[ht]at h;cases h
   |some t=>
    rw[ht]at h;simp only at h;have p:yielded ops a.tmps j=(match a.tmps[t]? with|some (.bool b)=>some b|_=>none):=by
     unfold yielded;simp[hj,ht];rfl
    rw[p];rcases hd t with hx|⟨v,n,k⟩
    ·rw[hx]at h;cases h
    ·have i:=m.look t v n
     cases hdl:qS d t with
     |x=>rw[hdl]at h;cases h
     |t=>
      rw[hdl]at h k;simp only[bD.injEq]at h;subst h;have:v=.bool true:=k;subst this;rw[Fc i];cases c<;>rfl
     |f=>
      rw[hdl]at h k;simp only[bD.injEq]at h;subst h;have:v=.bool false:=k;subst this;rw[Fc i];cases c<;>rfl
     |u=>
      rw[hdl]at h k;simp only[bD.injEq]at h;subst h;have:v=undef:=k;subst this;rcases Jq i with e|e<;>rw[e]<;>cases c<;>rfl
structure Fr(W:Nat→Prop)(a0:Act)(w0:World)(a:Act)(w:World):Prop where
 tame:Tame w0 w
 defers:a.defers=a0.defers
 same:∀t,¬W t→a.tmps.getD t undef=a0.tmps.getD t undef
theorem Fr.refl(W:Nat→Prop)(a:Act)(w:World):Fr W a w a w:=⟨Tame.refl w,rfl,fun _ _=>rfl⟩
theorem Fr.put{W:Nat→Prop}{g a:Act}{f w w':World}(h:Fr W g f a w){o:Oper}(j:∀d,o.dst=some d→W d)(v:Value)(i:Tame w w'):Fr W g f (a.put o.dst v) w':=by
 refine⟨h.tame.trans i,?_,fun t c=>?_⟩
 ·cases ho:o.dst<;>simp[Act.put,h.defers]
 ·cases ho:o.dst with
  |none=>exact h.same t c
  |some d=>
   have b:d≠t:=fun e=>c (e▸j d ho)
   rw[←h.same t c];simp[Act.put,dF b]
theorem Fr.trans{W:Nat→Prop}{g i f:Act}{d b e:World}(h:Fr W g d i b)(k:Fr W i b f e):Fr W g d f e:=
 ⟨h.tame.trans k.tame,k.defers.trans h.defers,fun t c=>(k.same t c).trans (h.same t c)⟩
theorem Fr.mono{W W':Nat→Prop}{b a:Act}{c w:World}(h:Fr W b c a w)(d:∀t,W t→W' t):Fr W' b c a w:=
 ⟨h.tame,h.defers,fun t f=>h.same t fun e=>f (d t e)⟩
theorem DecOk.known{d:uS}{r:bP}(h:DecOk d r){t:Nat}{dv:DV}{v:Value}(f:EJ dv v):DecOk ((t,dv)::d) ((t,v)::r):=fun s=>by
 by_cases e:t=s
 ·subst e
  have:qS ((t,dv)::d) t=dv:=by simp[qS]
  rw[this];exact .inr ⟨v,gK t v r,f⟩
 ·have c:qS ((t,dv)::d) s=qS d s:=by
   have:aW t s=false:=kH.2 fun b=>e (aG b)
   show(bif aW t s then dv else qS d s)=_
   rw[this];rfl
  rw[c,fZ v r e];exact h s
theorem CX{N:Nat}{ek:Option (Kind×Kind)}{ops:Array Oper}{o:Oper}{i:Nat}{d:uS}{r:bP}{a:Act}{w:World}{b:Bool}{K:uS→bP→ac→Prop}{next:Act→World→Prop}{Q:Exit→Act→World→Prop}
  (t:ops[i]? =some o) (p:ia ops.toList d o=some b) (g:Agree N r a) (hd:DecOk d r)
  (k:match b with
   |true=>QE P N ek o r (K (rv d o (GD d o.op))) w.heap
   |false=>yG N o undef r fun c=>K (rv d o .u) c w.heap)
  (m:∀v w' d' c,Tame w w'→K d' c w'.heap→Agree N c (a.put o.dst v)→DecOk d' c→next (a.put o.dst v) w'):
  wpOpIn (FW ro) n P ops Q i next a w:=by
 unfold wpOpIn;rw[t];simp only[mh p g hd];cases b with
 |true=>exact KS k g hd fun v w' c s q e f=>m v w' _ c s q e f
 |false=>
  obtain⟨c,j,e,f⟩:=th (dv:=.u) k g hd rfl;exact⟨fun _ _=>trivial,m undef w _ c (Tame.refl w) j e f⟩
theorem KQ{N:Nat}{ek:Option (Kind×Kind)}{ops:List Oper}{o:Oper}{os:List Oper}{d:uS}{K:bP→ac→Prop}{r:bP}{h:ac}:Dg P N ek ops (o::os) d K r h=
 (match ia ops d o with
 |some true=>QE P N ek o r (fun c h'=>Dg P N ek ops os (rv d o (GD d o.op)) K c h') h
 |some false=>yG N o undef r fun c=>Dg P N ek ops os (rv d o .u) K c h
 |none=>match DC ops o with
  |none=>False
  |some t=>match jr r t with
   |some (.bool b)=>CondP b
    (EP P N ek ops o ((t,.t)::d) ((t,.bool true)::r) h fun e c h'=>Dg P N ek ops os e K c h')
    (EP P N ek ops o ((t,.f)::d) ((t,.bool false)::r) h fun e c h'=>Dg P N ek ops os e K c h')
   |_=>False):=rfl
theorem EN{N:Nat}{ek:Option (Kind×Kind)}{ops:Array Oper}{o:Oper}{i:Nat}{d:uS}{r:bP}{a:Act}{w:World}{K:uS→bP→ac→Prop}{next:Act→World→Prop}{Q:Exit→Act→World→Prop}
  (e:ops[i]? =some o) (f:Agree N r a) (hd:DecOk d r) (c:EP P N ek ops.toList o d r w.heap K)
  (g:∀v w' d' r',Tame w w'→K d' r' w'.heap→Agree N r' (a.put o.dst v)→DecOk d' r'→next (a.put o.dst v) w'):
  wpOpIn (FW ro) n P ops Q i next a w:=by
 unfold EP at c;cases hw:ia ops.toList d o with
 |none=>rw[hw]at c;exact c.elim
 |some b=>rw[hw]at c;exact CX (ek:=ek) e hw f hd (by cases b<;>exact c) g
theorem Df{N:Nat}{ek:Option (Kind×Kind)}{ops:Array Oper}{W:Nat→Prop}(y:∀o∈ops.toList,∀d,o.dst=some d→W d){x:Act}{u:World}{K:bP→ac→Prop}{Q:Exit→Act→World→Prop}
  (s:∀r a w,Agree N r a→Fr W x u a w→K r w.heap→Q .normal a w):
  ∀(l:List Oper) (i:Nat),ops.toList.drop i=l→∀(d:uS) (r:bP) (a:Act) (w:World),Dg P N ek ops.toList l d K r w.heap→Agree N r a→DecOk d r→Fr W x u a w→
   wpOpsIn (FW ro) n P ops Q (List.range' i l.length) a w
 | [],i,_,d,r,a,w,hs,ha,hd,hf=>s r a w ha hf hs
 |o::os,i,hdr,d,r,a,w,hs,ha,hd,hf=>by
  have j:ops[i]? =some o:=by
   rw[←aN];have:(ops.toList.drop i)[0]? =some o:=by rw[hdr];rfl
   simpa using this
  have g:o∈ops.toList:=bh (by rw[aN];exact j);have f:ops.toList.drop (i+1)=os:=by rw[←List.tail_drop,hdr];rfl
  rw[aX,List.range'_succ,wpOpsIn_cons];rw[KQ]at hs;have m:∀v w' e c,Tame w w'→Dg P N ek ops.toList os e K c w'.heap→Agree N c (a.put o.dst v)→DecOk e c→wpOpsIn (FW ro) n P ops Q (List.range' (i+1) os.length) (a.put o.dst v) w':=
   fun v w' e c q z k p=>Df y s os (i+1) f e c _ w' z k p (hf.put (y o g) v q)
  cases hw:ia ops.toList d o with
  |some b=>
   rw[hw]at hs;exact CX (ek:=ek) (K:=fun e c h'=>Dg P N ek ops.toList os e K c h') j hw ha hd (by cases b<;>exact hs) m
  |none=>
   rw[hw]at hs;simp only at hs;split at hs
   ·exact hs.elim
   ·rename_i t q
    split at hs
    ·rename_i b hb
     cases b with
     |true=>exact EN j (ha.known hb) (hd.known (dv:=.t) rfl) (hs.yes rfl) m
     |false=>exact EN j (ha.known hb) (hd.known (dv:=.f) rfl) (hs.no rfl) m
    ·exact hs.elim
end Go.Lift
namespace Go.Lift
open Go
theorem zl(m i:Nat):tb m i=m.testBit i:=by
 have h:iL (Nat.shiftRight m i) 1=(m>>>i)&&&1:=rfl;unfold tb;rw[h,Nat.testBit_eq_decide_div_mod_eq,Nat.and_one_is_mod,Nat.shiftRight_eq_div_pow];cases hm:decide (m/2^i%2=1)with
 |true=>rw[of_decide_eq_true hm];rfl
 |false=>
  have b:=of_decide_eq_false hm;have:m/2^i%2=0:=by omega
  rw[this];rfl
theorem nh(a b i:Nat):(ci a b).testBit i=(a.testBit i||b.testBit i):=Nat.testBit_or a b i
theorem yK(i j:Nat):(fY i).testBit j=decide (i=j):=Nat.testBit_two_pow
theorem Bh{a b:Nat}(h:aW (iL a b) 0=true)(t:Nat)(d:a.testBit t=true)(e:b.testBit t=true):False:=by
 have c:=aG h;have:(iL a b).testBit t=(a.testBit t&&b.testBit t):=j1 a b t;rw[c,d,e]at this;simp at this
theorem O9{a b:Nat}(h:aW (iL a b) a=true)(t:Nat)(d:a.testBit t=true):b.testBit t=true:=by
 have c:=aG h;have:(iL a b).testBit t=(a.testBit t&&b.testBit t):=j1 a b t;rw[c,d]at this;simpa using this.symm
theorem xX(i:Nat):∀l:List Edge,(lK l).testBit i=l.any fun e=>aW e.on i&&Region.binds .any e
 | []=>Nat.zero_testBit i
 |e::l=>by
  have b:=xX i l;have hc:lK (e::l)=bif Region.binds .any e then ci (fY e.on) (lK l)else lK l:=rfl;rw[hc,List.any_cons,←b];cases hb:Region.binds .any e with
  |true=>
   rw[cond_true,nh,yK,Bool.and_true];congr 1
   cases hd:aW e.on i with
   |true=>simpa using aG hd
   |false=>rw[decide_eq_false_iff_not];intro c;rw[c]at hd;simp at hd
  |false=>simp
theorem zW(o:Oper)(i:Nat):(lK o.after.toList).testBit i=ib o i:=xX i o.after.toList
theorem zk(t:Nat):∀l:List Operand,(kO l).testBit t=true↔Operand.tmp t∈l
 | []=>by simp[show kO []=0 from rfl]
 |o::l=>by
  have b:=zk t l;cases o with
  |tmp u=>
   have hc:kO (.tmp u::l)=ci (fY u) (kO l):=rfl;rw[hc,nh,yK,iC,b,ah];simp[eq_comm]
  |const v=>
   have hc:kO (.const v::l)=kO l:=rfl;rw[hc,b,ah];simp
  |global v=>
   have hc:kO (.global v::l)=kO l:=rfl;rw[hc,b,ah];simp
  |func v=>
   have hc:kO (.func v::l)=kO l:=rfl;rw[hc,b,ah];simp
theorem wI(o:Oper)(t:Nat):(mM o).testBit t=true↔o.dst=some t:=by
 unfold mM;cases o.dst with
 |none=>simp
 |some d=>simp[yK]
theorem Eu(ops:Array Oper)(o:Oper)(t:Nat):(nC ops.toList o).testBit t=true↔t∈o.looksAt ops:=by
 unfold nC Oper.looksAt;rw[nh,iC,zk,List.mem_append,List.mem_filterMap];refine or_congr ⟨fun h=>⟨_,h,rfl⟩,?_⟩ ?_
 ·rintro⟨x,hx,c⟩
  cases x<;>simp at c
  subst c;exact hx
 ·cases hg:o.guard with
  |none=>simp
  |some g=>
   obtain⟨j,b⟩:=g;simp only[aN];cases hj:ops[j]? with
   |none=>simp
   |some oj=>simp[wI]
variable {P:Program} {ro:Option Nat} {n:Nat} {ops:Array Oper} {Q:Exit→Act→World→Prop}
structure MsOk(ops:Array Oper)(ms:List DM):Prop where
 am:∀(i:Nat) (o:Oper) (m:DM),ops[i]? =some o→ms[i]? =some m→∀j,m.am.testBit j=ib o j
 lk:∀(i:Nat) (o:Oper) (m:DM),ops[i]? =some o→ms[i]? =some m→∀t,m.lk.testBit t=true↔t∈o.looksAt ops
 ds:∀(i:Nat) (o:Oper) (m:DM),ops[i]? =some o→ms[i]? =some m→∀t,m.ds.testBit t=true↔o.dst=some t
 len:ms.length=ops.size
 free:∀(i j:Nat) (m k:DM),ms[i]? =some m→ms[j]? =some k→m.fr.testBit j=true→j=i∨k.am.testBit i=true∨Bi m k=true
 nosel:∀(i:Nat) (o:Oper),ops[i]? =some o→(∀cs b,o.op≠ .select cs b)∧(∀c,o.op≠ .defer c)
theorem zE(ops:List Oper):∀(l:List Oper) (ms:List DM),vV ops l ms=true→ms.length=l.length∧∀(i:Nat) (o:Oper) (m:DM),l[i]? =some o→ms[i]? =some m→
  m.am=lK o.after.toList∧m.lk=nC ops o∧m.ds=mM o
 | [],[],_=>⟨rfl,fun i o m h=>by simp at h⟩
 | [],_::_,h=>by cases h
 |o::l,[],h=>by cases h
 |o::l,m::ms,h=>by
  have hc:vV ops (o::l) (m::ms)=(aW (lK o.after.toList) m.am&&aW (nC ops o) m.lk&&aW (mM o) m.ds&&vV ops l ms):=rfl;rw[hc]at h;simp only[aH]at h;obtain⟨⟨⟨j,k⟩,g⟩,e⟩:=h;obtain⟨d,c⟩:=zE ops l ms e;refine⟨by simp[d],fun i f n b hm=>?_⟩
  cases i with
  |zero=>
   simp only[cn,bD.injEq]at b hm;subst b;subst hm;exact⟨(aG j).symm,(aG k).symm,(aG g).symm⟩
  |succ i=>exact c i f n (by simpa using b) (by simpa using hm)
theorem Fe(i:Nat)(m:DM):∀(l:List DM) (j0:Nat),Ff i m l j0=true→∀(j:Nat) (k:DM),l[j]? =some k→m.fr.testBit (j0+j)=true→j0+j=i∨k.am.testBit i=true∨Bi m k=true
 | [],j0,_,j,k,hk,_=>by simp at hk
 |x::l,j0,h,j,k,hk,hb=>by
  have hc:Ff i m (x::l) j0=((!(tb m.fr j0)||aW j0 i||tb x.am i||Bi m x)&&Ff i m l (eV j0)):=rfl
  rw[hc]at h;simp only[aH,iC,oV,zl]at h;cases j with
  |zero=>
   simp only[cn,bD.injEq]at hk;subst hk;simp only[Nat.add_zero]at hb⊢;rcases h.1 with((b|b)|b)|b
   ·rw[b]at hb;cases hb
   ·exact .inl (aG b)
   ·exact .inr (.inl b)
   ·exact .inr (.inr b)
  |succ j=>
   have:=Fe i m l (j0+1) h.2 j k (by simpa using hk) (by rw[show j0+1+j=j0+(j+1) by omega];exact hb)
   rw[show j0+1+j=j0+(j+1) by omega]at this
   exact this
theorem B1(b:List DM):∀(l:List DM) (i0:Nat),zN b l i0=true→∀(i:Nat) (m:DM),l[i]? =some m→Ff (i0+i) m b 0=true
 | [],i0,_,i,m,hm=>by simp at hm
 |x::l,i0,h,i,m,hm=>by
  have hc:zN b (x::l) i0=(Ff i0 x b 0&&zN b l (eV i0)):=rfl;rw[hc,aH]at h;cases i with
  |zero=>simp only[cn,bD.injEq]at hm;subst hm;exact h.1
  |succ i=>
   have:=B1 b l (i0+1) h.2 i m (by simpa using hm);rw[show i0+1+i=i0+(i+1) by omega]at this
   exact this
theorem E5:∀(l:List Oper),Hj l=true→∀o∈l,(∀cs b,o.op≠ .select cs b)∧(∀c,o.op≠ .defer c)
 | [],_,o,d=>by cases d
 |x::l,h,o,d=>by
  simp only[Hj,aH]at h;rcases ah.1 d with rfl|d
  ·refine⟨fun cs b e=>?_,fun c e=>?_⟩
   ·rw[e]at h;cases h.1
   ·rw[e]at h;cases h.1
  ·exact E5 l h.2 o d
theorem IX{ms:List DM}(h:CQ ops.toList ms=true):MsOk ops ms:=by
 have hc:CQ ops.toList ms=(vV ops.toList ops.toList ms&&zN ms ms 0&&Hj ops.toList):=rfl;rw[hc]at h;simp only[aH]at h;obtain⟨⟨g,n⟩,e⟩:=h;obtain⟨d,c⟩:=zE ops.toList ops.toList ms g;refine⟨fun i o m b hm j=>?_,fun i o m b hm t=>?_,fun i o m b hm t=>?_,by simpa using d,fun i j m k hm f p=>?_,fun i o b=>?_⟩
 ·rw[(c i o m (by simpa using b) hm).1,zW]
 ·rw[(c i o m (by simpa using b) hm).2.1,Eu]
 ·rw[(c i o m (by simpa using b) hm).2.2,wI]
 ·have:=B1 ms ms 0 n i m hm
  rw[az]at this;have:=Fe i m ms 0 this j k f (by rwa [az]);rwa [az]at this
 ·exact E5 _ e o (bh (by rw[aN];exact b))
theorem NU{ms:List DM}(hm:MsOk ops ms){i j:Nat}{e b:Oper}{k g:DM}(o:ops[i]? =some e) (n:ops[j]? =some b) (c:ms[i]? =some k) (f:ms[j]? =some g) (h:Bi k g=true):
  (∀d,e.dst=some d→d∉b.looksAt ops)∧(∀d,e.dst=some d→b.dst≠some d)∧(∀d,b.dst=some d→d∉e.looksAt ops):=by
 unfold Bi at h;rw[aH]at h;refine⟨fun d hd m=>?_,fun d hd p=>?_,fun d hd m=>?_⟩
 ·exact Bh h.1 d ((hm.ds i e k o c d).2 hd) (by rw[nh,(hm.lk j b g n f d).2 m,Bool.true_or])
 ·exact Bh h.1 d ((hm.ds i e k o c d).2 hd) (by rw[nh,(hm.ds j b g n f d).2 p,Bool.or_true])
 ·exact Bh h.2 d ((hm.ds j b g n f d).2 hd) ((hm.lk i e k o c d).2 m)
structure LsRel(ops:Array Oper)(ls:Nat)(listed:Array Bool):Prop where
 size:listed.size=ops.size
 bit:∀j,listed.getD j false=ls.testBit j
theorem LsRel.start:LsRel ops 0 (mS ops.size false):=⟨by simp,fun j=>by
 rw[Nat.zero_testBit,cr]
 by_cases h:j<ops.size<;>simp[h]⟩
theorem LsRel.put{ls:Nat}{listed:Array Bool}(h:LsRel ops ls listed){i:Nat}(b:i<ops.size):LsRel ops (ci ls (fY i)) (listed.setIfInBounds i true):=by
 refine⟨by simp[h.size],fun j=>?_⟩
 rw[nh,yK,←h.bit];by_cases e:i=j
 ·subst e;simp[h.size,b]
 ·simp[e,dF e]
theorem LsRel.unlisted{ls:Nat}{listed:Array Bool}(h:LsRel ops ls listed){i:Nat}(b:i<ops.size):listed.getD i true=ls.testBit i:=by
 rw[←h.bit];have:i<listed.size:=by rw[h.size];exact b
 simp[this]
theorem EZ{ms:List DM}(hm:MsOk ops ms){ls:Nat}{listed:Array Bool}(h:LsRel ops ls listed){j:Nat}:j∈Region.ready .any ops listed↔∃m,ms[j]? =some m∧ls.testBit j=false∧GB m ls=true:=by
 rw[mem_ready];constructor
 ·rintro⟨k,o,p,c⟩
  have b:j<ops.size:=(bE.1 p).1;have g:j<ms.length:=by rw[hm.len];exact b
  refine⟨ms[j],aA g,by rw[←h.unlisted b];exact k,?_⟩
  unfold GB;have:iL (ms[j]).am ls=(ms[j]).am:=by
   apply Nat.eq_of_testBit_eq;intro t;have i:(iL (ms[j]).am ls).testBit t=((ms[j]).am.testBit t&&ls.testBit t):=j1 _ _ t;rw[i];cases ht:(ms[j]).am.testBit t with
   |false=>rfl
   |true=>
    rw[hm.am j o _ p (aA g)]at ht;unfold ib at ht;obtain⟨e,n,d⟩:=bQ.1 ht;simp only[aH]at d;have:=c e (by simpa using n) d.2;rw[aG d.1,h.bit]at this;rw[this];rfl
  rw[this];exact rC _
 ·rintro⟨m,f,k,q⟩
  have b:j<ops.size:=by rw[←hm.len];exact(bA.1 f).1
  refine⟨by rw[h.unlisted b];exact k,ops[j],fJ b,fun e n d=>?_⟩
  rw[h.bit];refine O9 q e.on ?_;rw[hm.am j _ m (fJ b) f];unfold ib;exact bQ.2 ⟨e,by simpa using n,by simp[d]⟩
theorem rJ(ls:Nat):∀(l:List DM) (j0 j:Nat),j∈kS ls l j0↔∃k m,l[k]? =some m∧j=j0+k∧ls.testBit j=false∧GB m ls=true
 | [],j0,j=>by simp[show kS ls [] j0= []from rfl]
 |m::l,j0,j=>by
  have hc:kS ls (m::l) j0=bif !(tb ls j0)&&GB m ls then j0::kS ls l (eV j0)else kS ls l (eV j0):=rfl;have f:=rJ ls l (j0+1) j;rw[hc,zl];have step:(∃k d,(m::l)[k]? =some d∧j=j0+k∧ls.testBit j=false∧GB d ls=true)↔(j=j0∧ls.testBit j0=false∧GB m ls=true)∨j∈kS ls l (j0+1):=by
   rw[f];constructor
   ·rintro⟨k,d,e,rfl,b,c⟩
    cases k with
    |zero=>simp only[cn,bD.injEq]at e;subst e;exact .inl ⟨rfl,b,c⟩
    |succ k=>exact .inr ⟨k,d,by simpa using e,by omega,b,c⟩
   ·rintro(⟨rfl,b,c⟩|⟨k,d,e,rfl,b,c⟩)
    ·exact⟨0,m,rfl,rfl,b,c⟩
    ·exact⟨k+1,d,by simpa using e,by omega,b,c⟩
  rw[step];cases hb:(!(ls.testBit j0)&&GB m ls)with
  |true=>
   simp only[aH,oV]at hb;rw[cond_true,ah];simp[hb.1,hb.2]
  |false=>
   rw[cond_false];constructor
   ·exact .inr
   ·rintro(⟨_,b,c⟩|h)
    ·rw[b,c]at hb;cases hb
    ·exact h
theorem lB{ms:List DM}(hm:MsOk ops ms){ls:Nat}{listed:Array Bool}(h:LsRel ops ls listed){j:Nat}:j∈Region.ready .any ops listed↔j∈kS ls ms 0:=by
 rw[EZ hm h,rJ];constructor
 ·rintro⟨m,d,b,c⟩;exact⟨j,m,d,by omega,b,c⟩
 ·rintro⟨k,m,d,rfl,b,c⟩;exact⟨m,by simpa using d,b,c⟩
theorem xk:∀{a b:List Nat},uZ a b=true→a=b
 | [],[],_=>rfl
 | [],_::_,h=>by cases h
 |_::_,[],h=>by cases h
 |a::as,b::bs,h=>by
  simp only[uZ,aH]at h;rw[aG h.1,xk h.2]
end Go.Lift
namespace Go.Lift
open Go
variable {P:Program} {ro:Option Nat} {n:Nat} {ops:Array Oper} {Q:Exit→Act→World→Prop}
theorem zj{m:Nat}{p:Nat→Bool}(hm:∀j,m.testBit j=true→p j=true):∀(l:List DM) (j0:Nat),(∀j x,l[j]? =some x→p (j0+j)=true→∀k,x.am.testBit k=true→p k=true)→∀k,(LI m l j0).testBit k=true→p k=true
 | [],_,_,k,h=>hm k h
 |x::l,j0,hl,k,h=>by
  have hc:LI m (x::l) j0=bif tb m j0 then ci x.am (LI m l (eV j0))else LI m l (eV j0):=rfl;have b:=zj hm l (j0+1) (fun j y c d=>hl (j+1) y (by simpa using c) (by rw[show j0+(j+1)=j0+1+j by omega];exact d)) k
  rw[hc,zl]at h;cases hb:m.testBit j0 with
  |true=>
   rw[hb,cond_true,nh,iC]at h;rcases h with h|h
   ·exact hl 0 x rfl (hm _ hb) k h
   ·exact b h
  |false=>
   rw[hb,cond_false]at h;exact b h
theorem zi{m k:Nat}(h:m.testBit k=true):∀(l:List DM) (j0:Nat),(LI m l j0).testBit k=true
 | [],_=>h
 |x::l,j0=>by
  have hc:LI m (x::l) j0=bif tb m j0 then ci x.am (LI m l (eV j0))else LI m l (eV j0):=rfl;have b:=zi h l (j0+1);rw[hc];cases tb m j0 with
  |true=>rw[cond_true,nh,iC];exact .inr b
  |false=>exact b
def Shut(ms:List DM)(listed:Array Bool):Prop:=∀j x,ms[j]? =some x→listed.getD j false=true→∀k,x.am.testBit k=true→listed.getD k false=true
theorem Lu{ms:List DM}{listed:Array Bool}(d:Shut ms listed){m:Nat}(hm:∀j,m.testBit j=true→listed.getD j false=true){k:Nat}(h:(zQ ms m).testBit k=true):listed.getD k false=true:=by
 have b:∀j x,ms[j]? =some x→(fun k=>listed.getD k false) (0+j)=true→∀k,x.am.testBit k=true→(fun k=>listed.getD k false) k=true:=fun j x hx c=>d j x hx (by rw[az]at c;exact c)
 unfold zQ at h;exact zj (p:=fun k=>listed.getD k false) (zj (zj (zj hm ms 0 b) ms 0 b) ms 0 b) ms 0 b k h
theorem Fq{ms:List DM}{m k:Nat}(h:m.testBit k=true):(zQ ms m).testBit k=true:=by
 unfold zQ;exact zi (zi (zi (zi h ms 0) ms 0) ms 0) ms 0
noncomputable abbrev Ia(ms:List DM)(i:Nat)(L:qv):qv:=zw (zQ ms (Gs ms i)) L
theorem ja{m:Nat}{x:Nat×(ac→Prop)}:∀{L:qv},x∈zw m L↔x∈L∧tb m x.1=false
 | []=>by simp[zw]
 |(k,S)::L=>by
  have c:=ja (m:=m) (x:=x) (L:=L);simp only[zw];cases hk:tb m k with
  |true=>
   rw[cond_true,c,ah];constructor
   ·exact fun h=>⟨.inr h.1,h.2⟩
   ·rintro⟨h|h,b⟩
    ·subst h;rw[hk]at b;cases b
    ·exact⟨h,b⟩
  |false=>
   rw[cond_false,ah,c,ah];constructor
   ·rintro(h|h)
    ·subst h;exact⟨.inl rfl,hk⟩
    ·exact⟨.inr h.1,h.2⟩
   ·rintro⟨h|h,b⟩
    ·exact .inl h
    ·exact .inr ⟨h,b⟩
def LU(ms:List DM)(ro:Option Nat)(n:Nat)(P:Program)(ops:Array Oper)(Q:Exit→Act→World→Prop):Nat→qv→Array Bool→Act→World→Prop
 |0,_,listed,a,w=>Region.ready .any ops listed= []∧Q .normal a w
 |f+1,L,listed,a,w=>(Region.ready .any ops listed= []→Q .normal a w)∧
  ∀i∈Region.ready .any ops listed,∀o,ops[i]? =some o→
   wpOpIn (FW ro) n P ops Q i (fun a' w'=>(∀x∈Ia ms i L,x.2 w'.heap)∧LU ms ro n P ops Q f (Ia ms i L) (listed.setIfInBounds i true) a' w') a w
theorem vS{o:Oper}{x:Nat×(ac→Prop)}:∀{L:qv},x∈nW o L↔x∈L∧ib o x.1=false
 | []=>by simp[nW]
 |(k,S)::L=>by
  have c:=vS (o:=o) (x:=x) (L:=L);simp only[nW];cases hk:ib o k with
  |true=>
   rw[cond_true,c,ah];constructor
   ·exact fun h=>⟨.inr h.1,h.2⟩
   ·rintro⟨h|h,b⟩
    ·subst h;rw[hk]at b;cases b
    ·exact⟨h,b⟩
  |false=>
   rw[cond_false,ah,c,ah];constructor
   ·rintro(h|h)
    ·subst h;exact⟨.inl rfl,hk⟩
    ·exact⟨.inr h.1,h.2⟩
   ·rintro⟨h|h,b⟩
    ·exact .inl h
    ·exact .inr ⟨h,b⟩
theorem KW{listed:Array Bool}{i:Nat}(h:i∈Region.ready .any ops listed):∃o,ops[i]? =some o:=by
 obtain⟨_,o,b,_⟩:=mem_ready.1 h;exact⟨o,b⟩
theorem JP{ms:List DM}:∀(f:Nat) (L:qv) (listed:Array Bool) (a:Act) (w:World),LU ms ro n P ops Q f L listed a w→wpAnyIn (FW ro) n P .any ops Q f listed a w
 |0,_,_,_,_,h=>h
 |f+1,L,listed,a,w,h=>⟨h.1,fun i b=>by
  obtain⟨o,c⟩:=KW b
  exact wpOpIn_mono (fun a' w' h'=>JP f _ _ a' w' h'.2) (h.2 i b o c)⟩
theorem uo{ms:List DM}:∀(f:Nat) (L L':qv) (listed:Array Bool) (a:Act) (w:World),(∀x∈L',x∈L∨∀h,x.2 h)→LU ms ro n P ops Q f L listed a w→LU ms ro n P ops Q f L' listed a w
 |0,_,_,_,_,_,_,h=>h
 |f+1,L,L',listed,a,w,hs,h=>⟨h.1,fun i c o d=>by
  have b:∀x∈Ia ms i L',x∈Ia ms i L∨∀h,x.2 h:=fun x hx=>(hs x (ja.1 hx).1).imp (fun h=>ja.2 ⟨h,(ja.1 hx).2⟩) id
  exact wpOpIn_mono (fun a' w' h'=>⟨fun x hx=>(b x hx).elim (h'.1 x) fun h=>h _,uo f _ _ _ a' w' b h'.2⟩) (h.2 i c o d)⟩
def YG(P:Program)(ops:Array Oper)(S:ac→Prop)(o:Oper)(v:Value)(a:Act):Prop:=
 (Region.wanted o (yielded ops a.tmps)=true∧∀w:World,S w.heap→(execOp a.eval o).run P w=.ok (.value v) w)∨
 (Region.wanted o (yielded ops a.tmps)=false∧v=undef)
theorem YG.wpOp{S:ac→Prop}{i:Nat}{o:Oper}{v:Value}{a:Act}(f:ops[i]? =some o) (hd:∀c,o.op≠ .defer c) (g:YG P ops S o v a) {K:Act→World→Prop} {w:World} (d:S w.heap)
  (h:K (a.put o.dst v) w):wpOpIn (FW ro) n P ops Q i K a w:=by
 unfold wpOpIn;simp only[f];rcases g with⟨b,e⟩|⟨b,rfl⟩
 ·simp only[b,if_true]
  refine⟨fun _ _=>trivial,?_⟩
  rw[Oper.semAt_eq _ _ _ hd,e w d];exact h
 ·simp only[b,Bool.false_eq_true,if_false];exact⟨fun _ _=>trivial,h⟩
theorem YG.of_same{S:ac→Prop}{o:Oper}{v:Value}{a a':Act}(c:YG P ops S o v a)(d:execOp a'.eval o=execOp a.eval o)
  (b:Region.wanted o (yielded ops a'.tmps)=Region.wanted o (yielded ops a.tmps)):YG P ops S o v a':=by
 unfold YG at*;rw[d,b];exact c
theorem Ib{S:ac→Prop}{j:Nat}{g i:Oper}{v:Value}(D:ops[j]? =some i)
  (z:(∀d,g.dst=some d→d∉i.looksAt ops)∧(∀d,g.dst=some d→i.dst≠some d)∧(∀d,i.dst=some d→d∉g.looksAt ops))
  (s:∀cs b,g.op≠ .select cs b) (A:∀cs b,i.op≠ .select cs b) (t:∀c,i.op≠ .defer c)
  (C:∀e a w,(∀c,e=.panic c→False)∨¬Q e a w) {K:Act→World→Prop} {a:Act} {w:World}
  (m:YG P ops S g v a) (h:wpOpIn (FW ro) n P ops Q j K (a.put g.dst v) w):
  wpOpIn (FW ro) n P ops Q j (fun a' w'=>YG P ops S g v a'∧K (a'.put g.dst v) w') a w:=by
 obtain⟨B,p,y⟩:=z;have o:∀c a w,¬Q (.panic c) a w:=fun c a w E=>(C (.panic c) a w).elim (fun h=>h c rfl) fun h=>h E
 have keep:∀(a:Act),YG P ops S g v a→∀u,YG P ops S g v (a.put i.dst u):=fun a m u=>
  m.of_same (execOp_put g s a i.dst u y) (wanted_put g a i.dst u y)
 unfold wpOpIn at*;simp only[D]at*;rw[wanted_put i a g.dst v B]at h;split
 ·rename_i hw
  simp only[hw,if_true]at h;refine⟨fun _ _=>trivial,?_⟩
  have h:=h.2;rw[Oper.semAt_eq _ _ _ t,execOp_put i A a g.dst v B]at h;rw[Oper.semAt_eq _ _ _ t];generalize (execOp a.eval i).run P w=r at*;cases r with
  |ok x w'=>
   cases x<;>simp only[Oper.uponIn]at h⊢
   case value u=>exact⟨keep a m u,by rw[←Act.put_comm a v u p];exact h⟩
   case skip=>exact⟨keep a m _,by rw[←Act.put_comm a v undef p];exact h⟩
   case defer d=>
    refine⟨(m.of_same (a':={a with defers:=d::a.defers}) rfl rfl).of_same (execOp_put g s _ i.dst undef y) (wanted_put g _ i.dst undef y),?_⟩;rw[←Act.put_comm _ v undef p,←Act.put_defers];exact h
   case enter f args=>
    refine⟨h.1,CallsIn.mono h.2 fun e q k=>?_⟩
    cases e with
    |returned u=>exact⟨keep a m u,by rw[←Act.put_comm a v u p];exact k⟩
    |panicked c=>exact(o _ _ _ k).elim
    |outgrown=>exact k
   case row row args=>exact⟨h.1,RowsIn.mono h.2 fun u q k=>⟨keep a m u,by rw[←Act.put_comm a v u p];exact k⟩⟩
   case round l f tmps assign body=>
    refine⟨h.1,RoundIn.mono h.2 fun e q k=>?_⟩
    cases e with
    |returned u=>exact⟨keep a m u,by rw[←Act.put_comm a v u p];exact k⟩
    |panicked c=>exact(o _ _ _ k).elim
    |outgrown=>exact k
  |halt x w'=>
   cases x<;>simp only[Oper.uponIn]at h⊢
   case panic u=>exact(o _ _ _ h).elim
 ·rename_i hw
  simp only[hw]at h;exact⟨fun _ _=>trivial,keep a m _,by rw[←Act.put_comm a v undef p];exact h.2⟩
theorem Gr{ms:List DM}(hm:MsOk ops ms){i:Nat}{o:Oper}(c:ops[i]? =some o) (k:Nat):(Gs ms i).testBit k=ib o k:=by
 have b:i<ms.length:=by rw[hm.len];exact(bE.1 c).1
 unfold Gs;rw[aA b];exact hm.am i o _ c (aA b) k
theorem G4{ms:List DM}(hm:MsOk ops ms){listed:Array Bool}{j:Nat}(g:j∈Region.ready .any ops listed)(k:Nat)(c:(Gs ms j).testBit k=true):listed.getD k false=true:=by
 obtain⟨_,o,i,b⟩:=mem_ready.1 g;rw[Gr hm i]at c;unfold ib at c;obtain⟨e,f,d⟩:=bQ.1 c;simp only[aH]at d;have:=b e (by simpa using f) d.2;rw[aG d.1]at this;exact this
theorem Hy{listed:Array Bool}{j k:Nat}(h:listed.getD k false=true):(listed.setIfInBounds j true).getD k false=true:=by
 by_cases e:j=k
 ·subst e
  rw[cr]at h⊢;rcases cF j listed.size with h'|h'
  ·simp[h']
  ·simp[jL h']at h
 ·rw[cr,dF e,←cr]
  exact h
theorem Shut.put{ms:List DM}(hm:MsOk ops ms){listed:Array Bool}(d:Shut ms listed){j:Nat}(f:j∈Region.ready .any ops listed):Shut ms (listed.setIfInBounds j true):=by
 intro i x hx c k b;by_cases e:j=i
 ·subst e
  refine Hy (G4 hm f k ?_);unfold Gs;rw[hx];exact b
 ·rw[cr,dF e,←cr]at c
  exact Hy (d i x hx c k b)
theorem CY{ms:List DM}(hm:MsOk ops ms){S:ac→Prop}{i:Nat}{t:Oper}{v:Value}(C:ops[i]? =some t) (m:∀(j:Nat) (o:Oper),ops[j]? =some o→(∀cs b,o.op≠ .select cs b)∧(∀c,o.op≠ .defer c))
  (hQ:∀e a w,(∀c,e=.panic c→False)∨¬Q e a w):
  ∀(fuel:Nat) (L:qv) (listed:Array Bool) (a:Act) (w:World),
   (∀j s,ops[j]? =some s→j≠i→listed.getD j true=false→ib s i=false→
    (∀d,t.dst=some d→d∉s.looksAt ops)∧(∀d,t.dst=some d→s.dst≠some d)∧(∀d,s.dst=some d→d∉t.looksAt ops))→
   Shut ms listed→i∈Region.ready .any ops listed→YG P ops S t v a→S w.heap→(∀x∈L,x.2 w.heap)→
   LU ms ro n P ops Q fuel ((i,S)::L) (listed.setIfInBounds i true) (a.put t.dst v) w→LU ms ro n P ops Q (fuel+1) L listed a w:=by
 intro fuel;induction fuel with
 |zero=>
  intro L listed a w _ _ z U V W H;refine⟨fun h=>(by rw[h]at z;cases z),fun j F s f=>?_⟩
  by_cases g:j=i
  ·subst g
   rw[C]at f;cases f;exact U.wpOp C (m _ _ C).2 V ⟨fun x hx=>W x (ja.1 hx).1,H⟩
  ·have:=ready_mono F g
   rw[H.1]at this;cases this
 |succ fuel ih=>
  intro L listed a w q J z U V W H;refine⟨fun h=>(by rw[h]at z;cases z),fun j F s f=>?_⟩
  by_cases g:j=i
  ·subst g
   rw[C]at f;cases f;exact U.wpOp C (m _ _ C).2 V ⟨fun x hx=>W x (ja.1 hx).1,uo _ _ _ _ _ _ (fun x hx=>.inl (aQ _ (ja.1 hx).1)) H⟩
  ·have p:=H.2 j (ready_mono F g) s f
   obtain⟨B,oj',A,I⟩:=mem_ready.1 F;rw[f]at A;cases A;have K:ib s i=false:=by
    cases y:ib s i with
    |false=>rfl
    |true=>
     unfold ib at y;obtain⟨e,Z,y⟩:=bQ.1 y;simp only[aH]at y;have p:=I e (by simpa using Z) y.2;rw[aG y.1]at p;have G:=(mem_ready.1 z).1;rcases cF i listed.size with h'|h'
     ·simp[h']at G p;rw[G]at p;cases p
     ·simp[jL h']at p
   have E:tb (zQ ms (Gs ms j)) i=false:=by
    cases y:tb (zQ ms (Gs ms j)) i with
    |false=>rfl
    |true=>
     rw[zl]at y;have p:=Lu J (G4 hm F) y;have G:=(mem_ready.1 z).1;rcases cF i listed.size with h'|h'
     ·simp[h']at G p;rw[G]at p;cases p
     ·simp[jL h']at p
   have R:Ia ms j ((i,S)::L)=(i,S)::Ia ms j L:=by simp only[Ia,zw,E,cond_false]
   rw[R]at p;have h2:=Ib f (q j s f g B K) (m _ _ C).1 (m _ _ f).1 (m _ _ f).2 hQ U p;have u:∀k D,ops[k]? =some D→k≠i→(listed.setIfInBounds j true).getD k true=false→ib D i=false→
     (∀d,t.dst=some d→d∉D.looksAt ops)∧(∀d,t.dst=some d→D.dst≠some d)∧(∀d,D.dst=some d→d∉t.looksAt ops):=fun k D hk X T Y=>by
    refine q k D hk X ?_ Y;by_cases N:j=k
    ·subst N;exact B
    ·rw[getD_set_ne true N]at T;exact T
   refine wpOpIn_mono (fun a' w' O=>⟨fun x hx=>O.2.1 x (aQ _ hx),ih (Ia ms j L) (listed.setIfInBounds j true) a' w' u (J.put hm F) (ready_mono z (Ne.symm g)) O.1 (O.2.1 _ (aP ..)) (fun x hx=>O.2.1 x (aQ _ hx)) ?_⟩) h2
   rw[Array.setIfInBounds_comm _ _ g];exact O.2.2
theorem rr{h:ac}{R:Prop}:∀{L:qv},rN L h R↔(∀x∈L,x.2 h)∧R
 | []=>by simp[rN]
 |(k,S)::L=>by
  simp only[rN,rr (L:=L),ah,forall_eq_or_imp,and_assoc]
theorem LS{ms:List DM}{f:Nat}{L:qv}{listed:Array Bool}{a:Act}{w:World}(b:Region.ready .any ops listed= [])(h:Q .normal a w):LU ms ro n P ops Q f L listed a w:=by
 cases f with
 |zero=>exact⟨b,h⟩
 |succ f=>exact⟨fun _=>h,by rw[b];simp⟩
def left(ops:Array Oper)(ls:Nat):Nat:=((dK ops.size).filter fun j=> !ls.testBit j).length
theorem vX{ls i:Nat}(k:i<ops.size)(g:ls.testBit i=false):left ops (ci ls (fY i))+1=left ops ls:=by
 have key:∀l:List Nat,l.Nodup→i∈l→(l.filter fun j=> !(ci ls (fY i)).testBit j).length+1=(l.filter fun j=> !ls.testBit j).length:=by
  intro l;induction l with
  |nil=>intro _ h;cases h
  |cons x l ih=>
   intro d hm;rw[List.nodup_cons]at d;by_cases hx:x=i
   ·subst hx
    have b:(l.filter fun j=> !(ci ls (fY x)).testBit j)=l.filter fun j=> !ls.testBit j:=by
     apply List.filter_congr;intro y m;have:x≠y:=fun e=>d.1 (e▸m)
     rw[nh,yK,decide_eq_false this,Bool.or_false]
    have c:(ci ls (fY x)).testBit x=true:=by rw[nh,yK];simp
    rw[ba,ba,c,g,b];rfl
   ·have f:i∈l:=by rcases ah.1 hm with h|h;exact absurd h.symm hx;exact h
    have c:(ci ls (fY i)).testBit x=ls.testBit x:=by rw[nh,yK,decide_eq_false (Ne.symm hx),Bool.or_false]
    have:=ih d.2 f;rw[ba,ba,c];cases ls.testBit x with
    |true=>exact this
    |false=>exact congrArg (· +1) this
 exact key _ List.nodup_range (List.mem_range.2 k)
theorem Ll{N:Nat}{b:List Oper}{ms:List DM}{ls:Nat}{L:qv}{d:uS}{K:bP→ac→Prop}{r:bP}{c:ac}:∀{l:DA},mo P N b ms l true ls L d K r c→∃i,i∈Ba l
 | .done,h=>h.elim
 | .take i rest,h=>by
  exfalso;have hc:mo P N b ms (.take i rest) true ls L d K r c=(match b[i]?,ms[i]? with|some _,some _=>False|_,_=>False):=rfl
  rw[hc]at h;split at h<;>exact h
 | .all _,h=>h.elim
 | .pick i _ _,_=>⟨i,aP ..⟩
 | .last i _,_=>⟨i,aP ..⟩
 | .lastT i _,_=>⟨i,aP ..⟩
 | .split ..,h=>h.elim
def JJ(ro:Option Nat)(n:Nat)(P:Program)(ops:Array Oper)(Q:Exit→Act→World→Prop)(N:Nat)(ms:List DM)(W:Nat→Prop)(c:Act)(e:World)(K:bP→ac→Prop)(b:DA):Prop:=
 ∀(m:Bool) (ls:Nat) (L:qv) (d:uS) (r:bP) (a:Act) (w:World) (listed:Array Bool) (fuel:Nat),
  mo P N ops.toList ms b m ls L d K r w.heap→Agree N r a→DecOk d r→Fr W c e a w→LsRel ops ls listed→Shut ms listed→(∀x∈L,x.2 w.heap)→
  (m=false→left ops ls≤fuel→LU ms ro n P ops Q fuel L listed a w)∧
  (m=true→left ops ls≤fuel+1→∀i∈Ba b,i∈kS ls ms 0→∀o,ops[i]? =some o→
   wpOpIn (FW ro) n P ops Q i (fun a' w'=>(∀x∈Ia ms i L,x.2 w'.heap)∧LU ms ro n P ops Q fuel (Ia ms i L) (listed.setIfInBounds i true) a' w') a w)
theorem GW{N:Nat}{ms:List DM}(hm:MsOk ops ms){W:Nat→Prop}(hW:∀o∈ops.toList,∀d,o.dst=some d→W d){a0:Act}{w0:World}{K:bP→ac→Prop}
  (hQ:∀r a w,Agree N r a→Fr W a0 w0 a w→K r w.heap→Q .normal a w)(hnp:∀e a w,(∀c,e=.panic c→False)∨¬Q e a w)(da:DA):
  JJ ro n P ops Q N ms W a0 w0 K da:=by
 have one:∀(i:Nat) (g:DA)
   (_:JJ ro n P ops Q N ms W a0 w0 K g)
   (ls:Nat) (L:qv) (d:uS) (r:bP) (a:Act) (w:World) (listed:Array Bool) (fuel:Nat),
   KT P N ops.toList i L d r w.heap (fun L' d' D h'=>mo P N ops.toList ms g false (ci ls (fY i)) L' d' K D h')→Agree N r a→DecOk d r→Fr W a0 w0 a w→LsRel ops ls listed→Shut ms listed→
   left ops ls≤fuel+1→i∈kS ls ms 0→∀o,ops[i]? =some o→
    wpOpIn (FW ro) n P ops Q i (fun a' w'=>(∀x∈Ia ms i L,x.2 w'.heap)∧LU ms ro n P ops Q fuel (Ia ms i L) (listed.setIfInBounds i true) a' w') a w:=by
  intro i g V ls L d r a w listed fuel f z hd G B p y hr o s;have A:i<ops.size:=(bE.1 s).1;obtain⟨k,mm,hk,hki,J,_⟩:=(rJ ls ms 0 i).1 hr;unfold KT at f;rw[aN,s]at f;simp only at f;cases hw:ia ops.toList d o with
  |none=>rw[hw]at f;exact f.elim
  |some b=>
   rw[hw]at f;cases b with
   |false=>exact f.elim
   |true=>
    simp only at f;cases hq:vv P o.op with
    |true=>
     rw[hq,cond_true]at f;unfold wpOpIn;rw[s];simp only[mh hw z hd,if_true];obtain⟨v,S,hK,hS,_,X⟩:=AV z f d hd;refine pJ (K:=fun u h'=>u=v∧h'=w.heap) (BW f) (.inl ⟨v,w,X w hS,Tame.refl w,rfl,rfl⟩) ?_
     rintro u w' ht ⟨rfl,hw'⟩;obtain⟨D,F,I,H⟩:=th (dv:=.x) hK z hd trivial;obtain⟨hh,Y⟩:=rr.1 F;have C:o∈ops.toList:=bh (by rw[aN];exact s);have O:=vX A J;have E:∀x∈Ia ms i L,x∈nW o L:=fun x hx=>vS.2 ⟨(ja.1 hx).1,by
      cases hb:ib o x.1 with
      |false=>rfl
      |true=>
        have:=(ja.1 hx).2
        rw[zl,Fq (by rw[Gr hm s];exact hb)]at this;cases this⟩
     rw[←hw']at hh Y;exact⟨fun x hx=>hh x (E x hx),uo _ _ _ _ _ _ (fun x hx=>.inl (E x hx)) ((V false _ _ _ D _ w' _ fuel Y I H (G.put (hW o C) u ht) (B.put A) (p.put hm ((lB hm B).2 hr)) hh).1 rfl (by omega))⟩
    |false=>
     rw[hq,cond_false]at f;unfold wpOpIn;rw[s];simp only[mh hw z hd,if_true];refine pJ (vN f) (AJ z f) ?_;intro v w' ht hK;obtain⟨D,F,I,H⟩:=th (dv:=.x) hK z hd trivial;obtain⟨hh,Y⟩:=rr.1 F;have C:o∈ops.toList:=bh (by rw[aN];exact s);have O:=vX A J;have E:∀x∈Ia ms i L,x∈nW o L:=fun x hx=>vS.2 ⟨(ja.1 hx).1,by
      cases hb:ib o x.1 with
      |false=>rfl
      |true=>
        have:=(ja.1 hx).2
        rw[zl,Fq (by rw[Gr hm s];exact hb)]at this;cases this⟩
     exact⟨fun x hx=>hh x (E x hx),uo _ _ _ _ _ _ (fun x hx=>.inl (E x hx)) ((V false _ _ _ D _ w' _ fuel Y I H (G.put (hW o C) v ht) (B.put A) (p.put hm ((lB hm B).2 hr)) hh).1 rfl (by omega))⟩
 have oneT:∀(i:Nat) (g:DA)
   (_:JJ ro n P ops Q N ms W a0 w0 K g)
   (ls:Nat) (L:qv) (d:uS) (r:bP) (a:Act) (w:World) (listed:Array Bool) (fuel:Nat),
   Ka P N ops.toList ms i L d r w.heap (fun L' d' D h'=>mo P N ops.toList ms g false (ci ls (fY i)) L' d' K D h')→Agree N r a→DecOk d r→Fr W a0 w0 a w→LsRel ops ls listed→Shut ms listed→
   left ops ls≤fuel+1→i∈kS ls ms 0→∀o,ops[i]? =some o→
    wpOpIn (FW ro) n P ops Q i (fun a' w'=>(∀x∈Ia ms i L,x.2 w'.heap)∧LU ms ro n P ops Q fuel (Ia ms i L) (listed.setIfInBounds i true) a' w') a w:=by
  intro i g V ls L d r a w listed fuel f z hd G B p y hr o s;have A:i<ops.size:=(bE.1 s).1;obtain⟨k,mm,hk,hki,J,_⟩:=(rJ ls ms 0 i).1 hr;unfold Ka at f;rw[aN,s]at f;simp only at f;cases hw:ia ops.toList d o with
  |none=>rw[hw]at f;exact f.elim
  |some b=>
   rw[hw]at f;cases b with
   |false=>exact f.elim
   |true=>
    simp only at f;cases hq:vv P o.op with
    |true=>rw[hq]at f;exact f.elim
    |false=>
     rw[hq,cond_false]at f;unfold wpOpIn;rw[s];simp only[mh hw z hd,if_true];refine pJ (vN f) (AJ z f) ?_;intro v w' ht hK;obtain⟨D,F,I,H⟩:=th (dv:=.x) hK z hd trivial;obtain⟨hh,Y⟩:=rr.1 F;have C:o∈ops.toList:=bh (by rw[aN];exact s);have O:=vX A J;exact⟨hh,(V false _ _ _ D _ w' _ fuel Y I H (G.put (hW o C) v ht) (B.put A) (p.put hm ((lB hm B).2 hr)) hh).1 rfl (by omega)⟩
 induction da with
 |done=>
  intro m ls L d r a w listed fuel f z hd G B p T;cases m with
  |true=>exact f.elim
  |false=>
   refine⟨fun _ _=>?_,fun h=>by cases h⟩
   have hc:mo P N ops.toList ms .done false ls L d K r w.heap=bif uZ (kS ls ms 0) []then K r w.heap else False:=rfl;rw[hc]at f;cases hb:uZ (kS ls ms 0) []with
   |false=>rw[hb]at f;exact f.elim
   |true=>
    rw[hb]at f;have hnil:Region.ready .any ops listed= []:=by
     apply List.eq_nil_iff_forall_not_mem.2;intro j R;rw[lB hm B,xk hb]at R;cases R
    exact LS hnil (hQ r a w z G f)
 |take i g V=>
  intro m ls L d r a w listed fuel f z hd G B p T;cases m with
  |true=>
   exfalso;have hc:mo P N ops.toList ms (.take i g) true ls L d K r w.heap=(match ops.toList[i]?,ms[i]? with|some _,some _=>False|_,_=>False):=rfl
   rw[hc]at f;split at f<;>exact f
  |false=>
   refine⟨fun _ y=>?_,fun h=>by cases h⟩
   have hc:mo P N ops.toList ms (.take i g) false ls L d K r w.heap=(match ops.toList[i]?,ms[i]? with
    |some o,some mi=>bif C8 mi i ls ops.toList.length then
      (match ia ops.toList d o with
       |none=>False
       |some false=>yG N o undef r fun D=>mo P N ops.toList ms g false (ci ls (fY i)) L (rv d o .u) K D w.heap
       |some true=>bif vv P o.op then
          AG P none o.op r (fun v S=>yG N o v r fun D=>match S with
            |none=>mo P N ops.toList ms g false (ci ls (fY i)) L (rv d o (GD d o.op)) K D w.heap
            |some S=>mo P N ops.toList ms g false (ci ls (fY i)) ((i,S)::L) (rv d o (GD d o.op)) K D w.heap) w.heap
          else False)
     else False
    |_,_=>False):=rfl
   rw[hc]at f;split at f
   ·rename_i o mi s hmi
    rw[aN]at s;cases htk:C8 mi i ls ops.toList.length with
    |false=>rw[htk]at f;exact f.elim
    |true=>
     rw[htk,cond_true]at f;unfold C8 at htk;simp only[aH,oV,zl]at htk;obtain⟨⟨hun,hrd⟩,hfr⟩:=htk;have A:i<ops.size:=(bE.1 s).1;have q:i∈Region.ready .any ops listed:=(EZ hm B).2 ⟨mi,hmi,hun,hrd⟩;have O:=vX (ops:=ops) A hun;obtain⟨f',rfl⟩:∃f',fuel=f'+1:=⟨fuel-1,by omega⟩
     have C:o∈ops.toList:=bh (by rw[aN];exact s);have hcov:∀j,j<ops.size→ls.testBit j=true∨mi.fr.testBit j=true:=by
      intro j R;have h0:=aG hfr;have hpb:(xf (fY ops.toList.length)).testBit j=true:=by
        have:xf (fY ops.toList.length)=2^ops.toList.length-1:=rfl;rw[this,Nat.testBit_two_pow_sub_one];simpa using R
      have hand:(iL (ci ls mi.fr) (xf (fY ops.toList.length))).testBit j=((ci ls mi.fr).testBit j&&(xf (fY ops.toList.length)).testBit j):=j1 _ _ j;rw[h0,hpb,Bool.and_true,nh]at hand;exact(Bool.or_eq_true_iff).1 hand.symm
     have U:∀j oj,ops[j]? =some oj→j≠i→listed.getD j true=false→ib oj i=false→
        (∀d,o.dst=some d→d∉oj.looksAt ops)∧(∀d,o.dst=some d→oj.dst≠some d)∧(∀d,oj.dst=some d→d∉o.looksAt ops):=by
      intro j oj hoj hne hju hna;have R:j<ops.size:=(bE.1 hoj).1;rw[B.unlisted R]at hju;have hjm:j<ms.length:=by rw[hm.len];exact R
      have hmj:=aA hjm;rcases hcov j R with h|h
      · rw[h]at hju;cases hju
      · rcases hm.free i j mi _ hmi hmj h with h|h|h
        ·exact absurd h hne
        ·rw[hm.am j oj _ hoj hmj,hna]at h;cases h
        ·exact NU hm s hoj hmi hmj h
     cases hw:ia ops.toList d o with
     |none=>rw[hw]at f;exact f.elim
     |some b=>
      rw[hw]at f;have hwd:=mh hw z hd;cases b with
      |false=>
        obtain⟨D,F,I,H⟩:=th (dv:=.u) f z hd rfl;have hy:YG P ops (fun _=>True) o undef a:=.inr ⟨hwd,rfl⟩
        refine CY hm s hm.nosel hnp f' L listed a w U p q hy trivial T ?_;refine uo _ L _ _ _ _ (fun x hx=>(ah.1 hx).elim (fun e=>.inr fun h=>by rw[e];trivial) .inl) ?_
        exact(V false _ _ _ D _ w _ f' F I H (G.put (hW o C) undef (Tame.refl w)) (B.put A) (p.put hm q) T).1 rfl (by omega)
      |true=>
        simp only at f;cases hq:vv P o.op with
        |false=>rw[hq]at f;exact f.elim
        |true=>
         rw[hq,cond_true]at f;obtain⟨v,S,hK,hS,hdv,X⟩:=AV z f d hd;obtain⟨D,F,I,H⟩:=th hK z hd hdv;have hfr':=G.put (hW o C) v (Tame.refl w);cases S with
         |none=>
           have hy:YG P ops (fun _=>True) o v a:=.inl ⟨hwd,fun w _=>X w trivial⟩
           refine CY hm s hm.nosel hnp f' L listed a w U p q hy trivial T ?_;refine uo _ L _ _ _ _ (fun x hx=>(ah.1 hx).elim (fun e=>.inr fun h=>by rw[e];trivial) .inl) ?_
           exact(V false _ _ _ D _ w _ f' F I H hfr' (B.put A) (p.put hm q) T).1 rfl (by omega)
         |some S=>
           have hy:YG P ops S o v a:=.inl ⟨hwd,fun w h=>X w h⟩
           refine CY hm s hm.nosel hnp f' L listed a w U p q hy hS T ?_;exact(V false _ _ _ D _ w _ f' F I H hfr' (B.put A) (p.put hm q) (fun x hx=>(ah.1 hx).elim (fun e=>by rw[e];exact hS) (T x))).1 rfl (by omega)
   ·exact f.elim
 |all l V=>
  intro m ls L d r a w listed fuel f z hd G B p T;cases m with
  |true=>exact f.elim
  |false=>
   refine⟨fun _ y=>?_,fun h=>by cases h⟩
   have hc:mo P N ops.toList ms (.all l) false ls L d K r w.heap=bif uZ (kS ls ms 0) (Ba l)then mo P N ops.toList ms l true ls L d K r w.heap else False:=rfl;rw[hc]at f;cases hb:uZ (kS ls ms 0) (Ba l)with
   |false=>rw[hb]at f;exact f.elim
   |true=>
    rw[hb,cond_true]at f;obtain⟨i,hi⟩:=Ll f;rw[←xk hb]at hi;have hrd:=(lB hm B (j:=i)).2 hi;obtain⟨k,mm,hk,hki,J,_⟩:=(rJ ls ms 0 i).1 hi;have A:i<ops.size:=by
     have:=(bA.1 hk).1;rw[hm.len]at this;omega
    have O:=vX (ops:=ops) A J;obtain⟨f',rfl⟩:∃f',fuel=f'+1:=⟨fuel-1,by omega⟩
    refine⟨fun h=>(by rw[h]at hrd;cases hrd),fun j R o s=>?_⟩
    have hj':=(lB hm B).1 R;exact(V true ls L d r a w listed f' f z hd G B p T).2 rfl y j (by rw[←xk hb];exact hj') hj' o s
 |pick i g more ih1 ih2=>
  intro m ls L d r a w listed fuel f z hd G B p T;cases m with
  |false=>exact f.elim
  |true=>
   refine⟨fun h=>(by cases h),fun _ y j R Z o s=>?_⟩
   have f:KT P N ops.toList i L d r w.heap (fun L' d' D h'=>mo P N ops.toList ms g false (ci ls (fY i)) L' d' K D h')∧mo P N ops.toList ms more true ls L d K r w.heap:=f
   rcases ah.1 R with rfl|R
   ·exact one _ g ih1 ls L d r a w listed fuel f.1 z hd G B p y Z o s
   ·exact(ih2 true ls L d r a w listed fuel f.2 z hd G B p T).2 rfl y j R Z o s
 |last i g V=>
  intro m ls L d r a w listed fuel f z hd G B p T;cases m with
  |false=>exact f.elim
  |true=>
   refine⟨fun h=>(by cases h),fun _ y j R Z o s=>?_⟩
   have f:KT P N ops.toList i L d r w.heap (fun L' d' D h'=>mo P N ops.toList ms g false (ci ls (fY i)) L' d' K D h'):=f
   have hji:j=i:=ak.1 R;subst hji;exact one _ g V ls L d r a w listed fuel f z hd G B p y Z o s
 |lastT i g V=>
  intro m ls L d r a w listed fuel f z hd G B p T;cases m with
  |false=>exact f.elim
  |true=>
   refine⟨fun h=>(by cases h),fun _ y j R Z o s=>?_⟩
   have f:Ka P N ops.toList ms i L d r w.heap (fun L' d' D h'=>mo P N ops.toList ms g false (ci ls (fY i)) L' d' K D h'):=f
   have hji:j=i:=ak.1 R;subst hji;exact oneT _ g V ls L d r a w listed fuel f z hd G B p y Z o s
 |split t yes no ih1 ih2=>
  intro m ls L d r a w listed fuel f z hd G B p T;cases m with
  |true=>exact f.elim
  |false=>
   refine⟨fun _ y=>?_,fun h=>by cases h⟩
   have hc:mo P N ops.toList ms (.split t yes no) false ls L d K r w.heap=(match jr r t with
    |some (.bool b)=>CondP b (mo P N ops.toList ms yes false ls L ((t,.t)::d) K ((t,.bool true)::r) w.heap) (mo P N ops.toList ms no false ls L ((t,.f)::d) K ((t,.bool false)::r) w.heap)
    |_=>False):=rfl
   rw[hc]at f;split at f
   ·rename_i b hlk
    cases b with
    |true=>exact(ih1 false ls L _ _ a w listed fuel (f.yes rfl) (z.known hlk) (hd.known rfl) G B p T).1 rfl y
    |false=>exact(ih2 false ls L _ _ a w listed fuel (f.no rfl) (z.known hlk) (hd.known rfl) G B p T).1 rfl y
   ·exact f.elim
end Go.Lift
namespace Go.Lift
open Go
variable {P:Program} {ro:Option Nat} {n:Nat}
theorem E8{r:bP}:∀{l:List Nat} {r0:bP},Kl r l=some r0→∀t v,jr r0 t=some v→t∈l∧jr r t=some v
 | [],r0,h,t,v,hv=>by cases h;cases hv
 |s::l,r0,h,t,v,hv=>by
  have h:(match jr r s,Kl r l with|some v,some l=>some ((s,v)::l)|_,_=>none)=some r0:=h
  split at h
  ·rename_i u l' hu hl
   cases h;by_cases e:s=t
   ·subst e;rw[gK]at hv;cases hv;exact⟨aP ..,hu⟩
   ·rw[fZ u _ e]at hv
    have:=E8 hl t v hv;exact⟨aQ _ this.1,this.2⟩
  ·cases h
theorem A4{m:Nat}{t:Nat}{v:Value}:∀{r:bP},jr (vZ m r) t=some v→m.testBit t=false∧jr r t=some v
 | [],h=>by cases h
 |(k,u)::r,h=>by
  have h:jr (bif tb m k then vZ m r else(k,u)::vZ m r) t=some v:=h;cases hk:tb m k with
  |true=>
   rw[hk]at h;have:=A4 h;by_cases e:k=t
   ·subst e;rw[zl,this.1]at hk;cases hk
   ·rw[fZ u _ e];exact this
  |false=>
   rw[hk]at h;have h:jr ((k,u)::vZ m r) t=some v:=h;by_cases e:k=t
   ·subst e;rw[gK]at h⊢;rw[zl]at hk;exact⟨hk,h⟩
   ·rw[fZ u _ e]at h⊢;exact A4 h
theorem AI{t:Nat}:∀{l:List Oper},(LW l).testBit t=false→¬kM t l=true
 | [],_,h=>by cases h
 |o::l,hm,h=>by
  have hm:(ci (mM o) (LW l)).testBit t=false:=hm;rw[nh,lu]at hm;have h:(match o.dst with|some d=>bif aW d t then true else kM t l|none=>kM t l)=true:=h
  cases hd:o.dst with
  |none=>rw[hd]at h;exact AI hm.2 h
  |some d=>
   rw[hd]at h;cases e:aW d t with
   |true=>have:=(wI o t).2 (by rw[hd,aG e]);rw[hm.1]at this;cases this
   |false=>simp only[e]at h;exact AI hm.2 h
theorem Hi{a b:Option Nat}{m:Nat}(h:Q0 a b=some m):∃x y,a=some x∧b=some y∧m=ci x y:=by
 cases a<;>cases b<;>cases h
 exact⟨_,_,rfl,rfl,rfl⟩
theorem LV{t:Nat}(c:Code):∀{m:Nat},xQ c=some m→m.testBit t=false→¬fE t c=true:=by
 induction c with
 |skip=>intro m _ _ h;cases h
 |region id ops dr=>intro m h hm d;cases h;exact AI hm d
 |seq a b iha ihb=>
  intro m h hm d;obtain⟨x,y,hx,e,rfl⟩:=Hi (show Q0 (xQ a) (xQ b)=some m from h)
  rw[nh,lu]at hm;have d:(bif fE t a then true else fE t b)=true:=d;cases ha:fE t a with
  |true=>exact iha hx hm.1 ha
  |false=>rw[ha]at d;exact ihb e hm.2 d
 |cond c a b iha ihb=>
  intro m h hm d;obtain⟨x,y,hx,e,rfl⟩:=Hi (show Q0 (xQ a) (xQ b)=some m from h)
  rw[nh,lu]at hm;have d:(bif fE t a then true else fE t b)=true:=d;cases ha:fE t a with
  |true=>exact iha hx hm.1 ha
  |false=>rw[ha]at d;exact ihb e hm.2 d
 |block id b ih=>exact fun h hm=>ih h hm
 |loop b ih=>exact fun h hm=>ih h hm
 |rangeFunc _ _ _ _ _ _=>intro m h;cases h
 |scope b ih=>exact fun h hm=>ih h hm
 |_=>intro m _ _ h;cases h
theorem Agree.keep{N:Nat}{r b:bP}{a a':Act}{w w':World}{m:Nat}{c:Code}(h:Agree N r a)(hm:xQ c=some m)(d:Fr (fun t=>fE t c=true) a w a' w')(h':Agree N b a'):Agree N (vZ m r) a':=
 ⟨h'.size,fun t v e=>by
  obtain⟨g,f⟩:=A4 e
  rw[d.same t (LV c hm g)];exact h.look t v f⟩
theorem vP{st:St}{r:bP}{f:un (yp st)→Prop}(h:BR st r f):∃t,Dc r st=some (l4 (yp st) t)∧f t:=by
 unfold BR at h;split at h
 ·rename_i vs hv
  obtain⟨t,rfl,b⟩:=r8 h;exact⟨t,hv,b⟩
 ·exact h.elim
theorem Agree.zip{N:Nat}{r:bP}{a:Act}(h:Agree N r a):∀{st:St} {vs:List Value} {r0:bP},Dc r st=some vs→Agree N r0 a→Agree N (mE st vs r0) a
 | [],vs,r0,_,h0=>by cases vs<;>exact h0
 |(i,k)::st,vs,r0,hv,h0=>by
  unfold Dc at hv;split at hv
  ·rename_i v vs' h1 h2
   cases hv;have:=Agree.zip h h2 h0;refine⟨this.size,fun t u b=>?_⟩
   by_cases e:i=t
   ·subst e
    rw[show mE ((i,k)::st) (v::vs') r0=(i,v)::mE st vs' r0 from rfl,gK]at b;cases b
    exact h.look i v h1
   ·rw[show mE ((i,k)::st) (v::vs') r0=(i,v)::mE st vs' r0 from rfl,fZ v _ e]at b
    exact this.look t u b
  ·cases hv
theorem zg{t:Nat}:∀{l:List Oper} {o:Oper},o∈l→o.dst=some t→kM t l=true
 | [],_,h,_=>by cases h
 |x::l,o,h,hd=>by
  have e:kM t (x::l)=(match x.dst with|some d=>bif aW d t then true else kM t l|none=>kM t l):=rfl
  rw[e];rcases ah.1 h with rfl|h
  ·rw[hd];simp only;rw[show aW t t=true from rC t];rfl
  ·have:=zg h hd
   cases x.dst with
   |none=>exact this
   |some d=>
    simp only;cases aW d t with
    |true=>rfl
    |false=>exact this
def LWP(ro:Option Nat)(n:Nat)(P:Program)(c:Code)(Q:Exit→Act→World→Prop)(a:Act)(w:World):Prop:=
 ∀(b:Frame) (k:List Item) (cs:List Frame),b.roundOf=(FW ro).round→(FW ro).fn b.fn→(FW ro).room (cs.length+1+n)→
  ∃e a' w',Q e a' w'∧ArrivesIn (Machine.fenced P (FW ro)) P (lone (b.atR a (.code c:: .inLoop c::k)) cs w) b k cs e a' w'
theorem LWP.step{c:Code}{Q:Exit→Act→World→Prop}{a:Act}{w:World}(h:c.wpIn (FW ro) n P (Exit.then (LWP ro n P c Q) Q) a w):LWP ro n P c Q a w:=by
 intro b k cs m p o;obtain⟨e,j,i,g,d⟩:=h b (.inLoop c::k) cs m p o;cases e with
 |normal=>
  obtain⟨t,u,s,q,f⟩:=g b k cs m p o;exact⟨t,u,s,q,.of_steps (StepsIn.trans d (.one (fenced_calm p o rfl) stepR_inLoop)) f⟩
 |exit id=>exact⟨_,j,i,g,.pass (x:=.inLoop c) rfl (fun _ _=>.inl (by simp)) d⟩
 |goto l=>exact⟨_,j,i,g,.pass (x:=.inLoop c) rfl (fun _ _=>.inl (by simp)) d⟩
 |ret=>exact⟨_,j,i,g,.pass (x:=.inLoop c) rfl (fun _ _=>.inl (by simp)) d⟩
 |panic ch=>exact⟨_,j,i,g,.pass (x:=.inLoop c) rfl (fun _ _=>.inl (by simp)) d⟩
 |outgrown=>exact⟨_,j,i,g,.pass (x:=.inLoop c) rfl (fun _ _=>.inl (by simp)) d⟩
theorem LWP.loop{c:Code}{Q:Exit→Act→World→Prop}{a:Act}{w:World}(h:LWP ro n P c Q a w):(Code.loop c).wpIn (FW ro) n P Q a w:=by
 intro b k cs f i g;obtain⟨e,a',w',j,d⟩:=h b k cs f i g;exact⟨e,a',w',j,.of_steps (.one (fenced_calm i g rfl) stepR_loop) d⟩
theorem Fp(r:bP):DecOk [] r:=fun _=>.inl rfl
theorem OO(ops:Array Oper)(ls:Nat):left ops ls≤ops.size:=by
 unfold left;exact Nat.le_trans (List.length_filter_le ..) (by simp)
theorem kP(f:P.follows .mixedOrders=true){N id:Nat}{ops:Array Oper}{g:Bool}{q:Ann}{K:bP→ac→Prop}{r:bP}{a:Act}{w:World}{Q:Exit→Act→World→Prop}
  (b:AS P N ops.toList g q K r w.heap)(i:Agree N r a)(u:∀c a w,¬Q (.panic c) a w)
  (k:∀r' a' w',Agree N r' a'→Fr (fun t=>kM t ops.toList=true) a w a' w'→K r' w'.heap→Q .normal a' w'):(Code.region id ops g).wpIn (FW ro) n P Q a w:=by
 have m:∀o∈ops.toList,∀d,o.dst=some d→kM d ops.toList=true:=fun o v d hd=>zg v hd
 cases g with
 |false=>
  have key:∀ek,Dg P N ek ops.toList ops.toList [] K r w.heap→(Code.region id ops false).wpIn (FW ro) n P Q a w:=fun ek b=>by
   refine wpIn_region ?_;rw[List.range_eq_range',show ops.size=ops.toList.length from rfl]
   exact Df m k ops.toList 0 rfl [] r a w b i (Fp r) (Fr.refl _ a w)
  unfold AS at b;simp only at b;split at b
  ·exact key _ b
  ·exact key _ b
 |true=>
  unfold AS at b;simp only at b;generalize Kg ops.toList=ms at b;cases hm:CQ ops.toList ms with
  |false=>rw[hm]at b;exact b.elim
  |true=>
   rw[hm,cond_true]at b;refine wpIn_region_any f (JP (ms:=ms) _ [] _ _ _ ?_);have p:Tame w {w with drawn:=w.drawn+1}:=⟨rfl,rfl,rfl⟩;have s:Fr (fun t=>kM t ops.toList=true) a w a {w with drawn:=w.drawn+1}:=⟨p,rfl,fun _ _=>rfl⟩
   refine(GW (IX hm) m k (fun e a w=>?_) _ false 0 [] [] r a {w with drawn:=w.drawn+1} _ ops.size b i (Fp r) s LsRel.start (fun j x _ h=>by rw[(LsRel.start (ops:=ops)).bit,Nat.zero_testBit]at h;cases h) (fun x hx=>by cases hx)).1 rfl (OO ops 0)
   cases e with
   |panic ch=>exact .inr (u _ a w)
   |_=>exact .inl fun c hc=>by cases hc
theorem CW(t:Nat)(x y:Code):fE t (.seq x y)=(bif fE t x then true else fE t y):=rfl
theorem BM(t:Nat)(c:Operand)(x y:Code):fE t (.cond c x y)=(bif fE t x then true else fE t y):=rfl
theorem Gm{a b:Bool}:(bif a then true else b)=true↔a=true∨b=true:=by cases a<;>cases b<;>decide
theorem sU(u:P.follows .mixedOrders=true){N:Nat}(c:Code):∀(D:Ann) (Kn:bP→ac→Prop) (Kx:Ex→bP→ac→Prop) (r:bP) (a:Act) (w:World) (Q:Exit→Act→World→Prop),
  jM P N c D Kn Kx r w.heap→Agree N r a→(∀S a w,¬Q (.panic S) a w)→
  (∀g a' w',Agree N g a'→Fr (fun t=>fE t c=true) a w a' w'→Kn g w'.heap→Q .normal a' w')→
  (∀i g a' w',Agree N g a'→Fr (fun t=>fE t c=true) a w a' w'→Kx (.exit i) g w'.heap→Q (.exit i) a' w')→
  (∀g a' w',Agree N g a'→Fr (fun t=>fE t c=true) a w a' w'→Kx .ret g w'.heap→Q .ret a' w')→
  c.wpIn (FW ro) n P Q a w:=by
 induction c with
 |skip=>
  intro D Kn Kx r a w Q j s _ z _ _;exact wpIn_skip (z r a w s (Fr.refl ..) j)
 |region id ops dr=>
  intro D Kn Kx r a w Q j s A z _ _;cases D with
  |reg keep inner=>
   have j:AS P N ops.toList dr inner (fun g h'=>match Kl g keep with|some r0=>Kn r0 h'|none=>False) r w.heap:=j
   refine kP u j s A fun g a' w' R U hk=>?_
   split at hk
   ·rename_i r0 hr0
    refine z r0 a' w' ⟨R.size,fun t v hv=>R.look t v (E8 hr0 t v hv).2⟩ U hk
   ·exact hk.elim
  |nil=>exact kP u (show AS P N ops.toList dr (.nil) Kn r w.heap from j) s A z
  |node x y=>exact kP u (show AS P N ops.toList dr (.node x y) Kn r w.heap from j) s A z
  |join st x y=>exact kP u (show AS P N ops.toList dr (.join st x y) Kn r w.heap from j) s A z
  |loop st y=>exact kP u (show AS P N ops.toList dr (.loop st y) Kn r w.heap from j) s A z
  |draw d=>exact kP u (show AS P N ops.toList dr (.draw d) Kn r w.heap from j) s A z
  |kinds k v=>exact kP u (show AS P N ops.toList dr (.kinds k v) Kn r w.heap from j) s A z
  |rf ks x y=>exact kP u (show AS P N ops.toList dr (.rf ks x y) Kn r w.heap from j) s A z
 |seq x y ihx ihy=>
  intro D Kn Kx r a w Q j s A z hx F;have E:∀{a' w'},Fr (fun t=>fE t x=true) a w a' w'→Fr (fun t=>fE t (.seq x y)=true) a w a' w':=fun h=>h.mono fun t L=>by rw[CW,Gm];exact .inl L
  have C:∀{a' w' I H},Fr (fun t=>fE t x=true) a w a' w'→Fr (fun t=>fE t y=true) a' w' I H→Fr (fun t=>fE t (.seq x y)=true) a w I H:=
   fun h k=>(E h).trans (k.mono fun t L=>by rw[CW,Gm];exact .inr L)
  have plain:∀V O,jM P N x V (fun g h'=>jM P N y O Kn Kx g h') Kx r w.heap→(Code.seq x y).wpIn (FW ro) n P Q a w:=fun V O j=>by
   refine wpIn_seq (ihx V _ Kx r a w _ j s (fun S a w=>A S a w) ?_ (fun i g a' w' q p o=>hx i g a' w' q (E p) o) (fun g a' w' q p o=>F g a' w' q (E p) o))
   intro r1 W X G B K;exact ihy O Kn Kx r1 W X Q K G A (fun g a' w' q p o=>z g a' w' q (C B p) o) (fun i g a' w' q p o=>hx i g a' w' q (C B p) o) (fun g a' w' q p o=>F g a' w' q (C B p) o)
  cases D with
  |join st V O=>
   have j:(match xQ x with
      |none=>False
      |some m=>Join (T:=un (yp st)) (fun t h'=>jM P N y O Kn Kx (mE st (l4 (yp st) t) (vZ m r)) h')
       fun J=>jM P N x V (fun g h'=>BR st g fun t=>J t h') Kx r w.heap):=j
   split at j
   ·exact j.elim
   ·rename_i m hm
    refine wpIn_seq (ihx V _ Kx r a w _ j.run s (fun S a w=>A S a w) ?_ (fun i g a' w' q p o=>hx i g a' w' q (E p) o) (fun g a' w' q p o=>F g a' w' q (E p) o))
    intro r1 W X G B K;obtain⟨t,hst,hs2⟩:=vP K;have ha2:Agree N (mE st (l4 (yp st) t) (vZ m r)) W:=G.zip hst (s.keep hm B G);exact ihy O Kn Kx _ W X Q hs2 ha2 A (fun g a' w' q p o=>z g a' w' q (C B p) o) (fun i g a' w' q p o=>hx i g a' w' q (C B p) o) (fun g a' w' q p o=>F g a' w' q (C B p) o)
  |_=>exact plain _ _ j
 |cond c x y ihx ihy=>
  intro D Kn Kx r a w Q j s A z hx F;have j:(match cC r c with
   |some (.bool t)=>CondP t (jM P N x D.l Kn Kx r w.heap) (jM P N y D.r Kn Kx r w.heap)
   |_=>False):=j
  have E:∀{a' w'},Fr (fun t=>fE t x=true) a w a' w'→Fr (fun t=>fE t (.cond c x y)=true) a w a' w':=fun h=>h.mono fun t L=>by rw[BM,Gm];exact .inl L
  have C:∀{a' w'},Fr (fun t=>fE t y=true) a w a' w'→Fr (fun t=>fE t (.cond c x y)=true) a w a' w':=fun h=>h.mono fun t L=>by rw[BM,Gm];exact .inr L
  split at j
  ·rename_i t L
   refine wpIn_cond_split (js s L) (fun e=>?_) (fun e=>?_)
   ·exact ihx _ Kn Kx r a w Q (j.yes e) s A (fun g a' w' q p o=>z g a' w' q (E p) o) (fun i g a' w' q p o=>hx i g a' w' q (E p) o) (fun g a' w' q p o=>F g a' w' q (E p) o)
   ·exact ihy _ Kn Kx r a w Q (j.no e) s A (fun g a' w' q p o=>z g a' w' q (C p) o) (fun i g a' w' q p o=>hx i g a' w' q (C p) o) (fun g a' w' q p o=>F g a' w' q (C p) o)
  ·exact j.elim
 |block id b ih=>
  intro D Kn Kx r a w Q j s A z hx F;refine wpIn_block (ih D Kn _ r a w _ j s (fun S a w=>A S a w) z (fun i g a' w' q p o=>?_) F)
  simp only[Exit.inBlock]at o⊢;cases hi:aW i id with
  |true=>
   rw[hi,cond_true]at o;rw[if_pos (aG hi)];exact z g a' w' q p o
  |false=>
   rw[hi,cond_false]at o;rw[if_neg (fun e=>by rw[e,rC]at hi;cases hi)]
   exact hx i g a' w' q p o
 |loop b ih=>
  intro D Kn Kx r a w Q j s A z hx F;cases D with
  |loop st O=>
   have j:(match xQ b with
      |none=>False
      |some m=>BR st r fun t0=>LoopP (T:=un (yp st)) (fun Y t h'=>jM P N b O (fun g h''=>BR st g fun t'=>Y t' h'') Kx (mE st (l4 (yp st) t) (vZ m r)) h') t0 w.heap):=j
   split at j
   ·exact j.elim
   ·rename_i m hm
    obtain⟨t0,hst0,hl⟩:=vP j;have h0:=hl.run (fun t h'=>∀a' w',w'.heap=h'→Agree N (mE st (l4 (yp st) t) (vZ m r)) a'→Fr (fun t=>fE t b=true) a w a' w'→LWP ro n P b Q a' w') (fun t h' hF a' w' hw R U=>by
     subst hw
     refine LWP.step (ih O _ Kx _ a' w' _ hF R (fun S a w=>A S a w) ?_ (fun i g I H q p o=>hx i g I H q (U.trans p) o) (fun g I H q p o=>F g I H q (U.trans p) o))
     intro r1 W X G B K
     obtain⟨t1,Z,hk1⟩:=vP K
     exact hk1 W X rfl (G.zip Z (s.keep hm (U.trans B) G)) (U.trans B))
    exact LWP.loop (h0 a w rfl (s.zip hst0 (s.keep hm (Fr.refl _ a w) s)) (Fr.refl _ a w))
  |_=>exact j.elim
 |rangeFunc f params assign body _ _=>intro D Kn Kx r a w Q j;exact j.elim
 |exit id=>
  intro D Kn Kx r a w Q j s A z hx F;exact wpIn_exit (hx id r a w s (Fr.refl ..) j)
 |scope b _=>intro D Kn Kx r a w Q j;exact j.elim
 |label l=>
  intro D Kn Kx r a w Q j s A z hx F;exact wpIn_label (z r a w s (Fr.refl ..) j)
 |goto l=>intro D Kn Kx r a w Q j;exact j.elim
 |ret=>
  intro D Kn Kx r a w Q j s A z hx F;exact wpIn_ret (F r a w s (Fr.refl ..) j)
 |refuse why=>intro D Kn Kx r a w Q j;exact j.elim
end Go.Lift
namespace Go.Lift
open Go
variable {P:Program}
theorem pD{N:Nat}{r:bP}{a:Act}{w:World}(c:Agree N r a):∀{l:List ResultVar} {K:List Value→Prop},mF P r w.heap l K→
  ∃vs,(∀g:ResultVar→Sem Value,(∀t,g (.tmp t)=pure (a.tmps.getD t undef))→(∀x t,g (.cell x t)=do loadVar t (←asAddr (a.tmps.getD x undef)))→(l.mapM g).run P w=.ok vs w)∧K vs
 | [],K,h=>⟨[],fun g _ _=>by rw[List.mapM_nil];rfl,h⟩
 | .tmp t::l,K,h=>by
  unfold mF at h;split at h
  ·rename_i v hv
   obtain⟨vs,f,i⟩:=pD c h;refine⟨v::vs,fun g d e=>?_,i⟩
   rw[List.mapM_cons,d];simp only[Sem.run_bind,Sem.run_pure,Result.andThen_ok];rw[f g d e];simp only[Result.andThen_ok,c.look t v hv]
  ·exact h.elim
 | .cell x t::l,K,h=>by
  unfold mF at h;split at h
  ·rename_i v hv
   obtain⟨u,S,m,k,n⟩:=BX h;obtain⟨vs,f,i⟩:=pD c m;refine⟨u::vs,fun g d e=>?_,i⟩
   rw[List.mapM_cons,e];have j:(do loadVar t (←asAddr (a.tmps.getD x undef)):Sem Value).run P w=.ok u w:=by
    rw[c.look x v hv];unfold G7 at h;cases v with
    |pointer p=>cases p with
     |none=>exact h.elim
     |some b=>exact n w k
    |_=>exact h.elim
   simp only[Sem.run_bind]at j⊢;rw[j];simp only[Result.andThen_ok];rw[f g d e];simp only[Sem.run_pure,Result.andThen_ok]
  ·exact h.elim
theorem EY(ks:List Kind)(t:un ks):(if h:(l4 ks t).toArray.size=1 then(l4 ks t).toArray[0]else Value.tuple (l4 ks t).toArray)=Cs ks (l4 ks t):=by
 match ks,t with
 | [],t=>rfl
 | [k],t=>rfl
 |k::l::ks,(x,t)=>
  have:(l4 (k::l::ks) (x,t)).length=(k::l::ks).length:=tf _ _;rw[dif_neg (by simp only[cA,this,aX];omega)];rfl
theorem vh:∀(vs:List Value) (i t:Nat) (v:Value),jr (pH i vs) t=some v→i≤t∧vs[t-i]? =some v
 | [],i,t,v,h=>by cases h
 |u::vs,i,t,v,h=>by
  by_cases e:i=t
  ·subst e
   rw[show pH i (u::vs)=(i,u)::pH (i+1) vs from rfl,gK]at h
   cases h;exact⟨Nat.le_refl _,by simp⟩
  ·rw[show pH i (u::vs)=(i,u)::pH (i+1) vs from rfl,fZ u _ e]at h
   obtain⟨c,b⟩:=vh vs (i+1) t v h;refine⟨by omega,?_⟩;rw[show t-i=(t-(i+1))+1 by omega,List.getElem?_cons_succ]
   exact b
theorem KB(d:P.follows .mixedOrders=true){n:Nat}{fn:Func}{c:Code}{m:Ann}{args:List Value}{ks:List Kind}{K:un ks→ac→Prop}{w:World}(o:args.length≤fn.ntmps)(s:ER P fn c m args ks K w.heap):
  c.wpIn (FW none) n P (bodyPost P fn fun e w'=>Tame w w'∧∃t:un ks,e=.returned (Cs ks (l4 ks t))∧K t w'.heap) {tmps:=args.toArray++mS (fn.ntmps-args.toArray.size) undef,defers:= []} w:=by
 have p:Agree fn.ntmps (pH 0 args) {tmps:=args.toArray++mS (fn.ntmps-args.toArray.size) undef,defers:= []}:=by
  refine⟨by simp;omega,fun t v u=>?_⟩
  obtain⟨_,i⟩:=vh args 0 t v u;simp only[fo]at i;have f:=(bA.1 i).1;simp[Array.getElem?_append,f];rw[aA f]at i;cases i;rfl
 have fin:∀k a' (w':World),Agree fn.ntmps k a'→Fr (fun t=>fE t c=true) {tmps:=args.toArray++mS (fn.ntmps-args.toArray.size) undef,defers:= []} w a' w'→
   mF P k w'.heap fn.results.toList (fun vs=>Cy ks vs fun t=>K t w'.heap)→
   a'.defers= []∧∃v,(results fn a'.tmps).run P w'=.ok v w'∧(Tame w w'∧∃t:un ks,Ending.returned v=.returned (Cs ks (l4 ks t))∧K t w'.heap):=fun k a' w' j g x=>by
  obtain⟨vs,b,hd⟩:=pD j x;obtain⟨t,rfl,q⟩:=r8 hd;refine⟨g.defers,_,?_,g.tame,t,rfl,q⟩;unfold results;rw[lW];simp only[Sem.run_bind,Sem.run_map];rw[b _ (fun _=>rfl) (fun _ _=>rfl)]
  simp only[Result.andThen_ok,Sem.run_pure];rw[←EY]
 exact sU d c m _ _ _ _ w _ s p (fun y a w h=>h.2.2.elim fun _ h=>by cases h.1) fin (fun _ _ _ _ _ _ h=>h.elim) fin
theorem HE.intro(d:P.follows .mixedOrders=true){f:FuncId}{fn:Func}{c:Code}{j:Ann}{args:List Value}{ks:List Kind}{K:un ks→ac→Prop}{h:ac}
  (k:P.funcs[f]? =some fn) (m:fn.body=some c) (b:∀(args:Array Value) (w:World),(callFunc f args).run P w=.ok (.enter f args) w) (e:args.length≤fn.ntmps)
  (i:ER P fn c j args ks K h):HE P f args ks K h:=by
 refine⟨fun w g=>⟨b,?_⟩⟩
 subst g;exact(callsIn_wide (n:=0)).1 (callsIn_of_wp (F:=FW none) k m trivial (KB d e i) rfl)
theorem HD.intro(d:P.follows .mixedOrders=true){f:FuncId}{fn:Func}{c:Code}{o:Ann}{args:List Value}{ks:List Kind}{K:ac→Prop}{h:ac}
  (q:P.funcs[f]? =some fn) (v:fn.body=some c) (b:∀(args:Array Value) (w:World),(callFunc f args).run P w=.ok (.enter f args) w) (g:args.length≤fn.ntmps)
  (j:ER P fn c o args ks (fun _ h'=>K h') h):HD P f args K h:=by
 refine fun w i=>⟨b,fun n=>?_⟩
 subst i;exact(callsDIn_of_wp (F:=FW none) q v trivial (KB d g j) rfl).mono fun e u w' ⟨p,m,t,k,s⟩=>⟨p,m,⟨_,k⟩,s⟩
theorem HC.intro(d:P.follows .mixedOrders=true){f:FuncId}{fn:Func}{c:Code}{i:Ann}{args:List Value}{ks:List Kind}{K:un ks→ac→Prop}{h:ac}
 (j:P.funcs[f]? =some fn) (k:fn.body=some c) (b:∀(args:Array Value) (w:World),(callFunc f args).run P w=.ok (.enter f args) w) (e:args.length≤fn.ntmps)
 (g:ER P fn c i args ks K h):HC P f args ks K h:=(HE.intro d j k b e g).hc
theorem JC{N:Nat}{args:List Value}(d:args.length≤N):Agree N (pH 0 args) {tmps:=args.toArray++mS (N-args.toArray.size) undef,defers:= []}:=by
 refine⟨by simp;omega,fun t v e=>?_⟩
 obtain⟨_,c⟩:=vh args 0 t v e;simp only[fo]at c;have b:=(bA.1 c).1;simp[Array.getElem?_append,b];rw[aA b]at c;cases c;rfl
theorem G3{N:Nat}{fn:Func}{ks:List Kind}{K:un ks→ac→Prop}{d:bP}{a':Act}{w':World}(c:Agree N d a')(f:mF P d w'.heap fn.results.toList (fun vs=>Cy ks vs fun t=>K t w'.heap)):
  ∃t:un ks,(results fn a'.tmps).run P w'=.ok (Cs ks (l4 ks t)) w'∧K t w'.heap:=by
 obtain⟨vs,b,hd⟩:=pD c f;obtain⟨t,rfl,e⟩:=r8 hd;refine⟨t,?_,e⟩;unfold results;rw[lW];simp only[Sem.run_bind,Sem.run_map];rw[b _ (fun _=>rfl) (fun _ _=>rfl)]
 simp only[Result.andThen_ok,Sem.run_pure];rw[←EY]
end Go.Lift
namespace Go.Lift
open Go
variable {P:Program}
abbrev Dv(D:Nat):Deferred:={target:=.collected D,args:= #[]}
abbrev ph:Mk→Deferred
 | .it D=>Dv D
 | .call f vs=>{target:=.fn (.func f) #[],args:= #[]++vs.toArray}
theorem D2{N:Nat}:∀{ps:List Nat} {vs:List Value} {r:bP} {tmps:Array Value},yz N ps=true→Agree N r {tmps:=tmps,defers:= []}→
  Agree N (Oc ps vs r) {tmps:=(ps.zip vs).foldl (fun t x=>t.setIfInBounds x.1 x.2) tmps,defers:= []}
 | [],vs,r,tmps,_,h=>by cases vs<;>exact h
 |i::ps,[],r,tmps,_,h=>h
 |i::ps,v::vs,r,tmps,b,h=>by
  have b:(xr i N&&yz N ps)=true:=b;rw[aH]at b;have c:i<N:=by simpa using b.1
  have:=h.put i v c;exact D2 (tmps:=tmps.setIfInBounds i v) b.2 this
theorem C6(w:World)(o:Obj):Tame w (w.alloc o):=⟨rfl,rfl,rfl⟩
theorem nB(w:World)(b:Nat)(o:Obj):Tame w (w.putObj b o):=⟨rfl,rfl,rfl⟩
theorem Ha(w:World)(b:Nat)(o:Obj):(w.putObj b o).heap=w.heap.setIfInBounds b o:=rfl
theorem KG(ps:Array Nat)(vs:List Value)(t:Array Value):(ps.zip vs.toArray).foldl (fun t (x:Nat×Value)=>t.setIfInBounds x.1 x.2) t=(ps.toList.zip vs).foldl (fun t x=>t.setIfInBounds x.1 x.2) t:=by
 obtain⟨l⟩:=ps;simp
theorem Ct(A:P.follows .mixedOrders=true){n N:Nat}{g:Operand}{ps:Array Tmp}{assign body:Code}{aa ab:Ann}{ks:List Kind}{fv:Value}{r:bP}{a:Act}{w:World}{Q:Exit→Act→World→Prop}
  {KN:ac→Prop}{KX:Nat→ac→Prop}{KR:ac→Prop}(X:yz N ps.toList=true)(L:ps.toList.length=ks.length)(hg:cC r g=some fv)(ha:Agree N r a)
  (hR:RangeP P fv ks w.heap (fun GB bz x k h'=>Iu P N ps.toList ks assign body (.node aa ab) r (w.heap.size+1) GB bz x k h') KN KX KR)
  (hn:∀w',Tame w w'→KN w'.heap→Q .normal {a with defers:=Dv w.heap.size::a.defers} w')
  (hx:∀i w',Tame w w'→KX i w'.heap→Q (.exit i) {a with defers:=Dv w.heap.size::a.defers} w')
  (hr:∀w',Tame w w'→KR w'.heap→Q .ret {a with defers:=Dv w.heap.size::a.defers} w'):(Code.rangeFunc g ps assign body).wpIn (FW none) n P Q a w:=by
 refine wpIn_rangeFunc fun fn _=>?_
 obtain⟨lo,p⟩:∃lo:LoopState→Option Ex→Obj,lo=fun s j=>.loop {state:=s,pending:=Gc j,fn,tmps:=a.tmps,params:=ps,assign,body,defers:=w.heap.size}:=⟨_,rfl⟩
 have hj:∀j:Option Ex,(Gc j).isNone=j.isNone:=fun j=>by rcases j with _|⟨_|_⟩<;>rfl
 obtain⟨f,first,cap,rfl,he⟩:=hR.run lo (fun s j=>⟨_,by rw[p]⟩) (fun x h' K q z=>by
  refine⟨.inr ⟨_,rfl,⟨fun H U=>?_⟩⟩⟩
  subst U
  rw[p]at q
  have hy:=run_yield (P:=P) (args:=(l4 ks x).toArray) q (by simp only[cA,tf];rw[←L];rfl)
  refine⟨_,_,_,_,hy,fun c cs=>?_⟩
  have hA:Agree N (Oc ps.toList (l4 ks x) r) {tmps:=(ps.zip (l4 ks x).toArray).foldl (fun t (x:Nat×Value)=>t.setIfInBounds x.1 x.2) a.tmps,defers:= []}:=by
   rw[KG]
   exact D2 X ⟨ha.size,ha.look⟩
  have m:∀j:Option Ex,∀W:World,Tame H W→(W.heap[w.heap.size+1]? =some (lo .busy none)∧K j.isNone (W.heap.setIfInBounds (w.heap.size+1) (lo (if j.isNone then .ready else .done) j)))→
    ∃v w',(Instr.endRound (w.heap.size+1) (Gc j)).run P W=.ok v w'∧∃b,Ending.returned v=.returned (.bool b)∧Tame H w'∧K b w'.heap:=by
   rintro j W G ⟨h1,T⟩
   rw[p]at h1
   have:=run_endRound (P:=P) (Gc j) h1
   refine⟨_,_,this,_,rfl,G.trans (nB ..),?_⟩
   rw[p]at T
   rw[hj]
   exact T
  have:=roundIn_of_wpIn (F:=FW none) (n:=0) (P:=P) (l:=w.heap.size+1) (f:=fn) (assign:=assign) (body:=body) (w:=H)
   (tmps:=(ps.zip (l4 ks x).toArray).foldl (fun t (x:Nat×Value)=>t.setIfInBounds x.1 x.2) a.tmps)
   (R:=fun e w'=>∃b,e=.returned (.bool b)∧Tame H w'∧K b w'.heap) trivial (by
    refine sU (ro:=some (w.heap.size+1)) A assign aa _ _ _ _ H _ z hA (fun ch a w h=>h) ?_ (fun i r' a' w' _ _ h=>h.elim) (fun r' a' w' _ _ h=>h.elim)
    rintro r2 a2 V ha2 C ⟨y,E⟩
    rw[p]at y
    refine⟨_,run_beginRound y rfl,?_⟩
    have S:∀o,o=lo .busy none→V.heap.setIfInBounds (w.heap.size+1) o=V.heap.setIfInBounds (w.heap.size+1) (lo .busy none):=fun o Z=>by rw[Z]
    refine sU (ro:=some (w.heap.size+1)) A body ab (fun _ T=>_) (fun e _ T=>_) _ _ (V.putObj (w.heap.size+1) _) _ (by
     rw[Ha,S _ (by rw[p])];exact E) ha2 (fun ch a w h=>h) ?_ ?_ ?_
    ·rintro r3 a3 O J u I
     exact m none O ((C.tame.trans (nB ..)).trans u.tame) I
    ·rintro i r3 a3 O J u I
     exact m (some (.exit i)) O ((C.tame.trans (nB ..)).trans u.tame) I
    ·rintro r3 a3 O J u I
     exact m (some .ret) O ((C.tame.trans (nB ..)).trans u.tame) I)
  obtain⟨e,w',⟨b,rfl,G,hK⟩,hs⟩:=this.2 c cs (fun d h=>by simp[FW]at h)
  exact⟨b,w',G,hK,hs.steps⟩)
 have B:=he.run ((w.alloc (.deferred (some []))).alloc (lo .ready none)) rfl;refine⟨w.heap.size+1,[Dv w.heap.size],(w.alloc (.deferred (some []))).alloc (lo .ready none),{target:=.fn (.func f) cap,args:=first++ #[.func (.yield (w.heap.size+1)) #[] #[]]},(w.alloc (.deferred (some []))).alloc (lo .ready none),f,
  first++ #[.func (.yield (w.heap.size+1)) #[] #[]]++cap,(w.alloc (.deferred (some []))).alloc (lo .ready none),?_,?_,fun _ _=>trivial,?_,fun h=>by simp[FW]at h,?_⟩
 ·rw[p];exact run_enterLoop_outer fn a.tmps ps assign body
 ·have Y:=js ha hg
  simp[resolve,Y,Deferred.ofValue,Sem.run_pure];rfl
 ·simp[invoke,B.1]
 ·refine DX ?_
  have e:(first.toList++ [Value.func (.yield (w.heap.size+1)) #[] #[]]++cap.toList).toArray=first++ #[.func (.yield (w.heap.size+1)) #[] #[]]++cap:=by apply cq;simp
  rw[←e];refine B.2.mono ?_;rintro e w' ⟨G,t,rfl,s,j,hs,q,m⟩;have ht':Tame w w':=((C6 w _).trans (C6 _ _)).trans G;rw[p]at q;refine⟨_,_,run_endLoop q hs,?_⟩;have D:∀o,Tame w (w'.putObj (w.heap.size+1) o):=fun o=>ht'.trans (nB ..)
  have S:∀o,o=lo .exhausted j→(w'.putObj (w.heap.size+1) o).heap=w'.heap.setIfInBounds (w.heap.size+1) (lo .exhausted j):=fun o Z=>by rw[Z];rfl
  rcases j with _|⟨i|_⟩
  ·exact hn _ (D _) (by rw[S _ (by rw[p])];exact m)
  ·exact wpIn_exit (hx i _ (D _) (by rw[S _ (by rw[p])];exact m))
  ·exact wpIn_ret (hr _ (D _) (by rw[S _ (by rw[p])];exact m))
theorem DQ{n N id d:Nat}{ops:Array Oper}{m o:Oper}{x:Operand}{f:FuncId}{as:List Operand}{vs:List Value}{v:Value}{r:bP}{a:Act}{w:World}{Q:Exit→Act→World→Prop}(b:DR ops.toList=some (m,o,x,d,f,as))(t:cC r x=some v)(z:d<N)(g:mV ((d,v)::r) as=some vs)(i:Agree N r a)
  (A:∀a',Agree N ((d,v)::r) a'→a'.defers=ph (.call f vs)::a.defers→Q .normal a' w):(Code.region id ops false).wpIn (FW none) n P Q a w:=by
 unfold DR at b;split at b
 ·rename_i m' o' hl
  split at b
  ·rename_i x' d' c h1 h2 h3 h4 h5 h6
   split at b
   ·rename_i f' hc
    cases b;have u:ops[0]? =some m:=by rw[←aN,hl];rfl
    have q:ops[1]? =some o:=by rw[←aN,hl];rfl
    have es:ops.size=2:=by rw[←Array.length_toList,hl];rfl
    have s:∀y,Region.wanted m y=true:=fun y=>by simp[Region.wanted,h2]
    have k:∀y,Region.wanted o y=true:=fun y=>by simp[Region.wanted,h6]
    refine wpIn_region ?_;rw[es,show dK 2= [0,1]from rfl]
    simp only[wpOpsIn,u,q,s,k,if_true];refine BigFrame.wpIn_move x h1 ?_;rw[js i t,h3];have e:=i.put d v z;refine⟨fun _ _=>trivial,?_⟩
    have j:((Oper.semAt (FW none).round (a.put (some d) v).eval o).run P w)=.ok (.defer (ph (.call f vs))) w:=by
     show((execOp (a.put (some d) v).eval o).run P w)=_
     have p:=lA e g;have B:c.args.map (a.put (some d) v).eval=vs.toArray:=by rw[←p];apply cq;simp
     simp only[execOp,h4,resolve,hc,B];simp[Act.eval,Deferred.ofValue,ph]
    rw[j,Oper.uponIn_defer,h5];exact A _ ⟨e.size,e.look⟩ rfl
   ·cases b
  ·cases b
 ·cases b
theorem FI(G:P.follows .mixedOrders=true){n N:Nat}(c:Code):∀(s:Ann) (Kn:List Mk→bP→ac→Prop) (Kx:Ex→List Mk→bP→ac→Prop) (ms:List Mk) (r:bP) (a:Act) (w:World) (Q:Exit→Act→World→Prop),
  yu P N c s Kn Kx ms r w.heap→Agree N r a→a.defers=ms.map ph→(∀J a w,¬Q (.panic J) a w)→
  (∀p q a' w',Agree N q a'→a'.defers=p.map ph→Tame w w'→Kn p q w'.heap→Q .normal a' w')→
  (∀i p q a' w',Agree N q a'→a'.defers=p.map ph→Tame w w'→Kx (.exit i) p q w'.heap→Q (.exit i) a' w')→
  (∀p q a' w',Agree N q a'→a'.defers=p.map ph→Tame w w'→Kx .ret p q w'.heap→Q .ret a' w')→
  c.wpIn (FW none) n P Q a w:=by
 have plain:∀(c:Code) (s:Ann) (Kn:List Mk→bP→ac→Prop) (Kx:Ex→List Mk→bP→ac→Prop) (ms:List Mk) (r:bP) (a:Act) (w:World) (Q:Exit→Act→World→Prop),
  jM P N c s (Kn ms) (fun e=>Kx e ms) r w.heap→Agree N r a→a.defers=ms.map ph→(∀J a w,¬Q (.panic J) a w)→
  (∀p q a' w',Agree N q a'→a'.defers=p.map ph→Tame w w'→Kn p q w'.heap→Q .normal a' w')→
  (∀i p q a' w',Agree N q a'→a'.defers=p.map ph→Tame w w'→Kx (.exit i) p q w'.heap→Q (.exit i) a' w')→
  (∀p q a' w',Agree N q a'→a'.defers=p.map ph→Tame w w'→Kx .ret p q w'.heap→Q .ret a' w')→
  c.wpIn (FW none) n P Q a w:=by
  intro c s Kn Kx ms r a w Q j u hd C A hx B;exact sU G c s _ _ r a w Q j u C (fun q a' w' E z D=>A ms q a' w' E (z.defers.trans hd) z.tame D) (fun i q a' w' E z D=>hx i ms q a' w' E (z.defers.trans hd) z.tame D)
   (fun q a' w' E z D=>B ms q a' w' E (z.defers.trans hd) z.tame D)
 induction c with
 |skip=>intro s Kn Kx ms r a w Q j;exact plain _ s Kn Kx ms r a w Q j
 |region id ops dr=>
  intro s Kn Kx ms r a w Q j u hd C A hx B;have j:(match DR ops.toList with
   |none=>jM P N (.region id ops dr) s (Kn ms) (fun e=>Kx e ms) r w.heap
   |some (_,_,x,d,f,as)=>bif dr then False else match cC r x with
    |some v=>bif xr d N then(match mV ((d,v)::r) as with|some vs=>Kn (.call f vs::ms) ((d,v)::r) w.heap|none=>False)else False
    |none=>False):=j
  split at j
  ·exact plain _ s Kn Kx ms r a w Q j u hd C A hx B
  ·rename_i m o x d f as he
   cases dr with
   |true=>exact j.elim
   |false=>
    rw[cond_false]at j;split at j
    · rename_i v hv
      cases hb:xr d N with
      |false=>rw[hb]at j;exact j.elim
      |true=>
       rw[hb,cond_true]at j;split at j
       ·rename_i vs hvs
        refine DQ he hv (by simpa using hb) hvs u fun a' T W=>A (.call f vs::ms) _ a' w T ?_ ⟨rfl,rfl,rfl⟩ j
        rw[W,hd];rfl
       ·exact j.elim
    · exact j.elim
 |seq x y ihx ihy=>
  intro s Kn Kx ms r a w Q j u hd C A hx B;have j:(bif (bif rO x then true else rO y)then yu P N x s.l (fun ms q h'=>yu P N y s.r Kn Kx ms q h') Kx ms r w.heap
   else jM P N (.seq x y) s (Kn ms) (fun e=>Kx e ms) r w.heap):=j
  cases hb:(bif rO x then true else rO y)with
  |false=>rw[hb]at j;exact plain _ _ _ _ _ _ _ _ _ j u hd C A hx B
  |true=>
   rw[hb,cond_true]at j;refine wpIn_seq (ihx s.l _ Kx ms r a w _ j u hd (fun J a w=>C J a w) ?_ hx B)
   intro L X a1 Y R V I O;exact ihy s.r Kn Kx L X a1 Y Q O R V C (fun p q a' w' E z D F=>A p q a' w' E z (I.trans D) F) (fun i p q a' w' E z D F=>hx i p q a' w' E z (I.trans D) F)
    (fun p q a' w' E z D F=>B p q a' w' E z (I.trans D) F)
 |cond c x y ihx ihy=>
  intro s Kn Kx ms r a w Q j u hd C A hx B;have j:(bif (bif rO x then true else rO y)then
    (match cC r c with
     |some (.bool t)=>CondP t (yu P N x s.l Kn Kx ms r w.heap) (yu P N y s.r Kn Kx ms r w.heap)
     |_=>False)
   else jM P N (.cond c x y) s (Kn ms) (fun e=>Kx e ms) r w.heap):=j
  cases hb:(bif rO x then true else rO y)with
  |false=>rw[hb]at j;exact plain _ _ _ _ _ _ _ _ _ j u hd C A hx B
  |true=>
   rw[hb,cond_true]at j;split at j
   ·rename_i t H
    exact wpIn_cond_split (js u H) (fun e=>ihx _ Kn Kx ms r a w Q (j.yes e) u hd C A hx B) (fun e=>ihy _ Kn Kx ms r a w Q (j.no e) u hd C A hx B)
   ·exact j.elim
 |block id b ih=>
  intro s Kn Kx ms r a w Q j u hd C A hx B;have j:(bif rO b then yu P N b s Kn (fun e ms q h'=>match e with
    | .exit i=>bif aW i id then Kn ms q h' else Kx (.exit i) ms q h'
    | .ret=>Kx .ret ms q h') ms r w.heap
   else jM P N (.block id b) s (Kn ms) (fun e=>Kx e ms) r w.heap):=j
  cases hb:rO b with
  |false=>rw[hb]at j;exact plain _ _ _ _ _ _ _ _ _ j u hd C A hx B
  |true=>
   rw[hb,cond_true]at j;refine wpIn_block (ih s Kn _ ms r a w _ j u hd (fun J a w=>C J a w) A (fun i p q a' w' E z D F=>?_) B)
   simp only[Exit.inBlock]at F⊢;cases hi:aW i id with
   |true=>
    rw[hi,cond_true]at F;rw[if_pos (aG hi)];exact A p q a' w' E z D F
   |false=>
    rw[hi,cond_false]at F;rw[if_neg (fun e=>by rw[e,rC]at hi;cases hi)]
    exact hx i p q a' w' E z D F
 |loop b ih=>intro s Kn Kx ms r a w Q j;exact plain _ s Kn Kx ms r a w Q j
 |rangeFunc g ps assign body _ _=>
  intro s Kn Kx ms r a w Q j u hd C A hx B;cases s with
  |rf ks aa ab=>
   have j:(bif yz N ps.toList&&aW ps.toList.length ks.length then
    (match cC r g with
     |some fv=>RangeP P fv ks w.heap (fun GB Z x k h'=>Iu P N ps.toList ks assign body (.node aa ab) r (w.heap.size+1) GB Z x k h')
       (fun h'=>Kn (.it w.heap.size::ms) r h') (fun i h'=>Kx (.exit i) (.it w.heap.size::ms) r h') (fun h'=>Kx .ret (.it w.heap.size::ms) r h')
     |none=>False)else False):=j
   cases hb:(yz N ps.toList&&aW ps.toList.length ks.length)with
   |false=>rw[hb]at j;exact j.elim
   |true=>
    rw[hb,cond_true]at j;rw[aH]at hb;split at j
    · rename_i fv hfv
      have S:Agree N r {a with defers:=Dv w.heap.size::a.defers}:=⟨u.size,u.look⟩;have U:({a with defers:=Dv w.heap.size::a.defers}:Act).defers=(.it w.heap.size::ms).map ph:=by rw[List.map_cons,←hd]
      exact Ct G hb.1 (aG hb.2) hfv u j (fun w' H K=>A _ r _ w' S U H K) (fun i w' H K=>hx i _ r _ w' S U H K) (fun w' H K=>B _ r _ w' S U H K)
    · exact j.elim
  |_=>exact j.elim
 |exit id=>intro s Kn Kx ms r a w Q j;exact plain _ s Kn Kx ms r a w Q j
 |scope b _=>intro s Kn Kx ms r a w Q j;exact j.elim
 |label l=>intro s Kn Kx ms r a w Q j;exact plain _ s Kn Kx ms r a w Q j
 |goto l=>intro s Kn Kx ms r a w Q j;exact j.elim
 |ret=>intro s Kn Kx ms r a w Q j;exact plain _ s Kn Kx ms r a w Q j
 |refuse why=>intro s Kn Kx ms r a w Q j;exact j.elim
theorem uV{fn:Func}{ks:List Kind}{K:un ks→ac→Prop}{N:Nat}{n:Nat}{r:bP}{a:Act}{g:World}(c:Agree N r a):∀(ms:List Mk) (w:World),Tame g w→
  GV P ms (fun h'=>mF P r h' fn.results.toList fun vs=>Cy ks vs fun t=>K t h') w.heap→
  LeavesInM (FW none) n P fn a.tmps (fun e w'=>Tame g w'∧∃t:un ks,e=.returned (Cs ks (l4 ks t))∧K t w'.heap) (ms.map ph) .returning w
 | [],w,ht,h=>by
  obtain⟨t,b,i⟩:=G3 c h;exact⟨_,b,ht,t,rfl,i⟩
 | .it D::ms,w,ht,h=>by
  refine⟨by simp,.inl ⟨D,_,rfl,run_takeDeferred h.1,?_⟩⟩;exact uV c ms (w.putObj D (.deferred none)) (ht.trans (nB ..)) h.2
 | .call f vs::ms,w,ht,h=>by
  obtain⟨hc,hd⟩:=h w rfl;refine⟨by simp,.inr ⟨(fun e=>by cases e),.func f,#[],f,vs.toArray,rfl,?_,fun _ _=>trivial,CallsDIn.mono (hd (n-1)) fun e u w' ⟨k,d,⟨v,j⟩,m⟩=>?_⟩⟩
  ·have:=hc vs.toArray w
   simpa[invoke]using this
  ·subst k j
   exact uV c ms w' (ht.trans d) m
theorem HE.introM(k:P.follows .mixedOrders=true){f:FuncId}{fn:Func}{c:Code}{q:Ann}{args:List Value}{ks:List Kind}{K:un ks→ac→Prop}{h:ac}
  (x:P.funcs[f]? =some fn) (y:fn.body=some c) (d:∀(args:Array Value) (w:World),(callFunc f args).run P w=.ok (.enter f args) w) (m:args.length≤fn.ntmps)
  (u:Iw P fn c q args ks K h):HE P f args ks K h:=by
 refine⟨fun w s=>⟨d,?_⟩⟩
 subst s;refine(callsIn_wide (n:=0)).1 (callsIn_of_wp_marks (F:=FW none) x y trivial ?_ rfl);refine wpIn_mono (Q:=fun e a w'=>(∀o,e≠ .panic o)∧bodyPostM (FW none) 0 P fn (fun e w'=>Tame w w'∧∃t:un ks,e=.returned (Cs ks (l4 ks t))∧K t w'.heap) e a w') ?_ fun e a w h=>h.2
 refine FI k c q _ _ [] _ _ w _ u (JC m) rfl (fun o a w h=>h.1 o rfl) ?_ (fun _ _ _ _ _ _ _ _ h=>h.elim) ?_
 ·intro g v a' w' b j i p
  refine⟨(fun _ e=>by cases e),?_⟩
  show LeavesInM _ _ _ _ _ _ a'.defers _ _
  rw[j];exact uV b g w' i p
 ·intro g v a' w' b j i p
  refine⟨(fun _ e=>by cases e),?_⟩
  show LeavesInM _ _ _ _ _ _ a'.defers _ _
  rw[j];exact uV b g w' i p
theorem HC.introM(d:P.follows .mixedOrders=true){f:FuncId}{fn:Func}{c:Code}{i:Ann}{args:List Value}{ks:List Kind}{K:un ks→ac→Prop}{h:ac}
 (j:P.funcs[f]? =some fn) (k:fn.body=some c) (b:∀(args:Array Value) (w:World),(callFunc f args).run P w=.ok (.enter f args) w) (e:args.length≤fn.ntmps)
 (g:Iw P fn c i args ks K h):HC P f args ks K h:=(HE.introM d j k b e g).hc
end Go.Lift
namespace Go.Lift
open Go
def AppP(z:Option (List Value))(f c:Nat)(t:TypeId)(b:Option Addr)(sl e d:Nat)(xs:List Value)(h:ac)(K:SliceV→ac→Prop):Prop:=
 (sl+d≤e→uf h b (sl*f) xs∧bL xs=true∧K ⟨b,sl+d,e⟩ (eM h b (sl*f) xs))∧
 (e<sl+d→∃old z',SRow h b (sl*f) old∧z=some z'∧0<c∧Builtin.nextslicecap (sl+d) e*c≤2^48∧
  ∀nc,sl+d≤nc→K ⟨some (aV h),sl+d,nc⟩ (hnew h (old++xs++cS (nc-(sl+d)) z') t))
def NextP(a:Addr)(h:ac)(Kend:Prop)(Kstep:MapEntry→ac→Prop):Prop:=
 a.off=0∧∃m since seen last,h[a.block]? =some (.mapIter m since seen last)∧
  ((m=none∧Kend)∨
   (∃r es clock,m=some r∧h[r]? =some (.map es clock)∧(seen.isEmpty=true∨es.isEmpty=true∨es.all (fun e=>decide (e.born≥last))=false)∧
    ((∀e∈es.toList,e.born<since→seen.contains e.born=true)→Kend)∧
    (∀e∈es.toList,seen.contains e.born=false→Kstep e (h.setIfInBounds a.block (.mapIter (some r) since (seen.push e.born) clock)))))
def Rq(c:CK)(m:Option Nat)(k:Value)(h:ac)(K:ac→Prop):Prop:=
 (m=none∧K h)∨∃r:Nat,m=some r∧vx c h r∧K (qJ h r k)
end Go.Lift
