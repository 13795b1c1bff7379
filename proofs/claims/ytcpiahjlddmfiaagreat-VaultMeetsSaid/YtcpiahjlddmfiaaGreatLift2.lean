/- A part of the proof that the named laws of this program answer true, whatever the input. -/
import Derived.Test.YtcpiahjlddmfiaaGreatLift1
import Derived.BigFrameIn
open Array renaming getD_eq_getD_getElem?→cR,getElem?_toList→aW,getElem?_setIfInBounds_ne→ey,replicate→ox,getElem?_eq_some_iff→cy,getElem?_eq_getElem→eN,getElem?_eq_none→kR,mapM_eq_mapM_toList→m0,ext'→cM
open Bool renaming eq_false_iff→jI,or_eq_true→jq,and_eq_true→aR,not_eq_true'→pX,or_eq_false_iff→mu
open List renaming mem_of_getElem?→gZ,length_cons→ao,mem_cons→aq,getElem?_cons_zero→dH,getElem?_eq_getElem→aj,any_eq_true→bP,getElem?_eq_some_iff→bf,mem_cons_of_mem→az,mem_cons_self→au,range→fq,filter_cons→bl,mem_singleton→av,size_toArray→cY
open Nat renaming blt→yp,beq→bB,eq_of_beq_eq_true→aQ,land→jF,lor→cK,testBit_and→lj,zero_testBit→mU,succ→fx,zero_add→aH,beq_refl→sr,lt_or_ge→cg,pred→x7,sub_zero→ef
open Option renaming some→bD
namespace Go.Lift
open Go
variable {P:Program} {ro:Option Nat} {n:Nat}
def FW(ro:Option Nat):Fence:={fn:=fun _=>True,depth:=none,alive:=false,round:=ro}
theorem OB(m:Machine):m.fenced P (FW ro):=by
 intro g _;exact⟨fun h=>by simp[FW]at h,.inl trivial,fun _ _=>trivial,fun d h=>by simp[FW]at h⟩
theorem zj{m a:Machine}(h:Steps P m a):StepsIn (Machine.fenced P (FW ro)) P m a:=(StepsIn.of_steps h).mono fun m _=>OB m
theorem FA{k:Nat}{f:FuncId}{args:Array Value}{w:World}{R:Ending→World→Prop}(h:Calls P f args w R):CallsIn (FW ro) k P f args w R:=by
 refine⟨trivial,fun cs _=>?_⟩
 obtain⟨e,g,fr,d,hc,a,b⟩:=h cs;refine⟨e,g,fr,d,?_,a,b⟩;cases e with
 |returned v=>exact zj hc
 |panicked c=>exact zj hc
 |outgrown=>exact hc
theorem qE{o:Oper}{a:Act}{w:World}{K:WK}{next:Act→World→Prop}{Q:Exit→Act→World→Prop}(hd:∀c,o.op≠ .defer c)(h:KH P (execOp a.eval o) K w)
  (k:∀v d,Tame w d→K v d.heap→next (a.put o.dst v) d):o.wpIn (FW ro) n P a w next Q:=by
 refine⟨fun _ _=>trivial,?_⟩
 rw[Oper.semAt_eq _ _ _ hd];rcases h with⟨v,d,g,i,j⟩|⟨d,g,i,j⟩|⟨f,args,g,hc⟩|⟨l,fn,tmps,assign,body,g,hc⟩
 ·rw[g];exact k v d i j
 ·rw[g];exact k undef d i j
 ·rw[g]
  refine⟨fun h=>by simp[FW]at h,FA (hc.mono ?_)⟩
  rintro e d ⟨i,v,rfl,j⟩;exact k v d i j
 ·rw[g]
  refine⟨fun h=>by simp[FW]at h,trivial,fun c cs _=>?_⟩
  obtain⟨b,d,i,j,m⟩:=hc c cs;exact⟨.returned (.bool b),d,k _ d i j,zj m⟩
theorem tS{N:Nat}{o:Oper}{v:Value}{r:cA}{K:cA→Prop}{a:Act}{d:vG}{dv:DV}(h:zF N o v r K)(c:Agree N r a)(hd:DecOk d r)(g:GB dv v):
  ∃r',K r'∧Agree N r' (a.put o.dst v)∧DecOk (si d o dv) r':=by
 unfold zF at h;unfold si;cases ho:o.dst with
 |none=>rw[ho]at h;exact⟨r,h,c,hd⟩
 |some t=>
  rw[ho]at h;simp only at h;cases hb:yp t N with
  |false=>rw[hb]at h;exact h.elim
  |true=>
   rw[hb]at h;have b:t<N:=by simpa using hb
   refine⟨_,h,c.put t v b,fun s=>?_⟩
   by_cases e:t=s
   ·subst e
    have:rO ((t,dv)::d) t=dv:=by simp[rO]
    rw[this];exact .inr ⟨v,iH t v r,g⟩
   ·have i:rO ((t,dv)::d) s=rO d s:=by
     have:bB t s=false:=jI.2 fun f=>e (aQ f)
     show(bif bB t s then dv else rO d s)=_
     rw[this];rfl
    rw[i,gN v r e];exact hd s
theorem Dg{ek:Option (Kind×Kind)}{o:Op}{r:cA}{K:RK}{h:ac}(a:BJ P ek o r K h):∀c,o≠ .defer c:=by
 intro c e;subst e;exact a
theorem xb{o:Oper}{r:cA}{K:WK}{h:ac}(a:F4 P o r K h):∀c,o.op≠ .defer c:=by
 intro c e;unfold F4 at a;rw[e]at a;exact a
theorem UJ{d:vG}{o:Op}(h:wO P o=false):Jl d o=.x:=by
 cases o<;>first|rfl|(simp[wO]at h)
theorem N2{N:Nat}{ek:Option (Kind×Kind)}{o:Oper}{r:cA}{K:cA→ac→Prop}{a:Act}{w:World}{d:vG}{next:Act→World→Prop}{Q:Exit→Act→World→Prop}
  (f:TP P N ek o r K w.heap)(j:Agree N r a)(hd:DecOk d r)
  (q:∀v g c,Tame w g→K c g.heap→Agree N c (a.put o.dst v)→DecOk (si d o (Jl d o.op)) c→next (a.put o.dst v) g):o.wpIn (FW ro) n P a w next Q:=by
 unfold TP at f;cases hq:wO P o.op with
 |true=>
  rw[hq,cond_true]at f;obtain⟨v,S,p,s,m,t⟩:=B4 j f d hd;refine qE (K:=fun u h'=>u=v∧h'=w.heap) (Dg f) (.inl ⟨v,w,t w s,Tame.refl w,rfl,rfl⟩) ?_
  rintro u g k ⟨rfl,x⟩;obtain⟨c,i,b,e⟩:=tS p j hd m;exact q u g c k (by rw[x];exact i) b e
 |false=>
  rw[hq,cond_false]at f;refine qE (xb f) (BM j f) ?_;intro v g k p;obtain⟨c,i,b,e⟩:=tS p j hd (dv:=Jl d o.op) (by rw[UJ hq];trivial);exact q v g c k i b e
theorem Ho{t:Array Value}{i:Nat}{b:Bool}(h:t.getD i undef=.bool b):t[i]? =some (.bool b):=by
 rw[cR]at h;cases hc:t[i]? with
 |none=>rw[hc]at h;simp[undef]at h
 |some v=>rw[hc]at h;simp at h;rw[h]
theorem Mj{t:Array Value}{i:Nat}(h:t.getD i undef=undef):t[i]? =none∨t[i]? =some undef:=by
 rw[cR]at h;cases hc:t[i]? with
 |none=>exact .inl rfl
 |some v=>rw[hc]at h;simp at h;rw[h];exact .inr rfl
theorem nJ{N:Nat}{ops:Array Oper}{d:vG}{o:Oper}{b:Bool}{r:cA}{a:Act}(h:jb ops.toList d o=some b)(n:Agree N r a)(hd:DecOk d r):
  Region.wanted o (yielded ops a.tmps)=b:=by
 unfold jb at h;unfold Region.wanted;cases hg:o.guard with
 |none=>rw[hg]at h;simp only[bD.injEq]at h;exact h
 |some g=>
  obtain⟨j,c⟩:=g;rw[hg]at h;simp only[aW]at h;simp only;cases hj:ops[j]? with
  |none=>rw[hj]at h;cases h
  |some oj=>
   rw[hj]at h;simp only at h;cases ht:oj.dst with
   |none=>rw[ht]at h;cases h
   |some t=>
    rw[ht]at h;simp only at h;have m:yielded ops a.tmps j=(match a.tmps[t]? with|some (.bool b)=>some b|_=>none):=by
     unfold yielded;simp[hj,ht];rfl
    rw[m];rcases hd t with hx|⟨v,p,k⟩
    ·rw[hx]at h;cases h
    ·have i:=n.look t v p
     cases hdl:rO d t with
     |x=>rw[hdl]at h;cases h
     |t=>
      rw[hdl]at h k;simp only[bD.injEq]at h;subst h;have:v=.bool true:=k;subst this;rw[Ho i];cases c<;>rfl
     |f=>
      rw[hdl]at h k;simp only[bD.injEq]at h;subst h;have:v=.bool false:=k;subst this;rw[Ho i];cases c<;>rfl
     |u=>
      rw[hdl]at h k;simp only[bD.injEq]at h;subst h;have:v=undef:=k;subst this;rcases Mj i with e|e<;>rw[e]<;>cases c<;>rfl
structure Fr(W:Nat→Prop)(a0:Act)(w0:World)(a:Act)(w:World):Prop where
 tame:Tame w0 w
 defers:a.defers=a0.defers
 same:∀t,¬W t→a.tmps.getD t undef=a0.tmps.getD t undef
theorem Fr.refl(W:Nat→Prop)(a:Act)(w:World):Fr W a w a w:=⟨Tame.refl w,rfl,fun _ _=>rfl⟩
theorem Fr.put{W:Nat→Prop}{i a:Act}{f w g:World}(h:Fr W i f a w){o:Oper}(j:∀d,o.dst=some d→W d)(v:Value)(k:Tame w g):Fr W i f (a.put o.dst v) g:=by
 refine⟨h.tame.trans k,?_,fun t c=>?_⟩
 ·cases ho:o.dst<;>simp[Act.put,h.defers]
 ·cases ho:o.dst with
  |none=>exact h.same t c
  |some d=>
   have b:d≠t:=fun e=>c (e▸j d ho)
   rw[←h.same t c];simp[Act.put,ey b]
theorem Fr.trans{W:Nat→Prop}{f c e:Act}{b g a:World}(h:Fr W f b c g)(k:Fr W c g e a):Fr W f b e a:=
 ⟨h.tame.trans k.tame,k.defers.trans h.defers,fun t d=>(k.same t d).trans (h.same t d)⟩
theorem Fr.mono{W W':Nat→Prop}{b a:Act}{c w:World}(h:Fr W b c a w)(d:∀t,W t→W' t):Fr W' b c a w:=
 ⟨h.tame,h.defers,fun t f=>h.same t fun e=>f (d t e)⟩
theorem DecOk.known{d:vG}{r:cA}(h:DecOk d r){t:Nat}{dv:DV}{v:Value}(a:GB dv v):DecOk ((t,dv)::d) ((t,v)::r):=fun s=>by
 by_cases e:t=s
 ·subst e
  have:rO ((t,dv)::d) t=dv:=by simp[rO]
  rw[this];exact .inr ⟨v,iH t v r,a⟩
 ·have c:rO ((t,dv)::d) s=rO d s:=by
   have:bB t s=false:=jI.2 fun b=>e (aQ b)
   show(bif bB t s then dv else rO d s)=_
   rw[this];rfl
  rw[c,gN v r e];exact h s
theorem El{N:Nat}{ek:Option (Kind×Kind)}{ops:Array Oper}{o:Oper}{i:Nat}{d:vG}{r:cA}{a:Act}{w:World}{b:Bool}{K:vG→cA→ac→Prop}{next:Act→World→Prop}{Q:Exit→Act→World→Prop}
  (hi:ops[i]? =some o) (q:jb ops.toList d o=some b) (j:Agree N r a) (hd:DecOk d r)
  (m:match b with
   |true=>TP P N ek o r (K (si d o (Jl d o.op))) w.heap
   |false=>zF N o undef r fun c=>K (si d o .u) c w.heap)
  (p:∀v g d' c,Tame w g→K d' c g.heap→Agree N c (a.put o.dst v)→DecOk d' c→next (a.put o.dst v) g):
  wpOpIn (FW ro) n P ops Q i next a w:=by
 unfold wpOpIn;rw[hi];simp only[nJ q j hd];cases b with
 |true=>exact N2 m j hd fun v g c s t e f=>p v g _ c s t e f
 |false=>
  obtain⟨c,k,e,f⟩:=tS (dv:=.u) m j hd rfl;exact⟨fun _ _=>trivial,p undef w _ c (Tame.refl w) k e f⟩
theorem N1{N:Nat}{ek:Option (Kind×Kind)}{ops:List Oper}{o:Oper}{os:List Oper}{d:vG}{K:cA→ac→Prop}{r:cA}{h:ac}:EL P N ek ops (o::os) d K r h=
 (match jb ops d o with
 |some true=>TP P N ek o r (fun a h'=>EL P N ek ops os (si d o (Jl d o.op)) K a h') h
 |some false=>zF N o undef r fun a=>EL P N ek ops os (si d o .u) K a h
 |none=>match Fa ops o with
  |none=>False
  |some t=>match kg r t with
   |some (.bool b)=>CondP b
    (GS P N ek ops o ((t,.t)::d) ((t,.bool true)::r) h fun c a h'=>EL P N ek ops os c K a h')
    (GS P N ek ops o ((t,.f)::d) ((t,.bool false)::r) h fun c a h'=>EL P N ek ops os c K a h')
   |_=>False):=rfl
theorem GG{N:Nat}{ek:Option (Kind×Kind)}{ops:Array Oper}{o:Oper}{i:Nat}{d:vG}{r:cA}{a:Act}{w:World}{K:vG→cA→ac→Prop}{next:Act→World→Prop}{Q:Exit→Act→World→Prop}
  (hi:ops[i]? =some o) (e:Agree N r a) (hd:DecOk d r) (c:GS P N ek ops.toList o d r w.heap K)
  (f:∀v w' d' r',Tame w w'→K d' r' w'.heap→Agree N r' (a.put o.dst v)→DecOk d' r'→next (a.put o.dst v) w'):
  wpOpIn (FW ro) n P ops Q i next a w:=by
 unfold GS at c;cases hw:jb ops.toList d o with
 |none=>rw[hw]at c;exact c.elim
 |some b=>rw[hw]at c;exact El (ek:=ek) hi hw e hd (by cases b<;>exact c) f
theorem EK{N:Nat}{ek:Option (Kind×Kind)}{ops:Array Oper}{W:Nat→Prop}(u:∀o∈ops.toList,∀d,o.dst=some d→W d){x:Act}{q:World}{K:cA→ac→Prop}{Q:Exit→Act→World→Prop}
  (y:∀r a w,Agree N r a→Fr W x q a w→K r w.heap→Q .normal a w):
  ∀(l:List Oper) (i:Nat),ops.toList.drop i=l→∀(d:vG) (r:cA) (a:Act) (w:World),EL P N ek ops.toList l d K r w.heap→Agree N r a→DecOk d r→Fr W x q a w→
   wpOpsIn (FW ro) n P ops Q (List.range' i l.length) a w
 | [],i,_,d,r,a,w,hs,ha,hd,hf=>y r a w ha hf hs
 |o::os,i,hdr,d,r,a,w,hs,ha,hd,hf=>by
  have hi:ops[i]? =some o:=by
   rw[←aW];have:(ops.toList.drop i)[0]? =some o:=by rw[hdr];rfl
   simpa using this
  have j:o∈ops.toList:=gZ (by rw[aW];exact hi);have f:ops.toList.drop (i+1)=os:=by rw[←List.tail_drop,hdr];rfl
  rw[ao,List.range'_succ,wpOpsIn_cons];rw[N1]at hs;have m:∀v g e c,Tame w g→EL P N ek ops.toList os e K c g.heap→Agree N c (a.put o.dst v)→DecOk e c→wpOpsIn (FW ro) n P ops Q (List.range' (i+1) os.length) (a.put o.dst v) g:=
   fun v g e c s z k p=>EK u y os (i+1) f e c _ g z k p (hf.put (u o j) v s)
  cases hw:jb ops.toList d o with
  |some b=>
   rw[hw]at hs;exact El (ek:=ek) (K:=fun e c h'=>EL P N ek ops.toList os e K c h') hi hw ha hd (by cases b<;>exact hs) m
  |none=>
   rw[hw]at hs;simp only at hs;split at hs
   ·exact hs.elim
   ·rename_i t s
    split at hs
    ·rename_i b hb
     cases b with
     |true=>exact GG hi (ha.known hb) (hd.known (dv:=.t) rfl) (hs.yes rfl) m
     |false=>exact GG hi (ha.known hb) (hd.known (dv:=.f) rfl) (hs.no rfl) m
    ·exact hs.elim
end Go.Lift
namespace Go.Lift
open Go
theorem Al(m i:Nat):tb m i=m.testBit i:=by
 have h:jF (Nat.shiftRight m i) 1=(m>>>i)&&&1:=rfl;unfold tb;rw[h,Nat.testBit_eq_decide_div_mod_eq,Nat.and_one_is_mod,Nat.shiftRight_eq_div_pow];cases hm:decide (m/2^i%2=1)with
 |true=>rw[of_decide_eq_true hm];rfl
 |false=>
  have a:=of_decide_eq_false hm;have:m/2^i%2=0:=by omega
  rw[this];rfl
theorem oI(a b i:Nat):(cK a b).testBit i=(a.testBit i||b.testBit i):=Nat.testBit_or a b i
theorem zJ(i j:Nat):(gJ i).testBit j=decide (i=j):=Nat.testBit_two_pow
theorem Cu{a b:Nat}(h:bB (jF a b) 0=true)(t:Nat)(c:a.testBit t=true)(e:b.testBit t=true):False:=by
 have d:=aQ h;have:(jF a b).testBit t=(a.testBit t&&b.testBit t):=lj a b t;rw[d,c,e]at this;simp at this
theorem Sx{a b:Nat}(h:bB (jF a b) a=true)(t:Nat)(c:a.testBit t=true):b.testBit t=true:=by
 have d:=aQ h;have:(jF a b).testBit t=(a.testBit t&&b.testBit t):=lj a b t;rw[d,c]at this;simpa using this.symm
theorem yS(i:Nat):∀l:List Edge,(mK l).testBit i=l.any fun e=>bB e.on i&&Region.binds .any e
 | []=>mU i
 |e::l=>by
  have a:=yS i l;have hc:mK (e::l)=bif Region.binds .any e then cK (gJ e.on) (mK l)else mK l:=rfl;rw[hc,List.any_cons,←a];cases hb:Region.binds .any e with
  |true=>
   rw[cond_true,oI,zJ,Bool.and_true];congr 1
   cases hd:bB e.on i with
   |true=>simpa using aQ hd
   |false=>rw[decide_eq_false_iff_not];intro b;rw[b]at hd;simp at hd
  |false=>simp
theorem AW(o:Oper)(i:Nat):(mK o.after.toList).testBit i=jc o i:=yS i o.after.toList
theorem Ak(t:Nat):∀l:List Operand,(l5 l).testBit t=true↔Operand.tmp t∈l
 | []=>by simp[show l5 []=0 from rfl]
 |o::l=>by
  have a:=Ak t l;cases o with
  |tmp u=>
   have hc:l5 (.tmp u::l)=cK (gJ u) (l5 l):=rfl;rw[hc,oI,zJ,jq,a,aq];simp[eq_comm]
  |const v=>
   have hc:l5 (.const v::l)=l5 l:=rfl;rw[hc,a,aq];simp
  |global v=>
   have hc:l5 (.global v::l)=l5 l:=rfl;rw[hc,a,aq];simp
  |func v=>
   have hc:l5 (.func v::l)=l5 l:=rfl;rw[hc,a,aq];simp
theorem xL(o:Oper)(t:Nat):(oq o).testBit t=true↔o.dst=some t:=by
 unfold oq;cases o.dst with
 |none=>simp
 |some d=>simp[zJ]
theorem Gi(ops:Array Oper)(o:Oper)(t:Nat):(oX ops.toList o).testBit t=true↔t∈o.looksAt ops:=by
 unfold oX Oper.looksAt;rw[oI,jq,Ak,List.mem_append,List.mem_filterMap];refine or_congr ⟨fun h=>⟨_,h,rfl⟩,?_⟩ ?_
 ·rintro⟨x,hx,a⟩
  cases x<;>simp at a
  subst a;exact hx
 ·cases hg:o.guard with
  |none=>simp
  |some g=>
   obtain⟨j,b⟩:=g;simp only[aW];cases hj:ops[j]? with
   |none=>simp
   |some oj=>simp[xL]
variable {P:Program} {ro:Option Nat} {n:Nat} {ops:Array Oper} {Q:Exit→Act→World→Prop}
structure MsOk(ops:Array Oper)(ms:List DM):Prop where
 am:∀(i:Nat) (o:Oper) (m:DM),ops[i]? =some o→ms[i]? =some m→∀j,m.am.testBit j=jc o j
 lk:∀(i:Nat) (o:Oper) (m:DM),ops[i]? =some o→ms[i]? =some m→∀t,m.lk.testBit t=true↔t∈o.looksAt ops
 ds:∀(i:Nat) (o:Oper) (m:DM),ops[i]? =some o→ms[i]? =some m→∀t,m.ds.testBit t=true↔o.dst=some t
 len:ms.length=ops.size
 free:∀(i j:Nat) (m k:DM),ms[i]? =some m→ms[j]? =some k→m.fr.testBit j=true→j=i∨k.am.testBit i=true∨Cw m k=true
 nosel:∀(i:Nat) (o:Oper),ops[i]? =some o→(∀cs b,o.op≠ .select cs b)∧(∀c,o.op≠ .defer c)
theorem AB(ops:List Oper):∀(l:List Oper) (ms:List DM),xo ops l ms=true→ms.length=l.length∧∀(i:Nat) (o:Oper) (m:DM),l[i]? =some o→ms[i]? =some m→
  m.am=mK o.after.toList∧m.lk=oX ops o∧m.ds=oq o
 | [],[],_=>⟨rfl,fun i o m h=>by simp at h⟩
 | [],_::_,h=>by cases h
 |o::l,[],h=>by cases h
 |o::l,m::ms,h=>by
  have hc:xo ops (o::l) (m::ms)=(bB (mK o.after.toList) m.am&&bB (oX ops o) m.lk&&bB (oq o) m.ds&&xo ops l ms):=rfl;rw[hc]at h;simp only[aR]at h;obtain⟨⟨⟨j,b⟩,g⟩,c⟩:=h;obtain⟨d,e⟩:=AB ops l ms c;refine⟨by simp[d],fun i f k a hm=>?_⟩
  cases i with
  |zero=>
   simp only[dH,bD.injEq]at a hm;subst a;subst hm;exact⟨(aQ j).symm,(aQ b).symm,(aQ g).symm⟩
  |succ i=>exact e i f k (by simpa using a) (by simpa using hm)
theorem Hp(i:Nat)(m:DM):∀(l:List DM) (j0:Nat),Hq i m l j0=true→∀(j:Nat) (k:DM),l[j]? =some k→m.fr.testBit (j0+j)=true→j0+j=i∨k.am.testBit i=true∨Cw m k=true
 | [],j0,_,j,k,hk,_=>by simp at hk
 |x::l,j0,h,j,k,hk,hb=>by
  have hc:Hq i m (x::l) j0=((!(tb m.fr j0)||bB j0 i||tb x.am i||Cw m x)&&Hq i m l (fx j0)):=rfl
  rw[hc]at h;simp only[aR,jq,pX,Al]at h;cases j with
  |zero=>
   simp only[dH,bD.injEq]at hk;subst hk;simp only[Nat.add_zero]at hb⊢;rcases h.1 with((a|a)|a)|a
   ·rw[a]at hb;cases hb
   ·exact .inl (aQ a)
   ·exact .inr (.inl a)
   ·exact .inr (.inr a)
  |succ j=>
   have:=Hp i m l (j0+1) h.2 j k (by simpa using hk) (by rw[show j0+1+j=j0+(j+1) by omega];exact hb)
   rw[show j0+1+j=j0+(j+1) by omega]at this
   exact this
theorem Dq(all:List DM):∀(l:List DM) (i0:Nat),AL all l i0=true→∀(i:Nat) (m:DM),l[i]? =some m→Hq (i0+i) m all 0=true
 | [],i0,_,i,m,hm=>by simp at hm
 |x::l,i0,h,i,m,hm=>by
  have hc:AL all (x::l) i0=(Hq i0 x all 0&&AL all l (fx i0)):=rfl;rw[hc,aR]at h;cases i with
  |zero=>simp only[dH,bD.injEq]at hm;subst hm;exact h.1
  |succ i=>
   have:=Dq all l (i0+1) h.2 i m (by simpa using hm);rw[show i0+1+i=i0+(i+1) by omega]at this
   exact this
theorem G9:∀(l:List Oper),Kd l=true→∀o∈l,(∀cs b,o.op≠ .select cs b)∧(∀c,o.op≠ .defer c)
 | [],_,o,a=>by cases a
 |x::l,h,o,a=>by
  simp only[Kd,aR]at h;rcases aq.1 a with rfl|a
  ·refine⟨fun cs b e=>?_,fun c e=>?_⟩
   ·rw[e]at h;cases h.1
   ·rw[e]at h;cases h.1
  ·exact G9 l h.2 o a
theorem LZ{ms:List DM}(h:Ed ops.toList ms=true):MsOk ops ms:=by
 have hc:Ed ops.toList ms=(xo ops.toList ops.toList ms&&AL ms ms 0&&Kd ops.toList):=rfl;rw[hc]at h;simp only[aR]at h;obtain⟨⟨g,c⟩,f⟩:=h;obtain⟨d,b⟩:=AB ops.toList ops.toList ms g;refine⟨fun i o m a hm j=>?_,fun i o m a hm t=>?_,fun i o m a hm t=>?_,by simpa using d,fun i j m k hm e n=>?_,fun i o a=>?_⟩
 ·rw[(b i o m (by simpa using a) hm).1,AW]
 ·rw[(b i o m (by simpa using a) hm).2.1,Gi]
 ·rw[(b i o m (by simpa using a) hm).2.2,xL]
 ·have:=Dq ms ms 0 c i m hm
  rw[aH]at this;have:=Hp i m ms 0 this j k e (by rwa [aH]);rwa [aH]at this
 ·exact G9 _ f o (gZ (by rw[aW];exact a))
theorem QS{ms:List DM}(hm:MsOk ops ms){i j:Nat}{b e:Oper}{f g:DM}(hi:ops[i]? =some b) (m:ops[j]? =some e) (c:ms[i]? =some f) (a:ms[j]? =some g) (h:Cw f g=true):
  (∀d,b.dst=some d→d∉e.looksAt ops)∧(∀d,b.dst=some d→e.dst≠some d)∧(∀d,e.dst=some d→d∉b.looksAt ops):=by
 unfold Cw at h;rw[aR]at h;refine⟨fun d hd k=>?_,fun d hd n=>?_,fun d hd k=>?_⟩
 ·exact Cu h.1 d ((hm.ds i b f hi c d).2 hd) (by rw[oI,(hm.lk j e g m a d).2 k,Bool.true_or])
 ·exact Cu h.1 d ((hm.ds i b f hi c d).2 hd) (by rw[oI,(hm.ds j e g m a d).2 n,Bool.or_true])
 ·exact Cu h.2 d ((hm.ds j e g m a d).2 hd) ((hm.lk i b f hi c d).2 k)
structure LsRel(ops:Array Oper)(ls:Nat)(listed:Array Bool):Prop where
 size:listed.size=ops.size
 bit:∀j,listed.getD j false=ls.testBit j
theorem LsRel.start:LsRel ops 0 (ox ops.size false):=⟨by simp,fun j=>by
 rw[mU,cR]
 by_cases h:j<ops.size<;>simp[h]⟩
theorem LsRel.put{ls:Nat}{a:Array Bool}(h:LsRel ops ls a){i:Nat}(hi:i<ops.size):LsRel ops (cK ls (gJ i)) (a.setIfInBounds i true):=by
 refine⟨by simp[h.size],fun j=>?_⟩
 rw[oI,zJ,←h.bit];by_cases e:i=j
 ·subst e;simp[h.size,hi]
 ·simp[e,ey e]
theorem LsRel.unlisted{ls:Nat}{a:Array Bool}(h:LsRel ops ls a){i:Nat}(hi:i<ops.size):a.getD i true=ls.testBit i:=by
 rw[←h.bit];have:i<a.size:=by rw[h.size];exact hi
 simp[this]
theorem GX{ms:List DM}(hm:MsOk ops ms){ls:Nat}{a:Array Bool}(h:LsRel ops ls a){j:Nat}:j∈Region.ready .any ops a↔∃m,ms[j]? =some m∧ls.testBit j=false∧Jk m ls=true:=by
 rw[mem_ready];constructor
 ·rintro⟨k,o,p,f⟩
  have b:j<ops.size:=(cy.1 p).1;have i:j<ms.length:=by rw[hm.len];exact b
  refine⟨ms[j],aj i,by rw[←h.unlisted b];exact k,?_⟩
  unfold Jk;have:jF (ms[j]).am ls=(ms[j]).am:=by
   apply Nat.eq_of_testBit_eq;intro t;have c:(jF (ms[j]).am ls).testBit t=((ms[j]).am.testBit t&&ls.testBit t):=lj _ _ t;rw[c];cases ht:(ms[j]).am.testBit t with
   |false=>rfl
   |true=>
    rw[hm.am j o _ p (aj i)]at ht;unfold jc at ht;obtain⟨e,n,g⟩:=bP.1 ht;simp only[aR]at g;have:=f e (by simpa using n) g.2;rw[aQ g.1,h.bit]at this;rw[this];rfl
  rw[this];exact sr _
 ·rintro⟨m,d,k,q⟩
  have b:j<ops.size:=by rw[←hm.len];exact(bf.1 d).1
  refine⟨by rw[h.unlisted b];exact k,ops[j],eN b,fun e n g=>?_⟩
  rw[h.bit];refine Sx q e.on ?_;rw[hm.am j _ m (eN b) d];unfold jc;exact bP.2 ⟨e,by simpa using n,by simp[g]⟩
theorem sC(ls:Nat):∀(l:List DM) (j0 j:Nat),j∈ma ls l j0↔∃k m,l[k]? =some m∧j=j0+k∧ls.testBit j=false∧Jk m ls=true
 | [],j0,j=>by simp[show ma ls [] j0= []from rfl]
 |m::l,j0,j=>by
  have hc:ma ls (m::l) j0=bif !(tb ls j0)&&Jk m ls then j0::ma ls l (fx j0)else ma ls l (fx j0):=rfl;have e:=sC ls l (j0+1) j;rw[hc,Al];have step:(∃k c,(m::l)[k]? =some c∧j=j0+k∧ls.testBit j=false∧Jk c ls=true)↔(j=j0∧ls.testBit j0=false∧Jk m ls=true)∨j∈ma ls l (j0+1):=by
   rw[e];constructor
   ·rintro⟨k,c,d,rfl,b,a⟩
    cases k with
    |zero=>simp only[dH,bD.injEq]at d;subst d;exact .inl ⟨rfl,b,a⟩
    |succ k=>exact .inr ⟨k,c,by simpa using d,by omega,b,a⟩
   ·rintro(⟨rfl,b,a⟩|⟨k,c,d,rfl,b,a⟩)
    ·exact⟨0,m,rfl,rfl,b,a⟩
    ·exact⟨k+1,c,by simpa using d,by omega,b,a⟩
  rw[step];cases hb:(!(ls.testBit j0)&&Jk m ls)with
  |true=>
   simp only[aR,pX]at hb;rw[cond_true,aq];simp[hb.1,hb.2]
  |false=>
   rw[cond_false];constructor
   ·exact .inr
   ·rintro(⟨_,b,a⟩|h)
    ·rw[b,a]at hb;cases hb
    ·exact h
theorem mB{ms:List DM}(hm:MsOk ops ms){ls:Nat}{a:Array Bool}(h:LsRel ops ls a){j:Nat}:j∈Region.ready .any ops a↔j∈ma ls ms 0:=by
 rw[GX hm h,sC];constructor
 ·rintro⟨m,d,b,c⟩;exact⟨j,m,d,by omega,b,c⟩
 ·rintro⟨k,m,d,rfl,b,c⟩;exact⟨m,by simpa using d,b,c⟩
theorem yh:∀{a b:List Nat},vU a b=true→a=b
 | [],[],_=>rfl
 | [],_::_,h=>by cases h
 |_::_,[],h=>by cases h
 |a::as,b::bs,h=>by
  simp only[vU,aR]at h;rw[aQ h.1,yh h.2]
end Go.Lift
namespace Go.Lift
open Go
variable {P:Program} {ro:Option Nat} {n:Nat} {ops:Array Oper} {Q:Exit→Act→World→Prop}
theorem Ai{m:Nat}{p:Nat→Bool}(hm:∀j,m.testBit j=true→p j=true):∀(l:List DM) (j0:Nat),(∀j x,l[j]? =some x→p (j0+j)=true→∀k,x.am.testBit k=true→p k=true)→∀k,(O5 m l j0).testBit k=true→p k=true
 | [],_,_,k,h=>hm k h
 |x::l,j0,hl,k,h=>by
  have hc:O5 m (x::l) j0=bif tb m j0 then cK x.am (O5 m l (fx j0))else O5 m l (fx j0):=rfl;have a:=Ai hm l (j0+1) (fun j y b c=>hl (j+1) y (by simpa using b) (by rw[show j0+(j+1)=j0+1+j by omega];exact c)) k
  rw[hc,Al]at h;cases hb:m.testBit j0 with
  |true=>
   rw[hb,cond_true,oI,jq]at h;rcases h with h|h
   ·exact hl 0 x rfl (hm _ hb) k h
   ·exact a h
  |false=>
   rw[hb,cond_false]at h;exact a h
theorem Ah{m k:Nat}(h:m.testBit k=true):∀(l:List DM) (j0:Nat),(O5 m l j0).testBit k=true
 | [],_=>h
 |x::l,j0=>by
  have hc:O5 m (x::l) j0=bif tb m j0 then cK x.am (O5 m l (fx j0))else O5 m l (fx j0):=rfl;have a:=Ah h l (j0+1);rw[hc];cases tb m j0 with
  |true=>rw[cond_true,oI,jq];exact .inr a
  |false=>exact a
def Shut(ms:List DM)(a:Array Bool):Prop:=∀j x,ms[j]? =some x→a.getD j false=true→∀k,x.am.testBit k=true→a.getD k false=true
theorem OI{ms:List DM}{a:Array Bool}(d:Shut ms a){m:Nat}(hm:∀j,m.testBit j=true→a.getD j false=true){k:Nat}(h:(AP ms m).testBit k=true):a.getD k false=true:=by
 have b:∀j x,ms[j]? =some x→(fun k=>a.getD k false) (0+j)=true→∀k,x.am.testBit k=true→(fun k=>a.getD k false) k=true:=fun j x hx c=>d j x hx (by rw[aH]at c;exact c)
 unfold AP at h;exact Ai (p:=fun k=>a.getD k false) (Ai (Ai (Ai hm ms 0 b) ms 0 b) ms 0 b) ms 0 b k h
theorem Hz{ms:List DM}{m k:Nat}(h:m.testBit k=true):(AP ms m).testBit k=true:=by
 unfold AP;exact Ah (Ah (Ah (Ah h ms 0) ms 0) ms 0) ms 0
noncomputable abbrev rel(ms:List DM)(i:Nat)(L:rH):rH:=As (AP ms (IW ms i)) L
theorem jS{m:Nat}{x:Nat×(ac→Prop)}:∀{L:rH},x∈As m L↔x∈L∧tb m x.1=false
 | []=>by simp[As]
 |(k,S)::L=>by
  have b:=jS (m:=m) (x:=x) (L:=L);simp only[As];cases hk:tb m k with
  |true=>
   rw[cond_true,b,aq];constructor
   ·exact fun h=>⟨.inr h.1,h.2⟩
   ·rintro⟨h|h,a⟩
    ·subst h;rw[hk]at a;cases a
    ·exact⟨h,a⟩
  |false=>
   rw[cond_false,aq,b,aq];constructor
   ·rintro(h|h)
    ·subst h;exact⟨.inl rfl,hk⟩
    ·exact⟨.inr h.1,h.2⟩
   ·rintro⟨h|h,a⟩
    ·exact .inl h
    ·exact .inr ⟨h,a⟩
def Pi(ms:List DM)(ro:Option Nat)(n:Nat)(P:Program)(ops:Array Oper)(Q:Exit→Act→World→Prop):Nat→rH→Array Bool→Act→World→Prop
 |0,_,listed,a,w=>Region.ready .any ops listed= []∧Q .normal a w
 |f+1,L,listed,a,w=>(Region.ready .any ops listed= []→Q .normal a w)∧
  ∀i∈Region.ready .any ops listed,∀o,ops[i]? =some o→
   wpOpIn (FW ro) n P ops Q i (fun a' b=>(∀x∈rel ms i L,x.2 b.heap)∧Pi ms ro n P ops Q f (rel ms i L) (listed.setIfInBounds i true) a' b) a w
theorem xj{o:Oper}{x:Nat×(ac→Prop)}:∀{L:rH},x∈pk o L↔x∈L∧jc o x.1=false
 | []=>by simp[pk]
 |(k,S)::L=>by
  have b:=xj (o:=o) (x:=x) (L:=L);simp only[pk];cases hk:jc o k with
  |true=>
   rw[cond_true,b,aq];constructor
   ·exact fun h=>⟨.inr h.1,h.2⟩
   ·rintro⟨h|h,a⟩
    ·subst h;rw[hk]at a;cases a
    ·exact⟨h,a⟩
  |false=>
   rw[cond_false,aq,b,aq];constructor
   ·rintro(h|h)
    ·subst h;exact⟨.inl rfl,hk⟩
    ·exact⟨.inr h.1,h.2⟩
   ·rintro⟨h|h,a⟩
    ·exact .inl h
    ·exact .inr ⟨h,a⟩
theorem N7{a:Array Bool}{i:Nat}(h:i∈Region.ready .any ops a):∃o,ops[i]? =some o:=by
 obtain⟨_,o,b,_⟩:=mem_ready.1 h;exact⟨o,b⟩
theorem M0{ms:List DM}:∀(f:Nat) (L:rH) (listed:Array Bool) (a:Act) (w:World),Pi ms ro n P ops Q f L listed a w→wpAnyIn (FW ro) n P .any ops Q f listed a w
 |0,_,_,_,_,h=>h
 |f+1,L,listed,a,w,h=>⟨h.1,fun i hi=>by
  obtain⟨o,b⟩:=N7 hi
  exact wpOpIn_mono (fun a' c h'=>M0 f _ _ a' c h'.2) (h.2 i hi o b)⟩
theorem uU{ms:List DM}:∀(f:Nat) (L L':rH) (listed:Array Bool) (a:Act) (w:World),(∀x∈L',x∈L∨∀h,x.2 h)→Pi ms ro n P ops Q f L listed a w→Pi ms ro n P ops Q f L' listed a w
 |0,_,_,_,_,_,_,h=>h
 |f+1,L,L',listed,a,w,hs,h=>⟨h.1,fun i hi o c=>by
  have b:∀x∈rel ms i L',x∈rel ms i L∨∀h,x.2 h:=fun x hx=>(hs x (jS.1 hx).1).imp (fun h=>jS.2 ⟨h,(jS.1 hx).2⟩) id
  exact wpOpIn_mono (fun a' d h'=>⟨fun x hx=>(b x hx).elim (h'.1 x) fun h=>h _,uU f _ _ _ a' d b h'.2⟩) (h.2 i hi o c)⟩
def YG(P:Program)(ops:Array Oper)(S:ac→Prop)(o:Oper)(v:Value)(a:Act):Prop:=
 (Region.wanted o (yielded ops a.tmps)=true∧∀w:World,S w.heap→(execOp a.eval o).run P w=.ok (.value v) w)∨
 (Region.wanted o (yielded ops a.tmps)=false∧v=undef)
theorem YG.wpOp{S:ac→Prop}{i:Nat}{o:Oper}{v:Value}{a:Act}(hi:ops[i]? =some o) (hd:∀c,o.op≠ .defer c) (d:YG P ops S o v a) {K:Act→World→Prop} {w:World} (e:S w.heap)
  (h:K (a.put o.dst v) w):wpOpIn (FW ro) n P ops Q i K a w:=by
 unfold wpOpIn;simp only[hi];rcases d with⟨b,f⟩|⟨b,rfl⟩
 ·simp only[b,if_true]
  refine⟨fun _ _=>trivial,?_⟩
  rw[Oper.semAt_eq _ _ _ hd,f w e];exact h
 ·simp only[b,Bool.false_eq_true,if_false];exact⟨fun _ _=>trivial,h⟩
theorem YG.of_same{S:ac→Prop}{o:Oper}{v:Value}{a a':Act}(b:YG P ops S o v a)(c:execOp a'.eval o=execOp a.eval o)
  (d:Region.wanted o (yielded ops a'.tmps)=Region.wanted o (yielded ops a.tmps)):YG P ops S o v a':=by
 unfold YG at*;rw[c,d];exact b
theorem Lf{S:ac→Prop}{j:Nat}{g i:Oper}{v:Value}(D:ops[j]? =some i)
  (A:(∀d,g.dst=some d→d∉i.looksAt ops)∧(∀d,g.dst=some d→i.dst≠some d)∧(∀d,i.dst=some d→d∉g.looksAt ops))
  (t:∀cs b,g.op≠ .select cs b) (B:∀cs b,i.op≠ .select cs b) (s:∀c,i.op≠ .defer c)
  (F:∀e a w,(∀c,e=.panic c→False)∨¬Q e a w) {K:Act→World→Prop} {a:Act} {w:World}
  (k:YG P ops S g v a) (h:wpOpIn (FW ro) n P ops Q j K (a.put g.dst v) w):
  wpOpIn (FW ro) n P ops Q j (fun a' z=>YG P ops S g v a'∧K (a'.put g.dst v) z) a w:=by
 obtain⟨C,o,y⟩:=A;have p:∀c a w,¬Q (.panic c) a w:=fun c a w E=>(F (.panic c) a w).elim (fun h=>h c rfl) fun h=>h E
 have keep:∀(a:Act),YG P ops S g v a→∀u,YG P ops S g v (a.put i.dst u):=fun a k u=>
  k.of_same (execOp_put g t a i.dst u y) (wanted_put g a i.dst u y)
 unfold wpOpIn at*;simp only[D]at*;rw[wanted_put i a g.dst v C]at h;split
 ·rename_i hw
  simp only[hw,if_true]at h;refine⟨fun _ _=>trivial,?_⟩
  have h:=h.2;rw[Oper.semAt_eq _ _ _ s,execOp_put i B a g.dst v C]at h;rw[Oper.semAt_eq _ _ _ s];generalize (execOp a.eval i).run P w=r at*;cases r with
  |ok x z=>
   cases x<;>simp only[Oper.uponIn]at h⊢
   case value u=>exact⟨keep a k u,by rw[←Act.put_comm a v u o];exact h⟩
   case skip=>exact⟨keep a k _,by rw[←Act.put_comm a v undef o];exact h⟩
   case defer d=>
    refine⟨(k.of_same (a':={a with defers:=d::a.defers}) rfl rfl).of_same (execOp_put g t _ i.dst undef y) (wanted_put g _ i.dst undef y),?_⟩;rw[←Act.put_comm _ v undef o,←Act.put_defers];exact h
   case enter f args=>
    refine⟨h.1,CallsIn.mono h.2 fun e q m=>?_⟩
    cases e with
    |returned u=>exact⟨keep a k u,by rw[←Act.put_comm a v u o];exact m⟩
    |panicked c=>exact(p _ _ _ m).elim
    |outgrown=>exact m
   case row row args=>exact⟨h.1,RowsIn.mono h.2 fun u q m=>⟨keep a k u,by rw[←Act.put_comm a v u o];exact m⟩⟩
   case round l f tmps assign body=>
    refine⟨h.1,RoundIn.mono h.2 fun e q m=>?_⟩
    cases e with
    |returned u=>exact⟨keep a k u,by rw[←Act.put_comm a v u o];exact m⟩
    |panicked c=>exact(p _ _ _ m).elim
    |outgrown=>exact m
  |halt x z=>
   cases x<;>simp only[Oper.uponIn]at h⊢
   case panic u=>exact(p _ _ _ h).elim
 ·rename_i hw
  simp only[hw]at h;exact⟨fun _ _=>trivial,keep a k _,by rw[←Act.put_comm a v undef o];exact h.2⟩
theorem IV{ms:List DM}(hm:MsOk ops ms){i:Nat}{o:Oper}(a:ops[i]? =some o) (k:Nat):(IW ms i).testBit k=jc o k:=by
 have hi:i<ms.length:=by rw[hm.len];exact(cy.1 a).1
 unfold IW;rw[aj hi];exact hm.am i o _ a (aj hi) k
theorem JO{ms:List DM}(hm:MsOk ops ms){a:Array Bool}{j:Nat}(g:j∈Region.ready .any ops a)(k:Nat)(c:(IW ms j).testBit k=true):a.getD k false=true:=by
 obtain⟨_,o,f,b⟩:=mem_ready.1 g;rw[IV hm f]at c;unfold jc at c;obtain⟨e,i,d⟩:=bP.1 c;simp only[aR]at d;have:=b e (by simpa using i) d.2;rw[aQ d.1]at this;exact this
theorem Kq{a:Array Bool}{j k:Nat}(h:a.getD k false=true):(a.setIfInBounds j true).getD k false=true:=by
 by_cases e:j=k
 ·subst e
  rw[cR]at h⊢;rcases cg j a.size with h'|h'
  ·simp[h']
  ·simp[kR h']at h
 ·rw[cR,ey e,←cR]
  exact h
theorem Shut.put{ms:List DM}(hm:MsOk ops ms){a:Array Bool}(d:Shut ms a){j:Nat}(f:j∈Region.ready .any ops a):Shut ms (a.setIfInBounds j true):=by
 intro i x hx b k c;by_cases e:j=i
 ·subst e
  refine Kq (JO hm f k ?_);unfold IW;rw[hx];exact c
 ·rw[cR,ey e,←cR]at b
  exact Kq (d i x hx b k c)
theorem Em{ms:List DM}(hm:MsOk ops ms){S:ac→Prop}{i:Nat}{y:Oper}{v:Value}(hi:ops[i]? =some y) (m:∀(j:Nat) (o:Oper),ops[j]? =some o→(∀cs b,o.op≠ .select cs b)∧(∀c,o.op≠ .defer c))
  (hQ:∀e a w,(∀c,e=.panic c→False)∨¬Q e a w):
  ∀(q:Nat) (L:rH) (f:Array Bool) (a:Act) (w:World),
   (∀j u,ops[j]? =some u→j≠i→f.getD j true=false→jc u i=false→
    (∀d,y.dst=some d→d∉u.looksAt ops)∧(∀d,y.dst=some d→u.dst≠some d)∧(∀d,u.dst=some d→d∉y.looksAt ops))→
   Shut ms f→i∈Region.ready .any ops f→YG P ops S y v a→S w.heap→(∀x∈L,x.2 w.heap)→
   Pi ms ro n P ops Q q ((i,S)::L) (f.setIfInBounds i true) (a.put y.dst v) w→Pi ms ro n P ops Q (q+1) L f a w:=by
 intro q;induction q with
 |zero=>
  intro L f a w _ _ D U X Y H;refine⟨fun h=>(by rw[h]at D;cases D),fun j F u g=>?_⟩
  by_cases p:j=i
  ·subst p
   rw[hi]at g;cases g;exact U.wpOp hi (m _ _ hi).2 X ⟨fun x hx=>Y x (jS.1 hx).1,H⟩
  ·have:=ready_mono F p
   rw[H.1]at this;cases this
 |succ q ih=>
  intro L f a w t R D U X Y H;refine⟨fun h=>(by rw[h]at D;cases D),fun j F u g=>?_⟩
  by_cases p:j=i
  ·subst p
   rw[hi]at g;cases g;exact U.wpOp hi (m _ _ hi).2 X ⟨fun x hx=>Y x (jS.1 hx).1,uU _ _ _ _ _ _ (fun x hx=>.inl (az _ (jS.1 hx).1)) H⟩
  ·have s:=H.2 j (ready_mono F p) u g
   obtain⟨C,oj',B,I⟩:=mem_ready.1 F;rw[g]at B;cases B;have J:jc u i=false:=by
    cases z:jc u i with
    |false=>rfl
    |true=>
     unfold jc at z;obtain⟨e,Z,z⟩:=bP.1 z;simp only[aR]at z;have s:=I e (by simpa using Z) z.2;rw[aQ z.1]at s;have N:=(mem_ready.1 D).1;rcases cg i f.size with h'|h'
     ·simp[h']at N s;rw[N]at s;cases s
     ·simp[kR h']at s
   have E:tb (AP ms (IW ms j)) i=false:=by
    cases z:tb (AP ms (IW ms j)) i with
    |false=>rfl
    |true=>
     rw[Al]at z;have s:=OI R (JO hm F) z;have N:=(mem_ready.1 D).1;rcases cg i f.size with h'|h'
     ·simp[h']at N s;rw[N]at s;cases s
     ·simp[kR h']at s
   have T:rel ms j ((i,S)::L)=(i,S)::rel ms j L:=by simp only[rel,As,E,cond_false]
   rw[T]at s;have h2:=Lf g (t j u g p C J) (m _ _ hi).1 (m _ _ g).1 (m _ _ g).2 hQ U s;have A:∀k ok,ops[k]? =some ok→k≠i→(f.setIfInBounds j true).getD k true=false→jc ok i=false→
     (∀d,y.dst=some d→d∉ok.looksAt ops)∧(∀d,y.dst=some d→ok.dst≠some d)∧(∀d,ok.dst=some d→d∉y.looksAt ops):=fun k ok hk W G V=>by
    refine t k ok hk W ?_ V;by_cases K:j=k
    ·subst K;exact C
    ·rw[getD_set_ne true K]at G;exact G
   refine wpOpIn_mono (fun a' w' O=>⟨fun x hx=>O.2.1 x (az _ hx),ih (rel ms j L) (f.setIfInBounds j true) a' w' A (R.put hm F) (ready_mono D (Ne.symm p)) O.1 (O.2.1 _ (au ..)) (fun x hx=>O.2.1 x (az _ hx)) ?_⟩) h2
   rw[Array.setIfInBounds_comm _ _ p];exact O.2.2
theorem sd{h:ac}{R:Prop}:∀{L:rH},sH L h R↔(∀x∈L,x.2 h)∧R
 | []=>by simp[sH]
 |(k,S)::L=>by
  simp only[sH,sd (L:=L),aq,forall_eq_or_imp,and_assoc]
theorem Ph{ms:List DM}{f:Nat}{L:rH}{b:Array Bool}{a:Act}{w:World}(c:Region.ready .any ops b= [])(h:Q .normal a w):Pi ms ro n P ops Q f L b a w:=by
 cases f with
 |zero=>exact⟨c,h⟩
 |succ f=>exact⟨fun _=>h,by rw[c];simp⟩
def left(ops:Array Oper)(ls:Nat):Nat:=((fq ops.size).filter fun j=> !ls.testBit j).length
theorem xu{ls i:Nat}(hi:i<ops.size)(g:ls.testBit i=false):left ops (cK ls (gJ i))+1=left ops ls:=by
 have key:∀l:List Nat,l.Nodup→i∈l→(l.filter fun j=> !(cK ls (gJ i)).testBit j).length+1=(l.filter fun j=> !ls.testBit j).length:=by
  intro l;induction l with
  |nil=>intro _ h;cases h
  |cons x l ih=>
   intro c hm;rw[List.nodup_cons]at c;by_cases hx:x=i
   ·subst hx
    have a:(l.filter fun j=> !(cK ls (gJ x)).testBit j)=l.filter fun j=> !ls.testBit j:=by
     apply List.filter_congr;intro y f;have:x≠y:=fun e=>c.1 (e▸f)
     rw[oI,zJ,decide_eq_false this,Bool.or_false]
    have d:(cK ls (gJ x)).testBit x=true:=by rw[oI,zJ];simp
    rw[bl,bl,d,g,a];rfl
   ·have b:i∈l:=by rcases aq.1 hm with h|h;exact absurd h.symm hx;exact h
    have d:(cK ls (gJ i)).testBit x=ls.testBit x:=by rw[oI,zJ,decide_eq_false (Ne.symm hx),Bool.or_false]
    have:=ih c.2 b;rw[bl,bl,d];cases ls.testBit x with
    |true=>exact this
    |false=>exact congrArg (· +1) this
 exact key _ List.nodup_range (List.mem_range.2 hi)
theorem OA{N:Nat}{a:List Oper}{ms:List DM}{ls:Nat}{L:rH}{d:vG}{K:cA→ac→Prop}{r:cA}{b:ac}:∀{l:DA},nK P N a ms l true ls L d K r b→∃i,i∈Cj l
 | .done,h=>h.elim
 | .take i rest,h=>by
  exfalso;have hc:nK P N a ms (.take i rest) true ls L d K r b=(match a[i]?,ms[i]? with|some _,some _=>False|_,_=>False):=rfl
  rw[hc]at h;split at h<;>exact h
 | .all _,h=>h.elim
 | .pick i _ _,_=>⟨i,au ..⟩
 | .last i _,_=>⟨i,au ..⟩
 | .lastT i _,_=>⟨i,au ..⟩
 | .split ..,h=>h.elim
def MQ(ro:Option Nat)(n:Nat)(P:Program)(ops:Array Oper)(Q:Exit→Act→World→Prop)(N:Nat)(ms:List DM)(W:Nat→Prop)(f:Act)(e:World)(K:cA→ac→Prop)(b:DA):Prop:=
 ∀(m:Bool) (ls:Nat) (L:rH) (d:vG) (r:cA) (a:Act) (w:World) (listed:Array Bool) (fuel:Nat),
  nK P N ops.toList ms b m ls L d K r w.heap→Agree N r a→DecOk d r→Fr W f e a w→LsRel ops ls listed→Shut ms listed→(∀x∈L,x.2 w.heap)→
  (m=false→left ops ls≤fuel→Pi ms ro n P ops Q fuel L listed a w)∧
  (m=true→left ops ls≤fuel+1→∀i∈Cj b,i∈ma ls ms 0→∀o,ops[i]? =some o→
   wpOpIn (FW ro) n P ops Q i (fun a' c=>(∀x∈rel ms i L,x.2 c.heap)∧Pi ms ro n P ops Q fuel (rel ms i L) (listed.setIfInBounds i true) a' c) a w)
theorem JH{N:Nat}{ms:List DM}(hm:MsOk ops ms){W:Nat→Prop}(hW:∀o∈ops.toList,∀d,o.dst=some d→W d){a0:Act}{w0:World}{K:cA→ac→Prop}
  (hQ:∀r a w,Agree N r a→Fr W a0 w0 a w→K r w.heap→Q .normal a w)(hnp:∀e a w,(∀c,e=.panic c→False)∨¬Q e a w)(da:DA):
  MQ ro n P ops Q N ms W a0 w0 K da:=by
 have one:∀(i:Nat) (q:DA)
   (_:MQ ro n P ops Q N ms W a0 w0 K q)
   (ls:Nat) (L:rH) (d:vG) (r:cA) (a:Act) (w:World) (f:Array Bool) (p:Nat),
   N3 P N ops.toList i L d r w.heap (fun L' d' F h'=>nK P N ops.toList ms q false (cK ls (gJ i)) L' d' K F h')→Agree N r a→DecOk d r→Fr W a0 w0 a w→LsRel ops ls f→Shut ms f→
   left ops ls≤p+1→i∈ma ls ms 0→∀o,ops[i]? =some o→
    wpOpIn (FW ro) n P ops Q i (fun a' w'=>(∀x∈rel ms i L,x.2 w'.heap)∧Pi ms ro n P ops Q p (rel ms i L) (f.setIfInBounds i true) a' w') a w:=by
  intro i q Z ls L d r a w f p g A hd J D s C hr o z;have B:i<ops.size:=(cy.1 z).1;obtain⟨k,mm,hk,hki,R,_⟩:=(sC ls ms 0 i).1 hr;unfold N3 at g;rw[aW,z]at g;simp only at g;cases hw:jb ops.toList d o with
  |none=>rw[hw]at g;exact g.elim
  |some b=>
   rw[hw]at g;cases b with
   |false=>exact g.elim
   |true=>
    simp only at g;cases hq:wO P o.op with
    |true=>
     rw[hq,cond_true]at g;unfold wpOpIn;rw[z];simp only[nJ hw A hd,if_true];obtain⟨v,S,hK,hS,_,Y⟩:=B4 A g d hd;refine qE (K:=fun u h'=>u=v∧h'=w.heap) (Dg g) (.inl ⟨v,w,Y w hS,Tame.refl w,rfl,rfl⟩) ?_
     rintro u w' ht ⟨rfl,hw'⟩;obtain⟨F,I,O,H⟩:=tS (dv:=.x) hK A hd trivial;obtain⟨hh,hs'⟩:=sd.1 I;have E:o∈ops.toList:=gZ (by rw[aW];exact z);have T:=xu B R;have G:∀x∈rel ms i L,x∈pk o L:=fun x hx=>xj.2 ⟨(jS.1 hx).1,by
      cases hb:jc o x.1 with
      |false=>rfl
      |true=>
        have:=(jS.1 hx).2
        rw[Al,Hz (by rw[IV hm z];exact hb)]at this;cases this⟩
     rw[←hw']at hh hs';exact⟨fun x hx=>hh x (G x hx),uU _ _ _ _ _ _ (fun x hx=>.inl (G x hx)) ((Z false _ _ _ F _ w' _ p hs' O H (J.put (hW o E) u ht) (D.put B) (s.put hm ((mB hm D).2 hr)) hh).1 rfl (by omega))⟩
    |false=>
     rw[hq,cond_false]at g;unfold wpOpIn;rw[z];simp only[nJ hw A hd,if_true];refine qE (xb g) (BM A g) ?_;intro v w' ht hK;obtain⟨F,I,O,H⟩:=tS (dv:=.x) hK A hd trivial;obtain⟨hh,hs'⟩:=sd.1 I;have E:o∈ops.toList:=gZ (by rw[aW];exact z);have T:=xu B R;have G:∀x∈rel ms i L,x∈pk o L:=fun x hx=>xj.2 ⟨(jS.1 hx).1,by
      cases hb:jc o x.1 with
      |false=>rfl
      |true=>
        have:=(jS.1 hx).2
        rw[Al,Hz (by rw[IV hm z];exact hb)]at this;cases this⟩
     exact⟨fun x hx=>hh x (G x hx),uU _ _ _ _ _ _ (fun x hx=>.inl (G x hx)) ((Z false _ _ _ F _ w' _ p hs' O H (J.put (hW o E) v ht) (D.put B) (s.put hm ((mB hm D).2 hr)) hh).1 rfl (by omega))⟩
 have oneT:∀(i:Nat) (q:DA)
   (_:MQ ro n P ops Q N ms W a0 w0 K q)
   (ls:Nat) (L:rH) (d:vG) (r:cA) (a:Act) (w:World) (f:Array Bool) (p:Nat),
   Nd P N ops.toList ms i L d r w.heap (fun L' d' F h'=>nK P N ops.toList ms q false (cK ls (gJ i)) L' d' K F h')→Agree N r a→DecOk d r→Fr W a0 w0 a w→LsRel ops ls f→Shut ms f→
   left ops ls≤p+1→i∈ma ls ms 0→∀o,ops[i]? =some o→
    wpOpIn (FW ro) n P ops Q i (fun a' w'=>(∀x∈rel ms i L,x.2 w'.heap)∧Pi ms ro n P ops Q p (rel ms i L) (f.setIfInBounds i true) a' w') a w:=by
  intro i q Z ls L d r a w f p g A hd J D s C hr o z;have B:i<ops.size:=(cy.1 z).1;obtain⟨k,mm,hk,hki,R,_⟩:=(sC ls ms 0 i).1 hr;unfold Nd at g;rw[aW,z]at g;simp only at g;cases hw:jb ops.toList d o with
  |none=>rw[hw]at g;exact g.elim
  |some b=>
   rw[hw]at g;cases b with
   |false=>exact g.elim
   |true=>
    simp only at g;cases hq:wO P o.op with
    |true=>rw[hq]at g;exact g.elim
    |false=>
     rw[hq,cond_false]at g;unfold wpOpIn;rw[z];simp only[nJ hw A hd,if_true];refine qE (xb g) (BM A g) ?_;intro v w' ht hK;obtain⟨F,I,O,H⟩:=tS (dv:=.x) hK A hd trivial;obtain⟨hh,hs'⟩:=sd.1 I;have E:o∈ops.toList:=gZ (by rw[aW];exact z);have T:=xu B R;exact⟨hh,(Z false _ _ _ F _ w' _ p hs' O H (J.put (hW o E) v ht) (D.put B) (s.put hm ((mB hm D).2 hr)) hh).1 rfl (by omega)⟩
 induction da with
 |done=>
  intro m ls L d r a w f p g A hd J D s V;cases m with
  |true=>exact g.elim
  |false=>
   refine⟨fun _ _=>?_,fun h=>by cases h⟩
   have hc:nK P N ops.toList ms .done false ls L d K r w.heap=bif vU (ma ls ms 0) []then K r w.heap else False:=rfl;rw[hc]at g;cases hb:vU (ma ls ms 0) []with
   |false=>rw[hb]at g;exact g.elim
   |true=>
    rw[hb]at g;have hnil:Region.ready .any ops f= []:=by
     apply List.eq_nil_iff_forall_not_mem.2;intro j U;rw[mB hm D,yh hb]at U;cases U
    exact Ph hnil (hQ r a w A J g)
 |take i q Z=>
  intro m ls L d r a w f p g A hd J D s V;cases m with
  |true=>
   exfalso;have hc:nK P N ops.toList ms (.take i q) true ls L d K r w.heap=(match ops.toList[i]?,ms[i]? with|some _,some _=>False|_,_=>False):=rfl
   rw[hc]at g;split at g<;>exact g
  |false=>
   refine⟨fun _ C=>?_,fun h=>by cases h⟩
   have hc:nK P N ops.toList ms (.take i q) false ls L d K r w.heap=(match ops.toList[i]?,ms[i]? with
    |some o,some mi=>bif ED mi i ls ops.toList.length then
      (match jb ops.toList d o with
       |none=>False
       |some false=>zF N o undef r fun F=>nK P N ops.toList ms q false (cK ls (gJ i)) L (si d o .u) K F w.heap
       |some true=>bif wO P o.op then
          BJ P none o.op r (fun v S=>zF N o v r fun F=>match S with
            |none=>nK P N ops.toList ms q false (cK ls (gJ i)) L (si d o (Jl d o.op)) K F w.heap
            |some S=>nK P N ops.toList ms q false (cK ls (gJ i)) ((i,S)::L) (si d o (Jl d o.op)) K F w.heap) w.heap
          else False)
     else False
    |_,_=>False):=rfl
   rw[hc]at g;split at g
   ·rename_i o mi z hmi
    rw[aW]at z;cases htk:ED mi i ls ops.toList.length with
    |false=>rw[htk]at g;exact g.elim
    |true=>
     rw[htk,cond_true]at g;unfold ED at htk;simp only[aR,pX,Al]at htk;obtain⟨⟨hun,hrd⟩,hfr⟩:=htk;have B:i<ops.size:=(cy.1 z).1;have y:i∈Region.ready .any ops f:=(GX hm D).2 ⟨mi,hmi,hun,hrd⟩;have T:=xu (ops:=ops) B hun;obtain⟨f',rfl⟩:∃f',p=f'+1:=⟨p-1,by omega⟩
     have E:o∈ops.toList:=gZ (by rw[aW];exact z);have hcov:∀j,j<ops.size→ls.testBit j=true∨mi.fr.testBit j=true:=by
      intro j U;have h0:=aQ hfr;have hpb:(x7 (gJ ops.toList.length)).testBit j=true:=by
        have:x7 (gJ ops.toList.length)=2^ops.toList.length-1:=rfl;rw[this,Nat.testBit_two_pow_sub_one];simpa using U
      have hand:(jF (cK ls mi.fr) (x7 (gJ ops.toList.length))).testBit j=((cK ls mi.fr).testBit j&&(x7 (gJ ops.toList.length)).testBit j):=lj _ _ j;rw[h0,hpb,Bool.and_true,oI]at hand;exact(Bool.or_eq_true_iff).1 hand.symm
     have X:∀j oj,ops[j]? =some oj→j≠i→f.getD j true=false→jc oj i=false→
        (∀d,o.dst=some d→d∉oj.looksAt ops)∧(∀d,o.dst=some d→oj.dst≠some d)∧(∀d,oj.dst=some d→d∉o.looksAt ops):=by
      intro j oj hoj hne hju hna;have U:j<ops.size:=(cy.1 hoj).1;rw[D.unlisted U]at hju;have hjm:j<ms.length:=by rw[hm.len];exact U
      have hmj:=aj hjm;rcases hcov j U with h|h
      · rw[h]at hju;cases hju
      · rcases hm.free i j mi _ hmi hmj h with h|h|h
        ·exact absurd h hne
        ·rw[hm.am j oj _ hoj hmj,hna]at h;cases h
        ·exact QS hm z hoj hmi hmj h
     cases hw:jb ops.toList d o with
     |none=>rw[hw]at g;exact g.elim
     |some b=>
      rw[hw]at g;have hwd:=nJ hw A hd;cases b with
      |false=>
        obtain⟨F,I,O,H⟩:=tS (dv:=.u) g A hd rfl;have hy:YG P ops (fun _=>True) o undef a:=.inr ⟨hwd,rfl⟩
        refine Em hm z hm.nosel hnp f' L f a w X s y hy trivial V ?_;refine uU _ L _ _ _ _ (fun x hx=>(aq.1 hx).elim (fun e=>.inr fun h=>by rw[e];trivial) .inl) ?_
        exact(Z false _ _ _ F _ w _ f' I O H (J.put (hW o E) undef (Tame.refl w)) (D.put B) (s.put hm y) V).1 rfl (by omega)
      |true=>
        simp only at g;cases hq:wO P o.op with
        |false=>rw[hq]at g;exact g.elim
        |true=>
         rw[hq,cond_true]at g;obtain⟨v,S,hK,hS,hdv,Y⟩:=B4 A g d hd;obtain⟨F,I,O,H⟩:=tS hK A hd hdv;have hfr':=J.put (hW o E) v (Tame.refl w);cases S with
         |none=>
           have hy:YG P ops (fun _=>True) o v a:=.inl ⟨hwd,fun w _=>Y w trivial⟩
           refine Em hm z hm.nosel hnp f' L f a w X s y hy trivial V ?_;refine uU _ L _ _ _ _ (fun x hx=>(aq.1 hx).elim (fun e=>.inr fun h=>by rw[e];trivial) .inl) ?_
           exact(Z false _ _ _ F _ w _ f' I O H hfr' (D.put B) (s.put hm y) V).1 rfl (by omega)
         |some S=>
           have hy:YG P ops S o v a:=.inl ⟨hwd,fun w h=>Y w h⟩
           refine Em hm z hm.nosel hnp f' L f a w X s y hy hS V ?_;exact(Z false _ _ _ F _ w _ f' I O H hfr' (D.put B) (s.put hm y) (fun x hx=>(aq.1 hx).elim (fun e=>by rw[e];exact hS) (V x))).1 rfl (by omega)
   ·exact g.elim
 |all l Z=>
  intro m ls L d r a w f p g A hd J D s V;cases m with
  |true=>exact g.elim
  |false=>
   refine⟨fun _ C=>?_,fun h=>by cases h⟩
   have hc:nK P N ops.toList ms (.all l) false ls L d K r w.heap=bif vU (ma ls ms 0) (Cj l)then nK P N ops.toList ms l true ls L d K r w.heap else False:=rfl;rw[hc]at g;cases hb:vU (ma ls ms 0) (Cj l)with
   |false=>rw[hb]at g;exact g.elim
   |true=>
    rw[hb,cond_true]at g;obtain⟨i,hi⟩:=OA g;rw[←yh hb]at hi;have hrd:=(mB hm D (j:=i)).2 hi;obtain⟨k,mm,hk,hki,R,_⟩:=(sC ls ms 0 i).1 hi;have B:i<ops.size:=by
     have:=(bf.1 hk).1;rw[hm.len]at this;omega
    have T:=xu (ops:=ops) B R;obtain⟨f',rfl⟩:∃f',p=f'+1:=⟨p-1,by omega⟩
    refine⟨fun h=>(by rw[h]at hrd;cases hrd),fun j U o z=>?_⟩
    have hj':=(mB hm D).1 U;exact(Z true ls L d r a w f f' g A hd J D s V).2 rfl C j (by rw[←yh hb];exact hj') hj' o z
 |pick i q more ih1 ih2=>
  intro m ls L d r a w f p g A hd J D s V;cases m with
  |false=>exact g.elim
  |true=>
   refine⟨fun h=>(by cases h),fun _ C j U hjr o z=>?_⟩
   have g:N3 P N ops.toList i L d r w.heap (fun L' d' F h'=>nK P N ops.toList ms q false (cK ls (gJ i)) L' d' K F h')∧nK P N ops.toList ms more true ls L d K r w.heap:=g
   rcases aq.1 U with rfl|U
   ·exact one _ q ih1 ls L d r a w f p g.1 A hd J D s C hjr o z
   ·exact(ih2 true ls L d r a w f p g.2 A hd J D s V).2 rfl C j U hjr o z
 |last i q Z=>
  intro m ls L d r a w f p g A hd J D s V;cases m with
  |false=>exact g.elim
  |true=>
   refine⟨fun h=>(by cases h),fun _ C j U hjr o z=>?_⟩
   have g:N3 P N ops.toList i L d r w.heap (fun L' d' F h'=>nK P N ops.toList ms q false (cK ls (gJ i)) L' d' K F h'):=g
   have hji:j=i:=av.1 U;subst hji;exact one _ q Z ls L d r a w f p g A hd J D s C hjr o z
 |lastT i q Z=>
  intro m ls L d r a w f p g A hd J D s V;cases m with
  |false=>exact g.elim
  |true=>
   refine⟨fun h=>(by cases h),fun _ C j U hjr o z=>?_⟩
   have g:Nd P N ops.toList ms i L d r w.heap (fun L' d' F h'=>nK P N ops.toList ms q false (cK ls (gJ i)) L' d' K F h'):=g
   have hji:j=i:=av.1 U;subst hji;exact oneT _ q Z ls L d r a w f p g A hd J D s C hjr o z
 |split t yes no ih1 ih2=>
  intro m ls L d r a w f p g A hd J D s V;cases m with
  |true=>exact g.elim
  |false=>
   refine⟨fun _ C=>?_,fun h=>by cases h⟩
   have hc:nK P N ops.toList ms (.split t yes no) false ls L d K r w.heap=(match kg r t with
    |some (.bool b)=>CondP b (nK P N ops.toList ms yes false ls L ((t,.t)::d) K ((t,.bool true)::r) w.heap) (nK P N ops.toList ms no false ls L ((t,.f)::d) K ((t,.bool false)::r) w.heap)
    |_=>False):=rfl
   rw[hc]at g;split at g
   ·rename_i b hlk
    cases b with
    |true=>exact(ih1 false ls L _ _ a w f p (g.yes rfl) (A.known hlk) (hd.known rfl) J D s V).1 rfl C
    |false=>exact(ih2 false ls L _ _ a w f p (g.no rfl) (A.known hlk) (hd.known rfl) J D s V).1 rfl C
   ·exact g.elim
end Go.Lift
namespace Go.Lift
open Go
variable {P:Program} {ro:Option Nat} {n:Nat}
theorem Hj{r:cA}:∀{l:List Nat} {r0:cA},Nw r l=some r0→∀t v,kg r0 t=some v→t∈l∧kg r t=some v
 | [],r0,h,t,v,hv=>by cases h;cases hv
 |s::l,r0,h,t,v,hv=>by
  have h:(match kg r s,Nw r l with|some v,some l=>some ((s,v)::l)|_,_=>none)=some r0:=h
  split at h
  ·rename_i u l' hu hl
   cases h;by_cases e:s=t
   ·subst e;rw[iH]at hv;cases hv;exact⟨au ..,hu⟩
   ·rw[gN u _ e]at hv
    have:=Hj hl t v hv;exact⟨az _ this.1,this.2⟩
  ·cases h
theorem Cc{m:Nat}{t:Nat}{v:Value}:∀{r:cA},kg (xx m r) t=some v→m.testBit t=false∧kg r t=some v
 | [],h=>by cases h
 |(k,u)::r,h=>by
  have h:kg (bif tb m k then xx m r else(k,u)::xx m r) t=some v:=h;cases hk:tb m k with
  |true=>
   rw[hk]at h;have:=Cc h;by_cases e:k=t
   ·subst e;rw[Al,this.1]at hk;cases hk
   ·rw[gN u _ e];exact this
  |false=>
   rw[hk]at h;have h:kg ((k,u)::xx m r) t=some v:=h;by_cases e:k=t
   ·subst e;rw[iH]at h⊢;rw[Al]at hk;exact⟨hk,h⟩
   ·rw[gN u _ e]at h⊢;exact Cc h
theorem BL{t:Nat}:∀{l:List Oper},(Pl l).testBit t=false→¬l0 t l=true
 | [],_,h=>by cases h
 |o::l,hm,h=>by
  have hm:(cK (oq o) (Pl l)).testBit t=false:=hm;rw[oI,mu]at hm;have h:(match o.dst with|some d=>bif bB d t then true else l0 t l|none=>l0 t l)=true:=h
  cases hd:o.dst with
  |none=>rw[hd]at h;exact BL hm.2 h
  |some d=>
   rw[hd]at h;cases e:bB d t with
   |true=>have:=(xL o t).2 (by rw[hd,aQ e]);rw[hm.1]at this;cases this
   |false=>simp only[e]at h;exact BL hm.2 h
theorem Kb{a b:Option Nat}{m:Nat}(h:Ue a b=some m):∃x y,a=some x∧b=some y∧m=cK x y:=by
 cases a<;>cases b<;>cases h
 exact⟨_,_,rfl,rfl,rfl⟩
theorem Pk{t:Nat}(c:Code):∀{m:Nat},yG c=some m→m.testBit t=false→¬gf t c=true:=by
 induction c with
 |skip=>intro m _ _ h;cases h
 |region id ops dr=>intro m h hm d;cases h;exact BL hm d
 |seq a b iha ihb=>
  intro m h hm d;obtain⟨x,y,hx,e,rfl⟩:=Kb (show Ue (yG a) (yG b)=some m from h)
  rw[oI,mu]at hm;have d:(bif gf t a then true else gf t b)=true:=d;cases ha:gf t a with
  |true=>exact iha hx hm.1 ha
  |false=>rw[ha]at d;exact ihb e hm.2 d
 |cond c a b iha ihb=>
  intro m h hm d;obtain⟨x,y,hx,e,rfl⟩:=Kb (show Ue (yG a) (yG b)=some m from h)
  rw[oI,mu]at hm;have d:(bif gf t a then true else gf t b)=true:=d;cases ha:gf t a with
  |true=>exact iha hx hm.1 ha
  |false=>rw[ha]at d;exact ihb e hm.2 d
 |block id b ih=>exact fun h hm=>ih h hm
 |loop b ih=>exact fun h hm=>ih h hm
 |rangeFunc _ _ _ _ _ _=>intro m h;cases h
 |scope b ih=>exact fun h hm=>ih h hm
 |_=>intro m _ _ h;cases h
theorem Agree.keep{N:Nat}{r b:cA}{a a':Act}{w e:World}{m:Nat}{c:Code}(h:Agree N r a)(hm:yG c=some m)(d:Fr (fun t=>gf t c=true) a w a' e)(h':Agree N b a'):Agree N (xx m r) a':=
 ⟨h'.size,fun t v i=>by
  obtain⟨g,f⟩:=Cc i
  rw[d.same t (Pk c hm g)];exact h.look t v f⟩
theorem xf{st:St}{r:cA}{f:vh (zk st)→Prop}(h:C7 st r f):∃t,EI r st=some (nn (zk st) t)∧f t:=by
 unfold C7 at h;split at h
 ·rename_i vs hv
  obtain⟨t,rfl,a⟩:=sN h;exact⟨t,hv,a⟩
 ·exact h.elim
theorem Agree.zip{N:Nat}{r:cA}{a:Act}(h:Agree N r a):∀{st:St} {vs:List Value} {r0:cA},EI r st=some vs→Agree N r0 a→Agree N (oh st vs r0) a
 | [],vs,r0,_,h0=>by cases vs<;>exact h0
 |(i,k)::st,vs,r0,hv,h0=>by
  unfold EI at hv;split at hv
  ·rename_i v vs' h1 h2
   cases hv;have:=Agree.zip h h2 h0;refine⟨this.size,fun t u b=>?_⟩
   by_cases e:i=t
   ·subst e
    rw[show oh ((i,k)::st) (v::vs') r0=(i,v)::oh st vs' r0 from rfl,iH]at b;cases b
    exact h.look i v h1
   ·rw[show oh ((i,k)::st) (v::vs') r0=(i,v)::oh st vs' r0 from rfl,gN v _ e]at b
    exact this.look t u b
  ·cases hv
theorem Af{t:Nat}:∀{l:List Oper} {o:Oper},o∈l→o.dst=some t→l0 t l=true
 | [],_,h,_=>by cases h
 |x::l,o,h,hd=>by
  have e:l0 t (x::l)=(match x.dst with|some d=>bif bB d t then true else l0 t l|none=>l0 t l):=rfl
  rw[e];rcases aq.1 h with rfl|h
  ·rw[hd];simp only;rw[show bB t t=true from sr t];rfl
  ·have:=Af h hd
   cases x.dst with
   |none=>exact this
   |some d=>
    simp only;cases bB d t with
    |true=>rfl
    |false=>exact this
def LWP(ro:Option Nat)(n:Nat)(P:Program)(c:Code)(Q:Exit→Act→World→Prop)(a:Act)(w:World):Prop:=
 ∀(b:Frame) (k:List Item) (cs:List Frame),b.roundOf=(FW ro).round→(FW ro).fn b.fn→(FW ro).room (cs.length+1+n)→
  ∃e a' w',Q e a' w'∧ArrivesIn (Machine.fenced P (FW ro)) P (lone (b.atR a (.code c:: .inLoop c::k)) cs w) b k cs e a' w'
theorem LWP.step{c:Code}{Q:Exit→Act→World→Prop}{a:Act}{w:World}(h:c.wpIn (FW ro) n P (Exit.then (LWP ro n P c Q) Q) a w):LWP ro n P c Q a w:=by
 intro b k cs i q o;obtain⟨e,m,j,g,d⟩:=h b (.inLoop c::k) cs i q o;cases e with
 |normal=>
  obtain⟨s,u,t,p,f⟩:=g b k cs i q o;exact⟨s,u,t,p,.of_steps (StepsIn.trans d (.one (fenced_calm q o rfl) stepR_inLoop)) f⟩
 |exit id=>exact⟨_,m,j,g,.pass (x:=.inLoop c) rfl (fun _ _=>.inl (by simp)) d⟩
 |goto l=>exact⟨_,m,j,g,.pass (x:=.inLoop c) rfl (fun _ _=>.inl (by simp)) d⟩
 |ret=>exact⟨_,m,j,g,.pass (x:=.inLoop c) rfl (fun _ _=>.inl (by simp)) d⟩
 |panic ch=>exact⟨_,m,j,g,.pass (x:=.inLoop c) rfl (fun _ _=>.inl (by simp)) d⟩
 |outgrown=>exact⟨_,m,j,g,.pass (x:=.inLoop c) rfl (fun _ _=>.inl (by simp)) d⟩
theorem LWP.loop{c:Code}{Q:Exit→Act→World→Prop}{a:Act}{w:World}(h:LWP ro n P c Q a w):(Code.loop c).wpIn (FW ro) n P Q a w:=by
 intro b k cs f i g;obtain⟨e,a',j,m,d⟩:=h b k cs f i g;exact⟨e,a',j,m,.of_steps (.one (fenced_calm i g rfl) stepR_loop) d⟩
theorem Hw(r:cA):DecOk [] r:=fun _=>.inl rfl
theorem R0(ops:Array Oper)(ls:Nat):left ops ls≤ops.size:=by
 unfold left;exact Nat.le_trans (List.length_filter_le ..) (by simp)
theorem l7(f:P.follows .mixedOrders=true){N id:Nat}{ops:Array Oper}{g:Bool}{s:Ann}{K:cA→ac→Prop}{r:cA}{a:Act}{w:World}{Q:Exit→Act→World→Prop}
  (b:BU P N ops.toList g s K r w.heap)(i:Agree N r a)(v:∀c a w,¬Q (.panic c) a w)
  (k:∀r' a' w',Agree N r' a'→Fr (fun t=>l0 t ops.toList=true) a w a' w'→K r' w'.heap→Q .normal a' w'):(Code.region id ops g).wpIn (FW ro) n P Q a w:=by
 have m:∀o∈ops.toList,∀d,o.dst=some d→l0 d ops.toList=true:=fun o p d hd=>Af p hd
 cases g with
 |false=>
  have key:∀ek,EL P N ek ops.toList ops.toList [] K r w.heap→(Code.region id ops false).wpIn (FW ro) n P Q a w:=fun ek b=>by
   refine wpIn_region ?_;rw[List.range_eq_range',show ops.size=ops.toList.length from rfl]
   exact EK m k ops.toList 0 rfl [] r a w b i (Hw r) (Fr.refl _ a w)
  unfold BU at b;simp only at b;split at b
  ·exact key _ b
  ·exact key _ b
 |true=>
  unfold BU at b;simp only at b;generalize Nr ops.toList=ms at b;cases hm:Ed ops.toList ms with
  |false=>rw[hm]at b;exact b.elim
  |true=>
   rw[hm,cond_true]at b;refine wpIn_region_any f (M0 (ms:=ms) _ [] _ _ _ ?_);have u:Tame w {w with drawn:=w.drawn+1}:=⟨rfl,rfl,rfl⟩;have q:Fr (fun t=>l0 t ops.toList=true) a w a {w with drawn:=w.drawn+1}:=⟨u,rfl,fun _ _=>rfl⟩
   refine(JH (LZ hm) m k (fun e a w=>?_) _ false 0 [] [] r a {w with drawn:=w.drawn+1} _ ops.size b i (Hw r) q LsRel.start (fun j x _ h=>by rw[(LsRel.start (ops:=ops)).bit,mU]at h;cases h) (fun x hx=>by cases hx)).1 rfl (R0 ops 0)
   cases e with
   |panic ch=>exact .inr (v _ a w)
   |_=>exact .inl fun c hc=>by cases hc
theorem Ek(t:Nat)(x y:Code):gf t (.seq x y)=(bif gf t x then true else gf t y):=rfl
theorem CU(t:Nat)(c:Operand)(x y:Code):gf t (.cond c x y)=(bif gf t x then true else gf t y):=rfl
theorem IR{a b:Bool}:(bif a then true else b)=true↔a=true∨b=true:=by cases a<;>cases b<;>decide
theorem tI(z:P.follows .mixedOrders=true){N:Nat}(c:Code):∀(E:Ann) (Kn:cA→ac→Prop) (Kx:Ex→cA→ac→Prop) (r:cA) (a:Act) (w:World) (Q:Exit→Act→World→Prop),
  kS P N c E Kn Kx r w.heap→Agree N r a→(∀R a w,¬Q (.panic R) a w)→
  (∀j a' g,Agree N j a'→Fr (fun t=>gf t c=true) a w a' g→Kn j g.heap→Q .normal a' g)→
  (∀i j a' g,Agree N j a'→Fr (fun t=>gf t c=true) a w a' g→Kx (.exit i) j g.heap→Q (.exit i) a' g)→
  (∀j a' g,Agree N j a'→Fr (fun t=>gf t c=true) a w a' g→Kx .ret j g.heap→Q .ret a' g)→
  c.wpIn (FW ro) n P Q a w:=by
 induction c with
 |skip=>
  intro E Kn Kx r a w Q o u _ A _ _;exact wpIn_skip (A r a w u (Fr.refl ..) o)
 |region id ops dr=>
  intro E Kn Kx r a w Q o u C A _ _;cases E with
  |reg keep inner=>
   have o:BU P N ops.toList dr inner (fun j h'=>match Nw j keep with|some r0=>Kn r0 h'|none=>False) r w.heap:=o
   refine l7 z o u C fun j a' g U W hk=>?_
   split at hk
   ·rename_i r0 hr0
    refine A r0 a' g ⟨U.size,fun t v hv=>U.look t v (Hj hr0 t v hv).2⟩ W hk
   ·exact hk.elim
  |nil=>exact l7 z (show BU P N ops.toList dr (.nil) Kn r w.heap from o) u C A
  |node x y=>exact l7 z (show BU P N ops.toList dr (.node x y) Kn r w.heap from o) u C A
  |join st x y=>exact l7 z (show BU P N ops.toList dr (.join st x y) Kn r w.heap from o) u C A
  |loop st y=>exact l7 z (show BU P N ops.toList dr (.loop st y) Kn r w.heap from o) u C A
  |draw d=>exact l7 z (show BU P N ops.toList dr (.draw d) Kn r w.heap from o) u C A
  |kinds k v=>exact l7 z (show BU P N ops.toList dr (.kinds k v) Kn r w.heap from o) u C A
  |rf ks x y=>exact l7 z (show BU P N ops.toList dr (.rf ks x y) Kn r w.heap from o) u C A
 |seq x y ihx ihy=>
  intro E Kn Kx r a w Q o u C A hx H;have F:∀{a' g},Fr (fun t=>gf t x=true) a w a' g→Fr (fun t=>gf t (.seq x y)=true) a w a' g:=fun h=>h.mono fun t O=>by rw[Ek,IR];exact .inl O
  have D:∀{a' g I K},Fr (fun t=>gf t x=true) a w a' g→Fr (fun t=>gf t y=true) a' g I K→Fr (fun t=>gf t (.seq x y)=true) a w I K:=
   fun h k=>(F h).trans (k.mono fun t O=>by rw[Ek,IR];exact .inr O)
  have plain:∀V S,kS P N x V (fun j h'=>kS P N y S Kn Kx j h') Kx r w.heap→(Code.seq x y).wpIn (FW ro) n P Q a w:=fun V S o=>by
   refine wpIn_seq (ihx V _ Kx r a w _ o u (fun R a w=>C R a w) ?_ (fun i j a' g q s p=>hx i j a' g q (F s) p) (fun j a' g q s p=>H j a' g q (F s) p))
   intro r1 X w1 G B L;exact ihy S Kn Kx r1 X w1 Q L G C (fun j a' g q s p=>A j a' g q (D B s) p) (fun i j a' g q s p=>hx i j a' g q (D B s) p) (fun j a' g q s p=>H j a' g q (D B s) p)
  cases E with
  |join st V S=>
   have o:(match yG x with
      |none=>False
      |some m=>Join (T:=vh (zk st)) (fun t h'=>kS P N y S Kn Kx (oh st (nn (zk st) t) (xx m r)) h')
       fun J=>kS P N x V (fun j h'=>C7 st j fun t=>J t h') Kx r w.heap):=o
   split at o
   ·exact o.elim
   ·rename_i m hm
    refine wpIn_seq (ihx V _ Kx r a w _ o.run u (fun R a w=>C R a w) ?_ (fun i j a' g q s p=>hx i j a' g q (F s) p) (fun j a' g q s p=>H j a' g q (F s) p))
    intro r1 X w1 G B L;obtain⟨t,hst,hs2⟩:=xf L;have ha2:Agree N (oh st (nn (zk st) t) (xx m r)) X:=G.zip hst (u.keep hm B G);exact ihy S Kn Kx _ X w1 Q hs2 ha2 C (fun j a' g q s p=>A j a' g q (D B s) p) (fun i j a' g q s p=>hx i j a' g q (D B s) p) (fun j a' g q s p=>H j a' g q (D B s) p)
  |_=>exact plain _ _ o
 |cond c x y ihx ihy=>
  intro E Kn Kx r a w Q o u C A hx H;have o:(match dd r c with
   |some (.bool t)=>CondP t (kS P N x E.l Kn Kx r w.heap) (kS P N y E.r Kn Kx r w.heap)
   |_=>False):=o
  have F:∀{a' g},Fr (fun t=>gf t x=true) a w a' g→Fr (fun t=>gf t (.cond c x y)=true) a w a' g:=fun h=>h.mono fun t O=>by rw[CU,IR];exact .inl O
  have D:∀{a' g},Fr (fun t=>gf t y=true) a w a' g→Fr (fun t=>gf t (.cond c x y)=true) a w a' g:=fun h=>h.mono fun t O=>by rw[CU,IR];exact .inr O
  split at o
  ·rename_i t O
   refine wpIn_cond_split (kh u O) (fun e=>?_) (fun e=>?_)
   ·exact ihx _ Kn Kx r a w Q (o.yes e) u C (fun j a' g q s p=>A j a' g q (F s) p) (fun i j a' g q s p=>hx i j a' g q (F s) p) (fun j a' g q s p=>H j a' g q (F s) p)
   ·exact ihy _ Kn Kx r a w Q (o.no e) u C (fun j a' g q s p=>A j a' g q (D s) p) (fun i j a' g q s p=>hx i j a' g q (D s) p) (fun j a' g q s p=>H j a' g q (D s) p)
  ·exact o.elim
 |block id b ih=>
  intro E Kn Kx r a w Q o u C A hx H;refine wpIn_block (ih E Kn _ r a w _ o u (fun R a w=>C R a w) A (fun i j a' g q s p=>?_) H)
  simp only[Exit.inBlock]at p⊢;cases hi:bB i id with
  |true=>
   rw[hi,cond_true]at p;rw[if_pos (aQ hi)];exact A j a' g q s p
  |false=>
   rw[hi,cond_false]at p;rw[if_neg (fun e=>by rw[e,sr]at hi;cases hi)]
   exact hx i j a' g q s p
 |loop b ih=>
  intro E Kn Kx r a w Q o u C A hx H;cases E with
  |loop st S=>
   have o:(match yG b with
      |none=>False
      |some m=>C7 st r fun t0=>LoopP (T:=vh (zk st)) (fun Z t h'=>kS P N b S (fun j h''=>C7 st j fun t'=>Z t' h'') Kx (oh st (nn (zk st) t) (xx m r)) h') t0 w.heap):=o
   split at o
   ·exact o.elim
   ·rename_i m hm
    obtain⟨t0,Y,hl⟩:=xf o;have h0:=hl.run (fun t h'=>∀a' g,g.heap=h'→Agree N (oh st (nn (zk st) t) (xx m r)) a'→Fr (fun t=>gf t b=true) a w a' g→LWP ro n P b Q a' g) (fun t h' hF a' g hw U W=>by
     subst hw
     refine LWP.step (ih S _ Kx _ a' g _ hF U (fun R a w=>C R a w) ?_ (fun i j I K q s p=>hx i j I K q (W.trans s) p) (fun j I K q s p=>H j I K q (W.trans s) p))
     intro r1 X w1 G B L
     obtain⟨t1,hst1,hk1⟩:=xf L
     exact hk1 X w1 rfl (G.zip hst1 (u.keep hm (W.trans B) G)) (W.trans B))
    exact LWP.loop (h0 a w rfl (u.zip Y (u.keep hm (Fr.refl _ a w) u)) (Fr.refl _ a w))
  |_=>exact o.elim
 |rangeFunc f params assign body _ _=>intro E Kn Kx r a w Q o;exact o.elim
 |exit id=>
  intro E Kn Kx r a w Q o u C A hx H;exact wpIn_exit (hx id r a w u (Fr.refl ..) o)
 |scope b _=>intro E Kn Kx r a w Q o;exact o.elim
 |label l=>
  intro E Kn Kx r a w Q o u C A hx H;exact wpIn_label (A r a w u (Fr.refl ..) o)
 |goto l=>intro E Kn Kx r a w Q o;exact o.elim
 |ret=>
  intro E Kn Kx r a w Q o u C A hx H;exact wpIn_ret (H r a w u (Fr.refl ..) o)
 |refuse why=>intro E Kn Kx r a w Q o;exact o.elim
end Go.Lift
namespace Go.Lift
open Go
variable {P:Program}
theorem qw{N:Nat}{r:cA}{a:Act}{w:World}(c:Agree N r a):∀{l:List ResultVar} {K:List Value→Prop},ol P r w.heap l K→
  ∃vs,(∀g:ResultVar→Sem Value,(∀t,g (.tmp t)=pure (a.tmps.getD t undef))→(∀x t,g (.cell x t)=do loadVar t (←asAddr (a.tmps.getD x undef)))→(l.mapM g).run P w=.ok vs w)∧K vs
 | [],K,h=>⟨[],fun g _ _=>by rw[List.mapM_nil];rfl,h⟩
 | .tmp t::l,K,h=>by
  unfold ol at h;split at h
  ·rename_i v hv
   obtain⟨vs,f,i⟩:=qw c h;refine⟨v::vs,fun g d e=>?_,i⟩
   rw[List.mapM_cons,d];simp only[Sem.run_bind,Sem.run_pure,Result.andThen_ok];rw[f g d e];simp only[Result.andThen_ok,c.look t v hv]
  ·exact h.elim
 | .cell x t::l,K,h=>by
  unfold ol at h;split at h
  ·rename_i v hv
   obtain⟨u,S,n,k,m⟩:=Dh h;obtain⟨vs,f,i⟩:=qw c n;refine⟨u::vs,fun g d e=>?_,i⟩
   rw[List.mapM_cons,e];have j:(do loadVar t (←asAddr (a.tmps.getD x undef)):Sem Value).run P w=.ok u w:=by
    rw[c.look x v hv];unfold JR at h;cases v with
    |pointer p=>cases p with
     |none=>exact h.elim
     |some b=>exact m w k
    |_=>exact h.elim
   simp only[Sem.run_bind]at j⊢;rw[j];simp only[Result.andThen_ok];rw[f g d e];simp only[Sem.run_pure,Result.andThen_ok]
  ·exact h.elim
theorem GW(ks:List Kind)(t:vh ks):(if h:(nn ks t).toArray.size=1 then(nn ks t).toArray[0]else Value.tuple (nn ks t).toArray)=DQ ks (nn ks t):=by
 match ks,t with
 | [],t=>rfl
 | [k],t=>rfl
 |k::l::ks,(x,t)=>
  have:(nn (k::l::ks) (x,t)).length=(k::l::ks).length:=tR _ _;rw[dif_neg (by simp only[cY,this,ao];omega)];rfl
theorem wA:∀(vs:List Value) (i t:Nat) (v:Value),kg (qB i vs) t=some v→i≤t∧vs[t-i]? =some v
 | [],i,t,v,h=>by cases h
 |u::vs,i,t,v,h=>by
  by_cases e:i=t
  ·subst e
   rw[show qB i (u::vs)=(i,u)::qB (i+1) vs from rfl,iH]at h
   cases h;exact⟨Nat.le_refl _,by simp⟩
  ·rw[show qB i (u::vs)=(i,u)::qB (i+1) vs from rfl,gN u _ e]at h
   obtain⟨b,a⟩:=wA vs (i+1) t v h;refine⟨by omega,?_⟩;rw[show t-i=(t-(i+1))+1 by omega,List.getElem?_cons_succ]
   exact a
theorem NK(i:P.follows .mixedOrders=true){n:Nat}{fn:Func}{c:Code}{p:Ann}{args:List Value}{ks:List Kind}{K:vh ks→ac→Prop}{w:World}(q:args.length≤fn.ntmps)(u:GT P fn c p args ks K w.heap):
  c.wpIn (FW none) n P (bodyPost P fn fun e b=>Tame w b∧∃t:vh ks,e=.returned (DQ ks (nn ks t))∧K t b.heap) {tmps:=args.toArray++ox (fn.ntmps-args.toArray.size) undef,defers:= []} w:=by
 have s:Agree fn.ntmps (qB 0 args) {tmps:=args.toArray++ox (fn.ntmps-args.toArray.size) undef,defers:= []}:=by
  refine⟨by simp;omega,fun t v y=>?_⟩
  obtain⟨_,k⟩:=wA args 0 t v y;simp only[ef]at k;have d:=(bf.1 k).1;simp[Array.getElem?_append,d];rw[aj d]at k;cases k;rfl
 have f:∀o a' (b:World),Agree fn.ntmps o a'→Fr (fun t=>gf t c=true) {tmps:=args.toArray++ox (fn.ntmps-args.toArray.size) undef,defers:= []} w a' b→
   ol P o b.heap fn.results.toList (fun vs=>DW ks vs fun t=>K t b.heap)→
   a'.defers= []∧∃v,(results fn a'.tmps).run P b=.ok v b∧(Tame w b∧∃t:vh ks,Ending.returned v=.returned (DQ ks (nn ks t))∧K t b.heap):=fun o a' b m g x=>by
  obtain⟨vs,j,hd⟩:=qw m x;obtain⟨t,rfl,z⟩:=sN hd;refine⟨g.defers,_,?_,g.tame,t,rfl,z⟩;unfold results;rw[m0];simp only[Sem.run_bind,Sem.run_map];rw[j _ (fun _=>rfl) (fun _ _=>rfl)]
  simp only[Result.andThen_ok,Sem.run_pure];rw[←GW]
 exact tI i c p _ _ _ _ w _ u s (fun A a w h=>h.2.2.elim fun _ h=>by cases h.1) f (fun _ _ _ _ _ _ h=>h.elim) f
theorem HE.intro(b:P.follows .mixedOrders=true){f:FuncId}{fn:Func}{c:Code}{j:Ann}{args:List Value}{ks:List Kind}{K:vh ks→ac→Prop}{h:ac}
  (g:P.funcs[f]? =some fn) (k:fn.body=some c) (a:∀(args:Array Value) (w:World),(callFunc f args).run P w=.ok (.enter f args) w) (d:args.length≤fn.ntmps)
  (i:GT P fn c j args ks K h):HE P f args ks K h:=by
 refine⟨fun w e=>⟨a,?_⟩⟩
 subst e;exact(callsIn_wide (n:=0)).1 (callsIn_of_wp (F:=FW none) g k trivial (NK b d i) rfl)
theorem HD.intro(b:P.follows .mixedOrders=true){f:FuncId}{fn:Func}{c:Code}{m:Ann}{args:List Value}{ks:List Kind}{K:ac→Prop}{h:ac}
  (j:P.funcs[f]? =some fn) (q:fn.body=some c) (a:∀(args:Array Value) (w:World),(callFunc f args).run P w=.ok (.enter f args) w) (d:args.length≤fn.ntmps)
  (k:GT P fn c m args ks (fun _ h'=>K h') h):HD P f args K h:=by
 refine fun w g=>⟨a,fun n=>?_⟩
 subst g;exact(callsDIn_of_wp (F:=FW none) j q trivial (NK b d k) rfl).mono fun e u v ⟨i,o,t,s,p⟩=>⟨i,o,⟨_,s⟩,p⟩
theorem HC.intro(b:P.follows .mixedOrders=true){f:FuncId}{fn:Func}{c:Code}{i:Ann}{args:List Value}{ks:List Kind}{K:vh ks→ac→Prop}{h:ac}
 (e:P.funcs[f]? =some fn) (j:fn.body=some c) (a:∀(args:Array Value) (w:World),(callFunc f args).run P w=.ok (.enter f args) w) (d:args.length≤fn.ntmps)
 (g:GT P fn c i args ks K h):HC P f args ks K h:=(HE.intro b e j a d g).hc
theorem MD{N:Nat}{args:List Value}(c:args.length≤N):Agree N (qB 0 args) {tmps:=args.toArray++ox (N-args.toArray.size) undef,defers:= []}:=by
 refine⟨by simp;omega,fun t v d=>?_⟩
 obtain⟨_,b⟩:=wA args 0 t v d;simp only[ef]at b;have a:=(bf.1 b).1;simp[Array.getElem?_append,a];rw[aj a]at b;cases b;rfl
theorem JN{N:Nat}{fn:Func}{ks:List Kind}{K:vh ks→ac→Prop}{d:cA}{a':Act}{a:World}(c:Agree N d a')(e:ol P d a.heap fn.results.toList (fun vs=>DW ks vs fun t=>K t a.heap)):
  ∃t:vh ks,(results fn a'.tmps).run P a=.ok (DQ ks (nn ks t)) a∧K t a.heap:=by
 obtain⟨vs,b,hd⟩:=qw c e;obtain⟨t,rfl,f⟩:=sN hd;refine⟨t,?_,f⟩;unfold results;rw[m0];simp only[Sem.run_bind,Sem.run_map];rw[b _ (fun _=>rfl) (fun _ _=>rfl)]
 simp only[Result.andThen_ok,Sem.run_pure];rw[←GW]
end Go.Lift
namespace Go.Lift
open Go
variable {P:Program}
abbrev E1(D:Nat):Deferred:={target:=.collected D,args:= #[]}
abbrev qb:Mk→Deferred
 | .it D=>E1 D
 | .call f vs=>{target:=.fn (.func f) #[],args:= #[]++vs.toArray}
theorem FF{N:Nat}:∀{ps:List Nat} {vs:List Value} {r:cA} {tmps:Array Value},zr N ps=true→Agree N r {tmps:=tmps,defers:= []}→
  Agree N (Rf ps vs r) {tmps:=(ps.zip vs).foldl (fun t x=>t.setIfInBounds x.1 x.2) tmps,defers:= []}
 | [],vs,r,tmps,_,h=>by cases vs<;>exact h
 |i::ps,[],r,tmps,_,h=>h
 |i::ps,v::vs,r,tmps,a,h=>by
  have a:(yp i N&&zr N ps)=true:=a;rw[aR]at a;have b:i<N:=by simpa using a.1
  have:=h.put i v b;exact FF (tmps:=tmps.setIfInBounds i v) a.2 this
theorem EA(w:World)(o:Obj):Tame w (w.alloc o):=⟨rfl,rfl,rfl⟩
theorem oW(w:World)(b:Nat)(o:Obj):Tame w (w.putObj b o):=⟨rfl,rfl,rfl⟩
theorem JU(w:World)(b:Nat)(o:Obj):(w.putObj b o).heap=w.heap.setIfInBounds b o:=rfl
theorem NR(ps:Array Nat)(vs:List Value)(t:Array Value):(ps.zip vs.toArray).foldl (fun t (x:Nat×Value)=>t.setIfInBounds x.1 x.2) t=(ps.toList.zip vs).foldl (fun t x=>t.setIfInBounds x.1 x.2) t:=by
 obtain⟨l⟩:=ps;simp
theorem DR(B:P.follows .mixedOrders=true){n N:Nat}{g:Operand}{ps:Array Tmp}{assign body:Code}{aa ab:Ann}{ks:List Kind}{fv:Value}{r:cA}{a:Act}{w:World}{Q:Exit→Act→World→Prop}
  {KN:ac→Prop}{KX:Nat→ac→Prop}{KR:ac→Prop}(Y:zr N ps.toList=true)(O:ps.toList.length=ks.length)(hg:dd r g=some fv)(V:Agree N r a)
  (hR:RangeP P fv ks w.heap (fun Jk bz x k h'=>Ly P N ps.toList ks assign body (.node aa ab) r (w.heap.size+1) Jk bz x k h') KN KX KR)
  (hn:∀m,Tame w m→KN m.heap→Q .normal {a with defers:=E1 w.heap.size::a.defers} m)
  (hx:∀i m,Tame w m→KX i m.heap→Q (.exit i) {a with defers:=E1 w.heap.size::a.defers} m)
  (hr:∀m,Tame w m→KR m.heap→Q .ret {a with defers:=E1 w.heap.size::a.defers} m):(Code.rangeFunc g ps assign body).wpIn (FW none) n P Q a w:=by
 refine wpIn_rangeFunc fun fn _=>?_
 obtain⟨lo,q⟩:∃lo:LoopState→Option Ex→Obj,lo=fun s j=>.loop {state:=s,pending:=IC j,fn,tmps:=a.tmps,params:=ps,assign,body,defers:=w.heap.size}:=⟨_,rfl⟩
 have hj:∀j:Option Ex,(IC j).isNone=j.isNone:=fun j=>by rcases j with _|⟨_|_⟩<;>rfl
 obtain⟨f,first,cap,rfl,he⟩:=hR.run lo (fun s j=>⟨_,by rw[q]⟩) (fun x h' K u A=>by
  refine⟨.inr ⟨_,rfl,⟨fun L hw1=>?_⟩⟩⟩
  subst hw1
  rw[q]at u
  have hy:=run_yield (P:=P) (args:=(nn ks x).toArray) u (by simp only[cY,tR];rw[←O];rfl)
  refine⟨_,_,_,_,hy,fun c cs=>?_⟩
  have hA:Agree N (Rf ps.toList (nn ks x) r) {tmps:=(ps.zip (nn ks x).toArray).foldl (fun t (x:Nat×Value)=>t.setIfInBounds x.1 x.2) a.tmps,defers:= []}:=by
   rw[NR]
   exact FF Y ⟨V.size,V.look⟩
  have p:∀j:Option Ex,∀W:World,Tame L W→(W.heap[w.heap.size+1]? =some (lo .busy none)∧K j.isNone (W.heap.setIfInBounds (w.heap.size+1) (lo (if j.isNone then .ready else .done) j)))→
    ∃v m,(Instr.endRound (w.heap.size+1) (IC j)).run P W=.ok v m∧∃b,Ending.returned v=.returned (.bool b)∧Tame L m∧K b m.heap:=by
   rintro j W H ⟨h1,U⟩
   rw[q]at h1
   have:=run_endRound (P:=P) (IC j) h1
   refine⟨_,_,this,_,rfl,H.trans (oW ..),?_⟩
   rw[q]at U
   rw[hj]
   exact U
  have:=roundIn_of_wpIn (F:=FW none) (n:=0) (P:=P) (l:=w.heap.size+1) (f:=fn) (assign:=assign) (body:=body) (w:=L)
   (tmps:=(ps.zip (nn ks x).toArray).foldl (fun t (x:Nat×Value)=>t.setIfInBounds x.1 x.2) a.tmps)
   (R:=fun e m=>∃b,e=.returned (.bool b)∧Tame L m∧K b m.heap) trivial (by
    refine tI (ro:=some (w.heap.size+1)) B assign aa _ _ _ _ L _ A hA (fun ch a w h=>h) ?_ (fun i r' a' m _ _ h=>h.elim) (fun r' a' m _ _ h=>h.elim)
    rintro r2 a2 Z ha2 E ⟨y,G⟩
    rw[q]at y
    refine⟨_,run_beginRound y rfl,?_⟩
    have S:∀o,o=lo .busy none→Z.heap.setIfInBounds (w.heap.size+1) o=Z.heap.setIfInBounds (w.heap.size+1) (lo .busy none):=fun o X=>by rw[X]
    refine tI (ro:=some (w.heap.size+1)) B body ab (fun _ U=>_) (fun e _ U=>_) _ _ (Z.putObj (w.heap.size+1) _) _ (by
     rw[JU,S _ (by rw[q])];exact G) ha2 (fun ch a w h=>h) ?_ ?_ ?_
    ·rintro r3 a3 I J z T
     exact p none I ((E.tame.trans (oW ..)).trans z.tame) T
    ·rintro i r3 a3 I J z T
     exact p (some (.exit i)) I ((E.tame.trans (oW ..)).trans z.tame) T
    ·rintro r3 a3 I J z T
     exact p (some .ret) I ((E.tame.trans (oW ..)).trans z.tame) T)
  obtain⟨e,m,⟨b,rfl,H,hK⟩,hs⟩:=this.2 c cs (fun d h=>by simp[FW]at h)
  exact⟨b,m,H,hK,hs.steps⟩)
 have C:=he.run ((w.alloc (.deferred (some []))).alloc (lo .ready none)) rfl;refine⟨w.heap.size+1,[E1 w.heap.size],(w.alloc (.deferred (some []))).alloc (lo .ready none),{target:=.fn (.func f) cap,args:=first++ #[.func (.yield (w.heap.size+1)) #[] #[]]},(w.alloc (.deferred (some []))).alloc (lo .ready none),f,
  first++ #[.func (.yield (w.heap.size+1)) #[] #[]]++cap,(w.alloc (.deferred (some []))).alloc (lo .ready none),?_,?_,fun _ _=>trivial,?_,fun h=>by simp[FW]at h,?_⟩
 ·rw[q];exact run_enterLoop_outer fn a.tmps ps assign body
 ·have hev:=kh V hg
  simp[resolve,hev,Deferred.ofValue,Sem.run_pure];rfl
 ·simp[invoke,C.1]
 ·refine FA ?_
  have e:(first.toList++ [Value.func (.yield (w.heap.size+1)) #[] #[]]++cap.toList).toArray=first++ #[.func (.yield (w.heap.size+1)) #[] #[]]++cap:=by apply cM;simp
  rw[←e];refine C.2.mono ?_;rintro e m ⟨H,t,rfl,s,j,hs,u,p⟩;have ht':Tame w m:=((EA w _).trans (EA _ _)).trans H;rw[q]at u;refine⟨_,_,run_endLoop u hs,?_⟩;have D:∀o,Tame w (m.putObj (w.heap.size+1) o):=fun o=>ht'.trans (oW ..)
  have S:∀o,o=lo .exhausted j→(m.putObj (w.heap.size+1) o).heap=m.heap.setIfInBounds (w.heap.size+1) (lo .exhausted j):=fun o X=>by rw[X];rfl
  rcases j with _|⟨i|_⟩
  ·exact hn _ (D _) (by rw[S _ (by rw[q])];exact p)
  ·exact wpIn_exit (hx i _ (D _) (by rw[S _ (by rw[q])];exact p))
  ·exact wpIn_ret (hr _ (D _) (by rw[S _ (by rw[q])];exact p))
theorem Fq{n N id d:Nat}{ops:Array Oper}{m o:Oper}{x:Operand}{f:FuncId}{as:List Operand}{vs:List Value}{v:Value}{r:cA}{a:Act}{w:World}{Q:Exit→Act→World→Prop}(b:Fs ops.toList=some (m,o,x,d,f,as))(u:dd r x=some v)(q:d<N)(g:oy ((d,v)::r) as=some vs)(i:Agree N r a)
  (k:∀a',Agree N ((d,v)::r) a'→a'.defers=qb (.call f vs)::a.defers→Q .normal a' w):(Code.region id ops false).wpIn (FW none) n P Q a w:=by
 unfold Fs at b;split at b
 ·rename_i m' o' hl
  split at b
  ·rename_i x' d' c h1 h2 h3 h4 h5 h6
   split at b
   ·rename_i f' hc
    cases b;have B:ops[0]? =some m:=by rw[←aW,hl];rfl
    have s:ops[1]? =some o:=by rw[←aW,hl];rfl
    have es:ops.size=2:=by rw[←Array.length_toList,hl];rfl
    have j:∀y,Region.wanted m y=true:=fun y=>by simp[Region.wanted,h2]
    have A:∀y,Region.wanted o y=true:=fun y=>by simp[Region.wanted,h6]
    refine wpIn_region ?_;rw[es,show fq 2= [0,1]from rfl]
    simp only[wpOpsIn,B,s,j,A,if_true];refine BigFrame.wpIn_move x h1 ?_;rw[kh i u,h3];have e:=i.put d v q;refine⟨fun _ _=>trivial,?_⟩
    have t:((Oper.semAt (FW none).round (a.put (some d) v).eval o).run P w)=.ok (.defer (qb (.call f vs))) w:=by
     show((execOp (a.put (some d) v).eval o).run P w)=_
     have z:=mA e g;have p:c.args.map (a.put (some d) v).eval=vs.toArray:=by rw[←z];apply cM;simp
     simp only[execOp,h4,resolve,hc,p];simp[Act.eval,Deferred.ofValue,qb]
    rw[t,Oper.uponIn_defer,h5];exact k _ ⟨e.size,e.look⟩ rfl
   ·cases b
  ·cases b
 ·cases b
theorem H5(H:P.follows .mixedOrders=true){n N:Nat}(c:Code):∀(u:Ann) (Kn:List Mk→cA→ac→Prop) (Kx:Ex→List Mk→cA→ac→Prop) (ms:List Mk) (r:cA) (a:Act) (w:World) (Q:Exit→Act→World→Prop),
  zm P N c u Kn Kx ms r w.heap→Agree N r a→a.defers=ms.map qb→(∀J a w,¬Q (.panic J) a w)→
  (∀p s a' q,Agree N s a'→a'.defers=p.map qb→Tame w q→Kn p s q.heap→Q .normal a' q)→
  (∀i p s a' q,Agree N s a'→a'.defers=p.map qb→Tame w q→Kx (.exit i) p s q.heap→Q (.exit i) a' q)→
  (∀p s a' q,Agree N s a'→a'.defers=p.map qb→Tame w q→Kx .ret p s q.heap→Q .ret a' q)→
  c.wpIn (FW none) n P Q a w:=by
 have plain:∀(c:Code) (u:Ann) (Kn:List Mk→cA→ac→Prop) (Kx:Ex→List Mk→cA→ac→Prop) (ms:List Mk) (r:cA) (a:Act) (w:World) (Q:Exit→Act→World→Prop),
  kS P N c u (Kn ms) (fun e=>Kx e ms) r w.heap→Agree N r a→a.defers=ms.map qb→(∀J a w,¬Q (.panic J) a w)→
  (∀p s a' q,Agree N s a'→a'.defers=p.map qb→Tame w q→Kn p s q.heap→Q .normal a' q)→
  (∀i p s a' q,Agree N s a'→a'.defers=p.map qb→Tame w q→Kx (.exit i) p s q.heap→Q (.exit i) a' q)→
  (∀p s a' q,Agree N s a'→a'.defers=p.map qb→Tame w q→Kx .ret p s q.heap→Q .ret a' q)→
  c.wpIn (FW none) n P Q a w:=by
  intro c u Kn Kx ms r a w Q j z hd D A hx C;exact tI H c u _ _ r a w Q j z D (fun s a' q F B E=>A ms s a' q F (B.defers.trans hd) B.tame E) (fun i s a' q F B E=>hx i ms s a' q F (B.defers.trans hd) B.tame E)
   (fun s a' q F B E=>C ms s a' q F (B.defers.trans hd) B.tame E)
 induction c with
 |skip=>intro u Kn Kx ms r a w Q j;exact plain _ u Kn Kx ms r a w Q j
 |region id ops dr=>
  intro u Kn Kx ms r a w Q j z hd D A hx C;have j:(match Fs ops.toList with
   |none=>kS P N (.region id ops dr) u (Kn ms) (fun e=>Kx e ms) r w.heap
   |some (_,_,x,d,f,as)=>bif dr then False else match dd r x with
    |some v=>bif yp d N then(match oy ((d,v)::r) as with|some vs=>Kn (.call f vs::ms) ((d,v)::r) w.heap|none=>False)else False
    |none=>False):=j
  split at j
  ·exact plain _ u Kn Kx ms r a w Q j z hd D A hx C
  ·rename_i m o x d f as he
   cases dr with
   |true=>exact j.elim
   |false=>
    rw[cond_false]at j;split at j
    · rename_i v hv
      cases hb:yp d N with
      |false=>rw[hb]at j;exact j.elim
      |true=>
       rw[hb,cond_true]at j;split at j
       ·rename_i vs hvs
        refine Fq he hv (by simpa using hb) hvs z fun a' X O=>A (.call f vs::ms) _ a' w X ?_ ⟨rfl,rfl,rfl⟩ j
        rw[O,hd];rfl
       ·exact j.elim
    · exact j.elim
 |seq x y ihx ihy=>
  intro u Kn Kx ms r a w Q j z hd D A hx C;have j:(bif (bif sI x then true else sI y)then zm P N x u.l (fun ms s h'=>zm P N y u.r Kn Kx ms s h') Kx ms r w.heap
   else kS P N (.seq x y) u (Kn ms) (fun e=>Kx e ms) r w.heap):=j
  cases hb:(bif sI x then true else sI y)with
  |false=>rw[hb]at j;exact plain _ _ _ _ _ _ _ _ _ j z hd D A hx C
  |true=>
   rw[hb,cond_true]at j;refine wpIn_seq (ihx u.l _ Kx ms r a w _ j z hd (fun J a w=>D J a w) ?_ hx C)
   intro V Y a1 w1 R S K T;exact ihy u.r Kn Kx V Y a1 w1 Q T R S D (fun p s a' q F B E G=>A p s a' q F B (K.trans E) G) (fun i p s a' q F B E G=>hx i p s a' q F B (K.trans E) G)
    (fun p s a' q F B E G=>C p s a' q F B (K.trans E) G)
 |cond c x y ihx ihy=>
  intro u Kn Kx ms r a w Q j z hd D A hx C;have j:(bif (bif sI x then true else sI y)then
    (match dd r c with
     |some (.bool t)=>CondP t (zm P N x u.l Kn Kx ms r w.heap) (zm P N y u.r Kn Kx ms r w.heap)
     |_=>False)
   else kS P N (.cond c x y) u (Kn ms) (fun e=>Kx e ms) r w.heap):=j
  cases hb:(bif sI x then true else sI y)with
  |false=>rw[hb]at j;exact plain _ _ _ _ _ _ _ _ _ j z hd D A hx C
  |true=>
   rw[hb,cond_true]at j;split at j
   ·rename_i t I
    exact wpIn_cond_split (kh z I) (fun e=>ihx _ Kn Kx ms r a w Q (j.yes e) z hd D A hx C) (fun e=>ihy _ Kn Kx ms r a w Q (j.no e) z hd D A hx C)
   ·exact j.elim
 |block id b ih=>
  intro u Kn Kx ms r a w Q j z hd D A hx C;have j:(bif sI b then zm P N b u Kn (fun e ms s h'=>match e with
    | .exit i=>bif bB i id then Kn ms s h' else Kx (.exit i) ms s h'
    | .ret=>Kx .ret ms s h') ms r w.heap
   else kS P N (.block id b) u (Kn ms) (fun e=>Kx e ms) r w.heap):=j
  cases hb:sI b with
  |false=>rw[hb]at j;exact plain _ _ _ _ _ _ _ _ _ j z hd D A hx C
  |true=>
   rw[hb,cond_true]at j;refine wpIn_block (ih u Kn _ ms r a w _ j z hd (fun J a w=>D J a w) A (fun i p s a' q F B E G=>?_) C)
   simp only[Exit.inBlock]at G⊢;cases hi:bB i id with
   |true=>
    rw[hi,cond_true]at G;rw[if_pos (aQ hi)];exact A p s a' q F B E G
   |false=>
    rw[hi,cond_false]at G;rw[if_neg (fun e=>by rw[e,sr]at hi;cases hi)]
    exact hx i p s a' q F B E G
 |loop b ih=>intro u Kn Kx ms r a w Q j;exact plain _ u Kn Kx ms r a w Q j
 |rangeFunc g ps assign body _ _=>
  intro u Kn Kx ms r a w Q j z hd D A hx C;cases u with
  |rf ks aa ab=>
   have j:(bif zr N ps.toList&&bB ps.toList.length ks.length then
    (match dd r g with
     |some fv=>RangeP P fv ks w.heap (fun Jk Z x k h'=>Ly P N ps.toList ks assign body (.node aa ab) r (w.heap.size+1) Jk Z x k h')
       (fun h'=>Kn (.it w.heap.size::ms) r h') (fun i h'=>Kx (.exit i) (.it w.heap.size::ms) r h') (fun h'=>Kx .ret (.it w.heap.size::ms) r h')
     |none=>False)else False):=j
   cases hb:(zr N ps.toList&&bB ps.toList.length ks.length)with
   |false=>rw[hb]at j;exact j.elim
   |true=>
    rw[hb,cond_true]at j;rw[aR]at hb;split at j
    · rename_i fv hfv
      have U:Agree N r {a with defers:=E1 w.heap.size::a.defers}:=⟨z.size,z.look⟩;have W:({a with defers:=E1 w.heap.size::a.defers}:Act).defers=(.it w.heap.size::ms).map qb:=by rw[List.map_cons,←hd]
      exact DR H hb.1 (aQ hb.2) hfv z j (fun q I L=>A _ r _ q U W I L) (fun i q I L=>hx i _ r _ q U W I L) (fun q I L=>C _ r _ q U W I L)
    · exact j.elim
  |_=>exact j.elim
 |exit id=>intro u Kn Kx ms r a w Q j;exact plain _ u Kn Kx ms r a w Q j
 |scope b _=>intro u Kn Kx ms r a w Q j;exact j.elim
 |label l=>intro u Kn Kx ms r a w Q j;exact plain _ u Kn Kx ms r a w Q j
 |goto l=>intro u Kn Kx ms r a w Q j;exact j.elim
 |ret=>intro u Kn Kx ms r a w Q j;exact plain _ u Kn Kx ms r a w Q j
 |refuse why=>intro u Kn Kx ms r a w Q j;exact j.elim
theorem vO{fn:Func}{ks:List Kind}{K:vh ks→ac→Prop}{N:Nat}{n:Nat}{r:cA}{a:Act}{i:World}(d:Agree N r a):∀(ms:List Mk) (w:World),Tame i w→
  JG P ms (fun h'=>ol P r h' fn.results.toList fun vs=>DW ks vs fun t=>K t h') w.heap→
  LeavesInM (FW none) n P fn a.tmps (fun e c=>Tame i c∧∃t:vh ks,e=.returned (DQ ks (nn ks t))∧K t c.heap) (ms.map qb) .returning w
 | [],w,ht,h=>by
  obtain⟨t,b,o⟩:=JN d h;exact⟨_,b,ht,t,rfl,o⟩
 | .it D::ms,w,ht,h=>by
  refine⟨by simp,.inl ⟨D,_,rfl,run_takeDeferred h.1,?_⟩⟩;exact vO d ms (w.putObj D (.deferred none)) (ht.trans (oW ..)) h.2
 | .call f vs::ms,w,ht,h=>by
  obtain⟨hc,hd⟩:=h w rfl;refine⟨by simp,.inr ⟨(fun e=>by cases e),.func f,#[],f,vs.toArray,rfl,?_,fun _ _=>trivial,CallsDIn.mono (hd (n-1)) fun e u c ⟨m,g,⟨v,j⟩,k⟩=>?_⟩⟩
  ·have:=hc vs.toArray w
   simpa[invoke]using this
  ·subst m j
   exact vO d ms c (ht.trans g) k
theorem HE.introM(m:P.follows .mixedOrders=true){f:FuncId}{fn:Func}{c:Code}{s:Ann}{args:List Value}{ks:List Kind}{K:vh ks→ac→Prop}{h:ac}
  (x:P.funcs[f]? =some fn) (z:fn.body=some c) (j:∀(args:Array Value) (w:World),(callFunc f args).run P w=.ok (.enter f args) w) (o:args.length≤fn.ntmps)
  (y:Lz P fn c s args ks K h):HE P f args ks K h:=by
 refine⟨fun w u=>⟨j,?_⟩⟩
 subst u;refine(callsIn_wide (n:=0)).1 (callsIn_of_wp_marks (F:=FW none) x z trivial ?_ rfl);refine wpIn_mono (Q:=fun e a b=>(∀q,e≠ .panic q)∧bodyPostM (FW none) 0 P fn (fun e b=>Tame w b∧∃t:vh ks,e=.returned (DQ ks (nn ks t))∧K t b.heap) e a b) ?_ fun e a w h=>h.2
 refine H5 m c s _ _ [] _ _ w _ y (MD o) rfl (fun q a w h=>h.1 q rfl) ?_ (fun _ _ _ _ _ _ _ _ h=>h.elim) ?_
 ·intro i v a' b d g k p
  refine⟨(fun _ e=>by cases e),?_⟩
  show LeavesInM _ _ _ _ _ _ a'.defers _ _
  rw[g];exact vO d i b k p
 ·intro i v a' b d g k p
  refine⟨(fun _ e=>by cases e),?_⟩
  show LeavesInM _ _ _ _ _ _ a'.defers _ _
  rw[g];exact vO d i b k p
theorem HC.introM(b:P.follows .mixedOrders=true){f:FuncId}{fn:Func}{c:Code}{i:Ann}{args:List Value}{ks:List Kind}{K:vh ks→ac→Prop}{h:ac}
 (e:P.funcs[f]? =some fn) (j:fn.body=some c) (a:∀(args:Array Value) (w:World),(callFunc f args).run P w=.ok (.enter f args) w) (d:args.length≤fn.ntmps)
 (g:Lz P fn c i args ks K h):HC P f args ks K h:=(HE.introM b e j a d g).hc
end Go.Lift
namespace Go.Lift
open Go
def AppP(z:Option (List Value))(e b:Nat)(t:TypeId)(a:Option Addr)(sl d c:Nat)(xs:List Value)(h:ac)(K:SliceV→ac→Prop):Prop:=
 (sl+c≤d→sw h a (sl*e) xs∧ce xs=true∧K ⟨a,sl+c,d⟩ (fc h a (sl*e) xs))∧
 (d<sl+c→∃old z',SRow h a (sl*e) old∧z=some z'∧0<b∧Builtin.nextslicecap (sl+c) d*b≤2^48∧
  ∀nc,sl+c≤nc→K ⟨some (aO h),sl+c,nc⟩ (hnew h (old++xs++dq (nc-(sl+c)) z') t))
def NextP(a:Addr)(h:ac)(Kend:Prop)(Kstep:MapEntry→ac→Prop):Prop:=
 a.off=0∧∃m since seen last,h[a.block]? =some (.mapIter m since seen last)∧
  ((m=none∧Kend)∨
   (∃r es clock,m=some r∧h[r]? =some (.map es clock)∧(seen.isEmpty=true∨es.isEmpty=true∨es.all (fun e=>decide (e.born≥last))=false)∧
    ((∀e∈es.toList,e.born<since→seen.contains e.born=true)→Kend)∧
    (∀e∈es.toList,seen.contains e.born=false→Kstep e (h.setIfInBounds a.block (.mapIter (some r) since (seen.push e.born) clock)))))
def VH(c:CK)(m:Option Nat)(k:Value)(h:ac)(K:ac→Prop):Prop:=
 (m=none∧K h)∨∃r:Nat,m=some r∧wP c h r∧K (wL h r k)
end Go.Lift
