/- A part of the proof that the named laws of this program answer true, whatever the input. -/
import Derived.Test.YtncppacbfagpgaaGreatDoorLift1
open Array renaming getD_eq_getD_getElem?→df,getElem?_toList→bM,getElem?_setIfInBounds_ne→eM,replicate→pK,getElem?_eq_some_iff→cF,getElem?_eq_getElem→iM,getElem?_eq_none→j4,mapM_eq_mapM_toList→l8
open Bool renaming or_eq_true→iW,and_eq_true→bD,not_eq_true'→od,or_eq_false_iff→lG
open List renaming mem_of_getElem?→jg,length_cons→ax,mem_cons→aA,getElem?_cons_zero→cB,getElem?_eq_getElem→af,any_eq_true→dy,getElem?_eq_some_iff→bl,mem_cons_of_mem→aL,mem_cons_self→ar,filter_cons→cG,mem_singleton→aB,size_toArray→dB
open Nat renaming beq→bJ,eq_of_beq_eq_true→aU,land→je,lor→cT,testBit_and→gY,zero_testBit→ip,succ→fK,zero_add→aD,beq_refl→qa,lt_or_ge→bN,pred→uX,sub_zero→fz
open Option renaming some→bH
namespace Go.Lift
open Go
variable {P:Program} {ro:Option Nat} {n:Nat}
def FW(ro:Option Nat):Fence:={fn:=fun _=>True,depth:=none,alive:=false,round:=ro}
theorem LU(m:Machine):m.fenced P (FW ro):=by
 intro g _;exact⟨fun h=>by simp[FW]at h,.inl trivial,fun _ _=>trivial,fun d h=>by simp[FW]at h⟩
theorem wq{m m':Machine}(h:Steps P m m'):StepsIn (Machine.fenced P (FW ro)) P m m':=(StepsIn.of_steps h).mono fun m _=>LU m
theorem Cg{k:Nat}{f:FuncId}{args:Array Value}{w:World}{R:Ending→World→Prop}(h:Calls P f args w R):CallsIn (FW ro) k P f args w R:=by
 refine⟨trivial,fun cs _=>?_⟩
 obtain⟨e,w',fr,hR,hc,hfn,hl⟩:=h cs;refine⟨e,w',fr,hR,?_,hfn,hl⟩;cases e with
 |returned v=>exact wq hc
 |panicked c=>exact wq hc
 |outgrown=>exact hc
theorem qJ{o:Oper}{a:Act}{w:World}{K:WK}{next:Act→World→Prop}{Q:Exit→Act→World→Prop}(hd:∀c,o.op≠ .defer c)(h:Hi P (execOp a.eval o) K w)
  (hk:∀v w',Tame w w'→K v w'.heap→next (a.put o.dst v) w'):o.wpIn (FW ro) n P a w next Q:=by
 refine⟨fun _ _=>trivial,?_⟩
 rw[Oper.semAt_eq _ _ _ hd];rcases h with⟨v,w',hr,ht,hK⟩|⟨w',hr,ht,hK⟩|⟨f,args,hr,hc⟩|⟨l,fn,tmps,assign,body,hr,hc⟩
 ·rw[hr];exact hk v w' ht hK
 ·rw[hr];exact hk undef w' ht hK
 ·rw[hr]
  refine⟨fun h=>by simp[FW]at h,Cg (hc.mono ?_)⟩
  rintro e w' ⟨ht,v,rfl,hK⟩;exact hk v w' ht hK
 ·rw[hr]
  refine⟨fun h=>by simp[FW]at h,trivial,fun c cs _=>?_⟩
  obtain⟨b,w',ht,hK,hs⟩:=hc c cs;exact⟨.returned (.bool b),w',hk _ w' ht hK,wq hs⟩
theorem tw{N:Nat}{o:Oper}{v:Value}{r:cH}{K:cH→Prop}{a:Act}{d:sG}{dv:DV}(h:xV N o v r K)(ha:Agree N r a)(hd:DecOk d r)(hv:Ds dv v):
  ∃r',K r'∧Agree N r' (a.put o.dst v)∧DecOk (ql d o dv) r':=by
 unfold xV at h;unfold ql;cases ho:o.dst with
 |none=>rw[ho]at h;exact⟨r,h,ha,hd⟩
 |some t=>
  rw[ho]at h;simp only at h;cases hb:Nat.blt t N with
  |false=>rw[hb]at h;exact h.elim
  |true=>
   rw[hb]at h;have hlt:t<N:=by simpa using hb
   refine⟨_,h,ha.put t v hlt,fun s=>?_⟩
   by_cases e:t=s
   ·subst e
    have:pP ((t,dv)::d) t=dv:=by simp[pP]
    rw[this];exact .inr ⟨v,hJ t v r,hv⟩
   ·have h1:pP ((t,dv)::d) s=pP d s:=by
     have:bJ t s=false:=Bool.eq_false_iff.2 fun e'=>e (aU e')
     show(bif bJ t s then dv else pP d s)=_
     rw[this];rfl
    rw[h1,gv v r e];exact hd s
theorem Gr{ek:Option (Kind×Kind)}{o:Op}{r:cH}{K:RK}{h:ad}(hq:yT P ek o r K h):∀c,o≠ .defer c:=by
 intro c e;subst e;exact hq
theorem uh{o:Oper}{r:cH}{K:WK}{h:ad}(hq:CV P o r K h):∀c,o.op≠ .defer c:=by
 intro c e;unfold CV at hq;rw[e]at hq;exact hq
theorem Q5{d:sG}{o:Op}(h:tP P o=false):F0 d o=.x:=by
 cases o<;>first|rfl|(simp[tP]at h)
theorem Lv{N:Nat}{ek:Option (Kind×Kind)}{o:Oper}{r:cH}{K:cH→ad→Prop}{a:Act}{w:World}{d:sG}{next:Act→World→Prop}{Q:Exit→Act→World→Prop}
  (hs:QC P N ek o r K w.heap)(ha:Agree N r a)(hd:DecOk d r)
  (hk:∀v w' r',Tame w w'→K r' w'.heap→Agree N r' (a.put o.dst v)→DecOk (ql d o (F0 d o.op)) r'→next (a.put o.dst v) w'):o.wpIn (FW ro) n P a w next Q:=by
 unfold QC at hs;cases hq:tP P o.op with
 |true=>
  rw[hq,cond_true]at hs;obtain⟨v,S,hK,hS,hdv,hr⟩:=DN ha hs d hd;refine qJ (K:=fun u h'=>u=v∧h'=w.heap) (Gr hs) (.inl ⟨v,w,hr w hS,Tame.refl w,rfl,rfl⟩) ?_
  rintro u w' ht ⟨rfl,hh⟩;obtain⟨r',hr',ha',hd'⟩:=tw hK ha hd hdv;exact hk u w' r' ht (by rw[hh];exact hr') ha' hd'
 |false=>
  rw[hq,cond_false]at hs;refine qJ (uh hs) (yH ha hs) ?_;intro v w' ht hK;obtain⟨r',hr',ha',hd'⟩:=tw hK ha hd (dv:=F0 d o.op) (by rw[Q5 hq];trivial);exact hk v w' r' ht hr' ha' hd'
theorem Eb{t:Array Value}{i:Nat}{b:Bool}(h:t.getD i undef=.bool b):t[i]? =some (.bool b):=by
 rw[df]at h;cases hc:t[i]? with
 |none=>rw[hc]at h;simp[undef]at h
 |some v=>rw[hc]at h;simp at h;rw[h]
theorem Jc{t:Array Value}{i:Nat}(h:t.getD i undef=undef):t[i]? =none∨t[i]? =some undef:=by
 rw[df]at h;cases hc:t[i]? with
 |none=>exact .inl rfl
 |some v=>rw[hc]at h;simp at h;rw[h];exact .inr rfl
theorem oO{N:Nat}{ops:Array Oper}{d:sG}{o:Oper}{b:Bool}{r:cH}{a:Act}(h:iG ops.toList d o=some b)(ha:Agree N r a)(hd:DecOk d r):
  Region.wanted o (yielded ops a.tmps)=b:=by
 unfold iG at h;unfold Region.wanted;cases hg:o.guard with
 |none=>rw[hg]at h;simp only[bH.injEq]at h;exact h
 |some g=>
  obtain⟨j,want⟩:=g;rw[hg]at h;simp only[bM]at h;simp only;cases hj:ops[j]? with
  |none=>rw[hj]at h;cases h
  |some oj=>
   rw[hj]at h;simp only at h;cases ht:oj.dst with
   |none=>rw[ht]at h;cases h
   |some t=>
    rw[ht]at h;simp only at h;have hy:yielded ops a.tmps j=(match a.tmps[t]? with|some (.bool b)=>some b|_=>none):=by
     unfold yielded;simp[hj,ht];rfl
    rw[hy];rcases hd t with hx|⟨v,hv,hk⟩
    ·rw[hx]at h;cases h
    ·have hav:=ha.look t v hv
     cases hdl:pP d t with
     |x=>rw[hdl]at h;cases h
     |t=>
      rw[hdl]at h hk;simp only[bH.injEq]at h;subst h;have:v=.bool true:=hk;subst this;rw[Eb hav];cases want<;>rfl
     |f=>
      rw[hdl]at h hk;simp only[bH.injEq]at h;subst h;have:v=.bool false:=hk;subst this;rw[Eb hav];cases want<;>rfl
     |u=>
      rw[hdl]at h hk;simp only[bH.injEq]at h;subst h;have:v=undef:=hk;subst this;rcases Jc hav with e|e<;>rw[e]<;>cases want<;>rfl
structure Fr(W:Nat→Prop)(a0:Act)(w0:World)(a:Act)(w:World):Prop where
 tame:Tame w0 w
 defers:a.defers=a0.defers
 same:∀t,¬W t→a.tmps.getD t undef=a0.tmps.getD t undef
theorem Fr.refl(W:Nat→Prop)(a:Act)(w:World):Fr W a w a w:=⟨Tame.refl w,rfl,fun _ _=>rfl⟩
theorem Fr.put{W:Nat→Prop}{a0 a:Act}{w0 w w':World}(h:Fr W a0 w0 a w){o:Oper}(hW:∀d,o.dst=some d→W d)(v:Value)(ht:Tame w w'):Fr W a0 w0 (a.put o.dst v) w':=by
 refine⟨h.tame.trans ht,?_,fun t hn=>?_⟩
 ·cases ho:o.dst<;>simp[Act.put,h.defers]
 ·cases ho:o.dst with
  |none=>exact h.same t hn
  |some d=>
   have hne:d≠t:=fun e=>hn (e▸hW d ho)
   rw[←h.same t hn];simp[Act.put,eM hne]
theorem Fr.trans{W:Nat→Prop}{a0 a1 a2:Act}{w0 w1 w2:World}(h:Fr W a0 w0 a1 w1)(k:Fr W a1 w1 a2 w2):Fr W a0 w0 a2 w2:=
 ⟨h.tame.trans k.tame,k.defers.trans h.defers,fun t ht=>(k.same t ht).trans (h.same t ht)⟩
theorem Fr.mono{W W':Nat→Prop}{a0 a:Act}{w0 w:World}(h:Fr W a0 w0 a w)(hW:∀t,W t→W' t):Fr W' a0 w0 a w:=
 ⟨h.tame,h.defers,fun t ht=>h.same t fun e=>ht (hW t e)⟩
theorem DecOk.known{d:sG}{r:cH}(h:DecOk d r){t:Nat}{dv:DV}{v:Value}(hv:Ds dv v):DecOk ((t,dv)::d) ((t,v)::r):=fun s=>by
 by_cases e:t=s
 ·subst e
  have:pP ((t,dv)::d) t=dv:=by simp[pP]
  rw[this];exact .inr ⟨v,hJ t v r,hv⟩
 ·have h1:pP ((t,dv)::d) s=pP d s:=by
   have:bJ t s=false:=Bool.eq_false_iff.2 fun e'=>e (aU e')
   show(bif bJ t s then dv else pP d s)=_
   rw[this];rfl
  rw[h1,gv v r e];exact h s
theorem A0{N:Nat}{ek:Option (Kind×Kind)}{ops:Array Oper}{o:Oper}{i:Nat}{d:sG}{r:cH}{a:Act}{w:World}{b:Bool}{K:sG→cH→ad→Prop}{next:Act→World→Prop}{Q:Exit→Act→World→Prop}
  (hi:ops[i]? =some o) (hw:iG ops.toList d o=some b) (ha:Agree N r a) (hd:DecOk d r)
  (hs:match b with
   |true=>QC P N ek o r (K (ql d o (F0 d o.op))) w.heap
   |false=>xV N o undef r fun r'=>K (ql d o .u) r' w.heap)
  (hk:∀v w' d' r',Tame w w'→K d' r' w'.heap→Agree N r' (a.put o.dst v)→DecOk d' r'→next (a.put o.dst v) w'):
  wpOpIn (FW ro) n P ops Q i next a w:=by
 unfold wpOpIn;rw[hi];simp only[oO hw ha hd];cases b with
 |true=>exact Lv hs ha hd fun v w' r' ht hK ha' hd'=>hk v w' _ r' ht hK ha' hd'
 |false=>
  obtain⟨r',hr',ha',hd'⟩:=tw (dv:=.u) hs ha hd rfl;exact⟨fun _ _=>trivial,hk undef w _ r' (Tame.refl w) hr' ha' hd'⟩
theorem Lu{N:Nat}{ek:Option (Kind×Kind)}{ops:List Oper}{o:Oper}{os:List Oper}{d:sG}{K:cH→ad→Prop}{r:cH}{h:ad}:Bo P N ek ops (o::os) d K r h=
 (match iG ops d o with
 |some true=>QC P N ek o r (fun r' h'=>Bo P N ek ops os (ql d o (F0 d o.op)) K r' h') h
 |some false=>xV N o undef r fun r'=>Bo P N ek ops os (ql d o .u) K r' h
 |none=>match BX ops o with
  |none=>False
  |some t=>match jM r t with
   |some (.bool b)=>CondP b
    (DE P N ek ops o ((t,.t)::d) ((t,.bool true)::r) h fun d' r' h'=>Bo P N ek ops os d' K r' h')
    (DE P N ek ops o ((t,.f)::d) ((t,.bool false)::r) h fun d' r' h'=>Bo P N ek ops os d' K r' h')
   |_=>False):=rfl
theorem Dy{N:Nat}{ek:Option (Kind×Kind)}{ops:Array Oper}{o:Oper}{i:Nat}{d:sG}{r:cH}{a:Act}{w:World}{K:sG→cH→ad→Prop}{next:Act→World→Prop}{Q:Exit→Act→World→Prop}
  (hi:ops[i]? =some o) (ha:Agree N r a) (hd:DecOk d r) (hs:DE P N ek ops.toList o d r w.heap K)
  (hk:∀v w' d' r',Tame w w'→K d' r' w'.heap→Agree N r' (a.put o.dst v)→DecOk d' r'→next (a.put o.dst v) w'):
  wpOpIn (FW ro) n P ops Q i next a w:=by
 unfold DE at hs;cases hw:iG ops.toList d o with
 |none=>rw[hw]at hs;exact hs.elim
 |some b=>rw[hw]at hs;exact A0 (ek:=ek) hi hw ha hd (by cases b<;>exact hs) hk
theorem Bm{N:Nat}{ek:Option (Kind×Kind)}{ops:Array Oper}{W:Nat→Prop}(hW:∀o∈ops.toList,∀d,o.dst=some d→W d){a0:Act}{w0:World}{K:cH→ad→Prop}{Q:Exit→Act→World→Prop}
  (hQ:∀r a w,Agree N r a→Fr W a0 w0 a w→K r w.heap→Q .normal a w):
  ∀(l:List Oper) (i:Nat),ops.toList.drop i=l→∀(d:sG) (r:cH) (a:Act) (w:World),Bo P N ek ops.toList l d K r w.heap→Agree N r a→DecOk d r→Fr W a0 w0 a w→
   wpOpsIn (FW ro) n P ops Q (List.range' i l.length) a w
 | [],i,_,d,r,a,w,hs,ha,hd,hf=>hQ r a w ha hf hs
 |o::os,i,hdr,d,r,a,w,hs,ha,hd,hf=>by
  have hi:ops[i]? =some o:=by
   rw[←bM];have:(ops.toList.drop i)[0]? =some o:=by rw[hdr];rfl
   simpa using this
  have hmem:o∈ops.toList:=jg (by rw[bM];exact hi);have hdr':ops.toList.drop (i+1)=os:=by rw[←List.tail_drop,hdr];rfl
  rw[ax,List.range'_succ,wpOpsIn_cons];rw[Lu]at hs;have go:∀v w' d' r',Tame w w'→Bo P N ek ops.toList os d' K r' w'.heap→Agree N r' (a.put o.dst v)→DecOk d' r'→wpOpsIn (FW ro) n P ops Q (List.range' (i+1) os.length) (a.put o.dst v) w':=
   fun v w' d' r' ht hK ha' hd'=>Bm hW hQ os (i+1) hdr' d' r' _ w' hK ha' hd' (hf.put (hW o hmem) v ht)
  cases hw:iG ops.toList d o with
  |some b=>
   rw[hw]at hs;exact A0 (ek:=ek) (K:=fun d' r' h'=>Bo P N ek ops.toList os d' K r' h') hi hw ha hd (by cases b<;>exact hs) go
  |none=>
   rw[hw]at hs;simp only at hs;split at hs
   ·exact hs.elim
   ·rename_i t ht
    split at hs
    ·rename_i b hb
     cases b with
     |true=>exact Dy hi (ha.known hb) (hd.known (dv:=.t) rfl) (hs.yes rfl) go
     |false=>exact Dy hi (ha.known hb) (hd.known (dv:=.f) rfl) (hs.no rfl) go
    ·exact hs.elim
end Go.Lift
namespace Go.Lift
open Go
theorem zD(m i:Nat):tb m i=m.testBit i:=by
 have h:je (Nat.shiftRight m i) 1=(m>>>i)&&&1:=rfl;unfold tb;rw[h,Nat.testBit_eq_decide_div_mod_eq,Nat.and_one_is_mod,Nat.shiftRight_eq_div_pow];cases hm:decide (m/2^i%2=1)with
 |true=>rw[of_decide_eq_true hm];rfl
 |false=>
  have h2:=of_decide_eq_false hm;have:m/2^i%2=0:=by omega
  rw[this];rfl
theorem m0(a b i:Nat):(cT a b).testBit i=(a.testBit i||b.testBit i):=Nat.testBit_or a b i
theorem wU(i j:Nat):(gt i).testBit j=decide (i=j):=Nat.testBit_two_pow
theorem zi{a b:Nat}(h:bJ (je a b) 0=true)(t:Nat)(ha:a.testBit t=true)(hb:b.testBit t=true):False:=by
 have h0:=aU h;have:(je a b).testBit t=(a.testBit t&&b.testBit t):=gY a b t;rw[h0,ha,hb]at this;simp at this
theorem Po{a b:Nat}(h:bJ (je a b) a=true)(t:Nat)(ha:a.testBit t=true):b.testBit t=true:=by
 have h0:=aU h;have:(je a b).testBit t=(a.testBit t&&b.testBit t):=gY a b t;rw[h0,ha]at this;simpa using this.symm
theorem vS(i:Nat):∀l:List Edge,(lV l).testBit i=l.any fun e=>bJ e.on i&&Region.binds .any e
 | []=>ip i
 |e::l=>by
  have ih:=vS i l;have hc:lV (e::l)=bif Region.binds .any e then cT (gt e.on) (lV l)else lV l:=rfl;rw[hc,List.any_cons,←ih];cases hb:Region.binds .any e with
  |true=>
   rw[cond_true,m0,wU,Bool.and_true];congr 1
   cases hd:bJ e.on i with
   |true=>simpa using aU hd
   |false=>rw[decide_eq_false_iff_not];intro e';rw[e']at hd;simp at hd
  |false=>simp
theorem x9(o:Oper)(i:Nat):(lV o.after.toList).testBit i=i4 o i:=vS i o.after.toList
theorem xy(t:Nat):∀l:List Operand,(kY l).testBit t=true↔Operand.tmp t∈l
 | []=>by simp[show kY []=0 from rfl]
 |o::l=>by
  have ih:=xy t l;cases o with
  |tmp u=>
   have hc:kY (.tmp u::l)=cT (gt u) (kY l):=rfl;rw[hc,m0,wU,iW,ih,aA];simp[eq_comm]
  |const v=>
   have hc:kY (.const v::l)=kY l:=rfl;rw[hc,ih,aA];simp
  |global v=>
   have hc:kY (.global v::l)=kY l:=rfl;rw[hc,ih,aA];simp
  |func v=>
   have hc:kY (.func v::l)=kY l:=rfl;rw[hc,ih,aA];simp
theorem uJ(o:Oper)(t:Nat):(mK o).testBit t=true↔o.dst=some t:=by
 unfold mK;cases o.dst with
 |none=>simp
 |some d=>simp[wU]
theorem C6(ops:Array Oper)(o:Oper)(t:Nat):(ng ops.toList o).testBit t=true↔t∈o.looksAt ops:=by
 unfold ng Oper.looksAt;rw[m0,iW,xy,List.mem_append,List.mem_filterMap];refine or_congr ⟨fun h=>⟨_,h,rfl⟩,?_⟩ ?_
 ·rintro⟨x,hx,he⟩
  cases x<;>simp at he
  subst he;exact hx
 ·cases hg:o.guard with
  |none=>simp
  |some g=>
   obtain⟨j,want⟩:=g;simp only[bM];cases hj:ops[j]? with
   |none=>simp
   |some oj=>simp[uJ]
variable {P:Program} {ro:Option Nat} {n:Nat} {ops:Array Oper} {Q:Exit→Act→World→Prop}
structure MsOk(ops:Array Oper)(ms:List DM):Prop where
 am:∀(i:Nat) (o:Oper) (m:DM),ops[i]? =some o→ms[i]? =some m→∀j,m.am.testBit j=i4 o j
 lk:∀(i:Nat) (o:Oper) (m:DM),ops[i]? =some o→ms[i]? =some m→∀t,m.lk.testBit t=true↔t∈o.looksAt ops
 ds:∀(i:Nat) (o:Oper) (m:DM),ops[i]? =some o→ms[i]? =some m→∀t,m.ds.testBit t=true↔o.dst=some t
 len:ms.length=ops.size
 free:∀(i j:Nat) (m k:DM),ms[i]? =some m→ms[j]? =some k→m.fr.testBit j=true→j=i∨k.am.testBit i=true∨zj m k=true
 nosel:∀(i:Nat) (o:Oper),ops[i]? =some o→(∀cs b,o.op≠ .select cs b)∧(∀c,o.op≠ .defer c)
theorem xJ(ops:List Oper):∀(l:List Oper) (ms:List DM),uq ops l ms=true→ms.length=l.length∧∀(i:Nat) (o:Oper) (m:DM),l[i]? =some o→ms[i]? =some m→
  m.am=lV o.after.toList∧m.lk=ng ops o∧m.ds=mK o
 | [],[],_=>⟨rfl,fun i o m h=>by simp at h⟩
 | [],_::_,h=>by cases h
 |o::l,[],h=>by cases h
 |o::l,m::ms,h=>by
  have hc:uq ops (o::l) (m::ms)=(bJ (lV o.after.toList) m.am&&bJ (ng ops o) m.lk&&bJ (mK o) m.ds&&uq ops l ms):=rfl;rw[hc]at h;simp only[bD]at h;obtain⟨⟨⟨h1,h2⟩,h3⟩,h4⟩:=h;obtain⟨hl,hg⟩:=xJ ops l ms h4;refine⟨by simp[hl],fun i o' m' ho hm=>?_⟩
  cases i with
  |zero=>
   simp only[cB,bH.injEq]at ho hm;subst ho;subst hm;exact⟨(aU h1).symm,(aU h2).symm,(aU h3).symm⟩
  |succ i=>exact hg i o' m' (by simpa using ho) (by simpa using hm)
theorem Ec(i:Nat)(m:DM):∀(l:List DM) (j0:Nat),Ed i m l j0=true→∀(j:Nat) (k:DM),l[j]? =some k→m.fr.testBit (j0+j)=true→j0+j=i∨k.am.testBit i=true∨zj m k=true
 | [],j0,_,j,k,hk,_=>by simp at hk
 |x::l,j0,h,j,k,hk,hb=>by
  have hc:Ed i m (x::l) j0=((!(tb m.fr j0)||bJ j0 i||tb x.am i||zj m x)&&Ed i m l (fK j0)):=rfl
  rw[hc]at h;simp only[bD,iW,od,zD]at h;cases j with
  |zero=>
   simp only[cB,bH.injEq]at hk;subst hk;simp only[Nat.add_zero]at hb⊢;rcases h.1 with((h1|h1)|h1)|h1
   ·rw[h1]at hb;cases hb
   ·exact .inl (aU h1)
   ·exact .inr (.inl h1)
   ·exact .inr (.inr h1)
  |succ j=>
   have:=Ec i m l (j0+1) h.2 j k (by simpa using hk) (by rw[show j0+1+j=j0+(j+1) by omega];exact hb)
   rw[show j0+1+j=j0+(j+1) by omega]at this
   exact this
theorem zS(all:List DM):∀(l:List DM) (i0:Nat),xP all l i0=true→∀(i:Nat) (m:DM),l[i]? =some m→Ed (i0+i) m all 0=true
 | [],i0,_,i,m,hm=>by simp at hm
 |x::l,i0,h,i,m,hm=>by
  have hc:xP all (x::l) i0=(Ed i0 x all 0&&xP all l (fK i0)):=rfl;rw[hc,bD]at h;cases i with
  |zero=>simp only[cB,bH.injEq]at hm;subst hm;exact h.1
  |succ i=>
   have:=zS all l (i0+1) h.2 i m (by simpa using hm);rw[show i0+1+i=i0+(i+1) by omega]at this
   exact this
theorem DY:∀(l:List Oper),GF l=true→∀o∈l,(∀cs b,o.op≠ .select cs b)∧(∀c,o.op≠ .defer c)
 | [],_,o,ho=>by cases ho
 |x::l,h,o,ho=>by
  simp only[GF,bD]at h;rcases aA.1 ho with rfl|ho
  ·refine⟨fun cs b e=>?_,fun c e=>?_⟩
   ·rw[e]at h;cases h.1
   ·rw[e]at h;cases h.1
  ·exact DY l h.2 o ho
theorem IH{ms:List DM}(h:AO ops.toList ms=true):MsOk ops ms:=by
 have hc:AO ops.toList ms=(uq ops.toList ops.toList ms&&xP ms ms 0&&GF ops.toList):=rfl;rw[hc]at h;simp only[bD]at h;obtain⟨⟨h1,h2⟩,h3⟩:=h;obtain⟨hl,hg⟩:=xJ ops.toList ops.toList ms h1;refine⟨fun i o m ho hm j=>?_,fun i o m ho hm t=>?_,fun i o m ho hm t=>?_,by simpa using hl,fun i j m k hm hk hb=>?_,fun i o ho=>?_⟩
 ·rw[(hg i o m (by simpa using ho) hm).1,x9]
 ·rw[(hg i o m (by simpa using ho) hm).2.1,C6]
 ·rw[(hg i o m (by simpa using ho) hm).2.2,uJ]
 ·have:=zS ms ms 0 h2 i m hm
  rw[aD]at this;have:=Ec i m ms 0 this j k hk (by rwa [aD]);rwa [aD]at this
 ·exact DY _ h3 o (jg (by rw[bM];exact ho))
theorem NY{ms:List DM}(hm:MsOk ops ms){i j:Nat}{oi oj:Oper}{mi mj:DM}(hi:ops[i]? =some oi) (hj:ops[j]? =some oj) (hmi:ms[i]? =some mi) (hmj:ms[j]? =some mj) (h:zj mi mj=true):
  (∀d,oi.dst=some d→d∉oj.looksAt ops)∧(∀d,oi.dst=some d→oj.dst≠some d)∧(∀d,oj.dst=some d→d∉oi.looksAt ops):=by
 unfold zj at h;rw[bD]at h;refine⟨fun d hd hl=>?_,fun d hd he=>?_,fun d hd hl=>?_⟩
 ·exact zi h.1 d ((hm.ds i oi mi hi hmi d).2 hd) (by rw[m0,(hm.lk j oj mj hj hmj d).2 hl,Bool.true_or])
 ·exact zi h.1 d ((hm.ds i oi mi hi hmi d).2 hd) (by rw[m0,(hm.ds j oj mj hj hmj d).2 he,Bool.or_true])
 ·exact zi h.2 d ((hm.ds j oj mj hj hmj d).2 hd) ((hm.lk i oi mi hi hmi d).2 hl)
structure LsRel(ops:Array Oper)(ls:Nat)(listed:Array Bool):Prop where
 size:listed.size=ops.size
 bit:∀j,listed.getD j false=ls.testBit j
theorem LsRel.start:LsRel ops 0 (pK ops.size false):=⟨by simp,fun j=>by
 rw[ip,df]
 by_cases h:j<ops.size<;>simp[h]⟩
theorem LsRel.put{ls:Nat}{listed:Array Bool}(h:LsRel ops ls listed){i:Nat}(hi:i<ops.size):LsRel ops (cT ls (gt i)) (listed.setIfInBounds i true):=by
 refine⟨by simp[h.size],fun j=>?_⟩
 rw[m0,wU,←h.bit];by_cases e:i=j
 ·subst e;simp[h.size,hi]
 ·simp[e,eM e]
theorem LsRel.unlisted{ls:Nat}{listed:Array Bool}(h:LsRel ops ls listed){i:Nat}(hi:i<ops.size):listed.getD i true=ls.testBit i:=by
 rw[←h.bit];have:i<listed.size:=by rw[h.size];exact hi
 simp[this]
theorem DJ{ms:List DM}(hm:MsOk ops ms){ls:Nat}{listed:Array Bool}(h:LsRel ops ls listed){j:Nat}:j∈Region.ready .any ops listed↔∃m,ms[j]? =some m∧ls.testBit j=false∧DK m ls=true:=by
 rw[mem_ready];constructor
 ·rintro⟨h0,o,ho,hall⟩
  have hj:j<ops.size:=(cF.1 ho).1;have hjm:j<ms.length:=by rw[hm.len];exact hj
  refine⟨ms[j],af hjm,by rw[←h.unlisted hj];exact h0,?_⟩
  unfold DK;have:je (ms[j]).am ls=(ms[j]).am:=by
   apply Nat.eq_of_testBit_eq;intro t;have hand:(je (ms[j]).am ls).testBit t=((ms[j]).am.testBit t&&ls.testBit t):=gY _ _ t;rw[hand];cases ht:(ms[j]).am.testBit t with
   |false=>rfl
   |true=>
    rw[hm.am j o _ ho (af hjm)]at ht;unfold i4 at ht;obtain⟨e,he,hb⟩:=dy.1 ht;simp only[bD]at hb;have:=hall e (by simpa using he) hb.2;rw[aU hb.1,h.bit]at this;rw[this];rfl
  rw[this];exact qa _
 ·rintro⟨m,hmj,h0,hr⟩
  have hj:j<ops.size:=by rw[←hm.len];exact(bl.1 hmj).1
  refine⟨by rw[h.unlisted hj];exact h0,ops[j],iM hj,fun e he hb=>?_⟩
  rw[h.bit];refine Po hr e.on ?_;rw[hm.am j _ m (iM hj) hmj];unfold i4;exact dy.2 ⟨e,by simpa using he,by simp[hb]⟩
theorem qg(ls:Nat):∀(l:List DM) (j0 j:Nat),j∈li ls l j0↔∃k m,l[k]? =some m∧j=j0+k∧ls.testBit j=false∧DK m ls=true
 | [],j0,j=>by simp[show li ls [] j0= []from rfl]
 |m::l,j0,j=>by
  have hc:li ls (m::l) j0=bif !(tb ls j0)&&DK m ls then j0::li ls l (fK j0)else li ls l (fK j0):=rfl;have ih:=qg ls l (j0+1) j;rw[hc,zD];have step:(∃k m',(m::l)[k]? =some m'∧j=j0+k∧ls.testBit j=false∧DK m' ls=true)↔(j=j0∧ls.testBit j0=false∧DK m ls=true)∨j∈li ls l (j0+1):=by
   rw[ih];constructor
   ·rintro⟨k,m',hk,rfl,h1,h2⟩
    cases k with
    |zero=>simp only[cB,bH.injEq]at hk;subst hk;exact .inl ⟨rfl,h1,h2⟩
    |succ k=>exact .inr ⟨k,m',by simpa using hk,by omega,h1,h2⟩
   ·rintro(⟨rfl,h1,h2⟩|⟨k,m',hk,rfl,h1,h2⟩)
    ·exact⟨0,m,rfl,rfl,h1,h2⟩
    ·exact⟨k+1,m',by simpa using hk,by omega,h1,h2⟩
  rw[step];cases hb:(!(ls.testBit j0)&&DK m ls)with
  |true=>
   simp only[bD,od]at hb;rw[cond_true,aA];simp[hb.1,hb.2]
  |false=>
   rw[cond_false];constructor
   ·exact .inr
   ·rintro(⟨_,h1,h2⟩|h)
    ·rw[h1,h2]at hb;cases hb
    ·exact h
theorem ny{ms:List DM}(hm:MsOk ops ms){ls:Nat}{listed:Array Bool}(h:LsRel ops ls listed){j:Nat}:j∈Region.ready .any ops listed↔j∈li ls ms 0:=by
 rw[DJ hm h,qg];constructor
 ·rintro⟨m,h1,h2,h3⟩;exact⟨j,m,h1,by omega,h2,h3⟩
 ·rintro⟨k,m,h1,rfl,h2,h3⟩;exact⟨m,by simpa using h1,h2,h3⟩
theorem vh:∀{a b:List Nat},sQ a b=true→a=b
 | [],[],_=>rfl
 | [],_::_,h=>by cases h
 |_::_,[],h=>by cases h
 |a::as,b::bs,h=>by
  simp only[sQ,bD]at h;rw[aU h.1,vh h.2]
end Go.Lift
namespace Go.Lift
open Go
variable {P:Program} {ro:Option Nat} {n:Nat} {ops:Array Oper} {Q:Exit→Act→World→Prop}
theorem xx{m:Nat}{p:Nat→Bool}(hm:∀j,m.testBit j=true→p j=true):∀(l:List DM) (j0:Nat),(∀j x,l[j]? =some x→p (j0+j)=true→∀k,x.am.testBit k=true→p k=true)→∀k,(Mk m l j0).testBit k=true→p k=true
 | [],_,_,k,h=>hm k h
 |x::l,j0,hl,k,h=>by
  have hc:Mk m (x::l) j0=bif tb m j0 then cT x.am (Mk m l (fK j0))else Mk m l (fK j0):=rfl;have ih:=xx hm l (j0+1) (fun j y hy hp=>hl (j+1) y (by simpa using hy) (by rw[show j0+(j+1)=j0+1+j by omega];exact hp)) k
  rw[hc,zD]at h;cases hb:m.testBit j0 with
  |true=>
   rw[hb,cond_true,m0,iW]at h;rcases h with h|h
   ·exact hl 0 x rfl (hm _ hb) k h
   ·exact ih h
  |false=>
   rw[hb,cond_false]at h;exact ih h
theorem xw{m k:Nat}(h:m.testBit k=true):∀(l:List DM) (j0:Nat),(Mk m l j0).testBit k=true
 | [],_=>h
 |x::l,j0=>by
  have hc:Mk m (x::l) j0=bif tb m j0 then cT x.am (Mk m l (fK j0))else Mk m l (fK j0):=rfl;have ih:=xw h l (j0+1);rw[hc];cases tb m j0 with
  |true=>rw[cond_true,m0,iW];exact .inr ih
  |false=>exact ih
def Shut(ms:List DM)(listed:Array Bool):Prop:=∀j x,ms[j]? =some x→listed.getD j false=true→∀k,x.am.testBit k=true→listed.getD k false=true
theorem L0{ms:List DM}{listed:Array Bool}(hs:Shut ms listed){m:Nat}(hm:∀j,m.testBit j=true→listed.getD j false=true){k:Nat}(h:(xY ms m).testBit k=true):listed.getD k false=true:=by
 have hl:∀j x,ms[j]? =some x→(fun k=>listed.getD k false) (0+j)=true→∀k,x.am.testBit k=true→(fun k=>listed.getD k false) k=true:=fun j x hx hp=>hs j x hx (by rw[aD]at hp;exact hp)
 unfold xY at h;exact xx (p:=fun k=>listed.getD k false) (xx (xx (xx hm ms 0 hl) ms 0 hl) ms 0 hl) ms 0 hl k h
theorem LZ{ms:List DM}{m k:Nat}(h:m.testBit k=true):(xY ms m).testBit k=true:=by
 unfold xY;exact xw (xw (xw (xw h ms 0) ms 0) ms 0) ms 0
noncomputable abbrev rel(ms:List DM)(i:Nat)(L:pF):pF:=xC (xY ms (Fz ms i)) L
theorem lJ{m:Nat}{x:Nat×(ad→Prop)}:∀{L:pF},x∈xC m L↔x∈L∧tb m x.1=false
 | []=>by simp[xC]
 |(k,S)::L=>by
  have ih:=lJ (m:=m) (x:=x) (L:=L);simp only[xC];cases hk:tb m k with
  |true=>
   rw[cond_true,ih,aA];constructor
   ·exact fun h=>⟨.inr h.1,h.2⟩
   ·rintro⟨h|h,h2⟩
    ·subst h;rw[hk]at h2;cases h2
    ·exact⟨h,h2⟩
  |false=>
   rw[cond_false,aA,ih,aA];constructor
   ·rintro(h|h)
    ·subst h;exact⟨.inl rfl,hk⟩
    ·exact⟨.inr h.1,h.2⟩
   ·rintro⟨h|h,h2⟩
    ·exact .inl h
    ·exact .inr ⟨h,h2⟩
def My(ms:List DM)(ro:Option Nat)(n:Nat)(P:Program)(ops:Array Oper)(Q:Exit→Act→World→Prop):Nat→pF→Array Bool→Act→World→Prop
 |0,_,listed,a,w=>Region.ready .any ops listed= []∧Q .normal a w
 |f+1,L,listed,a,w=>(Region.ready .any ops listed= []→Q .normal a w)∧
  ∀i∈Region.ready .any ops listed,∀o,ops[i]? =some o→
   wpOpIn (FW ro) n P ops Q i (fun a' w'=>(∀x∈rel ms i L,x.2 w'.heap)∧My ms ro n P ops Q f (rel ms i L) (listed.setIfInBounds i true) a' w') a w
theorem zK{o:Oper}{x:Nat×(ad→Prop)}:∀{L:pF},x∈qM o L↔x∈L∧i4 o x.1=false
 | []=>by simp[qM]
 |(k,S)::L=>by
  have ih:=zK (o:=o) (x:=x) (L:=L);simp only[qM];cases hk:i4 o k with
  |true=>
   rw[cond_true,ih,aA];constructor
   ·exact fun h=>⟨.inr h.1,h.2⟩
   ·rintro⟨h|h,h2⟩
    ·subst h;rw[hk]at h2;cases h2
    ·exact⟨h,h2⟩
  |false=>
   rw[cond_false,aA,ih,aA];constructor
   ·rintro(h|h)
    ·subst h;exact⟨.inl rfl,hk⟩
    ·exact⟨.inr h.1,h.2⟩
   ·rintro⟨h|h,h2⟩
    ·exact .inl h
    ·exact .inr ⟨h,h2⟩
theorem LA{listed:Array Bool}{i:Nat}(h:i∈Region.ready .any ops listed):∃o,ops[i]? =some o:=by
 obtain⟨_,o,ho,_⟩:=mem_ready.1 h;exact⟨o,ho⟩
theorem Kb{ms:List DM}:∀(f:Nat) (L:pF) (listed:Array Bool) (a:Act) (w:World),My ms ro n P ops Q f L listed a w→wpAnyIn (FW ro) n P .any ops Q f listed a w
 |0,_,_,_,_,h=>h
 |f+1,L,listed,a,w,h=>⟨h.1,fun i hi=>by
  obtain⟨o,ho⟩:=LA hi
  exact wpOpIn_mono (fun a' w' h'=>Kb f _ _ a' w' h'.2) (h.2 i hi o ho)⟩
theorem ue{ms:List DM}:∀(f:Nat) (L L':pF) (listed:Array Bool) (a:Act) (w:World),(∀x∈L',x∈L∨∀h,x.2 h)→My ms ro n P ops Q f L listed a w→My ms ro n P ops Q f L' listed a w
 |0,_,_,_,_,_,_,h=>h
 |f+1,L,L',listed,a,w,hs,h=>⟨h.1,fun i hi o ho=>by
  have hsub:∀x∈rel ms i L',x∈rel ms i L∨∀h,x.2 h:=fun x hx=>(hs x (lJ.1 hx).1).imp (fun h=>lJ.2 ⟨h,(lJ.1 hx).2⟩) id
  exact wpOpIn_mono (fun a' w' h'=>⟨fun x hx=>(hsub x hx).elim (h'.1 x) fun h=>h _,ue f _ _ _ a' w' hsub h'.2⟩) (h.2 i hi o ho)⟩
def YG(P:Program)(ops:Array Oper)(S:ad→Prop)(o:Oper)(v:Value)(a:Act):Prop:=
 (Region.wanted o (yielded ops a.tmps)=true∧∀w:World,S w.heap→(execOp a.eval o).run P w=.ok (.value v) w)∨
 (Region.wanted o (yielded ops a.tmps)=false∧v=undef)
theorem YG.wpOp{S:ad→Prop}{i:Nat}{o:Oper}{v:Value}{a:Act}(hi:ops[i]? =some o) (hd:∀c,o.op≠ .defer c) (hy:YG P ops S o v a) {K:Act→World→Prop} {w:World} (hS:S w.heap)
  (h:K (a.put o.dst v) w):wpOpIn (FW ro) n P ops Q i K a w:=by
 unfold wpOpIn;simp only[hi];rcases hy with⟨hw,hv⟩|⟨hw,rfl⟩
 ·simp only[hw,if_true]
  refine⟨fun _ _=>trivial,?_⟩
  rw[Oper.semAt_eq _ _ _ hd,hv w hS];exact h
 ·simp only[hw,Bool.false_eq_true,if_false];exact⟨fun _ _=>trivial,h⟩
theorem YG.of_same{S:ad→Prop}{o:Oper}{v:Value}{a a':Act}(hy:YG P ops S o v a)(he:execOp a'.eval o=execOp a.eval o)
  (hw:Region.wanted o (yielded ops a'.tmps)=Region.wanted o (yielded ops a.tmps)):YG P ops S o v a':=by
 unfold YG at*;rw[he,hw];exact hy
theorem HM{S:ad→Prop}{j:Nat}{oi oj:Oper}{v:Value}(hj:ops[j]? =some oj)
  (hap:(∀d,oi.dst=some d→d∉oj.looksAt ops)∧(∀d,oi.dst=some d→oj.dst≠some d)∧(∀d,oj.dst=some d→d∉oi.looksAt ops))
  (hsi:∀cs b,oi.op≠ .select cs b) (hsj:∀cs b,oj.op≠ .select cs b) (hdj:∀c,oj.op≠ .defer c)
  (hQ:∀e a w,(∀c,e=.panic c→False)∨¬Q e a w) {K:Act→World→Prop} {a:Act} {w:World}
  (hy:YG P ops S oi v a) (h:wpOpIn (FW ro) n P ops Q j K (a.put oi.dst v) w):
  wpOpIn (FW ro) n P ops Q j (fun a' w'=>YG P ops S oi v a'∧K (a'.put oi.dst v) w') a w:=by
 obtain⟨h1,h2,h3⟩:=hap;have hnp:∀c a w,¬Q (.panic c) a w:=fun c a w hq=>(hQ (.panic c) a w).elim (fun h=>h c rfl) fun h=>h hq
 have keep:∀(a:Act),YG P ops S oi v a→∀u,YG P ops S oi v (a.put oj.dst u):=fun a hy u=>
  hy.of_same (execOp_put oi hsi a oj.dst u h3) (wanted_put oi a oj.dst u h3)
 unfold wpOpIn at*;simp only[hj]at*;rw[wanted_put oj a oi.dst v h1]at h;split
 ·rename_i hw
  simp only[hw,if_true]at h;refine⟨fun _ _=>trivial,?_⟩
  have h:=h.2;rw[Oper.semAt_eq _ _ _ hdj,execOp_put oj hsj a oi.dst v h1]at h;rw[Oper.semAt_eq _ _ _ hdj];generalize (execOp a.eval oj).run P w=r at*;cases r with
  |ok x w'=>
   cases x<;>simp only[Oper.uponIn]at h⊢
   case value u=>exact⟨keep a hy u,by rw[←Act.put_comm a v u h2];exact h⟩
   case skip=>exact⟨keep a hy _,by rw[←Act.put_comm a v undef h2];exact h⟩
   case defer d=>
    refine⟨(hy.of_same (a':={a with defers:=d::a.defers}) rfl rfl).of_same (execOp_put oi hsi _ oj.dst undef h3) (wanted_put oi _ oj.dst undef h3),?_⟩;rw[←Act.put_comm _ v undef h2,←Act.put_defers];exact h
   case enter f args=>
    refine⟨h.1,CallsIn.mono h.2 fun e w'' he=>?_⟩
    cases e with
    |returned u=>exact⟨keep a hy u,by rw[←Act.put_comm a v u h2];exact he⟩
    |panicked c=>exact(hnp _ _ _ he).elim
    |outgrown=>exact he
   case row row args=>exact⟨h.1,RowsIn.mono h.2 fun u w'' he=>⟨keep a hy u,by rw[←Act.put_comm a v u h2];exact he⟩⟩
   case round l f tmps assign body=>
    refine⟨h.1,RoundIn.mono h.2 fun e w'' he=>?_⟩
    cases e with
    |returned u=>exact⟨keep a hy u,by rw[←Act.put_comm a v u h2];exact he⟩
    |panicked c=>exact(hnp _ _ _ he).elim
    |outgrown=>exact he
  |halt x w'=>
   cases x<;>simp only[Oper.uponIn]at h⊢
   case panic u=>exact(hnp _ _ _ h).elim
 ·rename_i hw
  simp only[hw]at h;exact⟨fun _ _=>trivial,keep a hy _,by rw[←Act.put_comm a v undef h2];exact h.2⟩
theorem K4{ms:List DM}(hm:MsOk ops ms){i:Nat}{o:Oper}(ho:ops[i]? =some o) (k:Nat):(Fz ms i).testBit k=i4 o k:=by
 have hi:i<ms.length:=by rw[hm.len];exact(cF.1 ho).1
 unfold Fz;rw[af hi];exact hm.am i o _ ho (af hi) k
theorem Gn{ms:List DM}(hm:MsOk ops ms){listed:Array Bool}{j:Nat}(hj:j∈Region.ready .any ops listed)(k:Nat)(hk:(Fz ms j).testBit k=true):listed.getD k false=true:=by
 obtain⟨_,o,ho,hall⟩:=mem_ready.1 hj;rw[K4 hm ho]at hk;unfold i4 at hk;obtain⟨e,he,hb⟩:=dy.1 hk;simp only[bD]at hb;have:=hall e (by simpa using he) hb.2;rw[aU hb.1]at this;exact this
theorem GU{listed:Array Bool}{j k:Nat}(h:listed.getD k false=true):(listed.setIfInBounds j true).getD k false=true:=by
 by_cases e:j=k
 ·subst e
  rw[df]at h⊢;rcases bN j listed.size with h'|h'
  ·simp[h']
  ·simp[j4 h']at h
 ·rw[df,eM e,←df]
  exact h
theorem Shut.put{ms:List DM}(hm:MsOk ops ms){listed:Array Bool}(hs:Shut ms listed){j:Nat}(hj:j∈Region.ready .any ops listed):Shut ms (listed.setIfInBounds j true):=by
 intro i x hx hl k hk;by_cases e:j=i
 ·subst e
  refine GU (Gn hm hj k ?_);unfold Fz;rw[hx];exact hk
 ·rw[df,eM e,←df]at hl
  exact GU (hs i x hx hl k hk)
theorem A2{ms:List DM}(hm:MsOk ops ms){S:ad→Prop}{i:Nat}{oi:Oper}{v:Value}(hi:ops[i]? =some oi) (hsel:∀(j:Nat) (o:Oper),ops[j]? =some o→(∀cs b,o.op≠ .select cs b)∧(∀c,o.op≠ .defer c))
  (hQ:∀e a w,(∀c,e=.panic c→False)∨¬Q e a w):
  ∀(fuel:Nat) (L:pF) (listed:Array Bool) (a:Act) (w:World),
   (∀j oj,ops[j]? =some oj→j≠i→listed.getD j true=false→i4 oj i=false→
    (∀d,oi.dst=some d→d∉oj.looksAt ops)∧(∀d,oi.dst=some d→oj.dst≠some d)∧(∀d,oj.dst=some d→d∉oi.looksAt ops))→
   Shut ms listed→i∈Region.ready .any ops listed→YG P ops S oi v a→S w.heap→(∀x∈L,x.2 w.heap)→
   My ms ro n P ops Q fuel ((i,S)::L) (listed.setIfInBounds i true) (a.put oi.dst v) w→My ms ro n P ops Q (fuel+1) L listed a w:=by
 intro fuel;induction fuel with
 |zero=>
  intro L listed a w _ _ hr hy hS hL H;refine⟨fun h=>(by rw[h]at hr;cases hr),fun j hj oj hoj=>?_⟩
  by_cases hji:j=i
  ·subst hji
   rw[hi]at hoj;cases hoj;exact hy.wpOp hi (hsel _ _ hi).2 hS ⟨fun x hx=>hL x (lJ.1 hx).1,H⟩
  ·have:=ready_mono hj hji
   rw[H.1]at this;cases this
 |succ fuel ih=>
  intro L listed a w hfree hsh hr hy hS hL H;refine⟨fun h=>(by rw[h]at hr;cases hr),fun j hj oj hoj=>?_⟩
  by_cases hji:j=i
  ·subst hji
   rw[hi]at hoj;cases hoj;exact hy.wpOp hi (hsel _ _ hi).2 hS ⟨fun x hx=>hL x (lJ.1 hx).1,ue _ _ _ _ _ _ (fun x hx=>.inl (aL _ (lJ.1 hx).1)) H⟩
  ·have h1:=H.2 j (ready_mono hj hji) oj hoj
   obtain⟨hjun,oj',hoj',hall⟩:=mem_ready.1 hj;rw[hoj]at hoj';cases hoj';have hnot:i4 oj i=false:=by
    cases hb:i4 oj i with
    |false=>rfl
    |true=>
     unfold i4 at hb;obtain⟨e,he,hb⟩:=dy.1 hb;simp only[bD]at hb;have h1:=hall e (by simpa using he) hb.2;rw[aU hb.1]at h1;have h0:=(mem_ready.1 hr).1;rcases bN i listed.size with h'|h'
     ·simp[h']at h0 h1;rw[h0]at h1;cases h1
     ·simp[j4 h']at h1
   have hnotT:tb (xY ms (Fz ms j)) i=false:=by
    cases hb:tb (xY ms (Fz ms j)) i with
    |false=>rfl
    |true=>
     rw[zD]at hb;have h1:=L0 hsh (Gn hm hj) hb;have h0:=(mem_ready.1 hr).1;rcases bN i listed.size with h'|h'
     ·simp[h']at h0 h1;rw[h0]at h1;cases h1
     ·simp[j4 h']at h1
   have hrel:rel ms j ((i,S)::L)=(i,S)::rel ms j L:=by simp only[rel,xC,hnotT,cond_false]
   rw[hrel]at h1;have h2:=HM hoj (hfree j oj hoj hji hjun hnot) (hsel _ _ hi).1 (hsel _ _ hoj).1 (hsel _ _ hoj).2 hQ hy h1;have hfree':∀k ok,ops[k]? =some ok→k≠i→(listed.setIfInBounds j true).getD k true=false→i4 ok i=false→
     (∀d,oi.dst=some d→d∉ok.looksAt ops)∧(∀d,oi.dst=some d→ok.dst≠some d)∧(∀d,ok.dst=some d→d∉oi.looksAt ops):=fun k ok hk hki hun hno=>by
    refine hfree k ok hk hki ?_ hno;by_cases hjk:j=k
    ·subst hjk;exact hjun
    ·rw[getD_set_ne true hjk]at hun;exact hun
   refine wpOpIn_mono (fun a' w' h3=>⟨fun x hx=>h3.2.1 x (aL _ hx),ih (rel ms j L) (listed.setIfInBounds j true) a' w' hfree' (hsh.put hm hj) (ready_mono hr (Ne.symm hji)) h3.1 (h3.2.1 _ (ar ..)) (fun x hx=>h3.2.1 x (aL _ hx)) ?_⟩) h2
   rw[Array.setIfInBounds_comm _ _ hji];exact h3.2.2
theorem sS{h:ad}{R:Prop}:∀{L:pF},rY L h R↔(∀x∈L,x.2 h)∧R
 | []=>by simp[rY]
 |(k,S)::L=>by
  simp only[rY,sS (L:=L),aA,forall_eq_or_imp,and_assoc]
theorem Mx{ms:List DM}{f:Nat}{L:pF}{listed:Array Bool}{a:Act}{w:World}(hr:Region.ready .any ops listed= [])(h:Q .normal a w):My ms ro n P ops Q f L listed a w:=by
 cases f with
 |zero=>exact⟨hr,h⟩
 |succ f=>exact⟨fun _=>h,by rw[hr];simp⟩
def left(ops:Array Oper)(ls:Nat):Nat:=((List.range ops.size).filter fun j=> !ls.testBit j).length
theorem xL{ls i:Nat}(hi:i<ops.size)(h0:ls.testBit i=false):left ops (cT ls (gt i))+1=left ops ls:=by
 have key:∀l:List Nat,l.Nodup→i∈l→(l.filter fun j=> !(cT ls (gt i)).testBit j).length+1=(l.filter fun j=> !ls.testBit j).length:=by
  intro l;induction l with
  |nil=>intro _ h;cases h
  |cons x l ih=>
   intro hn hm;rw[List.nodup_cons]at hn;by_cases hx:x=i
   ·subst hx
    have hrest:(l.filter fun j=> !(cT ls (gt x)).testBit j)=l.filter fun j=> !ls.testBit j:=by
     apply List.filter_congr;intro y hy;have:x≠y:=fun e=>hn.1 (e▸hy)
     rw[m0,wU,decide_eq_false this,Bool.or_false]
    have h1:(cT ls (gt x)).testBit x=true:=by rw[m0,wU];simp
    rw[cG,cG,h1,h0,hrest];rfl
   ·have hm':i∈l:=by rcases aA.1 hm with h|h;exact absurd h.symm hx;exact h
    have h1:(cT ls (gt i)).testBit x=ls.testBit x:=by rw[m0,wU,decide_eq_false (Ne.symm hx),Bool.or_false]
    have:=ih hn.2 hm';rw[cG,cG,h1];cases ls.testBit x with
    |true=>exact this
    |false=>exact congrArg (· +1) this
 exact key _ List.nodup_range (List.mem_range.2 hi)
theorem LS{N:Nat}{opl:List Oper}{ms:List DM}{ls:Nat}{L:pF}{d:sG}{K:cH→ad→Prop}{r:cH}{hp:ad}:∀{l:DA},mo P N opl ms l true ls L d K r hp→∃i,i∈y4 l
 | .done,h=>h.elim
 | .take i rest,h=>by
  exfalso;have hc:mo P N opl ms (.take i rest) true ls L d K r hp=(match opl[i]?,ms[i]? with|some _,some _=>False|_,_=>False):=rfl
  rw[hc]at h;split at h<;>exact h
 | .all _,h=>h.elim
 | .pick i _ _,_=>⟨i,ar ..⟩
 | .last i _,_=>⟨i,ar ..⟩
 | .lastT i _,_=>⟨i,ar ..⟩
 | .split ..,h=>h.elim
def JQ(ro:Option Nat)(n:Nat)(P:Program)(ops:Array Oper)(Q:Exit→Act→World→Prop)(N:Nat)(ms:List DM)(W:Nat→Prop)(a0:Act)(w0:World)(K:cH→ad→Prop)(da:DA):Prop:=
 ∀(m:Bool) (ls:Nat) (L:pF) (d:sG) (r:cH) (a:Act) (w:World) (listed:Array Bool) (fuel:Nat),
  mo P N ops.toList ms da m ls L d K r w.heap→Agree N r a→DecOk d r→Fr W a0 w0 a w→LsRel ops ls listed→Shut ms listed→(∀x∈L,x.2 w.heap)→
  (m=false→left ops ls≤fuel→My ms ro n P ops Q fuel L listed a w)∧
  (m=true→left ops ls≤fuel+1→∀i∈y4 da,i∈li ls ms 0→∀o,ops[i]? =some o→
   wpOpIn (FW ro) n P ops Q i (fun a' w'=>(∀x∈rel ms i L,x.2 w'.heap)∧My ms ro n P ops Q fuel (rel ms i L) (listed.setIfInBounds i true) a' w') a w)
theorem Gi{N:Nat}{ms:List DM}(hm:MsOk ops ms){W:Nat→Prop}(hW:∀o∈ops.toList,∀d,o.dst=some d→W d){a0:Act}{w0:World}{K:cH→ad→Prop}
  (hQ:∀r a w,Agree N r a→Fr W a0 w0 a w→K r w.heap→Q .normal a w)(hnp:∀e a w,(∀c,e=.panic c→False)∨¬Q e a w)(da:DA):
  JQ ro n P ops Q N ms W a0 w0 K da:=by
 have one:∀(i:Nat) (rest:DA)
   (_:JQ ro n P ops Q N ms W a0 w0 K rest)
   (ls:Nat) (L:pF) (d:sG) (r:cH) (a:Act) (w:World) (listed:Array Bool) (fuel:Nat),
   Lw P N ops.toList i L d r w.heap (fun L' d' r' h'=>mo P N ops.toList ms rest false (cT ls (gt i)) L' d' K r' h')→Agree N r a→DecOk d r→Fr W a0 w0 a w→LsRel ops ls listed→Shut ms listed→
   left ops ls≤fuel+1→i∈li ls ms 0→∀o,ops[i]? =some o→
    wpOpIn (FW ro) n P ops Q i (fun a' w'=>(∀x∈rel ms i L,x.2 w'.heap)∧My ms ro n P ops Q fuel (rel ms i L) (listed.setIfInBounds i true) a' w') a w:=by
  intro i rest ih ls L d r a w listed fuel hs ha hd hf hl hsh hfu hr o ho;have hio:i<ops.size:=(cF.1 ho).1;obtain⟨k,mm,hk,hki,hbit,_⟩:=(qg ls ms 0 i).1 hr;unfold Lw at hs;rw[bM,ho]at hs;simp only at hs;cases hw:iG ops.toList d o with
  |none=>rw[hw]at hs;exact hs.elim
  |some b=>
   rw[hw]at hs;cases b with
   |false=>exact hs.elim
   |true=>
    simp only at hs;cases hq:tP P o.op with
    |true=>rw[hq]at hs;exact hs.elim
    |false=>
     rw[hq,cond_false]at hs;unfold wpOpIn;rw[ho];simp only[oO hw ha hd,if_true];refine qJ (uh hs) (yH ha hs) ?_;intro v w' ht hK;obtain⟨r',hr',ha',hd'⟩:=tw (dv:=.x) hK ha hd trivial;obtain⟨hh,hs'⟩:=sS.1 hr';have hmem:o∈ops.toList:=jg (by rw[bM];exact ho);have hleft:=xL hio hbit;have hsubR:∀x∈rel ms i L,x∈qM o L:=fun x hx=>zK.2 ⟨(lJ.1 hx).1,by
      cases hb:i4 o x.1 with
      |false=>rfl
      |true=>
        have:=(lJ.1 hx).2
        rw[zD,LZ (by rw[K4 hm ho];exact hb)]at this;cases this⟩
     exact⟨fun x hx=>hh x (hsubR x hx),ue _ _ _ _ _ _ (fun x hx=>.inl (hsubR x hx)) ((ih false _ _ _ r' _ w' _ fuel hs' ha' hd' (hf.put (hW o hmem) v ht) (hl.put hio) (hsh.put hm ((ny hm hl).2 hr)) hh).1 rfl (by omega))⟩
 have oneT:∀(i:Nat) (rest:DA)
   (_:JQ ro n P ops Q N ms W a0 w0 K rest)
   (ls:Nat) (L:pF) (d:sG) (r:cH) (a:Act) (w:World) (listed:Array Bool) (fuel:Nat),
   Km P N ops.toList ms i L d r w.heap (fun L' d' r' h'=>mo P N ops.toList ms rest false (cT ls (gt i)) L' d' K r' h')→Agree N r a→DecOk d r→Fr W a0 w0 a w→LsRel ops ls listed→Shut ms listed→
   left ops ls≤fuel+1→i∈li ls ms 0→∀o,ops[i]? =some o→
    wpOpIn (FW ro) n P ops Q i (fun a' w'=>(∀x∈rel ms i L,x.2 w'.heap)∧My ms ro n P ops Q fuel (rel ms i L) (listed.setIfInBounds i true) a' w') a w:=by
  intro i rest ih ls L d r a w listed fuel hs ha hd hf hl hsh hfu hr o ho;have hio:i<ops.size:=(cF.1 ho).1;obtain⟨k,mm,hk,hki,hbit,_⟩:=(qg ls ms 0 i).1 hr;unfold Km at hs;rw[bM,ho]at hs;simp only at hs;cases hw:iG ops.toList d o with
  |none=>rw[hw]at hs;exact hs.elim
  |some b=>
   rw[hw]at hs;cases b with
   |false=>exact hs.elim
   |true=>
    simp only at hs;cases hq:tP P o.op with
    |true=>rw[hq]at hs;exact hs.elim
    |false=>
     rw[hq,cond_false]at hs;unfold wpOpIn;rw[ho];simp only[oO hw ha hd,if_true];refine qJ (uh hs) (yH ha hs) ?_;intro v w' ht hK;obtain⟨r',hr',ha',hd'⟩:=tw (dv:=.x) hK ha hd trivial;obtain⟨hh,hs'⟩:=sS.1 hr';have hmem:o∈ops.toList:=jg (by rw[bM];exact ho);have hleft:=xL hio hbit;exact⟨hh,(ih false _ _ _ r' _ w' _ fuel hs' ha' hd' (hf.put (hW o hmem) v ht) (hl.put hio) (hsh.put hm ((ny hm hl).2 hr)) hh).1 rfl (by omega)⟩
 induction da with
 |done=>
  intro m ls L d r a w listed fuel hs ha hd hf hl hsh hL;cases m with
  |true=>exact hs.elim
  |false=>
   refine⟨fun _ _=>?_,fun h=>by cases h⟩
   have hc:mo P N ops.toList ms .done false ls L d K r w.heap=bif sQ (li ls ms 0) []then K r w.heap else False:=rfl;rw[hc]at hs;cases hb:sQ (li ls ms 0) []with
   |false=>rw[hb]at hs;exact hs.elim
   |true=>
    rw[hb]at hs;have hnil:Region.ready .any ops listed= []:=by
     apply List.eq_nil_iff_forall_not_mem.2;intro j hj;rw[ny hm hl,vh hb]at hj;cases hj
    exact Mx hnil (hQ r a w ha hf hs)
 |take i rest ih=>
  intro m ls L d r a w listed fuel hs ha hd hf hl hsh hL;cases m with
  |true=>
   exfalso;have hc:mo P N ops.toList ms (.take i rest) true ls L d K r w.heap=(match ops.toList[i]?,ms[i]? with|some _,some _=>False|_,_=>False):=rfl
   rw[hc]at hs;split at hs<;>exact hs
  |false=>
   refine⟨fun _ hfu=>?_,fun h=>by cases h⟩
   have hc:mo P N ops.toList ms (.take i rest) false ls L d K r w.heap=(match ops.toList[i]?,ms[i]? with
    |some o,some mi=>bif Be mi i ls ops.toList.length then
      (match iG ops.toList d o with
       |none=>False
       |some false=>xV N o undef r fun r'=>mo P N ops.toList ms rest false (cT ls (gt i)) L (ql d o .u) K r' w.heap
       |some true=>bif tP P o.op then
          yT P none o.op r (fun v S=>xV N o v r fun r'=>match S with
            |none=>mo P N ops.toList ms rest false (cT ls (gt i)) L (ql d o (F0 d o.op)) K r' w.heap
            |some S=>mo P N ops.toList ms rest false (cT ls (gt i)) ((i,S)::L) (ql d o (F0 d o.op)) K r' w.heap) w.heap
          else False)
     else False
    |_,_=>False):=rfl
   rw[hc]at hs;split at hs
   ·rename_i o mi ho hmi
    rw[bM]at ho;cases htk:Be mi i ls ops.toList.length with
    |false=>rw[htk]at hs;exact hs.elim
    |true=>
     rw[htk,cond_true]at hs;unfold Be at htk;simp only[bD,od,zD]at htk;obtain⟨⟨hun,hrd⟩,hfr⟩:=htk;have hio:i<ops.size:=(cF.1 ho).1;have hready:i∈Region.ready .any ops listed:=(DJ hm hl).2 ⟨mi,hmi,hun,hrd⟩;have hleft:=xL (ops:=ops) hio hun;obtain⟨f',rfl⟩:∃f',fuel=f'+1:=⟨fuel-1,by omega⟩
     have hmem:o∈ops.toList:=jg (by rw[bM];exact ho);have hcov:∀j,j<ops.size→ls.testBit j=true∨mi.fr.testBit j=true:=by
      intro j hj;have h0:=aU hfr;have hpb:(uX (gt ops.toList.length)).testBit j=true:=by
        have:uX (gt ops.toList.length)=2^ops.toList.length-1:=rfl;rw[this,Nat.testBit_two_pow_sub_one];simpa using hj
      have hand:(je (cT ls mi.fr) (uX (gt ops.toList.length))).testBit j=((cT ls mi.fr).testBit j&&(uX (gt ops.toList.length)).testBit j):=gY _ _ j;rw[h0,hpb,Bool.and_true,m0]at hand;exact(Bool.or_eq_true_iff).1 hand.symm
     have hfree:∀j oj,ops[j]? =some oj→j≠i→listed.getD j true=false→i4 oj i=false→
        (∀d,o.dst=some d→d∉oj.looksAt ops)∧(∀d,o.dst=some d→oj.dst≠some d)∧(∀d,oj.dst=some d→d∉o.looksAt ops):=by
      intro j oj hoj hne hju hna;have hj:j<ops.size:=(cF.1 hoj).1;rw[hl.unlisted hj]at hju;have hjm:j<ms.length:=by rw[hm.len];exact hj
      have hmj:=af hjm;rcases hcov j hj with h|h
      · rw[h]at hju;cases hju
      · rcases hm.free i j mi _ hmi hmj h with h|h|h
        ·exact absurd h hne
        ·rw[hm.am j oj _ hoj hmj,hna]at h;cases h
        ·exact NY hm ho hoj hmi hmj h
     cases hw:iG ops.toList d o with
     |none=>rw[hw]at hs;exact hs.elim
     |some b=>
      rw[hw]at hs;have hwd:=oO hw ha hd;cases b with
      |false=>
        obtain⟨r',hr',ha',hd'⟩:=tw (dv:=.u) hs ha hd rfl;have hy:YG P ops (fun _=>True) o undef a:=.inr ⟨hwd,rfl⟩
        refine A2 hm ho hm.nosel hnp f' L listed a w hfree hsh hready hy trivial hL ?_;refine ue _ L _ _ _ _ (fun x hx=>(aA.1 hx).elim (fun e=>.inr fun h=>by rw[e];trivial) .inl) ?_
        exact(ih false _ _ _ r' _ w _ f' hr' ha' hd' (hf.put (hW o hmem) undef (Tame.refl w)) (hl.put hio) (hsh.put hm hready) hL).1 rfl (by omega)
      |true=>
        simp only at hs;cases hq:tP P o.op with
        |false=>rw[hq]at hs;exact hs.elim
        |true=>
         rw[hq,cond_true]at hs;obtain⟨v,S,hK,hS,hdv,hrun⟩:=DN ha hs d hd;obtain⟨r',hr',ha',hd'⟩:=tw hK ha hd hdv;have hfr':=hf.put (hW o hmem) v (Tame.refl w);cases S with
         |none=>
           have hy:YG P ops (fun _=>True) o v a:=.inl ⟨hwd,fun w _=>hrun w trivial⟩
           refine A2 hm ho hm.nosel hnp f' L listed a w hfree hsh hready hy trivial hL ?_;refine ue _ L _ _ _ _ (fun x hx=>(aA.1 hx).elim (fun e=>.inr fun h=>by rw[e];trivial) .inl) ?_
           exact(ih false _ _ _ r' _ w _ f' hr' ha' hd' hfr' (hl.put hio) (hsh.put hm hready) hL).1 rfl (by omega)
         |some S=>
           have hy:YG P ops S o v a:=.inl ⟨hwd,fun w h=>hrun w h⟩
           refine A2 hm ho hm.nosel hnp f' L listed a w hfree hsh hready hy hS hL ?_;exact(ih false _ _ _ r' _ w _ f' hr' ha' hd' hfr' (hl.put hio) (hsh.put hm hready) (fun x hx=>(aA.1 hx).elim (fun e=>by rw[e];exact hS) (hL x))).1 rfl (by omega)
   ·exact hs.elim
 |all l ih=>
  intro m ls L d r a w listed fuel hs ha hd hf hl hsh hL;cases m with
  |true=>exact hs.elim
  |false=>
   refine⟨fun _ hfu=>?_,fun h=>by cases h⟩
   have hc:mo P N ops.toList ms (.all l) false ls L d K r w.heap=bif sQ (li ls ms 0) (y4 l)then mo P N ops.toList ms l true ls L d K r w.heap else False:=rfl;rw[hc]at hs;cases hb:sQ (li ls ms 0) (y4 l)with
   |false=>rw[hb]at hs;exact hs.elim
   |true=>
    rw[hb,cond_true]at hs;obtain⟨i,hi⟩:=LS hs;rw[←vh hb]at hi;have hrd:=(ny hm hl (j:=i)).2 hi;obtain⟨k,mm,hk,hki,hbit,_⟩:=(qg ls ms 0 i).1 hi;have hio:i<ops.size:=by
     have:=(bl.1 hk).1;rw[hm.len]at this;omega
    have hleft:=xL (ops:=ops) hio hbit;obtain⟨f',rfl⟩:∃f',fuel=f'+1:=⟨fuel-1,by omega⟩
    refine⟨fun h=>(by rw[h]at hrd;cases hrd),fun j hj o ho=>?_⟩
    have hj':=(ny hm hl).1 hj;exact(ih true ls L d r a w listed f' hs ha hd hf hl hsh hL).2 rfl hfu j (by rw[←vh hb];exact hj') hj' o ho
 |pick i rest more ih1 ih2=>
  intro m ls L d r a w listed fuel hs ha hd hf hl hsh hL;cases m with
  |false=>exact hs.elim
  |true=>
   refine⟨fun h=>(by cases h),fun _ hfu j hj hjr o ho=>?_⟩
   have hs:Lw P N ops.toList i L d r w.heap (fun L' d' r' h'=>mo P N ops.toList ms rest false (cT ls (gt i)) L' d' K r' h')∧mo P N ops.toList ms more true ls L d K r w.heap:=hs
   rcases aA.1 hj with rfl|hj
   ·exact one _ rest ih1 ls L d r a w listed fuel hs.1 ha hd hf hl hsh hfu hjr o ho
   ·exact(ih2 true ls L d r a w listed fuel hs.2 ha hd hf hl hsh hL).2 rfl hfu j hj hjr o ho
 |last i rest ih=>
  intro m ls L d r a w listed fuel hs ha hd hf hl hsh hL;cases m with
  |false=>exact hs.elim
  |true=>
   refine⟨fun h=>(by cases h),fun _ hfu j hj hjr o ho=>?_⟩
   have hs:Lw P N ops.toList i L d r w.heap (fun L' d' r' h'=>mo P N ops.toList ms rest false (cT ls (gt i)) L' d' K r' h'):=hs
   have hji:j=i:=aB.1 hj;subst hji;exact one _ rest ih ls L d r a w listed fuel hs ha hd hf hl hsh hfu hjr o ho
 |lastT i rest ih=>
  intro m ls L d r a w listed fuel hs ha hd hf hl hsh hL;cases m with
  |false=>exact hs.elim
  |true=>
   refine⟨fun h=>(by cases h),fun _ hfu j hj hjr o ho=>?_⟩
   have hs:Km P N ops.toList ms i L d r w.heap (fun L' d' r' h'=>mo P N ops.toList ms rest false (cT ls (gt i)) L' d' K r' h'):=hs
   have hji:j=i:=aB.1 hj;subst hji;exact oneT _ rest ih ls L d r a w listed fuel hs ha hd hf hl hsh hfu hjr o ho
 |split t yes no ih1 ih2=>
  intro m ls L d r a w listed fuel hs ha hd hf hl hsh hL;cases m with
  |true=>exact hs.elim
  |false=>
   refine⟨fun _ hfu=>?_,fun h=>by cases h⟩
   have hc:mo P N ops.toList ms (.split t yes no) false ls L d K r w.heap=(match jM r t with
    |some (.bool b)=>CondP b (mo P N ops.toList ms yes false ls L ((t,.t)::d) K ((t,.bool true)::r) w.heap) (mo P N ops.toList ms no false ls L ((t,.f)::d) K ((t,.bool false)::r) w.heap)
    |_=>False):=rfl
   rw[hc]at hs;split at hs
   ·rename_i b hlk
    cases b with
    |true=>exact(ih1 false ls L _ _ a w listed fuel (hs.yes rfl) (ha.known hlk) (hd.known rfl) hf hl hsh hL).1 rfl hfu
    |false=>exact(ih2 false ls L _ _ a w listed fuel (hs.no rfl) (ha.known hlk) (hd.known rfl) hf hl hsh hL).1 rfl hfu
   ·exact hs.elim
end Go.Lift
namespace Go.Lift
open Go
variable {P:Program} {ro:Option Nat} {n:Nat}
theorem D5{r:cH}:∀{l:List Nat} {r0:cH},KH r l=some r0→∀t v,jM r0 t=some v→t∈l∧jM r t=some v
 | [],r0,h,t,v,hv=>by cases h;cases hv
 |s::l,r0,h,t,v,hv=>by
  have h:(match jM r s,KH r l with|some v,some l=>some ((s,v)::l)|_,_=>none)=some r0:=h
  split at h
  ·rename_i u l' hu hl
   cases h;by_cases e:s=t
   ·subst e;rw[hJ]at hv;cases hv;exact⟨ar ..,hu⟩
   ·rw[gv u _ e]at hv
    have:=D5 hl t v hv;exact⟨aL _ this.1,this.2⟩
  ·cases h
theorem yW{m:Nat}{t:Nat}{v:Value}:∀{r:cH},jM (uv m r) t=some v→m.testBit t=false∧jM r t=some v
 | [],h=>by cases h
 |(k,u)::r,h=>by
  have h:jM (bif tb m k then uv m r else(k,u)::uv m r) t=some v:=h;cases hk:tb m k with
  |true=>
   rw[hk]at h;have:=yW h;by_cases e:k=t
   ·subst e;rw[zD,this.1]at hk;cases hk
   ·rw[gv u _ e];exact this
  |false=>
   rw[hk]at h;have h:jM ((k,u)::uv m r) t=some v:=h;by_cases e:k=t
   ·subst e;rw[hJ]at h⊢;rw[zD]at hk;exact⟨hk,h⟩
   ·rw[gv u _ e]at h⊢;exact yW h
theorem yG{t:Nat}:∀{l:List Oper},(MA l).testBit t=false→¬kW t l=true
 | [],_,h=>by cases h
 |o::l,hm,h=>by
  have hm:(cT (mK o) (MA l)).testBit t=false:=hm;rw[m0,lG]at hm;have h:(match o.dst with|some d=>bif bJ d t then true else kW t l|none=>kW t l)=true:=h
  cases hd:o.dst with
  |none=>rw[hd]at h;exact yG hm.2 h
  |some d=>
   rw[hd]at h;cases e:bJ d t with
   |true=>have:=(uJ o t).2 (by rw[hd,aU e]);rw[hm.1]at this;cases this
   |false=>simp only[e]at h;exact yG hm.2 h
theorem GE{a b:Option Nat}{m:Nat}(h:QZ a b=some m):∃x y,a=some x∧b=some y∧m=cT x y:=by
 cases a<;>cases b<;>cases h
 exact⟨_,_,rfl,rfl,rfl⟩
theorem Mz{t:Nat}(c:Code):∀{m:Nat},vG c=some m→m.testBit t=false→¬ga t c=true:=by
 induction c with
 |skip=>intro m _ _ h;cases h
 |region id ops dr=>intro m h hm hw;cases h;exact yG hm hw
 |seq a b iha ihb=>
  intro m h hm hw;obtain⟨x,y,hx,hy,rfl⟩:=GE (show QZ (vG a) (vG b)=some m from h)
  rw[m0,lG]at hm;have hw:(bif ga t a then true else ga t b)=true:=hw;cases ha:ga t a with
  |true=>exact iha hx hm.1 ha
  |false=>rw[ha]at hw;exact ihb hy hm.2 hw
 |cond c a b iha ihb=>
  intro m h hm hw;obtain⟨x,y,hx,hy,rfl⟩:=GE (show QZ (vG a) (vG b)=some m from h)
  rw[m0,lG]at hm;have hw:(bif ga t a then true else ga t b)=true:=hw;cases ha:ga t a with
  |true=>exact iha hx hm.1 ha
  |false=>rw[ha]at hw;exact ihb hy hm.2 hw
 |block id b ih=>exact fun h hm=>ih h hm
 |loop b ih=>exact fun h hm=>ih h hm
 |rangeFunc _ _ _ _ _ _=>intro m h;cases h
 |scope b ih=>exact fun h hm=>ih h hm
 |_=>intro m _ _ h;cases h
theorem Agree.keep{N:Nat}{r r':cH}{a a':Act}{w w':World}{m:Nat}{c:Code}(h:Agree N r a)(hm:vG c=some m)(hf:Fr (fun t=>ga t c=true) a w a' w')(h':Agree N r' a'):Agree N (uv m r) a':=
 ⟨h'.size,fun t v hv=>by
  obtain⟨hb,hr⟩:=yW hv
  rw[hf.same t (Mz c hm hb)];exact h.look t v hr⟩
theorem ui{st:St}{r:cH}{f:cW (wr st)→Prop}(h:zH st r f):∃t,Bi r st=some (mz (wr st) t)∧f t:=by
 unfold zH at h;split at h
 ·rename_i vs hv
  obtain⟨t,rfl,hf⟩:=qk h;exact⟨t,hv,hf⟩
 ·exact h.elim
theorem Agree.zip{N:Nat}{r:cH}{a:Act}(h:Agree N r a):∀{st:St} {vs:List Value} {r0:cH},Bi r st=some vs→Agree N r0 a→Agree N (mH st vs r0) a
 | [],vs,r0,_,h0=>by cases vs<;>exact h0
 |(i,k)::st,vs,r0,hv,h0=>by
  unfold Bi at hv;split at hv
  ·rename_i v vs' h1 h2
   cases hv;have:=Agree.zip h h2 h0;refine⟨this.size,fun t u hu=>?_⟩
   by_cases e:i=t
   ·subst e
    rw[show mH ((i,k)::st) (v::vs') r0=(i,v)::mH st vs' r0 from rfl,hJ]at hu;cases hu
    exact h.look i v h1
   ·rw[show mH ((i,k)::st) (v::vs') r0=(i,v)::mH st vs' r0 from rfl,gv v _ e]at hu
    exact this.look t u hu
  ·cases hv
theorem xq{t:Nat}:∀{l:List Oper} {o:Oper},o∈l→o.dst=some t→kW t l=true
 | [],_,h,_=>by cases h
 |x::l,o,h,hd=>by
  have e:kW t (x::l)=(match x.dst with|some d=>bif bJ d t then true else kW t l|none=>kW t l):=rfl
  rw[e];rcases aA.1 h with rfl|h
  ·rw[hd];simp only;rw[show bJ t t=true from qa t];rfl
  ·have:=xq h hd
   cases x.dst with
   |none=>exact this
   |some d=>
    simp only;cases bJ d t with
    |true=>rfl
    |false=>exact this
def LWP(ro:Option Nat)(n:Nat)(P:Program)(c:Code)(Q:Exit→Act→World→Prop)(a:Act)(w:World):Prop:=
 ∀(b:Frame) (k:List Item) (cs:List Frame),b.roundOf=(FW ro).round→(FW ro).fn b.fn→(FW ro).room (cs.length+1+n)→
  ∃e a' w',Q e a' w'∧ArrivesIn (Machine.fenced P (FW ro)) P (lone (b.atR a (.code c:: .inLoop c::k)) cs w) b k cs e a' w'
theorem LWP.step{c:Code}{Q:Exit→Act→World→Prop}{a:Act}{w:World}(h:c.wpIn (FW ro) n P (Exit.then (LWP ro n P c Q) Q) a w):LWP ro n P c Q a w:=by
 intro b k cs hro hb hr;obtain⟨e,a₁,w₁,hq,harr⟩:=h b (.inLoop c::k) cs hro hb hr;cases e with
 |normal=>
  obtain⟨e₂,a₂,w₂,hq₂,harr₂⟩:=hq b k cs hro hb hr;exact⟨e₂,a₂,w₂,hq₂,.of_steps (StepsIn.trans harr (.one (fenced_calm hb hr rfl) stepR_inLoop)) harr₂⟩
 |exit id=>exact⟨_,a₁,w₁,hq,.pass (x:=.inLoop c) rfl (fun _ _=>.inl (by simp)) harr⟩
 |goto l=>exact⟨_,a₁,w₁,hq,.pass (x:=.inLoop c) rfl (fun _ _=>.inl (by simp)) harr⟩
 |ret=>exact⟨_,a₁,w₁,hq,.pass (x:=.inLoop c) rfl (fun _ _=>.inl (by simp)) harr⟩
 |panic ch=>exact⟨_,a₁,w₁,hq,.pass (x:=.inLoop c) rfl (fun _ _=>.inl (by simp)) harr⟩
 |outgrown=>exact⟨_,a₁,w₁,hq,.pass (x:=.inLoop c) rfl (fun _ _=>.inl (by simp)) harr⟩
theorem LWP.loop{c:Code}{Q:Exit→Act→World→Prop}{a:Act}{w:World}(h:LWP ro n P c Q a w):(Code.loop c).wpIn (FW ro) n P Q a w:=by
 intro b k cs hro hb hr;obtain⟨e,a',w',hq,harr⟩:=h b k cs hro hb hr;exact⟨e,a',w',hq,.of_steps (.one (fenced_calm hb hr rfl) stepR_loop) harr⟩
theorem Ej(r:cH):DecOk [] r:=fun _=>.inl rfl
theorem O5(ops:Array Oper)(ls:Nat):left ops ls≤ops.size:=by
 unfold left;exact Nat.le_trans (List.length_filter_le ..) (by simp)
theorem ld(hmix:P.follows .mixedOrders=true){N id:Nat}{ops:Array Oper}{dr:Bool}{an:Ann}{K:cH→ad→Prop}{r:cH}{a:Act}{w:World}{Q:Exit→Act→World→Prop}
  (hs:yN P N ops.toList dr an K r w.heap)(ha:Agree N r a)(hp:∀c a w,¬Q (.panic c) a w)
  (hn:∀r' a' w',Agree N r' a'→Fr (fun t=>kW t ops.toList=true) a w a' w'→K r' w'.heap→Q .normal a' w'):(Code.region id ops dr).wpIn (FW ro) n P Q a w:=by
 have hW:∀o∈ops.toList,∀d,o.dst=some d→kW d ops.toList=true:=fun o ho d hd=>xq ho hd
 cases dr with
 |false=>
  have key:∀ek,Bo P N ek ops.toList ops.toList [] K r w.heap→(Code.region id ops false).wpIn (FW ro) n P Q a w:=fun ek hs=>by
   refine wpIn_region ?_;rw[List.range_eq_range',show ops.size=ops.toList.length from rfl]
   exact Bm hW hn ops.toList 0 rfl [] r a w hs ha (Ej r) (Fr.refl _ a w)
  unfold yN at hs;simp only at hs;split at hs
  ·exact key _ hs
  ·exact key _ hs
 |true=>
  unfold yN at hs;simp only at hs;generalize Ky ops.toList=ms at hs;cases hm:AO ops.toList ms with
  |false=>rw[hm]at hs;exact hs.elim
  |true=>
   rw[hm,cond_true]at hs;refine wpIn_region_any hmix (Kb (ms:=ms) _ [] _ _ _ ?_);have ht:Tame w {w with drawn:=w.drawn+1}:=⟨rfl,rfl,rfl⟩;have hf:Fr (fun t=>kW t ops.toList=true) a w a {w with drawn:=w.drawn+1}:=⟨ht,rfl,fun _ _=>rfl⟩
   refine(Gi (IH hm) hW hn (fun e a w=>?_) _ false 0 [] [] r a {w with drawn:=w.drawn+1} _ ops.size hs ha (Ej r) hf LsRel.start (fun j x _ h=>by rw[(LsRel.start (ops:=ops)).bit,ip]at h;cases h) (fun x hx=>by cases hx)).1 rfl (O5 ops 0)
   cases e with
   |panic ch=>exact .inr (hp _ a w)
   |_=>exact .inl fun c hc=>by cases hc
theorem AY(t:Nat)(x y:Code):ga t (.seq x y)=(bif ga t x then true else ga t y):=rfl
theorem zB(t:Nat)(c:Operand)(x y:Code):ga t (.cond c x y)=(bif ga t x then true else ga t y):=rfl
theorem Fw{a b:Bool}:(bif a then true else b)=true↔a=true∨b=true:=by cases a<;>cases b<;>decide
theorem qK(hmix:P.follows .mixedOrders=true){N:Nat}(c:Code):∀(an:Ann) (Kn:cH→ad→Prop) (Kx:Ex→cH→ad→Prop) (r:cH) (a:Act) (w:World) (Q:Exit→Act→World→Prop),
  kD P N c an Kn Kx r w.heap→Agree N r a→(∀ch a w,¬Q (.panic ch) a w)→
  (∀r' a' w',Agree N r' a'→Fr (fun t=>ga t c=true) a w a' w'→Kn r' w'.heap→Q .normal a' w')→
  (∀i r' a' w',Agree N r' a'→Fr (fun t=>ga t c=true) a w a' w'→Kx (.exit i) r' w'.heap→Q (.exit i) a' w')→
  (∀r' a' w',Agree N r' a'→Fr (fun t=>ga t c=true) a w a' w'→Kx .ret r' w'.heap→Q .ret a' w')→
  c.wpIn (FW ro) n P Q a w:=by
 induction c with
 |skip=>
  intro an Kn Kx r a w Q hs ha _ hn _ _;exact wpIn_skip (hn r a w ha (Fr.refl ..) hs)
 |region id ops dr=>
  intro an Kn Kx r a w Q hs ha hp hn _ _;cases an with
  |reg keep inner=>
   have hs:yN P N ops.toList dr inner (fun r' h'=>match KH r' keep with|some r0=>Kn r0 h'|none=>False) r w.heap:=hs
   refine ld hmix hs ha hp fun r' a' w' ha' hf hk=>?_
   split at hk
   ·rename_i r0 hr0
    refine hn r0 a' w' ⟨ha'.size,fun t v hv=>ha'.look t v (D5 hr0 t v hv).2⟩ hf hk
   ·exact hk.elim
  |nil=>exact ld hmix (show yN P N ops.toList dr (.nil) Kn r w.heap from hs) ha hp hn
  |node x y=>exact ld hmix (show yN P N ops.toList dr (.node x y) Kn r w.heap from hs) ha hp hn
  |join st x y=>exact ld hmix (show yN P N ops.toList dr (.join st x y) Kn r w.heap from hs) ha hp hn
  |loop st y=>exact ld hmix (show yN P N ops.toList dr (.loop st y) Kn r w.heap from hs) ha hp hn
  |draw d=>exact ld hmix (show yN P N ops.toList dr (.draw d) Kn r w.heap from hs) ha hp hn
  |kinds k v=>exact ld hmix (show yN P N ops.toList dr (.kinds k v) Kn r w.heap from hs) ha hp hn
  |rf ks x y=>exact ld hmix (show yN P N ops.toList dr (.rf ks x y) Kn r w.heap from hs) ha hp hn
 |seq x y ihx ihy=>
  intro an Kn Kx r a w Q hs ha hp hn hx hr;have up1:∀{a' w'},Fr (fun t=>ga t x=true) a w a' w'→Fr (fun t=>ga t (.seq x y)=true) a w a' w':=fun h=>h.mono fun t ht=>by rw[AY,Fw];exact .inl ht
  have up2:∀{a' w' a'' w''},Fr (fun t=>ga t x=true) a w a' w'→Fr (fun t=>ga t y=true) a' w' a'' w''→Fr (fun t=>ga t (.seq x y)=true) a w a'' w'':=
   fun h k=>(up1 h).trans (k.mono fun t ht=>by rw[AY,Fw];exact .inr ht)
  have plain:∀aa ab,kD P N x aa (fun r' h'=>kD P N y ab Kn Kx r' h') Kx r w.heap→(Code.seq x y).wpIn (FW ro) n P Q a w:=fun aa ab hs=>by
   refine wpIn_seq (ihx aa _ Kx r a w _ hs ha (fun ch a w=>hp ch a w) ?_ (fun i r' a' w' h1 h2 h3=>hx i r' a' w' h1 (up1 h2) h3) (fun r' a' w' h1 h2 h3=>hr r' a' w' h1 (up1 h2) h3))
   intro r1 a1 w1 ha1 hf1 hs1;exact ihy ab Kn Kx r1 a1 w1 Q hs1 ha1 hp (fun r' a' w' h1 h2 h3=>hn r' a' w' h1 (up2 hf1 h2) h3) (fun i r' a' w' h1 h2 h3=>hx i r' a' w' h1 (up2 hf1 h2) h3) (fun r' a' w' h1 h2 h3=>hr r' a' w' h1 (up2 hf1 h2) h3)
  cases an with
  |join st aa ab=>
   have hs:(match vG x with
      |none=>False
      |some m=>Join (T:=cW (wr st)) (fun t h'=>kD P N y ab Kn Kx (mH st (mz (wr st) t) (uv m r)) h')
       fun J=>kD P N x aa (fun r' h'=>zH st r' fun t=>J t h') Kx r w.heap):=hs
   split at hs
   ·exact hs.elim
   ·rename_i m hm
    refine wpIn_seq (ihx aa _ Kx r a w _ hs.run ha (fun ch a w=>hp ch a w) ?_ (fun i r' a' w' h1 h2 h3=>hx i r' a' w' h1 (up1 h2) h3) (fun r' a' w' h1 h2 h3=>hr r' a' w' h1 (up1 h2) h3))
    intro r1 a1 w1 ha1 hf1 hs1;obtain⟨t,hst,hs2⟩:=ui hs1;have ha2:Agree N (mH st (mz (wr st) t) (uv m r)) a1:=ha1.zip hst (ha.keep hm hf1 ha1);exact ihy ab Kn Kx _ a1 w1 Q hs2 ha2 hp (fun r' a' w' h1 h2 h3=>hn r' a' w' h1 (up2 hf1 h2) h3) (fun i r' a' w' h1 h2 h3=>hx i r' a' w' h1 (up2 hf1 h2) h3) (fun r' a' w' h1 h2 h3=>hr r' a' w' h1 (up2 hf1 h2) h3)
  |_=>exact plain _ _ hs
 |cond c x y ihx ihy=>
  intro an Kn Kx r a w Q hs ha hp hn hx hr;have hs:(match dK r c with
   |some (.bool t)=>CondP t (kD P N x an.l Kn Kx r w.heap) (kD P N y an.r Kn Kx r w.heap)
   |_=>False):=hs
  have up1:∀{a' w'},Fr (fun t=>ga t x=true) a w a' w'→Fr (fun t=>ga t (.cond c x y)=true) a w a' w':=fun h=>h.mono fun t ht=>by rw[zB,Fw];exact .inl ht
  have up2:∀{a' w'},Fr (fun t=>ga t y=true) a w a' w'→Fr (fun t=>ga t (.cond c x y)=true) a w a' w':=fun h=>h.mono fun t ht=>by rw[zB,Fw];exact .inr ht
  split at hs
  ·rename_i t ht
   refine wpIn_cond_split (lh ha ht) (fun e=>?_) (fun e=>?_)
   ·exact ihx _ Kn Kx r a w Q (hs.yes e) ha hp (fun r' a' w' h1 h2 h3=>hn r' a' w' h1 (up1 h2) h3) (fun i r' a' w' h1 h2 h3=>hx i r' a' w' h1 (up1 h2) h3) (fun r' a' w' h1 h2 h3=>hr r' a' w' h1 (up1 h2) h3)
   ·exact ihy _ Kn Kx r a w Q (hs.no e) ha hp (fun r' a' w' h1 h2 h3=>hn r' a' w' h1 (up2 h2) h3) (fun i r' a' w' h1 h2 h3=>hx i r' a' w' h1 (up2 h2) h3) (fun r' a' w' h1 h2 h3=>hr r' a' w' h1 (up2 h2) h3)
  ·exact hs.elim
 |block id b ih=>
  intro an Kn Kx r a w Q hs ha hp hn hx hr;refine wpIn_block (ih an Kn _ r a w _ hs ha (fun ch a w=>hp ch a w) hn (fun i r' a' w' h1 h2 h3=>?_) hr)
  simp only[Exit.inBlock]at h3⊢;cases hi:bJ i id with
  |true=>
   rw[hi,cond_true]at h3;rw[if_pos (aU hi)];exact hn r' a' w' h1 h2 h3
  |false=>
   rw[hi,cond_false]at h3;rw[if_neg (fun e=>by rw[e,qa]at hi;cases hi)]
   exact hx i r' a' w' h1 h2 h3
 |loop b ih=>
  intro an Kn Kx r a w Q hs ha hp hn hx hr;cases an with
  |loop st ab=>
   have hs:(match vG b with
      |none=>False
      |some m=>zH st r fun t0=>LoopP (T:=cW (wr st)) (fun self t h'=>kD P N b ab (fun r' h''=>zH st r' fun t'=>self t' h'') Kx (mH st (mz (wr st) t) (uv m r)) h') t0 w.heap):=hs
   split at hs
   ·exact hs.elim
   ·rename_i m hm
    obtain⟨t0,hst0,hl⟩:=ui hs;have h0:=hl.run (fun t h'=>∀a' w',w'.heap=h'→Agree N (mH st (mz (wr st) t) (uv m r)) a'→Fr (fun t=>ga t b=true) a w a' w'→LWP ro n P b Q a' w') (fun t h' hF a' w' hw ha' hf=>by
     subst hw
     refine LWP.step (ih ab _ Kx _ a' w' _ hF ha' (fun ch a w=>hp ch a w) ?_ (fun i r' a'' w'' h1 h2 h3=>hx i r' a'' w'' h1 (hf.trans h2) h3) (fun r' a'' w'' h1 h2 h3=>hr r' a'' w'' h1 (hf.trans h2) h3))
     intro r1 a1 w1 ha1 hf1 hs1
     obtain⟨t1,hst1,hk1⟩:=ui hs1
     exact hk1 a1 w1 rfl (ha1.zip hst1 (ha.keep hm (hf.trans hf1) ha1)) (hf.trans hf1))
    exact LWP.loop (h0 a w rfl (ha.zip hst0 (ha.keep hm (Fr.refl _ a w) ha)) (Fr.refl _ a w))
  |_=>exact hs.elim
 |rangeFunc f params assign body _ _=>intro an Kn Kx r a w Q hs;exact hs.elim
 |exit id=>
  intro an Kn Kx r a w Q hs ha hp hn hx hr;exact wpIn_exit (hx id r a w ha (Fr.refl ..) hs)
 |scope b _=>intro an Kn Kx r a w Q hs;exact hs.elim
 |label l=>
  intro an Kn Kx r a w Q hs ha hp hn hx hr;exact wpIn_label (hn r a w ha (Fr.refl ..) hs)
 |goto l=>intro an Kn Kx r a w Q hs;exact hs.elim
 |ret=>
  intro an Kn Kx r a w Q hs ha hp hn hx hr;exact wpIn_ret (hr r a w ha (Fr.refl ..) hs)
 |refuse why=>intro an Kn Kx r a w Q hs;exact hs.elim
end Go.Lift
namespace Go.Lift
open Go
variable {P:Program}
theorem oT{N:Nat}{r:cH}{a:Act}{w:World}(ha:Agree N r a):∀{l:List ResultVar} {K:List Value→Prop},mI P r w.heap l K→
  ∃vs,(∀g:ResultVar→Sem Value,(∀t,g (.tmp t)=pure (a.tmps.getD t undef))→(∀x t,g (.cell x t)=do loadVar t (←asAddr (a.tmps.getD x undef)))→(l.mapM g).run P w=.ok vs w)∧K vs
 | [],K,h=>⟨[],fun g _ _=>by rw[List.mapM_nil];rfl,h⟩
 | .tmp t::l,K,h=>by
  unfold mI at h;split at h
  ·rename_i v hv
   obtain⟨vs,hr,hk⟩:=oT ha h;refine⟨v::vs,fun g g1 g2=>?_,hk⟩
   rw[List.mapM_cons,g1];simp only[Sem.run_bind,Sem.run_pure,Result.andThen_ok];rw[hr g g1 g2];simp only[Result.andThen_ok,ha.look t v hv]
  ·exact h.elim
 | .cell x t::l,K,h=>by
  unfold mI at h;split at h
  ·rename_i v hv
   obtain⟨u,S,hK,hS,hl⟩:=zM h;obtain⟨vs,hr,hk⟩:=oT ha hK;refine⟨u::vs,fun g g1 g2=>?_,hk⟩
   rw[List.mapM_cons,g2];have h1:(do loadVar t (←asAddr (a.tmps.getD x undef)):Sem Value).run P w=.ok u w:=by
    rw[ha.look x v hv];unfold Gs at h;cases v with
    |pointer p=>cases p with
     |none=>exact h.elim
     |some b=>exact hl w hS
    |_=>exact h.elim
   simp only[Sem.run_bind]at h1⊢;rw[h1];simp only[Result.andThen_ok];rw[hr g g1 g2];simp only[Sem.run_pure,Result.andThen_ok]
  ·exact h.elim
theorem DH(ks:List Kind)(t:cW ks):(if h:(mz ks t).toArray.size=1 then(mz ks t).toArray[0]else Value.tuple (mz ks t).toArray)=BB ks (mz ks t):=by
 match ks,t with
 | [],t=>rfl
 | [k],t=>rfl
 |k::l::ks,(x,t)=>
  have:(mz (k::l::ks) (x,t)).length=(k::l::ks).length:=qW _ _;rw[dif_neg (by simp only[dB,this,ax];omega)];rfl
theorem tB:∀(vs:List Value) (i t:Nat) (v:Value),jM (oZ i vs) t=some v→i≤t∧vs[t-i]? =some v
 | [],i,t,v,h=>by cases h
 |u::vs,i,t,v,h=>by
  by_cases e:i=t
  ·subst e
   rw[show oZ i (u::vs)=(i,u)::oZ (i+1) vs from rfl,hJ]at h
   cases h;exact⟨Nat.le_refl _,by simp⟩
  ·rw[show oZ i (u::vs)=(i,u)::oZ (i+1) vs from rfl,gv u _ e]at h
   obtain⟨h1,h2⟩:=tB vs (i+1) t v h;refine⟨by omega,?_⟩;rw[show t-i=(t-(i+1))+1 by omega,List.getElem?_cons_succ]
   exact h2
theorem HE.intro(hmix:P.follows .mixedOrders=true){f:FuncId}{fn:Func}{c:Code}{an:Ann}{args:List Value}{ks:List Kind}{K:cW ks→ad→Prop}{h:ad}
  (hf:P.funcs[f]? =some fn) (hb:fn.body=some c) (hcall:∀(args:Array Value) (w:World),(callFunc f args).run P w=.ok (.enter f args) w) (hlen:args.length≤fn.ntmps)
  (hs:Ko P fn c an args ks K h):HE P f args ks K h:=by
 refine⟨fun w hw=>⟨hcall,?_⟩⟩
 subst hw;refine(callsIn_wide (n:=0)).1 (callsIn_of_wp (F:=FW none) hf hb trivial ?_ rfl);have ha:Agree fn.ntmps (oZ 0 args) {tmps:=args.toArray++pK (fn.ntmps-args.toArray.size) undef,defers:= []}:=by
  refine⟨by simp;omega,fun t v hv=>?_⟩
  obtain⟨_,h2⟩:=tB args 0 t v hv;simp only[fz]at h2;have hlt:=(bl.1 h2).1;simp[Array.getElem?_append,hlt];rw[af hlt]at h2;cases h2;rfl
 have fin:∀r' a' (w':World),Agree fn.ntmps r' a'→Fr (fun t=>ga t c=true) {tmps:=args.toArray++pK (fn.ntmps-args.toArray.size) undef,defers:= []} w a' w'→
   mI P r' w'.heap fn.results.toList (fun vs=>As ks vs fun t=>K t w'.heap)→
   a'.defers= []∧∃v,(results fn a'.tmps).run P w'=.ok v w'∧(Tame w w'∧∃t:cW ks,Ending.returned v=.returned (BB ks (mz ks t))∧K t w'.heap):=fun r' a' w' ha' hf' hr=>by
  obtain⟨vs,hrun,hd⟩:=oT ha' hr;obtain⟨t,rfl,hK⟩:=qk hd;refine⟨hf'.defers,_,?_,hf'.tame,t,rfl,hK⟩;unfold results;rw[l8];simp only[Sem.run_bind,Sem.run_map];rw[hrun _ (fun _=>rfl) (fun _ _=>rfl)]
  simp only[Result.andThen_ok,Sem.run_pure];rw[←DH]
 exact qK hmix c an _ _ _ _ w _ hs ha (fun ch a w h=>h.2.2.elim fun _ h=>by cases h.1) fin (fun _ _ _ _ _ _ h=>h.elim) fin
theorem HC.intro(hmix:P.follows .mixedOrders=true){f:FuncId}{fn:Func}{c:Code}{an:Ann}{args:List Value}{ks:List Kind}{K:cW ks→ad→Prop}{h:ad}
 (hf:P.funcs[f]? =some fn) (hb:fn.body=some c) (hcall:∀(args:Array Value) (w:World),(callFunc f args).run P w=.ok (.enter f args) w) (hlen:args.length≤fn.ntmps)
 (hs:Ko P fn c an args ks K h):HC P f args ks K h:=(HE.intro hmix hf hb hcall hlen hs).hc
theorem Jq{N:Nat}{args:List Value}(hlen:args.length≤N):Agree N (oZ 0 args) {tmps:=args.toArray++pK (N-args.toArray.size) undef,defers:= []}:=by
 refine⟨by simp;omega,fun t v hv=>?_⟩
 obtain⟨_,h2⟩:=tB args 0 t v hv;simp only[fz]at h2;have hlt:=(bl.1 h2).1;simp[Array.getElem?_append,hlt];rw[af hlt]at h2;cases h2;rfl
theorem Gm{N:Nat}{fn:Func}{ks:List Kind}{K:cW ks→ad→Prop}{r':cH}{a':Act}{w':World}(ha':Agree N r' a')(hr:mI P r' w'.heap fn.results.toList (fun vs=>As ks vs fun t=>K t w'.heap)):
  ∃t:cW ks,(results fn a'.tmps).run P w'=.ok (BB ks (mz ks t)) w'∧K t w'.heap:=by
 obtain⟨vs,hrun,hd⟩:=oT ha' hr;obtain⟨t,rfl,hK⟩:=qk hd;refine⟨t,?_,hK⟩;unfold results;rw[l8];simp only[Sem.run_bind,Sem.run_map];rw[hrun _ (fun _=>rfl) (fun _ _=>rfl)]
 simp only[Result.andThen_ok,Sem.run_pure];rw[←DH]
end Go.Lift
namespace Go.Lift
open Go
variable {P:Program}
abbrev mc(D:Nat):Deferred:={target:=.collected D,args:= #[]}
theorem Co{N:Nat}:∀{ps:List Nat} {vs:List Value} {r:cH} {tmps:Array Value},wD N ps=true→Agree N r {tmps:=tmps,defers:= []}→
  Agree N (On ps vs r) {tmps:=(ps.zip vs).foldl (fun t x=>t.setIfInBounds x.1 x.2) tmps,defers:= []}
 | [],vs,r,tmps,_,h=>by cases vs<;>exact h
 |i::ps,[],r,tmps,_,h=>h
 |i::ps,v::vs,r,tmps,hl,h=>by
  have hl:(Nat.blt i N&&wD N ps)=true:=hl;rw[bD]at hl;have hlt:i<N:=by simpa using hl.1
  have:=h.put i v hlt;exact Co (tmps:=tmps.setIfInBounds i v) hl.2 this
theorem Bc(w:World)(o:Obj):Tame w (w.alloc o):=⟨rfl,rfl,rfl⟩
theorem m9(w:World)(b:Nat)(o:Obj):Tame w (w.putObj b o):=⟨rfl,rfl,rfl⟩
theorem Gw(w:World)(b:Nat)(o:Obj):(w.putObj b o).heap=w.heap.setIfInBounds b o:=rfl
theorem K9(ps:Array Nat)(vs:List Value)(t:Array Value):(ps.zip vs.toArray).foldl (fun t (x:Nat×Value)=>t.setIfInBounds x.1 x.2) t=(ps.toList.zip vs).foldl (fun t x=>t.setIfInBounds x.1 x.2) t:=by
 obtain⟨l⟩:=ps;simp
theorem Ao(hmix:P.follows .mixedOrders=true){n N:Nat}{g:Operand}{ps:Array Tmp}{assign body:Code}{aa ab:Ann}{ks:List Kind}{fv:Value}{r:cH}{a:Act}{w:World}{Q:Exit→Act→World→Prop}
  {KN:ad→Prop}{KX:Nat→ad→Prop}{KR:ad→Prop}(hps:wD N ps.toList=true)(hlen:ps.toList.length=ks.length)(hg:dK r g=some fv)(ha:Agree N r a)
  (hR:RangeP P fv ks w.heap (fun DK bz x k h'=>H7 P N ps.toList ks assign body (.node aa ab) r (w.heap.size+1) DK bz x k h') KN KX KR)
  (hn:∀w',Tame w w'→KN w'.heap→Q .normal {a with defers:=mc w.heap.size::a.defers} w')
  (hx:∀i w',Tame w w'→KX i w'.heap→Q (.exit i) {a with defers:=mc w.heap.size::a.defers} w')
  (hr:∀w',Tame w w'→KR w'.heap→Q .ret {a with defers:=mc w.heap.size::a.defers} w'):(Code.rangeFunc g ps assign body).wpIn (FW none) n P Q a w:=by
 refine wpIn_rangeFunc fun fn _=>?_
 obtain⟨lo,hlo⟩:∃lo:LoopState→Option Ex→Obj,lo=fun s j=>.loop {state:=s,pending:=Fe j,fn,tmps:=a.tmps,params:=ps,assign,body,defers:=w.heap.size}:=⟨_,rfl⟩
 have hj:∀j:Option Ex,(Fe j).isNone=j.isNone:=fun j=>by rcases j with _|⟨_|_⟩<;>rfl
 obtain⟨f,first,cap,rfl,he⟩:=hR.run lo (fun s j=>⟨_,by rw[hlo]⟩) (fun x h' K hrec hround=>by
  refine⟨.inr ⟨_,rfl,⟨fun w1 hw1=>?_⟩⟩⟩
  subst hw1
  rw[hlo]at hrec
  have hy:=run_yield (P:=P) (args:=(mz ks x).toArray) hrec (by simp only[dB,qW];rw[←hlen];rfl)
  refine⟨_,_,_,_,hy,fun c cs=>?_⟩
  have hA:Agree N (On ps.toList (mz ks x) r) {tmps:=(ps.zip (mz ks x).toArray).foldl (fun t (x:Nat×Value)=>t.setIfInBounds x.1 x.2) a.tmps,defers:= []}:=by
   rw[K9]
   exact Co hps ⟨ha.size,ha.look⟩
  have hfin:∀j:Option Ex,∀W:World,Tame w1 W→(W.heap[w.heap.size+1]? =some (lo .busy none)∧K j.isNone (W.heap.setIfInBounds (w.heap.size+1) (lo (if j.isNone then .ready else .done) j)))→
    ∃v w',(Instr.endRound (w.heap.size+1) (Fe j)).run P W=.ok v w'∧∃b,Ending.returned v=.returned (.bool b)∧Tame w1 w'∧K b w'.heap:=by
   rintro j W ht ⟨h1,h2⟩
   rw[hlo]at h1
   have:=run_endRound (P:=P) (Fe j) h1
   refine⟨_,_,this,_,rfl,ht.trans (m9 ..),?_⟩
   rw[hlo]at h2
   rw[hj]
   exact h2
  have:=roundIn_of_wpIn (F:=FW none) (n:=0) (P:=P) (l:=w.heap.size+1) (f:=fn) (assign:=assign) (body:=body) (w:=w1)
   (tmps:=(ps.zip (mz ks x).toArray).foldl (fun t (x:Nat×Value)=>t.setIfInBounds x.1 x.2) a.tmps)
   (R:=fun e w'=>∃b,e=.returned (.bool b)∧Tame w1 w'∧K b w'.heap) trivial (by
    refine qK (ro:=some (w.heap.size+1)) hmix assign aa _ _ _ _ w1 _ hround hA (fun ch a w h=>h) ?_ (fun i r' a' w' _ _ h=>h.elim) (fun r' a' w' _ _ h=>h.elim)
    rintro r2 a2 w2 ha2 hf2 ⟨hrec2,hbody⟩
    rw[hlo]at hrec2
    refine⟨_,run_beginRound hrec2 rfl,?_⟩
    have hb:∀o,o=lo .busy none→w2.heap.setIfInBounds (w.heap.size+1) o=w2.heap.setIfInBounds (w.heap.size+1) (lo .busy none):=fun o ho=>by rw[ho]
    refine qK (ro:=some (w.heap.size+1)) hmix body ab (fun _ h2=>_) (fun e _ h2=>_) _ _ (w2.putObj (w.heap.size+1) _) _ (by
     rw[Gw,hb _ (by rw[hlo])];exact hbody) ha2 (fun ch a w h=>h) ?_ ?_ ?_
    ·rintro r3 a3 w3 ha3 hf3 hk
     exact hfin none w3 ((hf2.tame.trans (m9 ..)).trans hf3.tame) hk
    ·rintro i r3 a3 w3 ha3 hf3 hk
     exact hfin (some (.exit i)) w3 ((hf2.tame.trans (m9 ..)).trans hf3.tame) hk
    ·rintro r3 a3 w3 ha3 hf3 hk
     exact hfin (some .ret) w3 ((hf2.tame.trans (m9 ..)).trans hf3.tame) hk)
  obtain⟨e,w',⟨b,rfl,ht,hK⟩,hs⟩:=this.2 c cs (fun d h=>by simp[FW]at h)
  exact⟨b,w',ht,hK,hs.steps⟩)
 have hrun:=he.run ((w.alloc (.deferred (some []))).alloc (lo .ready none)) rfl;refine⟨w.heap.size+1,[mc w.heap.size],(w.alloc (.deferred (some []))).alloc (lo .ready none),{target:=.fn (.func f) cap,args:=first++ #[.func (.yield (w.heap.size+1)) #[] #[]]},(w.alloc (.deferred (some []))).alloc (lo .ready none),f,
  first++ #[.func (.yield (w.heap.size+1)) #[] #[]]++cap,(w.alloc (.deferred (some []))).alloc (lo .ready none),?_,?_,fun _ _=>trivial,?_,fun h=>by simp[FW]at h,?_⟩
 ·rw[hlo];exact run_enterLoop_outer fn a.tmps ps assign body
 ·have hev:=lh ha hg
  simp[resolve,hev,Deferred.ofValue,Sem.run_pure];rfl
 ·simp[invoke,hrun.1]
 ·refine Cg ?_
  have e:(first.toList++ [Value.func (.yield (w.heap.size+1)) #[] #[]]++cap.toList).toArray=first++ #[.func (.yield (w.heap.size+1)) #[] #[]]++cap:=by apply Array.ext';simp
  rw[←e];refine hrun.2.mono ?_;rintro e w' ⟨ht,t,rfl,s,j,hs,hrec,hfin⟩;have ht':Tame w w':=((Bc w _).trans (Bc _ _)).trans ht;rw[hlo]at hrec;refine⟨_,_,run_endLoop hrec hs,?_⟩;have ht2:∀o,Tame w (w'.putObj (w.heap.size+1) o):=fun o=>ht'.trans (m9 ..)
  have hb:∀o,o=lo .exhausted j→(w'.putObj (w.heap.size+1) o).heap=w'.heap.setIfInBounds (w.heap.size+1) (lo .exhausted j):=fun o ho=>by rw[ho];rfl
  rcases j with _|⟨i|_⟩
  ·exact hn _ (ht2 _) (by rw[hb _ (by rw[hlo])];exact hfin)
  ·exact wpIn_exit (hx i _ (ht2 _) (by rw[hb _ (by rw[hlo])];exact hfin))
  ·exact wpIn_ret (hr _ (ht2 _) (by rw[hb _ (by rw[hlo])];exact hfin))
theorem EP(hmix:P.follows .mixedOrders=true){n N:Nat}(c:Code):∀(an:Ann) (Kn:List Nat→cH→ad→Prop) (Kx:Ex→List Nat→cH→ad→Prop) (ms:List Nat) (r:cH) (a:Act) (w:World) (Q:Exit→Act→World→Prop),
  wy P N c an Kn Kx ms r w.heap→Agree N r a→a.defers=ms.map mc→(∀ch a w,¬Q (.panic ch) a w)→
  (∀ms' r' a' w',Agree N r' a'→a'.defers=ms'.map mc→Tame w w'→Kn ms' r' w'.heap→Q .normal a' w')→
  (∀i ms' r' a' w',Agree N r' a'→a'.defers=ms'.map mc→Tame w w'→Kx (.exit i) ms' r' w'.heap→Q (.exit i) a' w')→
  (∀ms' r' a' w',Agree N r' a'→a'.defers=ms'.map mc→Tame w w'→Kx .ret ms' r' w'.heap→Q .ret a' w')→
  c.wpIn (FW none) n P Q a w:=by
 have plain:∀(c:Code) (an:Ann) (Kn:List Nat→cH→ad→Prop) (Kx:Ex→List Nat→cH→ad→Prop) (ms:List Nat) (r:cH) (a:Act) (w:World) (Q:Exit→Act→World→Prop),
  kD P N c an (Kn ms) (fun e=>Kx e ms) r w.heap→Agree N r a→a.defers=ms.map mc→(∀ch a w,¬Q (.panic ch) a w)→
  (∀ms' r' a' w',Agree N r' a'→a'.defers=ms'.map mc→Tame w w'→Kn ms' r' w'.heap→Q .normal a' w')→
  (∀i ms' r' a' w',Agree N r' a'→a'.defers=ms'.map mc→Tame w w'→Kx (.exit i) ms' r' w'.heap→Q (.exit i) a' w')→
  (∀ms' r' a' w',Agree N r' a'→a'.defers=ms'.map mc→Tame w w'→Kx .ret ms' r' w'.heap→Q .ret a' w')→
  c.wpIn (FW none) n P Q a w:=by
  intro c an Kn Kx ms r a w Q hs ha hd hp hn hx hr;exact qK hmix c an _ _ r a w Q hs ha hp (fun r' a' w' h1 h2 h3=>hn ms r' a' w' h1 (h2.defers.trans hd) h2.tame h3) (fun i r' a' w' h1 h2 h3=>hx i ms r' a' w' h1 (h2.defers.trans hd) h2.tame h3)
   (fun r' a' w' h1 h2 h3=>hr ms r' a' w' h1 (h2.defers.trans hd) h2.tame h3)
 induction c with
 |skip=>intro an Kn Kx ms r a w Q hs;exact plain _ an Kn Kx ms r a w Q hs
 |region id ops dr=>intro an Kn Kx ms r a w Q hs;exact plain _ an Kn Kx ms r a w Q hs
 |seq x y ihx ihy=>
  intro an Kn Kx ms r a w Q hs ha hd hp hn hx hr;have hs:(bif (bif qj x then true else qj y)then wy P N x an.l (fun ms r' h'=>wy P N y an.r Kn Kx ms r' h') Kx ms r w.heap
   else kD P N (.seq x y) an (Kn ms) (fun e=>Kx e ms) r w.heap):=hs
  cases hb:(bif qj x then true else qj y)with
  |false=>rw[hb]at hs;exact plain _ _ _ _ _ _ _ _ _ hs ha hd hp hn hx hr
  |true=>
   rw[hb,cond_true]at hs;refine wpIn_seq (ihx an.l _ Kx ms r a w _ hs ha hd (fun ch a w=>hp ch a w) ?_ hx hr)
   intro ms1 r1 a1 w1 ha1 hd1 ht1 hs1;exact ihy an.r Kn Kx ms1 r1 a1 w1 Q hs1 ha1 hd1 hp (fun ms' r' a' w' h1 h2 h3 h4=>hn ms' r' a' w' h1 h2 (ht1.trans h3) h4) (fun i ms' r' a' w' h1 h2 h3 h4=>hx i ms' r' a' w' h1 h2 (ht1.trans h3) h4)
    (fun ms' r' a' w' h1 h2 h3 h4=>hr ms' r' a' w' h1 h2 (ht1.trans h3) h4)
 |cond c x y ihx ihy=>
  intro an Kn Kx ms r a w Q hs ha hd hp hn hx hr;have hs:(bif (bif qj x then true else qj y)then
    (match dK r c with
     |some (.bool t)=>CondP t (wy P N x an.l Kn Kx ms r w.heap) (wy P N y an.r Kn Kx ms r w.heap)
     |_=>False)
   else kD P N (.cond c x y) an (Kn ms) (fun e=>Kx e ms) r w.heap):=hs
  cases hb:(bif qj x then true else qj y)with
  |false=>rw[hb]at hs;exact plain _ _ _ _ _ _ _ _ _ hs ha hd hp hn hx hr
  |true=>
   rw[hb,cond_true]at hs;split at hs
   ·rename_i t ht
    exact wpIn_cond_split (lh ha ht) (fun e=>ihx _ Kn Kx ms r a w Q (hs.yes e) ha hd hp hn hx hr) (fun e=>ihy _ Kn Kx ms r a w Q (hs.no e) ha hd hp hn hx hr)
   ·exact hs.elim
 |block id b ih=>
  intro an Kn Kx ms r a w Q hs ha hd hp hn hx hr;have hs:(bif qj b then wy P N b an Kn (fun e ms r' h'=>match e with
    | .exit i=>bif bJ i id then Kn ms r' h' else Kx (.exit i) ms r' h'
    | .ret=>Kx .ret ms r' h') ms r w.heap
   else kD P N (.block id b) an (Kn ms) (fun e=>Kx e ms) r w.heap):=hs
  cases hb:qj b with
  |false=>rw[hb]at hs;exact plain _ _ _ _ _ _ _ _ _ hs ha hd hp hn hx hr
  |true=>
   rw[hb,cond_true]at hs;refine wpIn_block (ih an Kn _ ms r a w _ hs ha hd (fun ch a w=>hp ch a w) hn (fun i ms' r' a' w' h1 h2 h3 h4=>?_) hr)
   simp only[Exit.inBlock]at h4⊢;cases hi:bJ i id with
   |true=>
    rw[hi,cond_true]at h4;rw[if_pos (aU hi)];exact hn ms' r' a' w' h1 h2 h3 h4
   |false=>
    rw[hi,cond_false]at h4;rw[if_neg (fun e=>by rw[e,qa]at hi;cases hi)]
    exact hx i ms' r' a' w' h1 h2 h3 h4
 |loop b ih=>intro an Kn Kx ms r a w Q hs;exact plain _ an Kn Kx ms r a w Q hs
 |rangeFunc g ps assign body _ _=>
  intro an Kn Kx ms r a w Q hs ha hd hp hn hx hr;cases an with
  |rf ks aa ab=>
   have hs:(bif wD N ps.toList&&bJ ps.toList.length ks.length then
    (match dK r g with
     |some fv=>RangeP P fv ks w.heap (fun DK bz x k h'=>H7 P N ps.toList ks assign body (.node aa ab) r (w.heap.size+1) DK bz x k h')
       (fun h'=>Kn (w.heap.size::ms) r h') (fun i h'=>Kx (.exit i) (w.heap.size::ms) r h') (fun h'=>Kx .ret (w.heap.size::ms) r h')
     |none=>False)else False):=hs
   cases hb:(wD N ps.toList&&bJ ps.toList.length ks.length)with
   |false=>rw[hb]at hs;exact hs.elim
   |true=>
    rw[hb,cond_true]at hs;rw[bD]at hb;split at hs
    · rename_i fv hfv
      have hA:Agree N r {a with defers:=mc w.heap.size::a.defers}:=⟨ha.size,ha.look⟩;have hD:({a with defers:=mc w.heap.size::a.defers}:Act).defers=(w.heap.size::ms).map mc:=by rw[List.map_cons,←hd]
      exact Ao hmix hb.1 (aU hb.2) hfv ha hs (fun w' ht hk=>hn _ r _ w' hA hD ht hk) (fun i w' ht hk=>hx i _ r _ w' hA hD ht hk) (fun w' ht hk=>hr _ r _ w' hA hD ht hk)
    · exact hs.elim
  |_=>exact hs.elim
 |exit id=>intro an Kn Kx ms r a w Q hs;exact plain _ an Kn Kx ms r a w Q hs
 |scope b _=>intro an Kn Kx ms r a w Q hs;exact hs.elim
 |label l=>intro an Kn Kx ms r a w Q hs;exact plain _ an Kn Kx ms r a w Q hs
 |goto l=>intro an Kn Kx ms r a w Q hs;exact hs.elim
 |ret=>intro an Kn Kx ms r a w Q hs;exact plain _ an Kn Kx ms r a w Q hs
 |refuse why=>intro an Kn Kx ms r a w Q hs;exact hs.elim
theorem wt{fn:Func}{ks:List Kind}{K:cW ks→ad→Prop}{N:Nat}{n:Nat}{r:cH}{a:Act}{w0:World}(ha:Agree N r a):∀(ms:List Nat) (w:World),Tame w0 w→
  Kl ms (fun h'=>mI P r h' fn.results.toList fun vs=>As ks vs fun t=>K t h') w.heap→
  LeavesInM (FW none) n P fn a.tmps (fun e w'=>Tame w0 w'∧∃t:cW ks,e=.returned (BB ks (mz ks t))∧K t w'.heap) (ms.map mc) .returning w
 | [],w,ht,h=>by
  obtain⟨t,hrun,hK⟩:=Gm ha h;exact⟨_,hrun,ht,t,rfl,hK⟩
 |D::ms,w,ht,h=>by
  refine⟨by simp,.inl ⟨D,_,rfl,run_takeDeferred h.1,?_⟩⟩;exact wt ha ms (w.putObj D (.deferred none)) (ht.trans (m9 ..)) h.2
theorem HE.introM(hmix:P.follows .mixedOrders=true){f:FuncId}{fn:Func}{c:Code}{an:Ann}{args:List Value}{ks:List Kind}{K:cW ks→ad→Prop}{h:ad}
  (hf:P.funcs[f]? =some fn) (hb:fn.body=some c) (hcall:∀(args:Array Value) (w:World),(callFunc f args).run P w=.ok (.enter f args) w) (hlen:args.length≤fn.ntmps)
  (hs:H8 P fn c an args ks K h):HE P f args ks K h:=by
 refine⟨fun w hw=>⟨hcall,?_⟩⟩
 subst hw;refine(callsIn_wide (n:=0)).1 (callsIn_of_wp_marks (F:=FW none) hf hb trivial ?_ rfl);refine wpIn_mono (Q:=fun e a w'=>(∀ch,e≠ .panic ch)∧bodyPostM (FW none) 0 P fn (fun e w'=>Tame w w'∧∃t:cW ks,e=.returned (BB ks (mz ks t))∧K t w'.heap) e a w') ?_ fun e a w h=>h.2
 refine EP hmix c an _ _ [] _ _ w _ hs (Jq hlen) rfl (fun ch a w h=>h.1 ch rfl) ?_ (fun _ _ _ _ _ _ _ _ h=>h.elim) ?_
 ·intro ms' r' a' w' ha' hd' ht' hk
  refine⟨(fun _ e=>by cases e),?_⟩
  show LeavesInM _ _ _ _ _ _ a'.defers _ _
  rw[hd'];exact wt ha' ms' w' ht' hk
 ·intro ms' r' a' w' ha' hd' ht' hk
  refine⟨(fun _ e=>by cases e),?_⟩
  show LeavesInM _ _ _ _ _ _ a'.defers _ _
  rw[hd'];exact wt ha' ms' w' ht' hk
theorem HC.introM(hmix:P.follows .mixedOrders=true){f:FuncId}{fn:Func}{c:Code}{an:Ann}{args:List Value}{ks:List Kind}{K:cW ks→ad→Prop}{h:ad}
 (hf:P.funcs[f]? =some fn) (hb:fn.body=some c) (hcall:∀(args:Array Value) (w:World),(callFunc f args).run P w=.ok (.enter f args) w) (hlen:args.length≤fn.ntmps)
 (hs:H8 P fn c an args ks K h):HC P f args ks K h:=(HE.introM hmix hf hb hcall hlen hs).hc
end Go.Lift
namespace Go.Lift
open Go
def AppP(z:Option (List Value))(sz bytes:Nat)(t:TypeId)(base:Option Addr)(sl sc xl:Nat)(xs:List Value)(h:ad)(K:SliceV→ad→Prop):Prop:=
 (sl+xl≤sc→uc h base (sl*sz) xs∧cj xs=true∧K ⟨base,sl+xl,sc⟩ (fP h base (sl*sz) xs))∧
 (sc<sl+xl→∃old z',SRow h base (sl*sz) old∧z=some z'∧0<bytes∧Builtin.nextslicecap (sl+xl) sc*bytes≤2^48∧
  ∀nc,sl+xl≤nc→K ⟨some (az h),sl+xl,nc⟩ (hnew h (old++xs++dU (nc-(sl+xl)) z') t))
end Go.Lift
