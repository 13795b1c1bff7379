/- A part of the proof that the named laws of this program answer true, whatever the input. -/
import Derived.Test.YtncppacbfagpgaaGreatLift1
open Array renaming getD_eq_getD_getElem?→de,getElem?_toList→bE,getElem?_setIfInBounds_ne→eX,replicate→sE,getElem?_eq_some_iff→cB,getElem?_eq_getElem→fy,getElem?_eq_none→lM,mapM_eq_mapM_toList→oa
open Bool renaming eq_false_iff→qJ,or_eq_true→jI,and_eq_true→bc,not_eq_true'→qI,or_eq_false_iff→nq
open List renaming mem_of_getElem?→kf,length_cons→ak,mem_cons→az,getElem?_cons_zero→cJ,getElem?_eq_getElem→ai,any_eq_true→cj,getElem?_eq_some_iff→bI,mem_cons_of_mem→aC,mem_cons_self→ao,filter_cons→bG,mem_singleton→aA,size_toArray→du
open Nat renaming beq→bP,eq_of_beq_eq_true→aX,land→j9,lor→cX,testBit_and→lZ,zero_testBit→nX,succ→gm,zero_add→aN,beq_refl→sX,lt_or_ge→cn,pred→yn,sub_zero→eB
open Option renaming some→bO
namespace Go.Lift
open Go
variable {P:Program} {ro:Option Nat} {n:Nat}
def FW(ro:Option Nat):Fence:={fn:=fun _=>True,depth:=none,alive:=false,round:=ro}
theorem PT(m:Machine):m.fenced P (FW ro):=by
 intro g _;exact⟨fun h=>by simp[FW]at h,.inl trivial,fun _ _=>trivial,fun d h=>by simp[FW]at h⟩
theorem zu{m m':Machine}(h:Steps P m m'):StepsIn (Machine.fenced P (FW ro)) P m m':=(StepsIn.of_steps h).mono fun m _=>PT m
theorem FL{k:Nat}{f:FuncId}{args:Array Value}{w:World}{R:Ending→World→Prop}(h:Calls P f args w R):CallsIn (FW ro) k P f args w R:=by
 refine⟨trivial,fun cs _=>?_⟩
 obtain⟨e,w',fr,hR,hc,hfn,hl⟩:=h cs;refine⟨e,w',fr,hR,?_,hfn,hl⟩;cases e with
 |returned v=>exact zu hc
 |panicked c=>exact zu hc
 |outgrown=>exact hc
theorem ud{o:Oper}{a:Act}{w:World}{K:WK}{next:Act→World→Prop}{Q:Exit→Act→World→Prop}(hd:∀c,o.op≠ .defer c)(h:Lz P (execOp a.eval o) K w)
  (hk:∀v w',Tame w w'→K v w'.heap→next (a.put o.dst v) w'):o.wpIn (FW ro) n P a w next Q:=by
 refine⟨fun _ _=>trivial,?_⟩
 rw[Oper.semAt_eq _ _ _ hd];rcases h with⟨v,w',hr,ht,hK⟩|⟨w',hr,ht,hK⟩|⟨f,args,hr,hc⟩|⟨l,fn,tmps,assign,body,hr,hc⟩
 ·rw[hr];exact hk v w' ht hK
 ·rw[hr];exact hk undef w' ht hK
 ·rw[hr]
  refine⟨fun h=>by simp[FW]at h,FL (hc.mono ?_)⟩
  rintro e w' ⟨ht,v,rfl,hK⟩;exact hk v w' ht hK
 ·rw[hr]
  refine⟨fun h=>by simp[FW]at h,trivial,fun c cs _=>?_⟩
  obtain⟨b,w',ht,hK,hs⟩:=hc c cs;exact⟨.returned (.bool b),w',hk _ w' ht hK,zu hs⟩
theorem wQ{N:Nat}{o:Oper}{v:Value}{r:cE}{K:cE→Prop}{a:Act}{d:vZ}{dv:DV}(h:AV N o v r K)(ha:Agree N r a)(hd:DecOk d r)(hv:GX dv v):
  ∃r',K r'∧Agree N r' (a.put o.dst v)∧DecOk (tF d o dv) r':=by
 unfold AV at h;unfold tF;cases ho:o.dst with
 |none=>rw[ho]at h;exact⟨r,h,ha,hd⟩
 |some t=>
  rw[ho]at h;simp only at h;cases hb:Nat.blt t N with
  |false=>rw[hb]at h;exact h.elim
  |true=>
   rw[hb]at h;have hlt:t<N:=by simpa using hb
   refine⟨_,h,ha.put t v hlt,fun s=>?_⟩
   by_cases e:t=s
   ·subst e
    have:sH ((t,dv)::d) t=dv:=by simp[sH]
    rw[this];exact .inr ⟨v,je t v r,hv⟩
   ·have h1:sH ((t,dv)::d) s=sH d s:=by
     have:bP t s=false:=qJ.2 fun e'=>e (aX e')
     show(bif bP t s then dv else sH d s)=_
     rw[this];rfl
    rw[h1,ix v r e];exact hd s
theorem Ko{ek:Option (Kind×Kind)}{o:Op}{r:cE}{K:RK}{h:ad}(hq:B9 P ek o r K h):∀c,o≠ .defer c:=by
 intro c e;subst e;exact hq
theorem xw{o:Oper}{r:cE}{K:WK}{h:ad}(hq:Gk P o r K h):∀c,o.op≠ .defer c:=by
 intro c e;unfold Gk at hq;rw[e]at hq;exact hq
theorem VB{d:vZ}{o:Op}(h:xf P o=false):JJ d o=.x:=by
 cases o<;>first|rfl|(simp[xf]at h)
theorem Pq{N:Nat}{ek:Option (Kind×Kind)}{o:Oper}{r:cE}{K:cE→ad→Prop}{a:Act}{w:World}{d:vZ}{next:Act→World→Prop}{Q:Exit→Act→World→Prop}
  (hs:U0 P N ek o r K w.heap)(ha:Agree N r a)(hd:DecOk d r)
  (hk:∀v w' r',Tame w w'→K r' w'.heap→Agree N r' (a.put o.dst v)→DecOk (tF d o (JJ d o.op)) r'→next (a.put o.dst v) w'):o.wpIn (FW ro) n P a w next Q:=by
 unfold U0 at hs;cases hq:xf P o.op with
 |true=>
  rw[hq,cond_true]at hs;obtain⟨v,S,hK,hS,hdv,hr⟩:=Hl ha hs d hd;refine ud (K:=fun u h'=>u=v∧h'=w.heap) (Ko hs) (.inl ⟨v,w,hr w hS,Tame.refl w,rfl,rfl⟩) ?_
  rintro u w' ht ⟨rfl,hh⟩;obtain⟨r',hr',ha',hd'⟩:=wQ hK ha hd hdv;exact hk u w' r' ht (by rw[hh];exact hr') ha' hd'
 |false=>
  rw[hq,cond_false]at hs;refine ud (xw hs) (BP ha hs) ?_;intro v w' ht hK;obtain⟨r',hr',ha',hd'⟩:=wQ hK ha hd (dv:=JJ d o.op) (by rw[VB hq];trivial);exact hk v w' r' ht hr' ha' hd'
theorem HN{t:Array Value}{i:Nat}{b:Bool}(h:t.getD i undef=.bool b):t[i]? =some (.bool b):=by
 rw[de]at h;cases hc:t[i]? with
 |none=>rw[hc]at h;simp[undef]at h
 |some v=>rw[hc]at h;simp at h;rw[h]
theorem Ni{t:Array Value}{i:Nat}(h:t.getD i undef=undef):t[i]? =none∨t[i]? =some undef:=by
 rw[de]at h;cases hc:t[i]? with
 |none=>exact .inl rfl
 |some v=>rw[hc]at h;simp at h;rw[h];exact .inr rfl
theorem ru{N:Nat}{ops:Array Oper}{d:vZ}{o:Oper}{b:Bool}{r:cE}{a:Act}(h:jA ops.toList d o=some b)(ha:Agree N r a)(hd:DecOk d r):
  Region.wanted o (yielded ops a.tmps)=b:=by
 unfold jA at h;unfold Region.wanted;cases hg:o.guard with
 |none=>rw[hg]at h;simp only[bO.injEq]at h;exact h
 |some g=>
  obtain⟨j,want⟩:=g;rw[hg]at h;simp only[bE]at h;simp only;cases hj:ops[j]? with
  |none=>rw[hj]at h;cases h
  |some oj=>
   rw[hj]at h;simp only at h;cases ht:oj.dst with
   |none=>rw[ht]at h;cases h
   |some t=>
    rw[ht]at h;simp only at h;have hy:yielded ops a.tmps j=(match a.tmps[t]? with|some (.bool b)=>some b|_=>none):=by
     unfold yielded;simp[hj,ht];rfl
    rw[hy];rcases hd t with hx|⟨v,hv,hk⟩
    ·rw[hx]at h;cases h
    ·have hav:=ha.look t v hv
     cases hdl:sH d t with
     |x=>rw[hdl]at h;cases h
     |t=>
      rw[hdl]at h hk;simp only[bO.injEq]at h;subst h;have:v=.bool true:=hk;subst this;rw[HN hav];cases want<;>rfl
     |f=>
      rw[hdl]at h hk;simp only[bO.injEq]at h;subst h;have:v=.bool false:=hk;subst this;rw[HN hav];cases want<;>rfl
     |u=>
      rw[hdl]at h hk;simp only[bO.injEq]at h;subst h;have:v=undef:=hk;subst this;rcases Ni hav with e|e<;>rw[e]<;>cases want<;>rfl
structure Fr(W:Nat→Prop)(a0:Act)(w0:World)(a:Act)(w:World):Prop where
 tame:Tame w0 w
 defers:a.defers=a0.defers
 same:∀t,¬W t→a.tmps.getD t undef=a0.tmps.getD t undef
theorem Fr.refl(W:Nat→Prop)(a:Act)(w:World):Fr W a w a w:=⟨Tame.refl w,rfl,fun _ _=>rfl⟩
theorem Fr.put{W:Nat→Prop}{a0 a:Act}{w0 w w':World}(h:Fr W a0 w0 a w){o:Oper}(hW:∀d,o.dst=some d→W d)(v:Value)(ht:Tame w w'):Fr W a0 w0 (a.put o.dst v) w':=by
 refine⟨h.tame.trans ht,?_,fun t hn=>?_⟩
 ·cases ho:o.dst<;>simp[Act.put,h.defers]
 ·cases ho:o.dst with
  |none=>exact h.same t hn
  |some d=>
   have hne:d≠t:=fun e=>hn (e▸hW d ho)
   rw[←h.same t hn];simp[Act.put,eX hne]
theorem Fr.trans{W:Nat→Prop}{a0 a1 a2:Act}{w0 w1 w2:World}(h:Fr W a0 w0 a1 w1)(k:Fr W a1 w1 a2 w2):Fr W a0 w0 a2 w2:=
 ⟨h.tame.trans k.tame,k.defers.trans h.defers,fun t ht=>(k.same t ht).trans (h.same t ht)⟩
theorem Fr.mono{W W':Nat→Prop}{a0 a:Act}{w0 w:World}(h:Fr W a0 w0 a w)(hW:∀t,W t→W' t):Fr W' a0 w0 a w:=
 ⟨h.tame,h.defers,fun t ht=>h.same t fun e=>ht (hW t e)⟩
theorem DecOk.known{d:vZ}{r:cE}(h:DecOk d r){t:Nat}{dv:DV}{v:Value}(hv:GX dv v):DecOk ((t,dv)::d) ((t,v)::r):=fun s=>by
 by_cases e:t=s
 ·subst e
  have:sH ((t,dv)::d) t=dv:=by simp[sH]
  rw[this];exact .inr ⟨v,je t v r,hv⟩
 ·have h1:sH ((t,dv)::d) s=sH d s:=by
   have:bP t s=false:=qJ.2 fun e'=>e (aX e')
   show(bif bP t s then dv else sH d s)=_
   rw[this];rfl
  rw[h1,ix v r e];exact h s
theorem Ev{N:Nat}{ek:Option (Kind×Kind)}{ops:Array Oper}{o:Oper}{i:Nat}{d:vZ}{r:cE}{a:Act}{w:World}{b:Bool}{K:vZ→cE→ad→Prop}{next:Act→World→Prop}{Q:Exit→Act→World→Prop}
  (hi:ops[i]? =some o) (hw:jA ops.toList d o=some b) (ha:Agree N r a) (hd:DecOk d r)
  (hs:match b with
   |true=>U0 P N ek o r (K (tF d o (JJ d o.op))) w.heap
   |false=>AV N o undef r fun r'=>K (tF d o .u) r' w.heap)
  (hk:∀v w' d' r',Tame w w'→K d' r' w'.heap→Agree N r' (a.put o.dst v)→DecOk d' r'→next (a.put o.dst v) w'):
  wpOpIn (FW ro) n P ops Q i next a w:=by
 unfold wpOpIn;rw[hi];simp only[ru hw ha hd];cases b with
 |true=>exact Pq hs ha hd fun v w' r' ht hK ha' hd'=>hk v w' _ r' ht hK ha' hd'
 |false=>
  obtain⟨r',hr',ha',hd'⟩:=wQ (dv:=.u) hs ha hd rfl;exact⟨fun _ _=>trivial,hk undef w _ r' (Tame.refl w) hr' ha' hd'⟩
theorem Pp{N:Nat}{ek:Option (Kind×Kind)}{ops:List Oper}{o:Oper}{os:List Oper}{d:vZ}{K:cE→ad→Prop}{r:cE}{h:ad}:EY P N ek ops (o::os) d K r h=
 (match jA ops d o with
 |some true=>U0 P N ek o r (fun r' h'=>EY P N ek ops os (tF d o (JJ d o.op)) K r' h') h
 |some false=>AV N o undef r fun r'=>EY P N ek ops os (tF d o .u) K r' h
 |none=>match Fv ops o with
  |none=>False
  |some t=>match kV r t with
   |some (.bool b)=>CondP b
    (He P N ek ops o ((t,.t)::d) ((t,.bool true)::r) h fun d' r' h'=>EY P N ek ops os d' K r' h')
    (He P N ek ops o ((t,.f)::d) ((t,.bool false)::r) h fun d' r' h'=>EY P N ek ops os d' K r' h')
   |_=>False):=rfl
theorem G6{N:Nat}{ek:Option (Kind×Kind)}{ops:Array Oper}{o:Oper}{i:Nat}{d:vZ}{r:cE}{a:Act}{w:World}{K:vZ→cE→ad→Prop}{next:Act→World→Prop}{Q:Exit→Act→World→Prop}
  (hi:ops[i]? =some o) (ha:Agree N r a) (hd:DecOk d r) (hs:He P N ek ops.toList o d r w.heap K)
  (hk:∀v w' d' r',Tame w w'→K d' r' w'.heap→Agree N r' (a.put o.dst v)→DecOk d' r'→next (a.put o.dst v) w'):
  wpOpIn (FW ro) n P ops Q i next a w:=by
 unfold He at hs;cases hw:jA ops.toList d o with
 |none=>rw[hw]at hs;exact hs.elim
 |some b=>rw[hw]at hs;exact Ev (ek:=ek) hi hw ha hd (by cases b<;>exact hs) hk
theorem EX{N:Nat}{ek:Option (Kind×Kind)}{ops:Array Oper}{W:Nat→Prop}(hW:∀o∈ops.toList,∀d,o.dst=some d→W d){a0:Act}{w0:World}{K:cE→ad→Prop}{Q:Exit→Act→World→Prop}
  (hQ:∀r a w,Agree N r a→Fr W a0 w0 a w→K r w.heap→Q .normal a w):
  ∀(l:List Oper) (i:Nat),ops.toList.drop i=l→∀(d:vZ) (r:cE) (a:Act) (w:World),EY P N ek ops.toList l d K r w.heap→Agree N r a→DecOk d r→Fr W a0 w0 a w→
   wpOpsIn (FW ro) n P ops Q (List.range' i l.length) a w
 | [],i,_,d,r,a,w,hs,ha,hd,hf=>hQ r a w ha hf hs
 |o::os,i,hdr,d,r,a,w,hs,ha,hd,hf=>by
  have hi:ops[i]? =some o:=by
   rw[←bE];have:(ops.toList.drop i)[0]? =some o:=by rw[hdr];rfl
   simpa using this
  have hmem:o∈ops.toList:=kf (by rw[bE];exact hi);have hdr':ops.toList.drop (i+1)=os:=by rw[←List.tail_drop,hdr];rfl
  rw[ak,List.range'_succ,wpOpsIn_cons];rw[Pp]at hs;have go:∀v w' d' r',Tame w w'→EY P N ek ops.toList os d' K r' w'.heap→Agree N r' (a.put o.dst v)→DecOk d' r'→wpOpsIn (FW ro) n P ops Q (List.range' (i+1) os.length) (a.put o.dst v) w':=
   fun v w' d' r' ht hK ha' hd'=>EX hW hQ os (i+1) hdr' d' r' _ w' hK ha' hd' (hf.put (hW o hmem) v ht)
  cases hw:jA ops.toList d o with
  |some b=>
   rw[hw]at hs;exact Ev (ek:=ek) (K:=fun d' r' h'=>EY P N ek ops.toList os d' K r' h') hi hw ha hd (by cases b<;>exact hs) go
  |none=>
   rw[hw]at hs;simp only at hs;split at hs
   ·exact hs.elim
   ·rename_i t ht
    split at hs
    ·rename_i b hb
     cases b with
     |true=>exact G6 hi (ha.known hb) (hd.known (dv:=.t) rfl) (hs.yes rfl) go
     |false=>exact G6 hi (ha.known hb) (hd.known (dv:=.f) rfl) (hs.no rfl) go
    ·exact hs.elim
end Go.Lift
namespace Go.Lift
open Go
theorem CZ(m i:Nat):tb m i=m.testBit i:=by
 have h:j9 (Nat.shiftRight m i) 1=(m>>>i)&&&1:=rfl;unfold tb;rw[h,Nat.testBit_eq_decide_div_mod_eq,Nat.and_one_is_mod,Nat.shiftRight_eq_div_pow];cases hm:decide (m/2^i%2=1)with
 |true=>rw[of_decide_eq_true hm];rfl
 |false=>
  have h2:=of_decide_eq_false hm;have:m/2^i%2=0:=by omega
  rw[this];rfl
theorem pt(a b i:Nat):(cX a b).testBit i=(a.testBit i||b.testBit i):=Nat.testBit_or a b i
theorem zU(i j:Nat):(is i).testBit j=decide (i=j):=Nat.testBit_two_pow
theorem Cx{a b:Nat}(h:bP (j9 a b) 0=true)(t:Nat)(ha:a.testBit t=true)(hb:b.testBit t=true):False:=by
 have h0:=aX h;have:(j9 a b).testBit t=(a.testBit t&&b.testBit t):=lZ a b t;rw[h0,ha,hb]at this;simp at this
theorem TL{a b:Nat}(h:bP (j9 a b) a=true)(t:Nat)(ha:a.testBit t=true):b.testBit t=true:=by
 have h0:=aX h;have:(j9 a b).testBit t=(a.testBit t&&b.testBit t):=lZ a b t;rw[h0,ha]at this;simpa using this.symm
theorem yX(i:Nat):∀l:List Edge,(nL l).testBit i=l.any fun e=>bP e.on i&&Region.binds .any e
 | []=>nX i
 |e::l=>by
  have ih:=yX i l;have hc:nL (e::l)=bif Region.binds .any e then cX (is e.on) (nL l)else nL l:=rfl;rw[hc,List.any_cons,←ih];cases hb:Region.binds .any e with
  |true=>
   rw[cond_true,pt,zU,Bool.and_true];congr 1
   cases hd:bP e.on i with
   |true=>simpa using aX hd
   |false=>rw[decide_eq_false_iff_not];intro e';rw[e']at hd;simp at hd
  |false=>simp
theorem A6(o:Oper)(i:Nat):(nL o.after.toList).testBit i=jN o i:=yX i o.after.toList
theorem An(t:Nat):∀l:List Operand,(mO l).testBit t=true↔Operand.tmp t∈l
 | []=>by simp[show mO []=0 from rfl]
 |o::l=>by
  have ih:=An t l;cases o with
  |tmp u=>
   have hc:mO (.tmp u::l)=cX (is u) (mO l):=rfl;rw[hc,pt,zU,jI,ih,az];simp[eq_comm]
  |const v=>
   have hc:mO (.const v::l)=mO l:=rfl;rw[hc,ih,az];simp
  |global v=>
   have hc:mO (.global v::l)=mO l:=rfl;rw[hc,ih,az];simp
  |func v=>
   have hc:mO (.func v::l)=mO l:=rfl;rw[hc,ih,az];simp
theorem x8(o:Oper)(t:Nat):(o8 o).testBit t=true↔o.dst=some t:=by
 unfold o8;cases o.dst with
 |none=>simp
 |some d=>simp[zU]
theorem Gz(ops:Array Oper)(o:Oper)(t:Nat):(pK ops.toList o).testBit t=true↔t∈o.looksAt ops:=by
 unfold pK Oper.looksAt;rw[pt,jI,An,List.mem_append,List.mem_filterMap];refine or_congr ⟨fun h=>⟨_,h,rfl⟩,?_⟩ ?_
 ·rintro⟨x,hx,he⟩
  cases x<;>simp at he
  subst he;exact hx
 ·cases hg:o.guard with
  |none=>simp
  |some g=>
   obtain⟨j,want⟩:=g;simp only[bE];cases hj:ops[j]? with
   |none=>simp
   |some oj=>simp[x8]
variable {P:Program} {ro:Option Nat} {n:Nat} {ops:Array Oper} {Q:Exit→Act→World→Prop}
structure MsOk(ops:Array Oper)(ms:List DM):Prop where
 am:∀(i:Nat) (o:Oper) (m:DM),ops[i]? =some o→ms[i]? =some m→∀j,m.am.testBit j=jN o j
 lk:∀(i:Nat) (o:Oper) (m:DM),ops[i]? =some o→ms[i]? =some m→∀t,m.lk.testBit t=true↔t∈o.looksAt ops
 ds:∀(i:Nat) (o:Oper) (m:DM),ops[i]? =some o→ms[i]? =some m→∀t,m.ds.testBit t=true↔o.dst=some t
 len:ms.length=ops.size
 free:∀(i j:Nat) (m k:DM),ms[i]? =some m→ms[j]? =some k→m.fr.testBit j=true→j=i∨k.am.testBit i=true∨Cz m k=true
 nosel:∀(i:Nat) (o:Oper),ops[i]? =some o→(∀cs b,o.op≠ .select cs b)∧(∀c,o.op≠ .defer c)
theorem AF(ops:List Oper):∀(l:List Oper) (ms:List DM),xF ops l ms=true→ms.length=l.length∧∀(i:Nat) (o:Oper) (m:DM),l[i]? =some o→ms[i]? =some m→
  m.am=nL o.after.toList∧m.lk=pK ops o∧m.ds=o8 o
 | [],[],_=>⟨rfl,fun i o m h=>by simp at h⟩
 | [],_::_,h=>by cases h
 |o::l,[],h=>by cases h
 |o::l,m::ms,h=>by
  have hc:xF ops (o::l) (m::ms)=(bP (nL o.after.toList) m.am&&bP (pK ops o) m.lk&&bP (o8 o) m.ds&&xF ops l ms):=rfl;rw[hc]at h;simp only[bc]at h;obtain⟨⟨⟨h1,h2⟩,h3⟩,h4⟩:=h;obtain⟨hl,hg⟩:=AF ops l ms h4;refine⟨by simp[hl],fun i o' m' ho hm=>?_⟩
  cases i with
  |zero=>
   simp only[cJ,bO.injEq]at ho hm;subst ho;subst hm;exact⟨(aX h1).symm,(aX h2).symm,(aX h3).symm⟩
  |succ i=>exact hg i o' m' (by simpa using ho) (by simpa using hm)
theorem HO(i:Nat)(m:DM):∀(l:List DM) (j0:Nat),HP i m l j0=true→∀(j:Nat) (k:DM),l[j]? =some k→m.fr.testBit (j0+j)=true→j0+j=i∨k.am.testBit i=true∨Cz m k=true
 | [],j0,_,j,k,hk,_=>by simp at hk
 |x::l,j0,h,j,k,hk,hb=>by
  have hc:HP i m (x::l) j0=((!(tb m.fr j0)||bP j0 i||tb x.am i||Cz m x)&&HP i m l (gm j0)):=rfl
  rw[hc]at h;simp only[bc,jI,qI,CZ]at h;cases j with
  |zero=>
   simp only[cJ,bO.injEq]at hk;subst hk;simp only[Nat.add_zero]at hb⊢;rcases h.1 with((h1|h1)|h1)|h1
   ·rw[h1]at hb;cases hb
   ·exact .inl (aX h1)
   ·exact .inr (.inl h1)
   ·exact .inr (.inr h1)
  |succ j=>
   have:=HO i m l (j0+1) h.2 j k (by simpa using hk) (by rw[show j0+1+j=j0+(j+1) by omega];exact hb)
   rw[show j0+1+j=j0+(j+1) by omega]at this
   exact this
theorem Dt(all:List DM):∀(l:List DM) (i0:Nat),AR all l i0=true→∀(i:Nat) (m:DM),l[i]? =some m→HP (i0+i) m all 0=true
 | [],i0,_,i,m,hm=>by simp at hm
 |x::l,i0,h,i,m,hm=>by
  have hc:AR all (x::l) i0=(HP i0 x all 0&&AR all l (gm i0)):=rfl;rw[hc,bc]at h;cases i with
  |zero=>simp only[cJ,bO.injEq]at hm;subst hm;exact h.1
  |succ i=>
   have:=Dt all l (i0+1) h.2 i m (by simpa using hm);rw[show i0+1+i=i0+(i+1) by omega]at this
   exact this
theorem Hv:∀(l:List Oper),KI l=true→∀o∈l,(∀cs b,o.op≠ .select cs b)∧(∀c,o.op≠ .defer c)
 | [],_,o,ho=>by cases ho
 |x::l,h,o,ho=>by
  simp only[KI,bc]at h;rcases az.1 ho with rfl|ho
  ·refine⟨fun cs b e=>?_,fun c e=>?_⟩
   ·rw[e]at h;cases h.1
   ·rw[e]at h;cases h.1
  ·exact Hv l h.2 o ho
theorem MZ{ms:List DM}(h:Ek ops.toList ms=true):MsOk ops ms:=by
 have hc:Ek ops.toList ms=(xF ops.toList ops.toList ms&&AR ms ms 0&&KI ops.toList):=rfl;rw[hc]at h;simp only[bc]at h;obtain⟨⟨h1,h2⟩,h3⟩:=h;obtain⟨hl,hg⟩:=AF ops.toList ops.toList ms h1;refine⟨fun i o m ho hm j=>?_,fun i o m ho hm t=>?_,fun i o m ho hm t=>?_,by simpa using hl,fun i j m k hm hk hb=>?_,fun i o ho=>?_⟩
 ·rw[(hg i o m (by simpa using ho) hm).1,A6]
 ·rw[(hg i o m (by simpa using ho) hm).2.1,Gz]
 ·rw[(hg i o m (by simpa using ho) hm).2.2,x8]
 ·have:=Dt ms ms 0 h2 i m hm
  rw[aN]at this;have:=HO i m ms 0 this j k hk (by rwa [aN]);rwa [aN]at this
 ·exact Hv _ h3 o (kf (by rw[bE];exact ho))
theorem Si{ms:List DM}(hm:MsOk ops ms){i j:Nat}{oi oj:Oper}{mi mj:DM}(hi:ops[i]? =some oi) (hj:ops[j]? =some oj) (hmi:ms[i]? =some mi) (hmj:ms[j]? =some mj) (h:Cz mi mj=true):
  (∀d,oi.dst=some d→d∉oj.looksAt ops)∧(∀d,oi.dst=some d→oj.dst≠some d)∧(∀d,oj.dst=some d→d∉oi.looksAt ops):=by
 unfold Cz at h;rw[bc]at h;refine⟨fun d hd hl=>?_,fun d hd he=>?_,fun d hd hl=>?_⟩
 ·exact Cx h.1 d ((hm.ds i oi mi hi hmi d).2 hd) (by rw[pt,(hm.lk j oj mj hj hmj d).2 hl,Bool.true_or])
 ·exact Cx h.1 d ((hm.ds i oi mi hi hmi d).2 hd) (by rw[pt,(hm.ds j oj mj hj hmj d).2 he,Bool.or_true])
 ·exact Cx h.2 d ((hm.ds j oj mj hj hmj d).2 hd) ((hm.lk i oi mi hi hmi d).2 hl)
structure LsRel(ops:Array Oper)(ls:Nat)(listed:Array Bool):Prop where
 size:listed.size=ops.size
 bit:∀j,listed.getD j false=ls.testBit j
theorem LsRel.start:LsRel ops 0 (sE ops.size false):=⟨by simp,fun j=>by
 rw[nX,de]
 by_cases h:j<ops.size<;>simp[h]⟩
theorem LsRel.put{ls:Nat}{listed:Array Bool}(h:LsRel ops ls listed){i:Nat}(hi:i<ops.size):LsRel ops (cX ls (is i)) (listed.setIfInBounds i true):=by
 refine⟨by simp[h.size],fun j=>?_⟩
 rw[pt,zU,←h.bit];by_cases e:i=j
 ·subst e;simp[h.size,hi]
 ·simp[e,eX e]
theorem LsRel.unlisted{ls:Nat}{listed:Array Bool}(h:LsRel ops ls listed){i:Nat}(hi:i<ops.size):listed.getD i true=ls.testBit i:=by
 rw[←h.bit];have:i<listed.size:=by rw[h.size];exact hi
 simp[this]
theorem Hk{ms:List DM}(hm:MsOk ops ms){ls:Nat}{listed:Array Bool}(h:LsRel ops ls listed){j:Nat}:j∈Region.ready .any ops listed↔∃m,ms[j]? =some m∧ls.testBit j=false∧JH m ls=true:=by
 rw[mem_ready];constructor
 ·rintro⟨h0,o,ho,hall⟩
  have hj:j<ops.size:=(cB.1 ho).1;have hjm:j<ms.length:=by rw[hm.len];exact hj
  refine⟨ms[j],ai hjm,by rw[←h.unlisted hj];exact h0,?_⟩
  unfold JH;have:j9 (ms[j]).am ls=(ms[j]).am:=by
   apply Nat.eq_of_testBit_eq;intro t;have hand:(j9 (ms[j]).am ls).testBit t=((ms[j]).am.testBit t&&ls.testBit t):=lZ _ _ t;rw[hand];cases ht:(ms[j]).am.testBit t with
   |false=>rfl
   |true=>
    rw[hm.am j o _ ho (ai hjm)]at ht;unfold jN at ht;obtain⟨e,he,hb⟩:=cj.1 ht;simp only[bc]at hb;have:=hall e (by simpa using he) hb.2;rw[aX hb.1,h.bit]at this;rw[this];rfl
  rw[this];exact sX _
 ·rintro⟨m,hmj,h0,hr⟩
  have hj:j<ops.size:=by rw[←hm.len];exact(bI.1 hmj).1
  refine⟨by rw[h.unlisted hj];exact h0,ops[j],fy hj,fun e he hb=>?_⟩
  rw[h.bit];refine TL hr e.on ?_;rw[hm.am j _ m (fy hj) hmj];unfold jN;exact cj.2 ⟨e,by simpa using he,by simp[hb]⟩
theorem tf(ls:Nat):∀(l:List DM) (j0 j:Nat),j∈mU ls l j0↔∃k m,l[k]? =some m∧j=j0+k∧ls.testBit j=false∧JH m ls=true
 | [],j0,j=>by simp[show mU ls [] j0= []from rfl]
 |m::l,j0,j=>by
  have hc:mU ls (m::l) j0=bif !(tb ls j0)&&JH m ls then j0::mU ls l (gm j0)else mU ls l (gm j0):=rfl;have ih:=tf ls l (j0+1) j;rw[hc,CZ];have step:(∃k m',(m::l)[k]? =some m'∧j=j0+k∧ls.testBit j=false∧JH m' ls=true)↔(j=j0∧ls.testBit j0=false∧JH m ls=true)∨j∈mU ls l (j0+1):=by
   rw[ih];constructor
   ·rintro⟨k,m',hk,rfl,h1,h2⟩
    cases k with
    |zero=>simp only[cJ,bO.injEq]at hk;subst hk;exact .inl ⟨rfl,h1,h2⟩
    |succ k=>exact .inr ⟨k,m',by simpa using hk,by omega,h1,h2⟩
   ·rintro(⟨rfl,h1,h2⟩|⟨k,m',hk,rfl,h1,h2⟩)
    ·exact⟨0,m,rfl,rfl,h1,h2⟩
    ·exact⟨k+1,m',by simpa using hk,by omega,h1,h2⟩
  rw[step];cases hb:(!(ls.testBit j0)&&JH m ls)with
  |true=>
   simp only[bc,qI]at hb;rw[cond_true,az];simp[hb.1,hb.2]
  |false=>
   rw[cond_false];constructor
   ·exact .inr
   ·rintro(⟨_,h1,h2⟩|h)
    ·rw[h1,h2]at hb;cases hb
    ·exact h
theorem pY{ms:List DM}(hm:MsOk ops ms){ls:Nat}{listed:Array Bool}(h:LsRel ops ls listed){j:Nat}:j∈Region.ready .any ops listed↔j∈mU ls ms 0:=by
 rw[Hk hm h,tf];constructor
 ·rintro⟨m,h1,h2,h3⟩;exact⟨j,m,h1,by omega,h2,h3⟩
 ·rintro⟨k,m,h1,rfl,h2,h3⟩;exact⟨m,by simpa using h1,h2,h3⟩
theorem yx:∀{a b:List Nat},wz a b=true→a=b
 | [],[],_=>rfl
 | [],_::_,h=>by cases h
 |_::_,[],h=>by cases h
 |a::as,b::bs,h=>by
  simp only[wz,bc]at h;rw[aX h.1,yx h.2]
end Go.Lift
namespace Go.Lift
open Go
variable {P:Program} {ro:Option Nat} {n:Nat} {ops:Array Oper} {Q:Exit→Act→World→Prop}
theorem Am{m:Nat}{p:Nat→Bool}(hm:∀j,m.testBit j=true→p j=true):∀(l:List DM) (j0:Nat),(∀j x,l[j]? =some x→p (j0+j)=true→∀k,x.am.testBit k=true→p k=true)→∀k,(Qq m l j0).testBit k=true→p k=true
 | [],_,_,k,h=>hm k h
 |x::l,j0,hl,k,h=>by
  have hc:Qq m (x::l) j0=bif tb m j0 then cX x.am (Qq m l (gm j0))else Qq m l (gm j0):=rfl;have ih:=Am hm l (j0+1) (fun j y hy hp=>hl (j+1) y (by simpa using hy) (by rw[show j0+(j+1)=j0+1+j by omega];exact hp)) k
  rw[hc,CZ]at h;cases hb:m.testBit j0 with
  |true=>
   rw[hb,cond_true,pt,jI]at h;rcases h with h|h
   ·exact hl 0 x rfl (hm _ hb) k h
   ·exact ih h
  |false=>
   rw[hb,cond_false]at h;exact ih h
theorem Al{m k:Nat}(h:m.testBit k=true):∀(l:List DM) (j0:Nat),(Qq m l j0).testBit k=true
 | [],_=>h
 |x::l,j0=>by
  have hc:Qq m (x::l) j0=bif tb m j0 then cX x.am (Qq m l (gm j0))else Qq m l (gm j0):=rfl;have ih:=Al h l (j0+1);rw[hc];cases tb m j0 with
  |true=>rw[cond_true,pt,jI];exact .inr ih
  |false=>exact ih
def Shut(ms:List DM)(listed:Array Bool):Prop:=∀j x,ms[j]? =some x→listed.getD j false=true→∀k,x.am.testBit k=true→listed.getD k false=true
theorem P3{ms:List DM}{listed:Array Bool}(hs:Shut ms listed){m:Nat}(hm:∀j,m.testBit j=true→listed.getD j false=true){k:Nat}(h:(AX ms m).testBit k=true):listed.getD k false=true:=by
 have hl:∀j x,ms[j]? =some x→(fun k=>listed.getD k false) (0+j)=true→∀k,x.am.testBit k=true→(fun k=>listed.getD k false) k=true:=fun j x hx hp=>hs j x hx (by rw[aN]at hp;exact hp)
 unfold AX at h;exact Am (p:=fun k=>listed.getD k false) (Am (Am (Am hm ms 0 hl) ms 0 hl) ms 0 hl) ms 0 hl k h
theorem P2{ms:List DM}{m k:Nat}(h:m.testBit k=true):(AX ms m).testBit k=true:=by
 unfold AX;exact Al (Al (Al (Al h ms 0) ms 0) ms 0) ms 0
noncomputable abbrev rel(ms:List DM)(i:Nat)(L:sx):sx:=Ax (AX ms (Jq ms i)) L
theorem nz{m:Nat}{x:Nat×(ad→Prop)}:∀{L:sx},x∈Ax m L↔x∈L∧tb m x.1=false
 | []=>by simp[Ax]
 |(k,S)::L=>by
  have ih:=nz (m:=m) (x:=x) (L:=L);simp only[Ax];cases hk:tb m k with
  |true=>
   rw[cond_true,ih,az];constructor
   ·exact fun h=>⟨.inr h.1,h.2⟩
   ·rintro⟨h|h,h2⟩
    ·subst h;rw[hk]at h2;cases h2
    ·exact⟨h,h2⟩
  |false=>
   rw[cond_false,az,ih,az];constructor
   ·rintro(h|h)
    ·subst h;exact⟨.inl rfl,hk⟩
    ·exact⟨.inr h.1,h.2⟩
   ·rintro⟨h|h,h2⟩
    ·exact .inl h
    ·exact .inr ⟨h,h2⟩
def Qy(ms:List DM)(ro:Option Nat)(n:Nat)(P:Program)(ops:Array Oper)(Q:Exit→Act→World→Prop):Nat→sx→Array Bool→Act→World→Prop
 |0,_,listed,a,w=>Region.ready .any ops listed= []∧Q .normal a w
 |f+1,L,listed,a,w=>(Region.ready .any ops listed= []→Q .normal a w)∧
  ∀i∈Region.ready .any ops listed,∀o,ops[i]? =some o→
   wpOpIn (FW ro) n P ops Q i (fun a' w'=>(∀x∈rel ms i L,x.2 w'.heap)∧Qy ms ro n P ops Q f (rel ms i L) (listed.setIfInBounds i true) a' w') a w
theorem Dh{o:Oper}{x:Nat×(ad→Prop)}:∀{L:sx},x∈ug o L↔x∈L∧jN o x.1=false
 | []=>by simp[ug]
 |(k,S)::L=>by
  have ih:=Dh (o:=o) (x:=x) (L:=L);simp only[ug];cases hk:jN o k with
  |true=>
   rw[cond_true,ih,az];constructor
   ·exact fun h=>⟨.inr h.1,h.2⟩
   ·rintro⟨h|h,h2⟩
    ·subst h;rw[hk]at h2;cases h2
    ·exact⟨h,h2⟩
  |false=>
   rw[cond_false,az,ih,az];constructor
   ·rintro(h|h)
    ·subst h;exact⟨.inl rfl,hk⟩
    ·exact⟨.inr h.1,h.2⟩
   ·rintro⟨h|h,h2⟩
    ·exact .inl h
    ·exact .inr ⟨h,h2⟩
theorem Pv{listed:Array Bool}{i:Nat}(h:i∈Region.ready .any ops listed):∃o,ops[i]? =some o:=by
 obtain⟨_,o,ho,_⟩:=mem_ready.1 h;exact⟨o,ho⟩
theorem N9{ms:List DM}:∀(f:Nat) (L:sx) (listed:Array Bool) (a:Act) (w:World),Qy ms ro n P ops Q f L listed a w→wpAnyIn (FW ro) n P .any ops Q f listed a w
 |0,_,_,_,_,h=>h
 |f+1,L,listed,a,w,h=>⟨h.1,fun i hi=>by
  obtain⟨o,ho⟩:=Pv hi
  exact wpOpIn_mono (fun a' w' h'=>N9 f _ _ a' w' h'.2) (h.2 i hi o ho)⟩
theorem xu{ms:List DM}:∀(f:Nat) (L L':sx) (listed:Array Bool) (a:Act) (w:World),(∀x∈L',x∈L∨∀h,x.2 h)→Qy ms ro n P ops Q f L listed a w→Qy ms ro n P ops Q f L' listed a w
 |0,_,_,_,_,_,_,h=>h
 |f+1,L,L',listed,a,w,hs,h=>⟨h.1,fun i hi o ho=>by
  have hsub:∀x∈rel ms i L',x∈rel ms i L∨∀h,x.2 h:=fun x hx=>(hs x (nz.1 hx).1).imp (fun h=>nz.2 ⟨h,(nz.1 hx).2⟩) id
  exact wpOpIn_mono (fun a' w' h'=>⟨fun x hx=>(hsub x hx).elim (h'.1 x) fun h=>h _,xu f _ _ _ a' w' hsub h'.2⟩) (h.2 i hi o ho)⟩
def YG(P:Program)(ops:Array Oper)(S:ad→Prop)(o:Oper)(v:Value)(a:Act):Prop:=
 (Region.wanted o (yielded ops a.tmps)=true∧∀w:World,S w.heap→(execOp a.eval o).run P w=.ok (.value v) w)∨
 (Region.wanted o (yielded ops a.tmps)=false∧v=undef)
theorem YG.wpOp{S:ad→Prop}{i:Nat}{o:Oper}{v:Value}{a:Act}(hi:ops[i]? =some o) (hd:∀c,o.op≠ .defer c) (hy:YG P ops S o v a) {K:Act→World→Prop} {w:World} (hS:S w.heap)
  (h:K (a.put o.dst v) w):wpOpIn (FW ro) n P ops Q i K a w:=by
 unfold wpOpIn;simp only[hi];rcases hy with⟨hw,hv⟩|⟨hw,rfl⟩
 ·simp only[hw,if_true]
  refine⟨fun _ _=>trivial,?_⟩
  rw[Oper.semAt_eq _ _ _ hd,hv w hS];exact h
 ·simp only[hw,Bool.false_eq_true,if_false];exact⟨fun _ _=>trivial,h⟩
theorem YG.of_same{S:ad→Prop}{o:Oper}{v:Value}{a a':Act}(hy:YG P ops S o v a)(he:execOp a'.eval o=execOp a.eval o)
  (hw:Region.wanted o (yielded ops a'.tmps)=Region.wanted o (yielded ops a.tmps)):YG P ops S o v a':=by
 unfold YG at*;rw[he,hw];exact hy
theorem L8{S:ad→Prop}{j:Nat}{oi oj:Oper}{v:Value}(hj:ops[j]? =some oj)
  (hap:(∀d,oi.dst=some d→d∉oj.looksAt ops)∧(∀d,oi.dst=some d→oj.dst≠some d)∧(∀d,oj.dst=some d→d∉oi.looksAt ops))
  (hsi:∀cs b,oi.op≠ .select cs b) (hsj:∀cs b,oj.op≠ .select cs b) (hdj:∀c,oj.op≠ .defer c)
  (hQ:∀e a w,(∀c,e=.panic c→False)∨¬Q e a w) {K:Act→World→Prop} {a:Act} {w:World}
  (hy:YG P ops S oi v a) (h:wpOpIn (FW ro) n P ops Q j K (a.put oi.dst v) w):
  wpOpIn (FW ro) n P ops Q j (fun a' w'=>YG P ops S oi v a'∧K (a'.put oi.dst v) w') a w:=by
 obtain⟨h1,h2,h3⟩:=hap;have hnp:∀c a w,¬Q (.panic c) a w:=fun c a w hq=>(hQ (.panic c) a w).elim (fun h=>h c rfl) fun h=>h hq
 have keep:∀(a:Act),YG P ops S oi v a→∀u,YG P ops S oi v (a.put oj.dst u):=fun a hy u=>
  hy.of_same (execOp_put oi hsi a oj.dst u h3) (wanted_put oi a oj.dst u h3)
 unfold wpOpIn at*;simp only[hj]at*;rw[wanted_put oj a oi.dst v h1]at h;split
 ·rename_i hw
  simp only[hw,if_true]at h;refine⟨fun _ _=>trivial,?_⟩
  have h:=h.2;rw[Oper.semAt_eq _ _ _ hdj,execOp_put oj hsj a oi.dst v h1]at h;rw[Oper.semAt_eq _ _ _ hdj];generalize (execOp a.eval oj).run P w=r at*;cases r with
  |ok x w'=>
   cases x<;>simp only[Oper.uponIn]at h⊢
   case value u=>exact⟨keep a hy u,by rw[←Act.put_comm a v u h2];exact h⟩
   case skip=>exact⟨keep a hy _,by rw[←Act.put_comm a v undef h2];exact h⟩
   case defer d=>
    refine⟨(hy.of_same (a':={a with defers:=d::a.defers}) rfl rfl).of_same (execOp_put oi hsi _ oj.dst undef h3) (wanted_put oi _ oj.dst undef h3),?_⟩;rw[←Act.put_comm _ v undef h2,←Act.put_defers];exact h
   case enter f args=>
    refine⟨h.1,CallsIn.mono h.2 fun e w'' he=>?_⟩
    cases e with
    |returned u=>exact⟨keep a hy u,by rw[←Act.put_comm a v u h2];exact he⟩
    |panicked c=>exact(hnp _ _ _ he).elim
    |outgrown=>exact he
   case row row args=>exact⟨h.1,RowsIn.mono h.2 fun u w'' he=>⟨keep a hy u,by rw[←Act.put_comm a v u h2];exact he⟩⟩
   case round l f tmps assign body=>
    refine⟨h.1,RoundIn.mono h.2 fun e w'' he=>?_⟩
    cases e with
    |returned u=>exact⟨keep a hy u,by rw[←Act.put_comm a v u h2];exact he⟩
    |panicked c=>exact(hnp _ _ _ he).elim
    |outgrown=>exact he
  |halt x w'=>
   cases x<;>simp only[Oper.uponIn]at h⊢
   case panic u=>exact(hnp _ _ _ h).elim
 ·rename_i hw
  simp only[hw]at h;exact⟨fun _ _=>trivial,keep a hy _,by rw[←Act.put_comm a v undef h2];exact h.2⟩
theorem O7{ms:List DM}(hm:MsOk ops ms){i:Nat}{o:Oper}(ho:ops[i]? =some o) (k:Nat):(Jq ms i).testBit k=jN o k:=by
 have hi:i<ms.length:=by rw[hm.len];exact(cB.1 ho).1
 unfold Jq;rw[ai hi];exact hm.am i o _ ho (ai hi) k
theorem Kh{ms:List DM}(hm:MsOk ops ms){listed:Array Bool}{j:Nat}(hj:j∈Region.ready .any ops listed)(k:Nat)(hk:(Jq ms j).testBit k=true):listed.getD k false=true:=by
 obtain⟨_,o,ho,hall⟩:=mem_ready.1 hj;rw[O7 hm ho]at hk;unfold jN at hk;obtain⟨e,he,hb⟩:=cj.1 hk;simp only[bc]at hb;have:=hall e (by simpa using he) hb.2;rw[aX hb.1]at this;exact this
theorem Li{listed:Array Bool}{j k:Nat}(h:listed.getD k false=true):(listed.setIfInBounds j true).getD k false=true:=by
 by_cases e:j=k
 ·subst e
  rw[de]at h⊢;rcases cn j listed.size with h'|h'
  ·simp[h']
  ·simp[lM h']at h
 ·rw[de,eX e,←de]
  exact h
theorem Shut.put{ms:List DM}(hm:MsOk ops ms){listed:Array Bool}(hs:Shut ms listed){j:Nat}(hj:j∈Region.ready .any ops listed):Shut ms (listed.setIfInBounds j true):=by
 intro i x hx hl k hk;by_cases e:j=i
 ·subst e
  refine Li (Kh hm hj k ?_);unfold Jq;rw[hx];exact hk
 ·rw[de,eX e,←de]at hl
  exact Li (hs i x hx hl k hk)
theorem Ew{ms:List DM}(hm:MsOk ops ms){S:ad→Prop}{i:Nat}{oi:Oper}{v:Value}(hi:ops[i]? =some oi) (hsel:∀(j:Nat) (o:Oper),ops[j]? =some o→(∀cs b,o.op≠ .select cs b)∧(∀c,o.op≠ .defer c))
  (hQ:∀e a w,(∀c,e=.panic c→False)∨¬Q e a w):
  ∀(fuel:Nat) (L:sx) (listed:Array Bool) (a:Act) (w:World),
   (∀j oj,ops[j]? =some oj→j≠i→listed.getD j true=false→jN oj i=false→
    (∀d,oi.dst=some d→d∉oj.looksAt ops)∧(∀d,oi.dst=some d→oj.dst≠some d)∧(∀d,oj.dst=some d→d∉oi.looksAt ops))→
   Shut ms listed→i∈Region.ready .any ops listed→YG P ops S oi v a→S w.heap→(∀x∈L,x.2 w.heap)→
   Qy ms ro n P ops Q fuel ((i,S)::L) (listed.setIfInBounds i true) (a.put oi.dst v) w→Qy ms ro n P ops Q (fuel+1) L listed a w:=by
 intro fuel;induction fuel with
 |zero=>
  intro L listed a w _ _ hr hy hS hL H;refine⟨fun h=>(by rw[h]at hr;cases hr),fun j hj oj hoj=>?_⟩
  by_cases hji:j=i
  ·subst hji
   rw[hi]at hoj;cases hoj;exact hy.wpOp hi (hsel _ _ hi).2 hS ⟨fun x hx=>hL x (nz.1 hx).1,H⟩
  ·have:=ready_mono hj hji
   rw[H.1]at this;cases this
 |succ fuel ih=>
  intro L listed a w hfree hsh hr hy hS hL H;refine⟨fun h=>(by rw[h]at hr;cases hr),fun j hj oj hoj=>?_⟩
  by_cases hji:j=i
  ·subst hji
   rw[hi]at hoj;cases hoj;exact hy.wpOp hi (hsel _ _ hi).2 hS ⟨fun x hx=>hL x (nz.1 hx).1,xu _ _ _ _ _ _ (fun x hx=>.inl (aC _ (nz.1 hx).1)) H⟩
  ·have h1:=H.2 j (ready_mono hj hji) oj hoj
   obtain⟨hjun,oj',hoj',hall⟩:=mem_ready.1 hj;rw[hoj]at hoj';cases hoj';have hnot:jN oj i=false:=by
    cases hb:jN oj i with
    |false=>rfl
    |true=>
     unfold jN at hb;obtain⟨e,he,hb⟩:=cj.1 hb;simp only[bc]at hb;have h1:=hall e (by simpa using he) hb.2;rw[aX hb.1]at h1;have h0:=(mem_ready.1 hr).1;rcases cn i listed.size with h'|h'
     ·simp[h']at h0 h1;rw[h0]at h1;cases h1
     ·simp[lM h']at h1
   have hnotT:tb (AX ms (Jq ms j)) i=false:=by
    cases hb:tb (AX ms (Jq ms j)) i with
    |false=>rfl
    |true=>
     rw[CZ]at hb;have h1:=P3 hsh (Kh hm hj) hb;have h0:=(mem_ready.1 hr).1;rcases cn i listed.size with h'|h'
     ·simp[h']at h0 h1;rw[h0]at h1;cases h1
     ·simp[lM h']at h1
   have hrel:rel ms j ((i,S)::L)=(i,S)::rel ms j L:=by simp only[rel,Ax,hnotT,cond_false]
   rw[hrel]at h1;have h2:=L8 hoj (hfree j oj hoj hji hjun hnot) (hsel _ _ hi).1 (hsel _ _ hoj).1 (hsel _ _ hoj).2 hQ hy h1;have hfree':∀k ok,ops[k]? =some ok→k≠i→(listed.setIfInBounds j true).getD k true=false→jN ok i=false→
     (∀d,oi.dst=some d→d∉ok.looksAt ops)∧(∀d,oi.dst=some d→ok.dst≠some d)∧(∀d,ok.dst=some d→d∉oi.looksAt ops):=fun k ok hk hki hun hno=>by
    refine hfree k ok hk hki ?_ hno;by_cases hjk:j=k
    ·subst hjk;exact hjun
    ·rw[getD_set_ne true hjk]at hun;exact hun
   refine wpOpIn_mono (fun a' w' h3=>⟨fun x hx=>h3.2.1 x (aC _ hx),ih (rel ms j L) (listed.setIfInBounds j true) a' w' hfree' (hsh.put hm hj) (ready_mono hr (Ne.symm hji)) h3.1 (h3.2.1 _ (ao ..)) (fun x hx=>h3.2.1 x (aC _ hx)) ?_⟩) h2
   rw[Array.setIfInBounds_comm _ _ hji];exact h3.2.2
theorem wC{h:ad}{R:Prop}:∀{L:sx},vu L h R↔(∀x∈L,x.2 h)∧R
 | []=>by simp[vu]
 |(k,S)::L=>by
  simp only[vu,wC (L:=L),az,forall_eq_or_imp,and_assoc]
theorem Qx{ms:List DM}{f:Nat}{L:sx}{listed:Array Bool}{a:Act}{w:World}(hr:Region.ready .any ops listed= [])(h:Q .normal a w):Qy ms ro n P ops Q f L listed a w:=by
 cases f with
 |zero=>exact⟨hr,h⟩
 |succ f=>exact⟨fun _=>h,by rw[hr];simp⟩
def left(ops:Array Oper)(ls:Nat):Nat:=((List.range ops.size).filter fun j=> !ls.testBit j).length
theorem AK{ls i:Nat}(hi:i<ops.size)(h0:ls.testBit i=false):left ops (cX ls (is i))+1=left ops ls:=by
 have key:∀l:List Nat,l.Nodup→i∈l→(l.filter fun j=> !(cX ls (is i)).testBit j).length+1=(l.filter fun j=> !ls.testBit j).length:=by
  intro l;induction l with
  |nil=>intro _ h;cases h
  |cons x l ih=>
   intro hn hm;rw[List.nodup_cons]at hn;by_cases hx:x=i
   ·subst hx
    have hrest:(l.filter fun j=> !(cX ls (is x)).testBit j)=l.filter fun j=> !ls.testBit j:=by
     apply List.filter_congr;intro y hy;have:x≠y:=fun e=>hn.1 (e▸hy)
     rw[pt,zU,decide_eq_false this,Bool.or_false]
    have h1:(cX ls (is x)).testBit x=true:=by rw[pt,zU];simp
    rw[bG,bG,h1,h0,hrest];rfl
   ·have hm':i∈l:=by rcases az.1 hm with h|h;exact absurd h.symm hx;exact h
    have h1:(cX ls (is i)).testBit x=ls.testBit x:=by rw[pt,zU,decide_eq_false (Ne.symm hx),Bool.or_false]
    have:=ih hn.2 hm';rw[bG,bG,h1];cases ls.testBit x with
    |true=>exact this
    |false=>exact congrArg (· +1) this
 exact key _ List.nodup_range (List.mem_range.2 hi)
theorem PS{N:Nat}{opl:List Oper}{ms:List DM}{ls:Nat}{L:sx}{d:vZ}{K:cE→ad→Prop}{r:cE}{hp:ad}:∀{l:DA},oB P N opl ms l true ls L d K r hp→∃i,i∈Ck l
 | .done,h=>h.elim
 | .take i rest,h=>by
  exfalso;have hc:oB P N opl ms (.take i rest) true ls L d K r hp=(match opl[i]?,ms[i]? with|some _,some _=>False|_,_=>False):=rfl
  rw[hc]at h;split at h<;>exact h
 | .all _,h=>h.elim
 | .pick i _ _,_=>⟨i,ao ..⟩
 | .last i _,_=>⟨i,ao ..⟩
 | .lastT i _,_=>⟨i,ao ..⟩
 | .split ..,h=>h.elim
def NY(ro:Option Nat)(n:Nat)(P:Program)(ops:Array Oper)(Q:Exit→Act→World→Prop)(N:Nat)(ms:List DM)(W:Nat→Prop)(a0:Act)(w0:World)(K:cE→ad→Prop)(da:DA):Prop:=
 ∀(m:Bool) (ls:Nat) (L:sx) (d:vZ) (r:cE) (a:Act) (w:World) (listed:Array Bool) (fuel:Nat),
  oB P N ops.toList ms da m ls L d K r w.heap→Agree N r a→DecOk d r→Fr W a0 w0 a w→LsRel ops ls listed→Shut ms listed→(∀x∈L,x.2 w.heap)→
  (m=false→left ops ls≤fuel→Qy ms ro n P ops Q fuel L listed a w)∧
  (m=true→left ops ls≤fuel+1→∀i∈Ck da,i∈mU ls ms 0→∀o,ops[i]? =some o→
   wpOpIn (FW ro) n P ops Q i (fun a' w'=>(∀x∈rel ms i L,x.2 w'.heap)∧Qy ms ro n P ops Q fuel (rel ms i L) (listed.setIfInBounds i true) a' w') a w)
theorem Ka{N:Nat}{ms:List DM}(hm:MsOk ops ms){W:Nat→Prop}(hW:∀o∈ops.toList,∀d,o.dst=some d→W d){a0:Act}{w0:World}{K:cE→ad→Prop}
  (hQ:∀r a w,Agree N r a→Fr W a0 w0 a w→K r w.heap→Q .normal a w)(hnp:∀e a w,(∀c,e=.panic c→False)∨¬Q e a w)(da:DA):
  NY ro n P ops Q N ms W a0 w0 K da:=by
 have one:∀(i:Nat) (rest:DA)
   (_:NY ro n P ops Q N ms W a0 w0 K rest)
   (ls:Nat) (L:sx) (d:vZ) (r:cE) (a:Act) (w:World) (listed:Array Bool) (fuel:Nat),
   Ps P N ops.toList i L d r w.heap (fun L' d' r' h'=>oB P N ops.toList ms rest false (cX ls (is i)) L' d' K r' h')→Agree N r a→DecOk d r→Fr W a0 w0 a w→LsRel ops ls listed→Shut ms listed→
   left ops ls≤fuel+1→i∈mU ls ms 0→∀o,ops[i]? =some o→
    wpOpIn (FW ro) n P ops Q i (fun a' w'=>(∀x∈rel ms i L,x.2 w'.heap)∧Qy ms ro n P ops Q fuel (rel ms i L) (listed.setIfInBounds i true) a' w') a w:=by
  intro i rest ih ls L d r a w listed fuel hs ha hd hf hl hsh hfu hr o ho;have hio:i<ops.size:=(cB.1 ho).1;obtain⟨k,mm,hk,hki,hbit,_⟩:=(tf ls ms 0 i).1 hr;unfold Ps at hs;rw[bE,ho]at hs;simp only at hs;cases hw:jA ops.toList d o with
  |none=>rw[hw]at hs;exact hs.elim
  |some b=>
   rw[hw]at hs;cases b with
   |false=>exact hs.elim
   |true=>
    simp only at hs;cases hq:xf P o.op with
    |true=>rw[hq]at hs;exact hs.elim
    |false=>
     rw[hq,cond_false]at hs;unfold wpOpIn;rw[ho];simp only[ru hw ha hd,if_true];refine ud (xw hs) (BP ha hs) ?_;intro v w' ht hK;obtain⟨r',hr',ha',hd'⟩:=wQ (dv:=.x) hK ha hd trivial;obtain⟨hh,hs'⟩:=wC.1 hr';have hmem:o∈ops.toList:=kf (by rw[bE];exact ho);have hleft:=AK hio hbit;have hsubR:∀x∈rel ms i L,x∈ug o L:=fun x hx=>Dh.2 ⟨(nz.1 hx).1,by
      cases hb:jN o x.1 with
      |false=>rfl
      |true=>
        have:=(nz.1 hx).2
        rw[CZ,P2 (by rw[O7 hm ho];exact hb)]at this;cases this⟩
     exact⟨fun x hx=>hh x (hsubR x hx),xu _ _ _ _ _ _ (fun x hx=>.inl (hsubR x hx)) ((ih false _ _ _ r' _ w' _ fuel hs' ha' hd' (hf.put (hW o hmem) v ht) (hl.put hio) (hsh.put hm ((pY hm hl).2 hr)) hh).1 rfl (by omega))⟩
 have oneT:∀(i:Nat) (rest:DA)
   (_:NY ro n P ops Q N ms W a0 w0 K rest)
   (ls:Nat) (L:sx) (d:vZ) (r:cE) (a:Act) (w:World) (listed:Array Bool) (fuel:Nat),
   Ot P N ops.toList ms i L d r w.heap (fun L' d' r' h'=>oB P N ops.toList ms rest false (cX ls (is i)) L' d' K r' h')→Agree N r a→DecOk d r→Fr W a0 w0 a w→LsRel ops ls listed→Shut ms listed→
   left ops ls≤fuel+1→i∈mU ls ms 0→∀o,ops[i]? =some o→
    wpOpIn (FW ro) n P ops Q i (fun a' w'=>(∀x∈rel ms i L,x.2 w'.heap)∧Qy ms ro n P ops Q fuel (rel ms i L) (listed.setIfInBounds i true) a' w') a w:=by
  intro i rest ih ls L d r a w listed fuel hs ha hd hf hl hsh hfu hr o ho;have hio:i<ops.size:=(cB.1 ho).1;obtain⟨k,mm,hk,hki,hbit,_⟩:=(tf ls ms 0 i).1 hr;unfold Ot at hs;rw[bE,ho]at hs;simp only at hs;cases hw:jA ops.toList d o with
  |none=>rw[hw]at hs;exact hs.elim
  |some b=>
   rw[hw]at hs;cases b with
   |false=>exact hs.elim
   |true=>
    simp only at hs;cases hq:xf P o.op with
    |true=>rw[hq]at hs;exact hs.elim
    |false=>
     rw[hq,cond_false]at hs;unfold wpOpIn;rw[ho];simp only[ru hw ha hd,if_true];refine ud (xw hs) (BP ha hs) ?_;intro v w' ht hK;obtain⟨r',hr',ha',hd'⟩:=wQ (dv:=.x) hK ha hd trivial;obtain⟨hh,hs'⟩:=wC.1 hr';have hmem:o∈ops.toList:=kf (by rw[bE];exact ho);have hleft:=AK hio hbit;exact⟨hh,(ih false _ _ _ r' _ w' _ fuel hs' ha' hd' (hf.put (hW o hmem) v ht) (hl.put hio) (hsh.put hm ((pY hm hl).2 hr)) hh).1 rfl (by omega)⟩
 induction da with
 |done=>
  intro m ls L d r a w listed fuel hs ha hd hf hl hsh hL;cases m with
  |true=>exact hs.elim
  |false=>
   refine⟨fun _ _=>?_,fun h=>by cases h⟩
   have hc:oB P N ops.toList ms .done false ls L d K r w.heap=bif wz (mU ls ms 0) []then K r w.heap else False:=rfl;rw[hc]at hs;cases hb:wz (mU ls ms 0) []with
   |false=>rw[hb]at hs;exact hs.elim
   |true=>
    rw[hb]at hs;have hnil:Region.ready .any ops listed= []:=by
     apply List.eq_nil_iff_forall_not_mem.2;intro j hj;rw[pY hm hl,yx hb]at hj;cases hj
    exact Qx hnil (hQ r a w ha hf hs)
 |take i rest ih=>
  intro m ls L d r a w listed fuel hs ha hd hf hl hsh hL;cases m with
  |true=>
   exfalso;have hc:oB P N ops.toList ms (.take i rest) true ls L d K r w.heap=(match ops.toList[i]?,ms[i]? with|some _,some _=>False|_,_=>False):=rfl
   rw[hc]at hs;split at hs<;>exact hs
  |false=>
   refine⟨fun _ hfu=>?_,fun h=>by cases h⟩
   have hc:oB P N ops.toList ms (.take i rest) false ls L d K r w.heap=(match ops.toList[i]?,ms[i]? with
    |some o,some mi=>bif EK mi i ls ops.toList.length then
      (match jA ops.toList d o with
       |none=>False
       |some false=>AV N o undef r fun r'=>oB P N ops.toList ms rest false (cX ls (is i)) L (tF d o .u) K r' w.heap
       |some true=>bif xf P o.op then
          B9 P none o.op r (fun v S=>AV N o v r fun r'=>match S with
            |none=>oB P N ops.toList ms rest false (cX ls (is i)) L (tF d o (JJ d o.op)) K r' w.heap
            |some S=>oB P N ops.toList ms rest false (cX ls (is i)) ((i,S)::L) (tF d o (JJ d o.op)) K r' w.heap) w.heap
          else False)
     else False
    |_,_=>False):=rfl
   rw[hc]at hs;split at hs
   ·rename_i o mi ho hmi
    rw[bE]at ho;cases htk:EK mi i ls ops.toList.length with
    |false=>rw[htk]at hs;exact hs.elim
    |true=>
     rw[htk,cond_true]at hs;unfold EK at htk;simp only[bc,qI,CZ]at htk;obtain⟨⟨hun,hrd⟩,hfr⟩:=htk;have hio:i<ops.size:=(cB.1 ho).1;have hready:i∈Region.ready .any ops listed:=(Hk hm hl).2 ⟨mi,hmi,hun,hrd⟩;have hleft:=AK (ops:=ops) hio hun;obtain⟨f',rfl⟩:∃f',fuel=f'+1:=⟨fuel-1,by omega⟩
     have hmem:o∈ops.toList:=kf (by rw[bE];exact ho);have hcov:∀j,j<ops.size→ls.testBit j=true∨mi.fr.testBit j=true:=by
      intro j hj;have h0:=aX hfr;have hpb:(yn (is ops.toList.length)).testBit j=true:=by
        have:yn (is ops.toList.length)=2^ops.toList.length-1:=rfl;rw[this,Nat.testBit_two_pow_sub_one];simpa using hj
      have hand:(j9 (cX ls mi.fr) (yn (is ops.toList.length))).testBit j=((cX ls mi.fr).testBit j&&(yn (is ops.toList.length)).testBit j):=lZ _ _ j;rw[h0,hpb,Bool.and_true,pt]at hand;exact(Bool.or_eq_true_iff).1 hand.symm
     have hfree:∀j oj,ops[j]? =some oj→j≠i→listed.getD j true=false→jN oj i=false→
        (∀d,o.dst=some d→d∉oj.looksAt ops)∧(∀d,o.dst=some d→oj.dst≠some d)∧(∀d,oj.dst=some d→d∉o.looksAt ops):=by
      intro j oj hoj hne hju hna;have hj:j<ops.size:=(cB.1 hoj).1;rw[hl.unlisted hj]at hju;have hjm:j<ms.length:=by rw[hm.len];exact hj
      have hmj:=ai hjm;rcases hcov j hj with h|h
      · rw[h]at hju;cases hju
      · rcases hm.free i j mi _ hmi hmj h with h|h|h
        ·exact absurd h hne
        ·rw[hm.am j oj _ hoj hmj,hna]at h;cases h
        ·exact Si hm ho hoj hmi hmj h
     cases hw:jA ops.toList d o with
     |none=>rw[hw]at hs;exact hs.elim
     |some b=>
      rw[hw]at hs;have hwd:=ru hw ha hd;cases b with
      |false=>
        obtain⟨r',hr',ha',hd'⟩:=wQ (dv:=.u) hs ha hd rfl;have hy:YG P ops (fun _=>True) o undef a:=.inr ⟨hwd,rfl⟩
        refine Ew hm ho hm.nosel hnp f' L listed a w hfree hsh hready hy trivial hL ?_;refine xu _ L _ _ _ _ (fun x hx=>(az.1 hx).elim (fun e=>.inr fun h=>by rw[e];trivial) .inl) ?_
        exact(ih false _ _ _ r' _ w _ f' hr' ha' hd' (hf.put (hW o hmem) undef (Tame.refl w)) (hl.put hio) (hsh.put hm hready) hL).1 rfl (by omega)
      |true=>
        simp only at hs;cases hq:xf P o.op with
        |false=>rw[hq]at hs;exact hs.elim
        |true=>
         rw[hq,cond_true]at hs;obtain⟨v,S,hK,hS,hdv,hrun⟩:=Hl ha hs d hd;obtain⟨r',hr',ha',hd'⟩:=wQ hK ha hd hdv;have hfr':=hf.put (hW o hmem) v (Tame.refl w);cases S with
         |none=>
           have hy:YG P ops (fun _=>True) o v a:=.inl ⟨hwd,fun w _=>hrun w trivial⟩
           refine Ew hm ho hm.nosel hnp f' L listed a w hfree hsh hready hy trivial hL ?_;refine xu _ L _ _ _ _ (fun x hx=>(az.1 hx).elim (fun e=>.inr fun h=>by rw[e];trivial) .inl) ?_
           exact(ih false _ _ _ r' _ w _ f' hr' ha' hd' hfr' (hl.put hio) (hsh.put hm hready) hL).1 rfl (by omega)
         |some S=>
           have hy:YG P ops S o v a:=.inl ⟨hwd,fun w h=>hrun w h⟩
           refine Ew hm ho hm.nosel hnp f' L listed a w hfree hsh hready hy hS hL ?_;exact(ih false _ _ _ r' _ w _ f' hr' ha' hd' hfr' (hl.put hio) (hsh.put hm hready) (fun x hx=>(az.1 hx).elim (fun e=>by rw[e];exact hS) (hL x))).1 rfl (by omega)
   ·exact hs.elim
 |all l ih=>
  intro m ls L d r a w listed fuel hs ha hd hf hl hsh hL;cases m with
  |true=>exact hs.elim
  |false=>
   refine⟨fun _ hfu=>?_,fun h=>by cases h⟩
   have hc:oB P N ops.toList ms (.all l) false ls L d K r w.heap=bif wz (mU ls ms 0) (Ck l)then oB P N ops.toList ms l true ls L d K r w.heap else False:=rfl;rw[hc]at hs;cases hb:wz (mU ls ms 0) (Ck l)with
   |false=>rw[hb]at hs;exact hs.elim
   |true=>
    rw[hb,cond_true]at hs;obtain⟨i,hi⟩:=PS hs;rw[←yx hb]at hi;have hrd:=(pY hm hl (j:=i)).2 hi;obtain⟨k,mm,hk,hki,hbit,_⟩:=(tf ls ms 0 i).1 hi;have hio:i<ops.size:=by
     have:=(bI.1 hk).1;rw[hm.len]at this;omega
    have hleft:=AK (ops:=ops) hio hbit;obtain⟨f',rfl⟩:∃f',fuel=f'+1:=⟨fuel-1,by omega⟩
    refine⟨fun h=>(by rw[h]at hrd;cases hrd),fun j hj o ho=>?_⟩
    have hj':=(pY hm hl).1 hj;exact(ih true ls L d r a w listed f' hs ha hd hf hl hsh hL).2 rfl hfu j (by rw[←yx hb];exact hj') hj' o ho
 |pick i rest more ih1 ih2=>
  intro m ls L d r a w listed fuel hs ha hd hf hl hsh hL;cases m with
  |false=>exact hs.elim
  |true=>
   refine⟨fun h=>(by cases h),fun _ hfu j hj hjr o ho=>?_⟩
   have hs:Ps P N ops.toList i L d r w.heap (fun L' d' r' h'=>oB P N ops.toList ms rest false (cX ls (is i)) L' d' K r' h')∧oB P N ops.toList ms more true ls L d K r w.heap:=hs
   rcases az.1 hj with rfl|hj
   ·exact one _ rest ih1 ls L d r a w listed fuel hs.1 ha hd hf hl hsh hfu hjr o ho
   ·exact(ih2 true ls L d r a w listed fuel hs.2 ha hd hf hl hsh hL).2 rfl hfu j hj hjr o ho
 |last i rest ih=>
  intro m ls L d r a w listed fuel hs ha hd hf hl hsh hL;cases m with
  |false=>exact hs.elim
  |true=>
   refine⟨fun h=>(by cases h),fun _ hfu j hj hjr o ho=>?_⟩
   have hs:Ps P N ops.toList i L d r w.heap (fun L' d' r' h'=>oB P N ops.toList ms rest false (cX ls (is i)) L' d' K r' h'):=hs
   have hji:j=i:=aA.1 hj;subst hji;exact one _ rest ih ls L d r a w listed fuel hs ha hd hf hl hsh hfu hjr o ho
 |lastT i rest ih=>
  intro m ls L d r a w listed fuel hs ha hd hf hl hsh hL;cases m with
  |false=>exact hs.elim
  |true=>
   refine⟨fun h=>(by cases h),fun _ hfu j hj hjr o ho=>?_⟩
   have hs:Ot P N ops.toList ms i L d r w.heap (fun L' d' r' h'=>oB P N ops.toList ms rest false (cX ls (is i)) L' d' K r' h'):=hs
   have hji:j=i:=aA.1 hj;subst hji;exact oneT _ rest ih ls L d r a w listed fuel hs ha hd hf hl hsh hfu hjr o ho
 |split t yes no ih1 ih2=>
  intro m ls L d r a w listed fuel hs ha hd hf hl hsh hL;cases m with
  |true=>exact hs.elim
  |false=>
   refine⟨fun _ hfu=>?_,fun h=>by cases h⟩
   have hc:oB P N ops.toList ms (.split t yes no) false ls L d K r w.heap=(match kV r t with
    |some (.bool b)=>CondP b (oB P N ops.toList ms yes false ls L ((t,.t)::d) K ((t,.bool true)::r) w.heap) (oB P N ops.toList ms no false ls L ((t,.f)::d) K ((t,.bool false)::r) w.heap)
    |_=>False):=rfl
   rw[hc]at hs;split at hs
   ·rename_i b hlk
    cases b with
    |true=>exact(ih1 false ls L _ _ a w listed fuel (hs.yes rfl) (ha.known hlk) (hd.known rfl) hf hl hsh hL).1 rfl hfu
    |false=>exact(ih2 false ls L _ _ a w listed fuel (hs.no rfl) (ha.known hlk) (hd.known rfl) hf hl hsh hL).1 rfl hfu
   ·exact hs.elim
end Go.Lift
namespace Go.Lift
open Go
variable {P:Program} {ro:Option Nat} {n:Nat}
theorem HG{r:cE}:∀{l:List Nat} {r0:cE},OQ r l=some r0→∀t v,kV r0 t=some v→t∈l∧kV r t=some v
 | [],r0,h,t,v,hv=>by cases h;cases hv
 |s::l,r0,h,t,v,hv=>by
  have h:(match kV r s,OQ r l with|some v,some l=>some ((s,v)::l)|_,_=>none)=some r0:=h
  split at h
  ·rename_i u l' hu hl
   cases h;by_cases e:s=t
   ·subst e;rw[je]at hv;cases hv;exact⟨ao ..,hu⟩
   ·rw[ix u _ e]at hv
    have:=HG hl t v hv;exact⟨aC _ this.1,this.2⟩
  ·cases h
theorem Ce{m:Nat}{t:Nat}{v:Value}:∀{r:cE},kV (xI m r) t=some v→m.testBit t=false∧kV r t=some v
 | [],h=>by cases h
 |(k,u)::r,h=>by
  have h:kV (bif tb m k then xI m r else(k,u)::xI m r) t=some v:=h;cases hk:tb m k with
  |true=>
   rw[hk]at h;have:=Ce h;by_cases e:k=t
   ·subst e;rw[CZ,this.1]at hk;cases hk
   ·rw[ix u _ e];exact this
  |false=>
   rw[hk]at h;have h:kV ((k,u)::xI m r) t=some v:=h;by_cases e:k=t
   ·subst e;rw[je]at h⊢;rw[CZ]at hk;exact⟨hk,h⟩
   ·rw[ix u _ e]at h⊢;exact Ce h
theorem BO{t:Nat}:∀{l:List Oper},(QB l).testBit t=false→¬mM t l=true
 | [],_,h=>by cases h
 |o::l,hm,h=>by
  have hm:(cX (o8 o) (QB l)).testBit t=false:=hm;rw[pt,nq]at hm;have h:(match o.dst with|some d=>bif bP d t then true else mM t l|none=>mM t l)=true:=h
  cases hd:o.dst with
  |none=>rw[hd]at h;exact BO hm.2 h
  |some d=>
   rw[hd]at h;cases e:bP d t with
   |true=>have:=(x8 o t).2 (by rw[hd,aX e]);rw[hm.1]at this;cases this
   |false=>simp only[e]at h;exact BO hm.2 h
theorem KH{a b:Option Nat}{m:Nat}(h:Vp a b=some m):∃x y,a=some x∧b=some y∧m=cX x y:=by
 cases a<;>cases b<;>cases h
 exact⟨_,_,rfl,rfl,rfl⟩
theorem QA{t:Nat}(c:Code):∀{m:Nat},yO c=some m→m.testBit t=false→¬g7 t c=true:=by
 induction c with
 |skip=>intro m _ _ h;cases h
 |region id ops dr=>intro m h hm hw;cases h;exact BO hm hw
 |seq a b iha ihb=>
  intro m h hm hw;obtain⟨x,y,hx,hy,rfl⟩:=KH (show Vp (yO a) (yO b)=some m from h)
  rw[pt,nq]at hm;have hw:(bif g7 t a then true else g7 t b)=true:=hw;cases ha:g7 t a with
  |true=>exact iha hx hm.1 ha
  |false=>rw[ha]at hw;exact ihb hy hm.2 hw
 |cond c a b iha ihb=>
  intro m h hm hw;obtain⟨x,y,hx,hy,rfl⟩:=KH (show Vp (yO a) (yO b)=some m from h)
  rw[pt,nq]at hm;have hw:(bif g7 t a then true else g7 t b)=true:=hw;cases ha:g7 t a with
  |true=>exact iha hx hm.1 ha
  |false=>rw[ha]at hw;exact ihb hy hm.2 hw
 |block id b ih=>exact fun h hm=>ih h hm
 |loop b ih=>exact fun h hm=>ih h hm
 |rangeFunc _ _ _ _ _ _=>intro m h;cases h
 |scope b ih=>exact fun h hm=>ih h hm
 |_=>intro m _ _ h;cases h
theorem Agree.keep{N:Nat}{r r':cE}{a a':Act}{w w':World}{m:Nat}{c:Code}(h:Agree N r a)(hm:yO c=some m)(hf:Fr (fun t=>g7 t c=true) a w a' w')(h':Agree N r' a'):Agree N (xI m r) a':=
 ⟨h'.size,fun t v hv=>by
  obtain⟨hb,hr⟩:=Ce hv
  rw[hf.same t (QA c hm hb)];exact h.look t v hr⟩
theorem xz{st:St}{r:cE}{f:cN (zv st)→Prop}(h:Dc st r f):∃t,ES r st=some (oG (zv st) t)∧f t:=by
 unfold Dc at h;split at h
 ·rename_i vs hv
  obtain⟨t,rfl,hf⟩:=tE h;exact⟨t,hv,hf⟩
 ·exact h.elim
theorem Agree.zip{N:Nat}{r:cE}{a:Act}(h:Agree N r a):∀{st:St} {vs:List Value} {r0:cE},ES r st=some vs→Agree N r0 a→Agree N (oU st vs r0) a
 | [],vs,r0,_,h0=>by cases vs<;>exact h0
 |(i,k)::st,vs,r0,hv,h0=>by
  unfold ES at hv;split at hv
  ·rename_i v vs' h1 h2
   cases hv;have:=Agree.zip h h2 h0;refine⟨this.size,fun t u hu=>?_⟩
   by_cases e:i=t
   ·subst e
    rw[show oU ((i,k)::st) (v::vs') r0=(i,v)::oU st vs' r0 from rfl,je]at hu;cases hu
    exact h.look i v h1
   ·rw[show oU ((i,k)::st) (v::vs') r0=(i,v)::oU st vs' r0 from rfl,ix v _ e]at hu
    exact this.look t u hu
  ·cases hv
theorem Ai{t:Nat}:∀{l:List Oper} {o:Oper},o∈l→o.dst=some t→mM t l=true
 | [],_,h,_=>by cases h
 |x::l,o,h,hd=>by
  have e:mM t (x::l)=(match x.dst with|some d=>bif bP d t then true else mM t l|none=>mM t l):=rfl
  rw[e];rcases az.1 h with rfl|h
  ·rw[hd];simp only;rw[show bP t t=true from sX t];rfl
  ·have:=Ai h hd
   cases x.dst with
   |none=>exact this
   |some d=>
    simp only;cases bP d t with
    |true=>rfl
    |false=>exact this
def LWP(ro:Option Nat)(n:Nat)(P:Program)(c:Code)(Q:Exit→Act→World→Prop)(a:Act)(w:World):Prop:=
 ∀(b:Frame) (k:List Item) (cs:List Frame),b.roundOf=(FW ro).round→(FW ro).fn b.fn→(FW ro).room (cs.length+1+n)→
  ∃e a' w',Q e a' w'∧ArrivesIn (Machine.fenced P (FW ro)) P (lone (b.atR a (.code c:: .inLoop c::k)) cs w) b k cs e a' w'
theorem LWP.step{c:Code}{Q:Exit→Act→World→Prop}{a:Act}{w:World}(h:c.wpIn (FW ro) n P (Exit.then (LWP ro n P c Q) Q) a w):LWP ro n P c Q a w:=by
 intro b k cs hro hb hr;obtain⟨e,a₁,w₁,hq,harr⟩:=h b (.inLoop c::k) cs hro hb hr;cases e with
 |normal=>
  obtain⟨e₂,a₂,w₂,hq₂,harr₂⟩:=hq b k cs hro hb hr;exact⟨e₂,a₂,w₂,hq₂,.of_steps (StepsIn.trans harr (.one (fenced_calm hb hr rfl) stepR_inLoop)) harr₂⟩
 |exit id=>exact⟨_,a₁,w₁,hq,.pass (x:=.inLoop c) rfl (fun _ _=>.inl (by simp)) harr⟩
 |goto l=>exact⟨_,a₁,w₁,hq,.pass (x:=.inLoop c) rfl (fun _ _=>.inl (by simp)) harr⟩
 |ret=>exact⟨_,a₁,w₁,hq,.pass (x:=.inLoop c) rfl (fun _ _=>.inl (by simp)) harr⟩
 |panic ch=>exact⟨_,a₁,w₁,hq,.pass (x:=.inLoop c) rfl (fun _ _=>.inl (by simp)) harr⟩
 |outgrown=>exact⟨_,a₁,w₁,hq,.pass (x:=.inLoop c) rfl (fun _ _=>.inl (by simp)) harr⟩
theorem LWP.loop{c:Code}{Q:Exit→Act→World→Prop}{a:Act}{w:World}(h:LWP ro n P c Q a w):(Code.loop c).wpIn (FW ro) n P Q a w:=by
 intro b k cs hro hb hr;obtain⟨e,a',w',hq,harr⟩:=h b k cs hro hb hr;exact⟨e,a',w',hq,.of_steps (.one (fenced_calm hb hr rfl) stepR_loop) harr⟩
theorem HU(r:cE):DecOk [] r:=fun _=>.inl rfl
theorem Tt(ops:Array Oper)(ls:Nat):left ops ls≤ops.size:=by
 unfold left;exact Nat.le_trans (List.length_filter_le ..) (by simp)
theorem mP(hmix:P.follows .mixedOrders=true){N id:Nat}{ops:Array Oper}{dr:Bool}{an:Ann}{K:cE→ad→Prop}{r:cE}{a:Act}{w:World}{Q:Exit→Act→World→Prop}
  (hs:BZ P N ops.toList dr an K r w.heap)(ha:Agree N r a)(hp:∀c a w,¬Q (.panic c) a w)
  (hn:∀r' a' w',Agree N r' a'→Fr (fun t=>mM t ops.toList=true) a w a' w'→K r' w'.heap→Q .normal a' w'):(Code.region id ops dr).wpIn (FW ro) n P Q a w:=by
 have hW:∀o∈ops.toList,∀d,o.dst=some d→mM d ops.toList=true:=fun o ho d hd=>Ai ho hd
 cases dr with
 |false=>
  have key:∀ek,EY P N ek ops.toList ops.toList [] K r w.heap→(Code.region id ops false).wpIn (FW ro) n P Q a w:=fun ek hs=>by
   refine wpIn_region ?_;rw[List.range_eq_range',show ops.size=ops.toList.length from rfl]
   exact EX hW hn ops.toList 0 rfl [] r a w hs ha (HU r) (Fr.refl _ a w)
  unfold BZ at hs;simp only at hs;split at hs
  ·exact key _ hs
  ·exact key _ hs
 |true=>
  unfold BZ at hs;simp only at hs;generalize OI ops.toList=ms at hs;cases hm:Ek ops.toList ms with
  |false=>rw[hm]at hs;exact hs.elim
  |true=>
   rw[hm,cond_true]at hs;refine wpIn_region_any hmix (N9 (ms:=ms) _ [] _ _ _ ?_);have ht:Tame w {w with drawn:=w.drawn+1}:=⟨rfl,rfl,rfl⟩;have hf:Fr (fun t=>mM t ops.toList=true) a w a {w with drawn:=w.drawn+1}:=⟨ht,rfl,fun _ _=>rfl⟩
   refine(Ka (MZ hm) hW hn (fun e a w=>?_) _ false 0 [] [] r a {w with drawn:=w.drawn+1} _ ops.size hs ha (HU r) hf LsRel.start (fun j x _ h=>by rw[(LsRel.start (ops:=ops)).bit,nX]at h;cases h) (fun x hx=>by cases hx)).1 rfl (Tt ops 0)
   cases e with
   |panic ch=>exact .inr (hp _ a w)
   |_=>exact .inl fun c hc=>by cases hc
theorem Eu(t:Nat)(x y:Code):g7 t (.seq x y)=(bif g7 t x then true else g7 t y):=rfl
theorem CW(t:Nat)(c:Operand)(x y:Code):g7 t (.cond c x y)=(bif g7 t x then true else g7 t y):=rfl
theorem Jm{a b:Bool}:(bif a then true else b)=true↔a=true∨b=true:=by cases a<;>cases b<;>decide
theorem ue(hmix:P.follows .mixedOrders=true){N:Nat}(c:Code):∀(an:Ann) (Kn:cE→ad→Prop) (Kx:Ex→cE→ad→Prop) (r:cE) (a:Act) (w:World) (Q:Exit→Act→World→Prop),
  mo P N c an Kn Kx r w.heap→Agree N r a→(∀ch a w,¬Q (.panic ch) a w)→
  (∀r' a' w',Agree N r' a'→Fr (fun t=>g7 t c=true) a w a' w'→Kn r' w'.heap→Q .normal a' w')→
  (∀i r' a' w',Agree N r' a'→Fr (fun t=>g7 t c=true) a w a' w'→Kx (.exit i) r' w'.heap→Q (.exit i) a' w')→
  (∀r' a' w',Agree N r' a'→Fr (fun t=>g7 t c=true) a w a' w'→Kx .ret r' w'.heap→Q .ret a' w')→
  c.wpIn (FW ro) n P Q a w:=by
 induction c with
 |skip=>
  intro an Kn Kx r a w Q hs ha _ hn _ _;exact wpIn_skip (hn r a w ha (Fr.refl ..) hs)
 |region id ops dr=>
  intro an Kn Kx r a w Q hs ha hp hn _ _;cases an with
  |reg keep inner=>
   have hs:BZ P N ops.toList dr inner (fun r' h'=>match OQ r' keep with|some r0=>Kn r0 h'|none=>False) r w.heap:=hs
   refine mP hmix hs ha hp fun r' a' w' ha' hf hk=>?_
   split at hk
   ·rename_i r0 hr0
    refine hn r0 a' w' ⟨ha'.size,fun t v hv=>ha'.look t v (HG hr0 t v hv).2⟩ hf hk
   ·exact hk.elim
  |nil=>exact mP hmix (show BZ P N ops.toList dr (.nil) Kn r w.heap from hs) ha hp hn
  |node x y=>exact mP hmix (show BZ P N ops.toList dr (.node x y) Kn r w.heap from hs) ha hp hn
  |join st x y=>exact mP hmix (show BZ P N ops.toList dr (.join st x y) Kn r w.heap from hs) ha hp hn
  |loop st y=>exact mP hmix (show BZ P N ops.toList dr (.loop st y) Kn r w.heap from hs) ha hp hn
  |draw d=>exact mP hmix (show BZ P N ops.toList dr (.draw d) Kn r w.heap from hs) ha hp hn
  |kinds k v=>exact mP hmix (show BZ P N ops.toList dr (.kinds k v) Kn r w.heap from hs) ha hp hn
  |rf ks x y=>exact mP hmix (show BZ P N ops.toList dr (.rf ks x y) Kn r w.heap from hs) ha hp hn
 |seq x y ihx ihy=>
  intro an Kn Kx r a w Q hs ha hp hn hx hr;have up1:∀{a' w'},Fr (fun t=>g7 t x=true) a w a' w'→Fr (fun t=>g7 t (.seq x y)=true) a w a' w':=fun h=>h.mono fun t ht=>by rw[Eu,Jm];exact .inl ht
  have up2:∀{a' w' a'' w''},Fr (fun t=>g7 t x=true) a w a' w'→Fr (fun t=>g7 t y=true) a' w' a'' w''→Fr (fun t=>g7 t (.seq x y)=true) a w a'' w'':=
   fun h k=>(up1 h).trans (k.mono fun t ht=>by rw[Eu,Jm];exact .inr ht)
  have plain:∀aa ab,mo P N x aa (fun r' h'=>mo P N y ab Kn Kx r' h') Kx r w.heap→(Code.seq x y).wpIn (FW ro) n P Q a w:=fun aa ab hs=>by
   refine wpIn_seq (ihx aa _ Kx r a w _ hs ha (fun ch a w=>hp ch a w) ?_ (fun i r' a' w' h1 h2 h3=>hx i r' a' w' h1 (up1 h2) h3) (fun r' a' w' h1 h2 h3=>hr r' a' w' h1 (up1 h2) h3))
   intro r1 a1 w1 ha1 hf1 hs1;exact ihy ab Kn Kx r1 a1 w1 Q hs1 ha1 hp (fun r' a' w' h1 h2 h3=>hn r' a' w' h1 (up2 hf1 h2) h3) (fun i r' a' w' h1 h2 h3=>hx i r' a' w' h1 (up2 hf1 h2) h3) (fun r' a' w' h1 h2 h3=>hr r' a' w' h1 (up2 hf1 h2) h3)
  cases an with
  |join st aa ab=>
   have hs:(match yO x with
      |none=>False
      |some m=>Join (T:=cN (zv st)) (fun t h'=>mo P N y ab Kn Kx (oU st (oG (zv st) t) (xI m r)) h')
       fun J=>mo P N x aa (fun r' h'=>Dc st r' fun t=>J t h') Kx r w.heap):=hs
   split at hs
   ·exact hs.elim
   ·rename_i m hm
    refine wpIn_seq (ihx aa _ Kx r a w _ hs.run ha (fun ch a w=>hp ch a w) ?_ (fun i r' a' w' h1 h2 h3=>hx i r' a' w' h1 (up1 h2) h3) (fun r' a' w' h1 h2 h3=>hr r' a' w' h1 (up1 h2) h3))
    intro r1 a1 w1 ha1 hf1 hs1;obtain⟨t,hst,hs2⟩:=xz hs1;have ha2:Agree N (oU st (oG (zv st) t) (xI m r)) a1:=ha1.zip hst (ha.keep hm hf1 ha1);exact ihy ab Kn Kx _ a1 w1 Q hs2 ha2 hp (fun r' a' w' h1 h2 h3=>hn r' a' w' h1 (up2 hf1 h2) h3) (fun i r' a' w' h1 h2 h3=>hx i r' a' w' h1 (up2 hf1 h2) h3) (fun r' a' w' h1 h2 h3=>hr r' a' w' h1 (up2 hf1 h2) h3)
  |_=>exact plain _ _ hs
 |cond c x y ihx ihy=>
  intro an Kn Kx r a w Q hs ha hp hn hx hr;have hs:(match dD r c with
   |some (.bool t)=>CondP t (mo P N x an.l Kn Kx r w.heap) (mo P N y an.r Kn Kx r w.heap)
   |_=>False):=hs
  have up1:∀{a' w'},Fr (fun t=>g7 t x=true) a w a' w'→Fr (fun t=>g7 t (.cond c x y)=true) a w a' w':=fun h=>h.mono fun t ht=>by rw[CW,Jm];exact .inl ht
  have up2:∀{a' w'},Fr (fun t=>g7 t y=true) a w a' w'→Fr (fun t=>g7 t (.cond c x y)=true) a w a' w':=fun h=>h.mono fun t ht=>by rw[CW,Jm];exact .inr ht
  split at hs
  ·rename_i t ht
   refine wpIn_cond_split (mS ha ht) (fun e=>?_) (fun e=>?_)
   ·exact ihx _ Kn Kx r a w Q (hs.yes e) ha hp (fun r' a' w' h1 h2 h3=>hn r' a' w' h1 (up1 h2) h3) (fun i r' a' w' h1 h2 h3=>hx i r' a' w' h1 (up1 h2) h3) (fun r' a' w' h1 h2 h3=>hr r' a' w' h1 (up1 h2) h3)
   ·exact ihy _ Kn Kx r a w Q (hs.no e) ha hp (fun r' a' w' h1 h2 h3=>hn r' a' w' h1 (up2 h2) h3) (fun i r' a' w' h1 h2 h3=>hx i r' a' w' h1 (up2 h2) h3) (fun r' a' w' h1 h2 h3=>hr r' a' w' h1 (up2 h2) h3)
  ·exact hs.elim
 |block id b ih=>
  intro an Kn Kx r a w Q hs ha hp hn hx hr;refine wpIn_block (ih an Kn _ r a w _ hs ha (fun ch a w=>hp ch a w) hn (fun i r' a' w' h1 h2 h3=>?_) hr)
  simp only[Exit.inBlock]at h3⊢;cases hi:bP i id with
  |true=>
   rw[hi,cond_true]at h3;rw[if_pos (aX hi)];exact hn r' a' w' h1 h2 h3
  |false=>
   rw[hi,cond_false]at h3;rw[if_neg (fun e=>by rw[e,sX]at hi;cases hi)]
   exact hx i r' a' w' h1 h2 h3
 |loop b ih=>
  intro an Kn Kx r a w Q hs ha hp hn hx hr;cases an with
  |loop st ab=>
   have hs:(match yO b with
      |none=>False
      |some m=>Dc st r fun t0=>LoopP (T:=cN (zv st)) (fun self t h'=>mo P N b ab (fun r' h''=>Dc st r' fun t'=>self t' h'') Kx (oU st (oG (zv st) t) (xI m r)) h') t0 w.heap):=hs
   split at hs
   ·exact hs.elim
   ·rename_i m hm
    obtain⟨t0,hst0,hl⟩:=xz hs;have h0:=hl.run (fun t h'=>∀a' w',w'.heap=h'→Agree N (oU st (oG (zv st) t) (xI m r)) a'→Fr (fun t=>g7 t b=true) a w a' w'→LWP ro n P b Q a' w') (fun t h' hF a' w' hw ha' hf=>by
     subst hw
     refine LWP.step (ih ab _ Kx _ a' w' _ hF ha' (fun ch a w=>hp ch a w) ?_ (fun i r' a'' w'' h1 h2 h3=>hx i r' a'' w'' h1 (hf.trans h2) h3) (fun r' a'' w'' h1 h2 h3=>hr r' a'' w'' h1 (hf.trans h2) h3))
     intro r1 a1 w1 ha1 hf1 hs1
     obtain⟨t1,hst1,hk1⟩:=xz hs1
     exact hk1 a1 w1 rfl (ha1.zip hst1 (ha.keep hm (hf.trans hf1) ha1)) (hf.trans hf1))
    exact LWP.loop (h0 a w rfl (ha.zip hst0 (ha.keep hm (Fr.refl _ a w) ha)) (Fr.refl _ a w))
  |_=>exact hs.elim
 |rangeFunc f params assign body _ _=>intro an Kn Kx r a w Q hs;exact hs.elim
 |exit id=>
  intro an Kn Kx r a w Q hs ha hp hn hx hr;exact wpIn_exit (hx id r a w ha (Fr.refl ..) hs)
 |scope b _=>intro an Kn Kx r a w Q hs;exact hs.elim
 |label l=>
  intro an Kn Kx r a w Q hs ha hp hn hx hr;exact wpIn_label (hn r a w ha (Fr.refl ..) hs)
 |goto l=>intro an Kn Kx r a w Q hs;exact hs.elim
 |ret=>
  intro an Kn Kx r a w Q hs ha hp hn hx hr;exact wpIn_ret (hr r a w ha (Fr.refl ..) hs)
 |refuse why=>intro an Kn Kx r a w Q hs;exact hs.elim
end Go.Lift
namespace Go.Lift
open Go
variable {P:Program}
theorem ry{N:Nat}{r:cE}{a:Act}{w:World}(ha:Agree N r a):∀{l:List ResultVar} {K:List Value→Prop},oW P r w.heap l K→
  ∃vs,(∀g:ResultVar→Sem Value,(∀t,g (.tmp t)=pure (a.tmps.getD t undef))→(∀x t,g (.cell x t)=do loadVar t (←asAddr (a.tmps.getD x undef)))→(l.mapM g).run P w=.ok vs w)∧K vs
 | [],K,h=>⟨[],fun g _ _=>by rw[List.mapM_nil];rfl,h⟩
 | .tmp t::l,K,h=>by
  unfold oW at h;split at h
  ·rename_i v hv
   obtain⟨vs,hr,hk⟩:=ry ha h;refine⟨v::vs,fun g g1 g2=>?_,hk⟩
   rw[List.mapM_cons,g1];simp only[Sem.run_bind,Sem.run_pure,Result.andThen_ok];rw[hr g g1 g2];simp only[Result.andThen_ok,ha.look t v hv]
  ·exact h.elim
 | .cell x t::l,K,h=>by
  unfold oW at h;split at h
  ·rename_i v hv
   obtain⟨u,S,hK,hS,hl⟩:=Di h;obtain⟨vs,hr,hk⟩:=ry ha hK;refine⟨u::vs,fun g g1 g2=>?_,hk⟩
   rw[List.mapM_cons,g2];have h1:(do loadVar t (←asAddr (a.tmps.getD x undef)):Sem Value).run P w=.ok u w:=by
    rw[ha.look x v hv];unfold Kp at h;cases v with
    |pointer p=>cases p with
     |none=>exact h.elim
     |some b=>exact hl w hS
    |_=>exact h.elim
   simp only[Sem.run_bind]at h1⊢;rw[h1];simp only[Result.andThen_ok];rw[hr g g1 g2];simp only[Sem.run_pure,Result.andThen_ok]
  ·exact h.elim
theorem Hj(ks:List Kind)(t:cN ks):(if h:(oG ks t).toArray.size=1 then(oG ks t).toArray[0]else Value.tuple (oG ks t).toArray)=E5 ks (oG ks t):=by
 match ks,t with
 | [],t=>rfl
 | [k],t=>rfl
 |k::l::ks,(x,t)=>
  have:(oG (k::l::ks) (x,t)).length=(k::l::ks).length:=uo _ _;rw[dif_neg (by simp only[du,this,ak];omega)];rfl
theorem wS:∀(vs:List Value) (i t:Nat) (v:Value),kV (rE i vs) t=some v→i≤t∧vs[t-i]? =some v
 | [],i,t,v,h=>by cases h
 |u::vs,i,t,v,h=>by
  by_cases e:i=t
  ·subst e
   rw[show rE i (u::vs)=(i,u)::rE (i+1) vs from rfl,je]at h
   cases h;exact⟨Nat.le_refl _,by simp⟩
  ·rw[show rE i (u::vs)=(i,u)::rE (i+1) vs from rfl,ix u _ e]at h
   obtain⟨h1,h2⟩:=wS vs (i+1) t v h;refine⟨by omega,?_⟩;rw[show t-i=(t-(i+1))+1 by omega,List.getElem?_cons_succ]
   exact h2
theorem HE.intro(hmix:P.follows .mixedOrders=true){f:FuncId}{fn:Func}{c:Code}{an:Ann}{args:List Value}{ks:List Kind}{K:cN ks→ad→Prop}{h:ad}
  (hf:P.funcs[f]? =some fn) (hb:fn.body=some c) (hcall:∀(args:Array Value) (w:World),(callFunc f args).run P w=.ok (.enter f args) w) (hlen:args.length≤fn.ntmps)
  (hs:Ou P fn c an args ks K h):HE P f args ks K h:=by
 refine⟨fun w hw=>⟨hcall,?_⟩⟩
 subst hw;refine(callsIn_wide (n:=0)).1 (callsIn_of_wp (F:=FW none) hf hb trivial ?_ rfl);have ha:Agree fn.ntmps (rE 0 args) {tmps:=args.toArray++sE (fn.ntmps-args.toArray.size) undef,defers:= []}:=by
  refine⟨by simp;omega,fun t v hv=>?_⟩
  obtain⟨_,h2⟩:=wS args 0 t v hv;simp only[eB]at h2;have hlt:=(bI.1 h2).1;simp[Array.getElem?_append,hlt];rw[ai hlt]at h2;cases h2;rfl
 have fin:∀r' a' (w':World),Agree fn.ntmps r' a'→Fr (fun t=>g7 t c=true) {tmps:=args.toArray++sE (fn.ntmps-args.toArray.size) undef,defers:= []} w a' w'→
   oW P r' w'.heap fn.results.toList (fun vs=>D3 ks vs fun t=>K t w'.heap)→
   a'.defers= []∧∃v,(results fn a'.tmps).run P w'=.ok v w'∧(Tame w w'∧∃t:cN ks,Ending.returned v=.returned (E5 ks (oG ks t))∧K t w'.heap):=fun r' a' w' ha' hf' hr=>by
  obtain⟨vs,hrun,hd⟩:=ry ha' hr;obtain⟨t,rfl,hK⟩:=tE hd;refine⟨hf'.defers,_,?_,hf'.tame,t,rfl,hK⟩;unfold results;rw[oa];simp only[Sem.run_bind,Sem.run_map];rw[hrun _ (fun _=>rfl) (fun _ _=>rfl)]
  simp only[Result.andThen_ok,Sem.run_pure];rw[←Hj]
 exact ue hmix c an _ _ _ _ w _ hs ha (fun ch a w h=>h.2.2.elim fun _ h=>by cases h.1) fin (fun _ _ _ _ _ _ h=>h.elim) fin
theorem HC.intro(hmix:P.follows .mixedOrders=true){f:FuncId}{fn:Func}{c:Code}{an:Ann}{args:List Value}{ks:List Kind}{K:cN ks→ad→Prop}{h:ad}
 (hf:P.funcs[f]? =some fn) (hb:fn.body=some c) (hcall:∀(args:Array Value) (w:World),(callFunc f args).run P w=.ok (.enter f args) w) (hlen:args.length≤fn.ntmps)
 (hs:Ou P fn c an args ks K h):HC P f args ks K h:=(HE.intro hmix hf hb hcall hlen hs).hc
theorem ND{N:Nat}{args:List Value}(hlen:args.length≤N):Agree N (rE 0 args) {tmps:=args.toArray++sE (N-args.toArray.size) undef,defers:= []}:=by
 refine⟨by simp;omega,fun t v hv=>?_⟩
 obtain⟨_,h2⟩:=wS args 0 t v hv;simp only[eB]at h2;have hlt:=(bI.1 h2).1;simp[Array.getElem?_append,hlt];rw[ai hlt]at h2;cases h2;rfl
theorem Kg{N:Nat}{fn:Func}{ks:List Kind}{K:cN ks→ad→Prop}{r':cE}{a':Act}{w':World}(ha':Agree N r' a')(hr:oW P r' w'.heap fn.results.toList (fun vs=>D3 ks vs fun t=>K t w'.heap)):
  ∃t:cN ks,(results fn a'.tmps).run P w'=.ok (E5 ks (oG ks t)) w'∧K t w'.heap:=by
 obtain⟨vs,hrun,hd⟩:=ry ha' hr;obtain⟨t,rfl,hK⟩:=tE hd;refine⟨t,?_,hK⟩;unfold results;rw[oa];simp only[Sem.run_bind,Sem.run_map];rw[hrun _ (fun _=>rfl) (fun _ _=>rfl)]
 simp only[Result.andThen_ok,Sem.run_pure];rw[←Hj]
end Go.Lift
namespace Go.Lift
open Go
variable {P:Program}
abbrev od(D:Nat):Deferred:={target:=.collected D,args:= #[]}
theorem FS{N:Nat}:∀{ps:List Nat} {vs:List Value} {r:cE} {tmps:Array Value},zE N ps=true→Agree N r {tmps:=tmps,defers:= []}→
  Agree N (SE ps vs r) {tmps:=(ps.zip vs).foldl (fun t x=>t.setIfInBounds x.1 x.2) tmps,defers:= []}
 | [],vs,r,tmps,_,h=>by cases vs<;>exact h
 |i::ps,[],r,tmps,_,h=>h
 |i::ps,v::vs,r,tmps,hl,h=>by
  have hl:(Nat.blt i N&&zE N ps)=true:=hl;rw[bc]at hl;have hlt:i<N:=by simpa using hl.1
  have:=h.put i v hlt;exact FS (tmps:=tmps.setIfInBounds i v) hl.2 this
theorem EH(w:World)(o:Obj):Tame w (w.alloc o):=⟨rfl,rfl,rfl⟩
theorem pG(w:World)(b:Nat)(o:Obj):Tame w (w.putObj b o):=⟨rfl,rfl,rfl⟩
theorem Ku(w:World)(b:Nat)(o:Obj):(w.putObj b o).heap=w.heap.setIfInBounds b o:=rfl
theorem Pe(ps:Array Nat)(vs:List Value)(t:Array Value):(ps.zip vs.toArray).foldl (fun t (x:Nat×Value)=>t.setIfInBounds x.1 x.2) t=(ps.toList.zip vs).foldl (fun t x=>t.setIfInBounds x.1 x.2) t:=by
 obtain⟨l⟩:=ps;simp
theorem DZ(hmix:P.follows .mixedOrders=true){n N:Nat}{g:Operand}{ps:Array Tmp}{assign body:Code}{aa ab:Ann}{ks:List Kind}{fv:Value}{r:cE}{a:Act}{w:World}{Q:Exit→Act→World→Prop}
  {KN:ad→Prop}{KX:Nat→ad→Prop}{KR:ad→Prop}(hps:zE N ps.toList=true)(hlen:ps.toList.length=ks.length)(hg:dD r g=some fv)(ha:Agree N r a)
  (hR:RangeP P fv ks w.heap (fun JH bz x k h'=>Mu P N ps.toList ks assign body (.node aa ab) r (w.heap.size+1) JH bz x k h') KN KX KR)
  (hn:∀w',Tame w w'→KN w'.heap→Q .normal {a with defers:=od w.heap.size::a.defers} w')
  (hx:∀i w',Tame w w'→KX i w'.heap→Q (.exit i) {a with defers:=od w.heap.size::a.defers} w')
  (hr:∀w',Tame w w'→KR w'.heap→Q .ret {a with defers:=od w.heap.size::a.defers} w'):(Code.rangeFunc g ps assign body).wpIn (FW none) n P Q a w:=by
 refine wpIn_rangeFunc fun fn _=>?_
 obtain⟨lo,hlo⟩:∃lo:LoopState→Option Ex→Obj,lo=fun s j=>.loop {state:=s,pending:=Jc j,fn,tmps:=a.tmps,params:=ps,assign,body,defers:=w.heap.size}:=⟨_,rfl⟩
 have hj:∀j:Option Ex,(Jc j).isNone=j.isNone:=fun j=>by rcases j with _|⟨_|_⟩<;>rfl
 obtain⟨f,first,cap,rfl,he⟩:=hR.run lo (fun s j=>⟨_,by rw[hlo]⟩) (fun x h' K hrec hround=>by
  refine⟨.inr ⟨_,rfl,⟨fun w1 hw1=>?_⟩⟩⟩
  subst hw1
  rw[hlo]at hrec
  have hy:=run_yield (P:=P) (args:=(oG ks x).toArray) hrec (by simp only[du,uo];rw[←hlen];rfl)
  refine⟨_,_,_,_,hy,fun c cs=>?_⟩
  have hA:Agree N (SE ps.toList (oG ks x) r) {tmps:=(ps.zip (oG ks x).toArray).foldl (fun t (x:Nat×Value)=>t.setIfInBounds x.1 x.2) a.tmps,defers:= []}:=by
   rw[Pe]
   exact FS hps ⟨ha.size,ha.look⟩
  have hfin:∀j:Option Ex,∀W:World,Tame w1 W→(W.heap[w.heap.size+1]? =some (lo .busy none)∧K j.isNone (W.heap.setIfInBounds (w.heap.size+1) (lo (if j.isNone then .ready else .done) j)))→
    ∃v w',(Instr.endRound (w.heap.size+1) (Jc j)).run P W=.ok v w'∧∃b,Ending.returned v=.returned (.bool b)∧Tame w1 w'∧K b w'.heap:=by
   rintro j W ht ⟨h1,h2⟩
   rw[hlo]at h1
   have:=run_endRound (P:=P) (Jc j) h1
   refine⟨_,_,this,_,rfl,ht.trans (pG ..),?_⟩
   rw[hlo]at h2
   rw[hj]
   exact h2
  have:=roundIn_of_wpIn (F:=FW none) (n:=0) (P:=P) (l:=w.heap.size+1) (f:=fn) (assign:=assign) (body:=body) (w:=w1)
   (tmps:=(ps.zip (oG ks x).toArray).foldl (fun t (x:Nat×Value)=>t.setIfInBounds x.1 x.2) a.tmps)
   (R:=fun e w'=>∃b,e=.returned (.bool b)∧Tame w1 w'∧K b w'.heap) trivial (by
    refine ue (ro:=some (w.heap.size+1)) hmix assign aa _ _ _ _ w1 _ hround hA (fun ch a w h=>h) ?_ (fun i r' a' w' _ _ h=>h.elim) (fun r' a' w' _ _ h=>h.elim)
    rintro r2 a2 w2 ha2 hf2 ⟨hrec2,hbody⟩
    rw[hlo]at hrec2
    refine⟨_,run_beginRound hrec2 rfl,?_⟩
    have hb:∀o,o=lo .busy none→w2.heap.setIfInBounds (w.heap.size+1) o=w2.heap.setIfInBounds (w.heap.size+1) (lo .busy none):=fun o ho=>by rw[ho]
    refine ue (ro:=some (w.heap.size+1)) hmix body ab (fun _ h2=>_) (fun e _ h2=>_) _ _ (w2.putObj (w.heap.size+1) _) _ (by
     rw[Ku,hb _ (by rw[hlo])];exact hbody) ha2 (fun ch a w h=>h) ?_ ?_ ?_
    ·rintro r3 a3 w3 ha3 hf3 hk
     exact hfin none w3 ((hf2.tame.trans (pG ..)).trans hf3.tame) hk
    ·rintro i r3 a3 w3 ha3 hf3 hk
     exact hfin (some (.exit i)) w3 ((hf2.tame.trans (pG ..)).trans hf3.tame) hk
    ·rintro r3 a3 w3 ha3 hf3 hk
     exact hfin (some .ret) w3 ((hf2.tame.trans (pG ..)).trans hf3.tame) hk)
  obtain⟨e,w',⟨b,rfl,ht,hK⟩,hs⟩:=this.2 c cs (fun d h=>by simp[FW]at h)
  exact⟨b,w',ht,hK,hs.steps⟩)
 have hrun:=he.run ((w.alloc (.deferred (some []))).alloc (lo .ready none)) rfl;refine⟨w.heap.size+1,[od w.heap.size],(w.alloc (.deferred (some []))).alloc (lo .ready none),{target:=.fn (.func f) cap,args:=first++ #[.func (.yield (w.heap.size+1)) #[] #[]]},(w.alloc (.deferred (some []))).alloc (lo .ready none),f,
  first++ #[.func (.yield (w.heap.size+1)) #[] #[]]++cap,(w.alloc (.deferred (some []))).alloc (lo .ready none),?_,?_,fun _ _=>trivial,?_,fun h=>by simp[FW]at h,?_⟩
 ·rw[hlo];exact run_enterLoop_outer fn a.tmps ps assign body
 ·have hev:=mS ha hg
  simp[resolve,hev,Deferred.ofValue,Sem.run_pure];rfl
 ·simp[invoke,hrun.1]
 ·refine FL ?_
  have e:(first.toList++ [Value.func (.yield (w.heap.size+1)) #[] #[]]++cap.toList).toArray=first++ #[.func (.yield (w.heap.size+1)) #[] #[]]++cap:=by apply Array.ext';simp
  rw[←e];refine hrun.2.mono ?_;rintro e w' ⟨ht,t,rfl,s,j,hs,hrec,hfin⟩;have ht':Tame w w':=((EH w _).trans (EH _ _)).trans ht;rw[hlo]at hrec;refine⟨_,_,run_endLoop hrec hs,?_⟩;have ht2:∀o,Tame w (w'.putObj (w.heap.size+1) o):=fun o=>ht'.trans (pG ..)
  have hb:∀o,o=lo .exhausted j→(w'.putObj (w.heap.size+1) o).heap=w'.heap.setIfInBounds (w.heap.size+1) (lo .exhausted j):=fun o ho=>by rw[ho];rfl
  rcases j with _|⟨i|_⟩
  ·exact hn _ (ht2 _) (by rw[hb _ (by rw[hlo])];exact hfin)
  ·exact wpIn_exit (hx i _ (ht2 _) (by rw[hb _ (by rw[hlo])];exact hfin))
  ·exact wpIn_ret (hr _ (ht2 _) (by rw[hb _ (by rw[hlo])];exact hfin))
theorem Iz(hmix:P.follows .mixedOrders=true){n N:Nat}(c:Code):∀(an:Ann) (Kn:List Nat→cE→ad→Prop) (Kx:Ex→List Nat→cE→ad→Prop) (ms:List Nat) (r:cE) (a:Act) (w:World) (Q:Exit→Act→World→Prop),
  zA P N c an Kn Kx ms r w.heap→Agree N r a→a.defers=ms.map od→(∀ch a w,¬Q (.panic ch) a w)→
  (∀ms' r' a' w',Agree N r' a'→a'.defers=ms'.map od→Tame w w'→Kn ms' r' w'.heap→Q .normal a' w')→
  (∀i ms' r' a' w',Agree N r' a'→a'.defers=ms'.map od→Tame w w'→Kx (.exit i) ms' r' w'.heap→Q (.exit i) a' w')→
  (∀ms' r' a' w',Agree N r' a'→a'.defers=ms'.map od→Tame w w'→Kx .ret ms' r' w'.heap→Q .ret a' w')→
  c.wpIn (FW none) n P Q a w:=by
 have plain:∀(c:Code) (an:Ann) (Kn:List Nat→cE→ad→Prop) (Kx:Ex→List Nat→cE→ad→Prop) (ms:List Nat) (r:cE) (a:Act) (w:World) (Q:Exit→Act→World→Prop),
  mo P N c an (Kn ms) (fun e=>Kx e ms) r w.heap→Agree N r a→a.defers=ms.map od→(∀ch a w,¬Q (.panic ch) a w)→
  (∀ms' r' a' w',Agree N r' a'→a'.defers=ms'.map od→Tame w w'→Kn ms' r' w'.heap→Q .normal a' w')→
  (∀i ms' r' a' w',Agree N r' a'→a'.defers=ms'.map od→Tame w w'→Kx (.exit i) ms' r' w'.heap→Q (.exit i) a' w')→
  (∀ms' r' a' w',Agree N r' a'→a'.defers=ms'.map od→Tame w w'→Kx .ret ms' r' w'.heap→Q .ret a' w')→
  c.wpIn (FW none) n P Q a w:=by
  intro c an Kn Kx ms r a w Q hs ha hd hp hn hx hr;exact ue hmix c an _ _ r a w Q hs ha hp (fun r' a' w' h1 h2 h3=>hn ms r' a' w' h1 (h2.defers.trans hd) h2.tame h3) (fun i r' a' w' h1 h2 h3=>hx i ms r' a' w' h1 (h2.defers.trans hd) h2.tame h3)
   (fun r' a' w' h1 h2 h3=>hr ms r' a' w' h1 (h2.defers.trans hd) h2.tame h3)
 induction c with
 |skip=>intro an Kn Kx ms r a w Q hs;exact plain _ an Kn Kx ms r a w Q hs
 |region id ops dr=>intro an Kn Kx ms r a w Q hs;exact plain _ an Kn Kx ms r a w Q hs
 |seq x y ihx ihy=>
  intro an Kn Kx ms r a w Q hs ha hd hp hn hx hr;have hs:(bif (bif tx x then true else tx y)then zA P N x an.l (fun ms r' h'=>zA P N y an.r Kn Kx ms r' h') Kx ms r w.heap
   else mo P N (.seq x y) an (Kn ms) (fun e=>Kx e ms) r w.heap):=hs
  cases hb:(bif tx x then true else tx y)with
  |false=>rw[hb]at hs;exact plain _ _ _ _ _ _ _ _ _ hs ha hd hp hn hx hr
  |true=>
   rw[hb,cond_true]at hs;refine wpIn_seq (ihx an.l _ Kx ms r a w _ hs ha hd (fun ch a w=>hp ch a w) ?_ hx hr)
   intro ms1 r1 a1 w1 ha1 hd1 ht1 hs1;exact ihy an.r Kn Kx ms1 r1 a1 w1 Q hs1 ha1 hd1 hp (fun ms' r' a' w' h1 h2 h3 h4=>hn ms' r' a' w' h1 h2 (ht1.trans h3) h4) (fun i ms' r' a' w' h1 h2 h3 h4=>hx i ms' r' a' w' h1 h2 (ht1.trans h3) h4)
    (fun ms' r' a' w' h1 h2 h3 h4=>hr ms' r' a' w' h1 h2 (ht1.trans h3) h4)
 |cond c x y ihx ihy=>
  intro an Kn Kx ms r a w Q hs ha hd hp hn hx hr;have hs:(bif (bif tx x then true else tx y)then
    (match dD r c with
     |some (.bool t)=>CondP t (zA P N x an.l Kn Kx ms r w.heap) (zA P N y an.r Kn Kx ms r w.heap)
     |_=>False)
   else mo P N (.cond c x y) an (Kn ms) (fun e=>Kx e ms) r w.heap):=hs
  cases hb:(bif tx x then true else tx y)with
  |false=>rw[hb]at hs;exact plain _ _ _ _ _ _ _ _ _ hs ha hd hp hn hx hr
  |true=>
   rw[hb,cond_true]at hs;split at hs
   ·rename_i t ht
    exact wpIn_cond_split (mS ha ht) (fun e=>ihx _ Kn Kx ms r a w Q (hs.yes e) ha hd hp hn hx hr) (fun e=>ihy _ Kn Kx ms r a w Q (hs.no e) ha hd hp hn hx hr)
   ·exact hs.elim
 |block id b ih=>
  intro an Kn Kx ms r a w Q hs ha hd hp hn hx hr;have hs:(bif tx b then zA P N b an Kn (fun e ms r' h'=>match e with
    | .exit i=>bif bP i id then Kn ms r' h' else Kx (.exit i) ms r' h'
    | .ret=>Kx .ret ms r' h') ms r w.heap
   else mo P N (.block id b) an (Kn ms) (fun e=>Kx e ms) r w.heap):=hs
  cases hb:tx b with
  |false=>rw[hb]at hs;exact plain _ _ _ _ _ _ _ _ _ hs ha hd hp hn hx hr
  |true=>
   rw[hb,cond_true]at hs;refine wpIn_block (ih an Kn _ ms r a w _ hs ha hd (fun ch a w=>hp ch a w) hn (fun i ms' r' a' w' h1 h2 h3 h4=>?_) hr)
   simp only[Exit.inBlock]at h4⊢;cases hi:bP i id with
   |true=>
    rw[hi,cond_true]at h4;rw[if_pos (aX hi)];exact hn ms' r' a' w' h1 h2 h3 h4
   |false=>
    rw[hi,cond_false]at h4;rw[if_neg (fun e=>by rw[e,sX]at hi;cases hi)]
    exact hx i ms' r' a' w' h1 h2 h3 h4
 |loop b ih=>intro an Kn Kx ms r a w Q hs;exact plain _ an Kn Kx ms r a w Q hs
 |rangeFunc g ps assign body _ _=>
  intro an Kn Kx ms r a w Q hs ha hd hp hn hx hr;cases an with
  |rf ks aa ab=>
   have hs:(bif zE N ps.toList&&bP ps.toList.length ks.length then
    (match dD r g with
     |some fv=>RangeP P fv ks w.heap (fun JH bz x k h'=>Mu P N ps.toList ks assign body (.node aa ab) r (w.heap.size+1) JH bz x k h')
       (fun h'=>Kn (w.heap.size::ms) r h') (fun i h'=>Kx (.exit i) (w.heap.size::ms) r h') (fun h'=>Kx .ret (w.heap.size::ms) r h')
     |none=>False)else False):=hs
   cases hb:(zE N ps.toList&&bP ps.toList.length ks.length)with
   |false=>rw[hb]at hs;exact hs.elim
   |true=>
    rw[hb,cond_true]at hs;rw[bc]at hb;split at hs
    · rename_i fv hfv
      have hA:Agree N r {a with defers:=od w.heap.size::a.defers}:=⟨ha.size,ha.look⟩;have hD:({a with defers:=od w.heap.size::a.defers}:Act).defers=(w.heap.size::ms).map od:=by rw[List.map_cons,←hd]
      exact DZ hmix hb.1 (aX hb.2) hfv ha hs (fun w' ht hk=>hn _ r _ w' hA hD ht hk) (fun i w' ht hk=>hx i _ r _ w' hA hD ht hk) (fun w' ht hk=>hr _ r _ w' hA hD ht hk)
    · exact hs.elim
  |_=>exact hs.elim
 |exit id=>intro an Kn Kx ms r a w Q hs;exact plain _ an Kn Kx ms r a w Q hs
 |scope b _=>intro an Kn Kx ms r a w Q hs;exact hs.elim
 |label l=>intro an Kn Kx ms r a w Q hs;exact plain _ an Kn Kx ms r a w Q hs
 |goto l=>intro an Kn Kx ms r a w Q hs;exact hs.elim
 |ret=>intro an Kn Kx ms r a w Q hs;exact plain _ an Kn Kx ms r a w Q hs
 |refuse why=>intro an Kn Kx ms r a w Q hs;exact hs.elim
theorem zx{fn:Func}{ks:List Kind}{K:cN ks→ad→Prop}{N:Nat}{n:Nat}{r:cE}{a:Act}{w0:World}(ha:Agree N r a):∀(ms:List Nat) (w:World),Tame w0 w→
  Oq ms (fun h'=>oW P r h' fn.results.toList fun vs=>D3 ks vs fun t=>K t h') w.heap→
  LeavesInM (FW none) n P fn a.tmps (fun e w'=>Tame w0 w'∧∃t:cN ks,e=.returned (E5 ks (oG ks t))∧K t w'.heap) (ms.map od) .returning w
 | [],w,ht,h=>by
  obtain⟨t,hrun,hK⟩:=Kg ha h;exact⟨_,hrun,ht,t,rfl,hK⟩
 |D::ms,w,ht,h=>by
  refine⟨by simp,.inl ⟨D,_,rfl,run_takeDeferred h.1,?_⟩⟩;exact zx ha ms (w.putObj D (.deferred none)) (ht.trans (pG ..)) h.2
theorem HE.introM(hmix:P.follows .mixedOrders=true){f:FuncId}{fn:Func}{c:Code}{an:Ann}{args:List Value}{ks:List Kind}{K:cN ks→ad→Prop}{h:ad}
  (hf:P.funcs[f]? =some fn) (hb:fn.body=some c) (hcall:∀(args:Array Value) (w:World),(callFunc f args).run P w=.ok (.enter f args) w) (hlen:args.length≤fn.ntmps)
  (hs:Mv P fn c an args ks K h):HE P f args ks K h:=by
 refine⟨fun w hw=>⟨hcall,?_⟩⟩
 subst hw;refine(callsIn_wide (n:=0)).1 (callsIn_of_wp_marks (F:=FW none) hf hb trivial ?_ rfl);refine wpIn_mono (Q:=fun e a w'=>(∀ch,e≠ .panic ch)∧bodyPostM (FW none) 0 P fn (fun e w'=>Tame w w'∧∃t:cN ks,e=.returned (E5 ks (oG ks t))∧K t w'.heap) e a w') ?_ fun e a w h=>h.2
 refine Iz hmix c an _ _ [] _ _ w _ hs (ND hlen) rfl (fun ch a w h=>h.1 ch rfl) ?_ (fun _ _ _ _ _ _ _ _ h=>h.elim) ?_
 ·intro ms' r' a' w' ha' hd' ht' hk
  refine⟨(fun _ e=>by cases e),?_⟩
  show LeavesInM _ _ _ _ _ _ a'.defers _ _
  rw[hd'];exact zx ha' ms' w' ht' hk
 ·intro ms' r' a' w' ha' hd' ht' hk
  refine⟨(fun _ e=>by cases e),?_⟩
  show LeavesInM _ _ _ _ _ _ a'.defers _ _
  rw[hd'];exact zx ha' ms' w' ht' hk
theorem HC.introM(hmix:P.follows .mixedOrders=true){f:FuncId}{fn:Func}{c:Code}{an:Ann}{args:List Value}{ks:List Kind}{K:cN ks→ad→Prop}{h:ad}
 (hf:P.funcs[f]? =some fn) (hb:fn.body=some c) (hcall:∀(args:Array Value) (w:World),(callFunc f args).run P w=.ok (.enter f args) w) (hlen:args.length≤fn.ntmps)
 (hs:Mv P fn c an args ks K h):HC P f args ks K h:=(HE.introM hmix hf hb hcall hlen hs).hc
end Go.Lift
namespace Go.Lift
open Go
def AppP(z:Option (List Value))(sz bytes:Nat)(t:TypeId)(base:Option Addr)(sl sc xl:Nat)(xs:List Value)(h:ad)(K:SliceV→ad→Prop):Prop:=
 (sl+xl≤sc→qL h base (sl*sz) xs∧cr xs=true∧K ⟨base,sl+xl,sc⟩ (gg h base (sl*sz) xs))∧
 (sc<sl+xl→∃old z',SRow h base (sl*sz) old∧z=some z'∧0<bytes∧Builtin.nextslicecap (sl+xl) sc*bytes≤2^48∧
  ∀nc,sl+xl≤nc→K ⟨some (aj h),sl+xl,nc⟩ (hnew h (old++xs++dJ (nc-(sl+xl)) z') t))
end Go.Lift
