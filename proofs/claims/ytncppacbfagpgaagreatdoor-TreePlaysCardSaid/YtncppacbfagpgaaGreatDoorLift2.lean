/- A part of the proof that the named laws of this program answer true, whatever the input. -/
import Derived.Test.YtncppacbfagpgaaGreatDoorLift1
open Array renaming getD_eq_getD_getElem?→df,getElem?_toList→bJ,getElem?_setIfInBounds_ne→eZ,replicate→qz,getElem?_eq_some_iff→cF,getElem?_eq_getElem→gu,getElem?_eq_none→kG,mapM_eq_mapM_toList→mF
open Bool renaming or_eq_true→ji,and_eq_true→bm,not_eq_true'→pd,or_eq_false_iff→ma
open List renaming mem_of_getElem?→jB,length_cons→az,mem_cons→aC,getElem?_cons_zero→cB,getElem?_eq_getElem→af,any_eq_true→cp,getElem?_eq_some_iff→bB,mem_cons_of_mem→aN,mem_cons_self→av,filter_cons→cC,mem_singleton→ax,size_toArray→dD
open Nat renaming beq→bN,eq_of_beq_eq_true→aX,land→jz,lor→cW,testBit_and→ik,zero_testBit→fX,succ→fY,zero_add→aF,beq_refl→qV,lt_or_ge→bE,pred→wy,sub_zero→eT
open Option renaming some→bK
namespace Go.Lift
open Go
variable {P:Program} {ro:Option Nat} {n:Nat}
def FW(ro:Option Nat):Fence:={fn:=fun _=>True,depth:=none,alive:=false,round:=ro}
theorem OV(m:Machine):m.fenced P (FW ro):=by
 intro g _;exact⟨fun h=>by simp[FW]at h,.inl trivial,fun _ _=>trivial,fun d h=>by simp[FW]at h⟩
theorem xR{m m':Machine}(h:Steps P m m'):StepsIn (Machine.fenced P (FW ro)) P m m':=(StepsIn.of_steps h).mono fun m _=>OV m
theorem D6{k:Nat}{f:FuncId}{args:Array Value}{w:World}{R:Ending→World→Prop}(h:Calls P f args w R):CallsIn (FW ro) k P f args w R:=by
 refine⟨trivial,fun cs _=>?_⟩
 obtain⟨e,w',fr,hR,hc,hfn,hl⟩:=h cs;refine⟨e,w',fr,hR,?_,hfn,hl⟩;cases e with
 |returned v=>exact xR hc
 |panicked c=>exact xR hc
 |outgrown=>exact hc
theorem rQ{o:Oper}{a:Act}{w:World}{K:WK}{next:Act→World→Prop}{Q:Exit→Act→World→Prop}(hd:∀c,o.op≠ .defer c)(h:Ka P (execOp a.eval o) K w)
  (hk:∀v w',Tame w w'→K v w'.heap→next (a.put o.dst v) w'):o.wpIn (FW ro) n P a w next Q:=by
 refine⟨fun _ _=>trivial,?_⟩
 rw[Oper.semAt_eq _ _ _ hd];rcases h with⟨v,w',hr,ht,hK⟩|⟨w',hr,ht,hK⟩|⟨f,args,hr,hc⟩|⟨l,fn,tmps,assign,body,hr,hc⟩
 ·rw[hr];exact hk v w' ht hK
 ·rw[hr];exact hk undef w' ht hK
 ·rw[hr]
  refine⟨fun h=>by simp[FW]at h,D6 (hc.mono ?_)⟩
  rintro e w' ⟨ht,v,rfl,hK⟩;exact hk v w' ht hK
 ·rw[hr]
  refine⟨fun h=>by simp[FW]at h,trivial,fun c cs _=>?_⟩
  obtain⟨b,w',ht,hK,hs⟩:=hc c cs;exact⟨.returned (.bool b),w',hk _ w' ht hK,xR hs⟩
theorem uN{N:Nat}{o:Oper}{v:Value}{r:cH}{K:cH→Prop}{a:Act}{d:um}{dv:DV}(h:zB N o v r K)(ha:Agree N r a)(hd:DecOk d r)(hv:Fx dv v):
  ∃r',K r'∧Agree N r' (a.put o.dst v)∧DecOk (rp d o dv) r':=by
 unfold zB at h;unfold rp;cases ho:o.dst with
 |none=>rw[ho]at h;exact⟨r,h,ha,hd⟩
 |some t=>
  rw[ho]at h;simp only at h;cases hb:Nat.blt t N with
  |false=>rw[hb]at h;exact h.elim
  |true=>
   rw[hb]at h;have hlt:t<N:=by simpa using hb
   refine⟨_,h,ha.put t v hlt,fun s=>?_⟩
   by_cases e:t=s
   ·subst e
    have:qE ((t,dv)::d) t=dv:=by simp[qE]
    rw[this];exact .inr ⟨v,iE t v r,hv⟩
   ·have h1:qE ((t,dv)::d) s=qE d s:=by
     have:bN t s=false:=Bool.eq_false_iff.2 fun e'=>e (aX e')
     show(bif bN t s then dv else qE d s)=_
     rw[this];rfl
    rw[h1,gO v r e];exact hd s
theorem I0{ek:Option (Kind×Kind)}{o:Op}{r:cH}{K:RK}{h:ad}(hq:AN P ek o r K h):∀c,o≠ .defer c:=by
 intro c e;subst e;exact hq
theorem vA{o:Oper}{r:cH}{K:WK}{h:ad}(hq:EP P o r K h):∀c,o.op≠ .defer c:=by
 intro c e;unfold EP at hq;rw[e]at hq;exact hq
theorem UP{d:um}{o:Op}(h:vh P o=false):Im d o=.x:=by
 cases o<;>first|rfl|(simp[vh]at h)
theorem Oi{N:Nat}{ek:Option (Kind×Kind)}{o:Oper}{r:cH}{K:cH→ad→Prop}{a:Act}{w:World}{d:um}{next:Act→World→Prop}{Q:Exit→Act→World→Prop}
  (hs:Uf P N ek o r K w.heap)(ha:Agree N r a)(hd:DecOk d r)
  (hk:∀v w' r',Tame w w'→K r' w'.heap→Agree N r' (a.put o.dst v)→DecOk (rp d o (Im d o.op)) r'→next (a.put o.dst v) w'):o.wpIn (FW ro) n P a w next Q:=by
 unfold Uf at hs;cases hq:vh P o.op with
 |true=>
  rw[hq,cond_true]at hs;obtain⟨v,S,hK,hS,hdv,hr⟩:=FX ha hs d hd;refine rQ (K:=fun u h'=>u=v∧h'=w.heap) (I0 hs) (.inl ⟨v,w,hr w hS,Tame.refl w,rfl,rfl⟩) ?_
  rintro u w' ht ⟨rfl,hh⟩;obtain⟨r',hr',ha',hd'⟩:=uN hK ha hd hdv;exact hk u w' r' ht (by rw[hh];exact hr') ha' hd'
 |false=>
  rw[hq,cond_false]at hs;refine rQ (vA hs) (Az ha hs) ?_;intro v w' ht hK;obtain⟨r',hr',ha',hd'⟩:=uN hK ha hd (dv:=Im d o.op) (by rw[UP hq];trivial);exact hk v w' r' ht hr' ha' hd'
theorem Gl{t:Array Value}{i:Nat}{b:Bool}(h:t.getD i undef=.bool b):t[i]? =some (.bool b):=by
 rw[df]at h;cases hc:t[i]? with
 |none=>rw[hc]at h;simp[undef]at h
 |some v=>rw[hc]at h;simp at h;rw[h]
theorem L2{t:Array Value}{i:Nat}(h:t.getD i undef=undef):t[i]? =none∨t[i]? =some undef:=by
 rw[df]at h;cases hc:t[i]? with
 |none=>exact .inl rfl
 |some v=>rw[hc]at h;simp at h;rw[h];exact .inr rfl
theorem pL{N:Nat}{ops:Array Oper}{d:um}{o:Oper}{b:Bool}{r:cH}{a:Act}(h:iZ ops.toList d o=some b)(ha:Agree N r a)(hd:DecOk d r):
  Region.wanted o (yielded ops a.tmps)=b:=by
 unfold iZ at h;unfold Region.wanted;cases hg:o.guard with
 |none=>rw[hg]at h;simp only[bK.injEq]at h;exact h
 |some g=>
  obtain⟨j,want⟩:=g;rw[hg]at h;simp only[bJ]at h;simp only;cases hj:ops[j]? with
  |none=>rw[hj]at h;cases h
  |some oj=>
   rw[hj]at h;simp only at h;cases ht:oj.dst with
   |none=>rw[ht]at h;cases h
   |some t=>
    rw[ht]at h;simp only at h;have hy:yielded ops a.tmps j=(match a.tmps[t]? with|some (.bool b)=>some b|_=>none):=by
     unfold yielded;simp[hj,ht];rfl
    rw[hy];rcases hd t with hx|⟨v,hv,hk⟩
    ·rw[hx]at h;cases h
    ·have hav:=ha.look t v hv
     cases hdl:qE d t with
     |x=>rw[hdl]at h;cases h
     |t=>
      rw[hdl]at h hk;simp only[bK.injEq]at h;subst h;have:v=.bool true:=hk;subst this;rw[Gl hav];cases want<;>rfl
     |f=>
      rw[hdl]at h hk;simp only[bK.injEq]at h;subst h;have:v=.bool false:=hk;subst this;rw[Gl hav];cases want<;>rfl
     |u=>
      rw[hdl]at h hk;simp only[bK.injEq]at h;subst h;have:v=undef:=hk;subst this;rcases L2 hav with e|e<;>rw[e]<;>cases want<;>rfl
structure Fr(W:Nat→Prop)(a0:Act)(w0:World)(a:Act)(w:World):Prop where
 tame:Tame w0 w
 defers:a.defers=a0.defers
 same:∀t,¬W t→a.tmps.getD t undef=a0.tmps.getD t undef
theorem Fr.refl(W:Nat→Prop)(a:Act)(w:World):Fr W a w a w:=⟨Tame.refl w,rfl,fun _ _=>rfl⟩
theorem Fr.put{W:Nat→Prop}{a0 a:Act}{w0 w w':World}(h:Fr W a0 w0 a w){o:Oper}(hW:∀d,o.dst=some d→W d)(v:Value)(ht:Tame w w'):Fr W a0 w0 (a.put o.dst v) w':=by
 refine⟨h.tame.trans ht,?_,fun t hn=>?_⟩
 ·cases ho:o.dst<;>simp[Act.put,h.defers]
 ·cases ho:o.dst with
  |none=>exact h.same t hn
  |some d=>
   have hne:d≠t:=fun e=>hn (e▸hW d ho)
   rw[←h.same t hn];simp[Act.put,eZ hne]
theorem Fr.trans{W:Nat→Prop}{a0 a1 a2:Act}{w0 w1 w2:World}(h:Fr W a0 w0 a1 w1)(k:Fr W a1 w1 a2 w2):Fr W a0 w0 a2 w2:=
 ⟨h.tame.trans k.tame,k.defers.trans h.defers,fun t ht=>(k.same t ht).trans (h.same t ht)⟩
theorem Fr.mono{W W':Nat→Prop}{a0 a:Act}{w0 w:World}(h:Fr W a0 w0 a w)(hW:∀t,W t→W' t):Fr W' a0 w0 a w:=
 ⟨h.tame,h.defers,fun t ht=>h.same t fun e=>ht (hW t e)⟩
theorem DecOk.known{d:um}{r:cH}(h:DecOk d r){t:Nat}{dv:DV}{v:Value}(hv:Fx dv v):DecOk ((t,dv)::d) ((t,v)::r):=fun s=>by
 by_cases e:t=s
 ·subst e
  have:qE ((t,dv)::d) t=dv:=by simp[qE]
  rw[this];exact .inr ⟨v,iE t v r,hv⟩
 ·have h1:qE ((t,dv)::d) s=qE d s:=by
   have:bN t s=false:=Bool.eq_false_iff.2 fun e'=>e (aX e')
   show(bif bN t s then dv else qE d s)=_
   rw[this];rfl
  rw[h1,gO v r e];exact h s
theorem CR{N:Nat}{ek:Option (Kind×Kind)}{ops:Array Oper}{o:Oper}{i:Nat}{d:um}{r:cH}{a:Act}{w:World}{b:Bool}{K:um→cH→ad→Prop}{next:Act→World→Prop}{Q:Exit→Act→World→Prop}
  (hi:ops[i]? =some o) (hw:iZ ops.toList d o=some b) (ha:Agree N r a) (hd:DecOk d r)
  (hs:match b with
   |true=>Uf P N ek o r (K (rp d o (Im d o.op))) w.heap
   |false=>zB N o undef r fun r'=>K (rp d o .u) r' w.heap)
  (hk:∀v w' d' r',Tame w w'→K d' r' w'.heap→Agree N r' (a.put o.dst v)→DecOk d' r'→next (a.put o.dst v) w'):
  wpOpIn (FW ro) n P ops Q i next a w:=by
 unfold wpOpIn;rw[hi];simp only[pL hw ha hd];cases b with
 |true=>exact Oi hs ha hd fun v w' r' ht hK ha' hd'=>hk v w' _ r' ht hK ha' hd'
 |false=>
  obtain⟨r',hr',ha',hd'⟩:=uN (dv:=.u) hs ha hd rfl;exact⟨fun _ _=>trivial,hk undef w _ r' (Tame.refl w) hr' ha' hd'⟩
theorem Oh{N:Nat}{ek:Option (Kind×Kind)}{ops:List Oper}{o:Oper}{os:List Oper}{d:um}{K:cH→ad→Prop}{r:cH}{h:ad}:Dh P N ek ops (o::os) d K r h=
 (match iZ ops d o with
 |some true=>Uf P N ek o r (fun r' h'=>Dh P N ek ops os (rp d o (Im d o.op)) K r' h') h
 |some false=>zB N o undef r fun r'=>Dh P N ek ops os (rp d o .u) K r' h
 |none=>match DR ops o with
  |none=>False
  |some t=>match j5 r t with
   |some (.bool b)=>CondP b
    (FM P N ek ops o ((t,.t)::d) ((t,.bool true)::r) h fun d' r' h'=>Dh P N ek ops os d' K r' h')
    (FM P N ek ops o ((t,.f)::d) ((t,.bool false)::r) h fun d' r' h'=>Dh P N ek ops os d' K r' h')
   |_=>False):=rfl
theorem FF{N:Nat}{ek:Option (Kind×Kind)}{ops:Array Oper}{o:Oper}{i:Nat}{d:um}{r:cH}{a:Act}{w:World}{K:um→cH→ad→Prop}{next:Act→World→Prop}{Q:Exit→Act→World→Prop}
  (hi:ops[i]? =some o) (ha:Agree N r a) (hd:DecOk d r) (hs:FM P N ek ops.toList o d r w.heap K)
  (hk:∀v w' d' r',Tame w w'→K d' r' w'.heap→Agree N r' (a.put o.dst v)→DecOk d' r'→next (a.put o.dst v) w'):
  wpOpIn (FW ro) n P ops Q i next a w:=by
 unfold FM at hs;cases hw:iZ ops.toList d o with
 |none=>rw[hw]at hs;exact hs.elim
 |some b=>rw[hw]at hs;exact CR (ek:=ek) hi hw ha hd (by cases b<;>exact hs) hk
theorem Dg{N:Nat}{ek:Option (Kind×Kind)}{ops:Array Oper}{W:Nat→Prop}(hW:∀o∈ops.toList,∀d,o.dst=some d→W d){a0:Act}{w0:World}{K:cH→ad→Prop}{Q:Exit→Act→World→Prop}
  (hQ:∀r a w,Agree N r a→Fr W a0 w0 a w→K r w.heap→Q .normal a w):
  ∀(l:List Oper) (i:Nat),ops.toList.drop i=l→∀(d:um) (r:cH) (a:Act) (w:World),Dh P N ek ops.toList l d K r w.heap→Agree N r a→DecOk d r→Fr W a0 w0 a w→
   wpOpsIn (FW ro) n P ops Q (List.range' i l.length) a w
 | [],i,_,d,r,a,w,hs,ha,hd,hf=>hQ r a w ha hf hs
 |o::os,i,hdr,d,r,a,w,hs,ha,hd,hf=>by
  have hi:ops[i]? =some o:=by
   rw[←bJ];have:(ops.toList.drop i)[0]? =some o:=by rw[hdr];rfl
   simpa using this
  have hmem:o∈ops.toList:=jB (by rw[bJ];exact hi);have hdr':ops.toList.drop (i+1)=os:=by rw[←List.tail_drop,hdr];rfl
  rw[az,List.range'_succ,wpOpsIn_cons];rw[Oh]at hs;have go:∀v w' d' r',Tame w w'→Dh P N ek ops.toList os d' K r' w'.heap→Agree N r' (a.put o.dst v)→DecOk d' r'→wpOpsIn (FW ro) n P ops Q (List.range' (i+1) os.length) (a.put o.dst v) w':=
   fun v w' d' r' ht hK ha' hd'=>Dg hW hQ os (i+1) hdr' d' r' _ w' hK ha' hd' (hf.put (hW o hmem) v ht)
  cases hw:iZ ops.toList d o with
  |some b=>
   rw[hw]at hs;exact CR (ek:=ek) (K:=fun d' r' h'=>Dh P N ek ops.toList os d' K r' h') hi hw ha hd (by cases b<;>exact hs) go
  |none=>
   rw[hw]at hs;simp only at hs;split at hs
   ·exact hs.elim
   ·rename_i t ht
    split at hs
    ·rename_i b hb
     cases b with
     |true=>exact FF hi (ha.known hb) (hd.known (dv:=.t) rfl) (hs.yes rfl) go
     |false=>exact FF hi (ha.known hb) (hd.known (dv:=.f) rfl) (hs.no rfl) go
    ·exact hs.elim
end Go.Lift
namespace Go.Lift
open Go
theorem BA(m i:Nat):tb m i=m.testBit i:=by
 have h:jz (Nat.shiftRight m i) 1=(m>>>i)&&&1:=rfl;unfold tb;rw[h,Nat.testBit_eq_decide_div_mod_eq,Nat.and_one_is_mod,Nat.shiftRight_eq_div_pow];cases hm:decide (m/2^i%2=1)with
 |true=>rw[of_decide_eq_true hm];rfl
 |false=>
  have h2:=of_decide_eq_false hm;have:m/2^i%2=0:=by omega
  rw[this];rfl
theorem nI(a b i:Nat):(cW a b).testBit i=(a.testBit i||b.testBit i):=Nat.testBit_or a b i
theorem yn(i j:Nat):(gM i).testBit j=decide (i=j):=Nat.testBit_two_pow
theorem Bb{a b:Nat}(h:bN (jz a b) 0=true)(t:Nat)(ha:a.testBit t=true)(hb:b.testBit t=true):False:=by
 have h0:=aX h;have:(jz a b).testBit t=(a.testBit t&&b.testBit t):=ik a b t;rw[h0,ha,hb]at this;simp at this
theorem SO{a b:Nat}(h:bN (jz a b) a=true)(t:Nat)(ha:a.testBit t=true):b.testBit t=true:=by
 have h0:=aX h;have:(jz a b).testBit t=(a.testBit t&&b.testBit t):=ik a b t;rw[h0,ha]at this;simpa using this.symm
theorem xq(i:Nat):∀l:List Edge,(mr l).testBit i=l.any fun e=>bN e.on i&&Region.binds .any e
 | []=>fX i
 |e::l=>by
  have ih:=xq i l;have hc:mr (e::l)=bif Region.binds .any e then cW (gM e.on) (mr l)else mr l:=rfl;rw[hc,List.any_cons,←ih];cases hb:Region.binds .any e with
  |true=>
   rw[cond_true,nI,yn,Bool.and_true];congr 1
   cases hd:bN e.on i with
   |true=>simpa using aX hd
   |false=>rw[decide_eq_false_iff_not];intro e';rw[e']at hd;simp at hd
  |false=>simp
theorem zJ(o:Oper)(i:Nat):(mr o.after.toList).testBit i=jo o i:=xq i o.after.toList
theorem yU(t:Nat):∀l:List Operand,(lK l).testBit t=true↔Operand.tmp t∈l
 | []=>by simp[show lK []=0 from rfl]
 |o::l=>by
  have ih:=yU t l;cases o with
  |tmp u=>
   have hc:lK (.tmp u::l)=cW (gM u) (lK l):=rfl;rw[hc,nI,yn,ji,ih,aC];simp[eq_comm]
  |const v=>
   have hc:lK (.const v::l)=lK l:=rfl;rw[hc,ih,aC];simp
  |global v=>
   have hc:lK (.global v::l)=lK l:=rfl;rw[hc,ih,aC];simp
  |func v=>
   have hc:lK (.func v::l)=lK l:=rfl;rw[hc,ih,aC];simp
theorem wb(o:Oper)(t:Nat):(na o).testBit t=true↔o.dst=some t:=by
 unfold na;cases o.dst with
 |none=>simp
 |some d=>simp[yn]
theorem E2(ops:Array Oper)(o:Oper)(t:Nat):(nV ops.toList o).testBit t=true↔t∈o.looksAt ops:=by
 unfold nV Oper.looksAt;rw[nI,ji,yU,List.mem_append,List.mem_filterMap];refine or_congr ⟨fun h=>⟨_,h,rfl⟩,?_⟩ ?_
 ·rintro⟨x,hx,he⟩
  cases x<;>simp at he
  subst he;exact hx
 ·cases hg:o.guard with
  |none=>simp
  |some g=>
   obtain⟨j,want⟩:=g;simp only[bJ];cases hj:ops[j]? with
   |none=>simp
   |some oj=>simp[wb]
variable {P:Program} {ro:Option Nat} {n:Nat} {ops:Array Oper} {Q:Exit→Act→World→Prop}
structure MsOk(ops:Array Oper)(ms:List DM):Prop where
 am:∀(i:Nat) (o:Oper) (m:DM),ops[i]? =some o→ms[i]? =some m→∀j,m.am.testBit j=jo o j
 lk:∀(i:Nat) (o:Oper) (m:DM),ops[i]? =some o→ms[i]? =some m→∀t,m.lk.testBit t=true↔t∈o.looksAt ops
 ds:∀(i:Nat) (o:Oper) (m:DM),ops[i]? =some o→ms[i]? =some m→∀t,m.ds.testBit t=true↔o.dst=some t
 len:ms.length=ops.size
 free:∀(i j:Nat) (m k:DM),ms[i]? =some m→ms[j]? =some k→m.fr.testBit j=true→j=i∨k.am.testBit i=true∨Bc m k=true
 nosel:∀(i:Nat) (o:Oper),ops[i]? =some o→(∀cs b,o.op≠ .select cs b)∧(∀c,o.op≠ .defer c)
theorem zj(ops:List Oper):∀(l:List Oper) (ms:List DM),vH ops l ms=true→ms.length=l.length∧∀(i:Nat) (o:Oper) (m:DM),l[i]? =some o→ms[i]? =some m→
  m.am=mr o.after.toList∧m.lk=nV ops o∧m.ds=na o
 | [],[],_=>⟨rfl,fun i o m h=>by simp at h⟩
 | [],_::_,h=>by cases h
 |o::l,[],h=>by cases h
 |o::l,m::ms,h=>by
  have hc:vH ops (o::l) (m::ms)=(bN (mr o.after.toList) m.am&&bN (nV ops o) m.lk&&bN (na o) m.ds&&vH ops l ms):=rfl;rw[hc]at h;simp only[bm]at h;obtain⟨⟨⟨h1,h2⟩,h3⟩,h4⟩:=h;obtain⟨hl,hg⟩:=zj ops l ms h4;refine⟨by simp[hl],fun i o' m' ho hm=>?_⟩
  cases i with
  |zero=>
   simp only[cB,bK.injEq]at ho hm;subst ho;subst hm;exact⟨(aX h1).symm,(aX h2).symm,(aX h3).symm⟩
  |succ i=>exact hg i o' m' (by simpa using ho) (by simpa using hm)
theorem Gm(i:Nat)(m:DM):∀(l:List DM) (j0:Nat),Gn i m l j0=true→∀(j:Nat) (k:DM),l[j]? =some k→m.fr.testBit (j0+j)=true→j0+j=i∨k.am.testBit i=true∨Bc m k=true
 | [],j0,_,j,k,hk,_=>by simp at hk
 |x::l,j0,h,j,k,hk,hb=>by
  have hc:Gn i m (x::l) j0=((!(tb m.fr j0)||bN j0 i||tb x.am i||Bc m x)&&Gn i m l (fY j0)):=rfl
  rw[hc]at h;simp only[bm,ji,pd,BA]at h;cases j with
  |zero=>
   simp only[cB,bK.injEq]at hk;subst hk;simp only[Nat.add_zero]at hb⊢;rcases h.1 with((h1|h1)|h1)|h1
   ·rw[h1]at hb;cases hb
   ·exact .inl (aX h1)
   ·exact .inr (.inl h1)
   ·exact .inr (.inr h1)
  |succ j=>
   have:=Gm i m l (j0+1) h.2 j k (by simpa using hk) (by rw[show j0+1+j=j0+(j+1) by omega];exact hb)
   rw[show j0+1+j=j0+(j+1) by omega]at this
   exact this
theorem BO(all:List DM):∀(l:List DM) (i0:Nat),zt all l i0=true→∀(i:Nat) (m:DM),l[i]? =some m→Gn (i0+i) m all 0=true
 | [],i0,_,i,m,hm=>by simp at hm
 |x::l,i0,h,i,m,hm=>by
  have hc:zt all (x::l) i0=(Gn i0 x all 0&&zt all l (fY i0)):=rfl;rw[hc,bm]at h;cases i with
  |zero=>simp only[cB,bK.injEq]at hm;subst hm;exact h.1
  |succ i=>
   have:=BO all l (i0+1) h.2 i m (by simpa using hm);rw[show i0+1+i=i0+(i+1) by omega]at this
   exact this
theorem F7:∀(l:List Oper),Jr l=true→∀o∈l,(∀cs b,o.op≠ .select cs b)∧(∀c,o.op≠ .defer c)
 | [],_,o,ho=>by cases ho
 |x::l,h,o,ho=>by
  simp only[Jr,bm]at h;rcases aC.1 ho with rfl|ho
  ·refine⟨fun cs b e=>?_,fun c e=>?_⟩
   ·rw[e]at h;cases h.1
   ·rw[e]at h;cases h.1
  ·exact F7 l h.2 o ho
theorem LG{ms:List DM}(h:CG ops.toList ms=true):MsOk ops ms:=by
 have hc:CG ops.toList ms=(vH ops.toList ops.toList ms&&zt ms ms 0&&Jr ops.toList):=rfl;rw[hc]at h;simp only[bm]at h;obtain⟨⟨h1,h2⟩,h3⟩:=h;obtain⟨hl,hg⟩:=zj ops.toList ops.toList ms h1;refine⟨fun i o m ho hm j=>?_,fun i o m ho hm t=>?_,fun i o m ho hm t=>?_,by simpa using hl,fun i j m k hm hk hb=>?_,fun i o ho=>?_⟩
 ·rw[(hg i o m (by simpa using ho) hm).1,zJ]
 ·rw[(hg i o m (by simpa using ho) hm).2.1,E2]
 ·rw[(hg i o m (by simpa using ho) hm).2.2,wb]
 ·have:=BO ms ms 0 h2 i m hm
  rw[aF]at this;have:=Gm i m ms 0 this j k hk (by rwa [aF]);rwa [aF]at this
 ·exact F7 _ h3 o (jB (by rw[bJ];exact ho))
theorem Q6{ms:List DM}(hm:MsOk ops ms){i j:Nat}{oi oj:Oper}{mi mj:DM}(hi:ops[i]? =some oi) (hj:ops[j]? =some oj) (hmi:ms[i]? =some mi) (hmj:ms[j]? =some mj) (h:Bc mi mj=true):
  (∀d,oi.dst=some d→d∉oj.looksAt ops)∧(∀d,oi.dst=some d→oj.dst≠some d)∧(∀d,oj.dst=some d→d∉oi.looksAt ops):=by
 unfold Bc at h;rw[bm]at h;refine⟨fun d hd hl=>?_,fun d hd he=>?_,fun d hd hl=>?_⟩
 ·exact Bb h.1 d ((hm.ds i oi mi hi hmi d).2 hd) (by rw[nI,(hm.lk j oj mj hj hmj d).2 hl,Bool.true_or])
 ·exact Bb h.1 d ((hm.ds i oi mi hi hmi d).2 hd) (by rw[nI,(hm.ds j oj mj hj hmj d).2 he,Bool.or_true])
 ·exact Bb h.2 d ((hm.ds j oj mj hj hmj d).2 hd) ((hm.lk i oi mi hi hmi d).2 hl)
structure LsRel(ops:Array Oper)(ls:Nat)(listed:Array Bool):Prop where
 size:listed.size=ops.size
 bit:∀j,listed.getD j false=ls.testBit j
theorem LsRel.start:LsRel ops 0 (qz ops.size false):=⟨by simp,fun j=>by
 rw[fX,df]
 by_cases h:j<ops.size<;>simp[h]⟩
theorem LsRel.put{ls:Nat}{listed:Array Bool}(h:LsRel ops ls listed){i:Nat}(hi:i<ops.size):LsRel ops (cW ls (gM i)) (listed.setIfInBounds i true):=by
 refine⟨by simp[h.size],fun j=>?_⟩
 rw[nI,yn,←h.bit];by_cases e:i=j
 ·subst e;simp[h.size,hi]
 ·simp[e,eZ e]
theorem LsRel.unlisted{ls:Nat}{listed:Array Bool}(h:LsRel ops ls listed){i:Nat}(hi:i<ops.size):listed.getD i true=ls.testBit i:=by
 rw[←h.bit];have:i<listed.size:=by rw[h.size];exact hi
 simp[this]
theorem FT{ms:List DM}(hm:MsOk ops ms){ls:Nat}{listed:Array Bool}(h:LsRel ops ls listed){j:Nat}:j∈Region.ready .any ops listed↔∃m,ms[j]? =some m∧ls.testBit j=false∧FU m ls=true:=by
 rw[mem_ready];constructor
 ·rintro⟨h0,o,ho,hall⟩
  have hj:j<ops.size:=(cF.1 ho).1;have hjm:j<ms.length:=by rw[hm.len];exact hj
  refine⟨ms[j],af hjm,by rw[←h.unlisted hj];exact h0,?_⟩
  unfold FU;have:jz (ms[j]).am ls=(ms[j]).am:=by
   apply Nat.eq_of_testBit_eq;intro t;have hand:(jz (ms[j]).am ls).testBit t=((ms[j]).am.testBit t&&ls.testBit t):=ik _ _ t;rw[hand];cases ht:(ms[j]).am.testBit t with
   |false=>rfl
   |true=>
    rw[hm.am j o _ ho (af hjm)]at ht;unfold jo at ht;obtain⟨e,he,hb⟩:=cp.1 ht;simp only[bm]at hb;have:=hall e (by simpa using he) hb.2;rw[aX hb.1,h.bit]at this;rw[this];rfl
  rw[this];exact qV _
 ·rintro⟨m,hmj,h0,hr⟩
  have hj:j<ops.size:=by rw[←hm.len];exact(bB.1 hmj).1
  refine⟨by rw[h.unlisted hj];exact h0,ops[j],gu hj,fun e he hb=>?_⟩
  rw[h.bit];refine SO hr e.on ?_;rw[hm.am j _ m (gu hj) hmj];unfold jo;exact cp.2 ⟨e,by simpa using he,by simp[hb]⟩
theorem rc(ls:Nat):∀(l:List DM) (j0 j:Nat),j∈lP ls l j0↔∃k m,l[k]? =some m∧j=j0+k∧ls.testBit j=false∧FU m ls=true
 | [],j0,j=>by simp[show lP ls [] j0= []from rfl]
 |m::l,j0,j=>by
  have hc:lP ls (m::l) j0=bif !(tb ls j0)&&FU m ls then j0::lP ls l (fY j0)else lP ls l (fY j0):=rfl;have ih:=rc ls l (j0+1) j;rw[hc,BA];have step:(∃k m',(m::l)[k]? =some m'∧j=j0+k∧ls.testBit j=false∧FU m' ls=true)↔(j=j0∧ls.testBit j0=false∧FU m ls=true)∨j∈lP ls l (j0+1):=by
   rw[ih];constructor
   ·rintro⟨k,m',hk,rfl,h1,h2⟩
    cases k with
    |zero=>simp only[cB,bK.injEq]at hk;subst hk;exact .inl ⟨rfl,h1,h2⟩
    |succ k=>exact .inr ⟨k,m',by simpa using hk,by omega,h1,h2⟩
   ·rintro(⟨rfl,h1,h2⟩|⟨k,m',hk,rfl,h1,h2⟩)
    ·exact⟨0,m,rfl,rfl,h1,h2⟩
    ·exact⟨k+1,m',by simpa using hk,by omega,h1,h2⟩
  rw[step];cases hb:(!(ls.testBit j0)&&FU m ls)with
  |true=>
   simp only[bm,pd]at hb;rw[cond_true,aC];simp[hb.1,hb.2]
  |false=>
   rw[cond_false];constructor
   ·exact .inr
   ·rintro(⟨_,h1,h2⟩|h)
    ·rw[h1,h2]at hb;cases hb
    ·exact h
theorem ol{ms:List DM}(hm:MsOk ops ms){ls:Nat}{listed:Array Bool}(h:LsRel ops ls listed){j:Nat}:j∈Region.ready .any ops listed↔j∈lP ls ms 0:=by
 rw[FT hm h,rc];constructor
 ·rintro⟨m,h1,h2,h3⟩;exact⟨j,m,h1,by omega,h2,h3⟩
 ·rintro⟨k,m,h1,rfl,h2,h3⟩;exact⟨m,by simpa using h1,h2,h3⟩
theorem wJ:∀{a b:List Nat},uy a b=true→a=b
 | [],[],_=>rfl
 | [],_::_,h=>by cases h
 |_::_,[],h=>by cases h
 |a::as,b::bs,h=>by
  simp only[uy,bm]at h;rw[aX h.1,wJ h.2]
end Go.Lift
namespace Go.Lift
open Go
variable {P:Program} {ro:Option Nat} {n:Nat} {ops:Array Oper} {Q:Exit→Act→World→Prop}
theorem yT{m:Nat}{p:Nat→Bool}(hm:∀j,m.testBit j=true→p j=true):∀(l:List DM) (j0:Nat),(∀j x,l[j]? =some x→p (j0+j)=true→∀k,x.am.testBit k=true→p k=true)→∀k,(Pm m l j0).testBit k=true→p k=true
 | [],_,_,k,h=>hm k h
 |x::l,j0,hl,k,h=>by
  have hc:Pm m (x::l) j0=bif tb m j0 then cW x.am (Pm m l (fY j0))else Pm m l (fY j0):=rfl;have ih:=yT hm l (j0+1) (fun j y hy hp=>hl (j+1) y (by simpa using hy) (by rw[show j0+(j+1)=j0+1+j by omega];exact hp)) k
  rw[hc,BA]at h;cases hb:m.testBit j0 with
  |true=>
   rw[hb,cond_true,nI,ji]at h;rcases h with h|h
   ·exact hl 0 x rfl (hm _ hb) k h
   ·exact ih h
  |false=>
   rw[hb,cond_false]at h;exact ih h
theorem yS{m k:Nat}(h:m.testBit k=true):∀(l:List DM) (j0:Nat),(Pm m l j0).testBit k=true
 | [],_=>h
 |x::l,j0=>by
  have hc:Pm m (x::l) j0=bif tb m j0 then cW x.am (Pm m l (fY j0))else Pm m l (fY j0):=rfl;have ih:=yS h l (j0+1);rw[hc];cases tb m j0 with
  |true=>rw[cond_true,nI,ji];exact .inr ih
  |false=>exact ih
def Shut(ms:List DM)(listed:Array Bool):Prop:=∀j x,ms[j]? =some x→listed.getD j false=true→∀k,x.am.testBit k=true→listed.getD k false=true
theorem O4{ms:List DM}{listed:Array Bool}(hs:Shut ms listed){m:Nat}(hm:∀j,m.testBit j=true→listed.getD j false=true){k:Nat}(h:(zE ms m).testBit k=true):listed.getD k false=true:=by
 have hl:∀j x,ms[j]? =some x→(fun k=>listed.getD k false) (0+j)=true→∀k,x.am.testBit k=true→(fun k=>listed.getD k false) k=true:=fun j x hx hp=>hs j x hx (by rw[aF]at hp;exact hp)
 unfold zE at h;exact yT (p:=fun k=>listed.getD k false) (yT (yT (yT hm ms 0 hl) ms 0 hl) ms 0 hl) ms 0 hl k h
theorem O3{ms:List DM}{m k:Nat}(h:m.testBit k=true):(zE ms m).testBit k=true:=by
 unfold zE;exact yS (yS (yS (yS h ms 0) ms 0) ms 0) ms 0
noncomputable abbrev rel(ms:List DM)(i:Nat)(L:qt):qt:=y3 (zE ms (HR ms i)) L
theorem me{m:Nat}{x:Nat×(ad→Prop)}:∀{L:qt},x∈y3 m L↔x∈L∧tb m x.1=false
 | []=>by simp[y3]
 |(k,S)::L=>by
  have ih:=me (m:=m) (x:=x) (L:=L);simp only[y3];cases hk:tb m k with
  |true=>
   rw[cond_true,ih,aC];constructor
   ·exact fun h=>⟨.inr h.1,h.2⟩
   ·rintro⟨h|h,h2⟩
    ·subst h;rw[hk]at h2;cases h2
    ·exact⟨h,h2⟩
  |false=>
   rw[cond_false,aC,ih,aC];constructor
   ·rintro(h|h)
    ·subst h;exact⟨.inl rfl,hk⟩
    ·exact⟨.inr h.1,h.2⟩
   ·rintro⟨h|h,h2⟩
    ·exact .inl h
    ·exact .inr ⟨h,h2⟩
def Pz(ms:List DM)(ro:Option Nat)(n:Nat)(P:Program)(ops:Array Oper)(Q:Exit→Act→World→Prop):Nat→qt→Array Bool→Act→World→Prop
 |0,_,listed,a,w=>Region.ready .any ops listed= []∧Q .normal a w
 |f+1,L,listed,a,w=>(Region.ready .any ops listed= []→Q .normal a w)∧
  ∀i∈Region.ready .any ops listed,∀o,ops[i]? =some o→
   wpOpIn (FW ro) n P ops Q i (fun a' w'=>(∀x∈rel ms i L,x.2 w'.heap)∧Pz ms ro n P ops Q f (rel ms i L) (listed.setIfInBounds i true) a' w') a w
theorem BF{o:Oper}{x:Nat×(ad→Prop)}:∀{L:qt},x∈rT o L↔x∈L∧jo o x.1=false
 | []=>by simp[rT]
 |(k,S)::L=>by
  have ih:=BF (o:=o) (x:=x) (L:=L);simp only[rT];cases hk:jo o k with
  |true=>
   rw[cond_true,ih,aC];constructor
   ·exact fun h=>⟨.inr h.1,h.2⟩
   ·rintro⟨h|h,h2⟩
    ·subst h;rw[hk]at h2;cases h2
    ·exact⟨h,h2⟩
  |false=>
   rw[cond_false,aC,ih,aC];constructor
   ·rintro(h|h)
    ·subst h;exact⟨.inl rfl,hk⟩
    ·exact⟨.inr h.1,h.2⟩
   ·rintro⟨h|h,h2⟩
    ·exact .inl h
    ·exact .inr ⟨h,h2⟩
theorem Oo{listed:Array Bool}{i:Nat}(h:i∈Region.ready .any ops listed):∃o,ops[i]? =some o:=by
 obtain⟨_,o,ho,_⟩:=mem_ready.1 h;exact⟨o,ho⟩
theorem M1{ms:List DM}:∀(f:Nat) (L:qt) (listed:Array Bool) (a:Act) (w:World),Pz ms ro n P ops Q f L listed a w→wpAnyIn (FW ro) n P .any ops Q f listed a w
 |0,_,_,_,_,h=>h
 |f+1,L,listed,a,w,h=>⟨h.1,fun i hi=>by
  obtain⟨o,ho⟩:=Oo hi
  exact wpOpIn_mono (fun a' w' h'=>M1 f _ _ a' w' h'.2) (h.2 i hi o ho)⟩
theorem vy{ms:List DM}:∀(f:Nat) (L L':qt) (listed:Array Bool) (a:Act) (w:World),(∀x∈L',x∈L∨∀h,x.2 h)→Pz ms ro n P ops Q f L listed a w→Pz ms ro n P ops Q f L' listed a w
 |0,_,_,_,_,_,_,h=>h
 |f+1,L,L',listed,a,w,hs,h=>⟨h.1,fun i hi o ho=>by
  have hsub:∀x∈rel ms i L',x∈rel ms i L∨∀h,x.2 h:=fun x hx=>(hs x (me.1 hx).1).imp (fun h=>me.2 ⟨h,(me.1 hx).2⟩) id
  exact wpOpIn_mono (fun a' w' h'=>⟨fun x hx=>(hsub x hx).elim (h'.1 x) fun h=>h _,vy f _ _ _ a' w' hsub h'.2⟩) (h.2 i hi o ho)⟩
def YG(P:Program)(ops:Array Oper)(S:ad→Prop)(o:Oper)(v:Value)(a:Act):Prop:=
 (Region.wanted o (yielded ops a.tmps)=true∧∀w:World,S w.heap→(execOp a.eval o).run P w=.ok (.value v) w)∨
 (Region.wanted o (yielded ops a.tmps)=false∧v=undef)
theorem YG.wpOp{S:ad→Prop}{i:Nat}{o:Oper}{v:Value}{a:Act}(hi:ops[i]? =some o) (hd:∀c,o.op≠ .defer c) (hy:YG P ops S o v a) {K:Act→World→Prop} {w:World} (hS:S w.heap)
  (h:K (a.put o.dst v) w):wpOpIn (FW ro) n P ops Q i K a w:=by
 unfold wpOpIn;simp only[hi];rcases hy with⟨hw,hv⟩|⟨hw,rfl⟩
 ·simp only[hw,if_true]
  refine⟨fun _ _=>trivial,?_⟩
  rw[Oper.semAt_eq _ _ _ hd,hv w hS];exact h
 ·simp only[hw,Bool.false_eq_true,if_false];exact⟨fun _ _=>trivial,h⟩
theorem YG.of_same{S:ad→Prop}{o:Oper}{v:Value}{a a':Act}(hy:YG P ops S o v a)(he:execOp a'.eval o=execOp a.eval o)
  (hw:Region.wanted o (yielded ops a'.tmps)=Region.wanted o (yielded ops a.tmps)):YG P ops S o v a':=by
 unfold YG at*;rw[he,hw];exact hy
theorem KJ{S:ad→Prop}{j:Nat}{oi oj:Oper}{v:Value}(hj:ops[j]? =some oj)
  (hap:(∀d,oi.dst=some d→d∉oj.looksAt ops)∧(∀d,oi.dst=some d→oj.dst≠some d)∧(∀d,oj.dst=some d→d∉oi.looksAt ops))
  (hsi:∀cs b,oi.op≠ .select cs b) (hsj:∀cs b,oj.op≠ .select cs b) (hdj:∀c,oj.op≠ .defer c)
  (hQ:∀e a w,(∀c,e=.panic c→False)∨¬Q e a w) {K:Act→World→Prop} {a:Act} {w:World}
  (hy:YG P ops S oi v a) (h:wpOpIn (FW ro) n P ops Q j K (a.put oi.dst v) w):
  wpOpIn (FW ro) n P ops Q j (fun a' w'=>YG P ops S oi v a'∧K (a'.put oi.dst v) w') a w:=by
 obtain⟨h1,h2,h3⟩:=hap;have hnp:∀c a w,¬Q (.panic c) a w:=fun c a w hq=>(hQ (.panic c) a w).elim (fun h=>h c rfl) fun h=>h hq
 have keep:∀(a:Act),YG P ops S oi v a→∀u,YG P ops S oi v (a.put oj.dst u):=fun a hy u=>
  hy.of_same (execOp_put oi hsi a oj.dst u h3) (wanted_put oi a oj.dst u h3)
 unfold wpOpIn at*;simp only[hj]at*;rw[wanted_put oj a oi.dst v h1]at h;split
 ·rename_i hw
  simp only[hw,if_true]at h;refine⟨fun _ _=>trivial,?_⟩
  have h:=h.2;rw[Oper.semAt_eq _ _ _ hdj,execOp_put oj hsj a oi.dst v h1]at h;rw[Oper.semAt_eq _ _ _ hdj];generalize (execOp a.eval oj).run P w=r at*;cases r with
  |ok x w'=>
   cases x<;>simp only[Oper.uponIn]at h⊢
   case value u=>exact⟨keep a hy u,by rw[←Act.put_comm a v u h2];exact h⟩
   case skip=>exact⟨keep a hy _,by rw[←Act.put_comm a v undef h2];exact h⟩
   case defer d=>
    refine⟨(hy.of_same (a':={a with defers:=d::a.defers}) rfl rfl).of_same (execOp_put oi hsi _ oj.dst undef h3) (wanted_put oi _ oj.dst undef h3),?_⟩;rw[←Act.put_comm _ v undef h2,←Act.put_defers];exact h
   case enter f args=>
    refine⟨h.1,CallsIn.mono h.2 fun e w'' he=>?_⟩
    cases e with
    |returned u=>exact⟨keep a hy u,by rw[←Act.put_comm a v u h2];exact he⟩
    |panicked c=>exact(hnp _ _ _ he).elim
    |outgrown=>exact he
   case row row args=>exact⟨h.1,RowsIn.mono h.2 fun u w'' he=>⟨keep a hy u,by rw[←Act.put_comm a v u h2];exact he⟩⟩
   case round l f tmps assign body=>
    refine⟨h.1,RoundIn.mono h.2 fun e w'' he=>?_⟩
    cases e with
    |returned u=>exact⟨keep a hy u,by rw[←Act.put_comm a v u h2];exact he⟩
    |panicked c=>exact(hnp _ _ _ he).elim
    |outgrown=>exact he
  |halt x w'=>
   cases x<;>simp only[Oper.uponIn]at h⊢
   case panic u=>exact(hnp _ _ _ h).elim
 ·rename_i hw
  simp only[hw]at h;exact⟨fun _ _=>trivial,keep a hy _,by rw[←Act.put_comm a v undef h2];exact h.2⟩
theorem NS{ms:List DM}(hm:MsOk ops ms){i:Nat}{o:Oper}(ho:ops[i]? =some o) (k:Nat):(HR ms i).testBit k=jo o k:=by
 have hi:i<ms.length:=by rw[hm.len];exact(cF.1 ho).1
 unfold HR;rw[af hi];exact hm.am i o _ ho (af hi) k
theorem IW{ms:List DM}(hm:MsOk ops ms){listed:Array Bool}{j:Nat}(hj:j∈Region.ready .any ops listed)(k:Nat)(hk:(HR ms j).testBit k=true):listed.getD k false=true:=by
 obtain⟨_,o,ho,hall⟩:=mem_ready.1 hj;rw[NS hm ho]at hk;unfold jo at hk;obtain⟨e,he,hb⟩:=cp.1 hk;simp only[bm]at hb;have:=hall e (by simpa using he) hb.2;rw[aX hb.1]at this;exact this
theorem JG{listed:Array Bool}{j k:Nat}(h:listed.getD k false=true):(listed.setIfInBounds j true).getD k false=true:=by
 by_cases e:j=k
 ·subst e
  rw[df]at h⊢;rcases bE j listed.size with h'|h'
  ·simp[h']
  ·simp[kG h']at h
 ·rw[df,eZ e,←df]
  exact h
theorem Shut.put{ms:List DM}(hm:MsOk ops ms){listed:Array Bool}(hs:Shut ms listed){j:Nat}(hj:j∈Region.ready .any ops listed):Shut ms (listed.setIfInBounds j true):=by
 intro i x hx hl k hk;by_cases e:j=i
 ·subst e
  refine JG (IW hm hj k ?_);unfold HR;rw[hx];exact hk
 ·rw[df,eZ e,←df]at hl
  exact JG (hs i x hx hl k hk)
theorem CS{ms:List DM}(hm:MsOk ops ms){S:ad→Prop}{i:Nat}{oi:Oper}{v:Value}(hi:ops[i]? =some oi) (hsel:∀(j:Nat) (o:Oper),ops[j]? =some o→(∀cs b,o.op≠ .select cs b)∧(∀c,o.op≠ .defer c))
  (hQ:∀e a w,(∀c,e=.panic c→False)∨¬Q e a w):
  ∀(fuel:Nat) (L:qt) (listed:Array Bool) (a:Act) (w:World),
   (∀j oj,ops[j]? =some oj→j≠i→listed.getD j true=false→jo oj i=false→
    (∀d,oi.dst=some d→d∉oj.looksAt ops)∧(∀d,oi.dst=some d→oj.dst≠some d)∧(∀d,oj.dst=some d→d∉oi.looksAt ops))→
   Shut ms listed→i∈Region.ready .any ops listed→YG P ops S oi v a→S w.heap→(∀x∈L,x.2 w.heap)→
   Pz ms ro n P ops Q fuel ((i,S)::L) (listed.setIfInBounds i true) (a.put oi.dst v) w→Pz ms ro n P ops Q (fuel+1) L listed a w:=by
 intro fuel;induction fuel with
 |zero=>
  intro L listed a w _ _ hr hy hS hL H;refine⟨fun h=>(by rw[h]at hr;cases hr),fun j hj oj hoj=>?_⟩
  by_cases hji:j=i
  ·subst hji
   rw[hi]at hoj;cases hoj;exact hy.wpOp hi (hsel _ _ hi).2 hS ⟨fun x hx=>hL x (me.1 hx).1,H⟩
  ·have:=ready_mono hj hji
   rw[H.1]at this;cases this
 |succ fuel ih=>
  intro L listed a w hfree hsh hr hy hS hL H;refine⟨fun h=>(by rw[h]at hr;cases hr),fun j hj oj hoj=>?_⟩
  by_cases hji:j=i
  ·subst hji
   rw[hi]at hoj;cases hoj;exact hy.wpOp hi (hsel _ _ hi).2 hS ⟨fun x hx=>hL x (me.1 hx).1,vy _ _ _ _ _ _ (fun x hx=>.inl (aN _ (me.1 hx).1)) H⟩
  ·have h1:=H.2 j (ready_mono hj hji) oj hoj
   obtain⟨hjun,oj',hoj',hall⟩:=mem_ready.1 hj;rw[hoj]at hoj';cases hoj';have hnot:jo oj i=false:=by
    cases hb:jo oj i with
    |false=>rfl
    |true=>
     unfold jo at hb;obtain⟨e,he,hb⟩:=cp.1 hb;simp only[bm]at hb;have h1:=hall e (by simpa using he) hb.2;rw[aX hb.1]at h1;have h0:=(mem_ready.1 hr).1;rcases bE i listed.size with h'|h'
     ·simp[h']at h0 h1;rw[h0]at h1;cases h1
     ·simp[kG h']at h1
   have hnotT:tb (zE ms (HR ms j)) i=false:=by
    cases hb:tb (zE ms (HR ms j)) i with
    |false=>rfl
    |true=>
     rw[BA]at hb;have h1:=O4 hsh (IW hm hj) hb;have h0:=(mem_ready.1 hr).1;rcases bE i listed.size with h'|h'
     ·simp[h']at h0 h1;rw[h0]at h1;cases h1
     ·simp[kG h']at h1
   have hrel:rel ms j ((i,S)::L)=(i,S)::rel ms j L:=by simp only[rel,y3,hnotT,cond_false]
   rw[hrel]at h1;have h2:=KJ hoj (hfree j oj hoj hji hjun hnot) (hsel _ _ hi).1 (hsel _ _ hoj).1 (hsel _ _ hoj).2 hQ hy h1;have hfree':∀k ok,ops[k]? =some ok→k≠i→(listed.setIfInBounds j true).getD k true=false→jo ok i=false→
     (∀d,oi.dst=some d→d∉ok.looksAt ops)∧(∀d,oi.dst=some d→ok.dst≠some d)∧(∀d,ok.dst=some d→d∉oi.looksAt ops):=fun k ok hk hki hun hno=>by
    refine hfree k ok hk hki ?_ hno;by_cases hjk:j=k
    ·subst hjk;exact hjun
    ·rw[getD_set_ne true hjk]at hun;exact hun
   refine wpOpIn_mono (fun a' w' h3=>⟨fun x hx=>h3.2.1 x (aN _ hx),ih (rel ms j L) (listed.setIfInBounds j true) a' w' hfree' (hsh.put hm hj) (ready_mono hr (Ne.symm hji)) h3.1 (h3.2.1 _ (av ..)) (fun x hx=>h3.2.1 x (aN _ hx)) ?_⟩) h2
   rw[Array.setIfInBounds_comm _ _ hji];exact h3.2.2
theorem uz{h:ad}{R:Prop}:∀{L:qt},tP L h R↔(∀x∈L,x.2 h)∧R
 | []=>by simp[tP]
 |(k,S)::L=>by
  simp only[tP,uz (L:=L),aC,forall_eq_or_imp,and_assoc]
theorem Py{ms:List DM}{f:Nat}{L:qt}{listed:Array Bool}{a:Act}{w:World}(hr:Region.ready .any ops listed= [])(h:Q .normal a w):Pz ms ro n P ops Q f L listed a w:=by
 cases f with
 |zero=>exact⟨hr,h⟩
 |succ f=>exact⟨fun _=>h,by rw[hr];simp⟩
def left(ops:Array Oper)(ls:Nat):Nat:=((List.range ops.size).filter fun j=> !ls.testBit j).length
theorem zm{ls i:Nat}(hi:i<ops.size)(h0:ls.testBit i=false):left ops (cW ls (gM i))+1=left ops ls:=by
 have key:∀l:List Nat,l.Nodup→i∈l→(l.filter fun j=> !(cW ls (gM i)).testBit j).length+1=(l.filter fun j=> !ls.testBit j).length:=by
  intro l;induction l with
  |nil=>intro _ h;cases h
  |cons x l ih=>
   intro hn hm;rw[List.nodup_cons]at hn;by_cases hx:x=i
   ·subst hx
    have hrest:(l.filter fun j=> !(cW ls (gM x)).testBit j)=l.filter fun j=> !ls.testBit j:=by
     apply List.filter_congr;intro y hy;have:x≠y:=fun e=>hn.1 (e▸hy)
     rw[nI,yn,decide_eq_false this,Bool.or_false]
    have h1:(cW ls (gM x)).testBit x=true:=by rw[nI,yn];simp
    rw[cC,cC,h1,h0,hrest];rfl
   ·have hm':i∈l:=by rcases aC.1 hm with h|h;exact absurd h.symm hx;exact h
    have h1:(cW ls (gM i)).testBit x=ls.testBit x:=by rw[nI,yn,decide_eq_false (Ne.symm hx),Bool.or_false]
    have:=ih hn.2 hm';rw[cC,cC,h1];cases ls.testBit x with
    |true=>exact this
    |false=>exact congrArg (· +1) this
 exact key _ List.nodup_range (List.mem_range.2 hi)
theorem OU{N:Nat}{opl:List Oper}{ms:List DM}{ls:Nat}{L:qt}{d:um}{K:cH→ad→Prop}{r:cH}{hp:ad}:∀{l:DA},mR P N opl ms l true ls L d K r hp→∃i,i∈A0 l
 | .done,h=>h.elim
 | .take i rest,h=>by
  exfalso;have hc:mR P N opl ms (.take i rest) true ls L d K r hp=(match opl[i]?,ms[i]? with|some _,some _=>False|_,_=>False):=rfl
  rw[hc]at h;split at h<;>exact h
 | .all _,h=>h.elim
 | .pick i _ _,_=>⟨i,av ..⟩
 | .last i _,_=>⟨i,av ..⟩
 | .lastT i _,_=>⟨i,av ..⟩
 | .split ..,h=>h.elim
def MN(ro:Option Nat)(n:Nat)(P:Program)(ops:Array Oper)(Q:Exit→Act→World→Prop)(N:Nat)(ms:List DM)(W:Nat→Prop)(a0:Act)(w0:World)(K:cH→ad→Prop)(da:DA):Prop:=
 ∀(m:Bool) (ls:Nat) (L:qt) (d:um) (r:cH) (a:Act) (w:World) (listed:Array Bool) (fuel:Nat),
  mR P N ops.toList ms da m ls L d K r w.heap→Agree N r a→DecOk d r→Fr W a0 w0 a w→LsRel ops ls listed→Shut ms listed→(∀x∈L,x.2 w.heap)→
  (m=false→left ops ls≤fuel→Pz ms ro n P ops Q fuel L listed a w)∧
  (m=true→left ops ls≤fuel+1→∀i∈A0 da,i∈lP ls ms 0→∀o,ops[i]? =some o→
   wpOpIn (FW ro) n P ops Q i (fun a' w'=>(∀x∈rel ms i L,x.2 w'.heap)∧Pz ms ro n P ops Q fuel (rel ms i L) (listed.setIfInBounds i true) a' w') a w)
theorem IQ{N:Nat}{ms:List DM}(hm:MsOk ops ms){W:Nat→Prop}(hW:∀o∈ops.toList,∀d,o.dst=some d→W d){a0:Act}{w0:World}{K:cH→ad→Prop}
  (hQ:∀r a w,Agree N r a→Fr W a0 w0 a w→K r w.heap→Q .normal a w)(hnp:∀e a w,(∀c,e=.panic c→False)∨¬Q e a w)(da:DA):
  MN ro n P ops Q N ms W a0 w0 K da:=by
 have one:∀(i:Nat) (rest:DA)
   (_:MN ro n P ops Q N ms W a0 w0 K rest)
   (ls:Nat) (L:qt) (d:um) (r:cH) (a:Act) (w:World) (listed:Array Bool) (fuel:Nat),
   Oj P N ops.toList i L d r w.heap (fun L' d' r' h'=>mR P N ops.toList ms rest false (cW ls (gM i)) L' d' K r' h')→Agree N r a→DecOk d r→Fr W a0 w0 a w→LsRel ops ls listed→Shut ms listed→
   left ops ls≤fuel+1→i∈lP ls ms 0→∀o,ops[i]? =some o→
    wpOpIn (FW ro) n P ops Q i (fun a' w'=>(∀x∈rel ms i L,x.2 w'.heap)∧Pz ms ro n P ops Q fuel (rel ms i L) (listed.setIfInBounds i true) a' w') a w:=by
  intro i rest ih ls L d r a w listed fuel hs ha hd hf hl hsh hfu hr o ho;have hio:i<ops.size:=(cF.1 ho).1;obtain⟨k,mm,hk,hki,hbit,_⟩:=(rc ls ms 0 i).1 hr;unfold Oj at hs;rw[bJ,ho]at hs;simp only at hs;cases hw:iZ ops.toList d o with
  |none=>rw[hw]at hs;exact hs.elim
  |some b=>
   rw[hw]at hs;cases b with
   |false=>exact hs.elim
   |true=>
    simp only at hs;cases hq:vh P o.op with
    |true=>rw[hq]at hs;exact hs.elim
    |false=>
     rw[hq,cond_false]at hs;unfold wpOpIn;rw[ho];simp only[pL hw ha hd,if_true];refine rQ (vA hs) (Az ha hs) ?_;intro v w' ht hK;obtain⟨r',hr',ha',hd'⟩:=uN (dv:=.x) hK ha hd trivial;obtain⟨hh,hs'⟩:=uz.1 hr';have hmem:o∈ops.toList:=jB (by rw[bJ];exact ho);have hleft:=zm hio hbit;have hsubR:∀x∈rel ms i L,x∈rT o L:=fun x hx=>BF.2 ⟨(me.1 hx).1,by
      cases hb:jo o x.1 with
      |false=>rfl
      |true=>
        have:=(me.1 hx).2
        rw[BA,O3 (by rw[NS hm ho];exact hb)]at this;cases this⟩
     exact⟨fun x hx=>hh x (hsubR x hx),vy _ _ _ _ _ _ (fun x hx=>.inl (hsubR x hx)) ((ih false _ _ _ r' _ w' _ fuel hs' ha' hd' (hf.put (hW o hmem) v ht) (hl.put hio) (hsh.put hm ((ol hm hl).2 hr)) hh).1 rfl (by omega))⟩
 have oneT:∀(i:Nat) (rest:DA)
   (_:MN ro n P ops Q N ms W a0 w0 K rest)
   (ls:Nat) (L:qt) (d:um) (r:cH) (a:Act) (w:World) (listed:Array Bool) (fuel:Nat),
   Nd P N ops.toList ms i L d r w.heap (fun L' d' r' h'=>mR P N ops.toList ms rest false (cW ls (gM i)) L' d' K r' h')→Agree N r a→DecOk d r→Fr W a0 w0 a w→LsRel ops ls listed→Shut ms listed→
   left ops ls≤fuel+1→i∈lP ls ms 0→∀o,ops[i]? =some o→
    wpOpIn (FW ro) n P ops Q i (fun a' w'=>(∀x∈rel ms i L,x.2 w'.heap)∧Pz ms ro n P ops Q fuel (rel ms i L) (listed.setIfInBounds i true) a' w') a w:=by
  intro i rest ih ls L d r a w listed fuel hs ha hd hf hl hsh hfu hr o ho;have hio:i<ops.size:=(cF.1 ho).1;obtain⟨k,mm,hk,hki,hbit,_⟩:=(rc ls ms 0 i).1 hr;unfold Nd at hs;rw[bJ,ho]at hs;simp only at hs;cases hw:iZ ops.toList d o with
  |none=>rw[hw]at hs;exact hs.elim
  |some b=>
   rw[hw]at hs;cases b with
   |false=>exact hs.elim
   |true=>
    simp only at hs;cases hq:vh P o.op with
    |true=>rw[hq]at hs;exact hs.elim
    |false=>
     rw[hq,cond_false]at hs;unfold wpOpIn;rw[ho];simp only[pL hw ha hd,if_true];refine rQ (vA hs) (Az ha hs) ?_;intro v w' ht hK;obtain⟨r',hr',ha',hd'⟩:=uN (dv:=.x) hK ha hd trivial;obtain⟨hh,hs'⟩:=uz.1 hr';have hmem:o∈ops.toList:=jB (by rw[bJ];exact ho);have hleft:=zm hio hbit;exact⟨hh,(ih false _ _ _ r' _ w' _ fuel hs' ha' hd' (hf.put (hW o hmem) v ht) (hl.put hio) (hsh.put hm ((ol hm hl).2 hr)) hh).1 rfl (by omega)⟩
 induction da with
 |done=>
  intro m ls L d r a w listed fuel hs ha hd hf hl hsh hL;cases m with
  |true=>exact hs.elim
  |false=>
   refine⟨fun _ _=>?_,fun h=>by cases h⟩
   have hc:mR P N ops.toList ms .done false ls L d K r w.heap=bif uy (lP ls ms 0) []then K r w.heap else False:=rfl;rw[hc]at hs;cases hb:uy (lP ls ms 0) []with
   |false=>rw[hb]at hs;exact hs.elim
   |true=>
    rw[hb]at hs;have hnil:Region.ready .any ops listed= []:=by
     apply List.eq_nil_iff_forall_not_mem.2;intro j hj;rw[ol hm hl,wJ hb]at hj;cases hj
    exact Py hnil (hQ r a w ha hf hs)
 |take i rest ih=>
  intro m ls L d r a w listed fuel hs ha hd hf hl hsh hL;cases m with
  |true=>
   exfalso;have hc:mR P N ops.toList ms (.take i rest) true ls L d K r w.heap=(match ops.toList[i]?,ms[i]? with|some _,some _=>False|_,_=>False):=rfl
   rw[hc]at hs;split at hs<;>exact hs
  |false=>
   refine⟨fun _ hfu=>?_,fun h=>by cases h⟩
   have hc:mR P N ops.toList ms (.take i rest) false ls L d K r w.heap=(match ops.toList[i]?,ms[i]? with
    |some o,some mi=>bif C7 mi i ls ops.toList.length then
      (match iZ ops.toList d o with
       |none=>False
       |some false=>zB N o undef r fun r'=>mR P N ops.toList ms rest false (cW ls (gM i)) L (rp d o .u) K r' w.heap
       |some true=>bif vh P o.op then
          AN P none o.op r (fun v S=>zB N o v r fun r'=>match S with
            |none=>mR P N ops.toList ms rest false (cW ls (gM i)) L (rp d o (Im d o.op)) K r' w.heap
            |some S=>mR P N ops.toList ms rest false (cW ls (gM i)) ((i,S)::L) (rp d o (Im d o.op)) K r' w.heap) w.heap
          else False)
     else False
    |_,_=>False):=rfl
   rw[hc]at hs;split at hs
   ·rename_i o mi ho hmi
    rw[bJ]at ho;cases htk:C7 mi i ls ops.toList.length with
    |false=>rw[htk]at hs;exact hs.elim
    |true=>
     rw[htk,cond_true]at hs;unfold C7 at htk;simp only[bm,pd,BA]at htk;obtain⟨⟨hun,hrd⟩,hfr⟩:=htk;have hio:i<ops.size:=(cF.1 ho).1;have hready:i∈Region.ready .any ops listed:=(FT hm hl).2 ⟨mi,hmi,hun,hrd⟩;have hleft:=zm (ops:=ops) hio hun;obtain⟨f',rfl⟩:∃f',fuel=f'+1:=⟨fuel-1,by omega⟩
     have hmem:o∈ops.toList:=jB (by rw[bJ];exact ho);have hcov:∀j,j<ops.size→ls.testBit j=true∨mi.fr.testBit j=true:=by
      intro j hj;have h0:=aX hfr;have hpb:(wy (gM ops.toList.length)).testBit j=true:=by
        have:wy (gM ops.toList.length)=2^ops.toList.length-1:=rfl;rw[this,Nat.testBit_two_pow_sub_one];simpa using hj
      have hand:(jz (cW ls mi.fr) (wy (gM ops.toList.length))).testBit j=((cW ls mi.fr).testBit j&&(wy (gM ops.toList.length)).testBit j):=ik _ _ j;rw[h0,hpb,Bool.and_true,nI]at hand;exact(Bool.or_eq_true_iff).1 hand.symm
     have hfree:∀j oj,ops[j]? =some oj→j≠i→listed.getD j true=false→jo oj i=false→
        (∀d,o.dst=some d→d∉oj.looksAt ops)∧(∀d,o.dst=some d→oj.dst≠some d)∧(∀d,oj.dst=some d→d∉o.looksAt ops):=by
      intro j oj hoj hne hju hna;have hj:j<ops.size:=(cF.1 hoj).1;rw[hl.unlisted hj]at hju;have hjm:j<ms.length:=by rw[hm.len];exact hj
      have hmj:=af hjm;rcases hcov j hj with h|h
      · rw[h]at hju;cases hju
      · rcases hm.free i j mi _ hmi hmj h with h|h|h
        ·exact absurd h hne
        ·rw[hm.am j oj _ hoj hmj,hna]at h;cases h
        ·exact Q6 hm ho hoj hmi hmj h
     cases hw:iZ ops.toList d o with
     |none=>rw[hw]at hs;exact hs.elim
     |some b=>
      rw[hw]at hs;have hwd:=pL hw ha hd;cases b with
      |false=>
        obtain⟨r',hr',ha',hd'⟩:=uN (dv:=.u) hs ha hd rfl;have hy:YG P ops (fun _=>True) o undef a:=.inr ⟨hwd,rfl⟩
        refine CS hm ho hm.nosel hnp f' L listed a w hfree hsh hready hy trivial hL ?_;refine vy _ L _ _ _ _ (fun x hx=>(aC.1 hx).elim (fun e=>.inr fun h=>by rw[e];trivial) .inl) ?_
        exact(ih false _ _ _ r' _ w _ f' hr' ha' hd' (hf.put (hW o hmem) undef (Tame.refl w)) (hl.put hio) (hsh.put hm hready) hL).1 rfl (by omega)
      |true=>
        simp only at hs;cases hq:vh P o.op with
        |false=>rw[hq]at hs;exact hs.elim
        |true=>
         rw[hq,cond_true]at hs;obtain⟨v,S,hK,hS,hdv,hrun⟩:=FX ha hs d hd;obtain⟨r',hr',ha',hd'⟩:=uN hK ha hd hdv;have hfr':=hf.put (hW o hmem) v (Tame.refl w);cases S with
         |none=>
           have hy:YG P ops (fun _=>True) o v a:=.inl ⟨hwd,fun w _=>hrun w trivial⟩
           refine CS hm ho hm.nosel hnp f' L listed a w hfree hsh hready hy trivial hL ?_;refine vy _ L _ _ _ _ (fun x hx=>(aC.1 hx).elim (fun e=>.inr fun h=>by rw[e];trivial) .inl) ?_
           exact(ih false _ _ _ r' _ w _ f' hr' ha' hd' hfr' (hl.put hio) (hsh.put hm hready) hL).1 rfl (by omega)
         |some S=>
           have hy:YG P ops S o v a:=.inl ⟨hwd,fun w h=>hrun w h⟩
           refine CS hm ho hm.nosel hnp f' L listed a w hfree hsh hready hy hS hL ?_;exact(ih false _ _ _ r' _ w _ f' hr' ha' hd' hfr' (hl.put hio) (hsh.put hm hready) (fun x hx=>(aC.1 hx).elim (fun e=>by rw[e];exact hS) (hL x))).1 rfl (by omega)
   ·exact hs.elim
 |all l ih=>
  intro m ls L d r a w listed fuel hs ha hd hf hl hsh hL;cases m with
  |true=>exact hs.elim
  |false=>
   refine⟨fun _ hfu=>?_,fun h=>by cases h⟩
   have hc:mR P N ops.toList ms (.all l) false ls L d K r w.heap=bif uy (lP ls ms 0) (A0 l)then mR P N ops.toList ms l true ls L d K r w.heap else False:=rfl;rw[hc]at hs;cases hb:uy (lP ls ms 0) (A0 l)with
   |false=>rw[hb]at hs;exact hs.elim
   |true=>
    rw[hb,cond_true]at hs;obtain⟨i,hi⟩:=OU hs;rw[←wJ hb]at hi;have hrd:=(ol hm hl (j:=i)).2 hi;obtain⟨k,mm,hk,hki,hbit,_⟩:=(rc ls ms 0 i).1 hi;have hio:i<ops.size:=by
     have:=(bB.1 hk).1;rw[hm.len]at this;omega
    have hleft:=zm (ops:=ops) hio hbit;obtain⟨f',rfl⟩:∃f',fuel=f'+1:=⟨fuel-1,by omega⟩
    refine⟨fun h=>(by rw[h]at hrd;cases hrd),fun j hj o ho=>?_⟩
    have hj':=(ol hm hl).1 hj;exact(ih true ls L d r a w listed f' hs ha hd hf hl hsh hL).2 rfl hfu j (by rw[←wJ hb];exact hj') hj' o ho
 |pick i rest more ih1 ih2=>
  intro m ls L d r a w listed fuel hs ha hd hf hl hsh hL;cases m with
  |false=>exact hs.elim
  |true=>
   refine⟨fun h=>(by cases h),fun _ hfu j hj hjr o ho=>?_⟩
   have hs:Oj P N ops.toList i L d r w.heap (fun L' d' r' h'=>mR P N ops.toList ms rest false (cW ls (gM i)) L' d' K r' h')∧mR P N ops.toList ms more true ls L d K r w.heap:=hs
   rcases aC.1 hj with rfl|hj
   ·exact one _ rest ih1 ls L d r a w listed fuel hs.1 ha hd hf hl hsh hfu hjr o ho
   ·exact(ih2 true ls L d r a w listed fuel hs.2 ha hd hf hl hsh hL).2 rfl hfu j hj hjr o ho
 |last i rest ih=>
  intro m ls L d r a w listed fuel hs ha hd hf hl hsh hL;cases m with
  |false=>exact hs.elim
  |true=>
   refine⟨fun h=>(by cases h),fun _ hfu j hj hjr o ho=>?_⟩
   have hs:Oj P N ops.toList i L d r w.heap (fun L' d' r' h'=>mR P N ops.toList ms rest false (cW ls (gM i)) L' d' K r' h'):=hs
   have hji:j=i:=ax.1 hj;subst hji;exact one _ rest ih ls L d r a w listed fuel hs ha hd hf hl hsh hfu hjr o ho
 |lastT i rest ih=>
  intro m ls L d r a w listed fuel hs ha hd hf hl hsh hL;cases m with
  |false=>exact hs.elim
  |true=>
   refine⟨fun h=>(by cases h),fun _ hfu j hj hjr o ho=>?_⟩
   have hs:Nd P N ops.toList ms i L d r w.heap (fun L' d' r' h'=>mR P N ops.toList ms rest false (cW ls (gM i)) L' d' K r' h'):=hs
   have hji:j=i:=ax.1 hj;subst hji;exact oneT _ rest ih ls L d r a w listed fuel hs ha hd hf hl hsh hfu hjr o ho
 |split t yes no ih1 ih2=>
  intro m ls L d r a w listed fuel hs ha hd hf hl hsh hL;cases m with
  |true=>exact hs.elim
  |false=>
   refine⟨fun _ hfu=>?_,fun h=>by cases h⟩
   have hc:mR P N ops.toList ms (.split t yes no) false ls L d K r w.heap=(match j5 r t with
    |some (.bool b)=>CondP b (mR P N ops.toList ms yes false ls L ((t,.t)::d) K ((t,.bool true)::r) w.heap) (mR P N ops.toList ms no false ls L ((t,.f)::d) K ((t,.bool false)::r) w.heap)
    |_=>False):=rfl
   rw[hc]at hs;split at hs
   ·rename_i b hlk
    cases b with
    |true=>exact(ih1 false ls L _ _ a w listed fuel (hs.yes rfl) (ha.known hlk) (hd.known rfl) hf hl hsh hL).1 rfl hfu
    |false=>exact(ih2 false ls L _ _ a w listed fuel (hs.no rfl) (ha.known hlk) (hd.known rfl) hf hl hsh hL).1 rfl hfu
   ·exact hs.elim
end Go.Lift
namespace Go.Lift
open Go
variable {P:Program} {ro:Option Nat} {n:Nat}
theorem Ge{r:cH}:∀{l:List Nat} {r0:cH},Ny r l=some r0→∀t v,j5 r0 t=some v→t∈l∧j5 r t=some v
 | [],r0,h,t,v,hv=>by cases h;cases hv
 |s::l,r0,h,t,v,hv=>by
  have h:(match j5 r s,Ny r l with|some v,some l=>some ((s,v)::l)|_,_=>none)=some r0:=h
  split at h
  ·rename_i u l' hu hl
   cases h;by_cases e:s=t
   ·subst e;rw[iE]at hv;cases hv;exact⟨av ..,hu⟩
   ·rw[gO u _ e]at hv
    have:=Ge hl t v hv;exact⟨aN _ this.1,this.2⟩
  ·cases h
theorem AS{m:Nat}{t:Nat}{v:Value}:∀{r:cH},j5 (vL m r) t=some v→m.testBit t=false∧j5 r t=some v
 | [],h=>by cases h
 |(k,u)::r,h=>by
  have h:j5 (bif tb m k then vL m r else(k,u)::vL m r) t=some v:=h;cases hk:tb m k with
  |true=>
   rw[hk]at h;have:=AS h;by_cases e:k=t
   ·subst e;rw[BA,this.1]at hk;cases hk
   ·rw[gO u _ e];exact this
  |false=>
   rw[hk]at h;have h:j5 ((k,u)::vL m r) t=some v:=h;by_cases e:k=t
   ·subst e;rw[iE]at h⊢;rw[BA]at hk;exact⟨hk,h⟩
   ·rw[gO u _ e]at h⊢;exact AS h
theorem Ay{t:Nat}:∀{l:List Oper},(PC l).testBit t=false→¬lH t l=true
 | [],_,h=>by cases h
 |o::l,hm,h=>by
  have hm:(cW (na o) (PC l)).testBit t=false:=hm;rw[nI,ma]at hm;have h:(match o.dst with|some d=>bif bN d t then true else lH t l|none=>lH t l)=true:=h
  cases hd:o.dst with
  |none=>rw[hd]at h;exact Ay hm.2 h
  |some d=>
   rw[hd]at h;cases e:bN d t with
   |true=>have:=(wb o t).2 (by rw[hd,aX e]);rw[hm.1]at this;cases this
   |false=>simp only[e]at h;exact Ay hm.2 h
theorem Jq{a b:Option Nat}{m:Nat}(h:UK a b=some m):∃x y,a=some x∧b=some y∧m=cW x y:=by
 cases a<;>cases b<;>cases h
 exact⟨_,_,rfl,rfl,rfl⟩
theorem PB{t:Nat}(c:Code):∀{m:Nat},xe c=some m→m.testBit t=false→¬gq t c=true:=by
 induction c with
 |skip=>intro m _ _ h;cases h
 |region id ops dr=>intro m h hm hw;cases h;exact Ay hm hw
 |seq a b iha ihb=>
  intro m h hm hw;obtain⟨x,y,hx,hy,rfl⟩:=Jq (show UK (xe a) (xe b)=some m from h)
  rw[nI,ma]at hm;have hw:(bif gq t a then true else gq t b)=true:=hw;cases ha:gq t a with
  |true=>exact iha hx hm.1 ha
  |false=>rw[ha]at hw;exact ihb hy hm.2 hw
 |cond c a b iha ihb=>
  intro m h hm hw;obtain⟨x,y,hx,hy,rfl⟩:=Jq (show UK (xe a) (xe b)=some m from h)
  rw[nI,ma]at hm;have hw:(bif gq t a then true else gq t b)=true:=hw;cases ha:gq t a with
  |true=>exact iha hx hm.1 ha
  |false=>rw[ha]at hw;exact ihb hy hm.2 hw
 |block id b ih=>exact fun h hm=>ih h hm
 |loop b ih=>exact fun h hm=>ih h hm
 |rangeFunc _ _ _ _ _ _=>intro m h;cases h
 |scope b ih=>exact fun h hm=>ih h hm
 |_=>intro m _ _ h;cases h
theorem Agree.keep{N:Nat}{r r':cH}{a a':Act}{w w':World}{m:Nat}{c:Code}(h:Agree N r a)(hm:xe c=some m)(hf:Fr (fun t=>gq t c=true) a w a' w')(h':Agree N r' a'):Agree N (vL m r) a':=
 ⟨h'.size,fun t v hv=>by
  obtain⟨hb,hr⟩:=AS hv
  rw[hf.same t (PB c hm hb)];exact h.look t v hr⟩
theorem vB{st:St}{r:cH}{f:cL (xS st)→Prop}(h:BC st r f):∃t,Db r st=some (mX (xS st) t)∧f t:=by
 unfold BC at h;split at h
 ·rename_i vs hv
  obtain⟨t,rfl,hf⟩:=rm h;exact⟨t,hv,hf⟩
 ·exact h.elim
theorem Agree.zip{N:Nat}{r:cH}{a:Act}(h:Agree N r a):∀{st:St} {vs:List Value} {r0:cH},Db r st=some vs→Agree N r0 a→Agree N (m7 st vs r0) a
 | [],vs,r0,_,h0=>by cases vs<;>exact h0
 |(i,k)::st,vs,r0,hv,h0=>by
  unfold Db at hv;split at hv
  ·rename_i v vs' h1 h2
   cases hv;have:=Agree.zip h h2 h0;refine⟨this.size,fun t u hu=>?_⟩
   by_cases e:i=t
   ·subst e
    rw[show m7 ((i,k)::st) (v::vs') r0=(i,v)::m7 st vs' r0 from rfl,iE]at hu;cases hu
    exact h.look i v h1
   ·rw[show m7 ((i,k)::st) (v::vs') r0=(i,v)::m7 st vs' r0 from rfl,gO v _ e]at hu
    exact this.look t u hu
  ·cases hv
theorem yN{t:Nat}:∀{l:List Oper} {o:Oper},o∈l→o.dst=some t→lH t l=true
 | [],_,h,_=>by cases h
 |x::l,o,h,hd=>by
  have e:lH t (x::l)=(match x.dst with|some d=>bif bN d t then true else lH t l|none=>lH t l):=rfl
  rw[e];rcases aC.1 h with rfl|h
  ·rw[hd];simp only;rw[show bN t t=true from qV t];rfl
  ·have:=yN h hd
   cases x.dst with
   |none=>exact this
   |some d=>
    simp only;cases bN d t with
    |true=>rfl
    |false=>exact this
def LWP(ro:Option Nat)(n:Nat)(P:Program)(c:Code)(Q:Exit→Act→World→Prop)(a:Act)(w:World):Prop:=
 ∀(b:Frame) (k:List Item) (cs:List Frame),b.roundOf=(FW ro).round→(FW ro).fn b.fn→(FW ro).room (cs.length+1+n)→
  ∃e a' w',Q e a' w'∧ArrivesIn (Machine.fenced P (FW ro)) P (lone (b.atR a (.code c:: .inLoop c::k)) cs w) b k cs e a' w'
theorem LWP.step{c:Code}{Q:Exit→Act→World→Prop}{a:Act}{w:World}(h:c.wpIn (FW ro) n P (Exit.then (LWP ro n P c Q) Q) a w):LWP ro n P c Q a w:=by
 intro b k cs hro hb hr;obtain⟨e,a₁,w₁,hq,harr⟩:=h b (.inLoop c::k) cs hro hb hr;cases e with
 |normal=>
  obtain⟨e₂,a₂,w₂,hq₂,harr₂⟩:=hq b k cs hro hb hr;exact⟨e₂,a₂,w₂,hq₂,.of_steps (StepsIn.trans harr (.one (fenced_calm hb hr rfl) stepR_inLoop)) harr₂⟩
 |exit id=>exact⟨_,a₁,w₁,hq,.pass (x:=.inLoop c) rfl (fun _ _=>.inl (by simp)) harr⟩
 |goto l=>exact⟨_,a₁,w₁,hq,.pass (x:=.inLoop c) rfl (fun _ _=>.inl (by simp)) harr⟩
 |ret=>exact⟨_,a₁,w₁,hq,.pass (x:=.inLoop c) rfl (fun _ _=>.inl (by simp)) harr⟩
 |panic ch=>exact⟨_,a₁,w₁,hq,.pass (x:=.inLoop c) rfl (fun _ _=>.inl (by simp)) harr⟩
 |outgrown=>exact⟨_,a₁,w₁,hq,.pass (x:=.inLoop c) rfl (fun _ _=>.inl (by simp)) harr⟩
theorem LWP.loop{c:Code}{Q:Exit→Act→World→Prop}{a:Act}{w:World}(h:LWP ro n P c Q a w):(Code.loop c).wpIn (FW ro) n P Q a w:=by
 intro b k cs hro hb hr;obtain⟨e,a',w',hq,harr⟩:=h b k cs hro hb hr;exact⟨e,a',w',hq,.of_steps (.one (fenced_calm hb hr rfl) stepR_loop) harr⟩
theorem Gu(r:cH):DecOk [] r:=fun _=>.inl rfl
theorem Sv(ops:Array Oper)(ls:Nat):left ops ls≤ops.size:=by
 unfold left;exact Nat.le_trans (List.length_filter_le ..) (by simp)
theorem lM(hmix:P.follows .mixedOrders=true){N id:Nat}{ops:Array Oper}{dr:Bool}{an:Ann}{K:cH→ad→Prop}{r:cH}{a:Act}{w:World}{Q:Exit→Act→World→Prop}
  (hs:AF P N ops.toList dr an K r w.heap)(ha:Agree N r a)(hp:∀c a w,¬Q (.panic c) a w)
  (hn:∀r' a' w',Agree N r' a'→Fr (fun t=>lH t ops.toList=true) a w a' w'→K r' w'.heap→Q .normal a' w'):(Code.region id ops dr).wpIn (FW ro) n P Q a w:=by
 have hW:∀o∈ops.toList,∀d,o.dst=some d→lH d ops.toList=true:=fun o ho d hd=>yN ho hd
 cases dr with
 |false=>
  have key:∀ek,Dh P N ek ops.toList ops.toList [] K r w.heap→(Code.region id ops false).wpIn (FW ro) n P Q a w:=fun ek hs=>by
   refine wpIn_region ?_;rw[List.range_eq_range',show ops.size=ops.toList.length from rfl]
   exact Dg hW hn ops.toList 0 rfl [] r a w hs ha (Gu r) (Fr.refl _ a w)
  unfold AF at hs;simp only at hs;split at hs
  ·exact key _ hs
  ·exact key _ hs
 |true=>
  unfold AF at hs;simp only at hs;generalize Nq ops.toList=ms at hs;cases hm:CG ops.toList ms with
  |false=>rw[hm]at hs;exact hs.elim
  |true=>
   rw[hm,cond_true]at hs;refine wpIn_region_any hmix (M1 (ms:=ms) _ [] _ _ _ ?_);have ht:Tame w {w with drawn:=w.drawn+1}:=⟨rfl,rfl,rfl⟩;have hf:Fr (fun t=>lH t ops.toList=true) a w a {w with drawn:=w.drawn+1}:=⟨ht,rfl,fun _ _=>rfl⟩
   refine(IQ (LG hm) hW hn (fun e a w=>?_) _ false 0 [] [] r a {w with drawn:=w.drawn+1} _ ops.size hs ha (Gu r) hf LsRel.start (fun j x _ h=>by rw[(LsRel.start (ops:=ops)).bit,fX]at h;cases h) (fun x hx=>by cases hx)).1 rfl (Sv ops 0)
   cases e with
   |panic ch=>exact .inr (hp _ a w)
   |_=>exact .inl fun c hc=>by cases hc
theorem CQ(t:Nat)(x y:Code):gq t (.seq x y)=(bif gq t x then true else gq t y):=rfl
theorem Bx(t:Nat)(c:Operand)(x y:Code):gq t (.cond c x y)=(bif gq t x then true else gq t y):=rfl
theorem HO{a b:Bool}:(bif a then true else b)=true↔a=true∨b=true:=by cases a<;>cases b<;>decide
theorem rR(hmix:P.follows .mixedOrders=true){N:Nat}(c:Code):∀(an:Ann) (Kn:cH→ad→Prop) (Kx:Ex→cH→ad→Prop) (r:cH) (a:Act) (w:World) (Q:Exit→Act→World→Prop),
  lf P N c an Kn Kx r w.heap→Agree N r a→(∀ch a w,¬Q (.panic ch) a w)→
  (∀r' a' w',Agree N r' a'→Fr (fun t=>gq t c=true) a w a' w'→Kn r' w'.heap→Q .normal a' w')→
  (∀i r' a' w',Agree N r' a'→Fr (fun t=>gq t c=true) a w a' w'→Kx (.exit i) r' w'.heap→Q (.exit i) a' w')→
  (∀r' a' w',Agree N r' a'→Fr (fun t=>gq t c=true) a w a' w'→Kx .ret r' w'.heap→Q .ret a' w')→
  c.wpIn (FW ro) n P Q a w:=by
 induction c with
 |skip=>
  intro an Kn Kx r a w Q hs ha _ hn _ _;exact wpIn_skip (hn r a w ha (Fr.refl ..) hs)
 |region id ops dr=>
  intro an Kn Kx r a w Q hs ha hp hn _ _;cases an with
  |reg keep inner=>
   have hs:AF P N ops.toList dr inner (fun r' h'=>match Ny r' keep with|some r0=>Kn r0 h'|none=>False) r w.heap:=hs
   refine lM hmix hs ha hp fun r' a' w' ha' hf hk=>?_
   split at hk
   ·rename_i r0 hr0
    refine hn r0 a' w' ⟨ha'.size,fun t v hv=>ha'.look t v (Ge hr0 t v hv).2⟩ hf hk
   ·exact hk.elim
  |nil=>exact lM hmix (show AF P N ops.toList dr (.nil) Kn r w.heap from hs) ha hp hn
  |node x y=>exact lM hmix (show AF P N ops.toList dr (.node x y) Kn r w.heap from hs) ha hp hn
  |join st x y=>exact lM hmix (show AF P N ops.toList dr (.join st x y) Kn r w.heap from hs) ha hp hn
  |loop st y=>exact lM hmix (show AF P N ops.toList dr (.loop st y) Kn r w.heap from hs) ha hp hn
  |draw d=>exact lM hmix (show AF P N ops.toList dr (.draw d) Kn r w.heap from hs) ha hp hn
  |kinds k v=>exact lM hmix (show AF P N ops.toList dr (.kinds k v) Kn r w.heap from hs) ha hp hn
  |rf ks x y=>exact lM hmix (show AF P N ops.toList dr (.rf ks x y) Kn r w.heap from hs) ha hp hn
 |seq x y ihx ihy=>
  intro an Kn Kx r a w Q hs ha hp hn hx hr;have up1:∀{a' w'},Fr (fun t=>gq t x=true) a w a' w'→Fr (fun t=>gq t (.seq x y)=true) a w a' w':=fun h=>h.mono fun t ht=>by rw[CQ,HO];exact .inl ht
  have up2:∀{a' w' a'' w''},Fr (fun t=>gq t x=true) a w a' w'→Fr (fun t=>gq t y=true) a' w' a'' w''→Fr (fun t=>gq t (.seq x y)=true) a w a'' w'':=
   fun h k=>(up1 h).trans (k.mono fun t ht=>by rw[CQ,HO];exact .inr ht)
  have plain:∀aa ab,lf P N x aa (fun r' h'=>lf P N y ab Kn Kx r' h') Kx r w.heap→(Code.seq x y).wpIn (FW ro) n P Q a w:=fun aa ab hs=>by
   refine wpIn_seq (ihx aa _ Kx r a w _ hs ha (fun ch a w=>hp ch a w) ?_ (fun i r' a' w' h1 h2 h3=>hx i r' a' w' h1 (up1 h2) h3) (fun r' a' w' h1 h2 h3=>hr r' a' w' h1 (up1 h2) h3))
   intro r1 a1 w1 ha1 hf1 hs1;exact ihy ab Kn Kx r1 a1 w1 Q hs1 ha1 hp (fun r' a' w' h1 h2 h3=>hn r' a' w' h1 (up2 hf1 h2) h3) (fun i r' a' w' h1 h2 h3=>hx i r' a' w' h1 (up2 hf1 h2) h3) (fun r' a' w' h1 h2 h3=>hr r' a' w' h1 (up2 hf1 h2) h3)
  cases an with
  |join st aa ab=>
   have hs:(match xe x with
      |none=>False
      |some m=>Join (T:=cL (xS st)) (fun t h'=>lf P N y ab Kn Kx (m7 st (mX (xS st) t) (vL m r)) h')
       fun J=>lf P N x aa (fun r' h'=>BC st r' fun t=>J t h') Kx r w.heap):=hs
   split at hs
   ·exact hs.elim
   ·rename_i m hm
    refine wpIn_seq (ihx aa _ Kx r a w _ hs.run ha (fun ch a w=>hp ch a w) ?_ (fun i r' a' w' h1 h2 h3=>hx i r' a' w' h1 (up1 h2) h3) (fun r' a' w' h1 h2 h3=>hr r' a' w' h1 (up1 h2) h3))
    intro r1 a1 w1 ha1 hf1 hs1;obtain⟨t,hst,hs2⟩:=vB hs1;have ha2:Agree N (m7 st (mX (xS st) t) (vL m r)) a1:=ha1.zip hst (ha.keep hm hf1 ha1);exact ihy ab Kn Kx _ a1 w1 Q hs2 ha2 hp (fun r' a' w' h1 h2 h3=>hn r' a' w' h1 (up2 hf1 h2) h3) (fun i r' a' w' h1 h2 h3=>hx i r' a' w' h1 (up2 hf1 h2) h3) (fun r' a' w' h1 h2 h3=>hr r' a' w' h1 (up2 hf1 h2) h3)
  |_=>exact plain _ _ hs
 |cond c x y ihx ihy=>
  intro an Kn Kx r a w Q hs ha hp hn hx hr;have hs:(match dM r c with
   |some (.bool t)=>CondP t (lf P N x an.l Kn Kx r w.heap) (lf P N y an.r Kn Kx r w.heap)
   |_=>False):=hs
  have up1:∀{a' w'},Fr (fun t=>gq t x=true) a w a' w'→Fr (fun t=>gq t (.cond c x y)=true) a w a' w':=fun h=>h.mono fun t ht=>by rw[Bx,HO];exact .inl ht
  have up2:∀{a' w'},Fr (fun t=>gq t y=true) a w a' w'→Fr (fun t=>gq t (.cond c x y)=true) a w a' w':=fun h=>h.mono fun t ht=>by rw[Bx,HO];exact .inr ht
  split at hs
  ·rename_i t ht
   refine wpIn_cond_split (lO ha ht) (fun e=>?_) (fun e=>?_)
   ·exact ihx _ Kn Kx r a w Q (hs.yes e) ha hp (fun r' a' w' h1 h2 h3=>hn r' a' w' h1 (up1 h2) h3) (fun i r' a' w' h1 h2 h3=>hx i r' a' w' h1 (up1 h2) h3) (fun r' a' w' h1 h2 h3=>hr r' a' w' h1 (up1 h2) h3)
   ·exact ihy _ Kn Kx r a w Q (hs.no e) ha hp (fun r' a' w' h1 h2 h3=>hn r' a' w' h1 (up2 h2) h3) (fun i r' a' w' h1 h2 h3=>hx i r' a' w' h1 (up2 h2) h3) (fun r' a' w' h1 h2 h3=>hr r' a' w' h1 (up2 h2) h3)
  ·exact hs.elim
 |block id b ih=>
  intro an Kn Kx r a w Q hs ha hp hn hx hr;refine wpIn_block (ih an Kn _ r a w _ hs ha (fun ch a w=>hp ch a w) hn (fun i r' a' w' h1 h2 h3=>?_) hr)
  simp only[Exit.inBlock]at h3⊢;cases hi:bN i id with
  |true=>
   rw[hi,cond_true]at h3;rw[if_pos (aX hi)];exact hn r' a' w' h1 h2 h3
  |false=>
   rw[hi,cond_false]at h3;rw[if_neg (fun e=>by rw[e,qV]at hi;cases hi)]
   exact hx i r' a' w' h1 h2 h3
 |loop b ih=>
  intro an Kn Kx r a w Q hs ha hp hn hx hr;cases an with
  |loop st ab=>
   have hs:(match xe b with
      |none=>False
      |some m=>BC st r fun t0=>LoopP (T:=cL (xS st)) (fun self t h'=>lf P N b ab (fun r' h''=>BC st r' fun t'=>self t' h'') Kx (m7 st (mX (xS st) t) (vL m r)) h') t0 w.heap):=hs
   split at hs
   ·exact hs.elim
   ·rename_i m hm
    obtain⟨t0,hst0,hl⟩:=vB hs;have h0:=hl.run (fun t h'=>∀a' w',w'.heap=h'→Agree N (m7 st (mX (xS st) t) (vL m r)) a'→Fr (fun t=>gq t b=true) a w a' w'→LWP ro n P b Q a' w') (fun t h' hF a' w' hw ha' hf=>by
     subst hw
     refine LWP.step (ih ab _ Kx _ a' w' _ hF ha' (fun ch a w=>hp ch a w) ?_ (fun i r' a'' w'' h1 h2 h3=>hx i r' a'' w'' h1 (hf.trans h2) h3) (fun r' a'' w'' h1 h2 h3=>hr r' a'' w'' h1 (hf.trans h2) h3))
     intro r1 a1 w1 ha1 hf1 hs1
     obtain⟨t1,hst1,hk1⟩:=vB hs1
     exact hk1 a1 w1 rfl (ha1.zip hst1 (ha.keep hm (hf.trans hf1) ha1)) (hf.trans hf1))
    exact LWP.loop (h0 a w rfl (ha.zip hst0 (ha.keep hm (Fr.refl _ a w) ha)) (Fr.refl _ a w))
  |_=>exact hs.elim
 |rangeFunc f params assign body _ _=>intro an Kn Kx r a w Q hs;exact hs.elim
 |exit id=>
  intro an Kn Kx r a w Q hs ha hp hn hx hr;exact wpIn_exit (hx id r a w ha (Fr.refl ..) hs)
 |scope b _=>intro an Kn Kx r a w Q hs;exact hs.elim
 |label l=>
  intro an Kn Kx r a w Q hs ha hp hn hx hr;exact wpIn_label (hn r a w ha (Fr.refl ..) hs)
 |goto l=>intro an Kn Kx r a w Q hs;exact hs.elim
 |ret=>
  intro an Kn Kx r a w Q hs ha hp hn hx hr;exact wpIn_ret (hr r a w ha (Fr.refl ..) hs)
 |refuse why=>intro an Kn Kx r a w Q hs;exact hs.elim
end Go.Lift
namespace Go.Lift
open Go
variable {P:Program}
theorem pM{N:Nat}{r:cH}{a:Act}{w:World}(ha:Agree N r a):∀{l:List ResultVar} {K:List Value→Prop},m8 P r w.heap l K→
  ∃vs,(∀g:ResultVar→Sem Value,(∀t,g (.tmp t)=pure (a.tmps.getD t undef))→(∀x t,g (.cell x t)=do loadVar t (←asAddr (a.tmps.getD x undef)))→(l.mapM g).run P w=.ok vs w)∧K vs
 | [],K,h=>⟨[],fun g _ _=>by rw[List.mapM_nil];rfl,h⟩
 | .tmp t::l,K,h=>by
  unfold m8 at h;split at h
  ·rename_i v hv
   obtain⟨vs,hr,hk⟩:=pM ha h;refine⟨v::vs,fun g g1 g2=>?_,hk⟩
   rw[List.mapM_cons,g1];simp only[Sem.run_bind,Sem.run_pure,Result.andThen_ok];rw[hr g g1 g2];simp only[Result.andThen_ok,ha.look t v hv]
  ·exact h.elim
 | .cell x t::l,K,h=>by
  unfold m8 at h;split at h
  ·rename_i v hv
   obtain⟨u,S,hK,hS,hl⟩:=BG h;obtain⟨vs,hr,hk⟩:=pM ha hK;refine⟨u::vs,fun g g1 g2=>?_,hk⟩
   rw[List.mapM_cons,g2];have h1:(do loadVar t (←asAddr (a.tmps.getD x undef)):Sem Value).run P w=.ok u w:=by
    rw[ha.look x v hv];unfold I6 at h;cases v with
    |pointer p=>cases p with
     |none=>exact h.elim
     |some b=>exact hl w hS
    |_=>exact h.elim
   simp only[Sem.run_bind]at h1⊢;rw[h1];simp only[Result.andThen_ok];rw[hr g g1 g2];simp only[Sem.run_pure,Result.andThen_ok]
  ·exact h.elim
theorem FR(ks:List Kind)(t:cL ks):(if h:(mX ks t).toArray.size=1 then(mX ks t).toArray[0]else Value.tuple (mX ks t).toArray)=Dt ks (mX ks t):=by
 match ks,t with
 | [],t=>rfl
 | [k],t=>rfl
 |k::l::ks,(x,t)=>
  have:(mX (k::l::ks) (x,t)).length=(k::l::ks).length:=r9 _ _;rw[dif_neg (by simp only[dD,this,az];omega)];rfl
theorem uQ:∀(vs:List Value) (i t:Nat) (v:Value),j5 (pT i vs) t=some v→i≤t∧vs[t-i]? =some v
 | [],i,t,v,h=>by cases h
 |u::vs,i,t,v,h=>by
  by_cases e:i=t
  ·subst e
   rw[show pT i (u::vs)=(i,u)::pT (i+1) vs from rfl,iE]at h
   cases h;exact⟨Nat.le_refl _,by simp⟩
  ·rw[show pT i (u::vs)=(i,u)::pT (i+1) vs from rfl,gO u _ e]at h
   obtain⟨h1,h2⟩:=uQ vs (i+1) t v h;refine⟨by omega,?_⟩;rw[show t-i=(t-(i+1))+1 by omega,List.getElem?_cons_succ]
   exact h2
theorem HE.intro(hmix:P.follows .mixedOrders=true){f:FuncId}{fn:Func}{c:Code}{an:Ann}{args:List Value}{ks:List Kind}{K:cL ks→ad→Prop}{h:ad}
  (hf:P.funcs[f]? =some fn) (hb:fn.body=some c) (hcall:∀(args:Array Value) (w:World),(callFunc f args).run P w=.ok (.enter f args) w) (hlen:args.length≤fn.ntmps)
  (hs:Nf P fn c an args ks K h):HE P f args ks K h:=by
 refine⟨fun w hw=>⟨hcall,?_⟩⟩
 subst hw;refine(callsIn_wide (n:=0)).1 (callsIn_of_wp (F:=FW none) hf hb trivial ?_ rfl);have ha:Agree fn.ntmps (pT 0 args) {tmps:=args.toArray++qz (fn.ntmps-args.toArray.size) undef,defers:= []}:=by
  refine⟨by simp;omega,fun t v hv=>?_⟩
  obtain⟨_,h2⟩:=uQ args 0 t v hv;simp only[eT]at h2;have hlt:=(bB.1 h2).1;simp[Array.getElem?_append,hlt];rw[af hlt]at h2;cases h2;rfl
 have fin:∀r' a' (w':World),Agree fn.ntmps r' a'→Fr (fun t=>gq t c=true) {tmps:=args.toArray++qz (fn.ntmps-args.toArray.size) undef,defers:= []} w a' w'→
   m8 P r' w'.heap fn.results.toList (fun vs=>Cm ks vs fun t=>K t w'.heap)→
   a'.defers= []∧∃v,(results fn a'.tmps).run P w'=.ok v w'∧(Tame w w'∧∃t:cL ks,Ending.returned v=.returned (Dt ks (mX ks t))∧K t w'.heap):=fun r' a' w' ha' hf' hr=>by
  obtain⟨vs,hrun,hd⟩:=pM ha' hr;obtain⟨t,rfl,hK⟩:=rm hd;refine⟨hf'.defers,_,?_,hf'.tame,t,rfl,hK⟩;unfold results;rw[mF];simp only[Sem.run_bind,Sem.run_map];rw[hrun _ (fun _=>rfl) (fun _ _=>rfl)]
  simp only[Result.andThen_ok,Sem.run_pure];rw[←FR]
 exact rR hmix c an _ _ _ _ w _ hs ha (fun ch a w h=>h.2.2.elim fun _ h=>by cases h.1) fin (fun _ _ _ _ _ _ h=>h.elim) fin
theorem HC.intro(hmix:P.follows .mixedOrders=true){f:FuncId}{fn:Func}{c:Code}{an:Ann}{args:List Value}{ks:List Kind}{K:cL ks→ad→Prop}{h:ad}
 (hf:P.funcs[f]? =some fn) (hb:fn.body=some c) (hcall:∀(args:Array Value) (w:World),(callFunc f args).run P w=.ok (.enter f args) w) (hlen:args.length≤fn.ntmps)
 (hs:Nf P fn c an args ks K h):HC P f args ks K h:=(HE.intro hmix hf hb hcall hlen hs).hc
theorem Ml{N:Nat}{args:List Value}(hlen:args.length≤N):Agree N (pT 0 args) {tmps:=args.toArray++qz (N-args.toArray.size) undef,defers:= []}:=by
 refine⟨by simp;omega,fun t v hv=>?_⟩
 obtain⟨_,h2⟩:=uQ args 0 t v hv;simp only[eT]at h2;have hlt:=(bB.1 h2).1;simp[Array.getElem?_append,hlt];rw[af hlt]at h2;cases h2;rfl
theorem IV{N:Nat}{fn:Func}{ks:List Kind}{K:cL ks→ad→Prop}{r':cH}{a':Act}{w':World}(ha':Agree N r' a')(hr:m8 P r' w'.heap fn.results.toList (fun vs=>Cm ks vs fun t=>K t w'.heap)):
  ∃t:cL ks,(results fn a'.tmps).run P w'=.ok (Dt ks (mX ks t)) w'∧K t w'.heap:=by
 obtain⟨vs,hrun,hd⟩:=pM ha' hr;obtain⟨t,rfl,hK⟩:=rm hd;refine⟨t,?_,hK⟩;unfold results;rw[mF];simp only[Sem.run_bind,Sem.run_map];rw[hrun _ (fun _=>rfl) (fun _ _=>rfl)]
 simp only[Result.andThen_ok,Sem.run_pure];rw[←FR]
end Go.Lift
namespace Go.Lift
open Go
variable {P:Program}
abbrev mG(D:Nat):Deferred:={target:=.collected D,args:= #[]}
theorem Ef{N:Nat}:∀{ps:List Nat} {vs:List Value} {r:cH} {tmps:Array Value},x7 N ps=true→Agree N r {tmps:=tmps,defers:= []}→
  Agree N (RF ps vs r) {tmps:=(ps.zip vs).foldl (fun t x=>t.setIfInBounds x.1 x.2) tmps,defers:= []}
 | [],vs,r,tmps,_,h=>by cases vs<;>exact h
 |i::ps,[],r,tmps,_,h=>h
 |i::ps,v::vs,r,tmps,hl,h=>by
  have hl:(Nat.blt i N&&x7 N ps)=true:=hl;rw[bm]at hl;have hlt:i<N:=by simpa using hl.1
  have:=h.put i v hlt;exact Ef (tmps:=tmps.setIfInBounds i v) hl.2 this
theorem C6(w:World)(o:Obj):Tame w (w.alloc o):=⟨rfl,rfl,rfl⟩
theorem nS(w:World)(b:Nat)(o:Obj):Tame w (w.putObj b o):=⟨rfl,rfl,rfl⟩
theorem Jf(w:World)(b:Nat)(o:Obj):(w.putObj b o).heap=w.heap.setIfInBounds b o:=rfl
theorem NX(ps:Array Nat)(vs:List Value)(t:Array Value):(ps.zip vs.toArray).foldl (fun t (x:Nat×Value)=>t.setIfInBounds x.1 x.2) t=(ps.toList.zip vs).foldl (fun t x=>t.setIfInBounds x.1 x.2) t:=by
 obtain⟨l⟩:=ps;simp
theorem Cj(hmix:P.follows .mixedOrders=true){n N:Nat}{g:Operand}{ps:Array Tmp}{assign body:Code}{aa ab:Ann}{ks:List Kind}{fv:Value}{r:cH}{a:Act}{w:World}{Q:Exit→Act→World→Prop}
  {KN:ad→Prop}{KX:Nat→ad→Prop}{KR:ad→Prop}(hps:x7 N ps.toList=true)(hlen:ps.toList.length=ks.length)(hg:dM r g=some fv)(ha:Agree N r a)
  (hR:RangeP P fv ks w.heap (fun FU bz x k h'=>K9 P N ps.toList ks assign body (.node aa ab) r (w.heap.size+1) FU bz x k h') KN KX KR)
  (hn:∀w',Tame w w'→KN w'.heap→Q .normal {a with defers:=mG w.heap.size::a.defers} w')
  (hx:∀i w',Tame w w'→KX i w'.heap→Q (.exit i) {a with defers:=mG w.heap.size::a.defers} w')
  (hr:∀w',Tame w w'→KR w'.heap→Q .ret {a with defers:=mG w.heap.size::a.defers} w'):(Code.rangeFunc g ps assign body).wpIn (FW none) n P Q a w:=by
 refine wpIn_rangeFunc fun fn _=>?_
 obtain⟨lo,hlo⟩:∃lo:LoopState→Option Ex→Obj,lo=fun s j=>.loop {state:=s,pending:=Hz j,fn,tmps:=a.tmps,params:=ps,assign,body,defers:=w.heap.size}:=⟨_,rfl⟩
 have hj:∀j:Option Ex,(Hz j).isNone=j.isNone:=fun j=>by rcases j with _|⟨_|_⟩<;>rfl
 obtain⟨f,first,cap,rfl,he⟩:=hR.run lo (fun s j=>⟨_,by rw[hlo]⟩) (fun x h' K hrec hround=>by
  refine⟨.inr ⟨_,rfl,⟨fun w1 hw1=>?_⟩⟩⟩
  subst hw1
  rw[hlo]at hrec
  have hy:=run_yield (P:=P) (args:=(mX ks x).toArray) hrec (by simp only[dD,r9];rw[←hlen];rfl)
  refine⟨_,_,_,_,hy,fun c cs=>?_⟩
  have hA:Agree N (RF ps.toList (mX ks x) r) {tmps:=(ps.zip (mX ks x).toArray).foldl (fun t (x:Nat×Value)=>t.setIfInBounds x.1 x.2) a.tmps,defers:= []}:=by
   rw[NX]
   exact Ef hps ⟨ha.size,ha.look⟩
  have hfin:∀j:Option Ex,∀W:World,Tame w1 W→(W.heap[w.heap.size+1]? =some (lo .busy none)∧K j.isNone (W.heap.setIfInBounds (w.heap.size+1) (lo (if j.isNone then .ready else .done) j)))→
    ∃v w',(Instr.endRound (w.heap.size+1) (Hz j)).run P W=.ok v w'∧∃b,Ending.returned v=.returned (.bool b)∧Tame w1 w'∧K b w'.heap:=by
   rintro j W ht ⟨h1,h2⟩
   rw[hlo]at h1
   have:=run_endRound (P:=P) (Hz j) h1
   refine⟨_,_,this,_,rfl,ht.trans (nS ..),?_⟩
   rw[hlo]at h2
   rw[hj]
   exact h2
  have:=roundIn_of_wpIn (F:=FW none) (n:=0) (P:=P) (l:=w.heap.size+1) (f:=fn) (assign:=assign) (body:=body) (w:=w1)
   (tmps:=(ps.zip (mX ks x).toArray).foldl (fun t (x:Nat×Value)=>t.setIfInBounds x.1 x.2) a.tmps)
   (R:=fun e w'=>∃b,e=.returned (.bool b)∧Tame w1 w'∧K b w'.heap) trivial (by
    refine rR (ro:=some (w.heap.size+1)) hmix assign aa _ _ _ _ w1 _ hround hA (fun ch a w h=>h) ?_ (fun i r' a' w' _ _ h=>h.elim) (fun r' a' w' _ _ h=>h.elim)
    rintro r2 a2 w2 ha2 hf2 ⟨hrec2,hbody⟩
    rw[hlo]at hrec2
    refine⟨_,run_beginRound hrec2 rfl,?_⟩
    have hb:∀o,o=lo .busy none→w2.heap.setIfInBounds (w.heap.size+1) o=w2.heap.setIfInBounds (w.heap.size+1) (lo .busy none):=fun o ho=>by rw[ho]
    refine rR (ro:=some (w.heap.size+1)) hmix body ab (fun _ h2=>_) (fun e _ h2=>_) _ _ (w2.putObj (w.heap.size+1) _) _ (by
     rw[Jf,hb _ (by rw[hlo])];exact hbody) ha2 (fun ch a w h=>h) ?_ ?_ ?_
    ·rintro r3 a3 w3 ha3 hf3 hk
     exact hfin none w3 ((hf2.tame.trans (nS ..)).trans hf3.tame) hk
    ·rintro i r3 a3 w3 ha3 hf3 hk
     exact hfin (some (.exit i)) w3 ((hf2.tame.trans (nS ..)).trans hf3.tame) hk
    ·rintro r3 a3 w3 ha3 hf3 hk
     exact hfin (some .ret) w3 ((hf2.tame.trans (nS ..)).trans hf3.tame) hk)
  obtain⟨e,w',⟨b,rfl,ht,hK⟩,hs⟩:=this.2 c cs (fun d h=>by simp[FW]at h)
  exact⟨b,w',ht,hK,hs.steps⟩)
 have hrun:=he.run ((w.alloc (.deferred (some []))).alloc (lo .ready none)) rfl;refine⟨w.heap.size+1,[mG w.heap.size],(w.alloc (.deferred (some []))).alloc (lo .ready none),{target:=.fn (.func f) cap,args:=first++ #[.func (.yield (w.heap.size+1)) #[] #[]]},(w.alloc (.deferred (some []))).alloc (lo .ready none),f,
  first++ #[.func (.yield (w.heap.size+1)) #[] #[]]++cap,(w.alloc (.deferred (some []))).alloc (lo .ready none),?_,?_,fun _ _=>trivial,?_,fun h=>by simp[FW]at h,?_⟩
 ·rw[hlo];exact run_enterLoop_outer fn a.tmps ps assign body
 ·have hev:=lO ha hg
  simp[resolve,hev,Deferred.ofValue,Sem.run_pure];rfl
 ·simp[invoke,hrun.1]
 ·refine D6 ?_
  have e:(first.toList++ [Value.func (.yield (w.heap.size+1)) #[] #[]]++cap.toList).toArray=first++ #[.func (.yield (w.heap.size+1)) #[] #[]]++cap:=by apply Array.ext';simp
  rw[←e];refine hrun.2.mono ?_;rintro e w' ⟨ht,t,rfl,s,j,hs,hrec,hfin⟩;have ht':Tame w w':=((C6 w _).trans (C6 _ _)).trans ht;rw[hlo]at hrec;refine⟨_,_,run_endLoop hrec hs,?_⟩;have ht2:∀o,Tame w (w'.putObj (w.heap.size+1) o):=fun o=>ht'.trans (nS ..)
  have hb:∀o,o=lo .exhausted j→(w'.putObj (w.heap.size+1) o).heap=w'.heap.setIfInBounds (w.heap.size+1) (lo .exhausted j):=fun o ho=>by rw[ho];rfl
  rcases j with _|⟨i|_⟩
  ·exact hn _ (ht2 _) (by rw[hb _ (by rw[hlo])];exact hfin)
  ·exact wpIn_exit (hx i _ (ht2 _) (by rw[hb _ (by rw[hlo])];exact hfin))
  ·exact wpIn_ret (hr _ (ht2 _) (by rw[hb _ (by rw[hlo])];exact hfin))
theorem G7(hmix:P.follows .mixedOrders=true){n N:Nat}(c:Code):∀(an:Ann) (Kn:List Nat→cH→ad→Prop) (Kx:Ex→List Nat→cH→ad→Prop) (ms:List Nat) (r:cH) (a:Act) (w:World) (Q:Exit→Act→World→Prop),
  xX P N c an Kn Kx ms r w.heap→Agree N r a→a.defers=ms.map mG→(∀ch a w,¬Q (.panic ch) a w)→
  (∀ms' r' a' w',Agree N r' a'→a'.defers=ms'.map mG→Tame w w'→Kn ms' r' w'.heap→Q .normal a' w')→
  (∀i ms' r' a' w',Agree N r' a'→a'.defers=ms'.map mG→Tame w w'→Kx (.exit i) ms' r' w'.heap→Q (.exit i) a' w')→
  (∀ms' r' a' w',Agree N r' a'→a'.defers=ms'.map mG→Tame w w'→Kx .ret ms' r' w'.heap→Q .ret a' w')→
  c.wpIn (FW none) n P Q a w:=by
 have plain:∀(c:Code) (an:Ann) (Kn:List Nat→cH→ad→Prop) (Kx:Ex→List Nat→cH→ad→Prop) (ms:List Nat) (r:cH) (a:Act) (w:World) (Q:Exit→Act→World→Prop),
  lf P N c an (Kn ms) (fun e=>Kx e ms) r w.heap→Agree N r a→a.defers=ms.map mG→(∀ch a w,¬Q (.panic ch) a w)→
  (∀ms' r' a' w',Agree N r' a'→a'.defers=ms'.map mG→Tame w w'→Kn ms' r' w'.heap→Q .normal a' w')→
  (∀i ms' r' a' w',Agree N r' a'→a'.defers=ms'.map mG→Tame w w'→Kx (.exit i) ms' r' w'.heap→Q (.exit i) a' w')→
  (∀ms' r' a' w',Agree N r' a'→a'.defers=ms'.map mG→Tame w w'→Kx .ret ms' r' w'.heap→Q .ret a' w')→
  c.wpIn (FW none) n P Q a w:=by
  intro c an Kn Kx ms r a w Q hs ha hd hp hn hx hr;exact rR hmix c an _ _ r a w Q hs ha hp (fun r' a' w' h1 h2 h3=>hn ms r' a' w' h1 (h2.defers.trans hd) h2.tame h3) (fun i r' a' w' h1 h2 h3=>hx i ms r' a' w' h1 (h2.defers.trans hd) h2.tame h3)
   (fun r' a' w' h1 h2 h3=>hr ms r' a' w' h1 (h2.defers.trans hd) h2.tame h3)
 induction c with
 |skip=>intro an Kn Kx ms r a w Q hs;exact plain _ an Kn Kx ms r a w Q hs
 |region id ops dr=>intro an Kn Kx ms r a w Q hs;exact plain _ an Kn Kx ms r a w Q hs
 |seq x y ihx ihy=>
  intro an Kn Kx ms r a w Q hs ha hd hp hn hx hr;have hs:(bif (bif rh x then true else rh y)then xX P N x an.l (fun ms r' h'=>xX P N y an.r Kn Kx ms r' h') Kx ms r w.heap
   else lf P N (.seq x y) an (Kn ms) (fun e=>Kx e ms) r w.heap):=hs
  cases hb:(bif rh x then true else rh y)with
  |false=>rw[hb]at hs;exact plain _ _ _ _ _ _ _ _ _ hs ha hd hp hn hx hr
  |true=>
   rw[hb,cond_true]at hs;refine wpIn_seq (ihx an.l _ Kx ms r a w _ hs ha hd (fun ch a w=>hp ch a w) ?_ hx hr)
   intro ms1 r1 a1 w1 ha1 hd1 ht1 hs1;exact ihy an.r Kn Kx ms1 r1 a1 w1 Q hs1 ha1 hd1 hp (fun ms' r' a' w' h1 h2 h3 h4=>hn ms' r' a' w' h1 h2 (ht1.trans h3) h4) (fun i ms' r' a' w' h1 h2 h3 h4=>hx i ms' r' a' w' h1 h2 (ht1.trans h3) h4)
    (fun ms' r' a' w' h1 h2 h3 h4=>hr ms' r' a' w' h1 h2 (ht1.trans h3) h4)
 |cond c x y ihx ihy=>
  intro an Kn Kx ms r a w Q hs ha hd hp hn hx hr;have hs:(bif (bif rh x then true else rh y)then
    (match dM r c with
     |some (.bool t)=>CondP t (xX P N x an.l Kn Kx ms r w.heap) (xX P N y an.r Kn Kx ms r w.heap)
     |_=>False)
   else lf P N (.cond c x y) an (Kn ms) (fun e=>Kx e ms) r w.heap):=hs
  cases hb:(bif rh x then true else rh y)with
  |false=>rw[hb]at hs;exact plain _ _ _ _ _ _ _ _ _ hs ha hd hp hn hx hr
  |true=>
   rw[hb,cond_true]at hs;split at hs
   ·rename_i t ht
    exact wpIn_cond_split (lO ha ht) (fun e=>ihx _ Kn Kx ms r a w Q (hs.yes e) ha hd hp hn hx hr) (fun e=>ihy _ Kn Kx ms r a w Q (hs.no e) ha hd hp hn hx hr)
   ·exact hs.elim
 |block id b ih=>
  intro an Kn Kx ms r a w Q hs ha hd hp hn hx hr;have hs:(bif rh b then xX P N b an Kn (fun e ms r' h'=>match e with
    | .exit i=>bif bN i id then Kn ms r' h' else Kx (.exit i) ms r' h'
    | .ret=>Kx .ret ms r' h') ms r w.heap
   else lf P N (.block id b) an (Kn ms) (fun e=>Kx e ms) r w.heap):=hs
  cases hb:rh b with
  |false=>rw[hb]at hs;exact plain _ _ _ _ _ _ _ _ _ hs ha hd hp hn hx hr
  |true=>
   rw[hb,cond_true]at hs;refine wpIn_block (ih an Kn _ ms r a w _ hs ha hd (fun ch a w=>hp ch a w) hn (fun i ms' r' a' w' h1 h2 h3 h4=>?_) hr)
   simp only[Exit.inBlock]at h4⊢;cases hi:bN i id with
   |true=>
    rw[hi,cond_true]at h4;rw[if_pos (aX hi)];exact hn ms' r' a' w' h1 h2 h3 h4
   |false=>
    rw[hi,cond_false]at h4;rw[if_neg (fun e=>by rw[e,qV]at hi;cases hi)]
    exact hx i ms' r' a' w' h1 h2 h3 h4
 |loop b ih=>intro an Kn Kx ms r a w Q hs;exact plain _ an Kn Kx ms r a w Q hs
 |rangeFunc g ps assign body _ _=>
  intro an Kn Kx ms r a w Q hs ha hd hp hn hx hr;cases an with
  |rf ks aa ab=>
   have hs:(bif x7 N ps.toList&&bN ps.toList.length ks.length then
    (match dM r g with
     |some fv=>RangeP P fv ks w.heap (fun FU bz x k h'=>K9 P N ps.toList ks assign body (.node aa ab) r (w.heap.size+1) FU bz x k h')
       (fun h'=>Kn (w.heap.size::ms) r h') (fun i h'=>Kx (.exit i) (w.heap.size::ms) r h') (fun h'=>Kx .ret (w.heap.size::ms) r h')
     |none=>False)else False):=hs
   cases hb:(x7 N ps.toList&&bN ps.toList.length ks.length)with
   |false=>rw[hb]at hs;exact hs.elim
   |true=>
    rw[hb,cond_true]at hs;rw[bm]at hb;split at hs
    · rename_i fv hfv
      have hA:Agree N r {a with defers:=mG w.heap.size::a.defers}:=⟨ha.size,ha.look⟩;have hD:({a with defers:=mG w.heap.size::a.defers}:Act).defers=(w.heap.size::ms).map mG:=by rw[List.map_cons,←hd]
      exact Cj hmix hb.1 (aX hb.2) hfv ha hs (fun w' ht hk=>hn _ r _ w' hA hD ht hk) (fun i w' ht hk=>hx i _ r _ w' hA hD ht hk) (fun w' ht hk=>hr _ r _ w' hA hD ht hk)
    · exact hs.elim
  |_=>exact hs.elim
 |exit id=>intro an Kn Kx ms r a w Q hs;exact plain _ an Kn Kx ms r a w Q hs
 |scope b _=>intro an Kn Kx ms r a w Q hs;exact hs.elim
 |label l=>intro an Kn Kx ms r a w Q hs;exact plain _ an Kn Kx ms r a w Q hs
 |goto l=>intro an Kn Kx ms r a w Q hs;exact hs.elim
 |ret=>intro an Kn Kx ms r a w Q hs;exact plain _ an Kn Kx ms r a w Q hs
 |refuse why=>intro an Kn Kx ms r a w Q hs;exact hs.elim
theorem xU{fn:Func}{ks:List Kind}{K:cL ks→ad→Prop}{N:Nat}{n:Nat}{r:cH}{a:Act}{w0:World}(ha:Agree N r a):∀(ms:List Nat) (w:World),Tame w0 w→
  Nc ms (fun h'=>m8 P r h' fn.results.toList fun vs=>Cm ks vs fun t=>K t h') w.heap→
  LeavesInM (FW none) n P fn a.tmps (fun e w'=>Tame w0 w'∧∃t:cL ks,e=.returned (Dt ks (mX ks t))∧K t w'.heap) (ms.map mG) .returning w
 | [],w,ht,h=>by
  obtain⟨t,hrun,hK⟩:=IV ha h;exact⟨_,hrun,ht,t,rfl,hK⟩
 |D::ms,w,ht,h=>by
  refine⟨by simp,.inl ⟨D,_,rfl,run_takeDeferred h.1,?_⟩⟩;exact xU ha ms (w.putObj D (.deferred none)) (ht.trans (nS ..)) h.2
theorem HE.introM(hmix:P.follows .mixedOrders=true){f:FuncId}{fn:Func}{c:Code}{an:Ann}{args:List Value}{ks:List Kind}{K:cL ks→ad→Prop}{h:ad}
  (hf:P.funcs[f]? =some fn) (hb:fn.body=some c) (hcall:∀(args:Array Value) (w:World),(callFunc f args).run P w=.ok (.enter f args) w) (hlen:args.length≤fn.ntmps)
  (hs:La P fn c an args ks K h):HE P f args ks K h:=by
 refine⟨fun w hw=>⟨hcall,?_⟩⟩
 subst hw;refine(callsIn_wide (n:=0)).1 (callsIn_of_wp_marks (F:=FW none) hf hb trivial ?_ rfl);refine wpIn_mono (Q:=fun e a w'=>(∀ch,e≠ .panic ch)∧bodyPostM (FW none) 0 P fn (fun e w'=>Tame w w'∧∃t:cL ks,e=.returned (Dt ks (mX ks t))∧K t w'.heap) e a w') ?_ fun e a w h=>h.2
 refine G7 hmix c an _ _ [] _ _ w _ hs (Ml hlen) rfl (fun ch a w h=>h.1 ch rfl) ?_ (fun _ _ _ _ _ _ _ _ h=>h.elim) ?_
 ·intro ms' r' a' w' ha' hd' ht' hk
  refine⟨(fun _ e=>by cases e),?_⟩
  show LeavesInM _ _ _ _ _ _ a'.defers _ _
  rw[hd'];exact xU ha' ms' w' ht' hk
 ·intro ms' r' a' w' ha' hd' ht' hk
  refine⟨(fun _ e=>by cases e),?_⟩
  show LeavesInM _ _ _ _ _ _ a'.defers _ _
  rw[hd'];exact xU ha' ms' w' ht' hk
theorem HC.introM(hmix:P.follows .mixedOrders=true){f:FuncId}{fn:Func}{c:Code}{an:Ann}{args:List Value}{ks:List Kind}{K:cL ks→ad→Prop}{h:ad}
 (hf:P.funcs[f]? =some fn) (hb:fn.body=some c) (hcall:∀(args:Array Value) (w:World),(callFunc f args).run P w=.ok (.enter f args) w) (hlen:args.length≤fn.ntmps)
 (hs:La P fn c an args ks K h):HC P f args ks K h:=(HE.introM hmix hf hb hcall hlen hs).hc
end Go.Lift
namespace Go.Lift
open Go
def AppP(z:Option (List Value))(sz bytes:Nat)(t:TypeId)(base:Option Addr)(sl sc xl:Nat)(xs:List Value)(h:ad)(K:SliceV→ad→Prop):Prop:=
 (sl+xl≤sc→rP h base (sl*sz) xs∧cj xs=true∧K ⟨base,sl+xl,sc⟩ (fU h base (sl*sz) xs))∧
 (sc<sl+xl→∃old z',SRow h base (sl*sz) old∧z=some z'∧0<bytes∧Builtin.nextslicecap (sl+xl) sc*bytes≤2^48∧
  ∀nc,sl+xl≤nc→K ⟨some (aA h),sl+xl,nc⟩ (hnew h (old++xs++dK (nc-(sl+xl)) z') t))
end Go.Lift
