/- A part of the proof that the named laws of this program answer true, whatever the input. -/
import Derived.Test.YtajpljopgikpgaaGreatDoorLift1
import Derived.BigFrameIn
open Array renaming getD_eq_getD_getElem?→dK,getElem?_toList→bR,getElem?_setIfInBounds_ne→fI,replicate→pg,getElem?_eq_some_iff→cF,getElem?_eq_getElem→j9,getElem?_eq_none→mf,mapM_eq_mapM_toList→ox,ext'→dG
open Bool renaming or_eq_true→ko,and_eq_true→bT,not_eq_true'→qL,or_eq_false_iff→nK
open List renaming mem_of_getElem?→aE,length_cons→aH,mem_cons→aB,getElem?_cons_zero→cB,getElem?_eq_getElem→ag,any_eq_true→cL,getElem?_eq_some_iff→aG,mem_cons_of_mem→aV,mem_cons_self→aC,range→dh,filter_cons→cP,mem_singleton→au,size_toArray→df
open Nat renaming blt→Am,beq→bX,eq_of_beq_eq_true→bC,land→kN,lor→dA,testBit_and→jh,zero_testBit→gG,succ→gH,zero_add→aU,beq_refl→tO,lt_or_ge→bO,pred→zL,sub_zero→fC
open Option renaming some→bQ
namespace Go.Lift
open Go
variable {P:Program} {ro:Option Nat} {n:Nat}
def FW(ro:Option Nat):Fence:={fn:=fun _=>True,depth:=none,alive:=false,round:=ro}
theorem TT(m:Machine):m.fenced P (FW ro):=by
 intro g _;exact⟨fun h=>by simp[FW]at h,.inl trivial,fun _ _=>trivial,fun d h=>by simp[FW]at h⟩
theorem Bh{m a:Machine}(h:Steps P m a):StepsIn (Machine.fenced P (FW ro)) P m a:=(StepsIn.of_steps h).mono fun m _=>TT m
theorem H3{k:Nat}{f:FuncId}{args:Array Value}{w:World}{R:Ending→World→Prop}(h:Calls P f args w R):CallsIn (FW ro) k P f args w R:=by
 refine⟨trivial,fun cs _=>?_⟩
 obtain⟨e,w',fr,d,hc,a,b⟩:=h cs;refine⟨e,w',fr,d,?_,a,b⟩;cases e with
 |returned v=>exact Bh hc
 |panicked c=>exact Bh hc
 |outgrown=>exact hc
theorem rR{o:Oper}{a:Act}{w:World}{K:WK}{next:Act→World→Prop}{Q:Exit→Act→World→Prop}(hd:∀c,o.op≠ .defer c)(h:OG P (execOp a.eval o) K w)
  (j:∀v w',Tame w w'→K v w'.heap→next (a.put o.dst v) w'):o.wpIn (FW ro) n P a w next Q:=by
 refine⟨fun _ _=>trivial,?_⟩
 rw[Oper.semAt_eq _ _ _ hd];rcases h with⟨v,w',d,g,i⟩|⟨w',d,g,i⟩|⟨f,args,d,hc⟩|⟨l,fn,tmps,assign,body,d,hc⟩
 ·rw[d];exact j v w' g i
 ·rw[d];exact j undef w' g i
 ·rw[d]
  refine⟨fun h=>by simp[FW]at h,H3 (hc.mono ?_)⟩
  rintro e w' ⟨g,v,rfl,i⟩;exact j v w' g i
 ·rw[d]
  refine⟨fun h=>by simp[FW]at h,trivial,fun c cs _=>?_⟩
  obtain⟨b,w',g,i,k⟩:=hc c cs;exact⟨.returned (.bool b),w',j _ w' g i,Bh k⟩
theorem vj{N:Nat}{o:Oper}{v:Value}{r:cV}{K:cV→Prop}{a:Act}{d:xo}{dv:DV}(h:BG N o v r K)(c:Agree N r a)(hd:DecOk d r)(hv:JN dv v):
  ∃r',K r'∧Agree N r' (a.put o.dst v)∧DecOk (tK d o dv) r':=by
 unfold BG at h;unfold tK;cases ho:o.dst with
 |none=>rw[ho]at h;exact⟨r,h,c,hd⟩
 |some t=>
  rw[ho]at h;simp only at h;cases hb:Am t N with
  |false=>rw[hb]at h;exact h.elim
  |true=>
   rw[hb]at h;have b:t<N:=by simpa using hb
   refine⟨_,h,c.put t v b,fun s=>?_⟩
   by_cases e:t=s
   ·subst e
    have:tg ((t,dv)::d) t=dv:=by simp[tg]
    rw[this];exact .inr ⟨v,jB t v r,hv⟩
   ·have f:tg ((t,dv)::d) s=tg d s:=by
     have:bX t s=false:=Bool.eq_false_iff.2 fun e'=>e (bC e')
     show(bif bX t s then dv else tg d s)=_
     rw[this];rfl
    rw[f,iJ v r e];exact hd s
theorem E9{ek:Option (Kind×Kind)}{o:Op}{r:cV}{K:RK}{h:af}(a:DX P ek o r K h):∀c,o≠ .defer c:=by
 intro c e;subst e;exact a
theorem yL{o:Oper}{r:cV}{K:WK}{h:af}(a:I6 P o r K h):∀c,o.op≠ .defer c:=by
 intro c e;unfold I6 at a;rw[e]at a;exact a
theorem aa6{d:xo}{o:Op}(h:yn P o=false):M5 d o=.x:=by
 cases o<;>first|rfl|(simp[yn]at h)
theorem Tk{N:Nat}{ek:Option (Kind×Kind)}{o:Oper}{r:cV}{K:cV→af→Prop}{a:Act}{w:World}{d:xo}{next:Act→World→Prop}{Q:Exit→Act→World→Prop}
  (f:aal P N ek o r K w.heap)(j:Agree N r a)(hd:DecOk d r)
  (q:∀v w' g,Tame w w'→K g w'.heap→Agree N g (a.put o.dst v)→DecOk (tK d o (M5 d o.op)) g→next (a.put o.dst v) w'):o.wpIn (FW ro) n P a w next Q:=by
 unfold aal at f;cases hq:yn P o.op with
 |true=>
  rw[hq,cond_true]at f;obtain⟨v,S,p,y,k,s⟩:=Ea j f d hd;refine rR (K:=fun u z=>u=v∧z=w.heap) (E9 f) (.inl ⟨v,w,s w y,Tame.refl w,rfl,rfl⟩) ?_
  rintro u w' m ⟨rfl,A⟩;obtain⟨g,b,i,c⟩:=vj p j hd k;exact q u w' g m (by rw[A];exact b) i c
 |false=>
  rw[hq,cond_false]at f;refine rR (yL f) (D0 j f) ?_;intro v w' m p;obtain⟨g,b,i,c⟩:=vj p j hd (dv:=M5 d o.op) (by rw[aa6 hq];trivial);exact q v w' g m b i c
theorem KQ{t:Array Value}{i:Nat}{b:Bool}(h:t.getD i undef=.bool b):t[i]? =some (.bool b):=by
 rw[dK]at h;cases hc:t[i]? with
 |none=>rw[hc]at h;simp[undef]at h
 |some v=>rw[hc]at h;simp at h;rw[h]
theorem Qw{t:Array Value}{i:Nat}(h:t.getD i undef=undef):t[i]? =none∨t[i]? =some undef:=by
 rw[dK]at h;cases hc:t[i]? with
 |none=>exact .inl rfl
 |some v=>rw[hc]at h;simp at h;rw[h];exact .inr rfl
theorem oG{N:Nat}{ops:Array Oper}{d:xo}{o:Oper}{b:Bool}{r:cV}{a:Act}(h:jZ ops.toList d o=some b)(m:Agree N r a)(hd:DecOk d r):
  Region.wanted o (yielded ops a.tmps)=b:=by
 unfold jZ at h;unfold Region.wanted;cases hg:o.guard with
 |none=>rw[hg]at h;simp only[bQ.injEq]at h;exact h
 |some g=>
  obtain⟨j,c⟩:=g;rw[hg]at h;simp only[bR]at h;simp only;cases hj:ops[j]? with
  |none=>rw[hj]at h;cases h
  |some oj=>
   rw[hj]at h;simp only at h;cases ht:oj.dst with
   |none=>rw[ht]at h;cases h
   |some t=>
    rw[ht]at h;simp only at h;have n:yielded ops a.tmps j=(match a.tmps[t]? with|some (.bool b)=>some b|_=>none):=by
     unfold yielded;simp[hj,ht];rfl
    rw[n];rcases hd t with hx|⟨v,hv,k⟩
    ·rw[hx]at h;cases h
    ·have i:=m.look t v hv
     cases hdl:tg d t with
     |x=>rw[hdl]at h;cases h
     |t=>
      rw[hdl]at h k;simp only[bQ.injEq]at h;subst h;have:v=.bool true:=k;subst this;rw[KQ i];cases c<;>rfl
     |f=>
      rw[hdl]at h k;simp only[bQ.injEq]at h;subst h;have:v=.bool false:=k;subst this;rw[KQ i];cases c<;>rfl
     |u=>
      rw[hdl]at h k;simp only[bQ.injEq]at h;subst h;have:v=undef:=k;subst this;rcases Qw i with e|e<;>rw[e]<;>cases c<;>rfl
structure Fr(W:Nat→Prop)(a0:Act)(w0:World)(a:Act)(w:World):Prop where
 tame:Tame w0 w
 defers:a.defers=a0.defers
 same:∀t,¬W t→a.tmps.getD t undef=a0.tmps.getD t undef
theorem Fr.refl(W:Nat→Prop)(a:Act)(w:World):Fr W a w a w:=⟨Tame.refl w,rfl,fun _ _=>rfl⟩
theorem Fr.put{W:Nat→Prop}{f a:Act}{w0 w w':World}(h:Fr W f w0 a w){o:Oper}(i:∀d,o.dst=some d→W d)(v:Value)(g:Tame w w'):Fr W f w0 (a.put o.dst v) w':=by
 refine⟨h.tame.trans g,?_,fun t b=>?_⟩
 ·cases ho:o.dst<;>simp[Act.put,h.defers]
 ·cases ho:o.dst with
  |none=>exact h.same t b
  |some d=>
   have c:d≠t:=fun e=>b (e▸i d ho)
   rw[←h.same t b];simp[Act.put,fI c]
theorem Fr.trans{W:Nat→Prop}{b g a:Act}{w0 c d:World}(h:Fr W b w0 g c)(k:Fr W g c a d):Fr W b w0 a d:=
 ⟨h.tame.trans k.tame,k.defers.trans h.defers,fun t f=>(k.same t f).trans (h.same t f)⟩
theorem Fr.mono{W W':Nat→Prop}{b a:Act}{w0 w:World}(h:Fr W b w0 a w)(c:∀t,W t→W' t):Fr W' b w0 a w:=
 ⟨h.tame,h.defers,fun t d=>h.same t fun e=>d (c t e)⟩
theorem DecOk.known{d:xo}{r:cV}(h:DecOk d r){t:Nat}{dv:DV}{v:Value}(hv:JN dv v):DecOk ((t,dv)::d) ((t,v)::r):=fun s=>by
 by_cases e:t=s
 ·subst e
  have:tg ((t,dv)::d) t=dv:=by simp[tg]
  rw[this];exact .inr ⟨v,jB t v r,hv⟩
 ·have a:tg ((t,dv)::d) s=tg d s:=by
   have:bX t s=false:=Bool.eq_false_iff.2 fun e'=>e (bC e')
   show(bif bX t s then dv else tg d s)=_
   rw[this];rfl
  rw[a,iJ v r e];exact h s
theorem GC{N:Nat}{ek:Option (Kind×Kind)}{ops:Array Oper}{o:Oper}{i:Nat}{d:xo}{r:cV}{a:Act}{w:World}{b:Bool}{K:xo→cV→af→Prop}{next:Act→World→Prop}{Q:Exit→Act→World→Prop}
  (hi:ops[i]? =some o) (s:jZ ops.toList d o=some b) (j:Agree N r a) (hd:DecOk d r)
  (p:match b with
   |true=>aal P N ek o r (K (tK d o (M5 d o.op))) w.heap
   |false=>BG N o undef r fun c=>K (tK d o .u) c w.heap)
  (m:∀v w' d' c,Tame w w'→K d' c w'.heap→Agree N c (a.put o.dst v)→DecOk d' c→next (a.put o.dst v) w'):
  wpOpIn (FW ro) n P ops Q i next a w:=by
 unfold wpOpIn;rw[hi];simp only[oG s j hd];cases b with
 |true=>exact Tk p j hd fun v w' c q u g f=>m v w' _ c q u g f
 |false=>
  obtain⟨c,k,g,f⟩:=vj (dv:=.u) p j hd rfl;exact⟨fun _ _=>trivial,m undef w _ c (Tame.refl w) k g f⟩
theorem Tj{N:Nat}{ek:Option (Kind×Kind)}{ops:List Oper}{o:Oper}{os:List Oper}{d:xo}{K:cV→af→Prop}{r:cV}{h:af}:G4 P N ek ops (o::os) d K r h=
 (match jZ ops d o with
 |some true=>aal P N ek o r (fun a c=>G4 P N ek ops os (tK d o (M5 d o.op)) K a c) h
 |some false=>BG N o undef r fun a=>G4 P N ek ops os (tK d o .u) K a h
 |none=>match HJ ops o with
  |none=>False
  |some t=>match lL r t with
   |some (.bool b)=>CondP b
    (Kc P N ek ops o ((t,.t)::d) ((t,.bool true)::r) h fun f a c=>G4 P N ek ops os f K a c)
    (Kc P N ek ops o ((t,.f)::d) ((t,.bool false)::r) h fun f a c=>G4 P N ek ops os f K a c)
   |_=>False):=rfl
theorem JU{N:Nat}{ek:Option (Kind×Kind)}{ops:Array Oper}{o:Oper}{i:Nat}{d:xo}{r:cV}{a:Act}{w:World}{K:xo→cV→af→Prop}{next:Act→World→Prop}{Q:Exit→Act→World→Prop}
  (hi:ops[i]? =some o) (g:Agree N r a) (hd:DecOk d r) (c:Kc P N ek ops.toList o d r w.heap K)
  (f:∀v w' d' r',Tame w w'→K d' r' w'.heap→Agree N r' (a.put o.dst v)→DecOk d' r'→next (a.put o.dst v) w'):
  wpOpIn (FW ro) n P ops Q i next a w:=by
 unfold Kc at c;cases hw:jZ ops.toList d o with
 |none=>rw[hw]at c;exact c.elim
 |some b=>rw[hw]at c;exact GC (ek:=ek) hi hw g hd (by cases b<;>exact c) f
theorem G3{N:Nat}{ek:Option (Kind×Kind)}{ops:Array Oper}{W:Nat→Prop}(u:∀o∈ops.toList,∀d,o.dst=some d→W d){q:Act}{w0:World}{K:cV→af→Prop}{Q:Exit→Act→World→Prop}
  (s:∀r a w,Agree N r a→Fr W q w0 a w→K r w.heap→Q .normal a w):
  ∀(l:List Oper) (i:Nat),ops.toList.drop i=l→∀(d:xo) (r:cV) (a:Act) (w:World),G4 P N ek ops.toList l d K r w.heap→Agree N r a→DecOk d r→Fr W q w0 a w→
   wpOpsIn (FW ro) n P ops Q (List.range' i l.length) a w
 | [],i,_,d,r,a,w,hs,ha,hd,hf=>s r a w ha hf hs
 |o::os,i,hdr,d,r,a,w,hs,ha,hd,hf=>by
  have hi:ops[i]? =some o:=by
   rw[←bR];have:(ops.toList.drop i)[0]? =some o:=by rw[hdr];rfl
   simpa using this
  have g:o∈ops.toList:=aE (by rw[bR];exact hi);have j:ops.toList.drop (i+1)=os:=by rw[←List.tail_drop,hdr];rfl
  rw[aH,List.range'_succ,wpOpsIn_cons];rw[Tj]at hs;have p:∀v w' f c,Tame w w'→G4 P N ek ops.toList os f K c w'.heap→Agree N c (a.put o.dst v)→DecOk f c→wpOpsIn (FW ro) n P ops Q (List.range' (i+1) os.length) (a.put o.dst v) w':=
   fun v w' f c y A m k=>G3 u s os (i+1) j f c _ w' A m k (hf.put (u o g) v y)
  cases hw:jZ ops.toList d o with
  |some b=>
   rw[hw]at hs;exact GC (ek:=ek) (K:=fun f c z=>G4 P N ek ops.toList os f K c z) hi hw ha hd (by cases b<;>exact hs) p
  |none=>
   rw[hw]at hs;simp only at hs;split at hs
   ·exact hs.elim
   ·rename_i t y
    split at hs
    ·rename_i b hb
     cases b with
     |true=>exact JU hi (ha.known hb) (hd.known (dv:=.t) rfl) (hs.yes rfl) p
     |false=>exact JU hi (ha.known hb) (hd.known (dv:=.f) rfl) (hs.no rfl) p
    ·exact hs.elim
end Go.Lift
namespace Go.Lift
open Go
theorem Cr(m i:Nat):tb m i=m.testBit i:=by
 have h:kN (Nat.shiftRight m i) 1=(m>>>i)&&&1:=rfl;unfold tb;rw[h,Nat.testBit_eq_decide_div_mod_eq,Nat.and_one_is_mod,Nat.shiftRight_eq_div_pow];cases hm:decide (m/2^i%2=1)with
 |true=>rw[of_decide_eq_true hm];rfl
 |false=>
  have a:=of_decide_eq_false hm;have:m/2^i%2=0:=by omega
  rw[this];rfl
theorem pF(a b i:Nat):(dA a b).testBit i=(a.testBit i||b.testBit i):=Nat.testBit_or a b i
theorem BK(i j:Nat):(iH i).testBit j=decide (i=j):=Nat.testBit_two_pow
theorem EB{a b:Nat}(h:bX (kN a b) 0=true)(t:Nat)(d:a.testBit t=true)(c:b.testBit t=true):False:=by
 have f:=bC h;have:(kN a b).testBit t=(a.testBit t&&b.testBit t):=jh a b t;rw[f,d,c]at this;simp at this
theorem YF{a b:Nat}(h:bX (kN a b) a=true)(t:Nat)(c:a.testBit t=true):b.testBit t=true:=by
 have d:=bC h;have:(kN a b).testBit t=(a.testBit t&&b.testBit t):=jh a b t;rw[d,c]at this;simpa using this.symm
theorem AN(i:Nat):∀l:List Edge,(nZ l).testBit i=l.any fun e=>bX e.on i&&Region.binds .any e
 | []=>gG i
 |e::l=>by
  have a:=AN i l;have hc:nZ (e::l)=bif Region.binds .any e then dA (iH e.on) (nZ l)else nZ l:=rfl;rw[hc,List.any_cons,←a];cases hb:Region.binds .any e with
  |true=>
   rw[cond_true,pF,BK,Bool.and_true];congr 1
   cases hd:bX e.on i with
   |true=>simpa using bC hd
   |false=>rw[decide_eq_false_iff_not];intro e';rw[e']at hd;simp at hd
  |false=>simp
theorem C9(o:Oper)(i:Nat):(nZ o.after.toList).testBit i=j1 o i:=AN i o.after.toList
theorem Cp(t:Nat):∀l:List Operand,(m5 l).testBit t=true↔Operand.tmp t∈l
 | []=>by simp[show m5 []=0 from rfl]
 |o::l=>by
  have a:=Cp t l;cases o with
  |tmp u=>
   have hc:m5 (.tmp u::l)=dA (iH u) (m5 l):=rfl;rw[hc,pF,BK,ko,a,aB];simp[eq_comm]
  |const v=>
   have hc:m5 (.const v::l)=m5 l:=rfl;rw[hc,a,aB];simp
  |global v=>
   have hc:m5 (.global v::l)=m5 l:=rfl;rw[hc,a,aB];simp
  |func v=>
   have hc:m5 (.func v::l)=m5 l:=rfl;rw[hc,a,aB];simp
theorem zn(o:Oper)(t:Nat):(pa o).testBit t=true↔o.dst=some t:=by
 unfold pa;cases o.dst with
 |none=>simp
 |some d=>simp[BK]
theorem Jn(ops:Array Oper)(o:Oper)(t:Nat):(pU ops.toList o).testBit t=true↔t∈o.looksAt ops:=by
 unfold pU Oper.looksAt;rw[pF,ko,Cp,List.mem_append,List.mem_filterMap];refine or_congr ⟨fun h=>⟨_,h,rfl⟩,?_⟩ ?_
 ·rintro⟨x,hx,a⟩
  cases x<;>simp at a
  subst a;exact hx
 ·cases hg:o.guard with
  |none=>simp
  |some g=>
   obtain⟨j,b⟩:=g;simp only[bR];cases hj:ops[j]? with
   |none=>simp
   |some oj=>simp[zn]
variable {P:Program} {ro:Option Nat} {n:Nat} {ops:Array Oper} {Q:Exit→Act→World→Prop}
structure MsOk(ops:Array Oper)(ms:List DM):Prop where
 am:∀(i:Nat) (o:Oper) (m:DM),ops[i]? =some o→ms[i]? =some m→∀j,m.am.testBit j=j1 o j
 lk:∀(i:Nat) (o:Oper) (m:DM),ops[i]? =some o→ms[i]? =some m→∀t,m.lk.testBit t=true↔t∈o.looksAt ops
 ds:∀(i:Nat) (o:Oper) (m:DM),ops[i]? =some o→ms[i]? =some m→∀t,m.ds.testBit t=true↔o.dst=some t
 len:ms.length=ops.size
 free:∀(i j:Nat) (m k:DM),ms[i]? =some m→ms[j]? =some k→m.fr.testBit j=true→j=i∨k.am.testBit i=true∨EC m k=true
 nosel:∀(i:Nat) (o:Oper),ops[i]? =some o→(∀cs b,o.op≠ .select cs b)∧(∀c,o.op≠ .defer c)
theorem CN(ops:List Oper):∀(l:List Oper) (ms:List DM),yW ops l ms=true→ms.length=l.length∧∀(i:Nat) (o:Oper) (m:DM),l[i]? =some o→ms[i]? =some m→
  m.am=nZ o.after.toList∧m.lk=pU ops o∧m.ds=pa o
 | [],[],_=>⟨rfl,fun i o m h=>by simp at h⟩
 | [],_::_,h=>by cases h
 |o::l,[],h=>by cases h
 |o::l,m::ms,h=>by
  have hc:yW ops (o::l) (m::ms)=(bX (nZ o.after.toList) m.am&&bX (pU ops o) m.lk&&bX (pa o) m.ds&&yW ops l ms):=rfl;rw[hc]at h;simp only[bT]at h;obtain⟨⟨⟨j,d⟩,n⟩,k⟩:=h;obtain⟨f,b⟩:=CN ops l ms k;refine⟨by simp[f],fun i g c a hm=>?_⟩
  cases i with
  |zero=>
   simp only[cB,bQ.injEq]at a hm;subst a;subst hm;exact⟨(bC j).symm,(bC d).symm,(bC n).symm⟩
  |succ i=>exact b i g c (by simpa using a) (by simpa using hm)
theorem KS(i:Nat)(m:DM):∀(l:List DM) (j0:Nat),KT i m l j0=true→∀(j:Nat) (k:DM),l[j]? =some k→m.fr.testBit (j0+j)=true→j0+j=i∨k.am.testBit i=true∨EC m k=true
 | [],j0,_,j,k,hk,_=>by simp at hk
 |x::l,j0,h,j,k,hk,hb=>by
  have hc:KT i m (x::l) j0=((!(tb m.fr j0)||bX j0 i||tb x.am i||EC m x)&&KT i m l (gH j0)):=rfl
  rw[hc]at h;simp only[bT,ko,qL,Cr]at h;cases j with
  |zero=>
   simp only[cB,bQ.injEq]at hk;subst hk;simp only[Nat.add_zero]at hb⊢;rcases h.1 with((a|a)|a)|a
   ·rw[a]at hb;cases hb
   ·exact .inl (bC a)
   ·exact .inr (.inl a)
   ·exact .inr (.inr a)
  |succ j=>
   have:=KS i m l (j0+1) h.2 j k (by simpa using hk) (by rw[show j0+1+j=j0+(j+1) by omega];exact hb)
   rw[show j0+1+j=j0+(j+1) by omega]at this
   exact this
theorem Fl(a:List DM):∀(l:List DM) (i0:Nat),CT a l i0=true→∀(i:Nat) (m:DM),l[i]? =some m→KT (i0+i) m a 0=true
 | [],i0,_,i,m,hm=>by simp at hm
 |x::l,i0,h,i,m,hm=>by
  have hc:CT a (x::l) i0=(KT i0 x a 0&&CT a l (gH i0)):=rfl;rw[hc,bT]at h;cases i with
  |zero=>simp only[cB,bQ.injEq]at hm;subst hm;exact h.1
  |succ i=>
   have:=Fl a l (i0+1) h.2 i m (by simpa using hm);rw[show i0+1+i=i0+(i+1) by omega]at this
   exact this
theorem Kw:∀(l:List Oper),NY l=true→∀o∈l,(∀cs b,o.op≠ .select cs b)∧(∀c,o.op≠ .defer c)
 | [],_,o,a=>by cases a
 |x::l,h,o,a=>by
  simp only[NY,bT]at h;rcases aB.1 a with rfl|a
  ·refine⟨fun cs b e=>?_,fun c e=>?_⟩
   ·rw[e]at h;cases h.1
   ·rw[e]at h;cases h.1
  ·exact Kw l h.2 o a
theorem P8{ms:List DM}(h:Gr ops.toList ms=true):MsOk ops ms:=by
 have hc:Gr ops.toList ms=(yW ops.toList ops.toList ms&&CT ms ms 0&&NY ops.toList):=rfl;rw[hc]at h;simp only[bT]at h;obtain⟨⟨g,f⟩,n⟩:=h;obtain⟨d,b⟩:=CN ops.toList ops.toList ms g;refine⟨fun i o m a hm j=>?_,fun i o m a hm t=>?_,fun i o m a hm t=>?_,by simpa using d,fun i j m k hm c p=>?_,fun i o a=>?_⟩
 ·rw[(b i o m (by simpa using a) hm).1,C9]
 ·rw[(b i o m (by simpa using a) hm).2.1,Jn]
 ·rw[(b i o m (by simpa using a) hm).2.2,zn]
 ·have:=Fl ms ms 0 f i m hm
  rw[aU]at this;have:=KS i m ms 0 this j k c (by rwa [aU]);rwa [aU]at this
 ·exact Kw _ n o (aE (by rw[bR];exact a))
theorem W2{ms:List DM}(hm:MsOk ops ms){i j:Nat}{b f:Oper}{g k:DM}(hi:ops[i]? =some b) (m:ops[j]? =some f) (c:ms[i]? =some g) (a:ms[j]? =some k) (h:EC g k=true):
  (∀d,b.dst=some d→d∉f.looksAt ops)∧(∀d,b.dst=some d→f.dst≠some d)∧(∀d,f.dst=some d→d∉b.looksAt ops):=by
 unfold EC at h;rw[bT]at h;refine⟨fun d hd n=>?_,fun d hd o=>?_,fun d hd n=>?_⟩
 ·exact EB h.1 d ((hm.ds i b g hi c d).2 hd) (by rw[pF,(hm.lk j f k m a d).2 n,Bool.true_or])
 ·exact EB h.1 d ((hm.ds i b g hi c d).2 hd) (by rw[pF,(hm.ds j f k m a d).2 o,Bool.or_true])
 ·exact EB h.2 d ((hm.ds j f k m a d).2 hd) ((hm.lk i b g hi c d).2 n)
structure LsRel(ops:Array Oper)(ls:Nat)(listed:Array Bool):Prop where
 size:listed.size=ops.size
 bit:∀j,listed.getD j false=ls.testBit j
theorem LsRel.start:LsRel ops 0 (pg ops.size false):=⟨by simp,fun j=>by
 rw[gG,dK]
 by_cases h:j<ops.size<;>simp[h]⟩
theorem LsRel.put{ls:Nat}{listed:Array Bool}(h:LsRel ops ls listed){i:Nat}(hi:i<ops.size):LsRel ops (dA ls (iH i)) (listed.setIfInBounds i true):=by
 refine⟨by simp[h.size],fun j=>?_⟩
 rw[pF,BK,←h.bit];by_cases e:i=j
 ·subst e;simp[h.size,hi]
 ·simp[e,fI e]
theorem LsRel.unlisted{ls:Nat}{listed:Array Bool}(h:LsRel ops ls listed){i:Nat}(hi:i<ops.size):listed.getD i true=ls.testBit i:=by
 rw[←h.bit];have:i<listed.size:=by rw[h.size];exact hi
 simp[this]
theorem Kk{ms:List DM}(hm:MsOk ops ms){ls:Nat}{listed:Array Bool}(h:LsRel ops ls listed){j:Nat}:j∈Region.ready .any ops listed↔∃m,ms[j]? =some m∧ls.testBit j=false∧Kl m ls=true:=by
 rw[mem_ready];constructor
 ·rintro⟨k,o,n,d⟩
  have a:j<ops.size:=(cF.1 n).1;have g:j<ms.length:=by rw[hm.len];exact a
  refine⟨ms[j],ag g,by rw[←h.unlisted a];exact k,?_⟩
  unfold Kl;have:kN (ms[j]).am ls=(ms[j]).am:=by
   apply Nat.eq_of_testBit_eq;intro t;have f:(kN (ms[j]).am ls).testBit t=((ms[j]).am.testBit t&&ls.testBit t):=jh _ _ t;rw[f];cases ht:(ms[j]).am.testBit t with
   |false=>rfl
   |true=>
    rw[hm.am j o _ n (ag g)]at ht;unfold j1 at ht;obtain⟨e,i,b⟩:=cL.1 ht;simp only[bT]at b;have:=d e (by simpa using i) b.2;rw[bC b.1,h.bit]at this;rw[this];rfl
  rw[this];exact tO _
 ·rintro⟨m,c,k,p⟩
  have a:j<ops.size:=by rw[←hm.len];exact(aG.1 c).1
  refine⟨by rw[h.unlisted a];exact k,ops[j],j9 a,fun e i b=>?_⟩
  rw[h.bit];refine YF p e.on ?_;rw[hm.am j _ m (j9 a) c];unfold j1;exact cL.2 ⟨e,by simpa using i,by simp[b]⟩
theorem tX(ls:Nat):∀(l:List DM) (j0 j:Nat),j∈nf ls l j0↔∃k m,l[k]? =some m∧j=j0+k∧ls.testBit j=false∧Kl m ls=true
 | [],j0,j=>by simp[show nf ls [] j0= []from rfl]
 |m::l,j0,j=>by
  have hc:nf ls (m::l) j0=bif !(tb ls j0)&&Kl m ls then j0::nf ls l (gH j0)else nf ls l (gH j0):=rfl;have f:=tX ls l (j0+1) j;rw[hc,Cr];have step:(∃k c,(m::l)[k]? =some c∧j=j0+k∧ls.testBit j=false∧Kl c ls=true)↔(j=j0∧ls.testBit j0=false∧Kl m ls=true)∨j∈nf ls l (j0+1):=by
   rw[f];constructor
   ·rintro⟨k,c,d,rfl,b,a⟩
    cases k with
    |zero=>simp only[cB,bQ.injEq]at d;subst d;exact .inl ⟨rfl,b,a⟩
    |succ k=>exact .inr ⟨k,c,by simpa using d,by omega,b,a⟩
   ·rintro(⟨rfl,b,a⟩|⟨k,c,d,rfl,b,a⟩)
    ·exact⟨0,m,rfl,rfl,b,a⟩
    ·exact⟨k+1,c,by simpa using d,by omega,b,a⟩
  rw[step];cases hb:(!(ls.testBit j0)&&Kl m ls)with
  |true=>
   simp only[bT,qL]at hb;rw[cond_true,aB];simp[hb.1,hb.2]
  |false=>
   rw[cond_false];constructor
   ·exact .inr
   ·rintro(⟨_,b,a⟩|h)
    ·rw[b,a]at hb;cases hb
    ·exact h
theorem nP{ms:List DM}(hm:MsOk ops ms){ls:Nat}{listed:Array Bool}(h:LsRel ops ls listed){j:Nat}:j∈Region.ready .any ops listed↔j∈nf ls ms 0:=by
 rw[Kk hm h,tX];constructor
 ·rintro⟨m,c,a,b⟩;exact⟨j,m,c,by omega,a,b⟩
 ·rintro⟨k,m,c,rfl,a,b⟩;exact⟨m,by simpa using c,a,b⟩
theorem zX:∀{a b:List Nat},xC a b=true→a=b
 | [],[],_=>rfl
 | [],_::_,h=>by cases h
 |_::_,[],h=>by cases h
 |a::as,b::bs,h=>by
  simp only[xC,bT]at h;rw[bC h.1,zX h.2]
end Go.Lift
namespace Go.Lift
open Go
variable {P:Program} {ro:Option Nat} {n:Nat} {ops:Array Oper} {Q:Exit→Act→World→Prop}
theorem Co{m:Nat}{p:Nat→Bool}(hm:∀j,m.testBit j=true→p j=true):∀(l:List DM) (j0:Nat),(∀j x,l[j]? =some x→p (j0+j)=true→∀k,x.am.testBit k=true→p k=true)→∀k,(upM m l j0).testBit k=true→p k=true
 | [],_,_,k,h=>hm k h
 |x::l,j0,hl,k,h=>by
  have hc:upM m (x::l) j0=bif tb m j0 then dA x.am (upM m l (gH j0))else upM m l (gH j0):=rfl;have a:=Co hm l (j0+1) (fun j y c b=>hl (j+1) y (by simpa using c) (by rw[show j0+(j+1)=j0+1+j by omega];exact b)) k
  rw[hc,Cr]at h;cases hb:m.testBit j0 with
  |true=>
   rw[hb,cond_true,pF,ko]at h;rcases h with h|h
   ·exact hl 0 x rfl (hm _ hb) k h
   ·exact a h
  |false=>
   rw[hb,cond_false]at h;exact a h
theorem Cn{m k:Nat}(h:m.testBit k=true):∀(l:List DM) (j0:Nat),(upM m l j0).testBit k=true
 | [],_=>h
 |x::l,j0=>by
  have hc:upM m (x::l) j0=bif tb m j0 then dA x.am (upM m l (gH j0))else upM m l (gH j0):=rfl;have a:=Cn h l (j0+1);rw[hc];cases tb m j0 with
  |true=>rw[cond_true,pF,ko];exact .inr a
  |false=>exact a
def Shut(ms:List DM)(listed:Array Bool):Prop:=∀j x,ms[j]? =some x→listed.getD j false=true→∀k,x.am.testBit k=true→listed.getD k false=true
theorem Ua{ms:List DM}{listed:Array Bool}(c:Shut ms listed){m:Nat}(hm:∀j,m.testBit j=true→listed.getD j false=true){k:Nat}(h:(C4 ms m).testBit k=true):listed.getD k false=true:=by
 have a:∀j x,ms[j]? =some x→(fun k=>listed.getD k false) (0+j)=true→∀k,x.am.testBit k=true→(fun k=>listed.getD k false) k=true:=fun j x hx b=>c j x hx (by rw[aU]at b;exact b)
 unfold C4 at h;exact Co (p:=fun k=>listed.getD k false) (Co (Co (Co hm ms 0 a) ms 0 a) ms 0 a) ms 0 a k h
theorem K4{ms:List DM}{m k:Nat}(h:m.testBit k=true):(C4 ms m).testBit k=true:=by
 unfold C4;exact Cn (Cn (Cn (Cn h ms 0) ms 0) ms 0) ms 0
noncomputable abbrev rel(ms:List DM)(i:Nat)(L:sP):sP:=Cy (C4 ms (MC ms i)) L
theorem li{m:Nat}{x:Nat×(af→Prop)}:∀{L:sP},x∈Cy m L↔x∈L∧tb m x.1=false
 | []=>by simp[Cy]
 |(k,S)::L=>by
  have b:=li (m:=m) (x:=x) (L:=L);simp only[Cy];cases hk:tb m k with
  |true=>
   rw[cond_true,b,aB];constructor
   ·exact fun h=>⟨.inr h.1,h.2⟩
   ·rintro⟨h|h,a⟩
    ·subst h;rw[hk]at a;cases a
    ·exact⟨h,a⟩
  |false=>
   rw[cond_false,aB,b,aB];constructor
   ·rintro(h|h)
    ·subst h;exact⟨.inl rfl,hk⟩
    ·exact⟨.inr h.1,h.2⟩
   ·rintro⟨h|h,a⟩
    ·exact .inl h
    ·exact .inr ⟨h,a⟩
def UR(ms:List DM)(ro:Option Nat)(n:Nat)(P:Program)(ops:Array Oper)(Q:Exit→Act→World→Prop):Nat→sP→Array Bool→Act→World→Prop
 |0,_,listed,a,w=>Region.ready .any ops listed= []∧Q .normal a w
 |f+1,L,listed,a,w=>(Region.ready .any ops listed= []→Q .normal a w)∧
  ∀i∈Region.ready .any ops listed,∀o,ops[i]? =some o→
   wpOpIn (FW ro) n P ops Q i (fun a' w'=>(∀x∈rel ms i L,x.2 w'.heap)∧UR ms ro n P ops Q f (rel ms i L) (listed.setIfInBounds i true) a' w') a w
theorem yU{o:Oper}{x:Nat×(af→Prop)}:∀{L:sP},x∈p9 o L↔x∈L∧j1 o x.1=false
 | []=>by simp[p9]
 |(k,S)::L=>by
  have b:=yU (o:=o) (x:=x) (L:=L);simp only[p9];cases hk:j1 o k with
  |true=>
   rw[cond_true,b,aB];constructor
   ·exact fun h=>⟨.inr h.1,h.2⟩
   ·rintro⟨h|h,a⟩
    ·subst h;rw[hk]at a;cases a
    ·exact⟨h,a⟩
  |false=>
   rw[cond_false,aB,b,aB];constructor
   ·rintro(h|h)
    ·subst h;exact⟨.inl rfl,hk⟩
    ·exact⟨.inr h.1,h.2⟩
   ·rintro⟨h|h,a⟩
    ·exact .inl h
    ·exact .inr ⟨h,a⟩
theorem Tq{listed:Array Bool}{i:Nat}(h:i∈Region.ready .any ops listed):∃o,ops[i]? =some o:=by
 obtain⟨_,o,a,_⟩:=mem_ready.1 h;exact⟨o,a⟩
theorem RD{ms:List DM}:∀(f:Nat) (L:sP) (listed:Array Bool) (a:Act) (w:World),UR ms ro n P ops Q f L listed a w→wpAnyIn (FW ro) n P .any ops Q f listed a w
 |0,_,_,_,_,h=>h
 |f+1,L,listed,a,w,h=>⟨h.1,fun i hi=>by
  obtain⟨o,c⟩:=Tq hi
  exact wpOpIn_mono (fun a' w' b=>RD f _ _ a' w' b.2) (h.2 i hi o c)⟩
theorem wD{ms:List DM}:∀(f:Nat) (L L':sP) (listed:Array Bool) (a:Act) (w:World),(∀x∈L',x∈L∨∀h,x.2 h)→UR ms ro n P ops Q f L listed a w→UR ms ro n P ops Q f L' listed a w
 |0,_,_,_,_,_,_,h=>h
 |f+1,L,L',listed,a,w,hs,h=>⟨h.1,fun i hi o d=>by
  have b:∀x∈rel ms i L',x∈rel ms i L∨∀h,x.2 h:=fun x hx=>(hs x (li.1 hx).1).imp (fun h=>li.2 ⟨h,(li.1 hx).2⟩) id
  exact wpOpIn_mono (fun a' w' c=>⟨fun x hx=>(b x hx).elim (c.1 x) fun h=>h _,wD f _ _ _ a' w' b c.2⟩) (h.2 i hi o d)⟩
def YG(P:Program)(ops:Array Oper)(S:af→Prop)(o:Oper)(v:Value)(a:Act):Prop:=
 (Region.wanted o (yielded ops a.tmps)=true∧∀w:World,S w.heap→(execOp a.eval o).run P w=.ok (.value v) w)∨
 (Region.wanted o (yielded ops a.tmps)=false∧v=undef)
theorem YG.wpOp{S:af→Prop}{i:Nat}{o:Oper}{v:Value}{a:Act}(hi:ops[i]? =some o) (hd:∀c,o.op≠ .defer c) (f:YG P ops S o v a) {K:Act→World→Prop} {w:World} (d:S w.heap)
  (h:K (a.put o.dst v) w):wpOpIn (FW ro) n P ops Q i K a w:=by
 unfold wpOpIn;simp only[hi];rcases f with⟨b,hv⟩|⟨b,rfl⟩
 ·simp only[b,if_true]
  refine⟨fun _ _=>trivial,?_⟩
  rw[Oper.semAt_eq _ _ _ hd,hv w d];exact h
 ·simp only[b,Bool.false_eq_true,if_false];exact⟨fun _ _=>trivial,h⟩
theorem YG.of_same{S:af→Prop}{o:Oper}{v:Value}{a a':Act}(d:YG P ops S o v a)(b:execOp a'.eval o=execOp a.eval o)
  (c:Region.wanted o (yielded ops a'.tmps)=Region.wanted o (yielded ops a.tmps)):YG P ops S o v a':=by
 unfold YG at*;rw[b,c];exact d
theorem Pg{S:af→Prop}{j:Nat}{g i:Oper}{v:Value}(D:ops[j]? =some i)
  (B:(∀d,g.dst=some d→d∉i.looksAt ops)∧(∀d,g.dst=some d→i.dst≠some d)∧(∀d,i.dst=some d→d∉g.looksAt ops))
  (s:∀cs b,g.op≠ .select cs b) (A:∀cs b,i.op≠ .select cs b) (q:∀c,i.op≠ .defer c)
  (E:∀e a w,(∀c,e=.panic c→False)∨¬Q e a w) {K:Act→World→Prop} {a:Act} {w:World}
  (m:YG P ops S g v a) (h:wpOpIn (FW ro) n P ops Q j K (a.put g.dst v) w):
  wpOpIn (FW ro) n P ops Q j (fun a' w'=>YG P ops S g v a'∧K (a'.put g.dst v) w') a w:=by
 obtain⟨C,o,z⟩:=B;have p:∀c a w,¬Q (.panic c) a w:=fun c a w F=>(E (.panic c) a w).elim (fun h=>h c rfl) fun h=>h F
 have keep:∀(a:Act),YG P ops S g v a→∀u,YG P ops S g v (a.put i.dst u):=fun a m u=>
  m.of_same (execOp_put g s a i.dst u z) (wanted_put g a i.dst u z)
 unfold wpOpIn at*;simp only[D]at*;rw[wanted_put i a g.dst v C]at h;split
 ·rename_i hw
  simp only[hw,if_true]at h;refine⟨fun _ _=>trivial,?_⟩
  have h:=h.2;rw[Oper.semAt_eq _ _ _ q,execOp_put i A a g.dst v C]at h;rw[Oper.semAt_eq _ _ _ q];generalize (execOp a.eval i).run P w=r at*;cases r with
  |ok x w'=>
   cases x<;>simp only[Oper.uponIn]at h⊢
   case value u=>exact⟨keep a m u,by rw[←Act.put_comm a v u o];exact h⟩
   case skip=>exact⟨keep a m _,by rw[←Act.put_comm a v undef o];exact h⟩
   case defer d=>
    refine⟨(m.of_same (a':={a with defers:=d::a.defers}) rfl rfl).of_same (execOp_put g s _ i.dst undef z) (wanted_put g _ i.dst undef z),?_⟩;rw[←Act.put_comm _ v undef o,←Act.put_defers];exact h
   case enter f args=>
    refine⟨h.1,CallsIn.mono h.2 fun e y k=>?_⟩
    cases e with
    |returned u=>exact⟨keep a m u,by rw[←Act.put_comm a v u o];exact k⟩
    |panicked c=>exact(p _ _ _ k).elim
    |outgrown=>exact k
   case row row args=>exact⟨h.1,RowsIn.mono h.2 fun u y k=>⟨keep a m u,by rw[←Act.put_comm a v u o];exact k⟩⟩
   case round l f tmps assign body=>
    refine⟨h.1,RoundIn.mono h.2 fun e y k=>?_⟩
    cases e with
    |returned u=>exact⟨keep a m u,by rw[←Act.put_comm a v u o];exact k⟩
    |panicked c=>exact(p _ _ _ k).elim
    |outgrown=>exact k
  |halt x w'=>
   cases x<;>simp only[Oper.uponIn]at h⊢
   case panic u=>exact(p _ _ _ h).elim
 ·rename_i hw
  simp only[hw]at h;exact⟨fun _ _=>trivial,keep a m _,by rw[←Act.put_comm a v undef o];exact h.2⟩
theorem MB{ms:List DM}(hm:MsOk ops ms){i:Nat}{o:Oper}(a:ops[i]? =some o) (k:Nat):(MC ms i).testBit k=j1 o k:=by
 have hi:i<ms.length:=by rw[hm.len];exact(cF.1 a).1
 unfold MC;rw[ag hi];exact hm.am i o _ a (ag hi) k
theorem Nz{ms:List DM}(hm:MsOk ops ms){listed:Array Bool}{j:Nat}(d:j∈Region.ready .any ops listed)(k:Nat)(c:(MC ms j).testBit k=true):listed.getD k false=true:=by
 obtain⟨_,o,g,a⟩:=mem_ready.1 d;rw[MB hm g]at c;unfold j1 at c;obtain⟨e,f,b⟩:=cL.1 c;simp only[bT]at b;have:=a e (by simpa using f) b.2;rw[bC b.1]at this;exact this
theorem Of{listed:Array Bool}{j k:Nat}(h:listed.getD k false=true):(listed.setIfInBounds j true).getD k false=true:=by
 by_cases e:j=k
 ·subst e
  rw[dK]at h⊢;rcases bO j listed.size with a|a
  ·simp[a]
  ·simp[mf a]at h
 ·rw[dK,fI e,←dK]
  exact h
theorem Shut.put{ms:List DM}(hm:MsOk ops ms){listed:Array Bool}(c:Shut ms listed){j:Nat}(d:j∈Region.ready .any ops listed):Shut ms (listed.setIfInBounds j true):=by
 intro i x hx b k a;by_cases e:j=i
 ·subst e
  refine Of (Nz hm d k ?_);unfold MC;rw[hx];exact a
 ·rw[dK,fI e,←dK]at b
  exact Of (c i x hx b k a)
theorem GD{ms:List DM}(hm:MsOk ops ms){S:af→Prop}{i:Nat}{u:Oper}{v:Value}(hi:ops[i]? =some u) (g:∀(j:Nat) (o:Oper),ops[j]? =some o→(∀cs b,o.op≠ .select cs b)∧(∀c,o.op≠ .defer c))
  (hQ:∀e a w,(∀c,e=.panic c→False)∨¬Q e a w):
  ∀(fuel:Nat) (L:sP) (listed:Array Bool) (a:Act) (w:World),
   (∀j s,ops[j]? =some s→j≠i→listed.getD j true=false→j1 s i=false→
    (∀d,u.dst=some d→d∉s.looksAt ops)∧(∀d,u.dst=some d→s.dst≠some d)∧(∀d,s.dst=some d→d∉u.looksAt ops))→
   Shut ms listed→i∈Region.ready .any ops listed→YG P ops S u v a→S w.heap→(∀x∈L,x.2 w.heap)→
   UR ms ro n P ops Q fuel ((i,S)::L) (listed.setIfInBounds i true) (a.put u.dst v) w→UR ms ro n P ops Q (fuel+1) L listed a w:=by
 intro fuel;induction fuel with
 |zero=>
  intro L listed a w _ _ A T X W H;refine⟨fun h=>(by rw[h]at A;cases A),fun j F s f=>?_⟩
  by_cases m:j=i
  ·subst m
   rw[hi]at f;cases f;exact T.wpOp hi (g _ _ hi).2 X ⟨fun x hx=>W x (li.1 hx).1,H⟩
  ·have:=ready_mono F m
   rw[H.1]at this;cases this
 |succ fuel ih=>
  intro L listed a w q J A T X W H;refine⟨fun h=>(by rw[h]at A;cases A),fun j F s f=>?_⟩
  by_cases m:j=i
  ·subst m
   rw[hi]at f;cases f;exact T.wpOp hi (g _ _ hi).2 X ⟨fun x hx=>W x (li.1 hx).1,wD _ _ _ _ _ _ (fun x hx=>.inl (aV _ (li.1 hx).1)) H⟩
  ·have p:=H.2 j (ready_mono F m) s f
   obtain⟨C,oj',B,M⟩:=mem_ready.1 F;rw[f]at B;cases B;have K:j1 s i=false:=by
    cases y:j1 s i with
    |false=>rfl
    |true=>
     unfold j1 at y;obtain⟨e,he,y⟩:=cL.1 y;simp only[bT]at y;have p:=M e (by simpa using he) y.2;rw[bC y.1]at p;have N:=(mem_ready.1 A).1;rcases bO i listed.size with E|E
     ·simp[E]at N p;rw[N]at p;cases p
     ·simp[mf E]at p
   have D:tb (C4 ms (MC ms j)) i=false:=by
    cases y:tb (C4 ms (MC ms j)) i with
    |false=>rfl
    |true=>
     rw[Cr]at y;have p:=Ua J (Nz hm F) y;have N:=(mem_ready.1 A).1;rcases bO i listed.size with E|E
     ·simp[E]at N p;rw[N]at p;cases p
     ·simp[mf E]at p
   have G:rel ms j ((i,S)::L)=(i,S)::rel ms j L:=by simp only[rel,Cy,D,cond_false]
   rw[G]at p;have Z:=Pg f (q j s f m C K) (g _ _ hi).1 (g _ _ f).1 (g _ _ f).2 hQ T p;have z:∀k ok,ops[k]? =some ok→k≠i→(listed.setIfInBounds j true).getD k true=false→j1 ok i=false→
     (∀d,u.dst=some d→d∉ok.looksAt ops)∧(∀d,u.dst=some d→ok.dst≠some d)∧(∀d,ok.dst=some d→d∉u.looksAt ops):=fun k ok hk Y R V=>by
    refine q k ok hk Y ?_ V;by_cases O:j=k
    ·subst O;exact C
    ·rw[getD_set_ne true O]at R;exact R
   refine wpOpIn_mono (fun a' w' I=>⟨fun x hx=>I.2.1 x (aV _ hx),ih (rel ms j L) (listed.setIfInBounds j true) a' w' z (J.put hm F) (ready_mono A (Ne.symm m)) I.1 (I.2.1 _ (aC ..)) (fun x hx=>I.2.1 x (aV _ hx)) ?_⟩) Z
   rw[Array.setIfInBounds_comm _ _ m];exact I.2.2
theorem tF{h:af}{R:Prop}:∀{L:sP},ua L h R↔(∀x∈L,x.2 h)∧R
 | []=>by simp[ua]
 |(k,S)::L=>by
  simp only[ua,tF (L:=L),aB,forall_eq_or_imp,and_assoc]
theorem UQ{ms:List DM}{f:Nat}{L:sP}{listed:Array Bool}{a:Act}{w:World}(b:Region.ready .any ops listed= [])(h:Q .normal a w):UR ms ro n P ops Q f L listed a w:=by
 cases f with
 |zero=>exact⟨b,h⟩
 |succ f=>exact⟨fun _=>h,by rw[b];simp⟩
def left(ops:Array Oper)(ls:Nat):Nat:=((dh ops.size).filter fun j=> !ls.testBit j).length
theorem yX{ls i:Nat}(hi:i<ops.size)(f:ls.testBit i=false):left ops (dA ls (iH i))+1=left ops ls:=by
 have key:∀l:List Nat,l.Nodup→i∈l→(l.filter fun j=> !(dA ls (iH i)).testBit j).length+1=(l.filter fun j=> !ls.testBit j).length:=by
  intro l;induction l with
  |nil=>intro _ h;cases h
  |cons x l ih=>
   intro b hm;rw[List.nodup_cons]at b;by_cases hx:x=i
   ·subst hx
    have a:(l.filter fun j=> !(dA ls (iH x)).testBit j)=l.filter fun j=> !ls.testBit j:=by
     apply List.filter_congr;intro y g;have:x≠y:=fun e=>b.1 (e▸g)
     rw[pF,BK,decide_eq_false this,Bool.or_false]
    have d:(dA ls (iH x)).testBit x=true:=by rw[pF,BK];simp
    rw[cP,cP,d,f,a];rfl
   ·have c:i∈l:=by rcases aB.1 hm with h|h;exact absurd h.symm hx;exact h
    have d:(dA ls (iH i)).testBit x=ls.testBit x:=by rw[pF,BK,decide_eq_false (Ne.symm hx),Bool.or_false]
    have:=ih b.2 c;rw[cP,cP,d];cases ls.testBit x with
    |true=>exact this
    |false=>exact congrArg (· +1) this
 exact key _ List.nodup_range (List.mem_range.2 hi)
theorem TS{N:Nat}{a:List Oper}{ms:List DM}{ls:Nat}{L:sP}{d:xo}{K:cV→af→Prop}{r:cV}{b:af}:∀{l:DA},oI P N a ms l true ls L d K r b→∃i,i∈En l
 | .done,h=>h.elim
 | .take i rest,h=>by
  exfalso;have hc:oI P N a ms (.take i rest) true ls L d K r b=(match a[i]?,ms[i]? with|some _,some _=>False|_,_=>False):=rfl
  rw[hc]at h;split at h<;>exact h
 | .all _,h=>h.elim
 | .pick i _ _,_=>⟨i,aC ..⟩
 | .last i _,_=>⟨i,aC ..⟩
 | .lastT i _,_=>⟨i,aC ..⟩
 | .split ..,h=>h.elim
def Rn(ro:Option Nat)(n:Nat)(P:Program)(ops:Array Oper)(Q:Exit→Act→World→Prop)(N:Nat)(ms:List DM)(W:Nat→Prop)(c:Act)(w0:World)(K:cV→af→Prop)(b:DA):Prop:=
 ∀(m:Bool) (ls:Nat) (L:sP) (d:xo) (r:cV) (a:Act) (w:World) (listed:Array Bool) (fuel:Nat),
  oI P N ops.toList ms b m ls L d K r w.heap→Agree N r a→DecOk d r→Fr W c w0 a w→LsRel ops ls listed→Shut ms listed→(∀x∈L,x.2 w.heap)→
  (m=false→left ops ls≤fuel→UR ms ro n P ops Q fuel L listed a w)∧
  (m=true→left ops ls≤fuel+1→∀i∈En b,i∈nf ls ms 0→∀o,ops[i]? =some o→
   wpOpIn (FW ro) n P ops Q i (fun a' w'=>(∀x∈rel ms i L,x.2 w'.heap)∧UR ms ro n P ops Q fuel (rel ms i L) (listed.setIfInBounds i true) a' w') a w)
theorem Ns{N:Nat}{ms:List DM}(hm:MsOk ops ms){W:Nat→Prop}(hW:∀o∈ops.toList,∀d,o.dst=some d→W d){a0:Act}{w0:World}{K:cV→af→Prop}
  (hQ:∀r a w,Agree N r a→Fr W a0 w0 a w→K r w.heap→Q .normal a w)(hnp:∀e a w,(∀c,e=.panic c→False)∨¬Q e a w)(da:DA):
  Rn ro n P ops Q N ms W a0 w0 K da:=by
 have one:∀(i:Nat) (g:DA)
   (_:Rn ro n P ops Q N ms W a0 w0 K g)
   (ls:Nat) (L:sP) (d:xo) (r:cV) (a:Act) (w:World) (listed:Array Bool) (fuel:Nat),
   Tl P N ops.toList i L d r w.heap (fun L' d' D h'=>oI P N ops.toList ms g false (dA ls (iH i)) L' d' K D h')→Agree N r a→DecOk d r→Fr W a0 w0 a w→LsRel ops ls listed→Shut ms listed→
   left ops ls≤fuel+1→i∈nf ls ms 0→∀o,ops[i]? =some o→
    wpOpIn (FW ro) n P ops Q i (fun a' w'=>(∀x∈rel ms i L,x.2 w'.heap)∧UR ms ro n P ops Q fuel (rel ms i L) (listed.setIfInBounds i true) a' w') a w:=by
  intro i g X ls L d r a w listed fuel f B hd I z p A hr o s;have y:i<ops.size:=(cF.1 s).1;obtain⟨k,mm,hk,hki,J,_⟩:=(tX ls ms 0 i).1 hr;unfold Tl at f;rw[bR,s]at f;simp only at f;cases hw:jZ ops.toList d o with
  |none=>rw[hw]at f;exact f.elim
  |some b=>
   rw[hw]at f;cases b with
   |false=>exact f.elim
   |true=>
    simp only at f;cases hq:yn P o.op with
    |true=>
     rw[hq,cond_true]at f;unfold wpOpIn;rw[s];simp only[oG hw B hd,if_true];obtain⟨v,S,hK,hS,_,V⟩:=Ea B f d hd;refine rR (K:=fun u h'=>u=v∧h'=w.heap) (E9 f) (.inl ⟨v,w,V w hS,Tame.refl w,rfl,rfl⟩) ?_
     rintro u w' ht ⟨rfl,hw'⟩;obtain⟨D,H,F,G⟩:=vj (dv:=.x) hK B hd trivial;obtain⟨hh,Y⟩:=tF.1 H;have C:o∈ops.toList:=aE (by rw[bR];exact s);have M:=yX y J;have E:∀x∈rel ms i L,x∈p9 o L:=fun x hx=>yU.2 ⟨(li.1 hx).1,by
      cases hb:j1 o x.1 with
      |false=>rfl
      |true=>
        have:=(li.1 hx).2
        rw[Cr,K4 (by rw[MB hm s];exact hb)]at this;cases this⟩
     rw[←hw']at hh Y;exact⟨fun x hx=>hh x (E x hx),wD _ _ _ _ _ _ (fun x hx=>.inl (E x hx)) ((X false _ _ _ D _ w' _ fuel Y F G (I.put (hW o C) u ht) (z.put y) (p.put hm ((nP hm z).2 hr)) hh).1 rfl (by omega))⟩
    |false=>
     rw[hq,cond_false]at f;unfold wpOpIn;rw[s];simp only[oG hw B hd,if_true];refine rR (yL f) (D0 B f) ?_;intro v w' ht hK;obtain⟨D,H,F,G⟩:=vj (dv:=.x) hK B hd trivial;obtain⟨hh,Y⟩:=tF.1 H;have C:o∈ops.toList:=aE (by rw[bR];exact s);have M:=yX y J;have E:∀x∈rel ms i L,x∈p9 o L:=fun x hx=>yU.2 ⟨(li.1 hx).1,by
      cases hb:j1 o x.1 with
      |false=>rfl
      |true=>
        have:=(li.1 hx).2
        rw[Cr,K4 (by rw[MB hm s];exact hb)]at this;cases this⟩
     exact⟨fun x hx=>hh x (E x hx),wD _ _ _ _ _ _ (fun x hx=>.inl (E x hx)) ((X false _ _ _ D _ w' _ fuel Y F G (I.put (hW o C) v ht) (z.put y) (p.put hm ((nP hm z).2 hr)) hh).1 rfl (by omega))⟩
 have oneT:∀(i:Nat) (g:DA)
   (_:Rn ro n P ops Q N ms W a0 w0 K g)
   (ls:Nat) (L:sP) (d:xo) (r:cV) (a:Act) (w:World) (listed:Array Bool) (fuel:Nat),
   RN P N ops.toList ms i L d r w.heap (fun L' d' D h'=>oI P N ops.toList ms g false (dA ls (iH i)) L' d' K D h')→Agree N r a→DecOk d r→Fr W a0 w0 a w→LsRel ops ls listed→Shut ms listed→
   left ops ls≤fuel+1→i∈nf ls ms 0→∀o,ops[i]? =some o→
    wpOpIn (FW ro) n P ops Q i (fun a' w'=>(∀x∈rel ms i L,x.2 w'.heap)∧UR ms ro n P ops Q fuel (rel ms i L) (listed.setIfInBounds i true) a' w') a w:=by
  intro i g X ls L d r a w listed fuel f B hd I z p A hr o s;have y:i<ops.size:=(cF.1 s).1;obtain⟨k,mm,hk,hki,J,_⟩:=(tX ls ms 0 i).1 hr;unfold RN at f;rw[bR,s]at f;simp only at f;cases hw:jZ ops.toList d o with
  |none=>rw[hw]at f;exact f.elim
  |some b=>
   rw[hw]at f;cases b with
   |false=>exact f.elim
   |true=>
    simp only at f;cases hq:yn P o.op with
    |true=>rw[hq]at f;exact f.elim
    |false=>
     rw[hq,cond_false]at f;unfold wpOpIn;rw[s];simp only[oG hw B hd,if_true];refine rR (yL f) (D0 B f) ?_;intro v w' ht hK;obtain⟨D,H,F,G⟩:=vj (dv:=.x) hK B hd trivial;obtain⟨hh,Y⟩:=tF.1 H;have C:o∈ops.toList:=aE (by rw[bR];exact s);have M:=yX y J;exact⟨hh,(X false _ _ _ D _ w' _ fuel Y F G (I.put (hW o C) v ht) (z.put y) (p.put hm ((nP hm z).2 hr)) hh).1 rfl (by omega)⟩
 induction da with
 |done=>
  intro m ls L d r a w listed fuel f B hd I z p R;cases m with
  |true=>exact f.elim
  |false=>
   refine⟨fun _ _=>?_,fun h=>by cases h⟩
   have hc:oI P N ops.toList ms .done false ls L d K r w.heap=bif xC (nf ls ms 0) []then K r w.heap else False:=rfl;rw[hc]at f;cases hb:xC (nf ls ms 0) []with
   |false=>rw[hb]at f;exact f.elim
   |true=>
    rw[hb]at f;have hnil:Region.ready .any ops listed= []:=by
     apply List.eq_nil_iff_forall_not_mem.2;intro j O;rw[nP hm z,zX hb]at O;cases O
    exact UQ hnil (hQ r a w B I f)
 |take i g X=>
  intro m ls L d r a w listed fuel f B hd I z p R;cases m with
  |true=>
   exfalso;have hc:oI P N ops.toList ms (.take i g) true ls L d K r w.heap=(match ops.toList[i]?,ms[i]? with|some _,some _=>False|_,_=>False):=rfl
   rw[hc]at f;split at f<;>exact f
  |false=>
   refine⟨fun _ A=>?_,fun h=>by cases h⟩
   have hc:oI P N ops.toList ms (.take i g) false ls L d K r w.heap=(match ops.toList[i]?,ms[i]? with
    |some o,some mi=>bif GS mi i ls ops.toList.length then
      (match jZ ops.toList d o with
       |none=>False
       |some false=>BG N o undef r fun D=>oI P N ops.toList ms g false (dA ls (iH i)) L (tK d o .u) K D w.heap
       |some true=>bif yn P o.op then
          DX P none o.op r (fun v S=>BG N o v r fun D=>match S with
            |none=>oI P N ops.toList ms g false (dA ls (iH i)) L (tK d o (M5 d o.op)) K D w.heap
            |some S=>oI P N ops.toList ms g false (dA ls (iH i)) ((i,S)::L) (tK d o (M5 d o.op)) K D w.heap) w.heap
          else False)
     else False
    |_,_=>False):=rfl
   rw[hc]at f;split at f
   ·rename_i o mi s hmi
    rw[bR]at s;cases htk:GS mi i ls ops.toList.length with
    |false=>rw[htk]at f;exact f.elim
    |true=>
     rw[htk,cond_true]at f;unfold GS at htk;simp only[bT,qL,Cr]at htk;obtain⟨⟨hun,hrd⟩,hfr⟩:=htk;have y:i<ops.size:=(cF.1 s).1;have q:i∈Region.ready .any ops listed:=(Kk hm z).2 ⟨mi,hmi,hun,hrd⟩;have M:=yX (ops:=ops) y hun;obtain⟨f',rfl⟩:∃f',fuel=f'+1:=⟨fuel-1,by omega⟩
     have C:o∈ops.toList:=aE (by rw[bR];exact s);have hcov:∀j,j<ops.size→ls.testBit j=true∨mi.fr.testBit j=true:=by
      intro j O;have h0:=bC hfr;have hpb:(zL (iH ops.toList.length)).testBit j=true:=by
        have:zL (iH ops.toList.length)=2^ops.toList.length-1:=rfl;rw[this,Nat.testBit_two_pow_sub_one];simpa using O
      have hand:(kN (dA ls mi.fr) (zL (iH ops.toList.length))).testBit j=((dA ls mi.fr).testBit j&&(zL (iH ops.toList.length)).testBit j):=jh _ _ j;rw[h0,hpb,Bool.and_true,pF]at hand;exact(Bool.or_eq_true_iff).1 hand.symm
     have T:∀j oj,ops[j]? =some oj→j≠i→listed.getD j true=false→j1 oj i=false→
        (∀d,o.dst=some d→d∉oj.looksAt ops)∧(∀d,o.dst=some d→oj.dst≠some d)∧(∀d,oj.dst=some d→d∉o.looksAt ops):=by
      intro j oj hoj hne hju hna;have O:j<ops.size:=(cF.1 hoj).1;rw[z.unlisted O]at hju;have hjm:j<ms.length:=by rw[hm.len];exact O
      have hmj:=ag hjm;rcases hcov j O with h|h
      · rw[h]at hju;cases hju
      · rcases hm.free i j mi _ hmi hmj h with h|h|h
        ·exact absurd h hne
        ·rw[hm.am j oj _ hoj hmj,hna]at h;cases h
        ·exact W2 hm s hoj hmi hmj h
     cases hw:jZ ops.toList d o with
     |none=>rw[hw]at f;exact f.elim
     |some b=>
      rw[hw]at f;have hwd:=oG hw B hd;cases b with
      |false=>
        obtain⟨D,H,F,G⟩:=vj (dv:=.u) f B hd rfl;have hy:YG P ops (fun _=>True) o undef a:=.inr ⟨hwd,rfl⟩
        refine GD hm s hm.nosel hnp f' L listed a w T p q hy trivial R ?_;refine wD _ L _ _ _ _ (fun x hx=>(aB.1 hx).elim (fun e=>.inr fun h=>by rw[e];trivial) .inl) ?_
        exact(X false _ _ _ D _ w _ f' H F G (I.put (hW o C) undef (Tame.refl w)) (z.put y) (p.put hm q) R).1 rfl (by omega)
      |true=>
        simp only at f;cases hq:yn P o.op with
        |false=>rw[hq]at f;exact f.elim
        |true=>
         rw[hq,cond_true]at f;obtain⟨v,S,hK,hS,hdv,V⟩:=Ea B f d hd;obtain⟨D,H,F,G⟩:=vj hK B hd hdv;have hfr':=I.put (hW o C) v (Tame.refl w);cases S with
         |none=>
           have hy:YG P ops (fun _=>True) o v a:=.inl ⟨hwd,fun w _=>V w trivial⟩
           refine GD hm s hm.nosel hnp f' L listed a w T p q hy trivial R ?_;refine wD _ L _ _ _ _ (fun x hx=>(aB.1 hx).elim (fun e=>.inr fun h=>by rw[e];trivial) .inl) ?_
           exact(X false _ _ _ D _ w _ f' H F G hfr' (z.put y) (p.put hm q) R).1 rfl (by omega)
         |some S=>
           have hy:YG P ops S o v a:=.inl ⟨hwd,fun w h=>V w h⟩
           refine GD hm s hm.nosel hnp f' L listed a w T p q hy hS R ?_;exact(X false _ _ _ D _ w _ f' H F G hfr' (z.put y) (p.put hm q) (fun x hx=>(aB.1 hx).elim (fun e=>by rw[e];exact hS) (R x))).1 rfl (by omega)
   ·exact f.elim
 |all l X=>
  intro m ls L d r a w listed fuel f B hd I z p R;cases m with
  |true=>exact f.elim
  |false=>
   refine⟨fun _ A=>?_,fun h=>by cases h⟩
   have hc:oI P N ops.toList ms (.all l) false ls L d K r w.heap=bif xC (nf ls ms 0) (En l)then oI P N ops.toList ms l true ls L d K r w.heap else False:=rfl;rw[hc]at f;cases hb:xC (nf ls ms 0) (En l)with
   |false=>rw[hb]at f;exact f.elim
   |true=>
    rw[hb,cond_true]at f;obtain⟨i,hi⟩:=TS f;rw[←zX hb]at hi;have hrd:=(nP hm z (j:=i)).2 hi;obtain⟨k,mm,hk,hki,J,_⟩:=(tX ls ms 0 i).1 hi;have y:i<ops.size:=by
     have:=(aG.1 hk).1;rw[hm.len]at this;omega
    have M:=yX (ops:=ops) y J;obtain⟨f',rfl⟩:∃f',fuel=f'+1:=⟨fuel-1,by omega⟩
    refine⟨fun h=>(by rw[h]at hrd;cases hrd),fun j O o s=>?_⟩
    have hj':=(nP hm z).1 O;exact(X true ls L d r a w listed f' f B hd I z p R).2 rfl A j (by rw[←zX hb];exact hj') hj' o s
 |pick i g more ih1 ih2=>
  intro m ls L d r a w listed fuel f B hd I z p R;cases m with
  |false=>exact f.elim
  |true=>
   refine⟨fun h=>(by cases h),fun _ A j O Z o s=>?_⟩
   have f:Tl P N ops.toList i L d r w.heap (fun L' d' D h'=>oI P N ops.toList ms g false (dA ls (iH i)) L' d' K D h')∧oI P N ops.toList ms more true ls L d K r w.heap:=f
   rcases aB.1 O with rfl|O
   ·exact one _ g ih1 ls L d r a w listed fuel f.1 B hd I z p A Z o s
   ·exact(ih2 true ls L d r a w listed fuel f.2 B hd I z p R).2 rfl A j O Z o s
 |last i g X=>
  intro m ls L d r a w listed fuel f B hd I z p R;cases m with
  |false=>exact f.elim
  |true=>
   refine⟨fun h=>(by cases h),fun _ A j O Z o s=>?_⟩
   have f:Tl P N ops.toList i L d r w.heap (fun L' d' D h'=>oI P N ops.toList ms g false (dA ls (iH i)) L' d' K D h'):=f
   have hji:j=i:=au.1 O;subst hji;exact one _ g X ls L d r a w listed fuel f B hd I z p A Z o s
 |lastT i g X=>
  intro m ls L d r a w listed fuel f B hd I z p R;cases m with
  |false=>exact f.elim
  |true=>
   refine⟨fun h=>(by cases h),fun _ A j O Z o s=>?_⟩
   have f:RN P N ops.toList ms i L d r w.heap (fun L' d' D h'=>oI P N ops.toList ms g false (dA ls (iH i)) L' d' K D h'):=f
   have hji:j=i:=au.1 O;subst hji;exact oneT _ g X ls L d r a w listed fuel f B hd I z p A Z o s
 |split t yes no ih1 ih2=>
  intro m ls L d r a w listed fuel f B hd I z p R;cases m with
  |true=>exact f.elim
  |false=>
   refine⟨fun _ A=>?_,fun h=>by cases h⟩
   have hc:oI P N ops.toList ms (.split t yes no) false ls L d K r w.heap=(match lL r t with
    |some (.bool b)=>CondP b (oI P N ops.toList ms yes false ls L ((t,.t)::d) K ((t,.bool true)::r) w.heap) (oI P N ops.toList ms no false ls L ((t,.f)::d) K ((t,.bool false)::r) w.heap)
    |_=>False):=rfl
   rw[hc]at f;split at f
   ·rename_i b hlk
    cases b with
    |true=>exact(ih1 false ls L _ _ a w listed fuel (f.yes rfl) (B.known hlk) (hd.known rfl) I z p R).1 rfl A
    |false=>exact(ih2 false ls L _ _ a w listed fuel (f.no rfl) (B.known hlk) (hd.known rfl) I z p R).1 rfl A
   ·exact f.elim
end Go.Lift
namespace Go.Lift
open Go
variable {P:Program} {ro:Option Nat} {n:Nat}
theorem KI{r:cV}:∀{l:List Nat} {r0:cV},Sf r l=some r0→∀t v,lL r0 t=some v→t∈l∧lL r t=some v
 | [],r0,h,t,v,hv=>by cases h;cases hv
 |s::l,r0,h,t,v,hv=>by
  have h:(match lL r s,Sf r l with|some v,some l=>some ((s,v)::l)|_,_=>none)=some r0:=h
  split at h
  ·rename_i u l' hu hl
   cases h;by_cases e:s=t
   ·subst e;rw[jB]at hv;cases hv;exact⟨aC ..,hu⟩
   ·rw[iJ u _ e]at hv
    have:=KI hl t v hv;exact⟨aV _ this.1,this.2⟩
  ·cases h
theorem Eh{m:Nat}{t:Nat}{v:Value}:∀{r:cV},lL (yZ m r) t=some v→m.testBit t=false∧lL r t=some v
 | [],h=>by cases h
 |(k,u)::r,h=>by
  have h:lL (bif tb m k then yZ m r else(k,u)::yZ m r) t=some v:=h;cases hk:tb m k with
  |true=>
   rw[hk]at h;have:=Eh h;by_cases e:k=t
   ·subst e;rw[Cr,this.1]at hk;cases hk
   ·rw[iJ u _ e];exact this
  |false=>
   rw[hk]at h;have h:lL ((k,u)::yZ m r) t=some v:=h;by_cases e:k=t
   ·subst e;rw[jB]at h⊢;rw[Cr]at hk;exact⟨hk,h⟩
   ·rw[iJ u _ e]at h⊢;exact Eh h
theorem DZ{t:Nat}:∀{l:List Oper},(UV l).testBit t=false→¬mY t l=true
 | [],_,h=>by cases h
 |o::l,hm,h=>by
  have hm:(dA (pa o) (UV l)).testBit t=false:=hm;rw[pF,nK]at hm;have h:(match o.dst with|some d=>bif bX d t then true else mY t l|none=>mY t l)=true:=h
  cases hd:o.dst with
  |none=>rw[hd]at h;exact DZ hm.2 h
  |some d=>
   rw[hd]at h;cases e:bX d t with
   |true=>have:=(zn o t).2 (by rw[hd,bC e]);rw[hm.1]at this;cases this
   |false=>simp only[e]at h;exact DZ hm.2 h
theorem NX{a b:Option Nat}{m:Nat}(h:aaP a b=some m):∃x y,a=some x∧b=some y∧m=dA x y:=by
 cases a<;>cases b<;>cases h
 exact⟨_,_,rfl,rfl,rfl⟩
theorem UU{t:Nat}(c:Code):∀{m:Nat},AD c=some m→m.testBit t=false→¬ig t c=true:=by
 induction c with
 |skip=>intro m _ _ h;cases h
 |region id ops dr=>intro m h hm d;cases h;exact DZ hm d
 |seq a b iha ihb=>
  intro m h hm d;obtain⟨x,y,hx,f,rfl⟩:=NX (show aaP (AD a) (AD b)=some m from h)
  rw[pF,nK]at hm;have d:(bif ig t a then true else ig t b)=true:=d;cases ha:ig t a with
  |true=>exact iha hx hm.1 ha
  |false=>rw[ha]at d;exact ihb f hm.2 d
 |cond c a b iha ihb=>
  intro m h hm d;obtain⟨x,y,hx,f,rfl⟩:=NX (show aaP (AD a) (AD b)=some m from h)
  rw[pF,nK]at hm;have d:(bif ig t a then true else ig t b)=true:=d;cases ha:ig t a with
  |true=>exact iha hx hm.1 ha
  |false=>rw[ha]at d;exact ihb f hm.2 d
 |block id b ih=>exact fun h hm=>ih h hm
 |loop b ih=>exact fun h hm=>ih h hm
 |rangeFunc _ _ _ _ _ _=>intro m h;cases h
 |scope b ih=>exact fun h hm=>ih h hm
 |_=>intro m _ _ h;cases h
theorem Agree.keep{N:Nat}{r g:cV}{a a':Act}{w w':World}{m:Nat}{c:Code}(h:Agree N r a)(hm:AD c=some m)(f:Fr (fun t=>ig t c=true) a w a' w')(i:Agree N g a'):Agree N (yZ m r) a':=
 ⟨i.size,fun t v hv=>by
  obtain⟨b,d⟩:=Eh hv
  rw[f.same t (UU c hm b)];exact h.look t v d⟩
theorem yO{a:St}{r:cV}{f:wR (Bi a)→Prop}(h:E5 a r f):∃t,GW r a=some (oA (Bi a) t)∧f t:=by
 unfold E5 at h;split at h
 ·rename_i vs hv
  obtain⟨t,rfl,b⟩:=uk h;exact⟨t,hv,b⟩
 ·exact h.elim
theorem Agree.zip{N:Nat}{r:cV}{a:Act}(h:Agree N r a):∀{st:St} {vs:List Value} {r0:cV},GW r st=some vs→Agree N r0 a→Agree N (oY st vs r0) a
 | [],vs,r0,_,h0=>by cases vs<;>exact h0
 |(i,k)::st,vs,r0,hv,h0=>by
  unfold GW at hv;split at hv
  ·rename_i v vs' h1 h2
   cases hv;have:=Agree.zip h h2 h0;refine⟨this.size,fun t u b=>?_⟩
   by_cases e:i=t
   ·subst e
    rw[show oY ((i,k)::st) (v::vs') r0=(i,v)::oY st vs' r0 from rfl,jB]at b;cases b
    exact h.look i v h1
   ·rw[show oY ((i,k)::st) (v::vs') r0=(i,v)::oY st vs' r0 from rfl,iJ v _ e]at b
    exact this.look t u b
  ·cases hv
theorem Ci{t:Nat}:∀{l:List Oper} {o:Oper},o∈l→o.dst=some t→mY t l=true
 | [],_,h,_=>by cases h
 |x::l,o,h,hd=>by
  have e:mY t (x::l)=(match x.dst with|some d=>bif bX d t then true else mY t l|none=>mY t l):=rfl
  rw[e];rcases aB.1 h with rfl|h
  ·rw[hd];simp only;rw[show bX t t=true from tO t];rfl
  ·have:=Ci h hd
   cases x.dst with
   |none=>exact this
   |some d=>
    simp only;cases bX d t with
    |true=>rfl
    |false=>exact this
def LWP(ro:Option Nat)(n:Nat)(P:Program)(c:Code)(Q:Exit→Act→World→Prop)(a:Act)(w:World):Prop:=
 ∀(b:Frame) (k:List Item) (cs:List Frame),b.roundOf=(FW ro).round→(FW ro).fn b.fn→(FW ro).room (cs.length+1+n)→
  ∃e a' w',Q e a' w'∧ArrivesIn (Machine.fenced P (FW ro)) P (lone (b.atR a (.code c:: .inLoop c::k)) cs w) b k cs e a' w'
theorem LWP.step{c:Code}{Q:Exit→Act→World→Prop}{a:Act}{w:World}(h:c.wpIn (FW ro) n P (Exit.then (LWP ro n P c Q) Q) a w):LWP ro n P c Q a w:=by
 intro b k cs j o p;obtain⟨e,i,m,g,d⟩:=h b (.inLoop c::k) cs j o p;cases e with
 |normal=>
  obtain⟨s,v,u,q,f⟩:=g b k cs j o p;exact⟨s,v,u,q,.of_steps (StepsIn.trans d (.one (fenced_calm o p rfl) stepR_inLoop)) f⟩
 |exit id=>exact⟨_,i,m,g,.pass (x:=.inLoop c) rfl (fun _ _=>.inl (by simp)) d⟩
 |goto l=>exact⟨_,i,m,g,.pass (x:=.inLoop c) rfl (fun _ _=>.inl (by simp)) d⟩
 |ret=>exact⟨_,i,m,g,.pass (x:=.inLoop c) rfl (fun _ _=>.inl (by simp)) d⟩
 |panic ch=>exact⟨_,i,m,g,.pass (x:=.inLoop c) rfl (fun _ _=>.inl (by simp)) d⟩
 |outgrown=>exact⟨_,i,m,g,.pass (x:=.inLoop c) rfl (fun _ _=>.inl (by simp)) d⟩
theorem LWP.loop{c:Code}{Q:Exit→Act→World→Prop}{a:Act}{w:World}(h:LWP ro n P c Q a w):(Code.loop c).wpIn (FW ro) n P Q a w:=by
 intro b k cs f g i;obtain⟨e,a',w',j,d⟩:=h b k cs f g i;exact⟨e,a',w',j,.of_steps (.one (fenced_calm g i rfl) stepR_loop) d⟩
theorem KZ(r:cV):DecOk [] r:=fun _=>.inl rfl
theorem Yi(ops:Array Oper)(ls:Nat):left ops ls≤ops.size:=by
 unfold left;exact Nat.le_trans (List.length_filter_le ..) (by simp)
theorem m7(f:P.follows .mixedOrders=true){N id:Nat}{ops:Array Oper}{g:Bool}{p:Ann}{K:cV→af→Prop}{r:cV}{a:Act}{w:World}{Q:Exit→Act→World→Prop}
  (b:D4 P N ops.toList g p K r w.heap)(i:Agree N r a)(s:∀c a w,¬Q (.panic c) a w)
  (k:∀r' a' w',Agree N r' a'→Fr (fun t=>mY t ops.toList=true) a w a' w'→K r' w'.heap→Q .normal a' w'):(Code.region id ops g).wpIn (FW ro) n P Q a w:=by
 have m:∀o∈ops.toList,∀d,o.dst=some d→mY d ops.toList=true:=fun o v d hd=>Ci v hd
 cases g with
 |false=>
  have key:∀ek,G4 P N ek ops.toList ops.toList [] K r w.heap→(Code.region id ops false).wpIn (FW ro) n P Q a w:=fun ek b=>by
   refine wpIn_region ?_;rw[List.range_eq_range',show ops.size=ops.toList.length from rfl]
   exact G3 m k ops.toList 0 rfl [] r a w b i (KZ r) (Fr.refl _ a w)
  unfold D4 at b;simp only at b;split at b
  ·exact key _ b
  ·exact key _ b
 |true=>
  unfold D4 at b;simp only at b;generalize RZ ops.toList=ms at b;cases hm:Gr ops.toList ms with
  |false=>rw[hm]at b;exact b.elim
  |true=>
   rw[hm,cond_true]at b;refine wpIn_region_any f (RD (ms:=ms) _ [] _ _ _ ?_);have u:Tame w {w with drawn:=w.drawn+1}:=⟨rfl,rfl,rfl⟩;have q:Fr (fun t=>mY t ops.toList=true) a w a {w with drawn:=w.drawn+1}:=⟨u,rfl,fun _ _=>rfl⟩
   refine(Ns (P8 hm) m k (fun e a w=>?_) _ false 0 [] [] r a {w with drawn:=w.drawn+1} _ ops.size b i (KZ r) q LsRel.start (fun j x _ h=>by rw[(LsRel.start (ops:=ops)).bit,gG]at h;cases h) (fun x hx=>by cases hx)).1 rfl (Yi ops 0)
   cases e with
   |panic ch=>exact .inr (s _ a w)
   |_=>exact .inl fun c hc=>by cases hc
theorem GB(t:Nat)(x y:Code):ig t (.seq x y)=(bif ig t x then true else ig t y):=rfl
theorem E1(t:Nat)(c:Operand)(x y:Code):ig t (.cond c x y)=(bif ig t x then true else ig t y):=rfl
theorem Mz{a b:Bool}:(bif a then true else b)=true↔a=true∨b=true:=by cases a<;>cases b<;>decide
theorem uQ(u:P.follows .mixedOrders=true){N:Nat}(c:Code):∀(D:Ann) (Kn:cV→af→Prop) (Kx:Ex→cV→af→Prop) (r:cV) (a:Act) (w:World) (Q:Exit→Act→World→Prop),
  mg P N c D Kn Kx r w.heap→Agree N r a→(∀S a w,¬Q (.panic S) a w)→
  (∀g a' w',Agree N g a'→Fr (fun t=>ig t c=true) a w a' w'→Kn g w'.heap→Q .normal a' w')→
  (∀i g a' w',Agree N g a'→Fr (fun t=>ig t c=true) a w a' w'→Kx (.exit i) g w'.heap→Q (.exit i) a' w')→
  (∀g a' w',Agree N g a'→Fr (fun t=>ig t c=true) a w a' w'→Kx .ret g w'.heap→Q .ret a' w')→
  c.wpIn (FW ro) n P Q a w:=by
 induction c with
 |skip=>
  intro D Kn Kx r a w Q j s _ z _ _;exact wpIn_skip (z r a w s (Fr.refl ..) j)
 |region id ops dr=>
  intro D Kn Kx r a w Q j s B z _ _;cases D with
  |reg keep inner=>
   have j:D4 P N ops.toList dr inner (fun g K=>match Sf g keep with|some r0=>Kn r0 K|none=>False) r w.heap:=j
   refine m7 u j s B fun g a' w' M X hk=>?_
   split at hk
   ·rename_i r0 hr0
    refine z r0 a' w' ⟨M.size,fun t v hv=>M.look t v (KI hr0 t v hv).2⟩ X hk
   ·exact hk.elim
  |nil=>exact m7 u (show D4 P N ops.toList dr (.nil) Kn r w.heap from j) s B z
  |node x y=>exact m7 u (show D4 P N ops.toList dr (.node x y) Kn r w.heap from j) s B z
  |join st x y=>exact m7 u (show D4 P N ops.toList dr (.join st x y) Kn r w.heap from j) s B z
  |loop st y=>exact m7 u (show D4 P N ops.toList dr (.loop st y) Kn r w.heap from j) s B z
  |draw d=>exact m7 u (show D4 P N ops.toList dr (.draw d) Kn r w.heap from j) s B z
  |kinds k v=>exact m7 u (show D4 P N ops.toList dr (.kinds k v) Kn r w.heap from j) s B z
  |rf ks x y=>exact m7 u (show D4 P N ops.toList dr (.rf ks x y) Kn r w.heap from j) s B z
 |seq x y ihx ihy=>
  intro D Kn Kx r a w Q j s B z hx G;have E:∀{a' w'},Fr (fun t=>ig t x=true) a w a' w'→Fr (fun t=>ig t (.seq x y)=true) a w a' w':=fun h=>h.mono fun t O=>by rw[GB,Mz];exact .inl O
  have C:∀{a' w' I H},Fr (fun t=>ig t x=true) a w a' w'→Fr (fun t=>ig t y=true) a' w' I H→Fr (fun t=>ig t (.seq x y)=true) a w I H:=
   fun h k=>(E h).trans (k.mono fun t O=>by rw[GB,Mz];exact .inr O)
  have plain:∀W R,mg P N x W (fun g K=>mg P N y R Kn Kx g K) Kx r w.heap→(Code.seq x y).wpIn (FW ro) n P Q a w:=fun W R j=>by
   refine wpIn_seq (ihx W _ Kx r a w _ j s (fun S a w=>B S a w) ?_ (fun i g a' w' q p o=>hx i g a' w' q (E p) o) (fun g a' w' q p o=>G g a' w' q (E p) o))
   intro r1 V w1 F A L;exact ihy R Kn Kx r1 V w1 Q L F B (fun g a' w' q p o=>z g a' w' q (C A p) o) (fun i g a' w' q p o=>hx i g a' w' q (C A p) o) (fun g a' w' q p o=>G g a' w' q (C A p) o)
  cases D with
  |join st W R=>
   have j:(match AD x with
      |none=>False
      |some m=>Join (T:=wR (Bi st)) (fun t K=>mg P N y R Kn Kx (oY st (oA (Bi st) t) (yZ m r)) K)
       fun J=>mg P N x W (fun g K=>E5 st g fun t=>J t K) Kx r w.heap):=j
   split at j
   ·exact j.elim
   ·rename_i m hm
    refine wpIn_seq (ihx W _ Kx r a w _ j.run s (fun S a w=>B S a w) ?_ (fun i g a' w' q p o=>hx i g a' w' q (E p) o) (fun g a' w' q p o=>G g a' w' q (E p) o))
    intro r1 V w1 F A L;obtain⟨t,hst,hs2⟩:=yO L;have ha2:Agree N (oY st (oA (Bi st) t) (yZ m r)) V:=F.zip hst (s.keep hm A F);exact ihy R Kn Kx _ V w1 Q hs2 ha2 B (fun g a' w' q p o=>z g a' w' q (C A p) o) (fun i g a' w' q p o=>hx i g a' w' q (C A p) o) (fun g a' w' q p o=>G g a' w' q (C A p) o)
  |_=>exact plain _ _ j
 |cond c x y ihx ihy=>
  intro D Kn Kx r a w Q j s B z hx G;have j:(match dV r c with
   |some (.bool t)=>CondP t (mg P N x D.l Kn Kx r w.heap) (mg P N y D.r Kn Kx r w.heap)
   |_=>False):=j
  have E:∀{a' w'},Fr (fun t=>ig t x=true) a w a' w'→Fr (fun t=>ig t (.cond c x y)=true) a w a' w':=fun h=>h.mono fun t O=>by rw[E1,Mz];exact .inl O
  have C:∀{a' w'},Fr (fun t=>ig t y=true) a w a' w'→Fr (fun t=>ig t (.cond c x y)=true) a w a' w':=fun h=>h.mono fun t O=>by rw[E1,Mz];exact .inr O
  split at j
  ·rename_i t O
   refine wpIn_cond_split (lM s O) (fun e=>?_) (fun e=>?_)
   ·exact ihx _ Kn Kx r a w Q (j.yes e) s B (fun g a' w' q p o=>z g a' w' q (E p) o) (fun i g a' w' q p o=>hx i g a' w' q (E p) o) (fun g a' w' q p o=>G g a' w' q (E p) o)
   ·exact ihy _ Kn Kx r a w Q (j.no e) s B (fun g a' w' q p o=>z g a' w' q (C p) o) (fun i g a' w' q p o=>hx i g a' w' q (C p) o) (fun g a' w' q p o=>G g a' w' q (C p) o)
  ·exact j.elim
 |block id b ih=>
  intro D Kn Kx r a w Q j s B z hx G;refine wpIn_block (ih D Kn _ r a w _ j s (fun S a w=>B S a w) z (fun i g a' w' q p o=>?_) G)
  simp only[Exit.inBlock]at o⊢;cases hi:bX i id with
  |true=>
   rw[hi,cond_true]at o;rw[if_pos (bC hi)];exact z g a' w' q p o
  |false=>
   rw[hi,cond_false]at o;rw[if_neg (fun e=>by rw[e,tO]at hi;cases hi)]
   exact hx i g a' w' q p o
 |loop b ih=>
  intro D Kn Kx r a w Q j s B z hx G;cases D with
  |loop st R=>
   have j:(match AD b with
      |none=>False
      |some m=>E5 st r fun t0=>LoopP (T:=wR (Bi st)) (fun self t K=>mg P N b R (fun g h''=>E5 st g fun t'=>self t' h'') Kx (oY st (oA (Bi st) t) (yZ m r)) K) t0 w.heap):=j
   split at j
   ·exact j.elim
   ·rename_i m hm
    obtain⟨t0,Y,hl⟩:=yO j;have h0:=hl.run (fun t K=>∀a' w',w'.heap=K→Agree N (oY st (oA (Bi st) t) (yZ m r)) a'→Fr (fun t=>ig t b=true) a w a' w'→LWP ro n P b Q a' w') (fun t K hF a' w' hw M X=>by
     subst hw
     refine LWP.step (ih R _ Kx _ a' w' _ hF M (fun S a w=>B S a w) ?_ (fun i g I H q p o=>hx i g I H q (X.trans p) o) (fun g I H q p o=>G g I H q (X.trans p) o))
     intro r1 V w1 F A L
     obtain⟨t1,Z,hk1⟩:=yO L
     exact hk1 V w1 rfl (F.zip Z (s.keep hm (X.trans A) F)) (X.trans A))
    exact LWP.loop (h0 a w rfl (s.zip Y (s.keep hm (Fr.refl _ a w) s)) (Fr.refl _ a w))
  |_=>exact j.elim
 |rangeFunc f params assign body _ _=>intro D Kn Kx r a w Q j;exact j.elim
 |exit id=>
  intro D Kn Kx r a w Q j s B z hx G;exact wpIn_exit (hx id r a w s (Fr.refl ..) j)
 |scope b _=>intro D Kn Kx r a w Q j;exact j.elim
 |label l=>
  intro D Kn Kx r a w Q j s B z hx G;exact wpIn_label (z r a w s (Fr.refl ..) j)
 |goto l=>intro D Kn Kx r a w Q j;exact j.elim
 |ret=>
  intro D Kn Kx r a w Q j s B z hx G;exact wpIn_ret (G r a w s (Fr.refl ..) j)
 |refuse why=>intro D Kn Kx r a w Q j;exact j.elim
end Go.Lift
namespace Go.Lift
open Go
variable {P:Program}
theorem rD{N:Nat}{r:cV}{a:Act}{w:World}(c:Agree N r a):∀{l:List ResultVar} {K:List Value→Prop},o8 P r w.heap l K→
  ∃vs,(∀g:ResultVar→Sem Value,(∀t,g (.tmp t)=pure (a.tmps.getD t undef))→(∀x t,g (.cell x t)=do loadVar t (←asAddr (a.tmps.getD x undef)))→(l.mapM g).run P w=.ok vs w)∧K vs
 | [],K,h=>⟨[],fun g _ _=>by rw[List.mapM_nil];rfl,h⟩
 | .tmp t::l,K,h=>by
  unfold o8 at h;split at h
  ·rename_i v hv
   obtain⟨vs,i,j⟩:=rD c h;refine⟨v::vs,fun g d f=>?_,j⟩
   rw[List.mapM_cons,d];simp only[Sem.run_bind,Sem.run_pure,Result.andThen_ok];rw[i g d f];simp only[Result.andThen_ok,c.look t v hv]
  ·exact h.elim
 | .cell x t::l,K,h=>by
  unfold o8 at h;split at h
  ·rename_i v hv
   obtain⟨u,S,o,m,n⟩:=Fa h;obtain⟨vs,i,j⟩:=rD c o;refine⟨u::vs,fun g d f=>?_,j⟩
   rw[List.mapM_cons,f];have k:(do loadVar t (←asAddr (a.tmps.getD x undef)):Sem Value).run P w=.ok u w:=by
    rw[c.look x v hv];unfold NC at h;cases v with
    |pointer p=>cases p with
     |none=>exact h.elim
     |some b=>exact n w m
    |_=>exact h.elim
   simp only[Sem.run_bind]at k⊢;rw[k];simp only[Result.andThen_ok];rw[i g d f];simp only[Sem.run_pure,Result.andThen_ok]
  ·exact h.elim
theorem Ki(ks:List Kind)(t:wR ks):(if h:(oA ks t).toArray.size=1 then(oA ks t).toArray[0]else Value.tuple (oA ks t).toArray)=FU ks (oA ks t):=by
 match ks,t with
 | [],t=>rfl
 | [k],t=>rfl
 |k::l::ks,(x,t)=>
  have:(oA (k::l::ks) (x,t)).length=(k::l::ks).length:=vi _ _;rw[dif_neg (by simp only[df,this,aH];omega)];rfl
theorem xX:∀(vs:List Value) (i t:Nat) (v:Value),lL (rN i vs) t=some v→i≤t∧vs[t-i]? =some v
 | [],i,t,v,h=>by cases h
 |u::vs,i,t,v,h=>by
  by_cases e:i=t
  ·subst e
   rw[show rN i (u::vs)=(i,u)::rN (i+1) vs from rfl,jB]at h
   cases h;exact⟨Nat.le_refl _,by simp⟩
  ·rw[show rN i (u::vs)=(i,u)::rN (i+1) vs from rfl,iJ u _ e]at h
   obtain⟨b,a⟩:=xX vs (i+1) t v h;refine⟨by omega,?_⟩;rw[show t-i=(t-(i+1))+1 by omega,List.getElem?_cons_succ]
   exact a
theorem SH(d:P.follows .mixedOrders=true){n:Nat}{fn:Func}{c:Code}{o:Ann}{args:List Value}{ks:List Kind}{K:wR ks→af→Prop}{w:World}(m:args.length≤fn.ntmps)(s:Kd P fn c o args ks K w.heap):
  c.wpIn (FW none) n P (bodyPost P fn fun e w'=>Tame w w'∧∃t:wR ks,e=.returned (FU ks (oA ks t))∧K t w'.heap) {tmps:=args.toArray++pg (fn.ntmps-args.toArray.size) undef,defers:= []} w:=by
 have q:Agree fn.ntmps (rN 0 args) {tmps:=args.toArray++pg (fn.ntmps-args.toArray.size) undef,defers:= []}:=by
  refine⟨by simp;omega,fun t v hv=>?_⟩
  obtain⟨_,i⟩:=xX args 0 t v hv;simp only[fC]at i;have b:=(aG.1 i).1;simp[Array.getElem?_append,b];rw[ag b]at i;cases i;rfl
 have fin:∀j a' (w':World),Agree fn.ntmps j a'→Fr (fun t=>ig t c=true) {tmps:=args.toArray++pg (fn.ntmps-args.toArray.size) undef,defers:= []} w a' w'→
   o8 P j w'.heap fn.results.toList (fun vs=>F0 ks vs fun t=>K t w'.heap)→
   a'.defers= []∧∃v,(results fn a'.tmps).run P w'=.ok v w'∧(Tame w w'∧∃t:wR ks,Ending.returned v=.returned (FU ks (oA ks t))∧K t w'.heap):=fun j a' w' k f p=>by
  obtain⟨vs,g,hd⟩:=rD k p;obtain⟨t,rfl,u⟩:=uk hd;refine⟨f.defers,_,?_,f.tame,t,rfl,u⟩;unfold results;rw[ox];simp only[Sem.run_bind,Sem.run_map];rw[g _ (fun _=>rfl) (fun _ _=>rfl)]
  simp only[Result.andThen_ok,Sem.run_pure];rw[←Ki]
 exact uQ d c o _ _ _ _ w _ s q (fun y a w h=>h.2.2.elim fun _ h=>by cases h.1) fin (fun _ _ _ _ _ _ h=>h.elim) fin
theorem HE.intro(d:P.follows .mixedOrders=true){f:FuncId}{fn:Func}{c:Code}{i:Ann}{args:List Value}{ks:List Kind}{K:wR ks→af→Prop}{h:af}
  (j:P.funcs[f]? =some fn) (g:fn.body=some c) (a:∀(args:Array Value) (w:World),(callFunc f args).run P w=.ok (.enter f args) w) (b:args.length≤fn.ntmps)
  (k:Kd P fn c i args ks K h):HE P f args ks K h:=by
 refine⟨fun w m=>⟨a,?_⟩⟩
 subst m;exact(callsIn_wide (n:=0)).1 (callsIn_of_wp (F:=FW none) j g trivial (SH d b k) rfl)
theorem HD.intro(d:P.follows .mixedOrders=true){f:FuncId}{fn:Func}{c:Code}{j:Ann}{args:List Value}{ks:List Kind}{K:af→Prop}{h:af}
  (k:P.funcs[f]? =some fn) (g:fn.body=some c) (a:∀(args:Array Value) (w:World),(callFunc f args).run P w=.ok (.enter f args) w) (b:args.length≤fn.ntmps)
  (p:Kd P fn c j args ks (fun _ h'=>K h') h):HD P f args K h:=by
 refine fun w s=>⟨a,fun n=>?_⟩
 subst s;exact(callsDIn_of_wp (F:=FW none) k g trivial (SH d b p) rfl).mono fun e u w' ⟨i,q,t,m,o⟩=>⟨i,q,⟨_,m⟩,o⟩
theorem HC.intro(d:P.follows .mixedOrders=true){f:FuncId}{fn:Func}{c:Code}{i:Ann}{args:List Value}{ks:List Kind}{K:wR ks→af→Prop}{h:af}
 (j:P.funcs[f]? =some fn) (g:fn.body=some c) (a:∀(args:Array Value) (w:World),(callFunc f args).run P w=.ok (.enter f args) w) (b:args.length≤fn.ntmps)
 (k:Kd P fn c i args ks K h):HC P f args ks K h:=(HE.intro d j g a b k).hc
theorem QR{N:Nat}{args:List Value}(c:args.length≤N):Agree N (rN 0 args) {tmps:=args.toArray++pg (N-args.toArray.size) undef,defers:= []}:=by
 refine⟨by simp;omega,fun t v hv=>?_⟩
 obtain⟨_,b⟩:=xX args 0 t v hv;simp only[fC]at b;have a:=(aG.1 b).1;simp[Array.getElem?_append,a];rw[ag a]at b;cases b;rfl
theorem Ny{N:Nat}{fn:Func}{ks:List Kind}{K:wR ks→af→Prop}{c:cV}{a':Act}{w':World}(b:Agree N c a')(d:o8 P c w'.heap fn.results.toList (fun vs=>F0 ks vs fun t=>K t w'.heap)):
  ∃t:wR ks,(results fn a'.tmps).run P w'=.ok (FU ks (oA ks t)) w'∧K t w'.heap:=by
 obtain⟨vs,a,hd⟩:=rD b d;obtain⟨t,rfl,f⟩:=uk hd;refine⟨t,?_,f⟩;unfold results;rw[ox];simp only[Sem.run_bind,Sem.run_map];rw[a _ (fun _=>rfl) (fun _ _=>rfl)]
 simp only[Result.andThen_ok,Sem.run_pure];rw[←Ki]
end Go.Lift
namespace Go.Lift
open Go
variable {P:Program}
abbrev Ht(D:Nat):Deferred:={target:=.collected D,args:= #[]}
abbrev q9:Mk→Deferred
 | .it D=>Ht D
 | .call f vs=>{target:=.fn (.func f) #[],args:= #[]++vs.toArray}
theorem Ib{N:Nat}:∀{ps:List Nat} {vs:List Value} {r:cV} {tmps:Array Value},Bs N ps=true→Agree N r {tmps:=tmps,defers:= []}→
  Agree N (Xx ps vs r) {tmps:=(ps.zip vs).foldl (fun t x=>t.setIfInBounds x.1 x.2) tmps,defers:= []}
 | [],vs,r,tmps,_,h=>by cases vs<;>exact h
 |i::ps,[],r,tmps,_,h=>h
 |i::ps,v::vs,r,tmps,a,h=>by
  have a:(Am i N&&Bs N ps)=true:=a;rw[bT]at a;have b:i<N:=by simpa using a.1
  have:=h.put i v b;exact Ib (tmps:=tmps.setIfInBounds i v) a.2 this
theorem GR(w:World)(o:Obj):Tame w (w.alloc o):=⟨rfl,rfl,rfl⟩
theorem pQ(w:World)(b:Nat)(o:Obj):Tame w (w.putObj b o):=⟨rfl,rfl,rfl⟩
theorem NK(w:World)(b:Nat)(o:Obj):(w.putObj b o).heap=w.heap.setIfInBounds b o:=rfl
theorem SO(ps:Array Nat)(vs:List Value)(t:Array Value):(ps.zip vs.toArray).foldl (fun t (x:Nat×Value)=>t.setIfInBounds x.1 x.2) t=(ps.toList.zip vs).foldl (fun t x=>t.setIfInBounds x.1 x.2) t:=by
 obtain⟨l⟩:=ps;simp
theorem FV(B:P.follows .mixedOrders=true){n N:Nat}{g:Operand}{ps:Array Tmp}{assign body:Code}{aa ab:Ann}{ks:List Kind}{fv:Value}{r:cV}{a:Act}{w:World}{Q:Exit→Act→World→Prop}
  {KN:af→Prop}{KX:Nat→af→Prop}{KR:af→Prop}(Y:Bs N ps.toList=true)(G:ps.toList.length=ks.length)(hg:dV r g=some fv)(ha:Agree N r a)
  (hR:RangeP P fv ks w.heap (fun Kl bz x k h'=>PB P N ps.toList ks assign body (.node aa ab) r (w.heap.size+1) Kl bz x k h') KN KX KR)
  (hn:∀w',Tame w w'→KN w'.heap→Q .normal {a with defers:=Ht w.heap.size::a.defers} w')
  (hx:∀i w',Tame w w'→KX i w'.heap→Q (.exit i) {a with defers:=Ht w.heap.size::a.defers} w')
  (hr:∀w',Tame w w'→KR w'.heap→Q .ret {a with defers:=Ht w.heap.size::a.defers} w'):(Code.rangeFunc g ps assign body).wpIn (FW none) n P Q a w:=by
 refine wpIn_rangeFunc fun fn _=>?_
 obtain⟨lo,m⟩:∃lo:LoopState→Option Ex→Obj,lo=fun s j=>.loop {state:=s,pending:=Md j,fn,tmps:=a.tmps,params:=ps,assign,body,defers:=w.heap.size}:=⟨_,rfl⟩
 have hj:∀j:Option Ex,(Md j).isNone=j.isNone:=fun j=>by rcases j with _|⟨_|_⟩<;>rfl
 obtain⟨f,first,cap,rfl,he⟩:=hR.run lo (fun s j=>⟨_,by rw[m]⟩) (fun x h' K q z=>by
  refine⟨.inr ⟨_,rfl,⟨fun J hw1=>?_⟩⟩⟩
  subst hw1
  rw[m]at q
  have hy:=run_yield (P:=P) (args:=(oA ks x).toArray) q (by simp only[df,vi];rw[←G];rfl)
  refine⟨_,_,_,_,hy,fun c cs=>?_⟩
  have hA:Agree N (Xx ps.toList (oA ks x) r) {tmps:=(ps.zip (oA ks x).toArray).foldl (fun t (x:Nat×Value)=>t.setIfInBounds x.1 x.2) a.tmps,defers:= []}:=by
   rw[SO]
   exact Ib Y ⟨ha.size,ha.look⟩
  have p:∀j:Option Ex,∀W:World,Tame J W→(W.heap[w.heap.size+1]? =some (lo .busy none)∧K j.isNone (W.heap.setIfInBounds (w.heap.size+1) (lo (if j.isNone then .ready else .done) j)))→
    ∃v w',(Instr.endRound (w.heap.size+1) (Md j)).run P W=.ok v w'∧∃b,Ending.returned v=.returned (.bool b)∧Tame J w'∧K b w'.heap:=by
   rintro j W H ⟨h1,S⟩
   rw[m]at h1
   have:=run_endRound (P:=P) (Md j) h1
   refine⟨_,_,this,_,rfl,H.trans (pQ ..),?_⟩
   rw[m]at S
   rw[hj]
   exact S
  have:=roundIn_of_wpIn (F:=FW none) (n:=0) (P:=P) (l:=w.heap.size+1) (f:=fn) (assign:=assign) (body:=body) (w:=J)
   (tmps:=(ps.zip (oA ks x).toArray).foldl (fun t (x:Nat×Value)=>t.setIfInBounds x.1 x.2) a.tmps)
   (R:=fun e w'=>∃b,e=.returned (.bool b)∧Tame J w'∧K b w'.heap) trivial (by
    refine uQ (ro:=some (w.heap.size+1)) B assign aa _ _ _ _ J _ z hA (fun ch a w h=>h) ?_ (fun i r' a' w' _ _ h=>h.elim) (fun r' a' w' _ _ h=>h.elim)
    rintro r2 a2 T Z E ⟨y,D⟩
    rw[m]at y
    refine⟨_,run_beginRound y rfl,?_⟩
    have L:∀o,o=lo .busy none→T.heap.setIfInBounds (w.heap.size+1) o=T.heap.setIfInBounds (w.heap.size+1) (lo .busy none):=fun o ho=>by rw[ho]
    refine uQ (ro:=some (w.heap.size+1)) B body ab (fun _ S=>_) (fun e _ S=>_) _ _ (T.putObj (w.heap.size+1) _) _ (by
     rw[NK,L _ (by rw[m])];exact D) Z (fun ch a w h=>h) ?_ ?_ ?_
    ·rintro r3 a3 I M u O
     exact p none I ((E.tame.trans (pQ ..)).trans u.tame) O
    ·rintro i r3 a3 I M u O
     exact p (some (.exit i)) I ((E.tame.trans (pQ ..)).trans u.tame) O
    ·rintro r3 a3 I M u O
     exact p (some .ret) I ((E.tame.trans (pQ ..)).trans u.tame) O)
  obtain⟨e,w',⟨b,rfl,H,hK⟩,X⟩:=this.2 c cs (fun d h=>by simp[FW]at h)
  exact⟨b,w',H,hK,X.steps⟩)
 have A:=he.run ((w.alloc (.deferred (some []))).alloc (lo .ready none)) rfl;refine⟨w.heap.size+1,[Ht w.heap.size],(w.alloc (.deferred (some []))).alloc (lo .ready none),{target:=.fn (.func f) cap,args:=first++ #[.func (.yield (w.heap.size+1)) #[] #[]]},(w.alloc (.deferred (some []))).alloc (lo .ready none),f,
  first++ #[.func (.yield (w.heap.size+1)) #[] #[]]++cap,(w.alloc (.deferred (some []))).alloc (lo .ready none),?_,?_,fun _ _=>trivial,?_,fun h=>by simp[FW]at h,?_⟩
 ·rw[m];exact run_enterLoop_outer fn a.tmps ps assign body
 ·have V:=lM ha hg
  simp[resolve,V,Deferred.ofValue,Sem.run_pure];rfl
 ·simp[invoke,A.1]
 ·refine H3 ?_
  have e:(first.toList++ [Value.func (.yield (w.heap.size+1)) #[] #[]]++cap.toList).toArray=first++ #[.func (.yield (w.heap.size+1)) #[] #[]]++cap:=by apply dG;simp
  rw[←e];refine A.2.mono ?_;rintro e w' ⟨H,t,rfl,s,j,X,q,p⟩;have ht':Tame w w':=((GR w _).trans (GR _ _)).trans H;rw[m]at q;refine⟨_,_,run_endLoop q X,?_⟩;have C:∀o,Tame w (w'.putObj (w.heap.size+1) o):=fun o=>ht'.trans (pQ ..)
  have L:∀o,o=lo .exhausted j→(w'.putObj (w.heap.size+1) o).heap=w'.heap.setIfInBounds (w.heap.size+1) (lo .exhausted j):=fun o ho=>by rw[ho];rfl
  rcases j with _|⟨i|_⟩
  ·exact hn _ (C _) (by rw[L _ (by rw[m])];exact p)
  ·exact wpIn_exit (hx i _ (C _) (by rw[L _ (by rw[m])];exact p))
  ·exact wpIn_ret (hr _ (C _) (by rw[L _ (by rw[m])];exact p))
theorem HU{n N id d:Nat}{ops:Array Oper}{m o:Oper}{x:Operand}{f:FuncId}{as:List Operand}{vs:List Value}{v:Value}{r:cV}{a:Act}{w:World}{Q:Exit→Act→World→Prop}(b:HW ops.toList=some (m,o,x,d,f,as))(hv:dV r x=some v)(k:d<N)(i:po ((d,v)::r) as=some vs)(j:Agree N r a)
  (s:∀a',Agree N ((d,v)::r) a'→a'.defers=q9 (.call f vs)::a.defers→Q .normal a' w):(Code.region id ops false).wpIn (FW none) n P Q a w:=by
 unfold HW at b;split at b
 ·rename_i m' o' hl
  split at b
  ·rename_i x' d' c h1 h2 h3 h4 h5 h6
   split at b
   ·rename_i f' hc
    cases b;have z:ops[0]? =some m:=by rw[←bR,hl];rfl
    have p:ops[1]? =some o:=by rw[←bR,hl];rfl
    have es:ops.size=2:=by rw[←Array.length_toList,hl];rfl
    have w0:∀y,Region.wanted m y=true:=fun y=>by simp[Region.wanted,h2]
    have q:∀y,Region.wanted o y=true:=fun y=>by simp[Region.wanted,h6]
    refine wpIn_region ?_;rw[es,show dh 2= [0,1]from rfl]
    simp only[wpOpsIn,z,p,w0,q,if_true];refine BigFrame.wpIn_move x h1 ?_;rw[lM j hv,h3];have g:=j.put d v k;refine⟨fun _ _=>trivial,?_⟩
    have er:((Oper.semAt (FW none).round (a.put (some d) v).eval o).run P w)=.ok (.defer (q9 (.call f vs))) w:=by
     show((execOp (a.put (some d) v).eval o).run P w)=_
     have A:=nO g i;have u:c.args.map (a.put (some d) v).eval=vs.toArray:=by rw[←A];apply dG;simp
     simp only[execOp,h4,resolve,hc,u];simp[Act.eval,Deferred.ofValue,q9]
    rw[er,Oper.uponIn_defer,h5];exact s _ ⟨g.size,g.look⟩ rfl
   ·cases b
  ·cases b
 ·cases b
theorem LL(H:P.follows .mixedOrders=true){n N:Nat}(c:Code):∀(s:Ann) (Kn:List Mk→cV→af→Prop) (Kx:Ex→List Mk→cV→af→Prop) (ms:List Mk) (r:cV) (a:Act) (w:World) (Q:Exit→Act→World→Prop),
  Bm P N c s Kn Kx ms r w.heap→Agree N r a→a.defers=ms.map q9→(∀K a w,¬Q (.panic K) a w)→
  (∀p q a' w',Agree N q a'→a'.defers=p.map q9→Tame w w'→Kn p q w'.heap→Q .normal a' w')→
  (∀i p q a' w',Agree N q a'→a'.defers=p.map q9→Tame w w'→Kx (.exit i) p q w'.heap→Q (.exit i) a' w')→
  (∀p q a' w',Agree N q a'→a'.defers=p.map q9→Tame w w'→Kx .ret p q w'.heap→Q .ret a' w')→
  c.wpIn (FW none) n P Q a w:=by
 have plain:∀(c:Code) (s:Ann) (Kn:List Mk→cV→af→Prop) (Kx:Ex→List Mk→cV→af→Prop) (ms:List Mk) (r:cV) (a:Act) (w:World) (Q:Exit→Act→World→Prop),
  mg P N c s (Kn ms) (fun e=>Kx e ms) r w.heap→Agree N r a→a.defers=ms.map q9→(∀K a w,¬Q (.panic K) a w)→
  (∀p q a' w',Agree N q a'→a'.defers=p.map q9→Tame w w'→Kn p q w'.heap→Q .normal a' w')→
  (∀i p q a' w',Agree N q a'→a'.defers=p.map q9→Tame w w'→Kx (.exit i) p q w'.heap→Q (.exit i) a' w')→
  (∀p q a' w',Agree N q a'→a'.defers=p.map q9→Tame w w'→Kx .ret p q w'.heap→Q .ret a' w')→
  c.wpIn (FW none) n P Q a w:=by
  intro c s Kn Kx ms r a w Q j u hd C A hx B;exact uQ H c s _ _ r a w Q j u C (fun q a' w' D z E=>A ms q a' w' D (z.defers.trans hd) z.tame E) (fun i q a' w' D z E=>hx i ms q a' w' D (z.defers.trans hd) z.tame E)
   (fun q a' w' D z E=>B ms q a' w' D (z.defers.trans hd) z.tame E)
 induction c with
 |skip=>intro s Kn Kx ms r a w Q j;exact plain _ s Kn Kx ms r a w Q j
 |region id ops dr=>
  intro s Kn Kx ms r a w Q j u hd C A hx B;have j:(match HW ops.toList with
   |none=>mg P N (.region id ops dr) s (Kn ms) (fun e=>Kx e ms) r w.heap
   |some (_,_,x,d,f,as)=>bif dr then False else match dV r x with
    |some v=>bif Am d N then(match po ((d,v)::r) as with|some vs=>Kn (.call f vs::ms) ((d,v)::r) w.heap|none=>False)else False
    |none=>False):=j
  split at j
  ·exact plain _ s Kn Kx ms r a w Q j u hd C A hx B
  ·rename_i m o x d f as he
   cases dr with
   |true=>exact j.elim
   |false=>
    rw[cond_false]at j;split at j
    · rename_i v hv
      cases hb:Am d N with
      |false=>rw[hb]at j;exact j.elim
      |true=>
       rw[hb,cond_true]at j;split at j
       ·rename_i vs hvs
        refine HU he hv (by simpa using hb) hvs u fun a' R W=>A (.call f vs::ms) _ a' w R ?_ ⟨rfl,rfl,rfl⟩ j
        rw[W,hd];rfl
       ·exact j.elim
    · exact j.elim
 |seq x y ihx ihy=>
  intro s Kn Kx ms r a w Q j u hd C A hx B;have j:(bif (bif uc x then true else uc y)then Bm P N x s.l (fun ms q F=>Bm P N y s.r Kn Kx ms q F) Kx ms r w.heap
   else mg P N (.seq x y) s (Kn ms) (fun e=>Kx e ms) r w.heap):=j
  cases hb:(bif uc x then true else uc y)with
  |false=>rw[hb]at j;exact plain _ _ _ _ _ _ _ _ _ j u hd C A hx B
  |true=>
   rw[hb,cond_true]at j;refine wpIn_seq (ihx s.l _ Kx ms r a w _ j u hd (fun K a w=>C K a w) ?_ hx B)
   intro M r1 Y w1 S V I X;exact ihy s.r Kn Kx M r1 Y w1 Q X S V C (fun p q a' w' D z E G=>A p q a' w' D z (I.trans E) G) (fun i p q a' w' D z E G=>hx i p q a' w' D z (I.trans E) G)
    (fun p q a' w' D z E G=>B p q a' w' D z (I.trans E) G)
 |cond c x y ihx ihy=>
  intro s Kn Kx ms r a w Q j u hd C A hx B;have j:(bif (bif uc x then true else uc y)then
    (match dV r c with
     |some (.bool t)=>CondP t (Bm P N x s.l Kn Kx ms r w.heap) (Bm P N y s.r Kn Kx ms r w.heap)
     |_=>False)
   else mg P N (.cond c x y) s (Kn ms) (fun e=>Kx e ms) r w.heap):=j
  cases hb:(bif uc x then true else uc y)with
  |false=>rw[hb]at j;exact plain _ _ _ _ _ _ _ _ _ j u hd C A hx B
  |true=>
   rw[hb,cond_true]at j;split at j
   ·rename_i t J
    exact wpIn_cond_split (lM u J) (fun e=>ihx _ Kn Kx ms r a w Q (j.yes e) u hd C A hx B) (fun e=>ihy _ Kn Kx ms r a w Q (j.no e) u hd C A hx B)
   ·exact j.elim
 |block id b ih=>
  intro s Kn Kx ms r a w Q j u hd C A hx B;have j:(bif uc b then Bm P N b s Kn (fun e ms q F=>match e with
    | .exit i=>bif bX i id then Kn ms q F else Kx (.exit i) ms q F
    | .ret=>Kx .ret ms q F) ms r w.heap
   else mg P N (.block id b) s (Kn ms) (fun e=>Kx e ms) r w.heap):=j
  cases hb:uc b with
  |false=>rw[hb]at j;exact plain _ _ _ _ _ _ _ _ _ j u hd C A hx B
  |true=>
   rw[hb,cond_true]at j;refine wpIn_block (ih s Kn _ ms r a w _ j u hd (fun K a w=>C K a w) A (fun i p q a' w' D z E G=>?_) B)
   simp only[Exit.inBlock]at G⊢;cases hi:bX i id with
   |true=>
    rw[hi,cond_true]at G;rw[if_pos (bC hi)];exact A p q a' w' D z E G
   |false=>
    rw[hi,cond_false]at G;rw[if_neg (fun e=>by rw[e,tO]at hi;cases hi)]
    exact hx i p q a' w' D z E G
 |loop b ih=>intro s Kn Kx ms r a w Q j;exact plain _ s Kn Kx ms r a w Q j
 |rangeFunc g ps assign body _ _=>
  intro s Kn Kx ms r a w Q j u hd C A hx B;cases s with
  |rf ks aa ab=>
   have j:(bif Bs N ps.toList&&bX ps.toList.length ks.length then
    (match dV r g with
     |some fv=>RangeP P fv ks w.heap (fun Kl Z x k F=>PB P N ps.toList ks assign body (.node aa ab) r (w.heap.size+1) Kl Z x k F)
       (fun F=>Kn (.it w.heap.size::ms) r F) (fun i F=>Kx (.exit i) (.it w.heap.size::ms) r F) (fun F=>Kx .ret (.it w.heap.size::ms) r F)
     |none=>False)else False):=j
   cases hb:(Bs N ps.toList&&bX ps.toList.length ks.length)with
   |false=>rw[hb]at j;exact j.elim
   |true=>
    rw[hb,cond_true]at j;rw[bT]at hb;split at j
    · rename_i fv hfv
      have T:Agree N r {a with defers:=Ht w.heap.size::a.defers}:=⟨u.size,u.look⟩;have O:({a with defers:=Ht w.heap.size::a.defers}:Act).defers=(.it w.heap.size::ms).map q9:=by rw[List.map_cons,←hd]
      exact FV H hb.1 (bC hb.2) hfv u j (fun w' J L=>A _ r _ w' T O J L) (fun i w' J L=>hx i _ r _ w' T O J L) (fun w' J L=>B _ r _ w' T O J L)
    · exact j.elim
  |_=>exact j.elim
 |exit id=>intro s Kn Kx ms r a w Q j;exact plain _ s Kn Kx ms r a w Q j
 |scope b _=>intro s Kn Kx ms r a w Q j;exact j.elim
 |label l=>intro s Kn Kx ms r a w Q j;exact plain _ s Kn Kx ms r a w Q j
 |goto l=>intro s Kn Kx ms r a w Q j;exact j.elim
 |ret=>intro s Kn Kx ms r a w Q j;exact plain _ s Kn Kx ms r a w Q j
 |refuse why=>intro s Kn Kx ms r a w Q j;exact j.elim
theorem xt{fn:Func}{ks:List Kind}{K:wR ks→af→Prop}{N:Nat}{n:Nat}{r:cV}{a:Act}{w0:World}(c:Agree N r a):∀(ms:List Mk) (w:World),Tame w0 w→
  Nr P ms (fun g=>o8 P r g fn.results.toList fun vs=>F0 ks vs fun t=>K t g) w.heap→
  LeavesInM (FW none) n P fn a.tmps (fun e w'=>Tame w0 w'∧∃t:wR ks,e=.returned (FU ks (oA ks t))∧K t w'.heap) (ms.map q9) .returning w
 | [],w,ht,h=>by
  obtain⟨t,b,m⟩:=Ny c h;exact⟨_,b,ht,t,rfl,m⟩
 | .it D::ms,w,ht,h=>by
  refine⟨by simp,.inl ⟨D,_,rfl,run_takeDeferred h.1,?_⟩⟩;exact xt c ms (w.putObj D (.deferred none)) (ht.trans (pQ ..)) h.2
 | .call f vs::ms,w,ht,h=>by
  obtain⟨hc,hd⟩:=h w rfl;refine⟨by simp,.inr ⟨(fun e=>by cases e),.func f,#[],f,vs.toArray,rfl,?_,fun _ _=>trivial,CallsDIn.mono (hd (n-1)) fun e u w' ⟨i,d,⟨v,j⟩,k⟩=>?_⟩⟩
  ·have:=hc vs.toArray w
   simpa[invoke]using this
  ·subst i j
   exact xt c ms w' (ht.trans d) k
theorem HE.introM(m:P.follows .mixedOrders=true){f:FuncId}{fn:Func}{c:Code}{q:Ann}{args:List Value}{ks:List Kind}{K:wR ks→af→Prop}{h:af}
  (u:P.funcs[f]? =some fn) (s:fn.body=some c) (j:∀(args:Array Value) (w:World),(callFunc f args).run P w=.ok (.enter f args) w) (k:args.length≤fn.ntmps)
  (v:PC P fn c q args ks K h):HE P f args ks K h:=by
 refine⟨fun w z=>⟨j,?_⟩⟩
 subst z;refine(callsIn_wide (n:=0)).1 (callsIn_of_wp_marks (F:=FW none) u s trivial ?_ rfl);refine wpIn_mono (Q:=fun e a w'=>(∀o,e≠ .panic o)∧bodyPostM (FW none) 0 P fn (fun e w'=>Tame w w'∧∃t:wR ks,e=.returned (FU ks (oA ks t))∧K t w'.heap) e a w') ?_ fun e a w h=>h.2
 refine LL m c q _ _ [] _ _ w _ v (QR k) rfl (fun o a w h=>h.1 o rfl) ?_ (fun _ _ _ _ _ _ _ _ h=>h.elim) ?_
 ·intro d y a' w' i b g p
  refine⟨(fun _ e=>by cases e),?_⟩
  show LeavesInM _ _ _ _ _ _ a'.defers _ _
  rw[b];exact xt i d w' g p
 ·intro d y a' w' i b g p
  refine⟨(fun _ e=>by cases e),?_⟩
  show LeavesInM _ _ _ _ _ _ a'.defers _ _
  rw[b];exact xt i d w' g p
theorem HC.introM(d:P.follows .mixedOrders=true){f:FuncId}{fn:Func}{c:Code}{i:Ann}{args:List Value}{ks:List Kind}{K:wR ks→af→Prop}{h:af}
 (j:P.funcs[f]? =some fn) (g:fn.body=some c) (a:∀(args:Array Value) (w:World),(callFunc f args).run P w=.ok (.enter f args) w) (b:args.length≤fn.ntmps)
 (k:PC P fn c i args ks K h):HC P f args ks K h:=(HE.introM d j g a b k).hc
end Go.Lift
namespace Go.Lift
open Go
def AppP(z:Option (List Value))(sz b:Nat)(t:TypeId)(a:Option Addr)(sl d c:Nat)(xs:List Value)(h:af)(K:SliceV→af→Prop):Prop:=
 (sl+c≤d→vo h a (sl*sz) xs∧cH xs=true∧K ⟨a,sl+c,d⟩ (gC h a (sl*sz) xs))∧
 (d<sl+c→∃old z',SRow h a (sl*sz) old∧z=some z'∧0<b∧Builtin.nextslicecap (sl+c) d*b≤2^48∧
  ∀nc,sl+c≤nc→K ⟨some (aI h),sl+c,nc⟩ (hnew h (old++xs++eh (nc-(sl+c)) z') t))
end Go.Lift
