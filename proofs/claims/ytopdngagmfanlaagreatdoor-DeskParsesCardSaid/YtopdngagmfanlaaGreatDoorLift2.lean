/- A part of the proof that the named laws of this program answer true, whatever the input. -/
import Derived.Test.YtopdngagmfanlaaGreatDoorLift1
import Derived.BigFrameIn
open Array renaming getD_eq_getD_getElem?→dg,getElem?_toList→bq,getElem?_setIfInBounds_ne→eU,replicate→jG,getElem?_eq_some_iff→cq,getElem?_eq_getElem→gD,getElem?_eq_none→lj,mapM_eq_mapM_toList→nq,ext'→cQ
open Bool renaming eq_false_iff→pS,or_eq_true→fh,and_eq_true→aJ,not_eq_true'→pR,or_eq_false_iff→ik
open Go.Result renaming andThen_ok→aC
open Go.Sem renaming run_bind→aU,run_pure→bK
open List renaming mem_of_getElem?→be,length_cons→ay,mem_cons→ar,getElem?_cons_zero→eT,getElem?_eq_getElem→ax,any_eq_true→cj,getElem?_eq_some_iff→bd,mem_cons_of_mem→aI,mem_cons_self→aN,range→eI,filter_cons→dF,mem_singleton→aQ,size_toArray→cP
open Nat renaming blt→zW,beq→av,eq_of_beq_eq_true→aX,land→jW,lor→cX,testBit_and→lz,zero_testBit→ni,succ→fX,zero_add→aP,beq_refl→sP,lt_or_ge→cC,pred→zD,sub_zero→eK
open Option renaming some→bp
namespace Go.Lift
open Go
variable {P:Program} {ro:Option Nat} {n:Nat}
def FW(ro:Option Nat):Fence:={fn:=fun _=>True,depth:=none,alive:=false,round:=ro}
theorem SX(m:Machine):m.fenced P (FW ro):=by
 intro g _;exact⟨fun h=>by simp[FW]at h,.inl trivial,fun _ _=>trivial,fun d h=>by simp[FW]at h⟩
theorem A0{m a:Machine}(h:Steps P m a):StepsIn (Machine.fenced P (FW ro)) P m a:=(StepsIn.of_steps h).mono fun m _=>SX m
theorem Hz{k:Nat}{f:FuncId}{args:Array Value}{w:World}{R:Ending→World→Prop}(h:Calls P f args w R):CallsIn (FW ro) k P f args w R:=by
 refine⟨trivial,fun cs _=>?_⟩
 obtain⟨e,w',fr,d,hc,a,b⟩:=h cs;refine⟨e,w',fr,d,?_,a,b⟩;cases e with
 |returned v=>exact A0 hc
 |panicked c=>exact A0 hc
 |outgrown=>exact hc
theorem qN{o:Oper}{a:Act}{w:World}{K:WK}{next:Act→World→Prop}{Q:Exit→Act→World→Prop}(hd:∀c,o.op≠ .defer c)(h:N7 P (execOp a.eval o) K w)
  (j:∀v w',Tame w w'→K v w'.heap→next (a.put o.dst v) w'):o.wpIn (FW ro) n P a w next Q:=by
 refine⟨fun _ _=>trivial,?_⟩
 rw[Oper.semAt_eq _ _ _ hd];rcases h with⟨v,w',i,g,d⟩|⟨w',i,g,d⟩|⟨f,args,i,hc⟩|⟨l,fn,tmps,assign,body,i,hc⟩
 ·rw[i];exact j v w' g d
 ·rw[i];exact j undef w' g d
 ·rw[i]
  refine⟨fun h=>by simp[FW]at h,Hz (hc.mono ?_)⟩
  rintro e w' ⟨g,v,rfl,d⟩;exact j v w' g d
 ·rw[i]
  refine⟨fun h=>by simp[FW]at h,trivial,fun c cs _=>?_⟩
  obtain⟨b,w',g,d,k⟩:=hc c cs;exact⟨.returned (.bool b),w',j _ w' g d,A0 k⟩
theorem uA{N:Nat}{o:Oper}{v:Value}{r:cI}{K:cI→Prop}{a:Act}{d:wL}{dv:DV}(h:Bo N o v r K)(c:Agree N r a)(hd:DecOk d r)(f:IW dv v):
  ∃r',K r'∧Agree N r' (a.put o.dst v)∧DecOk (sK d o dv) r':=by
 unfold Bo at h;unfold sK;cases ho:o.dst with
 |none=>rw[ho]at h;exact⟨r,h,c,hd⟩
 |some t=>
  rw[ho]at h;simp only at h;cases hb:zW t N with
  |false=>rw[hb]at h;exact h.elim
  |true=>
   rw[hb]at h;have b:t<N:=by simpa using hb
   refine⟨_,h,c.put t v b,fun s=>?_⟩
   by_cases e:t=s
   ·subst e
    have:sf ((t,dv)::d) t=dv:=by simp[sf]
    rw[this];exact .inr ⟨v,iU t v r,f⟩
   ·have g:sf ((t,dv)::d) s=sf d s:=by
     have:av t s=false:=pS.2 fun i=>e (aX i)
     show(bif av t s then dv else sf d s)=_
     rw[this];rfl
    rw[g,gX v r e];exact hd s
theorem EC{ek:Option (Kind×Kind)}{o:Op}{r:cI}{K:RK}{h:ad}(a:Dy P ek o r K h):∀c,o≠ .defer c:=by
 intro c e;subst e;exact a
theorem yg{o:Oper}{r:cI}{K:WK}{h:ad}(a:Ia P o r K h):∀c,o.op≠ .defer c:=by
 intro c e;unfold Ia at a;rw[e]at a;exact a
theorem Zt{d:wL}{o:Op}(h:xH P o=false):Ma d o=.x:=by
 cases o<;>first|rfl|(simp[xH]at h)
theorem Sb{N:Nat}{ek:Option (Kind×Kind)}{o:Oper}{r:cI}{K:cI→ad→Prop}{a:Act}{w:World}{d:wL}{next:Act→World→Prop}{Q:Exit→Act→World→Prop}
  (g:YA P N ek o r K w.heap)(i:Agree N r a)(hd:DecOk d r)
  (p:∀v w' b,Tame w w'→K b w'.heap→Agree N b (a.put o.dst v)→DecOk (sK d o (Ma d o.op)) b→next (a.put o.dst v) w'):o.wpIn (FW ro) n P a w next Q:=by
 unfold YA at g;cases hq:xH P o.op with
 |true=>
  rw[hq,cond_true]at g;obtain⟨v,S,j,s,m,q⟩:=DL i g d hd;refine qN (K:=fun u h'=>u=v∧h'=w.heap) (EC g) (.inl ⟨v,w,q w s,Tame.refl w,rfl,rfl⟩) ?_
  rintro u w' k ⟨rfl,t⟩;obtain⟨b,e,c,f⟩:=uA j i hd m;exact p u w' b k (by rw[t];exact e) c f
 |false=>
  rw[hq,cond_false]at g;refine qN (yg g) (DD i g) ?_;intro v w' k j;obtain⟨b,e,c,f⟩:=uA j i hd (dv:=Ma d o.op) (by rw[Zt hq];trivial);exact p v w' b k e c f
theorem JT{t:Array Value}{i:Nat}{b:Bool}(h:t.getD i undef=.bool b):t[i]? =some (.bool b):=by
 rw[dg]at h;cases hc:t[i]? with
 |none=>rw[hc]at h;simp[undef]at h
 |some v=>rw[hc]at h;simp at h;rw[h]
theorem P9{t:Array Value}{i:Nat}(h:t.getD i undef=undef):t[i]? =none∨t[i]? =some undef:=by
 rw[dg]at h;cases hc:t[i]? with
 |none=>exact .inl rfl
 |some v=>rw[hc]at h;simp at h;rw[h];exact .inr rfl
theorem nK{N:Nat}{ops:Array Oper}{d:wL}{o:Oper}{b:Bool}{r:cI}{a:Act}(h:jn ops.toList d o=some b)(n:Agree N r a)(hd:DecOk d r):
  Region.wanted o (yielded ops a.tmps)=b:=by
 unfold jn at h;unfold Region.wanted;cases hg:o.guard with
 |none=>rw[hg]at h;simp only[bp.injEq]at h;exact h
 |some g=>
  obtain⟨j,c⟩:=g;rw[hg]at h;simp only[bq]at h;simp only;cases hj:ops[j]? with
  |none=>rw[hj]at h;cases h
  |some oj=>
   rw[hj]at h;simp only at h;cases ht:oj.dst with
   |none=>rw[ht]at h;cases h
   |some t=>
    rw[ht]at h;simp only at h;have p:yielded ops a.tmps j=(match a.tmps[t]? with|some (.bool b)=>some b|_=>none):=by
     unfold yielded;simp[hj,ht];rfl
    rw[p];rcases hd t with hx|⟨v,m,k⟩
    ·rw[hx]at h;cases h
    ·have i:=n.look t v m
     cases hdl:sf d t with
     |x=>rw[hdl]at h;cases h
     |t=>
      rw[hdl]at h k;simp only[bp.injEq]at h;subst h;have:v=.bool true:=k;subst this;rw[JT i];cases c<;>rfl
     |f=>
      rw[hdl]at h k;simp only[bp.injEq]at h;subst h;have:v=.bool false:=k;subst this;rw[JT i];cases c<;>rfl
     |u=>
      rw[hdl]at h k;simp only[bp.injEq]at h;subst h;have:v=undef:=k;subst this;rcases P9 i with e|e<;>rw[e]<;>cases c<;>rfl
structure Fr(W:Nat→Prop)(a0:Act)(w0:World)(a:Act)(w:World):Prop where
 tame:Tame w0 w
 defers:a.defers=a0.defers
 same:∀t,¬W t→a.tmps.getD t undef=a0.tmps.getD t undef
theorem Fr.refl(W:Nat→Prop)(a:Act)(w:World):Fr W a w a w:=⟨Tame.refl w,rfl,fun _ _=>rfl⟩
theorem Fr.put{W:Nat→Prop}{f a:Act}{g w w':World}(h:Fr W f g a w){o:Oper}(j:∀d,o.dst=some d→W d)(v:Value)(i:Tame w w'):Fr W f g (a.put o.dst v) w':=by
 refine⟨h.tame.trans i,?_,fun t b=>?_⟩
 ·cases ho:o.dst<;>simp[Act.put,h.defers]
 ·cases ho:o.dst with
  |none=>exact h.same t b
  |some d=>
   have c:d≠t:=fun e=>b (e▸j d ho)
   rw[←h.same t b];simp[Act.put,eU c]
theorem Fr.trans{W:Nat→Prop}{a c g:Act}{d e f:World}(h:Fr W a d c e)(k:Fr W c e g f):Fr W a d g f:=
 ⟨h.tame.trans k.tame,k.defers.trans h.defers,fun t b=>(k.same t b).trans (h.same t b)⟩
theorem Fr.mono{W W':Nat→Prop}{b a:Act}{c w:World}(h:Fr W b c a w)(f:∀t,W t→W' t):Fr W' b c a w:=
 ⟨h.tame,h.defers,fun t d=>h.same t fun e=>d (f t e)⟩
theorem DecOk.known{d:wL}{r:cI}(h:DecOk d r){t:Nat}{dv:DV}{v:Value}(b:IW dv v):DecOk ((t,dv)::d) ((t,v)::r):=fun s=>by
 by_cases e:t=s
 ·subst e
  have:sf ((t,dv)::d) t=dv:=by simp[sf]
  rw[this];exact .inr ⟨v,iU t v r,b⟩
 ·have c:sf ((t,dv)::d) s=sf d s:=by
   have:av t s=false:=pS.2 fun a=>e (aX a)
   show(bif av t s then dv else sf d s)=_
   rw[this];rfl
  rw[c,gX v r e];exact h s
theorem F9{N:Nat}{ek:Option (Kind×Kind)}{ops:Array Oper}{o:Oper}{i:Nat}{d:wL}{r:cI}{a:Act}{w:World}{b:Bool}{K:wL→cI→ad→Prop}{next:Act→World→Prop}{Q:Exit→Act→World→Prop}
  (hi:ops[i]? =some o) (s:jn ops.toList d o=some b) (j:Agree N r a) (hd:DecOk d r)
  (m:match b with
   |true=>YA P N ek o r (K (sK d o (Ma d o.op))) w.heap
   |false=>Bo N o undef r fun c=>K (sK d o .u) c w.heap)
  (k:∀v w' d' c,Tame w w'→K d' c w'.heap→Agree N c (a.put o.dst v)→DecOk d' c→next (a.put o.dst v) w'):
  wpOpIn (FW ro) n P ops Q i next a w:=by
 unfold wpOpIn;rw[hi];simp only[nK s j hd];cases b with
 |true=>exact Sb m j hd fun v w' c q p e f=>k v w' _ c q p e f
 |false=>
  obtain⟨c,g,e,f⟩:=uA (dv:=.u) m j hd rfl;exact⟨fun _ _=>trivial,k undef w _ c (Tame.refl w) g e f⟩
theorem Sa{N:Nat}{ek:Option (Kind×Kind)}{ops:List Oper}{o:Oper}{os:List Oper}{d:wL}{K:cI→ad→Prop}{r:cI}{h:ad}:Gy P N ek ops (o::os) d K r h=
 (match jn ops d o with
 |some true=>YA P N ek o r (fun a h'=>Gy P N ek ops os (sK d o (Ma d o.op)) K a h') h
 |some false=>Bo N o undef r fun a=>Gy P N ek ops os (sK d o .u) K a h
 |none=>match G8 ops o with
  |none=>False
  |some t=>match kJ r t with
   |some (.bool b)=>CondP b
    (Ji P N ek ops o ((t,.t)::d) ((t,.bool true)::r) h fun d' a h'=>Gy P N ek ops os d' K a h')
    (Ji P N ek ops o ((t,.f)::d) ((t,.bool false)::r) h fun d' a h'=>Gy P N ek ops os d' K a h')
   |_=>False):=rfl
theorem Jd{N:Nat}{ek:Option (Kind×Kind)}{ops:Array Oper}{o:Oper}{i:Nat}{d:wL}{r:cI}{a:Act}{w:World}{K:wL→cI→ad→Prop}{next:Act→World→Prop}{Q:Exit→Act→World→Prop}
  (hi:ops[i]? =some o) (e:Agree N r a) (hd:DecOk d r) (c:Ji P N ek ops.toList o d r w.heap K)
  (f:∀v w' d' r',Tame w w'→K d' r' w'.heap→Agree N r' (a.put o.dst v)→DecOk d' r'→next (a.put o.dst v) w'):
  wpOpIn (FW ro) n P ops Q i next a w:=by
 unfold Ji at c;cases hw:jn ops.toList d o with
 |none=>rw[hw]at c;exact c.elim
 |some b=>rw[hw]at c;exact F9 (ek:=ek) hi hw e hd (by cases b<;>exact c) f
theorem Gx{N:Nat}{ek:Option (Kind×Kind)}{ops:Array Oper}{W:Nat→Prop}(s:∀o∈ops.toList,∀d,o.dst=some d→W d){m:Act}{q:World}{K:cI→ad→Prop}{Q:Exit→Act→World→Prop}
  (k:∀r a w,Agree N r a→Fr W m q a w→K r w.heap→Q .normal a w):
  ∀(l:List Oper) (i:Nat),ops.toList.drop i=l→∀(d:wL) (r:cI) (a:Act) (w:World),Gy P N ek ops.toList l d K r w.heap→Agree N r a→DecOk d r→Fr W m q a w→
   wpOpsIn (FW ro) n P ops Q (List.range' i l.length) a w
 | [],i,_,d,r,a,w,hs,ha,hd,hf=>k r a w ha hf hs
 |o::os,i,hdr,d,r,a,w,hs,ha,hd,hf=>by
  have hi:ops[i]? =some o:=by
   rw[←bq];have:(ops.toList.drop i)[0]? =some o:=by rw[hdr];rfl
   simpa using this
  have f:o∈ops.toList:=be (by rw[bq];exact hi);have e:ops.toList.drop (i+1)=os:=by rw[←List.tail_drop,hdr];rfl
  rw[ay,List.range'_succ,wpOpsIn_cons];rw[Sa]at hs;have go:∀v w' d' c,Tame w w'→Gy P N ek ops.toList os d' K c w'.heap→Agree N c (a.put o.dst v)→DecOk d' c→wpOpsIn (FW ro) n P ops Q (List.range' (i+1) os.length) (a.put o.dst v) w':=
   fun v w' d' c p u g j=>Gx s k os (i+1) e d' c _ w' u g j (hf.put (s o f) v p)
  cases hw:jn ops.toList d o with
  |some b=>
   rw[hw]at hs;exact F9 (ek:=ek) (K:=fun d' c h'=>Gy P N ek ops.toList os d' K c h') hi hw ha hd (by cases b<;>exact hs) go
  |none=>
   rw[hw]at hs;simp only at hs;split at hs
   ·exact hs.elim
   ·rename_i t p
    split at hs
    ·rename_i b hb
     cases b with
     |true=>exact Jd hi (ha.known hb) (hd.known (dv:=.t) rfl) (hs.yes rfl) go
     |false=>exact Jd hi (ha.known hb) (hd.known (dv:=.f) rfl) (hs.no rfl) go
    ·exact hs.elim
end Go.Lift
namespace Go.Lift
open Go
theorem B4(m i:Nat):tb m i=m.testBit i:=by
 have h:jW (Nat.shiftRight m i) 1=(m>>>i)&&&1:=rfl;unfold tb;rw[h,Nat.testBit_eq_decide_div_mod_eq,Nat.and_one_is_mod,Nat.shiftRight_eq_div_pow];cases hm:decide (m/2^i%2=1)with
 |true=>rw[of_decide_eq_true hm];rfl
 |false=>
  have a:=of_decide_eq_false hm;have:m/2^i%2=0:=by omega
  rw[this];rfl
theorem oI(a b i:Nat):(cX a b).testBit i=(a.testBit i||b.testBit i):=Nat.testBit_or a b i
theorem Bt(i j:Nat):(gT i).testBit j=decide (i=j):=Nat.testBit_two_pow
theorem D9{a b:Nat}(h:av (jW a b) 0=true)(t:Nat)(d:a.testBit t=true)(e:b.testBit t=true):False:=by
 have c:=aX h;have:(jW a b).testBit t=(a.testBit t&&b.testBit t):=lz a b t;rw[c,d,e]at this;simp at this
theorem Xn{a b:Nat}(h:av (jW a b) a=true)(t:Nat)(d:a.testBit t=true):b.testBit t=true:=by
 have c:=aX h;have:(jW a b).testBit t=(a.testBit t&&b.testBit t):=lz a b t;rw[c,d]at this;simpa using this.symm
theorem AC(i:Nat):∀l:List Edge,(m6 l).testBit i=l.any fun e=>av e.on i&&Region.binds .any e
 | []=>ni i
 |e::l=>by
  have a:=AC i l;have hc:m6 (e::l)=bif Region.binds .any e then cX (gT e.on) (m6 l)else m6 l:=rfl;rw[hc,List.any_cons,←a];cases hb:Region.binds .any e with
  |true=>
   rw[cond_true,oI,Bt,Bool.and_true];congr 1
   cases hd:av e.on i with
   |true=>simpa using aX hd
   |false=>rw[decide_eq_false_iff_not];intro b;rw[b]at hd;simp at hd
  |false=>simp
theorem CL(o:Oper)(i:Nat):(m6 o.after.toList).testBit i=jq o i:=AC i o.after.toList
theorem B2(t:Nat):∀l:List Operand,(mg l).testBit t=true↔Operand.tmp t∈l
 | []=>by simp[show mg []=0 from rfl]
 |o::l=>by
  have a:=B2 t l;cases o with
  |tmp u=>
   have hc:mg (.tmp u::l)=cX (gT u) (mg l):=rfl;rw[hc,oI,Bt,fh,a,ar];simp[eq_comm]
  |const v=>
   have hc:mg (.const v::l)=mg l:=rfl;rw[hc,a,ar];simp
  |global v=>
   have hc:mg (.global v::l)=mg l:=rfl;rw[hc,a,ar];simp
  |func v=>
   have hc:mg (.func v::l)=mg l:=rfl;rw[hc,a,ar];simp
theorem yW(o:Oper)(t:Nat):(oq o).testBit t=true↔o.dst=some t:=by
 unfold oq;cases o.dst with
 |none=>simp
 |some d=>simp[Bt]
theorem Il(ops:Array Oper)(o:Oper)(t:Nat):(oN ops.toList o).testBit t=true↔t∈o.looksAt ops:=by
 unfold oN Oper.looksAt;rw[oI,fh,B2,List.mem_append,List.mem_filterMap];refine or_congr ⟨fun h=>⟨_,h,rfl⟩,?_⟩ ?_
 ·rintro⟨x,hx,b⟩
  cases x<;>simp at b
  subst b;exact hx
 ·cases hg:o.guard with
  |none=>simp
  |some g=>
   obtain⟨j,a⟩:=g;simp only[bq];cases hj:ops[j]? with
   |none=>simp
   |some oj=>simp[yW]
variable {P:Program} {ro:Option Nat} {n:Nat} {ops:Array Oper} {Q:Exit→Act→World→Prop}
structure MsOk(ops:Array Oper)(ms:List DM):Prop where
 am:∀(i:Nat) (o:Oper) (m:DM),ops[i]? =some o→ms[i]? =some m→∀j,m.am.testBit j=jq o j
 lk:∀(i:Nat) (o:Oper) (m:DM),ops[i]? =some o→ms[i]? =some m→∀t,m.lk.testBit t=true↔t∈o.looksAt ops
 ds:∀(i:Nat) (o:Oper) (m:DM),ops[i]? =some o→ms[i]? =some m→∀t,m.ds.testBit t=true↔o.dst=some t
 len:ms.length=ops.size
 free:∀(i j:Nat) (m k:DM),ms[i]? =some m→ms[j]? =some k→m.fr.testBit j=true→j=i∨k.am.testBit i=true∨Ea m k=true
 nosel:∀(i:Nat) (o:Oper),ops[i]? =some o→(∀cs b,o.op≠ .select cs b)∧(∀c,o.op≠ .defer c)
theorem Cn(ops:List Oper):∀(l:List Oper) (ms:List DM),yu ops l ms=true→ms.length=l.length∧∀(i:Nat) (o:Oper) (m:DM),l[i]? =some o→ms[i]? =some m→
  m.am=m6 o.after.toList∧m.lk=oN ops o∧m.ds=oq o
 | [],[],_=>⟨rfl,fun i o m h=>by simp at h⟩
 | [],_::_,h=>by cases h
 |o::l,[],h=>by cases h
 |o::l,m::ms,h=>by
  have hc:yu ops (o::l) (m::ms)=(av (m6 o.after.toList) m.am&&av (oN ops o) m.lk&&av (oq o) m.ds&&yu ops l ms):=rfl;rw[hc]at h;simp only[aJ]at h;obtain⟨⟨⟨d,e⟩,f⟩,j⟩:=h;obtain⟨k,c⟩:=Cn ops l ms j;refine⟨by simp[k],fun i b g a hm=>?_⟩
  cases i with
  |zero=>
   simp only[eT,bp.injEq]at a hm;subst a;subst hm;exact⟨(aX d).symm,(aX e).symm,(aX f).symm⟩
  |succ i=>exact c i b g (by simpa using a) (by simpa using hm)
theorem JV(i:Nat)(m:DM):∀(l:List DM) (j0:Nat),JW i m l j0=true→∀(j:Nat) (k:DM),l[j]? =some k→m.fr.testBit (j0+j)=true→j0+j=i∨k.am.testBit i=true∨Ea m k=true
 | [],j0,_,j,k,hk,_=>by simp at hk
 |x::l,j0,h,j,k,hk,hb=>by
  have hc:JW i m (x::l) j0=((!(tb m.fr j0)||av j0 i||tb x.am i||Ea m x)&&JW i m l (fX j0)):=rfl
  rw[hc]at h;simp only[aJ,fh,pR,B4]at h;cases j with
  |zero=>
   simp only[eT,bp.injEq]at hk;subst hk;simp only[Nat.add_zero]at hb⊢;rcases h.1 with((a|a)|a)|a
   ·rw[a]at hb;cases hb
   ·exact .inl (aX a)
   ·exact .inr (.inl a)
   ·exact .inr (.inr a)
  |succ j=>
   have:=JV i m l (j0+1) h.2 j k (by simpa using hk) (by rw[show j0+1+j=j0+(j+1) by omega];exact hb)
   rw[show j0+1+j=j0+(j+1) by omega]at this
   exact this
theorem EK(a:List DM):∀(l:List DM) (i0:Nat),Cw a l i0=true→∀(i:Nat) (m:DM),l[i]? =some m→JW (i0+i) m a 0=true
 | [],i0,_,i,m,hm=>by simp at hm
 |x::l,i0,h,i,m,hm=>by
  have hc:Cw a (x::l) i0=(JW i0 x a 0&&Cw a l (fX i0)):=rfl;rw[hc,aJ]at h;cases i with
  |zero=>simp only[eT,bp.injEq]at hm;subst hm;exact h.1
  |succ i=>
   have:=EK a l (i0+1) h.2 i m (by simpa using hm);rw[show i0+1+i=i0+(i+1) by omega]at this
   exact this
theorem JB:∀(l:List Oper),Nh l=true→∀o∈l,(∀cs b,o.op≠ .select cs b)∧(∀c,o.op≠ .defer c)
 | [],_,o,a=>by cases a
 |x::l,h,o,a=>by
  simp only[Nh,aJ]at h;rcases ar.1 a with rfl|a
  ·refine⟨fun cs b e=>?_,fun c e=>?_⟩
   ·rw[e]at h;cases h.1
   ·rw[e]at h;cases h.1
  ·exact JB l h.2 o a
theorem PM{ms:List DM}(h:FX ops.toList ms=true):MsOk ops ms:=by
 have hc:FX ops.toList ms=(yu ops.toList ops.toList ms&&Cw ms ms 0&&Nh ops.toList):=rfl;rw[hc]at h;simp only[aJ]at h;obtain⟨⟨c,d⟩,e⟩:=h;obtain⟨g,b⟩:=Cn ops.toList ops.toList ms c;refine⟨fun i o m a hm j=>?_,fun i o m a hm t=>?_,fun i o m a hm t=>?_,by simpa using g,fun i j m k hm f n=>?_,fun i o a=>?_⟩
 ·rw[(b i o m (by simpa using a) hm).1,CL]
 ·rw[(b i o m (by simpa using a) hm).2.1,Il]
 ·rw[(b i o m (by simpa using a) hm).2.2,yW]
 ·have:=EK ms ms 0 d i m hm
  rw[aP]at this;have:=JV i m ms 0 this j k f (by rwa [aP]);rwa [aP]at this
 ·exact JB _ e o (be (by rw[bq];exact a))
theorem VQ{ms:List DM}(hm:MsOk ops ms){i j:Nat}{c a:Oper}{g f:DM}(hi:ops[i]? =some c) (k:ops[j]? =some a) (b:ms[i]? =some g) (e:ms[j]? =some f) (h:Ea g f=true):
  (∀d,c.dst=some d→d∉a.looksAt ops)∧(∀d,c.dst=some d→a.dst≠some d)∧(∀d,a.dst=some d→d∉c.looksAt ops):=by
 unfold Ea at h;rw[aJ]at h;refine⟨fun d hd m=>?_,fun d hd n=>?_,fun d hd m=>?_⟩
 ·exact D9 h.1 d ((hm.ds i c g hi b d).2 hd) (by rw[oI,(hm.lk j a f k e d).2 m,Bool.true_or])
 ·exact D9 h.1 d ((hm.ds i c g hi b d).2 hd) (by rw[oI,(hm.ds j a f k e d).2 n,Bool.or_true])
 ·exact D9 h.2 d ((hm.ds j a f k e d).2 hd) ((hm.lk i c g hi b d).2 m)
structure LsRel(ops:Array Oper)(ls:Nat)(listed:Array Bool):Prop where
 size:listed.size=ops.size
 bit:∀j,listed.getD j false=ls.testBit j
theorem LsRel.start:LsRel ops 0 (jG ops.size false):=⟨by simp,fun j=>by
 rw[ni,dg]
 by_cases h:j<ops.size<;>simp[h]⟩
theorem LsRel.put{ls:Nat}{listed:Array Bool}(h:LsRel ops ls listed){i:Nat}(hi:i<ops.size):LsRel ops (cX ls (gT i)) (listed.setIfInBounds i true):=by
 refine⟨by simp[h.size],fun j=>?_⟩
 rw[oI,Bt,←h.bit];by_cases e:i=j
 ·subst e;simp[h.size,hi]
 ·simp[e,eU e]
theorem LsRel.unlisted{ls:Nat}{listed:Array Bool}(h:LsRel ops ls listed){i:Nat}(hi:i<ops.size):listed.getD i true=ls.testBit i:=by
 rw[←h.bit];have:i<listed.size:=by rw[h.size];exact hi
 simp[this]
theorem Jo{ms:List DM}(hm:MsOk ops ms){ls:Nat}{listed:Array Bool}(h:LsRel ops ls listed){j:Nat}:j∈Region.ready .any ops listed↔∃m,ms[j]? =some m∧ls.testBit j=false∧Jp m ls=true:=by
 rw[mem_ready];constructor
 ·rintro⟨k,o,n,g⟩
  have a:j<ops.size:=(cq.1 n).1;have d:j<ms.length:=by rw[hm.len];exact a
  refine⟨ms[j],ax d,by rw[←h.unlisted a];exact k,?_⟩
  unfold Jp;have:jW (ms[j]).am ls=(ms[j]).am:=by
   apply Nat.eq_of_testBit_eq;intro t;have b:(jW (ms[j]).am ls).testBit t=((ms[j]).am.testBit t&&ls.testBit t):=lz _ _ t;rw[b];cases ht:(ms[j]).am.testBit t with
   |false=>rfl
   |true=>
    rw[hm.am j o _ n (ax d)]at ht;unfold jq at ht;obtain⟨e,i,c⟩:=cj.1 ht;simp only[aJ]at c;have:=g e (by simpa using i) c.2;rw[aX c.1,h.bit]at this;rw[this];rfl
  rw[this];exact sP _
 ·rintro⟨m,f,k,p⟩
  have a:j<ops.size:=by rw[←hm.len];exact(bd.1 f).1
  refine⟨by rw[h.unlisted a];exact k,ops[j],gD a,fun e i c=>?_⟩
  rw[h.bit];refine Xn p e.on ?_;rw[hm.am j _ m (gD a) f];unfold jq;exact cj.2 ⟨e,by simpa using i,by simp[c]⟩
theorem sY(ls:Nat):∀(l:List DM) (j0 j:Nat),j∈mn ls l j0↔∃k m,l[k]? =some m∧j=j0+k∧ls.testBit j=false∧Jp m ls=true
 | [],j0,j=>by simp[show mn ls [] j0= []from rfl]
 |m::l,j0,j=>by
  have hc:mn ls (m::l) j0=bif !(tb ls j0)&&Jp m ls then j0::mn ls l (fX j0)else mn ls l (fX j0):=rfl;have e:=sY ls l (j0+1) j;rw[hc,B4];have step:(∃k c,(m::l)[k]? =some c∧j=j0+k∧ls.testBit j=false∧Jp c ls=true)↔(j=j0∧ls.testBit j0=false∧Jp m ls=true)∨j∈mn ls l (j0+1):=by
   rw[e];constructor
   ·rintro⟨k,c,d,rfl,a,b⟩
    cases k with
    |zero=>simp only[eT,bp.injEq]at d;subst d;exact .inl ⟨rfl,a,b⟩
    |succ k=>exact .inr ⟨k,c,by simpa using d,by omega,a,b⟩
   ·rintro(⟨rfl,a,b⟩|⟨k,c,d,rfl,a,b⟩)
    ·exact⟨0,m,rfl,rfl,a,b⟩
    ·exact⟨k+1,c,by simpa using d,by omega,a,b⟩
  rw[step];cases hb:(!(ls.testBit j0)&&Jp m ls)with
  |true=>
   simp only[aJ,pR]at hb;rw[cond_true,ar];simp[hb.1,hb.2]
  |false=>
   rw[cond_false];constructor
   ·exact .inr
   ·rintro(⟨_,a,b⟩|h)
    ·rw[a,b]at hb;cases hb
    ·exact h
theorem mO{ms:List DM}(hm:MsOk ops ms){ls:Nat}{listed:Array Bool}(h:LsRel ops ls listed){j:Nat}:j∈Region.ready .any ops listed↔j∈mn ls ms 0:=by
 rw[Jo hm h,sY];constructor
 ·rintro⟨m,c,a,b⟩;exact⟨j,m,c,by omega,a,b⟩
 ·rintro⟨k,m,c,rfl,a,b⟩;exact⟨m,by simpa using c,a,b⟩
theorem zN:∀{a b:List Nat},wW a b=true→a=b
 | [],[],_=>rfl
 | [],_::_,h=>by cases h
 |_::_,[],h=>by cases h
 |a::as,b::bs,h=>by
  simp only[wW,aJ]at h;rw[aX h.1,zN h.2]
end Go.Lift
namespace Go.Lift
open Go
variable {P:Program} {ro:Option Nat} {n:Nat} {ops:Array Oper} {Q:Exit→Act→World→Prop}
theorem B1{m:Nat}{p:Nat→Bool}(hm:∀j,m.testBit j=true→p j=true):∀(l:List DM) (j0:Nat),(∀j x,l[j]? =some x→p (j0+j)=true→∀k,x.am.testBit k=true→p k=true)→∀k,(Tx m l j0).testBit k=true→p k=true
 | [],_,_,k,h=>hm k h
 |x::l,j0,hl,k,h=>by
  have hc:Tx m (x::l) j0=bif tb m j0 then cX x.am (Tx m l (fX j0))else Tx m l (fX j0):=rfl;have a:=B1 hm l (j0+1) (fun j y c b=>hl (j+1) y (by simpa using c) (by rw[show j0+(j+1)=j0+1+j by omega];exact b)) k
  rw[hc,B4]at h;cases hb:m.testBit j0 with
  |true=>
   rw[hb,cond_true,oI,fh]at h;rcases h with h|h
   ·exact hl 0 x rfl (hm _ hb) k h
   ·exact a h
  |false=>
   rw[hb,cond_false]at h;exact a h
theorem B0{m k:Nat}(h:m.testBit k=true):∀(l:List DM) (j0:Nat),(Tx m l j0).testBit k=true
 | [],_=>h
 |x::l,j0=>by
  have hc:Tx m (x::l) j0=bif tb m j0 then cX x.am (Tx m l (fX j0))else Tx m l (fX j0):=rfl;have a:=B0 h l (j0+1);rw[hc];cases tb m j0 with
  |true=>rw[cond_true,oI,fh];exact .inr a
  |false=>exact a
def Shut(ms:List DM)(listed:Array Bool):Prop:=∀j x,ms[j]? =some x→listed.getD j false=true→∀k,x.am.testBit k=true→listed.getD k false=true
theorem Td{ms:List DM}{listed:Array Bool}(c:Shut ms listed){m:Nat}(hm:∀j,m.testBit j=true→listed.getD j false=true){k:Nat}(h:(CF ms m).testBit k=true):listed.getD k false=true:=by
 have a:∀j x,ms[j]? =some x→(fun k=>listed.getD k false) (0+j)=true→∀k,x.am.testBit k=true→(fun k=>listed.getD k false) k=true:=fun j x hx b=>c j x hx (by rw[aP]at b;exact b)
 unfold CF at h;exact B1 (p:=fun k=>listed.getD k false) (B1 (B1 (B1 hm ms 0 a) ms 0 a) ms 0 a) ms 0 a k h
theorem Kg{ms:List DM}{m k:Nat}(h:m.testBit k=true):(CF ms m).testBit k=true:=by
 unfold CF;exact B0 (B0 (B0 (B0 h ms 0) ms 0) ms 0) ms 0
noncomputable abbrev OM(ms:List DM)(i:Nat)(L:rL):rL:=Cb (CF ms (LJ ms i)) L
theorem ki{m:Nat}{x:Nat×(ad→Prop)}:∀{L:rL},x∈Cb m L↔x∈L∧tb m x.1=false
 | []=>by simp[Cb]
 |(k,S)::L=>by
  have b:=ki (m:=m) (x:=x) (L:=L);simp only[Cb];cases hk:tb m k with
  |true=>
   rw[cond_true,b,ar];constructor
   ·exact fun h=>⟨.inr h.1,h.2⟩
   ·rintro⟨h|h,a⟩
    ·subst h;rw[hk]at a;cases a
    ·exact⟨h,a⟩
  |false=>
   rw[cond_false,ar,b,ar];constructor
   ·rintro(h|h)
    ·subst h;exact⟨.inl rfl,hk⟩
    ·exact⟨.inr h.1,h.2⟩
   ·rintro⟨h|h,a⟩
    ·exact .inl h
    ·exact .inr ⟨h,a⟩
def TM(ms:List DM)(ro:Option Nat)(n:Nat)(P:Program)(ops:Array Oper)(Q:Exit→Act→World→Prop):Nat→rL→Array Bool→Act→World→Prop
 |0,_,listed,a,w=>Region.ready .any ops listed= []∧Q .normal a w
 |f+1,L,listed,a,w=>(Region.ready .any ops listed= []→Q .normal a w)∧
  ∀i∈Region.ready .any ops listed,∀o,ops[i]? =some o→
   wpOpIn (FW ro) n P ops Q i (fun a' w'=>(∀x∈OM ms i L,x.2 w'.heap)∧TM ms ro n P ops Q f (OM ms i L) (listed.setIfInBounds i true) a' w') a w
theorem yq{o:Oper}{x:Nat×(ad→Prop)}:∀{L:rL},x∈pm o L↔x∈L∧jq o x.1=false
 | []=>by simp[pm]
 |(k,S)::L=>by
  have b:=yq (o:=o) (x:=x) (L:=L);simp only[pm];cases hk:jq o k with
  |true=>
   rw[cond_true,b,ar];constructor
   ·exact fun h=>⟨.inr h.1,h.2⟩
   ·rintro⟨h|h,a⟩
    ·subst h;rw[hk]at a;cases a
    ·exact⟨h,a⟩
  |false=>
   rw[cond_false,ar,b,ar];constructor
   ·rintro(h|h)
    ·subst h;exact⟨.inl rfl,hk⟩
    ·exact⟨.inr h.1,h.2⟩
   ·rintro⟨h|h,a⟩
    ·exact .inl h
    ·exact .inr ⟨h,a⟩
theorem Sg{listed:Array Bool}{i:Nat}(h:i∈Region.ready .any ops listed):∃o,ops[i]? =some o:=by
 obtain⟨_,o,a,_⟩:=mem_ready.1 h;exact⟨o,a⟩
theorem QW{ms:List DM}:∀(f:Nat) (L:rL) (listed:Array Bool) (a:Act) (w:World),TM ms ro n P ops Q f L listed a w→wpAnyIn (FW ro) n P .any ops Q f listed a w
 |0,_,_,_,_,h=>h
 |f+1,L,listed,a,w,h=>⟨h.1,fun i hi=>by
  obtain⟨o,b⟩:=Sg hi
  exact wpOpIn_mono (fun a' w' h'=>QW f _ _ a' w' h'.2) (h.2 i hi o b)⟩
theorem vP{ms:List DM}:∀(f:Nat) (L L':rL) (listed:Array Bool) (a:Act) (w:World),(∀x∈L',x∈L∨∀h,x.2 h)→TM ms ro n P ops Q f L listed a w→TM ms ro n P ops Q f L' listed a w
 |0,_,_,_,_,_,_,h=>h
 |f+1,L,L',listed,a,w,hs,h=>⟨h.1,fun i hi o c=>by
  have b:∀x∈OM ms i L',x∈OM ms i L∨∀h,x.2 h:=fun x hx=>(hs x (ki.1 hx).1).imp (fun h=>ki.2 ⟨h,(ki.1 hx).2⟩) id
  exact wpOpIn_mono (fun a' w' h'=>⟨fun x hx=>(b x hx).elim (h'.1 x) fun h=>h _,vP f _ _ _ a' w' b h'.2⟩) (h.2 i hi o c)⟩
def YG(P:Program)(ops:Array Oper)(S:ad→Prop)(o:Oper)(v:Value)(a:Act):Prop:=
 (Region.wanted o (yielded ops a.tmps)=true∧∀w:World,S w.heap→(execOp a.eval o).run P w=.ok (.value v) w)∨
 (Region.wanted o (yielded ops a.tmps)=false∧v=undef)
theorem YG.wpOp{S:ad→Prop}{i:Nat}{o:Oper}{v:Value}{a:Act}(hi:ops[i]? =some o) (hd:∀c,o.op≠ .defer c) (d:YG P ops S o v a) {K:Act→World→Prop} {w:World} (e:S w.heap)
  (h:K (a.put o.dst v) w):wpOpIn (FW ro) n P ops Q i K a w:=by
 unfold wpOpIn;simp only[hi];rcases d with⟨b,f⟩|⟨b,rfl⟩
 ·simp only[b,if_true]
  refine⟨fun _ _=>trivial,?_⟩
  rw[Oper.semAt_eq _ _ _ hd,f w e];exact h
 ·simp only[b,Bool.false_eq_true,if_false];exact⟨fun _ _=>trivial,h⟩
theorem YG.of_same{S:ad→Prop}{o:Oper}{v:Value}{a a':Act}(d:YG P ops S o v a)(c:execOp a'.eval o=execOp a.eval o)
  (b:Region.wanted o (yielded ops a'.tmps)=Region.wanted o (yielded ops a.tmps)):YG P ops S o v a':=by
 unfold YG at*;rw[c,b];exact d
theorem OO{S:ad→Prop}{j:Nat}{g i:Oper}{v:Value}(E:ops[j]? =some i)
  (z:(∀d,g.dst=some d→d∉i.looksAt ops)∧(∀d,g.dst=some d→i.dst≠some d)∧(∀d,i.dst=some d→d∉g.looksAt ops))
  (q:∀cs b,g.op≠ .select cs b) (A:∀cs b,i.op≠ .select cs b) (t:∀c,i.op≠ .defer c)
  (D:∀e a w,(∀c,e=.panic c→False)∨¬Q e a w) {K:Act→World→Prop} {a:Act} {w:World}
  (m:YG P ops S g v a) (h:wpOpIn (FW ro) n P ops Q j K (a.put g.dst v) w):
  wpOpIn (FW ro) n P ops Q j (fun a' w'=>YG P ops S g v a'∧K (a'.put g.dst v) w') a w:=by
 obtain⟨B,o,y⟩:=z;have p:∀c a w,¬Q (.panic c) a w:=fun c a w C=>(D (.panic c) a w).elim (fun h=>h c rfl) fun h=>h C
 have keep:∀(a:Act),YG P ops S g v a→∀u,YG P ops S g v (a.put i.dst u):=fun a m u=>
  m.of_same (execOp_put g q a i.dst u y) (wanted_put g a i.dst u y)
 unfold wpOpIn at*;simp only[E]at*;rw[wanted_put i a g.dst v B]at h;split
 ·rename_i hw
  simp only[hw,if_true]at h;refine⟨fun _ _=>trivial,?_⟩
  have h:=h.2;rw[Oper.semAt_eq _ _ _ t,execOp_put i A a g.dst v B]at h;rw[Oper.semAt_eq _ _ _ t];generalize (execOp a.eval i).run P w=r at*;cases r with
  |ok x w'=>
   cases x<;>simp only[Oper.uponIn]at h⊢
   case value u=>exact⟨keep a m u,by rw[←Act.put_comm a v u o];exact h⟩
   case skip=>exact⟨keep a m _,by rw[←Act.put_comm a v undef o];exact h⟩
   case defer d=>
    refine⟨(m.of_same (a':={a with defers:=d::a.defers}) rfl rfl).of_same (execOp_put g q _ i.dst undef y) (wanted_put g _ i.dst undef y),?_⟩;rw[←Act.put_comm _ v undef o,←Act.put_defers];exact h
   case enter f args=>
    refine⟨h.1,CallsIn.mono h.2 fun e s k=>?_⟩
    cases e with
    |returned u=>exact⟨keep a m u,by rw[←Act.put_comm a v u o];exact k⟩
    |panicked c=>exact(p _ _ _ k).elim
    |outgrown=>exact k
   case row row args=>exact⟨h.1,RowsIn.mono h.2 fun u s k=>⟨keep a m u,by rw[←Act.put_comm a v u o];exact k⟩⟩
   case round l f tmps assign body=>
    refine⟨h.1,RoundIn.mono h.2 fun e s k=>?_⟩
    cases e with
    |returned u=>exact⟨keep a m u,by rw[←Act.put_comm a v u o];exact k⟩
    |panicked c=>exact(p _ _ _ k).elim
    |outgrown=>exact k
  |halt x w'=>
   cases x<;>simp only[Oper.uponIn]at h⊢
   case panic u=>exact(p _ _ _ h).elim
 ·rename_i hw
  simp only[hw]at h;exact⟨fun _ _=>trivial,keep a m _,by rw[←Act.put_comm a v undef o];exact h.2⟩
theorem LI{ms:List DM}(hm:MsOk ops ms){i:Nat}{o:Oper}(a:ops[i]? =some o) (k:Nat):(LJ ms i).testBit k=jq o k:=by
 have hi:i<ms.length:=by rw[hm.len];exact(cq.1 a).1
 unfold LJ;rw[ax hi];exact hm.am i o _ a (ax hi) k
theorem MM{ms:List DM}(hm:MsOk ops ms){listed:Array Bool}{j:Nat}(g:j∈Region.ready .any ops listed)(k:Nat)(c:(LJ ms j).testBit k=true):listed.getD k false=true:=by
 obtain⟨_,o,d,a⟩:=mem_ready.1 g;rw[LI hm d]at c;unfold jq at c;obtain⟨e,f,b⟩:=cj.1 c;simp only[aJ]at b;have:=a e (by simpa using f) b.2;rw[aX b.1]at this;exact this
theorem ND{listed:Array Bool}{j k:Nat}(h:listed.getD k false=true):(listed.setIfInBounds j true).getD k false=true:=by
 by_cases e:j=k
 ·subst e
  rw[dg]at h⊢;rcases cC j listed.size with h'|h'
  ·simp[h']
  ·simp[lj h']at h
 ·rw[dg,eU e,←dg]
  exact h
theorem Shut.put{ms:List DM}(hm:MsOk ops ms){listed:Array Bool}(c:Shut ms listed){j:Nat}(d:j∈Region.ready .any ops listed):Shut ms (listed.setIfInBounds j true):=by
 intro i x hx a k b;by_cases e:j=i
 ·subst e
  refine ND (MM hm d k ?_);unfold LJ;rw[hx];exact b
 ·rw[dg,eU e,←dg]at a
  exact ND (c i x hx a k b)
theorem Ga{ms:List DM}(hm:MsOk ops ms){S:ad→Prop}{i:Nat}{y:Oper}{v:Value}(hi:ops[i]? =some y) (g:∀(j:Nat) (o:Oper),ops[j]? =some o→(∀cs b,o.op≠ .select cs b)∧(∀c,o.op≠ .defer c))
  (hQ:∀e a w,(∀c,e=.panic c→False)∨¬Q e a w):
  ∀(m:Nat) (L:rL) (listed:Array Bool) (a:Act) (w:World),
   (∀j s,ops[j]? =some s→j≠i→listed.getD j true=false→jq s i=false→
    (∀d,y.dst=some d→d∉s.looksAt ops)∧(∀d,y.dst=some d→s.dst≠some d)∧(∀d,s.dst=some d→d∉y.looksAt ops))→
   Shut ms listed→i∈Region.ready .any ops listed→YG P ops S y v a→S w.heap→(∀x∈L,x.2 w.heap)→
   TM ms ro n P ops Q m ((i,S)::L) (listed.setIfInBounds i true) (a.put y.dst v) w→TM ms ro n P ops Q (m+1) L listed a w:=by
 intro m;induction m with
 |zero=>
  intro L listed a w _ _ B T V W H;refine⟨fun h=>(by rw[h]at B;cases B),fun j E s f=>?_⟩
  by_cases p:j=i
  ·subst p
   rw[hi]at f;cases f;exact T.wpOp hi (g _ _ hi).2 V ⟨fun x hx=>W x (ki.1 hx).1,H⟩
  ·have:=ready_mono E p
   rw[H.1]at this;cases this
 |succ m ih=>
  intro L listed a w t K B T V W H;refine⟨fun h=>(by rw[h]at B;cases B),fun j E s f=>?_⟩
  by_cases p:j=i
  ·subst p
   rw[hi]at f;cases f;exact T.wpOp hi (g _ _ hi).2 V ⟨fun x hx=>W x (ki.1 hx).1,vP _ _ _ _ _ _ (fun x hx=>.inl (aI _ (ki.1 hx).1)) H⟩
  ·have q:=H.2 j (ready_mono E p) s f
   obtain⟨C,oj',A,I⟩:=mem_ready.1 E;rw[f]at A;cases A;have R:jq s i=false:=by
    cases u:jq s i with
    |false=>rfl
    |true=>
     unfold jq at u;obtain⟨e,he,u⟩:=cj.1 u;simp only[aJ]at u;have q:=I e (by simpa using he) u.2;rw[aX u.1]at q;have J:=(mem_ready.1 B).1;rcases cC i listed.size with h'|h'
     ·simp[h']at J q;rw[J]at q;cases q
     ·simp[lj h']at q
   have D:tb (CF ms (LJ ms j)) i=false:=by
    cases u:tb (CF ms (LJ ms j)) i with
    |false=>rfl
    |true=>
     rw[B4]at u;have q:=Td K (MM hm E) u;have J:=(mem_ready.1 B).1;rcases cC i listed.size with h'|h'
     ·simp[h']at J q;rw[J]at q;cases q
     ·simp[lj h']at q
   have F:OM ms j ((i,S)::L)=(i,S)::OM ms j L:=by simp only[OM,Cb,D,cond_false]
   rw[F]at q;have Z:=OO f (t j s f p C R) (g _ _ hi).1 (g _ _ f).1 (g _ _ f).2 hQ T q;have z:∀k ok,ops[k]? =some ok→k≠i→(listed.setIfInBounds j true).getD k true=false→jq ok i=false→
     (∀d,y.dst=some d→d∉ok.looksAt ops)∧(∀d,y.dst=some d→ok.dst≠some d)∧(∀d,ok.dst=some d→d∉y.looksAt ops):=fun k ok Y U G X=>by
    refine t k ok Y U ?_ X;by_cases O:j=k
    ·subst O;exact C
    ·rw[getD_set_ne true O]at G;exact G
   refine wpOpIn_mono (fun a' w' N=>⟨fun x hx=>N.2.1 x (aI _ hx),ih (OM ms j L) (listed.setIfInBounds j true) a' w' z (K.put hm E) (ready_mono B (Ne.symm p)) N.1 (N.2.1 _ (aN ..)) (fun x hx=>N.2.1 x (aI _ hx)) ?_⟩) Z
   rw[Array.setIfInBounds_comm _ _ p];exact N.2.2
theorem sD{h:ad}{R:Prop}:∀{L:rL},te L h R↔(∀x∈L,x.2 h)∧R
 | []=>by simp[te]
 |(k,S)::L=>by
  simp only[te,sD (L:=L),ar,forall_eq_or_imp,and_assoc]
theorem TL{ms:List DM}{f:Nat}{L:rL}{listed:Array Bool}{a:Act}{w:World}(b:Region.ready .any ops listed= [])(h:Q .normal a w):TM ms ro n P ops Q f L listed a w:=by
 cases f with
 |zero=>exact⟨b,h⟩
 |succ f=>exact⟨fun _=>h,by rw[b];simp⟩
def left(ops:Array Oper)(ls:Nat):Nat:=((eI ops.size).filter fun j=> !ls.testBit j).length
theorem yy{ls i:Nat}(hi:i<ops.size)(f:ls.testBit i=false):left ops (cX ls (gT i))+1=left ops ls:=by
 have key:∀l:List Nat,l.Nodup→i∈l→(l.filter fun j=> !(cX ls (gT i)).testBit j).length+1=(l.filter fun j=> !ls.testBit j).length:=by
  intro l;induction l with
  |nil=>intro _ h;cases h
  |cons x l ih=>
   intro b hm;rw[List.nodup_cons]at b;by_cases hx:x=i
   ·subst hx
    have a:(l.filter fun j=> !(cX ls (gT x)).testBit j)=l.filter fun j=> !ls.testBit j:=by
     apply List.filter_congr;intro y g;have:x≠y:=fun e=>b.1 (e▸g)
     rw[oI,Bt,decide_eq_false this,Bool.or_false]
    have c:(cX ls (gT x)).testBit x=true:=by rw[oI,Bt];simp
    rw[dF,dF,c,f,a];rfl
   ·have d:i∈l:=by rcases ar.1 hm with h|h;exact absurd h.symm hx;exact h
    have c:(cX ls (gT i)).testBit x=ls.testBit x:=by rw[oI,Bt,decide_eq_false (Ne.symm hx),Bool.or_false]
    have:=ih b.2 d;rw[dF,dF,c];cases ls.testBit x with
    |true=>exact this
    |false=>exact congrArg (· +1) this
 exact key _ List.nodup_range (List.mem_range.2 hi)
theorem SW{N:Nat}{a:List Oper}{ms:List DM}{ls:Nat}{L:rL}{d:wL}{K:cI→ad→Prop}{r:cI}{b:ad}:∀{l:DA},nP P N a ms l true ls L d K r b→∃i,i∈D4 l
 | .done,h=>h.elim
 | .take i rest,h=>by
  exfalso;have hc:nP P N a ms (.take i rest) true ls L d K r b=(match a[i]?,ms[i]? with|some _,some _=>False|_,_=>False):=rfl
  rw[hc]at h;split at h<;>exact h
 | .all _,h=>h.elim
 | .pick i _ _,_=>⟨i,aN ..⟩
 | .last i _,_=>⟨i,aN ..⟩
 | .lastT i _,_=>⟨i,aN ..⟩
 | .split ..,h=>h.elim
def QJ(ro:Option Nat)(n:Nat)(P:Program)(ops:Array Oper)(Q:Exit→Act→World→Prop)(N:Nat)(ms:List DM)(W:Nat→Prop)(e:Act)(c:World)(K:cI→ad→Prop)(b:DA):Prop:=
 ∀(m:Bool) (ls:Nat) (L:rL) (d:wL) (r:cI) (a:Act) (w:World) (listed:Array Bool) (fuel:Nat),
  nP P N ops.toList ms b m ls L d K r w.heap→Agree N r a→DecOk d r→Fr W e c a w→LsRel ops ls listed→Shut ms listed→(∀x∈L,x.2 w.heap)→
  (m=false→left ops ls≤fuel→TM ms ro n P ops Q fuel L listed a w)∧
  (m=true→left ops ls≤fuel+1→∀i∈D4 b,i∈mn ls ms 0→∀o,ops[i]? =some o→
   wpOpIn (FW ro) n P ops Q i (fun a' w'=>(∀x∈OM ms i L,x.2 w'.heap)∧TM ms ro n P ops Q fuel (OM ms i L) (listed.setIfInBounds i true) a' w') a w)
theorem MG{N:Nat}{ms:List DM}(hm:MsOk ops ms){W:Nat→Prop}(hW:∀o∈ops.toList,∀d,o.dst=some d→W d){a0:Act}{w0:World}{K:cI→ad→Prop}
  (hQ:∀r a w,Agree N r a→Fr W a0 w0 a w→K r w.heap→Q .normal a w)(hnp:∀e a w,(∀c,e=.panic c→False)∨¬Q e a w)(da:DA):
  QJ ro n P ops Q N ms W a0 w0 K da:=by
 have one:∀(i:Nat) (p:DA)
   (_:QJ ro n P ops Q N ms W a0 w0 K p)
   (ls:Nat) (L:rL) (d:wL) (r:cI) (a:Act) (w:World) (listed:Array Bool) (g:Nat),
   Sc P N ops.toList i L d r w.heap (fun L' d' E h'=>nP P N ops.toList ms p false (cX ls (gT i)) L' d' K E h')→Agree N r a→DecOk d r→Fr W a0 w0 a w→LsRel ops ls listed→Shut ms listed→
   left ops ls≤g+1→i∈mn ls ms 0→∀o,ops[i]? =some o→
    wpOpIn (FW ro) n P ops Q i (fun a' w'=>(∀x∈OM ms i L,x.2 w'.heap)∧TM ms ro n P ops Q g (OM ms i L) (listed.setIfInBounds i true) a' w') a w:=by
  intro i p X ls L d r a w listed g f z hd H C q A hr o y;have B:i<ops.size:=(cq.1 y).1;obtain⟨k,mm,hk,hki,O,_⟩:=(sY ls ms 0 i).1 hr;unfold Sc at f;rw[bq,y]at f;simp only at f;cases hw:jn ops.toList d o with
  |none=>rw[hw]at f;exact f.elim
  |some b=>
   rw[hw]at f;cases b with
   |false=>exact f.elim
   |true=>
    simp only at f;cases hq:xH P o.op with
    |true=>
     rw[hq,cond_true]at f;unfold wpOpIn;rw[y];simp only[nK hw z hd,if_true];obtain⟨v,S,hK,hS,_,Y⟩:=DL z f d hd;refine qN (K:=fun u h'=>u=v∧h'=w.heap) (EC f) (.inl ⟨v,w,Y w hS,Tame.refl w,rfl,rfl⟩) ?_
     rintro u w' ht ⟨rfl,hw'⟩;obtain⟨E,I,G,J⟩:=uA (dv:=.x) hK z hd trivial;obtain⟨hh,hs'⟩:=sD.1 I;have D:o∈ops.toList:=be (by rw[bq];exact y);have R:=yy B O;have F:∀x∈OM ms i L,x∈pm o L:=fun x hx=>yq.2 ⟨(ki.1 hx).1,by
      cases hb:jq o x.1 with
      |false=>rfl
      |true=>
        have:=(ki.1 hx).2
        rw[B4,Kg (by rw[LI hm y];exact hb)]at this;cases this⟩
     rw[←hw']at hh hs';exact⟨fun x hx=>hh x (F x hx),vP _ _ _ _ _ _ (fun x hx=>.inl (F x hx)) ((X false _ _ _ E _ w' _ g hs' G J (H.put (hW o D) u ht) (C.put B) (q.put hm ((mO hm C).2 hr)) hh).1 rfl (by omega))⟩
    |false=>
     rw[hq,cond_false]at f;unfold wpOpIn;rw[y];simp only[nK hw z hd,if_true];refine qN (yg f) (DD z f) ?_;intro v w' ht hK;obtain⟨E,I,G,J⟩:=uA (dv:=.x) hK z hd trivial;obtain⟨hh,hs'⟩:=sD.1 I;have D:o∈ops.toList:=be (by rw[bq];exact y);have R:=yy B O;have F:∀x∈OM ms i L,x∈pm o L:=fun x hx=>yq.2 ⟨(ki.1 hx).1,by
      cases hb:jq o x.1 with
      |false=>rfl
      |true=>
        have:=(ki.1 hx).2
        rw[B4,Kg (by rw[LI hm y];exact hb)]at this;cases this⟩
     exact⟨fun x hx=>hh x (F x hx),vP _ _ _ _ _ _ (fun x hx=>.inl (F x hx)) ((X false _ _ _ E _ w' _ g hs' G J (H.put (hW o D) v ht) (C.put B) (q.put hm ((mO hm C).2 hr)) hh).1 rfl (by omega))⟩
 have oneT:∀(i:Nat) (p:DA)
   (_:QJ ro n P ops Q N ms W a0 w0 K p)
   (ls:Nat) (L:rL) (d:wL) (r:cI) (a:Act) (w:World) (listed:Array Bool) (g:Nat),
   Ra P N ops.toList ms i L d r w.heap (fun L' d' E h'=>nP P N ops.toList ms p false (cX ls (gT i)) L' d' K E h')→Agree N r a→DecOk d r→Fr W a0 w0 a w→LsRel ops ls listed→Shut ms listed→
   left ops ls≤g+1→i∈mn ls ms 0→∀o,ops[i]? =some o→
    wpOpIn (FW ro) n P ops Q i (fun a' w'=>(∀x∈OM ms i L,x.2 w'.heap)∧TM ms ro n P ops Q g (OM ms i L) (listed.setIfInBounds i true) a' w') a w:=by
  intro i p X ls L d r a w listed g f z hd H C q A hr o y;have B:i<ops.size:=(cq.1 y).1;obtain⟨k,mm,hk,hki,O,_⟩:=(sY ls ms 0 i).1 hr;unfold Ra at f;rw[bq,y]at f;simp only at f;cases hw:jn ops.toList d o with
  |none=>rw[hw]at f;exact f.elim
  |some b=>
   rw[hw]at f;cases b with
   |false=>exact f.elim
   |true=>
    simp only at f;cases hq:xH P o.op with
    |true=>rw[hq]at f;exact f.elim
    |false=>
     rw[hq,cond_false]at f;unfold wpOpIn;rw[y];simp only[nK hw z hd,if_true];refine qN (yg f) (DD z f) ?_;intro v w' ht hK;obtain⟨E,I,G,J⟩:=uA (dv:=.x) hK z hd trivial;obtain⟨hh,hs'⟩:=sD.1 I;have D:o∈ops.toList:=be (by rw[bq];exact y);have R:=yy B O;exact⟨hh,(X false _ _ _ E _ w' _ g hs' G J (H.put (hW o D) v ht) (C.put B) (q.put hm ((mO hm C).2 hr)) hh).1 rfl (by omega)⟩
 induction da with
 |done=>
  intro m ls L d r a w listed g f z hd H C q U;cases m with
  |true=>exact f.elim
  |false=>
   refine⟨fun _ _=>?_,fun h=>by cases h⟩
   have hc:nP P N ops.toList ms .done false ls L d K r w.heap=bif wW (mn ls ms 0) []then K r w.heap else False:=rfl;rw[hc]at f;cases hb:wW (mn ls ms 0) []with
   |false=>rw[hb]at f;exact f.elim
   |true=>
    rw[hb]at f;have hnil:Region.ready .any ops listed= []:=by
     apply List.eq_nil_iff_forall_not_mem.2;intro j T;rw[mO hm C,zN hb]at T;cases T
    exact TL hnil (hQ r a w z H f)
 |take i p X=>
  intro m ls L d r a w listed g f z hd H C q U;cases m with
  |true=>
   exfalso;have hc:nP P N ops.toList ms (.take i p) true ls L d K r w.heap=(match ops.toList[i]?,ms[i]? with|some _,some _=>False|_,_=>False):=rfl
   rw[hc]at f;split at f<;>exact f
  |false=>
   refine⟨fun _ A=>?_,fun h=>by cases h⟩
   have hc:nP P N ops.toList ms (.take i p) false ls L d K r w.heap=(match ops.toList[i]?,ms[i]? with
    |some o,some mi=>bif Gr mi i ls ops.toList.length then
      (match jn ops.toList d o with
       |none=>False
       |some false=>Bo N o undef r fun E=>nP P N ops.toList ms p false (cX ls (gT i)) L (sK d o .u) K E w.heap
       |some true=>bif xH P o.op then
          Dy P none o.op r (fun v S=>Bo N o v r fun E=>match S with
            |none=>nP P N ops.toList ms p false (cX ls (gT i)) L (sK d o (Ma d o.op)) K E w.heap
            |some S=>nP P N ops.toList ms p false (cX ls (gT i)) ((i,S)::L) (sK d o (Ma d o.op)) K E w.heap) w.heap
          else False)
     else False
    |_,_=>False):=rfl
   rw[hc]at f;split at f
   ·rename_i o mi y hmi
    rw[bq]at y;cases htk:Gr mi i ls ops.toList.length with
    |false=>rw[htk]at f;exact f.elim
    |true=>
     rw[htk,cond_true]at f;unfold Gr at htk;simp only[aJ,pR,B4]at htk;obtain⟨⟨hun,hrd⟩,hfr⟩:=htk;have B:i<ops.size:=(cq.1 y).1;have s:i∈Region.ready .any ops listed:=(Jo hm C).2 ⟨mi,hmi,hun,hrd⟩;have R:=yy (ops:=ops) B hun;obtain⟨f',rfl⟩:∃f',g=f'+1:=⟨g-1,by omega⟩
     have D:o∈ops.toList:=be (by rw[bq];exact y);have hcov:∀j,j<ops.size→ls.testBit j=true∨mi.fr.testBit j=true:=by
      intro j T;have h0:=aX hfr;have hpb:(zD (gT ops.toList.length)).testBit j=true:=by
        have:zD (gT ops.toList.length)=2^ops.toList.length-1:=rfl;rw[this,Nat.testBit_two_pow_sub_one];simpa using T
      have hand:(jW (cX ls mi.fr) (zD (gT ops.toList.length))).testBit j=((cX ls mi.fr).testBit j&&(zD (gT ops.toList.length)).testBit j):=lz _ _ j;rw[h0,hpb,Bool.and_true,oI]at hand;exact(Bool.or_eq_true_iff).1 hand.symm
     have V:∀j oj,ops[j]? =some oj→j≠i→listed.getD j true=false→jq oj i=false→
        (∀d,o.dst=some d→d∉oj.looksAt ops)∧(∀d,o.dst=some d→oj.dst≠some d)∧(∀d,oj.dst=some d→d∉o.looksAt ops):=by
      intro j oj hoj hne hju hna;have T:j<ops.size:=(cq.1 hoj).1;rw[C.unlisted T]at hju;have hjm:j<ms.length:=by rw[hm.len];exact T
      have hmj:=ax hjm;rcases hcov j T with h|h
      · rw[h]at hju;cases hju
      · rcases hm.free i j mi _ hmi hmj h with h|h|h
        ·exact absurd h hne
        ·rw[hm.am j oj _ hoj hmj,hna]at h;cases h
        ·exact VQ hm y hoj hmi hmj h
     cases hw:jn ops.toList d o with
     |none=>rw[hw]at f;exact f.elim
     |some b=>
      rw[hw]at f;have hwd:=nK hw z hd;cases b with
      |false=>
        obtain⟨E,I,G,J⟩:=uA (dv:=.u) f z hd rfl;have hy:YG P ops (fun _=>True) o undef a:=.inr ⟨hwd,rfl⟩
        refine Ga hm y hm.nosel hnp f' L listed a w V q s hy trivial U ?_;refine vP _ L _ _ _ _ (fun x hx=>(ar.1 hx).elim (fun e=>.inr fun h=>by rw[e];trivial) .inl) ?_
        exact(X false _ _ _ E _ w _ f' I G J (H.put (hW o D) undef (Tame.refl w)) (C.put B) (q.put hm s) U).1 rfl (by omega)
      |true=>
        simp only at f;cases hq:xH P o.op with
        |false=>rw[hq]at f;exact f.elim
        |true=>
         rw[hq,cond_true]at f;obtain⟨v,S,hK,hS,hdv,Y⟩:=DL z f d hd;obtain⟨E,I,G,J⟩:=uA hK z hd hdv;have hfr':=H.put (hW o D) v (Tame.refl w);cases S with
         |none=>
           have hy:YG P ops (fun _=>True) o v a:=.inl ⟨hwd,fun w _=>Y w trivial⟩
           refine Ga hm y hm.nosel hnp f' L listed a w V q s hy trivial U ?_;refine vP _ L _ _ _ _ (fun x hx=>(ar.1 hx).elim (fun e=>.inr fun h=>by rw[e];trivial) .inl) ?_
           exact(X false _ _ _ E _ w _ f' I G J hfr' (C.put B) (q.put hm s) U).1 rfl (by omega)
         |some S=>
           have hy:YG P ops S o v a:=.inl ⟨hwd,fun w h=>Y w h⟩
           refine Ga hm y hm.nosel hnp f' L listed a w V q s hy hS U ?_;exact(X false _ _ _ E _ w _ f' I G J hfr' (C.put B) (q.put hm s) (fun x hx=>(ar.1 hx).elim (fun e=>by rw[e];exact hS) (U x))).1 rfl (by omega)
   ·exact f.elim
 |all l X=>
  intro m ls L d r a w listed g f z hd H C q U;cases m with
  |true=>exact f.elim
  |false=>
   refine⟨fun _ A=>?_,fun h=>by cases h⟩
   have hc:nP P N ops.toList ms (.all l) false ls L d K r w.heap=bif wW (mn ls ms 0) (D4 l)then nP P N ops.toList ms l true ls L d K r w.heap else False:=rfl;rw[hc]at f;cases hb:wW (mn ls ms 0) (D4 l)with
   |false=>rw[hb]at f;exact f.elim
   |true=>
    rw[hb,cond_true]at f;obtain⟨i,hi⟩:=SW f;rw[←zN hb]at hi;have hrd:=(mO hm C (j:=i)).2 hi;obtain⟨k,mm,hk,hki,O,_⟩:=(sY ls ms 0 i).1 hi;have B:i<ops.size:=by
     have:=(bd.1 hk).1;rw[hm.len]at this;omega
    have R:=yy (ops:=ops) B O;obtain⟨f',rfl⟩:∃f',g=f'+1:=⟨g-1,by omega⟩
    refine⟨fun h=>(by rw[h]at hrd;cases hrd),fun j T o y=>?_⟩
    have hj':=(mO hm C).1 T;exact(X true ls L d r a w listed f' f z hd H C q U).2 rfl A j (by rw[←zN hb];exact hj') hj' o y
 |pick i p more ih1 ih2=>
  intro m ls L d r a w listed g f z hd H C q U;cases m with
  |false=>exact f.elim
  |true=>
   refine⟨fun h=>(by cases h),fun _ A j T Z o y=>?_⟩
   have f:Sc P N ops.toList i L d r w.heap (fun L' d' E h'=>nP P N ops.toList ms p false (cX ls (gT i)) L' d' K E h')∧nP P N ops.toList ms more true ls L d K r w.heap:=f
   rcases ar.1 T with rfl|T
   ·exact one _ p ih1 ls L d r a w listed g f.1 z hd H C q A Z o y
   ·exact(ih2 true ls L d r a w listed g f.2 z hd H C q U).2 rfl A j T Z o y
 |last i p X=>
  intro m ls L d r a w listed g f z hd H C q U;cases m with
  |false=>exact f.elim
  |true=>
   refine⟨fun h=>(by cases h),fun _ A j T Z o y=>?_⟩
   have f:Sc P N ops.toList i L d r w.heap (fun L' d' E h'=>nP P N ops.toList ms p false (cX ls (gT i)) L' d' K E h'):=f
   have hji:j=i:=aQ.1 T;subst hji;exact one _ p X ls L d r a w listed g f z hd H C q A Z o y
 |lastT i p X=>
  intro m ls L d r a w listed g f z hd H C q U;cases m with
  |false=>exact f.elim
  |true=>
   refine⟨fun h=>(by cases h),fun _ A j T Z o y=>?_⟩
   have f:Ra P N ops.toList ms i L d r w.heap (fun L' d' E h'=>nP P N ops.toList ms p false (cX ls (gT i)) L' d' K E h'):=f
   have hji:j=i:=aQ.1 T;subst hji;exact oneT _ p X ls L d r a w listed g f z hd H C q A Z o y
 |split t yes no ih1 ih2=>
  intro m ls L d r a w listed g f z hd H C q U;cases m with
  |true=>exact f.elim
  |false=>
   refine⟨fun _ A=>?_,fun h=>by cases h⟩
   have hc:nP P N ops.toList ms (.split t yes no) false ls L d K r w.heap=(match kJ r t with
    |some (.bool b)=>CondP b (nP P N ops.toList ms yes false ls L ((t,.t)::d) K ((t,.bool true)::r) w.heap) (nP P N ops.toList ms no false ls L ((t,.f)::d) K ((t,.bool false)::r) w.heap)
    |_=>False):=rfl
   rw[hc]at f;split at f
   ·rename_i b hlk
    cases b with
    |true=>exact(ih1 false ls L _ _ a w listed g (f.yes rfl) (z.known hlk) (hd.known rfl) H C q U).1 rfl A
    |false=>exact(ih2 false ls L _ _ a w listed g (f.no rfl) (z.known hlk) (hd.known rfl) H C q U).1 rfl A
   ·exact f.elim
end Go.Lift
namespace Go.Lift
open Go
variable {P:Program} {ro:Option Nat} {n:Nat}
theorem JK{r:cI}:∀{l:List Nat} {r0:cI},Ro r l=some r0→∀t v,kJ r0 t=some v→t∈l∧kJ r t=some v
 | [],r0,h,t,v,hv=>by cases h;cases hv
 |s::l,r0,h,t,v,hv=>by
  have h:(match kJ r s,Ro r l with|some v,some l=>some ((s,v)::l)|_,_=>none)=some r0:=h
  split at h
  ·rename_i u l' hu hl
   cases h;by_cases e:s=t
   ·subst e;rw[iU]at hv;cases hv;exact⟨aN ..,hu⟩
   ·rw[gX u _ e]at hv
    have:=JK hl t v hv;exact⟨aI _ this.1,this.2⟩
  ·cases h
theorem DY{m:Nat}{t:Nat}{v:Value}:∀{r:cI},kJ (yA m r) t=some v→m.testBit t=false∧kJ r t=some v
 | [],h=>by cases h
 |(k,u)::r,h=>by
  have h:kJ (bif tb m k then yA m r else(k,u)::yA m r) t=some v:=h;cases hk:tb m k with
  |true=>
   rw[hk]at h;have:=DY h;by_cases e:k=t
   ·subst e;rw[B4,this.1]at hk;cases hk
   ·rw[gX u _ e];exact this
  |false=>
   rw[hk]at h;have h:kJ ((k,u)::yA m r) t=some v:=h;by_cases e:k=t
   ·subst e;rw[iU]at h⊢;rw[B4]at hk;exact⟨hk,h⟩
   ·rw[gX u _ e]at h⊢;exact DY h
theorem DC{t:Nat}:∀{l:List Oper},(TP l).testBit t=false→¬me t l=true
 | [],_,h=>by cases h
 |o::l,hm,h=>by
  have hm:(cX (oq o) (TP l)).testBit t=false:=hm;rw[oI,ik]at hm;have h:(match o.dst with|some d=>bif av d t then true else me t l|none=>me t l)=true:=h
  cases hd:o.dst with
  |none=>rw[hd]at h;exact DC hm.2 h
  |some d=>
   rw[hd]at h;cases e:av d t with
   |true=>have:=(yW o t).2 (by rw[hd,aX e]);rw[hm.1]at this;cases this
   |false=>simp only[e]at h;exact DC hm.2 h
theorem Na{a b:Option Nat}{m:Nat}(h:Y5 a b=some m):∃x y,a=some x∧b=some y∧m=cX x y:=by
 cases a<;>cases b<;>cases h
 exact⟨_,_,rfl,rfl,rfl⟩
theorem TO{t:Nat}(c:Code):∀{m:Nat},Ar c=some m→m.testBit t=false→¬gx t c=true:=by
 induction c with
 |skip=>intro m _ _ h;cases h
 |region id ops dr=>intro m h hm d;cases h;exact DC hm d
 |seq a b iha ihb=>
  intro m h hm d;obtain⟨x,y,hx,e,rfl⟩:=Na (show Y5 (Ar a) (Ar b)=some m from h)
  rw[oI,ik]at hm;have d:(bif gx t a then true else gx t b)=true:=d;cases ha:gx t a with
  |true=>exact iha hx hm.1 ha
  |false=>rw[ha]at d;exact ihb e hm.2 d
 |cond c a b iha ihb=>
  intro m h hm d;obtain⟨x,y,hx,e,rfl⟩:=Na (show Y5 (Ar a) (Ar b)=some m from h)
  rw[oI,ik]at hm;have d:(bif gx t a then true else gx t b)=true:=d;cases ha:gx t a with
  |true=>exact iha hx hm.1 ha
  |false=>rw[ha]at d;exact ihb e hm.2 d
 |block id b ih=>exact fun h hm=>ih h hm
 |loop b ih=>exact fun h hm=>ih h hm
 |rangeFunc _ _ _ _ _ _=>intro m h;cases h
 |scope b ih=>exact fun h hm=>ih h hm
 |_=>intro m _ _ h;cases h
theorem Agree.keep{N:Nat}{r b:cI}{a a':Act}{w w':World}{m:Nat}{c:Code}(h:Agree N r a)(hm:Ar c=some m)(e:Fr (fun t=>gx t c=true) a w a' w')(h':Agree N b a'):Agree N (yA m r) a':=
 ⟨h'.size,fun t v f=>by
  obtain⟨d,g⟩:=DY f
  rw[e.same t (TO c hm d)];exact h.look t v g⟩
theorem yl{st:St}{r:cI}{f:uC (A1 st)→Prop}(h:Ew st r f):∃t,Gv r st=some (mB (A1 st) t)∧f t:=by
 unfold Ew at h;split at h
 ·rename_i vs hv
  obtain⟨t,rfl,a⟩:=tH h;exact⟨t,hv,a⟩
 ·exact h.elim
theorem Agree.zip{N:Nat}{r:cI}{a:Act}(h:Agree N r a):∀{st:St} {vs:List Value} {r0:cI},Gv r st=some vs→Agree N r0 a→Agree N (ol st vs r0) a
 | [],vs,r0,_,h0=>by cases vs<;>exact h0
 |(i,k)::st,vs,r0,hv,h0=>by
  unfold Gv at hv;split at hv
  ·rename_i v vs' h1 h2
   cases hv;have:=Agree.zip h h2 h0;refine⟨this.size,fun t u b=>?_⟩
   by_cases e:i=t
   ·subst e
    rw[show ol ((i,k)::st) (v::vs') r0=(i,v)::ol st vs' r0 from rfl,iU]at b;cases b
    exact h.look i v h1
   ·rw[show ol ((i,k)::st) (v::vs') r0=(i,v)::ol st vs' r0 from rfl,gX v _ e]at b
    exact this.look t u b
  ·cases hv
theorem BU{t:Nat}:∀{l:List Oper} {o:Oper},o∈l→o.dst=some t→me t l=true
 | [],_,h,_=>by cases h
 |x::l,o,h,hd=>by
  have e:me t (x::l)=(match x.dst with|some d=>bif av d t then true else me t l|none=>me t l):=rfl
  rw[e];rcases ar.1 h with rfl|h
  ·rw[hd];simp only;rw[show av t t=true from sP t];rfl
  ·have:=BU h hd
   cases x.dst with
   |none=>exact this
   |some d=>
    simp only;cases av d t with
    |true=>rfl
    |false=>exact this
def LWP(ro:Option Nat)(n:Nat)(P:Program)(c:Code)(Q:Exit→Act→World→Prop)(a:Act)(w:World):Prop:=
 ∀(b:Frame) (k:List Item) (cs:List Frame),b.roundOf=(FW ro).round→(FW ro).fn b.fn→(FW ro).room (cs.length+1+n)→
  ∃e a' w',Q e a' w'∧ArrivesIn (Machine.fenced P (FW ro)) P (lone (b.atR a (.code c:: .inLoop c::k)) cs w) b k cs e a' w'
theorem LWP.step{c:Code}{Q:Exit→Act→World→Prop}{a:Act}{w:World}(h:c.wpIn (FW ro) n P (Exit.then (LWP ro n P c Q) Q) a w):LWP ro n P c Q a w:=by
 intro b k cs i o p;obtain⟨e,m,j,g,d⟩:=h b (.inLoop c::k) cs i o p;cases e with
 |normal=>
  obtain⟨s,u,t,q,f⟩:=g b k cs i o p;exact⟨s,u,t,q,.of_steps (StepsIn.trans d (.one (fenced_calm o p rfl) stepR_inLoop)) f⟩
 |exit id=>exact⟨_,m,j,g,.pass (x:=.inLoop c) rfl (fun _ _=>.inl (by simp)) d⟩
 |goto l=>exact⟨_,m,j,g,.pass (x:=.inLoop c) rfl (fun _ _=>.inl (by simp)) d⟩
 |ret=>exact⟨_,m,j,g,.pass (x:=.inLoop c) rfl (fun _ _=>.inl (by simp)) d⟩
 |panic ch=>exact⟨_,m,j,g,.pass (x:=.inLoop c) rfl (fun _ _=>.inl (by simp)) d⟩
 |outgrown=>exact⟨_,m,j,g,.pass (x:=.inLoop c) rfl (fun _ _=>.inl (by simp)) d⟩
theorem LWP.loop{c:Code}{Q:Exit→Act→World→Prop}{a:Act}{w:World}(h:LWP ro n P c Q a w):(Code.loop c).wpIn (FW ro) n P Q a w:=by
 intro b k cs f g i;obtain⟨e,a',w',j,d⟩:=h b k cs f g i;exact⟨e,a',w',j,.of_steps (.one (fenced_calm g i rfl) stepR_loop) d⟩
theorem Kc(r:cI):DecOk [] r:=fun _=>.inl rfl
theorem WX(ops:Array Oper)(ls:Nat):left ops ls≤ops.size:=by
 unfold left;exact Nat.le_trans (List.length_filter_le ..) (by simp)
theorem mh(f:P.follows .mixedOrders=true){N id:Nat}{ops:Array Oper}{g:Bool}{p:Ann}{K:cI→ad→Prop}{r:cI}{a:Act}{w:World}{Q:Exit→Act→World→Prop}
  (b:DH P N ops.toList g p K r w.heap)(m:Agree N r a)(v:∀c a w,¬Q (.panic c) a w)
  (i:∀r' a' w',Agree N r' a'→Fr (fun t=>me t ops.toList=true) a w a' w'→K r' w'.heap→Q .normal a' w'):(Code.region id ops g).wpIn (FW ro) n P Q a w:=by
 have k:∀o∈ops.toList,∀d,o.dst=some d→me d ops.toList=true:=fun o q d hd=>BU q hd
 cases g with
 |false=>
  have key:∀ek,Gy P N ek ops.toList ops.toList [] K r w.heap→(Code.region id ops false).wpIn (FW ro) n P Q a w:=fun ek b=>by
   refine wpIn_region ?_;rw[List.range_eq_range',show ops.size=ops.toList.length from rfl]
   exact Gx k i ops.toList 0 rfl [] r a w b m (Kc r) (Fr.refl _ a w)
  unfold DH at b;simp only at b;split at b
  ·exact key _ b
  ·exact key _ b
 |true=>
  unfold DH at b;simp only at b;generalize Rj ops.toList=ms at b;cases hm:FX ops.toList ms with
  |false=>rw[hm]at b;exact b.elim
  |true=>
   rw[hm,cond_true]at b;refine wpIn_region_any f (QW (ms:=ms) _ [] _ _ _ ?_);have u:Tame w {w with drawn:=w.drawn+1}:=⟨rfl,rfl,rfl⟩;have s:Fr (fun t=>me t ops.toList=true) a w a {w with drawn:=w.drawn+1}:=⟨u,rfl,fun _ _=>rfl⟩
   refine(MG (PM hm) k i (fun e a w=>?_) _ false 0 [] [] r a {w with drawn:=w.drawn+1} _ ops.size b m (Kc r) s LsRel.start (fun j x _ h=>by rw[(LsRel.start (ops:=ops)).bit,ni]at h;cases h) (fun x hx=>by cases hx)).1 rfl (WX ops 0)
   cases e with
   |panic ch=>exact .inr (v _ a w)
   |_=>exact .inl fun c hc=>by cases hc
theorem F8(t:Nat)(x y:Code):gx t (.seq x y)=(bif gx t x then true else gx t y):=rfl
theorem Ep(t:Nat)(c:Operand)(x y:Code):gx t (.cond c x y)=(bif gx t x then true else gx t y):=rfl
theorem LF{a b:Bool}:(bif a then true else b)=true↔a=true∨b=true:=by cases a<;>cases b<;>decide
theorem uh(u:P.follows .mixedOrders=true){N:Nat}(c:Code):∀(D:Ann) (Kn:cI→ad→Prop) (Kx:Ex→cI→ad→Prop) (r:cI) (a:Act) (w:World) (Q:Exit→Act→World→Prop),
  ll P N c D Kn Kx r w.heap→Agree N r a→(∀L a w,¬Q (.panic L) a w)→
  (∀g a' w',Agree N g a'→Fr (fun t=>gx t c=true) a w a' w'→Kn g w'.heap→Q .normal a' w')→
  (∀i g a' w',Agree N g a'→Fr (fun t=>gx t c=true) a w a' w'→Kx (.exit i) g w'.heap→Q (.exit i) a' w')→
  (∀g a' w',Agree N g a'→Fr (fun t=>gx t c=true) a w a' w'→Kx .ret g w'.heap→Q .ret a' w')→
  c.wpIn (FW ro) n P Q a w:=by
 induction c with
 |skip=>
  intro D Kn Kx r a w Q j s _ z _ _;exact wpIn_skip (z r a w s (Fr.refl ..) j)
 |region id ops dr=>
  intro D Kn Kx r a w Q j s A z _ _;cases D with
  |reg keep inner=>
   have j:DH P N ops.toList dr inner (fun g h'=>match Ro g keep with|some r0=>Kn r0 h'|none=>False) r w.heap:=j
   refine mh u j s A fun g a' w' O V hk=>?_
   split at hk
   ·rename_i r0 hr0
    refine z r0 a' w' ⟨O.size,fun t v hv=>O.look t v (JK hr0 t v hv).2⟩ V hk
   ·exact hk.elim
  |nil=>exact mh u (show DH P N ops.toList dr (.nil) Kn r w.heap from j) s A z
  |node x y=>exact mh u (show DH P N ops.toList dr (.node x y) Kn r w.heap from j) s A z
  |join st x y=>exact mh u (show DH P N ops.toList dr (.join st x y) Kn r w.heap from j) s A z
  |loop st y=>exact mh u (show DH P N ops.toList dr (.loop st y) Kn r w.heap from j) s A z
  |draw d=>exact mh u (show DH P N ops.toList dr (.draw d) Kn r w.heap from j) s A z
  |kinds k v=>exact mh u (show DH P N ops.toList dr (.kinds k v) Kn r w.heap from j) s A z
  |rf ks x y=>exact mh u (show DH P N ops.toList dr (.rf ks x y) Kn r w.heap from j) s A z
 |seq x y ihx ihy=>
  intro D Kn Kx r a w Q j s A z hx G;have E:∀{a' w'},Fr (fun t=>gx t x=true) a w a' w'→Fr (fun t=>gx t (.seq x y)=true) a w a' w':=fun h=>h.mono fun t S=>by rw[F8,LF];exact .inl S
  have C:∀{a' w' I H},Fr (fun t=>gx t x=true) a w a' w'→Fr (fun t=>gx t y=true) a' w' I H→Fr (fun t=>gx t (.seq x y)=true) a w I H:=
   fun h k=>(E h).trans (k.mono fun t S=>by rw[F8,LF];exact .inr S)
  have plain:∀U R,ll P N x U (fun g h'=>ll P N y R Kn Kx g h') Kx r w.heap→(Code.seq x y).wpIn (FW ro) n P Q a w:=fun U R j=>by
   refine wpIn_seq (ihx U _ Kx r a w _ j s (fun L a w=>A L a w) ?_ (fun i g a' w' p q o=>hx i g a' w' p (E q) o) (fun g a' w' p q o=>G g a' w' p (E q) o))
   intro r1 W X F B K;exact ihy R Kn Kx r1 W X Q K F A (fun g a' w' p q o=>z g a' w' p (C B q) o) (fun i g a' w' p q o=>hx i g a' w' p (C B q) o) (fun g a' w' p q o=>G g a' w' p (C B q) o)
  cases D with
  |join st U R=>
   have j:(match Ar x with
      |none=>False
      |some m=>Join (T:=uC (A1 st)) (fun t h'=>ll P N y R Kn Kx (ol st (mB (A1 st) t) (yA m r)) h')
       fun J=>ll P N x U (fun g h'=>Ew st g fun t=>J t h') Kx r w.heap):=j
   split at j
   ·exact j.elim
   ·rename_i m hm
    refine wpIn_seq (ihx U _ Kx r a w _ j.run s (fun L a w=>A L a w) ?_ (fun i g a' w' p q o=>hx i g a' w' p (E q) o) (fun g a' w' p q o=>G g a' w' p (E q) o))
    intro r1 W X F B K;obtain⟨t,hst,hs2⟩:=yl K;have ha2:Agree N (ol st (mB (A1 st) t) (yA m r)) W:=F.zip hst (s.keep hm B F);exact ihy R Kn Kx _ W X Q hs2 ha2 A (fun g a' w' p q o=>z g a' w' p (C B q) o) (fun i g a' w' p q o=>hx i g a' w' p (C B q) o) (fun g a' w' p q o=>G g a' w' p (C B q) o)
  |_=>exact plain _ _ j
 |cond c x y ihx ihy=>
  intro D Kn Kx r a w Q j s A z hx G;have j:(match dq r c with
   |some (.bool t)=>CondP t (ll P N x D.l Kn Kx r w.heap) (ll P N y D.r Kn Kx r w.heap)
   |_=>False):=j
  have E:∀{a' w'},Fr (fun t=>gx t x=true) a w a' w'→Fr (fun t=>gx t (.cond c x y)=true) a w a' w':=fun h=>h.mono fun t S=>by rw[Ep,LF];exact .inl S
  have C:∀{a' w'},Fr (fun t=>gx t y=true) a w a' w'→Fr (fun t=>gx t (.cond c x y)=true) a w a' w':=fun h=>h.mono fun t S=>by rw[Ep,LF];exact .inr S
  split at j
  ·rename_i t S
   refine wpIn_cond_split (kK s S) (fun e=>?_) (fun e=>?_)
   ·exact ihx _ Kn Kx r a w Q (j.yes e) s A (fun g a' w' p q o=>z g a' w' p (E q) o) (fun i g a' w' p q o=>hx i g a' w' p (E q) o) (fun g a' w' p q o=>G g a' w' p (E q) o)
   ·exact ihy _ Kn Kx r a w Q (j.no e) s A (fun g a' w' p q o=>z g a' w' p (C q) o) (fun i g a' w' p q o=>hx i g a' w' p (C q) o) (fun g a' w' p q o=>G g a' w' p (C q) o)
  ·exact j.elim
 |block id b ih=>
  intro D Kn Kx r a w Q j s A z hx G;refine wpIn_block (ih D Kn _ r a w _ j s (fun L a w=>A L a w) z (fun i g a' w' p q o=>?_) G)
  simp only[Exit.inBlock]at o⊢;cases hi:av i id with
  |true=>
   rw[hi,cond_true]at o;rw[if_pos (aX hi)];exact z g a' w' p q o
  |false=>
   rw[hi,cond_false]at o;rw[if_neg (fun e=>by rw[e,sP]at hi;cases hi)]
   exact hx i g a' w' p q o
 |loop b ih=>
  intro D Kn Kx r a w Q j s A z hx G;cases D with
  |loop st R=>
   have j:(match Ar b with
      |none=>False
      |some m=>Ew st r fun t0=>LoopP (T:=uC (A1 st)) (fun self t h'=>ll P N b R (fun g h''=>Ew st g fun t'=>self t' h'') Kx (ol st (mB (A1 st) t) (yA m r)) h') t0 w.heap):=j
   split at j
   ·exact j.elim
   ·rename_i m hm
    obtain⟨t0,Y,hl⟩:=yl j;have h0:=hl.run (fun t h'=>∀a' w',w'.heap=h'→Agree N (ol st (mB (A1 st) t) (yA m r)) a'→Fr (fun t=>gx t b=true) a w a' w'→LWP ro n P b Q a' w') (fun t h' hF a' w' hw O V=>by
     subst hw
     refine LWP.step (ih R _ Kx _ a' w' _ hF O (fun L a w=>A L a w) ?_ (fun i g I H p q o=>hx i g I H p (V.trans q) o) (fun g I H p q o=>G g I H p (V.trans q) o))
     intro r1 W X F B K
     obtain⟨t1,Z,hk1⟩:=yl K
     exact hk1 W X rfl (F.zip Z (s.keep hm (V.trans B) F)) (V.trans B))
    exact LWP.loop (h0 a w rfl (s.zip Y (s.keep hm (Fr.refl _ a w) s)) (Fr.refl _ a w))
  |_=>exact j.elim
 |rangeFunc f params assign body _ _=>intro D Kn Kx r a w Q j;exact j.elim
 |exit id=>
  intro D Kn Kx r a w Q j s A z hx G;exact wpIn_exit (hx id r a w s (Fr.refl ..) j)
 |scope b _=>intro D Kn Kx r a w Q j;exact j.elim
 |label l=>
  intro D Kn Kx r a w Q j s A z hx G;exact wpIn_label (z r a w s (Fr.refl ..) j)
 |goto l=>intro D Kn Kx r a w Q j;exact j.elim
 |ret=>
  intro D Kn Kx r a w Q j s A z hx G;exact wpIn_ret (G r a w s (Fr.refl ..) j)
 |refuse why=>intro D Kn Kx r a w Q j;exact j.elim
end Go.Lift
namespace Go.Lift
open Go
variable {P:Program}
theorem qD{N:Nat}{r:cI}{a:Act}{w:World}(d:Agree N r a):∀{l:List ResultVar} {K:List Value→Prop},om P r w.heap l K→
  ∃vs,(∀g:ResultVar→Sem Value,(∀t,g (.tmp t)=pure (a.tmps.getD t undef))→(∀x t,g (.cell x t)=do loadVar t (←asAddr (a.tmps.getD x undef)))→(l.mapM g).run P w=.ok vs w)∧K vs
 | [],K,h=>⟨[],fun g _ _=>by rw[List.mapM_nil];rfl,h⟩
 | .tmp t::l,K,h=>by
  unfold om at h;split at h
  ·rename_i v hv
   obtain⟨vs,f,i⟩:=qD d h;refine⟨v::vs,fun g e c=>?_,i⟩
   rw[List.mapM_cons,e];simp only[aU,bK,aC];rw[f g e c];simp only[aC,d.look t v hv]
  ·exact h.elim
 | .cell x t::l,K,h=>by
  unfold om at h;split at h
  ·rename_i v hv
   obtain⟨u,S,k,m,n⟩:=ED h;obtain⟨vs,f,i⟩:=qD d k;refine⟨u::vs,fun g e c=>?_,i⟩
   rw[List.mapM_cons,c];have j:(do loadVar t (←asAddr (a.tmps.getD x undef)):Sem Value).run P w=.ok u w:=by
    rw[d.look x v hv];unfold MS at h;cases v with
    |pointer p=>cases p with
     |none=>exact h.elim
     |some b=>exact n w m
    |_=>exact h.elim
   simp only[aU]at j⊢;rw[j];simp only[aC];rw[f g e c];simp only[bK,aC]
  ·exact h.elim
theorem Jn(ks:List Kind)(t:uC ks):(if h:(mB ks t).toArray.size=1 then(mB ks t).toArray[0]else Value.tuple (mB ks t).toArray)=B9 ks (mB ks t):=by
 match ks,t with
 | [],t=>rfl
 | [k],t=>rfl
 |k::l::ks,(x,t)=>
  have:(mB (k::l::ks) (x,t)).length=(k::l::ks).length:=uz _ _;rw[dif_neg (by simp only[cP,this,ay];omega)];rfl
theorem xm:∀(vs:List Value) (i t:Nat) (v:Value),kJ (qI i vs) t=some v→i≤t∧vs[t-i]? =some v
 | [],i,t,v,h=>by cases h
 |u::vs,i,t,v,h=>by
  by_cases e:i=t
  ·subst e
   rw[show qI i (u::vs)=(i,u)::qI (i+1) vs from rfl,iU]at h
   cases h;exact⟨Nat.le_refl _,by simp⟩
  ·rw[show qI i (u::vs)=(i,u)::qI (i+1) vs from rfl,gX u _ e]at h
   obtain⟨b,a⟩:=xm vs (i+1) t v h;refine⟨by omega,?_⟩;rw[show t-i=(t-(i+1))+1 by omega,List.getElem?_cons_succ]
   exact a
theorem RE(d:P.follows .mixedOrders=true){n:Nat}{fn:Func}{c:Code}{o:Ann}{args:List Value}{ks:List Kind}{K:uC ks→ad→Prop}{w:World}(p:args.length≤fn.ntmps)(y:Jj P fn c o args ks K w.heap):
  c.wpIn (FW none) n P (bodyPost P fn fun e w'=>Tame w w'∧∃t:uC ks,e=.returned (B9 ks (mB ks t))∧K t w'.heap) {tmps:=args.toArray++jG (fn.ntmps-args.toArray.size) undef,defers:= []} w:=by
 have x:Agree fn.ntmps (qI 0 args) {tmps:=args.toArray++jG (fn.ntmps-args.toArray.size) undef,defers:= []}:=by
  refine⟨by simp;omega,fun t v s=>?_⟩
  obtain⟨_,j⟩:=xm args 0 t v s;simp only[eK]at j;have i:=(bd.1 j).1;simp[Array.getElem?_append,i];rw[ax i]at j;cases j;rfl
 have b:∀k a' (w':World),Agree fn.ntmps k a'→Fr (fun t=>gx t c=true) {tmps:=args.toArray++jG (fn.ntmps-args.toArray.size) undef,defers:= []} w a' w'→
   om P k w'.heap fn.results.toList (fun vs=>Fw ks vs fun t=>K t w'.heap)→
   a'.defers= []∧∃v,(results fn a'.tmps).run P w'=.ok v w'∧(Tame w w'∧∃t:uC ks,Ending.returned v=.returned (B9 ks (mB ks t))∧K t w'.heap):=fun k a' w' m f u=>by
  obtain⟨vs,g,hd⟩:=qD m u;obtain⟨t,rfl,q⟩:=tH hd;refine⟨f.defers,_,?_,f.tame,t,rfl,q⟩;unfold results;rw[nq];simp only[aU,Sem.run_map];rw[g _ (fun _=>rfl) (fun _ _=>rfl)]
  simp only[aC,bK];rw[←Jn]
 exact uh d c o _ _ _ _ w _ y x (fun z a w h=>h.2.2.elim fun _ h=>by cases h.1) b (fun _ _ _ _ _ _ h=>h.elim) b
theorem HE.intro(b:P.follows .mixedOrders=true){f:FuncId}{fn:Func}{c:Code}{e:Ann}{args:List Value}{ks:List Kind}{K:uC ks→ad→Prop}{h:ad}
  (i:P.funcs[f]? =some fn) (g:fn.body=some c) (a:∀(args:Array Value) (w:World),(callFunc f args).run P w=.ok (.enter f args) w) (d:args.length≤fn.ntmps)
  (k:Jj P fn c e args ks K h):HE P f args ks K h:=by
 refine⟨fun w j=>⟨a,?_⟩⟩
 subst j;exact(callsIn_wide (n:=0)).1 (callsIn_of_wp (F:=FW none) i g trivial (RE b d k) rfl)
theorem HD.intro(b:P.follows .mixedOrders=true){f:FuncId}{fn:Func}{c:Code}{g:Ann}{args:List Value}{ks:List Kind}{K:ad→Prop}{h:ad}
  (k:P.funcs[f]? =some fn) (j:fn.body=some c) (a:∀(args:Array Value) (w:World),(callFunc f args).run P w=.ok (.enter f args) w) (d:args.length≤fn.ntmps)
  (s:Jj P fn c g args ks (fun _ h'=>K h') h):HD P f args K h:=by
 refine fun w p=>⟨a,fun n=>?_⟩
 subst p;exact(callsDIn_of_wp (F:=FW none) k j trivial (RE b d s) rfl).mono fun e u w' ⟨m,o,t,i,q⟩=>⟨m,o,⟨_,i⟩,q⟩
theorem HC.intro(b:P.follows .mixedOrders=true){f:FuncId}{fn:Func}{c:Code}{e:Ann}{args:List Value}{ks:List Kind}{K:uC ks→ad→Prop}{h:ad}
 (i:P.funcs[f]? =some fn) (g:fn.body=some c) (a:∀(args:Array Value) (w:World),(callFunc f args).run P w=.ok (.enter f args) w) (d:args.length≤fn.ntmps)
 (j:Jj P fn c e args ks K h):HC P f args ks K h:=(HE.intro b i g a d j).hc
theorem Qt{N:Nat}{args:List Value}(c:args.length≤N):Agree N (qI 0 args) {tmps:=args.toArray++jG (N-args.toArray.size) undef,defers:= []}:=by
 refine⟨by simp;omega,fun t v d=>?_⟩
 obtain⟨_,b⟩:=xm args 0 t v d;simp only[eK]at b;have a:=(bd.1 b).1;simp[Array.getElem?_append,a];rw[ax a]at b;cases b;rfl
theorem ML{N:Nat}{fn:Func}{ks:List Kind}{K:uC ks→ad→Prop}{c:cI}{a':Act}{w':World}(b:Agree N c a')(e:om P c w'.heap fn.results.toList (fun vs=>Fw ks vs fun t=>K t w'.heap)):
  ∃t:uC ks,(results fn a'.tmps).run P w'=.ok (B9 ks (mB ks t)) w'∧K t w'.heap:=by
 obtain⟨vs,a,hd⟩:=qD b e;obtain⟨t,rfl,d⟩:=tH hd;refine⟨t,?_,d⟩;unfold results;rw[nq];simp only[aU,Sem.run_map];rw[a _ (fun _=>rfl) (fun _ _=>rfl)]
 simp only[aC,bK];rw[←Jn]
end Go.Lift
namespace Go.Lift
open Go
variable {P:Program}
abbrev GS(D:Nat):Deferred:={target:=.collected D,args:= #[]}
abbrev qi:Mk→Deferred
 | .it D=>GS D
 | .call f vs=>{target:=.fn (.func f) #[],args:= #[]++vs.toArray}
theorem HI{N:Nat}:∀{ps:List Nat} {vs:List Value} {r:cI} {tmps:Array Value},Bc N ps=true→Agree N r {tmps:=tmps,defers:= []}→
  Agree N (Wf ps vs r) {tmps:=(ps.zip vs).foldl (fun t x=>t.setIfInBounds x.1 x.2) tmps,defers:= []}
 | [],vs,r,tmps,_,h=>by cases vs<;>exact h
 |i::ps,[],r,tmps,_,h=>h
 |i::ps,v::vs,r,tmps,a,h=>by
  have a:(zW i N&&Bc N ps)=true:=a;rw[aJ]at a;have b:i<N:=by simpa using a.1
  have:=h.put i v b;exact HI (tmps:=tmps.setIfInBounds i v) a.2 this
theorem Gp(w:World)(o:Obj):Tame w (w.alloc o):=⟨rfl,rfl,rfl⟩
theorem oK(w:World)(b:Nat)(o:Obj):Tame w (w.putObj b o):=⟨rfl,rfl,rfl⟩
theorem MZ(w:World)(b:Nat)(o:Obj):(w.putObj b o).heap=w.heap.setIfInBounds b o:=rfl
theorem RL(ps:Array Nat)(vs:List Value)(t:Array Value):(ps.zip vs.toArray).foldl (fun t (x:Nat×Value)=>t.setIfInBounds x.1 x.2) t=(ps.toList.zip vs).foldl (fun t x=>t.setIfInBounds x.1 x.2) t:=by
 obtain⟨l⟩:=ps;simp
theorem Fm(A:P.follows .mixedOrders=true){n N:Nat}{g:Operand}{ps:Array Tmp}{assign body:Code}{aa ab:Ann}{ks:List Kind}{fv:Value}{r:cI}{a:Act}{w:World}{Q:Exit→Act→World→Prop}
  {KN:ad→Prop}{KX:Nat→ad→Prop}{KR:ad→Prop}(Z:Bc N ps.toList=true)(O:ps.toList.length=ks.length)(hg:dq r g=some fv)(V:Agree N r a)
  (hR:RangeP P fv ks w.heap (fun Jp bz x k h'=>Pc P N ps.toList ks assign body (.node aa ab) r (w.heap.size+1) Jp bz x k h') KN KX KR)
  (hn:∀w',Tame w w'→KN w'.heap→Q .normal {a with defers:=GS w.heap.size::a.defers} w')
  (hx:∀i w',Tame w w'→KX i w'.heap→Q (.exit i) {a with defers:=GS w.heap.size::a.defers} w')
  (hr:∀w',Tame w w'→KR w'.heap→Q .ret {a with defers:=GS w.heap.size::a.defers} w'):(Code.rangeFunc g ps assign body).wpIn (FW none) n P Q a w:=by
 refine wpIn_rangeFunc fun fn _=>?_
 obtain⟨lo,m⟩:∃lo:LoopState→Option Ex→Obj,lo=fun s j=>.loop {state:=s,pending:=Lr j,fn,tmps:=a.tmps,params:=ps,assign,body,defers:=w.heap.size}:=⟨_,rfl⟩
 have hj:∀j:Option Ex,(Lr j).isNone=j.isNone:=fun j=>by rcases j with _|⟨_|_⟩<;>rfl
 obtain⟨f,first,cap,rfl,he⟩:=hR.run lo (fun s j=>⟨_,by rw[m]⟩) (fun x h' K q z=>by
  refine⟨.inr ⟨_,rfl,⟨fun H X=>?_⟩⟩⟩
  subst X
  rw[m]at q
  have hy:=run_yield (P:=P) (args:=(mB ks x).toArray) q (by simp only[cP,uz];rw[←O];rfl)
  refine⟨_,_,_,_,hy,fun c cs=>?_⟩
  have hA:Agree N (Wf ps.toList (mB ks x) r) {tmps:=(ps.zip (mB ks x).toArray).foldl (fun t (x:Nat×Value)=>t.setIfInBounds x.1 x.2) a.tmps,defers:= []}:=by
   rw[RL]
   exact HI Z ⟨V.size,V.look⟩
  have p:∀j:Option Ex,∀W:World,Tame H W→(W.heap[w.heap.size+1]? =some (lo .busy none)∧K j.isNone (W.heap.setIfInBounds (w.heap.size+1) (lo (if j.isNone then .ready else .done) j)))→
    ∃v w',(Instr.endRound (w.heap.size+1) (Lr j)).run P W=.ok v w'∧∃b,Ending.returned v=.returned (.bool b)∧Tame H w'∧K b w'.heap:=by
   rintro j W I ⟨h1,T⟩
   rw[m]at h1
   have:=run_endRound (P:=P) (Lr j) h1
   refine⟨_,_,this,_,rfl,I.trans (oK ..),?_⟩
   rw[m]at T
   rw[hj]
   exact T
  have:=roundIn_of_wpIn (F:=FW none) (n:=0) (P:=P) (l:=w.heap.size+1) (f:=fn) (assign:=assign) (body:=body) (w:=H)
   (tmps:=(ps.zip (mB ks x).toArray).foldl (fun t (x:Nat×Value)=>t.setIfInBounds x.1 x.2) a.tmps)
   (R:=fun e w'=>∃b,e=.returned (.bool b)∧Tame H w'∧K b w'.heap) trivial (by
    refine uh (ro:=some (w.heap.size+1)) A assign aa _ _ _ _ H _ z hA (fun ch a w h=>h) ?_ (fun i r' a' w' _ _ h=>h.elim) (fun r' a' w' _ _ h=>h.elim)
    rintro r2 a2 w2 ha2 E ⟨u,C⟩
    rw[m]at u
    refine⟨_,run_beginRound u rfl,?_⟩
    have G:∀o,o=lo .busy none→w2.heap.setIfInBounds (w.heap.size+1) o=w2.heap.setIfInBounds (w.heap.size+1) (lo .busy none):=fun o ho=>by rw[ho]
    refine uh (ro:=some (w.heap.size+1)) A body ab (fun _ T=>_) (fun e _ T=>_) _ _ (w2.putObj (w.heap.size+1) _) _ (by
     rw[MZ,G _ (by rw[m])];exact C) ha2 (fun ch a w h=>h) ?_ ?_ ?_
    ·rintro r3 a3 L S y J
     exact p none L ((E.tame.trans (oK ..)).trans y.tame) J
    ·rintro i r3 a3 L S y J
     exact p (some (.exit i)) L ((E.tame.trans (oK ..)).trans y.tame) J
    ·rintro r3 a3 L S y J
     exact p (some .ret) L ((E.tame.trans (oK ..)).trans y.tame) J)
  obtain⟨e,w',⟨b,rfl,I,hK⟩,hs⟩:=this.2 c cs (fun d h=>by simp[FW]at h)
  exact⟨b,w',I,hK,hs.steps⟩)
 have B:=he.run ((w.alloc (.deferred (some []))).alloc (lo .ready none)) rfl;refine⟨w.heap.size+1,[GS w.heap.size],(w.alloc (.deferred (some []))).alloc (lo .ready none),{target:=.fn (.func f) cap,args:=first++ #[.func (.yield (w.heap.size+1)) #[] #[]]},(w.alloc (.deferred (some []))).alloc (lo .ready none),f,
  first++ #[.func (.yield (w.heap.size+1)) #[] #[]]++cap,(w.alloc (.deferred (some []))).alloc (lo .ready none),?_,?_,fun _ _=>trivial,?_,fun h=>by simp[FW]at h,?_⟩
 ·rw[m];exact run_enterLoop_outer fn a.tmps ps assign body
 ·have Y:=kK V hg
  simp[resolve,Y,Deferred.ofValue,bK];rfl
 ·simp[invoke,B.1]
 ·refine Hz ?_
  have e:(first.toList++ [Value.func (.yield (w.heap.size+1)) #[] #[]]++cap.toList).toArray=first++ #[.func (.yield (w.heap.size+1)) #[] #[]]++cap:=by apply cQ;simp
  rw[←e];refine B.2.mono ?_;rintro e w' ⟨I,t,rfl,s,j,hs,q,p⟩;have U:Tame w w':=((Gp w _).trans (Gp _ _)).trans I;rw[m]at q;refine⟨_,_,run_endLoop q hs,?_⟩;have D:∀o,Tame w (w'.putObj (w.heap.size+1) o):=fun o=>U.trans (oK ..)
  have G:∀o,o=lo .exhausted j→(w'.putObj (w.heap.size+1) o).heap=w'.heap.setIfInBounds (w.heap.size+1) (lo .exhausted j):=fun o ho=>by rw[ho];rfl
  rcases j with _|⟨i|_⟩
  ·exact hn _ (D _) (by rw[G _ (by rw[m])];exact p)
  ·exact wpIn_exit (hx i _ (D _) (by rw[G _ (by rw[m])];exact p))
  ·exact wpIn_ret (hr _ (D _) (by rw[G _ (by rw[m])];exact p))
theorem Hq{n N id d:Nat}{ops:Array Oper}{m o:Oper}{x:Operand}{f:FuncId}{as:List Operand}{vs:List Value}{v:Value}{r:cI}{a:Act}{w:World}{Q:Exit→Act→World→Prop}(b:Hr ops.toList=some (m,o,x,d,f,as))(s:dq r x=some v)(q:d<N)(g:oA ((d,v)::r) as=some vs)(i:Agree N r a)
  (p:∀a',Agree N ((d,v)::r) a'→a'.defers=qi (.call f vs)::a.defers→Q .normal a' w):(Code.region id ops false).wpIn (FW none) n P Q a w:=by
 unfold Hr at b;split at b
 ·rename_i m' o' hl
  split at b
  ·rename_i x' d' c h1 h2 h3 h4 h5 h6
   split at b
   ·rename_i f' hc
    cases b;have k:ops[0]? =some m:=by rw[←bq,hl];rfl
    have e1:ops[1]? =some o:=by rw[←bq,hl];rfl
    have es:ops.size=2:=by rw[←Array.length_toList,hl];rfl
    have u:∀y,Region.wanted m y=true:=fun y=>by simp[Region.wanted,h2]
    have z:∀y,Region.wanted o y=true:=fun y=>by simp[Region.wanted,h6]
    refine wpIn_region ?_;rw[es,show eI 2= [0,1]from rfl]
    simp only[wpOpsIn,k,e1,u,z,if_true];refine BigFrame.wpIn_move x h1 ?_;rw[kK i s,h3];have e:=i.put d v q;refine⟨fun _ _=>trivial,?_⟩
    have t:((Oper.semAt (FW none).round (a.put (some d) v).eval o).run P w)=.ok (.defer (qi (.call f vs))) w:=by
     show((execOp (a.put (some d) v).eval o).run P w)=_
     have e2:=mN e g;have j:c.args.map (a.put (some d) v).eval=vs.toArray:=by rw[←e2];apply cQ;simp
     simp only[execOp,h4,resolve,hc,j];simp[Act.eval,Deferred.ofValue,qi]
    rw[t,Oper.uponIn_defer,h5];exact p _ ⟨e.size,e.look⟩ rfl
   ·cases b
  ·cases b
 ·cases b
theorem KJ(G:P.follows .mixedOrders=true){n N:Nat}(c:Code):∀(s:Ann) (Kn:List Mk→cI→ad→Prop) (Kx:Ex→List Mk→cI→ad→Prop) (ms:List Mk) (r:cI) (a:Act) (w:World) (Q:Exit→Act→World→Prop),
  A5 P N c s Kn Kx ms r w.heap→Agree N r a→a.defers=ms.map qi→(∀H a w,¬Q (.panic H) a w)→
  (∀p q a' w',Agree N q a'→a'.defers=p.map qi→Tame w w'→Kn p q w'.heap→Q .normal a' w')→
  (∀i p q a' w',Agree N q a'→a'.defers=p.map qi→Tame w w'→Kx (.exit i) p q w'.heap→Q (.exit i) a' w')→
  (∀p q a' w',Agree N q a'→a'.defers=p.map qi→Tame w w'→Kx .ret p q w'.heap→Q .ret a' w')→
  c.wpIn (FW none) n P Q a w:=by
 have plain:∀(c:Code) (s:Ann) (Kn:List Mk→cI→ad→Prop) (Kx:Ex→List Mk→cI→ad→Prop) (ms:List Mk) (r:cI) (a:Act) (w:World) (Q:Exit→Act→World→Prop),
  ll P N c s (Kn ms) (fun e=>Kx e ms) r w.heap→Agree N r a→a.defers=ms.map qi→(∀H a w,¬Q (.panic H) a w)→
  (∀p q a' w',Agree N q a'→a'.defers=p.map qi→Tame w w'→Kn p q w'.heap→Q .normal a' w')→
  (∀i p q a' w',Agree N q a'→a'.defers=p.map qi→Tame w w'→Kx (.exit i) p q w'.heap→Q (.exit i) a' w')→
  (∀p q a' w',Agree N q a'→a'.defers=p.map qi→Tame w w'→Kx .ret p q w'.heap→Q .ret a' w')→
  c.wpIn (FW none) n P Q a w:=by
  intro c s Kn Kx ms r a w Q j u hd C z hx B;exact uh G c s _ _ r a w Q j u C (fun q a' w' D A E=>z ms q a' w' D (A.defers.trans hd) A.tame E) (fun i q a' w' D A E=>hx i ms q a' w' D (A.defers.trans hd) A.tame E)
   (fun q a' w' D A E=>B ms q a' w' D (A.defers.trans hd) A.tame E)
 induction c with
 |skip=>intro s Kn Kx ms r a w Q j;exact plain _ s Kn Kx ms r a w Q j
 |region id ops dr=>
  intro s Kn Kx ms r a w Q j u hd C z hx B;have j:(match Hr ops.toList with
   |none=>ll P N (.region id ops dr) s (Kn ms) (fun e=>Kx e ms) r w.heap
   |some (_,_,x,d,f,as)=>bif dr then False else match dq r x with
    |some v=>bif zW d N then(match oA ((d,v)::r) as with|some vs=>Kn (.call f vs::ms) ((d,v)::r) w.heap|none=>False)else False
    |none=>False):=j
  split at j
  ·exact plain _ s Kn Kx ms r a w Q j u hd C z hx B
  ·rename_i m o x d f as he
   cases dr with
   |true=>exact j.elim
   |false=>
    rw[cond_false]at j;split at j
    · rename_i v hv
      cases hb:zW d N with
      |false=>rw[hb]at j;exact j.elim
      |true=>
       rw[hb,cond_true]at j;split at j
       ·rename_i vs hvs
        refine Hq he hv (by simpa using hb) hvs u fun a' L W=>z (.call f vs::ms) _ a' w L ?_ ⟨rfl,rfl,rfl⟩ j
        rw[W,hd];rfl
       ·exact j.elim
    · exact j.elim
 |seq x y ihx ihy=>
  intro s Kn Kx ms r a w Q j u hd C z hx B;have j:(bif (bif tg x then true else tg y)then A5 P N x s.l (fun ms q h'=>A5 P N y s.r Kn Kx ms q h') Kx ms r w.heap
   else ll P N (.seq x y) s (Kn ms) (fun e=>Kx e ms) r w.heap):=j
  cases hb:(bif tg x then true else tg y)with
  |false=>rw[hb]at j;exact plain _ _ _ _ _ _ _ _ _ j u hd C z hx B
  |true=>
   rw[hb,cond_true]at j;refine wpIn_seq (ihx s.l _ Kx ms r a w _ j u hd (fun H a w=>C H a w) ?_ hx B)
   intro U Z a1 Y S V I T;exact ihy s.r Kn Kx U Z a1 Y Q T S V C (fun p q a' w' D A E F=>z p q a' w' D A (I.trans E) F) (fun i p q a' w' D A E F=>hx i p q a' w' D A (I.trans E) F)
    (fun p q a' w' D A E F=>B p q a' w' D A (I.trans E) F)
 |cond c x y ihx ihy=>
  intro s Kn Kx ms r a w Q j u hd C z hx B;have j:(bif (bif tg x then true else tg y)then
    (match dq r c with
     |some (.bool t)=>CondP t (A5 P N x s.l Kn Kx ms r w.heap) (A5 P N y s.r Kn Kx ms r w.heap)
     |_=>False)
   else ll P N (.cond c x y) s (Kn ms) (fun e=>Kx e ms) r w.heap):=j
  cases hb:(bif tg x then true else tg y)with
  |false=>rw[hb]at j;exact plain _ _ _ _ _ _ _ _ _ j u hd C z hx B
  |true=>
   rw[hb,cond_true]at j;split at j
   ·rename_i t J
    exact wpIn_cond_split (kK u J) (fun e=>ihx _ Kn Kx ms r a w Q (j.yes e) u hd C z hx B) (fun e=>ihy _ Kn Kx ms r a w Q (j.no e) u hd C z hx B)
   ·exact j.elim
 |block id b ih=>
  intro s Kn Kx ms r a w Q j u hd C z hx B;have j:(bif tg b then A5 P N b s Kn (fun e ms q h'=>match e with
    | .exit i=>bif av i id then Kn ms q h' else Kx (.exit i) ms q h'
    | .ret=>Kx .ret ms q h') ms r w.heap
   else ll P N (.block id b) s (Kn ms) (fun e=>Kx e ms) r w.heap):=j
  cases hb:tg b with
  |false=>rw[hb]at j;exact plain _ _ _ _ _ _ _ _ _ j u hd C z hx B
  |true=>
   rw[hb,cond_true]at j;refine wpIn_block (ih s Kn _ ms r a w _ j u hd (fun H a w=>C H a w) z (fun i p q a' w' D A E F=>?_) B)
   simp only[Exit.inBlock]at F⊢;cases hi:av i id with
   |true=>
    rw[hi,cond_true]at F;rw[if_pos (aX hi)];exact z p q a' w' D A E F
   |false=>
    rw[hi,cond_false]at F;rw[if_neg (fun e=>by rw[e,sP]at hi;cases hi)]
    exact hx i p q a' w' D A E F
 |loop b ih=>intro s Kn Kx ms r a w Q j;exact plain _ s Kn Kx ms r a w Q j
 |rangeFunc g ps assign body _ _=>
  intro s Kn Kx ms r a w Q j u hd C z hx B;cases s with
  |rf ks aa ab=>
   have j:(bif Bc N ps.toList&&av ps.toList.length ks.length then
    (match dq r g with
     |some fv=>RangeP P fv ks w.heap (fun Jp X x k h'=>Pc P N ps.toList ks assign body (.node aa ab) r (w.heap.size+1) Jp X x k h')
       (fun h'=>Kn (.it w.heap.size::ms) r h') (fun i h'=>Kx (.exit i) (.it w.heap.size::ms) r h') (fun h'=>Kx .ret (.it w.heap.size::ms) r h')
     |none=>False)else False):=j
   cases hb:(Bc N ps.toList&&av ps.toList.length ks.length)with
   |false=>rw[hb]at j;exact j.elim
   |true=>
    rw[hb,cond_true]at j;rw[aJ]at hb;split at j
    · rename_i fv hfv
      have R:Agree N r {a with defers:=GS w.heap.size::a.defers}:=⟨u.size,u.look⟩;have O:({a with defers:=GS w.heap.size::a.defers}:Act).defers=(.it w.heap.size::ms).map qi:=by rw[List.map_cons,←hd]
      exact Fm G hb.1 (aX hb.2) hfv u j (fun w' J K=>z _ r _ w' R O J K) (fun i w' J K=>hx i _ r _ w' R O J K) (fun w' J K=>B _ r _ w' R O J K)
    · exact j.elim
  |_=>exact j.elim
 |exit id=>intro s Kn Kx ms r a w Q j;exact plain _ s Kn Kx ms r a w Q j
 |scope b _=>intro s Kn Kx ms r a w Q j;exact j.elim
 |label l=>intro s Kn Kx ms r a w Q j;exact plain _ s Kn Kx ms r a w Q j
 |goto l=>intro s Kn Kx ms r a w Q j;exact j.elim
 |ret=>intro s Kn Kx ms r a w Q j;exact plain _ s Kn Kx ms r a w Q j
 |refuse why=>intro s Kn Kx ms r a w Q j;exact j.elim
theorem wR{fn:Func}{ks:List Kind}{K:uC ks→ad→Prop}{N:Nat}{n:Nat}{r:cI}{a:Act}{g:World}(d:Agree N r a):∀(ms:List Mk) (w:World),Tame g w→
  MF P ms (fun h'=>om P r h' fn.results.toList fun vs=>Fw ks vs fun t=>K t h') w.heap→
  LeavesInM (FW none) n P fn a.tmps (fun e w'=>Tame g w'∧∃t:uC ks,e=.returned (B9 ks (mB ks t))∧K t w'.heap) (ms.map qi) .returning w
 | [],w,ht,h=>by
  obtain⟨t,b,j⟩:=ML d h;exact⟨_,b,ht,t,rfl,j⟩
 | .it D::ms,w,ht,h=>by
  refine⟨by simp,.inl ⟨D,_,rfl,run_takeDeferred h.1,?_⟩⟩;exact wR d ms (w.putObj D (.deferred none)) (ht.trans (oK ..)) h.2
 | .call f vs::ms,w,ht,h=>by
  obtain⟨hc,hd⟩:=h w rfl;refine⟨by simp,.inr ⟨(fun e=>by cases e),.func f,#[],f,vs.toArray,rfl,?_,fun _ _=>trivial,CallsDIn.mono (hd (n-1)) fun e u w' ⟨k,c,⟨v,i⟩,m⟩=>?_⟩⟩
  ·have:=hc vs.toArray w
   simpa[invoke]using this
  ·subst k i
   exact wR d ms w' (ht.trans c) m
theorem HE.introM(k:P.follows .mixedOrders=true){f:FuncId}{fn:Func}{c:Code}{q:Ann}{args:List Value}{ks:List Kind}{K:uC ks→ad→Prop}{h:ad}
  (v:P.funcs[f]? =some fn) (s:fn.body=some c) (g:∀(args:Array Value) (w:World),(callFunc f args).run P w=.ok (.enter f args) w) (m:args.length≤fn.ntmps)
  (y:Pd P fn c q args ks K h):HE P f args ks K h:=by
 refine⟨fun w x=>⟨g,?_⟩⟩
 subst x;refine(callsIn_wide (n:=0)).1 (callsIn_of_wp_marks (F:=FW none) v s trivial ?_ rfl);refine wpIn_mono (Q:=fun e a w'=>(∀o,e≠ .panic o)∧bodyPostM (FW none) 0 P fn (fun e w'=>Tame w w'∧∃t:uC ks,e=.returned (B9 ks (mB ks t))∧K t w'.heap) e a w') ?_ fun e a w h=>h.2
 refine KJ k c q _ _ [] _ _ w _ y (Qt m) rfl (fun o a w h=>h.1 o rfl) ?_ (fun _ _ _ _ _ _ _ _ h=>h.elim) ?_
 ·intro i u a' w' d j b p
  refine⟨(fun _ e=>by cases e),?_⟩
  show LeavesInM _ _ _ _ _ _ a'.defers _ _
  rw[j];exact wR d i w' b p
 ·intro i u a' w' d j b p
  refine⟨(fun _ e=>by cases e),?_⟩
  show LeavesInM _ _ _ _ _ _ a'.defers _ _
  rw[j];exact wR d i w' b p
theorem HC.introM(b:P.follows .mixedOrders=true){f:FuncId}{fn:Func}{c:Code}{e:Ann}{args:List Value}{ks:List Kind}{K:uC ks→ad→Prop}{h:ad}
 (i:P.funcs[f]? =some fn) (g:fn.body=some c) (a:∀(args:Array Value) (w:World),(callFunc f args).run P w=.ok (.enter f args) w) (d:args.length≤fn.ntmps)
 (j:Pd P fn c e args ks K h):HC P f args ks K h:=(HE.introM b i g a d j).hc
end Go.Lift
namespace Go.Lift
open Go
def AppP(z:Option (List Value))(e b:Nat)(t:TypeId)(a:Option Addr)(sl d c:Nat)(xs:List Value)(h:ad)(K:SliceV→ad→Prop):Prop:=
 (sl+c≤d→sN h a (sl*e) xs∧cu xs=true∧K ⟨a,sl+c,d⟩ (fI h a (sl*e) xs))∧
 (d<sl+c→∃old z',SRow h a (sl*e) old∧z=some z'∧0<b∧Builtin.nextslicecap (sl+c) d*b≤2^48∧
  ∀nc,sl+c≤nc→K ⟨some (aH h),sl+c,nc⟩ (hnew h (old++xs++du (nc-(sl+c)) z') t))
def NextS(a:Addr)(h:ad)(Kend:Prop)(Kstep:Nat→UInt8→ad→Prop):Prop:=
 a.off=0∧∃s pos,h[a.block]? =some (.stringIter s pos)∧
  ((s.size≤pos∧Kend)∨(∃b:UInt8,s[pos]? =some b∧b.toNat<128∧Kstep pos b (h.setIfInBounds a.block (.stringIter s (pos+1)))))
end Go.Lift
