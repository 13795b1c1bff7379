/- A part of the proof that the named laws of this program answer true, whatever the input. -/
import Derived.Test.YtopdngagmfanlaaGreatDoorLift1
import Derived.BigFrameIn
open Array renaming getD_eq_getD_getElem?→dg,getElem?_toList→bv,getElem?_setIfInBounds_ne→eY,replicate→jO,getElem?_eq_some_iff→ct,getElem?_eq_getElem→gO,getElem?_eq_none→lB,mapM_eq_mapM_toList→nH,ext'→cQ
open Bool renaming eq_false_iff→qd,or_eq_true→fq,and_eq_true→aJ,not_eq_true'→qc,or_eq_false_iff→iz
open Go.Result renaming andThen_ok→aC
open Go.Sem renaming run_bind→aW,run_pure→bQ
open List renaming mem_of_getElem?→bf,length_cons→ay,mem_cons→ar,getElem?_cons_zero→dY,getElem?_eq_getElem→ah,any_eq_true→cp,getElem?_eq_some_iff→aZ,mem_cons_of_mem→aK,mem_cons_self→aP,range→eN,filter_cons→dG,mem_singleton→aO,size_toArray→cP
open Nat renaming blt→AC,beq→az,eq_of_beq_eq_true→bd,land→j6,lor→cY,testBit_and→sf,zero_testBit→nD,succ→gb,zero_add→aR,beq_refl→te,lt_or_ge→cC,pred→Ah,sub_zero→eP
open Option renaming some→bq
namespace Go.Lift
open Go
variable {P:Program} {ro:Option Nat} {n:Nat}
def FW(ro:Option Nat):Fence:={fn:=fun _=>True,depth:=none,alive:=false,round:=ro}
theorem TH(m:Machine):m.fenced P (FW ro):=by
 intro g _;exact⟨fun h=>by simp[FW]at h,.inl trivial,fun _ _=>trivial,fun d h=>by simp[FW]at h⟩
theorem Bw{m a:Machine}(h:Steps P m a):StepsIn (Machine.fenced P (FW ro)) P m a:=(StepsIn.of_steps h).mono fun m _=>TH m
theorem Ib{k:Nat}{f:FuncId}{args:Array Value}{w:World}{R:Ending→World→Prop}(h:Calls P f args w R):CallsIn (FW ro) k P f args w R:=by
 refine⟨trivial,fun cs _=>?_⟩
 obtain⟨e,w',fr,b,hc,a,d⟩:=h cs;refine⟨e,w',fr,b,?_,a,d⟩;cases e with
 |returned v=>exact Bw hc
 |panicked c=>exact Bw hc
 |outgrown=>exact hc
theorem qZ{o:Oper}{a:Act}{w:World}{K:WK}{next:Act→World→Prop}{Q:Exit→Act→World→Prop}(hd:∀c,o.op≠ .defer c)(h:OL P (execOp a.eval o) K w)
  (j:∀v w',Tame w w'→K v w'.heap→next (a.put o.dst v) w'):o.wpIn (FW ro) n P a w next Q:=by
 refine⟨fun _ _=>trivial,?_⟩
 rw[Oper.semAt_eq _ _ _ hd];rcases h with⟨v,w',i,g,d⟩|⟨w',i,g,d⟩|⟨f,args,i,hc⟩|⟨l,fn,tmps,assign,body,i,hc⟩
 ·rw[i];exact j v w' g d
 ·rw[i];exact j undef w' g d
 ·rw[i]
  refine⟨fun h=>by simp[FW]at h,Ib (hc.mono ?_)⟩
  rintro e w' ⟨g,v,rfl,d⟩;exact j v w' g d
 ·rw[i]
  refine⟨fun h=>by simp[FW]at h,trivial,fun c cs _=>?_⟩
  obtain⟨b,w',g,d,k⟩:=hc c cs;exact⟨.returned (.bool b),w',j _ w' g d,Bw k⟩
theorem uQ{N:Nat}{o:Oper}{v:Value}{r:cJ}{K:cJ→Prop}{a:Act}{d:w9}{dv:DV}(h:BS N o v r K)(c:Agree N r a)(hd:DecOk d r)(f:JB dv v):
  ∃r',K r'∧Agree N r' (a.put o.dst v)∧DecOk (sZ d o dv) r':=by
 unfold BS at h;unfold sZ;cases ho:o.dst with
 |none=>rw[ho]at h;exact⟨r,h,c,hd⟩
 |some t=>
  rw[ho]at h;simp only at h;cases hb:AC t N with
  |false=>rw[hb]at h;exact h.elim
  |true=>
   rw[hb]at h;have b:t<N:=by simpa using hb
   refine⟨_,h,c.put t v b,fun s=>?_⟩
   by_cases e:t=s
   ·subst e
    have:sE ((t,dv)::d) t=dv:=by simp[sE]
    rw[this];exact .inr ⟨v,jc t v r,f⟩
   ·have g:sE ((t,dv)::d) s=sE d s:=by
     have:az t s=false:=qd.2 fun i=>e (bd i)
     show(bif az t s then dv else sE d s)=_
     rw[this];rfl
    rw[g,ig v r e];exact hd s
theorem E7{ek:Option (Kind×Kind)}{o:Op}{r:cJ}{K:RK}{h:ad}(a:D5 P ek o r K h):∀c,o≠ .defer c:=by
 intro c e;subst e;exact a
theorem yO{o:Oper}{r:cJ}{K:WK}{h:ad}(a:IR P o r K h):∀c,o.op≠ .defer c:=by
 intro c e;unfold IR at a;rw[e]at a;exact a
theorem aal{d:w9}{o:Op}(h:ym P o=false):MO d o=.x:=by
 cases o<;>first|rfl|(simp[ym]at h)
theorem SX{N:Nat}{ek:Option (Kind×Kind)}{o:Oper}{r:cJ}{K:cJ→ad→Prop}{a:Act}{w:World}{d:w9}{next:Act→World→Prop}{Q:Exit→Act→World→Prop}
  (b:Zq P N ek o r K w.heap)(i:Agree N r a)(hd:DecOk d r)
  (p:∀v w' c,Tame w w'→K c w'.heap→Agree N c (a.put o.dst v)→DecOk (sZ d o (MO d o.op)) c→next (a.put o.dst v) w'):o.wpIn (FW ro) n P a w next Q:=by
 unfold Zq at b;cases hq:ym P o.op with
 |true=>
  rw[hq,cond_true]at b;obtain⟨v,S,k,q,j,t⟩:=Eh i b d hd;refine qZ (K:=fun u h'=>u=v∧h'=w.heap) (E7 b) (.inl ⟨v,w,t w q,Tame.refl w,rfl,rfl⟩) ?_
  rintro u w' m ⟨rfl,s⟩;obtain⟨c,g,e,f⟩:=uQ k i hd j;exact p u w' c m (by rw[s];exact g) e f
 |false=>
  rw[hq,cond_false]at b;refine qZ (yO b) (D9 i b) ?_;intro v w' m k;obtain⟨c,g,e,f⟩:=uQ k i hd (dv:=MO d o.op) (by rw[aal hq];trivial);exact p v w' c m g e f
theorem KD{t:Array Value}{i:Nat}{b:Bool}(h:t.getD i undef=.bool b):t[i]? =some (.bool b):=by
 rw[dg]at h;cases hc:t[i]? with
 |none=>rw[hc]at h;simp[undef]at h
 |some v=>rw[hc]at h;simp at h;rw[h]
theorem QJ{t:Array Value}{i:Nat}(h:t.getD i undef=undef):t[i]? =none∨t[i]? =some undef:=by
 rw[dg]at h;cases hc:t[i]? with
 |none=>exact .inl rfl
 |some v=>rw[hc]at h;simp at h;rw[h];exact .inr rfl
theorem nX{N:Nat}{ops:Array Oper}{d:w9}{o:Oper}{b:Bool}{r:cJ}{a:Act}(h:jw ops.toList d o=some b)(n:Agree N r a)(hd:DecOk d r):
  Region.wanted o (yielded ops a.tmps)=b:=by
 unfold jw at h;unfold Region.wanted;cases hg:o.guard with
 |none=>rw[hg]at h;simp only[bq.injEq]at h;exact h
 |some g=>
  obtain⟨j,c⟩:=g;rw[hg]at h;simp only[bv]at h;simp only;cases hj:ops[j]? with
  |none=>rw[hj]at h;cases h
  |some oj=>
   rw[hj]at h;simp only at h;cases ht:oj.dst with
   |none=>rw[ht]at h;cases h
   |some t=>
    rw[ht]at h;simp only at h;have p:yielded ops a.tmps j=(match a.tmps[t]? with|some (.bool b)=>some b|_=>none):=by
     unfold yielded;simp[hj,ht];rfl
    rw[p];rcases hd t with hx|⟨v,m,k⟩
    ·rw[hx]at h;cases h
    ·have i:=n.look t v m
     cases hdl:sE d t with
     |x=>rw[hdl]at h;cases h
     |t=>
      rw[hdl]at h k;simp only[bq.injEq]at h;subst h;have:v=.bool true:=k;subst this;rw[KD i];cases c<;>rfl
     |f=>
      rw[hdl]at h k;simp only[bq.injEq]at h;subst h;have:v=.bool false:=k;subst this;rw[KD i];cases c<;>rfl
     |u=>
      rw[hdl]at h k;simp only[bq.injEq]at h;subst h;have:v=undef:=k;subst this;rcases QJ i with e|e<;>rw[e]<;>cases c<;>rfl
structure Fr(W:Nat→Prop)(a0:Act)(w0:World)(a:Act)(w:World):Prop where
 tame:Tame w0 w
 defers:a.defers=a0.defers
 same:∀t,¬W t→a.tmps.getD t undef=a0.tmps.getD t undef
theorem Fr.refl(W:Nat→Prop)(a:Act)(w:World):Fr W a w a w:=⟨Tame.refl w,rfl,fun _ _=>rfl⟩
theorem Fr.put{W:Nat→Prop}{g a:Act}{f w w':World}(h:Fr W g f a w){o:Oper}(i:∀d,o.dst=some d→W d)(v:Value)(j:Tame w w'):Fr W g f (a.put o.dst v) w':=by
 refine⟨h.tame.trans j,?_,fun t c=>?_⟩
 ·cases ho:o.dst<;>simp[Act.put,h.defers]
 ·cases ho:o.dst with
  |none=>exact h.same t c
  |some d=>
   have b:d≠t:=fun e=>c (e▸i d ho)
   rw[←h.same t c];simp[Act.put,eY b]
theorem Fr.trans{W:Nat→Prop}{c b e:Act}{a d f:World}(h:Fr W c a b d)(k:Fr W b d e f):Fr W c a e f:=
 ⟨h.tame.trans k.tame,k.defers.trans h.defers,fun t g=>(k.same t g).trans (h.same t g)⟩
theorem Fr.mono{W W':Nat→Prop}{b a:Act}{c w:World}(h:Fr W b c a w)(d:∀t,W t→W' t):Fr W' b c a w:=
 ⟨h.tame,h.defers,fun t f=>h.same t fun e=>f (d t e)⟩
theorem DecOk.known{d:w9}{r:cJ}(h:DecOk d r){t:Nat}{dv:DV}{v:Value}(a:JB dv v):DecOk ((t,dv)::d) ((t,v)::r):=fun s=>by
 by_cases e:t=s
 ·subst e
  have:sE ((t,dv)::d) t=dv:=by simp[sE]
  rw[this];exact .inr ⟨v,jc t v r,a⟩
 ·have c:sE ((t,dv)::d) s=sE d s:=by
   have:az t s=false:=qd.2 fun b=>e (bd b)
   show(bif az t s then dv else sE d s)=_
   rw[this];rfl
  rw[c,ig v r e];exact h s
theorem GE{N:Nat}{ek:Option (Kind×Kind)}{ops:Array Oper}{o:Oper}{i:Nat}{d:w9}{r:cJ}{a:Act}{w:World}{b:Bool}{K:w9→cJ→ad→Prop}{next:Act→World→Prop}{Q:Exit→Act→World→Prop}
  (hi:ops[i]? =some o) (p:jw ops.toList d o=some b) (g:Agree N r a) (hd:DecOk d r)
  (m:match b with
   |true=>Zq P N ek o r (K (sZ d o (MO d o.op))) w.heap
   |false=>BS N o undef r fun c=>K (sZ d o .u) c w.heap)
  (k:∀v w' d' c,Tame w w'→K d' c w'.heap→Agree N c (a.put o.dst v)→DecOk d' c→next (a.put o.dst v) w'):
  wpOpIn (FW ro) n P ops Q i next a w:=by
 unfold wpOpIn;rw[hi];simp only[nX p g hd];cases b with
 |true=>exact SX m g hd fun v w' c s q e f=>k v w' _ c s q e f
 |false=>
  obtain⟨c,j,e,f⟩:=uQ (dv:=.u) m g hd rfl;exact⟨fun _ _=>trivial,k undef w _ c (Tame.refl w) j e f⟩
theorem SW{N:Nat}{ek:Option (Kind×Kind)}{ops:List Oper}{o:Oper}{os:List Oper}{d:w9}{K:cJ→ad→Prop}{r:cJ}{h:ad}:G2 P N ek ops (o::os) d K r h=
 (match jw ops d o with
 |some true=>Zq P N ek o r (fun a h'=>G2 P N ek ops os (sZ d o (MO d o.op)) K a h') h
 |some false=>BS N o undef r fun a=>G2 P N ek ops os (sZ d o .u) K a h
 |none=>match HJ ops o with
  |none=>False
  |some t=>match kV r t with
   |some (.bool b)=>CondP b
    (JQ P N ek ops o ((t,.t)::d) ((t,.bool true)::r) h fun d' a h'=>G2 P N ek ops os d' K a h')
    (JQ P N ek ops o ((t,.f)::d) ((t,.bool false)::r) h fun d' a h'=>G2 P N ek ops os d' K a h')
   |_=>False):=rfl
theorem JL{N:Nat}{ek:Option (Kind×Kind)}{ops:Array Oper}{o:Oper}{i:Nat}{d:w9}{r:cJ}{a:Act}{w:World}{K:w9→cJ→ad→Prop}{next:Act→World→Prop}{Q:Exit→Act→World→Prop}
  (hi:ops[i]? =some o) (e:Agree N r a) (hd:DecOk d r) (c:JQ P N ek ops.toList o d r w.heap K)
  (f:∀v w' d' r',Tame w w'→K d' r' w'.heap→Agree N r' (a.put o.dst v)→DecOk d' r'→next (a.put o.dst v) w'):
  wpOpIn (FW ro) n P ops Q i next a w:=by
 unfold JQ at c;cases hw:jw ops.toList d o with
 |none=>rw[hw]at c;exact c.elim
 |some b=>rw[hw]at c;exact GE (ek:=ek) hi hw e hd (by cases b<;>exact c) f
theorem G1{N:Nat}{ek:Option (Kind×Kind)}{ops:Array Oper}{W:Nat→Prop}(k:∀o∈ops.toList,∀d,o.dst=some d→W d){p:Act}{m:World}{K:cJ→ad→Prop}{Q:Exit→Act→World→Prop}
  (q:∀r a w,Agree N r a→Fr W p m a w→K r w.heap→Q .normal a w):
  ∀(l:List Oper) (i:Nat),ops.toList.drop i=l→∀(d:w9) (r:cJ) (a:Act) (w:World),G2 P N ek ops.toList l d K r w.heap→Agree N r a→DecOk d r→Fr W p m a w→
   wpOpsIn (FW ro) n P ops Q (List.range' i l.length) a w
 | [],i,_,d,r,a,w,hs,ha,hd,hf=>q r a w ha hf hs
 |o::os,i,hdr,d,r,a,w,hs,ha,hd,hf=>by
  have hi:ops[i]? =some o:=by
   rw[←bv];have:(ops.toList.drop i)[0]? =some o:=by rw[hdr];rfl
   simpa using this
  have f:o∈ops.toList:=bf (by rw[bv];exact hi);have e:ops.toList.drop (i+1)=os:=by rw[←List.tail_drop,hdr];rfl
  rw[ay,List.range'_succ,wpOpsIn_cons];rw[SW]at hs;have go:∀v w' d' c,Tame w w'→G2 P N ek ops.toList os d' K c w'.heap→Agree N c (a.put o.dst v)→DecOk d' c→wpOpsIn (FW ro) n P ops Q (List.range' (i+1) os.length) (a.put o.dst v) w':=
   fun v w' d' c s u g j=>G1 k q os (i+1) e d' c _ w' u g j (hf.put (k o f) v s)
  cases hw:jw ops.toList d o with
  |some b=>
   rw[hw]at hs;exact GE (ek:=ek) (K:=fun d' c h'=>G2 P N ek ops.toList os d' K c h') hi hw ha hd (by cases b<;>exact hs) go
  |none=>
   rw[hw]at hs;simp only at hs;split at hs
   ·exact hs.elim
   ·rename_i t s
    split at hs
    ·rename_i b hb
     cases b with
     |true=>exact JL hi (ha.known hb) (hd.known (dv:=.t) rfl) (hs.yes rfl) go
     |false=>exact JL hi (ha.known hb) (hd.known (dv:=.f) rfl) (hs.no rfl) go
    ·exact hs.elim
end Go.Lift
namespace Go.Lift
open Go
theorem Cw(m i:Nat):tb m i=m.testBit i:=by
 have h:j6 (Nat.shiftRight m i) 1=(m>>>i)&&&1:=rfl;unfold tb;rw[h,Nat.testBit_eq_decide_div_mod_eq,Nat.and_one_is_mod,Nat.shiftRight_eq_div_pow];cases hm:decide (m/2^i%2=1)with
 |true=>rw[of_decide_eq_true hm];rfl
 |false=>
  have a:=of_decide_eq_false hm;have:m/2^i%2=0:=by omega
  rw[this];rfl
theorem oY(a b i:Nat):(cY a b).testBit i=(a.testBit i||b.testBit i):=Nat.testBit_or a b i
theorem BV(i j:Nat):(ib i).testBit j=decide (i=j):=Nat.testBit_two_pow
theorem EF{a b:Nat}(h:az (j6 a b) 0=true)(t:Nat)(c:a.testBit t=true)(e:b.testBit t=true):False:=by
 have d:=bd h;have:(j6 a b).testBit t=(a.testBit t&&b.testBit t):=sf a b t;rw[d,c,e]at this;simp at this
theorem Yb{a b:Nat}(h:az (j6 a b) a=true)(t:Nat)(c:a.testBit t=true):b.testBit t=true:=by
 have d:=bd h;have:(j6 a b).testBit t=(a.testBit t&&b.testBit t):=sf a b t;rw[d,c]at this;simpa using this.symm
theorem A7(i:Nat):∀l:List Edge,(nr l).testBit i=l.any fun e=>az e.on i&&Region.binds .any e
 | []=>nD i
 |e::l=>by
  have b:=A7 i l;have hc:nr (e::l)=bif Region.binds .any e then cY (ib e.on) (nr l)else nr l:=rfl;rw[hc,List.any_cons,←b];cases hb:Region.binds .any e with
  |true=>
   rw[cond_true,oY,BV,Bool.and_true];congr 1
   cases hd:az e.on i with
   |true=>simpa using bd hd
   |false=>rw[decide_eq_false_iff_not];intro a;rw[a]at hd;simp at hd
  |false=>simp
theorem Dd(o:Oper)(i:Nat):(nr o.after.toList).testBit i=jz o i:=A7 i o.after.toList
theorem Cv(t:Nat):∀l:List Operand,(mA l).testBit t=true↔Operand.tmp t∈l
 | []=>by simp[show mA []=0 from rfl]
 |o::l=>by
  have a:=Cv t l;cases o with
  |tmp u=>
   have hc:mA (.tmp u::l)=cY (ib u) (mA l):=rfl;rw[hc,oY,BV,fq,a,ar];simp[eq_comm]
  |const v=>
   have hc:mA (.const v::l)=mA l:=rfl;rw[hc,a,ar];simp
  |global v=>
   have hc:mA (.global v::l)=mA l:=rfl;rw[hc,a,ar];simp
  |func v=>
   have hc:mA (.func v::l)=mA l:=rfl;rw[hc,a,ar];simp
theorem zK(o:Oper)(t:Nat):(oI o).testBit t=true↔o.dst=some t:=by
 unfold oI;cases o.dst with
 |none=>simp
 |some d=>simp[BV]
theorem I0(ops:Array Oper)(o:Oper)(t:Nat):(pg ops.toList o).testBit t=true↔t∈o.looksAt ops:=by
 unfold pg Oper.looksAt;rw[oY,fq,Cv,List.mem_append,List.mem_filterMap];refine or_congr ⟨fun h=>⟨_,h,rfl⟩,?_⟩ ?_
 ·rintro⟨x,hx,b⟩
  cases x<;>simp at b
  subst b;exact hx
 ·cases hg:o.guard with
  |none=>simp
  |some g=>
   obtain⟨j,a⟩:=g;simp only[bv];cases hj:ops[j]? with
   |none=>simp
   |some oj=>simp[zK]
variable {P:Program} {ro:Option Nat} {n:Nat} {ops:Array Oper} {Q:Exit→Act→World→Prop}
structure MsOk(ops:Array Oper)(ms:List DM):Prop where
 am:∀(i:Nat) (o:Oper) (m:DM),ops[i]? =some o→ms[i]? =some m→∀j,m.am.testBit j=jz o j
 lk:∀(i:Nat) (o:Oper) (m:DM),ops[i]? =some o→ms[i]? =some m→∀t,m.lk.testBit t=true↔t∈o.looksAt ops
 ds:∀(i:Nat) (o:Oper) (m:DM),ops[i]? =some o→ms[i]? =some m→∀t,m.ds.testBit t=true↔o.dst=some t
 len:ms.length=ops.size
 free:∀(i j:Nat) (m k:DM),ms[i]? =some m→ms[j]? =some k→m.fr.testBit j=true→j=i∨k.am.testBit i=true∨EG m k=true
 nosel:∀(i:Nat) (o:Oper),ops[i]? =some o→(∀cs b,o.op≠ .select cs b)∧(∀c,o.op≠ .defer c)
theorem CO(ops:List Oper):∀(l:List Oper) (ms:List DM),yX ops l ms=true→ms.length=l.length∧∀(i:Nat) (o:Oper) (m:DM),l[i]? =some o→ms[i]? =some m→
  m.am=nr o.after.toList∧m.lk=pg ops o∧m.ds=oI o
 | [],[],_=>⟨rfl,fun i o m h=>by simp at h⟩
 | [],_::_,h=>by cases h
 |o::l,[],h=>by cases h
 |o::l,m::ms,h=>by
  have hc:yX ops (o::l) (m::ms)=(az (nr o.after.toList) m.am&&az (pg ops o) m.lk&&az (oI o) m.ds&&yX ops l ms):=rfl;rw[hc]at h;simp only[aJ]at h;obtain⟨⟨⟨c,b⟩,g⟩,j⟩:=h;obtain⟨f,e⟩:=CO ops l ms j;refine⟨by simp[f],fun i k d a hm=>?_⟩
  cases i with
  |zero=>
   simp only[dY,bq.injEq]at a hm;subst a;subst hm;exact⟨(bd c).symm,(bd b).symm,(bd g).symm⟩
  |succ i=>exact e i k d (by simpa using a) (by simpa using hm)
theorem KG(i:Nat)(m:DM):∀(l:List DM) (j0:Nat),KH i m l j0=true→∀(j:Nat) (k:DM),l[j]? =some k→m.fr.testBit (j0+j)=true→j0+j=i∨k.am.testBit i=true∨EG m k=true
 | [],j0,_,j,k,hk,_=>by simp at hk
 |x::l,j0,h,j,k,hk,hb=>by
  have hc:KH i m (x::l) j0=((!(tb m.fr j0)||az j0 i||tb x.am i||EG m x)&&KH i m l (gb j0)):=rfl
  rw[hc]at h;simp only[aJ,fq,qc,Cw]at h;cases j with
  |zero=>
   simp only[dY,bq.injEq]at hk;subst hk;simp only[Nat.add_zero]at hb⊢;rcases h.1 with((a|a)|a)|a
   ·rw[a]at hb;cases hb
   ·exact .inl (bd a)
   ·exact .inr (.inl a)
   ·exact .inr (.inr a)
  |succ j=>
   have:=KG i m l (j0+1) h.2 j k (by simpa using hk) (by rw[show j0+1+j=j0+(j+1) by omega];exact hb)
   rw[show j0+1+j=j0+(j+1) by omega]at this
   exact this
theorem Fg(a:List DM):∀(l:List DM) (i0:Nat),CX a l i0=true→∀(i:Nat) (m:DM),l[i]? =some m→KH (i0+i) m a 0=true
 | [],i0,_,i,m,hm=>by simp at hm
 |x::l,i0,h,i,m,hm=>by
  have hc:CX a (x::l) i0=(KH i0 x a 0&&CX a l (gb i0)):=rfl;rw[hc,aJ]at h;cases i with
  |zero=>simp only[dY,bq.injEq]at hm;subst hm;exact h.1
  |succ i=>
   have:=Fg a l (i0+1) h.2 i m (by simpa using hm);rw[show i0+1+i=i0+(i+1) by omega]at this
   exact this
theorem Kj:∀(l:List Oper),NV l=true→∀o∈l,(∀cs b,o.op≠ .select cs b)∧(∀c,o.op≠ .defer c)
 | [],_,o,a=>by cases a
 |x::l,h,o,a=>by
  simp only[NV,aJ]at h;rcases ar.1 a with rfl|a
  ·refine⟨fun cs b e=>?_,fun c e=>?_⟩
   ·rw[e]at h;cases h.1
   ·rw[e]at h;cases h.1
  ·exact Kj l h.2 o a
theorem Qn{ms:List DM}(h:Gv ops.toList ms=true):MsOk ops ms:=by
 have hc:Gv ops.toList ms=(yX ops.toList ops.toList ms&&CX ms ms 0&&NV ops.toList):=rfl;rw[hc]at h;simp only[aJ]at h;obtain⟨⟨e,d⟩,g⟩:=h;obtain⟨f,b⟩:=CO ops.toList ops.toList ms e;refine⟨fun i o m a hm j=>?_,fun i o m a hm t=>?_,fun i o m a hm t=>?_,by simpa using f,fun i j m k hm c n=>?_,fun i o a=>?_⟩
 ·rw[(b i o m (by simpa using a) hm).1,Dd]
 ·rw[(b i o m (by simpa using a) hm).2.1,I0]
 ·rw[(b i o m (by simpa using a) hm).2.2,zK]
 ·have:=Fg ms ms 0 d i m hm
  rw[aR]at this;have:=KG i m ms 0 this j k c (by rwa [aR]);rwa [aR]at this
 ·exact Kj _ g o (bf (by rw[bv];exact a))
theorem WE{ms:List DM}(hm:MsOk ops ms){i j:Nat}{e a:Oper}{f g:DM}(hi:ops[i]? =some e) (m:ops[j]? =some a) (c:ms[i]? =some f) (b:ms[j]? =some g) (h:EG f g=true):
  (∀d,e.dst=some d→d∉a.looksAt ops)∧(∀d,e.dst=some d→a.dst≠some d)∧(∀d,a.dst=some d→d∉e.looksAt ops):=by
 unfold EG at h;rw[aJ]at h;refine⟨fun d hd k=>?_,fun d hd n=>?_,fun d hd k=>?_⟩
 ·exact EF h.1 d ((hm.ds i e f hi c d).2 hd) (by rw[oY,(hm.lk j a g m b d).2 k,Bool.true_or])
 ·exact EF h.1 d ((hm.ds i e f hi c d).2 hd) (by rw[oY,(hm.ds j a g m b d).2 n,Bool.or_true])
 ·exact EF h.2 d ((hm.ds j a g m b d).2 hd) ((hm.lk i e f hi c d).2 k)
structure LsRel(ops:Array Oper)(ls:Nat)(listed:Array Bool):Prop where
 size:listed.size=ops.size
 bit:∀j,listed.getD j false=ls.testBit j
theorem LsRel.start:LsRel ops 0 (jO ops.size false):=⟨by simp,fun j=>by
 rw[nD,dg]
 by_cases h:j<ops.size<;>simp[h]⟩
theorem LsRel.put{ls:Nat}{listed:Array Bool}(h:LsRel ops ls listed){i:Nat}(hi:i<ops.size):LsRel ops (cY ls (ib i)) (listed.setIfInBounds i true):=by
 refine⟨by simp[h.size],fun j=>?_⟩
 rw[oY,BV,←h.bit];by_cases e:i=j
 ·subst e;simp[h.size,hi]
 ·simp[e,eY e]
theorem LsRel.unlisted{ls:Nat}{listed:Array Bool}(h:LsRel ops ls listed){i:Nat}(hi:i<ops.size):listed.getD i true=ls.testBit i:=by
 rw[←h.bit];have:i<listed.size:=by rw[h.size];exact hi
 simp[this]
theorem JW{ms:List DM}(hm:MsOk ops ms){ls:Nat}{listed:Array Bool}(h:LsRel ops ls listed){j:Nat}:j∈Region.ready .any ops listed↔∃m,ms[j]? =some m∧ls.testBit j=false∧JX m ls=true:=by
 rw[mem_ready];constructor
 ·rintro⟨i,o,n,f⟩
  have a:j<ops.size:=(ct.1 n).1;have d:j<ms.length:=by rw[hm.len];exact a
  refine⟨ms[j],ah d,by rw[←h.unlisted a];exact i,?_⟩
  unfold JX;have:j6 (ms[j]).am ls=(ms[j]).am:=by
   apply Nat.eq_of_testBit_eq;intro t;have c:(j6 (ms[j]).am ls).testBit t=((ms[j]).am.testBit t&&ls.testBit t):=sf _ _ t;rw[c];cases ht:(ms[j]).am.testBit t with
   |false=>rfl
   |true=>
    rw[hm.am j o _ n (ah d)]at ht;unfold jz at ht;obtain⟨e,k,g⟩:=cp.1 ht;simp only[aJ]at g;have:=f e (by simpa using k) g.2;rw[bd g.1,h.bit]at this;rw[this];rfl
  rw[this];exact te _
 ·rintro⟨m,b,i,p⟩
  have a:j<ops.size:=by rw[←hm.len];exact(aZ.1 b).1
  refine⟨by rw[h.unlisted a];exact i,ops[j],gO a,fun e k g=>?_⟩
  rw[h.bit];refine Yb p e.on ?_;rw[hm.am j _ m (gO a) b];unfold jz;exact cp.2 ⟨e,by simpa using k,by simp[g]⟩
theorem tw(ls:Nat):∀(l:List DM) (j0 j:Nat),j∈mE ls l j0↔∃k m,l[k]? =some m∧j=j0+k∧ls.testBit j=false∧JX m ls=true
 | [],j0,j=>by simp[show mE ls [] j0= []from rfl]
 |m::l,j0,j=>by
  have hc:mE ls (m::l) j0=bif !(tb ls j0)&&JX m ls then j0::mE ls l (gb j0)else mE ls l (gb j0):=rfl;have e:=tw ls l (j0+1) j;rw[hc,Cw];have step:(∃k c,(m::l)[k]? =some c∧j=j0+k∧ls.testBit j=false∧JX c ls=true)↔(j=j0∧ls.testBit j0=false∧JX m ls=true)∨j∈mE ls l (j0+1):=by
   rw[e];constructor
   ·rintro⟨k,c,d,rfl,b,a⟩
    cases k with
    |zero=>simp only[dY,bq.injEq]at d;subst d;exact .inl ⟨rfl,b,a⟩
    |succ k=>exact .inr ⟨k,c,by simpa using d,by omega,b,a⟩
   ·rintro(⟨rfl,b,a⟩|⟨k,c,d,rfl,b,a⟩)
    ·exact⟨0,m,rfl,rfl,b,a⟩
    ·exact⟨k+1,c,by simpa using d,by omega,b,a⟩
  rw[step];cases hb:(!(ls.testBit j0)&&JX m ls)with
  |true=>
   simp only[aJ,qc]at hb;rw[cond_true,ar];simp[hb.1,hb.2]
  |false=>
   rw[cond_false];constructor
   ·exact .inr
   ·rintro(⟨_,b,a⟩|h)
    ·rw[b,a]at hb;cases hb
    ·exact h
theorem m0{ms:List DM}(hm:MsOk ops ms){ls:Nat}{listed:Array Bool}(h:LsRel ops ls listed){j:Nat}:j∈Region.ready .any ops listed↔j∈mE ls ms 0:=by
 rw[JW hm h,tw];constructor
 ·rintro⟨m,a,b,c⟩;exact⟨j,m,a,by omega,b,c⟩
 ·rintro⟨k,m,a,rfl,b,c⟩;exact⟨m,by simpa using a,b,c⟩
theorem As:∀{a b:List Nat},xA a b=true→a=b
 | [],[],_=>rfl
 | [],_::_,h=>by cases h
 |_::_,[],h=>by cases h
 |a::as,b::bs,h=>by
  simp only[xA,aJ]at h;rw[bd h.1,As h.2]
end Go.Lift
namespace Go.Lift
open Go
variable {P:Program} {ro:Option Nat} {n:Nat} {ops:Array Oper} {Q:Exit→Act→World→Prop}
theorem Cu{m:Nat}{p:Nat→Bool}(hm:∀j,m.testBit j=true→p j=true):∀(l:List DM) (j0:Nat),(∀j x,l[j]? =some x→p (j0+j)=true→∀k,x.am.testBit k=true→p k=true)→∀k,(Ui m l j0).testBit k=true→p k=true
 | [],_,_,k,h=>hm k h
 |x::l,j0,hl,k,h=>by
  have hc:Ui m (x::l) j0=bif tb m j0 then cY x.am (Ui m l (gb j0))else Ui m l (gb j0):=rfl;have a:=Cu hm l (j0+1) (fun j y c b=>hl (j+1) y (by simpa using c) (by rw[show j0+(j+1)=j0+1+j by omega];exact b)) k
  rw[hc,Cw]at h;cases hb:m.testBit j0 with
  |true=>
   rw[hb,cond_true,oY,fq]at h;rcases h with h|h
   ·exact hl 0 x rfl (hm _ hb) k h
   ·exact a h
  |false=>
   rw[hb,cond_false]at h;exact a h
theorem Ct{m k:Nat}(h:m.testBit k=true):∀(l:List DM) (j0:Nat),(Ui m l j0).testBit k=true
 | [],_=>h
 |x::l,j0=>by
  have hc:Ui m (x::l) j0=bif tb m j0 then cY x.am (Ui m l (gb j0))else Ui m l (gb j0):=rfl;have a:=Ct h l (j0+1);rw[hc];cases tb m j0 with
  |true=>rw[cond_true,oY,fq];exact .inr a
  |false=>exact a
def Shut(ms:List DM)(listed:Array Bool):Prop:=∀j x,ms[j]? =some x→listed.getD j false=true→∀k,x.am.testBit k=true→listed.getD k false=true
theorem TV{ms:List DM}{listed:Array Bool}(c:Shut ms listed){m:Nat}(hm:∀j,m.testBit j=true→listed.getD j false=true){k:Nat}(h:(C8 ms m).testBit k=true):listed.getD k false=true:=by
 have a:∀j x,ms[j]? =some x→(fun k=>listed.getD k false) (0+j)=true→∀k,x.am.testBit k=true→(fun k=>listed.getD k false) k=true:=fun j x hx b=>c j x hx (by rw[aR]at b;exact b)
 unfold C8 at h;exact Cu (p:=fun k=>listed.getD k false) (Cu (Cu (Cu hm ms 0 a) ms 0 a) ms 0 a) ms 0 a k h
theorem KU{ms:List DM}{m k:Nat}(h:m.testBit k=true):(C8 ms m).testBit k=true:=by
 unfold C8;exact Ct (Ct (Ct (Ct h ms 0) ms 0) ms 0) ms 0
noncomputable abbrev Pq(ms:List DM)(i:Nat)(L:rZ):rZ:=CD (C8 ms (Mm ms i)) L
theorem kD{m:Nat}{x:Nat×(ad→Prop)}:∀{L:rZ},x∈CD m L↔x∈L∧tb m x.1=false
 | []=>by simp[CD]
 |(k,S)::L=>by
  have b:=kD (m:=m) (x:=x) (L:=L);simp only[CD];cases hk:tb m k with
  |true=>
   rw[cond_true,b,ar];constructor
   ·exact fun h=>⟨.inr h.1,h.2⟩
   ·rintro⟨h|h,a⟩
    ·subst h;rw[hk]at a;cases a
    ·exact⟨h,a⟩
  |false=>
   rw[cond_false,ar,b,ar];constructor
   ·rintro(h|h)
    ·subst h;exact⟨.inl rfl,hk⟩
    ·exact⟨.inr h.1,h.2⟩
   ·rintro⟨h|h,a⟩
    ·exact .inl h
    ·exact .inr ⟨h,a⟩
def Uv(ms:List DM)(ro:Option Nat)(n:Nat)(P:Program)(ops:Array Oper)(Q:Exit→Act→World→Prop):Nat→rZ→Array Bool→Act→World→Prop
 |0,_,listed,a,w=>Region.ready .any ops listed= []∧Q .normal a w
 |f+1,L,listed,a,w=>(Region.ready .any ops listed= []→Q .normal a w)∧
  ∀i∈Region.ready .any ops listed,∀o,ops[i]? =some o→
   wpOpIn (FW ro) n P ops Q i (fun a' w'=>(∀x∈Pq ms i L,x.2 w'.heap)∧Uv ms ro n P ops Q f (Pq ms i L) (listed.setIfInBounds i true) a' w') a w
theorem yV{o:Oper}{x:Nat×(ad→Prop)}:∀{L:rZ},x∈pA o L↔x∈L∧jz o x.1=false
 | []=>by simp[pA]
 |(k,S)::L=>by
  have b:=yV (o:=o) (x:=x) (L:=L);simp only[pA];cases hk:jz o k with
  |true=>
   rw[cond_true,b,ar];constructor
   ·exact fun h=>⟨.inr h.1,h.2⟩
   ·rintro⟨h|h,a⟩
    ·subst h;rw[hk]at a;cases a
    ·exact⟨h,a⟩
  |false=>
   rw[cond_false,ar,b,ar];constructor
   ·rintro(h|h)
    ·subst h;exact⟨.inl rfl,hk⟩
    ·exact⟨.inr h.1,h.2⟩
   ·rintro⟨h|h,a⟩
    ·exact .inl h
    ·exact .inr ⟨h,a⟩
theorem S3{listed:Array Bool}{i:Nat}(h:i∈Region.ready .any ops listed):∃o,ops[i]? =some o:=by
 obtain⟨_,o,a,_⟩:=mem_ready.1 h;exact⟨o,a⟩
theorem RA{ms:List DM}:∀(f:Nat) (L:rZ) (listed:Array Bool) (a:Act) (w:World),Uv ms ro n P ops Q f L listed a w→wpAnyIn (FW ro) n P .any ops Q f listed a w
 |0,_,_,_,_,h=>h
 |f+1,L,listed,a,w,h=>⟨h.1,fun i hi=>by
  obtain⟨o,b⟩:=S3 hi
  exact wpOpIn_mono (fun a' w' h'=>RA f _ _ a' w' h'.2) (h.2 i hi o b)⟩
theorem wg{ms:List DM}:∀(f:Nat) (L L':rZ) (listed:Array Bool) (a:Act) (w:World),(∀x∈L',x∈L∨∀h,x.2 h)→Uv ms ro n P ops Q f L listed a w→Uv ms ro n P ops Q f L' listed a w
 |0,_,_,_,_,_,_,h=>h
 |f+1,L,L',listed,a,w,hs,h=>⟨h.1,fun i hi o c=>by
  have b:∀x∈Pq ms i L',x∈Pq ms i L∨∀h,x.2 h:=fun x hx=>(hs x (kD.1 hx).1).imp (fun h=>kD.2 ⟨h,(kD.1 hx).2⟩) id
  exact wpOpIn_mono (fun a' w' h'=>⟨fun x hx=>(b x hx).elim (h'.1 x) fun h=>h _,wg f _ _ _ a' w' b h'.2⟩) (h.2 i hi o c)⟩
def YG(P:Program)(ops:Array Oper)(S:ad→Prop)(o:Oper)(v:Value)(a:Act):Prop:=
 (Region.wanted o (yielded ops a.tmps)=true∧∀w:World,S w.heap→(execOp a.eval o).run P w=.ok (.value v) w)∨
 (Region.wanted o (yielded ops a.tmps)=false∧v=undef)
theorem YG.wpOp{S:ad→Prop}{i:Nat}{o:Oper}{v:Value}{a:Act}(hi:ops[i]? =some o) (hd:∀c,o.op≠ .defer c) (f:YG P ops S o v a) {K:Act→World→Prop} {w:World} (e:S w.heap)
  (h:K (a.put o.dst v) w):wpOpIn (FW ro) n P ops Q i K a w:=by
 unfold wpOpIn;simp only[hi];rcases f with⟨b,d⟩|⟨b,rfl⟩
 ·simp only[b,if_true]
  refine⟨fun _ _=>trivial,?_⟩
  rw[Oper.semAt_eq _ _ _ hd,d w e];exact h
 ·simp only[b,Bool.false_eq_true,if_false];exact⟨fun _ _=>trivial,h⟩
theorem YG.of_same{S:ad→Prop}{o:Oper}{v:Value}{a a':Act}(b:YG P ops S o v a)(d:execOp a'.eval o=execOp a.eval o)
  (c:Region.wanted o (yielded ops a'.tmps)=Region.wanted o (yielded ops a.tmps)):YG P ops S o v a':=by
 unfold YG at*;rw[d,c];exact b
theorem Pt{S:ad→Prop}{j:Nat}{g i:Oper}{v:Value}(E:ops[j]? =some i)
  (A:(∀d,g.dst=some d→d∉i.looksAt ops)∧(∀d,g.dst=some d→i.dst≠some d)∧(∀d,i.dst=some d→d∉g.looksAt ops))
  (s:∀cs b,g.op≠ .select cs b) (z:∀cs b,i.op≠ .select cs b) (t:∀c,i.op≠ .defer c)
  (D:∀e a w,(∀c,e=.panic c→False)∨¬Q e a w) {K:Act→World→Prop} {a:Act} {w:World}
  (k:YG P ops S g v a) (h:wpOpIn (FW ro) n P ops Q j K (a.put g.dst v) w):
  wpOpIn (FW ro) n P ops Q j (fun a' w'=>YG P ops S g v a'∧K (a'.put g.dst v) w') a w:=by
 obtain⟨B,o,y⟩:=A;have p:∀c a w,¬Q (.panic c) a w:=fun c a w C=>(D (.panic c) a w).elim (fun h=>h c rfl) fun h=>h C
 have keep:∀(a:Act),YG P ops S g v a→∀u,YG P ops S g v (a.put i.dst u):=fun a k u=>
  k.of_same (execOp_put g s a i.dst u y) (wanted_put g a i.dst u y)
 unfold wpOpIn at*;simp only[E]at*;rw[wanted_put i a g.dst v B]at h;split
 ·rename_i hw
  simp only[hw,if_true]at h;refine⟨fun _ _=>trivial,?_⟩
  have h:=h.2;rw[Oper.semAt_eq _ _ _ t,execOp_put i z a g.dst v B]at h;rw[Oper.semAt_eq _ _ _ t];generalize (execOp a.eval i).run P w=r at*;cases r with
  |ok x w'=>
   cases x<;>simp only[Oper.uponIn]at h⊢
   case value u=>exact⟨keep a k u,by rw[←Act.put_comm a v u o];exact h⟩
   case skip=>exact⟨keep a k _,by rw[←Act.put_comm a v undef o];exact h⟩
   case defer d=>
    refine⟨(k.of_same (a':={a with defers:=d::a.defers}) rfl rfl).of_same (execOp_put g s _ i.dst undef y) (wanted_put g _ i.dst undef y),?_⟩;rw[←Act.put_comm _ v undef o,←Act.put_defers];exact h
   case enter f args=>
    refine⟨h.1,CallsIn.mono h.2 fun e q m=>?_⟩
    cases e with
    |returned u=>exact⟨keep a k u,by rw[←Act.put_comm a v u o];exact m⟩
    |panicked c=>exact(p _ _ _ m).elim
    |outgrown=>exact m
   case row row args=>exact⟨h.1,RowsIn.mono h.2 fun u q m=>⟨keep a k u,by rw[←Act.put_comm a v u o];exact m⟩⟩
   case round l f tmps assign body=>
    refine⟨h.1,RoundIn.mono h.2 fun e q m=>?_⟩
    cases e with
    |returned u=>exact⟨keep a k u,by rw[←Act.put_comm a v u o];exact m⟩
    |panicked c=>exact(p _ _ _ m).elim
    |outgrown=>exact m
  |halt x w'=>
   cases x<;>simp only[Oper.uponIn]at h⊢
   case panic u=>exact(p _ _ _ h).elim
 ·rename_i hw
  simp only[hw]at h;exact⟨fun _ _=>trivial,keep a k _,by rw[←Act.put_comm a v undef o];exact h.2⟩
theorem Ml{ms:List DM}(hm:MsOk ops ms){i:Nat}{o:Oper}(a:ops[i]? =some o) (k:Nat):(Mm ms i).testBit k=jz o k:=by
 have hi:i<ms.length:=by rw[hm.len];exact(ct.1 a).1
 unfold Mm;rw[ah hi];exact hm.am i o _ a (ah hi) k
theorem Nr{ms:List DM}(hm:MsOk ops ms){listed:Array Bool}{j:Nat}(g:j∈Region.ready .any ops listed)(k:Nat)(b:(Mm ms j).testBit k=true):listed.getD k false=true:=by
 obtain⟨_,o,d,a⟩:=mem_ready.1 g;rw[Ml hm d]at b;unfold jz at b;obtain⟨e,f,c⟩:=cp.1 b;simp only[aJ]at c;have:=a e (by simpa using f) c.2;rw[bd c.1]at this;exact this
theorem Og{listed:Array Bool}{j k:Nat}(h:listed.getD k false=true):(listed.setIfInBounds j true).getD k false=true:=by
 by_cases e:j=k
 ·subst e
  rw[dg]at h⊢;rcases cC j listed.size with h'|h'
  ·simp[h']
  ·simp[lB h']at h
 ·rw[dg,eY e,←dg]
  exact h
theorem Shut.put{ms:List DM}(hm:MsOk ops ms){listed:Array Bool}(c:Shut ms listed){j:Nat}(d:j∈Region.ready .any ops listed):Shut ms (listed.setIfInBounds j true):=by
 intro i x hx a k b;by_cases e:j=i
 ·subst e
  refine Og (Nr hm d k ?_);unfold Mm;rw[hx];exact b
 ·rw[dg,eY e,←dg]at a
  exact Og (c i x hx a k b)
theorem GF{ms:List DM}(hm:MsOk ops ms){S:ad→Prop}{i:Nat}{y:Oper}{v:Value}(hi:ops[i]? =some y) (m:∀(j:Nat) (o:Oper),ops[j]? =some o→(∀cs b,o.op≠ .select cs b)∧(∀c,o.op≠ .defer c))
  (Z:∀e a w,(∀c,e=.panic c→False)∨¬Q e a w):
  ∀(p:Nat) (L:rZ) (listed:Array Bool) (a:Act) (w:World),
   (∀j t,ops[j]? =some t→j≠i→listed.getD j true=false→jz t i=false→
    (∀d,y.dst=some d→d∉t.looksAt ops)∧(∀d,y.dst=some d→t.dst≠some d)∧(∀d,t.dst=some d→d∉y.looksAt ops))→
   Shut ms listed→i∈Region.ready .any ops listed→YG P ops S y v a→S w.heap→(∀x∈L,x.2 w.heap)→
   Uv ms ro n P ops Q p ((i,S)::L) (listed.setIfInBounds i true) (a.put y.dst v) w→Uv ms ro n P ops Q (p+1) L listed a w:=by
 intro p;induction p with
 |zero=>
  intro L listed a w _ _ A T U X H;refine⟨fun h=>(by rw[h]at A;cases A),fun j E t f=>?_⟩
  by_cases g:j=i
  ·subst g
   rw[hi]at f;cases f;exact T.wpOp hi (m _ _ hi).2 U ⟨fun x hx=>X x (kD.1 hx).1,H⟩
  ·have:=ready_mono E g
   rw[H.1]at this;cases this
 |succ p ih=>
  intro L listed a w s J A T U X H;refine⟨fun h=>(by rw[h]at A;cases A),fun j E t f=>?_⟩
  by_cases g:j=i
  ·subst g
   rw[hi]at f;cases f;exact T.wpOp hi (m _ _ hi).2 U ⟨fun x hx=>X x (kD.1 hx).1,wg _ _ _ _ _ _ (fun x hx=>.inl (aK _ (kD.1 hx).1)) H⟩
  ·have q:=H.2 j (ready_mono E g) t f
   obtain⟨B,oj',C,G⟩:=mem_ready.1 E;rw[f]at C;cases C;have R:jz t i=false:=by
    cases u:jz t i with
    |false=>rfl
    |true=>
     unfold jz at u;obtain⟨e,he,u⟩:=cp.1 u;simp only[aJ]at u;have q:=G e (by simpa using he) u.2;rw[bd u.1]at q;have F:=(mem_ready.1 A).1;rcases cC i listed.size with h'|h'
     ·simp[h']at F q;rw[F]at q;cases q
     ·simp[lB h']at q
   have D:tb (C8 ms (Mm ms j)) i=false:=by
    cases u:tb (C8 ms (Mm ms j)) i with
    |false=>rfl
    |true=>
     rw[Cw]at u;have q:=TV J (Nr hm E) u;have F:=(mem_ready.1 A).1;rcases cC i listed.size with h'|h'
     ·simp[h']at F q;rw[F]at q;cases q
     ·simp[lB h']at q
   have O:Pq ms j ((i,S)::L)=(i,S)::Pq ms j L:=by simp only[Pq,CD,D,cond_false]
   rw[O]at q;have Y:=Pt f (s j t f g B R) (m _ _ hi).1 (m _ _ f).1 (m _ _ f).2 Z T q;have z:∀k ok,ops[k]? =some ok→k≠i→(listed.setIfInBounds j true).getD k true=false→jz ok i=false→
     (∀d,y.dst=some d→d∉ok.looksAt ops)∧(∀d,y.dst=some d→ok.dst≠some d)∧(∀d,ok.dst=some d→d∉y.looksAt ops):=fun k ok hk W N V=>by
    refine s k ok hk W ?_ V;by_cases I:j=k
    ·subst I;exact B
    ·rw[getD_set_ne true I]at N;exact N
   refine wpOpIn_mono (fun a' w' K=>⟨fun x hx=>K.2.1 x (aK _ hx),ih (Pq ms j L) (listed.setIfInBounds j true) a' w' z (J.put hm E) (ready_mono A (Ne.symm g)) K.1 (K.2.1 _ (aP ..)) (fun x hx=>K.2.1 x (aK _ hx)) ?_⟩) Y
   rw[Array.setIfInBounds_comm _ _ g];exact K.2.2
theorem sR{h:ad}{R:Prop}:∀{L:rZ},tF L h R↔(∀x∈L,x.2 h)∧R
 | []=>by simp[tF]
 |(k,S)::L=>by
  simp only[tF,sR (L:=L),ar,forall_eq_or_imp,and_assoc]
theorem Uu{ms:List DM}{f:Nat}{L:rZ}{listed:Array Bool}{a:Act}{w:World}(b:Region.ready .any ops listed= [])(h:Q .normal a w):Uv ms ro n P ops Q f L listed a w:=by
 cases f with
 |zero=>exact⟨b,h⟩
 |succ f=>exact⟨fun _=>h,by rw[b];simp⟩
def left(ops:Array Oper)(ls:Nat):Nat:=((eN ops.size).filter fun j=> !ls.testBit j).length
theorem yZ{ls i:Nat}(hi:i<ops.size)(g:ls.testBit i=false):left ops (cY ls (ib i))+1=left ops ls:=by
 have key:∀l:List Nat,l.Nodup→i∈l→(l.filter fun j=> !(cY ls (ib i)).testBit j).length+1=(l.filter fun j=> !ls.testBit j).length:=by
  intro l;induction l with
  |nil=>intro _ h;cases h
  |cons x l ih=>
   intro c hm;rw[List.nodup_cons]at c;by_cases hx:x=i
   ·subst hx
    have a:(l.filter fun j=> !(cY ls (ib x)).testBit j)=l.filter fun j=> !ls.testBit j:=by
     apply List.filter_congr;intro y f;have:x≠y:=fun e=>c.1 (e▸f)
     rw[oY,BV,decide_eq_false this,Bool.or_false]
    have b:(cY ls (ib x)).testBit x=true:=by rw[oY,BV];simp
    rw[dG,dG,b,g,a];rfl
   ·have d:i∈l:=by rcases ar.1 hm with h|h;exact absurd h.symm hx;exact h
    have b:(cY ls (ib i)).testBit x=ls.testBit x:=by rw[oY,BV,decide_eq_false (Ne.symm hx),Bool.or_false]
    have:=ih c.2 d;rw[dG,dG,b];cases ls.testBit x with
    |true=>exact this
    |false=>exact congrArg (· +1) this
 exact key _ List.nodup_range (List.mem_range.2 hi)
theorem TG{N:Nat}{a:List Oper}{ms:List DM}{ls:Nat}{L:rZ}{d:w9}{K:cJ→ad→Prop}{r:cJ}{b:ad}:∀{l:DA},od P N a ms l true ls L d K r b→∃i,i∈Ez l
 | .done,h=>h.elim
 | .take i rest,h=>by
  exfalso;have hc:od P N a ms (.take i rest) true ls L d K r b=(match a[i]?,ms[i]? with|some _,some _=>False|_,_=>False):=rfl
  rw[hc]at h;split at h<;>exact h
 | .all _,h=>h.elim
 | .pick i _ _,_=>⟨i,aP ..⟩
 | .last i _,_=>⟨i,aP ..⟩
 | .lastT i _,_=>⟨i,aP ..⟩
 | .split ..,h=>h.elim
def Rn(ro:Option Nat)(n:Nat)(P:Program)(ops:Array Oper)(Q:Exit→Act→World→Prop)(N:Nat)(ms:List DM)(W:Nat→Prop)(c:Act)(e:World)(K:cJ→ad→Prop)(b:DA):Prop:=
 ∀(m:Bool) (ls:Nat) (L:rZ) (d:w9) (r:cJ) (a:Act) (w:World) (listed:Array Bool) (fuel:Nat),
  od P N ops.toList ms b m ls L d K r w.heap→Agree N r a→DecOk d r→Fr W c e a w→LsRel ops ls listed→Shut ms listed→(∀x∈L,x.2 w.heap)→
  (m=false→left ops ls≤fuel→Uv ms ro n P ops Q fuel L listed a w)∧
  (m=true→left ops ls≤fuel+1→∀i∈Ez b,i∈mE ls ms 0→∀o,ops[i]? =some o→
   wpOpIn (FW ro) n P ops Q i (fun a' w'=>(∀x∈Pq ms i L,x.2 w'.heap)∧Uv ms ro n P ops Q fuel (Pq ms i L) (listed.setIfInBounds i true) a' w') a w)
theorem Nk{N:Nat}{ms:List DM}(hm:MsOk ops ms){W:Nat→Prop}(hW:∀o∈ops.toList,∀d,o.dst=some d→W d){a0:Act}{w0:World}{K:cJ→ad→Prop}
  (hQ:∀r a w,Agree N r a→Fr W a0 w0 a w→K r w.heap→Q .normal a w)(hnp:∀e a w,(∀c,e=.panic c→False)∨¬Q e a w)(da:DA):
  Rn ro n P ops Q N ms W a0 w0 K da:=by
 have one:∀(i:Nat) (p:DA)
   (_:Rn ro n P ops Q N ms W a0 w0 K p)
   (ls:Nat) (L:rZ) (d:w9) (r:cJ) (a:Act) (w:World) (listed:Array Bool) (g:Nat),
   SY P N ops.toList i L d r w.heap (fun L' d' E h'=>od P N ops.toList ms p false (cY ls (ib i)) L' d' K E h')→Agree N r a→DecOk d r→Fr W a0 w0 a w→LsRel ops ls listed→Shut ms listed→
   left ops ls≤g+1→i∈mE ls ms 0→∀o,ops[i]? =some o→
    wpOpIn (FW ro) n P ops Q i (fun a' w'=>(∀x∈Pq ms i L,x.2 w'.heap)∧Uv ms ro n P ops Q g (Pq ms i L) (listed.setIfInBounds i true) a' w') a w:=by
  intro i p Y ls L d r a w listed g f B hd I A q z hr o y;have C:i<ops.size:=(ct.1 y).1;obtain⟨k,mm,hk,hki,O,_⟩:=(tw ls ms 0 i).1 hr;unfold SY at f;rw[bv,y]at f;simp only at f;cases hw:jw ops.toList d o with
  |none=>rw[hw]at f;exact f.elim
  |some b=>
   rw[hw]at f;cases b with
   |false=>exact f.elim
   |true=>
    simp only at f;cases hq:ym P o.op with
    |true=>
     rw[hq,cond_true]at f;unfold wpOpIn;rw[y];simp only[nX hw B hd,if_true];obtain⟨v,S,hK,hS,_,X⟩:=Eh B f d hd;refine qZ (K:=fun u h'=>u=v∧h'=w.heap) (E7 f) (.inl ⟨v,w,X w hS,Tame.refl w,rfl,rfl⟩) ?_
     rintro u w' ht ⟨rfl,hw'⟩;obtain⟨E,J,H,G⟩:=uQ (dv:=.x) hK B hd trivial;obtain⟨hh,Z⟩:=sR.1 J;have D:o∈ops.toList:=bf (by rw[bv];exact y);have R:=yZ C O;have F:∀x∈Pq ms i L,x∈pA o L:=fun x hx=>yV.2 ⟨(kD.1 hx).1,by
      cases hb:jz o x.1 with
      |false=>rfl
      |true=>
        have:=(kD.1 hx).2
        rw[Cw,KU (by rw[Ml hm y];exact hb)]at this;cases this⟩
     rw[←hw']at hh Z;exact⟨fun x hx=>hh x (F x hx),wg _ _ _ _ _ _ (fun x hx=>.inl (F x hx)) ((Y false _ _ _ E _ w' _ g Z H G (I.put (hW o D) u ht) (A.put C) (q.put hm ((m0 hm A).2 hr)) hh).1 rfl (by omega))⟩
    |false=>
     rw[hq,cond_false]at f;unfold wpOpIn;rw[y];simp only[nX hw B hd,if_true];refine qZ (yO f) (D9 B f) ?_;intro v w' ht hK;obtain⟨E,J,H,G⟩:=uQ (dv:=.x) hK B hd trivial;obtain⟨hh,Z⟩:=sR.1 J;have D:o∈ops.toList:=bf (by rw[bv];exact y);have R:=yZ C O;have F:∀x∈Pq ms i L,x∈pA o L:=fun x hx=>yV.2 ⟨(kD.1 hx).1,by
      cases hb:jz o x.1 with
      |false=>rfl
      |true=>
        have:=(kD.1 hx).2
        rw[Cw,KU (by rw[Ml hm y];exact hb)]at this;cases this⟩
     exact⟨fun x hx=>hh x (F x hx),wg _ _ _ _ _ _ (fun x hx=>.inl (F x hx)) ((Y false _ _ _ E _ w' _ g Z H G (I.put (hW o D) v ht) (A.put C) (q.put hm ((m0 hm A).2 hr)) hh).1 rfl (by omega))⟩
 have oneT:∀(i:Nat) (p:DA)
   (_:Rn ro n P ops Q N ms W a0 w0 K p)
   (ls:Nat) (L:rZ) (d:w9) (r:cJ) (a:Act) (w:World) (listed:Array Bool) (g:Nat),
   RP P N ops.toList ms i L d r w.heap (fun L' d' E h'=>od P N ops.toList ms p false (cY ls (ib i)) L' d' K E h')→Agree N r a→DecOk d r→Fr W a0 w0 a w→LsRel ops ls listed→Shut ms listed→
   left ops ls≤g+1→i∈mE ls ms 0→∀o,ops[i]? =some o→
    wpOpIn (FW ro) n P ops Q i (fun a' w'=>(∀x∈Pq ms i L,x.2 w'.heap)∧Uv ms ro n P ops Q g (Pq ms i L) (listed.setIfInBounds i true) a' w') a w:=by
  intro i p Y ls L d r a w listed g f B hd I A q z hr o y;have C:i<ops.size:=(ct.1 y).1;obtain⟨k,mm,hk,hki,O,_⟩:=(tw ls ms 0 i).1 hr;unfold RP at f;rw[bv,y]at f;simp only at f;cases hw:jw ops.toList d o with
  |none=>rw[hw]at f;exact f.elim
  |some b=>
   rw[hw]at f;cases b with
   |false=>exact f.elim
   |true=>
    simp only at f;cases hq:ym P o.op with
    |true=>rw[hq]at f;exact f.elim
    |false=>
     rw[hq,cond_false]at f;unfold wpOpIn;rw[y];simp only[nX hw B hd,if_true];refine qZ (yO f) (D9 B f) ?_;intro v w' ht hK;obtain⟨E,J,H,G⟩:=uQ (dv:=.x) hK B hd trivial;obtain⟨hh,Z⟩:=sR.1 J;have D:o∈ops.toList:=bf (by rw[bv];exact y);have R:=yZ C O;exact⟨hh,(Y false _ _ _ E _ w' _ g Z H G (I.put (hW o D) v ht) (A.put C) (q.put hm ((m0 hm A).2 hr)) hh).1 rfl (by omega)⟩
 induction da with
 |done=>
  intro m ls L d r a w listed g f B hd I A q U;cases m with
  |true=>exact f.elim
  |false=>
   refine⟨fun _ _=>?_,fun h=>by cases h⟩
   have hc:od P N ops.toList ms .done false ls L d K r w.heap=bif xA (mE ls ms 0) []then K r w.heap else False:=rfl;rw[hc]at f;cases hb:xA (mE ls ms 0) []with
   |false=>rw[hb]at f;exact f.elim
   |true=>
    rw[hb]at f;have hnil:Region.ready .any ops listed= []:=by
     apply List.eq_nil_iff_forall_not_mem.2;intro j T;rw[m0 hm A,As hb]at T;cases T
    exact Uu hnil (hQ r a w B I f)
 |take i p Y=>
  intro m ls L d r a w listed g f B hd I A q U;cases m with
  |true=>
   exfalso;have hc:od P N ops.toList ms (.take i p) true ls L d K r w.heap=(match ops.toList[i]?,ms[i]? with|some _,some _=>False|_,_=>False):=rfl
   rw[hc]at f;split at f<;>exact f
  |false=>
   refine⟨fun _ z=>?_,fun h=>by cases h⟩
   have hc:od P N ops.toList ms (.take i p) false ls L d K r w.heap=(match ops.toList[i]?,ms[i]? with
    |some o,some mi=>bif GV mi i ls ops.toList.length then
      (match jw ops.toList d o with
       |none=>False
       |some false=>BS N o undef r fun E=>od P N ops.toList ms p false (cY ls (ib i)) L (sZ d o .u) K E w.heap
       |some true=>bif ym P o.op then
          D5 P none o.op r (fun v S=>BS N o v r fun E=>match S with
            |none=>od P N ops.toList ms p false (cY ls (ib i)) L (sZ d o (MO d o.op)) K E w.heap
            |some S=>od P N ops.toList ms p false (cY ls (ib i)) ((i,S)::L) (sZ d o (MO d o.op)) K E w.heap) w.heap
          else False)
     else False
    |_,_=>False):=rfl
   rw[hc]at f;split at f
   ·rename_i o mi y hmi
    rw[bv]at y;cases htk:GV mi i ls ops.toList.length with
    |false=>rw[htk]at f;exact f.elim
    |true=>
     rw[htk,cond_true]at f;unfold GV at htk;simp only[aJ,qc,Cw]at htk;obtain⟨⟨hun,hrd⟩,hfr⟩:=htk;have C:i<ops.size:=(ct.1 y).1;have s:i∈Region.ready .any ops listed:=(JW hm A).2 ⟨mi,hmi,hun,hrd⟩;have R:=yZ (ops:=ops) C hun;obtain⟨f',rfl⟩:∃f',g=f'+1:=⟨g-1,by omega⟩
     have D:o∈ops.toList:=bf (by rw[bv];exact y);have hcov:∀j,j<ops.size→ls.testBit j=true∨mi.fr.testBit j=true:=by
      intro j T;have h0:=bd hfr;have hpb:(Ah (ib ops.toList.length)).testBit j=true:=by
        have:Ah (ib ops.toList.length)=2^ops.toList.length-1:=rfl;rw[this,Nat.testBit_two_pow_sub_one];simpa using T
      have hand:(j6 (cY ls mi.fr) (Ah (ib ops.toList.length))).testBit j=((cY ls mi.fr).testBit j&&(Ah (ib ops.toList.length)).testBit j):=sf _ _ j;rw[h0,hpb,Bool.and_true,oY]at hand;exact(Bool.or_eq_true_iff).1 hand.symm
     have V:∀j oj,ops[j]? =some oj→j≠i→listed.getD j true=false→jz oj i=false→
        (∀d,o.dst=some d→d∉oj.looksAt ops)∧(∀d,o.dst=some d→oj.dst≠some d)∧(∀d,oj.dst=some d→d∉o.looksAt ops):=by
      intro j oj hoj hne hju hna;have T:j<ops.size:=(ct.1 hoj).1;rw[A.unlisted T]at hju;have hjm:j<ms.length:=by rw[hm.len];exact T
      have hmj:=ah hjm;rcases hcov j T with h|h
      · rw[h]at hju;cases hju
      · rcases hm.free i j mi _ hmi hmj h with h|h|h
        ·exact absurd h hne
        ·rw[hm.am j oj _ hoj hmj,hna]at h;cases h
        ·exact WE hm y hoj hmi hmj h
     cases hw:jw ops.toList d o with
     |none=>rw[hw]at f;exact f.elim
     |some b=>
      rw[hw]at f;have hwd:=nX hw B hd;cases b with
      |false=>
        obtain⟨E,J,H,G⟩:=uQ (dv:=.u) f B hd rfl;have hy:YG P ops (fun _=>True) o undef a:=.inr ⟨hwd,rfl⟩
        refine GF hm y hm.nosel hnp f' L listed a w V q s hy trivial U ?_;refine wg _ L _ _ _ _ (fun x hx=>(ar.1 hx).elim (fun e=>.inr fun h=>by rw[e];trivial) .inl) ?_
        exact(Y false _ _ _ E _ w _ f' J H G (I.put (hW o D) undef (Tame.refl w)) (A.put C) (q.put hm s) U).1 rfl (by omega)
      |true=>
        simp only at f;cases hq:ym P o.op with
        |false=>rw[hq]at f;exact f.elim
        |true=>
         rw[hq,cond_true]at f;obtain⟨v,S,hK,hS,hdv,X⟩:=Eh B f d hd;obtain⟨E,J,H,G⟩:=uQ hK B hd hdv;have hfr':=I.put (hW o D) v (Tame.refl w);cases S with
         |none=>
           have hy:YG P ops (fun _=>True) o v a:=.inl ⟨hwd,fun w _=>X w trivial⟩
           refine GF hm y hm.nosel hnp f' L listed a w V q s hy trivial U ?_;refine wg _ L _ _ _ _ (fun x hx=>(ar.1 hx).elim (fun e=>.inr fun h=>by rw[e];trivial) .inl) ?_
           exact(Y false _ _ _ E _ w _ f' J H G hfr' (A.put C) (q.put hm s) U).1 rfl (by omega)
         |some S=>
           have hy:YG P ops S o v a:=.inl ⟨hwd,fun w h=>X w h⟩
           refine GF hm y hm.nosel hnp f' L listed a w V q s hy hS U ?_;exact(Y false _ _ _ E _ w _ f' J H G hfr' (A.put C) (q.put hm s) (fun x hx=>(ar.1 hx).elim (fun e=>by rw[e];exact hS) (U x))).1 rfl (by omega)
   ·exact f.elim
 |all l Y=>
  intro m ls L d r a w listed g f B hd I A q U;cases m with
  |true=>exact f.elim
  |false=>
   refine⟨fun _ z=>?_,fun h=>by cases h⟩
   have hc:od P N ops.toList ms (.all l) false ls L d K r w.heap=bif xA (mE ls ms 0) (Ez l)then od P N ops.toList ms l true ls L d K r w.heap else False:=rfl;rw[hc]at f;cases hb:xA (mE ls ms 0) (Ez l)with
   |false=>rw[hb]at f;exact f.elim
   |true=>
    rw[hb,cond_true]at f;obtain⟨i,hi⟩:=TG f;rw[←As hb]at hi;have hrd:=(m0 hm A (j:=i)).2 hi;obtain⟨k,mm,hk,hki,O,_⟩:=(tw ls ms 0 i).1 hi;have C:i<ops.size:=by
     have:=(aZ.1 hk).1;rw[hm.len]at this;omega
    have R:=yZ (ops:=ops) C O;obtain⟨f',rfl⟩:∃f',g=f'+1:=⟨g-1,by omega⟩
    refine⟨fun h=>(by rw[h]at hrd;cases hrd),fun j T o y=>?_⟩
    have hj':=(m0 hm A).1 T;exact(Y true ls L d r a w listed f' f B hd I A q U).2 rfl z j (by rw[←As hb];exact hj') hj' o y
 |pick i p more ih1 ih2=>
  intro m ls L d r a w listed g f B hd I A q U;cases m with
  |false=>exact f.elim
  |true=>
   refine⟨fun h=>(by cases h),fun _ z j T hjr o y=>?_⟩
   have f:SY P N ops.toList i L d r w.heap (fun L' d' E h'=>od P N ops.toList ms p false (cY ls (ib i)) L' d' K E h')∧od P N ops.toList ms more true ls L d K r w.heap:=f
   rcases ar.1 T with rfl|T
   ·exact one _ p ih1 ls L d r a w listed g f.1 B hd I A q z hjr o y
   ·exact(ih2 true ls L d r a w listed g f.2 B hd I A q U).2 rfl z j T hjr o y
 |last i p Y=>
  intro m ls L d r a w listed g f B hd I A q U;cases m with
  |false=>exact f.elim
  |true=>
   refine⟨fun h=>(by cases h),fun _ z j T hjr o y=>?_⟩
   have f:SY P N ops.toList i L d r w.heap (fun L' d' E h'=>od P N ops.toList ms p false (cY ls (ib i)) L' d' K E h'):=f
   have hji:j=i:=aO.1 T;subst hji;exact one _ p Y ls L d r a w listed g f B hd I A q z hjr o y
 |lastT i p Y=>
  intro m ls L d r a w listed g f B hd I A q U;cases m with
  |false=>exact f.elim
  |true=>
   refine⟨fun h=>(by cases h),fun _ z j T hjr o y=>?_⟩
   have f:RP P N ops.toList ms i L d r w.heap (fun L' d' E h'=>od P N ops.toList ms p false (cY ls (ib i)) L' d' K E h'):=f
   have hji:j=i:=aO.1 T;subst hji;exact oneT _ p Y ls L d r a w listed g f B hd I A q z hjr o y
 |split t yes no ih1 ih2=>
  intro m ls L d r a w listed g f B hd I A q U;cases m with
  |true=>exact f.elim
  |false=>
   refine⟨fun _ z=>?_,fun h=>by cases h⟩
   have hc:od P N ops.toList ms (.split t yes no) false ls L d K r w.heap=(match kV r t with
    |some (.bool b)=>CondP b (od P N ops.toList ms yes false ls L ((t,.t)::d) K ((t,.bool true)::r) w.heap) (od P N ops.toList ms no false ls L ((t,.f)::d) K ((t,.bool false)::r) w.heap)
    |_=>False):=rfl
   rw[hc]at f;split at f
   ·rename_i b hlk
    cases b with
    |true=>exact(ih1 false ls L _ _ a w listed g (f.yes rfl) (B.known hlk) (hd.known rfl) I A q U).1 rfl z
    |false=>exact(ih2 false ls L _ _ a w listed g (f.no rfl) (B.known hlk) (hd.known rfl) I A q U).1 rfl z
   ·exact f.elim
end Go.Lift
namespace Go.Lift
open Go
variable {P:Program} {ro:Option Nat} {n:Nat}
theorem Ku{r:cJ}:∀{l:List Nat} {r0:cJ},Sb r l=some r0→∀t v,kV r0 t=some v→t∈l∧kV r t=some v
 | [],r0,h,t,v,hv=>by cases h;cases hv
 |s::l,r0,h,t,v,hv=>by
  have h:(match kV r s,Sb r l with|some v,some l=>some ((s,v)::l)|_,_=>none)=some r0:=h
  split at h
  ·rename_i u l' hu hl
   cases h;by_cases e:s=t
   ·subst e;rw[jc]at hv;cases hv;exact⟨aP ..,hu⟩
   ·rw[ig u _ e]at hv
    have:=Ku hl t v hv;exact⟨aK _ this.1,this.2⟩
  ·cases h
theorem Er{m:Nat}{t:Nat}{v:Value}:∀{r:cJ},kV (za m r) t=some v→m.testBit t=false∧kV r t=some v
 | [],h=>by cases h
 |(k,u)::r,h=>by
  have h:kV (bif tb m k then za m r else(k,u)::za m r) t=some v:=h;cases hk:tb m k with
  |true=>
   rw[hk]at h;have:=Er h;by_cases e:k=t
   ·subst e;rw[Cw,this.1]at hk;cases hk
   ·rw[ig u _ e];exact this
  |false=>
   rw[hk]at h;have h:kV ((k,u)::za m r) t=some v:=h;by_cases e:k=t
   ·subst e;rw[jc]at h⊢;rw[Cw]at hk;exact⟨hk,h⟩
   ·rw[ig u _ e]at h⊢;exact Er h
theorem D8{t:Nat}:∀{l:List Oper},(Uy l).testBit t=false→¬mw t l=true
 | [],_,h=>by cases h
 |o::l,hm,h=>by
  have hm:(cY (oI o) (Uy l)).testBit t=false:=hm;rw[oY,iz]at hm;have h:(match o.dst with|some d=>bif az d t then true else mw t l|none=>mw t l)=true:=h
  cases hd:o.dst with
  |none=>rw[hd]at h;exact D8 hm.2 h
  |some d=>
   rw[hd]at h;cases e:az d t with
   |true=>have:=(zK o t).2 (by rw[hd,bd e]);rw[hm.1]at this;cases this
   |false=>simp only[e]at h;exact D8 hm.2 h
theorem NP{a b:Option Nat}{m:Nat}(h:ZU a b=some m):∃x y,a=some x∧b=some y∧m=cY x y:=by
 cases a<;>cases b<;>cases h
 exact⟨_,_,rfl,rfl,rfl⟩
theorem Ux{t:Nat}(c:Code):∀{m:Nat},AW c=some m→m.testBit t=false→¬gL t c=true:=by
 induction c with
 |skip=>intro m _ _ h;cases h
 |region id ops dr=>intro m h hm d;cases h;exact D8 hm d
 |seq a b iha ihb=>
  intro m h hm d;obtain⟨x,y,hx,e,rfl⟩:=NP (show ZU (AW a) (AW b)=some m from h)
  rw[oY,iz]at hm;have d:(bif gL t a then true else gL t b)=true:=d;cases ha:gL t a with
  |true=>exact iha hx hm.1 ha
  |false=>rw[ha]at d;exact ihb e hm.2 d
 |cond c a b iha ihb=>
  intro m h hm d;obtain⟨x,y,hx,e,rfl⟩:=NP (show ZU (AW a) (AW b)=some m from h)
  rw[oY,iz]at hm;have d:(bif gL t a then true else gL t b)=true:=d;cases ha:gL t a with
  |true=>exact iha hx hm.1 ha
  |false=>rw[ha]at d;exact ihb e hm.2 d
 |block id b ih=>exact fun h hm=>ih h hm
 |loop b ih=>exact fun h hm=>ih h hm
 |rangeFunc _ _ _ _ _ _=>intro m h;cases h
 |scope b ih=>exact fun h hm=>ih h hm
 |_=>intro m _ _ h;cases h
theorem Agree.keep{N:Nat}{r d:cJ}{a a':Act}{w w':World}{m:Nat}{c:Code}(h:Agree N r a)(hm:AW c=some m)(e:Fr (fun t=>gL t c=true) a w a' w')(h':Agree N d a'):Agree N (za m r) a':=
 ⟨h'.size,fun t v b=>by
  obtain⟨g,f⟩:=Er b
  rw[e.same t (Ux c hm g)];exact h.look t v f⟩
theorem yR{st:St}{r:cJ}{f:uS (Bx st)→Prop}(h:E2 st r f):∃t,GZ r st=some (mN (Bx st) t)∧f t:=by
 unfold E2 at h;split at h
 ·rename_i vs hv
  obtain⟨t,rfl,a⟩:=tV h;exact⟨t,hv,a⟩
 ·exact h.elim
theorem Agree.zip{N:Nat}{r:cJ}{a:Act}(h:Agree N r a):∀{st:St} {vs:List Value} {r0:cJ},GZ r st=some vs→Agree N r0 a→Agree N (oD st vs r0) a
 | [],vs,r0,_,h0=>by cases vs<;>exact h0
 |(i,k)::st,vs,r0,hv,h0=>by
  unfold GZ at hv;split at hv
  ·rename_i v vs' h1 h2
   cases hv;have:=Agree.zip h h2 h0;refine⟨this.size,fun t u b=>?_⟩
   by_cases e:i=t
   ·subst e
    rw[show oD ((i,k)::st) (v::vs') r0=(i,v)::oD st vs' r0 from rfl,jc]at b;cases b
    exact h.look i v h1
   ·rw[show oD ((i,k)::st) (v::vs') r0=(i,v)::oD st vs' r0 from rfl,ig v _ e]at b
    exact this.look t u b
  ·cases hv
theorem Cn{t:Nat}:∀{l:List Oper} {o:Oper},o∈l→o.dst=some t→mw t l=true
 | [],_,h,_=>by cases h
 |x::l,o,h,hd=>by
  have e:mw t (x::l)=(match x.dst with|some d=>bif az d t then true else mw t l|none=>mw t l):=rfl
  rw[e];rcases ar.1 h with rfl|h
  ·rw[hd];simp only;rw[show az t t=true from te t];rfl
  ·have:=Cn h hd
   cases x.dst with
   |none=>exact this
   |some d=>
    simp only;cases az d t with
    |true=>rfl
    |false=>exact this
def LWP(ro:Option Nat)(n:Nat)(P:Program)(c:Code)(Q:Exit→Act→World→Prop)(a:Act)(w:World):Prop:=
 ∀(b:Frame) (k:List Item) (cs:List Frame),b.roundOf=(FW ro).round→(FW ro).fn b.fn→(FW ro).room (cs.length+1+n)→
  ∃e a' w',Q e a' w'∧ArrivesIn (Machine.fenced P (FW ro)) P (lone (b.atR a (.code c:: .inLoop c::k)) cs w) b k cs e a' w'
theorem LWP.step{c:Code}{Q:Exit→Act→World→Prop}{a:Act}{w:World}(h:c.wpIn (FW ro) n P (Exit.then (LWP ro n P c Q) Q) a w):LWP ro n P c Q a w:=by
 intro b k cs j q p;obtain⟨e,i,m,g,d⟩:=h b (.inLoop c::k) cs j q p;cases e with
 |normal=>
  obtain⟨t,s,u,o,f⟩:=g b k cs j q p;exact⟨t,s,u,o,.of_steps (StepsIn.trans d (.one (fenced_calm q p rfl) stepR_inLoop)) f⟩
 |exit id=>exact⟨_,i,m,g,.pass (x:=.inLoop c) rfl (fun _ _=>.inl (by simp)) d⟩
 |goto l=>exact⟨_,i,m,g,.pass (x:=.inLoop c) rfl (fun _ _=>.inl (by simp)) d⟩
 |ret=>exact⟨_,i,m,g,.pass (x:=.inLoop c) rfl (fun _ _=>.inl (by simp)) d⟩
 |panic ch=>exact⟨_,i,m,g,.pass (x:=.inLoop c) rfl (fun _ _=>.inl (by simp)) d⟩
 |outgrown=>exact⟨_,i,m,g,.pass (x:=.inLoop c) rfl (fun _ _=>.inl (by simp)) d⟩
theorem LWP.loop{c:Code}{Q:Exit→Act→World→Prop}{a:Act}{w:World}(h:LWP ro n P c Q a w):(Code.loop c).wpIn (FW ro) n P Q a w:=by
 intro b k cs f i g;obtain⟨e,a',w',j,d⟩:=h b k cs f i g;exact⟨e,a',w',j,.of_steps (.one (fenced_calm i g rfl) stepR_loop) d⟩
theorem KQ(r:cJ):DecOk [] r:=fun _=>.inl rfl
theorem XL(ops:Array Oper)(ls:Nat):left ops ls≤ops.size:=by
 unfold left;exact Nat.le_trans (List.length_filter_le ..) (by simp)
theorem mC(f:P.follows .mixedOrders=true){N id:Nat}{ops:Array Oper}{g:Bool}{u:Ann}{K:cJ→ad→Prop}{r:cJ}{a:Act}{w:World}{Q:Exit→Act→World→Prop}
  (b:Ed P N ops.toList g u K r w.heap)(k:Agree N r a)(q:∀c a w,¬Q (.panic c) a w)
  (m:∀r' a' w',Agree N r' a'→Fr (fun t=>mw t ops.toList=true) a w a' w'→K r' w'.heap→Q .normal a' w'):(Code.region id ops g).wpIn (FW ro) n P Q a w:=by
 have i:∀o∈ops.toList,∀d,o.dst=some d→mw d ops.toList=true:=fun o p d hd=>Cn p hd
 cases g with
 |false=>
  have key:∀ek,G2 P N ek ops.toList ops.toList [] K r w.heap→(Code.region id ops false).wpIn (FW ro) n P Q a w:=fun ek b=>by
   refine wpIn_region ?_;rw[List.range_eq_range',show ops.size=ops.toList.length from rfl]
   exact G1 i m ops.toList 0 rfl [] r a w b k (KQ r) (Fr.refl _ a w)
  unfold Ed at b;simp only at b;split at b
  ·exact key _ b
  ·exact key _ b
 |true=>
  unfold Ed at b;simp only at b;generalize RZ ops.toList=ms at b;cases hm:Gv ops.toList ms with
  |false=>rw[hm]at b;exact b.elim
  |true=>
   rw[hm,cond_true]at b;refine wpIn_region_any f (RA (ms:=ms) _ [] _ _ _ ?_);have v:Tame w {w with drawn:=w.drawn+1}:=⟨rfl,rfl,rfl⟩;have s:Fr (fun t=>mw t ops.toList=true) a w a {w with drawn:=w.drawn+1}:=⟨v,rfl,fun _ _=>rfl⟩
   refine(Nk (Qn hm) i m (fun e a w=>?_) _ false 0 [] [] r a {w with drawn:=w.drawn+1} _ ops.size b k (KQ r) s LsRel.start (fun j x _ h=>by rw[(LsRel.start (ops:=ops)).bit,nD]at h;cases h) (fun x hx=>by cases hx)).1 rfl (XL ops 0)
   cases e with
   |panic ch=>exact .inr (q _ a w)
   |_=>exact .inl fun c hc=>by cases hc
theorem GD(t:Nat)(x y:Code):gL t (.seq x y)=(bif gL t x then true else gL t y):=rfl
theorem EW(t:Nat)(c:Operand)(x y:Code):gL t (.cond c x y)=(bif gL t x then true else gL t y):=rfl
theorem Mh{a b:Bool}:(bif a then true else b)=true↔a=true∨b=true:=by cases a<;>cases b<;>decide
theorem uy(u:P.follows .mixedOrders=true){N:Nat}(c:Code):∀(D:Ann) (Kn:cJ→ad→Prop) (Kx:Ex→cJ→ad→Prop) (r:cJ) (a:Act) (w:World) (Q:Exit→Act→World→Prop),
  lC P N c D Kn Kx r w.heap→Agree N r a→(∀O a w,¬Q (.panic O) a w)→
  (∀g a' w',Agree N g a'→Fr (fun t=>gL t c=true) a w a' w'→Kn g w'.heap→Q .normal a' w')→
  (∀i g a' w',Agree N g a'→Fr (fun t=>gL t c=true) a w a' w'→Kx (.exit i) g w'.heap→Q (.exit i) a' w')→
  (∀g a' w',Agree N g a'→Fr (fun t=>gL t c=true) a w a' w'→Kx .ret g w'.heap→Q .ret a' w')→
  c.wpIn (FW ro) n P Q a w:=by
 induction c with
 |skip=>
  intro D Kn Kx r a w Q j s _ z _ _;exact wpIn_skip (z r a w s (Fr.refl ..) j)
 |region id ops dr=>
  intro D Kn Kx r a w Q j s A z _ _;cases D with
  |reg keep inner=>
   have j:Ed P N ops.toList dr inner (fun g h'=>match Sb g keep with|some r0=>Kn r0 h'|none=>False) r w.heap:=j
   refine mC u j s A fun g a' w' R W hk=>?_
   split at hk
   ·rename_i r0 hr0
    refine z r0 a' w' ⟨R.size,fun t v hv=>R.look t v (Ku hr0 t v hv).2⟩ W hk
   ·exact hk.elim
  |nil=>exact mC u (show Ed P N ops.toList dr (.nil) Kn r w.heap from j) s A z
  |node x y=>exact mC u (show Ed P N ops.toList dr (.node x y) Kn r w.heap from j) s A z
  |join st x y=>exact mC u (show Ed P N ops.toList dr (.join st x y) Kn r w.heap from j) s A z
  |loop st y=>exact mC u (show Ed P N ops.toList dr (.loop st y) Kn r w.heap from j) s A z
  |draw d=>exact mC u (show Ed P N ops.toList dr (.draw d) Kn r w.heap from j) s A z
  |kinds k v=>exact mC u (show Ed P N ops.toList dr (.kinds k v) Kn r w.heap from j) s A z
  |rf ks x y=>exact mC u (show Ed P N ops.toList dr (.rf ks x y) Kn r w.heap from j) s A z
 |seq x y ihx ihy=>
  intro D Kn Kx r a w Q j s A z hx G;have E:∀{a' w'},Fr (fun t=>gL t x=true) a w a' w'→Fr (fun t=>gL t (.seq x y)=true) a w a' w':=fun h=>h.mono fun t S=>by rw[GD,Mh];exact .inl S
  have C:∀{a' w' I H},Fr (fun t=>gL t x=true) a w a' w'→Fr (fun t=>gL t y=true) a' w' I H→Fr (fun t=>gL t (.seq x y)=true) a w I H:=
   fun h k=>(E h).trans (k.mono fun t S=>by rw[GD,Mh];exact .inr S)
  have plain:∀V L,lC P N x V (fun g h'=>lC P N y L Kn Kx g h') Kx r w.heap→(Code.seq x y).wpIn (FW ro) n P Q a w:=fun V L j=>by
   refine wpIn_seq (ihx V _ Kx r a w _ j s (fun O a w=>A O a w) ?_ (fun i g a' w' q p o=>hx i g a' w' q (E p) o) (fun g a' w' q p o=>G g a' w' q (E p) o))
   intro r1 U Z F B K;exact ihy L Kn Kx r1 U Z Q K F A (fun g a' w' q p o=>z g a' w' q (C B p) o) (fun i g a' w' q p o=>hx i g a' w' q (C B p) o) (fun g a' w' q p o=>G g a' w' q (C B p) o)
  cases D with
  |join st V L=>
   have j:(match AW x with
      |none=>False
      |some m=>Join (T:=uS (Bx st)) (fun t h'=>lC P N y L Kn Kx (oD st (mN (Bx st) t) (za m r)) h')
       fun J=>lC P N x V (fun g h'=>E2 st g fun t=>J t h') Kx r w.heap):=j
   split at j
   ·exact j.elim
   ·rename_i m hm
    refine wpIn_seq (ihx V _ Kx r a w _ j.run s (fun O a w=>A O a w) ?_ (fun i g a' w' q p o=>hx i g a' w' q (E p) o) (fun g a' w' q p o=>G g a' w' q (E p) o))
    intro r1 U Z F B K;obtain⟨t,hst,hs2⟩:=yR K;have ha2:Agree N (oD st (mN (Bx st) t) (za m r)) U:=F.zip hst (s.keep hm B F);exact ihy L Kn Kx _ U Z Q hs2 ha2 A (fun g a' w' q p o=>z g a' w' q (C B p) o) (fun i g a' w' q p o=>hx i g a' w' q (C B p) o) (fun g a' w' q p o=>G g a' w' q (C B p) o)
  |_=>exact plain _ _ j
 |cond c x y ihx ihy=>
  intro D Kn Kx r a w Q j s A z hx G;have j:(match dq r c with
   |some (.bool t)=>CondP t (lC P N x D.l Kn Kx r w.heap) (lC P N y D.r Kn Kx r w.heap)
   |_=>False):=j
  have E:∀{a' w'},Fr (fun t=>gL t x=true) a w a' w'→Fr (fun t=>gL t (.cond c x y)=true) a w a' w':=fun h=>h.mono fun t S=>by rw[EW,Mh];exact .inl S
  have C:∀{a' w'},Fr (fun t=>gL t y=true) a w a' w'→Fr (fun t=>gL t (.cond c x y)=true) a w a' w':=fun h=>h.mono fun t S=>by rw[EW,Mh];exact .inr S
  split at j
  ·rename_i t S
   refine wpIn_cond_split (kW s S) (fun e=>?_) (fun e=>?_)
   ·exact ihx _ Kn Kx r a w Q (j.yes e) s A (fun g a' w' q p o=>z g a' w' q (E p) o) (fun i g a' w' q p o=>hx i g a' w' q (E p) o) (fun g a' w' q p o=>G g a' w' q (E p) o)
   ·exact ihy _ Kn Kx r a w Q (j.no e) s A (fun g a' w' q p o=>z g a' w' q (C p) o) (fun i g a' w' q p o=>hx i g a' w' q (C p) o) (fun g a' w' q p o=>G g a' w' q (C p) o)
  ·exact j.elim
 |block id b ih=>
  intro D Kn Kx r a w Q j s A z hx G;refine wpIn_block (ih D Kn _ r a w _ j s (fun O a w=>A O a w) z (fun i g a' w' q p o=>?_) G)
  simp only[Exit.inBlock]at o⊢;cases hi:az i id with
  |true=>
   rw[hi,cond_true]at o;rw[if_pos (bd hi)];exact z g a' w' q p o
  |false=>
   rw[hi,cond_false]at o;rw[if_neg (fun e=>by rw[e,te]at hi;cases hi)]
   exact hx i g a' w' q p o
 |loop b ih=>
  intro D Kn Kx r a w Q j s A z hx G;cases D with
  |loop st L=>
   have j:(match AW b with
      |none=>False
      |some m=>E2 st r fun t0=>LoopP (T:=uS (Bx st)) (fun self t h'=>lC P N b L (fun g h''=>E2 st g fun t'=>self t' h'') Kx (oD st (mN (Bx st) t) (za m r)) h') t0 w.heap):=j
   split at j
   ·exact j.elim
   ·rename_i m hm
    obtain⟨t0,Y,hl⟩:=yR j;have h0:=hl.run (fun t h'=>∀a' w',w'.heap=h'→Agree N (oD st (mN (Bx st) t) (za m r)) a'→Fr (fun t=>gL t b=true) a w a' w'→LWP ro n P b Q a' w') (fun t h' hF a' w' hw R W=>by
     subst hw
     refine LWP.step (ih L _ Kx _ a' w' _ hF R (fun O a w=>A O a w) ?_ (fun i g I H q p o=>hx i g I H q (W.trans p) o) (fun g I H q p o=>G g I H q (W.trans p) o))
     intro r1 U Z F B K
     obtain⟨t1,X,hk1⟩:=yR K
     exact hk1 U Z rfl (F.zip X (s.keep hm (W.trans B) F)) (W.trans B))
    exact LWP.loop (h0 a w rfl (s.zip Y (s.keep hm (Fr.refl _ a w) s)) (Fr.refl _ a w))
  |_=>exact j.elim
 |rangeFunc f params assign body _ _=>intro D Kn Kx r a w Q j;exact j.elim
 |exit id=>
  intro D Kn Kx r a w Q j s A z hx G;exact wpIn_exit (hx id r a w s (Fr.refl ..) j)
 |scope b _=>intro D Kn Kx r a w Q j;exact j.elim
 |label l=>
  intro D Kn Kx r a w Q j s A z hx G;exact wpIn_label (z r a w s (Fr.refl ..) j)
 |goto l=>intro D Kn Kx r a w Q j;exact j.elim
 |ret=>
  intro D Kn Kx r a w Q j s A z hx G;exact wpIn_ret (G r a w s (Fr.refl ..) j)
 |refuse why=>intro D Kn Kx r a w Q j;exact j.elim
end Go.Lift
namespace Go.Lift
open Go
variable {P:Program}
theorem qP{N:Nat}{r:cJ}{a:Act}{w:World}(c:Agree N r a):∀{l:List ResultVar} {K:List Value→Prop},oG P r w.heap l K→
  ∃vs,(∀g:ResultVar→Sem Value,(∀t,g (.tmp t)=pure (a.tmps.getD t undef))→(∀x t,g (.cell x t)=do loadVar t (←asAddr (a.tmps.getD x undef)))→(l.mapM g).run P w=.ok vs w)∧K vs
 | [],K,h=>⟨[],fun g _ _=>by rw[List.mapM_nil];rfl,h⟩
 | .tmp t::l,K,h=>by
  unfold oG at h;split at h
  ·rename_i v hv
   obtain⟨vs,i,f⟩:=qP c h;refine⟨v::vs,fun g d e=>?_,f⟩
   rw[List.mapM_cons,d];simp only[aW,bQ,aC];rw[i g d e];simp only[aC,c.look t v hv]
  ·exact h.elim
 | .cell x t::l,K,h=>by
  unfold oG at h;split at h
  ·rename_i v hv
   obtain⟨u,S,m,k,n⟩:=E8 h;obtain⟨vs,i,f⟩:=qP c m;refine⟨u::vs,fun g d e=>?_,f⟩
   rw[List.mapM_cons,e];have j:(do loadVar t (←asAddr (a.tmps.getD x undef)):Sem Value).run P w=.ok u w:=by
    rw[c.look x v hv];unfold Nx at h;cases v with
    |pointer p=>cases p with
     |none=>exact h.elim
     |some b=>exact n w k
    |_=>exact h.elim
   simp only[aW]at j⊢;rw[j];simp only[aC];rw[i g d e];simp only[bQ,aC]
  ·exact h.elim
theorem JV(ks:List Kind)(t:uS ks):(if h:(mN ks t).toArray.size=1 then(mN ks t).toArray[0]else Value.tuple (mN ks t).toArray)=CB ks (mN ks t):=by
 match ks,t with
 | [],t=>rfl
 | [k],t=>rfl
 |k::l::ks,(x,t)=>
  have:(mN (k::l::ks) (x,t)).length=(k::l::ks).length:=uP _ _;rw[dif_neg (by simp only[cP,this,ay];omega)];rfl
theorem xQ:∀(vs:List Value) (i t:Nat) (v:Value),kV (qU i vs) t=some v→i≤t∧vs[t-i]? =some v
 | [],i,t,v,h=>by cases h
 |u::vs,i,t,v,h=>by
  by_cases e:i=t
  ·subst e
   rw[show qU i (u::vs)=(i,u)::qU (i+1) vs from rfl,jc]at h
   cases h;exact⟨Nat.le_refl _,by simp⟩
  ·rw[show qU i (u::vs)=(i,u)::qU (i+1) vs from rfl,ig u _ e]at h
   obtain⟨b,a⟩:=xQ vs (i+1) t v h;refine⟨by omega,?_⟩;rw[show t-i=(t-(i+1))+1 by omega,List.getElem?_cons_succ]
   exact a
theorem Sw(d:P.follows .mixedOrders=true){n:Nat}{fn:Func}{c:Code}{p:Ann}{args:List Value}{ks:List Kind}{K:uS ks→ad→Prop}{w:World}(o:args.length≤fn.ntmps)(s:JR P fn c p args ks K w.heap):
  c.wpIn (FW none) n P (bodyPost P fn fun e w'=>Tame w w'∧∃t:uS ks,e=.returned (CB ks (mN ks t))∧K t w'.heap) {tmps:=args.toArray++jO (fn.ntmps-args.toArray.size) undef,defers:= []} w:=by
 have u:Agree fn.ntmps (qU 0 args) {tmps:=args.toArray++jO (fn.ntmps-args.toArray.size) undef,defers:= []}:=by
  refine⟨by simp;omega,fun t v q=>?_⟩
  obtain⟨_,j⟩:=xQ args 0 t v q;simp only[eP]at j;have g:=(aZ.1 j).1;simp[Array.getElem?_append,g];rw[ah g]at j;cases j;rfl
 have i:∀k a' (w':World),Agree fn.ntmps k a'→Fr (fun t=>gL t c=true) {tmps:=args.toArray++jO (fn.ntmps-args.toArray.size) undef,defers:= []} w a' w'→
   oG P k w'.heap fn.results.toList (fun vs=>F5 ks vs fun t=>K t w'.heap)→
   a'.defers= []∧∃v,(results fn a'.tmps).run P w'=.ok v w'∧(Tame w w'∧∃t:uS ks,Ending.returned v=.returned (CB ks (mN ks t))∧K t w'.heap):=fun k a' w' m f y=>by
  obtain⟨vs,b,hd⟩:=qP m y;obtain⟨t,rfl,x⟩:=tV hd;refine⟨f.defers,_,?_,f.tame,t,rfl,x⟩;unfold results;rw[nH];simp only[aW,Sem.run_map];rw[b _ (fun _=>rfl) (fun _ _=>rfl)]
  simp only[aC,bQ];rw[←JV]
 exact uy d c p _ _ _ _ w _ s u (fun z a w h=>h.2.2.elim fun _ h=>by cases h.1) i (fun _ _ _ _ _ _ h=>h.elim) i
theorem HE.intro(d:P.follows .mixedOrders=true){f:FuncId}{fn:Func}{c:Code}{j:Ann}{args:List Value}{ks:List Kind}{K:uS ks→ad→Prop}{h:ad}
  (i:P.funcs[f]? =some fn) (k:fn.body=some c) (a:∀(args:Array Value) (w:World),(callFunc f args).run P w=.ok (.enter f args) w) (b:args.length≤fn.ntmps)
  (e:JR P fn c j args ks K h):HE P f args ks K h:=by
 refine⟨fun w g=>⟨a,?_⟩⟩
 subst g;exact(callsIn_wide (n:=0)).1 (callsIn_of_wp (F:=FW none) i k trivial (Sw d b e) rfl)
theorem HD.intro(d:P.follows .mixedOrders=true){f:FuncId}{fn:Func}{c:Code}{p:Ann}{args:List Value}{ks:List Kind}{K:ad→Prop}{h:ad}
  (o:P.funcs[f]? =some fn) (s:fn.body=some c) (a:∀(args:Array Value) (w:World),(callFunc f args).run P w=.ok (.enter f args) w) (b:args.length≤fn.ntmps)
  (i:JR P fn c p args ks (fun _ h'=>K h') h):HD P f args K h:=by
 refine fun w j=>⟨a,fun n=>?_⟩
 subst j;exact(callsDIn_of_wp (F:=FW none) o s trivial (Sw d b i) rfl).mono fun e u w' ⟨q,k,t,m,g⟩=>⟨q,k,⟨_,m⟩,g⟩
theorem HC.intro(d:P.follows .mixedOrders=true){f:FuncId}{fn:Func}{c:Code}{i:Ann}{args:List Value}{ks:List Kind}{K:uS ks→ad→Prop}{h:ad}
 (g:P.funcs[f]? =some fn) (j:fn.body=some c) (a:∀(args:Array Value) (w:World),(callFunc f args).run P w=.ok (.enter f args) w) (b:args.length≤fn.ntmps)
 (e:JR P fn c i args ks K h):HC P f args ks K h:=(HE.intro d g j a b e).hc
theorem Q6{N:Nat}{args:List Value}(c:args.length≤N):Agree N (qU 0 args) {tmps:=args.toArray++jO (N-args.toArray.size) undef,defers:= []}:=by
 refine⟨by simp;omega,fun t v d=>?_⟩
 obtain⟨_,b⟩:=xQ args 0 t v d;simp only[eP]at b;have a:=(aZ.1 b).1;simp[Array.getElem?_append,a];rw[ah a]at b;cases b;rfl
theorem Nq{N:Nat}{fn:Func}{ks:List Kind}{K:uS ks→ad→Prop}{c:cJ}{a':Act}{w':World}(b:Agree N c a')(e:oG P c w'.heap fn.results.toList (fun vs=>F5 ks vs fun t=>K t w'.heap)):
  ∃t:uS ks,(results fn a'.tmps).run P w'=.ok (CB ks (mN ks t)) w'∧K t w'.heap:=by
 obtain⟨vs,a,hd⟩:=qP b e;obtain⟨t,rfl,d⟩:=tV hd;refine⟨t,?_,d⟩;unfold results;rw[nH];simp only[aW,Sem.run_map];rw[a _ (fun _=>rfl) (fun _ _=>rfl)]
 simp only[aC,bQ];rw[←JV]
end Go.Lift
namespace Go.Lift
open Go
variable {P:Program}
abbrev Ho(D:Nat):Deferred:={target:=.collected D,args:= #[]}
abbrev qu:Mk→Deferred
 | .it D=>Ho D
 | .call f vs=>{target:=.fn (.func f) #[],args:= #[]++vs.toArray}
theorem Ij{N:Nat}:∀{ps:List Nat} {vs:List Value} {r:cJ} {tmps:Array Value},BJ N ps=true→Agree N r {tmps:=tmps,defers:= []}→
  Agree N (W5 ps vs r) {tmps:=(ps.zip vs).foldl (fun t x=>t.setIfInBounds x.1 x.2) tmps,defers:= []}
 | [],vs,r,tmps,_,h=>by cases vs<;>exact h
 |i::ps,[],r,tmps,_,h=>h
 |i::ps,v::vs,r,tmps,a,h=>by
  have a:(AC i N&&BJ N ps)=true:=a;rw[aJ]at a;have b:i<N:=by simpa using a.1
  have:=h.put i v b;exact Ij (tmps:=tmps.setIfInBounds i v) a.2 this
theorem GT(w:World)(o:Obj):Tame w (w.alloc o):=⟨rfl,rfl,rfl⟩
theorem pc(w:World)(b:Nat)(o:Obj):Tame w (w.putObj b o):=⟨rfl,rfl,rfl⟩
theorem ND(w:World)(b:Nat)(o:Obj):(w.putObj b o).heap=w.heap.setIfInBounds b o:=rfl
theorem SE(ps:Array Nat)(vs:List Value)(t:Array Value):(ps.zip vs.toArray).foldl (fun t (x:Nat×Value)=>t.setIfInBounds x.1 x.2) t=(ps.toList.zip vs).foldl (fun t x=>t.setIfInBounds x.1 x.2) t:=by
 obtain⟨l⟩:=ps;simp
theorem FY(B:P.follows .mixedOrders=true){n N:Nat}{g:Operand}{ps:Array Tmp}{assign body:Code}{aa ab:Ann}{ks:List Kind}{fv:Value}{r:cJ}{a:Act}{w:World}{Q:Exit→Act→World→Prop}
  {KN:ad→Prop}{KX:Nat→ad→Prop}{KR:ad→Prop}(hps:BJ N ps.toList=true)(G:ps.toList.length=ks.length)(hg:dq r g=some fv)(ha:Agree N r a)
  (hR:RangeP P fv ks w.heap (fun JX bz x k h'=>PR P N ps.toList ks assign body (.node aa ab) r (w.heap.size+1) JX bz x k h') KN KX KR)
  (hn:∀w',Tame w w'→KN w'.heap→Q .normal {a with defers:=Ho w.heap.size::a.defers} w')
  (hx:∀i w',Tame w w'→KX i w'.heap→Q (.exit i) {a with defers:=Ho w.heap.size::a.defers} w')
  (hr:∀w',Tame w w'→KR w'.heap→Q .ret {a with defers:=Ho w.heap.size::a.defers} w'):(Code.rangeFunc g ps assign body).wpIn (FW none) n P Q a w:=by
 refine wpIn_rangeFunc fun fn _=>?_
 obtain⟨lo,m⟩:∃lo:LoopState→Option Ex→Obj,lo=fun s j=>.loop {state:=s,pending:=L3 j,fn,tmps:=a.tmps,params:=ps,assign,body,defers:=w.heap.size}:=⟨_,rfl⟩
 have hj:∀j:Option Ex,(L3 j).isNone=j.isNone:=fun j=>by rcases j with _|⟨_|_⟩<;>rfl
 obtain⟨f,first,cap,rfl,he⟩:=hR.run lo (fun s j=>⟨_,by rw[m]⟩) (fun x h' K q z=>by
  refine⟨.inr ⟨_,rfl,⟨fun J X=>?_⟩⟩⟩
  subst X
  rw[m]at q
  have hy:=run_yield (P:=P) (args:=(mN ks x).toArray) q (by simp only[cP,uP];rw[←G];rfl)
  refine⟨_,_,_,_,hy,fun c cs=>?_⟩
  have hA:Agree N (W5 ps.toList (mN ks x) r) {tmps:=(ps.zip (mN ks x).toArray).foldl (fun t (x:Nat×Value)=>t.setIfInBounds x.1 x.2) a.tmps,defers:= []}:=by
   rw[SE]
   exact Ij hps ⟨ha.size,ha.look⟩
  have p:∀j:Option Ex,∀W:World,Tame J W→(W.heap[w.heap.size+1]? =some (lo .busy none)∧K j.isNone (W.heap.setIfInBounds (w.heap.size+1) (lo (if j.isNone then .ready else .done) j)))→
    ∃v w',(Instr.endRound (w.heap.size+1) (L3 j)).run P W=.ok v w'∧∃b,Ending.returned v=.returned (.bool b)∧Tame J w'∧K b w'.heap:=by
   rintro j W S ⟨h1,T⟩
   rw[m]at h1
   have:=run_endRound (P:=P) (L3 j) h1
   refine⟨_,_,this,_,rfl,S.trans (pc ..),?_⟩
   rw[m]at T
   rw[hj]
   exact T
  have:=roundIn_of_wpIn (F:=FW none) (n:=0) (P:=P) (l:=w.heap.size+1) (f:=fn) (assign:=assign) (body:=body) (w:=J)
   (tmps:=(ps.zip (mN ks x).toArray).foldl (fun t (x:Nat×Value)=>t.setIfInBounds x.1 x.2) a.tmps)
   (R:=fun e w'=>∃b,e=.returned (.bool b)∧Tame J w'∧K b w'.heap) trivial (by
    refine uy (ro:=some (w.heap.size+1)) B assign aa _ _ _ _ J _ z hA (fun ch a w h=>h) ?_ (fun i r' a' w' _ _ h=>h.elim) (fun r' a' w' _ _ h=>h.elim)
    rintro r2 a2 w2 Z E ⟨u,D⟩
    rw[m]at u
    refine⟨_,run_beginRound u rfl,?_⟩
    have I:∀o,o=lo .busy none→w2.heap.setIfInBounds (w.heap.size+1) o=w2.heap.setIfInBounds (w.heap.size+1) (lo .busy none):=fun o V=>by rw[V]
    refine uy (ro:=some (w.heap.size+1)) B body ab (fun _ T=>_) (fun e _ T=>_) _ _ (w2.putObj (w.heap.size+1) _) _ (by
     rw[ND,I _ (by rw[m])];exact D) Z (fun ch a w h=>h) ?_ ?_ ?_
    ·rintro r3 a3 H O y L
     exact p none H ((E.tame.trans (pc ..)).trans y.tame) L
    ·rintro i r3 a3 H O y L
     exact p (some (.exit i)) H ((E.tame.trans (pc ..)).trans y.tame) L
    ·rintro r3 a3 H O y L
     exact p (some .ret) H ((E.tame.trans (pc ..)).trans y.tame) L)
  obtain⟨e,w',⟨b,rfl,S,hK⟩,hs⟩:=this.2 c cs (fun d h=>by simp[FW]at h)
  exact⟨b,w',S,hK,hs.steps⟩)
 have A:=he.run ((w.alloc (.deferred (some []))).alloc (lo .ready none)) rfl;refine⟨w.heap.size+1,[Ho w.heap.size],(w.alloc (.deferred (some []))).alloc (lo .ready none),{target:=.fn (.func f) cap,args:=first++ #[.func (.yield (w.heap.size+1)) #[] #[]]},(w.alloc (.deferred (some []))).alloc (lo .ready none),f,
  first++ #[.func (.yield (w.heap.size+1)) #[] #[]]++cap,(w.alloc (.deferred (some []))).alloc (lo .ready none),?_,?_,fun _ _=>trivial,?_,fun h=>by simp[FW]at h,?_⟩
 ·rw[m];exact run_enterLoop_outer fn a.tmps ps assign body
 ·have Y:=kW ha hg
  simp[resolve,Y,Deferred.ofValue,bQ];rfl
 ·simp[invoke,A.1]
 ·refine Ib ?_
  have e:(first.toList++ [Value.func (.yield (w.heap.size+1)) #[] #[]]++cap.toList).toArray=first++ #[.func (.yield (w.heap.size+1)) #[] #[]]++cap:=by apply cQ;simp
  rw[←e];refine A.2.mono ?_;rintro e w' ⟨S,t,rfl,s,j,hs,q,p⟩;have U:Tame w w':=((GT w _).trans (GT _ _)).trans S;rw[m]at q;refine⟨_,_,run_endLoop q hs,?_⟩;have C:∀o,Tame w (w'.putObj (w.heap.size+1) o):=fun o=>U.trans (pc ..)
  have I:∀o,o=lo .exhausted j→(w'.putObj (w.heap.size+1) o).heap=w'.heap.setIfInBounds (w.heap.size+1) (lo .exhausted j):=fun o V=>by rw[V];rfl
  rcases j with _|⟨i|_⟩
  ·exact hn _ (C _) (by rw[I _ (by rw[m])];exact p)
  ·exact wpIn_exit (hx i _ (C _) (by rw[I _ (by rw[m])];exact p))
  ·exact wpIn_ret (hr _ (C _) (by rw[I _ (by rw[m])];exact p))
theorem H3{n N id d:Nat}{ops:Array Oper}{m o:Oper}{x:Operand}{f:FuncId}{as:List Operand}{vs:List Value}{v:Value}{r:cJ}{a:Act}{w:World}{Q:Exit→Act→World→Prop}(b:H4 ops.toList=some (m,o,x,d,f,as))(j:dq r x=some v)(z:d<N)(g:oN ((d,v)::r) as=some vs)(i:Agree N r a)
  (s:∀a',Agree N ((d,v)::r) a'→a'.defers=qu (.call f vs)::a.defers→Q .normal a' w):(Code.region id ops false).wpIn (FW none) n P Q a w:=by
 unfold H4 at b;split at b
 ·rename_i m' o' hl
  split at b
  ·rename_i x' d' c h1 h2 h3 h4 h5 h6
   split at b
   ·rename_i f' hc
    cases b;have t:ops[0]? =some m:=by rw[←bv,hl];rfl
    have e1:ops[1]? =some o:=by rw[←bv,hl];rfl
    have es:ops.size=2:=by rw[←Array.length_toList,hl];rfl
    have k:∀y,Region.wanted m y=true:=fun y=>by simp[Region.wanted,h2]
    have q:∀y,Region.wanted o y=true:=fun y=>by simp[Region.wanted,h6]
    refine wpIn_region ?_;rw[es,show eN 2= [0,1]from rfl]
    simp only[wpOpsIn,t,e1,k,q,if_true];refine BigFrame.wpIn_move x h1 ?_;rw[kW i j,h3];have e:=i.put d v z;refine⟨fun _ _=>trivial,?_⟩
    have p:((Oper.semAt (FW none).round (a.put (some d) v).eval o).run P w)=.ok (.defer (qu (.call f vs))) w:=by
     show((execOp (a.put (some d) v).eval o).run P w)=_
     have e2:=mZ e g;have u:c.args.map (a.put (some d) v).eval=vs.toArray:=by rw[←e2];apply cQ;simp
     simp only[execOp,h4,resolve,hc,u];simp[Act.eval,Deferred.ofValue,qu]
    rw[p,Oper.uponIn_defer,h5];exact s _ ⟨e.size,e.look⟩ rfl
   ·cases b
  ·cases b
 ·cases b
theorem Lm(G:P.follows .mixedOrders=true){n N:Nat}(c:Code):∀(s:Ann) (Kn:List Mk→cJ→ad→Prop) (Kx:Ex→List Mk→cJ→ad→Prop) (ms:List Mk) (r:cJ) (a:Act) (w:World) (Q:Exit→Act→World→Prop),
  BB P N c s Kn Kx ms r w.heap→Agree N r a→a.defers=ms.map qu→(∀I a w,¬Q (.panic I) a w)→
  (∀p q a' w',Agree N q a'→a'.defers=p.map qu→Tame w w'→Kn p q w'.heap→Q .normal a' w')→
  (∀i p q a' w',Agree N q a'→a'.defers=p.map qu→Tame w w'→Kx (.exit i) p q w'.heap→Q (.exit i) a' w')→
  (∀p q a' w',Agree N q a'→a'.defers=p.map qu→Tame w w'→Kx .ret p q w'.heap→Q .ret a' w')→
  c.wpIn (FW none) n P Q a w:=by
 have plain:∀(c:Code) (s:Ann) (Kn:List Mk→cJ→ad→Prop) (Kx:Ex→List Mk→cJ→ad→Prop) (ms:List Mk) (r:cJ) (a:Act) (w:World) (Q:Exit→Act→World→Prop),
  lC P N c s (Kn ms) (fun e=>Kx e ms) r w.heap→Agree N r a→a.defers=ms.map qu→(∀I a w,¬Q (.panic I) a w)→
  (∀p q a' w',Agree N q a'→a'.defers=p.map qu→Tame w w'→Kn p q w'.heap→Q .normal a' w')→
  (∀i p q a' w',Agree N q a'→a'.defers=p.map qu→Tame w w'→Kx (.exit i) p q w'.heap→Q (.exit i) a' w')→
  (∀p q a' w',Agree N q a'→a'.defers=p.map qu→Tame w w'→Kx .ret p q w'.heap→Q .ret a' w')→
  c.wpIn (FW none) n P Q a w:=by
  intro c s Kn Kx ms r a w Q j u hd C A hx B;exact uy G c s _ _ r a w Q j u C (fun q a' w' D z E=>A ms q a' w' D (z.defers.trans hd) z.tame E) (fun i q a' w' D z E=>hx i ms q a' w' D (z.defers.trans hd) z.tame E)
   (fun q a' w' D z E=>B ms q a' w' D (z.defers.trans hd) z.tame E)
 induction c with
 |skip=>intro s Kn Kx ms r a w Q j;exact plain _ s Kn Kx ms r a w Q j
 |region id ops dr=>
  intro s Kn Kx ms r a w Q j u hd C A hx B;have j:(match H4 ops.toList with
   |none=>lC P N (.region id ops dr) s (Kn ms) (fun e=>Kx e ms) r w.heap
   |some (_,_,x,d,f,as)=>bif dr then False else match dq r x with
    |some v=>bif AC d N then(match oN ((d,v)::r) as with|some vs=>Kn (.call f vs::ms) ((d,v)::r) w.heap|none=>False)else False
    |none=>False):=j
  split at j
  ·exact plain _ s Kn Kx ms r a w Q j u hd C A hx B
  ·rename_i m o x d f as he
   cases dr with
   |true=>exact j.elim
   |false=>
    rw[cond_false]at j;split at j
    · rename_i v hv
      cases hb:AC d N with
      |false=>rw[hb]at j;exact j.elim
      |true=>
       rw[hb,cond_true]at j;split at j
       ·rename_i vs hvs
        refine H3 he hv (by simpa using hb) hvs u fun a' T R=>A (.call f vs::ms) _ a' w T ?_ ⟨rfl,rfl,rfl⟩ j
        rw[R,hd];rfl
       ·exact j.elim
    · exact j.elim
 |seq x y ihx ihy=>
  intro s Kn Kx ms r a w Q j u hd C A hx B;have j:(bif (bif tG x then true else tG y)then BB P N x s.l (fun ms q h'=>BB P N y s.r Kn Kx ms q h') Kx ms r w.heap
   else lC P N (.seq x y) s (Kn ms) (fun e=>Kx e ms) r w.heap):=j
  cases hb:(bif tG x then true else tG y)with
  |false=>rw[hb]at j;exact plain _ _ _ _ _ _ _ _ _ j u hd C A hx B
  |true=>
   rw[hb,cond_true]at j;refine wpIn_seq (ihx s.l _ Kx ms r a w _ j u hd (fun I a w=>C I a w) ?_ hx B)
   intro U Z X w1 L O H W;exact ihy s.r Kn Kx U Z X w1 Q W L O C (fun p q a' w' D z E F=>A p q a' w' D z (H.trans E) F) (fun i p q a' w' D z E F=>hx i p q a' w' D z (H.trans E) F)
    (fun p q a' w' D z E F=>B p q a' w' D z (H.trans E) F)
 |cond c x y ihx ihy=>
  intro s Kn Kx ms r a w Q j u hd C A hx B;have j:(bif (bif tG x then true else tG y)then
    (match dq r c with
     |some (.bool t)=>CondP t (BB P N x s.l Kn Kx ms r w.heap) (BB P N y s.r Kn Kx ms r w.heap)
     |_=>False)
   else lC P N (.cond c x y) s (Kn ms) (fun e=>Kx e ms) r w.heap):=j
  cases hb:(bif tG x then true else tG y)with
  |false=>rw[hb]at j;exact plain _ _ _ _ _ _ _ _ _ j u hd C A hx B
  |true=>
   rw[hb,cond_true]at j;split at j
   ·rename_i t J
    exact wpIn_cond_split (kW u J) (fun e=>ihx _ Kn Kx ms r a w Q (j.yes e) u hd C A hx B) (fun e=>ihy _ Kn Kx ms r a w Q (j.no e) u hd C A hx B)
   ·exact j.elim
 |block id b ih=>
  intro s Kn Kx ms r a w Q j u hd C A hx B;have j:(bif tG b then BB P N b s Kn (fun e ms q h'=>match e with
    | .exit i=>bif az i id then Kn ms q h' else Kx (.exit i) ms q h'
    | .ret=>Kx .ret ms q h') ms r w.heap
   else lC P N (.block id b) s (Kn ms) (fun e=>Kx e ms) r w.heap):=j
  cases hb:tG b with
  |false=>rw[hb]at j;exact plain _ _ _ _ _ _ _ _ _ j u hd C A hx B
  |true=>
   rw[hb,cond_true]at j;refine wpIn_block (ih s Kn _ ms r a w _ j u hd (fun I a w=>C I a w) A (fun i p q a' w' D z E F=>?_) B)
   simp only[Exit.inBlock]at F⊢;cases hi:az i id with
   |true=>
    rw[hi,cond_true]at F;rw[if_pos (bd hi)];exact A p q a' w' D z E F
   |false=>
    rw[hi,cond_false]at F;rw[if_neg (fun e=>by rw[e,te]at hi;cases hi)]
    exact hx i p q a' w' D z E F
 |loop b ih=>intro s Kn Kx ms r a w Q j;exact plain _ s Kn Kx ms r a w Q j
 |rangeFunc g ps assign body _ _=>
  intro s Kn Kx ms r a w Q j u hd C A hx B;cases s with
  |rf ks aa ab=>
   have j:(bif BJ N ps.toList&&az ps.toList.length ks.length then
    (match dq r g with
     |some fv=>RangeP P fv ks w.heap (fun JX Y x k h'=>PR P N ps.toList ks assign body (.node aa ab) r (w.heap.size+1) JX Y x k h')
       (fun h'=>Kn (.it w.heap.size::ms) r h') (fun i h'=>Kx (.exit i) (.it w.heap.size::ms) r h') (fun h'=>Kx .ret (.it w.heap.size::ms) r h')
     |none=>False)else False):=j
   cases hb:(BJ N ps.toList&&az ps.toList.length ks.length)with
   |false=>rw[hb]at j;exact j.elim
   |true=>
    rw[hb,cond_true]at j;rw[aJ]at hb;split at j
    · rename_i fv hfv
      have V:Agree N r {a with defers:=Ho w.heap.size::a.defers}:=⟨u.size,u.look⟩;have S:({a with defers:=Ho w.heap.size::a.defers}:Act).defers=(.it w.heap.size::ms).map qu:=by rw[List.map_cons,←hd]
      exact FY G hb.1 (bd hb.2) hfv u j (fun w' J K=>A _ r _ w' V S J K) (fun i w' J K=>hx i _ r _ w' V S J K) (fun w' J K=>B _ r _ w' V S J K)
    · exact j.elim
  |_=>exact j.elim
 |exit id=>intro s Kn Kx ms r a w Q j;exact plain _ s Kn Kx ms r a w Q j
 |scope b _=>intro s Kn Kx ms r a w Q j;exact j.elim
 |label l=>intro s Kn Kx ms r a w Q j;exact plain _ s Kn Kx ms r a w Q j
 |goto l=>intro s Kn Kx ms r a w Q j;exact j.elim
 |ret=>intro s Kn Kx ms r a w Q j;exact plain _ s Kn Kx ms r a w Q j
 |refuse why=>intro s Kn Kx ms r a w Q j;exact j.elim
theorem xr{fn:Func}{ks:List Kind}{K:uS ks→ad→Prop}{N:Nat}{n:Nat}{r:cJ}{a:Act}{g:World}(d:Agree N r a):∀(ms:List Mk) (w:World),Tame g w→
  Nj P ms (fun h'=>oG P r h' fn.results.toList fun vs=>F5 ks vs fun t=>K t h') w.heap→
  LeavesInM (FW none) n P fn a.tmps (fun e w'=>Tame g w'∧∃t:uS ks,e=.returned (CB ks (mN ks t))∧K t w'.heap) (ms.map qu) .returning w
 | [],w,ht,h=>by
  obtain⟨t,b,j⟩:=Nq d h;exact⟨_,b,ht,t,rfl,j⟩
 | .it D::ms,w,ht,h=>by
  refine⟨by simp,.inl ⟨D,_,rfl,run_takeDeferred h.1,?_⟩⟩;exact xr d ms (w.putObj D (.deferred none)) (ht.trans (pc ..)) h.2
 | .call f vs::ms,w,ht,h=>by
  obtain⟨hc,hd⟩:=h w rfl;refine⟨by simp,.inr ⟨(fun e=>by cases e),.func f,#[],f,vs.toArray,rfl,?_,fun _ _=>trivial,CallsDIn.mono (hd (n-1)) fun e u w' ⟨m,c,⟨v,k⟩,i⟩=>?_⟩⟩
  ·have:=hc vs.toArray w
   simpa[invoke]using this
  ·subst m k
   exact xr d ms w' (ht.trans c) i
theorem HE.introM(m:P.follows .mixedOrders=true){f:FuncId}{fn:Func}{c:Code}{q:Ann}{args:List Value}{ks:List Kind}{K:uS ks→ad→Prop}{h:ad}
  (v:P.funcs[f]? =some fn) (y:fn.body=some c) (j:∀(args:Array Value) (w:World),(callFunc f args).run P w=.ok (.enter f args) w) (k:args.length≤fn.ntmps)
  (s:PS P fn c q args ks K h):HE P f args ks K h:=by
 refine⟨fun w x=>⟨j,?_⟩⟩
 subst x;refine(callsIn_wide (n:=0)).1 (callsIn_of_wp_marks (F:=FW none) v y trivial ?_ rfl);refine wpIn_mono (Q:=fun e a w'=>(∀p,e≠ .panic p)∧bodyPostM (FW none) 0 P fn (fun e w'=>Tame w w'∧∃t:uS ks,e=.returned (CB ks (mN ks t))∧K t w'.heap) e a w') ?_ fun e a w h=>h.2
 refine Lm m c q _ _ [] _ _ w _ s (Q6 k) rfl (fun p a w h=>h.1 p rfl) ?_ (fun _ _ _ _ _ _ _ _ h=>h.elim) ?_
 ·intro i u a' w' d g b o
  refine⟨(fun _ e=>by cases e),?_⟩
  show LeavesInM _ _ _ _ _ _ a'.defers _ _
  rw[g];exact xr d i w' b o
 ·intro i u a' w' d g b o
  refine⟨(fun _ e=>by cases e),?_⟩
  show LeavesInM _ _ _ _ _ _ a'.defers _ _
  rw[g];exact xr d i w' b o
theorem HC.introM(d:P.follows .mixedOrders=true){f:FuncId}{fn:Func}{c:Code}{i:Ann}{args:List Value}{ks:List Kind}{K:uS ks→ad→Prop}{h:ad}
 (g:P.funcs[f]? =some fn) (j:fn.body=some c) (a:∀(args:Array Value) (w:World),(callFunc f args).run P w=.ok (.enter f args) w) (b:args.length≤fn.ntmps)
 (e:PS P fn c i args ks K h):HC P f args ks K h:=(HE.introM d g j a b e).hc
end Go.Lift
namespace Go.Lift
open Go
def AppP(z:Option (List Value))(e b:Nat)(t:TypeId)(a:Option Addr)(sl d c:Nat)(xs:List Value)(h:ad)(K:SliceV→ad→Prop):Prop:=
 (sl+c≤d→tc h a (sl*e) xs∧cx xs=true∧K ⟨a,sl+c,d⟩ (fL h a (sl*e) xs))∧
 (d<sl+c→∃old z',SRow h a (sl*e) old∧z=some z'∧0<b∧Builtin.nextslicecap (sl+c) d*b≤2^48∧
  ∀nc,sl+c≤nc→K ⟨some (aH h),sl+c,nc⟩ (hnew h (old++xs++dw (nc-(sl+c)) z') t))
def NextS(a:Addr)(h:ad)(Kend:Prop)(Kstep:Nat→UInt8→ad→Prop):Prop:=
 a.off=0∧∃s pos,h[a.block]? =some (.stringIter s pos)∧
  ((s.size≤pos∧Kend)∨(∃b:UInt8,s[pos]? =some b∧b.toNat<128∧Kstep pos b (h.setIfInBounds a.block (.stringIter s (pos+1)))))
end Go.Lift
