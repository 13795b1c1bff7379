/- A part of the proof that the named laws of this program answer true, whatever the input. -/
import Derived.Test.YtncppacbfagpgaaGreatDoorLift1
open Array renaming getD_eq_getD_getElem?→dQ,getElem?_toList→bX,getElem?_setIfInBounds_ne→fR,replicate→ux,getElem?_eq_some_iff→cV,getElem?_eq_getElem→gp,getElem?_eq_none→mR,mapM_eq_mapM_toList→pn
open Bool renaming eq_false_iff→rY,or_eq_true→kW,and_eq_true→bK,not_eq_true'→rX,or_eq_false_iff→oF
open List renaming mem_of_getElem?→lD,length_cons→ao,mem_cons→aA,getElem?_cons_zero→cP,getElem?_eq_getElem→af,any_eq_true→cy,getElem?_eq_some_iff→bM,mem_cons_of_mem→aB,mem_cons_self→aw,filter_cons→bV,mem_singleton→aD,size_toArray→dE
open Nat renaming beq→cd,eq_of_beq_eq_true→bG,land→lB,lor→dD,testBit_and→jP,zero_testBit→g7,succ→g8,zero_add→aR,beq_refl→uY,lt_or_ge→bW,pred→Ar,sub_zero→eZ
open Option renaming some→bR
namespace Go.Lift
open Go
variable {P:Program} {ro:Option Nat} {n:Nat}
def FW(ro:Option Nat):Fence:={fn:=fun _=>True,depth:=none,alive:=false,round:=ro}
theorem Vb(m:Machine):m.fenced P (FW ro):=by
 intro g _;exact⟨fun h=>by simp[FW]at h,.inl trivial,fun _ _=>trivial,fun d h=>by simp[FW]at h⟩
theorem BZ{m a:Machine}(h:Steps P m a):StepsIn (Machine.fenced P (FW ro)) P m a:=(StepsIn.of_steps h).mono fun m _=>Vb m
theorem I0{k:Nat}{f:FuncId}{args:Array Value}{w:World}{R:Ending→World→Prop}(h:Calls P f args w R):CallsIn (FW ro) k P f args w R:=by
 refine⟨trivial,fun cs _=>?_⟩
 obtain⟨e,b,fr,d,hc,a,g⟩:=h cs;refine⟨e,b,fr,d,?_,a,g⟩;cases e with
 |returned v=>exact BZ hc
 |panicked c=>exact BZ hc
 |outgrown=>exact hc
theorem vQ{o:Oper}{a:Act}{w:World}{K:WK}{next:Act→World→Prop}{Q:Exit→Act→World→Prop}(hd:∀c,o.op≠ .defer c)(h:PZ P (execOp a.eval o) K w)
  (k:∀v d,Tame w d→K v d.heap→next (a.put o.dst v) d):o.wpIn (FW ro) n P a w next Q:=by
 refine⟨fun _ _=>trivial,?_⟩
 rw[Oper.semAt_eq _ _ _ hd];rcases h with⟨v,d,g,j,i⟩|⟨d,g,j,i⟩|⟨f,args,g,hc⟩|⟨l,fn,tmps,assign,body,g,hc⟩
 ·rw[g];exact k v d j i
 ·rw[g];exact k undef d j i
 ·rw[g]
  refine⟨fun h=>by simp[FW]at h,I0 (hc.mono ?_)⟩
  rintro e d ⟨j,v,rfl,i⟩;exact k v d j i
 ·rw[g]
  refine⟨fun h=>by simp[FW]at h,trivial,fun c cs _=>?_⟩
  obtain⟨b,d,j,i,m⟩:=hc c cs;exact⟨.returned (.bool b),d,k _ d j i,BZ m⟩
theorem yD{N:Nat}{o:Oper}{v:Value}{r:cX}{K:cX→Prop}{a:Act}{d:x9}{dv:DV}(h:DD N o v r K)(c:Agree N r a)(hd:DecOk d r)(hv:K3 dv v):
  ∃r',K r'∧Agree N r' (a.put o.dst v)∧DecOk (vr d o dv) r':=by
 unfold DD at h;unfold vr;cases ho:o.dst with
 |none=>rw[ho]at h;exact⟨r,h,c,hd⟩
 |some t=>
  rw[ho]at h;simp only at h;cases hb:Nat.blt t N with
  |false=>rw[hb]at h;exact h.elim
  |true=>
   rw[hb]at h;have b:t<N:=by simpa using hb
   refine⟨_,h,c.put t v b,fun s=>?_⟩
   by_cases e:t=s
   ·subst e
    have:uC ((t,dv)::d) t=dv:=by simp[uC]
    rw[this];exact .inr ⟨v,j4 t v r,hv⟩
   ·have f:uC ((t,dv)::d) s=uC d s:=by
     have:cd t s=false:=rY.2 fun g=>e (bG g)
     show(bif cd t s then dv else uC d s)=_
     rw[this];rfl
    rw[f,jo v r e];exact hd s
theorem O1{ek:Option (Kind×Kind)}{o:Op}{r:cX}{K:RK}{h:ae}(a:EU P ek o r K h):∀c,o≠ .defer c:=by
 intro c e;subst e;exact a
theorem zm{o:Oper}{r:cX}{K:WK}{h:ae}(a:Kf P o r K h):∀c,o.op≠ .defer c:=by
 intro c e;unfold Kf at a;rw[e]at a;exact a
theorem abe{d:x9}{o:Op}(h:yZ P o=false):Ol d o=.x:=by
 cases o<;>first|rfl|(simp[yZ]at h)
theorem Uv{N:Nat}{ek:Option (Kind×Kind)}{o:Oper}{r:cX}{K:cX→ae→Prop}{a:Act}{w:World}{d:x9}{next:Act→World→Prop}{Q:Exit→Act→World→Prop}
  (c:aax P N ek o r K w.heap)(j:Agree N r a)(hd:DecOk d r)
  (q:∀v g i,Tame w g→K i g.heap→Agree N i (a.put o.dst v)→DecOk (vr d o (Ol d o.op)) i→next (a.put o.dst v) g):o.wpIn (FW ro) n P a w next Q:=by
 unfold aax at c;cases hq:yZ P o.op with
 |true=>
  rw[hq,cond_true]at c;obtain⟨v,S,m,s,k,t⟩:=LD j c d hd;refine vQ (K:=fun u h'=>u=v∧h'=w.heap) (O1 c) (.inl ⟨v,w,t w s,Tame.refl w,rfl,rfl⟩) ?_
  rintro u g p ⟨rfl,x⟩;obtain⟨i,e,f,b⟩:=yD m j hd k;exact q u g i p (by rw[x];exact e) f b
 |false=>
  rw[hq,cond_false]at c;refine vQ (zm c) (EH j c) ?_;intro v g p m;obtain⟨i,e,f,b⟩:=yD m j hd (dv:=Ol d o.op) (by rw[abe hq];trivial);exact q v g i p e f b
theorem L5{t:Array Value}{i:Nat}{b:Bool}(h:t.getD i undef=.bool b):t[i]? =some (.bool b):=by
 rw[dQ]at h;cases hc:t[i]? with
 |none=>rw[hc]at h;simp[undef]at h
 |some v=>rw[hc]at h;simp at h;rw[h]
theorem RP{t:Array Value}{i:Nat}(h:t.getD i undef=undef):t[i]? =none∨t[i]? =some undef:=by
 rw[dQ]at h;cases hc:t[i]? with
 |none=>exact .inl rfl
 |some v=>rw[hc]at h;simp at h;rw[h];exact .inr rfl
theorem te{N:Nat}{ops:Array Oper}{d:x9}{o:Oper}{b:Bool}{r:cX}{a:Act}(h:kK ops.toList d o=some b)(m:Agree N r a)(hd:DecOk d r):
  Region.wanted o (yielded ops a.tmps)=b:=by
 unfold kK at h;unfold Region.wanted;cases hg:o.guard with
 |none=>rw[hg]at h;simp only[bR.injEq]at h;exact h
 |some g=>
  obtain⟨j,c⟩:=g;rw[hg]at h;simp only[bX]at h;simp only;cases hj:ops[j]? with
  |none=>rw[hj]at h;cases h
  |some oj=>
   rw[hj]at h;simp only at h;cases ht:oj.dst with
   |none=>rw[ht]at h;cases h
   |some t=>
    rw[ht]at h;simp only at h;have n:yielded ops a.tmps j=(match a.tmps[t]? with|some (.bool b)=>some b|_=>none):=by
     unfold yielded;simp[hj,ht];rfl
    rw[n];rcases hd t with hx|⟨v,hv,k⟩
    ·rw[hx]at h;cases h
    ·have i:=m.look t v hv
     cases hdl:uC d t with
     |x=>rw[hdl]at h;cases h
     |t=>
      rw[hdl]at h k;simp only[bR.injEq]at h;subst h;have:v=.bool true:=k;subst this;rw[L5 i];cases c<;>rfl
     |f=>
      rw[hdl]at h k;simp only[bR.injEq]at h;subst h;have:v=.bool false:=k;subst this;rw[L5 i];cases c<;>rfl
     |u=>
      rw[hdl]at h k;simp only[bR.injEq]at h;subst h;have:v=undef:=k;subst this;rcases RP i with e|e<;>rw[e]<;>cases c<;>rfl
structure Fr(W:Nat→Prop)(a0:Act)(w0:World)(a:Act)(w:World):Prop where
 tame:Tame w0 w
 defers:a.defers=a0.defers
 same:∀t,¬W t→a.tmps.getD t undef=a0.tmps.getD t undef
theorem Fr.refl(W:Nat→Prop)(a:Act)(w:World):Fr W a w a w:=⟨Tame.refl w,rfl,fun _ _=>rfl⟩
theorem Fr.put{W:Nat→Prop}{g a:Act}{f w i:World}(h:Fr W g f a w){o:Oper}(k:∀d,o.dst=some d→W d)(v:Value)(j:Tame w i):Fr W g f (a.put o.dst v) i:=by
 refine⟨h.tame.trans j,?_,fun t c=>?_⟩
 ·cases ho:o.dst<;>simp[Act.put,h.defers]
 ·cases ho:o.dst with
  |none=>exact h.same t c
  |some d=>
   have b:d≠t:=fun e=>c (e▸k d ho)
   rw[←h.same t c];simp[Act.put,fR b]
theorem Fr.trans{W:Nat→Prop}{g e d:Act}{a b c:World}(h:Fr W g a e b)(k:Fr W e b d c):Fr W g a d c:=
 ⟨h.tame.trans k.tame,k.defers.trans h.defers,fun t f=>(k.same t f).trans (h.same t f)⟩
theorem Fr.mono{W W':Nat→Prop}{c a:Act}{b w:World}(h:Fr W c b a w)(f:∀t,W t→W' t):Fr W' c b a w:=
 ⟨h.tame,h.defers,fun t d=>h.same t fun e=>d (f t e)⟩
theorem DecOk.known{d:x9}{r:cX}(h:DecOk d r){t:Nat}{dv:DV}{v:Value}(hv:K3 dv v):DecOk ((t,dv)::d) ((t,v)::r):=fun s=>by
 by_cases e:t=s
 ·subst e
  have:uC ((t,dv)::d) t=dv:=by simp[uC]
  rw[this];exact .inr ⟨v,j4 t v r,hv⟩
 ·have b:uC ((t,dv)::d) s=uC d s:=by
   have:cd t s=false:=rY.2 fun a=>e (bG a)
   show(bif cd t s then dv else uC d s)=_
   rw[this];rfl
  rw[b,jo v r e];exact h s
theorem Hw{N:Nat}{ek:Option (Kind×Kind)}{ops:Array Oper}{o:Oper}{i:Nat}{d:x9}{r:cX}{a:Act}{w:World}{b:Bool}{K:x9→cX→ae→Prop}{next:Act→World→Prop}{Q:Exit→Act→World→Prop}
  (hi:ops[i]? =some o) (q:kK ops.toList d o=some b) (j:Agree N r a) (hd:DecOk d r)
  (m:match b with
   |true=>aax P N ek o r (K (vr d o (Ol d o.op))) w.heap
   |false=>DD N o undef r fun c=>K (vr d o .u) c w.heap)
  (p:∀v g d' c,Tame w g→K d' c g.heap→Agree N c (a.put o.dst v)→DecOk d' c→next (a.put o.dst v) g):
  wpOpIn (FW ro) n P ops Q i next a w:=by
 unfold wpOpIn;rw[hi];simp only[te q j hd];cases b with
 |true=>exact Uv m j hd fun v g c t s f e=>p v g _ c t s f e
 |false=>
  obtain⟨c,k,f,e⟩:=yD (dv:=.u) m j hd rfl;exact⟨fun _ _=>trivial,p undef w _ c (Tame.refl w) k f e⟩
theorem Uu{N:Nat}{ek:Option (Kind×Kind)}{ops:List Oper}{o:Oper}{os:List Oper}{d:x9}{K:cX→ae→Prop}{r:cX}{h:ae}:HW P N ek ops (o::os) d K r h=
 (match kK ops d o with
 |some true=>aax P N ek o r (fun a h'=>HW P N ek ops os (vr d o (Ol d o.op)) K a h') h
 |some false=>DD N o undef r fun a=>HW P N ek ops os (vr d o .u) K a h
 |none=>match II ops o with
  |none=>False
  |some t=>match mq r t with
   |some (.bool b)=>CondP b
    (Lu P N ek ops o ((t,.t)::d) ((t,.bool true)::r) h fun c a h'=>HW P N ek ops os c K a h')
    (Lu P N ek ops o ((t,.f)::d) ((t,.bool false)::r) h fun c a h'=>HW P N ek ops os c K a h')
   |_=>False):=rfl
theorem Lh{N:Nat}{ek:Option (Kind×Kind)}{ops:Array Oper}{o:Oper}{i:Nat}{d:x9}{r:cX}{a:Act}{w:World}{K:x9→cX→ae→Prop}{next:Act→World→Prop}{Q:Exit→Act→World→Prop}
  (hi:ops[i]? =some o) (e:Agree N r a) (hd:DecOk d r) (c:Lu P N ek ops.toList o d r w.heap K)
  (f:∀v w' d' r',Tame w w'→K d' r' w'.heap→Agree N r' (a.put o.dst v)→DecOk d' r'→next (a.put o.dst v) w'):
  wpOpIn (FW ro) n P ops Q i next a w:=by
 unfold Lu at c;cases hw:kK ops.toList d o with
 |none=>rw[hw]at c;exact c.elim
 |some b=>rw[hw]at c;exact Hw (ek:=ek) hi hw e hd (by cases b<;>exact c) f
theorem HU{N:Nat}{ek:Option (Kind×Kind)}{ops:Array Oper}{W:Nat→Prop}(x:∀o∈ops.toList,∀d,o.dst=some d→W d){y:Act}{q:World}{K:cX→ae→Prop}{Q:Exit→Act→World→Prop}
  (s:∀r a w,Agree N r a→Fr W y q a w→K r w.heap→Q .normal a w):
  ∀(l:List Oper) (i:Nat),ops.toList.drop i=l→∀(d:x9) (r:cX) (a:Act) (w:World),HW P N ek ops.toList l d K r w.heap→Agree N r a→DecOk d r→Fr W y q a w→
   wpOpsIn (FW ro) n P ops Q (List.range' i l.length) a w
 | [],i,_,d,r,a,w,hs,ha,hd,hf=>s r a w ha hf hs
 |o::os,i,hdr,d,r,a,w,hs,ha,hd,hf=>by
  have hi:ops[i]? =some o:=by
   rw[←bX];have:(ops.toList.drop i)[0]? =some o:=by rw[hdr];rfl
   simpa using this
  have g:o∈ops.toList:=lD (by rw[bX];exact hi);have f:ops.toList.drop (i+1)=os:=by rw[←List.tail_drop,hdr];rfl
  rw[ao,List.range'_succ,wpOpsIn_cons];rw[Uu]at hs;have m:∀v j e c,Tame w j→HW P N ek ops.toList os e K c j.heap→Agree N c (a.put o.dst v)→DecOk e c→wpOpsIn (FW ro) n P ops Q (List.range' (i+1) os.length) (a.put o.dst v) j:=
   fun v j e c u z p k=>HU x s os (i+1) f e c _ j z p k (hf.put (x o g) v u)
  cases hw:kK ops.toList d o with
  |some b=>
   rw[hw]at hs;exact Hw (ek:=ek) (K:=fun e c h'=>HW P N ek ops.toList os e K c h') hi hw ha hd (by cases b<;>exact hs) m
  |none=>
   rw[hw]at hs;simp only at hs;split at hs
   ·exact hs.elim
   ·rename_i t u
    split at hs
    ·rename_i b hb
     cases b with
     |true=>exact Lh hi (ha.known hb) (hd.known (dv:=.t) rfl) (hs.yes rfl) m
     |false=>exact Lh hi (ha.known hb) (hd.known (dv:=.f) rfl) (hs.no rfl) m
    ·exact hs.elim
end Go.Lift
namespace Go.Lift
open Go
theorem FQ(m i:Nat):tb m i=m.testBit i:=by
 have h:lB (Nat.shiftRight m i) 1=(m>>>i)&&&1:=rfl;unfold tb;rw[h,Nat.testBit_eq_decide_div_mod_eq,Nat.and_one_is_mod,Nat.shiftRight_eq_div_pow];cases hm:decide (m/2^i%2=1)with
 |true=>rw[of_decide_eq_true hm];rfl
 |false=>
  have h2:=of_decide_eq_false hm;have:m/2^i%2=0:=by omega
  rw[this];rfl
theorem qu(a b i:Nat):(dD a b).testBit i=(a.testBit i||b.testBit i):=Nat.testBit_or a b i
theorem Ct(i j:Nat):(jm i).testBit j=decide (i=j):=Nat.testBit_two_pow
theorem Fp{a b:Nat}(h:cd (lB a b) 0=true)(t:Nat)(e:a.testBit t=true)(d:b.testBit t=true):False:=by
 have c:=bG h;have:(lB a b).testBit t=(a.testBit t&&b.testBit t):=jP a b t;rw[c,e,d]at this;simp at this
theorem Zb{a b:Nat}(h:cd (lB a b) a=true)(t:Nat)(d:a.testBit t=true):b.testBit t=true:=by
 have c:=bG h;have:(lB a b).testBit t=(a.testBit t&&b.testBit t):=jP a b t;rw[c,d]at this;simpa using this.symm
theorem Bu(i:Nat):∀l:List Edge,(oY l).testBit i=l.any fun e=>cd e.on i&&Region.binds .any e
 | []=>g7 i
 |e::l=>by
  have a:=Bu i l;have hc:oY (e::l)=bif Region.binds .any e then dD (jm e.on) (oY l)else oY l:=rfl;rw[hc,List.any_cons,←a];cases hb:Region.binds .any e with
  |true=>
   rw[cond_true,qu,Ct,Bool.and_true];congr 1
   cases hd:cd e.on i with
   |true=>simpa using bG hd
   |false=>rw[decide_eq_false_iff_not];intro b;rw[b]at hd;simp at hd
  |false=>simp
theorem DQ(o:Oper)(i:Nat):(oY o.after.toList).testBit i=lf o i:=Bu i o.after.toList
theorem CS(t:Nat):∀l:List Operand,(nX l).testBit t=true↔Operand.tmp t∈l
 | []=>by simp[show nX []=0 from rfl]
 |o::l=>by
  have a:=CS t l;cases o with
  |tmp u=>
   have hc:nX (.tmp u::l)=dD (jm u) (nX l):=rfl;rw[hc,qu,Ct,kW,a,aA];simp[eq_comm]
  |const v=>
   have hc:nX (.const v::l)=nX l:=rfl;rw[hc,a,aA];simp
  |global v=>
   have hc:nX (.global v::l)=nX l:=rfl;rw[hc,a,aA];simp
  |func v=>
   have hc:nX (.func v::l)=nX l:=rfl;rw[hc,a,aA];simp
theorem zZ(o:Oper)(t:Nat):(qc o).testBit t=true↔o.dst=some t:=by
 unfold qc;cases o.dst with
 |none=>simp
 |some d=>simp[Ct]
theorem Kr(ops:Array Oper)(o:Oper)(t:Nat):(qF ops.toList o).testBit t=true↔t∈o.looksAt ops:=by
 unfold qF Oper.looksAt;rw[qu,kW,CS,List.mem_append,List.mem_filterMap];refine or_congr ⟨fun h=>⟨_,h,rfl⟩,?_⟩ ?_
 ·rintro⟨x,hx,b⟩
  cases x<;>simp at b
  subst b;exact hx
 ·cases hg:o.guard with
  |none=>simp
  |some g=>
   obtain⟨j,a⟩:=g;simp only[bX];cases hj:ops[j]? with
   |none=>simp
   |some oj=>simp[zZ]
variable {P:Program} {ro:Option Nat} {n:Nat} {ops:Array Oper} {Q:Exit→Act→World→Prop}
structure MsOk(ops:Array Oper)(ms:List DM):Prop where
 am:∀(i:Nat) (o:Oper) (m:DM),ops[i]? =some o→ms[i]? =some m→∀j,m.am.testBit j=lf o j
 lk:∀(i:Nat) (o:Oper) (m:DM),ops[i]? =some o→ms[i]? =some m→∀t,m.lk.testBit t=true↔t∈o.looksAt ops
 ds:∀(i:Nat) (o:Oper) (m:DM),ops[i]? =some o→ms[i]? =some m→∀t,m.ds.testBit t=true↔o.dst=some t
 len:ms.length=ops.size
 free:∀(i j:Nat) (m k:DM),ms[i]? =some m→ms[j]? =some k→m.fr.testBit j=true→j=i∨k.am.testBit i=true∨Fq m k=true
 nosel:∀(i:Nat) (o:Oper),ops[i]? =some o→(∀cs b,o.op≠ .select cs b)∧(∀c,o.op≠ .defer c)
theorem Dl(ops:List Oper):∀(l:List Oper) (ms:List DM),zB ops l ms=true→ms.length=l.length∧∀(i:Nat) (o:Oper) (m:DM),l[i]? =some o→ms[i]? =some m→
  m.am=oY o.after.toList∧m.lk=qF ops o∧m.ds=qc o
 | [],[],_=>⟨rfl,fun i o m h=>by simp at h⟩
 | [],_::_,h=>by cases h
 |o::l,[],h=>by cases h
 |o::l,m::ms,h=>by
  have hc:zB ops (o::l) (m::ms)=(cd (oY o.after.toList) m.am&&cd (qF ops o) m.lk&&cd (qc o) m.ds&&zB ops l ms):=rfl;rw[hc]at h;simp only[bK]at h;obtain⟨⟨⟨f,h2⟩,e⟩,g⟩:=h;obtain⟨j,c⟩:=Dl ops l ms g;refine⟨by simp[j],fun i d b a hm=>?_⟩
  cases i with
  |zero=>
   simp only[cP,bR.injEq]at a hm;subst a;subst hm;exact⟨(bG f).symm,(bG h2).symm,(bG e).symm⟩
  |succ i=>exact c i d b (by simpa using a) (by simpa using hm)
theorem L6(i:Nat)(m:DM):∀(l:List DM) (j0:Nat),L7 i m l j0=true→∀(j:Nat) (k:DM),l[j]? =some k→m.fr.testBit (j0+j)=true→j0+j=i∨k.am.testBit i=true∨Fq m k=true
 | [],j0,_,j,k,hk,_=>by simp at hk
 |x::l,j0,h,j,k,hk,hb=>by
  have hc:L7 i m (x::l) j0=((!(tb m.fr j0)||cd j0 i||tb x.am i||Fq m x)&&L7 i m l (g8 j0)):=rfl
  rw[hc]at h;simp only[bK,kW,rX,FQ]at h;cases j with
  |zero=>
   simp only[cP,bR.injEq]at hk;subst hk;simp only[Nat.add_zero]at hb⊢;rcases h.1 with((a|a)|a)|a
   ·rw[a]at hb;cases hb
   ·exact .inl (bG a)
   ·exact .inr (.inl a)
   ·exact .inr (.inr a)
  |succ j=>
   have:=L6 i m l (j0+1) h.2 j k (by simpa using hk) (by rw[show j0+1+j=j0+(j+1) by omega];exact hb)
   rw[show j0+1+j=j0+(j+1) by omega]at this
   exact this
theorem Gh(all:List DM):∀(l:List DM) (i0:Nat),Dv all l i0=true→∀(i:Nat) (m:DM),l[i]? =some m→L7 (i0+i) m all 0=true
 | [],i0,_,i,m,hm=>by simp at hm
 |x::l,i0,h,i,m,hm=>by
  have hc:Dv all (x::l) i0=(L7 i0 x all 0&&Dv all l (g8 i0)):=rfl;rw[hc,bK]at h;cases i with
  |zero=>simp only[cP,bR.injEq]at hm;subst hm;exact h.1
  |succ i=>
   have:=Gh all l (i0+1) h.2 i m (by simpa using hm);rw[show i0+1+i=i0+(i+1) by omega]at this
   exact this
theorem LO:∀(l:List Oper),Ph l=true→∀o∈l,(∀cs b,o.op≠ .select cs b)∧(∀c,o.op≠ .defer c)
 | [],_,o,a=>by cases a
 |x::l,h,o,a=>by
  simp only[Ph,bK]at h;rcases aA.1 a with rfl|a
  ·refine⟨fun cs b e=>?_,fun c e=>?_⟩
   ·rw[e]at h;cases h.1
   ·rw[e]at h;cases h.1
  ·exact LO l h.2 o a
theorem Rr{ms:List DM}(h:Hl ops.toList ms=true):MsOk ops ms:=by
 have hc:Hl ops.toList ms=(zB ops.toList ops.toList ms&&Dv ms ms 0&&Ph ops.toList):=rfl;rw[hc]at h;simp only[bK]at h;obtain⟨⟨e,h2⟩,c⟩:=h;obtain⟨f,b⟩:=Dl ops.toList ops.toList ms e;refine⟨fun i o m a hm j=>?_,fun i o m a hm t=>?_,fun i o m a hm t=>?_,by simpa using f,fun i j m k hm d g=>?_,fun i o a=>?_⟩
 ·rw[(b i o m (by simpa using a) hm).1,DQ]
 ·rw[(b i o m (by simpa using a) hm).2.1,Kr]
 ·rw[(b i o m (by simpa using a) hm).2.2,zZ]
 ·have:=Gh ms ms 0 h2 i m hm
  rw[aR]at this;have:=L6 i m ms 0 this j k d (by rwa [aR]);rwa [aR]at this
 ·exact LO _ c o (lD (by rw[bX];exact a))
theorem XE{ms:List DM}(hm:MsOk ops ms){i j:Nat}{a b:Oper}{f g:DM}(hi:ops[i]? =some a) (m:ops[j]? =some b) (c:ms[i]? =some f) (e:ms[j]? =some g) (h:Fq f g=true):
  (∀d,a.dst=some d→d∉b.looksAt ops)∧(∀d,a.dst=some d→b.dst≠some d)∧(∀d,b.dst=some d→d∉a.looksAt ops):=by
 unfold Fq at h;rw[bK]at h;refine⟨fun d hd k=>?_,fun d hd n=>?_,fun d hd k=>?_⟩
 ·exact Fp h.1 d ((hm.ds i a f hi c d).2 hd) (by rw[qu,(hm.lk j b g m e d).2 k,Bool.true_or])
 ·exact Fp h.1 d ((hm.ds i a f hi c d).2 hd) (by rw[qu,(hm.ds j b g m e d).2 n,Bool.or_true])
 ·exact Fp h.2 d ((hm.ds j b g m e d).2 hd) ((hm.lk i a f hi c d).2 k)
structure LsRel(ops:Array Oper)(ls:Nat)(listed:Array Bool):Prop where
 size:listed.size=ops.size
 bit:∀j,listed.getD j false=ls.testBit j
theorem LsRel.start:LsRel ops 0 (ux ops.size false):=⟨by simp,fun j=>by
 rw[g7,dQ]
 by_cases h:j<ops.size<;>simp[h]⟩
theorem LsRel.put{ls:Nat}{listed:Array Bool}(h:LsRel ops ls listed){i:Nat}(hi:i<ops.size):LsRel ops (dD ls (jm i)) (listed.setIfInBounds i true):=by
 refine⟨by simp[h.size],fun j=>?_⟩
 rw[qu,Ct,←h.bit];by_cases e:i=j
 ·subst e;simp[h.size,hi]
 ·simp[e,fR e]
theorem LsRel.unlisted{ls:Nat}{listed:Array Bool}(h:LsRel ops ls listed){i:Nat}(hi:i<ops.size):listed.getD i true=ls.testBit i:=by
 rw[←h.bit];have:i<listed.size:=by rw[h.size];exact hi
 simp[this]
theorem LA{ms:List DM}(hm:MsOk ops ms){ls:Nat}{listed:Array Bool}(h:LsRel ops ls listed){j:Nat}:j∈Region.ready .any ops listed↔∃m,ms[j]? =some m∧ls.testBit j=false∧LB m ls=true:=by
 rw[mem_ready];constructor
 ·rintro⟨k,o,n,f⟩
  have a:j<ops.size:=(cV.1 n).1;have c:j<ms.length:=by rw[hm.len];exact a
  refine⟨ms[j],af c,by rw[←h.unlisted a];exact k,?_⟩
  unfold LB;have:lB (ms[j]).am ls=(ms[j]).am:=by
   apply Nat.eq_of_testBit_eq;intro t;have g:(lB (ms[j]).am ls).testBit t=((ms[j]).am.testBit t&&ls.testBit t):=jP _ _ t;rw[g];cases ht:(ms[j]).am.testBit t with
   |false=>rfl
   |true=>
    rw[hm.am j o _ n (af c)]at ht;unfold lf at ht;obtain⟨e,i,b⟩:=cy.1 ht;simp only[bK]at b;have:=f e (by simpa using i) b.2;rw[bG b.1,h.bit]at this;rw[this];rfl
  rw[this];exact uY _
 ·rintro⟨m,d,k,p⟩
  have a:j<ops.size:=by rw[←hm.len];exact(bM.1 d).1
  refine⟨by rw[h.unlisted a];exact k,ops[j],gp a,fun e i b=>?_⟩
  rw[h.bit];refine Zb p e.on ?_;rw[hm.am j _ m (gp a) d];unfold lf;exact cy.2 ⟨e,by simpa using i,by simp[b]⟩
theorem vf(ls:Nat):∀(l:List DM) (j0 j:Nat),j∈od ls l j0↔∃k m,l[k]? =some m∧j=j0+k∧ls.testBit j=false∧LB m ls=true
 | [],j0,j=>by simp[show od ls [] j0= []from rfl]
 |m::l,j0,j=>by
  have hc:od ls (m::l) j0=bif !(tb ls j0)&&LB m ls then j0::od ls l (g8 j0)else od ls l (g8 j0):=rfl;have d:=vf ls l (j0+1) j;rw[hc,FQ];have step:(∃k b,(m::l)[k]? =some b∧j=j0+k∧ls.testBit j=false∧LB b ls=true)↔(j=j0∧ls.testBit j0=false∧LB m ls=true)∨j∈od ls l (j0+1):=by
   rw[d];constructor
   ·rintro⟨k,b,c,rfl,a,h2⟩
    cases k with
    |zero=>simp only[cP,bR.injEq]at c;subst c;exact .inl ⟨rfl,a,h2⟩
    |succ k=>exact .inr ⟨k,b,by simpa using c,by omega,a,h2⟩
   ·rintro(⟨rfl,a,h2⟩|⟨k,b,c,rfl,a,h2⟩)
    ·exact⟨0,m,rfl,rfl,a,h2⟩
    ·exact⟨k+1,b,by simpa using c,by omega,a,h2⟩
  rw[step];cases hb:(!(ls.testBit j0)&&LB m ls)with
  |true=>
   simp only[bK,rX]at hb;rw[cond_true,aA];simp[hb.1,hb.2]
  |false=>
   rw[cond_false];constructor
   ·exact .inr
   ·rintro(⟨_,a,h2⟩|h)
    ·rw[a,h2]at hb;cases hb
    ·exact h
theorem qY{ms:List DM}(hm:MsOk ops ms){ls:Nat}{listed:Array Bool}(h:LsRel ops ls listed){j:Nat}:j∈Region.ready .any ops listed↔j∈od ls ms 0:=by
 rw[LA hm h,vf];constructor
 ·rintro⟨m,b,h2,a⟩;exact⟨j,m,b,by omega,h2,a⟩
 ·rintro⟨k,m,b,rfl,h2,a⟩;exact⟨m,by simpa using b,h2,a⟩
theorem AE:∀{a b:List Nat},yl a b=true→a=b
 | [],[],_=>rfl
 | [],_::_,h=>by cases h
 |_::_,[],h=>by cases h
 |a::as,b::bs,h=>by
  simp only[yl,bK]at h;rw[bG h.1,AE h.2]
end Go.Lift
namespace Go.Lift
open Go
variable {P:Program} {ro:Option Nat} {n:Nat} {ops:Array Oper} {Q:Exit→Act→World→Prop}
theorem CR{m:Nat}{p:Nat→Bool}(hm:∀j,m.testBit j=true→p j=true):∀(l:List DM) (j0:Nat),(∀j x,l[j]? =some x→p (j0+j)=true→∀k,x.am.testBit k=true→p k=true)→∀k,(VM m l j0).testBit k=true→p k=true
 | [],_,_,k,h=>hm k h
 |x::l,j0,hl,k,h=>by
  have hc:VM m (x::l) j0=bif tb m j0 then dD x.am (VM m l (g8 j0))else VM m l (g8 j0):=rfl;have a:=CR hm l (j0+1) (fun j y c b=>hl (j+1) y (by simpa using c) (by rw[show j0+(j+1)=j0+1+j by omega];exact b)) k
  rw[hc,FQ]at h;cases hb:m.testBit j0 with
  |true=>
   rw[hb,cond_true,qu,kW]at h;rcases h with h|h
   ·exact hl 0 x rfl (hm _ hb) k h
   ·exact a h
  |false=>
   rw[hb,cond_false]at h;exact a h
theorem CQ{m k:Nat}(h:m.testBit k=true):∀(l:List DM) (j0:Nat),(VM m l j0).testBit k=true
 | [],_=>h
 |x::l,j0=>by
  have hc:VM m (x::l) j0=bif tb m j0 then dD x.am (VM m l (g8 j0))else VM m l (g8 j0):=rfl;have a:=CQ h l (j0+1);rw[hc];cases tb m j0 with
  |true=>rw[cond_true,qu,kW];exact .inr a
  |false=>exact a
def Shut(ms:List DM)(listed:Array Bool):Prop:=∀j x,ms[j]? =some x→listed.getD j false=true→∀k,x.am.testBit k=true→listed.getD k false=true
theorem Vk{ms:List DM}{listed:Array Bool}(c:Shut ms listed){m:Nat}(hm:∀j,m.testBit j=true→listed.getD j false=true){k:Nat}(h:(DG ms m).testBit k=true):listed.getD k false=true:=by
 have a:∀j x,ms[j]? =some x→(fun k=>listed.getD k false) (0+j)=true→∀k,x.am.testBit k=true→(fun k=>listed.getD k false) k=true:=fun j x hx b=>c j x hx (by rw[aR]at b;exact b)
 unfold DG at h;exact CR (p:=fun k=>listed.getD k false) (CR (CR (CR hm ms 0 a) ms 0 a) ms 0 a) ms 0 a k h
theorem Vj{ms:List DM}{m k:Nat}(h:m.testBit k=true):(DG ms m).testBit k=true:=by
 unfold DG;exact CQ (CQ (CQ (CQ h ms 0) ms 0) ms 0) ms 0
noncomputable abbrev rel(ms:List DM)(i:Nat)(L:uo):uo:=Db (DG ms (NQ ms i)) L
theorem oJ{m:Nat}{x:Nat×(ae→Prop)}:∀{L:uo},x∈Db m L↔x∈L∧tb m x.1=false
 | []=>by simp[Db]
 |(k,S)::L=>by
  have a:=oJ (m:=m) (x:=x) (L:=L);simp only[Db];cases hk:tb m k with
  |true=>
   rw[cond_true,a,aA];constructor
   ·exact fun h=>⟨.inr h.1,h.2⟩
   ·rintro⟨h|h,h2⟩
    ·subst h;rw[hk]at h2;cases h2
    ·exact⟨h,h2⟩
  |false=>
   rw[cond_false,aA,a,aA];constructor
   ·rintro(h|h)
    ·subst h;exact⟨.inl rfl,hk⟩
    ·exact⟨.inr h.1,h.2⟩
   ·rintro⟨h|h,h2⟩
    ·exact .inl h
    ·exact .inr ⟨h,h2⟩
def VX(ms:List DM)(ro:Option Nat)(n:Nat)(P:Program)(ops:Array Oper)(Q:Exit→Act→World→Prop):Nat→uo→Array Bool→Act→World→Prop
 |0,_,listed,a,w=>Region.ready .any ops listed= []∧Q .normal a w
 |f+1,L,listed,a,w=>(Region.ready .any ops listed= []→Q .normal a w)∧
  ∀i∈Region.ready .any ops listed,∀o,ops[i]? =some o→
   wpOpIn (FW ro) n P ops Q i (fun a' b=>(∀x∈rel ms i L,x.2 b.heap)∧VX ms ro n P ops Q f (rel ms i L) (listed.setIfInBounds i true) a' b) a w
theorem F4{o:Oper}{x:Nat×(ae→Prop)}:∀{L:uo},x∈vU o L↔x∈L∧lf o x.1=false
 | []=>by simp[vU]
 |(k,S)::L=>by
  have a:=F4 (o:=o) (x:=x) (L:=L);simp only[vU];cases hk:lf o k with
  |true=>
   rw[cond_true,a,aA];constructor
   ·exact fun h=>⟨.inr h.1,h.2⟩
   ·rintro⟨h|h,h2⟩
    ·subst h;rw[hk]at h2;cases h2
    ·exact⟨h,h2⟩
  |false=>
   rw[cond_false,aA,a,aA];constructor
   ·rintro(h|h)
    ·subst h;exact⟨.inl rfl,hk⟩
    ·exact⟨.inr h.1,h.2⟩
   ·rintro⟨h|h,h2⟩
    ·exact .inl h
    ·exact .inr ⟨h,h2⟩
theorem UA{listed:Array Bool}{i:Nat}(h:i∈Region.ready .any ops listed):∃o,ops[i]? =some o:=by
 obtain⟨_,o,a,_⟩:=mem_ready.1 h;exact⟨o,a⟩
theorem S6{ms:List DM}:∀(f:Nat) (L:uo) (listed:Array Bool) (a:Act) (w:World),VX ms ro n P ops Q f L listed a w→wpAnyIn (FW ro) n P .any ops Q f listed a w
 |0,_,_,_,_,h=>h
 |f+1,L,listed,a,w,h=>⟨h.1,fun i hi=>by
  obtain⟨o,c⟩:=UA hi
  exact wpOpIn_mono (fun a' b h'=>S6 f _ _ a' b h'.2) (h.2 i hi o c)⟩
theorem zl{ms:List DM}:∀(f:Nat) (L L':uo) (listed:Array Bool) (a:Act) (w:World),(∀x∈L',x∈L∨∀h,x.2 h)→VX ms ro n P ops Q f L listed a w→VX ms ro n P ops Q f L' listed a w
 |0,_,_,_,_,_,_,h=>h
 |f+1,L,L',listed,a,w,hs,h=>⟨h.1,fun i hi o d=>by
  have b:∀x∈rel ms i L',x∈rel ms i L∨∀h,x.2 h:=fun x hx=>(hs x (oJ.1 hx).1).imp (fun h=>oJ.2 ⟨h,(oJ.1 hx).2⟩) id
  exact wpOpIn_mono (fun a' c h'=>⟨fun x hx=>(b x hx).elim (h'.1 x) fun h=>h _,zl f _ _ _ a' c b h'.2⟩) (h.2 i hi o d)⟩
def YG(P:Program)(ops:Array Oper)(S:ae→Prop)(o:Oper)(v:Value)(a:Act):Prop:=
 (Region.wanted o (yielded ops a.tmps)=true∧∀w:World,S w.heap→(execOp a.eval o).run P w=.ok (.value v) w)∨
 (Region.wanted o (yielded ops a.tmps)=false∧v=undef)
theorem YG.wpOp{S:ae→Prop}{i:Nat}{o:Oper}{v:Value}{a:Act}(hi:ops[i]? =some o) (hd:∀c,o.op≠ .defer c) (e:YG P ops S o v a) {K:Act→World→Prop} {w:World} (d:S w.heap)
  (h:K (a.put o.dst v) w):wpOpIn (FW ro) n P ops Q i K a w:=by
 unfold wpOpIn;simp only[hi];rcases e with⟨b,hv⟩|⟨b,rfl⟩
 ·simp only[b,if_true]
  refine⟨fun _ _=>trivial,?_⟩
  rw[Oper.semAt_eq _ _ _ hd,hv w d];exact h
 ·simp only[b,Bool.false_eq_true,if_false];exact⟨fun _ _=>trivial,h⟩
theorem YG.of_same{S:ae→Prop}{o:Oper}{v:Value}{a a':Act}(b:YG P ops S o v a)(c:execOp a'.eval o=execOp a.eval o)
  (d:Region.wanted o (yielded ops a'.tmps)=Region.wanted o (yielded ops a.tmps)):YG P ops S o v a':=by
 unfold YG at*;rw[c,d];exact b
theorem QC{S:ae→Prop}{j:Nat}{g i:Oper}{v:Value}(E:ops[j]? =some i)
  (y:(∀d,g.dst=some d→d∉i.looksAt ops)∧(∀d,g.dst=some d→i.dst≠some d)∧(∀d,i.dst=some d→d∉g.looksAt ops))
  (q:∀cs b,g.op≠ .select cs b) (z:∀cs b,i.op≠ .select cs b) (p:∀c,i.op≠ .defer c)
  (C:∀e a w,(∀c,e=.panic c→False)∨¬Q e a w) {K:Act→World→Prop} {a:Act} {w:World}
  (k:YG P ops S g v a) (h:wpOpIn (FW ro) n P ops Q j K (a.put g.dst v) w):
  wpOpIn (FW ro) n P ops Q j (fun a' A=>YG P ops S g v a'∧K (a'.put g.dst v) A) a w:=by
 obtain⟨B,h2,t⟩:=y;have o:∀c a w,¬Q (.panic c) a w:=fun c a w D=>(C (.panic c) a w).elim (fun h=>h c rfl) fun h=>h D
 have keep:∀(a:Act),YG P ops S g v a→∀u,YG P ops S g v (a.put i.dst u):=fun a k u=>
  k.of_same (execOp_put g q a i.dst u t) (wanted_put g a i.dst u t)
 unfold wpOpIn at*;simp only[E]at*;rw[wanted_put i a g.dst v B]at h;split
 ·rename_i hw
  simp only[hw,if_true]at h;refine⟨fun _ _=>trivial,?_⟩
  have h:=h.2;rw[Oper.semAt_eq _ _ _ p,execOp_put i z a g.dst v B]at h;rw[Oper.semAt_eq _ _ _ p];generalize (execOp a.eval i).run P w=r at*;cases r with
  |ok x A=>
   cases x<;>simp only[Oper.uponIn]at h⊢
   case value u=>exact⟨keep a k u,by rw[←Act.put_comm a v u h2];exact h⟩
   case skip=>exact⟨keep a k _,by rw[←Act.put_comm a v undef h2];exact h⟩
   case defer d=>
    refine⟨(k.of_same (a':={a with defers:=d::a.defers}) rfl rfl).of_same (execOp_put g q _ i.dst undef t) (wanted_put g _ i.dst undef t),?_⟩;rw[←Act.put_comm _ v undef h2,←Act.put_defers];exact h
   case enter f args=>
    refine⟨h.1,CallsIn.mono h.2 fun e s m=>?_⟩
    cases e with
    |returned u=>exact⟨keep a k u,by rw[←Act.put_comm a v u h2];exact m⟩
    |panicked c=>exact(o _ _ _ m).elim
    |outgrown=>exact m
   case row row args=>exact⟨h.1,RowsIn.mono h.2 fun u s m=>⟨keep a k u,by rw[←Act.put_comm a v u h2];exact m⟩⟩
   case round l f tmps assign body=>
    refine⟨h.1,RoundIn.mono h.2 fun e s m=>?_⟩
    cases e with
    |returned u=>exact⟨keep a k u,by rw[←Act.put_comm a v u h2];exact m⟩
    |panicked c=>exact(o _ _ _ m).elim
    |outgrown=>exact m
  |halt x A=>
   cases x<;>simp only[Oper.uponIn]at h⊢
   case panic u=>exact(o _ _ _ h).elim
 ·rename_i hw
  simp only[hw]at h;exact⟨fun _ _=>trivial,keep a k _,by rw[←Act.put_comm a v undef h2];exact h.2⟩
theorem T7{ms:List DM}(hm:MsOk ops ms){i:Nat}{o:Oper}(a:ops[i]? =some o) (k:Nat):(NQ ms i).testBit k=lf o k:=by
 have hi:i<ms.length:=by rw[hm.len];exact(cV.1 a).1
 unfold NQ;rw[af hi];exact hm.am i o _ a (af hi) k
theorem OV{ms:List DM}(hm:MsOk ops ms){listed:Array Bool}{j:Nat}(g:j∈Region.ready .any ops listed)(k:Nat)(c:(NQ ms j).testBit k=true):listed.getD k false=true:=by
 obtain⟨_,o,d,a⟩:=mem_ready.1 g;rw[T7 hm d]at c;unfold lf at c;obtain⟨e,f,b⟩:=cy.1 c;simp only[bK]at b;have:=a e (by simpa using f) b.2;rw[bG b.1]at this;exact this
theorem Pz{listed:Array Bool}{j k:Nat}(h:listed.getD k false=true):(listed.setIfInBounds j true).getD k false=true:=by
 by_cases e:j=k
 ·subst e
  rw[dQ]at h⊢;rcases bW j listed.size with h'|h'
  ·simp[h']
  ·simp[mR h']at h
 ·rw[dQ,fR e,←dQ]
  exact h
theorem Shut.put{ms:List DM}(hm:MsOk ops ms){listed:Array Bool}(c:Shut ms listed){j:Nat}(d:j∈Region.ready .any ops listed):Shut ms (listed.setIfInBounds j true):=by
 intro i x hx a k b;by_cases e:j=i
 ·subst e
  refine Pz (OV hm d k ?_);unfold NQ;rw[hx];exact b
 ·rw[dQ,fR e,←dQ]at a
  exact Pz (c i x hx a k b)
theorem Hx{ms:List DM}(hm:MsOk ops ms){S:ae→Prop}{i:Nat}{t:Oper}{v:Value}(hi:ops[i]? =some t) (m:∀(j:Nat) (o:Oper),ops[j]? =some o→(∀cs b,o.op≠ .select cs b)∧(∀c,o.op≠ .defer c))
  (X:∀e a w,(∀c,e=.panic c→False)∨¬Q e a w):
  ∀(fuel:Nat) (L:uo) (listed:Array Bool) (a:Act) (w:World),
   (∀j q,ops[j]? =some q→j≠i→listed.getD j true=false→lf q i=false→
    (∀d,t.dst=some d→d∉q.looksAt ops)∧(∀d,t.dst=some d→q.dst≠some d)∧(∀d,q.dst=some d→d∉t.looksAt ops))→
   Shut ms listed→i∈Region.ready .any ops listed→YG P ops S t v a→S w.heap→(∀x∈L,x.2 w.heap)→
   VX ms ro n P ops Q fuel ((i,S)::L) (listed.setIfInBounds i true) (a.put t.dst v) w→VX ms ro n P ops Q (fuel+1) L listed a w:=by
 intro fuel;induction fuel with
 |zero=>
  intro L listed a w _ _ z O R T H;refine⟨fun h=>(by rw[h]at z;cases z),fun j D q f=>?_⟩
  by_cases g:j=i
  ·subst g
   rw[hi]at f;cases f;exact O.wpOp hi (m _ _ hi).2 R ⟨fun x hx=>T x (oJ.1 hx).1,H⟩
  ·have:=ready_mono D g
   rw[H.1]at this;cases this
 |succ fuel ih=>
  intro L listed a w s G z O R T H;refine⟨fun h=>(by rw[h]at z;cases z),fun j D q f=>?_⟩
  by_cases g:j=i
  ·subst g
   rw[hi]at f;cases f;exact O.wpOp hi (m _ _ hi).2 R ⟨fun x hx=>T x (oJ.1 hx).1,zl _ _ _ _ _ _ (fun x hx=>.inl (aB _ (oJ.1 hx).1)) H⟩
  ·have p:=H.2 j (ready_mono D g) q f
   obtain⟨A,oj',B,F⟩:=mem_ready.1 D;rw[f]at B;cases B;have E:lf q i=false:=by
    cases y:lf q i with
    |false=>rfl
    |true=>
     unfold lf at y;obtain⟨e,Y,y⟩:=cy.1 y;simp only[bK]at y;have p:=F e (by simpa using Y) y.2;rw[bG y.1]at p;have N:=(mem_ready.1 z).1;rcases bW i listed.size with h'|h'
     ·simp[h']at N p;rw[N]at p;cases p
     ·simp[mR h']at p
   have C:tb (DG ms (NQ ms j)) i=false:=by
    cases y:tb (DG ms (NQ ms j)) i with
    |false=>rfl
    |true=>
     rw[FQ]at y;have p:=Vk G (OV hm D) y;have N:=(mem_ready.1 z).1;rcases bW i listed.size with h'|h'
     ·simp[h']at N p;rw[N]at p;cases p
     ·simp[mR h']at p
   have I:rel ms j ((i,S)::L)=(i,S)::rel ms j L:=by simp only[rel,Db,C,cond_false]
   rw[I]at p;have h2:=QC f (s j q f g A E) (m _ _ hi).1 (m _ _ f).1 (m _ _ f).2 X O p;have u:∀k ok,ops[k]? =some ok→k≠i→(listed.setIfInBounds j true).getD k true=false→lf ok i=false→
     (∀d,t.dst=some d→d∉ok.looksAt ops)∧(∀d,t.dst=some d→ok.dst≠some d)∧(∀d,ok.dst=some d→d∉t.looksAt ops):=fun k ok Z U M V=>by
    refine s k ok Z U ?_ V;by_cases J:j=k
    ·subst J;exact A
    ·rw[getD_set_ne true J]at M;exact M
   refine wpOpIn_mono (fun a' W K=>⟨fun x hx=>K.2.1 x (aB _ hx),ih (rel ms j L) (listed.setIfInBounds j true) a' W u (G.put hm D) (ready_mono z (Ne.symm g)) K.1 (K.2.1 _ (aw ..)) (fun x hx=>K.2.1 x (aB _ hx)) ?_⟩) h2
   rw[Array.setIfInBounds_comm _ _ g];exact K.2.2
theorem ym{h:ae}{R:Prop}:∀{L:uo},xz L h R↔(∀x∈L,x.2 h)∧R
 | []=>by simp[xz]
 |(k,S)::L=>by
  simp only[xz,ym (L:=L),aA,forall_eq_or_imp,and_assoc]
theorem VW{ms:List DM}{f:Nat}{L:uo}{listed:Array Bool}{a:Act}{w:World}(b:Region.ready .any ops listed= [])(h:Q .normal a w):VX ms ro n P ops Q f L listed a w:=by
 cases f with
 |zero=>exact⟨b,h⟩
 |succ f=>exact⟨fun _=>h,by rw[b];simp⟩
def left(ops:Array Oper)(ls:Nat):Nat:=((List.range ops.size).filter fun j=> !ls.testBit j).length
theorem Dp{ls i:Nat}(hi:i<ops.size)(g:ls.testBit i=false):left ops (dD ls (jm i))+1=left ops ls:=by
 have key:∀l:List Nat,l.Nodup→i∈l→(l.filter fun j=> !(dD ls (jm i)).testBit j).length+1=(l.filter fun j=> !ls.testBit j).length:=by
  intro l;induction l with
  |nil=>intro _ h;cases h
  |cons x l ih=>
   intro d hm;rw[List.nodup_cons]at d;by_cases hx:x=i
   ·subst hx
    have a:(l.filter fun j=> !(dD ls (jm x)).testBit j)=l.filter fun j=> !ls.testBit j:=by
     apply List.filter_congr;intro y f;have:x≠y:=fun e=>d.1 (e▸f)
     rw[qu,Ct,decide_eq_false this,Bool.or_false]
    have c:(dD ls (jm x)).testBit x=true:=by rw[qu,Ct];simp
    rw[bV,bV,c,g,a];rfl
   ·have b:i∈l:=by rcases aA.1 hm with h|h;exact absurd h.symm hx;exact h
    have c:(dD ls (jm i)).testBit x=ls.testBit x:=by rw[qu,Ct,decide_eq_false (Ne.symm hx),Bool.or_false]
    have:=ih d.2 b;rw[bV,bV,c];cases ls.testBit x with
    |true=>exact this
    |false=>exact congrArg (· +1) this
 exact key _ List.nodup_range (List.mem_range.2 hi)
theorem U9{N:Nat}{a:List Oper}{ms:List DM}{ls:Nat}{L:uo}{d:x9}{K:cX→ae→Prop}{r:cX}{b:ae}:∀{l:DA},pI P N a ms l true ls L d K r b→∃i,i∈E8 l
 | .done,h=>h.elim
 | .take i rest,h=>by
  exfalso;have hc:pI P N a ms (.take i rest) true ls L d K r b=(match a[i]?,ms[i]? with|some _,some _=>False|_,_=>False):=rfl
  rw[hc]at h;split at h<;>exact h
 | .all _,h=>h.elim
 | .pick i _ _,_=>⟨i,aw ..⟩
 | .last i _,_=>⟨i,aw ..⟩
 | .lastT i _,_=>⟨i,aw ..⟩
 | .split ..,h=>h.elim
def SR(ro:Option Nat)(n:Nat)(P:Program)(ops:Array Oper)(Q:Exit→Act→World→Prop)(N:Nat)(ms:List DM)(W:Nat→Prop)(f:Act)(e:World)(K:cX→ae→Prop)(c:DA):Prop:=
 ∀(m:Bool) (ls:Nat) (L:uo) (d:x9) (r:cX) (a:Act) (w:World) (listed:Array Bool) (fuel:Nat),
  pI P N ops.toList ms c m ls L d K r w.heap→Agree N r a→DecOk d r→Fr W f e a w→LsRel ops ls listed→Shut ms listed→(∀x∈L,x.2 w.heap)→
  (m=false→left ops ls≤fuel→VX ms ro n P ops Q fuel L listed a w)∧
  (m=true→left ops ls≤fuel+1→∀i∈E8 c,i∈od ls ms 0→∀o,ops[i]? =some o→
   wpOpIn (FW ro) n P ops Q i (fun a' b=>(∀x∈rel ms i L,x.2 b.heap)∧VX ms ro n P ops Q fuel (rel ms i L) (listed.setIfInBounds i true) a' b) a w)
theorem OI{N:Nat}{ms:List DM}(hm:MsOk ops ms){W:Nat→Prop}(hW:∀o∈ops.toList,∀d,o.dst=some d→W d){a0:Act}{w0:World}{K:cX→ae→Prop}
  (hQ:∀r a w,Agree N r a→Fr W a0 w0 a w→K r w.heap→Q .normal a w)(hnp:∀e a w,(∀c,e=.panic c→False)∨¬Q e a w)(da:DA):
  SR ro n P ops Q N ms W a0 w0 K da:=by
 have one:∀(i:Nat) (g:DA)
   (_:SR ro n P ops Q N ms W a0 w0 K g)
   (ls:Nat) (L:uo) (d:x9) (r:cX) (a:Act) (w:World) (listed:Array Bool) (fuel:Nat),
   Uw P N ops.toList i L d r w.heap (fun L' Y B h'=>pI P N ops.toList ms g false (dD ls (jm i)) L' Y K B h')→Agree N r a→DecOk d r→Fr W a0 w0 a w→LsRel ops ls listed→Shut ms listed→
   left ops ls≤fuel+1→i∈od ls ms 0→∀o,ops[i]? =some o→
    wpOpIn (FW ro) n P ops Q i (fun a' Z=>(∀x∈rel ms i L,x.2 Z.heap)∧VX ms ro n P ops Q fuel (rel ms i L) (listed.setIfInBounds i true) a' Z) a w:=by
  intro i g T ls L d r a w listed fuel f z hd D u p s hr o y;have A:i<ops.size:=(cV.1 y).1;obtain⟨k,mm,hk,hki,G,_⟩:=(vf ls ms 0 i).1 hr;unfold Uw at f;rw[bX,y]at f;simp only at f;cases hw:kK ops.toList d o with
  |none=>rw[hw]at f;exact f.elim
  |some b=>
   rw[hw]at f;cases b with
   |false=>exact f.elim
   |true=>
    simp only at f;cases hq:yZ P o.op with
    |true=>rw[hq]at f;exact f.elim
    |false=>
     rw[hq,cond_false]at f;unfold wpOpIn;rw[y];simp only[te hw z hd,if_true];refine vQ (zm f) (EH z f) ?_;intro v Z ht hK;obtain⟨B,I,H,F⟩:=yD (dv:=.x) hK z hd trivial;obtain⟨hh,hs'⟩:=ym.1 I;have C:o∈ops.toList:=lD (by rw[bX];exact y);have O:=Dp A G;have V:∀x∈rel ms i L,x∈vU o L:=fun x hx=>F4.2 ⟨(oJ.1 hx).1,by
      cases hb:lf o x.1 with
      |false=>rfl
      |true=>
        have:=(oJ.1 hx).2
        rw[FQ,Vj (by rw[T7 hm y];exact hb)]at this;cases this⟩
     exact⟨fun x hx=>hh x (V x hx),zl _ _ _ _ _ _ (fun x hx=>.inl (V x hx)) ((T false _ _ _ B _ Z _ fuel hs' H F (D.put (hW o C) v ht) (u.put A) (p.put hm ((qY hm u).2 hr)) hh).1 rfl (by omega))⟩
 have oneT:∀(i:Nat) (g:DA)
   (_:SR ro n P ops Q N ms W a0 w0 K g)
   (ls:Nat) (L:uo) (d:x9) (r:cX) (a:Act) (w:World) (listed:Array Bool) (fuel:Nat),
   Tn P N ops.toList ms i L d r w.heap (fun L' Y B h'=>pI P N ops.toList ms g false (dD ls (jm i)) L' Y K B h')→Agree N r a→DecOk d r→Fr W a0 w0 a w→LsRel ops ls listed→Shut ms listed→
   left ops ls≤fuel+1→i∈od ls ms 0→∀o,ops[i]? =some o→
    wpOpIn (FW ro) n P ops Q i (fun a' Z=>(∀x∈rel ms i L,x.2 Z.heap)∧VX ms ro n P ops Q fuel (rel ms i L) (listed.setIfInBounds i true) a' Z) a w:=by
  intro i g T ls L d r a w listed fuel f z hd D u p s hr o y;have A:i<ops.size:=(cV.1 y).1;obtain⟨k,mm,hk,hki,G,_⟩:=(vf ls ms 0 i).1 hr;unfold Tn at f;rw[bX,y]at f;simp only at f;cases hw:kK ops.toList d o with
  |none=>rw[hw]at f;exact f.elim
  |some b=>
   rw[hw]at f;cases b with
   |false=>exact f.elim
   |true=>
    simp only at f;cases hq:yZ P o.op with
    |true=>rw[hq]at f;exact f.elim
    |false=>
     rw[hq,cond_false]at f;unfold wpOpIn;rw[y];simp only[te hw z hd,if_true];refine vQ (zm f) (EH z f) ?_;intro v Z ht hK;obtain⟨B,I,H,F⟩:=yD (dv:=.x) hK z hd trivial;obtain⟨hh,hs'⟩:=ym.1 I;have C:o∈ops.toList:=lD (by rw[bX];exact y);have O:=Dp A G;exact⟨hh,(T false _ _ _ B _ Z _ fuel hs' H F (D.put (hW o C) v ht) (u.put A) (p.put hm ((qY hm u).2 hr)) hh).1 rfl (by omega)⟩
 induction da with
 |done=>
  intro m ls L d r a w listed fuel f z hd D u p J;cases m with
  |true=>exact f.elim
  |false=>
   refine⟨fun _ _=>?_,fun h=>by cases h⟩
   have hc:pI P N ops.toList ms .done false ls L d K r w.heap=bif yl (od ls ms 0) []then K r w.heap else False:=rfl;rw[hc]at f;cases hb:yl (od ls ms 0) []with
   |false=>rw[hb]at f;exact f.elim
   |true=>
    rw[hb]at f;have hnil:Region.ready .any ops listed= []:=by
     apply List.eq_nil_iff_forall_not_mem.2;intro j E;rw[qY hm u,AE hb]at E;cases E
    exact VW hnil (hQ r a w z D f)
 |take i g T=>
  intro m ls L d r a w listed fuel f z hd D u p J;cases m with
  |true=>
   exfalso;have hc:pI P N ops.toList ms (.take i g) true ls L d K r w.heap=(match ops.toList[i]?,ms[i]? with|some _,some _=>False|_,_=>False):=rfl
   rw[hc]at f;split at f<;>exact f
  |false=>
   refine⟨fun _ s=>?_,fun h=>by cases h⟩
   have hc:pI P N ops.toList ms (.take i g) false ls L d K r w.heap=(match ops.toList[i]?,ms[i]? with
    |some o,some mi=>bif HM mi i ls ops.toList.length then
      (match kK ops.toList d o with
       |none=>False
       |some false=>DD N o undef r fun B=>pI P N ops.toList ms g false (dD ls (jm i)) L (vr d o .u) K B w.heap
       |some true=>bif yZ P o.op then
          EU P none o.op r (fun v S=>DD N o v r fun B=>match S with
            |none=>pI P N ops.toList ms g false (dD ls (jm i)) L (vr d o (Ol d o.op)) K B w.heap
            |some S=>pI P N ops.toList ms g false (dD ls (jm i)) ((i,S)::L) (vr d o (Ol d o.op)) K B w.heap) w.heap
          else False)
     else False
    |_,_=>False):=rfl
   rw[hc]at f;split at f
   ·rename_i o mi y hmi
    rw[bX]at y;cases htk:HM mi i ls ops.toList.length with
    |false=>rw[htk]at f;exact f.elim
    |true=>
     rw[htk,cond_true]at f;unfold HM at htk;simp only[bK,rX,FQ]at htk;obtain⟨⟨hun,X⟩,hfr⟩:=htk;have A:i<ops.size:=(cV.1 y).1;have q:i∈Region.ready .any ops listed:=(LA hm u).2 ⟨mi,hmi,hun,X⟩;have O:=Dp (ops:=ops) A hun;obtain⟨U,rfl⟩:∃U,fuel=U+1:=⟨fuel-1,by omega⟩
     have C:o∈ops.toList:=lD (by rw[bX];exact y);have hcov:∀j,j<ops.size→ls.testBit j=true∨mi.fr.testBit j=true:=by
      intro j E;have h0:=bG hfr;have hpb:(Ar (jm ops.toList.length)).testBit j=true:=by
        have:Ar (jm ops.toList.length)=2^ops.toList.length-1:=rfl;rw[this,Nat.testBit_two_pow_sub_one];simpa using E
      have hand:(lB (dD ls mi.fr) (Ar (jm ops.toList.length))).testBit j=((dD ls mi.fr).testBit j&&(Ar (jm ops.toList.length)).testBit j):=jP _ _ j;rw[h0,hpb,Bool.and_true,qu]at hand;exact(Bool.or_eq_true_iff).1 hand.symm
     have M:∀j oj,ops[j]? =some oj→j≠i→listed.getD j true=false→lf oj i=false→
        (∀d,o.dst=some d→d∉oj.looksAt ops)∧(∀d,o.dst=some d→oj.dst≠some d)∧(∀d,oj.dst=some d→d∉o.looksAt ops):=by
      intro j oj hoj hne hju hna;have E:j<ops.size:=(cV.1 hoj).1;rw[u.unlisted E]at hju;have hjm:j<ms.length:=by rw[hm.len];exact E
      have hmj:=af hjm;rcases hcov j E with h|h
      · rw[h]at hju;cases hju
      · rcases hm.free i j mi _ hmi hmj h with h|h|h
        ·exact absurd h hne
        ·rw[hm.am j oj _ hoj hmj,hna]at h;cases h
        ·exact XE hm y hoj hmi hmj h
     cases hw:kK ops.toList d o with
     |none=>rw[hw]at f;exact f.elim
     |some b=>
      rw[hw]at f;have hwd:=te hw z hd;cases b with
      |false=>
        obtain⟨B,I,H,F⟩:=yD (dv:=.u) f z hd rfl;have hy:YG P ops (fun _=>True) o undef a:=.inr ⟨hwd,rfl⟩
        refine Hx hm y hm.nosel hnp U L listed a w M p q hy trivial J ?_;refine zl _ L _ _ _ _ (fun x hx=>(aA.1 hx).elim (fun e=>.inr fun h=>by rw[e];trivial) .inl) ?_
        exact(T false _ _ _ B _ w _ U I H F (D.put (hW o C) undef (Tame.refl w)) (u.put A) (p.put hm q) J).1 rfl (by omega)
      |true=>
        simp only at f;cases hq:yZ P o.op with
        |false=>rw[hq]at f;exact f.elim
        |true=>
         rw[hq,cond_true]at f;obtain⟨v,S,hK,hS,hdv,hrun⟩:=LD z f d hd;obtain⟨B,I,H,F⟩:=yD hK z hd hdv;have hfr':=D.put (hW o C) v (Tame.refl w);cases S with
         |none=>
           have hy:YG P ops (fun _=>True) o v a:=.inl ⟨hwd,fun w _=>hrun w trivial⟩
           refine Hx hm y hm.nosel hnp U L listed a w M p q hy trivial J ?_;refine zl _ L _ _ _ _ (fun x hx=>(aA.1 hx).elim (fun e=>.inr fun h=>by rw[e];trivial) .inl) ?_
           exact(T false _ _ _ B _ w _ U I H F hfr' (u.put A) (p.put hm q) J).1 rfl (by omega)
         |some S=>
           have hy:YG P ops S o v a:=.inl ⟨hwd,fun w h=>hrun w h⟩
           refine Hx hm y hm.nosel hnp U L listed a w M p q hy hS J ?_;exact(T false _ _ _ B _ w _ U I H F hfr' (u.put A) (p.put hm q) (fun x hx=>(aA.1 hx).elim (fun e=>by rw[e];exact hS) (J x))).1 rfl (by omega)
   ·exact f.elim
 |all l T=>
  intro m ls L d r a w listed fuel f z hd D u p J;cases m with
  |true=>exact f.elim
  |false=>
   refine⟨fun _ s=>?_,fun h=>by cases h⟩
   have hc:pI P N ops.toList ms (.all l) false ls L d K r w.heap=bif yl (od ls ms 0) (E8 l)then pI P N ops.toList ms l true ls L d K r w.heap else False:=rfl;rw[hc]at f;cases hb:yl (od ls ms 0) (E8 l)with
   |false=>rw[hb]at f;exact f.elim
   |true=>
    rw[hb,cond_true]at f;obtain⟨i,hi⟩:=U9 f;rw[←AE hb]at hi;have X:=(qY hm u (j:=i)).2 hi;obtain⟨k,mm,hk,hki,G,_⟩:=(vf ls ms 0 i).1 hi;have A:i<ops.size:=by
     have:=(bM.1 hk).1;rw[hm.len]at this;omega
    have O:=Dp (ops:=ops) A G;obtain⟨U,rfl⟩:∃U,fuel=U+1:=⟨fuel-1,by omega⟩
    refine⟨fun h=>(by rw[h]at X;cases X),fun j E o y=>?_⟩
    have hj':=(qY hm u).1 E;exact(T true ls L d r a w listed U f z hd D u p J).2 rfl s j (by rw[←AE hb];exact hj') hj' o y
 |pick i g more ih1 ih2=>
  intro m ls L d r a w listed fuel f z hd D u p J;cases m with
  |false=>exact f.elim
  |true=>
   refine⟨fun h=>(by cases h),fun _ s j E R o y=>?_⟩
   have f:Uw P N ops.toList i L d r w.heap (fun L' Y B h'=>pI P N ops.toList ms g false (dD ls (jm i)) L' Y K B h')∧pI P N ops.toList ms more true ls L d K r w.heap:=f
   rcases aA.1 E with rfl|E
   ·exact one _ g ih1 ls L d r a w listed fuel f.1 z hd D u p s R o y
   ·exact(ih2 true ls L d r a w listed fuel f.2 z hd D u p J).2 rfl s j E R o y
 |last i g T=>
  intro m ls L d r a w listed fuel f z hd D u p J;cases m with
  |false=>exact f.elim
  |true=>
   refine⟨fun h=>(by cases h),fun _ s j E R o y=>?_⟩
   have f:Uw P N ops.toList i L d r w.heap (fun L' Y B h'=>pI P N ops.toList ms g false (dD ls (jm i)) L' Y K B h'):=f
   have hji:j=i:=aD.1 E;subst hji;exact one _ g T ls L d r a w listed fuel f z hd D u p s R o y
 |lastT i g T=>
  intro m ls L d r a w listed fuel f z hd D u p J;cases m with
  |false=>exact f.elim
  |true=>
   refine⟨fun h=>(by cases h),fun _ s j E R o y=>?_⟩
   have f:Tn P N ops.toList ms i L d r w.heap (fun L' Y B h'=>pI P N ops.toList ms g false (dD ls (jm i)) L' Y K B h'):=f
   have hji:j=i:=aD.1 E;subst hji;exact oneT _ g T ls L d r a w listed fuel f z hd D u p s R o y
 |split t yes no ih1 ih2=>
  intro m ls L d r a w listed fuel f z hd D u p J;cases m with
  |true=>exact f.elim
  |false=>
   refine⟨fun _ s=>?_,fun h=>by cases h⟩
   have hc:pI P N ops.toList ms (.split t yes no) false ls L d K r w.heap=(match mq r t with
    |some (.bool b)=>CondP b (pI P N ops.toList ms yes false ls L ((t,.t)::d) K ((t,.bool true)::r) w.heap) (pI P N ops.toList ms no false ls L ((t,.f)::d) K ((t,.bool false)::r) w.heap)
    |_=>False):=rfl
   rw[hc]at f;split at f
   ·rename_i b hlk
    cases b with
    |true=>exact(ih1 false ls L _ _ a w listed fuel (f.yes rfl) (z.known hlk) (hd.known rfl) D u p J).1 rfl s
    |false=>exact(ih2 false ls L _ _ a w listed fuel (f.no rfl) (z.known hlk) (hd.known rfl) D u p J).1 rfl s
   ·exact f.elim
end Go.Lift
namespace Go.Lift
open Go
variable {P:Program} {ro:Option Nat} {n:Nat}
theorem LW{r:cX}:∀{l:List Nat} {r0:cX},TJ r l=some r0→∀t v,mq r0 t=some v→t∈l∧mq r t=some v
 | [],r0,h,t,v,hv=>by cases h;cases hv
 |s::l,r0,h,t,v,hv=>by
  have h:(match mq r s,TJ r l with|some v,some l=>some ((s,v)::l)|_,_=>none)=some r0:=h
  split at h
  ·rename_i u l' hu hl
   cases h;by_cases e:s=t
   ·subst e;rw[j4]at hv;cases hv;exact⟨aw ..,hu⟩
   ·rw[jo u _ e]at hv
    have:=LW hl t v hv;exact⟨aB _ this.1,this.2⟩
  ·cases h
theorem E2{m:Nat}{t:Nat}{v:Value}:∀{r:cX},mq (zE m r) t=some v→m.testBit t=false∧mq r t=some v
 | [],h=>by cases h
 |(k,u)::r,h=>by
  have h:mq (bif tb m k then zE m r else(k,u)::zE m r) t=some v:=h;cases hk:tb m k with
  |true=>
   rw[hk]at h;have:=E2 h;by_cases e:k=t
   ·subst e;rw[FQ,this.1]at hk;cases hk
   ·rw[jo u _ e];exact this
  |false=>
   rw[hk]at h;have h:mq ((k,u)::zE m r) t=some v:=h;by_cases e:k=t
   ·subst e;rw[j4]at h⊢;rw[FQ]at hk;exact⟨hk,h⟩
   ·rw[jo u _ e]at h⊢;exact E2 h
theorem EG{t:Nat}:∀{l:List Oper},(V0 l).testBit t=false→¬nU t l=true
 | [],_,h=>by cases h
 |o::l,hm,h=>by
  have hm:(dD (qc o) (V0 l)).testBit t=false:=hm;rw[qu,oF]at hm;have h:(match o.dst with|some d=>bif cd d t then true else nU t l|none=>nU t l)=true:=h
  cases hd:o.dst with
  |none=>rw[hd]at h;exact EG hm.2 h
  |some d=>
   rw[hd]at h;cases e:cd d t with
   |true=>have:=(zZ o t).2 (by rw[hd,bG e]);rw[hm.1]at this;cases this
   |false=>simp only[e]at h;exact EG hm.2 h
theorem Pf{a b:Option Nat}{m:Nat}(h:aa0 a b=some m):∃x y,a=some x∧b=some y∧m=dD x y:=by
 cases a<;>cases b<;>cases h
 exact⟨_,_,rfl,rfl,rfl⟩
theorem VZ{t:Nat}(c:Code):∀{m:Nat},Bj c=some m→m.testBit t=false→¬iJ t c=true:=by
 induction c with
 |skip=>intro m _ _ h;cases h
 |region id ops dr=>intro m h hm d;cases h;exact EG hm d
 |seq a b iha ihb=>
  intro m h hm d;obtain⟨x,y,hx,e,rfl⟩:=Pf (show aa0 (Bj a) (Bj b)=some m from h)
  rw[qu,oF]at hm;have d:(bif iJ t a then true else iJ t b)=true:=d;cases ha:iJ t a with
  |true=>exact iha hx hm.1 ha
  |false=>rw[ha]at d;exact ihb e hm.2 d
 |cond c a b iha ihb=>
  intro m h hm d;obtain⟨x,y,hx,e,rfl⟩:=Pf (show aa0 (Bj a) (Bj b)=some m from h)
  rw[qu,oF]at hm;have d:(bif iJ t a then true else iJ t b)=true:=d;cases ha:iJ t a with
  |true=>exact iha hx hm.1 ha
  |false=>rw[ha]at d;exact ihb e hm.2 d
 |block id b ih=>exact fun h hm=>ih h hm
 |loop b ih=>exact fun h hm=>ih h hm
 |rangeFunc _ _ _ _ _ _=>intro m h;cases h
 |scope b ih=>exact fun h hm=>ih h hm
 |_=>intro m _ _ h;cases h
theorem Agree.keep{N:Nat}{r g:cX}{a a':Act}{w f:World}{m:Nat}{c:Code}(h:Agree N r a)(hm:Bj c=some m)(e:Fr (fun t=>iJ t c=true) a w a' f)(h':Agree N g a'):Agree N (zE m r) a':=
 ⟨h'.size,fun t v hv=>by
  obtain⟨b,d⟩:=E2 hv
  rw[e.same t (VZ c hm b)];exact h.look t v d⟩
theorem zo{st:St}{r:cX}{f:yY (B0 st)→Prop}(h:FX st r f):∃t,HP r st=some (pP (B0 st) t)∧f t:=by
 unfold FX at h;split at h
 ·rename_i vs hv
  obtain⟨t,rfl,a⟩:=vq h;exact⟨t,hv,a⟩
 ·exact h.elim
theorem Agree.zip{N:Nat}{r:cX}{a:Act}(h:Agree N r a):∀{st:St} {vs:List Value} {r0:cX},HP r st=some vs→Agree N r0 a→Agree N (p7 st vs r0) a
 | [],vs,r0,_,h0=>by cases vs<;>exact h0
 |(i,k)::st,vs,r0,hv,h0=>by
  unfold HP at hv;split at hv
  ·rename_i v vs' h1 h2
   cases hv;have:=Agree.zip h h2 h0;refine⟨this.size,fun t u b=>?_⟩
   by_cases e:i=t
   ·subst e
    rw[show p7 ((i,k)::st) (v::vs') r0=(i,v)::p7 st vs' r0 from rfl,j4]at b;cases b
    exact h.look i v h1
   ·rw[show p7 ((i,k)::st) (v::vs') r0=(i,v)::p7 st vs' r0 from rfl,jo v _ e]at b
    exact this.look t u b
  ·cases hv
theorem CN{t:Nat}:∀{l:List Oper} {o:Oper},o∈l→o.dst=some t→nU t l=true
 | [],_,h,_=>by cases h
 |x::l,o,h,hd=>by
  have e:nU t (x::l)=(match x.dst with|some d=>bif cd d t then true else nU t l|none=>nU t l):=rfl
  rw[e];rcases aA.1 h with rfl|h
  ·rw[hd];simp only;rw[show cd t t=true from uY t];rfl
  ·have:=CN h hd
   cases x.dst with
   |none=>exact this
   |some d=>
    simp only;cases cd d t with
    |true=>rfl
    |false=>exact this
def LWP(ro:Option Nat)(n:Nat)(P:Program)(c:Code)(Q:Exit→Act→World→Prop)(a:Act)(w:World):Prop:=
 ∀(b:Frame) (k:List Item) (cs:List Frame),b.roundOf=(FW ro).round→(FW ro).fn b.fn→(FW ro).room (cs.length+1+n)→
  ∃e a' w',Q e a' w'∧ArrivesIn (Machine.fenced P (FW ro)) P (lone (b.atR a (.code c:: .inLoop c::k)) cs w) b k cs e a' w'
theorem LWP.step{c:Code}{Q:Exit→Act→World→Prop}{a:Act}{w:World}(h:c.wpIn (FW ro) n P (Exit.then (LWP ro n P c Q) Q) a w):LWP ro n P c Q a w:=by
 intro b k cs i o p;obtain⟨e,m,j,g,d⟩:=h b (.inLoop c::k) cs i o p;cases e with
 |normal=>
  obtain⟨t,u,s,q,f⟩:=g b k cs i o p;exact⟨t,u,s,q,.of_steps (StepsIn.trans d (.one (fenced_calm o p rfl) stepR_inLoop)) f⟩
 |exit id=>exact⟨_,m,j,g,.pass (x:=.inLoop c) rfl (fun _ _=>.inl (by simp)) d⟩
 |goto l=>exact⟨_,m,j,g,.pass (x:=.inLoop c) rfl (fun _ _=>.inl (by simp)) d⟩
 |ret=>exact⟨_,m,j,g,.pass (x:=.inLoop c) rfl (fun _ _=>.inl (by simp)) d⟩
 |panic ch=>exact⟨_,m,j,g,.pass (x:=.inLoop c) rfl (fun _ _=>.inl (by simp)) d⟩
 |outgrown=>exact⟨_,m,j,g,.pass (x:=.inLoop c) rfl (fun _ _=>.inl (by simp)) d⟩
theorem LWP.loop{c:Code}{Q:Exit→Act→World→Prop}{a:Act}{w:World}(h:LWP ro n P c Q a w):(Code.loop c).wpIn (FW ro) n P Q a w:=by
 intro b k cs f g i;obtain⟨e,a',m,j,d⟩:=h b k cs f g i;exact⟨e,a',m,j,.of_steps (.one (fenced_calm g i rfl) stepR_loop) d⟩
theorem Mf(r:cX):DecOk [] r:=fun _=>.inl rfl
theorem YQ(ops:Array Oper)(ls:Nat):left ops ls≤ops.size:=by
 unfold left;exact Nat.le_trans (List.length_filter_le ..) (by simp)
theorem nY(f:P.follows .mixedOrders=true){N id:Nat}{ops:Array Oper}{g:Bool}{v:Ann}{K:cX→ae→Prop}{r:cX}{a:Act}{w:World}{Q:Exit→Act→World→Prop}
  (b:EM P N ops.toList g v K r w.heap)(i:Agree N r a)(u:∀c a w,¬Q (.panic c) a w)
  (m:∀r' a' w',Agree N r' a'→Fr (fun t=>nU t ops.toList=true) a w a' w'→K r' w'.heap→Q .normal a' w'):(Code.region id ops g).wpIn (FW ro) n P Q a w:=by
 have k:∀o∈ops.toList,∀d,o.dst=some d→nU d ops.toList=true:=fun o p d hd=>CN p hd
 cases g with
 |false=>
  have key:∀ek,HW P N ek ops.toList ops.toList [] K r w.heap→(Code.region id ops false).wpIn (FW ro) n P Q a w:=fun ek b=>by
   refine wpIn_region ?_;rw[List.range_eq_range',show ops.size=ops.toList.length from rfl]
   exact HU k m ops.toList 0 rfl [] r a w b i (Mf r) (Fr.refl _ a w)
  unfold EM at b;simp only at b;split at b
  ·exact key _ b
  ·exact key _ b
 |true=>
  unfold EM at b;simp only at b;generalize TD ops.toList=ms at b;cases hm:Hl ops.toList ms with
  |false=>rw[hm]at b;exact b.elim
  |true=>
   rw[hm,cond_true]at b;refine wpIn_region_any f (S6 (ms:=ms) _ [] _ _ _ ?_);have q:Tame w {w with drawn:=w.drawn+1}:=⟨rfl,rfl,rfl⟩;have s:Fr (fun t=>nU t ops.toList=true) a w a {w with drawn:=w.drawn+1}:=⟨q,rfl,fun _ _=>rfl⟩
   refine(OI (Rr hm) k m (fun e a w=>?_) _ false 0 [] [] r a {w with drawn:=w.drawn+1} _ ops.size b i (Mf r) s LsRel.start (fun j x _ h=>by rw[(LsRel.start (ops:=ops)).bit,g7]at h;cases h) (fun x hx=>by cases hx)).1 rfl (YQ ops 0)
   cases e with
   |panic ch=>exact .inr (u _ a w)
   |_=>exact .inl fun c hc=>by cases hc
theorem Hv(t:Nat)(x y:Code):iJ t (.seq x y)=(bif iJ t x then true else iJ t y):=rfl
theorem FO(t:Nat)(c:Operand)(x y:Code):iJ t (.cond c x y)=(bif iJ t x then true else iJ t y):=rfl
theorem NN{a b:Bool}:(bif a then true else b)=true↔a=true∨b=true:=by cases a<;>cases b<;>decide
theorem vR(u:P.follows .mixedOrders=true){N:Nat}(c:Code):∀(D:Ann) (Kn:cX→ae→Prop) (Kx:Ex→cX→ae→Prop) (r:cX) (a:Act) (w:World) (Q:Exit→Act→World→Prop),
  nF P N c D Kn Kx r w.heap→Agree N r a→(∀R a w,¬Q (.panic R) a w)→
  (∀j a' g,Agree N j a'→Fr (fun t=>iJ t c=true) a w a' g→Kn j g.heap→Q .normal a' g)→
  (∀i j a' g,Agree N j a'→Fr (fun t=>iJ t c=true) a w a' g→Kx (.exit i) j g.heap→Q (.exit i) a' g)→
  (∀j a' g,Agree N j a'→Fr (fun t=>iJ t c=true) a w a' g→Kx .ret j g.heap→Q .ret a' g)→
  c.wpIn (FW ro) n P Q a w:=by
 induction c with
 |skip=>
  intro D Kn Kx r a w Q o s _ z _ _;exact wpIn_skip (z r a w s (Fr.refl ..) o)
 |region id ops dr=>
  intro D Kn Kx r a w Q o s B z _ _;cases D with
  |reg keep inner=>
   have o:EM P N ops.toList dr inner (fun j h'=>match TJ j keep with|some r0=>Kn r0 h'|none=>False) r w.heap:=o
   refine nY u o s B fun j a' g O S hk=>?_
   split at hk
   ·rename_i r0 hr0
    refine z r0 a' g ⟨O.size,fun t v hv=>O.look t v (LW hr0 t v hv).2⟩ S hk
   ·exact hk.elim
  |nil=>exact nY u (show EM P N ops.toList dr (.nil) Kn r w.heap from o) s B z
  |node x y=>exact nY u (show EM P N ops.toList dr (.node x y) Kn r w.heap from o) s B z
  |join st x y=>exact nY u (show EM P N ops.toList dr (.join st x y) Kn r w.heap from o) s B z
  |loop st y=>exact nY u (show EM P N ops.toList dr (.loop st y) Kn r w.heap from o) s B z
  |draw d=>exact nY u (show EM P N ops.toList dr (.draw d) Kn r w.heap from o) s B z
  |kinds k v=>exact nY u (show EM P N ops.toList dr (.kinds k v) Kn r w.heap from o) s B z
  |rf ks x y=>exact nY u (show EM P N ops.toList dr (.rf ks x y) Kn r w.heap from o) s B z
 |seq x y ihx ihy=>
  intro D Kn Kx r a w Q o s B z hx F;have E:∀{a' g},Fr (fun t=>iJ t x=true) a w a' g→Fr (fun t=>iJ t (.seq x y)=true) a w a' g:=fun h=>h.mono fun t M=>by rw[Hv,NN];exact .inl M
  have C:∀{a' g H I},Fr (fun t=>iJ t x=true) a w a' g→Fr (fun t=>iJ t y=true) a' g H I→Fr (fun t=>iJ t (.seq x y)=true) a w H I:=
   fun h k=>(E h).trans (k.mono fun t M=>by rw[Hv,NN];exact .inr M)
  have plain:∀U L,nF P N x U (fun j h'=>nF P N y L Kn Kx j h') Kx r w.heap→(Code.seq x y).wpIn (FW ro) n P Q a w:=fun U L o=>by
   refine wpIn_seq (ihx U _ Kx r a w _ o s (fun R a w=>B R a w) ?_ (fun i j a' g q h2 p=>hx i j a' g q (E h2) p) (fun j a' g q h2 p=>F j a' g q (E h2) p))
   intro r1 V Y G A K;exact ihy L Kn Kx r1 V Y Q K G B (fun j a' g q h2 p=>z j a' g q (C A h2) p) (fun i j a' g q h2 p=>hx i j a' g q (C A h2) p) (fun j a' g q h2 p=>F j a' g q (C A h2) p)
  cases D with
  |join st U L=>
   have o:(match Bj x with
      |none=>False
      |some m=>Join (T:=yY (B0 st)) (fun t h'=>nF P N y L Kn Kx (p7 st (pP (B0 st) t) (zE m r)) h')
       fun J=>nF P N x U (fun j h'=>FX st j fun t=>J t h') Kx r w.heap):=o
   split at o
   ·exact o.elim
   ·rename_i m hm
    refine wpIn_seq (ihx U _ Kx r a w _ o.run s (fun R a w=>B R a w) ?_ (fun i j a' g q h2 p=>hx i j a' g q (E h2) p) (fun j a' g q h2 p=>F j a' g q (E h2) p))
    intro r1 V Y G A K;obtain⟨t,hst,hs2⟩:=zo K;have ha2:Agree N (p7 st (pP (B0 st) t) (zE m r)) V:=G.zip hst (s.keep hm A G);exact ihy L Kn Kx _ V Y Q hs2 ha2 B (fun j a' g q h2 p=>z j a' g q (C A h2) p) (fun i j a' g q h2 p=>hx i j a' g q (C A h2) p) (fun j a' g q h2 p=>F j a' g q (C A h2) p)
  |_=>exact plain _ _ o
 |cond c x y ihx ihy=>
  intro D Kn Kx r a w Q o s B z hx F;have o:(match eH r c with
   |some (.bool t)=>CondP t (nF P N x D.l Kn Kx r w.heap) (nF P N y D.r Kn Kx r w.heap)
   |_=>False):=o
  have E:∀{a' g},Fr (fun t=>iJ t x=true) a w a' g→Fr (fun t=>iJ t (.cond c x y)=true) a w a' g:=fun h=>h.mono fun t M=>by rw[FO,NN];exact .inl M
  have C:∀{a' g},Fr (fun t=>iJ t y=true) a w a' g→Fr (fun t=>iJ t (.cond c x y)=true) a w a' g:=fun h=>h.mono fun t M=>by rw[FO,NN];exact .inr M
  split at o
  ·rename_i t M
   refine wpIn_cond_split (oc s M) (fun e=>?_) (fun e=>?_)
   ·exact ihx _ Kn Kx r a w Q (o.yes e) s B (fun j a' g q h2 p=>z j a' g q (E h2) p) (fun i j a' g q h2 p=>hx i j a' g q (E h2) p) (fun j a' g q h2 p=>F j a' g q (E h2) p)
   ·exact ihy _ Kn Kx r a w Q (o.no e) s B (fun j a' g q h2 p=>z j a' g q (C h2) p) (fun i j a' g q h2 p=>hx i j a' g q (C h2) p) (fun j a' g q h2 p=>F j a' g q (C h2) p)
  ·exact o.elim
 |block id b ih=>
  intro D Kn Kx r a w Q o s B z hx F;refine wpIn_block (ih D Kn _ r a w _ o s (fun R a w=>B R a w) z (fun i j a' g q h2 p=>?_) F)
  simp only[Exit.inBlock]at p⊢;cases hi:cd i id with
  |true=>
   rw[hi,cond_true]at p;rw[if_pos (bG hi)];exact z j a' g q h2 p
  |false=>
   rw[hi,cond_false]at p;rw[if_neg (fun e=>by rw[e,uY]at hi;cases hi)]
   exact hx i j a' g q h2 p
 |loop b ih=>
  intro D Kn Kx r a w Q o s B z hx F;cases D with
  |loop st L=>
   have o:(match Bj b with
      |none=>False
      |some m=>FX st r fun t0=>LoopP (T:=yY (B0 st)) (fun W t h'=>nF P N b L (fun j h''=>FX st j fun t'=>W t' h'') Kx (p7 st (pP (B0 st) t) (zE m r)) h') t0 w.heap):=o
   split at o
   ·exact o.elim
   ·rename_i m hm
    obtain⟨t0,Z,hl⟩:=zo o;have h0:=hl.run (fun t h'=>∀a' g,g.heap=h'→Agree N (p7 st (pP (B0 st) t) (zE m r)) a'→Fr (fun t=>iJ t b=true) a w a' g→LWP ro n P b Q a' g) (fun t h' hF a' g hw O S=>by
     subst hw
     refine LWP.step (ih L _ Kx _ a' g _ hF O (fun R a w=>B R a w) ?_ (fun i j H I q h2 p=>hx i j H I q (S.trans h2) p) (fun j H I q h2 p=>F j H I q (S.trans h2) p))
     intro r1 V Y G A K
     obtain⟨t1,X,hk1⟩:=zo K
     exact hk1 V Y rfl (G.zip X (s.keep hm (S.trans A) G)) (S.trans A))
    exact LWP.loop (h0 a w rfl (s.zip Z (s.keep hm (Fr.refl _ a w) s)) (Fr.refl _ a w))
  |_=>exact o.elim
 |rangeFunc f params assign body _ _=>intro D Kn Kx r a w Q o;exact o.elim
 |exit id=>
  intro D Kn Kx r a w Q o s B z hx F;exact wpIn_exit (hx id r a w s (Fr.refl ..) o)
 |scope b _=>intro D Kn Kx r a w Q o;exact o.elim
 |label l=>
  intro D Kn Kx r a w Q o s B z hx F;exact wpIn_label (z r a w s (Fr.refl ..) o)
 |goto l=>intro D Kn Kx r a w Q o;exact o.elim
 |ret=>
  intro D Kn Kx r a w Q o s B z hx F;exact wpIn_ret (F r a w s (Fr.refl ..) o)
 |refuse why=>intro D Kn Kx r a w Q o;exact o.elim
end Go.Lift
namespace Go.Lift
open Go
variable {P:Program}
theorem tf{N:Nat}{r:cX}{a:Act}{w:World}(c:Agree N r a):∀{l:List ResultVar} {K:List Value→Prop},p8 P r w.heap l K→
  ∃vs,(∀g:ResultVar→Sem Value,(∀t,g (.tmp t)=pure (a.tmps.getD t undef))→(∀x t,g (.cell x t)=do loadVar t (←asAddr (a.tmps.getD x undef)))→(l.mapM g).run P w=.ok vs w)∧K vs
 | [],K,h=>⟨[],fun g _ _=>by rw[List.mapM_nil];rfl,h⟩
 | .tmp t::l,K,h=>by
  unfold p8 at h;split at h
  ·rename_i v hv
   obtain⟨vs,f,i⟩:=tf c h;refine⟨v::vs,fun g e d=>?_,i⟩
   rw[List.mapM_cons,e];simp only[Sem.run_bind,Sem.run_pure,Result.andThen_ok];rw[f g e d];simp only[Result.andThen_ok,c.look t v hv]
  ·exact h.elim
 | .cell x t::l,K,h=>by
  unfold p8 at h;split at h
  ·rename_i v hv
   obtain⟨u,S,m,k,n⟩:=F5 h;obtain⟨vs,f,i⟩:=tf c m;refine⟨u::vs,fun g e d=>?_,i⟩
   rw[List.mapM_cons,d];have j:(do loadVar t (←asAddr (a.tmps.getD x undef)):Sem Value).run P w=.ok u w:=by
    rw[c.look x v hv];unfold O2 at h;cases v with
    |pointer p=>cases p with
     |none=>exact h.elim
     |some b=>exact n w k
    |_=>exact h.elim
   simp only[Sem.run_bind]at j⊢;rw[j];simp only[Result.andThen_ok];rw[f g e d];simp only[Sem.run_pure,Result.andThen_ok]
  ·exact h.elim
theorem Lz(ks:List Kind)(t:yY ks):(if h:(pP ks t).toArray.size=1 then(pP ks t).toArray[0]else Value.tuple (pP ks t).toArray)=H8 ks (pP ks t):=by
 match ks,t with
 | [],t=>rfl
 | [k],t=>rfl
 |k::l::ks,(x,t)=>
  have:(pP (k::l::ks) (x,t)).length=(k::l::ks).length:=wp _ _;rw[dif_neg (by simp only[dE,this,ao];omega)];rfl
theorem yH:∀(vs:List Value) (i t:Nat) (v:Value),mq (tx i vs) t=some v→i≤t∧vs[t-i]? =some v
 | [],i,t,v,h=>by cases h
 |u::vs,i,t,v,h=>by
  by_cases e:i=t
  ·subst e
   rw[show tx i (u::vs)=(i,u)::tx (i+1) vs from rfl,j4]at h
   cases h;exact⟨Nat.le_refl _,by simp⟩
  ·rw[show tx i (u::vs)=(i,u)::tx (i+1) vs from rfl,jo u _ e]at h
   obtain⟨a,h2⟩:=yH vs (i+1) t v h;refine⟨by omega,?_⟩;rw[show t-i=(t-(i+1))+1 by omega,List.getElem?_cons_succ]
   exact h2
theorem HE.intro(i:P.follows .mixedOrders=true){f:FuncId}{fn:Func}{c:Code}{p:Ann}{args:List Value}{ks:List Kind}{K:yY ks→ae→Prop}{h:ae}
  (B:P.funcs[f]? =some fn) (A:fn.body=some c) (d:∀(args:Array Value) (w:World),(callFunc f args).run P w=.ok (.enter f args) w) (q:args.length≤fn.ntmps)
  (x:To P fn c p args ks K h):HE P f args ks K h:=by
 refine⟨fun w z=>⟨d,?_⟩⟩
 subst z;refine(callsIn_wide (n:=0)).1 (callsIn_of_wp (F:=FW none) B A trivial ?_ rfl);have s:Agree fn.ntmps (tx 0 args) {tmps:=args.toArray++ux (fn.ntmps-args.toArray.size) undef,defers:= []}:=by
  refine⟨by simp;omega,fun t v hv=>?_⟩
  obtain⟨_,h2⟩:=yH args 0 t v hv;simp only[eZ]at h2;have g:=(bM.1 h2).1;simp[Array.getElem?_append,g];rw[af g]at h2;cases h2;rfl
 have k:∀m a' (b:World),Agree fn.ntmps m a'→Fr (fun t=>iJ t c=true) {tmps:=args.toArray++ux (fn.ntmps-args.toArray.size) undef,defers:= []} w a' b→
   p8 P m b.heap fn.results.toList (fun vs=>GR ks vs fun t=>K t b.heap)→
   a'.defers= []∧∃v,(results fn a'.tmps).run P b=.ok v b∧(Tame w b∧∃t:yY ks,Ending.returned v=.returned (H8 ks (pP ks t))∧K t b.heap):=fun m a' b o j y=>by
  obtain⟨vs,e,hd⟩:=tf o y;obtain⟨t,rfl,u⟩:=vq hd;refine⟨j.defers,_,?_,j.tame,t,rfl,u⟩;unfold results;rw[pn];simp only[Sem.run_bind,Sem.run_map];rw[e _ (fun _=>rfl) (fun _ _=>rfl)]
  simp only[Result.andThen_ok,Sem.run_pure];rw[←Lz]
 exact vR i c p _ _ _ _ w _ x s (fun C a w h=>h.2.2.elim fun _ h=>by cases h.1) k (fun _ _ _ _ _ _ h=>h.elim) k
theorem HC.intro(d:P.follows .mixedOrders=true){f:FuncId}{fn:Func}{c:Code}{j:Ann}{args:List Value}{ks:List Kind}{K:yY ks→ae→Prop}{h:ae}
 (i:P.funcs[f]? =some fn) (g:fn.body=some c) (a:∀(args:Array Value) (w:World),(callFunc f args).run P w=.ok (.enter f args) w) (b:args.length≤fn.ntmps)
 (e:To P fn c j args ks K h):HC P f args ks K h:=(HE.intro d i g a b e).hc
theorem Sn{N:Nat}{args:List Value}(b:args.length≤N):Agree N (tx 0 args) {tmps:=args.toArray++ux (N-args.toArray.size) undef,defers:= []}:=by
 refine⟨by simp;omega,fun t v hv=>?_⟩
 obtain⟨_,h2⟩:=yH args 0 t v hv;simp only[eZ]at h2;have a:=(bM.1 h2).1;simp[Array.getElem?_append,a];rw[af a]at h2;cases h2;rfl
theorem OU{N:Nat}{fn:Func}{ks:List Kind}{K:yY ks→ae→Prop}{d:cX}{a':Act}{a:World}(c:Agree N d a')(e:p8 P d a.heap fn.results.toList (fun vs=>GR ks vs fun t=>K t a.heap)):
  ∃t:yY ks,(results fn a'.tmps).run P a=.ok (H8 ks (pP ks t)) a∧K t a.heap:=by
 obtain⟨vs,b,hd⟩:=tf c e;obtain⟨t,rfl,f⟩:=vq hd;refine⟨t,?_,f⟩;unfold results;rw[pn];simp only[Sem.run_bind,Sem.run_map];rw[b _ (fun _=>rfl) (fun _ _=>rfl)]
 simp only[Result.andThen_ok,Sem.run_pure];rw[←Lz]
end Go.Lift
namespace Go.Lift
open Go
variable {P:Program}
abbrev po(D:Nat):Deferred:={target:=.collected D,args:= #[]}
theorem Jj{N:Nat}:∀{ps:List Nat} {vs:List Value} {r:cX} {tmps:Array Value},Cd N ps=true→Agree N r {tmps:=tmps,defers:= []}→
  Agree N (X6 ps vs r) {tmps:=(ps.zip vs).foldl (fun t x=>t.setIfInBounds x.1 x.2) tmps,defers:= []}
 | [],vs,r,tmps,_,h=>by cases vs<;>exact h
 |i::ps,[],r,tmps,_,h=>h
 |i::ps,v::vs,r,tmps,a,h=>by
  have a:(Nat.blt i N&&Cd N ps)=true:=a;rw[bK]at a;have b:i<N:=by simpa using a.1
  have:=h.put i v b;exact Jj (tmps:=tmps.setIfInBounds i v) a.2 this
theorem HL(w:World)(o:Obj):Tame w (w.alloc o):=⟨rfl,rfl,rfl⟩
theorem qC(w:World)(b:Nat)(o:Obj):Tame w (w.putObj b o):=⟨rfl,rfl,rfl⟩
theorem O7(w:World)(b:Nat)(o:Obj):(w.putObj b o).heap=w.heap.setIfInBounds b o:=rfl
theorem Ud(ps:Array Nat)(vs:List Value)(t:Array Value):(ps.zip vs.toArray).foldl (fun t (x:Nat×Value)=>t.setIfInBounds x.1 x.2) t=(ps.toList.zip vs).foldl (fun t x=>t.setIfInBounds x.1 x.2) t:=by
 obtain⟨l⟩:=ps;simp
theorem GN(C:P.follows .mixedOrders=true){n N:Nat}{g:Operand}{ps:Array Tmp}{assign body:Code}{aa ab:Ann}{ks:List Kind}{fv:Value}{r:cX}{a:Act}{w:World}{Q:Exit→Act→World→Prop}
  {KN:ae→Prop}{KX:Nat→ae→Prop}{KR:ae→Prop}(hps:Cd N ps.toList=true)(S:ps.toList.length=ks.length)(hg:eH r g=some fv)(T:Agree N r a)
  (hR:RangeP P fv ks w.heap (fun LB bz x k h'=>QR P N ps.toList ks assign body (.node aa ab) r (w.heap.size+1) LB bz x k h') KN KX KR)
  (hn:∀m,Tame w m→KN m.heap→Q .normal {a with defers:=po w.heap.size::a.defers} m)
  (hx:∀i m,Tame w m→KX i m.heap→Q (.exit i) {a with defers:=po w.heap.size::a.defers} m)
  (hr:∀m,Tame w m→KR m.heap→Q .ret {a with defers:=po w.heap.size::a.defers} m):(Code.rangeFunc g ps assign body).wpIn (FW none) n P Q a w:=by
 refine wpIn_rangeFunc fun fn _=>?_
 obtain⟨lo,q⟩:∃lo:LoopState→Option Ex→Obj,lo=fun s j=>.loop {state:=s,pending:=Nv j,fn,tmps:=a.tmps,params:=ps,assign,body,defers:=w.heap.size}:=⟨_,rfl⟩
 have hj:∀j:Option Ex,(Nv j).isNone=j.isNone:=fun j=>by rcases j with _|⟨_|_⟩<;>rfl
 obtain⟨f,first,cap,rfl,he⟩:=hR.run lo (fun s j=>⟨_,by rw[q]⟩) (fun x h' K u A=>by
  refine⟨.inr ⟨_,rfl,⟨fun O hw1=>?_⟩⟩⟩
  subst hw1
  rw[q]at u
  have hy:=run_yield (P:=P) (args:=(pP ks x).toArray) u (by simp only[dE,wp];rw[←S];rfl)
  refine⟨_,_,_,_,hy,fun c cs=>?_⟩
  have hA:Agree N (X6 ps.toList (pP ks x) r) {tmps:=(ps.zip (pP ks x).toArray).foldl (fun t (x:Nat×Value)=>t.setIfInBounds x.1 x.2) a.tmps,defers:= []}:=by
   rw[Ud]
   exact Jj hps ⟨T.size,T.look⟩
  have p:∀j:Option Ex,∀W:World,Tame O W→(W.heap[w.heap.size+1]? =some (lo .busy none)∧K j.isNone (W.heap.setIfInBounds (w.heap.size+1) (lo (if j.isNone then .ready else .done) j)))→
    ∃v m,(Instr.endRound (w.heap.size+1) (Nv j)).run P W=.ok v m∧∃b,Ending.returned v=.returned (.bool b)∧Tame O m∧K b m.heap:=by
   rintro j W H ⟨h1,h2⟩
   rw[q]at h1
   have:=run_endRound (P:=P) (Nv j) h1
   refine⟨_,_,this,_,rfl,H.trans (qC ..),?_⟩
   rw[q]at h2
   rw[hj]
   exact h2
  have:=roundIn_of_wpIn (F:=FW none) (n:=0) (P:=P) (l:=w.heap.size+1) (f:=fn) (assign:=assign) (body:=body) (w:=O)
   (tmps:=(ps.zip (pP ks x).toArray).foldl (fun t (x:Nat×Value)=>t.setIfInBounds x.1 x.2) a.tmps)
   (R:=fun e m=>∃b,e=.returned (.bool b)∧Tame O m∧K b m.heap) trivial (by
    refine vR (ro:=some (w.heap.size+1)) C assign aa _ _ _ _ O _ A hA (fun ch a w h=>h) ?_ (fun i r' a' m _ _ h=>h.elim) (fun r' a' m _ _ h=>h.elim)
    rintro r2 a2 Y ha2 E ⟨z,G⟩
    rw[q]at z
    refine⟨_,run_beginRound z rfl,?_⟩
    have J:∀o,o=lo .busy none→Y.heap.setIfInBounds (w.heap.size+1) o=Y.heap.setIfInBounds (w.heap.size+1) (lo .busy none):=fun o Z=>by rw[Z]
    refine vR (ro:=some (w.heap.size+1)) C body ab (fun _ h2=>_) (fun e _ h2=>_) _ _ (Y.putObj (w.heap.size+1) _) _ (by
     rw[O7,J _ (by rw[q])];exact G) ha2 (fun ch a w h=>h) ?_ ?_ ?_
    ·rintro r3 a3 L I y M
     exact p none L ((E.tame.trans (qC ..)).trans y.tame) M
    ·rintro i r3 a3 L I y M
     exact p (some (.exit i)) L ((E.tame.trans (qC ..)).trans y.tame) M
    ·rintro r3 a3 L I y M
     exact p (some .ret) L ((E.tame.trans (qC ..)).trans y.tame) M)
  obtain⟨e,m,⟨b,rfl,H,hK⟩,U⟩:=this.2 c cs (fun d h=>by simp[FW]at h)
  exact⟨b,m,H,hK,U.steps⟩)
 have B:=he.run ((w.alloc (.deferred (some []))).alloc (lo .ready none)) rfl;refine⟨w.heap.size+1,[po w.heap.size],(w.alloc (.deferred (some []))).alloc (lo .ready none),{target:=.fn (.func f) cap,args:=first++ #[.func (.yield (w.heap.size+1)) #[] #[]]},(w.alloc (.deferred (some []))).alloc (lo .ready none),f,
  first++ #[.func (.yield (w.heap.size+1)) #[] #[]]++cap,(w.alloc (.deferred (some []))).alloc (lo .ready none),?_,?_,fun _ _=>trivial,?_,fun h=>by simp[FW]at h,?_⟩
 ·rw[q];exact run_enterLoop_outer fn a.tmps ps assign body
 ·have X:=oc T hg
  simp[resolve,X,Deferred.ofValue,Sem.run_pure];rfl
 ·simp[invoke,B.1]
 ·refine I0 ?_
  have e:(first.toList++ [Value.func (.yield (w.heap.size+1)) #[] #[]]++cap.toList).toArray=first++ #[.func (.yield (w.heap.size+1)) #[] #[]]++cap:=by apply Array.ext';simp
  rw[←e];refine B.2.mono ?_;rintro e m ⟨H,t,rfl,s,j,U,u,p⟩;have V:Tame w m:=((HL w _).trans (HL _ _)).trans H;rw[q]at u;refine⟨_,_,run_endLoop u U,?_⟩;have D:∀o,Tame w (m.putObj (w.heap.size+1) o):=fun o=>V.trans (qC ..)
  have J:∀o,o=lo .exhausted j→(m.putObj (w.heap.size+1) o).heap=m.heap.setIfInBounds (w.heap.size+1) (lo .exhausted j):=fun o Z=>by rw[Z];rfl
  rcases j with _|⟨i|_⟩
  ·exact hn _ (D _) (by rw[J _ (by rw[q])];exact p)
  ·exact wpIn_exit (hx i _ (D _) (by rw[J _ (by rw[q])];exact p))
  ·exact wpIn_ret (hr _ (D _) (by rw[J _ (by rw[q])];exact p))
theorem MW(B:P.follows .mixedOrders=true){n N:Nat}(c:Code):∀(o:Ann) (Kn:List Nat→cX→ae→Prop) (Kx:Ex→List Nat→cX→ae→Prop) (ms:List Nat) (r:cX) (a:Act) (w:World) (Q:Exit→Act→World→Prop),
  B9 P N c o Kn Kx ms r w.heap→Agree N r a→a.defers=ms.map po→(∀E a w,¬Q (.panic E) a w)→
  (∀f m a' j,Agree N m a'→a'.defers=f.map po→Tame w j→Kn f m j.heap→Q .normal a' j)→
  (∀i f m a' j,Agree N m a'→a'.defers=f.map po→Tame w j→Kx (.exit i) f m j.heap→Q (.exit i) a' j)→
  (∀f m a' j,Agree N m a'→a'.defers=f.map po→Tame w j→Kx .ret f m j.heap→Q .ret a' j)→
  c.wpIn (FW none) n P Q a w:=by
 have plain:∀(c:Code) (o:Ann) (Kn:List Nat→cX→ae→Prop) (Kx:Ex→List Nat→cX→ae→Prop) (ms:List Nat) (r:cX) (a:Act) (w:World) (Q:Exit→Act→World→Prop),
  nF P N c o (Kn ms) (fun e=>Kx e ms) r w.heap→Agree N r a→a.defers=ms.map po→(∀E a w,¬Q (.panic E) a w)→
  (∀f m a' j,Agree N m a'→a'.defers=f.map po→Tame w j→Kn f m j.heap→Q .normal a' j)→
  (∀i f m a' j,Agree N m a'→a'.defers=f.map po→Tame w j→Kx (.exit i) f m j.heap→Q (.exit i) a' j)→
  (∀f m a' j,Agree N m a'→a'.defers=f.map po→Tame w j→Kx .ret f m j.heap→Q .ret a' j)→
  c.wpIn (FW none) n P Q a w:=by
  intro c o Kn Kx ms r a w Q d p hd z v hx q;exact vR B c o _ _ r a w Q d p z (fun m a' j s h2 u=>v ms m a' j s (h2.defers.trans hd) h2.tame u) (fun i m a' j s h2 u=>hx i ms m a' j s (h2.defers.trans hd) h2.tame u)
   (fun m a' j s h2 u=>q ms m a' j s (h2.defers.trans hd) h2.tame u)
 induction c with
 |skip=>intro o Kn Kx ms r a w Q d;exact plain _ o Kn Kx ms r a w Q d
 |region id ops dr=>intro o Kn Kx ms r a w Q d;exact plain _ o Kn Kx ms r a w Q d
 |seq x y ihx ihy=>
  intro o Kn Kx ms r a w Q d p hd z v hx q;have d:(bif (bif vh x then true else vh y)then B9 P N x o.l (fun ms m h'=>B9 P N y o.r Kn Kx ms m h') Kx ms r w.heap
   else nF P N (.seq x y) o (Kn ms) (fun e=>Kx e ms) r w.heap):=d
  cases hb:(bif vh x then true else vh y)with
  |false=>rw[hb]at d;exact plain _ _ _ _ _ _ _ _ _ d p hd z v hx q
  |true=>
   rw[hb,cond_true]at d;refine wpIn_seq (ihx o.l _ Kx ms r a w _ d p hd (fun E a w=>z E a w) ?_ hx q)
   intro K M S R I J D L;exact ihy o.r Kn Kx K M S R Q L I J z (fun f m a' j s h2 u A=>v f m a' j s h2 (D.trans u) A) (fun i f m a' j s h2 u A=>hx i f m a' j s h2 (D.trans u) A)
    (fun f m a' j s h2 u A=>q f m a' j s h2 (D.trans u) A)
 |cond c x y ihx ihy=>
  intro o Kn Kx ms r a w Q d p hd z v hx q;have d:(bif (bif vh x then true else vh y)then
    (match eH r c with
     |some (.bool t)=>CondP t (B9 P N x o.l Kn Kx ms r w.heap) (B9 P N y o.r Kn Kx ms r w.heap)
     |_=>False)
   else nF P N (.cond c x y) o (Kn ms) (fun e=>Kx e ms) r w.heap):=d
  cases hb:(bif vh x then true else vh y)with
  |false=>rw[hb]at d;exact plain _ _ _ _ _ _ _ _ _ d p hd z v hx q
  |true=>
   rw[hb,cond_true]at d;split at d
   ·rename_i t C
    exact wpIn_cond_split (oc p C) (fun e=>ihx _ Kn Kx ms r a w Q (d.yes e) p hd z v hx q) (fun e=>ihy _ Kn Kx ms r a w Q (d.no e) p hd z v hx q)
   ·exact d.elim
 |block id b ih=>
  intro o Kn Kx ms r a w Q d p hd z v hx q;have d:(bif vh b then B9 P N b o Kn (fun e ms m h'=>match e with
    | .exit i=>bif cd i id then Kn ms m h' else Kx (.exit i) ms m h'
    | .ret=>Kx .ret ms m h') ms r w.heap
   else nF P N (.block id b) o (Kn ms) (fun e=>Kx e ms) r w.heap):=d
  cases hb:vh b with
  |false=>rw[hb]at d;exact plain _ _ _ _ _ _ _ _ _ d p hd z v hx q
  |true=>
   rw[hb,cond_true]at d;refine wpIn_block (ih o Kn _ ms r a w _ d p hd (fun E a w=>z E a w) v (fun i f m a' j s h2 u A=>?_) q)
   simp only[Exit.inBlock]at A⊢;cases hi:cd i id with
   |true=>
    rw[hi,cond_true]at A;rw[if_pos (bG hi)];exact v f m a' j s h2 u A
   |false=>
    rw[hi,cond_false]at A;rw[if_neg (fun e=>by rw[e,uY]at hi;cases hi)]
    exact hx i f m a' j s h2 u A
 |loop b ih=>intro o Kn Kx ms r a w Q d;exact plain _ o Kn Kx ms r a w Q d
 |rangeFunc g ps assign body _ _=>
  intro o Kn Kx ms r a w Q d p hd z v hx q;cases o with
  |rf ks aa ab=>
   have d:(bif Cd N ps.toList&&cd ps.toList.length ks.length then
    (match eH r g with
     |some fv=>RangeP P fv ks w.heap (fun LB O x k h'=>QR P N ps.toList ks assign body (.node aa ab) r (w.heap.size+1) LB O x k h')
       (fun h'=>Kn (w.heap.size::ms) r h') (fun i h'=>Kx (.exit i) (w.heap.size::ms) r h') (fun h'=>Kx .ret (w.heap.size::ms) r h')
     |none=>False)else False):=d
   cases hb:(Cd N ps.toList&&cd ps.toList.length ks.length)with
   |false=>rw[hb]at d;exact d.elim
   |true=>
    rw[hb,cond_true]at d;rw[bK]at hb;split at d
    · rename_i fv hfv
      have H:Agree N r {a with defers:=po w.heap.size::a.defers}:=⟨p.size,p.look⟩;have G:({a with defers:=po w.heap.size::a.defers}:Act).defers=(w.heap.size::ms).map po:=by rw[List.map_cons,←hd]
      exact GN B hb.1 (bG hb.2) hfv p d (fun j C F=>v _ r _ j H G C F) (fun i j C F=>hx i _ r _ j H G C F) (fun j C F=>q _ r _ j H G C F)
    · exact d.elim
  |_=>exact d.elim
 |exit id=>intro o Kn Kx ms r a w Q d;exact plain _ o Kn Kx ms r a w Q d
 |scope b _=>intro o Kn Kx ms r a w Q d;exact d.elim
 |label l=>intro o Kn Kx ms r a w Q d;exact plain _ o Kn Kx ms r a w Q d
 |goto l=>intro o Kn Kx ms r a w Q d;exact d.elim
 |ret=>intro o Kn Kx ms r a w Q d;exact plain _ o Kn Kx ms r a w Q d
 |refuse why=>intro o Kn Kx ms r a w Q d;exact d.elim
theorem B6{fn:Func}{ks:List Kind}{K:yY ks→ae→Prop}{N:Nat}{n:Nat}{r:cX}{a:Act}{c:World}(d:Agree N r a):∀(ms:List Nat) (w:World),Tame c w→
  Tm ms (fun h'=>p8 P r h' fn.results.toList fun vs=>GR ks vs fun t=>K t h') w.heap→
  LeavesInM (FW none) n P fn a.tmps (fun e f=>Tame c f∧∃t:yY ks,e=.returned (H8 ks (pP ks t))∧K t f.heap) (ms.map po) .returning w
 | [],w,ht,h=>by
  obtain⟨t,b,g⟩:=OU d h;exact⟨_,b,ht,t,rfl,g⟩
 |D::ms,w,ht,h=>by
  refine⟨by simp,.inl ⟨D,_,rfl,run_takeDeferred h.1,?_⟩⟩;exact B6 d ms (w.putObj D (.deferred none)) (ht.trans (qC ..)) h.2
theorem HE.introM(o:P.follows .mixedOrders=true){f:FuncId}{fn:Func}{c:Code}{s:Ann}{args:List Value}{ks:List Kind}{K:yY ks→ae→Prop}{h:ae}
  (y:P.funcs[f]? =some fn) (u:fn.body=some c) (k:∀(args:Array Value) (w:World),(callFunc f args).run P w=.ok (.enter f args) w) (m:args.length≤fn.ntmps)
  (v:QS P fn c s args ks K h):HE P f args ks K h:=by
 refine⟨fun w x=>⟨k,?_⟩⟩
 subst x;refine(callsIn_wide (n:=0)).1 (callsIn_of_wp_marks (F:=FW none) y u trivial ?_ rfl);refine wpIn_mono (Q:=fun e a b=>(∀p,e≠ .panic p)∧bodyPostM (FW none) 0 P fn (fun e b=>Tame w b∧∃t:yY ks,e=.returned (H8 ks (pP ks t))∧K t b.heap) e a b) ?_ fun e a w h=>h.2
 refine MW o c s _ _ [] _ _ w _ v (Sn m) rfl (fun p a w h=>h.1 p rfl) ?_ (fun _ _ _ _ _ _ _ _ h=>h.elim) ?_
 ·intro j z a' b i d g q
  refine⟨(fun _ e=>by cases e),?_⟩
  show LeavesInM _ _ _ _ _ _ a'.defers _ _
  rw[d];exact B6 i j b g q
 ·intro j z a' b i d g q
  refine⟨(fun _ e=>by cases e),?_⟩
  show LeavesInM _ _ _ _ _ _ a'.defers _ _
  rw[d];exact B6 i j b g q
theorem HC.introM(d:P.follows .mixedOrders=true){f:FuncId}{fn:Func}{c:Code}{j:Ann}{args:List Value}{ks:List Kind}{K:yY ks→ae→Prop}{h:ae}
 (i:P.funcs[f]? =some fn) (g:fn.body=some c) (a:∀(args:Array Value) (w:World),(callFunc f args).run P w=.ok (.enter f args) w) (b:args.length≤fn.ntmps)
 (e:QS P fn c j args ks K h):HC P f args ks K h:=(HE.introM d i g a b e).hc
end Go.Lift
namespace Go.Lift
open Go
def AppP(z:Option (List Value))(e b:Nat)(t:TypeId)(a:Option Addr)(sl d c:Nat)(xs:List Value)(h:ae)(K:SliceV→ae→Prop):Prop:=
 (sl+c≤d→u6 h a (sl*e) xs∧cG xs=true∧K ⟨a,sl+c,d⟩ (gX h a (sl*e) xs))∧
 (d<sl+c→∃old z',SRow h a (sl*e) old∧z=some z'∧0<b∧Builtin.nextslicecap (sl+c) d*b≤2^48∧
  ∀nc,sl+c≤nc→K ⟨some (aF h),sl+c,nc⟩ (hnew h (old++xs++eh (nc-(sl+c)) z') t))
end Go.Lift
