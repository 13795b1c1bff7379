/- A part of the proof that the named laws of this program answer true, whatever the input. -/
import Derived.Test.YtncppacbfagpgaaGreatLift0
import Derived.Laws.Append
import Derived.Laws.Cover3
import Derived.Laws.StructEq
import Derived.Laws.BytesString
namespace Go.Lift
open Go
open Array renaming ext'→df,getElem?_toList→bv,mem_filter→qr,getD_eq_getD_getElem?→cU
open Bool renaming and_eq_true→bd,false_eq_true→eZ,eq_false_iff→pW
open ByteArray renaming data_extract→kZ
open List renaming extract_eq_take_drop→fp,map_cons→fO,foldl_cons→ix,map_map→pR,take_of_length_le→aZ,length_cons→ao,cons_append→dy,length_eq_zero_iff→av,getElem?_eq_getElem→ai
open Nat renaming beq→bM,add_assoc→uq,eq_of_beq_eq_true→bc,le_of_ble_eq_true→ae,add_zero→iP,zero_add→aQ,min→dR
open Option renaming some→bm,isSome_iff_exists→hJ,map_some→iw
open Prod renaming mk→rN
open Region renaming wanted→oe
open Result renaming andThen_ok→aG
open UInt8 renaming ofNat→tZ
def RF(S:Option(af→Prop))(h:af):Prop:=match S with|none=>True|some f=>f h
def Yv(P:Program)(s:Sem Value)(K:RK)(h:af):Prop:=∃v S,K v S∧RF S h∧∀w:World,RF S w.heap→s.run P w=.ok v w
theorem Yv.of_pure{P:Program}{s:Sem Value}{K:RK}{h:af}{v:Value}(hk:K v none)(hr:∀w:World,s.run P w=.ok v w):Yv P s K h:=
 ⟨v,none,hk,trivial,fun w _=>hr w⟩
variable {P:Program}
theorem wR{t:TypeId}{f:Nat}{u:TypeId}{off:Nat}(h:wS P t f=some(u,off)):
  ∃fs g,P.underlying t=some (.struct fs)∧fs[f]?=some g∧g.type=u∧g.offset=off:=by
 unfold wS at h;split at h
 ·rename_i fs hu
  split at h
  ·rename_i g hg
   simp only[bm.injEq,rN.injEq]at h;exact⟨fs,g,hu,by simpa using hg,h.1,h.2⟩
  ·cases h
 ·cases h
theorem yA{t:TypeId}(h:bM(bX P t) 0=false)(w:World):(sizeOf t).run P w=.ok (bX P t) w:=by
 unfold bX at h⊢;cases hi:P.info? t with
 |none=>rw[hi]at h;cases h
 |some i=>simp[sizeOf,cO hi]
theorem DD{t:TypeId}{f:Nat}{u:TypeId}{off:Nat}{a:Addr}{K:RK}{h:af}(hf:wS P t f=some(u,off))
  (hk:bif bM(bX P u) 0 then False else K(.pointer(some(adr a off))) none):Yv P (Instr.fieldAt t (.pointer (some a)) f) K h:=by
 obtain⟨fs,g,hu,hg,rfl,rfl⟩:=wR hf;cases hz:bM (bX P g.type) 0 with
 |true=>rw[hz]at hk;exact hk.elim
 |false=>
  rw[hz]at hk;refine.of_pure hk fun w=>?_
  have hne:bX P g.type≠0:=fun e=>by rw[e]at hz;cases hz
  simp only[Instr.fieldAt,Sem.run_bind,aE hu,aG,hg,Instr.sureAddr,Sem.run_pure,fieldPlace,yA hz];simp[hne,uk]
theorem vI{t:TypeId}{i:TypeInfo}(_:P.info? t=some i)(hu:∃d,P.underlying t=some d)(w:World):(isAgg t).run P w=.ok (vJ P t) w:=by
 obtain⟨d,hd⟩:=hu;simp only[isAgg,Sem.run_bind,aE hd,aG];unfold vJ;rw[hd];cases d<;>rfl
theorem zI{op:BinOp}{k k':IntKind}{a b:Int}{K:RK}{h:af}(hs:op=.shl∨op=.shr)(hv:L7 op k a b K):Yv P (Op.shift op k a k' b) K h:=by
 rcases hs with rfl|rfl
 ·obtain⟨h0,hk⟩:=hv
  refine.of_pure hk fun w=>?_
  simp[Op.shift,Int.not_lt.2 h0]
 ·obtain⟨h0,hk⟩:=hv
  refine.of_pure hk fun w=>?_
  simp[Op.shift,Int.not_lt.2 h0]
theorem ML{op:BinOp}{k:IntKind}{a b:Int}{K:RK}{h:af}(hv:Tk op k a b K)(hs:op≠ .shl∧op≠ .shr):Yv P (binOp op 0 (.int k a) (.int k b)) K h:=by
 cases op<;>simp only[Tk]at hv
 case quo=>obtain⟨h0,hk⟩:=hv;exact.of_pure hk fun w=>by simp[binOp,Op.intDiv,h0]
 case rem=>obtain⟨h0,hk⟩:=hv;exact.of_pure hk fun w=>by simp[binOp,Op.intDiv,h0]
 all_goals exact.of_pure hv fun w=>by simp[binOp,Op.intArith,Op.intBits,Op.intCmp]
theorem Fq(op:BinOp)(t:TypeId)(k k':IntKind)(a b:Int):binOp op t (.int k a) (.int k' b)=binOp op 0 (.int k a) (.int k' b):=by
 cases op<;>rfl
theorem L4{op:BinOp}{t:TypeId}{a b:ByteArray}{K:RK}{h:af}(hv:S6 op a b K):Yv P (binOp op t (.string a) (.string b)) K h:=by
 cases op<;>simp only[S6]at hv
 case add=>
  obtain⟨h0,hk⟩:=hv;refine.of_pure hk fun w=>?_
  have:¬(((a.size+b.size:Nat):Int)>IntKind.i64.max):=by
   have:IntKind.i64.max=9223372036854775807:=by decide
   omega
  simp only[binOp,Op.stringOp,if_neg this,Sem.run_pure]
 all_goals exact.of_pure hv fun w=>by simp[binOp,Op.stringOp]
theorem qL{t:TypeId}{x y:Value}{b:Bool}{w:World}(h:∀d,(Op.equalIn(d+1) t x y).run P w=.ok b w):(Op.equal t x y).run P w=.ok b w:=h 9999
theorem Fb{t:TypeId}{e:TypeId}(hu:P.underlying t=some(.pointer e))(a:Option Addr)(w:World):(Op.equal t (.pointer a) (.pointer none)).run P w=.ok a.isNone w:=by
 refine qL fun d=>?_
 simp only[Op.equalIn,Sem.run_bind,aE hu,aG];cases a<;>rfl
theorem MV(op:BinOp)(t:TypeId)(x y:Operand)(a b:Value)(h:∀c d,a=.agg c→b=.agg d→False)(hi:a=.nilIface→b=.nilIface→False)(w:World):
  (eqGuard op t x y a b).run P w=.ok () w:=by
 cases op;case eql=>cases a<;>cases b<;>first|rfl|exact(hi rfl rfl).elim|exact(h _ _ rfl rfl).elim
 case neq=>cases a<;>cases b<;>first|rfl|exact(hi rfl rfl).elim|exact(h _ _ rfl rfl).elim
 all_goals rfl
theorem PD(t:TypeId)(x y:Value)(hx:∀k a,x≠ .int k a)(hs:∀s,x≠ .string s)(hf:∀k a,x≠ .float k a)(hc:∀k a b,x≠ .complex k a b):binOp .eql t x y=(do pure (.bool (←Op.equal t x y))):=by
 cases x<;>first|rfl|exact absurd rfl (hx _ _)|exact absurd rfl (hs _)|exact absurd rfl (hf _ _)|exact absurd rfl (hc _ _ _)
theorem PC(t:TypeId)(x y:Value)(hx:∀k a,x≠ .int k a)(hs:∀s,x≠ .string s)(hf:∀k a,x≠ .float k a)(hc:∀k a b,x≠ .complex k a b):binOp .neq t x y=(do pure (.bool (!(←Op.equal t x y)))):=by
 cases x<;>first|rfl|exact absurd rfl (hx _ _)|exact absurd rfl (hs _)|exact absurd rfl (hf _ _)|exact absurd rfl (hc _ _ _)
theorem qM{t:TypeId}{neg:Bool}{x y:Value}{b:Bool}{w:World}(he:(Op.equal t x y).run P w=.ok b w)
  (hx:∀k a,x≠ .int k a)(hs:∀s,x≠ .string s)(hf:∀k a,x≠ .float k a)(hc:∀k a b,x≠ .complex k a b):
  (binOp (bif neg then.neq else.eql) t x y).run P w=.ok (.bool (bif neg then !b else b)) w:=by
 cases neg
 ·simp only[cond_false,PD t x y hx hs hf hc,Sem.run_bind,he,aG,Sem.run_pure]
 ·simp only[cond_true,PC t x y hx hs hf hc,Sem.run_bind,he,aG,Sem.run_pure]
theorem ES{t:TypeId}{neg:Bool}{x y:Value}{K:RK}{h:af}(hv:Sd P t neg x y K):
  (∀c d,x=.agg c→y=.agg d→False)∧(x=.nilIface→y=.nilIface→False)∧Yv P (binOp (bif neg then.neq else.eql) t x y) K h:=by
 unfold Sd at hv;split at hv
 ·rename_i e a hu
  refine⟨nofun,nofun,.of_pure hv fun w=>?_⟩
  exact qM (Fb hu a w) nofun nofun nofun nofun
 ·rename_i k e a hu
  refine⟨nofun,nofun,.of_pure hv fun w=>?_⟩
  refine qM ?_ nofun nofun nofun nofun;refine qL fun d=>?_
  simp only[Op.equalIn,Sem.run_bind,aE hu,aG];cases a<;>rfl
 ·rename_i e a _ _ _ _ hu
  refine⟨nofun,nofun,.of_pure hv fun w=>?_⟩
  refine qM ?_ nofun nofun nofun nofun;refine qL fun d=>?_
  simp only[Op.equalIn,Sem.run_bind,aE hu,aG];cases a<;>rfl
 ·exact hv.elim
theorem wC{w:World}{a b:Addr}(ha:fI w.heap a)(hb:fI w.heap b):(sameAddr a b).run P w=.ok (a==b) w:=by
 obtain⟨ca,ea,ha,sa⟩:=ha;obtain⟨cb,eb,hb,sb⟩:=hb;by_cases hbl:a.block=b.block
 ·simp[sameAddr,hbl]
 ·have hne:(a==b)=false:=by
   rw[beq_eq_false_iff_ne];intro e;exact hbl (by rw[e])
  have s1:w.shape? a.block=some (ea,ca.size):=by simp[World.shape?,ha]
  have s2:w.shape? b.block=some (eb,cb.size):=by simp[World.shape?,hb]
  have f1:∀n,w.frozen? ({block:=a.block,off:=n}:Addr)=false:=fun n=>by simp[World.frozen?,ha]
  have f2:∀n,w.frozen? ({block:=b.block,off:=n}:Addr)=false:=fun n=>by simp[World.frozen?,hb]
  have g1:w.frozen? a=false:=by simp[World.frozen?,ha]
  have g2:w.frozen? b=false:=by simp[World.frozen?,hb]
  obtain⟨m,hm⟩:∃m,ca.size=m+1:=⟨ca.size-1,by omega⟩
  obtain⟨n,hn⟩:∃n,cb.size=n+1:=⟨cb.size-1,by omega⟩
  simp[sameAddr,hbl,noView,viewAt,mayBeOne,stringish,s1,s2,f1,f2,g1,g2,hm,hn,hne]
theorem HP{t:TypeId}{neg:Bool}{x y:Value}{K:RK}{h:af}(hv:T4 P t neg x y K h):
  (∀c d,x=.agg c→y=.agg d→False)∧(x=.nilIface→y=.nilIface→False)∧Yv P (binOp (bif neg then.neq else.eql) t x y) K h:=by
 unfold T4 at hv;split at hv
 ·rename_i a b hu
  refine⟨nofun,nofun,.of_pure hv fun w=>?_⟩
  refine qM ?_ nofun nofun nofun nofun;refine qL fun d=>?_
  simp only[Op.equalIn,Sem.run_bind,aE hu,aG,Sem.run_pure]
 ·rename_i e a b hu
  obtain⟨hz,hp,hk⟩:=hv;refine⟨nofun,nofun,_,_,hk,hp,fun w hw=>?_⟩
  refine qM ?_ nofun nofun nofun nofun;have hz':bM (bX P e) 0=false:=by
   cases hb:bM (bX P e) 0 with
   |false=>rfl
   |true=>rw[hb]at hz;exact hz.elim
  have hne:bX P e≠0:=fun e=>by rw[e]at hz';cases hz'
  refine qL fun d=>?_
  simp only[Op.equalIn,Sem.run_bind,aE hu,aG];cases a with
  |none=>cases b<;>rfl
  |some a=>cases b with
   |none=>rfl
   |some b=>
    obtain⟨h1,h2⟩:=hw a b rfl rfl;simp only[Sem.run_bind,yA hz',aG,ne_eq,hne,not_false_eq_true,if_true,wC h1 h2];rfl
 ·exact hv.elim
theorem Mn{op:BinOp}{t:TypeId}{x y:Value}{K:RK}{h:af}(hv:Tc P op t x y K h):
  (∀c d,x=.agg c→y=.agg d→False)∧(x=.nilIface→y=.nilIface→False)∧Yv P (binOp op t x y) K h:=by
 unfold Tc at hv;split at hv
 ·rename_i k a k' b
  refine⟨nofun,nofun,?_⟩;rw[Fq];split at hv
  ·exact zI (k':=k') (.inl rfl) hv
  ·exact zI (k':=k') (.inr rfl) hv
  ·rename_i h1 h2
   cases hk:IQ k' k with
   |false=>rw[hk]at hv;exact hv.elim
   |true=>rw[hk]at hv;have:=Ag hk;subst this;exact ML hv ⟨h1,h2⟩
 ·exact⟨nofun,nofun,L4 hv⟩
 ·split at hv
  ·exact HP (neg:=false) hv
  ·exact HP (neg:=true) hv
  ·exact hv.elim
theorem Kt{u:TypeId}{cs:List Value}{off:Nat}(hu:((P.underlying u).isSome&&(P.info? u).isSome)=true){w:World}(ha:vJ P u=true):
  (part u cs.toArray off).run P w=.ok (.agg ((cs.drop off).take (bX P u)).toArray) w:=by
 simp only[bd,hJ]at hu;obtain⟨hu,i,hi⟩:=hu;have hs:(sizeOf u).run P w=.ok (bX P u) w:=by simp[sizeOf,cO hi,bX,hi]
 simp only[part,Sem.run_bind,vI hi hu,aG,ha,if_true,hs,Sem.run_pure];congr 2
 apply df;simp[fp]
theorem Hk{u:TypeId}{cs:List Value}{off:Nat}(hu:((P.underlying u).isSome&&(P.info? u).isSome)=true){w:World}(ha:vJ P u=false){v:Value}(hc:cs[off]?=some v):
  (part u cs.toArray off).run P w=.ok v w:=by
 simp only[bd,hJ]at hu;obtain⟨hu,i,hi⟩:=hu;have hc':cs.toArray[off]?=some v:=by simpa using hc
 simp only[part,Sem.run_bind,vI hi hu,aG,ha,eZ,if_false,hc',Sem.run_pure]
theorem yI{h:af}:∀{l m:List (Option Addr×Option Addr)},rU h (l++m)→rU h l∧rU h m
 | [],_,h=>⟨trivial,h⟩
 |(_,_)::_,_,h=>⟨⟨h.1,(yI h.2).1⟩,(yI h.2).2⟩
theorem K8{t:TypeId}{x y:Value}{b:Bool}{l:List(Option Addr×Option Addr)}(he:Q0 P t x y=some(b,l)){w:World}(hp:rU w.heap l)(d:Nat):
  (Op.equalIn (d+1) t x y).run P w=.ok b w:=by
 unfold Q0 at he;split at he
 ·rename_i k0 k a k' c hu
  cases hk:IQ k' k with
  |false=>rw[hk]at he;cases he
  |true=>
   rw[hk]at he;have:=Ag hk;subst this;cases he;exact run_equalIn_int w d t _ _ _ _ hu
 ·rename_i a c hu
  cases he;exact run_equalIn_bool w d t _ _ hu
 ·rename_i a c hu
  cases he;exact run_equalIn_string w d t _ _ hu
 ·rename_i e a c hu
  cases hz:bM (bX P e) 0 with
  |true=>rw[hz]at he;cases he
  |false=>
   rw[hz]at he;cases he;have hne:bX P e≠0:=fun e=>by rw[e]at hz;cases hz
   simp only[Op.equalIn,Sem.run_bind,aE hu,aG];cases a with
   |none=>cases c<;>rfl
   |some a=>cases c with
    |none=>rfl
    |some c=>
     obtain⟨h1,h2⟩:=hp.1 a c rfl rfl;simp only[Sem.run_bind,yA hz,aG,ne_eq,hne,not_false_eq_true,if_true,wC h1 h2];rfl
 ·cases he
theorem Fc{rec:TypeId→List Value→List Value→Option(Bool×List(Option Addr×Option Addr))}{d:Nat}{xs ys:List Value}{w:World}
  (hr:∀t us vs b l,rec t us vs=some(b,l)→rU w.heap l→(Op.equalIn(d+1) t(.agg us.toArray)(.agg vs.toArray)).run P w=.ok b w):
  ∀(fs:List Field) (b:Bool) (l:List (Option Addr×Option Addr)),Su P rec xs ys fs=some (b,l)→rU w.heap l→(Op.eqFields (d+1) xs.toArray ys.toArray fs).run P w=.ok b w
 | [],b,l,he,_=>by cases he;rfl
 |f::fs,b,l,he,hp=>by
  unfold Su at he;split at he
  ·cases he
  ·rename_i hn
   cases hi:((P.underlying f.type).isSome&&(P.info? f.type).isSome)with
   |false=>rw[hi]at he;cases he
   |true=>
    rw[hi]at he;simp only[cond_true]at he;split at he
    ·rename_i b1 l1 c m e1 e2
     cases he;obtain⟨p1,p2⟩:=yI hp;have rest:=Fc hr fs c m e2 p2;have h1:∃u v,(part f.type xs.toArray f.offset).run P w=.ok u w∧(part f.type ys.toArray f.offset).run P w=.ok v w∧(Op.equalIn (d+1) f.type u v).run P w=.ok b1 w:=by
      cases ha:vJ P f.type with
      |true=>
       rw[ha]at e1;exact⟨_,_,Kt hi ha,Kt hi ha,hr _ _ _ _ _ e1 p1⟩
      |false=>
       rw[ha]at e1;simp only[cond_false]at e1;split at e1
       ·rename_i x y hx hy
        exact⟨x,y,Hk hi ha hx,Hk hi ha hy,K8 e1 p1 d⟩
       ·cases e1
     obtain⟨u,v,r1,r2,r3⟩:=h1;simp only[Op.eqFields,ne_eq,hn,not_false_eq_true,if_true,Sem.run_bind,r1,r2,r3,aG];cases b1
     ·rfl
     ·exact rest
    ·cases he
theorem yX{w:World}:∀(m:Nat) (t:TypeId) (xs ys:List Value) (b:Bool) (l:List (Option Addr×Option Addr)),Q1 P m t xs ys=some (b,l)→rU w.heap l→
  ∀d,(Op.equalIn (d+m+1) t (.agg xs.toArray) (.agg ys.toArray)).run P w=.ok b w
 |0,_,_,_,_,_,he,_,_=>by cases he
 |m+1,t,xs,ys,b,l,he,hp,d=>by
  unfold Q1 at he;split at he
  ·rename_i fs hu
   cases hs:P.stoodInHeld t with
   |true=>rw[hs]at he;cases he
   |false=>
    rw[hs]at he;have hf:P.fieldsOf t=fs:=by simp[Program.fieldsOf,hu]
    rw[run_equalIn_struct w _ t _ _ (by rw[hf];exact hu) hs,hf];exact Fc (d:=d+m) (fun t us vs b l h1 h2=>yX m t us vs b l h1 h2 d) fs.toList b l he hp
  ·cases he
theorem HQ{neg b:Bool}{K:RK}{h:af}{l:List(Option Addr×Option Addr)}(hk:Ul neg b K h l):∃S,K (.bool (bif neg then !b else b)) S∧RF S h∧∀h',RF S h'→rU h' l:=by
 cases l with
 |nil=>exact⟨none,hk,trivial,fun _ _=>trivial⟩
 |cons p l=>exact⟨_,hk.2,hk.1,fun _ h=>h⟩
theorem Mq{op:BinOp}{t:TypeId}{xs ys:Array Value}{x y:Operand}{K:RK}{h:af}(hq:Td P op t xs.toList ys.toList K h):
  ∃v S,K v S∧RF S h∧∀w:World,RF S w.heap→(do eqGuard op t x y (.agg xs) (.agg ys);binOp op t (.agg xs) (.agg ys):Sem Value).run P w=.ok v w:=by
 unfold Td at hq;cases hg:P.eqGuardType P.depth t with
 |true=>rw[hg]at hq;exact hq.elim
 |false=>
  rw[hg]at hq;simp only[cond_false]at hq;split at hq
  ·split at hq
   ·rename_i b l he
    obtain⟨S,h1,h2,h3⟩:=HQ hq;refine⟨_,S,h1,h2,fun w hw=>?_⟩
    have:=yX 10 t _ _ b l he (h3 _ hw) 9989;simp only[Array.toArray_toList]at this;simp only[Sem.run_bind,run_eqGuard_agg w _ t x y _ _ hg,aG,run_eql_struct,this];rfl
   ·exact hq.elim
  ·split at hq
   ·rename_i b l he
    obtain⟨S,h1,h2,h3⟩:=HQ hq;refine⟨_,S,h1,h2,fun w hw=>?_⟩
    have:=yX 10 t _ _ b l he (h3 _ hw) 9989;simp only[Array.toArray_toList]at this;simp only[Sem.run_bind,run_eqGuard_agg w _ t x y _ _ hg,aG,run_neq_struct,this];rfl
   ·exact hq.elim
  ·exact hq.elim
theorem O1{op:UnOp}{x:Value}{K:RK}{h:af}(hv:Ug op x K):Yv P (Op.unary op x) K h:=by
 unfold Ug at hv;split at hv
 ·exact.of_pure hv fun w=>rfl
 ·exact.of_pure hv fun w=>rfl
 ·exact.of_pure hv fun w=>rfl
 ·exact hv.elim
theorem Fn:∀(l:List UInt8) (s:ByteArray),(l.map fun b=>((b.toNat:Nat):Int)).foldl (fun r n=>r.push (tZ n.toNat)) s=⟨s.data++l.toArray⟩
 | [],s=>by simp
 |b::l,s=>by
  simp only[fO,ix];rw[Fn l];congr 1
  have:tZ ((b.toNat:Nat):Int).toNat=b:=by simp
  rw[this];apply df;simp[ByteArray.push]
theorem MK{e:TypeId}(h:Sp P e=true):P.underlying e=some (.int .u8):=by
 unfold Sp at h;split at h
 ·assumption
 ·cases h
theorem Kb{w:World}{a:Addr}{vs:List Value}(hr:Row w.heap a vs):(loadCells a vs.length).run P w=.ok vs.toArray w:=by
 have:=run_firstCells_some (P:=P) w 1 vs.length a 0 0 vs (by simp)fun j v hv=>by rw[←uk];exact hr j v hv
 simpa[Builtin.firstCells]using this
theorem Kl{src dst:TypeId}{x:Value}{K:RK}{h:af}(hv:Qy P src dst x K h):Yv P (convert src dst x) K h:=by
 unfold Qy at hv;split at hv
 ·rename_i k k' k'' n h1 h2
  exact.of_pure hv fun w=>by simp only[convert,Sem.run_bind,aE h1,aE h2,aG];rfl
 ·rename_i s h1 h2
  exact.of_pure hv fun w=>by simp only[convert,Sem.run_bind,aE h1,aE h2,aG];rfl
 ·rename_i e a n c h1 h2
  cases hu:Sp P e with
  |false=>rw[hu]at hv;exact hv.elim
  |true=>
   rw[hu]at hv;obtain⟨s,hs,hk⟩:=hv;refine⟨_,_,hk,hs,fun w hw=>?_⟩
   rw[run_convert_bytes_string w src dst e a n c h1 (MK hu) h2];obtain⟨hl,hw⟩:=hw;rcases hw with h0|⟨b,rfl,hr⟩
   ·have hs0:s=ByteArray.empty:=by
     have:s.data.toList= []:=by simpa[gi]using h0
     cases s with
     |mk d=>simp at this;subst this;rfl
    cases a with
    |none=>rw[hs0];rfl
    |some b=>
     have hn:n=0:=by rw[←hl,h0];rfl
     subst hn;have:=Kb (P:=P) (w:=w) (a:=b) (vs:= [])fun i v hv=>by simp at hv
     rw[run_bytesToString w b 0 c [] (by simpa using this),hs0];rfl
   ·have:=Kb (P:=P) hr
    rw[hl]at this;rw[run_bytesToString w b n c (s.data.toList.map fun b=>((b.toNat:Nat):Int)) (by rw[this,pR];rfl),Fn]
    cases s;simp[ByteArray.empty,ByteArray.emptyWithCapacity];try rfl
 ·exact hv.elim
theorem Mw{u:TypeId}{cs:Array Value}{off:Nat}{K:RK}{h:af}(hu:∃d,P.underlying u=some d)(hi:∃i,P.info? u=some i)
  (hv:bif vJ P u then K(.agg((cs.toList.drop off).take(bX P u)).toArray) none else(match cs.toList[off]? with|some v=>K v none|none=>False)):Yv P(part u cs off) K h:=by
 obtain⟨i,hi⟩:=hi;cases ha:vJ P u with
 |true=>
  rw[ha]at hv;refine.of_pure hv fun w=>?_
  have hs:(sizeOf u).run P w=.ok(bX P u) w:=by simp[sizeOf,cO hi,bX,hi]
  simp only[part,Sem.run_bind,vI hi hu,aG,ha,if_true,hs,Sem.run_pure];congr 2
  apply df;simp[fp]
 |false=>
  rw[ha]at hv;simp only[cond_false]at hv;cases hc:cs.toList[off]? with
  |none=>rw[hc]at hv;exact hv.elim
  |some v=>
   rw[hc]at hv;refine.of_pure hv fun w=>?_
   have hc':cs[off]?=some v:=by simpa using hc
   simp only[part,Sem.run_bind,vI hi hu,aG,ha,eZ,if_false,hc',Sem.run_pure]
def wt(P:Program)(v:Option Value)(d y n:Nat):Prop:=
 match v with
 |some x=>∀c w,(Instr.sliceBound x y c).run P w=.ok n w
 |none=>n=d
theorem mT{v:Option Value}{d y:Nat}{K:Nat→Prop}(hv:Rg v d y K):∃n,K n∧wt P v d y n:=by
 unfold Rg at hv;split at hv
 ·exact⟨d,hv,rfl⟩
 ·rename_i k i
  obtain⟨⟨h0,h1⟩,hk⟩:=hv;refine⟨i.toNat,hk,fun c w=>?_⟩
  simp[Instr.sliceBound,asIntOf,h0,h1]
 ·exact hv.elim
theorem p6{isS:Bool}{len cap n l:Nat}{lo hi:Option Value}(hn:wt P hi len cap n)(hl:wt P lo 0 n l)(w:World):
  (Instr.sliceBounds isS len cap lo hi none).run P w=.ok (l,n,cap) w:=by
 cases hi with
 |none=>
  cases lo with
  |none=>simp only[wt]at hn hl;subst hn;subst hl;simp[Instr.sliceBounds]
  |some lo=>simp only[wt]at hn hl;subst hn;simp[Instr.sliceBounds,hl]
 |some hi=>
  cases lo with
  |none=>simp only[wt]at hn hl;subst hl;simp[Instr.sliceBounds,hn]
  |some lo=>simp only[wt]at hn hl;simp[Instr.sliceBounds,hn,hl]
theorem BF{isS:Bool}{len cap n l m:Nat}{lo:Option Value}{hi mx:Value}(hm:wt P(some mx) 0 cap m)(hn:wt P(some hi) 0 m n)(hl:wt P lo 0 n l)(w:World):
  (Instr.sliceBounds isS len cap lo (some hi) (some mx)).run P w=.ok (l,n,m) w:=by
 cases lo with
 |none=>simp only[wt]at hm hn hl;subst hl;simp[Instr.sliceBounds,hm,hn]
 |some lo=>simp only[wt]at hm hn hl;simp[Instr.sliceBounds,hm,hn,hl]
theorem yx(a:Option Addr)(l m size:Nat):(if m=l then a else a.map (·.add (l*size)))=aP a l m size:=by
 unfold aP;split
 ·rfl
 ·congr 1;funext x;rw[uk]
theorem p9{t:TypeId}{K:Prop}(h:QF P t K):K∧∀w,(sizeOf t).run P w=.ok (bX P t) w:=by
 unfold QF at h;cases hi:P.info? t with
 |none=>rw[hi]at h;exact h.elim
 |some i=>rw[hi]at h;exact⟨h,fun w=>by simp[sizeOf,cO hi,bX,hi]⟩
theorem Iy{t:TypeId}{x:Value}{f:Nat}{K:RK}{h:af}(hv:Ml P t x f K):Yv P (Instr.field t x f) K h:=by
 unfold Ml at hv;split at hv
 ·rename_i u off cs hf
  obtain⟨fs,g,hu,hg,rfl,rfl⟩:=wR hf;cases hb:((P.underlying g.type).isSome&&(P.info? g.type).isSome)with
  |false=>rw[hb]at hv;exact hv.elim
  |true=>
   rw[hb]at hv;simp only[bd,hJ]at hb;obtain⟨v,S,hk,hS,hr⟩:=Mw (cs:=cs) (off:=g.offset) (h:=h) hb.1 hb.2 hv;refine⟨v,S,hk,hS,fun w hw=>?_⟩
   have:=hr w hw;simp only[Instr.field,Sem.run_bind,aE hu,aG,hg,asAgg,Sem.run_pure,this]
 ·exact hv.elim
theorem BO{t:TypeId}{x i:Value}{K:RK}{h:af}(hv:yG P t x i K):Yv P (Instr.indexAt t x i) K h:=by
 unfold yG at hv;split at hv
 ·rename_i n e a k i hu
  obtain⟨⟨⟨h0,h1⟩,hk⟩,hz⟩:=p9 hv;refine.of_pure hk fun w=>?_
  simp[Instr.indexAt,asIntOf,aE hu,Instr.sureAddr,h0,h1,hz,uk]
 ·rename_i e b len cap k i hu
  obtain⟨⟨⟨h0,h1⟩,a,rfl,hk⟩,hz⟩:=p9 hv;refine.of_pure hk fun w=>?_
  simp[Instr.indexAt,asIntOf,aE hu,h0,h1,hz,uk]
 ·exact hv.elim
theorem Ix{t:TypeId}{x i:Value}{K:RK}{h:af}(hv:Mk P t x i K):Yv P (Instr.index t x i) K h:=by
 unfold Mk at hv;split at hv
 ·rename_i s k i hu
  obtain⟨b,h0,hb,hk⟩:=hv;refine.of_pure hk fun w=>?_
  simp[Instr.index,asIntOf,aE hu,h0,hb]
 ·exact hv.elim
theorem Iu{t:TypeId}{x:Value}{lo hi mx:Option Value}{K:RK}{h:af}(hv:Mi P t x lo hi mx K):Yv P (Instr.sliceAt t x lo hi mx) K h:=by
 unfold Mi at hv;split at hv
 ·rename_i s hu
  cases mx with
  |some _=>exact hv.elim
  |none=>
   obtain⟨n,hv,hn⟩:=mT (P:=P) hv;obtain⟨l,hv,hl⟩:=mT (P:=P) hv;refine.of_pure hv fun w=>?_
   simp[Instr.sliceAt,Instr.slice,aE hu,p6 hn hl]
 ·rename_i e a len cap hu
  obtain⟨hv,hz⟩:=p9 hv;cases mx with
  |none=>
   obtain⟨n,hv,hn⟩:=mT (P:=P) hv;obtain⟨l,hv,hl⟩:=mT (P:=P) hv;refine.of_pure hv fun w=>?_
   simp[Instr.sliceAt,Instr.slice,aE hu,p6 hn hl,hz,yx]
  |some m=>
   cases hi with
   |none=>exact hv.elim
   |some hi=>
    obtain⟨m',hv,hm⟩:=mT (P:=P) hv;obtain⟨n,hv,hn⟩:=mT (P:=P) hv;obtain⟨l,hv,hl⟩:=mT (P:=P) hv;refine.of_pure hv fun w=>?_
    simp[Instr.sliceAt,Instr.slice,aE hu,BF hm hn hl,hz,yx]
 ·rename_i n e a hu
  obtain⟨hv,hz⟩:=p9 hv;cases mx with
  |some _=>exact hv.elim
  |none=>
   obtain⟨m,hv,hn⟩:=mT (P:=P) hv;obtain⟨l,hv,hl⟩:=mT (P:=P) hv;refine.of_pure hv fun w=>?_
   have ha:(some (if n=l then a else a.add (l*bX P e)))=aP (some a) l n (bX P e):=by
    rw[←yx];split<;>rfl
   simp[Instr.sliceAt,aE hu,Instr.sureAddr,p6 hn hl,hz,ha]
 ·exact hv.elim
def pz(d:TypeDesc)(c:CK):Prop:=(∃i,d=.int i∧c=.int i)∨(d=.string∧c=.str)∨(d=.bool∧c=.bool)
theorem wL{t:TypeId}{c:CK}{e:TypeId}(h:KH P t=some(c,e)):∃k d,P.underlying t=some (.map k e)∧P.underlying k=some d∧pz d c:=by
 unfold KH at h;split at h
 ·rename_i k e' hu
  split at h
  ·rename_i i hk
   simp only[bm.injEq,rN.injEq]at h;obtain⟨rfl,rfl⟩:=h;exact⟨k,_,hu,hk,.inl ⟨i,rfl,rfl⟩⟩
  ·rename_i hk
   simp only[bm.injEq,rN.injEq]at h;obtain⟨rfl,rfl⟩:=h;exact⟨k,_,hu,hk,.inr (.inl ⟨rfl,rfl⟩)⟩
  ·rename_i hk
   simp only[bm.injEq,rN.injEq]at h;obtain⟨rfl,rfl⟩:=h;exact⟨k,_,hu,hk,.inr (.inr ⟨rfl,rfl⟩)⟩
  ·cases h
 ·cases h
theorem CQ{d:TypeDesc}{c:CK}(hd:pz d c)(x y:c.den):Instr.sameNow d (c.enc x) (c.enc y)=some (ii (c.enc x) (c.enc y)):=by
 rcases hd with⟨i,rfl,rfl⟩|⟨rfl,rfl⟩|⟨rfl,rfl⟩
 ·simp[Instr.sameNow,CK.enc,ii]
 ·simp[Instr.sameNow,CK.enc,ii]
 ·simp[Instr.sameNow,CK.enc,ii]
theorem Dd{d:TypeDesc}{c:CK}(hd:pz d c)(x:c.den):∀(es:List MapEntry) (i:Nat),EY c es→
  ∃r,Instr.findNow d (c.enc x) es i=some r∧r.map (·.2)=K5 (c.enc x) es
 | [],i,_=>⟨none,rfl,rfl⟩
 |e::es,i,h=>by
  obtain⟨y,hy⟩:=h e (by simp);have hs:=CQ hd x y;rw[←hy]at hs;simp only[Instr.findNow,K5];cases hb:ii (c.enc x) e.key with
  |true=>rw[hs,hb];exact⟨some (i,e.val),rfl,rfl⟩
  |false=>rw[hs,hb];exact Dd hd x es (i+1)fun e' he'=>h e' (by simp[he'])
theorem Lf{empty:Bool}{k:TypeId}{d:TypeDesc}{c:CK}(hd:pz d c)(hu:P.underlying k=some d)(v:Value)(n:Nat)(w:World):(Instr.checkKey empty (n+1) k v).run P w=.ok () w:=by
 unfold Instr.checkKey;simp only[Sem.run_bind,aE hu,aG];rcases hd with⟨i,rfl,rfl⟩|⟨rfl,rfl⟩|⟨rfl,rfl⟩<;>rfl
theorem vu{k:TypeId}{d:TypeDesc}{c:CK}(hd:pz d c)(hu:P.underlying k=some d)(x:c.den){es:List MapEntry}(h:EY c es)(w:World):
  ∃r,(Instr.findKey k (c.enc x) es).run P w=.ok r w∧Instr.findNow d (c.enc x) es 0=some r∧r.map (·.2)=K5 (c.enc x) es:=by
 obtain⟨r,hr,hm⟩:=Dd hd x es 0 h;refine⟨r,?_,hr,hm⟩;simp only[Instr.findKey,Sem.run_bind,aE hu,aG,hr,Sem.run_pure]
theorem mh{w:World}{r:Nat}{es:Array MapEntry}{clock:Nat}(h:w.heap[r]?=some(.map es clock)):(getObj r).run P w=.ok(.map es clock) w:=by
 simp only[getObj,Sem.run,h]
theorem nS{empty:Bool}{k:TypeId}{d:TypeDesc}{c:CK}(hd:pz d c)(hu:P.underlying k=some d)(v:Value)(w:World):(Instr.checkKey empty 10000 k v).run P w=.ok () w:=
 Lf hd hu v 9999 w
theorem MD{t:TypeId}{c:CK}{e k:TypeId}{d:TypeDesc}(hu:P.underlying t=some(.map k e))(hk:P.underlying k=some d)(hd:pz d c){m:Option Nat}{x:c.den}{z v:Value}{b ok:Bool}{w:World}
  (hz:(zeroValue e).run P w=.ok z w)(hm:Nf c z w.heap m(c.enc x) v b):
  (Instr.lookup t (.map m) (c.enc x) ok).run P w=.ok (bif ok then.tuple #[v,.bool b]else v) w:=by
 cases m with
 |none=>
  obtain⟨rfl,rfl⟩:=hm;simp only[Instr.lookup,Sem.run_bind,aE hu,aG,Sem.run_pure,nS hd hk];obtain⟨r,h1,h2,h3⟩:=vu (P:=P) hd hk x (es:= []) (fun _ h=>by cases h) w
  simp only[Instr.findNow,bm.injEq]at h2;subst h2;simp[h1,hz]
 |some r=>
  obtain⟨es,clock,hb,hks,hv⟩:=hm;simp only[Instr.lookup,Sem.run_bind,aE hu,aG,mh hb,Sem.run_pure,nS hd hk];obtain⟨r,h1,h2,h3⟩:=vu (P:=P) hd hk x hks w;simp only[h1,aG];cases r with
  |none=>
   simp only[Option.map_none]at h3;rw[←h3]at hv;obtain⟨rfl,rfl⟩:=hv;simp[hz]
  |some r=>
   simp only[iw]at h3;rw[←h3]at hv;obtain⟨rfl,rfl⟩:=hv;cases ok<;>rfl
theorem fa{e:TypeId}{z:Value}(h:xV P e=some z)(w:World):(zeroValue e).run P w=.ok z w:=by
 unfold xV at h;cases hi:P.info? e with
 |none=>rw[hi]at h;cases h
 |some i=>rw[hi]at h;simp only at h;simp[zeroValue,cO hi,h]
theorem Gb{t:TypeId}{x k:Value}{ok:Bool}{K:RK}{h:af}(hv:Iw P t x k ok K h):Yv P (Instr.lookup t x k ok) K h:=by
 unfold Iw at hv;split at hv
 ·rename_i c e m hc
  obtain⟨kt,d,hu,hk,hd⟩:=wL hc;obtain⟨kx,rfl,hv⟩:=CK.dec_sound hv;split at hv
  ·rename_i ek z hek hz
   obtain⟨y,b,hm,hK⟩:=hv;exact⟨_,_,hK,hm,fun w hw=>MD hu hk hd (fa hz w) hw⟩
  ·exact hv.elim
 ·exact hv.elim
theorem Mj{t:TypeId}{x:Value}{ats:Array TypeId}{ty:TypeId}{K:RK}{h:af}(hat:ats[0]?=some t)(hv:Ta P t x K h):Yv P(Builtin.len_ ats ty #[x]) K h:=by
 unfold Ta at hv;split at hv
 ·rename_i s hu
  exact.of_pure hv fun w=>by simp[Builtin.len_,hat,aE hu,goInt]
 ·rename_i n e _ hu
  exact.of_pure hv fun w=>by simp[Builtin.len_,hat,aE hu,goInt]
 ·rename_i e b n c hu
  exact.of_pure hv fun w=>by simp[Builtin.len_,hat,aE hu,goInt]
 ·rename_i k e m hu
  obtain⟨n,hm,hk⟩:=hv;refine⟨_,_,hk,hm,fun w hw=>?_⟩
  cases m with
  |none=>
   have:n=0:=hw;subst this;simp[Builtin.len_,hat,aE hu,goInt]
  |some r=>
   obtain⟨es,clock,hb,rfl⟩:=hw;simp[Builtin.len_,hat,aE hu,goInt,mh hb]
 ·exact hv.elim
theorem Mm{t:TypeId}{x:Value}{ats:Array TypeId}{ty:TypeId}{K:RK}{h:af}(hat:ats[0]?=some t)(hv:Tb P t x K):Yv P(Builtin.cap_ ats ty #[x]) K h:=by
 unfold Tb at hv;split at hv
 ·rename_i e b n c hu
  exact.of_pure hv fun w=>by simp[Builtin.cap_,hat,aE hu,goInt]
 ·exact hv.elim
theorem zV{mx:Bool}{k:IntKind}:∀{vs:List Value} {a:Int} {f:Value→Prop},IJ mx k a vs f→∃v,f v∧∀w,(vs.foldlM (bif mx then Builtin.max2 else Builtin.min2) (Value.int k a):Sem Value).run P w=.ok v w
 | [],a,f,h=>⟨_,h,fun w=>by simp⟩
 | .int k' b::vs,a,f,h=>by
  simp only[IJ]at h;cases hk:IQ k' k with
  |false=>rw[hk]at h;exact h.elim
  |true=>
   rw[hk]at h;have:=Ag hk;subst this;obtain⟨v,hf,hr⟩:=zV h;refine⟨v,hf,fun w=>?_⟩
   rw[←hr w];cases mx<;>simp[List.foldlM_cons,Builtin.max2,Builtin.min2]
theorem ya{mx:Bool}{vs:List Value}{f:Value→Prop}{ats:Array TypeId}{ty:TypeId}(h:D6 mx vs f):∃v,f v∧∀w,(bif mx then Builtin.max_ ats ty vs.toArray else Builtin.min_ ats ty vs.toArray).run P w=.ok v w:=by
 unfold D6 at h;split at h
 ·obtain⟨v,hf,hr⟩:=zV (P:=P) h
  refine⟨v,hf,fun w=>?_⟩
  have:=hr w;cases mx<;>simpa[Builtin.max_,Builtin.min_]using this
 ·exact h.elim
theorem Pn{a:Addr}{e:MapEntry}{w:World}(h0:a.off=0)(h:Ng w.heap a.block e):(Instr.entry (.pointer (some a))).run P w=.ok (.tuple #[e.key,e.val]) w:=by
 obtain⟨m,since,seen,last,stamp,es,hi,hb,hm,hf⟩:=h;obtain⟨b,off,spot⟩:=a;simp only at h0 hi;subst h0;have g1:(getObj b).run P w=.ok (.mapIter (some m) since seen last) w:=by simp only[getObj,Sem.run,hi]
 simp[Instr.entry,g1,hb,mh hm,hf]
def GD:DV→Value→Prop
 | .t,v=>v=.bool true
 | .f,v=>v=.bool false
 | .u,v=>v=undef
 | .x,_=>True
def DecOk(d:u3)(r:cD):Prop:=∀t,ru d t=.x∨∃v,ku r t=some v∧GD (ru d t) v
theorem DecOk.at{d:u3}{r:cD}(h:DecOk d r){t:Nat}{v:Value}(hv:ku r t=some v):GD (ru d t) v:=by
 rcases h t with e|⟨u,hu,hk⟩
 ·rw[e];trivial
 ·rw[hv]at hu;cases hu;exact hk
theorem uG{d:u3}{r:cD}(hd:DecOk d r){o:Operand}{v:Value}(h:dA r o=some v):GD (Ao d o) v:=by
 cases o with
 |tmp t=>exact hd.at h
 |const c=>
  simp[dA]at h;subst h;cases c with
  |bool b=>cases b<;>exact rfl
  |_=>trivial
 |global g=>trivial
 |func f=>trivial
theorem CZ{t:TypeId}(h:qE P t=true):∃d,P.underlying t=some d∧∀m,d≠ .interface m:=by
 unfold qE at h;split at h
 ·cases h
 ·rename_i d hd;exact⟨_,hd,fun m e=>by subst e;simp_all⟩
 ·cases h
theorem zX{t:TypeId}{v:Value}(h:qE P t=true)(w:World):(Instr.makeInterface t v).run P w=.ok (.iface t v) w:=by
 obtain⟨d,hd,hn⟩:=CZ h;simp only[Instr.makeInterface,Sem.run_bind,aE hd,aG];cases d<;>first|exact absurd rfl (hn _)|rfl
theorem En{t u:TypeId}{v:Value}(h:qE P t=true)(w:World):(Instr.typeAssert (.iface t v) u t false).run P w=.ok v w:=by
 obtain⟨d,hd,hn⟩:=CZ h;simp only[Instr.typeAssert,Sem.run_bind,aE hd,aG];cases d<;>first|exact absurd rfl (hn _)|(simp[Sem.run_pure])
theorem kr{t:TypeId}{z:List Value}(h:qW P t=some z):∃v,xV P t=some v∧v.cells.toList=z:=by
 unfold qW at h;cases hz:xV P t with
 |none=>rw[hz]at h;cases h
 |some v=>rw[hz]at h;simp only[bm.injEq]at h;exact⟨v,rfl,h⟩
theorem rD{t:TypeId}{v:Value}(h:xV P t=some v):∃i,P.info? t=some i∧i.zero=some v:=by
 unfold xV at h;cases hi:P.info? t with
 |none=>rw[hi]at h;cases h
 |some i=>rw[hi]at h;exact⟨i,rfl,h⟩
theorem Q3{A B:List Value}{x:Value}{m:Nat}(h:A.length=m):(A++x::B).take (m+1)=A++ [x]:=by
 subst h;rw[List.take_append,aZ (by omega),show A.length+1-A.length=1 by omega];rfl
theorem Q5{A B:List Value}{x:Value}{m n:Nat}(h:A.length=m):(A++x::B).drop (m+1+n)=B.drop n:=by
 subst h;rw[List.drop_append,List.drop_eq_nil_of_le (by omega),show A.length+1+n-A.length=n+1 by omega];rfl
theorem K3(off:Nat):∀(xs:List Value) (k:Nat) (arr:Array Value),off+k+xs.length≤arr.size→
  (xs.zipIdx k).foldl (fun cs (c,j)=>cs.setIfInBounds (off+j) c) arr=(Kp arr.toList (off+k) xs).toArray
 | [],k,arr,_=>by simp[Kp]
 |x::xs,k,arr,h=>by
  simp only[ao]at h;simp only[List.zipIdx_cons,ix];rw[K3 off xs (k+1) _ (by simp;omega)];have hm:off+k<arr.toList.length:=by simp;omega
  have hs:arr.toList.set (off+k) x=arr.toList.take (off+k)++x::arr.toList.drop (off+k+1):=by
   rw[List.set_eq_take_append_cons_drop,if_pos hm]
  have hl:(arr.toList.take (off+k)).length=off+k:=by simp;omega
  congr 1
  unfold Kp;rw[Array.toList_setIfInBounds,hs,←uq,Q3 hl,Q5 hl];simp only[List.append_assoc,dy,List.nil_append,ao,List.drop_drop];rw[show off+k+1+xs.length=off+k+(xs.length+1)by omega]
theorem th{place:Nat→Option(Nat×Nat)}:∀(parts:List (Nat×Value)) (cs cs':List Value),De place cs parts=some cs'→Instr.fill place cs.toArray parts=some cs'.toArray
 | [],cs,cs',h=>by simp only[De,bm.injEq]at h;subst h;rfl
 |(i,v)::rest,cs,cs',h=>by
  simp only[De]at h;cases hp:place i with
  |none=>rw[hp]at h;cases h
  |some os=>
   obtain⟨off,size⟩:=os;rw[hp]at h;simp only at h;cases hb:(bM v.cells.toList.length size&&Nat.ble (off+v.cells.toList.length) cs.length)with
   |false=>rw[hb]at h;cases h
   |true=>
    rw[hb]at h;simp only[bd]at hb;have h1:=bc hb.1;have h2:=ae hb.2;have ih:=th rest _ _ h;have h3:v.cells.size=size:=by simpa using h1
    have h4:off+v.cells.size≤cs.length:=by simpa using h2
    have hf:Array.foldl (fun cs x=>cs.setIfInBounds (off+x.2) x.1) cs.toArray v.cells.zipIdx=(Kp cs off v.cells.toList).toArray:=by
     have:=K3 off v.cells.toList 0 cs.toArray (by simpa using h4);simp only[iP]at this;rw[←this,←Array.foldl_toList];congr 1
     simp[Array.toList_zipIdx]
    simp only[Instr.fill,hp];rw[if_neg (by simp[h3];omega)];simp only[hf];exact ih
theorem ph{N:Nat}{r:cD}{a:Act}(h:Agree N r a):∀{ps:List (Nat×Operand)} {vs:List (Nat×Value)},qD r ps=some vs→ps.map (fun p=>(p.1,a.eval p.2))=vs
 | [],vs,hv=>by simp[qD]at hv;subst hv;rfl
 |(i,o)::ps,vs,hv=>by
  simp only[qD]at hv;cases ho:dA r o with
  |none=>simp[ho]at hv
  |some v=>cases hos:qD r ps with
   |none=>simp[ho,hos]at hv
   |some us=>simp[ho,hos]at hv;subst hv;simp[mn h ho,ph h hos]
theorem qH{t:TypeId}(h:xE P t=true)(w:World):(sizeOf t).run P w=.ok (bX P t) w:=by
 unfold xE at h;cases hi:P.info? t with
 |none=>rw[hi]at h;cases h
 |some i=>simp[sizeOf,cO hi,bX,hi]
theorem EP(w:World):∀l:List Field,Ay P l=true→(l.mapM fun f:Field=>((do pure (f.offset,←sizeOf f.type)):Sem (Nat×Nat))).run P w=.ok (l.map fun f:Field=>(f.offset,bX P f.type)) w
 | [],_=>rfl
 |f::l,h=>by
  simp only[Ay]at h;cases hf:xE P f.type with
  |false=>rw[hf]at h;cases h
  |true=>
   rw[hf]at h;rw[List.mapM_cons];simp only[Sem.run_bind,qH hf,aG,Sem.run_pure,EP w l h,fO]
theorem Ax{t:TypeId}{ps:Array(Nat×Value)}{cs:List Value}(hb:Je P t ps.toList=some cs)(w:World):
  (Instr.build t ps).run P w=.ok (.agg cs.toArray) w:=by
 unfold Je at hb;split at hb
 ·rename_i fs z hu hz
  obtain⟨v,hz,hv⟩:=kr hz;cases ha:Ay P fs.toList with
  |false=>rw[ha]at hb;cases hb
  |true=>
   rw[ha]at hb;have hfs:(fs.mapM fun f:Field=>((do pure (f.offset,←sizeOf f.type)):Sem (Nat×Nat))).run P w=.ok (fs.map fun f:Field=>(f.offset,bX P f.type)) w:=by
    rw[Array.mapM_eq_mapM_toList];simp only[Sem.run_map,EP w fs.toList ha,aG];congr 1
    apply df;simp
   have hf:=th _ _ _ hb;have hplace:(fun i:Nat=>(fs.map fun f:Field=>(f.offset,bX P f.type))[i]?)=Mv P fs.toList:=by
    funext i;unfold Mv;rw[Array.getElem?_map,bv];cases fs[i]?<;>rfl
   have hv':v.cells=z.toArray:=by rw[←hv]
   rw[cond_true]at hb;rw[←hplace]at hf;simp only[Instr.build,Sem.run_bind,fa hz,aG,aE hu,hfs,hv',hf,Sem.run_pure]
 ·rename_i n e z hu hz
  obtain⟨v,hz,hv⟩:=kr hz;cases ha:xE P e with
  |false=>rw[ha]at hb;cases hb
  |true=>
   rw[ha]at hb;have hf:=th _ _ _ hb;have hv':v.cells=z.toArray:=by rw[←hv]
   simp only[Instr.build,Sem.run_bind,fa hz,aG,aE hu,qH ha,hv',hf,Sem.run_pure]
 ·cases hb
theorem Hg{ek:Option(Kind×Kind)}{o:Oper}{r:cD}{K:RK}{h:af}{N:Nat}{a:Act}(ha:Agree N r a)(hq:BN P ek o.op r K h)(d:u3)(hd:DecOk d r):
  ∃v S,K v S∧RF S h∧GD (JM d o.op) v∧∀w:World,RF S w.heap→(execOp a.eval o).run P w=.ok (.value v) w:=by
 have ev:∀{x:Operand} {v:Value},dA r x=some v→a.eval x=v:=fun h=>mn ha h
 have fin:∀{s:Sem Value},Yv P s K h→JM d o.op=.x→(∀w,(execOp a.eval o).run P w=(do pure (Next.value (←s)):Sem Next).run P w)→
   ∃v S,K v S∧RF S h∧GD (JM d o.op) v∧∀w:World,RF S w.heap→(execOp a.eval o).run P w=.ok (.value v) w:=by
  rintro s ⟨v,S,hk,hS,hr⟩ hx he;exact⟨v,S,hk,hS,by rw[hx];trivial,fun w hw=>by rw[he w];exact jt (hr w hw)⟩
 obtain⟨dst,op,type,oy,after,guard⟩:=o;simp only at hq fin⊢;cases op with
 |move x=>
  simp only[BN]at hq;split at hq
  ·rename_i v hv
   exact⟨v,none,hq,trivial,uG hd hv,fun w _=>by simp[execOp,ev hv]⟩
  ·exact hq.elim
 |assign x=>
  simp only[BN]at hq;split at hq
  ·rename_i v hv
   exact⟨v,none,hq,trivial,uG hd hv,fun w _=>by simp[execOp,ev hv]⟩
  ·exact hq.elim
 |pick c x y=>
  simp only[BN]at hq;split at hq
  ·rename_i vc va vb hc hx hy
   unfold ST at hq;split at hq
   ·rename_i cb
    have hco:=uG hd hc;have hxo:=uG hd hx;have hyo:=uG hd hy;have he:∀w,(execOp a.eval ⟨dst,.pick c x y,type,oy,after,guard⟩).run P w=.ok (.value (if cb then va else vb)) w:=fun w=>by
     simp[execOp,ev hc,ev hx,ev hy,asBool]
    have hdv:GD (JM d (.pick c x y)) (if cb then va else vb):=by
     simp only[JM];cases hcd:Ao d c with
     |t=>rw[hcd]at hco;have:cb=true:=by simpa[GD]using hco
        subst this;exact hxo
     |f=>rw[hcd]at hco;have:cb=false:=by simpa[GD]using hco
        subst this;exact hyo
     |u=>trivial
     |x=>trivial
    split at hq
    ·rename_i bx by'
     have e1:(if cb=true then Value.bool bx else Value.bool by')=.bool (bif cb then bx else by'):=by cases cb<;>rfl
     rw[e1]at hdv;exact⟨_,none,hq,trivial,hdv,fun w _=>by rw[he w,e1]⟩
    ·cases cb
     ·exact⟨_,none,hq,trivial,hdv,fun w _=>he w⟩
     ·exact⟨_,none,hq,trivial,hdv,fun w _=>he w⟩
   ·exact hq.elim
  ·exact hq.elim
 |load t x=>
  simp only[BN]at hq;split at hq
  ·rename_i v hv
   obtain⟨u,S,hk,hS,hr⟩:=CU hq;exact fin ⟨u,some S,hk,hS,hr⟩ rfl fun w=>by simp only[execOp,ev hv]
  ·exact hq.elim
 |nilCheck x=>
  simp only[BN]at hq;split at hq
  ·rename_i p hv
   obtain⟨b,rfl,hk⟩:=hq;exact⟨_,none,hk,trivial,trivial,fun w _=>by simp[execOp,ev hv]⟩
  ·exact hq.elim
 |binOp op t x y yt=>
  simp only[BN]at hq;split at hq
  ·rename_i v u hv hu
   obtain⟨v',S,hk,hS,hr⟩:=Mq (x:=x) (y:=y) hq;refine⟨v',S,hk,hS,trivial,fun w hw=>?_⟩
   simp only[execOp,ev hv,ev hu];exact jt (hr w hw)
  ·rename_i v u hna hv hu
   have go:(∀c d,v=.agg c→u=.agg d→False)∧(v=.nilIface→u=.nilIface→False)∧Yv P (binOp op t v u) K h:=by
    split at hq
    ·exact ES (neg:=false) hq
    ·exact ES (neg:=true) hq
    ·exact Mn hq
   obtain⟨h1,h2,v',S,hk,hS,hr⟩:=go;refine⟨v',S,hk,hS,trivial,fun w hw=>?_⟩
   simp only[execOp,ev hv,ev hu];simp[MV op t x y v u h1 h2 w,hr w hw]
  ·exact hq.elim
 |unOp op t x=>
  simp only[BN]at hq;split at hq
  ·rename_i v hv
   obtain⟨u,S,hk,hS,hr⟩:=O1 (P:=P) (h:=h) hq;refine⟨u,S,hk,hS,?_,fun w hw=>by simp only[execOp,ev hv];exact jt (hr w hw)⟩
   have hvo:=uG hd hv;cases op<;>try trivial
   simp only[JM];have hrun:=hr {(default:World)with heap:=h} hS;cases hx:Ao d x with
   |t=>rw[hx]at hvo;have:v=.bool true:=hvo
       subst this;simp[Op.unary]at hrun;exact hrun.symm
   |f=>rw[hx]at hvo;have:v=.bool false:=hvo
       subst this;simp[Op.unary]at hrun;exact hrun.symm
   |u=>trivial
   |x=>trivial
  ·exact hq.elim
 |convert s t x=>
  simp only[BN]at hq;split at hq
  ·rename_i v hv
   exact fin (Kl hq) rfl fun w=>by simp only[execOp,ev hv]
  ·exact hq.elim
 |extract x i=>
  simp only[BN]at hq;split at hq
  ·rename_i vs hv
   split at hq
   ·rename_i u hu
    have hu':vs[i]?=some u:=by simpa using hu
    exact⟨u,none,hq,trivial,trivial,fun w _=>by simp[execOp,ev hv,Instr.extract,hu']⟩
   ·exact hq.elim
  ·exact hq.elim
 |fieldAddr t x f=>
  simp only[BN]at hq;split at hq
  ·rename_i b u off hv hf
   exact fin (DD hf hq) rfl fun w=>by simp only[execOp,ev hv]
  ·exact hq.elim
 |field t x f=>
  simp only[BN]at hq;split at hq
  ·rename_i v hv
   exact fin (Iy hq) rfl fun w=>by simp only[execOp,ev hv]
  ·exact hq.elim
 |indexAddr t x i=>
  simp only[BN]at hq;split at hq
  ·rename_i v u hv hu
   exact fin (BO hq) rfl fun w=>by simp only[execOp,ev hv,ev hu]
  ·exact hq.elim
 |index t x i=>
  simp only[BN]at hq;split at hq
  ·rename_i v u hv hu
   exact fin (Ix hq) rfl fun w=>by simp only[execOp,ev hv,ev hu]
  ·exact hq.elim
 |slice t x lo hi mx=>
  simp only[BN]at hq;split at hq
  ·rename_i v l h' m hv hl hh hm
   have ov:∀{x:Option Operand} {v:Option Value},Hm r x=some v→x.map a.eval=v:=by
    intro x v hx;cases x with
    |none=>simp[Hm]at hx;subst hx;rfl
    |some x=>
     simp only[Hm]at hx;cases he:dA r x with
     |none=>simp[he]at hx
     |some u=>simp[he]at hx;subst hx;simp[ev he]
   exact fin (Iu hq) rfl fun w=>by simp only[execOp,ev hv,ov hl,ov hh,ov hm]
  ·exact hq.elim
 |lookup t x k ok=>
  simp only[BN]at hq;split at hq
  ·rename_i v u hv hu
   exact fin (Gb hq) rfl fun w=>by simp only[execOp,ev hv,ev hu]
  ·exact hq.elim
 |makeInterface t x=>
  simp only[BN]at hq;split at hq
  ·rename_i v hv
   cases hb:qE P t with
   |false=>rw[hb]at hq;exact hq.elim
   |true=>
    rw[hb,cond_true]at hq;exact⟨_,none,hq,trivial,trivial,fun w _=>by simp only[execOp,ev hv];exact jt (zX hb w)⟩
  ·exact hq.elim
 |typeAssert x u t ok=>
  simp only[BN]at hq;split at hq
  ·rename_i v hv
   cases ok with
   |true=>exact hq.elim
   |false=>
    rw[cond_false]at hq;unfold Ob at hq;cases hb:qE P t with
    |false=>rw[hb]at hq;exact hq.elim
    |true=>
     rw[hb,cond_true]at hq;split at hq
     ·obtain⟨y,rfl,hk⟩:=hq
      exact⟨_,none,hk,trivial,trivial,fun w _=>by simp only[execOp,ev hv];exact jt (En hb w)⟩
     ·exact hq.elim
  ·exact hq.elim
 |makeFunc fn first cap=>
  simp only[BN]at hq;split at hq
  ·rename_i vs us hv hu
   have e1:=pf ha hv;have e2:=pf ha hu;refine⟨_,none,hq,trivial,trivial,fun w _=>?_⟩
   have f1:first.map a.eval=vs.toArray:=by rw[←e1];apply df;simp
   have f2:cap.map a.eval=us.toArray:=by rw[←e2];apply df;simp
   simp[execOp,Instr.makeFunc,f1,f2]
  ·exact hq.elim
 |entry it=>
  simp only[BN]at hq;split at hq
  ·rename_i b kk vk hv
   obtain⟨h0,e,x,y,hi,hk,hy,hK⟩:=hq;refine⟨_,_,hK,hi,trivial,fun w hw=>?_⟩
   simp only[execOp,ev hv];refine jt ?_;rw[Pn h0 hw,hk,hy]
  ·exact hq.elim
 |call c=>
  simp only[BN]at hq;have er:∀{b:Builtin} {vs:List Value},c.callee=.builtin b→qY r c.args.toList=some vs→∃cs:Array Bool,∀w,(execOp a.eval ⟨dst,.call c,type,oy,after,guard⟩).run P w=
    (builtin b c.argTypes type cs vs.toArray).run P w:=by
   intro b vs hc hvs;have e1:=pf ha hvs;have f1:c.args.map a.eval=vs.toArray:=by rw[←e1];apply df;simp
   refine⟨c.args.map fun| .const _=>true|_=>false,fun w=>?_⟩
   simp[execOp,resolve,hc,f1,invoke];rfl
  split at hq
  ·rename_i v t hc hvs hat
   obtain⟨cs,er⟩:=er hc hvs;obtain⟨u,S,hk,hS,hr⟩:=Mj (ats:=c.argTypes) (ty:=type) (by rw[←bv,hat];rfl) hq;exact⟨u,S,hk,hS,trivial,fun w hw=>by rw[er w];simp only[builtin];exact jt (hr w hw)⟩
  ·rename_i v t hc hvs hat
   obtain⟨cs,er⟩:=er hc hvs;obtain⟨u,S,hk,hS,hr⟩:=Mm (h:=h) (ats:=c.argTypes) (ty:=type) (by rw[←bv,hat];rfl) hq;exact⟨u,S,hk,hS,trivial,fun w hw=>by rw[er w];simp only[builtin];exact jt (hr w hw)⟩
  ·rename_i vs hc hvs
   obtain⟨cs,er⟩:=er hc hvs;obtain⟨u,hk,hr⟩:=ya (P:=P) (ats:=c.argTypes) (ty:=type) hq;exact⟨u,none,hk,trivial,trivial,fun w _=>by rw[er w];simp only[builtin];exact jt (hr w)⟩
  ·rename_i vs hc hvs
   obtain⟨cs,er⟩:=er hc hvs;obtain⟨u,hk,hr⟩:=ya (P:=P) (ats:=c.argTypes) (ty:=type) hq;exact⟨u,none,hk,trivial,trivial,fun w _=>by rw[er w];simp only[builtin];exact jt (hr w)⟩
  ·exact hq.elim
 |build t ps=>
  simp only[BN]at hq;split at hq
  ·rename_i vs hvs
   split at hq
   ·rename_i cs hcs
    refine⟨_,none,hq,trivial,trivial,fun w _=>?_⟩
    have hp:(ps.map fun x=>(x.1,a.eval x.2))=vs.toArray:=by
     rw[←ph ha hvs];apply df;simp
    have he:=Ax (ps:=vs.toArray) (by simpa using hcs) w;simp only[execOp];rw[show(ps.map fun(i,x)=>(i,a.eval x))=vs.toArray from hp]
    exact jt he
   ·exact hq.elim
  ·exact hq.elim
 |_=>simp only[BN]at hq
end Go.Lift
namespace Go.Lift
open Go
variable {P:Program}
def Lj(P:Program)(s:Sem Next)(K:WK)(w:World):Prop:=
 (∃v w',s.run P w=.ok (.value v) w'∧Tame w w'∧K v w'.heap)∨
 (∃w',s.run P w=.ok .skip w'∧Tame w w'∧K undef w'.heap)∨
 (∃f args,s.run P w=.ok (.enter f args) w∧Calls P f args w fun e w'=>Tame w w'∧∃v,e=.returned v∧K v w'.heap)∨
 (∃l fn tmps assign body,s.run P w=.ok (.round l fn tmps assign body) w∧
  ∀(c:Frame) (cs:List Frame),∃b w',Tame w w'∧K (.bool b) w'.heap∧Steps P (lone (Frame.round l fn tmps assign body .normal) (c::cs) w) (lone (c.finish (.bool b)) cs w'))
def Wv(P:Program)(s:Sem Value)(K:WK)(w:World):Prop:=∃v w',s.run P w=.ok v w'∧Tame w w'∧K v w'.heap
theorem Wv.out{s:Sem Value}{K:WK}{w:World}(h:Wv P s K w):Lj P (do pure (Next.value (←s))) K w:=by
 obtain⟨v,w',hr,ht,hk⟩:=h;exact.inl ⟨v,w',jt hr,ht,hk⟩
def Wu(P:Program)(s:Sem Unit)(K:WK)(w:World):Prop:=∃w',s.run P w=.ok () w'∧Tame w w'∧K undef w'.heap
theorem Wu.out{s:Sem Unit}{K:WK}{w:World}(h:Wu P s K w):Lj P (do s;pure Next.skip) K w:=by
 obtain⟨w',hr,ht,hk⟩:=h;exact.inr (.inl ⟨w',Qq hr,ht,hk⟩)
def lS(w:World)(h:af):World:={w with heap:=h}
theorem eW(w:World)(h:af):Tame w (lS w h):=⟨rfl,rfl,rfl⟩
theorem kF(e:TypeId)(cs:Array Value)(w:World):(newRow e cs).run P w=.ok (ag w.heap) (lS w (hnew w.heap cs.toList e)):=by
 simp[newRow,newObj,Sem.run,ag,lS,hnew,bind,Sem.bind,pure]
theorem EF(o:Obj)(w:World):(newObj o).run P w=.ok w.heap.size (lS w (w.heap.push o)):=rfl
theorem Gi{h:af}{a b:Addr}(v:Value)(hne:a≠b):aN (hset h a v) b=aN h b:=
 World.cell?_setCell_other {(default:World)with heap:=h} a b v hne
theorem DC{h:af}{a:Addr}{u:Value}(v:Value)(hc:aN h a=some u):aN (hset h a v) a=some v:=
 World.cell?_setCell_same {(default:World)with heap:=h} a v hc
theorem IS{h:af}{a b:Addr}(v:Value):D9 (hset h a v) b=D9 h b:=
 World.frozen?_setCell {(default:World)with heap:=h} a b v
theorem Wr.hset{h:af}{a b:Addr}(v:Value)(hw:Wr h b):Wr (hset h a v) b:=by
 obtain⟨⟨u,hu⟩,hf⟩:=hw;refine⟨?_,by rw[IS];exact hf⟩
 by_cases e:a=b
 ·subst e;exact⟨v,DC v hu⟩
 ·exact⟨u,by rw[Gi v e];exact hu⟩
theorem Md{w:World}{a:Addr}{v:Value}(hv:∀cs,v≠ .agg cs)(hv':∀cs,v≠ .tuple cs)(hw:Wr w.heap a):(store a v).run P w=.ok () (lS w (hset w.heap a v)):=by
 obtain⟨⟨u,hu⟩,hf⟩:=hw;have hu':w.cell? a=some u:=hu;have hf':w.frozen? a=false:=hf;cases v<;>first|exact absurd rfl (hv _)|exact absurd rfl (hv' _)|(simp only[store,Sem.run,hu',hf'];rfl)
theorem IG{v:Value}{vs:List Value}(h:cf(v::vs)=true):(∀cs,v≠ .agg cs)∧(∀cs,v≠ .tuple cs)∧cf vs=true:=by
 simp only[cf,bd]at h;refine⟨fun cs e=>?_,fun cs e=>?_,h.2⟩<;>(subst e;exact absurd h.1 (by simp))
theorem rR{a:Addr}:∀(vs:List Value) (i:Nat) (w:World),cf vs=true→(∀j,j<vs.length→Wr w.heap (adr a (i+j)))→
  (storeCells a vs i).run P w=.ok () (lS w (aV w.heap a i vs))
 | [],i,w,_,_=>rfl
 |v::vs,i,w,h1,hw=>by
  obtain⟨n1,n2,h1⟩:=IG h1;have h0:=hw 0 (by simp);simp only[iP]at h0;have ha:a.add i=adr a i:=(uk a i).symm;simp only[storeCells,ha,Sem.run_bind,Md n1 n2 h0,aG];rw[rR vs (i+1) (lS w (hset w.heap (adr a i) v)) h1 fun j hj=>?_]
  ·rfl
  ·have:=hw (j+1) (by simp only[ao];omega)
   rw[show i+1+j=i+(j+1)by omega]
   exact this.hset v
theorem HG{a:Addr}(m:Nat):∀(vs:List Value) (i:Nat) (h:af),aV h (adr a m) i vs=aV h a (m+i) vs
 | [],_,_=>rfl
 |v::vs,i,h=>by
  simp only[aV];rw[HG m vs (i+1),AB];rfl
theorem Ib{t:TypeId}{a v:Value}{K:WK}{w:World}(hs:LT P t a v K w.heap):Wu P (Instr.storeAt t a v) K w:=by
 unfold LT at hs;split at hs
 ·rename_i a
  cases hb:(bM v.cells.toList.length (bX P t)&&cf v.cells.toList)with
  |false=>rw[hb]at hs;exact hs.elim
  |true=>
   rw[hb]at hs;simp only[bd]at hb;have hl:=bc hb.1;obtain⟨hs,hz⟩:=p9 hs;have hl':v.cells.size=bX P t:=by simpa using hl
   have go:(∀j,j<v.cells.toList.length→Wr w.heap (adr a (0+j)))→(Instr.storeAt t (.pointer (some a)) v).run P w=.ok () (lS w (aV w.heap a 0 v.cells.toList)):=by
    intro hw;have:=rR (P:=P) v.cells.toList 0 w hb.2 hw;simp[Instr.storeAt,Instr.sureAddr,storeVar,hz,hl',this]
   split at hs
   ·rename_i u hu
    obtain⟨hw,hk⟩:=hs;refine⟨_,go (fun j hj=>?_),eW _ _,?_⟩
    ·rw[hu]at hj;simp only[ao,List.length_nil]at hj
     obtain rfl:j=0:=by omega
     exact hw
    ·rw[hu];exact hk
   ·obtain⟨hw,hk⟩:=hs
    refine⟨_,go (fun j hj=>?_),eW _ _,hk⟩
    rcases hw with e|⟨b,hb',hw⟩
    ·rw[e]at hj;cases hj
    ·cases hb';exact hw j hj
 ·exact hs.elim
theorem jY(z:Array Value)(n:Nat):(Builtin.zeroCells z n).toList=dz n z.toList:=by
 have key:∀n,(List.range (n*z.size)).map (fun i=>z[i%z.size]!)=(List.replicate n z.toList).flatten:=by
  intro n;induction n with
  |zero=>simp
  |succ n ih=>
   rw[Nat.succ_mul,List.range_add,List.map_append,ih,List.replicate_succ',List.flatten_append];congr 1
   simp only[pR,List.flatten_cons,List.flatten_nil,List.append_nil];apply List.ext_getElem
   ·simp
   ·intro i h1 h2
    simp only[List.length_map,List.length_range]at h1;simp[Nat.mod_eq_of_lt h1,h1,Nat.add_mod]
 simpa[Builtin.zeroCells,dz]using key n
theorem dC{t e:TypeId}(h:vV P t=some e):P.underlying t=some (.slice e):=by
 unfold vV at h;split at h
 ·rename_i e' hu;simp only[bm.injEq]at h;subst h;exact hu
 ·cases h
theorem NQ{z:Value}{n:Nat}:((Array.range (n*z.cells.size)).map (z.cells[·%z.cells.size]!))=(dz n z.cells.toList).toArray:=by
 have:=jY z.cells n;unfold Builtin.zeroCells at this;apply df;rw[this]
theorem B7{t e:TypeId}{n:Nat}{ps:Array(Nat×Value)}{z cs:List Value}(ht:vV P t=some e)(hz:qW P e=some z)(hn:n*bX P e≤16777216)(hl:z.length=bX P e)
  (hb:De(fun i=>some(i*bX P e,bX P e))(dz n z) ps.toList=some cs)(w:World):
  (Instr.buildSlice t n ps).run P w=.ok (.slice (some (ag w.heap)) n n) (lS w (hnew w.heap cs e)):=by
 obtain⟨v,hv,hvc⟩:=kr hz;obtain⟨i,hi,hiz⟩:=rD hv;have hs:(sizeOf e).run P w=.ok (bX P e) w:=by simp[sizeOf,cO hi,bX,hi]
 have hvs:v.cells.size=bX P e:=by rw[←hl,←hvc];simp
 have hf:=th _ _ _ hb;have hrow:((Array.range (n*bX P e)).map (fun i=>(if n*bX P e=0 then #[]else v.cells)[i%(if n*bX P e=0 then #[]else v.cells).size]!))=(dz n z).toArray:=by
  by_cases h0:n*bX P e=0
  ·have:(dz n z).length=0:=by simp[dz,hl,h0]
   rw[av.1 this];simp[h0]
  ·simp only[if_neg h0]
   rw[←hvs,NQ,hvc]
 have hn':¬(n*bX P e>2^24):=by omega
 simp only[Instr.buildSlice,Sem.run_bind,aE (dC ht),aG,hs,if_neg hn'];by_cases h0:n*bX P e=0
 ·simp only[if_pos h0]at hrow
  simp only[if_pos h0,Sem.run_bind,Sem.run_pure,aG,hrow,hf,kF]
 ·simp only[if_neg h0]at hrow
  simp only[if_neg h0,Sem.run_bind,Sem.run_pure,aG,fa hv,hrow,hf,kF]
theorem OT{h:af}{a:Addr}{vs:List Value}(hr:Row h a vs):∀j v,vs[j]?=some v→aN h (a.add j)=some v:=fun j v hv=>by
 rw[←uk];exact hr j v hv
theorem xu{size n cap len:Nat}{b:Option Addr}{vs:List Value}{w:World}(hs:SRow w.heap b(n*size) vs):(Builtin.firstCells size n (.slice b len cap)).run P w=.ok vs.toArray w:=by
 obtain⟨hl,hr⟩:=hs;cases b with
 |none=>
  rcases hr with rfl|⟨_,h,_⟩
  ·simp[Builtin.firstCells]
  ·cases h
 |some b=>
  refine run_firstCells_some w size n b len cap vs hl fun j v hv=>?_
  rcases hr with rfl|⟨_,h,hr⟩
  ·cases hv
  ·cases h;exact OT hr j v hv
theorem Ew{a:Addr}{m:Nat}{xs:List Value}{w:World}(h1:cf xs=true)(hw:dq w.heap(some a) m xs):
  (storeCells (a.add m) xs).run P w=.ok () (lS w (aV w.heap a m xs)):=by
 rcases hw with rfl|⟨b,hb,hw⟩
 ·rfl
 ·cases hb
  have:=rR (P:=P) (a:=adr a m) xs 0 w h1 fun j hj=>by rw[AB,aQ];exact hw j hj
  rw[←uk,this,HG,iP]
set_option maxHeartbeats 1000000 in
theorem Ft{t e u ty:TypeId}{b:Option Addr}{sl sc xl:Nat}{xs:List Value}{x:Value}{K:WK}{w:World}(ht:vV P t=some e)(hu':(∃e',P.underlying u=some(.slice e'))∨P.underlying u=some .string)
  (hlen:∀w,(Builtin.lenOf x).run P w=.ok xl w)(hx:∀w':World,w'.heap=w.heap→(Builtin.firstCells(bX P e) xl x).run P w'=.ok xs.toArray w')
  (hi:∃i,P.info? e=some i)
  (h:Ro P e b sl sc xl xs K w.heap):Wv P (Builtin.append_ #[t,u] ty #[.slice b sl sc,x]) K w:=by
 obtain⟨i,hi⟩:=hi;have hsz:bX P e=i.size:=by simp[bX,hi]
 have hby:rh P e=i.bytes:=by simp[rh,hi]
 by_cases hc:sl+xl≤sc
 ·obtain⟨hw,h1,hk⟩:=h.1 hc
  refine⟨_,_,?_,eW w (fV w.heap b (sl*bX P e) xs),hk⟩;cases b with
  |none=>
   have hxs:=hx w rfl;rw[hsz]at hxs;rcases hu' with⟨e',hd⟩|hd<;>(simp[Builtin.append_,aE (dC ht),aE hd,sizeOf,cO hi,hlen,hc,hxs];rfl)
  |some a=>
   have hst:=Ew (P:=P) h1 hw;have hxs:=hx w rfl;rw[hsz]at hst hxs;rcases hu' with⟨e',hd⟩|hd<;>(simp[Builtin.append_,aE (dC ht),aE hd,sizeOf,cO hi,hlen,hc,hxs,hst,fV,hsz])
 ·obtain⟨old,z,ho,hz,hb0,h48,hk⟩:=h.2 (by omega)
  obtain⟨v,hv,hvc⟩:=kr hz;obtain⟨i',hi',hiz⟩:=rD hv;rw[hi]at hi';cases hi';rw[hby]at hb0 h48;have hb0':¬i.bytes=0:=by omega
  have h48':¬(281474976710656<Builtin.nextslicecap (sl+xl) sc*i.bytes):=by omega
  have hxs:=hx w.drew rfl;have hol:(Builtin.firstCells (bX P e) sl (.slice b sl sc)).run P w.drew=.ok old.toArray w.drew:=xu ho;rw[hsz]at hxs hol;have hge:sl+xl≤(Question.appendCap (sl+xl) sc e).cut (w.tape w.drawn (.appendCap (sl+xl) sc e)):=Nat.le_add_right _ _;refine⟨_,lS w.drew (hnew w.heap (old++xs++dz ((Question.appendCap (sl+xl) sc e).cut (w.tape w.drawn (.appendCap (sl+xl) sc e))-(sl+xl)) z) e),?_,⟨rfl,rfl,rfl⟩,hk _ hge⟩
  have hzc:(Builtin.zeroCells v.cells ((Question.appendCap (sl+xl) sc e).cut (w.tape w.drawn (.appendCap (sl+xl) sc e))-(sl+xl)))=(dz ((Question.appendCap (sl+xl) sc e).cut (w.tape w.drawn (.appendCap (sl+xl) sc e))-(sl+xl)) z).toArray:=by
   apply df;rw[jY,hvc]
  rcases hu' with⟨e',hd⟩|hd<;>(simp[Builtin.append_,aE (dC ht),aE hd,sizeOf,cO hi,hlen,hc,hb0',h48',Question.forced,hxs,hol,fa hv,kF,hzc,ag];rfl)
theorem EZ{t:TypeId}{K:Prop}(h:QF P t K):∃i,P.info? t=some i:=by
 unfold QF at h;cases hi:P.info? t with
 |none=>rw[hi]at h;exact h.elim
 |some i=>exact⟨i,rfl⟩
theorem Ai{t:TypeId}(h:bX P t≠0):∃i,P.info? t=some i:=by
 cases hi:P.info? t with
 |none=>exact absurd (by simp[bX,hi]) h
 |some i=>exact⟨i,rfl⟩
theorem Dj{size n:Nat}{x:ByteArray}{w:World}:(Builtin.firstCells size n (.string x)).run P w=.ok ((gi x).take n).toArray w:=by
 simp only[Builtin.firstCells,Sem.run_pure];congr 1
 apply df;simp[gi,kZ,fp,←List.map_take]
theorem xY{t u ty:TypeId}{s x:Value}{K:WK}{w:World}(hu':(∃e',P.underlying u=some(.slice e'))∨P.underlying u=some .string)(h:D1 P t s x K w.heap):
  Wv P (Builtin.append_ #[t,u] ty #[s,x]) K w:=by
 unfold D1 at h;split at h
 ·rename_i e b sl sc a xl xc ht
  have hi:=EZ h;obtain⟨⟨xs,hxs,hk⟩,hz⟩:=p9 h;exact Ft ht hu' (fun w=>rfl) (fun w' hw=>xu (by rw[hw];exact hxs)) hi hk
 ·rename_i e b sl sc x ht
  cases hb:bM (bX P e) 1 with
  |false=>rw[hb]at h;exact h.elim
  |true=>
   rw[hb]at h;have h1:=bc hb;have hl:(gi x).length=x.size:=by simp[gi]
   refine Ft ht hu' (fun w=>rfl) (fun w' _=>?_) (Ai (by omega)) h
   rw[Dj,aZ (by omega)]
 ·exact h.elim
theorem Bz{n:Int}(h0:0≤n)(h1:n≤9223372036854775807):IntKind.i64.wrap n=n:=IntWalk.i64_in n ⟨by omega,h1⟩
theorem Nb{t e u ty:TypeId}{b:Option Addr}{sl sc:Nat}{k0 k:IntKind}{l:Int}{z:List Value}{K:WK}{w:World}(ht:vV P t=some e)(hu:P.underlying u=some(.int k0))
  (hz:qW P e=some z)(hzl:z.length=bX P e)(h0:0≤l)(h1:l*rh P e≤2^48)(h2:l≤9223372036854775807)(h3:((sl+l.toNat:Nat):Int)≤9223372036854775807)
  (h:Ro P e b sl sc l.toNat(dz l.toNat z) K w.heap):Wv P (Builtin.append_ #[t,u] ty #[.slice b sl sc,.int k l]) K w:=by
 obtain⟨v,hv,hvc⟩:=kr hz;obtain⟨i,hi,hiz⟩:=rD hv;have hsz:bX P e=i.size:=by simp[bX,hi]
 have hby:rh P e=i.bytes:=by simp[rh,hi]
 have hw:IntKind.wrap .i64 l=l:=Bz h0 h2;have hl0:¬l<0:=by omega
 rw[hby]at h1;have h1':¬(281474976710656:Int)<l*i.bytes:=by omega
 have hai:∀w':World,(asInt (.int k l)).run P w'=.ok l w':=fun w'=>rfl
 have hzn:(Builtin.zeroCells v.cells l.toNat)=(dz l.toNat z).toArray:=by apply df;rw[jY,hvc]
 have hz0:l.toNat*i.size=0→dz l.toNat z= []:=fun h0'=>by
  have hlen:(dz l.toNat z).length=l.toNat*i.size:=by rw[←hsz,←hzl];unfold dz;simp
  exact av.1 (by rw[hlen,h0'])
 by_cases hc:sl+l.toNat≤sc
 ·obtain⟨hw',h1,hk⟩:=h.1 hc
  refine⟨_,_,?_,eW w (fV w.heap b (sl*bX P e) (dz l.toNat z)),hk⟩;cases b with
  |none=>
   by_cases hs:l.toNat*i.size=0
   ·simp[Builtin.append_,aE (dC ht),aE hu,sizeOf,cO hi,hai,hw,hl0,h1',hc,hs];rfl
   ·simp[Builtin.append_,aE (dC ht),aE hu,sizeOf,cO hi,hai,hw,hl0,h1',hc,hs,fa hv];rfl
  |some a=>
   have hst:=Ew (P:=P) h1 hw';rw[hsz]at hst;by_cases hs:l.toNat*i.size=0
   ·rw[hz0 hs]at hst
    simp[Builtin.append_,aE (dC ht),aE hu,sizeOf,cO hi,hai,hw,hl0,h1',hc,hst,fV,hsz,hs,hz0 hs]
   ·simp[Builtin.append_,aE (dC ht),aE hu,sizeOf,cO hi,hai,hw,hl0,h1',hc,hst,fV,hsz,hs,fa hv,hzn]
 ·obtain⟨old,z',ho,hz',hb0,h48,hk⟩:=h.2 (by omega)
  rw[hz]at hz';cases hz';rw[hby]at hb0 h48;have hb0':¬i.bytes=0:=by omega
  have h48':¬(281474976710656<Builtin.nextslicecap (sl+l.toNat) sc*i.bytes):=by omega
  have h3':¬(9223372036854775807:Int)<((sl:Int)+(l.toNat:Int)):=by omega
  have h3'':¬(9223372036854775807:Int)<((sl:Int)+max l 0):=by omega
  have hol:(Builtin.firstCells (bX P e) sl (.slice b sl sc)).run P w.drew=.ok old.toArray w.drew:=xu ho;rw[hsz]at hol;have hge:sl+l.toNat≤(Question.appendCap (sl+l.toNat) sc e).cut (w.tape w.drawn (.appendCap (sl+l.toNat) sc e)):=Nat.le_add_right _ _;refine⟨_,lS w.drew (hnew w.heap (old++dz l.toNat z++dz ((Question.appendCap (sl+l.toNat) sc e).cut (w.tape w.drawn (.appendCap (sl+l.toNat) sc e))-(sl+l.toNat)) z) e),?_,⟨rfl,rfl,rfl⟩,hk _ hge⟩
  have hzc:(Builtin.zeroCells v.cells ((Question.appendCap (sl+l.toNat) sc e).cut (w.tape w.drawn (.appendCap (sl+l.toNat) sc e))-(sl+l.toNat)))=(dz ((Question.appendCap (sl+l.toNat) sc e).cut (w.tape w.drawn (.appendCap (sl+l.toNat) sc e))-(sl+l.toNat)) z).toArray:=by
   apply df;rw[jY,hvc]
  by_cases hs:l.toNat*i.size=0
  ·rw[hz0 hs]at hk⊢
   simp[Builtin.append_,aE (dC ht),aE hu,sizeOf,cO hi,hai,hw,hl0,h1',hc,h3',h3'',h48',Question.forced,hol,fa hv,kF,hzc,ag,hs];rfl
  ·simp[Builtin.append_,aE (dC ht),aE hu,sizeOf,cO hi,hai,hw,hl0,h1',hc,h3',h3'',h48',Question.forced,hol,fa hv,kF,hzc,ag,hs,hzn];rfl
theorem El{t u ty:TypeId}{k0:IntKind}{s x:Value}{K:WK}{w:World}(hu:P.underlying u=some(.int k0))(h:Em P t s x K w.heap):
  Wv P (Builtin.append_ #[t,u] ty #[s,x]) K w:=by
 unfold Em at h;split at h
 ·rename_i e b sl sc k l ht
  split at h
  ·rename_i z hz
   cases hb:bM z.length (bX P e)with
   |false=>rw[hb]at h;exact h.elim
   |true=>
    rw[hb]at h;obtain⟨⟨h0,h1,h2,h3⟩,hk⟩:=h;exact Nb ht hu hz (bc hb) h0 h1 h2 h3 hk
  ·exact h.elim
 ·exact h.elim
theorem mN:∀{a b:List Value},cf a=true→cf b=true→cf (a++b)=true
 | [],_,_,h=>h
 |v::a,b,h,k=>by
  simp only[cf,dy,bd]at h⊢;exact⟨h.1,mN h.2 k⟩
theorem zQ{z:List Value}(h:cf z=true):∀n,cf (dz n z)=true
 |0=>rfl
 |n+1=>by
  have:dz (n+1) z=z++dz n z:=by simp[dz,List.replicate_succ]
  rw[this];exact mN h (zQ h n)
theorem Ic{t ty:TypeId}{x:Value}{K:WK}{w:World}(h:LU P t x K w.heap):Wv P (Builtin.clear_ #[t] ty #[x]) K w:=by
 unfold LU at h;split at h
 ·rename_i e a n c ht
  split at h
  ·rename_i z hz
   obtain⟨v,hv,hvc⟩:=kr hz;cases ho:cf z with
   |false=>rw[ho]at h;exact h.elim
   |true=>
    rw[ho]at h;obtain⟨hw,hk⟩:=h;refine⟨_,_,?_,eW w (fV w.heap a 0 (dz n z)),hk⟩;cases a with
    |none=>simp[Builtin.clear_,aE (dC ht)];rfl
    |some a=>
     cases n with
     |zero=>simp[Builtin.clear_,aE (dC ht)];rfl
     |succ n=>
      have hst:=Ew (P:=P) (zQ ho (n+1)) hw;rw[←uk,Fw]at hst;have hzc:(Builtin.zeroCells v.cells (n+1)).toList=dz (n+1) z:=by rw[jY,hvc]
      simp[Builtin.clear_,aE (dC ht),fa hv,hzc,hst,fV]
  ·exact h.elim
 ·exact h.elim
theorem zR:∀(xs:List Value) (n:Nat),cf xs=true→cf (xs.take n)=true
 | [],n,_=>by simp[cf]
 |x::xs,0,_=>by simp[cf]
 |x::xs,n+1,h=>by
  simp only[cf,bd,List.take_succ_cons]at h⊢;exact⟨h.1,zR xs n h.2⟩
theorem Gd(x:ByteArray):cf (gi x)=true:=by
 have:∀l:List UInt8,cf (l.map fun b=>.int .u8 (b.toNat:Int))=true:=by
  intro l;induction l with
  |nil=>rfl
  |cons b l ih=>simp[cf,ih]
 exact this _
theorem JQ{t u ty:TypeId}{d s:Value}{K:WK}{w:World}(h:P6 P t d s K w.heap):Wv P (Builtin.copy_ #[t,u] ty #[d,s]) K w:=by
 unfold P6 at h;split at h
 ·rename_i e b dl dc a sl sc ht
  obtain⟨⟨xs,hxs,hw,h1,hk⟩,hz⟩:=p9 h;refine⟨_,_,?_,eW w (fV w.heap b 0 xs),hk⟩;have hf:=xu (P:=P) (len:=sl) (cap:=sc) hxs;cases b with
  |none=>simp[Builtin.copy_,aE (dC ht),Builtin.lenOf,hz,hf,goInt];rfl
  |some c=>
   have hst:=Ew (P:=P) (m:=0) h1 hw;simp only[Addr.add,if_pos]at hst;simp[Builtin.copy_,aE (dC ht),Builtin.lenOf,hz,hf,goInt,hst,fV]
 ·rename_i e b dl dc x ht
  cases hb:bM (bX P e) 1 with
  |false=>rw[hb]at h;exact h.elim
  |true=>
   rw[hb]at h;have h1:=bc hb;obtain⟨i,hi⟩:=Ai (P:=P) (t:=e) (by omega);have hz:(sizeOf e).run P w=.ok (bX P e) w:=by simp[sizeOf,cO hi,bX,hi]
   obtain⟨hw,hk⟩:=h;have hl:(gi x).length=x.size:=by simp[gi]
   have he:(gi x).take (dR x.size dl)=(gi x).take dl:=by
    by_cases hx:x.size≤dl
    ·rw[show dR x.size dl=x.size from Nat.min_eq_left hx,aZ (by omega),aZ (by omega)]
    ·rw[show dR x.size dl=dl from Nat.min_eq_right (by omega)]
   have hf:(Builtin.firstCells (bX P e) (dR x.size dl) (.string x)).run P w=.ok ((gi x).take dl).toArray w:=by
    rw[Dj,he]
   refine⟨_,_,?_,eW w (fV w.heap b 0 ((gi x).take dl)),hk⟩;cases b with
   |none=>simp[Builtin.copy_,aE (dC ht),Builtin.lenOf,hz,hf,goInt];rfl
   |some c=>
    have hst:=Ew (P:=P) (m:=0) (zR _ dl (Gd x)) hw;simp only[Addr.add,if_pos]at hst;simp[Builtin.copy_,aE (dC ht),Builtin.lenOf,hz,hf,goInt,hst,fV]
 ·exact h.elim
theorem Oc(k v:Value)(clock:Nat):∀(es:List MapEntry),(match es.findIdx? (fun e=>ii k e.key)with
  |some i=>(es.modify i (fun e=>{e with key:=k,val:=v}),clock)
  |none=>(es++ [{key:=k,val:=v,born:=clock}],clock+1))=Ms k v clock es
 | []=>rfl
 |e::es=>by
  have ih:=Oc k v clock es;simp only[Ms,List.findIdx?_cons];cases hk:ii k e.key with
  |true=>simp[List.modify]
  |false=>
   simp only[eZ,if_false];rw[←ih];cases hf:es.findIdx? (fun e=>ii k e.key)with
   |none=>simp
   |some i=>simp[List.modify]
theorem wQ{d:TypeDesc}{c:CK}(hd:pz d c)(x:c.den):∀(es:List MapEntry) (i:Nat),EY c es→
  Instr.findNow d (c.enc x) es i=some (match es.findIdx? (fun e=>ii (c.enc x) e.key)with
   |some j=>(es[j]?).map fun e=>(i+j,e.val)
   |none=>none)
 | [],i,_=>rfl
 |e::es,i,h=>by
  obtain⟨y,hy⟩:=h e (by simp);have hs:=CQ hd x y;rw[←hy]at hs;have ih:=wQ hd x es (i+1)fun e' he'=>h e' (by simp[he'])
  simp only[Instr.findNow,List.findIdx?_cons,hs];cases hb:ii (c.enc x) e.key with
  |true=>simp
  |false=>
   simp only[eZ,if_false];rw[ih];cases hf:es.findIdx? (fun e=>ii (c.enc x) e.key)with
   |none=>simp
   |some j=>simp[uq,Nat.add_comm 1 j]
theorem DF{a b:ByteArray}(h:(a==b)=true):a=b:=by
 cases a with|mk a=>cases b with|mk b=>
 have h:(a==b)=true:=h;rw[eq_of_beq h]
theorem Fp(a:ByteArray):(a==a)=true:=by
 cases a with|mk a=>
 exact beq_self_eq_true a
theorem Ip{d:TypeDesc}{c:CK}(hd:pz d c)(x y:c.den)(h:ii(c.enc x)(c.enc y)=true):Instr.sameBits 10000 (c.enc y) (c.enc x)=true:=by
 rcases hd with⟨i,rfl,rfl⟩|⟨rfl,rfl⟩|⟨rfl,rfl⟩
 ·have h:x=y:=eq_of_beq (α:=Int) h
  subst h;have:∀n:Int,(i==i&&n==n)=true:=fun n=>by simp
  exact this x
 ·have h:x=y:=DF h
  subst h;exact Fp x
 ·have h:x=y:=eq_of_beq (α:=Bool) h
  subst h;exact beq_self_eq_true (α:=Bool) x
theorem vl{w:World}{r:Nat}{es:Array MapEntry}{clock:Nat}{o:Obj}(h:w.heap[r]?=some(.map es clock)):(setObj r o).run P w=.ok()(lS w(w.heap.setIfInBounds r o)):=by
 simp only[setObj,Sem.run,h];rfl
theorem MC{t k e:TypeId}{d:TypeDesc}{c:CK}(hu:P.underlying t=some(.map k e))(hk:P.underlying k=some d)(hd:pz d c){r:Nat}{x:c.den}{v:Value}{w:World}(hm:OJ c w.heap r):
  (Instr.mapUpdate t (.map (some r)) (c.enc x) v).run P w=.ok () (lS w (Sg w.heap r (c.enc x) v)):=by
 obtain⟨es,clock,hb,hks⟩:=hm;obtain⟨q,h1,h2,h3⟩:=vu (P:=P) hd hk x hks w;rw[wQ hd x es.toList 0 hks]at h2;have hput:=Oc (c.enc x) v clock es.toList;have hmp:Sg w.heap r (c.enc x) v=w.heap.setIfInBounds r (.map (Ms (c.enc x) v clock es.toList).1.toArray (Ms (c.enc x) v clock es.toList).2):=by
  simp only[Sg,hb]
 rw[hmp,←hput];simp only[Instr.mapUpdate,Sem.run_bind,aE hu,aG,mh hb,nS hd hk,h1];cases hf:es.toList.findIdx? (fun e=>ii (c.enc x) e.key)with
 |none=>
  rw[hf]at h2;simp only[bm.injEq]at h2;subst h2;simp only[vl hb];congr 4
  apply df;simp
 |some i=>
  rw[hf]at h2;simp only[bm.injEq]at h2;obtain⟨hi,hp,_⟩:=List.findIdx?_eq_some_iff_getElem.1 hf;have he:es.toList[i]?=some es.toList[i]:=ai hi;rw[he]at h2;simp only[iw,aQ]at h2;subst h2;have he':es[i]?=some es.toList[i]:=by rw[←bv];exact he
  obtain⟨y,hy⟩:=hks es.toList[i] (List.getElem_mem hi);have hsb:Instr.sameBits 10000 (es.toList[i]).key (c.enc x)=true:=by
   rw[hy]at hp⊢;exact Ip hd x y hp
  simp only[he',iw,Option.getD_some,Instr.keyThatStays,hsb,if_true,Sem.run_bind,Sem.run_pure,aG,vl hb];congr 4
  apply df;simp
theorem xX{t:TypeId}{m k v:Value}{K:WK}{w:World}(h:D0 P t m k v K w.heap):Wu P (Instr.mapUpdate t m k v) K w:=by
 unfold D0 at h;split at h
 ·rename_i c e m hc
  obtain⟨kt,d,hu,hk,hd⟩:=wL hc;obtain⟨kx,rfl,r,rfl,hm,hK⟩:=CK.dec_sound h;exact⟨_,MC hu hk hd hm,eW _ _,hK⟩
 ·exact h.elim
theorem K9(k:Value):∀(es:List MapEntry),(match es.findIdx? (fun e=>ii k e.key)with
  |some i=>es.eraseIdx i
  |none=>es)=Lc k es
 | []=>rfl
 |e::es=>by
  have ih:=K9 k es;simp only[Lc,List.findIdx?_cons];cases hk:ii k e.key with
  |true=>simp
  |false=>
   simp only[eZ,if_false];rw[←ih];cases hf:es.findIdx? (fun e=>ii k e.key)<;>simp
theorem KC{t k e ty:TypeId}{ts:Array TypeId}{d:TypeDesc}{c:CK}(ht:ts[0]?=some t)(hu:P.underlying t=some(.map k e))(hk:P.underlying k=some d)(hd:pz d c){r:Nat}{x:c.den}{w:World}(hm:OJ c w.heap r):
  (Builtin.delete_ ts ty #[.map(some r),c.enc x]).run P w=.ok(.tuple #[])(lS w(On w.heap r(c.enc x))):=by
 obtain⟨es,clock,hb,hks⟩:=hm;obtain⟨q,h1,h2,h3⟩:=vu(P:=P) hd hk x hks w;rw[wQ hd x es.toList 0 hks]at h2;have hdrop:=K9(c.enc x) es.toList;have hmp:On w.heap r(c.enc x)=w.heap.setIfInBounds r(.map(Lc(c.enc x) es.toList).toArray clock):=by
  simp only[On,hb]
 rw[hmp,←hdrop];simp only[Builtin.delete_,ht,List.getElem?_toArray,List.getElem?_cons_zero,List.getElem?_cons_succ,Sem.run_bind,aE hu,aG,mh hb,nS hd hk,h1];cases hf:es.toList.findIdx?(fun e=>ii(c.enc x) e.key)with
 |none=>
  rw[hf]at h2;simp only[bm.injEq]at h2;subst h2;simp[vl hb]
 |some i=>
  rw[hf]at h2;simp only[bm.injEq]at h2;obtain⟨hi,hp,_⟩:=List.findIdx?_eq_some_iff_getElem.1 hf;have he:es.toList[i]?=some es.toList[i]:=ai hi;rw[he]at h2;simp only[iw,aQ]at h2;subst h2;have hi':i<es.size:=by simpa using hi
  have herase:es.eraseIdxIfInBounds i=(es.toList.eraseIdx i).toArray:=by
   apply df;simp[Array.eraseIdxIfInBounds,hi']
  simp[vl hb,herase]
theorem Ej{t ty:TypeId}{ts:Array TypeId}{m k:Value}{K:WK}{w:World}(ht:ts[0]?=some t)(h:Ek P t m k K w.heap):Wv P(Builtin.delete_ ts ty #[m,k]) K w:=by
 unfold Ek at h;split at h
 ·rename_i c e m hc
  obtain⟨kt,d,hu,hk,hd⟩:=wL hc;obtain⟨kx,rfl,h⟩:=CK.dec_sound h;rcases h with⟨rfl,hK⟩|⟨r,rfl,hm,hK⟩
  ·refine⟨_,w,?_,Tame.refl w,hK⟩
   simp[Builtin.delete_,ht,aE hu,nS hd hk]
  ·exact⟨_,_,KC ht hu hk hd hm,eW _ _,hK⟩
 ·exact h.elim
theorem OY{t k e:TypeId}(hu:P.underlying t=some(.map k e)){m:Option Nat}{clock:Nat}{w:World}(hm:m=none∧clock=0∨∃r es,m=some r∧w.heap[r]?=some(.map es clock)):
  (Instr.range t(.map m)).run P w=.ok(.pointer(some(ag w.heap)))(lS w(w.heap.push(.mapIter m clock #[] clock))):=by
 rcases hm with⟨rfl,rfl⟩|⟨r,es,rfl,hb⟩
 ·simp only[Instr.range,Sem.run_bind,aE hu,aG,Sem.run_pure,EF,ag]
 ·simp only[Instr.range,Sem.run_bind,aE hu,aG,Sem.run_pure,mh hb,EF,ag]
theorem wD{w:World}{i:Nat}{m:Option Nat}{since:Nat}{seen:Array Nat}{last:Nat}(h:w.heap[i]?=some(.mapIter m since seen last)):(getObj i).run P w=.ok(.mapIter m since seen last) w:=by
 simp only[getObj,Sem.run,h]
theorem Ka{w:World}{i:Nat}{m:Option Nat}{since:Nat}{seen:Array Nat}{last:Nat}{o:Obj}(h:w.heap[i]?=some(.mapIter m since seen last)):(setObj i o).run P w=.ok()(lS w(w.heap.setIfInBounds i o)):=by
 simp only[setObj,Sem.run,h];rfl
theorem Fi(n:Nat)(hn:0<n)(w:World):∃k w',k<n∧(choose (.mapNext n)).run P w=.ok k w'∧Tame w w'∧w'.heap=w.heap:=by
 unfold choose;simp only[Sem.run];by_cases h:(Question.mapNext n).forced=true
 ·exact⟨0,w,hn,by rw[if_pos h],Tame.refl w,rfl⟩
 ·refine⟨(Question.mapNext n).cut (w.tape w.drawn (.mapNext n)),{w with drawn:=w.drawn+1},Nat.mod_lt _ hn,by rw[if_neg h],⟨rfl,rfl,rfl⟩,rfl⟩
theorem JP{it:Value}{t:TypeId}{K:WK}{w:World}(h:P5 it K w.heap):Wv P (Instr.next it false t) K w:=by
 unfold P5 at h;split at h
 ·rename_i a
  obtain⟨h0,m,since,seen,last,hi,h⟩:=h;obtain⟨b,off,spot⟩:=a;simp only at h0 hi h;subst h0;rcases h with⟨rfl,hK⟩|⟨r,es,clock,rfl,hb,hnon,hend,hgo⟩
  ·exact⟨_,w,by simp only[Instr.next,Sem.run_bind,wD hi,aG,Sem.run_pure],Tame.refl w,hK⟩
  ·have hguard:(!seen.isEmpty&& !es.isEmpty&&es.all (fun e=>decide (e.born≥last)))=false:=by
    rcases hnon with h|h|h<;>simp[h]
   obtain⟨left,hleft⟩:∃left,left=es.filter fun e=> !seen.contains e.born:=⟨_,rfl⟩
   obtain⟨old,hold⟩:∃old,old=left.filter (·.born<since):=⟨_,rfl⟩
   obtain⟨new,hnew⟩:∃new,new=left.filter (·.born≥since):=⟨_,rfl⟩
   obtain⟨cand,hcand⟩:∃cand:Array (Option MapEntry),cand=(if old.isEmpty then #[none]else #[])++(old++new).map some:=⟨_,rfl⟩
   have hpos:0<cand.size:=by
    rw[hcand];by_cases ho:old.isEmpty=true
    ·simp[ho];omega
    ·have:old.size≠0:=by simpa using ho
     simp[ho];omega
   obtain⟨k,w1,hk,hrun,ht,hh⟩:=Fi (P:=P) cand.size hpos w;obtain⟨c,hc⟩:∃c,cand[k]?=some c:=⟨cand[k],Array.getElem?_eq_getElem hk⟩;have hi1:w1.heap[b]?=some (.mapIter (some r) since seen last):=by rw[hh];exact hi
   have hguard':(!seen.isEmpty&& !es.isEmpty&&es.all fun x=>decide (x.born≥last))=false:=hguard
   cases c with
   |none=>
    refine⟨.tuple #[.bool false],w1,?_,ht,?_⟩
    ·simp only[Instr.next,Sem.run_bind,wD hi,aG,Sem.run_pure,mh hb,hguard',eZ,if_false,←hleft,←hold,←hnew,←hcand,hrun,hc]
    ·rw[hh]
     have hold0:old.isEmpty=true:=by
      have hm:none∈cand:=Array.mem_of_getElem? hc;rw[hcand]at hm;by_cases ho:old.isEmpty=true
      ·exact ho
      ·simp[ho]at hm
     refine hend fun e he hlt=>?_
     cases hs:seen.contains e.born with
     |true=>rfl
     |false=>
      have hmem:e∈old:=by
       rw[hold,hleft];simp only[qr];exact⟨⟨by simpa using he,by rw[hs];rfl⟩,by simpa using hlt⟩
      rw[Array.isEmpty_iff]at hold0;rw[hold0]at hmem;simp at hmem
   |some e=>
    have hmem:e∈es∧seen.contains e.born=false:=by
     have hm:some e∈cand:=Array.mem_of_getElem? hc;have hm2:e∈left:=by
      rw[hcand]at hm;rw[Array.mem_append]at hm;rcases hm with hm|hm
      ·split at hm<;>simp at hm
      ·simp only[Array.mem_map,bm.injEq,exists_eq_right,Array.mem_append]at hm
       rcases hm with hm|hm
       ·rw[hold]at hm;exact(qr.1 hm).1
       ·rw[hnew]at hm;exact(qr.1 hm).1
     rw[hleft]at hm2;have:=qr.1 hm2;exact⟨this.1,by simpa using this.2⟩
    refine⟨.tuple #[.bool true,e.key,e.val],lS w1 (w1.heap.setIfInBounds b (.mapIter (some r) since (seen.push e.born) clock)),?_,ht.trans (eW _ _),?_⟩
    ·simp only[Instr.next,Sem.run_bind,wD hi,aG,Sem.run_pure,mh hb,hguard',eZ,if_false,←hleft,←hold,←hnew,←hcand,hrun,hc,Ka hi1]
    ·rw[hh]
     exact hgo e (by simpa using hmem.1) hmem.2
 ·exact h.elim
theorem Gf{t e:TypeId}{z:List Value}{k k':IntKind}{l c:Int}{w:World}(ht:vV P t=some e)(hz:qW P e=some z)(hzl:z.length=bX P e)(h0:0≤l)(h1:l≤c)(h2:c≤9223372036854775807)(h3:rh P e*c≤2^48):
  (Instr.makeSlice t (.int k l) (.int k' c)).run P w=.ok (.slice (some (ag w.heap)) l.toNat c.toNat) (lS w (hnew w.heap (dz c.toNat z) e)):=by
 obtain⟨v,hv,hvc⟩:=kr hz;obtain⟨i,hi,hiz⟩:=rD hv;have hsz:bX P e=i.size:=by simp[bX,hi]
 have hby:rh P e=i.bytes:=by simp[rh,hi]
 have hvs:v.cells.size=i.size:=by rw[←hsz,←hzl,←hvc];simp
 have hl:=Bz h0 (by omega);have hc:=Bz (show 0≤c by omega) h2
 rw[hby]at h3;have c1:¬(c<0):=by omega
 have c2:¬(281474976710656<(i.bytes:Int)*c):=by omega
 have c3:¬(l<0):=by omega
 have c4:¬(c<l):=by omega
 by_cases hz0:c.toNat*i.size=0
 ·have hz1:(dz c.toNat z).length=0:=by simp[dz,hzl,hsz,hz0]
  rw[av.1 hz1];simp[Instr.makeSlice,aE (dC ht),asInt,asIntOf,cO hi,hl,hc,c1,c2,c3,c4,sizeOf,hz0,kF]
 ·have hrow:((Array.range (c.toNat*i.size)).map (fun j=>v.cells[j%v.cells.size]!))=(dz c.toNat z).toArray:=by
   rw[←hvs,NQ,hvc]
  have key:(newRow e ((Array.range (c.toNat*i.size)).map (fun j=>v.cells[j%v.cells.size]!))).run P w=.ok (ag w.heap) (lS w (hnew w.heap (dz c.toNat z) e)):=by
   rw[hrow,kF]
  simp[Instr.makeSlice,aE (dC ht),asInt,asIntOf,cO hi,hl,hc,c1,c2,c3,c4,sizeOf,hz0,fa hv];rw[key];rfl
theorem Agree.args{N:Nat}{r:cD}{a:Act}(h:Agree N r a){os:Array Operand}{vs:List Value}(hv:qY r os.toList=some vs):os.map a.eval=vs.toArray:=by
 rw[←pf h hv];apply df;simp
theorem HC.out{f:FuncId}{args:List Value}{ks:List Kind}{K:WK}{w:World}(h:HC P f args ks(fun x h'=>K(EL ks(nR ks x)) h') w.heap):Lj P (callFunc f args.toArray) K w:=by
 rcases h.run w rfl with⟨h1,h2⟩|⟨v,w',h1,ht,x,rfl,hk⟩
 ·refine.inr (.inr (.inl ⟨f,args.toArray,h1,h2.mono ?_⟩))
  rintro e w' ⟨ht,x,rfl,hk⟩;exact⟨ht,_,rfl,hk⟩
 ·exact.inl ⟨_,w',h1,ht,hk⟩
theorem BB{o:Oper}{r:cD}{K:WK}{w:World}{N:Nat}{a:Act}(ha:Agree N r a)(hq:GU P o r K w.heap):Lj P (execOp a.eval o) K w:=by
 have ev:∀{x:Operand} {v:Value},dA r x=some v→a.eval x=v:=fun h=>mn ha h
 obtain⟨dst,op,type,oy,after,guard⟩:=o;cases op with
 |alloc t=>
  simp only[GU]at hq;split at hq
  ·rename_i z hz
   obtain⟨v,hv,hvc⟩:=kr hz;have he:(Instr.alloc t true (.tuple #[])).run P w=.ok (.pointer (some (ag w.heap))) (lS w (hnew w.heap z t)):=by
    simp[Instr.alloc,fa hv,newVar,kF,hvc]
   exact Wv.out ⟨_,_,he,eW _ _,hq⟩
  ·exact hq.elim
 |box t x=>
  simp only[GU]at hq;split at hq
  ·rename_i v hv
   have he:(Instr.box t v).run P w=.ok (.pointer (some (ag w.heap))) (lS w (hnew w.heap v.cells.toList t)):=by
    simp[Instr.box,newVar,kF]
   simp only[execOp,ev hv];exact Wv.out ⟨_,_,he,eW _ _,hq⟩
  ·exact hq.elim
 |build t ps=>
  simp only[GU]at hq;split at hq
  ·rename_i vs hvs
   split at hq
   ·rename_i cs hcs
    have hp:(ps.map fun x=>(x.1,a.eval x.2))=vs.toArray:=by
     rw[←ph ha hvs];apply df;simp
    have he:=Ax (ps:=vs.toArray) (by simpa using hcs) w;simp only[execOp];rw[show(ps.map fun(i,x)=>(i,a.eval x))=vs.toArray from hp]
    exact Wv.out ⟨_,w,he,Tame.refl w,hq⟩
   ·exact hq.elim
  ·exact hq.elim
 |buildSlice t n ps=>
  simp only[GU]at hq;split at hq
  ·rename_i e vs ht hvs
   split at hq
   ·rename_i z hz
    cases hb:(Nat.ble (n*bX P e) 16777216&&bM z.length (bX P e))with
    |false=>rw[hb]at hq;exact hq.elim
    |true=>
     rw[hb]at hq;simp only[bd]at hb;simp only[cond_true]at hq;split at hq
     ·rename_i cs hcs
      have hp:(ps.map fun x=>(x.1,a.eval x.2))=vs.toArray:=by
       rw[←ph ha hvs];apply df;simp
      have he:=B7 (ps:=vs.toArray) ht hz (ae hb.1) (bc hb.2) (by simpa using hcs) w;simp only[execOp];rw[show(ps.map fun(i,x)=>(i,a.eval x))=vs.toArray from hp]
      exact Wv.out ⟨_,_,he,eW _ _,hq⟩
     ·exact hq.elim
   ·exact hq.elim
  ·exact hq.elim
 |store t x y=>
  simp only[GU]at hq;split at hq
  ·rename_i b v hb hv
   simp only[execOp,ev hb,ev hv];exact Wu.out (Ib hq)
  ·exact hq.elim
 |mapUpdate t m k x=>
  simp only[GU]at hq;split at hq
  ·rename_i mv kv xv hm hk hx
   simp only[execOp,ev hm,ev hk,ev hx];exact Wu.out (xX hq)
  ·exact hq.elim
 |insert t m k x=>
  simp only[GU]at hq;split at hq
  ·rename_i mv kv xv hm hk hx
   simp only[execOp,ev hm,ev hk,ev hx];exact Wu.out (xX hq)
  ·exact hq.elim
 |makeMap t n=>
  simp only[GU]at hq;cases n with
  |none=>exact Wv.out ⟨_,lS w (w.heap.push (.map #[] 0)),by simp[Instr.makeMap];rfl,eW _ _,hq⟩
  |some n=>
   simp only at hq;split at hq
   ·rename_i k i hn ht
    exact Wv.out ⟨_,lS w (w.heap.push (.map #[] 0)),by simp[Instr.makeMap,ev hn,aE ht,asInt,asIntOf];rfl,eW _ _,hq⟩
   ·exact hq.elim
 |makeSlice t l c=>
  simp only[GU]at hq;split at hq
  ·rename_i e k l' k' c' ht hl hc
   split at hq
   ·rename_i z hz
    cases hb:bM z.length (bX P e)with
    |false=>rw[hb]at hq;exact hq.elim
    |true=>
     rw[hb]at hq;obtain⟨⟨h0,h1,h2,h3⟩,hq⟩:=hq;simp only[execOp,ev hl,ev hc];exact Wv.out ⟨_,_,Gf ht hz (bc hb) h0 h1 h2 h3,eW _ _,hq⟩
   ·exact hq.elim
  ·exact hq.elim
 |range t x=>
  simp only[GU]at hq;split at hq
  ·rename_i k e m hu hx
   obtain⟨clock,hm,hq⟩:=hq;simp only[execOp,ev hx];exact Wv.out ⟨_,_,OY hu hm,eW _ _,hq⟩
  ·exact hq.elim
 |next it isS=>
  cases isS with
  |true=>simp only[GU]at hq
  |false=>
   simp only[GU]at hq;split at hq
   ·rename_i v hv
    simp only[execOp,ev hv];exact Wv.out (JP hq)
   ·exact hq.elim
 |call c=>
  simp only[GU]at hq;have eb:∀{b:Builtin} {vs:List Value},c.callee=.builtin b→qY r c.args.toList=some vs→∃cs:Array Bool,∀w,(execOp a.eval ⟨dst,.call c,type,oy,after,guard⟩).run P w=
    (builtin b c.argTypes type cs vs.toArray).run P w:=by
   intro b vs hc hvs;refine⟨c.args.map fun| .const _=>true|_=>false,fun w=>?_⟩
   simp[execOp,resolve,hc,ha.args hvs,invoke];rfl
  have wo:∀{s s':Sem Next},(∀w,s.run P w=s'.run P w)→Lj P s' K w→Lj P s K w:=by
   intro s s' he h;unfold Lj at h⊢;simp only[he];exact h
  split at hq
  ·rename_i s x hc hvs
   split at hq
   ·rename_i t u hat
    obtain⟨cs,er⟩:=eb hc hvs;refine wo er ?_;have hat':c.argTypes= #[t,u]:=by apply df;rw[hat]
    simp only[builtin,hat'];split at hq
    ·rename_i e' hu;exact Wv.out (xY (.inl ⟨e',hu⟩) hq)
    ·rename_i hu;exact Wv.out (xY (.inr hu) hq)
    ·rename_i k0 hu;exact Wv.out (El hu hq)
    ·exact hq.elim
   ·exact hq.elim
  ·rename_i x hc hvs
   split at hq
   ·rename_i t hat
    obtain⟨cs,er⟩:=eb hc hvs;refine wo er ?_;have hat':c.argTypes= #[t]:=by apply df;rw[hat]
    simp only[builtin,hat'];exact Wv.out (Ic hq)
   ·exact hq.elim
  ·rename_i s x hc hvs
   split at hq
   ·rename_i t u hat
    obtain⟨cs,er⟩:=eb hc hvs;refine wo er ?_;have hat':c.argTypes= #[t,u]:=by apply df;rw[hat]
    simp only[builtin,hat'];exact Wv.out (JQ hq)
   ·exact hq.elim
  ·rename_i m k hc hvs
   split at hq
   ·rename_i t u hat
    obtain⟨cs,er⟩:=eb hc hvs;refine wo er ?_;simp only[builtin];exact Wv.out (Ej (by rw[←bv,hat];rfl) hq)
   ·exact hq.elim
  ·rename_i f args hc hvs
   unfold SM at hq;split at hq
   ·exact hq.elim
   ·rename_i ks hks
    split at hq
    ·rename_i f
     refine wo (s':=callFunc f args.toArray) (fun w=>?_) hq.out
     simp[execOp,resolve,hc,ha.args hvs,Act.eval,Deferred.ofValue,invoke]
    ·rename_i f hf
     split at hq
     ·rename_i fv hfv
      rcases hq.run with⟨g,first,cap,rfl,hh⟩|⟨l,rfl,hh⟩
      rotate_left
      ·obtain⟨fn,tmps,assign,body,h1,h2⟩:=hh.run w rfl
       refine.inr (.inr (.inr ⟨l,fn,tmps,assign,body,?_,fun c cs=>?_⟩))
       ·rw[←h1]
        simp[execOp,resolve,hc,ha.args hvs,ev hfv,Deferred.ofValue,invoke]
       ·obtain⟨b,w',ht,hk,hs⟩:=h2 c cs
        refine⟨b,w',ht,?_,hs⟩;obtain⟨t,e,hk⟩:=ss hk;have hl:ks.length=1:=by rw[←tx ks t,←e];rfl
        match ks,hl,t,e,hk with
        | [k],_,t,e,hk=>rw[←e]at hk;exact hk
      refine wo (s':=callFunc g (first.toList++args++cap.toList).toArray) (fun w=>?_) hh.out
      have e:first++args.toArray++cap=(first.toList++args++cap.toList).toArray:=by apply df;simp
      rw[←e];simp[execOp,resolve,hc,ha.args hvs,ev hfv,Deferred.ofValue,invoke]
     ·exact hq.elim
  ·exact hq.elim
 |_=>simp only[GU]at hq
end Go.Lift
namespace Go.Lift
open Go
variable {P:Program} {ro:Option Nat} {n:Nat}
def FW(ro:Option Nat):Fence:={fn:=fun _=>True,depth:=none,alive:=false,round:=ro}
theorem Pm(m:Machine):m.fenced P (FW ro):=by
 intro g _;exact⟨fun h=>by simp[FW]at h,.inl trivial,fun _ _=>trivial,fun d h=>by simp[FW]at h⟩
theorem yy{m m':Machine}(h:Steps P m m'):StepsIn (Machine.fenced P (FW ro)) P m m':=(StepsIn.of_steps h).mono fun m _=>Pm m
theorem Fm{k:Nat}{f:FuncId}{args:Array Value}{w:World}{R:Ending→World→Prop}(h:Calls P f args w R):CallsIn (FW ro) k P f args w R:=by
 refine⟨trivial,fun cs _=>?_⟩
 obtain⟨e,w',fr,hR,hc,hfn,hl⟩:=h cs;refine⟨e,w',fr,hR,?_,hfn,hl⟩;cases e with
 |returned v=>exact yy hc
 |panicked c=>exact yy hc
 |outgrown=>exact hc
theorem sX{o:Oper}{a:Act}{w:World}{K:WK}{next:Act→World→Prop}{Q:Exit→Act→World→Prop}(hd:∀c,o.op≠ .defer c)(h:Lj P(execOp a.eval o) K w)
  (hk:∀v w',Tame w w'→K v w'.heap→next(a.put o.dst v) w'):o.wpIn (FW ro) n P a w next Q:=by
 refine⟨fun _ _=>trivial,?_⟩
 rw[Oper.semAt_eq _ _ _ hd];rcases h with⟨v,w',hr,ht,hK⟩|⟨w',hr,ht,hK⟩|⟨f,args,hr,hc⟩|⟨l,fn,tmps,assign,body,hr,hc⟩
 ·rw[hr];exact hk v w' ht hK
 ·rw[hr];exact hk undef w' ht hK
 ·rw[hr]
  refine⟨fun h=>by simp[FW]at h,Fm (hc.mono ?_)⟩
  rintro e w' ⟨ht,v,rfl,hK⟩;exact hk v w' ht hK
 ·rw[hr]
  refine⟨fun h=>by simp[FW]at h,trivial,fun c cs _=>?_⟩
  obtain⟨b,w',ht,hK,hs⟩:=hc c cs;exact⟨.returned (.bool b),w',hk _ w' ht hK,yy hs⟩
theorem vF{N:Nat}{o:Oper}{v:Value}{r:cD}{K:cD→Prop}{a:Act}{d:u3}{dv:DV}(h:Am N o v r K)(ha:Agree N r a)(hd:DecOk d r)(hv:GD dv v):
  ∃r',K r'∧Agree N r' (a.put o.dst v)∧DecOk (su d o dv) r':=by
 unfold Am at h;unfold su;cases ho:o.dst with
 |none=>rw[ho]at h;exact⟨r,h,ha,hd⟩
 |some t=>
  rw[ho]at h;simp only at h;cases hb:Nat.blt t N with
  |false=>rw[hb]at h;exact h.elim
  |true=>
   rw[hb]at h;have hlt:t<N:=by simpa using hb
   refine⟨_,h,ha.put t v hlt,fun s=>?_⟩
   by_cases e:t=s
   ·subst e
    have:ru ((t,dv)::d) t=dv:=by simp[ru]
    rw[this];exact.inr ⟨v,iT t v r,hv⟩
   ·have h1:ru ((t,dv)::d) s=ru d s:=by
     have:bM t s=false:=pW.2 fun e'=>e (bc e')
     show(bif bM t s then dv else ru d s)=_
     rw[this];rfl
    rw[h1,hH v r e];exact hd s
theorem Ki{ek:Option(Kind×Kind)}{o:Op}{r:cD}{K:RK}{h:af}(hq:BN P ek o r K h):∀c,o≠ .defer c:=by
 intro c e;subst e;exact hq
theorem wz{o:Oper}{r:cD}{K:WK}{h:af}(hq:GU P o r K h):∀c,o.op≠ .defer c:=by
 intro c e;unfold GU at hq;rw[e]at hq;exact hq
theorem TT{d:u3}{o:Op}(h:vW o=false):JM d o=.x:=by
 cases o<;>first|rfl|(simp[vW]at h)
theorem OQ{N:Nat}{ek:Option(Kind×Kind)}{o:Oper}{r:cD}{K:cD→af→Prop}{a:Act}{w:World}{d:u3}{next:Act→World→Prop}{Q:Exit→Act→World→Prop}
  (hs:Tz P N ek o r K w.heap)(ha:Agree N r a)(hd:DecOk d r)
  (hk:∀v w' r',Tame w w'→K r' w'.heap→Agree N r'(a.put o.dst v)→DecOk(su d o(JM d o.op)) r'→next(a.put o.dst v) w'):o.wpIn (FW ro) n P a w next Q:=by
 unfold Tz at hs;cases hq:vW o.op with
 |true=>
  rw[hq,cond_true]at hs;obtain⟨v,S,hK,hS,hdv,hr⟩:=Hg ha hs d hd;refine sX (K:=fun u h'=>u=v∧h'=w.heap) (Ki hs) (.inl ⟨v,w,hr w hS,Tame.refl w,rfl,rfl⟩) ?_
  rintro u w' ht ⟨rfl,hh⟩;obtain⟨r',hr',ha',hd'⟩:=vF hK ha hd hdv;exact hk u w' r' ht (by rw[hh];exact hr') ha' hd'
 |false=>
  rw[hq,cond_false]at hs;refine sX (wz hs) (BB ha hs) ?_;intro v w' ht hK;obtain⟨r',hr',ha',hd'⟩:=vF hK ha hd (dv:=JM d o.op) (by rw[TT hq];trivial);exact hk v w' r' ht hr' ha' hd'
theorem HJ{t:Array Value}{i:Nat}{b:Bool}(h:t.getD i undef=.bool b):t[i]?=some (.bool b):=by
 rw[cU]at h;cases hc:t[i]? with
 |none=>rw[hc]at h;simp[undef]at h
 |some v=>rw[hc]at h;simp at h;rw[h]
theorem MT{t:Array Value}{i:Nat}(h:t.getD i undef=undef):t[i]?=none∨t[i]?=some undef:=by
 rw[cU]at h;cases hc:t[i]? with
 |none=>exact.inl rfl
 |some v=>rw[hc]at h;simp at h;rw[h];exact.inr rfl
theorem qs{N:Nat}{ops:Array Oper}{d:u3}{o:Oper}{b:Bool}{r:cD}{a:Act}(h:jn ops.toList d o=some b)(ha:Agree N r a)(hd:DecOk d r):
  oe o (yielded ops a.tmps)=b:=by
 unfold jn at h;unfold oe;cases hg:o.guard with
 |none=>rw[hg]at h;simp only[bm.injEq]at h;exact h
 |some g=>
  obtain⟨j,want⟩:=g;rw[hg]at h;simp only[bv]at h;simp only;cases hj:ops[j]? with
  |none=>rw[hj]at h;cases h
  |some oj=>
   rw[hj]at h;simp only at h;cases ht:oj.dst with
   |none=>rw[ht]at h;cases h
   |some t=>
    rw[ht]at h;simp only at h;have hy:yielded ops a.tmps j=(match a.tmps[t]? with|some (.bool b)=>some b|_=>none):=by
     unfold yielded;simp[hj,ht];rfl
    rw[hy];rcases hd t with hx|⟨v,hv,hk⟩
    ·rw[hx]at h;cases h
    ·have hav:=ha.look t v hv
     cases hdl:ru d t with
     |x=>rw[hdl]at h;cases h
     |t=>
      rw[hdl]at h hk;simp only[bm.injEq]at h;subst h;have:v=.bool true:=hk;subst this;rw[HJ hav];cases want<;>rfl
     |f=>
      rw[hdl]at h hk;simp only[bm.injEq]at h;subst h;have:v=.bool false:=hk;subst this;rw[HJ hav];cases want<;>rfl
     |u=>
      rw[hdl]at h hk;simp only[bm.injEq]at h;subst h;have:v=undef:=hk;subst this;rcases MT hav with e|e<;>rw[e]<;>cases want<;>rfl
structure Fr(W:Nat→Prop)(a0:Act)(w0:World)(a:Act)(w:World):Prop where
 tame:Tame w0 w
 defers:a.defers=a0.defers
 same:∀t,¬W t→a.tmps.getD t undef=a0.tmps.getD t undef
theorem Fr.refl(W:Nat→Prop)(a:Act)(w:World):Fr W a w a w:=⟨Tame.refl w,rfl,fun _ _=>rfl⟩
theorem Fr.put{W:Nat→Prop}{a0 a:Act}{w0 w w':World}(h:Fr W a0 w0 a w){o:Oper}(hW:∀d,o.dst=some d→W d)(v:Value)(ht:Tame w w'):Fr W a0 w0 (a.put o.dst v) w':=by
 refine⟨h.tame.trans ht,?_,fun t hn=>?_⟩
 ·cases ho:o.dst<;>simp[Act.put,h.defers]
 ·cases ho:o.dst with
  |none=>exact h.same t hn
  |some d=>
   have hne:d≠t:=fun e=>hn (e▸hW d ho)
   rw[←h.same t hn];simp[Act.put,Array.getElem?_setIfInBounds_ne hne]
theorem Fr.trans{W:Nat→Prop}{a0 a1 a2:Act}{w0 w1 w2:World}(h:Fr W a0 w0 a1 w1)(k:Fr W a1 w1 a2 w2):Fr W a0 w0 a2 w2:=
 ⟨h.tame.trans k.tame,k.defers.trans h.defers,fun t ht=>(k.same t ht).trans (h.same t ht)⟩
theorem Fr.mono{W W':Nat→Prop}{a0 a:Act}{w0 w:World}(h:Fr W a0 w0 a w)(hW:∀t,W t→W' t):Fr W' a0 w0 a w:=
 ⟨h.tame,h.defers,fun t ht=>h.same t fun e=>ht (hW t e)⟩
theorem DecOk.known{d:u3}{r:cD}(h:DecOk d r){t:Nat}{dv:DV}{v:Value}(hv:GD dv v):DecOk ((t,dv)::d) ((t,v)::r):=fun s=>by
 by_cases e:t=s
 ·subst e
  have:ru ((t,dv)::d) t=dv:=by simp[ru]
  rw[this];exact.inr ⟨v,iT t v r,hv⟩
 ·have h1:ru ((t,dv)::d) s=ru d s:=by
   have:bM t s=false:=pW.2 fun e'=>e (bc e')
   show(bif bM t s then dv else ru d s)=_
   rw[this];rfl
  rw[h1,hH v r e];exact h s
theorem Eg{N:Nat}{ek:Option(Kind×Kind)}{ops:Array Oper}{o:Oper}{i:Nat}{d:u3}{r:cD}{a:Act}{w:World}{b:Bool}{K:u3→cD→af→Prop}{next:Act→World→Prop}{Q:Exit→Act→World→Prop}
  (hi:ops[i]?=some o)(hw:jn ops.toList d o=some b)(ha:Agree N r a)(hd:DecOk d r)
  (hs:match b with
   |true=>Tz P N ek o r(K(su d o(JM d o.op))) w.heap
   |false=>Am N o undef r fun r'=>K(su d o .u) r' w.heap)
  (hk:∀v w' d' r',Tame w w'→K d' r' w'.heap→Agree N r'(a.put o.dst v)→DecOk d' r'→next(a.put o.dst v) w'):
  wpOpIn(FW ro) n P ops Q i next a w:=by
 unfold wpOpIn;rw[hi];simp only[qs hw ha hd];cases b with
 |true=>exact OQ hs ha hd fun v w' r' ht hK ha' hd'=>hk v w' _ r' ht hK ha' hd'
 |false=>
  obtain⟨r',hr',ha',hd'⟩:=vF(dv:=.u) hs ha hd rfl;exact⟨fun _ _=>trivial,hk undef w _ r'(Tame.refl w) hr' ha' hd'⟩
theorem OP{N:Nat}{ek:Option(Kind×Kind)}{ops:List Oper}{o:Oper}{os:List Oper}{d:u3}{K:cD→af→Prop}{r:cD}{h:af}:EC P N ek ops (o::os) d K r h=
 (match jn ops d o with
 |some true=>Tz P N ek o r (fun r' h'=>EC P N ek ops os (su d o (JM d o.op)) K r' h') h
 |some false=>Am N o undef r fun r'=>EC P N ek ops os (su d o .u) K r' h
 |none=>match E3 ops o with
  |none=>False
  |some t=>match ku r t with
   |some (.bool b)=>CondP b
    (G9 P N ek ops o ((t,.t)::d) ((t,.bool true)::r) h fun d' r' h'=>EC P N ek ops os d' K r' h')
    (G9 P N ek ops o ((t,.f)::d) ((t,.bool false)::r) h fun d' r' h'=>EC P N ek ops os d' K r' h')
   |_=>False):=rfl
theorem GS{N:Nat}{ek:Option(Kind×Kind)}{ops:Array Oper}{o:Oper}{i:Nat}{d:u3}{r:cD}{a:Act}{w:World}{K:u3→cD→af→Prop}{next:Act→World→Prop}{Q:Exit→Act→World→Prop}
  (hi:ops[i]?=some o)(ha:Agree N r a)(hd:DecOk d r)(hs:G9 P N ek ops.toList o d r w.heap K)
  (hk:∀v w' d' r',Tame w w'→K d' r' w'.heap→Agree N r'(a.put o.dst v)→DecOk d' r'→next(a.put o.dst v) w'):
  wpOpIn(FW ro) n P ops Q i next a w:=by
 unfold G9 at hs;cases hw:jn ops.toList d o with
 |none=>rw[hw]at hs;exact hs.elim
 |some b=>rw[hw]at hs;exact Eg(ek:=ek) hi hw ha hd(by cases b<;>exact hs) hk
theorem EB{N:Nat}{ek:Option(Kind×Kind)}{ops:Array Oper}{W:Nat→Prop}(hW:∀o∈ops.toList,∀d,o.dst=some d→W d){a0:Act}{w0:World}{K:cD→af→Prop}{Q:Exit→Act→World→Prop}
  (hQ:∀r a w,Agree N r a→Fr W a0 w0 a w→K r w.heap→Q .normal a w):
  ∀(l:List Oper) (i:Nat),ops.toList.drop i=l→∀(d:u3) (r:cD) (a:Act) (w:World),EC P N ek ops.toList l d K r w.heap→Agree N r a→DecOk d r→Fr W a0 w0 a w→
   wpOpsIn (FW ro) n P ops Q (List.range' i l.length) a w
 | [],i,_,d,r,a,w,hs,ha,hd,hf=>hQ r a w ha hf hs
 |o::os,i,hdr,d,r,a,w,hs,ha,hd,hf=>by
  have hi:ops[i]?=some o:=by
   rw[←bv];have:(ops.toList.drop i)[0]?=some o:=by rw[hdr];rfl
   simpa using this
  have hmem:o∈ops.toList:=List.mem_of_getElem? (by rw[bv];exact hi);have hdr':ops.toList.drop (i+1)=os:=by rw[←List.tail_drop,hdr];rfl
  rw[ao,List.range'_succ,wpOpsIn_cons];rw[OP]at hs;have go:∀v w' d' r',Tame w w'→EC P N ek ops.toList os d' K r' w'.heap→Agree N r' (a.put o.dst v)→DecOk d' r'→wpOpsIn (FW ro) n P ops Q (List.range' (i+1) os.length) (a.put o.dst v) w':=
   fun v w' d' r' ht hK ha' hd'=>EB hW hQ os (i+1) hdr' d' r' _ w' hK ha' hd' (hf.put (hW o hmem) v ht)
  cases hw:jn ops.toList d o with
  |some b=>
   rw[hw]at hs;exact Eg (ek:=ek) (K:=fun d' r' h'=>EC P N ek ops.toList os d' K r' h') hi hw ha hd (by cases b<;>exact hs) go
  |none=>
   rw[hw]at hs;simp only at hs;split at hs
   ·exact hs.elim
   ·rename_i t ht
    split at hs
    ·rename_i b hb
     cases b with
     |true=>exact GS hi (ha.known hb) (hd.known (dv:=.t) rfl) (hs.yes rfl) go
     |false=>exact GS hi (ha.known hb) (hd.known (dv:=.f) rfl) (hs.no rfl) go
    ·exact hs.elim
end Go.Lift
