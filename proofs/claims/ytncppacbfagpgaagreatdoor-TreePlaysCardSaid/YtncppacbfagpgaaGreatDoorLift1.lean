/- A part of the proof that the named laws of this program answer true, whatever the input. -/
import Derived.Test.YtncppacbfagpgaaGreatDoorLift0
import Derived.Laws.Append
import Derived.Laws.Cover3
import Derived.Laws.StructEq
import Derived.Laws.BytesString
import Derived.Lib.ConvBytes
open Array renaming ext'→dg,getElem?_toList→bJ,mem_of_getElem?→pm,mem_filter→pK
open Bool renaming and_eq_true→bm,false_eq_true→dG
open ByteArray renaming data_extract→pb
open List renaming extract_eq_take_drop→gt,map_cons→cq,map_map→qW,take_of_length_le→bA,length_cons→az,cons_append→dP,replicate→eg,length_eq_zero_iff→aG,getElem?_eq_getElem→af
open Nat renaming beq→bN,add_assoc→kT,ble→wU,eq_of_beq_eq_true→aX,le_of_ble_eq_true→i7,add_zero→cX,zero_add→aF,le_add_right→pH,min→dY
open Option renaming some→bK,isSome_iff_exists→gP,map_some→gm
open Prod renaming mk→oU
open UInt8 renaming ofNat→fW
namespace Go.Lift
open Go
def RC(S:Option (ad→Prop))(h:ad):Prop:=match S with|none=>True|some f=>f h
def Yv(P:Program)(s:Sem Value)(K:RK)(h:ad):Prop:=∃v S,K v S∧RC S h∧∀w:World,RC S w.heap→s.run P w=.ok v w
theorem Yv.of_pure{P:Program}{s:Sem Value}{K:RK}{h:ad}{v:Value}(hk:K v none)(hr:∀w:World,s.run P w=.ok v w):Yv P s K h:=
 ⟨v,none,hk,trivial,fun w _=>hr w⟩
variable {P:Program}
theorem vQ{t:TypeId}{f:Nat}{u:TypeId}{off:Nat}(h:vR P t f=some (u,off)):
  ∃fs g,P.underlying t=some (.struct fs)∧fs[f]? =some g∧g.type=u∧g.offset=off:=by
 unfold vR at h;split at h
 ·rename_i fs hu
  split at h
  ·rename_i g hg
   simp only[bK.injEq,oU.injEq]at h;exact⟨fs,g,hu,by simpa using hg,h.1,h.2⟩
  ·cases h
 ·cases h
theorem xT{t:TypeId}(h:bN (bZ P t) 0=false)(w:World):(sizeOf t).run P w=.ok (bZ P t) w:=by
 unfold bZ at h⊢;cases hi:P.info? t with
 |none=>rw[hi]at h;cases h
 |some i=>simp[sizeOf,cU hi]
theorem Cl{t:TypeId}{f:Nat}{u:TypeId}{off:Nat}{a:Addr}{K:RK}{h:ad}(hf:vR P t f=some (u,off))
  (hk:bif bN (bZ P u) 0 then False else K (.pointer (some (adr a off))) none):Yv P (Instr.fieldAt t (.pointer (some a)) f) K h:=by
 obtain⟨fs,g,hu,hg,rfl,rfl⟩:=vQ hf;cases hz:bN (bZ P g.type) 0 with
 |true=>rw[hz]at hk;exact hk.elim
 |false=>
  rw[hz]at hk;refine .of_pure hk fun w=>?_
  have hne:bZ P g.type≠0:=fun e=>by rw[e]at hz;cases hz
  simp only[Instr.fieldAt,Sem.run_bind,aB hu,Result.andThen_ok,hg,Instr.sureAddr,Sem.run_pure,fieldPlace,xT hz];simp[hne,tC]
theorem uR{t:TypeId}{i:TypeInfo}(_:P.info? t=some i)(hu:∃d,P.underlying t=some d)(w:World):(isAgg t).run P w=.ok (uS P t) w:=by
 obtain⟨d,hd⟩:=hu;simp only[isAgg,Sem.run_bind,aB hd,Result.andThen_ok];unfold uS;rw[hd];cases d<;>rfl
theorem yY{op:BinOp}{k k':IntKind}{a b:Int}{K:RK}{h:ad}(hs:op=.shl∨op=.shr)(hv:K8 op k a b K):Yv P (Op.shift op k a k' b) K h:=by
 rcases hs with rfl|rfl
 ·obtain⟨h0,hk⟩:=hv
  refine .of_pure hk fun w=>?_
  simp[Op.shift,Int.not_lt.2 h0]
 ·obtain⟨h0,hk⟩:=hv
  refine .of_pure hk fun w=>?_
  simp[Op.shift,Int.not_lt.2 h0]
theorem LV{op:BinOp}{k:IntKind}{a b:Int}{K:RK}{h:ad}(hv:TS op k a b K)(hs:op≠ .shl∧op≠ .shr):Yv P (binOp op 0 (.int k a) (.int k b)) K h:=by
 cases op<;>simp only[TS]at hv
 case quo=>obtain⟨h0,hk⟩:=hv;exact .of_pure hk fun w=>by simp[binOp,Op.intDiv,h0]
 case rem=>obtain⟨h0,hk⟩:=hv;exact .of_pure hk fun w=>by simp[binOp,Op.intDiv,h0]
 all_goals exact .of_pure hv fun w=>by simp[binOp,Op.intArith,Op.intBits,Op.intCmp]
theorem Eb(op:BinOp)(t:TypeId)(k k':IntKind)(a b:Int):binOp op t (.int k a) (.int k' b)=binOp op 0 (.int k a) (.int k' b):=by
 cases op<;>rfl
theorem K4{op:BinOp}{t:TypeId}{a b:ByteArray}{K:RK}{h:ad}(hv:TB op a b K):Yv P (binOp op t (.string a) (.string b)) K h:=by
 cases op<;>simp only[TB]at hv
 case add=>
  obtain⟨h0,hk⟩:=hv;refine .of_pure hk fun w=>?_
  have:¬(((a.size+b.size:Nat):Int)>IntKind.i64.max):=by
   have:IntKind.i64.max=9223372036854775807:=by decide
   omega
  simp only[binOp,Op.stringOp,if_neg this,Sem.run_pure]
 all_goals exact .of_pure hv fun w=>by simp[binOp,Op.stringOp]
theorem p8{t:TypeId}{x y:Value}{b:Bool}{w:World}(h:∀d,(Op.equalIn (d+1) t x y).run P w=.ok b w):(Op.equal t x y).run P w=.ok b w:=h 9999
theorem DY{t:TypeId}{e:TypeId}(hu:P.underlying t=some (.pointer e))(a:Option Addr)(w:World):(Op.equal t (.pointer a) (.pointer none)).run P w=.ok a.isNone w:=by
 refine p8 fun d=>?_
 simp only[Op.equalIn,Sem.run_bind,aB hu,Result.andThen_ok];cases a<;>rfl
theorem L5(op:BinOp)(t:TypeId)(x y:Operand)(a b:Value)(h:∀c d,a=.agg c→b=.agg d→False)(hi:a=.nilIface→b=.nilIface→False)(w:World):
  (eqGuard op t x y a b).run P w=.ok () w:=by
 cases op;case eql=>cases a<;>cases b<;>first|rfl|exact(hi rfl rfl).elim|exact(h _ _ rfl rfl).elim
 case neq=>cases a<;>cases b<;>first|rfl|exact(hi rfl rfl).elim|exact(h _ _ rfl rfl).elim
 all_goals rfl
theorem Pc(t:TypeId)(x y:Value)(hx:∀k a,x≠ .int k a)(hs:∀s,x≠ .string s)(hf:∀k a,x≠ .float k a)(hc:∀k a b,x≠ .complex k a b):binOp .eql t x y=(do pure (.bool (←Op.equal t x y))):=by
 cases x<;>first|rfl|exact absurd rfl (hx _ _)|exact absurd rfl (hs _)|exact absurd rfl (hf _ _)|exact absurd rfl (hc _ _ _)
theorem Pb(t:TypeId)(x y:Value)(hx:∀k a,x≠ .int k a)(hs:∀s,x≠ .string s)(hf:∀k a,x≠ .float k a)(hc:∀k a b,x≠ .complex k a b):binOp .neq t x y=(do pure (.bool (!(←Op.equal t x y)))):=by
 cases x<;>first|rfl|exact absurd rfl (hx _ _)|exact absurd rfl (hs _)|exact absurd rfl (hf _ _)|exact absurd rfl (hc _ _ _)
theorem p9{t:TypeId}{neg:Bool}{x y:Value}{b:Bool}{w:World}(he:(Op.equal t x y).run P w=.ok b w)
  (hx:∀k a,x≠ .int k a)(hs:∀s,x≠ .string s)(hf:∀k a,x≠ .float k a)(hc:∀k a b,x≠ .complex k a b):
  (binOp (bif neg then .neq else .eql) t x y).run P w=.ok (.bool (bif neg then !b else b)) w:=by
 cases neg
 ·simp only[cond_false,Pc t x y hx hs hf hc,Sem.run_bind,he,Result.andThen_ok,Sem.run_pure]
 ·simp only[cond_true,Pb t x y hx hs hf hc,Sem.run_bind,he,Result.andThen_ok,Sem.run_pure]
theorem Dz{t:TypeId}{neg:Bool}{x y:Value}{K:RK}{h:ad}(hv:Sm P t neg x y K):
  (∀c d,x=.agg c→y=.agg d→False)∧(x=.nilIface→y=.nilIface→False)∧Yv P (binOp (bif neg then .neq else .eql) t x y) K h:=by
 unfold Sm at hv;split at hv
 ·rename_i e a hu
  refine⟨nofun,nofun,.of_pure hv fun w=>?_⟩
  exact p9 (DY hu a w) nofun nofun nofun nofun
 ·rename_i k e a hu
  refine⟨nofun,nofun,.of_pure hv fun w=>?_⟩
  refine p9 ?_ nofun nofun nofun nofun;refine p8 fun d=>?_
  simp only[Op.equalIn,Sem.run_bind,aB hu,Result.andThen_ok];cases a<;>rfl
 ·rename_i e a _ _ _ _ hu
  refine⟨nofun,nofun,.of_pure hv fun w=>?_⟩
  refine p9 ?_ nofun nofun nofun nofun;refine p8 fun d=>?_
  simp only[Op.equalIn,Sem.run_bind,aB hu,Result.andThen_ok];cases a<;>rfl
 ·exact hv.elim
theorem vD{w:World}{a b:Addr}(ha:gS w.heap a)(hb:gS w.heap b):(sameAddr a b).run P w=.ok (a==b) w:=by
 obtain⟨ca,ea,ha,sa⟩:=ha;obtain⟨cb,eb,hb,sb⟩:=hb;by_cases hbl:a.block=b.block
 ·simp[sameAddr,hbl]
 ·have hne:(a==b)=false:=by
   rw[beq_eq_false_iff_ne];intro e;exact hbl (by rw[e])
  have s1:w.shape? a.block=some (ea,ca.size):=by simp[World.shape?,ha]
  have s2:w.shape? b.block=some (eb,cb.size):=by simp[World.shape?,hb]
  have f1:∀n,w.frozen? ({block:=a.block,off:=n}:Addr)=false:=fun n=>by simp[World.frozen?,ha]
  have f2:∀n,w.frozen? ({block:=b.block,off:=n}:Addr)=false:=fun n=>by simp[World.frozen?,hb]
  have g1:w.frozen? a=false:=by simp[World.frozen?,ha]
  have g2:w.frozen? b=false:=by simp[World.frozen?,hb]
  obtain⟨m,hm⟩:∃m,ca.size=m+1:=⟨ca.size-1,by omega⟩
  obtain⟨n,hn⟩:∃n,cb.size=n+1:=⟨cb.size-1,by omega⟩
  simp[sameAddr,hbl,noView,viewAt,mayBeOne,stringish,s1,s2,f1,f2,g1,g2,hm,hn,hne]
theorem Gr{t:TypeId}{neg:Bool}{x y:Value}{K:RK}{h:ad}(hv:U8 P t neg x y K h):
  (∀c d,x=.agg c→y=.agg d→False)∧(x=.nilIface→y=.nilIface→False)∧Yv P (binOp (bif neg then .neq else .eql) t x y) K h:=by
 unfold U8 at hv;split at hv
 ·rename_i a b hu
  refine⟨nofun,nofun,.of_pure hv fun w=>?_⟩
  refine p9 ?_ nofun nofun nofun nofun;refine p8 fun d=>?_
  simp only[Op.equalIn,Sem.run_bind,aB hu,Result.andThen_ok,Sem.run_pure]
 ·rename_i e a b hu
  obtain⟨hz,hp,hk⟩:=hv;refine⟨nofun,nofun,_,_,hk,hp,fun w hw=>?_⟩
  refine p9 ?_ nofun nofun nofun nofun;have hz':bN (bZ P e) 0=false:=by
   cases hb:bN (bZ P e) 0 with
   |false=>rfl
   |true=>rw[hb]at hz;exact hz.elim
  have hne:bZ P e≠0:=fun e=>by rw[e]at hz';cases hz'
  refine p8 fun d=>?_
  simp only[Op.equalIn,Sem.run_bind,aB hu,Result.andThen_ok];cases a with
  |none=>cases b<;>rfl
  |some a=>cases b with
   |none=>rfl
   |some b=>
    obtain⟨h1,h2⟩:=hw a b rfl rfl;simp only[Sem.run_bind,xT hz',Result.andThen_ok,ne_eq,hne,not_false_eq_true,if_true,vD h1 h2];rfl
 ·exact hv.elim
theorem Lv{op:BinOp}{t:TypeId}{x y:Value}{K:RK}{h:ad}(hv:TI P op t x y K h):
  (∀c d,x=.agg c→y=.agg d→False)∧(x=.nilIface→y=.nilIface→False)∧Yv P (binOp op t x y) K h:=by
 unfold TI at hv;split at hv
 ·rename_i k a k' b
  refine⟨nofun,nofun,?_⟩;rw[Eb];split at hv
  ·exact yY (k':=k') (.inl rfl) hv
  ·exact yY (k':=k') (.inr rfl) hv
  ·rename_i h1 h2
   cases hk:Hu k' k with
   |false=>rw[hk]at hv;exact hv.elim
   |true=>rw[hk]at hv;have:=zo hk;subst this;exact LV hv ⟨h1,h2⟩
 ·exact⟨nofun,nofun,K4 hv⟩
 ·split at hv
  ·exact Gr (neg:=false) hv
  ·exact Gr (neg:=true) hv
  ·exact hv.elim
theorem Jn{u:TypeId}{cs:List Value}{off:Nat}(hu:((P.underlying u).isSome&&(P.info? u).isSome)=true){w:World}(ha:uS P u=true):
  (part u cs.toArray off).run P w=.ok (.agg ((cs.drop off).take (bZ P u)).toArray) w:=by
 simp only[bm,gP]at hu;obtain⟨hu,i,hi⟩:=hu;have hs:(sizeOf u).run P w=.ok (bZ P u) w:=by simp[sizeOf,cU hi,bZ,hi]
 simp only[part,Sem.run_bind,uR hi hu,Result.andThen_ok,ha,if_true,hs,Sem.run_pure];congr 2
 apply dg;simp[gt]
theorem F0{u:TypeId}{cs:List Value}{off:Nat}(hu:((P.underlying u).isSome&&(P.info? u).isSome)=true){w:World}(ha:uS P u=false){v:Value}(hc:cs[off]? =some v):
  (part u cs.toArray off).run P w=.ok v w:=by
 simp only[bm,gP]at hu;obtain⟨hu,i,hi⟩:=hu;have hc':cs.toArray[off]? =some v:=by simpa using hc
 simp only[part,Sem.run_bind,uR hi hu,Result.andThen_ok,ha,dG,if_false,hc',Sem.run_pure]
theorem xZ{h:ad}:∀{l m:List (Option Addr×Option Addr)},ql h (l++m)→ql h l∧ql h m
 | [],_,h=>⟨trivial,h⟩
 |(_,_)::_,_,h=>⟨⟨h.1,(xZ h.2).1⟩,(xZ h.2).2⟩
theorem JM{t:TypeId}{x y:Value}{b:Bool}{l:List (Option Addr×Option Addr)}(he:QI P t x y=some (b,l)){w:World}(hp:ql w.heap l)(d:Nat):
  (Op.equalIn (d+1) t x y).run P w=.ok b w:=by
 unfold QI at he;split at he
 ·rename_i k0 k a k' c hu
  cases hk:Hu k' k with
  |false=>rw[hk]at he;cases he
  |true=>
   rw[hk]at he;have:=zo hk;subst this;cases he;exact run_equalIn_int w d t _ _ _ _ hu
 ·rename_i a c hu
  cases he;exact run_equalIn_bool w d t _ _ hu
 ·rename_i a c hu
  cases he;exact run_equalIn_string w d t _ _ hu
 ·rename_i e a c hu
  cases hz:bN (bZ P e) 0 with
  |true=>rw[hz]at he;cases he
  |false=>
   rw[hz]at he;cases he;have hne:bZ P e≠0:=fun e=>by rw[e]at hz;cases hz
   simp only[Op.equalIn,Sem.run_bind,aB hu,Result.andThen_ok];cases a with
   |none=>cases c<;>rfl
   |some a=>cases c with
    |none=>rfl
    |some c=>
     obtain⟨h1,h2⟩:=hp.1 a c rfl rfl;simp only[Sem.run_bind,xT hz,Result.andThen_ok,ne_eq,hne,not_false_eq_true,if_true,vD h1 h2];rfl
 ·cases he
theorem DZ{rec:TypeId→List Value→List Value→Option (Bool×List (Option Addr×Option Addr))}{d:Nat}{xs ys:List Value}{w:World}
  (hr:∀t us vs b l,rec t us vs=some (b,l)→ql w.heap l→(Op.equalIn (d+1) t (.agg us.toArray) (.agg vs.toArray)).run P w=.ok b w):
  ∀(fs:List Field) (b:Bool) (l:List (Option Addr×Option Addr)),SE P rec xs ys fs=some (b,l)→ql w.heap l→(Op.eqFields (d+1) xs.toArray ys.toArray fs).run P w=.ok b w
 | [],b,l,he,_=>by cases he;rfl
 |f::fs,b,l,he,hp=>by
  unfold SE at he;split at he
  ·cases he
  ·rename_i hn
   cases hi:((P.underlying f.type).isSome&&(P.info? f.type).isSome)with
   |false=>rw[hi]at he;cases he
   |true=>
    rw[hi]at he;simp only[cond_true]at he;split at he
    ·rename_i b1 l1 c m e1 e2
     cases he;obtain⟨p1,p2⟩:=xZ hp;have rest:=DZ hr fs c m e2 p2;have h1:∃u v,(part f.type xs.toArray f.offset).run P w=.ok u w∧(part f.type ys.toArray f.offset).run P w=.ok v w∧(Op.equalIn (d+1) f.type u v).run P w=.ok b1 w:=by
      cases ha:uS P f.type with
      |true=>
       rw[ha]at e1;exact⟨_,_,Jn hi ha,Jn hi ha,hr _ _ _ _ _ e1 p1⟩
      |false=>
       rw[ha]at e1;simp only[cond_false]at e1;split at e1
       ·rename_i x y hx hy
        exact⟨x,y,F0 hi ha hx,F0 hi ha hy,JM e1 p1 d⟩
       ·cases e1
     obtain⟨u,v,r1,r2,r3⟩:=h1;simp only[Op.eqFields,ne_eq,hn,not_false_eq_true,if_true,Sem.run_bind,r1,r2,r3,Result.andThen_ok];cases b1
     ·rfl
     ·exact rest
    ·cases he
theorem yj{w:World}:∀(m:Nat) (t:TypeId) (xs ys:List Value) (b:Bool) (l:List (Option Addr×Option Addr)),QJ P m t xs ys=some (b,l)→ql w.heap l→
  ∀d,(Op.equalIn (d+m+1) t (.agg xs.toArray) (.agg ys.toArray)).run P w=.ok b w
 |0,_,_,_,_,_,he,_,_=>by cases he
 |m+1,t,xs,ys,b,l,he,hp,d=>by
  unfold QJ at he;split at he
  ·rename_i fs hu
   cases hs:P.stoodInHeld t with
   |true=>rw[hs]at he;cases he
   |false=>
    rw[hs]at he;have hf:P.fieldsOf t=fs:=by simp[Program.fieldsOf,hu]
    rw[run_equalIn_struct w _ t _ _ (by rw[hf];exact hu) hs,hf];exact DZ (d:=d+m) (fun t us vs b l h1 h2=>yj m t us vs b l h1 h2 d) fs.toList b l he hp
  ·cases he
theorem Gs{neg b:Bool}{K:RK}{h:ad}{l:List (Option Addr×Option Addr)}(hk:Vs neg b K h l):∃S,K (.bool (bif neg then !b else b)) S∧RC S h∧∀h',RC S h'→ql h' l:=by
 cases l with
 |nil=>exact⟨none,hk,trivial,fun _ _=>trivial⟩
 |cons p l=>exact⟨_,hk.2,hk.1,fun _ h=>h⟩
theorem Lw{op:BinOp}{t:TypeId}{xs ys:Array Value}{x y:Operand}{K:RK}{h:ad}(hq:TK P op t xs.toList ys.toList K h):
  ∃v S,K v S∧RC S h∧∀w:World,RC S w.heap→(do eqGuard op t x y (.agg xs) (.agg ys);binOp op t (.agg xs) (.agg ys):Sem Value).run P w=.ok v w:=by
 unfold TK at hq;cases hg:P.eqGuardType P.depth t with
 |true=>rw[hg]at hq;exact hq.elim
 |false=>
  rw[hg]at hq;simp only[cond_false]at hq;split at hq
  ·split at hq
   ·rename_i b l he
    obtain⟨S,h1,h2,h3⟩:=Gs hq;refine⟨_,S,h1,h2,fun w hw=>?_⟩
    have:=yj 10 t _ _ b l he (h3 _ hw) 9989;simp only[Array.toArray_toList]at this;simp only[Sem.run_bind,run_eqGuard_agg w _ t x y _ _ hg,Result.andThen_ok,run_eql_struct,this];rfl
   ·exact hq.elim
  ·split at hq
   ·rename_i b l he
    obtain⟨S,h1,h2,h3⟩:=Gs hq;refine⟨_,S,h1,h2,fun w hw=>?_⟩
    have:=yj 10 t _ _ b l he (h3 _ hw) 9989;simp only[Array.toArray_toList]at this;simp only[Sem.run_bind,run_eqGuard_agg w _ t x y _ _ hg,Result.andThen_ok,run_neq_struct,this];rfl
   ·exact hq.elim
  ·exact hq.elim
theorem Ov{op:UnOp}{x:Value}{K:RK}{h:ad}(hv:Vj op x K):Yv P (Op.unary op x) K h:=by
 unfold Vj at hv;split at hv
 ·exact .of_pure hv fun w=>rfl
 ·exact .of_pure hv fun w=>rfl
 ·exact .of_pure hv fun w=>rfl
 ·exact hv.elim
theorem D7:∀(l:List UInt8) (s:ByteArray),(l.map fun b=>((b.toNat:Nat):Int)).foldl (fun r n=>r.push (fW n.toNat)) s=⟨s.data++l.toArray⟩
 | [],s=>by simp
 |b::l,s=>by
  simp only[cq,List.foldl_cons];rw[D7 l];congr 1
  have:fW ((b.toNat:Nat):Int).toNat=b:=by simp
  rw[this];apply dg;simp[ByteArray.push]
theorem DJ{e:TypeId}(h:LS P e=true):P.underlying e=some (.int .u8):=by
 unfold LS at h;split at h
 ·assumption
 ·cases h
theorem IU{w:World}{a:Addr}{vs:List Value}(hr:Row w.heap a vs):(loadCells a vs.length).run P w=.ok vs.toArray w:=by
 have:=run_firstCells_some (P:=P) w 1 vs.length a 0 0 vs (by simp) fun j v hv=>by rw[←tC];exact hr j v hv
 simpa[Builtin.firstCells]using this
theorem Jd{src dst:TypeId}{x:Value}{K:RK}{h:ad}(hv:Qe P src dst x K h):Yv P (convert src dst x) K h:=by
 unfold Qe at hv;split at hv
 ·rename_i k k' k'' n h1 h2
  exact .of_pure hv fun w=>by simp only[convert,Sem.run_bind,aB h1,aB h2,Result.andThen_ok];rfl
 ·rename_i s h1 h2
  exact .of_pure hv fun w=>by simp only[convert,Sem.run_bind,aB h1,aB h2,Result.andThen_ok];rfl
 ·rename_i e a n c h1 h2
  cases hu:LS P e with
  |false=>rw[hu]at hv;exact hv.elim
  |true=>
   rw[hu]at hv;obtain⟨s,hs,hk⟩:=hv;refine⟨_,_,hk,hs,fun w hw=>?_⟩
   rw[run_convert_bytes_string w src dst e a n c h1 (DJ hu) h2];obtain⟨hl,hw⟩:=hw;rcases hw with h0|⟨b,rfl,hr⟩
   ·have hs0:s=ByteArray.empty:=by
     have:s.data.toList= []:=by simpa[dS]using h0
     cases s with
     |mk d=>simp at this;subst this;rfl
    cases a with
    |none=>rw[hs0];rfl
    |some b=>
     have hn:n=0:=by rw[←hl,h0];rfl
     subst hn;have:=IU (P:=P) (w:=w) (a:=b) (vs:= []) fun i v hv=>by simp at hv
     rw[run_bytesToString w b 0 c [] (by simpa using this),hs0];rfl
   ·have:=IU (P:=P) hr
    rw[hl]at this;rw[run_bytesToString w b n c (s.data.toList.map fun b=>((b.toNat:Nat):Int)) (by rw[this,qW];rfl),D7]
    cases s;simp[ByteArray.empty,ByteArray.emptyWithCapacity];try rfl
 ·exact hv.elim
theorem LB{u:TypeId}{cs:Array Value}{off:Nat}{K:RK}{h:ad}(hu:∃d,P.underlying u=some d)(hi:∃i,P.info? u=some i)
  (hv:bif uS P u then K (.agg ((cs.toList.drop off).take (bZ P u)).toArray) none else(match cs.toList[off]? with|some v=>K v none|none=>False)):Yv P (part u cs off) K h:=by
 obtain⟨i,hi⟩:=hi;cases ha:uS P u with
 |true=>
  rw[ha]at hv;refine .of_pure hv fun w=>?_
  have hs:(sizeOf u).run P w=.ok (bZ P u) w:=by simp[sizeOf,cU hi,bZ,hi]
  simp only[part,Sem.run_bind,uR hi hu,Result.andThen_ok,ha,if_true,hs,Sem.run_pure];congr 2
  apply dg;simp[gt]
 |false=>
  rw[ha]at hv;simp only[cond_false]at hv;cases hc:cs.toList[off]? with
  |none=>rw[hc]at hv;exact hv.elim
  |some v=>
   rw[hc]at hv;refine .of_pure hv fun w=>?_
   have hc':cs[off]? =some v:=by simpa using hc
   simp only[part,Sem.run_bind,uR hi hu,Result.andThen_ok,ha,dG,if_false,hc',Sem.run_pure]
def vu(P:Program)(v:Option Value)(d y n:Nat):Prop:=
 match v with
 |some x=>∀c w,(Instr.sliceBound x y c).run P w=.ok n w
 |none=>n=d
theorem mq{v:Option Value}{d y:Nat}{K:Nat→Prop}(hv:QZ v d y K):∃n,K n∧vu P v d y n:=by
 unfold QZ at hv;split at hv
 ·exact⟨d,hv,rfl⟩
 ·rename_i k i
  obtain⟨⟨h0,h1⟩,hk⟩:=hv;refine⟨i.toNat,hk,fun c w=>?_⟩
  simp[Instr.sliceBound,asIntOf,h0,h1]
 ·exact hv.elim
theorem pp{isS:Bool}{len cap n l:Nat}{lo hi:Option Value}(hn:vu P hi len cap n)(hl:vu P lo 0 n l)(w:World):
  (Instr.sliceBounds isS len cap lo hi none).run P w=.ok (l,n,cap) w:=by
 cases hi with
 |none=>
  cases lo with
  |none=>simp only[vu]at hn hl;subst hn;subst hl;simp[Instr.sliceBounds]
  |some lo=>simp only[vu]at hn hl;subst hn;simp[Instr.sliceBounds,hl]
 |some hi=>
  cases lo with
  |none=>simp only[vu]at hn hl;subst hl;simp[Instr.sliceBounds,hn]
  |some lo=>simp only[vu]at hn hl;simp[Instr.sliceBounds,hn,hl]
theorem AE{isS:Bool}{len cap n l m:Nat}{lo:Option Value}{hi mx:Value}(hm:vu P (some mx) 0 cap m)(hn:vu P (some hi) 0 m n)(hl:vu P lo 0 n l)(w:World):
  (Instr.sliceBounds isS len cap lo (some hi) (some mx)).run P w=.ok (l,n,m) w:=by
 cases lo with
 |none=>simp only[vu]at hm hn hl;subst hl;simp[Instr.sliceBounds,hm,hn]
 |some lo=>simp only[vu]at hm hn hl;simp[Instr.sliceBounds,hm,hn,hl]
theorem xQ(a:Option Addr)(l m size:Nat):(if m=l then a else a.map (·.add (l*size)))=aV a l m size:=by
 unfold aV;split
 ·rfl
 ·congr 1;funext x;rw[tC]
theorem pu{t:TypeId}{K:Prop}(h:Qm P t K):K∧∀w,(sizeOf t).run P w=.ok (bZ P t) w:=by
 unfold Qm at h;cases hi:P.info? t with
 |none=>rw[hi]at h;exact h.elim
 |some i=>rw[hi]at h;exact⟨h,fun w=>by simp[sizeOf,cU hi,bZ,hi]⟩
theorem Hd{t:TypeId}{x:Value}{f:Nat}{K:RK}{h:ad}(hv:Lr P t x f K):Yv P (Instr.field t x f) K h:=by
 unfold Lr at hv;split at hv
 ·rename_i u off cs hf
  obtain⟨fs,g,hu,hg,rfl,rfl⟩:=vQ hf;cases hb:((P.underlying g.type).isSome&&(P.info? g.type).isSome)with
  |false=>rw[hb]at hv;exact hv.elim
  |true=>
   rw[hb]at hv;simp only[bm,gP]at hb;obtain⟨v,S,hk,hS,hr⟩:=LB (cs:=cs) (off:=g.offset) (h:=h) hb.1 hb.2 hv;refine⟨v,S,hk,hS,fun w hw=>?_⟩
   have:=hr w hw;simp only[Instr.field,Sem.run_bind,aB hu,Result.andThen_ok,hg,asAgg,Sem.run_pure,this]
 ·exact hv.elim
theorem AO{t:TypeId}{x i:Value}{K:RK}{h:ad}(hv:xY P t x i K):Yv P (Instr.indexAt t x i) K h:=by
 unfold xY at hv;split at hv
 ·rename_i n e a k i hu
  obtain⟨⟨⟨h0,h1⟩,hk⟩,hz⟩:=pu hv;refine .of_pure hk fun w=>?_
  simp[Instr.indexAt,asIntOf,aB hu,Instr.sureAddr,h0,h1,hz,tC]
 ·rename_i e b len cap k i hu
  obtain⟨⟨⟨h0,h1⟩,a,rfl,hk⟩,hz⟩:=pu hv;refine .of_pure hk fun w=>?_
  simp[Instr.indexAt,asIntOf,aB hu,h0,h1,hz,tC]
 ·exact hv.elim
theorem Hc{t:TypeId}{x i:Value}{K:RK}{h:ad}(hv:Lq P t x i K):Yv P (Instr.index t x i) K h:=by
 unfold Lq at hv;split at hv
 ·rename_i s k i hu
  obtain⟨b,h0,hb,hk⟩:=hv;refine .of_pure hk fun w=>?_
  simp[Instr.index,asIntOf,aB hu,h0,hb]
 ·exact hv.elim
theorem Ha{t:TypeId}{x:Value}{lo hi mx:Option Value}{K:RK}{h:ad}(hv:Ln P t x lo hi mx K):Yv P (Instr.sliceAt t x lo hi mx) K h:=by
 unfold Ln at hv;split at hv
 ·rename_i s hu
  cases mx with
  |some _=>exact hv.elim
  |none=>
   obtain⟨n,hv,hn⟩:=mq (P:=P) hv;obtain⟨l,hv,hl⟩:=mq (P:=P) hv;refine .of_pure hv fun w=>?_
   simp[Instr.sliceAt,Instr.slice,aB hu,pp hn hl]
 ·rename_i e a len cap hu
  obtain⟨hv,hz⟩:=pu hv;cases mx with
  |none=>
   obtain⟨n,hv,hn⟩:=mq (P:=P) hv;obtain⟨l,hv,hl⟩:=mq (P:=P) hv;refine .of_pure hv fun w=>?_
   simp[Instr.sliceAt,Instr.slice,aB hu,pp hn hl,hz,xQ]
  |some m=>
   cases hi with
   |none=>exact hv.elim
   |some hi=>
    obtain⟨m',hv,hm⟩:=mq (P:=P) hv;obtain⟨n,hv,hn⟩:=mq (P:=P) hv;obtain⟨l,hv,hl⟩:=mq (P:=P) hv;refine .of_pure hv fun w=>?_
    simp[Instr.sliceAt,Instr.slice,aB hu,AE hm hn hl,hz,xQ]
 ·rename_i n e a hu
  obtain⟨hv,hz⟩:=pu hv;cases mx with
  |some _=>exact hv.elim
  |none=>
   obtain⟨m,hv,hn⟩:=mq (P:=P) hv;obtain⟨l,hv,hl⟩:=mq (P:=P) hv;refine .of_pure hv fun w=>?_
   have ha:(some (if n=l then a else a.add (l*bZ P e)))=aV (some a) l n (bZ P e):=by
    rw[←xQ];split<;>rfl
   simp[Instr.sliceAt,aB hu,Instr.sureAddr,pp hn hl,hz,ha]
 ·exact hv.elim
def oE(d:TypeDesc)(c:CK):Prop:=(∃i,d=.int i∧c=.int i)∨(d=.string∧c=.str)∨(d=.bool∧c=.bool)
theorem vK{t:TypeId}{c:CK}{e:TypeId}(h:Jy P t=some (c,e)):∃k d,P.underlying t=some (.map k e)∧P.underlying k=some d∧oE d c:=by
 unfold Jy at h;split at h
 ·rename_i k e' hu
  split at h
  ·rename_i i hk
   simp only[bK.injEq,oU.injEq]at h;obtain⟨rfl,rfl⟩:=h;exact⟨k,_,hu,hk,.inl ⟨i,rfl,rfl⟩⟩
  ·rename_i hk
   simp only[bK.injEq,oU.injEq]at h;obtain⟨rfl,rfl⟩:=h;exact⟨k,_,hu,hk,.inr (.inl ⟨rfl,rfl⟩)⟩
  ·rename_i hk
   simp only[bK.injEq,oU.injEq]at h;obtain⟨rfl,rfl⟩:=h;exact⟨k,_,hu,hk,.inr (.inr ⟨rfl,rfl⟩)⟩
  ·cases h
 ·cases h
theorem BD{d:TypeDesc}{c:CK}(hd:oE d c)(x y:c.den):Instr.sameNow d (c.enc x) (c.enc y)=some (g6 (c.enc x) (c.enc y)):=by
 rcases hd with⟨i,rfl,rfl⟩|⟨rfl,rfl⟩|⟨rfl,rfl⟩
 ·simp[Instr.sameNow,CK.enc,g6]
 ·simp[Instr.sameNow,CK.enc,g6]
 ·simp[Instr.sameNow,CK.enc,g6]
theorem BP{d:TypeDesc}{c:CK}(hd:oE d c)(x:c.den):∀(es:List MapEntry) (i:Nat),DI c es→
  ∃r,Instr.findNow d (c.enc x) es i=some r∧r.map (·.2)=JL (c.enc x) es
 | [],i,_=>⟨none,rfl,rfl⟩
 |e::es,i,h=>by
  obtain⟨y,hy⟩:=h e (by simp);have hs:=BD hd x y;rw[←hy]at hs;simp only[Instr.findNow,JL];cases hb:g6 (c.enc x) e.key with
  |true=>rw[hs,hb];exact⟨some (i,e.val),rfl,rfl⟩
  |false=>rw[hs,hb];exact BP hd x es (i+1) fun e' he'=>h e' (by simp[he'])
theorem JU{empty:Bool}{k:TypeId}{d:TypeDesc}{c:CK}(hd:oE d c)(hu:P.underlying k=some d)(v:Value)(n:Nat)(w:World):(Instr.checkKey empty (n+1) k v).run P w=.ok () w:=by
 unfold Instr.checkKey;simp only[Sem.run_bind,aB hu,Result.andThen_ok];rcases hd with⟨i,rfl,rfl⟩|⟨rfl,rfl⟩|⟨rfl,rfl⟩<;>rfl
theorem uA{k:TypeId}{d:TypeDesc}{c:CK}(hd:oE d c)(hu:P.underlying k=some d)(x:c.den){es:List MapEntry}(h:DI c es)(w:World):
  ∃r,(Instr.findKey k (c.enc x) es).run P w=.ok r w∧Instr.findNow d (c.enc x) es 0=some r∧r.map (·.2)=JL (c.enc x) es:=by
 obtain⟨r,hr,hm⟩:=BP hd x es 0 h;refine⟨r,?_,hr,hm⟩;simp only[Instr.findKey,Sem.run_bind,aB hu,Result.andThen_ok,hr,Sem.run_pure]
theorem lN{w:World}{r:Nat}{es:Array MapEntry}{clock:Nat}(h:w.heap[r]? =some (.map es clock)):(getObj r).run P w=.ok (.map es clock) w:=by
 simp only[getObj,Sem.run,h]
theorem mY{empty:Bool}{k:TypeId}{d:TypeDesc}{c:CK}(hd:oE d c)(hu:P.underlying k=some d)(v:Value)(w:World):(Instr.checkKey empty 10000 k v).run P w=.ok () w:=
 JU hd hu v 9999 w
theorem LI{t:TypeId}{c:CK}{e k:TypeId}{d:TypeDesc}(hu:P.underlying t=some (.map k e))(hk:P.underlying k=some d)(hd:oE d c){m:Option Nat}{x:c.den}{z v:Value}{b ok:Bool}{w:World}
  (hz:(zeroValue e).run P w=.ok z w)(hm:Mn c z w.heap m (c.enc x) v b):
  (Instr.lookup t (.map m) (c.enc x) ok).run P w=.ok (bif ok then .tuple #[v,.bool b]else v) w:=by
 cases m with
 |none=>
  obtain⟨rfl,rfl⟩:=hm;simp only[Instr.lookup,Sem.run_bind,aB hu,Result.andThen_ok,Sem.run_pure,mY hd hk];obtain⟨r,h1,h2,h3⟩:=uA (P:=P) hd hk x (es:= []) (fun _ h=>by cases h) w
  simp only[Instr.findNow,bK.injEq]at h2;subst h2;simp[h1,hz]
 |some r=>
  obtain⟨es,clock,hb,hks,hv⟩:=hm;simp only[Instr.lookup,Sem.run_bind,aB hu,Result.andThen_ok,lN hb,Sem.run_pure,mY hd hk];obtain⟨r,h1,h2,h3⟩:=uA (P:=P) hd hk x hks w;simp only[h1,Result.andThen_ok];cases r with
  |none=>
   simp only[Option.map_none]at h3;rw[←h3]at hv;obtain⟨rfl,rfl⟩:=hv;simp[hz]
  |some r=>
   simp only[gm]at h3;rw[←h3]at hv;obtain⟨rfl,rfl⟩:=hv;cases ok<;>rfl
theorem fi{e:TypeId}{z:Value}(h:xb P e=some z)(w:World):(zeroValue e).run P w=.ok z w:=by
 unfold xb at h;cases hi:P.info? e with
 |none=>rw[hi]at h;cases h
 |some i=>rw[hi]at h;simp only at h;simp[zeroValue,cU hi,h]
theorem EX{t:TypeId}{x k:Value}{ok:Bool}{K:RK}{h:ad}(hv:Hb P t x k ok K h):Yv P (Instr.lookup t x k ok) K h:=by
 unfold Hb at hv;split at hv
 ·rename_i c e m hc
  obtain⟨kt,d,hu,hk,hd⟩:=vK hc;obtain⟨kx,rfl,hv⟩:=CK.dec_sound hv;split at hv
  ·rename_i ek z hek hz
   obtain⟨y,b,hm,hK⟩:=hv;exact⟨_,_,hK,hm,fun w hw=>LI hu hk hd (fi hz w) hw⟩
  ·exact hv.elim
 ·exact hv.elim
theorem Lp{t:TypeId}{x:Value}{ats:Array TypeId}{ty:TypeId}{K:RK}{h:ad}(hat:ats[0]? =some t) (hv:TG P t x K h):Yv P (Builtin.len_ ats ty #[x]) K h:=by
 unfold TG at hv;split at hv
 ·rename_i s hu
  exact .of_pure hv fun w=>by simp[Builtin.len_,hat,aB hu,goInt]
 ·rename_i n e _ hu
  exact .of_pure hv fun w=>by simp[Builtin.len_,hat,aB hu,goInt]
 ·rename_i e b n c hu
  exact .of_pure hv fun w=>by simp[Builtin.len_,hat,aB hu,goInt]
 ·rename_i k e m hu
  obtain⟨n,hm,hk⟩:=hv;refine⟨_,_,hk,hm,fun w hw=>?_⟩
  cases m with
  |none=>
   have:n=0:=hw;subst this;simp[Builtin.len_,hat,aB hu,goInt]
  |some r=>
   obtain⟨es,clock,hb,rfl⟩:=hw;simp[Builtin.len_,hat,aB hu,goInt,lN hb]
 ·exact hv.elim
theorem Lu{t:TypeId}{x:Value}{ats:Array TypeId}{ty:TypeId}{K:RK}{h:ad}(hat:ats[0]? =some t) (hv:TH P t x K):Yv P (Builtin.cap_ ats ty #[x]) K h:=by
 unfold TH at hv;split at hv
 ·rename_i e b n c hu
  exact .of_pure hv fun w=>by simp[Builtin.cap_,hat,aB hu,goInt]
 ·exact hv.elim
theorem zh{mx:Bool}{k:IntKind}:∀{vs:List Value} {a:Int} {f:Value→Prop},Hm mx k a vs f→∃v,f v∧∀w,(vs.foldlM (bif mx then Builtin.max2 else Builtin.min2) (Value.int k a):Sem Value).run P w=.ok v w
 | [],a,f,h=>⟨_,h,fun w=>by simp⟩
 | .int k' b::vs,a,f,h=>by
  simp only[Hm]at h;cases hk:Hu k' k with
  |false=>rw[hk]at h;exact h.elim
  |true=>
   rw[hk]at h;have:=zo hk;subst this;obtain⟨v,hf,hr⟩:=zh h;refine⟨v,hf,fun w=>?_⟩
   rw[←hr w];cases mx<;>simp[List.foldlM_cons,Builtin.max2,Builtin.min2]
theorem xm{mx:Bool}{vs:List Value}{f:Value→Prop}{ats:Array TypeId}{ty:TypeId}(h:CF mx vs f):∃v,f v∧∀w,(bif mx then Builtin.max_ ats ty vs.toArray else Builtin.min_ ats ty vs.toArray).run P w=.ok v w:=by
 unfold CF at h;split at h
 ·obtain⟨v,hf,hr⟩:=zh (P:=P) h
  refine⟨v,hf,fun w=>?_⟩
  have:=hr w;cases mx<;>simpa[Builtin.max_,Builtin.min_]using this
 ·exact h.elim
theorem OX{a:Addr}{e:MapEntry}{w:World}(h0:a.off=0)(h:Mp w.heap a.block e):(Instr.entry (.pointer (some a))).run P w=.ok (.tuple #[e.key,e.val]) w:=by
 obtain⟨m,since,seen,last,stamp,es,hi,hb,hm,hf⟩:=h;obtain⟨b,off,spot⟩:=a;simp only at h0 hi;subst h0;have g1:(getObj b).run P w=.ok (.mapIter (some m) since seen last) w:=by simp only[getObj,Sem.run,hi]
 simp[Instr.entry,g1,hb,lN hm,hf]
def Fx:DV→Value→Prop
 | .t,v=>v=.bool true
 | .f,v=>v=.bool false
 | .u,v=>v=undef
 | .x,_=>True
def DecOk(d:um)(r:cH):Prop:=∀t,qE d t=.x∨∃v,j5 r t=some v∧Fx (qE d t) v
theorem DecOk.at{d:um}{r:cH}(h:DecOk d r){t:Nat}{v:Value}(hv:j5 r t=some v):Fx (qE d t) v:=by
 rcases h t with e|⟨u,hu,hk⟩
 ·rw[e];trivial
 ·rw[hv]at hu;cases hu;exact hk
theorem tS{d:um}{r:cH}(hd:DecOk d r){o:Operand}{v:Value}(h:dM r o=some v):Fx (zC d o) v:=by
 cases o with
 |tmp t=>exact hd.at h
 |const c=>
  simp[dM]at h;subst h;cases c with
  |bool b=>cases b<;>exact rfl
  |_=>trivial
 |global g=>trivial
 |func f=>trivial
theorem BK{t:TypeId}(h:pW P t=true):∃d,P.underlying t=some d∧∀m,d≠ .interface m:=by
 unfold pW at h;split at h
 ·cases h
 ·rename_i d hd;exact⟨_,hd,fun m e=>by subst e;simp_all⟩
 ·cases h
theorem zk{t:TypeId}{v:Value}(h:pW P t=true)(w:World):(Instr.makeInterface t v).run P w=.ok (.iface t v) w:=by
 obtain⟨d,hd,hn⟩:=BK h;simp only[Instr.makeInterface,Sem.run_bind,aB hd,Result.andThen_ok];cases d<;>first|exact absurd rfl (hn _)|rfl
theorem C3{t u:TypeId}{v:Value}(h:pW P t=true)(w:World):(Instr.typeAssert (.iface t v) u t false).run P w=.ok v w:=by
 obtain⟨d,hd,hn⟩:=BK h;simp only[Instr.typeAssert,Sem.run_bind,aB hd,Result.andThen_ok];cases d<;>first|exact absurd rfl (hn _)|(simp[Sem.run_pure])
theorem j3{t:TypeId}{z:List Value}(h:qh P t=some z):∃v,xb P t=some v∧v.cells.toList=z:=by
 unfold qh at h;cases hz:xb P t with
 |none=>rw[hz]at h;cases h
 |some v=>rw[hz]at h;simp only[bK.injEq]at h;exact⟨v,rfl,h⟩
theorem qP{t:TypeId}{v:Value}(h:xb P t=some v):∃i,P.info? t=some i∧i.zero=some v:=by
 unfold xb at h;cases hi:P.info? t with
 |none=>rw[hi]at h;cases h
 |some i=>rw[hi]at h;exact⟨i,rfl,h⟩
theorem QO{A B:List Value}{x:Value}{m:Nat}(h:A.length=m):(A++x::B).take (m+1)=A++ [x]:=by
 subst h;rw[List.take_append,bA (by omega),show A.length+1-A.length=1 by omega];rfl
theorem QQ{A B:List Value}{x:Value}{m n:Nat}(h:A.length=m):(A++x::B).drop (m+1+n)=B.drop n:=by
 subst h;rw[List.drop_append,List.drop_eq_nil_of_le (by omega),show A.length+1+n-A.length=n+1 by omega];rfl
theorem JI(off:Nat):∀(xs:List Value) (k:Nat) (arr:Array Value),off+k+xs.length≤arr.size→
  (xs.zipIdx k).foldl (fun cs (c,j)=>cs.setIfInBounds (off+j) c) arr=(Jg arr.toList (off+k) xs).toArray
 | [],k,arr,_=>by simp[Jg]
 |x::xs,k,arr,h=>by
  simp only[az]at h;simp only[List.zipIdx_cons,List.foldl_cons];rw[JI off xs (k+1) _ (by simp;omega)];have hm:off+k<arr.toList.length:=by simp;omega
  have hs:arr.toList.set (off+k) x=arr.toList.take (off+k)++x::arr.toList.drop (off+k+1):=by
   rw[List.set_eq_take_append_cons_drop,if_pos hm]
  have hl:(arr.toList.take (off+k)).length=off+k:=by simp;omega
  congr 1
  unfold Jg;rw[Array.toList_setIfInBounds,hs,←kT,QO hl,QQ hl];simp only[List.append_assoc,dP,List.nil_append,az,List.drop_drop];rw[show off+k+1+xs.length=off+k+(xs.length+1) by omega]
theorem rX{place:Nat→Option (Nat×Nat)}:∀(parts:List (Nat×Value)) (cs cs':List Value),BQ place cs parts=some cs'→Instr.fill place cs.toArray parts=some cs'.toArray
 | [],cs,cs',h=>by simp only[BQ,bK.injEq]at h;subst h;rfl
 |(i,v)::rest,cs,cs',h=>by
  simp only[BQ]at h;cases hp:place i with
  |none=>rw[hp]at h;cases h
  |some os=>
   obtain⟨off,size⟩:=os;rw[hp]at h;simp only at h;cases hb:(bN v.cells.toList.length size&&wU (off+v.cells.toList.length) cs.length)with
   |false=>rw[hb]at h;cases h
   |true=>
    rw[hb]at h;simp only[bm]at hb;have h1:=aX hb.1;have h2:=i7 hb.2;have ih:=rX rest _ _ h;have h3:v.cells.size=size:=by simpa using h1
    have h4:off+v.cells.size≤cs.length:=by simpa using h2
    have hf:Array.foldl (fun cs x=>cs.setIfInBounds (off+x.2) x.1) cs.toArray v.cells.zipIdx=(Jg cs off v.cells.toList).toArray:=by
     have:=JI off v.cells.toList 0 cs.toArray (by simpa using h4);simp only[cX]at this;rw[←this,←Array.foldl_toList];congr 1
     simp[Array.toList_zipIdx]
    simp only[Instr.fill,hp];rw[if_neg (by simp[h3];omega)];simp only[hf];exact ih
theorem om{N:Nat}{r:cH}{a:Act}(h:Agree N r a):∀{ps:List (Nat×Operand)} {vs:List (Nat×Value)},pV r ps=some vs→ps.map (fun p=>(p.1,a.eval p.2))=vs
 | [],vs,hv=>by simp[pV]at hv;subst hv;rfl
 |(i,o)::ps,vs,hv=>by
  simp only[pV]at hv;cases ho:dM r o with
  |none=>simp[ho]at hv
  |some v=>cases hos:pV r ps with
   |none=>simp[ho,hos]at hv
   |some us=>simp[ho,hos]at hv;subst hv;simp[lO h ho,om h hos]
theorem pZ{t:TypeId}(h:wM P t=true)(w:World):(sizeOf t).run P w=.ok (bZ P t) w:=by
 unfold wM at h;cases hi:P.info? t with
 |none=>rw[hi]at h;cases h
 |some i=>simp[sizeOf,cU hi,bZ,hi]
theorem Dv(w:World):∀l:List Field,zI P l=true→(l.mapM fun f:Field=>((do pure (f.offset,←sizeOf f.type)):Sem (Nat×Nat))).run P w=.ok (l.map fun f:Field=>(f.offset,bZ P f.type)) w
 | [],_=>rfl
 |f::l,h=>by
  simp only[zI]at h;cases hf:wM P f.type with
  |false=>rw[hf]at h;cases h
  |true=>
   rw[hf]at h;rw[List.mapM_cons];simp only[Sem.run_bind,pZ hf,Result.andThen_ok,Sem.run_pure,Dv w l h,cq]
theorem zH{t:TypeId}{ps:Array (Nat×Value)}{cs:List Value}(hb:HK P t ps.toList=some cs)(w:World):
  (Instr.build t ps).run P w=.ok (.agg cs.toArray) w:=by
 unfold HK at hb;split at hb
 ·rename_i fs z hu hz
  obtain⟨v,hz,hv⟩:=j3 hz;cases ha:zI P fs.toList with
  |false=>rw[ha]at hb;cases hb
  |true=>
   rw[ha]at hb;have hfs:(fs.mapM fun f:Field=>((do pure (f.offset,←sizeOf f.type)):Sem (Nat×Nat))).run P w=.ok (fs.map fun f:Field=>(f.offset,bZ P f.type)) w:=by
    rw[Array.mapM_eq_mapM_toList];simp only[Sem.run_map,Dv w fs.toList ha,Result.andThen_ok];congr 1
    apply dg;simp
   have hf:=rX _ _ _ hb;have hplace:(fun i:Nat=>(fs.map fun f:Field=>(f.offset,bZ P f.type))[i]?)=LA P fs.toList:=by
    funext i;unfold LA;rw[Array.getElem?_map,bJ];cases fs[i]?<;>rfl
   have hv':v.cells=z.toArray:=by rw[←hv]
   rw[cond_true]at hb;rw[←hplace]at hf;simp only[Instr.build,Sem.run_bind,fi hz,Result.andThen_ok,aB hu,hfs,hv',hf,Sem.run_pure]
 ·rename_i n e z hu hz
  obtain⟨v,hz,hv⟩:=j3 hz;cases ha:wM P e with
  |false=>rw[ha]at hb;cases hb
  |true=>
   rw[ha]at hb;have hf:=rX _ _ _ hb;have hv':v.cells=z.toArray:=by rw[←hv]
   simp only[Instr.build,Sem.run_bind,fi hz,Result.andThen_ok,aB hu,pZ ha,hv',hf,Sem.run_pure]
 ·cases hb
theorem FX{ek:Option (Kind×Kind)}{o:Oper}{r:cH}{K:RK}{h:ad}{N:Nat}{a:Act}(ha:Agree N r a)(hq:AN P ek o.op r K h)(d:um)(hd:DecOk d r):
  ∃v S,K v S∧RC S h∧Fx (Im d o.op) v∧∀w:World,RC S w.heap→(execOp a.eval o).run P w=.ok (.value v) w:=by
 have ev:∀{x:Operand} {v:Value},dM r x=some v→a.eval x=v:=fun h=>lO ha h
 have fin:∀{s:Sem Value},Yv P s K h→Im d o.op=.x→(∀w,(execOp a.eval o).run P w=(do pure (Next.value (←s)):Sem Next).run P w)→
   ∃v S,K v S∧RC S h∧Fx (Im d o.op) v∧∀w:World,RC S w.heap→(execOp a.eval o).run P w=.ok (.value v) w:=by
  rintro s ⟨v,S,hk,hS,hr⟩ hx he;exact⟨v,S,hk,hS,by rw[hx];trivial,fun w hw=>by rw[he w];exact je (hr w hw)⟩
 obtain⟨dst,op,type,ns,after,guard⟩:=o;simp only at hq fin⊢;cases op with
 |move x=>
  simp only[AN]at hq;split at hq
  ·rename_i v hv
   exact⟨v,none,hq,trivial,tS hd hv,fun w _=>by simp[execOp,ev hv]⟩
  ·exact hq.elim
 |assign x=>
  simp only[AN]at hq;split at hq
  ·rename_i v hv
   exact⟨v,none,hq,trivial,tS hd hv,fun w _=>by simp[execOp,ev hv]⟩
  ·exact hq.elim
 |pick c x y=>
  simp only[AN]at hq;split at hq
  ·rename_i vc va vb hc hx hy
   unfold S7 at hq;split at hq
   ·rename_i cb
    have hco:=tS hd hc;have hxo:=tS hd hx;have hyo:=tS hd hy;have he:∀w,(execOp a.eval ⟨dst,.pick c x y,type,ns,after,guard⟩).run P w=.ok (.value (if cb then va else vb)) w:=fun w=>by
     simp[execOp,ev hc,ev hx,ev hy,asBool]
    have hdv:Fx (Im d (.pick c x y)) (if cb then va else vb):=by
     simp only[Im];cases hcd:zC d c with
     |t=>
      rw[hcd]at hco;have:cb=true:=by simpa[Fx]using hco
      subst this;exact hxo
     |f=>
      rw[hcd]at hco;have:cb=false:=by simpa[Fx]using hco
      subst this;exact hyo
     |u=>trivial
     |x=>trivial
    split at hq
    ·rename_i bx by'
     have e1:(if cb=true then Value.bool bx else Value.bool by')=.bool (bif cb then bx else by'):=by cases cb<;>rfl
     rw[e1]at hdv;exact⟨_,none,hq,trivial,hdv,fun w _=>by rw[he w,e1]⟩
    ·cases cb
     ·exact⟨_,none,hq,trivial,hdv,fun w _=>he w⟩
     ·exact⟨_,none,hq,trivial,hdv,fun w _=>he w⟩
   ·exact hq.elim
  ·exact hq.elim
 |load t x=>
  simp only[AN]at hq;split at hq
  ·rename_i v hv
   obtain⟨u,S,hk,hS,hr⟩:=BG hq;exact fin ⟨u,some S,hk,hS,hr⟩ rfl fun w=>by simp only[execOp,ev hv]
  ·exact hq.elim
 |nilCheck x=>
  simp only[AN]at hq;split at hq
  ·rename_i p hv
   obtain⟨b,rfl,hk⟩:=hq;exact⟨_,none,hk,trivial,trivial,fun w _=>by simp[execOp,ev hv]⟩
  ·exact hq.elim
 |binOp op t x y yt=>
  simp only[AN]at hq;split at hq
  ·rename_i v u hv hu
   obtain⟨v',S,hk,hS,hr⟩:=Lw (x:=x) (y:=y) hq;refine⟨v',S,hk,hS,trivial,fun w hw=>?_⟩
   simp only[execOp,ev hv,ev hu];exact je (hr w hw)
  ·rename_i v u hna hv hu
   have go:(∀c d,v=.agg c→u=.agg d→False)∧(v=.nilIface→u=.nilIface→False)∧Yv P (binOp op t v u) K h:=by
    split at hq
    ·exact Dz (neg:=false) hq
    ·exact Dz (neg:=true) hq
    ·exact Lv hq
   obtain⟨h1,h2,v',S,hk,hS,hr⟩:=go;refine⟨v',S,hk,hS,trivial,fun w hw=>?_⟩
   simp only[execOp,ev hv,ev hu];simp[L5 op t x y v u h1 h2 w,hr w hw]
  ·exact hq.elim
 |unOp op t x=>
  simp only[AN]at hq;split at hq
  ·rename_i v hv
   obtain⟨u,S,hk,hS,hr⟩:=Ov (P:=P) (h:=h) hq;refine⟨u,S,hk,hS,?_,fun w hw=>by simp only[execOp,ev hv];exact je (hr w hw)⟩
   have hvo:=tS hd hv;cases op<;>try trivial
   simp only[Im];have hrun:=hr {(default:World)with heap:=h} hS;cases hx:zC d x with
   |t=>
    rw[hx]at hvo;have:v=.bool true:=hvo;subst this;simp[Op.unary]at hrun;exact hrun.symm
   |f=>
    rw[hx]at hvo;have:v=.bool false:=hvo;subst this;simp[Op.unary]at hrun;exact hrun.symm
   |u=>trivial
   |x=>trivial
  ·exact hq.elim
 |convert s t x=>
  simp only[AN]at hq;split at hq
  ·rename_i v hv
   exact fin (Jd hq) rfl fun w=>by simp only[execOp,ev hv]
  ·exact hq.elim
 |extract x i=>
  simp only[AN]at hq;split at hq
  ·rename_i vs hv
   split at hq
   ·rename_i u hu
    have hu':vs[i]? =some u:=by simpa using hu
    exact⟨u,none,hq,trivial,trivial,fun w _=>by simp[execOp,ev hv,Instr.extract,hu']⟩
   ·exact hq.elim
  ·exact hq.elim
 |fieldAddr t x f=>
  simp only[AN]at hq;split at hq
  ·rename_i b u off hv hf
   exact fin (Cl hf hq) rfl fun w=>by simp only[execOp,ev hv]
  ·exact hq.elim
 |field t x f=>
  simp only[AN]at hq;split at hq
  ·rename_i v hv
   exact fin (Hd hq) rfl fun w=>by simp only[execOp,ev hv]
  ·exact hq.elim
 |indexAddr t x i=>
  simp only[AN]at hq;split at hq
  ·rename_i v u hv hu
   exact fin (AO hq) rfl fun w=>by simp only[execOp,ev hv,ev hu]
  ·exact hq.elim
 |index t x i=>
  simp only[AN]at hq;split at hq
  ·rename_i v u hv hu
   exact fin (Hc hq) rfl fun w=>by simp only[execOp,ev hv,ev hu]
  ·exact hq.elim
 |slice t x lo hi mx=>
  simp only[AN]at hq;split at hq
  ·rename_i v l h' m hv hl hh hm
   have ov:∀{x:Option Operand} {v:Option Value},F4 r x=some v→x.map a.eval=v:=by
    intro x v hx;cases x with
    |none=>simp[F4]at hx;subst hx;rfl
    |some x=>
     simp only[F4]at hx;cases he:dM r x with
     |none=>simp[he]at hx
     |some u=>simp[he]at hx;subst hx;simp[ev he]
   exact fin (Ha hq) rfl fun w=>by simp only[execOp,ev hv,ov hl,ov hh,ov hm]
  ·exact hq.elim
 |lookup t x k ok=>
  simp only[AN]at hq;split at hq
  ·rename_i v u hv hu
   exact fin (EX hq) rfl fun w=>by simp only[execOp,ev hv,ev hu]
  ·exact hq.elim
 |makeInterface t x=>
  simp only[AN]at hq;split at hq
  ·rename_i v hv
   cases hb:pW P t with
   |false=>rw[hb]at hq;exact hq.elim
   |true=>
    rw[hb,cond_true]at hq;exact⟨_,none,hq,trivial,trivial,fun w _=>by simp only[execOp,ev hv];exact je (zk hb w)⟩
  ·exact hq.elim
 |typeAssert x u t ok=>
  simp only[AN]at hq;split at hq
  ·rename_i v hv
   cases ok with
   |true=>exact hq.elim
   |false=>
    rw[cond_false]at hq;unfold Nh at hq;cases hb:pW P t with
    |false=>rw[hb]at hq;exact hq.elim
    |true=>
     rw[hb,cond_true]at hq;split at hq
     ·obtain⟨y,rfl,hk⟩:=hq
      exact⟨_,none,hk,trivial,trivial,fun w _=>by simp only[execOp,ev hv];exact je (C3 hb w)⟩
     ·exact hq.elim
  ·exact hq.elim
 |makeFunc fn first cap=>
  simp only[AN]at hq;split at hq
  ·rename_i vs us hv hu
   have e1:=oh ha hv;have e2:=oh ha hu;refine⟨_,none,hq,trivial,trivial,fun w _=>?_⟩
   have f1:first.map a.eval=vs.toArray:=by rw[←e1];apply dg;simp
   have f2:cap.map a.eval=us.toArray:=by rw[←e2];apply dg;simp
   simp[execOp,Instr.makeFunc,f1,f2]
  ·exact hq.elim
 |entry it=>
  simp only[AN]at hq;split at hq
  ·rename_i b kk vk hv
   obtain⟨h0,e,x,y,hi,hk,hy,hK⟩:=hq;refine⟨_,_,hK,hi,trivial,fun w hw=>?_⟩
   simp only[execOp,ev hv];refine je ?_;rw[OX h0 hw,hk,hy]
  ·exact hq.elim
 |call c=>
  simp only[AN]at hq;have er:∀{b:Builtin} {vs:List Value},c.callee=.builtin b→qk r c.args.toList=some vs→∃cs:Array Bool,∀w,(execOp a.eval ⟨dst,.call c,type,ns,after,guard⟩).run P w=
    (builtin b c.argTypes type cs vs.toArray).run P w:=by
   intro b vs hc hvs;have e1:=oh ha hvs;have f1:c.args.map a.eval=vs.toArray:=by rw[←e1];apply dg;simp
   refine⟨c.args.map fun| .const _=>true|_=>false,fun w=>?_⟩
   simp[execOp,resolve,hc,f1,invoke];rfl
  split at hq
  ·rename_i v t hc hvs hat
   obtain⟨cs,er⟩:=er hc hvs;obtain⟨u,S,hk,hS,hr⟩:=Lp (ats:=c.argTypes) (ty:=type) (by rw[←bJ,hat];rfl) hq;exact⟨u,S,hk,hS,trivial,fun w hw=>by rw[er w];simp only[builtin];exact je (hr w hw)⟩
  ·rename_i v t hc hvs hat
   obtain⟨cs,er⟩:=er hc hvs;obtain⟨u,S,hk,hS,hr⟩:=Lu (h:=h) (ats:=c.argTypes) (ty:=type) (by rw[←bJ,hat];rfl) hq;exact⟨u,S,hk,hS,trivial,fun w hw=>by rw[er w];simp only[builtin];exact je (hr w hw)⟩
  ·rename_i vs hc hvs
   obtain⟨cs,er⟩:=er hc hvs;obtain⟨u,hk,hr⟩:=xm (P:=P) (ats:=c.argTypes) (ty:=type) hq;exact⟨u,none,hk,trivial,trivial,fun w _=>by rw[er w];simp only[builtin];exact je (hr w)⟩
  ·rename_i vs hc hvs
   obtain⟨cs,er⟩:=er hc hvs;obtain⟨u,hk,hr⟩:=xm (P:=P) (ats:=c.argTypes) (ty:=type) hq;exact⟨u,none,hk,trivial,trivial,fun w _=>by rw[er w];simp only[builtin];exact je (hr w)⟩
  ·exact hq.elim
 |build t ps=>
  simp only[AN]at hq;split at hq
  ·rename_i vs hvs
   split at hq
   ·rename_i cs hcs
    refine⟨_,none,hq,trivial,trivial,fun w _=>?_⟩
    have hp:(ps.map fun x=>(x.1,a.eval x.2))=vs.toArray:=by
     rw[←om ha hvs];apply dg;simp
    have he:=zH (ps:=vs.toArray) (by simpa using hcs) w;simp only[execOp];rw[show(ps.map fun(i,x)=>(i,a.eval x))=vs.toArray from hp]
    exact je he
   ·exact hq.elim
  ·exact hq.elim
 |_=>simp only[AN]at hq
end Go.Lift
namespace Go.Lift
open Go
variable {P:Program}
def Ka(P:Program)(s:Sem Next)(K:WK)(w:World):Prop:=
 (∃v w',s.run P w=.ok (.value v) w'∧Tame w w'∧K v w'.heap)∨
 (∃w',s.run P w=.ok .skip w'∧Tame w w'∧K undef w'.heap)∨
 (∃f args,s.run P w=.ok (.enter f args) w∧Calls P f args w fun e w'=>Tame w w'∧∃v,e=.returned v∧K v w'.heap)∨
 (∃l fn tmps assign body,s.run P w=.ok (.round l fn tmps assign body) w∧
  ∀(c:Frame) (cs:List Frame),∃b w',Tame w w'∧K (.bool b) w'.heap∧Steps P (lone (Frame.round l fn tmps assign body .normal) (c::cs) w) (lone (c.finish (.bool b)) cs w'))
def Wv(P:Program)(s:Sem Value)(K:WK)(w:World):Prop:=∃v w',s.run P w=.ok v w'∧Tame w w'∧K v w'.heap
theorem Wv.out{s:Sem Value}{K:WK}{w:World}(h:Wv P s K w):Ka P (do pure (Next.value (←s))) K w:=by
 obtain⟨v,w',hr,ht,hk⟩:=h;exact .inl ⟨v,w',je hr,ht,hk⟩
def Wu(P:Program)(s:Sem Unit)(K:WK)(w:World):Prop:=∃w',s.run P w=.ok () w'∧Tame w w'∧K undef w'.heap
theorem Wu.out{s:Sem Unit}{K:WK}{w:World}(h:Wu P s K w):Ka P (do s;pure Next.skip) K w:=by
 obtain⟨w',hr,ht,hk⟩:=h;exact .inr (.inl ⟨w',P3 hr,ht,hk⟩)
def j4(w:World)(h:ad):World:={w with heap:=h}
theorem fa(w:World)(h:ad):Tame w (j4 w h):=⟨rfl,rfl,rfl⟩
theorem kg(e:TypeId)(cs:Array Value)(w:World):(newRow e cs).run P w=.ok (aA w.heap) (j4 w (hnew w.heap cs.toList e)):=by
 simp[newRow,newObj,Sem.run,aA,j4,hnew,bind,Sem.bind,pure]
theorem Dm(o:Obj)(w:World):(newObj o).run P w=.ok w.heap.size (j4 w (w.heap.push o)):=rfl
theorem E4{h:ad}{a b:Addr}(v:Value)(hne:a≠b):aE (hset h a v) b=aE h b:=
 World.cell?_setCell_other {(default:World)with heap:=h} a b v hne
theorem Ck{h:ad}{a:Addr}{u:Value}(v:Value)(hc:aE h a=some u):aE (hset h a v) a=some v:=
 World.cell?_setCell_same {(default:World)with heap:=h} a v hc
theorem Hw{h:ad}{a b:Addr}(v:Value):CL (hset h a v) b=CL h b:=
 World.frozen?_setCell {(default:World)with heap:=h} a b v
theorem Wr.hset{h:ad}{a b:Addr}(v:Value)(hw:Wr h b):Wr (hset h a v) b:=by
 obtain⟨⟨u,hu⟩,hf⟩:=hw;refine⟨?_,by rw[Hw];exact hf⟩
 by_cases e:a=b
 ·subst e;exact⟨v,Ck v hu⟩
 ·exact⟨u,by rw[E4 v e];exact hu⟩
theorem Lf{w:World}{a:Addr}{v:Value}(hv:∀cs,v≠ .agg cs)(hv':∀cs,v≠ .tuple cs)(hw:Wr w.heap a):(store a v).run P w=.ok () (j4 w (hset w.heap a v)):=by
 obtain⟨⟨u,hu⟩,hf⟩:=hw;have hu':w.cell? a=some u:=hu;have hf':w.frozen? a=false:=hf;cases v<;>first|exact absurd rfl (hv _)|exact absurd rfl (hv' _)|(simp only[store,Sem.run,hu',hf'];rfl)
theorem Hl{v:Value}{vs:List Value}(h:cj (v::vs)=true):(∀cs,v≠ .agg cs)∧(∀cs,v≠ .tuple cs)∧cj vs=true:=by
 simp only[cj,bm]at h;refine⟨fun cs e=>?_,fun cs e=>?_,h.2⟩<;>(subst e;exact absurd h.1 (by simp))
theorem rb{a:Addr}:∀(vs:List Value) (i:Nat) (w:World),cj vs=true→(∀j,j<vs.length→Wr w.heap (adr a (i+j)))→
  (storeCells a vs i).run P w=.ok () (j4 w (g8 w.heap a i vs))
 | [],i,w,_,_=>rfl
 |v::vs,i,w,h1,hw=>by
  obtain⟨n1,n2,h1⟩:=Hl h1;have h0:=hw 0 (by simp);simp only[cX]at h0;have ha:a.add i=adr a i:=(tC a i).symm;simp only[storeCells,ha,Sem.run_bind,Lf n1 n2 h0,Result.andThen_ok];rw[rb vs (i+1) (j4 w (hset w.heap (adr a i) v)) h1 fun j hj=>?_]
  ·rfl
  ·have:=hw (j+1) (by simp only[az];omega)
   rw[show i+1+j=i+(j+1) by omega]
   exact this.hset v
theorem Gk{a:Addr}(m:Nat):∀(vs:List Value) (i:Nat) (h:ad),g8 h (adr a m) i vs=g8 h a (m+i) vs
 | [],_,_=>rfl
 |v::vs,i,h=>by
  simp only[g8];rw[Gk m vs (i+1),zL];rfl
theorem GO{t:TypeId}{a v:Value}{K:WK}{w:World}(hs:KP P t a v K w.heap):Wu P (Instr.storeAt t a v) K w:=by
 unfold KP at hs;split at hs
 ·rename_i a
  cases hb:(bN v.cells.toList.length (bZ P t)&&cj v.cells.toList)with
  |false=>rw[hb]at hs;exact hs.elim
  |true=>
   rw[hb]at hs;simp only[bm]at hb;have hl:=aX hb.1;obtain⟨hs,hz⟩:=pu hs;have hl':v.cells.size=bZ P t:=by simpa using hl
   have go:(∀j,j<v.cells.toList.length→Wr w.heap (adr a (0+j)))→(Instr.storeAt t (.pointer (some a)) v).run P w=.ok () (j4 w (g8 w.heap a 0 v.cells.toList)):=by
    intro hw;have:=rb (P:=P) v.cells.toList 0 w hb.2 hw;simp[Instr.storeAt,Instr.sureAddr,storeVar,hz,hl',this]
   split at hs
   ·rename_i u hu
    obtain⟨hw,hk⟩:=hs;refine⟨_,go (fun j hj=>?_),fa _ _,?_⟩
    ·rw[hu]at hj;simp only[az,List.length_nil]at hj
     obtain rfl:j=0:=by omega
     exact hw
    ·rw[hu];exact hk
   ·obtain⟨hw,hk⟩:=hs
    refine⟨_,go (fun j hj=>?_),fa _ _,hk⟩
    rcases hw with e|⟨b,hb',hw⟩
    ·rw[e]at hj;cases hj
    ·cases hb';exact hw j hj
 ·exact hs.elim
theorem jO(z:Array Value)(n:Nat):(Builtin.zeroCells z n).toList=dK n z.toList:=by
 have key:∀n,(List.range (n*z.size)).map (fun i=>z[i%z.size]!)=(eg n z.toList).flatten:=by
  intro n;induction n with
  |zero=>simp
  |succ n ih=>
   rw[Nat.succ_mul,List.range_add,List.map_append,ih,List.replicate_succ',List.flatten_append];congr 1
   simp only[qW,List.flatten_cons,List.flatten_nil,List.append_nil];apply List.ext_getElem
   ·simp
   ·intro i h1 h2
    simp only[List.length_map,List.length_range]at h1;simp[Nat.mod_eq_of_lt h1,h1,Nat.add_mod]
 simpa[Builtin.zeroCells,dK]using key n
theorem dR{t e:TypeId}(h:vg P t=some e):P.underlying t=some (.slice e):=by
 unfold vg at h;split at h
 ·rename_i e' hu;simp only[bK.injEq]at h;subst h;exact hu
 ·cases h
theorem MZ{z:Value}{n:Nat}:((Array.range (n*z.cells.size)).map (z.cells[· %z.cells.size]!))=(dK n z.cells.toList).toArray:=by
 have:=jO z.cells n;unfold Builtin.zeroCells at this;apply dg;rw[this]
theorem A9{t e:TypeId}{n:Nat}{ps:Array (Nat×Value)}{z cs:List Value}(ht:vg P t=some e)(hz:qh P e=some z)(hn:n*bZ P e≤16777216)(hl:z.length=bZ P e)
  (hb:BQ (fun i=>some (i*bZ P e,bZ P e)) (dK n z) ps.toList=some cs)(w:World):
  (Instr.buildSlice t n ps).run P w=.ok (.slice (some (aA w.heap)) n n) (j4 w (hnew w.heap cs e)):=by
 obtain⟨v,hv,hvc⟩:=j3 hz;obtain⟨i,hi,hiz⟩:=qP hv;have hs:(sizeOf e).run P w=.ok (bZ P e) w:=by simp[sizeOf,cU hi,bZ,hi]
 have hvs:v.cells.size=bZ P e:=by rw[←hl,←hvc];simp
 have hf:=rX _ _ _ hb;have hrow:((Array.range (n*bZ P e)).map (fun i=>(if n*bZ P e=0 then #[]else v.cells)[i%(if n*bZ P e=0 then #[]else v.cells).size]!))=(dK n z).toArray:=by
  by_cases h0:n*bZ P e=0
  ·have:(dK n z).length=0:=by simp[dK,hl,h0]
   rw[aG.1 this];simp[h0]
  ·simp only[if_neg h0]
   rw[←hvs,MZ,hvc]
 have hn':¬(n*bZ P e>2^24):=by omega
 simp only[Instr.buildSlice,Sem.run_bind,aB (dR ht),Result.andThen_ok,hs,if_neg hn'];by_cases h0:n*bZ P e=0
 ·simp only[if_pos h0]at hrow
  simp only[if_pos h0,Sem.run_bind,Sem.run_pure,Result.andThen_ok,hrow,hf,kg]
 ·simp only[if_neg h0]at hrow
  simp only[if_neg h0,Sem.run_bind,Sem.run_pure,Result.andThen_ok,fi hv,hrow,hf,kg]
theorem Om{h:ad}{a:Addr}{vs:List Value}(hr:Row h a vs):∀j v,vs[j]? =some v→aE h (a.add j)=some v:=fun j v hv=>by
 rw[←tC];exact hr j v hv
theorem wD{size n cap len:Nat}{b:Option Addr}{vs:List Value}{w:World}(hs:SRow w.heap b (n*size) vs):(Builtin.firstCells size n (.slice b len cap)).run P w=.ok vs.toArray w:=by
 obtain⟨hl,hr⟩:=hs;cases b with
 |none=>
  rcases hr with rfl|⟨_,h,_⟩
  ·simp[Builtin.firstCells]
  ·cases h
 |some b=>
  refine run_firstCells_some w size n b len cap vs hl fun j v hv=>?_
  rcases hr with rfl|⟨_,h,hr⟩
  ·cases hv
  ·cases h;exact Om hr j v hv
theorem Da{a:Addr}{m:Nat}{xs:List Value}{w:World}(h1:cj xs=true)(hw:rP w.heap (some a) m xs):
  (storeCells (a.add m) xs).run P w=.ok () (j4 w (g8 w.heap a m xs)):=by
 rcases hw with rfl|⟨b,hb,hw⟩
 ·rfl
 ·cases hb
  have:=rb (P:=P) (a:=adr a m) xs 0 w h1 fun j hj=>by rw[zL,aF];exact hw j hj
  rw[←tC,this,Gk,cX]
set_option maxHeartbeats 1000000 in
theorem Ee{t e u ty:TypeId}{b:Option Addr}{sl sc xl:Nat}{xs:List Value}{x:Value}{K:WK}{w:World}(ht:vg P t=some e)(hu':(∃e',P.underlying u=some (.slice e'))∨P.underlying u=some .string)
  (hlen:∀w,(Builtin.lenOf x).run P w=.ok xl w)(hx:∀w':World,w'.heap=w.heap→(Builtin.firstCells (bZ P e) xl x).run P w'=.ok xs.toArray w')
  (hi:∃i,P.info? e=some i)
  (h:Q5 P e b sl sc xl xs K w.heap):Wv P (Builtin.append_ #[t,u] ty #[.slice b sl sc,x]) K w:=by
 obtain⟨i,hi⟩:=hi;have hsz:bZ P e=i.size:=by simp[bZ,hi]
 have hby:qr P e=i.bytes:=by simp[qr,hi]
 by_cases hc:sl+xl≤sc
 ·obtain⟨hw,h1,hk⟩:=h.1 hc
  refine⟨_,_,?_,fa w (fU w.heap b (sl*bZ P e) xs),hk⟩;cases b with
  |none=>
   have hxs:=hx w rfl;rw[hsz]at hxs;rcases hu' with⟨e',hd⟩|hd<;>(simp[Builtin.append_,aB (dR ht),aB hd,sizeOf,cU hi,hlen,hc,hxs];rfl)
  |some a=>
   have hst:=Da (P:=P) h1 hw;have hxs:=hx w rfl;rw[hsz]at hst hxs;rcases hu' with⟨e',hd⟩|hd<;>(simp[Builtin.append_,aB (dR ht),aB hd,sizeOf,cU hi,hlen,hc,hxs,hst,fU,hsz])
 ·obtain⟨old,z,ho,hz,hb0,h48,hk⟩:=h.2 (by omega)
  obtain⟨v,hv,hvc⟩:=j3 hz;obtain⟨i',hi',hiz⟩:=qP hv;rw[hi]at hi';cases hi';rw[hby]at hb0 h48;have hb0':¬i.bytes=0:=by omega
  have h48':¬(281474976710656<Builtin.nextslicecap (sl+xl) sc*i.bytes):=by omega
  have hxs:=hx w.drew rfl;have hol:(Builtin.firstCells (bZ P e) sl (.slice b sl sc)).run P w.drew=.ok old.toArray w.drew:=wD ho;rw[hsz]at hxs hol;have hge:sl+xl≤(Question.appendCap (sl+xl) sc e).cut (w.tape w.drawn (.appendCap (sl+xl) sc e)):=pH _ _;refine⟨_,j4 w.drew (hnew w.heap (old++xs++dK ((Question.appendCap (sl+xl) sc e).cut (w.tape w.drawn (.appendCap (sl+xl) sc e))-(sl+xl)) z) e),?_,⟨rfl,rfl,rfl⟩,hk _ hge⟩
  have hzc:(Builtin.zeroCells v.cells ((Question.appendCap (sl+xl) sc e).cut (w.tape w.drawn (.appendCap (sl+xl) sc e))-(sl+xl)))=(dK ((Question.appendCap (sl+xl) sc e).cut (w.tape w.drawn (.appendCap (sl+xl) sc e))-(sl+xl)) z).toArray:=by
   apply dg;rw[jO,hvc]
  rcases hu' with⟨e',hd⟩|hd<;>(simp[Builtin.append_,aB (dR ht),aB hd,sizeOf,cU hi,hlen,hc,hb0',h48',Question.forced,hxs,hol,fi hv,kg,hzc,aA];rfl)
theorem DK{t:TypeId}{K:Prop}(h:Qm P t K):∃i,P.info? t=some i:=by
 unfold Qm at h;cases hi:P.info? t with
 |none=>rw[hi]at h;exact h.elim
 |some i=>exact⟨i,rfl⟩
theorem zq{t:TypeId}(h:bZ P t≠0):∃i,P.info? t=some i:=by
 cases hi:P.info? t with
 |none=>exact absurd (by simp[bZ,hi]) h
 |some i=>exact⟨i,rfl⟩
theorem BU{size n:Nat}{x:ByteArray}{w:World}:(Builtin.firstCells size n (.string x)).run P w=.ok ((dS x).take n).toArray w:=by
 simp only[Builtin.firstCells,Sem.run_pure];congr 1
 apply dg;simp[dS,pb,gt,←List.map_take]
theorem xh{t u ty:TypeId}{s x:Value}{K:WK}{w:World}(hu':(∃e',P.underlying u=some (.slice e'))∨P.underlying u=some .string)(h:Cy P t s x K w.heap):
  Wv P (Builtin.append_ #[t,u] ty #[s,x]) K w:=by
 unfold Cy at h;split at h
 ·rename_i e b sl sc a xl xc ht
  have hi:=DK h;obtain⟨⟨xs,hxs,hk⟩,hz⟩:=pu h;exact Ee ht hu' (fun w=>rfl) (fun w' hw=>wD (by rw[hw];exact hxs)) hi hk
 ·rename_i e b sl sc x ht
  cases hb:bN (bZ P e) 1 with
  |false=>rw[hb]at h;exact h.elim
  |true=>
   rw[hb]at h;have h1:=aX hb;have hl:(dS x).length=x.size:=by simp[dS]
   refine Ee ht hu' (fun w=>rfl) (fun w' _=>?_) (zq (by omega)) h
   rw[BU,bA (by omega)]
 ·exact h.elim
theorem Ax{n:Int}(h0:0≤n)(h1:n≤9223372036854775807):IntKind.i64.wrap n=n:=IntWalk.i64_in n ⟨by omega,h1⟩
theorem Mk{t e u ty:TypeId}{b:Option Addr}{sl sc:Nat}{k0 k:IntKind}{l:Int}{z:List Value}{K:WK}{w:World}(ht:vg P t=some e)(hu:P.underlying u=some (.int k0))
  (hz:qh P e=some z)(hzl:z.length=bZ P e)(h0:0≤l)(h1:l*qr P e≤2^48)(h2:l≤9223372036854775807)(h3:((sl+l.toNat:Nat):Int)≤9223372036854775807)
  (h:Q5 P e b sl sc l.toNat (dK l.toNat z) K w.heap):Wv P (Builtin.append_ #[t,u] ty #[.slice b sl sc,.int k l]) K w:=by
 obtain⟨v,hv,hvc⟩:=j3 hz;obtain⟨i,hi,hiz⟩:=qP hv;have hsz:bZ P e=i.size:=by simp[bZ,hi]
 have hby:qr P e=i.bytes:=by simp[qr,hi]
 have hw:IntKind.wrap .i64 l=l:=Ax h0 h2;have hl0:¬l<0:=by omega
 rw[hby]at h1;have h1':¬(281474976710656:Int)<l*i.bytes:=by omega
 have hai:∀w':World,(asInt (.int k l)).run P w'=.ok l w':=fun w'=>rfl
 have hzn:(Builtin.zeroCells v.cells l.toNat)=(dK l.toNat z).toArray:=by apply dg;rw[jO,hvc]
 have hz0:l.toNat*i.size=0→dK l.toNat z= []:=fun h0'=>by
  have hlen:(dK l.toNat z).length=l.toNat*i.size:=by rw[←hsz,←hzl];unfold dK;simp
  exact aG.1 (by rw[hlen,h0'])
 by_cases hc:sl+l.toNat≤sc
 ·obtain⟨hw',h1,hk⟩:=h.1 hc
  refine⟨_,_,?_,fa w (fU w.heap b (sl*bZ P e) (dK l.toNat z)),hk⟩;cases b with
  |none=>
   by_cases hs:l.toNat*i.size=0
   ·simp[Builtin.append_,aB (dR ht),aB hu,sizeOf,cU hi,hai,hw,hl0,h1',hc,hs];rfl
   ·simp[Builtin.append_,aB (dR ht),aB hu,sizeOf,cU hi,hai,hw,hl0,h1',hc,fi hv];rfl
  |some a=>
   have hst:=Da (P:=P) h1 hw';rw[hsz]at hst;by_cases hs:l.toNat*i.size=0
   ·rw[hz0 hs]at hst
    simp[Builtin.append_,aB (dR ht),aB hu,sizeOf,cU hi,hai,hw,hl0,h1',hc,hst,fU,hsz,hs,hz0 hs]
   ·simp[Builtin.append_,aB (dR ht),aB hu,sizeOf,cU hi,hai,hw,hl0,h1',hc,hst,fU,hsz,hs,fi hv,hzn]
 ·obtain⟨old,z',ho,hz',hb0,h48,hk⟩:=h.2 (by omega)
  rw[hz]at hz';cases hz';rw[hby]at hb0 h48;have hb0':¬i.bytes=0:=by omega
  have h48':¬(281474976710656<Builtin.nextslicecap (sl+l.toNat) sc*i.bytes):=by omega
  have h3':¬(9223372036854775807:Int)<((sl:Int)+(l.toNat:Int)):=by omega
  have h3'':¬(9223372036854775807:Int)<((sl:Int)+max l 0):=by omega
  have hol:(Builtin.firstCells (bZ P e) sl (.slice b sl sc)).run P w.drew=.ok old.toArray w.drew:=wD ho;rw[hsz]at hol;have hge:sl+l.toNat≤(Question.appendCap (sl+l.toNat) sc e).cut (w.tape w.drawn (.appendCap (sl+l.toNat) sc e)):=pH _ _;refine⟨_,j4 w.drew (hnew w.heap (old++dK l.toNat z++dK ((Question.appendCap (sl+l.toNat) sc e).cut (w.tape w.drawn (.appendCap (sl+l.toNat) sc e))-(sl+l.toNat)) z) e),?_,⟨rfl,rfl,rfl⟩,hk _ hge⟩
  have hzc:(Builtin.zeroCells v.cells ((Question.appendCap (sl+l.toNat) sc e).cut (w.tape w.drawn (.appendCap (sl+l.toNat) sc e))-(sl+l.toNat)))=(dK ((Question.appendCap (sl+l.toNat) sc e).cut (w.tape w.drawn (.appendCap (sl+l.toNat) sc e))-(sl+l.toNat)) z).toArray:=by
   apply dg;rw[jO,hvc]
  by_cases hs:l.toNat*i.size=0
  ·rw[hz0 hs]at hk⊢
   simp[Builtin.append_,aB (dR ht),aB hu,sizeOf,cU hi,hai,hw,hl0,h1',hc,h3'',h48',Question.forced,hol,fi hv,kg,hzc,aA,hs];rfl
  ·simp[Builtin.append_,aB (dR ht),aB hu,sizeOf,cU hi,hai,hw,hl0,h1',hc,h3'',h48',Question.forced,hol,fi hv,kg,hzc,aA,hs,hzn];rfl
theorem CW{t u ty:TypeId}{k0:IntKind}{s x:Value}{K:WK}{w:World}(hu:P.underlying u=some (.int k0))(h:CX P t s x K w.heap):
  Wv P (Builtin.append_ #[t,u] ty #[s,x]) K w:=by
 unfold CX at h;split at h
 ·rename_i e b sl sc k l ht
  split at h
  ·rename_i z hz
   cases hb:bN z.length (bZ P e)with
   |false=>rw[hb]at h;exact h.elim
   |true=>
    rw[hb]at h;obtain⟨⟨h0,h1,h2,h3⟩,hk⟩:=h;exact Mk ht hu hz (aX hb) h0 h1 h2 h3 hk
  ·exact h.elim
 ·exact h.elim
theorem ko:∀{a b:List Value},cj a=true→cj b=true→cj (a++b)=true
 | [],_,_,h=>h
 |v::a,b,h,k=>by
  simp only[cj,dP,bm]at h⊢;exact⟨h.1,ko h.2 k⟩
theorem y6{z:List Value}(h:cj z=true):∀n,cj (dK n z)=true
 |0=>rfl
 |n+1=>by
  have:dK (n+1) z=z++dK n z:=by simp[dK,List.replicate_succ]
  rw[this];exact ko h (y6 h n)
theorem GP{t ty:TypeId}{x:Value}{K:WK}{w:World}(h:KQ P t x K w.heap):Wv P (Builtin.clear_ #[t] ty #[x]) K w:=by
 unfold KQ at h;split at h
 ·rename_i e a n c ht
  split at h
  ·rename_i z hz
   obtain⟨v,hv,hvc⟩:=j3 hz;cases ho:cj z with
   |false=>rw[ho]at h;exact h.elim
   |true=>
    rw[ho]at h;obtain⟨hw,hk⟩:=h;refine⟨_,_,?_,fa w (fU w.heap a 0 (dK n z)),hk⟩;cases a with
    |none=>simp[Builtin.clear_,aB (dR ht)];rfl
    |some a=>
     cases n with
     |zero=>simp[Builtin.clear_,aB (dR ht)];rfl
     |succ n=>
      have hst:=Da (P:=P) (y6 ho (n+1)) hw;rw[←tC,Eg]at hst;have hzc:(Builtin.zeroCells v.cells (n+1)).toList=dK (n+1) z:=by rw[jO,hvc]
      simp[Builtin.clear_,aB (dR ht),fi hv,hzc,hst,fU]
  ·exact h.elim
 ·exact h.elim
theorem y7:∀(xs:List Value) (n:Nat),cj xs=true→cj (xs.take n)=true
 | [],n,_=>by simp[cj]
 |x::xs,0,_=>by simp[cj]
 |x::xs,n+1,h=>by
  simp only[cj,bm,List.take_succ_cons]at h⊢;exact⟨h.1,y7 xs n h.2⟩
theorem EZ(x:ByteArray):cj (dS x)=true:=by
 have:∀l:List UInt8,cj (l.map fun b=>.int .u8 (b.toNat:Int))=true:=by
  intro l;induction l with
  |nil=>rfl
  |cons b l ih=>simp[cj,ih]
 exact this _
theorem Iu{t u ty:TypeId}{d s:Value}{K:WK}{w:World}(h:PF P t d s K w.heap):Wv P (Builtin.copy_ #[t,u] ty #[d,s]) K w:=by
 unfold PF at h;split at h
 ·rename_i e b dl dc a sl sc ht
  obtain⟨⟨xs,hxs,hw,h1,hk⟩,hz⟩:=pu h;refine⟨_,_,?_,fa w (fU w.heap b 0 xs),hk⟩;have hf:=wD (P:=P) (len:=sl) (cap:=sc) hxs;cases b with
  |none=>simp[Builtin.copy_,aB (dR ht),Builtin.lenOf,hz,hf,goInt];rfl
  |some c=>
   have hst:=Da (P:=P) (m:=0) h1 hw;simp only[Addr.add,if_pos]at hst;simp[Builtin.copy_,aB (dR ht),Builtin.lenOf,hz,hf,goInt,hst,fU]
 ·rename_i e b dl dc x ht
  cases hb:bN (bZ P e) 1 with
  |false=>rw[hb]at h;exact h.elim
  |true=>
   rw[hb]at h;have h1:=aX hb;obtain⟨i,hi⟩:=zq (P:=P) (t:=e) (by omega);have hz:(sizeOf e).run P w=.ok (bZ P e) w:=by simp[sizeOf,cU hi,bZ,hi]
   obtain⟨hw,hk⟩:=h;have hl:(dS x).length=x.size:=by simp[dS]
   have he:(dS x).take (dY x.size dl)=(dS x).take dl:=by
    by_cases hx:x.size≤dl
    ·rw[show dY x.size dl=x.size from Nat.min_eq_left hx,bA (by omega),bA (by omega)]
    ·rw[show dY x.size dl=dl from Nat.min_eq_right (by omega)]
   have hf:(Builtin.firstCells (bZ P e) (dY x.size dl) (.string x)).run P w=.ok ((dS x).take dl).toArray w:=by
    rw[BU,he]
   refine⟨_,_,?_,fa w (fU w.heap b 0 ((dS x).take dl)),hk⟩;cases b with
   |none=>simp[Builtin.copy_,aB (dR ht),Builtin.lenOf,hz,hf,goInt];rfl
   |some c=>
    have hst:=Da (P:=P) (m:=0) (y7 _ dl (EZ x)) hw;simp only[Addr.add,if_pos]at hst;simp[Builtin.copy_,aB (dR ht),Builtin.lenOf,hz,hf,goInt,hst,fU]
 ·exact h.elim
theorem Ni(k v:Value)(clock:Nat):∀(es:List MapEntry),(match es.findIdx? (fun e=>g6 k e.key)with
  |some i=>(es.modify i (fun e=>{e with key:=k,val:=v}),clock)
  |none=>(es++ [{key:=k,val:=v,born:=clock}],clock+1))=Lx k v clock es
 | []=>rfl
 |e::es=>by
  have ih:=Ni k v clock es;simp only[Lx,List.findIdx?_cons];cases hk:g6 k e.key with
  |true=>simp[List.modify]
  |false=>
   simp only[dG,if_false];rw[←ih];cases hf:es.findIdx? (fun e=>g6 k e.key)with
   |none=>simp
   |some i=>simp[List.modify]
theorem vP{d:TypeDesc}{c:CK}(hd:oE d c)(x:c.den):∀(es:List MapEntry) (i:Nat),DI c es→
  Instr.findNow d (c.enc x) es i=some (match es.findIdx? (fun e=>g6 (c.enc x) e.key)with
   |some j=>(es[j]?).map fun e=>(i+j,e.val)
   |none=>none)
 | [],i,_=>rfl
 |e::es,i,h=>by
  obtain⟨y,hy⟩:=h e (by simp);have hs:=BD hd x y;rw[←hy]at hs;have ih:=vP hd x es (i+1) fun e' he'=>h e' (by simp[he'])
  simp only[Instr.findNow,List.findIdx?_cons,hs];cases hb:g6 (c.enc x) e.key with
  |true=>simp
  |false=>
   simp only[dG,if_false];rw[ih];cases hf:es.findIdx? (fun e=>g6 (c.enc x) e.key)with
   |none=>simp
   |some j=>simp[kT,Nat.add_comm 1 j]
theorem Cn{a b:ByteArray}(h:(a==b)=true):a=b:=by
 cases a with|mk a=>cases b with|mk b=>
 have h:(a==b)=true:=h;rw[eq_of_beq h]
theorem D8(a:ByteArray):(a==a)=true:=by
 cases a with|mk a=>
 exact beq_self_eq_true a
theorem G6{d:TypeDesc}{c:CK}(hd:oE d c)(x y:c.den)(h:g6 (c.enc x) (c.enc y)=true):Instr.sameBits 10000 (c.enc y) (c.enc x)=true:=by
 rcases hd with⟨i,rfl,rfl⟩|⟨rfl,rfl⟩|⟨rfl,rfl⟩
 ·have h:x=y:=eq_of_beq (α:=Int) h
  subst h;have:∀n:Int,(i==i&&n==n)=true:=fun n=>by simp
  exact this x
 ·have h:x=y:=Cn h
  subst h;exact D8 x
 ·have h:x=y:=eq_of_beq (α:=Bool) h
  subst h;exact beq_self_eq_true (α:=Bool) x
theorem uv{w:World}{r:Nat}{es:Array MapEntry}{clock:Nat}{o:Obj}(h:w.heap[r]? =some (.map es clock)):(setObj r o).run P w=.ok () (j4 w (w.heap.setIfInBounds r o)):=by
 simp only[setObj,Sem.run,h];rfl
theorem LH{t k e:TypeId}{d:TypeDesc}{c:CK}(hu:P.underlying t=some (.map k e))(hk:P.underlying k=some d)(hd:oE d c){r:Nat}{x:c.den}{v:Value}{w:World}(hm:NV c w.heap r):
  (Instr.mapUpdate t (.map (some r)) (c.enc x) v).run P w=.ok () (j4 w (Sq w.heap r (c.enc x) v)):=by
 obtain⟨es,clock,hb,hks⟩:=hm;obtain⟨q,h1,h2,h3⟩:=uA (P:=P) hd hk x hks w;rw[vP hd x es.toList 0 hks]at h2;have hput:=Ni (c.enc x) v clock es.toList;have hmp:Sq w.heap r (c.enc x) v=w.heap.setIfInBounds r (.map (Lx (c.enc x) v clock es.toList).1.toArray (Lx (c.enc x) v clock es.toList).2):=by
  simp only[Sq,hb]
 rw[hmp,←hput];simp only[Instr.mapUpdate,Sem.run_bind,aB hu,Result.andThen_ok,lN hb,mY hd hk,h1];cases hf:es.toList.findIdx? (fun e=>g6 (c.enc x) e.key)with
 |none=>
  rw[hf]at h2;simp only[bK.injEq]at h2;subst h2;simp only[uv hb];congr 4
  apply dg;simp
 |some i=>
  rw[hf]at h2;simp only[bK.injEq]at h2;obtain⟨hi,hp,_⟩:=List.findIdx?_eq_some_iff_getElem.1 hf;have he:es.toList[i]? =some es.toList[i]:=af hi;rw[he]at h2;simp only[gm,aF]at h2;subst h2;have he':es[i]? =some es.toList[i]:=by rw[←bJ];exact he
  obtain⟨y,hy⟩:=hks es.toList[i] (List.getElem_mem hi);have hsb:Instr.sameBits 10000 (es.toList[i]).key (c.enc x)=true:=by
   rw[hy]at hp⊢;exact G6 hd x y hp
  simp only[he',gm,Option.getD_some,Instr.keyThatStays,hsb,if_true,Sem.run_bind,Sem.run_pure,Result.andThen_ok,uv hb];congr 4
  apply dg;simp
theorem xg{t:TypeId}{m k v:Value}{K:WK}{w:World}(h:Cx P t m k v K w.heap):Wu P (Instr.mapUpdate t m k v) K w:=by
 unfold Cx at h;split at h
 ·rename_i c e m hc
  obtain⟨kt,d,hu,hk,hd⟩:=vK hc;obtain⟨kx,rfl,r,rfl,hm,hK⟩:=CK.dec_sound h;exact⟨_,LH hu hk hd hm,fa _ _,hK⟩
 ·exact h.elim
theorem JN(k:Value):∀(es:List MapEntry),(match es.findIdx? (fun e=>g6 k e.key)with
  |some i=>es.eraseIdx i
  |none=>es)=JO k es
 | []=>rfl
 |e::es=>by
  have ih:=JN k es;simp only[JO,List.findIdx?_cons];cases hk:g6 k e.key with
  |true=>simp
  |false=>
   simp only[dG,if_false];rw[←ih];cases hf:es.findIdx? (fun e=>g6 k e.key)<;>simp
theorem Jt{t k e ty:TypeId}{ts:Array TypeId}{d:TypeDesc}{c:CK}(ht:ts[0]? =some t) (hu:P.underlying t=some (.map k e)) (hk:P.underlying k=some d) (hd:oE d c) {r:Nat} {x:c.den} {w:World} (hm:NV c w.heap r):
  (Builtin.delete_ ts ty #[.map (some r),c.enc x]).run P w=.ok (.tuple #[]) (j4 w (Nt w.heap r (c.enc x))):=by
 obtain⟨es,clock,hb,hks⟩:=hm;obtain⟨q,h1,h2,h3⟩:=uA (P:=P) hd hk x hks w;rw[vP hd x es.toList 0 hks]at h2;have hdrop:=JN (c.enc x) es.toList;have hmp:Nt w.heap r (c.enc x)=w.heap.setIfInBounds r (.map (JO (c.enc x) es.toList).toArray clock):=by
  simp only[Nt,hb]
 rw[hmp,←hdrop];simp only[Builtin.delete_,ht,List.getElem?_toArray,List.getElem?_cons_zero,List.getElem?_cons_succ,Sem.run_bind,aB hu,Result.andThen_ok,lN hb,mY hd hk,h1];cases hf:es.toList.findIdx? (fun e=>g6 (c.enc x) e.key)with
 |none=>
  rw[hf]at h2;simp only[bK.injEq]at h2;subst h2;simp[uv hb]
 |some i=>
  rw[hf]at h2;simp only[bK.injEq]at h2;obtain⟨hi,hp,_⟩:=List.findIdx?_eq_some_iff_getElem.1 hf;have he:es.toList[i]? =some es.toList[i]:=af hi;rw[he]at h2;simp only[gm,aF]at h2;subst h2;have hi':i<es.size:=by simpa using hi
  have herase:es.eraseIdxIfInBounds i=(es.toList.eraseIdx i).toArray:=by
   apply dg;simp[Array.eraseIdxIfInBounds,hi']
  simp[uv hb,herase]
theorem CU{t ty:TypeId}{ts:Array TypeId}{m k:Value}{K:WK}{w:World}(ht:ts[0]? =some t) (h:CV P t m k K w.heap):Wv P (Builtin.delete_ ts ty #[m,k]) K w:=by
 unfold CV at h;split at h
 ·rename_i c e m hc
  obtain⟨kt,d,hu,hk,hd⟩:=vK hc;obtain⟨kx,rfl,h⟩:=CK.dec_sound h;rcases h with⟨rfl,hK⟩|⟨r,rfl,hm,hK⟩
  ·refine⟨_,w,?_,Tame.refl w,hK⟩
   simp[Builtin.delete_,ht,aB hu,mY hd hk]
  ·exact⟨_,_,Jt ht hu hk hd hm,fa _ _,hK⟩
 ·exact h.elim
theorem Oq{t k e:TypeId}(hu:P.underlying t=some (.map k e)){m:Option Nat}{clock:Nat}{w:World}(hm:m=none∧clock=0∨∃r es,m=some r∧w.heap[r]? =some (.map es clock)):
  (Instr.range t (.map m)).run P w=.ok (.pointer (some (aA w.heap))) (j4 w (w.heap.push (.mapIter m clock #[] clock))):=by
 rcases hm with⟨rfl,rfl⟩|⟨r,es,rfl,hb⟩
 ·simp only[Instr.range,Sem.run_bind,aB hu,Result.andThen_ok,Sem.run_pure,Dm,aA]
 ·simp only[Instr.range,Sem.run_bind,aB hu,Result.andThen_ok,Sem.run_pure,lN hb,Dm,aA]
theorem vE{w:World}{i:Nat}{m:Option Nat}{since:Nat}{seen:Array Nat}{last:Nat}(h:w.heap[i]? =some (.mapIter m since seen last)):(getObj i).run P w=.ok (.mapIter m since seen last) w:=by
 simp only[getObj,Sem.run,h]
theorem IT{w:World}{i:Nat}{m:Option Nat}{since:Nat}{seen:Array Nat}{last:Nat}{o:Obj}(h:w.heap[i]? =some (.mapIter m since seen last)):(setObj i o).run P w=.ok () (j4 w (w.heap.setIfInBounds i o)):=by
 simp only[setObj,Sem.run,h];rfl
theorem D5(n:Nat)(hn:0<n)(w:World):∃k w',k<n∧(choose (.mapNext n)).run P w=.ok k w'∧Tame w w'∧w'.heap=w.heap:=by
 unfold choose;simp only[Sem.run];by_cases h:(Question.mapNext n).forced=true
 ·exact⟨0,w,hn,by rw[if_pos h],Tame.refl w,rfl⟩
 ·refine⟨(Question.mapNext n).cut (w.tape w.drawn (.mapNext n)),{w with drawn:=w.drawn+1},Nat.mod_lt _ hn,by rw[if_neg h],⟨rfl,rfl,rfl⟩,rfl⟩
theorem Is{it:Value}{t:TypeId}{K:WK}{w:World}(h:PE it K w.heap):Wv P (Instr.next it false t) K w:=by
 unfold PE at h;split at h
 ·rename_i a
  obtain⟨h0,m,since,seen,last,hi,h⟩:=h;obtain⟨b,off,spot⟩:=a;simp only at h0 hi h;subst h0;rcases h with⟨rfl,hK⟩|⟨r,es,clock,rfl,hb,hnon,hend,hgo⟩
  ·exact⟨_,w,by simp only[Instr.next,Sem.run_bind,vE hi,Result.andThen_ok,Sem.run_pure],Tame.refl w,hK⟩
  ·have hguard:(!seen.isEmpty&& !es.isEmpty&&es.all (fun e=>decide (e.born≥last)))=false:=by
    rcases hnon with h|h|h<;>simp[h]
   obtain⟨left,hleft⟩:∃left,left=es.filter fun e=> !seen.contains e.born:=⟨_,rfl⟩
   obtain⟨old,hold⟩:∃old,old=left.filter (·.born<since):=⟨_,rfl⟩
   obtain⟨new,hnew⟩:∃new,new=left.filter (·.born≥since):=⟨_,rfl⟩
   obtain⟨cand,hcand⟩:∃cand:Array (Option MapEntry),cand=(if old.isEmpty then #[none]else #[])++(old++new).map some:=⟨_,rfl⟩
   have hpos:0<cand.size:=by
    rw[hcand];by_cases ho:old.isEmpty=true
    ·simp[ho];omega
    ·have:old.size≠0:=by simpa using ho
     simp[ho];omega
   obtain⟨k,w1,hk,hrun,ht,hh⟩:=D5 (P:=P) cand.size hpos w;obtain⟨c,hc⟩:∃c,cand[k]? =some c:=⟨cand[k],Array.getElem?_eq_getElem hk⟩;have hi1:w1.heap[b]? =some (.mapIter (some r) since seen last):=by rw[hh];exact hi
   have hguard':(!seen.isEmpty&& !es.isEmpty&&es.all fun x=>decide (x.born≥last))=false:=hguard
   cases c with
   |none=>
    refine⟨.tuple #[.bool false],w1,?_,ht,?_⟩
    ·simp only[Instr.next,Sem.run_bind,vE hi,Result.andThen_ok,Sem.run_pure,lN hb,hguard',dG,if_false,←hleft,←hold,←hnew,←hcand,hrun,hc]
    ·rw[hh]
     have hold0:old.isEmpty=true:=by
      have hm:none∈cand:=pm hc;rw[hcand]at hm;by_cases ho:old.isEmpty=true
      ·exact ho
      ·simp[ho]at hm
     refine hend fun e he hlt=>?_
     cases hs:seen.contains e.born with
     |true=>rfl
     |false=>
      have hmem:e∈old:=by
       rw[hold,hleft];simp only[pK];exact⟨⟨by simpa using he,by rw[hs];rfl⟩,by simpa using hlt⟩
      rw[Array.isEmpty_iff]at hold0;rw[hold0]at hmem;simp at hmem
   |some e=>
    have hmem:e∈es∧seen.contains e.born=false:=by
     have hm:some e∈cand:=pm hc;have hm2:e∈left:=by
      rw[hcand]at hm;rw[Array.mem_append]at hm;rcases hm with hm|hm
      ·split at hm<;>simp at hm
      ·simp only[Array.mem_map,bK.injEq,exists_eq_right,Array.mem_append]at hm
       rcases hm with hm|hm
       ·rw[hold]at hm;exact(pK.1 hm).1
       ·rw[hnew]at hm;exact(pK.1 hm).1
     rw[hleft]at hm2;have:=pK.1 hm2;exact⟨this.1,by simpa using this.2⟩
    refine⟨.tuple #[.bool true,e.key,e.val],j4 w1 (w1.heap.setIfInBounds b (.mapIter (some r) since (seen.push e.born) clock)),?_,ht.trans (fa _ _),?_⟩
    ·simp only[Instr.next,Sem.run_bind,vE hi,Result.andThen_ok,Sem.run_pure,lN hb,hguard',dG,if_false,←hleft,←hold,←hnew,←hcand,hrun,hc,IT hi1]
    ·rw[hh]
     exact hgo e (by simpa using hmem.1) hmem.2
 ·exact h.elim
theorem E1{t e:TypeId}{z:List Value}{k k':IntKind}{l c:Int}{w:World}(ht:vg P t=some e)(hz:qh P e=some z)(hzl:z.length=bZ P e)(h0:0≤l)(h1:l≤c)(h2:c≤9223372036854775807)(h3:qr P e*c≤2^48):
  (Instr.makeSlice t (.int k l) (.int k' c)).run P w=.ok (.slice (some (aA w.heap)) l.toNat c.toNat) (j4 w (hnew w.heap (dK c.toNat z) e)):=by
 obtain⟨v,hv,hvc⟩:=j3 hz;obtain⟨i,hi,hiz⟩:=qP hv;have hsz:bZ P e=i.size:=by simp[bZ,hi]
 have hby:qr P e=i.bytes:=by simp[qr,hi]
 have hvs:v.cells.size=i.size:=by rw[←hsz,←hzl,←hvc];simp
 have hl:=Ax h0 (by omega);have hc:=Ax (show 0≤c by omega) h2
 rw[hby]at h3;have c1:¬(c<0):=by omega
 have c2:¬(281474976710656<(i.bytes:Int)*c):=by omega
 have c3:¬(l<0):=by omega
 have c4:¬(c<l):=by omega
 by_cases hz0:c.toNat*i.size=0
 ·have hz1:(dK c.toNat z).length=0:=by simp[dK,hzl,hsz,hz0]
  rw[aG.1 hz1];simp[Instr.makeSlice,aB (dR ht),asInt,asIntOf,cU hi,hl,hc,c1,c2,c3,c4,sizeOf,hz0,kg]
 ·have hrow:((Array.range (c.toNat*i.size)).map (fun j=>v.cells[j%v.cells.size]!))=(dK c.toNat z).toArray:=by
   rw[←hvs,MZ,hvc]
  have key:(newRow e ((Array.range (c.toNat*i.size)).map (fun j=>v.cells[j%v.cells.size]!))).run P w=.ok (aA w.heap) (j4 w (hnew w.heap (dK c.toNat z) e)):=by
   rw[hrow,kg]
  simp[Instr.makeSlice,aB (dR ht),asInt,asIntOf,cU hi,hl,hc,c1,c2,c3,c4,sizeOf,hz0,fi hv];rw[key];rfl
theorem Agree.args{N:Nat}{r:cH}{a:Act}(h:Agree N r a){os:Array Operand}{vs:List Value}(hv:qk r os.toList=some vs):os.map a.eval=vs.toArray:=by
 rw[←oh h hv];apply dg;simp
theorem HC.out{f:FuncId}{args:List Value}{ks:List Kind}{K:WK}{w:World}(h:HC P f args ks (fun x h'=>K (Dt ks (mX ks x)) h') w.heap):Ka P (callFunc f args.toArray) K w:=by
 rcases h.run w rfl with⟨h1,h2⟩|⟨v,w',h1,ht,x,rfl,hk⟩
 ·refine .inr (.inr (.inl ⟨f,args.toArray,h1,h2.mono ?_⟩))
  rintro e w' ⟨ht,x,rfl,hk⟩;exact⟨ht,_,rfl,hk⟩
 ·exact .inl ⟨_,w',h1,ht,hk⟩
theorem O8{src dst e:TypeId}{s:ByteArray}{w:World}(hs:P.underlying src=some .string)(hd:P.underlying dst=some (.slice e))(he:P.underlying e=some (.int .u8)):
  ∃c,s.size≤c∧(convert src dst (.string s)).run P w=.ok (.slice (some (aA w.heap)) s.size c) (j4 w.drew (w.heap.push (.cells (dS s++eg (c-s.size) (Value.int .u8 0)).toArray e (c,c+1)))):=by
 have hge:s.size≤grownCap w s.size 0 e:=pH _ _;refine⟨_,hge,?_⟩;rw[Go.Lib.run_convert_string_bytes w src dst e s hs hd he];have hc:(Go.Lib.bytesCells w e s).size=grownCap w s.size 0 e:=by
  unfold Go.Lib.bytesCells;rw[Array.size_append,Array.size_map,Array.size_replicate,show s.data.size=s.size from rfl]
  omega
 have hcl:(dS s++eg (grownCap w s.size 0 e-s.size) (Value.int .u8 0)).toArray=Go.Lib.bytesCells w e s:=by
  unfold Go.Lib.bytesCells dS;apply dg;simp
 rw[hcl];unfold Go.Lib.bytesWorld World.freeze;rw[if_neg (by omega),hc];unfold World.alloc World.drew j4;congr 1
 congr 1
 apply Array.ext (by simp);intro i h1 h2;rw[Array.getElem_modify];simp only[Array.getElem_push];split
 ·rename_i e
  subst e;simp
 ·rename_i e
  have hi:i<w.heap.size:=by simp at h2;omega
  rw[dif_pos hi,dif_pos hi]
theorem Az{o:Oper}{r:cH}{K:WK}{w:World}{N:Nat}{a:Act}(ha:Agree N r a)(hq:EP P o r K w.heap):Ka P (execOp a.eval o) K w:=by
 have ev:∀{x:Operand} {v:Value},dM r x=some v→a.eval x=v:=fun h=>lO ha h
 obtain⟨dst,op,type,ns,after,guard⟩:=o;cases op with
 |alloc t=>
  simp only[EP]at hq;split at hq
  ·rename_i z hz
   obtain⟨v,hv,hvc⟩:=j3 hz;have he:(Instr.alloc t true (.tuple #[])).run P w=.ok (.pointer (some (aA w.heap))) (j4 w (hnew w.heap z t)):=by
    simp[Instr.alloc,fi hv,newVar,kg,hvc]
   exact Wv.out ⟨_,_,he,fa _ _,hq⟩
  ·exact hq.elim
 |box t x=>
  simp only[EP]at hq;split at hq
  ·rename_i v hv
   have he:(Instr.box t v).run P w=.ok (.pointer (some (aA w.heap))) (j4 w (hnew w.heap v.cells.toList t)):=by
    simp[Instr.box,newVar,kg]
   simp only[execOp,ev hv];exact Wv.out ⟨_,_,he,fa _ _,hq⟩
  ·exact hq.elim
 |build t ps=>
  simp only[EP]at hq;split at hq
  ·rename_i vs hvs
   split at hq
   ·rename_i cs hcs
    have hp:(ps.map fun x=>(x.1,a.eval x.2))=vs.toArray:=by
     rw[←om ha hvs];apply dg;simp
    have he:=zH (ps:=vs.toArray) (by simpa using hcs) w;simp only[execOp];rw[show(ps.map fun(i,x)=>(i,a.eval x))=vs.toArray from hp]
    exact Wv.out ⟨_,w,he,Tame.refl w,hq⟩
   ·exact hq.elim
  ·exact hq.elim
 |buildSlice t n ps=>
  simp only[EP]at hq;split at hq
  ·rename_i e vs ht hvs
   split at hq
   ·rename_i z hz
    cases hb:(wU (n*bZ P e) 16777216&&bN z.length (bZ P e))with
    |false=>rw[hb]at hq;exact hq.elim
    |true=>
     rw[hb]at hq;simp only[bm]at hb;simp only[cond_true]at hq;split at hq
     ·rename_i cs hcs
      have hp:(ps.map fun x=>(x.1,a.eval x.2))=vs.toArray:=by
       rw[←om ha hvs];apply dg;simp
      have he:=A9 (ps:=vs.toArray) ht hz (i7 hb.1) (aX hb.2) (by simpa using hcs) w;simp only[execOp];rw[show(ps.map fun(i,x)=>(i,a.eval x))=vs.toArray from hp]
      exact Wv.out ⟨_,_,he,fa _ _,hq⟩
     ·exact hq.elim
   ·exact hq.elim
  ·exact hq.elim
 |store t x y=>
  simp only[EP]at hq;split at hq
  ·rename_i b v hb hv
   simp only[execOp,ev hb,ev hv];exact Wu.out (GO hq)
  ·exact hq.elim
 |mapUpdate t m k x=>
  simp only[EP]at hq;split at hq
  ·rename_i mv kv xv hm hk hx
   simp only[execOp,ev hm,ev hk,ev hx];exact Wu.out (xg hq)
  ·exact hq.elim
 |insert t m k x=>
  simp only[EP]at hq;split at hq
  ·rename_i mv kv xv hm hk hx
   simp only[execOp,ev hm,ev hk,ev hx];exact Wu.out (xg hq)
  ·exact hq.elim
 |makeMap t n=>
  simp only[EP]at hq;cases n with
  |none=>exact Wv.out ⟨_,j4 w (w.heap.push (.map #[] 0)),by simp[Instr.makeMap];rfl,fa _ _,hq⟩
  |some n=>
   simp only at hq;split at hq
   ·rename_i k i hn ht
    exact Wv.out ⟨_,j4 w (w.heap.push (.map #[] 0)),by simp[Instr.makeMap,ev hn,aB ht,asInt,asIntOf];rfl,fa _ _,hq⟩
   ·exact hq.elim
 |makeSlice t l c=>
  simp only[EP]at hq;split at hq
  ·rename_i e k l' k' c' ht hl hc
   split at hq
   ·rename_i z hz
    cases hb:bN z.length (bZ P e)with
    |false=>rw[hb]at hq;exact hq.elim
    |true=>
     rw[hb]at hq;obtain⟨⟨h0,h1,h2,h3⟩,hq⟩:=hq;simp only[execOp,ev hl,ev hc];exact Wv.out ⟨_,_,E1 ht hz (aX hb) h0 h1 h2 h3,fa _ _,hq⟩
   ·exact hq.elim
  ·exact hq.elim
 |convert s d x=>
  simp only[EP]at hq;split at hq
  ·rename_i e v hs hd hx
   cases hu:LS P e with
   |false=>rw[hu]at hq;exact hq.elim
   |true=>
    rw[hu]at hq;obtain⟨c,hc,hrun⟩:=O8 (w:=w) (s:=v) hs hd (DJ hu);simp only[execOp,ev hx];exact Wv.out ⟨_,_,hrun,⟨rfl,rfl,rfl⟩,hq c hc⟩
  ·exact hq.elim
 |range t x=>
  simp only[EP]at hq;split at hq
  ·rename_i k e m hu hx
   obtain⟨clock,hm,hq⟩:=hq;simp only[execOp,ev hx];exact Wv.out ⟨_,_,Oq hu hm,fa _ _,hq⟩
  ·exact hq.elim
 |next it isS=>
  cases isS with
  |true=>simp only[EP]at hq
  |false=>
   simp only[EP]at hq;split at hq
   ·rename_i v hv
    simp only[execOp,ev hv];exact Wv.out (Is hq)
   ·exact hq.elim
 |call c=>
  simp only[EP]at hq;have eb:∀{b:Builtin} {vs:List Value},c.callee=.builtin b→qk r c.args.toList=some vs→∃cs:Array Bool,∀w,(execOp a.eval ⟨dst,.call c,type,ns,after,guard⟩).run P w=
    (builtin b c.argTypes type cs vs.toArray).run P w:=by
   intro b vs hc hvs;refine⟨c.args.map fun| .const _=>true|_=>false,fun w=>?_⟩
   simp[execOp,resolve,hc,ha.args hvs,invoke];rfl
  have wo:∀{s s':Sem Next},(∀w,s.run P w=s'.run P w)→Ka P s' K w→Ka P s K w:=by
   intro s s' he h;unfold Ka at h⊢;simp only[he];exact h
  split at hq
  ·rename_i s x hc hvs
   split at hq
   ·rename_i t u hat
    obtain⟨cs,er⟩:=eb hc hvs;refine wo er ?_;have hat':c.argTypes= #[t,u]:=by apply dg;rw[hat]
    simp only[builtin,hat'];split at hq
    ·rename_i e' hu;exact Wv.out (xh (.inl ⟨e',hu⟩) hq)
    ·rename_i hu;exact Wv.out (xh (.inr hu) hq)
    ·rename_i k0 hu;exact Wv.out (CW hu hq)
    ·exact hq.elim
   ·exact hq.elim
  ·rename_i x hc hvs
   split at hq
   ·rename_i t hat
    obtain⟨cs,er⟩:=eb hc hvs;refine wo er ?_;have hat':c.argTypes= #[t]:=by apply dg;rw[hat]
    simp only[builtin,hat'];exact Wv.out (GP hq)
   ·exact hq.elim
  ·rename_i s x hc hvs
   split at hq
   ·rename_i t u hat
    obtain⟨cs,er⟩:=eb hc hvs;refine wo er ?_;have hat':c.argTypes= #[t,u]:=by apply dg;rw[hat]
    simp only[builtin,hat'];exact Wv.out (Iu hq)
   ·exact hq.elim
  ·rename_i m k hc hvs
   split at hq
   ·rename_i t u hat
    obtain⟨cs,er⟩:=eb hc hvs;refine wo er ?_;simp only[builtin];exact Wv.out (CU (by rw[←bJ,hat];rfl) hq)
   ·exact hq.elim
  ·rename_i f args hc hvs
   unfold SW at hq;split at hq
   ·exact hq.elim
   ·rename_i ks hks
    split at hq
    ·rename_i f
     refine wo (s':=callFunc f args.toArray) (fun w=>?_) hq.out
     simp[execOp,resolve,hc,ha.args hvs,Act.eval,Deferred.ofValue,invoke]
    ·rename_i f hf
     split at hq
     ·rename_i fv hfv
      rcases hq.run with⟨g,first,cap,rfl,hh⟩|⟨l,rfl,hh⟩
      rotate_left
      ·obtain⟨fn,tmps,assign,body,h1,h2⟩:=hh.run w rfl
       refine .inr (.inr (.inr ⟨l,fn,tmps,assign,body,?_,fun c cs=>?_⟩))
       ·rw[←h1]
        simp[execOp,resolve,hc,ha.args hvs,ev hfv,Deferred.ofValue,invoke]
       ·obtain⟨b,w',ht,hk,hs⟩:=h2 c cs
        refine⟨b,w',ht,?_,hs⟩;obtain⟨t,e,hk⟩:=rm hk;have hl:ks.length=1:=by rw[←r9 ks t,←e];rfl
        match ks,hl,t,e,hk with
        | [k],_,t,e,hk=>rw[←e]at hk;exact hk
      refine wo (s':=callFunc g (first.toList++args++cap.toList).toArray) (fun w=>?_) hh.out
      have e:first++args.toArray++cap=(first.toList++args++cap.toList).toArray:=by apply dg;simp
      rw[←e];simp[execOp,resolve,hc,ha.args hvs,ev hfv,Deferred.ofValue,invoke]
     ·exact hq.elim
  ·exact hq.elim
 |_=>simp only[EP]at hq
end Go.Lift
