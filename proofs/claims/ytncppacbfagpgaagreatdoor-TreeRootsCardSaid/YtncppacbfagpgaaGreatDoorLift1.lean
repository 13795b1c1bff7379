/- A part of the proof that the named laws of this program answer true, whatever the input. -/
import Derived.Test.YtncppacbfagpgaaGreatDoorLift0
import Derived.Laws.Append
import Derived.Laws.Cover3
import Derived.Laws.StructEq
import Derived.Laws.BytesString
import Derived.Lib.ConvBytes
open Array renaming ext'→dg,getElem?_toList→bM,mem_of_getElem?→ou,mem_filter→oN
open Bool renaming and_eq_true→bD,false_eq_true→dG
open ByteArray renaming data_extract→oc
open List renaming extract_eq_take_drop→gc,map_cons→co,foldl_cons→pI,map_map→qc,take_of_length_le→bw,length_cons→ax,cons_append→dN,replicate→fW,length_eq_zero_iff→aH,getElem?_eq_getElem→af
open Nat renaming beq→bJ,add_assoc→jj,ble→vr,eq_of_beq_eq_true→aU,le_of_ble_eq_true→iI,add_zero→cU,zero_add→aD,le_add_right→oK,min→dW
open Option renaming some→bH,isSome_iff_exists→gw,map_some→f8
open Prod renaming mk→nV
open UInt8 renaming ofNat→fJ
namespace Go.Lift
open Go
def Ol(S:Option (ad→Prop))(h:ad):Prop:=match S with|none=>True|some f=>f h
def Yv(P:Program)(s:Sem Value)(K:RK)(h:ad):Prop:=∃v S,K v S∧Ol S h∧∀w:World,Ol S w.heap→s.run P w=.ok v w
theorem Yv.of_pure{P:Program}{s:Sem Value}{K:RK}{h:ad}{v:Value}(hk:K v none)(hr:∀w:World,s.run P w=.ok v w):Yv P s K h:=
 ⟨v,none,hk,trivial,fun w _=>hr w⟩
variable {P:Program}
theorem uB{t:TypeId}{f:Nat}{u:TypeId}{off:Nat}(h:uC P t f=some (u,off)):
  ∃fs g,P.underlying t=some (.struct fs)∧fs[f]? =some g∧g.type=u∧g.offset=off:=by
 unfold uC at h;split at h
 ·rename_i fs hu
  split at h
  ·rename_i g hg
   simp only[bH.injEq,nV.injEq]at h;exact⟨fs,g,hu,by simpa using hg,h.1,h.2⟩
  ·cases h
 ·cases h
theorem ws{t:TypeId}(h:bJ (ce P t) 0=false)(w:World):(sizeOf t).run P w=.ok (ce P t) w:=by
 unfold ce at h⊢;cases hi:P.info? t with
 |none=>rw[hi]at h;cases h
 |some i=>simp[sizeOf,cQ hi]
theorem Ar{t:TypeId}{f:Nat}{u:TypeId}{off:Nat}{a:Addr}{K:RK}{h:ad}(hf:uC P t f=some (u,off))
  (hk:bif bJ (ce P u) 0 then False else K (.pointer (some (adr a off))) none):Yv P (Instr.fieldAt t (.pointer (some a)) f) K h:=by
 obtain⟨fs,g,hu,hg,rfl,rfl⟩:=uB hf;cases hz:bJ (ce P g.type) 0 with
 |true=>rw[hz]at hk;exact hk.elim
 |false=>
  rw[hz]at hk;refine .of_pure hk fun w=>?_
  have hne:ce P g.type≠0:=fun e=>by rw[e]at hz;cases hz
  simp only[Instr.fieldAt,Sem.run_bind,ay hu,Result.andThen_ok,hg,Instr.sureAddr,Sem.run_pure,fieldPlace,ws hz];simp[hne,rI]
theorem tC{t:TypeId}{i:TypeInfo}(_:P.info? t=some i)(hu:∃d,P.underlying t=some d)(w:World):(isAgg t).run P w=.ok (tD P t) w:=by
 obtain⟨d,hd⟩:=hu;simp only[isAgg,Sem.run_bind,ay hd,Result.andThen_ok];unfold tD;rw[hd];cases d<;>rfl
theorem xA{op:BinOp}{k k':IntKind}{a b:Int}{K:RK}{h:ad}(hs:op=.shl∨op=.shr)(hv:H6 op k a b K):Yv P (Op.shift op k a k' b) K h:=by
 rcases hs with rfl|rfl
 ·obtain⟨h0,hk⟩:=hv
  refine .of_pure hk fun w=>?_
  simp[Op.shift,Int.not_lt.2 h0]
 ·obtain⟨h0,hk⟩:=hv
  refine .of_pure hk fun w=>?_
  simp[Op.shift,Int.not_lt.2 h0]
theorem IY{op:BinOp}{k:IntKind}{a b:Int}{K:RK}{h:ad}(hv:Qk op k a b K)(hs:op≠ .shl∧op≠ .shr):Yv P (binOp op 0 (.int k a) (.int k b)) K h:=by
 cases op<;>simp only[Qk]at hv
 case quo=>obtain⟨h0,hk⟩:=hv;exact .of_pure hk fun w=>by simp[binOp,Op.intDiv,h0]
 case rem=>obtain⟨h0,hk⟩:=hv;exact .of_pure hk fun w=>by simp[binOp,Op.intDiv,h0]
 all_goals exact .of_pure hv fun w=>by simp[binOp,Op.intArith,Op.intBits,Op.intCmp]
theorem Cm(op:BinOp)(t:TypeId)(k k':IntKind)(a b:Int):binOp op t (.int k a) (.int k' b)=binOp op 0 (.int k a) (.int k' b):=by
 cases op<;>rfl
theorem H2{op:BinOp}{t:TypeId}{a b:ByteArray}{K:RK}{h:ad}(hv:P3 op a b K):Yv P (binOp op t (.string a) (.string b)) K h:=by
 cases op<;>simp only[P3]at hv
 case add=>
  obtain⟨h0,hk⟩:=hv;refine .of_pure hk fun w=>?_
  have:¬(((a.size+b.size:Nat):Int)>IntKind.i64.max):=by
   have:IntKind.i64.max=9223372036854775807:=by decide
   omega
  simp only[binOp,Op.stringOp,if_neg this,Sem.run_pure]
 all_goals exact .of_pure hv fun w=>by simp[binOp,Op.stringOp]
theorem pk{t:TypeId}{x y:Value}{b:Bool}{w:World}(h:∀d,(Op.equalIn (d+1) t x y).run P w=.ok b w):(Op.equal t x y).run P w=.ok b w:=h 9999
theorem B9{t:TypeId}{e:TypeId}(hu:P.underlying t=some (.pointer e))(a:Option Addr)(w:World):(Op.equal t (.pointer a) (.pointer none)).run P w=.ok a.isNone w:=by
 refine pk fun d=>?_
 simp only[Op.equalIn,Sem.run_bind,ay hu,Result.andThen_ok];cases a<;>rfl
theorem Jf(op:BinOp)(t:TypeId)(x y:Operand)(a b:Value)(h:∀c d,a=.agg c→b=.agg d→False)(hi:a=.nilIface→b=.nilIface→False)(w:World):
  (eqGuard op t x y a b).run P w=.ok () w:=by
 cases op;case eql=>cases a<;>cases b<;>first|rfl|exact(hi rfl rfl).elim|exact(h _ _ rfl rfl).elim
 case neq=>cases a<;>cases b<;>first|rfl|exact(hi rfl rfl).elim|exact(h _ _ rfl rfl).elim
 all_goals rfl
theorem L7(t:TypeId)(x y:Value)(hx:∀k a,x≠ .int k a)(hs:∀s,x≠ .string s)(hf:∀k a,x≠ .float k a)(hc:∀k a b,x≠ .complex k a b):binOp .eql t x y=(do pure (.bool (←Op.equal t x y))):=by
 cases x<;>first|rfl|exact absurd rfl (hx _ _)|exact absurd rfl (hs _)|exact absurd rfl (hf _ _)|exact absurd rfl (hc _ _ _)
theorem L6(t:TypeId)(x y:Value)(hx:∀k a,x≠ .int k a)(hs:∀s,x≠ .string s)(hf:∀k a,x≠ .float k a)(hc:∀k a b,x≠ .complex k a b):binOp .neq t x y=(do pure (.bool (!(←Op.equal t x y)))):=by
 cases x<;>first|rfl|exact absurd rfl (hx _ _)|exact absurd rfl (hs _)|exact absurd rfl (hf _ _)|exact absurd rfl (hc _ _ _)
theorem pm{t:TypeId}{neg:Bool}{x y:Value}{b:Bool}{w:World}(he:(Op.equal t x y).run P w=.ok b w)
  (hx:∀k a,x≠ .int k a)(hs:∀s,x≠ .string s)(hf:∀k a,x≠ .float k a)(hc:∀k a b,x≠ .complex k a b):
  (binOp (bif neg then .neq else .eql) t x y).run P w=.ok (.bool (bif neg then !b else b)) w:=by
 cases neg
 ·simp only[cond_false,L7 t x y hx hs hf hc,Sem.run_bind,he,Result.andThen_ok,Sem.run_pure]
 ·simp only[cond_true,L6 t x y hx hs hf hc,Sem.run_bind,he,Result.andThen_ok,Sem.run_pure]
theorem BI{t:TypeId}{neg:Bool}{x y:Value}{K:RK}{h:ad}(hv:OZ P t neg x y K):
  (∀c d,x=.agg c→y=.agg d→False)∧(x=.nilIface→y=.nilIface→False)∧Yv P (binOp (bif neg then .neq else .eql) t x y) K h:=by
 unfold OZ at hv;split at hv
 ·rename_i e a hu
  refine⟨nofun,nofun,.of_pure hv fun w=>?_⟩
  exact pm (B9 hu a w) nofun nofun nofun nofun
 ·rename_i k e a hu
  refine⟨nofun,nofun,.of_pure hv fun w=>?_⟩
  refine pm ?_ nofun nofun nofun nofun;refine pk fun d=>?_
  simp only[Op.equalIn,Sem.run_bind,ay hu,Result.andThen_ok];cases a<;>rfl
 ·rename_i e a _ _ _ _ hu
  refine⟨nofun,nofun,.of_pure hv fun w=>?_⟩
  refine pm ?_ nofun nofun nofun nofun;refine pk fun d=>?_
  simp only[Op.equalIn,Sem.run_bind,ay hu,Result.andThen_ok];cases a<;>rfl
 ·exact hv.elim
theorem uk{w:World}{a b:Addr}(ha:gA w.heap a)(hb:gA w.heap b):(sameAddr a b).run P w=.ok (a==b) w:=by
 obtain⟨ca,ea,ha,sa⟩:=ha;obtain⟨cb,eb,hb,sb⟩:=hb;by_cases hbl:a.block=b.block
 ·simp[sameAddr,hbl]
 ·have hne:(a==b)=false:=by
   rw[beq_eq_false_iff_ne];intro e;exact hbl (by rw[e])
  have s1:w.shape? a.block=some (ea,ca.size):=by simp[World.shape?,ha]
  have s2:w.shape? b.block=some (eb,cb.size):=by simp[World.shape?,hb]
  have f1:∀n,w.frozen? ({block:=a.block,off:=n}:Addr)=false:=fun n=>by simp[World.frozen?,ha]
  have f2:∀n,w.frozen? ({block:=b.block,off:=n}:Addr)=false:=fun n=>by simp[World.frozen?,hb]
  have g1:w.frozen? a=false:=by simp[World.frozen?,ha]
  have g2:w.frozen? b=false:=by simp[World.frozen?,hb]
  obtain⟨m,hm⟩:∃m,ca.size=m+1:=⟨ca.size-1,by omega⟩
  obtain⟨n,hn⟩:∃n,cb.size=n+1:=⟨cb.size-1,by omega⟩
  simp[sameAddr,hbl,noView,viewAt,mayBeOne,stringish,s1,s2,f1,f2,g1,g2,hm,hn,hne]
theorem Eg{t:TypeId}{neg:Bool}{x y:Value}{K:RK}{h:ad}(hv:Rp P t neg x y K h):
  (∀c d,x=.agg c→y=.agg d→False)∧(x=.nilIface→y=.nilIface→False)∧Yv P (binOp (bif neg then .neq else .eql) t x y) K h:=by
 unfold Rp at hv;split at hv
 ·rename_i a b hu
  refine⟨nofun,nofun,.of_pure hv fun w=>?_⟩
  refine pm ?_ nofun nofun nofun nofun;refine pk fun d=>?_
  simp only[Op.equalIn,Sem.run_bind,ay hu,Result.andThen_ok,Sem.run_pure]
 ·rename_i e a b hu
  obtain⟨hz,hp,hk⟩:=hv;refine⟨nofun,nofun,_,_,hk,hp,fun w hw=>?_⟩
  refine pm ?_ nofun nofun nofun nofun;have hz':bJ (ce P e) 0=false:=by
   cases hb:bJ (ce P e) 0 with
   |false=>rfl
   |true=>rw[hb]at hz;exact hz.elim
  have hne:ce P e≠0:=fun e=>by rw[e]at hz';cases hz'
  refine pk fun d=>?_
  simp only[Op.equalIn,Sem.run_bind,ay hu,Result.andThen_ok];cases a with
  |none=>cases b<;>rfl
  |some a=>cases b with
   |none=>rfl
   |some b=>
    obtain⟨h1,h2⟩:=hw a b rfl rfl;simp only[Sem.run_bind,ws hz',Result.andThen_ok,ne_eq,hne,not_false_eq_true,if_true,uk h1 h2];rfl
 ·exact hv.elim
theorem Is{op:BinOp}{t:TypeId}{x y:Value}{K:RK}{h:ad}(hv:Qb P op t x y K h):
  (∀c d,x=.agg c→y=.agg d→False)∧(x=.nilIface→y=.nilIface→False)∧Yv P (binOp op t x y) K h:=by
 unfold Qb at hv;split at hv
 ·rename_i k a k' b
  refine⟨nofun,nofun,?_⟩;rw[Cm];split at hv
  ·exact xA (k':=k') (.inl rfl) hv
  ·exact xA (k':=k') (.inr rfl) hv
  ·rename_i h1 h2
   cases hk:E8 k' k with
   |false=>rw[hk]at hv;exact hv.elim
   |true=>rw[hk]at hv;have:=xN hk;subst this;exact IY hv ⟨h1,h2⟩
 ·exact⟨nofun,nofun,H2 hv⟩
 ·split at hv
  ·exact Eg (neg:=false) hv
  ·exact Eg (neg:=true) hv
  ·exact hv.elim
theorem GC{u:TypeId}{cs:List Value}{off:Nat}(hu:((P.underlying u).isSome&&(P.info? u).isSome)=true){w:World}(ha:tD P u=true):
  (part u cs.toArray off).run P w=.ok (.agg ((cs.drop off).take (ce P u)).toArray) w:=by
 simp only[bD,gw]at hu;obtain⟨hu,i,hi⟩:=hu;have hs:(sizeOf u).run P w=.ok (ce P u) w:=by simp[sizeOf,cQ hi,ce,hi]
 simp only[part,Sem.run_bind,tC hi hu,Result.andThen_ok,ha,if_true,hs,Sem.run_pure];congr 2
 apply dg;simp[gc]
theorem DR{u:TypeId}{cs:List Value}{off:Nat}(hu:((P.underlying u).isSome&&(P.info? u).isSome)=true){w:World}(ha:tD P u=false){v:Value}(hc:cs[off]? =some v):
  (part u cs.toArray off).run P w=.ok v w:=by
 simp only[bD,gw]at hu;obtain⟨hu,i,hi⟩:=hu;have hc':cs.toArray[off]? =some v:=by simpa using hc
 simp only[part,Sem.run_bind,tC hi hu,Result.andThen_ok,ha,dG,if_false,hc',Sem.run_pure]
theorem wB{h:ad}:∀{l m:List (Option Addr×Option Addr)},px h (l++m)→px h l∧px h m
 | [],_,h=>⟨trivial,h⟩
 |(_,_)::_,_,h=>⟨⟨h.1,(wB h.2).1⟩,(wB h.2).2⟩
theorem G4{t:TypeId}{x y:Value}{b:Bool}{l:List (Option Addr×Option Addr)}(he:NH P t x y=some (b,l)){w:World}(hp:px w.heap l)(d:Nat):
  (Op.equalIn (d+1) t x y).run P w=.ok b w:=by
 unfold NH at he;split at he
 ·rename_i k0 k a k' c hu
  cases hk:E8 k' k with
  |false=>rw[hk]at he;cases he
  |true=>
   rw[hk]at he;have:=xN hk;subst this;cases he;exact run_equalIn_int w d t _ _ _ _ hu
 ·rename_i a c hu
  cases he;exact run_equalIn_bool w d t _ _ hu
 ·rename_i a c hu
  cases he;exact run_equalIn_string w d t _ _ hu
 ·rename_i e a c hu
  cases hz:bJ (ce P e) 0 with
  |true=>rw[hz]at he;cases he
  |false=>
   rw[hz]at he;cases he;have hne:ce P e≠0:=fun e=>by rw[e]at hz;cases hz
   simp only[Op.equalIn,Sem.run_bind,ay hu,Result.andThen_ok];cases a with
   |none=>cases c<;>rfl
   |some a=>cases c with
    |none=>rfl
    |some c=>
     obtain⟨h1,h2⟩:=hp.1 a c rfl rfl;simp only[Sem.run_bind,ws hz,Result.andThen_ok,ne_eq,hne,not_false_eq_true,if_true,uk h1 h2];rfl
 ·cases he
theorem Ca{rec:TypeId→List Value→List Value→Option (Bool×List (Option Addr×Option Addr))}{d:Nat}{xs ys:List Value}{w:World}
  (hr:∀t us vs b l,rec t us vs=some (b,l)→px w.heap l→(Op.equalIn (d+1) t (.agg us.toArray) (.agg vs.toArray)).run P w=.ok b w):
  ∀(fs:List Field) (b:Bool) (l:List (Option Addr×Option Addr)),Pd P rec xs ys fs=some (b,l)→px w.heap l→(Op.eqFields (d+1) xs.toArray ys.toArray fs).run P w=.ok b w
 | [],b,l,he,_=>by cases he;rfl
 |f::fs,b,l,he,hp=>by
  unfold Pd at he;split at he
  ·cases he
  ·rename_i hn
   cases hi:((P.underlying f.type).isSome&&(P.info? f.type).isSome)with
   |false=>rw[hi]at he;cases he
   |true=>
    rw[hi]at he;simp only[cond_true]at he;split at he
    ·rename_i b1 l1 c m e1 e2
     cases he;obtain⟨p1,p2⟩:=wB hp;have rest:=Ca hr fs c m e2 p2;have h1:∃u v,(part f.type xs.toArray f.offset).run P w=.ok u w∧(part f.type ys.toArray f.offset).run P w=.ok v w∧(Op.equalIn (d+1) f.type u v).run P w=.ok b1 w:=by
      cases ha:tD P f.type with
      |true=>
       rw[ha]at e1;exact⟨_,_,GC hi ha,GC hi ha,hr _ _ _ _ _ e1 p1⟩
      |false=>
       rw[ha]at e1;simp only[cond_false]at e1;split at e1
       ·rename_i x y hx hy
        exact⟨x,y,DR hi ha hx,DR hi ha hy,G4 e1 p1 d⟩
       ·cases e1
     obtain⟨u,v,r1,r2,r3⟩:=h1;simp only[Op.eqFields,ne_eq,hn,not_false_eq_true,if_true,Sem.run_bind,r1,r2,r3,Result.andThen_ok];cases b1
     ·rfl
     ·exact rest
    ·cases he
theorem wQ{w:World}:∀(m:Nat) (t:TypeId) (xs ys:List Value) (b:Bool) (l:List (Option Addr×Option Addr)),NI P m t xs ys=some (b,l)→px w.heap l→
  ∀d,(Op.equalIn (d+m+1) t (.agg xs.toArray) (.agg ys.toArray)).run P w=.ok b w
 |0,_,_,_,_,_,he,_,_=>by cases he
 |m+1,t,xs,ys,b,l,he,hp,d=>by
  unfold NI at he;split at he
  ·rename_i fs hu
   cases hs:P.stoodInHeld t with
   |true=>rw[hs]at he;cases he
   |false=>
    rw[hs]at he;have hf:P.fieldsOf t=fs:=by simp[Program.fieldsOf,hu]
    rw[run_equalIn_struct w _ t _ _ (by rw[hf];exact hu) hs,hf];exact Ca (d:=d+m) (fun t us vs b l h1 h2=>wQ m t us vs b l h1 h2 d) fs.toList b l he hp
  ·cases he
theorem Eh{neg b:Bool}{K:RK}{h:ad}{l:List (Option Addr×Option Addr)}(hk:RH neg b K h l):∃S,K (.bool (bif neg then !b else b)) S∧Ol S h∧∀h',Ol S h'→px h' l:=by
 cases l with
 |nil=>exact⟨none,hk,trivial,fun _ _=>trivial⟩
 |cons p l=>exact⟨_,hk.2,hk.1,fun _ h=>h⟩
theorem Iu{op:BinOp}{t:TypeId}{xs ys:Array Value}{x y:Operand}{K:RK}{h:ad}(hq:Qd P op t xs.toList ys.toList K h):
  ∃v S,K v S∧Ol S h∧∀w:World,Ol S w.heap→(do eqGuard op t x y (.agg xs) (.agg ys);binOp op t (.agg xs) (.agg ys):Sem Value).run P w=.ok v w:=by
 unfold Qd at hq;cases hg:P.eqGuardType P.depth t with
 |true=>rw[hg]at hq;exact hq.elim
 |false=>
  rw[hg]at hq;simp only[cond_false]at hq;split at hq
  ·split at hq
   ·rename_i b l he
    obtain⟨S,h1,h2,h3⟩:=Eh hq;refine⟨_,S,h1,h2,fun w hw=>?_⟩
    have:=wQ 10 t _ _ b l he (h3 _ hw) 9989;simp only[Array.toArray_toList]at this;simp only[Sem.run_bind,run_eqGuard_agg w _ t x y _ _ hg,Result.andThen_ok,run_eql_struct,this];rfl
   ·exact hq.elim
  ·split at hq
   ·rename_i b l he
    obtain⟨S,h1,h2,h3⟩:=Eh hq;refine⟨_,S,h1,h2,fun w hw=>?_⟩
    have:=wQ 10 t _ _ b l he (h3 _ hw) 9989;simp only[Array.toArray_toList]at this;simp only[Sem.run_bind,run_eqGuard_agg w _ t x y _ _ hg,Result.andThen_ok,run_neq_struct,this];rfl
   ·exact hq.elim
  ·exact hq.elim
theorem LC{op:UnOp}{x:Value}{K:RK}{h:ad}(hv:RA op x K):Yv P (Op.unary op x) K h:=by
 unfold RA at hv;split at hv
 ·exact .of_pure hv fun w=>rfl
 ·exact .of_pure hv fun w=>rfl
 ·exact .of_pure hv fun w=>rfl
 ·exact hv.elim
theorem Ci:∀(l:List UInt8) (s:ByteArray),(l.map fun b=>((b.toNat:Nat):Int)).foldl (fun r n=>r.push (fJ n.toNat)) s=⟨s.data++l.toArray⟩
 | [],s=>by simp
 |b::l,s=>by
  simp only[co,pI];rw[Ci l];congr 1
  have:fJ ((b.toNat:Nat):Int).toNat=b:=by simp
  rw[this];apply dg;simp[ByteArray.push]
theorem BT{e:TypeId}(h:IW P e=true):P.underlying e=some (.int .u8):=by
 unfold IW at h;split at h
 ·assumption
 ·cases h
theorem Gl{w:World}{a:Addr}{vs:List Value}(hr:Row w.heap a vs):(loadCells a vs.length).run P w=.ok vs.toArray w:=by
 have:=run_firstCells_some (P:=P) w 1 vs.length a 0 0 vs (by simp) fun j v hv=>by rw[←rI];exact hr j v hv
 simpa[Builtin.firstCells]using this
theorem Gu{src dst:TypeId}{x:Value}{K:RK}{h:ad}(hv:Nb P src dst x K h):Yv P (convert src dst x) K h:=by
 unfold Nb at hv;split at hv
 ·rename_i k k' k'' n h1 h2
  exact .of_pure hv fun w=>by simp only[convert,Sem.run_bind,ay h1,ay h2,Result.andThen_ok];rfl
 ·rename_i s h1 h2
  exact .of_pure hv fun w=>by simp only[convert,Sem.run_bind,ay h1,ay h2,Result.andThen_ok];rfl
 ·rename_i e a n c h1 h2
  cases hu:IW P e with
  |false=>rw[hu]at hv;exact hv.elim
  |true=>
   rw[hu]at hv;obtain⟨s,hs,hk⟩:=hv;refine⟨_,_,hk,hs,fun w hw=>?_⟩
   rw[run_convert_bytes_string w src dst e a n c h1 (BT hu) h2];obtain⟨hl,hw⟩:=hw;rcases hw with h0|⟨b,rfl,hr⟩
   ·have hs0:s=ByteArray.empty:=by
     have:s.data.toList= []:=by simpa[dR]using h0
     cases s with
     |mk d=>simp at this;subst this;rfl
    cases a with
    |none=>rw[hs0];rfl
    |some b=>
     have hn:n=0:=by rw[←hl,h0];rfl
     subst hn;have:=Gl (P:=P) (w:=w) (a:=b) (vs:= []) fun i v hv=>by simp at hv
     rw[run_bytesToString w b 0 c [] (by simpa using this),hs0];rfl
   ·have:=Gl (P:=P) hr
    rw[hl]at this;rw[run_bytesToString w b n c (s.data.toList.map fun b=>((b.toNat:Nat):Int)) (by rw[this,qc];rfl),Ci]
    cases s;simp[ByteArray.empty,ByteArray.emptyWithCapacity];try rfl
 ·exact hv.elim
theorem IC{u:TypeId}{cs:Array Value}{off:Nat}{K:RK}{h:ad}(hu:∃d,P.underlying u=some d)(hi:∃i,P.info? u=some i)
  (hv:bif tD P u then K (.agg ((cs.toList.drop off).take (ce P u)).toArray) none else(match cs.toList[off]? with|some v=>K v none|none=>False)):Yv P (part u cs off) K h:=by
 obtain⟨i,hi⟩:=hi;cases ha:tD P u with
 |true=>
  rw[ha]at hv;refine .of_pure hv fun w=>?_
  have hs:(sizeOf u).run P w=.ok (ce P u) w:=by simp[sizeOf,cQ hi,ce,hi]
  simp only[part,Sem.run_bind,tC hi hu,Result.andThen_ok,ha,if_true,hs,Sem.run_pure];congr 2
  apply dg;simp[gc]
 |false=>
  rw[ha]at hv;simp only[cond_false]at hv;cases hc:cs.toList[off]? with
  |none=>rw[hc]at hv;exact hv.elim
  |some v=>
   rw[hc]at hv;refine .of_pure hv fun w=>?_
   have hc':cs[off]? =some v:=by simpa using hc
   simp only[part,Sem.run_bind,tC hi hu,Result.andThen_ok,ha,dG,if_false,hc',Sem.run_pure]
def tZ(P:Program)(v:Option Value)(d y n:Nat):Prop:=
 match v with
 |some x=>∀c w,(Instr.sliceBound x y c).run P w=.ok n w
 |none=>n=d
theorem lU{v:Option Value}{d y:Nat}{K:Nat→Prop}(hv:NU v d y K):∃n,K n∧tZ P v d y n:=by
 unfold NU at hv;split at hv
 ·exact⟨d,hv,rfl⟩
 ·rename_i k i
  obtain⟨⟨h0,h1⟩,hk⟩:=hv;refine⟨i.toNat,hk,fun c w=>?_⟩
  simp[Instr.sliceBound,asIntOf,h0,h1]
 ·exact hv.elim
theorem oy{isS:Bool}{len cap n l:Nat}{lo hi:Option Value}(hn:tZ P hi len cap n)(hl:tZ P lo 0 n l)(w:World):
  (Instr.sliceBounds isS len cap lo hi none).run P w=.ok (l,n,cap) w:=by
 cases hi with
 |none=>
  cases lo with
  |none=>simp only[tZ]at hn hl;subst hn;subst hl;simp[Instr.sliceBounds]
  |some lo=>simp only[tZ]at hn hl;subst hn;simp[Instr.sliceBounds,hl]
 |some hi=>
  cases lo with
  |none=>simp only[tZ]at hn hl;subst hl;simp[Instr.sliceBounds,hn]
  |some lo=>simp only[tZ]at hn hl;simp[Instr.sliceBounds,hn,hl]
theorem yL{isS:Bool}{len cap n l m:Nat}{lo:Option Value}{hi mx:Value}(hm:tZ P (some mx) 0 cap m)(hn:tZ P (some hi) 0 m n)(hl:tZ P lo 0 n l)(w:World):
  (Instr.sliceBounds isS len cap lo (some hi) (some mx)).run P w=.ok (l,n,m) w:=by
 cases lo with
 |none=>simp only[tZ]at hm hn hl;subst hl;simp[Instr.sliceBounds,hm,hn]
 |some lo=>simp only[tZ]at hm hn hl;simp[Instr.sliceBounds,hm,hn,hl]
theorem wp(a:Option Addr)(l m size:Nat):(if m=l then a else a.map (·.add (l*size)))=aY a l m size:=by
 unfold aY;split
 ·rfl
 ·congr 1;funext x;rw[rI]
theorem oB{t:TypeId}{K:Prop}(h:Nj P t K):K∧∀w,(sizeOf t).run P w=.ok (ce P t) w:=by
 unfold Nj at h;cases hi:P.info? t with
 |none=>rw[hi]at h;exact h.elim
 |some i=>rw[hi]at h;exact⟨h,fun w=>by simp[sizeOf,cQ hi,ce,hi]⟩
theorem EV{t:TypeId}{x:Value}{f:Nat}{K:RK}{h:ad}(hv:Ip P t x f K):Yv P (Instr.field t x f) K h:=by
 unfold Ip at hv;split at hv
 ·rename_i u off cs hf
  obtain⟨fs,g,hu,hg,rfl,rfl⟩:=uB hf;cases hb:((P.underlying g.type).isSome&&(P.info? g.type).isSome)with
  |false=>rw[hb]at hv;exact hv.elim
  |true=>
   rw[hb]at hv;simp only[bD,gw]at hb;obtain⟨v,S,hk,hS,hr⟩:=IC (cs:=cs) (off:=g.offset) (h:=h) hb.1 hb.2 hv;refine⟨v,S,hk,hS,fun w hw=>?_⟩
   have:=hr w hw;simp only[Instr.field,Sem.run_bind,ay hu,Result.andThen_ok,hg,asAgg,Sem.run_pure,this]
 ·exact hv.elim
theorem yU{t:TypeId}{x i:Value}{K:RK}{h:ad}(hv:wA P t x i K):Yv P (Instr.indexAt t x i) K h:=by
 unfold wA at hv;split at hv
 ·rename_i n e a k i hu
  obtain⟨⟨⟨h0,h1⟩,hk⟩,hz⟩:=oB hv;refine .of_pure hk fun w=>?_
  simp[Instr.indexAt,asIntOf,ay hu,Instr.sureAddr,h0,h1,hz,rI]
 ·rename_i e b len cap k i hu
  obtain⟨⟨⟨h0,h1⟩,a,rfl,hk⟩,hz⟩:=oB hv;refine .of_pure hk fun w=>?_
  simp[Instr.indexAt,asIntOf,ay hu,h0,h1,hz,rI]
 ·exact hv.elim
theorem EU{t:TypeId}{x i:Value}{K:RK}{h:ad}(hv:Im P t x i K):Yv P (Instr.index t x i) K h:=by
 unfold Im at hv;split at hv
 ·rename_i s k i hu
  obtain⟨b,h0,hb,hk⟩:=hv;refine .of_pure hk fun w=>?_
  simp[Instr.index,asIntOf,ay hu,h0,hb]
 ·exact hv.elim
theorem ES{t:TypeId}{x:Value}{lo hi mx:Option Value}{K:RK}{h:ad}(hv:Ik P t x lo hi mx K):Yv P (Instr.sliceAt t x lo hi mx) K h:=by
 unfold Ik at hv;split at hv
 ·rename_i s hu
  cases mx with
  |some _=>exact hv.elim
  |none=>
   obtain⟨n,hv,hn⟩:=lU (P:=P) hv;obtain⟨l,hv,hl⟩:=lU (P:=P) hv;refine .of_pure hv fun w=>?_
   simp[Instr.sliceAt,Instr.slice,ay hu,oy hn hl]
 ·rename_i e a len cap hu
  obtain⟨hv,hz⟩:=oB hv;cases mx with
  |none=>
   obtain⟨n,hv,hn⟩:=lU (P:=P) hv;obtain⟨l,hv,hl⟩:=lU (P:=P) hv;refine .of_pure hv fun w=>?_
   simp[Instr.sliceAt,Instr.slice,ay hu,oy hn hl,hz,wp]
  |some m=>
   cases hi with
   |none=>exact hv.elim
   |some hi=>
    obtain⟨m',hv,hm⟩:=lU (P:=P) hv;obtain⟨n,hv,hn⟩:=lU (P:=P) hv;obtain⟨l,hv,hl⟩:=lU (P:=P) hv;refine .of_pure hv fun w=>?_
    simp[Instr.sliceAt,Instr.slice,ay hu,yL hm hn hl,hz,wp]
 ·rename_i n e a hu
  obtain⟨hv,hz⟩:=oB hv;cases mx with
  |some _=>exact hv.elim
  |none=>
   obtain⟨m,hv,hn⟩:=lU (P:=P) hv;obtain⟨l,hv,hl⟩:=lU (P:=P) hv;refine .of_pure hv fun w=>?_
   have ha:(some (if n=l then a else a.add (l*ce P e)))=aY (some a) l n (ce P e):=by
    rw[←wp];split<;>rfl
   simp[Instr.sliceAt,ay hu,Instr.sureAddr,oy hn hl,hz,ha]
 ·exact hv.elim
def nK(d:TypeDesc)(c:CK):Prop:=(∃i,d=.int i∧c=.int i)∨(d=.string∧c=.str)∨(d=.bool∧c=.bool)
theorem ut{t:TypeId}{c:CK}{e:TypeId}(h:GM P t=some (c,e)):∃k d,P.underlying t=some (.map k e)∧P.underlying k=some d∧nK d c:=by
 unfold GM at h;split at h
 ·rename_i k e' hu
  split at h
  ·rename_i i hk
   simp only[bH.injEq,nV.injEq]at h;obtain⟨rfl,rfl⟩:=h;exact⟨k,_,hu,hk,.inl ⟨i,rfl,rfl⟩⟩
  ·rename_i hk
   simp only[bH.injEq,nV.injEq]at h;obtain⟨rfl,rfl⟩:=h;exact⟨k,_,hu,hk,.inr (.inl ⟨rfl,rfl⟩)⟩
  ·rename_i hk
   simp only[bH.injEq,nV.injEq]at h;obtain⟨rfl,rfl⟩:=h;exact⟨k,_,hu,hk,.inr (.inr ⟨rfl,rfl⟩)⟩
  ·cases h
 ·cases h
theorem zI{d:TypeDesc}{c:CK}(hd:nK d c)(x y:c.den):Instr.sameNow d (c.enc x) (c.enc y)=some (gK (c.enc x) (c.enc y)):=by
 rcases hd with⟨i,rfl,rfl⟩|⟨rfl,rfl⟩|⟨rfl,rfl⟩
 ·simp[Instr.sameNow,CK.enc,gK]
 ·simp[Instr.sameNow,CK.enc,gK]
 ·simp[Instr.sameNow,CK.enc,gK]
theorem zT{d:TypeDesc}{c:CK}(hd:nK d c)(x:c.den):∀(es:List MapEntry) (i:Nat),BQ c es→
  ∃r,Instr.findNow d (c.enc x) es i=some r∧r.map (·.2)=GZ (c.enc x) es
 | [],i,_=>⟨none,rfl,rfl⟩
 |e::es,i,h=>by
  obtain⟨y,hy⟩:=h e (by simp);have hs:=zI hd x y;rw[←hy]at hs;simp only[Instr.findNow,GZ];cases hb:gK (c.enc x) e.key with
  |true=>rw[hs,hb];exact⟨some (i,e.val),rfl,rfl⟩
  |false=>rw[hs,hb];exact zT hd x es (i+1) fun e' he'=>h e' (by simp[he'])
theorem Hd{empty:Bool}{k:TypeId}{d:TypeDesc}{c:CK}(hd:nK d c)(hu:P.underlying k=some d)(v:Value)(n:Nat)(w:World):(Instr.checkKey empty (n+1) k v).run P w=.ok () w:=by
 unfold Instr.checkKey;simp only[Sem.run_bind,ay hu,Result.andThen_ok];rcases hd with⟨i,rfl,rfl⟩|⟨rfl,rfl⟩|⟨rfl,rfl⟩<;>rfl
theorem sW{k:TypeId}{d:TypeDesc}{c:CK}(hd:nK d c)(hu:P.underlying k=some d)(x:c.den){es:List MapEntry}(h:BQ c es)(w:World):
  ∃r,(Instr.findKey k (c.enc x) es).run P w=.ok r w∧Instr.findNow d (c.enc x) es 0=some r∧r.map (·.2)=GZ (c.enc x) es:=by
 obtain⟨r,hr,hm⟩:=zT hd x es 0 h;refine⟨r,?_,hr,hm⟩;simp only[Instr.findKey,Sem.run_bind,ay hu,Result.andThen_ok,hr,Sem.run_pure]
theorem lf{w:World}{r:Nat}{es:Array MapEntry}{clock:Nat}(h:w.heap[r]? =some (.map es clock)):(getObj r).run P w=.ok (.map es clock) w:=by
 simp only[getObj,Sem.run,h]
theorem mA{empty:Bool}{k:TypeId}{d:TypeDesc}{c:CK}(hd:nK d c)(hu:P.underlying k=some d)(v:Value)(w:World):(Instr.checkKey empty 10000 k v).run P w=.ok () w:=
 Hd hd hu v 9999 w
theorem IJ{t:TypeId}{c:CK}{e k:TypeId}{d:TypeDesc}(hu:P.underlying t=some (.map k e))(hk:P.underlying k=some d)(hd:nK d c){m:Option Nat}{x:c.den}{z v:Value}{b ok:Bool}{w:World}
  (hz:(zeroValue e).run P w=.ok z w)(hm:Js c z w.heap m (c.enc x) v b):
  (Instr.lookup t (.map m) (c.enc x) ok).run P w=.ok (bif ok then .tuple #[v,.bool b]else v) w:=by
 cases m with
 |none=>
  obtain⟨rfl,rfl⟩:=hm;simp only[Instr.lookup,Sem.run_bind,ay hu,Result.andThen_ok,Sem.run_pure,mA hd hk];obtain⟨r,h1,h2,h3⟩:=sW (P:=P) hd hk x (es:= []) (fun _ h=>by cases h) w
  simp only[Instr.findNow,bH.injEq]at h2;subst h2;simp[h1,hz]
 |some r=>
  obtain⟨es,clock,hb,hks,hv⟩:=hm;simp only[Instr.lookup,Sem.run_bind,ay hu,Result.andThen_ok,lf hb,Sem.run_pure,mA hd hk];obtain⟨r,h1,h2,h3⟩:=sW (P:=P) hd hk x hks w;simp only[h1,Result.andThen_ok];cases r with
  |none=>
   simp only[Option.map_none]at h3;rw[←h3]at hv;obtain⟨rfl,rfl⟩:=hv;simp[hz]
  |some r=>
   simp only[f8]at h3;rw[←h3]at hv;obtain⟨rfl,rfl⟩:=hv;cases ok<;>rfl
theorem eX{e:TypeId}{z:Value}(h:vE P e=some z)(w:World):(zeroValue e).run P w=.ok z w:=by
 unfold vE at h;cases hi:P.info? e with
 |none=>rw[hi]at h;cases h
 |some i=>rw[hi]at h;simp only at h;simp[zeroValue,cQ hi,h]
theorem C3{t:TypeId}{x k:Value}{ok:Bool}{K:RK}{h:ad}(hv:ET P t x k ok K h):Yv P (Instr.lookup t x k ok) K h:=by
 unfold ET at hv;split at hv
 ·rename_i c e m hc
  obtain⟨kt,d,hu,hk,hd⟩:=ut hc;obtain⟨kx,rfl,hv⟩:=CK.dec_sound hv;split at hv
  ·rename_i ek z hek hz
   obtain⟨y,b,hm,hK⟩:=hv;exact⟨_,_,hK,hm,fun w hw=>IJ hu hk hd (eX hz w) hw⟩
  ·exact hv.elim
 ·exact hv.elim
theorem Il{t:TypeId}{x:Value}{ats:Array TypeId}{ty:TypeId}{K:RK}{h:ad}(hat:ats[0]? =some t) (hv:P9 P t x K h):Yv P (Builtin.len_ ats ty #[x]) K h:=by
 unfold P9 at hv;split at hv
 ·rename_i s hu
  exact .of_pure hv fun w=>by simp[Builtin.len_,hat,ay hu,goInt]
 ·rename_i n e _ hu
  exact .of_pure hv fun w=>by simp[Builtin.len_,hat,ay hu,goInt]
 ·rename_i e b n c hu
  exact .of_pure hv fun w=>by simp[Builtin.len_,hat,ay hu,goInt]
 ·rename_i k e m hu
  obtain⟨n,hm,hk⟩:=hv;refine⟨_,_,hk,hm,fun w hw=>?_⟩
  cases m with
  |none=>
   have:n=0:=hw;subst this;simp[Builtin.len_,hat,ay hu,goInt]
  |some r=>
   obtain⟨es,clock,hb,rfl⟩:=hw;simp[Builtin.len_,hat,ay hu,goInt,lf hb]
 ·exact hv.elim
theorem Ir{t:TypeId}{x:Value}{ats:Array TypeId}{ty:TypeId}{K:RK}{h:ad}(hat:ats[0]? =some t) (hv:Qa P t x K):Yv P (Builtin.cap_ ats ty #[x]) K h:=by
 unfold Qa at hv;split at hv
 ·rename_i e b n c hu
  exact .of_pure hv fun w=>by simp[Builtin.cap_,hat,ay hu,goInt]
 ·exact hv.elim
theorem xH{mx:Bool}{k:IntKind}:∀{vs:List Value} {a:Int} {f:Value→Prop},E3 mx k a vs f→∃v,f v∧∀w,(vs.foldlM (bif mx then Builtin.max2 else Builtin.min2) (Value.int k a):Sem Value).run P w=.ok v w
 | [],a,f,h=>⟨_,h,fun w=>by simp⟩
 | .int k' b::vs,a,f,h=>by
  simp only[E3]at h;cases hk:E8 k' k with
  |false=>rw[hk]at h;exact h.elim
  |true=>
   rw[hk]at h;have:=xN hk;subst this;obtain⟨v,hf,hr⟩:=xH h;refine⟨v,hf,fun w=>?_⟩
   rw[←hr w];cases mx<;>simp[List.foldlM_cons,Builtin.max2,Builtin.min2]
theorem vN{mx:Bool}{vs:List Value}{f:Value→Prop}{ats:Array TypeId}{ty:TypeId}(h:AN mx vs f):∃v,f v∧∀w,(bif mx then Builtin.max_ ats ty vs.toArray else Builtin.min_ ats ty vs.toArray).run P w=.ok v w:=by
 unfold AN at h;split at h
 ·obtain⟨v,hf,hr⟩:=xH (P:=P) h
  refine⟨v,hf,fun w=>?_⟩
  have:=hr w;cases mx<;>simpa[Builtin.max_,Builtin.min_]using this
 ·exact h.elim
theorem LV{a:Addr}{e:MapEntry}{w:World}(h0:a.off=0)(h:Jt w.heap a.block e):(Instr.entry (.pointer (some a))).run P w=.ok (.tuple #[e.key,e.val]) w:=by
 obtain⟨m,since,seen,last,stamp,es,hi,hb,hm,hf⟩:=h;obtain⟨b,off,spot⟩:=a;simp only at h0 hi;subst h0;have g1:(getObj b).run P w=.ok (.mapIter (some m) since seen last) w:=by simp only[getObj,Sem.run,hi]
 simp[Instr.entry,g1,hb,lf hm,hf]
def Ds:DV→Value→Prop
 | .t,v=>v=.bool true
 | .f,v=>v=.bool false
 | .u,v=>v=undef
 | .x,_=>True
def DecOk(d:sG)(r:cH):Prop:=∀t,pP d t=.x∨∃v,jM r t=some v∧Ds (pP d t) v
theorem DecOk.at{d:sG}{r:cH}(h:DecOk d r){t:Nat}{v:Value}(hv:jM r t=some v):Ds (pP d t) v:=by
 rcases h t with e|⟨u,hu,hk⟩
 ·rw[e];trivial
 ·rw[hv]at hu;cases hu;exact hk
theorem r7{d:sG}{r:cH}(hd:DecOk d r){o:Operand}{v:Value}(h:dK r o=some v):Ds (xW d o) v:=by
 cases o with
 |tmp t=>exact hd.at h
 |const c=>
  simp[dK]at h;subst h;cases c with
  |bool b=>cases b<;>exact rfl
  |_=>trivial
 |global g=>trivial
 |func f=>trivial
theorem zP{t:TypeId}(h:pe P t=true):∃d,P.underlying t=some d∧∀m,d≠ .interface m:=by
 unfold pe at h;split at h
 ·cases h
 ·rename_i d hd;exact⟨_,hd,fun m e=>by subst e;simp_all⟩
 ·cases h
theorem xK{t:TypeId}{v:Value}(h:pe P t=true)(w:World):(Instr.makeInterface t v).run P w=.ok (.iface t v) w:=by
 obtain⟨d,hd,hn⟩:=zP h;simp only[Instr.makeInterface,Sem.run_bind,ay hd,Result.andThen_ok];cases d<;>first|exact absurd rfl (hn _)|rfl
theorem Ba{t u:TypeId}{v:Value}(h:pe P t=true)(w:World):(Instr.typeAssert (.iface t v) u t false).run P w=.ok v w:=by
 obtain⟨d,hd,hn⟩:=zP h;simp only[Instr.typeAssert,Sem.run_bind,ay hd,Result.andThen_ok];cases d<;>first|exact absurd rfl (hn _)|(simp[Sem.run_pure])
theorem jJ{t:TypeId}{z:List Value}(h:pr P t=some z):∃v,vE P t=some v∧v.cells.toList=z:=by
 unfold pr at h;cases hz:vE P t with
 |none=>rw[hz]at h;cases h
 |some v=>rw[hz]at h;simp only[bH.injEq]at h;exact⟨v,rfl,h⟩
theorem p5{t:TypeId}{v:Value}(h:vE P t=some v):∃i,P.info? t=some i∧i.zero=some v:=by
 unfold vE at h;cases hi:P.info? t with
 |none=>rw[hi]at h;cases h
 |some i=>rw[hi]at h;exact⟨i,rfl,h⟩
theorem NM{A B:List Value}{x:Value}{m:Nat}(h:A.length=m):(A++x::B).take (m+1)=A++ [x]:=by
 subst h;rw[List.take_append,bw (by omega),show A.length+1-A.length=1 by omega];rfl
theorem NN{A B:List Value}{x:Value}{m n:Nat}(h:A.length=m):(A++x::B).drop (m+1+n)=B.drop n:=by
 subst h;rw[List.drop_append,List.drop_eq_nil_of_le (by omega),show A.length+1+n-A.length=n+1 by omega];rfl
theorem GW(off:Nat):∀(xs:List Value) (k:Nat) (arr:Array Value),off+k+xs.length≤arr.size→
  (xs.zipIdx k).foldl (fun cs (c,j)=>cs.setIfInBounds (off+j) c) arr=(Gx arr.toList (off+k) xs).toArray
 | [],k,arr,_=>by simp[Gx]
 |x::xs,k,arr,h=>by
  simp only[ax]at h;simp only[List.zipIdx_cons,pI];rw[GW off xs (k+1) _ (by simp;omega)];have hm:off+k<arr.toList.length:=by simp;omega
  have hs:arr.toList.set (off+k) x=arr.toList.take (off+k)++x::arr.toList.drop (off+k+1):=by
   rw[List.set_eq_take_append_cons_drop,if_pos hm]
  have hl:(arr.toList.take (off+k)).length=off+k:=by simp;omega
  congr 1
  unfold Gx;rw[Array.toList_setIfInBounds,hs,←jj,NM hl,NN hl];simp only[List.append_assoc,dN,List.nil_append,ax,List.drop_drop];rw[show off+k+1+xs.length=off+k+(xs.length+1) by omega]
theorem qQ{place:Nat→Option (Nat×Nat)}:∀(parts:List (Nat×Value)) (cs cs':List Value),zU place cs parts=some cs'→Instr.fill place cs.toArray parts=some cs'.toArray
 | [],cs,cs',h=>by simp only[zU,bH.injEq]at h;subst h;rfl
 |(i,v)::rest,cs,cs',h=>by
  simp only[zU]at h;cases hp:place i with
  |none=>rw[hp]at h;cases h
  |some os=>
   obtain⟨off,size⟩:=os;rw[hp]at h;simp only at h;cases hb:(bJ v.cells.toList.length size&&vr (off+v.cells.toList.length) cs.length)with
   |false=>rw[hb]at h;cases h
   |true=>
    rw[hb]at h;simp only[bD]at hb;have h1:=aU hb.1;have h2:=iI hb.2;have ih:=qQ rest _ _ h;have h3:v.cells.size=size:=by simpa using h1
    have h4:off+v.cells.size≤cs.length:=by simpa using h2
    have hf:Array.foldl (fun cs x=>cs.setIfInBounds (off+x.2) x.1) cs.toArray v.cells.zipIdx=(Gx cs off v.cells.toList).toArray:=by
     have:=GW off v.cells.toList 0 cs.toArray (by simpa using h4);simp only[cU]at this;rw[←this,←Array.foldl_toList];congr 1
     simp[Array.toList_zipIdx]
    simp only[Instr.fill,hp];rw[if_neg (by simp[h3];omega)];simp only[hf];exact ih
theorem nz{N:Nat}{r:cH}{a:Act}(h:Agree N r a):∀{ps:List (Nat×Operand)} {vs:List (Nat×Value)},pa r ps=some vs→ps.map (fun p=>(p.1,a.eval p.2))=vs
 | [],vs,hv=>by simp[pa]at hv;subst hv;rfl
 |(i,o)::ps,vs,hv=>by
  simp only[pa]at hv;cases ho:dK r o with
  |none=>simp[ho]at hv
  |some v=>cases hos:pa r ps with
   |none=>simp[ho,hos]at hv
   |some us=>simp[ho,hos]at hv;subst hv;simp[lh h ho,nz h hos]
theorem ph{t:TypeId}(h:vm P t=true)(w:World):(sizeOf t).run P w=.ok (ce P t) w:=by
 unfold vm at h;cases hi:P.info? t with
 |none=>rw[hi]at h;cases h
 |some i=>simp[sizeOf,cQ hi,ce,hi]
theorem BD(w:World):∀l:List Field,x8 P l=true→(l.mapM fun f:Field=>((do pure (f.offset,←sizeOf f.type)):Sem (Nat×Nat))).run P w=.ok (l.map fun f:Field=>(f.offset,ce P f.type)) w
 | [],_=>rfl
 |f::l,h=>by
  simp only[x8]at h;cases hf:vm P f.type with
  |false=>rw[hf]at h;cases h
  |true=>
   rw[hf]at h;rw[List.mapM_cons];simp only[Sem.run_bind,ph hf,Result.andThen_ok,Sem.run_pure,BD w l h,co]
theorem x7{t:TypeId}{ps:Array (Nat×Value)}{cs:List Value}(hb:Fq P t ps.toList=some cs)(w:World):
  (Instr.build t ps).run P w=.ok (.agg cs.toArray) w:=by
 unfold Fq at hb;split at hb
 ·rename_i fs z hu hz
  obtain⟨v,hz,hv⟩:=jJ hz;cases ha:x8 P fs.toList with
  |false=>rw[ha]at hb;cases hb
  |true=>
   rw[ha]at hb;have hfs:(fs.mapM fun f:Field=>((do pure (f.offset,←sizeOf f.type)):Sem (Nat×Nat))).run P w=.ok (fs.map fun f:Field=>(f.offset,ce P f.type)) w:=by
    rw[Array.mapM_eq_mapM_toList];simp only[Sem.run_map,BD w fs.toList ha,Result.andThen_ok];congr 1
    apply dg;simp
   have hf:=qQ _ _ _ hb;have hplace:(fun i:Nat=>(fs.map fun f:Field=>(f.offset,ce P f.type))[i]?)=IA P fs.toList:=by
    funext i;unfold IA;rw[Array.getElem?_map,bM];cases fs[i]?<;>rfl
   have hv':v.cells=z.toArray:=by rw[←hv]
   rw[cond_true]at hb;rw[←hplace]at hf;simp only[Instr.build,Sem.run_bind,eX hz,Result.andThen_ok,ay hu,hfs,hv',hf,Sem.run_pure]
 ·rename_i n e z hu hz
  obtain⟨v,hz,hv⟩:=jJ hz;cases ha:vm P e with
  |false=>rw[ha]at hb;cases hb
  |true=>
   rw[ha]at hb;have hf:=qQ _ _ _ hb;have hv':v.cells=z.toArray:=by rw[←hv]
   simp only[Instr.build,Sem.run_bind,eX hz,Result.andThen_ok,ay hu,ph ha,hv',hf,Sem.run_pure]
 ·cases hb
theorem DN{ek:Option (Kind×Kind)}{o:Oper}{r:cH}{K:RK}{h:ad}{N:Nat}{a:Act}(ha:Agree N r a)(hq:yT P ek o.op r K h)(d:sG)(hd:DecOk d r):
  ∃v S,K v S∧Ol S h∧Ds (F0 d o.op) v∧∀w:World,Ol S w.heap→(execOp a.eval o).run P w=.ok (.value v) w:=by
 have ev:∀{x:Operand} {v:Value},dK r x=some v→a.eval x=v:=fun h=>lh ha h
 have fin:∀{s:Sem Value},Yv P s K h→F0 d o.op=.x→(∀w,(execOp a.eval o).run P w=(do pure (Next.value (←s)):Sem Next).run P w)→
   ∃v S,K v S∧Ol S h∧Ds (F0 d o.op) v∧∀w:World,Ol S w.heap→(execOp a.eval o).run P w=.ok (.value v) w:=by
  rintro s ⟨v,S,hk,hS,hr⟩ hx he;exact⟨v,S,hk,hS,by rw[hx];trivial,fun w hw=>by rw[he w];exact iQ (hr w hw)⟩
 obtain⟨dst,op,type,ua,after,guard⟩:=o;simp only at hq fin⊢;cases op with
 |move x=>
  simp only[yT]at hq;split at hq
  ·rename_i v hv
   exact⟨v,none,hq,trivial,r7 hd hv,fun w _=>by simp[execOp,ev hv]⟩
  ·exact hq.elim
 |assign x=>
  simp only[yT]at hq;split at hq
  ·rename_i v hv
   exact⟨v,none,hq,trivial,r7 hd hv,fun w _=>by simp[execOp,ev hv]⟩
  ·exact hq.elim
 |pick c x y=>
  simp only[yT]at hq;split at hq
  ·rename_i vc va vb hc hx hy
   unfold PH at hq;split at hq
   ·rename_i cb
    have hco:=r7 hd hc;have hxo:=r7 hd hx;have hyo:=r7 hd hy;have he:∀w,(execOp a.eval ⟨dst,.pick c x y,type,ua,after,guard⟩).run P w=.ok (.value (if cb then va else vb)) w:=fun w=>by
     simp[execOp,ev hc,ev hx,ev hy,asBool]
    have hdv:Ds (F0 d (.pick c x y)) (if cb then va else vb):=by
     simp only[F0];cases hcd:xW d c with
     |t=>
      rw[hcd]at hco;have:cb=true:=by simpa[Ds]using hco
      subst this;exact hxo
     |f=>
      rw[hcd]at hco;have:cb=false:=by simpa[Ds]using hco
      subst this;exact hyo
     |u=>trivial
     |x=>trivial
    split at hq
    ·rename_i bx by'
     have e1:(if cb=true then Value.bool bx else Value.bool by')=.bool (bif cb then bx else by'):=by cases cb<;>rfl
     rw[e1]at hdv;exact⟨_,none,hq,trivial,hdv,fun w _=>by rw[he w,e1]⟩
    ·cases cb
     ·exact⟨_,none,hq,trivial,hdv,fun w _=>he w⟩
     ·exact⟨_,none,hq,trivial,hdv,fun w _=>he w⟩
   ·exact hq.elim
  ·exact hq.elim
 |load t x=>
  simp only[yT]at hq;split at hq
  ·rename_i v hv
   obtain⟨u,S,hk,hS,hr⟩:=zM hq;exact fin ⟨u,some S,hk,hS,hr⟩ rfl fun w=>by simp only[execOp,ev hv]
  ·exact hq.elim
 |nilCheck x=>
  simp only[yT]at hq;split at hq
  ·rename_i p hv
   obtain⟨b,rfl,hk⟩:=hq;exact⟨_,none,hk,trivial,trivial,fun w _=>by simp[execOp,ev hv]⟩
  ·exact hq.elim
 |binOp op t x y yt=>
  simp only[yT]at hq;split at hq
  ·rename_i v u hv hu
   obtain⟨v',S,hk,hS,hr⟩:=Iu (x:=x) (y:=y) hq;refine⟨v',S,hk,hS,trivial,fun w hw=>?_⟩
   simp only[execOp,ev hv,ev hu];exact iQ (hr w hw)
  ·rename_i v u hna hv hu
   have go:(∀c d,v=.agg c→u=.agg d→False)∧(v=.nilIface→u=.nilIface→False)∧Yv P (binOp op t v u) K h:=by
    split at hq
    ·exact BI (neg:=false) hq
    ·exact BI (neg:=true) hq
    ·exact Is hq
   obtain⟨h1,h2,v',S,hk,hS,hr⟩:=go;refine⟨v',S,hk,hS,trivial,fun w hw=>?_⟩
   simp only[execOp,ev hv,ev hu];simp[Jf op t x y v u h1 h2 w,hr w hw]
  ·exact hq.elim
 |unOp op t x=>
  simp only[yT]at hq;split at hq
  ·rename_i v hv
   obtain⟨u,S,hk,hS,hr⟩:=LC (P:=P) (h:=h) hq;refine⟨u,S,hk,hS,?_,fun w hw=>by simp only[execOp,ev hv];exact iQ (hr w hw)⟩
   have hvo:=r7 hd hv;cases op<;>try trivial
   simp only[F0];have hrun:=hr {(default:World)with heap:=h} hS;cases hx:xW d x with
   |t=>
    rw[hx]at hvo;have:v=.bool true:=hvo;subst this;simp[Op.unary]at hrun;exact hrun.symm
   |f=>
    rw[hx]at hvo;have:v=.bool false:=hvo;subst this;simp[Op.unary]at hrun;exact hrun.symm
   |u=>trivial
   |x=>trivial
  ·exact hq.elim
 |convert s t x=>
  simp only[yT]at hq;split at hq
  ·rename_i v hv
   exact fin (Gu hq) rfl fun w=>by simp only[execOp,ev hv]
  ·exact hq.elim
 |extract x i=>
  simp only[yT]at hq;split at hq
  ·rename_i vs hv
   split at hq
   ·rename_i u hu
    have hu':vs[i]? =some u:=by simpa using hu
    exact⟨u,none,hq,trivial,trivial,fun w _=>by simp[execOp,ev hv,Instr.extract,hu']⟩
   ·exact hq.elim
  ·exact hq.elim
 |fieldAddr t x f=>
  simp only[yT]at hq;split at hq
  ·rename_i b u off hv hf
   exact fin (Ar hf hq) rfl fun w=>by simp only[execOp,ev hv]
  ·exact hq.elim
 |field t x f=>
  simp only[yT]at hq;split at hq
  ·rename_i v hv
   exact fin (EV hq) rfl fun w=>by simp only[execOp,ev hv]
  ·exact hq.elim
 |indexAddr t x i=>
  simp only[yT]at hq;split at hq
  ·rename_i v u hv hu
   exact fin (yU hq) rfl fun w=>by simp only[execOp,ev hv,ev hu]
  ·exact hq.elim
 |index t x i=>
  simp only[yT]at hq;split at hq
  ·rename_i v u hv hu
   exact fin (EU hq) rfl fun w=>by simp only[execOp,ev hv,ev hu]
  ·exact hq.elim
 |slice t x lo hi mx=>
  simp only[yT]at hq;split at hq
  ·rename_i v l h' m hv hl hh hm
   have ov:∀{x:Option Operand} {v:Option Value},DU r x=some v→x.map a.eval=v:=by
    intro x v hx;cases x with
    |none=>simp[DU]at hx;subst hx;rfl
    |some x=>
     simp only[DU]at hx;cases he:dK r x with
     |none=>simp[he]at hx
     |some u=>simp[he]at hx;subst hx;simp[ev he]
   exact fin (ES hq) rfl fun w=>by simp only[execOp,ev hv,ov hl,ov hh,ov hm]
  ·exact hq.elim
 |lookup t x k ok=>
  simp only[yT]at hq;split at hq
  ·rename_i v u hv hu
   exact fin (C3 hq) rfl fun w=>by simp only[execOp,ev hv,ev hu]
  ·exact hq.elim
 |makeInterface t x=>
  simp only[yT]at hq;split at hq
  ·rename_i v hv
   cases hb:pe P t with
   |false=>rw[hb]at hq;exact hq.elim
   |true=>
    rw[hb,cond_true]at hq;exact⟨_,none,hq,trivial,trivial,fun w _=>by simp only[execOp,ev hv];exact iQ (xK hb w)⟩
  ·exact hq.elim
 |typeAssert x u t ok=>
  simp only[yT]at hq;split at hq
  ·rename_i v hv
   cases ok with
   |true=>exact hq.elim
   |false=>
    rw[cond_false]at hq;unfold Kp at hq;cases hb:pe P t with
    |false=>rw[hb]at hq;exact hq.elim
    |true=>
     rw[hb,cond_true]at hq;split at hq
     ·obtain⟨y,rfl,hk⟩:=hq
      exact⟨_,none,hk,trivial,trivial,fun w _=>by simp only[execOp,ev hv];exact iQ (Ba hb w)⟩
     ·exact hq.elim
  ·exact hq.elim
 |makeFunc fn first cap=>
  simp only[yT]at hq;split at hq
  ·rename_i vs us hv hu
   have e1:=nu ha hv;have e2:=nu ha hu;refine⟨_,none,hq,trivial,trivial,fun w _=>?_⟩
   have f1:first.map a.eval=vs.toArray:=by rw[←e1];apply dg;simp
   have f2:cap.map a.eval=us.toArray:=by rw[←e2];apply dg;simp
   simp[execOp,Instr.makeFunc,f1,f2]
  ·exact hq.elim
 |entry it=>
  simp only[yT]at hq;split at hq
  ·rename_i b kk vk hv
   obtain⟨h0,e,x,y,hi,hk,hy,hK⟩:=hq;refine⟨_,_,hK,hi,trivial,fun w hw=>?_⟩
   simp only[execOp,ev hv];refine iQ ?_;rw[LV h0 hw,hk,hy]
  ·exact hq.elim
 |call c=>
  simp only[yT]at hq;have er:∀{b:Builtin} {vs:List Value},c.callee=.builtin b→pw r c.args.toList=some vs→∃cs:Array Bool,∀w,(execOp a.eval ⟨dst,.call c,type,ua,after,guard⟩).run P w=
    (builtin b c.argTypes type cs vs.toArray).run P w:=by
   intro b vs hc hvs;have e1:=nu ha hvs;have f1:c.args.map a.eval=vs.toArray:=by rw[←e1];apply dg;simp
   refine⟨c.args.map fun| .const _=>true|_=>false,fun w=>?_⟩
   simp[execOp,resolve,hc,f1,invoke];rfl
  split at hq
  ·rename_i v t hc hvs hat
   obtain⟨cs,er⟩:=er hc hvs;obtain⟨u,S,hk,hS,hr⟩:=Il (ats:=c.argTypes) (ty:=type) (by rw[←bM,hat];rfl) hq;exact⟨u,S,hk,hS,trivial,fun w hw=>by rw[er w];simp only[builtin];exact iQ (hr w hw)⟩
  ·rename_i v t hc hvs hat
   obtain⟨cs,er⟩:=er hc hvs;obtain⟨u,S,hk,hS,hr⟩:=Ir (h:=h) (ats:=c.argTypes) (ty:=type) (by rw[←bM,hat];rfl) hq;exact⟨u,S,hk,hS,trivial,fun w hw=>by rw[er w];simp only[builtin];exact iQ (hr w hw)⟩
  ·rename_i vs hc hvs
   obtain⟨cs,er⟩:=er hc hvs;obtain⟨u,hk,hr⟩:=vN (P:=P) (ats:=c.argTypes) (ty:=type) hq;exact⟨u,none,hk,trivial,trivial,fun w _=>by rw[er w];simp only[builtin];exact iQ (hr w)⟩
  ·rename_i vs hc hvs
   obtain⟨cs,er⟩:=er hc hvs;obtain⟨u,hk,hr⟩:=vN (P:=P) (ats:=c.argTypes) (ty:=type) hq;exact⟨u,none,hk,trivial,trivial,fun w _=>by rw[er w];simp only[builtin];exact iQ (hr w)⟩
  ·exact hq.elim
 |build t ps=>
  simp only[yT]at hq;split at hq
  ·rename_i vs hvs
   split at hq
   ·rename_i cs hcs
    refine⟨_,none,hq,trivial,trivial,fun w _=>?_⟩
    have hp:(ps.map fun x=>(x.1,a.eval x.2))=vs.toArray:=by
     rw[←nz ha hvs];apply dg;simp
    have he:=x7 (ps:=vs.toArray) (by simpa using hcs) w;simp only[execOp];rw[show(ps.map fun(i,x)=>(i,a.eval x))=vs.toArray from hp]
    exact iQ he
   ·exact hq.elim
  ·exact hq.elim
 |_=>simp only[yT]at hq
end Go.Lift
namespace Go.Lift
open Go
variable {P:Program}
def Hi(P:Program)(s:Sem Next)(K:WK)(w:World):Prop:=
 (∃v w',s.run P w=.ok (.value v) w'∧Tame w w'∧K v w'.heap)∨
 (∃w',s.run P w=.ok .skip w'∧Tame w w'∧K undef w'.heap)∨
 (∃f args,s.run P w=.ok (.enter f args) w∧Calls P f args w fun e w'=>Tame w w'∧∃v,e=.returned v∧K v w'.heap)∨
 (∃l fn tmps assign body,s.run P w=.ok (.round l fn tmps assign body) w∧
  ∀(c:Frame) (cs:List Frame),∃b w',Tame w w'∧K (.bool b) w'.heap∧Steps P (lone (Frame.round l fn tmps assign body .normal) (c::cs) w) (lone (c.finish (.bool b)) cs w'))
def Wv(P:Program)(s:Sem Value)(K:WK)(w:World):Prop:=∃v w',s.run P w=.ok v w'∧Tame w w'∧K v w'.heap
theorem Wv.out{s:Sem Value}{K:WK}{w:World}(h:Wv P s K w):Hi P (do pure (Next.value (←s))) K w:=by
 obtain⟨v,w',hr,ht,hk⟩:=h;exact .inl ⟨v,w',iQ hr,ht,hk⟩
def Wu(P:Program)(s:Sem Unit)(K:WK)(w:World):Prop:=∃w',s.run P w=.ok () w'∧Tame w w'∧K undef w'.heap
theorem Wu.out{s:Sem Unit}{K:WK}{w:World}(h:Wu P s K w):Hi P (do s;pure Next.skip) K w:=by
 obtain⟨w',hr,ht,hk⟩:=h;exact .inr (.inl ⟨w',M1 hr,ht,hk⟩)
def jK(w:World)(h:ad):World:={w with heap:=h}
theorem eN(w:World)(h:ad):Tame w (jK w h):=⟨rfl,rfl,rfl⟩
theorem jQ(e:TypeId)(cs:Array Value)(w:World):(newRow e cs).run P w=.ok (az w.heap) (jK w (hnew w.heap cs.toList e)):=by
 simp[newRow,newObj,Sem.run,az,jK,hnew,bind,Sem.bind,pure]
theorem Bu(o:Obj)(w:World):(newObj o).run P w=.ok w.heap.size (jK w (w.heap.push o)):=rfl
theorem C7{h:ad}{a b:Addr}(v:Value)(hne:a≠b):aN (hset h a v) b=aN h b:=
 World.cell?_setCell_other {(default:World)with heap:=h} a b v hne
theorem Ap{h:ad}{a:Addr}{u:Value}(v:Value)(hc:aN h a=some u):aN (hset h a v) a=some v:=
 World.cell?_setCell_same {(default:World)with heap:=h} a v hc
theorem Fa{h:ad}{a b:Addr}(v:Value):AS (hset h a v) b=AS h b:=
 World.frozen?_setCell {(default:World)with heap:=h} a b v
theorem Wr.hset{h:ad}{a b:Addr}(v:Value)(hw:Wr h b):Wr (hset h a v) b:=by
 obtain⟨⟨u,hu⟩,hf⟩:=hw;refine⟨?_,by rw[Fa];exact hf⟩
 by_cases e:a=b
 ·subst e;exact⟨v,Ap v hu⟩
 ·exact⟨u,by rw[C7 v e];exact hu⟩
theorem Ic{w:World}{a:Addr}{v:Value}(hv:∀cs,v≠ .agg cs)(hv':∀cs,v≠ .tuple cs)(hw:Wr w.heap a):(store a v).run P w=.ok () (jK w (hset w.heap a v)):=by
 obtain⟨⟨u,hu⟩,hf⟩:=hw;have hu':w.cell? a=some u:=hu;have hf':w.frozen? a=false:=hf;cases v<;>first|exact absurd rfl (hv _)|exact absurd rfl (hv' _)|(simp only[store,Sem.run,hu',hf'];rfl)
theorem E0{v:Value}{vs:List Value}(h:cj (v::vs)=true):(∀cs,v≠ .agg cs)∧(∀cs,v≠ .tuple cs)∧cj vs=true:=by
 simp only[cj,bD]at h;refine⟨fun cs e=>?_,fun cs e=>?_,h.2⟩<;>(subst e;exact absurd h.1 (by simp))
theorem qf{a:Addr}:∀(vs:List Value) (i:Nat) (w:World),cj vs=true→(∀j,j<vs.length→Wr w.heap (adr a (i+j)))→
  (storeCells a vs i).run P w=.ok () (jK w (jA w.heap a i vs))
 | [],i,w,_,_=>rfl
 |v::vs,i,w,h1,hw=>by
  obtain⟨n1,n2,h1⟩:=E0 h1;have h0:=hw 0 (by simp);simp only[cU]at h0;have ha:a.add i=adr a i:=(rI a i).symm;simp only[storeCells,ha,Sem.run_bind,Ic n1 n2 h0,Result.andThen_ok];rw[qf vs (i+1) (jK w (hset w.heap (adr a i) v)) h1 fun j hj=>?_]
  ·rfl
  ·have:=hw (j+1) (by simp only[ax];omega)
   rw[show i+1+j=i+(j+1) by omega]
   exact this.hset v
theorem Ea{a:Addr}(m:Nat):∀(vs:List Value) (i:Nat) (h:ad),jA h (adr a m) i vs=jA h a (m+i) vs
 | [],_,_=>rfl
 |v::vs,i,h=>by
  simp only[jA];rw[Ea m vs (i+1),yb];rfl
theorem EC{t:TypeId}{a v:Value}{K:WK}{w:World}(hs:HQ P t a v K w.heap):Wu P (Instr.storeAt t a v) K w:=by
 unfold HQ at hs;split at hs
 ·rename_i a
  cases hb:(bJ v.cells.toList.length (ce P t)&&cj v.cells.toList)with
  |false=>rw[hb]at hs;exact hs.elim
  |true=>
   rw[hb]at hs;simp only[bD]at hb;have hl:=aU hb.1;obtain⟨hs,hz⟩:=oB hs;have hl':v.cells.size=ce P t:=by simpa using hl
   have go:(∀j,j<v.cells.toList.length→Wr w.heap (adr a (0+j)))→(Instr.storeAt t (.pointer (some a)) v).run P w=.ok () (jK w (jA w.heap a 0 v.cells.toList)):=by
    intro hw;have:=qf (P:=P) v.cells.toList 0 w hb.2 hw;simp[Instr.storeAt,Instr.sureAddr,storeVar,hz,hl',this]
   split at hs
   ·rename_i u hu
    obtain⟨hw,hk⟩:=hs;refine⟨_,go (fun j hj=>?_),eN _ _,?_⟩
    ·rw[hu]at hj;simp only[ax,List.length_nil]at hj
     obtain rfl:j=0:=by omega
     exact hw
    ·rw[hu];exact hk
   ·obtain⟨hw,hk⟩:=hs
    refine⟨_,go (fun j hj=>?_),eN _ _,hk⟩
    rcases hw with e|⟨b,hb',hw⟩
    ·rw[e]at hj;cases hj
    ·cases hb';exact hw j hj
 ·exact hs.elim
theorem jw(z:Array Value)(n:Nat):(Builtin.zeroCells z n).toList=dU n z.toList:=by
 have key:∀n,(List.range (n*z.size)).map (fun i=>z[i%z.size]!)=(fW n z.toList).flatten:=by
  intro n;induction n with
  |zero=>simp
  |succ n ih=>
   rw[Nat.succ_mul,List.range_add,List.map_append,ih,List.replicate_succ',List.flatten_append];congr 1
   simp only[qc,List.flatten_cons,List.flatten_nil,List.append_nil];apply List.ext_getElem
   ·simp
   ·intro i h1 h2
    simp only[List.length_map,List.length_range]at h1;simp[Nat.mod_eq_of_lt h1,h1,Nat.add_mod]
 simpa[Builtin.zeroCells,dU]using key n
theorem dP{t e:TypeId}(h:tO P t=some e):P.underlying t=some (.slice e):=by
 unfold tO at h;split at h
 ·rename_i e' hu;simp only[bH.injEq]at h;subst h;exact hu
 ·cases h
theorem J9{z:Value}{n:Nat}:((Array.range (n*z.cells.size)).map (z.cells[· %z.cells.size]!))=(dU n z.cells.toList).toArray:=by
 have:=jw z.cells n;unfold Builtin.zeroCells at this;apply dg;rw[this]
theorem zg{t e:TypeId}{n:Nat}{ps:Array (Nat×Value)}{z cs:List Value}(ht:tO P t=some e)(hz:pr P e=some z)(hn:n*ce P e≤16777216)(hl:z.length=ce P e)
  (hb:zU (fun i=>some (i*ce P e,ce P e)) (dU n z) ps.toList=some cs)(w:World):
  (Instr.buildSlice t n ps).run P w=.ok (.slice (some (az w.heap)) n n) (jK w (hnew w.heap cs e)):=by
 obtain⟨v,hv,hvc⟩:=jJ hz;obtain⟨i,hi,hiz⟩:=p5 hv;have hs:(sizeOf e).run P w=.ok (ce P e) w:=by simp[sizeOf,cQ hi,ce,hi]
 have hvs:v.cells.size=ce P e:=by rw[←hl,←hvc];simp
 have hf:=qQ _ _ _ hb;have hrow:((Array.range (n*ce P e)).map (fun i=>(if n*ce P e=0 then #[]else v.cells)[i%(if n*ce P e=0 then #[]else v.cells).size]!))=(dU n z).toArray:=by
  by_cases h0:n*ce P e=0
  ·have:(dU n z).length=0:=by simp[dU,hl,h0]
   rw[aH.1 this];simp[h0]
  ·simp only[if_neg h0]
   rw[←hvs,J9,hvc]
 have hn':¬(n*ce P e>2^24):=by omega
 simp only[Instr.buildSlice,Sem.run_bind,ay (dP ht),Result.andThen_ok,hs,if_neg hn'];by_cases h0:n*ce P e=0
 ·simp only[if_pos h0]at hrow
  simp only[if_pos h0,Sem.run_bind,Sem.run_pure,Result.andThen_ok,hrow,hf,jQ]
 ·simp only[if_neg h0]at hrow
  simp only[if_neg h0,Sem.run_bind,Sem.run_pure,Result.andThen_ok,eX hv,hrow,hf,jQ]
theorem Lz{h:ad}{a:Addr}{vs:List Value}(hr:Row h a vs):∀j v,vs[j]? =some v→aN h (a.add j)=some v:=fun j v hv=>by
 rw[←rI];exact hr j v hv
theorem u0{size n cap len:Nat}{b:Option Addr}{vs:List Value}{w:World}(hs:SRow w.heap b (n*size) vs):(Builtin.firstCells size n (.slice b len cap)).run P w=.ok vs.toArray w:=by
 obtain⟨hl,hr⟩:=hs;cases b with
 |none=>
  rcases hr with rfl|⟨_,h,_⟩
  ·simp[Builtin.firstCells]
  ·cases h
 |some b=>
  refine run_firstCells_some w size n b len cap vs hl fun j v hv=>?_
  rcases hr with rfl|⟨_,h,hr⟩
  ·cases hv
  ·cases h;exact Lz hr j v hv
theorem Bh{a:Addr}{m:Nat}{xs:List Value}{w:World}(h1:cj xs=true)(hw:uc w.heap (some a) m xs):
  (storeCells (a.add m) xs).run P w=.ok () (jK w (jA w.heap a m xs)):=by
 rcases hw with rfl|⟨b,hb,hw⟩
 ·rfl
 ·cases hb
  have:=qf (P:=P) (a:=adr a m) xs 0 w h1 fun j hj=>by rw[yb,aD];exact hw j hj
  rw[←rI,this,Ea,cU]
set_option maxHeartbeats 1000000 in
theorem Cn{t e u ty:TypeId}{b:Option Addr}{sl sc xl:Nat}{xs:List Value}{x:Value}{K:WK}{w:World}(ht:tO P t=some e)(hu':(∃e',P.underlying u=some (.slice e'))∨P.underlying u=some .string)
  (hlen:∀w,(Builtin.lenOf x).run P w=.ok xl w)(hx:∀w':World,w'.heap=w.heap→(Builtin.firstCells (ce P e) xl x).run P w'=.ok xs.toArray w')
  (hi:∃i,P.info? e=some i)
  (h:NX P e b sl sc xl xs K w.heap):Wv P (Builtin.append_ #[t,u] ty #[.slice b sl sc,x]) K w:=by
 obtain⟨i,hi⟩:=hi;have hsz:ce P e=i.size:=by simp[ce,hi]
 have hby:pE P e=i.bytes:=by simp[pE,hi]
 by_cases hc:sl+xl≤sc
 ·obtain⟨hw,h1,hk⟩:=h.1 hc
  refine⟨_,_,?_,eN w (fP w.heap b (sl*ce P e) xs),hk⟩;cases b with
  |none=>
   have hxs:=hx w rfl;rw[hsz]at hxs;rcases hu' with⟨e',hd⟩|hd<;>(simp[Builtin.append_,ay (dP ht),ay hd,sizeOf,cQ hi,hlen,hc,hxs];rfl)
  |some a=>
   have hst:=Bh (P:=P) h1 hw;have hxs:=hx w rfl;rw[hsz]at hst hxs;rcases hu' with⟨e',hd⟩|hd<;>(simp[Builtin.append_,ay (dP ht),ay hd,sizeOf,cQ hi,hlen,hc,hxs,hst,fP,hsz])
 ·obtain⟨old,z,ho,hz,hb0,h48,hk⟩:=h.2 (by omega)
  obtain⟨v,hv,hvc⟩:=jJ hz;obtain⟨i',hi',hiz⟩:=p5 hv;rw[hi]at hi';cases hi';rw[hby]at hb0 h48;have hb0':¬i.bytes=0:=by omega
  have h48':¬(281474976710656<Builtin.nextslicecap (sl+xl) sc*i.bytes):=by omega
  have hxs:=hx w.drew rfl;have hol:(Builtin.firstCells (ce P e) sl (.slice b sl sc)).run P w.drew=.ok old.toArray w.drew:=u0 ho;rw[hsz]at hxs hol;have hge:sl+xl≤(Question.appendCap (sl+xl) sc e).cut (w.tape w.drawn (.appendCap (sl+xl) sc e)):=oK _ _;refine⟨_,jK w.drew (hnew w.heap (old++xs++dU ((Question.appendCap (sl+xl) sc e).cut (w.tape w.drawn (.appendCap (sl+xl) sc e))-(sl+xl)) z) e),?_,⟨rfl,rfl,rfl⟩,hk _ hge⟩
  have hzc:(Builtin.zeroCells v.cells ((Question.appendCap (sl+xl) sc e).cut (w.tape w.drawn (.appendCap (sl+xl) sc e))-(sl+xl)))=(dU ((Question.appendCap (sl+xl) sc e).cut (w.tape w.drawn (.appendCap (sl+xl) sc e))-(sl+xl)) z).toArray:=by
   apply dg;rw[jw,hvc]
  rcases hu' with⟨e',hd⟩|hd<;>(simp[Builtin.append_,ay (dP ht),ay hd,sizeOf,cQ hi,hlen,hc,hb0',h48',Question.forced,hxs,hol,eX hv,jQ,hzc,az];rfl)
theorem BU{t:TypeId}{K:Prop}(h:Nj P t K):∃i,P.info? t=some i:=by
 unfold Nj at h;cases hi:P.info? t with
 |none=>rw[hi]at h;exact h.elim
 |some i=>exact⟨i,rfl⟩
theorem xO{t:TypeId}(h:ce P t≠0):∃i,P.info? t=some i:=by
 cases hi:P.info? t with
 |none=>exact absurd (by simp[ce,hi]) h
 |some i=>exact⟨i,rfl⟩
theorem zZ{size n:Nat}{x:ByteArray}{w:World}:(Builtin.firstCells size n (.string x)).run P w=.ok ((dR x).take n).toArray w:=by
 simp only[Builtin.firstCells,Sem.run_pure];congr 1
 apply dg;simp[dR,oc,gc,←List.map_take]
theorem vJ{t u ty:TypeId}{s x:Value}{K:WK}{w:World}(hu':(∃e',P.underlying u=some (.slice e'))∨P.underlying u=some .string)(h:AG P t s x K w.heap):
  Wv P (Builtin.append_ #[t,u] ty #[s,x]) K w:=by
 unfold AG at h;split at h
 ·rename_i e b sl sc a xl xc ht
  have hi:=BU h;obtain⟨⟨xs,hxs,hk⟩,hz⟩:=oB h;exact Cn ht hu' (fun w=>rfl) (fun w' hw=>u0 (by rw[hw];exact hxs)) hi hk
 ·rename_i e b sl sc x ht
  cases hb:bJ (ce P e) 1 with
  |false=>rw[hb]at h;exact h.elim
  |true=>
   rw[hb]at h;have h1:=aU hb;have hl:(dR x).length=x.size:=by simp[dR]
   refine Cn ht hu' (fun w=>rfl) (fun w' _=>?_) (xO (by omega)) h
   rw[zZ,bw (by omega)]
 ·exact h.elim
theorem yF{n:Int}(h0:0≤n)(h1:n≤9223372036854775807):IntKind.i64.wrap n=n:=IntWalk.i64_in n ⟨by omega,h1⟩
theorem Jp{t e u ty:TypeId}{b:Option Addr}{sl sc:Nat}{k0 k:IntKind}{l:Int}{z:List Value}{K:WK}{w:World}(ht:tO P t=some e)(hu:P.underlying u=some (.int k0))
  (hz:pr P e=some z)(hzl:z.length=ce P e)(h0:0≤l)(h1:l*pE P e≤2^48)(h2:l≤9223372036854775807)(h3:((sl+l.toNat:Nat):Int)≤9223372036854775807)
  (h:NX P e b sl sc l.toNat (dU l.toNat z) K w.heap):Wv P (Builtin.append_ #[t,u] ty #[.slice b sl sc,.int k l]) K w:=by
 obtain⟨v,hv,hvc⟩:=jJ hz;obtain⟨i,hi,hiz⟩:=p5 hv;have hsz:ce P e=i.size:=by simp[ce,hi]
 have hby:pE P e=i.bytes:=by simp[pE,hi]
 have hw:IntKind.wrap .i64 l=l:=yF h0 h2;have hl0:¬l<0:=by omega
 rw[hby]at h1;have h1':¬(281474976710656:Int)<l*i.bytes:=by omega
 have hai:∀w':World,(asInt (.int k l)).run P w'=.ok l w':=fun w'=>rfl
 have hzn:(Builtin.zeroCells v.cells l.toNat)=(dU l.toNat z).toArray:=by apply dg;rw[jw,hvc]
 have hz0:l.toNat*i.size=0→dU l.toNat z= []:=fun h0'=>by
  have hlen:(dU l.toNat z).length=l.toNat*i.size:=by rw[←hsz,←hzl];unfold dU;simp
  exact aH.1 (by rw[hlen,h0'])
 by_cases hc:sl+l.toNat≤sc
 ·obtain⟨hw',h1,hk⟩:=h.1 hc
  refine⟨_,_,?_,eN w (fP w.heap b (sl*ce P e) (dU l.toNat z)),hk⟩;cases b with
  |none=>
   by_cases hs:l.toNat*i.size=0
   ·simp[Builtin.append_,ay (dP ht),ay hu,sizeOf,cQ hi,hai,hw,hl0,h1',hc,hs];rfl
   ·simp[Builtin.append_,ay (dP ht),ay hu,sizeOf,cQ hi,hai,hw,hl0,h1',hc,eX hv];rfl
  |some a=>
   have hst:=Bh (P:=P) h1 hw';rw[hsz]at hst;by_cases hs:l.toNat*i.size=0
   ·rw[hz0 hs]at hst
    simp[Builtin.append_,ay (dP ht),ay hu,sizeOf,cQ hi,hai,hw,hl0,h1',hc,hst,fP,hsz,hs,hz0 hs]
   ·simp[Builtin.append_,ay (dP ht),ay hu,sizeOf,cQ hi,hai,hw,hl0,h1',hc,hst,fP,hsz,hs,eX hv,hzn]
 ·obtain⟨old,z',ho,hz',hb0,h48,hk⟩:=h.2 (by omega)
  rw[hz]at hz';cases hz';rw[hby]at hb0 h48;have hb0':¬i.bytes=0:=by omega
  have h48':¬(281474976710656<Builtin.nextslicecap (sl+l.toNat) sc*i.bytes):=by omega
  have h3':¬(9223372036854775807:Int)<((sl:Int)+(l.toNat:Int)):=by omega
  have h3'':¬(9223372036854775807:Int)<((sl:Int)+max l 0):=by omega
  have hol:(Builtin.firstCells (ce P e) sl (.slice b sl sc)).run P w.drew=.ok old.toArray w.drew:=u0 ho;rw[hsz]at hol;have hge:sl+l.toNat≤(Question.appendCap (sl+l.toNat) sc e).cut (w.tape w.drawn (.appendCap (sl+l.toNat) sc e)):=oK _ _;refine⟨_,jK w.drew (hnew w.heap (old++dU l.toNat z++dU ((Question.appendCap (sl+l.toNat) sc e).cut (w.tape w.drawn (.appendCap (sl+l.toNat) sc e))-(sl+l.toNat)) z) e),?_,⟨rfl,rfl,rfl⟩,hk _ hge⟩
  have hzc:(Builtin.zeroCells v.cells ((Question.appendCap (sl+l.toNat) sc e).cut (w.tape w.drawn (.appendCap (sl+l.toNat) sc e))-(sl+l.toNat)))=(dU ((Question.appendCap (sl+l.toNat) sc e).cut (w.tape w.drawn (.appendCap (sl+l.toNat) sc e))-(sl+l.toNat)) z).toArray:=by
   apply dg;rw[jw,hvc]
  by_cases hs:l.toNat*i.size=0
  ·rw[hz0 hs]at hk⊢
   simp[Builtin.append_,ay (dP ht),ay hu,sizeOf,cQ hi,hai,hw,hl0,h1',hc,h3'',h48',Question.forced,hol,eX hv,jQ,hzc,az,hs];rfl
  ·simp[Builtin.append_,ay (dP ht),ay hu,sizeOf,cQ hi,hai,hw,hl0,h1',hc,h3'',h48',Question.forced,hol,eX hv,jQ,hzc,az,hs,hzn];rfl
theorem A7{t u ty:TypeId}{k0:IntKind}{s x:Value}{K:WK}{w:World}(hu:P.underlying u=some (.int k0))(h:A8 P t s x K w.heap):
  Wv P (Builtin.append_ #[t,u] ty #[s,x]) K w:=by
 unfold A8 at h;split at h
 ·rename_i e b sl sc k l ht
  split at h
  ·rename_i z hz
   cases hb:bJ z.length (ce P e)with
   |false=>rw[hb]at h;exact h.elim
   |true=>
    rw[hb]at h;obtain⟨⟨h0,h1,h2,h3⟩,hk⟩:=h;exact Jp ht hu hz (aU hb) h0 h1 h2 h3 hk
  ·exact h.elim
 ·exact h.elim
theorem jT:∀{a b:List Value},cj a=true→cj b=true→cj (a++b)=true
 | [],_,_,h=>h
 |v::a,b,h,k=>by
  simp only[cj,dN,bD]at h⊢;exact⟨h.1,jT h.2 k⟩
theorem xF{z:List Value}(h:cj z=true):∀n,cj (dU n z)=true
 |0=>rfl
 |n+1=>by
  have:dU (n+1) z=z++dU n z:=by simp[dU,List.replicate_succ]
  rw[this];exact jT h (xF h n)
theorem ED{t ty:TypeId}{x:Value}{K:WK}{w:World}(h:HR P t x K w.heap):Wv P (Builtin.clear_ #[t] ty #[x]) K w:=by
 unfold HR at h;split at h
 ·rename_i e a n c ht
  split at h
  ·rename_i z hz
   obtain⟨v,hv,hvc⟩:=jJ hz;cases ho:cj z with
   |false=>rw[ho]at h;exact h.elim
   |true=>
    rw[ho]at h;obtain⟨hw,hk⟩:=h;refine⟨_,_,?_,eN w (fP w.heap a 0 (dU n z)),hk⟩;cases a with
    |none=>simp[Builtin.clear_,ay (dP ht)];rfl
    |some a=>
     cases n with
     |zero=>simp[Builtin.clear_,ay (dP ht)];rfl
     |succ n=>
      have hst:=Bh (P:=P) (xF ho (n+1)) hw;rw[←rI,Cp]at hst;have hzc:(Builtin.zeroCells v.cells (n+1)).toList=dU (n+1) z:=by rw[jw,hvc]
      simp[Builtin.clear_,ay (dP ht),eX hv,hzc,hst,fP]
  ·exact h.elim
 ·exact h.elim
theorem xG:∀(xs:List Value) (n:Nat),cj xs=true→cj (xs.take n)=true
 | [],n,_=>by simp[cj]
 |x::xs,0,_=>by simp[cj]
 |x::xs,n+1,h=>by
  simp only[cj,bD,List.take_succ_cons]at h⊢;exact⟨h.1,xG xs n h.2⟩
theorem C4(x:ByteArray):cj (dR x)=true:=by
 have:∀l:List UInt8,cj (l.map fun b=>.int .u8 (b.toNat:Int))=true:=by
  intro l;induction l with
  |nil=>rfl
  |cons b l ih=>simp[cj,ih]
 exact this _
theorem F6{t u ty:TypeId}{d s:Value}{K:WK}{w:World}(h:MC P t d s K w.heap):Wv P (Builtin.copy_ #[t,u] ty #[d,s]) K w:=by
 unfold MC at h;split at h
 ·rename_i e b dl dc a sl sc ht
  obtain⟨⟨xs,hxs,hw,h1,hk⟩,hz⟩:=oB h;refine⟨_,_,?_,eN w (fP w.heap b 0 xs),hk⟩;have hf:=u0 (P:=P) (len:=sl) (cap:=sc) hxs;cases b with
  |none=>simp[Builtin.copy_,ay (dP ht),Builtin.lenOf,hz,hf,goInt];rfl
  |some c=>
   have hst:=Bh (P:=P) (m:=0) h1 hw;simp only[Addr.add,if_pos]at hst;simp[Builtin.copy_,ay (dP ht),Builtin.lenOf,hz,hf,goInt,hst,fP]
 ·rename_i e b dl dc x ht
  cases hb:bJ (ce P e) 1 with
  |false=>rw[hb]at h;exact h.elim
  |true=>
   rw[hb]at h;have h1:=aU hb;obtain⟨i,hi⟩:=xO (P:=P) (t:=e) (by omega);have hz:(sizeOf e).run P w=.ok (ce P e) w:=by simp[sizeOf,cQ hi,ce,hi]
   obtain⟨hw,hk⟩:=h;have hl:(dR x).length=x.size:=by simp[dR]
   have he:(dR x).take (dW x.size dl)=(dR x).take dl:=by
    by_cases hx:x.size≤dl
    ·rw[show dW x.size dl=x.size from Nat.min_eq_left hx,bw (by omega),bw (by omega)]
    ·rw[show dW x.size dl=dl from Nat.min_eq_right (by omega)]
   have hf:(Builtin.firstCells (ce P e) (dW x.size dl) (.string x)).run P w=.ok ((dR x).take dl).toArray w:=by
    rw[zZ,he]
   refine⟨_,_,?_,eN w (fP w.heap b 0 ((dR x).take dl)),hk⟩;cases b with
   |none=>simp[Builtin.copy_,ay (dP ht),Builtin.lenOf,hz,hf,goInt];rfl
   |some c=>
    have hst:=Bh (P:=P) (m:=0) (xG _ dl (C4 x)) hw;simp only[Addr.add,if_pos]at hst;simp[Builtin.copy_,ay (dP ht),Builtin.lenOf,hz,hf,goInt,hst,fP]
 ·exact h.elim
theorem Kr(k v:Value)(clock:Nat):∀(es:List MapEntry),(match es.findIdx? (fun e=>gK k e.key)with
  |some i=>(es.modify i (fun e=>{e with key:=k,val:=v}),clock)
  |none=>(es++ [{key:=k,val:=v,born:=clock}],clock+1))=Iw k v clock es
 | []=>rfl
 |e::es=>by
  have ih:=Kr k v clock es;simp only[Iw,List.findIdx?_cons];cases hk:gK k e.key with
  |true=>simp[List.modify]
  |false=>
   simp only[dG,if_false];rw[←ih];cases hf:es.findIdx? (fun e=>gK k e.key)with
   |none=>simp
   |some i=>simp[List.modify]
theorem uA{d:TypeDesc}{c:CK}(hd:nK d c)(x:c.den):∀(es:List MapEntry) (i:Nat),BQ c es→
  Instr.findNow d (c.enc x) es i=some (match es.findIdx? (fun e=>gK (c.enc x) e.key)with
   |some j=>(es[j]?).map fun e=>(i+j,e.val)
   |none=>none)
 | [],i,_=>rfl
 |e::es,i,h=>by
  obtain⟨y,hy⟩:=h e (by simp);have hs:=zI hd x y;rw[←hy]at hs;have ih:=uA hd x es (i+1) fun e' he'=>h e' (by simp[he'])
  simp only[Instr.findNow,List.findIdx?_cons,hs];cases hb:gK (c.enc x) e.key with
  |true=>simp
  |false=>
   simp only[dG,if_false];rw[ih];cases hf:es.findIdx? (fun e=>gK (c.enc x) e.key)with
   |none=>simp
   |some j=>simp[jj,Nat.add_comm 1 j]
theorem Av{a b:ByteArray}(h:(a==b)=true):a=b:=by
 cases a with|mk a=>cases b with|mk b=>
 have h:(a==b)=true:=h;rw[eq_of_beq h]
theorem Cj(a:ByteArray):(a==a)=true:=by
 cases a with|mk a=>
 exact beq_self_eq_true a
theorem EO{d:TypeDesc}{c:CK}(hd:nK d c)(x y:c.den)(h:gK (c.enc x) (c.enc y)=true):Instr.sameBits 10000 (c.enc y) (c.enc x)=true:=by
 rcases hd with⟨i,rfl,rfl⟩|⟨rfl,rfl⟩|⟨rfl,rfl⟩
 ·have h:x=y:=eq_of_beq (α:=Int) h
  subst h;have:∀n:Int,(i==i&&n==n)=true:=fun n=>by simp
  exact this x
 ·have h:x=y:=Av h
  subst h;exact Cj x
 ·have h:x=y:=eq_of_beq (α:=Bool) h
  subst h;exact beq_self_eq_true (α:=Bool) x
theorem sM{w:World}{r:Nat}{es:Array MapEntry}{clock:Nat}{o:Obj}(h:w.heap[r]? =some (.map es clock)):(setObj r o).run P w=.ok () (jK w (w.heap.setIfInBounds r o)):=by
 simp only[setObj,Sem.run,h];rfl
theorem II{t k e:TypeId}{d:TypeDesc}{c:CK}(hu:P.underlying t=some (.map k e))(hk:P.underlying k=some d)(hd:nK d c){r:Nat}{x:c.den}{v:Value}{w:World}(hm:K7 c w.heap r):
  (Instr.mapUpdate t (.map (some r)) (c.enc x) v).run P w=.ok () (jK w (O1 w.heap r (c.enc x) v)):=by
 obtain⟨es,clock,hb,hks⟩:=hm;obtain⟨q,h1,h2,h3⟩:=sW (P:=P) hd hk x hks w;rw[uA hd x es.toList 0 hks]at h2;have hput:=Kr (c.enc x) v clock es.toList;have hmp:O1 w.heap r (c.enc x) v=w.heap.setIfInBounds r (.map (Iw (c.enc x) v clock es.toList).1.toArray (Iw (c.enc x) v clock es.toList).2):=by
  simp only[O1,hb]
 rw[hmp,←hput];simp only[Instr.mapUpdate,Sem.run_bind,ay hu,Result.andThen_ok,lf hb,mA hd hk,h1];cases hf:es.toList.findIdx? (fun e=>gK (c.enc x) e.key)with
 |none=>
  rw[hf]at h2;simp only[bH.injEq]at h2;subst h2;simp only[sM hb];congr 4
  apply dg;simp
 |some i=>
  rw[hf]at h2;simp only[bH.injEq]at h2;obtain⟨hi,hp,_⟩:=List.findIdx?_eq_some_iff_getElem.1 hf;have he:es.toList[i]? =some es.toList[i]:=af hi;rw[he]at h2;simp only[f8,aD]at h2;subst h2;have he':es[i]? =some es.toList[i]:=by rw[←bM];exact he
  obtain⟨y,hy⟩:=hks es.toList[i] (List.getElem_mem hi);have hsb:Instr.sameBits 10000 (es.toList[i]).key (c.enc x)=true:=by
   rw[hy]at hp⊢;exact EO hd x y hp
  simp only[he',f8,Option.getD_some,Instr.keyThatStays,hsb,if_true,Sem.run_bind,Sem.run_pure,Result.andThen_ok,sM hb];congr 4
  apply dg;simp
theorem vI{t:TypeId}{m k v:Value}{K:WK}{w:World}(h:AF P t m k v K w.heap):Wu P (Instr.mapUpdate t m k v) K w:=by
 unfold AF at h;split at h
 ·rename_i c e m hc
  obtain⟨kt,d,hu,hk,hd⟩:=ut hc;obtain⟨kx,rfl,r,rfl,hm,hK⟩:=CK.dec_sound h;exact⟨_,II hu hk hd hm,eN _ _,hK⟩
 ·exact h.elim
theorem G5(k:Value):∀(es:List MapEntry),(match es.findIdx? (fun e=>gK k e.key)with
  |some i=>es.eraseIdx i
  |none=>es)=G6 k es
 | []=>rfl
 |e::es=>by
  have ih:=G5 k es;simp only[G6,List.findIdx?_cons];cases hk:gK k e.key with
  |true=>simp
  |false=>
   simp only[dG,if_false];rw[←ih];cases hf:es.findIdx? (fun e=>gK k e.key)<;>simp
theorem GI{t k e ty:TypeId}{ts:Array TypeId}{d:TypeDesc}{c:CK}(ht:ts[0]? =some t) (hu:P.underlying t=some (.map k e)) (hk:P.underlying k=some d) (hd:nK d c) {r:Nat} {x:c.den} {w:World} (hm:K7 c w.heap r):
  (Builtin.delete_ ts ty #[.map (some r),c.enc x]).run P w=.ok (.tuple #[]) (jK w (KB w.heap r (c.enc x))):=by
 obtain⟨es,clock,hb,hks⟩:=hm;obtain⟨q,h1,h2,h3⟩:=sW (P:=P) hd hk x hks w;rw[uA hd x es.toList 0 hks]at h2;have hdrop:=G5 (c.enc x) es.toList;have hmp:KB w.heap r (c.enc x)=w.heap.setIfInBounds r (.map (G6 (c.enc x) es.toList).toArray clock):=by
  simp only[KB,hb]
 rw[hmp,←hdrop];simp only[Builtin.delete_,ht,List.getElem?_toArray,List.getElem?_cons_zero,List.getElem?_cons_succ,Sem.run_bind,ay hu,Result.andThen_ok,lf hb,mA hd hk,h1];cases hf:es.toList.findIdx? (fun e=>gK (c.enc x) e.key)with
 |none=>
  rw[hf]at h2;simp only[bH.injEq]at h2;subst h2;simp[sM hb]
 |some i=>
  rw[hf]at h2;simp only[bH.injEq]at h2;obtain⟨hi,hp,_⟩:=List.findIdx?_eq_some_iff_getElem.1 hf;have he:es.toList[i]? =some es.toList[i]:=af hi;rw[he]at h2;simp only[f8,aD]at h2;subst h2;have hi':i<es.size:=by simpa using hi
  have herase:es.eraseIdxIfInBounds i=(es.toList.eraseIdx i).toArray:=by
   apply dg;simp[Array.eraseIdxIfInBounds,hi']
  simp[sM hb,herase]
theorem A5{t ty:TypeId}{ts:Array TypeId}{m k:Value}{K:WK}{w:World}(ht:ts[0]? =some t) (h:A6 P t m k K w.heap):Wv P (Builtin.delete_ ts ty #[m,k]) K w:=by
 unfold A6 at h;split at h
 ·rename_i c e m hc
  obtain⟨kt,d,hu,hk,hd⟩:=ut hc;obtain⟨kx,rfl,h⟩:=CK.dec_sound h;rcases h with⟨rfl,hK⟩|⟨r,rfl,hm,hK⟩
  ·refine⟨_,w,?_,Tame.refl w,hK⟩
   simp[Builtin.delete_,ht,ay hu,mA hd hk]
  ·exact⟨_,_,GI ht hu hk hd hm,eN _ _,hK⟩
 ·exact h.elim
theorem LB{t k e:TypeId}(hu:P.underlying t=some (.map k e)){m:Option Nat}{clock:Nat}{w:World}(hm:m=none∧clock=0∨∃r es,m=some r∧w.heap[r]? =some (.map es clock)):
  (Instr.range t (.map m)).run P w=.ok (.pointer (some (az w.heap))) (jK w (w.heap.push (.mapIter m clock #[] clock))):=by
 rcases hm with⟨rfl,rfl⟩|⟨r,es,rfl,hb⟩
 ·simp only[Instr.range,Sem.run_bind,ay hu,Result.andThen_ok,Sem.run_pure,Bu,az]
 ·simp only[Instr.range,Sem.run_bind,ay hu,Result.andThen_ok,Sem.run_pure,lf hb,Bu,az]
theorem um{w:World}{i:Nat}{m:Option Nat}{since:Nat}{seen:Array Nat}{last:Nat}(h:w.heap[i]? =some (.mapIter m since seen last)):(getObj i).run P w=.ok (.mapIter m since seen last) w:=by
 simp only[getObj,Sem.run,h]
theorem Gk{w:World}{i:Nat}{m:Option Nat}{since:Nat}{seen:Array Nat}{last:Nat}{o:Obj}(h:w.heap[i]? =some (.mapIter m since seen last)):(setObj i o).run P w=.ok () (jK w (w.heap.setIfInBounds i o)):=by
 simp only[setObj,Sem.run,h];rfl
theorem Cf(n:Nat)(hn:0<n)(w:World):∃k w',k<n∧(choose (.mapNext n)).run P w=.ok k w'∧Tame w w'∧w'.heap=w.heap:=by
 unfold choose;simp only[Sem.run];by_cases h:(Question.mapNext n).forced=true
 ·exact⟨0,w,hn,by rw[if_pos h],Tame.refl w,rfl⟩
 ·refine⟨(Question.mapNext n).cut (w.tape w.drawn (.mapNext n)),{w with drawn:=w.drawn+1},Nat.mod_lt _ hn,by rw[if_neg h],⟨rfl,rfl,rfl⟩,rfl⟩
theorem F5{it:Value}{t:TypeId}{K:WK}{w:World}(h:MB it K w.heap):Wv P (Instr.next it false t) K w:=by
 unfold MB at h;split at h
 ·rename_i a
  obtain⟨h0,m,since,seen,last,hi,h⟩:=h;obtain⟨b,off,spot⟩:=a;simp only at h0 hi h;subst h0;rcases h with⟨rfl,hK⟩|⟨r,es,clock,rfl,hb,hnon,hend,hgo⟩
  ·exact⟨_,w,by simp only[Instr.next,Sem.run_bind,um hi,Result.andThen_ok,Sem.run_pure],Tame.refl w,hK⟩
  ·have hguard:(!seen.isEmpty&& !es.isEmpty&&es.all (fun e=>decide (e.born≥last)))=false:=by
    rcases hnon with h|h|h<;>simp[h]
   obtain⟨left,hleft⟩:∃left,left=es.filter fun e=> !seen.contains e.born:=⟨_,rfl⟩
   obtain⟨old,hold⟩:∃old,old=left.filter (·.born<since):=⟨_,rfl⟩
   obtain⟨new,hnew⟩:∃new,new=left.filter (·.born≥since):=⟨_,rfl⟩
   obtain⟨cand,hcand⟩:∃cand:Array (Option MapEntry),cand=(if old.isEmpty then #[none]else #[])++(old++new).map some:=⟨_,rfl⟩
   have hpos:0<cand.size:=by
    rw[hcand];by_cases ho:old.isEmpty=true
    ·simp[ho];omega
    ·have:old.size≠0:=by simpa using ho
     simp[ho];omega
   obtain⟨k,w1,hk,hrun,ht,hh⟩:=Cf (P:=P) cand.size hpos w;obtain⟨c,hc⟩:∃c,cand[k]? =some c:=⟨cand[k],Array.getElem?_eq_getElem hk⟩;have hi1:w1.heap[b]? =some (.mapIter (some r) since seen last):=by rw[hh];exact hi
   have hguard':(!seen.isEmpty&& !es.isEmpty&&es.all fun x=>decide (x.born≥last))=false:=hguard
   cases c with
   |none=>
    refine⟨.tuple #[.bool false],w1,?_,ht,?_⟩
    ·simp only[Instr.next,Sem.run_bind,um hi,Result.andThen_ok,Sem.run_pure,lf hb,hguard',dG,if_false,←hleft,←hold,←hnew,←hcand,hrun,hc]
    ·rw[hh]
     have hold0:old.isEmpty=true:=by
      have hm:none∈cand:=ou hc;rw[hcand]at hm;by_cases ho:old.isEmpty=true
      ·exact ho
      ·simp[ho]at hm
     refine hend fun e he hlt=>?_
     cases hs:seen.contains e.born with
     |true=>rfl
     |false=>
      have hmem:e∈old:=by
       rw[hold,hleft];simp only[oN];exact⟨⟨by simpa using he,by rw[hs];rfl⟩,by simpa using hlt⟩
      rw[Array.isEmpty_iff]at hold0;rw[hold0]at hmem;simp at hmem
   |some e=>
    have hmem:e∈es∧seen.contains e.born=false:=by
     have hm:some e∈cand:=ou hc;have hm2:e∈left:=by
      rw[hcand]at hm;rw[Array.mem_append]at hm;rcases hm with hm|hm
      ·split at hm<;>simp at hm
      ·simp only[Array.mem_map,bH.injEq,exists_eq_right,Array.mem_append]at hm
       rcases hm with hm|hm
       ·rw[hold]at hm;exact(oN.1 hm).1
       ·rw[hnew]at hm;exact(oN.1 hm).1
     rw[hleft]at hm2;have:=oN.1 hm2;exact⟨this.1,by simpa using this.2⟩
    refine⟨.tuple #[.bool true,e.key,e.val],jK w1 (w1.heap.setIfInBounds b (.mapIter (some r) since (seen.push e.born) clock)),?_,ht.trans (eN _ _),?_⟩
    ·simp only[Instr.next,Sem.run_bind,um hi,Result.andThen_ok,Sem.run_pure,lf hb,hguard',dG,if_false,←hleft,←hold,←hnew,←hcand,hrun,hc,Gk hi1]
    ·rw[hh]
     exact hgo e (by simpa using hmem.1) hmem.2
 ·exact h.elim
theorem C5{t e:TypeId}{z:List Value}{k k':IntKind}{l c:Int}{w:World}(ht:tO P t=some e)(hz:pr P e=some z)(hzl:z.length=ce P e)(h0:0≤l)(h1:l≤c)(h2:c≤9223372036854775807)(h3:pE P e*c≤2^48):
  (Instr.makeSlice t (.int k l) (.int k' c)).run P w=.ok (.slice (some (az w.heap)) l.toNat c.toNat) (jK w (hnew w.heap (dU c.toNat z) e)):=by
 obtain⟨v,hv,hvc⟩:=jJ hz;obtain⟨i,hi,hiz⟩:=p5 hv;have hsz:ce P e=i.size:=by simp[ce,hi]
 have hby:pE P e=i.bytes:=by simp[pE,hi]
 have hvs:v.cells.size=i.size:=by rw[←hsz,←hzl,←hvc];simp
 have hl:=yF h0 (by omega);have hc:=yF (show 0≤c by omega) h2
 rw[hby]at h3;have c1:¬(c<0):=by omega
 have c2:¬(281474976710656<(i.bytes:Int)*c):=by omega
 have c3:¬(l<0):=by omega
 have c4:¬(c<l):=by omega
 by_cases hz0:c.toNat*i.size=0
 ·have hz1:(dU c.toNat z).length=0:=by simp[dU,hzl,hsz,hz0]
  rw[aH.1 hz1];simp[Instr.makeSlice,ay (dP ht),asInt,asIntOf,cQ hi,hl,hc,c1,c2,c3,c4,sizeOf,hz0,jQ]
 ·have hrow:((Array.range (c.toNat*i.size)).map (fun j=>v.cells[j%v.cells.size]!))=(dU c.toNat z).toArray:=by
   rw[←hvs,J9,hvc]
  have key:(newRow e ((Array.range (c.toNat*i.size)).map (fun j=>v.cells[j%v.cells.size]!))).run P w=.ok (az w.heap) (jK w (hnew w.heap (dU c.toNat z) e)):=by
   rw[hrow,jQ]
  simp[Instr.makeSlice,ay (dP ht),asInt,asIntOf,cQ hi,hl,hc,c1,c2,c3,c4,sizeOf,hz0,eX hv];rw[key];rfl
theorem Agree.args{N:Nat}{r:cH}{a:Act}(h:Agree N r a){os:Array Operand}{vs:List Value}(hv:pw r os.toList=some vs):os.map a.eval=vs.toArray:=by
 rw[←nu h hv];apply dg;simp
theorem HC.out{f:FuncId}{args:List Value}{ks:List Kind}{K:WK}{w:World}(h:HC P f args ks (fun x h'=>K (BB ks (mz ks x)) h') w.heap):Hi P (callFunc f args.toArray) K w:=by
 rcases h.run w rfl with⟨h1,h2⟩|⟨v,w',h1,ht,x,rfl,hk⟩
 ·refine .inr (.inr (.inl ⟨f,args.toArray,h1,h2.mono ?_⟩))
  rintro e w' ⟨ht,x,rfl,hk⟩;exact⟨ht,_,rfl,hk⟩
 ·exact .inl ⟨_,w',h1,ht,hk⟩
theorem L3{src dst e:TypeId}{s:ByteArray}{w:World}(hs:P.underlying src=some .string)(hd:P.underlying dst=some (.slice e))(he:P.underlying e=some (.int .u8)):
  ∃c,s.size≤c∧(convert src dst (.string s)).run P w=.ok (.slice (some (az w.heap)) s.size c) (jK w.drew (w.heap.push (.cells (dR s++fW (c-s.size) (Value.int .u8 0)).toArray e (c,c+1)))):=by
 have hge:s.size≤grownCap w s.size 0 e:=oK _ _;refine⟨_,hge,?_⟩;rw[Go.Lib.run_convert_string_bytes w src dst e s hs hd he];have hc:(Go.Lib.bytesCells w e s).size=grownCap w s.size 0 e:=by
  unfold Go.Lib.bytesCells;rw[Array.size_append,Array.size_map,Array.size_replicate,show s.data.size=s.size from rfl]
  omega
 have hcl:(dR s++fW (grownCap w s.size 0 e-s.size) (Value.int .u8 0)).toArray=Go.Lib.bytesCells w e s:=by
  unfold Go.Lib.bytesCells dR;apply dg;simp
 rw[hcl];unfold Go.Lib.bytesWorld World.freeze;rw[if_neg (by omega),hc];unfold World.alloc World.drew jK;congr 1
 congr 1
 apply Array.ext (by simp);intro i h1 h2;rw[Array.getElem_modify];simp only[Array.getElem_push];split
 ·rename_i e
  subst e;simp
 ·rename_i e
  have hi:i<w.heap.size:=by simp at h2;omega
  rw[dif_pos hi,dif_pos hi]
theorem yH{o:Oper}{r:cH}{K:WK}{w:World}{N:Nat}{a:Act}(ha:Agree N r a)(hq:CV P o r K w.heap):Hi P (execOp a.eval o) K w:=by
 have ev:∀{x:Operand} {v:Value},dK r x=some v→a.eval x=v:=fun h=>lh ha h
 obtain⟨dst,op,type,ua,after,guard⟩:=o;cases op with
 |alloc t=>
  simp only[CV]at hq;split at hq
  ·rename_i z hz
   obtain⟨v,hv,hvc⟩:=jJ hz;have he:(Instr.alloc t true (.tuple #[])).run P w=.ok (.pointer (some (az w.heap))) (jK w (hnew w.heap z t)):=by
    simp[Instr.alloc,eX hv,newVar,jQ,hvc]
   exact Wv.out ⟨_,_,he,eN _ _,hq⟩
  ·exact hq.elim
 |box t x=>
  simp only[CV]at hq;split at hq
  ·rename_i v hv
   have he:(Instr.box t v).run P w=.ok (.pointer (some (az w.heap))) (jK w (hnew w.heap v.cells.toList t)):=by
    simp[Instr.box,newVar,jQ]
   simp only[execOp,ev hv];exact Wv.out ⟨_,_,he,eN _ _,hq⟩
  ·exact hq.elim
 |build t ps=>
  simp only[CV]at hq;split at hq
  ·rename_i vs hvs
   split at hq
   ·rename_i cs hcs
    have hp:(ps.map fun x=>(x.1,a.eval x.2))=vs.toArray:=by
     rw[←nz ha hvs];apply dg;simp
    have he:=x7 (ps:=vs.toArray) (by simpa using hcs) w;simp only[execOp];rw[show(ps.map fun(i,x)=>(i,a.eval x))=vs.toArray from hp]
    exact Wv.out ⟨_,w,he,Tame.refl w,hq⟩
   ·exact hq.elim
  ·exact hq.elim
 |buildSlice t n ps=>
  simp only[CV]at hq;split at hq
  ·rename_i e vs ht hvs
   split at hq
   ·rename_i z hz
    cases hb:(vr (n*ce P e) 16777216&&bJ z.length (ce P e))with
    |false=>rw[hb]at hq;exact hq.elim
    |true=>
     rw[hb]at hq;simp only[bD]at hb;simp only[cond_true]at hq;split at hq
     ·rename_i cs hcs
      have hp:(ps.map fun x=>(x.1,a.eval x.2))=vs.toArray:=by
       rw[←nz ha hvs];apply dg;simp
      have he:=zg (ps:=vs.toArray) ht hz (iI hb.1) (aU hb.2) (by simpa using hcs) w;simp only[execOp];rw[show(ps.map fun(i,x)=>(i,a.eval x))=vs.toArray from hp]
      exact Wv.out ⟨_,_,he,eN _ _,hq⟩
     ·exact hq.elim
   ·exact hq.elim
  ·exact hq.elim
 |store t x y=>
  simp only[CV]at hq;split at hq
  ·rename_i b v hb hv
   simp only[execOp,ev hb,ev hv];exact Wu.out (EC hq)
  ·exact hq.elim
 |mapUpdate t m k x=>
  simp only[CV]at hq;split at hq
  ·rename_i mv kv xv hm hk hx
   simp only[execOp,ev hm,ev hk,ev hx];exact Wu.out (vI hq)
  ·exact hq.elim
 |insert t m k x=>
  simp only[CV]at hq;split at hq
  ·rename_i mv kv xv hm hk hx
   simp only[execOp,ev hm,ev hk,ev hx];exact Wu.out (vI hq)
  ·exact hq.elim
 |makeMap t n=>
  simp only[CV]at hq;cases n with
  |none=>exact Wv.out ⟨_,jK w (w.heap.push (.map #[] 0)),by simp[Instr.makeMap];rfl,eN _ _,hq⟩
  |some n=>
   simp only at hq;split at hq
   ·rename_i k i hn ht
    exact Wv.out ⟨_,jK w (w.heap.push (.map #[] 0)),by simp[Instr.makeMap,ev hn,ay ht,asInt,asIntOf];rfl,eN _ _,hq⟩
   ·exact hq.elim
 |makeSlice t l c=>
  simp only[CV]at hq;split at hq
  ·rename_i e k l' k' c' ht hl hc
   split at hq
   ·rename_i z hz
    cases hb:bJ z.length (ce P e)with
    |false=>rw[hb]at hq;exact hq.elim
    |true=>
     rw[hb]at hq;obtain⟨⟨h0,h1,h2,h3⟩,hq⟩:=hq;simp only[execOp,ev hl,ev hc];exact Wv.out ⟨_,_,C5 ht hz (aU hb) h0 h1 h2 h3,eN _ _,hq⟩
   ·exact hq.elim
  ·exact hq.elim
 |convert s d x=>
  simp only[CV]at hq;split at hq
  ·rename_i e v hs hd hx
   cases hu:IW P e with
   |false=>rw[hu]at hq;exact hq.elim
   |true=>
    rw[hu]at hq;obtain⟨c,hc,hrun⟩:=L3 (w:=w) (s:=v) hs hd (BT hu);simp only[execOp,ev hx];exact Wv.out ⟨_,_,hrun,⟨rfl,rfl,rfl⟩,hq c hc⟩
  ·exact hq.elim
 |range t x=>
  simp only[CV]at hq;split at hq
  ·rename_i k e m hu hx
   obtain⟨clock,hm,hq⟩:=hq;simp only[execOp,ev hx];exact Wv.out ⟨_,_,LB hu hm,eN _ _,hq⟩
  ·exact hq.elim
 |next it isS=>
  cases isS with
  |true=>simp only[CV]at hq
  |false=>
   simp only[CV]at hq;split at hq
   ·rename_i v hv
    simp only[execOp,ev hv];exact Wv.out (F5 hq)
   ·exact hq.elim
 |call c=>
  simp only[CV]at hq;have eb:∀{b:Builtin} {vs:List Value},c.callee=.builtin b→pw r c.args.toList=some vs→∃cs:Array Bool,∀w,(execOp a.eval ⟨dst,.call c,type,ua,after,guard⟩).run P w=
    (builtin b c.argTypes type cs vs.toArray).run P w:=by
   intro b vs hc hvs;refine⟨c.args.map fun| .const _=>true|_=>false,fun w=>?_⟩
   simp[execOp,resolve,hc,ha.args hvs,invoke];rfl
  have wo:∀{s s':Sem Next},(∀w,s.run P w=s'.run P w)→Hi P s' K w→Hi P s K w:=by
   intro s s' he h;unfold Hi at h⊢;simp only[he];exact h
  split at hq
  ·rename_i s x hc hvs
   split at hq
   ·rename_i t u hat
    obtain⟨cs,er⟩:=eb hc hvs;refine wo er ?_;have hat':c.argTypes= #[t,u]:=by apply dg;rw[hat]
    simp only[builtin,hat'];split at hq
    ·rename_i e' hu;exact Wv.out (vJ (.inl ⟨e',hu⟩) hq)
    ·rename_i hu;exact Wv.out (vJ (.inr hu) hq)
    ·rename_i k0 hu;exact Wv.out (A7 hu hq)
    ·exact hq.elim
   ·exact hq.elim
  ·rename_i x hc hvs
   split at hq
   ·rename_i t hat
    obtain⟨cs,er⟩:=eb hc hvs;refine wo er ?_;have hat':c.argTypes= #[t]:=by apply dg;rw[hat]
    simp only[builtin,hat'];exact Wv.out (ED hq)
   ·exact hq.elim
  ·rename_i s x hc hvs
   split at hq
   ·rename_i t u hat
    obtain⟨cs,er⟩:=eb hc hvs;refine wo er ?_;have hat':c.argTypes= #[t,u]:=by apply dg;rw[hat]
    simp only[builtin,hat'];exact Wv.out (F6 hq)
   ·exact hq.elim
  ·rename_i m k hc hvs
   split at hq
   ·rename_i t u hat
    obtain⟨cs,er⟩:=eb hc hvs;refine wo er ?_;simp only[builtin];exact Wv.out (A5 (by rw[←bM,hat];rfl) hq)
   ·exact hq.elim
  ·rename_i f args hc hvs
   unfold Pw at hq;split at hq
   ·exact hq.elim
   ·rename_i ks hks
    split at hq
    ·rename_i f
     refine wo (s':=callFunc f args.toArray) (fun w=>?_) hq.out
     simp[execOp,resolve,hc,ha.args hvs,Act.eval,Deferred.ofValue,invoke]
    ·rename_i f hf
     split at hq
     ·rename_i fv hfv
      rcases hq.run with⟨g,first,cap,rfl,hh⟩|⟨l,rfl,hh⟩
      rotate_left
      ·obtain⟨fn,tmps,assign,body,h1,h2⟩:=hh.run w rfl
       refine .inr (.inr (.inr ⟨l,fn,tmps,assign,body,?_,fun c cs=>?_⟩))
       ·rw[←h1]
        simp[execOp,resolve,hc,ha.args hvs,ev hfv,Deferred.ofValue,invoke]
       ·obtain⟨b,w',ht,hk,hs⟩:=h2 c cs
        refine⟨b,w',ht,?_,hs⟩;obtain⟨t,e,hk⟩:=qk hk;have hl:ks.length=1:=by rw[←qW ks t,←e];rfl
        match ks,hl,t,e,hk with
        | [k],_,t,e,hk=>rw[←e]at hk;exact hk
      refine wo (s':=callFunc g (first.toList++args++cap.toList).toArray) (fun w=>?_) hh.out
      have e:first++args.toArray++cap=(first.toList++args++cap.toList).toArray:=by apply dg;simp
      rw[←e];simp[execOp,resolve,hc,ha.args hvs,ev hfv,Deferred.ofValue,invoke]
     ·exact hq.elim
  ·exact hq.elim
 |_=>simp only[CV]at hq
end Go.Lift
