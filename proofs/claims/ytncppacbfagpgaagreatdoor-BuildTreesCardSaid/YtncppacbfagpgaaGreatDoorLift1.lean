/- A part of the proof that the named laws of this program answer true, whatever the input. -/
import Derived.Test.YtncppacbfagpgaaGreatDoorLift0
import Derived.Laws.Append
import Derived.Laws.Cover3
import Derived.Laws.StructEq
import Derived.Laws.BytesString
import Derived.Lib.ConvBytes
open Array renaming ext'→cX,getElem?_toList→bI,mem_of_getElem?→np,mem_filter→nM
open Bool renaming and_eq_true→aY,false_eq_true→cS
open ByteArray renaming data_extract→jE
open List renaming extract_eq_take_drop→eI,map_cons→di,foldl_cons→ik,map_map→sd,take_of_length_le→bj,length_cons→ap,cons_append→cR,replicate→dJ,length_eq_zero_iff→aq,getElem?_eq_getElem→ae
open Nat renaming beq→bE,add_assoc→jP,ble→ul,eq_of_beq_eq_true→aP,le_of_ble_eq_true→g9,add_zero→cQ,zero_add→aR,le_add_right→nK,min→fl
open Option renaming some→bF,isSome_iff_exists→fT,map_some→fA
open Prod renaming mk→po
open UInt8 renaming ofNat→fe
namespace Go.Lift
open Go
def Nh(S:Option (ad→Prop))(h:ad):Prop:=match S with|none=>True|some f=>f h
def Yv(P:Program)(s:Sem Value)(K:RK)(h:ad):Prop:=∃v S,K v S∧Nh S h∧∀w:World,Nh S w.heap→s.run P w=.ok v w
theorem Yv.of_pure{P:Program}{s:Sem Value}{K:RK}{h:ad}{v:Value}(hk:K v none)(hr:∀w:World,s.run P w=.ok v w):Yv P s K h:=
 ⟨v,none,hk,trivial,fun w _=>hr w⟩
variable {P:Program}
theorem tl{t:TypeId}{f:Nat}{u:TypeId}{off:Nat}(h:tm P t f=some (u,off)):
  ∃fs g,P.underlying t=some (.struct fs)∧fs[f]? =some g∧g.type=u∧g.offset=off:=by
 unfold tm at h;split at h
 ·rename_i fs hu
  split at h
  ·rename_i g hg
   simp only[bF.injEq,po.injEq]at h;exact⟨fs,g,hu,by simpa using hg,h.1,h.2⟩
  ·cases h
 ·cases h
theorem vm{t:TypeId}(h:bE (bT P t) 0=false)(w:World):(sizeOf t).run P w=.ok (bT P t) w:=by
 unfold bT at h⊢;cases hi:P.info? t with
 |none=>rw[hi]at h;cases h
 |some i=>simp[sizeOf,cM hi]
theorem zv{t:TypeId}{f:Nat}{u:TypeId}{off:Nat}{a:Addr}{K:RK}{h:ad}(hf:tm P t f=some (u,off))
  (hk:bif bE (bT P u) 0 then False else K (.pointer (some (adr a off))) none):Yv P (Instr.fieldAt t (.pointer (some a)) f) K h:=by
 obtain⟨fs,g,hu,hg,rfl,rfl⟩:=tl hf;cases hz:bE (bT P g.type) 0 with
 |true=>rw[hz]at hk;exact hk.elim
 |false=>
  rw[hz]at hk;refine .of_pure hk fun w=>?_
  have hne:bT P g.type≠0:=fun e=>by rw[e]at hz;cases hz
  simp only[Instr.fieldAt,Sem.run_bind,ay hu,Result.andThen_ok,hg,Instr.sureAddr,Sem.run_pure,fieldPlace,vm hz];simp[hne,qR]
theorem rW{t:TypeId}{i:TypeInfo}(_:P.info? t=some i)(hu:∃d,P.underlying t=some d)(w:World):(isAgg t).run P w=.ok (rX P t) w:=by
 obtain⟨d,hd⟩:=hu;simp only[isAgg,Sem.run_bind,ay hd,Result.andThen_ok];unfold rX;rw[hd];cases d<;>rfl
theorem wu{op:BinOp}{k k':IntKind}{a b:Int}{K:RK}{h:ad}(hs:op=.shl∨op=.shr)(hv:G6 op k a b K):Yv P (Op.shift op k a k' b) K h:=by
 rcases hs with rfl|rfl
 ·obtain⟨h0,hk⟩:=hv
  refine .of_pure hk fun w=>?_
  simp[Op.shift,Int.not_lt.2 h0]
 ·obtain⟨h0,hk⟩:=hv
  refine .of_pure hk fun w=>?_
  simp[Op.shift,Int.not_lt.2 h0]
theorem HT{op:BinOp}{k:IntKind}{a b:Int}{K:RK}{h:ad}(hv:Pf op k a b K)(hs:op≠ .shl∧op≠ .shr):Yv P (binOp op 0 (.int k a) (.int k b)) K h:=by
 cases op<;>simp only[Pf]at hv
 case quo=>obtain⟨h0,hk⟩:=hv;exact .of_pure hk fun w=>by simp[binOp,Op.intDiv,h0]
 case rem=>obtain⟨h0,hk⟩:=hv;exact .of_pure hk fun w=>by simp[binOp,Op.intDiv,h0]
 all_goals exact .of_pure hv fun w=>by simp[binOp,Op.intArith,Op.intBits,Op.intCmp]
theorem Bl(op:BinOp)(t:TypeId)(k k':IntKind)(a b:Int):binOp op t (.int k a) (.int k' b)=binOp op 0 (.int k a) (.int k' b):=by
 cases op<;>rfl
theorem GZ{op:BinOp}{t:TypeId}{a b:ByteArray}{K:RK}{h:ad}(hv:OY op a b K):Yv P (binOp op t (.string a) (.string b)) K h:=by
 cases op<;>simp only[OY]at hv
 case add=>
  obtain⟨h0,hk⟩:=hv;refine .of_pure hk fun w=>?_
  have:¬(((a.size+b.size:Nat):Int)>IntKind.i64.max):=by
   have:IntKind.i64.max=9223372036854775807:=by decide
   omega
  simp only[binOp,Op.stringOp,if_neg this,Sem.run_pure]
 all_goals exact .of_pure hv fun w=>by simp[binOp,Op.stringOp]
theorem oq{t:TypeId}{x y:Value}{b:Bool}{w:World}(h:∀d,(Op.equalIn (d+1) t x y).run P w=.ok b w):(Op.equal t x y).run P w=.ok b w:=h 9999
theorem A7{t:TypeId}{e:TypeId}(hu:P.underlying t=some (.pointer e))(a:Option Addr)(w:World):(Op.equal t (.pointer a) (.pointer none)).run P w=.ok a.isNone w:=by
 refine oq fun d=>?_
 simp only[Op.equalIn,Sem.run_bind,ay hu,Result.andThen_ok];cases a<;>rfl
theorem H3(op:BinOp)(t:TypeId)(x y:Operand)(a b:Value)(h:∀c d,a=.agg c→b=.agg d→False)(hi:a=.nilIface→b=.nilIface→False)(w:World):
  (eqGuard op t x y a b).run P w=.ok () w:=by
 cases op;case eql=>cases a<;>cases b<;>first|rfl|exact(hi rfl rfl).elim|exact(h _ _ rfl rfl).elim
 case neq=>cases a<;>cases b<;>first|rfl|exact(hi rfl rfl).elim|exact(h _ _ rfl rfl).elim
 all_goals rfl
theorem KU(t:TypeId)(x y:Value)(hx:∀k a,x≠ .int k a)(hs:∀s,x≠ .string s)(hf:∀k a,x≠ .float k a)(hc:∀k a b,x≠ .complex k a b):binOp .eql t x y=(do pure (.bool (←Op.equal t x y))):=by
 cases x<;>first|rfl|exact absurd rfl (hx _ _)|exact absurd rfl (hs _)|exact absurd rfl (hf _ _)|exact absurd rfl (hc _ _ _)
theorem KT(t:TypeId)(x y:Value)(hx:∀k a,x≠ .int k a)(hs:∀s,x≠ .string s)(hf:∀k a,x≠ .float k a)(hc:∀k a b,x≠ .complex k a b):binOp .neq t x y=(do pure (.bool (!(←Op.equal t x y)))):=by
 cases x<;>first|rfl|exact absurd rfl (hx _ _)|exact absurd rfl (hs _)|exact absurd rfl (hf _ _)|exact absurd rfl (hc _ _ _)
theorem ot{t:TypeId}{neg:Bool}{x y:Value}{b:Bool}{w:World}(he:(Op.equal t x y).run P w=.ok b w)
  (hx:∀k a,x≠ .int k a)(hs:∀s,x≠ .string s)(hf:∀k a,x≠ .float k a)(hc:∀k a b,x≠ .complex k a b):
  (binOp (bif neg then .neq else .eql) t x y).run P w=.ok (.bool (bif neg then !b else b)) w:=by
 cases neg
 ·simp only[cond_false,KU t x y hx hs hf hc,Sem.run_bind,he,Result.andThen_ok,Sem.run_pure]
 ·simp only[cond_true,KT t x y hx hs hf hc,Sem.run_bind,he,Result.andThen_ok,Sem.run_pure]
theorem AN{t:TypeId}{neg:Bool}{x y:Value}{K:RK}{h:ad}(hv:NV P t neg x y K):
  (∀c d,x=.agg c→y=.agg d→False)∧(x=.nilIface→y=.nilIface→False)∧Yv P (binOp (bif neg then .neq else .eql) t x y) K h:=by
 unfold NV at hv;split at hv
 ·rename_i e a hu
  refine⟨nofun,nofun,.of_pure hv fun w=>?_⟩
  exact ot (A7 hu a w) nofun nofun nofun nofun
 ·rename_i k e a hu
  refine⟨nofun,nofun,.of_pure hv fun w=>?_⟩
  refine ot ?_ nofun nofun nofun nofun;refine oq fun d=>?_
  simp only[Op.equalIn,Sem.run_bind,ay hu,Result.andThen_ok];cases a<;>rfl
 ·rename_i e a _ _ _ _ hu
  refine⟨nofun,nofun,.of_pure hv fun w=>?_⟩
  refine ot ?_ nofun nofun nofun nofun;refine oq fun d=>?_
  simp only[Op.equalIn,Sem.run_bind,ay hu,Result.andThen_ok];cases a<;>rfl
 ·exact hv.elim
theorem sN{w:World}{a b:Addr}(ha:gX w.heap a)(hb:gX w.heap b):(sameAddr a b).run P w=.ok (a==b) w:=by
 obtain⟨ca,ea,ha,sa⟩:=ha;obtain⟨cb,eb,hb,sb⟩:=hb;by_cases hbl:a.block=b.block
 ·simp[sameAddr,hbl]
 ·have hne:(a==b)=false:=by
   rw[beq_eq_false_iff_ne];intro e;exact hbl (by rw[e])
  have s1:w.shape? a.block=some (ea,ca.size):=by simp[World.shape?,ha]
  have s2:w.shape? b.block=some (eb,cb.size):=by simp[World.shape?,hb]
  have f1:∀n,w.frozen? ({block:=a.block,off:=n}:Addr)=false:=fun n=>by simp[World.frozen?,ha]
  have f2:∀n,w.frozen? ({block:=b.block,off:=n}:Addr)=false:=fun n=>by simp[World.frozen?,hb]
  have g1:w.frozen? a=false:=by simp[World.frozen?,ha]
  have g2:w.frozen? b=false:=by simp[World.frozen?,hb]
  obtain⟨m,hm⟩:∃m,ca.size=m+1:=⟨ca.size-1,by omega⟩
  obtain⟨n,hn⟩:∃n,cb.size=n+1:=⟨cb.size-1,by omega⟩
  simp[sameAddr,hbl,noView,viewAt,mayBeOne,stringish,s1,s2,f1,f2,g1,g2,hm,hn,hne]
theorem DE{t:TypeId}{neg:Bool}{x y:Value}{K:RK}{h:ad}(hv:Qi P t neg x y K h):
  (∀c d,x=.agg c→y=.agg d→False)∧(x=.nilIface→y=.nilIface→False)∧Yv P (binOp (bif neg then .neq else .eql) t x y) K h:=by
 unfold Qi at hv;split at hv
 ·rename_i a b hu
  refine⟨nofun,nofun,.of_pure hv fun w=>?_⟩
  refine ot ?_ nofun nofun nofun nofun;refine oq fun d=>?_
  simp only[Op.equalIn,Sem.run_bind,ay hu,Result.andThen_ok,Sem.run_pure]
 ·rename_i e a b hu
  obtain⟨hz,hp,hk⟩:=hv;refine⟨nofun,nofun,_,_,hk,hp,fun w hw=>?_⟩
  refine ot ?_ nofun nofun nofun nofun;have hz':bE (bT P e) 0=false:=by
   cases hb:bE (bT P e) 0 with
   |false=>rfl
   |true=>rw[hb]at hz;exact hz.elim
  have hne:bT P e≠0:=fun e=>by rw[e]at hz';cases hz'
  refine oq fun d=>?_
  simp only[Op.equalIn,Sem.run_bind,ay hu,Result.andThen_ok];cases a with
  |none=>cases b<;>rfl
  |some a=>cases b with
   |none=>rfl
   |some b=>
    obtain⟨h1,h2⟩:=hw a b rfl rfl;simp only[Sem.run_bind,vm hz',Result.andThen_ok,ne_eq,hne,not_false_eq_true,if_true,sN h1 h2];rfl
 ·exact hv.elim
theorem Hq{op:BinOp}{t:TypeId}{x y:Value}{K:RK}{h:ad}(hv:O3 P op t x y K h):
  (∀c d,x=.agg c→y=.agg d→False)∧(x=.nilIface→y=.nilIface→False)∧Yv P (binOp op t x y) K h:=by
 unfold O3 at hv;split at hv
 ·rename_i k a k' b
  refine⟨nofun,nofun,?_⟩;rw[Bl];split at hv
  ·exact wu (k':=k') (.inl rfl) hv
  ·exact wu (k':=k') (.inr rfl) hv
  ·rename_i h1 h2
   cases hk:Em k' k with
   |false=>rw[hk]at hv;exact hv.elim
   |true=>rw[hk]at hv;have:=wN hk;subst this;exact HT hv ⟨h1,h2⟩
 ·exact⟨nofun,nofun,GZ hv⟩
 ·split at hv
  ·exact DE (neg:=false) hv
  ·exact DE (neg:=true) hv
  ·exact hv.elim
theorem FF{u:TypeId}{cs:List Value}{off:Nat}(hu:((P.underlying u).isSome&&(P.info? u).isSome)=true){w:World}(ha:rX P u=true):
  (part u cs.toArray off).run P w=.ok (.agg ((cs.drop off).take (bT P u)).toArray) w:=by
 simp only[aY,fT]at hu;obtain⟨hu,i,hi⟩:=hu;have hs:(sizeOf u).run P w=.ok (bT P u) w:=by simp[sizeOf,cM hi,bT,hi]
 simp only[part,Sem.run_bind,rW hi hu,Result.andThen_ok,ha,if_true,hs,Sem.run_pure];congr 2
 apply cX;simp[eI]
theorem De{u:TypeId}{cs:List Value}{off:Nat}(hu:((P.underlying u).isSome&&(P.info? u).isSome)=true){w:World}(ha:rX P u=false){v:Value}(hc:cs[off]? =some v):
  (part u cs.toArray off).run P w=.ok v w:=by
 simp only[aY,fT]at hu;obtain⟨hu,i,hi⟩:=hu;have hc':cs.toArray[off]? =some v:=by simpa using hc
 simp only[part,Sem.run_bind,rW hi hu,Result.andThen_ok,ha,cS,if_false,hc',Sem.run_pure]
theorem vu{h:ad}:∀{l m:List (Option Addr×Option Addr)},px h (l++m)→px h l∧px h m
 | [],_,h=>⟨trivial,h⟩
 |(_,_)::_,_,h=>⟨⟨h.1,(vu h.2).1⟩,(vu h.2).2⟩
theorem F7{t:TypeId}{x y:Value}{b:Bool}{l:List (Option Addr×Option Addr)}(he:MA P t x y=some (b,l)){w:World}(hp:px w.heap l)(d:Nat):
  (Op.equalIn (d+1) t x y).run P w=.ok b w:=by
 unfold MA at he;split at he
 ·rename_i k0 k a k' c hu
  cases hk:Em k' k with
  |false=>rw[hk]at he;cases he
  |true=>
   rw[hk]at he;have:=wN hk;subst this;cases he;exact run_equalIn_int w d t _ _ _ _ hu
 ·rename_i a c hu
  cases he;exact run_equalIn_bool w d t _ _ hu
 ·rename_i a c hu
  cases he;exact run_equalIn_string w d t _ _ hu
 ·rename_i e a c hu
  cases hz:bE (bT P e) 0 with
  |true=>rw[hz]at he;cases he
  |false=>
   rw[hz]at he;cases he;have hne:bT P e≠0:=fun e=>by rw[e]at hz;cases hz
   simp only[Op.equalIn,Sem.run_bind,ay hu,Result.andThen_ok];cases a with
   |none=>cases c<;>rfl
   |some a=>cases c with
    |none=>rfl
    |some c=>
     obtain⟨h1,h2⟩:=hp.1 a c rfl rfl;simp only[Sem.run_bind,vm hz,Result.andThen_ok,ne_eq,hne,not_false_eq_true,if_true,sN h1 h2];rfl
 ·cases he
theorem A8{rec:TypeId→List Value→List Value→Option (Bool×List (Option Addr×Option Addr))}{d:Nat}{xs ys:List Value}{w:World}
  (hr:∀t us vs b l,rec t us vs=some (b,l)→px w.heap l→(Op.equalIn (d+1) t (.agg us.toArray) (.agg vs.toArray)).run P w=.ok b w):
  ∀(fs:List Field) (b:Bool) (l:List (Option Addr×Option Addr)),Oc P rec xs ys fs=some (b,l)→px w.heap l→(Op.eqFields (d+1) xs.toArray ys.toArray fs).run P w=.ok b w
 | [],b,l,he,_=>by cases he;rfl
 |f::fs,b,l,he,hp=>by
  unfold Oc at he;split at he
  ·cases he
  ·rename_i hn
   cases hi:((P.underlying f.type).isSome&&(P.info? f.type).isSome)with
   |false=>rw[hi]at he;cases he
   |true=>
    rw[hi]at he;simp only[cond_true]at he;split at he
    ·rename_i b1 l1 c m e1 e2
     cases he;obtain⟨p1,p2⟩:=vu hp;have rest:=A8 hr fs c m e2 p2;have h1:∃u v,(part f.type xs.toArray f.offset).run P w=.ok u w∧(part f.type ys.toArray f.offset).run P w=.ok v w∧(Op.equalIn (d+1) f.type u v).run P w=.ok b1 w:=by
      cases ha:rX P f.type with
      |true=>
       rw[ha]at e1;exact⟨_,_,FF hi ha,FF hi ha,hr _ _ _ _ _ e1 p1⟩
      |false=>
       rw[ha]at e1;simp only[cond_false]at e1;split at e1
       ·rename_i x y hx hy
        exact⟨x,y,De hi ha hx,De hi ha hy,F7 e1 p1 d⟩
       ·cases e1
     obtain⟨u,v,r1,r2,r3⟩:=h1;simp only[Op.eqFields,ne_eq,hn,not_false_eq_true,if_true,Sem.run_bind,r1,r2,r3,Result.andThen_ok];cases b1
     ·rfl
     ·exact rest
    ·cases he
theorem vM{w:World}:∀(m:Nat) (t:TypeId) (xs ys:List Value) (b:Bool) (l:List (Option Addr×Option Addr)),MB P m t xs ys=some (b,l)→px w.heap l→
  ∀d,(Op.equalIn (d+m+1) t (.agg xs.toArray) (.agg ys.toArray)).run P w=.ok b w
 |0,_,_,_,_,_,he,_,_=>by cases he
 |m+1,t,xs,ys,b,l,he,hp,d=>by
  unfold MB at he;split at he
  ·rename_i fs hu
   cases hs:P.stoodInHeld t with
   |true=>rw[hs]at he;cases he
   |false=>
    rw[hs]at he;have hf:P.fieldsOf t=fs:=by simp[Program.fieldsOf,hu]
    rw[run_equalIn_struct w _ t _ _ (by rw[hf];exact hu) hs,hf];exact A8 (d:=d+m) (fun t us vs b l h1 h2=>vM m t us vs b l h1 h2 d) fs.toList b l he hp
  ·cases he
theorem DF{neg b:Bool}{K:RK}{h:ad}{l:List (Option Addr×Option Addr)}(hk:Qx neg b K h l):∃S,K (.bool (bif neg then !b else b)) S∧Nh S h∧∀h',Nh S h'→px h' l:=by
 cases l with
 |nil=>exact⟨none,hk,trivial,fun _ _=>trivial⟩
 |cons p l=>exact⟨_,hk.2,hk.1,fun _ h=>h⟩
theorem Hr{op:BinOp}{t:TypeId}{xs ys:Array Value}{x y:Operand}{K:RK}{h:ad}(hq:O5 P op t xs.toList ys.toList K h):
  ∃v S,K v S∧Nh S h∧∀w:World,Nh S w.heap→(do eqGuard op t x y (.agg xs) (.agg ys);binOp op t (.agg xs) (.agg ys):Sem Value).run P w=.ok v w:=by
 unfold O5 at hq;cases hg:P.eqGuardType P.depth t with
 |true=>rw[hg]at hq;exact hq.elim
 |false=>
  rw[hg]at hq;simp only[cond_false]at hq;split at hq
  ·split at hq
   ·rename_i b l he
    obtain⟨S,h1,h2,h3⟩:=DF hq;refine⟨_,S,h1,h2,fun w hw=>?_⟩
    have:=vM 10 t _ _ b l he (h3 _ hw) 9989;simp only[Array.toArray_toList]at this;simp only[Sem.run_bind,run_eqGuard_agg w _ t x y _ _ hg,Result.andThen_ok,run_eql_struct,this];rfl
   ·exact hq.elim
  ·split at hq
   ·rename_i b l he
    obtain⟨S,h1,h2,h3⟩:=DF hq;refine⟨_,S,h1,h2,fun w hw=>?_⟩
    have:=vM 10 t _ _ b l he (h3 _ hw) 9989;simp only[Array.toArray_toList]at this;simp only[Sem.run_bind,run_eqGuard_agg w _ t x y _ _ hg,Result.andThen_ok,run_neq_struct,this];rfl
   ·exact hq.elim
  ·exact hq.elim
theorem Kh{op:UnOp}{x:Value}{K:RK}{h:ad}(hv:Qq op x K):Yv P (Op.unary op x) K h:=by
 unfold Qq at hv;split at hv
 ·exact .of_pure hv fun w=>rfl
 ·exact .of_pure hv fun w=>rfl
 ·exact .of_pure hv fun w=>rfl
 ·exact hv.elim
theorem Bg:∀(l:List UInt8) (s:ByteArray),(l.map fun b=>((b.toNat:Nat):Int)).foldl (fun r n=>r.push (fe n.toNat)) s=⟨s.data++l.toArray⟩
 | [],s=>by simp
 |b::l,s=>by
  simp only[di,ik];rw[Bg l];congr 1
  have:fe ((b.toNat:Nat):Int).toNat=b:=by simp
  rw[this];apply cX;simp[ByteArray.push]
theorem AX{e:TypeId}(h:HR P e=true):P.underlying e=some (.int .u8):=by
 unfold HR at h;split at h
 ·assumption
 ·cases h
theorem Fp{w:World}{a:Addr}{vs:List Value}(hr:Row w.heap a vs):(loadCells a vs.length).run P w=.ok vs.toArray w:=by
 have:=run_firstCells_some (P:=P) w 1 vs.length a 0 0 vs (by simp) fun j v hv=>by rw[←qR];exact hr j v hv
 simpa[Builtin.firstCells]using this
theorem Fx{src dst:TypeId}{x:Value}{K:RK}{h:ad}(hv:L3 P src dst x K h):Yv P (convert src dst x) K h:=by
 unfold L3 at hv;split at hv
 ·rename_i k k' k'' n h1 h2
  exact .of_pure hv fun w=>by simp only[convert,Sem.run_bind,ay h1,ay h2,Result.andThen_ok];rfl
 ·rename_i s h1 h2
  exact .of_pure hv fun w=>by simp only[convert,Sem.run_bind,ay h1,ay h2,Result.andThen_ok];rfl
 ·rename_i e a n c h1 h2
  cases hu:HR P e with
  |false=>rw[hu]at hv;exact hv.elim
  |true=>
   rw[hu]at hv;obtain⟨s,hs,hk⟩:=hv;refine⟨_,_,hk,hs,fun w hw=>?_⟩
   rw[run_convert_bytes_string w src dst e a n c h1 (AX hu) h2];obtain⟨hl,hw⟩:=hw;rcases hw with h0|⟨b,rfl,hr⟩
   ·have hs0:s=ByteArray.empty:=by
     have:s.data.toList= []:=by simpa[dd]using h0
     cases s with
     |mk d=>simp at this;subst this;rfl
    cases a with
    |none=>rw[hs0];rfl
    |some b=>
     have hn:n=0:=by rw[←hl,h0];rfl
     subst hn;have:=Fp (P:=P) (w:=w) (a:=b) (vs:= []) fun i v hv=>by simp at hv
     rw[run_bytesToString w b 0 c [] (by simpa using this),hs0];rfl
   ·have:=Fp (P:=P) hr
    rw[hl]at this;rw[run_bytesToString w b n c (s.data.toList.map fun b=>((b.toNat:Nat):Int)) (by rw[this,sd];rfl),Bg]
    cases s;simp[ByteArray.empty,ByteArray.emptyWithCapacity];try rfl
 ·exact hv.elim
theorem Hz{u:TypeId}{cs:Array Value}{off:Nat}{K:RK}{h:ad}(hu:∃d,P.underlying u=some d)(hi:∃i,P.info? u=some i)
  (hv:bif rX P u then K (.agg ((cs.toList.drop off).take (bT P u)).toArray) none else(match cs.toList[off]? with|some v=>K v none|none=>False)):Yv P (part u cs off) K h:=by
 obtain⟨i,hi⟩:=hi;cases ha:rX P u with
 |true=>
  rw[ha]at hv;refine .of_pure hv fun w=>?_
  have hs:(sizeOf u).run P w=.ok (bT P u) w:=by simp[sizeOf,cM hi,bT,hi]
  simp only[part,Sem.run_bind,rW hi hu,Result.andThen_ok,ha,if_true,hs,Sem.run_pure];congr 2
  apply cX;simp[eI]
 |false=>
  rw[ha]at hv;simp only[cond_false]at hv;cases hc:cs.toList[off]? with
  |none=>rw[hc]at hv;exact hv.elim
  |some v=>
   rw[hc]at hv;refine .of_pure hv fun w=>?_
   have hc':cs[off]? =some v:=by simpa using hc
   simp only[part,Sem.run_bind,rW hi hu,Result.andThen_ok,ha,cS,if_false,hc',Sem.run_pure]
def sH(P:Program)(v:Option Value)(d y n:Nat):Prop:=
 match v with
 |some x=>∀c w,(Instr.sliceBound x y c).run P w=.ok n w
 |none=>n=d
theorem kZ{v:Option Value}{d y:Nat}{K:Nat→Prop}(hv:MM v d y K):∃n,K n∧sH P v d y n:=by
 unfold MM at hv;split at hv
 ·exact⟨d,hv,rfl⟩
 ·rename_i k i
  obtain⟨⟨h0,h1⟩,hk⟩:=hv;refine⟨i.toNat,hk,fun c w=>?_⟩
  simp[Instr.sliceBound,asIntOf,h0,h1]
 ·exact hv.elim
theorem nq{isS:Bool}{len cap n l:Nat}{lo hi:Option Value}(hn:sH P hi len cap n)(hl:sH P lo 0 n l)(w:World):
  (Instr.sliceBounds isS len cap lo hi none).run P w=.ok (l,n,cap) w:=by
 cases hi with
 |none=>
  cases lo with
  |none=>simp only[sH]at hn hl;subst hn;subst hl;simp[Instr.sliceBounds]
  |some lo=>simp only[sH]at hn hl;subst hn;simp[Instr.sliceBounds,hl]
 |some hi=>
  cases lo with
  |none=>simp only[sH]at hn hl;subst hl;simp[Instr.sliceBounds,hn]
  |some lo=>simp only[sH]at hn hl;simp[Instr.sliceBounds,hn,hl]
theorem xX{isS:Bool}{len cap n l m:Nat}{lo:Option Value}{hi mx:Value}(hm:sH P (some mx) 0 cap m)(hn:sH P (some hi) 0 m n)(hl:sH P lo 0 n l)(w:World):
  (Instr.sliceBounds isS len cap lo (some hi) (some mx)).run P w=.ok (l,n,m) w:=by
 cases lo with
 |none=>simp only[sH]at hm hn hl;subst hl;simp[Instr.sliceBounds,hm,hn]
 |some lo=>simp only[sH]at hm hn hl;simp[Instr.sliceBounds,hm,hn,hl]
theorem vi(a:Option Addr)(l m size:Nat):(if m=l then a else a.map (·.add (l*size)))=aZ a l m size:=by
 unfold aZ;split
 ·rfl
 ·congr 1;funext x;rw[qR]
theorem nu{t:TypeId}{K:Prop}(h:Me P t K):K∧∀w,(sizeOf t).run P w=.ok (bT P t) w:=by
 unfold Me at h;cases hi:P.info? t with
 |none=>rw[hi]at h;exact h.elim
 |some i=>rw[hi]at h;exact⟨h,fun w=>by simp[sizeOf,cM hi,bT,hi]⟩
theorem Ee{t:TypeId}{x:Value}{f:Nat}{K:RK}{h:ad}(hv:Hn P t x f K):Yv P (Instr.field t x f) K h:=by
 unfold Hn at hv;split at hv
 ·rename_i u off cs hf
  obtain⟨fs,g,hu,hg,rfl,rfl⟩:=tl hf;cases hb:((P.underlying g.type).isSome&&(P.info? g.type).isSome)with
  |false=>rw[hb]at hv;exact hv.elim
  |true=>
   rw[hb]at hv;simp only[aY,fT]at hb;obtain⟨v,S,hk,hS,hr⟩:=Hz (cs:=cs) (off:=g.offset) (h:=h) hb.1 hb.2 hv;refine⟨v,S,hk,hS,fun w hw=>?_⟩
   have:=hr w hw;simp only[Instr.field,Sem.run_bind,ay hu,Result.andThen_ok,hg,asAgg,Sem.run_pure,this]
 ·exact hv.elim
theorem x9{t:TypeId}{x i:Value}{K:RK}{h:ad}(hv:vt P t x i K):Yv P (Instr.indexAt t x i) K h:=by
 unfold vt at hv;split at hv
 ·rename_i n e a k i hu
  obtain⟨⟨⟨h0,h1⟩,hk⟩,hz⟩:=nu hv;refine .of_pure hk fun w=>?_
  simp[Instr.indexAt,asIntOf,ay hu,Instr.sureAddr,h0,h1,hz,qR]
 ·rename_i e b len cap k i hu
  obtain⟨⟨⟨h0,h1⟩,a,rfl,hk⟩,hz⟩:=nu hv;refine .of_pure hk fun w=>?_
  simp[Instr.indexAt,asIntOf,ay hu,h0,h1,hz,qR]
 ·exact hv.elim
theorem Ed{t:TypeId}{x i:Value}{K:RK}{h:ad}(hv:Hm P t x i K):Yv P (Instr.index t x i) K h:=by
 unfold Hm at hv;split at hv
 ·rename_i s k i hu
  obtain⟨b,h0,hb,hk⟩:=hv;refine .of_pure hk fun w=>?_
  simp[Instr.index,asIntOf,ay hu,h0,hb]
 ·exact hv.elim
theorem Eb{t:TypeId}{x:Value}{lo hi mx:Option Value}{K:RK}{h:ad}(hv:Hj P t x lo hi mx K):Yv P (Instr.sliceAt t x lo hi mx) K h:=by
 unfold Hj at hv;split at hv
 ·rename_i s hu
  cases mx with
  |some _=>exact hv.elim
  |none=>
   obtain⟨n,hv,hn⟩:=kZ (P:=P) hv;obtain⟨l,hv,hl⟩:=kZ (P:=P) hv;refine .of_pure hv fun w=>?_
   simp[Instr.sliceAt,Instr.slice,ay hu,nq hn hl]
 ·rename_i e a len cap hu
  obtain⟨hv,hz⟩:=nu hv;cases mx with
  |none=>
   obtain⟨n,hv,hn⟩:=kZ (P:=P) hv;obtain⟨l,hv,hl⟩:=kZ (P:=P) hv;refine .of_pure hv fun w=>?_
   simp[Instr.sliceAt,Instr.slice,ay hu,nq hn hl,hz,vi]
  |some m=>
   cases hi with
   |none=>exact hv.elim
   |some hi=>
    obtain⟨m',hv,hm⟩:=kZ (P:=P) hv;obtain⟨n,hv,hn⟩:=kZ (P:=P) hv;obtain⟨l,hv,hl⟩:=kZ (P:=P) hv;refine .of_pure hv fun w=>?_
    simp[Instr.sliceAt,Instr.slice,ay hu,xX hm hn hl,hz,vi]
 ·rename_i n e a hu
  obtain⟨hv,hz⟩:=nu hv;cases mx with
  |some _=>exact hv.elim
  |none=>
   obtain⟨m,hv,hn⟩:=kZ (P:=P) hv;obtain⟨l,hv,hl⟩:=kZ (P:=P) hv;refine .of_pure hv fun w=>?_
   have ha:(some (if n=l then a else a.add (l*bT P e)))=aZ (some a) l n (bT P e):=by
    rw[←vi];split<;>rfl
   simp[Instr.sliceAt,ay hu,Instr.sureAddr,nq hn hl,hz,ha]
 ·exact hv.elim
def m0(d:TypeDesc)(c:CK):Prop:=(∃i,d=.int i∧c=.int i)∨(d=.string∧c=.str)∨(d=.bool∧c=.bool)
theorem sZ{t:TypeId}{c:CK}{e:TypeId}(h:FR P t=some (c,e)):∃k d,P.underlying t=some (.map k e)∧P.underlying k=some d∧m0 d c:=by
 unfold FR at h;split at h
 ·rename_i k e' hu
  split at h
  ·rename_i i hk
   simp only[bF.injEq,po.injEq]at h;obtain⟨rfl,rfl⟩:=h;exact⟨k,_,hu,hk,.inl ⟨i,rfl,rfl⟩⟩
  ·rename_i hk
   simp only[bF.injEq,po.injEq]at h;obtain⟨rfl,rfl⟩:=h;exact⟨k,_,hu,hk,.inr (.inl ⟨rfl,rfl⟩)⟩
  ·rename_i hk
   simp only[bF.injEq,po.injEq]at h;obtain⟨rfl,rfl⟩:=h;exact⟨k,_,hu,hk,.inr (.inr ⟨rfl,rfl⟩)⟩
  ·cases h
 ·cases h
theorem yP{d:TypeDesc}{c:CK}(hd:m0 d c)(x y:c.den):Instr.sameNow d (c.enc x) (c.enc y)=some (f7 (c.enc x) (c.enc y)):=by
 rcases hd with⟨i,rfl,rfl⟩|⟨rfl,rfl⟩|⟨rfl,rfl⟩
 ·simp[Instr.sameNow,CK.enc,f7]
 ·simp[Instr.sameNow,CK.enc,f7]
 ·simp[Instr.sameNow,CK.enc,f7]
theorem y5{d:TypeDesc}{c:CK}(hd:m0 d c)(x:c.den):∀(es:List MapEntry) (i:Nat),AV c es→
  ∃r,Instr.findNow d (c.enc x) es i=some r∧r.map (·.2)=F6 (c.enc x) es
 | [],i,_=>⟨none,rfl,rfl⟩
 |e::es,i,h=>by
  obtain⟨y,hy⟩:=h e (by simp);have hs:=yP hd x y;rw[←hy]at hs;simp only[Instr.findNow,F6];cases hb:f7 (c.enc x) e.key with
  |true=>rw[hs,hb];exact⟨some (i,e.val),rfl,rfl⟩
  |false=>rw[hs,hb];exact y5 hd x es (i+1) fun e' he'=>h e' (by simp[he'])
theorem Gg{empty:Bool}{k:TypeId}{d:TypeDesc}{c:CK}(hd:m0 d c)(hu:P.underlying k=some d)(v:Value)(n:Nat)(w:World):(Instr.checkKey empty (n+1) k v).run P w=.ok () w:=by
 unfold Instr.checkKey;simp only[Sem.run_bind,ay hu,Result.andThen_ok];rcases hd with⟨i,rfl,rfl⟩|⟨rfl,rfl⟩|⟨rfl,rfl⟩<;>rfl
theorem rK{k:TypeId}{d:TypeDesc}{c:CK}(hd:m0 d c)(hu:P.underlying k=some d)(x:c.den){es:List MapEntry}(h:AV c es)(w:World):
  ∃r,(Instr.findKey k (c.enc x) es).run P w=.ok r w∧Instr.findNow d (c.enc x) es 0=some r∧r.map (·.2)=F6 (c.enc x) es:=by
 obtain⟨r,hr,hm⟩:=y5 hd x es 0 h;refine⟨r,?_,hr,hm⟩;simp only[Instr.findKey,Sem.run_bind,ay hu,Result.andThen_ok,hr,Sem.run_pure]
theorem kr{w:World}{r:Nat}{es:Array MapEntry}{clock:Nat}(h:w.heap[r]? =some (.map es clock)):(getObj r).run P w=.ok (.map es clock) w:=by
 simp only[getObj,Sem.run,h]
theorem lN{empty:Bool}{k:TypeId}{d:TypeDesc}{c:CK}(hd:m0 d c)(hu:P.underlying k=some d)(v:Value)(w:World):(Instr.checkKey empty 10000 k v).run P w=.ok () w:=
 Gg hd hu v 9999 w
theorem HH{t:TypeId}{c:CK}{e k:TypeId}{d:TypeDesc}(hu:P.underlying t=some (.map k e))(hk:P.underlying k=some d)(hd:m0 d c){m:Option Nat}{x:c.den}{z v:Value}{b ok:Bool}{w:World}
  (hz:(zeroValue e).run P w=.ok z w)(hm:Ij c z w.heap m (c.enc x) v b):
  (Instr.lookup t (.map m) (c.enc x) ok).run P w=.ok (bif ok then .tuple #[v,.bool b]else v) w:=by
 cases m with
 |none=>
  obtain⟨rfl,rfl⟩:=hm;simp only[Instr.lookup,Sem.run_bind,ay hu,Result.andThen_ok,Sem.run_pure,lN hd hk];obtain⟨r,h1,h2,h3⟩:=rK (P:=P) hd hk x (es:= []) (fun _ h=>by cases h) w
  simp only[Instr.findNow,bF.injEq]at h2;subst h2;simp[h1,hz]
 |some r=>
  obtain⟨es,clock,hb,hks,hv⟩:=hm;simp only[Instr.lookup,Sem.run_bind,ay hu,Result.andThen_ok,kr hb,Sem.run_pure,lN hd hk];obtain⟨r,h1,h2,h3⟩:=rK (P:=P) hd hk x hks w;simp only[h1,Result.andThen_ok];cases r with
  |none=>
   simp only[Option.map_none]at h3;rw[←h3]at hv;obtain⟨rfl,rfl⟩:=hv;simp[hz]
  |some r=>
   simp only[fA]at h3;rw[←h3]at hv;obtain⟨rfl,rfl⟩:=hv;cases ok<;>rfl
theorem eA{e:TypeId}{z:Value}(h:uC P e=some z)(w:World):(zeroValue e).run P w=.ok z w:=by
 unfold uC at h;cases hi:P.info? e with
 |none=>rw[hi]at h;cases h
 |some i=>rw[hi]at h;simp only at h;simp[zeroValue,cM hi,h]
theorem Cf{t:TypeId}{x k:Value}{ok:Bool}{K:RK}{h:ad}(hv:Ec P t x k ok K h):Yv P (Instr.lookup t x k ok) K h:=by
 unfold Ec at hv;split at hv
 ·rename_i c e m hc
  obtain⟨kt,d,hu,hk,hd⟩:=sZ hc;obtain⟨kx,rfl,hv⟩:=CK.dec_sound hv;split at hv
  ·rename_i ek z hek hz
   obtain⟨y,b,hm,hK⟩:=hv;exact⟨_,_,hK,hm,fun w hw=>HH hu hk hd (eA hz w) hw⟩
  ·exact hv.elim
 ·exact hv.elim
theorem Hl{t:TypeId}{x:Value}{ats:Array TypeId}{ty:TypeId}{K:RK}{h:ad}(hat:ats[0]? =some t) (hv:O1 P t x K h):Yv P (Builtin.len_ ats ty #[x]) K h:=by
 unfold O1 at hv;split at hv
 ·rename_i s hu
  exact .of_pure hv fun w=>by simp[Builtin.len_,hat,ay hu,goInt]
 ·rename_i n e _ hu
  exact .of_pure hv fun w=>by simp[Builtin.len_,hat,ay hu,goInt]
 ·rename_i e b n c hu
  exact .of_pure hv fun w=>by simp[Builtin.len_,hat,ay hu,goInt]
 ·rename_i k e m hu
  obtain⟨n,hm,hk⟩:=hv;refine⟨_,_,hk,hm,fun w hw=>?_⟩
  cases m with
  |none=>
   have:n=0:=hw;subst this;simp[Builtin.len_,hat,ay hu,goInt]
  |some r=>
   obtain⟨es,clock,hb,rfl⟩:=hw;simp[Builtin.len_,hat,ay hu,goInt,kr hb]
 ·exact hv.elim
theorem Hp{t:TypeId}{x:Value}{ats:Array TypeId}{ty:TypeId}{K:RK}{h:ad}(hat:ats[0]? =some t) (hv:O2 P t x K):Yv P (Builtin.cap_ ats ty #[x]) K h:=by
 unfold O2 at hv;split at hv
 ·rename_i e b n c hu
  exact .of_pure hv fun w=>by simp[Builtin.cap_,hat,ay hu,goInt]
 ·exact hv.elim
theorem wF{mx:Bool}{k:IntKind}:∀{vs:List Value} {a:Int} {f:Value→Prop},Ej mx k a vs f→∃v,f v∧∀w,(vs.foldlM (bif mx then Builtin.max2 else Builtin.min2) (Value.int k a):Sem Value).run P w=.ok v w
 | [],a,f,h=>⟨_,h,fun w=>by simp⟩
 | .int k' b::vs,a,f,h=>by
  simp only[Ej]at h;cases hk:Em k' k with
  |false=>rw[hk]at h;exact h.elim
  |true=>
   rw[hk]at h;have:=wN hk;subst this;obtain⟨v,hf,hr⟩:=wF h;refine⟨v,hf,fun w=>?_⟩
   rw[←hr w];cases mx<;>simp[List.foldlM_cons,Builtin.max2,Builtin.min2]
theorem uK{mx:Bool}{vs:List Value}{f:Value→Prop}{ats:Array TypeId}{ty:TypeId}(h:zR mx vs f):∃v,f v∧∀w,(bif mx then Builtin.max_ ats ty vs.toArray else Builtin.min_ ats ty vs.toArray).run P w=.ok v w:=by
 unfold zR at h;split at h
 ·obtain⟨v,hf,hr⟩:=wF (P:=P) h
  refine⟨v,hf,fun w=>?_⟩
  have:=hr w;cases mx<;>simpa[Builtin.max_,Builtin.min_]using this
 ·exact h.elim
theorem Kz{a:Addr}{e:MapEntry}{w:World}(h0:a.off=0)(h:Ik w.heap a.block e):(Instr.entry (.pointer (some a))).run P w=.ok (.tuple #[e.key,e.val]) w:=by
 obtain⟨m,since,seen,last,stamp,es,hi,hb,hm,hf⟩:=h;obtain⟨b,off,spot⟩:=a;simp only at h0 hi;subst h0;have g1:(getObj b).run P w=.ok (.mapIter (some m) since seen last) w:=by simp only[getObj,Sem.run,hi]
 simp[Instr.entry,g1,hb,kr hm,hf]
def CH:DV→Value→Prop
 | .t,v=>v=.bool true
 | .f,v=>v=.bool false
 | .u,v=>v=undef
 | .x,_=>True
def DecOk(d:ru)(r:cA):Prop:=∀t,oY d t=.x∨∃v,jh r t=some v∧CH (oY d t) v
theorem DecOk.at{d:ru}{r:cA}(h:DecOk d r){t:Nat}{v:Value}(hv:jh r t=some v):CH (oY d t) v:=by
 rcases h t with e|⟨u,hu,hk⟩
 ·rw[e];trivial
 ·rw[hv]at hu;cases hu;exact hk
theorem rh{d:ru}{r:cA}(hd:DecOk d r){o:Operand}{v:Value}(h:du r o=some v):CH (wX d o) v:=by
 cases o with
 |tmp t=>exact hd.at h
 |const c=>
  simp[du]at h;subst h;cases c with
  |bool b=>cases b<;>exact rfl
  |_=>trivial
 |global g=>trivial
 |func f=>trivial
theorem yW{t:TypeId}(h:oc P t=true):∃d,P.underlying t=some d∧∀m,d≠ .interface m:=by
 unfold oc at h;split at h
 ·cases h
 ·rename_i d hd;exact⟨_,hd,fun m e=>by subst e;simp_all⟩
 ·cases h
theorem wH{t:TypeId}{v:Value}(h:oc P t=true)(w:World):(Instr.makeInterface t v).run P w=.ok (.iface t v) w:=by
 obtain⟨d,hd,hn⟩:=yW h;simp only[Instr.makeInterface,Sem.run_bind,ay hd,Result.andThen_ok];cases d<;>first|exact absurd rfl (hn _)|rfl
theorem Ak{t u:TypeId}{v:Value}(h:oc P t=true)(w:World):(Instr.typeAssert (.iface t v) u t false).run P w=.ok v w:=by
 obtain⟨d,hd,hn⟩:=yW h;simp only[Instr.typeAssert,Sem.run_bind,ay hd,Result.andThen_ok];cases d<;>first|exact absurd rfl (hn _)|(simp[Sem.run_pure])
theorem jf{t:TypeId}{z:List Value}(h:oB P t=some z):∃v,uC P t=some v∧v.cells.toList=z:=by
 unfold oB at h;cases hz:uC P t with
 |none=>rw[hz]at h;cases h
 |some v=>rw[hz]at h;simp only[bF.injEq]at h;exact⟨v,rfl,h⟩
theorem pd{t:TypeId}{v:Value}(h:uC P t=some v):∃i,P.info? t=some i∧i.zero=some v:=by
 unfold uC at h;cases hi:P.info? t with
 |none=>rw[hi]at h;cases h
 |some i=>rw[hi]at h;exact⟨i,rfl,h⟩
theorem MF{A B:List Value}{x:Value}{m:Nat}(h:A.length=m):(A++x::B).take (m+1)=A++ [x]:=by
 subst h;rw[List.take_append,bj (by omega),show A.length+1-A.length=1 by omega];rfl
theorem MG{A B:List Value}{x:Value}{m n:Nat}(h:A.length=m):(A++x::B).drop (m+1+n)=B.drop n:=by
 subst h;rw[List.drop_append,List.drop_eq_nil_of_le (by omega),show A.length+1+n-A.length=n+1 by omega];rfl
theorem F4(off:Nat):∀(xs:List Value) (k:Nat) (arr:Array Value),off+k+xs.length≤arr.size→
  (xs.zipIdx k).foldl (fun cs (c,j)=>cs.setIfInBounds (off+j) c) arr=(FA arr.toList (off+k) xs).toArray
 | [],k,arr,_=>by simp[FA]
 |x::xs,k,arr,h=>by
  simp only[ap]at h;simp only[List.zipIdx_cons,ik];rw[F4 off xs (k+1) _ (by simp;omega)];have hm:off+k<arr.toList.length:=by simp;omega
  have hs:arr.toList.set (off+k) x=arr.toList.take (off+k)++x::arr.toList.drop (off+k+1):=by
   rw[List.set_eq_take_append_cons_drop,if_pos hm]
  have hl:(arr.toList.take (off+k)).length=off+k:=by simp;omega
  congr 1
  unfold FA;rw[Array.toList_setIfInBounds,hs,←jP,MF hl,MG hl];simp only[List.append_assoc,cR,List.nil_append,ap,List.drop_drop];rw[show off+k+1+xs.length=off+k+(xs.length+1) by omega]
theorem qe{place:Nat→Option (Nat×Nat)}:∀(parts:List (Nat×Value)) (cs cs':List Value),y6 place cs parts=some cs'→Instr.fill place cs.toArray parts=some cs'.toArray
 | [],cs,cs',h=>by simp only[y6,bF.injEq]at h;subst h;rfl
 |(i,v)::rest,cs,cs',h=>by
  simp only[y6]at h;cases hp:place i with
  |none=>rw[hp]at h;cases h
  |some os=>
   obtain⟨off,size⟩:=os;rw[hp]at h;simp only at h;cases hb:(bE v.cells.toList.length size&&ul (off+v.cells.toList.length) cs.length)with
   |false=>rw[hb]at h;cases h
   |true=>
    rw[hb]at h;simp only[aY]at hb;have h1:=aP hb.1;have h2:=g9 hb.2;have ih:=qe rest _ _ h;have h3:v.cells.size=size:=by simpa using h1
    have h4:off+v.cells.size≤cs.length:=by simpa using h2
    have hf:Array.foldl (fun cs x=>cs.setIfInBounds (off+x.2) x.1) cs.toArray v.cells.zipIdx=(FA cs off v.cells.toList).toArray:=by
     have:=F4 off v.cells.toList 0 cs.toArray (by simpa using h4);simp only[cQ]at this;rw[←this,←Array.foldl_toList];congr 1
     simp[Array.toList_zipIdx]
    simp only[Instr.fill,hp];rw[if_neg (by simp[h3];omega)];simp only[hf];exact ih
theorem mN{N:Nat}{r:cA}{a:Act}(h:Agree N r a):∀{ps:List (Nat×Operand)} {vs:List (Nat×Value)},oa r ps=some vs→ps.map (fun p=>(p.1,a.eval p.2))=vs
 | [],vs,hv=>by simp[oa]at hv;subst hv;rfl
 |(i,o)::ps,vs,hv=>by
  simp only[oa]at hv;cases ho:du r o with
  |none=>simp[ho]at hv
  |some v=>cases hos:oa r ps with
   |none=>simp[ho,hos]at hv
   |some us=>simp[ho,hos]at hv;subst hv;simp[kw h ho,mN h hos]
theorem qc{t:TypeId}(h:uc P t=true)(w:World):(sizeOf t).run P w=.ok (bT P t) w:=by
 unfold uc at h;cases hi:P.info? t with
 |none=>rw[hi]at h;cases h
 |some i=>simp[sizeOf,cM hi,bT,hi]
theorem AI(w:World):∀l:List Field,w9 P l=true→(l.mapM fun f:Field=>((do pure (f.offset,←sizeOf f.type)):Sem (Nat×Nat))).run P w=.ok (l.map fun f:Field=>(f.offset,bT P f.type)) w
 | [],_=>rfl
 |f::l,h=>by
  simp only[w9]at h;cases hf:uc P f.type with
  |false=>rw[hf]at h;cases h
  |true=>
   rw[hf]at h;rw[List.mapM_cons];simp only[Sem.run_bind,qc hf,Result.andThen_ok,Sem.run_pure,AI w l h,di]
theorem w7{t:TypeId}{ps:Array (Nat×Value)}{cs:List Value}(hb:EE P t ps.toList=some cs)(w:World):
  (Instr.build t ps).run P w=.ok (.agg cs.toArray) w:=by
 unfold EE at hb;split at hb
 ·rename_i fs z hu hz
  obtain⟨v,hz,hv⟩:=jf hz;cases ha:w9 P fs.toList with
  |false=>rw[ha]at hb;cases hb
  |true=>
   rw[ha]at hb;have hfs:(fs.mapM fun f:Field=>((do pure (f.offset,←sizeOf f.type)):Sem (Nat×Nat))).run P w=.ok (fs.map fun f:Field=>(f.offset,bT P f.type)) w:=by
    rw[Array.mapM_eq_mapM_toList];simp only[Sem.run_map,AI w fs.toList ha,Result.andThen_ok];congr 1
    apply cX;simp
   have hf:=qe _ _ _ hb;have hplace:(fun i:Nat=>(fs.map fun f:Field=>(f.offset,bT P f.type))[i]?)=Hx P fs.toList:=by
    funext i;unfold Hx;rw[Array.getElem?_map,bI];cases fs[i]?<;>rfl
   have hv':v.cells=z.toArray:=by rw[←hv]
   rw[cond_true]at hb;rw[←hplace]at hf;simp only[Instr.build,Sem.run_bind,eA hz,Result.andThen_ok,ay hu,hfs,hv',hf,Sem.run_pure]
 ·rename_i n e z hu hz
  obtain⟨v,hz,hv⟩:=jf hz;cases ha:uc P e with
  |false=>rw[ha]at hb;cases hb
  |true=>
   rw[ha]at hb;have hf:=qe _ _ _ hb;have hv':v.cells=z.toArray:=by rw[←hv]
   simp only[Instr.build,Sem.run_bind,eA hz,Result.andThen_ok,ay hu,qc ha,hv',hf,Sem.run_pure]
 ·cases hb
theorem Dc{ek:Option (Kind×Kind)}{o:Oper}{r:cA}{K:RK}{h:ad}{N:Nat}{a:Act}(ha:Agree N r a)(hq:x8 P ek o.op r K h)(d:ru)(hd:DecOk d r):
  ∃v S,K v S∧Nh S h∧CH (E9 d o.op) v∧∀w:World,Nh S w.heap→(execOp a.eval o).run P w=.ok (.value v) w:=by
 have ev:∀{x:Operand} {v:Value},du r x=some v→a.eval x=v:=fun h=>kw ha h
 have fin:∀{s:Sem Value},Yv P s K h→E9 d o.op=.x→(∀w,(execOp a.eval o).run P w=(do pure (Next.value (←s)):Sem Next).run P w)→
   ∃v S,K v S∧Nh S h∧CH (E9 d o.op) v∧∀w:World,Nh S w.heap→(execOp a.eval o).run P w=.ok (.value v) w:=by
  rintro s ⟨v,S,hk,hS,hr⟩ hx he;exact⟨v,S,hk,hS,by rw[hx];trivial,fun w hw=>by rw[he w];exact hP (hr w hw)⟩
 obtain⟨dst,op,type,sR,after,guard⟩:=o;simp only at hq fin⊢;cases op with
 |move x=>
  simp only[x8]at hq;split at hq
  ·rename_i v hv
   exact⟨v,none,hq,trivial,rh hd hv,fun w _=>by simp[execOp,ev hv]⟩
  ·exact hq.elim
 |assign x=>
  simp only[x8]at hq;split at hq
  ·rename_i v hv
   exact⟨v,none,hq,trivial,rh hd hv,fun w _=>by simp[execOp,ev hv]⟩
  ·exact hq.elim
 |pick c x y=>
  simp only[x8]at hq;split at hq
  ·rename_i vc va vb hc hx hy
   unfold OB at hq;split at hq
   ·rename_i cb
    have hco:=rh hd hc;have hxo:=rh hd hx;have hyo:=rh hd hy;have he:∀w,(execOp a.eval ⟨dst,.pick c x y,type,sR,after,guard⟩).run P w=.ok (.value (if cb then va else vb)) w:=fun w=>by
     simp[execOp,ev hc,ev hx,ev hy,asBool]
    have hdv:CH (E9 d (.pick c x y)) (if cb then va else vb):=by
     simp only[E9];cases hcd:wX d c with
     |t=>
      rw[hcd]at hco;have:cb=true:=by simpa[CH]using hco
      subst this;exact hxo
     |f=>
      rw[hcd]at hco;have:cb=false:=by simpa[CH]using hco
      subst this;exact hyo
     |u=>trivial
     |x=>trivial
    split at hq
    ·rename_i bx by'
     have e1:(if cb=true then Value.bool bx else Value.bool by')=.bool (bif cb then bx else by'):=by cases cb<;>rfl
     rw[e1]at hdv;exact⟨_,none,hq,trivial,hdv,fun w _=>by rw[he w,e1]⟩
    ·cases cb
     ·exact⟨_,none,hq,trivial,hdv,fun w _=>he w⟩
     ·exact⟨_,none,hq,trivial,hdv,fun w _=>he w⟩
   ·exact hq.elim
  ·exact hq.elim
 |load t x=>
  simp only[x8]at hq;split at hq
  ·rename_i v hv
   obtain⟨u,S,hk,hS,hr⟩:=yT hq;exact fin ⟨u,some S,hk,hS,hr⟩ rfl fun w=>by simp only[execOp,ev hv]
  ·exact hq.elim
 |nilCheck x=>
  simp only[x8]at hq;split at hq
  ·rename_i p hv
   obtain⟨b,rfl,hk⟩:=hq;exact⟨_,none,hk,trivial,trivial,fun w _=>by simp[execOp,ev hv]⟩
  ·exact hq.elim
 |binOp op t x y yt=>
  simp only[x8]at hq;split at hq
  ·rename_i v u hv hu
   obtain⟨v',S,hk,hS,hr⟩:=Hr (x:=x) (y:=y) hq;refine⟨v',S,hk,hS,trivial,fun w hw=>?_⟩
   simp only[execOp,ev hv,ev hu];exact hP (hr w hw)
  ·rename_i v u hna hv hu
   have go:(∀c d,v=.agg c→u=.agg d→False)∧(v=.nilIface→u=.nilIface→False)∧Yv P (binOp op t v u) K h:=by
    split at hq
    ·exact AN (neg:=false) hq
    ·exact AN (neg:=true) hq
    ·exact Hq hq
   obtain⟨h1,h2,v',S,hk,hS,hr⟩:=go;refine⟨v',S,hk,hS,trivial,fun w hw=>?_⟩
   simp only[execOp,ev hv,ev hu];simp[H3 op t x y v u h1 h2 w,hr w hw]
  ·exact hq.elim
 |unOp op t x=>
  simp only[x8]at hq;split at hq
  ·rename_i v hv
   obtain⟨u,S,hk,hS,hr⟩:=Kh (P:=P) (h:=h) hq;refine⟨u,S,hk,hS,?_,fun w hw=>by simp only[execOp,ev hv];exact hP (hr w hw)⟩
   have hvo:=rh hd hv;cases op<;>try trivial
   simp only[E9];have hrun:=hr {(default:World)with heap:=h} hS;cases hx:wX d x with
   |t=>
    rw[hx]at hvo;have:v=.bool true:=hvo;subst this;simp[Op.unary]at hrun;exact hrun.symm
   |f=>
    rw[hx]at hvo;have:v=.bool false:=hvo;subst this;simp[Op.unary]at hrun;exact hrun.symm
   |u=>trivial
   |x=>trivial
  ·exact hq.elim
 |convert s t x=>
  simp only[x8]at hq;split at hq
  ·rename_i v hv
   exact fin (Fx hq) rfl fun w=>by simp only[execOp,ev hv]
  ·exact hq.elim
 |extract x i=>
  simp only[x8]at hq;split at hq
  ·rename_i vs hv
   split at hq
   ·rename_i u hu
    have hu':vs[i]? =some u:=by simpa using hu
    exact⟨u,none,hq,trivial,trivial,fun w _=>by simp[execOp,ev hv,Instr.extract,hu']⟩
   ·exact hq.elim
  ·exact hq.elim
 |fieldAddr t x f=>
  simp only[x8]at hq;split at hq
  ·rename_i b u off hv hf
   exact fin (zv hf hq) rfl fun w=>by simp only[execOp,ev hv]
  ·exact hq.elim
 |field t x f=>
  simp only[x8]at hq;split at hq
  ·rename_i v hv
   exact fin (Ee hq) rfl fun w=>by simp only[execOp,ev hv]
  ·exact hq.elim
 |indexAddr t x i=>
  simp only[x8]at hq;split at hq
  ·rename_i v u hv hu
   exact fin (x9 hq) rfl fun w=>by simp only[execOp,ev hv,ev hu]
  ·exact hq.elim
 |index t x i=>
  simp only[x8]at hq;split at hq
  ·rename_i v u hv hu
   exact fin (Ed hq) rfl fun w=>by simp only[execOp,ev hv,ev hu]
  ·exact hq.elim
 |slice t x lo hi mx=>
  simp only[x8]at hq;split at hq
  ·rename_i v l h' m hv hl hh hm
   have ov:∀{x:Option Operand} {v:Option Value},Dh r x=some v→x.map a.eval=v:=by
    intro x v hx;cases x with
    |none=>simp[Dh]at hx;subst hx;rfl
    |some x=>
     simp only[Dh]at hx;cases he:du r x with
     |none=>simp[he]at hx
     |some u=>simp[he]at hx;subst hx;simp[ev he]
   exact fin (Eb hq) rfl fun w=>by simp only[execOp,ev hv,ov hl,ov hh,ov hm]
  ·exact hq.elim
 |lookup t x k ok=>
  simp only[x8]at hq;split at hq
  ·rename_i v u hv hu
   exact fin (Cf hq) rfl fun w=>by simp only[execOp,ev hv,ev hu]
  ·exact hq.elim
 |makeInterface t x=>
  simp only[x8]at hq;split at hq
  ·rename_i v hv
   cases hb:oc P t with
   |false=>rw[hb]at hq;exact hq.elim
   |true=>
    rw[hb,cond_true]at hq;exact⟨_,none,hq,trivial,trivial,fun w _=>by simp only[execOp,ev hv];exact hP (wH hb w)⟩
  ·exact hq.elim
 |typeAssert x u t ok=>
  simp only[x8]at hq;split at hq
  ·rename_i v hv
   cases ok with
   |true=>exact hq.elim
   |false=>
    rw[cond_false]at hq;unfold Jd at hq;cases hb:oc P t with
    |false=>rw[hb]at hq;exact hq.elim
    |true=>
     rw[hb,cond_true]at hq;split at hq
     ·obtain⟨y,rfl,hk⟩:=hq
      exact⟨_,none,hk,trivial,trivial,fun w _=>by simp only[execOp,ev hv];exact hP (Ak hb w)⟩
     ·exact hq.elim
  ·exact hq.elim
 |makeFunc fn first cap=>
  simp only[x8]at hq;split at hq
  ·rename_i vs us hv hu
   have e1:=mL ha hv;have e2:=mL ha hu;refine⟨_,none,hq,trivial,trivial,fun w _=>?_⟩
   have f1:first.map a.eval=vs.toArray:=by rw[←e1];apply cX;simp
   have f2:cap.map a.eval=us.toArray:=by rw[←e2];apply cX;simp
   simp[execOp,Instr.makeFunc,f1,f2]
  ·exact hq.elim
 |entry it=>
  simp only[x8]at hq;split at hq
  ·rename_i b kk vk hv
   obtain⟨h0,e,x,y,hi,hk,hy,hK⟩:=hq;refine⟨_,_,hK,hi,trivial,fun w hw=>?_⟩
   simp only[execOp,ev hv];refine hP ?_;rw[Kz h0 hw,hk,hy]
  ·exact hq.elim
 |call c=>
  simp only[x8]at hq;have er:∀{b:Builtin} {vs:List Value},c.callee=.builtin b→oF r c.args.toList=some vs→∃cs:Array Bool,∀w,(execOp a.eval ⟨dst,.call c,type,sR,after,guard⟩).run P w=
    (builtin b c.argTypes type cs vs.toArray).run P w:=by
   intro b vs hc hvs;have e1:=mL ha hvs;have f1:c.args.map a.eval=vs.toArray:=by rw[←e1];apply cX;simp
   refine⟨c.args.map fun| .const _=>true|_=>false,fun w=>?_⟩
   simp[execOp,resolve,hc,f1,invoke];rfl
  split at hq
  ·rename_i v t hc hvs hat
   obtain⟨cs,er⟩:=er hc hvs;obtain⟨u,S,hk,hS,hr⟩:=Hl (ats:=c.argTypes) (ty:=type) (by rw[←bI,hat];rfl) hq;exact⟨u,S,hk,hS,trivial,fun w hw=>by rw[er w];simp only[builtin];exact hP (hr w hw)⟩
  ·rename_i v t hc hvs hat
   obtain⟨cs,er⟩:=er hc hvs;obtain⟨u,S,hk,hS,hr⟩:=Hp (h:=h) (ats:=c.argTypes) (ty:=type) (by rw[←bI,hat];rfl) hq;exact⟨u,S,hk,hS,trivial,fun w hw=>by rw[er w];simp only[builtin];exact hP (hr w hw)⟩
  ·rename_i vs hc hvs
   obtain⟨cs,er⟩:=er hc hvs;obtain⟨u,hk,hr⟩:=uK (P:=P) (ats:=c.argTypes) (ty:=type) hq;exact⟨u,none,hk,trivial,trivial,fun w _=>by rw[er w];simp only[builtin];exact hP (hr w)⟩
  ·rename_i vs hc hvs
   obtain⟨cs,er⟩:=er hc hvs;obtain⟨u,hk,hr⟩:=uK (P:=P) (ats:=c.argTypes) (ty:=type) hq;exact⟨u,none,hk,trivial,trivial,fun w _=>by rw[er w];simp only[builtin];exact hP (hr w)⟩
  ·exact hq.elim
 |build t ps=>
  simp only[x8]at hq;split at hq
  ·rename_i vs hvs
   split at hq
   ·rename_i cs hcs
    refine⟨_,none,hq,trivial,trivial,fun w _=>?_⟩
    have hp:(ps.map fun x=>(x.1,a.eval x.2))=vs.toArray:=by
     rw[←mN ha hvs];apply cX;simp
    have he:=w7 (ps:=vs.toArray) (by simpa using hcs) w;simp only[execOp];rw[show(ps.map fun(i,x)=>(i,a.eval x))=vs.toArray from hp]
    exact hP he
   ·exact hq.elim
  ·exact hq.elim
 |_=>simp only[x8]at hq
end Go.Lift
namespace Go.Lift
open Go
variable {P:Program}
def Gm(P:Program)(s:Sem Next)(K:WK)(w:World):Prop:=
 (∃v w',s.run P w=.ok (.value v) w'∧Tame w w'∧K v w'.heap)∨
 (∃w',s.run P w=.ok .skip w'∧Tame w w'∧K undef w'.heap)∨
 (∃f args,s.run P w=.ok (.enter f args) w∧Calls P f args w fun e w'=>Tame w w'∧∃v,e=.returned v∧K v w'.heap)∨
 (∃l fn tmps assign body,s.run P w=.ok (.round l fn tmps assign body) w∧
  ∀(c:Frame) (cs:List Frame),∃b w',Tame w w'∧K (.bool b) w'.heap∧Steps P (lone (Frame.round l fn tmps assign body .normal) (c::cs) w) (lone (c.finish (.bool b)) cs w'))
def Wv(P:Program)(s:Sem Value)(K:WK)(w:World):Prop:=∃v w',s.run P w=.ok v w'∧Tame w w'∧K v w'.heap
theorem Wv.out{s:Sem Value}{K:WK}{w:World}(h:Wv P s K w):Gm P (do pure (Next.value (←s))) K w:=by
 obtain⟨v,w',hr,ht,hk⟩:=h;exact .inl ⟨v,w',hP hr,ht,hk⟩
def Wu(P:Program)(s:Sem Unit)(K:WK)(w:World):Prop:=∃w',s.run P w=.ok () w'∧Tame w w'∧K undef w'.heap
theorem Wu.out{s:Sem Unit}{K:WK}{w:World}(h:Wu P s K w):Gm P (do s;pure Next.skip) K w:=by
 obtain⟨w',hr,ht,hk⟩:=h;exact .inr (.inl ⟨w',LS hr,ht,hk⟩)
def jg(w:World)(h:ad):World:={w with heap:=h}
theorem el(w:World)(h:ad):Tame w (jg w h):=⟨rfl,rfl,rfl⟩
theorem jn(e:TypeId)(cs:Array Value)(w:World):(newRow e cs).run P w=.ok (aC w.heap) (jg w (hnew w.heap cs.toList e)):=by
 simp[newRow,newObj,Sem.run,aC,jg,hnew,bind,Sem.bind,pure]
theorem AB(o:Obj)(w:World):(newObj o).run P w=.ok w.heap.size (jg w (w.heap.push o)):=rfl
theorem Cj{h:ad}{a b:Addr}(v:Value)(hne:a≠b):aO (hset h a v) b=aO h b:=
 World.cell?_setCell_other {(default:World)with heap:=h} a b v hne
theorem zu{h:ad}{a:Addr}{u:Value}(v:Value)(hc:aO h a=some u):aO (hset h a v) a=some v:=
 World.cell?_setCell_same {(default:World)with heap:=h} a v hc
theorem Ep{h:ad}{a b:Addr}(v:Value):zT (hset h a v) b=zT h b:=
 World.frozen?_setCell {(default:World)with heap:=h} a b v
theorem Wr.hset{h:ad}{a b:Addr}(v:Value)(hw:Wr h b):Wr (hset h a v) b:=by
 obtain⟨⟨u,hu⟩,hf⟩:=hw;refine⟨?_,by rw[Ep];exact hf⟩
 by_cases e:a=b
 ·subst e;exact⟨v,zu v hu⟩
 ·exact⟨u,by rw[Cj v e];exact hu⟩
theorem Hc{w:World}{a:Addr}{v:Value}(hv:∀cs,v≠ .agg cs)(hv':∀cs,v≠ .tuple cs)(hw:Wr w.heap a):(store a v).run P w=.ok () (jg w (hset w.heap a v)):=by
 obtain⟨⟨u,hu⟩,hf⟩:=hw;have hu':w.cell? a=some u:=hu;have hf':w.frozen? a=false:=hf;cases v<;>first|exact absurd rfl (hv _)|exact absurd rfl (hv' _)|(simp only[store,Sem.run,hu',hf'];rfl)
theorem Eh{v:Value}{vs:List Value}(h:cq (v::vs)=true):(∀cs,v≠ .agg cs)∧(∀cs,v≠ .tuple cs)∧cq vs=true:=by
 simp only[cq,aY]at h;refine⟨fun cs e=>?_,fun cs e=>?_,h.2⟩<;>(subst e;exact absurd h.1 (by simp))
theorem pv{a:Addr}:∀(vs:List Value) (i:Nat) (w:World),cq vs=true→(∀j,j<vs.length→Wr w.heap (adr a (i+j)))→
  (storeCells a vs i).run P w=.ok () (jg w (iM w.heap a i vs))
 | [],i,w,_,_=>rfl
 |v::vs,i,w,h1,hw=>by
  obtain⟨n1,n2,h1⟩:=Eh h1;have h0:=hw 0 (by simp);simp only[cQ]at h0;have ha:a.add i=adr a i:=(qR a i).symm;simp only[storeCells,ha,Sem.run_bind,Hc n1 n2 h0,Result.andThen_ok];rw[pv vs (i+1) (jg w (hset w.heap (adr a i) v)) h1 fun j hj=>?_]
  ·rfl
  ·have:=hw (j+1) (by simp only[ap];omega)
   rw[show i+1+j=i+(j+1) by omega]
   exact this.hset v
theorem Dw{a:Addr}(m:Nat):∀(vs:List Value) (i:Nat) (h:ad),iM h (adr a m) i vs=iM h a (m+i) vs
 | [],_,_=>rfl
 |v::vs,i,h=>by
  simp only[iM];rw[Dw m vs (i+1),xd];rfl
theorem DY{t:TypeId}{a v:Value}{K:WK}{w:World}(hs:GT P t a v K w.heap):Wu P (Instr.storeAt t a v) K w:=by
 unfold GT at hs;split at hs
 ·rename_i a
  cases hb:(bE v.cells.toList.length (bT P t)&&cq v.cells.toList)with
  |false=>rw[hb]at hs;exact hs.elim
  |true=>
   rw[hb]at hs;simp only[aY]at hb;have hl:=aP hb.1;obtain⟨hs,hz⟩:=nu hs;have hl':v.cells.size=bT P t:=by simpa using hl
   have go:(∀j,j<v.cells.toList.length→Wr w.heap (adr a (0+j)))→(Instr.storeAt t (.pointer (some a)) v).run P w=.ok () (jg w (iM w.heap a 0 v.cells.toList)):=by
    intro hw;have:=pv (P:=P) v.cells.toList 0 w hb.2 hw;simp[Instr.storeAt,Instr.sureAddr,storeVar,hz,hl',this]
   split at hs
   ·rename_i u hu
    obtain⟨hw,hk⟩:=hs;refine⟨_,go (fun j hj=>?_),el _ _,?_⟩
    ·rw[hu]at hj;simp only[ap,List.length_nil]at hj
     obtain rfl:j=0:=by omega
     exact hw
    ·rw[hu];exact hk
   ·obtain⟨hw,hk⟩:=hs
    refine⟨_,go (fun j hj=>?_),el _ _,hk⟩
    rcases hw with e|⟨b,hb',hw⟩
    ·rw[e]at hj;cases hj
    ·cases hb';exact hw j hj
 ·exact hs.elim
theorem iV(z:Array Value)(n:Nat):(Builtin.zeroCells z n).toList=dR n z.toList:=by
 have key:∀n,(List.range (n*z.size)).map (fun i=>z[i%z.size]!)=(dJ n z.toList).flatten:=by
  intro n;induction n with
  |zero=>simp
  |succ n ih=>
   rw[Nat.succ_mul,List.range_add,List.map_append,ih,List.replicate_succ',List.flatten_append];congr 1
   simp only[sd,List.flatten_cons,List.flatten_nil,List.append_nil];apply List.ext_getElem
   ·simp
   ·intro i h1 h2
    simp only[List.length_map,List.length_range]at h1;simp[Nat.mod_eq_of_lt h1,h1,Nat.add_mod]
 simpa[Builtin.zeroCells,dR]using key n
theorem dz{t e:TypeId}(h:sm P t=some e):P.underlying t=some (.slice e):=by
 unfold sm at h;split at h
 ·rename_i e' hu;simp only[bF.injEq]at h;subst h;exact hu
 ·cases h
theorem IU{z:Value}{n:Nat}:((Array.range (n*z.cells.size)).map (z.cells[· %z.cells.size]!))=(dR n z.cells.toList).toArray:=by
 have:=iV z.cells n;unfold Builtin.zeroCells at this;apply cX;rw[this]
theorem yn{t e:TypeId}{n:Nat}{ps:Array (Nat×Value)}{z cs:List Value}(ht:sm P t=some e)(hz:oB P e=some z)(hn:n*bT P e≤16777216)(hl:z.length=bT P e)
  (hb:y6 (fun i=>some (i*bT P e,bT P e)) (dR n z) ps.toList=some cs)(w:World):
  (Instr.buildSlice t n ps).run P w=.ok (.slice (some (aC w.heap)) n n) (jg w (hnew w.heap cs e)):=by
 obtain⟨v,hv,hvc⟩:=jf hz;obtain⟨i,hi,hiz⟩:=pd hv;have hs:(sizeOf e).run P w=.ok (bT P e) w:=by simp[sizeOf,cM hi,bT,hi]
 have hvs:v.cells.size=bT P e:=by rw[←hl,←hvc];simp
 have hf:=qe _ _ _ hb;have hrow:((Array.range (n*bT P e)).map (fun i=>(if n*bT P e=0 then #[]else v.cells)[i%(if n*bT P e=0 then #[]else v.cells).size]!))=(dR n z).toArray:=by
  by_cases h0:n*bT P e=0
  ·have:(dR n z).length=0:=by simp[dR,hl,h0]
   rw[aq.1 this];simp[h0]
  ·simp only[if_neg h0]
   rw[←hvs,IU,hvc]
 have hn':¬(n*bT P e>2^24):=by omega
 simp only[Instr.buildSlice,Sem.run_bind,ay (dz ht),Result.andThen_ok,hs,if_neg hn'];by_cases h0:n*bT P e=0
 ·simp only[if_pos h0]at hrow
  simp only[if_pos h0,Sem.run_bind,Sem.run_pure,Result.andThen_ok,hrow,hf,jn]
 ·simp only[if_neg h0]at hrow
  simp only[if_neg h0,Sem.run_bind,Sem.run_pure,Result.andThen_ok,eA hv,hrow,hf,jn]
theorem Kc{h:ad}{a:Addr}{vs:List Value}(hr:Row h a vs):∀j v,vs[j]? =some v→aO h (a.add j)=some v:=fun j v hv=>by
 rw[←qR];exact hr j v hv
theorem tY{size n cap len:Nat}{b:Option Addr}{vs:List Value}{w:World}(hs:SRow w.heap b (n*size) vs):(Builtin.firstCells size n (.slice b len cap)).run P w=.ok vs.toArray w:=by
 obtain⟨hl,hr⟩:=hs;cases b with
 |none=>
  rcases hr with rfl|⟨_,h,_⟩
  ·simp[Builtin.firstCells]
  ·cases h
 |some b=>
  refine run_firstCells_some w size n b len cap vs hl fun j v hv=>?_
  rcases hr with rfl|⟨_,h,hr⟩
  ·cases hv
  ·cases h;exact Kc hr j v hv
theorem Ap{a:Addr}{m:Nat}{xs:List Value}{w:World}(h1:cq xs=true)(hw:uv w.heap (some a) m xs):
  (storeCells (a.add m) xs).run P w=.ok () (jg w (iM w.heap a m xs)):=by
 rcases hw with rfl|⟨b,hb,hw⟩
 ·rfl
 ·cases hb
  have:=pv (P:=P) (a:=adr a m) xs 0 w h1 fun j hj=>by rw[xd,aR];exact hw j hj
  rw[←qR,this,Dw,cQ]
set_option maxHeartbeats 1000000 in
theorem Bo{t e u ty:TypeId}{b:Option Addr}{sl sc xl:Nat}{xs:List Value}{x:Value}{K:WK}{w:World}(ht:sm P t=some e)(hu':(∃e',P.underlying u=some (.slice e'))∨P.underlying u=some .string)
  (hlen:∀w,(Builtin.lenOf x).run P w=.ok xl w)(hx:∀w':World,w'.heap=w.heap→(Builtin.firstCells (bT P e) xl x).run P w'=.ok xs.toArray w')
  (hi:∃i,P.info? e=some i)
  (h:MP P e b sl sc xl xs K w.heap):Wv P (Builtin.append_ #[t,u] ty #[.slice b sl sc,x]) K w:=by
 obtain⟨i,hi⟩:=hi;have hsz:bT P e=i.size:=by simp[bT,hi]
 have hby:oK P e=i.bytes:=by simp[oK,hi]
 by_cases hc:sl+xl≤sc
 ·obtain⟨hw,h1,hk⟩:=h.1 hc
  refine⟨_,_,?_,el w (fV w.heap b (sl*bT P e) xs),hk⟩;cases b with
  |none=>
   have hxs:=hx w rfl;rw[hsz]at hxs;rcases hu' with⟨e',hd⟩|hd<;>(simp[Builtin.append_,ay (dz ht),ay hd,sizeOf,cM hi,hlen,hc,hxs];rfl)
  |some a=>
   have hst:=Ap (P:=P) h1 hw;have hxs:=hx w rfl;rw[hsz]at hst hxs;rcases hu' with⟨e',hd⟩|hd<;>(simp[Builtin.append_,ay (dz ht),ay hd,sizeOf,cM hi,hlen,hc,hxs,hst,fV,hsz])
 ·obtain⟨old,z,ho,hz,hb0,h48,hk⟩:=h.2 (by omega)
  obtain⟨v,hv,hvc⟩:=jf hz;obtain⟨i',hi',hiz⟩:=pd hv;rw[hi]at hi';cases hi';rw[hby]at hb0 h48;have hb0':¬i.bytes=0:=by omega
  have h48':¬(281474976710656<Builtin.nextslicecap (sl+xl) sc*i.bytes):=by omega
  have hxs:=hx w.drew rfl;have hol:(Builtin.firstCells (bT P e) sl (.slice b sl sc)).run P w.drew=.ok old.toArray w.drew:=tY ho;rw[hsz]at hxs hol;have hge:sl+xl≤(Question.appendCap (sl+xl) sc e).cut (w.tape w.drawn (.appendCap (sl+xl) sc e)):=nK _ _;refine⟨_,jg w.drew (hnew w.heap (old++xs++dR ((Question.appendCap (sl+xl) sc e).cut (w.tape w.drawn (.appendCap (sl+xl) sc e))-(sl+xl)) z) e),?_,⟨rfl,rfl,rfl⟩,hk _ hge⟩
  have hzc:(Builtin.zeroCells v.cells ((Question.appendCap (sl+xl) sc e).cut (w.tape w.drawn (.appendCap (sl+xl) sc e))-(sl+xl)))=(dR ((Question.appendCap (sl+xl) sc e).cut (w.tape w.drawn (.appendCap (sl+xl) sc e))-(sl+xl)) z).toArray:=by
   apply cX;rw[iV,hvc]
  rcases hu' with⟨e',hd⟩|hd<;>(simp[Builtin.append_,ay (dz ht),ay hd,sizeOf,cM hi,hlen,hc,hb0',h48',Question.forced,hxs,hol,eA hv,jn,hzc,aC];rfl)
theorem AY{t:TypeId}{K:Prop}(h:Me P t K):∃i,P.info? t=some i:=by
 unfold Me at h;cases hi:P.info? t with
 |none=>rw[hi]at h;exact h.elim
 |some i=>exact⟨i,rfl⟩
theorem wO{t:TypeId}(h:bT P t≠0):∃i,P.info? t=some i:=by
 cases hi:P.info? t with
 |none=>exact absurd (by simp[bT,hi]) h
 |some i=>exact⟨i,rfl⟩
theorem y8{size n:Nat}{x:ByteArray}{w:World}:(Builtin.firstCells size n (.string x)).run P w=.ok ((dd x).take n).toArray w:=by
 simp only[Builtin.firstCells,Sem.run_pure];congr 1
 apply cX;simp[dd,jE,eI,←List.map_take]
theorem uG{t u ty:TypeId}{s x:Value}{K:WK}{w:World}(hu':(∃e',P.underlying u=some (.slice e'))∨P.underlying u=some .string)(h:zJ P t s x K w.heap):
  Wv P (Builtin.append_ #[t,u] ty #[s,x]) K w:=by
 unfold zJ at h;split at h
 ·rename_i e b sl sc a xl xc ht
  have hi:=AY h;obtain⟨⟨xs,hxs,hk⟩,hz⟩:=nu h;exact Bo ht hu' (fun w=>rfl) (fun w' hw=>tY (by rw[hw];exact hxs)) hi hk
 ·rename_i e b sl sc x ht
  cases hb:bE (bT P e) 1 with
  |false=>rw[hb]at h;exact h.elim
  |true=>
   rw[hb]at h;have h1:=aP hb;have hl:(dd x).length=x.size:=by simp[dd]
   refine Bo ht hu' (fun w=>rfl) (fun w' _=>?_) (wO (by omega)) h
   rw[y8,bj (by omega)]
 ·exact h.elim
theorem xP{n:Int}(h0:0≤n)(h1:n≤9223372036854775807):IntKind.i64.wrap n=n:=IntWalk.i64_in n ⟨by omega,h1⟩
theorem Ig{t e u ty:TypeId}{b:Option Addr}{sl sc:Nat}{k0 k:IntKind}{l:Int}{z:List Value}{K:WK}{w:World}(ht:sm P t=some e)(hu:P.underlying u=some (.int k0))
  (hz:oB P e=some z)(hzl:z.length=bT P e)(h0:0≤l)(h1:l*oK P e≤2^48)(h2:l≤9223372036854775807)(h3:((sl+l.toNat:Nat):Int)≤9223372036854775807)
  (h:MP P e b sl sc l.toNat (dR l.toNat z) K w.heap):Wv P (Builtin.append_ #[t,u] ty #[.slice b sl sc,.int k l]) K w:=by
 obtain⟨v,hv,hvc⟩:=jf hz;obtain⟨i,hi,hiz⟩:=pd hv;have hsz:bT P e=i.size:=by simp[bT,hi]
 have hby:oK P e=i.bytes:=by simp[oK,hi]
 have hw:IntKind.wrap .i64 l=l:=xP h0 h2;have hl0:¬l<0:=by omega
 rw[hby]at h1;have h1':¬(281474976710656:Int)<l*i.bytes:=by omega
 have hai:∀w':World,(asInt (.int k l)).run P w'=.ok l w':=fun w'=>rfl
 have hzn:(Builtin.zeroCells v.cells l.toNat)=(dR l.toNat z).toArray:=by apply cX;rw[iV,hvc]
 have hz0:l.toNat*i.size=0→dR l.toNat z= []:=fun h0'=>by
  have hlen:(dR l.toNat z).length=l.toNat*i.size:=by rw[←hsz,←hzl];unfold dR;simp
  exact aq.1 (by rw[hlen,h0'])
 by_cases hc:sl+l.toNat≤sc
 ·obtain⟨hw',h1,hk⟩:=h.1 hc
  refine⟨_,_,?_,el w (fV w.heap b (sl*bT P e) (dR l.toNat z)),hk⟩;cases b with
  |none=>
   by_cases hs:l.toNat*i.size=0
   ·simp[Builtin.append_,ay (dz ht),ay hu,sizeOf,cM hi,hai,hw,hl0,h1',hc,hs];rfl
   ·simp[Builtin.append_,ay (dz ht),ay hu,sizeOf,cM hi,hai,hw,hl0,h1',hc,eA hv];rfl
  |some a=>
   have hst:=Ap (P:=P) h1 hw';rw[hsz]at hst;by_cases hs:l.toNat*i.size=0
   ·rw[hz0 hs]at hst
    simp[Builtin.append_,ay (dz ht),ay hu,sizeOf,cM hi,hai,hw,hl0,h1',hc,hst,fV,hsz,hs,hz0 hs]
   ·simp[Builtin.append_,ay (dz ht),ay hu,sizeOf,cM hi,hai,hw,hl0,h1',hc,hst,fV,hsz,hs,eA hv,hzn]
 ·obtain⟨old,z',ho,hz',hb0,h48,hk⟩:=h.2 (by omega)
  rw[hz]at hz';cases hz';rw[hby]at hb0 h48;have hb0':¬i.bytes=0:=by omega
  have h48':¬(281474976710656<Builtin.nextslicecap (sl+l.toNat) sc*i.bytes):=by omega
  have h3':¬(9223372036854775807:Int)<((sl:Int)+(l.toNat:Int)):=by omega
  have h3'':¬(9223372036854775807:Int)<((sl:Int)+max l 0):=by omega
  have hol:(Builtin.firstCells (bT P e) sl (.slice b sl sc)).run P w.drew=.ok old.toArray w.drew:=tY ho;rw[hsz]at hol;have hge:sl+l.toNat≤(Question.appendCap (sl+l.toNat) sc e).cut (w.tape w.drawn (.appendCap (sl+l.toNat) sc e)):=nK _ _;refine⟨_,jg w.drew (hnew w.heap (old++dR l.toNat z++dR ((Question.appendCap (sl+l.toNat) sc e).cut (w.tape w.drawn (.appendCap (sl+l.toNat) sc e))-(sl+l.toNat)) z) e),?_,⟨rfl,rfl,rfl⟩,hk _ hge⟩
  have hzc:(Builtin.zeroCells v.cells ((Question.appendCap (sl+l.toNat) sc e).cut (w.tape w.drawn (.appendCap (sl+l.toNat) sc e))-(sl+l.toNat)))=(dR ((Question.appendCap (sl+l.toNat) sc e).cut (w.tape w.drawn (.appendCap (sl+l.toNat) sc e))-(sl+l.toNat)) z).toArray:=by
   apply cX;rw[iV,hvc]
  by_cases hs:l.toNat*i.size=0
  ·rw[hz0 hs]at hk⊢
   simp[Builtin.append_,ay (dz ht),ay hu,sizeOf,cM hi,hai,hw,hl0,h1',hc,h3'',h48',Question.forced,hol,eA hv,jn,hzc,aC,hs];rfl
  ·simp[Builtin.append_,ay (dz ht),ay hu,sizeOf,cM hi,hai,hw,hl0,h1',hc,h3'',h48',Question.forced,hol,eA hv,jn,hzc,aC,hs,hzn];rfl
theorem Ag{t u ty:TypeId}{k0:IntKind}{s x:Value}{K:WK}{w:World}(hu:P.underlying u=some (.int k0))(h:Ah P t s x K w.heap):
  Wv P (Builtin.append_ #[t,u] ty #[s,x]) K w:=by
 unfold Ah at h;split at h
 ·rename_i e b sl sc k l ht
  split at h
  ·rename_i z hz
   cases hb:bE z.length (bT P e)with
   |false=>rw[hb]at h;exact h.elim
   |true=>
    rw[hb]at h;obtain⟨⟨h0,h1,h2,h3⟩,hk⟩:=h;exact Ig ht hu hz (aP hb) h0 h1 h2 h3 hk
  ·exact h.elim
 ·exact h.elim
theorem ir:∀{a b:List Value},cq a=true→cq b=true→cq (a++b)=true
 | [],_,_,h=>h
 |v::a,b,h,k=>by
  simp only[cq,cR,aY]at h⊢;exact⟨h.1,ir h.2 k⟩
theorem wC{z:List Value}(h:cq z=true):∀n,cq (dR n z)=true
 |0=>rfl
 |n+1=>by
  have:dR (n+1) z=z++dR n z:=by simp[dR,List.replicate_succ]
  rw[this];exact ir h (wC h n)
theorem DZ{t ty:TypeId}{x:Value}{K:WK}{w:World}(h:GU P t x K w.heap):Wv P (Builtin.clear_ #[t] ty #[x]) K w:=by
 unfold GU at h;split at h
 ·rename_i e a n c ht
  split at h
  ·rename_i z hz
   obtain⟨v,hv,hvc⟩:=jf hz;cases ho:cq z with
   |false=>rw[ho]at h;exact h.elim
   |true=>
    rw[ho]at h;obtain⟨hw,hk⟩:=h;refine⟨_,_,?_,el w (fV w.heap a 0 (dR n z)),hk⟩;cases a with
    |none=>simp[Builtin.clear_,ay (dz ht)];rfl
    |some a=>
     cases n with
     |zero=>simp[Builtin.clear_,ay (dz ht)];rfl
     |succ n=>
      have hst:=Ap (P:=P) (wC ho (n+1)) hw;rw[←qR,Bq]at hst;have hzc:(Builtin.zeroCells v.cells (n+1)).toList=dR (n+1) z:=by rw[iV,hvc]
      simp[Builtin.clear_,ay (dz ht),eA hv,hzc,hst,fV]
  ·exact h.elim
 ·exact h.elim
theorem wD:∀(xs:List Value) (n:Nat),cq xs=true→cq (xs.take n)=true
 | [],n,_=>by simp[cq]
 |x::xs,0,_=>by simp[cq]
 |x::xs,n+1,h=>by
  simp only[cq,aY,List.take_succ_cons]at h⊢;exact⟨h.1,wD xs n h.2⟩
theorem Cg(x:ByteArray):cq (dd x)=true:=by
 have:∀l:List UInt8,cq (l.map fun b=>.int .u8 (b.toNat:Int))=true:=by
  intro l;induction l with
  |nil=>rfl
  |cons b l ih=>simp[cq,ih]
 exact this _
theorem Fe{t u ty:TypeId}{d s:Value}{K:WK}{w:World}(h:Lr P t d s K w.heap):Wv P (Builtin.copy_ #[t,u] ty #[d,s]) K w:=by
 unfold Lr at h;split at h
 ·rename_i e b dl dc a sl sc ht
  obtain⟨⟨xs,hxs,hw,h1,hk⟩,hz⟩:=nu h;refine⟨_,_,?_,el w (fV w.heap b 0 xs),hk⟩;have hf:=tY (P:=P) (len:=sl) (cap:=sc) hxs;cases b with
  |none=>simp[Builtin.copy_,ay (dz ht),Builtin.lenOf,hz,hf,goInt];rfl
  |some c=>
   have hst:=Ap (P:=P) (m:=0) h1 hw;simp only[Addr.add,if_pos]at hst;simp[Builtin.copy_,ay (dz ht),Builtin.lenOf,hz,hf,goInt,hst,fV]
 ·rename_i e b dl dc x ht
  cases hb:bE (bT P e) 1 with
  |false=>rw[hb]at h;exact h.elim
  |true=>
   rw[hb]at h;have h1:=aP hb;obtain⟨i,hi⟩:=wO (P:=P) (t:=e) (by omega);have hz:(sizeOf e).run P w=.ok (bT P e) w:=by simp[sizeOf,cM hi,bT,hi]
   obtain⟨hw,hk⟩:=h;have hl:(dd x).length=x.size:=by simp[dd]
   have he:(dd x).take (fl x.size dl)=(dd x).take dl:=by
    by_cases hx:x.size≤dl
    ·rw[show fl x.size dl=x.size from Nat.min_eq_left hx,bj (by omega),bj (by omega)]
    ·rw[show fl x.size dl=dl from Nat.min_eq_right (by omega)]
   have hf:(Builtin.firstCells (bT P e) (fl x.size dl) (.string x)).run P w=.ok ((dd x).take dl).toArray w:=by
    rw[y8,he]
   refine⟨_,_,?_,el w (fV w.heap b 0 ((dd x).take dl)),hk⟩;cases b with
   |none=>simp[Builtin.copy_,ay (dz ht),Builtin.lenOf,hz,hf,goInt];rfl
   |some c=>
    have hst:=Ap (P:=P) (m:=0) (wD _ dl (Cg x)) hw;simp only[Addr.add,if_pos]at hst;simp[Builtin.copy_,ay (dz ht),Builtin.lenOf,hz,hf,goInt,hst,fV]
 ·exact h.elim
theorem Jf(k v:Value)(clock:Nat):∀(es:List MapEntry),(match es.findIdx? (fun e=>f7 k e.key)with
  |some i=>(es.modify i (fun e=>{e with key:=k,val:=v}),clock)
  |none=>(es++ [{key:=k,val:=v,born:=clock}],clock+1))=Hu k v clock es
 | []=>rfl
 |e::es=>by
  have ih:=Jf k v clock es;simp only[Hu,List.findIdx?_cons];cases hk:f7 k e.key with
  |true=>simp[List.modify]
  |false=>
   simp only[cS,if_false];rw[←ih];cases hf:es.findIdx? (fun e=>f7 k e.key)with
   |none=>simp
   |some i=>simp[List.modify]
theorem th{d:TypeDesc}{c:CK}(hd:m0 d c)(x:c.den):∀(es:List MapEntry) (i:Nat),AV c es→
  Instr.findNow d (c.enc x) es i=some (match es.findIdx? (fun e=>f7 (c.enc x) e.key)with
   |some j=>(es[j]?).map fun e=>(i+j,e.val)
   |none=>none)
 | [],i,_=>rfl
 |e::es,i,h=>by
  obtain⟨y,hy⟩:=h e (by simp);have hs:=yP hd x y;rw[←hy]at hs;have ih:=th hd x es (i+1) fun e' he'=>h e' (by simp[he'])
  simp only[Instr.findNow,List.findIdx?_cons,hs];cases hb:f7 (c.enc x) e.key with
  |true=>simp
  |false=>
   simp only[cS,if_false];rw[ih];cases hf:es.findIdx? (fun e=>f7 (c.enc x) e.key)with
   |none=>simp
   |some j=>simp[jP,Nat.add_comm 1 j]
theorem zx{a b:ByteArray}(h:(a==b)=true):a=b:=by
 cases a with|mk a=>cases b with|mk b=>
 have h:(a==b)=true:=h;rw[eq_of_beq h]
theorem Bh(a:ByteArray):(a==a)=true:=by
 cases a with|mk a=>
 exact beq_self_eq_true a
theorem D8{d:TypeDesc}{c:CK}(hd:m0 d c)(x y:c.den)(h:f7 (c.enc x) (c.enc y)=true):Instr.sameBits 10000 (c.enc y) (c.enc x)=true:=by
 rcases hd with⟨i,rfl,rfl⟩|⟨rfl,rfl⟩|⟨rfl,rfl⟩
 ·have h:x=y:=eq_of_beq (α:=Int) h
  subst h;have:∀n:Int,(i==i&&n==n)=true:=fun n=>by simp
  exact this x
 ·have h:x=y:=zx h
  subst h;exact Bh x
 ·have h:x=y:=eq_of_beq (α:=Bool) h
  subst h;exact beq_self_eq_true (α:=Bool) x
theorem rC{w:World}{r:Nat}{es:Array MapEntry}{clock:Nat}{o:Obj}(h:w.heap[r]? =some (.map es clock)):(setObj r o).run P w=.ok () (jg w (w.heap.setIfInBounds r o)):=by
 simp only[setObj,Sem.run,h];rfl
theorem HG{t k e:TypeId}{d:TypeDesc}{c:CK}(hu:P.underlying t=some (.map k e))(hk:P.underlying k=some d)(hd:m0 d c){r:Nat}{x:c.den}{v:Value}{w:World}(hm:JL c w.heap r):
  (Instr.mapUpdate t (.map (some r)) (c.enc x) v).run P w=.ok () (jg w (NY w.heap r (c.enc x) v)):=by
 obtain⟨es,clock,hb,hks⟩:=hm;obtain⟨q,h1,h2,h3⟩:=rK (P:=P) hd hk x hks w;rw[th hd x es.toList 0 hks]at h2;have hput:=Jf (c.enc x) v clock es.toList;have hmp:NY w.heap r (c.enc x) v=w.heap.setIfInBounds r (.map (Hu (c.enc x) v clock es.toList).1.toArray (Hu (c.enc x) v clock es.toList).2):=by
  simp only[NY,hb]
 rw[hmp,←hput];simp only[Instr.mapUpdate,Sem.run_bind,ay hu,Result.andThen_ok,kr hb,lN hd hk,h1];cases hf:es.toList.findIdx? (fun e=>f7 (c.enc x) e.key)with
 |none=>
  rw[hf]at h2;simp only[bF.injEq]at h2;subst h2;simp only[rC hb];congr 4
  apply cX;simp
 |some i=>
  rw[hf]at h2;simp only[bF.injEq]at h2;obtain⟨hi,hp,_⟩:=List.findIdx?_eq_some_iff_getElem.1 hf;have he:es.toList[i]? =some es.toList[i]:=ae hi;rw[he]at h2;simp only[fA,aR]at h2;subst h2;have he':es[i]? =some es.toList[i]:=by rw[←bI];exact he
  obtain⟨y,hy⟩:=hks es.toList[i] (List.getElem_mem hi);have hsb:Instr.sameBits 10000 (es.toList[i]).key (c.enc x)=true:=by
   rw[hy]at hp⊢;exact D8 hd x y hp
  simp only[he',fA,Option.getD_some,Instr.keyThatStays,hsb,if_true,Sem.run_bind,Sem.run_pure,Result.andThen_ok,rC hb];congr 4
  apply cX;simp
theorem uF{t:TypeId}{m k v:Value}{K:WK}{w:World}(h:zI P t m k v K w.heap):Wu P (Instr.mapUpdate t m k v) K w:=by
 unfold zI at h;split at h
 ·rename_i c e m hc
  obtain⟨kt,d,hu,hk,hd⟩:=sZ hc;obtain⟨kx,rfl,r,rfl,hm,hK⟩:=CK.dec_sound h;exact⟨_,HG hu hk hd hm,el _ _,hK⟩
 ·exact h.elim
theorem F8(k:Value):∀(es:List MapEntry),(match es.findIdx? (fun e=>f7 k e.key)with
  |some i=>es.eraseIdx i
  |none=>es)=F9 k es
 | []=>rfl
 |e::es=>by
  have ih:=F8 k es;simp only[F9,List.findIdx?_cons];cases hk:f7 k e.key with
  |true=>simp
  |false=>
   simp only[cS,if_false];rw[←ih];cases hf:es.findIdx? (fun e=>f7 k e.key)<;>simp
theorem FM{t k e ty:TypeId}{ts:Array TypeId}{d:TypeDesc}{c:CK}(ht:ts[0]? =some t) (hu:P.underlying t=some (.map k e)) (hk:P.underlying k=some d) (hd:m0 d c) {r:Nat} {x:c.den} {w:World} (hm:JL c w.heap r):
  (Builtin.delete_ ts ty #[.map (some r),c.enc x]).run P w=.ok (.tuple #[]) (jg w (Jl w.heap r (c.enc x))):=by
 obtain⟨es,clock,hb,hks⟩:=hm;obtain⟨q,h1,h2,h3⟩:=rK (P:=P) hd hk x hks w;rw[th hd x es.toList 0 hks]at h2;have hdrop:=F8 (c.enc x) es.toList;have hmp:Jl w.heap r (c.enc x)=w.heap.setIfInBounds r (.map (F9 (c.enc x) es.toList).toArray clock):=by
  simp only[Jl,hb]
 rw[hmp,←hdrop];simp only[Builtin.delete_,ht,List.getElem?_toArray,List.getElem?_cons_zero,List.getElem?_cons_succ,Sem.run_bind,ay hu,Result.andThen_ok,kr hb,lN hd hk,h1];cases hf:es.toList.findIdx? (fun e=>f7 (c.enc x) e.key)with
 |none=>
  rw[hf]at h2;simp only[bF.injEq]at h2;subst h2;simp[rC hb]
 |some i=>
  rw[hf]at h2;simp only[bF.injEq]at h2;obtain⟨hi,hp,_⟩:=List.findIdx?_eq_some_iff_getElem.1 hf;have he:es.toList[i]? =some es.toList[i]:=ae hi;rw[he]at h2;simp only[fA,aR]at h2;subst h2;have hi':i<es.size:=by simpa using hi
  have herase:es.eraseIdxIfInBounds i=(es.toList.eraseIdx i).toArray:=by
   apply cX;simp[Array.eraseIdxIfInBounds,hi']
  simp[rC hb,herase]
theorem Ae{t ty:TypeId}{ts:Array TypeId}{m k:Value}{K:WK}{w:World}(ht:ts[0]? =some t) (h:Af P t m k K w.heap):Wv P (Builtin.delete_ ts ty #[m,k]) K w:=by
 unfold Af at h;split at h
 ·rename_i c e m hc
  obtain⟨kt,d,hu,hk,hd⟩:=sZ hc;obtain⟨kx,rfl,h⟩:=CK.dec_sound h;rcases h with⟨rfl,hK⟩|⟨r,rfl,hm,hK⟩
  ·refine⟨_,w,?_,Tame.refl w,hK⟩
   simp[Builtin.delete_,ht,ay hu,lN hd hk]
  ·exact⟨_,_,FM ht hu hk hd hm,el _ _,hK⟩
 ·exact h.elim
theorem Kf{t k e:TypeId}(hu:P.underlying t=some (.map k e)){m:Option Nat}{clock:Nat}{w:World}(hm:m=none∧clock=0∨∃r es,m=some r∧w.heap[r]? =some (.map es clock)):
  (Instr.range t (.map m)).run P w=.ok (.pointer (some (aC w.heap))) (jg w (w.heap.push (.mapIter m clock #[] clock))):=by
 rcases hm with⟨rfl,rfl⟩|⟨r,es,rfl,hb⟩
 ·simp only[Instr.range,Sem.run_bind,ay hu,Result.andThen_ok,Sem.run_pure,AB,aC]
 ·simp only[Instr.range,Sem.run_bind,ay hu,Result.andThen_ok,Sem.run_pure,kr hb,AB,aC]
theorem sO{w:World}{i:Nat}{m:Option Nat}{since:Nat}{seen:Array Nat}{last:Nat}(h:w.heap[i]? =some (.mapIter m since seen last)):(getObj i).run P w=.ok (.mapIter m since seen last) w:=by
 simp only[getObj,Sem.run,h]
theorem Fl{w:World}{i:Nat}{m:Option Nat}{since:Nat}{seen:Array Nat}{last:Nat}{o:Obj}(h:w.heap[i]? =some (.mapIter m since seen last)):(setObj i o).run P w=.ok () (jg w (w.heap.setIfInBounds i o)):=by
 simp only[setObj,Sem.run,h];rfl
theorem Be(n:Nat)(hn:0<n)(w:World):∃k w',k<n∧(choose (.mapNext n)).run P w=.ok k w'∧Tame w w'∧w'.heap=w.heap:=by
 unfold choose;simp only[Sem.run];by_cases h:(Question.mapNext n).forced=true
 ·exact⟨0,w,hn,by rw[if_pos h],Tame.refl w,rfl⟩
 ·refine⟨(Question.mapNext n).cut (w.tape w.drawn (.mapNext n)),{w with drawn:=w.drawn+1},Nat.mod_lt _ hn,by rw[if_neg h],⟨rfl,rfl,rfl⟩,rfl⟩
theorem Fc{it:Value}{t:TypeId}{K:WK}{w:World}(h:Lq it K w.heap):Wv P (Instr.next it false t) K w:=by
 unfold Lq at h;split at h
 ·rename_i a
  obtain⟨h0,m,since,seen,last,hi,h⟩:=h;obtain⟨b,off,spot⟩:=a;simp only at h0 hi h;subst h0;rcases h with⟨rfl,hK⟩|⟨r,es,clock,rfl,hb,hnon,hend,hgo⟩
  ·exact⟨_,w,by simp only[Instr.next,Sem.run_bind,sO hi,Result.andThen_ok,Sem.run_pure],Tame.refl w,hK⟩
  ·have hguard:(!seen.isEmpty&& !es.isEmpty&&es.all (fun e=>decide (e.born≥last)))=false:=by
    rcases hnon with h|h|h<;>simp[h]
   obtain⟨left,hleft⟩:∃left,left=es.filter fun e=> !seen.contains e.born:=⟨_,rfl⟩
   obtain⟨old,hold⟩:∃old,old=left.filter (·.born<since):=⟨_,rfl⟩
   obtain⟨new,hnew⟩:∃new,new=left.filter (·.born≥since):=⟨_,rfl⟩
   obtain⟨cand,hcand⟩:∃cand:Array (Option MapEntry),cand=(if old.isEmpty then #[none]else #[])++(old++new).map some:=⟨_,rfl⟩
   have hpos:0<cand.size:=by
    rw[hcand];by_cases ho:old.isEmpty=true
    ·simp[ho];omega
    ·have:old.size≠0:=by simpa using ho
     simp[ho];omega
   obtain⟨k,w1,hk,hrun,ht,hh⟩:=Be (P:=P) cand.size hpos w;obtain⟨c,hc⟩:∃c,cand[k]? =some c:=⟨cand[k],Array.getElem?_eq_getElem hk⟩;have hi1:w1.heap[b]? =some (.mapIter (some r) since seen last):=by rw[hh];exact hi
   have hguard':(!seen.isEmpty&& !es.isEmpty&&es.all fun x=>decide (x.born≥last))=false:=hguard
   cases c with
   |none=>
    refine⟨.tuple #[.bool false],w1,?_,ht,?_⟩
    ·simp only[Instr.next,Sem.run_bind,sO hi,Result.andThen_ok,Sem.run_pure,kr hb,hguard',cS,if_false,←hleft,←hold,←hnew,←hcand,hrun,hc]
    ·rw[hh]
     have hold0:old.isEmpty=true:=by
      have hm:none∈cand:=np hc;rw[hcand]at hm;by_cases ho:old.isEmpty=true
      ·exact ho
      ·simp[ho]at hm
     refine hend fun e he hlt=>?_
     cases hs:seen.contains e.born with
     |true=>rfl
     |false=>
      have hmem:e∈old:=by
       rw[hold,hleft];simp only[nM];exact⟨⟨by simpa using he,by rw[hs];rfl⟩,by simpa using hlt⟩
      rw[Array.isEmpty_iff]at hold0;rw[hold0]at hmem;simp at hmem
   |some e=>
    have hmem:e∈es∧seen.contains e.born=false:=by
     have hm:some e∈cand:=np hc;have hm2:e∈left:=by
      rw[hcand]at hm;rw[Array.mem_append]at hm;rcases hm with hm|hm
      ·split at hm<;>simp at hm
      ·simp only[Array.mem_map,bF.injEq,exists_eq_right,Array.mem_append]at hm
       rcases hm with hm|hm
       ·rw[hold]at hm;exact(nM.1 hm).1
       ·rw[hnew]at hm;exact(nM.1 hm).1
     rw[hleft]at hm2;have:=nM.1 hm2;exact⟨this.1,by simpa using this.2⟩
    refine⟨.tuple #[.bool true,e.key,e.val],jg w1 (w1.heap.setIfInBounds b (.mapIter (some r) since (seen.push e.born) clock)),?_,ht.trans (el _ _),?_⟩
    ·simp only[Instr.next,Sem.run_bind,sO hi,Result.andThen_ok,Sem.run_pure,kr hb,hguard',cS,if_false,←hleft,←hold,←hnew,←hcand,hrun,hc,Fl hi1]
    ·rw[hh]
     exact hgo e (by simpa using hmem.1) hmem.2
 ·exact h.elim
theorem Ch{t e:TypeId}{z:List Value}{k k':IntKind}{l c:Int}{w:World}(ht:sm P t=some e)(hz:oB P e=some z)(hzl:z.length=bT P e)(h0:0≤l)(h1:l≤c)(h2:c≤9223372036854775807)(h3:oK P e*c≤2^48):
  (Instr.makeSlice t (.int k l) (.int k' c)).run P w=.ok (.slice (some (aC w.heap)) l.toNat c.toNat) (jg w (hnew w.heap (dR c.toNat z) e)):=by
 obtain⟨v,hv,hvc⟩:=jf hz;obtain⟨i,hi,hiz⟩:=pd hv;have hsz:bT P e=i.size:=by simp[bT,hi]
 have hby:oK P e=i.bytes:=by simp[oK,hi]
 have hvs:v.cells.size=i.size:=by rw[←hsz,←hzl,←hvc];simp
 have hl:=xP h0 (by omega);have hc:=xP (show 0≤c by omega) h2
 rw[hby]at h3;have c1:¬(c<0):=by omega
 have c2:¬(281474976710656<(i.bytes:Int)*c):=by omega
 have c3:¬(l<0):=by omega
 have c4:¬(c<l):=by omega
 by_cases hz0:c.toNat*i.size=0
 ·have hz1:(dR c.toNat z).length=0:=by simp[dR,hzl,hsz,hz0]
  rw[aq.1 hz1];simp[Instr.makeSlice,ay (dz ht),asInt,asIntOf,cM hi,hl,hc,c1,c2,c3,c4,sizeOf,hz0,jn]
 ·have hrow:((Array.range (c.toNat*i.size)).map (fun j=>v.cells[j%v.cells.size]!))=(dR c.toNat z).toArray:=by
   rw[←hvs,IU,hvc]
  have key:(newRow e ((Array.range (c.toNat*i.size)).map (fun j=>v.cells[j%v.cells.size]!))).run P w=.ok (aC w.heap) (jg w (hnew w.heap (dR c.toNat z) e)):=by
   rw[hrow,jn]
  simp[Instr.makeSlice,ay (dz ht),asInt,asIntOf,cM hi,hl,hc,c1,c2,c3,c4,sizeOf,hz0,eA hv];rw[key];rfl
theorem Agree.args{N:Nat}{r:cA}{a:Act}(h:Agree N r a){os:Array Operand}{vs:List Value}(hv:oF r os.toList=some vs):os.map a.eval=vs.toArray:=by
 rw[←mL h hv];apply cX;simp
theorem HC.out{f:FuncId}{args:List Value}{ks:List Kind}{K:WK}{w:World}(h:HC P f args ks (fun x h'=>K (AG ks (lM ks x)) h') w.heap):Gm P (callFunc f args.toArray) K w:=by
 rcases h.run w rfl with⟨h1,h2⟩|⟨v,w',h1,ht,x,rfl,hk⟩
 ·refine .inr (.inr (.inl ⟨f,args.toArray,h1,h2.mono ?_⟩))
  rintro e w' ⟨ht,x,rfl,hk⟩;exact⟨ht,_,rfl,hk⟩
 ·exact .inl ⟨_,w',h1,ht,hk⟩
theorem KO{src dst e:TypeId}{s:ByteArray}{w:World}(hs:P.underlying src=some .string)(hd:P.underlying dst=some (.slice e))(he:P.underlying e=some (.int .u8)):
  ∃c,s.size≤c∧(convert src dst (.string s)).run P w=.ok (.slice (some (aC w.heap)) s.size c) (jg w.drew (w.heap.push (.cells (dd s++dJ (c-s.size) (Value.int .u8 0)).toArray e (c,c+1)))):=by
 have hge:s.size≤grownCap w s.size 0 e:=nK _ _;refine⟨_,hge,?_⟩;rw[Go.Lib.run_convert_string_bytes w src dst e s hs hd he];have hc:(Go.Lib.bytesCells w e s).size=grownCap w s.size 0 e:=by
  unfold Go.Lib.bytesCells;rw[Array.size_append,Array.size_map,Array.size_replicate,show s.data.size=s.size from rfl]
  omega
 have hcl:(dd s++dJ (grownCap w s.size 0 e-s.size) (Value.int .u8 0)).toArray=Go.Lib.bytesCells w e s:=by
  unfold Go.Lib.bytesCells dd;apply cX;simp
 rw[hcl];unfold Go.Lib.bytesWorld World.freeze;rw[if_neg (by omega),hc];unfold World.alloc World.drew jg;congr 1
 congr 1
 apply Array.ext (by simp);intro i h1 h2;rw[Array.getElem_modify];simp only[Array.getElem_push];split
 ·rename_i e
  subst e;simp
 ·rename_i e
  have hi:i<w.heap.size:=by simp at h2;omega
  rw[dif_pos hi,dif_pos hi]
theorem xR{o:Oper}{r:cA}{K:WK}{w:World}{N:Nat}{a:Act}(ha:Agree N r a)(hq:B9 P o r K w.heap):Gm P (execOp a.eval o) K w:=by
 have ev:∀{x:Operand} {v:Value},du r x=some v→a.eval x=v:=fun h=>kw ha h
 obtain⟨dst,op,type,sR,after,guard⟩:=o;cases op with
 |alloc t=>
  simp only[B9]at hq;split at hq
  ·rename_i z hz
   obtain⟨v,hv,hvc⟩:=jf hz;have he:(Instr.alloc t true (.tuple #[])).run P w=.ok (.pointer (some (aC w.heap))) (jg w (hnew w.heap z t)):=by
    simp[Instr.alloc,eA hv,newVar,jn,hvc]
   exact Wv.out ⟨_,_,he,el _ _,hq⟩
  ·exact hq.elim
 |box t x=>
  simp only[B9]at hq;split at hq
  ·rename_i v hv
   have he:(Instr.box t v).run P w=.ok (.pointer (some (aC w.heap))) (jg w (hnew w.heap v.cells.toList t)):=by
    simp[Instr.box,newVar,jn]
   simp only[execOp,ev hv];exact Wv.out ⟨_,_,he,el _ _,hq⟩
  ·exact hq.elim
 |build t ps=>
  simp only[B9]at hq;split at hq
  ·rename_i vs hvs
   split at hq
   ·rename_i cs hcs
    have hp:(ps.map fun x=>(x.1,a.eval x.2))=vs.toArray:=by
     rw[←mN ha hvs];apply cX;simp
    have he:=w7 (ps:=vs.toArray) (by simpa using hcs) w;simp only[execOp];rw[show(ps.map fun(i,x)=>(i,a.eval x))=vs.toArray from hp]
    exact Wv.out ⟨_,w,he,Tame.refl w,hq⟩
   ·exact hq.elim
  ·exact hq.elim
 |buildSlice t n ps=>
  simp only[B9]at hq;split at hq
  ·rename_i e vs ht hvs
   split at hq
   ·rename_i z hz
    cases hb:(ul (n*bT P e) 16777216&&bE z.length (bT P e))with
    |false=>rw[hb]at hq;exact hq.elim
    |true=>
     rw[hb]at hq;simp only[aY]at hb;simp only[cond_true]at hq;split at hq
     ·rename_i cs hcs
      have hp:(ps.map fun x=>(x.1,a.eval x.2))=vs.toArray:=by
       rw[←mN ha hvs];apply cX;simp
      have he:=yn (ps:=vs.toArray) ht hz (g9 hb.1) (aP hb.2) (by simpa using hcs) w;simp only[execOp];rw[show(ps.map fun(i,x)=>(i,a.eval x))=vs.toArray from hp]
      exact Wv.out ⟨_,_,he,el _ _,hq⟩
     ·exact hq.elim
   ·exact hq.elim
  ·exact hq.elim
 |store t x y=>
  simp only[B9]at hq;split at hq
  ·rename_i b v hb hv
   simp only[execOp,ev hb,ev hv];exact Wu.out (DY hq)
  ·exact hq.elim
 |mapUpdate t m k x=>
  simp only[B9]at hq;split at hq
  ·rename_i mv kv xv hm hk hx
   simp only[execOp,ev hm,ev hk,ev hx];exact Wu.out (uF hq)
  ·exact hq.elim
 |insert t m k x=>
  simp only[B9]at hq;split at hq
  ·rename_i mv kv xv hm hk hx
   simp only[execOp,ev hm,ev hk,ev hx];exact Wu.out (uF hq)
  ·exact hq.elim
 |makeMap t n=>
  simp only[B9]at hq;cases n with
  |none=>exact Wv.out ⟨_,jg w (w.heap.push (.map #[] 0)),by simp[Instr.makeMap];rfl,el _ _,hq⟩
  |some n=>
   simp only at hq;split at hq
   ·rename_i k i hn ht
    exact Wv.out ⟨_,jg w (w.heap.push (.map #[] 0)),by simp[Instr.makeMap,ev hn,ay ht,asInt,asIntOf];rfl,el _ _,hq⟩
   ·exact hq.elim
 |makeSlice t l c=>
  simp only[B9]at hq;split at hq
  ·rename_i e k l' k' c' ht hl hc
   split at hq
   ·rename_i z hz
    cases hb:bE z.length (bT P e)with
    |false=>rw[hb]at hq;exact hq.elim
    |true=>
     rw[hb]at hq;obtain⟨⟨h0,h1,h2,h3⟩,hq⟩:=hq;simp only[execOp,ev hl,ev hc];exact Wv.out ⟨_,_,Ch ht hz (aP hb) h0 h1 h2 h3,el _ _,hq⟩
   ·exact hq.elim
  ·exact hq.elim
 |convert s d x=>
  simp only[B9]at hq;split at hq
  ·rename_i e v hs hd hx
   cases hu:HR P e with
   |false=>rw[hu]at hq;exact hq.elim
   |true=>
    rw[hu]at hq;obtain⟨c,hc,hrun⟩:=KO (w:=w) (s:=v) hs hd (AX hu);simp only[execOp,ev hx];exact Wv.out ⟨_,_,hrun,⟨rfl,rfl,rfl⟩,hq c hc⟩
  ·exact hq.elim
 |range t x=>
  simp only[B9]at hq;split at hq
  ·rename_i k e m hu hx
   obtain⟨clock,hm,hq⟩:=hq;simp only[execOp,ev hx];exact Wv.out ⟨_,_,Kf hu hm,el _ _,hq⟩
  ·exact hq.elim
 |next it isS=>
  cases isS with
  |true=>simp only[B9]at hq
  |false=>
   simp only[B9]at hq;split at hq
   ·rename_i v hv
    simp only[execOp,ev hv];exact Wv.out (Fc hq)
   ·exact hq.elim
 |call c=>
  simp only[B9]at hq;have eb:∀{b:Builtin} {vs:List Value},c.callee=.builtin b→oF r c.args.toList=some vs→∃cs:Array Bool,∀w,(execOp a.eval ⟨dst,.call c,type,sR,after,guard⟩).run P w=
    (builtin b c.argTypes type cs vs.toArray).run P w:=by
   intro b vs hc hvs;refine⟨c.args.map fun| .const _=>true|_=>false,fun w=>?_⟩
   simp[execOp,resolve,hc,ha.args hvs,invoke];rfl
  have wo:∀{s s':Sem Next},(∀w,s.run P w=s'.run P w)→Gm P s' K w→Gm P s K w:=by
   intro s s' he h;unfold Gm at h⊢;simp only[he];exact h
  split at hq
  ·rename_i s x hc hvs
   split at hq
   ·rename_i t u hat
    obtain⟨cs,er⟩:=eb hc hvs;refine wo er ?_;have hat':c.argTypes= #[t,u]:=by apply cX;rw[hat]
    simp only[builtin,hat'];split at hq
    ·rename_i e' hu;exact Wv.out (uG (.inl ⟨e',hu⟩) hq)
    ·rename_i hu;exact Wv.out (uG (.inr hu) hq)
    ·rename_i k0 hu;exact Wv.out (Ag hu hq)
    ·exact hq.elim
   ·exact hq.elim
  ·rename_i x hc hvs
   split at hq
   ·rename_i t hat
    obtain⟨cs,er⟩:=eb hc hvs;refine wo er ?_;have hat':c.argTypes= #[t]:=by apply cX;rw[hat]
    simp only[builtin,hat'];exact Wv.out (DZ hq)
   ·exact hq.elim
  ·rename_i s x hc hvs
   split at hq
   ·rename_i t u hat
    obtain⟨cs,er⟩:=eb hc hvs;refine wo er ?_;have hat':c.argTypes= #[t,u]:=by apply cX;rw[hat]
    simp only[builtin,hat'];exact Wv.out (Fe hq)
   ·exact hq.elim
  ·rename_i m k hc hvs
   split at hq
   ·rename_i t u hat
    obtain⟨cs,er⟩:=eb hc hvs;refine wo er ?_;simp only[builtin];exact Wv.out (Ae (by rw[←bI,hat];rfl) hq)
   ·exact hq.elim
  ·rename_i f args hc hvs
   unfold Ot at hq;split at hq
   ·exact hq.elim
   ·rename_i ks hks
    split at hq
    ·rename_i f
     refine wo (s':=callFunc f args.toArray) (fun w=>?_) hq.out
     simp[execOp,resolve,hc,ha.args hvs,Act.eval,Deferred.ofValue,invoke]
    ·rename_i f hf
     split at hq
     ·rename_i fv hfv
      rcases hq.run with⟨g,first,cap,rfl,hh⟩|⟨l,rfl,hh⟩
      rotate_left
      ·obtain⟨fn,tmps,assign,body,h1,h2⟩:=hh.run w rfl
       refine .inr (.inr (.inr ⟨l,fn,tmps,assign,body,?_,fun c cs=>?_⟩))
       ·rw[←h1]
        simp[execOp,resolve,hc,ha.args hvs,ev hfv,Deferred.ofValue,invoke]
       ·obtain⟨b,w',ht,hk,hs⟩:=h2 c cs
        refine⟨b,w',ht,?_,hs⟩;obtain⟨t,e,hk⟩:=pK hk;have hl:ks.length=1:=by rw[←qj ks t,←e];rfl
        match ks,hl,t,e,hk with
        | [k],_,t,e,hk=>rw[←e]at hk;exact hk
      refine wo (s':=callFunc g (first.toList++args++cap.toList).toArray) (fun w=>?_) hh.out
      have e:first++args.toArray++cap=(first.toList++args++cap.toList).toArray:=by apply cX;simp
      rw[←e];simp[execOp,resolve,hc,ha.args hvs,ev hfv,Deferred.ofValue,invoke]
     ·exact hq.elim
  ·exact hq.elim
 |_=>simp only[B9]at hq
end Go.Lift
