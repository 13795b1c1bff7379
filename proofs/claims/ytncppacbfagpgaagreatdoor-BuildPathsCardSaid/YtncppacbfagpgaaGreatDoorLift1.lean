/- A part of the proof that the named laws of this program answer true, whatever the input. -/
import Derived.Test.YtncppacbfagpgaaGreatDoorLift0
import Derived.Laws.Append
import Derived.Laws.Cover3
import Derived.Laws.StructEq
import Derived.Laws.BytesString
import Derived.Lib.ConvBytes
open Array renaming ext'→cN,getElem?_toList→bo,mem_of_getElem?→nv,mem_filter→nP
open Bool renaming and_eq_true→aZ,false_eq_true→cH
open ByteArray renaming data_extract→jB
open List renaming extract_eq_take_drop→eE,map_cons→dI,foldl_cons→hJ,map_map→sy,take_of_length_le→aU,length_cons→aq,cons_append→cS,replicate→iY,length_eq_zero_iff→ar,getElem?_eq_getElem→ai
open Nat renaming beq→bm,add_assoc→qZ,eq_of_beq_eq_true→aP,le_of_ble_eq_true→ad,add_zero→eC,zero_add→aF,min→dz
open Option renaming some→bG,isSome_iff_exists→fY,map_some→gl
open Prod renaming mk→oh
open UInt8 renaming ofNat→fG
namespace Go.Lift
open Go
def Mm(S:Option (ae→Prop))(h:ae):Prop:=match S with|none=>True|some f=>f h
def Yv(P:Program)(s:Sem Value)(K:RK)(h:ae):Prop:=∃v S,K v S∧Mm S h∧∀w:World,Mm S w.heap→s.run P w=.ok v w
theorem Yv.of_pure{P:Program}{s:Sem Value}{K:RK}{h:ae}{v:Value}(hk:K v none)(hr:∀w:World,s.run P w=.ok v w):Yv P s K h:=
 ⟨v,none,hk,trivial,fun w _=>hr w⟩
variable {P:Program}
theorem tl{t:TypeId}{f:Nat}{u:TypeId}{off:Nat}(h:tm P t f=some (u,off)):
  ∃fs g,P.underlying t=some (.struct fs)∧fs[f]? =some g∧g.type=u∧g.offset=off:=by
 unfold tm at h;split at h
 ·rename_i fs hu
  split at h
  ·rename_i g hg
   simp only[bG.injEq,oh.injEq]at h;exact⟨fs,g,hu,by simpa using hg,h.1,h.2⟩
  ·cases h
 ·cases h
theorem u4{t:TypeId}(h:bm (bM P t) 0=false)(w:World):(sizeOf t).run P w=.ok (bM P t) w:=by
 unfold bM at h⊢;cases hi:P.info? t with
 |none=>rw[hi]at h;cases h
 |some i=>simp[sizeOf,cD hi]
theorem zJ{t:TypeId}{f:Nat}{u:TypeId}{off:Nat}{a:Addr}{K:RK}{h:ae}(hf:tm P t f=some (u,off))
  (hk:bif bm (bM P u) 0 then False else K (.pointer (some (adr a off))) none):Yv P (Instr.fieldAt t (.pointer (some a)) f) K h:=by
 obtain⟨fs,g,hu,hg,rfl,rfl⟩:=tl hf;cases hz:bm (bM P g.type) 0 with
 |true=>rw[hz]at hk;exact hk.elim
 |false=>
  rw[hz]at hk;refine .of_pure hk fun w=>?_
  have hne:bM P g.type≠0:=fun e=>by rw[e]at hz;cases hz
  simp only[Instr.fieldAt,Sem.run_bind,aw hu,Result.andThen_ok,hg,Instr.sureAddr,Sem.run_pure,fieldPlace,u4 hz];simp[hne,qS]
theorem sn{t:TypeId}{i:TypeInfo}(_:P.info? t=some i)(hu:∃d,P.underlying t=some d)(w:World):(isAgg t).run P w=.ok (sq P t) w:=by
 obtain⟨d,hd⟩:=hu;simp only[isAgg,Sem.run_bind,aw hd,Result.andThen_ok];unfold sq;rw[hd];cases d<;>rfl
theorem we{op:BinOp}{k k':IntKind}{a b:Int}{K:RK}{h:ae}(hs:op=.shl∨op=.shr)(hv:Hc op k a b K):Yv P (Op.shift op k a k' b) K h:=by
 rcases hs with rfl|rfl
 ·obtain⟨h0,hk⟩:=hv
  refine .of_pure hk fun w=>?_
  simp[Op.shift,Int.not_lt.2 h0]
 ·obtain⟨h0,hk⟩:=hv
  refine .of_pure hk fun w=>?_
  simp[Op.shift,Int.not_lt.2 h0]
theorem HQ{op:BinOp}{k:IntKind}{a b:Int}{K:RK}{h:ae}(hv:NI op k a b K)(hs:op≠ .shl∧op≠ .shr):Yv P (binOp op 0 (.int k a) (.int k b)) K h:=by
 cases op<;>simp only[NI]at hv
 case quo=>obtain⟨h0,hk⟩:=hv;exact .of_pure hk fun w=>by simp[binOp,Op.intDiv,h0]
 case rem=>obtain⟨h0,hk⟩:=hv;exact .of_pure hk fun w=>by simp[binOp,Op.intDiv,h0]
 all_goals exact .of_pure hv fun w=>by simp[binOp,Op.intArith,Op.intBits,Op.intCmp]
theorem BF(op:BinOp)(t:TypeId)(k k':IntKind)(a b:Int):binOp op t (.int k a) (.int k' b)=binOp op 0 (.int k a) (.int k' b):=by
 cases op<;>rfl
theorem G7{op:BinOp}{t:TypeId}{a b:ByteArray}{K:RK}{h:ae}(hv:Nu op a b K):Yv P (binOp op t (.string a) (.string b)) K h:=by
 cases op<;>simp only[Nu]at hv
 case add=>
  obtain⟨h0,hk⟩:=hv;refine .of_pure hk fun w=>?_
  have:¬(((a.size+b.size:Nat):Int)>IntKind.i64.max):=by
   have:IntKind.i64.max=9223372036854775807:=by decide
   omega
  simp only[binOp,Op.stringOp,if_neg this,Sem.run_pure]
 all_goals exact .of_pure hv fun w=>by simp[binOp,Op.stringOp]
theorem oC{t:TypeId}{x y:Value}{b:Bool}{w:World}(h:∀d,(Op.equalIn (d+1) t x y).run P w=.ok b w):(Op.equal t x y).run P w=.ok b w:=h 9999
theorem Bv{t:TypeId}{e:TypeId}(hu:P.underlying t=some (.pointer e))(a:Option Addr)(w:World):(Op.equal t (.pointer a) (.pointer none)).run P w=.ok a.isNone w:=by
 refine oC fun d=>?_
 simp only[Op.equalIn,Sem.run_bind,aw hu,Result.andThen_ok];cases a<;>rfl
theorem H1(op:BinOp)(t:TypeId)(x y:Operand)(a b:Value)(h:∀c d,a=.agg c→b=.agg d→False)(hi:a=.nilIface→b=.nilIface→False)(w:World):
  (eqGuard op t x y a b).run P w=.ok () w:=by
 cases op;case eql=>cases a<;>cases b<;>first|rfl|exact(hi rfl rfl).elim|exact(h _ _ rfl rfl).elim
 case neq=>cases a<;>cases b<;>first|rfl|exact(hi rfl rfl).elim|exact(h _ _ rfl rfl).elim
 all_goals rfl
theorem KE(t:TypeId)(x y:Value)(hx:∀k a,x≠ .int k a)(hs:∀s,x≠ .string s)(hf:∀k a,x≠ .float k a)(hc:∀k a b,x≠ .complex k a b):binOp .eql t x y=(do pure (.bool (←Op.equal t x y))):=by
 cases x<;>first|rfl|exact absurd rfl (hx _ _)|exact absurd rfl (hs _)|exact absurd rfl (hf _ _)|exact absurd rfl (hc _ _ _)
theorem KD(t:TypeId)(x y:Value)(hx:∀k a,x≠ .int k a)(hs:∀s,x≠ .string s)(hf:∀k a,x≠ .float k a)(hc:∀k a b,x≠ .complex k a b):binOp .neq t x y=(do pure (.bool (!(←Op.equal t x y)))):=by
 cases x<;>first|rfl|exact absurd rfl (hx _ _)|exact absurd rfl (hs _)|exact absurd rfl (hf _ _)|exact absurd rfl (hc _ _ _)
theorem oD{t:TypeId}{neg:Bool}{x y:Value}{b:Bool}{w:World}(he:(Op.equal t x y).run P w=.ok b w)
  (hx:∀k a,x≠ .int k a)(hs:∀s,x≠ .string s)(hf:∀k a,x≠ .float k a)(hc:∀k a b,x≠ .complex k a b):
  (binOp (bif neg then .neq else .eql) t x y).run P w=.ok (.bool (bif neg then !b else b)) w:=by
 cases neg
 ·simp only[cond_false,KE t x y hx hs hf hc,Sem.run_bind,he,Result.andThen_ok,Sem.run_pure]
 ·simp only[cond_true,KD t x y hx hs hf hc,Sem.run_bind,he,Result.andThen_ok,Sem.run_pure]
theorem A8{t:TypeId}{neg:Bool}{x y:Value}{K:RK}{h:ae}(hv:MG P t neg x y K):
  (∀c d,x=.agg c→y=.agg d→False)∧(x=.nilIface→y=.nilIface→False)∧Yv P (binOp (bif neg then .neq else .eql) t x y) K h:=by
 unfold MG at hv;split at hv
 ·rename_i e a hu
  refine⟨nofun,nofun,.of_pure hv fun w=>?_⟩
  exact oD (Bv hu a w) nofun nofun nofun nofun
 ·rename_i k e a hu
  refine⟨nofun,nofun,.of_pure hv fun w=>?_⟩
  refine oD ?_ nofun nofun nofun nofun;refine oC fun d=>?_
  simp only[Op.equalIn,Sem.run_bind,aw hu,Result.andThen_ok];cases a<;>rfl
 ·rename_i e a _ _ _ _ hu
  refine⟨nofun,nofun,.of_pure hv fun w=>?_⟩
  refine oD ?_ nofun nofun nofun nofun;refine oC fun d=>?_
  simp only[Op.equalIn,Sem.run_bind,aw hu,Result.andThen_ok];cases a<;>rfl
 ·exact hv.elim
theorem sW{w:World}{a b:Addr}(ha:ig w.heap a)(hb:ig w.heap b):(sameAddr a b).run P w=.ok (a==b) w:=by
 obtain⟨ca,ea,ha,sa⟩:=ha;obtain⟨cb,eb,hb,sb⟩:=hb;by_cases hbl:a.block=b.block
 ·simp[sameAddr,hbl]
 ·have hne:(a==b)=false:=by
   rw[beq_eq_false_iff_ne];intro e;exact hbl (by rw[e])
  have s1:w.shape? a.block=some (ea,ca.size):=by simp[World.shape?,ha]
  have s2:w.shape? b.block=some (eb,cb.size):=by simp[World.shape?,hb]
  have f1:∀n,w.frozen? ({block:=a.block,off:=n}:Addr)=false:=fun n=>by simp[World.frozen?,ha]
  have f2:∀n,w.frozen? ({block:=b.block,off:=n}:Addr)=false:=fun n=>by simp[World.frozen?,hb]
  have g1:w.frozen? a=false:=by simp[World.frozen?,ha]
  have g2:w.frozen? b=false:=by simp[World.frozen?,hb]
  obtain⟨m,hm⟩:∃m,ca.size=m+1:=⟨ca.size-1,by omega⟩
  obtain⟨n,hn⟩:∃n,cb.size=n+1:=⟨cb.size-1,by omega⟩
  simp[sameAddr,hbl,noView,viewAt,mayBeOne,stringish,s1,s2,f1,f2,g1,g2,hm,hn,hne]
theorem DU{t:TypeId}{neg:Bool}{x y:Value}{K:RK}{h:ae}(hv:Ol P t neg x y K h):
  (∀c d,x=.agg c→y=.agg d→False)∧(x=.nilIface→y=.nilIface→False)∧Yv P (binOp (bif neg then .neq else .eql) t x y) K h:=by
 unfold Ol at hv;split at hv
 ·rename_i a b hu
  refine⟨nofun,nofun,.of_pure hv fun w=>?_⟩
  refine oD ?_ nofun nofun nofun nofun;refine oC fun d=>?_
  simp only[Op.equalIn,Sem.run_bind,aw hu,Result.andThen_ok,Sem.run_pure]
 ·rename_i e a b hu
  obtain⟨hz,hp,hk⟩:=hv;refine⟨nofun,nofun,_,_,hk,hp,fun w hw=>?_⟩
  refine oD ?_ nofun nofun nofun nofun;have hz':bm (bM P e) 0=false:=by
   cases hb:bm (bM P e) 0 with
   |false=>rfl
   |true=>rw[hb]at hz;exact hz.elim
  have hne:bM P e≠0:=fun e=>by rw[e]at hz';cases hz'
  refine oC fun d=>?_
  simp only[Op.equalIn,Sem.run_bind,aw hu,Result.andThen_ok];cases a with
  |none=>cases b<;>rfl
  |some a=>cases b with
   |none=>rfl
   |some b=>
    obtain⟨h1,h2⟩:=hw a b rfl rfl;simp only[Sem.run_bind,u4 hz',Result.andThen_ok,ne_eq,hne,not_false_eq_true,if_true,sW h1 h2];rfl
 ·exact hv.elim
theorem Hv{op:BinOp}{t:TypeId}{x y:Value}{K:RK}{h:ae}(hv:Ny P op t x y K h):
  (∀c d,x=.agg c→y=.agg d→False)∧(x=.nilIface→y=.nilIface→False)∧Yv P (binOp op t x y) K h:=by
 unfold Ny at hv;split at hv
 ·rename_i k a k' b
  refine⟨nofun,nofun,?_⟩;rw[BF];split at hv
  ·exact we (k':=k') (.inl rfl) hv
  ·exact we (k':=k') (.inr rfl) hv
  ·rename_i h1 h2
   cases hk:EE k' k with
   |false=>rw[hk]at hv;exact hv.elim
   |true=>rw[hk]at hv;have:=wz hk;subst this;exact HQ hv ⟨h1,h2⟩
 ·exact⟨nofun,nofun,G7 hv⟩
 ·split at hv
  ·exact DU (neg:=false) hv
  ·exact DU (neg:=true) hv
  ·exact hv.elim
theorem FZ{u:TypeId}{cs:List Value}{off:Nat}(hu:((P.underlying u).isSome&&(P.info? u).isSome)=true){w:World}(ha:sq P u=true):
  (part u cs.toArray off).run P w=.ok (.agg ((cs.drop off).take (bM P u)).toArray) w:=by
 simp only[aZ,fY]at hu;obtain⟨hu,i,hi⟩:=hu;have hs:(sizeOf u).run P w=.ok (bM P u) w:=by simp[sizeOf,cD hi,bM,hi]
 simp only[part,Sem.run_bind,sn hi hu,Result.andThen_ok,ha,if_true,hs,Sem.run_pure];congr 2
 apply cN;simp[eE]
theorem DB{u:TypeId}{cs:List Value}{off:Nat}(hu:((P.underlying u).isSome&&(P.info? u).isSome)=true){w:World}(ha:sq P u=false){v:Value}(hc:cs[off]? =some v):
  (part u cs.toArray off).run P w=.ok v w:=by
 simp only[aZ,fY]at hu;obtain⟨hu,i,hi⟩:=hu;have hc':cs.toArray[off]? =some v:=by simpa using hc
 simp only[part,Sem.run_bind,sn hi hu,Result.andThen_ok,ha,cH,if_false,hc',Sem.run_pure]
theorem vg{h:ae}:∀{l m:List (Option Addr×Option Addr)},pr h (l++m)→pr h l∧pr h m
 | [],_,h=>⟨trivial,h⟩
 |(_,_)::_,_,h=>⟨⟨h.1,(vg h.2).1⟩,(vg h.2).2⟩
theorem Gp{t:TypeId}{x y:Value}{b:Bool}{l:List (Option Addr×Option Addr)}(he:LM P t x y=some (b,l)){w:World}(hp:pr w.heap l)(d:Nat):
  (Op.equalIn (d+1) t x y).run P w=.ok b w:=by
 unfold LM at he;split at he
 ·rename_i k0 k a k' c hu
  cases hk:EE k' k with
  |false=>rw[hk]at he;cases he
  |true=>
   rw[hk]at he;have:=wz hk;subst this;cases he;exact run_equalIn_int w d t _ _ _ _ hu
 ·rename_i a c hu
  cases he;exact run_equalIn_bool w d t _ _ hu
 ·rename_i a c hu
  cases he;exact run_equalIn_string w d t _ _ hu
 ·rename_i e a c hu
  cases hz:bm (bM P e) 0 with
  |true=>rw[hz]at he;cases he
  |false=>
   rw[hz]at he;cases he;have hne:bM P e≠0:=fun e=>by rw[e]at hz;cases hz
   simp only[Op.equalIn,Sem.run_bind,aw hu,Result.andThen_ok];cases a with
   |none=>cases c<;>rfl
   |some a=>cases c with
    |none=>rfl
    |some c=>
     obtain⟨h1,h2⟩:=hp.1 a c rfl rfl;simp only[Sem.run_bind,u4 hz,Result.andThen_ok,ne_eq,hne,not_false_eq_true,if_true,sW h1 h2];rfl
 ·cases he
theorem Bw{rec:TypeId→List Value→List Value→Option (Bool×List (Option Addr×Option Addr))}{d:Nat}{xs ys:List Value}{w:World}
  (hr:∀t us vs b l,rec t us vs=some (b,l)→pr w.heap l→(Op.equalIn (d+1) t (.agg us.toArray) (.agg vs.toArray)).run P w=.ok b w):
  ∀(fs:List Field) (b:Bool) (l:List (Option Addr×Option Addr)),MT P rec xs ys fs=some (b,l)→pr w.heap l→(Op.eqFields (d+1) xs.toArray ys.toArray fs).run P w=.ok b w
 | [],b,l,he,_=>by cases he;rfl
 |f::fs,b,l,he,hp=>by
  unfold MT at he;split at he
  ·cases he
  ·rename_i hn
   cases hi:((P.underlying f.type).isSome&&(P.info? f.type).isSome)with
   |false=>rw[hi]at he;cases he
   |true=>
    rw[hi]at he;simp only[cond_true]at he;split at he
    ·rename_i b1 l1 c m e1 e2
     cases he;obtain⟨p1,p2⟩:=vg hp;have rest:=Bw hr fs c m e2 p2;have h1:∃u v,(part f.type xs.toArray f.offset).run P w=.ok u w∧(part f.type ys.toArray f.offset).run P w=.ok v w∧(Op.equalIn (d+1) f.type u v).run P w=.ok b1 w:=by
      cases ha:sq P f.type with
      |true=>
       rw[ha]at e1;exact⟨_,_,FZ hi ha,FZ hi ha,hr _ _ _ _ _ e1 p1⟩
      |false=>
       rw[ha]at e1;simp only[cond_false]at e1;split at e1
       ·rename_i x y hx hy
        exact⟨x,y,DB hi ha hx,DB hi ha hy,Gp e1 p1 d⟩
       ·cases e1
     obtain⟨u,v,r1,r2,r3⟩:=h1;simp only[Op.eqFields,ne_eq,hn,not_false_eq_true,if_true,Sem.run_bind,r1,r2,r3,Result.andThen_ok];cases b1
     ·rfl
     ·exact rest
    ·cases he
theorem vq{w:World}:∀(m:Nat) (t:TypeId) (xs ys:List Value) (b:Bool) (l:List (Option Addr×Option Addr)),LN P m t xs ys=some (b,l)→pr w.heap l→
  ∀d,(Op.equalIn (d+m+1) t (.agg xs.toArray) (.agg ys.toArray)).run P w=.ok b w
 |0,_,_,_,_,_,he,_,_=>by cases he
 |m+1,t,xs,ys,b,l,he,hp,d=>by
  unfold LN at he;split at he
  ·rename_i fs hu
   cases hs:P.stoodInHeld t with
   |true=>rw[hs]at he;cases he
   |false=>
    rw[hs]at he;have hf:P.fieldsOf t=fs:=by simp[Program.fieldsOf,hu]
    rw[run_equalIn_struct w _ t _ _ (by rw[hf];exact hu) hs,hf];exact Bw (d:=d+m) (fun t us vs b l h1 h2=>vq m t us vs b l h1 h2 d) fs.toList b l he hp
  ·cases he
theorem DW{neg b:Bool}{K:RK}{h:ae}{l:List (Option Addr×Option Addr)}(hk:OC neg b K h l):∃S,K (.bool (bif neg then !b else b)) S∧Mm S h∧∀h',Mm S h'→pr h' l:=by
 cases l with
 |nil=>exact⟨none,hk,trivial,fun _ _=>trivial⟩
 |cons p l=>exact⟨_,hk.2,hk.1,fun _ h=>h⟩
theorem Hw{op:BinOp}{t:TypeId}{xs ys:Array Value}{x y:Operand}{K:RK}{h:ae}(hq:Nz P op t xs.toList ys.toList K h):
  ∃v S,K v S∧Mm S h∧∀w:World,Mm S w.heap→(do eqGuard op t x y (.agg xs) (.agg ys);binOp op t (.agg xs) (.agg ys):Sem Value).run P w=.ok v w:=by
 unfold Nz at hq;cases hg:P.eqGuardType P.depth t with
 |true=>rw[hg]at hq;exact hq.elim
 |false=>
  rw[hg]at hq;simp only[cond_false]at hq;split at hq
  ·split at hq
   ·rename_i b l he
    obtain⟨S,h1,h2,h3⟩:=DW hq;refine⟨_,S,h1,h2,fun w hw=>?_⟩
    have:=vq 10 t _ _ b l he (h3 _ hw) 9989;simp only[Array.toArray_toList]at this;simp only[Sem.run_bind,run_eqGuard_agg w _ t x y _ _ hg,Result.andThen_ok,run_eql_struct,this];rfl
   ·exact hq.elim
  ·split at hq
   ·rename_i b l he
    obtain⟨S,h1,h2,h3⟩:=DW hq;refine⟨_,S,h1,h2,fun w hw=>?_⟩
    have:=vq 10 t _ _ b l he (h3 _ hw) 9989;simp only[Array.toArray_toList]at this;simp only[Sem.run_bind,run_eqGuard_agg w _ t x y _ _ hg,Result.andThen_ok,run_neq_struct,this];rfl
   ·exact hq.elim
  ·exact hq.elim
theorem JV{op:UnOp}{x:Value}{K:RK}{h:ae}(hv:Ow op x K):Yv P (Op.unary op x) K h:=by
 unfold Ow at hv;split at hv
 ·exact .of_pure hv fun w=>rfl
 ·exact .of_pure hv fun w=>rfl
 ·exact .of_pure hv fun w=>rfl
 ·exact hv.elim
theorem BC:∀(l:List UInt8) (s:ByteArray),(l.map fun b=>((b.toNat:Nat):Int)).foldl (fun r n=>r.push (fG n.toNat)) s=⟨s.data++l.toArray⟩
 | [],s=>by simp
 |b::l,s=>by
  simp only[dI,hJ];rw[BC l];congr 1
  have:fG ((b.toNat:Nat):Int).toNat=b:=by simp
  rw[this];apply cN;simp[ByteArray.push]
theorem Bg{e:TypeId}(h:HP P e=true):P.underlying e=some (.int .u8):=by
 unfold HP at h;split at h
 ·assumption
 ·cases h
theorem FJ{w:World}{a:Addr}{vs:List Value}(hr:Row w.heap a vs):(loadCells a vs.length).run P w=.ok vs.toArray w:=by
 have:=run_firstCells_some (P:=P) w 1 vs.length a 0 0 vs (by simp) fun j v hv=>by rw[←qS];exact hr j v hv
 simpa[Builtin.firstCells]using this
theorem FR{src dst:TypeId}{x:Value}{K:RK}{h:ae}(hv:Lq P src dst x K h):Yv P (convert src dst x) K h:=by
 unfold Lq at hv;split at hv
 ·rename_i k k' k'' n h1 h2
  exact .of_pure hv fun w=>by simp only[convert,Sem.run_bind,aw h1,aw h2,Result.andThen_ok];rfl
 ·rename_i s h1 h2
  exact .of_pure hv fun w=>by simp only[convert,Sem.run_bind,aw h1,aw h2,Result.andThen_ok];rfl
 ·rename_i e a n c h1 h2
  cases hu:HP P e with
  |false=>rw[hu]at hv;exact hv.elim
  |true=>
   rw[hu]at hv;obtain⟨s,hs,hk⟩:=hv;refine⟨_,_,hk,hs,fun w hw=>?_⟩
   rw[run_convert_bytes_string w src dst e a n c h1 (Bg hu) h2];obtain⟨hl,hw⟩:=hw;rcases hw with h0|⟨b,rfl,hr⟩
   ·have hs0:s=ByteArray.empty:=by
     have:s.data.toList= []:=by simpa[dq]using h0
     cases s with
     |mk d=>simp at this;subst this;rfl
    cases a with
    |none=>rw[hs0];rfl
    |some b=>
     have hn:n=0:=by rw[←hl,h0];rfl
     subst hn;have:=FJ (P:=P) (w:=w) (a:=b) (vs:= []) fun i v hv=>by simp at hv
     rw[run_bytesToString w b 0 c [] (by simpa using this),hs0];rfl
   ·have:=FJ (P:=P) hr
    rw[hl]at this;rw[run_bytesToString w b n c (s.data.toList.map fun b=>((b.toNat:Nat):Int)) (by rw[this,sy];rfl),BC]
    cases s;simp[ByteArray.empty,ByteArray.emptyWithCapacity];try rfl
 ·exact hv.elim
theorem HA{u:TypeId}{cs:Array Value}{off:Nat}{K:RK}{h:ae}(hu:∃d,P.underlying u=some d)(hi:∃i,P.info? u=some i)
  (hv:bif sq P u then K (.agg ((cs.toList.drop off).take (bM P u)).toArray) none else(match cs.toList[off]? with|some v=>K v none|none=>False)):Yv P (part u cs off) K h:=by
 obtain⟨i,hi⟩:=hi;cases ha:sq P u with
 |true=>
  rw[ha]at hv;refine .of_pure hv fun w=>?_
  have hs:(sizeOf u).run P w=.ok (bM P u) w:=by simp[sizeOf,cD hi,bM,hi]
  simp only[part,Sem.run_bind,sn hi hu,Result.andThen_ok,ha,if_true,hs,Sem.run_pure];congr 2
  apply cN;simp[eE]
 |false=>
  rw[ha]at hv;simp only[cond_false]at hv;cases hc:cs.toList[off]? with
  |none=>rw[hc]at hv;exact hv.elim
  |some v=>
   rw[hc]at hv;refine .of_pure hv fun w=>?_
   have hc':cs[off]? =some v:=by simpa using hc
   simp only[part,Sem.run_bind,sn hi hu,Result.andThen_ok,ha,cH,if_false,hc',Sem.run_pure]
def sN(P:Program)(v:Option Value)(d y n:Nat):Prop:=
 match v with
 |some x=>∀c w,(Instr.sliceBound x y c).run P w=.ok n w
 |none=>n=d
theorem ld{v:Option Value}{d y:Nat}{K:Nat→Prop}(hv:L1 v d y K):∃n,K n∧sN P v d y n:=by
 unfold L1 at hv;split at hv
 ·exact⟨d,hv,rfl⟩
 ·rename_i k i
  obtain⟨⟨h0,h1⟩,hk⟩:=hv;refine⟨i.toNat,hk,fun c w=>?_⟩
  simp[Instr.sliceBound,asIntOf,h0,h1]
 ·exact hv.elim
theorem ny{isS:Bool}{len cap n l:Nat}{lo hi:Option Value}(hn:sN P hi len cap n)(hl:sN P lo 0 n l)(w:World):
  (Instr.sliceBounds isS len cap lo hi none).run P w=.ok (l,n,cap) w:=by
 cases hi with
 |none=>
  cases lo with
  |none=>simp only[sN]at hn hl;subst hn;subst hl;simp[Instr.sliceBounds]
  |some lo=>simp only[sN]at hn hl;subst hn;simp[Instr.sliceBounds,hl]
 |some hi=>
  cases lo with
  |none=>simp only[sN]at hn hl;subst hl;simp[Instr.sliceBounds,hn]
  |some lo=>simp only[sN]at hn hl;simp[Instr.sliceBounds,hn,hl]
theorem xZ{isS:Bool}{len cap n l m:Nat}{lo:Option Value}{hi mx:Value}(hm:sN P (some mx) 0 cap m)(hn:sN P (some hi) 0 m n)(hl:sN P lo 0 n l)(w:World):
  (Instr.sliceBounds isS len cap lo (some hi) (some mx)).run P w=.ok (l,n,m) w:=by
 cases lo with
 |none=>simp only[sN]at hm hn hl;subst hl;simp[Instr.sliceBounds,hm,hn]
 |some lo=>simp only[sN]at hm hn hl;simp[Instr.sliceBounds,hm,hn,hl]
theorem u1(a:Option Addr)(l m size:Nat):(if m=l then a else a.map (·.add (l*size)))=aN a l m size:=by
 unfold aN;split
 ·rfl
 ·congr 1;funext x;rw[qS]
theorem nC{t:TypeId}{K:Prop}(h:Lw P t K):K∧∀w,(sizeOf t).run P w=.ok (bM P t) w:=by
 unfold Lw at h;cases hi:P.info? t with
 |none=>rw[hi]at h;exact h.elim
 |some i=>rw[hi]at h;exact⟨h,fun w=>by simp[sizeOf,cD hi,bM,hi]⟩
theorem Er{t:TypeId}{x:Value}{f:Nat}{K:RK}{h:ae}(hv:Ht P t x f K):Yv P (Instr.field t x f) K h:=by
 unfold Ht at hv;split at hv
 ·rename_i u off cs hf
  obtain⟨fs,g,hu,hg,rfl,rfl⟩:=tl hf;cases hb:((P.underlying g.type).isSome&&(P.info? g.type).isSome)with
  |false=>rw[hb]at hv;exact hv.elim
  |true=>
   rw[hb]at hv;simp only[aZ,fY]at hb;obtain⟨v,S,hk,hS,hr⟩:=HA (cs:=cs) (off:=g.offset) (h:=h) hb.1 hb.2 hv;refine⟨v,S,hk,hS,fun w hw=>?_⟩
   have:=hr w hw;simp only[Instr.field,Sem.run_bind,aw hu,Result.andThen_ok,hg,asAgg,Sem.run_pure,this]
 ·exact hv.elim
theorem yb{t:TypeId}{x i:Value}{K:RK}{h:ae}(hv:ve P t x i K):Yv P (Instr.indexAt t x i) K h:=by
 unfold ve at hv;split at hv
 ·rename_i n e a k i hu
  obtain⟨⟨⟨h0,h1⟩,hk⟩,hz⟩:=nC hv;refine .of_pure hk fun w=>?_
  simp[Instr.indexAt,asIntOf,aw hu,Instr.sureAddr,h0,h1,hz,qS]
 ·rename_i e b len cap k i hu
  obtain⟨⟨⟨h0,h1⟩,a,rfl,hk⟩,hz⟩:=nC hv;refine .of_pure hk fun w=>?_
  simp[Instr.indexAt,asIntOf,aw hu,h0,h1,hz,qS]
 ·exact hv.elim
theorem Ep{t:TypeId}{x i:Value}{K:RK}{h:ae}(hv:Hr P t x i K):Yv P (Instr.index t x i) K h:=by
 unfold Hr at hv;split at hv
 ·rename_i s k i hu
  obtain⟨b,h0,hb,hk⟩:=hv;refine .of_pure hk fun w=>?_
  simp[Instr.index,asIntOf,aw hu,h0,hb]
 ·exact hv.elim
theorem En{t:TypeId}{x:Value}{lo hi mx:Option Value}{K:RK}{h:ae}(hv:Hp P t x lo hi mx K):Yv P (Instr.sliceAt t x lo hi mx) K h:=by
 unfold Hp at hv;split at hv
 ·rename_i s hu
  cases mx with
  |some _=>exact hv.elim
  |none=>
   obtain⟨n,hv,hn⟩:=ld (P:=P) hv;obtain⟨l,hv,hl⟩:=ld (P:=P) hv;refine .of_pure hv fun w=>?_
   simp[Instr.sliceAt,Instr.slice,aw hu,ny hn hl]
 ·rename_i e a len cap hu
  obtain⟨hv,hz⟩:=nC hv;cases mx with
  |none=>
   obtain⟨n,hv,hn⟩:=ld (P:=P) hv;obtain⟨l,hv,hl⟩:=ld (P:=P) hv;refine .of_pure hv fun w=>?_
   simp[Instr.sliceAt,Instr.slice,aw hu,ny hn hl,hz,u1]
  |some m=>
   cases hi with
   |none=>exact hv.elim
   |some hi=>
    obtain⟨m',hv,hm⟩:=ld (P:=P) hv;obtain⟨n,hv,hn⟩:=ld (P:=P) hv;obtain⟨l,hv,hl⟩:=ld (P:=P) hv;refine .of_pure hv fun w=>?_
    simp[Instr.sliceAt,Instr.slice,aw hu,xZ hm hn hl,hz,u1]
 ·rename_i n e a hu
  obtain⟨hv,hz⟩:=nC hv;cases mx with
  |some _=>exact hv.elim
  |none=>
   obtain⟨m,hv,hn⟩:=ld (P:=P) hv;obtain⟨l,hv,hl⟩:=ld (P:=P) hv;refine .of_pure hv fun w=>?_
   have ha:(some (if n=l then a else a.add (l*bM P e)))=aN (some a) l n (bM P e):=by
    rw[←u1];split<;>rfl
   simp[Instr.sliceAt,aw hu,Instr.sureAddr,ny hn hl,hz,ha]
 ·exact hv.elim
def m0(d:TypeDesc)(c:CK):Prop:=(∃i,d=.int i∧c=.int i)∨(d=.string∧c=.str)∨(d=.bool∧c=.bool)
theorem td{t:TypeId}{c:CK}{e:TypeId}(h:Gc P t=some (c,e)):∃k d,P.underlying t=some (.map k e)∧P.underlying k=some d∧m0 d c:=by
 unfold Gc at h;split at h
 ·rename_i k e' hu
  split at h
  ·rename_i i hk
   simp only[bG.injEq,oh.injEq]at h;obtain⟨rfl,rfl⟩:=h;exact⟨k,_,hu,hk,.inl ⟨i,rfl,rfl⟩⟩
  ·rename_i hk
   simp only[bG.injEq,oh.injEq]at h;obtain⟨rfl,rfl⟩:=h;exact⟨k,_,hu,hk,.inr (.inl ⟨rfl,rfl⟩)⟩
  ·rename_i hk
   simp only[bG.injEq,oh.injEq]at h;obtain⟨rfl,rfl⟩:=h;exact⟨k,_,hu,hk,.inr (.inr ⟨rfl,rfl⟩)⟩
  ·cases h
 ·cases h
theorem zd{d:TypeDesc}{c:CK}(hd:m0 d c)(x y:c.den):Instr.sameNow d (c.enc x) (c.enc y)=some (gd (c.enc x) (c.enc y)):=by
 rcases hd with⟨i,rfl,rfl⟩|⟨rfl,rfl⟩|⟨rfl,rfl⟩
 ·simp[Instr.sameNow,CK.enc,gd]
 ·simp[Instr.sameNow,CK.enc,gd]
 ·simp[Instr.sameNow,CK.enc,gd]
theorem zq{d:TypeDesc}{c:CK}(hd:m0 d c)(x:c.den):∀(es:List MapEntry) (i:Nat),Bf c es→
  ∃r,Instr.findNow d (c.enc x) es i=some r∧r.map (·.2)=Gm (c.enc x) es
 | [],i,_=>⟨none,rfl,rfl⟩
 |e::es,i,h=>by
  obtain⟨y,hy⟩:=h e (by simp);have hs:=zd hd x y;rw[←hy]at hs;simp only[Instr.findNow,Gm];cases hb:gd (c.enc x) e.key with
  |true=>rw[hs,hb];exact⟨some (i,e.val),rfl,rfl⟩
  |false=>rw[hs,hb];exact zq hd x es (i+1) fun e' he'=>h e' (by simp[he'])
theorem Gv{empty:Bool}{k:TypeId}{d:TypeDesc}{c:CK}(hd:m0 d c)(hu:P.underlying k=some d)(v:Value)(n:Nat)(w:World):(Instr.checkKey empty (n+1) k v).run P w=.ok () w:=by
 unfold Instr.checkKey;simp only[Sem.run_bind,aw hu,Result.andThen_ok];rcases hd with⟨i,rfl,rfl⟩|⟨rfl,rfl⟩|⟨rfl,rfl⟩<;>rfl
theorem rY{k:TypeId}{d:TypeDesc}{c:CK}(hd:m0 d c)(hu:P.underlying k=some d)(x:c.den){es:List MapEntry}(h:Bf c es)(w:World):
  ∃r,(Instr.findKey k (c.enc x) es).run P w=.ok r w∧Instr.findNow d (c.enc x) es 0=some r∧r.map (·.2)=Gm (c.enc x) es:=by
 obtain⟨r,hr,hm⟩:=zq hd x es 0 h;refine⟨r,?_,hr,hm⟩;simp only[Instr.findKey,Sem.run_bind,aw hu,Result.andThen_ok,hr,Sem.run_pure]
theorem kz{w:World}{r:Nat}{es:Array MapEntry}{clock:Nat}(h:w.heap[r]? =some (.map es clock)):(getObj r).run P w=.ok (.map es clock) w:=by
 simp only[getObj,Sem.run,h]
theorem lS{empty:Bool}{k:TypeId}{d:TypeDesc}{c:CK}(hd:m0 d c)(hu:P.underlying k=some d)(v:Value)(w:World):(Instr.checkKey empty 10000 k v).run P w=.ok () w:=
 Gv hd hu v 9999 w
theorem HI{t:TypeId}{c:CK}{e k:TypeId}{d:TypeDesc}(hu:P.underlying t=some (.map k e))(hk:P.underlying k=some d)(hd:m0 d c){m:Option Nat}{x:c.den}{z v:Value}{b ok:Bool}{w:World}
  (hz:(zeroValue e).run P w=.ok z w)(hm:Ij c z w.heap m (c.enc x) v b):
  (Instr.lookup t (.map m) (c.enc x) ok).run P w=.ok (bif ok then .tuple #[v,.bool b]else v) w:=by
 cases m with
 |none=>
  obtain⟨rfl,rfl⟩:=hm;simp only[Instr.lookup,Sem.run_bind,aw hu,Result.andThen_ok,Sem.run_pure,lS hd hk];obtain⟨r,h1,h2,h3⟩:=rY (P:=P) hd hk x (es:= []) (fun _ h=>by cases h) w
  simp only[Instr.findNow,bG.injEq]at h2;subst h2;simp[h1,hz]
 |some r=>
  obtain⟨es,clock,hb,hks,hv⟩:=hm;simp only[Instr.lookup,Sem.run_bind,aw hu,Result.andThen_ok,kz hb,Sem.run_pure,lS hd hk];obtain⟨r,h1,h2,h3⟩:=rY (P:=P) hd hk x hks w;simp only[h1,Result.andThen_ok];cases r with
  |none=>
   simp only[Option.map_none]at h3;rw[←h3]at hv;obtain⟨rfl,rfl⟩:=hv;simp[hz]
  |some r=>
   simp only[gl]at h3;rw[←h3]at hv;obtain⟨rfl,rfl⟩:=hv;cases ok<;>rfl
theorem ef{e:TypeId}{z:Value}(h:uw P e=some z)(w:World):(zeroValue e).run P w=.ok z w:=by
 unfold uw at h;cases hi:P.info? e with
 |none=>rw[hi]at h;cases h
 |some i=>rw[hi]at h;simp only at h;simp[zeroValue,cD hi,h]
theorem Cp{t:TypeId}{x k:Value}{ok:Bool}{K:RK}{h:ae}(hv:Eo P t x k ok K h):Yv P (Instr.lookup t x k ok) K h:=by
 unfold Eo at hv;split at hv
 ·rename_i c e m hc
  obtain⟨kt,d,hu,hk,hd⟩:=td hc;obtain⟨kx,rfl,hv⟩:=CK.dec_sound hv;split at hv
  ·rename_i ek z hek hz
   obtain⟨y,b,hm,hK⟩:=hv;exact⟨_,_,hK,hm,fun w hw=>HI hu hk hd (ef hz w) hw⟩
  ·exact hv.elim
 ·exact hv.elim
theorem Hq{t:TypeId}{x:Value}{ats:Array TypeId}{ty:TypeId}{K:RK}{h:ae}(hat:ats[0]? =some t) (hv:Nw P t x K h):Yv P (Builtin.len_ ats ty #[x]) K h:=by
 unfold Nw at hv;split at hv
 ·rename_i s hu
  exact .of_pure hv fun w=>by simp[Builtin.len_,hat,aw hu,goInt]
 ·rename_i n e _ hu
  exact .of_pure hv fun w=>by simp[Builtin.len_,hat,aw hu,goInt]
 ·rename_i e b n c hu
  exact .of_pure hv fun w=>by simp[Builtin.len_,hat,aw hu,goInt]
 ·rename_i k e m hu
  obtain⟨n,hm,hk⟩:=hv;refine⟨_,_,hk,hm,fun w hw=>?_⟩
  cases m with
  |none=>
   have:n=0:=hw;subst this;simp[Builtin.len_,hat,aw hu,goInt]
  |some r=>
   obtain⟨es,clock,hb,rfl⟩:=hw;simp[Builtin.len_,hat,aw hu,goInt,kz hb]
 ·exact hv.elim
theorem Hu{t:TypeId}{x:Value}{ats:Array TypeId}{ty:TypeId}{K:RK}{h:ae}(hat:ats[0]? =some t) (hv:Nx P t x K):Yv P (Builtin.cap_ ats ty #[x]) K h:=by
 unfold Nx at hv;split at hv
 ·rename_i e b n c hu
  exact .of_pure hv fun w=>by simp[Builtin.cap_,hat,aw hu,goInt]
 ·exact hv.elim
theorem wr{mx:Bool}{k:IntKind}:∀{vs:List Value} {a:Int} {f:Value→Prop},EC mx k a vs f→∃v,f v∧∀w,(vs.foldlM (bif mx then Builtin.max2 else Builtin.min2) (Value.int k a):Sem Value).run P w=.ok v w
 | [],a,f,h=>⟨_,h,fun w=>by simp⟩
 | .int k' b::vs,a,f,h=>by
  simp only[EC]at h;cases hk:EE k' k with
  |false=>rw[hk]at h;exact h.elim
  |true=>
   rw[hk]at h;have:=wz hk;subst this;obtain⟨v,hf,hr⟩:=wr h;refine⟨v,hf,fun w=>?_⟩
   rw[←hr w];cases mx<;>simp[List.foldlM_cons,Builtin.max2,Builtin.min2]
theorem uC{mx:Bool}{vs:List Value}{f:Value→Prop}{ats:Array TypeId}{ty:TypeId}(h:Ai mx vs f):∃v,f v∧∀w,(bif mx then Builtin.max_ ats ty vs.toArray else Builtin.min_ ats ty vs.toArray).run P w=.ok v w:=by
 unfold Ai at h;split at h
 ·obtain⟨v,hf,hr⟩:=wr (P:=P) h
  refine⟨v,hf,fun w=>?_⟩
  have:=hr w;cases mx<;>simpa[Builtin.max_,Builtin.min_]using this
 ·exact h.elim
theorem Kl{a:Addr}{e:MapEntry}{w:World}(h0:a.off=0)(h:Ik w.heap a.block e):(Instr.entry (.pointer (some a))).run P w=.ok (.tuple #[e.key,e.val]) w:=by
 obtain⟨m,since,seen,last,stamp,es,hi,hb,hm,hf⟩:=h;obtain⟨b,off,spot⟩:=a;simp only at h0 hi;subst h0;have g1:(getObj b).run P w=.ok (.mapIter (some m) since seen last) w:=by simp only[getObj,Sem.run,hi]
 simp[Instr.entry,g1,hb,kz hm,hf]
def CR:DV→Value→Prop
 | .t,v=>v=.bool true
 | .f,v=>v=.bool false
 | .u,v=>v=undef
 | .x,_=>True
def DecOk(d:rJ)(r:cg):Prop:=∀t,oY d t=.x∨∃v,jh r t=some v∧CR (oY d t) v
theorem DecOk.at{d:rJ}{r:cg}(h:DecOk d r){t:Nat}{v:Value}(hv:jh r t=some v):CR (oY d t) v:=by
 rcases h t with e|⟨u,hu,hk⟩
 ·rw[e];trivial
 ·rw[hv]at hu;cases hu;exact hk
theorem rm{d:rJ}{r:cg}(hd:DecOk d r){o:Operand}{v:Value}(h:cZ r o=some v):CR (wF d o) v:=by
 cases o with
 |tmp t=>exact hd.at h
 |const c=>
  simp[cZ]at h;subst h;cases c with
  |bool b=>cases b<;>exact rfl
  |_=>trivial
 |global g=>trivial
 |func f=>trivial
theorem zj{t:TypeId}(h:ou P t=true):∃d,P.underlying t=some d∧∀m,d≠ .interface m:=by
 unfold ou at h;split at h
 ·cases h
 ·rename_i d hd;exact⟨_,hd,fun m e=>by subst e;simp_all⟩
 ·cases h
theorem ww{t:TypeId}{v:Value}(h:ou P t=true)(w:World):(Instr.makeInterface t v).run P w=.ok (.iface t v) w:=by
 obtain⟨d,hd,hn⟩:=zj h;simp only[Instr.makeInterface,Sem.run_bind,aw hd,Result.andThen_ok];cases d<;>first|exact absurd rfl (hn _)|rfl
theorem AE{t u:TypeId}{v:Value}(h:ou P t=true)(w:World):(Instr.typeAssert (.iface t v) u t false).run P w=.ok v w:=by
 obtain⟨d,hd,hn⟩:=zj h;simp only[Instr.typeAssert,Sem.run_bind,aw hd,Result.andThen_ok];cases d<;>first|exact absurd rfl (hn _)|(simp[Sem.run_pure])
theorem jf{t:TypeId}{z:List Value}(h:oL P t=some z):∃v,uw P t=some v∧v.cells.toList=z:=by
 unfold oL at h;cases hz:uw P t with
 |none=>rw[hz]at h;cases h
 |some v=>rw[hz]at h;simp only[bG.injEq]at h;exact⟨v,rfl,h⟩
theorem pg{t:TypeId}{v:Value}(h:uw P t=some v):∃i,P.info? t=some i∧i.zero=some v:=by
 unfold uw at h;cases hi:P.info? t with
 |none=>rw[hi]at h;cases h
 |some i=>rw[hi]at h;exact⟨i,rfl,h⟩
theorem LP{A B:List Value}{x:Value}{m:Nat}(h:A.length=m):(A++x::B).take (m+1)=A++ [x]:=by
 subst h;rw[List.take_append,aU (by omega),show A.length+1-A.length=1 by omega];rfl
theorem LQ{A B:List Value}{x:Value}{m n:Nat}(h:A.length=m):(A++x::B).drop (m+1+n)=B.drop n:=by
 subst h;rw[List.drop_append,List.drop_eq_nil_of_le (by omega),show A.length+1+n-A.length=n+1 by omega];rfl
theorem Gk(off:Nat):∀(xs:List Value) (k:Nat) (arr:Array Value),off+k+xs.length≤arr.size→
  (xs.zipIdx k).foldl (fun cs (c,j)=>cs.setIfInBounds (off+j) c) arr=(FU arr.toList (off+k) xs).toArray
 | [],k,arr,_=>by simp[FU]
 |x::xs,k,arr,h=>by
  simp only[aq]at h;simp only[List.zipIdx_cons,hJ];rw[Gk off xs (k+1) _ (by simp;omega)];have hm:off+k<arr.toList.length:=by simp;omega
  have hs:arr.toList.set (off+k) x=arr.toList.take (off+k)++x::arr.toList.drop (off+k+1):=by
   rw[List.set_eq_take_append_cons_drop,if_pos hm]
  have hl:(arr.toList.take (off+k)).length=off+k:=by simp;omega
  congr 1
  unfold FU;rw[Array.toList_setIfInBounds,hs,←qZ,LP hl,LQ hl];simp only[List.append_assoc,cS,List.nil_append,aq,List.drop_drop];rw[show off+k+1+xs.length=off+k+(xs.length+1) by omega]
theorem qf{place:Nat→Option (Nat×Nat)}:∀(parts:List (Nat×Value)) (cs cs':List Value),zr place cs parts=some cs'→Instr.fill place cs.toArray parts=some cs'.toArray
 | [],cs,cs',h=>by simp only[zr,bG.injEq]at h;subst h;rfl
 |(i,v)::rest,cs,cs',h=>by
  simp only[zr]at h;cases hp:place i with
  |none=>rw[hp]at h;cases h
  |some os=>
   obtain⟨off,size⟩:=os;rw[hp]at h;simp only at h;cases hb:(bm v.cells.toList.length size&&Nat.ble (off+v.cells.toList.length) cs.length)with
   |false=>rw[hb]at h;cases h
   |true=>
    rw[hb]at h;simp only[aZ]at hb;have h1:=aP hb.1;have h2:=ad hb.2;have ih:=qf rest _ _ h;have h3:v.cells.size=size:=by simpa using h1
    have h4:off+v.cells.size≤cs.length:=by simpa using h2
    have hf:Array.foldl (fun cs x=>cs.setIfInBounds (off+x.2) x.1) cs.toArray v.cells.zipIdx=(FU cs off v.cells.toList).toArray:=by
     have:=Gk off v.cells.toList 0 cs.toArray (by simpa using h4);simp only[eC]at this;rw[←this,←Array.foldl_toList];congr 1
     simp[Array.toList_zipIdx]
    simp only[Instr.fill,hp];rw[if_neg (by simp[h3];omega)];simp only[hf];exact ih
theorem mH{N:Nat}{r:cg}{a:Act}(h:Agree N r a):∀{ps:List (Nat×Operand)} {vs:List (Nat×Value)},ot r ps=some vs→ps.map (fun p=>(p.1,a.eval p.2))=vs
 | [],vs,hv=>by simp[ot]at hv;subst hv;rfl
 |(i,o)::ps,vs,hv=>by
  simp only[ot]at hv;cases ho:cZ r o with
  |none=>simp[ho]at hv
  |some v=>cases hos:ot r ps with
   |none=>simp[ho,hos]at hv
   |some us=>simp[ho,hos]at hv;subst hv;simp[kA h ho,mH h hos]
theorem oz{t:TypeId}(h:tX P t=true)(w:World):(sizeOf t).run P w=.ok (bM P t) w:=by
 unfold tX at h;cases hi:P.info? t with
 |none=>rw[hi]at h;cases h
 |some i=>simp[sizeOf,cD hi,bM,hi]
theorem A5(w:World):∀l:List Field,wN P l=true→(l.mapM fun f:Field=>((do pure (f.offset,←sizeOf f.type)):Sem (Nat×Nat))).run P w=.ok (l.map fun f:Field=>(f.offset,bM P f.type)) w
 | [],_=>rfl
 |f::l,h=>by
  simp only[wN]at h;cases hf:tX P f.type with
  |false=>rw[hf]at h;cases h
  |true=>
   rw[hf]at h;rw[List.mapM_cons];simp only[Sem.run_bind,oz hf,Result.andThen_ok,Sem.run_pure,A5 w l h,dI]
theorem wM{t:TypeId}{ps:Array (Nat×Value)}{cs:List Value}(hb:ET P t ps.toList=some cs)(w:World):
  (Instr.build t ps).run P w=.ok (.agg cs.toArray) w:=by
 unfold ET at hb;split at hb
 ·rename_i fs z hu hz
  obtain⟨v,hz,hv⟩:=jf hz;cases ha:wN P fs.toList with
  |false=>rw[ha]at hb;cases hb
  |true=>
   rw[ha]at hb;have hfs:(fs.mapM fun f:Field=>((do pure (f.offset,←sizeOf f.type)):Sem (Nat×Nat))).run P w=.ok (fs.map fun f:Field=>(f.offset,bM P f.type)) w:=by
    rw[Array.mapM_eq_mapM_toList];simp only[Sem.run_map,A5 w fs.toList ha,Result.andThen_ok];congr 1
    apply cN;simp
   have hf:=qf _ _ _ hb;have hplace:(fun i:Nat=>(fs.map fun f:Field=>(f.offset,bM P f.type))[i]?)=Hz P fs.toList:=by
    funext i;unfold Hz;rw[Array.getElem?_map,bo];cases fs[i]?<;>rfl
   have hv':v.cells=z.toArray:=by rw[←hv]
   rw[cond_true]at hb;rw[←hplace]at hf;simp only[Instr.build,Sem.run_bind,ef hz,Result.andThen_ok,aw hu,hfs,hv',hf,Sem.run_pure]
 ·rename_i n e z hu hz
  obtain⟨v,hz,hv⟩:=jf hz;cases ha:tX P e with
  |false=>rw[ha]at hb;cases hb
  |true=>
   rw[ha]at hb;have hf:=qf _ _ _ hb;have hv':v.cells=z.toArray:=by rw[←hv]
   simp only[Instr.build,Sem.run_bind,ef hz,Result.andThen_ok,aw hu,oz ha,hv',hf,Sem.run_pure]
 ·cases hb
theorem Dy{ek:Option (Kind×Kind)}{o:Oper}{r:cg}{K:RK}{h:ae}{N:Nat}{a:Act}(ha:Agree N r a)(hq:ya P ek o.op r K h)(d:rJ)(hd:DecOk d r):
  ∃v S,K v S∧Mm S h∧CR (Fx d o.op) v∧∀w:World,Mm S w.heap→(execOp a.eval o).run P w=.ok (.value v) w:=by
 have ev:∀{x:Operand} {v:Value},cZ r x=some v→a.eval x=v:=fun h=>kA ha h
 have fin:∀{s:Sem Value},Yv P s K h→Fx d o.op=.x→(∀w,(execOp a.eval o).run P w=(do pure (Next.value (←s)):Sem Next).run P w)→
   ∃v S,K v S∧Mm S h∧CR (Fx d o.op) v∧∀w:World,Mm S w.heap→(execOp a.eval o).run P w=.ok (.value v) w:=by
  rintro s ⟨v,S,hk,hS,hr⟩ hx he;exact⟨v,S,hk,hS,by rw[hx];trivial,fun w hw=>by rw[he w];exact g8 (hr w hw)⟩
 obtain⟨dst,op,type,md,after,guard⟩:=o;simp only at hq fin⊢;cases op with
 |move x=>
  simp only[ya]at hq;split at hq
  ·rename_i v hv
   exact⟨v,none,hq,trivial,rm hd hv,fun w _=>by simp[execOp,ev hv]⟩
  ·exact hq.elim
 |assign x=>
  simp only[ya]at hq;split at hq
  ·rename_i v hv
   exact⟨v,none,hq,trivial,rm hd hv,fun w _=>by simp[execOp,ev hv]⟩
  ·exact hq.elim
 |pick c x y=>
  simp only[ya]at hq;split at hq
  ·rename_i vc va vb hc hx hy
   unfold Nh at hq;split at hq
   ·rename_i cb
    have hco:=rm hd hc;have hxo:=rm hd hx;have hyo:=rm hd hy;have he:∀w,(execOp a.eval ⟨dst,.pick c x y,type,md,after,guard⟩).run P w=.ok (.value (if cb then va else vb)) w:=fun w=>by
     simp[execOp,ev hc,ev hx,ev hy,asBool]
    have hdv:CR (Fx d (.pick c x y)) (if cb then va else vb):=by
     simp only[Fx];cases hcd:wF d c with
     |t=>
      rw[hcd]at hco;have:cb=true:=by simpa[CR]using hco
      subst this;exact hxo
     |f=>
      rw[hcd]at hco;have:cb=false:=by simpa[CR]using hco
      subst this;exact hyo
     |u=>trivial
     |x=>trivial
    split at hq
    ·rename_i bx by'
     have e1:(if cb=true then Value.bool bx else Value.bool by')=.bool (bif cb then bx else by'):=by cases cb<;>rfl
     rw[e1]at hdv;exact⟨_,none,hq,trivial,hdv,fun w _=>by rw[he w,e1]⟩
    ·cases cb
     ·exact⟨_,none,hq,trivial,hdv,fun w _=>he w⟩
     ·exact⟨_,none,hq,trivial,hdv,fun w _=>he w⟩
   ·exact hq.elim
  ·exact hq.elim
 |load t x=>
  simp only[ya]at hq;split at hq
  ·rename_i v hv
   obtain⟨u,S,hk,hS,hr⟩:=zh hq;exact fin ⟨u,some S,hk,hS,hr⟩ rfl fun w=>by simp only[execOp,ev hv]
  ·exact hq.elim
 |nilCheck x=>
  simp only[ya]at hq;split at hq
  ·rename_i p hv
   obtain⟨b,rfl,hk⟩:=hq;exact⟨_,none,hk,trivial,trivial,fun w _=>by simp[execOp,ev hv]⟩
  ·exact hq.elim
 |binOp op t x y yt=>
  simp only[ya]at hq;split at hq
  ·rename_i v u hv hu
   obtain⟨v',S,hk,hS,hr⟩:=Hw (x:=x) (y:=y) hq;refine⟨v',S,hk,hS,trivial,fun w hw=>?_⟩
   simp only[execOp,ev hv,ev hu];exact g8 (hr w hw)
  ·rename_i v u hna hv hu
   have go:(∀c d,v=.agg c→u=.agg d→False)∧(v=.nilIface→u=.nilIface→False)∧Yv P (binOp op t v u) K h:=by
    split at hq
    ·exact A8 (neg:=false) hq
    ·exact A8 (neg:=true) hq
    ·exact Hv hq
   obtain⟨h1,h2,v',S,hk,hS,hr⟩:=go;refine⟨v',S,hk,hS,trivial,fun w hw=>?_⟩
   simp only[execOp,ev hv,ev hu];simp[H1 op t x y v u h1 h2 w,hr w hw]
  ·exact hq.elim
 |unOp op t x=>
  simp only[ya]at hq;split at hq
  ·rename_i v hv
   obtain⟨u,S,hk,hS,hr⟩:=JV (P:=P) (h:=h) hq;refine⟨u,S,hk,hS,?_,fun w hw=>by simp only[execOp,ev hv];exact g8 (hr w hw)⟩
   have hvo:=rm hd hv;cases op<;>try trivial
   simp only[Fx];have hrun:=hr {(default:World)with heap:=h} hS;cases hx:wF d x with
   |t=>
    rw[hx]at hvo;have:v=.bool true:=hvo;subst this;simp[Op.unary]at hrun;exact hrun.symm
   |f=>
    rw[hx]at hvo;have:v=.bool false:=hvo;subst this;simp[Op.unary]at hrun;exact hrun.symm
   |u=>trivial
   |x=>trivial
  ·exact hq.elim
 |convert s t x=>
  simp only[ya]at hq;split at hq
  ·rename_i v hv
   exact fin (FR hq) rfl fun w=>by simp only[execOp,ev hv]
  ·exact hq.elim
 |extract x i=>
  simp only[ya]at hq;split at hq
  ·rename_i vs hv
   split at hq
   ·rename_i u hu
    have hu':vs[i]? =some u:=by simpa using hu
    exact⟨u,none,hq,trivial,trivial,fun w _=>by simp[execOp,ev hv,Instr.extract,hu']⟩
   ·exact hq.elim
  ·exact hq.elim
 |fieldAddr t x f=>
  simp only[ya]at hq;split at hq
  ·rename_i b u off hv hf
   exact fin (zJ hf hq) rfl fun w=>by simp only[execOp,ev hv]
  ·exact hq.elim
 |field t x f=>
  simp only[ya]at hq;split at hq
  ·rename_i v hv
   exact fin (Er hq) rfl fun w=>by simp only[execOp,ev hv]
  ·exact hq.elim
 |indexAddr t x i=>
  simp only[ya]at hq;split at hq
  ·rename_i v u hv hu
   exact fin (yb hq) rfl fun w=>by simp only[execOp,ev hv,ev hu]
  ·exact hq.elim
 |index t x i=>
  simp only[ya]at hq;split at hq
  ·rename_i v u hv hu
   exact fin (Ep hq) rfl fun w=>by simp only[execOp,ev hv,ev hu]
  ·exact hq.elim
 |slice t x lo hi mx=>
  simp only[ya]at hq;split at hq
  ·rename_i v l h' m hv hl hh hm
   have ov:∀{x:Option Operand} {v:Option Value},DD r x=some v→x.map a.eval=v:=by
    intro x v hx;cases x with
    |none=>simp[DD]at hx;subst hx;rfl
    |some x=>
     simp only[DD]at hx;cases he:cZ r x with
     |none=>simp[he]at hx
     |some u=>simp[he]at hx;subst hx;simp[ev he]
   exact fin (En hq) rfl fun w=>by simp only[execOp,ev hv,ov hl,ov hh,ov hm]
  ·exact hq.elim
 |lookup t x k ok=>
  simp only[ya]at hq;split at hq
  ·rename_i v u hv hu
   exact fin (Cp hq) rfl fun w=>by simp only[execOp,ev hv,ev hu]
  ·exact hq.elim
 |makeInterface t x=>
  simp only[ya]at hq;split at hq
  ·rename_i v hv
   cases hb:ou P t with
   |false=>rw[hb]at hq;exact hq.elim
   |true=>
    rw[hb,cond_true]at hq;exact⟨_,none,hq,trivial,trivial,fun w _=>by simp only[execOp,ev hv];exact g8 (ww hb w)⟩
  ·exact hq.elim
 |typeAssert x u t ok=>
  simp only[ya]at hq;split at hq
  ·rename_i v hv
   cases ok with
   |true=>exact hq.elim
   |false=>
    rw[cond_false]at hq;unfold I0 at hq;cases hb:ou P t with
    |false=>rw[hb]at hq;exact hq.elim
    |true=>
     rw[hb,cond_true]at hq;split at hq
     ·obtain⟨y,rfl,hk⟩:=hq
      exact⟨_,none,hk,trivial,trivial,fun w _=>by simp only[execOp,ev hv];exact g8 (AE hb w)⟩
     ·exact hq.elim
  ·exact hq.elim
 |makeFunc fn first cap=>
  simp only[ya]at hq;split at hq
  ·rename_i vs us hv hu
   have e1:=mF ha hv;have e2:=mF ha hu;refine⟨_,none,hq,trivial,trivial,fun w _=>?_⟩
   have f1:first.map a.eval=vs.toArray:=by rw[←e1];apply cN;simp
   have f2:cap.map a.eval=us.toArray:=by rw[←e2];apply cN;simp
   simp[execOp,Instr.makeFunc,f1,f2]
  ·exact hq.elim
 |entry it=>
  simp only[ya]at hq;split at hq
  ·rename_i b kk vk hv
   obtain⟨h0,e,x,y,hi,hk,hy,hK⟩:=hq;refine⟨_,_,hK,hi,trivial,fun w hw=>?_⟩
   simp only[execOp,ev hv];refine g8 ?_;rw[Kl h0 hw,hk,hy]
  ·exact hq.elim
 |call c=>
  simp only[ya]at hq;have er:∀{b:Builtin} {vs:List Value},c.callee=.builtin b→oN r c.args.toList=some vs→∃cs:Array Bool,∀w,(execOp a.eval ⟨dst,.call c,type,md,after,guard⟩).run P w=
    (builtin b c.argTypes type cs vs.toArray).run P w:=by
   intro b vs hc hvs;have e1:=mF ha hvs;have f1:c.args.map a.eval=vs.toArray:=by rw[←e1];apply cN;simp
   refine⟨c.args.map fun| .const _=>true|_=>false,fun w=>?_⟩
   simp[execOp,resolve,hc,f1,invoke];rfl
  split at hq
  ·rename_i v t hc hvs hat
   obtain⟨cs,er⟩:=er hc hvs;obtain⟨u,S,hk,hS,hr⟩:=Hq (ats:=c.argTypes) (ty:=type) (by rw[←bo,hat];rfl) hq;exact⟨u,S,hk,hS,trivial,fun w hw=>by rw[er w];simp only[builtin];exact g8 (hr w hw)⟩
  ·rename_i v t hc hvs hat
   obtain⟨cs,er⟩:=er hc hvs;obtain⟨u,S,hk,hS,hr⟩:=Hu (h:=h) (ats:=c.argTypes) (ty:=type) (by rw[←bo,hat];rfl) hq;exact⟨u,S,hk,hS,trivial,fun w hw=>by rw[er w];simp only[builtin];exact g8 (hr w hw)⟩
  ·rename_i vs hc hvs
   obtain⟨cs,er⟩:=er hc hvs;obtain⟨u,hk,hr⟩:=uC (P:=P) (ats:=c.argTypes) (ty:=type) hq;exact⟨u,none,hk,trivial,trivial,fun w _=>by rw[er w];simp only[builtin];exact g8 (hr w)⟩
  ·rename_i vs hc hvs
   obtain⟨cs,er⟩:=er hc hvs;obtain⟨u,hk,hr⟩:=uC (P:=P) (ats:=c.argTypes) (ty:=type) hq;exact⟨u,none,hk,trivial,trivial,fun w _=>by rw[er w];simp only[builtin];exact g8 (hr w)⟩
  ·exact hq.elim
 |build t ps=>
  simp only[ya]at hq;split at hq
  ·rename_i vs hvs
   split at hq
   ·rename_i cs hcs
    refine⟨_,none,hq,trivial,trivial,fun w _=>?_⟩
    have hp:(ps.map fun x=>(x.1,a.eval x.2))=vs.toArray:=by
     rw[←mH ha hvs];apply cN;simp
    have he:=wM (ps:=vs.toArray) (by simpa using hcs) w;simp only[execOp];rw[show(ps.map fun(i,x)=>(i,a.eval x))=vs.toArray from hp]
    exact g8 he
   ·exact hq.elim
  ·exact hq.elim
 |_=>simp only[ya]at hq
end Go.Lift
namespace Go.Lift
open Go
variable {P:Program}
def GC(P:Program)(s:Sem Next)(K:WK)(w:World):Prop:=
 (∃v w',s.run P w=.ok (.value v) w'∧Tame w w'∧K v w'.heap)∨
 (∃w',s.run P w=.ok .skip w'∧Tame w w'∧K undef w'.heap)∨
 (∃f args,s.run P w=.ok (.enter f args) w∧Calls P f args w fun e w'=>Tame w w'∧∃v,e=.returned v∧K v w'.heap)∨
 (∃l fn tmps assign body,s.run P w=.ok (.round l fn tmps assign body) w∧
  ∀(c:Frame) (cs:List Frame),∃b w',Tame w w'∧K (.bool b) w'.heap∧Steps P (lone (Frame.round l fn tmps assign body .normal) (c::cs) w) (lone (c.finish (.bool b)) cs w'))
def Wv(P:Program)(s:Sem Value)(K:WK)(w:World):Prop:=∃v w',s.run P w=.ok v w'∧Tame w w'∧K v w'.heap
theorem Wv.out{s:Sem Value}{K:WK}{w:World}(h:Wv P s K w):GC P (do pure (Next.value (←s))) K w:=by
 obtain⟨v,w',hr,ht,hk⟩:=h;exact .inl ⟨v,w',g8 hr,ht,hk⟩
def Wu(P:Program)(s:Sem Unit)(K:WK)(w:World):Prop:=∃w',s.run P w=.ok () w'∧Tame w w'∧K undef w'.heap
theorem Wu.out{s:Sem Unit}{K:WK}{w:World}(h:Wu P s K w):GC P (do s;pure Next.skip) K w:=by
 obtain⟨w',hr,ht,hk⟩:=h;exact .inr (.inl ⟨w',Lk hr,ht,hk⟩)
def jg(w:World)(h:ae):World:={w with heap:=h}
theorem d9(w:World)(h:ae):Tame w (jg w h):=⟨rfl,rfl,rfl⟩
theorem jn(e:TypeId)(cs:Array Value)(w:World):(newRow e cs).run P w=.ok (ag w.heap) (jg w (hnew w.heap cs.toList e)):=by
 simp[newRow,newObj,Sem.run,ag,jg,hnew,bind,Sem.bind,pure]
theorem AY(o:Obj)(w:World):(newObj o).run P w=.ok w.heap.size (jg w (w.heap.push o)):=rfl
theorem Cv{h:ae}{a b:Addr}(v:Value)(hne:a≠b):aE (hset h a v) b=aE h b:=
 World.cell?_setCell_other {(default:World)with heap:=h} a b v hne
theorem zI{h:ae}{a:Addr}{u:Value}(v:Value)(hc:aE h a=some u):aE (hset h a v) a=some v:=
 World.cell?_setCell_same {(default:World)with heap:=h} a v hc
theorem EG{h:ae}{a b:Addr}(v:Value):Al (hset h a v) b=Al h b:=
 World.frozen?_setCell {(default:World)with heap:=h} a b v
theorem Wr.hset{h:ae}{a b:Addr}(v:Value)(hw:Wr h b):Wr (hset h a v) b:=by
 obtain⟨⟨u,hu⟩,hf⟩:=hw;refine⟨?_,by rw[EG];exact hf⟩
 by_cases e:a=b
 ·subst e;exact⟨v,zI v hu⟩
 ·exact⟨u,by rw[Cv v e];exact hu⟩
theorem Hi{w:World}{a:Addr}{v:Value}(hv:∀cs,v≠ .agg cs)(hv':∀cs,v≠ .tuple cs)(hw:Wr w.heap a):(store a v).run P w=.ok () (jg w (hset w.heap a v)):=by
 obtain⟨⟨u,hu⟩,hf⟩:=hw;have hu':w.cell? a=some u:=hu;have hf':w.frozen? a=false:=hf;cases v<;>first|exact absurd rfl (hv _)|exact absurd rfl (hv' _)|(simp only[store,Sem.run,hu',hf'];rfl)
theorem Ey{v:Value}{vs:List Value}(h:bS (v::vs)=true):(∀cs,v≠ .agg cs)∧(∀cs,v≠ .tuple cs)∧bS vs=true:=by
 simp only[bS,aZ]at h;refine⟨fun cs e=>?_,fun cs e=>?_,h.2⟩<;>(subst e;exact absurd h.1 (by simp))
theorem pp{a:Addr}:∀(vs:List Value) (i:Nat) (w:World),bS vs=true→(∀j,j<vs.length→Wr w.heap (adr a (i+j)))→
  (storeCells a vs i).run P w=.ok () (jg w (bP w.heap a i vs))
 | [],i,w,_,_=>rfl
 |v::vs,i,w,h1,hw=>by
  obtain⟨n1,n2,h1⟩:=Ey h1;have h0:=hw 0 (by simp);simp only[eC]at h0;have ha:a.add i=adr a i:=(qS a i).symm;simp only[storeCells,ha,Sem.run_bind,Hi n1 n2 h0,Result.andThen_ok];rw[pp vs (i+1) (jg w (hset w.heap (adr a i) v)) h1 fun j hj=>?_]
  ·rfl
  ·have:=hw (j+1) (by simp only[aq];omega)
   rw[show i+1+j=i+(j+1) by omega]
   exact this.hset v
theorem DN{a:Addr}(m:Nat):∀(vs:List Value) (i:Nat) (h:ae),bP h (adr a m) i vs=bP h a (m+i) vs
 | [],_,_=>rfl
 |v::vs,i,h=>by
  simp only[bP];rw[DN m vs (i+1),wQ];rfl
theorem Ea{t:TypeId}{a v:Value}{K:WK}{w:World}(hs:GY P t a v K w.heap):Wu P (Instr.storeAt t a v) K w:=by
 unfold GY at hs;split at hs
 ·rename_i a
  cases hb:(bm v.cells.toList.length (bM P t)&&bS v.cells.toList)with
  |false=>rw[hb]at hs;exact hs.elim
  |true=>
   rw[hb]at hs;simp only[aZ]at hb;have hl:=aP hb.1;obtain⟨hs,hz⟩:=nC hs;have hl':v.cells.size=bM P t:=by simpa using hl
   have go:(∀j,j<v.cells.toList.length→Wr w.heap (adr a (0+j)))→(Instr.storeAt t (.pointer (some a)) v).run P w=.ok () (jg w (bP w.heap a 0 v.cells.toList)):=by
    intro hw;have:=pp (P:=P) v.cells.toList 0 w hb.2 hw;simp[Instr.storeAt,Instr.sureAddr,storeVar,hz,hl',this]
   split at hs
   ·rename_i u hu
    obtain⟨hw,hk⟩:=hs;refine⟨_,go (fun j hj=>?_),d9 _ _,?_⟩
    ·rw[hu]at hj;simp only[aq,List.length_nil]at hj
     obtain rfl:j=0:=by omega
     exact hw
    ·rw[hu];exact hk
   ·obtain⟨hw,hk⟩:=hs
    refine⟨_,go (fun j hj=>?_),d9 _ _,hk⟩
    rcases hw with e|⟨b,hb',hw⟩
    ·rw[e]at hj;cases hj
    ·cases hb';exact hw j hj
 ·exact hs.elim
theorem iP(z:Array Value)(n:Nat):(Builtin.zeroCells z n).toList=dd n z.toList:=by
 have key:∀n,(List.range (n*z.size)).map (fun i=>z[i%z.size]!)=(iY n z.toList).flatten:=by
  intro n;induction n with
  |zero=>simp
  |succ n ih=>
   rw[Nat.succ_mul,List.range_add,List.map_append,ih,List.replicate_succ',List.flatten_append];congr 1
   simp only[sy,List.flatten_cons,List.flatten_nil,List.append_nil];apply List.ext_getElem
   ·simp
   ·intro i h1 h2
    simp only[List.length_map,List.length_range]at h1;simp[Nat.mod_eq_of_lt h1,h1,Nat.add_mod]
 simpa[Builtin.zeroCells,dd]using key n
theorem df{t e:TypeId}(h:sC P t=some e):P.underlying t=some (.slice e):=by
 unfold sC at h;split at h
 ·rename_i e' hu;simp only[bG.injEq]at h;subst h;exact hu
 ·cases h
theorem IL{z:Value}{n:Nat}:((Array.range (n*z.cells.size)).map (z.cells[· %z.cells.size]!))=(dd n z.cells.toList).toArray:=by
 have:=iP z.cells n;unfold Builtin.zeroCells at this;apply cN;rw[this]
theorem yo{t e:TypeId}{n:Nat}{ps:Array (Nat×Value)}{z cs:List Value}(ht:sC P t=some e)(hz:oL P e=some z)(hn:n*bM P e≤16777216)(hl:z.length=bM P e)
  (hb:zr (fun i=>some (i*bM P e,bM P e)) (dd n z) ps.toList=some cs)(w:World):
  (Instr.buildSlice t n ps).run P w=.ok (.slice (some (ag w.heap)) n n) (jg w (hnew w.heap cs e)):=by
 obtain⟨v,hv,hvc⟩:=jf hz;obtain⟨i,hi,hiz⟩:=pg hv;have hs:(sizeOf e).run P w=.ok (bM P e) w:=by simp[sizeOf,cD hi,bM,hi]
 have hvs:v.cells.size=bM P e:=by rw[←hl,←hvc];simp
 have hf:=qf _ _ _ hb;have hrow:((Array.range (n*bM P e)).map (fun i=>(if n*bM P e=0 then #[]else v.cells)[i%(if n*bM P e=0 then #[]else v.cells).size]!))=(dd n z).toArray:=by
  by_cases h0:n*bM P e=0
  ·have:(dd n z).length=0:=by simp[dd,hl,h0]
   rw[ar.1 this];simp[h0]
  ·simp only[if_neg h0]
   rw[←hvs,IL,hvc]
 have hn':¬(n*bM P e>2^24):=by omega
 simp only[Instr.buildSlice,Sem.run_bind,aw (df ht),Result.andThen_ok,hs,if_neg hn'];by_cases h0:n*bM P e=0
 ·simp only[if_pos h0]at hrow
  simp only[if_pos h0,Sem.run_bind,Sem.run_pure,Result.andThen_ok,hrow,hf,jn]
 ·simp only[if_neg h0]at hrow
  simp only[if_neg h0,Sem.run_bind,Sem.run_pure,Result.andThen_ok,ef hv,hrow,hf,jn]
theorem JP{h:ae}{a:Addr}{vs:List Value}(hr:Row h a vs):∀j v,vs[j]? =some v→aE h (a.add j)=some v:=fun j v hv=>by
 rw[←qS];exact hr j v hv
theorem tT{size n cap len:Nat}{b:Option Addr}{vs:List Value}{w:World}(hs:SRow w.heap b (n*size) vs):(Builtin.firstCells size n (.slice b len cap)).run P w=.ok vs.toArray w:=by
 obtain⟨hl,hr⟩:=hs;cases b with
 |none=>
  rcases hr with rfl|⟨_,h,_⟩
  ·simp[Builtin.firstCells]
  ·cases h
 |some b=>
  refine run_firstCells_some w size n b len cap vs hl fun j v hv=>?_
  rcases hr with rfl|⟨_,h,hr⟩
  ·cases hv
  ·cases h;exact JP hr j v hv
theorem AN{a:Addr}{m:Nat}{xs:List Value}{w:World}(h1:bS xs=true)(hw:fV w.heap (some a) m xs):
  (storeCells (a.add m) xs).run P w=.ok () (jg w (bP w.heap a m xs)):=by
 rcases hw with rfl|⟨b,hb,hw⟩
 ·rfl
 ·cases hb
  have:=pp (P:=P) (a:=adr a m) xs 0 w h1 fun j hj=>by rw[wQ,aF];exact hw j hj
  rw[←qS,this,DN,eC]
set_option maxHeartbeats 1000000 in
theorem BH{t e u ty:TypeId}{b:Option Addr}{sl sc xl:Nat}{xs:List Value}{x:Value}{K:WK}{w:World}(ht:sC P t=some e)(hu':(∃e',P.underlying u=some (.slice e'))∨P.underlying u=some .string)
  (hlen:∀w,(Builtin.lenOf x).run P w=.ok xl w)(hx:∀w':World,w'.heap=w.heap→(Builtin.firstCells (bM P e) xl x).run P w'=.ok xs.toArray w')
  (hi:∃i,P.info? e=some i)
  (h:L5 P e b sl sc xl xs K w.heap):Wv P (Builtin.append_ #[t,u] ty #[.slice b sl sc,x]) K w:=by
 obtain⟨i,hi⟩:=hi;have hsz:bM P e=i.size:=by simp[bM,hi]
 have hby:oQ P e=i.bytes:=by simp[oQ,hi]
 by_cases hc:sl+xl≤sc
 ·obtain⟨hw,h1,hk⟩:=h.1 hc
  refine⟨_,_,?_,d9 w (fe w.heap b (sl*bM P e) xs),hk⟩;cases b with
  |none=>
   have hxs:=hx w rfl;rw[hsz]at hxs;rcases hu' with⟨e',hd⟩|hd<;>(simp[Builtin.append_,aw (df ht),aw hd,sizeOf,cD hi,hlen,hc,hxs];rfl)
  |some a=>
   have hst:=AN (P:=P) h1 hw;have hxs:=hx w rfl;rw[hsz]at hst hxs;rcases hu' with⟨e',hd⟩|hd<;>(simp[Builtin.append_,aw (df ht),aw hd,sizeOf,cD hi,hlen,hc,hxs,hst,fe,hsz])
 ·obtain⟨old,z,ho,hz,hb0,h48,hk⟩:=h.2 (by omega)
  obtain⟨v,hv,hvc⟩:=jf hz;obtain⟨i',hi',hiz⟩:=pg hv;rw[hi]at hi';cases hi';rw[hby]at hb0 h48;have hb0':¬i.bytes=0:=by omega
  have h48':¬(281474976710656<Builtin.nextslicecap (sl+xl) sc*i.bytes):=by omega
  have hxs:=hx w.drew rfl;have hol:(Builtin.firstCells (bM P e) sl (.slice b sl sc)).run P w.drew=.ok old.toArray w.drew:=tT ho;rw[hsz]at hxs hol;have hge:sl+xl≤(Question.appendCap (sl+xl) sc e).cut (w.tape w.drawn (.appendCap (sl+xl) sc e)):=Nat.le_add_right _ _;refine⟨_,jg w.drew (hnew w.heap (old++xs++dd ((Question.appendCap (sl+xl) sc e).cut (w.tape w.drawn (.appendCap (sl+xl) sc e))-(sl+xl)) z) e),?_,⟨rfl,rfl,rfl⟩,hk _ hge⟩
  have hzc:(Builtin.zeroCells v.cells ((Question.appendCap (sl+xl) sc e).cut (w.tape w.drawn (.appendCap (sl+xl) sc e))-(sl+xl)))=(dd ((Question.appendCap (sl+xl) sc e).cut (w.tape w.drawn (.appendCap (sl+xl) sc e))-(sl+xl)) z).toArray:=by
   apply cN;rw[iP,hvc]
  rcases hu' with⟨e',hd⟩|hd<;>(simp[Builtin.append_,aw (df ht),aw hd,sizeOf,cD hi,hlen,hc,hb0',h48',Question.forced,hxs,hol,ef hv,jn,hzc,ag];rfl)
theorem Bh{t:TypeId}{K:Prop}(h:Lw P t K):∃i,P.info? t=some i:=by
 unfold Lw at h;cases hi:P.info? t with
 |none=>rw[hi]at h;exact h.elim
 |some i=>exact⟨i,rfl⟩
theorem wA{t:TypeId}(h:bM P t≠0):∃i,P.info? t=some i:=by
 cases hi:P.info? t with
 |none=>exact absurd (by simp[bM,hi]) h
 |some i=>exact⟨i,rfl⟩
theorem zu{size n:Nat}{x:ByteArray}{w:World}:(Builtin.firstCells size n (.string x)).run P w=.ok ((dq x).take n).toArray w:=by
 simp only[Builtin.firstCells,Sem.run_pure];congr 1
 apply cN;simp[dq,jB,eE,←List.map_take]
theorem uz{t u ty:TypeId}{s x:Value}{K:WK}{w:World}(hu':(∃e',P.underlying u=some (.slice e'))∨P.underlying u=some .string)(h:Ab P t s x K w.heap):
  Wv P (Builtin.append_ #[t,u] ty #[s,x]) K w:=by
 unfold Ab at h;split at h
 ·rename_i e b sl sc a xl xc ht
  have hi:=Bh h;obtain⟨⟨xs,hxs,hk⟩,hz⟩:=nC h;exact BH ht hu' (fun w=>rfl) (fun w' hw=>tT (by rw[hw];exact hxs)) hi hk
 ·rename_i e b sl sc x ht
  cases hb:bm (bM P e) 1 with
  |false=>rw[hb]at h;exact h.elim
  |true=>
   rw[hb]at h;have h1:=aP hb;have hl:(dq x).length=x.size:=by simp[dq]
   refine BH ht hu' (fun w=>rfl) (fun w' _=>?_) (wA (by omega)) h
   rw[zu,aU (by omega)]
 ·exact h.elim
theorem xV{n:Int}(h0:0≤n)(h1:n≤9223372036854775807):IntKind.i64.wrap n=n:=IntWalk.i64_in n ⟨by omega,h1⟩
theorem Ih{t e u ty:TypeId}{b:Option Addr}{sl sc:Nat}{k0 k:IntKind}{l:Int}{z:List Value}{K:WK}{w:World}(ht:sC P t=some e)(hu:P.underlying u=some (.int k0))
  (hz:oL P e=some z)(hzl:z.length=bM P e)(h0:0≤l)(h1:l*oQ P e≤2^48)(h2:l≤9223372036854775807)(h3:((sl+l.toNat:Nat):Int)≤9223372036854775807)
  (h:L5 P e b sl sc l.toNat (dd l.toNat z) K w.heap):Wv P (Builtin.append_ #[t,u] ty #[.slice b sl sc,.int k l]) K w:=by
 obtain⟨v,hv,hvc⟩:=jf hz;obtain⟨i,hi,hiz⟩:=pg hv;have hsz:bM P e=i.size:=by simp[bM,hi]
 have hby:oQ P e=i.bytes:=by simp[oQ,hi]
 have hw:IntKind.wrap .i64 l=l:=xV h0 h2;have hl0:¬l<0:=by omega
 rw[hby]at h1;have h1':¬(281474976710656:Int)<l*i.bytes:=by omega
 have hai:∀w':World,(asInt (.int k l)).run P w'=.ok l w':=fun w'=>rfl
 have hzn:(Builtin.zeroCells v.cells l.toNat)=(dd l.toNat z).toArray:=by apply cN;rw[iP,hvc]
 have hz0:l.toNat*i.size=0→dd l.toNat z= []:=fun h0'=>by
  have hlen:(dd l.toNat z).length=l.toNat*i.size:=by rw[←hsz,←hzl];unfold dd;simp
  exact ar.1 (by rw[hlen,h0'])
 by_cases hc:sl+l.toNat≤sc
 ·obtain⟨hw',h1,hk⟩:=h.1 hc
  refine⟨_,_,?_,d9 w (fe w.heap b (sl*bM P e) (dd l.toNat z)),hk⟩;cases b with
  |none=>
   by_cases hs:l.toNat*i.size=0
   ·simp[Builtin.append_,aw (df ht),aw hu,sizeOf,cD hi,hai,hw,hl0,h1',hc,hs];rfl
   ·simp[Builtin.append_,aw (df ht),aw hu,sizeOf,cD hi,hai,hw,hl0,h1',hc,ef hv];rfl
  |some a=>
   have hst:=AN (P:=P) h1 hw';rw[hsz]at hst;by_cases hs:l.toNat*i.size=0
   ·rw[hz0 hs]at hst
    simp[Builtin.append_,aw (df ht),aw hu,sizeOf,cD hi,hai,hw,hl0,h1',hc,hst,fe,hsz,hs,hz0 hs]
   ·simp[Builtin.append_,aw (df ht),aw hu,sizeOf,cD hi,hai,hw,hl0,h1',hc,hst,fe,hsz,hs,ef hv,hzn]
 ·obtain⟨old,z',ho,hz',hb0,h48,hk⟩:=h.2 (by omega)
  rw[hz]at hz';cases hz';rw[hby]at hb0 h48;have hb0':¬i.bytes=0:=by omega
  have h48':¬(281474976710656<Builtin.nextslicecap (sl+l.toNat) sc*i.bytes):=by omega
  have h3':¬(9223372036854775807:Int)<((sl:Int)+(l.toNat:Int)):=by omega
  have h3'':¬(9223372036854775807:Int)<((sl:Int)+max l 0):=by omega
  have hol:(Builtin.firstCells (bM P e) sl (.slice b sl sc)).run P w.drew=.ok old.toArray w.drew:=tT ho;rw[hsz]at hol;have hge:sl+l.toNat≤(Question.appendCap (sl+l.toNat) sc e).cut (w.tape w.drawn (.appendCap (sl+l.toNat) sc e)):=Nat.le_add_right _ _;refine⟨_,jg w.drew (hnew w.heap (old++dd l.toNat z++dd ((Question.appendCap (sl+l.toNat) sc e).cut (w.tape w.drawn (.appendCap (sl+l.toNat) sc e))-(sl+l.toNat)) z) e),?_,⟨rfl,rfl,rfl⟩,hk _ hge⟩
  have hzc:(Builtin.zeroCells v.cells ((Question.appendCap (sl+l.toNat) sc e).cut (w.tape w.drawn (.appendCap (sl+l.toNat) sc e))-(sl+l.toNat)))=(dd ((Question.appendCap (sl+l.toNat) sc e).cut (w.tape w.drawn (.appendCap (sl+l.toNat) sc e))-(sl+l.toNat)) z).toArray:=by
   apply cN;rw[iP,hvc]
  by_cases hs:l.toNat*i.size=0
  ·rw[hz0 hs]at hk⊢
   simp[Builtin.append_,aw (df ht),aw hu,sizeOf,cD hi,hai,hw,hl0,h1',hc,h3'',h48',Question.forced,hol,ef hv,jn,hzc,ag,hs];rfl
  ·simp[Builtin.append_,aw (df ht),aw hu,sizeOf,cD hi,hai,hw,hl0,h1',hc,h3'',h48',Question.forced,hol,ef hv,jn,hzc,ag,hs,hzn];rfl
theorem AA{t u ty:TypeId}{k0:IntKind}{s x:Value}{K:WK}{w:World}(hu:P.underlying u=some (.int k0))(h:AB P t s x K w.heap):
  Wv P (Builtin.append_ #[t,u] ty #[s,x]) K w:=by
 unfold AB at h;split at h
 ·rename_i e b sl sc k l ht
  split at h
  ·rename_i z hz
   cases hb:bm z.length (bM P e)with
   |false=>rw[hb]at h;exact h.elim
   |true=>
    rw[hb]at h;obtain⟨⟨h0,h1,h2,h3⟩,hk⟩:=h;exact Ih ht hu hz (aP hb) h0 h1 h2 h3 hk
  ·exact h.elim
 ·exact h.elim
theorem ii:∀{a b:List Value},bS a=true→bS b=true→bS (a++b)=true
 | [],_,_,h=>h
 |v::a,b,h,k=>by
  simp only[bS,cS,aZ]at h⊢;exact⟨h.1,ii h.2 k⟩
theorem wn{z:List Value}(h:bS z=true):∀n,bS (dd n z)=true
 |0=>rfl
 |n+1=>by
  have:dd (n+1) z=z++dd n z:=by simp[dd,List.replicate_succ]
  rw[this];exact ii h (wn h n)
theorem Eb{t ty:TypeId}{x:Value}{K:WK}{w:World}(h:GZ P t x K w.heap):Wv P (Builtin.clear_ #[t] ty #[x]) K w:=by
 unfold GZ at h;split at h
 ·rename_i e a n c ht
  split at h
  ·rename_i z hz
   obtain⟨v,hv,hvc⟩:=jf hz;cases ho:bS z with
   |false=>rw[ho]at h;exact h.elim
   |true=>
    rw[ho]at h;obtain⟨hw,hk⟩:=h;refine⟨_,_,?_,d9 w (fe w.heap a 0 (dd n z)),hk⟩;cases a with
    |none=>simp[Builtin.clear_,aw (df ht)];rfl
    |some a=>
     cases n with
     |zero=>simp[Builtin.clear_,aw (df ht)];rfl
     |succ n=>
      have hst:=AN (P:=P) (wn ho (n+1)) hw;rw[←qS,BJ]at hst;have hzc:(Builtin.zeroCells v.cells (n+1)).toList=dd (n+1) z:=by rw[iP,hvc]
      simp[Builtin.clear_,aw (df ht),ef hv,hzc,hst,fe]
  ·exact h.elim
 ·exact h.elim
theorem wp:∀(xs:List Value) (n:Nat),bS xs=true→bS (xs.take n)=true
 | [],n,_=>by simp[bS]
 |x::xs,0,_=>by simp[bS]
 |x::xs,n+1,h=>by
  simp only[bS,aZ,List.take_succ_cons]at h⊢;exact⟨h.1,wp xs n h.2⟩
theorem Cq(x:ByteArray):bS (dq x)=true:=by
 have:∀l:List UInt8,bS (l.map fun b=>.int .u8 (b.toNat:Int))=true:=by
  intro l;induction l with
  |nil=>rfl
  |cons b l ih=>simp[bS,ih]
 exact this _
theorem Fz{t u ty:TypeId}{d s:Value}{K:WK}{w:World}(h:K3 P t d s K w.heap):Wv P (Builtin.copy_ #[t,u] ty #[d,s]) K w:=by
 unfold K3 at h;split at h
 ·rename_i e b dl dc a sl sc ht
  obtain⟨⟨xs,hxs,hw,h1,hk⟩,hz⟩:=nC h;refine⟨_,_,?_,d9 w (fe w.heap b 0 xs),hk⟩;have hf:=tT (P:=P) (len:=sl) (cap:=sc) hxs;cases b with
  |none=>simp[Builtin.copy_,aw (df ht),Builtin.lenOf,hz,hf,goInt];rfl
  |some c=>
   have hst:=AN (P:=P) (m:=0) h1 hw;simp only[Addr.add,if_pos]at hst;simp[Builtin.copy_,aw (df ht),Builtin.lenOf,hz,hf,goInt,hst,fe]
 ·rename_i e b dl dc x ht
  cases hb:bm (bM P e) 1 with
  |false=>rw[hb]at h;exact h.elim
  |true=>
   rw[hb]at h;have h1:=aP hb;obtain⟨i,hi⟩:=wA (P:=P) (t:=e) (by omega);have hz:(sizeOf e).run P w=.ok (bM P e) w:=by simp[sizeOf,cD hi,bM,hi]
   obtain⟨hw,hk⟩:=h;have hl:(dq x).length=x.size:=by simp[dq]
   have he:(dq x).take (dz x.size dl)=(dq x).take dl:=by
    by_cases hx:x.size≤dl
    ·rw[show dz x.size dl=x.size from Nat.min_eq_left hx,aU (by omega),aU (by omega)]
    ·rw[show dz x.size dl=dl from Nat.min_eq_right (by omega)]
   have hf:(Builtin.firstCells (bM P e) (dz x.size dl) (.string x)).run P w=.ok ((dq x).take dl).toArray w:=by
    rw[zu,he]
   refine⟨_,_,?_,d9 w (fe w.heap b 0 ((dq x).take dl)),hk⟩;cases b with
   |none=>simp[Builtin.copy_,aw (df ht),Builtin.lenOf,hz,hf,goInt];rfl
   |some c=>
    have hst:=AN (P:=P) (m:=0) (wp _ dl (Cq x)) hw;simp only[Addr.add,if_pos]at hst;simp[Builtin.copy_,aw (df ht),Builtin.lenOf,hz,hf,goInt,hst,fe]
 ·exact h.elim
theorem I6(k v:Value)(clock:Nat):∀(es:List MapEntry),(match es.findIdx? (fun e=>gd k e.key)with
  |some i=>(es.modify i (fun e=>{e with key:=k,val:=v}),clock)
  |none=>(es++ [{key:=k,val:=v,born:=clock}],clock+1))=Hx k v clock es
 | []=>rfl
 |e::es=>by
  have ih:=I6 k v clock es;simp only[Hx,List.findIdx?_cons];cases hk:gd k e.key with
  |true=>simp[List.modify]
  |false=>
   simp only[cH,if_false];rw[←ih];cases hf:es.findIdx? (fun e=>gd k e.key)with
   |none=>simp
   |some i=>simp[List.modify]
theorem th{d:TypeDesc}{c:CK}(hd:m0 d c)(x:c.den):∀(es:List MapEntry) (i:Nat),Bf c es→
  Instr.findNow d (c.enc x) es i=some (match es.findIdx? (fun e=>gd (c.enc x) e.key)with
   |some j=>(es[j]?).map fun e=>(i+j,e.val)
   |none=>none)
 | [],i,_=>rfl
 |e::es,i,h=>by
  obtain⟨y,hy⟩:=h e (by simp);have hs:=zd hd x y;rw[←hy]at hs;have ih:=th hd x es (i+1) fun e' he'=>h e' (by simp[he'])
  simp only[Instr.findNow,List.findIdx?_cons,hs];cases hb:gd (c.enc x) e.key with
  |true=>simp
  |false=>
   simp only[cH,if_false];rw[ih];cases hf:es.findIdx? (fun e=>gd (c.enc x) e.key)with
   |none=>simp
   |some j=>simp[qZ,Nat.add_comm 1 j]
theorem zL{a b:ByteArray}(h:(a==b)=true):a=b:=by
 cases a with|mk a=>cases b with|mk b=>
 have h:(a==b)=true:=h;rw[eq_of_beq h]
theorem BD(a:ByteArray):(a==a)=true:=by
 cases a with|mk a=>
 exact beq_self_eq_true a
theorem Ej{d:TypeDesc}{c:CK}(hd:m0 d c)(x y:c.den)(h:gd (c.enc x) (c.enc y)=true):Instr.sameBits 10000 (c.enc y) (c.enc x)=true:=by
 rcases hd with⟨i,rfl,rfl⟩|⟨rfl,rfl⟩|⟨rfl,rfl⟩
 ·have h:x=y:=eq_of_beq (α:=Int) h
  subst h;have:∀n:Int,(i==i&&n==n)=true:=fun n=>by simp
  exact this x
 ·have h:x=y:=zL h
  subst h;exact BD x
 ·have h:x=y:=eq_of_beq (α:=Bool) h
  subst h;exact beq_self_eq_true (α:=Bool) x
theorem rQ{w:World}{r:Nat}{es:Array MapEntry}{clock:Nat}{o:Obj}(h:w.heap[r]? =some (.map es clock)):(setObj r o).run P w=.ok () (jg w (w.heap.setIfInBounds r o)):=by
 simp only[setObj,Sem.run,h];rfl
theorem HH{t k e:TypeId}{d:TypeDesc}{c:CK}(hu:P.underlying t=some (.map k e))(hk:P.underlying k=some d)(hd:m0 d c){r:Nat}{x:c.den}{v:Value}{w:World}(hm:Jz c w.heap r):
  (Instr.mapUpdate t (.map (some r)) (c.enc x) v).run P w=.ok () (jg w (MJ w.heap r (c.enc x) v)):=by
 obtain⟨es,clock,hb,hks⟩:=hm;obtain⟨q,h1,h2,h3⟩:=rY (P:=P) hd hk x hks w;rw[th hd x es.toList 0 hks]at h2;have hput:=I6 (c.enc x) v clock es.toList;have hmp:MJ w.heap r (c.enc x) v=w.heap.setIfInBounds r (.map (Hx (c.enc x) v clock es.toList).1.toArray (Hx (c.enc x) v clock es.toList).2):=by
  simp only[MJ,hb]
 rw[hmp,←hput];simp only[Instr.mapUpdate,Sem.run_bind,aw hu,Result.andThen_ok,kz hb,lS hd hk,h1];cases hf:es.toList.findIdx? (fun e=>gd (c.enc x) e.key)with
 |none=>
  rw[hf]at h2;simp only[bG.injEq]at h2;subst h2;simp only[rQ hb];congr 4
  apply cN;simp
 |some i=>
  rw[hf]at h2;simp only[bG.injEq]at h2;obtain⟨hi,hp,_⟩:=List.findIdx?_eq_some_iff_getElem.1 hf;have he:es.toList[i]? =some es.toList[i]:=ai hi;rw[he]at h2;simp only[gl,aF]at h2;subst h2;have he':es[i]? =some es.toList[i]:=by rw[←bo];exact he
  obtain⟨y,hy⟩:=hks es.toList[i] (List.getElem_mem hi);have hsb:Instr.sameBits 10000 (es.toList[i]).key (c.enc x)=true:=by
   rw[hy]at hp⊢;exact Ej hd x y hp
  simp only[he',gl,Option.getD_some,Instr.keyThatStays,hsb,if_true,Sem.run_bind,Sem.run_pure,Result.andThen_ok,rQ hb];congr 4
  apply cN;simp
theorem uy{t:TypeId}{m k v:Value}{K:WK}{w:World}(h:Aa P t m k v K w.heap):Wu P (Instr.mapUpdate t m k v) K w:=by
 unfold Aa at h;split at h
 ·rename_i c e m hc
  obtain⟨kt,d,hu,hk,hd⟩:=td hc;obtain⟨kx,rfl,r,rfl,hm,hK⟩:=CK.dec_sound h;exact⟨_,HH hu hk hd hm,d9 _ _,hK⟩
 ·exact h.elim
theorem Gq(k:Value):∀(es:List MapEntry),(match es.findIdx? (fun e=>gd k e.key)with
  |some i=>es.eraseIdx i
  |none=>es)=Gr k es
 | []=>rfl
 |e::es=>by
  have ih:=Gq k es;simp only[Gr,List.findIdx?_cons];cases hk:gd k e.key with
  |true=>simp
  |false=>
   simp only[cH,if_false];rw[←ih];cases hf:es.findIdx? (fun e=>gd k e.key)<;>simp
theorem F8{t k e ty:TypeId}{ts:Array TypeId}{d:TypeDesc}{c:CK}(ht:ts[0]? =some t) (hu:P.underlying t=some (.map k e)) (hk:P.underlying k=some d) (hd:m0 d c) {r:Nat} {x:c.den} {w:World} (hm:Jz c w.heap r):
  (Builtin.delete_ ts ty #[.map (some r),c.enc x]).run P w=.ok (.tuple #[]) (jg w (Jg w.heap r (c.enc x))):=by
 obtain⟨es,clock,hb,hks⟩:=hm;obtain⟨q,h1,h2,h3⟩:=rY (P:=P) hd hk x hks w;rw[th hd x es.toList 0 hks]at h2;have hdrop:=Gq (c.enc x) es.toList;have hmp:Jg w.heap r (c.enc x)=w.heap.setIfInBounds r (.map (Gr (c.enc x) es.toList).toArray clock):=by
  simp only[Jg,hb]
 rw[hmp,←hdrop];simp only[Builtin.delete_,ht,List.getElem?_toArray,List.getElem?_cons_zero,List.getElem?_cons_succ,Sem.run_bind,aw hu,Result.andThen_ok,kz hb,lS hd hk,h1];cases hf:es.toList.findIdx? (fun e=>gd (c.enc x) e.key)with
 |none=>
  rw[hf]at h2;simp only[bG.injEq]at h2;subst h2;simp[rQ hb]
 |some i=>
  rw[hf]at h2;simp only[bG.injEq]at h2;obtain⟨hi,hp,_⟩:=List.findIdx?_eq_some_iff_getElem.1 hf;have he:es.toList[i]? =some es.toList[i]:=ai hi;rw[he]at h2;simp only[gl,aF]at h2;subst h2;have hi':i<es.size:=by simpa using hi
  have herase:es.eraseIdxIfInBounds i=(es.toList.eraseIdx i).toArray:=by
   apply cN;simp[Array.eraseIdxIfInBounds,hi']
  simp[rQ hb,herase]
theorem Ay{t ty:TypeId}{ts:Array TypeId}{m k:Value}{K:WK}{w:World}(ht:ts[0]? =some t) (h:Az P t m k K w.heap):Wv P (Builtin.delete_ ts ty #[m,k]) K w:=by
 unfold Az at h;split at h
 ·rename_i c e m hc
  obtain⟨kt,d,hu,hk,hd⟩:=td hc;obtain⟨kx,rfl,h⟩:=CK.dec_sound h;rcases h with⟨rfl,hK⟩|⟨r,rfl,hm,hK⟩
  ·refine⟨_,w,?_,Tame.refl w,hK⟩
   simp[Builtin.delete_,ht,aw hu,lS hd hk]
  ·exact⟨_,_,F8 ht hu hk hd hm,d9 _ _,hK⟩
 ·exact h.elim
theorem JS{t k e:TypeId}(hu:P.underlying t=some (.map k e)){m:Option Nat}{clock:Nat}{w:World}(hm:m=none∧clock=0∨∃r es,m=some r∧w.heap[r]? =some (.map es clock)):
  (Instr.range t (.map m)).run P w=.ok (.pointer (some (ag w.heap))) (jg w (w.heap.push (.mapIter m clock #[] clock))):=by
 rcases hm with⟨rfl,rfl⟩|⟨r,es,rfl,hb⟩
 ·simp only[Instr.range,Sem.run_bind,aw hu,Result.andThen_ok,Sem.run_pure,AY,ag]
 ·simp only[Instr.range,Sem.run_bind,aw hu,Result.andThen_ok,Sem.run_pure,kz hb,AY,ag]
theorem sX{w:World}{i:Nat}{m:Option Nat}{since:Nat}{seen:Array Nat}{last:Nat}(h:w.heap[i]? =some (.mapIter m since seen last)):(getObj i).run P w=.ok (.mapIter m since seen last) w:=by
 simp only[getObj,Sem.run,h]
theorem FI{w:World}{i:Nat}{m:Option Nat}{since:Nat}{seen:Array Nat}{last:Nat}{o:Obj}(h:w.heap[i]? =some (.mapIter m since seen last)):(setObj i o).run P w=.ok () (jg w (w.heap.setIfInBounds i o)):=by
 simp only[setObj,Sem.run,h];rfl
theorem BA(n:Nat)(hn:0<n)(w:World):∃k w',k<n∧(choose (.mapNext n)).run P w=.ok k w'∧Tame w w'∧w'.heap=w.heap:=by
 unfold choose;simp only[Sem.run];by_cases h:(Question.mapNext n).forced=true
 ·exact⟨0,w,hn,by rw[if_pos h],Tame.refl w,rfl⟩
 ·refine⟨(Question.mapNext n).cut (w.tape w.drawn (.mapNext n)),{w with drawn:=w.drawn+1},Nat.mod_lt _ hn,by rw[if_neg h],⟨rfl,rfl,rfl⟩,rfl⟩
theorem Fy{it:Value}{t:TypeId}{K:WK}{w:World}(h:KZ it K w.heap):Wv P (Instr.next it false t) K w:=by
 unfold KZ at h;split at h
 ·rename_i a
  obtain⟨h0,m,since,seen,last,hi,h⟩:=h;obtain⟨b,off,spot⟩:=a;simp only at h0 hi h;subst h0;rcases h with⟨rfl,hK⟩|⟨r,es,clock,rfl,hb,hnon,hend,hgo⟩
  ·exact⟨_,w,by simp only[Instr.next,Sem.run_bind,sX hi,Result.andThen_ok,Sem.run_pure],Tame.refl w,hK⟩
  ·have hguard:(!seen.isEmpty&& !es.isEmpty&&es.all (fun e=>decide (e.born≥last)))=false:=by
    rcases hnon with h|h|h<;>simp[h]
   obtain⟨left,hleft⟩:∃left,left=es.filter fun e=> !seen.contains e.born:=⟨_,rfl⟩
   obtain⟨old,hold⟩:∃old,old=left.filter (·.born<since):=⟨_,rfl⟩
   obtain⟨new,hnew⟩:∃new,new=left.filter (·.born≥since):=⟨_,rfl⟩
   obtain⟨cand,hcand⟩:∃cand:Array (Option MapEntry),cand=(if old.isEmpty then #[none]else #[])++(old++new).map some:=⟨_,rfl⟩
   have hpos:0<cand.size:=by
    rw[hcand];by_cases ho:old.isEmpty=true
    ·simp[ho];omega
    ·have:old.size≠0:=by simpa using ho
     simp[ho];omega
   obtain⟨k,w1,hk,hrun,ht,hh⟩:=BA (P:=P) cand.size hpos w;obtain⟨c,hc⟩:∃c,cand[k]? =some c:=⟨cand[k],Array.getElem?_eq_getElem hk⟩;have hi1:w1.heap[b]? =some (.mapIter (some r) since seen last):=by rw[hh];exact hi
   have hguard':(!seen.isEmpty&& !es.isEmpty&&es.all fun x=>decide (x.born≥last))=false:=hguard
   cases c with
   |none=>
    refine⟨.tuple #[.bool false],w1,?_,ht,?_⟩
    ·simp only[Instr.next,Sem.run_bind,sX hi,Result.andThen_ok,Sem.run_pure,kz hb,hguard',cH,if_false,←hleft,←hold,←hnew,←hcand,hrun,hc]
    ·rw[hh]
     have hold0:old.isEmpty=true:=by
      have hm:none∈cand:=nv hc;rw[hcand]at hm;by_cases ho:old.isEmpty=true
      ·exact ho
      ·simp[ho]at hm
     refine hend fun e he hlt=>?_
     cases hs:seen.contains e.born with
     |true=>rfl
     |false=>
      have hmem:e∈old:=by
       rw[hold,hleft];simp only[nP];exact⟨⟨by simpa using he,by rw[hs];rfl⟩,by simpa using hlt⟩
      rw[Array.isEmpty_iff]at hold0;rw[hold0]at hmem;simp at hmem
   |some e=>
    have hmem:e∈es∧seen.contains e.born=false:=by
     have hm:some e∈cand:=nv hc;have hm2:e∈left:=by
      rw[hcand]at hm;rw[Array.mem_append]at hm;rcases hm with hm|hm
      ·split at hm<;>simp at hm
      ·simp only[Array.mem_map,bG.injEq,exists_eq_right,Array.mem_append]at hm
       rcases hm with hm|hm
       ·rw[hold]at hm;exact(nP.1 hm).1
       ·rw[hnew]at hm;exact(nP.1 hm).1
     rw[hleft]at hm2;have:=nP.1 hm2;exact⟨this.1,by simpa using this.2⟩
    refine⟨.tuple #[.bool true,e.key,e.val],jg w1 (w1.heap.setIfInBounds b (.mapIter (some r) since (seen.push e.born) clock)),?_,ht.trans (d9 _ _),?_⟩
    ·simp only[Instr.next,Sem.run_bind,sX hi,Result.andThen_ok,Sem.run_pure,kz hb,hguard',cH,if_false,←hleft,←hold,←hnew,←hcand,hrun,hc,FI hi1]
    ·rw[hh]
     exact hgo e (by simpa using hmem.1) hmem.2
 ·exact h.elim
theorem Cs{t e:TypeId}{z:List Value}{k k':IntKind}{l c:Int}{w:World}(ht:sC P t=some e)(hz:oL P e=some z)(hzl:z.length=bM P e)(h0:0≤l)(h1:l≤c)(h2:c≤9223372036854775807)(h3:oQ P e*c≤2^48):
  (Instr.makeSlice t (.int k l) (.int k' c)).run P w=.ok (.slice (some (ag w.heap)) l.toNat c.toNat) (jg w (hnew w.heap (dd c.toNat z) e)):=by
 obtain⟨v,hv,hvc⟩:=jf hz;obtain⟨i,hi,hiz⟩:=pg hv;have hsz:bM P e=i.size:=by simp[bM,hi]
 have hby:oQ P e=i.bytes:=by simp[oQ,hi]
 have hvs:v.cells.size=i.size:=by rw[←hsz,←hzl,←hvc];simp
 have hl:=xV h0 (by omega);have hc:=xV (show 0≤c by omega) h2
 rw[hby]at h3;have c1:¬(c<0):=by omega
 have c2:¬(281474976710656<(i.bytes:Int)*c):=by omega
 have c3:¬(l<0):=by omega
 have c4:¬(c<l):=by omega
 by_cases hz0:c.toNat*i.size=0
 ·have hz1:(dd c.toNat z).length=0:=by simp[dd,hzl,hsz,hz0]
  rw[ar.1 hz1];simp[Instr.makeSlice,aw (df ht),asInt,asIntOf,cD hi,hl,hc,c1,c2,c3,c4,sizeOf,hz0,jn]
 ·have hrow:((Array.range (c.toNat*i.size)).map (fun j=>v.cells[j%v.cells.size]!))=(dd c.toNat z).toArray:=by
   rw[←hvs,IL,hvc]
  have key:(newRow e ((Array.range (c.toNat*i.size)).map (fun j=>v.cells[j%v.cells.size]!))).run P w=.ok (ag w.heap) (jg w (hnew w.heap (dd c.toNat z) e)):=by
   rw[hrow,jn]
  simp[Instr.makeSlice,aw (df ht),asInt,asIntOf,cD hi,hl,hc,c1,c2,c3,c4,sizeOf,hz0,ef hv];rw[key];rfl
theorem Agree.args{N:Nat}{r:cg}{a:Act}(h:Agree N r a){os:Array Operand}{vs:List Value}(hv:oN r os.toList=some vs):os.map a.eval=vs.toArray:=by
 rw[←mF h hv];apply cN;simp
theorem HC.out{f:FuncId}{args:List Value}{ks:List Kind}{K:WK}{w:World}(h:HC P f args ks (fun x h'=>K (A2 ks (lR ks x)) h') w.heap):GC P (callFunc f args.toArray) K w:=by
 rcases h.run w rfl with⟨h1,h2⟩|⟨v,w',h1,ht,x,rfl,hk⟩
 ·refine .inr (.inr (.inl ⟨f,args.toArray,h1,h2.mono ?_⟩))
  rintro e w' ⟨ht,x,rfl,hk⟩;exact⟨ht,_,rfl,hk⟩
 ·exact .inl ⟨_,w',h1,ht,hk⟩
theorem KA{src dst e:TypeId}{s:ByteArray}{w:World}(hs:P.underlying src=some .string)(hd:P.underlying dst=some (.slice e))(he:P.underlying e=some (.int .u8)):
  ∃c,s.size≤c∧(convert src dst (.string s)).run P w=.ok (.slice (some (ag w.heap)) s.size c) (jg w.drew (w.heap.push (.cells (dq s++iY (c-s.size) (Value.int .u8 0)).toArray e (c,c+1)))):=by
 have hge:s.size≤grownCap w s.size 0 e:=Nat.le_add_right _ _;refine⟨_,hge,?_⟩;rw[Go.Lib.run_convert_string_bytes w src dst e s hs hd he];have hc:(Go.Lib.bytesCells w e s).size=grownCap w s.size 0 e:=by
  unfold Go.Lib.bytesCells;rw[Array.size_append,Array.size_map,Array.size_replicate,show s.data.size=s.size from rfl]
  omega
 have hcl:(dq s++iY (grownCap w s.size 0 e-s.size) (Value.int .u8 0)).toArray=Go.Lib.bytesCells w e s:=by
  unfold Go.Lib.bytesCells dq;apply cN;simp
 rw[hcl];unfold Go.Lib.bytesWorld World.freeze;rw[if_neg (by omega),hc];unfold World.alloc World.drew jg;congr 1
 congr 1
 apply Array.ext (by simp);intro i h1 h2;rw[Array.getElem_modify];simp only[Array.getElem_push];split
 ·rename_i e
  subst e;simp
 ·rename_i e
  have hi:i<w.heap.size:=by simp at h2;omega
  rw[dif_pos hi,dif_pos hi]
theorem xX{o:Oper}{r:cg}{K:WK}{w:World}{N:Nat}{a:Act}(ha:Agree N r a)(hq:Ci P o r K w.heap):GC P (execOp a.eval o) K w:=by
 have ev:∀{x:Operand} {v:Value},cZ r x=some v→a.eval x=v:=fun h=>kA ha h
 obtain⟨dst,op,type,md,after,guard⟩:=o;cases op with
 |alloc t=>
  simp only[Ci]at hq;split at hq
  ·rename_i z hz
   obtain⟨v,hv,hvc⟩:=jf hz;have he:(Instr.alloc t true (.tuple #[])).run P w=.ok (.pointer (some (ag w.heap))) (jg w (hnew w.heap z t)):=by
    simp[Instr.alloc,ef hv,newVar,jn,hvc]
   exact Wv.out ⟨_,_,he,d9 _ _,hq⟩
  ·exact hq.elim
 |box t x=>
  simp only[Ci]at hq;split at hq
  ·rename_i v hv
   have he:(Instr.box t v).run P w=.ok (.pointer (some (ag w.heap))) (jg w (hnew w.heap v.cells.toList t)):=by
    simp[Instr.box,newVar,jn]
   simp only[execOp,ev hv];exact Wv.out ⟨_,_,he,d9 _ _,hq⟩
  ·exact hq.elim
 |build t ps=>
  simp only[Ci]at hq;split at hq
  ·rename_i vs hvs
   split at hq
   ·rename_i cs hcs
    have hp:(ps.map fun x=>(x.1,a.eval x.2))=vs.toArray:=by
     rw[←mH ha hvs];apply cN;simp
    have he:=wM (ps:=vs.toArray) (by simpa using hcs) w;simp only[execOp];rw[show(ps.map fun(i,x)=>(i,a.eval x))=vs.toArray from hp]
    exact Wv.out ⟨_,w,he,Tame.refl w,hq⟩
   ·exact hq.elim
  ·exact hq.elim
 |buildSlice t n ps=>
  simp only[Ci]at hq;split at hq
  ·rename_i e vs ht hvs
   split at hq
   ·rename_i z hz
    cases hb:(Nat.ble (n*bM P e) 16777216&&bm z.length (bM P e))with
    |false=>rw[hb]at hq;exact hq.elim
    |true=>
     rw[hb]at hq;simp only[aZ]at hb;simp only[cond_true]at hq;split at hq
     ·rename_i cs hcs
      have hp:(ps.map fun x=>(x.1,a.eval x.2))=vs.toArray:=by
       rw[←mH ha hvs];apply cN;simp
      have he:=yo (ps:=vs.toArray) ht hz (ad hb.1) (aP hb.2) (by simpa using hcs) w;simp only[execOp];rw[show(ps.map fun(i,x)=>(i,a.eval x))=vs.toArray from hp]
      exact Wv.out ⟨_,_,he,d9 _ _,hq⟩
     ·exact hq.elim
   ·exact hq.elim
  ·exact hq.elim
 |store t x y=>
  simp only[Ci]at hq;split at hq
  ·rename_i b v hb hv
   simp only[execOp,ev hb,ev hv];exact Wu.out (Ea hq)
  ·exact hq.elim
 |mapUpdate t m k x=>
  simp only[Ci]at hq;split at hq
  ·rename_i mv kv xv hm hk hx
   simp only[execOp,ev hm,ev hk,ev hx];exact Wu.out (uy hq)
  ·exact hq.elim
 |insert t m k x=>
  simp only[Ci]at hq;split at hq
  ·rename_i mv kv xv hm hk hx
   simp only[execOp,ev hm,ev hk,ev hx];exact Wu.out (uy hq)
  ·exact hq.elim
 |makeMap t n=>
  simp only[Ci]at hq;cases n with
  |none=>exact Wv.out ⟨_,jg w (w.heap.push (.map #[] 0)),by simp[Instr.makeMap];rfl,d9 _ _,hq⟩
  |some n=>
   simp only at hq;split at hq
   ·rename_i k i hn ht
    exact Wv.out ⟨_,jg w (w.heap.push (.map #[] 0)),by simp[Instr.makeMap,ev hn,aw ht,asInt,asIntOf];rfl,d9 _ _,hq⟩
   ·exact hq.elim
 |makeSlice t l c=>
  simp only[Ci]at hq;split at hq
  ·rename_i e k l' k' c' ht hl hc
   split at hq
   ·rename_i z hz
    cases hb:bm z.length (bM P e)with
    |false=>rw[hb]at hq;exact hq.elim
    |true=>
     rw[hb]at hq;obtain⟨⟨h0,h1,h2,h3⟩,hq⟩:=hq;simp only[execOp,ev hl,ev hc];exact Wv.out ⟨_,_,Cs ht hz (aP hb) h0 h1 h2 h3,d9 _ _,hq⟩
   ·exact hq.elim
  ·exact hq.elim
 |convert s d x=>
  simp only[Ci]at hq;split at hq
  ·rename_i e v hs hd hx
   cases hu:HP P e with
   |false=>rw[hu]at hq;exact hq.elim
   |true=>
    rw[hu]at hq;obtain⟨c,hc,hrun⟩:=KA (w:=w) (s:=v) hs hd (Bg hu);simp only[execOp,ev hx];exact Wv.out ⟨_,_,hrun,⟨rfl,rfl,rfl⟩,hq c hc⟩
  ·exact hq.elim
 |range t x=>
  simp only[Ci]at hq;split at hq
  ·rename_i k e m hu hx
   obtain⟨clock,hm,hq⟩:=hq;simp only[execOp,ev hx];exact Wv.out ⟨_,_,JS hu hm,d9 _ _,hq⟩
  ·exact hq.elim
 |next it isS=>
  cases isS with
  |true=>simp only[Ci]at hq
  |false=>
   simp only[Ci]at hq;split at hq
   ·rename_i v hv
    simp only[execOp,ev hv];exact Wv.out (Fy hq)
   ·exact hq.elim
 |call c=>
  simp only[Ci]at hq;have eb:∀{b:Builtin} {vs:List Value},c.callee=.builtin b→oN r c.args.toList=some vs→∃cs:Array Bool,∀w,(execOp a.eval ⟨dst,.call c,type,md,after,guard⟩).run P w=
    (builtin b c.argTypes type cs vs.toArray).run P w:=by
   intro b vs hc hvs;refine⟨c.args.map fun| .const _=>true|_=>false,fun w=>?_⟩
   simp[execOp,resolve,hc,ha.args hvs,invoke];rfl
  have wo:∀{s s':Sem Next},(∀w,s.run P w=s'.run P w)→GC P s' K w→GC P s K w:=by
   intro s s' he h;unfold GC at h⊢;simp only[he];exact h
  split at hq
  ·rename_i s x hc hvs
   split at hq
   ·rename_i t u hat
    obtain⟨cs,er⟩:=eb hc hvs;refine wo er ?_;have hat':c.argTypes= #[t,u]:=by apply cN;rw[hat]
    simp only[builtin,hat'];split at hq
    ·rename_i e' hu;exact Wv.out (uz (.inl ⟨e',hu⟩) hq)
    ·rename_i hu;exact Wv.out (uz (.inr hu) hq)
    ·rename_i k0 hu;exact Wv.out (AA hu hq)
    ·exact hq.elim
   ·exact hq.elim
  ·rename_i x hc hvs
   split at hq
   ·rename_i t hat
    obtain⟨cs,er⟩:=eb hc hvs;refine wo er ?_;have hat':c.argTypes= #[t]:=by apply cN;rw[hat]
    simp only[builtin,hat'];exact Wv.out (Eb hq)
   ·exact hq.elim
  ·rename_i s x hc hvs
   split at hq
   ·rename_i t u hat
    obtain⟨cs,er⟩:=eb hc hvs;refine wo er ?_;have hat':c.argTypes= #[t,u]:=by apply cN;rw[hat]
    simp only[builtin,hat'];exact Wv.out (Fz hq)
   ·exact hq.elim
  ·rename_i m k hc hvs
   split at hq
   ·rename_i t u hat
    obtain⟨cs,er⟩:=eb hc hvs;refine wo er ?_;simp only[builtin];exact Wv.out (Ay (by rw[←bo,hat];rfl) hq)
   ·exact hq.elim
  ·rename_i f args hc hvs
   unfold M9 at hq;split at hq
   ·exact hq.elim
   ·rename_i ks hks
    split at hq
    ·rename_i f
     refine wo (s':=callFunc f args.toArray) (fun w=>?_) hq.out
     simp[execOp,resolve,hc,ha.args hvs,Act.eval,Deferred.ofValue,invoke]
    ·rename_i f hf
     split at hq
     ·rename_i fv hfv
      rcases hq.run with⟨g,first,cap,rfl,hh⟩|⟨l,rfl,hh⟩
      rotate_left
      ·obtain⟨fn,tmps,assign,body,h1,h2⟩:=hh.run w rfl
       refine .inr (.inr (.inr ⟨l,fn,tmps,assign,body,?_,fun c cs=>?_⟩))
       ·rw[←h1]
        simp[execOp,resolve,hc,ha.args hvs,ev hfv,Deferred.ofValue,invoke]
       ·obtain⟨b,w',ht,hk,hs⟩:=h2 c cs
        refine⟨b,w',ht,?_,hs⟩;obtain⟨t,e,hk⟩:=pG hk;have hl:ks.length=1:=by rw[←qi ks t,←e];rfl
        match ks,hl,t,e,hk with
        | [k],_,t,e,hk=>rw[←e]at hk;exact hk
      refine wo (s':=callFunc g (first.toList++args++cap.toList).toArray) (fun w=>?_) hh.out
      have e:first++args.toArray++cap=(first.toList++args++cap.toList).toArray:=by apply cN;simp
      rw[←e];simp[execOp,resolve,hc,ha.args hvs,ev hfv,Deferred.ofValue,invoke]
     ·exact hq.elim
  ·exact hq.elim
 |_=>simp only[Ci]at hq
end Go.Lift
