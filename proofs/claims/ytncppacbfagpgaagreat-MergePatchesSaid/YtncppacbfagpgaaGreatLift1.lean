/- A part of the proof that the named laws of this program answer true, whatever the input. -/
import Derived.Test.YtncppacbfagpgaaGreatLift0
import Derived.Laws.Append
import Derived.Laws.Cover3
import Derived.Laws.StructEq
import Derived.Laws.BytesString
import Derived.Lib.ConvBytes
open Array renaming ext'→dk,getElem?_toList→bH,mem_filter→rk
open Bool renaming and_eq_true→bd,false_eq_true→gh
open ByteArray renaming data_extract→qA
open List renaming extract_eq_take_drop→ij,map_cons→eP,foldl_cons→ia,map_map→qv,take_of_length_le→bm,length_cons→ak,cons_append→cH,replicate→kT,length_eq_zero_iff→aw,getElem?_eq_getElem→ai
open Nat renaming beq→bS,add_assoc→vi,ble→yD,eq_of_beq_eq_true→aY,le_of_ble_eq_true→jG,add_zero→gM,zero_add→aP,min→dZ
open Option renaming some→bR,isSome_iff_exists→iG,map_some→l5
open Prod renaming mk→rz
open UInt8 renaming ofNat→hH
namespace Go.Lift
open Go
def Ss(S:Option (ad→Prop))(h:ad):Prop:=match S with|none=>True|some f=>f h
def Yv(P:Program)(s:Sem Value)(K:RK)(h:ad):Prop:=∃v S,K v S∧Ss S h∧∀w:World,Ss S w.heap→s.run P w=.ok v w
theorem Yv.of_pure{P:Program}{s:Sem Value}{K:RK}{h:ad}{v:Value}(hk:K v none)(hr:∀w:World,s.run P w=.ok v w):Yv P s K h:=
 ⟨v,none,hk,trivial,fun w _=>hr w⟩
variable {P:Program}
theorem xO{t:TypeId}{f:Nat}{u:TypeId}{off:Nat}(h:xP P t f=some (u,off)):
  ∃fs g,P.underlying t=some (.struct fs)∧fs[f]? =some g∧g.type=u∧g.offset=off:=by
 unfold xP at h;split at h
 ·rename_i fs hu
  split at h
  ·rename_i g hg
   simp only[bR.injEq,rz.injEq]at h;exact⟨fs,g,hu,by simpa using hg,h.1,h.2⟩
  ·cases h
 ·cases h
theorem zx{t:TypeId}(h:bS (cl P t) 0=false)(w:World):(sizeOf t).run P w=.ok (cl P t) w:=by
 unfold cl at h⊢;cases hi:P.info? t with
 |none=>rw[hi]at h;cases h
 |some i=>simp[sizeOf,cZ hi]
theorem D3{t:TypeId}{f:Nat}{u:TypeId}{off:Nat}{a:Addr}{K:RK}{h:ad}(hf:xP P t f=some (u,off))
  (hk:bif bS (cl P u) 0 then False else K (.pointer (some (adr a off))) none):Yv P (Instr.fieldAt t (.pointer (some a)) f) K h:=by
 obtain⟨fs,g,hu,hg,rfl,rfl⟩:=xO hf;cases hz:bS (cl P g.type) 0 with
 |true=>rw[hz]at hk;exact hk.elim
 |false=>
  rw[hz]at hk;refine .of_pure hk fun w=>?_
  have hne:cl P g.type≠0:=fun e=>by rw[e]at hz;cases hz
  simp only[Instr.fieldAt,Sem.run_bind,aF hu,Result.andThen_ok,hg,Instr.sureAddr,Sem.run_pure,fieldPlace,zx hz];simp[hne,vd]
theorem wT{t:TypeId}{i:TypeInfo}(_:P.info? t=some i)(hu:∃d,P.underlying t=some d)(w:World):(isAgg t).run P w=.ok (wU P t) w:=by
 obtain⟨d,hd⟩:=hu;simp only[isAgg,Sem.run_bind,aF hd,Result.andThen_ok];unfold wU;rw[hd];cases d<;>rfl
theorem AA{op:BinOp}{k k':IntKind}{a b:Int}{K:RK}{h:ad}(hs:op=.shl∨op=.shr)(hv:Mg op k a b K):Yv P (Op.shift op k a k' b) K h:=by
 rcases hs with rfl|rfl
 ·obtain⟨h0,hk⟩:=hv
  refine .of_pure hk fun w=>?_
  simp[Op.shift,Int.not_lt.2 h0]
 ·obtain⟨h0,hk⟩:=hv
  refine .of_pure hk fun w=>?_
  simp[Op.shift,Int.not_lt.2 h0]
theorem M1{op:BinOp}{k:IntKind}{a b:Int}{K:RK}{h:ad}(hv:Uz op k a b K)(hs:op≠ .shl∧op≠ .shr):Yv P (binOp op 0 (.int k a) (.int k b)) K h:=by
 cases op<;>simp only[Uz]at hv
 case quo=>obtain⟨h0,hk⟩:=hv;exact .of_pure hk fun w=>by simp[binOp,Op.intDiv,h0]
 case rem=>obtain⟨h0,hk⟩:=hv;exact .of_pure hk fun w=>by simp[binOp,Op.intDiv,h0]
 all_goals exact .of_pure hv fun w=>by simp[binOp,Op.intArith,Op.intBits,Op.intCmp]
theorem FO(op:BinOp)(t:TypeId)(k k':IntKind)(a b:Int):binOp op t (.int k a) (.int k' b)=binOp op 0 (.int k a) (.int k' b):=by
 cases op<;>rfl
theorem Md{op:BinOp}{t:TypeId}{a b:ByteArray}{K:RK}{h:ad}(hv:Ud op a b K):Yv P (binOp op t (.string a) (.string b)) K h:=by
 cases op<;>simp only[Ud]at hv
 case add=>
  obtain⟨h0,hk⟩:=hv;refine .of_pure hk fun w=>?_
  have:¬(((a.size+b.size:Nat):Int)>IntKind.i64.max):=by
   have:IntKind.i64.max=9223372036854775807:=by decide
   omega
  simp only[binOp,Op.stringOp,if_neg this,Sem.run_pure]
 all_goals exact .of_pure hv fun w=>by simp[binOp,Op.stringOp]
theorem rN{t:TypeId}{x y:Value}{b:Bool}{w:World}(h:∀d,(Op.equalIn (d+1) t x y).run P w=.ok b w):(Op.equal t x y).run P w=.ok b w:=h 9999
theorem FA{t:TypeId}{e:TypeId}(hu:P.underlying t=some (.pointer e))(a:Option Addr)(w:World):(Op.equal t (.pointer a) (.pointer none)).run P w=.ok a.isNone w:=by
 refine rN fun d=>?_
 simp only[Op.equalIn,Sem.run_bind,aF hu,Result.andThen_ok];cases a<;>rfl
theorem Nd(op:BinOp)(t:TypeId)(x y:Operand)(a b:Value)(h:∀c d,a=.agg c→b=.agg d→False)(hi:a=.nilIface→b=.nilIface→False)(w:World):
  (eqGuard op t x y a b).run P w=.ok () w:=by
 cases op;case eql=>cases a<;>cases b<;>first|rfl|exact(hi rfl rfl).elim|exact(h _ _ rfl rfl).elim
 case neq=>cases a<;>cases b<;>first|rfl|exact(hi rfl rfl).elim|exact(h _ _ rfl rfl).elim
 all_goals rfl
theorem P2(t:TypeId)(x y:Value)(hx:∀k a,x≠ .int k a)(hs:∀s,x≠ .string s)(hf:∀k a,x≠ .float k a)(hc:∀k a b,x≠ .complex k a b):binOp .eql t x y=(do pure (.bool (←Op.equal t x y))):=by
 cases x<;>first|rfl|exact absurd rfl (hx _ _)|exact absurd rfl (hs _)|exact absurd rfl (hf _ _)|exact absurd rfl (hc _ _ _)
theorem P1(t:TypeId)(x y:Value)(hx:∀k a,x≠ .int k a)(hs:∀s,x≠ .string s)(hf:∀k a,x≠ .float k a)(hc:∀k a b,x≠ .complex k a b):binOp .neq t x y=(do pure (.bool (!(←Op.equal t x y)))):=by
 cases x<;>first|rfl|exact absurd rfl (hx _ _)|exact absurd rfl (hs _)|exact absurd rfl (hf _ _)|exact absurd rfl (hc _ _ _)
theorem rO{t:TypeId}{neg:Bool}{x y:Value}{b:Bool}{w:World}(he:(Op.equal t x y).run P w=.ok b w)
  (hx:∀k a,x≠ .int k a)(hs:∀s,x≠ .string s)(hf:∀k a,x≠ .float k a)(hc:∀k a b,x≠ .complex k a b):
  (binOp (bif neg then .neq else .eql) t x y).run P w=.ok (.bool (bif neg then !b else b)) w:=by
 cases neg
 ·simp only[cond_false,P2 t x y hx hs hf hc,Sem.run_bind,he,Result.andThen_ok,Sem.run_pure]
 ·simp only[cond_true,P1 t x y hx hs hf hc,Sem.run_bind,he,Result.andThen_ok,Sem.run_pure]
theorem Fb{t:TypeId}{neg:Bool}{x y:Value}{K:RK}{h:ad}(hv:S4 P t neg x y K):
  (∀c d,x=.agg c→y=.agg d→False)∧(x=.nilIface→y=.nilIface→False)∧Yv P (binOp (bif neg then .neq else .eql) t x y) K h:=by
 unfold S4 at hv;split at hv
 ·rename_i e a hu
  refine⟨nofun,nofun,.of_pure hv fun w=>?_⟩
  exact rO (FA hu a w) nofun nofun nofun nofun
 ·rename_i k e a hu
  refine⟨nofun,nofun,.of_pure hv fun w=>?_⟩
  refine rO ?_ nofun nofun nofun nofun;refine rN fun d=>?_
  simp only[Op.equalIn,Sem.run_bind,aF hu,Result.andThen_ok];cases a<;>rfl
 ·rename_i e a _ _ _ _ hu
  refine⟨nofun,nofun,.of_pure hv fun w=>?_⟩
  refine rO ?_ nofun nofun nofun nofun;refine rN fun d=>?_
  simp only[Op.equalIn,Sem.run_bind,aF hu,Result.andThen_ok];cases a<;>rfl
 ·exact hv.elim
theorem xz{w:World}{a b:Addr}(ha:fW w.heap a)(hb:fW w.heap b):(sameAddr a b).run P w=.ok (a==b) w:=by
 obtain⟨ca,ea,ha,sa⟩:=ha;obtain⟨cb,eb,hb,sb⟩:=hb;by_cases hbl:a.block=b.block
 ·simp[sameAddr,hbl]
 ·have hne:(a==b)=false:=by
   rw[beq_eq_false_iff_ne];intro e;exact hbl (by rw[e])
  have s1:w.shape? a.block=some (ea,ca.size):=by simp[World.shape?,ha]
  have s2:w.shape? b.block=some (eb,cb.size):=by simp[World.shape?,hb]
  have f1:∀n,w.frozen? ({block:=a.block,off:=n}:Addr)=false:=fun n=>by simp[World.frozen?,ha]
  have f2:∀n,w.frozen? ({block:=b.block,off:=n}:Addr)=false:=fun n=>by simp[World.frozen?,hb]
  have g1:w.frozen? a=false:=by simp[World.frozen?,ha]
  have g2:w.frozen? b=false:=by simp[World.frozen?,hb]
  obtain⟨m,hm⟩:∃m,ca.size=m+1:=⟨ca.size-1,by omega⟩
  obtain⟨n,hn⟩:∃n,cb.size=n+1:=⟨cb.size-1,by omega⟩
  simp[sameAddr,hbl,noView,viewAt,mayBeOne,stringish,s1,s2,f1,f2,g1,g2,hm,hn,hne]
theorem HP{t:TypeId}{neg:Bool}{x y:Value}{K:RK}{h:ad}(hv:VH P t neg x y K h):
  (∀c d,x=.agg c→y=.agg d→False)∧(x=.nilIface→y=.nilIface→False)∧Yv P (binOp (bif neg then .neq else .eql) t x y) K h:=by
 unfold VH at hv;split at hv
 ·rename_i a b hu
  refine⟨nofun,nofun,.of_pure hv fun w=>?_⟩
  refine rO ?_ nofun nofun nofun nofun;refine rN fun d=>?_
  simp only[Op.equalIn,Sem.run_bind,aF hu,Result.andThen_ok,Sem.run_pure]
 ·rename_i e a b hu
  obtain⟨hz,hp,hk⟩:=hv;refine⟨nofun,nofun,_,_,hk,hp,fun w hw=>?_⟩
  refine rO ?_ nofun nofun nofun nofun;have hz':bS (cl P e) 0=false:=by
   cases hb:bS (cl P e) 0 with
   |false=>rfl
   |true=>rw[hb]at hz;exact hz.elim
  have hne:cl P e≠0:=fun e=>by rw[e]at hz';cases hz'
  refine rN fun d=>?_
  simp only[Op.equalIn,Sem.run_bind,aF hu,Result.andThen_ok];cases a with
  |none=>cases b<;>rfl
  |some a=>cases b with
   |none=>rfl
   |some b=>
    obtain⟨h1,h2⟩:=hw a b rfl rfl;simp only[Sem.run_bind,zx hz',Result.andThen_ok,ne_eq,hne,not_false_eq_true,if_true,xz h1 h2];rfl
 ·exact hv.elim
theorem My{op:BinOp}{t:TypeId}{x y:Value}{K:RK}{h:ad}(hv:Ul P op t x y K h):
  (∀c d,x=.agg c→y=.agg d→False)∧(x=.nilIface→y=.nilIface→False)∧Yv P (binOp op t x y) K h:=by
 unfold Ul at hv;split at hv
 ·rename_i k a k' b
  refine⟨nofun,nofun,?_⟩;rw[FO];split at hv
  ·exact AA (k':=k') (.inl rfl) hv
  ·exact AA (k':=k') (.inr rfl) hv
  ·rename_i h1 h2
   cases hk:IS k' k with
   |false=>rw[hk]at hv;exact hv.elim
   |true=>rw[hk]at hv;have:=AQ hk;subst this;exact M1 hv ⟨h1,h2⟩
 ·exact⟨nofun,nofun,Md hv⟩
 ·split at hv
  ·exact HP (neg:=false) hv
  ·exact HP (neg:=true) hv
  ·exact hv.elim
theorem Kv{u:TypeId}{cs:List Value}{off:Nat}(hu:((P.underlying u).isSome&&(P.info? u).isSome)=true){w:World}(ha:wU P u=true):
  (part u cs.toArray off).run P w=.ok (.agg ((cs.drop off).take (cl P u)).toArray) w:=by
 simp only[bd,iG]at hu;obtain⟨hu,i,hi⟩:=hu;have hs:(sizeOf u).run P w=.ok (cl P u) w:=by simp[sizeOf,cZ hi,cl,hi]
 simp only[part,Sem.run_bind,wT hi hu,Result.andThen_ok,ha,if_true,hs,Sem.run_pure];congr 2
 apply dk;simp[ij]
theorem Hl{u:TypeId}{cs:List Value}{off:Nat}(hu:((P.underlying u).isSome&&(P.info? u).isSome)=true){w:World}(ha:wU P u=false){v:Value}(hc:cs[off]? =some v):
  (part u cs.toArray off).run P w=.ok v w:=by
 simp only[bd,iG]at hu;obtain⟨hu,i,hi⟩:=hu;have hc':cs.toArray[off]? =some v:=by simpa using hc
 simp only[part,Sem.run_bind,wT hi hu,Result.andThen_ok,ha,gh,if_false,hc',Sem.run_pure]
theorem zD{h:ad}:∀{l m:List (Option Addr×Option Addr)},sY h (l++m)→sY h l∧sY h m
 | [],_,h=>⟨trivial,h⟩
 |(_,_)::_,_,h=>⟨⟨h.1,(zD h.2).1⟩,(zD h.2).2⟩
theorem Lf{t:TypeId}{x y:Value}{b:Bool}{l:List (Option Addr×Option Addr)}(he:RB P t x y=some (b,l)){w:World}(hp:sY w.heap l)(d:Nat):
  (Op.equalIn (d+1) t x y).run P w=.ok b w:=by
 unfold RB at he;split at he
 ·rename_i k0 k a k' c hu
  cases hk:IS k' k with
  |false=>rw[hk]at he;cases he
  |true=>
   rw[hk]at he;have:=AQ hk;subst this;cases he;exact run_equalIn_int w d t _ _ _ _ hu
 ·rename_i a c hu
  cases he;exact run_equalIn_bool w d t _ _ hu
 ·rename_i a c hu
  cases he;exact run_equalIn_string w d t _ _ hu
 ·rename_i e a c hu
  cases hz:bS (cl P e) 0 with
  |true=>rw[hz]at he;cases he
  |false=>
   rw[hz]at he;cases he;have hne:cl P e≠0:=fun e=>by rw[e]at hz;cases hz
   simp only[Op.equalIn,Sem.run_bind,aF hu,Result.andThen_ok];cases a with
   |none=>cases c<;>rfl
   |some a=>cases c with
    |none=>rfl
    |some c=>
     obtain⟨h1,h2⟩:=hp.1 a c rfl rfl;simp only[Sem.run_bind,zx hz,Result.andThen_ok,ne_eq,hne,not_false_eq_true,if_true,xz h1 h2];rfl
 ·cases he
theorem FB{rec:TypeId→List Value→List Value→Option (Bool×List (Option Addr×Option Addr))}{d:Nat}{xs ys:List Value}{w:World}
  (hr:∀t us vs b l,rec t us vs=some (b,l)→sY w.heap l→(Op.equalIn (d+1) t (.agg us.toArray) (.agg vs.toArray)).run P w=.ok b w):
  ∀(fs:List Field) (b:Bool) (l:List (Option Addr×Option Addr)),Tn P rec xs ys fs=some (b,l)→sY w.heap l→(Op.eqFields (d+1) xs.toArray ys.toArray fs).run P w=.ok b w
 | [],b,l,he,_=>by cases he;rfl
 |f::fs,b,l,he,hp=>by
  unfold Tn at he;split at he
  ·cases he
  ·rename_i hn
   cases hi:((P.underlying f.type).isSome&&(P.info? f.type).isSome)with
   |false=>rw[hi]at he;cases he
   |true=>
    rw[hi]at he;simp only[cond_true]at he;split at he
    ·rename_i b1 l1 c m e1 e2
     cases he;obtain⟨p1,p2⟩:=zD hp;have rest:=FB hr fs c m e2 p2;have h1:∃u v,(part f.type xs.toArray f.offset).run P w=.ok u w∧(part f.type ys.toArray f.offset).run P w=.ok v w∧(Op.equalIn (d+1) f.type u v).run P w=.ok b1 w:=by
      cases ha:wU P f.type with
      |true=>
       rw[ha]at e1;exact⟨_,_,Kv hi ha,Kv hi ha,hr _ _ _ _ _ e1 p1⟩
      |false=>
       rw[ha]at e1;simp only[cond_false]at e1;split at e1
       ·rename_i x y hx hy
        exact⟨x,y,Hl hi ha hx,Hl hi ha hy,Lf e1 p1 d⟩
       ·cases e1
     obtain⟨u,v,r1,r2,r3⟩:=h1;simp only[Op.eqFields,ne_eq,hn,not_false_eq_true,if_true,Sem.run_bind,r1,r2,r3,Result.andThen_ok];cases b1
     ·rfl
     ·exact rest
    ·cases he
theorem zS{w:World}:∀(m:Nat) (t:TypeId) (xs ys:List Value) (b:Bool) (l:List (Option Addr×Option Addr)),RC P m t xs ys=some (b,l)→sY w.heap l→
  ∀d,(Op.equalIn (d+m+1) t (.agg xs.toArray) (.agg ys.toArray)).run P w=.ok b w
 |0,_,_,_,_,_,he,_,_=>by cases he
 |m+1,t,xs,ys,b,l,he,hp,d=>by
  unfold RC at he;split at he
  ·rename_i fs hu
   cases hs:P.stoodInHeld t with
   |true=>rw[hs]at he;cases he
   |false=>
    rw[hs]at he;have hf:P.fieldsOf t=fs:=by simp[Program.fieldsOf,hu]
    rw[run_equalIn_struct w _ t _ _ (by rw[hf];exact hu) hs,hf];exact FB (d:=d+m) (fun t us vs b l h1 h2=>zS m t us vs b l h1 h2 d) fs.toList b l he hp
  ·cases he
theorem HQ{neg b:Bool}{K:RK}{h:ad}{l:List (Option Addr×Option Addr)}(hk:V4 neg b K h l):∃S,K (.bool (bif neg then !b else b)) S∧Ss S h∧∀h',Ss S h'→sY h' l:=by
 cases l with
 |nil=>exact⟨none,hk,trivial,fun _ _=>trivial⟩
 |cons p l=>exact⟨_,hk.2,hk.1,fun _ h=>h⟩
theorem Mz{op:BinOp}{t:TypeId}{xs ys:Array Value}{x y:Operand}{K:RK}{h:ad}(hq:Um P op t xs.toList ys.toList K h):
  ∃v S,K v S∧Ss S h∧∀w:World,Ss S w.heap→(do eqGuard op t x y (.agg xs) (.agg ys);binOp op t (.agg xs) (.agg ys):Sem Value).run P w=.ok v w:=by
 unfold Um at hq;cases hg:P.eqGuardType P.depth t with
 |true=>rw[hg]at hq;exact hq.elim
 |false=>
  rw[hg]at hq;simp only[cond_false]at hq;split at hq
  ·split at hq
   ·rename_i b l he
    obtain⟨S,h1,h2,h3⟩:=HQ hq;refine⟨_,S,h1,h2,fun w hw=>?_⟩
    have:=zS 10 t _ _ b l he (h3 _ hw) 9989;simp only[Array.toArray_toList]at this;simp only[Sem.run_bind,run_eqGuard_agg w _ t x y _ _ hg,Result.andThen_ok,run_eql_struct,this];rfl
   ·exact hq.elim
  ·split at hq
   ·rename_i b l he
    obtain⟨S,h1,h2,h3⟩:=HQ hq;refine⟨_,S,h1,h2,fun w hw=>?_⟩
    have:=zS 10 t _ _ b l he (h3 _ hw) 9989;simp only[Array.toArray_toList]at this;simp only[Sem.run_bind,run_eqGuard_agg w _ t x y _ _ hg,Result.andThen_ok,run_neq_struct,this];rfl
   ·exact hq.elim
  ·exact hq.elim
theorem Pl{op:UnOp}{x:Value}{K:RK}{h:ad}(hv:VV op x K):Yv P (Op.unary op x) K h:=by
 unfold VV at hv;split at hv
 ·exact .of_pure hv fun w=>rfl
 ·exact .of_pure hv fun w=>rfl
 ·exact .of_pure hv fun w=>rfl
 ·exact hv.elim
theorem FL:∀(l:List UInt8) (s:ByteArray),(l.map fun b=>((b.toNat:Nat):Int)).foldl (fun r n=>r.push (hH n.toNat)) s=⟨s.data++l.toArray⟩
 | [],s=>by simp
 |b::l,s=>by
  simp only[eP,ia];rw[FL l];congr 1
  have:hH ((b.toNat:Nat):Int).toNat=b:=by simp
  rw[this];apply dk;simp[ByteArray.push]
theorem Fm{e:TypeId}(h:M0 P e=true):P.underlying e=some (.int .u8):=by
 unfold M0 at h;split at h
 ·assumption
 ·cases h
theorem J9{w:World}{a:Addr}{vs:List Value}(hr:Row w.heap a vs):(loadCells a vs.length).run P w=.ok vs.toArray w:=by
 have:=run_firstCells_some (P:=P) w 1 vs.length a 0 0 vs (by simp) fun j v hv=>by rw[←vd];exact hr j v hv
 simpa[Builtin.firstCells]using this
theorem Km{src dst:TypeId}{x:Value}{K:RK}{h:ad}(hv:Q5 P src dst x K h):Yv P (convert src dst x) K h:=by
 unfold Q5 at hv;split at hv
 ·rename_i k k' k'' n h1 h2
  exact .of_pure hv fun w=>by simp only[convert,Sem.run_bind,aF h1,aF h2,Result.andThen_ok];rfl
 ·rename_i s h1 h2
  exact .of_pure hv fun w=>by simp only[convert,Sem.run_bind,aF h1,aF h2,Result.andThen_ok];rfl
 ·rename_i e a n c h1 h2
  cases hu:M0 P e with
  |false=>rw[hu]at hv;exact hv.elim
  |true=>
   rw[hu]at hv;obtain⟨s,hs,hk⟩:=hv;refine⟨_,_,hk,hs,fun w hw=>?_⟩
   rw[run_convert_bytes_string w src dst e a n c h1 (Fm hu) h2];obtain⟨hl,hw⟩:=hw;rcases hw with h0|⟨b,rfl,hr⟩
   ·have hs0:s=ByteArray.empty:=by
     have:s.data.toList= []:=by simpa[eC]using h0
     cases s with
     |mk d=>simp at this;subst this;rfl
    cases a with
    |none=>rw[hs0];rfl
    |some b=>
     have hn:n=0:=by rw[←hl,h0];rfl
     subst hn;have:=J9 (P:=P) (w:=w) (a:=b) (vs:= []) fun i v hv=>by simp at hv
     rw[run_bytesToString w b 0 c [] (by simpa using this),hs0];rfl
   ·have:=J9 (P:=P) hr
    rw[hl]at this;rw[run_bytesToString w b n c (s.data.toList.map fun b=>((b.toNat:Nat):Int)) (by rw[this,qv];rfl),FL]
    cases s;simp[ByteArray.empty,ByteArray.emptyWithCapacity];try rfl
 ·exact hv.elim
theorem MG{u:TypeId}{cs:Array Value}{off:Nat}{K:RK}{h:ad}(hu:∃d,P.underlying u=some d)(hi:∃i,P.info? u=some i)
  (hv:bif wU P u then K (.agg ((cs.toList.drop off).take (cl P u)).toArray) none else(match cs.toList[off]? with|some v=>K v none|none=>False)):Yv P (part u cs off) K h:=by
 obtain⟨i,hi⟩:=hi;cases ha:wU P u with
 |true=>
  rw[ha]at hv;refine .of_pure hv fun w=>?_
  have hs:(sizeOf u).run P w=.ok (cl P u) w:=by simp[sizeOf,cZ hi,cl,hi]
  simp only[part,Sem.run_bind,wT hi hu,Result.andThen_ok,ha,if_true,hs,Sem.run_pure];congr 2
  apply dk;simp[ij]
 |false=>
  rw[ha]at hv;simp only[cond_false]at hv;cases hc:cs.toList[off]? with
  |none=>rw[hc]at hv;exact hv.elim
  |some v=>
   rw[hc]at hv;refine .of_pure hv fun w=>?_
   have hc':cs[off]? =some v:=by simpa using hc
   simp only[part,Sem.run_bind,wT hi hu,Result.andThen_ok,ha,gh,if_false,hc',Sem.run_pure]
def xo(P:Program)(v:Option Value)(d y n:Nat):Prop:=
 match v with
 |some x=>∀c w,(Instr.sliceBound x y c).run P w=.ok n w
 |none=>n=d
theorem nI{v:Option Value}{d y:Nat}{K:Nat→Prop}(hv:RS v d y K):∃n,K n∧xo P v d y n:=by
 unfold RS at hv;split at hv
 ·exact⟨d,hv,rfl⟩
 ·rename_i k i
  obtain⟨⟨h0,h1⟩,hk⟩:=hv;refine⟨i.toNat,hk,fun c w=>?_⟩
  simp[Instr.sliceBound,asIntOf,h0,h1]
 ·exact hv.elim
theorem qM{isS:Bool}{len cap n l:Nat}{lo hi:Option Value}(hn:xo P hi len cap n)(hl:xo P lo 0 n l)(w:World):
  (Instr.sliceBounds isS len cap lo hi none).run P w=.ok (l,n,cap) w:=by
 cases hi with
 |none=>
  cases lo with
  |none=>simp only[xo]at hn hl;subst hn;subst hl;simp[Instr.sliceBounds]
  |some lo=>simp only[xo]at hn hl;subst hn;simp[Instr.sliceBounds,hl]
 |some hi=>
  cases lo with
  |none=>simp only[xo]at hn hl;subst hl;simp[Instr.sliceBounds,hn]
  |some lo=>simp only[xo]at hn hl;simp[Instr.sliceBounds,hn,hl]
theorem BZ{isS:Bool}{len cap n l m:Nat}{lo:Option Value}{hi mx:Value}(hm:xo P (some mx) 0 cap m)(hn:xo P (some hi) 0 m n)(hl:xo P lo 0 n l)(w:World):
  (Instr.sliceBounds isS len cap lo (some hi) (some mx)).run P w=.ok (l,n,m) w:=by
 cases lo with
 |none=>simp only[xo]at hm hn hl;subst hl;simp[Instr.sliceBounds,hm,hn]
 |some lo=>simp only[xo]at hm hn hl;simp[Instr.sliceBounds,hm,hn,hl]
theorem zu(a:Option Addr)(l m size:Nat):(if m=l then a else a.map (·.add (l*size)))=aW a l m size:=by
 unfold aW;split
 ·rfl
 ·congr 1;funext x;rw[vd]
theorem qP{t:TypeId}{K:Prop}(h:Rb P t K):K∧∀w,(sizeOf t).run P w=.ok (cl P t) w:=by
 unfold Rb at h;cases hi:P.info? t with
 |none=>rw[hi]at h;exact h.elim
 |some i=>rw[hi]at h;exact⟨h,fun w=>by simp[sizeOf,cZ hi,cl,hi]⟩
theorem IA{t:TypeId}{x:Value}{f:Nat}{K:RK}{h:ad}(hv:Mw P t x f K):Yv P (Instr.field t x f) K h:=by
 unfold Mw at hv;split at hv
 ·rename_i u off cs hf
  obtain⟨fs,g,hu,hg,rfl,rfl⟩:=xO hf;cases hb:((P.underlying g.type).isSome&&(P.info? g.type).isSome)with
  |false=>rw[hb]at hv;exact hv.elim
  |true=>
   rw[hb]at hv;simp only[bd,iG]at hb;obtain⟨v,S,hk,hS,hr⟩:=MG (cs:=cs) (off:=g.offset) (h:=h) hb.1 hb.2 hv;refine⟨v,S,hk,hS,fun w hw=>?_⟩
   have:=hr w hw;simp only[Instr.field,Sem.run_bind,aF hu,Result.andThen_ok,hg,asAgg,Sem.run_pure,this]
 ·exact hv.elim
theorem Cd{t:TypeId}{x i:Value}{K:RK}{h:ad}(hv:zC P t x i K):Yv P (Instr.indexAt t x i) K h:=by
 unfold zC at hv;split at hv
 ·rename_i n e a k i hu
  obtain⟨⟨⟨h0,h1⟩,hk⟩,hz⟩:=qP hv;refine .of_pure hk fun w=>?_
  simp[Instr.indexAt,asIntOf,aF hu,Instr.sureAddr,h0,h1,hz,vd]
 ·rename_i e b len cap k i hu
  obtain⟨⟨⟨h0,h1⟩,a,rfl,hk⟩,hz⟩:=qP hv;refine .of_pure hk fun w=>?_
  simp[Instr.indexAt,asIntOf,aF hu,h0,h1,hz,vd]
 ·exact hv.elim
theorem Iz{t:TypeId}{x i:Value}{K:RK}{h:ad}(hv:Mv P t x i K):Yv P (Instr.index t x i) K h:=by
 unfold Mv at hv;split at hv
 ·rename_i s k i hu
  obtain⟨b,h0,hb,hk⟩:=hv;refine .of_pure hk fun w=>?_
  simp[Instr.index,asIntOf,aF hu,h0,hb]
 ·exact hv.elim
theorem Ix{t:TypeId}{x:Value}{lo hi mx:Option Value}{K:RK}{h:ad}(hv:Ms P t x lo hi mx K):Yv P (Instr.sliceAt t x lo hi mx) K h:=by
 unfold Ms at hv;split at hv
 ·rename_i s hu
  cases mx with
  |some _=>exact hv.elim
  |none=>
   obtain⟨n,hv,hn⟩:=nI (P:=P) hv;obtain⟨l,hv,hl⟩:=nI (P:=P) hv;refine .of_pure hv fun w=>?_
   simp[Instr.sliceAt,Instr.slice,aF hu,qM hn hl]
 ·rename_i e a len cap hu
  obtain⟨hv,hz⟩:=qP hv;cases mx with
  |none=>
   obtain⟨n,hv,hn⟩:=nI (P:=P) hv;obtain⟨l,hv,hl⟩:=nI (P:=P) hv;refine .of_pure hv fun w=>?_
   simp[Instr.sliceAt,Instr.slice,aF hu,qM hn hl,hz,zu]
  |some m=>
   cases hi with
   |none=>exact hv.elim
   |some hi=>
    obtain⟨m',hv,hm⟩:=nI (P:=P) hv;obtain⟨n,hv,hn⟩:=nI (P:=P) hv;obtain⟨l,hv,hl⟩:=nI (P:=P) hv;refine .of_pure hv fun w=>?_
    simp[Instr.sliceAt,Instr.slice,aF hu,BZ hm hn hl,hz,zu]
 ·rename_i n e a hu
  obtain⟨hv,hz⟩:=qP hv;cases mx with
  |some _=>exact hv.elim
  |none=>
   obtain⟨m,hv,hn⟩:=nI (P:=P) hv;obtain⟨l,hv,hl⟩:=nI (P:=P) hv;refine .of_pure hv fun w=>?_
   have ha:(some (if n=l then a else a.add (l*cl P e)))=aW (some a) l n (cl P e):=by
    rw[←zu];split<;>rfl
   simp[Instr.sliceAt,aF hu,Instr.sureAddr,qM hn hl,hz,ha]
 ·exact hv.elim
def qi(d:TypeDesc)(c:CK):Prop:=(∃i,d=.int i∧c=.int i)∨(d=.string∧c=.str)∨(d=.bool∧c=.bool)
theorem xG{t:TypeId}{c:CK}{e:TypeId}(h:KO P t=some (c,e)):∃k d,P.underlying t=some (.map k e)∧P.underlying k=some d∧qi d c:=by
 unfold KO at h;split at h
 ·rename_i k e' hu
  split at h
  ·rename_i i hk
   simp only[bR.injEq,rz.injEq]at h;obtain⟨rfl,rfl⟩:=h;exact⟨k,_,hu,hk,.inl ⟨i,rfl,rfl⟩⟩
  ·rename_i hk
   simp only[bR.injEq,rz.injEq]at h;obtain⟨rfl,rfl⟩:=h;exact⟨k,_,hu,hk,.inr (.inl ⟨rfl,rfl⟩)⟩
  ·rename_i hk
   simp only[bR.injEq,rz.injEq]at h;obtain⟨rfl,rfl⟩:=h;exact⟨k,_,hu,hk,.inr (.inr ⟨rfl,rfl⟩)⟩
  ·cases h
 ·cases h
theorem Dg{d:TypeDesc}{c:CK}(hd:qi d c)(x y:c.den):Instr.sameNow d (c.enc x) (c.enc y)=some (iQ (c.enc x) (c.enc y)):=by
 rcases hd with⟨i,rfl,rfl⟩|⟨rfl,rfl⟩|⟨rfl,rfl⟩
 ·simp[Instr.sameNow,CK.enc,iQ]
 ·simp[Instr.sameNow,CK.enc,iQ]
 ·simp[Instr.sameNow,CK.enc,iQ]
theorem Dv{d:TypeDesc}{c:CK}(hd:qi d c)(x:c.den):∀(es:List MapEntry) (i:Nat),Fj c es→
  ∃r,Instr.findNow d (c.enc x) es i=some r∧r.map (·.2)=Ld (c.enc x) es
 | [],i,_=>⟨none,rfl,rfl⟩
 |e::es,i,h=>by
  obtain⟨y,hy⟩:=h e (by simp);have hs:=Dg hd x y;rw[←hy]at hs;simp only[Instr.findNow,Ld];cases hb:iQ (c.enc x) e.key with
  |true=>rw[hs,hb];exact⟨some (i,e.val),rfl,rfl⟩
  |false=>rw[hs,hb];exact Dv hd x es (i+1) fun e' he'=>h e' (by simp[he'])
theorem Lj{empty:Bool}{k:TypeId}{d:TypeDesc}{c:CK}(hd:qi d c)(hu:P.underlying k=some d)(v:Value)(n:Nat)(w:World):(Instr.checkKey empty (n+1) k v).run P w=.ok () w:=by
 unfold Instr.checkKey;simp only[Sem.run_bind,aF hu,Result.andThen_ok];rcases hd with⟨i,rfl,rfl⟩|⟨rfl,rfl⟩|⟨rfl,rfl⟩<;>rfl
theorem wE{k:TypeId}{d:TypeDesc}{c:CK}(hd:qi d c)(hu:P.underlying k=some d)(x:c.den){es:List MapEntry}(h:Fj c es)(w:World):
  ∃r,(Instr.findKey k (c.enc x) es).run P w=.ok r w∧Instr.findNow d (c.enc x) es 0=some r∧r.map (·.2)=Ld (c.enc x) es:=by
 obtain⟨r,hr,hm⟩:=Dv hd x es 0 h;refine⟨r,?_,hr,hm⟩;simp only[Instr.findKey,Sem.run_bind,aF hu,Result.andThen_ok,hr,Sem.run_pure]
theorem mR{w:World}{r:Nat}{es:Array MapEntry}{clock:Nat}(h:w.heap[r]? =some (.map es clock)):(getObj r).run P w=.ok (.map es clock) w:=by
 simp only[getObj,Sem.run,h]
theorem oI{empty:Bool}{k:TypeId}{d:TypeDesc}{c:CK}(hd:qi d c)(hu:P.underlying k=some d)(v:Value)(w:World):(Instr.checkKey empty 10000 k v).run P w=.ok () w:=
 Lj hd hu v 9999 w
theorem MQ{t:TypeId}{c:CK}{e k:TypeId}{d:TypeDesc}(hu:P.underlying t=some (.map k e))(hk:P.underlying k=some d)(hd:qi d c){m:Option Nat}{x:c.den}{z v:Value}{b ok:Bool}{w:World}
  (hz:(zeroValue e).run P w=.ok z w)(hm:Nw c z w.heap m (c.enc x) v b):
  (Instr.lookup t (.map m) (c.enc x) ok).run P w=.ok (bif ok then .tuple #[v,.bool b]else v) w:=by
 cases m with
 |none=>
  obtain⟨rfl,rfl⟩:=hm;simp only[Instr.lookup,Sem.run_bind,aF hu,Result.andThen_ok,Sem.run_pure,oI hd hk];obtain⟨r,h1,h2,h3⟩:=wE (P:=P) hd hk x (es:= []) (fun _ h=>by cases h) w
  simp only[Instr.findNow,bR.injEq]at h2;subst h2;simp[h1,hz]
 |some r=>
  obtain⟨es,clock,hb,hks,hv⟩:=hm;simp only[Instr.lookup,Sem.run_bind,aF hu,Result.andThen_ok,mR hb,Sem.run_pure,oI hd hk];obtain⟨r,h1,h2,h3⟩:=wE (P:=P) hd hk x hks w;simp only[h1,Result.andThen_ok];cases r with
  |none=>
   simp only[Option.map_none]at h3;rw[←h3]at hv;obtain⟨rfl,rfl⟩:=hv;simp[hz]
  |some r=>
   simp only[l5]at h3;rw[←h3]at hv;obtain⟨rfl,rfl⟩:=hv;cases ok<;>rfl
theorem fj{e:TypeId}{z:Value}(h:yO P e=some z)(w:World):(zeroValue e).run P w=.ok z w:=by
 unfold yO at h;cases hi:P.info? e with
 |none=>rw[hi]at h;cases h
 |some i=>rw[hi]at h;simp only at h;simp[zeroValue,cZ hi,h]
theorem Gp{t:TypeId}{x k:Value}{ok:Bool}{K:RK}{h:ad}(hv:Iy P t x k ok K h):Yv P (Instr.lookup t x k ok) K h:=by
 unfold Iy at hv;split at hv
 ·rename_i c e m hc
  obtain⟨kt,d,hu,hk,hd⟩:=xG hc;obtain⟨kx,rfl,hv⟩:=CK.dec_sound hv;split at hv
  ·rename_i ek z hek hz
   obtain⟨y,b,hm,hK⟩:=hv;exact⟨_,_,hK,hm,fun w hw=>MQ hu hk hd (fj hz w) hw⟩
  ·exact hv.elim
 ·exact hv.elim
theorem Mu{t:TypeId}{x:Value}{ats:Array TypeId}{ty:TypeId}{K:RK}{h:ad}(hat:ats[0]? =some t) (hv:Uj P t x K h):Yv P (Builtin.len_ ats ty #[x]) K h:=by
 unfold Uj at hv;split at hv
 ·rename_i s hu
  exact .of_pure hv fun w=>by simp[Builtin.len_,hat,aF hu,goInt]
 ·rename_i n e _ hu
  exact .of_pure hv fun w=>by simp[Builtin.len_,hat,aF hu,goInt]
 ·rename_i e b n c hu
  exact .of_pure hv fun w=>by simp[Builtin.len_,hat,aF hu,goInt]
 ·rename_i k e m hu
  obtain⟨n,hm,hk⟩:=hv;refine⟨_,_,hk,hm,fun w hw=>?_⟩
  cases m with
  |none=>
   have:n=0:=hw;subst this;simp[Builtin.len_,hat,aF hu,goInt]
  |some r=>
   obtain⟨es,clock,hb,rfl⟩:=hw;simp[Builtin.len_,hat,aF hu,goInt,mR hb]
 ·exact hv.elim
theorem Mx{t:TypeId}{x:Value}{ats:Array TypeId}{ty:TypeId}{K:RK}{h:ad}(hat:ats[0]? =some t) (hv:Uk P t x K):Yv P (Builtin.cap_ ats ty #[x]) K h:=by
 unfold Uk at hv;split at hv
 ·rename_i e b n c hu
  exact .of_pure hv fun w=>by simp[Builtin.cap_,hat,aF hu,goInt]
 ·exact hv.elim
theorem AG{mx:Bool}{k:IntKind}:∀{vs:List Value} {a:Int} {f:Value→Prop},IM mx k a vs f→∃v,f v∧∀w,(vs.foldlM (bif mx then Builtin.max2 else Builtin.min2) (Value.int k a):Sem Value).run P w=.ok v w
 | [],a,f,h=>⟨_,h,fun w=>by simp⟩
 | .int k' b::vs,a,f,h=>by
  simp only[IM]at h;cases hk:IS k' k with
  |false=>rw[hk]at h;exact h.elim
  |true=>
   rw[hk]at h;have:=AQ hk;subst this;obtain⟨v,hf,hr⟩:=AG h;refine⟨v,hf,fun w=>?_⟩
   rw[←hr w];cases mx<;>simp[List.foldlM_cons,Builtin.max2,Builtin.min2]
theorem yV{mx:Bool}{vs:List Value}{f:Value→Prop}{ats:Array TypeId}{ty:TypeId}(h:Ek mx vs f):∃v,f v∧∀w,(bif mx then Builtin.max_ ats ty vs.toArray else Builtin.min_ ats ty vs.toArray).run P w=.ok v w:=by
 unfold Ek at h;split at h
 ·obtain⟨v,hf,hr⟩:=AG (P:=P) h
  refine⟨v,hf,fun w=>?_⟩
  have:=hr w;cases mx<;>simpa[Builtin.max_,Builtin.min_]using this
 ·exact h.elim
theorem PJ{a:Addr}{e:MapEntry}{w:World}(h0:a.off=0)(h:Nx w.heap a.block e):(Instr.entry (.pointer (some a))).run P w=.ok (.tuple #[e.key,e.val]) w:=by
 obtain⟨m,since,seen,last,stamp,es,hi,hb,hm,hf⟩:=h;obtain⟨b,off,spot⟩:=a;simp only at h0 hi;subst h0;have g1:(getObj b).run P w=.ok (.mapIter (some m) since seen last) w:=by simp only[getObj,Sem.run,hi]
 simp[Instr.entry,g1,hb,mR hm,hf]
def GU:DV→Value→Prop
 | .t,v=>v=.bool true
 | .f,v=>v=.bool false
 | .u,v=>v=undef
 | .x,_=>True
def DecOk(d:vY)(r:cI):Prop:=∀t,sB d t=.x∨∃v,lh r t=some v∧GU (sB d t) v
theorem DecOk.at{d:vY}{r:cI}(h:DecOk d r){t:Nat}{v:Value}(hv:lh r t=some v):GU (sB d t) v:=by
 rcases h t with e|⟨u,hu,hk⟩
 ·rw[e];trivial
 ·rw[hv]at hu;cases hu;exact hk
theorem vA{d:vY}{r:cI}(hd:DecOk d r){o:Operand}{v:Value}(h:dJ r o=some v):GU (AY d o) v:=by
 cases o with
 |tmp t=>exact hd.at h
 |const c=>
  simp[dJ]at h;subst h;cases c with
  |bool b=>cases b<;>exact rfl
  |_=>trivial
 |global g=>trivial
 |func f=>trivial
theorem Dq{t:TypeId}(h:rG P t=true):∃d,P.underlying t=some d∧∀m,d≠ .interface m:=by
 unfold rG at h;split at h
 ·cases h
 ·rename_i d hd;exact⟨_,hd,fun m e=>by subst e;simp_all⟩
 ·cases h
theorem AJ{t:TypeId}{v:Value}(h:rG P t=true)(w:World):(Instr.makeInterface t v).run P w=.ok (.iface t v) w:=by
 obtain⟨d,hd,hn⟩:=Dq h;simp only[Instr.makeInterface,Sem.run_bind,aF hd,Result.andThen_ok];cases d<;>first|exact absurd rfl (hn _)|rfl
theorem EF{t u:TypeId}{v:Value}(h:rG P t=true)(w:World):(Instr.typeAssert (.iface t v) u t false).run P w=.ok v w:=by
 obtain⟨d,hd,hn⟩:=Dq h;simp only[Instr.typeAssert,Sem.run_bind,aF hd,Result.andThen_ok];cases d<;>first|exact absurd rfl (hn _)|(simp[Sem.run_pure])
theorem lf{t:TypeId}{z:List Value}(h:rW P t=some z):∃v,yO P t=some v∧v.cells.toList=z:=by
 unfold rW at h;cases hz:yO P t with
 |none=>rw[hz]at h;cases h
 |some v=>rw[hz]at h;simp only[bR.injEq]at h;exact⟨v,rfl,h⟩
theorem sJ{t:TypeId}{v:Value}(h:yO P t=some v):∃i,P.info? t=some i∧i.zero=some v:=by
 unfold yO at h;cases hi:P.info? t with
 |none=>rw[hi]at h;cases h
 |some i=>rw[hi]at h;exact⟨i,rfl,h⟩
theorem RE{A B:List Value}{x:Value}{m:Nat}(h:A.length=m):(A++x::B).take (m+1)=A++ [x]:=by
 subst h;rw[List.take_append,bm (by omega),show A.length+1-A.length=1 by omega];rfl
theorem RG{A B:List Value}{x:Value}{m n:Nat}(h:A.length=m):(A++x::B).drop (m+1+n)=B.drop n:=by
 subst h;rw[List.drop_append,List.drop_eq_nil_of_le (by omega),show A.length+1+n-A.length=n+1 by omega];rfl
theorem K8(off:Nat):∀(xs:List Value) (k:Nat) (arr:Array Value),off+k+xs.length≤arr.size→
  (xs.zipIdx k).foldl (fun cs (c,j)=>cs.setIfInBounds (off+j) c) arr=(Kq arr.toList (off+k) xs).toArray
 | [],k,arr,_=>by simp[Kq]
 |x::xs,k,arr,h=>by
  simp only[ak]at h;simp only[List.zipIdx_cons,ia];rw[K8 off xs (k+1) _ (by simp;omega)];have hm:off+k<arr.toList.length:=by simp;omega
  have hs:arr.toList.set (off+k) x=arr.toList.take (off+k)++x::arr.toList.drop (off+k+1):=by
   rw[List.set_eq_take_append_cons_drop,if_pos hm]
  have hl:(arr.toList.take (off+k)).length=off+k:=by simp;omega
  congr 1
  unfold Kq;rw[Array.toList_setIfInBounds,hs,←vi,RE hl,RG hl];simp only[List.append_assoc,cH,List.nil_append,ak,List.drop_drop];rw[show off+k+1+xs.length=off+k+(xs.length+1) by omega]
theorem uh{place:Nat→Option (Nat×Nat)}:∀(parts:List (Nat×Value)) (cs cs':List Value),Dw place cs parts=some cs'→Instr.fill place cs.toArray parts=some cs'.toArray
 | [],cs,cs',h=>by simp only[Dw,bR.injEq]at h;subst h;rfl
 |(i,v)::rest,cs,cs',h=>by
  simp only[Dw]at h;cases hp:place i with
  |none=>rw[hp]at h;cases h
  |some os=>
   obtain⟨off,size⟩:=os;rw[hp]at h;simp only at h;cases hb:(bS v.cells.toList.length size&&yD (off+v.cells.toList.length) cs.length)with
   |false=>rw[hb]at h;cases h
   |true=>
    rw[hb]at h;simp only[bd]at hb;have h1:=aY hb.1;have h2:=jG hb.2;have ih:=uh rest _ _ h;have h3:v.cells.size=size:=by simpa using h1
    have h4:off+v.cells.size≤cs.length:=by simpa using h2
    have hf:Array.foldl (fun cs x=>cs.setIfInBounds (off+x.2) x.1) cs.toArray v.cells.zipIdx=(Kq cs off v.cells.toList).toArray:=by
     have:=K8 off v.cells.toList 0 cs.toArray (by simpa using h4);simp only[gM]at this;rw[←this,←Array.foldl_toList];congr 1
     simp[Array.toList_zipIdx]
    simp only[Instr.fill,hp];rw[if_neg (by simp[h3];omega)];simp only[hf];exact ih
theorem pW{N:Nat}{r:cI}{a:Act}(h:Agree N r a):∀{ps:List (Nat×Operand)} {vs:List (Nat×Value)},rF r ps=some vs→ps.map (fun p=>(p.1,a.eval p.2))=vs
 | [],vs,hv=>by simp[rF]at hv;subst hv;rfl
 |(i,o)::ps,vs,hv=>by
  simp only[rF]at hv;cases ho:dJ r o with
  |none=>simp[ho]at hv
  |some v=>cases hos:rF r ps with
   |none=>simp[ho,hos]at hv
   |some us=>simp[ho,hos]at hv;subst hv;simp[mS h ho,pW h hos]
theorem rK{t:TypeId}(h:yB P t=true)(w:World):(sizeOf t).run P w=.ok (cl P t) w:=by
 unfold yB at h;cases hi:P.info? t with
 |none=>rw[hi]at h;cases h
 |some i=>simp[sizeOf,cZ hi,cl,hi]
theorem E6(w:World):∀l:List Field,A7 P l=true→(l.mapM fun f:Field=>((do pure (f.offset,←sizeOf f.type)):Sem (Nat×Nat))).run P w=.ok (l.map fun f:Field=>(f.offset,cl P f.type)) w
 | [],_=>rfl
 |f::l,h=>by
  simp only[A7]at h;cases hf:yB P f.type with
  |false=>rw[hf]at h;cases h
  |true=>
   rw[hf]at h;rw[List.mapM_cons];simp only[Sem.run_bind,rK hf,Result.andThen_ok,Sem.run_pure,E6 w l h,eP]
theorem A6{t:TypeId}{ps:Array (Nat×Value)}{cs:List Value}(hb:Je P t ps.toList=some cs)(w:World):
  (Instr.build t ps).run P w=.ok (.agg cs.toArray) w:=by
 unfold Je at hb;split at hb
 ·rename_i fs z hu hz
  obtain⟨v,hz,hv⟩:=lf hz;cases ha:A7 P fs.toList with
  |false=>rw[ha]at hb;cases hb
  |true=>
   rw[ha]at hb;have hfs:(fs.mapM fun f:Field=>((do pure (f.offset,←sizeOf f.type)):Sem (Nat×Nat))).run P w=.ok (fs.map fun f:Field=>(f.offset,cl P f.type)) w:=by
    rw[Array.mapM_eq_mapM_toList];simp only[Sem.run_map,E6 w fs.toList ha,Result.andThen_ok];congr 1
    apply dk;simp
   have hf:=uh _ _ _ hb;have hplace:(fun i:Nat=>(fs.map fun f:Field=>(f.offset,cl P f.type))[i]?)=MD P fs.toList:=by
    funext i;unfold MD;rw[Array.getElem?_map,bH];cases fs[i]?<;>rfl
   have hv':v.cells=z.toArray:=by rw[←hv]
   rw[cond_true]at hb;rw[←hplace]at hf;simp only[Instr.build,Sem.run_bind,fj hz,Result.andThen_ok,aF hu,hfs,hv',hf,Sem.run_pure]
 ·rename_i n e z hu hz
  obtain⟨v,hz,hv⟩:=lf hz;cases ha:yB P e with
  |false=>rw[ha]at hb;cases hb
  |true=>
   rw[ha]at hb;have hf:=uh _ _ _ hb;have hv':v.cells=z.toArray:=by rw[←hv]
   simp only[Instr.build,Sem.run_bind,fj hz,Result.andThen_ok,aF hu,rK ha,hv',hf,Sem.run_pure]
 ·cases hb
theorem Hi{ek:Option (Kind×Kind)}{o:Oper}{r:cI}{K:RK}{h:ad}{N:Nat}{a:Act}(ha:Agree N r a)(hq:Cc P ek o.op r K h)(d:vY)(hd:DecOk d r):
  ∃v S,K v S∧Ss S h∧GU (JE d o.op) v∧∀w:World,Ss S w.heap→(execOp a.eval o).run P w=.ok (.value v) w:=by
 have ev:∀{x:Operand} {v:Value},dJ r x=some v→a.eval x=v:=fun h=>mS ha h
 have fin:∀{s:Sem Value},Yv P s K h→JE d o.op=.x→(∀w,(execOp a.eval o).run P w=(do pure (Next.value (←s)):Sem Next).run P w)→
   ∃v S,K v S∧Ss S h∧GU (JE d o.op) v∧∀w:World,Ss S w.heap→(execOp a.eval o).run P w=.ok (.value v) w:=by
  rintro s ⟨v,S,hk,hS,hr⟩ hx he;exact⟨v,S,hk,hS,by rw[hx];trivial,fun w hw=>by rw[he w];exact jO (hr w hw)⟩
 obtain⟨dst,op,type,pg,after,guard⟩:=o;simp only at hq fin⊢;cases op with
 |move x=>
  simp only[Cc]at hq;split at hq
  ·rename_i v hv
   exact⟨v,none,hq,trivial,vA hd hv,fun w _=>by simp[execOp,ev hv]⟩
  ·exact hq.elim
 |assign x=>
  simp only[Cc]at hq;split at hq
  ·rename_i v hv
   exact⟨v,none,hq,trivial,vA hd hv,fun w _=>by simp[execOp,ev hv]⟩
  ·exact hq.elim
 |pick c x y=>
  simp only[Cc]at hq;split at hq
  ·rename_i vc va vb hc hx hy
   unfold TN at hq;split at hq
   ·rename_i cb
    have hco:=vA hd hc;have hxo:=vA hd hx;have hyo:=vA hd hy;have he:∀w,(execOp a.eval ⟨dst,.pick c x y,type,pg,after,guard⟩).run P w=.ok (.value (if cb then va else vb)) w:=fun w=>by
     simp[execOp,ev hc,ev hx,ev hy,asBool]
    have hdv:GU (JE d (.pick c x y)) (if cb then va else vb):=by
     simp only[JE];cases hcd:AY d c with
     |t=>
      rw[hcd]at hco;have:cb=true:=by simpa[GU]using hco
      subst this;exact hxo
     |f=>
      rw[hcd]at hco;have:cb=false:=by simpa[GU]using hco
      subst this;exact hyo
     |u=>trivial
     |x=>trivial
    split at hq
    ·rename_i bx by'
     have e1:(if cb=true then Value.bool bx else Value.bool by')=.bool (bif cb then bx else by'):=by cases cb<;>rfl
     rw[e1]at hdv;exact⟨_,none,hq,trivial,hdv,fun w _=>by rw[he w,e1]⟩
    ·cases cb
     ·exact⟨_,none,hq,trivial,hdv,fun w _=>he w⟩
     ·exact⟨_,none,hq,trivial,hdv,fun w _=>he w⟩
   ·exact hq.elim
  ·exact hq.elim
 |load t x=>
  simp only[Cc]at hq;split at hq
  ·rename_i v hv
   obtain⟨u,S,hk,hS,hr⟩:=Dj hq;exact fin ⟨u,some S,hk,hS,hr⟩ rfl fun w=>by simp only[execOp,ev hv]
  ·exact hq.elim
 |nilCheck x=>
  simp only[Cc]at hq;split at hq
  ·rename_i p hv
   obtain⟨b,rfl,hk⟩:=hq;exact⟨_,none,hk,trivial,trivial,fun w _=>by simp[execOp,ev hv]⟩
  ·exact hq.elim
 |binOp op t x y yt=>
  simp only[Cc]at hq;split at hq
  ·rename_i v u hv hu
   obtain⟨v',S,hk,hS,hr⟩:=Mz (x:=x) (y:=y) hq;refine⟨v',S,hk,hS,trivial,fun w hw=>?_⟩
   simp only[execOp,ev hv,ev hu];exact jO (hr w hw)
  ·rename_i v u hna hv hu
   have go:(∀c d,v=.agg c→u=.agg d→False)∧(v=.nilIface→u=.nilIface→False)∧Yv P (binOp op t v u) K h:=by
    split at hq
    ·exact Fb (neg:=false) hq
    ·exact Fb (neg:=true) hq
    ·exact My hq
   obtain⟨h1,h2,v',S,hk,hS,hr⟩:=go;refine⟨v',S,hk,hS,trivial,fun w hw=>?_⟩
   simp only[execOp,ev hv,ev hu];simp[Nd op t x y v u h1 h2 w,hr w hw]
  ·exact hq.elim
 |unOp op t x=>
  simp only[Cc]at hq;split at hq
  ·rename_i v hv
   obtain⟨u,S,hk,hS,hr⟩:=Pl (P:=P) (h:=h) hq;refine⟨u,S,hk,hS,?_,fun w hw=>by simp only[execOp,ev hv];exact jO (hr w hw)⟩
   have hvo:=vA hd hv;cases op<;>try trivial
   simp only[JE];have hrun:=hr {(default:World)with heap:=h} hS;cases hx:AY d x with
   |t=>
    rw[hx]at hvo;have:v=.bool true:=hvo;subst this;simp[Op.unary]at hrun;exact hrun.symm
   |f=>
    rw[hx]at hvo;have:v=.bool false:=hvo;subst this;simp[Op.unary]at hrun;exact hrun.symm
   |u=>trivial
   |x=>trivial
  ·exact hq.elim
 |convert s t x=>
  simp only[Cc]at hq;split at hq
  ·rename_i v hv
   exact fin (Km hq) rfl fun w=>by simp only[execOp,ev hv]
  ·exact hq.elim
 |extract x i=>
  simp only[Cc]at hq;split at hq
  ·rename_i vs hv
   split at hq
   ·rename_i u hu
    have hu':vs[i]? =some u:=by simpa using hu
    exact⟨u,none,hq,trivial,trivial,fun w _=>by simp[execOp,ev hv,Instr.extract,hu']⟩
   ·exact hq.elim
  ·exact hq.elim
 |fieldAddr t x f=>
  simp only[Cc]at hq;split at hq
  ·rename_i b u off hv hf
   exact fin (D3 hf hq) rfl fun w=>by simp only[execOp,ev hv]
  ·exact hq.elim
 |field t x f=>
  simp only[Cc]at hq;split at hq
  ·rename_i v hv
   exact fin (IA hq) rfl fun w=>by simp only[execOp,ev hv]
  ·exact hq.elim
 |indexAddr t x i=>
  simp only[Cc]at hq;split at hq
  ·rename_i v u hv hu
   exact fin (Cd hq) rfl fun w=>by simp only[execOp,ev hv,ev hu]
  ·exact hq.elim
 |index t x i=>
  simp only[Cc]at hq;split at hq
  ·rename_i v u hv hu
   exact fin (Iz hq) rfl fun w=>by simp only[execOp,ev hv,ev hu]
  ·exact hq.elim
 |slice t x lo hi mx=>
  simp only[Cc]at hq;split at hq
  ·rename_i v l h' m hv hl hh hm
   have ov:∀{x:Option Operand} {v:Option Value},Hn r x=some v→x.map a.eval=v:=by
    intro x v hx;cases x with
    |none=>simp[Hn]at hx;subst hx;rfl
    |some x=>
     simp only[Hn]at hx;cases he:dJ r x with
     |none=>simp[he]at hx
     |some u=>simp[he]at hx;subst hx;simp[ev he]
   exact fin (Ix hq) rfl fun w=>by simp only[execOp,ev hv,ov hl,ov hh,ov hm]
  ·exact hq.elim
 |lookup t x k ok=>
  simp only[Cc]at hq;split at hq
  ·rename_i v u hv hu
   exact fin (Gp hq) rfl fun w=>by simp only[execOp,ev hv,ev hu]
  ·exact hq.elim
 |makeInterface t x=>
  simp only[Cc]at hq;split at hq
  ·rename_i v hv
   cases hb:rG P t with
   |false=>rw[hb]at hq;exact hq.elim
   |true=>
    rw[hb,cond_true]at hq;exact⟨_,none,hq,trivial,trivial,fun w _=>by simp only[execOp,ev hv];exact jO (AJ hb w)⟩
  ·exact hq.elim
 |typeAssert x u t ok=>
  simp only[Cc]at hq;split at hq
  ·rename_i v hv
   cases ok with
   |true=>exact hq.elim
   |false=>
    rw[cond_false]at hq;unfold Ol at hq;cases hb:rG P t with
    |false=>rw[hb]at hq;exact hq.elim
    |true=>
     rw[hb,cond_true]at hq;split at hq
     ·obtain⟨y,rfl,hk⟩:=hq
      exact⟨_,none,hk,trivial,trivial,fun w _=>by simp only[execOp,ev hv];exact jO (EF hb w)⟩
     ·exact hq.elim
  ·exact hq.elim
 |makeFunc fn first cap=>
  simp only[Cc]at hq;split at hq
  ·rename_i vs us hv hu
   have e1:=pU ha hv;have e2:=pU ha hu;refine⟨_,none,hq,trivial,trivial,fun w _=>?_⟩
   have f1:first.map a.eval=vs.toArray:=by rw[←e1];apply dk;simp
   have f2:cap.map a.eval=us.toArray:=by rw[←e2];apply dk;simp
   simp[execOp,Instr.makeFunc,f1,f2]
  ·exact hq.elim
 |entry it=>
  simp only[Cc]at hq;split at hq
  ·rename_i b kk vk hv
   obtain⟨h0,e,x,y,hi,hk,hy,hK⟩:=hq;refine⟨_,_,hK,hi,trivial,fun w hw=>?_⟩
   simp only[execOp,ev hv];refine jO ?_;rw[PJ h0 hw,hk,hy]
  ·exact hq.elim
 |call c=>
  simp only[Cc]at hq;have er:∀{b:Builtin} {vs:List Value},c.callee=.builtin b→rZ r c.args.toList=some vs→∃cs:Array Bool,∀w,(execOp a.eval ⟨dst,.call c,type,pg,after,guard⟩).run P w=
    (builtin b c.argTypes type cs vs.toArray).run P w:=by
   intro b vs hc hvs;have e1:=pU ha hvs;have f1:c.args.map a.eval=vs.toArray:=by rw[←e1];apply dk;simp
   refine⟨c.args.map fun| .const _=>true|_=>false,fun w=>?_⟩
   simp[execOp,resolve,hc,f1,invoke];rfl
  split at hq
  ·rename_i v t hc hvs hat
   obtain⟨cs,er⟩:=er hc hvs;obtain⟨u,S,hk,hS,hr⟩:=Mu (ats:=c.argTypes) (ty:=type) (by rw[←bH,hat];rfl) hq;exact⟨u,S,hk,hS,trivial,fun w hw=>by rw[er w];simp only[builtin];exact jO (hr w hw)⟩
  ·rename_i v t hc hvs hat
   obtain⟨cs,er⟩:=er hc hvs;obtain⟨u,S,hk,hS,hr⟩:=Mx (h:=h) (ats:=c.argTypes) (ty:=type) (by rw[←bH,hat];rfl) hq;exact⟨u,S,hk,hS,trivial,fun w hw=>by rw[er w];simp only[builtin];exact jO (hr w hw)⟩
  ·rename_i vs hc hvs
   obtain⟨cs,er⟩:=er hc hvs;obtain⟨u,hk,hr⟩:=yV (P:=P) (ats:=c.argTypes) (ty:=type) hq;exact⟨u,none,hk,trivial,trivial,fun w _=>by rw[er w];simp only[builtin];exact jO (hr w)⟩
  ·rename_i vs hc hvs
   obtain⟨cs,er⟩:=er hc hvs;obtain⟨u,hk,hr⟩:=yV (P:=P) (ats:=c.argTypes) (ty:=type) hq;exact⟨u,none,hk,trivial,trivial,fun w _=>by rw[er w];simp only[builtin];exact jO (hr w)⟩
  ·exact hq.elim
 |build t ps=>
  simp only[Cc]at hq;split at hq
  ·rename_i vs hvs
   split at hq
   ·rename_i cs hcs
    refine⟨_,none,hq,trivial,trivial,fun w _=>?_⟩
    have hp:(ps.map fun x=>(x.1,a.eval x.2))=vs.toArray:=by
     rw[←pW ha hvs];apply dk;simp
    have he:=A6 (ps:=vs.toArray) (by simpa using hcs) w;simp only[execOp];rw[show(ps.map fun(i,x)=>(i,a.eval x))=vs.toArray from hp]
    exact jO he
   ·exact hq.elim
  ·exact hq.elim
 |_=>simp only[Cc]at hq
end Go.Lift
namespace Go.Lift
open Go
variable {P:Program}
def Lp(P:Program)(s:Sem Next)(K:WK)(w:World):Prop:=
 (∃v w',s.run P w=.ok (.value v) w'∧Tame w w'∧K v w'.heap)∨
 (∃w',s.run P w=.ok .skip w'∧Tame w w'∧K undef w'.heap)∨
 (∃f args,s.run P w=.ok (.enter f args) w∧Calls P f args w fun e w'=>Tame w w'∧∃v,e=.returned v∧K v w'.heap)∨
 (∃l fn tmps assign body,s.run P w=.ok (.round l fn tmps assign body) w∧
  ∀(c:Frame) (cs:List Frame),∃b w',Tame w w'∧K (.bool b) w'.heap∧Steps P (lone (Frame.round l fn tmps assign body .normal) (c::cs) w) (lone (c.finish (.bool b)) cs w'))
def Wv(P:Program)(s:Sem Value)(K:WK)(w:World):Prop:=∃v w',s.run P w=.ok v w'∧Tame w w'∧K v w'.heap
theorem Wv.out{s:Sem Value}{K:WK}{w:World}(h:Wv P s K w):Lp P (do pure (Next.value (←s))) K w:=by
 obtain⟨v,w',hr,ht,hk⟩:=h;exact .inl ⟨v,w',jO hr,ht,hk⟩
def Wu(P:Program)(s:Sem Unit)(K:WK)(w:World):Prop:=∃w',s.run P w=.ok () w'∧Tame w w'∧K undef w'.heap
theorem Wu.out{s:Sem Unit}{K:WK}{w:World}(h:Wu P s K w):Lp P (do s;pure Next.skip) K w:=by
 obtain⟨w',hr,ht,hk⟩:=h;exact .inr (.inl ⟨w',QW hr,ht,hk⟩)
def lg(w:World)(h:ad):World:={w with heap:=h}
theorem ff(w:World)(h:ad):Tame w (lg w h):=⟨rfl,rfl,rfl⟩
theorem lu(e:TypeId)(cs:Array Value)(w:World):(newRow e cs).run P w=.ok (ag w.heap) (lg w (hnew w.heap cs.toList e)):=by
 simp[newRow,newObj,Sem.run,ag,lg,hnew,bind,Sem.bind,pure]
theorem E1(o:Obj)(w:World):(newObj o).run P w=.ok w.heap.size (lg w (w.heap.push o)):=rfl
theorem Gy{h:ad}{a b:Addr}(v:Value)(hne:a≠b):aS (hset h a v) b=aS h b:=
 World.cell?_setCell_other {(default:World)with heap:=h} a b v hne
theorem D2{h:ad}{a:Addr}{u:Value}(v:Value)(hc:aS h a=some u):aS (hset h a v) a=some v:=
 World.cell?_setCell_same {(default:World)with heap:=h} a v hc
theorem IU{h:ad}{a b:Addr}(v:Value):En (hset h a v) b=En h b:=
 World.frozen?_setCell {(default:World)with heap:=h} a b v
theorem Wr.hset{h:ad}{a b:Addr}(v:Value)(hw:Wr h b):Wr (hset h a v) b:=by
 obtain⟨⟨u,hu⟩,hf⟩:=hw;refine⟨?_,by rw[IU];exact hf⟩
 by_cases e:a=b
 ·subst e;exact⟨v,D2 v hu⟩
 ·exact⟨u,by rw[Gy v e];exact hu⟩
theorem Mn{w:World}{a:Addr}{v:Value}(hv:∀cs,v≠ .agg cs)(hv':∀cs,v≠ .tuple cs)(hw:Wr w.heap a):(store a v).run P w=.ok () (lg w (hset w.heap a v)):=by
 obtain⟨⟨u,hu⟩,hf⟩:=hw;have hu':w.cell? a=some u:=hu;have hf':w.frozen? a=false:=hf;cases v<;>first|exact absurd rfl (hv _)|exact absurd rfl (hv' _)|(simp only[store,Sem.run,hu',hf'];rfl)
theorem IK{v:Value}{vs:List Value}(h:cz (v::vs)=true):(∀cs,v≠ .agg cs)∧(∀cs,v≠ .tuple cs)∧cz vs=true:=by
 simp only[cz,bd]at h;refine⟨fun cs e=>?_,fun cs e=>?_,h.2⟩<;>(subst e;exact absurd h.1 (by simp))
theorem sW{a:Addr}:∀(vs:List Value) (i:Nat) (w:World),cz vs=true→(∀j,j<vs.length→Wr w.heap (adr a (i+j)))→
  (storeCells a vs i).run P w=.ok () (lg w (fk w.heap a i vs))
 | [],i,w,_,_=>rfl
 |v::vs,i,w,h1,hw=>by
  obtain⟨n1,n2,h1⟩:=IK h1;have h0:=hw 0 (by simp);simp only[gM]at h0;have ha:a.add i=adr a i:=(vd a i).symm;simp only[storeCells,ha,Sem.run_bind,Mn n1 n2 h0,Result.andThen_ok];rw[sW vs (i+1) (lg w (hset w.heap (adr a i) v)) h1 fun j hj=>?_]
  ·rfl
  ·have:=hw (j+1) (by simp only[ak];omega)
   rw[show i+1+j=i+(j+1) by omega]
   exact this.hset v
theorem HH{a:Addr}(m:Nat):∀(vs:List Value) (i:Nat) (h:ad),fk h (adr a m) i vs=fk h a (m+i) vs
 | [],_,_=>rfl
 |v::vs,i,h=>by
  simp only[fk];rw[HH m vs (i+1),Ba];rfl
theorem H8{t:TypeId}{a v:Value}{K:WK}{w:World}(hs:LZ P t a v K w.heap):Wu P (Instr.storeAt t a v) K w:=by
 unfold LZ at hs;split at hs
 ·rename_i a
  cases hb:(bS v.cells.toList.length (cl P t)&&cz v.cells.toList)with
  |false=>rw[hb]at hs;exact hs.elim
  |true=>
   rw[hb]at hs;simp only[bd]at hb;have hl:=aY hb.1;obtain⟨hs,hz⟩:=qP hs;have hl':v.cells.size=cl P t:=by simpa using hl
   have go:(∀j,j<v.cells.toList.length→Wr w.heap (adr a (0+j)))→(Instr.storeAt t (.pointer (some a)) v).run P w=.ok () (lg w (fk w.heap a 0 v.cells.toList)):=by
    intro hw;have:=sW (P:=P) v.cells.toList 0 w hb.2 hw;simp[Instr.storeAt,Instr.sureAddr,storeVar,hz,hl',this]
   split at hs
   ·rename_i u hu
    obtain⟨hw,hk⟩:=hs;refine⟨_,go (fun j hj=>?_),ff _ _,?_⟩
    ·rw[hu]at hj;simp only[ak,List.length_nil]at hj
     obtain rfl:j=0:=by omega
     exact hw
    ·rw[hu];exact hk
   ·obtain⟨hw,hk⟩:=hs
    refine⟨_,go (fun j hj=>?_),ff _ _,hk⟩
    rcases hw with e|⟨b,hb',hw⟩
    ·rw[e]at hj;cases hj
    ·cases hb';exact hw j hj
 ·exact hs.elim
theorem kK(z:Array Value)(n:Nat):(Builtin.zeroCells z n).toList=dQ n z.toList:=by
 have key:∀n,(List.range (n*z.size)).map (fun i=>z[i%z.size]!)=(kT n z.toList).flatten:=by
  intro n;induction n with
  |zero=>simp
  |succ n ih=>
   rw[Nat.succ_mul,List.range_add,List.map_append,ih,List.replicate_succ',List.flatten_append];congr 1
   simp only[qv,List.flatten_cons,List.flatten_nil,List.append_nil];apply List.ext_getElem
   ·simp
   ·intro i h1 h2
    simp only[List.length_map,List.length_range]at h1;simp[Nat.mod_eq_of_lt h1,h1,Nat.add_mod]
 simpa[Builtin.zeroCells,dQ]using key n
theorem dM{t e:TypeId}(h:xb P t=some e):P.underlying t=some (.slice e):=by
 unfold xb at h;split at h
 ·rename_i e' hu;simp only[bR.injEq]at h;subst h;exact hu
 ·cases h
theorem NY{z:Value}{n:Nat}:((Array.range (n*z.cells.size)).map (z.cells[· %z.cells.size]!))=(dQ n z.cells.toList).toArray:=by
 have:=kK z.cells n;unfold Builtin.zeroCells at this;apply dk;rw[this]
theorem Cw{t e:TypeId}{n:Nat}{ps:Array (Nat×Value)}{z cs:List Value}(ht:xb P t=some e)(hz:rW P e=some z)(hn:n*cl P e≤16777216)(hl:z.length=cl P e)
  (hb:Dw (fun i=>some (i*cl P e,cl P e)) (dQ n z) ps.toList=some cs)(w:World):
  (Instr.buildSlice t n ps).run P w=.ok (.slice (some (ag w.heap)) n n) (lg w (hnew w.heap cs e)):=by
 obtain⟨v,hv,hvc⟩:=lf hz;obtain⟨i,hi,hiz⟩:=sJ hv;have hs:(sizeOf e).run P w=.ok (cl P e) w:=by simp[sizeOf,cZ hi,cl,hi]
 have hvs:v.cells.size=cl P e:=by rw[←hl,←hvc];simp
 have hf:=uh _ _ _ hb;have hrow:((Array.range (n*cl P e)).map (fun i=>(if n*cl P e=0 then #[]else v.cells)[i%(if n*cl P e=0 then #[]else v.cells).size]!))=(dQ n z).toArray:=by
  by_cases h0:n*cl P e=0
  ·have:(dQ n z).length=0:=by simp[dQ,hl,h0]
   rw[aw.1 this];simp[h0]
  ·simp only[if_neg h0]
   rw[←hvs,NY,hvc]
 have hn':¬(n*cl P e>2^24):=by omega
 simp only[Instr.buildSlice,Sem.run_bind,aF (dM ht),Result.andThen_ok,hs,if_neg hn'];by_cases h0:n*cl P e=0
 ·simp only[if_pos h0]at hrow
  simp only[if_pos h0,Sem.run_bind,Sem.run_pure,Result.andThen_ok,hrow,hf,lu]
 ·simp only[if_neg h0]at hrow
  simp only[if_neg h0,Sem.run_bind,Sem.run_pure,Result.andThen_ok,fj hv,hrow,hf,lu]
theorem Ph{h:ad}{a:Addr}{vs:List Value}(hr:Row h a vs):∀j v,vs[j]? =some v→aS h (a.add j)=some v:=fun j v hv=>by
 rw[←vd];exact hr j v hv
theorem yq{size n cap len:Nat}{b:Option Addr}{vs:List Value}{w:World}(hs:SRow w.heap b (n*size) vs):(Builtin.firstCells size n (.slice b len cap)).run P w=.ok vs.toArray w:=by
 obtain⟨hl,hr⟩:=hs;cases b with
 |none=>
  rcases hr with rfl|⟨_,h,_⟩
  ·simp[Builtin.firstCells]
  ·cases h
 |some b=>
  refine run_firstCells_some w size n b len cap vs hl fun j v hv=>?_
  rcases hr with rfl|⟨_,h,hr⟩
  ·cases hv
  ·cases h;exact Ph hr j v hv
theorem ER{a:Addr}{m:Nat}{xs:List Value}{w:World}(h1:cz xs=true)(hw:qE w.heap (some a) m xs):
  (storeCells (a.add m) xs).run P w=.ok () (lg w (fk w.heap a m xs)):=by
 rcases hw with rfl|⟨b,hb,hw⟩
 ·rfl
 ·cases hb
  have:=sW (P:=P) (a:=adr a m) xs 0 w h1 fun j hj=>by rw[Ba,aP];exact hw j hj
  rw[←vd,this,HH,gM]
set_option maxHeartbeats 1000000 in
theorem FQ{t e u ty:TypeId}{b:Option Addr}{sl sc xl:Nat}{xs:List Value}{x:Value}{K:WK}{w:World}(ht:xb P t=some e)(hu':(∃e',P.underlying u=some (.slice e'))∨P.underlying u=some .string)
  (hlen:∀w,(Builtin.lenOf x).run P w=.ok xl w)(hx:∀w':World,w'.heap=w.heap→(Builtin.firstCells (cl P e) xl x).run P w'=.ok xs.toArray w')
  (hi:∃i,P.info? e=some i)
  (h:RZ P e b sl sc xl xs K w.heap):Wv P (Builtin.append_ #[t,u] ty #[.slice b sl sc,x]) K w:=by
 obtain⟨i,hi⟩:=hi;have hsz:cl P e=i.size:=by simp[cl,hi]
 have hby:se P e=i.bytes:=by simp[se,hi]
 by_cases hc:sl+xl≤sc
 ·obtain⟨hw,h1,hk⟩:=h.1 hc
  refine⟨_,_,?_,ff w (gn w.heap b (sl*cl P e) xs),hk⟩;cases b with
  |none=>
   have hxs:=hx w rfl;rw[hsz]at hxs;rcases hu' with⟨e',hd⟩|hd<;>(simp[Builtin.append_,aF (dM ht),aF hd,sizeOf,cZ hi,hlen,hc,hxs];rfl)
  |some a=>
   have hst:=ER (P:=P) h1 hw;have hxs:=hx w rfl;rw[hsz]at hst hxs;rcases hu' with⟨e',hd⟩|hd<;>(simp[Builtin.append_,aF (dM ht),aF hd,sizeOf,cZ hi,hlen,hc,hxs,hst,gn,hsz])
 ·obtain⟨old,z,ho,hz,hb0,h48,hk⟩:=h.2 (by omega)
  obtain⟨v,hv,hvc⟩:=lf hz;obtain⟨i',hi',hiz⟩:=sJ hv;rw[hi]at hi';cases hi';rw[hby]at hb0 h48;have hb0':¬i.bytes=0:=by omega
  have h48':¬(281474976710656<Builtin.nextslicecap (sl+xl) sc*i.bytes):=by omega
  have hxs:=hx w.drew rfl;have hol:(Builtin.firstCells (cl P e) sl (.slice b sl sc)).run P w.drew=.ok old.toArray w.drew:=yq ho;rw[hsz]at hxs hol;have hge:sl+xl≤(Question.appendCap (sl+xl) sc e).cut (w.tape w.drawn (.appendCap (sl+xl) sc e)):=Nat.le_add_right _ _;refine⟨_,lg w.drew (hnew w.heap (old++xs++dQ ((Question.appendCap (sl+xl) sc e).cut (w.tape w.drawn (.appendCap (sl+xl) sc e))-(sl+xl)) z) e),?_,⟨rfl,rfl,rfl⟩,hk _ hge⟩
  have hzc:(Builtin.zeroCells v.cells ((Question.appendCap (sl+xl) sc e).cut (w.tape w.drawn (.appendCap (sl+xl) sc e))-(sl+xl)))=(dQ ((Question.appendCap (sl+xl) sc e).cut (w.tape w.drawn (.appendCap (sl+xl) sc e))-(sl+xl)) z).toArray:=by
   apply dk;rw[kK,hvc]
  rcases hu' with⟨e',hd⟩|hd<;>(simp[Builtin.append_,aF (dM ht),aF hd,sizeOf,cZ hi,hlen,hc,hb0',h48',Question.forced,hxs,hol,fj hv,lu,hzc,ag];rfl)
theorem Fp{t:TypeId}{K:Prop}(h:Rb P t K):∃i,P.info? t=some i:=by
 unfold Rb at h;cases hi:P.info? t with
 |none=>rw[hi]at h;exact h.elim
 |some i=>exact⟨i,rfl⟩
theorem AR{t:TypeId}(h:cl P t≠0):∃i,P.info? t=some i:=by
 cases hi:P.info? t with
 |none=>exact absurd (by simp[cl,hi]) h
 |some i=>exact⟨i,rfl⟩
theorem DB{size n:Nat}{x:ByteArray}{w:World}:(Builtin.firstCells size n (.string x)).run P w=.ok ((eC x).take n).toArray w:=by
 simp only[Builtin.firstCells,Sem.run_pure];congr 1
 apply dk;simp[eC,qA,ij,←List.map_take]
theorem yS{t u ty:TypeId}{s x:Value}{K:WK}{w:World}(hu':(∃e',P.underlying u=some (.slice e'))∨P.underlying u=some .string)(h:Ef P t s x K w.heap):
  Wv P (Builtin.append_ #[t,u] ty #[s,x]) K w:=by
 unfold Ef at h;split at h
 ·rename_i e b sl sc a xl xc ht
  have hi:=Fp h;obtain⟨⟨xs,hxs,hk⟩,hz⟩:=qP h;exact FQ ht hu' (fun w=>rfl) (fun w' hw=>yq (by rw[hw];exact hxs)) hi hk
 ·rename_i e b sl sc x ht
  cases hb:bS (cl P e) 1 with
  |false=>rw[hb]at h;exact h.elim
  |true=>
   rw[hb]at h;have h1:=aY hb;have hl:(eC x).length=x.size:=by simp[eC]
   refine FQ ht hu' (fun w=>rfl) (fun w' _=>?_) (AR (by omega)) h
   rw[DB,bm (by omega)]
 ·exact h.elim
theorem BQ{n:Int}(h0:0≤n)(h1:n≤9223372036854775807):IntKind.i64.wrap n=n:=IntWalk.i64_in n ⟨by omega,h1⟩
theorem Nt{t e u ty:TypeId}{b:Option Addr}{sl sc:Nat}{k0 k:IntKind}{l:Int}{z:List Value}{K:WK}{w:World}(ht:xb P t=some e)(hu:P.underlying u=some (.int k0))
  (hz:rW P e=some z)(hzl:z.length=cl P e)(h0:0≤l)(h1:l*se P e≤2^48)(h2:l≤9223372036854775807)(h3:((sl+l.toNat:Nat):Int)≤9223372036854775807)
  (h:RZ P e b sl sc l.toNat (dQ l.toNat z) K w.heap):Wv P (Builtin.append_ #[t,u] ty #[.slice b sl sc,.int k l]) K w:=by
 obtain⟨v,hv,hvc⟩:=lf hz;obtain⟨i,hi,hiz⟩:=sJ hv;have hsz:cl P e=i.size:=by simp[cl,hi]
 have hby:se P e=i.bytes:=by simp[se,hi]
 have hw:IntKind.wrap .i64 l=l:=BQ h0 h2;have hl0:¬l<0:=by omega
 rw[hby]at h1;have h1':¬(281474976710656:Int)<l*i.bytes:=by omega
 have hai:∀w':World,(asInt (.int k l)).run P w'=.ok l w':=fun w'=>rfl
 have hzn:(Builtin.zeroCells v.cells l.toNat)=(dQ l.toNat z).toArray:=by apply dk;rw[kK,hvc]
 have hz0:l.toNat*i.size=0→dQ l.toNat z= []:=fun h0'=>by
  have hlen:(dQ l.toNat z).length=l.toNat*i.size:=by rw[←hsz,←hzl];unfold dQ;simp
  exact aw.1 (by rw[hlen,h0'])
 by_cases hc:sl+l.toNat≤sc
 ·obtain⟨hw',h1,hk⟩:=h.1 hc
  refine⟨_,_,?_,ff w (gn w.heap b (sl*cl P e) (dQ l.toNat z)),hk⟩;cases b with
  |none=>
   by_cases hs:l.toNat*i.size=0
   ·simp[Builtin.append_,aF (dM ht),aF hu,sizeOf,cZ hi,hai,hw,hl0,h1',hc,hs];rfl
   ·simp[Builtin.append_,aF (dM ht),aF hu,sizeOf,cZ hi,hai,hw,hl0,h1',hc,fj hv];rfl
  |some a=>
   have hst:=ER (P:=P) h1 hw';rw[hsz]at hst;by_cases hs:l.toNat*i.size=0
   ·rw[hz0 hs]at hst
    simp[Builtin.append_,aF (dM ht),aF hu,sizeOf,cZ hi,hai,hw,hl0,h1',hc,hst,gn,hsz,hs,hz0 hs]
   ·simp[Builtin.append_,aF (dM ht),aF hu,sizeOf,cZ hi,hai,hw,hl0,h1',hc,hst,gn,hsz,hs,fj hv,hzn]
 ·obtain⟨old,z',ho,hz',hb0,h48,hk⟩:=h.2 (by omega)
  rw[hz]at hz';cases hz';rw[hby]at hb0 h48;have hb0':¬i.bytes=0:=by omega
  have h48':¬(281474976710656<Builtin.nextslicecap (sl+l.toNat) sc*i.bytes):=by omega
  have h3':¬(9223372036854775807:Int)<((sl:Int)+(l.toNat:Int)):=by omega
  have h3'':¬(9223372036854775807:Int)<((sl:Int)+max l 0):=by omega
  have hol:(Builtin.firstCells (cl P e) sl (.slice b sl sc)).run P w.drew=.ok old.toArray w.drew:=yq ho;rw[hsz]at hol;have hge:sl+l.toNat≤(Question.appendCap (sl+l.toNat) sc e).cut (w.tape w.drawn (.appendCap (sl+l.toNat) sc e)):=Nat.le_add_right _ _;refine⟨_,lg w.drew (hnew w.heap (old++dQ l.toNat z++dQ ((Question.appendCap (sl+l.toNat) sc e).cut (w.tape w.drawn (.appendCap (sl+l.toNat) sc e))-(sl+l.toNat)) z) e),?_,⟨rfl,rfl,rfl⟩,hk _ hge⟩
  have hzc:(Builtin.zeroCells v.cells ((Question.appendCap (sl+l.toNat) sc e).cut (w.tape w.drawn (.appendCap (sl+l.toNat) sc e))-(sl+l.toNat)))=(dQ ((Question.appendCap (sl+l.toNat) sc e).cut (w.tape w.drawn (.appendCap (sl+l.toNat) sc e))-(sl+l.toNat)) z).toArray:=by
   apply dk;rw[kK,hvc]
  by_cases hs:l.toNat*i.size=0
  ·rw[hz0 hs]at hk⊢
   simp[Builtin.append_,aF (dM ht),aF hu,sizeOf,cZ hi,hai,hw,hl0,h1',hc,h3'',h48',Question.forced,hol,fj hv,lu,hzc,ag,hs];rfl
  ·simp[Builtin.append_,aF (dM ht),aF hu,sizeOf,cZ hi,hai,hw,hl0,h1',hc,h3'',h48',Question.forced,hol,fj hv,lu,hzc,ag,hs,hzn];rfl
theorem EB{t u ty:TypeId}{k0:IntKind}{s x:Value}{K:WK}{w:World}(hu:P.underlying u=some (.int k0))(h:EC P t s x K w.heap):
  Wv P (Builtin.append_ #[t,u] ty #[s,x]) K w:=by
 unfold EC at h;split at h
 ·rename_i e b sl sc k l ht
  split at h
  ·rename_i z hz
   cases hb:bS z.length (cl P e)with
   |false=>rw[hb]at h;exact h.elim
   |true=>
    rw[hb]at h;obtain⟨⟨h0,h1,h2,h3⟩,hk⟩:=h;exact Nt ht hu hz (aY hb) h0 h1 h2 h3 hk
  ·exact h.elim
 ·exact h.elim
theorem lw:∀{a b:List Value},cz a=true→cz b=true→cz (a++b)=true
 | [],_,_,h=>h
 |v::a,b,h,k=>by
  simp only[cz,cH,bd]at h⊢;exact⟨h.1,lw h.2 k⟩
theorem AD{z:List Value}(h:cz z=true):∀n,cz (dQ n z)=true
 |0=>rfl
 |n+1=>by
  have:dQ (n+1) z=z++dQ n z:=by simp[dQ,List.replicate_succ]
  rw[this];exact lw h (AD h n)
theorem H9{t ty:TypeId}{x:Value}{K:WK}{w:World}(h:L3 P t x K w.heap):Wv P (Builtin.clear_ #[t] ty #[x]) K w:=by
 unfold L3 at h;split at h
 ·rename_i e a n c ht
  split at h
  ·rename_i z hz
   obtain⟨v,hv,hvc⟩:=lf hz;cases ho:cz z with
   |false=>rw[ho]at h;exact h.elim
   |true=>
    rw[ho]at h;obtain⟨hw,hk⟩:=h;refine⟨_,_,?_,ff w (gn w.heap a 0 (dQ n z)),hk⟩;cases a with
    |none=>simp[Builtin.clear_,aF (dM ht)];rfl
    |some a=>
     cases n with
     |zero=>simp[Builtin.clear_,aF (dM ht)];rfl
     |succ n=>
      have hst:=ER (P:=P) (AD ho (n+1)) hw;rw[←vd,FS]at hst;have hzc:(Builtin.zeroCells v.cells (n+1)).toList=dQ (n+1) z:=by rw[kK,hvc]
      simp[Builtin.clear_,aF (dM ht),fj hv,hzc,hst,gn]
  ·exact h.elim
 ·exact h.elim
theorem AE:∀(xs:List Value) (n:Nat),cz xs=true→cz (xs.take n)=true
 | [],n,_=>by simp[cz]
 |x::xs,0,_=>by simp[cz]
 |x::xs,n+1,h=>by
  simp only[cz,bd,List.take_succ_cons]at h⊢;exact⟨h.1,AE xs n h.2⟩
theorem Gs(x:ByteArray):cz (eC x)=true:=by
 have:∀l:List UInt8,cz (l.map fun b=>.int .u8 (b.toNat:Int))=true:=by
  intro l;induction l with
  |nil=>rfl
  |cons b l ih=>simp[cz,ih]
 exact this _
theorem JK{t u ty:TypeId}{d s:Value}{K:WK}{w:World}(h:Qu P t d s K w.heap):Wv P (Builtin.copy_ #[t,u] ty #[d,s]) K w:=by
 unfold Qu at h;split at h
 ·rename_i e b dl dc a sl sc ht
  obtain⟨⟨xs,hxs,hw,h1,hk⟩,hz⟩:=qP h;refine⟨_,_,?_,ff w (gn w.heap b 0 xs),hk⟩;have hf:=yq (P:=P) (len:=sl) (cap:=sc) hxs;cases b with
  |none=>simp[Builtin.copy_,aF (dM ht),Builtin.lenOf,hz,hf,goInt];rfl
  |some c=>
   have hst:=ER (P:=P) (m:=0) h1 hw;simp only[Addr.add,if_pos]at hst;simp[Builtin.copy_,aF (dM ht),Builtin.lenOf,hz,hf,goInt,hst,gn]
 ·rename_i e b dl dc x ht
  cases hb:bS (cl P e) 1 with
  |false=>rw[hb]at h;exact h.elim
  |true=>
   rw[hb]at h;have h1:=aY hb;obtain⟨i,hi⟩:=AR (P:=P) (t:=e) (by omega);have hz:(sizeOf e).run P w=.ok (cl P e) w:=by simp[sizeOf,cZ hi,cl,hi]
   obtain⟨hw,hk⟩:=h;have hl:(eC x).length=x.size:=by simp[eC]
   have he:(eC x).take (dZ x.size dl)=(eC x).take dl:=by
    by_cases hx:x.size≤dl
    ·rw[show dZ x.size dl=x.size from Nat.min_eq_left hx,bm (by omega),bm (by omega)]
    ·rw[show dZ x.size dl=dl from Nat.min_eq_right (by omega)]
   have hf:(Builtin.firstCells (cl P e) (dZ x.size dl) (.string x)).run P w=.ok ((eC x).take dl).toArray w:=by
    rw[DB,he]
   refine⟨_,_,?_,ff w (gn w.heap b 0 ((eC x).take dl)),hk⟩;cases b with
   |none=>simp[Builtin.copy_,aF (dM ht),Builtin.lenOf,hz,hf,goInt];rfl
   |some c=>
    have hst:=ER (P:=P) (m:=0) (AE _ dl (Gs x)) hw;simp only[Addr.add,if_pos]at hst;simp[Builtin.copy_,aF (dM ht),Builtin.lenOf,hz,hf,goInt,hst,gn]
 ·exact h.elim
theorem Om(k v:Value)(clock:Nat):∀(es:List MapEntry),(match es.findIdx? (fun e=>iQ k e.key)with
  |some i=>(es.modify i (fun e=>{e with key:=k,val:=v}),clock)
  |none=>(es++ [{key:=k,val:=v,born:=clock}],clock+1))=MA k v clock es
 | []=>rfl
 |e::es=>by
  have ih:=Om k v clock es;simp only[MA,List.findIdx?_cons];cases hk:iQ k e.key with
  |true=>simp[List.modify]
  |false=>
   simp only[gh,if_false];rw[←ih];cases hf:es.findIdx? (fun e=>iQ k e.key)with
   |none=>simp
   |some i=>simp[List.modify]
theorem xN{d:TypeDesc}{c:CK}(hd:qi d c)(x:c.den):∀(es:List MapEntry) (i:Nat),Fj c es→
  Instr.findNow d (c.enc x) es i=some (match es.findIdx? (fun e=>iQ (c.enc x) e.key)with
   |some j=>(es[j]?).map fun e=>(i+j,e.val)
   |none=>none)
 | [],i,_=>rfl
 |e::es,i,h=>by
  obtain⟨y,hy⟩:=h e (by simp);have hs:=Dg hd x y;rw[←hy]at hs;have ih:=xN hd x es (i+1) fun e' he'=>h e' (by simp[he'])
  simp only[Instr.findNow,List.findIdx?_cons,hs];cases hb:iQ (c.enc x) e.key with
  |true=>simp
  |false=>
   simp only[gh,if_false];rw[ih];cases hf:es.findIdx? (fun e=>iQ (c.enc x) e.key)with
   |none=>simp
   |some j=>simp[vi,Nat.add_comm 1 j]
theorem D6{a b:ByteArray}(h:(a==b)=true):a=b:=by
 cases a with|mk a=>cases b with|mk b=>
 have h:(a==b)=true:=h;rw[eq_of_beq h]
theorem FM(a:ByteArray):(a==a)=true:=by
 cases a with|mk a=>
 exact beq_self_eq_true a
theorem Ir{d:TypeDesc}{c:CK}(hd:qi d c)(x y:c.den)(h:iQ (c.enc x) (c.enc y)=true):Instr.sameBits 10000 (c.enc y) (c.enc x)=true:=by
 rcases hd with⟨i,rfl,rfl⟩|⟨rfl,rfl⟩|⟨rfl,rfl⟩
 ·have h:x=y:=eq_of_beq (α:=Int) h
  subst h;have:∀n:Int,(i==i&&n==n)=true:=fun n=>by simp
  exact this x
 ·have h:x=y:=D6 h
  subst h;exact FM x
 ·have h:x=y:=eq_of_beq (α:=Bool) h
  subst h;exact beq_self_eq_true (α:=Bool) x
theorem wn{w:World}{r:Nat}{es:Array MapEntry}{clock:Nat}{o:Obj}(h:w.heap[r]? =some (.map es clock)):(setObj r o).run P w=.ok () (lg w (w.heap.setIfInBounds r o)):=by
 simp only[setObj,Sem.run,h];rfl
theorem MP{t k e:TypeId}{d:TypeDesc}{c:CK}(hu:P.underlying t=some (.map k e))(hk:P.underlying k=some d)(hd:qi d c){r:Nat}{x:c.den}{v:Value}{w:World}(hm:O1 c w.heap r):
  (Instr.mapUpdate t (.map (some r)) (c.enc x) v).run P w=.ok () (lg w (S8 w.heap r (c.enc x) v)):=by
 obtain⟨es,clock,hb,hks⟩:=hm;obtain⟨q,h1,h2,h3⟩:=wE (P:=P) hd hk x hks w;rw[xN hd x es.toList 0 hks]at h2;have hput:=Om (c.enc x) v clock es.toList;have hmp:S8 w.heap r (c.enc x) v=w.heap.setIfInBounds r (.map (MA (c.enc x) v clock es.toList).1.toArray (MA (c.enc x) v clock es.toList).2):=by
  simp only[S8,hb]
 rw[hmp,←hput];simp only[Instr.mapUpdate,Sem.run_bind,aF hu,Result.andThen_ok,mR hb,oI hd hk,h1];cases hf:es.toList.findIdx? (fun e=>iQ (c.enc x) e.key)with
 |none=>
  rw[hf]at h2;simp only[bR.injEq]at h2;subst h2;simp only[wn hb];congr 4
  apply dk;simp
 |some i=>
  rw[hf]at h2;simp only[bR.injEq]at h2;obtain⟨hi,hp,_⟩:=List.findIdx?_eq_some_iff_getElem.1 hf;have he:es.toList[i]? =some es.toList[i]:=ai hi;rw[he]at h2;simp only[l5,aP]at h2;subst h2;have he':es[i]? =some es.toList[i]:=by rw[←bH];exact he
  obtain⟨y,hy⟩:=hks es.toList[i] (List.getElem_mem hi);have hsb:Instr.sameBits 10000 (es.toList[i]).key (c.enc x)=true:=by
   rw[hy]at hp⊢;exact Ir hd x y hp
  simp only[he',l5,Option.getD_some,Instr.keyThatStays,hsb,if_true,Sem.run_bind,Sem.run_pure,Result.andThen_ok,wn hb];congr 4
  apply dk;simp
theorem yR{t:TypeId}{m k v:Value}{K:WK}{w:World}(h:Ee P t m k v K w.heap):Wu P (Instr.mapUpdate t m k v) K w:=by
 unfold Ee at h;split at h
 ·rename_i c e m hc
  obtain⟨kt,d,hu,hk,hd⟩:=xG hc;obtain⟨kx,rfl,r,rfl,hm,hK⟩:=CK.dec_sound h;exact⟨_,MP hu hk hd hm,ff _ _,hK⟩
 ·exact h.elim
theorem Lg(k:Value):∀(es:List MapEntry),(match es.findIdx? (fun e=>iQ k e.key)with
  |some i=>es.eraseIdx i
  |none=>es)=Lh k es
 | []=>rfl
 |e::es=>by
  have ih:=Lg k es;simp only[Lh,List.findIdx?_cons];cases hk:iQ k e.key with
  |true=>simp
  |false=>
   simp only[gh,if_false];rw[←ih];cases hf:es.findIdx? (fun e=>iQ k e.key)<;>simp
theorem KG{t k e ty:TypeId}{ts:Array TypeId}{d:TypeDesc}{c:CK}(ht:ts[0]? =some t) (hu:P.underlying t=some (.map k e)) (hk:P.underlying k=some d) (hd:qi d c) {r:Nat} {x:c.den} {w:World} (hm:O1 c w.heap r):
  (Builtin.delete_ ts ty #[.map (some r),c.enc x]).run P w=.ok (.tuple #[]) (lg w (OB w.heap r (c.enc x))):=by
 obtain⟨es,clock,hb,hks⟩:=hm;obtain⟨q,h1,h2,h3⟩:=wE (P:=P) hd hk x hks w;rw[xN hd x es.toList 0 hks]at h2;have hdrop:=Lg (c.enc x) es.toList;have hmp:OB w.heap r (c.enc x)=w.heap.setIfInBounds r (.map (Lh (c.enc x) es.toList).toArray clock):=by
  simp only[OB,hb]
 rw[hmp,←hdrop];simp only[Builtin.delete_,ht,List.getElem?_toArray,List.getElem?_cons_zero,List.getElem?_cons_succ,Sem.run_bind,aF hu,Result.andThen_ok,mR hb,oI hd hk,h1];cases hf:es.toList.findIdx? (fun e=>iQ (c.enc x) e.key)with
 |none=>
  rw[hf]at h2;simp only[bR.injEq]at h2;subst h2;simp[wn hb]
 |some i=>
  rw[hf]at h2;simp only[bR.injEq]at h2;obtain⟨hi,hp,_⟩:=List.findIdx?_eq_some_iff_getElem.1 hf;have he:es.toList[i]? =some es.toList[i]:=ai hi;rw[he]at h2;simp only[l5,aP]at h2;subst h2;have hi':i<es.size:=by simpa using hi
  have herase:es.eraseIdxIfInBounds i=(es.toList.eraseIdx i).toArray:=by
   apply dk;simp[Array.eraseIdxIfInBounds,hi']
  simp[wn hb,herase]
theorem Ez{t ty:TypeId}{ts:Array TypeId}{m k:Value}{K:WK}{w:World}(ht:ts[0]? =some t) (h:EA P t m k K w.heap):Wv P (Builtin.delete_ ts ty #[m,k]) K w:=by
 unfold EA at h;split at h
 ·rename_i c e m hc
  obtain⟨kt,d,hu,hk,hd⟩:=xG hc;obtain⟨kx,rfl,h⟩:=CK.dec_sound h;rcases h with⟨rfl,hK⟩|⟨r,rfl,hm,hK⟩
  ·refine⟨_,w,?_,Tame.refl w,hK⟩
   simp[Builtin.delete_,ht,aF hu,oI hd hk]
  ·exact⟨_,_,KG ht hu hk hd hm,ff _ _,hK⟩
 ·exact h.elim
theorem Pj{t k e:TypeId}(hu:P.underlying t=some (.map k e)){m:Option Nat}{clock:Nat}{w:World}(hm:m=none∧clock=0∨∃r es,m=some r∧w.heap[r]? =some (.map es clock)):
  (Instr.range t (.map m)).run P w=.ok (.pointer (some (ag w.heap))) (lg w (w.heap.push (.mapIter m clock #[] clock))):=by
 rcases hm with⟨rfl,rfl⟩|⟨r,es,rfl,hb⟩
 ·simp only[Instr.range,Sem.run_bind,aF hu,Result.andThen_ok,Sem.run_pure,E1,ag]
 ·simp only[Instr.range,Sem.run_bind,aF hu,Result.andThen_ok,Sem.run_pure,mR hb,E1,ag]
theorem xA{w:World}{i:Nat}{m:Option Nat}{since:Nat}{seen:Array Nat}{last:Nat}(h:w.heap[i]? =some (.mapIter m since seen last)):(getObj i).run P w=.ok (.mapIter m since seen last) w:=by
 simp only[getObj,Sem.run,h]
theorem J0{w:World}{i:Nat}{m:Option Nat}{since:Nat}{seen:Array Nat}{last:Nat}{o:Obj}(h:w.heap[i]? =some (.mapIter m since seen last)):(setObj i o).run P w=.ok () (lg w (w.heap.setIfInBounds i o)):=by
 simp only[setObj,Sem.run,h];rfl
theorem FI(n:Nat)(hn:0<n)(w:World):∃k w',k<n∧(choose (.mapNext n)).run P w=.ok k w'∧Tame w w'∧w'.heap=w.heap:=by
 unfold choose;simp only[Sem.run];by_cases h:(Question.mapNext n).forced=true
 ·exact⟨0,w,hn,by rw[if_pos h],Tame.refl w,rfl⟩
 ·refine⟨(Question.mapNext n).cut (w.tape w.drawn (.mapNext n)),{w with drawn:=w.drawn+1},Nat.mod_lt _ hn,by rw[if_neg h],⟨rfl,rfl,rfl⟩,rfl⟩
theorem JJ{it:Value}{t:TypeId}{K:WK}{w:World}(h:Qt it K w.heap):Wv P (Instr.next it false t) K w:=by
 unfold Qt at h;split at h
 ·rename_i a
  obtain⟨h0,m,since,seen,last,hi,h⟩:=h;obtain⟨b,off,spot⟩:=a;simp only at h0 hi h;subst h0;rcases h with⟨rfl,hK⟩|⟨r,es,clock,rfl,hb,hnon,hend,hgo⟩
  ·exact⟨_,w,by simp only[Instr.next,Sem.run_bind,xA hi,Result.andThen_ok,Sem.run_pure],Tame.refl w,hK⟩
  ·have hguard:(!seen.isEmpty&& !es.isEmpty&&es.all (fun e=>decide (e.born≥last)))=false:=by
    rcases hnon with h|h|h<;>simp[h]
   obtain⟨left,hleft⟩:∃left,left=es.filter fun e=> !seen.contains e.born:=⟨_,rfl⟩
   obtain⟨old,hold⟩:∃old,old=left.filter (·.born<since):=⟨_,rfl⟩
   obtain⟨new,hnew⟩:∃new,new=left.filter (·.born≥since):=⟨_,rfl⟩
   obtain⟨cand,hcand⟩:∃cand:Array (Option MapEntry),cand=(if old.isEmpty then #[none]else #[])++(old++new).map some:=⟨_,rfl⟩
   have hpos:0<cand.size:=by
    rw[hcand];by_cases ho:old.isEmpty=true
    ·simp[ho];omega
    ·have:old.size≠0:=by simpa using ho
     simp[ho];omega
   obtain⟨k,w1,hk,hrun,ht,hh⟩:=FI (P:=P) cand.size hpos w;obtain⟨c,hc⟩:∃c,cand[k]? =some c:=⟨cand[k],Array.getElem?_eq_getElem hk⟩;have hi1:w1.heap[b]? =some (.mapIter (some r) since seen last):=by rw[hh];exact hi
   have hguard':(!seen.isEmpty&& !es.isEmpty&&es.all fun x=>decide (x.born≥last))=false:=hguard
   cases c with
   |none=>
    refine⟨.tuple #[.bool false],w1,?_,ht,?_⟩
    ·simp only[Instr.next,Sem.run_bind,xA hi,Result.andThen_ok,Sem.run_pure,mR hb,hguard',gh,if_false,←hleft,←hold,←hnew,←hcand,hrun,hc]
    ·rw[hh]
     have hold0:old.isEmpty=true:=by
      have hm:none∈cand:=Array.mem_of_getElem? hc;rw[hcand]at hm;by_cases ho:old.isEmpty=true
      ·exact ho
      ·simp[ho]at hm
     refine hend fun e he hlt=>?_
     cases hs:seen.contains e.born with
     |true=>rfl
     |false=>
      have hmem:e∈old:=by
       rw[hold,hleft];simp only[rk];exact⟨⟨by simpa using he,by rw[hs];rfl⟩,by simpa using hlt⟩
      rw[Array.isEmpty_iff]at hold0;rw[hold0]at hmem;simp at hmem
   |some e=>
    have hmem:e∈es∧seen.contains e.born=false:=by
     have hm:some e∈cand:=Array.mem_of_getElem? hc;have hm2:e∈left:=by
      rw[hcand]at hm;rw[Array.mem_append]at hm;rcases hm with hm|hm
      ·split at hm<;>simp at hm
      ·simp only[Array.mem_map,bR.injEq,exists_eq_right,Array.mem_append]at hm
       rcases hm with hm|hm
       ·rw[hold]at hm;exact(rk.1 hm).1
       ·rw[hnew]at hm;exact(rk.1 hm).1
     rw[hleft]at hm2;have:=rk.1 hm2;exact⟨this.1,by simpa using this.2⟩
    refine⟨.tuple #[.bool true,e.key,e.val],lg w1 (w1.heap.setIfInBounds b (.mapIter (some r) since (seen.push e.born) clock)),?_,ht.trans (ff _ _),?_⟩
    ·simp only[Instr.next,Sem.run_bind,xA hi,Result.andThen_ok,Sem.run_pure,mR hb,hguard',gh,if_false,←hleft,←hold,←hnew,←hcand,hrun,hc,J0 hi1]
    ·rw[hh]
     exact hgo e (by simpa using hmem.1) hmem.2
 ·exact h.elim
theorem Gv{t e:TypeId}{z:List Value}{k k':IntKind}{l c:Int}{w:World}(ht:xb P t=some e)(hz:rW P e=some z)(hzl:z.length=cl P e)(h0:0≤l)(h1:l≤c)(h2:c≤9223372036854775807)(h3:se P e*c≤2^48):
  (Instr.makeSlice t (.int k l) (.int k' c)).run P w=.ok (.slice (some (ag w.heap)) l.toNat c.toNat) (lg w (hnew w.heap (dQ c.toNat z) e)):=by
 obtain⟨v,hv,hvc⟩:=lf hz;obtain⟨i,hi,hiz⟩:=sJ hv;have hsz:cl P e=i.size:=by simp[cl,hi]
 have hby:se P e=i.bytes:=by simp[se,hi]
 have hvs:v.cells.size=i.size:=by rw[←hsz,←hzl,←hvc];simp
 have hl:=BQ h0 (by omega);have hc:=BQ (show 0≤c by omega) h2
 rw[hby]at h3;have c1:¬(c<0):=by omega
 have c2:¬(281474976710656<(i.bytes:Int)*c):=by omega
 have c3:¬(l<0):=by omega
 have c4:¬(c<l):=by omega
 by_cases hz0:c.toNat*i.size=0
 ·have hz1:(dQ c.toNat z).length=0:=by simp[dQ,hzl,hsz,hz0]
  rw[aw.1 hz1];simp[Instr.makeSlice,aF (dM ht),asInt,asIntOf,cZ hi,hl,hc,c1,c2,c3,c4,sizeOf,hz0,lu]
 ·have hrow:((Array.range (c.toNat*i.size)).map (fun j=>v.cells[j%v.cells.size]!))=(dQ c.toNat z).toArray:=by
   rw[←hvs,NY,hvc]
  have key:(newRow e ((Array.range (c.toNat*i.size)).map (fun j=>v.cells[j%v.cells.size]!))).run P w=.ok (ag w.heap) (lg w (hnew w.heap (dQ c.toNat z) e)):=by
   rw[hrow,lu]
  simp[Instr.makeSlice,aF (dM ht),asInt,asIntOf,cZ hi,hl,hc,c1,c2,c3,c4,sizeOf,hz0,fj hv];rw[key];rfl
theorem Agree.args{N:Nat}{r:cI}{a:Act}(h:Agree N r a){os:Array Operand}{vs:List Value}(hv:rZ r os.toList=some vs):os.map a.eval=vs.toArray:=by
 rw[←pU h hv];apply dk;simp
theorem HC.out{f:FuncId}{args:List Value}{ks:List Kind}{K:WK}{w:World}(h:HC P f args ks (fun x h'=>K (E5 ks (oH ks x)) h') w.heap):Lp P (callFunc f args.toArray) K w:=by
 rcases h.run w rfl with⟨h1,h2⟩|⟨v,w',h1,ht,x,rfl,hk⟩
 ·refine .inr (.inr (.inl ⟨f,args.toArray,h1,h2.mono ?_⟩))
  rintro e w' ⟨ht,x,rfl,hk⟩;exact⟨ht,_,rfl,hk⟩
 ·exact .inl ⟨_,w',h1,ht,hk⟩
theorem PY{src dst e:TypeId}{s:ByteArray}{w:World}(hs:P.underlying src=some .string)(hd:P.underlying dst=some (.slice e))(he:P.underlying e=some (.int .u8)):
  ∃c,s.size≤c∧(convert src dst (.string s)).run P w=.ok (.slice (some (ag w.heap)) s.size c) (lg w.drew (w.heap.push (.cells (eC s++kT (c-s.size) (Value.int .u8 0)).toArray e (c,c+1)))):=by
 have hge:s.size≤grownCap w s.size 0 e:=Nat.le_add_right _ _;refine⟨_,hge,?_⟩;rw[Go.Lib.run_convert_string_bytes w src dst e s hs hd he];have hc:(Go.Lib.bytesCells w e s).size=grownCap w s.size 0 e:=by
  unfold Go.Lib.bytesCells;rw[Array.size_append,Array.size_map,Array.size_replicate,show s.data.size=s.size from rfl]
  omega
 have hcl:(eC s++kT (grownCap w s.size 0 e-s.size) (Value.int .u8 0)).toArray=Go.Lib.bytesCells w e s:=by
  unfold Go.Lib.bytesCells eC;apply dk;simp
 rw[hcl];unfold Go.Lib.bytesWorld World.freeze;rw[if_neg (by omega),hc];unfold World.alloc World.drew lg;congr 1
 congr 1
 apply Array.ext (by simp);intro i h1 h2;rw[Array.getElem_modify];simp only[Array.getElem_push];split
 ·rename_i e
  subst e;simp
 ·rename_i e
  have hi:i<w.heap.size:=by simp at h2;omega
  rw[dif_pos hi,dif_pos hi]
theorem BS{o:Oper}{r:cI}{K:WK}{w:World}{N:Nat}{a:Act}(ha:Agree N r a)(hq:Gi P o r K w.heap):Lp P (execOp a.eval o) K w:=by
 have ev:∀{x:Operand} {v:Value},dJ r x=some v→a.eval x=v:=fun h=>mS ha h
 obtain⟨dst,op,type,pg,after,guard⟩:=o;cases op with
 |alloc t=>
  simp only[Gi]at hq;split at hq
  ·rename_i z hz
   obtain⟨v,hv,hvc⟩:=lf hz;have he:(Instr.alloc t true (.tuple #[])).run P w=.ok (.pointer (some (ag w.heap))) (lg w (hnew w.heap z t)):=by
    simp[Instr.alloc,fj hv,newVar,lu,hvc]
   exact Wv.out ⟨_,_,he,ff _ _,hq⟩
  ·exact hq.elim
 |box t x=>
  simp only[Gi]at hq;split at hq
  ·rename_i v hv
   have he:(Instr.box t v).run P w=.ok (.pointer (some (ag w.heap))) (lg w (hnew w.heap v.cells.toList t)):=by
    simp[Instr.box,newVar,lu]
   simp only[execOp,ev hv];exact Wv.out ⟨_,_,he,ff _ _,hq⟩
  ·exact hq.elim
 |build t ps=>
  simp only[Gi]at hq;split at hq
  ·rename_i vs hvs
   split at hq
   ·rename_i cs hcs
    have hp:(ps.map fun x=>(x.1,a.eval x.2))=vs.toArray:=by
     rw[←pW ha hvs];apply dk;simp
    have he:=A6 (ps:=vs.toArray) (by simpa using hcs) w;simp only[execOp];rw[show(ps.map fun(i,x)=>(i,a.eval x))=vs.toArray from hp]
    exact Wv.out ⟨_,w,he,Tame.refl w,hq⟩
   ·exact hq.elim
  ·exact hq.elim
 |buildSlice t n ps=>
  simp only[Gi]at hq;split at hq
  ·rename_i e vs ht hvs
   split at hq
   ·rename_i z hz
    cases hb:(yD (n*cl P e) 16777216&&bS z.length (cl P e))with
    |false=>rw[hb]at hq;exact hq.elim
    |true=>
     rw[hb]at hq;simp only[bd]at hb;simp only[cond_true]at hq;split at hq
     ·rename_i cs hcs
      have hp:(ps.map fun x=>(x.1,a.eval x.2))=vs.toArray:=by
       rw[←pW ha hvs];apply dk;simp
      have he:=Cw (ps:=vs.toArray) ht hz (jG hb.1) (aY hb.2) (by simpa using hcs) w;simp only[execOp];rw[show(ps.map fun(i,x)=>(i,a.eval x))=vs.toArray from hp]
      exact Wv.out ⟨_,_,he,ff _ _,hq⟩
     ·exact hq.elim
   ·exact hq.elim
  ·exact hq.elim
 |store t x y=>
  simp only[Gi]at hq;split at hq
  ·rename_i b v hb hv
   simp only[execOp,ev hb,ev hv];exact Wu.out (H8 hq)
  ·exact hq.elim
 |mapUpdate t m k x=>
  simp only[Gi]at hq;split at hq
  ·rename_i mv kv xv hm hk hx
   simp only[execOp,ev hm,ev hk,ev hx];exact Wu.out (yR hq)
  ·exact hq.elim
 |insert t m k x=>
  simp only[Gi]at hq;split at hq
  ·rename_i mv kv xv hm hk hx
   simp only[execOp,ev hm,ev hk,ev hx];exact Wu.out (yR hq)
  ·exact hq.elim
 |makeMap t n=>
  simp only[Gi]at hq;cases n with
  |none=>exact Wv.out ⟨_,lg w (w.heap.push (.map #[] 0)),by simp[Instr.makeMap];rfl,ff _ _,hq⟩
  |some n=>
   simp only at hq;split at hq
   ·rename_i k i hn ht
    exact Wv.out ⟨_,lg w (w.heap.push (.map #[] 0)),by simp[Instr.makeMap,ev hn,aF ht,asInt,asIntOf];rfl,ff _ _,hq⟩
   ·exact hq.elim
 |makeSlice t l c=>
  simp only[Gi]at hq;split at hq
  ·rename_i e k l' k' c' ht hl hc
   split at hq
   ·rename_i z hz
    cases hb:bS z.length (cl P e)with
    |false=>rw[hb]at hq;exact hq.elim
    |true=>
     rw[hb]at hq;obtain⟨⟨h0,h1,h2,h3⟩,hq⟩:=hq;simp only[execOp,ev hl,ev hc];exact Wv.out ⟨_,_,Gv ht hz (aY hb) h0 h1 h2 h3,ff _ _,hq⟩
   ·exact hq.elim
  ·exact hq.elim
 |convert s d x=>
  simp only[Gi]at hq;split at hq
  ·rename_i e v hs hd hx
   cases hu:M0 P e with
   |false=>rw[hu]at hq;exact hq.elim
   |true=>
    rw[hu]at hq;obtain⟨c,hc,hrun⟩:=PY (w:=w) (s:=v) hs hd (Fm hu);simp only[execOp,ev hx];exact Wv.out ⟨_,_,hrun,⟨rfl,rfl,rfl⟩,hq c hc⟩
  ·exact hq.elim
 |range t x=>
  simp only[Gi]at hq;split at hq
  ·rename_i k e m hu hx
   obtain⟨clock,hm,hq⟩:=hq;simp only[execOp,ev hx];exact Wv.out ⟨_,_,Pj hu hm,ff _ _,hq⟩
  ·exact hq.elim
 |next it isS=>
  cases isS with
  |true=>simp only[Gi]at hq
  |false=>
   simp only[Gi]at hq;split at hq
   ·rename_i v hv
    simp only[execOp,ev hv];exact Wv.out (JJ hq)
   ·exact hq.elim
 |call c=>
  simp only[Gi]at hq;have eb:∀{b:Builtin} {vs:List Value},c.callee=.builtin b→rZ r c.args.toList=some vs→∃cs:Array Bool,∀w,(execOp a.eval ⟨dst,.call c,type,pg,after,guard⟩).run P w=
    (builtin b c.argTypes type cs vs.toArray).run P w:=by
   intro b vs hc hvs;refine⟨c.args.map fun| .const _=>true|_=>false,fun w=>?_⟩
   simp[execOp,resolve,hc,ha.args hvs,invoke];rfl
  have wo:∀{s s':Sem Next},(∀w,s.run P w=s'.run P w)→Lp P s' K w→Lp P s K w:=by
   intro s s' he h;unfold Lp at h⊢;simp only[he];exact h
  split at hq
  ·rename_i s x hc hvs
   split at hq
   ·rename_i t u hat
    obtain⟨cs,er⟩:=eb hc hvs;refine wo er ?_;have hat':c.argTypes= #[t,u]:=by apply dk;rw[hat]
    simp only[builtin,hat'];split at hq
    ·rename_i e' hu;exact Wv.out (yS (.inl ⟨e',hu⟩) hq)
    ·rename_i hu;exact Wv.out (yS (.inr hu) hq)
    ·rename_i k0 hu;exact Wv.out (EB hu hq)
    ·exact hq.elim
   ·exact hq.elim
  ·rename_i x hc hvs
   split at hq
   ·rename_i t hat
    obtain⟨cs,er⟩:=eb hc hvs;refine wo er ?_;have hat':c.argTypes= #[t]:=by apply dk;rw[hat]
    simp only[builtin,hat'];exact Wv.out (H9 hq)
   ·exact hq.elim
  ·rename_i s x hc hvs
   split at hq
   ·rename_i t u hat
    obtain⟨cs,er⟩:=eb hc hvs;refine wo er ?_;have hat':c.argTypes= #[t,u]:=by apply dk;rw[hat]
    simp only[builtin,hat'];exact Wv.out (JK hq)
   ·exact hq.elim
  ·rename_i m k hc hvs
   split at hq
   ·rename_i t u hat
    obtain⟨cs,er⟩:=eb hc hvs;refine wo er ?_;simp only[builtin];exact Wv.out (Ez (by rw[←bH,hat];rfl) hq)
   ·exact hq.elim
  ·rename_i f args hc hvs
   unfold TD at hq;split at hq
   ·exact hq.elim
   ·rename_i ks hks
    split at hq
    ·rename_i f
     refine wo (s':=callFunc f args.toArray) (fun w=>?_) hq.out
     simp[execOp,resolve,hc,ha.args hvs,Act.eval,Deferred.ofValue,invoke]
    ·rename_i f hf
     split at hq
     ·rename_i fv hfv
      rcases hq.run with⟨g,first,cap,rfl,hh⟩|⟨l,rfl,hh⟩
      rotate_left
      ·obtain⟨fn,tmps,assign,body,h1,h2⟩:=hh.run w rfl
       refine .inr (.inr (.inr ⟨l,fn,tmps,assign,body,?_,fun c cs=>?_⟩))
       ·rw[←h1]
        simp[execOp,resolve,hc,ha.args hvs,ev hfv,Deferred.ofValue,invoke]
       ·obtain⟨b,w',ht,hk,hs⟩:=h2 c cs
        refine⟨b,w',ht,?_,hs⟩;obtain⟨t,e,hk⟩:=tx hk;have hl:ks.length=1:=by rw[←ul ks t,←e];rfl
        match ks,hl,t,e,hk with
        | [k],_,t,e,hk=>rw[←e]at hk;exact hk
      refine wo (s':=callFunc g (first.toList++args++cap.toList).toArray) (fun w=>?_) hh.out
      have e:first++args.toArray++cap=(first.toList++args++cap.toList).toArray:=by apply dk;simp
      rw[←e];simp[execOp,resolve,hc,ha.args hvs,ev hfv,Deferred.ofValue,invoke]
     ·exact hq.elim
  ·exact hq.elim
 |_=>simp only[Gi]at hq
end Go.Lift
