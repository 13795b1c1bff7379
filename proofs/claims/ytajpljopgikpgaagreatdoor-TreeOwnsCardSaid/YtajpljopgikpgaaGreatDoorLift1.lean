/- A part of the proof that the named laws of this program answer true, whatever the input. -/
import Derived.Test.YtajpljopgikpgaaGreatDoorLift0
import Derived.Laws.Append
import Derived.Laws.Cover3
import Derived.Laws.StructEq
import Derived.Laws.BytesString
import Derived.Lib.ConvBytes
open Array renaming ext'→de,getElem?_toList→bJ,mem_of_getElem?→pB,mem_filter→pV
open Bool renaming and_eq_true→bE,false_eq_true→dB
open ByteArray renaming data_extract→pq
open List renaming extract_eq_take_drop→gJ,map_cons→cn,foldl_cons→qO,map_map→ry,take_of_length_le→bv,length_cons→az,cons_append→dN,replicate→dT,length_eq_zero_iff→aF,getElem?_eq_getElem→af
open Nat renaming beq→bN,add_assoc→jJ,ble→xE,eq_of_beq_eq_true→aZ,le_of_ble_eq_true→jg,add_zero→cW,zero_add→aI,le_add_right→pT,min→dZ
open Option renaming some→bA,isSome_iff_exists→dU,map_some→gD
open Prod renaming mk→qe
open UInt8 renaming ofNat→gd
namespace Go.Lift
open Go
def Su(S:Option (ae→Prop))(h:ae):Prop:=match S with|none=>True|some f=>f h
def Yv(P:Program)(s:Sem Value)(K:RK)(h:ae):Prop:=∃v S,K v S∧Su S h∧∀w:World,Su S w.heap→s.run P w=.ok v w
theorem Yv.of_pure{P:Program}{s:Sem Value}{K:RK}{h:ae}{v:Value}(a:K v none)(b:∀w:World,s.run P w=.ok v w):Yv P s K h:=
 ⟨v,none,a,trivial,fun w _=>b w⟩
variable {P:Program}
theorem wH{t:TypeId}{f:Nat}{u:TypeId}{off:Nat}(h:wI P t f=some (u,off)):
  ∃fs g,P.underlying t=some (.struct fs)∧fs[f]? =some g∧g.type=u∧g.offset=off:=by
 unfold wI at h;split at h
 ·rename_i fs hu
  split at h
  ·rename_i g hg
   simp only[bA.injEq,qe.injEq]at h;exact⟨fs,g,hu,by simpa using hg,h.1,h.2⟩
  ·cases h
 ·cases h
theorem yA{t:TypeId}(h:bN (ce P t) 0=false)(w:World):(sizeOf t).run P w=.ok (ce P t) w:=by
 unfold ce at h⊢;cases hi:P.info? t with
 |none=>rw[hi]at h;cases h
 |some i=>simp[sizeOf,cT hi]
theorem CU{t:TypeId}{f:Nat}{u:TypeId}{off:Nat}{a:Addr}{K:RK}{h:ae}(j:wI P t f=some (u,off))
  (b:bif bN (ce P u) 0 then False else K (.pointer (some (adr a off))) none):Yv P (Instr.fieldAt t (.pointer (some a)) f) K h:=by
 obtain⟨k,g,i,d,rfl,rfl⟩:=wH j;cases hz:bN (ce P g.type) 0 with
 |true=>rw[hz]at b;exact b.elim
 |false=>
  rw[hz]at b;refine .of_pure b fun w=>?_
  have c:ce P g.type≠0:=fun e=>by rw[e]at hz;cases hz
  simp only[Instr.fieldAt,Sem.run_bind,aA i,Result.andThen_ok,d,Instr.sureAddr,Sem.run_pure,fieldPlace,yA hz];simp[c,uh]
theorem vD{t:TypeId}{i:TypeInfo}(_:P.info? t=some i)(a:∃d,P.underlying t=some d)(w:World):(isAgg t).run P w=.ok (vE P t) w:=by
 obtain⟨d,hd⟩:=a;simp only[isAgg,Sem.run_bind,aA hd,Result.andThen_ok];unfold vE;rw[hd];cases d<;>rfl
theorem zO{c:BinOp}{k k':IntKind}{a b:Int}{K:RK}{h:ae}(f:c=.shl∨c=.shr)(hv:LK c k a b K):Yv P (Op.shift c k a k' b) K h:=by
 rcases f with rfl|rfl
 ·obtain⟨d,e⟩:=hv
  refine .of_pure e fun w=>?_
  simp[Op.shift,Int.not_lt.2 d]
 ·obtain⟨d,e⟩:=hv
  refine .of_pure e fun w=>?_
  simp[Op.shift,Int.not_lt.2 d]
theorem Mx{c:BinOp}{k:IntKind}{a b:Int}{K:RK}{h:ae}(hv:U8 c k a b K)(f:c≠ .shl∧c≠ .shr):Yv P (binOp c 0 (.int k a) (.int k b)) K h:=by
 cases c<;>simp only[U8]at hv
 case quo=>obtain⟨d,e⟩:=hv;exact .of_pure e fun w=>by simp[binOp,Op.intDiv,d]
 case rem=>obtain⟨d,e⟩:=hv;exact .of_pure e fun w=>by simp[binOp,Op.intDiv,d]
 all_goals exact .of_pure hv fun w=>by simp[binOp,Op.intArith,Op.intBits,Op.intCmp]
theorem EO(c:BinOp)(t:TypeId)(k k':IntKind)(a b:Int):binOp c t (.int k a) (.int k' b)=binOp c 0 (.int k a) (.int k' b):=by
 cases c<;>rfl
theorem LF{c:BinOp}{t:TypeId}{a b:ByteArray}{K:RK}{h:ae}(hv:UM c a b K):Yv P (binOp c t (.string a) (.string b)) K h:=by
 cases c<;>simp only[UM]at hv
 case add=>
  obtain⟨e,d⟩:=hv;refine .of_pure d fun w=>?_
  have:¬(((a.size+b.size:Nat):Int)>IntKind.i64.max):=by
   have:IntKind.i64.max=9223372036854775807:=by decide
   omega
  simp only[binOp,Op.stringOp,if_neg this,Sem.run_pure]
 all_goals exact .of_pure hv fun w=>by simp[binOp,Op.stringOp]
theorem qr{t:TypeId}{x y:Value}{b:Bool}{w:World}(h:∀d,(Op.equalIn (d+1) t x y).run P w=.ok b w):(Op.equal t x y).run P w=.ok b w:=h 9999
theorem EC{t:TypeId}{e:TypeId}(b:P.underlying t=some (.pointer e))(a:Option Addr)(w:World):(Op.equal t (.pointer a) (.pointer none)).run P w=.ok a.isNone w:=by
 refine qr fun d=>?_
 simp only[Op.equalIn,Sem.run_bind,aA b,Result.andThen_ok];cases a<;>rfl
theorem MK(e:BinOp)(t:TypeId)(x y:Operand)(a b:Value)(h:∀c d,a=.agg c→b=.agg d→False)(hi:a=.nilIface→b=.nilIface→False)(w:World):
  (eqGuard e t x y a b).run P w=.ok () w:=by
 cases e;case eql=>cases a<;>cases b<;>first|rfl|exact(hi rfl rfl).elim|exact(h _ _ rfl rfl).elim
 case neq=>cases a<;>cases b<;>first|rfl|exact(hi rfl rfl).elim|exact(h _ _ rfl rfl).elim
 all_goals rfl
theorem PP(t:TypeId)(x y:Value)(hx:∀k a,x≠ .int k a)(d:∀s,x≠ .string s)(c:∀k a,x≠ .float k a)(hc:∀k a b,x≠ .complex k a b):binOp .eql t x y=(do pure (.bool (←Op.equal t x y))):=by
 cases x<;>first|rfl|exact absurd rfl (hx _ _)|exact absurd rfl (d _)|exact absurd rfl (c _ _)|exact absurd rfl (hc _ _ _)
theorem PO(t:TypeId)(x y:Value)(hx:∀k a,x≠ .int k a)(d:∀s,x≠ .string s)(c:∀k a,x≠ .float k a)(hc:∀k a b,x≠ .complex k a b):binOp .neq t x y=(do pure (.bool (!(←Op.equal t x y)))):=by
 cases x<;>first|rfl|exact absurd rfl (hx _ _)|exact absurd rfl (d _)|exact absurd rfl (c _ _)|exact absurd rfl (hc _ _ _)
theorem qs{t:TypeId}{neg:Bool}{x y:Value}{b:Bool}{w:World}(e:(Op.equal t x y).run P w=.ok b w)
  (hx:∀k a,x≠ .int k a)(c:∀s,x≠ .string s)(d:∀k a,x≠ .float k a)(hc:∀k a b,x≠ .complex k a b):
  (binOp (bif neg then .neq else .eql) t x y).run P w=.ok (.bool (bif neg then !b else b)) w:=by
 cases neg
 ·simp only[cond_false,PP t x y hx c d hc,Sem.run_bind,e,Result.andThen_ok,Sem.run_pure]
 ·simp only[cond_true,PO t x y hx c d hc,Sem.run_bind,e,Result.andThen_ok,Sem.run_pure]
theorem Eg{t:TypeId}{neg:Bool}{x y:Value}{K:RK}{h:ae}(hv:TB P t neg x y K):
  (∀c d,x=.agg c→y=.agg d→False)∧(x=.nilIface→y=.nilIface→False)∧Yv P (binOp (bif neg then .neq else .eql) t x y) K h:=by
 unfold TB at hv;split at hv
 ·rename_i e a hu
  refine⟨nofun,nofun,.of_pure hv fun w=>?_⟩
  exact qs (EC hu a w) nofun nofun nofun nofun
 ·rename_i k e a hu
  refine⟨nofun,nofun,.of_pure hv fun w=>?_⟩
  refine qs ?_ nofun nofun nofun nofun;refine qr fun d=>?_
  simp only[Op.equalIn,Sem.run_bind,aA hu,Result.andThen_ok];cases a<;>rfl
 ·rename_i e a _ _ _ _ hu
  refine⟨nofun,nofun,.of_pure hv fun w=>?_⟩
  refine qs ?_ nofun nofun nofun nofun;refine qr fun d=>?_
  simp only[Op.equalIn,Sem.run_bind,aA hu,Result.andThen_ok];cases a<;>rfl
 ·exact hv.elim
theorem wn{w:World}{a b:Addr}(d:eY w.heap a)(f:eY w.heap b):(sameAddr a b).run P w=.ok (a==b) w:=by
 obtain⟨g,v,d,x⟩:=d;obtain⟨cb,q,f,sb⟩:=f;by_cases c:a.block=b.block
 ·simp[sameAddr,c]
 ·have i:(a==b)=false:=by
   rw[beq_eq_false_iff_ne];intro e;exact c (by rw[e])
  have p:w.shape? a.block=some (v,g.size):=by simp[World.shape?,d]
  have u:w.shape? b.block=some (q,cb.size):=by simp[World.shape?,f]
  have k:∀n,w.frozen? ({block:=a.block,off:=n}:Addr)=false:=fun n=>by simp[World.frozen?,d]
  have s:∀n,w.frozen? ({block:=b.block,off:=n}:Addr)=false:=fun n=>by simp[World.frozen?,f]
  have t:w.frozen? a=false:=by simp[World.frozen?,d]
  have j:w.frozen? b=false:=by simp[World.frozen?,f]
  obtain⟨m,hm⟩:∃m,g.size=m+1:=⟨g.size-1,by omega⟩
  obtain⟨n,o⟩:∃n,cb.size=n+1:=⟨cb.size-1,by omega⟩
  simp[sameAddr,c,noView,viewAt,mayBeOne,stringish,p,u,k,s,t,j,hm,o,i]
theorem BM{t:TypeId}{neg:Bool}{x y:Value}{K:RK}{h:ae}(hv:Ut P t neg x y K h):
  (∀c d,x=.agg c→y=.agg d→False)∧(x=.nilIface→y=.nilIface→False)∧Yv P (binOp (bif neg then .neq else .eql) t x y) K h:=by
 unfold Ut at hv;split at hv
 ·rename_i a b hu
  refine⟨nofun,nofun,.of_pure hv fun w=>?_⟩
  refine qs ?_ nofun nofun nofun nofun;refine qr fun d=>?_
  simp only[Op.equalIn,Sem.run_bind,aA hu,Result.andThen_ok,Sem.run_pure]
 ·rename_i e a b hu
  obtain⟨hz,k,n⟩:=hv;refine⟨nofun,nofun,_,_,n,k,fun w m=>?_⟩
  refine qs ?_ nofun nofun nofun nofun;have f:bN (ce P e) 0=false:=by
   cases hb:bN (ce P e) 0 with
   |false=>rfl
   |true=>rw[hb]at hz;exact hz.elim
  have g:ce P e≠0:=fun e=>by rw[e]at f;cases f
  refine qr fun d=>?_
  simp only[Op.equalIn,Sem.run_bind,aA hu,Result.andThen_ok];cases a with
  |none=>cases b<;>rfl
  |some a=>cases b with
   |none=>rfl
   |some b=>
    obtain⟨j,i⟩:=m a b rfl rfl;simp only[Sem.run_bind,yA f,Result.andThen_ok,ne_eq,g,not_false_eq_true,if_true,wn j i];rfl
 ·exact hv.elim
theorem L4{e:BinOp}{t:TypeId}{x y:Value}{K:RK}{h:ae}(hv:UT P e t x y K h):
  (∀c d,x=.agg c→y=.agg d→False)∧(x=.nilIface→y=.nilIface→False)∧Yv P (binOp e t x y) K h:=by
 unfold UT at hv;split at hv
 ·rename_i k a k' b
  refine⟨nofun,nofun,?_⟩;rw[EO];split at hv
  ·exact zO (k':=k') (.inl rfl) hv
  ·exact zO (k':=k') (.inr rfl) hv
  ·rename_i h1 h2
   cases hk:H6 k' k with
   |false=>rw[hk]at hv;exact hv.elim
   |true=>rw[hk]at hv;have:=Ad hk;subst this;exact Mx hv ⟨h1,h2⟩
 ·exact⟨nofun,nofun,LF hv⟩
 ·split at hv
  ·exact BM (neg:=false) hv
  ·exact BM (neg:=true) hv
  ·exact hv.elim
theorem JX{u:TypeId}{cs:List Value}{off:Nat}(a:((P.underlying u).isSome&&(P.info? u).isSome)=true){w:World}(b:vE P u=true):
  (part u cs.toArray off).run P w=.ok (.agg ((cs.drop off).take (ce P u)).toArray) w:=by
 simp only[bE,dU]at a;obtain⟨a,i,hi⟩:=a;have c:(sizeOf u).run P w=.ok (ce P u) w:=by simp[sizeOf,cT hi,ce,hi]
 simp only[part,Sem.run_bind,vD hi a,Result.andThen_ok,b,if_true,c,Sem.run_pure];congr 2
 apply de;simp[gJ]
theorem GE{u:TypeId}{cs:List Value}{off:Nat}(a:((P.underlying u).isSome&&(P.info? u).isSome)=true){w:World}(c:vE P u=false){v:Value}(hc:cs[off]? =some v):
  (part u cs.toArray off).run P w=.ok v w:=by
 simp only[bE,dU]at a;obtain⟨a,i,hi⟩:=a;have b:cs.toArray[off]? =some v:=by simpa using hc
 simp only[part,Sem.run_bind,vD hi a,Result.andThen_ok,c,dB,if_false,b,Sem.run_pure]
theorem yG{h:ae}:∀{l m:List (Option Addr×Option Addr)},rG h (l++m)→rG h l∧rG h m
 | [],_,h=>⟨trivial,h⟩
 |(_,_)::_,_,h=>⟨⟨h.1,(yG h.2).1⟩,(yG h.2).2⟩
theorem Kz{t:TypeId}{x y:Value}{b:Bool}{l:List (Option Addr×Option Addr)}(f:RA P t x y=some (b,l)){w:World}(m:rG w.heap l)(d:Nat):
  (Op.equalIn (d+1) t x y).run P w=.ok b w:=by
 unfold RA at f;split at f
 ·rename_i k0 k a k' c hu
  cases hk:H6 k' k with
  |false=>rw[hk]at f;cases f
  |true=>
   rw[hk]at f;have:=Ad hk;subst this;cases f;exact run_equalIn_int w d t _ _ _ _ hu
 ·rename_i a c hu
  cases f;exact run_equalIn_bool w d t _ _ hu
 ·rename_i a c hu
  cases f;exact run_equalIn_string w d t _ _ hu
 ·rename_i e a c hu
  cases hz:bN (ce P e) 0 with
  |true=>rw[hz]at f;cases f
  |false=>
   rw[hz]at f;cases f;have g:ce P e≠0:=fun e=>by rw[e]at hz;cases hz
   simp only[Op.equalIn,Sem.run_bind,aA hu,Result.andThen_ok];cases a with
   |none=>cases c<;>rfl
   |some a=>cases c with
    |none=>rfl
    |some c=>
     obtain⟨j,i⟩:=m.1 a c rfl rfl;simp only[Sem.run_bind,yA hz,Result.andThen_ok,ne_eq,g,not_false_eq_true,if_true,wn j i];rfl
 ·cases f
theorem ED{rec:TypeId→List Value→List Value→Option (Bool×List (Option Addr×Option Addr))}{d:Nat}{xs ys:List Value}{w:World}
  (g:∀t us vs b l,rec t us vs=some (b,l)→rG w.heap l→(Op.equalIn (d+1) t (.agg us.toArray) (.agg vs.toArray)).run P w=.ok b w):
  ∀(fs:List Field) (b:Bool) (l:List (Option Addr×Option Addr)),TS P rec xs ys fs=some (b,l)→rG w.heap l→(Op.eqFields (d+1) xs.toArray ys.toArray fs).run P w=.ok b w
 | [],b,l,he,_=>by cases he;rfl
 |f::fs,b,l,he,hp=>by
  unfold TS at he;split at he
  ·cases he
  ·rename_i hn
   cases hi:((P.underlying f.type).isSome&&(P.info? f.type).isSome)with
   |false=>rw[hi]at he;cases he
   |true=>
    rw[hi]at he;simp only[cond_true]at he;split at he
    ·rename_i b1 l1 c m e1 e2
     cases he;obtain⟨e,o⟩:=yG hp;have a:=ED g fs c m e2 o;have k:∃u v,(part f.type xs.toArray f.offset).run P w=.ok u w∧(part f.type ys.toArray f.offset).run P w=.ok v w∧(Op.equalIn (d+1) f.type u v).run P w=.ok b1 w:=by
      cases ha:vE P f.type with
      |true=>
       rw[ha]at e1;exact⟨_,_,JX hi ha,JX hi ha,g _ _ _ _ _ e1 e⟩
      |false=>
       rw[ha]at e1;simp only[cond_false]at e1;split at e1
       ·rename_i x y hx hy
        exact⟨x,y,GE hi ha hx,GE hi ha hy,Kz e1 e d⟩
       ·cases e1
     obtain⟨u,v,n,j,i⟩:=k;simp only[Op.eqFields,ne_eq,hn,not_false_eq_true,if_true,Sem.run_bind,n,j,i,Result.andThen_ok];cases b1
     ·rfl
     ·exact a
    ·cases he
theorem yV{w:World}:∀(m:Nat) (t:TypeId) (xs ys:List Value) (b:Bool) (l:List (Option Addr×Option Addr)),RB P m t xs ys=some (b,l)→rG w.heap l→
  ∀d,(Op.equalIn (d+m+1) t (.agg xs.toArray) (.agg ys.toArray)).run P w=.ok b w
 |0,_,_,_,_,_,he,_,_=>by cases he
 |m+1,t,xs,ys,b,l,he,hp,d=>by
  unfold RB at he;split at he
  ·rename_i fs hu
   cases hs:P.stoodInHeld t with
   |true=>rw[hs]at he;cases he
   |false=>
    rw[hs]at he;have a:P.fieldsOf t=fs:=by simp[Program.fieldsOf,hu]
    rw[run_equalIn_struct w _ t _ _ (by rw[a];exact hu) hs,a];exact ED (d:=d+m) (fun t e vs b l f c=>yV m t e vs b l f c d) fs.toList b l he hp
  ·cases he
theorem GZ{neg b:Bool}{K:RK}{h:ae}{l:List (Option Addr×Option Addr)}(a:W8 neg b K h l):∃S,K (.bool (bif neg then !b else b)) S∧Su S h∧∀h',Su S h'→rG h' l:=by
 cases l with
 |nil=>exact⟨none,a,trivial,fun _ _=>trivial⟩
 |cons p l=>exact⟨_,a.2,a.1,fun _ h=>h⟩
theorem L5{g:BinOp}{t:TypeId}{xs ys:Array Value}{x y:Operand}{K:RK}{h:ae}(a:UV P g t xs.toList ys.toList K h):
  ∃v S,K v S∧Su S h∧∀w:World,Su S w.heap→(do eqGuard g t x y (.agg xs) (.agg ys);binOp g t (.agg xs) (.agg ys):Sem Value).run P w=.ok v w:=by
 unfold UV at a;cases hg:P.eqGuardType P.depth t with
 |true=>rw[hg]at a;exact a.elim
 |false=>
  rw[hg]at a;simp only[cond_false]at a;split at a
  ·split at a
   ·rename_i b l he
    obtain⟨S,d,c,e⟩:=GZ a;refine⟨_,S,d,c,fun w f=>?_⟩
    have:=yV 10 t _ _ b l he (e _ f) 9989;simp only[Array.toArray_toList]at this;simp only[Sem.run_bind,run_eqGuard_agg w _ t x y _ _ hg,Result.andThen_ok,run_eql_struct,this];rfl
   ·exact a.elim
  ·split at a
   ·rename_i b l he
    obtain⟨S,d,c,e⟩:=GZ a;refine⟨_,S,d,c,fun w f=>?_⟩
    have:=yV 10 t _ _ b l he (e _ f) 9989;simp only[Array.toArray_toList]at this;simp only[Sem.run_bind,run_eqGuard_agg w _ t x y _ _ hg,Result.andThen_ok,run_neq_struct,this];rfl
   ·exact a.elim
  ·exact a.elim
theorem Pe{a:UnOp}{x:Value}{K:RK}{h:ae}(hv:WR a x K):Yv P (Op.unary a x) K h:=by
 unfold WR at hv;split at hv
 ·exact .of_pure hv fun w=>rfl
 ·exact .of_pure hv fun w=>rfl
 ·exact .of_pure hv fun w=>rfl
 ·exact hv.elim
theorem EK:∀(l:List UInt8) (s:ByteArray),(l.map fun b=>((b.toNat:Nat):Int)).foldl (fun r n=>r.push (gd n.toNat)) s=⟨s.data++l.toArray⟩
 | [],s=>by simp
 |b::l,s=>by
  simp only[cn,qO];rw[EK l];congr 1
  have:gd ((b.toNat:Nat):Int).toNat=b:=by simp
  rw[this];apply de;simp[ByteArray.push]
theorem Ep{e:TypeId}(h:Mv P e=true):P.underlying e=some (.int .u8):=by
 unfold Mv at h;split at h
 ·assumption
 ·cases h
theorem JC{w:World}{a:Addr}{vs:List Value}(b:Row w.heap a vs):(loadCells a vs.length).run P w=.ok vs.toArray w:=by
 have:=run_firstCells_some (P:=P) w 1 vs.length a 0 0 vs (by simp) fun j v hv=>by rw[←uh];exact b j v hv
 simpa[Builtin.firstCells]using this
theorem JM{f g:TypeId}{x:Value}{K:RK}{h:ae}(hv:QS P f g x K h):Yv P (convert f g x) K h:=by
 unfold QS at hv;split at hv
 ·rename_i k k' k'' n h1 h2
  exact .of_pure hv fun w=>by simp only[convert,Sem.run_bind,aA h1,aA h2,Result.andThen_ok];rfl
 ·rename_i s h1 h2
  exact .of_pure hv fun w=>by simp only[convert,Sem.run_bind,aA h1,aA h2,Result.andThen_ok];rfl
 ·rename_i e a n c h1 h2
  cases hu:Mv P e with
  |false=>rw[hu]at hv;exact hv.elim
  |true=>
   rw[hu]at hv;obtain⟨s,y,u⟩:=hv;refine⟨_,_,u,y,fun w m=>?_⟩
   rw[run_convert_bytes_string w f g e a n c h1 (Ep hu) h2];obtain⟨o,m⟩:=m;rcases m with p|⟨b,rfl,t⟩
   ·have j:s=ByteArray.empty:=by
     have:s.data.toList= []:=by simpa[dS]using p
     cases s with
     |mk d=>simp at this;subst this;rfl
    cases a with
    |none=>rw[j];rfl
    |some b=>
     have q:n=0:=by rw[←o,p];rfl
     subst q;have:=JC (P:=P) (w:=w) (a:=b) (vs:= []) fun i v hv=>by simp at hv
     rw[run_bytesToString w b 0 c [] (by simpa using this),j];rfl
   ·have:=JC (P:=P) t
    rw[o]at this;rw[run_bytesToString w b n c (s.data.toList.map fun b=>((b.toNat:Nat):Int)) (by rw[this,ry];rfl),EK]
    cases s;simp[ByteArray.empty,ByteArray.emptyWithCapacity];try rfl
 ·exact hv.elim
theorem Mc{u:TypeId}{cs:Array Value}{off:Nat}{K:RK}{h:ae}(b:∃d,P.underlying u=some d)(hi:∃i,P.info? u=some i)
  (hv:bif vE P u then K (.agg ((cs.toList.drop off).take (ce P u)).toArray) none else(match cs.toList[off]? with|some v=>K v none|none=>False)):Yv P (part u cs off) K h:=by
 obtain⟨i,hi⟩:=hi;cases ha:vE P u with
 |true=>
  rw[ha]at hv;refine .of_pure hv fun w=>?_
  have c:(sizeOf u).run P w=.ok (ce P u) w:=by simp[sizeOf,cT hi,ce,hi]
  simp only[part,Sem.run_bind,vD hi b,Result.andThen_ok,ha,if_true,c,Sem.run_pure];congr 2
  apply de;simp[gJ]
 |false=>
  rw[ha]at hv;simp only[cond_false]at hv;cases hc:cs.toList[off]? with
  |none=>rw[hc]at hv;exact hv.elim
  |some v=>
   rw[hc]at hv;refine .of_pure hv fun w=>?_
   have a:cs[off]? =some v:=by simpa using hc
   simp only[part,Sem.run_bind,vD hi b,Result.andThen_ok,ha,dB,if_false,a,Sem.run_pure]
def wc(P:Program)(v:Option Value)(d y n:Nat):Prop:=
 match v with
 |some x=>∀c w,(Instr.sliceBound x y c).run P w=.ok n w
 |none=>n=d
theorem mL{v:Option Value}{d y:Nat}{K:Nat→Prop}(hv:Sg v d y K):∃n,K n∧wc P v d y n:=by
 unfold Sg at hv;split at hv
 ·exact⟨d,hv,rfl⟩
 ·rename_i k i
  obtain⟨⟨a,b⟩,e⟩:=hv;refine⟨i.toNat,e,fun c w=>?_⟩
  simp[Instr.sliceBound,asIntOf,a,b]
 ·exact hv.elim
theorem pE{c:Bool}{len cap n l:Nat}{lo hi:Option Value}(a:wc P hi len cap n)(b:wc P lo 0 n l)(w:World):
  (Instr.sliceBounds c len cap lo hi none).run P w=.ok (l,n,cap) w:=by
 cases hi with
 |none=>
  cases lo with
  |none=>simp only[wc]at a b;subst a;subst b;simp[Instr.sliceBounds]
  |some lo=>simp only[wc]at a b;subst a;simp[Instr.sliceBounds,b]
 |some hi=>
  cases lo with
  |none=>simp only[wc]at a b;subst b;simp[Instr.sliceBounds,a]
  |some lo=>simp only[wc]at a b;simp[Instr.sliceBounds,a,b]
theorem Bm{c:Bool}{len cap n l m:Nat}{lo:Option Value}{hi d:Value}(hm:wc P (some d) 0 cap m)(a:wc P (some hi) 0 m n)(b:wc P lo 0 n l)(w:World):
  (Instr.sliceBounds c len cap lo (some hi) (some d)).run P w=.ok (l,n,m) w:=by
 cases lo with
 |none=>simp only[wc]at hm a b;subst b;simp[Instr.sliceBounds,hm,a]
 |some lo=>simp only[wc]at hm a b;simp[Instr.sliceBounds,hm,a,b]
theorem yx(a:Option Addr)(l m size:Nat):(if m=l then a else a.map (·.add (l*size)))=aV a l m size:=by
 unfold aV;split
 ·rfl
 ·congr 1;funext x;rw[uh]
theorem pH{t:TypeId}{K:Prop}(h:Q2 P t K):K∧∀w,(sizeOf t).run P w=.ok (ce P t) w:=by
 unfold Q2 at h;cases hi:P.info? t with
 |none=>rw[hi]at h;exact h.elim
 |some i=>rw[hi]at h;exact⟨h,fun w=>by simp[sizeOf,cT hi,ce,hi]⟩
theorem HP{t:TypeId}{x:Value}{f:Nat}{K:RK}{h:ae}(hv:L1 P t x f K):Yv P (Instr.field t x f) K h:=by
 unfold L1 at hv;split at hv
 ·rename_i u off cs hf
  obtain⟨j,g,b,a,rfl,rfl⟩:=wH hf;cases hb:((P.underlying g.type).isSome&&(P.info? g.type).isSome)with
  |false=>rw[hb]at hv;exact hv.elim
  |true=>
   rw[hb]at hv;simp only[bE,dU]at hb;obtain⟨v,S,e,i,c⟩:=Mc (cs:=cs) (off:=g.offset) (h:=h) hb.1 hb.2 hv;refine⟨v,S,e,i,fun w d=>?_⟩
   have:=c w d;simp only[Instr.field,Sem.run_bind,aA b,Result.andThen_ok,a,asAgg,Sem.run_pure,this]
 ·exact hv.elim
theorem Bv{t:TypeId}{x i:Value}{K:RK}{h:ae}(hv:yF P t x i K):Yv P (Instr.indexAt t x i) K h:=by
 unfold yF at hv;split at hv
 ·rename_i n e a k i hu
  obtain⟨⟨⟨c,d⟩,f⟩,hz⟩:=pH hv;refine .of_pure f fun w=>?_
  simp[Instr.indexAt,asIntOf,aA hu,Instr.sureAddr,c,d,hz,uh]
 ·rename_i e b len cap k i hu
  obtain⟨⟨⟨c,d⟩,a,rfl,f⟩,hz⟩:=pH hv;refine .of_pure f fun w=>?_
  simp[Instr.indexAt,asIntOf,aA hu,c,d,hz,uh]
 ·exact hv.elim
theorem HO{t:TypeId}{x i:Value}{K:RK}{h:ae}(hv:L0 P t x i K):Yv P (Instr.index t x i) K h:=by
 unfold L0 at hv;split at hv
 ·rename_i s k i hu
  obtain⟨b,a,d,c⟩:=hv;refine .of_pure c fun w=>?_
  simp[Instr.index,asIntOf,aA hu,a,d]
 ·exact hv.elim
theorem HM{t:TypeId}{x:Value}{lo hi d:Option Value}{K:RK}{h:ae}(hv:LY P t x lo hi d K):Yv P (Instr.sliceAt t x lo hi d) K h:=by
 unfold LY at hv;split at hv
 ·rename_i s hu
  cases d with
  |some _=>exact hv.elim
  |none=>
   obtain⟨n,hv,b⟩:=mL (P:=P) hv;obtain⟨l,hv,c⟩:=mL (P:=P) hv;refine .of_pure hv fun w=>?_
   simp[Instr.sliceAt,Instr.slice,aA hu,pE b c]
 ·rename_i e a len cap hu
  obtain⟨hv,hz⟩:=pH hv;cases d with
  |none=>
   obtain⟨n,hv,b⟩:=mL (P:=P) hv;obtain⟨l,hv,c⟩:=mL (P:=P) hv;refine .of_pure hv fun w=>?_
   simp[Instr.sliceAt,Instr.slice,aA hu,pE b c,hz,yx]
  |some m=>
   cases hi with
   |none=>exact hv.elim
   |some hi=>
    obtain⟨g,hv,hm⟩:=mL (P:=P) hv;obtain⟨n,hv,b⟩:=mL (P:=P) hv;obtain⟨l,hv,c⟩:=mL (P:=P) hv;refine .of_pure hv fun w=>?_
    simp[Instr.sliceAt,Instr.slice,aA hu,Bm hm b c,hz,yx]
 ·rename_i n e a hu
  obtain⟨hv,hz⟩:=pH hv;cases d with
  |some _=>exact hv.elim
  |none=>
   obtain⟨m,hv,b⟩:=mL (P:=P) hv;obtain⟨l,hv,c⟩:=mL (P:=P) hv;refine .of_pure hv fun w=>?_
   have f:(some (if n=l then a else a.add (l*ce P e)))=aV (some a) l n (ce P e):=by
    rw[←yx];split<;>rfl
   simp[Instr.sliceAt,aA hu,Instr.sureAddr,pE b c,hz,f]
 ·exact hv.elim
def oW(d:TypeDesc)(c:CK):Prop:=(∃i,d=.int i∧c=.int i)∨(d=.string∧c=.str)∨(d=.bool∧c=.bool)
theorem wA{t:TypeId}{c:CK}{e:TypeId}(h:Kh P t=some (c,e)):∃k d,P.underlying t=some (.map k e)∧P.underlying k=some d∧oW d c:=by
 unfold Kh at h;split at h
 ·rename_i k e' hu
  split at h
  ·rename_i i hk
   simp only[bA.injEq,qe.injEq]at h;obtain⟨rfl,rfl⟩:=h;exact⟨k,_,hu,hk,.inl ⟨i,rfl,rfl⟩⟩
  ·rename_i hk
   simp only[bA.injEq,qe.injEq]at h;obtain⟨rfl,rfl⟩:=h;exact⟨k,_,hu,hk,.inr (.inl ⟨rfl,rfl⟩)⟩
  ·rename_i hk
   simp only[bA.injEq,qe.injEq]at h;obtain⟨rfl,rfl⟩:=h;exact⟨k,_,hu,hk,.inr (.inr ⟨rfl,rfl⟩)⟩
  ·cases h
 ·cases h
theorem Ci{d:TypeDesc}{c:CK}(hd:oW d c)(x y:c.den):Instr.sameNow d (c.enc x) (c.enc y)=some (ie (c.enc x) (c.enc y)):=by
 rcases hd with⟨i,rfl,rfl⟩|⟨rfl,rfl⟩|⟨rfl,rfl⟩
 ·simp[Instr.sameNow,CK.enc,ie]
 ·simp[Instr.sameNow,CK.enc,ie]
 ·simp[Instr.sameNow,CK.enc,ie]
theorem Cv{d:TypeDesc}{c:CK}(hd:oW d c)(x:c.den):∀(es:List MapEntry) (i:Nat),Eo c es→
  ∃r,Instr.findNow d (c.enc x) es i=some r∧r.map (·.2)=Kw (c.enc x) es
 | [],i,_=>⟨none,rfl,rfl⟩
 |e::es,i,h=>by
  obtain⟨y,g⟩:=h e (by simp);have b:=Ci hd x y;rw[←g]at b;simp only[Instr.findNow,Kw];cases hb:ie (c.enc x) e.key with
  |true=>rw[b,hb];exact⟨some (i,e.val),rfl,rfl⟩
  |false=>rw[b,hb];exact Cv hd x es (i+1) fun f a=>h f (by simp[a])
theorem KH{a:Bool}{k:TypeId}{d:TypeDesc}{c:CK}(hd:oW d c)(b:P.underlying k=some d)(v:Value)(n:Nat)(w:World):(Instr.checkKey a (n+1) k v).run P w=.ok () w:=by
 unfold Instr.checkKey;simp only[Sem.run_bind,aA b,Result.andThen_ok];rcases hd with⟨i,rfl,rfl⟩|⟨rfl,rfl⟩|⟨rfl,rfl⟩<;>rfl
theorem vl{k:TypeId}{d:TypeDesc}{c:CK}(hd:oW d c)(b:P.underlying k=some d)(x:c.den){es:List MapEntry}(h:Eo c es)(w:World):
  ∃r,(Instr.findKey k (c.enc x) es).run P w=.ok r w∧Instr.findNow d (c.enc x) es 0=some r∧r.map (·.2)=Kw (c.enc x) es:=by
 obtain⟨r,a,hm⟩:=Cv hd x es 0 h;refine⟨r,?_,a,hm⟩;simp only[Instr.findKey,Sem.run_bind,aA b,Result.andThen_ok,a,Sem.run_pure]
theorem lZ{w:World}{r:Nat}{es:Array MapEntry}{a:Nat}(h:w.heap[r]? =some (.map es a)):(getObj r).run P w=.ok (.map es a) w:=by
 simp only[getObj,Sem.run,h]
theorem nq{a:Bool}{k:TypeId}{d:TypeDesc}{c:CK}(hd:oW d c)(b:P.underlying k=some d)(v:Value)(w:World):(Instr.checkKey a 10000 k v).run P w=.ok () w:=
 KH hd b v 9999 w
theorem Mi{t:TypeId}{c:CK}{e k:TypeId}{d:TypeDesc}(o:P.underlying t=some (.map k e))(f:P.underlying k=some d)(hd:oW d c){m:Option Nat}{x:c.den}{z v:Value}{b ok:Bool}{w:World}
  (hz:(zeroValue e).run P w=.ok z w)(hm:M5 c z w.heap m (c.enc x) v b):
  (Instr.lookup t (.map m) (c.enc x) ok).run P w=.ok (bif ok then .tuple #[v,.bool b]else v) w:=by
 cases m with
 |none=>
  obtain⟨rfl,rfl⟩:=hm;simp only[Instr.lookup,Sem.run_bind,aA o,Result.andThen_ok,Sem.run_pure,nq hd f];obtain⟨r,j,g,a⟩:=vl (P:=P) hd f x (es:= []) (fun _ h=>by cases h) w
  simp only[Instr.findNow,bA.injEq]at g;subst g;simp[j,hz]
 |some r=>
  obtain⟨es,n,p,i,hv⟩:=hm;simp only[Instr.lookup,Sem.run_bind,aA o,Result.andThen_ok,lZ p,Sem.run_pure,nq hd f];obtain⟨r,j,g,a⟩:=vl (P:=P) hd f x i w;simp only[j,Result.andThen_ok];cases r with
  |none=>
   simp only[Option.map_none]at a;rw[←a]at hv;obtain⟨rfl,rfl⟩:=hv;simp[hz]
  |some r=>
   simp only[gD]at a;rw[←a]at hv;obtain⟨rfl,rfl⟩:=hv;cases ok<;>rfl
theorem fy{e:TypeId}{z:Value}(h:xQ P e=some z)(w:World):(zeroValue e).run P w=.ok z w:=by
 unfold xQ at h;cases hi:P.info? e with
 |none=>rw[hi]at h;cases h
 |some i=>rw[hi]at h;simp only at h;simp[zeroValue,cT hi,h]
theorem FH{t:TypeId}{x k:Value}{ok:Bool}{K:RK}{h:ae}(hv:HN P t x k ok K h):Yv P (Instr.lookup t x k ok) K h:=by
 unfold HN at hv;split at hv
 ·rename_i c e m hc
  obtain⟨j,d,f,i,hd⟩:=wA hc;obtain⟨n,rfl,hv⟩:=CK.dec_sound hv;split at hv
  ·rename_i ek z hek hz
   obtain⟨y,b,hm,a⟩:=hv;exact⟨_,_,a,hm,fun w g=>Mi f i hd (fy hz w) g⟩
  ·exact hv.elim
 ·exact hv.elim
theorem LZ{t:TypeId}{x:Value}{ats:Array TypeId}{ty:TypeId}{K:RK}{h:ae}(a:ats[0]? =some t) (hv:UR P t x K h):Yv P (Builtin.len_ ats ty #[x]) K h:=by
 unfold UR at hv;split at hv
 ·rename_i s hu
  exact .of_pure hv fun w=>by simp[Builtin.len_,a,aA hu,goInt]
 ·rename_i n e _ hu
  exact .of_pure hv fun w=>by simp[Builtin.len_,a,aA hu,goInt]
 ·rename_i e b n c hu
  exact .of_pure hv fun w=>by simp[Builtin.len_,a,aA hu,goInt]
 ·rename_i k e m hu
  obtain⟨n,hm,i⟩:=hv;refine⟨_,_,i,hm,fun w f=>?_⟩
  cases m with
  |none=>
   have:n=0:=f;subst this;simp[Builtin.len_,a,aA hu,goInt]
  |some r=>
   obtain⟨es,d,g,rfl⟩:=f;simp[Builtin.len_,a,aA hu,goInt,lZ g]
 ·exact hv.elim
theorem L3{t:TypeId}{x:Value}{ats:Array TypeId}{ty:TypeId}{K:RK}{h:ae}(a:ats[0]? =some t) (hv:US P t x K):Yv P (Builtin.cap_ ats ty #[x]) K h:=by
 unfold US at hv;split at hv
 ·rename_i e b n c hu
  exact .of_pure hv fun w=>by simp[Builtin.cap_,a,aA hu,goInt]
 ·exact hv.elim
theorem zZ{c:Bool}{k:IntKind}:∀{vs:List Value} {a:Int} {f:Value→Prop},H2 c k a vs f→∃v,f v∧∀w,(vs.foldlM (bif c then Builtin.max2 else Builtin.min2) (Value.int k a):Sem Value).run P w=.ok v w
 | [],a,f,h=>⟨_,h,fun w=>by simp⟩
 | .int k' b::vs,a,f,h=>by
  simp only[H2]at h;cases hk:H6 k' k with
  |false=>rw[hk]at h;exact h.elim
  |true=>
   rw[hk]at h;have:=Ad hk;subst this;obtain⟨v,d,e⟩:=zZ h;refine⟨v,d,fun w=>?_⟩
   rw[←e w];cases c<;>simp[List.foldlM_cons,Builtin.max2,Builtin.min2]
theorem xZ{a:Bool}{vs:List Value}{f:Value→Prop}{ats:Array TypeId}{ty:TypeId}(h:Dg a vs f):∃v,f v∧∀w,(bif a then Builtin.max_ ats ty vs.toArray else Builtin.min_ ats ty vs.toArray).run P w=.ok v w:=by
 unfold Dg at h;split at h
 ·obtain⟨v,b,c⟩:=zZ (P:=P) h
  refine⟨v,b,fun w=>?_⟩
  have:=c w;cases a<;>simpa[Builtin.max_,Builtin.min_]using this
 ·exact h.elim
theorem Pz{a:Addr}{e:MapEntry}{w:World}(i:a.off=0)(h:M6 w.heap a.block e):(Instr.entry (.pointer (some a))).run P w=.ok (.tuple #[e.key,e.val]) w:=by
 obtain⟨m,c,f,d,g,es,hi,k,hm,n⟩:=h;obtain⟨b,off,j⟩:=a;simp only at i hi;subst i;have o:(getObj b).run P w=.ok (.mapIter (some m) c f d) w:=by simp only[getObj,Sem.run,hi]
 simp[Instr.entry,o,k,lZ hm,n]
def Gc:DV→Value→Prop
 | .t,v=>v=.bool true
 | .f,v=>v=.bool false
 | .u,v=>v=undef
 | .x,_=>True
def DecOk(d:uT)(r:cH):Prop:=∀t,qU d t=.x∨∃v,kw r t=some v∧Gc (qU d t) v
theorem DecOk.at{d:uT}{r:cH}(h:DecOk d r){t:Nat}{v:Value}(hv:kw r t=some v):Gc (qU d t) v:=by
 rcases h t with e|⟨u,a,b⟩
 ·rw[e];trivial
 ·rw[hv]at a;cases a;exact b
theorem uB{d:uT}{r:cH}(hd:DecOk d r){o:Operand}{v:Value}(h:dK r o=some v):Gc (Ao d o) v:=by
 cases o with
 |tmp t=>exact hd.at h
 |const c=>
  simp[dK]at h;subst h;cases c with
  |bool b=>cases b<;>exact rfl
  |_=>trivial
 |global g=>trivial
 |func f=>trivial
theorem Cp{t:TypeId}(h:qk P t=true):∃d,P.underlying t=some d∧∀m,d≠ .interface m:=by
 unfold qk at h;split at h
 ·cases h
 ·rename_i d hd;exact⟨_,hd,fun m e=>by subst e;simp_all⟩
 ·cases h
theorem Ab{t:TypeId}{v:Value}(h:qk P t=true)(w:World):(Instr.makeInterface t v).run P w=.ok (.iface t v) w:=by
 obtain⟨d,hd,a⟩:=Cp h;simp only[Instr.makeInterface,Sem.run_bind,aA hd,Result.andThen_ok];cases d<;>first|exact absurd rfl (a _)|rfl
theorem DF{t u:TypeId}{v:Value}(h:qk P t=true)(w:World):(Instr.typeAssert (.iface t v) u t false).run P w=.ok v w:=by
 obtain⟨d,hd,a⟩:=Cp h;simp only[Instr.typeAssert,Sem.run_bind,aA hd,Result.andThen_ok];cases d<;>first|exact absurd rfl (a _)|(simp[Sem.run_pure])
theorem kq{t:TypeId}{z:List Value}(h:qz P t=some z):∃v,xQ P t=some v∧v.cells.toList=z:=by
 unfold qz at h;cases hz:xQ P t with
 |none=>rw[hz]at h;cases h
 |some v=>rw[hz]at h;simp only[bA.injEq]at h;exact⟨v,rfl,h⟩
theorem re{t:TypeId}{v:Value}(h:xQ P t=some v):∃i,P.info? t=some i∧i.zero=some v:=by
 unfold xQ at h;cases hi:P.info? t with
 |none=>rw[hi]at h;cases h
 |some i=>rw[hi]at h;exact⟨i,rfl,h⟩
theorem RY{A B:List Value}{x:Value}{m:Nat}(h:A.length=m):(A++x::B).take (m+1)=A++ [x]:=by
 subst h;rw[List.take_append,bv (by omega),show A.length+1-A.length=1 by omega];rfl
theorem RZ{A B:List Value}{x:Value}{m n:Nat}(h:A.length=m):(A++x::B).drop (m+1+n)=B.drop n:=by
 subst h;rw[List.drop_append,List.drop_eq_nil_of_le (by omega),show A.length+1+n-A.length=n+1 by omega];rfl
theorem Kt(off:Nat):∀(xs:List Value) (k:Nat) (arr:Array Value),off+k+xs.length≤arr.size→
  (xs.zipIdx k).foldl (fun cs (c,j)=>cs.setIfInBounds (off+j) c) arr=(JP arr.toList (off+k) xs).toArray
 | [],k,arr,_=>by simp[JP]
 |x::xs,k,arr,h=>by
  simp only[az]at h;simp only[List.zipIdx_cons,qO];rw[Kt off xs (k+1) _ (by simp;omega)];have hm:off+k<arr.toList.length:=by simp;omega
  have b:arr.toList.set (off+k) x=arr.toList.take (off+k)++x::arr.toList.drop (off+k+1):=by
   rw[List.set_eq_take_append_cons_drop,if_pos hm]
  have a:(arr.toList.take (off+k)).length=off+k:=by simp;omega
  congr 1
  unfold JP;rw[Array.toList_setIfInBounds,b,←jJ,RY a,RZ a];simp only[List.append_assoc,dN,List.nil_append,az,List.drop_drop];rw[show off+k+1+xs.length=off+k+(xs.length+1) by omega]
theorem sG{a:Nat→Option (Nat×Nat)}:∀(parts:List (Nat×Value)) (cs cs':List Value),Cw a cs parts=some cs'→Instr.fill a cs.toArray parts=some cs'.toArray
 | [],cs,cs',h=>by simp only[Cw,bA.injEq]at h;subst h;rfl
 |(i,v)::rest,cs,cs',h=>by
  simp only[Cw]at h;cases hp:a i with
  |none=>rw[hp]at h;cases h
  |some os=>
   obtain⟨off,size⟩:=os;rw[hp]at h;simp only at h;cases hb:(bN v.cells.toList.length size&&xE (off+v.cells.toList.length) cs.length)with
   |false=>rw[hb]at h;cases h
   |true=>
    rw[hb]at h;simp only[bE]at hb;have c:=aZ hb.1;have b:=jg hb.2;have g:=sG rest _ _ h;have e:v.cells.size=size:=by simpa using c
    have d:off+v.cells.size≤cs.length:=by simpa using b
    have f:Array.foldl (fun cs x=>cs.setIfInBounds (off+x.2) x.1) cs.toArray v.cells.zipIdx=(JP cs off v.cells.toList).toArray:=by
     have:=Kt off v.cells.toList 0 cs.toArray (by simpa using d);simp only[cW]at this;rw[←this,←Array.foldl_toList];congr 1
     simp[Array.toList_zipIdx]
    simp only[Instr.fill,hp];rw[if_neg (by simp[e];omega)];simp only[f];exact g
theorem oG{N:Nat}{r:cH}{a:Act}(h:Agree N r a):∀{ps:List (Nat×Operand)} {vs:List (Nat×Value)},qj r ps=some vs→ps.map (fun p=>(p.1,a.eval p.2))=vs
 | [],vs,hv=>by simp[qj]at hv;subst hv;rfl
 |(i,o)::ps,vs,hv=>by
  simp only[qj]at hv;cases ho:dK r o with
  |none=>simp[ho]at hv
  |some v=>cases hos:qj r ps with
   |none=>simp[ho,hos]at hv
   |some us=>simp[ho,hos]at hv;subst hv;simp[l3 h ho,oG h hos]
theorem qn{t:TypeId}(h:xr P t=true)(w:World):(sizeOf t).run P w=.ok (ce P t) w:=by
 unfold xr at h;cases hi:P.info? t with
 |none=>rw[hi]at h;cases h
 |some i=>simp[sizeOf,cT hi,ce,hi]
theorem Eb(w:World):∀l:List Field,Av P l=true→(l.mapM fun f:Field=>((do pure (f.offset,←sizeOf f.type)):Sem (Nat×Nat))).run P w=.ok (l.map fun f:Field=>(f.offset,ce P f.type)) w
 | [],_=>rfl
 |f::l,h=>by
  simp only[Av]at h;cases hf:xr P f.type with
  |false=>rw[hf]at h;cases h
  |true=>
   rw[hf]at h;rw[List.mapM_cons];simp only[Sem.run_bind,qn hf,Result.andThen_ok,Sem.run_pure,Eb w l h,cn]
theorem Au{t:TypeId}{ps:Array (Nat×Value)}{cs:List Value}(a:Ir P t ps.toList=some cs)(w:World):
  (Instr.build t ps).run P w=.ok (.agg cs.toArray) w:=by
 unfold Ir at a;split at a
 ·rename_i fs z hu hz
  obtain⟨v,hz,hv⟩:=kq hz;cases ha:Av P fs.toList with
  |false=>rw[ha]at a;cases a
  |true=>
   rw[ha]at a;have g:(fs.mapM fun f:Field=>((do pure (f.offset,←sizeOf f.type)):Sem (Nat×Nat))).run P w=.ok (fs.map fun f:Field=>(f.offset,ce P f.type)) w:=by
    rw[Array.mapM_eq_mapM_toList];simp only[Sem.run_map,Eb w fs.toList ha,Result.andThen_ok];congr 1
    apply de;simp
   have d:=sG _ _ _ a;have b:(fun i:Nat=>(fs.map fun f:Field=>(f.offset,ce P f.type))[i]?)=Mb P fs.toList:=by
    funext i;unfold Mb;rw[Array.getElem?_map,bJ];cases fs[i]?<;>rfl
   have c:v.cells=z.toArray:=by rw[←hv]
   rw[cond_true]at a;rw[←b]at d;simp only[Instr.build,Sem.run_bind,fy hz,Result.andThen_ok,aA hu,g,c,d,Sem.run_pure]
 ·rename_i n e z hu hz
  obtain⟨v,hz,hv⟩:=kq hz;cases ha:xr P e with
  |false=>rw[ha]at a;cases a
  |true=>
   rw[ha]at a;have d:=sG _ _ _ a;have c:v.cells=z.toArray:=by rw[←hv]
   simp only[Instr.build,Sem.run_bind,fy hz,Result.andThen_ok,aA hu,qn ha,c,d,Sem.run_pure]
 ·cases a
theorem Bu{ek:Option (Kind×Kind)}{o:Oper}{r:cH}{K:RK}{h:ae}{N:Nat}{a:Act}(R:Agree N r a)(g:Bc P ek o.op r K h)(d:uT)(hd:DecOk d r):
  ∃v S,K v S∧Su S h∧Gc (Jb d o.op) v∧∀w:World,Su S w.heap→(execOp a.eval o).run P w=.ok (.value v) w:=by
 have j:∀{x:Operand} {v:Value},dK r x=some v→a.eval x=v:=fun h=>l3 R h
 have z:∀{s:Sem Value},Yv P s K h→Jb d o.op=.x→(∀w,(execOp a.eval o).run P w=(do pure (Next.value (←s)):Sem Next).run P w)→
   ∃v S,K v S∧Su S h∧Gc (Jb d o.op) v∧∀w:World,Su S w.heap→(execOp a.eval o).run P w=.ok (.value v) w:=by
  rintro s ⟨v,S,q,C,A⟩ hx H;exact⟨v,S,q,C,by rw[hx];trivial,fun w D=>by rw[H w];exact jl (A w D)⟩
 obtain⟨Q,M,type,nM,F,G⟩:=o;simp only at g z⊢;cases M with
 |move x=>
  simp only[Bc]at g;split at g
  ·rename_i v hv
   exact⟨v,none,g,trivial,uB hd hv,fun w _=>by simp[execOp,j hv]⟩
  ·exact g.elim
 |assign x=>
  simp only[Bc]at g;split at g
  ·rename_i v hv
   exact⟨v,none,g,trivial,uB hd hv,fun w _=>by simp[execOp,j hv]⟩
  ·exact g.elim
 |pick c x y=>
  simp only[Bc]at g;split at g
  ·rename_i vc va vb hc hx T
   unfold Uk at g;split at g
   ·rename_i cb
    have J:=uB hd hc;have V:=uB hd hx;have U:=uB hd T;have H:∀w,(execOp a.eval ⟨Q,.pick c x y,type,nM,F,G⟩).run P w=.ok (.value (if cb then va else vb)) w:=fun w=>by
     simp[execOp,j hc,j hx,j T,asBool]
    have I:Gc (Jb d (.pick c x y)) (if cb then va else vb):=by
     simp only[Jb];cases hcd:Ao d c with
     |t=>
      rw[hcd]at J;have:cb=true:=by simpa[Gc]using J
      subst this;exact V
     |f=>
      rw[hcd]at J;have:cb=false:=by simpa[Gc]using J
      subst this;exact U
     |u=>trivial
     |x=>trivial
    split at g
    ·rename_i bx by'
     have O:(if cb=true then Value.bool bx else Value.bool by')=.bool (bif cb then bx else by'):=by cases cb<;>rfl
     rw[O]at I;exact⟨_,none,g,trivial,I,fun w _=>by rw[H w,O]⟩
    ·cases cb
     ·exact⟨_,none,g,trivial,I,fun w _=>H w⟩
     ·exact⟨_,none,g,trivial,I,fun w _=>H w⟩
   ·exact g.elim
  ·exact g.elim
 |load t x=>
  simp only[Bc]at g;split at g
  ·rename_i v hv
   obtain⟨u,S,q,C,A⟩:=Cl g;exact z ⟨u,some S,q,C,A⟩ rfl fun w=>by simp only[execOp,j hv]
  ·exact g.elim
 |nilCheck x=>
  simp only[Bc]at g;split at g
  ·rename_i p hv
   obtain⟨b,rfl,q⟩:=g;exact⟨_,none,q,trivial,trivial,fun w _=>by simp[execOp,j hv]⟩
  ·exact g.elim
 |binOp M t x y yt=>
  simp only[Bc]at g;split at g
  ·rename_i v u hv hu
   obtain⟨W,S,q,C,A⟩:=L5 (x:=x) (y:=y) g;refine⟨W,S,q,C,trivial,fun w D=>?_⟩
   simp only[execOp,j hv,j hu];exact jl (A w D)
  ·rename_i v u hna hv hu
   have go:(∀c d,v=.agg c→u=.agg d→False)∧(v=.nilIface→u=.nilIface→False)∧Yv P (binOp M t v u) K h:=by
    split at g
    ·exact Eg (neg:=false) g
    ·exact Eg (neg:=true) g
    ·exact L4 g
   obtain⟨h1,h2,W,S,q,C,A⟩:=go;refine⟨W,S,q,C,trivial,fun w D=>?_⟩
   simp only[execOp,j hv,j hu];simp[MK M t x y v u h1 h2 w,A w D]
  ·exact g.elim
 |unOp M t x=>
  simp only[Bc]at g;split at g
  ·rename_i v hv
   obtain⟨u,S,q,C,A⟩:=Pe (P:=P) (h:=h) g;refine⟨u,S,q,C,?_,fun w D=>by simp only[execOp,j hv];exact jl (A w D)⟩
   have L:=uB hd hv;cases M<;>try trivial
   simp only[Jb];have B:=A {(default:World)with heap:=h} C;cases hx:Ao d x with
   |t=>
    rw[hx]at L;have:v=.bool true:=L;subst this;simp[Op.unary]at B;exact B.symm
   |f=>
    rw[hx]at L;have:v=.bool false:=L;subst this;simp[Op.unary]at B;exact B.symm
   |u=>trivial
   |x=>trivial
  ·exact g.elim
 |convert s t x=>
  simp only[Bc]at g;split at g
  ·rename_i v hv
   exact z (JM g) rfl fun w=>by simp only[execOp,j hv]
  ·exact g.elim
 |extract x i=>
  simp only[Bc]at g;split at g
  ·rename_i vs hv
   split at g
   ·rename_i u hu
    have X:vs[i]? =some u:=by simpa using hu
    exact⟨u,none,g,trivial,trivial,fun w _=>by simp[execOp,j hv,Instr.extract,X]⟩
   ·exact g.elim
  ·exact g.elim
 |fieldAddr t x f=>
  simp only[Bc]at g;split at g
  ·rename_i b u off hv hf
   exact z (CU hf g) rfl fun w=>by simp only[execOp,j hv]
  ·exact g.elim
 |field t x f=>
  simp only[Bc]at g;split at g
  ·rename_i v hv
   exact z (HP g) rfl fun w=>by simp only[execOp,j hv]
  ·exact g.elim
 |indexAddr t x i=>
  simp only[Bc]at g;split at g
  ·rename_i v u hv hu
   exact z (Bv g) rfl fun w=>by simp only[execOp,j hv,j hu]
  ·exact g.elim
 |index t x i=>
  simp only[Bc]at g;split at g
  ·rename_i v u hv hu
   exact z (HO g) rfl fun w=>by simp only[execOp,j hv,j hu]
  ·exact g.elim
 |slice t x lo hi mx=>
  simp only[Bc]at g;split at g
  ·rename_i v l h' m hv hl hh hm
   have Y:∀{x:Option Operand} {v:Option Value},GF r x=some v→x.map a.eval=v:=by
    intro x v hx;cases x with
    |none=>simp[GF]at hx;subst hx;rfl
    |some x=>
     simp only[GF]at hx;cases H:dK r x with
     |none=>simp[H]at hx
     |some u=>simp[H]at hx;subst hx;simp[j H]
   exact z (HM g) rfl fun w=>by simp only[execOp,j hv,Y hl,Y hh,Y hm]
  ·exact g.elim
 |lookup t x k ok=>
  simp only[Bc]at g;split at g
  ·rename_i v u hv hu
   exact z (FH g) rfl fun w=>by simp only[execOp,j hv,j hu]
  ·exact g.elim
 |makeInterface t x=>
  simp only[Bc]at g;split at g
  ·rename_i v hv
   cases hb:qk P t with
   |false=>rw[hb]at g;exact g.elim
   |true=>
    rw[hb,cond_true]at g;exact⟨_,none,g,trivial,trivial,fun w _=>by simp only[execOp,j hv];exact jl (Ab hb w)⟩
  ·exact g.elim
 |typeAssert x u t ok=>
  simp only[Bc]at g;split at g
  ·rename_i v hv
   cases ok with
   |true=>exact g.elim
   |false=>
    rw[cond_false]at g;unfold NW at g;cases hb:qk P t with
    |false=>rw[hb]at g;exact g.elim
    |true=>
     rw[hb,cond_true]at g;split at g
     ·obtain⟨y,rfl,q⟩:=g
      exact⟨_,none,q,trivial,trivial,fun w _=>by simp only[execOp,j hv];exact jl (DF hb w)⟩
     ·exact g.elim
  ·exact g.elim
 |makeFunc fn first cap=>
  simp only[Bc]at g;split at g
  ·rename_i vs us hv hu
   have O:=oE R hv;have e2:=oE R hu;refine⟨_,none,g,trivial,trivial,fun w _=>?_⟩
   have Z:first.map a.eval=vs.toArray:=by rw[←O];apply de;simp
   have f2:cap.map a.eval=us.toArray:=by rw[←e2];apply de;simp
   simp[execOp,Instr.makeFunc,Z,f2]
  ·exact g.elim
 |entry it=>
  simp only[Bc]at g;split at g
  ·rename_i b kk vk hv
   obtain⟨h0,e,x,y,hi,q,T,hK⟩:=g;refine⟨_,_,hK,hi,trivial,fun w D=>?_⟩
   simp only[execOp,j hv];refine jl ?_;rw[Pz h0 D,q,T]
  ·exact g.elim
 |call c=>
  simp only[Bc]at g;have E:∀{b:Builtin} {vs:List Value},c.callee=.builtin b→qC r c.args.toList=some vs→∃cs:Array Bool,∀w,(execOp a.eval ⟨Q,.call c,type,nM,F,G⟩).run P w=
    (builtin b c.argTypes type cs vs.toArray).run P w:=by
   intro b vs hc n;have O:=oE R n;have Z:c.args.map a.eval=vs.toArray:=by rw[←O];apply de;simp
   refine⟨c.args.map fun| .const _=>true|_=>false,fun w=>?_⟩
   simp[execOp,resolve,hc,Z,invoke];rfl
  split at g
  ·rename_i v t hc n hat
   obtain⟨cs,E⟩:=E hc n;obtain⟨u,S,q,C,A⟩:=LZ (ats:=c.argTypes) (ty:=type) (by rw[←bJ,hat];rfl) g;exact⟨u,S,q,C,trivial,fun w D=>by rw[E w];simp only[builtin];exact jl (A w D)⟩
  ·rename_i v t hc n hat
   obtain⟨cs,E⟩:=E hc n;obtain⟨u,S,q,C,A⟩:=L3 (h:=h) (ats:=c.argTypes) (ty:=type) (by rw[←bJ,hat];rfl) g;exact⟨u,S,q,C,trivial,fun w D=>by rw[E w];simp only[builtin];exact jl (A w D)⟩
  ·rename_i vs hc n
   obtain⟨cs,E⟩:=E hc n;obtain⟨u,q,A⟩:=xZ (P:=P) (ats:=c.argTypes) (ty:=type) g;exact⟨u,none,q,trivial,trivial,fun w _=>by rw[E w];simp only[builtin];exact jl (A w)⟩
  ·rename_i vs hc n
   obtain⟨cs,E⟩:=E hc n;obtain⟨u,q,A⟩:=xZ (P:=P) (ats:=c.argTypes) (ty:=type) g;exact⟨u,none,q,trivial,trivial,fun w _=>by rw[E w];simp only[builtin];exact jl (A w)⟩
  ·exact g.elim
 |build t ps=>
  simp only[Bc]at g;split at g
  ·rename_i vs n
   split at g
   ·rename_i cs hcs
    refine⟨_,none,g,trivial,trivial,fun w _=>?_⟩
    have hp:(ps.map fun x=>(x.1,a.eval x.2))=vs.toArray:=by
     rw[←oG R n];apply de;simp
    have H:=Au (ps:=vs.toArray) (by simpa using hcs) w;simp only[execOp];rw[show(ps.map fun(i,x)=>(i,a.eval x))=vs.toArray from hp]
    exact jl H
   ·exact g.elim
  ·exact g.elim
 |_=>simp only[Bc]at g
end Go.Lift
namespace Go.Lift
open Go
variable {P:Program}
def KO(P:Program)(s:Sem Next)(K:WK)(w:World):Prop:=
 (∃v w',s.run P w=.ok (.value v) w'∧Tame w w'∧K v w'.heap)∨
 (∃w',s.run P w=.ok .skip w'∧Tame w w'∧K undef w'.heap)∨
 (∃f args,s.run P w=.ok (.enter f args) w∧Calls P f args w fun e w'=>Tame w w'∧∃v,e=.returned v∧K v w'.heap)∨
 (∃l fn tmps assign body,s.run P w=.ok (.round l fn tmps assign body) w∧
  ∀(c:Frame) (cs:List Frame),∃b w',Tame w w'∧K (.bool b) w'.heap∧Steps P (lone (Frame.round l fn tmps assign body .normal) (c::cs) w) (lone (c.finish (.bool b)) cs w'))
def Wv(P:Program)(s:Sem Value)(K:WK)(w:World):Prop:=∃v w',s.run P w=.ok v w'∧Tame w w'∧K v w'.heap
theorem Wv.out{s:Sem Value}{K:WK}{w:World}(h:Wv P s K w):KO P (do pure (Next.value (←s))) K w:=by
 obtain⟨v,w',a,c,b⟩:=h;exact .inl ⟨v,w',jl a,c,b⟩
def Wu(P:Program)(s:Sem Unit)(K:WK)(w:World):Prop:=∃w',s.run P w=.ok () w'∧Tame w w'∧K undef w'.heap
theorem Wu.out{s:Sem Unit}{K:WK}{w:World}(h:Wu P s K w):KO P (do s;pure Next.skip) K w:=by
 obtain⟨w',a,c,b⟩:=h;exact .inr (.inl ⟨w',QJ a,c,b⟩)
def kr(w:World)(h:ae):World:={w with heap:=h}
theorem fp(w:World)(h:ae):Tame w (kr w h):=⟨rfl,rfl,rfl⟩
theorem kD(e:TypeId)(cs:Array Value)(w:World):(newRow e cs).run P w=.ok (aC w.heap) (kr w (hnew w.heap cs.toList e)):=by
 simp[newRow,newObj,Sem.run,aC,kr,hnew,bind,Sem.bind,pure]
theorem D2(o:Obj)(w:World):(newObj o).run P w=.ok w.heap.size (kr w (w.heap.push o)):=rfl
theorem FO{h:ae}{a b:Addr}(v:Value)(c:a≠b):aJ (hset h a v) b=aJ h b:=
 World.cell?_setCell_other {(default:World)with heap:=h} a b v c
theorem CT{h:ae}{a:Addr}{u:Value}(v:Value)(hc:aJ h a=some u):aJ (hset h a v) a=some v:=
 World.cell?_setCell_same {(default:World)with heap:=h} a v hc
theorem H8{h:ae}{a b:Addr}(v:Value):Dm (hset h a v) b=Dm h b:=
 World.frozen?_setCell {(default:World)with heap:=h} a b v
theorem Wr.hset{h:ae}{a b:Addr}(v:Value)(d:Wr h b):Wr (hset h a v) b:=by
 obtain⟨⟨u,c⟩,f⟩:=d;refine⟨?_,by rw[H8];exact f⟩
 by_cases e:a=b
 ·subst e;exact⟨v,CT v c⟩
 ·exact⟨u,by rw[FO v e];exact c⟩
theorem LR{w:World}{a:Addr}{v:Value}(hv:∀cs,v≠ .agg cs)(c:∀cs,v≠ .tuple cs)(f:Wr w.heap a):(store a v).run P w=.ok () (kr w (hset w.heap a v)):=by
 obtain⟨⟨u,e⟩,g⟩:=f;have b:w.cell? a=some u:=e;have d:w.frozen? a=false:=g;cases v<;>first|exact absurd rfl (hv _)|exact absurd rfl (c _)|(simp only[store,Sem.run,b,d];rfl)
theorem HZ{v:Value}{vs:List Value}(h:cl (v::vs)=true):(∀cs,v≠ .agg cs)∧(∀cs,v≠ .tuple cs)∧cl vs=true:=by
 simp only[cl,bE]at h;refine⟨fun cs e=>?_,fun cs e=>?_,h.2⟩<;>(subst e;exact absurd h.1 (by simp))
theorem rD{a:Addr}:∀(vs:List Value) (i:Nat) (w:World),cl vs=true→(∀j,j<vs.length→Wr w.heap (adr a (i+j)))→
  (storeCells a vs i).run P w=.ok () (kr w (iC w.heap a i vs))
 | [],i,w,_,_=>rfl
 |v::vs,i,w,b,hw=>by
  obtain⟨f,e,b⟩:=HZ b;have c:=hw 0 (by simp);simp only[cW]at c;have d:a.add i=adr a i:=(uh a i).symm;simp only[storeCells,d,Sem.run_bind,LR f e c,Result.andThen_ok];rw[rD vs (i+1) (kr w (hset w.heap (adr a i) v)) b fun j g=>?_]
  ·rfl
  ·have:=hw (j+1) (by simp only[az];omega)
   rw[show i+1+j=i+(j+1) by omega]
   exact this.hset v
theorem GT{a:Addr}(m:Nat):∀(vs:List Value) (i:Nat) (h:ae),iC h (adr a m) i vs=iC h a (m+i) vs
 | [],_,_=>rfl
 |v::vs,i,h=>by
  simp only[iC];rw[GT m vs (i+1),Ay];rfl
theorem Hq{t:TypeId}{a v:Value}{K:WK}{w:World}(c:Lx P t a v K w.heap):Wu P (Instr.storeAt t a v) K w:=by
 unfold Lx at c;split at c
 ·rename_i a
  cases hb:(bN v.cells.toList.length (ce P t)&&cl v.cells.toList)with
  |false=>rw[hb]at c;exact c.elim
  |true=>
   rw[hb]at c;simp only[bE]at hb;have n:=aZ hb.1;obtain⟨c,hz⟩:=pH c;have g:v.cells.size=ce P t:=by simpa using n
   have m:(∀j,j<v.cells.toList.length→Wr w.heap (adr a (0+j)))→(Instr.storeAt t (.pointer (some a)) v).run P w=.ok () (kr w (iC w.heap a 0 v.cells.toList)):=by
    intro d;have:=rD (P:=P) v.cells.toList 0 w hb.2 d;simp[Instr.storeAt,Instr.sureAddr,storeVar,hz,g,this]
   split at c
   ·rename_i u hu
    obtain⟨d,k⟩:=c;refine⟨_,m (fun j f=>?_),fp _ _,?_⟩
    ·rw[hu]at f;simp only[az,List.length_nil]at f
     obtain rfl:j=0:=by omega
     exact d
    ·rw[hu];exact k
   ·obtain⟨d,k⟩:=c
    refine⟨_,m (fun j f=>?_),fp _ _,k⟩
    rcases d with e|⟨b,i,d⟩
    ·rw[e]at f;cases f
    ·cases i;exact d j f
 ·exact c.elim
theorem jV(z:Array Value)(n:Nat):(Builtin.zeroCells z n).toList=dH n z.toList:=by
 have key:∀n,(List.range (n*z.size)).map (fun i=>z[i%z.size]!)=(dT n z.toList).flatten:=by
  intro n;induction n with
  |zero=>simp
  |succ n ih=>
   rw[Nat.succ_mul,List.range_add,List.map_append,ih,List.replicate_succ',List.flatten_append];congr 1
   simp only[ry,List.flatten_cons,List.flatten_nil,List.append_nil];apply List.ext_getElem
   ·simp
   ·intro i a b
    simp only[List.length_map,List.length_range]at a;simp[Nat.mod_eq_of_lt a,a,Nat.add_mod]
 simpa[Builtin.zeroCells,dH]using key n
theorem dR{t e:TypeId}(h:vQ P t=some e):P.underlying t=some (.slice e):=by
 unfold vQ at h;split at h
 ·rename_i e' hu;simp only[bA.injEq]at h;subst h;exact hu
 ·cases h
theorem NI{z:Value}{n:Nat}:((Array.range (n*z.cells.size)).map (z.cells[· %z.cells.size]!))=(dH n z.cells.toList).toArray:=by
 have:=jV z.cells n;unfold Builtin.zeroCells at this;apply de;rw[this]
theorem BP{t e:TypeId}{n:Nat}{ps:Array (Nat×Value)}{z cs:List Value}(o:vQ P t=some e)(hz:qz P e=some z)(q:n*ce P e≤16777216)(g:z.length=ce P e)
  (m:Cw (fun i=>some (i*ce P e,ce P e)) (dH n z) ps.toList=some cs)(w:World):
  (Instr.buildSlice t n ps).run P w=.ok (.slice (some (aC w.heap)) n n) (kr w (hnew w.heap cs e)):=by
 obtain⟨v,hv,c⟩:=kq hz;obtain⟨i,hi,k⟩:=re hv;have p:(sizeOf e).run P w=.ok (ce P e) w:=by simp[sizeOf,cT hi,ce,hi]
 have f:v.cells.size=ce P e:=by rw[←g,←c];simp
 have j:=sG _ _ _ m;have a:((Array.range (n*ce P e)).map (fun i=>(if n*ce P e=0 then #[]else v.cells)[i%(if n*ce P e=0 then #[]else v.cells).size]!))=(dH n z).toArray:=by
  by_cases b:n*ce P e=0
  ·have:(dH n z).length=0:=by simp[dH,g,b]
   rw[aF.1 this];simp[b]
  ·simp only[if_neg b]
   rw[←f,NI,c]
 have d:¬(n*ce P e>2^24):=by omega
 simp only[Instr.buildSlice,Sem.run_bind,aA (dR o),Result.andThen_ok,p,if_neg d];by_cases b:n*ce P e=0
 ·simp only[if_pos b]at a
  simp only[if_pos b,Sem.run_bind,Sem.run_pure,Result.andThen_ok,a,j,kD]
 ·simp only[if_neg b]at a
  simp only[if_neg b,Sem.run_bind,Sem.run_pure,Result.andThen_ok,fy hv,a,j,kD]
theorem O9{h:ae}{a:Addr}{vs:List Value}(b:Row h a vs):∀j v,vs[j]? =some v→aJ h (a.add j)=some v:=fun j v hv=>by
 rw[←uh];exact b j v hv
theorem xg{size n cap len:Nat}{b:Option Addr}{vs:List Value}{w:World}(d:SRow w.heap b (n*size) vs):(Builtin.firstCells size n (.slice b len cap)).run P w=.ok vs.toArray w:=by
 obtain⟨c,a⟩:=d;cases b with
 |none=>
  rcases a with rfl|⟨_,h,_⟩
  ·simp[Builtin.firstCells]
  ·cases h
 |some b=>
  refine run_firstCells_some w size n b len cap vs c fun j v hv=>?_
  rcases a with rfl|⟨_,h,a⟩
  ·cases hv
  ·cases h;exact O9 a j v hv
theorem DQ{a:Addr}{m:Nat}{xs:List Value}{w:World}(e:cl xs=true)(c:uD w.heap (some a) m xs):
  (storeCells (a.add m) xs).run P w=.ok () (kr w (iC w.heap a m xs)):=by
 rcases c with rfl|⟨b,f,c⟩
 ·rfl
 ·cases f
  have:=rD (P:=P) (a:=adr a m) xs 0 w e fun j d=>by rw[Ay,aI];exact c j d
  rw[←uh,this,GT,cW]
set_option maxHeartbeats 1000000 in
theorem ER{t e u ty:TypeId}{b:Option Addr}{sl f d:Nat}{xs:List Value}{x:Value}{K:WK}{w:World}(D:vQ P t=some e)(k:(∃y,P.underlying u=some (.slice y))∨P.underlying u=some .string)
  (g:∀w,(Builtin.lenOf x).run P w=.ok d w)(hx:∀w':World,w'.heap=w.heap→(Builtin.firstCells (ce P e) d x).run P w'=.ok xs.toArray w')
  (hi:∃i,P.info? e=some i)
  (h:Sj P e b sl f d xs K w.heap):Wv P (Builtin.append_ #[t,u] ty #[.slice b sl f,x]) K w:=by
 obtain⟨i,hi⟩:=hi;have j:ce P e=i.size:=by simp[ce,hi]
 have A:qI P e=i.bytes:=by simp[qI,hi]
 by_cases hc:sl+d≤f
 ·obtain⟨J,I,H⟩:=h.1 hc
  refine⟨_,_,?_,fp w (ga w.heap b (sl*ce P e) xs),H⟩;cases b with
  |none=>
   have c:=hx w rfl;rw[j]at c;rcases k with⟨y,hd⟩|hd<;>(simp[Builtin.append_,aA (dR D),aA hd,sizeOf,cT hi,g,hc,c];rfl)
  |some a=>
   have n:=DQ (P:=P) I J;have c:=hx w rfl;rw[j]at n c;rcases k with⟨y,hd⟩|hd<;>(simp[Builtin.append_,aA (dR D),aA hd,sizeOf,cT hi,g,hc,c,n,ga,j])
 ·obtain⟨p,z,L,hz,B,E,H⟩:=h.2 (by omega)
  obtain⟨v,hv,C⟩:=kq hz;obtain⟨N,s,M⟩:=re hv;rw[hi]at s;cases s;rw[A]at B E;have q:¬i.bytes=0:=by omega
  have m:¬(281474976710656<Builtin.nextslicecap (sl+d) f*i.bytes):=by omega
  have c:=hx w.drew rfl;have o:(Builtin.firstCells (ce P e) sl (.slice b sl f)).run P w.drew=.ok p.toArray w.drew:=xg L;rw[j]at c o;have F:sl+d≤(Question.appendCap (sl+d) f e).cut (w.tape w.drawn (.appendCap (sl+d) f e)):=pT _ _;refine⟨_,kr w.drew (hnew w.heap (p++xs++dH ((Question.appendCap (sl+d) f e).cut (w.tape w.drawn (.appendCap (sl+d) f e))-(sl+d)) z) e),?_,⟨rfl,rfl,rfl⟩,H _ F⟩
  have G:(Builtin.zeroCells v.cells ((Question.appendCap (sl+d) f e).cut (w.tape w.drawn (.appendCap (sl+d) f e))-(sl+d)))=(dH ((Question.appendCap (sl+d) f e).cut (w.tape w.drawn (.appendCap (sl+d) f e))-(sl+d)) z).toArray:=by
   apply de;rw[jV,C]
  rcases k with⟨y,hd⟩|hd<;>(simp[Builtin.append_,aA (dR D),aA hd,sizeOf,cT hi,g,hc,q,m,Question.forced,c,o,fy hv,kD,G,aC];rfl)
theorem Er{t:TypeId}{K:Prop}(h:Q2 P t K):∃i,P.info? t=some i:=by
 unfold Q2 at h;cases hi:P.info? t with
 |none=>rw[hi]at h;exact h.elim
 |some i=>exact⟨i,rfl⟩
theorem Ag{t:TypeId}(h:ce P t≠0):∃i,P.info? t=some i:=by
 cases hi:P.info? t with
 |none=>exact absurd (by simp[ce,hi]) h
 |some i=>exact⟨i,rfl⟩
theorem CB{size n:Nat}{x:ByteArray}{w:World}:(Builtin.firstCells size n (.string x)).run P w=.ok ((dS x).take n).toArray w:=by
 simp only[Builtin.firstCells,Sem.run_pure];congr 1
 apply de;simp[dS,pq,gJ,←List.map_take]
theorem xV{t u ty:TypeId}{s x:Value}{K:WK}{w:World}(c:(∃e',P.underlying u=some (.slice e'))∨P.underlying u=some .string)(h:C8 P t s x K w.heap):
  Wv P (Builtin.append_ #[t,u] ty #[s,x]) K w:=by
 unfold C8 at h;split at h
 ·rename_i e b sl sc a xl xc ht
  have hi:=Er h;obtain⟨⟨xs,d,g⟩,hz⟩:=pH h;exact ER ht c (fun w=>rfl) (fun w' f=>xg (by rw[f];exact d)) hi g
 ·rename_i e b sl sc x ht
  cases hb:bN (ce P e) 1 with
  |false=>rw[hb]at h;exact h.elim
  |true=>
   rw[hb]at h;have i:=aZ hb;have j:(dS x).length=x.size:=by simp[dS]
   refine ER ht c (fun w=>rfl) (fun w' _=>?_) (Ag (by omega)) h
   rw[CB,bv (by omega)]
 ·exact h.elim
theorem Be{n:Int}(b:0≤n)(a:n≤9223372036854775807):IntKind.i64.wrap n=n:=IntWalk.i64_in n ⟨by omega,a⟩
theorem M1{t e u ty:TypeId}{b:Option Addr}{sl g:Nat}{k0 k:IntKind}{l:Int}{z:List Value}{K:WK}{w:World}(y:vQ P t=some e)(A:P.underlying u=some (.int k0))
  (hz:qz P e=some z)(M:z.length=ce P e)(X:0≤l)(J:l*qI P e≤2^48)(V:l≤9223372036854775807)(Y:((sl+l.toNat:Nat):Int)≤9223372036854775807)
  (h:Sj P e b sl g l.toNat (dH l.toNat z) K w.heap):Wv P (Builtin.append_ #[t,u] ty #[.slice b sl g,.int k l]) K w:=by
 obtain⟨v,hv,F⟩:=kq hz;obtain⟨i,hi,W⟩:=re hv;have j:ce P e=i.size:=by simp[ce,hi]
 have C:qI P e=i.bytes:=by simp[qI,hi]
 have x:IntKind.wrap .i64 l=l:=Be X V;have c:¬l<0:=by omega
 rw[C]at J;have d:¬(281474976710656:Int)<l*i.bytes:=by omega
 have f:∀w':World,(asInt (.int k l)).run P w'=.ok l w':=fun w'=>rfl
 have G:(Builtin.zeroCells v.cells l.toNat)=(dH l.toNat z).toArray:=by apply de;rw[jV,F]
 have q:l.toNat*i.size=0→dH l.toNat z= []:=fun O=>by
  have E:(dH l.toNat z).length=l.toNat*i.size:=by rw[←j,←M];unfold dH;simp
  exact aF.1 (by rw[E,O])
 by_cases hc:sl+l.toNat≤g
 ·obtain⟨N,J,I⟩:=h.1 hc
  refine⟨_,_,?_,fp w (ga w.heap b (sl*ce P e) (dH l.toNat z)),I⟩;cases b with
  |none=>
   by_cases m:l.toNat*i.size=0
   ·simp[Builtin.append_,aA (dR y),aA A,sizeOf,cT hi,f,x,c,d,hc,m];rfl
   ·simp[Builtin.append_,aA (dR y),aA A,sizeOf,cT hi,f,x,c,d,hc,fy hv];rfl
  |some a=>
   have n:=DQ (P:=P) J N;rw[j]at n;by_cases m:l.toNat*i.size=0
   ·rw[q m]at n
    simp[Builtin.append_,aA (dR y),aA A,sizeOf,cT hi,f,x,c,d,hc,n,ga,j,m,q m]
   ·simp[Builtin.append_,aA (dR y),aA A,sizeOf,cT hi,f,x,c,d,hc,n,ga,j,m,fy hv,G]
 ·obtain⟨D,Z,T,B,L,Q,I⟩:=h.2 (by omega)
  rw[hz]at B;cases B;rw[C]at L Q;have S:¬i.bytes=0:=by omega
  have o:¬(281474976710656<Builtin.nextslicecap (sl+l.toNat) g*i.bytes):=by omega
  have U:¬(9223372036854775807:Int)<((sl:Int)+(l.toNat:Int)):=by omega
  have p:¬(9223372036854775807:Int)<((sl:Int)+max l 0):=by omega
  have s:(Builtin.firstCells (ce P e) sl (.slice b sl g)).run P w.drew=.ok D.toArray w.drew:=xg T;rw[j]at s;have R:sl+l.toNat≤(Question.appendCap (sl+l.toNat) g e).cut (w.tape w.drawn (.appendCap (sl+l.toNat) g e)):=pT _ _;refine⟨_,kr w.drew (hnew w.heap (D++dH l.toNat z++dH ((Question.appendCap (sl+l.toNat) g e).cut (w.tape w.drawn (.appendCap (sl+l.toNat) g e))-(sl+l.toNat)) z) e),?_,⟨rfl,rfl,rfl⟩,I _ R⟩
  have H:(Builtin.zeroCells v.cells ((Question.appendCap (sl+l.toNat) g e).cut (w.tape w.drawn (.appendCap (sl+l.toNat) g e))-(sl+l.toNat)))=(dH ((Question.appendCap (sl+l.toNat) g e).cut (w.tape w.drawn (.appendCap (sl+l.toNat) g e))-(sl+l.toNat)) z).toArray:=by
   apply de;rw[jV,F]
  by_cases m:l.toNat*i.size=0
  ·rw[q m]at I⊢
   simp[Builtin.append_,aA (dR y),aA A,sizeOf,cT hi,f,x,c,d,hc,p,o,Question.forced,s,fy hv,kD,H,aC,m];rfl
  ·simp[Builtin.append_,aA (dR y),aA A,sizeOf,cT hi,f,x,c,d,hc,p,o,Question.forced,s,fy hv,kD,H,aC,m,G];rfl
theorem DB{t u ty:TypeId}{k0:IntKind}{s x:Value}{K:WK}{w:World}(d:P.underlying u=some (.int k0))(h:DC P t s x K w.heap):
  Wv P (Builtin.append_ #[t,u] ty #[s,x]) K w:=by
 unfold DC at h;split at h
 ·rename_i e b sl sc k l ht
  split at h
  ·rename_i z hz
   cases hb:bN z.length (ce P e)with
   |false=>rw[hb]at h;exact h.elim
   |true=>
    rw[hb]at h;obtain⟨⟨f,c,a,g⟩,i⟩:=h;exact M1 ht d hz (aZ hb) f c a g i
  ·exact h.elim
 ·exact h.elim
theorem kG:∀{a b:List Value},cl a=true→cl b=true→cl (a++b)=true
 | [],_,_,h=>h
 |v::a,b,h,k=>by
  simp only[cl,dN,bE]at h⊢;exact⟨h.1,kG h.2 k⟩
theorem zV{z:List Value}(h:cl z=true):∀n,cl (dH n z)=true
 |0=>rfl
 |n+1=>by
  have:dH (n+1) z=z++dH n z:=by simp[dH,List.replicate_succ]
  rw[this];exact kG h (zV h n)
theorem Hr{t ty:TypeId}{x:Value}{K:WK}{w:World}(h:Ly P t x K w.heap):Wv P (Builtin.clear_ #[t] ty #[x]) K w:=by
 unfold Ly at h;split at h
 ·rename_i e a n c ht
  split at h
  ·rename_i z hz
   obtain⟨v,hv,f⟩:=kq hz;cases ho:cl z with
   |false=>rw[ho]at h;exact h.elim
   |true=>
    rw[ho]at h;obtain⟨g,i⟩:=h;refine⟨_,_,?_,fp w (ga w.heap a 0 (dH n z)),i⟩;cases a with
    |none=>simp[Builtin.clear_,aA (dR ht)];rfl
    |some a=>
     cases n with
     |zero=>simp[Builtin.clear_,aA (dR ht)];rfl
     |succ n=>
      have b:=DQ (P:=P) (zV ho (n+1)) g;rw[←uh,ET]at b;have d:(Builtin.zeroCells v.cells (n+1)).toList=dH (n+1) z:=by rw[jV,f]
      simp[Builtin.clear_,aA (dR ht),fy hv,d,b,ga]
  ·exact h.elim
 ·exact h.elim
theorem zW:∀(xs:List Value) (n:Nat),cl xs=true→cl (xs.take n)=true
 | [],n,_=>by simp[cl]
 |x::xs,0,_=>by simp[cl]
 |x::xs,n+1,h=>by
  simp only[cl,bE,List.take_succ_cons]at h⊢;exact⟨h.1,zW xs n h.2⟩
theorem FJ(x:ByteArray):cl (dS x)=true:=by
 have:∀l:List UInt8,cl (l.map fun b=>.int .u8 (b.toNat:Int))=true:=by
  intro l;induction l with
  |nil=>rfl
  |cons b l ih=>simp[cl,ih]
 exact this _
theorem Jh{t u ty:TypeId}{d s:Value}{K:WK}{w:World}(h:Ql P t d s K w.heap):Wv P (Builtin.copy_ #[t,u] ty #[d,s]) K w:=by
 unfold Ql at h;split at h
 ·rename_i e b dl dc a sl sc ht
  obtain⟨⟨xs,k,j,o,n⟩,hz⟩:=pH h;refine⟨_,_,?_,fp w (ga w.heap b 0 xs),n⟩;have g:=xg (P:=P) (len:=sl) (cap:=sc) k;cases b with
  |none=>simp[Builtin.copy_,aA (dR ht),Builtin.lenOf,hz,g,goInt];rfl
  |some c=>
   have f:=DQ (P:=P) (m:=0) o j;simp only[Addr.add,if_pos]at f;simp[Builtin.copy_,aA (dR ht),Builtin.lenOf,hz,g,goInt,f,ga]
 ·rename_i e b dl dc x ht
  cases hb:bN (ce P e) 1 with
  |false=>rw[hb]at h;exact h.elim
  |true=>
   rw[hb]at h;have o:=aZ hb;obtain⟨i,hi⟩:=Ag (P:=P) (t:=e) (by omega);have hz:(sizeOf e).run P w=.ok (ce P e) w:=by simp[sizeOf,cT hi,ce,hi]
   obtain⟨j,n⟩:=h;have q:(dS x).length=x.size:=by simp[dS]
   have p:(dS x).take (dZ x.size dl)=(dS x).take dl:=by
    by_cases hx:x.size≤dl
    ·rw[show dZ x.size dl=x.size from Nat.min_eq_left hx,bv (by omega),bv (by omega)]
    ·rw[show dZ x.size dl=dl from Nat.min_eq_right (by omega)]
   have g:(Builtin.firstCells (ce P e) (dZ x.size dl) (.string x)).run P w=.ok ((dS x).take dl).toArray w:=by
    rw[CB,p]
   refine⟨_,_,?_,fp w (ga w.heap b 0 ((dS x).take dl)),n⟩;cases b with
   |none=>simp[Builtin.copy_,aA (dR ht),Builtin.lenOf,hz,g,goInt];rfl
   |some c=>
    have f:=DQ (P:=P) (m:=0) (zW _ dl (FJ x)) j;simp only[Addr.add,if_pos]at f;simp[Builtin.copy_,aA (dR ht),Builtin.lenOf,hz,g,goInt,f,ga]
 ·exact h.elim
theorem NX(k v:Value)(a:Nat):∀(es:List MapEntry),(match es.findIdx? (fun e=>ie k e.key)with
  |some i=>(es.modify i (fun e=>{e with key:=k,val:=v}),a)
  |none=>(es++ [{key:=k,val:=v,born:=a}],a+1))=L6 k v a es
 | []=>rfl
 |e::es=>by
  have b:=NX k v a es;simp only[L6,List.findIdx?_cons];cases hk:ie k e.key with
  |true=>simp[List.modify]
  |false=>
   simp only[dB,if_false];rw[←b];cases hf:es.findIdx? (fun e=>ie k e.key)with
   |none=>simp
   |some i=>simp[List.modify]
theorem wG{d:TypeDesc}{c:CK}(hd:oW d c)(x:c.den):∀(es:List MapEntry) (i:Nat),Eo c es→
  Instr.findNow d (c.enc x) es i=some (match es.findIdx? (fun e=>ie (c.enc x) e.key)with
   |some j=>(es[j]?).map fun e=>(i+j,e.val)
   |none=>none)
 | [],i,_=>rfl
 |e::es,i,h=>by
  obtain⟨y,g⟩:=h e (by simp);have b:=Ci hd x y;rw[←g]at b;have k:=wG hd x es (i+1) fun f a=>h f (by simp[a])
  simp only[Instr.findNow,List.findIdx?_cons,b];cases hb:ie (c.enc x) e.key with
  |true=>simp
  |false=>
   simp only[dB,if_false];rw[k];cases hf:es.findIdx? (fun e=>ie (c.enc x) e.key)with
   |none=>simp
   |some j=>simp[jJ,Nat.add_comm 1 j]
theorem CX{a b:ByteArray}(h:(a==b)=true):a=b:=by
 cases a with|mk a=>cases b with|mk b=>
 have h:(a==b)=true:=h;rw[eq_of_beq h]
theorem EL(a:ByteArray):(a==a)=true:=by
 cases a with|mk a=>
 exact beq_self_eq_true a
theorem HI{d:TypeDesc}{c:CK}(hd:oW d c)(x y:c.den)(h:ie (c.enc x) (c.enc y)=true):Instr.sameBits 10000 (c.enc y) (c.enc x)=true:=by
 rcases hd with⟨i,rfl,rfl⟩|⟨rfl,rfl⟩|⟨rfl,rfl⟩
 ·have h:x=y:=eq_of_beq (α:=Int) h
  subst h;have:∀n:Int,(i==i&&n==n)=true:=fun n=>by simp
  exact this x
 ·have h:x=y:=CX h
  subst h;exact EL x
 ·have h:x=y:=eq_of_beq (α:=Bool) h
  subst h;exact beq_self_eq_true (α:=Bool) x
theorem ve{w:World}{r:Nat}{es:Array MapEntry}{a:Nat}{o:Obj}(h:w.heap[r]? =some (.map es a)):(setObj r o).run P w=.ok () (kr w (w.heap.setIfInBounds r o)):=by
 simp only[setObj,Sem.run,h];rfl
theorem Mh{t k e:TypeId}{d:TypeDesc}{c:CK}(A:P.underlying t=some (.map k e))(u:P.underlying k=some d)(hd:oW d c){r:Nat}{x:c.den}{v:Value}{w:World}(hm:OE c w.heap r):
  (Instr.mapUpdate t (.map (some r)) (c.enc x) v).run P w=.ok () (kr w (TE w.heap r (c.enc x) v)):=by
 obtain⟨es,a,j,f⟩:=hm;obtain⟨q,z,b,C⟩:=vl (P:=P) hd u x f w;rw[wG hd x es.toList 0 f]at b;have g:=NX (c.enc x) v a es.toList;have m:TE w.heap r (c.enc x) v=w.heap.setIfInBounds r (.map (L6 (c.enc x) v a es.toList).1.toArray (L6 (c.enc x) v a es.toList).2):=by
  simp only[TE,j]
 rw[m,←g];simp only[Instr.mapUpdate,Sem.run_bind,aA A,Result.andThen_ok,lZ j,nq hd u,z];cases hf:es.toList.findIdx? (fun e=>ie (c.enc x) e.key)with
 |none=>
  rw[hf]at b;simp only[bA.injEq]at b;subst b;simp only[ve j];congr 4
  apply de;simp
 |some i=>
  rw[hf]at b;simp only[bA.injEq]at b;obtain⟨hi,s,_⟩:=List.findIdx?_eq_some_iff_getElem.1 hf;have p:es.toList[i]? =some es.toList[i]:=af hi;rw[p]at b;simp only[gD,aI]at b;subst b;have o:es[i]? =some es.toList[i]:=by rw[←bJ];exact p
  obtain⟨y,B⟩:=f es.toList[i] (List.getElem_mem hi);have n:Instr.sameBits 10000 (es.toList[i]).key (c.enc x)=true:=by
   rw[B]at s⊢;exact HI hd x y s
  simp only[o,gD,Option.getD_some,Instr.keyThatStays,n,if_true,Sem.run_bind,Sem.run_pure,Result.andThen_ok,ve j];congr 4
  apply de;simp
theorem xU{t:TypeId}{m k v:Value}{K:WK}{w:World}(h:C7 P t m k v K w.heap):Wu P (Instr.mapUpdate t m k v) K w:=by
 unfold C7 at h;split at h
 ·rename_i c e m hc
  obtain⟨g,d,b,f,hd⟩:=wA hc;obtain⟨i,rfl,r,rfl,hm,a⟩:=CK.dec_sound h;exact⟨_,Mh b f hd hm,fp _ _,a⟩
 ·exact h.elim
theorem KA(k:Value):∀(es:List MapEntry),(match es.findIdx? (fun e=>ie k e.key)with
  |some i=>es.eraseIdx i
  |none=>es)=KB k es
 | []=>rfl
 |e::es=>by
  have a:=KA k es;simp only[KB,List.findIdx?_cons];cases hk:ie k e.key with
  |true=>simp
  |false=>
   simp only[dB,if_false];rw[←a];cases hf:es.findIdx? (fun e=>ie k e.key)<;>simp
theorem Kd{t k e ty:TypeId}{ts:Array TypeId}{d:TypeDesc}{c:CK}(y:ts[0]? =some t) (v:P.underlying t=some (.map k e)) (p:P.underlying k=some d) (hd:oW d c) {r:Nat} {x:c.den} {w:World} (hm:OE c w.heap r):
  (Builtin.delete_ ts ty #[.map (some r),c.enc x]).run P w=.ok (.tuple #[]) (kr w (N8 w.heap r (c.enc x))):=by
 obtain⟨es,f,m,j⟩:=hm;obtain⟨q,s,a,A⟩:=vl (P:=P) hd p x j w;rw[wG hd x es.toList 0 j]at a;have g:=KA (c.enc x) es.toList;have n:N8 w.heap r (c.enc x)=w.heap.setIfInBounds r (.map (KB (c.enc x) es.toList).toArray f):=by
  simp only[N8,m]
 rw[n,←g];simp only[Builtin.delete_,y,List.getElem?_toArray,List.getElem?_cons_zero,List.getElem?_cons_succ,Sem.run_bind,aA v,Result.andThen_ok,lZ m,nq hd p,s];cases hf:es.toList.findIdx? (fun e=>ie (c.enc x) e.key)with
 |none=>
  rw[hf]at a;simp only[bA.injEq]at a;subst a;simp[ve m]
 |some i=>
  rw[hf]at a;simp only[bA.injEq]at a;obtain⟨hi,z,_⟩:=List.findIdx?_eq_some_iff_getElem.1 hf;have u:es.toList[i]? =some es.toList[i]:=af hi;rw[u]at a;simp only[gD,aI]at a;subst a;have o:i<es.size:=by simpa using hi
  have b:es.eraseIdxIfInBounds i=(es.toList.eraseIdx i).toArray:=by
   apply de;simp[Array.eraseIdxIfInBounds,o]
  simp[ve m,b]
theorem Dy{t ty:TypeId}{ts:Array TypeId}{m k:Value}{K:WK}{w:World}(g:ts[0]? =some t) (h:Dz P t m k K w.heap):Wv P (Builtin.delete_ ts ty #[m,k]) K w:=by
 unfold Dz at h;split at h
 ·rename_i c e m hc
  obtain⟨i,d,b,f,hd⟩:=wA hc;obtain⟨j,rfl,h⟩:=CK.dec_sound h;rcases h with⟨rfl,a⟩|⟨r,rfl,hm,a⟩
  ·refine⟨_,w,?_,Tame.refl w,a⟩
   simp[Builtin.delete_,g,aA b,nq hd f]
  ·exact⟨_,_,Kd g b f hd hm,fp _ _,a⟩
 ·exact h.elim
theorem Pc{t k e:TypeId}(b:P.underlying t=some (.map k e)){m:Option Nat}{a:Nat}{w:World}(hm:m=none∧a=0∨∃r es,m=some r∧w.heap[r]? =some (.map es a)):
  (Instr.range t (.map m)).run P w=.ok (.pointer (some (aC w.heap))) (kr w (w.heap.push (.mapIter m a #[] a))):=by
 rcases hm with⟨rfl,rfl⟩|⟨r,es,rfl,c⟩
 ·simp only[Instr.range,Sem.run_bind,aA b,Result.andThen_ok,Sem.run_pure,D2,aC]
 ·simp only[Instr.range,Sem.run_bind,aA b,Result.andThen_ok,Sem.run_pure,lZ c,D2,aC]
theorem wq{w:World}{i:Nat}{m:Option Nat}{a:Nat}{c:Array Nat}{b:Nat}(h:w.heap[i]? =some (.mapIter m a c b)):(getObj i).run P w=.ok (.mapIter m a c b) w:=by
 simp only[getObj,Sem.run,h]
theorem JB{w:World}{i:Nat}{m:Option Nat}{a:Nat}{c:Array Nat}{b:Nat}{o:Obj}(h:w.heap[i]? =some (.mapIter m a c b)):(setObj i o).run P w=.ok () (kr w (w.heap.setIfInBounds i o)):=by
 simp only[setObj,Sem.run,h];rfl
theorem EI(n:Nat)(a:0<n)(w:World):∃k w',k<n∧(choose (.mapNext n)).run P w=.ok k w'∧Tame w w'∧w'.heap=w.heap:=by
 unfold choose;simp only[Sem.run];by_cases h:(Question.mapNext n).forced=true
 ·exact⟨0,w,a,by rw[if_pos h],Tame.refl w,rfl⟩
 ·refine⟨(Question.mapNext n).cut (w.tape w.drawn (.mapNext n)),{w with drawn:=w.drawn+1},Nat.mod_lt _ a,by rw[if_neg h],⟨rfl,rfl,rfl⟩,rfl⟩
theorem Jg{it:Value}{t:TypeId}{K:WK}{w:World}(h:Qk it K w.heap):Wv P (Instr.next it false t) K w:=by
 unfold Qk at h;split at h
 ·rename_i a
  obtain⟨Q,m,j,g,u,hi,h⟩:=h;obtain⟨b,off,N⟩:=a;simp only at Q hi h;subst Q;rcases h with⟨rfl,R⟩|⟨r,es,A,rfl,M,D,E,J⟩
  ·exact⟨_,w,by simp only[Instr.next,Sem.run_bind,wq hi,Result.andThen_ok,Sem.run_pure],Tame.refl w,R⟩
  ·have v:(!g.isEmpty&& !es.isEmpty&&es.all (fun e=>decide (e.born≥u)))=false:=by
    rcases D with h|h|h<;>simp[h]
   obtain⟨left,n⟩:∃left,left=es.filter fun e=> !g.contains e.born:=⟨_,rfl⟩
   obtain⟨i,q⟩:∃i,i=left.filter (·.born<j):=⟨_,rfl⟩
   obtain⟨z,hnew⟩:∃z,z=left.filter (·.born≥j):=⟨_,rfl⟩
   obtain⟨d,f⟩:∃d:Array (Option MapEntry),d=(if i.isEmpty then #[none]else #[])++(i++z).map some:=⟨_,rfl⟩
   have F:0<d.size:=by
    rw[f];by_cases B:i.isEmpty=true
    ·simp[B];omega
    ·have:i.size≠0:=by simpa using B
     simp[B];omega
   obtain⟨k,G,T,y,O,H⟩:=EI (P:=P) d.size F w;obtain⟨c,hc⟩:∃c,d[k]? =some c:=⟨d[k],Array.getElem?_eq_getElem T⟩;have I:G.heap[b]? =some (.mapIter (some r) j g u):=by rw[H];exact hi
   have o:(!g.isEmpty&& !es.isEmpty&&es.all fun x=>decide (x.born≥u))=false:=v
   cases c with
   |none=>
    refine⟨.tuple #[.bool false],G,?_,O,?_⟩
    ·simp only[Instr.next,Sem.run_bind,wq hi,Result.andThen_ok,Sem.run_pure,lZ M,o,dB,if_false,←n,←q,←hnew,←f,y,hc]
    ·rw[H]
     have s:i.isEmpty=true:=by
      have hm:none∈d:=pB hc;rw[f]at hm;by_cases B:i.isEmpty=true
      ·exact B
      ·simp[B]at hm
     refine E fun e S L=>?_
     cases hs:g.contains e.born with
     |true=>rfl
     |false=>
      have p:e∈i:=by
       rw[q,n];simp only[pV];exact⟨⟨by simpa using S,by rw[hs];rfl⟩,by simpa using L⟩
      rw[Array.isEmpty_iff]at s;rw[s]at p;simp at p
   |some e=>
    have p:e∈es∧g.contains e.born=false:=by
     have hm:some e∈d:=pB hc;have C:e∈left:=by
      rw[f]at hm;rw[Array.mem_append]at hm;rcases hm with hm|hm
      ·split at hm<;>simp at hm
      ·simp only[Array.mem_map,bA.injEq,exists_eq_right,Array.mem_append]at hm
       rcases hm with hm|hm
       ·rw[q]at hm;exact(pV.1 hm).1
       ·rw[hnew]at hm;exact(pV.1 hm).1
     rw[n]at C;have:=pV.1 C;exact⟨this.1,by simpa using this.2⟩
    refine⟨.tuple #[.bool true,e.key,e.val],kr G (G.heap.setIfInBounds b (.mapIter (some r) j (g.push e.born) A)),?_,O.trans (fp _ _),?_⟩
    ·simp only[Instr.next,Sem.run_bind,wq hi,Result.andThen_ok,Sem.run_pure,lZ M,o,dB,if_false,←n,←q,←hnew,←f,y,hc,JB I]
    ·rw[H]
     exact J e (by simpa using p.1) p.2
 ·exact h.elim
theorem FL{t e:TypeId}{z:List Value}{k k':IntKind}{l c:Int}{w:World}(u:vQ P t=some e)(hz:qz P e=some z)(b:z.length=ce P e)(D:0≤l)(E:l≤c)(B:c≤9223372036854775807)(A:qI P e*c≤2^48):
  (Instr.makeSlice t (.int k l) (.int k' c)).run P w=.ok (.slice (some (aC w.heap)) l.toNat c.toNat) (kr w (hnew w.heap (dH c.toNat z) e)):=by
 obtain⟨v,hv,d⟩:=kq hz;obtain⟨i,hi,C⟩:=re hv;have g:ce P e=i.size:=by simp[ce,hi]
 have m:qI P e=i.bytes:=by simp[qI,hi]
 have o:v.cells.size=i.size:=by rw[←g,←b,←d];simp
 have x:=Be D (by omega);have hc:=Be (show 0≤c by omega) B
 rw[m]at A;have s:¬(c<0):=by omega
 have y:¬(281474976710656<(i.bytes:Int)*c):=by omega
 have q:¬(l<0):=by omega
 have p:¬(c<l):=by omega
 by_cases a:c.toNat*i.size=0
 ·have n:(dH c.toNat z).length=0:=by simp[dH,b,g,a]
  rw[aF.1 n];simp[Instr.makeSlice,aA (dR u),asInt,asIntOf,cT hi,x,hc,s,y,q,p,sizeOf,a,kD]
 ·have f:((Array.range (c.toNat*i.size)).map (fun j=>v.cells[j%v.cells.size]!))=(dH c.toNat z).toArray:=by
   rw[←o,NI,d]
  have key:(newRow e ((Array.range (c.toNat*i.size)).map (fun j=>v.cells[j%v.cells.size]!))).run P w=.ok (aC w.heap) (kr w (hnew w.heap (dH c.toNat z) e)):=by
   rw[f,kD]
  simp[Instr.makeSlice,aA (dR u),asInt,asIntOf,cT hi,x,hc,s,y,q,p,sizeOf,a,fy hv];rw[key];rfl
theorem Agree.args{N:Nat}{r:cH}{a:Act}(h:Agree N r a){os:Array Operand}{vs:List Value}(hv:qC r os.toList=some vs):os.map a.eval=vs.toArray:=by
 rw[←oE h hv];apply de;simp
theorem HC.out{f:FuncId}{args:List Value}{ks:List Kind}{K:WK}{w:World}(h:HC P f args ks (fun x h'=>K (D9 ks (np ks x)) h') w.heap):KO P (callFunc f args.toArray) K w:=by
 rcases h.run w rfl with⟨b,d⟩|⟨v,w',b,c,x,rfl,a⟩
 ·refine .inr (.inr (.inl ⟨f,args.toArray,b,d.mono ?_⟩))
  rintro e w' ⟨c,x,rfl,a⟩;exact⟨c,_,rfl,a⟩
 ·exact .inl ⟨_,w',b,c,a⟩
theorem PL{a b e:TypeId}{s:ByteArray}{w:World}(k:P.underlying a=some .string)(hd:P.underlying b=some (.slice e))(j:P.underlying e=some (.int .u8)):
  ∃c,s.size≤c∧(convert a b (.string s)).run P w=.ok (.slice (some (aC w.heap)) s.size c) (kr w.drew (w.heap.push (.cells (dS s++dT (c-s.size) (Value.int .u8 0)).toArray e (c,c+1)))):=by
 have d:s.size≤grownCap w s.size 0 e:=pT _ _;refine⟨_,d,?_⟩;rw[Go.Lib.run_convert_string_bytes w a b e s k hd j];have hc:(Go.Lib.bytesCells w e s).size=grownCap w s.size 0 e:=by
  unfold Go.Lib.bytesCells;rw[Array.size_append,Array.size_map,Array.size_replicate,show s.data.size=s.size from rfl]
  omega
 have f:(dS s++dT (grownCap w s.size 0 e-s.size) (Value.int .u8 0)).toArray=Go.Lib.bytesCells w e s:=by
  unfold Go.Lib.bytesCells dS;apply de;simp
 rw[f];unfold Go.Lib.bytesWorld World.freeze;rw[if_neg (by omega),hc];unfold World.alloc World.drew kr;congr 1
 congr 1
 apply Array.ext (by simp);intro i m g;rw[Array.getElem_modify];simp only[Array.getElem_push];split
 ·rename_i e
  subst e;simp
 ·rename_i e
  have hi:i<w.heap.size:=by simp at g;omega
  rw[dif_pos hi,dif_pos hi]
theorem Bg{o:Oper}{r:cH}{K:WK}{w:World}{N:Nat}{a:Act}(G:Agree N r a)(j:Fz P o r K w.heap):KO P (execOp a.eval o) K w:=by
 have q:∀{x:Operand} {v:Value},dK r x=some v→a.eval x=v:=fun h=>l3 G h
 obtain⟨R,Y,type,nM,D,F⟩:=o;cases Y with
 |alloc t=>
  simp only[Fz]at j;split at j
  ·rename_i z hz
   obtain⟨v,hv,S⟩:=kq hz;have C:(Instr.alloc t true (.tuple #[])).run P w=.ok (.pointer (some (aC w.heap))) (kr w (hnew w.heap z t)):=by
    simp[Instr.alloc,fy hv,newVar,kD,S]
   exact Wv.out ⟨_,_,C,fp _ _,j⟩
  ·exact j.elim
 |box t x=>
  simp only[Fz]at j;split at j
  ·rename_i v hv
   have C:(Instr.box t v).run P w=.ok (.pointer (some (aC w.heap))) (kr w (hnew w.heap v.cells.toList t)):=by
    simp[Instr.box,newVar,kD]
   simp only[execOp,q hv];exact Wv.out ⟨_,_,C,fp _ _,j⟩
  ·exact j.elim
 |build t ps=>
  simp only[Fz]at j;split at j
  ·rename_i vs p
   split at j
   ·rename_i cs hcs
    have Q:(ps.map fun x=>(x.1,a.eval x.2))=vs.toArray:=by
     rw[←oG G p];apply de;simp
    have C:=Au (ps:=vs.toArray) (by simpa using hcs) w;simp only[execOp];rw[show(ps.map fun(i,x)=>(i,a.eval x))=vs.toArray from Q]
    exact Wv.out ⟨_,w,C,Tame.refl w,j⟩
   ·exact j.elim
  ·exact j.elim
 |buildSlice t n ps=>
  simp only[Fz]at j;split at j
  ·rename_i e vs E p
   split at j
   ·rename_i z hz
    cases hb:(xE (n*ce P e) 16777216&&bN z.length (ce P e))with
    |false=>rw[hb]at j;exact j.elim
    |true=>
     rw[hb]at j;simp only[bE]at hb;simp only[cond_true]at j;split at j
     ·rename_i cs hcs
      have Q:(ps.map fun x=>(x.1,a.eval x.2))=vs.toArray:=by
       rw[←oG G p];apply de;simp
      have C:=BP (ps:=vs.toArray) E hz (jg hb.1) (aZ hb.2) (by simpa using hcs) w;simp only[execOp];rw[show(ps.map fun(i,x)=>(i,a.eval x))=vs.toArray from Q]
      exact Wv.out ⟨_,_,C,fp _ _,j⟩
     ·exact j.elim
   ·exact j.elim
  ·exact j.elim
 |store t x y=>
  simp only[Fz]at j;split at j
  ·rename_i b v hb hv
   simp only[execOp,q hb,q hv];exact Wu.out (Hq j)
  ·exact j.elim
 |mapUpdate t m k x=>
  simp only[Fz]at j;split at j
  ·rename_i mv kv xv hm B hx
   simp only[execOp,q hm,q B,q hx];exact Wu.out (xU j)
  ·exact j.elim
 |insert t m k x=>
  simp only[Fz]at j;split at j
  ·rename_i mv kv xv hm B hx
   simp only[execOp,q hm,q B,q hx];exact Wu.out (xU j)
  ·exact j.elim
 |makeMap t n=>
  simp only[Fz]at j;cases n with
  |none=>exact Wv.out ⟨_,kr w (w.heap.push (.map #[] 0)),by simp[Instr.makeMap];rfl,fp _ _,j⟩
  |some n=>
   simp only at j;split at j
   ·rename_i k i hn E
    exact Wv.out ⟨_,kr w (w.heap.push (.map #[] 0)),by simp[Instr.makeMap,q hn,aA E,asInt,asIntOf];rfl,fp _ _,j⟩
   ·exact j.elim
 |makeSlice t l c=>
  simp only[Fz]at j;split at j
  ·rename_i e k l' k' c' E T hc
   split at j
   ·rename_i z hz
    cases hb:bN z.length (ce P e)with
    |false=>rw[hb]at j;exact j.elim
    |true=>
     rw[hb]at j;obtain⟨⟨Z,O,V,X⟩,j⟩:=j;simp only[execOp,q T,q hc];exact Wv.out ⟨_,_,FL E hz (aZ hb) Z O V X,fp _ _,j⟩
   ·exact j.elim
  ·exact j.elim
 |convert s d x=>
  simp only[Fz]at j;split at j
  ·rename_i e v U hd hx
   cases hu:Mv P e with
   |false=>rw[hu]at j;exact j.elim
   |true=>
    rw[hu]at j;obtain⟨c,hc,J⟩:=PL (w:=w) (s:=v) U hd (Ep hu);simp only[execOp,q hx];exact Wv.out ⟨_,_,J,⟨rfl,rfl,rfl⟩,j c hc⟩
  ·exact j.elim
 |range t x=>
  simp only[Fz]at j;split at j
  ·rename_i k e m hu hx
   obtain⟨W,hm,j⟩:=j;simp only[execOp,q hx];exact Wv.out ⟨_,_,Pc hu hm,fp _ _,j⟩
  ·exact j.elim
 |next it isS=>
  cases isS with
  |true=>simp only[Fz]at j
  |false=>
   simp only[Fz]at j;split at j
   ·rename_i v hv
    simp only[execOp,q hv];exact Wv.out (Jg j)
   ·exact j.elim
 |call c=>
  simp only[Fz]at j;have L:∀{b:Builtin} {vs:List Value},c.callee=.builtin b→qC r c.args.toList=some vs→∃cs:Array Bool,∀w,(execOp a.eval ⟨R,.call c,type,nM,D,F⟩).run P w=
    (builtin b c.argTypes type cs vs.toArray).run P w:=by
   intro b vs hc p;refine⟨c.args.map fun| .const _=>true|_=>false,fun w=>?_⟩
   simp[execOp,resolve,hc,G.args p,invoke];rfl
  have I:∀{s s':Sem Next},(∀w,s.run P w=s'.run P w)→KO P s' K w→KO P s K w:=by
   intro s s' C h;unfold KO at h⊢;simp only[C];exact h
  split at j
  ·rename_i s x hc p
   split at j
   ·rename_i t u hat
    obtain⟨cs,H⟩:=L hc p;refine I H ?_;have A:c.argTypes= #[t,u]:=by apply de;rw[hat]
    simp only[builtin,A];split at j
    ·rename_i e' hu;exact Wv.out (xV (.inl ⟨e',hu⟩) j)
    ·rename_i hu;exact Wv.out (xV (.inr hu) j)
    ·rename_i k0 hu;exact Wv.out (DB hu j)
    ·exact j.elim
   ·exact j.elim
  ·rename_i x hc p
   split at j
   ·rename_i t hat
    obtain⟨cs,H⟩:=L hc p;refine I H ?_;have A:c.argTypes= #[t]:=by apply de;rw[hat]
    simp only[builtin,A];exact Wv.out (Hr j)
   ·exact j.elim
  ·rename_i s x hc p
   split at j
   ·rename_i t u hat
    obtain⟨cs,H⟩:=L hc p;refine I H ?_;have A:c.argTypes= #[t,u]:=by apply de;rw[hat]
    simp only[builtin,A];exact Wv.out (Jh j)
   ·exact j.elim
  ·rename_i m k hc p
   split at j
   ·rename_i t u hat
    obtain⟨cs,H⟩:=L hc p;refine I H ?_;simp only[builtin];exact Wv.out (Dy (by rw[←bJ,hat];rfl) j)
   ·exact j.elim
  ·rename_i f args hc p
   unfold Ub at j;split at j
   ·exact j.elim
   ·rename_i ks hks
    split at j
    ·rename_i f
     refine I (s':=callFunc f args.toArray) (fun w=>?_) j.out
     simp[execOp,resolve,hc,G.args p,Act.eval,Deferred.ofValue,invoke]
    ·rename_i f hf
     split at j
     ·rename_i fv hfv
      rcases j.run with⟨g,first,cap,rfl,M⟩|⟨l,rfl,M⟩
      rotate_left
      ·obtain⟨fn,tmps,assign,body,O,V⟩:=M.run w rfl
       refine .inr (.inr (.inr ⟨l,fn,tmps,assign,body,?_,fun c cs=>?_⟩))
       ·rw[←O]
        simp[execOp,resolve,hc,G.args p,q hfv,Deferred.ofValue,invoke]
       ·obtain⟨b,w',E,B,U⟩:=V c cs
        refine⟨b,w',E,?_,U⟩;obtain⟨t,e,B⟩:=rO B;have T:ks.length=1:=by rw[←sO ks t,←e];rfl
        match ks,T,t,e,B with
        | [k],_,t,e,B=>rw[←e]at B;exact B
      refine I (s':=callFunc g (first.toList++args++cap.toList).toArray) (fun w=>?_) M.out
      have e:first++args.toArray++cap=(first.toList++args++cap.toList).toArray:=by apply de;simp
      rw[←e];simp[execOp,resolve,hc,G.args p,q hfv,Deferred.ofValue,invoke]
     ·exact j.elim
  ·exact j.elim
 |_=>simp only[Fz]at j
end Go.Lift
