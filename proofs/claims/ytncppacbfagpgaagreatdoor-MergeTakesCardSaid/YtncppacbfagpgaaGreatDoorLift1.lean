/- A part of the proof that the named laws of this program answer true, whatever the input. -/
import Derived.Test.YtncppacbfagpgaaGreatDoorLift0
import Derived.Laws.Append
import Derived.Laws.Cover3
import Derived.Laws.StructEq
import Derived.Laws.BytesString
import Derived.Lib.ConvBytes
open Array renaming ext'→dJ,getElem?_toList→bS,mem_of_getElem?→tA,mem_filter→ue
open Bool renaming and_eq_true→bq,false_eq_true→hJ
open ByteArray renaming data_extract→tc
open List renaming extract_eq_take_drop→jg,map_cons→fi,foldl_cons→jd,map_map→sP,take_of_length_le→bD,length_cons→ar,cons_append→cM,replicate→iJ,length_eq_zero_iff→aA,getElem?_eq_getElem→af
open Nat renaming beq→bX,add_assoc→mr,ble→BL,eq_of_beq_eq_true→bw,le_of_ble_eq_true→lF,add_zero→eg,zero_add→aR,le_add_right→tZ,min→eX
open Option renaming some→bO,isSome_iff_exists→jH,map_some→ja
open Prod renaming mk→qG
open UInt8 renaming ofNat→ii
namespace Go.Lift
open Go
def Zr(S:Option (ad→Prop))(h:ad):Prop:=match S with|none=>True|some f=>f h
def Yv(P:Program)(s:Sem Value)(K:RK)(h:ad):Prop:=∃v S,K v S∧Zr S h∧∀w:World,Zr S w.heap→s.run P w=.ok v w
theorem Yv.of_pure{P:Program}{s:Sem Value}{K:RK}{h:ad}{v:Value}(a:K v none)(b:∀w:World,s.run P w=.ok v w):Yv P s K h:=
 ⟨v,none,a,trivial,fun w _=>b w⟩
variable {P:Program}
theorem AR{t:TypeId}{f:Nat}{u:TypeId}{off:Nat}(h:AS P t f=some (u,off)):
  ∃fs g,P.underlying t=some (.struct fs)∧fs[f]? =some g∧g.type=u∧g.offset=off:=by
 unfold AS at h;split at h
 ·rename_i fs hu
  split at h
  ·rename_i g hg
   simp only[bO.injEq,qG.injEq]at h;exact⟨fs,g,hu,by simpa using hg,h.1,h.2⟩
  ·cases h
 ·cases h
theorem CM{t:TypeId}(h:bX (cB P t) 0=false)(w:World):(sizeOf t).run P w=.ok (cB P t) w:=by
 unfold cB at h⊢;cases hi:P.info? t with
 |none=>rw[hi]at h;cases h
 |some i=>simp[sizeOf,dz hi]
theorem HI{t:TypeId}{f:Nat}{u:TypeId}{off:Nat}{a:Addr}{K:RK}{h:ad}(d:AS P t f=some (u,off))
  (b:bif bX (cB P u) 0 then False else K (.pointer (some (adr a off))) none):Yv P (Instr.fieldAt t (.pointer (some a)) f) K h:=by
 obtain⟨k,g,i,j,rfl,rfl⟩:=AR d;cases hz:bX (cB P g.type) 0 with
 |true=>rw[hz]at b;exact b.elim
 |false=>
  rw[hz]at b;refine .of_pure b fun w=>?_
  have c:cB P g.type≠0:=fun e=>by rw[e]at hz;cases hz
  simp only[Instr.fieldAt,Sem.run_bind,aH i,Result.andThen_ok,j,Instr.sureAddr,Sem.run_pure,fieldPlace,CM hz];simp[c,xY]
theorem zG{t:TypeId}{i:TypeInfo}(_:P.info? t=some i)(a:∃d,P.underlying t=some d)(w:World):(isAgg t).run P w=.ok (zH P t) w:=by
 obtain⟨d,hd⟩:=a;simp only[isAgg,Sem.run_bind,aH hd,Result.andThen_ok];unfold zH;rw[hd];cases d<;>rfl
theorem D0{c:BinOp}{k k':IntKind}{a b:Int}{K:RK}{h:ad}(f:c=.shl∨c=.shr)(hv:RI c k a b K):Yv P (Op.shift c k a k' b) K h:=by
 rcases f with rfl|rfl
 ·obtain⟨e,d⟩:=hv
  refine .of_pure d fun w=>?_
  simp[Op.shift,Int.not_lt.2 e]
 ·obtain⟨e,d⟩:=hv
  refine .of_pure d fun w=>?_
  simp[Op.shift,Int.not_lt.2 e]
theorem SL{c:BinOp}{k:IntKind}{a b:Int}{K:RK}{h:ad}(hv:abN c k a b K)(f:c≠ .shl∧c≠ .shr):Yv P (binOp c 0 (.int k a) (.int k b)) K h:=by
 cases c<;>simp only[abN]at hv
 case quo=>obtain⟨d,e⟩:=hv;exact .of_pure e fun w=>by simp[binOp,Op.intDiv,d]
 case rem=>obtain⟨d,e⟩:=hv;exact .of_pure e fun w=>by simp[binOp,Op.intDiv,d]
 all_goals exact .of_pure hv fun w=>by simp[binOp,Op.intArith,Op.intBits,Op.intCmp]
theorem JY(c:BinOp)(t:TypeId)(k k':IntKind)(a b:Int):binOp c t (.int k a) (.int k' b)=binOp c 0 (.int k a) (.int k' b):=by
 cases c<;>rfl
theorem RG{c:BinOp}{t:TypeId}{a b:ByteArray}{K:RK}{h:ad}(hv:abp c a b K):Yv P (binOp c t (.string a) (.string b)) K h:=by
 cases c<;>simp only[abp]at hv
 case add=>
  obtain⟨e,d⟩:=hv;refine .of_pure d fun w=>?_
  have:¬(((a.size+b.size:Nat):Int)>IntKind.i64.max):=by
   have:IntKind.i64.max=9223372036854775807:=by decide
   omega
  simp only[binOp,Op.stringOp,if_neg this,Sem.run_pure]
 all_goals exact .of_pure hv fun w=>by simp[binOp,Op.stringOp]
theorem uH{t:TypeId}{x y:Value}{b:Bool}{w:World}(h:∀d,(Op.equalIn (d+1) t x y).run P w=.ok b w):(Op.equal t x y).run P w=.ok b w:=h 9999
theorem JG{t:TypeId}{e:TypeId}(b:P.underlying t=some (.pointer e))(a:Option Addr)(w:World):(Op.equal t (.pointer a) (.pointer none)).run P w=.ok a.isNone w:=by
 refine uH fun d=>?_
 simp only[Op.equalIn,Sem.run_bind,aH b,Result.andThen_ok];cases a<;>rfl
theorem S3(e:BinOp)(t:TypeId)(x y:Operand)(a b:Value)(h:∀c d,a=.agg c→b=.agg d→False)(hi:a=.nilIface→b=.nilIface→False)(w:World):
  (eqGuard e t x y a b).run P w=.ok () w:=by
 cases e;case eql=>cases a<;>cases b<;>first|rfl|exact(hi rfl rfl).elim|exact(h _ _ rfl rfl).elim
 case neq=>cases a<;>cases b<;>first|rfl|exact(hi rfl rfl).elim|exact(h _ _ rfl rfl).elim
 all_goals rfl
theorem WM(t:TypeId)(x y:Value)(hx:∀k a,x≠ .int k a)(d:∀s,x≠ .string s)(c:∀k a,x≠ .float k a)(hc:∀k a b,x≠ .complex k a b):binOp .eql t x y=(do pure (.bool (←Op.equal t x y))):=by
 cases x<;>first|rfl|exact absurd rfl (hx _ _)|exact absurd rfl (d _)|exact absurd rfl (c _ _)|exact absurd rfl (hc _ _ _)
theorem WL(t:TypeId)(x y:Value)(hx:∀k a,x≠ .int k a)(d:∀s,x≠ .string s)(c:∀k a,x≠ .float k a)(hc:∀k a b,x≠ .complex k a b):binOp .neq t x y=(do pure (.bool (!(←Op.equal t x y)))):=by
 cases x<;>first|rfl|exact absurd rfl (hx _ _)|exact absurd rfl (d _)|exact absurd rfl (c _ _)|exact absurd rfl (hc _ _ _)
theorem uI{t:TypeId}{neg:Bool}{x y:Value}{b:Bool}{w:World}(d:(Op.equal t x y).run P w=.ok b w)
  (hx:∀k a,x≠ .int k a)(e:∀s,x≠ .string s)(c:∀k a,x≠ .float k a)(hc:∀k a b,x≠ .complex k a b):
  (binOp (bif neg then .neq else .eql) t x y).run P w=.ok (.bool (bif neg then !b else b)) w:=by
 cases neg
 ·simp only[cond_false,WM t x y hx e c hc,Sem.run_bind,d,Result.andThen_ok,Sem.run_pure]
 ·simp only[cond_true,WL t x y hx e c hc,Sem.run_bind,d,Result.andThen_ok,Sem.run_pure]
theorem Ji{t:TypeId}{neg:Bool}{x y:Value}{K:RK}{h:ad}(hv:Z7 P t neg x y K):
  (∀c d,x=.agg c→y=.agg d→False)∧(x=.nilIface→y=.nilIface→False)∧Yv P (binOp (bif neg then .neq else .eql) t x y) K h:=by
 unfold Z7 at hv;split at hv
 ·rename_i e a hu
  refine⟨nofun,nofun,.of_pure hv fun w=>?_⟩
  exact uI (JG hu a w) nofun nofun nofun nofun
 ·rename_i k e a hu
  refine⟨nofun,nofun,.of_pure hv fun w=>?_⟩
  refine uI ?_ nofun nofun nofun nofun;refine uH fun d=>?_
  simp only[Op.equalIn,Sem.run_bind,aH hu,Result.andThen_ok];cases a<;>rfl
 ·rename_i e a _ _ _ _ hu
  refine⟨nofun,nofun,.of_pure hv fun w=>?_⟩
  refine uI ?_ nofun nofun nofun nofun;refine uH fun d=>?_
  simp only[Op.equalIn,Sem.run_bind,aH hu,Result.andThen_ok];cases a<;>rfl
 ·exact hv.elim
theorem Av{w:World}{a b:Addr}(f:gV w.heap a)(d:gV w.heap b):(sameAddr a b).run P w=.ok (a==b) w:=by
 obtain⟨i,p,f,z⟩:=f;obtain⟨j,x,d,y⟩:=d;by_cases c:a.block=b.block
 ·simp[sameAddr,c]
 ·have g:(a==b)=false:=by
   rw[beq_eq_false_iff_ne];intro e;exact c (by rw[e])
  have s:w.shape? a.block=some (p,i.size):=by simp[World.shape?,f]
  have q:w.shape? b.block=some (x,j.size):=by simp[World.shape?,d]
  have k:∀n,w.frozen? ({block:=a.block,off:=n}:Addr)=false:=fun n=>by simp[World.frozen?,f]
  have u:∀n,w.frozen? ({block:=b.block,off:=n}:Addr)=false:=fun n=>by simp[World.frozen?,d]
  have t:w.frozen? a=false:=by simp[World.frozen?,f]
  have v:w.frozen? b=false:=by simp[World.frozen?,d]
  obtain⟨m,hm⟩:∃m,i.size=m+1:=⟨i.size-1,by omega⟩
  obtain⟨n,o⟩:∃n,j.size=n+1:=⟨j.size-1,by omega⟩
  simp[sameAddr,c,noView,viewAt,mayBeOne,stringish,s,q,k,u,t,v,hm,o,g]
theorem MV{t:TypeId}{neg:Bool}{x y:Value}{K:RK}{h:ad}(hv:adj P t neg x y K h):
  (∀c d,x=.agg c→y=.agg d→False)∧(x=.nilIface→y=.nilIface→False)∧Yv P (binOp (bif neg then .neq else .eql) t x y) K h:=by
 unfold adj at hv;split at hv
 ·rename_i a b hu
  refine⟨nofun,nofun,.of_pure hv fun w=>?_⟩
  refine uI ?_ nofun nofun nofun nofun;refine uH fun d=>?_
  simp only[Op.equalIn,Sem.run_bind,aH hu,Result.andThen_ok,Sem.run_pure]
 ·rename_i e a b hu
  obtain⟨i,n,k⟩:=hv;refine⟨nofun,nofun,_,_,k,n,fun w m=>?_⟩
  refine uI ?_ nofun nofun nofun nofun;have f:bX (cB P e) 0=false:=by
   cases hb:bX (cB P e) 0 with
   |false=>rfl
   |true=>rw[hb]at i;exact i.elim
  have g:cB P e≠0:=fun e=>by rw[e]at f;cases f
  refine uH fun d=>?_
  simp only[Op.equalIn,Sem.run_bind,aH hu,Result.andThen_ok];cases a with
  |none=>cases b<;>rfl
  |some a=>cases b with
   |none=>rfl
   |some b=>
    obtain⟨j,h2⟩:=m a b rfl rfl;simp only[Sem.run_bind,CM f,Result.andThen_ok,ne_eq,g,not_false_eq_true,if_true,Av j h2];rfl
 ·exact hv.elim
theorem Sb{e:BinOp}{t:TypeId}{x y:Value}{K:RK}{h:ad}(hv:abz P e t x y K h):
  (∀c d,x=.agg c→y=.agg d→False)∧(x=.nilIface→y=.nilIface→False)∧Yv P (binOp e t x y) K h:=by
 unfold abz at hv;split at hv
 ·rename_i k a k' b
  refine⟨nofun,nofun,?_⟩;rw[JY];split at hv
  ·exact D0 (k':=k') (.inl rfl) hv
  ·exact D0 (k':=k') (.inr rfl) hv
  ·rename_i h1 h2
   cases hk:N1 k' k with
   |false=>rw[hk]at hv;exact hv.elim
   |true=>rw[hk]at hv;have:=Ej hk;subst this;exact SL hv ⟨h1,h2⟩
 ·exact⟨nofun,nofun,RG hv⟩
 ·split at hv
  ·exact MV (neg:=false) hv
  ·exact MV (neg:=true) hv
  ·exact hv.elim
theorem PR{u:TypeId}{cs:List Value}{off:Nat}(a:((P.underlying u).isSome&&(P.info? u).isSome)=true){w:World}(c:zH P u=true):
  (part u cs.toArray off).run P w=.ok (.agg ((cs.drop off).take (cB P u)).toArray) w:=by
 simp only[bq,jH]at a;obtain⟨a,i,hi⟩:=a;have b:(sizeOf u).run P w=.ok (cB P u) w:=by simp[sizeOf,dz hi,cB,hi]
 simp only[part,Sem.run_bind,zG hi a,Result.andThen_ok,c,if_true,b,Sem.run_pure];congr 2
 apply dJ;simp[jg]
theorem Mn{u:TypeId}{cs:List Value}{off:Nat}(a:((P.underlying u).isSome&&(P.info? u).isSome)=true){w:World}(c:zH P u=false){v:Value}(hc:cs[off]? =some v):
  (part u cs.toArray off).run P w=.ok v w:=by
 simp only[bq,jH]at a;obtain⟨a,i,hi⟩:=a;have b:cs.toArray[off]? =some v:=by simpa using hc
 simp only[part,Sem.run_bind,zG hi a,Result.andThen_ok,c,hJ,if_false,b,Sem.run_pure]
theorem CS{h:ad}:∀{l m:List (Option Addr×Option Addr)},uV h (l++m)→uV h l∧uV h m
 | [],_,h=>⟨trivial,h⟩
 |(_,_)::_,_,h=>⟨⟨h.1,(CS h.2).1⟩,(CS h.2).2⟩
theorem Qs{t:TypeId}{x y:Value}{b:Bool}{l:List (Option Addr×Option Addr)}(f:Yw P t x y=some (b,l)){w:World}(i:uV w.heap l)(d:Nat):
  (Op.equalIn (d+1) t x y).run P w=.ok b w:=by
 unfold Yw at f;split at f
 ·rename_i k0 k a k' c hu
  cases hk:N1 k' k with
  |false=>rw[hk]at f;cases f
  |true=>
   rw[hk]at f;have:=Ej hk;subst this;cases f;exact run_equalIn_int w d t _ _ _ _ hu
 ·rename_i a c hu
  cases f;exact run_equalIn_bool w d t _ _ hu
 ·rename_i a c hu
  cases f;exact run_equalIn_string w d t _ _ hu
 ·rename_i e a c hu
  cases hz:bX (cB P e) 0 with
  |true=>rw[hz]at f;cases f
  |false=>
   rw[hz]at f;cases f;have g:cB P e≠0:=fun e=>by rw[e]at hz;cases hz
   simp only[Op.equalIn,Sem.run_bind,aH hu,Result.andThen_ok];cases a with
   |none=>cases c<;>rfl
   |some a=>cases c with
    |none=>rfl
    |some c=>
     obtain⟨j,h2⟩:=i.1 a c rfl rfl;simp only[Sem.run_bind,CM hz,Result.andThen_ok,ne_eq,g,not_false_eq_true,if_true,Av j h2];rfl
 ·cases f
theorem JH{rec:TypeId→List Value→List Value→Option (Bool×List (Option Addr×Option Addr))}{d:Nat}{xs ys:List Value}{w:World}
  (e:∀t us vs b l,rec t us vs=some (b,l)→uV w.heap l→(Op.equalIn (d+1) t (.agg us.toArray) (.agg vs.toArray)).run P w=.ok b w):
  ∀(fs:List Field) (b:Bool) (l:List (Option Addr×Option Addr)),aat P rec xs ys fs=some (b,l)→uV w.heap l→(Op.eqFields (d+1) xs.toArray ys.toArray fs).run P w=.ok b w
 | [],b,l,he,_=>by cases he;rfl
 |f::fs,b,l,he,hp=>by
  unfold aat at he;split at he
  ·cases he
  ·rename_i hn
   cases hi:((P.underlying f.type).isSome&&(P.info? f.type).isSome)with
   |false=>rw[hi]at he;cases he
   |true=>
    rw[hi]at he;simp only[cond_true]at he;split at he
    ·rename_i b1 l1 c m e1 e2
     cases he;obtain⟨g,k⟩:=CS hp;have a:=JH e fs c m e2 k;have i:∃u v,(part f.type xs.toArray f.offset).run P w=.ok u w∧(part f.type ys.toArray f.offset).run P w=.ok v w∧(Op.equalIn (d+1) f.type u v).run P w=.ok b1 w:=by
      cases ha:zH P f.type with
      |true=>
       rw[ha]at e1;exact⟨_,_,PR hi ha,PR hi ha,e _ _ _ _ _ e1 g⟩
      |false=>
       rw[ha]at e1;simp only[cond_false]at e1;split at e1
       ·rename_i x y hx hy
        exact⟨x,y,Mn hi ha hx,Mn hi ha hy,Qs e1 g d⟩
       ·cases e1
     obtain⟨u,v,r1,r2,j⟩:=i;simp only[Op.eqFields,ne_eq,hn,not_false_eq_true,if_true,Sem.run_bind,r1,r2,j,Result.andThen_ok];cases b1
     ·rfl
     ·exact a
    ·cases he
theorem Dl{w:World}:∀(m:Nat) (t:TypeId) (xs ys:List Value) (b:Bool) (l:List (Option Addr×Option Addr)),Yx P m t xs ys=some (b,l)→uV w.heap l→
  ∀d,(Op.equalIn (d+m+1) t (.agg xs.toArray) (.agg ys.toArray)).run P w=.ok b w
 |0,_,_,_,_,_,he,_,_=>by cases he
 |m+1,t,xs,ys,b,l,he,hp,d=>by
  unfold Yx at he;split at he
  ·rename_i fs hu
   cases hs:P.stoodInHeld t with
   |true=>rw[hs]at he;cases he
   |false=>
    rw[hs]at he;have a:P.fieldsOf t=fs:=by simp[Program.fieldsOf,hu]
    rw[run_equalIn_struct w _ t _ _ (by rw[a];exact hu) hs,a];exact JH (d:=d+m) (fun t e vs b l c h2=>Dl m t e vs b l c h2 d) fs.toList b l he hp
  ·cases he
theorem MW{neg b:Bool}{K:RK}{h:ad}{l:List (Option Addr×Option Addr)}(a:adN neg b K h l):∃S,K (.bool (bif neg then !b else b)) S∧Zr S h∧∀h',Zr S h'→uV h' l:=by
 cases l with
 |nil=>exact⟨none,a,trivial,fun _ _=>trivial⟩
 |cons p l=>exact⟨_,a.2,a.1,fun _ h=>h⟩
theorem Sc{f:BinOp}{t:TypeId}{xs ys:Array Value}{x y:Operand}{K:RK}{h:ad}(a:abB P f t xs.toList ys.toList K h):
  ∃v S,K v S∧Zr S h∧∀w:World,Zr S w.heap→(do eqGuard f t x y (.agg xs) (.agg ys);binOp f t (.agg xs) (.agg ys):Sem Value).run P w=.ok v w:=by
 unfold abB at a;cases hg:P.eqGuardType P.depth t with
 |true=>rw[hg]at a;exact a.elim
 |false=>
  rw[hg]at a;simp only[cond_false]at a;split at a
  ·split at a
   ·rename_i b l he
    obtain⟨S,c,h2,e⟩:=MW a;refine⟨_,S,c,h2,fun w d=>?_⟩
    have:=Dl 10 t _ _ b l he (e _ d) 9989;simp only[Array.toArray_toList]at this;simp only[Sem.run_bind,run_eqGuard_agg w _ t x y _ _ hg,Result.andThen_ok,run_eql_struct,this];rfl
   ·exact a.elim
  ·split at a
   ·rename_i b l he
    obtain⟨S,c,h2,e⟩:=MW a;refine⟨_,S,c,h2,fun w d=>?_⟩
    have:=Dl 10 t _ _ b l he (e _ d) 9989;simp only[Array.toArray_toList]at this;simp only[Sem.run_bind,run_eqGuard_agg w _ t x y _ _ hg,Result.andThen_ok,run_neq_struct,this];rfl
   ·exact a.elim
  ·exact a.elim
theorem VO{a:UnOp}{x:Value}{K:RK}{h:ad}(hv:adv a x K):Yv P (Op.unary a x) K h:=by
 unfold adv at hv;split at hv
 ·exact .of_pure hv fun w=>rfl
 ·exact .of_pure hv fun w=>rfl
 ·exact .of_pure hv fun w=>rfl
 ·exact hv.elim
theorem JU:∀(l:List UInt8) (s:ByteArray),(l.map fun b=>((b.toNat:Nat):Int)).foldl (fun r n=>r.push (ii n.toNat)) s=⟨s.data++l.toArray⟩
 | [],s=>by simp
 |b::l,s=>by
  simp only[fi,jd];rw[JU l];congr 1
  have:ii ((b.toNat:Nat):Int).toNat=b:=by simp
  rw[this];apply dJ;simp[ByteArray.push]
theorem Ju{e:TypeId}(h:SJ P e=true):P.underlying e=some (.int .u8):=by
 unfold SJ at h;split at h
 ·assumption
 ·cases h
theorem Pu{w:World}{a:Addr}{vs:List Value}(b:Row w.heap a vs):(loadCells a vs.length).run P w=.ok vs.toArray w:=by
 have:=run_firstCells_some (P:=P) w 1 vs.length a 0 0 vs (by simp) fun j v hv=>by rw[←xY];exact b j v hv
 simpa[Builtin.firstCells]using this
theorem PI{f g:TypeId}{x:Value}{K:RK}{h:ad}(hv:XW P f g x K h):Yv P (convert f g x) K h:=by
 unfold XW at hv;split at hv
 ·rename_i k k' k'' n h1 h2
  exact .of_pure hv fun w=>by simp only[convert,Sem.run_bind,aH h1,aH h2,Result.andThen_ok];rfl
 ·rename_i s h1 h2
  exact .of_pure hv fun w=>by simp only[convert,Sem.run_bind,aH h1,aH h2,Result.andThen_ok];rfl
 ·rename_i e a n c h1 h2
  cases hu:SJ P e with
  |false=>rw[hu]at hv;exact hv.elim
  |true=>
   rw[hu]at hv;obtain⟨s,t,u⟩:=hv;refine⟨_,_,u,t,fun w m=>?_⟩
   rw[run_convert_bytes_string w f g e a n c h1 (Ju hu) h2];obtain⟨p,m⟩:=m;rcases m with o|⟨b,rfl,y⟩
   ·have j:s=ByteArray.empty:=by
     have:s.data.toList= []:=by simpa[fc]using o
     cases s with
     |mk d=>simp at this;subst this;rfl
    cases a with
    |none=>rw[j];rfl
    |some b=>
     have q:n=0:=by rw[←p,o];rfl
     subst q;have:=Pu (P:=P) (w:=w) (a:=b) (vs:= []) fun i v hv=>by simp at hv
     rw[run_bytesToString w b 0 c [] (by simpa using this),j];rfl
   ·have:=Pu (P:=P) y
    rw[p]at this;rw[run_bytesToString w b n c (s.data.toList.map fun b=>((b.toNat:Nat):Int)) (by rw[this,sP];rfl),JU]
    cases s;simp[ByteArray.empty,ByteArray.emptyWithCapacity];try rfl
 ·exact hv.elim
theorem Sk{u:TypeId}{cs:Array Value}{off:Nat}{K:RK}{h:ad}(b:∃d,P.underlying u=some d)(hi:∃i,P.info? u=some i)
  (hv:bif zH P u then K (.agg ((cs.toList.drop off).take (cB P u)).toArray) none else(match cs.toList[off]? with|some v=>K v none|none=>False)):Yv P (part u cs off) K h:=by
 obtain⟨i,hi⟩:=hi;cases ha:zH P u with
 |true=>
  rw[ha]at hv;refine .of_pure hv fun w=>?_
  have c:(sizeOf u).run P w=.ok (cB P u) w:=by simp[sizeOf,dz hi,cB,hi]
  simp only[part,Sem.run_bind,zG hi b,Result.andThen_ok,ha,if_true,c,Sem.run_pure];congr 2
  apply dJ;simp[jg]
 |false=>
  rw[ha]at hv;simp only[cond_false]at hv;cases hc:cs.toList[off]? with
  |none=>rw[hc]at hv;exact hv.elim
  |some v=>
   rw[hc]at hv;refine .of_pure hv fun w=>?_
   have a:cs[off]? =some v:=by simpa using hc
   simp only[part,Sem.run_bind,zG hi b,Result.andThen_ok,ha,hJ,if_false,a,Sem.run_pure]
def Ag(P:Program)(v:Option Value)(d y n:Nat):Prop:=
 match v with
 |some x=>∀c w,(Instr.sliceBound x y c).run P w=.ok n w
 |none=>n=d
theorem pK{v:Option Value}{d y:Nat}{K:Nat→Prop}(hv:YS v d y K):∃n,K n∧Ag P v d y n:=by
 unfold YS at hv;split at hv
 ·exact⟨d,hv,rfl⟩
 ·rename_i k i
  obtain⟨⟨b,a⟩,e⟩:=hv;refine⟨i.toNat,e,fun c w=>?_⟩
  simp[Instr.sliceBound,asIntOf,b,a]
 ·exact hv.elim
theorem tD{c:Bool}{len cap n l:Nat}{lo hi:Option Value}(b:Ag P hi len cap n)(a:Ag P lo 0 n l)(w:World):
  (Instr.sliceBounds c len cap lo hi none).run P w=.ok (l,n,cap) w:=by
 cases hi with
 |none=>
  cases lo with
  |none=>simp only[Ag]at b a;subst b;subst a;simp[Instr.sliceBounds]
  |some lo=>simp only[Ag]at b a;subst b;simp[Instr.sliceBounds,a]
 |some hi=>
  cases lo with
  |none=>simp only[Ag]at b a;subst a;simp[Instr.sliceBounds,b]
  |some lo=>simp only[Ag]at b a;simp[Instr.sliceBounds,b,a]
theorem FG{c:Bool}{len cap n l m:Nat}{lo:Option Value}{hi d:Value}(hm:Ag P (some d) 0 cap m)(b:Ag P (some hi) 0 m n)(a:Ag P lo 0 n l)(w:World):
  (Instr.sliceBounds c len cap lo (some hi) (some d)).run P w=.ok (l,n,m) w:=by
 cases lo with
 |none=>simp only[Ag]at hm b a;subst a;simp[Instr.sliceBounds,hm,b]
 |some lo=>simp only[Ag]at hm b a;simp[Instr.sliceBounds,hm,b,a]
theorem CI(a:Option Addr)(l m size:Nat):(if m=l then a else a.map (·.add (l*size)))=aW a l m size:=by
 unfold aW;split
 ·rfl
 ·congr 1;funext x;rw[xY]
theorem tG{t:TypeId}{K:Prop}(h:X6 P t K):K∧∀w,(sizeOf t).run P w=.ok (cB P t) w:=by
 unfold X6 at h;cases hi:P.info? t with
 |none=>rw[hi]at h;exact h.elim
 |some i=>rw[hi]at h;exact⟨h,fun w=>by simp[sizeOf,dz hi,cB,hi]⟩
theorem NL{t:TypeId}{x:Value}{f:Nat}{K:RK}{h:ad}(hv:R8 P t x f K):Yv P (Instr.field t x f) K h:=by
 unfold R8 at hv;split at hv
 ·rename_i u off cs hf
  obtain⟨j,g,a,e,rfl,rfl⟩:=AR hf;cases hb:((P.underlying g.type).isSome&&(P.info? g.type).isSome)with
  |false=>rw[hb]at hv;exact hv.elim
  |true=>
   rw[hb]at hv;simp only[bq,jH]at hb;obtain⟨v,S,b,i,c⟩:=Sk (cs:=cs) (off:=g.offset) (h:=h) hb.1 hb.2 hv;refine⟨v,S,b,i,fun w d=>?_⟩
   have:=c w d;simp only[Instr.field,Sem.run_bind,aH a,Result.andThen_ok,e,asAgg,Sem.run_pure,this]
 ·exact hv.elim
theorem FT{t:TypeId}{x i:Value}{K:RK}{h:ad}(hv:CR P t x i K):Yv P (Instr.indexAt t x i) K h:=by
 unfold CR at hv;split at hv
 ·rename_i n e a k i hu
  obtain⟨⟨⟨d,c⟩,f⟩,g⟩:=tG hv;refine .of_pure f fun w=>?_
  simp[Instr.indexAt,asIntOf,aH hu,Instr.sureAddr,d,c,g,xY]
 ·rename_i e b len cap k i hu
  obtain⟨⟨⟨d,c⟩,a,rfl,f⟩,g⟩:=tG hv;refine .of_pure f fun w=>?_
  simp[Instr.indexAt,asIntOf,aH hu,d,c,g,xY]
 ·exact hv.elim
theorem NK{t:TypeId}{x i:Value}{K:RK}{h:ad}(hv:RZ P t x i K):Yv P (Instr.index t x i) K h:=by
 unfold RZ at hv;split at hv
 ·rename_i s k i hu
  obtain⟨b,a,d,c⟩:=hv;refine .of_pure c fun w=>?_
  simp[Instr.index,asIntOf,aH hu,a,d]
 ·exact hv.elim
theorem NI{t:TypeId}{x:Value}{lo hi d:Option Value}{K:RK}{h:ad}(hv:RX P t x lo hi d K):Yv P (Instr.sliceAt t x lo hi d) K h:=by
 unfold RX at hv;split at hv
 ·rename_i s hu
  cases d with
  |some _=>exact hv.elim
  |none=>
   obtain⟨n,hv,b⟩:=pK (P:=P) hv;obtain⟨l,hv,c⟩:=pK (P:=P) hv;refine .of_pure hv fun w=>?_
   simp[Instr.sliceAt,Instr.slice,aH hu,tD b c]
 ·rename_i e a len cap hu
  obtain⟨hv,f⟩:=tG hv;cases d with
  |none=>
   obtain⟨n,hv,b⟩:=pK (P:=P) hv;obtain⟨l,hv,c⟩:=pK (P:=P) hv;refine .of_pure hv fun w=>?_
   simp[Instr.sliceAt,Instr.slice,aH hu,tD b c,f,CI]
  |some m=>
   cases hi with
   |none=>exact hv.elim
   |some hi=>
    obtain⟨i,hv,hm⟩:=pK (P:=P) hv;obtain⟨n,hv,b⟩:=pK (P:=P) hv;obtain⟨l,hv,c⟩:=pK (P:=P) hv;refine .of_pure hv fun w=>?_
    simp[Instr.sliceAt,Instr.slice,aH hu,FG hm b c,f,CI]
 ·rename_i n e a hu
  obtain⟨hv,f⟩:=tG hv;cases d with
  |some _=>exact hv.elim
  |none=>
   obtain⟨m,hv,b⟩:=pK (P:=P) hv;obtain⟨l,hv,c⟩:=pK (P:=P) hv;refine .of_pure hv fun w=>?_
   have g:(some (if n=l then a else a.add (l*cB P e)))=aW (some a) l n (cB P e):=by
    rw[←CI];split<;>rfl
   simp[Instr.sliceAt,aH hu,Instr.sureAddr,tD b c,f,g]
 ·exact hv.elim
def sA(d:TypeDesc)(c:CK):Prop:=(∃i,d=.int i∧c=.int i)∨(d=.string∧c=.str)∨(d=.bool∧c=.bool)
theorem AJ{t:TypeId}{c:CK}{e:TypeId}(h:P8 P t=some (c,e)):∃k d,P.underlying t=some (.map k e)∧P.underlying k=some d∧sA d c:=by
 unfold P8 at h;split at h
 ·rename_i k e' hu
  split at h
  ·rename_i i hk
   simp only[bO.injEq,qG.injEq]at h;obtain⟨rfl,rfl⟩:=h;exact⟨k,_,hu,hk,.inl ⟨i,rfl,rfl⟩⟩
  ·rename_i hk
   simp only[bO.injEq,qG.injEq]at h;obtain⟨rfl,rfl⟩:=h;exact⟨k,_,hu,hk,.inr (.inl ⟨rfl,rfl⟩)⟩
  ·rename_i hk
   simp only[bO.injEq,qG.injEq]at h;obtain⟨rfl,rfl⟩:=h;exact⟨k,_,hu,hk,.inr (.inr ⟨rfl,rfl⟩)⟩
  ·cases h
 ·cases h
theorem GQ{d:TypeDesc}{c:CK}(hd:sA d c)(x y:c.den):Instr.sameNow d (c.enc x) (c.enc y)=some (jT (c.enc x) (c.enc y)):=by
 rcases hd with⟨i,rfl,rfl⟩|⟨rfl,rfl⟩|⟨rfl,rfl⟩
 ·simp[Instr.sameNow,CK.enc,jT]
 ·simp[Instr.sameNow,CK.enc,jT]
 ·simp[Instr.sameNow,CK.enc,jT]
theorem G9{d:TypeDesc}{c:CK}(hd:sA d c)(x:c.den):∀(es:List MapEntry) (i:Nat),Jt c es→
  ∃r,Instr.findNow d (c.enc x) es i=some r∧r.map (·.2)=Qr (c.enc x) es
 | [],i,_=>⟨none,rfl,rfl⟩
 |e::es,i,h=>by
  obtain⟨y,g⟩:=h e (by simp);have b:=GQ hd x y;rw[←g]at b;simp only[Instr.findNow,Qr];cases hb:jT (c.enc x) e.key with
  |true=>rw[b,hb];exact⟨some (i,e.val),rfl,rfl⟩
  |false=>rw[b,hb];exact G9 hd x es (i+1) fun f a=>h f (by simp[a])
theorem QA{a:Bool}{k:TypeId}{d:TypeDesc}{c:CK}(hd:sA d c)(b:P.underlying k=some d)(v:Value)(n:Nat)(w:World):(Instr.checkKey a (n+1) k v).run P w=.ok () w:=by
 unfold Instr.checkKey;simp only[Sem.run_bind,aH b,Result.andThen_ok];rcases hd with⟨i,rfl,rfl⟩|⟨rfl,rfl⟩|⟨rfl,rfl⟩<;>rfl
theorem zj{k:TypeId}{d:TypeDesc}{c:CK}(hd:sA d c)(b:P.underlying k=some d)(x:c.den){es:List MapEntry}(h:Jt c es)(w:World):
  ∃r,(Instr.findKey k (c.enc x) es).run P w=.ok r w∧Instr.findNow d (c.enc x) es 0=some r∧r.map (·.2)=Qr (c.enc x) es:=by
 obtain⟨r,a,hm⟩:=G9 hd x es 0 h;refine⟨r,?_,a,hm⟩;simp only[Instr.findKey,Sem.run_bind,aH b,Result.andThen_ok,a,Sem.run_pure]
theorem oY{w:World}{r:Nat}{es:Array MapEntry}{a:Nat}(h:w.heap[r]? =some (.map es a)):(getObj r).run P w=.ok (.map es a) w:=by
 simp only[getObj,Sem.run,h]
theorem qr{a:Bool}{k:TypeId}{d:TypeDesc}{c:CK}(hd:sA d c)(b:P.underlying k=some d)(v:Value)(w:World):(Instr.checkKey a 10000 k v).run P w=.ok () w:=
 QA hd b v 9999 w
theorem Sx{t:TypeId}{c:CK}{e k:TypeId}{d:TypeDesc}(n:P.underlying t=some (.map k e))(f:P.underlying k=some d)(hd:sA d c){m:Option Nat}{x:c.den}{z v:Value}{b ok:Bool}{w:World}
  (o:(zeroValue e).run P w=.ok z w)(hm:Tq c z w.heap m (c.enc x) v b):
  (Instr.lookup t (.map m) (c.enc x) ok).run P w=.ok (bif ok then .tuple #[v,.bool b]else v) w:=by
 cases m with
 |none=>
  obtain⟨rfl,rfl⟩:=hm;simp only[Instr.lookup,Sem.run_bind,aH n,Result.andThen_ok,Sem.run_pure,qr hd f];obtain⟨r,i,h2,a⟩:=zj (P:=P) hd f x (es:= []) (fun _ h=>by cases h) w
  simp only[Instr.findNow,bO.injEq]at h2;subst h2;simp[i,o]
 |some r=>
  obtain⟨es,g,p,j,hv⟩:=hm;simp only[Instr.lookup,Sem.run_bind,aH n,Result.andThen_ok,oY p,Sem.run_pure,qr hd f];obtain⟨r,i,h2,a⟩:=zj (P:=P) hd f x j w;simp only[i,Result.andThen_ok];cases r with
  |none=>
   simp only[Option.map_none]at a;rw[←a]at hv;obtain⟨rfl,rfl⟩:=hv;simp[o]
  |some r=>
   simp only[ja]at a;rw[←a]at hv;obtain⟨rfl,rfl⟩:=hv;cases ok<;>rfl
theorem gn{e:TypeId}{z:Value}(h:B5 P e=some z)(w:World):(zeroValue e).run P w=.ok z w:=by
 unfold B5 at h;cases hi:P.info? e with
 |none=>rw[hi]at h;cases h
 |some i=>rw[hi]at h;simp only at h;simp[zeroValue,dz hi,h]
theorem K8{t:TypeId}{x k:Value}{ok:Bool}{K:RK}{h:ad}(hv:NJ P t x k ok K h):Yv P (Instr.lookup t x k ok) K h:=by
 unfold NJ at hv;split at hv
 ·rename_i c e m hc
  obtain⟨j,d,a,f,hd⟩:=AJ hc;obtain⟨n,rfl,hv⟩:=CK.dec_sound hv;split at hv
  ·rename_i ek z hek hz
   obtain⟨y,b,hm,i⟩:=hv;exact⟨_,_,i,hm,fun w g=>Sx a f hd (gn hz w) g⟩
  ·exact hv.elim
 ·exact hv.elim
theorem RY{t:TypeId}{x:Value}{ats:Array TypeId}{ty:TypeId}{K:RK}{h:ad}(a:ats[0]? =some t) (hv:abx P t x K h):Yv P (Builtin.len_ ats ty #[x]) K h:=by
 unfold abx at hv;split at hv
 ·rename_i s hu
  exact .of_pure hv fun w=>by simp[Builtin.len_,a,aH hu,goInt]
 ·rename_i n e _ hu
  exact .of_pure hv fun w=>by simp[Builtin.len_,a,aH hu,goInt]
 ·rename_i e b n c hu
  exact .of_pure hv fun w=>by simp[Builtin.len_,a,aH hu,goInt]
 ·rename_i k e m hu
  obtain⟨n,hm,g⟩:=hv;refine⟨_,_,g,hm,fun w f=>?_⟩
  cases m with
  |none=>
   have:n=0:=f;subst this;simp[Builtin.len_,a,aH hu,goInt]
  |some r=>
   obtain⟨es,d,i,rfl⟩:=f;simp[Builtin.len_,a,aH hu,goInt,oY i]
 ·exact hv.elim
theorem Sa{t:TypeId}{x:Value}{ats:Array TypeId}{ty:TypeId}{K:RK}{h:ad}(a:ats[0]? =some t) (hv:aby P t x K):Yv P (Builtin.cap_ ats ty #[x]) K h:=by
 unfold aby at hv;split at hv
 ·rename_i e b n c hu
  exact .of_pure hv fun w=>by simp[Builtin.cap_,a,aH hu,goInt]
 ·exact hv.elim
theorem Eb{c:Bool}{k:IntKind}:∀{vs:List Value} {a:Int} {f:Value→Prop},NW c k a vs f→∃v,f v∧∀w,(vs.foldlM (bif c then Builtin.max2 else Builtin.min2) (Value.int k a):Sem Value).run P w=.ok v w
 | [],a,f,h=>⟨_,h,fun w=>by simp⟩
 | .int k' b::vs,a,f,h=>by
  simp only[NW]at h;cases hk:N1 k' k with
  |false=>rw[hk]at h;exact h.elim
  |true=>
   rw[hk]at h;have:=Ej hk;subst this;obtain⟨v,d,e⟩:=Eb h;refine⟨v,d,fun w=>?_⟩
   rw[←e w];cases c<;>simp[List.foldlM_cons,Builtin.max2,Builtin.min2]
theorem Cd{a:Bool}{vs:List Value}{f:Value→Prop}{ats:Array TypeId}{ty:TypeId}(h:H4 a vs f):∃v,f v∧∀w,(bif a then Builtin.max_ ats ty vs.toArray else Builtin.min_ ats ty vs.toArray).run P w=.ok v w:=by
 unfold H4 at h;split at h
 ·obtain⟨v,b,c⟩:=Eb (P:=P) h
  refine⟨v,b,fun w=>?_⟩
  have:=c w;cases a<;>simpa[Builtin.max_,Builtin.min_]using this
 ·exact h.elim
theorem Wo{a:Addr}{e:MapEntry}{w:World}(i:a.off=0)(h:Ts w.heap a.block e):(Instr.entry (.pointer (some a))).run P w=.ok (.tuple #[e.key,e.val]) w:=by
 obtain⟨m,c,d,f,g,es,hi,o,hm,k⟩:=h;obtain⟨b,off,j⟩:=a;simp only at i hi;subst i;have n:(getObj b).run P w=.ok (.mapIter (some m) c d f) w:=by simp only[getObj,Sem.run,hi]
 simp[Instr.entry,n,o,oY hm,k]
def LS:DV→Value→Prop
 | .t,v=>v=.bool true
 | .f,v=>v=.bool false
 | .u,v=>v=undef
 | .x,_=>True
def DecOk(d:yW)(r:cZ):Prop:=∀t,vp d t=.x∨∃v,mU r t=some v∧LS (vp d t) v
theorem DecOk.at{d:yW}{r:cZ}(h:DecOk d r){t:Nat}{v:Value}(hv:mU r t=some v):LS (vp d t) v:=by
 rcases h t with e|⟨u,a,b⟩
 ·rw[e];trivial
 ·rw[hv]at a;cases a;exact b
theorem yy{d:yW}{r:cZ}(hd:DecOk d r){o:Operand}{v:Value}(h:eD r o=some v):LS (Ew d o) v:=by
 cases o with
 |tmp t=>exact hd.at h
 |const c=>
  simp[eD]at h;subst h;cases c with
  |bool b=>cases b<;>exact rfl
  |_=>trivial
 |global g=>trivial
 |func f=>trivial
theorem G3{t:TypeId}(h:ux P t=true):∃d,P.underlying t=some d∧∀m,d≠ .interface m:=by
 unfold ux at h;split at h
 ·cases h
 ·rename_i d hd;exact⟨_,hd,fun m e=>by subst e;simp_all⟩
 ·cases h
theorem Ed{t:TypeId}{v:Value}(h:ux P t=true)(w:World):(Instr.makeInterface t v).run P w=.ok (.iface t v) w:=by
 obtain⟨d,hd,a⟩:=G3 h;simp only[Instr.makeInterface,Sem.run_bind,aH hd,Result.andThen_ok];cases d<;>first|exact absurd rfl (a _)|rfl
theorem Is{t u:TypeId}{v:Value}(h:ux P t=true)(w:World):(Instr.typeAssert (.iface t v) u t false).run P w=.ok v w:=by
 obtain⟨d,hd,a⟩:=G3 h;simp only[Instr.typeAssert,Sem.run_bind,aH hd,Result.andThen_ok];cases d<;>first|exact absurd rfl (a _)|(simp[Sem.run_pure])
theorem mR{t:TypeId}{z:List Value}(h:uR P t=some z):∃v,B5 P t=some v∧v.cells.toList=z:=by
 unfold uR at h;cases hz:B5 P t with
 |none=>rw[hz]at h;cases h
 |some v=>rw[hz]at h;simp only[bO.injEq]at h;exact⟨v,rfl,h⟩
theorem vD{t:TypeId}{v:Value}(h:B5 P t=some v):∃i,P.info? t=some i∧i.zero=some v:=by
 unfold B5 at h;cases hi:P.info? t with
 |none=>rw[hi]at h;cases h
 |some i=>rw[hi]at h;exact⟨i,rfl,h⟩
theorem YC{A B:List Value}{x:Value}{m:Nat}(h:A.length=m):(A++x::B).take (m+1)=A++ [x]:=by
 subst h;rw[List.take_append,bD (by omega),show A.length+1-A.length=1 by omega];rfl
theorem YE{A B:List Value}{x:Value}{m n:Nat}(h:A.length=m):(A++x::B).drop (m+1+n)=B.drop n:=by
 subst h;rw[List.drop_append,List.drop_eq_nil_of_le (by omega),show A.length+1+n-A.length=n+1 by omega];rfl
theorem Qo(off:Nat):∀(xs:List Value) (k:Nat) (arr:Array Value),off+k+xs.length≤arr.size→
  (xs.zipIdx k).foldl (fun cs (c,j)=>cs.setIfInBounds (off+j) c) arr=(PN arr.toList (off+k) xs).toArray
 | [],k,arr,_=>by simp[PN]
 |x::xs,k,arr,h=>by
  simp only[ar]at h;simp only[List.zipIdx_cons,jd];rw[Qo off xs (k+1) _ (by simp;omega)];have hm:off+k<arr.toList.length:=by simp;omega
  have b:arr.toList.set (off+k) x=arr.toList.take (off+k)++x::arr.toList.drop (off+k+1):=by
   rw[List.set_eq_take_append_cons_drop,if_pos hm]
  have a:(arr.toList.take (off+k)).length=off+k:=by simp;omega
  congr 1
  unfold PN;rw[Array.toList_setIfInBounds,b,←mr,YC a,YE a];simp only[List.append_assoc,cM,List.nil_append,ar,List.drop_drop];rw[show off+k+1+xs.length=off+k+(xs.length+1) by omega]
theorem wW{a:Nat→Option (Nat×Nat)}:∀(parts:List (Nat×Value)) (cs cs':List Value),Ha a cs parts=some cs'→Instr.fill a cs.toArray parts=some cs'.toArray
 | [],cs,cs',h=>by simp only[Ha,bO.injEq]at h;subst h;rfl
 |(i,v)::rest,cs,cs',h=>by
  simp only[Ha]at h;cases hp:a i with
  |none=>rw[hp]at h;cases h
  |some os=>
   obtain⟨off,size⟩:=os;rw[hp]at h;simp only at h;cases hb:(bX v.cells.toList.length size&&BL (off+v.cells.toList.length) cs.length)with
   |false=>rw[hb]at h;cases h
   |true=>
    rw[hb]at h;simp only[bq]at hb;have c:=bw hb.1;have h2:=lF hb.2;have e:=wW rest _ _ h;have f:v.cells.size=size:=by simpa using c
    have d:off+v.cells.size≤cs.length:=by simpa using h2
    have b:Array.foldl (fun cs x=>cs.setIfInBounds (off+x.2) x.1) cs.toArray v.cells.zipIdx=(PN cs off v.cells.toList).toArray:=by
     have:=Qo off v.cells.toList 0 cs.toArray (by simpa using d);simp only[eg]at this;rw[←this,←Array.foldl_toList];congr 1
     simp[Array.toList_zipIdx]
    simp only[Instr.fill,hp];rw[if_neg (by simp[f];omega)];simp only[b];exact e
theorem rN{N:Nat}{r:cZ}{a:Act}(h:Agree N r a):∀{ps:List (Nat×Operand)} {vs:List (Nat×Value)},uw r ps=some vs→ps.map (fun p=>(p.1,a.eval p.2))=vs
 | [],vs,hv=>by simp[uw]at hv;subst hv;rfl
 |(i,o)::ps,vs,hv=>by
  simp only[uw]at hv;cases ho:eD r o with
  |none=>simp[ho]at hv
  |some v=>cases hos:uw r ps with
   |none=>simp[ho,hos]at hv
   |some us=>simp[ho,hos]at hv;subst hv;simp[oZ h ho,rN h hos]
theorem uC{t:TypeId}(h:BE P t=true)(w:World):(sizeOf t).run P w=.ok (cB P t) w:=by
 unfold BE at h;cases hi:P.info? t with
 |none=>rw[hi]at h;cases h
 |some i=>simp[sizeOf,dz hi,cB,hi]
theorem Jb(w:World):∀l:List Field,ED P l=true→(l.mapM fun f:Field=>((do pure (f.offset,←sizeOf f.type)):Sem (Nat×Nat))).run P w=.ok (l.map fun f:Field=>(f.offset,cB P f.type)) w
 | [],_=>rfl
 |f::l,h=>by
  simp only[ED]at h;cases hf:BE P f.type with
  |false=>rw[hf]at h;cases h
  |true=>
   rw[hf]at h;rw[List.mapM_cons];simp only[Sem.run_bind,uC hf,Result.andThen_ok,Sem.run_pure,Jb w l h,fi]
theorem EC{t:TypeId}{ps:Array (Nat×Value)}{cs:List Value}(a:Oi P t ps.toList=some cs)(w:World):
  (Instr.build t ps).run P w=.ok (.agg cs.toArray) w:=by
 unfold Oi at a;split at a
 ·rename_i fs z hu c
  obtain⟨v,c,hv⟩:=mR c;cases ha:ED P fs.toList with
  |false=>rw[ha]at a;cases a
  |true=>
   rw[ha]at a;have j:(fs.mapM fun f:Field=>((do pure (f.offset,←sizeOf f.type)):Sem (Nat×Nat))).run P w=.ok (fs.map fun f:Field=>(f.offset,cB P f.type)) w:=by
    rw[Array.mapM_eq_mapM_toList];simp only[Sem.run_map,Jb w fs.toList ha,Result.andThen_ok];congr 1
    apply dJ;simp
   have g:=wW _ _ _ a;have b:(fun i:Nat=>(fs.map fun f:Field=>(f.offset,cB P f.type))[i]?)=Sh P fs.toList:=by
    funext i;unfold Sh;rw[Array.getElem?_map,bS];cases fs[i]?<;>rfl
   have d:v.cells=z.toArray:=by rw[←hv]
   rw[cond_true]at a;rw[←b]at g;simp only[Instr.build,Sem.run_bind,gn c,Result.andThen_ok,aH hu,j,d,g,Sem.run_pure]
 ·rename_i n e z hu c
  obtain⟨v,c,hv⟩:=mR c;cases ha:BE P e with
  |false=>rw[ha]at a;cases a
  |true=>
   rw[ha]at a;have g:=wW _ _ _ a;have d:v.cells=z.toArray:=by rw[←hv]
   simp only[Instr.build,Sem.run_bind,gn c,Result.andThen_ok,aH hu,uC ha,d,g,Sem.run_pure]
 ·cases a
theorem Mk{ek:Option (Kind×Kind)}{o:Oper}{r:cZ}{K:RK}{h:ad}{N:Nat}{a:Act}(R:Agree N r a)(g:FS P ek o.op r K h)(d:yW)(hd:DecOk d r):
  ∃v S,K v S∧Zr S h∧LS (OZ d o.op) v∧∀w:World,Zr S w.heap→(execOp a.eval o).run P w=.ok (.value v) w:=by
 have j:∀{x:Operand} {v:Value},eD r x=some v→a.eval x=v:=fun h=>oZ R h
 have z:∀{s:Sem Value},Yv P s K h→OZ d o.op=.x→(∀w,(execOp a.eval o).run P w=(do pure (Next.value (←s)):Sem Next).run P w)→
   ∃v S,K v S∧Zr S h∧LS (OZ d o.op) v∧∀w:World,Zr S w.heap→(execOp a.eval o).run P w=.ok (.value v) w:=by
  rintro s ⟨v,S,n,C,A⟩ hx F;exact⟨v,S,n,C,by rw[hx];trivial,fun w D=>by rw[F w];exact lP (A w D)⟩
 obtain⟨Q,M,type,qP,G,H⟩:=o;simp only at g z⊢;cases M with
 |move x=>
  simp only[FS]at g;split at g
  ·rename_i v hv
   exact⟨v,none,g,trivial,yy hd hv,fun w _=>by simp[execOp,j hv]⟩
  ·exact g.elim
 |assign x=>
  simp only[FS]at g;split at g
  ·rename_i v hv
   exact⟨v,none,g,trivial,yy hd hv,fun w _=>by simp[execOp,j hv]⟩
  ·exact g.elim
 |pick c x y=>
  simp only[FS]at g;split at g
  ·rename_i vc va vb hc hx T
   unfold aaW at g;split at g
   ·rename_i cb
    have J:=yy hd hc;have V:=yy hd hx;have Z:=yy hd T;have F:∀w,(execOp a.eval ⟨Q,.pick c x y,type,qP,G,H⟩).run P w=.ok (.value (if cb then va else vb)) w:=fun w=>by
     simp[execOp,j hc,j hx,j T,asBool]
    have L:LS (OZ d (.pick c x y)) (if cb then va else vb):=by
     simp only[OZ];cases hcd:Ew d c with
     |t=>
      rw[hcd]at J;have:cb=true:=by simpa[LS]using J
      subst this;exact V
     |f=>
      rw[hcd]at J;have:cb=false:=by simpa[LS]using J
      subst this;exact Z
     |u=>trivial
     |x=>trivial
    split at g
    ·rename_i bx by'
     have O:(if cb=true then Value.bool bx else Value.bool by')=.bool (bif cb then bx else by'):=by cases cb<;>rfl
     rw[O]at L;exact⟨_,none,g,trivial,L,fun w _=>by rw[F w,O]⟩
    ·cases cb
     ·exact⟨_,none,g,trivial,L,fun w _=>F w⟩
     ·exact⟨_,none,g,trivial,L,fun w _=>F w⟩
   ·exact g.elim
  ·exact g.elim
 |load t x=>
  simp only[FS]at g;split at g
  ·rename_i v hv
   obtain⟨u,S,n,C,A⟩:=GT g;exact z ⟨u,some S,n,C,A⟩ rfl fun w=>by simp only[execOp,j hv]
  ·exact g.elim
 |nilCheck x=>
  simp only[FS]at g;split at g
  ·rename_i p hv
   obtain⟨b,rfl,n⟩:=g;exact⟨_,none,n,trivial,trivial,fun w _=>by simp[execOp,j hv]⟩
  ·exact g.elim
 |binOp M t x y yt=>
  simp only[FS]at g;split at g
  ·rename_i v u hv hu
   obtain⟨X,S,n,C,A⟩:=Sc (x:=x) (y:=y) g;refine⟨X,S,n,C,trivial,fun w D=>?_⟩
   simp only[execOp,j hv,j hu];exact lP (A w D)
  ·rename_i v u hna hv hu
   have go:(∀c d,v=.agg c→u=.agg d→False)∧(v=.nilIface→u=.nilIface→False)∧Yv P (binOp M t v u) K h:=by
    split at g
    ·exact Ji (neg:=false) g
    ·exact Ji (neg:=true) g
    ·exact Sb g
   obtain⟨h1,h2,X,S,n,C,A⟩:=go;refine⟨X,S,n,C,trivial,fun w D=>?_⟩
   simp only[execOp,j hv,j hu];simp[S3 M t x y v u h1 h2 w,A w D]
  ·exact g.elim
 |unOp M t x=>
  simp only[FS]at g;split at g
  ·rename_i v hv
   obtain⟨u,S,n,C,A⟩:=VO (P:=P) (h:=h) g;refine⟨u,S,n,C,?_,fun w D=>by simp only[execOp,j hv];exact lP (A w D)⟩
   have I:=yy hd hv;cases M<;>try trivial
   simp only[OZ];have B:=A {(default:World)with heap:=h} C;cases hx:Ew d x with
   |t=>
    rw[hx]at I;have:v=.bool true:=I;subst this;simp[Op.unary]at B;exact B.symm
   |f=>
    rw[hx]at I;have:v=.bool false:=I;subst this;simp[Op.unary]at B;exact B.symm
   |u=>trivial
   |x=>trivial
  ·exact g.elim
 |convert s t x=>
  simp only[FS]at g;split at g
  ·rename_i v hv
   exact z (PI g) rfl fun w=>by simp only[execOp,j hv]
  ·exact g.elim
 |extract x i=>
  simp only[FS]at g;split at g
  ·rename_i vs hv
   split at g
   ·rename_i u hu
    have W:vs[i]? =some u:=by simpa using hu
    exact⟨u,none,g,trivial,trivial,fun w _=>by simp[execOp,j hv,Instr.extract,W]⟩
   ·exact g.elim
  ·exact g.elim
 |fieldAddr t x f=>
  simp only[FS]at g;split at g
  ·rename_i b u off hv hf
   exact z (HI hf g) rfl fun w=>by simp only[execOp,j hv]
  ·exact g.elim
 |field t x f=>
  simp only[FS]at g;split at g
  ·rename_i v hv
   exact z (NL g) rfl fun w=>by simp only[execOp,j hv]
  ·exact g.elim
 |indexAddr t x i=>
  simp only[FS]at g;split at g
  ·rename_i v u hv hu
   exact z (FT g) rfl fun w=>by simp only[execOp,j hv,j hu]
  ·exact g.elim
 |index t x i=>
  simp only[FS]at g;split at g
  ·rename_i v u hv hu
   exact z (NK g) rfl fun w=>by simp only[execOp,j hv,j hu]
  ·exact g.elim
 |slice t x lo hi mx=>
  simp only[FS]at g;split at g
  ·rename_i v l h' m hv hl hh hm
   have U:∀{x:Option Operand} {v:Option Value},Mq r x=some v→x.map a.eval=v:=by
    intro x v hx;cases x with
    |none=>simp[Mq]at hx;subst hx;rfl
    |some x=>
     simp only[Mq]at hx;cases F:eD r x with
     |none=>simp[F]at hx
     |some u=>simp[F]at hx;subst hx;simp[j F]
   exact z (NI g) rfl fun w=>by simp only[execOp,j hv,U hl,U hh,U hm]
  ·exact g.elim
 |lookup t x k ok=>
  simp only[FS]at g;split at g
  ·rename_i v u hv hu
   exact z (K8 g) rfl fun w=>by simp only[execOp,j hv,j hu]
  ·exact g.elim
 |makeInterface t x=>
  simp only[FS]at g;split at g
  ·rename_i v hv
   cases hb:ux P t with
   |false=>rw[hb]at g;exact g.elim
   |true=>
    rw[hb,cond_true]at g;exact⟨_,none,g,trivial,trivial,fun w _=>by simp only[execOp,j hv];exact lP (Ed hb w)⟩
  ·exact g.elim
 |typeAssert x u t ok=>
  simp only[FS]at g;split at g
  ·rename_i v hv
   cases ok with
   |true=>exact g.elim
   |false=>
    rw[cond_false]at g;unfold UA at g;cases hb:ux P t with
    |false=>rw[hb]at g;exact g.elim
    |true=>
     rw[hb,cond_true]at g;split at g
     ·obtain⟨y,rfl,n⟩:=g
      exact⟨_,none,n,trivial,trivial,fun w _=>by simp only[execOp,j hv];exact lP (Is hb w)⟩
     ·exact g.elim
  ·exact g.elim
 |makeFunc fn first cap=>
  simp only[FS]at g;split at g
  ·rename_i vs us hv hu
   have O:=rL R hv;have e2:=rL R hu;refine⟨_,none,g,trivial,trivial,fun w _=>?_⟩
   have Y:first.map a.eval=vs.toArray:=by rw[←O];apply dJ;simp
   have f2:cap.map a.eval=us.toArray:=by rw[←e2];apply dJ;simp
   simp[execOp,Instr.makeFunc,Y,f2]
  ·exact g.elim
 |entry it=>
  simp only[FS]at g;split at g
  ·rename_i b kk vk hv
   obtain⟨h0,e,x,y,hi,n,T,hK⟩:=g;refine⟨_,_,hK,hi,trivial,fun w D=>?_⟩
   simp only[execOp,j hv];refine lP ?_;rw[Wo h0 D,n,T]
  ·exact g.elim
 |call c=>
  simp only[FS]at g;have E:∀{b:Builtin} {vs:List Value},c.callee=.builtin b→uU r c.args.toList=some vs→∃cs:Array Bool,∀w,(execOp a.eval ⟨Q,.call c,type,qP,G,H⟩).run P w=
    (builtin b c.argTypes type cs vs.toArray).run P w:=by
   intro b vs hc q;have O:=rL R q;have Y:c.args.map a.eval=vs.toArray:=by rw[←O];apply dJ;simp
   refine⟨c.args.map fun| .const _=>true|_=>false,fun w=>?_⟩
   simp[execOp,resolve,hc,Y,invoke];rfl
  split at g
  ·rename_i v t hc q hat
   obtain⟨cs,E⟩:=E hc q;obtain⟨u,S,n,C,A⟩:=RY (ats:=c.argTypes) (ty:=type) (by rw[←bS,hat];rfl) g;exact⟨u,S,n,C,trivial,fun w D=>by rw[E w];simp only[builtin];exact lP (A w D)⟩
  ·rename_i v t hc q hat
   obtain⟨cs,E⟩:=E hc q;obtain⟨u,S,n,C,A⟩:=Sa (h:=h) (ats:=c.argTypes) (ty:=type) (by rw[←bS,hat];rfl) g;exact⟨u,S,n,C,trivial,fun w D=>by rw[E w];simp only[builtin];exact lP (A w D)⟩
  ·rename_i vs hc q
   obtain⟨cs,E⟩:=E hc q;obtain⟨u,n,A⟩:=Cd (P:=P) (ats:=c.argTypes) (ty:=type) g;exact⟨u,none,n,trivial,trivial,fun w _=>by rw[E w];simp only[builtin];exact lP (A w)⟩
  ·rename_i vs hc q
   obtain⟨cs,E⟩:=E hc q;obtain⟨u,n,A⟩:=Cd (P:=P) (ats:=c.argTypes) (ty:=type) g;exact⟨u,none,n,trivial,trivial,fun w _=>by rw[E w];simp only[builtin];exact lP (A w)⟩
  ·exact g.elim
 |build t ps=>
  simp only[FS]at g;split at g
  ·rename_i vs q
   split at g
   ·rename_i cs hcs
    refine⟨_,none,g,trivial,trivial,fun w _=>?_⟩
    have hp:(ps.map fun x=>(x.1,a.eval x.2))=vs.toArray:=by
     rw[←rN R q];apply dJ;simp
    have F:=EC (ps:=vs.toArray) (by simpa using hcs) w;simp only[execOp];rw[show(ps.map fun(i,x)=>(i,a.eval x))=vs.toArray from hp]
    exact lP F
   ·exact g.elim
  ·exact g.elim
 |_=>simp only[FS]at g
end Go.Lift
namespace Go.Lift
open Go
variable {P:Program}
def QJ(P:Program)(s:Sem Next)(K:WK)(w:World):Prop:=
 (∃v a,s.run P w=.ok (.value v) a∧Tame w a∧K v a.heap)∨
 (∃a,s.run P w=.ok .skip a∧Tame w a∧K undef a.heap)∨
 (∃f args,s.run P w=.ok (.enter f args) w∧Calls P f args w fun e a=>Tame w a∧∃v,e=.returned v∧K v a.heap)∨
 (∃l fn tmps assign body,s.run P w=.ok (.round l fn tmps assign body) w∧
  ∀(c:Frame) (cs:List Frame),∃b a,Tame w a∧K (.bool b) a.heap∧Steps P (lone (Frame.round l fn tmps assign body .normal) (c::cs) w) (lone (c.finish (.bool b)) cs a))
def Wv(P:Program)(s:Sem Value)(K:WK)(w:World):Prop:=∃v w',s.run P w=.ok v w'∧Tame w w'∧K v w'.heap
theorem Wv.out{s:Sem Value}{K:WK}{w:World}(h:Wv P s K w):QJ P (do pure (Next.value (←s))) K w:=by
 obtain⟨v,d,c,a,b⟩:=h;exact .inl ⟨v,d,lP c,a,b⟩
def Wu(P:Program)(s:Sem Unit)(K:WK)(w:World):Prop:=∃w',s.run P w=.ok () w'∧Tame w w'∧K undef w'.heap
theorem Wu.out{s:Sem Unit}{K:WK}{w:World}(h:Wu P s K w):QJ P (do s;pure Next.skip) K w:=by
 obtain⟨d,c,a,b⟩:=h;exact .inr (.inl ⟨d,XL c,a,b⟩)
def mS(w:World)(h:ad):World:={w with heap:=h}
theorem gb(w:World)(h:ad):Tame w (mS w h):=⟨rfl,rfl,rfl⟩
theorem mZ(e:TypeId)(cs:Array Value)(w:World):(newRow e cs).run P w=.ok (ay w.heap) (mS w (hnew w.heap cs.toList e)):=by
 simp[newRow,newObj,Sem.run,ay,mS,hnew,bind,Sem.bind,pure]
theorem IS(o:Obj)(w:World):(newObj o).run P w=.ok w.heap.size (mS w (w.heap.push o)):=rfl
theorem Ll{h:ad}{a b:Addr}(v:Value)(c:a≠b):aJ (hset h a v) b=aJ h b:=
 World.cell?_setCell_other {(default:World)with heap:=h} a b v c
theorem HH{h:ad}{a:Addr}{u:Value}(v:Value)(hc:aJ h a=some u):aJ (hset h a v) a=some v:=
 World.cell?_setCell_same {(default:World)with heap:=h} a v hc
theorem N4{h:ad}{a b:Addr}(v:Value):H7 (hset h a v) b=H7 h b:=
 World.frozen?_setCell {(default:World)with heap:=h} a b v
theorem Wr.hset{h:ad}{a b:Addr}(v:Value)(f:Wr h b):Wr (hset h a v) b:=by
 obtain⟨⟨u,c⟩,d⟩:=f;refine⟨?_,by rw[N4];exact d⟩
 by_cases e:a=b
 ·subst e;exact⟨v,HH v c⟩
 ·exact⟨u,by rw[Ll v e];exact c⟩
theorem RR{w:World}{a:Addr}{v:Value}(hv:∀cs,v≠ .agg cs)(b:∀cs,v≠ .tuple cs)(g:Wr w.heap a):(store a v).run P w=.ok () (mS w (hset w.heap a v)):=by
 obtain⟨⟨u,f⟩,e⟩:=g;have c:w.cell? a=some u:=f;have d:w.frozen? a=false:=e;cases v<;>first|exact absurd rfl (hv _)|exact absurd rfl (b _)|(simp only[store,Sem.run,c,d];rfl)
theorem NU{v:Value}{vs:List Value}(h:cH (v::vs)=true):(∀cs,v≠ .agg cs)∧(∀cs,v≠ .tuple cs)∧cH vs=true:=by
 simp only[cH,bq]at h;refine⟨fun cs e=>?_,fun cs e=>?_,h.2⟩<;>(subst e;exact absurd h.1 (by simp))
theorem vP{a:Addr}:∀(vs:List Value) (i:Nat) (w:World),cH vs=true→(∀j,j<vs.length→Wr w.heap (adr a (i+j)))→
  (storeCells a vs i).run P w=.ok () (mS w (fS w.heap a i vs))
 | [],i,w,_,_=>rfl
 |v::vs,i,w,b,hw=>by
  obtain⟨d,e,b⟩:=NU b;have c:=hw 0 (by simp);simp only[eg]at c;have f:a.add i=adr a i:=(xY a i).symm;simp only[storeCells,f,Sem.run_bind,RR d e c,Result.andThen_ok];rw[vP vs (i+1) (mS w (hset w.heap (adr a i) v)) b fun j g=>?_]
  ·rfl
  ·have:=hw (j+1) (by simp only[ar];omega)
   rw[show i+1+j=i+(j+1) by omega]
   exact this.hset v
theorem MM{a:Addr}(m:Nat):∀(vs:List Value) (i:Nat) (h:ad),fS h (adr a m) i vs=fS h a (m+i) vs
 | [],_,_=>rfl
 |v::vs,i,h=>by
  simp only[fS];rw[MM m vs (i+1),sy];rfl
theorem Nn{t:TypeId}{a v:Value}{K:WK}{w:World}(c:Ry P t a v K w.heap):Wu P (Instr.storeAt t a v) K w:=by
 unfold Ry at c;split at c
 ·rename_i a
  cases hb:(bX v.cells.toList.length (cB P t)&&cH v.cells.toList)with
  |false=>rw[hb]at c;exact c.elim
  |true=>
   rw[hb]at c;simp only[bq]at hb;have o:=bw hb.1;obtain⟨c,n⟩:=tG c;have k:v.cells.size=cB P t:=by simpa using o
   have m:(∀j,j<v.cells.toList.length→Wr w.heap (adr a (0+j)))→(Instr.storeAt t (.pointer (some a)) v).run P w=.ok () (mS w (fS w.heap a 0 v.cells.toList)):=by
    intro d;have:=vP (P:=P) v.cells.toList 0 w hb.2 d;simp[Instr.storeAt,Instr.sureAddr,storeVar,n,k,this]
   split at c
   ·rename_i u hu
    obtain⟨d,i⟩:=c;refine⟨_,m (fun j f=>?_),gb _ _,?_⟩
    ·rw[hu]at f;simp only[ar,List.length_nil]at f
     obtain rfl:j=0:=by omega
     exact d
    ·rw[hu];exact i
   ·obtain⟨d,i⟩:=c
    refine⟨_,m (fun j f=>?_),gb _ _,i⟩
    rcases d with e|⟨b,g,d⟩
    ·rw[e]at f;cases f
    ·cases g;exact d j f
 ·exact c.elim
theorem mE(z:Array Value)(n:Nat):(Builtin.zeroCells z n).toList=eK n z.toList:=by
 have key:∀n,(List.range (n*z.size)).map (fun i=>z[i%z.size]!)=(iJ n z.toList).flatten:=by
  intro n;induction n with
  |zero=>simp
  |succ n ih=>
   rw[Nat.succ_mul,List.range_add,List.map_append,ih,List.replicate_succ',List.flatten_append];congr 1
   simp only[sP,List.flatten_cons,List.flatten_nil,List.append_nil];apply List.ext_getElem
   ·simp
   ·intro i a h2
    simp only[List.length_map,List.length_range]at a;simp[Nat.mod_eq_of_lt a,a,Nat.add_mod]
 simpa[Builtin.zeroCells,eK]using key n
theorem eH{t e:TypeId}(h:zS P t=some e):P.underlying t=some (.slice e):=by
 unfold zS at h;split at h
 ·rename_i e' hu;simp only[bO.injEq]at h;subst h;exact hu
 ·cases h
theorem T9{z:Value}{n:Nat}:((Array.range (n*z.cells.size)).map (z.cells[· %z.cells.size]!))=(eK n z.cells.toList).toArray:=by
 have:=mE z.cells n;unfold Builtin.zeroCells at this;apply dJ;rw[this]
theorem Gf{t e:TypeId}{n:Nat}{ps:Array (Nat×Value)}{z cs:List Value}(o:zS P t=some e)(m:uR P e=some z)(s:n*cB P e≤16777216)(j:z.length=cB P e)
  (q:Ha (fun i=>some (i*cB P e,cB P e)) (eK n z) ps.toList=some cs)(w:World):
  (Instr.buildSlice t n ps).run P w=.ok (.slice (some (ay w.heap)) n n) (mS w (hnew w.heap cs e)):=by
 obtain⟨v,hv,c⟩:=mR m;obtain⟨i,hi,k⟩:=vD hv;have p:(sizeOf e).run P w=.ok (cB P e) w:=by simp[sizeOf,dz hi,cB,hi]
 have d:v.cells.size=cB P e:=by rw[←j,←c];simp
 have g:=wW _ _ _ q;have a:((Array.range (n*cB P e)).map (fun i=>(if n*cB P e=0 then #[]else v.cells)[i%(if n*cB P e=0 then #[]else v.cells).size]!))=(eK n z).toArray:=by
  by_cases b:n*cB P e=0
  ·have:(eK n z).length=0:=by simp[eK,j,b]
   rw[aA.1 this];simp[b]
  ·simp only[if_neg b]
   rw[←d,T9,c]
 have f:¬(n*cB P e>2^24):=by omega
 simp only[Instr.buildSlice,Sem.run_bind,aH (eH o),Result.andThen_ok,p,if_neg f];by_cases b:n*cB P e=0
 ·simp only[if_pos b]at a
  simp only[if_pos b,Sem.run_bind,Sem.run_pure,Result.andThen_ok,a,g,mZ]
 ·simp only[if_neg b]at a
  simp only[if_neg b,Sem.run_bind,Sem.run_pure,Result.andThen_ok,gn hv,a,g,mZ]
theorem VK{h:ad}{a:Addr}{vs:List Value}(b:Row h a vs):∀j v,vs[j]? =some v→aJ h (a.add j)=some v:=fun j v hv=>by
 rw[←xY];exact b j v hv
theorem Bv{size n cap len:Nat}{b:Option Addr}{vs:List Value}{w:World}(d:SRow w.heap b (n*size) vs):(Builtin.firstCells size n (.slice b len cap)).run P w=.ok vs.toArray w:=by
 obtain⟨c,a⟩:=d;cases b with
 |none=>
  rcases a with rfl|⟨_,h,_⟩
  ·simp[Builtin.firstCells]
  ·cases h
 |some b=>
  refine run_firstCells_some w size n b len cap vs c fun j v hv=>?_
  rcases a with rfl|⟨_,h,a⟩
  ·cases hv
  ·cases h;exact VK a j v hv
theorem IC{a:Addr}{m:Nat}{xs:List Value}{w:World}(e:cH xs=true)(c:rE w.heap (some a) m xs):
  (storeCells (a.add m) xs).run P w=.ok () (mS w (fS w.heap a m xs)):=by
 rcases c with rfl|⟨b,f,c⟩
 ·rfl
 ·cases f
  have:=vP (P:=P) (a:=adr a m) xs 0 w e fun j d=>by rw[sy,aR];exact c j d
  rw[←xY,this,MM,eg]
set_option maxHeartbeats 1000000 in
theorem J0{t e u ty:TypeId}{b:Option Addr}{sl f d:Nat}{xs:List Value}{x:Value}{K:WK}{w:World}(A:zS P t=some e)(k:(∃y,P.underlying u=some (.slice y))∨P.underlying u=some .string)
  (g:∀w,(Builtin.lenOf x).run P w=.ok d w)(hx:∀w':World,w'.heap=w.heap→(Builtin.firstCells (cB P e) d x).run P w'=.ok xs.toArray w')
  (hi:∃i,P.info? e=some i)
  (h:YY P e b sl f d xs K w.heap):Wv P (Builtin.append_ #[t,u] ty #[.slice b sl f,x]) K w:=by
 obtain⟨i,hi⟩:=hi;have j:cB P e=i.size:=by simp[cB,hi]
 have H:u0 P e=i.bytes:=by simp[u0,hi]
 by_cases hc:sl+d≤f
 ·obtain⟨N,M,B⟩:=h.1 hc
  refine⟨_,_,?_,gb w (ia w.heap b (sl*cB P e) xs),B⟩;cases b with
  |none=>
   have c:=hx w rfl;rw[j]at c;rcases k with⟨y,hd⟩|hd<;>(simp[Builtin.append_,aH (eH A),aH hd,sizeOf,dz hi,g,hc,c];rfl)
  |some a=>
   have q:=IC (P:=P) M N;have c:=hx w rfl;rw[j]at q c;rcases k with⟨y,hd⟩|hd<;>(simp[Builtin.append_,aH (eH A),aH hd,sizeOf,dz hi,g,hc,c,q,ia,j])
 ·obtain⟨n,z,I,L,E,F,B⟩:=h.2 (by omega)
  obtain⟨v,hv,G⟩:=mR L;obtain⟨O,m,J⟩:=vD hv;rw[hi]at m;cases m;rw[H]at E F;have o:¬i.bytes=0:=by omega
  have p:¬(281474976710656<Builtin.nextslicecap (sl+d) f*i.bytes):=by omega
  have c:=hx w.drew rfl;have s:(Builtin.firstCells (cB P e) sl (.slice b sl f)).run P w.drew=.ok n.toArray w.drew:=Bv I;rw[j]at c s;have C:sl+d≤(Question.appendCap (sl+d) f e).cut (w.tape w.drawn (.appendCap (sl+d) f e)):=tZ _ _;refine⟨_,mS w.drew (hnew w.heap (n++xs++eK ((Question.appendCap (sl+d) f e).cut (w.tape w.drawn (.appendCap (sl+d) f e))-(sl+d)) z) e),?_,⟨rfl,rfl,rfl⟩,B _ C⟩
  have D:(Builtin.zeroCells v.cells ((Question.appendCap (sl+d) f e).cut (w.tape w.drawn (.appendCap (sl+d) f e))-(sl+d)))=(eK ((Question.appendCap (sl+d) f e).cut (w.tape w.drawn (.appendCap (sl+d) f e))-(sl+d)) z).toArray:=by
   apply dJ;rw[mE,G]
  rcases k with⟨y,hd⟩|hd<;>(simp[Builtin.append_,aH (eH A),aH hd,sizeOf,dz hi,g,hc,o,p,Question.forced,c,s,gn hv,mZ,D,ay];rfl)
theorem Jv{t:TypeId}{K:Prop}(h:X6 P t K):∃i,P.info? t=some i:=by
 unfold X6 at h;cases hi:P.info? t with
 |none=>rw[hi]at h;exact h.elim
 |some i=>exact⟨i,rfl⟩
theorem Ek{t:TypeId}(h:cB P t≠0):∃i,P.info? t=some i:=by
 cases hi:P.info? t with
 |none=>exact absurd (by simp[cB,hi]) h
 |some i=>exact⟨i,rfl⟩
theorem Hf{size n:Nat}{x:ByteArray}{w:World}:(Builtin.firstCells size n (.string x)).run P w=.ok ((fc x).take n).toArray w:=by
 simp only[Builtin.firstCells,Sem.run_pure];congr 1
 apply dJ;simp[fc,tc,jg,←List.map_take]
theorem Ca{t u ty:TypeId}{s x:Value}{K:WK}{w:World}(c:(∃e',P.underlying u=some (.slice e'))∨P.underlying u=some .string)(h:HW P t s x K w.heap):
  Wv P (Builtin.append_ #[t,u] ty #[s,x]) K w:=by
 unfold HW at h;split at h
 ·rename_i e b sl sc a xl xc ht
  have hi:=Jv h;obtain⟨⟨xs,d,g⟩,j⟩:=tG h;exact J0 ht c (fun w=>rfl) (fun f i=>Bv (by rw[i];exact d)) hi g
 ·rename_i e b sl sc x ht
  cases hb:bX (cB P e) 1 with
  |false=>rw[hb]at h;exact h.elim
  |true=>
   rw[hb]at h;have k:=bw hb;have m:(fc x).length=x.size:=by simp[fc]
   refine J0 ht c (fun w=>rfl) (fun f _=>?_) (Ek (by omega)) h
   rw[Hf,bD (by omega)]
 ·exact h.elim
theorem Fw{n:Int}(b:0≤n)(a:n≤9223372036854775807):IntKind.i64.wrap n=n:=IntWalk.i64_in n ⟨by omega,a⟩
theorem Tm{t e u ty:TypeId}{b:Option Addr}{sl g:Nat}{k0 k:IntKind}{l:Int}{z:List Value}{K:WK}{w:World}(y:zS P t=some e)(x:P.underlying u=some (.int k0))
  (U:uR P e=some z)(R:z.length=cB P e)(X:0≤l)(S:l*u0 P e≤2^48)(h2:l≤9223372036854775807)(Z:((sl+l.toNat:Nat):Int)≤9223372036854775807)
  (h:YY P e b sl g l.toNat (eK l.toNat z) K w.heap):Wv P (Builtin.append_ #[t,u] ty #[.slice b sl g,.int k l]) K w:=by
 obtain⟨v,hv,D⟩:=mR U;obtain⟨i,hi,W⟩:=vD hv;have j:cB P e=i.size:=by simp[cB,hi]
 have F:u0 P e=i.bytes:=by simp[u0,hi]
 have A:IntKind.wrap .i64 l=l:=Fw X h2;have d:¬l<0:=by omega
 rw[F]at S;have c:¬(281474976710656:Int)<l*i.bytes:=by omega
 have f:∀Q:World,(asInt (.int k l)).run P Q=.ok l Q:=fun Q=>rfl
 have G:(Builtin.zeroCells v.cells l.toNat)=(eK l.toNat z).toArray:=by apply dJ;rw[mE,D]
 have s:l.toNat*i.size=0→eK l.toNat z= []:=fun O=>by
  have H:(eK l.toNat z).length=l.toNat*i.size:=by rw[←j,←R];unfold eK;simp
  exact aA.1 (by rw[H,O])
 by_cases hc:sl+l.toNat≤g
 ·obtain⟨N,S,I⟩:=h.1 hc
  refine⟨_,_,?_,gb w (ia w.heap b (sl*cB P e) (eK l.toNat z)),I⟩;cases b with
  |none=>
   by_cases m:l.toNat*i.size=0
   ·simp[Builtin.append_,aH (eH y),aH x,sizeOf,dz hi,f,A,d,c,hc,m];rfl
   ·simp[Builtin.append_,aH (eH y),aH x,sizeOf,dz hi,f,A,d,c,hc,gn hv];rfl
  |some a=>
   have n:=IC (P:=P) S N;rw[j]at n;by_cases m:l.toNat*i.size=0
   ·rw[s m]at n
    simp[Builtin.append_,aH (eH y),aH x,sizeOf,dz hi,f,A,d,c,hc,n,ia,j,m,s m]
   ·simp[Builtin.append_,aH (eH y),aH x,sizeOf,dz hi,f,A,d,c,hc,n,ia,j,m,gn hv,G]
 ·obtain⟨B,z',V,E,L,M,I⟩:=h.2 (by omega)
  rw[U]at E;cases E;rw[F]at L M;have T:¬i.bytes=0:=by omega
  have p:¬(281474976710656<Builtin.nextslicecap (sl+l.toNat) g*i.bytes):=by omega
  have Y:¬(9223372036854775807:Int)<((sl:Int)+(l.toNat:Int)):=by omega
  have o:¬(9223372036854775807:Int)<((sl:Int)+max l 0):=by omega
  have q:(Builtin.firstCells (cB P e) sl (.slice b sl g)).run P w.drew=.ok B.toArray w.drew:=Bv V;rw[j]at q;have J:sl+l.toNat≤(Question.appendCap (sl+l.toNat) g e).cut (w.tape w.drawn (.appendCap (sl+l.toNat) g e)):=tZ _ _;refine⟨_,mS w.drew (hnew w.heap (B++eK l.toNat z++eK ((Question.appendCap (sl+l.toNat) g e).cut (w.tape w.drawn (.appendCap (sl+l.toNat) g e))-(sl+l.toNat)) z) e),?_,⟨rfl,rfl,rfl⟩,I _ J⟩
  have C:(Builtin.zeroCells v.cells ((Question.appendCap (sl+l.toNat) g e).cut (w.tape w.drawn (.appendCap (sl+l.toNat) g e))-(sl+l.toNat)))=(eK ((Question.appendCap (sl+l.toNat) g e).cut (w.tape w.drawn (.appendCap (sl+l.toNat) g e))-(sl+l.toNat)) z).toArray:=by
   apply dJ;rw[mE,D]
  by_cases m:l.toNat*i.size=0
  ·rw[s m]at I⊢
   simp[Builtin.append_,aH (eH y),aH x,sizeOf,dz hi,f,A,d,c,hc,o,p,Question.forced,q,gn hv,mZ,C,ay,m];rfl
  ·simp[Builtin.append_,aH (eH y),aH x,sizeOf,dz hi,f,A,d,c,hc,o,p,Question.forced,q,gn hv,mZ,C,ay,m,G];rfl
theorem Il{t u ty:TypeId}{k0:IntKind}{s x:Value}{K:WK}{w:World}(a:P.underlying u=some (.int k0))(h:Im P t s x K w.heap):
  Wv P (Builtin.append_ #[t,u] ty #[s,x]) K w:=by
 unfold Im at h;split at h
 ·rename_i e b sl sc k l ht
  split at h
  ·rename_i z hz
   cases hb:bX z.length (cB P e)with
   |false=>rw[hb]at h;exact h.elim
   |true=>
    rw[hb]at h;obtain⟨⟨d,c,h2,g⟩,f⟩:=h;exact Tm ht a hz (bw hb) d c h2 g f
  ·exact h.elim
 ·exact h.elim
theorem m9:∀{a b:List Value},cH a=true→cH b=true→cH (a++b)=true
 | [],_,_,h=>h
 |v::a,b,h,k=>by
  simp only[cH,cM,bq]at h⊢;exact⟨h.1,m9 h.2 k⟩
theorem D8{z:List Value}(h:cH z=true):∀n,cH (eK n z)=true
 |0=>rfl
 |n+1=>by
  have:eK (n+1) z=z++eK n z:=by simp[eK,List.replicate_succ]
  rw[this];exact m9 h (D8 h n)
theorem Np{t ty:TypeId}{x:Value}{K:WK}{w:World}(h:Rz P t x K w.heap):Wv P (Builtin.clear_ #[t] ty #[x]) K w:=by
 unfold Rz at h;split at h
 ·rename_i e a n c ht
  split at h
  ·rename_i z hz
   obtain⟨v,hv,d⟩:=mR hz;cases ho:cH z with
   |false=>rw[ho]at h;exact h.elim
   |true=>
    rw[ho]at h;obtain⟨i,g⟩:=h;refine⟨_,_,?_,gb w (ia w.heap a 0 (eK n z)),g⟩;cases a with
    |none=>simp[Builtin.clear_,aH (eH ht)];rfl
    |some a=>
     cases n with
     |zero=>simp[Builtin.clear_,aH (eH ht)];rfl
     |succ n=>
      have b:=IC (P:=P) (D8 ho (n+1)) i;rw[←xY,Ka]at b;have f:(Builtin.zeroCells v.cells (n+1)).toList=eK (n+1) z:=by rw[mE,d]
      simp[Builtin.clear_,aH (eH ht),gn hv,f,b,ia]
  ·exact h.elim
 ·exact h.elim
theorem D9:∀(xs:List Value) (n:Nat),cH xs=true→cH (xs.take n)=true
 | [],n,_=>by simp[cH]
 |x::xs,0,_=>by simp[cH]
 |x::xs,n+1,h=>by
  simp only[cH,bq,List.take_succ_cons]at h⊢;exact⟨h.1,D9 xs n h.2⟩
theorem Lc(x:ByteArray):cH (fc x)=true:=by
 have:∀l:List UInt8,cH (l.map fun b=>.int .u8 (b.toNat:Int))=true:=by
  intro l;induction l with
  |nil=>rfl
  |cons b l ih=>simp[cH,ih]
 exact this _
theorem O5{t u ty:TypeId}{d s:Value}{K:WK}{w:World}(h:Xj P t d s K w.heap):Wv P (Builtin.copy_ #[t,u] ty #[d,s]) K w:=by
 unfold Xj at h;split at h
 ·rename_i e b dl dc a sl sc ht
  obtain⟨⟨xs,k,o,p,n⟩,j⟩:=tG h;refine⟨_,_,?_,gb w (ia w.heap b 0 xs),n⟩;have g:=Bv (P:=P) (len:=sl) (cap:=sc) k;cases b with
  |none=>simp[Builtin.copy_,aH (eH ht),Builtin.lenOf,j,g,goInt];rfl
  |some c=>
   have f:=IC (P:=P) (m:=0) p o;simp only[Addr.add,if_pos]at f;simp[Builtin.copy_,aH (eH ht),Builtin.lenOf,j,g,goInt,f,ia]
 ·rename_i e b dl dc x ht
  cases hb:bX (cB P e) 1 with
  |false=>rw[hb]at h;exact h.elim
  |true=>
   rw[hb]at h;have p:=bw hb;obtain⟨i,hi⟩:=Ek (P:=P) (t:=e) (by omega);have j:(sizeOf e).run P w=.ok (cB P e) w:=by simp[sizeOf,dz hi,cB,hi]
   obtain⟨o,n⟩:=h;have v:(fc x).length=x.size:=by simp[fc]
   have q:(fc x).take (eX x.size dl)=(fc x).take dl:=by
    by_cases hx:x.size≤dl
    ·rw[show eX x.size dl=x.size from Nat.min_eq_left hx,bD (by omega),bD (by omega)]
    ·rw[show eX x.size dl=dl from Nat.min_eq_right (by omega)]
   have g:(Builtin.firstCells (cB P e) (eX x.size dl) (.string x)).run P w=.ok ((fc x).take dl).toArray w:=by
    rw[Hf,q]
   refine⟨_,_,?_,gb w (ia w.heap b 0 ((fc x).take dl)),n⟩;cases b with
   |none=>simp[Builtin.copy_,aH (eH ht),Builtin.lenOf,j,g,goInt];rfl
   |some c=>
    have f:=IC (P:=P) (m:=0) (D9 _ dl (Lc x)) o;simp only[Addr.add,if_pos]at f;simp[Builtin.copy_,aH (eH ht),Builtin.lenOf,j,g,goInt,f,ia]
 ·exact h.elim
theorem UB(k v:Value)(a:Nat):∀(es:List MapEntry),(match es.findIdx? (fun e=>jT k e.key)with
  |some i=>(es.modify i (fun e=>{e with key:=k,val:=v}),a)
  |none=>(es++ [{key:=k,val:=v,born:=a}],a+1))=Se k v a es
 | []=>rfl
 |e::es=>by
  have b:=UB k v a es;simp only[Se,List.findIdx?_cons];cases hk:jT k e.key with
  |true=>simp[List.modify]
  |false=>
   simp only[hJ,if_false];rw[←b];cases hf:es.findIdx? (fun e=>jT k e.key)with
   |none=>simp
   |some i=>simp[List.modify]
theorem AQ{d:TypeDesc}{c:CK}(hd:sA d c)(x:c.den):∀(es:List MapEntry) (i:Nat),Jt c es→
  Instr.findNow d (c.enc x) es i=some (match es.findIdx? (fun e=>jT (c.enc x) e.key)with
   |some j=>(es[j]?).map fun e=>(i+j,e.val)
   |none=>none)
 | [],i,_=>rfl
 |e::es,i,h=>by
  obtain⟨y,k⟩:=h e (by simp);have b:=GQ hd x y;rw[←k]at b;have f:=AQ hd x es (i+1) fun g a=>h g (by simp[a])
  simp only[Instr.findNow,List.findIdx?_cons,b];cases hb:jT (c.enc x) e.key with
  |true=>simp
  |false=>
   simp only[hJ,if_false];rw[f];cases hf:es.findIdx? (fun e=>jT (c.enc x) e.key)with
   |none=>simp
   |some j=>simp[mr,Nat.add_comm 1 j]
theorem HL{a b:ByteArray}(h:(a==b)=true):a=b:=by
 cases a with|mk a=>cases b with|mk b=>
 have h:(a==b)=true:=h;rw[eq_of_beq h]
theorem JV(a:ByteArray):(a==a)=true:=by
 cases a with|mk a=>
 exact beq_self_eq_true a
theorem ND{d:TypeDesc}{c:CK}(hd:sA d c)(x y:c.den)(h:jT (c.enc x) (c.enc y)=true):Instr.sameBits 10000 (c.enc y) (c.enc x)=true:=by
 rcases hd with⟨i,rfl,rfl⟩|⟨rfl,rfl⟩|⟨rfl,rfl⟩
 ·have h:x=y:=eq_of_beq (α:=Int) h
  subst h;have:∀n:Int,(i==i&&n==n)=true:=fun n=>by simp
  exact this x
 ·have h:x=y:=HL h
  subst h;exact JV x
 ·have h:x=y:=eq_of_beq (α:=Bool) h
  subst h;exact beq_self_eq_true (α:=Bool) x
theorem y6{w:World}{r:Nat}{es:Array MapEntry}{a:Nat}{o:Obj}(h:w.heap[r]? =some (.map es a)):(setObj r o).run P w=.ok () (mS w (w.heap.setIfInBounds r o)):=by
 simp only[setObj,Sem.run,h];rfl
theorem Sw{t k e:TypeId}{d:TypeDesc}{c:CK}(u:P.underlying t=some (.map k e))(p:P.underlying k=some d)(hd:sA d c){r:Nat}{x:c.den}{v:Value}{w:World}(hm:Vj c w.heap r):
  (Instr.mapUpdate t (.map (some r)) (c.enc x) v).run P w=.ok () (mS w (aab w.heap r (c.enc x) v)):=by
 obtain⟨es,a,g,b⟩:=hm;obtain⟨q,z,h2,B⟩:=zj (P:=P) hd p x b w;rw[AQ hd x es.toList 0 b]at h2;have f:=UB (c.enc x) v a es.toList;have j:aab w.heap r (c.enc x) v=w.heap.setIfInBounds r (.map (Se (c.enc x) v a es.toList).1.toArray (Se (c.enc x) v a es.toList).2):=by
  simp only[aab,g]
 rw[j,←f];simp only[Instr.mapUpdate,Sem.run_bind,aH u,Result.andThen_ok,oY g,qr hd p,z];cases hf:es.toList.findIdx? (fun e=>jT (c.enc x) e.key)with
 |none=>
  rw[hf]at h2;simp only[bO.injEq]at h2;subst h2;simp only[y6 g];congr 4
  apply dJ;simp
 |some i=>
  rw[hf]at h2;simp only[bO.injEq]at h2;obtain⟨hi,s,_⟩:=List.findIdx?_eq_some_iff_getElem.1 hf;have o:es.toList[i]? =some es.toList[i]:=af hi;rw[o]at h2;simp only[ja,aR]at h2;subst h2;have m:es[i]? =some es.toList[i]:=by rw[←bS];exact o
  obtain⟨y,A⟩:=b es.toList[i] (List.getElem_mem hi);have n:Instr.sameBits 10000 (es.toList[i]).key (c.enc x)=true:=by
   rw[A]at s⊢;exact ND hd x y s
  simp only[m,ja,Option.getD_some,Instr.keyThatStays,n,if_true,Sem.run_bind,Sem.run_pure,Result.andThen_ok,y6 g];congr 4
  apply dJ;simp
theorem B9{t:TypeId}{m k v:Value}{K:WK}{w:World}(h:HU P t m k v K w.heap):Wu P (Instr.mapUpdate t m k v) K w:=by
 unfold HU at h;split at h
 ·rename_i c e m hc
  obtain⟨g,d,a,b,hd⟩:=AJ hc;obtain⟨i,rfl,r,rfl,hm,f⟩:=CK.dec_sound h;exact⟨_,Sw a b hd hm,gb _ _,f⟩
 ·exact h.elim
theorem Qt(k:Value):∀(es:List MapEntry),(match es.findIdx? (fun e=>jT k e.key)with
  |some i=>es.eraseIdx i
  |none=>es)=Qu k es
 | []=>rfl
 |e::es=>by
  have a:=Qt k es;simp only[Qu,List.findIdx?_cons];cases hk:jT k e.key with
  |true=>simp
  |false=>
   simp only[hJ,if_false];rw[←a];cases hf:es.findIdx? (fun e=>jT k e.key)<;>simp
theorem PY{t k e ty:TypeId}{ts:Array TypeId}{d:TypeDesc}{c:CK}(s:ts[0]? =some t) (p:P.underlying t=some (.map k e)) (o:P.underlying k=some d) (hd:sA d c) {r:Nat} {x:c.den} {w:World} (hm:Vj c w.heap r):
  (Builtin.delete_ ts ty #[.map (some r),c.enc x]).run P w=.ok (.tuple #[]) (mS w (UN w.heap r (c.enc x))):=by
 obtain⟨es,b,j,g⟩:=hm;obtain⟨q,v,h2,z⟩:=zj (P:=P) hd o x g w;rw[AQ hd x es.toList 0 g]at h2;have f:=Qt (c.enc x) es.toList;have m:UN w.heap r (c.enc x)=w.heap.setIfInBounds r (.map (Qu (c.enc x) es.toList).toArray b):=by
  simp only[UN,j]
 rw[m,←f];simp only[Builtin.delete_,s,List.getElem?_toArray,List.getElem?_cons_zero,List.getElem?_cons_succ,Sem.run_bind,aH p,Result.andThen_ok,oY j,qr hd o,v];cases hf:es.toList.findIdx? (fun e=>jT (c.enc x) e.key)with
 |none=>
  rw[hf]at h2;simp only[bO.injEq]at h2;subst h2;simp[y6 j]
 |some i=>
  rw[hf]at h2;simp only[bO.injEq]at h2;obtain⟨hi,y,_⟩:=List.findIdx?_eq_some_iff_getElem.1 hf;have u:es.toList[i]? =some es.toList[i]:=af hi;rw[u]at h2;simp only[ja,aR]at h2;subst h2;have n:i<es.size:=by simpa using hi
  have a:es.eraseIdxIfInBounds i=(es.toList.eraseIdx i).toArray:=by
   apply dJ;simp[Array.eraseIdxIfInBounds,n]
  simp[y6 j,a]
theorem Ij{t ty:TypeId}{ts:Array TypeId}{m k:Value}{K:WK}{w:World}(f:ts[0]? =some t) (h:Ik P t m k K w.heap):Wv P (Builtin.delete_ ts ty #[m,k]) K w:=by
 unfold Ik at h;split at h
 ·rename_i c e m hc
  obtain⟨i,d,b,g,hd⟩:=AJ hc;obtain⟨j,rfl,h⟩:=CK.dec_sound h;rcases h with⟨rfl,a⟩|⟨r,rfl,hm,a⟩
  ·refine⟨_,w,?_,Tame.refl w,a⟩
   simp[Builtin.delete_,f,aH b,qr hd g]
  ·exact⟨_,_,PY f b g hd hm,gb _ _,a⟩
 ·exact h.elim
theorem VM{t k e:TypeId}(b:P.underlying t=some (.map k e)){m:Option Nat}{a:Nat}{w:World}(hm:m=none∧a=0∨∃r es,m=some r∧w.heap[r]? =some (.map es a)):
  (Instr.range t (.map m)).run P w=.ok (.pointer (some (ay w.heap))) (mS w (w.heap.push (.mapIter m a #[] a))):=by
 rcases hm with⟨rfl,rfl⟩|⟨r,es,rfl,c⟩
 ·simp only[Instr.range,Sem.run_bind,aH b,Result.andThen_ok,Sem.run_pure,IS,ay]
 ·simp only[Instr.range,Sem.run_bind,aH b,Result.andThen_ok,Sem.run_pure,oY c,IS,ay]
theorem Aw{w:World}{i:Nat}{m:Option Nat}{a:Nat}{c:Array Nat}{b:Nat}(h:w.heap[i]? =some (.mapIter m a c b)):(getObj i).run P w=.ok (.mapIter m a c b) w:=by
 simp only[getObj,Sem.run,h]
theorem Ps{w:World}{i:Nat}{m:Option Nat}{a:Nat}{c:Array Nat}{b:Nat}{o:Obj}(h:w.heap[i]? =some (.mapIter m a c b)):(setObj i o).run P w=.ok () (mS w (w.heap.setIfInBounds i o)):=by
 simp only[setObj,Sem.run,h];rfl
theorem JQ(n:Nat)(a:0<n)(w:World):∃k w',k<n∧(choose (.mapNext n)).run P w=.ok k w'∧Tame w w'∧w'.heap=w.heap:=by
 unfold choose;simp only[Sem.run];by_cases h:(Question.mapNext n).forced=true
 ·exact⟨0,w,a,by rw[if_pos h],Tame.refl w,rfl⟩
 ·refine⟨(Question.mapNext n).cut (w.tape w.drawn (.mapNext n)),{w with drawn:=w.drawn+1},Nat.mod_lt _ a,by rw[if_neg h],⟨rfl,rfl,rfl⟩,rfl⟩
theorem O4{O:Value}{t:TypeId}{K:WK}{w:World}(h:Xi O K w.heap):Wv P (Instr.next O false t) K w:=by
 unfold Xi at h;split at h
 ·rename_i a
  obtain⟨N,m,j,f,u,hi,h⟩:=h;obtain⟨b,off,Q⟩:=a;simp only at N hi h;subst N;rcases h with⟨rfl,U⟩|⟨r,es,A,rfl,R,E,F,J⟩
  ·exact⟨_,w,by simp only[Instr.next,Sem.run_bind,Aw hi,Result.andThen_ok,Sem.run_pure],Tame.refl w,U⟩
  ·have v:(!f.isEmpty&& !es.isEmpty&&es.all (fun e=>decide (e.born≥u)))=false:=by
    rcases E with h|h|h<;>simp[h]
   obtain⟨left,n⟩:∃left,left=es.filter fun e=> !f.contains e.born:=⟨_,rfl⟩
   obtain⟨i,q⟩:∃i,i=left.filter (·.born<j):=⟨_,rfl⟩
   obtain⟨z,hnew⟩:∃z,z=left.filter (·.born≥j):=⟨_,rfl⟩
   obtain⟨d,g⟩:∃d:Array (Option MapEntry),d=(if i.isEmpty then #[none]else #[])++(i++z).map some:=⟨_,rfl⟩
   have D:0<d.size:=by
    rw[g];by_cases B:i.isEmpty=true
    ·simp[B];omega
    ·have:i.size≠0:=by simpa using B
     simp[B];omega
   obtain⟨k,G,S,y,M,H⟩:=JQ (P:=P) d.size D w;obtain⟨c,hc⟩:∃c,d[k]? =some c:=⟨d[k],Array.getElem?_eq_getElem S⟩;have I:G.heap[b]? =some (.mapIter (some r) j f u):=by rw[H];exact hi
   have o:(!f.isEmpty&& !es.isEmpty&&es.all fun x=>decide (x.born≥u))=false:=v
   cases c with
   |none=>
    refine⟨.tuple #[.bool false],G,?_,M,?_⟩
    ·simp only[Instr.next,Sem.run_bind,Aw hi,Result.andThen_ok,Sem.run_pure,oY R,o,hJ,if_false,←n,←q,←hnew,←g,y,hc]
    ·rw[H]
     have s:i.isEmpty=true:=by
      have hm:none∈d:=tA hc;rw[g]at hm;by_cases B:i.isEmpty=true
      ·exact B
      ·simp[B]at hm
     refine F fun e T L=>?_
     cases hs:f.contains e.born with
     |true=>rfl
     |false=>
      have p:e∈i:=by
       rw[q,n];simp only[ue];exact⟨⟨by simpa using T,by rw[hs];rfl⟩,by simpa using L⟩
      rw[Array.isEmpty_iff]at s;rw[s]at p;simp at p
   |some e=>
    have p:e∈es∧f.contains e.born=false:=by
     have hm:some e∈d:=tA hc;have C:e∈left:=by
      rw[g]at hm;rw[Array.mem_append]at hm;rcases hm with hm|hm
      ·split at hm<;>simp at hm
      ·simp only[Array.mem_map,bO.injEq,exists_eq_right,Array.mem_append]at hm
       rcases hm with hm|hm
       ·rw[q]at hm;exact(ue.1 hm).1
       ·rw[hnew]at hm;exact(ue.1 hm).1
     rw[n]at C;have:=ue.1 C;exact⟨this.1,by simpa using this.2⟩
    refine⟨.tuple #[.bool true,e.key,e.val],mS G (G.heap.setIfInBounds b (.mapIter (some r) j (f.push e.born) A)),?_,M.trans (gb _ _),?_⟩
    ·simp only[Instr.next,Sem.run_bind,Aw hi,Result.andThen_ok,Sem.run_pure,oY R,o,hJ,if_false,←n,←q,←hnew,←g,y,hc,Ps I]
    ·rw[H]
     exact J e (by simpa using p.1) p.2
 ·exact h.elim
theorem Li{t e:TypeId}{z:List Value}{k k':IntKind}{l c:Int}{w:World}(p:zS P t=some e)(D:uR P e=some z)(g:z.length=cB P e)(C:0≤l)(E:l≤c)(h2:c≤9223372036854775807)(A:u0 P e*c≤2^48):
  (Instr.makeSlice t (.int k l) (.int k' c)).run P w=.ok (.slice (some (ay w.heap)) l.toNat c.toNat) (mS w (hnew w.heap (eK c.toNat z) e)):=by
 obtain⟨v,hv,f⟩:=mR D;obtain⟨i,hi,B⟩:=vD hv;have b:cB P e=i.size:=by simp[cB,hi]
 have o:u0 P e=i.bytes:=by simp[u0,hi]
 have n:v.cells.size=i.size:=by rw[←b,←g,←f];simp
 have x:=Fw C (by omega);have hc:=Fw (show 0≤c by omega) h2
 rw[o]at A;have u:¬(c<0):=by omega
 have y:¬(281474976710656<(i.bytes:Int)*c):=by omega
 have s:¬(l<0):=by omega
 have q:¬(c<l):=by omega
 by_cases a:c.toNat*i.size=0
 ·have m:(eK c.toNat z).length=0:=by simp[eK,g,b,a]
  rw[aA.1 m];simp[Instr.makeSlice,aH (eH p),asInt,asIntOf,dz hi,x,hc,u,y,s,q,sizeOf,a,mZ]
 ·have d:((Array.range (c.toNat*i.size)).map (fun j=>v.cells[j%v.cells.size]!))=(eK c.toNat z).toArray:=by
   rw[←n,T9,f]
  have key:(newRow e ((Array.range (c.toNat*i.size)).map (fun j=>v.cells[j%v.cells.size]!))).run P w=.ok (ay w.heap) (mS w (hnew w.heap (eK c.toNat z) e)):=by
   rw[d,mZ]
  simp[Instr.makeSlice,aH (eH p),asInt,asIntOf,dz hi,x,hc,u,y,s,q,sizeOf,a,gn hv];rw[key];rfl
theorem Agree.args{N:Nat}{r:cZ}{a:Act}(h:Agree N r a){os:Array Operand}{vs:List Value}(hv:uU r os.toList=some vs):os.map a.eval=vs.toArray:=by
 rw[←rL h hv];apply dJ;simp
theorem HC.out{f:FuncId}{args:List Value}{ks:List Kind}{K:WK}{w:World}(h:HC P f args ks (fun x h'=>K (I0 ks (qq ks x)) h') w.heap):QJ P (callFunc f args.toArray) K w:=by
 rcases h.run w rfl with⟨b,h2⟩|⟨v,d,b,a,x,rfl,c⟩
 ·refine .inr (.inr (.inl ⟨f,args.toArray,b,h2.mono ?_⟩))
  rintro e d ⟨a,x,rfl,c⟩;exact⟨a,_,rfl,c⟩
 ·exact .inl ⟨_,d,b,a,c⟩
theorem WH{a b e:TypeId}{s:ByteArray}{w:World}(j:P.underlying a=some .string)(hd:P.underlying b=some (.slice e))(g:P.underlying e=some (.int .u8)):
  ∃c,s.size≤c∧(convert a b (.string s)).run P w=.ok (.slice (some (ay w.heap)) s.size c) (mS w.drew (w.heap.push (.cells (fc s++iJ (c-s.size) (Value.int .u8 0)).toArray e (c,c+1)))):=by
 have d:s.size≤grownCap w s.size 0 e:=tZ _ _;refine⟨_,d,?_⟩;rw[Go.Lib.run_convert_string_bytes w a b e s j hd g];have hc:(Go.Lib.bytesCells w e s).size=grownCap w s.size 0 e:=by
  unfold Go.Lib.bytesCells;rw[Array.size_append,Array.size_map,Array.size_replicate,show s.data.size=s.size from rfl]
  omega
 have f:(fc s++iJ (grownCap w s.size 0 e-s.size) (Value.int .u8 0)).toArray=Go.Lib.bytesCells w e s:=by
  unfold Go.Lib.bytesCells fc;apply dJ;simp
 rw[f];unfold Go.Lib.bytesWorld World.freeze;rw[if_neg (by omega),hc];unfold World.alloc World.drew mS;congr 1
 congr 1
 apply Array.ext (by simp);intro i k h2;rw[Array.getElem_modify];simp only[Array.getElem_push];split
 ·rename_i e
  subst e;simp
 ·rename_i e
  have hi:i<w.heap.size:=by simp at h2;omega
  rw[dif_pos hi,dif_pos hi]
theorem Fy{o:Oper}{r:cZ}{K:WK}{w:World}{N:Nat}{a:Act}(H:Agree N r a)(j:KY P o r K w.heap):QJ P (execOp a.eval o) K w:=by
 have A:∀{x:Operand} {v:Value},eD r x=some v→a.eval x=v:=fun h=>oZ H h
 obtain⟨V,W,type,qP,E,F⟩:=o;cases W with
 |alloc t=>
  simp only[KY]at j;split at j
  ·rename_i z hz
   obtain⟨v,hv,Q⟩:=mR hz;have C:(Instr.alloc t true (.tuple #[])).run P w=.ok (.pointer (some (ay w.heap))) (mS w (hnew w.heap z t)):=by
    simp[Instr.alloc,gn hv,newVar,mZ,Q]
   exact Wv.out ⟨_,_,C,gb _ _,j⟩
  ·exact j.elim
 |box t x=>
  simp only[KY]at j;split at j
  ·rename_i v hv
   have C:(Instr.box t v).run P w=.ok (.pointer (some (ay w.heap))) (mS w (hnew w.heap v.cells.toList t)):=by
    simp[Instr.box,newVar,mZ]
   simp only[execOp,A hv];exact Wv.out ⟨_,_,C,gb _ _,j⟩
  ·exact j.elim
 |build t ps=>
  simp only[KY]at j;split at j
  ·rename_i vs p
   split at j
   ·rename_i cs hcs
    have R:(ps.map fun x=>(x.1,a.eval x.2))=vs.toArray:=by
     rw[←rN H p];apply dJ;simp
    have C:=EC (ps:=vs.toArray) (by simpa using hcs) w;simp only[execOp];rw[show(ps.map fun(i,x)=>(i,a.eval x))=vs.toArray from R]
    exact Wv.out ⟨_,w,C,Tame.refl w,j⟩
   ·exact j.elim
  ·exact j.elim
 |buildSlice t n ps=>
  simp only[KY]at j;split at j
  ·rename_i e vs D p
   split at j
   ·rename_i z hz
    cases hb:(BL (n*cB P e) 16777216&&bX z.length (cB P e))with
    |false=>rw[hb]at j;exact j.elim
    |true=>
     rw[hb]at j;simp only[bq]at hb;simp only[cond_true]at j;split at j
     ·rename_i cs hcs
      have R:(ps.map fun x=>(x.1,a.eval x.2))=vs.toArray:=by
       rw[←rN H p];apply dJ;simp
      have C:=Gf (ps:=vs.toArray) D hz (lF hb.1) (bw hb.2) (by simpa using hcs) w;simp only[execOp];rw[show(ps.map fun(i,x)=>(i,a.eval x))=vs.toArray from R]
      exact Wv.out ⟨_,_,C,gb _ _,j⟩
     ·exact j.elim
   ·exact j.elim
  ·exact j.elim
 |store t x y=>
  simp only[KY]at j;split at j
  ·rename_i b v hb hv
   simp only[execOp,A hb,A hv];exact Wu.out (Nn j)
  ·exact j.elim
 |mapUpdate t m k x=>
  simp only[KY]at j;split at j
  ·rename_i mv kv xv hm B hx
   simp only[execOp,A hm,A B,A hx];exact Wu.out (B9 j)
  ·exact j.elim
 |insert t m k x=>
  simp only[KY]at j;split at j
  ·rename_i mv kv xv hm B hx
   simp only[execOp,A hm,A B,A hx];exact Wu.out (B9 j)
  ·exact j.elim
 |makeMap t n=>
  simp only[KY]at j;cases n with
  |none=>exact Wv.out ⟨_,mS w (w.heap.push (.map #[] 0)),by simp[Instr.makeMap];rfl,gb _ _,j⟩
  |some n=>
   simp only at j;split at j
   ·rename_i k i hn D
    exact Wv.out ⟨_,mS w (w.heap.push (.map #[] 0)),by simp[Instr.makeMap,A hn,aH D,asInt,asIntOf];rfl,gb _ _,j⟩
   ·exact j.elim
 |makeSlice t l c=>
  simp only[KY]at j;split at j
  ·rename_i e k l' k' c' D S hc
   split at j
   ·rename_i z hz
    cases hb:bX z.length (cB P e)with
    |false=>rw[hb]at j;exact j.elim
    |true=>
     rw[hb]at j;obtain⟨⟨Y,T,h2,X⟩,j⟩:=j;simp only[execOp,A S,A hc];exact Wv.out ⟨_,_,Li D hz (bw hb) Y T h2 X,gb _ _,j⟩
   ·exact j.elim
  ·exact j.elim
 |convert s d x=>
  simp only[KY]at j;split at j
  ·rename_i e v U hd hx
   cases hu:SJ P e with
   |false=>rw[hu]at j;exact j.elim
   |true=>
    rw[hu]at j;obtain⟨c,hc,J⟩:=WH (w:=w) (s:=v) U hd (Ju hu);simp only[execOp,A hx];exact Wv.out ⟨_,_,J,⟨rfl,rfl,rfl⟩,j c hc⟩
  ·exact j.elim
 |range t x=>
  simp only[KY]at j;split at j
  ·rename_i k e m hu hx
   obtain⟨O,hm,j⟩:=j;simp only[execOp,A hx];exact Wv.out ⟨_,_,VM hu hm,gb _ _,j⟩
  ·exact j.elim
 |next it isS=>
  cases isS with
  |true=>simp only[KY]at j
  |false=>
   simp only[KY]at j;split at j
   ·rename_i v hv
    simp only[execOp,A hv];exact Wv.out (O4 j)
   ·exact j.elim
 |call c=>
  simp only[KY]at j;have L:∀{b:Builtin} {vs:List Value},c.callee=.builtin b→uU r c.args.toList=some vs→∃cs:Array Bool,∀w,(execOp a.eval ⟨V,.call c,type,qP,E,F⟩).run P w=
    (builtin b c.argTypes type cs vs.toArray).run P w:=by
   intro b vs hc p;refine⟨c.args.map fun| .const _=>true|_=>false,fun w=>?_⟩
   simp[execOp,resolve,hc,H.args p,invoke];rfl
  have I:∀{s s':Sem Next},(∀w,s.run P w=s'.run P w)→QJ P s' K w→QJ P s K w:=by
   intro s s' C h;unfold QJ at h⊢;simp only[C];exact h
  split at j
  ·rename_i s x hc p
   split at j
   ·rename_i t u hat
    obtain⟨cs,G⟩:=L hc p;refine I G ?_;have q:c.argTypes= #[t,u]:=by apply dJ;rw[hat]
    simp only[builtin,q];split at j
    ·rename_i e' hu;exact Wv.out (Ca (.inl ⟨e',hu⟩) j)
    ·rename_i hu;exact Wv.out (Ca (.inr hu) j)
    ·rename_i k0 hu;exact Wv.out (Il hu j)
    ·exact j.elim
   ·exact j.elim
  ·rename_i x hc p
   split at j
   ·rename_i t hat
    obtain⟨cs,G⟩:=L hc p;refine I G ?_;have q:c.argTypes= #[t]:=by apply dJ;rw[hat]
    simp only[builtin,q];exact Wv.out (Np j)
   ·exact j.elim
  ·rename_i s x hc p
   split at j
   ·rename_i t u hat
    obtain⟨cs,G⟩:=L hc p;refine I G ?_;have q:c.argTypes= #[t,u]:=by apply dJ;rw[hat]
    simp only[builtin,q];exact Wv.out (O5 j)
   ·exact j.elim
  ·rename_i m k hc p
   split at j
   ·rename_i t u hat
    obtain⟨cs,G⟩:=L hc p;refine I G ?_;simp only[builtin];exact Wv.out (Ij (by rw[←bS,hat];rfl) j)
   ·exact j.elim
  ·rename_i f args hc p
   unfold aaK at j;split at j
   ·exact j.elim
   ·rename_i ks hks
    split at j
    ·rename_i f
     refine I (s':=callFunc f args.toArray) (fun w=>?_) j.out
     simp[execOp,resolve,hc,H.args p,Act.eval,Deferred.ofValue,invoke]
    ·rename_i f hf
     split at j
     ·rename_i fv hfv
      rcases j.run with⟨g,first,cap,rfl,M⟩|⟨l,rfl,M⟩
      rotate_left
      ·obtain⟨fn,tmps,assign,body,T,h2⟩:=M.run w rfl
       refine .inr (.inr (.inr ⟨l,fn,tmps,assign,body,?_,fun c cs=>?_⟩))
       ·rw[←T]
        simp[execOp,resolve,hc,H.args p,A hfv,Deferred.ofValue,invoke]
       ·obtain⟨b,Z,D,B,U⟩:=h2 c cs
        refine⟨b,Z,D,?_,U⟩;obtain⟨t,e,B⟩:=vY B;have S:ks.length=1:=by rw[←w8 ks t,←e];rfl
        match ks,S,t,e,B with
        | [k],_,t,e,B=>rw[←e]at B;exact B
      refine I (s':=callFunc g (first.toList++args++cap.toList).toArray) (fun w=>?_) M.out
      have e:first++args.toArray++cap=(first.toList++args++cap.toList).toArray:=by apply dJ;simp
      rw[←e];simp[execOp,resolve,hc,H.args p,A hfv,Deferred.ofValue,invoke]
     ·exact j.elim
  ·exact j.elim
 |_=>simp only[KY]at j
end Go.Lift
