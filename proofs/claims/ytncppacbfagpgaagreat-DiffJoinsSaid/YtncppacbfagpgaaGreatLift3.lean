/- A part of the proof that the named laws of this program answer true, whatever the input. -/
import Derived.Test.YtncppacbfagpgaaGreatLift2
namespace Go.Lift
open Go
open List renaming size_toArray→dE,append_assoc→aA,take_left'→cL,drop_drop→dF,drop_left'→co,drop_append_of_le_length→fF,length_append→ad
open Nat renaming add_zero→iP
theorem bC{h:af}{k:af→Prop}(hk:k h):At h k:=hk
theorem jQ{b o l m sz:Nat}(h:m≠l):aP (some ⟨b,o,none⟩) l m sz=some ⟨b,o+l*sz,none⟩:=by simp[aP,h,cd]
theorem sub_zero{b m sz:Nat}:aP (some ⟨b,0,none⟩) 0 m sz=some ⟨b,0,none⟩:=by
 unfold aP;split
 ·rfl
 ·simp[cd]
theorem lg{h:af}{b:Nat}{c:List Value}{t:TypeId}{o n:Nat}{vs:List Value}{src:Option Addr}{k:af→Prop}(hs:SRow h src n vs)(h1:cf vs=true)(hb:h[b]?=some(.cells c.toArray t(0,0)))
  (hl:o+n≤c.length)(hk:∀h',h'[b]?=some(.cells(c.take o++vs++c.drop(o+n)).toArray t(0,0))→Upd(·=b) h h'→k h'):
  ∃xs,SRow h src n xs∧dq h(some ⟨b,o,none⟩) 0 xs∧cf xs=true∧At(fV h(some ⟨b,o,none⟩) 0 xs) k:=by
 have hn:=hs.1;refine⟨vs,hs,.inr ⟨_,rfl,fun j hj=>?_⟩,h1,bC ?_⟩
 ·rw[cd];exact ir hb(by rw[dE];omega)
 ·have e:fV h(some ⟨b,o,none⟩) 0 vs=_:=ju vs h 0 o c hb(by omega)
  rw[e];refine hk _ ?_(Upd.set h _ rfl);rw[jo hb,iP,hn]
theorem lC{h:af}{b:Nat}{c:List Value}{t:TypeId}{o n:Nat}{vs:List Value}(hb:h[b]?=some(.cells c.toArray t(0,0)))(hl:vs.length=n)(he:(c.drop o).take n=vs):SRow h(some ⟨b,o,none⟩) n vs:=by
 refine⟨hl,.inr ⟨_,rfl,pd hb fun i v hv=>?_⟩⟩
 rw[List.getElem?_toArray,←List.getElem?_drop];have:((c.drop o).take n)[i]?=some v:=by rw[he];exact hv
 rw[List.getElem?_take]at this;split at this
 ·exact this
 ·cases this
section
variable {α:Type} {f:α→List Value} {sz:Nat}
theorem kM(hf:∀x,(f x).length=sz∧0<sz)(xs:List α):(xs.flatMap f).length=xs.length*sz:=mw (fun x=>(hf x).1) xs
theorem yZ(xs:List α)(k:Nat):xs.flatMap f=(xs.take k).flatMap f++(xs.drop k).flatMap f:=by rw[←List.flatMap_append,List.take_append_drop]
end
theorem IP{α:Type}{A X B Z1 Z2:List α}{p q r:Nat}(hA:A.length=p)(hX:X.length=q)(hZ:Z1.length=r+q):
  (((A++Z1++Z2).take p++X++(A++Z1++Z2).drop (p+q)).take (p+q))++B++((A++Z1++Z2).take p++X++(A++Z1++Z2).drop (p+q)).drop (p+q+r)=A++(X++B)++Z2:=by
 have e1:(A++Z1++Z2).take p=A:=by rw[aA,cL hA]
 have e2:(A++Z1++Z2).drop (p+q)=Z1.drop q++Z2:=by
  rw[aA,←dF,co hA,fF (by omega)]
 have hAX:(A++X).length=p+q:=by rw[ad];omega
 rw[e1,e2,cL hAX,←dF,co hAX,fF (by rw[List.length_drop];omega),dF,List.drop_eq_nil_of_le (by omega),List.nil_append];simp only[aA]
theorem MP{α:Type}{A X B R:List α}{p q r:Nat}(hA:A.length=p)(hB:B.length=r)(hR:q≤R.length):
  (((A++B++R).take (p+q)++B++(A++B++R).drop (p+q+r)).take p)++X++((A++B++R).take (p+q)++B++(A++B++R).drop (p+q+r)).drop (p+q)=A++(X++B)++R.drop q:=by
 have hl:((A++B++R).take (p+q)).length=p+q:=by rw[List.length_take,ad,ad];omega
 have e3:(A++B++R).drop (p+q+r)=R.drop q:=by
  rw[show p+q+r=(p+r)+q by omega,←dF,co (by rw[ad];omega)]
 have e1:((A++B++R).take (p+q)++(B++(A++B++R).drop (p+q+r))).take p=A:=by
  rw[List.take_append_of_le_length (by omega),List.take_take,Nat.min_eq_left (by omega),aA,cL hA]
 rw[aA ((A++B++R).take (p+q)),e1,co hl,e3];simp only[aA]
theorem Na{h:af}{b:Nat}{c:List Value}{t t':TypeId}{sz bytes sl sc xl:Nat}{xs:List Value}{z:Option(List Value)}{K:SliceV→af→Prop}(hb:h[b]?=some(.cells c.toArray t(0,0)))
  (hl:sl*sz+xs.length≤c.length)(hin:sl+xl≤sc)(h1:cf xs=true)(hk:∀h',h'[b]?=some(.cells(c.take(sl*sz)++xs++c.drop(sl*sz+xs.length)).toArray t(0,0))→Upd(·=b) h h'→K ⟨some ⟨b,0,none⟩,sl+xl,sc⟩ h'):
  AppP z sz bytes t'(some ⟨b,0,none⟩) sl sc xl xs h K:=by
 refine⟨fun _=>⟨.inr ⟨_,rfl,fun j hj=>?_⟩,h1,?_⟩,fun h=>by omega⟩
 ·rw[cd];exact ir hb(by rw[dE];omega)
 ·have e:fV h(some ⟨b,0,none⟩)(sl*sz) xs=_:=ju xs h(sl*sz) 0 c hb(by omega)
  rw[e];refine hk _ ?_(Upd.set h _ rfl);rw[jo hb,Nat.zero_add]
theorem Iz{h:af}{b:Nat}{c:List Value}{t:TypeId}{o:Nat}{vs:List Value}{k:af→Prop}(hb:h[b]?=some(.cells c.toArray t(0,0)))
  (hl:o+vs.length≤c.length)(hk:∀h',h'[b]?=some(.cells(c.take o++vs++c.drop(o+vs.length)).toArray t(0,0))→Upd(·=b) h h'→k h'):
  dq h(some ⟨b,o,none⟩) 0 vs∧At(fV h(some ⟨b,o,none⟩) 0 vs) k:=by
 refine⟨.inr ⟨_,rfl,fun j hj=>?_⟩,bC ?_⟩
 ·rw[cd];exact ir hb(by rw[dE];omega)
 ·have e:fV h(some ⟨b,o,none⟩) 0 vs=_:=ju vs h 0 o c hb(by omega)
  rw[e];refine hk _ ?_(Upd.set h _ rfl);rw[jo hb,iP]
end Go.Lift
namespace Go.Lift
open Go
structure Takes{α:Type}(P:Program)(y:Value)(enc:α→List Value)(N:Nat)(J:List α→(Nat→Prop)→af→Prop):Prop where
 lt:∀pre A h,J pre A h→∀b,A b→b<h.size
 keep:∀pre A h h' B,J pre A h→Upd B h h'→(∀b,A b→¬B b)→J pre A h'
 step:∀pre A h x (K:Bool→af→Prop),J pre A h→pre.length<N→(∀h' A',J (pre++ [x]) A' h'→Upd A h h'→(∀b,A' b→A b∨h.size≤b)→K true h')→HV P y (enc x) [.c .bool] K h
structure Gives{α:Type}(P:Program)(fv:Value)(enc:α→List Value)(N:Nat)(S:List α→Prop)(Q:Nat→Prop)(h:af):Prop where
 lt:∀b,Q b→b<h.size
 run:∃f first cap,fv=.func (.func f) first cap∧∀(y:Value) (J:List α→(Nat→Prop)→af→Prop) (A M:Nat→Prop) (h1:af) (K:Unit→af→Prop),Takes P y enc N J→J [] A h1→Upd M h h1→(∀b,Q b→¬M b)→(∀b,A b→¬Q b)→
  (∀xs A' h',S xs→J xs A' h'→Upd A h1 h'→(∀b,A' b→A b∨h1.size≤b)→K () h')→HE P f (first.toList++ [y]++cap.toList) [] K h1
theorem Gives.upd{α:Type}{P:Program}{fv:Value}{enc:α→List Value}{N:Nat}{S:List α→Prop}{Q M:Nat→Prop}{h h':af}(g:Gives P fv enc N S Q h)(k:Upd M h h')(hm:∀b,Q b→¬M b):Gives P fv enc N S Q h':=by
 obtain⟨f,first,cap,e,hr⟩:=g.run
 refine⟨fun b hb=>Nat.lt_of_lt_of_le (g.lt b hb) k.size,f,first,cap,e,fun y J A M' h1 K ht hj hu hq ha hk=>?_⟩
 exact hr y J A (fun b=>M b∨M' b) h1 K ht hj ((k.mono fun b hb=>.inl (.inl hb)).tr (hu.mono fun b hb=>.inl (.inr hb))) (fun b hb h=>h.elim (hm b hb) (hq b hb)) ha hk
end Go.Lift
