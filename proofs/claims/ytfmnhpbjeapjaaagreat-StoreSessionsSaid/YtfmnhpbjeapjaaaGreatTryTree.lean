/- A part of the proof that the named laws of this program answer true, whatever the input. -/
import Derived.Test.YtfmnhpbjeapjaaaGreatRows
import Derived.Test.YtfmnhpbjeapjaaaGreatPart0
open List renaming getElem?_eq_getElem→aA,drop_zero→dN,take_succ_cons→i4,drop_succ_cons→mg
namespace Go.Proofs.YtfmnhpbjeapjaaaGreat
open Go Go.Lift Go.Proofs Go.ChangeShapes Go.WideShapes Go.ChangeAt Go.RowKit
theorem Tryz.own:ownKnob Tryz.prog.godebug=none:=by kernel_rfl
theorem Tryz.laidOut:laidOutB Tryz.prog=true:=by kernel_rfl
theorem QO:Tryz.prog.underlying Em=some (.int .u8):=by kernel_rfl
theorem L8:Tryz.prog.underlying BP=some (.int .u64):=by kernel_rfl
theorem PI:Tryz.prog.underlying vO=some .bool:=by kernel_rfl
theorem QP:∃f0 f1:Field,Tryz.prog.underlying j5=some (.struct #[f0,f1])∧(f0.type=BP∧f0.offset=0)∧f1.type=BP∧f1.offset=1:=
 ⟨_,_,(by kernel_rfl:Tryz.prog.underlying j5=some (.struct #[{name:= "K0",pkgPath:= "",type:=BP,tag:= "",embedded:=false,offset:=0,byteOffset:=0},{name:= "K1",pkgPath:= "",type:=BP,tag:= "",embedded:=false,offset:=1,byteOffset:=8}])),⟨rfl,rfl⟩,rfl,rfl⟩
theorem RD:∃f0 f1:Field,Tryz.prog.underlying cc=some (.struct #[f0,f1])∧(f0.type=j5∧f0.offset=0)∧f1.type=BP∧f1.offset=2:=
 ⟨_,_,(by kernel_rfl:Tryz.prog.underlying cc=some (.struct #[{name:= "Key",pkgPath:= "",type:=j5,tag:= "",embedded:=false,offset:=0,byteOffset:=0},{name:= "Mask",pkgPath:= "",type:=BP,tag:= "",embedded:=false,offset:=2,byteOffset:=16}])),⟨rfl,rfl⟩,rfl,rfl⟩
theorem Sb:Tryz.prog.cellsOf Em=1:=by kernel_rfl
theorem NJ:Tryz.prog.cellsOf BP=1:=by kernel_rfl
theorem Rl:Tryz.prog.cellsOf j5=2:=by kernel_rfl
theorem Sc:Tryz.prog.cellsOf cc=3:=by kernel_rfl
theorem EO{k:IntKind}{n:Int}(h:(Lit.int k n).wf=true):k.min≤n∧n≤k.max:=by
 simpa only[Lit.wf,Bool.and_eq_true,decide_eq_true_iff]using h
section
variable {H:Type} {enc:TypeId×Value→H} {w:World} {sp:Nat→Bool} {held:Bool}
set_option maxRecDepth 100000 in
theorem Qw{y:Nat}{v:Value}{d:DataW H}{p:List MemPlace}(c:Value.okWide Tryz.prog w .any y cc v)(h:DataW.Trod enc Tryz.prog w 0 sp held cc v d p):
  ∃x:Hs,v=.agg #[.int .u64 x.k0,.int .u64 x.k1,.int .u64 x.mask]:=by
 obtain⟨E,L,u,⟨B,J⟩,F,N⟩:=RD;obtain⟨cs,rfl,f⟩:=okWide_struct u c;rw[Sc]at f;obtain⟨fuel,g⟩:=h;obtain⟨xs,n,rfl,_,_,b,g⟩:=DataW.trod_struct u g;have b:xs.length=2:=b;obtain⟨l,rfl⟩:∃l:List Value,cs=l.toArray:=⟨cs.toList,rfl⟩;match l,f with
 | [v0,v1,v2],_=>
 have j:=g 0 E rfl;have i:=g 1 L rfl;rw[B,J,Rl,aA (by omega)]at j;rw[F,N,NJ,aA (by omega)]at i;simp only[Value.cells,dN,i4,List.take_zero,mg]at j i;obtain⟨D,z,k,⟨O,A⟩,C,I⟩:=QP;obtain⟨ys,q,rfl,_,_,e,t⟩:=DataW.trod_struct k j;have e:ys.length=2:=e;have k0:=t 0 D rfl;have k1:=t 1 z rfl
 rw[O,A,NJ,aA (by omega)]at k0;rw[C,I,NJ,aA (by omega)]at k1;obtain⟨G,s,_⟩:=DataW.trod_int L8 k0;obtain⟨K,o,_⟩:=DataW.trod_int L8 k1;obtain⟨q,m,_⟩:=DataW.trod_int L8 i;simp only[dN,i4,List.take_zero,mg,List.cons.injEq,and_true]at s o m;subst s o m;exact⟨⟨G,K,q⟩,rfl⟩
set_option maxRecDepth 100000 in
theorem Qv{f:Nat}{v:Value}{d:DataW H}{p:List MemPlace}(b:Value.okWide Tryz.prog w .any f Em v)(h:DataW.Trod enc Tryz.prog w 0 sp held Em v d p):
  ∃n:Int,v=.int .u8 n∧0≤n∧n≤255:=by
 obtain⟨n,e,_,_,c⟩:=open_int QO b h;exact⟨n,e,EO c⟩
end
end Go.Proofs.YtfmnhpbjeapjaaaGreat
