/- A part of the proof that the named laws of this program answer true, whatever the input. -/
import Derived.Test.YtcpiahjlddmfiaaGreatRows
import Derived.Test.YtcpiahjlddmfiaaGreatPart0
open List renaming getElem?_eq_getElem→al,drop_zero→dE,take_succ_cons→dz,drop_succ_cons→l3
namespace Go.Proofs.YtcpiahjlddmfiaaGreat
open Go Go.Lift Go.Proofs Go.ChangeShapes Go.WideShapes Go.ChangeAt Go.RowKit
theorem Tryz.own:ownKnob Tryz.prog.godebug=none:=by kernel_rfl
theorem Tryz.laidOut:laidOutB Tryz.prog=true:=by kernel_rfl
theorem Uj:Tryz.prog.underlying bX=some (.int .u8):=by kernel_rfl
theorem Oz:Tryz.prog.underlying ni=some (.int .u64):=by kernel_rfl
theorem Tq:Tryz.prog.underlying LY=some .string:=by kernel_rfl
theorem Sn:Tryz.prog.underlying vD=some .bool:=by kernel_rfl
theorem Ts:∃f0 f1:Field,Tryz.prog.underlying jT=some (.struct #[f0,f1])∧(f0.type=ni∧f0.offset=0)∧f1.type=ni∧f1.offset=1:=
 ⟨_,_,(by kernel_rfl:Tryz.prog.underlying jT=some (.struct #[{name:= "K0",pkgPath:= "",type:=ni,tag:= "",embedded:=false,offset:=0,byteOffset:=0},{name:= "K1",pkgPath:= "",type:=ni,tag:= "",embedded:=false,offset:=1,byteOffset:=8}])),⟨rfl,rfl⟩,rfl,rfl⟩
theorem Uk:∃f0 f1:Field,Tryz.prog.underlying cq=some (.struct #[f0,f1])∧(f0.type=jT∧f0.offset=0)∧f1.type=ni∧f1.offset=2:=
 ⟨_,_,(by kernel_rfl:Tryz.prog.underlying cq=some (.struct #[{name:= "Key",pkgPath:= "",type:=jT,tag:= "",embedded:=false,offset:=0,byteOffset:=0},{name:= "Mask",pkgPath:= "",type:=ni,tag:= "",embedded:=false,offset:=2,byteOffset:=16}])),⟨rfl,rfl⟩,rfl,rfl⟩
theorem PQ:Tryz.prog.cellsOf ni=1:=by kernel_rfl
theorem Ua:Tryz.prog.cellsOf jT=2:=by kernel_rfl
theorem UQ:Tryz.prog.cellsOf cq=3:=by kernel_rfl
theorem E2{k:IntKind}{n:Int}(h:(Lit.int k n).wf=true):k.min≤n∧n≤k.max:=by
 simpa only[Lit.wf,Bool.and_eq_true,decide_eq_true_iff]using h
section
variable {H:Type} {enc:TypeId×Value→H} {w:World} {sp:Nat→Bool} {held:Bool}
set_option maxRecDepth 100000 in
theorem S6{N:Nat}{v:Value}{d:DataW H}{p:List MemPlace}(c:Value.okWide Tryz.prog w .any N cq v)(h:DataW.Trod enc Tryz.prog w 0 sp held cq v d p):
  ∃x:Hs,v=.agg #[.int .u64 x.k0,.int .u64 x.k1,.int .u64 x.mask]:=by
 obtain⟨y,L,t,⟨z,K⟩,D,J⟩:=Uk;obtain⟨cs,rfl,e⟩:=okWide_struct t c;rw[UQ]at e;obtain⟨s,f⟩:=h;obtain⟨xs,n,rfl,_,_,a,f⟩:=DataW.trod_struct t f;have a:xs.length=2:=a;obtain⟨l,rfl⟩:∃l:List Value,cs=l.toArray:=⟨cs.toList,rfl⟩;match l,e with
 | [v0,v1,v2],_=>
 have j:=f 0 y rfl;have i:=f 1 L rfl;rw[z,K,Ua,al (by omega)]at j;rw[D,J,PQ,al (by omega)]at i;simp only[Value.cells,dE,dz,List.take_zero,l3]at j i;obtain⟨G,A,g,⟨C,O⟩,B,I⟩:=Ts;obtain⟨ys,m,rfl,_,_,b,k⟩:=DataW.trod_struct g j;have b:ys.length=2:=b;have k0:=k 0 G rfl;have k1:=k 1 A rfl
 rw[C,O,PQ,al (by omega)]at k0;rw[B,I,PQ,al (by omega)]at k1;obtain⟨F,u,_⟩:=DataW.trod_int Oz k0;obtain⟨E,o,_⟩:=DataW.trod_int Oz k1;obtain⟨m,q,_⟩:=DataW.trod_int Oz i;simp only[dE,dz,List.take_zero,l3,List.cons.injEq,and_true]at u o q;subst u o q;exact⟨⟨F,E,m⟩,rfl⟩
set_option maxRecDepth 100000 in
theorem S5{b:Nat}{v:Value}{d:DataW H}{p:List MemPlace}(a:Value.okWide Tryz.prog w .any b bX v)(h:DataW.Trod enc Tryz.prog w 0 sp held bX v d p):
  ∃n:Int,v=.int .u8 n∧0≤n∧n≤255:=by
 obtain⟨n,e,_,_,c⟩:=open_int Uj a h;exact⟨n,e,E2 c⟩
end
end Go.Proofs.YtcpiahjlddmfiaaGreat
