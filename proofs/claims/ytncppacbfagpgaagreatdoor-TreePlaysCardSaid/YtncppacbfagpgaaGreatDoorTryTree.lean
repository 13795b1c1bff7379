/- A part of the proof that the named laws of this program answer true, whatever the input. -/
import Derived.Test.YtncppacbfagpgaaGreatDoorRows
import Derived.Test.YtncppacbfagpgaaGreatDoorPart1
import Derived.Test.YtncppacbfagpgaaGreatDoorPart0
open List renaming getElem?_eq_getElem→af,drop_zero→cR,take_succ_cons→dd,take_zero→oZ,drop_succ_cons→iz,cons→fp
namespace Go.Proofs.YtncppacbfagpgaaGreatDoor
open Go Go.Lift Go.Proofs Go.ChangeShapes Go.WideShapes Go.ChangeAt Go.RowKit
theorem Tryz.own:ownKnob Tryz.prog.godebug=none:=by kernel_rfl
theorem Tryz.laidOut:laidOutB Tryz.prog=true:=by kernel_rfl
theorem Tv:Tryz.prog.underlying cy=some (.int .u8):=by kernel_rfl
theorem PK:Tryz.prog.underlying nZ=some (.int .u64):=by kernel_rfl
theorem SY:Tryz.prog.underlying FK=some .string:=by kernel_rfl
theorem Tw:Tryz.prog.underlying sZ=some .bool:=by kernel_rfl
theorem Vc:∃f0 f1:Field,Tryz.prog.underlying aj=some (.struct #[f0,f1])∧(f0.type=FK∧f0.offset=0)∧f1.type=FK∧f1.offset=1:=
 ⟨_,_,(by kernel_rfl:Tryz.prog.underlying aj=some (.struct #[{name:= "Key",pkgPath:= "",type:=FK,tag:= "",embedded:=false,offset:=0,byteOffset:=0},{name:= "Value",pkgPath:= "",type:=FK,tag:= "",embedded:=false,offset:=1,byteOffset:=16}])),⟨rfl,rfl⟩,rfl,rfl⟩
theorem Ut:∃f0 f1:Field,Tryz.prog.underlying kR=some (.struct #[f0,f1])∧(f0.type=nZ∧f0.offset=0)∧f1.type=nZ∧f1.offset=1:=
 ⟨_,_,(by kernel_rfl:Tryz.prog.underlying kR=some (.struct #[{name:= "K0",pkgPath:= "",type:=nZ,tag:= "",embedded:=false,offset:=0,byteOffset:=0},{name:= "K1",pkgPath:= "",type:=nZ,tag:= "",embedded:=false,offset:=1,byteOffset:=8}])),⟨rfl,rfl⟩,rfl,rfl⟩
theorem Vd:∃f0 f1:Field,Tryz.prog.underlying cr=some (.struct #[f0,f1])∧(f0.type=kR∧f0.offset=0)∧f1.type=nZ∧f1.offset=2:=
 ⟨_,_,(by kernel_rfl:Tryz.prog.underlying cr=some (.struct #[{name:= "Key",pkgPath:= "",type:=kR,tag:= "",embedded:=false,offset:=0,byteOffset:=0},{name:= "Mask",pkgPath:= "",type:=nZ,tag:= "",embedded:=false,offset:=2,byteOffset:=16}])),⟨rfl,rfl⟩,rfl,rfl⟩
theorem T0:Tryz.prog.cellsOf cy=1:=by kernel_rfl
theorem QU:Tryz.prog.cellsOf nZ=1:=by kernel_rfl
theorem Ti:Tryz.prog.cellsOf FK=1:=by kernel_rfl
theorem Vx:Tryz.prog.cellsOf aj=2:=by kernel_rfl
theorem UU:Tryz.prog.cellsOf kR=2:=by kernel_rfl
theorem Vy:Tryz.prog.cellsOf cr=3:=by kernel_rfl
theorem wz{k:IntKind}{n:Int}(h:(Lit.int k n).wf=true):k.min≤n∧n≤k.max:=by
 simpa only[Lit.wf,Bool.and_eq_true,decide_eq_true_iff]using h
section
variable {H:Type} {enc:TypeId×Value→H} {w:World} {sp:Nat→Bool} {held:Bool}
set_option maxRecDepth 100000 in
theorem Sj{fuel:Nat}{cells:List Value}{y:DataW H×List MemPlace}(hl:cells.length=2)(hy:DataW.trod enc Tryz.prog w 0 sp held fuel aj cells=some y):∃p:Pr,cells=eJ p:=by
 obtain⟨f0,f1,hu,⟨t0,o0⟩,t1,o1⟩:=Vc;obtain⟨xs,n,rfl,_,_,hxs,hf⟩:=DataW.trod_struct hu hy;have hxs:xs.length=2:=hxs;match cells,hl with
 | [v0,v1],_=>
 have g0:=hf 0 f0 rfl;have g1:=hf 1 f1 rfl;rw[t0,o0,Ti,af (by omega)]at g0;rw[t1,o1,Ti,af (by omega)]at g1;obtain⟨s0,e0,_⟩:=DataW.trod_string SY g0;obtain⟨s1,e1,_⟩:=DataW.trod_string SY g1;simp only[cR,dd,oZ,iz,fp.injEq,and_true]at e0 e1;subst e0 e1;exact⟨(s0,s1),rfl⟩
set_option maxRecDepth 100000 in
theorem T8{b0:Nat}{v:Value}{d:DataW H}{p:List MemPlace}(hval:Value.okWide Tryz.prog w .any b0 cr v)(h:DataW.Trod enc Tryz.prog w 0 sp held cr v d p):
  ∃x:Hs,v=.agg #[.int .u64 x.k0,.int .u64 x.k1,.int .u64 x.mask]:=by
 obtain⟨f0,f1,hu,⟨t0,o0⟩,t1,o1⟩:=Vd;obtain⟨cs,rfl,hcs⟩:=okWide_struct hu hval;rw[Vy]at hcs;obtain⟨fuel,hf⟩:=h;obtain⟨xs,n,rfl,_,_,hxs,hf⟩:=DataW.trod_struct hu hf;have hxs:xs.length=2:=hxs;obtain⟨l,rfl⟩:∃l:List Value,cs=l.toArray:=⟨cs.toList,rfl⟩;match l,hcs with
 | [v0,v1,v2],_=>
 have g0:=hf 0 f0 rfl;have g1:=hf 1 f1 rfl;rw[t0,o0,UU,af (by omega)]at g0;rw[t1,o1,QU,af (by omega)]at g1;simp only[Value.cells,cR,dd,oZ,iz]at g0 g1;obtain⟨q0,q1,hu2,⟨r0,p0⟩,r1,p1⟩:=Ut;obtain⟨ys,n2,rfl,_,_,hys,hg⟩:=DataW.trod_struct hu2 g0;have hys:ys.length=2:=hys;have k0:=hg 0 q0 rfl;have k1:=hg 1 q1 rfl
 rw[r0,p0,QU,af (by omega)]at k0;rw[r1,p1,QU,af (by omega)]at k1;obtain⟨n0,e0,_⟩:=DataW.trod_int PK k0;obtain⟨n1,e1,_⟩:=DataW.trod_int PK k1;obtain⟨n2,e2,_⟩:=DataW.trod_int PK g1;simp only[cR,dd,oZ,iz,fp.injEq,and_true]at e0 e1 e2;subst e0 e1 e2;exact⟨⟨n0,n1,n2⟩,rfl⟩
end
end Go.Proofs.YtncppacbfagpgaaGreatDoor
