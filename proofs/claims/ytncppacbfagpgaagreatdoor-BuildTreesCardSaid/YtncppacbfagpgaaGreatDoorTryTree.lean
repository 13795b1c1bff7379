/- A part of the proof that the named laws of this program answer true, whatever the input. -/
import Derived.Test.YtncppacbfagpgaaGreatDoorRows
import Derived.Test.YtncppacbfagpgaaGreatDoorPart0
open List renaming getElem?_eq_getElem→ae,drop_zero→dB,take_succ_cons→dW,take_zero→pZ,drop_succ_cons→iU,cons→eg
namespace Go.Proofs.YtncppacbfagpgaaGreatDoor
open Go Go.Lift Go.Proofs Go.ChangeShapes Go.WideShapes Go.ChangeAt Go.RowKit
theorem Tryz.own:ownKnob Tryz.prog.godebug=none:=by kernel_rfl
theorem Tryz.laidOut:laidOutB Tryz.prog=true:=by kernel_rfl
theorem PN:Tryz.prog.underlying ci=some (.int .u8):=by kernel_rfl
theorem Lx:Tryz.prog.underlying mH=some (.int .u64):=by kernel_rfl
theorem Ov:Tryz.prog.underlying CZ=some .string:=by kernel_rfl
theorem OT:Tryz.prog.underlying rz=some .bool:=by kernel_rfl
theorem Ow:Tryz.prog.underlying cD=some (.slice al):=by kernel_rfl
theorem Ql:∃f0 f1:Field,Tryz.prog.underlying al=some (.struct #[f0,f1])∧(f0.type=CZ∧f0.offset=0)∧f1.type=CZ∧f1.offset=1:=
 ⟨_,_,(by kernel_rfl:Tryz.prog.underlying al=some (.struct #[{name:= "Key",pkgPath:= "",type:=CZ,tag:= "",embedded:=false,offset:=0,byteOffset:=0},{name:= "Value",pkgPath:= "",type:=CZ,tag:= "",embedded:=false,offset:=1,byteOffset:=16}])),⟨rfl,rfl⟩,rfl,rfl⟩
theorem PP:∃f0 f1:Field,Tryz.prog.underlying jO=some (.struct #[f0,f1])∧(f0.type=mH∧f0.offset=0)∧f1.type=mH∧f1.offset=1:=
 ⟨_,_,(by kernel_rfl:Tryz.prog.underlying jO=some (.struct #[{name:= "K0",pkgPath:= "",type:=mH,tag:= "",embedded:=false,offset:=0,byteOffset:=0},{name:= "K1",pkgPath:= "",type:=mH,tag:= "",embedded:=false,offset:=1,byteOffset:=8}])),⟨rfl,rfl⟩,rfl,rfl⟩
theorem Qm:∃f0 f1:Field,Tryz.prog.underlying cH=some (.struct #[f0,f1])∧(f0.type=jO∧f0.offset=0)∧f1.type=mH∧f1.offset=2:=
 ⟨_,_,(by kernel_rfl:Tryz.prog.underlying cH=some (.struct #[{name:= "Key",pkgPath:= "",type:=jO,tag:= "",embedded:=false,offset:=0,byteOffset:=0},{name:= "Mask",pkgPath:= "",type:=mH,tag:= "",embedded:=false,offset:=2,byteOffset:=16}])),⟨rfl,rfl⟩,rfl,rfl⟩
theorem QB:Tryz.prog.cellsOf ci=1:=by kernel_rfl
theorem MJ:Tryz.prog.cellsOf mH=1:=by kernel_rfl
theorem OJ:Tryz.prog.cellsOf CZ=1:=by kernel_rfl
theorem QC:Tryz.prog.cellsOf al=2:=by kernel_rfl
theorem P8:Tryz.prog.cellsOf jO=2:=by kernel_rfl
theorem QD:Tryz.prog.cellsOf cH=3:=by kernel_rfl
theorem CX{k:IntKind}{n:Int}(h:(Lit.int k n).wf=true):k.min≤n∧n≤k.max:=by
 simpa only[Lit.wf,Bool.and_eq_true,decide_eq_true_iff]using h
section
variable {H:Type} {enc:TypeId×Value→H} {w:World} {sp:Nat→Bool} {held:Bool}
set_option maxRecDepth 100000 in
theorem NS{fuel:Nat}{cells:List Value}{y:DataW H×List MemPlace}(hl:cells.length=2)(hy:DataW.trod enc Tryz.prog w 0 sp held fuel al cells=some y):∃p:Pr,cells=dD p:=by
 obtain⟨f0,f1,hu,⟨t0,o0⟩,t1,o1⟩:=Ql;obtain⟨xs,n,rfl,_,_,hxs,hf⟩:=DataW.trod_struct hu hy;have hxs:xs.length=2:=hxs;match cells,hl with
 | [v0,v1],_=>
 have g0:=hf 0 f0 rfl;have g1:=hf 1 f1 rfl;rw[t0,o0,OJ,ae (by omega)]at g0;rw[t1,o1,OJ,ae (by omega)]at g1;obtain⟨s0,e0,_⟩:=DataW.trod_string Ov g0;obtain⟨s1,e1,_⟩:=DataW.trod_string Ov g1;simp only[dB,dW,pZ,iU,eg.injEq,and_true]at e0 e1;subst e0 e1;exact⟨(s0,s1),rfl⟩
set_option maxRecDepth 100000 in
theorem KW{b0:Nat}{v:Value}{d:DataW H}{p:List MemPlace}(hval:Value.okWide Tryz.prog w .any b0 cD v)(h:DataW.Trod enc Tryz.prog w 0 sp held cD v d p):
  ∃(s:SliceV) (l:List Pr),v=.slice s.a s.len s.cap∧Sl dD 2 No w.heap s l∧l.length≤9223372036854775807∧s.len≤s.cap:=by
 obtain⟨a,ln,c,rfl⟩:=okWide_slice Ow hval;obtain⟨fuel,hf⟩:=h;obtain⟨s,xs,h1,h2,hm,h3,_⟩:=Np Ow hf dD QC fq (fun _=>True) fun fuel cells y hl hy=>by
  obtain⟨p,e⟩:=NS hl hy;exact⟨p,e,trivial⟩
 simp only[Value.cells,eg.injEq,and_true]at h1;have:=h3.len;simp only[maxLen]at hm;exact⟨s,xs,h1,h3,by omega,h2⟩
set_option maxRecDepth 100000 in
theorem Pu{b0:Nat}{v:Value}{d:DataW H}{p:List MemPlace}(hval:Value.okWide Tryz.prog w .any b0 cH v)(h:DataW.Trod enc Tryz.prog w 0 sp held cH v d p):
  ∃x:Hs,v=.agg #[.int .u64 x.k0,.int .u64 x.k1,.int .u64 x.mask]:=by
 obtain⟨f0,f1,hu,⟨t0,o0⟩,t1,o1⟩:=Qm;obtain⟨cs,rfl,hcs⟩:=okWide_struct hu hval;rw[QD]at hcs;obtain⟨fuel,hf⟩:=h;obtain⟨xs,n,rfl,_,_,hxs,hf⟩:=DataW.trod_struct hu hf;have hxs:xs.length=2:=hxs;obtain⟨l,rfl⟩:∃l:List Value,cs=l.toArray:=⟨cs.toList,rfl⟩;match l,hcs with
 | [v0,v1,v2],_=>
 have g0:=hf 0 f0 rfl;have g1:=hf 1 f1 rfl;rw[t0,o0,P8,ae (by omega)]at g0;rw[t1,o1,MJ,ae (by omega)]at g1;simp only[Value.cells,dB,dW,pZ,iU]at g0 g1;obtain⟨q0,q1,hu2,⟨r0,p0⟩,r1,p1⟩:=PP;obtain⟨ys,n2,rfl,_,_,hys,hg⟩:=DataW.trod_struct hu2 g0;have hys:ys.length=2:=hys;have k0:=hg 0 q0 rfl;have k1:=hg 1 q1 rfl
 rw[r0,p0,MJ,ae (by omega)]at k0;rw[r1,p1,MJ,ae (by omega)]at k1;obtain⟨n0,e0,_⟩:=DataW.trod_int Lx k0;obtain⟨n1,e1,_⟩:=DataW.trod_int Lx k1;obtain⟨n2,e2,_⟩:=DataW.trod_int Lx g1;simp only[dB,dW,pZ,iU,eg.injEq,and_true]at e0 e1 e2;subst e0 e1 e2;exact⟨⟨n0,n1,n2⟩,rfl⟩
set_option maxRecDepth 100000 in
theorem Pt{b0:Nat}{v:Value}{d:DataW H}{p:List MemPlace}(hval:Value.okWide Tryz.prog w .any b0 ci v)(h:DataW.Trod enc Tryz.prog w 0 sp held ci v d p):
  ∃n:Int,v=.int .u8 n∧0≤n∧n≤255:=by
 obtain⟨n,e,_,_,hw⟩:=open_int PN hval h;exact⟨n,e,CX hw⟩
end
end Go.Proofs.YtncppacbfagpgaaGreatDoor
