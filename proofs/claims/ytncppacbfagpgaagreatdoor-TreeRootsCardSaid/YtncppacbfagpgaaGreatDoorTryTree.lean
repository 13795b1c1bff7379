/- A part of the proof that the named laws of this program answer true, whatever the input. -/
import Derived.Test.YtncppacbfagpgaaGreatDoorRows
import Derived.Test.YtncppacbfagpgaaGreatDoorPart1
import Derived.Test.YtncppacbfagpgaaGreatDoorPart0
open List renaming getElem?_eq_getElem→af,drop_zero→dE,take_succ_cons→dI,take_zero→qF,drop_succ_cons→ju,cons→fp
namespace Go.Proofs.YtncppacbfagpgaaGreatDoor
open Go Go.Lift Go.Proofs Go.ChangeShapes Go.WideShapes Go.ChangeAt Go.RowKit
theorem Tryz.own:ownKnob Tryz.prog.godebug=none:=by kernel_rfl
theorem Tryz.laidOut:laidOutB Tryz.prog=true:=by kernel_rfl
theorem Ru:Tryz.prog.underlying cD=some (.int .u8):=by kernel_rfl
theorem MI:Tryz.prog.underlying nq=some (.int .u64):=by kernel_rfl
theorem Py:Tryz.prog.underlying DC=some .string:=by kernel_rfl
theorem PY:Tryz.prog.underlying rx=some .bool:=by kernel_rfl
theorem Pz:Tryz.prog.underlying cL=some (.slice ag):=by kernel_rfl
theorem Rv:∃f0 f1:Field,Tryz.prog.underlying ag=some (.struct #[f0,f1])∧(f0.type=DC∧f0.offset=0)∧f1.type=DC∧f1.offset=1:=
 ⟨_,_,(by kernel_rfl:Tryz.prog.underlying ag=some (.struct #[{name:= "Key",pkgPath:= "",type:=DC,tag:= "",embedded:=false,offset:=0,byteOffset:=0},{name:= "Value",pkgPath:= "",type:=DC,tag:= "",embedded:=false,offset:=1,byteOffset:=16}])),⟨rfl,rfl⟩,rfl,rfl⟩
theorem QN:∃f0 f1:Field,Tryz.prog.underlying kq=some (.struct #[f0,f1])∧(f0.type=nq∧f0.offset=0)∧f1.type=nq∧f1.offset=1:=
 ⟨_,_,(by kernel_rfl:Tryz.prog.underlying kq=some (.struct #[{name:= "K0",pkgPath:= "",type:=nq,tag:= "",embedded:=false,offset:=0,byteOffset:=0},{name:= "K1",pkgPath:= "",type:=nq,tag:= "",embedded:=false,offset:=1,byteOffset:=8}])),⟨rfl,rfl⟩,rfl,rfl⟩
theorem Rw:∃f0 f1:Field,Tryz.prog.underlying cC=some (.struct #[f0,f1])∧(f0.type=kq∧f0.offset=0)∧f1.type=nq∧f1.offset=2:=
 ⟨_,_,(by kernel_rfl:Tryz.prog.underlying cC=some (.struct #[{name:= "Key",pkgPath:= "",type:=kq,tag:= "",embedded:=false,offset:=0,byteOffset:=0},{name:= "Mask",pkgPath:= "",type:=nq,tag:= "",embedded:=false,offset:=2,byteOffset:=16}])),⟨rfl,rfl⟩,rfl,rfl⟩
theorem RL:Tryz.prog.cellsOf cD=1:=by kernel_rfl
theorem NP:Tryz.prog.cellsOf nq=1:=by kernel_rfl
theorem PO:Tryz.prog.cellsOf DC=1:=by kernel_rfl
theorem RM:Tryz.prog.cellsOf ag=2:=by kernel_rfl
theorem Q9:Tryz.prog.cellsOf kq=2:=by kernel_rfl
theorem RN:Tryz.prog.cellsOf cC=3:=by kernel_rfl
section
variable {H:Type} {enc:TypeId×Value→H} {w:World} {sp:Nat→Bool} {held:Bool}
set_option maxRecDepth 100000 in
theorem OW{fuel:Nat}{cells:List Value}{y:DataW H×List MemPlace}(hl:cells.length=2)(hy:DataW.trod enc Tryz.prog w 0 sp held fuel ag cells=some y):∃p:Pr,cells=eC p:=by
 obtain⟨f0,f1,hu,⟨t0,o0⟩,t1,o1⟩:=Rv;obtain⟨xs,n,rfl,_,_,hxs,hf⟩:=DataW.trod_struct hu hy;have hxs:xs.length=2:=hxs;match cells,hl with
 | [v0,v1],_=>
 have g0:=hf 0 f0 rfl;have g1:=hf 1 f1 rfl;rw[t0,o0,PO,af (by omega)]at g0;rw[t1,o1,PO,af (by omega)]at g1;obtain⟨s0,e0,_⟩:=DataW.trod_string Py g0;obtain⟨s1,e1,_⟩:=DataW.trod_string Py g1;simp only[dE,dI,qF,ju,fp.injEq,and_true]at e0 e1;subst e0 e1;exact⟨(s0,s1),rfl⟩
set_option maxRecDepth 100000 in
theorem L8{b0:Nat}{v:Value}{d:DataW H}{p:List MemPlace}(hval:Value.okWide Tryz.prog w .any b0 cL v)(h:DataW.Trod enc Tryz.prog w 0 sp held cL v d p):
  ∃(s:SliceV) (l:List Pr),v=.slice s.a s.len s.cap∧Sl eC 2 No w.heap s l∧l.length≤9223372036854775807∧s.len≤s.cap:=by
 obtain⟨a,ln,c,rfl⟩:=okWide_slice Pz hval;obtain⟨fuel,hf⟩:=h;obtain⟨s,xs,h1,h2,hm,h3,_⟩:=Ou Pz hf eC RM fO (fun _=>True) fun fuel cells y hl hy=>by
  obtain⟨p,e⟩:=OW hl hy;exact⟨p,e,trivial⟩
 simp only[Value.cells,fp.injEq,and_true]at h1;have:=h3.len;simp only[maxLen]at hm;exact⟨s,xs,h1,h3,by omega,h2⟩
set_option maxRecDepth 100000 in
theorem Qw{b0:Nat}{v:Value}{d:DataW H}{p:List MemPlace}(hval:Value.okWide Tryz.prog w .any b0 cC v)(h:DataW.Trod enc Tryz.prog w 0 sp held cC v d p):
  ∃x:Hs,v=.agg #[.int .u64 x.k0,.int .u64 x.k1,.int .u64 x.mask]:=by
 obtain⟨f0,f1,hu,⟨t0,o0⟩,t1,o1⟩:=Rw;obtain⟨cs,rfl,hcs⟩:=okWide_struct hu hval;rw[RN]at hcs;obtain⟨fuel,hf⟩:=h;obtain⟨xs,n,rfl,_,_,hxs,hf⟩:=DataW.trod_struct hu hf;have hxs:xs.length=2:=hxs;obtain⟨l,rfl⟩:∃l:List Value,cs=l.toArray:=⟨cs.toList,rfl⟩;match l,hcs with
 | [v0,v1,v2],_=>
 have g0:=hf 0 f0 rfl;have g1:=hf 1 f1 rfl;rw[t0,o0,Q9,af (by omega)]at g0;rw[t1,o1,NP,af (by omega)]at g1;simp only[Value.cells,dE,dI,qF,ju]at g0 g1;obtain⟨q0,q1,hu2,⟨r0,p0⟩,r1,p1⟩:=QN;obtain⟨ys,n2,rfl,_,_,hys,hg⟩:=DataW.trod_struct hu2 g0;have hys:ys.length=2:=hys;have k0:=hg 0 q0 rfl;have k1:=hg 1 q1 rfl
 rw[r0,p0,NP,af (by omega)]at k0;rw[r1,p1,NP,af (by omega)]at k1;obtain⟨n0,e0,_⟩:=DataW.trod_int MI k0;obtain⟨n1,e1,_⟩:=DataW.trod_int MI k1;obtain⟨n2,e2,_⟩:=DataW.trod_int MI g1;simp only[dE,dI,qF,ju,fp.injEq,and_true]at e0 e1 e2;subst e0 e1 e2;exact⟨⟨n0,n1,n2⟩,rfl⟩
end
end Go.Proofs.YtncppacbfagpgaaGreatDoor
