/- A part of the proof that the named laws of this program answer true, whatever the input. -/
import Derived.Test.YtncppacbfagpgaaGreatDoorTryInt
import Derived.Test.YtncppacbfagpgaaGreatDoorPart11
open List renaming getElem?_eq_getElem→af,cons→fp
namespace Go.Proofs.YtncppacbfagpgaaGreatDoor
open Go Go.Lift Go.Proofs Go.ChangeShapes Go.WideShapes Go.ChangeAt Go.RowKit
theorem PL:Tryz.prog.underlying nU=some (.slice qX):=by kernel_rfl
theorem Uv:∃f0 f1 f2 f3 f4:Field,Tryz.prog.underlying qX=some (.struct #[f0,f1,f2,f3,f4])∧(f0.type=cy∧f0.offset=0)∧(f1.type=aj∧f1.offset=1)∧(f2.type=cy∧f2.offset=3)∧(f3.type=FJ∧f3.offset=4)∧f4.type=FJ∧f4.offset=5:=
 ⟨_,_,_,_,_,(by kernel_rfl:Tryz.prog.underlying qX=some (.struct #[{name:= "Do",pkgPath:= "",type:=cy,tag:= "",embedded:=false,offset:=0,byteOffset:=0},{name:= "P",pkgPath:= "",type:=aj,tag:= "",embedded:=false,offset:=1,byteOffset:=8},{name:= "At",pkgPath:= "",type:=cy,tag:= "",embedded:=false,offset:=3,byteOffset:=40},{name:= "Key",pkgPath:= "",type:=FJ,tag:= "",embedded:=false,offset:=4,byteOffset:=42},{name:= "Value",pkgPath:= "",type:=FJ,tag:= "",embedded:=false,offset:=5,byteOffset:=44}])),⟨rfl,rfl⟩,⟨rfl,rfl⟩,⟨rfl,rfl⟩,⟨rfl,rfl⟩,rfl,rfl⟩
theorem Th:Tryz.prog.cellsOf FJ=1:=by kernel_rfl
theorem UV:Tryz.prog.cellsOf qX=6:=by kernel_rfl
theorem Uc(a:Ac):(Rc a).length=6∧0<6:=⟨rfl,by omega⟩
section
variable {H:Type} {enc:TypeId×Value→H} {w:World} {sp:Nat→Bool} {held:Bool}
set_option maxRecDepth 100000 in
theorem Ql{fuel:Nat}{cells:List Value}{y:DataW H×List MemPlace}(hl:cells.length=6)(hy:DataW.trod enc Tryz.prog w 0 sp held fuel qX cells=some y):∃c:Ac,cells=Rc c∧Va c:=by
 obtain⟨f0,f1,f2,f3,f4,hu,⟨t0,o0⟩,⟨t1,o1⟩,⟨t2,o2⟩,⟨t3,o3⟩,t4,o4⟩:=Uv;obtain⟨xs,n,rfl,_,_,hxs,hf⟩:=DataW.trod_struct hu hy;have hxs:xs.length=5:=hxs;match cells,hl with
 | [v0,v1,v2,v3,v4,v5],_=>
 have g0:=hf 0 f0 rfl;have g1:=hf 1 f1 rfl;have g2:=hf 2 f2 rfl;have g3:=hf 3 f3 rfl;have g4:=hf 4 f4 rfl;rw[t0,o0,T0,af (by omega)]at g0;rw[t1,o1,Vx,af (by omega)]at g1;rw[t2,o2,T0,af (by omega)]at g2;rw[t3,o3,Th,af (by omega)]at g3;rw[t4,o4,Th,af (by omega)]at g4;obtain⟨n0,e0,_,w0⟩:=DataW.trod_int Tv g0
 obtain⟨p,e1⟩:=Sj rfl g1;obtain⟨n2,e2,_,w2⟩:=DataW.trod_int Tv g2;obtain⟨n3,e3,_,w3⟩:=DataW.trod_int SX g3;obtain⟨n4,e4,_,w4⟩:=DataW.trod_int SX g4;simp only[List.drop_zero,List.take_succ_cons,List.take_zero,List.drop_succ_cons,fp.injEq,and_true]at e0 e1 e2 e3 e4;obtain⟨e1,e1'⟩:=e1;subst e0 e1 e1' e2 e3 e4;exact⟨(n0,p.1,p.2,n2,n3,n4),rfl,wz w0,wz w2,wz w3,wz w4⟩
set_option maxRecDepth 100000 in
theorem Q1{b0:Nat}{v:Value}{d:DataW H}{p:List MemPlace}(hval:Value.okWide Tryz.prog w .any b0 nU v)(h:DataW.Trod enc Tryz.prog w 0 sp held nU v d p):
  ∃(s:SliceV) (l:List Ac),v=.slice s.a s.len s.cap∧Sl Rc 6 No w.heap s l∧l.length≤9223372036854775807∧∀a∈l,Va a:=by
 obtain⟨a,ln,c,rfl⟩:=okWide_slice PL hval;obtain⟨fuel,hf⟩:=h;obtain⟨s,xs,h1,h2,hm,h3,hb⟩:=RJ PL hf Rc UV Uc Va fun fuel cells y hl hy=>Ql hl hy
 simp only[Value.cells,fp.injEq,and_true]at h1;have:=h3.len;simp only[maxLen]at hm;exact⟨s,xs,h1,h3,by omega,hb⟩
end
end Go.Proofs.YtncppacbfagpgaaGreatDoor
