/- A part of the proof that the named laws of this program answer true, whatever the input. -/
import Derived.Test.YtncppacbfagpgaaGreatTryTree
import Derived.Test.YtncppacbfagpgaaGreatPart5
namespace Go.Proofs.YtncppacbfagpgaaGreat
open Go Go.Lift Go.Proofs Go.ChangeShapes Go.WideShapes Go.ChangeAt Go.RowKit
open List renaming getElem?_eq_getElem→ai,cons→g6
theorem SO:Tryz.prog.underlying js=some (.slice aM):=by kernel_rfl
theorem T9:∃f0 f1 f2 f3 f4:Field,Tryz.prog.underlying aM=some (.struct #[f0,f1,f2,f3,f4])∧(f0.type=sY∧f0.offset=0)∧(f1.type=sY∧f1.offset=1)∧(f2.type=sY∧f2.offset=2)∧(f3.type=p4∧f3.offset=3)∧f4.type=p4∧f4.offset=4:=
 ⟨_,_,_,_,_,(by kernel_rfl:Tryz.prog.underlying aM=some (.struct #[{name:= "Key",pkgPath:= "",type:=sY,tag:= "",embedded:=false,offset:=0,byteOffset:=0},{name:= "Old",pkgPath:= "",type:=sY,tag:= "",embedded:=false,offset:=1,byteOffset:=16},{name:= "New",pkgPath:= "",type:=sY,tag:= "",embedded:=false,offset:=2,byteOffset:=32},{name:= "Was",pkgPath:= "",type:=p4,tag:= "",embedded:=false,offset:=3,byteOffset:=48},{name:= "Is",pkgPath:= "",type:=p4,tag:= "",embedded:=false,offset:=4,byteOffset:=49}])),⟨rfl,rfl⟩,⟨rfl,rfl⟩,⟨rfl,rfl⟩,⟨rfl,rfl⟩,rfl,rfl⟩
theorem Rc:Tryz.prog.cellsOf p4=1:=by kernel_rfl
theorem Us:Tryz.prog.cellsOf aM=5:=by kernel_rfl
section
variable {H:Type} {enc:TypeId×Value→H} {w:World} {sp:Nat→Bool} {held:Bool}
set_option maxRecDepth 100000 in
theorem Sb{fuel:Nat}{cells:List Value}{y:DataW H×List MemPlace}(hl:cells.length=5)(hy:DataW.trod enc Tryz.prog w 0 sp held fuel aM cells=some y):∃c:Ch,cells=jv c:=by
 obtain⟨f0,f1,f2,f3,f4,hu,⟨t0,o0⟩,⟨t1,o1⟩,⟨t2,o2⟩,⟨t3,o3⟩,t4,o4⟩:=T9;obtain⟨xs,n,rfl,_,_,hxs,hf⟩:=DataW.trod_struct hu hy;have hxs:xs.length=5:=hxs;match cells,hl with
 | [v0,v1,v2,v3,v4],_=>
 have g0:=hf 0 f0 rfl;have g1:=hf 1 f1 rfl;have g2:=hf 2 f2 rfl;have g3:=hf 3 f3 rfl;have g4:=hf 4 f4 rfl;rw[t0,o0,HX,ai (by omega)]at g0;rw[t1,o1,HX,ai (by omega)]at g1;rw[t2,o2,HX,ai (by omega)]at g2;rw[t3,o3,Rc,ai (by omega)]at g3;rw[t4,o4,Rc,ai (by omega)]at g4;obtain⟨s0,e0,_⟩:=DataW.trod_string GV g0
 obtain⟨s1,e1,_⟩:=DataW.trod_string GV g1;obtain⟨s2,e2,_⟩:=DataW.trod_string GV g2;obtain⟨s3,e3,_⟩:=DataW.trod_bool LV g3;obtain⟨s4,e4,_⟩:=DataW.trod_bool LV g4;simp only[List.drop_zero,List.take_succ_cons,List.take_zero,List.drop_succ_cons,g6.injEq,and_true]at e0 e1 e2 e3 e4;subst e0 e1 e2 e3 e4;exact⟨(s0,s1,s2,s3,s4),rfl⟩
set_option maxRecDepth 100000 in
theorem OF{b0:Nat}{v:Value}{d:DataW H}{p:List MemPlace}(hval:Value.okWide Tryz.prog w .any b0 js v)(h:DataW.Trod enc Tryz.prog w 0 sp held js v d p):
  ∃(s:SliceV) (l:List Ch),v=.slice s.a s.len s.cap∧Sl jv 5 No w.heap s l∧l.length≤9223372036854775807:=by
 obtain⟨a,ln,c,rfl⟩:=okWide_slice SO hval;obtain⟨fuel,hf⟩:=h;obtain⟨s,xs,h1,h2,hm,h3,_⟩:=Ie SO hf jv Us py (fun _=>True)fun fuel cells y hl hy=>by
  obtain⟨p,e⟩:=Sb hl hy;exact⟨p,e,trivial⟩
 simp only[Value.cells,g6.injEq,and_true]at h1;have:=h3.len;simp only[maxLen]at hm;exact⟨s,xs,h1,h3,by omega⟩
end
end Go.Proofs.YtncppacbfagpgaaGreat
