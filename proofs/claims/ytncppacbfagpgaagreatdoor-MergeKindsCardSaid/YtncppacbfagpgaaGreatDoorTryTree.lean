/- A part of the proof that the named laws of this program answer true, whatever the input. -/
import Derived.Test.YtncppacbfagpgaaGreatDoorRows
import Derived.Test.YtncppacbfagpgaaGreatDoorPart0
import Derived.Test.YtncppacbfagpgaaGreatDoorPart1
open List renaming getElem?_eq_getElem→ag,drop_zero→db,take_succ_cons→dW,take_zero→qd,drop_succ_cons→gZ,cons→fe
namespace Go.Proofs.YtncppacbfagpgaaGreatDoor
open Go Go.Lift Go.Proofs Go.ChangeShapes Go.WideShapes Go.ChangeAt Go.RowKit
theorem Tryz.own:ownKnob Tryz.prog.godebug=none:=by kernel_rfl
theorem Tryz.laidOut:laidOutB Tryz.prog=true:=by kernel_rfl
theorem Yq:Tryz.prog.underlying cH=some (.int .u8):=by kernel_rfl
theorem Tt:Tryz.prog.underlying pv=some (.int .u64):=by kernel_rfl
theorem WV:Tryz.prog.underlying IQ=some .string:=by kernel_rfl
theorem Xt:Tryz.prog.underlying wt=some .bool:=by kernel_rfl
theorem WW:Tryz.prog.underlying cZ=some (.slice al):=by kernel_rfl
theorem Zg:∃f0 f1:Field,Tryz.prog.underlying al=some (.struct #[f0,f1])∧(f0.type=IQ∧f0.offset=0)∧f1.type=IQ∧f1.offset=1:=
 ⟨_,_,(by kernel_rfl:Tryz.prog.underlying al=some (.struct #[{name:= "Key",pkgPath:= "",type:=IQ,tag:= "",embedded:=false,offset:=0,byteOffset:=0},{name:= "Value",pkgPath:= "",type:=IQ,tag:= "",embedded:=false,offset:=1,byteOffset:=16}])),⟨rfl,rfl⟩,rfl,rfl⟩
theorem Yr:∃f0 f1:Field,Tryz.prog.underlying mg=some (.struct #[f0,f1])∧(f0.type=pv∧f0.offset=0)∧f1.type=pv∧f1.offset=1:=
 ⟨_,_,(by kernel_rfl:Tryz.prog.underlying mg=some (.struct #[{name:= "K0",pkgPath:= "",type:=pv,tag:= "",embedded:=false,offset:=0,byteOffset:=0},{name:= "K1",pkgPath:= "",type:=pv,tag:= "",embedded:=false,offset:=1,byteOffset:=8}])),⟨rfl,rfl⟩,rfl,rfl⟩
theorem Zh:∃f0 f1:Field,Tryz.prog.underlying co=some (.struct #[f0,f1])∧(f0.type=mg∧f0.offset=0)∧f1.type=pv∧f1.offset=2:=
 ⟨_,_,(by kernel_rfl:Tryz.prog.underlying co=some (.struct #[{name:= "Key",pkgPath:= "",type:=mg,tag:= "",embedded:=false,offset:=0,byteOffset:=0},{name:= "Mask",pkgPath:= "",type:=pv,tag:= "",embedded:=false,offset:=2,byteOffset:=16}])),⟨rfl,rfl⟩,rfl,rfl⟩
theorem Zy:Tryz.prog.cellsOf cH=1:=by kernel_rfl
theorem US:Tryz.prog.cellsOf pv=1:=by kernel_rfl
theorem Xh:Tryz.prog.cellsOf IQ=1:=by kernel_rfl
theorem Zz:Tryz.prog.cellsOf al=2:=by kernel_rfl
theorem Y0:Tryz.prog.cellsOf mg=2:=by kernel_rfl
theorem ZA:Tryz.prog.cellsOf co=3:=by kernel_rfl
theorem Ro{k:IntKind}{n:Int}(h:(Lit.int k n).wf=true):k.min≤n∧n≤k.max:=by
 simpa only[Lit.wf,Bool.and_eq_true,decide_eq_true_iff]using h
section
variable {H:Type} {enc:TypeId×Value→H} {w:World} {sp:Nat→Bool} {held:Bool}
set_option maxRecDepth 100000 in
theorem Wa{fuel:Nat}{cells:List Value}{y:DataW H×List MemPlace}(hl:cells.length=2)(hy:DataW.trod enc Tryz.prog w 0 sp held fuel al cells=some y):∃p:Pr,cells=eg p:=by
 obtain⟨f0,f1,hu,⟨t0,o0⟩,t1,o1⟩:=Zg;obtain⟨xs,n,rfl,_,_,hxs,hf⟩:=DataW.trod_struct hu hy;have hxs:xs.length=2:=hxs;match cells,hl with
 | [v0,v1],_=>
 have g0:=hf 0 f0 rfl;have g1:=hf 1 f1 rfl;rw[t0,o0,Xh,ag (by omega)]at g0;rw[t1,o1,Xh,ag (by omega)]at g1;obtain⟨s0,e0,_⟩:=DataW.trod_string WV g0;obtain⟨s1,e1,_⟩:=DataW.trod_string WV g1;simp only[db,dW,qd,gZ,fe.injEq,and_true]at e0 e1;subst e0 e1;exact⟨(s0,s1),rfl⟩
set_option maxRecDepth 100000 in
theorem SR{b0:Nat}{v:Value}{d:DataW H}{p:List MemPlace}(hval:Value.okWide Tryz.prog w .any b0 cZ v)(h:DataW.Trod enc Tryz.prog w 0 sp held cZ v d p):
  ∃(s:SliceV) (l:List Pr),v=.slice s.a s.len s.cap∧Sl eg 2 No w.heap s l∧l.length≤9223372036854775807∧s.len≤s.cap:=by
 obtain⟨a,ln,c,rfl⟩:=okWide_slice WW hval;obtain⟨fuel,hf⟩:=h;obtain⟨s,xs,h1,h2,hm,h3,_⟩:=VF WW hf eg Zz fk (fun _=>True) fun fuel cells y hl hy=>by
  obtain⟨p,e⟩:=Wa hl hy;exact⟨p,e,trivial⟩
 simp only[Value.cells,fe.injEq,and_true]at h1;have:=h3.len;simp only[maxLen]at hm;exact⟨s,xs,h1,h3,by omega,h2⟩
set_option maxRecDepth 100000 in
theorem UY{b0:Nat}{v:Value}{d:DataW H}{p:List MemPlace}(hval:Value.okWide Tryz.prog w .any b0 co v)(h:DataW.Trod enc Tryz.prog w 0 sp held co v d p):
  ∃x:Hs,v=.agg #[.int .u64 x.k0,.int .u64 x.k1,.int .u64 x.mask]:=by
 obtain⟨f0,f1,hu,⟨t0,o0⟩,t1,o1⟩:=Zh;obtain⟨cs,rfl,hcs⟩:=okWide_struct hu hval;rw[ZA]at hcs;obtain⟨fuel,hf⟩:=h;obtain⟨xs,n,rfl,_,_,hxs,hf⟩:=DataW.trod_struct hu hf;have hxs:xs.length=2:=hxs;obtain⟨l,rfl⟩:∃l:List Value,cs=l.toArray:=⟨cs.toList,rfl⟩;match l,hcs with
 | [v0,v1,v2],_=>
 have g0:=hf 0 f0 rfl;have g1:=hf 1 f1 rfl;rw[t0,o0,Y0,ag (by omega)]at g0;rw[t1,o1,US,ag (by omega)]at g1;simp only[Value.cells,db,dW,qd,gZ]at g0 g1;obtain⟨q0,q1,hu2,⟨r0,p0⟩,r1,p1⟩:=Yr;obtain⟨ys,n2,rfl,_,_,hys,hg⟩:=DataW.trod_struct hu2 g0;have hys:ys.length=2:=hys;have k0:=hg 0 q0 rfl;have k1:=hg 1 q1 rfl
 rw[r0,p0,US,ag (by omega)]at k0;rw[r1,p1,US,ag (by omega)]at k1;obtain⟨n0,e0,_⟩:=DataW.trod_int Tt k0;obtain⟨n1,e1,_⟩:=DataW.trod_int Tt k1;obtain⟨n2,e2,_⟩:=DataW.trod_int Tt g1;simp only[db,dW,qd,gZ,fe.injEq,and_true]at e0 e1 e2;subst e0 e1 e2;exact⟨⟨n0,n1,n2⟩,rfl⟩
set_option maxRecDepth 100000 in
theorem Pq{b0:Nat}{v:Value}{d:DataW H}{p:List MemPlace}(hval:Value.okWide Tryz.prog w .any b0 cH v)(h:DataW.Trod enc Tryz.prog w 0 sp held cH v d p):
  ∃n:Int,v=.int .u8 n∧0≤n∧n≤255:=by
 obtain⟨n,e,_,_,hw⟩:=open_int Yq hval h;exact⟨n,e,Ro hw⟩
end
end Go.Proofs.YtncppacbfagpgaaGreatDoor
