/- A part of the proof that the named laws of this program answer true, whatever the input. -/
import Derived.Test.YtncppacbfagpgaaGreatRows
import Derived.Test.YtncppacbfagpgaaGreatPart0
open List renaming getElem?_eq_getElem→ai,drop_zero→cP,take_succ_cons→jf,take_zero→qu,drop_succ_cons→gT,cons→gU
namespace Go.Proofs.YtncppacbfagpgaaGreat
open Go Go.Lift Go.Proofs Go.ChangeShapes Go.WideShapes Go.ChangeAt Go.RowKit
theorem Tryz.own:ownKnob Tryz.prog.godebug=none:=by kernel_rfl
theorem Tryz.laidOut:laidOutB Tryz.prog=true:=by kernel_rfl
theorem VL:Tryz.prog.underlying fq=some (.int .u8):=by kernel_rfl
theorem Qy:Tryz.prog.underlying C7=some (.int .u64):=by kernel_rfl
theorem QA:Tryz.prog.underlying EM=some .string:=by kernel_rfl
theorem Ua:Tryz.prog.underlying xw=some .bool:=by kernel_rfl
theorem TF:Tryz.prog.underlying cB=some (.slice af):=by kernel_rfl
theorem VM:∃f0 f1:Field,Tryz.prog.underlying af=some (.struct #[f0,f1])∧(f0.type=EM∧f0.offset=0)∧f1.type=EM∧f1.offset=1:=
 ⟨_,_,(by kernel_rfl:Tryz.prog.underlying af=some (.struct #[{name:= "Key",pkgPath:= "",type:=EM,tag:= "",embedded:=false,offset:=0,byteOffset:=0},{name:= "Value",pkgPath:= "",type:=EM,tag:= "",embedded:=false,offset:=1,byteOffset:=16}])),⟨rfl,rfl⟩,rfl,rfl⟩
theorem U3:∃f0 f1:Field,Tryz.prog.underlying l8=some (.struct #[f0,f1])∧(f0.type=C7∧f0.offset=0)∧f1.type=C7∧f1.offset=1:=
 ⟨_,_,(by kernel_rfl:Tryz.prog.underlying l8=some (.struct #[{name:= "K0",pkgPath:= "",type:=C7,tag:= "",embedded:=false,offset:=0,byteOffset:=0},{name:= "K1",pkgPath:= "",type:=C7,tag:= "",embedded:=false,offset:=1,byteOffset:=8}])),⟨rfl,rfl⟩,rfl,rfl⟩
theorem VN:∃f0 f1:Field,Tryz.prog.underlying cC=some (.struct #[f0,f1])∧(f0.type=l8∧f0.offset=0)∧f1.type=C7∧f1.offset=2:=
 ⟨_,_,(by kernel_rfl:Tryz.prog.underlying cC=some (.struct #[{name:= "Key",pkgPath:= "",type:=l8,tag:= "",embedded:=false,offset:=0,byteOffset:=0},{name:= "Mask",pkgPath:= "",type:=C7,tag:= "",embedded:=false,offset:=2,byteOffset:=16}])),⟨rfl,rfl⟩,rfl,rfl⟩
theorem RO:Tryz.prog.cellsOf C7=1:=by kernel_rfl
theorem RP:Tryz.prog.cellsOf EM=1:=by kernel_rfl
theorem V8:Tryz.prog.cellsOf af=2:=by kernel_rfl
theorem Vu:Tryz.prog.cellsOf l8=2:=by kernel_rfl
theorem V9:Tryz.prog.cellsOf cC=3:=by kernel_rfl
theorem O4{k:IntKind}{n:Int}(h:(Lit.int k n).wf=true):k.min≤n∧n≤k.max:=by
 simpa only[Lit.wf,Bool.and_eq_true,decide_eq_true_iff]using h
section
variable {H:Type} {enc:TypeId×Value→H} {w:World} {sp:Nat→Bool} {held:Bool}
set_option maxRecDepth 100000 in
theorem S0{fuel:Nat}{cells:List Value}{y:DataW H×List MemPlace}(hl:cells.length=2)(hy:DataW.trod enc Tryz.prog w 0 sp held fuel af cells=some y):∃p:Pr,cells=eu p:=by
 obtain⟨f0,f1,hu,⟨t0,o0⟩,t1,o1⟩:=VM;obtain⟨xs,n,rfl,_,_,hxs,hf⟩:=DataW.trod_struct hu hy;have hxs:xs.length=2:=hxs;match cells,hl with
 | [v0,v1],_=>
 have g0:=hf 0 f0 rfl;have g1:=hf 1 f1 rfl;rw[t0,o0,RP,ai (by omega)]at g0;rw[t1,o1,RP,ai (by omega)]at g1;obtain⟨s0,e0,_⟩:=DataW.trod_string QA g0;obtain⟨s1,e1,_⟩:=DataW.trod_string QA g1;simp only[cP,jf,qu,gT,gU.injEq,and_true]at e0 e1;subst e0 e1;exact⟨(s0,s1),rfl⟩
set_option maxRecDepth 100000 in
theorem CA{b0:Nat}{v:Value}{d:DataW H}{p:List MemPlace}(hval:Value.okWide Tryz.prog w .any b0 cB v)(h:DataW.Trod enc Tryz.prog w 0 sp held cB v d p):
  ∃(s:SliceV) (l:List Pr),v=.slice s.a s.len s.cap∧Sl eu 2 No w.heap s l∧l.length≤9223372036854775807∧s.len≤s.cap:=by
 obtain⟨a,ln,c,rfl⟩:=okWide_slice TF hval;obtain⟨fuel,hf⟩:=h;obtain⟨s,xs,h1,h2,hm,h3,_⟩:=N5 TF hf eu V8 ge (fun _=>True) fun fuel cells y hl hy=>by
  obtain⟨p,e⟩:=S0 hl hy;exact⟨p,e,trivial⟩
 simp only[Value.cells,gU.injEq,and_true]at h1;have:=h3.len;simp only[maxLen]at hm;exact⟨s,xs,h1,h3,by omega,h2⟩
set_option maxRecDepth 100000 in
theorem UK{b0:Nat}{v:Value}{d:DataW H}{p:List MemPlace}(hval:Value.okWide Tryz.prog w .any b0 cC v)(h:DataW.Trod enc Tryz.prog w 0 sp held cC v d p):
  ∃x:Hs,v=.agg #[.int .u64 x.k0,.int .u64 x.k1,.int .u64 x.mask]:=by
 obtain⟨f0,f1,hu,⟨t0,o0⟩,t1,o1⟩:=VN;obtain⟨cs,rfl,hcs⟩:=okWide_struct hu hval;rw[V9]at hcs;obtain⟨fuel,hf⟩:=h;obtain⟨xs,n,rfl,_,_,hxs,hf⟩:=DataW.trod_struct hu hf;have hxs:xs.length=2:=hxs;obtain⟨l,rfl⟩:∃l:List Value,cs=l.toArray:=⟨cs.toList,rfl⟩;match l,hcs with
 | [v0,v1,v2],_=>
 have g0:=hf 0 f0 rfl;have g1:=hf 1 f1 rfl;rw[t0,o0,Vu,ai (by omega)]at g0;rw[t1,o1,RO,ai (by omega)]at g1;simp only[Value.cells,cP,jf,qu,gT]at g0 g1;obtain⟨q0,q1,hu2,⟨r0,p0⟩,r1,p1⟩:=U3;obtain⟨ys,n2,rfl,_,_,hys,hg⟩:=DataW.trod_struct hu2 g0;have hys:ys.length=2:=hys;have k0:=hg 0 q0 rfl;have k1:=hg 1 q1 rfl
 rw[r0,p0,RO,ai (by omega)]at k0;rw[r1,p1,RO,ai (by omega)]at k1;obtain⟨n0,e0,_⟩:=DataW.trod_int Qy k0;obtain⟨n1,e1,_⟩:=DataW.trod_int Qy k1;obtain⟨n2,e2,_⟩:=DataW.trod_int Qy g1;simp only[cP,jf,qu,gT,gU.injEq,and_true]at e0 e1 e2;subst e0 e1 e2;exact⟨⟨n0,n1,n2⟩,rfl⟩
set_option maxRecDepth 100000 in
theorem UJ{b0:Nat}{v:Value}{d:DataW H}{p:List MemPlace}(hval:Value.okWide Tryz.prog w .any b0 fq v)(h:DataW.Trod enc Tryz.prog w 0 sp held fq v d p):
  ∃n:Int,v=.int .u8 n∧0≤n∧n≤255:=by
 obtain⟨n,e,_,_,hw⟩:=open_int VL hval h;exact⟨n,e,O4 hw⟩
end
end Go.Proofs.YtncppacbfagpgaaGreat
