/- A part of the proof that the named laws of this program answer true, whatever the input. -/
import Derived.Test.YtncppacbfagpgaaGreatRows
import Derived.Test.YtncppacbfagpgaaGreatPart0
open List renaming getElem?_eq_getElem→ai,drop_zero→cM,take_succ_cons→i5,take_zero→qB,drop_succ_cons→gN,cons→gO
namespace Go.Proofs.YtncppacbfagpgaaGreat
open Go Go.Lift Go.Proofs Go.ChangeShapes Go.WideShapes Go.ChangeAt Go.RowKit
theorem Tryz.own:ownKnob Tryz.prog.godebug=none:=by kernel_rfl
theorem Tryz.laidOut:laidOutB Tryz.prog=true:=by kernel_rfl
theorem VU:Tryz.prog.underlying fh=some (.int .u8):=by kernel_rfl
theorem QJ:Tryz.prog.underlying C7=some (.int .u64):=by kernel_rfl
theorem QL:Tryz.prog.underlying EM=some .string:=by kernel_rfl
theorem QM:Tryz.prog.underlying td=some .bool:=by kernel_rfl
theorem TS:Tryz.prog.underlying cx=some (.slice af):=by kernel_rfl
theorem VV:∃f0 f1:Field,Tryz.prog.underlying af=some (.struct #[f0,f1])∧(f0.type=EM∧f0.offset=0)∧f1.type=EM∧f1.offset=1:=
 ⟨_,_,(by kernel_rfl:Tryz.prog.underlying af=some (.struct #[{name:= "Key",pkgPath:= "",type:=EM,tag:= "",embedded:=false,offset:=0,byteOffset:=0},{name:= "Value",pkgPath:= "",type:=EM,tag:= "",embedded:=false,offset:=1,byteOffset:=16}])),⟨rfl,rfl⟩,rfl,rfl⟩
theorem Vd:∃f0 f1:Field,Tryz.prog.underlying l4=some (.struct #[f0,f1])∧(f0.type=C7∧f0.offset=0)∧f1.type=C7∧f1.offset=1:=
 ⟨_,_,(by kernel_rfl:Tryz.prog.underlying l4=some (.struct #[{name:= "K0",pkgPath:= "",type:=C7,tag:= "",embedded:=false,offset:=0,byteOffset:=0},{name:= "K1",pkgPath:= "",type:=C7,tag:= "",embedded:=false,offset:=1,byteOffset:=8}])),⟨rfl,rfl⟩,rfl,rfl⟩
theorem VW:∃f0 f1:Field,Tryz.prog.underlying cy=some (.struct #[f0,f1])∧(f0.type=l4∧f0.offset=0)∧f1.type=C7∧f1.offset=2:=
 ⟨_,_,(by kernel_rfl:Tryz.prog.underlying cy=some (.struct #[{name:= "Key",pkgPath:= "",type:=l4,tag:= "",embedded:=false,offset:=0,byteOffset:=0},{name:= "Mask",pkgPath:= "",type:=C7,tag:= "",embedded:=false,offset:=2,byteOffset:=16}])),⟨rfl,rfl⟩,rfl,rfl⟩
theorem RW:Tryz.prog.cellsOf C7=1:=by kernel_rfl
theorem RX:Tryz.prog.cellsOf EM=1:=by kernel_rfl
theorem Wi:Tryz.prog.cellsOf af=2:=by kernel_rfl
theorem VE:Tryz.prog.cellsOf l4=2:=by kernel_rfl
theorem Wj:Tryz.prog.cellsOf cy=3:=by kernel_rfl
theorem Pf{k:IntKind}{n:Int}(h:(Lit.int k n).wf=true):k.min≤n∧n≤k.max:=by
 simpa only[Lit.wf,Bool.and_eq_true,decide_eq_true_iff]using h
section
variable {H:Type} {enc:TypeId×Value→H} {w:World} {sp:Nat→Bool} {held:Bool}
set_option maxRecDepth 100000 in
theorem Tf{fuel:Nat}{cells:List Value}{y:DataW H×List MemPlace}(hl:cells.length=2)(hy:DataW.trod enc Tryz.prog w 0 sp held fuel af cells=some y):∃p:Pr,cells=eh p:=by
 obtain⟨f0,f1,hu,⟨t0,o0⟩,t1,o1⟩:=VV;obtain⟨xs,n,rfl,_,_,hxs,hf⟩:=DataW.trod_struct hu hy;have hxs:xs.length=2:=hxs;match cells,hl with
 | [v0,v1],_=>
 have g0:=hf 0 f0 rfl;have g1:=hf 1 f1 rfl;rw[t0,o0,RX,ai (by omega)]at g0;rw[t1,o1,RX,ai (by omega)]at g1;obtain⟨s0,e0,_⟩:=DataW.trod_string QL g0;obtain⟨s1,e1,_⟩:=DataW.trod_string QL g1;simp only[cM,i5,qB,gN,gO.injEq,and_true]at e0 e1;subst e0 e1;exact⟨(s0,s1),rfl⟩
set_option maxRecDepth 100000 in
theorem Cy{b0:Nat}{v:Value}{d:DataW H}{p:List MemPlace}(hval:Value.okWide Tryz.prog w .any b0 cx v)(h:DataW.Trod enc Tryz.prog w 0 sp held cx v d p):
  ∃(s:SliceV) (l:List Pr),v=.slice s.a s.len s.cap∧Sl eh 2 No w.heap s l∧l.length≤9223372036854775807∧s.len≤s.cap:=by
 obtain⟨a,ln,c,rfl⟩:=okWide_slice TS hval;obtain⟨fuel,hf⟩:=h;obtain⟨s,xs,h1,h2,hm,h3,_⟩:=Of TS hf eh Wi f9 (fun _=>True) fun fuel cells y hl hy=>by
  obtain⟨p,e⟩:=Tf hl hy;exact⟨p,e,trivial⟩
 simp only[Value.cells,gO.injEq,and_true]at h1;have:=h3.len;simp only[maxLen]at hm;exact⟨s,xs,h1,h3,by omega,h2⟩
set_option maxRecDepth 100000 in
theorem UV{b0:Nat}{v:Value}{d:DataW H}{p:List MemPlace}(hval:Value.okWide Tryz.prog w .any b0 cy v)(h:DataW.Trod enc Tryz.prog w 0 sp held cy v d p):
  ∃x:Hs,v=.agg #[.int .u64 x.k0,.int .u64 x.k1,.int .u64 x.mask]:=by
 obtain⟨f0,f1,hu,⟨t0,o0⟩,t1,o1⟩:=VW;obtain⟨cs,rfl,hcs⟩:=okWide_struct hu hval;rw[Wj]at hcs;obtain⟨fuel,hf⟩:=h;obtain⟨xs,n,rfl,_,_,hxs,hf⟩:=DataW.trod_struct hu hf;have hxs:xs.length=2:=hxs;obtain⟨l,rfl⟩:∃l:List Value,cs=l.toArray:=⟨cs.toList,rfl⟩;match l,hcs with
 | [v0,v1,v2],_=>
 have g0:=hf 0 f0 rfl;have g1:=hf 1 f1 rfl;rw[t0,o0,VE,ai (by omega)]at g0;rw[t1,o1,RW,ai (by omega)]at g1;simp only[Value.cells,cM,i5,qB,gN]at g0 g1;obtain⟨q0,q1,hu2,⟨r0,p0⟩,r1,p1⟩:=Vd;obtain⟨ys,n2,rfl,_,_,hys,hg⟩:=DataW.trod_struct hu2 g0;have hys:ys.length=2:=hys;have k0:=hg 0 q0 rfl;have k1:=hg 1 q1 rfl
 rw[r0,p0,RW,ai (by omega)]at k0;rw[r1,p1,RW,ai (by omega)]at k1;obtain⟨n0,e0,_⟩:=DataW.trod_int QJ k0;obtain⟨n1,e1,_⟩:=DataW.trod_int QJ k1;obtain⟨n2,e2,_⟩:=DataW.trod_int QJ g1;simp only[cM,i5,qB,gN,gO.injEq,and_true]at e0 e1 e2;subst e0 e1 e2;exact⟨⟨n0,n1,n2⟩,rfl⟩
set_option maxRecDepth 100000 in
theorem UU{b0:Nat}{v:Value}{d:DataW H}{p:List MemPlace}(hval:Value.okWide Tryz.prog w .any b0 fh v)(h:DataW.Trod enc Tryz.prog w 0 sp held fh v d p):
  ∃n:Int,v=.int .u8 n∧0≤n∧n≤255:=by
 obtain⟨n,e,_,_,hw⟩:=open_int VU hval h;exact⟨n,e,Pf hw⟩
set_option maxRecDepth 100000 in
theorem Sb{b0:Nat}{v:Value}{d:DataW H}{p:List MemPlace}(hval:Value.okWide Tryz.prog w .any b0 td v)(_:DataW.Trod enc Tryz.prog w 0 sp held td v d p):∃b:Bool,v=.bool b:=okWide_bool QM hval
end
end Go.Proofs.YtncppacbfagpgaaGreat
