/- A part of the proof that the named laws of this program answer true, whatever the input. -/
import Derived.Test.YtncppacbfagpgaaGreatRows
import Derived.Test.YtncppacbfagpgaaGreatPart0
open List renaming getElem?_eq_getElem→ai,drop_zero→cy,take_succ_cons→fC,take_zero→qk,drop_succ_cons→gG,cons→eJ
namespace Go.Proofs.YtncppacbfagpgaaGreat
open Go Go.Lift Go.Proofs Go.ChangeShapes Go.WideShapes Go.ChangeAt Go.RowKit
theorem Tryz.own:ownKnob Tryz.prog.godebug=none:=by kernel_rfl
theorem Tryz.laidOut:laidOutB Tryz.prog=true:=by kernel_rfl
theorem V0:Tryz.prog.underlying eZ=some (.int .u8):=by kernel_rfl
theorem RS:Tryz.prog.underlying DN=some (.int .u64):=by kernel_rfl
theorem Pz:Tryz.prog.underlying yX=some .string:=by kernel_rfl
theorem U4:Tryz.prog.underlying xn=some .bool:=by kernel_rfl
theorem UM:Tryz.prog.underlying cj=some (.slice al):=by kernel_rfl
theorem V3:∃f0 f1:Field,Tryz.prog.underlying al=some (.struct #[f0,f1])∧(f0.type=yX∧f0.offset=0)∧f1.type=yX∧f1.offset=1:=
 ⟨_,_,(by kernel_rfl:Tryz.prog.underlying al=some (.struct #[{name:= "Key",pkgPath:= "",type:=yX,tag:= "",embedded:=false,offset:=0,byteOffset:=0},{name:= "Value",pkgPath:= "",type:=yX,tag:= "",embedded:=false,offset:=1,byteOffset:=16}])),⟨rfl,rfl⟩,rfl,rfl⟩
theorem VA:∃f0 f1:Field,Tryz.prog.underlying l5=some (.struct #[f0,f1])∧(f0.type=DN∧f0.offset=0)∧f1.type=DN∧f1.offset=1:=
 ⟨_,_,(by kernel_rfl:Tryz.prog.underlying l5=some (.struct #[{name:= "K0",pkgPath:= "",type:=DN,tag:= "",embedded:=false,offset:=0,byteOffset:=0},{name:= "K1",pkgPath:= "",type:=DN,tag:= "",embedded:=false,offset:=1,byteOffset:=8}])),⟨rfl,rfl⟩,rfl,rfl⟩
theorem V4:∃f0 f1:Field,Tryz.prog.underlying cn=some (.struct #[f0,f1])∧(f0.type=l5∧f0.offset=0)∧f1.type=DN∧f1.offset=2:=
 ⟨_,_,(by kernel_rfl:Tryz.prog.underlying cn=some (.struct #[{name:= "Key",pkgPath:= "",type:=l5,tag:= "",embedded:=false,offset:=0,byteOffset:=0},{name:= "Mask",pkgPath:= "",type:=DN,tag:= "",embedded:=false,offset:=2,byteOffset:=16}])),⟨rfl,rfl⟩,rfl,rfl⟩
theorem Tg:Tryz.prog.cellsOf DN=1:=by kernel_rfl
theorem Th:Tryz.prog.cellsOf yX=1:=by kernel_rfl
theorem Wm:Tryz.prog.cellsOf al=2:=by kernel_rfl
theorem VS:Tryz.prog.cellsOf l5=2:=by kernel_rfl
theorem Wn:Tryz.prog.cellsOf cn=3:=by kernel_rfl
theorem Qn{k:IntKind}{n:Int}(h:(Lit.int k n).wf=true):k.min≤n∧n≤k.max:=by
 simpa only[Lit.wf,Bool.and_eq_true,decide_eq_true_iff]using h
section
variable {H:Type} {enc:TypeId×Value→H} {w:World} {sp:Nat→Bool} {held:Bool}
set_option maxRecDepth 100000 in
theorem Ub{fuel:Nat}{cells:List Value}{y:DataW H×List MemPlace}(hl:cells.length=2)(hy:DataW.trod enc Tryz.prog w 0 sp held fuel al cells=some y):∃p:Pr,cells=eh p:=by
 obtain⟨f0,f1,hu,⟨t0,o0⟩,t1,o1⟩:=V3;obtain⟨xs,n,rfl,_,_,hxs,hf⟩:=DataW.trod_struct hu hy;have hxs:xs.length=2:=hxs;match cells,hl with
 | [v0,v1],_=>
 have g0:=hf 0 f0 rfl;have g1:=hf 1 f1 rfl;rw[t0,o0,Th,ai (by omega)]at g0;rw[t1,o1,Th,ai (by omega)]at g1;obtain⟨s0,e0,_⟩:=DataW.trod_string Pz g0;obtain⟨s1,e1,_⟩:=DataW.trod_string Pz g1;simp only[cy,fC,qk,gG,eJ.injEq,and_true]at e0 e1;subst e0 e1;exact⟨(s0,s1),rfl⟩
set_option maxRecDepth 100000 in
theorem Jm{b0:Nat}{v:Value}{d:DataW H}{p:List MemPlace}(hval:Value.okWide Tryz.prog w .any b0 cj v)(h:DataW.Trod enc Tryz.prog w 0 sp held cj v d p):
  ∃(s:SliceV) (l:List Pr),v=.slice s.a s.len s.cap∧Sl eh 2 No w.heap s l∧l.length≤9223372036854775807∧s.len≤s.cap:=by
 obtain⟨a,ln,c,rfl⟩:=okWide_slice UM hval;obtain⟨fuel,hf⟩:=h;obtain⟨s,xs,h1,h2,hm,h3,_⟩:=PB UM hf eh Wm gg (fun _=>True) fun fuel cells y hl hy=>by
  obtain⟨p,e⟩:=Ub hl hy;exact⟨p,e,trivial⟩
 simp only[Value.cells,eJ.injEq,and_true]at h1;have:=h3.len;simp only[maxLen]at hm;exact⟨s,xs,h1,h3,by omega,h2⟩
set_option maxRecDepth 100000 in
theorem Vu{b0:Nat}{v:Value}{d:DataW H}{p:List MemPlace}(hval:Value.okWide Tryz.prog w .any b0 cn v)(h:DataW.Trod enc Tryz.prog w 0 sp held cn v d p):
  ∃x:Hs,v=.agg #[.int .u64 x.k0,.int .u64 x.k1,.int .u64 x.mask]:=by
 obtain⟨f0,f1,hu,⟨t0,o0⟩,t1,o1⟩:=V4;obtain⟨cs,rfl,hcs⟩:=okWide_struct hu hval;rw[Wn]at hcs;obtain⟨fuel,hf⟩:=h;obtain⟨xs,n,rfl,_,_,hxs,hf⟩:=DataW.trod_struct hu hf;have hxs:xs.length=2:=hxs;obtain⟨l,rfl⟩:∃l:List Value,cs=l.toArray:=⟨cs.toList,rfl⟩;match l,hcs with
 | [v0,v1,v2],_=>
 have g0:=hf 0 f0 rfl;have g1:=hf 1 f1 rfl;rw[t0,o0,VS,ai (by omega)]at g0;rw[t1,o1,Tg,ai (by omega)]at g1;simp only[Value.cells,cy,fC,qk,gG]at g0 g1;obtain⟨q0,q1,hu2,⟨r0,p0⟩,r1,p1⟩:=VA;obtain⟨ys,n2,rfl,_,_,hys,hg⟩:=DataW.trod_struct hu2 g0;have hys:ys.length=2:=hys;have k0:=hg 0 q0 rfl;have k1:=hg 1 q1 rfl
 rw[r0,p0,Tg,ai (by omega)]at k0;rw[r1,p1,Tg,ai (by omega)]at k1;obtain⟨n0,e0,_⟩:=DataW.trod_int RS k0;obtain⟨n1,e1,_⟩:=DataW.trod_int RS k1;obtain⟨n2,e2,_⟩:=DataW.trod_int RS g1;simp only[cy,fC,qk,gG,eJ.injEq,and_true]at e0 e1 e2;subst e0 e1 e2;exact⟨⟨n0,n1,n2⟩,rfl⟩
set_option maxRecDepth 100000 in
theorem Tn{b0:Nat}{v:Value}{d:DataW H}{p:List MemPlace}(hval:Value.okWide Tryz.prog w .any b0 eZ v)(h:DataW.Trod enc Tryz.prog w 0 sp held eZ v d p):
  ∃n:Int,v=.int .u8 n∧0≤n∧n≤255:=by
 obtain⟨n,e,_,_,hw⟩:=open_int V0 hval h;exact⟨n,e,Qn hw⟩
end
end Go.Proofs.YtncppacbfagpgaaGreat
