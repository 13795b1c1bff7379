/- A part of the proof that the named laws of this program answer true, whatever the input. -/
import Derived.Test.YtncppacbfagpgaaGreatRows
import Derived.Test.YtncppacbfagpgaaGreatPart0
namespace Go.Proofs.YtncppacbfagpgaaGreat
open Go Go.Lift Go.Proofs Go.ChangeShapes Go.WideShapes Go.ChangeAt Go.RowKit
open List renaming getElem?_eq_getElem→ai,drop_zero→cn,take_succ_cons→eI,take_zero→mE,drop_succ_cons→fx,cons→g6
theorem Tryz.own:ownKnob Tryz.prog.godebug=none:=by kernel_rfl
theorem Tryz.laidOut:laidOutB Tryz.prog=true:=by kernel_rfl
theorem T5:Tryz.prog.underlying L2=some (.int .u8):=by kernel_rfl
theorem P8:Tryz.prog.underlying CJ=some (.int .u64):=by kernel_rfl
theorem GV:Tryz.prog.underlying sY=some .string:=by kernel_rfl
theorem LV:Tryz.prog.underlying p4=some .bool:=by kernel_rfl
theorem SN:Tryz.prog.underlying cj=some (.slice aq):=by kernel_rfl
theorem T7:∃f0 f1:Field,Tryz.prog.underlying aq=some (.struct #[f0,f1])∧(f0.type=sY∧f0.offset=0)∧f1.type=sY∧f1.offset=1:=
 ⟨_,_,(by kernel_rfl:Tryz.prog.underlying aq=some (.struct #[{name:= "Key",pkgPath:= "",type:=sY,tag:= "",embedded:=false,offset:=0,byteOffset:=0},{name:= "Value",pkgPath:= "",type:=sY,tag:= "",embedded:=false,offset:=1,byteOffset:=16}])),⟨rfl,rfl⟩,rfl,rfl⟩
theorem TC:∃f0 f1:Field,Tryz.prog.underlying lA=some (.struct #[f0,f1])∧(f0.type=CJ∧f0.offset=0)∧f1.type=CJ∧f1.offset=1:=
 ⟨_,_,(by kernel_rfl:Tryz.prog.underlying lA=some (.struct #[{name:= "K0",pkgPath:= "",type:=CJ,tag:= "",embedded:=false,offset:=0,byteOffset:=0},{name:= "K1",pkgPath:= "",type:=CJ,tag:= "",embedded:=false,offset:=1,byteOffset:=8}])),⟨rfl,rfl⟩,rfl,rfl⟩
theorem T8:∃f0 f1:Field,Tryz.prog.underlying ct=some (.struct #[f0,f1])∧(f0.type=lA∧f0.offset=0)∧f1.type=CJ∧f1.offset=2:=
 ⟨_,_,(by kernel_rfl:Tryz.prog.underlying ct=some (.struct #[{name:= "Key",pkgPath:= "",type:=lA,tag:= "",embedded:=false,offset:=0,byteOffset:=0},{name:= "Mask",pkgPath:= "",type:=CJ,tag:= "",embedded:=false,offset:=2,byteOffset:=16}])),⟨rfl,rfl⟩,rfl,rfl⟩
theorem Rb:Tryz.prog.cellsOf CJ=1:=by kernel_rfl
theorem HX:Tryz.prog.cellsOf sY=1:=by kernel_rfl
theorem Uq:Tryz.prog.cellsOf aq=2:=by kernel_rfl
theorem TW:Tryz.prog.cellsOf lA=2:=by kernel_rfl
theorem Ur:Tryz.prog.cellsOf ct=3:=by kernel_rfl
theorem OL{k:IntKind}{n:Int}(h:(Lit.int k n).wf=true):k.min≤n∧n≤k.max:=by
 simpa only[Lit.wf,Bool.and_eq_true,decide_eq_true_iff]using h
section
variable {H:Type} {enc:TypeId×Value→H} {w:World} {sp:Nat→Bool} {held:Bool}
set_option maxRecDepth 100000 in
theorem Sa{fuel:Nat}{cells:List Value}{y:DataW H×List MemPlace}(hl:cells.length=2)(hy:DataW.trod enc Tryz.prog w 0 sp held fuel aq cells=some y):∃p:Pr,cells=ee p:=by
 obtain⟨f0,f1,hu,⟨t0,o0⟩,t1,o1⟩:=T7;obtain⟨xs,n,rfl,_,_,hxs,hf⟩:=DataW.trod_struct hu hy;have hxs:xs.length=2:=hxs;match cells,hl with
 | [v0,v1],_=>
 have g0:=hf 0 f0 rfl;have g1:=hf 1 f1 rfl;rw[t0,o0,HX,ai (by omega)]at g0;rw[t1,o1,HX,ai (by omega)]at g1;obtain⟨s0,e0,_⟩:=DataW.trod_string GV g0;obtain⟨s1,e1,_⟩:=DataW.trod_string GV g1;simp only[cn,eI,mE,fx,g6.injEq,and_true]at e0 e1;subst e0 e1;exact⟨(s0,s1),rfl⟩
set_option maxRecDepth 100000 in
theorem Ca{b0:Nat}{v:Value}{d:DataW H}{p:List MemPlace}(hval:Value.okWide Tryz.prog w .any b0 cj v)(h:DataW.Trod enc Tryz.prog w 0 sp held cj v d p):
  ∃(s:SliceV) (l:List Pr),v=.slice s.a s.len s.cap∧Sl ee 2 No w.heap s l∧l.length≤9223372036854775807∧s.len≤s.cap:=by
 obtain⟨a,ln,c,rfl⟩:=okWide_slice SN hval;obtain⟨fuel,hf⟩:=h;obtain⟨s,xs,h1,h2,hm,h3,_⟩:=Ie SN hf ee Uq fS (fun _=>True)fun fuel cells y hl hy=>by
  obtain⟨p,e⟩:=Sa hl hy;exact⟨p,e,trivial⟩
 simp only[Value.cells,g6.injEq,and_true]at h1;have:=h3.len;simp only[maxLen]at hm;exact⟨s,xs,h1,h3,by omega,h2⟩
set_option maxRecDepth 100000 in
theorem Tx{b0:Nat}{v:Value}{d:DataW H}{p:List MemPlace}(hval:Value.okWide Tryz.prog w .any b0 ct v)(h:DataW.Trod enc Tryz.prog w 0 sp held ct v d p):
  ∃x:Hs,v=.agg #[.int .u64 x.k0,.int .u64 x.k1,.int .u64 x.mask]:=by
 obtain⟨f0,f1,hu,⟨t0,o0⟩,t1,o1⟩:=T8;obtain⟨cs,rfl,hcs⟩:=okWide_struct hu hval;rw[Ur]at hcs;obtain⟨fuel,hf⟩:=h;obtain⟨xs,n,rfl,_,_,hxs,hf⟩:=DataW.trod_struct hu hf;have hxs:xs.length=2:=hxs;obtain⟨l,rfl⟩:∃l:List Value,cs=l.toArray:=⟨cs.toList,rfl⟩;match l,hcs with
 | [v0,v1,v2],_=>
 have g0:=hf 0 f0 rfl;have g1:=hf 1 f1 rfl;rw[t0,o0,TW,ai (by omega)]at g0;rw[t1,o1,Rb,ai (by omega)]at g1;simp only[Value.cells,cn,eI,mE,fx]at g0 g1;obtain⟨q0,q1,hu2,⟨r0,p0⟩,r1,p1⟩:=TC;obtain⟨ys,n2,rfl,_,_,hys,hg⟩:=DataW.trod_struct hu2 g0;have hys:ys.length=2:=hys;have k0:=hg 0 q0 rfl;have k1:=hg 1 q1 rfl
 rw[r0,p0,Rb,ai (by omega)]at k0;rw[r1,p1,Rb,ai (by omega)]at k1;obtain⟨n0,e0,_⟩:=DataW.trod_int P8 k0;obtain⟨n1,e1,_⟩:=DataW.trod_int P8 k1;obtain⟨n2,e2,_⟩:=DataW.trod_int P8 g1;simp only[cn,eI,mE,fx,g6.injEq,and_true]at e0 e1 e2;subst e0 e1 e2;exact⟨⟨n0,n1,n2⟩,rfl⟩
set_option maxRecDepth 100000 in
theorem Tw{b0:Nat}{v:Value}{d:DataW H}{p:List MemPlace}(hval:Value.okWide Tryz.prog w .any b0 L2 v)(h:DataW.Trod enc Tryz.prog w 0 sp held L2 v d p):
  ∃n:Int,v=.int .u8 n∧0≤n∧n≤255:=by
 obtain⟨n,e,_,_,hw⟩:=open_int T5 hval h;exact⟨n,e,OL hw⟩
end
end Go.Proofs.YtncppacbfagpgaaGreat
