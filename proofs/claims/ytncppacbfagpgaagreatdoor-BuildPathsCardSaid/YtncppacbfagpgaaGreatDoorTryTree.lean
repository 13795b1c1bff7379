/- A part of the proof that the named laws of this program answer true, whatever the input. -/
import Derived.Test.YtncppacbfagpgaaGreatDoorRows
import Derived.Test.YtncppacbfagpgaaGreatDoorPart1
import Derived.Test.YtncppacbfagpgaaGreatDoorPart0
open List renaming getElem?_eq_getElem→ai,drop_zero→cp,take_succ_cons→eH,take_zero→pY,drop_succ_cons→iM,cons→eL
namespace Go.Proofs.YtncppacbfagpgaaGreatDoor
open Go Go.Lift Go.Proofs Go.ChangeShapes Go.WideShapes Go.ChangeAt Go.RowKit
theorem Tryz.own:ownKnob Tryz.prog.godebug=none:=by kernel_rfl
theorem Tryz.laidOut:laidOutB Tryz.prog=true:=by kernel_rfl
theorem N1:Tryz.prog.underlying dQ=some (.int .u8):=by kernel_rfl
theorem K5:Tryz.prog.underlying y4=some (.int .u64):=by kernel_rfl
theorem Na:Tryz.prog.underlying Dh=some .string:=by kernel_rfl
theorem Np:Tryz.prog.underlying qI=some .bool:=by kernel_rfl
theorem Nb:Tryz.prog.underlying bO=some (.slice aj):=by kernel_rfl
theorem Om:∃f0 f1:Field,Tryz.prog.underlying aj=some (.struct #[f0,f1])∧(f0.type=Dh∧f0.offset=0)∧f1.type=Dh∧f1.offset=1:=
 ⟨_,_,(by kernel_rfl:Tryz.prog.underlying aj=some (.struct #[{name:= "Key",pkgPath:= "",type:=Dh,tag:= "",embedded:=false,offset:=0,byteOffset:=0},{name:= "Value",pkgPath:= "",type:=Dh,tag:= "",embedded:=false,offset:=1,byteOffset:=16}])),⟨rfl,rfl⟩,rfl,rfl⟩
theorem N2:∃f0 f1:Field,Tryz.prog.underlying jL=some (.struct #[f0,f1])∧(f0.type=y4∧f0.offset=0)∧f1.type=y4∧f1.offset=1:=
 ⟨_,_,(by kernel_rfl:Tryz.prog.underlying jL=some (.struct #[{name:= "K0",pkgPath:= "",type:=y4,tag:= "",embedded:=false,offset:=0,byteOffset:=0},{name:= "K1",pkgPath:= "",type:=y4,tag:= "",embedded:=false,offset:=1,byteOffset:=8}])),⟨rfl,rfl⟩,rfl,rfl⟩
theorem On:∃f0 f1:Field,Tryz.prog.underlying bX=some (.struct #[f0,f1])∧(f0.type=jL∧f0.offset=0)∧f1.type=y4∧f1.offset=2:=
 ⟨_,_,(by kernel_rfl:Tryz.prog.underlying bX=some (.struct #[{name:= "Key",pkgPath:= "",type:=jL,tag:= "",embedded:=false,offset:=0,byteOffset:=0},{name:= "Mask",pkgPath:= "",type:=y4,tag:= "",embedded:=false,offset:=2,byteOffset:=16}])),⟨rfl,rfl⟩,rfl,rfl⟩
theorem OF:Tryz.prog.cellsOf dQ=1:=by kernel_rfl
theorem LW:Tryz.prog.cellsOf y4=1:=by kernel_rfl
theorem Nn:Tryz.prog.cellsOf Dh=1:=by kernel_rfl
theorem OG:Tryz.prog.cellsOf aj=2:=by kernel_rfl
theorem Of:Tryz.prog.cellsOf jL=2:=by kernel_rfl
theorem OH:Tryz.prog.cellsOf bX=3:=by kernel_rfl
theorem JC{k:IntKind}{n:Int}(h:(Lit.int k n).wf=true):k.min≤n∧n≤k.max:=by
 simpa only[Lit.wf,Bool.and_eq_true,decide_eq_true_iff]using h
section
variable {H:Type} {enc:TypeId×Value→H} {w:World} {sp:Nat→Bool} {held:Bool}
set_option maxRecDepth 100000 in
theorem ME{fuel:Nat}{cells:List Value}{y:DataW H×List MemPlace}(hl:cells.length=2)(hy:DataW.trod enc Tryz.prog w 0 sp held fuel aj cells=some y):∃p:Pr,cells=eG p:=by
 obtain⟨f0,f1,hu,⟨t0,o0⟩,t1,o1⟩:=Om;obtain⟨xs,n,rfl,_,_,hxs,hf⟩:=DataW.trod_struct hu hy;have hxs:xs.length=2:=hxs;match cells,hl with
 | [v0,v1],_=>
 have g0:=hf 0 f0 rfl;have g1:=hf 1 f1 rfl;rw[t0,o0,Nn,ai (by omega)]at g0;rw[t1,o1,Nn,ai (by omega)]at g1;obtain⟨s0,e0,_⟩:=DataW.trod_string Na g0;obtain⟨s1,e1,_⟩:=DataW.trod_string Na g1;simp only[cp,eH,pY,iM,eL.injEq,and_true]at e0 e1;subst e0 e1;exact⟨(s0,s1),rfl⟩
set_option maxRecDepth 100000 in
theorem D4{b0:Nat}{v:Value}{d:DataW H}{p:List MemPlace}(hval:Value.okWide Tryz.prog w .any b0 bO v)(h:DataW.Trod enc Tryz.prog w 0 sp held bO v d p):
  ∃(s:SliceV) (l:List Pr),v=.slice s.a s.len s.cap∧Sl eG 2 No w.heap s l∧l.length≤9223372036854775807∧s.len≤s.cap:=by
 obtain⟨a,ln,c,rfl⟩:=okWide_slice Nb hval;obtain⟨fuel,hf⟩:=h;obtain⟨s,xs,h1,h2,hm,h3,_⟩:=Mr Nb hf eG OG jo (fun _=>True) fun fuel cells y hl hy=>by
  obtain⟨p,e⟩:=ME hl hy;exact⟨p,e,trivial⟩
 simp only[Value.cells,eL.injEq,and_true]at h1;have:=h3.len;simp only[maxLen]at hm;exact⟨s,xs,h1,h3,by omega,h2⟩
set_option maxRecDepth 100000 in
theorem NV{b0:Nat}{v:Value}{d:DataW H}{p:List MemPlace}(hval:Value.okWide Tryz.prog w .any b0 bX v)(h:DataW.Trod enc Tryz.prog w 0 sp held bX v d p):
  ∃x:Hs,v=.agg #[.int .u64 x.k0,.int .u64 x.k1,.int .u64 x.mask]:=by
 obtain⟨f0,f1,hu,⟨t0,o0⟩,t1,o1⟩:=On;obtain⟨cs,rfl,hcs⟩:=okWide_struct hu hval;rw[OH]at hcs;obtain⟨fuel,hf⟩:=h;obtain⟨xs,n,rfl,_,_,hxs,hf⟩:=DataW.trod_struct hu hf;have hxs:xs.length=2:=hxs;obtain⟨l,rfl⟩:∃l:List Value,cs=l.toArray:=⟨cs.toList,rfl⟩;match l,hcs with
 | [v0,v1,v2],_=>
 have g0:=hf 0 f0 rfl;have g1:=hf 1 f1 rfl;rw[t0,o0,Of,ai (by omega)]at g0;rw[t1,o1,LW,ai (by omega)]at g1;simp only[Value.cells,cp,eH,pY,iM]at g0 g1;obtain⟨q0,q1,hu2,⟨r0,p0⟩,r1,p1⟩:=N2;obtain⟨ys,n2,rfl,_,_,hys,hg⟩:=DataW.trod_struct hu2 g0;have hys:ys.length=2:=hys;have k0:=hg 0 q0 rfl;have k1:=hg 1 q1 rfl
 rw[r0,p0,LW,ai (by omega)]at k0;rw[r1,p1,LW,ai (by omega)]at k1;obtain⟨n0,e0,_⟩:=DataW.trod_int K5 k0;obtain⟨n1,e1,_⟩:=DataW.trod_int K5 k1;obtain⟨n2,e2,_⟩:=DataW.trod_int K5 g1;simp only[cp,eH,pY,iM,eL.injEq,and_true]at e0 e1 e2;subst e0 e1 e2;exact⟨⟨n0,n1,n2⟩,rfl⟩
set_option maxRecDepth 100000 in
theorem NU{b0:Nat}{v:Value}{d:DataW H}{p:List MemPlace}(hval:Value.okWide Tryz.prog w .any b0 dQ v)(h:DataW.Trod enc Tryz.prog w 0 sp held dQ v d p):
  ∃n:Int,v=.int .u8 n∧0≤n∧n≤255:=by
 obtain⟨n,e,_,_,hw⟩:=open_int N1 hval h;exact⟨n,e,JC hw⟩
end
end Go.Proofs.YtncppacbfagpgaaGreatDoor
