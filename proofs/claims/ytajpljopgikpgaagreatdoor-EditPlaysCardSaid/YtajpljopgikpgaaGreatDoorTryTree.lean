/- A part of the proof that the named laws of this program answer true, whatever the input. -/
import Derived.Test.YtajpljopgikpgaaGreatDoorRows
import Derived.Test.YtajpljopgikpgaaGreatDoorPart1
import Derived.Test.YtajpljopgikpgaaGreatDoorPart0
open List renaming getElem?_eq_getElem→ag,drop_zero→de,take_succ_cons→dH,take_zero→nH,drop_succ_cons→g6,cons→fH
namespace Go.Proofs.YtajpljopgikpgaaGreatDoor
open Go Go.Lift Go.Proofs Go.ChangeShapes Go.WideShapes Go.ChangeAt Go.RowKit
theorem Tryz.own:ownKnob Tryz.prog.godebug=none:=by kernel_rfl
theorem Tryz.laidOut:laidOutB Tryz.prog=true:=by kernel_rfl
theorem U3:Tryz.prog.underlying cK=some (.int .u8):=by kernel_rfl
theorem U4:Tryz.prog.underlying p6=some (.int .u64):=by kernel_rfl
theorem YO:Tryz.prog.underlying GT=some .string:=by kernel_rfl
theorem Zi:Tryz.prog.underlying j7=some .bool:=by kernel_rfl
theorem abq:∃f0 f1:Field,Tryz.prog.underlying ay=some (.struct #[f0,f1])∧(f0.type=GT∧f0.offset=0)∧f1.type=GT∧f1.offset=1:=
 ⟨_,_,(by kernel_rfl:Tryz.prog.underlying ay=some (.struct #[{name:= "Key",pkgPath:= "",type:=GT,tag:= "",embedded:=false,offset:=0,byteOffset:=0},{name:= "Value",pkgPath:= "",type:=GT,tag:= "",embedded:=false,offset:=1,byteOffset:=16}])),⟨rfl,rfl⟩,rfl,rfl⟩
theorem aaC:∃f0 f1:Field,Tryz.prog.underlying my=some (.struct #[f0,f1])∧(f0.type=p6∧f0.offset=0)∧f1.type=p6∧f1.offset=1:=
 ⟨_,_,(by kernel_rfl:Tryz.prog.underlying my=some (.struct #[{name:= "K0",pkgPath:= "",type:=p6,tag:= "",embedded:=false,offset:=0,byteOffset:=0},{name:= "K1",pkgPath:= "",type:=p6,tag:= "",embedded:=false,offset:=1,byteOffset:=8}])),⟨rfl,rfl⟩,rfl,rfl⟩
theorem abr:∃f0 f1:Field,Tryz.prog.underlying cT=some (.struct #[f0,f1])∧(f0.type=my∧f0.offset=0)∧f1.type=p6∧f1.offset=2:=
 ⟨_,_,(by kernel_rfl:Tryz.prog.underlying cT=some (.struct #[{name:= "Key",pkgPath:= "",type:=my,tag:= "",embedded:=false,offset:=0,byteOffset:=0},{name:= "Mask",pkgPath:= "",type:=p6,tag:= "",embedded:=false,offset:=2,byteOffset:=16}])),⟨rfl,rfl⟩,rfl,rfl⟩
theorem YC:Tryz.prog.cellsOf cK=1:=by kernel_rfl
theorem WN:Tryz.prog.cellsOf p6=1:=by kernel_rfl
theorem Y4:Tryz.prog.cellsOf GT=1:=by kernel_rfl
theorem abP:Tryz.prog.cellsOf ay=2:=by kernel_rfl
theorem aba:Tryz.prog.cellsOf my=2:=by kernel_rfl
theorem abQ:Tryz.prog.cellsOf cT=3:=by kernel_rfl
theorem wE{k:IntKind}{n:Int}(h:(Lit.int k n).wf=true):k.min≤n∧n≤k.max:=by
 simpa only[Lit.wf,Bool.and_eq_true,decide_eq_true_iff]using h
section
variable {H:Type} {enc:TypeId×Value→H} {w:World} {sp:Nat→Bool} {held:Bool}
set_option maxRecDepth 100000 in
theorem X9{fuel:Nat}{a:List Value}{y:DataW H×List MemPlace}(s:a.length=2)(u:DataW.trod enc Tryz.prog w 0 sp held fuel ay a=some y):∃p:Pr,a=fe p:=by
 obtain⟨q,o,j,⟨m,k⟩,i,o1⟩:=abq;obtain⟨xs,n,rfl,_,_,b,f⟩:=DataW.trod_struct j u;have b:xs.length=2:=b;match a,s with
 | [v0,v1],_=>
 have g0:=f 0 q rfl;have c:=f 1 o rfl;rw[m,k,Y4,ag (by omega)]at g0;rw[i,o1,Y4,ag (by omega)]at c;obtain⟨s0,g,_⟩:=DataW.trod_string YO g0;obtain⟨s1,d,_⟩:=DataW.trod_string YO c;simp only[de,dH,nH,g6,fH.injEq,and_true]at g d;subst g d;exact⟨(s0,s1),rfl⟩
set_option maxRecDepth 100000 in
theorem aac{C:Nat}{v:Value}{d:DataW H}{p:List MemPlace}(b:Value.okWide Tryz.prog w .any C cT v)(h:DataW.Trod enc Tryz.prog w 0 sp held cT v d p):
  ∃x:Hs,v=.agg #[.int .u64 x.k0,.int .u64 x.k1,.int .u64 x.mask]:=by
 obtain⟨F,z,k,⟨y,J⟩,I,o1⟩:=abr;obtain⟨cs,rfl,c⟩:=okWide_struct k b;rw[abQ]at c;obtain⟨fuel,g⟩:=h;obtain⟨xs,n,rfl,_,_,a,g⟩:=DataW.trod_struct k g;have a:xs.length=2:=a;obtain⟨l,rfl⟩:∃l:List Value,cs=l.toArray:=⟨cs.toList,rfl⟩;match l,c with
 | [v0,v1,v2],_=>
 have g0:=g 0 F rfl;have i:=g 1 z rfl;rw[y,J,aba,ag (by omega)]at g0;rw[I,o1,WN,ag (by omega)]at i;simp only[Value.cells,de,dH,nH,g6]at g0 i;obtain⟨D,A,j,⟨E,B⟩,K,p1⟩:=aaC;obtain⟨ys,o,rfl,_,_,f,s⟩:=DataW.trod_struct j g0;have f:ys.length=2:=f;have k0:=s 0 D rfl;have k1:=s 1 A rfl
 rw[E,B,WN,ag (by omega)]at k0;rw[K,p1,WN,ag (by omega)]at k1;obtain⟨n0,q,_⟩:=DataW.trod_int U4 k0;obtain⟨G,u,_⟩:=DataW.trod_int U4 k1;obtain⟨o,m,_⟩:=DataW.trod_int U4 i;simp only[de,dH,nH,g6,fH.injEq,and_true]at q u m;subst q u m;exact⟨⟨n0,G,o⟩,rfl⟩
set_option maxRecDepth 100000 in
theorem WW{c:Nat}{v:Value}{d:DataW H}{p:List MemPlace}(a:Value.okWide Tryz.prog w .any c cK v)(h:DataW.Trod enc Tryz.prog w 0 sp held cK v d p):
  ∃n:Int,v=.int .u8 n∧0≤n∧n≤255:=by
 obtain⟨n,e,_,_,b⟩:=open_int U3 a h;exact⟨n,e,wE b⟩
end
end Go.Proofs.YtajpljopgikpgaaGreatDoor
