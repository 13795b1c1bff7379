/- A part of the proof that the named laws of this program answer true, whatever the input. -/
import Derived.Test.YtajpljopgikpgaaGreatDoorRows
import Derived.Test.YtajpljopgikpgaaGreatDoorPart1
import Derived.Test.YtajpljopgikpgaaGreatDoorPart0
open List renaming getElem?_eq_getElem→ag,drop_zero→cT,take_succ_cons→de,take_zero→ml,drop_succ_cons→gr,cons→fA
namespace Go.Proofs.YtajpljopgikpgaaGreatDoor
open Go Go.Lift Go.Proofs Go.ChangeShapes Go.WideShapes Go.ChangeAt Go.RowKit
theorem Tryz.own:ownKnob Tryz.prog.godebug=none:=by kernel_rfl
theorem Tryz.laidOut:laidOutB Tryz.prog=true:=by kernel_rfl
theorem Qi:Tryz.prog.underlying cz=some (.int .u8):=by kernel_rfl
theorem Qj:Tryz.prog.underlying oE=some (.int .u64):=by kernel_rfl
theorem TV:Tryz.prog.underlying D1=some .string:=by kernel_rfl
theorem Uu:Tryz.prog.underlying jF=some .bool:=by kernel_rfl
theorem Wx:∃f0 f1:Field,Tryz.prog.underlying aB=some (.struct #[f0,f1])∧(f0.type=D1∧f0.offset=0)∧f1.type=D1∧f1.offset=1:=
 ⟨_,_,(by kernel_rfl:Tryz.prog.underlying aB=some (.struct #[{name:= "Key",pkgPath:= "",type:=D1,tag:= "",embedded:=false,offset:=0,byteOffset:=0},{name:= "Value",pkgPath:= "",type:=D1,tag:= "",embedded:=false,offset:=1,byteOffset:=16}])),⟨rfl,rfl⟩,rfl,rfl⟩
theorem VI:∃f0 f1:Field,Tryz.prog.underlying ll=some (.struct #[f0,f1])∧(f0.type=oE∧f0.offset=0)∧f1.type=oE∧f1.offset=1:=
 ⟨_,_,(by kernel_rfl:Tryz.prog.underlying ll=some (.struct #[{name:= "K0",pkgPath:= "",type:=oE,tag:= "",embedded:=false,offset:=0,byteOffset:=0},{name:= "K1",pkgPath:= "",type:=oE,tag:= "",embedded:=false,offset:=1,byteOffset:=8}])),⟨rfl,rfl⟩,rfl,rfl⟩
theorem Wy:∃f0 f1:Field,Tryz.prog.underlying cH=some (.struct #[f0,f1])∧(f0.type=ll∧f0.offset=0)∧f1.type=oE∧f1.offset=2:=
 ⟨_,_,(by kernel_rfl:Tryz.prog.underlying cH=some (.struct #[{name:= "Key",pkgPath:= "",type:=ll,tag:= "",embedded:=false,offset:=0,byteOffset:=0},{name:= "Mask",pkgPath:= "",type:=oE,tag:= "",embedded:=false,offset:=2,byteOffset:=16}])),⟨rfl,rfl⟩,rfl,rfl⟩
theorem TL:Tryz.prog.cellsOf cz=1:=by kernel_rfl
theorem RL:Tryz.prog.cellsOf oE=1:=by kernel_rfl
theorem Uc:Tryz.prog.cellsOf D1=1:=by kernel_rfl
theorem WZ:Tryz.prog.cellsOf aB=2:=by kernel_rfl
theorem V9:Tryz.prog.cellsOf ll=2:=by kernel_rfl
theorem W0:Tryz.prog.cellsOf cH=3:=by kernel_rfl
theorem tW{k:IntKind}{n:Int}(h:(Lit.int k n).wf=true):k.min≤n∧n≤k.max:=by
 simpa only[Lit.wf,Bool.and_eq_true,decide_eq_true_iff]using h
section
variable {H:Type} {enc:TypeId×Value→H} {w:World} {sp:Nat→Bool} {held:Bool}
set_option maxRecDepth 100000 in
theorem Tn{fuel:Nat}{a:List Value}{y:DataW H×List MemPlace}(u:a.length=2)(q:DataW.trod enc Tryz.prog w 0 sp held fuel aB a=some y):∃p:Pr,a=ge p:=by
 obtain⟨j,i,o,⟨k,m⟩,s,o1⟩:=Wx;obtain⟨xs,n,rfl,_,_,b,c⟩:=DataW.trod_struct o q;have b:xs.length=2:=b;match a,u with
 | [v0,v1],_=>
 have g0:=c 0 j rfl;have f:=c 1 i rfl;rw[k,m,Uc,ag (by omega)]at g0;rw[s,o1,Uc,ag (by omega)]at f;obtain⟨s0,g,_⟩:=DataW.trod_string TV g0;obtain⟨s1,d,_⟩:=DataW.trod_string TV f;simp only[cT,de,ml,gr,fA.injEq,and_true]at g d;subst g d;exact⟨(s0,s1),rfl⟩
set_option maxRecDepth 100000 in
theorem Vk{C:Nat}{v:Value}{d:DataW H}{p:List MemPlace}(b:Value.okWide Tryz.prog w .any C cH v)(h:DataW.Trod enc Tryz.prog w 0 sp held cH v d p):
  ∃x:Hs,v=.agg #[.int .u64 x.k0,.int .u64 x.k1,.int .u64 x.mask]:=by
 obtain⟨B,y,o,⟨K,D⟩,I,o1⟩:=Wy;obtain⟨cs,rfl,f⟩:=okWide_struct o b;rw[W0]at f;obtain⟨fuel,g⟩:=h;obtain⟨xs,n,rfl,_,_,c,g⟩:=DataW.trod_struct o g;have c:xs.length=2:=c;obtain⟨l,rfl⟩:∃l:List Value,cs=l.toArray:=⟨cs.toList,rfl⟩;match l,f with
 | [v0,v1,v2],_=>
 have g0:=g 0 B rfl;have j:=g 1 y rfl;rw[K,D,V9,ag (by omega)]at g0;rw[I,o1,RL,ag (by omega)]at j;simp only[Value.cells,cT,de,ml,gr]at g0 j;obtain⟨z,L,i,⟨F,J⟩,A,p1⟩:=VI;obtain⟨ys,s,rfl,_,_,a,k⟩:=DataW.trod_struct i g0;have a:ys.length=2:=a;have k0:=k 0 z rfl;have k1:=k 1 L rfl
 rw[F,J,RL,ag (by omega)]at k0;rw[A,p1,RL,ag (by omega)]at k1;obtain⟨E,q,_⟩:=DataW.trod_int Qj k0;obtain⟨G,u,_⟩:=DataW.trod_int Qj k1;obtain⟨s,m,_⟩:=DataW.trod_int Qj j;simp only[cT,de,ml,gr,fA.injEq,and_true]at q u m;subst q u m;exact⟨⟨E,G,s⟩,rfl⟩
set_option maxRecDepth 100000 in
theorem Vj{c:Nat}{v:Value}{d:DataW H}{p:List MemPlace}(a:Value.okWide Tryz.prog w .any c cz v)(h:DataW.Trod enc Tryz.prog w 0 sp held cz v d p):
  ∃n:Int,v=.int .u8 n∧0≤n∧n≤255:=by
 obtain⟨n,e,_,_,b⟩:=open_int Qi a h;exact⟨n,e,tW b⟩
end
end Go.Proofs.YtajpljopgikpgaaGreatDoor
