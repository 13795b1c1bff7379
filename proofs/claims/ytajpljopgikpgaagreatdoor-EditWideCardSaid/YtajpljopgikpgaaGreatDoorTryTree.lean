/- A part of the proof that the named laws of this program answer true, whatever the input. -/
import Derived.Test.YtajpljopgikpgaaGreatDoorRows
import Derived.Test.YtajpljopgikpgaaGreatDoorPart1
import Derived.Test.YtajpljopgikpgaaGreatDoorPart0
open List renaming getElem?_eq_getElem→ag,drop_zero→dd,take_succ_cons→dq,drop_succ_cons→lF
namespace Go.Proofs.YtajpljopgikpgaaGreatDoor
open Go Go.Lift Go.Proofs Go.ChangeShapes Go.WideShapes Go.ChangeAt Go.RowKit
theorem Tryz.own:ownKnob Tryz.prog.godebug=none:=by kernel_rfl
theorem Tryz.laidOut:laidOutB Tryz.prog=true:=by kernel_rfl
theorem RA:Tryz.prog.underlying bX=some (.int .u8):=by kernel_rfl
theorem MQ:Tryz.prog.underlying mF=some (.int .u64):=by kernel_rfl
theorem Ql:Tryz.prog.underlying re=some .bool:=by kernel_rfl
theorem RC:∃f0 f1:Field,Tryz.prog.underlying jJ=some (.struct #[f0,f1])∧(f0.type=mF∧f0.offset=0)∧f1.type=mF∧f1.offset=1:=
 ⟨_,_,(by kernel_rfl:Tryz.prog.underlying jJ=some (.struct #[{name:= "K0",pkgPath:= "",type:=mF,tag:= "",embedded:=false,offset:=0,byteOffset:=0},{name:= "K1",pkgPath:= "",type:=mF,tag:= "",embedded:=false,offset:=1,byteOffset:=8}])),⟨rfl,rfl⟩,rfl,rfl⟩
theorem Sn:∃f0 f1:Field,Tryz.prog.underlying cu=some (.struct #[f0,f1])∧(f0.type=jJ∧f0.offset=0)∧f1.type=mF∧f1.offset=2:=
 ⟨_,_,(by kernel_rfl:Tryz.prog.underlying cu=some (.struct #[{name:= "Key",pkgPath:= "",type:=jJ,tag:= "",embedded:=false,offset:=0,byteOffset:=0},{name:= "Mask",pkgPath:= "",type:=mF,tag:= "",embedded:=false,offset:=2,byteOffset:=16}])),⟨rfl,rfl⟩,rfl,rfl⟩
theorem SO:Tryz.prog.cellsOf bX=1:=by kernel_rfl
theorem Od:Tryz.prog.cellsOf mF=1:=by kernel_rfl
theorem Sa:Tryz.prog.cellsOf jJ=2:=by kernel_rfl
theorem SP:Tryz.prog.cellsOf cu=3:=by kernel_rfl
theorem Dx{k:IntKind}{n:Int}(h:(Lit.int k n).wf=true):k.min≤n∧n≤k.max:=by
 simpa only[Lit.wf,Bool.and_eq_true,decide_eq_true_iff]using h
section
variable {H:Type} {enc:TypeId×Value→H} {w:World} {sp:Nat→Bool} {held:Bool}
set_option maxRecDepth 100000 in
theorem Q9{K:Nat}{v:Value}{d:DataW H}{p:List MemPlace}(e:Value.okWide Tryz.prog w .any K cu v)(h:DataW.Trod enc Tryz.prog w 0 sp held cu v d p):
  ∃x:Hs,v=.agg #[.int .u64 x.k0,.int .u64 x.k1,.int .u64 x.mask]:=by
 obtain⟨J,L,q,⟨B,E⟩,I,o1⟩:=Sn;obtain⟨cs,rfl,b⟩:=okWide_struct q e;rw[SP]at b;obtain⟨fuel,f⟩:=h;obtain⟨xs,n,rfl,_,_,c,f⟩:=DataW.trod_struct q f;have c:xs.length=2:=c;obtain⟨l,rfl⟩:∃l:List Value,cs=l.toArray:=⟨cs.toList,rfl⟩;match l,b with
 | [v0,v1,v2],_=>
 have j:=f 0 J rfl;have i:=f 1 L rfl;rw[B,E,Sa,ag (by omega)]at j;rw[I,o1,Od,ag (by omega)]at i;simp only[Value.cells,dd,dq,List.take_zero,lF]at j i;obtain⟨F,u,g,⟨A,C⟩,D,y⟩:=RC;obtain⟨ys,s,rfl,_,_,a,o⟩:=DataW.trod_struct g j;have a:ys.length=2:=a;have k0:=o 0 F rfl;have k1:=o 1 u rfl
 rw[A,C,Od,ag (by omega)]at k0;rw[D,y,Od,ag (by omega)]at k1;obtain⟨z,t,_⟩:=DataW.trod_int MQ k0;obtain⟨G,k,_⟩:=DataW.trod_int MQ k1;obtain⟨s,m,_⟩:=DataW.trod_int MQ i;simp only[dd,dq,List.take_zero,lF,List.cons.injEq,and_true]at t k m;subst t k m;exact⟨⟨z,G,s⟩,rfl⟩
set_option maxRecDepth 100000 in
theorem Ok{c:Nat}{v:Value}{d:DataW H}{p:List MemPlace}(a:Value.okWide Tryz.prog w .any c bX v)(h:DataW.Trod enc Tryz.prog w 0 sp held bX v d p):
  ∃n:Int,v=.int .u8 n∧0≤n∧n≤255:=by
 obtain⟨n,e,_,_,b⟩:=open_int RA a h;exact⟨n,e,Dx b⟩
end
end Go.Proofs.YtajpljopgikpgaaGreatDoor
