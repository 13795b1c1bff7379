/- A part of the proof that the named laws of this program answer true, whatever the input. -/
import Derived.Test.YtopdngagmfanlaaGreatDoorTryDA
import Derived.Test.YtopdngagmfanlaaGreatDoorPart5
import Derived.Test.YtopdngagmfanlaaGreatDoorPart9
open List renaming getElem?_eq_getElem→ag,drop_zero→cM,take_succ_cons→dG,take_zero→iu,drop_succ_cons→dZ,cons→sx
namespace Go.Proofs.YtopdngagmfanlaaGreatDoor
open Go Go.Lift Go.Proofs Go.ChangeShapes Go.WideShapes Go.ChangeAt Go.RowKit
theorem WC:Tryz.prog.underlying dY=some (.slice au):=by kernel_rfl
theorem XD:∃f0 f1:Field,Tryz.prog.underlying au=some (.struct #[f0,f1])∧(f0.type=cN∧f0.offset=0)∧f1.type=cN∧f1.offset=1:=
 ⟨_,_,(by kernel_rfl:Tryz.prog.underlying au=some (.struct #[{name:= "Key",pkgPath:= "",type:=cN,tag:= "",embedded:=false,offset:=0,byteOffset:=0},{name:= "Value",pkgPath:= "",type:=cN,tag:= "",embedded:=false,offset:=1,byteOffset:=16}])),⟨rfl,rfl⟩,rfl,rfl⟩
theorem BK:Tryz.prog.cellsOf cN=1:=by kernel_rfl
theorem Yd:Tryz.prog.cellsOf au=2:=by kernel_rfl
section
variable {H:Type} {enc:TypeId×Value→H} {w:World} {sp:Nat→Bool} {held:Bool}
set_option maxRecDepth 100000 in
theorem Up{c:Nat}{a:List Value}{y:DataW H×List MemPlace}(x:a.length=2)(t:DataW.trod enc Tryz.prog w 0 sp held c au a=some y):∃p:Pr,a=kK p:=by
 obtain⟨o,m,k,⟨q,j⟩,v,u⟩:=XD;obtain⟨xs,n,rfl,_,_,b,g⟩:=DataW.trod_struct k t;have b:xs.length=2:=b;match a,x with
 | [v0,v1],_=>
 have f:=g 0 o rfl;have d:=g 1 m rfl;rw[q,j,BK,ag (by omega)]at f;rw[v,u,BK,ag (by omega)]at d;obtain⟨i,e,_⟩:=DataW.trod_string A8 f;obtain⟨s,e1,_⟩:=DataW.trod_string A8 d;simp only[cM,dG,iu,dZ,sx.injEq,and_true]at e e1;subst e e1;exact⟨(i,s),rfl⟩
end
theorem WE:Tryz.prog.underlying ny=some (.slice bX):=by kernel_rfl
theorem XE:∃f0 f1 f2 f3 f4:Field,Tryz.prog.underlying bX=some (.struct #[f0,f1,f2,f3,f4])∧(f0.type=cN∧f0.offset=0)∧(f1.type=cN∧f1.offset=1)∧(f2.type=cN∧f2.offset=2)∧(f3.type=lF∧f3.offset=3)∧f4.type=lF∧f4.offset=4:=
 ⟨_,_,_,_,_,(by kernel_rfl:Tryz.prog.underlying bX=some (.struct #[{name:= "Key",pkgPath:= "",type:=cN,tag:= "",embedded:=false,offset:=0,byteOffset:=0},{name:= "Old",pkgPath:= "",type:=cN,tag:= "",embedded:=false,offset:=1,byteOffset:=16},{name:= "New",pkgPath:= "",type:=cN,tag:= "",embedded:=false,offset:=2,byteOffset:=32},{name:= "Was",pkgPath:= "",type:=lF,tag:= "",embedded:=false,offset:=3,byteOffset:=48},{name:= "Is",pkgPath:= "",type:=lF,tag:= "",embedded:=false,offset:=4,byteOffset:=49}])),⟨rfl,rfl⟩,⟨rfl,rfl⟩,⟨rfl,rfl⟩,⟨rfl,rfl⟩,rfl,rfl⟩
theorem Kh:Tryz.prog.cellsOf lF=1:=by kernel_rfl
theorem Ye:Tryz.prog.cellsOf bX=5:=by kernel_rfl
section
variable {H:Type} {enc:TypeId×Value→H} {w:World} {sp:Nat→Bool} {held:Bool}
set_option maxRecDepth 100000 in
theorem Uq{e:Nat}{a:List Value}{y:DataW H×List MemPlace}(G:a.length=5)(F:DataW.trod enc Tryz.prog w 0 sp held e bX a=some y):∃c:Ch,a=zD c:=by
 obtain⟨D,t,s,Q,R,C,⟨K,J⟩,⟨x,v⟩,⟨z,L⟩,⟨u,I⟩,E,O⟩:=XE;obtain⟨xs,n,rfl,_,_,b,d⟩:=DataW.trod_struct C F;have b:xs.length=5:=b;match a,G with
 | [v0,v1,v2,v3,v4],_=>
 have g:=d 0 D rfl;have k:=d 1 t rfl;have o:=d 2 s rfl;have j:=d 3 Q rfl;have p:=d 4 R rfl;rw[K,J,BK,ag (by omega)]at g;rw[x,v,BK,ag (by omega)]at k;rw[z,L,BK,ag (by omega)]at o;rw[u,I,Kh,ag (by omega)]at j;rw[E,O,Kh,ag (by omega)]at p;obtain⟨A,m,_⟩:=DataW.trod_string A8 g
 obtain⟨N,e1,_⟩:=DataW.trod_string A8 k;obtain⟨q,e2,_⟩:=DataW.trod_string A8 o;obtain⟨B,f,_⟩:=DataW.trod_bool Fi j;obtain⟨P,i,_⟩:=DataW.trod_bool Fi p;simp only[cM,dG,iu,dZ,sx.injEq,and_true]at m e1 e2 f i;subst m e1 e2 f i;exact⟨(A,N,q,B,P),rfl⟩
end
theorem M2:Tryz.prog.underlying mE=some (.int .u32):=by kernel_rfl
theorem M3:Tryz.prog.underlying tLq=some (.int .i64):=by kernel_rfl
theorem Oh:Tryz.prog.cellsOf mE=1:=by kernel_rfl
theorem Ti:Tryz.prog.cellsOf tLq=1:=by kernel_rfl
theorem V9:Tryz.prog.cellsOf dY=1:=by kernel_rfl
theorem Wc:Tryz.prog.cellsOf ny=1:=by kernel_rfl
section
variable {H:Type} {enc:TypeId×Value→H} {w:World} {sp:Nat→Bool} {held:Bool}
end
end Go.Proofs.YtopdngagmfanlaaGreatDoor
