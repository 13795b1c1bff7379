/- A part of the proof that the named laws of this program answer true, whatever the input. -/
import Derived.Test.YtajpljopgikpgaaGreatDoorTryInt
import Derived.Test.YtajpljopgikpgaaGreatDoorPart12
open List renaming getElem?_eq_getElem→ag,cons→fA
namespace Go.Proofs.YtajpljopgikpgaaGreatDoor
open Go Go.Lift Go.Proofs Go.ChangeShapes Go.WideShapes Go.ChangeAt Go.RowKit
theorem Qk:Tryz.prog.underlying js=some (.slice mz):=by kernel_rfl
theorem VJ:∃f0 f1 f2 f3 f4:Field,Tryz.prog.underlying mz=some (.struct #[f0,f1,f2,f3,f4])∧(f0.type=cz∧f0.offset=0)∧(f1.type=cz∧f1.offset=1)∧(f2.type=cz∧f2.offset=2)∧(f3.type=aB∧f3.offset=3)∧f4.type=NJ∧f4.offset=5:=
 ⟨_,_,_,_,_,(by kernel_rfl:Tryz.prog.underlying mz=some (.struct #[{name:= "Do",pkgPath:= "",type:=cz,tag:= "",embedded:=false,offset:=0,byteOffset:=0},{name:= "At",pkgPath:= "",type:=cz,tag:= "",embedded:=false,offset:=1,byteOffset:=1},{name:= "From",pkgPath:= "",type:=cz,tag:= "",embedded:=false,offset:=2,byteOffset:=2},{name:= "P",pkgPath:= "",type:=aB,tag:= "",embedded:=false,offset:=3,byteOffset:=8},{name:= "Key",pkgPath:= "",type:=NJ,tag:= "",embedded:=false,offset:=5,byteOffset:=40}])),⟨rfl,rfl⟩,⟨rfl,rfl⟩,⟨rfl,rfl⟩,⟨rfl,rfl⟩,rfl,rfl⟩
theorem Vf:Tryz.prog.cellsOf NJ=1:=by kernel_rfl
theorem Wa:Tryz.prog.cellsOf mz=6:=by kernel_rfl
theorem TQ(a:Sq):(Df a).length=6∧0<6:=⟨rfl,by omega⟩
section
variable {H:Type} {enc:TypeId×Value→H} {w:World} {sp:Nat→Bool} {held:Bool}
set_option maxRecDepth 100000 in
theorem QT{fuel:Nat}{a:List Value}{y:DataW H×List MemPlace}(V:a.length=6)(J:DataW.trod enc Tryz.prog w 0 sp held fuel mz a=some y):∃c:Sq,a=Df c∧Lo c:=by
 obtain⟨C,v,A,D,P,M,⟨T,F⟩,⟨N,o1⟩,⟨E,o2⟩,⟨R,o3⟩,L,S⟩:=VJ;obtain⟨xs,n,rfl,_,_,d,b⟩:=DataW.trod_struct M J;have d:xs.length=5:=d;match a,V with
 | [v0,v1,v2,v3,v4,v5],_=>
 have g0:=b 0 C rfl;have u:=b 1 v rfl;have o:=b 2 A rfl;have k:=b 3 D rfl;have m:=b 4 P rfl;rw[T,F,TL,ag (by omega)]at g0;rw[N,o1,TL,ag (by omega)]at u;rw[E,o2,TL,ag (by omega)]at o;rw[R,o3,WZ,ag (by omega)]at k;rw[L,S,Vf,ag (by omega)]at m;obtain⟨I,q,_,w0⟩:=DataW.trod_int Qi g0
 obtain⟨K,s,_,O⟩:=DataW.trod_int Qi u;obtain⟨Q,j,_,B⟩:=DataW.trod_int Qi o;obtain⟨p,f⟩:=Tn rfl k;obtain⟨G,i,_,z⟩:=DataW.trod_int VH m;simp only[List.drop_zero,List.take_succ_cons,List.take_zero,List.drop_succ_cons,fA.injEq,and_true]at q s j f i;obtain⟨f,g⟩:=f;subst q s j f g i;exact⟨(I,K,Q,p.1,p.2,G),rfl,tW w0,tW O,tW B,tW z⟩
set_option maxRecDepth 100000 in
theorem KM{k:Nat}{v:Value}{d:DataW H}{p:List MemPlace}(b:Value.okWide Tryz.prog w .any k js v)(h:DataW.Trod enc Tryz.prog w 0 sp held js v d p):
  ∃(s:SliceV) (l:List Sq),v=.slice s.a s.len s.cap∧Sl Df 6 No w.heap s l∧l.length≤9223372036854775807∧∀a∈l,Lo a:=by
 obtain⟨a,q,c,rfl⟩:=okWide_slice Qk b;obtain⟨fuel,j⟩:=h;obtain⟨s,xs,g,u,hm,i,n⟩:=SI Qk j Df Wa TQ Lo fun fuel f y o m=>QT o m
 simp only[Value.cells,fA.injEq,and_true]at g;have:=i.len;simp only[maxLen]at hm;exact⟨s,xs,g,i,by omega,n⟩
end
end Go.Proofs.YtajpljopgikpgaaGreatDoor
