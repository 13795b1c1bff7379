/- A part of the proof that the named laws of this program answer true, whatever the input. -/
import Derived.Test.YtajpljopgikpgaaGreatDoorTryInt
import Derived.Test.YtajpljopgikpgaaGreatDoorPart14
open List renaming getElem?_eq_getElem→ag,cons→fH
namespace Go.Proofs.YtajpljopgikpgaaGreatDoor
open Go Go.Lift Go.Proofs Go.ChangeShapes Go.WideShapes Go.ChangeAt Go.RowKit
theorem U5:Tryz.prog.underlying pT=some (.slice pS):=by kernel_rfl
theorem aaD:∃f0 f1 f2 f3 f4:Field,Tryz.prog.underlying pS=some (.struct #[f0,f1,f2,f3,f4])∧(f0.type=cK∧f0.offset=0)∧(f1.type=cK∧f1.offset=1)∧(f2.type=cK∧f2.offset=2)∧(f3.type=ay∧f3.offset=3)∧f4.type=RJ∧f4.offset=5:=
 ⟨_,_,_,_,_,(by kernel_rfl:Tryz.prog.underlying pS=some (.struct #[{name:= "Do",pkgPath:= "",type:=cK,tag:= "",embedded:=false,offset:=0,byteOffset:=0},{name:= "At",pkgPath:= "",type:=cK,tag:= "",embedded:=false,offset:=1,byteOffset:=1},{name:= "From",pkgPath:= "",type:=cK,tag:= "",embedded:=false,offset:=2,byteOffset:=2},{name:= "P",pkgPath:= "",type:=ay,tag:= "",embedded:=false,offset:=3,byteOffset:=8},{name:= "Key",pkgPath:= "",type:=RJ,tag:= "",embedded:=false,offset:=5,byteOffset:=40}])),⟨rfl,rfl⟩,⟨rfl,rfl⟩,⟨rfl,rfl⟩,⟨rfl,rfl⟩,rfl,rfl⟩
theorem Z8:Tryz.prog.cellsOf RJ=1:=by kernel_rfl
theorem abb:Tryz.prog.cellsOf pS=6:=by kernel_rfl
theorem YI(a:Xl):(Ie a).length=6∧0<6:=⟨rfl,by omega⟩
section
variable {H:Type} {enc:TypeId×Value→H} {w:World} {sp:Nat→Bool} {held:Bool}
set_option maxRecDepth 100000 in
theorem VI{fuel:Nat}{a:List Value}{y:DataW H×List MemPlace}(C:a.length=6)(G:DataW.trod enc Tryz.prog w 0 sp held fuel pS a=some y):∃c:Xl,a=Ie c∧UD c:=by
 obtain⟨M,B,N,T,v,z,⟨A,R⟩,⟨Q,o1⟩,⟨L,o2⟩,⟨P,o3⟩,J,S⟩:=aaD;obtain⟨xs,n,rfl,_,_,b,d⟩:=DataW.trod_struct z G;have b:xs.length=5:=b;match a,C with
 | [v0,v1,v2,v3,v4,v5],_=>
 have g0:=d 0 M rfl;have m:=d 1 B rfl;have i:=d 2 N rfl;have k:=d 3 T rfl;have o:=d 4 v rfl;rw[A,R,YC,ag (by omega)]at g0;rw[Q,o1,YC,ag (by omega)]at m;rw[L,o2,YC,ag (by omega)]at i;rw[P,o3,abP,ag (by omega)]at k;rw[J,S,Z8,ag (by omega)]at o;obtain⟨n0,s,_,w0⟩:=DataW.trod_int U3 g0
 obtain⟨O,u,_,K⟩:=DataW.trod_int U3 m;obtain⟨E,j,_,D⟩:=DataW.trod_int U3 i;obtain⟨p,f⟩:=X9 rfl k;obtain⟨I,q,_,F⟩:=DataW.trod_int aaB o;simp only[List.drop_zero,List.take_succ_cons,List.take_zero,List.drop_succ_cons,fH.injEq,and_true]at s u j f q;obtain⟨f,g⟩:=f;subst s u j f g q;exact⟨(n0,O,E,p.1,p.2,I),rfl,wE w0,wE K,wE D,wE F⟩
set_option maxRecDepth 100000 in
theorem WX{o:Nat}{v:Value}{d:DataW H}{p:List MemPlace}(b:Value.okWide Tryz.prog w .any o pT v)(h:DataW.Trod enc Tryz.prog w 0 sp held pT v d p):
  ∃(s:SliceV) (l:List Xl),v=.slice s.a s.len s.cap∧Sl Ie 6 No w.heap s l∧l.length≤9223372036854775807∧∀a∈l,UD a:=by
 obtain⟨a,q,c,rfl⟩:=okWide_slice U5 b;obtain⟨fuel,k⟩:=h;obtain⟨s,xs,g,u,hm,i,j⟩:=XD U5 k Ie abb YI UD fun fuel f y m n=>VI m n
 simp only[Value.cells,fH.injEq,and_true]at g;have:=i.len;simp only[maxLen]at hm;exact⟨s,xs,g,i,by omega,j⟩
end
end Go.Proofs.YtajpljopgikpgaaGreatDoor
