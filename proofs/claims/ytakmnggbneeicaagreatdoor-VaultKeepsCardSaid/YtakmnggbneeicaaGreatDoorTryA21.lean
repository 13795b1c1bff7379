/- A part of the proof that the named laws of this program answer true, whatever the input. -/
import Derived.Test.YtakmnggbneeicaaGreatDoorTryTree
import Derived.Test.YtakmnggbneeicaaGreatDoorPart5
open List renaming getElem?_eq_getElem->af,cons->gi
namespace Go.Proofs.YtakmnggbneeicaaGreatDoor
open Go Go.Lift Go.Proofs Go.ChangeShapes Go.WideShapes Go.ChangeAt Go.RowKit
theorem Ve:Tryz.prog.underlying 27=some (.slice 37):=a5
theorem Zo:Tryz.prog.underlying 33=some (.int .u32):=a5
theorem Zp:Tryz.prog.underlying 3=some (.int .i64):=a5
theorem ZV:Tryz.prog.cellsOf 33=1:=a5
theorem ZW:Tryz.prog.cellsOf 3=1:=a5
theorem YE:Tryz.prog.cellsOf 4=1:=a5
theorem abi:Tryz.prog.cellsOf 37=10:=a5
theorem aau:∃f0 f1 f2 f3 f4 f5 f6 f7 f8:Field,Tryz.prog.underlying 37=some (.struct #[f0,f1,f2,f3,f4,f5,f6,f7,f8])/\(f0.type=5/\f0.offset=0)/\(f1.type=9/\f1.offset=1)/\(f2.type=9/\f2.offset=2)/\(f3.type=5/\f3.offset=3)/\(f4.type=5/\f4.offset=4)/\(f5.type=33/\f5.offset=5)/\(f6.type=35/\f6.offset=6)/\(f7.type=4/\f7.offset=8)/\(f8.type=3/\f8.offset=9):=
 ⟨_,_,_,_,_,_,_,_,_,(by kernel_rfl:Tryz.prog.underlying 37=some (.struct #[{name:= "Do",pkgPath:= "",type:=5,tag:= "",embedded:=false,offset:=0,byteOffset:=0},{name:= "Name",pkgPath:= "",type:=9,tag:= "",embedded:=false,offset:=1,byteOffset:=8},{name:= "Other",pkgPath:= "",type:=9,tag:= "",embedded:=false,offset:=2,byteOffset:=24},{name:= "A",pkgPath:= "",type:=5,tag:= "",embedded:=false,offset:=3,byteOffset:=40},{name:= "B",pkgPath:= "",type:=5,tag:= "",embedded:=false,offset:=4,byteOffset:=41},{name:= "ID",pkgPath:= "",type:=33,tag:= "",embedded:=false,offset:=5,byteOffset:=44},{name:= "P",pkgPath:= "",type:=35,tag:= "",embedded:=false,offset:=6,byteOffset:=48},{name:= "Odd",pkgPath:= "",type:=4,tag:= "",embedded:=false,offset:=8,byteOffset:=80},{name:= "Policy",pkgPath:= "",type:=3,tag:= "",embedded:=false,offset:=9,byteOffset:=88}])),⟨rfl,rfl⟩,⟨rfl,rfl⟩,⟨rfl,rfl⟩,⟨rfl,rfl⟩,⟨rfl,rfl⟩,⟨rfl,rfl⟩,⟨rfl,rfl⟩,⟨rfl,rfl⟩,⟨rfl,rfl⟩⟩
section
variable {H:Type} {enc:TypeId×Value->H} {w:World} {sp:Nat->Bool} {held:Bool}
abbrev Z9(a:Y0):Prop:=0<=a.2.2.2.1/\0<=a.2.2.2.2.1
set_option maxRecDepth 100000 in
theorem VL{fuel:Nat}{a:c5}{y:DataW H×List MemPlace}(D:a.length=10)(hy:DataW.trod enc Tryz.prog w 0 sp held fuel 37 a=some y):∃c:Y0,a=El c/\Z9 c:=by
 obtain⟨f0,f1,V,J,E,T,R,S,f8,hu,⟨t0,o0⟩,⟨O,o1⟩,⟨L,Z⟩,⟨P,X⟩,⟨U,o4⟩,⟨K,o5⟩,⟨t6,Q⟩,⟨t7,o7⟩,⟨I,o8⟩⟩:=aau;obtain⟨xs,n,rfl,_,_,d,b⟩:=DataW.trod_struct hu hy;have d:xs.length=9:=d;match a,D with
 | [v0,v1,v2,v3,v4,v5,v6,v7,v8,v9],_=>
 have B:=b 0 f0 rfl;have p:=b 1 f1 rfl;have s:=b 2 V rfl;have k:=b 3 J rfl;have z:=b 4 E rfl;have o:=b 5 T rfl;have x:=b 6 R rfl;have f:=b 7 S rfl;have t:=b 8 f8 rfl;rw[t0,o0,YD,af a4]at B;rw[O,o1,S0,af a4]at p;rw[L,Z,S0,af a4]at s;rw[P,X,YD,af a4]at k
 rw[U,o4,YD,af a4]at z;rw[K,o5,ZV,af a4]at o;rw[t6,Q,ab8,af a4]at x;rw[t7,o7,YE,af a4]at f;rw[I,o8,ZW,af a4]at t;obtain⟨n0,g,_,w0⟩:=DataW.trod_int Vb B;obtain⟨Y,C,_⟩:=DataW.trod_string RR p;obtain⟨n2,A,_⟩:=DataW.trod_string RR s
 obtain⟨W,u,_,w3⟩:=DataW.trod_int Vb k;obtain⟨n4,q,_,w4⟩:=DataW.trod_int Vb z;obtain⟨N,i,_,w5⟩:=DataW.trod_int Zo o;obtain⟨m,e⟩:=X4 rfl x;obtain⟨G,j,_⟩:=DataW.trod_bool Vd f;obtain⟨n8,v,_,w8⟩:=DataW.trod_int Zp t;simp only[List.drop_zero,List.take_succ_cons,List.take_zero,List.drop_succ_cons,gi.injEq,and_true]at g C A u q i e j v;obtain⟨e,F⟩:=e
 subst g C A u q i e j v F;exact⟨(n0,Y,n2,W,n4,N,m.1,m.2,G,n8),rfl,(DH w3).1,(DH w4).1⟩
set_option maxRecDepth 100000 in
theorem W0{j:Nat}{v:Value}{d:DataW H}{p:List MemPlace}(b:Value.okWide Tryz.prog w .any j 27 v)(h:DataW.Trod enc Tryz.prog w 0 sp held 27 v d p):
  ∃(s:f9) (l:List Y0),v=.slice s.a s.len s.cap/\Sl El 10 No w.heap s l/\l.length<=9223372036854775807/\∀a∈l,Z9 a:=by
 obtain⟨a,n,c,rfl⟩:=okWide_slice Ve b;obtain⟨fuel,k⟩:=h;obtain⟨s,xs,g,o,hm,f,hb⟩:=XM Ve k El abi YO Z9 λfuel e y i m=>VL i m
 simp only[Value.cells,gi.injEq,and_true]at g;have:=f.len;simp only[maxLen]at hm;exact⟨s,xs,g,f,a4,hb⟩
end
end Go.Proofs.YtakmnggbneeicaaGreatDoor
