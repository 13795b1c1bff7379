/- A part of the proof that the named laws of this program answer true, whatever the input. -/
import Derived.Test.YtakmnggbneeicaaGreatTryTree
import Derived.Test.YtakmnggbneeicaaGreatPart14
open List renaming getElem?_eq_getElem→af,cons→nU
namespace Go.Proofs.YtakmnggbneeicaaGreat
open Go Go.Lift Go.Proofs Go.ChangeShapes Go.WideShapes Go.ChangeAt Go.RowKit
theorem RM:Tryz.prog.underlying 27=some (.slice 35):=by kernel_rfl
theorem V0:Tryz.prog.underlying 31=some (.int .u32):=by kernel_rfl
theorem V3:Tryz.prog.underlying 3=some (.int .i64):=by kernel_rfl
theorem WE:Tryz.prog.cellsOf 31=1:=by kernel_rfl
theorem WF:Tryz.prog.cellsOf 3=1:=by kernel_rfl
theorem Vk:Tryz.prog.cellsOf 4=1:=by kernel_rfl
theorem XX:Tryz.prog.cellsOf 35=10:=by kernel_rfl
theorem W9:∃f0 f1 f2 f3 f4 f5 f6 f7 f8:Field,Tryz.prog.underlying 35=some (.struct #[f0,f1,f2,f3,f4,f5,f6,f7,f8])∧(f0.type=5∧f0.offset=0)∧(f1.type=9∧f1.offset=1)∧(f2.type=9∧f2.offset=2)∧(f3.type=5∧f3.offset=3)∧(f4.type=5∧f4.offset=4)∧(f5.type=31∧f5.offset=5)∧(f6.type=33∧f6.offset=6)∧(f7.type=4∧f7.offset=8)∧(f8.type=3∧f8.offset=9):=
 ⟨_,_,_,_,_,_,_,_,_,(by kernel_rfl:Tryz.prog.underlying 35=some (.struct #[{name:= "Do",pkgPath:= "",type:=5,tag:= "",embedded:=false,offset:=0,byteOffset:=0},{name:= "Name",pkgPath:= "",type:=9,tag:= "",embedded:=false,offset:=1,byteOffset:=8},{name:= "Other",pkgPath:= "",type:=9,tag:= "",embedded:=false,offset:=2,byteOffset:=24},{name:= "A",pkgPath:= "",type:=5,tag:= "",embedded:=false,offset:=3,byteOffset:=40},{name:= "B",pkgPath:= "",type:=5,tag:= "",embedded:=false,offset:=4,byteOffset:=41},{name:= "ID",pkgPath:= "",type:=31,tag:= "",embedded:=false,offset:=5,byteOffset:=44},{name:= "P",pkgPath:= "",type:=33,tag:= "",embedded:=false,offset:=6,byteOffset:=48},{name:= "Odd",pkgPath:= "",type:=4,tag:= "",embedded:=false,offset:=8,byteOffset:=80},{name:= "Policy",pkgPath:= "",type:=3,tag:= "",embedded:=false,offset:=9,byteOffset:=88}])),⟨rfl,rfl⟩,⟨rfl,rfl⟩,⟨rfl,rfl⟩,⟨rfl,rfl⟩,⟨rfl,rfl⟩,⟨rfl,rfl⟩,⟨rfl,rfl⟩,⟨rfl,rfl⟩,⟨rfl,rfl⟩⟩
section
variable {H:Type} {enc:TypeId×Value→H} {w:World} {sp:Nat→Bool} {held:Bool}
abbrev WP(a:VC):Prop:=0≤a.2.2.2.1∧0≤a.2.2.2.2.1
set_option maxRecDepth 100000 in
theorem Sv{d:Nat}{a:List Value}{y:DataW H×List MemPlace}(R:a.length=10)(hy:DataW.trod enc Tryz.prog w 0 sp held d 35 a=some y):∃c:VC,a=Cj c∧WP c:=by
 obtain⟨N,f1,E,Z,f4,f5,f6,F,L,hu,⟨t0,Q⟩,⟨I,o1⟩,⟨W,o2⟩,⟨t3,o3⟩,⟨K,o4⟩,⟨U,P⟩,⟨t6,S⟩,⟨t7,O⟩,⟨t8,o8⟩⟩:=W9;obtain⟨xs,n,rfl,_,_,e,b⟩:=DataW.trod_struct hu hy;have e:xs.length=9:=e;match a,R with
 | [v0,v1,v2,v3,v4,v5,v6,v7,v8,v9],_=>
 have t:=b 0 N rfl;have u:=b 1 f1 rfl;have v:=b 2 E rfl;have o:=b 3 Z rfl;have p:=b 4 f4 rfl;have s:=b 5 f5 rfl;have D:=b 6 f6 rfl;have x:=b 7 F rfl;have m:=b 8 L rfl;rw[t0,Q,WD,af (by omega)]at t;rw[I,o1,PO,af (by omega)]at u;rw[W,o2,PO,af (by omega)]at v;rw[t3,o3,WD,af (by omega)]at o
 rw[K,o4,WD,af (by omega)]at p;rw[U,P,WE,af (by omega)]at s;rw[t6,S,YN,af (by omega)]at D;rw[t7,O,Vk,af (by omega)]at x;rw[t8,o8,WF,af (by omega)]at m;obtain⟨n0,C,_,w0⟩:=DataW.trod_int Us t;obtain⟨T,B,_⟩:=DataW.trod_string OW u;obtain⟨n2,z,_⟩:=DataW.trod_string OW v
 obtain⟨V,q,_,w3⟩:=DataW.trod_int Us o;obtain⟨G,i,_,Y⟩:=DataW.trod_int Us p;obtain⟨X,A,_,w5⟩:=DataW.trod_int V0 s;obtain⟨k,f⟩:=UL rfl D;obtain⟨n7,j,_⟩:=DataW.trod_bool RL x;obtain⟨n8,g,_,w8⟩:=DataW.trod_int V3 m;simp only[List.drop_zero,List.take_succ_cons,List.take_zero,List.drop_succ_cons,nU.injEq,and_true]at C B z q i A f j g;obtain⟨f,J⟩:=f
 subst C B z q i A f j g J;exact⟨(n0,T,n2,V,G,X,k.1,k.2,n7,n8),rfl,(BE w3).1,(BE Y).1⟩
set_option maxRecDepth 100000 in
theorem TG{n:Nat}{v:Value}{d:DataW H}{p:List MemPlace}(b:Value.okWide Tryz.prog w .any n 27 v)(h:DataW.Trod enc Tryz.prog w 0 sp held 27 v d p):
  ∃(s:SliceV) (l:List VC),v=.slice s.a s.len s.cap∧Sl Cj 10 No w.heap s l∧l.length≤9223372036854775807∧∀a∈l,WP a:=by
 obtain⟨a,o,c,rfl⟩:=okWide_slice RM b;obtain⟨e,m⟩:=h;obtain⟨s,xs,g,q,hm,i,hb⟩:=Ut RM m Cj XX Vr WP fun e f y k j=>Sv k j
 simp only[Value.cells,nU.injEq,and_true]at g;have:=i.len;simp only[maxLen]at hm;exact⟨s,xs,g,i,by omega,hb⟩
end
end Go.Proofs.YtakmnggbneeicaaGreat
