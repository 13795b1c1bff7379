/- A part of the proof that the named laws of this program answer true, whatever the input. -/
import Derived.Test.YtakmnggbneeicaaGreatTryTree
import Derived.Test.YtakmnggbneeicaaGreatPart6
open List renaming getElem?_eq_getElem->af,cons->eB
namespace Go.Proofs.YtakmnggbneeicaaGreat
open Go Go.Lift Go.Proofs Go.ChangeShapes Go.WideShapes Go.ChangeAt Go.RowKit
theorem WZ:Tryz.prog.underlying 27=some (.slice 35):=a5
theorem abv:Tryz.prog.underlying 31=some (.int .u32):=a5
theorem abw:Tryz.prog.underlying 3=some (.int .i64):=a5
theorem ab5:Tryz.prog.cellsOf 31=1:=a5
theorem ab6:Tryz.prog.cellsOf 3=1:=a5
theorem aaG:Tryz.prog.cellsOf 4=1:=a5
theorem adx:Tryz.prog.cellsOf 35=10:=a5
theorem acE:∃f0 f1 f2 f3 f4 f5 f6 f7 f8:Field,Tryz.prog.underlying 35=some (.struct #[f0,f1,f2,f3,f4,f5,f6,f7,f8])/\(f0.type=5/\f0.offset=0)/\(f1.type=9/\f1.offset=1)/\(f2.type=9/\f2.offset=2)/\(f3.type=5/\f3.offset=3)/\(f4.type=5/\f4.offset=4)/\(f5.type=31/\f5.offset=5)/\(f6.type=33/\f6.offset=6)/\(f7.type=4/\f7.offset=8)/\(f8.type=3/\f8.offset=9):=
 ⟨_,_,_,_,_,_,_,_,_,(by kernel_rfl:Tryz.prog.underlying 35=some (.struct #[{name:= "Do",pkgPath:= "",type:=5,tag:= "",embedded:=false,offset:=0,byteOffset:=0},{name:= "Name",pkgPath:= "",type:=9,tag:= "",embedded:=false,offset:=1,byteOffset:=8},{name:= "Other",pkgPath:= "",type:=9,tag:= "",embedded:=false,offset:=2,byteOffset:=24},{name:= "A",pkgPath:= "",type:=5,tag:= "",embedded:=false,offset:=3,byteOffset:=40},{name:= "B",pkgPath:= "",type:=5,tag:= "",embedded:=false,offset:=4,byteOffset:=41},{name:= "ID",pkgPath:= "",type:=31,tag:= "",embedded:=false,offset:=5,byteOffset:=44},{name:= "P",pkgPath:= "",type:=33,tag:= "",embedded:=false,offset:=6,byteOffset:=48},{name:= "Odd",pkgPath:= "",type:=4,tag:= "",embedded:=false,offset:=8,byteOffset:=80},{name:= "Policy",pkgPath:= "",type:=3,tag:= "",embedded:=false,offset:=9,byteOffset:=88}])),⟨rfl,rfl⟩,⟨rfl,rfl⟩,⟨rfl,rfl⟩,⟨rfl,rfl⟩,⟨rfl,rfl⟩,⟨rfl,rfl⟩,⟨rfl,rfl⟩,⟨rfl,rfl⟩,⟨rfl,rfl⟩⟩
section
variable {H:Type} {enc:TypeId×Value->H} {w:World} {sp:Nat->Bool} {held:Bool}
abbrev acj(a:aa3):Prop:=0<=a.2.2.2.1/\0<=a.2.2.2.2.1
set_option maxRecDepth 100000 in
theorem XD{d:Nat}{a:c4}{y:DataW H×List MemPlace}(U:a.length=10)(Q:DataW.trod enc Tryz.prog w 0 sp held d 35 a=some y):∃c:aa3,a=Fa c/\acj c:=by
 obtain⟨E,f1,f2,f3,f4,f5,G,J,f8,hu,⟨L,o0⟩,⟨t1,o1⟩,⟨W,o2⟩,⟨t3,P⟩,⟨t4,S⟩,⟨t5,R⟩,⟨I,O⟩,⟨Z,K⟩,⟨V,o8⟩⟩:=acE;obtain⟨xs,n,rfl,_,_,e,b⟩:=DataW.trod_struct hu Q;have e:xs.length=9:=e;match a,U with
 | [v0,v1,v2,v3,v4,v5,v6,v7,v8,v9],_=>
 have o:=b 0 E rfl;have q:=b 1 f1 rfl;have x:=b 2 f2 rfl;have C:=b 3 f3 rfl;have g:=b 4 f4 rfl;have j:=b 5 f5 rfl;have k:=b 6 G rfl;have p:=b 7 J rfl;have B:=b 8 f8 rfl;rw[L,o0,ab4,af a4]at o;rw[t1,o1,UO,af a4]at q;rw[W,o2,UO,af a4]at x;rw[t3,P,ab4,af a4]at C
 rw[t4,S,ab4,af a4]at g;rw[t5,R,ab5,af a4]at j;rw[I,O,aek,af a4]at k;rw[Z,K,aaG,af a4]at p;rw[V,o8,ab6,af a4]at B;obtain⟨n0,u,_,w0⟩:=DataW.trod_int abu o;obtain⟨n1,s,_⟩:=DataW.trod_string TM q;obtain⟨N,t,_⟩:=DataW.trod_string TM x
 obtain⟨n3,A,_,w3⟩:=DataW.trod_int abu C;obtain⟨X,m,_,w4⟩:=DataW.trod_int abu g;obtain⟨F,z,_,w5⟩:=DataW.trod_int abv j;obtain⟨D,f⟩:=Z5 rfl k;obtain⟨T,v,_⟩:=DataW.trod_bool WY p;obtain⟨n8,i,_,w8⟩:=DataW.trod_int abw B;simp only[List.drop_zero,List.take_succ_cons,List.take_zero,List.drop_succ_cons,eB.injEq,and_true]at u s t A m z f v i;obtain⟨f,Y⟩:=f
 subst u s t A m z f v i Y;exact⟨(n0,n1,N,n3,X,F,D.1,D.2,T,n8),rfl,(Lh w3).1,(Lh w4).1⟩
set_option maxRecDepth 100000 in
theorem YK{m:Nat}{v:Value}{d:DataW H}{p:List MemPlace}(e:Value.okWide Tryz.prog w .any m 27 v)(h:DataW.Trod enc Tryz.prog w 0 sp held 27 v d p):
  ∃(s:fD) (l:List aa3),v=.slice s.a s.len s.cap/\Sl Fa 10 No w.heap s l/\l.length<=9223372036854775807/\∀a∈l,acj a:=by
 obtain⟨a,q,c,rfl⟩:=okWide_slice WZ e;obtain⟨b,k⟩:=h;obtain⟨s,xs,i,o,hm,g,hb⟩:=ZC WZ k Fa adx aaO acj λb f y n j=>XD n j
 simp only[Value.cells,eB.injEq,and_true]at i;have:=g.len;simp only[maxLen]at hm;exact⟨s,xs,i,g,a4,hb⟩
end
end Go.Proofs.YtakmnggbneeicaaGreat
