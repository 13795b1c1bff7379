/- A part of the proof that the named laws of this program answer true, whatever the input. -/
import Derived.Test.YtopdngagmfanlaaGreatDoorTryDA
import Derived.Test.YtopdngagmfanlaaGreatDoorPart5
import Derived.Test.YtopdngagmfanlaaGreatDoorPart11
open List renaming getElem?_eq_getElem→ah,drop_zero→dK,take_succ_cons→gC,take_zero→p0,drop_succ_cons→iX,cons→xa
namespace Go.Proofs.YtopdngagmfanlaaGreatDoor
open Go Go.Lift Go.Proofs Go.ChangeShapes Go.WideShapes Go.ChangeAt Go.RowKit
theorem ZF:Tryz.prog.underlying eG=some (.slice ax):=by kernel_rfl
theorem aaL:∃f0 f1:Field,Tryz.prog.underlying ax=some (.struct #[f0,f1])∧(f0.type=bR∧f0.offset=0)∧f1.type=bR∧f1.offset=1:=
 ⟨_,_,(by kernel_rfl:Tryz.prog.underlying ax=some (.struct #[{name:= "Key",pkgPath:= "",type:=bR,tag:= "",embedded:=false,offset:=0,byteOffset:=0},{name:= "Value",pkgPath:= "",type:=bR,tag:= "",embedded:=false,offset:=1,byteOffset:=16}])),⟨rfl,rfl⟩,rfl,rfl⟩
theorem zP:Tryz.prog.cellsOf bR=1:=by kernel_rfl
theorem abF:Tryz.prog.cellsOf ax=2:=by kernel_rfl
section
variable {H:Type} {enc:TypeId×Value→H} {w:World} {sp:Nat→Bool} {held:Bool}
set_option maxRecDepth 100000 in
theorem XA{b:Nat}{a:List Value}{y:DataW H×List MemPlace}(o:a.length=2)(j:DataW.trod enc Tryz.prog w 0 sp held b ax a=some y):∃p:Pr,a=iZ p:=by
 obtain⟨u,v,t,⟨s,i⟩,q,k⟩:=aaL;obtain⟨xs,n,rfl,_,_,c,d⟩:=DataW.trod_struct t j;have c:xs.length=2:=c;match a,o with
 | [v0,v1],_=>
 have f:=d 0 u rfl;have e:=d 1 v rfl;rw[s,i,zP,ah (by omega)]at f;rw[q,k,zP,ah (by omega)]at e;obtain⟨s0,g,_⟩:=DataW.trod_string yP f;obtain⟨m,e1,_⟩:=DataW.trod_string yP e;simp only[dK,gC,p0,iX,xa.injEq,and_true]at g e1;subst g e1;exact⟨(s0,m),rfl⟩
end
theorem ZG:Tryz.prog.underlying oE=some (.slice bE):=by kernel_rfl
theorem aaN:∃f0 f1 f2 f3 f4:Field,Tryz.prog.underlying bE=some (.struct #[f0,f1,f2,f3,f4])∧(f0.type=bR∧f0.offset=0)∧(f1.type=bR∧f1.offset=1)∧(f2.type=bR∧f2.offset=2)∧(f3.type=mB∧f3.offset=3)∧f4.type=mB∧f4.offset=4:=
 ⟨_,_,_,_,_,(by kernel_rfl:Tryz.prog.underlying bE=some (.struct #[{name:= "Key",pkgPath:= "",type:=bR,tag:= "",embedded:=false,offset:=0,byteOffset:=0},{name:= "Old",pkgPath:= "",type:=bR,tag:= "",embedded:=false,offset:=1,byteOffset:=16},{name:= "New",pkgPath:= "",type:=bR,tag:= "",embedded:=false,offset:=2,byteOffset:=32},{name:= "Was",pkgPath:= "",type:=mB,tag:= "",embedded:=false,offset:=3,byteOffset:=48},{name:= "Is",pkgPath:= "",type:=mB,tag:= "",embedded:=false,offset:=4,byteOffset:=49}])),⟨rfl,rfl⟩,⟨rfl,rfl⟩,⟨rfl,rfl⟩,⟨rfl,rfl⟩,rfl,rfl⟩
theorem Md:Tryz.prog.cellsOf mB=1:=by kernel_rfl
theorem abH:Tryz.prog.cellsOf bE=5:=by kernel_rfl
section
variable {H:Type} {enc:TypeId×Value→H} {w:World} {sp:Nat→Bool} {held:Bool}
set_option maxRecDepth 100000 in
theorem XB{e:Nat}{a:List Value}{y:DataW H×List MemPlace}(v:a.length=5)(N:DataW.trod enc Tryz.prog w 0 sp held e bE a=some y):∃c:Ch,a=oX c:=by
 obtain⟨A,I,E,J,L,Q,⟨x,C⟩,⟨O,G⟩,⟨q,u⟩,⟨P,K⟩,t,s⟩:=aaN;obtain⟨xs,n,rfl,_,_,b,d⟩:=DataW.trod_struct Q N;have b:xs.length=5:=b;match a,v with
 | [v0,v1,v2,v3,v4],_=>
 have m:=d 0 A rfl;have g:=d 1 I rfl;have i:=d 2 E rfl;have k:=d 3 J rfl;have o:=d 4 L rfl;rw[x,C,zP,ah (by omega)]at m;rw[O,G,zP,ah (by omega)]at g;rw[q,u,zP,ah (by omega)]at i;rw[P,K,Md,ah (by omega)]at k;rw[t,s,Md,ah (by omega)]at o;obtain⟨s0,p,_⟩:=DataW.trod_string yP m
 obtain⟨z,e1,_⟩:=DataW.trod_string yP g;obtain⟨B,e2,_⟩:=DataW.trod_string yP i;obtain⟨F,f,_⟩:=DataW.trod_bool GO k;obtain⟨D,j,_⟩:=DataW.trod_bool GO o;simp only[dK,gC,p0,iX,xa.injEq,and_true]at p e1 e2 f j;subst p e1 e2 f j;exact⟨(s0,z,B,F,D),rfl⟩
end
theorem YL:∃f0 f1 f2:Field,Tryz.prog.underlying ra=some (.struct #[f0,f1,f2])∧(f0.type=bR∧f0.offset=0)∧(f1.type=bR∧f1.offset=1)∧(f2.type=mB∧f2.offset=2):=
 ⟨_,_,_,(by kernel_rfl:Tryz.prog.underlying ra=some (.struct #[{name:= "From",pkgPath:= "",type:=bR,tag:= "",embedded:=false,offset:=0,byteOffset:=0},{name:= "To",pkgPath:= "",type:=bR,tag:= "",embedded:=false,offset:=1,byteOffset:=16},{name:= "Open",pkgPath:= "",type:=mB,tag:= "",embedded:=false,offset:=2,byteOffset:=32}])),⟨rfl,rfl⟩,⟨rfl,rfl⟩,⟨rfl,rfl⟩⟩
theorem aaM:∃f0 f1 f2 f3 f4 f5 f6 f7 f8 f9 f10 f11 f12:Field,Tryz.prog.underlying aL=some (.struct #[f0,f1,f2,f3,f4,f5,f6,f7,f8,f9,f10,f11,f12])∧(f0.type=wy∧f0.offset=0)∧(f1.type=bR∧f1.offset=1)∧(f2.type=bR∧f2.offset=2)∧(f3.type=bR∧f3.offset=3)∧(f4.type=bR∧f4.offset=4)∧(f5.type=oa∧f5.offset=5)∧(f6.type=oa∧f6.offset=6)∧(f7.type=wy∧f7.offset=7)∧(f8.type=wy∧f8.offset=8)∧(f9.type=mB∧f9.offset=9)∧(f10.type=ra∧f10.offset=10)∧(f11.type=eG∧f11.offset=13)∧(f12.type=oE∧f12.offset=14):=
 ⟨_,_,_,_,_,_,_,_,_,_,_,_,_,(by kernel_rfl:Tryz.prog.underlying aL=some (.struct #[{name:= "Kind",pkgPath:= "",type:=wy,tag:= "",embedded:=false,offset:=0,byteOffset:=0},{name:= "Branch",pkgPath:= "",type:=bR,tag:= "",embedded:=false,offset:=1,byteOffset:=8},{name:= "Other",pkgPath:= "",type:=bR,tag:= "",embedded:=false,offset:=2,byteOffset:=24},{name:= "Key",pkgPath:= "",type:=bR,tag:= "",embedded:=false,offset:=3,byteOffset:=40},{name:= "Value",pkgPath:= "",type:=bR,tag:= "",embedded:=false,offset:=4,byteOffset:=56},{name:= "ID",pkgPath:= "",type:=oa,tag:= "",embedded:=false,offset:=5,byteOffset:=72},{name:= "To",pkgPath:= "",type:=oa,tag:= "",embedded:=false,offset:=6,byteOffset:=76},{name:= "Session",pkgPath:= "",type:=wy,tag:= "",embedded:=false,offset:=7,byteOffset:=80},{name:= "Which",pkgPath:= "",type:=wy,tag:= "",embedded:=false,offset:=8,byteOffset:=88},{name:= "Back",pkgPath:= "",type:=mB,tag:= "",embedded:=false,offset:=9,byteOffset:=96},{name:= "Span",pkgPath:= "",type:=ra,tag:= "",embedded:=false,offset:=10,byteOffset:=104},{name:= "Pairs",pkgPath:= "",type:=eG,tag:= "",embedded:=false,offset:=13,byteOffset:=144},{name:= "Changes",pkgPath:= "",type:=oE,tag:= "",embedded:=false,offset:=14,byteOffset:=168}])),⟨rfl,rfl⟩,⟨rfl,rfl⟩,⟨rfl,rfl⟩,⟨rfl,rfl⟩,⟨rfl,rfl⟩,⟨rfl,rfl⟩,⟨rfl,rfl⟩,⟨rfl,rfl⟩,⟨rfl,rfl⟩,⟨rfl,rfl⟩,⟨rfl,rfl⟩,⟨rfl,rfl⟩,⟨rfl,rfl⟩⟩
theorem UL:Tryz.prog.underlying oa=some (.int .u32):=by kernel_rfl
theorem PH:Tryz.prog.underlying wy=some (.int .i64):=by kernel_rfl
theorem Wo:Tryz.prog.cellsOf oa=1:=by kernel_rfl
theorem QW:Tryz.prog.cellsOf wy=1:=by kernel_rfl
theorem X7:Tryz.prog.cellsOf ra=3:=by kernel_rfl
theorem Zi:Tryz.prog.cellsOf eG=1:=by kernel_rfl
theorem Zj:Tryz.prog.cellsOf oE=1:=by kernel_rfl
theorem abG:Tryz.prog.cellsOf aL=15:=by kernel_rfl
section
variable {H:Type} {enc:TypeId×Value→H} {w:World} {sp:Nat→Bool} {held:Bool}
set_option maxRecDepth 100000 in
set_option maxHeartbeats 1000000 in
theorem Zl{b0:Nat}{v:Value}{d:DataW H}{p:List MemPlace}(j:Value.okWide Tryz.prog w .any b0 aL v)(h:DataW.Trod enc Tryz.prog w 0 sp held aL v d p):
  ∃(D:OpD) (t u:SliceV),v=LG (mo D t u)∧D.ps.length≤9223372036854775807∧D.cs.length≤9223372036854775807∧W4 D∧(-9223372036854775808≤D.s∧D.s≤9223372036854775807)∧(-9223372036854775808≤D.w∧D.w≤9223372036854775807)∧Sl iZ 2 No w.heap t D.ps∧Sl oX 5 No w.heap u D.cs:=by
 obtain⟨f0,f1,f2,f3,f4,f5,f6,f7,f8,f9,I,C,G,hu,⟨t0,o0⟩,⟨t1,o1⟩,⟨t2,o2⟩,⟨t3,o3⟩,⟨t4,o4⟩,⟨t5,o5⟩,⟨t6,o6⟩,⟨t7,o7⟩,⟨t8,o8⟩,⟨t9,o9⟩,⟨Z,E⟩,⟨S,W⟩,⟨U,L⟩⟩:=aaM;obtain⟨cs,rfl,q⟩:=okWide_struct hu j;rw[abG]at q;obtain⟨b,a⟩:=h;obtain⟨xs,n,rfl,_,_,s,a⟩:=DataW.trod_struct hu a;have s:xs.length=13:=s;obtain⟨l,rfl⟩:∃l:List Value,cs=l.toArray:=⟨cs.toList,rfl⟩;match l,q with
 | [v0,v1,v2,v3,v4,v5,v6,v7,v8,v9,v10,v11,v12,v13,v14],_=>
 have O:=a 0 f0 rfl;have g1:=a 1 f1 rfl;have z:=a 2 f2 rfl;have N:=a 3 f3 rfl;have A:=a 4 f4 rfl;have Y:=a 5 f5 rfl;have x:=a 6 f6 rfl;have g7:=a 7 f7 rfl;have J:=a 8 f8 rfl;have g9:=a 9 f9 rfl;have f:=a 10 I rfl;have c:=a 11 C rfl;have i:=a 12 G rfl;rw[t0,o0,QW,ah (by omega)]at O;rw[t1,o1,zP,ah (by omega)]at g1;rw[t2,o2,zP,ah (by omega)]at z
 rw[t3,o3,zP,ah (by omega)]at N;rw[t4,o4,zP,ah (by omega)]at A;rw[t5,o5,Wo,ah (by omega)]at Y;rw[t6,o6,Wo,ah (by omega)]at x;rw[t7,o7,QW,ah (by omega)]at g7;rw[t8,o8,QW,ah (by omega)]at J;rw[t9,o9,Md,ah (by omega)]at g9
 rw[Z,E,X7,ah (by omega)]at f;rw[S,W,Zi,ah (by omega)]at c;rw[U,L,Zj,ah (by omega)]at i;simp only[Value.cells,dK,gC,p0,iX]at O g1 z N A Y x g7 J g9 f c i;obtain⟨s0,e0,_,w0⟩:=DataW.trod_int PH O;have b0: -9223372036854775808≤s0∧s0≤9223372036854775807:=wh w0
 obtain⟨t,e1,_⟩:=DataW.trod_string yP g1;obtain⟨u,e2,_⟩:=DataW.trod_string yP z;obtain⟨s3,e3,_⟩:=DataW.trod_string yP N;obtain⟨s4,e4,_⟩:=DataW.trod_string yP A;obtain⟨s5,e5,_,w5⟩:=DataW.trod_int UL Y;have b5:0≤s5∧s5≤4294967295:=wh w5;obtain⟨R,e6,_,w6⟩:=DataW.trod_int UL x;have b6:0≤R∧R≤4294967295:=wh w6;obtain⟨K,e7,_,w7⟩:=DataW.trod_int PH g7;have b7: -9223372036854775808≤K∧K≤9223372036854775807:=wh w7
 obtain⟨V,e8,_,w8⟩:=DataW.trod_int PH J;have b8: -9223372036854775808≤V∧V≤9223372036854775807:=wh w8;obtain⟨s9,e9,_⟩:=DataW.trod_bool GO g9;obtain⟨q0,q1,q2,B,⟨r0,x0⟩,⟨r1,x1⟩,⟨r2,x2⟩⟩:=YL;obtain⟨ys,n2,rfl,_,_,k,T⟩:=DataW.trod_struct B f;have k:ys.length=3:=k;have k0:=T 0 q0 rfl;have k1:=T 1 q1 rfl;have k2:=T 2 q2 rfl;rw[r0,x0,zP,ah (by omega)]at k0
 rw[r1,x1,zP,ah (by omega)]at k1;rw[r2,x2,Md,ah (by omega)]at k2;obtain⟨y0,z0,_⟩:=DataW.trod_string yP k0;obtain⟨y1,z1,_⟩:=DataW.trod_string yP k1;obtain⟨y2,z2,_⟩:=DataW.trod_bool GO k2;obtain⟨P,l1,m,_,m1,a1,_⟩:=RJ ZF c iZ abF fR (fun _=>True) fun b g y Q X=>by
  obtain⟨p,e⟩:=XA Q X;exact⟨p,e,trivial⟩
 obtain⟨F,l2,o,_,m2,a2,_⟩:=RJ ZG i oX abH kH (fun _=>True) fun b g y Q X=>by
  obtain⟨p,e⟩:=XB Q X;exact⟨p,e,trivial⟩
 simp only[dK,gC,p0,iX,xa.injEq,and_true]at e0 e1 e2 e3 e4 e5 e6 e7 e8 e9 z0 z1 z2 m o;subst e0 e1 e2 e3 e4 e5 e6 e7 e8 e9 z0 z1 z2 m o;have n1:=a1.len;have n2:=a2.len;simp only[maxLen]at m1 m2;exact⟨⟨s0,t,u,s3,s4,s5,R,K,V,s9,y0,y1,y2,l1,l2⟩,P,F,rfl,by show l1.length≤_;omega,by show l2.length≤_;omega,⟨b5.1,b5.2,b6.1,b6.2⟩,b7,b8,a1,a2⟩
end
end Go.Proofs.YtopdngagmfanlaaGreatDoor
