/- A part of the proof that the named laws of this program answer true, whatever the input. -/
import Derived.Test.YtopdngagmfanlaaGreatDoorTryDO
import Derived.Test.YtopdngagmfanlaaGreatDoorTryCond
import Derived.Test.YtopdngagmfanlaaGreatDoorPart9
open List renaming getElem?_eq_getElem→ag,drop_zero→cM,take_succ_cons→dG,take_zero→iu,drop_succ_cons→dZ,cons→sx,getElem_mem→bp
open Prod renaming fst→ph
namespace Go.Proofs.YtopdngagmfanlaaGreatDoor
open Go Go.Lift Go.Proofs Go.ChangeShapes Go.WideShapes Go.ChangeAt Go.RowKit
theorem VA:∃f0 f1:Field,Tryz.prog.underlying fA=some (.struct #[f0,f1])∧(f0.type=cN∧f0.offset=0)∧(f1.type=lF∧f1.offset=1):=
 ⟨_,_,(by kernel_rfl:Tryz.prog.underlying fA=some (.struct #[{name:= "Value",pkgPath:= "",type:=cN,tag:= "",embedded:=false,offset:=0,byteOffset:=0},{name:= "Is",pkgPath:= "",type:=lF,tag:= "",embedded:=false,offset:=1,byteOffset:=16}])),⟨rfl,rfl⟩,⟨rfl,rfl⟩⟩
theorem VC:∃f0 f1 f2 f3:Field,Tryz.prog.underlying cO=some (.struct #[f0,f1,f2,f3])∧(f0.type=cN∧f0.offset=0)∧(f1.type=fA∧f1.offset=1)∧(f2.type=fA∧f2.offset=3)∧(f3.type=fA∧f3.offset=5):=
 ⟨_,_,_,_,(by kernel_rfl:Tryz.prog.underlying cO=some (.struct #[{name:= "Key",pkgPath:= "",type:=cN,tag:= "",embedded:=false,offset:=0,byteOffset:=0},{name:= "Base",pkgPath:= "",type:=fA,tag:= "",embedded:=false,offset:=1,byteOffset:=16},{name:= "Ours",pkgPath:= "",type:=fA,tag:= "",embedded:=false,offset:=3,byteOffset:=40},{name:= "Theirs",pkgPath:= "",type:=fA,tag:= "",embedded:=false,offset:=5,byteOffset:=64}])),⟨rfl,rfl⟩,⟨rfl,rfl⟩,⟨rfl,rfl⟩,⟨rfl,rfl⟩⟩
theorem VB:∃f0 f1:Field,Tryz.prog.underlying kh=some (.struct #[f0,f1])∧(f0.type=cN∧f0.offset=0)∧(f1.type=mE∧f1.offset=1):=
 ⟨_,_,(by kernel_rfl:Tryz.prog.underlying kh=some (.struct #[{name:= "Name",pkgPath:= "",type:=cN,tag:= "",embedded:=false,offset:=0,byteOffset:=0},{name:= "ID",pkgPath:= "",type:=mE,tag:= "",embedded:=false,offset:=1,byteOffset:=16}])),⟨rfl,rfl⟩,⟨rfl,rfl⟩⟩
theorem XF:∃f0 f1 f2 f3 f4 f5 f6 f7 f8 f9 f10:Field,Tryz.prog.underlying bN=some (.struct #[f0,f1,f2,f3,f4,f5,f6,f7,f8,f9,f10])∧(f0.type=tM∧f0.offset=0)∧(f1.type=mE∧f1.offset=1)∧(f2.type=tLq∧f2.offset=2)∧(f3.type=cN∧f3.offset=3)∧(f4.type=lF∧f4.offset=4)∧(f5.type=tLq∧f5.offset=5)∧(f6.type=dY∧f6.offset=6)∧(f7.type=ny∧f7.offset=7)∧(f8.type=kj∧f8.offset=8)∧(f9.type=EP∧f9.offset=9)∧(f10.type=ou∧f10.offset=10):=
 ⟨_,_,_,_,_,_,_,_,_,_,_,(by kernel_rfl:Tryz.prog.underlying bN=some (.struct #[{name:= "Err",pkgPath:= "",type:=tM,tag:= "",embedded:=false,offset:=0,byteOffset:=0},{name:= "ID",pkgPath:= "",type:=mE,tag:= "",embedded:=false,offset:=1,byteOffset:=8},{name:= "Session",pkgPath:= "",type:=tLq,tag:= "",embedded:=false,offset:=2,byteOffset:=16},{name:= "Value",pkgPath:= "",type:=cN,tag:= "",embedded:=false,offset:=3,byteOffset:=24},{name:= "Is",pkgPath:= "",type:=lF,tag:= "",embedded:=false,offset:=4,byteOffset:=40},{name:= "Count",pkgPath:= "",type:=tLq,tag:= "",embedded:=false,offset:=5,byteOffset:=48},{name:= "Pairs",pkgPath:= "",type:=dY,tag:= "",embedded:=false,offset:=6,byteOffset:=56},{name:= "Changes",pkgPath:= "",type:=ny,tag:= "",embedded:=false,offset:=7,byteOffset:=80},{name:= "Conflicts",pkgPath:= "",type:=kj,tag:= "",embedded:=false,offset:=8,byteOffset:=104},{name:= "IDs",pkgPath:= "",type:=EP,tag:= "",embedded:=false,offset:=9,byteOffset:=128},{name:= "Names",pkgPath:= "",type:=ou,tag:= "",embedded:=false,offset:=10,byteOffset:=152}])),⟨rfl,rfl⟩,⟨rfl,rfl⟩,⟨rfl,rfl⟩,⟨rfl,rfl⟩,⟨rfl,rfl⟩,⟨rfl,rfl⟩,⟨rfl,rfl⟩,⟨rfl,rfl⟩,⟨rfl,rfl⟩,⟨rfl,rfl⟩,⟨rfl,rfl⟩⟩
theorem T1:Tryz.prog.underlying kj=some (.slice cO):=by kernel_rfl
theorem TZ:Tryz.prog.underlying EP=some (.slice mE):=by kernel_rfl
theorem T0:Tryz.prog.underlying ou=some (.slice kh):=by kernel_rfl
theorem WD:Tryz.prog.underlying tM=some (.int .i64):=by kernel_rfl
theorem Oi:Tryz.prog.cellsOf fA=2:=by kernel_rfl
theorem Wb:Tryz.prog.cellsOf cO=7:=by kernel_rfl
theorem Wa:Tryz.prog.cellsOf kh=2:=by kernel_rfl
theorem Yf:Tryz.prog.cellsOf bN=11:=by kernel_rfl
theorem Xf:Tryz.prog.cellsOf tM=1:=by kernel_rfl
theorem UW:Tryz.prog.cellsOf kj=1:=by kernel_rfl
theorem UU:Tryz.prog.cellsOf EP=1:=by kernel_rfl
theorem UV:Tryz.prog.cellsOf ou=1:=by kernel_rfl
section
variable {H:Type}
theorem Dd{d:DataW H}{l:List (DataW H)}(h:d∈l):Rows.uptoBulk d≤Rows.uptoBulkAll l:=by
 induction l with
 |nil=>cases h
 |cons x r ih=>
  simp only[Rows.uptoBulkAll];cases List.mem_cons.1 h with
  |inl e=>subst e;omega
  |inr e=>have:=ih e;omega
end
section
variable {H:Type} {enc:TypeId×Value→H} {w:World} {sp:Nat→Bool} {held:Bool}
set_option maxRecDepth 100000 in
theorem CY{c:Nat}{a:List Value}{y:DataW H×List MemPlace}(x:a.length=2)(t:DataW.trod enc Tryz.prog w 0 sp held c fA a=some y):∃p:Sd,a= [.string p.1,.bool p.2]:=by
 obtain⟨o,m,k,⟨q,j⟩,⟨v,u⟩⟩:=VA;obtain⟨xs,n,rfl,_,_,b,g⟩:=DataW.trod_struct k t;have b:xs.length=2:=b;match a,x with
 | [v0,v1],_=>
 have f:=g 0 o rfl;have d:=g 1 m rfl;rw[q,j,BK,ag (by omega)]at f;rw[v,u,Kh,ag (by omega)]at d;obtain⟨i,e,_⟩:=DataW.trod_string A8 f;obtain⟨s,e1,_⟩:=DataW.trod_bool Fi d;simp only[cM,dG,iu,dZ,sx.injEq,and_true]at e e1;subst e e1;exact⟨(i,s),rfl⟩
set_option maxRecDepth 100000 in
theorem P3{d:Nat}{a:List Value}{y:DataW H×List MemPlace}(C:a.length=7)(B:DataW.trod enc Tryz.prog w 0 sp held d cO a=some y):∃c:Cf,a=Mj c:=by
 obtain⟨A,p,o,K,z,⟨G,E⟩,⟨u,t⟩,⟨v,I⟩,⟨s,D⟩⟩:=VC;obtain⟨xs,n,rfl,_,_,b,e⟩:=DataW.trod_struct z B;have b:xs.length=4:=b;match a,C with
 | [v0,v1,v2,v3,v4,v5,v6],_=>
 have g:=e 0 A rfl;have j:=e 1 p rfl;have m:=e 2 o rfl;have i:=e 3 K rfl;rw[G,E,BK,ag (by omega)]at g;rw[u,t,Oi,ag (by omega)]at j;rw[v,I,Oi,ag (by omega)]at m;rw[s,D,Oi,ag (by omega)]at i;obtain⟨x,k,_⟩:=DataW.trod_string A8 g;obtain⟨J,e1⟩:=CY rfl j;obtain⟨q,e2⟩:=CY rfl m
 obtain⟨F,f⟩:=CY rfl i;simp only[cM,dG,iu,dZ,sx.injEq,and_true]at k e1 e2 f;obtain⟨rfl,rfl⟩:=e1;obtain⟨rfl,rfl⟩:=e2;obtain⟨rfl,rfl⟩:=f;subst k;exact⟨(x,J,q,F),rfl⟩
set_option maxRecDepth 100000 in
theorem P2{d:Nat}{a:List Value}{y:DataW H×List MemPlace}(x:a.length=2)(z:DataW.trod enc Tryz.prog w 0 sp held d kh a=some y):∃n:Vn,a=Rh n∧n.1.size+1≤Rows.uptoBulk y.1∧0≤n.2∧n.2<4294967296:=by
 obtain⟨v,o,u,⟨B,A⟩,⟨q,p⟩⟩:=VB;obtain⟨xs,n,rfl,hx,_,c,m⟩:=DataW.trod_struct u z;have c:xs.length=2:=c;match a,x with
 | [v0,v1],_=>
 have i:=m 0 v rfl;have j:=m 1 o rfl;rw[B,A,BK,ag (by omega)]at i;rw[q,p,Oh,ag (by omega)]at j;obtain⟨b,k,C,_⟩:=DataW.trod_string A8 i;obtain⟨e,e1,_,s⟩:=DataW.trod_int M2 j;have b1:0≤e∧e≤4294967295:=sr s;simp only[cM,dG,iu,dZ,sx.injEq,and_true]at k e1
 subst k e1;refine⟨(b,e),rfl,?_,b1.1,by have:=b1.2;show e<_;omega⟩
 have g:=Dd (List.mem_map_of_mem (f:=ph) (bp (l:=xs) (n:=0) (by omega)));rw[C]at g;rw[hx];have D:Rows.uptoBulk (DataW.lit (H:=H) (.string b.data.toList))=b.data.toList.length+1:=by simp[Rows.uptoBulk]
 have t:Rows.uptoBulk (DataW.agg (xs.map ph))=Rows.uptoBulkAll (xs.map ph)+1:=by simp only[Rows.uptoBulk]
 have:=ox b;show b.size+1≤Rows.uptoBulk (DataW.agg (xs.map ph))
 have g:Rows.uptoBulk (DataW.lit (H:=H) (.string b.data.toList))≤Rows.uptoBulkAll (xs.map ph):=g;omega
set_option maxRecDepth 100000 in
set_option maxHeartbeats 1000000 in
theorem We{b0:Nat}{v:Value}{d:DataW H}{p:List MemPlace}(B:Value.okWide Tryz.prog w .any b0 bN v)(h:DataW.Trod enc Tryz.prog w 0 sp held bN v d p)(m:Rows.uptoBulk d≤1048576):
  ∃(D:AnsD) (q s G t k:SliceV),v=vy (lP D q s G t k)∧(0≤D.id∧D.id<4294967296)∧D.ps.length≤9223372036854775807∧D.cs.length≤9223372036854775807∧D.cf.length≤9223372036854775807∧D.se≤9223372036854775807∧D.ct≤9223372036854775807∧(∀x∈D.ids,0≤x∧x<4294967296)∧(∀n∈D.ns,n.1.size≤1048576∧0≤n.2∧n.2<4294967296)∧t.len≤t.cap∧k.len≤k.cap∧AnsAt w.heap D q s G t k:=by
 obtain⟨f0,f1,f2,f3,f4,f5,f6,f7,f8,f9,O,hu,⟨t0,o0⟩,⟨t1,o1⟩,⟨t2,o2⟩,⟨t3,o3⟩,⟨t4,o4⟩,⟨t5,o5⟩,⟨t6,o6⟩,⟨t7,o7⟩,⟨t8,o8⟩,⟨t9,o9⟩,⟨V,S⟩⟩:=XF;obtain⟨cs,rfl,F⟩:=okWide_struct hu B;rw[Yf]at F;obtain⟨b,c⟩:=h;obtain⟨xs,n,rfl,hx,_,C,c⟩:=DataW.trod_struct hu c;have C:xs.length=11:=C;have P:d=DataW.agg (xs.map ph):=congrArg ph hx;have U:Rows.uptoBulk (DataW.agg (xs.map ph))=Rows.uptoBulkAll (xs.map ph)+1:=by simp only[Rows.uptoBulk]
 rw[P,U]at m;obtain⟨l,rfl⟩:∃l:List Value,cs=l.toArray:=⟨cs.toList,rfl⟩;match l,F with
 | [v0,v1,v2,v3,v4,v5,v6,v7,v8,v9,v10],_=>
 have I:=c 0 f0 rfl;have g1:=c 1 f1 rfl;have Y:=c 2 f2 rfl;have J:=c 3 f3 rfl;have g4:=c 4 f4 rfl;have g5:=c 5 f5 rfl;have X:=c 6 f6 rfl;have g7:=c 7 f7 rfl;have L:=c 8 f8 rfl;have g9:=c 9 f9 rfl;have o:=c 10 O rfl;rw[t0,o0,Xf,ag (by omega)]at I;rw[t1,o1,Oh,ag (by omega)]at g1;rw[t2,o2,Ti,ag (by omega)]at Y
 rw[t3,o3,BK,ag (by omega)]at J;rw[t4,o4,Kh,ag (by omega)]at g4;rw[t5,o5,Ti,ag (by omega)]at g5;rw[t6,o6,V9,ag (by omega)]at X;rw[t7,o7,Wc,ag (by omega)]at g7;rw[t8,o8,UW,ag (by omega)]at L;rw[t9,o9,UU,ag (by omega)]at g9
 rw[V,S,UV,ag (by omega)]at o;simp only[Value.cells,cM,dG,iu,dZ]at I g1 Y J g4 g5 X g7 L g9 o;obtain⟨T,e0,_,w0⟩:=DataW.trod_int WD I;have b0: -9223372036854775808≤T∧T≤9223372036854775807:=sr w0;obtain⟨q,e1,_,w1⟩:=DataW.trod_int M2 g1;have b1:0≤q∧q≤4294967295:=sr w1;obtain⟨s,e2,_,w2⟩:=DataW.trod_int M3 Y
 have b2: -9223372036854775808≤s∧s≤9223372036854775807:=sr w2;obtain⟨G,e3,_⟩:=DataW.trod_string A8 J;obtain⟨t,e4,_⟩:=DataW.trod_bool Fi g4;obtain⟨k,e5,_,w5⟩:=DataW.trod_int M3 g5;have b5: -9223372036854775808≤k∧k≤9223372036854775807:=sr w5;obtain⟨q6,l6,e6,k6,m6,a6,_⟩:=EO WC X kK Yd ko (fun _=>True) fun b a y j i=>by
  obtain⟨p,e⟩:=Up j i;exact⟨p,e,trivial⟩
 obtain⟨q7,l7,e7,k7,m7,a7,_⟩:=EO WE g7 zD Ye Da (fun _=>True) fun b a y j i=>by
  obtain⟨p,e⟩:=Uq j i;exact⟨p,e,trivial⟩
 obtain⟨q8,l8,e8,k8,m8,a8,_⟩:=EO T1 L Mj Wb GA (fun _=>True) fun b a y j i=>by
  obtain⟨p,e⟩:=P3 j i;exact⟨p,e,trivial⟩
 obtain⟨q9,l9,e9,k9,m9,a9,r9⟩:=EO TZ g9 u32 Oh xr (fun p=>0≤p∧p<4294967296) fun b a y j i=>by
  obtain⟨n,rfl,_,K⟩:=DataW.trod_int M2 i;have K:0≤n∧n≤4294967295:=sr K;exact⟨n,rfl,K.1,by omega⟩
 have A:=Dd (List.mem_map_of_mem (f:=ph) (bp (l:=xs) (n:=10) (by omega)));obtain⟨Q,N,E,R,m10,a10,W⟩:=Rn T0 o Rh Wa MX (fun n=>n.1.size≤1048576∧0≤n.2∧n.2<4294967296) fun b a y j hm i=>by
  obtain⟨n,e,hn,hr⟩:=P2 j i;obtain⟨z,g,u,Z⟩:=hm;have c1:=Dd Z;have c2:Rows.uptoBulk (DataW.slice z g)=Rows.uptoBulkAll z+Rows.uptoBulkAll g+1:=by simp only[Rows.uptoBulk]
  rw[u,c2]at A;exact⟨n,e,by omega,hr⟩
 simp only[sx.injEq,and_true]at e0 e1 e2 e3 e4 e5 e6 e7 e8 e9 E;subst e0 e1 e2 e3 e4 e5 e6 e7 e8 e9 E;have n6:=a6.len;have n7:=a7.len;have n8:=a8.len;simp only[maxLen]at m6 m7 m8;exact⟨⟨T,q,s,G,t,k,l6,l7,l8,l9,N⟩,q6,q7,q8,q9,Q,rfl,⟨b1.1,by have:=b1.2;show q<_;omega⟩,by show l6.length≤_;omega,by show l7.length≤_;omega,by show l8.length≤_;omega,b2.2,b5.2,r9,W,k9,R,⟨a6,a7,a8,a9,a10⟩⟩
end
end Go.Proofs.YtopdngagmfanlaaGreatDoor
