/- A part of the proof that the named laws of this program answer true, whatever the input. -/
import Derived.Test.YtakmnggbneeicaaGreatDoorRows
import Derived.Test.YtakmnggbneeicaaGreatDoorPart0
open List renaming getElem?_eq_getElem->af,drop_zero->cH,take_succ_cons->gf,take_zero->nh,drop_succ_cons->eS,cons->gi
namespace Go.Proofs.YtakmnggbneeicaaGreatDoor
open Go Go.Lift Go.Proofs Go.ChangeShapes Go.WideShapes Go.ChangeAt Go.RowKit
theorem Tryz.own:ownKnob Tryz.prog.godebug=none:=a5
theorem Tryz.laidOut:laidOutB Tryz.prog=true:=a5
theorem Vb:Tryz.prog.underlying 5=some (.int .u8):=a5
theorem Vc:Tryz.prog.underlying 22=some (.int .u64):=a5
theorem RR:Tryz.prog.underlying 9=some .string:=a5
theorem Vd:Tryz.prog.underlying 4=some .bool:=a5
theorem abB:∃f0 f1:Field,Tryz.prog.underlying 35=some (.struct #[f0,f1])/\(f0.type=9/\f0.offset=0)/\f1.type=9/\f1.offset=1:=
 ⟨_,_,(by kernel_rfl:Tryz.prog.underlying 35=some (.struct #[{name:= "Key",pkgPath:= "",type:=9,tag:= "",embedded:=false,offset:=0,byteOffset:=0},{name:= "Value",pkgPath:= "",type:=9,tag:= "",embedded:=false,offset:=1,byteOffset:=16}])),⟨rfl,rfl⟩,rfl,rfl⟩
theorem aat:∃f0 f1:Field,Tryz.prog.underlying 24=some (.struct #[f0,f1])/\(f0.type=22/\f0.offset=0)/\f1.type=22/\f1.offset=1:=
 ⟨_,_,(by kernel_rfl:Tryz.prog.underlying 24=some (.struct #[{name:= "K0",pkgPath:= "",type:=22,tag:= "",embedded:=false,offset:=0,byteOffset:=0},{name:= "K1",pkgPath:= "",type:=22,tag:= "",embedded:=false,offset:=1,byteOffset:=8}])),⟨rfl,rfl⟩,rfl,rfl⟩
theorem abC:∃f0 f1:Field,Tryz.prog.underlying 26=some (.struct #[f0,f1])/\(f0.type=24/\f0.offset=0)/\f1.type=22/\f1.offset=2:=
 ⟨_,_,(by kernel_rfl:Tryz.prog.underlying 26=some (.struct #[{name:= "Key",pkgPath:= "",type:=24,tag:= "",embedded:=false,offset:=0,byteOffset:=0},{name:= "Mask",pkgPath:= "",type:=22,tag:= "",embedded:=false,offset:=2,byteOffset:=16}])),⟨rfl,rfl⟩,rfl,rfl⟩
theorem YD:Tryz.prog.cellsOf 5=1:=a5
theorem WS:Tryz.prog.cellsOf 22=1:=a5
theorem S0:Tryz.prog.cellsOf 9=1:=a5
theorem ab8:Tryz.prog.cellsOf 35=2:=a5
theorem abh:Tryz.prog.cellsOf 24=2:=a5
theorem ab9:Tryz.prog.cellsOf 26=3:=a5
theorem DH{k:IntKind}{n:Int}(h:(Lit.int k n).wf=true):k.min<=n/\n<=k.max:=by
 simpa only[Lit.wf,Bool.and_eq_true,decide_eq_true_iff]using h
section
variable {H:Type} {enc:TypeId×Value->H} {w:World} {sp:Nat->Bool} {held:Bool}
set_option maxRecDepth 100000 in
theorem X4{fuel:Nat}{a:c5}{y:DataW H×List MemPlace}(j:a.length=2)(u:DataW.trod enc Tryz.prog w 0 sp held fuel 35 a=some y):∃p:Pr,a=dZ p:=by
 obtain⟨o,f1,s,⟨q,m⟩,v,k⟩:=abB;obtain⟨xs,n,rfl,_,_,b,e⟩:=DataW.trod_struct s u;have b:xs.length=2:=b;match a,j with
 | [v0,v1],_=>
 have f:=e 0 o rfl;have d:=e 1 f1 rfl;rw[q,m,S0,af a4]at f;rw[v,k,S0,af a4]at d;obtain⟨i,c,_⟩:=DataW.trod_string RR f;obtain⟨t,g,_⟩:=DataW.trod_string RR d;simp only[cH,gf,nh,eS,gi.injEq,and_true]at c g;subst c g;exact⟨(i,t),rfl⟩
set_option maxRecDepth 100000 in
theorem Z0{A:Nat}{v:Value}{d:DataW H}{p:List MemPlace}(e:Value.okWide Tryz.prog w .any A 26 v)(h:DataW.Trod enc Tryz.prog w 0 sp held 26 v d p):
  ∃x:Hs,v=.agg #[.int .u64 x.k0,.int .u64 x.k1,.int .u64 x.mask]:=by
 obtain⟨D,f1,m,⟨J,G⟩,z,F⟩:=abC;obtain⟨cs,rfl,b⟩:=okWide_struct m e;rw[ab9]at b;obtain⟨fuel,f⟩:=h;obtain⟨xs,n,rfl,_,_,a,f⟩:=DataW.trod_struct m f;have a:xs.length=2:=a;obtain⟨l,rfl⟩:∃l:c5,cs=l.toArray:=⟨cs.toList,rfl⟩;match l,b with
 | [v0,v1,v2],_=>
 have i:=f 0 D rfl;have g:=f 1 f1 rfl;rw[J,G,abh,af a4]at i;rw[z,F,WS,af a4]at g;simp only[Value.cells,cH,gf,nh,eS]at i g;obtain⟨u,B,j,⟨y,I⟩,E,K⟩:=aat;obtain⟨ys,q,rfl,_,_,c,o⟩:=DataW.trod_struct j i;have c:ys.length=2:=c;have k0:=o 0 u rfl;have k1:=o 1 B rfl
 rw[y,I,WS,af a4]at k0;rw[E,K,WS,af a4]at k1;obtain⟨n0,k,_⟩:=DataW.trod_int Vc k0;obtain⟨C,t,_⟩:=DataW.trod_int Vc k1;obtain⟨q,s,_⟩:=DataW.trod_int Vc g;simp only[cH,gf,nh,eS,gi.injEq,and_true]at k t s;subst k t s;exact⟨⟨n0,C,q⟩,rfl⟩
set_option maxRecDepth 100000 in
theorem ZZ{b:Nat}{v:Value}{d:DataW H}{p:List MemPlace}(a:Value.okWide Tryz.prog w .any b 5 v)(h:DataW.Trod enc Tryz.prog w 0 sp held 5 v d p):
  ∃n:Int,v=.int .u8 n/\0<=n/\n<=255:=by
 obtain⟨n,e,_,_,c⟩:=open_int Vb a h;exact⟨n,e,DH c⟩
end
end Go.Proofs.YtakmnggbneeicaaGreatDoor
