/- A part of the proof that the named laws of this program answer true, whatever the input. -/
import Derived.Test.YtajpljopgikpgaaGreatRows
import Derived.Test.YtajpljopgikpgaaGreatPart0
open List renaming getElem?_eq_getElem→aj,drop_zero→cF,take_succ_cons→fz,take_zero→nO,drop_succ_cons→gp,cons→gx
namespace Go.Proofs.YtajpljopgikpgaaGreat
open Go Go.Lift Go.Proofs Go.ChangeShapes Go.WideShapes Go.ChangeAt Go.RowKit
theorem Tryz.own:ownKnob Tryz.prog.godebug=none:=by kernel_rfl
theorem Tryz.laidOut:laidOutB Tryz.prog=true:=by kernel_rfl
theorem LB:Tryz.prog.underlying dx=some (.int .u8):=by kernel_rfl
theorem GY:Tryz.prog.underlying wi=some (.int .u64):=by kernel_rfl
theorem Jy:Tryz.prog.underlying xQ=some .string:=by kernel_rfl
theorem JS:Tryz.prog.underlying pX=some .bool:=by kernel_rfl
theorem Jz:Tryz.prog.underlying cH=some (.slice al):=by kernel_rfl
theorem LC:∃f0 f1:Field,Tryz.prog.underlying al=some (.struct #[f0,f1])∧(f0.type=xQ∧f0.offset=0)∧f1.type=xQ∧f1.offset=1:=
 ⟨_,_,(by kernel_rfl:Tryz.prog.underlying al=some (.struct #[{name:= "Key",pkgPath:= "",type:=xQ,tag:= "",embedded:=false,offset:=0,byteOffset:=0},{name:= "Value",pkgPath:= "",type:=xQ,tag:= "",embedded:=false,offset:=1,byteOffset:=16}])),⟨rfl,rfl⟩,rfl,rfl⟩
theorem K6:∃f0 f1:Field,Tryz.prog.underlying hJ=some (.struct #[f0,f1])∧(f0.type=wi∧f0.offset=0)∧f1.type=wi∧f1.offset=1:=
 ⟨_,_,(by kernel_rfl:Tryz.prog.underlying hJ=some (.struct #[{name:= "K0",pkgPath:= "",type:=wi,tag:= "",embedded:=false,offset:=0,byteOffset:=0},{name:= "K1",pkgPath:= "",type:=wi,tag:= "",embedded:=false,offset:=1,byteOffset:=8}])),⟨rfl,rfl⟩,rfl,rfl⟩
theorem LD:∃f0 f1:Field,Tryz.prog.underlying cB=some (.struct #[f0,f1])∧(f0.type=hJ∧f0.offset=0)∧f1.type=wi∧f1.offset=2:=
 ⟨_,_,(by kernel_rfl:Tryz.prog.underlying cB=some (.struct #[{name:= "Key",pkgPath:= "",type:=hJ,tag:= "",embedded:=false,offset:=0,byteOffset:=0},{name:= "Mask",pkgPath:= "",type:=wi,tag:= "",embedded:=false,offset:=2,byteOffset:=16}])),⟨rfl,rfl⟩,rfl,rfl⟩
theorem Ie:Tryz.prog.cellsOf wi=1:=by kernel_rfl
theorem JJ:Tryz.prog.cellsOf xQ=1:=by kernel_rfl
theorem L0:Tryz.prog.cellsOf al=2:=by kernel_rfl
theorem Lq:Tryz.prog.cellsOf hJ=2:=by kernel_rfl
theorem L1:Tryz.prog.cellsOf cB=3:=by kernel_rfl
theorem FJ{k:IntKind}{n:Int}(h:(Lit.int k n).wf=true):k.min≤n∧n≤k.max:=by
 simpa only[Lit.wf,Bool.and_eq_true,decide_eq_true_iff]using h
section
variable {H:Type} {enc:TypeId×Value→H} {w:World} {sp:Nat→Bool} {held:Bool}
set_option maxRecDepth 100000 in
theorem I7{fuel:Nat}{a:List Value}{y:DataW H×List MemPlace}(s:a.length=2)(i:DataW.trod enc Tryz.prog w 0 sp held fuel al a=some y):∃p:Pr,a=gz p:=by
 obtain⟨t,o,u,⟨q,j⟩,m,o1⟩:=LC;obtain⟨xs,n,rfl,_,_,b,d⟩:=DataW.trod_struct u i;have b:xs.length=2:=b;match a,s with
 | [v0,v1],_=>
 have c:=d 0 t rfl;have f:=d 1 o rfl;rw[q,j,JJ,aj (by omega)]at c;rw[m,o1,JJ,aj (by omega)]at f;obtain⟨s0,g,_⟩:=DataW.trod_string Jy c;obtain⟨k,e,_⟩:=DataW.trod_string Jy f;simp only[cF,fz,nO,gp,gx.injEq,and_true]at g e;subst g e;exact⟨(s0,k),rfl⟩
set_option maxRecDepth 100000 in
theorem vJ{k:Nat}{v:Value}{d:DataW H}{p:List MemPlace}(b:Value.okWide Tryz.prog w .any k cH v)(h:DataW.Trod enc Tryz.prog w 0 sp held cH v d p):
  ∃(s:SliceV) (l:List Pr),v=.slice s.a s.len s.cap∧Sl gz 2 No w.heap s l∧l.length≤9223372036854775807∧s.len≤s.cap:=by
 obtain⟨a,q,c,rfl⟩:=okWide_slice Jz b;obtain⟨fuel,m⟩:=h;obtain⟨s,xs,g,o,hm,i,_⟩:=IK Jz m gz L0 iI (fun _=>True) fun fuel f y n j=>by
  obtain⟨p,e⟩:=I7 n j;exact⟨p,e,trivial⟩
 simp only[Value.cells,gx.injEq,and_true]at g;have:=i.len;simp only[maxLen]at hm;exact⟨s,xs,g,i,by omega,o⟩
set_option maxRecDepth 100000 in
theorem KI{G:Nat}{v:Value}{d:DataW H}{p:List MemPlace}(a:Value.okWide Tryz.prog w .any G cB v)(h:DataW.Trod enc Tryz.prog w 0 sp held cB v d p):
  ∃x:Hs,v=.agg #[.int .u64 x.k0,.int .u64 x.k1,.int .u64 x.mask]:=by
 obtain⟨K,u,m,⟨J,C⟩,D,o1⟩:=LD;obtain⟨cs,rfl,b⟩:=okWide_struct m a;rw[L1]at b;obtain⟨fuel,f⟩:=h;obtain⟨xs,n,rfl,_,_,c,f⟩:=DataW.trod_struct m f;have c:xs.length=2:=c;obtain⟨l,rfl⟩:∃l:List Value,cs=l.toArray:=⟨cs.toList,rfl⟩;match l,b with
 | [v0,v1,v2],_=>
 have g:=f 0 K rfl;have j:=f 1 u rfl;rw[J,C,Lq,aj (by omega)]at g;rw[D,o1,Ie,aj (by omega)]at j;simp only[Value.cells,cF,fz,nO,gp]at g j;obtain⟨z,L,i,⟨I,A⟩,E,F⟩:=K6;obtain⟨ys,t,rfl,_,_,e,q⟩:=DataW.trod_struct i g;have e:ys.length=2:=e;have k0:=q 0 z rfl;have k1:=q 1 L rfl
 rw[I,A,Ie,aj (by omega)]at k0;rw[E,F,Ie,aj (by omega)]at k1;obtain⟨B,o,_⟩:=DataW.trod_int GY k0;obtain⟨y,k,_⟩:=DataW.trod_int GY k1;obtain⟨t,s,_⟩:=DataW.trod_int GY j;simp only[cF,fz,nO,gp,gx.injEq,and_true]at o k s;subst o k s;exact⟨⟨B,y,t⟩,rfl⟩
set_option maxRecDepth 100000 in
theorem KH{c:Nat}{v:Value}{d:DataW H}{p:List MemPlace}(a:Value.okWide Tryz.prog w .any c dx v)(h:DataW.Trod enc Tryz.prog w 0 sp held dx v d p):
  ∃n:Int,v=.int .u8 n∧0≤n∧n≤255:=by
 obtain⟨n,e,_,_,b⟩:=open_int LB a h;exact⟨n,e,FJ b⟩
end
end Go.Proofs.YtajpljopgikpgaaGreat
