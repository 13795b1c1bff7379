/- A part of the proof that the named laws of this program answer true, whatever the input. -/
import Derived.Test.YtakmnggbneeicaaGreatRows
import Derived.Test.YtakmnggbneeicaaGreatPart0
open List renaming getElem?_eq_getElem→af,drop_zero→cE,take_succ_cons→fu,take_zero→lJ,drop_succ_cons→d8,cons→nU
namespace Go.Proofs.YtakmnggbneeicaaGreat
open Go Go.Lift Go.Proofs Go.ChangeShapes Go.WideShapes Go.ChangeAt Go.RowKit
theorem Tryz.own:ownKnob Tryz.prog.godebug=none:=by kernel_rfl
theorem Tryz.laidOut:laidOutB Tryz.prog=true:=by kernel_rfl
theorem Us:Tryz.prog.underlying 5=some (.int .u8):=by kernel_rfl
theorem RJ:Tryz.prog.underlying 22=some (.int .u64):=by kernel_rfl
theorem OW:Tryz.prog.underlying 9=some .string:=by kernel_rfl
theorem RL:Tryz.prog.underlying 4=some .bool:=by kernel_rfl
theorem Yf:∃f0 f1:Field,Tryz.prog.underlying 33=some (.struct #[f0,f1])∧(f0.type=9∧f0.offset=0)∧f1.type=9∧f1.offset=1:=
 ⟨_,_,(by kernel_rfl:Tryz.prog.underlying 33=some (.struct #[{name:= "Key",pkgPath:= "",type:=9,tag:= "",embedded:=false,offset:=0,byteOffset:=0},{name:= "Value",pkgPath:= "",type:=9,tag:= "",embedded:=false,offset:=1,byteOffset:=16}])),⟨rfl,rfl⟩,rfl,rfl⟩
theorem W8:∃f0 f1:Field,Tryz.prog.underlying 24=some (.struct #[f0,f1])∧(f0.type=22∧f0.offset=0)∧f1.type=22∧f1.offset=1:=
 ⟨_,_,(by kernel_rfl:Tryz.prog.underlying 24=some (.struct #[{name:= "K0",pkgPath:= "",type:=22,tag:= "",embedded:=false,offset:=0,byteOffset:=0},{name:= "K1",pkgPath:= "",type:=22,tag:= "",embedded:=false,offset:=1,byteOffset:=8}])),⟨rfl,rfl⟩,rfl,rfl⟩
theorem Yg:∃f0 f1:Field,Tryz.prog.underlying 26=some (.struct #[f0,f1])∧(f0.type=24∧f0.offset=0)∧f1.type=22∧f1.offset=2:=
 ⟨_,_,(by kernel_rfl:Tryz.prog.underlying 26=some (.struct #[{name:= "Key",pkgPath:= "",type:=24,tag:= "",embedded:=false,offset:=0,byteOffset:=0},{name:= "Mask",pkgPath:= "",type:=22,tag:= "",embedded:=false,offset:=2,byteOffset:=16}])),⟨rfl,rfl⟩,rfl,rfl⟩
theorem WD:Tryz.prog.cellsOf 5=1:=by kernel_rfl
theorem Tx:Tryz.prog.cellsOf 22=1:=by kernel_rfl
theorem PO:Tryz.prog.cellsOf 9=1:=by kernel_rfl
theorem YN:Tryz.prog.cellsOf 33=2:=by kernel_rfl
theorem XW:Tryz.prog.cellsOf 24=2:=by kernel_rfl
theorem YO:Tryz.prog.cellsOf 26=3:=by kernel_rfl
theorem BE{k:IntKind}{n:Int}(h:(Lit.int k n).wf=true):k.min≤n∧n≤k.max:=by
 simpa only[Lit.wf,Bool.and_eq_true,decide_eq_true_iff]using h
section
variable {H:Type} {enc:TypeId×Value→H} {w:World} {sp:Nat→Bool} {held:Bool}
set_option maxRecDepth 100000 in
theorem UL{b:Nat}{a:List Value}{y:DataW H×List MemPlace}(t:a.length=2)(m:DataW.trod enc Tryz.prog w 0 sp held b 33 a=some y):∃p:Pr,a=dQ p:=by
 obtain⟨j,f1,x,⟨k,q⟩,s,v⟩:=Yf;obtain⟨xs,n,rfl,_,_,c,f⟩:=DataW.trod_struct x m;have c:xs.length=2:=c;match a,t with
 | [v0,v1],_=>
 have e:=f 0 j rfl;have g:=f 1 f1 rfl;rw[k,q,PO,af (by omega)]at e;rw[s,v,PO,af (by omega)]at g;obtain⟨o,i,_⟩:=DataW.trod_string OW e;obtain⟨u,d,_⟩:=DataW.trod_string OW g;simp only[cE,fu,lJ,d8,nU.injEq,and_true]at i d;subst i d;exact⟨(o,u),rfl⟩
set_option maxRecDepth 100000 in
theorem WI{I:Nat}{v:Value}{d:DataW H}{p:List MemPlace}(a:Value.okWide Tryz.prog w .any I 26 v)(h:DataW.Trod enc Tryz.prog w 0 sp held 26 v d p):
  ∃x:Hs,v=.agg #[.int .u64 x.k0,.int .u64 x.k1,.int .u64 x.mask]:=by
 obtain⟨B,f1,u,⟨G,D⟩,z,L⟩:=Yg;obtain⟨cs,rfl,b⟩:=okWide_struct u a;rw[YO]at b;obtain⟨k,f⟩:=h;obtain⟨xs,n,rfl,_,_,e,f⟩:=DataW.trod_struct u f;have e:xs.length=2:=e;obtain⟨l,rfl⟩:∃l:List Value,cs=l.toArray:=⟨cs.toList,rfl⟩;match l,b with
 | [v0,v1,v2],_=>
 have g:=f 0 B rfl;have i:=f 1 f1 rfl;rw[G,D,XW,af (by omega)]at g;rw[z,L,Tx,af (by omega)]at i;simp only[Value.cells,cE,fu,lJ,d8]at g i;obtain⟨K,A,j,⟨F,C⟩,J,y⟩:=W8;obtain⟨ys,s,rfl,_,_,c,m⟩:=DataW.trod_struct j g;have c:ys.length=2:=c;have k0:=m 0 K rfl;have k1:=m 1 A rfl
 rw[F,C,Tx,af (by omega)]at k0;rw[J,y,Tx,af (by omega)]at k1;obtain⟨n0,t,_⟩:=DataW.trod_int RJ k0;obtain⟨E,q,_⟩:=DataW.trod_int RJ k1;obtain⟨s,o,_⟩:=DataW.trod_int RJ i;simp only[cE,fu,lJ,d8,nU.injEq,and_true]at t q o;subst t q o;exact⟨⟨n0,E,s⟩,rfl⟩
set_option maxRecDepth 100000 in
theorem WH{b:Nat}{v:Value}{d:DataW H}{p:List MemPlace}(a:Value.okWide Tryz.prog w .any b 5 v)(h:DataW.Trod enc Tryz.prog w 0 sp held 5 v d p):
  ∃n:Int,v=.int .u8 n∧0≤n∧n≤255:=by
 obtain⟨n,e,_,_,c⟩:=open_int Us a h;exact⟨n,e,BE c⟩
end
end Go.Proofs.YtakmnggbneeicaaGreat
