/- A part of the proof that the named laws of this program answer true, whatever the input. -/
import Derived.Test.YtncppacbfagpgaaGreatDoorRows
import Derived.Test.YtncppacbfagpgaaGreatDoorPart1
import Derived.Test.YtncppacbfagpgaaGreatDoorPart0
open List renaming getElem?_eq_getElem→af,drop_zero→cW,take_succ_cons→eo,take_zero→sO,drop_succ_cons→iT,cons→ft
namespace Go.Proofs.YtncppacbfagpgaaGreatDoor
open Go Go.Lift Go.Proofs Go.ChangeShapes Go.WideShapes Go.ChangeAt Go.RowKit
theorem Tryz.own:ownKnob Tryz.prog.godebug=none:=by kernel_rfl
theorem Tryz.laidOut:laidOutB Tryz.prog=true:=by kernel_rfl
theorem ack:Tryz.prog.underlying cQ=some (.int .u8):=by kernel_rfl
theorem Xm:Tryz.prog.underlying rF=some (.int .u64):=by kernel_rfl
theorem Xo:Tryz.prog.underlying Iz=some .string:=by kernel_rfl
theorem Xp:Tryz.prog.underlying rG=some .bool:=by kernel_rfl
theorem aaL:Tryz.prog.underlying cr=some (.slice al):=by kernel_rfl
theorem adm:∃f0 f1:Field,Tryz.prog.underlying al=some (.struct #[f0,f1])∧(f0.type=Iz∧f0.offset=0)∧f1.type=Iz∧f1.offset=1:=
 ⟨_,_,(by kernel_rfl:Tryz.prog.underlying al=some (.struct #[{name:= "Key",pkgPath:= "",type:=Iz,tag:= "",embedded:=false,offset:=0,byteOffset:=0},{name:= "Value",pkgPath:= "",type:=Iz,tag:= "",embedded:=false,offset:=1,byteOffset:=16}])),⟨rfl,rfl⟩,rfl,rfl⟩
theorem acl:∃f0 f1:Field,Tryz.prog.underlying nU=some (.struct #[f0,f1])∧(f0.type=rF∧f0.offset=0)∧f1.type=rF∧f1.offset=1:=
 ⟨_,_,(by kernel_rfl:Tryz.prog.underlying nU=some (.struct #[{name:= "K0",pkgPath:= "",type:=rF,tag:= "",embedded:=false,offset:=0,byteOffset:=0},{name:= "K1",pkgPath:= "",type:=rF,tag:= "",embedded:=false,offset:=1,byteOffset:=8}])),⟨rfl,rfl⟩,rfl,rfl⟩
theorem adn:∃f0 f1:Field,Tryz.prog.underlying cA=some (.struct #[f0,f1])∧(f0.type=nU∧f0.offset=0)∧f1.type=rF∧f1.offset=2:=
 ⟨_,_,(by kernel_rfl:Tryz.prog.underlying cA=some (.struct #[{name:= "Key",pkgPath:= "",type:=nU,tag:= "",embedded:=false,offset:=0,byteOffset:=0},{name:= "Mask",pkgPath:= "",type:=rF,tag:= "",embedded:=false,offset:=2,byteOffset:=16}])),⟨rfl,rfl⟩,rfl,rfl⟩
theorem adS:Tryz.prog.cellsOf cQ=1:=by kernel_rfl
theorem YM:Tryz.prog.cellsOf rF=1:=by kernel_rfl
theorem YN:Tryz.prog.cellsOf Iz=1:=by kernel_rfl
theorem adT:Tryz.prog.cellsOf al=2:=by kernel_rfl
theorem ac4:Tryz.prog.cellsOf nU=2:=by kernel_rfl
theorem adU:Tryz.prog.cellsOf cA=3:=by kernel_rfl
theorem Vm{k:IntKind}{n:Int}(h:(Lit.int k n).wf=true):k.min≤n∧n≤k.max:=by
 simpa only[Lit.wf,Bool.and_eq_true,decide_eq_true_iff]using h
section
variable {H:Type} {enc:TypeId×Value→H} {w:World} {sp:Nat→Bool} {held:Bool}
set_option maxRecDepth 100000 in
theorem Z5{fuel:Nat}{a:List Value}{y:DataW H×List MemPlace}(s:a.length=2)(m:DataW.trod enc Tryz.prog w 0 sp held fuel al a=some y):∃p:Pr,a=ey p:=by
 obtain⟨o,k,i,⟨t0,j⟩,t1,u⟩:=adm;obtain⟨xs,n,rfl,_,_,b,c⟩:=DataW.trod_struct i m;have b:xs.length=2:=b;match a,s with
 | [v0,v1],_=>
 have g:=c 0 o rfl;have f:=c 1 k rfl;rw[t0,j,YN,af (by omega)]at g;rw[t1,u,YN,af (by omega)]at f;obtain⟨t,e,_⟩:=DataW.trod_string Xo g;obtain⟨q,d,_⟩:=DataW.trod_string Xo f;simp only[cW,eo,sO,iT,ft.injEq,and_true]at e d;subst e d;exact⟨(t,q),rfl⟩
set_option maxRecDepth 100000 in
theorem Gj{m:Nat}{v:Value}{d:DataW H}{p:List MemPlace}(b:Value.okWide Tryz.prog w .any m cr v)(h:DataW.Trod enc Tryz.prog w 0 sp held cr v d p):
  ∃(s:SliceV) (l:List Pr),v=.slice s.a s.len s.cap∧Sl ey 2 No w.heap s l∧l.length≤9223372036854775807∧s.len≤s.cap:=by
 obtain⟨a,o,c,rfl⟩:=okWide_slice aaL b;obtain⟨fuel,j⟩:=h;obtain⟨s,xs,g,h2,hm,i,_⟩:=Uh aaL j ey adT fU (fun _=>True) fun fuel f y k n=>by
  obtain⟨p,e⟩:=Z5 k n;exact⟨p,e,trivial⟩
 simp only[Value.cells,ft.injEq,and_true]at g;have:=i.len;simp only[maxLen]at hm;exact⟨s,xs,g,i,by omega,h2⟩
set_option maxRecDepth 100000 in
theorem ab3{z:Nat}{v:Value}{d:DataW H}{p:List MemPlace}(b:Value.okWide Tryz.prog w .any z cA v)(h:DataW.Trod enc Tryz.prog w 0 sp held cA v d p):
  ∃x:Hs,v=.agg #[.int .u64 x.k0,.int .u64 x.k1,.int .u64 x.mask]:=by
 obtain⟨C,E,k,⟨t0,u⟩,t1,G⟩:=adn;obtain⟨cs,rfl,e⟩:=okWide_struct k b;rw[adU]at e;obtain⟨fuel,f⟩:=h;obtain⟨xs,n,rfl,_,_,a,f⟩:=DataW.trod_struct k f;have a:xs.length=2:=a;obtain⟨l,rfl⟩:∃l:List Value,cs=l.toArray:=⟨cs.toList,rfl⟩;match l,e with
 | [v0,v1,v2],_=>
 have g:=f 0 C rfl;have j:=f 1 E rfl;rw[t0,u,ac4,af (by omega)]at g;rw[t1,G,YM,af (by omega)]at j;simp only[Value.cells,cW,eo,sO,iT]at g j;obtain⟨D,A,i,⟨r0,y⟩,r1,F⟩:=acl;obtain⟨ys,t,rfl,_,_,c,m⟩:=DataW.trod_struct i g;have c:ys.length=2:=c;have k0:=m 0 D rfl;have k1:=m 1 A rfl
 rw[r0,y,YM,af (by omega)]at k0;rw[r1,F,YM,af (by omega)]at k1;obtain⟨n0,s,_⟩:=DataW.trod_int Xm k0;obtain⟨B,o,_⟩:=DataW.trod_int Xm k1;obtain⟨t,q,_⟩:=DataW.trod_int Xm j;simp only[cW,eo,sO,iT,ft.injEq,and_true]at s o q;subst s o q;exact⟨⟨n0,B,t⟩,rfl⟩
set_option maxRecDepth 100000 in
theorem ab2{b:Nat}{v:Value}{d:DataW H}{p:List MemPlace}(a:Value.okWide Tryz.prog w .any b cQ v)(h:DataW.Trod enc Tryz.prog w 0 sp held cQ v d p):
  ∃n:Int,v=.int .u8 n∧0≤n∧n≤255:=by
 obtain⟨n,e,_,_,c⟩:=open_int ack a h;exact⟨n,e,Vm c⟩
set_option maxRecDepth 100000 in
theorem YU{c:Nat}{v:Value}{d:DataW H}{p:List MemPlace}(a:Value.okWide Tryz.prog w .any c rG v)(_:DataW.Trod enc Tryz.prog w 0 sp held rG v d p):∃b:Bool,v=.bool b:=okWide_bool Xp a
end
end Go.Proofs.YtncppacbfagpgaaGreatDoor
