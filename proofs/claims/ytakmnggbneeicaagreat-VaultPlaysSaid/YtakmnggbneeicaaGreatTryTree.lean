/- A part of the proof that the named laws of this program answer true, whatever the input. -/
import Derived.Test.YtakmnggbneeicaaGreatRows
import Derived.Test.YtakmnggbneeicaaGreatPart0
open List renaming getElem?_eq_getElem->af,drop_zero->cP,take_succ_cons->dw,take_zero->ns,drop_succ_cons->fC,cons->eB
namespace Go.Proofs.YtakmnggbneeicaaGreat
open Go Go.Lift Go.Proofs Go.ChangeShapes Go.WideShapes Go.ChangeAt Go.RowKit
theorem Tryz.own:ownKnob Tryz.prog.godebug=none:=a5
theorem Tryz.laidOut:laidOutB Tryz.prog=true:=a5
theorem abu:Tryz.prog.underlying 5=some (.int .u8):=a5
theorem WX:Tryz.prog.underlying 22=some (.int .u64):=a5
theorem TM:Tryz.prog.underlying 9=some .string:=a5
theorem WY:Tryz.prog.underlying 4=some .bool:=a5
theorem adO:∃f0 f1:Field,Tryz.prog.underlying 33=some (.struct #[f0,f1])/\(f0.type=9/\f0.offset=0)/\f1.type=9/\f1.offset=1:=
 ⟨_,_,(by kernel_rfl:Tryz.prog.underlying 33=some (.struct #[{name:= "Key",pkgPath:= "",type:=9,tag:= "",embedded:=false,offset:=0,byteOffset:=0},{name:= "Value",pkgPath:= "",type:=9,tag:= "",embedded:=false,offset:=1,byteOffset:=16}])),⟨rfl,rfl⟩,rfl,rfl⟩
theorem acC:∃f0 f1:Field,Tryz.prog.underlying 24=some (.struct #[f0,f1])/\(f0.type=22/\f0.offset=0)/\f1.type=22/\f1.offset=1:=
 ⟨_,_,(by kernel_rfl:Tryz.prog.underlying 24=some (.struct #[{name:= "K0",pkgPath:= "",type:=22,tag:= "",embedded:=false,offset:=0,byteOffset:=0},{name:= "K1",pkgPath:= "",type:=22,tag:= "",embedded:=false,offset:=1,byteOffset:=8}])),⟨rfl,rfl⟩,rfl,rfl⟩
theorem adP:∃f0 f1:Field,Tryz.prog.underlying 26=some (.struct #[f0,f1])/\(f0.type=24/\f0.offset=0)/\f1.type=22/\f1.offset=2:=
 ⟨_,_,(by kernel_rfl:Tryz.prog.underlying 26=some (.struct #[{name:= "Key",pkgPath:= "",type:=24,tag:= "",embedded:=false,offset:=0,byteOffset:=0},{name:= "Mask",pkgPath:= "",type:=22,tag:= "",embedded:=false,offset:=2,byteOffset:=16}])),⟨rfl,rfl⟩,rfl,rfl⟩
theorem ab4:Tryz.prog.cellsOf 5=1:=a5
theorem YB:Tryz.prog.cellsOf 22=1:=a5
theorem UO:Tryz.prog.cellsOf 9=1:=a5
theorem aek:Tryz.prog.cellsOf 33=2:=a5
theorem adw:Tryz.prog.cellsOf 24=2:=a5
theorem ael:Tryz.prog.cellsOf 26=3:=a5
theorem Lh{k:IntKind}{n:Int}(h:(Lit.int k n).wf=true):k.min<=n/\n<=k.max:=by
 simpa only[Lit.wf,Bool.and_eq_true,decide_eq_true_iff]using h
section
variable {H:Type} {enc:TypeId×Value->H} {w:World} {sp:Nat->Bool} {held:Bool}
set_option maxRecDepth 100000 in
theorem Z5{b:Nat}{a:c4}{y:DataW H×List MemPlace}(u:a.length=2)(o:DataW.trod enc Tryz.prog w 0 sp held b 33 a=some y):∃p:Pr,a=dT p:=by
 obtain⟨j,f1,m,⟨s,t⟩,k,q⟩:=adO;obtain⟨xs,n,rfl,_,_,c,d⟩:=DataW.trod_struct m o;have c:xs.length=2:=c;match a,u with
 | [v0,v1],_=>
 have e:=d 0 j rfl;have g:=d 1 f1 rfl;rw[s,t,UO,af a4]at e;rw[k,q,UO,af a4]at g;obtain⟨x,f,_⟩:=DataW.trod_string TM e;obtain⟨v,i,_⟩:=DataW.trod_string TM g;simp only[cP,dw,ns,fC,eB.injEq,and_true]at f i;subst f i;exact⟨(x,v),rfl⟩
set_option maxRecDepth 100000 in
theorem ab9{z:Nat}{v:Value}{d:DataW H}{p:List MemPlace}(c:Value.okWide Tryz.prog w .any z 26 v)(h:DataW.Trod enc Tryz.prog w 0 sp held 26 v d p):
  ∃x:Hs,v=.agg #[.int .u64 x.k0,.int .u64 x.k1,.int .u64 x.mask]:=by
 obtain⟨y,f1,u,⟨D,L⟩,E,J⟩:=adP;obtain⟨cs,rfl,b⟩:=okWide_struct u c;rw[ael]at b;obtain⟨k,f⟩:=h;obtain⟨xs,n,rfl,_,_,e,f⟩:=DataW.trod_struct u f;have e:xs.length=2:=e;obtain⟨l,rfl⟩:∃l:c4,cs=l.toArray:=⟨cs.toList,rfl⟩;match l,b with
 | [v0,v1,v2],_=>
 have i:=f 0 y rfl;have j:=f 1 f1 rfl;rw[D,L,adw,af a4]at i;rw[E,J,YB,af a4]at j;simp only[Value.cells,cP,dw,ns,fC]at i j;obtain⟨I,F,g,⟨G,C⟩,A,B⟩:=acC;obtain⟨ys,o,rfl,_,_,a,m⟩:=DataW.trod_struct g i;have a:ys.length=2:=a;have k0:=m 0 I rfl;have k1:=m 1 F rfl
 rw[G,C,YB,af a4]at k0;rw[A,B,YB,af a4]at k1;obtain⟨n0,t,_⟩:=DataW.trod_int WX k0;obtain⟨K,q,_⟩:=DataW.trod_int WX k1;obtain⟨o,s,_⟩:=DataW.trod_int WX j;simp only[cP,dw,ns,fC,eB.injEq,and_true]at t q s;subst t q s;exact⟨⟨n0,K,o⟩,rfl⟩
end
end Go.Proofs.YtakmnggbneeicaaGreat
