/- A part of the proof that the named laws of this program answer true, whatever the input. -/
import Derived.Test.YtajpljopgikpgaaGreatDoorRows
import Derived.Test.YtajpljopgikpgaaGreatDoorPart1
import Derived.Test.YtajpljopgikpgaaGreatDoorPart0
open List renaming getElem?_eq_getElem→ag,drop_zero→cB,take_succ_cons→fV,take_zero→ph,drop_succ_cons→gX,cons→hP
namespace Go.Proofs.YtajpljopgikpgaaGreatDoor
open Go Go.Lift Go.Proofs Go.ChangeShapes Go.WideShapes Go.ChangeAt Go.RowKit
theorem Tryz.own:ownKnob Tryz.prog.godebug=none:=by kernel_rfl
theorem Tryz.laidOut:laidOutB Tryz.prog=true:=by kernel_rfl
theorem NL:Tryz.prog.underlying dg=some (.int .u8):=by kernel_rfl
theorem Jy:Tryz.prog.underlying yk=some (.int .u64):=by kernel_rfl
theorem Md:Tryz.prog.underlying zP=some .string:=by kernel_rfl
theorem ME:Tryz.prog.underlying oz=some .bool:=by kernel_rfl
theorem Mf:Tryz.prog.underlying cM=some (.slice ar):=by kernel_rfl
theorem Of:∃f0 f1:Field,Tryz.prog.underlying ar=some (.struct #[f0,f1])∧(f0.type=zP∧f0.offset=0)∧f1.type=zP∧f1.offset=1:=
 ⟨_,_,(by kernel_rfl:Tryz.prog.underlying ar=some (.struct #[{name:= "Key",pkgPath:= "",type:=zP,tag:= "",embedded:=false,offset:=0,byteOffset:=0},{name:= "Value",pkgPath:= "",type:=zP,tag:= "",embedded:=false,offset:=1,byteOffset:=16}])),⟨rfl,rfl⟩,rfl,rfl⟩
theorem NM:∃f0 f1:Field,Tryz.prog.underlying iW=some (.struct #[f0,f1])∧(f0.type=yk∧f0.offset=0)∧f1.type=yk∧f1.offset=1:=
 ⟨_,_,(by kernel_rfl:Tryz.prog.underlying iW=some (.struct #[{name:= "K0",pkgPath:= "",type:=yk,tag:= "",embedded:=false,offset:=0,byteOffset:=0},{name:= "K1",pkgPath:= "",type:=yk,tag:= "",embedded:=false,offset:=1,byteOffset:=8}])),⟨rfl,rfl⟩,rfl,rfl⟩
theorem Og:∃f0 f1:Field,Tryz.prog.underlying bW=some (.struct #[f0,f1])∧(f0.type=iW∧f0.offset=0)∧f1.type=yk∧f1.offset=2:=
 ⟨_,_,(by kernel_rfl:Tryz.prog.underlying bW=some (.struct #[{name:= "Key",pkgPath:= "",type:=iW,tag:= "",embedded:=false,offset:=0,byteOffset:=0},{name:= "Mask",pkgPath:= "",type:=yk,tag:= "",embedded:=false,offset:=2,byteOffset:=16}])),⟨rfl,rfl⟩,rfl,rfl⟩
theorem OI:Tryz.prog.cellsOf dg=1:=by kernel_rfl
theorem KY:Tryz.prog.cellsOf yk=1:=by kernel_rfl
theorem Mu:Tryz.prog.cellsOf zP=1:=by kernel_rfl
theorem OJ:Tryz.prog.cellsOf ar=2:=by kernel_rfl
theorem N5:Tryz.prog.cellsOf iW=2:=by kernel_rfl
theorem OK:Tryz.prog.cellsOf bW=3:=by kernel_rfl
theorem HW{k:IntKind}{n:Int}(h:(Lit.int k n).wf=true):k.min≤n∧n≤k.max:=by
 simpa only[Lit.wf,Bool.and_eq_true,decide_eq_true_iff]using h
section
variable {H:Type} {enc:TypeId×Value→H} {w:World} {sp:Nat→Bool} {held:Bool}
set_option maxRecDepth 100000 in
theorem LL{fuel:Nat}{a:List Value}{y:DataW H×List MemPlace}(g:a.length=2)(k:DataW.trod enc Tryz.prog w 0 sp held fuel ar a=some y):∃p:Pr,a=iY p:=by
 obtain⟨q,o,j,⟨m,i⟩,s,o1⟩:=Of;obtain⟨xs,n,rfl,_,_,b,c⟩:=DataW.trod_struct j k;have b:xs.length=2:=b;match a,g with
 | [v0,v1],_=>
 have g0:=c 0 q rfl;have f:=c 1 o rfl;rw[m,i,Mu,ag (by omega)]at g0;rw[s,o1,Mu,ag (by omega)]at f;obtain⟨s0,d,_⟩:=DataW.trod_string Md g0;obtain⟨s1,e,_⟩:=DataW.trod_string Md f;simp only[cB,fV,ph,gX,hP.injEq,and_true]at d e;subst d e;exact⟨(s0,s1),rfl⟩
set_option maxRecDepth 100000 in
theorem I7{k:Nat}{v:Value}{d:DataW H}{p:List MemPlace}(b:Value.okWide Tryz.prog w .any k cM v)(h:DataW.Trod enc Tryz.prog w 0 sp held cM v d p):
  ∃(s:SliceV) (l:List Pr),v=.slice s.a s.len s.cap∧Sl iY 2 No w.heap s l∧l.length≤9223372036854775807∧s.len≤s.cap:=by
 obtain⟨a,q,c,rfl⟩:=okWide_slice Mf b;obtain⟨fuel,m⟩:=h;obtain⟨s,xs,g,o,hm,i,_⟩:=Lv Mf m iY OJ jy (fun _=>True) fun fuel f y j n=>by
  obtain⟨p,e⟩:=LL j n;exact⟨p,e,trivial⟩
 simp only[Value.cells,hP.injEq,and_true]at g;have:=i.len;simp only[maxLen]at hm;exact⟨s,xs,g,i,by omega,o⟩
set_option maxRecDepth 100000 in
theorem Nq{E:Nat}{v:Value}{d:DataW H}{p:List MemPlace}(c:Value.okWide Tryz.prog w .any E bW v)(h:DataW.Trod enc Tryz.prog w 0 sp held bW v d p):
  ∃x:Hs,v=.agg #[.int .u64 x.k0,.int .u64 x.k1,.int .u64 x.mask]:=by
 obtain⟨A,F,q,⟨z,t⟩,C,o1⟩:=Og;obtain⟨cs,rfl,b⟩:=okWide_struct q c;rw[OK]at b;obtain⟨fuel,f⟩:=h;obtain⟨xs,n,rfl,_,_,a,f⟩:=DataW.trod_struct q f;have a:xs.length=2:=a;obtain⟨l,rfl⟩:∃l:List Value,cs=l.toArray:=⟨cs.toList,rfl⟩;match l,b with
 | [v0,v1,v2],_=>
 have g0:=f 0 A rfl;have i:=f 1 F rfl;rw[z,t,N5,ag (by omega)]at g0;rw[C,o1,KY,ag (by omega)]at i;simp only[Value.cells,cB,fV,ph,gX]at g0 i;obtain⟨I,B,g,⟨u,D⟩,G,p1⟩:=NM;obtain⟨ys,k,rfl,_,_,e,s⟩:=DataW.trod_struct g g0;have e:ys.length=2:=e;have k0:=s 0 I rfl;have k1:=s 1 B rfl
 rw[u,D,KY,ag (by omega)]at k0;rw[G,p1,KY,ag (by omega)]at k1;obtain⟨y,j,_⟩:=DataW.trod_int Jy k0;obtain⟨J,o,_⟩:=DataW.trod_int Jy k1;obtain⟨k,m,_⟩:=DataW.trod_int Jy i;simp only[cB,fV,ph,gX,hP.injEq,and_true]at j o m;subst j o m;exact⟨⟨y,J,k⟩,rfl⟩
set_option maxRecDepth 100000 in
theorem K7{b:Nat}{v:Value}{d:DataW H}{p:List MemPlace}(a:Value.okWide Tryz.prog w .any b dg v)(h:DataW.Trod enc Tryz.prog w 0 sp held dg v d p):
  ∃n:Int,v=.int .u8 n∧0≤n∧n≤255:=by
 obtain⟨n,e,_,_,c⟩:=open_int NL a h;exact⟨n,e,HW c⟩
end
end Go.Proofs.YtajpljopgikpgaaGreatDoor
