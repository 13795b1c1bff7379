/- A part of the proof that the named laws of this program answer true, whatever the input. -/
import Derived.Test.YtceikogjngfacaaGreatTryTree
import Derived.Test.YtceikogjngfacaaGreatPart1
open UInt8 renaming ofNat→cR
namespace Go.Proofs.YtceikogjngfacaaGreat
open Go Go.Lift Go.Proofs Go.ChangeShapes Go.WideShapes Go.ChangeAt Go.RowKit
theorem XO:Tryz.prog.underlying 22=some (.slice 5):=by kernel_rfl
section
variable {H:Type} {enc:TypeId×Value→H} {w:World} {sp:Nat→Bool} {held:Bool}
set_option maxRecDepth 100000 in
theorem Xw{m:Nat}{v:Value}{d:DataW H}{p:List MemPlace}(f:Value.okWide Tryz.prog w .any m 22 v)(h:DataW.Trod enc Tryz.prog w 0 sp held 22 v d p):
  ∃(s:SliceV) (l:List UInt8),v=.slice s.a s.len s.cap∧Sl tK 1 No w.heap s l∧l.length≤9223372036854775807∧s.len≤s.cap:=by
 obtain⟨a,z,c,rfl⟩:=okWide_slice XO f;obtain⟨fuel,o⟩:=h;obtain⟨s,xs,i,h2,hm,j,_⟩:=Wt XO o tK aa8 rx (fun _=>True) fun fuel b y u x=>by
  match b,u with
  | [v0],_=>
  obtain⟨n,e,_,g⟩:=DataW.trod_int aaw x;have e:v0=.int .u8 n:=by simpa using e
  subst e;have g:IntKind.min .u8≤n∧n≤IntKind.max .u8:=Rs g;have q:(0:Int)≤n:=g.1;have i:n≤(255:Int):=g.2;refine⟨cR n.toNat,?_,trivial⟩;have:(cR n.toNat).toNat=n.toNat:=by
   rw[UInt8.toNat_ofNat'];omega
  show[Value.int .u8 n]= [Value.int .u8 ((cR n.toNat).toNat:Int)]
  rw[this,Int.toNat_of_nonneg q]
 simp only[Value.cells,List.cons.injEq,and_true]at i;have:=j.len;simp only[maxLen]at hm;exact⟨s,xs,i,j,by omega,h2⟩
end
end Go.Proofs.YtceikogjngfacaaGreat
