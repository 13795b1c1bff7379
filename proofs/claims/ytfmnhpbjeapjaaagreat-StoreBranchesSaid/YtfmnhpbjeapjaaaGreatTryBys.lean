/- A part of the proof that the named laws of this program answer true, whatever the input. -/
import Derived.Test.YtfmnhpbjeapjaaaGreatTryTree
import Derived.Test.YtfmnhpbjeapjaaaGreatPart2
open UInt8 renaming ofNat→jU
namespace Go.Proofs.YtfmnhpbjeapjaaaGreat
open Go Go.Lift Go.Proofs Go.ChangeShapes Go.WideShapes Go.ChangeAt Go.RowKit
theorem Ni:Tryz.prog.underlying Dy=some (.slice Aq):=by kernel_rfl
section
variable {H:Type} {enc:TypeId×Value→H} {w:World} {sp:Nat→Bool} {held:Bool}
set_option maxRecDepth 100000 in
theorem M4{k:Nat}{v:Value}{d:DataW H}{p:List MemPlace}(g:Value.okWide Tryz.prog w .any k Dy v)(h:DataW.Trod enc Tryz.prog w 0 sp held Dy v d p):
  ∃(s:SliceV) (l:List UInt8),v=.slice s.a s.len s.cap∧Sl Pv 1 No w.heap s l:=by
 obtain⟨a,z,c,rfl⟩:=okWide_slice Ni g;obtain⟨f,q⟩:=h;obtain⟨s,xs,j,x,hm,o,_⟩:=H8 Ni q Pv PX Od (fun _=>True) fun f b y m u=>by
  match b,m with
  | [v0],_=>
  obtain⟨n,e,_,i⟩:=DataW.trod_int OG u;have e:v0=.int .u8 n:=by simpa using e
  subst e;have i:IntKind.min .u8≤n∧n≤IntKind.max .u8:=Cw i;have t:(0:Int)≤n:=i.1;have j:n≤(255:Int):=i.2;refine⟨jU n.toNat,?_,trivial⟩;have:(jU n.toNat).toNat=n.toNat:=by
   rw[UInt8.toNat_ofNat'];omega
  show[Value.int .u8 n]= [Value.int .u8 ((jU n.toNat).toNat:Int)]
  rw[this,Int.toNat_of_nonneg t]
 simp only[Value.cells,List.cons.injEq,and_true]at j;exact⟨s,xs,j,o⟩
end
end Go.Proofs.YtfmnhpbjeapjaaaGreat
