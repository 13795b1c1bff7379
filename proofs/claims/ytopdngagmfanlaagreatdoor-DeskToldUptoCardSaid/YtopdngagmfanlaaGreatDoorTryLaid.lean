/- A part of the proof that the named laws of this program answer true, whatever the input. -/
import Derived.Test.YtopdngagmfanlaaGreatDoorTryTie
import Derived.Test.YtopdngagmfanlaaGreatDoorLaw0
import Derived.Test.YtopdngagmfanlaaGreatDoorPart3
import Derived.Stop.Joined
open Option renaming some→bh
namespace Go.Proofs.YtopdngagmfanlaaGreatDoor
open Go Go.Lift Go.Proofs Go.ChangeShapes Go.WideShapes Go.ChangeAt Go.RowKit
abbrev listed:List (String×DataW Unit):= [("unicode/utf8.first",Rows.laid_unicode_utf8_first),("unicode/utf8.acceptRanges",Rows.laid_unicode_utf8_acceptRanges),("internal/strconv.uint64pow10",Rows.laid_internal_strconv_uint64pow10),("math/bits.deBruijn32tab",Rows.laid_math_bits_deBruijn32tab),("math/bits.deBruijn64tab",Rows.laid_math_bits_deBruijn64tab),("strconv.ErrSyntax",Rows.laid_strconv_ErrSyntax),("strconv.ErrRange",Rows.laid_strconv_ErrRange)]
def Tp(k:IntKind)(l:List Nat)(t:TypeId):Obj:=.cells (l.map fun n=>Value.int k ((n:Nat):Int)).toArray t
def Xh(n:Nat):Obj:=.cells #[.iface 253 (.pointer (some ⟨n,0,none⟩))] 99
def Xg(l:List UInt8):Obj:=.cells #[.string ⟨l.toArray⟩] 255
noncomputable def PB(os:Os):World:=
 let w:=World.holding Tryz.prog os ⟨#[Xg [105,110,118,97,108,105,100,32,115,121,110,116,97,120],Xg [118,97,108,117,101,32,111,117,116,32,111,102,32,114,97,110,103,101]],#[],[]⟩
 {w with heap:=((((((w.heap.setIfInBounds 1 (Xh 13)).setIfInBounds 2 (Xh 14)).setIfInBounds 3 (Tp .u64 [1,10,100,1000,10000,100000,1000000,10000000,100000000,1000000000,10000000000,100000000000,1000000000000,10000000000000,100000000000000,1000000000000000,10000000000000000,100000000000000000,1000000000000000000,10000000000000000000] 202)).setIfInBounds 4 (Tp .u8 Pinned.utf8FirstZ 257)).setIfInBounds 5 (Tp .u8 [128,191,160,191,128,159,144,191,128,143,0,0,0,0,0,0,0,0,0,0,0,0,0,0,0,0,0,0,0,0,0,0] 260)).setIfInBounds 6 (Tp .u8 [0,1,28,2,29,14,24,3,30,22,20,15,25,17,4,8,31,27,13,23,21,19,16,7,26,12,18,6,11,5,10,9] 333)).setIfInBounds 7 (Tp .u8 [0,1,56,2,57,49,28,3,61,58,42,50,38,29,17,4,62,47,59,36,45,43,51,22,53,39,33,30,24,18,12,5,63,55,48,27,60,41,37,16,46,35,44,21,52,32,23,11,54,26,40,15,34,20,31,10,25,14,19,9,13,8,7,6] 334)}
set_option maxRecDepth 100000 in
theorem XT(os:Os)(args:Array Value):(DataW.laidRun Tryz.prog ((PB os).forCall (fun _ _=>0) ⟨#[],args,[]⟩).memory 8 (listed.map (·.1))).map (·.1)=some listed:=by kernel_rfl
set_option maxRecDepth 100000 in
theorem XS(os:Os)(args:Array Value):(DataW.laidRun Tryz.prog ((PB os).forCall (fun _ _=>0) ⟨#[],args,[]⟩).memory 8 (listed.map (·.1))).map (fun x=>decide x.2.Nodup&&laidRowsB Tryz.prog ((PB os).forCall (fun _ _=>0) ⟨#[],args,[]⟩).memory x.2)=some true:=by kernel_rfl
theorem SZ(os:Os)(args:Array Value):laidMetH Tryz.prog listed ((PB os).forCall (fun _ _=>0) ⟨#[],args,[]⟩).memory:=by
 rw[MakeChecks.laidMetH_plain _ _ _ (by kernel_rfl)];exact laidMet_of_run' 8 (XT os args) (XS os args)
theorem gPow:Tryz.prog.globalNamed "internal/strconv.uint64pow10" =some 3:=by kernel_rfl
theorem gE1:Tryz.prog.globalNamed "strconv.ErrSyntax" =some 1:=by kernel_rfl
theorem gE2:Tryz.prog.globalNamed "strconv.ErrRange" =some 2:=by kernel_rfl
theorem tPow:(Tryz.prog.globals[3]?).map (·.type)=some 202:=by kernel_rfl
theorem tE1:(Tryz.prog.globals[1]?).map (·.type)=some 99:=by kernel_rfl
theorem tE2:(Tryz.prog.globals[2]?).map (·.type)=some 99:=by kernel_rfl
theorem XG:Tryz.prog.underlying 202=some (.array 20 52):=by kernel_rfl
theorem u52:Tryz.prog.underlying 52=some (.int .u64):=by kernel_rfl
theorem c52:Tryz.prog.cellsOf 52=1:=by kernel_rfl
theorem Yg:Tryz.prog.cellsOf 202=20:=by kernel_rfl
theorem XH:Tryz.prog.underlying 99=some (.interface #[("Error",107)]):=by kernel_rfl
theorem Un:Rows.laid_internal_strconv_uint64pow10=(Lib.tabData .u64 Lib.pow10Tab:DataW Unit):=by kernel_rfl
theorem L5{W:World}{n:String}{g:Nat}{t:TypeId}{cs:Array Value}{a:Nat}{p:List MemPlace}{nm:String}{d:DataW Unit}(f:Tryz.prog.globalNamed n=some g)(b:t=99)(c:W.var? Tryz.prog n=some cs)
  (hd:DataW.trod (fun _=>()) Tryz.prog W 0 (fun _=>true) false a t cs.toList=some (.iface nm d,p)):∃t v,aC W.heap ⟨g,0,none⟩=some (.iface t v):=by
 subst b;obtain⟨_,u,v,e,_,_⟩:=iface_of_trod XH hd;refine⟨u,v,?_⟩;have hc:=World.var?_cell f c 0;have:cs[0]? =some (.iface u v):=by rw[←Array.getElem?_toList,e];rfl
 rw[this]at hc;exact hc
set_option maxRecDepth 100000 in
theorem VD{W:World}(h:laidMetH Tryz.prog listed W):Laid W.heap∧4≤W.heap.size:=by
 rw[MakeChecks.laidMetH_plain _ _ _ (by kernel_rfl)]at h;obtain⟨ps,a,_,_⟩:=h;obtain⟨_,_,_,_,_,_,_,_,_,_,a,_⟩:=a;obtain⟨_,_,_,_,_,_,_,_,_,_,a,_⟩:=a;obtain⟨H,C,d,O,J,L,i,p,b,f,a,_⟩:=a;obtain⟨_,_,_,_,_,_,_,_,_,_,a,_⟩:=a;obtain⟨_,_,_,_,_,_,_,_,_,_,a,_⟩:=a;obtain⟨I,G,v,B,N,D,u,j,k,g,a,_⟩:=a;obtain⟨K,F,x,y,A,E,s,m,o,n,_,_⟩:=a;obtain rfl:=bh.inj (gPow.symm.trans i)
 obtain rfl:=bh.inj (gE1.symm.trans u);obtain rfl:=bh.inj (gE2.symm.trans s);obtain rfl:=bh.inj (tPow.symm.trans p);obtain rfl:=bh.inj (tE1.symm.trans j);obtain rfl:=bh.inj (tE2.symm.trans m);have e:∃t c,W.heap[3]? =some (.cells d t c):=by
  simp only[World.var?,gPow,Option.bind_some]at b;split at b
  ·rename_i cs t c hh
   cases b;exact⟨t,c,hh⟩
  ·cases b
 obtain⟨t,c,e⟩:=e;rw[Un]at f;have hc:=Lib.cells_of_tab XG u52 c52 Yg f;have q:d=(Lib.pow10Tab.map fun z=>Value.int .u64 z).toArray:=by rw[←hc]
 rw[q]at e;refine⟨⟨⟨t,c,e⟩,L5 gE1 rfl k g,L5 gE2 rfl o n⟩,?_⟩;obtain⟨w,_⟩:=Array.getElem?_eq_some_iff.1 e;omega
end Go.Proofs.YtopdngagmfanlaaGreatDoor
