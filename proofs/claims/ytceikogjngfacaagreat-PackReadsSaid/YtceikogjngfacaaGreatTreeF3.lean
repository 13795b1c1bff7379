/- A part of the proof that the named laws of this program answer true, whatever the input. -/
import Derived.Test.YtceikogjngfacaaGreatTreeF
set_option maxRecDepth 100000
set_option linter.unusedVariables false
open BitVec renaming ofInt→az
open Go.IntKind renaming wrap→ac,bits→aj
open Int renaming fdiv→fa
namespace Go.Proofs
open Go.Lift
def jk(a:SliceV)(b:Int)(c:Int)(d:Int)(e:Value)(K:(Unit)→ae→Prop)(e:ae):Prop:=LoopP (fun e (f:Int) g=>CondP (decide (f<d)) (Oj (ac .i64 (c+f)) a g (fun d h=>Oj (ac .i64 (b+f)) a g (fun i j=>HL (ac .i64 (b+f)) a g (iR d h) (fun b=>HL (ac .i64 (c+f)) a b (iR i j) (fun a=>e (ac .i64 (f+1)) a))))) (K () g)) 0 e
noncomputable def nZ:Ann:=.node .nil (.loop [(10,.c (.int .i64))] .nil)
def ff(a:SliceV)(b:ByteArray)(c:Value)(K:(Int×Bool)→ae→Prop)(d:ae):Prop:=LoopP (fun d (e:Int×Int) f=>CondP (decide (e.1<e.2)) (FF e.1 e.2 (fun g=>sM (ac .i64 g) a f (fun a h=>HV PG c [pN a h,.string b] nU (fun(a:Int) b=>CondP (decide (a<(0:Int))) (d (ac .i64 ((ac .i64 g)+1),e.2) b) (d (e.1,ac .i64 g) b)) f))) (CondP (decide (e.1<(a.len:Int))) (sM e.1 a f (fun a d=>HV PG c [pN a d,.string b] nU (fun(a:Int) b=>K (e.1,a==(0:Int)) b) f)) (K (e.1,false) f))) (0,(a.len:Int)) d
noncomputable def jr:Ann:=nn 3 (.node (.loop [(9,.c (.int .i64)),(10,.c (.int .i64))] .nil) .nil)
theorem jq(a:SliceV)(b:ByteArray)(c:Value){K}{d}(h:ff a b c K d):SN 290 [.slice a.a a.len a.cap,.string b,c] K d:=kD jr Tryz.func290 Tryz.call290 h
def jn(a:SliceV)(b:Int)(K:(SliceV)→ae→Prop)(c:ae):Prop:=Join (fun(_:Unit) c=>Bd (ac .i64 (b-(ac .i64 ((a.cap:Int)-(a.len:Int)))):Int) (fun b=>CondP (decide (b>(0:Int))) (((0:Int)≤(a.cap:Int)∧(a.cap:Int)≤((a.cap:Nat):Int))∧((0:Int)≤b∧b*((32:Nat):Int)≤2^48∧b≤9223372036854775807∧(((((a.cap:Int).toNat)-0)+b.toNat:Nat):Int)≤9223372036854775807)∧AppP (some ja) 2 32 201 (bN a.a 0 a.cap 2) (((a.cap:Int).toNat)-0) (a.cap-0) b.toNat (fb b.toNat ja) c (fun b c=>((0:Int)≤(a.len:Int)∧(a.len:Int)≤((b.cap:Nat):Int))∧K ⟨bN b.a 0 b.cap 2,((a.len:Int).toNat)-0,b.cap-0⟩ c)) (K a c))) (fun a=>CondP (decide (b<(0:Int))) (False) (a () c))
noncomputable def od:Ann:=.node .nil (.join [] .nil .nil)
def jm(a:SliceV)(b:Int)(c:Int)(d:Int)(e:Value)(K:(Unit)→ae→Prop)(f:ae):Prop:=LoopP (fun b (d:Int×Int) f=>CondP (d.1 !=d.2) (CondP (decide (d.1>d.2)) (eJ 297 [.slice a.a a.len a.cap,.int .i64 (ac .i64 (c-d.1)),.int .i64 c,.int .i64 d.2,e] (fun _ a=>b (ac .i64 (d.1-d.2),d.2) a) f) (eJ 297 [.slice a.a a.len a.cap,.int .i64 (ac .i64 (c-d.1)),.int .i64 (ac .i64 ((ac .i64 (c+d.2))-d.1)),.int .i64 d.1,e] (fun _ a=>b (d.1,ac .i64 (d.2-d.1)) a) f)) (eJ 297 [.slice a.a a.len a.cap,.int .i64 (ac .i64 (c-d.1)),.int .i64 c,.int .i64 d.1,e] (fun _ a=>K () a) f)) (ac .i64 (c-b),ac .i64 (d-c)) f
noncomputable def oc:Ann:=nn 2 (.node (.loop [(10,.c (.int .i64)),(11,.c (.int .i64))] .nil) .nil)
def oW(a:Int)(K:(Int)→ae→Prop)(b:ae):Prop:=(0:Int)≤(24:Int)∧∃c,(0:Int)≤(fa a (2^(min (24:Int).toNat (aj .u32))))∧(⟨#[0,1,1,2,1,2,2,3,1,2,2,3,2,3,3,4,1,2,2,3,2,3,3,4,2,3,3,4,3,4,4,5,1,2,2,3,2,3,3,4,2,3,3,4,3,4,4,5,2,3,3,4,3,4,4,5,3,4,4,5,4,5,5,6,1,2,2,3,2,3,3,4,2,3,3,4,3,4,4,5,2,3,3,4,3,4,4,5,3,4,4,5,4,5,5,6,2,3,3,4,3,4,4,5,3,4,4,5,4,5,5,6,3,4,4,5,4,5,5,6,4,5,5,6,5,6,6,7,1,2,2,3,2,3,3,4,2,3,3,4,3,4,4,5,2,3,3,4,3,4,4,5,3,4,4,5,4,5,5,6,2,3,3,4,3,4,4,5,3,4,4,5,4,5,5,6,3,4,4,5,4,5,5,6,4,5,5,6,5,6,6,7,2,3,3,4,3,4,4,5,3,4,4,5,4,5,5,6,3,4,4,5,4,5,5,6,4,5,5,6,5,6,6,7,3,4,4,5,4,5,5,6,4,5,5,6,5,6,6,7,4,5,5,6,5,6,6,7,5,6,6,7,6,7,7,8]⟩:ByteArray)[(fa a (2^(min (24:Int).toNat (aj .u32)))).toNat]? =some c∧(0:Int)≤(16:Int)∧Bd (ac .u32 (az (aj .u32) (fa a (2^(min (16:Int).toNat (aj .u32))))&&&az (aj .u32) 255).toNat:Int) (fun d=>XG d (fun d=>(0:Int)≤(8:Int)∧Bd (ac .u32 (az (aj .u32) (fa a (2^(min (8:Int).toNat (aj .u32))))&&&az (aj .u32) 255).toNat:Int) (fun e=>XG e (fun e=>Bd (ac .u8 ((ac .u8 ((c.toNat:Int)+(d.toNat:Int)))+(e.toNat:Int)):Int) (fun c=>Bd (ac .u32 (az (aj .u32) a&&&az (aj .u32) 255).toNat:Int) (fun a=>XG a (fun a=>K (ac .i64 (ac .u8 (c+(a.toNat:Int)))) b)))))))
def il(a:SliceV)(b:Int)(c:Int)(d:Int)(e:Value)(K:(Unit)→ae→Prop)(e:ae):Prop:=LoopP (fun e (f:Int) g=>CondP (decide (f<d)) (X7 (ac .i64 (c+f)) a g (fun d h i=>X7 (ac .i64 (b+f)) a g (fun j k l=>IZ (ac .i64 (b+f)) a g (Fh d h i) (fun b=>IZ (ac .i64 (c+f)) a b (Fh j k l) (fun a=>e (ac .i64 (f+1)) a))))) (K () g)) 0 e
noncomputable def mM:Ann:=.node .nil (.loop [(10,.c (.int .i64))] .nil)
theorem mI(a:SliceV)(b:Int)(c:Int)(d:Int)(e:Value){K}{f}(h:il a b c d e K f):eJ 297 [.slice a.a a.len a.cap,.int .i64 b,.int .i64 c,.int .i64 d,e] K f:=kD mM Tryz.func297 Tryz.call297 h
end Go.Proofs
