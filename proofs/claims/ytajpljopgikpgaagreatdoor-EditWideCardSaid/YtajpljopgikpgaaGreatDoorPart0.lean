/- A part of the proof that the named laws of this program answer true, whatever the input. -/
import Derived.Test.YtajpljopgikpgaaGreatDoorTreeF0
import Derived.Test.YtajpljopgikpgaaGreatDoorTreeF1
import Derived.Test.YtajpljopgikpgaaGreatDoorLaw0
import Derived.Conc.LoneSelect
import Derived.KernelRfl
import Derived.Laws.Rows
open BitVec renaming ofInt→ah
open ByteArray renaming size_extract→fG
open List renaming range→cC,mem_singleton→aq,mem_cons→ar
open Nat renaming zero_add→aB
open Option renaming getD_some→nP
namespace Go.Proofs
open Go.Lift
theorem yP(n:Int):0≤IntKind.wrap .u64 n∧IntKind.wrap .u64 n<18446744073709551616:=by rw[IntKind.wrap_u64];omega
theorem nq{x:Int}(h: -4611686018427387904≤x∧x≤4611686018427387904):IntKind.wrap .i64 x=x:=Go.IntWalk.i64_in _ (by omega)
theorem ci{i n:Nat}(h:i<n)(a:n≤4611686018427387904):IntKind.wrap .i64 ((i:Int)+1)=((i+1:Nat):Int):=by rw[nq (by omega)];omega
theorem sP{h:ad}{b i:Nat}{c:Array Value}{t:TypeId}{v:Value}{k:ad→Prop}(a:h[b]? =some (.cells c t (0,0)))
  (d:∀h',h'[b]? =some (.cells (c.setIfInBounds i v) t (0,0))→Upd (· =b) h h'→k h'):At (hset h ⟨b,i,none⟩ v) k:=by
 refine d _ ?_ (Upd.hset _ _ rfl);rw[B2 a,jh a]
def Hk(a b:Int):Int:=IntKind.wrap .u64 (ah (IntKind.bits .u64) a&&&ah (IntKind.bits .u64) b).toNat
def cV(a b:Int):Int:=IntKind.wrap .u64 (ah (IntKind.bits .u64) a^^^ah (IntKind.bits .u64) b).toNat
def BP(a b:Int):Int:=IntKind.wrap .u64 (ah (IntKind.bits .u64) a|||ah (IntKind.bits .u64) b).toNat
def BE(x n:Int):Int:=
 BP (IntKind.wrap .u64 (x*2^(min (Hk (IntKind.wrap .u64 n) 63).toNat (IntKind.bits .u64)))) (Int.fdiv x (2^(min (IntKind.wrap .u64 (64-Hk (IntKind.wrap .u64 n) 63)).toNat (IntKind.bits .u64))))
theorem yT{x n:Int}{h:ad}{K:Int→ad→Prop}(a:K (BE x n) h):HC PG cR [.int .u64 x,.int .i64 n] [.c (.int .u64)] K h:=by
 refine ry x n ?_;unfold lU;exact⟨(yP _).1,(yP _).1,a⟩
abbrev Q4:=Int×Int×Int×Int
def q4(s:Q4):Array Value:= #[.int .u64 s.1,.int .u64 s.2.1,.int .u64 s.2.2.1,.int .u64 s.2.2.2]
def Ow(a b:Int):Int:=IntKind.wrap .u64 (a+b)
def ON(s:Q4):Q4:=(Ow s.1 s.2.1,s.2)
def O8(s:Q4):Q4:=(s.1,cV (BE s.2.1 13) s.1,s.2.2)
def PY(s:Q4):Q4:=(BE s.1 32,s.2)
def Qv(s:Q4):Q4:=(s.1,s.2.1,Ow s.2.2.1 s.2.2.2,s.2.2.2)
def Rl(s:Q4):Q4:=(s.1,s.2.1,s.2.2.1,cV (BE s.2.2.2 16) s.2.2.1)
def RJ(s:Q4):Q4:=(Ow s.1 s.2.2.2,s.2)
def Sh(s:Q4):Q4:=(s.1,s.2.1,s.2.2.1,cV (BE s.2.2.2 21) s.1)
def Sv(s:Q4):Q4:=(s.1,s.2.1,Ow s.2.2.1 s.2.1,s.2.2.2)
def s09(s:Q4):Q4:=(s.1,cV (BE s.2.1 17) s.2.2.1,s.2.2)
def s10(s:Q4):Q4:=(s.1,s.2.1,BE s.2.2.1 32,s.2.2.2)
def jl(s:Q4):Q4:=s10 (s09 (Sv (Sh (RJ (Rl (Qv (PY (O8 (ON s)))))))))
def mI:Nat→Q4→Q4
 |0,s=>s
 |n+1,s=>mI n (jl s)
theorem nD{h:ad}{b i:Nat}{t:TypeId}{s s':Q4}{v:Value}{k:ad→Prop}(f:h[b]? =some (.cells (q4 s) t (0,0))) (e:(q4 s).setIfInBounds i v=q4 s')
  (d:∀a,a[b]? =some (.cells (q4 s') t (0,0))→Upd (· =b) h a→k a):At (hset h ⟨b,i,none⟩ v) k:=
 sP f fun a c g=>d a (e▸c) g
theorem DI{n:Nat}(V:n≤100){h:ad}{b:Nat}{t:TypeId}{s:Q4}(z:h[b]? =some (.cells (q4 s) t (0,0))) {K:Unit→ad→Prop}
  (N:∀u,u[b]? =some (.cells (q4 (mI n s)) t (0,0))→Upd (· =b) h u→K () u):HC PG gU [.pointer (some ⟨b,0,none⟩),.int .i64 n] [] K h:=by
 refine wP _ _ ?_;unfold pX cT dz cL lr;refine LoopP.ghost (fun(g:Nat×Q4) (P:Int) u=>P=(g.1:Int)∧g.1≤n∧u[b]? =some (.cells (q4 g.2) t (0,0))∧Upd (· =b) h u∧mI (n-g.1) g.2=mI n s) (fun g=>n-g.1) (0,s) ⟨rfl,Nat.zero_le _,z,Upd.refl _ _,rfl⟩ ?_
 rintro I ⟨i,d⟩ P u ⟨O,hi,a,Q,y⟩ R;simp only at O hi a y;subst O;refine aH (fun v=>?_) fun T=>?_
 ·have v:i<n:=by omega
  have c:∀{h:ad} {s:Q4} {i:Nat},h[b]? =some (.cells (q4 s) t (0,0))→aK h ⟨b,0+i,none⟩=(q4 s)[i]?:=fun z=>by rw[aB];exact aY z
  have w:∀{h:ad} {s:Q4} {i:Nat},h[b]? =some (.cells (q4 s) t (0,0))→i<4→Wr h ⟨b,0+i,none⟩:=fun z hi=>by rw[aB];exact gS z hi
  simp only[show((0:Int)).toNat*1=0 from rfl,show((1:Int)).toNat*1=1 from rfl,show((2:Int)).toNat*1=2 from rfl,show((3:Int)).toNat*1=3 from rfl]
  refine⟨_,rfl,by decide,_,c (i:=0) a,_,rfl,by decide,_,c (i:=1) a,_,rfl,by decide,w (i:=0) a (by decide),nD (s':=ON d) a rfl fun h2 m D=>?_⟩
  refine⟨_,rfl,by decide,_,c (i:=1) m,_,rfl,by decide,_,c (i:=0) m,_,rfl,yT ⟨c (i:=0) m,by decide,w (i:=1) m (by decide),nD (s':=O8 (ON d)) m rfl fun h3 x L=>?_⟩⟩
  refine⟨_,rfl,by decide,_,c (i:=0) x,_,rfl,yT ⟨by decide,w (i:=0) x (by decide),nD (s':=PY (O8 (ON d))) x rfl fun Y p F=>?_⟩⟩
  refine⟨_,rfl,by decide,_,c (i:=2) p,_,rfl,by decide,_,c (i:=3) p,_,rfl,by decide,w (i:=2) p (by decide),nD (s':=Qv (PY (O8 (ON d)))) p rfl fun Z j H=>?_⟩
  refine⟨_,rfl,by decide,_,c (i:=3) j,_,rfl,by decide,_,c (i:=2) j,_,rfl,yT ⟨c (i:=2) j,by decide,w (i:=3) j (by decide),nD (s':=Rl (Qv (PY (O8 (ON d))))) j rfl fun W o E=>?_⟩⟩
  refine⟨_,rfl,by decide,_,c (i:=0) o,_,rfl,by decide,_,c (i:=3) o,_,rfl,by decide,w (i:=0) o (by decide),nD (s':=RJ (Rl (Qv (PY (O8 (ON d)))))) o rfl fun X f G=>?_⟩
  refine⟨_,rfl,by decide,_,c (i:=3) f,_,rfl,by decide,_,c (i:=0) f,_,rfl,yT ⟨c (i:=0) f,by decide,w (i:=3) f (by decide),nD (s':=Sh (RJ (Rl (Qv (PY (O8 (ON d))))))) f rfl fun h8 q M=>?_⟩⟩
  refine⟨_,rfl,by decide,_,c (i:=2) q,_,rfl,by decide,_,c (i:=1) q,_,rfl,by decide,w (i:=2) q (by decide),nD (s':=Sv (Sh (RJ (Rl (Qv (PY (O8 (ON d)))))))) q rfl fun h9 e J=>?_⟩
  refine⟨_,rfl,by decide,_,c (i:=1) e,_,rfl,by decide,_,c (i:=2) e,_,rfl,yT ⟨c (i:=2) e,by decide,w (i:=1) e (by decide),nD (s':=s09 (Sv (Sh (RJ (Rl (Qv (PY (O8 (ON d))))))))) e rfl fun S k A=>?_⟩⟩
  refine⟨_,rfl,by decide,_,c (i:=2) k,_,rfl,yT ⟨by decide,w (i:=2) k (by decide),nD (s':=jl d) k rfl fun U C B=>?_⟩⟩
  rw[ci v (by omega)];refine R (i+1,jl d) _ _ ⟨rfl,v,C,Q.tr (D.tr (L.tr (F.tr (H.tr (E.tr (G.tr (M.tr (J.tr (A.tr B))))))))),?_⟩ (by simp only;omega);simp only;rw[←y,show n-i=(n-(i+1))+1 by omega];rfl
 ·obtain rfl:i=n:=by omega
  rw[Nat.sub_self]at y;have y:d=mI i s:=y;rw[←y]at N;exact N _ a Q
end Go.Proofs
namespace Go.Proofs
open Go Go.Lift Go.Conc Go.RowKit
theorem uX{w:World}{b i:Nat}{c:Array Value}{t:TypeId}{v:Value}(h:w.heap[b]? =some (.cells c t (0,0))) (hv:c[i]? =some v):w.cell? ⟨b,i,none⟩=some v:=by
 simp only[World.cell?,h];exact hv
theorem LW{w:World}{b i:Nat}{c:Array Value}{t:TypeId}(h:w.heap[b]? =some (.cells c t (0,0))):w.frozen? ⟨b,i,none⟩=false:=by
 simp only[World.frozen?,h];simp
set_option maxRecDepth 100000 in
theorem Lf{w:World}{pb cb cap s r:Nat}{i:Int}{a:List Value}(d:w.heap[pb]? =some (.cells #[.chan (some cb)] 130 (0,0))) (hc:w.heap[cb]? =some (.chan cap (Value.int .i64 i::a).toArray false s r false)):
  Calls Tryz.prog 33 #[.pointer (some ⟨pb,0,none⟩)] w fun e w'=>e=.returned (.tuple #[.pointer (some ⟨w.heap.size,0,none⟩),.int .i64 0])∧w'=((w.setChan cb cap a.toArray false s (r+1) false).alloc (.cells #[.pointer (some ⟨pb,0,none⟩),.int .i64 i,.bool true] 140 (0,0))):=by
 refine calls_of_loneTo fun cs=>?_
 have e:Frame.enter Tryz.prog 33 #[.pointer (some ⟨pb,0,none⟩)] .normal=(base 33).at ⟨#[.pointer (some ⟨pb,0,none⟩),undef,undef,undef,undef,undef,undef,undef,undef,undef,undef,undef,undef,undef,undef,undef,undef,undef,undef],[]⟩ [.code (Tryz.f33.body.getD .skip)]:=by
  simp[Frame.enter,Frame.at,Tryz.func33,base,Tryz.f33]
 rw[e];have aK:=uX d (i:=0) rfl;have b:(Value.int .i64 i::a).toArray.extract 1 (Value.int .i64 i::a).toArray.size=a.toArray:=by simp
 refine LoneTo.goes (n:=22) ?_;simp only[Tryz.f33,nP];s_c stepG_seq
 s_reg
 s_op
 s_op
 s_c stepG_region_end
 s_c stepG_seq
 s_c stepG_seq
 s_reg
 s_op
 s_op
 s_c stepG_region_end
 s_cond false
 s_c stepG_skip
 s_c stepG_seq
 s_reg
 s_op
 s_op
 s_op
 s_op
 s_c stepG_region_end
 s_c stepG_seq
 s_reg
 s_stop
 refine LoneTo.step (step_lone_select_recv_buf (c:=cb) (z:=.int .i64 0) (stepG_comm (cases:= #[rcase cb (.int .i64 0)]) (blocking:=false) (shape:=.select) (w':=w) rfl rfl (by decide) (by simp[go_sem,execOp,rcase,Act.eval])) hc (by simp)) ?_;rw[b];rw[Frame.finish_at];walk_nrm
 refine LoneTo.goes (n:=20) ?_;s_op
 s_op
 s_c stepG_region_end
 s_c stepG_block
 s_cond true
 s_c stepG_seq
 s_reg
 s_op
 s_op
 s_c stepG_region_end
 s_c stepG_seq
 s_reg
 s_op
 s_op
 s_op
 s_op
 s_op
 s_op
 s_c stepG_region_end
 s_c stepG_ret'
 s_stop
 refine LoneTo.done ⟨.returned (.tuple #[.pointer (some ⟨w.heap.size,0,none⟩),.int .i64 0]),_,rfl,⟨rfl,rfl⟩,rfl,rfl,rfl,rfl,_,Tryz.func33,by simp[results,Tryz.f33,Frame.at,size_setChan]⟩
theorem mkc(w:World)(n:Nat)(h:n≤4096):(Instr.makeChan 128 (.int .i64 n)).run Tryz.prog w=.ok (.chan (some w.heap.size)) (w.alloc (.chan n #[] false 0 0 false)):=by
 have a:Tryz.prog.underlying 128=some (.chan .both 3):=by kernel_rfl
 have b:(Tryz.prog.info? 3).map (·.bytes)=some 8:=by kernel_rfl
 obtain⟨i,hi,c⟩:=Option.map_eq_some_iff.1 b;exact run_makeChan (P:=Tryz.prog) (w:=w) a hi .i64 n (by omega) (by rw[c];omega)
noncomputable abbrev AV:Code:=match Tryz.f32.body with|some (.seq _ (.seq _ (.seq _ (.seq (.seq _ (.block _ (.loop c))) _))))=>c|_=>.skip
noncomputable abbrev E9:Code:=match Tryz.f32.body with|some (.seq _ (.seq _ (.seq _ (.seq _ c))))=>c|_=>.skip
set_option maxRecDepth 100000 in
set_option maxHeartbeats 4000000 in
theorem Nt{n pb cb:Nat}{Q:Goroutine→World→Prop}{cs:List Frame}(M:n≤4096)(A:pb≠cb):∀(m i:Nat) (u p g o k t d f e q:Value) (a:List Value) (s r:Nat) (w:World),i+m=n→a.length=i→w.heap[pb]? =some (.cells #[.chan (some cb)] 130 (0,0))→w.heap[cb]? =some (.chan n a.toArray false s r false)→
  (∀(u p g o k t d f e q:Value) (b:List Value) (s' z:Nat) (w':World),b=a++(cC m).map (fun j=>Value.int .i64 ((i+j:Nat)+1:Int))→(w'=w∨w'=w.setChan cb n b.toArray false s' z false)→w'.heap[cb]? =some (.chan n b.toArray false s' z false)→LoneTo Tryz.prog Q (G ((base 32).at ⟨#[.int .i64 n,undef,.pointer none,.int .i64 0,.pointer (some ⟨pb,0,none⟩),u,.int .i64 n,.bool false,.bool false,.int .i64 n,.bool false,.bool false,.int .i64 n,.chan (some cb),.agg #[.chan (some cb)],.pointer (some ⟨pb,0,none⟩),.int .i64 n,.int .i64 n,p,g,o,k,t,d,f,e,q,undef],[]⟩ [.code E9]) cs) w')→
  LoneTo Tryz.prog Q (G ((base 32).at ⟨#[.int .i64 n,undef,.pointer none,.int .i64 0,.pointer (some ⟨pb,0,none⟩),u,.int .i64 n,.bool false,.bool false,.int .i64 n,.bool false,.bool false,.int .i64 n,.chan (some cb),.agg #[.chan (some cb)],.pointer (some ⟨pb,0,none⟩),.int .i64 n,.int .i64 i,p,g,o,k,t,d,f,e,q,undef],[]⟩ [.code AV,.inLoop AV,.inBlock 0,.code E9]) cs) w:=by
 intro m;induction m with
 |zero=>
  intro i u p g o k t d f e q a s r w v C B hc E;have v:i=n:=by omega
  subst v;have D:¬((i:Int)<(i:Int)):=by omega
  refine LoneTo.goes (n:=9) ?_;simp only[AV,Tryz.f32];s_c stepG_seq
  s_reg
  s_op
  s_c stepG_region_end
  s_c stepG_seq
  s_cond false
  s_exit
  s_stop
  exact E _ _ _ _ _ _ _ _ _ _ a s r w (by simp) (.inl rfl) hc
 |succ m ih=>
  intro i u p g o k t d f e q a s r w v C B hc E;have D:((i:Int)<(n:Int)):=by omega
  have aK:=uX B (i:=0) rfl;have K:IntKind.wrap .i64 ((i:Int)+1)=((i+1:Nat):Int):=by rw[nq (by omega)];omega
  refine LoneTo.goes (n:=21) ?_;simp only[AV,Tryz.f32];s_c stepG_seq
  s_reg
  s_op
  s_c stepG_region_end
  s_c stepG_seq
  s_cond true
  s_c stepG_skip
  s_c stepG_seq
  s_c stepG_block
  s_c stepG_seq
  s_reg
  s_op
  s_op
  s_c stepG_region_end
  s_reg
  s_op
  s_op
  s_op
  s_op
  s_op
  s_op
  s_stop
  refine LoneTo.step (step_lone_send_room (c:=cb) (cap:=n) (buf:=a.toArray) (s:=s) (r:=r) (tm:=false) (stepG_comm (cases:= #[scase cb (.int .i64 ((i:Int)+1)) (.tuple #[])]) (blocking:=true) (shape:=.send) (w':=w) rfl rfl (by decide) (by simp[execOp,scase,Act.eval])) hc (by simp[C];omega)) ?_;rw[Frame.finish_at];walk_nrm
  have hz:cb<w.heap.size:=(Array.getElem?_eq_some_iff.1 hc).1;refine LoneTo.goes (n:=7) ?_;s_c stepG_region_end
  s_c stepG_inBlock
  s_reg
  s_op
  s_op
  s_c stepG_region_end
  s_c stepG_inLoop
  s_stop
  have L:((i:Int)+1)=((i+1:Nat):Int):=by omega
  rw[L];refine ih (i+1) _ _ _ _ _ _ _ _ _ _ (a++ [Value.int .i64 ((i+1:Nat):Int)]) (s+1) r (w.setChan cb n (a++ [Value.int .i64 ((i+1:Nat):Int)]).toArray false (s+1) r false) (by omega) (by simp[C]) ?_ (heap_setChan _ _ _ _ _ _ _ _ hz) fun u p g o k t d f e q b s' z w' F x y=>E u p g o k t d f e q b s' z w' ?_ (.inr ?_) y
  ·simp only[World.setChan,Array.getElem?_setIfInBounds]
   rw[if_neg (Ne.symm A)];exact B
  ·rw[F,List.range_succ_eq_map]
   simp[Nat.add_comm,Nat.add_left_comm,Function.comp_def]
  ·rcases x with x|x
   ·subst x
    rw[heap_setChan _ _ _ _ _ _ _ _ hz]at y;simp only[Option.some.injEq,Obj.chan.injEq]at y;obtain⟨_,I,_,J,H,_⟩:=y;rw[I,J,H]
   ·rw[x];simp[World.setChan]
set_option maxRecDepth 100000 in
set_option maxHeartbeats 4000000 in
theorem Ns{n:Nat}{w:World}(A:1≤n)(b:n≤4096):Calls Tryz.prog 32 #[.int .i64 n] w fun e w'=>e=.returned (.tuple #[.pointer (some ⟨w.heap.size+1,0,none⟩),.int .i64 0])∧∃(a:List Value) (s r:Nat),a=(cC n).map (fun j=>Value.int .i64 ((0+j:Nat)+1:Int))∧w'.heap[w.heap.size]? =some (.chan n a.toArray false s r false)∧(w'=(w.alloc (.chan n #[] false 0 0 false)).alloc (.cells #[.chan (some w.heap.size)] 130 (0,0))∨w'=((w.alloc (.chan n #[] false 0 0 false)).alloc (.cells #[.chan (some w.heap.size)] 130 (0,0))).setChan w.heap.size n a.toArray false s r false):=by
 refine calls_of_loneTo fun cs=>?_
 have e:Frame.enter Tryz.prog 32 #[.int .i64 n] .normal=(base 32).at ⟨#[.int .i64 n,undef,undef,undef,undef,undef,undef,undef,undef,undef,undef,undef,undef,undef,undef,undef,undef,undef,undef,undef,undef,undef,undef,undef,undef,undef,undef,undef],[]⟩ [.code (Tryz.f32.body.getD .skip)]:=by
  simp[Frame.enter,Frame.at,Tryz.func32,base,Tryz.f32]
 rw[e];have d:=fun w=>mkc w n b
 have c1:¬((n:Int)<1):=by omega
 have c2:¬(4096<(n:Int)):=by omega
 refine LoneTo.goes (n:=33) ?_;simp only[Tryz.f32,nP];s_c stepG_seq
 s_reg
 s_op
 s_op
 s_c stepG_region_end
 s_c stepG_seq
 s_c stepG_seq
 s_reg
 s_op
 s_op
 s_op
 s_op
 s_op
 s_op
 s_c stepG_region_end
 s_cond false
 s_c stepG_skip
 s_c stepG_seq
 s_reg
 s_op
 s_op
 s_op
 s_op
 s_op
 s_c stepG_region_end
 s_c stepG_seq
 s_c stepG_seq
 s_reg
 s_op
 s_op
 s_c stepG_region_end
 s_c stepG_block
 s_c stepG_loop
 s_stop
 have v:((w.alloc (.chan n #[] false 0 0 false)).alloc (.cells #[.chan (some w.heap.size)] 130 (0,0))).heap[w.heap.size+1]? =some (.cells #[.chan (some w.heap.size)] 130 (0,0)):=by
  have:=heap_alloc_new (w.alloc (.chan n #[] false 0 0 false)) (.cells #[.chan (some w.heap.size)] 130 (0,0));simpa using this
 have i:((w.alloc (.chan n #[] false 0 0 false)).alloc (.cells #[.chan (some w.heap.size)] 130 (0,0))).heap[w.heap.size]? =some (.chan n #[] false 0 0 false):=by
  show((w.heap.push (.chan n #[] false 0 0 false)).push (.cells #[.chan (some w.heap.size)] 130 (0,0)))[w.heap.size]? =_
  simp[Array.getElem?_push]
 refine Nt b (by omega) n 0 _ _ _ _ _ _ _ _ _ _ [] 0 0 _ (by omega) rfl v i fun z u m t q y f k g x a s r w' c o p=>?_
 refine LoneTo.goes (n:=7) ?_;simp only[E9,Tryz.f32];s_c stepG_seq
 s_reg
 s_op
 s_op
 s_op
 s_c stepG_region_end
 s_c stepG_ret'
 s_stop
 refine LoneTo.done ⟨.returned (.tuple #[.pointer (some ⟨w.heap.size+1,0,none⟩),.int .i64 0]),_,rfl,⟨rfl,a,s,r,by simpa[cC]using c,p,o⟩,rfl,rfl,rfl,rfl,_,Tryz.func32,by simp[results,Tryz.f32,Frame.at]⟩
theorem fe{md:Region.Mode}{ops:Array Oper}{fuel t:Nat}{listed:Array Bool}{rs:List Nat}(d:Region.ready md ops listed=rs)(b:rs≠[]):∃i∈rs,∃t',Region.linearise.go md ops (fuel+1) t listed []=i::Region.linearise.go md ops fuel t' (listed.setIfInBounds i true) []:=by
 subst d;simp only[Region.linearise.go];change∃i∈Region.ready md ops listed,∃t',(match(Region.ready md ops listed)[t%(Region.ready md ops listed).length]? with
  |some i=>Region.linearise.go md ops fuel (t/(Region.ready md ops listed).length) (listed.setIfInBounds i true) [i]
  |none=> [].reverse)=i::Region.linearise.go md ops fuel t' (listed.setIfInBounds i true) []
 have c:0<(Region.ready md ops listed).length:=List.length_pos_iff.2 b;have a:t%(Region.ready md ops listed).length<(Region.ready md ops listed).length:=Nat.mod_lt _ c;rw[List.getElem?_eq_getElem a];refine⟨_,List.getElem_mem a,t/(Region.ready md ops listed).length,?_⟩;simp only[];rw[linearise_go_acc];rfl
noncomputable abbrev aC:Array Oper:=match Tryz.f37.body with|some (.seq _ (.seq _ (.seq _ (.seq (.region _ o _) _))))=>o|_=> #[]
section
variable {pb tb cb:Nat} {id:Int} {u2 u3 u4 u5 u6 u7 u8 u9 u10 u11 u12 u13 u14 u15 u16 u17 u18 u19 u20 u21 u22:Value} {Q:Goroutine→World→Prop} {cs:List Frame} {kk:List Item} {w:World}
set_option maxRecDepth 100000
theorem NN(d:w.cell? ⟨pb,0,none⟩=some (.chan (some cb)))(c:w.cell? ⟨tb,1,none⟩=some (.int .i64 id))(b:∀t,LoneTo Tryz.prog Q (G ((base 37).at ⟨#[.pointer (some ⟨pb,0,none⟩),.pointer (some ⟨tb,0,none⟩),u2,u3,u4,u5,u6,u7,u8,u9,u10,u11,u12,u13,u14,u15,u16,u17,u18,u19,u20,u21,u22,.pointer (some ⟨pb,0,none⟩),.pointer (some ⟨pb,0,none⟩),.pointer (some ⟨pb,0,none⟩),.chan (some cb),.pointer (some ⟨tb,0,none⟩),.pointer (some ⟨tb,0,none⟩),.pointer (some ⟨tb,1,none⟩),.int .i64 id],[]⟩ (.inRegion aC (Region.linearise.go .any aC 1 t #[true,true,true,true,true,true,true,true,false] [])::kk)) cs) w)(t:Nat):LoneTo Tryz.prog Q (G ((base 37).at ⟨#[.pointer (some ⟨pb,0,none⟩),.pointer (some ⟨tb,0,none⟩),u2,u3,u4,u5,u6,u7,u8,u9,u10,u11,u12,u13,u14,u15,u16,u17,u18,u19,u20,u21,u22,.pointer (some ⟨pb,0,none⟩),.pointer (some ⟨pb,0,none⟩),.pointer (some ⟨pb,0,none⟩),.chan (some cb),.pointer (some ⟨tb,0,none⟩),.pointer (some ⟨tb,0,none⟩),.pointer (some ⟨tb,1,none⟩),undef],[]⟩ (.inRegion aC (Region.linearise.go .any aC 2 t #[true,true,true,true,true,true,true,false,false] [])::kk)) cs) w:=by
 obtain⟨i,hi,a,e⟩:=fe (md:=.any) (ops:=aC) (fuel:=1) (t:=t) (listed:= #[true,true,true,true,true,true,true,false,false]) (rs:= [7]) (by kernel_rfl) (by simp);rw[e];rw[aq.1 hi];refine LoneTo.goes (n:=1) ?_;simp only[aC,Tryz.f37];s_op
 s_stop
 exact b a
theorem NQ(d:w.cell? ⟨pb,0,none⟩=some (.chan (some cb)))(c:w.cell? ⟨tb,1,none⟩=some (.int .i64 id))(b:∀t,LoneTo Tryz.prog Q (G ((base 37).at ⟨#[.pointer (some ⟨pb,0,none⟩),.pointer (some ⟨tb,0,none⟩),u2,u3,u4,u5,u6,u7,u8,u9,u10,u11,u12,u13,u14,u15,u16,u17,u18,u19,u20,u21,u22,.pointer (some ⟨pb,0,none⟩),.pointer (some ⟨pb,0,none⟩),.pointer (some ⟨pb,0,none⟩),.chan (some cb),.pointer (some ⟨tb,0,none⟩),.pointer (some ⟨tb,0,none⟩),.pointer (some ⟨tb,1,none⟩),.int .i64 id],[]⟩ (.inRegion aC (Region.linearise.go .any aC 1 t #[true,true,true,true,true,true,true,true,false] [])::kk)) cs) w)(t:Nat):LoneTo Tryz.prog Q (G ((base 37).at ⟨#[.pointer (some ⟨pb,0,none⟩),.pointer (some ⟨tb,0,none⟩),u2,u3,u4,u5,u6,u7,u8,u9,u10,u11,u12,u13,u14,u15,u16,u17,u18,u19,u20,u21,u22,.pointer (some ⟨pb,0,none⟩),.pointer (some ⟨pb,0,none⟩),.pointer (some ⟨pb,0,none⟩),undef,.pointer (some ⟨tb,0,none⟩),.pointer (some ⟨tb,0,none⟩),.pointer (some ⟨tb,1,none⟩),.int .i64 id],[]⟩ (.inRegion aC (Region.linearise.go .any aC 2 t #[true,true,true,false,true,true,true,true,false] [])::kk)) cs) w:=by
 obtain⟨i,hi,a,e⟩:=fe (md:=.any) (ops:=aC) (fuel:=1) (t:=t) (listed:= #[true,true,true,false,true,true,true,true,false]) (rs:= [3]) (by kernel_rfl) (by simp);rw[e];rw[aq.1 hi];refine LoneTo.goes (n:=1) ?_;simp only[aC,Tryz.f37];s_op
 s_stop
 exact b a
theorem NO(c:w.cell? ⟨pb,0,none⟩=some (.chan (some cb)))(a:w.cell? ⟨tb,1,none⟩=some (.int .i64 id))(d:∀t,LoneTo Tryz.prog Q (G ((base 37).at ⟨#[.pointer (some ⟨pb,0,none⟩),.pointer (some ⟨tb,0,none⟩),u2,u3,u4,u5,u6,u7,u8,u9,u10,u11,u12,u13,u14,u15,u16,u17,u18,u19,u20,u21,u22,.pointer (some ⟨pb,0,none⟩),.pointer (some ⟨pb,0,none⟩),.pointer (some ⟨pb,0,none⟩),.chan (some cb),.pointer (some ⟨tb,0,none⟩),.pointer (some ⟨tb,0,none⟩),.pointer (some ⟨tb,1,none⟩),.int .i64 id],[]⟩ (.inRegion aC (Region.linearise.go .any aC 1 t #[true,true,true,true,true,true,true,true,false] [])::kk)) cs) w)(t:Nat):LoneTo Tryz.prog Q (G ((base 37).at ⟨#[.pointer (some ⟨pb,0,none⟩),.pointer (some ⟨tb,0,none⟩),u2,u3,u4,u5,u6,u7,u8,u9,u10,u11,u12,u13,u14,u15,u16,u17,u18,u19,u20,u21,u22,.pointer (some ⟨pb,0,none⟩),.pointer (some ⟨pb,0,none⟩),.pointer (some ⟨pb,0,none⟩),.chan (some cb),.pointer (some ⟨tb,0,none⟩),.pointer (some ⟨tb,0,none⟩),undef,undef],[]⟩ (.inRegion aC (Region.linearise.go .any aC 3 t #[true,true,true,true,true,true,false,false,false] [])::kk)) cs) w:=by
 obtain⟨i,hi,b,e⟩:=fe (md:=.any) (ops:=aC) (fuel:=2) (t:=t) (listed:= #[true,true,true,true,true,true,false,false,false]) (rs:= [6]) (by kernel_rfl) (by simp);rw[e];rw[aq.1 hi];refine LoneTo.goes (n:=1) ?_;simp only[aC,Tryz.f37];s_op
 s_stop
 exact NN c a d b
theorem NR(c:w.cell? ⟨pb,0,none⟩=some (.chan (some cb)))(a:w.cell? ⟨tb,1,none⟩=some (.int .i64 id))(d:∀t,LoneTo Tryz.prog Q (G ((base 37).at ⟨#[.pointer (some ⟨pb,0,none⟩),.pointer (some ⟨tb,0,none⟩),u2,u3,u4,u5,u6,u7,u8,u9,u10,u11,u12,u13,u14,u15,u16,u17,u18,u19,u20,u21,u22,.pointer (some ⟨pb,0,none⟩),.pointer (some ⟨pb,0,none⟩),.pointer (some ⟨pb,0,none⟩),.chan (some cb),.pointer (some ⟨tb,0,none⟩),.pointer (some ⟨tb,0,none⟩),.pointer (some ⟨tb,1,none⟩),.int .i64 id],[]⟩ (.inRegion aC (Region.linearise.go .any aC 1 t #[true,true,true,true,true,true,true,true,false] [])::kk)) cs) w)(t:Nat):LoneTo Tryz.prog Q (G ((base 37).at ⟨#[.pointer (some ⟨pb,0,none⟩),.pointer (some ⟨tb,0,none⟩),u2,u3,u4,u5,u6,u7,u8,u9,u10,u11,u12,u13,u14,u15,u16,u17,u18,u19,u20,u21,u22,.pointer (some ⟨pb,0,none⟩),.pointer (some ⟨pb,0,none⟩),.pointer (some ⟨pb,0,none⟩),undef,.pointer (some ⟨tb,0,none⟩),.pointer (some ⟨tb,0,none⟩),.pointer (some ⟨tb,1,none⟩),undef],[]⟩ (.inRegion aC (Region.linearise.go .any aC 3 t #[true,true,true,false,true,true,true,false,false] [])::kk)) cs) w:=by
 obtain⟨i,hi,b,e⟩:=fe (md:=.any) (ops:=aC) (fuel:=2) (t:=t) (listed:= #[true,true,true,false,true,true,true,false,false]) (rs:= [3,7]) (by kernel_rfl) (by simp);rw[e];rcases ar.1 hi with rfl|hi
 ·skip
  refine LoneTo.goes (n:=1) ?_;simp only[aC,Tryz.f37];s_op
  s_stop
  exact NN c a d b
 ·rw[aq.1 hi]
  refine LoneTo.goes (n:=1) ?_;simp only[aC,Tryz.f37];s_op
  s_stop
  exact NQ c a d b
theorem NU(c:w.cell? ⟨pb,0,none⟩=some (.chan (some cb)))(a:w.cell? ⟨tb,1,none⟩=some (.int .i64 id))(d:∀t,LoneTo Tryz.prog Q (G ((base 37).at ⟨#[.pointer (some ⟨pb,0,none⟩),.pointer (some ⟨tb,0,none⟩),u2,u3,u4,u5,u6,u7,u8,u9,u10,u11,u12,u13,u14,u15,u16,u17,u18,u19,u20,u21,u22,.pointer (some ⟨pb,0,none⟩),.pointer (some ⟨pb,0,none⟩),.pointer (some ⟨pb,0,none⟩),.chan (some cb),.pointer (some ⟨tb,0,none⟩),.pointer (some ⟨tb,0,none⟩),.pointer (some ⟨tb,1,none⟩),.int .i64 id],[]⟩ (.inRegion aC (Region.linearise.go .any aC 1 t #[true,true,true,true,true,true,true,true,false] [])::kk)) cs) w)(t:Nat):LoneTo Tryz.prog Q (G ((base 37).at ⟨#[.pointer (some ⟨pb,0,none⟩),.pointer (some ⟨tb,0,none⟩),u2,u3,u4,u5,u6,u7,u8,u9,u10,u11,u12,u13,u14,u15,u16,u17,u18,u19,u20,u21,u22,.pointer (some ⟨pb,0,none⟩),.pointer (some ⟨pb,0,none⟩),undef,undef,.pointer (some ⟨tb,0,none⟩),.pointer (some ⟨tb,0,none⟩),.pointer (some ⟨tb,1,none⟩),.int .i64 id],[]⟩ (.inRegion aC (Region.linearise.go .any aC 3 t #[true,true,false,false,true,true,true,true,false] [])::kk)) cs) w:=by
 obtain⟨i,hi,b,e⟩:=fe (md:=.any) (ops:=aC) (fuel:=2) (t:=t) (listed:= #[true,true,false,false,true,true,true,true,false]) (rs:= [2]) (by kernel_rfl) (by simp);rw[e];rw[aq.1 hi];refine LoneTo.goes (n:=1) ?_;simp only[aC,Tryz.f37];s_op
 s_stop
 exact NQ c a d b
theorem NP(c:w.cell? ⟨pb,0,none⟩=some (.chan (some cb)))(a:w.cell? ⟨tb,1,none⟩=some (.int .i64 id))(d:∀t,LoneTo Tryz.prog Q (G ((base 37).at ⟨#[.pointer (some ⟨pb,0,none⟩),.pointer (some ⟨tb,0,none⟩),u2,u3,u4,u5,u6,u7,u8,u9,u10,u11,u12,u13,u14,u15,u16,u17,u18,u19,u20,u21,u22,.pointer (some ⟨pb,0,none⟩),.pointer (some ⟨pb,0,none⟩),.pointer (some ⟨pb,0,none⟩),.chan (some cb),.pointer (some ⟨tb,0,none⟩),.pointer (some ⟨tb,0,none⟩),.pointer (some ⟨tb,1,none⟩),.int .i64 id],[]⟩ (.inRegion aC (Region.linearise.go .any aC 1 t #[true,true,true,true,true,true,true,true,false] [])::kk)) cs) w)(t:Nat):LoneTo Tryz.prog Q (G ((base 37).at ⟨#[.pointer (some ⟨pb,0,none⟩),.pointer (some ⟨tb,0,none⟩),u2,u3,u4,u5,u6,u7,u8,u9,u10,u11,u12,u13,u14,u15,u16,u17,u18,u19,u20,u21,u22,.pointer (some ⟨pb,0,none⟩),.pointer (some ⟨pb,0,none⟩),.pointer (some ⟨pb,0,none⟩),.chan (some cb),.pointer (some ⟨tb,0,none⟩),undef,undef,undef],[]⟩ (.inRegion aC (Region.linearise.go .any aC 4 t #[true,true,true,true,true,false,false,false,false] [])::kk)) cs) w:=by
 obtain⟨i,hi,b,e⟩:=fe (md:=.any) (ops:=aC) (fuel:=3) (t:=t) (listed:= #[true,true,true,true,true,false,false,false,false]) (rs:= [5]) (by kernel_rfl) (by simp);rw[e];rw[aq.1 hi];refine LoneTo.goes (n:=1) ?_;simp only[aC,Tryz.f37];s_op
 s_stop
 exact NO c a d b
theorem NS(c:w.cell? ⟨pb,0,none⟩=some (.chan (some cb)))(a:w.cell? ⟨tb,1,none⟩=some (.int .i64 id))(d:∀t,LoneTo Tryz.prog Q (G ((base 37).at ⟨#[.pointer (some ⟨pb,0,none⟩),.pointer (some ⟨tb,0,none⟩),u2,u3,u4,u5,u6,u7,u8,u9,u10,u11,u12,u13,u14,u15,u16,u17,u18,u19,u20,u21,u22,.pointer (some ⟨pb,0,none⟩),.pointer (some ⟨pb,0,none⟩),.pointer (some ⟨pb,0,none⟩),.chan (some cb),.pointer (some ⟨tb,0,none⟩),.pointer (some ⟨tb,0,none⟩),.pointer (some ⟨tb,1,none⟩),.int .i64 id],[]⟩ (.inRegion aC (Region.linearise.go .any aC 1 t #[true,true,true,true,true,true,true,true,false] [])::kk)) cs) w)(t:Nat):LoneTo Tryz.prog Q (G ((base 37).at ⟨#[.pointer (some ⟨pb,0,none⟩),.pointer (some ⟨tb,0,none⟩),u2,u3,u4,u5,u6,u7,u8,u9,u10,u11,u12,u13,u14,u15,u16,u17,u18,u19,u20,u21,u22,.pointer (some ⟨pb,0,none⟩),.pointer (some ⟨pb,0,none⟩),.pointer (some ⟨pb,0,none⟩),undef,.pointer (some ⟨tb,0,none⟩),.pointer (some ⟨tb,0,none⟩),undef,undef],[]⟩ (.inRegion aC (Region.linearise.go .any aC 4 t #[true,true,true,false,true,true,false,false,false] [])::kk)) cs) w:=by
 obtain⟨i,hi,b,e⟩:=fe (md:=.any) (ops:=aC) (fuel:=3) (t:=t) (listed:= #[true,true,true,false,true,true,false,false,false]) (rs:= [3,6]) (by kernel_rfl) (by simp);rw[e];rcases ar.1 hi with rfl|hi
 ·skip
  refine LoneTo.goes (n:=1) ?_;simp only[aC,Tryz.f37];s_op
  s_stop
  exact NO c a d b
 ·rw[aq.1 hi]
  refine LoneTo.goes (n:=1) ?_;simp only[aC,Tryz.f37];s_op
  s_stop
  exact NR c a d b
theorem NV(c:w.cell? ⟨pb,0,none⟩=some (.chan (some cb)))(a:w.cell? ⟨tb,1,none⟩=some (.int .i64 id))(d:∀t,LoneTo Tryz.prog Q (G ((base 37).at ⟨#[.pointer (some ⟨pb,0,none⟩),.pointer (some ⟨tb,0,none⟩),u2,u3,u4,u5,u6,u7,u8,u9,u10,u11,u12,u13,u14,u15,u16,u17,u18,u19,u20,u21,u22,.pointer (some ⟨pb,0,none⟩),.pointer (some ⟨pb,0,none⟩),.pointer (some ⟨pb,0,none⟩),.chan (some cb),.pointer (some ⟨tb,0,none⟩),.pointer (some ⟨tb,0,none⟩),.pointer (some ⟨tb,1,none⟩),.int .i64 id],[]⟩ (.inRegion aC (Region.linearise.go .any aC 1 t #[true,true,true,true,true,true,true,true,false] [])::kk)) cs) w)(t:Nat):LoneTo Tryz.prog Q (G ((base 37).at ⟨#[.pointer (some ⟨pb,0,none⟩),.pointer (some ⟨tb,0,none⟩),u2,u3,u4,u5,u6,u7,u8,u9,u10,u11,u12,u13,u14,u15,u16,u17,u18,u19,u20,u21,u22,.pointer (some ⟨pb,0,none⟩),.pointer (some ⟨pb,0,none⟩),undef,undef,.pointer (some ⟨tb,0,none⟩),.pointer (some ⟨tb,0,none⟩),.pointer (some ⟨tb,1,none⟩),undef],[]⟩ (.inRegion aC (Region.linearise.go .any aC 4 t #[true,true,false,false,true,true,true,false,false] [])::kk)) cs) w:=by
 obtain⟨i,hi,b,e⟩:=fe (md:=.any) (ops:=aC) (fuel:=3) (t:=t) (listed:= #[true,true,false,false,true,true,true,false,false]) (rs:= [2,7]) (by kernel_rfl) (by simp);rw[e];rcases ar.1 hi with rfl|hi
 ·skip
  refine LoneTo.goes (n:=1) ?_;simp only[aC,Tryz.f37];s_op
  s_stop
  exact NR c a d b
 ·rw[aq.1 hi]
  refine LoneTo.goes (n:=1) ?_;simp only[aC,Tryz.f37];s_op
  s_stop
  exact NU c a d b
theorem NY(c:w.cell? ⟨pb,0,none⟩=some (.chan (some cb)))(a:w.cell? ⟨tb,1,none⟩=some (.int .i64 id))(d:∀t,LoneTo Tryz.prog Q (G ((base 37).at ⟨#[.pointer (some ⟨pb,0,none⟩),.pointer (some ⟨tb,0,none⟩),u2,u3,u4,u5,u6,u7,u8,u9,u10,u11,u12,u13,u14,u15,u16,u17,u18,u19,u20,u21,u22,.pointer (some ⟨pb,0,none⟩),.pointer (some ⟨pb,0,none⟩),.pointer (some ⟨pb,0,none⟩),.chan (some cb),.pointer (some ⟨tb,0,none⟩),.pointer (some ⟨tb,0,none⟩),.pointer (some ⟨tb,1,none⟩),.int .i64 id],[]⟩ (.inRegion aC (Region.linearise.go .any aC 1 t #[true,true,true,true,true,true,true,true,false] [])::kk)) cs) w)(t:Nat):LoneTo Tryz.prog Q (G ((base 37).at ⟨#[.pointer (some ⟨pb,0,none⟩),.pointer (some ⟨tb,0,none⟩),u2,u3,u4,u5,u6,u7,u8,u9,u10,u11,u12,u13,u14,u15,u16,u17,u18,u19,u20,u21,u22,.pointer (some ⟨pb,0,none⟩),undef,undef,undef,.pointer (some ⟨tb,0,none⟩),.pointer (some ⟨tb,0,none⟩),.pointer (some ⟨tb,1,none⟩),.int .i64 id],[]⟩ (.inRegion aC (Region.linearise.go .any aC 4 t #[true,false,false,false,true,true,true,true,false] [])::kk)) cs) w:=by
 obtain⟨i,hi,b,e⟩:=fe (md:=.any) (ops:=aC) (fuel:=3) (t:=t) (listed:= #[true,false,false,false,true,true,true,true,false]) (rs:= [1]) (by kernel_rfl) (by simp);rw[e];rw[aq.1 hi];refine LoneTo.goes (n:=1) ?_;simp only[aC,Tryz.f37];s_op
 s_stop
 exact NU c a d b
theorem QS(c:w.cell? ⟨pb,0,none⟩=some (.chan (some cb)))(a:w.cell? ⟨tb,1,none⟩=some (.int .i64 id))(d:∀t,LoneTo Tryz.prog Q (G ((base 37).at ⟨#[.pointer (some ⟨pb,0,none⟩),.pointer (some ⟨tb,0,none⟩),u2,u3,u4,u5,u6,u7,u8,u9,u10,u11,u12,u13,u14,u15,u16,u17,u18,u19,u20,u21,u22,.pointer (some ⟨pb,0,none⟩),.pointer (some ⟨pb,0,none⟩),.pointer (some ⟨pb,0,none⟩),.chan (some cb),.pointer (some ⟨tb,0,none⟩),.pointer (some ⟨tb,0,none⟩),.pointer (some ⟨tb,1,none⟩),.int .i64 id],[]⟩ (.inRegion aC (Region.linearise.go .any aC 1 t #[true,true,true,true,true,true,true,true,false] [])::kk)) cs) w)(t:Nat):LoneTo Tryz.prog Q (G ((base 37).at ⟨#[.pointer (some ⟨pb,0,none⟩),.pointer (some ⟨tb,0,none⟩),u2,u3,u4,u5,u6,u7,u8,u9,u10,u11,u12,u13,u14,u15,u16,u17,u18,u19,u20,u21,u22,.pointer (some ⟨pb,0,none⟩),.pointer (some ⟨pb,0,none⟩),.pointer (some ⟨pb,0,none⟩),.chan (some cb),undef,undef,undef,undef],[]⟩ (.inRegion aC (Region.linearise.go .any aC 5 t #[true,true,true,true,false,false,false,false,false] [])::kk)) cs) w:=by
 obtain⟨i,hi,b,e⟩:=fe (md:=.any) (ops:=aC) (fuel:=4) (t:=t) (listed:= #[true,true,true,true,false,false,false,false,false]) (rs:= [4]) (by kernel_rfl) (by simp);rw[e];rw[aq.1 hi];refine LoneTo.goes (n:=1) ?_;simp only[aC,Tryz.f37];s_op
 s_stop
 exact NP c a d b
theorem NT(c:w.cell? ⟨pb,0,none⟩=some (.chan (some cb)))(a:w.cell? ⟨tb,1,none⟩=some (.int .i64 id))(d:∀t,LoneTo Tryz.prog Q (G ((base 37).at ⟨#[.pointer (some ⟨pb,0,none⟩),.pointer (some ⟨tb,0,none⟩),u2,u3,u4,u5,u6,u7,u8,u9,u10,u11,u12,u13,u14,u15,u16,u17,u18,u19,u20,u21,u22,.pointer (some ⟨pb,0,none⟩),.pointer (some ⟨pb,0,none⟩),.pointer (some ⟨pb,0,none⟩),.chan (some cb),.pointer (some ⟨tb,0,none⟩),.pointer (some ⟨tb,0,none⟩),.pointer (some ⟨tb,1,none⟩),.int .i64 id],[]⟩ (.inRegion aC (Region.linearise.go .any aC 1 t #[true,true,true,true,true,true,true,true,false] [])::kk)) cs) w)(t:Nat):LoneTo Tryz.prog Q (G ((base 37).at ⟨#[.pointer (some ⟨pb,0,none⟩),.pointer (some ⟨tb,0,none⟩),u2,u3,u4,u5,u6,u7,u8,u9,u10,u11,u12,u13,u14,u15,u16,u17,u18,u19,u20,u21,u22,.pointer (some ⟨pb,0,none⟩),.pointer (some ⟨pb,0,none⟩),.pointer (some ⟨pb,0,none⟩),undef,.pointer (some ⟨tb,0,none⟩),undef,undef,undef],[]⟩ (.inRegion aC (Region.linearise.go .any aC 5 t #[true,true,true,false,true,false,false,false,false] [])::kk)) cs) w:=by
 obtain⟨i,hi,b,e⟩:=fe (md:=.any) (ops:=aC) (fuel:=4) (t:=t) (listed:= #[true,true,true,false,true,false,false,false,false]) (rs:= [3,5]) (by kernel_rfl) (by simp);rw[e];rcases ar.1 hi with rfl|hi
 ·skip
  refine LoneTo.goes (n:=1) ?_;simp only[aC,Tryz.f37];s_op
  s_stop
  exact NP c a d b
 ·rw[aq.1 hi]
  refine LoneTo.goes (n:=1) ?_;simp only[aC,Tryz.f37];s_op
  s_stop
  exact NS c a d b
theorem NW(c:w.cell? ⟨pb,0,none⟩=some (.chan (some cb)))(a:w.cell? ⟨tb,1,none⟩=some (.int .i64 id))(d:∀t,LoneTo Tryz.prog Q (G ((base 37).at ⟨#[.pointer (some ⟨pb,0,none⟩),.pointer (some ⟨tb,0,none⟩),u2,u3,u4,u5,u6,u7,u8,u9,u10,u11,u12,u13,u14,u15,u16,u17,u18,u19,u20,u21,u22,.pointer (some ⟨pb,0,none⟩),.pointer (some ⟨pb,0,none⟩),.pointer (some ⟨pb,0,none⟩),.chan (some cb),.pointer (some ⟨tb,0,none⟩),.pointer (some ⟨tb,0,none⟩),.pointer (some ⟨tb,1,none⟩),.int .i64 id],[]⟩ (.inRegion aC (Region.linearise.go .any aC 1 t #[true,true,true,true,true,true,true,true,false] [])::kk)) cs) w)(t:Nat):LoneTo Tryz.prog Q (G ((base 37).at ⟨#[.pointer (some ⟨pb,0,none⟩),.pointer (some ⟨tb,0,none⟩),u2,u3,u4,u5,u6,u7,u8,u9,u10,u11,u12,u13,u14,u15,u16,u17,u18,u19,u20,u21,u22,.pointer (some ⟨pb,0,none⟩),.pointer (some ⟨pb,0,none⟩),undef,undef,.pointer (some ⟨tb,0,none⟩),.pointer (some ⟨tb,0,none⟩),undef,undef],[]⟩ (.inRegion aC (Region.linearise.go .any aC 5 t #[true,true,false,false,true,true,false,false,false] [])::kk)) cs) w:=by
 obtain⟨i,hi,b,e⟩:=fe (md:=.any) (ops:=aC) (fuel:=4) (t:=t) (listed:= #[true,true,false,false,true,true,false,false,false]) (rs:= [2,6]) (by kernel_rfl) (by simp);rw[e];rcases ar.1 hi with rfl|hi
 ·skip
  refine LoneTo.goes (n:=1) ?_;simp only[aC,Tryz.f37];s_op
  s_stop
  exact NS c a d b
 ·rw[aq.1 hi]
  refine LoneTo.goes (n:=1) ?_;simp only[aC,Tryz.f37];s_op
  s_stop
  exact NV c a d b
theorem NZ(c:w.cell? ⟨pb,0,none⟩=some (.chan (some cb)))(a:w.cell? ⟨tb,1,none⟩=some (.int .i64 id))(d:∀t,LoneTo Tryz.prog Q (G ((base 37).at ⟨#[.pointer (some ⟨pb,0,none⟩),.pointer (some ⟨tb,0,none⟩),u2,u3,u4,u5,u6,u7,u8,u9,u10,u11,u12,u13,u14,u15,u16,u17,u18,u19,u20,u21,u22,.pointer (some ⟨pb,0,none⟩),.pointer (some ⟨pb,0,none⟩),.pointer (some ⟨pb,0,none⟩),.chan (some cb),.pointer (some ⟨tb,0,none⟩),.pointer (some ⟨tb,0,none⟩),.pointer (some ⟨tb,1,none⟩),.int .i64 id],[]⟩ (.inRegion aC (Region.linearise.go .any aC 1 t #[true,true,true,true,true,true,true,true,false] [])::kk)) cs) w)(t:Nat):LoneTo Tryz.prog Q (G ((base 37).at ⟨#[.pointer (some ⟨pb,0,none⟩),.pointer (some ⟨tb,0,none⟩),u2,u3,u4,u5,u6,u7,u8,u9,u10,u11,u12,u13,u14,u15,u16,u17,u18,u19,u20,u21,u22,.pointer (some ⟨pb,0,none⟩),undef,undef,undef,.pointer (some ⟨tb,0,none⟩),.pointer (some ⟨tb,0,none⟩),.pointer (some ⟨tb,1,none⟩),undef],[]⟩ (.inRegion aC (Region.linearise.go .any aC 5 t #[true,false,false,false,true,true,true,false,false] [])::kk)) cs) w:=by
 obtain⟨i,hi,b,e⟩:=fe (md:=.any) (ops:=aC) (fuel:=4) (t:=t) (listed:= #[true,false,false,false,true,true,true,false,false]) (rs:= [1,7]) (by kernel_rfl) (by simp);rw[e];rcases ar.1 hi with rfl|hi
 ·skip
  refine LoneTo.goes (n:=1) ?_;simp only[aC,Tryz.f37];s_op
  s_stop
  exact NV c a d b
 ·rw[aq.1 hi]
  refine LoneTo.goes (n:=1) ?_;simp only[aC,Tryz.f37];s_op
  s_stop
  exact NY c a d b
theorem QW(c:w.cell? ⟨pb,0,none⟩=some (.chan (some cb)))(a:w.cell? ⟨tb,1,none⟩=some (.int .i64 id))(d:∀t,LoneTo Tryz.prog Q (G ((base 37).at ⟨#[.pointer (some ⟨pb,0,none⟩),.pointer (some ⟨tb,0,none⟩),u2,u3,u4,u5,u6,u7,u8,u9,u10,u11,u12,u13,u14,u15,u16,u17,u18,u19,u20,u21,u22,.pointer (some ⟨pb,0,none⟩),.pointer (some ⟨pb,0,none⟩),.pointer (some ⟨pb,0,none⟩),.chan (some cb),.pointer (some ⟨tb,0,none⟩),.pointer (some ⟨tb,0,none⟩),.pointer (some ⟨tb,1,none⟩),.int .i64 id],[]⟩ (.inRegion aC (Region.linearise.go .any aC 1 t #[true,true,true,true,true,true,true,true,false] [])::kk)) cs) w)(t:Nat):LoneTo Tryz.prog Q (G ((base 37).at ⟨#[.pointer (some ⟨pb,0,none⟩),.pointer (some ⟨tb,0,none⟩),u2,u3,u4,u5,u6,u7,u8,u9,u10,u11,u12,u13,u14,u15,u16,u17,u18,u19,u20,u21,u22,undef,undef,undef,undef,.pointer (some ⟨tb,0,none⟩),.pointer (some ⟨tb,0,none⟩),.pointer (some ⟨tb,1,none⟩),.int .i64 id],[]⟩ (.inRegion aC (Region.linearise.go .any aC 5 t #[false,false,false,false,true,true,true,true,false] [])::kk)) cs) w:=by
 obtain⟨i,hi,b,e⟩:=fe (md:=.any) (ops:=aC) (fuel:=4) (t:=t) (listed:= #[false,false,false,false,true,true,true,true,false]) (rs:= [0]) (by kernel_rfl) (by simp);rw[e];rw[aq.1 hi];refine LoneTo.goes (n:=1) ?_;simp only[aC,Tryz.f37];s_op
 s_stop
 exact NY c a d b
theorem QT(c:w.cell? ⟨pb,0,none⟩=some (.chan (some cb)))(a:w.cell? ⟨tb,1,none⟩=some (.int .i64 id))(d:∀t,LoneTo Tryz.prog Q (G ((base 37).at ⟨#[.pointer (some ⟨pb,0,none⟩),.pointer (some ⟨tb,0,none⟩),u2,u3,u4,u5,u6,u7,u8,u9,u10,u11,u12,u13,u14,u15,u16,u17,u18,u19,u20,u21,u22,.pointer (some ⟨pb,0,none⟩),.pointer (some ⟨pb,0,none⟩),.pointer (some ⟨pb,0,none⟩),.chan (some cb),.pointer (some ⟨tb,0,none⟩),.pointer (some ⟨tb,0,none⟩),.pointer (some ⟨tb,1,none⟩),.int .i64 id],[]⟩ (.inRegion aC (Region.linearise.go .any aC 1 t #[true,true,true,true,true,true,true,true,false] [])::kk)) cs) w)(t:Nat):LoneTo Tryz.prog Q (G ((base 37).at ⟨#[.pointer (some ⟨pb,0,none⟩),.pointer (some ⟨tb,0,none⟩),u2,u3,u4,u5,u6,u7,u8,u9,u10,u11,u12,u13,u14,u15,u16,u17,u18,u19,u20,u21,u22,.pointer (some ⟨pb,0,none⟩),.pointer (some ⟨pb,0,none⟩),.pointer (some ⟨pb,0,none⟩),undef,undef,undef,undef,undef],[]⟩ (.inRegion aC (Region.linearise.go .any aC 6 t #[true,true,true,false,false,false,false,false,false] [])::kk)) cs) w:=by
 obtain⟨i,hi,b,e⟩:=fe (md:=.any) (ops:=aC) (fuel:=5) (t:=t) (listed:= #[true,true,true,false,false,false,false,false,false]) (rs:= [3,4]) (by kernel_rfl) (by simp);rw[e];rcases ar.1 hi with rfl|hi
 ·skip
  refine LoneTo.goes (n:=1) ?_;simp only[aC,Tryz.f37];s_op
  s_stop
  exact QS c a d b
 ·rw[aq.1 hi]
  refine LoneTo.goes (n:=1) ?_;simp only[aC,Tryz.f37];s_op
  s_stop
  exact NT c a d b
theorem NX(c:w.cell? ⟨pb,0,none⟩=some (.chan (some cb)))(a:w.cell? ⟨tb,1,none⟩=some (.int .i64 id))(d:∀t,LoneTo Tryz.prog Q (G ((base 37).at ⟨#[.pointer (some ⟨pb,0,none⟩),.pointer (some ⟨tb,0,none⟩),u2,u3,u4,u5,u6,u7,u8,u9,u10,u11,u12,u13,u14,u15,u16,u17,u18,u19,u20,u21,u22,.pointer (some ⟨pb,0,none⟩),.pointer (some ⟨pb,0,none⟩),.pointer (some ⟨pb,0,none⟩),.chan (some cb),.pointer (some ⟨tb,0,none⟩),.pointer (some ⟨tb,0,none⟩),.pointer (some ⟨tb,1,none⟩),.int .i64 id],[]⟩ (.inRegion aC (Region.linearise.go .any aC 1 t #[true,true,true,true,true,true,true,true,false] [])::kk)) cs) w)(t:Nat):LoneTo Tryz.prog Q (G ((base 37).at ⟨#[.pointer (some ⟨pb,0,none⟩),.pointer (some ⟨tb,0,none⟩),u2,u3,u4,u5,u6,u7,u8,u9,u10,u11,u12,u13,u14,u15,u16,u17,u18,u19,u20,u21,u22,.pointer (some ⟨pb,0,none⟩),.pointer (some ⟨pb,0,none⟩),undef,undef,.pointer (some ⟨tb,0,none⟩),undef,undef,undef],[]⟩ (.inRegion aC (Region.linearise.go .any aC 6 t #[true,true,false,false,true,false,false,false,false] [])::kk)) cs) w:=by
 obtain⟨i,hi,b,e⟩:=fe (md:=.any) (ops:=aC) (fuel:=5) (t:=t) (listed:= #[true,true,false,false,true,false,false,false,false]) (rs:= [2,5]) (by kernel_rfl) (by simp);rw[e];rcases ar.1 hi with rfl|hi
 ·skip
  refine LoneTo.goes (n:=1) ?_;simp only[aC,Tryz.f37];s_op
  s_stop
  exact NT c a d b
 ·rw[aq.1 hi]
  refine LoneTo.goes (n:=1) ?_;simp only[aC,Tryz.f37];s_op
  s_stop
  exact NW c a d b
theorem N0(c:w.cell? ⟨pb,0,none⟩=some (.chan (some cb)))(a:w.cell? ⟨tb,1,none⟩=some (.int .i64 id))(d:∀t,LoneTo Tryz.prog Q (G ((base 37).at ⟨#[.pointer (some ⟨pb,0,none⟩),.pointer (some ⟨tb,0,none⟩),u2,u3,u4,u5,u6,u7,u8,u9,u10,u11,u12,u13,u14,u15,u16,u17,u18,u19,u20,u21,u22,.pointer (some ⟨pb,0,none⟩),.pointer (some ⟨pb,0,none⟩),.pointer (some ⟨pb,0,none⟩),.chan (some cb),.pointer (some ⟨tb,0,none⟩),.pointer (some ⟨tb,0,none⟩),.pointer (some ⟨tb,1,none⟩),.int .i64 id],[]⟩ (.inRegion aC (Region.linearise.go .any aC 1 t #[true,true,true,true,true,true,true,true,false] [])::kk)) cs) w)(t:Nat):LoneTo Tryz.prog Q (G ((base 37).at ⟨#[.pointer (some ⟨pb,0,none⟩),.pointer (some ⟨tb,0,none⟩),u2,u3,u4,u5,u6,u7,u8,u9,u10,u11,u12,u13,u14,u15,u16,u17,u18,u19,u20,u21,u22,.pointer (some ⟨pb,0,none⟩),undef,undef,undef,.pointer (some ⟨tb,0,none⟩),.pointer (some ⟨tb,0,none⟩),undef,undef],[]⟩ (.inRegion aC (Region.linearise.go .any aC 6 t #[true,false,false,false,true,true,false,false,false] [])::kk)) cs) w:=by
 obtain⟨i,hi,b,e⟩:=fe (md:=.any) (ops:=aC) (fuel:=5) (t:=t) (listed:= #[true,false,false,false,true,true,false,false,false]) (rs:= [1,6]) (by kernel_rfl) (by simp);rw[e];rcases ar.1 hi with rfl|hi
 ·skip
  refine LoneTo.goes (n:=1) ?_;simp only[aC,Tryz.f37];s_op
  s_stop
  exact NW c a d b
 ·rw[aq.1 hi]
  refine LoneTo.goes (n:=1) ?_;simp only[aC,Tryz.f37];s_op
  s_stop
  exact NZ c a d b
theorem QX(c:w.cell? ⟨pb,0,none⟩=some (.chan (some cb)))(a:w.cell? ⟨tb,1,none⟩=some (.int .i64 id))(d:∀t,LoneTo Tryz.prog Q (G ((base 37).at ⟨#[.pointer (some ⟨pb,0,none⟩),.pointer (some ⟨tb,0,none⟩),u2,u3,u4,u5,u6,u7,u8,u9,u10,u11,u12,u13,u14,u15,u16,u17,u18,u19,u20,u21,u22,.pointer (some ⟨pb,0,none⟩),.pointer (some ⟨pb,0,none⟩),.pointer (some ⟨pb,0,none⟩),.chan (some cb),.pointer (some ⟨tb,0,none⟩),.pointer (some ⟨tb,0,none⟩),.pointer (some ⟨tb,1,none⟩),.int .i64 id],[]⟩ (.inRegion aC (Region.linearise.go .any aC 1 t #[true,true,true,true,true,true,true,true,false] [])::kk)) cs) w)(t:Nat):LoneTo Tryz.prog Q (G ((base 37).at ⟨#[.pointer (some ⟨pb,0,none⟩),.pointer (some ⟨tb,0,none⟩),u2,u3,u4,u5,u6,u7,u8,u9,u10,u11,u12,u13,u14,u15,u16,u17,u18,u19,u20,u21,u22,undef,undef,undef,undef,.pointer (some ⟨tb,0,none⟩),.pointer (some ⟨tb,0,none⟩),.pointer (some ⟨tb,1,none⟩),undef],[]⟩ (.inRegion aC (Region.linearise.go .any aC 6 t #[false,false,false,false,true,true,true,false,false] [])::kk)) cs) w:=by
 obtain⟨i,hi,b,e⟩:=fe (md:=.any) (ops:=aC) (fuel:=5) (t:=t) (listed:= #[false,false,false,false,true,true,true,false,false]) (rs:= [0,7]) (by kernel_rfl) (by simp);rw[e];rcases ar.1 hi with rfl|hi
 ·skip
  refine LoneTo.goes (n:=1) ?_;simp only[aC,Tryz.f37];s_op
  s_stop
  exact NZ c a d b
 ·rw[aq.1 hi]
  refine LoneTo.goes (n:=1) ?_;simp only[aC,Tryz.f37];s_op
  s_stop
  exact QW c a d b
theorem QU(c:w.cell? ⟨pb,0,none⟩=some (.chan (some cb)))(a:w.cell? ⟨tb,1,none⟩=some (.int .i64 id))(d:∀t,LoneTo Tryz.prog Q (G ((base 37).at ⟨#[.pointer (some ⟨pb,0,none⟩),.pointer (some ⟨tb,0,none⟩),u2,u3,u4,u5,u6,u7,u8,u9,u10,u11,u12,u13,u14,u15,u16,u17,u18,u19,u20,u21,u22,.pointer (some ⟨pb,0,none⟩),.pointer (some ⟨pb,0,none⟩),.pointer (some ⟨pb,0,none⟩),.chan (some cb),.pointer (some ⟨tb,0,none⟩),.pointer (some ⟨tb,0,none⟩),.pointer (some ⟨tb,1,none⟩),.int .i64 id],[]⟩ (.inRegion aC (Region.linearise.go .any aC 1 t #[true,true,true,true,true,true,true,true,false] [])::kk)) cs) w)(t:Nat):LoneTo Tryz.prog Q (G ((base 37).at ⟨#[.pointer (some ⟨pb,0,none⟩),.pointer (some ⟨tb,0,none⟩),u2,u3,u4,u5,u6,u7,u8,u9,u10,u11,u12,u13,u14,u15,u16,u17,u18,u19,u20,u21,u22,.pointer (some ⟨pb,0,none⟩),.pointer (some ⟨pb,0,none⟩),undef,undef,undef,undef,undef,undef],[]⟩ (.inRegion aC (Region.linearise.go .any aC 7 t #[true,true,false,false,false,false,false,false,false] [])::kk)) cs) w:=by
 obtain⟨i,hi,b,e⟩:=fe (md:=.any) (ops:=aC) (fuel:=6) (t:=t) (listed:= #[true,true,false,false,false,false,false,false,false]) (rs:= [2,4]) (by kernel_rfl) (by simp);rw[e];rcases ar.1 hi with rfl|hi
 ·skip
  refine LoneTo.goes (n:=1) ?_;simp only[aC,Tryz.f37];s_op
  s_stop
  exact QT c a d b
 ·rw[aq.1 hi]
  refine LoneTo.goes (n:=1) ?_;simp only[aC,Tryz.f37];s_op
  s_stop
  exact NX c a d b
theorem N1(c:w.cell? ⟨pb,0,none⟩=some (.chan (some cb)))(a:w.cell? ⟨tb,1,none⟩=some (.int .i64 id))(d:∀t,LoneTo Tryz.prog Q (G ((base 37).at ⟨#[.pointer (some ⟨pb,0,none⟩),.pointer (some ⟨tb,0,none⟩),u2,u3,u4,u5,u6,u7,u8,u9,u10,u11,u12,u13,u14,u15,u16,u17,u18,u19,u20,u21,u22,.pointer (some ⟨pb,0,none⟩),.pointer (some ⟨pb,0,none⟩),.pointer (some ⟨pb,0,none⟩),.chan (some cb),.pointer (some ⟨tb,0,none⟩),.pointer (some ⟨tb,0,none⟩),.pointer (some ⟨tb,1,none⟩),.int .i64 id],[]⟩ (.inRegion aC (Region.linearise.go .any aC 1 t #[true,true,true,true,true,true,true,true,false] [])::kk)) cs) w)(t:Nat):LoneTo Tryz.prog Q (G ((base 37).at ⟨#[.pointer (some ⟨pb,0,none⟩),.pointer (some ⟨tb,0,none⟩),u2,u3,u4,u5,u6,u7,u8,u9,u10,u11,u12,u13,u14,u15,u16,u17,u18,u19,u20,u21,u22,.pointer (some ⟨pb,0,none⟩),undef,undef,undef,.pointer (some ⟨tb,0,none⟩),undef,undef,undef],[]⟩ (.inRegion aC (Region.linearise.go .any aC 7 t #[true,false,false,false,true,false,false,false,false] [])::kk)) cs) w:=by
 obtain⟨i,hi,b,e⟩:=fe (md:=.any) (ops:=aC) (fuel:=6) (t:=t) (listed:= #[true,false,false,false,true,false,false,false,false]) (rs:= [1,5]) (by kernel_rfl) (by simp);rw[e];rcases ar.1 hi with rfl|hi
 ·skip
  refine LoneTo.goes (n:=1) ?_;simp only[aC,Tryz.f37];s_op
  s_stop
  exact NX c a d b
 ·rw[aq.1 hi]
  refine LoneTo.goes (n:=1) ?_;simp only[aC,Tryz.f37];s_op
  s_stop
  exact N0 c a d b
theorem QY(c:w.cell? ⟨pb,0,none⟩=some (.chan (some cb)))(a:w.cell? ⟨tb,1,none⟩=some (.int .i64 id))(d:∀t,LoneTo Tryz.prog Q (G ((base 37).at ⟨#[.pointer (some ⟨pb,0,none⟩),.pointer (some ⟨tb,0,none⟩),u2,u3,u4,u5,u6,u7,u8,u9,u10,u11,u12,u13,u14,u15,u16,u17,u18,u19,u20,u21,u22,.pointer (some ⟨pb,0,none⟩),.pointer (some ⟨pb,0,none⟩),.pointer (some ⟨pb,0,none⟩),.chan (some cb),.pointer (some ⟨tb,0,none⟩),.pointer (some ⟨tb,0,none⟩),.pointer (some ⟨tb,1,none⟩),.int .i64 id],[]⟩ (.inRegion aC (Region.linearise.go .any aC 1 t #[true,true,true,true,true,true,true,true,false] [])::kk)) cs) w)(t:Nat):LoneTo Tryz.prog Q (G ((base 37).at ⟨#[.pointer (some ⟨pb,0,none⟩),.pointer (some ⟨tb,0,none⟩),u2,u3,u4,u5,u6,u7,u8,u9,u10,u11,u12,u13,u14,u15,u16,u17,u18,u19,u20,u21,u22,undef,undef,undef,undef,.pointer (some ⟨tb,0,none⟩),.pointer (some ⟨tb,0,none⟩),undef,undef],[]⟩ (.inRegion aC (Region.linearise.go .any aC 7 t #[false,false,false,false,true,true,false,false,false] [])::kk)) cs) w:=by
 obtain⟨i,hi,b,e⟩:=fe (md:=.any) (ops:=aC) (fuel:=6) (t:=t) (listed:= #[false,false,false,false,true,true,false,false,false]) (rs:= [0,6]) (by kernel_rfl) (by simp);rw[e];rcases ar.1 hi with rfl|hi
 ·skip
  refine LoneTo.goes (n:=1) ?_;simp only[aC,Tryz.f37];s_op
  s_stop
  exact N0 c a d b
 ·rw[aq.1 hi]
  refine LoneTo.goes (n:=1) ?_;simp only[aC,Tryz.f37];s_op
  s_stop
  exact QX c a d b
theorem QV(c:w.cell? ⟨pb,0,none⟩=some (.chan (some cb)))(a:w.cell? ⟨tb,1,none⟩=some (.int .i64 id))(d:∀t,LoneTo Tryz.prog Q (G ((base 37).at ⟨#[.pointer (some ⟨pb,0,none⟩),.pointer (some ⟨tb,0,none⟩),u2,u3,u4,u5,u6,u7,u8,u9,u10,u11,u12,u13,u14,u15,u16,u17,u18,u19,u20,u21,u22,.pointer (some ⟨pb,0,none⟩),.pointer (some ⟨pb,0,none⟩),.pointer (some ⟨pb,0,none⟩),.chan (some cb),.pointer (some ⟨tb,0,none⟩),.pointer (some ⟨tb,0,none⟩),.pointer (some ⟨tb,1,none⟩),.int .i64 id],[]⟩ (.inRegion aC (Region.linearise.go .any aC 1 t #[true,true,true,true,true,true,true,true,false] [])::kk)) cs) w)(t:Nat):LoneTo Tryz.prog Q (G ((base 37).at ⟨#[.pointer (some ⟨pb,0,none⟩),.pointer (some ⟨tb,0,none⟩),u2,u3,u4,u5,u6,u7,u8,u9,u10,u11,u12,u13,u14,u15,u16,u17,u18,u19,u20,u21,u22,.pointer (some ⟨pb,0,none⟩),undef,undef,undef,undef,undef,undef,undef],[]⟩ (.inRegion aC (Region.linearise.go .any aC 8 t #[true,false,false,false,false,false,false,false,false] [])::kk)) cs) w:=by
 obtain⟨i,hi,b,e⟩:=fe (md:=.any) (ops:=aC) (fuel:=7) (t:=t) (listed:= #[true,false,false,false,false,false,false,false,false]) (rs:= [1,4]) (by kernel_rfl) (by simp);rw[e];rcases ar.1 hi with rfl|hi
 ·skip
  refine LoneTo.goes (n:=1) ?_;simp only[aC,Tryz.f37];s_op
  s_stop
  exact QU c a d b
 ·rw[aq.1 hi]
  refine LoneTo.goes (n:=1) ?_;simp only[aC,Tryz.f37];s_op
  s_stop
  exact N1 c a d b
theorem QZ(c:w.cell? ⟨pb,0,none⟩=some (.chan (some cb)))(a:w.cell? ⟨tb,1,none⟩=some (.int .i64 id))(d:∀t,LoneTo Tryz.prog Q (G ((base 37).at ⟨#[.pointer (some ⟨pb,0,none⟩),.pointer (some ⟨tb,0,none⟩),u2,u3,u4,u5,u6,u7,u8,u9,u10,u11,u12,u13,u14,u15,u16,u17,u18,u19,u20,u21,u22,.pointer (some ⟨pb,0,none⟩),.pointer (some ⟨pb,0,none⟩),.pointer (some ⟨pb,0,none⟩),.chan (some cb),.pointer (some ⟨tb,0,none⟩),.pointer (some ⟨tb,0,none⟩),.pointer (some ⟨tb,1,none⟩),.int .i64 id],[]⟩ (.inRegion aC (Region.linearise.go .any aC 1 t #[true,true,true,true,true,true,true,true,false] [])::kk)) cs) w)(t:Nat):LoneTo Tryz.prog Q (G ((base 37).at ⟨#[.pointer (some ⟨pb,0,none⟩),.pointer (some ⟨tb,0,none⟩),u2,u3,u4,u5,u6,u7,u8,u9,u10,u11,u12,u13,u14,u15,u16,u17,u18,u19,u20,u21,u22,undef,undef,undef,undef,.pointer (some ⟨tb,0,none⟩),undef,undef,undef],[]⟩ (.inRegion aC (Region.linearise.go .any aC 8 t #[false,false,false,false,true,false,false,false,false] [])::kk)) cs) w:=by
 obtain⟨i,hi,b,e⟩:=fe (md:=.any) (ops:=aC) (fuel:=7) (t:=t) (listed:= #[false,false,false,false,true,false,false,false,false]) (rs:= [0,5]) (by kernel_rfl) (by simp);rw[e];rcases ar.1 hi with rfl|hi
 ·skip
  refine LoneTo.goes (n:=1) ?_;simp only[aC,Tryz.f37];s_op
  s_stop
  exact N1 c a d b
 ·rw[aq.1 hi]
  refine LoneTo.goes (n:=1) ?_;simp only[aC,Tryz.f37];s_op
  s_stop
  exact QY c a d b
theorem Q0(c:w.cell? ⟨pb,0,none⟩=some (.chan (some cb)))(a:w.cell? ⟨tb,1,none⟩=some (.int .i64 id))(d:∀t,LoneTo Tryz.prog Q (G ((base 37).at ⟨#[.pointer (some ⟨pb,0,none⟩),.pointer (some ⟨tb,0,none⟩),u2,u3,u4,u5,u6,u7,u8,u9,u10,u11,u12,u13,u14,u15,u16,u17,u18,u19,u20,u21,u22,.pointer (some ⟨pb,0,none⟩),.pointer (some ⟨pb,0,none⟩),.pointer (some ⟨pb,0,none⟩),.chan (some cb),.pointer (some ⟨tb,0,none⟩),.pointer (some ⟨tb,0,none⟩),.pointer (some ⟨tb,1,none⟩),.int .i64 id],[]⟩ (.inRegion aC (Region.linearise.go .any aC 1 t #[true,true,true,true,true,true,true,true,false] [])::kk)) cs) w)(t:Nat):LoneTo Tryz.prog Q (G ((base 37).at ⟨#[.pointer (some ⟨pb,0,none⟩),.pointer (some ⟨tb,0,none⟩),u2,u3,u4,u5,u6,u7,u8,u9,u10,u11,u12,u13,u14,u15,u16,u17,u18,u19,u20,u21,u22,undef,undef,undef,undef,undef,undef,undef,undef],[]⟩ (.inRegion aC (Region.linearise.go .any aC 9 t #[false,false,false,false,false,false,false,false,false] [])::kk)) cs) w:=by
 obtain⟨i,hi,b,e⟩:=fe (md:=.any) (ops:=aC) (fuel:=8) (t:=t) (listed:= #[false,false,false,false,false,false,false,false,false]) (rs:= [0,4]) (by kernel_rfl) (by simp);rw[e];rcases ar.1 hi with rfl|hi
 ·skip
  refine LoneTo.goes (n:=1) ?_;simp only[aC,Tryz.f37];s_op
  s_stop
  exact QV c a d b
 ·rw[aq.1 hi]
  refine LoneTo.goes (n:=1) ?_;simp only[aC,Tryz.f37];s_op
  s_stop
  exact QZ c a d b
end
theorem H6{P:Program}{c:Bool}{b:Frame}{a:Act}{k:List Item}{cs:List Frame}{w:World}{id:Nat}{ops:Array Oper}:stepG P c (G (b.at a (.code (.region id ops true)::k)) cs) w=.go (G (b.at a (.inRegion ops (Region.schedule (P.follows .mixedOrders) ops (w.tape w.drawn (.order b.fn id)))::k)) cs) {w with drawn:=w.drawn+1}:=by
 simp[G,stepG,stepG.exec,Frame.at,choose,Sem.run,Question.forced,Question.cut]
set_option maxRecDepth 100000 in
theorem Nu{w:World}{b:Nat}{c:Array Value}{t:TypeId}(i:w.heap[b]? =some (.cells c t (0,0))) (hc:0<c.size):(binOp .neq 39 (.pointer (some ⟨b,0,none⟩)) (.pointer (some ⟨b,0,none⟩))).run Tryz.prog w=.ok (.bool false) w:=by
 have d:Tryz.prog.underlying 39=some (.pointer 130):=by kernel_rfl
 have hz:Nat.beq (bK Tryz.prog 130) 0=false:=by kernel_rfl
 have e:dQ w.heap ⟨b,0,none⟩:=⟨c,t,i,hc⟩;have h:P7 Tryz.prog 39 true (.pointer (some ⟨b,0,none⟩)) (.pointer (some ⟨b,0,none⟩)) (fun v _=>v=.bool false) w.heap:=by
  unfold P7;rw[d];simp only[];rw[hz];refine⟨trivial,fun x y hx f=>?_,by simp⟩
  cases hx;cases f;exact⟨e,e⟩
 unfold P7 at h;rw[d]at h;obtain⟨_,a,_⟩:=h;obtain⟨_,_,v,S,g,m,k⟩:=zj (P:=Tryz.prog) (t:=39) (neg:=true) (x:=.pointer (some ⟨b,0,none⟩)) (y:=.pointer (some ⟨b,0,none⟩)) (K:=fun v S=>v=.bool false∧Ox S w.heap) (h:=w.heap) (by
  unfold P7
  rw[d]
  simp only[]
  rw[hz]
  exact⟨trivial,a,by simp,a⟩)
 obtain⟨rfl,j⟩:=g;exact k w j
set_option maxRecDepth 100000 in
set_option maxHeartbeats 4000000 in
theorem NM{w:World}{pb tb cb cap s r:Nat}{id:Int}{buf:Array Value}(m:w.heap[pb]? =some (.cells #[.chan (some cb)] 130 (0,0))) (b:w.heap[tb]? =some (.cells #[.pointer (some ⟨pb,0,none⟩),.int .i64 id,.bool true] 140 (0,0))) (hc:w.heap[cb]? =some (.chan cap buf false s r false)) (o:buf.size<cap) (j:pb≠tb) (f:cb≠tb):
  Calls Tryz.prog 37 #[.pointer (some ⟨pb,0,none⟩),.pointer (some ⟨tb,0,none⟩)] w fun e w'=>e=.returned (.int .i64 0)∧∃n,w'=({w.setCell ⟨tb,2,none⟩ (.bool false)with drawn:=n}:World).setChan cb cap (buf.push (.int .i64 id)) false (s+1) r false:=by
 refine calls_of_loneTo fun cs=>?_
 have e:Frame.enter Tryz.prog 37 #[.pointer (some ⟨pb,0,none⟩),.pointer (some ⟨tb,0,none⟩)] .normal=(base 37).at ⟨#[.pointer (some ⟨pb,0,none⟩),.pointer (some ⟨tb,0,none⟩),undef,undef,undef,undef,undef,undef,undef,undef,undef,undef,undef,undef,undef,undef,undef,undef,undef,undef,undef,undef,undef,undef,undef,undef,undef,undef,undef,undef,undef],[]⟩ [.code (Tryz.f37.body.getD .skip)]:=by
  simp[Frame.enter,Frame.at,Tryz.func37,base,Tryz.f37]
 rw[e];have v:=uX b (i:=0) rfl;have u:=uX b (i:=2) rfl;have p:=LW b (i:=2);have q:=Nu m (by simp);refine LoneTo.goes (n:=52) ?_;simp only[Tryz.f37,nP];s_c stepG_seq
 s_reg
 s_op
 s_c stepG_region_end
 s_c stepG_seq
 s_c stepG_seq
 s_reg
 s_op
 s_op
 s_op
 s_op
 s_call Tryz.func79 (by kernel_rfl) Tryz.f79
 s_c stepG_seq
 s_reg
 s_op
 s_c stepG_region_end
 s_c stepG_seq
 s_reg
 s_op
 s_op
 s_op
 s_op
 s_op
 s_op
 s_op
 s_op
 s_op
 s_c stepG_region_end
 s_c stepG_ret'
 s_leave1 Tryz.func79
 s_op
 s_op
 s_op
 s_op
 s_op
 s_op
 s_op
 s_op
 s_op
 s_op
 s_c stepG_region_end
 s_cond false
 s_c stepG_skip
 s_c stepG_seq
 s_reg
 s_op
 s_op
 s_op
 s_op
 s_c stepG_region_end
 s_c stepG_seq
 s_in
 rw[H6];simp only[goes_go];refine⟨trivial,?_⟩;s_stop
 have hm:Tryz.prog.follows .mixedOrders=true:=Tryz.mixed;simp only[Region.schedule,hm,Bool.true_or,if_true,Region.linearise];have k:=Upd.hset (M:=(· =tb)) w.heap (a:=⟨tb,2,none⟩) (.bool false) rfl
 have d:=k.get m (fun e=>j e)
 have g:=k.get hc (fun e=>f e)
 refine Q0 (pb:=pb) (tb:=tb) (cb:=cb) (id:=id) (uX d (i:=0) rfl) ?_ (fun t=>?_) _
 ·show(w.setCell ⟨tb,2,none⟩ (.bool false)).cell? ⟨tb,1,none⟩=_
  rw[World.cell?_setCell_other _ _ _ _ (by simp)];exact uX b (i:=1) rfl
 ·obtain⟨i,hi,x,e⟩:=fe (md:=.any) (ops:=aC) (fuel:=0) (t:=t) (listed:= #[true,true,true,true,true,true,true,true,false]) (rs:= [8]) (by kernel_rfl) (by simp)
  rw[e,aq.1 hi];simp only[aC,Tryz.f37,Region.linearise.go,List.reverse_nil];refine LoneTo.step (step_lone_send_room (c:=cb) (cap:=cap) (buf:=buf) (s:=s) (r:=r) (tm:=false) (stepG_comm (cases:= #[scase cb (.int .i64 id) (.tuple #[])]) (blocking:=true) (shape:=.send) (w':={w.setCell ⟨tb,2,none⟩ (.bool false)with drawn:=w.drawn+1}) rfl rfl (by decide) (by simp[execOp,scase,Act.eval])) g o) ?_
  rw[Frame.finish_at];walk_nrm
  refine LoneTo.goes (n:=6) ?_;s_c stepG_region_end
  s_c stepG_seq
  s_reg
  s_op
  s_c stepG_region_end
  s_c stepG_ret'
  s_stop
  refine LoneTo.done ⟨.returned (.int .i64 0),_,rfl,⟨rfl,_,rfl⟩,rfl,rfl,rfl,rfl,_,Tryz.func37,by simp[results,Tryz.f37,Frame.at]⟩
end Go.Proofs
namespace Go.Proofs
open Go.Lift
def Hi(s:ByteArray)(i:Nat):Int:=match s[i]? with|some b=>(b.toNat:Int)|none=>0
def PX(b:Int)(n:Int):Int:=IntKind.wrap .u64 ((IntKind.wrap .u64 b)*2^(min n.toNat (IntKind.bits .u64)))
def wj(s:ByteArray):Nat→Int→Int
 |0,t=>t
 |k+1,t=>wj s k (BP t (if k=0 then IntKind.wrap .u64 (Hi s 0)else PX (Hi s k) ((8*k:Nat):Int)))
def vu(s:ByteArray):Int:=wj s s.size 0
theorem qC{s:ByteArray}{i:Nat}(h:i<s.size):∃b,s[i]? =some b∧Hi s i=(b.toNat:Int):=⟨s[i],getElem?_pos s i h,by simp[Hi,getElem?_pos s i h]⟩
theorem Ke{s:ByteArray}(E:s.size≤8){h:ad}{K:Int→ad→Prop}(g:K (vu s) h):HC PG sF [.string s] [.c (.int .u64)] K h:=by
 refine JC s ?_;unfold Cz;refine Join.intro (fun t d=>d=h∧1≤s.size∧wj s 1 t=wj s s.size 0) (fun P m=>?_) ?_
 ·refine Join.intro (fun t d=>d=h∧2≤s.size∧wj s 2 t=wj s s.size 0) (fun D p=>?_) ?_
  ·refine Join.intro (fun t d=>d=h∧3≤s.size∧wj s 3 t=wj s s.size 0) (fun M j=>?_) ?_
   ·refine Join.intro (fun t d=>d=h∧4≤s.size∧wj s 4 t=wj s s.size 0) (fun R4 o=>?_) ?_
    ·refine Join.intro (fun t d=>d=h∧5≤s.size∧wj s 5 t=wj s s.size 0) (fun J q=>?_) ?_
     ·refine Join.intro (fun t d=>d=h∧6≤s.size∧wj s 6 t=wj s s.size 0) (fun I n=>?_) ?_
      ·refine Join.intro (fun t d=>d=h∧7≤s.size∧wj s 7 t=wj s s.size 0) (fun H k=>?_) ?_
       ·refine CondP.intro (fun e=>?_) fun v=>?_
        ·have e:s.size=8:=by have:=of_decide_eq_true (by simpa using e:decide ((s.size:Int)=8)=true);omega
         obtain⟨b,a,hv⟩:=qC (s:=s) (i:=7) (by omega);refine⟨b,by decide,a,by decide,k _ _ ⟨rfl,by omega,?_⟩⟩
         rw[e,←hv];rfl
        refine CondP.intro (fun e=>?_) fun B=>?_
        ·have e:s.size=7:=by have:=of_decide_eq_true (by simpa using e:decide ((s.size:Int)=7)=true);omega
         exact k _ _ ⟨rfl,by omega,by rw[e]⟩
        refine CondP.intro (fun e=>?_) fun w=>?_
        ·have e:s.size=6:=by have:=of_decide_eq_true (by simpa using e:decide ((s.size:Int)=6)=true);omega
         exact n _ _ ⟨rfl,by omega,by rw[e]⟩
        refine CondP.intro (fun e=>?_) fun y=>?_
        ·have e:s.size=5:=by have:=of_decide_eq_true (by simpa using e:decide ((s.size:Int)=5)=true);omega
         exact q _ _ ⟨rfl,by omega,by rw[e]⟩
        refine CondP.intro (fun e=>?_) fun x=>?_
        ·have e:s.size=4:=by have:=of_decide_eq_true (by simpa using e:decide ((s.size:Int)=4)=true);omega
         exact o _ _ ⟨rfl,by omega,by rw[e]⟩
        refine CondP.intro (fun e=>?_) fun A=>?_
        ·have e:s.size=3:=by have:=of_decide_eq_true (by simpa using e:decide ((s.size:Int)=3)=true);omega
         exact j _ _ ⟨rfl,by omega,by rw[e]⟩
        refine CondP.intro (fun e=>?_) fun z=>?_
        ·have e:s.size=2:=by have:=of_decide_eq_true (by simpa using e:decide ((s.size:Int)=2)=true);omega
         exact p _ _ ⟨rfl,by omega,by rw[e]⟩
        refine CondP.intro (fun e=>?_) fun u=>?_
        ·have e:s.size=1:=by have:=of_decide_eq_true (by simpa using e:decide ((s.size:Int)=1)=true);omega
         exact m _ _ ⟨rfl,by omega,by rw[e]⟩
        have e:s.size=0:=by
         have C:¬(s.size:Int)=1:=by simpa using u
         have F:¬(s.size:Int)=2:=by simpa using z
         have O:¬(s.size:Int)=3:=by simpa using A
         have q4:¬(s.size:Int)=4:=by simpa using x
         have G:¬(s.size:Int)=5:=by simpa using y
         have Q:¬(s.size:Int)=6:=by simpa using w
         have L:¬(s.size:Int)=7:=by simpa using B
         have N:¬(s.size:Int)=8:=by simpa using v
         omega
        unfold vu at g;rw[e]at g;exact g
       ·rintro t _ ⟨rfl,c,f⟩
        obtain⟨b,a,hv⟩:=qC (s:=s) (i:=6) (by omega);refine⟨b,by decide,a,by decide,n _ _ ⟨rfl,by omega,?_⟩⟩
        rw[←f,←hv];rfl
      ·rintro t _ ⟨rfl,c,f⟩
       obtain⟨b,a,hv⟩:=qC (s:=s) (i:=5) (by omega);refine⟨b,by decide,a,by decide,q _ _ ⟨rfl,by omega,?_⟩⟩
       rw[←f,←hv];rfl
     ·rintro t _ ⟨rfl,c,f⟩
      obtain⟨b,a,hv⟩:=qC (s:=s) (i:=4) (by omega);refine⟨b,by decide,a,by decide,o _ _ ⟨rfl,by omega,?_⟩⟩
      rw[←f,←hv];rfl
    ·rintro t _ ⟨rfl,c,f⟩
     obtain⟨b,a,hv⟩:=qC (s:=s) (i:=3) (by omega);refine⟨b,by decide,a,by decide,j _ _ ⟨rfl,by omega,?_⟩⟩
     rw[←f,←hv];rfl
   ·rintro t _ ⟨rfl,c,f⟩
    obtain⟨b,a,hv⟩:=qC (s:=s) (i:=2) (by omega);refine⟨b,by decide,a,by decide,p _ _ ⟨rfl,by omega,?_⟩⟩
    rw[←f,←hv];rfl
  ·rintro t _ ⟨rfl,c,f⟩
   obtain⟨b,a,hv⟩:=qC (s:=s) (i:=1) (by omega);refine⟨b,by decide,a,by decide,m _ _ ⟨rfl,by omega,?_⟩⟩
   rw[←f,←hv];rfl
 ·rintro t _ ⟨rfl,c,f⟩
  obtain⟨b,a,hv⟩:=qC (s:=s) (i:=0) (by omega);refine⟨b,by decide,a,?_⟩
  unfold vu at g;rw[←f]at g;rw[←hv];exact g
end Go.Proofs
namespace Go.Proofs
open Go.Lift
def o8(m:Int)(s:Q4):Q4:=
 let r:=mI 2 (s.1,s.2.1,s.2.2.1,cV s.2.2.2 m)
 (cV r.1 m,r.2)
theorem Kl{m:Int}{h:ad}{b:Nat}{t:TypeId}{s:Q4}(d:h[b]? =some (.cells (q4 s) t (0,0))) {K:Unit→ad→Prop}
  (g:∀h',h'[b]? =some (.cells (q4 (o8 m s)) t (0,0))→Upd (· =b) h h'→K () h'):HC PG kQ [.pointer (some ⟨b,0,none⟩),.int .u64 m] [] K h:=by
 refine zy _ _ ?_;unfold rR cT dz cL jP;have c:∀{h:ad} {s:Q4} {i:Nat},h[b]? =some (.cells (q4 s) t (0,0))→aK h ⟨b,0+i,none⟩=(q4 s)[i]?:=fun d=>by rw[aB];exact aY d
 have w:∀{h:ad} {s:Q4} {i:Nat},h[b]? =some (.cells (q4 s) t (0,0))→i<4→Wr h ⟨b,0+i,none⟩:=fun d hi=>by rw[aB];exact gS d hi
 simp only[show((0:Int)).toNat*1=0 from rfl,show((3:Int)).toNat*1=3 from rfl]
 refine⟨_,rfl,by decide,_,c (i:=3) d,_,rfl,by decide,w (i:=3) d (by decide),nD (s':=(s.1,s.2.1,s.2.2.1,cV s.2.2.2 m)) d rfl fun v k j=>?_⟩
 refine DI (n:=2) (by omega) k fun u a e=>?_
 have p:o8 m s=(cV (mI 2 (s.1,s.2.1,s.2.2.1,cV s.2.2.2 m)).1 m,(mI 2 (s.1,s.2.1,s.2.2.1,cV s.2.2.2 m)).2):=by unfold o8;rfl
 rw[p]at g;generalize mI 2 (s.1,s.2.1,s.2.2.1,cV s.2.2.2 m)=r at a g;refine⟨_,rfl,by decide,_,c (i:=0) a,_,rfl,by decide,w (i:=0) a (by decide),nD (s':=(cV r.1 m,r.2)) a rfl fun q f o=>?_⟩
 exact g _ f (j.tr (e.tr o))
def zP:Nat→ByteArray→Q4→ByteArray×Q4
 |0,s,q=>(s,q)
 |n+1,s,q=>if 8≤s.size then zP n (s.extract 8 s.size) (o8 (vu (s.extract 0 8)) q)else(s,q)
def QR(r:Q4):Int:=cV (cV (cV r.1 r.2.1) r.2.2.1) r.2.2.2
def PH(q:Q4):Int:=QR (mI 4 (q.1,q.2.1,cV q.2.2.1 255,q.2.2.2))
def RI(n:Nat)(g:ByteArray×Q4):Int:=PH (o8 (BP (vu g.1) (PX (n:Int) 56)) g.2)
def H4(k0 k1:Int)(s:ByteArray):Int:=
 RI s.size (zP s.size s (cV k0 8317987319222330741,cV k1 7237128888997146477,cV k0 7816392313619706465,cV k1 8387220255154660723))
theorem PI{a:ad}{b:Nat}{t:TypeId}{r:Q4}(g:a[b]? =some (.cells (q4 r) t (0,0))) {K:Int→Prop} (f:K (QR r)):
  (((0:Int)≤(0:Int)∧(0:Int)<((4:Nat):Int))∧
   ∃v30:Int,aK a (adr ⟨b,0,none⟩ ((0:Int).toNat*1))=some (.int .u64 v30)∧
   (((0:Int)≤(1:Int)∧(1:Int)<((4:Nat):Int))∧
    ∃v31:Int,aK a (adr ⟨b,0,none⟩ ((1:Int).toNat*1))=some (.int .u64 v31)∧
    Bd (IntKind.wrap .u64 (ah (IntKind.bits .u64) v30^^^ah (IntKind.bits .u64) v31).toNat:Int) (fun n32=>
     (((0:Int)≤(2:Int)∧(2:Int)<((4:Nat):Int))∧
      ∃v33:Int,aK a (adr ⟨b,0,none⟩ ((2:Int).toNat*1))=some (.int .u64 v33)∧
      Bd (IntKind.wrap .u64 (ah (IntKind.bits .u64) n32^^^ah (IntKind.bits .u64) v33).toNat:Int) (fun d=>
       (((0:Int)≤(3:Int)∧(3:Int)<((4:Nat):Int))∧
        ∃v35:Int,aK a (adr ⟨b,0,none⟩ ((3:Int).toNat*1))=some (.int .u64 v35)∧
        Bd (IntKind.wrap .u64 (ah (IntKind.bits .u64) d^^^ah (IntKind.bits .u64) v35).toNat:Int) (fun e=>
         K e))))))):=by
 have c:∀{i:Nat},aK a ⟨b,0+i,none⟩=(q4 r)[i]?:=by intro i;rw[aB];exact aY g
 exact⟨by decide,_,c (i:=0),by decide,_,c (i:=1),by decide,_,c (i:=2),by decide,_,c (i:=3),f⟩
theorem PF{a:ad}{b:Nat}{t:TypeId}{q:Q4}(j:a[b]? =some (.cells (q4 q) t (0,0))) {K:Unit→ad→Prop}
  (o:∀h',h'[b]? =some (.cells (q4 (mI 4 (q.1,q.2.1,cV q.2.2.1 255,q.2.2.2))) t (0,0))→Upd (· =b) a h'→K () h'):
  (((0:Int)≤(2:Int)∧(2:Int)<((4:Nat):Int))∧
   ∃v25:Int,aK a (adr ⟨b,0,none⟩ ((2:Int).toNat*1))=some (.int .u64 v25)∧
   Bd (IntKind.wrap .u64 (ah (IntKind.bits .u64) v25^^^ah (IntKind.bits .u64) 255).toNat:Int) (fun k=>
    (((0:Int)≤(2:Int)∧(2:Int)<((4:Nat):Int))∧
     (Wr a (adr ⟨b,0,none⟩ ((2:Int).toNat*1))∧
      At (hset a (adr ⟨b,0,none⟩ ((2:Int).toNat*1)) (.int .u64 k)) (fun m=>
       HC PG gU [.pointer (some ⟨b,0,none⟩),.int .i64 4] [] K m))))):=by
 have c:∀{i:Nat},aK a ⟨b,0+i,none⟩=(q4 q)[i]?:=by intro i;rw[aB];exact aY j
 refine⟨by decide,_,c (i:=2),by decide,by rw[show((2:Int)).toNat*1=2 from rfl,bF];exact gS j (by simp[q4]),?_⟩
 refine nD (s':=(q.1,q.2.1,cV q.2.2.1 255,q.2.2.2)) j rfl fun s g d=>?_
 exact DI (n:=4) (by omega) g fun p e f=>o p e (d.tr f)
theorem bL{h:ad}{k:ad→Prop}(a:k h):At h k:=a
theorem Qs{k0 k1:Int}{s:ByteArray}{h:ad}{K:Int→ad→Prop}(B:∀p,Upd No h p→K (H4 k0 k1 s) p):HC PG y9 [.agg #[.int .u64 k0,.int .u64 k1],.string s] [.c (.int .u64)] K h:=by
 refine Mh (k0,k1) s ?_;unfold Eu cT dz af nv cL jP RN K7 K9 OW;have t:=Upd.hnew No h [.int .u64 k0,.int .u64 k1] jJ;have b1:=cJ h [.int .u64 k0,.int .u64 k1] jJ;have G:=jM h [.int .u64 k0,.int .u64 k1] jJ;refine bL ?_;simp only[fy h];generalize hnew h [.int .u64 k0,.int .u64 k1] jJ=h1 at t b1 G;refine⟨k0,by rw[bF,aY b1];rfl,k1,by rw[bF,aY b1];rfl,k0,by rw[bF,aY b1];rfl,k1,by rw[bF,aY b1];rfl,?_⟩
 have F:=Upd.hnew No h1 [.int .u64 0,.int .u64 0,.int .u64 0,.int .u64 0] il;have b2:=cJ h1 [.int .u64 0,.int .u64 0,.int .u64 0,.int .u64 0] il;simp only[fy h1];simp only[Bd];refine bL ?_;refine⟨.inr ⟨_,rfl,fun j M=>by rw[bF];exact gS b2 (by simp at M⊢;omega)⟩,?_⟩
 refine bL ?_;rw[ia _ _ 0 0 _ b2 (by simp)];have b3:=jh (o:=.cells (q4 (cV k0 8317987319222330741,cV k1 7237128888997146477,cV k0 7816392313619706465,cV k1 8387220255154660723)) il (0,0)) b2;have L:Upd No h _:=t.tr (F.trans (M':=(· =h1.size)) (Upd.set (hnew h1 [.int .u64 0,.int .u64 0,.int .u64 0,.int .u64 0] il) (.cells (q4 (cV k0 8317987319222330741,cV k1 7237128888997146477,cV k0 7816392313619706465,cV k1 8387220255154660723)) il (0,0)) rfl) fun b a=>.inr (Nat.le_of_eq a.symm))
 refine LoopP.ghost (fun(g:Nat×Q4) (d:ByteArray) p=>d.size≤g.1∧p[h1.size]? =some (.cells (q4 g.2) il (0,0))∧Upd No h p∧zP g.1 d g.2=zP s.size s (cV k0 8317987319222330741,cV k1 7237128888997146477,cV k0 7816392313619706465,cV k1 8387220255154660723)) (fun g=>g.1) (s.size,_)
  ⟨Nat.le_refl _,b3,L,rfl⟩ ?_
 rintro I ⟨n,q⟩ d p ⟨H,a,D,u⟩ J;simp only at H a u;have f:∀b,b=h1.size→No b∨h.size≤b:=fun b a=>.inr (by omega)
 refine aH (fun v=>?_) fun z=>?_
 ·have v:8≤d.size:=by omega
  cases n with
  |zero=>omega
  |succ n=>
   refine⟨by omega,Ke (by rw[fG];show min 8 _-0≤8;omega) (Kl a fun N e k=>⟨by omega,?_⟩)⟩
   have E:((8:Int)).toNat=8:=rfl;rw[E]at e⊢;refine J (n,o8 (vu (d.extract 0 8)) q) _ _ ⟨by simp only[fG];omega,e,D.trans k f,?_⟩ (by simp only;omega);rw[←u];simp only[zP,if_pos v]
 ·have z:d.size<8:=by omega
  have u:(d,q)=zP s.size s (cV k0 8317987319222330741,cV k1 7237128888997146477,cV k0 7816392313619706465,cV k1 8387220255154660723):=by
   rw[←u];cases n with
   |zero=>rfl
   |succ n=>simp only[zP,if_neg (show ¬8≤d.size by omega)]
  have c:∀{h:ad} {s:Q4} {i:Nat},h[h1.size]? =some (.cells (q4 s) il (0,0))→aK h ⟨h1.size,0+i,none⟩=(q4 s)[i]?:=fun a=>by rw[aB];exact aY a
  have w:∀{h:ad} {s:Q4} {i:Nat},h[h1.size]? =some (.cells (q4 s) il (0,0))→i<4→Wr h ⟨h1.size,0+i,none⟩:=fun a hi=>by rw[aB];exact gS a hi
  have A:H4 k0 k1 s=PH (o8 (BP (vu d) (PX (s.size:Int) 56)) q):=by unfold H4;rw[←u];rfl
  rw[A]at B;refine Ke (by omega) ⟨by decide,Kl (m:=BP (vu d) (PX (s.size:Int) 56)) a fun N e k=>?_⟩
  refine PF e fun C y x=>PI (K:=fun n=>K n C) y ?_
  exact B C ((D.trans k f).trans x f)
structure Hs where
 k0:Int
 k1:Int
 mask:Int
def ko(h:Hs)(s:ByteArray):Int:=Hk (H4 h.k0 h.k1 s) h.mask
theorem sB{x:Hs}{s:ByteArray}{h:ad}{K:Int→ad→Prop}(c:∀h',Upd No h h'→K (ko x s) h'):HC PG dR [.agg #[.int .u64 x.k0,.int .u64 x.k1,.int .u64 x.mask],.string s] [.c (.int .u64)] K h:=by
 refine yb (x.k0,x.k1,x.mask) s ?_;unfold qI af cz y2 Rz;have a:=Upd.hnew No h [.int .u64 x.k0,.int .u64 x.k1,.int .u64 x.mask] cu;have b1:=cJ h [.int .u64 x.k0,.int .u64 x.k1,.int .u64 x.mask] cu;simp only[At,fy h];generalize hnew h [.int .u64 x.k0,.int .u64 x.k1,.int .u64 x.mask] cu=h1 at a b1;refine⟨x.k0,by rw[bF,bF,aY b1];rfl,x.k1,by rw[bF,bF,aY b1];rfl,x.mask,by rw[bF,aY b1];rfl,?_⟩
 refine Qs fun d b=>⟨by rw[bF,aY (b.get0 b1)];rfl,c _ (a.tr b)⟩
theorem Aa(x:Hs)(s:ByteArray):0≤ko x s∧ko x s<18446744073709551616:=yP _
end Go.Proofs
