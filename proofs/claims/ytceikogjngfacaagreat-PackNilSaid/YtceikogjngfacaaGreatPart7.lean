/- A part of the proof that the named laws of this program answer true, whatever the input. -/
import Derived.Test.YtceikogjngfacaaGreatTreeF0
import Derived.Test.YtceikogjngfacaaGreatTreeF1
import Derived.Test.YtceikogjngfacaaGreatTreeF2
import Derived.Test.YtceikogjngfacaaGreatPart0
import Derived.Conc.LoneSelect
import Derived.KernelRfl
import Derived.Laws.Rows
import Derived.Test.YtceikogjngfacaaGreatPart1
import Derived.Test.YtceikogjngfacaaGreatPart6
open Array renaming getElem?_eq_some_iff→ct,getElem?_setIfInBounds→cR,getElem?_push→kX,size_setIfInBounds→pk
open List renaming range→fB,mem_singleton→aA,mem_cons→au,map_cons→cx,map_map→ik,mem_map→bQ,getElem_of_mem→cd,length_map→fU,nodup_cons→fT,mem_cons_of_mem→aR
open Nat renaming le_refl→aq
open Option renaming getD_some→rQ
namespace Go.Proofs
open Go Go.Lift Go.Conc Go.RowKit
theorem Ab{w:World}{b i:Nat}{c:Array Value}{t:TypeId}{v:Value}(h:w.heap[b]? =some (.cells c t (0,0))) (hv:c[i]? =some v):w.cell? ⟨b,i,none⟩=some v:=by
 simp only[World.cell?,h];exact hv
theorem O8{w:World}{b i:Nat}{c:Array Value}{t:TypeId}(h:w.heap[b]? =some (.cells c t (0,0))):w.frozen? ⟨b,i,none⟩=false:=by
 simp only[World.frozen?,h];simp
set_option maxRecDepth 100000 in
theorem OE{w:World}{pb cb cap s r:Nat}{i:Int}{b:List Value}(f:w.heap[pb]? =some (.cells #[.chan (some cb)] 179 (0,0))) (hc:w.heap[cb]? =some (.chan cap (Value.int .i64 i::b).toArray false s r false)):
  Calls Tryz.prog 126 #[.pointer (some ⟨pb,0,none⟩)] w fun e w'=>e=.returned (.tuple #[.pointer (some ⟨w.heap.size,0,none⟩),.int .i64 0])∧w'=((w.setChan cb cap b.toArray false s (r+1) false).alloc (.cells #[.pointer (some ⟨pb,0,none⟩),.int .i64 i,.bool true] 249 (0,0))):=by
 refine calls_of_loneTo fun cs=>?_
 have e:Frame.enter Tryz.prog 126 #[.pointer (some ⟨pb,0,none⟩)] .normal=(base 126).at ⟨#[.pointer (some ⟨pb,0,none⟩),undef,undef,undef,undef,undef,undef,undef,undef,undef,undef,undef,undef,undef,undef,undef,undef,undef,undef],[]⟩ [.code (Tryz.f126.body.getD .skip)]:=by
  simp[Frame.enter,Frame.at,Tryz.func126,base,Tryz.f126]
 rw[e];have bj:=Ab f (i:=0) rfl;have d:(Value.int .i64 i::b).toArray.extract 1 (Value.int .i64 i::b).toArray.size=b.toArray:=by simp
 refine LoneTo.goes (n:=22) ?_;simp only[Tryz.f126,rQ];s_c stepG_seq
 s_reg
 s_op
 s_op
 s_c stepG_region_end
 s_c stepG_seq
 s_c stepG_seq
 s_reg
 s_op
 s_op
 s_c stepG_region_end
 s_cond false
 s_c stepG_skip
 s_c stepG_seq
 s_reg
 s_op
 s_op
 s_op
 s_op
 s_c stepG_region_end
 s_c stepG_seq
 s_reg
 s_stop
 refine LoneTo.step (step_lone_select_recv_buf (c:=cb) (z:=.int .i64 0) (stepG_comm (cases:= #[rcase cb (.int .i64 0)]) (blocking:=false) (shape:=.select) (w':=w) rfl rfl (by decide) (by simp[go_sem,execOp,rcase,Act.eval])) hc (by simp)) ?_;rw[d];rw[Frame.finish_at];walk_nrm
 refine LoneTo.goes (n:=20) ?_;s_op
 s_op
 s_c stepG_region_end
 s_c stepG_block
 s_cond true
 s_c stepG_seq
 s_reg
 s_op
 s_op
 s_c stepG_region_end
 s_c stepG_seq
 s_reg
 s_op
 s_op
 s_op
 s_op
 s_op
 s_op
 s_c stepG_region_end
 s_c stepG_ret'
 s_stop
 refine LoneTo.done ⟨.returned (.tuple #[.pointer (some ⟨w.heap.size,0,none⟩),.int .i64 0]),_,rfl,⟨rfl,rfl⟩,rfl,rfl,rfl,rfl,_,Tryz.func126,by simp[results,Tryz.f126,Frame.at,size_setChan]⟩
theorem mkc(w:World)(n:Nat)(h:n≤4096):(Instr.makeChan 177 (.int .i64 n)).run Tryz.prog w=.ok (.chan (some w.heap.size)) (w.alloc (.chan n #[] false 0 0 false)):=by
 have b:Tryz.prog.underlying 177=some (.chan .both 3):=by kernel_rfl
 have d:(Tryz.prog.info? 3).map (·.bytes)=some 8:=by kernel_rfl
 obtain⟨i,hi,c⟩:=Option.map_eq_some_iff.1 d;exact run_makeChan (P:=Tryz.prog) (w:=w) b hi .i64 n (by omega) (by rw[c];omega)
noncomputable abbrev ET:Code:=match Tryz.f42.body with|some (.seq _ (.seq _ (.seq _ (.seq (.seq _ (.block _ (.loop c))) _))))=>c|_=>.skip
noncomputable abbrev Jp:Code:=match Tryz.f42.body with|some (.seq _ (.seq _ (.seq _ (.seq _ c))))=>c|_=>.skip
set_option maxRecDepth 100000 in
set_option maxHeartbeats 4000000 in
theorem QH{n pb cb:Nat}{Q:Goroutine→World→Prop}{cs:List Frame}(O:n≤4096)(A:pb≠cb):∀(m i:Nat) (u t k q f p d g e o:Value) (ids:List Value) (s r:Nat) (w:World),i+m=n→ids.length=i→w.heap[pb]? =some (.cells #[.chan (some cb)] 179 (0,0))→w.heap[cb]? =some (.chan n ids.toArray false s r false)→
  (∀(u t k q f p d g e o:Value) (b:List Value) (s' y:Nat) (w':World),b=ids++(fB m).map (fun j=>Value.int .i64 ((i+j:Nat)+1:Int))→(w'=w∨w'=w.setChan cb n b.toArray false s' y false)→w'.heap[cb]? =some (.chan n b.toArray false s' y false)→LoneTo Tryz.prog Q (G ((base 42).at ⟨#[.int .i64 n,undef,.pointer none,.int .i64 0,.pointer (some ⟨pb,0,none⟩),u,.int .i64 n,.bool false,.bool false,.int .i64 n,.bool false,.bool false,.int .i64 n,.chan (some cb),.agg #[.chan (some cb)],.pointer (some ⟨pb,0,none⟩),.int .i64 n,.int .i64 n,t,k,q,f,p,d,g,e,o,undef],[]⟩ [.code Jp]) cs) w')→
  LoneTo Tryz.prog Q (G ((base 42).at ⟨#[.int .i64 n,undef,.pointer none,.int .i64 0,.pointer (some ⟨pb,0,none⟩),u,.int .i64 n,.bool false,.bool false,.int .i64 n,.bool false,.bool false,.int .i64 n,.chan (some cb),.agg #[.chan (some cb)],.pointer (some ⟨pb,0,none⟩),.int .i64 n,.int .i64 i,t,k,q,f,p,d,g,e,o,undef],[]⟩ [.code ET,.inLoop ET,.inBlock 0,.code Jp]) cs) w:=by
 intro m;induction m with
 |zero=>
  intro i u t k q f p d g e o ids s r w v B C hc E;have v:i=n:=by omega
  subst v;have D:¬((i:Int)<(i:Int)):=by omega
  refine LoneTo.goes (n:=9) ?_;simp only[ET,Tryz.f42];s_c stepG_seq
  s_reg
  s_op
  s_c stepG_region_end
  s_c stepG_seq
  s_cond false
  s_exit
  s_stop
  exact E _ _ _ _ _ _ _ _ _ _ ids s r w (by simp) (.inl rfl) hc
 |succ m ih=>
  intro i u t k q f p d g e o ids s r w v B C hc E;have D:((i:Int)<(n:Int)):=by omega
  have bj:=Ab C (i:=0) rfl;have N:IntKind.wrap .i64 ((i:Int)+1)=((i+1:Nat):Int):=by rw[dW (by omega)];omega
  refine LoneTo.goes (n:=21) ?_;simp only[ET,Tryz.f42];s_c stepG_seq
  s_reg
  s_op
  s_c stepG_region_end
  s_c stepG_seq
  s_cond true
  s_c stepG_skip
  s_c stepG_seq
  s_c stepG_block
  s_c stepG_seq
  s_reg
  s_op
  s_op
  s_c stepG_region_end
  s_reg
  s_op
  s_op
  s_op
  s_op
  s_op
  s_op
  s_stop
  refine LoneTo.step (step_lone_send_room (c:=cb) (cap:=n) (buf:=ids.toArray) (s:=s) (r:=r) (tm:=false) (stepG_comm (cases:= #[scase cb (.int .i64 ((i:Int)+1)) (.tuple #[])]) (blocking:=true) (shape:=.send) (w':=w) rfl rfl (by decide) (by simp[execOp,scase,Act.eval])) hc (by simp[B];omega)) ?_;rw[Frame.finish_at];walk_nrm
  have F:cb<w.heap.size:=(ct.1 hc).1;refine LoneTo.goes (n:=7) ?_;s_c stepG_region_end
  s_c stepG_inBlock
  s_reg
  s_op
  s_op
  s_c stepG_region_end
  s_c stepG_inLoop
  s_stop
  have J:((i:Int)+1)=((i+1:Nat):Int):=by omega
  rw[J];refine ih (i+1) _ _ _ _ _ _ _ _ _ _ (ids++ [Value.int .i64 ((i+1:Nat):Int)]) (s+1) r (w.setChan cb n (ids++ [Value.int .i64 ((i+1:Nat):Int)]).toArray false (s+1) r false) (by omega) (by simp[B]) ?_ (heap_setChan _ _ _ _ _ _ _ _ F) fun u t k q f p d g e o b s' y w' K x z=>E u t k q f p d g e o b s' y w' ?_ (.inr ?_) z
  ·simp only[World.setChan,cR]
   rw[if_neg (Ne.symm A)];exact C
  ·rw[K,List.range_succ_eq_map]
   simp[Nat.add_comm,Nat.add_left_comm,Function.comp_def]
  ·rcases x with x|x
   ·subst x
    rw[heap_setChan _ _ _ _ _ _ _ _ F]at z;simp only[Option.some.injEq,Obj.chan.injEq]at z;obtain⟨_,L,_,I,H,_⟩:=z;rw[L,I,H]
   ·rw[x];simp[World.setChan]
set_option maxRecDepth 100000 in
set_option maxHeartbeats 4000000 in
theorem QG{n:Nat}{w:World}(B:1≤n)(b:n≤4096):Calls Tryz.prog 42 #[.int .i64 n] w fun e w'=>e=.returned (.tuple #[.pointer (some ⟨w.heap.size+1,0,none⟩),.int .i64 0])∧∃(ids:List Value) (s r:Nat),ids=(fB n).map (fun j=>Value.int .i64 ((0+j:Nat)+1:Int))∧w'.heap[w.heap.size]? =some (.chan n ids.toArray false s r false)∧(w'=(w.alloc (.chan n #[] false 0 0 false)).alloc (.cells #[.chan (some w.heap.size)] 179 (0,0))∨w'=((w.alloc (.chan n #[] false 0 0 false)).alloc (.cells #[.chan (some w.heap.size)] 179 (0,0))).setChan w.heap.size n ids.toArray false s r false):=by
 refine calls_of_loneTo fun cs=>?_
 have e:Frame.enter Tryz.prog 42 #[.int .i64 n] .normal=(base 42).at ⟨#[.int .i64 n,undef,undef,undef,undef,undef,undef,undef,undef,undef,undef,undef,undef,undef,undef,undef,undef,undef,undef,undef,undef,undef,undef,undef,undef,undef,undef,undef],[]⟩ [.code (Tryz.f42.body.getD .skip)]:=by
  simp[Frame.enter,Frame.at,Tryz.func42,base,Tryz.f42]
 rw[e];have x:=fun w=>mkc w n b
 have c1:¬((n:Int)<1):=by omega
 have A:¬(4096<(n:Int)):=by omega
 refine LoneTo.goes (n:=33) ?_;simp only[Tryz.f42,rQ];s_c stepG_seq
 s_reg
 s_op
 s_op
 s_c stepG_region_end
 s_c stepG_seq
 s_c stepG_seq
 s_reg
 s_op
 s_op
 s_op
 s_op
 s_op
 s_op
 s_c stepG_region_end
 s_cond false
 s_c stepG_skip
 s_c stepG_seq
 s_reg
 s_op
 s_op
 s_op
 s_op
 s_op
 s_c stepG_region_end
 s_c stepG_seq
 s_c stepG_seq
 s_reg
 s_op
 s_op
 s_c stepG_region_end
 s_c stepG_block
 s_c stepG_loop
 s_stop
 have k:((w.alloc (.chan n #[] false 0 0 false)).alloc (.cells #[.chan (some w.heap.size)] 179 (0,0))).heap[w.heap.size+1]? =some (.cells #[.chan (some w.heap.size)] 179 (0,0)):=by
  have:=heap_alloc_new (w.alloc (.chan n #[] false 0 0 false)) (.cells #[.chan (some w.heap.size)] 179 (0,0));simpa using this
 have m:((w.alloc (.chan n #[] false 0 0 false)).alloc (.cells #[.chan (some w.heap.size)] 179 (0,0))).heap[w.heap.size]? =some (.chan n #[] false 0 0 false):=by
  show((w.heap.push (.chan n #[] false 0 0 false)).push (.cells #[.chan (some w.heap.size)] 179 (0,0)))[w.heap.size]? =_
  simp[kX]
 refine QH b (by omega) n 0 _ _ _ _ _ _ _ _ _ _ [] 0 0 _ (by omega) rfl k m fun z y o v f t c g d q ids s r w' p i u=>?_
 refine LoneTo.goes (n:=7) ?_;simp only[Jp,Tryz.f42];s_c stepG_seq
 s_reg
 s_op
 s_op
 s_op
 s_c stepG_region_end
 s_c stepG_ret'
 s_stop
 refine LoneTo.done ⟨.returned (.tuple #[.pointer (some ⟨w.heap.size+1,0,none⟩),.int .i64 0]),_,rfl,⟨rfl,ids,s,r,by simpa[fB]using p,u,i⟩,rfl,rfl,rfl,rfl,_,Tryz.func42,by simp[results,Tryz.f42,Frame.at]⟩
theorem fR{md:Region.Mode}{ops:Array Oper}{fuel t:Nat}{listed:Array Bool}{rs:List Nat}(d:Region.ready md ops listed=rs)(c:rs≠[]):∃i∈rs,∃t',Region.linearise.go md ops (fuel+1) t listed []=i::Region.linearise.go md ops fuel t' (listed.setIfInBounds i true) []:=by
 subst d;simp only[Region.linearise.go];change∃i∈Region.ready md ops listed,∃t',(match(Region.ready md ops listed)[t%(Region.ready md ops listed).length]? with
  |some i=>Region.linearise.go md ops fuel (t/(Region.ready md ops listed).length) (listed.setIfInBounds i true) [i]
  |none=> [].reverse)=i::Region.linearise.go md ops fuel t' (listed.setIfInBounds i true) []
 have e:0<(Region.ready md ops listed).length:=List.length_pos_iff.2 c;have b:t%(Region.ready md ops listed).length<(Region.ready md ops listed).length:=Nat.mod_lt _ e;rw[List.getElem?_eq_getElem b];refine⟨_,List.getElem_mem b,t/(Region.ready md ops listed).length,?_⟩;simp only[];rw[linearise_go_acc];rfl
noncomputable abbrev aJ:Array Oper:=match Tryz.f128.body with|some (.seq _ (.seq _ (.seq _ (.seq (.region _ o _) _))))=>o|_=> #[]
section
variable {pb tb cb:Nat} {id:Int} {u2 u3 u4 u5 u6 u7 u8 u9 u10 u11 u12 u13 u14 u15 u16 u17 u18 u19 u20 u21 u22:Value} {Q:Goroutine→World→Prop} {cs:List Frame} {kk:List Item} {w:World}
set_option maxRecDepth 100000
theorem Ri(d:w.cell? ⟨pb,0,none⟩=some (.chan (some cb)))(h2:w.cell? ⟨tb,1,none⟩=some (.int .i64 id))(c:∀t,LoneTo Tryz.prog Q (G ((base 128).at ⟨#[.pointer (some ⟨pb,0,none⟩),.pointer (some ⟨tb,0,none⟩),u2,u3,u4,u5,u6,u7,u8,u9,u10,u11,u12,u13,u14,u15,u16,u17,u18,u19,u20,u21,u22,.pointer (some ⟨pb,0,none⟩),.pointer (some ⟨pb,0,none⟩),.pointer (some ⟨pb,0,none⟩),.chan (some cb),.pointer (some ⟨tb,0,none⟩),.pointer (some ⟨tb,0,none⟩),.pointer (some ⟨tb,1,none⟩),.int .i64 id],[]⟩ (.inRegion aJ (Region.linearise.go .any aJ 1 t #[true,true,true,true,true,true,true,true,false] [])::kk)) cs) w)(t:Nat):LoneTo Tryz.prog Q (G ((base 128).at ⟨#[.pointer (some ⟨pb,0,none⟩),.pointer (some ⟨tb,0,none⟩),u2,u3,u4,u5,u6,u7,u8,u9,u10,u11,u12,u13,u14,u15,u16,u17,u18,u19,u20,u21,u22,.pointer (some ⟨pb,0,none⟩),.pointer (some ⟨pb,0,none⟩),.pointer (some ⟨pb,0,none⟩),.chan (some cb),.pointer (some ⟨tb,0,none⟩),.pointer (some ⟨tb,0,none⟩),.pointer (some ⟨tb,1,none⟩),undef],[]⟩ (.inRegion aJ (Region.linearise.go .any aJ 2 t #[true,true,true,true,true,true,true,false,false] [])::kk)) cs) w:=by
 obtain⟨i,hi,b,e⟩:=fR (md:=.any) (ops:=aJ) (fuel:=1) (t:=t) (listed:= #[true,true,true,true,true,true,true,false,false]) (rs:= [7]) (by kernel_rfl) (by simp);rw[e];rw[aA.1 hi];refine LoneTo.goes (n:=1) ?_;simp only[aJ,Tryz.f128];s_op
 s_stop
 exact c b
theorem Ro(d:w.cell? ⟨pb,0,none⟩=some (.chan (some cb)))(h2:w.cell? ⟨tb,1,none⟩=some (.int .i64 id))(c:∀t,LoneTo Tryz.prog Q (G ((base 128).at ⟨#[.pointer (some ⟨pb,0,none⟩),.pointer (some ⟨tb,0,none⟩),u2,u3,u4,u5,u6,u7,u8,u9,u10,u11,u12,u13,u14,u15,u16,u17,u18,u19,u20,u21,u22,.pointer (some ⟨pb,0,none⟩),.pointer (some ⟨pb,0,none⟩),.pointer (some ⟨pb,0,none⟩),.chan (some cb),.pointer (some ⟨tb,0,none⟩),.pointer (some ⟨tb,0,none⟩),.pointer (some ⟨tb,1,none⟩),.int .i64 id],[]⟩ (.inRegion aJ (Region.linearise.go .any aJ 1 t #[true,true,true,true,true,true,true,true,false] [])::kk)) cs) w)(t:Nat):LoneTo Tryz.prog Q (G ((base 128).at ⟨#[.pointer (some ⟨pb,0,none⟩),.pointer (some ⟨tb,0,none⟩),u2,u3,u4,u5,u6,u7,u8,u9,u10,u11,u12,u13,u14,u15,u16,u17,u18,u19,u20,u21,u22,.pointer (some ⟨pb,0,none⟩),.pointer (some ⟨pb,0,none⟩),.pointer (some ⟨pb,0,none⟩),undef,.pointer (some ⟨tb,0,none⟩),.pointer (some ⟨tb,0,none⟩),.pointer (some ⟨tb,1,none⟩),.int .i64 id],[]⟩ (.inRegion aJ (Region.linearise.go .any aJ 2 t #[true,true,true,false,true,true,true,true,false] [])::kk)) cs) w:=by
 obtain⟨i,hi,b,e⟩:=fR (md:=.any) (ops:=aJ) (fuel:=1) (t:=t) (listed:= #[true,true,true,false,true,true,true,true,false]) (rs:= [3]) (by kernel_rfl) (by simp);rw[e];rw[aA.1 hi];refine LoneTo.goes (n:=1) ?_;simp only[aJ,Tryz.f128];s_op
 s_stop
 exact c b
theorem Rl(d:w.cell? ⟨pb,0,none⟩=some (.chan (some cb)))(h2:w.cell? ⟨tb,1,none⟩=some (.int .i64 id))(c:∀t,LoneTo Tryz.prog Q (G ((base 128).at ⟨#[.pointer (some ⟨pb,0,none⟩),.pointer (some ⟨tb,0,none⟩),u2,u3,u4,u5,u6,u7,u8,u9,u10,u11,u12,u13,u14,u15,u16,u17,u18,u19,u20,u21,u22,.pointer (some ⟨pb,0,none⟩),.pointer (some ⟨pb,0,none⟩),.pointer (some ⟨pb,0,none⟩),.chan (some cb),.pointer (some ⟨tb,0,none⟩),.pointer (some ⟨tb,0,none⟩),.pointer (some ⟨tb,1,none⟩),.int .i64 id],[]⟩ (.inRegion aJ (Region.linearise.go .any aJ 1 t #[true,true,true,true,true,true,true,true,false] [])::kk)) cs) w)(t:Nat):LoneTo Tryz.prog Q (G ((base 128).at ⟨#[.pointer (some ⟨pb,0,none⟩),.pointer (some ⟨tb,0,none⟩),u2,u3,u4,u5,u6,u7,u8,u9,u10,u11,u12,u13,u14,u15,u16,u17,u18,u19,u20,u21,u22,.pointer (some ⟨pb,0,none⟩),.pointer (some ⟨pb,0,none⟩),.pointer (some ⟨pb,0,none⟩),.chan (some cb),.pointer (some ⟨tb,0,none⟩),.pointer (some ⟨tb,0,none⟩),undef,undef],[]⟩ (.inRegion aJ (Region.linearise.go .any aJ 3 t #[true,true,true,true,true,true,false,false,false] [])::kk)) cs) w:=by
 obtain⟨i,hi,b,e⟩:=fR (md:=.any) (ops:=aJ) (fuel:=2) (t:=t) (listed:= #[true,true,true,true,true,true,false,false,false]) (rs:= [6]) (by kernel_rfl) (by simp);rw[e];rw[aA.1 hi];refine LoneTo.goes (n:=1) ?_;simp only[aJ,Tryz.f128];s_op
 s_stop
 exact Ri d h2 c b
theorem Rp(d:w.cell? ⟨pb,0,none⟩=some (.chan (some cb)))(h2:w.cell? ⟨tb,1,none⟩=some (.int .i64 id))(c:∀t,LoneTo Tryz.prog Q (G ((base 128).at ⟨#[.pointer (some ⟨pb,0,none⟩),.pointer (some ⟨tb,0,none⟩),u2,u3,u4,u5,u6,u7,u8,u9,u10,u11,u12,u13,u14,u15,u16,u17,u18,u19,u20,u21,u22,.pointer (some ⟨pb,0,none⟩),.pointer (some ⟨pb,0,none⟩),.pointer (some ⟨pb,0,none⟩),.chan (some cb),.pointer (some ⟨tb,0,none⟩),.pointer (some ⟨tb,0,none⟩),.pointer (some ⟨tb,1,none⟩),.int .i64 id],[]⟩ (.inRegion aJ (Region.linearise.go .any aJ 1 t #[true,true,true,true,true,true,true,true,false] [])::kk)) cs) w)(t:Nat):LoneTo Tryz.prog Q (G ((base 128).at ⟨#[.pointer (some ⟨pb,0,none⟩),.pointer (some ⟨tb,0,none⟩),u2,u3,u4,u5,u6,u7,u8,u9,u10,u11,u12,u13,u14,u15,u16,u17,u18,u19,u20,u21,u22,.pointer (some ⟨pb,0,none⟩),.pointer (some ⟨pb,0,none⟩),.pointer (some ⟨pb,0,none⟩),undef,.pointer (some ⟨tb,0,none⟩),.pointer (some ⟨tb,0,none⟩),.pointer (some ⟨tb,1,none⟩),undef],[]⟩ (.inRegion aJ (Region.linearise.go .any aJ 3 t #[true,true,true,false,true,true,true,false,false] [])::kk)) cs) w:=by
 obtain⟨i,hi,b,e⟩:=fR (md:=.any) (ops:=aJ) (fuel:=2) (t:=t) (listed:= #[true,true,true,false,true,true,true,false,false]) (rs:= [3,7]) (by kernel_rfl) (by simp);rw[e];rcases au.1 hi with rfl|hi
 ·skip
  refine LoneTo.goes (n:=1) ?_;simp only[aJ,Tryz.f128];s_op
  s_stop
  exact Ri d h2 c b
 ·rw[aA.1 hi]
  refine LoneTo.goes (n:=1) ?_;simp only[aJ,Tryz.f128];s_op
  s_stop
  exact Ro d h2 c b
theorem Rs(d:w.cell? ⟨pb,0,none⟩=some (.chan (some cb)))(h2:w.cell? ⟨tb,1,none⟩=some (.int .i64 id))(c:∀t,LoneTo Tryz.prog Q (G ((base 128).at ⟨#[.pointer (some ⟨pb,0,none⟩),.pointer (some ⟨tb,0,none⟩),u2,u3,u4,u5,u6,u7,u8,u9,u10,u11,u12,u13,u14,u15,u16,u17,u18,u19,u20,u21,u22,.pointer (some ⟨pb,0,none⟩),.pointer (some ⟨pb,0,none⟩),.pointer (some ⟨pb,0,none⟩),.chan (some cb),.pointer (some ⟨tb,0,none⟩),.pointer (some ⟨tb,0,none⟩),.pointer (some ⟨tb,1,none⟩),.int .i64 id],[]⟩ (.inRegion aJ (Region.linearise.go .any aJ 1 t #[true,true,true,true,true,true,true,true,false] [])::kk)) cs) w)(t:Nat):LoneTo Tryz.prog Q (G ((base 128).at ⟨#[.pointer (some ⟨pb,0,none⟩),.pointer (some ⟨tb,0,none⟩),u2,u3,u4,u5,u6,u7,u8,u9,u10,u11,u12,u13,u14,u15,u16,u17,u18,u19,u20,u21,u22,.pointer (some ⟨pb,0,none⟩),.pointer (some ⟨pb,0,none⟩),undef,undef,.pointer (some ⟨tb,0,none⟩),.pointer (some ⟨tb,0,none⟩),.pointer (some ⟨tb,1,none⟩),.int .i64 id],[]⟩ (.inRegion aJ (Region.linearise.go .any aJ 3 t #[true,true,false,false,true,true,true,true,false] [])::kk)) cs) w:=by
 obtain⟨i,hi,b,e⟩:=fR (md:=.any) (ops:=aJ) (fuel:=2) (t:=t) (listed:= #[true,true,false,false,true,true,true,true,false]) (rs:= [2]) (by kernel_rfl) (by simp);rw[e];rw[aA.1 hi];refine LoneTo.goes (n:=1) ?_;simp only[aJ,Tryz.f128];s_op
 s_stop
 exact Ro d h2 c b
theorem Rm(d:w.cell? ⟨pb,0,none⟩=some (.chan (some cb)))(h2:w.cell? ⟨tb,1,none⟩=some (.int .i64 id))(c:∀t,LoneTo Tryz.prog Q (G ((base 128).at ⟨#[.pointer (some ⟨pb,0,none⟩),.pointer (some ⟨tb,0,none⟩),u2,u3,u4,u5,u6,u7,u8,u9,u10,u11,u12,u13,u14,u15,u16,u17,u18,u19,u20,u21,u22,.pointer (some ⟨pb,0,none⟩),.pointer (some ⟨pb,0,none⟩),.pointer (some ⟨pb,0,none⟩),.chan (some cb),.pointer (some ⟨tb,0,none⟩),.pointer (some ⟨tb,0,none⟩),.pointer (some ⟨tb,1,none⟩),.int .i64 id],[]⟩ (.inRegion aJ (Region.linearise.go .any aJ 1 t #[true,true,true,true,true,true,true,true,false] [])::kk)) cs) w)(t:Nat):LoneTo Tryz.prog Q (G ((base 128).at ⟨#[.pointer (some ⟨pb,0,none⟩),.pointer (some ⟨tb,0,none⟩),u2,u3,u4,u5,u6,u7,u8,u9,u10,u11,u12,u13,u14,u15,u16,u17,u18,u19,u20,u21,u22,.pointer (some ⟨pb,0,none⟩),.pointer (some ⟨pb,0,none⟩),.pointer (some ⟨pb,0,none⟩),.chan (some cb),.pointer (some ⟨tb,0,none⟩),undef,undef,undef],[]⟩ (.inRegion aJ (Region.linearise.go .any aJ 4 t #[true,true,true,true,true,false,false,false,false] [])::kk)) cs) w:=by
 obtain⟨i,hi,b,e⟩:=fR (md:=.any) (ops:=aJ) (fuel:=3) (t:=t) (listed:= #[true,true,true,true,true,false,false,false,false]) (rs:= [5]) (by kernel_rfl) (by simp);rw[e];rw[aA.1 hi];refine LoneTo.goes (n:=1) ?_;simp only[aJ,Tryz.f128];s_op
 s_stop
 exact Rl d h2 c b
theorem Rq(d:w.cell? ⟨pb,0,none⟩=some (.chan (some cb)))(h2:w.cell? ⟨tb,1,none⟩=some (.int .i64 id))(c:∀t,LoneTo Tryz.prog Q (G ((base 128).at ⟨#[.pointer (some ⟨pb,0,none⟩),.pointer (some ⟨tb,0,none⟩),u2,u3,u4,u5,u6,u7,u8,u9,u10,u11,u12,u13,u14,u15,u16,u17,u18,u19,u20,u21,u22,.pointer (some ⟨pb,0,none⟩),.pointer (some ⟨pb,0,none⟩),.pointer (some ⟨pb,0,none⟩),.chan (some cb),.pointer (some ⟨tb,0,none⟩),.pointer (some ⟨tb,0,none⟩),.pointer (some ⟨tb,1,none⟩),.int .i64 id],[]⟩ (.inRegion aJ (Region.linearise.go .any aJ 1 t #[true,true,true,true,true,true,true,true,false] [])::kk)) cs) w)(t:Nat):LoneTo Tryz.prog Q (G ((base 128).at ⟨#[.pointer (some ⟨pb,0,none⟩),.pointer (some ⟨tb,0,none⟩),u2,u3,u4,u5,u6,u7,u8,u9,u10,u11,u12,u13,u14,u15,u16,u17,u18,u19,u20,u21,u22,.pointer (some ⟨pb,0,none⟩),.pointer (some ⟨pb,0,none⟩),.pointer (some ⟨pb,0,none⟩),undef,.pointer (some ⟨tb,0,none⟩),.pointer (some ⟨tb,0,none⟩),undef,undef],[]⟩ (.inRegion aJ (Region.linearise.go .any aJ 4 t #[true,true,true,false,true,true,false,false,false] [])::kk)) cs) w:=by
 obtain⟨i,hi,b,e⟩:=fR (md:=.any) (ops:=aJ) (fuel:=3) (t:=t) (listed:= #[true,true,true,false,true,true,false,false,false]) (rs:= [3,6]) (by kernel_rfl) (by simp);rw[e];rcases au.1 hi with rfl|hi
 ·skip
  refine LoneTo.goes (n:=1) ?_;simp only[aJ,Tryz.f128];s_op
  s_stop
  exact Rl d h2 c b
 ·rw[aA.1 hi]
  refine LoneTo.goes (n:=1) ?_;simp only[aJ,Tryz.f128];s_op
  s_stop
  exact Rp d h2 c b
theorem Ru(d:w.cell? ⟨pb,0,none⟩=some (.chan (some cb)))(h2:w.cell? ⟨tb,1,none⟩=some (.int .i64 id))(c:∀t,LoneTo Tryz.prog Q (G ((base 128).at ⟨#[.pointer (some ⟨pb,0,none⟩),.pointer (some ⟨tb,0,none⟩),u2,u3,u4,u5,u6,u7,u8,u9,u10,u11,u12,u13,u14,u15,u16,u17,u18,u19,u20,u21,u22,.pointer (some ⟨pb,0,none⟩),.pointer (some ⟨pb,0,none⟩),.pointer (some ⟨pb,0,none⟩),.chan (some cb),.pointer (some ⟨tb,0,none⟩),.pointer (some ⟨tb,0,none⟩),.pointer (some ⟨tb,1,none⟩),.int .i64 id],[]⟩ (.inRegion aJ (Region.linearise.go .any aJ 1 t #[true,true,true,true,true,true,true,true,false] [])::kk)) cs) w)(t:Nat):LoneTo Tryz.prog Q (G ((base 128).at ⟨#[.pointer (some ⟨pb,0,none⟩),.pointer (some ⟨tb,0,none⟩),u2,u3,u4,u5,u6,u7,u8,u9,u10,u11,u12,u13,u14,u15,u16,u17,u18,u19,u20,u21,u22,.pointer (some ⟨pb,0,none⟩),.pointer (some ⟨pb,0,none⟩),undef,undef,.pointer (some ⟨tb,0,none⟩),.pointer (some ⟨tb,0,none⟩),.pointer (some ⟨tb,1,none⟩),undef],[]⟩ (.inRegion aJ (Region.linearise.go .any aJ 4 t #[true,true,false,false,true,true,true,false,false] [])::kk)) cs) w:=by
 obtain⟨i,hi,b,e⟩:=fR (md:=.any) (ops:=aJ) (fuel:=3) (t:=t) (listed:= #[true,true,false,false,true,true,true,false,false]) (rs:= [2,7]) (by kernel_rfl) (by simp);rw[e];rcases au.1 hi with rfl|hi
 ·skip
  refine LoneTo.goes (n:=1) ?_;simp only[aJ,Tryz.f128];s_op
  s_stop
  exact Rp d h2 c b
 ·rw[aA.1 hi]
  refine LoneTo.goes (n:=1) ?_;simp only[aJ,Tryz.f128];s_op
  s_stop
  exact Rs d h2 c b
theorem Rx(d:w.cell? ⟨pb,0,none⟩=some (.chan (some cb)))(h2:w.cell? ⟨tb,1,none⟩=some (.int .i64 id))(c:∀t,LoneTo Tryz.prog Q (G ((base 128).at ⟨#[.pointer (some ⟨pb,0,none⟩),.pointer (some ⟨tb,0,none⟩),u2,u3,u4,u5,u6,u7,u8,u9,u10,u11,u12,u13,u14,u15,u16,u17,u18,u19,u20,u21,u22,.pointer (some ⟨pb,0,none⟩),.pointer (some ⟨pb,0,none⟩),.pointer (some ⟨pb,0,none⟩),.chan (some cb),.pointer (some ⟨tb,0,none⟩),.pointer (some ⟨tb,0,none⟩),.pointer (some ⟨tb,1,none⟩),.int .i64 id],[]⟩ (.inRegion aJ (Region.linearise.go .any aJ 1 t #[true,true,true,true,true,true,true,true,false] [])::kk)) cs) w)(t:Nat):LoneTo Tryz.prog Q (G ((base 128).at ⟨#[.pointer (some ⟨pb,0,none⟩),.pointer (some ⟨tb,0,none⟩),u2,u3,u4,u5,u6,u7,u8,u9,u10,u11,u12,u13,u14,u15,u16,u17,u18,u19,u20,u21,u22,.pointer (some ⟨pb,0,none⟩),undef,undef,undef,.pointer (some ⟨tb,0,none⟩),.pointer (some ⟨tb,0,none⟩),.pointer (some ⟨tb,1,none⟩),.int .i64 id],[]⟩ (.inRegion aJ (Region.linearise.go .any aJ 4 t #[true,false,false,false,true,true,true,true,false] [])::kk)) cs) w:=by
 obtain⟨i,hi,b,e⟩:=fR (md:=.any) (ops:=aJ) (fuel:=3) (t:=t) (listed:= #[true,false,false,false,true,true,true,true,false]) (rs:= [1]) (by kernel_rfl) (by simp);rw[e];rw[aA.1 hi];refine LoneTo.goes (n:=1) ?_;simp only[aJ,Tryz.f128];s_op
 s_stop
 exact Rs d h2 c b
theorem Uw(d:w.cell? ⟨pb,0,none⟩=some (.chan (some cb)))(h2:w.cell? ⟨tb,1,none⟩=some (.int .i64 id))(c:∀t,LoneTo Tryz.prog Q (G ((base 128).at ⟨#[.pointer (some ⟨pb,0,none⟩),.pointer (some ⟨tb,0,none⟩),u2,u3,u4,u5,u6,u7,u8,u9,u10,u11,u12,u13,u14,u15,u16,u17,u18,u19,u20,u21,u22,.pointer (some ⟨pb,0,none⟩),.pointer (some ⟨pb,0,none⟩),.pointer (some ⟨pb,0,none⟩),.chan (some cb),.pointer (some ⟨tb,0,none⟩),.pointer (some ⟨tb,0,none⟩),.pointer (some ⟨tb,1,none⟩),.int .i64 id],[]⟩ (.inRegion aJ (Region.linearise.go .any aJ 1 t #[true,true,true,true,true,true,true,true,false] [])::kk)) cs) w)(t:Nat):LoneTo Tryz.prog Q (G ((base 128).at ⟨#[.pointer (some ⟨pb,0,none⟩),.pointer (some ⟨tb,0,none⟩),u2,u3,u4,u5,u6,u7,u8,u9,u10,u11,u12,u13,u14,u15,u16,u17,u18,u19,u20,u21,u22,.pointer (some ⟨pb,0,none⟩),.pointer (some ⟨pb,0,none⟩),.pointer (some ⟨pb,0,none⟩),.chan (some cb),undef,undef,undef,undef],[]⟩ (.inRegion aJ (Region.linearise.go .any aJ 5 t #[true,true,true,true,false,false,false,false,false] [])::kk)) cs) w:=by
 obtain⟨i,hi,b,e⟩:=fR (md:=.any) (ops:=aJ) (fuel:=4) (t:=t) (listed:= #[true,true,true,true,false,false,false,false,false]) (rs:= [4]) (by kernel_rfl) (by simp);rw[e];rw[aA.1 hi];refine LoneTo.goes (n:=1) ?_;simp only[aJ,Tryz.f128];s_op
 s_stop
 exact Rm d h2 c b
theorem Rr(d:w.cell? ⟨pb,0,none⟩=some (.chan (some cb)))(h2:w.cell? ⟨tb,1,none⟩=some (.int .i64 id))(c:∀t,LoneTo Tryz.prog Q (G ((base 128).at ⟨#[.pointer (some ⟨pb,0,none⟩),.pointer (some ⟨tb,0,none⟩),u2,u3,u4,u5,u6,u7,u8,u9,u10,u11,u12,u13,u14,u15,u16,u17,u18,u19,u20,u21,u22,.pointer (some ⟨pb,0,none⟩),.pointer (some ⟨pb,0,none⟩),.pointer (some ⟨pb,0,none⟩),.chan (some cb),.pointer (some ⟨tb,0,none⟩),.pointer (some ⟨tb,0,none⟩),.pointer (some ⟨tb,1,none⟩),.int .i64 id],[]⟩ (.inRegion aJ (Region.linearise.go .any aJ 1 t #[true,true,true,true,true,true,true,true,false] [])::kk)) cs) w)(t:Nat):LoneTo Tryz.prog Q (G ((base 128).at ⟨#[.pointer (some ⟨pb,0,none⟩),.pointer (some ⟨tb,0,none⟩),u2,u3,u4,u5,u6,u7,u8,u9,u10,u11,u12,u13,u14,u15,u16,u17,u18,u19,u20,u21,u22,.pointer (some ⟨pb,0,none⟩),.pointer (some ⟨pb,0,none⟩),.pointer (some ⟨pb,0,none⟩),undef,.pointer (some ⟨tb,0,none⟩),undef,undef,undef],[]⟩ (.inRegion aJ (Region.linearise.go .any aJ 5 t #[true,true,true,false,true,false,false,false,false] [])::kk)) cs) w:=by
 obtain⟨i,hi,b,e⟩:=fR (md:=.any) (ops:=aJ) (fuel:=4) (t:=t) (listed:= #[true,true,true,false,true,false,false,false,false]) (rs:= [3,5]) (by kernel_rfl) (by simp);rw[e];rcases au.1 hi with rfl|hi
 ·skip
  refine LoneTo.goes (n:=1) ?_;simp only[aJ,Tryz.f128];s_op
  s_stop
  exact Rm d h2 c b
 ·rw[aA.1 hi]
  refine LoneTo.goes (n:=1) ?_;simp only[aJ,Tryz.f128];s_op
  s_stop
  exact Rq d h2 c b
theorem Rv(d:w.cell? ⟨pb,0,none⟩=some (.chan (some cb)))(h2:w.cell? ⟨tb,1,none⟩=some (.int .i64 id))(c:∀t,LoneTo Tryz.prog Q (G ((base 128).at ⟨#[.pointer (some ⟨pb,0,none⟩),.pointer (some ⟨tb,0,none⟩),u2,u3,u4,u5,u6,u7,u8,u9,u10,u11,u12,u13,u14,u15,u16,u17,u18,u19,u20,u21,u22,.pointer (some ⟨pb,0,none⟩),.pointer (some ⟨pb,0,none⟩),.pointer (some ⟨pb,0,none⟩),.chan (some cb),.pointer (some ⟨tb,0,none⟩),.pointer (some ⟨tb,0,none⟩),.pointer (some ⟨tb,1,none⟩),.int .i64 id],[]⟩ (.inRegion aJ (Region.linearise.go .any aJ 1 t #[true,true,true,true,true,true,true,true,false] [])::kk)) cs) w)(t:Nat):LoneTo Tryz.prog Q (G ((base 128).at ⟨#[.pointer (some ⟨pb,0,none⟩),.pointer (some ⟨tb,0,none⟩),u2,u3,u4,u5,u6,u7,u8,u9,u10,u11,u12,u13,u14,u15,u16,u17,u18,u19,u20,u21,u22,.pointer (some ⟨pb,0,none⟩),.pointer (some ⟨pb,0,none⟩),undef,undef,.pointer (some ⟨tb,0,none⟩),.pointer (some ⟨tb,0,none⟩),undef,undef],[]⟩ (.inRegion aJ (Region.linearise.go .any aJ 5 t #[true,true,false,false,true,true,false,false,false] [])::kk)) cs) w:=by
 obtain⟨i,hi,b,e⟩:=fR (md:=.any) (ops:=aJ) (fuel:=4) (t:=t) (listed:= #[true,true,false,false,true,true,false,false,false]) (rs:= [2,6]) (by kernel_rfl) (by simp);rw[e];rcases au.1 hi with rfl|hi
 ·skip
  refine LoneTo.goes (n:=1) ?_;simp only[aJ,Tryz.f128];s_op
  s_stop
  exact Rq d h2 c b
 ·rw[aA.1 hi]
  refine LoneTo.goes (n:=1) ?_;simp only[aJ,Tryz.f128];s_op
  s_stop
  exact Ru d h2 c b
theorem Ry(d:w.cell? ⟨pb,0,none⟩=some (.chan (some cb)))(h2:w.cell? ⟨tb,1,none⟩=some (.int .i64 id))(c:∀t,LoneTo Tryz.prog Q (G ((base 128).at ⟨#[.pointer (some ⟨pb,0,none⟩),.pointer (some ⟨tb,0,none⟩),u2,u3,u4,u5,u6,u7,u8,u9,u10,u11,u12,u13,u14,u15,u16,u17,u18,u19,u20,u21,u22,.pointer (some ⟨pb,0,none⟩),.pointer (some ⟨pb,0,none⟩),.pointer (some ⟨pb,0,none⟩),.chan (some cb),.pointer (some ⟨tb,0,none⟩),.pointer (some ⟨tb,0,none⟩),.pointer (some ⟨tb,1,none⟩),.int .i64 id],[]⟩ (.inRegion aJ (Region.linearise.go .any aJ 1 t #[true,true,true,true,true,true,true,true,false] [])::kk)) cs) w)(t:Nat):LoneTo Tryz.prog Q (G ((base 128).at ⟨#[.pointer (some ⟨pb,0,none⟩),.pointer (some ⟨tb,0,none⟩),u2,u3,u4,u5,u6,u7,u8,u9,u10,u11,u12,u13,u14,u15,u16,u17,u18,u19,u20,u21,u22,.pointer (some ⟨pb,0,none⟩),undef,undef,undef,.pointer (some ⟨tb,0,none⟩),.pointer (some ⟨tb,0,none⟩),.pointer (some ⟨tb,1,none⟩),undef],[]⟩ (.inRegion aJ (Region.linearise.go .any aJ 5 t #[true,false,false,false,true,true,true,false,false] [])::kk)) cs) w:=by
 obtain⟨i,hi,b,e⟩:=fR (md:=.any) (ops:=aJ) (fuel:=4) (t:=t) (listed:= #[true,false,false,false,true,true,true,false,false]) (rs:= [1,7]) (by kernel_rfl) (by simp);rw[e];rcases au.1 hi with rfl|hi
 ·skip
  refine LoneTo.goes (n:=1) ?_;simp only[aJ,Tryz.f128];s_op
  s_stop
  exact Ru d h2 c b
 ·rw[aA.1 hi]
  refine LoneTo.goes (n:=1) ?_;simp only[aJ,Tryz.f128];s_op
  s_stop
  exact Rx d h2 c b
theorem UA(d:w.cell? ⟨pb,0,none⟩=some (.chan (some cb)))(h2:w.cell? ⟨tb,1,none⟩=some (.int .i64 id))(c:∀t,LoneTo Tryz.prog Q (G ((base 128).at ⟨#[.pointer (some ⟨pb,0,none⟩),.pointer (some ⟨tb,0,none⟩),u2,u3,u4,u5,u6,u7,u8,u9,u10,u11,u12,u13,u14,u15,u16,u17,u18,u19,u20,u21,u22,.pointer (some ⟨pb,0,none⟩),.pointer (some ⟨pb,0,none⟩),.pointer (some ⟨pb,0,none⟩),.chan (some cb),.pointer (some ⟨tb,0,none⟩),.pointer (some ⟨tb,0,none⟩),.pointer (some ⟨tb,1,none⟩),.int .i64 id],[]⟩ (.inRegion aJ (Region.linearise.go .any aJ 1 t #[true,true,true,true,true,true,true,true,false] [])::kk)) cs) w)(t:Nat):LoneTo Tryz.prog Q (G ((base 128).at ⟨#[.pointer (some ⟨pb,0,none⟩),.pointer (some ⟨tb,0,none⟩),u2,u3,u4,u5,u6,u7,u8,u9,u10,u11,u12,u13,u14,u15,u16,u17,u18,u19,u20,u21,u22,undef,undef,undef,undef,.pointer (some ⟨tb,0,none⟩),.pointer (some ⟨tb,0,none⟩),.pointer (some ⟨tb,1,none⟩),.int .i64 id],[]⟩ (.inRegion aJ (Region.linearise.go .any aJ 5 t #[false,false,false,false,true,true,true,true,false] [])::kk)) cs) w:=by
 obtain⟨i,hi,b,e⟩:=fR (md:=.any) (ops:=aJ) (fuel:=4) (t:=t) (listed:= #[false,false,false,false,true,true,true,true,false]) (rs:= [0]) (by kernel_rfl) (by simp);rw[e];rw[aA.1 hi];refine LoneTo.goes (n:=1) ?_;simp only[aJ,Tryz.f128];s_op
 s_stop
 exact Rx d h2 c b
theorem Ux(d:w.cell? ⟨pb,0,none⟩=some (.chan (some cb)))(h2:w.cell? ⟨tb,1,none⟩=some (.int .i64 id))(c:∀t,LoneTo Tryz.prog Q (G ((base 128).at ⟨#[.pointer (some ⟨pb,0,none⟩),.pointer (some ⟨tb,0,none⟩),u2,u3,u4,u5,u6,u7,u8,u9,u10,u11,u12,u13,u14,u15,u16,u17,u18,u19,u20,u21,u22,.pointer (some ⟨pb,0,none⟩),.pointer (some ⟨pb,0,none⟩),.pointer (some ⟨pb,0,none⟩),.chan (some cb),.pointer (some ⟨tb,0,none⟩),.pointer (some ⟨tb,0,none⟩),.pointer (some ⟨tb,1,none⟩),.int .i64 id],[]⟩ (.inRegion aJ (Region.linearise.go .any aJ 1 t #[true,true,true,true,true,true,true,true,false] [])::kk)) cs) w)(t:Nat):LoneTo Tryz.prog Q (G ((base 128).at ⟨#[.pointer (some ⟨pb,0,none⟩),.pointer (some ⟨tb,0,none⟩),u2,u3,u4,u5,u6,u7,u8,u9,u10,u11,u12,u13,u14,u15,u16,u17,u18,u19,u20,u21,u22,.pointer (some ⟨pb,0,none⟩),.pointer (some ⟨pb,0,none⟩),.pointer (some ⟨pb,0,none⟩),undef,undef,undef,undef,undef],[]⟩ (.inRegion aJ (Region.linearise.go .any aJ 6 t #[true,true,true,false,false,false,false,false,false] [])::kk)) cs) w:=by
 obtain⟨i,hi,b,e⟩:=fR (md:=.any) (ops:=aJ) (fuel:=5) (t:=t) (listed:= #[true,true,true,false,false,false,false,false,false]) (rs:= [3,4]) (by kernel_rfl) (by simp);rw[e];rcases au.1 hi with rfl|hi
 ·skip
  refine LoneTo.goes (n:=1) ?_;simp only[aJ,Tryz.f128];s_op
  s_stop
  exact Uw d h2 c b
 ·rw[aA.1 hi]
  refine LoneTo.goes (n:=1) ?_;simp only[aJ,Tryz.f128];s_op
  s_stop
  exact Rr d h2 c b
theorem Rw(d:w.cell? ⟨pb,0,none⟩=some (.chan (some cb)))(h2:w.cell? ⟨tb,1,none⟩=some (.int .i64 id))(c:∀t,LoneTo Tryz.prog Q (G ((base 128).at ⟨#[.pointer (some ⟨pb,0,none⟩),.pointer (some ⟨tb,0,none⟩),u2,u3,u4,u5,u6,u7,u8,u9,u10,u11,u12,u13,u14,u15,u16,u17,u18,u19,u20,u21,u22,.pointer (some ⟨pb,0,none⟩),.pointer (some ⟨pb,0,none⟩),.pointer (some ⟨pb,0,none⟩),.chan (some cb),.pointer (some ⟨tb,0,none⟩),.pointer (some ⟨tb,0,none⟩),.pointer (some ⟨tb,1,none⟩),.int .i64 id],[]⟩ (.inRegion aJ (Region.linearise.go .any aJ 1 t #[true,true,true,true,true,true,true,true,false] [])::kk)) cs) w)(t:Nat):LoneTo Tryz.prog Q (G ((base 128).at ⟨#[.pointer (some ⟨pb,0,none⟩),.pointer (some ⟨tb,0,none⟩),u2,u3,u4,u5,u6,u7,u8,u9,u10,u11,u12,u13,u14,u15,u16,u17,u18,u19,u20,u21,u22,.pointer (some ⟨pb,0,none⟩),.pointer (some ⟨pb,0,none⟩),undef,undef,.pointer (some ⟨tb,0,none⟩),undef,undef,undef],[]⟩ (.inRegion aJ (Region.linearise.go .any aJ 6 t #[true,true,false,false,true,false,false,false,false] [])::kk)) cs) w:=by
 obtain⟨i,hi,b,e⟩:=fR (md:=.any) (ops:=aJ) (fuel:=5) (t:=t) (listed:= #[true,true,false,false,true,false,false,false,false]) (rs:= [2,5]) (by kernel_rfl) (by simp);rw[e];rcases au.1 hi with rfl|hi
 ·skip
  refine LoneTo.goes (n:=1) ?_;simp only[aJ,Tryz.f128];s_op
  s_stop
  exact Rr d h2 c b
 ·rw[aA.1 hi]
  refine LoneTo.goes (n:=1) ?_;simp only[aJ,Tryz.f128];s_op
  s_stop
  exact Rv d h2 c b
theorem Rz(d:w.cell? ⟨pb,0,none⟩=some (.chan (some cb)))(h2:w.cell? ⟨tb,1,none⟩=some (.int .i64 id))(c:∀t,LoneTo Tryz.prog Q (G ((base 128).at ⟨#[.pointer (some ⟨pb,0,none⟩),.pointer (some ⟨tb,0,none⟩),u2,u3,u4,u5,u6,u7,u8,u9,u10,u11,u12,u13,u14,u15,u16,u17,u18,u19,u20,u21,u22,.pointer (some ⟨pb,0,none⟩),.pointer (some ⟨pb,0,none⟩),.pointer (some ⟨pb,0,none⟩),.chan (some cb),.pointer (some ⟨tb,0,none⟩),.pointer (some ⟨tb,0,none⟩),.pointer (some ⟨tb,1,none⟩),.int .i64 id],[]⟩ (.inRegion aJ (Region.linearise.go .any aJ 1 t #[true,true,true,true,true,true,true,true,false] [])::kk)) cs) w)(t:Nat):LoneTo Tryz.prog Q (G ((base 128).at ⟨#[.pointer (some ⟨pb,0,none⟩),.pointer (some ⟨tb,0,none⟩),u2,u3,u4,u5,u6,u7,u8,u9,u10,u11,u12,u13,u14,u15,u16,u17,u18,u19,u20,u21,u22,.pointer (some ⟨pb,0,none⟩),undef,undef,undef,.pointer (some ⟨tb,0,none⟩),.pointer (some ⟨tb,0,none⟩),undef,undef],[]⟩ (.inRegion aJ (Region.linearise.go .any aJ 6 t #[true,false,false,false,true,true,false,false,false] [])::kk)) cs) w:=by
 obtain⟨i,hi,b,e⟩:=fR (md:=.any) (ops:=aJ) (fuel:=5) (t:=t) (listed:= #[true,false,false,false,true,true,false,false,false]) (rs:= [1,6]) (by kernel_rfl) (by simp);rw[e];rcases au.1 hi with rfl|hi
 ·skip
  refine LoneTo.goes (n:=1) ?_;simp only[aJ,Tryz.f128];s_op
  s_stop
  exact Rv d h2 c b
 ·rw[aA.1 hi]
  refine LoneTo.goes (n:=1) ?_;simp only[aJ,Tryz.f128];s_op
  s_stop
  exact Ry d h2 c b
theorem UB(d:w.cell? ⟨pb,0,none⟩=some (.chan (some cb)))(h2:w.cell? ⟨tb,1,none⟩=some (.int .i64 id))(c:∀t,LoneTo Tryz.prog Q (G ((base 128).at ⟨#[.pointer (some ⟨pb,0,none⟩),.pointer (some ⟨tb,0,none⟩),u2,u3,u4,u5,u6,u7,u8,u9,u10,u11,u12,u13,u14,u15,u16,u17,u18,u19,u20,u21,u22,.pointer (some ⟨pb,0,none⟩),.pointer (some ⟨pb,0,none⟩),.pointer (some ⟨pb,0,none⟩),.chan (some cb),.pointer (some ⟨tb,0,none⟩),.pointer (some ⟨tb,0,none⟩),.pointer (some ⟨tb,1,none⟩),.int .i64 id],[]⟩ (.inRegion aJ (Region.linearise.go .any aJ 1 t #[true,true,true,true,true,true,true,true,false] [])::kk)) cs) w)(t:Nat):LoneTo Tryz.prog Q (G ((base 128).at ⟨#[.pointer (some ⟨pb,0,none⟩),.pointer (some ⟨tb,0,none⟩),u2,u3,u4,u5,u6,u7,u8,u9,u10,u11,u12,u13,u14,u15,u16,u17,u18,u19,u20,u21,u22,undef,undef,undef,undef,.pointer (some ⟨tb,0,none⟩),.pointer (some ⟨tb,0,none⟩),.pointer (some ⟨tb,1,none⟩),undef],[]⟩ (.inRegion aJ (Region.linearise.go .any aJ 6 t #[false,false,false,false,true,true,true,false,false] [])::kk)) cs) w:=by
 obtain⟨i,hi,b,e⟩:=fR (md:=.any) (ops:=aJ) (fuel:=5) (t:=t) (listed:= #[false,false,false,false,true,true,true,false,false]) (rs:= [0,7]) (by kernel_rfl) (by simp);rw[e];rcases au.1 hi with rfl|hi
 ·skip
  refine LoneTo.goes (n:=1) ?_;simp only[aJ,Tryz.f128];s_op
  s_stop
  exact Ry d h2 c b
 ·rw[aA.1 hi]
  refine LoneTo.goes (n:=1) ?_;simp only[aJ,Tryz.f128];s_op
  s_stop
  exact UA d h2 c b
theorem Uy(d:w.cell? ⟨pb,0,none⟩=some (.chan (some cb)))(h2:w.cell? ⟨tb,1,none⟩=some (.int .i64 id))(c:∀t,LoneTo Tryz.prog Q (G ((base 128).at ⟨#[.pointer (some ⟨pb,0,none⟩),.pointer (some ⟨tb,0,none⟩),u2,u3,u4,u5,u6,u7,u8,u9,u10,u11,u12,u13,u14,u15,u16,u17,u18,u19,u20,u21,u22,.pointer (some ⟨pb,0,none⟩),.pointer (some ⟨pb,0,none⟩),.pointer (some ⟨pb,0,none⟩),.chan (some cb),.pointer (some ⟨tb,0,none⟩),.pointer (some ⟨tb,0,none⟩),.pointer (some ⟨tb,1,none⟩),.int .i64 id],[]⟩ (.inRegion aJ (Region.linearise.go .any aJ 1 t #[true,true,true,true,true,true,true,true,false] [])::kk)) cs) w)(t:Nat):LoneTo Tryz.prog Q (G ((base 128).at ⟨#[.pointer (some ⟨pb,0,none⟩),.pointer (some ⟨tb,0,none⟩),u2,u3,u4,u5,u6,u7,u8,u9,u10,u11,u12,u13,u14,u15,u16,u17,u18,u19,u20,u21,u22,.pointer (some ⟨pb,0,none⟩),.pointer (some ⟨pb,0,none⟩),undef,undef,undef,undef,undef,undef],[]⟩ (.inRegion aJ (Region.linearise.go .any aJ 7 t #[true,true,false,false,false,false,false,false,false] [])::kk)) cs) w:=by
 obtain⟨i,hi,b,e⟩:=fR (md:=.any) (ops:=aJ) (fuel:=6) (t:=t) (listed:= #[true,true,false,false,false,false,false,false,false]) (rs:= [2,4]) (by kernel_rfl) (by simp);rw[e];rcases au.1 hi with rfl|hi
 ·skip
  refine LoneTo.goes (n:=1) ?_;simp only[aJ,Tryz.f128];s_op
  s_stop
  exact Ux d h2 c b
 ·rw[aA.1 hi]
  refine LoneTo.goes (n:=1) ?_;simp only[aJ,Tryz.f128];s_op
  s_stop
  exact Rw d h2 c b
theorem RH(d:w.cell? ⟨pb,0,none⟩=some (.chan (some cb)))(h2:w.cell? ⟨tb,1,none⟩=some (.int .i64 id))(c:∀t,LoneTo Tryz.prog Q (G ((base 128).at ⟨#[.pointer (some ⟨pb,0,none⟩),.pointer (some ⟨tb,0,none⟩),u2,u3,u4,u5,u6,u7,u8,u9,u10,u11,u12,u13,u14,u15,u16,u17,u18,u19,u20,u21,u22,.pointer (some ⟨pb,0,none⟩),.pointer (some ⟨pb,0,none⟩),.pointer (some ⟨pb,0,none⟩),.chan (some cb),.pointer (some ⟨tb,0,none⟩),.pointer (some ⟨tb,0,none⟩),.pointer (some ⟨tb,1,none⟩),.int .i64 id],[]⟩ (.inRegion aJ (Region.linearise.go .any aJ 1 t #[true,true,true,true,true,true,true,true,false] [])::kk)) cs) w)(t:Nat):LoneTo Tryz.prog Q (G ((base 128).at ⟨#[.pointer (some ⟨pb,0,none⟩),.pointer (some ⟨tb,0,none⟩),u2,u3,u4,u5,u6,u7,u8,u9,u10,u11,u12,u13,u14,u15,u16,u17,u18,u19,u20,u21,u22,.pointer (some ⟨pb,0,none⟩),undef,undef,undef,.pointer (some ⟨tb,0,none⟩),undef,undef,undef],[]⟩ (.inRegion aJ (Region.linearise.go .any aJ 7 t #[true,false,false,false,true,false,false,false,false] [])::kk)) cs) w:=by
 obtain⟨i,hi,b,e⟩:=fR (md:=.any) (ops:=aJ) (fuel:=6) (t:=t) (listed:= #[true,false,false,false,true,false,false,false,false]) (rs:= [1,5]) (by kernel_rfl) (by simp);rw[e];rcases au.1 hi with rfl|hi
 ·skip
  refine LoneTo.goes (n:=1) ?_;simp only[aJ,Tryz.f128];s_op
  s_stop
  exact Rw d h2 c b
 ·rw[aA.1 hi]
  refine LoneTo.goes (n:=1) ?_;simp only[aJ,Tryz.f128];s_op
  s_stop
  exact Rz d h2 c b
theorem UC(d:w.cell? ⟨pb,0,none⟩=some (.chan (some cb)))(h2:w.cell? ⟨tb,1,none⟩=some (.int .i64 id))(c:∀t,LoneTo Tryz.prog Q (G ((base 128).at ⟨#[.pointer (some ⟨pb,0,none⟩),.pointer (some ⟨tb,0,none⟩),u2,u3,u4,u5,u6,u7,u8,u9,u10,u11,u12,u13,u14,u15,u16,u17,u18,u19,u20,u21,u22,.pointer (some ⟨pb,0,none⟩),.pointer (some ⟨pb,0,none⟩),.pointer (some ⟨pb,0,none⟩),.chan (some cb),.pointer (some ⟨tb,0,none⟩),.pointer (some ⟨tb,0,none⟩),.pointer (some ⟨tb,1,none⟩),.int .i64 id],[]⟩ (.inRegion aJ (Region.linearise.go .any aJ 1 t #[true,true,true,true,true,true,true,true,false] [])::kk)) cs) w)(t:Nat):LoneTo Tryz.prog Q (G ((base 128).at ⟨#[.pointer (some ⟨pb,0,none⟩),.pointer (some ⟨tb,0,none⟩),u2,u3,u4,u5,u6,u7,u8,u9,u10,u11,u12,u13,u14,u15,u16,u17,u18,u19,u20,u21,u22,undef,undef,undef,undef,.pointer (some ⟨tb,0,none⟩),.pointer (some ⟨tb,0,none⟩),undef,undef],[]⟩ (.inRegion aJ (Region.linearise.go .any aJ 7 t #[false,false,false,false,true,true,false,false,false] [])::kk)) cs) w:=by
 obtain⟨i,hi,b,e⟩:=fR (md:=.any) (ops:=aJ) (fuel:=6) (t:=t) (listed:= #[false,false,false,false,true,true,false,false,false]) (rs:= [0,6]) (by kernel_rfl) (by simp);rw[e];rcases au.1 hi with rfl|hi
 ·skip
  refine LoneTo.goes (n:=1) ?_;simp only[aJ,Tryz.f128];s_op
  s_stop
  exact Rz d h2 c b
 ·rw[aA.1 hi]
  refine LoneTo.goes (n:=1) ?_;simp only[aJ,Tryz.f128];s_op
  s_stop
  exact UB d h2 c b
theorem Uz(d:w.cell? ⟨pb,0,none⟩=some (.chan (some cb)))(h2:w.cell? ⟨tb,1,none⟩=some (.int .i64 id))(c:∀t,LoneTo Tryz.prog Q (G ((base 128).at ⟨#[.pointer (some ⟨pb,0,none⟩),.pointer (some ⟨tb,0,none⟩),u2,u3,u4,u5,u6,u7,u8,u9,u10,u11,u12,u13,u14,u15,u16,u17,u18,u19,u20,u21,u22,.pointer (some ⟨pb,0,none⟩),.pointer (some ⟨pb,0,none⟩),.pointer (some ⟨pb,0,none⟩),.chan (some cb),.pointer (some ⟨tb,0,none⟩),.pointer (some ⟨tb,0,none⟩),.pointer (some ⟨tb,1,none⟩),.int .i64 id],[]⟩ (.inRegion aJ (Region.linearise.go .any aJ 1 t #[true,true,true,true,true,true,true,true,false] [])::kk)) cs) w)(t:Nat):LoneTo Tryz.prog Q (G ((base 128).at ⟨#[.pointer (some ⟨pb,0,none⟩),.pointer (some ⟨tb,0,none⟩),u2,u3,u4,u5,u6,u7,u8,u9,u10,u11,u12,u13,u14,u15,u16,u17,u18,u19,u20,u21,u22,.pointer (some ⟨pb,0,none⟩),undef,undef,undef,undef,undef,undef,undef],[]⟩ (.inRegion aJ (Region.linearise.go .any aJ 8 t #[true,false,false,false,false,false,false,false,false] [])::kk)) cs) w:=by
 obtain⟨i,hi,b,e⟩:=fR (md:=.any) (ops:=aJ) (fuel:=7) (t:=t) (listed:= #[true,false,false,false,false,false,false,false,false]) (rs:= [1,4]) (by kernel_rfl) (by simp);rw[e];rcases au.1 hi with rfl|hi
 ·skip
  refine LoneTo.goes (n:=1) ?_;simp only[aJ,Tryz.f128];s_op
  s_stop
  exact Uy d h2 c b
 ·rw[aA.1 hi]
  refine LoneTo.goes (n:=1) ?_;simp only[aJ,Tryz.f128];s_op
  s_stop
  exact RH d h2 c b
theorem UD(d:w.cell? ⟨pb,0,none⟩=some (.chan (some cb)))(h2:w.cell? ⟨tb,1,none⟩=some (.int .i64 id))(c:∀t,LoneTo Tryz.prog Q (G ((base 128).at ⟨#[.pointer (some ⟨pb,0,none⟩),.pointer (some ⟨tb,0,none⟩),u2,u3,u4,u5,u6,u7,u8,u9,u10,u11,u12,u13,u14,u15,u16,u17,u18,u19,u20,u21,u22,.pointer (some ⟨pb,0,none⟩),.pointer (some ⟨pb,0,none⟩),.pointer (some ⟨pb,0,none⟩),.chan (some cb),.pointer (some ⟨tb,0,none⟩),.pointer (some ⟨tb,0,none⟩),.pointer (some ⟨tb,1,none⟩),.int .i64 id],[]⟩ (.inRegion aJ (Region.linearise.go .any aJ 1 t #[true,true,true,true,true,true,true,true,false] [])::kk)) cs) w)(t:Nat):LoneTo Tryz.prog Q (G ((base 128).at ⟨#[.pointer (some ⟨pb,0,none⟩),.pointer (some ⟨tb,0,none⟩),u2,u3,u4,u5,u6,u7,u8,u9,u10,u11,u12,u13,u14,u15,u16,u17,u18,u19,u20,u21,u22,undef,undef,undef,undef,.pointer (some ⟨tb,0,none⟩),undef,undef,undef],[]⟩ (.inRegion aJ (Region.linearise.go .any aJ 8 t #[false,false,false,false,true,false,false,false,false] [])::kk)) cs) w:=by
 obtain⟨i,hi,b,e⟩:=fR (md:=.any) (ops:=aJ) (fuel:=7) (t:=t) (listed:= #[false,false,false,false,true,false,false,false,false]) (rs:= [0,5]) (by kernel_rfl) (by simp);rw[e];rcases au.1 hi with rfl|hi
 ·skip
  refine LoneTo.goes (n:=1) ?_;simp only[aJ,Tryz.f128];s_op
  s_stop
  exact RH d h2 c b
 ·rw[aA.1 hi]
  refine LoneTo.goes (n:=1) ?_;simp only[aJ,Tryz.f128];s_op
  s_stop
  exact UC d h2 c b
theorem UE(d:w.cell? ⟨pb,0,none⟩=some (.chan (some cb)))(h2:w.cell? ⟨tb,1,none⟩=some (.int .i64 id))(c:∀t,LoneTo Tryz.prog Q (G ((base 128).at ⟨#[.pointer (some ⟨pb,0,none⟩),.pointer (some ⟨tb,0,none⟩),u2,u3,u4,u5,u6,u7,u8,u9,u10,u11,u12,u13,u14,u15,u16,u17,u18,u19,u20,u21,u22,.pointer (some ⟨pb,0,none⟩),.pointer (some ⟨pb,0,none⟩),.pointer (some ⟨pb,0,none⟩),.chan (some cb),.pointer (some ⟨tb,0,none⟩),.pointer (some ⟨tb,0,none⟩),.pointer (some ⟨tb,1,none⟩),.int .i64 id],[]⟩ (.inRegion aJ (Region.linearise.go .any aJ 1 t #[true,true,true,true,true,true,true,true,false] [])::kk)) cs) w)(t:Nat):LoneTo Tryz.prog Q (G ((base 128).at ⟨#[.pointer (some ⟨pb,0,none⟩),.pointer (some ⟨tb,0,none⟩),u2,u3,u4,u5,u6,u7,u8,u9,u10,u11,u12,u13,u14,u15,u16,u17,u18,u19,u20,u21,u22,undef,undef,undef,undef,undef,undef,undef,undef],[]⟩ (.inRegion aJ (Region.linearise.go .any aJ 9 t #[false,false,false,false,false,false,false,false,false] [])::kk)) cs) w:=by
 obtain⟨i,hi,b,e⟩:=fR (md:=.any) (ops:=aJ) (fuel:=8) (t:=t) (listed:= #[false,false,false,false,false,false,false,false,false]) (rs:= [0,4]) (by kernel_rfl) (by simp);rw[e];rcases au.1 hi with rfl|hi
 ·skip
  refine LoneTo.goes (n:=1) ?_;simp only[aJ,Tryz.f128];s_op
  s_stop
  exact Uz d h2 c b
 ·rw[aA.1 hi]
  refine LoneTo.goes (n:=1) ?_;simp only[aJ,Tryz.f128];s_op
  s_stop
  exact UD d h2 c b
end
theorem L2{P:Program}{c:Bool}{b:Frame}{a:Act}{k:List Item}{cs:List Frame}{w:World}{id:Nat}{ops:Array Oper}:stepG P c (G (b.at a (.code (.region id ops true)::k)) cs) w=.go (G (b.at a (.inRegion ops (Region.schedule (P.follows .mixedOrders) ops (w.tape w.drawn (.order b.fn id)))::k)) cs) {w with drawn:=w.drawn+1}:=by
 simp[G,stepG,stepG.exec,Frame.at,choose,Sem.run,Question.forced,Question.cut]
set_option maxRecDepth 100000 in
theorem QI{w:World}{b:Nat}{c:Array Value}{t:TypeId}(k:w.heap[b]? =some (.cells c t (0,0))) (hc:0<c.size):(binOp .neq 116 (.pointer (some ⟨b,0,none⟩)) (.pointer (some ⟨b,0,none⟩))).run Tryz.prog w=.ok (.bool false) w:=by
 have e:Tryz.prog.underlying 116=some (.pointer 179):=by kernel_rfl
 have g:Nat.beq (cf Tryz.prog 179) 0=false:=by kernel_rfl
 have f:iX w.heap ⟨b,0,none⟩:=⟨c,t,k,hc⟩;have h:TM Tryz.prog 116 true (.pointer (some ⟨b,0,none⟩)) (.pointer (some ⟨b,0,none⟩)) (fun v _=>v=.bool false) w.heap:=by
  unfold TM;rw[e];simp only[];rw[g];refine⟨trivial,fun x y hx j=>?_,by simp⟩
  cases hx;cases j;exact⟨f,f⟩
 unfold TM at h;rw[e]at h;obtain⟨_,d,_⟩:=h;obtain⟨_,_,v,S,m,n,i⟩:=Du (P:=Tryz.prog) (t:=116) (neg:=true) (x:=.pointer (some ⟨b,0,none⟩)) (y:=.pointer (some ⟨b,0,none⟩)) (K:=fun v S=>v=.bool false∧Sg S w.heap) (h:=w.heap) (by
  unfold TM
  rw[e]
  simp only[]
  rw[g]
  exact⟨trivial,d,by simp,d⟩)
 obtain⟨rfl,h2⟩:=m;exact i w h2
set_option maxRecDepth 100000 in
set_option maxHeartbeats 4000000 in
theorem Rh{w:World}{pb tb cb cap s r:Nat}{id:Int}{buf:Array Value}(k:w.heap[pb]? =some (.cells #[.chan (some cb)] 179 (0,0))) (b:w.heap[tb]? =some (.cells #[.pointer (some ⟨pb,0,none⟩),.int .i64 id,.bool true] 249 (0,0))) (hc:w.heap[cb]? =some (.chan cap buf false s r false)) (u:buf.size<cap) (f:pb≠tb) (g:cb≠tb):
  Calls Tryz.prog 128 #[.pointer (some ⟨pb,0,none⟩),.pointer (some ⟨tb,0,none⟩)] w fun e w'=>e=.returned (.int .i64 0)∧∃n,w'=({w.setCell ⟨tb,2,none⟩ (.bool false)with drawn:=n}:World).setChan cb cap (buf.push (.int .i64 id)) false (s+1) r false:=by
 refine calls_of_loneTo fun cs=>?_
 have e:Frame.enter Tryz.prog 128 #[.pointer (some ⟨pb,0,none⟩),.pointer (some ⟨tb,0,none⟩)] .normal=(base 128).at ⟨#[.pointer (some ⟨pb,0,none⟩),.pointer (some ⟨tb,0,none⟩),undef,undef,undef,undef,undef,undef,undef,undef,undef,undef,undef,undef,undef,undef,undef,undef,undef,undef,undef,undef,undef,undef,undef,undef,undef,undef,undef,undef,undef],[]⟩ [.code (Tryz.f128.body.getD .skip)]:=by
  simp[Frame.enter,Frame.at,Tryz.func128,base,Tryz.f128]
 rw[e];have q:=Ab b (i:=0) rfl;have o:=Ab b (i:=2) rfl;have p:=O8 b (i:=2);have v:=QI k (by simp);refine LoneTo.goes (n:=52) ?_;simp only[Tryz.f128,rQ];s_c stepG_seq
 s_reg
 s_op
 s_c stepG_region_end
 s_c stepG_seq
 s_c stepG_seq
 s_reg
 s_op
 s_op
 s_op
 s_op
 s_call Tryz.func114 (by kernel_rfl) Tryz.f114
 s_c stepG_seq
 s_reg
 s_op
 s_c stepG_region_end
 s_c stepG_seq
 s_reg
 s_op
 s_op
 s_op
 s_op
 s_op
 s_op
 s_op
 s_op
 s_op
 s_c stepG_region_end
 s_c stepG_ret'
 s_leave1 Tryz.func114
 s_op
 s_op
 s_op
 s_op
 s_op
 s_op
 s_op
 s_op
 s_op
 s_op
 s_c stepG_region_end
 s_cond false
 s_c stepG_skip
 s_c stepG_seq
 s_reg
 s_op
 s_op
 s_op
 s_op
 s_c stepG_region_end
 s_c stepG_seq
 s_in
 rw[L2];simp only[goes_go];refine⟨trivial,?_⟩;s_stop
 have hm:Tryz.prog.follows .mixedOrders=true:=Tryz.mixed;simp only[Region.schedule,hm,Bool.true_or,if_true,Region.linearise];have m:=Upd.hset (M:=(· =tb)) w.heap (a:=⟨tb,2,none⟩) (.bool false) rfl
 have d:=m.get k (fun e=>f e)
 have j:=m.get hc (fun e=>g e)
 refine UE (pb:=pb) (tb:=tb) (cb:=cb) (id:=id) (Ab d (i:=0) rfl) ?_ (fun t=>?_) _
 ·show(w.setCell ⟨tb,2,none⟩ (.bool false)).cell? ⟨tb,1,none⟩=_
  rw[World.cell?_setCell_other _ _ _ _ (by simp)];exact Ab b (i:=1) rfl
 ·obtain⟨i,hi,x,e⟩:=fR (md:=.any) (ops:=aJ) (fuel:=0) (t:=t) (listed:= #[true,true,true,true,true,true,true,true,false]) (rs:= [8]) (by kernel_rfl) (by simp)
  rw[e,aA.1 hi];simp only[aJ,Tryz.f128,Region.linearise.go,List.reverse_nil];refine LoneTo.step (step_lone_send_room (c:=cb) (cap:=cap) (buf:=buf) (s:=s) (r:=r) (tm:=false) (stepG_comm (cases:= #[scase cb (.int .i64 id) (.tuple #[])]) (blocking:=true) (shape:=.send) (w':={w.setCell ⟨tb,2,none⟩ (.bool false)with drawn:=w.drawn+1}) rfl rfl (by decide) (by simp[execOp,scase,Act.eval])) j u) ?_
  rw[Frame.finish_at];walk_nrm
  refine LoneTo.goes (n:=6) ?_;s_c stepG_region_end
  s_c stepG_seq
  s_reg
  s_op
  s_c stepG_region_end
  s_c stepG_ret'
  s_stop
  refine LoneTo.done ⟨.returned (.int .i64 0),_,rfl,⟨rfl,_,rfl⟩,rfl,rfl,rfl,rfl,_,Tryz.func128,by simp[results,Tryz.f128,Frame.at]⟩
end Go.Proofs
namespace Go.Proofs
open Go Go.Lift Go.Conc
def PoolAt(h:af)(pb cb cap:Nat)(ids:List Int):Prop:=pb≠cb∧h[pb]? =some (.cells #[.chan (some cb)] 179 (0,0))∧∃s r,h[cb]? =some (.chan cap (ids.map fun i=>Value.int .i64 i).toArray false s r false)
theorem PoolAt.upd{M:Nat→Prop}{h c:af}{pb cb cap:Nat}{ids:List Int}(p:PoolAt h pb cb cap ids)(k:Upd M h c)(d:¬M pb)(h2:¬M cb):PoolAt c pb cb cap ids:=let⟨n,a,s,r,b⟩:=p;⟨n,k.get a d,s,r,k.get b h2⟩
theorem PoolAt.upd0{h b:af}{pb cb cap:Nat}{ids:List Int}(p:PoolAt h pb cb cap ids)(k:Upd No h b):PoolAt b pb cb cap ids:=p.upd k id id
def TokAt(h:af)(tb pb:Nat)(id:Int)(b:Bool):Prop:=h[tb]? =some (.cells #[.pointer (some ⟨pb,0,none⟩),.int .i64 id,.bool b] oJ (0,0))
theorem MH{n:Nat}(m:1≤n)(t:n≤4096){h:af}{K:Option Addr×Int→af→Prop}(g:∀h',Upd No h h'→PoolAt h' (h.size+1) h.size n ((fB n).map fun j=>((j:Nat):Int)+1)→K (some ⟨h.size+1,0,none⟩,0) h'):HC PG Ee [.int .i64 n] [.c .ptr,.c (.int .i64)] K h:=by
 refine⟨fun w q=>.inl ⟨Tryz.call42 _ w,(QG m t (w:=w)).mono ?_⟩⟩
 subst q;rintro e w' ⟨rfl,ids,s,r,o,k,p⟩;have k1:Upd No w.heap ((w.heap.push (.chan n #[] false 0 0 false)).push (.cells #[.chan (some w.heap.size)] 179 (0,0))):=(Upd.push No w.heap _).tr (Upd.push No _ _);have b:ids=(((fB n).map fun j=>((j:Nat):Int)+1).map fun i=>Value.int .i64 i):=by rw[o];simp[Function.comp_def]
 have c:((w.heap.push (.chan n #[] false 0 0 false)).push (.cells #[.chan (some w.heap.size)] 179 (0,0)))[w.heap.size+1]? =some (.cells #[.chan (some w.heap.size)] 179 (0,0)):=by
  rw[kX,Array.size_push,if_pos rfl]
 rcases p with rfl|rfl
 ·refine⟨⟨rfl,rfl,rfl⟩,((some ⟨w.heap.size+1,0,none⟩,0):Option Addr×Int),rfl,g _ k1 ⟨by omega,c,s,r,?_⟩⟩
  rw[←b];exact k
 ·have d:=Upd.set (M:=(· =w.heap.size)) ((w.heap.push (.chan n #[] false 0 0 false)).push (.cells #[.chan (some w.heap.size)] 179 (0,0))) (.chan n ids.toArray false s r false) rfl
  refine⟨⟨rfl,rfl,rfl⟩,((some ⟨w.heap.size+1,0,none⟩,0):Option Addr×Int),rfl,g _ (k1.trans d fun y f=>.inr (by have f:y=w.heap.size:=f;omega)) ⟨by omega,d.get c (fun e=>by have e:w.heap.size+1=w.heap.size:=e;omega),s,r,?_⟩⟩
  rw[←b];exact k
theorem KM{h:af}{pb cb cap:Nat}{i:Int}{ids:List Int}(p:PoolAt h pb cb cap (i::ids)){K:Option Addr×Int→af→Prop}(g:∀h',Upd (· =cb) h h'→PoolAt h' pb cb cap ids→TokAt h' h.size pb i true→K (some ⟨h.size,0,none⟩,0) h'):HC PG vC [.pointer (some ⟨pb,0,none⟩)] [.c .ptr,.c (.int .i64)] K h:=by
 obtain⟨n,b,s,r,hc⟩:=p;refine⟨fun w d=>.inl ⟨Tryz.call126 _ w,?_⟩⟩
 subst d;rw[cx]at hc;refine(OE b hc).mono ?_;rintro e w' ⟨rfl,rfl⟩;have f:cb<w.heap.size:=(ct.1 hc).1;have k1:=Upd.set (M:=(· =cb)) w.heap (.chan cap (ids.map fun i=>Value.int .i64 i).toArray false s (r+1) false) rfl
 have c:=k1.tr (Upd.push (· =cb) _ (.cells #[.pointer (some ⟨pb,0,none⟩),.int .i64 i,.bool true] oJ (0,0)))
 refine⟨⟨rfl,rfl,rfl⟩,((some ⟨w.heap.size,0,none⟩,0):Option Addr×Int),rfl,g _ c ⟨n,c.get b n,s,r+1,?_⟩ ?_⟩
 ·show((w.heap.setIfInBounds cb _).push _)[cb]? =_
  rw[kX,pk,if_neg (by omega),cR,if_pos rfl,if_pos f]
 ·show((w.heap.setIfInBounds cb _).push _)[w.heap.size]? =_
  rw[kX,pk,if_pos rfl]
theorem Mw{h:af}{pb cb cap tb:Nat}{id:Int}{ids:List Int}(p:PoolAt h pb cb cap ids)(t:TokAt h tb pb id true)(u:ids.length<cap){K:Int→af→Prop}(q:∀h',Upd (fun y=>y=cb∨y=tb) h h'→PoolAt h' pb cb cap (ids++ [id])→TokAt h' tb pb id false→K 0 h'):HC PG xa [.pointer (some ⟨pb,0,none⟩),.pointer (some ⟨tb,0,none⟩)] [.c (.int .i64)] K h:=by
 obtain⟨n,d,s,r,hc⟩:=p;have c:pb≠tb:=fun e=>by
  subst e;have:=d.symm.trans t;simp at this
 have b:cb≠tb:=fun e=>by
  subst e;have:=hc.symm.trans t;simp at this
 refine⟨fun w k=>.inl ⟨Tryz.call128 _ w,?_⟩⟩
 subst k;refine(Rh d t hc (by simpa using u) c b).mono ?_;rintro e w' ⟨rfl,m,rfl⟩;have k1:=Upd.hset (M:=(· =tb)) w.heap (a:=⟨tb,2,none⟩) (.bool false) rfl
 have f:=Upd.set (M:=(· =cb)) (hset w.heap ⟨tb,2,none⟩ (.bool false)) (.chan cap ((ids.map fun i=>Value.int .i64 i).toArray.push (.int .i64 id)) false (s+1) r false) rfl
 have o:cb<(hset w.heap ⟨tb,2,none⟩ (.bool false)).size:=bo (k1.get hc fun e=>b e)
 refine⟨⟨rfl,rfl,rfl⟩,(0:Int),rfl,q _ ((k1.mono fun y g=>.inl (.inr g)).trans f fun y g=>.inl (.inl g)) ⟨n,f.get (k1.get d fun e=>c e) (fun e=>n e),s+1,r,?_⟩ (f.get ?_ (fun e=>b e.symm))⟩
 ·show((hset w.heap ⟨tb,2,none⟩ (.bool false)).setIfInBounds cb _)[cb]? =_
  rw[cR,if_pos rfl,if_pos o];simp
 ·have j:w.heap[tb]? =some (.cells #[.pointer (some ⟨pb,0,none⟩),.int .i64 id,.bool true] oJ (0,0)):=t
  rw[oL j,fe j];rfl
end Go.Proofs
namespace Go.Proofs
open Go Go.Lift
section
variable {W:Nat→Prop} {h:af} {sp vp:Nat} {s:VS} {sm:Option Nat} {last:Int} {pool:Option Addr} {o:UN}
end
end Go.Proofs
namespace Go.Proofs
open Go Go.Lift
abbrev U8:List Kind:= [.agg [.int .i64,.int .u64,.int .u64,.int .u64,.ptr,.ptr],.c (.int .i64)]
abbrev Ws(pb tb:Nat)(t:Tr):List Value:= [.pointer (some ⟨pb,0,none⟩),.pointer (some ⟨tb,0,none⟩)]++py t
def EdAt(h:af)(eb pb tb:Nat)(t:Tr):Prop:=h[eb]? =some (.cells (Ws pb tb t).toArray yy (0,0))
theorem QL{h:af}{tb pb:Nat}{ti:Int}{b:Bool}(k:TokAt h tb pb ti b){K:Bool→af→Prop}(c:K b h):HC PG gX [.pointer (some ⟨tb,0,none⟩)] [.c .bool] K h:=by
 refine uU _ ?_;unfold pR xZ;exact aX.2 ⟨_,rfl,_,vc k 2,c⟩
theorem y6{h:af}{eb pb tb:Nat}{t:Tr}{ti:Int}{b:Bool}(e:EdAt h eb pb tb t)(k:TokAt h tb pb ti b){K:Bool→af→Prop}(c:K (!b) h):HC PG jx [.pointer (some ⟨eb,0,none⟩)] [.c .bool] K h:=by
 refine BF _ ?_;unfold vi bZ;exact aX.2 ⟨_,rfl,_,vc e 1,QL k c⟩
theorem Pe{h:af}{eb pb tb:Nat}{t:Tr}{ti:Int}{b:Bool}(e:EdAt h eb pb tb t)(k:TokAt h tb pb ti b){K:Int→af→Prop}(c:K (if b then 0 else 5) h):HC PG rN [.pointer (some ⟨eb,0,none⟩)] [.c (.int .i64)] K h:=by
 refine DJ _ ?_;unfold xq;refine aH.2 (y6 e k ?_);cases b
 ·exact aX.2 c
 ·exact aH.2 c
theorem EdAt.upd{M:Nat→Prop}{h b:af}{eb pb tb:Nat}{t:Tr}(e:EdAt h eb pb tb t)(k:Upd M h b)(hm:¬M eb):EdAt b eb pb tb t:=k.get e hm
theorem TokAt.upd{M:Nat→Prop}{h c:af}{tb pb:Nat}{ti:Int}{b:Bool}(e:TokAt h tb pb ti b)(k:Upd M h c)(hm:¬M tb):TokAt c tb pb ti b:=k.get e hm
theorem TN{h:af}{eb pb tb cb cap:Nat}{ids:List Int}{c:Tr}{ti:Int}{b:Bool}(e:EdAt h eb pb tb c)(k:TokAt h tb pb ti b)(p:PoolAt h pb cb cap ids):eb≠cb∧eb≠tb∧tb≠cb:=by
 obtain⟨n,d,s,r,hc⟩:=p;refine⟨fun h=>?_,fun h=>?_,fun h=>?_⟩
 ·subst h;have:=e.symm.trans hc;simp at this
 ·subst h;have:=e.symm.trans k;simp at this
 ·subst h;have:=k.symm.trans hc;simp at this
theorem MZ{h:af}{eb pb tb cb cap:Nat}{ids:List Int}{i:Tr}{ti:Int}(e:EdAt h eb pb tb i)(k:TokAt h tb pb ti true)(p:PoolAt h pb cb cap ids)(t:ids.length<cap){K:Tr×Int→af→Prop}(s:∀h',Upd (fun y=>y=cb∨y=tb) h h'→PoolAt h' pb cb cap (ids++ [ti])→TokAt h' tb pb ti false→EdAt h' eb pb tb i→K (i,0) h'):pS (some ⟨eb,0,none⟩) K h:=by
 obtain⟨D,x,u⟩:=TN e k p;unfold pS fA aC ag cq bW ar bZ kJ uo yw;refine bO fun E b1 k1=>?_
 have B:cb<h.size:=by obtain⟨_,_,_,_,hc⟩:=p;exact bo hc
 have v:=bo k;have z:=k1.size;have f:=e.upd k1 fun h=>h
 refine Pe f (k.upd k1 fun h=>h) (aH.2 ⟨_,rfl,_,vc f 0,_,rfl,_,vc f 1,?_⟩)
 refine Mw (p.upd0 k1) (k.upd k1 fun h=>h) t fun h2 g q n=>?_
 have d:=f.upd g (by omega);refine⟨_,rfl,_,Fe d 2 0,_,Fe d 2 1,_,Fe d 2 2,_,Fe d 2 3,_,Fe d 2 4,_,Fe d 2 5,?_⟩;refine eE (c:=py vX) (vs:=py i) (g.get b1 (by omega)) rfl fun o b3 b=>?_
 refine⟨_,vc b3 0,_,vc b3 1,_,vc b3 2,_,vc b3 3,_,vc b3 4,_,vc b3 5,?_⟩;have C:=g.size;have w:=bo e;obtain⟨_,j,_⟩:=id p;have A:=bo j;exact s o ((k1.wide.tr g).trans b fun y m=>.inr (by have m:y=h.size:=m;omega)) (q.upd b (by omega) (by omega)) (n.upd b (by omega)) (d.upd b (by omega))
theorem Ln{h:af}{eb pb tb cb cap:Nat}{ids:List Int}{b:Tr}{ti:Int}(e:EdAt h eb pb tb b)(k:TokAt h tb pb ti true)(p:PoolAt h pb cb cap ids)(c:ids.length<cap){K:Tr×Int→af→Prop}(d:∀h',Upd (fun y=>y=cb∨y=tb) h h'→PoolAt h' pb cb cap (ids++ [ti])→TokAt h' tb pb ti false→EdAt h' eb pb tb b→K (b,0) h'):HC PG pJ [.pointer (some ⟨eb,0,none⟩)] U8 K h:=
 BG _ (MZ e k p c d)
theorem Pd{h:af}{eb pb tb cb cap:Nat}{i ti:Int}{ids m:List Int}{q:Tr}(e:EdAt h eb pb tb q)(k:TokAt h tb pb ti true)(p:PoolAt h pb cb cap ids)(hn:ids.length<cap)(hi:ids++ [ti]=i::m){K:Tr×Int→af→Prop}
  (T:∀h' tb',Upd (fun y=>y=cb∨y=tb∨y=eb) h h'→PoolAt h' pb cb cap m→TokAt h' tb pb ti false→TokAt h' tb' pb i true→EdAt h' eb pb tb' q→h.size≤tb'→K (q,0) h'):HC PG rO [.pointer (some ⟨eb,0,none⟩)] U8 K h:=by
 obtain⟨W,n2,P⟩:=TN e k p;have ze:=bo e;have zt:=bo k;obtain⟨pn,z,_,_,hc⟩:=id p;have zp:=bo z;have zc:=bo hc;have X:pb≠tb:=fun h=>by subst h;have:=z.symm.trans k;simp at this
 have R:pb≠eb:=fun h=>by subst h;have:=z.symm.trans e;simp at this
 refine DK _ ?_;unfold xr fA nv aC ag cu ar bZ kJ oq yw;refine bO fun Z b1 k1=>Ln (e.upd k1 id) (k.upd k1 id) (p.upd0 k1) hn fun Q x V J Y=>FG (t:=q) fun H L o=>Join.plain (aX.2 ?_)
 have s1:=k1.size;have z1:=bo b1;have s3:=x.size;have s5:=o.size;have I:=Y.upd o id;have G:=V.upd0 o;have S:=J.upd o id;rw[hi]at G;refine⟨_,rfl,_,vc I 0,KM G fun u f D s=>?_⟩
 have O:=bo s;have V3:=f.size;have C:=I.upd f W;refine⟨_,rfl,yv C (i:=1) (by simp) rfl fun A F d=>?_⟩
 have U:=o.get0 (x.get b1 (by omega));have n:=d.oth (f.get L (by omega)) (by omega);refine⟨_,vc n 0,_,vc n 1,_,vc n 2,_,vc n 3,_,vc n 4,_,vc n 5,?_⟩;refine eE (c:=py vX) (vs:=py q) (d.oth (f.get U (by omega)) (by omega)) rfl fun v b g=>?_
 refine⟨_,vc b 0,_,vc b 1,_,vc b 2,_,vc b 3,_,vc b 4,_,vc b 5,?_⟩;have w:=(D.upd d (by omega) (by omega)).upd g (by omega) (by omega);refine T v H.size ?_ w (((S.upd f P).upd d (by omega)).upd g (by omega)) ((s.upd d (by omega)).upd g (by omega)) ((EdAt.upd (t:=q) F (Upd.refl (fun _=>False) _) id).upd g (by omega)) (by omega)
 have N:Upd (fun y=>y=cb∨y=tb∨y=eb) Z Q:=x.mono fun y j=>.inl (j.imp id .inl)
 have E:Upd (fun y=>y=cb∨y=tb∨y=eb) H u:=f.mono fun y j=>.inl (.inl j)
 have B:Upd (fun y=>y=cb∨y=tb∨y=eb) u A:=d.mono fun y j=>.inl (.inr (.inr j))
 exact((((k1.wide.tr N).tr o.wide).tr E).tr B).trans g fun y j=>.inr (by have j:y=h.size:=j;omega)
theorem JE{h:af}{eb pb tb:Nat}{f:Tr}{ti:Int}{lv:Bool}(e:EdAt h eb pb tb f)(k:TokAt h tb pb ti lv){K:Tr×Bool→af→Prop}(g:∀h',Upd No h h'→K (if lv then vX else f, !lv) h'):HC PG pI [.pointer (some ⟨eb,0,none⟩)] [.agg [.int .i64,.int .u64,.int .u64,.int .u64,.ptr,.ptr],.c .bool] K h:=by
 refine BE _ ?_;unfold vh fA aC ag cq bW ar bZ kJ yw;refine bO fun i b1 k1=>y6 (e.upd k1 id) (k.upd k1 id) ?_
 have ed:=e.upd k1 id;cases lv
 ·refine aH.2 ⟨_,rfl,_,Fe ed 2 0,_,Fe ed 2 1,_,Fe ed 2 2,_,Fe ed 2 3,_,Fe ed 2 4,_,Fe ed 2 5,?_⟩
  exact eE (c:=py vX) (vs:=py f) b1 rfl fun d b3 b=>⟨_,vc b3 0,_,vc b3 1,_,vc b3 2,_,vc b3 3,_,vc b3 4,_,vc b3 5,g d (k1.own b (aq _))⟩
 ·exact aX.2 (eE (c:=py vX) (vs:=py vX) b1 rfl fun d b3 b=>⟨_,vc b3 0,_,vc b3 1,_,vc b3 2,_,vc b3 3,_,vc b3 4,_,vc b3 5,g d (k1.own b (aq _))⟩)
end Go.Proofs
namespace Go.Proofs
open Go Go.Lift
section
variable {W:Nat→Prop} {h:af} {sp vp:Nat} {s:VS} {sm:Option Nat} {last:Int} {pool:Option Addr} {o:UN}
theorem VaultAt.hM(v:VaultAt W h vp s):∀y,s.M y→y<h.size:=fun y b=>v.g.lt y (v.w y b)
end
end Go.Proofs
namespace Go.Proofs
open Go Go.Lift
structure Se where
 n:Int
 eb:Nat
 tb:Nat
 ti:Int
 lv:Bool
abbrev KI:KeyE Int:=Vt .i64
abbrev pA(a:Option Addr):Value:=.pointer a
abbrev Se.a(e:Se):Int×Option Addr:=(e.n,some ⟨e.eb,0,none⟩)
def WS(M:Nat→Prop)(cb:Nat)(h:af)(y:Nat):Prop:=M y∨(cb≤y∧y<h.size)
theorem WS.re{h c:af}{d cb:Nat}{s:VS}{M:Nat→Prop}(v:VaultAt (WS s.M cb h) h d s)(vl:∀y,s.M y→y<cb)(k:Upd M h c)(hM:∀y,M y→cb≤y):VaultAt (WS s.M cb c) c d s:=by
 have f:=k.size;refine v.re k (fun y b=>?_) (fun y b=>?_) fun y b=>.inl b
 ·by_cases e:y<h.size
  ·exact .inl ⟨.inr ⟨hM y b,e⟩,fun hm=>by have:=vl y hm;have:=hM y b;omega⟩
  ·exact .inr (by omega)
 ·rcases b with b|⟨g,h2⟩
  ·exact⟨.inl (.inl b),Nat.lt_of_lt_of_le (v.g.lt y (.inl b)) f⟩
  ·by_cases e:y<h.size
   ·exact⟨.inl (.inr ⟨g,e⟩),h2⟩
   ·exact⟨.inr (by omega),h2⟩
structure SsAt(h:af)(sp vp sm pb cb:Nat)(s:VS)(last:Int)(ids:List Int)(es:List Se):Prop where
 v:VaultAt (WS s.M cb h) h vp s
 vl:∀y,s.M y→y<cb
 vc:vp<cb
 b:h[sp]? =some (.cells (stL vp (some sm) last (some ⟨pb,0,none⟩)).toArray Ax (0,0))
 o:cb<pb∧pb<sm∧sm<sp
 m:MapAt KI pA h sm (es.map Se.a)
 p:PoolAt h pb cb 16 ids
 cap:ids.length+(es.filter (·.lv)).length=16
 ed:∀e∈es,EdAt h e.eb pb e.tb s.e∧TokAt h e.tb pb e.ti e.lv∧sp<e.eb∧sp<e.tb
 nde:(es.map (·.eb)).Nodup
 ndt:(es.map (·.tb)).Nodup
 ky:∀e∈es,1≤e.n∧e.n≤last
 ndk:(es.map (·.n)).Nodup
 few:es.length≤16
 l0:0≤last∧last≤1000
section
variable {h h':af} {sp vp sm pb cb:Nat} {s:VS} {last:Int} {ids:List Int} {es:List Se}
theorem SsAt.up0(g:SsAt h sp vp sm pb cb s last ids es)(k:Upd No h h'):SsAt h' sp vp sm pb cb s last ids es:=
 ⟨WS.re g.v g.vl k fun _ h=>h.elim,g.vl,g.vc,k.get0 g.b,g.o,g.m.upd k fun h=>h,g.p.upd0 k,g.cap,fun e b=>⟨(g.ed e b).1.upd k fun h=>h,(g.ed e b).2.1.upd k fun h=>h,(g.ed e b).2.2⟩,g.nde,g.ndt,g.ky,g.ndk,g.few,g.l0⟩
theorem SsAt.lt(g:SsAt h sp vp sm pb cb s last ids es):∀e∈es,e.eb<h.size∧e.tb<h.size:=fun e b=>⟨bo (g.ed e b).1,bo (g.ed e b).2.1⟩
theorem SsAt.own(g:SsAt h sp vp sm pb cb s last ids es){b:Nat}(u:Upd (· =b) h h')(p:sp<b)(c:∀e∈es,e.eb≠b∧e.tb≠b):SsAt h' sp vp sm pb cb s last ids es:=by
 have o:=g.o;refine⟨WS.re g.v g.vl u fun y f=>by have f:y=b:=f;omega,g.vl,g.vc,u.oth g.b (by omega),g.o,g.m.upd u (by omega),g.p.upd u (by omega) (by omega),g.cap,fun e d=>?_,g.nde,g.ndt,g.ky,g.ndk,g.few,g.l0⟩
 obtain⟨k,m,j⟩:=g.ed e d;obtain⟨n,i⟩:=c e d;exact⟨k.upd u n,m.upd u i,j⟩
end
end Go.Proofs
namespace Go.Proofs
open Go Go.Lift
section
variable {W:Nat→Prop} {h:af} {sp vp sm pb cb:Nat} {s:VS} {last:Int} {ids:List Int} {es:List Se} {o:UN}
end
end Go.Proofs
namespace Go.Proofs
open Go Go.Lift
section
variable {h:af} {sp vp sm pb cb:Nat} {s:VS} {last:Int} {ids:List Int} {es:List Se} {o:UN}
theorem SsAt.look(g:SsAt h sp vp sm pb cb s last ids es){e:Se}(b:e∈es):fW (es.map Se.a) e.n=some (some ⟨e.eb,0,none⟩):=by
 have nd:((es.map Se.a).map (·.1)).Nodup:=by rw[ik];exact g.ndk
 exact(DB nd).2 (bQ.2 ⟨e,b,rfl⟩)
end
end Go.Proofs
namespace Go.Proofs
open Go Go.Lift
theorem QE{β:Type}{f:Se→β}{es:List Se}(nd:(es.map f).Nodup){q e:Se}(m:q∈es)(d:e∈es)(h:f q=f e):q=e:=by
 obtain⟨i,hi,b⟩:=cd m;obtain⟨j,k,c⟩:=cd d;have:(es.map f)[i]'(by simpa using hi)=(es.map f)[j]'(by simpa using k):=by simp[b,c,h]
 have g:=(List.getElem_inj nd).1 this;subst g;exact b.symm.trans c
section
variable {h:af} {sp vp sm pb cb:Nat} {s:VS} {last:Int} {ids:List Int} {es:List Se} {o:UN}
theorem SsAt.ne(g:SsAt h sp vp sm pb cb s last ids es){b:Nat}(d:h.size≤b):∀e∈es,e.eb≠b∧e.tb≠b:=fun e c=>by have:=g.lt e c;omega
end
end Go.Proofs
namespace Go.Proofs
open Go Go.Lift
def LQ(eb tb:Nat)(ti:Int)(q:Se):Se:=if q.eb=eb then{q with tb:=tb,ti:=ti}else q
theorem Ft(eb tb:Nat)(ti:Int)(q:Se):(LQ eb tb ti q).n=q.n∧(LQ eb tb ti q).eb=q.eb∧(LQ eb tb ti q).lv=q.lv:=by unfold LQ;split<;>exact⟨rfl,rfl,rfl⟩
theorem SM(eb tb:Nat)(ti:Int)(es:List Se):(es.map (LQ eb tb ti)).map Se.a=es.map Se.a∧(es.map (LQ eb tb ti)).map (·.n)=es.map (·.n)∧(es.map (LQ eb tb ti)).map (·.eb)=es.map (·.eb)∧((es.map (LQ eb tb ti)).filter (·.lv)).length=(es.filter (·.lv)).length:=by
 refine⟨?_,?_,?_,?_⟩
 ·rw[ik]
  exact List.map_congr_left fun q _=>by simp only[Function.comp_apply,Se.a,(Ft eb tb ti q).1,(Ft eb tb ti q).2.1]
 ·rw[ik];exact List.map_congr_left fun q _=>(Ft eb tb ti q).1
 ·rw[ik];exact List.map_congr_left fun q _=>(Ft eb tb ti q).2.1
 ·rw[List.filter_map,fU]
  congr 1
  exact List.filter_congr fun q _=>(Ft eb tb ti q).2.2
theorem Qk{eb tb:Nat}{ti:Int}:∀{es:List Se},(es.map (·.eb)).Nodup→(es.map (·.tb)).Nodup→(∀q∈es,q.tb≠tb)→((es.map (LQ eb tb ti)).map (·.tb)).Nodup
 | [],_,_,_=>List.nodup_nil
 |q::es,b,c,hn=>by
  have b:=fT.1 b;have c:=fT.1 c;have i:=Qk (eb:=eb) (tb:=tb) (ti:=ti) b.2 c.2 fun q o=>hn q (aR _ o)
  rw[cx,cx,fT];refine⟨fun hm=>?_,i⟩
  obtain⟨p,g,e⟩:=bQ.1 hm;obtain⟨r,d,rfl⟩:=bQ.1 g;have n:q.eb≠r.eb:=fun j=>b.1 (by show q.eb∈es.map (·.eb);rw[j];exact bQ.2 ⟨r,d,rfl⟩)
  have f:q.tb≠r.tb:=fun j=>c.1 (by show q.tb∈es.map (·.tb);rw[j];exact bQ.2 ⟨r,d,rfl⟩)
  have m:=hn q List.mem_cons_self;have k:=hn r (aR _ d);unfold LQ at e;split at e<;>split at e
  ·omega
  ·exact m e.symm
  ·exact k e
  ·exact f e.symm
section
variable {h:af} {sp vp sm pb cb:Nat} {s:VS} {last:Int} {ids:List Int} {es:List Se}
theorem Ug(g:SsAt h sp vp sm pb cb s last ids es){e:Se}(x:e∈es){K:Tr→af→Prop}(X:∀h' t ids' es',es'.map Se.a=es.map Se.a→(∀b,b<h.size→b≠cb→(∀q∈es,q.eb≠b∧q.tb≠b)→h'[b]? =h[b]?∧∀q∈es',q.eb≠b∧q.tb≠b)→Upd (fun y=>cb≤y) h h'→SsAt h' sp vp sm pb cb s last ids' es'→K t h'):
  HC PG vD [.pointer (some ⟨e.eb,0,none⟩)] [.agg [.int .i64,.int .u64,.int .u64,.int .u64,.ptr,.ptr]] K h:=by
 obtain⟨O,H,d3,d4⟩:=g.ed e x;have o1:=g.o;refine LF _ ?_;unfold Ek fA nv aC ag ar kJ oq yw;refine bO fun C b1 k1=>JE (O.upd k1 fun h=>h) (H.upd k1 fun h=>h) fun h2 F=>?_
 have s1:=k1.size;have z1:=bo b1;have s2:=F.size;cases hl:e.lv with
 |false=>
  refine bO fun h3 b3 P=>eE (c:=py vX) (vs:=py s.e) b3 rfl fun L v T=>aX.2 ⟨_,vc v 0,_,vc v 1,_,vc v 2,_,vc v 3,_,vc v 4,_,vc v 5,?_⟩
  have m:Upd No h2 L:=P.own T (aq _);refine eE (c:=py vX) (vs:=py s.e) (m.get0 (F.get0 b1)) rfl fun D z G=>⟨_,vc z 0,_,vc z 1,_,vc z 2,_,vc z 3,_,vc z 4,_,vc z 5,?_⟩
  have u:Upd No h D:=((k1.tr F).tr m).own G (aq _);exact X D s.e ids es rfl (fun b V _ J=>⟨u.same b V fun h=>h,J⟩) u.wide (g.up0 u)
 |true=>
  rw[hl]at H;refine bO fun h3 b3 P=>eE (c:=py vX) (vs:=py vX) b3 rfl fun L v T=>aH.2 ?_
  have m:Upd No h2 L:=P.own T (aq _);have n:=(k1.tr F).tr m;have g4:=g.up0 n;have xf:1≤(es.filter (·.lv)).length:=List.length_pos_of_mem (List.mem_filter.2 ⟨x,hl⟩)
  have cap:=g.cap;obtain⟨i,k,hi⟩:∃i k,ids++ [e.ti]=i::k:=by
   cases ids with
   |nil=>exact⟨_,[],rfl⟩
   |cons a l=>exact⟨a,l++ [e.ti],rfl⟩
  have hil:k.length=ids.length:=by have:=congrArg List.length hi;simpa using this.symm
  refine Pd (O.upd n fun h=>h) (H.upd n fun h=>h) g4.p (by omega) hi fun D d G W t5 S e5 q5=>?_
  have lt:=g.lt;have lte:=lt e x;have TB:=n.size;have s24:=m.size;refine bO fun h6 b6 k6=>eE (c:=py vX) (vs:=py s.e) b6 rfl fun h7 B u7=>⟨_,vc B 0,_,vc B 1,_,vc B 2,_,vc B 3,_,vc B 4,_,vc B 5,?_⟩
  have E:Upd No D h7:=k6.own u7 (aq _);have d7:h7[h.size]? =some (.cells (py vX).toArray cn (0,0)):=E.get0 (G.get (m.get0 (F.get0 b1)) (by omega));refine eE (c:=py vX) (vs:=py s.e) d7 rfl fun I A u8=>⟨_,vc A 0,_,vc A 1,_,vc A 2,_,vc A 3,_,vc A 4,_,vc A 5,?_⟩
  have o:Upd (fun y=>y=h.size) D I:=E.wide.tr u8
  have f:Upd (fun y=>y=cb∨y=e.tb∨y=e.eb∨y=h.size) h I:=(n.wide.tr (G.mono fun y U=>.inl (by omega))).tr (o.mono fun y U=>.inl (by omega))
  obtain⟨Z,m2,m3,m4⟩:=SM e.eb d i es;refine X I s.e k (es.map (LQ e.eb d i)) Z (fun b V hcb J=>⟨f.same b V fun hh=>?_,fun q p=>?_⟩) (f.mono fun y U=>.inl (by omega)) ?_
  ·have:=J e x;omega
  ·obtain⟨r,j,rfl⟩:=bQ.1 p
   have:=J r j;refine⟨by rw[(Ft e.eb d i r).2.1];exact this.1,?_⟩;unfold LQ;split
   ·show d≠b;omega
   ·exact this.2
  ·have R:∀r∈es,r.eb≠cb∧r.tb≠cb:=fun r j=>by obtain⟨_,_,N,Y⟩:=g.ed r j;omega
   have hx:∀r∈es,r.eb≠e.tb∧r.tb≠e.eb:=fun r j=>by
    obtain⟨c1,Q,_,_⟩:=g.ed r j;refine⟨fun w=>?_,fun w=>?_⟩
    ·have C:h[r.eb]? =some (.cells (Ws pb r.tb s.e).toArray yy (0,0)):=c1
     rw[w]at C;have h2:h[e.tb]? =some (.cells #[.pointer (some ⟨pb,0,none⟩),.int .i64 e.ti,.bool true] oJ (0,0)):=H;have:=C.symm.trans h2;simp at this
    ·have C:h[r.tb]? =some (.cells #[.pointer (some ⟨pb,0,none⟩),.int .i64 r.ti,.bool r.lv] oJ (0,0)):=Q
     rw[w]at C;have h2:h[e.eb]? =some (.cells (Ws pb e.tb s.e).toArray yy (0,0)):=O;have:=C.symm.trans h2;simp at this
   have zsp:=bo g.b;refine⟨WS.re g.v g.vl f fun y U=>by omega,g.vl,g.vc,f.get g.b (by omega),g.o,by rw[Z];exact g.m.upd f (by have:=g.m.lt;omega),W.upd o (by have:=bo W.2.1;omega) (by omega),by rw[m4];omega,fun q p=>?_,by rw[m3];exact g.nde,Qk g.nde g.ndt fun q p=>by have:=lt q p;omega,fun q p=>?_,by rw[m2];exact g.ndk,by rw[fU];exact g.few,g.l0⟩
   ·obtain⟨r,j,rfl⟩:=bQ.1 p
    obtain⟨c1,Q,N,Y⟩:=g.ed r j;have l1:=lt r j;obtain⟨n1,n2⟩:=R r j;obtain⟨x1,x2⟩:=hx r j;by_cases w:r.eb=e.eb
    ·have er:=QE g.nde j x w
     subst er;rw[show LQ r.eb d i r={r with tb:=d,ti:=i} by unfold LQ;rw[if_pos rfl]]
     refine⟨e5.upd o (by omega),?_,N,by show sp<d;omega⟩
     show TokAt I d pb i r.lv
     rw[hl];exact S.upd o (by omega)
    ·rw[show LQ e.eb d i r=r by unfold LQ;rw[if_neg w]]
     have tt:r.tb≠e.tb:=fun h=>w (by rw[QE g.ndt j x h])
     exact⟨c1.upd f (by omega),Q.upd f (by omega),N,Y⟩
   ·obtain⟨r,j,rfl⟩:=bQ.1 p
    rw[(Ft e.eb d i r).1];exact g.ky r j
end
end Go.Proofs
