/- A part of the proof that the named laws of this program answer true, whatever the input. -/
import Derived.Test.YtceikogjngfacaaGreatTreeF0
import Derived.Test.YtceikogjngfacaaGreatTreeF1
import Derived.Test.YtceikogjngfacaaGreatTreeF2
import Derived.Test.YtceikogjngfacaaGreatTreeF3
import Derived.Test.YtceikogjngfacaaGreatPart0
import Derived.Conc.LoneSelect
import Derived.KernelRfl
import Derived.Laws.Rows
import Derived.Test.YtceikogjngfacaaGreatPart1
import Derived.Test.YtceikogjngfacaaGreatPart7
import Derived.Test.YtceikogjngfacaaGreatLaw0
open Array renaming getElem?_eq_some_iff→cz,getElem?_setIfInBounds→dd,getElem?_push→kH,size_push→rU,size_setIfInBounds→ol
open List renaming range→eR,mem_singleton→aq,mem_cons→ar,map_cons→bJ,getElem_of_mem→ct
open Nat renaming le_refl→ai,lt_of_lt_of_le→aC
open Option renaming getD_some→qp
namespace Go.Proofs
open Go Go.Lift Go.Conc Go.RowKit
theorem Ab{w:World}{b i:Nat}{c:Array Value}{t:TypeId}{v:Value}(h:w.heap[b]? =some (.cells c t (0,0))) (hv:c[i]? =some v):w.cell? ⟨b,i,none⟩=some v:=by
 simp only[World.cell?,h];exact hv
theorem SP{w:World}{b i:Nat}{c:Array Value}{t:TypeId}(h:w.heap[b]? =some (.cells c t (0,0))):w.frozen? ⟨b,i,none⟩=false:=by
 simp only[World.frozen?,h];simp
set_option maxRecDepth 100000 in
theorem RR{w:World}{pb cb cap s r:Nat}{i:Int}{b:List Value}(f:w.heap[pb]? =some (.cells #[.chan (some cb)] 179 (0,0))) (hc:w.heap[cb]? =some (.chan cap (Value.int .i64 i::b).toArray false s r false)):
  Calls Tryz.prog 126 #[.pointer (some ⟨pb,0,none⟩)] w fun e w'=>e=.returned (.tuple #[.pointer (some ⟨w.heap.size,0,none⟩),.int .i64 0])∧w'=((w.setChan cb cap b.toArray false s (r+1) false).alloc (.cells #[.pointer (some ⟨pb,0,none⟩),.int .i64 i,.bool true] 249 (0,0))):=by
 refine calls_of_loneTo fun cs=>?_
 have e:Frame.enter Tryz.prog 126 #[.pointer (some ⟨pb,0,none⟩)] .normal=(base 126).at ⟨#[.pointer (some ⟨pb,0,none⟩),undef,undef,undef,undef,undef,undef,undef,undef,undef,undef,undef,undef,undef,undef,undef,undef,undef,undef],[]⟩ [.code (Tryz.f126.body.getD .skip)]:=by
  simp[Frame.enter,Frame.at,Tryz.func126,base,Tryz.f126]
 rw[e];have bh:=Ab f (i:=0) rfl;have d:(Value.int .i64 i::b).toArray.extract 1 (Value.int .i64 i::b).toArray.size=b.toArray:=by simp
 refine LoneTo.goes (n:=22) ?_;simp only[Tryz.f126,qp];s_c stepG_seq
 s_reg
 s_op
 s_op
 s_c stepG_region_end
 s_c stepG_seq
 s_c stepG_seq
 s_reg
 s_op
 s_op
 s_c stepG_region_end
 s_cond false
 s_c stepG_skip
 s_c stepG_seq
 s_reg
 s_op
 s_op
 s_op
 s_op
 s_c stepG_region_end
 s_c stepG_seq
 s_reg
 s_stop
 refine LoneTo.step (step_lone_select_recv_buf (c:=cb) (z:=.int .i64 0) (stepG_comm (cases:= #[rcase cb (.int .i64 0)]) (blocking:=false) (shape:=.select) (w':=w) rfl rfl (by decide) (by simp[go_sem,execOp,rcase,Act.eval])) hc (by simp)) ?_;rw[d];rw[Frame.finish_at];walk_nrm
 refine LoneTo.goes (n:=20) ?_;s_op
 s_op
 s_c stepG_region_end
 s_c stepG_block
 s_cond true
 s_c stepG_seq
 s_reg
 s_op
 s_op
 s_c stepG_region_end
 s_c stepG_seq
 s_reg
 s_op
 s_op
 s_op
 s_op
 s_op
 s_op
 s_c stepG_region_end
 s_c stepG_ret'
 s_stop
 refine LoneTo.done ⟨.returned (.tuple #[.pointer (some ⟨w.heap.size,0,none⟩),.int .i64 0]),_,rfl,⟨rfl,rfl⟩,rfl,rfl,rfl,rfl,_,Tryz.func126,by simp[results,Tryz.f126,Frame.at,size_setChan]⟩
theorem mkc(w:World)(n:Nat)(h:n≤4096):(Instr.makeChan 177 (.int .i64 n)).run Tryz.prog w=.ok (.chan (some w.heap.size)) (w.alloc (.chan n #[] false 0 0 false)):=by
 have c:Tryz.prog.underlying 177=some (.chan .both 3):=by kernel_rfl
 have d:(Tryz.prog.info? 3).map (·.bytes)=some 8:=by kernel_rfl
 obtain⟨i,hi,b⟩:=Option.map_eq_some_iff.1 d;exact run_makeChan (P:=Tryz.prog) (w:=w) c hi .i64 n (by omega) (by rw[b];omega)
noncomputable abbrev FX:Code:=match Tryz.f42.body with|some (.seq _ (.seq _ (.seq _ (.seq (.seq _ (.block _ (.loop c))) _))))=>c|_=>.skip
noncomputable abbrev Lx:Code:=match Tryz.f42.body with|some (.seq _ (.seq _ (.seq _ (.seq _ c))))=>c|_=>.skip
set_option maxRecDepth 100000 in
set_option maxHeartbeats 4000000 in
theorem UB{n pb cb:Nat}{Q:Goroutine→World→Prop}{cs:List Frame}(R:n≤4096)(E:pb≠cb):∀(m i:Nat) (y p e d g v u o f q:Value) (ids:List Value) (s r:Nat) (w:World),i+m=n→ids.length=i→w.heap[pb]? =some (.cells #[.chan (some cb)] 179 (0,0))→w.heap[cb]? =some (.chan n ids.toArray false s r false)→
  (∀(y p e d g v u o f q:Value) (b:List Value) (s' B:Nat) (w':World),b=ids++(eR m).map (fun j=>Value.int .i64 ((i+j:Nat)+1:Int))→(w'=w∨w'=w.setChan cb n b.toArray false s' B false)→w'.heap[cb]? =some (.chan n b.toArray false s' B false)→LoneTo Tryz.prog Q (G ((base 42).at ⟨#[.int .i64 n,undef,.pointer none,.int .i64 0,.pointer (some ⟨pb,0,none⟩),y,.int .i64 n,.bool false,.bool false,.int .i64 n,.bool false,.bool false,.int .i64 n,.chan (some cb),.agg #[.chan (some cb)],.pointer (some ⟨pb,0,none⟩),.int .i64 n,.int .i64 n,p,e,d,g,v,u,o,f,q,undef],[]⟩ [.code Lx]) cs) w')→
  LoneTo Tryz.prog Q (G ((base 42).at ⟨#[.int .i64 n,undef,.pointer none,.int .i64 0,.pointer (some ⟨pb,0,none⟩),y,.int .i64 n,.bool false,.bool false,.int .i64 n,.bool false,.bool false,.int .i64 n,.chan (some cb),.agg #[.chan (some cb)],.pointer (some ⟨pb,0,none⟩),.int .i64 n,.int .i64 i,p,e,d,g,v,u,o,f,q,undef],[]⟩ [.code FX,.inLoop FX,.inBlock 0,.code Lx]) cs) w:=by
 intro m;induction m with
 |zero=>
  intro i y p e d g v u o f q ids s r w x D H hc F;have x:i=n:=by omega
  subst x;have C:¬((i:Int)<(i:Int)):=by omega
  refine LoneTo.goes (n:=9) ?_;simp only[FX,Tryz.f42];s_c stepG_seq
  s_reg
  s_op
  s_c stepG_region_end
  s_c stepG_seq
  s_cond false
  s_exit
  s_stop
  exact F _ _ _ _ _ _ _ _ _ _ ids s r w (by simp) (.inl rfl) hc
 |succ m ih=>
  intro i y p e d g v u o f q ids s r w x D H hc F;have C:((i:Int)<(n:Int)):=by omega
  have bh:=Ab H (i:=0) rfl;have O:IntKind.wrap .i64 ((i:Int)+1)=((i+1:Nat):Int):=by rw[dL (by omega)];omega
  refine LoneTo.goes (n:=21) ?_;simp only[FX,Tryz.f42];s_c stepG_seq
  s_reg
  s_op
  s_c stepG_region_end
  s_c stepG_seq
  s_cond true
  s_c stepG_skip
  s_c stepG_seq
  s_c stepG_block
  s_c stepG_seq
  s_reg
  s_op
  s_op
  s_c stepG_region_end
  s_reg
  s_op
  s_op
  s_op
  s_op
  s_op
  s_op
  s_stop
  refine LoneTo.step (step_lone_send_room (c:=cb) (cap:=n) (buf:=ids.toArray) (s:=s) (r:=r) (tm:=false) (stepG_comm (cases:= #[scase cb (.int .i64 ((i:Int)+1)) (.tuple #[])]) (blocking:=true) (shape:=.send) (w':=w) rfl rfl (by decide) (by simp[execOp,scase,Act.eval])) hc (by simp[D];omega)) ?_;rw[Frame.finish_at];walk_nrm
  have I:cb<w.heap.size:=(cz.1 hc).1;refine LoneTo.goes (n:=7) ?_;s_c stepG_region_end
  s_c stepG_inBlock
  s_reg
  s_op
  s_op
  s_c stepG_region_end
  s_c stepG_inLoop
  s_stop
  have J:((i:Int)+1)=((i+1:Nat):Int):=by omega
  rw[J];refine ih (i+1) _ _ _ _ _ _ _ _ _ _ (ids++ [Value.int .i64 ((i+1:Nat):Int)]) (s+1) r (w.setChan cb n (ids++ [Value.int .i64 ((i+1:Nat):Int)]).toArray false (s+1) r false) (by omega) (by simp[D]) ?_ (heap_setChan _ _ _ _ _ _ _ _ I) fun y p e d g v u o f q b s' B w' K z A=>F y p e d g v u o f q b s' B w' ?_ (.inr ?_) A
  ·simp only[World.setChan,dd]
   rw[if_neg (Ne.symm E)];exact H
  ·rw[K,List.range_succ_eq_map]
   simp[Nat.add_comm,Nat.add_left_comm,Function.comp_def]
  ·rcases z with z|z
   ·subst z
    rw[heap_setChan _ _ _ _ _ _ _ _ I]at A;simp only[Option.some.injEq,Obj.chan.injEq]at A;obtain⟨_,P,_,L,N,_⟩:=A;rw[P,L,N]
   ·rw[z];simp[World.setChan]
set_option maxRecDepth 100000 in
set_option maxHeartbeats 4000000 in
theorem UA{n:Nat}{w:World}(C:1≤n)(b:n≤4096):Calls Tryz.prog 42 #[.int .i64 n] w fun e w'=>e=.returned (.tuple #[.pointer (some ⟨w.heap.size+1,0,none⟩),.int .i64 0])∧∃(ids:List Value) (s r:Nat),ids=(eR n).map (fun j=>Value.int .i64 ((0+j:Nat)+1:Int))∧w'.heap[w.heap.size]? =some (.chan n ids.toArray false s r false)∧(w'=(w.alloc (.chan n #[] false 0 0 false)).alloc (.cells #[.chan (some w.heap.size)] 179 (0,0))∨w'=((w.alloc (.chan n #[] false 0 0 false)).alloc (.cells #[.chan (some w.heap.size)] 179 (0,0))).setChan w.heap.size n ids.toArray false s r false):=by
 refine calls_of_loneTo fun cs=>?_
 have e:Frame.enter Tryz.prog 42 #[.int .i64 n] .normal=(base 42).at ⟨#[.int .i64 n,undef,undef,undef,undef,undef,undef,undef,undef,undef,undef,undef,undef,undef,undef,undef,undef,undef,undef,undef,undef,undef,undef,undef,undef,undef,undef,undef],[]⟩ [.code (Tryz.f42.body.getD .skip)]:=by
  simp[Frame.enter,Frame.at,Tryz.func42,base,Tryz.f42]
 rw[e];have g:=fun w=>mkc w n b
 have c1:¬((n:Int)<1):=by omega
 have B:¬(4096<(n:Int)):=by omega
 refine LoneTo.goes (n:=33) ?_;simp only[Tryz.f42,qp];s_c stepG_seq
 s_reg
 s_op
 s_op
 s_c stepG_region_end
 s_c stepG_seq
 s_c stepG_seq
 s_reg
 s_op
 s_op
 s_op
 s_op
 s_op
 s_op
 s_c stepG_region_end
 s_cond false
 s_c stepG_skip
 s_c stepG_seq
 s_reg
 s_op
 s_op
 s_op
 s_op
 s_op
 s_c stepG_region_end
 s_c stepG_seq
 s_c stepG_seq
 s_reg
 s_op
 s_op
 s_c stepG_region_end
 s_c stepG_block
 s_c stepG_loop
 s_stop
 have o:((w.alloc (.chan n #[] false 0 0 false)).alloc (.cells #[.chan (some w.heap.size)] 179 (0,0))).heap[w.heap.size+1]? =some (.cells #[.chan (some w.heap.size)] 179 (0,0)):=by
  have:=heap_alloc_new (w.alloc (.chan n #[] false 0 0 false)) (.cells #[.chan (some w.heap.size)] 179 (0,0));simpa using this
 have q:((w.alloc (.chan n #[] false 0 0 false)).alloc (.cells #[.chan (some w.heap.size)] 179 (0,0))).heap[w.heap.size]? =some (.chan n #[] false 0 0 false):=by
  show((w.heap.push (.chan n #[] false 0 0 false)).push (.cells #[.chan (some w.heap.size)] 179 (0,0)))[w.heap.size]? =_
  simp[kH]
 refine UB b (by omega) n 0 _ _ _ _ _ _ _ _ _ _ [] 0 0 _ (by omega) rfl o q fun D u c d i z y p f x ids s r w' m A v=>?_
 refine LoneTo.goes (n:=7) ?_;simp only[Lx,Tryz.f42];s_c stepG_seq
 s_reg
 s_op
 s_op
 s_op
 s_c stepG_region_end
 s_c stepG_ret'
 s_stop
 refine LoneTo.done ⟨.returned (.tuple #[.pointer (some ⟨w.heap.size+1,0,none⟩),.int .i64 0]),_,rfl,⟨rfl,ids,s,r,by simpa[eR]using m,v,A⟩,rfl,rfl,rfl,rfl,_,Tryz.func42,by simp[results,Tryz.f42,Frame.at]⟩
theorem fQ{md:Region.Mode}{ops:Array Oper}{fuel t:Nat}{listed:Array Bool}{rs:List Nat}(d:Region.ready md ops listed=rs)(c:rs≠[]):∃i∈rs,∃t',Region.linearise.go md ops (fuel+1) t listed []=i::Region.linearise.go md ops fuel t' (listed.setIfInBounds i true) []:=by
 subst d;simp only[Region.linearise.go];change∃i∈Region.ready md ops listed,∃t',(match(Region.ready md ops listed)[t%(Region.ready md ops listed).length]? with
  |some i=>Region.linearise.go md ops fuel (t/(Region.ready md ops listed).length) (listed.setIfInBounds i true) [i]
  |none=> [].reverse)=i::Region.linearise.go md ops fuel t' (listed.setIfInBounds i true) []
 have e:0<(Region.ready md ops listed).length:=List.length_pos_iff.2 c;have b:t%(Region.ready md ops listed).length<(Region.ready md ops listed).length:=Nat.mod_lt _ e;rw[List.getElem?_eq_getElem b];refine⟨_,List.getElem_mem b,t/(Region.ready md ops listed).length,?_⟩;simp only[];rw[linearise_go_acc];rfl
noncomputable abbrev aU:Array Oper:=match Tryz.f128.body with|some (.seq _ (.seq _ (.seq _ (.seq (.region _ o _) _))))=>o|_=> #[]
section
variable {pb tb cb:Nat} {id:Int} {u2 u3 u4 u5 u6 u7 u8 u9 u10 u11 u12 u13 u14 u15 u16 u17 u18 u19 u20 u21 u22:Value} {Q:Goroutine→World→Prop} {cs:List Frame} {kk:List Item} {w:World}
set_option maxRecDepth 100000
theorem Ve(_:w.cell? ⟨pb,0,none⟩=some (.chan (some cb)))(h2:w.cell? ⟨tb,1,none⟩=some (.int .i64 id))(b:∀t,LoneTo Tryz.prog Q (G ((base 128).at ⟨#[.pointer (some ⟨pb,0,none⟩),.pointer (some ⟨tb,0,none⟩),u2,u3,u4,u5,u6,u7,u8,u9,u10,u11,u12,u13,u14,u15,u16,u17,u18,u19,u20,u21,u22,.pointer (some ⟨pb,0,none⟩),.pointer (some ⟨pb,0,none⟩),.pointer (some ⟨pb,0,none⟩),.chan (some cb),.pointer (some ⟨tb,0,none⟩),.pointer (some ⟨tb,0,none⟩),.pointer (some ⟨tb,1,none⟩),.int .i64 id],[]⟩ (.inRegion aU (Region.linearise.go .any aU 1 t #[true,true,true,true,true,true,true,true,false] [])::kk)) cs) w)(t:Nat):LoneTo Tryz.prog Q (G ((base 128).at ⟨#[.pointer (some ⟨pb,0,none⟩),.pointer (some ⟨tb,0,none⟩),u2,u3,u4,u5,u6,u7,u8,u9,u10,u11,u12,u13,u14,u15,u16,u17,u18,u19,u20,u21,u22,.pointer (some ⟨pb,0,none⟩),.pointer (some ⟨pb,0,none⟩),.pointer (some ⟨pb,0,none⟩),.chan (some cb),.pointer (some ⟨tb,0,none⟩),.pointer (some ⟨tb,0,none⟩),.pointer (some ⟨tb,1,none⟩),undef],[]⟩ (.inRegion aU (Region.linearise.go .any aU 2 t #[true,true,true,true,true,true,true,false,false] [])::kk)) cs) w:=by
 obtain⟨i,hi,c,e⟩:=fQ (md:=.any) (ops:=aU) (fuel:=1) (t:=t) (listed:= #[true,true,true,true,true,true,true,false,false]) (rs:= [7]) (by kernel_rfl) (by simp);rw[e];rw[aq.1 hi];refine LoneTo.goes (n:=1) ?_;simp only[aU,Tryz.f128];s_op
 s_stop
 exact b c
theorem Vh(d:w.cell? ⟨pb,0,none⟩=some (.chan (some cb)))(_:w.cell? ⟨tb,1,none⟩=some (.int .i64 id))(b:∀t,LoneTo Tryz.prog Q (G ((base 128).at ⟨#[.pointer (some ⟨pb,0,none⟩),.pointer (some ⟨tb,0,none⟩),u2,u3,u4,u5,u6,u7,u8,u9,u10,u11,u12,u13,u14,u15,u16,u17,u18,u19,u20,u21,u22,.pointer (some ⟨pb,0,none⟩),.pointer (some ⟨pb,0,none⟩),.pointer (some ⟨pb,0,none⟩),.chan (some cb),.pointer (some ⟨tb,0,none⟩),.pointer (some ⟨tb,0,none⟩),.pointer (some ⟨tb,1,none⟩),.int .i64 id],[]⟩ (.inRegion aU (Region.linearise.go .any aU 1 t #[true,true,true,true,true,true,true,true,false] [])::kk)) cs) w)(t:Nat):LoneTo Tryz.prog Q (G ((base 128).at ⟨#[.pointer (some ⟨pb,0,none⟩),.pointer (some ⟨tb,0,none⟩),u2,u3,u4,u5,u6,u7,u8,u9,u10,u11,u12,u13,u14,u15,u16,u17,u18,u19,u20,u21,u22,.pointer (some ⟨pb,0,none⟩),.pointer (some ⟨pb,0,none⟩),.pointer (some ⟨pb,0,none⟩),undef,.pointer (some ⟨tb,0,none⟩),.pointer (some ⟨tb,0,none⟩),.pointer (some ⟨tb,1,none⟩),.int .i64 id],[]⟩ (.inRegion aU (Region.linearise.go .any aU 2 t #[true,true,true,false,true,true,true,true,false] [])::kk)) cs) w:=by
 obtain⟨i,hi,c,e⟩:=fQ (md:=.any) (ops:=aU) (fuel:=1) (t:=t) (listed:= #[true,true,true,false,true,true,true,true,false]) (rs:= [3]) (by kernel_rfl) (by simp);rw[e];rw[aq.1 hi];refine LoneTo.goes (n:=1) ?_;simp only[aU,Tryz.f128];s_op
 s_stop
 exact b c
theorem Vf(d:w.cell? ⟨pb,0,none⟩=some (.chan (some cb)))(h2:w.cell? ⟨tb,1,none⟩=some (.int .i64 id))(b:∀t,LoneTo Tryz.prog Q (G ((base 128).at ⟨#[.pointer (some ⟨pb,0,none⟩),.pointer (some ⟨tb,0,none⟩),u2,u3,u4,u5,u6,u7,u8,u9,u10,u11,u12,u13,u14,u15,u16,u17,u18,u19,u20,u21,u22,.pointer (some ⟨pb,0,none⟩),.pointer (some ⟨pb,0,none⟩),.pointer (some ⟨pb,0,none⟩),.chan (some cb),.pointer (some ⟨tb,0,none⟩),.pointer (some ⟨tb,0,none⟩),.pointer (some ⟨tb,1,none⟩),.int .i64 id],[]⟩ (.inRegion aU (Region.linearise.go .any aU 1 t #[true,true,true,true,true,true,true,true,false] [])::kk)) cs) w)(t:Nat):LoneTo Tryz.prog Q (G ((base 128).at ⟨#[.pointer (some ⟨pb,0,none⟩),.pointer (some ⟨tb,0,none⟩),u2,u3,u4,u5,u6,u7,u8,u9,u10,u11,u12,u13,u14,u15,u16,u17,u18,u19,u20,u21,u22,.pointer (some ⟨pb,0,none⟩),.pointer (some ⟨pb,0,none⟩),.pointer (some ⟨pb,0,none⟩),.chan (some cb),.pointer (some ⟨tb,0,none⟩),.pointer (some ⟨tb,0,none⟩),undef,undef],[]⟩ (.inRegion aU (Region.linearise.go .any aU 3 t #[true,true,true,true,true,true,false,false,false] [])::kk)) cs) w:=by
 obtain⟨i,hi,c,e⟩:=fQ (md:=.any) (ops:=aU) (fuel:=2) (t:=t) (listed:= #[true,true,true,true,true,true,false,false,false]) (rs:= [6]) (by kernel_rfl) (by simp);rw[e];rw[aq.1 hi];refine LoneTo.goes (n:=1) ?_;simp only[aU,Tryz.f128];s_op
 s_stop
 exact Ve d h2 b c
theorem Vi(d:w.cell? ⟨pb,0,none⟩=some (.chan (some cb)))(h2:w.cell? ⟨tb,1,none⟩=some (.int .i64 id))(b:∀t,LoneTo Tryz.prog Q (G ((base 128).at ⟨#[.pointer (some ⟨pb,0,none⟩),.pointer (some ⟨tb,0,none⟩),u2,u3,u4,u5,u6,u7,u8,u9,u10,u11,u12,u13,u14,u15,u16,u17,u18,u19,u20,u21,u22,.pointer (some ⟨pb,0,none⟩),.pointer (some ⟨pb,0,none⟩),.pointer (some ⟨pb,0,none⟩),.chan (some cb),.pointer (some ⟨tb,0,none⟩),.pointer (some ⟨tb,0,none⟩),.pointer (some ⟨tb,1,none⟩),.int .i64 id],[]⟩ (.inRegion aU (Region.linearise.go .any aU 1 t #[true,true,true,true,true,true,true,true,false] [])::kk)) cs) w)(t:Nat):LoneTo Tryz.prog Q (G ((base 128).at ⟨#[.pointer (some ⟨pb,0,none⟩),.pointer (some ⟨tb,0,none⟩),u2,u3,u4,u5,u6,u7,u8,u9,u10,u11,u12,u13,u14,u15,u16,u17,u18,u19,u20,u21,u22,.pointer (some ⟨pb,0,none⟩),.pointer (some ⟨pb,0,none⟩),.pointer (some ⟨pb,0,none⟩),undef,.pointer (some ⟨tb,0,none⟩),.pointer (some ⟨tb,0,none⟩),.pointer (some ⟨tb,1,none⟩),undef],[]⟩ (.inRegion aU (Region.linearise.go .any aU 3 t #[true,true,true,false,true,true,true,false,false] [])::kk)) cs) w:=by
 obtain⟨i,hi,c,e⟩:=fQ (md:=.any) (ops:=aU) (fuel:=2) (t:=t) (listed:= #[true,true,true,false,true,true,true,false,false]) (rs:= [3,7]) (by kernel_rfl) (by simp);rw[e];rcases ar.1 hi with rfl|hi
 ·skip
  refine LoneTo.goes (n:=1) ?_;simp only[aU,Tryz.f128];s_op
  s_stop
  exact Ve d h2 b c
 ·rw[aq.1 hi]
  refine LoneTo.goes (n:=1) ?_;simp only[aU,Tryz.f128];s_op
  s_stop
  exact Vh d h2 b c
theorem Vl(d:w.cell? ⟨pb,0,none⟩=some (.chan (some cb)))(h2:w.cell? ⟨tb,1,none⟩=some (.int .i64 id))(b:∀t,LoneTo Tryz.prog Q (G ((base 128).at ⟨#[.pointer (some ⟨pb,0,none⟩),.pointer (some ⟨tb,0,none⟩),u2,u3,u4,u5,u6,u7,u8,u9,u10,u11,u12,u13,u14,u15,u16,u17,u18,u19,u20,u21,u22,.pointer (some ⟨pb,0,none⟩),.pointer (some ⟨pb,0,none⟩),.pointer (some ⟨pb,0,none⟩),.chan (some cb),.pointer (some ⟨tb,0,none⟩),.pointer (some ⟨tb,0,none⟩),.pointer (some ⟨tb,1,none⟩),.int .i64 id],[]⟩ (.inRegion aU (Region.linearise.go .any aU 1 t #[true,true,true,true,true,true,true,true,false] [])::kk)) cs) w)(t:Nat):LoneTo Tryz.prog Q (G ((base 128).at ⟨#[.pointer (some ⟨pb,0,none⟩),.pointer (some ⟨tb,0,none⟩),u2,u3,u4,u5,u6,u7,u8,u9,u10,u11,u12,u13,u14,u15,u16,u17,u18,u19,u20,u21,u22,.pointer (some ⟨pb,0,none⟩),.pointer (some ⟨pb,0,none⟩),undef,undef,.pointer (some ⟨tb,0,none⟩),.pointer (some ⟨tb,0,none⟩),.pointer (some ⟨tb,1,none⟩),.int .i64 id],[]⟩ (.inRegion aU (Region.linearise.go .any aU 3 t #[true,true,false,false,true,true,true,true,false] [])::kk)) cs) w:=by
 obtain⟨i,hi,c,e⟩:=fQ (md:=.any) (ops:=aU) (fuel:=2) (t:=t) (listed:= #[true,true,false,false,true,true,true,true,false]) (rs:= [2]) (by kernel_rfl) (by simp);rw[e];rw[aq.1 hi];refine LoneTo.goes (n:=1) ?_;simp only[aU,Tryz.f128];s_op
 s_stop
 exact Vh d h2 b c
theorem Vg(d:w.cell? ⟨pb,0,none⟩=some (.chan (some cb)))(h2:w.cell? ⟨tb,1,none⟩=some (.int .i64 id))(b:∀t,LoneTo Tryz.prog Q (G ((base 128).at ⟨#[.pointer (some ⟨pb,0,none⟩),.pointer (some ⟨tb,0,none⟩),u2,u3,u4,u5,u6,u7,u8,u9,u10,u11,u12,u13,u14,u15,u16,u17,u18,u19,u20,u21,u22,.pointer (some ⟨pb,0,none⟩),.pointer (some ⟨pb,0,none⟩),.pointer (some ⟨pb,0,none⟩),.chan (some cb),.pointer (some ⟨tb,0,none⟩),.pointer (some ⟨tb,0,none⟩),.pointer (some ⟨tb,1,none⟩),.int .i64 id],[]⟩ (.inRegion aU (Region.linearise.go .any aU 1 t #[true,true,true,true,true,true,true,true,false] [])::kk)) cs) w)(t:Nat):LoneTo Tryz.prog Q (G ((base 128).at ⟨#[.pointer (some ⟨pb,0,none⟩),.pointer (some ⟨tb,0,none⟩),u2,u3,u4,u5,u6,u7,u8,u9,u10,u11,u12,u13,u14,u15,u16,u17,u18,u19,u20,u21,u22,.pointer (some ⟨pb,0,none⟩),.pointer (some ⟨pb,0,none⟩),.pointer (some ⟨pb,0,none⟩),.chan (some cb),.pointer (some ⟨tb,0,none⟩),undef,undef,undef],[]⟩ (.inRegion aU (Region.linearise.go .any aU 4 t #[true,true,true,true,true,false,false,false,false] [])::kk)) cs) w:=by
 obtain⟨i,hi,c,e⟩:=fQ (md:=.any) (ops:=aU) (fuel:=3) (t:=t) (listed:= #[true,true,true,true,true,false,false,false,false]) (rs:= [5]) (by kernel_rfl) (by simp);rw[e];rw[aq.1 hi];refine LoneTo.goes (n:=1) ?_;simp only[aU,Tryz.f128];s_op
 s_stop
 exact Vf d h2 b c
theorem Vj(d:w.cell? ⟨pb,0,none⟩=some (.chan (some cb)))(h2:w.cell? ⟨tb,1,none⟩=some (.int .i64 id))(b:∀t,LoneTo Tryz.prog Q (G ((base 128).at ⟨#[.pointer (some ⟨pb,0,none⟩),.pointer (some ⟨tb,0,none⟩),u2,u3,u4,u5,u6,u7,u8,u9,u10,u11,u12,u13,u14,u15,u16,u17,u18,u19,u20,u21,u22,.pointer (some ⟨pb,0,none⟩),.pointer (some ⟨pb,0,none⟩),.pointer (some ⟨pb,0,none⟩),.chan (some cb),.pointer (some ⟨tb,0,none⟩),.pointer (some ⟨tb,0,none⟩),.pointer (some ⟨tb,1,none⟩),.int .i64 id],[]⟩ (.inRegion aU (Region.linearise.go .any aU 1 t #[true,true,true,true,true,true,true,true,false] [])::kk)) cs) w)(t:Nat):LoneTo Tryz.prog Q (G ((base 128).at ⟨#[.pointer (some ⟨pb,0,none⟩),.pointer (some ⟨tb,0,none⟩),u2,u3,u4,u5,u6,u7,u8,u9,u10,u11,u12,u13,u14,u15,u16,u17,u18,u19,u20,u21,u22,.pointer (some ⟨pb,0,none⟩),.pointer (some ⟨pb,0,none⟩),.pointer (some ⟨pb,0,none⟩),undef,.pointer (some ⟨tb,0,none⟩),.pointer (some ⟨tb,0,none⟩),undef,undef],[]⟩ (.inRegion aU (Region.linearise.go .any aU 4 t #[true,true,true,false,true,true,false,false,false] [])::kk)) cs) w:=by
 obtain⟨i,hi,c,e⟩:=fQ (md:=.any) (ops:=aU) (fuel:=3) (t:=t) (listed:= #[true,true,true,false,true,true,false,false,false]) (rs:= [3,6]) (by kernel_rfl) (by simp);rw[e];rcases ar.1 hi with rfl|hi
 ·skip
  refine LoneTo.goes (n:=1) ?_;simp only[aU,Tryz.f128];s_op
  s_stop
  exact Vf d h2 b c
 ·rw[aq.1 hi]
  refine LoneTo.goes (n:=1) ?_;simp only[aU,Tryz.f128];s_op
  s_stop
  exact Vi d h2 b c
theorem Vm(d:w.cell? ⟨pb,0,none⟩=some (.chan (some cb)))(h2:w.cell? ⟨tb,1,none⟩=some (.int .i64 id))(b:∀t,LoneTo Tryz.prog Q (G ((base 128).at ⟨#[.pointer (some ⟨pb,0,none⟩),.pointer (some ⟨tb,0,none⟩),u2,u3,u4,u5,u6,u7,u8,u9,u10,u11,u12,u13,u14,u15,u16,u17,u18,u19,u20,u21,u22,.pointer (some ⟨pb,0,none⟩),.pointer (some ⟨pb,0,none⟩),.pointer (some ⟨pb,0,none⟩),.chan (some cb),.pointer (some ⟨tb,0,none⟩),.pointer (some ⟨tb,0,none⟩),.pointer (some ⟨tb,1,none⟩),.int .i64 id],[]⟩ (.inRegion aU (Region.linearise.go .any aU 1 t #[true,true,true,true,true,true,true,true,false] [])::kk)) cs) w)(t:Nat):LoneTo Tryz.prog Q (G ((base 128).at ⟨#[.pointer (some ⟨pb,0,none⟩),.pointer (some ⟨tb,0,none⟩),u2,u3,u4,u5,u6,u7,u8,u9,u10,u11,u12,u13,u14,u15,u16,u17,u18,u19,u20,u21,u22,.pointer (some ⟨pb,0,none⟩),.pointer (some ⟨pb,0,none⟩),undef,undef,.pointer (some ⟨tb,0,none⟩),.pointer (some ⟨tb,0,none⟩),.pointer (some ⟨tb,1,none⟩),undef],[]⟩ (.inRegion aU (Region.linearise.go .any aU 4 t #[true,true,false,false,true,true,true,false,false] [])::kk)) cs) w:=by
 obtain⟨i,hi,c,e⟩:=fQ (md:=.any) (ops:=aU) (fuel:=3) (t:=t) (listed:= #[true,true,false,false,true,true,true,false,false]) (rs:= [2,7]) (by kernel_rfl) (by simp);rw[e];rcases ar.1 hi with rfl|hi
 ·skip
  refine LoneTo.goes (n:=1) ?_;simp only[aU,Tryz.f128];s_op
  s_stop
  exact Vi d h2 b c
 ·rw[aq.1 hi]
  refine LoneTo.goes (n:=1) ?_;simp only[aU,Tryz.f128];s_op
  s_stop
  exact Vl d h2 b c
theorem Vp(d:w.cell? ⟨pb,0,none⟩=some (.chan (some cb)))(h2:w.cell? ⟨tb,1,none⟩=some (.int .i64 id))(b:∀t,LoneTo Tryz.prog Q (G ((base 128).at ⟨#[.pointer (some ⟨pb,0,none⟩),.pointer (some ⟨tb,0,none⟩),u2,u3,u4,u5,u6,u7,u8,u9,u10,u11,u12,u13,u14,u15,u16,u17,u18,u19,u20,u21,u22,.pointer (some ⟨pb,0,none⟩),.pointer (some ⟨pb,0,none⟩),.pointer (some ⟨pb,0,none⟩),.chan (some cb),.pointer (some ⟨tb,0,none⟩),.pointer (some ⟨tb,0,none⟩),.pointer (some ⟨tb,1,none⟩),.int .i64 id],[]⟩ (.inRegion aU (Region.linearise.go .any aU 1 t #[true,true,true,true,true,true,true,true,false] [])::kk)) cs) w)(t:Nat):LoneTo Tryz.prog Q (G ((base 128).at ⟨#[.pointer (some ⟨pb,0,none⟩),.pointer (some ⟨tb,0,none⟩),u2,u3,u4,u5,u6,u7,u8,u9,u10,u11,u12,u13,u14,u15,u16,u17,u18,u19,u20,u21,u22,.pointer (some ⟨pb,0,none⟩),undef,undef,undef,.pointer (some ⟨tb,0,none⟩),.pointer (some ⟨tb,0,none⟩),.pointer (some ⟨tb,1,none⟩),.int .i64 id],[]⟩ (.inRegion aU (Region.linearise.go .any aU 4 t #[true,false,false,false,true,true,true,true,false] [])::kk)) cs) w:=by
 obtain⟨i,hi,c,e⟩:=fQ (md:=.any) (ops:=aU) (fuel:=3) (t:=t) (listed:= #[true,false,false,false,true,true,true,true,false]) (rs:= [1]) (by kernel_rfl) (by simp);rw[e];rw[aq.1 hi];refine LoneTo.goes (n:=1) ?_;simp only[aU,Tryz.f128];s_op
 s_stop
 exact Vl d h2 b c
theorem YP(d:w.cell? ⟨pb,0,none⟩=some (.chan (some cb)))(h2:w.cell? ⟨tb,1,none⟩=some (.int .i64 id))(b:∀t,LoneTo Tryz.prog Q (G ((base 128).at ⟨#[.pointer (some ⟨pb,0,none⟩),.pointer (some ⟨tb,0,none⟩),u2,u3,u4,u5,u6,u7,u8,u9,u10,u11,u12,u13,u14,u15,u16,u17,u18,u19,u20,u21,u22,.pointer (some ⟨pb,0,none⟩),.pointer (some ⟨pb,0,none⟩),.pointer (some ⟨pb,0,none⟩),.chan (some cb),.pointer (some ⟨tb,0,none⟩),.pointer (some ⟨tb,0,none⟩),.pointer (some ⟨tb,1,none⟩),.int .i64 id],[]⟩ (.inRegion aU (Region.linearise.go .any aU 1 t #[true,true,true,true,true,true,true,true,false] [])::kk)) cs) w)(t:Nat):LoneTo Tryz.prog Q (G ((base 128).at ⟨#[.pointer (some ⟨pb,0,none⟩),.pointer (some ⟨tb,0,none⟩),u2,u3,u4,u5,u6,u7,u8,u9,u10,u11,u12,u13,u14,u15,u16,u17,u18,u19,u20,u21,u22,.pointer (some ⟨pb,0,none⟩),.pointer (some ⟨pb,0,none⟩),.pointer (some ⟨pb,0,none⟩),.chan (some cb),undef,undef,undef,undef],[]⟩ (.inRegion aU (Region.linearise.go .any aU 5 t #[true,true,true,true,false,false,false,false,false] [])::kk)) cs) w:=by
 obtain⟨i,hi,c,e⟩:=fQ (md:=.any) (ops:=aU) (fuel:=4) (t:=t) (listed:= #[true,true,true,true,false,false,false,false,false]) (rs:= [4]) (by kernel_rfl) (by simp);rw[e];rw[aq.1 hi];refine LoneTo.goes (n:=1) ?_;simp only[aU,Tryz.f128];s_op
 s_stop
 exact Vg d h2 b c
theorem Vk(d:w.cell? ⟨pb,0,none⟩=some (.chan (some cb)))(h2:w.cell? ⟨tb,1,none⟩=some (.int .i64 id))(b:∀t,LoneTo Tryz.prog Q (G ((base 128).at ⟨#[.pointer (some ⟨pb,0,none⟩),.pointer (some ⟨tb,0,none⟩),u2,u3,u4,u5,u6,u7,u8,u9,u10,u11,u12,u13,u14,u15,u16,u17,u18,u19,u20,u21,u22,.pointer (some ⟨pb,0,none⟩),.pointer (some ⟨pb,0,none⟩),.pointer (some ⟨pb,0,none⟩),.chan (some cb),.pointer (some ⟨tb,0,none⟩),.pointer (some ⟨tb,0,none⟩),.pointer (some ⟨tb,1,none⟩),.int .i64 id],[]⟩ (.inRegion aU (Region.linearise.go .any aU 1 t #[true,true,true,true,true,true,true,true,false] [])::kk)) cs) w)(t:Nat):LoneTo Tryz.prog Q (G ((base 128).at ⟨#[.pointer (some ⟨pb,0,none⟩),.pointer (some ⟨tb,0,none⟩),u2,u3,u4,u5,u6,u7,u8,u9,u10,u11,u12,u13,u14,u15,u16,u17,u18,u19,u20,u21,u22,.pointer (some ⟨pb,0,none⟩),.pointer (some ⟨pb,0,none⟩),.pointer (some ⟨pb,0,none⟩),undef,.pointer (some ⟨tb,0,none⟩),undef,undef,undef],[]⟩ (.inRegion aU (Region.linearise.go .any aU 5 t #[true,true,true,false,true,false,false,false,false] [])::kk)) cs) w:=by
 obtain⟨i,hi,c,e⟩:=fQ (md:=.any) (ops:=aU) (fuel:=4) (t:=t) (listed:= #[true,true,true,false,true,false,false,false,false]) (rs:= [3,5]) (by kernel_rfl) (by simp);rw[e];rcases ar.1 hi with rfl|hi
 ·skip
  refine LoneTo.goes (n:=1) ?_;simp only[aU,Tryz.f128];s_op
  s_stop
  exact Vg d h2 b c
 ·rw[aq.1 hi]
  refine LoneTo.goes (n:=1) ?_;simp only[aU,Tryz.f128];s_op
  s_stop
  exact Vj d h2 b c
theorem Vn(d:w.cell? ⟨pb,0,none⟩=some (.chan (some cb)))(h2:w.cell? ⟨tb,1,none⟩=some (.int .i64 id))(b:∀t,LoneTo Tryz.prog Q (G ((base 128).at ⟨#[.pointer (some ⟨pb,0,none⟩),.pointer (some ⟨tb,0,none⟩),u2,u3,u4,u5,u6,u7,u8,u9,u10,u11,u12,u13,u14,u15,u16,u17,u18,u19,u20,u21,u22,.pointer (some ⟨pb,0,none⟩),.pointer (some ⟨pb,0,none⟩),.pointer (some ⟨pb,0,none⟩),.chan (some cb),.pointer (some ⟨tb,0,none⟩),.pointer (some ⟨tb,0,none⟩),.pointer (some ⟨tb,1,none⟩),.int .i64 id],[]⟩ (.inRegion aU (Region.linearise.go .any aU 1 t #[true,true,true,true,true,true,true,true,false] [])::kk)) cs) w)(t:Nat):LoneTo Tryz.prog Q (G ((base 128).at ⟨#[.pointer (some ⟨pb,0,none⟩),.pointer (some ⟨tb,0,none⟩),u2,u3,u4,u5,u6,u7,u8,u9,u10,u11,u12,u13,u14,u15,u16,u17,u18,u19,u20,u21,u22,.pointer (some ⟨pb,0,none⟩),.pointer (some ⟨pb,0,none⟩),undef,undef,.pointer (some ⟨tb,0,none⟩),.pointer (some ⟨tb,0,none⟩),undef,undef],[]⟩ (.inRegion aU (Region.linearise.go .any aU 5 t #[true,true,false,false,true,true,false,false,false] [])::kk)) cs) w:=by
 obtain⟨i,hi,c,e⟩:=fQ (md:=.any) (ops:=aU) (fuel:=4) (t:=t) (listed:= #[true,true,false,false,true,true,false,false,false]) (rs:= [2,6]) (by kernel_rfl) (by simp);rw[e];rcases ar.1 hi with rfl|hi
 ·skip
  refine LoneTo.goes (n:=1) ?_;simp only[aU,Tryz.f128];s_op
  s_stop
  exact Vj d h2 b c
 ·rw[aq.1 hi]
  refine LoneTo.goes (n:=1) ?_;simp only[aU,Tryz.f128];s_op
  s_stop
  exact Vm d h2 b c
theorem Vq(d:w.cell? ⟨pb,0,none⟩=some (.chan (some cb)))(h2:w.cell? ⟨tb,1,none⟩=some (.int .i64 id))(b:∀t,LoneTo Tryz.prog Q (G ((base 128).at ⟨#[.pointer (some ⟨pb,0,none⟩),.pointer (some ⟨tb,0,none⟩),u2,u3,u4,u5,u6,u7,u8,u9,u10,u11,u12,u13,u14,u15,u16,u17,u18,u19,u20,u21,u22,.pointer (some ⟨pb,0,none⟩),.pointer (some ⟨pb,0,none⟩),.pointer (some ⟨pb,0,none⟩),.chan (some cb),.pointer (some ⟨tb,0,none⟩),.pointer (some ⟨tb,0,none⟩),.pointer (some ⟨tb,1,none⟩),.int .i64 id],[]⟩ (.inRegion aU (Region.linearise.go .any aU 1 t #[true,true,true,true,true,true,true,true,false] [])::kk)) cs) w)(t:Nat):LoneTo Tryz.prog Q (G ((base 128).at ⟨#[.pointer (some ⟨pb,0,none⟩),.pointer (some ⟨tb,0,none⟩),u2,u3,u4,u5,u6,u7,u8,u9,u10,u11,u12,u13,u14,u15,u16,u17,u18,u19,u20,u21,u22,.pointer (some ⟨pb,0,none⟩),undef,undef,undef,.pointer (some ⟨tb,0,none⟩),.pointer (some ⟨tb,0,none⟩),.pointer (some ⟨tb,1,none⟩),undef],[]⟩ (.inRegion aU (Region.linearise.go .any aU 5 t #[true,false,false,false,true,true,true,false,false] [])::kk)) cs) w:=by
 obtain⟨i,hi,c,e⟩:=fQ (md:=.any) (ops:=aU) (fuel:=4) (t:=t) (listed:= #[true,false,false,false,true,true,true,false,false]) (rs:= [1,7]) (by kernel_rfl) (by simp);rw[e];rcases ar.1 hi with rfl|hi
 ·skip
  refine LoneTo.goes (n:=1) ?_;simp only[aU,Tryz.f128];s_op
  s_stop
  exact Vm d h2 b c
 ·rw[aq.1 hi]
  refine LoneTo.goes (n:=1) ?_;simp only[aU,Tryz.f128];s_op
  s_stop
  exact Vp d h2 b c
theorem YT(d:w.cell? ⟨pb,0,none⟩=some (.chan (some cb)))(h2:w.cell? ⟨tb,1,none⟩=some (.int .i64 id))(b:∀t,LoneTo Tryz.prog Q (G ((base 128).at ⟨#[.pointer (some ⟨pb,0,none⟩),.pointer (some ⟨tb,0,none⟩),u2,u3,u4,u5,u6,u7,u8,u9,u10,u11,u12,u13,u14,u15,u16,u17,u18,u19,u20,u21,u22,.pointer (some ⟨pb,0,none⟩),.pointer (some ⟨pb,0,none⟩),.pointer (some ⟨pb,0,none⟩),.chan (some cb),.pointer (some ⟨tb,0,none⟩),.pointer (some ⟨tb,0,none⟩),.pointer (some ⟨tb,1,none⟩),.int .i64 id],[]⟩ (.inRegion aU (Region.linearise.go .any aU 1 t #[true,true,true,true,true,true,true,true,false] [])::kk)) cs) w)(t:Nat):LoneTo Tryz.prog Q (G ((base 128).at ⟨#[.pointer (some ⟨pb,0,none⟩),.pointer (some ⟨tb,0,none⟩),u2,u3,u4,u5,u6,u7,u8,u9,u10,u11,u12,u13,u14,u15,u16,u17,u18,u19,u20,u21,u22,undef,undef,undef,undef,.pointer (some ⟨tb,0,none⟩),.pointer (some ⟨tb,0,none⟩),.pointer (some ⟨tb,1,none⟩),.int .i64 id],[]⟩ (.inRegion aU (Region.linearise.go .any aU 5 t #[false,false,false,false,true,true,true,true,false] [])::kk)) cs) w:=by
 obtain⟨i,hi,c,e⟩:=fQ (md:=.any) (ops:=aU) (fuel:=4) (t:=t) (listed:= #[false,false,false,false,true,true,true,true,false]) (rs:= [0]) (by kernel_rfl) (by simp);rw[e];rw[aq.1 hi];refine LoneTo.goes (n:=1) ?_;simp only[aU,Tryz.f128];s_op
 s_stop
 exact Vp d h2 b c
theorem YQ(d:w.cell? ⟨pb,0,none⟩=some (.chan (some cb)))(h2:w.cell? ⟨tb,1,none⟩=some (.int .i64 id))(b:∀t,LoneTo Tryz.prog Q (G ((base 128).at ⟨#[.pointer (some ⟨pb,0,none⟩),.pointer (some ⟨tb,0,none⟩),u2,u3,u4,u5,u6,u7,u8,u9,u10,u11,u12,u13,u14,u15,u16,u17,u18,u19,u20,u21,u22,.pointer (some ⟨pb,0,none⟩),.pointer (some ⟨pb,0,none⟩),.pointer (some ⟨pb,0,none⟩),.chan (some cb),.pointer (some ⟨tb,0,none⟩),.pointer (some ⟨tb,0,none⟩),.pointer (some ⟨tb,1,none⟩),.int .i64 id],[]⟩ (.inRegion aU (Region.linearise.go .any aU 1 t #[true,true,true,true,true,true,true,true,false] [])::kk)) cs) w)(t:Nat):LoneTo Tryz.prog Q (G ((base 128).at ⟨#[.pointer (some ⟨pb,0,none⟩),.pointer (some ⟨tb,0,none⟩),u2,u3,u4,u5,u6,u7,u8,u9,u10,u11,u12,u13,u14,u15,u16,u17,u18,u19,u20,u21,u22,.pointer (some ⟨pb,0,none⟩),.pointer (some ⟨pb,0,none⟩),.pointer (some ⟨pb,0,none⟩),undef,undef,undef,undef,undef],[]⟩ (.inRegion aU (Region.linearise.go .any aU 6 t #[true,true,true,false,false,false,false,false,false] [])::kk)) cs) w:=by
 obtain⟨i,hi,c,e⟩:=fQ (md:=.any) (ops:=aU) (fuel:=5) (t:=t) (listed:= #[true,true,true,false,false,false,false,false,false]) (rs:= [3,4]) (by kernel_rfl) (by simp);rw[e];rcases ar.1 hi with rfl|hi
 ·skip
  refine LoneTo.goes (n:=1) ?_;simp only[aU,Tryz.f128];s_op
  s_stop
  exact YP d h2 b c
 ·rw[aq.1 hi]
  refine LoneTo.goes (n:=1) ?_;simp only[aU,Tryz.f128];s_op
  s_stop
  exact Vk d h2 b c
theorem Vo(d:w.cell? ⟨pb,0,none⟩=some (.chan (some cb)))(h2:w.cell? ⟨tb,1,none⟩=some (.int .i64 id))(b:∀t,LoneTo Tryz.prog Q (G ((base 128).at ⟨#[.pointer (some ⟨pb,0,none⟩),.pointer (some ⟨tb,0,none⟩),u2,u3,u4,u5,u6,u7,u8,u9,u10,u11,u12,u13,u14,u15,u16,u17,u18,u19,u20,u21,u22,.pointer (some ⟨pb,0,none⟩),.pointer (some ⟨pb,0,none⟩),.pointer (some ⟨pb,0,none⟩),.chan (some cb),.pointer (some ⟨tb,0,none⟩),.pointer (some ⟨tb,0,none⟩),.pointer (some ⟨tb,1,none⟩),.int .i64 id],[]⟩ (.inRegion aU (Region.linearise.go .any aU 1 t #[true,true,true,true,true,true,true,true,false] [])::kk)) cs) w)(t:Nat):LoneTo Tryz.prog Q (G ((base 128).at ⟨#[.pointer (some ⟨pb,0,none⟩),.pointer (some ⟨tb,0,none⟩),u2,u3,u4,u5,u6,u7,u8,u9,u10,u11,u12,u13,u14,u15,u16,u17,u18,u19,u20,u21,u22,.pointer (some ⟨pb,0,none⟩),.pointer (some ⟨pb,0,none⟩),undef,undef,.pointer (some ⟨tb,0,none⟩),undef,undef,undef],[]⟩ (.inRegion aU (Region.linearise.go .any aU 6 t #[true,true,false,false,true,false,false,false,false] [])::kk)) cs) w:=by
 obtain⟨i,hi,c,e⟩:=fQ (md:=.any) (ops:=aU) (fuel:=5) (t:=t) (listed:= #[true,true,false,false,true,false,false,false,false]) (rs:= [2,5]) (by kernel_rfl) (by simp);rw[e];rcases ar.1 hi with rfl|hi
 ·skip
  refine LoneTo.goes (n:=1) ?_;simp only[aU,Tryz.f128];s_op
  s_stop
  exact Vk d h2 b c
 ·rw[aq.1 hi]
  refine LoneTo.goes (n:=1) ?_;simp only[aU,Tryz.f128];s_op
  s_stop
  exact Vn d h2 b c
theorem Vr(d:w.cell? ⟨pb,0,none⟩=some (.chan (some cb)))(h2:w.cell? ⟨tb,1,none⟩=some (.int .i64 id))(b:∀t,LoneTo Tryz.prog Q (G ((base 128).at ⟨#[.pointer (some ⟨pb,0,none⟩),.pointer (some ⟨tb,0,none⟩),u2,u3,u4,u5,u6,u7,u8,u9,u10,u11,u12,u13,u14,u15,u16,u17,u18,u19,u20,u21,u22,.pointer (some ⟨pb,0,none⟩),.pointer (some ⟨pb,0,none⟩),.pointer (some ⟨pb,0,none⟩),.chan (some cb),.pointer (some ⟨tb,0,none⟩),.pointer (some ⟨tb,0,none⟩),.pointer (some ⟨tb,1,none⟩),.int .i64 id],[]⟩ (.inRegion aU (Region.linearise.go .any aU 1 t #[true,true,true,true,true,true,true,true,false] [])::kk)) cs) w)(t:Nat):LoneTo Tryz.prog Q (G ((base 128).at ⟨#[.pointer (some ⟨pb,0,none⟩),.pointer (some ⟨tb,0,none⟩),u2,u3,u4,u5,u6,u7,u8,u9,u10,u11,u12,u13,u14,u15,u16,u17,u18,u19,u20,u21,u22,.pointer (some ⟨pb,0,none⟩),undef,undef,undef,.pointer (some ⟨tb,0,none⟩),.pointer (some ⟨tb,0,none⟩),undef,undef],[]⟩ (.inRegion aU (Region.linearise.go .any aU 6 t #[true,false,false,false,true,true,false,false,false] [])::kk)) cs) w:=by
 obtain⟨i,hi,c,e⟩:=fQ (md:=.any) (ops:=aU) (fuel:=5) (t:=t) (listed:= #[true,false,false,false,true,true,false,false,false]) (rs:= [1,6]) (by kernel_rfl) (by simp);rw[e];rcases ar.1 hi with rfl|hi
 ·skip
  refine LoneTo.goes (n:=1) ?_;simp only[aU,Tryz.f128];s_op
  s_stop
  exact Vn d h2 b c
 ·rw[aq.1 hi]
  refine LoneTo.goes (n:=1) ?_;simp only[aU,Tryz.f128];s_op
  s_stop
  exact Vq d h2 b c
theorem YU(d:w.cell? ⟨pb,0,none⟩=some (.chan (some cb)))(h2:w.cell? ⟨tb,1,none⟩=some (.int .i64 id))(b:∀t,LoneTo Tryz.prog Q (G ((base 128).at ⟨#[.pointer (some ⟨pb,0,none⟩),.pointer (some ⟨tb,0,none⟩),u2,u3,u4,u5,u6,u7,u8,u9,u10,u11,u12,u13,u14,u15,u16,u17,u18,u19,u20,u21,u22,.pointer (some ⟨pb,0,none⟩),.pointer (some ⟨pb,0,none⟩),.pointer (some ⟨pb,0,none⟩),.chan (some cb),.pointer (some ⟨tb,0,none⟩),.pointer (some ⟨tb,0,none⟩),.pointer (some ⟨tb,1,none⟩),.int .i64 id],[]⟩ (.inRegion aU (Region.linearise.go .any aU 1 t #[true,true,true,true,true,true,true,true,false] [])::kk)) cs) w)(t:Nat):LoneTo Tryz.prog Q (G ((base 128).at ⟨#[.pointer (some ⟨pb,0,none⟩),.pointer (some ⟨tb,0,none⟩),u2,u3,u4,u5,u6,u7,u8,u9,u10,u11,u12,u13,u14,u15,u16,u17,u18,u19,u20,u21,u22,undef,undef,undef,undef,.pointer (some ⟨tb,0,none⟩),.pointer (some ⟨tb,0,none⟩),.pointer (some ⟨tb,1,none⟩),undef],[]⟩ (.inRegion aU (Region.linearise.go .any aU 6 t #[false,false,false,false,true,true,true,false,false] [])::kk)) cs) w:=by
 obtain⟨i,hi,c,e⟩:=fQ (md:=.any) (ops:=aU) (fuel:=5) (t:=t) (listed:= #[false,false,false,false,true,true,true,false,false]) (rs:= [0,7]) (by kernel_rfl) (by simp);rw[e];rcases ar.1 hi with rfl|hi
 ·skip
  refine LoneTo.goes (n:=1) ?_;simp only[aU,Tryz.f128];s_op
  s_stop
  exact Vq d h2 b c
 ·rw[aq.1 hi]
  refine LoneTo.goes (n:=1) ?_;simp only[aU,Tryz.f128];s_op
  s_stop
  exact YT d h2 b c
theorem YR(d:w.cell? ⟨pb,0,none⟩=some (.chan (some cb)))(h2:w.cell? ⟨tb,1,none⟩=some (.int .i64 id))(b:∀t,LoneTo Tryz.prog Q (G ((base 128).at ⟨#[.pointer (some ⟨pb,0,none⟩),.pointer (some ⟨tb,0,none⟩),u2,u3,u4,u5,u6,u7,u8,u9,u10,u11,u12,u13,u14,u15,u16,u17,u18,u19,u20,u21,u22,.pointer (some ⟨pb,0,none⟩),.pointer (some ⟨pb,0,none⟩),.pointer (some ⟨pb,0,none⟩),.chan (some cb),.pointer (some ⟨tb,0,none⟩),.pointer (some ⟨tb,0,none⟩),.pointer (some ⟨tb,1,none⟩),.int .i64 id],[]⟩ (.inRegion aU (Region.linearise.go .any aU 1 t #[true,true,true,true,true,true,true,true,false] [])::kk)) cs) w)(t:Nat):LoneTo Tryz.prog Q (G ((base 128).at ⟨#[.pointer (some ⟨pb,0,none⟩),.pointer (some ⟨tb,0,none⟩),u2,u3,u4,u5,u6,u7,u8,u9,u10,u11,u12,u13,u14,u15,u16,u17,u18,u19,u20,u21,u22,.pointer (some ⟨pb,0,none⟩),.pointer (some ⟨pb,0,none⟩),undef,undef,undef,undef,undef,undef],[]⟩ (.inRegion aU (Region.linearise.go .any aU 7 t #[true,true,false,false,false,false,false,false,false] [])::kk)) cs) w:=by
 obtain⟨i,hi,c,e⟩:=fQ (md:=.any) (ops:=aU) (fuel:=6) (t:=t) (listed:= #[true,true,false,false,false,false,false,false,false]) (rs:= [2,4]) (by kernel_rfl) (by simp);rw[e];rcases ar.1 hi with rfl|hi
 ·skip
  refine LoneTo.goes (n:=1) ?_;simp only[aU,Tryz.f128];s_op
  s_stop
  exact YQ d h2 b c
 ·rw[aq.1 hi]
  refine LoneTo.goes (n:=1) ?_;simp only[aU,Tryz.f128];s_op
  s_stop
  exact Vo d h2 b c
theorem Vs(d:w.cell? ⟨pb,0,none⟩=some (.chan (some cb)))(h2:w.cell? ⟨tb,1,none⟩=some (.int .i64 id))(b:∀t,LoneTo Tryz.prog Q (G ((base 128).at ⟨#[.pointer (some ⟨pb,0,none⟩),.pointer (some ⟨tb,0,none⟩),u2,u3,u4,u5,u6,u7,u8,u9,u10,u11,u12,u13,u14,u15,u16,u17,u18,u19,u20,u21,u22,.pointer (some ⟨pb,0,none⟩),.pointer (some ⟨pb,0,none⟩),.pointer (some ⟨pb,0,none⟩),.chan (some cb),.pointer (some ⟨tb,0,none⟩),.pointer (some ⟨tb,0,none⟩),.pointer (some ⟨tb,1,none⟩),.int .i64 id],[]⟩ (.inRegion aU (Region.linearise.go .any aU 1 t #[true,true,true,true,true,true,true,true,false] [])::kk)) cs) w)(t:Nat):LoneTo Tryz.prog Q (G ((base 128).at ⟨#[.pointer (some ⟨pb,0,none⟩),.pointer (some ⟨tb,0,none⟩),u2,u3,u4,u5,u6,u7,u8,u9,u10,u11,u12,u13,u14,u15,u16,u17,u18,u19,u20,u21,u22,.pointer (some ⟨pb,0,none⟩),undef,undef,undef,.pointer (some ⟨tb,0,none⟩),undef,undef,undef],[]⟩ (.inRegion aU (Region.linearise.go .any aU 7 t #[true,false,false,false,true,false,false,false,false] [])::kk)) cs) w:=by
 obtain⟨i,hi,c,e⟩:=fQ (md:=.any) (ops:=aU) (fuel:=6) (t:=t) (listed:= #[true,false,false,false,true,false,false,false,false]) (rs:= [1,5]) (by kernel_rfl) (by simp);rw[e];rcases ar.1 hi with rfl|hi
 ·skip
  refine LoneTo.goes (n:=1) ?_;simp only[aU,Tryz.f128];s_op
  s_stop
  exact Vo d h2 b c
 ·rw[aq.1 hi]
  refine LoneTo.goes (n:=1) ?_;simp only[aU,Tryz.f128];s_op
  s_stop
  exact Vr d h2 b c
theorem YV(d:w.cell? ⟨pb,0,none⟩=some (.chan (some cb)))(h2:w.cell? ⟨tb,1,none⟩=some (.int .i64 id))(b:∀t,LoneTo Tryz.prog Q (G ((base 128).at ⟨#[.pointer (some ⟨pb,0,none⟩),.pointer (some ⟨tb,0,none⟩),u2,u3,u4,u5,u6,u7,u8,u9,u10,u11,u12,u13,u14,u15,u16,u17,u18,u19,u20,u21,u22,.pointer (some ⟨pb,0,none⟩),.pointer (some ⟨pb,0,none⟩),.pointer (some ⟨pb,0,none⟩),.chan (some cb),.pointer (some ⟨tb,0,none⟩),.pointer (some ⟨tb,0,none⟩),.pointer (some ⟨tb,1,none⟩),.int .i64 id],[]⟩ (.inRegion aU (Region.linearise.go .any aU 1 t #[true,true,true,true,true,true,true,true,false] [])::kk)) cs) w)(t:Nat):LoneTo Tryz.prog Q (G ((base 128).at ⟨#[.pointer (some ⟨pb,0,none⟩),.pointer (some ⟨tb,0,none⟩),u2,u3,u4,u5,u6,u7,u8,u9,u10,u11,u12,u13,u14,u15,u16,u17,u18,u19,u20,u21,u22,undef,undef,undef,undef,.pointer (some ⟨tb,0,none⟩),.pointer (some ⟨tb,0,none⟩),undef,undef],[]⟩ (.inRegion aU (Region.linearise.go .any aU 7 t #[false,false,false,false,true,true,false,false,false] [])::kk)) cs) w:=by
 obtain⟨i,hi,c,e⟩:=fQ (md:=.any) (ops:=aU) (fuel:=6) (t:=t) (listed:= #[false,false,false,false,true,true,false,false,false]) (rs:= [0,6]) (by kernel_rfl) (by simp);rw[e];rcases ar.1 hi with rfl|hi
 ·skip
  refine LoneTo.goes (n:=1) ?_;simp only[aU,Tryz.f128];s_op
  s_stop
  exact Vr d h2 b c
 ·rw[aq.1 hi]
  refine LoneTo.goes (n:=1) ?_;simp only[aU,Tryz.f128];s_op
  s_stop
  exact YU d h2 b c
theorem YS(d:w.cell? ⟨pb,0,none⟩=some (.chan (some cb)))(h2:w.cell? ⟨tb,1,none⟩=some (.int .i64 id))(b:∀t,LoneTo Tryz.prog Q (G ((base 128).at ⟨#[.pointer (some ⟨pb,0,none⟩),.pointer (some ⟨tb,0,none⟩),u2,u3,u4,u5,u6,u7,u8,u9,u10,u11,u12,u13,u14,u15,u16,u17,u18,u19,u20,u21,u22,.pointer (some ⟨pb,0,none⟩),.pointer (some ⟨pb,0,none⟩),.pointer (some ⟨pb,0,none⟩),.chan (some cb),.pointer (some ⟨tb,0,none⟩),.pointer (some ⟨tb,0,none⟩),.pointer (some ⟨tb,1,none⟩),.int .i64 id],[]⟩ (.inRegion aU (Region.linearise.go .any aU 1 t #[true,true,true,true,true,true,true,true,false] [])::kk)) cs) w)(t:Nat):LoneTo Tryz.prog Q (G ((base 128).at ⟨#[.pointer (some ⟨pb,0,none⟩),.pointer (some ⟨tb,0,none⟩),u2,u3,u4,u5,u6,u7,u8,u9,u10,u11,u12,u13,u14,u15,u16,u17,u18,u19,u20,u21,u22,.pointer (some ⟨pb,0,none⟩),undef,undef,undef,undef,undef,undef,undef],[]⟩ (.inRegion aU (Region.linearise.go .any aU 8 t #[true,false,false,false,false,false,false,false,false] [])::kk)) cs) w:=by
 obtain⟨i,hi,c,e⟩:=fQ (md:=.any) (ops:=aU) (fuel:=7) (t:=t) (listed:= #[true,false,false,false,false,false,false,false,false]) (rs:= [1,4]) (by kernel_rfl) (by simp);rw[e];rcases ar.1 hi with rfl|hi
 ·skip
  refine LoneTo.goes (n:=1) ?_;simp only[aU,Tryz.f128];s_op
  s_stop
  exact YR d h2 b c
 ·rw[aq.1 hi]
  refine LoneTo.goes (n:=1) ?_;simp only[aU,Tryz.f128];s_op
  s_stop
  exact Vs d h2 b c
theorem YW(d:w.cell? ⟨pb,0,none⟩=some (.chan (some cb)))(h2:w.cell? ⟨tb,1,none⟩=some (.int .i64 id))(b:∀t,LoneTo Tryz.prog Q (G ((base 128).at ⟨#[.pointer (some ⟨pb,0,none⟩),.pointer (some ⟨tb,0,none⟩),u2,u3,u4,u5,u6,u7,u8,u9,u10,u11,u12,u13,u14,u15,u16,u17,u18,u19,u20,u21,u22,.pointer (some ⟨pb,0,none⟩),.pointer (some ⟨pb,0,none⟩),.pointer (some ⟨pb,0,none⟩),.chan (some cb),.pointer (some ⟨tb,0,none⟩),.pointer (some ⟨tb,0,none⟩),.pointer (some ⟨tb,1,none⟩),.int .i64 id],[]⟩ (.inRegion aU (Region.linearise.go .any aU 1 t #[true,true,true,true,true,true,true,true,false] [])::kk)) cs) w)(t:Nat):LoneTo Tryz.prog Q (G ((base 128).at ⟨#[.pointer (some ⟨pb,0,none⟩),.pointer (some ⟨tb,0,none⟩),u2,u3,u4,u5,u6,u7,u8,u9,u10,u11,u12,u13,u14,u15,u16,u17,u18,u19,u20,u21,u22,undef,undef,undef,undef,.pointer (some ⟨tb,0,none⟩),undef,undef,undef],[]⟩ (.inRegion aU (Region.linearise.go .any aU 8 t #[false,false,false,false,true,false,false,false,false] [])::kk)) cs) w:=by
 obtain⟨i,hi,c,e⟩:=fQ (md:=.any) (ops:=aU) (fuel:=7) (t:=t) (listed:= #[false,false,false,false,true,false,false,false,false]) (rs:= [0,5]) (by kernel_rfl) (by simp);rw[e];rcases ar.1 hi with rfl|hi
 ·skip
  refine LoneTo.goes (n:=1) ?_;simp only[aU,Tryz.f128];s_op
  s_stop
  exact Vs d h2 b c
 ·rw[aq.1 hi]
  refine LoneTo.goes (n:=1) ?_;simp only[aU,Tryz.f128];s_op
  s_stop
  exact YV d h2 b c
theorem YX(d:w.cell? ⟨pb,0,none⟩=some (.chan (some cb)))(h2:w.cell? ⟨tb,1,none⟩=some (.int .i64 id))(b:∀t,LoneTo Tryz.prog Q (G ((base 128).at ⟨#[.pointer (some ⟨pb,0,none⟩),.pointer (some ⟨tb,0,none⟩),u2,u3,u4,u5,u6,u7,u8,u9,u10,u11,u12,u13,u14,u15,u16,u17,u18,u19,u20,u21,u22,.pointer (some ⟨pb,0,none⟩),.pointer (some ⟨pb,0,none⟩),.pointer (some ⟨pb,0,none⟩),.chan (some cb),.pointer (some ⟨tb,0,none⟩),.pointer (some ⟨tb,0,none⟩),.pointer (some ⟨tb,1,none⟩),.int .i64 id],[]⟩ (.inRegion aU (Region.linearise.go .any aU 1 t #[true,true,true,true,true,true,true,true,false] [])::kk)) cs) w)(t:Nat):LoneTo Tryz.prog Q (G ((base 128).at ⟨#[.pointer (some ⟨pb,0,none⟩),.pointer (some ⟨tb,0,none⟩),u2,u3,u4,u5,u6,u7,u8,u9,u10,u11,u12,u13,u14,u15,u16,u17,u18,u19,u20,u21,u22,undef,undef,undef,undef,undef,undef,undef,undef],[]⟩ (.inRegion aU (Region.linearise.go .any aU 9 t #[false,false,false,false,false,false,false,false,false] [])::kk)) cs) w:=by
 obtain⟨i,hi,c,e⟩:=fQ (md:=.any) (ops:=aU) (fuel:=8) (t:=t) (listed:= #[false,false,false,false,false,false,false,false,false]) (rs:= [0,4]) (by kernel_rfl) (by simp);rw[e];rcases ar.1 hi with rfl|hi
 ·skip
  refine LoneTo.goes (n:=1) ?_;simp only[aU,Tryz.f128];s_op
  s_stop
  exact YS d h2 b c
 ·rw[aq.1 hi]
  refine LoneTo.goes (n:=1) ?_;simp only[aU,Tryz.f128];s_op
  s_stop
  exact YW d h2 b c
end
theorem OQ{P:Program}{c:Bool}{b:Frame}{a:Act}{k:List Item}{cs:List Frame}{w:World}{id:Nat}{ops:Array Oper}:stepG P c (G (b.at a (.code (.region id ops true)::k)) cs) w=.go (G (b.at a (.inRegion ops (Region.schedule (P.follows .mixedOrders) ops (w.tape w.drawn (.order b.fn id)))::k)) cs) {w with drawn:=w.drawn+1}:=by
 simp[G,stepG,stepG.exec,Frame.at,choose,Sem.run,Question.forced,Question.cut]
set_option maxRecDepth 100000 in
theorem UC{w:World}{b:Nat}{c:Array Value}{t:TypeId}(j:w.heap[b]? =some (.cells c t (0,0))) (hc:0<c.size):(binOp .neq 116 (.pointer (some ⟨b,0,none⟩)) (.pointer (some ⟨b,0,none⟩))).run Tryz.prog w=.ok (.bool false) w:=by
 have e:Tryz.prog.underlying 116=some (.pointer 179):=by kernel_rfl
 have g:Nat.beq (cx Tryz.prog 179) 0=false:=by kernel_rfl
 have f:iS w.heap ⟨b,0,none⟩:=⟨c,t,j,hc⟩;have h:X1 Tryz.prog 116 true (.pointer (some ⟨b,0,none⟩)) (.pointer (some ⟨b,0,none⟩)) (fun v _=>v=.bool false) w.heap:=by
  unfold X1;rw[e];simp only[];rw[g];refine⟨trivial,fun x y hx n=>?_,by simp⟩
  cases hx;cases n;exact⟨f,f⟩
 unfold X1 at h;rw[e]at h;obtain⟨_,d,_⟩:=h;obtain⟨_,_,v,S,i,o,m⟩:=D4 (P:=Tryz.prog) (t:=116) (neg:=true) (x:=.pointer (some ⟨b,0,none⟩)) (y:=.pointer (some ⟨b,0,none⟩)) (K:=fun v S=>v=.bool false∧VT S w.heap) (h:=w.heap) (by
  unfold X1
  rw[e]
  simp only[]
  rw[g]
  exact⟨trivial,d,by simp,d⟩)
 obtain⟨rfl,h2⟩:=i;exact m w h2
set_option maxRecDepth 100000 in
set_option maxHeartbeats 4000000 in
theorem Vd{w:World}{pb tb cb cap s r:Nat}{id:Int}{buf:Array Value}(m:w.heap[pb]? =some (.cells #[.chan (some cb)] 179 (0,0))) (b:w.heap[tb]? =some (.cells #[.pointer (some ⟨pb,0,none⟩),.int .i64 id,.bool true] 249 (0,0))) (hc:w.heap[cb]? =some (.chan cap buf false s r false)) (u:buf.size<cap) (j:pb≠tb) (d:cb≠tb):
  Calls Tryz.prog 128 #[.pointer (some ⟨pb,0,none⟩),.pointer (some ⟨tb,0,none⟩)] w fun e w'=>e=.returned (.int .i64 0)∧∃n,w'=({w.setCell ⟨tb,2,none⟩ (.bool false)with drawn:=n}:World).setChan cb cap (buf.push (.int .i64 id)) false (s+1) r false:=by
 refine calls_of_loneTo fun cs=>?_
 have e:Frame.enter Tryz.prog 128 #[.pointer (some ⟨pb,0,none⟩),.pointer (some ⟨tb,0,none⟩)] .normal=(base 128).at ⟨#[.pointer (some ⟨pb,0,none⟩),.pointer (some ⟨tb,0,none⟩),undef,undef,undef,undef,undef,undef,undef,undef,undef,undef,undef,undef,undef,undef,undef,undef,undef,undef,undef,undef,undef,undef,undef,undef,undef,undef,undef,undef,undef],[]⟩ [.code (Tryz.f128.body.getD .skip)]:=by
  simp[Frame.enter,Frame.at,Tryz.func128,base,Tryz.f128]
 rw[e];have p:=Ab b (i:=0) rfl;have x:=Ab b (i:=2) rfl;have v:=SP b (i:=2);have q:=UC m (by simp);refine LoneTo.goes (n:=52) ?_;simp only[Tryz.f128,qp];s_c stepG_seq
 s_reg
 s_op
 s_c stepG_region_end
 s_c stepG_seq
 s_c stepG_seq
 s_reg
 s_op
 s_op
 s_op
 s_op
 s_call Tryz.func114 (by kernel_rfl) Tryz.f114
 s_c stepG_seq
 s_reg
 s_op
 s_c stepG_region_end
 s_c stepG_seq
 s_reg
 s_op
 s_op
 s_op
 s_op
 s_op
 s_op
 s_op
 s_op
 s_op
 s_c stepG_region_end
 s_c stepG_ret'
 s_leave1 Tryz.func114
 s_op
 s_op
 s_op
 s_op
 s_op
 s_op
 s_op
 s_op
 s_op
 s_op
 s_c stepG_region_end
 s_cond false
 s_c stepG_skip
 s_c stepG_seq
 s_reg
 s_op
 s_op
 s_op
 s_op
 s_c stepG_region_end
 s_c stepG_seq
 s_in
 rw[OQ];simp only[goes_go];refine⟨trivial,?_⟩;s_stop
 have hm:Tryz.prog.follows .mixedOrders=true:=Tryz.mixed;simp only[Region.schedule,hm,Bool.true_or,if_true,Region.linearise];have o:=Upd.hset (M:=(· =tb)) w.heap (a:=⟨tb,2,none⟩) (.bool false) rfl
 have g:=o.get m (fun e=>j e)
 have f:=o.get hc (fun e=>d e)
 refine YX (pb:=pb) (tb:=tb) (cb:=cb) (id:=id) (Ab g (i:=0) rfl) ?_ (fun t=>?_) _
 ·show(w.setCell ⟨tb,2,none⟩ (.bool false)).cell? ⟨tb,1,none⟩=_
  rw[World.cell?_setCell_other _ _ _ _ (by simp)];exact Ab b (i:=1) rfl
 ·obtain⟨i,hi,y,e⟩:=fQ (md:=.any) (ops:=aU) (fuel:=0) (t:=t) (listed:= #[true,true,true,true,true,true,true,true,false]) (rs:= [8]) (by kernel_rfl) (by simp)
  rw[e,aq.1 hi];simp only[aU,Tryz.f128,Region.linearise.go,List.reverse_nil];refine LoneTo.step (step_lone_send_room (c:=cb) (cap:=cap) (buf:=buf) (s:=s) (r:=r) (tm:=false) (stepG_comm (cases:= #[scase cb (.int .i64 id) (.tuple #[])]) (blocking:=true) (shape:=.send) (w':={w.setCell ⟨tb,2,none⟩ (.bool false)with drawn:=w.drawn+1}) rfl rfl (by decide) (by simp[execOp,scase,Act.eval])) f u) ?_
  rw[Frame.finish_at];walk_nrm
  refine LoneTo.goes (n:=6) ?_;s_c stepG_region_end
  s_c stepG_seq
  s_reg
  s_op
  s_c stepG_region_end
  s_c stepG_ret'
  s_stop
  refine LoneTo.done ⟨.returned (.int .i64 0),_,rfl,⟨rfl,_,rfl⟩,rfl,rfl,rfl,rfl,_,Tryz.func128,by simp[results,Tryz.f128,Frame.at]⟩
end Go.Proofs
namespace Go.Proofs
open Go Go.Lift Go.Conc
def PoolAt(h:ae)(pb cb cap:Nat)(ids:List Int):Prop:=pb≠cb∧h[pb]? =some (.cells #[.chan (some cb)] 179 (0,0))∧∃s r,h[cb]? =some (.chan cap (ids.map fun i=>Value.int .i64 i).toArray false s r false)
theorem PoolAt.upd{M:Nat→Prop}{h c:ae}{pb cb cap:Nat}{ids:List Int}(p:PoolAt h pb cb cap ids)(k:Upd M h c)(d:¬M pb)(h2:¬M cb):PoolAt c pb cb cap ids:=let⟨n,a,s,r,b⟩:=p;⟨n,k.get a d,s,r,k.get b h2⟩
theorem PoolAt.upd0{h b:ae}{pb cb cap:Nat}{ids:List Int}(p:PoolAt h pb cb cap ids)(k:Upd No h b):PoolAt b pb cb cap ids:=p.upd k id id
def TokAt(h:ae)(tb pb:Nat)(id:Int)(b:Bool):Prop:=h[tb]? =some (.cells #[.pointer (some ⟨pb,0,none⟩),.int .i64 id,.bool b] 249 (0,0))
theorem PF{n:Nat}(o:1≤n)(q:n≤4096){h:ae}{K:Option Addr×Int→ae→Prop}(d:∀h',Upd No h h'→PoolAt h' (h.size+1) h.size n ((eR n).map fun j=>((j:Nat):Int)+1)→K (some ⟨h.size+1,0,none⟩,0) h'):Hd 42 [.int .i64 n] K h:=by
 refine⟨fun w u=>.inl ⟨Tryz.call42 _ w,(UA o q (w:=w)).mono ?_⟩⟩
 subst u;rintro e w' ⟨rfl,ids,s,r,v,c,p⟩;have k1:Upd No w.heap ((w.heap.push (.chan n #[] false 0 0 false)).push (.cells #[.chan (some w.heap.size)] 179 (0,0))):=(Upd.push No w.heap _).tr (Upd.push No _ _);have b:ids=(((eR n).map fun j=>((j:Nat):Int)+1).map fun i=>Value.int .i64 i):=by rw[v];simp[Function.comp_def]
 have g:((w.heap.push (.chan n #[] false 0 0 false)).push (.cells #[.chan (some w.heap.size)] 179 (0,0)))[w.heap.size+1]? =some (.cells #[.chan (some w.heap.size)] 179 (0,0)):=by
  rw[kH,rU,if_pos rfl]
 rcases p with rfl|rfl
 ·refine⟨⟨rfl,rfl,rfl⟩,((some ⟨w.heap.size+1,0,none⟩,0):Option Addr×Int),rfl,d _ k1 ⟨by omega,g,s,r,?_⟩⟩
  rw[←b];exact c
 ·have f:=Upd.set (M:=(· =w.heap.size)) ((w.heap.push (.chan n #[] false 0 0 false)).push (.cells #[.chan (some w.heap.size)] 179 (0,0))) (.chan n ids.toArray false s r false) rfl
  refine⟨⟨rfl,rfl,rfl⟩,((some ⟨w.heap.size+1,0,none⟩,0):Option Addr×Int),rfl,d _ (k1.trans f fun y m=>.inr (by have m:y=w.heap.size:=m;omega)) ⟨by omega,f.get g (fun e=>by have e:w.heap.size+1=w.heap.size:=e;omega),s,r,?_⟩⟩
  rw[←b];exact c
theorem EK{h:ae}{pb cb cap:Nat}{i:Int}{ids:List Int}(p:PoolAt h pb cb cap (i::ids)){K:Option Addr×Int→ae→Prop}(d:∀h',Upd (· =cb) h h'→PoolAt h' pb cb cap ids→TokAt h' h.size pb i true→K (some ⟨h.size,0,none⟩,0) h'):Hd 126 [gF pb] K h:=by
 obtain⟨n,c,s,r,hc⟩:=p;refine⟨fun w f=>.inl ⟨Tryz.call126 _ w,?_⟩⟩
 subst f;rw[bJ]at hc;refine(RR c hc).mono ?_;rintro e w' ⟨rfl,rfl⟩;have g:cb<w.heap.size:=(cz.1 hc).1;have k1:=Upd.set (M:=(· =cb)) w.heap (.chan cap (ids.map fun i=>Value.int .i64 i).toArray false s (r+1) false) rfl
 have b:=k1.tr (Upd.push (· =cb) _ (.cells #[.pointer (some ⟨pb,0,none⟩),.int .i64 i,.bool true] 249 (0,0)))
 refine⟨⟨rfl,rfl,rfl⟩,((some ⟨w.heap.size,0,none⟩,0):Option Addr×Int),rfl,d _ b ⟨n,b.get c n,s,r+1,?_⟩ ?_⟩
 ·show((w.heap.setIfInBounds cb _).push _)[cb]? =_
  rw[kH,ol,if_neg (by omega),dd,if_pos rfl,if_pos g]
 ·show((w.heap.setIfInBounds cb _).push _)[w.heap.size]? =_
  rw[kH,ol,if_pos rfl]
theorem Pv{h:ae}{pb cb cap tb:Nat}{id:Int}{ids:List Int}(p:PoolAt h pb cb cap ids)(t:TokAt h tb pb id true)(q:ids.length<cap){K:Int→ae→Prop}(o:∀h',Upd (fun y=>y=cb∨y=tb) h h'→PoolAt h' pb cb cap (ids++ [id])→TokAt h' tb pb id false→K 0 h'):iI 128 [gF pb,gF tb] K h:=by
 obtain⟨n,g,s,r,hc⟩:=p;have c:pb≠tb:=fun e=>by
  subst e;have:=g.symm.trans t;simp at this
 have b:cb≠tb:=fun e=>by
  subst e;have:=hc.symm.trans t;simp at this
 refine⟨fun w u=>.inl ⟨Tryz.call128 _ w,?_⟩⟩
 subst u;refine(Vd g t hc (by simpa using q) c b).mono ?_;rintro e w' ⟨rfl,m,rfl⟩;have k1:=Upd.hset (M:=(· =tb)) w.heap (a:=⟨tb,2,none⟩) (.bool false) rfl
 have f:=Upd.set (M:=(· =cb)) (hset w.heap ⟨tb,2,none⟩ (.bool false)) (.chan cap ((ids.map fun i=>Value.int .i64 i).toArray.push (.int .i64 id)) false (s+1) r false) rfl
 have v:cb<(hset w.heap ⟨tb,2,none⟩ (.bool false)).size:=bc (k1.get hc fun e=>b e)
 refine⟨⟨rfl,rfl,rfl⟩,(0:Int),rfl,o _ ((k1.mono fun y d=>.inl (.inr d)).trans f fun y d=>.inl (.inl d)) ⟨n,f.get (k1.get g fun e=>c e) (fun e=>n e),s+1,r,?_⟩ (f.get ?_ (fun e=>b e.symm))⟩
 ·show((hset w.heap ⟨tb,2,none⟩ (.bool false)).setIfInBounds cb _)[cb]? =_
  rw[dd,if_pos rfl,if_pos v];simp
 ·have j:w.heap[tb]? =some (.cells #[.pointer (some ⟨pb,0,none⟩),.int .i64 id,.bool true] 249 (0,0)):=t
  rw[ju j,dU j];rfl
end Go.Proofs
namespace Go.Proofs
open Go Go.Lift
section
variable {W:Nat→Prop} {h:ae} {sp vp:Nat} {s:VS} {sm:Option Nat} {last:Int} {pool:Option Addr} {o:Za}
end
end Go.Proofs
namespace Go.Proofs
open Go Go.Lift
abbrev ZB:List Kind:= [.agg [.int .i64,.int .u64,.int .u64,.int .u64,.ptr,.ptr],.c (.int .i64)]
abbrev aa4(pb tb:Nat)(t:Tr):List Value:= [.pointer (some ⟨pb,0,none⟩),.pointer (some ⟨tb,0,none⟩)]++kA t
def EdAt(h:ae)(eb pb tb:Nat)(t:Tr):Prop:=h[eb]? =some (.cells (aa4 pb tb t).toArray 221 (0,0))
theorem UG{h:ae}{tb pb:Nat}{ti:Int}{b:Bool}(k:TokAt h tb pb ti b){K:Bool→ae→Prop}(c:K b h):f5 114 [gF tb] K h:=by
 refine tM _ ?_;dsimp only[oF,jI,dq];exact aV.2 ⟨_,rfl,_,vc k 2,c⟩
theorem yQ{h:ae}{eb pb tb:Nat}{t:Tr}{ti:Int}{b:Bool}(e:EdAt h eb pb tb t)(k:TokAt h tb pb ti b){K:Bool→ae→Prop}(c:K (!b) h):f5 72 [gF eb] K h:=by
 refine BE _ ?_;dsimp only[ue,ce,dq];exact aV.2 ⟨_,rfl,_,vc e 1,UG k c⟩
theorem SY{h:ae}{eb pb tb:Nat}{t:Tr}{ti:Int}{b:Bool}(e:EdAt h eb pb tb t)(k:TokAt h tb pb ti b){K:Int→ae→Prop}(c:K (if b then 0 else 5) h):iI 127 [gF eb] K h:=by
 refine Ej _ ?_;unfold wS;refine ay.2 (yQ e k ?_);cases b
 ·exact aV.2 c
 ·exact ay.2 c
theorem EdAt.upd{M:Nat→Prop}{h b:ae}{eb pb tb:Nat}{t:Tr}(e:EdAt h eb pb tb t)(k:Upd M h b)(hm:¬M eb):EdAt b eb pb tb t:=k.get e hm
theorem TokAt.upd{M:Nat→Prop}{h c:ae}{tb pb:Nat}{ti:Int}{b:Bool}(e:TokAt h tb pb ti b)(k:Upd M h c)(hm:¬M tb):TokAt c tb pb ti b:=k.get e hm
theorem X2{h:ae}{eb pb tb cb cap:Nat}{ids:List Int}{c:Tr}{ti:Int}{b:Bool}(e:EdAt h eb pb tb c)(k:TokAt h tb pb ti b)(p:PoolAt h pb cb cap ids):eb≠cb∧eb≠tb∧tb≠cb:=by
 obtain⟨n,d,s,r,hc⟩:=p;refine⟨fun h=>?_,fun h=>?_,fun h=>?_⟩
 ·subst h;have:=e.symm.trans hc;simp at this
 ·subst h;have:=e.symm.trans k;simp at this
 ·subst h;have:=k.symm.trans hc;simp at this
theorem P1{h:ae}{pb cb cap:Nat}{i:Int}{ids:List Int}(p:PoolAt h pb cb cap (i::ids))(t:Tr){K:Option Addr×Int→ae→Prop}(m:∀h' eb tb,Upd (· =cb) h h'→PoolAt h' pb cb cap ids→TokAt h' tb pb i true→EdAt h' eb pb tb t→h.size≤eb→h.size≤tb→K (some ⟨eb,0,none⟩,0) h'):Hd 95 [gF pb,RI t] K h:=by
 refine Ml _ t ?_;dsimp only[De,jP,Zu,uN,aR,au,aG];refine bj fun n b1 k1=>?_
 have u:=bc b1;have v:cb<h.size:=by obtain⟨_,_,_,_,hc⟩:=p;exact bc hc
 have o:=k1.size;refine EK (p.upd0 k1) fun e c q g=>ay.2 ?_
 have b:=c.get b1 (show ¬h.size=cb by omega)
 have s:=c.size;refine⟨_,vc b 0,_,vc b 1,_,vc b 2,_,vc b 3,_,vc b 4,_,vc b 5,bj fun j f d=>?_⟩
 exact m j e.size n.size ((k1.wide.tr c).tr d.wide) (q.upd0 d) (g.upd d fun h=>h) f (by omega) o
theorem P0{h:ae}{eb pb tb cb cap:Nat}{ids:List Int}{i:Tr}{ti:Int}(e:EdAt h eb pb tb i)(k:TokAt h tb pb ti true)(p:PoolAt h pb cb cap ids)(s:ids.length<cap){K:Tr×Int→ae→Prop}(n:∀h',Upd (fun y=>y=cb∨y=tb) h h'→PoolAt h' pb cb cap (ids++ [ti])→TokAt h' tb pb ti false→EdAt h' eb pb tb i→K (i,0) h'):oG (some ⟨eb,0,none⟩) K h:=by
 obtain⟨A,F,E⟩:=X2 e k p;dsimp only[oG,eP,ce,js,td,uN,aR,au,aG,dq,mH,Od,Dv,Bu,MB,dg,db];refine bj fun C b1 k1=>?_
 have v:cb<h.size:=by obtain⟨_,_,_,_,hc⟩:=p;exact bc hc
 have x:=bc k;have D:=k1.size;have g:=e.upd k1 fun h=>h
 refine SY g (k.upd k1 fun h=>h) (ay.2 ⟨_,rfl,_,vc g 0,_,rfl,_,vc g 1,?_⟩)
 refine Pv (p.upd0 k1) (k.upd k1 fun h=>h) s fun h2 f o q=>?_
 have d:=g.upd f (by omega);refine⟨_,rfl,_,lA d 2 0,_,lA d 2 1,_,lA d 2 2,_,lA d 2 3,_,lA d 2 4,_,lA d 2 5,?_⟩;refine dt (c:=kA qG) (vs:=kA i) (f.get b1 (by omega)) rfl fun u b3 b=>?_
 refine⟨_,vc b3 0,_,vc b3 1,_,vc b3 2,_,vc b3 3,_,vc b3 4,_,vc b3 5,?_⟩;have B:=f.size;have z:=bc e;obtain⟨_,j,_⟩:=id p;have w:=bc j;exact n u ((k1.wide.tr f).trans b fun y m=>.inr (by have m:y=h.size:=m;omega)) (o.upd b (by omega) (by omega)) (q.upd b (by omega)) (d.upd b (by omega))
theorem EV{h:ae}{eb pb tb cb cap:Nat}{ids:List Int}{b:Tr}{ti:Int}(e:EdAt h eb pb tb b)(k:TokAt h tb pb ti true)(p:PoolAt h pb cb cap ids)(d:ids.length<cap){K:Tr×Int→ae→Prop}(c:∀h',Upd (fun y=>y=cb∨y=tb) h h'→PoolAt h' pb cb cap (ids++ [ti])→TokAt h' tb pb ti false→EdAt h' eb pb tb b→K (b,0) h'):HC PG 96 [.pointer (some ⟨eb,0,none⟩)] ZB K h:=
 BF _ (P0 e k p d c)
theorem SX{h:ae}{eb pb tb cb cap:Nat}{i ti:Int}{ids j:List Int}{q:Tr}(e:EdAt h eb pb tb q)(k:TokAt h tb pb ti true)(p:PoolAt h pb cb cap ids)(W:ids.length<cap)(hi:ids++ [ti]=i::j){K:Tr×Int→ae→Prop}
  (O:∀h' tb',Upd (fun y=>y=cb∨y=tb∨y=eb) h h'→PoolAt h' pb cb cap j→TokAt h' tb pb ti false→TokAt h' tb' pb i true→EdAt h' eb pb tb' q→h.size≤tb'→K (q,0) h'):HC PG 116 [.pointer (some ⟨eb,0,none⟩)] ZB K h:=by
 obtain⟨P,n2,J⟩:=X2 e k p;have ze:=bc e;have zt:=bc k;obtain⟨pn,E,_,_,hc⟩:=id p;have zp:=bc E;have zc:=bc hc;have npt:pb≠tb:=fun h=>by subst h;have:=E.symm.trans k;simp at this
 have T:pb≠eb:=fun h=>by subst h;have:=E.symm.trans e;simp at this
 refine Ek _ ?_;dsimp only[wT,nv,dy,js,jP,dq,mH,ce,L9,eP,Dv,uN,aR,au,aG];refine bj fun Z b1 k1=>EV (e.upd k1 id) (k.upd k1 id) (p.upd0 k1) W fun Y w X N Q=>GR (t:=q) fun H S n=>Join.plain (aV.2 ?_)
 have s1:=k1.size;have z1:=bc b1;have s3:=w.size;have s5:=n.size;have G:=Q.upd n id;have I:=X.upd0 n;have R:=N.upd n id;rw[hi]at I;refine⟨_,rfl,_,vc G 0,EK I fun s f A u=>?_⟩
 have U:=bc u;have V5:=f.size;have F:=G.upd f P;refine⟨_,rfl,nJ F (i:=1) (by simp) rfl fun B D d=>?_⟩
 have L:=n.get0 (w.get b1 (by omega));have o:=d.oth (f.get S (by omega)) (by omega);refine⟨_,vc o 0,_,vc o 1,_,vc o 2,_,vc o 3,_,vc o 4,_,vc o 5,?_⟩;refine dt (c:=kA qG) (vs:=kA q) (d.oth (f.get L (by omega)) (by omega)) rfl fun x b g=>?_
 refine⟨_,vc b 0,_,vc b 1,_,vc b 2,_,vc b 3,_,vc b 4,_,vc b 5,?_⟩;have C:=(A.upd d (by omega) (by omega)).upd g (by omega) (by omega);refine O x H.size ?_ C (((R.upd f J).upd d (by omega)).upd g (by omega)) ((u.upd d (by omega)).upd g (by omega)) ((EdAt.upd (t:=q) D (Upd.refl (fun _=>False) _) id).upd g (by omega)) (by omega)
 have V:Upd (fun y=>y=cb∨y=tb∨y=eb) Z Y:=w.mono fun y m=>.inl (m.imp id .inl)
 have z:Upd (fun y=>y=cb∨y=tb∨y=eb) H s:=f.mono fun y m=>.inl (.inl m)
 have v:Upd (fun y=>y=cb∨y=tb∨y=eb) s B:=d.mono fun y m=>.inl (.inr (.inr m))
 exact((((k1.wide.tr V).tr n.wide).tr z).tr v).trans g fun y m=>.inr (by have m:y=h.size:=m;omega)
theorem LP{h:ae}{eb pb tb:Nat}{d:Tr}{ti:Int}{lv:Bool}(e:EdAt h eb pb tb d)(k:TokAt h tb pb ti lv){K:Tr×Bool→ae→Prop}(g:∀h',Upd No h h'→K (if lv then qG else d, !lv) h'):YJ 115 [gF eb] K h:=by
 refine BD _ ?_;dsimp only[ud,eP,js,uN,aR,au,aG,dq,Od,Dv,Bu,ce,MB,dg,db];refine bj fun i b1 k1=>yQ (e.upd k1 id) (k.upd k1 id) ?_
 have ed:=e.upd k1 id;cases lv
 ·refine ay.2 ⟨_,rfl,_,lA ed 2 0,_,lA ed 2 1,_,lA ed 2 2,_,lA ed 2 3,_,lA ed 2 4,_,lA ed 2 5,?_⟩
  exact dt (c:=kA qG) (vs:=kA d) b1 rfl fun b b3 f=>⟨_,vc b3 0,_,vc b3 1,_,vc b3 2,_,vc b3 3,_,vc b3 4,_,vc b3 5,g b (k1.own f (ai _))⟩
 ·exact aV.2 (dt (c:=kA qG) (vs:=kA qG) b1 rfl fun b b3 f=>⟨_,vc b3 0,_,vc b3 1,_,vc b3 2,_,vc b3 3,_,vc b3 4,_,vc b3 5,g b (k1.own f (ai _))⟩)
end Go.Proofs
namespace Go.Proofs
open Go Go.Lift
section
variable {W:Nat→Prop} {h:ae} {sp vp:Nat} {s:VS} {sm:Option Nat} {last:Int} {pool:Option Addr} {o:Za}
theorem VaultAt.hM(v:VaultAt W h vp s):∀y,s.M y→y<h.size:=fun y b=>v.g.lt y (v.w y b)
end
end Go.Proofs
namespace Go.Proofs
open Go Go.Lift
structure Se where
 n:Int
 eb:Nat
 tb:Nat
 ti:Int
 lv:Bool
abbrev KI:KeyE Int:=Z0 .i64
abbrev pA(a:Option Addr):Value:=.pointer a
abbrev Se.a(e:Se):Int×Option Addr:=(e.n,some ⟨e.eb,0,none⟩)
def WS(M:Nat→Prop)(cb:Nat)(h:ae)(y:Nat):Prop:=M y∨(cb≤y∧y<h.size)
theorem WS.re{h c:ae}{vp cb:Nat}{s:VS}{M:Nat→Prop}(v:VaultAt (WS s.M cb h) h vp s)(vl:∀y,s.M y→y<cb)(k:Upd M h c)(hM:∀y,M y→cb≤y):VaultAt (WS s.M cb c) c vp s:=by
 have d:=k.size;refine v.re k (fun y b=>?_) (fun y b=>?_) fun y b=>.inl b
 ·by_cases e:y<h.size
  ·exact .inl ⟨.inr ⟨hM y b,e⟩,fun hm=>by have:=vl y hm;have:=hM y b;omega⟩
  ·exact .inr (by omega)
 ·rcases b with b|⟨f,h2⟩
  ·exact⟨.inl (.inl b),aC (v.g.lt y (.inl b)) d⟩
  ·by_cases e:y<h.size
   ·exact⟨.inl (.inr ⟨f,e⟩),h2⟩
   ·exact⟨.inr (by omega),h2⟩
structure SsAt(h:ae)(sp vp sm pb cb:Nat)(s:VS)(last:Int)(ids:List Int)(es:List Se):Prop where
 v:VaultAt (WS s.M cb h) h vp s
 vl:∀y,s.M y→y<cb
 vc:vp<cb
 b:h[sp]? =some (.cells (stL vp (some sm) last (some ⟨pb,0,none⟩)).toArray 121 (0,0))
 o:cb<pb∧pb<sm∧sm<sp
 m:MapAt KI pA h sm (es.map Se.a)
 p:PoolAt h pb cb 16 ids
 cap:ids.length+(es.filter (·.lv)).length=16
 ed:∀e∈es,EdAt h e.eb pb e.tb s.e∧TokAt h e.tb pb e.ti e.lv∧sp<e.eb∧sp<e.tb
 nde:(es.map (·.eb)).Nodup
 ndt:(es.map (·.tb)).Nodup
 ky:∀e∈es,1≤e.n∧e.n≤last
 ndk:(es.map (·.n)).Nodup
 few:es.length≤16
 l0:0≤last∧last≤1000
theorem X5{β:Type}{k:Int}{v:β}:∀{l:List (Int×β)},k∉l.map (·.1)→oE l k v=l++ [(k,v)]
 | [],_=>rfl
 |(k',u)::l,h=>by
  simp only[bJ,ar,not_or]at h;unfold oE;rw[if_neg h.1,X5 h.2];rfl
section
variable {h h':ae} {sp vp sm pb cb:Nat} {s:VS} {last:Int} {ids:List Int} {es:List Se}
theorem SsAt.up0(g:SsAt h sp vp sm pb cb s last ids es)(k:Upd No h h'):SsAt h' sp vp sm pb cb s last ids es:=
 ⟨WS.re g.v g.vl k fun _ h=>h.elim,g.vl,g.vc,k.get0 g.b,g.o,g.m.upd k fun h=>h,g.p.upd0 k,g.cap,fun e b=>⟨(g.ed e b).1.upd k fun h=>h,(g.ed e b).2.1.upd k fun h=>h,(g.ed e b).2.2⟩,g.nde,g.ndt,g.ky,g.ndk,g.few,g.l0⟩
theorem SsAt.lt(g:SsAt h sp vp sm pb cb s last ids es):∀e∈es,e.eb<h.size∧e.tb<h.size:=fun e b=>⟨bc (g.ed e b).1,bc (g.ed e b).2.1⟩
theorem SsAt.own(g:SsAt h sp vp sm pb cb s last ids es){b:Nat}(u:Upd (· =b) h h')(q:sp<b)(c:∀e∈es,e.eb≠b∧e.tb≠b):SsAt h' sp vp sm pb cb s last ids es:=by
 have p:=g.o;refine⟨WS.re g.v g.vl u fun y f=>by have f:y=b:=f;omega,g.vl,g.vc,u.oth g.b (by omega),g.o,g.m.upd u (by omega),g.p.upd u (by omega) (by omega),g.cap,fun e d=>?_,g.nde,g.ndt,g.ky,g.ndk,g.few,g.l0⟩
 obtain⟨o,j,m⟩:=g.ed e d;obtain⟨i,n⟩:=c e d;exact⟨o.upd u i,j.upd u n,m⟩
end
end Go.Proofs
namespace Go.Proofs
open Go Go.Lift
section
variable {W:Nat→Prop} {h:ae} {sp vp sm pb cb:Nat} {s:VS} {last:Int} {ids:List Int} {es:List Se} {o:Za}
end
end Go.Proofs
namespace Go.Proofs
open Go Go.Lift
section
variable {h:ae} {sp vp sm pb cb:Nat} {s:VS} {last:Int} {ids:List Int} {es:List Se} {o:Za}
theorem SsAt.look(g:SsAt h sp vp sm pb cb s last ids es){e:Se}(b:e∈es):dT (es.map Se.a) e.n=some (some ⟨e.eb,0,none⟩):=by
 have nd:((es.map Se.a).map (·.1)).Nodup:=by rw[List.map_map];exact g.ndk
 exact(sZ nd).2 (List.mem_map.2 ⟨e,b,rfl⟩)
end
end Go.Proofs
namespace Go.Proofs
open Go Go.Lift
theorem Uy{α β:Type}{f:α→β}{es:List α}(nd:(es.map f).Nodup){q e:α}(n:q∈es)(g:e∈es)(h:f q=f e):q=e:=by
 obtain⟨i,hi,b⟩:=ct n;obtain⟨j,m,c⟩:=ct g;have:(es.map f)[i]'(by simpa using hi)=(es.map f)[j]'(by simpa using m):=by simp[b,c,h]
 have d:=(List.getElem_inj nd).1 this;subst d;exact b.symm.trans c
section
variable {h:ae} {sp vp sm pb cb:Nat} {s:VS} {last:Int} {ids:List Int} {es:List Se} {o:Za}
theorem SsAt.ne(g:SsAt h sp vp sm pb cb s last ids es){b:Nat}(d:h.size≤b):∀e∈es,e.eb≠b∧e.tb≠b:=fun e c=>by have:=g.lt e c;omega
end
end Go.Proofs
namespace Go.Proofs
open Go Go.Lift
section
variable {h:ae} {sp vp sm pb cb:Nat} {s:VS} {last:Int} {ids:List Int} {es:List Se}
end
end Go.Proofs
namespace Go.Proofs
open Go Go.Lift
theorem Xx{M:Nat→Prop}{h:ae}{so:SliceV}{out:List Int}{x:Int}{K:SliceV→ae→Prop}(e:OwnS u32 1 31 M h so out)(hM:∀b,h.size≤b→M b)(i:out.length≤1000000000)
  (g:∀s' c,OwnS u32 1 31 M c s' (out++ [x])→Upd M h c→K s' c):
  ∃xs,SRow (hnew h [.int .u32 x] 31) (some (aJ h)) (1*1) xs∧AppP (some [.int .u32 0]) 1 4 31 so.a so.len so.cap 1 xs (hnew h [.int .u32 x] 31) K:=by
 have k:=Upd.hnew No h [.int .u32 x] 31;refine⟨_,((Yq (M:=fun _=>True) h x trivial).sl (W:=No) fun _ _ _ h=>h).srow,?_⟩
 refine AppP.own (ys:= [x]) (e.upd k fun _ _ h=>h) rfl rfl rfl rfl (by omega) (by simp only[List.length_singleton];omega) (hM _ (by rw[eI];omega)) fun s' c d f=>?_
 exact g s' c d ((Upd.hnew M h _ _).tr f)
theorem UK{h:ae}{r:Nat}{m:List (Int×SliceV)}(hm:MapAt KE sv h r m){K:Value→ae→Prop}
  (o:∀fv h',Gives PG fv u32 m.length (fun xs=>xs.Perm (m.map (·.1))) (fun b=>b=r∨b=h.size) h'→Upd No h h'→K fv h'):IK 109 [.map (some r)] K h:=by
 refine eM (jN (some r)) .nil Tryz.func109 Tryz.call109 ?_;unfold jN;have k:=Upd.hnew No h [.map (some r)] 208;refine o _ _ ?_ k;refine G7 (hm.upd k id) (bx:=h.size) (cO ..) fun y s K p f=>nK y ⟨h.size,0,none⟩ ?_
 dsimp only[fO,Ti];obtain⟨c,⟨es,d⟩,f⟩:=f;refine⟨some r,by rw[bO p];rfl,c,.inr ⟨r,es,rfl,d⟩,?_⟩
 refine(f _ rfl).imp fun I t h n=>n.imp id fun e h2 ⟨x,v,i,j,g,q⟩=>⟨rfl,e,x,v,i,j,g,q⟩
theorem L1{h:ae}{fv:Value}{N:Nat}{S:List Int→Prop}{Q:Nat→Prop}(hg:Gives PG fv u32 N S Q h)(hN:N≤1000000000){K:SliceV→ae→Prop}
  (hk:∀s' d xs,S xs→OwnS u32 1 31 (fun b=>h.size≤b) d s' xs→Upd No h d→K s' d):fU 170 [.slice none 0 0,fv] K h:=by
 refine rF ⟨none,0,0⟩ fv ?_;unfold lM SG;have k0:=Upd.hnew No h [.slice none 0 0] 65;have b0:=cO h [.slice none 0 0] 65;have Y:(hnew h [.slice none 0 0] 65).size=h.size+1:=eI ..;have T:=hg.upd k0 fun _ _=>id
 simp only[At];generalize hnew h [.slice none 0 0] 65=h1 at T k0 b0 Y;refine⟨fun lo hlo n=>?_⟩
 obtain⟨f,first,cap,rfl,I⟩:=T.run
 refine⟨f,first,cap,rfl,?_⟩
 have k1:Upd No h1 ((h1.push (.deferred (some []))).push (lo .ready none)):=(Upd.push No _ _).tr (Upd.push No _ _);have l2:((h1.push (.deferred (some []))).push (lo .ready none))[h1.size+1]? =some (lo .ready none):=by
  have:=lD (h1.push (.deferred (some []))) (lo .ready none);rwa [rU]at this
 have l1:((h1.push (.deferred (some []))).push (lo .ready none))[h1.size]? =some (.deferred (some [])):=(Upd.push No _ _).get0 (lD h1 _);refine I (.func (.yield (h1.size+1)) #[] #[]) (fun m A d=>(∀b,A b→b<d.size∧h.size≤b)∧A h.size∧A h1.size∧A (h1.size+1)∧d[h1.size]? =some (.deferred (some []))∧d[h1.size+1]? =some (lo .ready none)∧
   ∃s:SliceV,d[h.size]? =some (.cells #[sv s] 65 (0,0))∧OwnS u32 1 31 (fun b=>A b∧h1.size+1<b) d s m∧m.length≤N)
  (fun b=>b=h.size∨b=h1.size∨b=h1.size+1) No _ _ ⟨fun _ _ _ L b c=>(L.1 b c).1,fun m A d h'' B L w U=>?_,fun m A d x K' L hlen hK=>?_⟩ ?_ k1 (fun _ _=>id) (fun b c hq=>?_) ?_
 ·obtain⟨G,h2,q,p,W,h6,s,h7,h8,h9⟩:=L
  exact⟨fun b c=>⟨aC (G b c).1 w.size,(G b c).2⟩,h2,q,p,w.get W (U _ q),w.get h6 (U _ p),s,w.get h7 (U _ h2),h8.upd w fun b c=>U b c.1,h9⟩
 ·obtain⟨C,i,y,g,hd,H,s,V,X,Z⟩:=L
  refine n x d K' H ⟨H,?_⟩;have z:Upd (· =h1.size+1) d (d.setIfInBounds (h1.size+1) (lo .busy none)):=Upd.set _ _ rfl
  have lb:=dU (o:=lo .busy none) H;have sb:=z.size;generalize d.setIfInBounds (h1.size+1) (lo .busy none)=h2 at z lb sb;refine⟨s,by rw[dA,bO (z.get V (by omega))];rfl,?_⟩
  refine Xx (M:=fun b=>(A b∨h2.size≤b)∧h1.size+1<b) ((X.upd z fun b c=>by omega).more fun b c=>⟨.inl c.1,c.2⟩) (fun b c=>⟨.inr c,by have:=bc lb;omega⟩) (by omega) fun s' q ho3 j=>?_
  have u:q[h.size]? =some (.cells #[sv s] 65 (0,0)):=j.get (z.get V (by omega)) (by omega);refine⟨by rw[dA];exact fz u (by simp),?_⟩;have D:Upd (· =h.size) q (hset q (aJ h) (.slice s'.a s'.len s'.cap)):=Upd.hset _ _ rfl
  have E:(hset q (aJ h) (.slice s'.a s'.len s'.cap))[h.size]? =some (.cells #[sv s'] 65 (0,0)):=by
   rw[dA,ju u,dU u];rfl
  generalize hset q (aJ h) (.slice s'.a s'.len s'.cap)=p at D E;have O:p[h1.size+1]? =some (lo .busy none):=D.get (j.get lb (by omega)) (by omega);refine⟨O,?_⟩;have e:Upd (· =h1.size+1) p (p.setIfInBounds (h1.size+1) (lo .ready none)):=Upd.set _ _ rfl
  have hl5:=dU (o:=lo .ready none) O;have F:Upd A d p:=((z.mono (M':=A) fun b c=>.inl (c▸g)).trans j fun b c=>c.1.imp id fun h=>by omega).trans D fun b c=>.inl (c▸i)
  have z3:=j.size;have z4:=D.size;have z5:=e.size;refine hK _ (fun b=>(A b∨h2.size≤b)∧b<p.size) ⟨fun b c=>⟨aC c.2 z5,c.1.elim (fun h=>(C b h).2) fun h=>by have:=(C _ i).1;omega⟩,⟨.inl i,by have:=(C _ i).1;omega⟩,⟨.inl y,by have:=(C _ y).1;omega⟩,⟨.inl g,by have:=(C _ g).1;omega⟩,
   e.get (D.get (j.get (z.get hd (by omega)) (by omega)) (by omega)) (by omega),hl5,s',e.get E (by omega),?_,by simp;omega⟩ (F.trans e fun b c=>.inl (c▸g)) fun b c=>c.1.imp id fun h=>by omega
  exact(((ho3.upd D fun b c=>by omega).within).more fun b c=>⟨⟨c.1.1,c.2⟩,c.1.2⟩).upd e fun b c=>by omega
 ·refine⟨fun b c=>?_,.inl rfl,.inr (.inl rfl),.inr (.inr rfl),l1,l2,⟨none,0,0⟩,k1.get0 b0,OwnS.nil yq,Nat.zero_le _⟩
  have:=bc l2;rcases c with rfl|rfl|rfl<;>omega
 ·have:=hg.lt b hq
  rcases c with rfl|rfl|rfl<;>omega
 ·rintro xs A' d hS ⟨C,i,y,g,hd,H,s,V,X,Z⟩ w hA'
  refine⟨.ready,none,by decide,H,?_⟩
  have e:Upd (· =h1.size+1) d (d.setIfInBounds (h1.size+1) (lo .exhausted none)):=Upd.set _ _ rfl
  show∃v:SliceV,bh (d.setIfInBounds (h1.size+1) (lo .exhausted none)) (aJ h)=some (.slice v.a v.len v.cap)∧_
  have P:=e.get hd (show ¬h1.size=h1.size+1 by omega)
  have J:=e.get V (show ¬h.size=h1.size+1 by omega)
  have R:=X.upd e fun b c=>by omega
  generalize d.setIfInBounds (h1.size+1) (lo .exhausted none)=W at e P J R;refine⟨s,by rw[dA,bO J];rfl,P,?_⟩
  have k6:Upd (· =h1.size) W (W.setIfInBounds h1.size (.deferred none)):=Upd.set _ _ rfl
  refine hk s _ xs hS ((R.upd k6 fun b c=>by omega).more fun b c=>(C b c.1).2) ?_
  refine(((k0.tr k1).trans w fun b c=>?_).trans e fun b c=>.inr (by omega)).trans k6 fun b c=>.inr (by omega)
  rcases c with rfl|rfl|rfl<;>(right;omega)
theorem P5{h:ae}{c:Value}{N:Nat}{S:List Int→Prop}{Q:Nat→Prop}(f:Gives PG c u32 N S Q h)(d:N≤1000000000){K:SliceV→ae→Prop}
  (e:∀s' h' xs,S xs→OwnS u32 1 31 (fun b=>h.size≤b) h' s' xs→Upd No h h'→K s' h'):fU 138 [c] K h:=by
 refine eM (qX c) .nil Tryz.func138 Tryz.call138 ?_;unfold qX;exact L1 f d e
end Go.Proofs
