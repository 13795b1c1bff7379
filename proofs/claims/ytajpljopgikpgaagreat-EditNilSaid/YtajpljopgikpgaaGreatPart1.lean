/- A part of the proof that the named laws of this program answer true, whatever the input. -/
import Derived.Test.YtajpljopgikpgaaGreatTreeF0
import Derived.Test.YtajpljopgikpgaaGreatPart0
import Derived.Conc.LoneSelect
import Derived.KernelRfl
import Derived.Laws.Rows
open BitVec renaming ofInt→ad,ofInt_natCast→gl,getLsbD_ofNat→gm
open Int renaming fdiv→ey,toNat_natCast→aK
open List renaming range→cp,getElem?_eq_getElem→aq,mem_singleton→ag,mem_cons→ai,length_append→ae,replicate→eu,replicate_succ→gO,length_cons→aQ,flatten_append→dS,flatten_cons→eV,flatten_nil→jq,length→iq,take_of_length_le→aV,length_drop→aB,mem_range→gh
open Nat renaming mod_lt→mL,le_refl→av,zero_le→d4,testBit_and→fO,testBit_two_pow_sub_one→f7,shiftRight_eq_div_pow→gG,lt_of_le_of_lt→ep,min_eq_left→aL,shiftRight_le→iT,mod_eq_of_lt→ff,lt_of_lt_of_le→cg
open Option renaming getD_some→fe
open UInt8 renaming ofNat→lK
namespace Go.Proofs
open Go Go.Lift Go.Conc Go.RowKit
theorem mF{w:World}{b i:Nat}{c:Array Value}{t:TypeId}{v:Value}(h:w.heap[b]? =some (.cells c t (0,0))) (hv:c[i]? =some v):w.cell? ⟨b,i,none⟩=some v:=by
 simp only[World.cell?,h];exact hv
theorem Ab{w:World}{b i:Nat}{c:Array Value}{t:TypeId}(h:w.heap[b]? =some (.cells c t (0,0))):w.frozen? ⟨b,i,none⟩=false:=by
 simp only[World.frozen?,h];simp
set_option maxRecDepth 100000 in
theorem zE{w:World}{pb cb cap s r:Nat}{i:Int}{a:List Value}(d:w.heap[pb]? =some (.cells #[.chan (some cb)] 99 (0,0))) (hc:w.heap[cb]? =some (.chan cap (Value.int .i64 i::a).toArray false s r false)):
  Calls Tryz.prog 32 #[.pointer (some ⟨pb,0,none⟩)] w fun e w'=>e=.returned (.tuple #[.pointer (some ⟨w.heap.size,0,none⟩),.int .i64 0])∧w'=((w.setChan cb cap a.toArray false s (r+1) false).alloc (.cells #[.pointer (some ⟨pb,0,none⟩),.int .i64 i,.bool true] 119 (0,0))):=by
 refine calls_of_loneTo fun cs=>?_
 have e:Frame.enter Tryz.prog 32 #[.pointer (some ⟨pb,0,none⟩)] .normal=(base 32).at ⟨#[.pointer (some ⟨pb,0,none⟩),undef,undef,undef,undef,undef,undef,undef,undef,undef,undef,undef,undef,undef,undef,undef,undef,undef,undef],[]⟩ [.code (Tryz.f32.body.getD .skip)]:=by
  simp[Frame.enter,Frame.at,Tryz.func32,base,Tryz.f32]
 rw[e];have aP:=mF d (i:=0) rfl;have b:(Value.int .i64 i::a).toArray.extract 1 (Value.int .i64 i::a).toArray.size=a.toArray:=by simp
 refine LoneTo.goes (n:=22) ?_;simp only[Tryz.f32,fe];s_c stepG_seq
 s_reg
 s_op
 s_op
 s_c stepG_region_end
 s_c stepG_seq
 s_c stepG_seq
 s_reg
 s_op
 s_op
 s_c stepG_region_end
 s_cond false
 s_c stepG_skip
 s_c stepG_seq
 s_reg
 s_op
 s_op
 s_op
 s_op
 s_c stepG_region_end
 s_c stepG_seq
 s_reg
 s_stop
 refine LoneTo.step (step_lone_select_recv_buf (c:=cb) (z:=.int .i64 0) (stepG_comm (cases:= #[rcase cb (.int .i64 0)]) (blocking:=false) (shape:=.select) (w':=w) rfl rfl (by decide) (by simp[go_sem,execOp,rcase,Act.eval])) hc (by simp)) ?_;rw[b];rw[Frame.finish_at];walk_nrm
 refine LoneTo.goes (n:=20) ?_;s_op
 s_op
 s_c stepG_region_end
 s_c stepG_block
 s_cond true
 s_c stepG_seq
 s_reg
 s_op
 s_op
 s_c stepG_region_end
 s_c stepG_seq
 s_reg
 s_op
 s_op
 s_op
 s_op
 s_op
 s_op
 s_c stepG_region_end
 s_c stepG_ret'
 s_stop
 refine LoneTo.done ⟨.returned (.tuple #[.pointer (some ⟨w.heap.size,0,none⟩),.int .i64 0]),_,rfl,⟨rfl,rfl⟩,rfl,rfl,rfl,rfl,_,Tryz.func32,by simp[results,Tryz.f32,Frame.at,size_setChan]⟩
set_option maxRecDepth 100000 in
theorem xt{w:World}{pb cb cap s r:Nat}(a:w.heap[pb]? =some (.cells #[.chan (some cb)] 99 (0,0))) (hc:w.heap[cb]? =some (.chan cap #[] false s r false)):
  Calls Tryz.prog 32 #[.pointer (some ⟨pb,0,none⟩)] w fun e w'=>e=.returned (.tuple #[.pointer none,.int .i64 6])∧w'=w:=by
 refine calls_of_loneTo fun cs=>?_
 have e:Frame.enter Tryz.prog 32 #[.pointer (some ⟨pb,0,none⟩)] .normal=(base 32).at ⟨#[.pointer (some ⟨pb,0,none⟩),undef,undef,undef,undef,undef,undef,undef,undef,undef,undef,undef,undef,undef,undef,undef,undef,undef,undef],[]⟩ [.code (Tryz.f32.body.getD .skip)]:=by
  simp[Frame.enter,Frame.at,Tryz.func32,base,Tryz.f32]
 rw[e];have aP:=mF a (i:=0) rfl;refine LoneTo.goes (n:=22) ?_;simp only[Tryz.f32,fe];s_c stepG_seq
 s_reg
 s_op
 s_op
 s_c stepG_region_end
 s_c stepG_seq
 s_c stepG_seq
 s_reg
 s_op
 s_op
 s_c stepG_region_end
 s_cond false
 s_c stepG_skip
 s_c stepG_seq
 s_reg
 s_op
 s_op
 s_op
 s_op
 s_c stepG_region_end
 s_c stepG_seq
 s_reg
 s_stop
 refine LoneTo.step (step_lone_select_default (c:=cb) (z:=.int .i64 0) (stepG_comm (cases:= #[rcase cb (.int .i64 0)]) (blocking:=false) (shape:=.select) (w':=w) rfl rfl (by decide) (by simp[go_sem,execOp,rcase,Act.eval])) hc) ?_;rw[Frame.finish_at];walk_nrm
 refine LoneTo.goes (n:=11) ?_;s_op
 s_op
 s_c stepG_region_end
 s_c stepG_block
 s_cond false
 s_c stepG_seq
 s_reg
 s_op
 s_op
 s_c stepG_region_end
 s_c stepG_ret'
 s_stop
 refine LoneTo.done ⟨.returned (.tuple #[.pointer none,.int .i64 6]),_,rfl,⟨rfl,rfl⟩,rfl,rfl,rfl,rfl,_,Tryz.func32,by simp[results,Tryz.f32,Frame.at]⟩
set_option maxRecDepth 100000 in
theorem take_walkN{w:World}:Calls Tryz.prog 32 #[.pointer none] w fun e w'=>e=.returned (.tuple #[.pointer none,.int .i64 4])∧w'=w:=by
 refine calls_of_loneTo fun cs=>?_
 have e:Frame.enter Tryz.prog 32 #[.pointer none] .normal=(base 32).at ⟨#[.pointer none,undef,undef,undef,undef,undef,undef,undef,undef,undef,undef,undef,undef,undef,undef,undef,undef,undef,undef],[]⟩ [.code (Tryz.f32.body.getD .skip)]:=by
  simp[Frame.enter,Frame.at,Tryz.func32,base,Tryz.f32]
 rw[e];refine LoneTo.goes (n:=18) ?_;simp only[Tryz.f32,fe];s_c stepG_seq
 s_reg
 s_op
 s_op
 s_c stepG_region_end
 s_c stepG_seq
 s_c stepG_seq
 s_reg
 s_op
 s_op
 s_c stepG_region_end
 s_cond true
 s_c stepG_seq
 s_reg
 s_op
 s_op
 s_c stepG_region_end
 s_c stepG_ret'
 s_stop
 refine LoneTo.done ⟨.returned (.tuple #[.pointer none,.int .i64 4]),_,rfl,⟨rfl,rfl⟩,rfl,rfl,rfl,rfl,_,Tryz.func32,by simp[results,Tryz.f32,Frame.at]⟩
theorem mkc(w:World)(n:Nat)(h:n≤4096):(Instr.makeChan 97 (.int .i64 n)).run Tryz.prog w=.ok (.chan (some w.heap.size)) (w.alloc (.chan n #[] false 0 0 false)):=by
 have c:Tryz.prog.underlying 97=some (.chan .both 3):=by kernel_rfl
 have b:(Tryz.prog.info? 3).map (·.bytes)=some 8:=by kernel_rfl
 obtain⟨i,d,a⟩:=Option.map_eq_some_iff.1 b;exact run_makeChan (P:=Tryz.prog) (w:=w) c d .i64 n (by omega) (by rw[a];omega)
noncomputable abbrev rW:Code:=match Tryz.f18.body with|some (.seq _ (.seq _ (.seq _ (.seq (.seq _ (.block _ (.loop c))) _))))=>c|_=>.skip
noncomputable abbrev vr:Code:=match Tryz.f18.body with|some (.seq _ (.seq _ (.seq _ (.seq _ c))))=>c|_=>.skip
set_option maxRecDepth 100000 in
set_option maxHeartbeats 4000000 in
theorem Ba{n pb cb:Nat}{Q:Goroutine→World→Prop}{cs:List Frame}(L:n≤4096)(C:pb≠cb):∀(m i:Nat) (t b k e f o g d p q:Value) (ids:List Value) (s r:Nat) (w:World),i+m=n→ids.length=i→w.heap[pb]? =some (.cells #[.chan (some cb)] 99 (0,0))→w.heap[cb]? =some (.chan n ids.toArray false s r false)→
  (∀(t b k e f o g d p q:Value) (a:List Value) (s' x:Nat) (w':World),a=ids++(cp m).map (fun j=>Value.int .i64 ((i+j:Nat)+1:Int))→(w'=w∨w'=w.setChan cb n a.toArray false s' x false)→w'.heap[cb]? =some (.chan n a.toArray false s' x false)→LoneTo Tryz.prog Q (G ((base 18).at ⟨#[.int .i64 n,undef,.pointer none,.int .i64 0,.pointer (some ⟨pb,0,none⟩),t,.int .i64 n,.bool false,.bool false,.int .i64 n,.bool false,.bool false,.int .i64 n,.chan (some cb),.agg #[.chan (some cb)],.pointer (some ⟨pb,0,none⟩),.int .i64 n,.int .i64 n,b,k,e,f,o,g,d,p,q,undef],[]⟩ [.code vr]) cs) w')→
  LoneTo Tryz.prog Q (G ((base 18).at ⟨#[.int .i64 n,undef,.pointer none,.int .i64 0,.pointer (some ⟨pb,0,none⟩),t,.int .i64 n,.bool false,.bool false,.int .i64 n,.bool false,.bool false,.int .i64 n,.chan (some cb),.agg #[.chan (some cb)],.pointer (some ⟨pb,0,none⟩),.int .i64 n,.int .i64 i,b,k,e,f,o,g,d,p,q,undef],[]⟩ [.code rW,.inLoop rW,.inBlock 0,.code vr]) cs) w:=by
 intro m;induction m with
 |zero=>
  intro i t b k e f o g d p q ids s r w u A B hc D;have u:i=n:=by omega
  subst u;have z:¬((i:Int)<(i:Int)):=by omega
  refine LoneTo.goes (n:=9) ?_;simp only[rW,Tryz.f18];s_c stepG_seq
  s_reg
  s_op
  s_c stepG_region_end
  s_c stepG_seq
  s_cond false
  s_exit
  s_stop
  exact D _ _ _ _ _ _ _ _ _ _ ids s r w (by simp) (.inl rfl) hc
 |succ m ih=>
  intro i t b k e f o g d p q ids s r w u A B hc D;have z:((i:Int)<(n:Int)):=by omega
  have aP:=mF B (i:=0) rfl;have F:IntKind.wrap .i64 ((i:Int)+1)=((i+1:Nat):Int):=by rw[nT (by omega)];omega
  refine LoneTo.goes (n:=21) ?_;simp only[rW,Tryz.f18];s_c stepG_seq
  s_reg
  s_op
  s_c stepG_region_end
  s_c stepG_seq
  s_cond true
  s_c stepG_skip
  s_c stepG_seq
  s_c stepG_block
  s_c stepG_seq
  s_reg
  s_op
  s_op
  s_c stepG_region_end
  s_reg
  s_op
  s_op
  s_op
  s_op
  s_op
  s_op
  s_stop
  refine LoneTo.step (step_lone_send_room (c:=cb) (cap:=n) (buf:=ids.toArray) (s:=s) (r:=r) (tm:=false) (stepG_comm (cases:= #[scase cb (.int .i64 ((i:Int)+1)) (.tuple #[])]) (blocking:=true) (shape:=.send) (w':=w) rfl rfl (by decide) (by simp[execOp,scase,Act.eval])) hc (by simp[A];omega)) ?_;rw[Frame.finish_at];walk_nrm
  have hz:cb<w.heap.size:=(Array.getElem?_eq_some_iff.1 hc).1;refine LoneTo.goes (n:=7) ?_;s_c stepG_region_end
  s_c stepG_inBlock
  s_reg
  s_op
  s_op
  s_c stepG_region_end
  s_c stepG_inLoop
  s_stop
  have E:((i:Int)+1)=((i+1:Nat):Int):=by omega
  rw[E];refine ih (i+1) _ _ _ _ _ _ _ _ _ _ (ids++ [Value.int .i64 ((i+1:Nat):Int)]) (s+1) r (w.setChan cb n (ids++ [Value.int .i64 ((i+1:Nat):Int)]).toArray false (s+1) r false) (by omega) (by simp[A]) ?_ (heap_setChan _ _ _ _ _ _ _ _ hz) fun t b k e f o g d p q a s' x w' H v y=>D t b k e f o g d p q a s' x w' ?_ (.inr ?_) y
  ·simp only[World.setChan,Array.getElem?_setIfInBounds]
   rw[if_neg (Ne.symm C)];exact B
  ·rw[H,List.range_succ_eq_map]
   simp[Nat.add_comm,Nat.add_left_comm,Function.comp_def]
  ·rcases v with v|v
   ·subst v
    rw[heap_setChan _ _ _ _ _ _ _ _ hz]at y;simp only[Option.some.injEq,Obj.chan.injEq]at y;obtain⟨_,J,_,I,K,_⟩:=y;rw[J,I,K]
   ·rw[v];simp[World.setChan]
set_option maxRecDepth 100000 in
set_option maxHeartbeats 4000000 in
theorem A9{n:Nat}{w:World}(A:1≤n)(a:n≤4096):Calls Tryz.prog 18 #[.int .i64 n] w fun e w'=>e=.returned (.tuple #[.pointer (some ⟨w.heap.size+1,0,none⟩),.int .i64 0])∧∃(ids:List Value) (s r:Nat),ids=(cp n).map (fun j=>Value.int .i64 ((0+j:Nat)+1:Int))∧w'.heap[w.heap.size]? =some (.chan n ids.toArray false s r false)∧(w'=(w.alloc (.chan n #[] false 0 0 false)).alloc (.cells #[.chan (some w.heap.size)] 99 (0,0))∨w'=((w.alloc (.chan n #[] false 0 0 false)).alloc (.cells #[.chan (some w.heap.size)] 99 (0,0))).setChan w.heap.size n ids.toArray false s r false):=by
 refine calls_of_loneTo fun cs=>?_
 have e:Frame.enter Tryz.prog 18 #[.int .i64 n] .normal=(base 18).at ⟨#[.int .i64 n,undef,undef,undef,undef,undef,undef,undef,undef,undef,undef,undef,undef,undef,undef,undef,undef,undef,undef,undef,undef,undef,undef,undef,undef,undef,undef,undef],[]⟩ [.code (Tryz.f18.body.getD .skip)]:=by
  simp[Frame.enter,Frame.at,Tryz.func18,base,Tryz.f18]
 rw[e];have v:=fun w=>mkc w n a
 have y:¬((n:Int)<1):=by omega
 have B:¬(4096<(n:Int)):=by omega
 refine LoneTo.goes (n:=33) ?_;simp only[Tryz.f18,fe];s_c stepG_seq
 s_reg
 s_op
 s_op
 s_c stepG_region_end
 s_c stepG_seq
 s_c stepG_seq
 s_reg
 s_op
 s_op
 s_op
 s_op
 s_op
 s_op
 s_c stepG_region_end
 s_cond false
 s_c stepG_skip
 s_c stepG_seq
 s_reg
 s_op
 s_op
 s_op
 s_op
 s_op
 s_c stepG_region_end
 s_c stepG_seq
 s_c stepG_seq
 s_reg
 s_op
 s_op
 s_c stepG_region_end
 s_c stepG_block
 s_c stepG_loop
 s_stop
 have q:((w.alloc (.chan n #[] false 0 0 false)).alloc (.cells #[.chan (some w.heap.size)] 99 (0,0))).heap[w.heap.size+1]? =some (.cells #[.chan (some w.heap.size)] 99 (0,0)):=by
  have:=heap_alloc_new (w.alloc (.chan n #[] false 0 0 false)) (.cells #[.chan (some w.heap.size)] 99 (0,0));simpa using this
 have f:((w.alloc (.chan n #[] false 0 0 false)).alloc (.cells #[.chan (some w.heap.size)] 99 (0,0))).heap[w.heap.size]? =some (.chan n #[] false 0 0 false):=by
  show((w.heap.push (.chan n #[] false 0 0 false)).push (.cells #[.chan (some w.heap.size)] 99 (0,0)))[w.heap.size]? =_
  simp[Array.getElem?_push]
 refine Ba a (by omega) n 0 _ _ _ _ _ _ _ _ _ _ [] 0 0 _ (by omega) rfl q f fun z c o g k p m d t u ids s r w' b i x=>?_
 refine LoneTo.goes (n:=7) ?_;simp only[vr,Tryz.f18];s_c stepG_seq
 s_reg
 s_op
 s_op
 s_op
 s_c stepG_region_end
 s_c stepG_ret'
 s_stop
 refine LoneTo.done ⟨.returned (.tuple #[.pointer (some ⟨w.heap.size+1,0,none⟩),.int .i64 0]),_,rfl,⟨rfl,ids,s,r,by simpa[cp]using b,x,i⟩,rfl,rfl,rfl,rfl,_,Tryz.func18,by simp[results,Tryz.f18,Frame.at]⟩
theorem cQ{md:Region.Mode}{ops:Array Oper}{fuel t:Nat}{listed:Array Bool}{rs:List Nat}(d:Region.ready md ops listed=rs)(b:rs≠[]):∃i∈rs,∃t',Region.linearise.go md ops (fuel+1) t listed []=i::Region.linearise.go md ops fuel t' (listed.setIfInBounds i true) []:=by
 subst d;simp only[Region.linearise.go];change∃i∈Region.ready md ops listed,∃t',(match(Region.ready md ops listed)[t%(Region.ready md ops listed).length]? with
  |some i=>Region.linearise.go md ops fuel (t/(Region.ready md ops listed).length) (listed.setIfInBounds i true) [i]
  |none=> [].reverse)=i::Region.linearise.go md ops fuel t' (listed.setIfInBounds i true) []
 have c:0<(Region.ready md ops listed).length:=List.length_pos_iff.2 b;have a:t%(Region.ready md ops listed).length<(Region.ready md ops listed).length:=mL _ c;rw[aq a];refine⟨_,List.getElem_mem a,t/(Region.ready md ops listed).length,?_⟩;simp only[];rw[linearise_go_acc];rfl
noncomputable abbrev ak:Array Oper:=match Tryz.f39.body with|some (.seq _ (.seq _ (.seq _ (.seq (.region _ o _) _))))=>o|_=> #[]
section
variable {pb tb cb:Nat} {id:Int} {u2 u3 u4 u5 u6 u7 u8 u9 u10 u11 u12 u13 u14 u15 u16 u17 u18 u19 u20 u21 u22:Value} {Q:Goroutine→World→Prop} {cs:List Frame} {kk:List Item} {w:World}
set_option maxRecDepth 100000
theorem Bs(f:w.cell? ⟨pb,0,none⟩=some (.chan (some cb)))(d:w.cell? ⟨tb,1,none⟩=some (.int .i64 id))(c:∀t,LoneTo Tryz.prog Q (G ((base 39).at ⟨#[.pointer (some ⟨pb,0,none⟩),.pointer (some ⟨tb,0,none⟩),u2,u3,u4,u5,u6,u7,u8,u9,u10,u11,u12,u13,u14,u15,u16,u17,u18,u19,u20,u21,u22,.pointer (some ⟨pb,0,none⟩),.pointer (some ⟨pb,0,none⟩),.pointer (some ⟨pb,0,none⟩),.chan (some cb),.pointer (some ⟨tb,0,none⟩),.pointer (some ⟨tb,0,none⟩),.pointer (some ⟨tb,1,none⟩),.int .i64 id],[]⟩ (.inRegion ak (Region.linearise.go .any ak 1 t #[true,true,true,true,true,true,true,true,false] [])::kk)) cs) w)(t:Nat):LoneTo Tryz.prog Q (G ((base 39).at ⟨#[.pointer (some ⟨pb,0,none⟩),.pointer (some ⟨tb,0,none⟩),u2,u3,u4,u5,u6,u7,u8,u9,u10,u11,u12,u13,u14,u15,u16,u17,u18,u19,u20,u21,u22,.pointer (some ⟨pb,0,none⟩),.pointer (some ⟨pb,0,none⟩),.pointer (some ⟨pb,0,none⟩),.chan (some cb),.pointer (some ⟨tb,0,none⟩),.pointer (some ⟨tb,0,none⟩),.pointer (some ⟨tb,1,none⟩),undef],[]⟩ (.inRegion ak (Region.linearise.go .any ak 2 t #[true,true,true,true,true,true,true,false,false] [])::kk)) cs) w:=by
 obtain⟨i,a,b,e⟩:=cQ (md:=.any) (ops:=ak) (fuel:=1) (t:=t) (listed:= #[true,true,true,true,true,true,true,false,false]) (rs:= [7]) (by kernel_rfl) (by simp);rw[e];rw[ag.1 a];refine LoneTo.goes (n:=1) ?_;simp only[ak,Tryz.f39];s_op
 s_stop
 exact c b
theorem Bv(f:w.cell? ⟨pb,0,none⟩=some (.chan (some cb)))(d:w.cell? ⟨tb,1,none⟩=some (.int .i64 id))(c:∀t,LoneTo Tryz.prog Q (G ((base 39).at ⟨#[.pointer (some ⟨pb,0,none⟩),.pointer (some ⟨tb,0,none⟩),u2,u3,u4,u5,u6,u7,u8,u9,u10,u11,u12,u13,u14,u15,u16,u17,u18,u19,u20,u21,u22,.pointer (some ⟨pb,0,none⟩),.pointer (some ⟨pb,0,none⟩),.pointer (some ⟨pb,0,none⟩),.chan (some cb),.pointer (some ⟨tb,0,none⟩),.pointer (some ⟨tb,0,none⟩),.pointer (some ⟨tb,1,none⟩),.int .i64 id],[]⟩ (.inRegion ak (Region.linearise.go .any ak 1 t #[true,true,true,true,true,true,true,true,false] [])::kk)) cs) w)(t:Nat):LoneTo Tryz.prog Q (G ((base 39).at ⟨#[.pointer (some ⟨pb,0,none⟩),.pointer (some ⟨tb,0,none⟩),u2,u3,u4,u5,u6,u7,u8,u9,u10,u11,u12,u13,u14,u15,u16,u17,u18,u19,u20,u21,u22,.pointer (some ⟨pb,0,none⟩),.pointer (some ⟨pb,0,none⟩),.pointer (some ⟨pb,0,none⟩),undef,.pointer (some ⟨tb,0,none⟩),.pointer (some ⟨tb,0,none⟩),.pointer (some ⟨tb,1,none⟩),.int .i64 id],[]⟩ (.inRegion ak (Region.linearise.go .any ak 2 t #[true,true,true,false,true,true,true,true,false] [])::kk)) cs) w:=by
 obtain⟨i,a,b,e⟩:=cQ (md:=.any) (ops:=ak) (fuel:=1) (t:=t) (listed:= #[true,true,true,false,true,true,true,true,false]) (rs:= [3]) (by kernel_rfl) (by simp);rw[e];rw[ag.1 a];refine LoneTo.goes (n:=1) ?_;simp only[ak,Tryz.f39];s_op
 s_stop
 exact c b
theorem Bt(b:w.cell? ⟨pb,0,none⟩=some (.chan (some cb)))(a:w.cell? ⟨tb,1,none⟩=some (.int .i64 id))(f:∀t,LoneTo Tryz.prog Q (G ((base 39).at ⟨#[.pointer (some ⟨pb,0,none⟩),.pointer (some ⟨tb,0,none⟩),u2,u3,u4,u5,u6,u7,u8,u9,u10,u11,u12,u13,u14,u15,u16,u17,u18,u19,u20,u21,u22,.pointer (some ⟨pb,0,none⟩),.pointer (some ⟨pb,0,none⟩),.pointer (some ⟨pb,0,none⟩),.chan (some cb),.pointer (some ⟨tb,0,none⟩),.pointer (some ⟨tb,0,none⟩),.pointer (some ⟨tb,1,none⟩),.int .i64 id],[]⟩ (.inRegion ak (Region.linearise.go .any ak 1 t #[true,true,true,true,true,true,true,true,false] [])::kk)) cs) w)(t:Nat):LoneTo Tryz.prog Q (G ((base 39).at ⟨#[.pointer (some ⟨pb,0,none⟩),.pointer (some ⟨tb,0,none⟩),u2,u3,u4,u5,u6,u7,u8,u9,u10,u11,u12,u13,u14,u15,u16,u17,u18,u19,u20,u21,u22,.pointer (some ⟨pb,0,none⟩),.pointer (some ⟨pb,0,none⟩),.pointer (some ⟨pb,0,none⟩),.chan (some cb),.pointer (some ⟨tb,0,none⟩),.pointer (some ⟨tb,0,none⟩),undef,undef],[]⟩ (.inRegion ak (Region.linearise.go .any ak 3 t #[true,true,true,true,true,true,false,false,false] [])::kk)) cs) w:=by
 obtain⟨i,c,d,e⟩:=cQ (md:=.any) (ops:=ak) (fuel:=2) (t:=t) (listed:= #[true,true,true,true,true,true,false,false,false]) (rs:= [6]) (by kernel_rfl) (by simp);rw[e];rw[ag.1 c];refine LoneTo.goes (n:=1) ?_;simp only[ak,Tryz.f39];s_op
 s_stop
 exact Bs b a f d
theorem Bw(c:w.cell? ⟨pb,0,none⟩=some (.chan (some cb)))(b:w.cell? ⟨tb,1,none⟩=some (.int .i64 id))(f:∀t,LoneTo Tryz.prog Q (G ((base 39).at ⟨#[.pointer (some ⟨pb,0,none⟩),.pointer (some ⟨tb,0,none⟩),u2,u3,u4,u5,u6,u7,u8,u9,u10,u11,u12,u13,u14,u15,u16,u17,u18,u19,u20,u21,u22,.pointer (some ⟨pb,0,none⟩),.pointer (some ⟨pb,0,none⟩),.pointer (some ⟨pb,0,none⟩),.chan (some cb),.pointer (some ⟨tb,0,none⟩),.pointer (some ⟨tb,0,none⟩),.pointer (some ⟨tb,1,none⟩),.int .i64 id],[]⟩ (.inRegion ak (Region.linearise.go .any ak 1 t #[true,true,true,true,true,true,true,true,false] [])::kk)) cs) w)(t:Nat):LoneTo Tryz.prog Q (G ((base 39).at ⟨#[.pointer (some ⟨pb,0,none⟩),.pointer (some ⟨tb,0,none⟩),u2,u3,u4,u5,u6,u7,u8,u9,u10,u11,u12,u13,u14,u15,u16,u17,u18,u19,u20,u21,u22,.pointer (some ⟨pb,0,none⟩),.pointer (some ⟨pb,0,none⟩),.pointer (some ⟨pb,0,none⟩),undef,.pointer (some ⟨tb,0,none⟩),.pointer (some ⟨tb,0,none⟩),.pointer (some ⟨tb,1,none⟩),undef],[]⟩ (.inRegion ak (Region.linearise.go .any ak 3 t #[true,true,true,false,true,true,true,false,false] [])::kk)) cs) w:=by
 obtain⟨i,a,d,e⟩:=cQ (md:=.any) (ops:=ak) (fuel:=2) (t:=t) (listed:= #[true,true,true,false,true,true,true,false,false]) (rs:= [3,7]) (by kernel_rfl) (by simp);rw[e];rcases ai.1 a with rfl|a
 ·skip
  refine LoneTo.goes (n:=1) ?_;simp only[ak,Tryz.f39];s_op
  s_stop
  exact Bs c b f d
 ·rw[ag.1 a]
  refine LoneTo.goes (n:=1) ?_;simp only[ak,Tryz.f39];s_op
  s_stop
  exact Bv c b f d
theorem BA(b:w.cell? ⟨pb,0,none⟩=some (.chan (some cb)))(a:w.cell? ⟨tb,1,none⟩=some (.int .i64 id))(f:∀t,LoneTo Tryz.prog Q (G ((base 39).at ⟨#[.pointer (some ⟨pb,0,none⟩),.pointer (some ⟨tb,0,none⟩),u2,u3,u4,u5,u6,u7,u8,u9,u10,u11,u12,u13,u14,u15,u16,u17,u18,u19,u20,u21,u22,.pointer (some ⟨pb,0,none⟩),.pointer (some ⟨pb,0,none⟩),.pointer (some ⟨pb,0,none⟩),.chan (some cb),.pointer (some ⟨tb,0,none⟩),.pointer (some ⟨tb,0,none⟩),.pointer (some ⟨tb,1,none⟩),.int .i64 id],[]⟩ (.inRegion ak (Region.linearise.go .any ak 1 t #[true,true,true,true,true,true,true,true,false] [])::kk)) cs) w)(t:Nat):LoneTo Tryz.prog Q (G ((base 39).at ⟨#[.pointer (some ⟨pb,0,none⟩),.pointer (some ⟨tb,0,none⟩),u2,u3,u4,u5,u6,u7,u8,u9,u10,u11,u12,u13,u14,u15,u16,u17,u18,u19,u20,u21,u22,.pointer (some ⟨pb,0,none⟩),.pointer (some ⟨pb,0,none⟩),undef,undef,.pointer (some ⟨tb,0,none⟩),.pointer (some ⟨tb,0,none⟩),.pointer (some ⟨tb,1,none⟩),.int .i64 id],[]⟩ (.inRegion ak (Region.linearise.go .any ak 3 t #[true,true,false,false,true,true,true,true,false] [])::kk)) cs) w:=by
 obtain⟨i,c,d,e⟩:=cQ (md:=.any) (ops:=ak) (fuel:=2) (t:=t) (listed:= #[true,true,false,false,true,true,true,true,false]) (rs:= [2]) (by kernel_rfl) (by simp);rw[e];rw[ag.1 c];refine LoneTo.goes (n:=1) ?_;simp only[ak,Tryz.f39];s_op
 s_stop
 exact Bv b a f d
theorem Bu(b:w.cell? ⟨pb,0,none⟩=some (.chan (some cb)))(a:w.cell? ⟨tb,1,none⟩=some (.int .i64 id))(f:∀t,LoneTo Tryz.prog Q (G ((base 39).at ⟨#[.pointer (some ⟨pb,0,none⟩),.pointer (some ⟨tb,0,none⟩),u2,u3,u4,u5,u6,u7,u8,u9,u10,u11,u12,u13,u14,u15,u16,u17,u18,u19,u20,u21,u22,.pointer (some ⟨pb,0,none⟩),.pointer (some ⟨pb,0,none⟩),.pointer (some ⟨pb,0,none⟩),.chan (some cb),.pointer (some ⟨tb,0,none⟩),.pointer (some ⟨tb,0,none⟩),.pointer (some ⟨tb,1,none⟩),.int .i64 id],[]⟩ (.inRegion ak (Region.linearise.go .any ak 1 t #[true,true,true,true,true,true,true,true,false] [])::kk)) cs) w)(t:Nat):LoneTo Tryz.prog Q (G ((base 39).at ⟨#[.pointer (some ⟨pb,0,none⟩),.pointer (some ⟨tb,0,none⟩),u2,u3,u4,u5,u6,u7,u8,u9,u10,u11,u12,u13,u14,u15,u16,u17,u18,u19,u20,u21,u22,.pointer (some ⟨pb,0,none⟩),.pointer (some ⟨pb,0,none⟩),.pointer (some ⟨pb,0,none⟩),.chan (some cb),.pointer (some ⟨tb,0,none⟩),undef,undef,undef],[]⟩ (.inRegion ak (Region.linearise.go .any ak 4 t #[true,true,true,true,true,false,false,false,false] [])::kk)) cs) w:=by
 obtain⟨i,c,d,e⟩:=cQ (md:=.any) (ops:=ak) (fuel:=3) (t:=t) (listed:= #[true,true,true,true,true,false,false,false,false]) (rs:= [5]) (by kernel_rfl) (by simp);rw[e];rw[ag.1 c];refine LoneTo.goes (n:=1) ?_;simp only[ak,Tryz.f39];s_op
 s_stop
 exact Bt b a f d
theorem Bx(c:w.cell? ⟨pb,0,none⟩=some (.chan (some cb)))(b:w.cell? ⟨tb,1,none⟩=some (.int .i64 id))(f:∀t,LoneTo Tryz.prog Q (G ((base 39).at ⟨#[.pointer (some ⟨pb,0,none⟩),.pointer (some ⟨tb,0,none⟩),u2,u3,u4,u5,u6,u7,u8,u9,u10,u11,u12,u13,u14,u15,u16,u17,u18,u19,u20,u21,u22,.pointer (some ⟨pb,0,none⟩),.pointer (some ⟨pb,0,none⟩),.pointer (some ⟨pb,0,none⟩),.chan (some cb),.pointer (some ⟨tb,0,none⟩),.pointer (some ⟨tb,0,none⟩),.pointer (some ⟨tb,1,none⟩),.int .i64 id],[]⟩ (.inRegion ak (Region.linearise.go .any ak 1 t #[true,true,true,true,true,true,true,true,false] [])::kk)) cs) w)(t:Nat):LoneTo Tryz.prog Q (G ((base 39).at ⟨#[.pointer (some ⟨pb,0,none⟩),.pointer (some ⟨tb,0,none⟩),u2,u3,u4,u5,u6,u7,u8,u9,u10,u11,u12,u13,u14,u15,u16,u17,u18,u19,u20,u21,u22,.pointer (some ⟨pb,0,none⟩),.pointer (some ⟨pb,0,none⟩),.pointer (some ⟨pb,0,none⟩),undef,.pointer (some ⟨tb,0,none⟩),.pointer (some ⟨tb,0,none⟩),undef,undef],[]⟩ (.inRegion ak (Region.linearise.go .any ak 4 t #[true,true,true,false,true,true,false,false,false] [])::kk)) cs) w:=by
 obtain⟨i,a,d,e⟩:=cQ (md:=.any) (ops:=ak) (fuel:=3) (t:=t) (listed:= #[true,true,true,false,true,true,false,false,false]) (rs:= [3,6]) (by kernel_rfl) (by simp);rw[e];rcases ai.1 a with rfl|a
 ·skip
  refine LoneTo.goes (n:=1) ?_;simp only[ak,Tryz.f39];s_op
  s_stop
  exact Bt c b f d
 ·rw[ag.1 a]
  refine LoneTo.goes (n:=1) ?_;simp only[ak,Tryz.f39];s_op
  s_stop
  exact Bw c b f d
theorem BB(c:w.cell? ⟨pb,0,none⟩=some (.chan (some cb)))(b:w.cell? ⟨tb,1,none⟩=some (.int .i64 id))(f:∀t,LoneTo Tryz.prog Q (G ((base 39).at ⟨#[.pointer (some ⟨pb,0,none⟩),.pointer (some ⟨tb,0,none⟩),u2,u3,u4,u5,u6,u7,u8,u9,u10,u11,u12,u13,u14,u15,u16,u17,u18,u19,u20,u21,u22,.pointer (some ⟨pb,0,none⟩),.pointer (some ⟨pb,0,none⟩),.pointer (some ⟨pb,0,none⟩),.chan (some cb),.pointer (some ⟨tb,0,none⟩),.pointer (some ⟨tb,0,none⟩),.pointer (some ⟨tb,1,none⟩),.int .i64 id],[]⟩ (.inRegion ak (Region.linearise.go .any ak 1 t #[true,true,true,true,true,true,true,true,false] [])::kk)) cs) w)(t:Nat):LoneTo Tryz.prog Q (G ((base 39).at ⟨#[.pointer (some ⟨pb,0,none⟩),.pointer (some ⟨tb,0,none⟩),u2,u3,u4,u5,u6,u7,u8,u9,u10,u11,u12,u13,u14,u15,u16,u17,u18,u19,u20,u21,u22,.pointer (some ⟨pb,0,none⟩),.pointer (some ⟨pb,0,none⟩),undef,undef,.pointer (some ⟨tb,0,none⟩),.pointer (some ⟨tb,0,none⟩),.pointer (some ⟨tb,1,none⟩),undef],[]⟩ (.inRegion ak (Region.linearise.go .any ak 4 t #[true,true,false,false,true,true,true,false,false] [])::kk)) cs) w:=by
 obtain⟨i,a,d,e⟩:=cQ (md:=.any) (ops:=ak) (fuel:=3) (t:=t) (listed:= #[true,true,false,false,true,true,true,false,false]) (rs:= [2,7]) (by kernel_rfl) (by simp);rw[e];rcases ai.1 a with rfl|a
 ·skip
  refine LoneTo.goes (n:=1) ?_;simp only[ak,Tryz.f39];s_op
  s_stop
  exact Bw c b f d
 ·rw[ag.1 a]
  refine LoneTo.goes (n:=1) ?_;simp only[ak,Tryz.f39];s_op
  s_stop
  exact BA c b f d
theorem BE(b:w.cell? ⟨pb,0,none⟩=some (.chan (some cb)))(a:w.cell? ⟨tb,1,none⟩=some (.int .i64 id))(f:∀t,LoneTo Tryz.prog Q (G ((base 39).at ⟨#[.pointer (some ⟨pb,0,none⟩),.pointer (some ⟨tb,0,none⟩),u2,u3,u4,u5,u6,u7,u8,u9,u10,u11,u12,u13,u14,u15,u16,u17,u18,u19,u20,u21,u22,.pointer (some ⟨pb,0,none⟩),.pointer (some ⟨pb,0,none⟩),.pointer (some ⟨pb,0,none⟩),.chan (some cb),.pointer (some ⟨tb,0,none⟩),.pointer (some ⟨tb,0,none⟩),.pointer (some ⟨tb,1,none⟩),.int .i64 id],[]⟩ (.inRegion ak (Region.linearise.go .any ak 1 t #[true,true,true,true,true,true,true,true,false] [])::kk)) cs) w)(t:Nat):LoneTo Tryz.prog Q (G ((base 39).at ⟨#[.pointer (some ⟨pb,0,none⟩),.pointer (some ⟨tb,0,none⟩),u2,u3,u4,u5,u6,u7,u8,u9,u10,u11,u12,u13,u14,u15,u16,u17,u18,u19,u20,u21,u22,.pointer (some ⟨pb,0,none⟩),undef,undef,undef,.pointer (some ⟨tb,0,none⟩),.pointer (some ⟨tb,0,none⟩),.pointer (some ⟨tb,1,none⟩),.int .i64 id],[]⟩ (.inRegion ak (Region.linearise.go .any ak 4 t #[true,false,false,false,true,true,true,true,false] [])::kk)) cs) w:=by
 obtain⟨i,c,d,e⟩:=cQ (md:=.any) (ops:=ak) (fuel:=3) (t:=t) (listed:= #[true,false,false,false,true,true,true,true,false]) (rs:= [1]) (by kernel_rfl) (by simp);rw[e];rw[ag.1 c];refine LoneTo.goes (n:=1) ?_;simp only[ak,Tryz.f39];s_op
 s_stop
 exact BA b a f d
theorem DB(b:w.cell? ⟨pb,0,none⟩=some (.chan (some cb)))(a:w.cell? ⟨tb,1,none⟩=some (.int .i64 id))(f:∀t,LoneTo Tryz.prog Q (G ((base 39).at ⟨#[.pointer (some ⟨pb,0,none⟩),.pointer (some ⟨tb,0,none⟩),u2,u3,u4,u5,u6,u7,u8,u9,u10,u11,u12,u13,u14,u15,u16,u17,u18,u19,u20,u21,u22,.pointer (some ⟨pb,0,none⟩),.pointer (some ⟨pb,0,none⟩),.pointer (some ⟨pb,0,none⟩),.chan (some cb),.pointer (some ⟨tb,0,none⟩),.pointer (some ⟨tb,0,none⟩),.pointer (some ⟨tb,1,none⟩),.int .i64 id],[]⟩ (.inRegion ak (Region.linearise.go .any ak 1 t #[true,true,true,true,true,true,true,true,false] [])::kk)) cs) w)(t:Nat):LoneTo Tryz.prog Q (G ((base 39).at ⟨#[.pointer (some ⟨pb,0,none⟩),.pointer (some ⟨tb,0,none⟩),u2,u3,u4,u5,u6,u7,u8,u9,u10,u11,u12,u13,u14,u15,u16,u17,u18,u19,u20,u21,u22,.pointer (some ⟨pb,0,none⟩),.pointer (some ⟨pb,0,none⟩),.pointer (some ⟨pb,0,none⟩),.chan (some cb),undef,undef,undef,undef],[]⟩ (.inRegion ak (Region.linearise.go .any ak 5 t #[true,true,true,true,false,false,false,false,false] [])::kk)) cs) w:=by
 obtain⟨i,c,d,e⟩:=cQ (md:=.any) (ops:=ak) (fuel:=4) (t:=t) (listed:= #[true,true,true,true,false,false,false,false,false]) (rs:= [4]) (by kernel_rfl) (by simp);rw[e];rw[ag.1 c];refine LoneTo.goes (n:=1) ?_;simp only[ak,Tryz.f39];s_op
 s_stop
 exact Bu b a f d
theorem Bz(c:w.cell? ⟨pb,0,none⟩=some (.chan (some cb)))(b:w.cell? ⟨tb,1,none⟩=some (.int .i64 id))(f:∀t,LoneTo Tryz.prog Q (G ((base 39).at ⟨#[.pointer (some ⟨pb,0,none⟩),.pointer (some ⟨tb,0,none⟩),u2,u3,u4,u5,u6,u7,u8,u9,u10,u11,u12,u13,u14,u15,u16,u17,u18,u19,u20,u21,u22,.pointer (some ⟨pb,0,none⟩),.pointer (some ⟨pb,0,none⟩),.pointer (some ⟨pb,0,none⟩),.chan (some cb),.pointer (some ⟨tb,0,none⟩),.pointer (some ⟨tb,0,none⟩),.pointer (some ⟨tb,1,none⟩),.int .i64 id],[]⟩ (.inRegion ak (Region.linearise.go .any ak 1 t #[true,true,true,true,true,true,true,true,false] [])::kk)) cs) w)(t:Nat):LoneTo Tryz.prog Q (G ((base 39).at ⟨#[.pointer (some ⟨pb,0,none⟩),.pointer (some ⟨tb,0,none⟩),u2,u3,u4,u5,u6,u7,u8,u9,u10,u11,u12,u13,u14,u15,u16,u17,u18,u19,u20,u21,u22,.pointer (some ⟨pb,0,none⟩),.pointer (some ⟨pb,0,none⟩),.pointer (some ⟨pb,0,none⟩),undef,.pointer (some ⟨tb,0,none⟩),undef,undef,undef],[]⟩ (.inRegion ak (Region.linearise.go .any ak 5 t #[true,true,true,false,true,false,false,false,false] [])::kk)) cs) w:=by
 obtain⟨i,a,d,e⟩:=cQ (md:=.any) (ops:=ak) (fuel:=4) (t:=t) (listed:= #[true,true,true,false,true,false,false,false,false]) (rs:= [3,5]) (by kernel_rfl) (by simp);rw[e];rcases ai.1 a with rfl|a
 ·skip
  refine LoneTo.goes (n:=1) ?_;simp only[ak,Tryz.f39];s_op
  s_stop
  exact Bu c b f d
 ·rw[ag.1 a]
  refine LoneTo.goes (n:=1) ?_;simp only[ak,Tryz.f39];s_op
  s_stop
  exact Bx c b f d
theorem BC(c:w.cell? ⟨pb,0,none⟩=some (.chan (some cb)))(b:w.cell? ⟨tb,1,none⟩=some (.int .i64 id))(f:∀t,LoneTo Tryz.prog Q (G ((base 39).at ⟨#[.pointer (some ⟨pb,0,none⟩),.pointer (some ⟨tb,0,none⟩),u2,u3,u4,u5,u6,u7,u8,u9,u10,u11,u12,u13,u14,u15,u16,u17,u18,u19,u20,u21,u22,.pointer (some ⟨pb,0,none⟩),.pointer (some ⟨pb,0,none⟩),.pointer (some ⟨pb,0,none⟩),.chan (some cb),.pointer (some ⟨tb,0,none⟩),.pointer (some ⟨tb,0,none⟩),.pointer (some ⟨tb,1,none⟩),.int .i64 id],[]⟩ (.inRegion ak (Region.linearise.go .any ak 1 t #[true,true,true,true,true,true,true,true,false] [])::kk)) cs) w)(t:Nat):LoneTo Tryz.prog Q (G ((base 39).at ⟨#[.pointer (some ⟨pb,0,none⟩),.pointer (some ⟨tb,0,none⟩),u2,u3,u4,u5,u6,u7,u8,u9,u10,u11,u12,u13,u14,u15,u16,u17,u18,u19,u20,u21,u22,.pointer (some ⟨pb,0,none⟩),.pointer (some ⟨pb,0,none⟩),undef,undef,.pointer (some ⟨tb,0,none⟩),.pointer (some ⟨tb,0,none⟩),undef,undef],[]⟩ (.inRegion ak (Region.linearise.go .any ak 5 t #[true,true,false,false,true,true,false,false,false] [])::kk)) cs) w:=by
 obtain⟨i,a,d,e⟩:=cQ (md:=.any) (ops:=ak) (fuel:=4) (t:=t) (listed:= #[true,true,false,false,true,true,false,false,false]) (rs:= [2,6]) (by kernel_rfl) (by simp);rw[e];rcases ai.1 a with rfl|a
 ·skip
  refine LoneTo.goes (n:=1) ?_;simp only[ak,Tryz.f39];s_op
  s_stop
  exact Bx c b f d
 ·rw[ag.1 a]
  refine LoneTo.goes (n:=1) ?_;simp only[ak,Tryz.f39];s_op
  s_stop
  exact BB c b f d
theorem BF(c:w.cell? ⟨pb,0,none⟩=some (.chan (some cb)))(b:w.cell? ⟨tb,1,none⟩=some (.int .i64 id))(f:∀t,LoneTo Tryz.prog Q (G ((base 39).at ⟨#[.pointer (some ⟨pb,0,none⟩),.pointer (some ⟨tb,0,none⟩),u2,u3,u4,u5,u6,u7,u8,u9,u10,u11,u12,u13,u14,u15,u16,u17,u18,u19,u20,u21,u22,.pointer (some ⟨pb,0,none⟩),.pointer (some ⟨pb,0,none⟩),.pointer (some ⟨pb,0,none⟩),.chan (some cb),.pointer (some ⟨tb,0,none⟩),.pointer (some ⟨tb,0,none⟩),.pointer (some ⟨tb,1,none⟩),.int .i64 id],[]⟩ (.inRegion ak (Region.linearise.go .any ak 1 t #[true,true,true,true,true,true,true,true,false] [])::kk)) cs) w)(t:Nat):LoneTo Tryz.prog Q (G ((base 39).at ⟨#[.pointer (some ⟨pb,0,none⟩),.pointer (some ⟨tb,0,none⟩),u2,u3,u4,u5,u6,u7,u8,u9,u10,u11,u12,u13,u14,u15,u16,u17,u18,u19,u20,u21,u22,.pointer (some ⟨pb,0,none⟩),undef,undef,undef,.pointer (some ⟨tb,0,none⟩),.pointer (some ⟨tb,0,none⟩),.pointer (some ⟨tb,1,none⟩),undef],[]⟩ (.inRegion ak (Region.linearise.go .any ak 5 t #[true,false,false,false,true,true,true,false,false] [])::kk)) cs) w:=by
 obtain⟨i,a,d,e⟩:=cQ (md:=.any) (ops:=ak) (fuel:=4) (t:=t) (listed:= #[true,false,false,false,true,true,true,false,false]) (rs:= [1,7]) (by kernel_rfl) (by simp);rw[e];rcases ai.1 a with rfl|a
 ·skip
  refine LoneTo.goes (n:=1) ?_;simp only[ak,Tryz.f39];s_op
  s_stop
  exact BB c b f d
 ·rw[ag.1 a]
  refine LoneTo.goes (n:=1) ?_;simp only[ak,Tryz.f39];s_op
  s_stop
  exact BE c b f d
theorem DF(b:w.cell? ⟨pb,0,none⟩=some (.chan (some cb)))(a:w.cell? ⟨tb,1,none⟩=some (.int .i64 id))(f:∀t,LoneTo Tryz.prog Q (G ((base 39).at ⟨#[.pointer (some ⟨pb,0,none⟩),.pointer (some ⟨tb,0,none⟩),u2,u3,u4,u5,u6,u7,u8,u9,u10,u11,u12,u13,u14,u15,u16,u17,u18,u19,u20,u21,u22,.pointer (some ⟨pb,0,none⟩),.pointer (some ⟨pb,0,none⟩),.pointer (some ⟨pb,0,none⟩),.chan (some cb),.pointer (some ⟨tb,0,none⟩),.pointer (some ⟨tb,0,none⟩),.pointer (some ⟨tb,1,none⟩),.int .i64 id],[]⟩ (.inRegion ak (Region.linearise.go .any ak 1 t #[true,true,true,true,true,true,true,true,false] [])::kk)) cs) w)(t:Nat):LoneTo Tryz.prog Q (G ((base 39).at ⟨#[.pointer (some ⟨pb,0,none⟩),.pointer (some ⟨tb,0,none⟩),u2,u3,u4,u5,u6,u7,u8,u9,u10,u11,u12,u13,u14,u15,u16,u17,u18,u19,u20,u21,u22,undef,undef,undef,undef,.pointer (some ⟨tb,0,none⟩),.pointer (some ⟨tb,0,none⟩),.pointer (some ⟨tb,1,none⟩),.int .i64 id],[]⟩ (.inRegion ak (Region.linearise.go .any ak 5 t #[false,false,false,false,true,true,true,true,false] [])::kk)) cs) w:=by
 obtain⟨i,c,d,e⟩:=cQ (md:=.any) (ops:=ak) (fuel:=4) (t:=t) (listed:= #[false,false,false,false,true,true,true,true,false]) (rs:= [0]) (by kernel_rfl) (by simp);rw[e];rw[ag.1 c];refine LoneTo.goes (n:=1) ?_;simp only[ak,Tryz.f39];s_op
 s_stop
 exact BE b a f d
theorem DC(c:w.cell? ⟨pb,0,none⟩=some (.chan (some cb)))(b:w.cell? ⟨tb,1,none⟩=some (.int .i64 id))(f:∀t,LoneTo Tryz.prog Q (G ((base 39).at ⟨#[.pointer (some ⟨pb,0,none⟩),.pointer (some ⟨tb,0,none⟩),u2,u3,u4,u5,u6,u7,u8,u9,u10,u11,u12,u13,u14,u15,u16,u17,u18,u19,u20,u21,u22,.pointer (some ⟨pb,0,none⟩),.pointer (some ⟨pb,0,none⟩),.pointer (some ⟨pb,0,none⟩),.chan (some cb),.pointer (some ⟨tb,0,none⟩),.pointer (some ⟨tb,0,none⟩),.pointer (some ⟨tb,1,none⟩),.int .i64 id],[]⟩ (.inRegion ak (Region.linearise.go .any ak 1 t #[true,true,true,true,true,true,true,true,false] [])::kk)) cs) w)(t:Nat):LoneTo Tryz.prog Q (G ((base 39).at ⟨#[.pointer (some ⟨pb,0,none⟩),.pointer (some ⟨tb,0,none⟩),u2,u3,u4,u5,u6,u7,u8,u9,u10,u11,u12,u13,u14,u15,u16,u17,u18,u19,u20,u21,u22,.pointer (some ⟨pb,0,none⟩),.pointer (some ⟨pb,0,none⟩),.pointer (some ⟨pb,0,none⟩),undef,undef,undef,undef,undef],[]⟩ (.inRegion ak (Region.linearise.go .any ak 6 t #[true,true,true,false,false,false,false,false,false] [])::kk)) cs) w:=by
 obtain⟨i,a,d,e⟩:=cQ (md:=.any) (ops:=ak) (fuel:=5) (t:=t) (listed:= #[true,true,true,false,false,false,false,false,false]) (rs:= [3,4]) (by kernel_rfl) (by simp);rw[e];rcases ai.1 a with rfl|a
 ·skip
  refine LoneTo.goes (n:=1) ?_;simp only[ak,Tryz.f39];s_op
  s_stop
  exact DB c b f d
 ·rw[ag.1 a]
  refine LoneTo.goes (n:=1) ?_;simp only[ak,Tryz.f39];s_op
  s_stop
  exact Bz c b f d
theorem BD(c:w.cell? ⟨pb,0,none⟩=some (.chan (some cb)))(b:w.cell? ⟨tb,1,none⟩=some (.int .i64 id))(f:∀t,LoneTo Tryz.prog Q (G ((base 39).at ⟨#[.pointer (some ⟨pb,0,none⟩),.pointer (some ⟨tb,0,none⟩),u2,u3,u4,u5,u6,u7,u8,u9,u10,u11,u12,u13,u14,u15,u16,u17,u18,u19,u20,u21,u22,.pointer (some ⟨pb,0,none⟩),.pointer (some ⟨pb,0,none⟩),.pointer (some ⟨pb,0,none⟩),.chan (some cb),.pointer (some ⟨tb,0,none⟩),.pointer (some ⟨tb,0,none⟩),.pointer (some ⟨tb,1,none⟩),.int .i64 id],[]⟩ (.inRegion ak (Region.linearise.go .any ak 1 t #[true,true,true,true,true,true,true,true,false] [])::kk)) cs) w)(t:Nat):LoneTo Tryz.prog Q (G ((base 39).at ⟨#[.pointer (some ⟨pb,0,none⟩),.pointer (some ⟨tb,0,none⟩),u2,u3,u4,u5,u6,u7,u8,u9,u10,u11,u12,u13,u14,u15,u16,u17,u18,u19,u20,u21,u22,.pointer (some ⟨pb,0,none⟩),.pointer (some ⟨pb,0,none⟩),undef,undef,.pointer (some ⟨tb,0,none⟩),undef,undef,undef],[]⟩ (.inRegion ak (Region.linearise.go .any ak 6 t #[true,true,false,false,true,false,false,false,false] [])::kk)) cs) w:=by
 obtain⟨i,a,d,e⟩:=cQ (md:=.any) (ops:=ak) (fuel:=5) (t:=t) (listed:= #[true,true,false,false,true,false,false,false,false]) (rs:= [2,5]) (by kernel_rfl) (by simp);rw[e];rcases ai.1 a with rfl|a
 ·skip
  refine LoneTo.goes (n:=1) ?_;simp only[ak,Tryz.f39];s_op
  s_stop
  exact Bz c b f d
 ·rw[ag.1 a]
  refine LoneTo.goes (n:=1) ?_;simp only[ak,Tryz.f39];s_op
  s_stop
  exact BC c b f d
theorem BG(c:w.cell? ⟨pb,0,none⟩=some (.chan (some cb)))(b:w.cell? ⟨tb,1,none⟩=some (.int .i64 id))(f:∀t,LoneTo Tryz.prog Q (G ((base 39).at ⟨#[.pointer (some ⟨pb,0,none⟩),.pointer (some ⟨tb,0,none⟩),u2,u3,u4,u5,u6,u7,u8,u9,u10,u11,u12,u13,u14,u15,u16,u17,u18,u19,u20,u21,u22,.pointer (some ⟨pb,0,none⟩),.pointer (some ⟨pb,0,none⟩),.pointer (some ⟨pb,0,none⟩),.chan (some cb),.pointer (some ⟨tb,0,none⟩),.pointer (some ⟨tb,0,none⟩),.pointer (some ⟨tb,1,none⟩),.int .i64 id],[]⟩ (.inRegion ak (Region.linearise.go .any ak 1 t #[true,true,true,true,true,true,true,true,false] [])::kk)) cs) w)(t:Nat):LoneTo Tryz.prog Q (G ((base 39).at ⟨#[.pointer (some ⟨pb,0,none⟩),.pointer (some ⟨tb,0,none⟩),u2,u3,u4,u5,u6,u7,u8,u9,u10,u11,u12,u13,u14,u15,u16,u17,u18,u19,u20,u21,u22,.pointer (some ⟨pb,0,none⟩),undef,undef,undef,.pointer (some ⟨tb,0,none⟩),.pointer (some ⟨tb,0,none⟩),undef,undef],[]⟩ (.inRegion ak (Region.linearise.go .any ak 6 t #[true,false,false,false,true,true,false,false,false] [])::kk)) cs) w:=by
 obtain⟨i,a,d,e⟩:=cQ (md:=.any) (ops:=ak) (fuel:=5) (t:=t) (listed:= #[true,false,false,false,true,true,false,false,false]) (rs:= [1,6]) (by kernel_rfl) (by simp);rw[e];rcases ai.1 a with rfl|a
 ·skip
  refine LoneTo.goes (n:=1) ?_;simp only[ak,Tryz.f39];s_op
  s_stop
  exact BC c b f d
 ·rw[ag.1 a]
  refine LoneTo.goes (n:=1) ?_;simp only[ak,Tryz.f39];s_op
  s_stop
  exact BF c b f d
theorem DG(c:w.cell? ⟨pb,0,none⟩=some (.chan (some cb)))(b:w.cell? ⟨tb,1,none⟩=some (.int .i64 id))(f:∀t,LoneTo Tryz.prog Q (G ((base 39).at ⟨#[.pointer (some ⟨pb,0,none⟩),.pointer (some ⟨tb,0,none⟩),u2,u3,u4,u5,u6,u7,u8,u9,u10,u11,u12,u13,u14,u15,u16,u17,u18,u19,u20,u21,u22,.pointer (some ⟨pb,0,none⟩),.pointer (some ⟨pb,0,none⟩),.pointer (some ⟨pb,0,none⟩),.chan (some cb),.pointer (some ⟨tb,0,none⟩),.pointer (some ⟨tb,0,none⟩),.pointer (some ⟨tb,1,none⟩),.int .i64 id],[]⟩ (.inRegion ak (Region.linearise.go .any ak 1 t #[true,true,true,true,true,true,true,true,false] [])::kk)) cs) w)(t:Nat):LoneTo Tryz.prog Q (G ((base 39).at ⟨#[.pointer (some ⟨pb,0,none⟩),.pointer (some ⟨tb,0,none⟩),u2,u3,u4,u5,u6,u7,u8,u9,u10,u11,u12,u13,u14,u15,u16,u17,u18,u19,u20,u21,u22,undef,undef,undef,undef,.pointer (some ⟨tb,0,none⟩),.pointer (some ⟨tb,0,none⟩),.pointer (some ⟨tb,1,none⟩),undef],[]⟩ (.inRegion ak (Region.linearise.go .any ak 6 t #[false,false,false,false,true,true,true,false,false] [])::kk)) cs) w:=by
 obtain⟨i,a,d,e⟩:=cQ (md:=.any) (ops:=ak) (fuel:=5) (t:=t) (listed:= #[false,false,false,false,true,true,true,false,false]) (rs:= [0,7]) (by kernel_rfl) (by simp);rw[e];rcases ai.1 a with rfl|a
 ·skip
  refine LoneTo.goes (n:=1) ?_;simp only[ak,Tryz.f39];s_op
  s_stop
  exact BF c b f d
 ·rw[ag.1 a]
  refine LoneTo.goes (n:=1) ?_;simp only[ak,Tryz.f39];s_op
  s_stop
  exact DF c b f d
theorem DD(c:w.cell? ⟨pb,0,none⟩=some (.chan (some cb)))(b:w.cell? ⟨tb,1,none⟩=some (.int .i64 id))(f:∀t,LoneTo Tryz.prog Q (G ((base 39).at ⟨#[.pointer (some ⟨pb,0,none⟩),.pointer (some ⟨tb,0,none⟩),u2,u3,u4,u5,u6,u7,u8,u9,u10,u11,u12,u13,u14,u15,u16,u17,u18,u19,u20,u21,u22,.pointer (some ⟨pb,0,none⟩),.pointer (some ⟨pb,0,none⟩),.pointer (some ⟨pb,0,none⟩),.chan (some cb),.pointer (some ⟨tb,0,none⟩),.pointer (some ⟨tb,0,none⟩),.pointer (some ⟨tb,1,none⟩),.int .i64 id],[]⟩ (.inRegion ak (Region.linearise.go .any ak 1 t #[true,true,true,true,true,true,true,true,false] [])::kk)) cs) w)(t:Nat):LoneTo Tryz.prog Q (G ((base 39).at ⟨#[.pointer (some ⟨pb,0,none⟩),.pointer (some ⟨tb,0,none⟩),u2,u3,u4,u5,u6,u7,u8,u9,u10,u11,u12,u13,u14,u15,u16,u17,u18,u19,u20,u21,u22,.pointer (some ⟨pb,0,none⟩),.pointer (some ⟨pb,0,none⟩),undef,undef,undef,undef,undef,undef],[]⟩ (.inRegion ak (Region.linearise.go .any ak 7 t #[true,true,false,false,false,false,false,false,false] [])::kk)) cs) w:=by
 obtain⟨i,a,d,e⟩:=cQ (md:=.any) (ops:=ak) (fuel:=6) (t:=t) (listed:= #[true,true,false,false,false,false,false,false,false]) (rs:= [2,4]) (by kernel_rfl) (by simp);rw[e];rcases ai.1 a with rfl|a
 ·skip
  refine LoneTo.goes (n:=1) ?_;simp only[ak,Tryz.f39];s_op
  s_stop
  exact DC c b f d
 ·rw[ag.1 a]
  refine LoneTo.goes (n:=1) ?_;simp only[ak,Tryz.f39];s_op
  s_stop
  exact BD c b f d
theorem BH(c:w.cell? ⟨pb,0,none⟩=some (.chan (some cb)))(b:w.cell? ⟨tb,1,none⟩=some (.int .i64 id))(f:∀t,LoneTo Tryz.prog Q (G ((base 39).at ⟨#[.pointer (some ⟨pb,0,none⟩),.pointer (some ⟨tb,0,none⟩),u2,u3,u4,u5,u6,u7,u8,u9,u10,u11,u12,u13,u14,u15,u16,u17,u18,u19,u20,u21,u22,.pointer (some ⟨pb,0,none⟩),.pointer (some ⟨pb,0,none⟩),.pointer (some ⟨pb,0,none⟩),.chan (some cb),.pointer (some ⟨tb,0,none⟩),.pointer (some ⟨tb,0,none⟩),.pointer (some ⟨tb,1,none⟩),.int .i64 id],[]⟩ (.inRegion ak (Region.linearise.go .any ak 1 t #[true,true,true,true,true,true,true,true,false] [])::kk)) cs) w)(t:Nat):LoneTo Tryz.prog Q (G ((base 39).at ⟨#[.pointer (some ⟨pb,0,none⟩),.pointer (some ⟨tb,0,none⟩),u2,u3,u4,u5,u6,u7,u8,u9,u10,u11,u12,u13,u14,u15,u16,u17,u18,u19,u20,u21,u22,.pointer (some ⟨pb,0,none⟩),undef,undef,undef,.pointer (some ⟨tb,0,none⟩),undef,undef,undef],[]⟩ (.inRegion ak (Region.linearise.go .any ak 7 t #[true,false,false,false,true,false,false,false,false] [])::kk)) cs) w:=by
 obtain⟨i,a,d,e⟩:=cQ (md:=.any) (ops:=ak) (fuel:=6) (t:=t) (listed:= #[true,false,false,false,true,false,false,false,false]) (rs:= [1,5]) (by kernel_rfl) (by simp);rw[e];rcases ai.1 a with rfl|a
 ·skip
  refine LoneTo.goes (n:=1) ?_;simp only[ak,Tryz.f39];s_op
  s_stop
  exact BD c b f d
 ·rw[ag.1 a]
  refine LoneTo.goes (n:=1) ?_;simp only[ak,Tryz.f39];s_op
  s_stop
  exact BG c b f d
theorem DH(c:w.cell? ⟨pb,0,none⟩=some (.chan (some cb)))(b:w.cell? ⟨tb,1,none⟩=some (.int .i64 id))(f:∀t,LoneTo Tryz.prog Q (G ((base 39).at ⟨#[.pointer (some ⟨pb,0,none⟩),.pointer (some ⟨tb,0,none⟩),u2,u3,u4,u5,u6,u7,u8,u9,u10,u11,u12,u13,u14,u15,u16,u17,u18,u19,u20,u21,u22,.pointer (some ⟨pb,0,none⟩),.pointer (some ⟨pb,0,none⟩),.pointer (some ⟨pb,0,none⟩),.chan (some cb),.pointer (some ⟨tb,0,none⟩),.pointer (some ⟨tb,0,none⟩),.pointer (some ⟨tb,1,none⟩),.int .i64 id],[]⟩ (.inRegion ak (Region.linearise.go .any ak 1 t #[true,true,true,true,true,true,true,true,false] [])::kk)) cs) w)(t:Nat):LoneTo Tryz.prog Q (G ((base 39).at ⟨#[.pointer (some ⟨pb,0,none⟩),.pointer (some ⟨tb,0,none⟩),u2,u3,u4,u5,u6,u7,u8,u9,u10,u11,u12,u13,u14,u15,u16,u17,u18,u19,u20,u21,u22,undef,undef,undef,undef,.pointer (some ⟨tb,0,none⟩),.pointer (some ⟨tb,0,none⟩),undef,undef],[]⟩ (.inRegion ak (Region.linearise.go .any ak 7 t #[false,false,false,false,true,true,false,false,false] [])::kk)) cs) w:=by
 obtain⟨i,a,d,e⟩:=cQ (md:=.any) (ops:=ak) (fuel:=6) (t:=t) (listed:= #[false,false,false,false,true,true,false,false,false]) (rs:= [0,6]) (by kernel_rfl) (by simp);rw[e];rcases ai.1 a with rfl|a
 ·skip
  refine LoneTo.goes (n:=1) ?_;simp only[ak,Tryz.f39];s_op
  s_stop
  exact BG c b f d
 ·rw[ag.1 a]
  refine LoneTo.goes (n:=1) ?_;simp only[ak,Tryz.f39];s_op
  s_stop
  exact DG c b f d
theorem DE(c:w.cell? ⟨pb,0,none⟩=some (.chan (some cb)))(b:w.cell? ⟨tb,1,none⟩=some (.int .i64 id))(f:∀t,LoneTo Tryz.prog Q (G ((base 39).at ⟨#[.pointer (some ⟨pb,0,none⟩),.pointer (some ⟨tb,0,none⟩),u2,u3,u4,u5,u6,u7,u8,u9,u10,u11,u12,u13,u14,u15,u16,u17,u18,u19,u20,u21,u22,.pointer (some ⟨pb,0,none⟩),.pointer (some ⟨pb,0,none⟩),.pointer (some ⟨pb,0,none⟩),.chan (some cb),.pointer (some ⟨tb,0,none⟩),.pointer (some ⟨tb,0,none⟩),.pointer (some ⟨tb,1,none⟩),.int .i64 id],[]⟩ (.inRegion ak (Region.linearise.go .any ak 1 t #[true,true,true,true,true,true,true,true,false] [])::kk)) cs) w)(t:Nat):LoneTo Tryz.prog Q (G ((base 39).at ⟨#[.pointer (some ⟨pb,0,none⟩),.pointer (some ⟨tb,0,none⟩),u2,u3,u4,u5,u6,u7,u8,u9,u10,u11,u12,u13,u14,u15,u16,u17,u18,u19,u20,u21,u22,.pointer (some ⟨pb,0,none⟩),undef,undef,undef,undef,undef,undef,undef],[]⟩ (.inRegion ak (Region.linearise.go .any ak 8 t #[true,false,false,false,false,false,false,false,false] [])::kk)) cs) w:=by
 obtain⟨i,a,d,e⟩:=cQ (md:=.any) (ops:=ak) (fuel:=7) (t:=t) (listed:= #[true,false,false,false,false,false,false,false,false]) (rs:= [1,4]) (by kernel_rfl) (by simp);rw[e];rcases ai.1 a with rfl|a
 ·skip
  refine LoneTo.goes (n:=1) ?_;simp only[ak,Tryz.f39];s_op
  s_stop
  exact DD c b f d
 ·rw[ag.1 a]
  refine LoneTo.goes (n:=1) ?_;simp only[ak,Tryz.f39];s_op
  s_stop
  exact BH c b f d
theorem DI(c:w.cell? ⟨pb,0,none⟩=some (.chan (some cb)))(b:w.cell? ⟨tb,1,none⟩=some (.int .i64 id))(f:∀t,LoneTo Tryz.prog Q (G ((base 39).at ⟨#[.pointer (some ⟨pb,0,none⟩),.pointer (some ⟨tb,0,none⟩),u2,u3,u4,u5,u6,u7,u8,u9,u10,u11,u12,u13,u14,u15,u16,u17,u18,u19,u20,u21,u22,.pointer (some ⟨pb,0,none⟩),.pointer (some ⟨pb,0,none⟩),.pointer (some ⟨pb,0,none⟩),.chan (some cb),.pointer (some ⟨tb,0,none⟩),.pointer (some ⟨tb,0,none⟩),.pointer (some ⟨tb,1,none⟩),.int .i64 id],[]⟩ (.inRegion ak (Region.linearise.go .any ak 1 t #[true,true,true,true,true,true,true,true,false] [])::kk)) cs) w)(t:Nat):LoneTo Tryz.prog Q (G ((base 39).at ⟨#[.pointer (some ⟨pb,0,none⟩),.pointer (some ⟨tb,0,none⟩),u2,u3,u4,u5,u6,u7,u8,u9,u10,u11,u12,u13,u14,u15,u16,u17,u18,u19,u20,u21,u22,undef,undef,undef,undef,.pointer (some ⟨tb,0,none⟩),undef,undef,undef],[]⟩ (.inRegion ak (Region.linearise.go .any ak 8 t #[false,false,false,false,true,false,false,false,false] [])::kk)) cs) w:=by
 obtain⟨i,a,d,e⟩:=cQ (md:=.any) (ops:=ak) (fuel:=7) (t:=t) (listed:= #[false,false,false,false,true,false,false,false,false]) (rs:= [0,5]) (by kernel_rfl) (by simp);rw[e];rcases ai.1 a with rfl|a
 ·skip
  refine LoneTo.goes (n:=1) ?_;simp only[ak,Tryz.f39];s_op
  s_stop
  exact BH c b f d
 ·rw[ag.1 a]
  refine LoneTo.goes (n:=1) ?_;simp only[ak,Tryz.f39];s_op
  s_stop
  exact DH c b f d
theorem DJ(c:w.cell? ⟨pb,0,none⟩=some (.chan (some cb)))(b:w.cell? ⟨tb,1,none⟩=some (.int .i64 id))(f:∀t,LoneTo Tryz.prog Q (G ((base 39).at ⟨#[.pointer (some ⟨pb,0,none⟩),.pointer (some ⟨tb,0,none⟩),u2,u3,u4,u5,u6,u7,u8,u9,u10,u11,u12,u13,u14,u15,u16,u17,u18,u19,u20,u21,u22,.pointer (some ⟨pb,0,none⟩),.pointer (some ⟨pb,0,none⟩),.pointer (some ⟨pb,0,none⟩),.chan (some cb),.pointer (some ⟨tb,0,none⟩),.pointer (some ⟨tb,0,none⟩),.pointer (some ⟨tb,1,none⟩),.int .i64 id],[]⟩ (.inRegion ak (Region.linearise.go .any ak 1 t #[true,true,true,true,true,true,true,true,false] [])::kk)) cs) w)(t:Nat):LoneTo Tryz.prog Q (G ((base 39).at ⟨#[.pointer (some ⟨pb,0,none⟩),.pointer (some ⟨tb,0,none⟩),u2,u3,u4,u5,u6,u7,u8,u9,u10,u11,u12,u13,u14,u15,u16,u17,u18,u19,u20,u21,u22,undef,undef,undef,undef,undef,undef,undef,undef],[]⟩ (.inRegion ak (Region.linearise.go .any ak 9 t #[false,false,false,false,false,false,false,false,false] [])::kk)) cs) w:=by
 obtain⟨i,a,d,e⟩:=cQ (md:=.any) (ops:=ak) (fuel:=8) (t:=t) (listed:= #[false,false,false,false,false,false,false,false,false]) (rs:= [0,4]) (by kernel_rfl) (by simp);rw[e];rcases ai.1 a with rfl|a
 ·skip
  refine LoneTo.goes (n:=1) ?_;simp only[ak,Tryz.f39];s_op
  s_stop
  exact DE c b f d
 ·rw[ag.1 a]
  refine LoneTo.goes (n:=1) ?_;simp only[ak,Tryz.f39];s_op
  s_stop
  exact DI c b f d
end
theorem xx{P:Program}{c:Bool}{b:Frame}{a:Act}{k:List Item}{cs:List Frame}{w:World}{id:Nat}{ops:Array Oper}:stepG P c (G (b.at a (.code (.region id ops true)::k)) cs) w=.go (G (b.at a (.inRegion ops (Region.schedule (P.follows .mixedOrders) ops (w.tape w.drawn (.order b.fn id)))::k)) cs) {w with drawn:=w.drawn+1}:=by
 simp[G,stepG,stepG.exec,Frame.at,choose,Sem.run,Question.forced,Question.cut]
set_option maxRecDepth 100000 in
theorem Bb{w:World}{b:Nat}{c:Array Value}{t:TypeId}(i:w.heap[b]? =some (.cells c t (0,0))) (hc:0<c.size):(binOp .neq 39 (.pointer (some ⟨b,0,none⟩)) (.pointer (some ⟨b,0,none⟩))).run Tryz.prog w=.ok (.bool false) w:=by
 have d:Tryz.prog.underlying 39=some (.pointer 99):=by kernel_rfl
 have hz:Nat.beq (aO Tryz.prog 99) 0=false:=by kernel_rfl
 have e:cq w.heap ⟨b,0,none⟩:=⟨c,t,i,hc⟩;have h:C1 Tryz.prog 39 true (.pointer (some ⟨b,0,none⟩)) (.pointer (some ⟨b,0,none⟩)) (fun v _=>v=.bool false) w.heap:=by
  unfold C1;rw[d];simp only[];rw[hz];refine⟨trivial,fun x y hx f=>?_,by simp⟩
  cases hx;cases f;exact⟨e,e⟩
 unfold C1 at h;rw[d]at h;obtain⟨_,a,_⟩:=h;obtain⟨_,_,v,S,j,m,k⟩:=qD (P:=Tryz.prog) (t:=39) (neg:=true) (x:=.pointer (some ⟨b,0,none⟩)) (y:=.pointer (some ⟨b,0,none⟩)) (K:=fun v S=>v=.bool false∧B0 S w.heap) (h:=w.heap) (by
  unfold C1
  rw[d]
  simp only[]
  rw[hz]
  exact⟨trivial,a,by simp,a⟩)
 obtain⟨rfl,g⟩:=j;exact k w g
set_option maxRecDepth 100000 in
set_option maxHeartbeats 4000000 in
theorem Bq{w:World}{pb tb cb cap s r:Nat}{id:Int}{buf:Array Value}(k:w.heap[pb]? =some (.cells #[.chan (some cb)] 99 (0,0))) (b:w.heap[tb]? =some (.cells #[.pointer (some ⟨pb,0,none⟩),.int .i64 id,.bool true] 119 (0,0))) (hc:w.heap[cb]? =some (.chan cap buf false s r false)) (p:buf.size<cap) (f:pb≠tb) (j:cb≠tb):
  Calls Tryz.prog 39 #[.pointer (some ⟨pb,0,none⟩),.pointer (some ⟨tb,0,none⟩)] w fun e w'=>e=.returned (.int .i64 0)∧∃n,w'=({w.setCell ⟨tb,2,none⟩ (.bool false)with drawn:=n}:World).setChan cb cap (buf.push (.int .i64 id)) false (s+1) r false:=by
 refine calls_of_loneTo fun cs=>?_
 have e:Frame.enter Tryz.prog 39 #[.pointer (some ⟨pb,0,none⟩),.pointer (some ⟨tb,0,none⟩)] .normal=(base 39).at ⟨#[.pointer (some ⟨pb,0,none⟩),.pointer (some ⟨tb,0,none⟩),undef,undef,undef,undef,undef,undef,undef,undef,undef,undef,undef,undef,undef,undef,undef,undef,undef,undef,undef,undef,undef,undef,undef,undef,undef,undef,undef,undef,undef],[]⟩ [.code (Tryz.f39.body.getD .skip)]:=by
  simp[Frame.enter,Frame.at,Tryz.func39,base,Tryz.f39]
 rw[e];have o:=mF b (i:=0) rfl;have x:=mF b (i:=2) rfl;have q:=Ab b (i:=2);have v:=Bb k (by simp);refine LoneTo.goes (n:=52) ?_;simp only[Tryz.f39,fe];s_c stepG_seq
 s_reg
 s_op
 s_c stepG_region_end
 s_c stepG_seq
 s_c stepG_seq
 s_reg
 s_op
 s_op
 s_op
 s_op
 s_call Tryz.func44 (by kernel_rfl) Tryz.f44
 s_c stepG_seq
 s_reg
 s_op
 s_c stepG_region_end
 s_c stepG_seq
 s_reg
 s_op
 s_op
 s_op
 s_op
 s_op
 s_op
 s_op
 s_op
 s_op
 s_c stepG_region_end
 s_c stepG_ret'
 s_leave1 Tryz.func44
 s_op
 s_op
 s_op
 s_op
 s_op
 s_op
 s_op
 s_op
 s_op
 s_op
 s_c stepG_region_end
 s_cond false
 s_c stepG_skip
 s_c stepG_seq
 s_reg
 s_op
 s_op
 s_op
 s_op
 s_c stepG_region_end
 s_c stepG_seq
 s_in
 rw[xx];simp only[goes_go];refine⟨trivial,?_⟩;s_stop
 have hm:Tryz.prog.follows .mixedOrders=true:=Tryz.mixed;simp only[Region.schedule,hm,Bool.true_or,if_true,Region.linearise];have m:=Upd.hset (M:=(· =tb)) w.heap (a:=⟨tb,2,none⟩) (.bool false) rfl
 have g:=m.get k (fun e=>f e)
 have d:=m.get hc (fun e=>j e)
 refine DJ (pb:=pb) (tb:=tb) (cb:=cb) (id:=id) (mF g (i:=0) rfl) ?_ (fun t=>?_) _
 ·show(w.setCell ⟨tb,2,none⟩ (.bool false)).cell? ⟨tb,1,none⟩=_
  rw[World.cell?_setCell_other _ _ _ _ (by simp)];exact mF b (i:=1) rfl
 ·obtain⟨i,u,y,e⟩:=cQ (md:=.any) (ops:=ak) (fuel:=0) (t:=t) (listed:= #[true,true,true,true,true,true,true,true,false]) (rs:= [8]) (by kernel_rfl) (by simp)
  rw[e,ag.1 u];simp only[ak,Tryz.f39,Region.linearise.go,List.reverse_nil];refine LoneTo.step (step_lone_send_room (c:=cb) (cap:=cap) (buf:=buf) (s:=s) (r:=r) (tm:=false) (stepG_comm (cases:= #[scase cb (.int .i64 id) (.tuple #[])]) (blocking:=true) (shape:=.send) (w':={w.setCell ⟨tb,2,none⟩ (.bool false)with drawn:=w.drawn+1}) rfl rfl (by decide) (by simp[execOp,scase,Act.eval])) d p) ?_
  rw[Frame.finish_at];walk_nrm
  refine LoneTo.goes (n:=6) ?_;s_c stepG_region_end
  s_c stepG_seq
  s_reg
  s_op
  s_c stepG_region_end
  s_c stepG_ret'
  s_stop
  refine LoneTo.done ⟨.returned (.int .i64 0),_,rfl,⟨rfl,_,rfl⟩,rfl,rfl,rfl,rfl,_,Tryz.func39,by simp[results,Tryz.f39,Frame.at]⟩
end Go.Proofs
namespace Go.Proofs
open Go.Lift
theorem OwnS.zero{α:Type}{f:α→List Value}{a:Nat}{t:TypeId}{M:Nat→Prop}{h:ac}{s:SliceV}{xs:List α}(d:OwnS f a t M h s xs):OwnS f a t M h ⟨aF s.a 0 s.cap a,0-0,s.cap-0⟩ []:=by
 have g:∀x,(f x).length=a∧0<a:=d.ne;have i:=d.len;have e:=d.cap;refine⟨rfl,g,by simp only;omega,?_⟩
 rcases d.blk with n|⟨b,c,m,j,hc,k⟩
 ·exact .inl (by simp only;omega)
 ·refine .inr ⟨b,xs.flatMap f++c,by rw[m,sub_zero],j,hc,?_⟩
  rw[ae,gw g,k,←Nat.add_mul];simp only;congr 1;omega
def C4:Pr:=(⟨#[]⟩,⟨#[]⟩)
theorem yQ(n:Nat):cd n [.string (⟨#[]⟩:ByteArray),.string (⟨#[]⟩:ByteArray)]=(eu n C4).flatMap hH:=by
 unfold cd;induction n with
 |zero=>rfl
 |succ n ih=>rw[gO,gO,List.flatMap_cons,←ih];rfl
theorem CC{n:Nat}(j:n*32≤140737488355328){h:ac}{K:SliceV→ac→Prop}(c:∀s' a,OwnS hH 2 ah (fun b=>h.size≤b) a s' []→Upd No h a→K s' a):
  HC PG cM [.slice none 0 0,.int .i64 n] [.c .slice] K h:=by
 refine gU ⟨none,0,0⟩ n ?_;unfold d2 sd;have e:IntKind.wrap .i64 ((n:Int)-IntKind.wrap .i64 (((0:Nat):Int)-((0:Nat):Int)))=(n:Int):=by rw[nT (x:=((0:Nat):Int)-((0:Nat):Int)) (by omega),nT (by omega)];omega
 refine Join.plain (bi (fun h=>by omega) fun _=>?_)
 simp only[Bd];rw[e];refine bi (fun k=>?_) fun hz=>c _ _ (OwnS.nil iz) (Upd.refl _ _)
 refine⟨by omega,⟨by omega,by omega,by omega,by omega⟩,?_⟩
 refine AppP.own (f:=hH) (M:=fun b=>h.size≤b) (xs:= []) (ys:=eu n C4) (OwnS.nil iz) (by simp) (yQ _) (by rw[yQ];exact nL _) rfl (by omega) (by simpa using j) (av _) fun s' a d i=>?_
 exact⟨by omega,c _ _ (OwnS.zero d) (i.mono fun b g=>.inr g)⟩
abbrev slF(s:SliceV):List Value:= [.slice s.a s.len s.cap]
def ParS(h:ac):List SliceV→List (List Pr)→Prop
 | [],[]=>True
 |v::vs,l::ls=>Sl hH 2 No h v l∧ParS h vs ls
 |_,_=>False
theorem ParS.upd{h a:ac}(k:Upd No h a):∀{vs:List SliceV} {ls:List (List Pr)},ParS h vs ls→ParS a vs ls
 | [],[],_=>trivial
 |_::_,_::_,q=>⟨q.1.upd k fun _ h=>h.elim,ParS.upd k q.2⟩
 | [],_::_,q=>q.elim
 |_::_,[],q=>q.elim
theorem ParS.len{h:ac}:∀{vs:List SliceV} {ls:List (List Pr)},ParS h vs ls→vs.length=ls.length
 | [],[],_=>rfl
 |_::_,_::_,q=>by rw[aQ,aQ,ParS.len q.2]
 | [],_::_,q=>q.elim
 |_::_,[],q=>q.elim
theorem ParS.at{h:ac}:∀{vs:List SliceV} {ls:List (List Pr)},ParS h vs ls→∀{i:Nat} (h1:i<vs.length) (h2:i<ls.length),Sl hH 2 No h vs[i] ls[i]
 |_::_,_::_,q,0,_,_=>q.1
 |_::_,_::_,q,i+1,h1,h2=>ParS.at q.2 (by simpa using h1) (by simpa using h2)
theorem uN(ls:List (List Pr)){i:Nat}(a:i<ls.length):(ls.take (i+1)).flatten=(ls.take i).flatten++ls[i]:=by
 rw[List.take_succ_eq_append_getElem a,dS,eV,jq,List.append_nil]
theorem zm(ls:List (List Pr))(i:Nat):(ls.take i).flatten.length≤ls.flatten.length:=by
 have:ls.flatten=(ls.take i).flatten++(ls.drop i).flatten:=by rw[←dS,List.take_append_drop]
 rw[this,ae];omega
theorem Ak{h:ac}{s:SliceV}{vs:List SliceV}{ls:List (List Pr)}(u:Sl slF 1 No h s vs)(A:ParS h vs ls)(L:ls.flatten.length*32≤140737488355328)(hv:vs.length≤1000)
  {K:SliceV→ac→Prop}(H:∀s' f,OwnS hH 2 ah (fun b=>h.size≤b) f s' ls.flatten→Upd No h f→K s' f):HC PG cE [.slice s.a s.len s.cap] [.c .slice] K h:=by
 refine gB s ?_;unfold dP dT gg sd;have G:=u.len;have e:=A.len;refine LoopP.ghost (fun(i:Nat) (t:Int×Int) f=>t.2=(i:Int)∧i≤vs.length∧t.1=((ls.take i).flatten.length:Int)∧f=h) (fun i=>vs.length-i) 0 ⟨rfl,d4 _,by simp,rfl⟩ ?_
 rintro I i ⟨W,ti⟩ f ⟨n,X,F,rfl⟩ N;simp only at n F;subst n F;refine bi (fun c=>?_) fun D=>?_
 ·have c:i<vs.length:=by have:(i:Int)<(s.len:Int):=c;omega
  obtain⟨a,v,_,g⟩:=u.at (aq c);have Q:=(A.at c (e▸c)).len;have d:=congrArg iq (uN ls (e▸c));rw[ae]at d;have x:=zm ls (i+1);refine Join.plain ⟨by simp only;omega,a,v,_,g 0 _ rfl,?_⟩;simp only;have O:IntKind.wrap .i64 (((ls.take i).flatten.length:Int)+((vs[i]).len:Int))=((ls.take (i+1)).flatten.length:Int):=by rw[nT (by omega)];omega
  rw[O];refine bi (fun h=>by omega) fun _=>?_
  rw[ke c (by omega)];exact N (i+1) _ _ ⟨rfl,c,rfl,rfl⟩ (by omega)
 ·have M:i=vs.length:=by have:¬(i:Int)<(s.len:Int):=D;omega
  rw[aV (by omega)];refine CC L fun s0 U C w=>?_
  refine LoopP.ghost (fun(i:Nat) (t:SliceV×Int) E=>t.2=(i:Int)∧i≤vs.length∧OwnS hH 2 ah (fun b=>f.size≤b) E t.1 (ls.take i).flatten∧Upd No f E) (fun i=>vs.length-i) 0 ⟨rfl,d4 _,by simpa using C,w⟩ ?_
  rintro V j ⟨T,Y⟩ E ⟨n,R,q,m⟩ z;simp only at n q;subst n;refine bi (fun c=>?_) fun k=>?_
  ·have c:j<vs.length:=by have:(j:Int)<(s.len:Int):=c;omega
   obtain⟨a,v,_,g⟩:=(u.upd m fun _ h=>h.elim).at (aq c)
   have o:=((A.upd m).at c (e▸c));have d:=uN ls (e▸c);have p:=congrArg iq d;rw[ae]at p;have x:=zm ls (j+1);refine Join.plain ⟨by simp only;omega,a,v,_,g 0 _ rfl,_,o.srow,?_⟩;refine AppP.own (ys:=ls[j]) q o.len rfl (nL _) rfl (by omega) (by omega) m.size fun s2 S y B=>?_
   simp only;rw[ke c (by omega)];exact z (j+1) _ _ ⟨rfl,c,d▸y,m.trans B fun b J=>.inr J⟩ (by omega)
  ·have P:j=vs.length:=by have:¬(j:Int)<(s.len:Int):=k;omega
   rw[aV (by omega)]at q;exact H _ _ q m
def yk(l:List Pr)(p:Pr):List Pr:=l.take (mZ l p.1)++p::l.drop (if cK l p.1 then mZ l p.1+1 else mZ l p.1)
theorem xS{l:List Pr}(g:eO l){k:ByteArray}(c:cK l k=true):∃h:mZ l k<l.length,l[mZ l k].1=k:=by
 unfold cK at c;obtain⟨p,f,e⟩:=List.any_eq_true.1 c;have e:=of_decide_eq_true e;obtain⟨q,b,rfl⟩:=List.mem_iff_getElem.1 f;have:mZ l k=q:=AZ (by omega) (fun j d a=>by rw[←e];exact List.pairwise_iff_getElem.1 g j q d b a) fun h=>by rw[←e];exact dL _
 subst this;exact⟨b,e⟩
theorem AR{h:ac}{s:SliceV}{l:List Pr}(a:Sl hH 2 No h s l){i j m:Nat}(b:i≤j)(d:j≤l.length)(e:j≤m)(c:Nat):Sl hH 2 No h ⟨aF s.a i m 2,j-i,c⟩ ((l.drop i).take (j-i)):=Sl.sub a b d e
theorem xX{h:ac}{s:SliceV}{l:List Pr}(u:Sl hH 2 No h s l)(hc:s.len≤s.cap)(w:eO l)(J:l.length≤1000000000)(p:Pr)
  {K:SliceV→ac→Prop}(G:∀s' a,OwnS hH 2 ah (fun b=>h.size≤b) a s' (yk l p)→Upd No h a→K s' a):HC PG oQ [.slice s.a s.len s.cap,.agg #[.string p.1,.string p.2]] [.c .slice] K h:=by
 refine yH s p ?_;unfold tP aw qk uY AG;have f:=u.len;have k1:=Upd.hnew No h [.string p.1,.string p.2] ah;have b1:=cf h [.string p.1,.string p.2] ah;refine bK ?_;simp only[dK h];generalize hnew h [.string p.1,.string p.2] ah=h1 at k1 b1;refine⟨p.1,by rw[aX,aH b1];rfl,zn (u.upd k1 fun _ h=>h.elim) w J p.1 fun E g=>?_⟩
 have D:=Dn l p.1;have c:=k1.tr g;refine⟨by simp only;omega,?_⟩;let q:=if cK l p.1 then mZ l p.1+1 else mZ l p.1
 have F:q≤l.length:=by
  show(if cK l p.1 then mZ l p.1+1 else mZ l p.1)≤l.length
  split
  ·rename_i ht;obtain⟨h,_⟩:=xS w ht;omega
  ·exact D
 refine Join.intro (fun t a=>a=E∧t=⟨aF s.a q s.cap 2,s.len-q,s.cap-q⟩) (fun R B=>?_) ?_
 ·refine CondP.intro (fun e=>?_) fun e=>B _ _ ⟨rfl,?_⟩
  ·have e:cK l p.1=true:=e
   obtain⟨I,_⟩:=xS w e;have N:IntKind.wrap .i64 ((mZ l p.1:Int)+1)=((mZ l p.1+1:Nat):Int):=by rw[nT (by omega)];omega
   simp only;rw[N];refine⟨by omega,B _ _ ⟨rfl,?_⟩⟩;have:q=mZ l p.1+1:=by show(if cK l p.1 then _ else _)=_;rw[if_pos e]
   rw[this];rfl
  ·have e:cK l p.1=false:=e
   have:q=mZ l p.1:=by show(if cK l p.1 then _ else _)=_;rw[if_neg (by rw[e];decide)]
   rw[this];rfl
 ·rintro t a ⟨rfl,rfl⟩
  have b2:=g.get0 b1;refine⟨by simp only;omega,p.1,by rw[aX,aH b2];rfl,p.2,by rw[aX,aH b2];rfl,?_⟩
  have z:=Upd.hnew No a [.string p.1,.string p.2] ah;have b3:=cf a [.string p.1,.string p.2] ah;refine bK ?_;simp only[dK a];generalize hnew a [.string p.1,.string p.2] ah=h3 at z b3;refine bK ?_;have k:=(u.upd c fun _ h=>h.elim).upd z fun _ h=>h.elim
  have n:=Upd.hnew No h3 [.slice (aF s.a 0 s.cap 2) ((mZ l p.1:Int).toNat-0) (s.cap-0),.slice (some ⟨a.size,0,none⟩) 1 1,.slice (aF s.a q s.cap 2) (s.len-q) (s.cap-q)] fS;have M:=cf h3 [.slice (aF s.a 0 s.cap 2) ((mZ l p.1:Int).toNat-0) (s.cap-0),.slice (some ⟨a.size,0,none⟩) 1 1,.slice (aF s.a q s.cap 2) (s.len-q) (s.cap-q)] fS;have A:=AR k (i:=0) (j:=mZ l p.1) (m:=s.cap) (d4 _) D (by omega) (s.cap-0)
  have L:Sl hH 2 No h3 ⟨some ⟨a.size,0,none⟩,1,1⟩ [p]:=⟨rfl,iz,fun _=>⟨_,rfl,fun h=>h.elim,mw b3 fun i v hv=>by simpa using hv⟩⟩
  have o:=AR k (i:=q) (j:=l.length) (m:=s.cap) F (av _) (by omega) (s.cap-q);rw[←f]at o;rw[List.drop_zero]at A;rw[aV (by rw[aB];omega)]at o;have O:yk l p= [l.take (mZ l p.1-0),[p],l.drop q].flatten:=by simp[yk,q]
  refine Ak (s:=⟨some (bN h3),3,3⟩) (vs:= [⟨aF s.a 0 s.cap 2,(mZ l p.1:Int).toNat-0,s.cap-0⟩,⟨some ⟨a.size,0,none⟩,1,1⟩,⟨aF s.a q s.cap 2,s.len-q,s.cap-q⟩]) (ls:= [l.take (mZ l p.1-0),[p],l.drop q])
   ⟨rfl,fun x=>⟨rfl,Nat.one_pos⟩,fun _=>⟨_,rfl,fun h=>h.elim,mw M fun i v hv=>by simpa[slF]using hv⟩⟩ ⟨A.upd n fun _ h=>h.elim,L.upd n fun _ h=>h.elim,o.upd n fun _ h=>h.elim,trivial⟩ ?_ (by simp) fun Q P d y=>?_
  ·simp only[eV,jq,ae,List.length_take,aB,List.length_singleton,List.length_nil];omega
  ·rw[←O]at d
   have C:=((c.tr z).tr n);exact G _ _ (d.more fun b H=>Nat.le_trans C.size H) (C.tr y)
end Go.Proofs
namespace Go.Proofs
open Go.Lift
def mn(n d:Nat):Nat:=(cp n).countP (d.testBit ·)
theorem r8(m n d:Nat):mn (m+n) d=mn m d+mn n (d>>>m):=by
 unfold mn;rw[List.range_add,List.countP_append,List.countP_map];congr 1
 refine List.countP_congr fun i _=>?_
 simp[Nat.testBit_shiftRight]
theorem zq(d:Nat)(i:Nat):∀n,i≤n→mn n (d&&&(2^i-1))=mn i d:=by
 intro n b;obtain⟨m,rfl⟩:=Nat.exists_eq_add_of_le b;rw[r8];have e:mn i (d&&&(2^i-1))=mn i d:=by
  unfold mn;refine List.countP_congr fun j a=>?_
  have:=gh.1 a;simp[fO,f7,this]
 have c:mn m ((d&&&(2^i-1))>>>i)=0:=by
  unfold mn;rw[List.countP_eq_zero];intro j _;simp[Nat.testBit_shiftRight,fO,f7];intro h;omega
 omega
theorem DK(d:Nat):mn 8 (d&&&255)=mn 8 d:=zq d 8 8 (av _)
theorem oY(n d:Nat):mn n d≤n:=by
 have:=List.countP_le_length (p:=(d.testBit ·)) (l:=cp n)
 simpa[mn]using this
theorem kr(d n:Nat):ey (d:Int) (2^n)=((d>>>n:Nat):Int):=by
 rw[Int.fdiv_eq_ediv_of_nonneg _ (by exact Int.le_of_lt (Int.pow_pos (by decide))),gG];simp
theorem BZ(a b:Nat):(ad (IntKind.bits .u32) (a:Int)&&&ad (IntKind.bits .u32) (b:Int)).toNat=(a%4294967296)&&&(b%4294967296):=by
 simp[IntKind.bits,BitVec.toNat_and,BitVec.toNat_ofInt];rfl
theorem pk{n:Nat}(h:n<4294967296):IntKind.wrap .u32 (n:Int)=(n:Int):=Go.IntWalk.u32_in _ (by omega)
theorem sO{i:Nat}(b:i<32){h:ac}{K:Bool→ac→Prop}(a:K true h):HC PG gS [.int .i64 i] [.c .bool] K h:=by
 refine un i ?_;unfold oA;refine bi (fun _=>?_) fun h=>absurd (Int.natCast_nonneg i) h
 rw[decide_eq_true (by omega)];exact a
theorem vJ{a b:Nat}(h:b<4294967296):a&&&b<4294967296:=ep Nat.and_le_right h
theorem qA{d i:Nat}(hd:d<4294967296)(f:i<32){h:ac}{K:Bool→ac→Prop}(c:K (d.testBit i) h):HC PG cU [.int .u32 d,.int .i64 i] [.c .bool] K h:=by
 refine qX d i ?_;unfold mg;refine sO f (ao.2 ⟨by omega,?_⟩);have e:min (i:Int).toNat (IntKind.bits .u32)=i:=by rw[aK];exact aL (by show i≤32;omega)
 rw[e,kr];have b:=BZ (d>>>i) 1;have a:d>>>i<4294967296:=ep (iT d i) hd;rw[ff a,show(1:Nat)%4294967296=1 from rfl]at b
 simp only[Bd];rw[show((1:Nat):Int)=(1:Int)from rfl]at b
 rw[b,pk (vJ (by omega))];have g:(((d>>>i&&&1:Nat):Int)==(1:Int))=d.testBit i:=by
  rw[Bool.eq_iff_iff,beq_iff_eq,Nat.testBit,Nat.and_comm];simp only[bne_iff_ne,ne_eq,Nat.one_and_eq_mod_two];have:(d>>>i)%2<2:=mL _ (by omega);omega
 rw[g];exact c
theorem Ap{d i:Nat}(hd:d<4294967296)(g:i<32):∃w:Nat,IntKind.wrap .u32 (ad (IntKind.bits .u32) (d:Int)|||ad (IntKind.bits .u32) (IntKind.wrap .u32 (1*2^(min (i:Int).toNat (IntKind.bits .u32))))).toNat=(w:Int)∧w<4294967296∧∀j,w.testBit j=(d.testBit j||decide (j=i)):=by
 have e:min (i:Int).toNat (IntKind.bits .u32)=i:=by rw[aK];exact aL (by show i≤32;omega)
 have c:2^i<4294967296:=Nat.pow_lt_pow_right (by omega) (show i<32 from g)
 have k:(1*2^i:Int)=((2^i:Nat):Int):=by simp
 rw[e,k,pk c];refine⟨_,pk (BitVec.isLt _),BitVec.isLt _,fun j=>?_⟩
 rw[BitVec.testBit_toNat,BitVec.getLsbD_or,gl,gl,gm,gm,Nat.testBit_two_pow];by_cases a:j<32
 ·have:decide (j<IntKind.bits .u32)=true:=decide_eq_true a
  rw[this];simp[eq_comm]
 ·have f:decide (j<IntKind.bits .u32)=false:=decide_eq_false a
  have b:d.testBit j=false:=Nat.testBit_lt_two_pow (cg hd (Nat.pow_le_pow_right (n:=2) (by omega) (show 32≤j by omega)))
  rw[f,b];simp;omega
theorem yU{d i:Nat}(hd:d<4294967296)(a:i<32){h:ac}{K:Int→ac→Prop}(b:∀w:Nat,w<4294967296→(∀j,w.testBit j=(d.testBit j||decide (j=i)))→K (w:Int) h):HC PG cI [.int .u32 d,.int .i64 i] [.c (.int .u32)] K h:=by
 refine p8 d i ?_;unfold lI;refine sO a (al.2 ⟨by omega,?_⟩);obtain⟨w,e,c,f⟩:=Ap hd a;simp only[Bd];rw[e];exact b w c f
theorem vH{d i:Nat}(hd:d<4294967296)(g:i<32):∃w:Nat,IntKind.wrap .u32 (ad (IntKind.bits .u32) (d:Int)&&& ~~~ad (IntKind.bits .u32) (IntKind.wrap .u32 (1*2^(min (i:Int).toNat (IntKind.bits .u32))))).toNat=(w:Int)∧w<4294967296∧∀j,w.testBit j=(d.testBit j&&decide (j≠i)):=by
 have e:min (i:Int).toNat (IntKind.bits .u32)=i:=by rw[aK];exact aL (by show i≤32;omega)
 have c:2^i<4294967296:=Nat.pow_lt_pow_right (by omega) (show i<32 from g)
 have k:(1*2^i:Int)=((2^i:Nat):Int):=by simp
 rw[e,k,pk c];refine⟨_,pk (BitVec.isLt _),BitVec.isLt _,fun j=>?_⟩
 rw[BitVec.testBit_toNat,BitVec.getLsbD_and,BitVec.getLsbD_not,gl,gl,gm,gm,Nat.testBit_two_pow];by_cases a:j<32
 ·have:decide (j<IntKind.bits .u32)=true:=decide_eq_true a
  rw[this];simp[eq_comm]
 ·have f:decide (j<IntKind.bits .u32)=false:=decide_eq_false a
  have b:d.testBit j=false:=Nat.testBit_lt_two_pow (cg hd (Nat.pow_le_pow_right (n:=2) (by omega) (show 32≤j by omega)))
  rw[f,b];simp
theorem si{d i:Nat}(hd:d<4294967296)(a:i<32){h:ac}{K:Int→ac→Prop}(b:∀w:Nat,w<4294967296→(∀j,w.testBit j=(d.testBit j&&decide (j≠i)))→K (w:Int) h):HC PG eN [.int .u32 d,.int .i64 i] [.c (.int .u32)] K h:=by
 refine nC d i ?_;unfold jJ;refine sO a (al.2 ⟨by omega,?_⟩);obtain⟨w,e,c,f⟩:=vH hd a;simp only[Bd];rw[e];exact b w c f
abbrev Eb:ByteArray:=⟨#[0,1,1,2,1,2,2,3,1,2,2,3,2,3,3,4,1,2,2,3,2,3,3,4,2,3,3,4,3,4,4,5,1,2,2,3,2,3,3,4,2,3,3,4,3,4,4,5,2,3,3,4,3,4,4,5,3,4,4,5,4,5,5,6,1,2,2,3,2,3,3,4,2,3,3,4,3,4,4,5,2,3,3,4,3,4,4,5,3,4,4,5,4,5,5,6,2,3,3,4,3,4,4,5,3,4,4,5,4,5,5,6,3,4,4,5,4,5,5,6,4,5,5,6,5,6,6,7,1,2,2,3,2,3,3,4,2,3,3,4,3,4,4,5,2,3,3,4,3,4,4,5,3,4,4,5,4,5,5,6,2,3,3,4,3,4,4,5,3,4,4,5,4,5,5,6,3,4,4,5,4,5,5,6,4,5,5,6,5,6,6,7,2,3,3,4,3,4,4,5,3,4,4,5,4,5,5,6,3,4,4,5,4,5,5,6,4,5,5,6,5,6,6,7,3,4,4,5,4,5,5,6,4,5,5,6,5,6,6,7,4,5,5,6,5,6,6,7,5,6,6,7,6,7,7,8]⟩
theorem Ce:(cp 256).all (fun b=>decide (Eb[b]? =some (lK (mn 8 b))))=true:=by decide+kernel
theorem uZ{b:Nat}(h:b<256):Eb[b]? =some (lK (mn 8 b)):=of_decide_eq_true (List.all_eq_true.1 Ce b (gh.2 h))
theorem vE(b:Nat):(lK (mn 8 b)).toNat=mn 8 b:=by
 have:=oY 8 b;simp;omega
theorem EZ(d:Nat):mn 32 d=mn 8 (d>>>24)+mn 8 ((d>>>16)&&&255)+mn 8 ((d>>>8)&&&255)+mn 8 (d&&&255):=by
 rw[DK,DK,DK,show(32:Nat)=8+(8+(8+8))from rfl,r8,r8,r8]
 simp only[←Nat.shiftRight_add,Nat.reduceAdd];omega
set_option maxRecDepth 100000 in
theorem Ct{d:Nat}(hd:d<4294967296){h:ac}{K:Int→ac→Prop}(j:K (mn 32 d:Int) h):HC PG fc [.int .u32 d] [.c (.int .i64)] K h:=by
 refine l0 d ?_;unfold ip;have g:ey (d:Int) (2^(min (24:Int).toNat (IntKind.bits .u32)))=((d>>>24:Nat):Int):=kr d 24;have c:ey (d:Int) (2^(min (16:Int).toNat (IntKind.bits .u32)))=((d>>>16:Nat):Int):=kr d 16;have k:ey (d:Int) (2^(min (8:Int).toNat (IntKind.bits .u32)))=((d>>>8:Nat):Int):=kr d 8;have b:∀x:Nat,x<4294967296→IntKind.wrap .u32 (ad (IntKind.bits .u32) (x:Int)&&&ad (IntKind.bits .u32) 255).toNat=((x&&&255:Nat):Int):=fun x hx=>by
  have:=BZ x 255;rw[ff hx]at this;rw[show((255:Nat):Int)=(255:Int)from rfl]at this
  rw[this,pk (vJ (by omega))]
 have a:d>>>24<256:=by rw[gG];omega
 have f:∀x:Nat,x&&&255<256:=fun x=>ep Nat.and_le_right (by omega)
 have e:d>>>16<4294967296:=ep (iT d 16) hd;have m:d>>>8<4294967296:=ep (iT d 8) hd;simp only[Bd];rw[g,c,k,b _ e,b _ m,b _ hd];refine⟨by decide,_,by omega,uZ (b:=d>>>24) a,by decide,_,by omega,uZ (f _),by decide,_,by omega,uZ (f _),_,by omega,uZ (f _),?_⟩
 rw[vE,vE,vE,vE];simp only[aK];have s:=oY 8 (d>>>24);have o:=oY 8 (d>>>16&&&255);have p:=oY 8 (d>>>8&&&255);have q4:=oY 8 (d&&&255);rw[EZ]at j;have i:∀n:Nat,n≤255→IntKind.wrap .u8 (n:Int)=(n:Int):=fun n q=>Go.IntWalk.u8_in _ (by omega)
 rw[←Int.natCast_add,i _ (by omega),←Int.natCast_add,i _ (by omega),←Int.natCast_add,i _ (by omega),nT (by omega)];exact j
theorem jv{d i:Nat}(hd:d<4294967296)(f:i<32){h:ac}{K:Int→ac→Prop}(a:K (mn i d:Int) h):HC PG bF [.int .u32 d,.int .i64 i] [.c (.int .i64)] K h:=by
 refine p9 d i ?_;unfold lJ;refine bi (fun b=>?_) fun b=>?_
 ·have:i=0:=by omega
  subst this;exact a
 ·refine bi (fun h=>by omega) fun _=>⟨by omega,?_⟩
  have e:min (i:Int).toNat (IntKind.bits .u32)=i:=by rw[aK];exact aL (by show i≤32;omega)
  have c:2^i<4294967296:=Nat.pow_lt_pow_right (by omega) (show i<32 from f)
  have k:0<2^i:=Nat.pow_pos (by omega);have j:(1*2^i:Int)=((2^i:Nat):Int):=by simp
  have g:(((2^i:Nat):Int)-1)=((2^i-1:Nat):Int):=by omega
  simp only[Bd];rw[e,j,pk c,g,pk (show 2^i-1<4294967296 by omega),BZ,ff hd,ff (show 2^i-1<4294967296 by omega),pk (vJ (by omega))]
  refine pg _ ?_;unfold kO;refine Ct (vJ (by omega)) ?_;rw[zq d i 32 (by omega)];exact a
end Go.Proofs
