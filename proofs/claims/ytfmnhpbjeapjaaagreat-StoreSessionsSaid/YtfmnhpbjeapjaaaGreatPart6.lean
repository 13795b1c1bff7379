/- A part of the proof that the named laws of this program answer true, whatever the input. -/
import Derived.Test.YtfmnhpbjeapjaaaGreatTreeF0
import Derived.Test.YtfmnhpbjeapjaaaGreatTreeF1
import Derived.Test.YtfmnhpbjeapjaaaGreatTreeF2
import Derived.Test.YtfmnhpbjeapjaaaGreatPart0
import Derived.Conc.LoneSelect
import Derived.KernelRfl
import Derived.Laws.Rows
import Derived.Test.YtfmnhpbjeapjaaaGreatPart1
import Derived.Test.YtfmnhpbjeapjaaaGreatPart5
open Array renaming getElem?_eq_some_iff→bE,getElem?_setIfInBounds→bS,getElem?_push→i5,size_setIfInBounds→mD
open List renaming range→dK,mem_singleton→ak,mem_cons→ah
open List.Pairwise renaming nil→gn
open Nat renaming le_refl→av
open Option renaming getD_some→pu
namespace Go.Proofs
open Go Go.Lift Go.Conc Go.RowKit
theorem xq{w:World}{b i:Nat}{c:Array Value}{t:TypeId}{v:Value}(h:w.heap[b]? =some (.cells c t (0,0))) (d:c[i]? =some v):w.cell? ⟨b,i,none⟩=some v:=by
 simp only[World.cell?,h];exact d
theorem Lk{w:World}{b i:Nat}{c:Array Value}{t:TypeId}(h:w.heap[b]? =some (.cells c t (0,0))):w.frozen? ⟨b,i,none⟩=false:=by
 simp only[World.frozen?,h];simp
set_option maxRecDepth 100000 in
theorem KO{w:World}{pb cb cap s r:Nat}{i:Int}{b:List Value}(f:w.heap[pb]? =some (.cells #[.chan (some cb)] 111 (0,0))) (hc:w.heap[cb]? =some (.chan cap (Value.int .i64 i::b).toArray false s r false)):
  Calls Tryz.prog 125 #[.pointer (some ⟨pb,0,none⟩)] w fun e w'=>e=.returned (.tuple #[.pointer (some ⟨w.heap.size,0,none⟩),.int .i64 0])∧w'=((w.setChan cb cap b.toArray false s (r+1) false).alloc (.cells #[.pointer (some ⟨pb,0,none⟩),.int .i64 i,.bool true] 179 (0,0))):=by
 refine calls_of_loneTo fun cs=>?_
 have e:Frame.enter Tryz.prog 125 #[.pointer (some ⟨pb,0,none⟩)] .normal=(base 125).at ⟨#[.pointer (some ⟨pb,0,none⟩),undef,undef,undef,undef,undef,undef,undef,undef,undef,undef,undef,undef,undef,undef,undef,undef,undef,undef],[]⟩ [.code (Tryz.f125.body.getD .skip)]:=by
  simp[Frame.enter,Frame.at,Tryz.func125,base,Tryz.f125]
 rw[e];have aB:=xq f (i:=0) rfl;have d:(Value.int .i64 i::b).toArray.extract 1 (Value.int .i64 i::b).toArray.size=b.toArray:=by simp
 refine LoneTo.goes (n:=22) ?_;simp only[Tryz.f125,pu];s_c stepG_seq
 s_reg
 s_op
 s_op
 s_c stepG_region_end
 s_c stepG_seq
 s_c stepG_seq
 s_reg
 s_op
 s_op
 s_c stepG_region_end
 s_cond false
 s_c stepG_skip
 s_c stepG_seq
 s_reg
 s_op
 s_op
 s_op
 s_op
 s_c stepG_region_end
 s_c stepG_seq
 s_reg
 s_stop
 refine LoneTo.step (step_lone_select_recv_buf (c:=cb) (z:=.int .i64 0) (stepG_comm (cases:= #[rcase cb (.int .i64 0)]) (blocking:=false) (shape:=.select) (w':=w) rfl rfl (by decide) (by simp[go_sem,execOp,rcase,Act.eval])) hc (by simp)) ?_;rw[d];rw[Frame.finish_at];walk_nrm
 refine LoneTo.goes (n:=20) ?_;s_op
 s_op
 s_c stepG_region_end
 s_c stepG_block
 s_cond true
 s_c stepG_seq
 s_reg
 s_op
 s_op
 s_c stepG_region_end
 s_c stepG_seq
 s_reg
 s_op
 s_op
 s_op
 s_op
 s_op
 s_op
 s_c stepG_region_end
 s_c stepG_ret'
 s_stop
 refine LoneTo.done ⟨.returned (.tuple #[.pointer (some ⟨w.heap.size,0,none⟩),.int .i64 0]),_,rfl,⟨rfl,rfl⟩,rfl,rfl,rfl,rfl,_,Tryz.func125,by simp[results,Tryz.f125,Frame.at,size_setChan]⟩
theorem mkc(w:World)(n:Nat)(h:n≤4096):(Instr.makeChan 109 (.int .i64 n)).run Tryz.prog w=.ok (.chan (some w.heap.size)) (w.alloc (.chan n #[] false 0 0 false)):=by
 have e:Tryz.prog.underlying 109=some (.chan .both 3):=by kernel_rfl
 have d:(Tryz.prog.info? 3).map (·.bytes)=some 8:=by kernel_rfl
 obtain⟨i,b,c⟩:=Option.map_eq_some_iff.1 d;exact run_makeChan (P:=Tryz.prog) (w:=w) e b .i64 n (by omega) (by rw[c];omega)
noncomputable abbrev CN:Code:=match Tryz.f13.body with|some (.seq _ (.seq _ (.seq _ (.seq (.seq _ (.block _ (.loop c))) _))))=>c|_=>.skip
noncomputable abbrev FY:Code:=match Tryz.f13.body with|some (.seq _ (.seq _ (.seq _ (.seq _ c))))=>c|_=>.skip
set_option maxRecDepth 100000 in
set_option maxHeartbeats 4000000 in
theorem MN{n pb cb:Nat}{Q:Goroutine→World→Prop}{cs:List Frame}(O:n≤4096)(B:pb≠cb):∀(m i:Nat) (v t k g o d e f q p:Value) (ids:List Value) (s r:Nat) (w:World),i+m=n→ids.length=i→w.heap[pb]? =some (.cells #[.chan (some cb)] 111 (0,0))→w.heap[cb]? =some (.chan n ids.toArray false s r false)→
  (∀(v t k g o d e f q p:Value) (b:List Value) (s' y:Nat) (w':World),b=ids++(dK m).map (fun j=>Value.int .i64 ((i+j:Nat)+1:Int))→(w'=w∨w'=w.setChan cb n b.toArray false s' y false)→w'.heap[cb]? =some (.chan n b.toArray false s' y false)→LoneTo Tryz.prog Q (G ((base 13).at ⟨#[.int .i64 n,undef,.pointer none,.int .i64 0,.pointer (some ⟨pb,0,none⟩),v,.int .i64 n,.bool false,.bool false,.int .i64 n,.bool false,.bool false,.int .i64 n,.chan (some cb),.agg #[.chan (some cb)],.pointer (some ⟨pb,0,none⟩),.int .i64 n,.int .i64 n,t,k,g,o,d,e,f,q,p,undef],[]⟩ [.code FY]) cs) w')→
  LoneTo Tryz.prog Q (G ((base 13).at ⟨#[.int .i64 n,undef,.pointer none,.int .i64 0,.pointer (some ⟨pb,0,none⟩),v,.int .i64 n,.bool false,.bool false,.int .i64 n,.bool false,.bool false,.int .i64 n,.chan (some cb),.agg #[.chan (some cb)],.pointer (some ⟨pb,0,none⟩),.int .i64 n,.int .i64 i,t,k,g,o,d,e,f,q,p,undef],[]⟩ [.code CN,.inLoop CN,.inBlock 0,.code FY]) cs) w:=by
 intro m;induction m with
 |zero=>
  intro i v t k g o d e f q p ids s r w u E C hc A;have u:i=n:=by omega
  subst u;have D:¬((i:Int)<(i:Int)):=by omega
  refine LoneTo.goes (n:=9) ?_;simp only[CN,Tryz.f13];s_c stepG_seq
  s_reg
  s_op
  s_c stepG_region_end
  s_c stepG_seq
  s_cond false
  s_exit
  s_stop
  exact A _ _ _ _ _ _ _ _ _ _ ids s r w (by simp) (.inl rfl) hc
 |succ m ih=>
  intro i v t k g o d e f q p ids s r w u E C hc A;have D:((i:Int)<(n:Int)):=by omega
  have aB:=xq C (i:=0) rfl;have I:IntKind.wrap .i64 ((i:Int)+1)=((i+1:Nat):Int):=by rw[dT (by omega)];omega
  refine LoneTo.goes (n:=21) ?_;simp only[CN,Tryz.f13];s_c stepG_seq
  s_reg
  s_op
  s_c stepG_region_end
  s_c stepG_seq
  s_cond true
  s_c stepG_skip
  s_c stepG_seq
  s_c stepG_block
  s_c stepG_seq
  s_reg
  s_op
  s_op
  s_c stepG_region_end
  s_reg
  s_op
  s_op
  s_op
  s_op
  s_op
  s_op
  s_stop
  refine LoneTo.step (step_lone_send_room (c:=cb) (cap:=n) (buf:=ids.toArray) (s:=s) (r:=r) (tm:=false) (stepG_comm (cases:= #[scase cb (.int .i64 ((i:Int)+1)) (.tuple #[])]) (blocking:=true) (shape:=.send) (w':=w) rfl rfl (by decide) (by simp[execOp,scase,Act.eval])) hc (by simp[E];omega)) ?_;rw[Frame.finish_at];walk_nrm
  have F:cb<w.heap.size:=(bE.1 hc).1;refine LoneTo.goes (n:=7) ?_;s_c stepG_region_end
  s_c stepG_inBlock
  s_reg
  s_op
  s_op
  s_c stepG_region_end
  s_c stepG_inLoop
  s_stop
  have K:((i:Int)+1)=((i+1:Nat):Int):=by omega
  rw[K];refine ih (i+1) _ _ _ _ _ _ _ _ _ _ (ids++ [Value.int .i64 ((i+1:Nat):Int)]) (s+1) r (w.setChan cb n (ids++ [Value.int .i64 ((i+1:Nat):Int)]).toArray false (s+1) r false) (by omega) (by simp[E]) ?_ (heap_setChan _ _ _ _ _ _ _ _ F) fun v t k g o d e f q p b s' y w' H x z=>A v t k g o d e f q p b s' y w' ?_ (.inr ?_) z
  ·simp only[World.setChan,bS]
   rw[if_neg (Ne.symm B)];exact C
  ·rw[H,List.range_succ_eq_map]
   simp[Nat.add_comm,Nat.add_left_comm,Function.comp_def]
  ·rcases x with x|x
   ·subst x
    rw[heap_setChan _ _ _ _ _ _ _ _ F]at z;simp only[Option.some.injEq,Obj.chan.injEq]at z;obtain⟨_,N,_,J,L,_⟩:=z;rw[N,J,L]
   ·rw[x];simp[World.setChan]
set_option maxRecDepth 100000 in
set_option maxHeartbeats 4000000 in
theorem MM{n:Nat}{w:World}(A:1≤n)(b:n≤4096):Calls Tryz.prog 13 #[.int .i64 n] w fun e w'=>e=.returned (.tuple #[.pointer (some ⟨w.heap.size+1,0,none⟩),.int .i64 0])∧∃(ids:List Value) (s r:Nat),ids=(dK n).map (fun j=>Value.int .i64 ((0+j:Nat)+1:Int))∧w'.heap[w.heap.size]? =some (.chan n ids.toArray false s r false)∧(w'=(w.alloc (.chan n #[] false 0 0 false)).alloc (.cells #[.chan (some w.heap.size)] 111 (0,0))∨w'=((w.alloc (.chan n #[] false 0 0 false)).alloc (.cells #[.chan (some w.heap.size)] 111 (0,0))).setChan w.heap.size n ids.toArray false s r false):=by
 refine calls_of_loneTo fun cs=>?_
 have e:Frame.enter Tryz.prog 13 #[.int .i64 n] .normal=(base 13).at ⟨#[.int .i64 n,undef,undef,undef,undef,undef,undef,undef,undef,undef,undef,undef,undef,undef,undef,undef,undef,undef,undef,undef,undef,undef,undef,undef,undef,undef,undef,undef],[]⟩ [.code (Tryz.f13.body.getD .skip)]:=by
  simp[Frame.enter,Frame.at,Tryz.func13,base,Tryz.f13]
 rw[e];have o:=fun w=>mkc w n b
 have c1:¬((n:Int)<1):=by omega
 have z:¬(4096<(n:Int)):=by omega
 refine LoneTo.goes (n:=33) ?_;simp only[Tryz.f13,pu];s_c stepG_seq
 s_reg
 s_op
 s_op
 s_c stepG_region_end
 s_c stepG_seq
 s_c stepG_seq
 s_reg
 s_op
 s_op
 s_op
 s_op
 s_op
 s_op
 s_c stepG_region_end
 s_cond false
 s_c stepG_skip
 s_c stepG_seq
 s_reg
 s_op
 s_op
 s_op
 s_op
 s_op
 s_c stepG_region_end
 s_c stepG_seq
 s_c stepG_seq
 s_reg
 s_op
 s_op
 s_c stepG_region_end
 s_c stepG_block
 s_c stepG_loop
 s_stop
 have f:((w.alloc (.chan n #[] false 0 0 false)).alloc (.cells #[.chan (some w.heap.size)] 111 (0,0))).heap[w.heap.size+1]? =some (.cells #[.chan (some w.heap.size)] 111 (0,0)):=by
  have:=heap_alloc_new (w.alloc (.chan n #[] false 0 0 false)) (.cells #[.chan (some w.heap.size)] 111 (0,0));simpa using this
 have i:((w.alloc (.chan n #[] false 0 0 false)).alloc (.cells #[.chan (some w.heap.size)] 111 (0,0))).heap[w.heap.size]? =some (.chan n #[] false 0 0 false):=by
  show((w.heap.push (.chan n #[] false 0 0 false)).push (.cells #[.chan (some w.heap.size)] 111 (0,0)))[w.heap.size]? =_
  simp[i5]
 refine MN b (by omega) n 0 _ _ _ _ _ _ _ _ _ _ [] 0 0 _ (by omega) rfl f i fun B y q p t c k m x v ids s r w' g d u=>?_
 refine LoneTo.goes (n:=7) ?_;simp only[FY,Tryz.f13];s_c stepG_seq
 s_reg
 s_op
 s_op
 s_op
 s_c stepG_region_end
 s_c stepG_ret'
 s_stop
 refine LoneTo.done ⟨.returned (.tuple #[.pointer (some ⟨w.heap.size+1,0,none⟩),.int .i64 0]),_,rfl,⟨rfl,ids,s,r,by simpa[dK]using g,u,d⟩,rfl,rfl,rfl,rfl,_,Tryz.func13,by simp[results,Tryz.f13,Frame.at]⟩
theorem eH{md:Region.Mode}{ops:Array Oper}{fuel t:Nat}{listed:Array Bool}{rs:List Nat}(d:Region.ready md ops listed=rs)(c:rs≠[]):∃i∈rs,∃t',Region.linearise.go md ops (fuel+1) t listed []=i::Region.linearise.go md ops fuel t' (listed.setIfInBounds i true) []:=by
 subst d;simp only[Region.linearise.go];change∃i∈Region.ready md ops listed,∃t',(match(Region.ready md ops listed)[t%(Region.ready md ops listed).length]? with
  |some i=>Region.linearise.go md ops fuel (t/(Region.ready md ops listed).length) (listed.setIfInBounds i true) [i]
  |none=> [].reverse)=i::Region.linearise.go md ops fuel t' (listed.setIfInBounds i true) []
 have e:0<(Region.ready md ops listed).length:=List.length_pos_iff.2 c;have b:t%(Region.ready md ops listed).length<(Region.ready md ops listed).length:=Nat.mod_lt _ e;rw[List.getElem?_eq_getElem b];refine⟨_,List.getElem_mem b,t/(Region.ready md ops listed).length,?_⟩;simp only[];rw[linearise_go_acc];rfl
noncomputable abbrev ay:Array Oper:=match Tryz.f164.body with|some (.seq _ (.seq _ (.seq _ (.seq (.region _ o _) _))))=>o|_=> #[]
section
variable {pb tb cb:Nat} {id:Int} {u2 u3 u4 u5 u6 u7 u8 u9 u10 u11 u12 u13 u14 u15 u16 u17 u18 u19 u20 u21 u22:Value} {Q:Goroutine→World→Prop} {cs:List Frame} {kk:List Item} {w:World}
set_option maxRecDepth 100000
theorem Nj(f:w.cell? ⟨pb,0,none⟩=some (.chan (some cb)))(g:w.cell? ⟨tb,1,none⟩=some (.int .i64 id))(c:∀t,LoneTo Tryz.prog Q (G ((base 164).at ⟨#[.pointer (some ⟨pb,0,none⟩),.pointer (some ⟨tb,0,none⟩),u2,u3,u4,u5,u6,u7,u8,u9,u10,u11,u12,u13,u14,u15,u16,u17,u18,u19,u20,u21,u22,.pointer (some ⟨pb,0,none⟩),.pointer (some ⟨pb,0,none⟩),.pointer (some ⟨pb,0,none⟩),.chan (some cb),.pointer (some ⟨tb,0,none⟩),.pointer (some ⟨tb,0,none⟩),.pointer (some ⟨tb,1,none⟩),.int .i64 id],[]⟩ (.inRegion ay (Region.linearise.go .any ay 1 t #[true,true,true,true,true,true,true,true,false] [])::kk)) cs) w)(t:Nat):LoneTo Tryz.prog Q (G ((base 164).at ⟨#[.pointer (some ⟨pb,0,none⟩),.pointer (some ⟨tb,0,none⟩),u2,u3,u4,u5,u6,u7,u8,u9,u10,u11,u12,u13,u14,u15,u16,u17,u18,u19,u20,u21,u22,.pointer (some ⟨pb,0,none⟩),.pointer (some ⟨pb,0,none⟩),.pointer (some ⟨pb,0,none⟩),.chan (some cb),.pointer (some ⟨tb,0,none⟩),.pointer (some ⟨tb,0,none⟩),.pointer (some ⟨tb,1,none⟩),undef],[]⟩ (.inRegion ay (Region.linearise.go .any ay 2 t #[true,true,true,true,true,true,true,false,false] [])::kk)) cs) w:=by
 obtain⟨i,d,b,e⟩:=eH (md:=.any) (ops:=ay) (fuel:=1) (t:=t) (listed:= #[true,true,true,true,true,true,true,false,false]) (rs:= [7]) (by kernel_rfl) (by simp);rw[e];rw[ak.1 d];refine LoneTo.goes (n:=1) ?_;simp only[ay,Tryz.f164];s_op
 s_stop
 exact c b
theorem Nm(f:w.cell? ⟨pb,0,none⟩=some (.chan (some cb)))(g:w.cell? ⟨tb,1,none⟩=some (.int .i64 id))(c:∀t,LoneTo Tryz.prog Q (G ((base 164).at ⟨#[.pointer (some ⟨pb,0,none⟩),.pointer (some ⟨tb,0,none⟩),u2,u3,u4,u5,u6,u7,u8,u9,u10,u11,u12,u13,u14,u15,u16,u17,u18,u19,u20,u21,u22,.pointer (some ⟨pb,0,none⟩),.pointer (some ⟨pb,0,none⟩),.pointer (some ⟨pb,0,none⟩),.chan (some cb),.pointer (some ⟨tb,0,none⟩),.pointer (some ⟨tb,0,none⟩),.pointer (some ⟨tb,1,none⟩),.int .i64 id],[]⟩ (.inRegion ay (Region.linearise.go .any ay 1 t #[true,true,true,true,true,true,true,true,false] [])::kk)) cs) w)(t:Nat):LoneTo Tryz.prog Q (G ((base 164).at ⟨#[.pointer (some ⟨pb,0,none⟩),.pointer (some ⟨tb,0,none⟩),u2,u3,u4,u5,u6,u7,u8,u9,u10,u11,u12,u13,u14,u15,u16,u17,u18,u19,u20,u21,u22,.pointer (some ⟨pb,0,none⟩),.pointer (some ⟨pb,0,none⟩),.pointer (some ⟨pb,0,none⟩),undef,.pointer (some ⟨tb,0,none⟩),.pointer (some ⟨tb,0,none⟩),.pointer (some ⟨tb,1,none⟩),.int .i64 id],[]⟩ (.inRegion ay (Region.linearise.go .any ay 2 t #[true,true,true,false,true,true,true,true,false] [])::kk)) cs) w:=by
 obtain⟨i,d,b,e⟩:=eH (md:=.any) (ops:=ay) (fuel:=1) (t:=t) (listed:= #[true,true,true,false,true,true,true,true,false]) (rs:= [3]) (by kernel_rfl) (by simp);rw[e];rw[ak.1 d];refine LoneTo.goes (n:=1) ?_;simp only[ay,Tryz.f164];s_op
 s_stop
 exact c b
theorem Nk(f:w.cell? ⟨pb,0,none⟩=some (.chan (some cb)))(g:w.cell? ⟨tb,1,none⟩=some (.int .i64 id))(c:∀t,LoneTo Tryz.prog Q (G ((base 164).at ⟨#[.pointer (some ⟨pb,0,none⟩),.pointer (some ⟨tb,0,none⟩),u2,u3,u4,u5,u6,u7,u8,u9,u10,u11,u12,u13,u14,u15,u16,u17,u18,u19,u20,u21,u22,.pointer (some ⟨pb,0,none⟩),.pointer (some ⟨pb,0,none⟩),.pointer (some ⟨pb,0,none⟩),.chan (some cb),.pointer (some ⟨tb,0,none⟩),.pointer (some ⟨tb,0,none⟩),.pointer (some ⟨tb,1,none⟩),.int .i64 id],[]⟩ (.inRegion ay (Region.linearise.go .any ay 1 t #[true,true,true,true,true,true,true,true,false] [])::kk)) cs) w)(t:Nat):LoneTo Tryz.prog Q (G ((base 164).at ⟨#[.pointer (some ⟨pb,0,none⟩),.pointer (some ⟨tb,0,none⟩),u2,u3,u4,u5,u6,u7,u8,u9,u10,u11,u12,u13,u14,u15,u16,u17,u18,u19,u20,u21,u22,.pointer (some ⟨pb,0,none⟩),.pointer (some ⟨pb,0,none⟩),.pointer (some ⟨pb,0,none⟩),.chan (some cb),.pointer (some ⟨tb,0,none⟩),.pointer (some ⟨tb,0,none⟩),undef,undef],[]⟩ (.inRegion ay (Region.linearise.go .any ay 3 t #[true,true,true,true,true,true,false,false,false] [])::kk)) cs) w:=by
 obtain⟨i,d,b,e⟩:=eH (md:=.any) (ops:=ay) (fuel:=2) (t:=t) (listed:= #[true,true,true,true,true,true,false,false,false]) (rs:= [6]) (by kernel_rfl) (by simp);rw[e];rw[ak.1 d];refine LoneTo.goes (n:=1) ?_;simp only[ay,Tryz.f164];s_op
 s_stop
 exact Nj f g c b
theorem Nn(f:w.cell? ⟨pb,0,none⟩=some (.chan (some cb)))(g:w.cell? ⟨tb,1,none⟩=some (.int .i64 id))(d:∀t,LoneTo Tryz.prog Q (G ((base 164).at ⟨#[.pointer (some ⟨pb,0,none⟩),.pointer (some ⟨tb,0,none⟩),u2,u3,u4,u5,u6,u7,u8,u9,u10,u11,u12,u13,u14,u15,u16,u17,u18,u19,u20,u21,u22,.pointer (some ⟨pb,0,none⟩),.pointer (some ⟨pb,0,none⟩),.pointer (some ⟨pb,0,none⟩),.chan (some cb),.pointer (some ⟨tb,0,none⟩),.pointer (some ⟨tb,0,none⟩),.pointer (some ⟨tb,1,none⟩),.int .i64 id],[]⟩ (.inRegion ay (Region.linearise.go .any ay 1 t #[true,true,true,true,true,true,true,true,false] [])::kk)) cs) w)(t:Nat):LoneTo Tryz.prog Q (G ((base 164).at ⟨#[.pointer (some ⟨pb,0,none⟩),.pointer (some ⟨tb,0,none⟩),u2,u3,u4,u5,u6,u7,u8,u9,u10,u11,u12,u13,u14,u15,u16,u17,u18,u19,u20,u21,u22,.pointer (some ⟨pb,0,none⟩),.pointer (some ⟨pb,0,none⟩),.pointer (some ⟨pb,0,none⟩),undef,.pointer (some ⟨tb,0,none⟩),.pointer (some ⟨tb,0,none⟩),.pointer (some ⟨tb,1,none⟩),undef],[]⟩ (.inRegion ay (Region.linearise.go .any ay 3 t #[true,true,true,false,true,true,true,false,false] [])::kk)) cs) w:=by
 obtain⟨i,b,c,e⟩:=eH (md:=.any) (ops:=ay) (fuel:=2) (t:=t) (listed:= #[true,true,true,false,true,true,true,false,false]) (rs:= [3,7]) (by kernel_rfl) (by simp);rw[e];rcases ah.1 b with rfl|b
 ·skip
  refine LoneTo.goes (n:=1) ?_;simp only[ay,Tryz.f164];s_op
  s_stop
  exact Nj f g d c
 ·rw[ak.1 b]
  refine LoneTo.goes (n:=1) ?_;simp only[ay,Tryz.f164];s_op
  s_stop
  exact Nm f g d c
theorem Nr(f:w.cell? ⟨pb,0,none⟩=some (.chan (some cb)))(g:w.cell? ⟨tb,1,none⟩=some (.int .i64 id))(c:∀t,LoneTo Tryz.prog Q (G ((base 164).at ⟨#[.pointer (some ⟨pb,0,none⟩),.pointer (some ⟨tb,0,none⟩),u2,u3,u4,u5,u6,u7,u8,u9,u10,u11,u12,u13,u14,u15,u16,u17,u18,u19,u20,u21,u22,.pointer (some ⟨pb,0,none⟩),.pointer (some ⟨pb,0,none⟩),.pointer (some ⟨pb,0,none⟩),.chan (some cb),.pointer (some ⟨tb,0,none⟩),.pointer (some ⟨tb,0,none⟩),.pointer (some ⟨tb,1,none⟩),.int .i64 id],[]⟩ (.inRegion ay (Region.linearise.go .any ay 1 t #[true,true,true,true,true,true,true,true,false] [])::kk)) cs) w)(t:Nat):LoneTo Tryz.prog Q (G ((base 164).at ⟨#[.pointer (some ⟨pb,0,none⟩),.pointer (some ⟨tb,0,none⟩),u2,u3,u4,u5,u6,u7,u8,u9,u10,u11,u12,u13,u14,u15,u16,u17,u18,u19,u20,u21,u22,.pointer (some ⟨pb,0,none⟩),.pointer (some ⟨pb,0,none⟩),undef,undef,.pointer (some ⟨tb,0,none⟩),.pointer (some ⟨tb,0,none⟩),.pointer (some ⟨tb,1,none⟩),.int .i64 id],[]⟩ (.inRegion ay (Region.linearise.go .any ay 3 t #[true,true,false,false,true,true,true,true,false] [])::kk)) cs) w:=by
 obtain⟨i,d,b,e⟩:=eH (md:=.any) (ops:=ay) (fuel:=2) (t:=t) (listed:= #[true,true,false,false,true,true,true,true,false]) (rs:= [2]) (by kernel_rfl) (by simp);rw[e];rw[ak.1 d];refine LoneTo.goes (n:=1) ?_;simp only[ay,Tryz.f164];s_op
 s_stop
 exact Nm f g c b
theorem Nl(f:w.cell? ⟨pb,0,none⟩=some (.chan (some cb)))(g:w.cell? ⟨tb,1,none⟩=some (.int .i64 id))(c:∀t,LoneTo Tryz.prog Q (G ((base 164).at ⟨#[.pointer (some ⟨pb,0,none⟩),.pointer (some ⟨tb,0,none⟩),u2,u3,u4,u5,u6,u7,u8,u9,u10,u11,u12,u13,u14,u15,u16,u17,u18,u19,u20,u21,u22,.pointer (some ⟨pb,0,none⟩),.pointer (some ⟨pb,0,none⟩),.pointer (some ⟨pb,0,none⟩),.chan (some cb),.pointer (some ⟨tb,0,none⟩),.pointer (some ⟨tb,0,none⟩),.pointer (some ⟨tb,1,none⟩),.int .i64 id],[]⟩ (.inRegion ay (Region.linearise.go .any ay 1 t #[true,true,true,true,true,true,true,true,false] [])::kk)) cs) w)(t:Nat):LoneTo Tryz.prog Q (G ((base 164).at ⟨#[.pointer (some ⟨pb,0,none⟩),.pointer (some ⟨tb,0,none⟩),u2,u3,u4,u5,u6,u7,u8,u9,u10,u11,u12,u13,u14,u15,u16,u17,u18,u19,u20,u21,u22,.pointer (some ⟨pb,0,none⟩),.pointer (some ⟨pb,0,none⟩),.pointer (some ⟨pb,0,none⟩),.chan (some cb),.pointer (some ⟨tb,0,none⟩),undef,undef,undef],[]⟩ (.inRegion ay (Region.linearise.go .any ay 4 t #[true,true,true,true,true,false,false,false,false] [])::kk)) cs) w:=by
 obtain⟨i,d,b,e⟩:=eH (md:=.any) (ops:=ay) (fuel:=3) (t:=t) (listed:= #[true,true,true,true,true,false,false,false,false]) (rs:= [5]) (by kernel_rfl) (by simp);rw[e];rw[ak.1 d];refine LoneTo.goes (n:=1) ?_;simp only[ay,Tryz.f164];s_op
 s_stop
 exact Nk f g c b
theorem Np(f:w.cell? ⟨pb,0,none⟩=some (.chan (some cb)))(g:w.cell? ⟨tb,1,none⟩=some (.int .i64 id))(d:∀t,LoneTo Tryz.prog Q (G ((base 164).at ⟨#[.pointer (some ⟨pb,0,none⟩),.pointer (some ⟨tb,0,none⟩),u2,u3,u4,u5,u6,u7,u8,u9,u10,u11,u12,u13,u14,u15,u16,u17,u18,u19,u20,u21,u22,.pointer (some ⟨pb,0,none⟩),.pointer (some ⟨pb,0,none⟩),.pointer (some ⟨pb,0,none⟩),.chan (some cb),.pointer (some ⟨tb,0,none⟩),.pointer (some ⟨tb,0,none⟩),.pointer (some ⟨tb,1,none⟩),.int .i64 id],[]⟩ (.inRegion ay (Region.linearise.go .any ay 1 t #[true,true,true,true,true,true,true,true,false] [])::kk)) cs) w)(t:Nat):LoneTo Tryz.prog Q (G ((base 164).at ⟨#[.pointer (some ⟨pb,0,none⟩),.pointer (some ⟨tb,0,none⟩),u2,u3,u4,u5,u6,u7,u8,u9,u10,u11,u12,u13,u14,u15,u16,u17,u18,u19,u20,u21,u22,.pointer (some ⟨pb,0,none⟩),.pointer (some ⟨pb,0,none⟩),.pointer (some ⟨pb,0,none⟩),undef,.pointer (some ⟨tb,0,none⟩),.pointer (some ⟨tb,0,none⟩),undef,undef],[]⟩ (.inRegion ay (Region.linearise.go .any ay 4 t #[true,true,true,false,true,true,false,false,false] [])::kk)) cs) w:=by
 obtain⟨i,b,c,e⟩:=eH (md:=.any) (ops:=ay) (fuel:=3) (t:=t) (listed:= #[true,true,true,false,true,true,false,false,false]) (rs:= [3,6]) (by kernel_rfl) (by simp);rw[e];rcases ah.1 b with rfl|b
 ·skip
  refine LoneTo.goes (n:=1) ?_;simp only[ay,Tryz.f164];s_op
  s_stop
  exact Nk f g d c
 ·rw[ak.1 b]
  refine LoneTo.goes (n:=1) ?_;simp only[ay,Tryz.f164];s_op
  s_stop
  exact Nn f g d c
theorem Ns(f:w.cell? ⟨pb,0,none⟩=some (.chan (some cb)))(g:w.cell? ⟨tb,1,none⟩=some (.int .i64 id))(d:∀t,LoneTo Tryz.prog Q (G ((base 164).at ⟨#[.pointer (some ⟨pb,0,none⟩),.pointer (some ⟨tb,0,none⟩),u2,u3,u4,u5,u6,u7,u8,u9,u10,u11,u12,u13,u14,u15,u16,u17,u18,u19,u20,u21,u22,.pointer (some ⟨pb,0,none⟩),.pointer (some ⟨pb,0,none⟩),.pointer (some ⟨pb,0,none⟩),.chan (some cb),.pointer (some ⟨tb,0,none⟩),.pointer (some ⟨tb,0,none⟩),.pointer (some ⟨tb,1,none⟩),.int .i64 id],[]⟩ (.inRegion ay (Region.linearise.go .any ay 1 t #[true,true,true,true,true,true,true,true,false] [])::kk)) cs) w)(t:Nat):LoneTo Tryz.prog Q (G ((base 164).at ⟨#[.pointer (some ⟨pb,0,none⟩),.pointer (some ⟨tb,0,none⟩),u2,u3,u4,u5,u6,u7,u8,u9,u10,u11,u12,u13,u14,u15,u16,u17,u18,u19,u20,u21,u22,.pointer (some ⟨pb,0,none⟩),.pointer (some ⟨pb,0,none⟩),undef,undef,.pointer (some ⟨tb,0,none⟩),.pointer (some ⟨tb,0,none⟩),.pointer (some ⟨tb,1,none⟩),undef],[]⟩ (.inRegion ay (Region.linearise.go .any ay 4 t #[true,true,false,false,true,true,true,false,false] [])::kk)) cs) w:=by
 obtain⟨i,b,c,e⟩:=eH (md:=.any) (ops:=ay) (fuel:=3) (t:=t) (listed:= #[true,true,false,false,true,true,true,false,false]) (rs:= [2,7]) (by kernel_rfl) (by simp);rw[e];rcases ah.1 b with rfl|b
 ·skip
  refine LoneTo.goes (n:=1) ?_;simp only[ay,Tryz.f164];s_op
  s_stop
  exact Nn f g d c
 ·rw[ak.1 b]
  refine LoneTo.goes (n:=1) ?_;simp only[ay,Tryz.f164];s_op
  s_stop
  exact Nr f g d c
theorem Nv(f:w.cell? ⟨pb,0,none⟩=some (.chan (some cb)))(g:w.cell? ⟨tb,1,none⟩=some (.int .i64 id))(c:∀t,LoneTo Tryz.prog Q (G ((base 164).at ⟨#[.pointer (some ⟨pb,0,none⟩),.pointer (some ⟨tb,0,none⟩),u2,u3,u4,u5,u6,u7,u8,u9,u10,u11,u12,u13,u14,u15,u16,u17,u18,u19,u20,u21,u22,.pointer (some ⟨pb,0,none⟩),.pointer (some ⟨pb,0,none⟩),.pointer (some ⟨pb,0,none⟩),.chan (some cb),.pointer (some ⟨tb,0,none⟩),.pointer (some ⟨tb,0,none⟩),.pointer (some ⟨tb,1,none⟩),.int .i64 id],[]⟩ (.inRegion ay (Region.linearise.go .any ay 1 t #[true,true,true,true,true,true,true,true,false] [])::kk)) cs) w)(t:Nat):LoneTo Tryz.prog Q (G ((base 164).at ⟨#[.pointer (some ⟨pb,0,none⟩),.pointer (some ⟨tb,0,none⟩),u2,u3,u4,u5,u6,u7,u8,u9,u10,u11,u12,u13,u14,u15,u16,u17,u18,u19,u20,u21,u22,.pointer (some ⟨pb,0,none⟩),undef,undef,undef,.pointer (some ⟨tb,0,none⟩),.pointer (some ⟨tb,0,none⟩),.pointer (some ⟨tb,1,none⟩),.int .i64 id],[]⟩ (.inRegion ay (Region.linearise.go .any ay 4 t #[true,false,false,false,true,true,true,true,false] [])::kk)) cs) w:=by
 obtain⟨i,d,b,e⟩:=eH (md:=.any) (ops:=ay) (fuel:=3) (t:=t) (listed:= #[true,false,false,false,true,true,true,true,false]) (rs:= [1]) (by kernel_rfl) (by simp);rw[e];rw[ak.1 d];refine LoneTo.goes (n:=1) ?_;simp only[ay,Tryz.f164];s_op
 s_stop
 exact Nr f g c b
theorem Qf(f:w.cell? ⟨pb,0,none⟩=some (.chan (some cb)))(g:w.cell? ⟨tb,1,none⟩=some (.int .i64 id))(c:∀t,LoneTo Tryz.prog Q (G ((base 164).at ⟨#[.pointer (some ⟨pb,0,none⟩),.pointer (some ⟨tb,0,none⟩),u2,u3,u4,u5,u6,u7,u8,u9,u10,u11,u12,u13,u14,u15,u16,u17,u18,u19,u20,u21,u22,.pointer (some ⟨pb,0,none⟩),.pointer (some ⟨pb,0,none⟩),.pointer (some ⟨pb,0,none⟩),.chan (some cb),.pointer (some ⟨tb,0,none⟩),.pointer (some ⟨tb,0,none⟩),.pointer (some ⟨tb,1,none⟩),.int .i64 id],[]⟩ (.inRegion ay (Region.linearise.go .any ay 1 t #[true,true,true,true,true,true,true,true,false] [])::kk)) cs) w)(t:Nat):LoneTo Tryz.prog Q (G ((base 164).at ⟨#[.pointer (some ⟨pb,0,none⟩),.pointer (some ⟨tb,0,none⟩),u2,u3,u4,u5,u6,u7,u8,u9,u10,u11,u12,u13,u14,u15,u16,u17,u18,u19,u20,u21,u22,.pointer (some ⟨pb,0,none⟩),.pointer (some ⟨pb,0,none⟩),.pointer (some ⟨pb,0,none⟩),.chan (some cb),undef,undef,undef,undef],[]⟩ (.inRegion ay (Region.linearise.go .any ay 5 t #[true,true,true,true,false,false,false,false,false] [])::kk)) cs) w:=by
 obtain⟨i,d,b,e⟩:=eH (md:=.any) (ops:=ay) (fuel:=4) (t:=t) (listed:= #[true,true,true,true,false,false,false,false,false]) (rs:= [4]) (by kernel_rfl) (by simp);rw[e];rw[ak.1 d];refine LoneTo.goes (n:=1) ?_;simp only[ay,Tryz.f164];s_op
 s_stop
 exact Nl f g c b
theorem Nq(f:w.cell? ⟨pb,0,none⟩=some (.chan (some cb)))(g:w.cell? ⟨tb,1,none⟩=some (.int .i64 id))(d:∀t,LoneTo Tryz.prog Q (G ((base 164).at ⟨#[.pointer (some ⟨pb,0,none⟩),.pointer (some ⟨tb,0,none⟩),u2,u3,u4,u5,u6,u7,u8,u9,u10,u11,u12,u13,u14,u15,u16,u17,u18,u19,u20,u21,u22,.pointer (some ⟨pb,0,none⟩),.pointer (some ⟨pb,0,none⟩),.pointer (some ⟨pb,0,none⟩),.chan (some cb),.pointer (some ⟨tb,0,none⟩),.pointer (some ⟨tb,0,none⟩),.pointer (some ⟨tb,1,none⟩),.int .i64 id],[]⟩ (.inRegion ay (Region.linearise.go .any ay 1 t #[true,true,true,true,true,true,true,true,false] [])::kk)) cs) w)(t:Nat):LoneTo Tryz.prog Q (G ((base 164).at ⟨#[.pointer (some ⟨pb,0,none⟩),.pointer (some ⟨tb,0,none⟩),u2,u3,u4,u5,u6,u7,u8,u9,u10,u11,u12,u13,u14,u15,u16,u17,u18,u19,u20,u21,u22,.pointer (some ⟨pb,0,none⟩),.pointer (some ⟨pb,0,none⟩),.pointer (some ⟨pb,0,none⟩),undef,.pointer (some ⟨tb,0,none⟩),undef,undef,undef],[]⟩ (.inRegion ay (Region.linearise.go .any ay 5 t #[true,true,true,false,true,false,false,false,false] [])::kk)) cs) w:=by
 obtain⟨i,b,c,e⟩:=eH (md:=.any) (ops:=ay) (fuel:=4) (t:=t) (listed:= #[true,true,true,false,true,false,false,false,false]) (rs:= [3,5]) (by kernel_rfl) (by simp);rw[e];rcases ah.1 b with rfl|b
 ·skip
  refine LoneTo.goes (n:=1) ?_;simp only[ay,Tryz.f164];s_op
  s_stop
  exact Nl f g d c
 ·rw[ak.1 b]
  refine LoneTo.goes (n:=1) ?_;simp only[ay,Tryz.f164];s_op
  s_stop
  exact Np f g d c
theorem Nt(f:w.cell? ⟨pb,0,none⟩=some (.chan (some cb)))(g:w.cell? ⟨tb,1,none⟩=some (.int .i64 id))(d:∀t,LoneTo Tryz.prog Q (G ((base 164).at ⟨#[.pointer (some ⟨pb,0,none⟩),.pointer (some ⟨tb,0,none⟩),u2,u3,u4,u5,u6,u7,u8,u9,u10,u11,u12,u13,u14,u15,u16,u17,u18,u19,u20,u21,u22,.pointer (some ⟨pb,0,none⟩),.pointer (some ⟨pb,0,none⟩),.pointer (some ⟨pb,0,none⟩),.chan (some cb),.pointer (some ⟨tb,0,none⟩),.pointer (some ⟨tb,0,none⟩),.pointer (some ⟨tb,1,none⟩),.int .i64 id],[]⟩ (.inRegion ay (Region.linearise.go .any ay 1 t #[true,true,true,true,true,true,true,true,false] [])::kk)) cs) w)(t:Nat):LoneTo Tryz.prog Q (G ((base 164).at ⟨#[.pointer (some ⟨pb,0,none⟩),.pointer (some ⟨tb,0,none⟩),u2,u3,u4,u5,u6,u7,u8,u9,u10,u11,u12,u13,u14,u15,u16,u17,u18,u19,u20,u21,u22,.pointer (some ⟨pb,0,none⟩),.pointer (some ⟨pb,0,none⟩),undef,undef,.pointer (some ⟨tb,0,none⟩),.pointer (some ⟨tb,0,none⟩),undef,undef],[]⟩ (.inRegion ay (Region.linearise.go .any ay 5 t #[true,true,false,false,true,true,false,false,false] [])::kk)) cs) w:=by
 obtain⟨i,b,c,e⟩:=eH (md:=.any) (ops:=ay) (fuel:=4) (t:=t) (listed:= #[true,true,false,false,true,true,false,false,false]) (rs:= [2,6]) (by kernel_rfl) (by simp);rw[e];rcases ah.1 b with rfl|b
 ·skip
  refine LoneTo.goes (n:=1) ?_;simp only[ay,Tryz.f164];s_op
  s_stop
  exact Np f g d c
 ·rw[ak.1 b]
  refine LoneTo.goes (n:=1) ?_;simp only[ay,Tryz.f164];s_op
  s_stop
  exact Ns f g d c
theorem Nw(f:w.cell? ⟨pb,0,none⟩=some (.chan (some cb)))(g:w.cell? ⟨tb,1,none⟩=some (.int .i64 id))(d:∀t,LoneTo Tryz.prog Q (G ((base 164).at ⟨#[.pointer (some ⟨pb,0,none⟩),.pointer (some ⟨tb,0,none⟩),u2,u3,u4,u5,u6,u7,u8,u9,u10,u11,u12,u13,u14,u15,u16,u17,u18,u19,u20,u21,u22,.pointer (some ⟨pb,0,none⟩),.pointer (some ⟨pb,0,none⟩),.pointer (some ⟨pb,0,none⟩),.chan (some cb),.pointer (some ⟨tb,0,none⟩),.pointer (some ⟨tb,0,none⟩),.pointer (some ⟨tb,1,none⟩),.int .i64 id],[]⟩ (.inRegion ay (Region.linearise.go .any ay 1 t #[true,true,true,true,true,true,true,true,false] [])::kk)) cs) w)(t:Nat):LoneTo Tryz.prog Q (G ((base 164).at ⟨#[.pointer (some ⟨pb,0,none⟩),.pointer (some ⟨tb,0,none⟩),u2,u3,u4,u5,u6,u7,u8,u9,u10,u11,u12,u13,u14,u15,u16,u17,u18,u19,u20,u21,u22,.pointer (some ⟨pb,0,none⟩),undef,undef,undef,.pointer (some ⟨tb,0,none⟩),.pointer (some ⟨tb,0,none⟩),.pointer (some ⟨tb,1,none⟩),undef],[]⟩ (.inRegion ay (Region.linearise.go .any ay 5 t #[true,false,false,false,true,true,true,false,false] [])::kk)) cs) w:=by
 obtain⟨i,b,c,e⟩:=eH (md:=.any) (ops:=ay) (fuel:=4) (t:=t) (listed:= #[true,false,false,false,true,true,true,false,false]) (rs:= [1,7]) (by kernel_rfl) (by simp);rw[e];rcases ah.1 b with rfl|b
 ·skip
  refine LoneTo.goes (n:=1) ?_;simp only[ay,Tryz.f164];s_op
  s_stop
  exact Ns f g d c
 ·rw[ak.1 b]
  refine LoneTo.goes (n:=1) ?_;simp only[ay,Tryz.f164];s_op
  s_stop
  exact Nv f g d c
theorem Qj(f:w.cell? ⟨pb,0,none⟩=some (.chan (some cb)))(g:w.cell? ⟨tb,1,none⟩=some (.int .i64 id))(c:∀t,LoneTo Tryz.prog Q (G ((base 164).at ⟨#[.pointer (some ⟨pb,0,none⟩),.pointer (some ⟨tb,0,none⟩),u2,u3,u4,u5,u6,u7,u8,u9,u10,u11,u12,u13,u14,u15,u16,u17,u18,u19,u20,u21,u22,.pointer (some ⟨pb,0,none⟩),.pointer (some ⟨pb,0,none⟩),.pointer (some ⟨pb,0,none⟩),.chan (some cb),.pointer (some ⟨tb,0,none⟩),.pointer (some ⟨tb,0,none⟩),.pointer (some ⟨tb,1,none⟩),.int .i64 id],[]⟩ (.inRegion ay (Region.linearise.go .any ay 1 t #[true,true,true,true,true,true,true,true,false] [])::kk)) cs) w)(t:Nat):LoneTo Tryz.prog Q (G ((base 164).at ⟨#[.pointer (some ⟨pb,0,none⟩),.pointer (some ⟨tb,0,none⟩),u2,u3,u4,u5,u6,u7,u8,u9,u10,u11,u12,u13,u14,u15,u16,u17,u18,u19,u20,u21,u22,undef,undef,undef,undef,.pointer (some ⟨tb,0,none⟩),.pointer (some ⟨tb,0,none⟩),.pointer (some ⟨tb,1,none⟩),.int .i64 id],[]⟩ (.inRegion ay (Region.linearise.go .any ay 5 t #[false,false,false,false,true,true,true,true,false] [])::kk)) cs) w:=by
 obtain⟨i,d,b,e⟩:=eH (md:=.any) (ops:=ay) (fuel:=4) (t:=t) (listed:= #[false,false,false,false,true,true,true,true,false]) (rs:= [0]) (by kernel_rfl) (by simp);rw[e];rw[ak.1 d];refine LoneTo.goes (n:=1) ?_;simp only[ay,Tryz.f164];s_op
 s_stop
 exact Nv f g c b
theorem Qg(f:w.cell? ⟨pb,0,none⟩=some (.chan (some cb)))(g:w.cell? ⟨tb,1,none⟩=some (.int .i64 id))(d:∀t,LoneTo Tryz.prog Q (G ((base 164).at ⟨#[.pointer (some ⟨pb,0,none⟩),.pointer (some ⟨tb,0,none⟩),u2,u3,u4,u5,u6,u7,u8,u9,u10,u11,u12,u13,u14,u15,u16,u17,u18,u19,u20,u21,u22,.pointer (some ⟨pb,0,none⟩),.pointer (some ⟨pb,0,none⟩),.pointer (some ⟨pb,0,none⟩),.chan (some cb),.pointer (some ⟨tb,0,none⟩),.pointer (some ⟨tb,0,none⟩),.pointer (some ⟨tb,1,none⟩),.int .i64 id],[]⟩ (.inRegion ay (Region.linearise.go .any ay 1 t #[true,true,true,true,true,true,true,true,false] [])::kk)) cs) w)(t:Nat):LoneTo Tryz.prog Q (G ((base 164).at ⟨#[.pointer (some ⟨pb,0,none⟩),.pointer (some ⟨tb,0,none⟩),u2,u3,u4,u5,u6,u7,u8,u9,u10,u11,u12,u13,u14,u15,u16,u17,u18,u19,u20,u21,u22,.pointer (some ⟨pb,0,none⟩),.pointer (some ⟨pb,0,none⟩),.pointer (some ⟨pb,0,none⟩),undef,undef,undef,undef,undef],[]⟩ (.inRegion ay (Region.linearise.go .any ay 6 t #[true,true,true,false,false,false,false,false,false] [])::kk)) cs) w:=by
 obtain⟨i,b,c,e⟩:=eH (md:=.any) (ops:=ay) (fuel:=5) (t:=t) (listed:= #[true,true,true,false,false,false,false,false,false]) (rs:= [3,4]) (by kernel_rfl) (by simp);rw[e];rcases ah.1 b with rfl|b
 ·skip
  refine LoneTo.goes (n:=1) ?_;simp only[ay,Tryz.f164];s_op
  s_stop
  exact Qf f g d c
 ·rw[ak.1 b]
  refine LoneTo.goes (n:=1) ?_;simp only[ay,Tryz.f164];s_op
  s_stop
  exact Nq f g d c
theorem Nu(f:w.cell? ⟨pb,0,none⟩=some (.chan (some cb)))(g:w.cell? ⟨tb,1,none⟩=some (.int .i64 id))(d:∀t,LoneTo Tryz.prog Q (G ((base 164).at ⟨#[.pointer (some ⟨pb,0,none⟩),.pointer (some ⟨tb,0,none⟩),u2,u3,u4,u5,u6,u7,u8,u9,u10,u11,u12,u13,u14,u15,u16,u17,u18,u19,u20,u21,u22,.pointer (some ⟨pb,0,none⟩),.pointer (some ⟨pb,0,none⟩),.pointer (some ⟨pb,0,none⟩),.chan (some cb),.pointer (some ⟨tb,0,none⟩),.pointer (some ⟨tb,0,none⟩),.pointer (some ⟨tb,1,none⟩),.int .i64 id],[]⟩ (.inRegion ay (Region.linearise.go .any ay 1 t #[true,true,true,true,true,true,true,true,false] [])::kk)) cs) w)(t:Nat):LoneTo Tryz.prog Q (G ((base 164).at ⟨#[.pointer (some ⟨pb,0,none⟩),.pointer (some ⟨tb,0,none⟩),u2,u3,u4,u5,u6,u7,u8,u9,u10,u11,u12,u13,u14,u15,u16,u17,u18,u19,u20,u21,u22,.pointer (some ⟨pb,0,none⟩),.pointer (some ⟨pb,0,none⟩),undef,undef,.pointer (some ⟨tb,0,none⟩),undef,undef,undef],[]⟩ (.inRegion ay (Region.linearise.go .any ay 6 t #[true,true,false,false,true,false,false,false,false] [])::kk)) cs) w:=by
 obtain⟨i,b,c,e⟩:=eH (md:=.any) (ops:=ay) (fuel:=5) (t:=t) (listed:= #[true,true,false,false,true,false,false,false,false]) (rs:= [2,5]) (by kernel_rfl) (by simp);rw[e];rcases ah.1 b with rfl|b
 ·skip
  refine LoneTo.goes (n:=1) ?_;simp only[ay,Tryz.f164];s_op
  s_stop
  exact Nq f g d c
 ·rw[ak.1 b]
  refine LoneTo.goes (n:=1) ?_;simp only[ay,Tryz.f164];s_op
  s_stop
  exact Nt f g d c
theorem Nx(f:w.cell? ⟨pb,0,none⟩=some (.chan (some cb)))(g:w.cell? ⟨tb,1,none⟩=some (.int .i64 id))(d:∀t,LoneTo Tryz.prog Q (G ((base 164).at ⟨#[.pointer (some ⟨pb,0,none⟩),.pointer (some ⟨tb,0,none⟩),u2,u3,u4,u5,u6,u7,u8,u9,u10,u11,u12,u13,u14,u15,u16,u17,u18,u19,u20,u21,u22,.pointer (some ⟨pb,0,none⟩),.pointer (some ⟨pb,0,none⟩),.pointer (some ⟨pb,0,none⟩),.chan (some cb),.pointer (some ⟨tb,0,none⟩),.pointer (some ⟨tb,0,none⟩),.pointer (some ⟨tb,1,none⟩),.int .i64 id],[]⟩ (.inRegion ay (Region.linearise.go .any ay 1 t #[true,true,true,true,true,true,true,true,false] [])::kk)) cs) w)(t:Nat):LoneTo Tryz.prog Q (G ((base 164).at ⟨#[.pointer (some ⟨pb,0,none⟩),.pointer (some ⟨tb,0,none⟩),u2,u3,u4,u5,u6,u7,u8,u9,u10,u11,u12,u13,u14,u15,u16,u17,u18,u19,u20,u21,u22,.pointer (some ⟨pb,0,none⟩),undef,undef,undef,.pointer (some ⟨tb,0,none⟩),.pointer (some ⟨tb,0,none⟩),undef,undef],[]⟩ (.inRegion ay (Region.linearise.go .any ay 6 t #[true,false,false,false,true,true,false,false,false] [])::kk)) cs) w:=by
 obtain⟨i,b,c,e⟩:=eH (md:=.any) (ops:=ay) (fuel:=5) (t:=t) (listed:= #[true,false,false,false,true,true,false,false,false]) (rs:= [1,6]) (by kernel_rfl) (by simp);rw[e];rcases ah.1 b with rfl|b
 ·skip
  refine LoneTo.goes (n:=1) ?_;simp only[ay,Tryz.f164];s_op
  s_stop
  exact Nt f g d c
 ·rw[ak.1 b]
  refine LoneTo.goes (n:=1) ?_;simp only[ay,Tryz.f164];s_op
  s_stop
  exact Nw f g d c
theorem Qk(f:w.cell? ⟨pb,0,none⟩=some (.chan (some cb)))(g:w.cell? ⟨tb,1,none⟩=some (.int .i64 id))(d:∀t,LoneTo Tryz.prog Q (G ((base 164).at ⟨#[.pointer (some ⟨pb,0,none⟩),.pointer (some ⟨tb,0,none⟩),u2,u3,u4,u5,u6,u7,u8,u9,u10,u11,u12,u13,u14,u15,u16,u17,u18,u19,u20,u21,u22,.pointer (some ⟨pb,0,none⟩),.pointer (some ⟨pb,0,none⟩),.pointer (some ⟨pb,0,none⟩),.chan (some cb),.pointer (some ⟨tb,0,none⟩),.pointer (some ⟨tb,0,none⟩),.pointer (some ⟨tb,1,none⟩),.int .i64 id],[]⟩ (.inRegion ay (Region.linearise.go .any ay 1 t #[true,true,true,true,true,true,true,true,false] [])::kk)) cs) w)(t:Nat):LoneTo Tryz.prog Q (G ((base 164).at ⟨#[.pointer (some ⟨pb,0,none⟩),.pointer (some ⟨tb,0,none⟩),u2,u3,u4,u5,u6,u7,u8,u9,u10,u11,u12,u13,u14,u15,u16,u17,u18,u19,u20,u21,u22,undef,undef,undef,undef,.pointer (some ⟨tb,0,none⟩),.pointer (some ⟨tb,0,none⟩),.pointer (some ⟨tb,1,none⟩),undef],[]⟩ (.inRegion ay (Region.linearise.go .any ay 6 t #[false,false,false,false,true,true,true,false,false] [])::kk)) cs) w:=by
 obtain⟨i,b,c,e⟩:=eH (md:=.any) (ops:=ay) (fuel:=5) (t:=t) (listed:= #[false,false,false,false,true,true,true,false,false]) (rs:= [0,7]) (by kernel_rfl) (by simp);rw[e];rcases ah.1 b with rfl|b
 ·skip
  refine LoneTo.goes (n:=1) ?_;simp only[ay,Tryz.f164];s_op
  s_stop
  exact Nw f g d c
 ·rw[ak.1 b]
  refine LoneTo.goes (n:=1) ?_;simp only[ay,Tryz.f164];s_op
  s_stop
  exact Qj f g d c
theorem Qh(f:w.cell? ⟨pb,0,none⟩=some (.chan (some cb)))(g:w.cell? ⟨tb,1,none⟩=some (.int .i64 id))(d:∀t,LoneTo Tryz.prog Q (G ((base 164).at ⟨#[.pointer (some ⟨pb,0,none⟩),.pointer (some ⟨tb,0,none⟩),u2,u3,u4,u5,u6,u7,u8,u9,u10,u11,u12,u13,u14,u15,u16,u17,u18,u19,u20,u21,u22,.pointer (some ⟨pb,0,none⟩),.pointer (some ⟨pb,0,none⟩),.pointer (some ⟨pb,0,none⟩),.chan (some cb),.pointer (some ⟨tb,0,none⟩),.pointer (some ⟨tb,0,none⟩),.pointer (some ⟨tb,1,none⟩),.int .i64 id],[]⟩ (.inRegion ay (Region.linearise.go .any ay 1 t #[true,true,true,true,true,true,true,true,false] [])::kk)) cs) w)(t:Nat):LoneTo Tryz.prog Q (G ((base 164).at ⟨#[.pointer (some ⟨pb,0,none⟩),.pointer (some ⟨tb,0,none⟩),u2,u3,u4,u5,u6,u7,u8,u9,u10,u11,u12,u13,u14,u15,u16,u17,u18,u19,u20,u21,u22,.pointer (some ⟨pb,0,none⟩),.pointer (some ⟨pb,0,none⟩),undef,undef,undef,undef,undef,undef],[]⟩ (.inRegion ay (Region.linearise.go .any ay 7 t #[true,true,false,false,false,false,false,false,false] [])::kk)) cs) w:=by
 obtain⟨i,b,c,e⟩:=eH (md:=.any) (ops:=ay) (fuel:=6) (t:=t) (listed:= #[true,true,false,false,false,false,false,false,false]) (rs:= [2,4]) (by kernel_rfl) (by simp);rw[e];rcases ah.1 b with rfl|b
 ·skip
  refine LoneTo.goes (n:=1) ?_;simp only[ay,Tryz.f164];s_op
  s_stop
  exact Qg f g d c
 ·rw[ak.1 b]
  refine LoneTo.goes (n:=1) ?_;simp only[ay,Tryz.f164];s_op
  s_stop
  exact Nu f g d c
theorem Ny(f:w.cell? ⟨pb,0,none⟩=some (.chan (some cb)))(g:w.cell? ⟨tb,1,none⟩=some (.int .i64 id))(d:∀t,LoneTo Tryz.prog Q (G ((base 164).at ⟨#[.pointer (some ⟨pb,0,none⟩),.pointer (some ⟨tb,0,none⟩),u2,u3,u4,u5,u6,u7,u8,u9,u10,u11,u12,u13,u14,u15,u16,u17,u18,u19,u20,u21,u22,.pointer (some ⟨pb,0,none⟩),.pointer (some ⟨pb,0,none⟩),.pointer (some ⟨pb,0,none⟩),.chan (some cb),.pointer (some ⟨tb,0,none⟩),.pointer (some ⟨tb,0,none⟩),.pointer (some ⟨tb,1,none⟩),.int .i64 id],[]⟩ (.inRegion ay (Region.linearise.go .any ay 1 t #[true,true,true,true,true,true,true,true,false] [])::kk)) cs) w)(t:Nat):LoneTo Tryz.prog Q (G ((base 164).at ⟨#[.pointer (some ⟨pb,0,none⟩),.pointer (some ⟨tb,0,none⟩),u2,u3,u4,u5,u6,u7,u8,u9,u10,u11,u12,u13,u14,u15,u16,u17,u18,u19,u20,u21,u22,.pointer (some ⟨pb,0,none⟩),undef,undef,undef,.pointer (some ⟨tb,0,none⟩),undef,undef,undef],[]⟩ (.inRegion ay (Region.linearise.go .any ay 7 t #[true,false,false,false,true,false,false,false,false] [])::kk)) cs) w:=by
 obtain⟨i,b,c,e⟩:=eH (md:=.any) (ops:=ay) (fuel:=6) (t:=t) (listed:= #[true,false,false,false,true,false,false,false,false]) (rs:= [1,5]) (by kernel_rfl) (by simp);rw[e];rcases ah.1 b with rfl|b
 ·skip
  refine LoneTo.goes (n:=1) ?_;simp only[ay,Tryz.f164];s_op
  s_stop
  exact Nu f g d c
 ·rw[ak.1 b]
  refine LoneTo.goes (n:=1) ?_;simp only[ay,Tryz.f164];s_op
  s_stop
  exact Nx f g d c
theorem Ql(f:w.cell? ⟨pb,0,none⟩=some (.chan (some cb)))(g:w.cell? ⟨tb,1,none⟩=some (.int .i64 id))(d:∀t,LoneTo Tryz.prog Q (G ((base 164).at ⟨#[.pointer (some ⟨pb,0,none⟩),.pointer (some ⟨tb,0,none⟩),u2,u3,u4,u5,u6,u7,u8,u9,u10,u11,u12,u13,u14,u15,u16,u17,u18,u19,u20,u21,u22,.pointer (some ⟨pb,0,none⟩),.pointer (some ⟨pb,0,none⟩),.pointer (some ⟨pb,0,none⟩),.chan (some cb),.pointer (some ⟨tb,0,none⟩),.pointer (some ⟨tb,0,none⟩),.pointer (some ⟨tb,1,none⟩),.int .i64 id],[]⟩ (.inRegion ay (Region.linearise.go .any ay 1 t #[true,true,true,true,true,true,true,true,false] [])::kk)) cs) w)(t:Nat):LoneTo Tryz.prog Q (G ((base 164).at ⟨#[.pointer (some ⟨pb,0,none⟩),.pointer (some ⟨tb,0,none⟩),u2,u3,u4,u5,u6,u7,u8,u9,u10,u11,u12,u13,u14,u15,u16,u17,u18,u19,u20,u21,u22,undef,undef,undef,undef,.pointer (some ⟨tb,0,none⟩),.pointer (some ⟨tb,0,none⟩),undef,undef],[]⟩ (.inRegion ay (Region.linearise.go .any ay 7 t #[false,false,false,false,true,true,false,false,false] [])::kk)) cs) w:=by
 obtain⟨i,b,c,e⟩:=eH (md:=.any) (ops:=ay) (fuel:=6) (t:=t) (listed:= #[false,false,false,false,true,true,false,false,false]) (rs:= [0,6]) (by kernel_rfl) (by simp);rw[e];rcases ah.1 b with rfl|b
 ·skip
  refine LoneTo.goes (n:=1) ?_;simp only[ay,Tryz.f164];s_op
  s_stop
  exact Nx f g d c
 ·rw[ak.1 b]
  refine LoneTo.goes (n:=1) ?_;simp only[ay,Tryz.f164];s_op
  s_stop
  exact Qk f g d c
theorem Qi(f:w.cell? ⟨pb,0,none⟩=some (.chan (some cb)))(g:w.cell? ⟨tb,1,none⟩=some (.int .i64 id))(d:∀t,LoneTo Tryz.prog Q (G ((base 164).at ⟨#[.pointer (some ⟨pb,0,none⟩),.pointer (some ⟨tb,0,none⟩),u2,u3,u4,u5,u6,u7,u8,u9,u10,u11,u12,u13,u14,u15,u16,u17,u18,u19,u20,u21,u22,.pointer (some ⟨pb,0,none⟩),.pointer (some ⟨pb,0,none⟩),.pointer (some ⟨pb,0,none⟩),.chan (some cb),.pointer (some ⟨tb,0,none⟩),.pointer (some ⟨tb,0,none⟩),.pointer (some ⟨tb,1,none⟩),.int .i64 id],[]⟩ (.inRegion ay (Region.linearise.go .any ay 1 t #[true,true,true,true,true,true,true,true,false] [])::kk)) cs) w)(t:Nat):LoneTo Tryz.prog Q (G ((base 164).at ⟨#[.pointer (some ⟨pb,0,none⟩),.pointer (some ⟨tb,0,none⟩),u2,u3,u4,u5,u6,u7,u8,u9,u10,u11,u12,u13,u14,u15,u16,u17,u18,u19,u20,u21,u22,.pointer (some ⟨pb,0,none⟩),undef,undef,undef,undef,undef,undef,undef],[]⟩ (.inRegion ay (Region.linearise.go .any ay 8 t #[true,false,false,false,false,false,false,false,false] [])::kk)) cs) w:=by
 obtain⟨i,b,c,e⟩:=eH (md:=.any) (ops:=ay) (fuel:=7) (t:=t) (listed:= #[true,false,false,false,false,false,false,false,false]) (rs:= [1,4]) (by kernel_rfl) (by simp);rw[e];rcases ah.1 b with rfl|b
 ·skip
  refine LoneTo.goes (n:=1) ?_;simp only[ay,Tryz.f164];s_op
  s_stop
  exact Qh f g d c
 ·rw[ak.1 b]
  refine LoneTo.goes (n:=1) ?_;simp only[ay,Tryz.f164];s_op
  s_stop
  exact Ny f g d c
theorem Qm(f:w.cell? ⟨pb,0,none⟩=some (.chan (some cb)))(g:w.cell? ⟨tb,1,none⟩=some (.int .i64 id))(d:∀t,LoneTo Tryz.prog Q (G ((base 164).at ⟨#[.pointer (some ⟨pb,0,none⟩),.pointer (some ⟨tb,0,none⟩),u2,u3,u4,u5,u6,u7,u8,u9,u10,u11,u12,u13,u14,u15,u16,u17,u18,u19,u20,u21,u22,.pointer (some ⟨pb,0,none⟩),.pointer (some ⟨pb,0,none⟩),.pointer (some ⟨pb,0,none⟩),.chan (some cb),.pointer (some ⟨tb,0,none⟩),.pointer (some ⟨tb,0,none⟩),.pointer (some ⟨tb,1,none⟩),.int .i64 id],[]⟩ (.inRegion ay (Region.linearise.go .any ay 1 t #[true,true,true,true,true,true,true,true,false] [])::kk)) cs) w)(t:Nat):LoneTo Tryz.prog Q (G ((base 164).at ⟨#[.pointer (some ⟨pb,0,none⟩),.pointer (some ⟨tb,0,none⟩),u2,u3,u4,u5,u6,u7,u8,u9,u10,u11,u12,u13,u14,u15,u16,u17,u18,u19,u20,u21,u22,undef,undef,undef,undef,.pointer (some ⟨tb,0,none⟩),undef,undef,undef],[]⟩ (.inRegion ay (Region.linearise.go .any ay 8 t #[false,false,false,false,true,false,false,false,false] [])::kk)) cs) w:=by
 obtain⟨i,b,c,e⟩:=eH (md:=.any) (ops:=ay) (fuel:=7) (t:=t) (listed:= #[false,false,false,false,true,false,false,false,false]) (rs:= [0,5]) (by kernel_rfl) (by simp);rw[e];rcases ah.1 b with rfl|b
 ·skip
  refine LoneTo.goes (n:=1) ?_;simp only[ay,Tryz.f164];s_op
  s_stop
  exact Ny f g d c
 ·rw[ak.1 b]
  refine LoneTo.goes (n:=1) ?_;simp only[ay,Tryz.f164];s_op
  s_stop
  exact Ql f g d c
theorem Qn(f:w.cell? ⟨pb,0,none⟩=some (.chan (some cb)))(g:w.cell? ⟨tb,1,none⟩=some (.int .i64 id))(d:∀t,LoneTo Tryz.prog Q (G ((base 164).at ⟨#[.pointer (some ⟨pb,0,none⟩),.pointer (some ⟨tb,0,none⟩),u2,u3,u4,u5,u6,u7,u8,u9,u10,u11,u12,u13,u14,u15,u16,u17,u18,u19,u20,u21,u22,.pointer (some ⟨pb,0,none⟩),.pointer (some ⟨pb,0,none⟩),.pointer (some ⟨pb,0,none⟩),.chan (some cb),.pointer (some ⟨tb,0,none⟩),.pointer (some ⟨tb,0,none⟩),.pointer (some ⟨tb,1,none⟩),.int .i64 id],[]⟩ (.inRegion ay (Region.linearise.go .any ay 1 t #[true,true,true,true,true,true,true,true,false] [])::kk)) cs) w)(t:Nat):LoneTo Tryz.prog Q (G ((base 164).at ⟨#[.pointer (some ⟨pb,0,none⟩),.pointer (some ⟨tb,0,none⟩),u2,u3,u4,u5,u6,u7,u8,u9,u10,u11,u12,u13,u14,u15,u16,u17,u18,u19,u20,u21,u22,undef,undef,undef,undef,undef,undef,undef,undef],[]⟩ (.inRegion ay (Region.linearise.go .any ay 9 t #[false,false,false,false,false,false,false,false,false] [])::kk)) cs) w:=by
 obtain⟨i,b,c,e⟩:=eH (md:=.any) (ops:=ay) (fuel:=8) (t:=t) (listed:= #[false,false,false,false,false,false,false,false,false]) (rs:= [0,4]) (by kernel_rfl) (by simp);rw[e];rcases ah.1 b with rfl|b
 ·skip
  refine LoneTo.goes (n:=1) ?_;simp only[ay,Tryz.f164];s_op
  s_stop
  exact Qi f g d c
 ·rw[ak.1 b]
  refine LoneTo.goes (n:=1) ?_;simp only[ay,Tryz.f164];s_op
  s_stop
  exact Qm f g d c
end
theorem Ip{P:Program}{c:Bool}{b:Frame}{a:Act}{k:List Item}{cs:List Frame}{w:World}{id:Nat}{ops:Array Oper}:stepG P c (G (b.at a (.code (.region id ops true)::k)) cs) w=.go (G (b.at a (.inRegion ops (Region.schedule (P.follows .mixedOrders) ops (w.tape w.drawn (.order b.fn id)))::k)) cs) {w with drawn:=w.drawn+1}:=by
 simp[G,stepG,stepG.exec,Frame.at,choose,Sem.run,Question.forced,Question.cut]
set_option maxRecDepth 100000 in
theorem MO{w:World}{b:Nat}{c:Array Value}{t:TypeId}(k:w.heap[b]? =some (.cells c t (0,0))) (hc:0<c.size):(binOp .neq 66 (.pointer (some ⟨b,0,none⟩)) (.pointer (some ⟨b,0,none⟩))).run Tryz.prog w=.ok (.bool false) w:=by
 have e:Tryz.prog.underlying 66=some (.pointer 111):=by kernel_rfl
 have f:Nat.beq (bq Tryz.prog 111) 0=false:=by kernel_rfl
 have g:fK w.heap ⟨b,0,none⟩:=⟨c,t,k,hc⟩;have h:Py Tryz.prog 66 true (.pointer (some ⟨b,0,none⟩)) (.pointer (some ⟨b,0,none⟩)) (fun v _=>v=.bool false) w.heap:=by
  unfold Py;rw[e];simp only[];rw[f];refine⟨trivial,fun x y hx n=>?_,by simp⟩
  cases hx;cases n;exact⟨g,g⟩
 unfold Py at h;rw[e]at h;obtain⟨_,d,_⟩:=h;obtain⟨_,_,v,S,j,o,i⟩:=Bc (P:=Tryz.prog) (t:=66) (neg:=true) (x:=.pointer (some ⟨b,0,none⟩)) (y:=.pointer (some ⟨b,0,none⟩)) (K:=fun v S=>v=.bool false∧NY S w.heap) (h:=w.heap) (by
  unfold Py
  rw[e]
  simp only[]
  rw[f]
  exact⟨trivial,d,by simp,d⟩)
 obtain⟨rfl,m⟩:=j;exact i w m
set_option maxRecDepth 100000 in
set_option maxHeartbeats 4000000 in
theorem Ni{w:World}{pb tb cb cap s r:Nat}{id:Int}{buf:Array Value}(m:w.heap[pb]? =some (.cells #[.chan (some cb)] 111 (0,0))) (b:w.heap[tb]? =some (.cells #[.pointer (some ⟨pb,0,none⟩),.int .i64 id,.bool true] 179 (0,0))) (hc:w.heap[cb]? =some (.chan cap buf false s r false)) (u:buf.size<cap) (f:pb≠tb) (d:cb≠tb):
  Calls Tryz.prog 164 #[.pointer (some ⟨pb,0,none⟩),.pointer (some ⟨tb,0,none⟩)] w fun e w'=>e=.returned (.int .i64 0)∧∃n,w'=({w.setCell ⟨tb,2,none⟩ (.bool false)with drawn:=n}:World).setChan cb cap (buf.push (.int .i64 id)) false (s+1) r false:=by
 refine calls_of_loneTo fun cs=>?_
 have e:Frame.enter Tryz.prog 164 #[.pointer (some ⟨pb,0,none⟩),.pointer (some ⟨tb,0,none⟩)] .normal=(base 164).at ⟨#[.pointer (some ⟨pb,0,none⟩),.pointer (some ⟨tb,0,none⟩),undef,undef,undef,undef,undef,undef,undef,undef,undef,undef,undef,undef,undef,undef,undef,undef,undef,undef,undef,undef,undef,undef,undef,undef,undef,undef,undef,undef,undef],[]⟩ [.code (Tryz.f164.body.getD .skip)]:=by
  simp[Frame.enter,Frame.at,Tryz.func164,base,Tryz.f164]
 rw[e];have p:=xq b (i:=0) rfl;have v:=xq b (i:=2) rfl;have q:=Lk b (i:=2);have x:=MO m (by simp);refine LoneTo.goes (n:=52) ?_;simp only[Tryz.f164,pu];s_c stepG_seq
 s_reg
 s_op
 s_c stepG_region_end
 s_c stepG_seq
 s_c stepG_seq
 s_reg
 s_op
 s_op
 s_op
 s_op
 s_call Tryz.func68 (by kernel_rfl) Tryz.f68
 s_c stepG_seq
 s_reg
 s_op
 s_c stepG_region_end
 s_c stepG_seq
 s_reg
 s_op
 s_op
 s_op
 s_op
 s_op
 s_op
 s_op
 s_op
 s_op
 s_c stepG_region_end
 s_c stepG_ret'
 s_leave1 Tryz.func68
 s_op
 s_op
 s_op
 s_op
 s_op
 s_op
 s_op
 s_op
 s_op
 s_op
 s_c stepG_region_end
 s_cond false
 s_c stepG_skip
 s_c stepG_seq
 s_reg
 s_op
 s_op
 s_op
 s_op
 s_c stepG_region_end
 s_c stepG_seq
 s_in
 rw[Ip];simp only[goes_go];refine⟨trivial,?_⟩;s_stop
 have hm:Tryz.prog.follows .mixedOrders=true:=Tryz.mixed;simp only[Region.schedule,hm,Bool.true_or,if_true,Region.linearise];have k:=Upd.hset (M:=(· =tb)) w.heap (a:=⟨tb,2,none⟩) (.bool false) rfl
 have g:=k.get m (fun e=>f e)
 have j:=k.get hc (fun e=>d e)
 refine Qn (pb:=pb) (tb:=tb) (cb:=cb) (id:=id) (xq g (i:=0) rfl) ?_ (fun t=>?_) _
 ·show(w.setCell ⟨tb,2,none⟩ (.bool false)).cell? ⟨tb,1,none⟩=_
  rw[World.cell?_setCell_other _ _ _ _ (by simp)];exact xq b (i:=1) rfl
 ·obtain⟨i,o,y,e⟩:=eH (md:=.any) (ops:=ay) (fuel:=0) (t:=t) (listed:= #[true,true,true,true,true,true,true,true,false]) (rs:= [8]) (by kernel_rfl) (by simp)
  rw[e,ak.1 o];simp only[ay,Tryz.f164,Region.linearise.go,List.reverse_nil];refine LoneTo.step (step_lone_send_room (c:=cb) (cap:=cap) (buf:=buf) (s:=s) (r:=r) (tm:=false) (stepG_comm (cases:= #[scase cb (.int .i64 id) (.tuple #[])]) (blocking:=true) (shape:=.send) (w':={w.setCell ⟨tb,2,none⟩ (.bool false)with drawn:=w.drawn+1}) rfl rfl (by decide) (by simp[execOp,scase,Act.eval])) j u) ?_
  rw[Frame.finish_at];walk_nrm
  refine LoneTo.goes (n:=6) ?_;s_c stepG_region_end
  s_c stepG_seq
  s_reg
  s_op
  s_c stepG_region_end
  s_c stepG_ret'
  s_stop
  refine LoneTo.done ⟨.returned (.int .i64 0),_,rfl,⟨rfl,_,rfl⟩,rfl,rfl,rfl,rfl,_,Tryz.func164,by simp[results,Tryz.f164,Frame.at]⟩
end Go.Proofs
namespace Go.Proofs
open Go Go.Lift Go.Conc
def PoolAt(h:ac)(pb cb cap:Nat)(ids:List Int):Prop:=pb≠cb∧h[pb]? =some (.cells #[.chan (some cb)] 111 (0,0))∧∃s r,h[cb]? =some (.chan cap (ids.map fun i=>Value.int .i64 i).toArray false s r false)
theorem PoolAt.upd{M:Nat→Prop}{h h':ac}{pb cb cap:Nat}{ids:List Int}(p:PoolAt h pb cb cap ids)(k:Upd M h h')(d:¬M pb)(c:¬M cb):PoolAt h' pb cb cap ids:=let⟨n,a,s,r,b⟩:=p;⟨n,k.get a d,s,r,k.get b c⟩
theorem PoolAt.upd0{h h':ac}{pb cb cap:Nat}{ids:List Int}(p:PoolAt h pb cb cap ids)(k:Upd No h h'):PoolAt h' pb cb cap ids:=p.upd k id id
def TokAt(h:ac)(tb pb:Nat)(id:Int)(b:Bool):Prop:=h[tb]? =some (.cells #[.pointer (some ⟨pb,0,none⟩),.int .i64 id,.bool b] j4 (0,0))
theorem Ds{n:Nat}(q:1≤n)(t:n≤4096){h:ac}{K:Option Addr×Int→ac→Prop}(f:∀h',Upd No h h'→PoolAt h' (h.size+1) h.size n ((dK n).map fun j=>((j:Nat):Int)+1)→K (some ⟨h.size+1,0,none⟩,0) h'):HC PG B6 [.int .i64 n] [.c .ptr,.c (.int .i64)] K h:=by
 refine⟨fun w m=>.inl ⟨Tryz.call13 _ w,(MM q t (w:=w)).mono ?_⟩⟩
 subst m;rintro e w' ⟨rfl,ids,s,r,o,d,p⟩;have k1:Upd No w.heap ((w.heap.push (.chan n #[] false 0 0 false)).push (.cells #[.chan (some w.heap.size)] 111 (0,0))):=(Upd.push No w.heap _).tr (Upd.push No _ _);have b:ids=(((dK n).map fun j=>((j:Nat):Int)+1).map fun i=>Value.int .i64 i):=by rw[o];simp[Function.comp_def]
 have k:((w.heap.push (.chan n #[] false 0 0 false)).push (.cells #[.chan (some w.heap.size)] 111 (0,0)))[w.heap.size+1]? =some (.cells #[.chan (some w.heap.size)] 111 (0,0)):=by
  rw[i5,Array.size_push,if_pos rfl]
 rcases p with rfl|rfl
 ·refine⟨⟨rfl,rfl,rfl⟩,((some ⟨w.heap.size+1,0,none⟩,0):Option Addr×Int),rfl,f _ k1 ⟨by omega,k,s,r,?_⟩⟩
  rw[←b];exact d
 ·have c:=Upd.set (M:=(· =w.heap.size)) ((w.heap.push (.chan n #[] false 0 0 false)).push (.cells #[.chan (some w.heap.size)] 111 (0,0))) (.chan n ids.toArray false s r false) rfl
  refine⟨⟨rfl,rfl,rfl⟩,((some ⟨w.heap.size+1,0,none⟩,0):Option Addr×Int),rfl,f _ (k1.trans c fun y g=>.inr (by have g:y=w.heap.size:=g;omega)) ⟨by omega,c.get k (fun e=>by have e:w.heap.size+1=w.heap.size:=e;omega),s,r,?_⟩⟩
  rw[←b];exact d
theorem BZ{h:ac}{pb cb cap:Nat}{i:Int}{ids:List Int}(p:PoolAt h pb cb cap (i::ids)){K:Option Addr×Int→ac→Prop}(g:∀h',Upd (· =cb) h h'→PoolAt h' pb cb cap ids→TokAt h' h.size pb i true→K (some ⟨h.size,0,none⟩,0) h'):HC PG oe [.pointer (some ⟨pb,0,none⟩)] [.c .ptr,.c (.int .i64)] K h:=by
 obtain⟨n,c,s,r,hc⟩:=p;refine⟨fun w d=>.inl ⟨Tryz.call125 _ w,?_⟩⟩
 subst d;rw[List.map_cons]at hc;refine(KO c hc).mono ?_;rintro e w' ⟨rfl,rfl⟩;have f:cb<w.heap.size:=(bE.1 hc).1;have k1:=Upd.set (M:=(· =cb)) w.heap (.chan cap (ids.map fun i=>Value.int .i64 i).toArray false s (r+1) false) rfl
 have b:=k1.tr (Upd.push (· =cb) _ (.cells #[.pointer (some ⟨pb,0,none⟩),.int .i64 i,.bool true] j4 (0,0)))
 refine⟨⟨rfl,rfl,rfl⟩,((some ⟨w.heap.size,0,none⟩,0):Option Addr×Int),rfl,g _ b ⟨n,b.get c n,s,r+1,?_⟩ ?_⟩
 ·show((w.heap.setIfInBounds cb _).push _)[cb]? =_
  rw[i5,mD,if_neg (by omega),bS,if_pos rfl,if_pos f]
 ·show((w.heap.setIfInBounds cb _).push _)[w.heap.size]? =_
  rw[i5,mD,if_pos rfl]
theorem IQ{h:ac}{pb cb cap tb:Nat}{id:Int}{ids:List Int}(p:PoolAt h pb cb cap ids)(t:TokAt h tb pb id true)(u:ids.length<cap){K:Int→ac→Prop}(q:∀h',Upd (fun y=>y=cb∨y=tb) h h'→PoolAt h' pb cb cap (ids++ [id])→TokAt h' tb pb id false→K 0 h'):HC PG uv [.pointer (some ⟨pb,0,none⟩),.pointer (some ⟨tb,0,none⟩)] [.c (.int .i64)] K h:=by
 obtain⟨n,g,s,r,hc⟩:=p;have c:pb≠tb:=fun e=>by
  subst e;have:=g.symm.trans t;simp at this
 have b:cb≠tb:=fun e=>by
  subst e;have:=hc.symm.trans t;simp at this
 refine⟨fun w k=>.inl ⟨Tryz.call164 _ w,?_⟩⟩
 subst k;refine(Ni g t hc (by simpa using u) c b).mono ?_;rintro e w' ⟨rfl,m,rfl⟩;have k1:=Upd.hset (M:=(· =tb)) w.heap (a:=⟨tb,2,none⟩) (.bool false) rfl
 have d:=Upd.set (M:=(· =cb)) (hset w.heap ⟨tb,2,none⟩ (.bool false)) (.chan cap ((ids.map fun i=>Value.int .i64 i).toArray.push (.int .i64 id)) false (s+1) r false) rfl
 have o:cb<(hset w.heap ⟨tb,2,none⟩ (.bool false)).size:=aL (k1.get hc fun e=>b e)
 refine⟨⟨rfl,rfl,rfl⟩,(0:Int),rfl,q _ ((k1.mono fun y f=>.inl (.inr f)).trans d fun y f=>.inl (.inl f)) ⟨n,d.get (k1.get g fun e=>c e) (fun e=>n e),s+1,r,?_⟩ (d.get ?_ (fun e=>b e.symm))⟩
 ·show((hset w.heap ⟨tb,2,none⟩ (.bool false)).setIfInBounds cb _)[cb]? =_
  rw[bS,if_pos rfl,if_pos o];simp
 ·have j:w.heap[tb]? =some (.cells #[.pointer (some ⟨pb,0,none⟩),.int .i64 id,.bool true] j4 (0,0)):=t
  rw[mq j,dU j];rfl
end Go.Proofs
namespace Go.Proofs
open Go Go.Lift
section
variable {W:Nat→Prop} {h:ac} {sp vp:Nat} {s:VS} {sm:Option Nat} {last:Int} {pool:Option Addr} {o:LQ}
theorem Oq(v:VaultAt W h vp s)(b:h[sp]? =some (.cells (Mm vp sm last pool).toArray dQ (0,0))) {f:FuncId} {cap:Array Value} {id:Int} (q:id=0∨id∈ids s.L) {K:An→ac→Prop}
  (hc:∀B i,BaseOf s id B→Upd No h i→HC PG f ([GO B.1]++cap.toList) Bj (fun e h'=>Upd No i h'∧∀j b,h.size≤b→b<i.size→Upd (· =b) h' j→K e j) i):
  HC PG je [.pointer (some ⟨sp,0,none⟩),.int .u32 id,.func (.func f) #[] cap] Bj K h:=by
 refine uy (some ⟨sp,0,none⟩) id (.func (.func f) #[] cap) ?_;unfold pq ag ad cT nv xg xi Lf cp aw cI aF bJ af GH rE rl CL;refine bc fun w b1 k1=>⟨_,rfl,_,vc (k1.get0 b) 0,AM (v.upd0 k1) q fun B z i m=>?_⟩
 refine bc fun j b3 p=>cU (c:=jA sQ) (vs:=jA B.1) b3 rfl fun n g u=>aq.2 ?_
 have y:=m.size;have d:Upd No w n:=(m.tr p).own u y;have k:=k1.tr d;have D:=aL b1;have C:=d.size;refine⟨_,vc g 0,_,vc g 1,_,vc g 2,_,vc g 3,_,vc g 4,_,vc g 5,HV.mk' ?_⟩;refine(hc B n z k).mono fun e E ⟨x,o⟩=>?_
 exact pL (c:=zd) (e:=e) (x.get0 (d.get0 b1)) fun A t=>o A h.size (av _) (by omega) t
theorem OV{W:Nat→Prop}{h:ac}{kind:Int}{x:Hs}{t:Tr}{l:List Pr}(i:TreeIs W h kind x t l)(n:∀y,W y→y<h.size)(z:fk l)(C:l.length≤60000){yb:Nat}(A:h[yb]? =some (.cells (QG o).toArray eO (0,0))) {K:An→ac→Prop} (v:∀h',Upd No h h'→K (0,0,0,(look l o.2.2.2.1).getD ⟨#[]⟩,(look l o.2.2.2.1).isSome,0,bM,bM,bM,bM,bM) h'):
  HC PG lX [GO t,.pointer (some ⟨yb,0,none⟩)] Bj K h:=by
 refine xC t ⟨yb,0,none⟩ ?_;unfold qW ag ad cT xg cp aw cI aF af rl CL cG;refine bc fun B s g=>bc fun E w j=>?_
 have d:=j.get0 s;have b:=g.tr j;have f:=b.size;refine⟨_,vc d 0,_,vc d 1,_,vc d 2,_,vc d 3,_,vc d 4,_,vc d 5,_,vc (b.get0 A) 3,?_⟩;refine On (i.upd0 b) (fun y m=>Nat.lt_of_lt_of_le (n y m) f) z (by omega) o.2.2.2.1 fun D k=>?_
 have p:=g.size;exact pL (c:=zd) (e:=(0,0,0,(look l o.2.2.2.1).getD ⟨#[]⟩,(look l o.2.2.2.1).isSome,0,bM,bM,bM,bM,bM)) (k.get0 w) fun u q=>v u ((b.tr k).own q p)
theorem Mn(v:VaultAt W h vp s)(b:h[sp]? =some (.cells (Mm vp sm last pool).toArray dQ (0,0))) (u:o.2.2.2.2.2.1=0∨o.2.2.2.2.2.1∈ids s.L) (A:∀B,BaseOf s o.2.2.2.2.2.1 B→fk B.2∧B.2.length≤60000) {K:An→ac→Prop}
  (x:∀h' B,BaseOf s o.2.2.2.2.2.1 B→Upd No h h'→K (0,0,0,(look B.2 o.2.2.2.1).getD ⟨#[]⟩,(look B.2 o.2.2.2.1).isSome,0,bM,bM,bM,bM,bM) h'):
  HC PG km [.pointer (some ⟨sp,0,none⟩),E4 o] Bj K h:=by
 refine Ae (some ⟨sp,0,none⟩) o ?_;unfold tC ag cT xg xi cp aw cI aF GC;refine bc fun J b1 k1=>bc fun w b2 n=>?_
 have d:=k1.tr n;have c1:=n.get0 b1;have q:=k1.size;have F:=aL b2;refine⟨_,vc c1 5,Oq (cap:= #[.pointer (some ⟨h.size,0,none⟩)]) (v.upd0 d) (d.get0 b) u fun B I k i=>?_⟩
 obtain⟨C,z⟩:=A B k;have p:=v.upd0 (d.tr i);refine OV (k.is p) p.g.lt C z (i.get0 c1) fun H g=>?_
 refine⟨g,fun y G t E D=>?_⟩
 have f:Upd No w y:=(i.tr g).own D t;refine pL (c:=zd) (e:=(0,0,0,(look B.2 o.2.2.2.1).getD ⟨#[]⟩,(look B.2 o.2.2.2.1).isSome,0,bM,bM,bM,bM,bM)) (f.get0 b2) fun j m=>x j B k ((d.tr f).own m q)
end
theorem Ml{kind:Int}(m:kind=0∨kind=1){x:Hs}{h:ac}{K:Option Addr×Int→ac→Prop}
  (B:∀h' sp c gp gm tm bm nm t sm pb cb,VaultAt (fun y=>No y∨VS.M ⟨gp,gm,tm,bm,nm,kind,x,t,[],1,[],[],[]⟩ y) h' c ⟨gp,gm,tm,bm,nm,kind,x,t,[],1,[],[],[]⟩→h'[sp]? =some (.cells (Mm c (some sm) 0 (some ⟨pb,0,none⟩)).toArray dQ (0,0))→h'[sm]? =some (.map #[] 0)→PoolAt h' pb cb 16 ((dK 16).map fun j=>((j:Nat):Int)+1)→
   (∀y,VS.M ⟨gp,gm,tm,bm,nm,kind,x,t,[],1,[],[],[]⟩ y→h.size≤y∧y<cb)→h.size≤cb→cb<pb→pb<sm→sm<sp→c<cb→Upd No h h'→K (some ⟨sp,0,none⟩,0) h'):
  HC PG pU [.int .i64 kind,.agg #[.int .u64 x.k0,.int .u64 x.k1,.int .u64 x.mask]] [.c .ptr,.c (.int .i64)] K h:=by
 refine Cc kind (x.k0,x.k1,x.mask) ?_;unfold xd ad Hc El;refine bc fun G b1 k1=>⟨_,vc b1 0,_,vc b1 1,_,vc b1 2,?_⟩
 have E:=k1.size;refine JS (W:=No) (x:=x) (fun _ h=>h.elim) m fun w c gp gm tm bm nm t v D A u=>aq.2 ?_
 refine Ds (n:=16) (by omega) (by omega) fun e o p=>?_
 have d:=Upd.push No e (.map #[] 0);have f:=jN e (.map #[] 0);refine wK fun s i=>?_
 have i:s=e.push (.map #[] 0):=i;rw[←i]at d f;have F:=u.size;have C:=aL p.2.1;have z:=aL f;refine bc fun g k b=>B g s.size c gp gm tm bm nm t e.size (w.size+1) w.size (v.upd0 ((o.tr d).tr b)) k (b.get0 f) (p.upd0 (d.tr b)) (fun y q=>⟨by have:=A y q;omega,v.size q⟩) (by omega) (by omega) C z (aL v.blk) ((((k1.tr u).tr o).tr d).tr b)
end Go.Proofs
namespace Go.Proofs
open Go Go.Lift
abbrev Oh:List Kind:= [.agg [.int .i64,.int .u64,.int .u64,.int .u64,.ptr,.ptr],.c (.int .i64)]
abbrev Rx(pb tb:Nat)(t:Tr):List Value:= [.pointer (some ⟨pb,0,none⟩),.pointer (some ⟨tb,0,none⟩)]++jA t
def EdAt(h:ac)(eb pb tb:Nat)(t:Tr):Prop:=h[eb]? =some (.cells (Rx pb tb t).toArray pK (0,0))
theorem MR{h:ac}{tb pb:Nat}{ti:Int}{b:Bool}(k:TokAt h tb pb ti b){K:Bool→ac→Prop}(c:K b h):HC PG dI [.pointer (some ⟨tb,0,none⟩)] [.c .bool] K h:=by
 refine r9 _ ?_;unfold ns f8;exact aK.2 ⟨_,rfl,_,vc k 2,c⟩
theorem wH{h:ac}{eb pb tb:Nat}{t:Tr}{ti:Int}{b:Bool}(e:EdAt h eb pb tb t)(k:TokAt h tb pb ti b){K:Bool→ac→Prop}(c:K (!b) h):HC PG gV [.pointer (some ⟨eb,0,none⟩)] [.c .bool] K h:=by
 refine y7 _ ?_;unfold sI bJ;exact aK.2 ⟨_,rfl,_,vc e 1,MR k c⟩
theorem Fl{h:ac}{eb pb tb:Nat}{t:Tr}{ti:Int}{b:Bool}(e:EdAt h eb pb tb t)(k:TokAt h tb pb ti b){K:Int→ac→Prop}(c:K (if b then 0 else 5) h):HC PG pl [.pointer (some ⟨eb,0,none⟩)] [.c (.int .i64)] K h:=by
 refine BG _ ?_;unfold uP;refine aq.2 (wH e k ?_);cases b
 ·exact aK.2 c
 ·exact aq.2 c
theorem EdAt.upd{M:Nat→Prop}{h h':ac}{eb pb tb:Nat}{t:Tr}(e:EdAt h eb pb tb t)(k:Upd M h h')(hm:¬M eb):EdAt h' eb pb tb t:=k.get e hm
theorem TokAt.upd{M:Nat→Prop}{h h':ac}{tb pb:Nat}{ti:Int}{b:Bool}(e:TokAt h tb pb ti b)(k:Upd M h h')(hm:¬M tb):TokAt h' tb pb ti b:=k.get e hm
theorem Pz{h:ac}{eb pb tb cb cap:Nat}{ids:List Int}{c:Tr}{ti:Int}{b:Bool}(e:EdAt h eb pb tb c)(k:TokAt h tb pb ti b)(p:PoolAt h pb cb cap ids):eb≠cb∧eb≠tb∧tb≠cb:=by
 obtain⟨n,d,s,r,hc⟩:=p;refine⟨fun h=>?_,fun h=>?_,fun h=>?_⟩
 ·subst h;have:=e.symm.trans hc;simp at this
 ·subst h;have:=e.symm.trans k;simp at this
 ·subst h;have:=k.symm.trans hc;simp at this
theorem Jt{h:ac}{pb cb cap:Nat}{i:Int}{ids:List Int}(p:PoolAt h pb cb cap (i::ids))(t:Tr){K:Option Addr×Int→ac→Prop}(n:∀h' eb tb,Upd (· =cb) h h'→PoolAt h' pb cb cap ids→TokAt h' tb pb i true→EdAt h' eb pb tb t→h.size≤eb→h.size≤tb→K (some ⟨eb,0,none⟩,0) h'):HC PG vg [.pointer (some ⟨pb,0,none⟩),GO t] [.c .ptr,.c (.int .i64)] K h:=by
 refine Gz _ t ?_;unfold AA ag ad af rl QM;refine bc fun o b1 k1=>?_
 have u:=aL b1;have q:cb<h.size:=by obtain⟨_,_,_,_,hc⟩:=p;exact aL hc
 have f:=k1.size;refine BZ (p.upd0 k1) fun m c e g=>aq.2 ?_
 have b:=c.get b1 (show ¬h.size=cb by omega)
 have s:=c.size;refine⟨_,vc b 0,_,vc b 1,_,vc b 2,_,vc b 3,_,vc b 4,_,vc b 5,bc fun j k d=>?_⟩
 exact n j m.size o.size ((k1.wide.tr c).tr d.wide) (e.upd0 d) (g.upd d fun h=>h) k (by omega) f
theorem Js{h:ac}{eb pb tb cb cap:Nat}{ids:List Int}{i:Tr}{ti:Int}(e:EdAt h eb pb tb i)(k:TokAt h tb pb ti true)(p:PoolAt h pb cb cap ids)(s:ids.length<cap){K:Tr×Int→ac→Prop}(q:∀h',Upd (fun y=>y=cb∨y=tb) h h'→PoolAt h' pb cb cap (ids++ [ti])→TokAt h' tb pb ti false→EdAt h' eb pb tb i→K (i,0) h'):jH (some ⟨eb,0,none⟩) K h:=by
 obtain⟨E,A,C⟩:=Pz e k p;unfold jH ag ad cT dS di bJ af rE C4 pa;refine bc fun z b1 k1=>?_
 have x:cb<h.size:=by obtain⟨_,_,_,_,hc⟩:=p;exact aL hc
 have w:=aL k;have u:=k1.size;have f:=e.upd k1 fun h=>h
 refine Fl f (k.upd k1 fun h=>h) (aq.2 ⟨_,rfl,_,vc f 0,_,rfl,_,vc f 1,?_⟩)
 refine IQ (p.upd0 k1) (k.upd k1 fun h=>h) s fun v g t n=>?_
 have d:=f.upd g (by omega);refine⟨_,rfl,_,sO d 2 0,_,sO d 2 1,_,sO d 2 2,_,sO d 2 3,_,sO d 2 4,_,sO d 2 5,?_⟩;refine cU (c:=jA sQ) (vs:=jA i) (g.get b1 (by omega)) rfl fun o b3 b=>?_
 refine⟨_,vc b3 0,_,vc b3 1,_,vc b3 2,_,vc b3 3,_,vc b3 4,_,vc b3 5,?_⟩;have B:=g.size;have F:=aL e;obtain⟨_,j,_⟩:=id p;have D:=aL j;exact q o ((k1.wide.tr g).trans b fun y m=>.inr (by have m:y=h.size:=m;omega)) (t.upd b (by omega) (by omega)) (n.upd b (by omega)) (d.upd b (by omega))
theorem B7{h:ac}{eb pb tb cb cap:Nat}{ids:List Int}{b:Tr}{ti:Int}(e:EdAt h eb pb tb b)(k:TokAt h tb pb ti true)(p:PoolAt h pb cb cap ids)(d:ids.length<cap){K:Tr×Int→ac→Prop}(c:∀h',Upd (fun y=>y=cb∨y=tb) h h'→PoolAt h' pb cb cap (ids++ [ti])→TokAt h' tb pb ti false→EdAt h' eb pb tb b→K (b,0) h'):HC PG eS [.pointer (some ⟨eb,0,none⟩)] Oh K h:=
 sf _ (Js e k p d c)
theorem HF{h:ac}{eb pb tb:Nat}{d:Tr}{ti:Int}(e:EdAt h eb pb tb d)(k:TokAt h tb pb ti false){K:Tr×Int→ac→Prop}(g:∀h',Upd No h h'→K (sQ,5) h'):HC PG eS [.pointer (some ⟨eb,0,none⟩)] Oh K h:=by
 refine sf _ ?_;unfold jH ag ad cT dS di bJ af rE C4 pa;refine bc fun i b1 k1=>?_
 refine Fl (e.upd k1 fun h=>h) (k.upd k1 fun h=>h) (aK.2 ?_)
 refine cU (c:=jA sQ) (vs:=jA sQ) b1 rfl fun f b3 b=>?_
 exact⟨_,vc b3 0,_,vc b3 1,_,vc b3 2,_,vc b3 3,_,vc b3 4,_,vc b3 5,g f (k1.own b (av _))⟩
theorem Lo{h:ac}{eb pb tb cb cap:Nat}{i ti:Int}{ids m:List Int}{q:Tr}(e:EdAt h eb pb tb q)(k:TokAt h tb pb ti true)(p:PoolAt h pb cb cap ids)(X:ids.length<cap)(N:ids++ [ti]=i::m){K:Tr×Int→ac→Prop}
  (R:∀h' tb',Upd (fun y=>y=cb∨y=tb∨y=eb) h h'→PoolAt h' pb cb cap m→TokAt h' tb pb ti false→TokAt h' tb' pb i true→EdAt h' eb pb tb' q→h.size≤tb'→K (q,0) h'):HC PG pm [.pointer (some ⟨eb,0,none⟩)] Oh K h:=by
 obtain⟨Y,n2,W⟩:=Pz e k p;have ze:=aL e;have zt:=aL k;obtain⟨pn,C,_,_,hc⟩:=id p;have zp:=aL C;have zc:=aL hc;have P:pb≠tb:=fun h=>by subst h;have:=C.symm.trans k;simp at this
 have L:pb≠eb:=fun h=>by subst h;have:=C.symm.trans e;simp at this
 refine BH _ ?_;unfold uQ ag ad cT nv bJ af bV rE rl C4;refine bc fun S b1 k1=>B7 (e.upd k1 id) (k.upd k1 id) (p.upd0 k1) X fun Q v T U e3=>P0 (t:=q) fun I V o=>Join.plain (aK.2 ?_)
 have s1:=k1.size;have z1:=aL b1;have s3:=v.size;have s5:=o.size;have H:=e3.upd o id;have G:=T.upd0 o;have t5:=U.upd o id;rw[N]at G;refine⟨_,rfl,_,vc H 0,BZ G fun s f D u=>?_⟩
 have Z:=aL u;have RI:=f.size;have z:=H.upd f Y;refine⟨_,rfl,KH z (i:=1) (by simp) rfl fun F w b=>?_⟩
 have J:=o.get0 (v.get b1 (by omega));have n:=b.oth (f.get V (by omega)) (by omega);refine⟨_,vc n 0,_,vc n 1,_,vc n 2,_,vc n 3,_,vc n 4,_,vc n 5,?_⟩;refine cU (c:=jA sQ) (vs:=jA q) (b.oth (f.get J (by omega)) (by omega)) rfl fun A d g=>?_
 refine⟨_,vc d 0,_,vc d 1,_,vc d 2,_,vc d 3,_,vc d 4,_,vc d 5,?_⟩;have x:=(D.upd b (by omega) (by omega)).upd g (by omega) (by omega);refine R A I.size ?_ x (((t5.upd f W).upd b (by omega)).upd g (by omega)) ((u.upd b (by omega)).upd g (by omega)) ((EdAt.upd (t:=q) w (Upd.refl (fun _=>False) _) id).upd g (by omega)) (by omega)
 have O:Upd (fun y=>y=cb∨y=tb∨y=eb) S Q:=v.mono fun y j=>.inl (j.imp id .inl)
 have B:Upd (fun y=>y=cb∨y=tb∨y=eb) I s:=f.mono fun y j=>.inl (.inl j)
 have E:Upd (fun y=>y=cb∨y=tb∨y=eb) s F:=b.mono fun y j=>.inl (.inr (.inr j))
 exact((((k1.wide.tr O).tr o.wide).tr B).tr E).trans g fun y j=>.inr (by have j:y=h.size:=j;omega)
theorem Ge{h:ac}{eb pb tb:Nat}{b:Tr}{ti:Int}{lv:Bool}(e:EdAt h eb pb tb b)(k:TokAt h tb pb ti lv){K:Tr×Bool→ac→Prop}(g:∀h',Upd No h h'→K (if lv then sQ else b, !lv) h'):HC PG nb [.pointer (some ⟨eb,0,none⟩)] [.agg [.int .i64,.int .u64,.int .u64,.int .u64,.ptr,.ptr],.c .bool] K h:=by
 refine y6 _ ?_;unfold sH ag ad cT dS di bJ af rE C4;refine bc fun i b1 k1=>wH (e.upd k1 id) (k.upd k1 id) ?_
 have ed:=e.upd k1 id;cases lv
 ·refine aq.2 ⟨_,rfl,_,sO ed 2 0,_,sO ed 2 1,_,sO ed 2 2,_,sO ed 2 3,_,sO ed 2 4,_,sO ed 2 5,?_⟩
  exact cU (c:=jA sQ) (vs:=jA b) b1 rfl fun f b3 d=>⟨_,vc b3 0,_,vc b3 1,_,vc b3 2,_,vc b3 3,_,vc b3 4,_,vc b3 5,g f (k1.own d (av _))⟩
 ·exact aK.2 (cU (c:=jA sQ) (vs:=jA sQ) b1 rfl fun f b3 d=>⟨_,vc b3 0,_,vc b3 1,_,vc b3 2,_,vc b3 3,_,vc b3 4,_,vc b3 5,g f (k1.own d (av _))⟩)
end Go.Proofs
namespace Go.Proofs
open Go Go.Lift
section
variable {W:Nat→Prop} {h:ac} {sp vp:Nat} {s:VS} {sm:Option Nat} {last:Int} {pool:Option Addr} {o:LQ}
theorem VaultAt.hM(v:VaultAt W h vp s):∀y,s.M y→y<h.size:=fun y b=>v.g.lt y (v.w y b)
theorem HI(v:VaultAt W h vp s)(b:h[sp]? =some (.cells (Mm vp sm last pool).toArray dQ (0,0))) (ek:o.1=0) {K:An→ac→Prop} (p:∀h',Upd s.M h h'→VaultAt W h' vp {s with B:=if xy s.B s.L o.2.1 o.2.2.2.2.2.1 false=0 then my s.B o.2.1 o.2.2.2.2.2.1 else s.B}→K (xy s.B s.L o.2.1 o.2.2.2.2.2.1 false,0,0,⟨#[]⟩,false,0,bM,bM,bM,bM,bM) h'):
  HC PG bH [.pointer (some ⟨sp,0,none⟩),E4 o] Bj K h:=
 Fm (k:=0) ek (by omega) rfl fun q n c j i=>GT (v.pro c) (c.get0 b) fun h' u g=>⟨s.M,u,fun e=>by have:=v.hM _ e;omega,fun m d=>p m ((c.wide.tr u).trans d fun y f=>.inr (by have f:y=n:=f;omega)) ((g.own v.hM d j i).dn v.w)⟩
theorem NA(v:VaultAt W h vp s)(b:h[sp]? =some (.cells (Mm vp sm last pool).toArray dQ (0,0))) (d:¬s.M sp) (ek:o.1=4) {hd:Int} (F:cz s.B o.2.1=some hd) (p:hd=0∨hd∈ids s.L) {N:Nat} (x:N≤900) (q:∀B,BaseOf s hd B→Few N B.2) (n:o.2.2.2.1.size≤30) (m:o.2.2.2.2.1.size≤30) {id:Int} (i:(kJ s.L s.nx (nz [hd])).1=(id,0)) {K:An→ac→Prop}
  (w:∀h' B f,BaseOf s hd B→Upd s.M h h'→VaultAt W h' vp (yl s o.2.1 (f,jb (o.2.2.2.1,o.2.2.2.2.1) B.2) (nz [hd])).2→K (0,id,0,⟨#[]⟩,false,0,bM,bM,bM,bM,bM) h'):
  HC PG bH [.pointer (some ⟨sp,0,none⟩),E4 o] Bj K h:=
 Fm (k:=4) ek (by omega) rfl fun G A g z E=>Mj (v.pro g) (g.get0 b) d F p x q n m i fun h' B f C u D=>⟨s.M,u,fun e=>by have:=v.hM _ e;omega,fun t j=>w t B f C ((g.wide.tr u).trans j fun y c=>.inr (by have c:y=A:=c;omega)) ((D.own (fun y c=>v.hM y ((AK y).1 c)) j z E).dn fun y c=>v.w y ((AK y).1 c))⟩
theorem NB(v:VaultAt W h vp s)(b:h[sp]? =some (.cells (Mm vp sm last pool).toArray dQ (0,0))) (ek:o.1=10) (f:o.2.2.2.2.2.1=0∨o.2.2.2.2.2.1∈ids s.L) (m:∀B,BaseOf s o.2.2.2.2.2.1 B→fk B.2∧B.2.length≤60000) {K:An→ac→Prop}
  (i:∀h' B,BaseOf s o.2.2.2.2.2.1 B→Upd No h h'→K (0,0,0,(look B.2 o.2.2.2.1).getD ⟨#[]⟩,(look B.2 o.2.2.2.1).isSome,0,bM,bM,bM,bM,bM) h'):
  HC PG bH [.pointer (some ⟨sp,0,none⟩),E4 o] Bj K h:=
 Fm (k:=10) ek (by omega) rfl fun p n c d _=>Mn (v.upd0 c) (c.get0 b) f m fun h' B j u=>⟨No,u,fun h=>h,fun g e=>i g B j ((c.tr u).own e d)⟩
end
abbrev Dt:ByteArray:=⟨#[109,97,105,110]⟩
theorem Jz{h:ac}{K:Bool→ac→Prop}(X:∀h',Upd No h h'→K true h'):HC PG wB [] [.c .bool] K h:=by
 refine HX ?_;unfold Ck nv xg xi cp aw cI zg0;refine Ml (.inl rfl) (x:=⟨0,0,0⟩) fun h2 sp I gp gm tm bm nm t sm pb cb v b _ _ W zc c1 c2 c3 _ V=>?_
 have f:∀y,VS.M ⟨gp,gm,tm,bm,nm,0,⟨0,0,0⟩,t,[],1,[],[],[]⟩ y→h.size≤y∧y≠sp:=fun y k=>by have:=W y k;omega
 refine Join.plain (aq.2 (aq.2 ?_));refine HI (o:=(0,Dt,⟨#[]⟩,⟨#[]⟩,⟨#[]⟩,0,0,0,0,false,⟨#[]⟩,⟨#[]⟩,false,bM,bM)) v b rfl fun O P C=>?_
 have C:VaultAt _ O I ⟨gp,gm,tm,bm,nm,0,⟨0,0,0⟩,t,[],1,[],[(Dt,0)],[]⟩:=C;have J:=P.get b fun e=>(f _ e).2 rfl
 have S:Upd No h O:=V.fresh P fun y k=>(f y k).1
 refine NA (o:=(4,Dt,⟨#[]⟩,⟨#[97]⟩,⟨#[49]⟩,0,0,0,0,false,⟨#[]⟩,⟨#[]⟩,false,bM,bM)) C J (fun e=>(f _ e).2 rfl) rfl (hd:=0) rfl (.inl rfl) (N:=0) (by omega) (fun B d=>?_) (by decide) (by decide) (id:=1) (show(kJ [] 1 (nz [0])).1=(1,0) by decide) fun z B L d Q q=>?_
 ·rcases d with⟨_,rfl⟩|⟨d,_⟩
  ·exact⟨gn,av _,fun _ h=>by cases h⟩
  ·exact absurd rfl d
 have Y:B.2= []:=by
  rcases d with⟨_,rfl⟩|⟨d,_⟩
  ·rfl
  ·exact absurd rfl d
 rw[Y]at q;have q:VaultAt _ z I ⟨gp,gm,tm,bm,nm,0,⟨0,0,0⟩,t,[(1,[])],2,[(1,(L,[(⟨#[97]⟩,⟨#[49]⟩)]))],[(Dt,1)],[]⟩:=q;have R:=Q.get J fun e=>(f _ e).2 rfl
 have T:Upd No h z:=S.fresh Q fun y k=>(f y k).1
 refine bc fun U A F=>cU (c:=Fv zd) (vs:=Fv (0,1,0,⟨#[]⟩,false,0,bM,bM,bM,bM,bM)) A rfl fun w G u=>?_
 have i:Upd No z w:=F.own u (av _);have n:∀B,BaseOf ⟨gp,gm,tm,bm,nm,0,⟨0,0,0⟩,t,[(1,[])],2,[(1,(L,[(⟨#[97]⟩,⟨#[49]⟩)]))],[(Dt,1)],[]⟩ 1 B→B.2= [(⟨#[97]⟩,⟨#[49]⟩)]:=fun B d=>by
  rcases d with⟨d,_⟩|⟨_,d⟩
  ·cases d
  ·cases d;rfl
 refine NB (o:=(10,⟨#[]⟩,⟨#[]⟩,⟨#[97]⟩,⟨#[]⟩,1,0,0,0,false,⟨#[]⟩,⟨#[]⟩,false,bM,bM)) (q.upd0 i) (i.get0 R) rfl (.inr (show(1:Int)∈ids [(1,[])] by decide)) (fun B d=>?_) fun s B d p=>?_
 ·rw[n B d];exact⟨List.pairwise_singleton _ _,by simp⟩
 rw[n B d];refine bc fun Z H D=>cU (c:=Fv zd) (vs:=Fv (0,0,0,⟨#[49]⟩,true,0,bM,bM,bM,bM,bM)) H rfl fun m j E=>?_
 have g:Upd No s m:=D.own E (av _);refine⟨_,vc ((p.tr g).get0 G) 1,aK.2 ⟨_,vc j 4,aK.2 ⟨_,vc j 3,?_⟩⟩⟩;rw[lg];exact X m (((T.tr i).tr p).tr g)
end Go.Proofs
