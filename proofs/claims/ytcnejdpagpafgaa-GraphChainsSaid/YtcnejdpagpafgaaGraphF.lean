/- A part of the proof that the named laws of this program answer true, whatever the input. -/
import Derived.Test.YtcnejdpagpafgaaProg
import Derived.Test.YtcnejdpagpafgaaLiftMap
import Derived.KernelRfl
import Derived.Laws.Externs
set_option maxRecDepth 100000
set_option linter.unusedVariables false
namespace Go.Proofs
open Go.Lift
noncomputable abbrev PG : Program := Try.prog
theorem Try.mixed : PG.follows .mixedOrders = true := by kernel_rfl
abbrev f_l20_GraphChains : FuncId := 3
abbrev f_l20_GraphLeads : FuncId := 4
abbrev f_l20_GraphMeets : FuncId := 5
abbrev f_l20_GraphPlays : FuncId := 6
abbrev f_l20_GraphFull : FuncId := 7
abbrev f_l20_GraphDrops : FuncId := 8
abbrev f_l20_awake : FuncId := 9
abbrev f_graph_New : FuncId := 10
abbrev f_graph_Graph_Add : FuncId := 11
abbrev f_graph_Graph_Meet : FuncId := 12
abbrev f_graph_Graph_Above : FuncId := 13
abbrev f_graph_Graph_Leads : FuncId := 14
abbrev f_l20_do : FuncId := 15
abbrev f_graph_Graph_IDs : FuncId := 16
abbrev f_r20_Above : FuncId := 17
abbrev f_slices_Equal_A_u32_u32 : FuncId := 18
abbrev f_r20_Meet : FuncId := 19
abbrev f_r20_Has : FuncId := 20
abbrev f_l20_like : FuncId := 21
abbrev f_graph_Graph_Put : FuncId := 22
abbrev f_graph_Graph_SetNext : FuncId := 23
abbrev f_graph_Graph_Drop : FuncId := 24
abbrev f_graph_Graph_Parents : FuncId := 25
abbrev f_graph_Graph_Len : FuncId := 26
abbrev f_graph_Graph_Next : FuncId := 27
abbrev f_graph_Graph_Has : FuncId := 28
abbrev f_graph_Graph_Copy : FuncId := 29
abbrev f_slices_Clone_A_u32_u32 : FuncId := 30
abbrev f_slices_Contains_A_u32_u32 : FuncId := 31
abbrev f_slices_IsSorted_A_u32_u32 : FuncId := 32
abbrev f_graph_Graph_may : FuncId := 33
abbrev f_graph_Graph_fits : FuncId := 34
abbrev f_graph_Graph_reach : FuncId := 35
abbrev f_maps_DeleteFunc_M_u32_int_u32_int : FuncId := 36
abbrev f_graph_Graph_Meet_1 : FuncId := 37
abbrev f_slices_Sorted_u32 : FuncId := 38
abbrev f_maps_Keys_M_u32_int_u32_int : FuncId := 39
abbrev f_l20_Act_parents : FuncId := 40
abbrev f_r20_Put : FuncId := 41
abbrev f_r20_Drop : FuncId := 42
abbrev f_r20_Add : FuncId := 43
abbrev f_maps_Keys_M_u32_A_u32_u32_A_u32 : FuncId := 44
abbrev f_slices_ContainsFunc_A_u32_u32 : FuncId := 45
abbrev f_graph_Graph_Put_1 : FuncId := 46
abbrev f_maps_Clone_M_u32_A_u32_u32_A_u32 : FuncId := 47
abbrev f_slices_Index_A_u32_u32 : FuncId := 48
abbrev f_cmp_Less_u32 : FuncId := 49
abbrev f_graph_Graph_fits_1 : FuncId := 50
abbrev f_slices_Collect_u32 : FuncId := 51
abbrev f_slices_Sort_A_u32_u32 : FuncId := 52
abbrev f_maps_Keys_M_u32_int_u32_int_1 : FuncId := 53
abbrev f_r20_err : FuncId := 54
abbrev f_r20_Find : FuncId := 55
abbrev f_r20_there : FuncId := 56
abbrev f_r20_insert : FuncId := 57
abbrev f_maps_Keys_M_u32_A_u32_u32_A_u32_1 : FuncId := 58
abbrev f_slices_IndexFunc_A_u32_u32 : FuncId := 59
abbrev f_maps_clone : FuncId := 60
abbrev f_cmp_isNaN_u32 : FuncId := 61
abbrev f_slices_AppendSeq_A_u32_u32 : FuncId := 62
abbrev f_slices_pdqsortOrdered_u32 : FuncId := 63
abbrev f_math_bits_Len : FuncId := 64
abbrev f_slices_insertionSortOrdered_u32 : FuncId := 65
abbrev f_slices_heapSortOrdered_u32 : FuncId := 66
abbrev f_slices_breakPatternsOrdered_u32 : FuncId := 67
abbrev f_slices_choosePivotOrdered_u32 : FuncId := 68
abbrev f_slices_reverseRangeOrdered_u32 : FuncId := 69
abbrev f_slices_partialInsertionSortOrdered_u32 : FuncId := 70
abbrev f_slices_partitionEqualOrdered_u32 : FuncId := 71
abbrev f_slices_partitionOrdered_u32 : FuncId := 72
abbrev f_math_bits_Len32 : FuncId := 73
abbrev f_math_bits_Len64 : FuncId := 74
abbrev f_slices_siftDownOrdered_u32 : FuncId := 75
abbrev f_slices_nextPowerOfTwo : FuncId := 76
abbrev f_slices_xorshift_Next : FuncId := 77
abbrev f_slices_medianAdjacentOrdered_u32 : FuncId := 78
abbrev f_slices_medianOrdered_u32 : FuncId := 79
abbrev f_slices_order2Ordered_u32 : FuncId := 80
abbrev t_int : TypeId := 3
abbrev t_bool : TypeId := 4
abbrev t_u8 : TypeId := 5
abbrev t_any : TypeId := 20
abbrev t_P_graph_Graph : TypeId := 23
abbrev t_u32 : TypeId := 25
abbrev t_api_Errno : TypeId := 26
abbrev t_A_u32 : TypeId := 29
abbrev t_A_l20_Act : TypeId := 35
abbrev t_P_r20_Graph : TypeId := 36
abbrev t_A_r20_Version : TypeId := 37
abbrev t_r20_Graph : TypeId := 39
abbrev t_l20_Act : TypeId := 41
abbrev t_func_u32_bool : TypeId := 53
abbrev t_r20_Version : TypeId := 60
abbrev t_M_u32_A_u32 : TypeId := 63
abbrev t_graph_Graph : TypeId := 65
abbrev t_M_u32_int : TypeId := 67
abbrev t_func_u32_int_bool : TypeId := 70
abbrev t_iter_Seq_u32 : TypeId := 73
abbrev t_uint : TypeId := 95
abbrev t_slices_sortedHint : TypeId := 97
abbrev t_u64 : TypeId := 106
abbrev t_slices_xorshift : TypeId := 107
abbrev t_P_int : TypeId := 111
abbrev t_P_slices_xorshift : TypeId := 113
theorem X_maps_clone (args : Array Value) (w : World) : (callFunc f_maps_clone args).run PG w = ((Extern.MapsClone.clone args).run PG w).andThen fun v w => .ok (.value v) w := run_callFunc_extern (P := PG) Try.func60 (by kernel_rfl) (by kernel_rfl) (by kernel_rfl) (by kernel_rfl) args w
end Go.Proofs
