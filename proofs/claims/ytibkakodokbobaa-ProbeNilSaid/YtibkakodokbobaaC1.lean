/- The lowered code of functions (made by a program of this session out of the translation's print), and that the translation's code lowers to it. -/
import Derived.Test.YtibkakodokbobaaN
import Derived.Test.YtibkakodokbobaaProg
import Derived.KernelRfl
namespace Go.Proofs.Ytibkakodokbobaa
open Go.Am
def c_probe_asked : LF := ⟨22, [.tmp 6],
  (.seq
  (.reg [
    ⟨some 3, .box (.t 0), none, []⟩,
    ⟨some 4, .box (.t 1), none, []⟩,
    ⟨some 5, .box (.t 2), none, []⟩,
    ⟨some 6, .mv (.c (.b false)), none, []⟩] false)
  (.seq
  (.reg [
    ⟨some 7, .load true 3 (.t 3), none, []⟩,
    ⟨some 8, .load true 7 (.t 5), none, []⟩,
    ⟨some 9, .call n_query_Right [.t 7, .t 8], none, [0, 1]⟩,
    ⟨some 10, .mv (.t 9), none, [2, 2]⟩,
    ⟨some 11, .fieldAddr 0 (.t 5), (some (10, true)), [3]⟩,
    ⟨some 12, .load false 1 (.t 11), (some (10, true)), [4, 3]⟩,
    ⟨some 13, .bin .neq .plain (.t 12) (.c (.i .i64 5)), (some (10, true)), [5, 3]⟩,
    ⟨some 14, .mv (.t 13), (some (10, true)), [6, 3, 3]⟩,
    ⟨some 15, .fieldAddr 0 (.t 3), (some (14, false)), [7]⟩,
    ⟨some 16, .load true 2 (.t 15), (some (14, false)), [8, 7]⟩,
    ⟨some 17, .fieldAddr 0 (.t 4), (some (14, false)), [7]⟩,
    ⟨some 18, .load true 2 (.t 17), (some (14, false)), [10, 7]⟩,
    ⟨some 19, .call n_topo_Same [.t 16, .t 18], (some (14, false)), [9, 11, 7, 7]⟩,
    ⟨some 20, .pick (.t 14) (.c (.b true)) (.t 19), (some (10, true)), [7, 12, 3]⟩,
    ⟨some 21, .pick (.t 10) (.t 20) (.c (.b false)), none, [3, 13]⟩,
    ⟨some 6, .mv (.t 21), none, [14, 12, 0, 1, 2, 3, 4, 5, 6, 7, 8, 9, 10, 11, 12, 13, 14]⟩] false)
  .ret))⟩
theorem h_probe_asked : lowFn Try.prog n_probe_asked = some c_probe_asked := by kernel_rfl
def c_query_Sources : LF := ⟨25, [.tmp 4],
  (.seq
  (.reg [
    ⟨some 2, .box (.t 0), none, []⟩,
    ⟨some 3, .box (.t 1), none, []⟩,
    ⟨some 4, .mv (.c (.esl)), none, []⟩] false)
  (.seq
  (.seq
  (.reg [
    ⟨some 7, .load true 7 (.t 3), none, []⟩,
    ⟨some 8, .call n_query_single [.t 7], none, [0]⟩] false)
  (.cond (.t 8)
    (.seq
    (.reg [
      ⟨some 9, .fieldAddr 1 (.t 3), none, []⟩,
      ⟨some 10, .load false 1 (.t 9), none, [0]⟩,
      ⟨some 11, .bslice 1 [.i .i64 0] 1 [(0, .t 10)], none, [1]⟩,
      ⟨some 4, .mv (.t 11), none, [2, 0, 1, 2]⟩] false)
    .ret)
    .skip))
  (.seq
  (.reg [
    ⟨some 5, .mv (.c (.esl)), none, []⟩] false)
  (.seq
  (.seq
  (.reg [
    ⟨some 12, .fieldAddr 0 (.t 2), none, []⟩,
    ⟨some 13, .fieldAddr 0 (.t 12), none, [0]⟩,
    ⟨some 14, .load false 1 (.t 13), none, [1]⟩,
    ⟨some 15, .len none false (.t 14), none, [2]⟩,
    ⟨some 16, .mv (.c (.i .i64 0)), none, []⟩] false)
  (.block 0
    (.loop
      (.seq
      (.reg [
        ⟨some 17, .bin .lss .plain (.t 16) (.t 15), none, []⟩] false)
      (.seq
      (.cond (.t 17)
        .skip
        (.exit 0))
      (.seq
      (.block 1
        (.seq
        (.reg [
          ⟨some 18, .mv (.t 16), none, []⟩,
          ⟨some 6, .mv (.t 18), none, [0, 0]⟩] false)
        (.reg [
          ⟨some 19, .mv (.t 5), none, []⟩,
          ⟨some 20, .mv (.t 6), none, []⟩,
          ⟨some 21, .bslice 1 [.i .i64 0] 1 [(0, .t 20)], none, [1]⟩,
          ⟨some 22, .append 1 8 (.t 19) (.t 21), none, [0, 2]⟩,
          ⟨some 5, .mv (.t 22), none, [3, 3, 0, 1, 2, 3]⟩] false)))
      (.reg [
        ⟨some 23, .bin .add .plain (.t 16) (.c (.i .i64 1)), none, []⟩,
        ⟨some 16, .mv (.t 23), none, [0]⟩] false)))))))
  (.seq
  (.reg [
    ⟨some 24, .mv (.t 5), none, []⟩,
    ⟨some 4, .mv (.t 24), none, [0, 0]⟩] false)
  .ret)))))⟩
theorem h_query_Sources : lowFn Try.prog n_query_Sources = some c_query_Sources := by kernel_rfl
def c_probe_cut : LF := ⟨23, [.tmp 6],
  (.seq
  (.reg [
    ⟨some 3, .box (.t 0), none, []⟩,
    ⟨some 4, .box (.t 1), none, []⟩,
    ⟨some 5, .box (.t 2), none, []⟩,
    ⟨some 6, .mv (.c (.esl)), none, []⟩] false)
  (.seq
  (.seq
  (.reg [
    ⟨some 9, .fieldAddr 0 (.t 5), none, []⟩,
    ⟨some 10, .load false 1 (.t 9), none, [0]⟩,
    ⟨some 11, .bin .neq .plain (.t 10) (.c (.i .i64 5)), none, [1]⟩] false)
  (.cond (.t 11)
    (.reg [
      ⟨some 12, .load true 3 (.t 3), none, []⟩,
      ⟨none, .store 3 (.t 4) (.t 12), none, [0, 0]⟩] false)
    .skip))
  (.seq
  (.reg [
    ⟨some 14, .load true 3 (.t 3), none, []⟩,
    ⟨some 15, .load true 3 (.t 4), none, []⟩,
    ⟨some 16, .bslice 3 [.esl, .esl, .esl] 2 [(0, .t 14), (1, .t 15)], none, [0, 1]⟩,
    ⟨some 17, .fieldAddr 4 (.t 5), none, []⟩,
    ⟨some 18, .load true 2 (.t 17), none, [3]⟩,
    ⟨some 19, .call n_flow_Cut [.t 16, .t 18], none, [2, 4]⟩,
    ⟨some 13, .mv (.t 19), none, [5]⟩,
    ⟨some 20, .extract (.t 13) 0, none, [6]⟩,
    ⟨some 21, .extract (.t 13) 1, none, [6]⟩,
    ⟨some 7, .mv (.t 20), none, [7, 5, 0, 1, 2, 3, 4, 5, 6, 7]⟩,
    ⟨some 8, .mv (.t 21), none, [8, 9, 0, 1, 2, 3, 4, 5, 6, 7, 8, 9]⟩] false)
  (.seq
  (.reg [
    ⟨some 22, .mv (.t 7), none, []⟩,
    ⟨some 6, .mv (.t 22), none, [0, 0]⟩] false)
  .ret))))⟩
theorem h_probe_cut : lowFn Try.prog n_probe_cut = some c_probe_cut := by kernel_rfl
def c_probe_Probe_begin : LF := ⟨24, [],
  (.seq
  (.reg [
    ⟨some 2, .mv (.t 0), none, []⟩,
    ⟨some 3, .mv (.t 0), none, []⟩,
    ⟨some 4, .mv (.t 0), none, []⟩,
    ⟨some 5, .mv (.t 0), none, []⟩,
    ⟨some 6, .nilck (.t 5), none, [3]⟩,
    ⟨some 7, .fieldAddr 13 (.t 6), none, [4]⟩,
    ⟨some 8, .load false 1 (.t 7), none, [5]⟩,
    ⟨some 9, .indexAddr none 1 (.t 8) (.c (.i .i64 0)), none, [6]⟩,
    ⟨some 10, .load false 1 (.t 9), none, [7]⟩,
    ⟨some 11, .build [.esl, .i .i64 0, .i .i64 0, .i .i64 0] [], none, []⟩,
    ⟨some 12, .build [.esl, .i .i64 0, .i .i64 0, .i .i64 0] [], none, []⟩,
    ⟨some 13, .nilck (.t 2), none, [0, 0, 3, 4, 5, 6, 7, 8]⟩,
    ⟨some 14, .fieldAddr 16 (.t 13), none, [11, 0, 3, 4, 5, 6, 7, 8]⟩,
    ⟨none, .store 1 (.t 14) (.t 10), none, [12, 8, 0, 3, 4, 5, 6, 7, 8]⟩,
    ⟨some 15, .nilck (.t 3), none, [1, 0, 1, 3, 4, 5, 6, 7, 8, 9, 11, 12, 13]⟩,
    ⟨some 16, .fieldAddr 17 (.t 15), none, [14, 0, 1, 3, 4, 5, 6, 7, 8, 9, 11, 12, 13]⟩,
    ⟨none, .store 4 (.t 16) (.t 11), none, [15, 9, 13, 0, 1, 3, 4, 5, 6, 7, 8, 9, 11, 12, 13]⟩,
    ⟨some 17, .nilck (.t 4), none, [2, 0, 1, 2, 3, 4, 5, 6, 7, 8, 9, 10, 11, 12, 13, 14, 15, 16]⟩,
    ⟨some 18, .fieldAddr 21 (.t 17), none, [17, 0, 1, 2, 3, 4, 5, 6, 7, 8, 9, 10, 11, 12, 13, 14, 15, 16]⟩,
    ⟨none, .store 4 (.t 18) (.t 12), none, [18, 10, 16, 0, 1, 2, 3, 4, 5, 6, 7, 8, 9, 10, 11, 12, 13, 14, 15, 16]⟩] false)
  (.reg [
    ⟨some 19, .mv (.t 0), none, []⟩,
    ⟨some 20, .mv (.t 0), none, []⟩,
    ⟨some 21, .mkfn n_probe_Probe_first [.t 20] [], none, [1]⟩,
    ⟨some 22, .nilck (.t 19), none, [0, 0, 1, 2]⟩,
    ⟨some 23, .fieldAddr 25 (.t 22), none, [3, 0, 1, 2]⟩,
    ⟨none, .store 1 (.t 23) (.t 21), none, [4, 2, 0, 1, 2]⟩] false))⟩
theorem h_probe_Probe_begin : lowFn Try.prog n_probe_Probe_begin = some c_probe_Probe_begin := by kernel_rfl
def c_query_Right : LF := ⟨65, [.tmp 4],
  (.seq
  (.reg [
    ⟨some 2, .box (.t 0), none, []⟩,
    ⟨some 3, .box (.t 1), none, []⟩,
    ⟨some 4, .mv (.c (.b false)), none, []⟩] false)
  (.seq
  (.seq
  (.reg [
    ⟨some 6, .fieldAddr 0 (.t 3), none, []⟩,
    ⟨some 7, .load false 1 (.t 6), none, [0]⟩,
    ⟨some 8, .bin .lss .plain (.t 7) (.c (.i .i64 0)), none, [1]⟩,
    ⟨some 9, .mv (.t 8), none, [2]⟩,
    ⟨some 10, .fieldAddr 0 (.t 3), (some (9, false)), [3]⟩,
    ⟨some 11, .load false 1 (.t 10), (some (9, false)), [4, 3]⟩,
    ⟨some 12, .bin .gtr .plain (.t 11) (.c (.i .i64 5)), (some (9, false)), [5, 3]⟩,
    ⟨some 13, .pick (.t 9) (.c (.b true)) (.t 12), none, [3, 6]⟩,
    ⟨some 14, .mv (.t 13), none, [7, 3]⟩,
    ⟨some 15, .fieldAddr 4 (.t 3), (some (14, false)), [8]⟩,
    ⟨some 16, .fieldAddr 0 (.t 15), (some (14, false)), [9, 8]⟩,
    ⟨some 17, .load false 1 (.t 16), (some (14, false)), [10, 8]⟩,
    ⟨some 18, .fieldAddr 4 (.t 3), (some (14, false)), [8]⟩,
    ⟨some 19, .fieldAddr 1 (.t 18), (some (14, false)), [12, 8]⟩,
    ⟨some 20, .load false 1 (.t 19), (some (14, false)), [13, 8]⟩,
    ⟨some 21, .bin .gtr .plain (.t 17) (.t 20), (some (14, false)), [11, 14, 8]⟩,
    ⟨some 22, .pick (.t 14) (.c (.b true)) (.t 21), none, [8, 15]⟩] false)
  (.cond (.t 22)
    (.seq
    (.reg [
      ⟨some 4, .mv (.c (.b false)), none, []⟩] false)
    .ret)
    .skip))
  (.seq
  (.seq
  (.reg [
    ⟨some 23, .fieldAddr 1 (.t 3), none, []⟩,
    ⟨some 24, .load false 1 (.t 23), none, [0]⟩,
    ⟨some 25, .fieldAddr 2 (.t 3), none, []⟩,
    ⟨some 26, .load false 1 (.t 25), none, [2]⟩,
    ⟨some 27, .fieldAddr 3 (.t 3), none, []⟩,
    ⟨some 28, .load false 1 (.t 27), none, [4]⟩,
    ⟨some 29, .bslice 1 [.i .i64 0] 3 [(0, .t 24), (1, .t 26), (2, .t 28)], none, [1, 3, 5]⟩,
    ⟨some 30, .mkfn n_query_Right_c1 [] [.t 2], none, []⟩,
    ⟨some 31, .call n_slices_ContainsFunc_int_int [.t 29, .t 30], none, [6, 7]⟩] false)
  (.cond (.t 31)
    (.seq
    (.reg [
      ⟨some 4, .mv (.c (.b false)), none, []⟩] false)
    .ret)
    .skip))
  (.seq
  (.reg [
    ⟨some 32, .load true 7 (.t 3), none, []⟩,
    ⟨some 33, .call n_query_single [.t 32], none, [0]⟩,
    ⟨some 34, .mv (.t 33), none, [1, 1]⟩,
    ⟨some 35, .fieldAddr 1 (.t 3), (some (34, false)), [2]⟩,
    ⟨some 36, .load false 1 (.t 35), (some (34, false)), [3, 2]⟩,
    ⟨some 37, .bin .eql .plain (.t 36) (.c (.i .i64 0)), (some (34, false)), [4, 2]⟩,
    ⟨some 38, .mv (.t 37), (some (34, false)), [5, 2, 2]⟩,
    ⟨some 39, .fieldAddr 2 (.t 3), (some (38, true)), [6]⟩,
    ⟨some 40, .load false 1 (.t 39), (some (38, true)), [7, 6]⟩,
    ⟨some 41, .bin .eql .plain (.t 40) (.c (.i .i64 0)), (some (38, true)), [8, 6]⟩,
    ⟨some 42, .pick (.t 38) (.t 41) (.c (.b false)), (some (34, false)), [6, 9, 2]⟩,
    ⟨some 43, .pick (.t 34) (.c (.b true)) (.t 42), none, [2, 10]⟩,
    ⟨some 5, .mv (.t 43), none, [11, 6, 0, 1, 2, 3, 4, 5, 6, 7, 8, 9, 10, 11]⟩] false)
  (.seq
  (.reg [
    ⟨some 44, .mv (.t 5), none, []⟩,
    ⟨some 45, .mv (.t 44), none, [0]⟩,
    ⟨some 46, .fieldAddr 0 (.t 3), (some (45, true)), [1]⟩,
    ⟨some 47, .load false 1 (.t 46), (some (45, true)), [2, 1]⟩,
    ⟨some 48, .bin .eql .plain (.t 47) (.c (.i .i64 4)), (some (45, true)), [3, 1]⟩,
    ⟨some 49, .mv (.t 48), (some (45, true)), [4, 1, 1]⟩,
    ⟨some 50, .fieldAddr 3 (.t 3), (some (49, false)), [5]⟩,
    ⟨some 51, .load false 1 (.t 50), (some (49, false)), [6, 5]⟩,
    ⟨some 52, .bin .eql .plain (.t 51) (.c (.i .i64 0)), (some (49, false)), [7, 5]⟩,
    ⟨some 53, .pick (.t 49) (.c (.b true)) (.t 52), (some (45, true)), [5, 8, 1]⟩,
    ⟨some 54, .pick (.t 45) (.t 53) (.c (.b false)), none, [1, 9]⟩,
    ⟨some 55, .mv (.t 54), none, [10, 5]⟩,
    ⟨some 56, .fieldAddr 0 (.t 3), (some (55, true)), [11]⟩,
    ⟨some 57, .load false 1 (.t 56), (some (55, true)), [12, 11]⟩,
    ⟨some 58, .bin .eql .plain (.t 57) (.c (.i .i64 5)), (some (55, true)), [13, 11]⟩,
    ⟨some 59, .mv (.t 58), (some (55, true)), [14, 11, 11]⟩,
    ⟨some 60, .fieldAddr 6 (.t 3), (some (59, false)), [15]⟩,
    ⟨some 61, .load false 1 (.t 60), (some (59, false)), [16, 15]⟩,
    ⟨some 62, .bin .eql .plain (.t 61) (.c (.s ⟨#[]⟩)), (some (59, false)), [17, 15]⟩,
    ⟨some 63, .pick (.t 59) (.c (.b true)) (.t 62), (some (55, true)), [15, 18, 11]⟩,
    ⟨some 64, .pick (.t 55) (.t 63) (.c (.b false)), none, [11, 19]⟩,
    ⟨some 4, .mv (.t 64), none, [20, 15, 0, 1, 2, 3, 4, 5, 6, 7, 8, 9, 10, 11, 12, 13, 14, 15, 16, 17, 18, 19, 20]⟩] false)
  .ret)))))⟩
theorem h_query_Right : lowFn Try.prog n_query_Right = some c_query_Right := by kernel_rfl
def c_topo_Same : LF := ⟨17, [.tmp 4],
  (.seq
  (.reg [
    ⟨some 2, .box (.t 0), none, []⟩,
    ⟨some 3, .box (.t 1), none, []⟩,
    ⟨some 4, .mv (.c (.b false)), none, []⟩] false)
  (.seq
  (.reg [
    ⟨some 5, .fieldAddr 0 (.t 2), none, []⟩,
    ⟨some 6, .load false 1 (.t 5), none, [0]⟩,
    ⟨some 7, .fieldAddr 0 (.t 3), none, []⟩,
    ⟨some 8, .load false 1 (.t 7), none, [2]⟩,
    ⟨some 9, .call n_slices_Equal_int_int [.t 6, .t 8], none, [1, 3]⟩,
    ⟨some 10, .mv (.t 9), none, [4, 4]⟩,
    ⟨some 11, .fieldAddr 1 (.t 2), (some (10, true)), [5]⟩,
    ⟨some 12, .load false 1 (.t 11), (some (10, true)), [6, 5]⟩,
    ⟨some 13, .fieldAddr 1 (.t 3), (some (10, true)), [5]⟩,
    ⟨some 14, .load false 1 (.t 13), (some (10, true)), [8, 5]⟩,
    ⟨some 15, .call n_slices_Equal_api_Link_api_Link [.t 12, .t 14], (some (10, true)), [7, 9, 5, 5]⟩,
    ⟨some 16, .pick (.t 10) (.t 15) (.c (.b false)), none, [5, 10]⟩,
    ⟨some 4, .mv (.t 16), none, [11, 10, 0, 1, 2, 3, 4, 5, 6, 7, 8, 9, 10, 11]⟩] false)
  .ret))⟩
theorem h_topo_Same : lowFn Try.prog n_topo_Same = some c_topo_Same := by kernel_rfl
def c_flow_Cut : LF := ⟨76, [.tmp 4, .tmp 5],
  (.seq
  (.reg [
    ⟨some 3, .box (.t 1), none, []⟩,
    ⟨some 4, .mv (.c (.esl)), none, []⟩,
    ⟨some 5, .mv (.c (.i .i64 0)), none, [1]⟩] false)
  (.seq
  (.seq
  (.reg [
    ⟨some 15, .fieldAddr 0 (.t 3), none, []⟩,
    ⟨some 16, .load false 1 (.t 15), none, [0]⟩,
    ⟨some 17, .fieldAddr 1 (.t 3), none, []⟩,
    ⟨some 18, .load false 1 (.t 17), none, [2]⟩,
    ⟨some 19, .bin .gtr .plain (.t 16) (.t 18), none, [1, 3]⟩] false)
  (.cond (.t 19)
    (.seq
    (.reg [
      ⟨some 4, .mv (.c (.esl)), none, []⟩,
      ⟨some 5, .mv (.c (.i .i64 31)), none, [0, 0]⟩] false)
    .ret)
    .skip))
  (.seq
  (.reg [
    ⟨some 20, .call n_atoms_New [], none, []⟩,
    ⟨some 6, .mv (.t 20), none, [0, 0, 0]⟩] false)
  (.seq
  (.seq
  (.reg [
    ⟨some 21, .mv (.t 0), none, []⟩,
    ⟨some 22, .len none false (.t 21), none, [0]⟩,
    ⟨some 23, .mv (.c (.i .i64 0)), none, []⟩] false)
  (.block 0
    (.loop
      (.seq
      (.reg [
        ⟨some 24, .bin .lss .plain (.t 23) (.t 22), none, []⟩] false)
      (.seq
      (.cond (.t 24)
        .skip
        (.exit 0))
      (.seq
      (.block 1
        (.seq
        (.reg [
          ⟨some 25, .indexAddr none 3 (.t 21) (.t 23), none, []⟩,
          ⟨some 26, .load true 3 (.t 25), none, [0]⟩,
          ⟨some 8, .alloc [.esl, .esl, .esl], none, []⟩,
          ⟨none, .store 3 (.t 8) (.t 26), none, [2, 1, 0, 1, 2]⟩] false)
        (.seq
        (.reg [
          ⟨some 27, .fieldAddr 2 (.t 8), none, []⟩,
          ⟨some 28, .load false 1 (.t 27), none, [0]⟩,
          ⟨some 29, .len none false (.t 28), none, [1]⟩,
          ⟨some 30, .mv (.c (.i .i64 0)), none, []⟩] false)
        (.block 2
          (.loop
            (.seq
            (.reg [
              ⟨some 31, .bin .lss .plain (.t 30) (.t 29), none, []⟩] false)
            (.seq
            (.cond (.t 31)
              .skip
              (.exit 2))
            (.seq
            (.block 3
              (.seq
              (.reg [
                ⟨some 32, .indexAddr none 7 (.t 28) (.t 30), none, []⟩,
                ⟨some 33, .load true 7 (.t 32), none, [0]⟩,
                ⟨some 10, .alloc [.i .i64 0, .i .i64 0, .i .i64 0, .i .i64 0, .i .u32 0, .i .u32 0, .i .i64 0], none, []⟩,
                ⟨none, .store 7 (.t 10) (.t 33), none, [2, 1, 0, 1, 2]⟩] false)
              (.reg [
                ⟨some 35, .mv (.t 6), none, []⟩,
                ⟨some 36, .fieldAddr 4 (.t 10), none, []⟩,
                ⟨some 37, .load true 2 (.t 36), none, [1]⟩,
                ⟨some 38, .call n_atoms_Table_Add [.t 35, .t 37], none, [0, 2]⟩,
                ⟨some 34, .mv (.t 38), none, [3]⟩,
                ⟨some 39, .extract (.t 34) 0, none, [4]⟩,
                ⟨some 40, .extract (.t 34) 1, none, [4]⟩,
                ⟨some 6, .mv (.t 39), none, [5, 3, 0, 1, 2, 3, 4, 5]⟩] false)))
            (.reg [
              ⟨some 41, .bin .add .plain (.t 30) (.c (.i .i64 1)), none, []⟩,
              ⟨some 30, .mv (.t 41), none, [0]⟩] false)))))))))
      (.reg [
        ⟨some 42, .bin .add .plain (.t 23) (.c (.i .i64 1)), none, []⟩,
        ⟨some 23, .mv (.t 42), none, [0]⟩] false)))))))
  (.seq
  (.reg [
    ⟨some 11, .mv (.c (.esl)), none, []⟩] false)
  (.seq
  (.seq
  (.reg [
    ⟨some 43, .mv (.t 6), none, []⟩,
    ⟨some 44, .fieldAddr 0 (.t 3), none, []⟩,
    ⟨some 45, .load false 1 (.t 44), none, [1]⟩,
    ⟨some 46, .call n_atoms_Table_Of [.t 43, .t 45], none, [0, 2]⟩,
    ⟨some 12, .mv (.t 46), none, [3, 3, 0, 1, 2, 3]⟩] false)
  (.block 4
    (.loop
      (.seq
      (.seq
      (.reg [
        ⟨some 47, .mv (.t 12), none, []⟩,
        ⟨some 48, .mv (.t 6), none, []⟩,
        ⟨some 49, .fieldAddr 1 (.t 3), none, []⟩,
        ⟨some 50, .load false 1 (.t 49), none, [2]⟩,
        ⟨some 51, .call n_atoms_Table_Of [.t 48, .t 50], none, [1, 3]⟩,
        ⟨some 52, .bin .leq .plain (.t 47) (.t 51), none, [0, 4]⟩] false)
      (.cond (.t 52)
        .skip
        (.exit 4)))
      (.seq
      (.block 5
        (.seq
        (.reg [
          ⟨some 56, .mv (.t 6), none, []⟩,
          ⟨some 57, .mv (.t 12), none, []⟩,
          ⟨some 58, .call n_atoms_Table_Atom [.t 56, .t 57], none, [0, 1]⟩,
          ⟨some 55, .mv (.t 58), none, [2]⟩,
          ⟨some 59, .extract (.t 55) 0, none, [3]⟩,
          ⟨some 60, .extract (.t 55) 1, none, [3]⟩,
          ⟨some 13, .alloc [.i .u32 0, .i .u32 0], none, []⟩,
          ⟨none, .store 2 (.t 13) (.t 59), none, [6, 4, 2, 0, 1, 2, 3, 4, 6]⟩,
          ⟨some 14, .mv (.t 60), none, [5, 7, 0, 1, 2, 3, 4, 5, 6, 7]⟩] false)
        (.reg [
          ⟨some 61, .mv (.t 11), none, []⟩,
          ⟨some 62, .fieldAddr 0 (.t 13), none, []⟩,
          ⟨some 63, .load false 1 (.t 62), none, [1]⟩,
          ⟨some 64, .fieldAddr 0 (.t 3), none, []⟩,
          ⟨some 65, .load false 1 (.t 64), none, [3]⟩,
          ⟨some 66, .minmax true [.t 63, .t 65], none, [2, 4]⟩,
          ⟨some 67, .fieldAddr 1 (.t 13), none, []⟩,
          ⟨some 68, .load false 1 (.t 67), none, [6]⟩,
          ⟨some 69, .fieldAddr 1 (.t 3), none, []⟩,
          ⟨some 70, .load false 1 (.t 69), none, [8]⟩,
          ⟨some 71, .minmax false [.t 68, .t 70], none, [7, 9]⟩,
          ⟨some 72, .build [.i .u32 0, .i .u32 0] [(0, 1, .t 66), (1, 1, .t 71)], none, [5, 10]⟩,
          ⟨some 73, .bslice 2 [.i .u32 0, .i .u32 0] 1 [(0, .t 72)], none, [11]⟩,
          ⟨some 74, .append 2 8 (.t 61) (.t 73), none, [0, 12]⟩,
          ⟨some 11, .mv (.t 74), none, [13, 13, 0, 1, 2, 3, 4, 5, 6, 7, 8, 9, 10, 11, 12, 13]⟩] false)))
      (.reg [
        ⟨some 53, .mv (.t 12), none, []⟩,
        ⟨some 54, .bin .add .plain (.t 53) (.c (.i .i64 1)), none, [0]⟩,
        ⟨some 12, .mv (.t 54), none, [1, 0, 1]⟩] false))))))
  (.seq
  (.reg [
    ⟨some 75, .mv (.t 11), none, []⟩,
    ⟨some 4, .mv (.t 75), none, [0, 0]⟩,
    ⟨some 5, .mv (.c (.i .i64 0)), none, [1, 0, 1]⟩] false)
  .ret)))))))⟩
theorem h_flow_Cut : lowFn Try.prog n_flow_Cut = some c_flow_Cut := by kernel_rfl
def c_query_Breaks : LF := ⟨29, [.tmp 10],
  (.seq
  (.reg [
    ⟨some 5, .box (.t 0), none, []⟩,
    ⟨some 6, .box (.t 1), none, []⟩,
    ⟨some 7, .box (.t 2), none, []⟩,
    ⟨some 8, .box (.t 3), none, []⟩,
    ⟨some 9, .box (.t 4), none, []⟩,
    ⟨some 10, .mv (.c (.b false)), none, []⟩] false)
  (.seq
  (.reg [
    ⟨some 11, .fieldAddr 0 (.t 7), none, []⟩,
    ⟨some 12, .load false 1 (.t 11), none, [0]⟩,
    ⟨some 13, .bin .geq .plain (.t 12) (.c (.i .i64 0)), none, [1]⟩,
    ⟨some 14, .mv (.t 13), none, [2]⟩,
    ⟨some 15, .fieldAddr 0 (.t 7), (some (14, true)), [3]⟩,
    ⟨some 16, .load false 1 (.t 15), (some (14, true)), [4, 3]⟩,
    ⟨some 17, .bin .lss .plain (.t 16) (.c (.i .i64 6)), (some (14, true)), [5, 3]⟩,
    ⟨some 18, .pick (.t 14) (.t 17) (.c (.b false)), none, [3, 6]⟩,
    ⟨some 19, .mv (.t 18), none, [7, 3]⟩,
    ⟨some 20, .call n_query_broken [], (some (19, true)), [8, 8]⟩,
    ⟨some 21, .fieldAddr 0 (.t 7), (some (19, true)), [8]⟩,
    ⟨some 22, .load false 1 (.t 21), (some (19, true)), [10, 8]⟩,
    ⟨some 23, .index (some (6, false, 1)) (.t 20) (.t 22), (some (19, true)), [9, 11, 8]⟩,
    ⟨some 24, .load true 7 (.t 7), (some (19, true)), [8]⟩,
    ⟨some 25, .load true 4 (.t 8), (some (19, true)), [8]⟩,
    ⟨some 26, .load true 4 (.t 9), (some (19, true)), [8]⟩,
    ⟨some 27, .callv (.t 23) [.t 24, .t 25, .t 26], (some (19, true)), [12, 13, 14, 15, 9, 8]⟩,
    ⟨some 28, .pick (.t 19) (.t 27) (.c (.b false)), none, [8, 16]⟩,
    ⟨some 10, .mv (.t 28), none, [17, 16, 0, 1, 2, 3, 4, 5, 6, 7, 8, 9, 10, 11, 12, 13, 14, 15, 16, 17]⟩] true)
  .ret))⟩
theorem h_query_Breaks : lowFn Try.prog n_query_Breaks = some c_query_Breaks := by kernel_rfl
def c_fate_Same : LF := ⟨24, [.tmp 4],
  (.seq
  (.reg [
    ⟨some 2, .box (.t 0), none, []⟩,
    ⟨some 3, .box (.t 1), none, []⟩,
    ⟨some 4, .mv (.c (.b false)), none, []⟩] false)
  (.seq
  (.reg [
    ⟨some 5, .fieldAddr 0 (.t 2), none, []⟩,
    ⟨some 6, .load false 1 (.t 5), none, [0]⟩,
    ⟨some 7, .fieldAddr 0 (.t 3), none, []⟩,
    ⟨some 8, .load false 1 (.t 7), none, [2]⟩,
    ⟨some 9, .call n_slices_Equal_int_int [.t 6, .t 8], none, [1, 3]⟩,
    ⟨some 10, .mv (.t 9), none, [4, 4]⟩,
    ⟨some 11, .fieldAddr 1 (.t 2), (some (10, true)), [5]⟩,
    ⟨some 12, .load false 1 (.t 11), (some (10, true)), [6, 5]⟩,
    ⟨some 13, .fieldAddr 1 (.t 3), (some (10, true)), [5]⟩,
    ⟨some 14, .load false 1 (.t 13), (some (10, true)), [8, 5]⟩,
    ⟨some 15, .bin .eql .plain (.t 12) (.t 14), (some (10, true)), [7, 9, 5]⟩,
    ⟨some 16, .pick (.t 10) (.t 15) (.c (.b false)), none, [5, 10]⟩,
    ⟨some 17, .mv (.t 16), none, [11, 5]⟩,
    ⟨some 18, .fieldAddr 2 (.t 2), (some (17, true)), [12]⟩,
    ⟨some 19, .load true 2 (.t 18), (some (17, true)), [13, 12]⟩,
    ⟨some 20, .fieldAddr 2 (.t 3), (some (17, true)), [12]⟩,
    ⟨some 21, .load true 2 (.t 20), (some (17, true)), [15, 12]⟩,
    ⟨some 22, .bin .eql (.agg [(0, 1), (1, 1)]) (.t 19) (.t 21), (some (17, true)), [14, 16, 12]⟩,
    ⟨some 23, .pick (.t 17) (.t 22) (.c (.b false)), none, [12, 17]⟩,
    ⟨some 4, .mv (.t 23), none, [18, 12, 0, 1, 2, 3, 4, 5, 6, 7, 8, 9, 10, 11, 12, 13, 14, 15, 16, 17, 18]⟩] false)
  .ret))⟩
theorem h_fate_Same : lowFn Try.prog n_fate_Same = some c_fate_Same := by kernel_rfl
def c_r06_Ints : LF := ⟨26, [.tmp 4],
  (.seq
  (.reg [
    ⟨some 4, .mv (.c (.b false)), none, []⟩] false)
  (.seq
  (.seq
  (.reg [
    ⟨some 6, .mv (.t 0), none, []⟩,
    ⟨some 7, .len none false (.t 6), none, [0]⟩,
    ⟨some 8, .mv (.t 1), none, []⟩,
    ⟨some 9, .len none false (.t 8), none, [2]⟩,
    ⟨some 10, .bin .neq .plain (.t 7) (.t 9), none, [1, 3]⟩] false)
  (.cond (.t 10)
    (.seq
    (.reg [
      ⟨some 4, .mv (.c (.b false)), none, []⟩] false)
    .ret)
    .skip))
  (.seq
  (.seq
  (.reg [
    ⟨some 5, .mv (.c (.i .i64 0)), none, []⟩] false)
  (.block 0
    (.loop
      (.seq
      (.seq
      (.reg [
        ⟨some 11, .mv (.t 5), none, []⟩,
        ⟨some 12, .mv (.t 0), none, []⟩,
        ⟨some 13, .len none false (.t 12), none, [1]⟩,
        ⟨some 14, .bin .lss .plain (.t 11) (.t 13), none, [0, 2]⟩] false)
      (.cond (.t 14)
        .skip
        (.exit 0)))
      (.seq
      (.block 1
        (.seq
        (.reg [
          ⟨some 17, .mv (.t 0), none, []⟩,
          ⟨some 18, .mv (.t 5), none, []⟩,
          ⟨some 19, .indexAddr none 1 (.t 17) (.t 18), none, [0, 1]⟩,
          ⟨some 20, .load false 1 (.t 19), none, [2]⟩,
          ⟨some 21, .mv (.t 1), none, []⟩,
          ⟨some 22, .mv (.t 5), none, []⟩,
          ⟨some 23, .indexAddr none 1 (.t 21) (.t 22), none, [4, 5]⟩,
          ⟨some 24, .load false 1 (.t 23), none, [6]⟩,
          ⟨some 25, .bin .neq .plain (.t 20) (.t 24), none, [3, 7]⟩] true)
        (.cond (.t 25)
          (.seq
          (.reg [
            ⟨some 4, .mv (.c (.b false)), none, []⟩] false)
          .ret)
          .skip)))
      (.reg [
        ⟨some 15, .mv (.t 5), none, []⟩,
        ⟨some 16, .bin .add .plain (.t 15) (.c (.i .i64 1)), none, [0]⟩,
        ⟨some 5, .mv (.t 16), none, [1, 0, 1]⟩] false))))))
  (.seq
  (.reg [
    ⟨some 4, .mv (.c (.b true)), none, []⟩] false)
  .ret))))⟩
theorem h_r06_Ints : lowFn Try.prog n_r06_Ints = some c_r06_Ints := by kernel_rfl
def c_query_single : LF := ⟨16, [.tmp 2],
  (.seq
  (.reg [
    ⟨some 1, .box (.t 0), none, []⟩,
    ⟨some 2, .mv (.c (.b false)), none, []⟩] false)
  (.seq
  (.reg [
    ⟨some 3, .fieldAddr 0 (.t 1), none, []⟩,
    ⟨some 4, .load false 1 (.t 3), none, [0]⟩,
    ⟨some 5, .bin .eql .plain (.t 4) (.c (.i .i64 0)), none, [1]⟩,
    ⟨some 6, .mv (.t 5), none, [2]⟩,
    ⟨some 7, .fieldAddr 0 (.t 1), (some (6, false)), [3]⟩,
    ⟨some 8, .load false 1 (.t 7), (some (6, false)), [4, 3]⟩,
    ⟨some 9, .bin .eql .plain (.t 8) (.c (.i .i64 3)), (some (6, false)), [5, 3]⟩,
    ⟨some 10, .pick (.t 6) (.c (.b true)) (.t 9), none, [3, 6]⟩,
    ⟨some 11, .mv (.t 10), none, [7, 3]⟩,
    ⟨some 12, .fieldAddr 0 (.t 1), (some (11, false)), [8]⟩,
    ⟨some 13, .load false 1 (.t 12), (some (11, false)), [9, 8]⟩,
    ⟨some 14, .bin .eql .plain (.t 13) (.c (.i .i64 4)), (some (11, false)), [10, 8]⟩,
    ⟨some 15, .pick (.t 11) (.c (.b true)) (.t 14), none, [8, 11]⟩,
    ⟨some 2, .mv (.t 15), none, [12, 8, 0, 1, 2, 3, 4, 5, 6, 7, 8, 9, 10, 11, 12]⟩] false)
  .ret))⟩
theorem h_query_single : lowFn Try.prog n_query_single = some c_query_single := by kernel_rfl
def c_probe_Probe_first : LF := ⟨35, [],
  (.block 0
    (.seq
    (.reg [
      ⟨some 5, .mv (.t 0), none, []⟩,
      ⟨some 6, .mv (.t 0), none, []⟩,
      ⟨some 7, .nilck (.t 6), none, [1]⟩,
      ⟨some 8, .fieldAddr 0 (.t 7), none, [2]⟩,
      ⟨some 9, .load true 3 (.t 8), none, [3]⟩,
      ⟨some 10, .mv (.t 0), none, []⟩,
      ⟨some 11, .nilck (.t 10), none, [5]⟩,
      ⟨some 12, .fieldAddr 17 (.t 11), none, [6]⟩,
      ⟨some 13, .call n_probe_Probe_visit [.t 5, .t 9, .t 12], none, [0, 4, 7]⟩,
      ⟨some 4, .mv (.t 13), none, [8, 8]⟩] true)
    (.cond (.t 4)
      .skip
      (.seq
      (.reg [
        ⟨some 15, .mv (.t 0), none, []⟩,
        ⟨some 16, .nilck (.t 15), none, [0]⟩,
        ⟨some 17, .fieldAddr 6 (.t 16), none, [1]⟩,
        ⟨some 18, .fieldAddr 0 (.t 17), none, [2]⟩,
        ⟨some 19, .load false 1 (.t 18), none, [3]⟩,
        ⟨some 20, .bin .eql .plain (.t 19) (.c (.i .i64 5)), none, [4]⟩,
        ⟨some 14, .mv (.t 20), none, [5]⟩] false)
      (.cond (.t 14)
        (.reg [
          ⟨some 21, .mv (.t 0), none, []⟩,
          ⟨some 22, .mv (.t 0), none, []⟩,
          ⟨some 23, .mv (.t 0), none, []⟩,
          ⟨some 24, .nilck (.t 23), none, [2]⟩,
          ⟨some 25, .fieldAddr 13 (.t 24), none, [3]⟩,
          ⟨some 26, .load false 1 (.t 25), none, [4]⟩,
          ⟨some 27, .indexAddr none 1 (.t 26) (.c (.i .i64 0)), none, [5]⟩,
          ⟨some 28, .load false 1 (.t 27), none, [6]⟩,
          ⟨some 29, .mv (.t 0), none, []⟩,
          ⟨some 30, .mkfn n_probe_Probe_second [.t 29] [], none, [8]⟩,
          ⟨some 31, .nilck (.t 21), none, [0, 0, 2, 3, 4, 5, 6, 7]⟩,
          ⟨some 32, .fieldAddr 16 (.t 31), none, [10, 0, 2, 3, 4, 5, 6, 7]⟩,
          ⟨none, .store 1 (.t 32) (.t 28), none, [11, 7, 0, 2, 3, 4, 5, 6, 7]⟩,
          ⟨some 33, .nilck (.t 22), none, [1, 0, 1, 2, 3, 4, 5, 6, 7, 8, 9, 10, 11, 12]⟩,
          ⟨some 34, .fieldAddr 25 (.t 33), none, [13, 0, 1, 2, 3, 4, 5, 6, 7, 8, 9, 10, 11, 12]⟩,
          ⟨none, .store 1 (.t 34) (.t 30), none, [14, 9, 12, 0, 1, 2, 3, 4, 5, 6, 7, 8, 9, 10, 11, 12]⟩] false)
        (.reg [
          ⟨some 2, .mv (.t 0), none, []⟩,
          ⟨some 3, .call n_probe_Probe_ended [.t 2], none, [0]⟩] false))))))⟩
theorem h_probe_Probe_first : lowFn Try.prog n_probe_Probe_first = some c_probe_Probe_first := by kernel_rfl
def c_slices_ContainsFunc_int_int : LF := ⟨9, [.tmp 4],
  (.seq
  (.reg [
    ⟨some 4, .mv (.c (.b false)), none, []⟩] false)
  (.seq
  (.reg [
    ⟨some 5, .mv (.t 0), none, []⟩,
    ⟨some 6, .mv (.t 1), none, []⟩,
    ⟨some 7, .call n_slices_IndexFunc_int_int [.t 5, .t 6], none, [0, 1]⟩,
    ⟨some 8, .bin .geq .plain (.t 7) (.c (.i .i64 0)), none, [2]⟩,
    ⟨some 4, .mv (.t 8), none, [3, 2, 0, 1, 2, 3]⟩] false)
  .ret))⟩
theorem h_slices_ContainsFunc_int_int : lowFn Try.prog n_slices_ContainsFunc_int_int = some c_slices_ContainsFunc_int_int := by kernel_rfl
def c_query_Right_c1 : LF := ⟨14, [.tmp 3],
  (.seq
  (.reg [
    ⟨some 3, .mv (.c (.b false)), none, []⟩] false)
  (.seq
  (.reg [
    ⟨some 4, .mv (.t 0), none, []⟩,
    ⟨some 5, .bin .lss .plain (.t 4) (.c (.i .i64 0)), none, [0]⟩,
    ⟨some 6, .mv (.t 5), none, [1]⟩,
    ⟨some 7, .mv (.t 0), (some (6, false)), [2]⟩,
    ⟨some 8, .fieldAddr 0 (.t 1), (some (6, false)), [2]⟩,
    ⟨some 9, .fieldAddr 0 (.t 8), (some (6, false)), [4, 2]⟩,
    ⟨some 10, .load false 1 (.t 9), (some (6, false)), [5, 2]⟩,
    ⟨some 11, .len none false (.t 10), (some (6, false)), [6, 2]⟩,
    ⟨some 12, .bin .geq .plain (.t 7) (.t 11), (some (6, false)), [3, 7, 2]⟩,
    ⟨some 13, .pick (.t 6) (.c (.b true)) (.t 12), none, [2, 8]⟩,
    ⟨some 3, .mv (.t 13), none, [9, 2, 0, 1, 2, 3, 4, 5, 6, 7, 8, 9]⟩] false)
  .ret))⟩
theorem h_query_Right_c1 : lowFn Try.prog n_query_Right_c1 = some c_query_Right_c1 := by kernel_rfl
def c_slices_Equal_int_int : LF := ⟨26, [.tmp 4],
  (.seq
  (.reg [
    ⟨some 4, .mv (.c (.b false)), none, []⟩] false)
  (.seq
  (.seq
  (.reg [
    ⟨some 6, .mv (.t 0), none, []⟩,
    ⟨some 7, .len none false (.t 6), none, [0]⟩,
    ⟨some 8, .mv (.t 1), none, []⟩,
    ⟨some 9, .len none false (.t 8), none, [2]⟩,
    ⟨some 10, .bin .neq .plain (.t 7) (.t 9), none, [1, 3]⟩] false)
  (.cond (.t 10)
    (.seq
    (.reg [
      ⟨some 4, .mv (.c (.b false)), none, []⟩] false)
    .ret)
    .skip))
  (.seq
  (.seq
  (.reg [
    ⟨some 11, .mv (.t 0), none, []⟩,
    ⟨some 12, .len none false (.t 11), none, [0]⟩,
    ⟨some 13, .mv (.c (.i .i64 0)), none, []⟩] false)
  (.block 0
    (.loop
      (.seq
      (.reg [
        ⟨some 14, .bin .lss .plain (.t 13) (.t 12), none, []⟩] false)
      (.seq
      (.cond (.t 14)
        .skip
        (.exit 0))
      (.seq
      (.block 1
        (.seq
        (.reg [
          ⟨some 15, .mv (.t 13), none, []⟩,
          ⟨some 5, .mv (.t 15), none, [0, 0]⟩] false)
        (.seq
        (.reg [
          ⟨some 16, .mv (.t 0), none, []⟩,
          ⟨some 17, .mv (.t 5), none, []⟩,
          ⟨some 18, .indexAddr none 1 (.t 16) (.t 17), none, [0, 1]⟩,
          ⟨some 19, .load false 1 (.t 18), none, [2]⟩,
          ⟨some 20, .mv (.t 1), none, []⟩,
          ⟨some 21, .mv (.t 5), none, []⟩,
          ⟨some 22, .indexAddr none 1 (.t 20) (.t 21), none, [4, 5]⟩,
          ⟨some 23, .load false 1 (.t 22), none, [6]⟩,
          ⟨some 24, .bin .neq .plain (.t 19) (.t 23), none, [3, 7]⟩] true)
        (.cond (.t 24)
          (.seq
          (.reg [
            ⟨some 4, .mv (.c (.b false)), none, []⟩] false)
          .ret)
          .skip))))
      (.reg [
        ⟨some 25, .bin .add .plain (.t 13) (.c (.i .i64 1)), none, []⟩,
        ⟨some 13, .mv (.t 25), none, [0]⟩] false)))))))
  (.seq
  (.reg [
    ⟨some 4, .mv (.c (.b true)), none, []⟩] false)
  .ret))))⟩
theorem h_slices_Equal_int_int : lowFn Try.prog n_slices_Equal_int_int = some c_slices_Equal_int_int := by kernel_rfl
def c_slices_Equal_api_Link_api_Link : LF := ⟨26, [.tmp 4],
  (.seq
  (.reg [
    ⟨some 4, .mv (.c (.b false)), none, []⟩] false)
  (.seq
  (.seq
  (.reg [
    ⟨some 6, .mv (.t 0), none, []⟩,
    ⟨some 7, .len none false (.t 6), none, [0]⟩,
    ⟨some 8, .mv (.t 1), none, []⟩,
    ⟨some 9, .len none false (.t 8), none, [2]⟩,
    ⟨some 10, .bin .neq .plain (.t 7) (.t 9), none, [1, 3]⟩] false)
  (.cond (.t 10)
    (.seq
    (.reg [
      ⟨some 4, .mv (.c (.b false)), none, []⟩] false)
    .ret)
    .skip))
  (.seq
  (.seq
  (.reg [
    ⟨some 11, .mv (.t 0), none, []⟩,
    ⟨some 12, .len none false (.t 11), none, [0]⟩,
    ⟨some 13, .mv (.c (.i .i64 0)), none, []⟩] false)
  (.block 0
    (.loop
      (.seq
      (.reg [
        ⟨some 14, .bin .lss .plain (.t 13) (.t 12), none, []⟩] false)
      (.seq
      (.cond (.t 14)
        .skip
        (.exit 0))
      (.seq
      (.block 1
        (.seq
        (.reg [
          ⟨some 15, .mv (.t 13), none, []⟩,
          ⟨some 5, .mv (.t 15), none, [0, 0]⟩] false)
        (.seq
        (.reg [
          ⟨some 16, .mv (.t 0), none, []⟩,
          ⟨some 17, .mv (.t 5), none, []⟩,
          ⟨some 18, .indexAddr none 4 (.t 16) (.t 17), none, [0, 1]⟩,
          ⟨some 19, .load true 4 (.t 18), none, [2]⟩,
          ⟨some 20, .mv (.t 1), none, []⟩,
          ⟨some 21, .mv (.t 5), none, []⟩,
          ⟨some 22, .indexAddr none 4 (.t 20) (.t 21), none, [4, 5]⟩,
          ⟨some 23, .load true 4 (.t 22), none, [6]⟩,
          ⟨some 24, .bin .neq (.agg [(0, 1), (1, 1), (2, 1), (3, 1)]) (.t 19) (.t 23), none, [3, 7]⟩] true)
        (.cond (.t 24)
          (.seq
          (.reg [
            ⟨some 4, .mv (.c (.b false)), none, []⟩] false)
          .ret)
          .skip))))
      (.reg [
        ⟨some 25, .bin .add .plain (.t 13) (.c (.i .i64 1)), none, []⟩,
        ⟨some 13, .mv (.t 25), none, [0]⟩] false)))))))
  (.seq
  (.reg [
    ⟨some 4, .mv (.c (.b true)), none, []⟩] false)
  .ret))))⟩
theorem h_slices_Equal_api_Link_api_Link : lowFn Try.prog n_slices_Equal_api_Link_api_Link = some c_slices_Equal_api_Link_api_Link := by kernel_rfl
def c_atoms_New : LF := ⟨12, [.tmp 0],
  (.seq
  (.reg [
    ⟨some 0, .mv (.c (.nilp)), none, []⟩] false)
  (.seq
  (.reg [
    ⟨some 4, .call n_tree_New_int [], none, []⟩,
    ⟨some 5, .call n_tree_Tree_int_Put [.t 4, .c (.i .u64 0), .c (.i .i64 1)], none, [0, 0]⟩,
    ⟨some 3, .mv (.t 5), none, [1]⟩,
    ⟨some 6, .extract (.t 3) 0, none, [2]⟩,
    ⟨some 7, .extract (.t 3) 1, none, [2]⟩,
    ⟨some 1, .mv (.t 6), none, [3, 1, 0, 1, 2, 3]⟩,
    ⟨some 2, .mv (.t 7), none, [4, 5, 0, 1, 2, 3, 4, 5]⟩] false)
  (.seq
  (.reg [
    ⟨some 8, .mv (.t 1), none, []⟩,
    ⟨some 9, .call n_tree_New_int [], none, []⟩,
    ⟨some 10, .build [.nilp, .nilp, .i .i64 0] [(0, 1, .t 8), (1, 1, .t 9)], none, [0, 1]⟩,
    ⟨some 11, .box (.t 10), none, [2]⟩,
    ⟨some 0, .mv (.t 11), none, [3, 1, 0, 1, 2, 3]⟩] false)
  .ret)))⟩
theorem h_atoms_New : lowFn Try.prog n_atoms_New = some c_atoms_New := by kernel_rfl
def c_atoms_Table_Add : LF := ⟨23, [.tmp 4, .tmp 5],
  (.seq
  (.reg [
    ⟨some 3, .box (.t 1), none, []⟩,
    ⟨some 4, .mv (.c (.nilp)), none, []⟩,
    ⟨some 5, .mv (.c (.i .i64 0)), none, [1]⟩] false)
  (.seq
  (.reg [
    ⟨some 6, .mv (.t 0), none, []⟩,
    ⟨some 7, .call n_atoms_Table_own [.t 6], none, [0]⟩,
    ⟨some 0, .mv (.t 7), none, [1, 1, 0, 1]⟩] false)
  (.seq
  (.block 0
    (.seq
    (.reg [
      ⟨some 9, .fieldAddr 0 (.t 3), none, []⟩,
      ⟨some 10, .load false 1 (.t 9), none, [0]⟩,
      ⟨some 11, .fieldAddr 1 (.t 3), none, []⟩,
      ⟨some 12, .load false 1 (.t 11), none, [2]⟩,
      ⟨some 13, .bin .gtr .plain (.t 10) (.t 12), none, [1, 3]⟩,
      ⟨some 8, .mv (.t 13), none, [4]⟩] false)
    (.cond (.t 8)
      (.seq
      (.reg [
        ⟨some 4, .mv (.c (.nilp)), none, []⟩,
        ⟨some 5, .mv (.c (.i .i64 51)), none, [0, 0]⟩] false)
      .ret)
      (.seq
      (.reg [
        ⟨some 15, .mv (.t 0), none, []⟩,
        ⟨some 16, .nilck (.t 15), none, [0]⟩,
        ⟨some 17, .fieldAddr 2 (.t 16), none, [1]⟩,
        ⟨some 18, .load false 1 (.t 17), none, [2]⟩,
        ⟨some 19, .bin .geq .plain (.t 18) (.c (.i .i64 500)), none, [3]⟩,
        ⟨some 14, .mv (.t 19), none, [4]⟩] false)
      (.cond (.t 14)
        (.seq
        (.reg [
          ⟨some 4, .mv (.c (.nilp)), none, []⟩,
          ⟨some 5, .mv (.c (.i .i64 41)), none, [0, 0]⟩] false)
        .ret)
        .skip)))))
  (.seq
  (.reg [
    ⟨some 20, .mv (.t 0), none, []⟩,
    ⟨some 21, .load true 2 (.t 3), none, []⟩,
    ⟨some 22, .call n_atoms_Table_with [.t 20, .t 21, .c (.i .i64 1)], none, [0, 1]⟩,
    ⟨some 4, .mv (.t 22), none, [2, 2, 0, 1, 2]⟩,
    ⟨some 5, .mv (.c (.i .i64 0)), none, [3, 0, 1, 2, 3]⟩] false)
  .ret))))⟩
theorem h_atoms_Table_Add : lowFn Try.prog n_atoms_Table_Add = some c_atoms_Table_Add := by kernel_rfl
def c_atoms_Table_Of : LF := ⟨12, [.tmp 4],
  (.seq
  (.reg [
    ⟨some 4, .mv (.c (.i .i64 0)), none, []⟩] false)
  (.seq
  (.reg [
    ⟨some 5, .mv (.t 0), none, []⟩,
    ⟨some 6, .call n_atoms_Table_own [.t 5], none, [0]⟩,
    ⟨some 7, .mv (.t 1), none, []⟩,
    ⟨some 8, .conv .u64 (.t 7), none, [2]⟩,
    ⟨some 9, .bin .add .plain (.t 8) (.c (.i .u64 1)), none, [3]⟩,
    ⟨some 10, .call n_atoms_Table_place [.t 6, .t 9], none, [1, 4, 1]⟩,
    ⟨some 11, .bin .sub .plain (.t 10) (.c (.i .i64 1)), none, [5]⟩,
    ⟨some 4, .mv (.t 11), none, [6, 5, 0, 1, 2, 3, 4, 5, 6]⟩] false)
  .ret))⟩
theorem h_atoms_Table_Of : lowFn Try.prog n_atoms_Table_Of = some c_atoms_Table_Of := by kernel_rfl
def c_atoms_Table_Atom : LF := ⟨43, [.cell 4 true 2, .tmp 5],
  (.seq
  (.reg [
    ⟨some 4, .alloc [.i .u32 0, .i .u32 0], none, []⟩,
    ⟨some 5, .mv (.c (.b false)), none, []⟩] false)
  (.seq
  (.reg [
    ⟨some 12, .mv (.t 0), none, []⟩,
    ⟨some 13, .call n_atoms_Table_own [.t 12], none, [0]⟩,
    ⟨some 14, .nilck (.t 13), none, [1]⟩,
    ⟨some 15, .fieldAddr 0 (.t 14), none, [2]⟩,
    ⟨some 16, .load false 1 (.t 15), none, [3]⟩,
    ⟨some 6, .mv (.t 16), none, [4, 1, 0, 1, 2, 3, 4]⟩] false)
  (.seq
  (.reg [
    ⟨some 18, .mv (.t 6), none, []⟩,
    ⟨some 19, .mv (.t 1), none, []⟩,
    ⟨some 20, .call n_tree_Tree_int_At [.t 18, .t 19], none, [0, 1]⟩,
    ⟨some 17, .mv (.t 20), none, [2]⟩,
    ⟨some 21, .extract (.t 17) 0, none, [3]⟩,
    ⟨some 22, .extract (.t 17) 1, none, [3]⟩,
    ⟨some 7, .alloc [.i .u64 0, .i .i64 0], none, []⟩,
    ⟨none, .store 2 (.t 7) (.t 21), none, [6, 4, 2, 0, 1, 2, 3, 4, 6]⟩,
    ⟨some 8, .mv (.t 22), none, [5, 7, 0, 1, 2, 3, 4, 5, 6, 7]⟩] false)
  (.seq
  (.seq
  (.reg [
    ⟨some 23, .mv (.t 8), none, []⟩,
    ⟨some 24, .un .not (.t 23), none, [0]⟩] false)
  (.cond (.t 24)
    (.seq
    (.reg [
      ⟨some 25, .build [.i .u32 0, .i .u32 0] [], none, []⟩,
      ⟨none, .store 2 (.t 4) (.t 25), none, [0, 0]⟩,
      ⟨some 5, .mv (.c (.b false)), none, [1, 0, 1]⟩] false)
    .ret)
    .skip))
  (.seq
  (.reg [
    ⟨some 9, .mv (.c (.i .u64 4294967295)), none, []⟩] false)
  (.seq
  (.seq
  (.reg [
    ⟨some 27, .mv (.t 6), none, []⟩,
    ⟨some 28, .mv (.t 1), none, []⟩,
    ⟨some 29, .bin .add .plain (.t 28) (.c (.i .i64 1)), none, [1]⟩,
    ⟨some 30, .call n_tree_Tree_int_At [.t 27, .t 29], none, [0, 2]⟩,
    ⟨some 26, .mv (.t 30), none, [3]⟩,
    ⟨some 31, .extract (.t 26) 0, none, [4]⟩,
    ⟨some 32, .extract (.t 26) 1, none, [4]⟩,
    ⟨some 10, .alloc [.i .u64 0, .i .i64 0], none, []⟩,
    ⟨none, .store 2 (.t 10) (.t 31), none, [7, 5, 3, 0, 1, 2, 3, 4, 5, 7]⟩,
    ⟨some 11, .mv (.t 32), none, [6, 8, 0, 1, 2, 3, 4, 5, 6, 7, 8]⟩] false)
  (.seq
  (.reg [
    ⟨some 33, .mv (.t 11), none, []⟩] false)
  (.cond (.t 33)
    (.reg [
      ⟨some 34, .fieldAddr 0 (.t 10), none, []⟩,
      ⟨some 35, .load false 1 (.t 34), none, [0]⟩,
      ⟨some 36, .bin .sub .plain (.t 35) (.c (.i .u64 1)), none, [1]⟩,
      ⟨some 9, .mv (.t 36), none, [2, 0, 1, 2]⟩] false)
    .skip)))
  (.seq
  (.reg [
    ⟨some 37, .fieldAddr 0 (.t 7), none, []⟩,
    ⟨some 38, .load false 1 (.t 37), none, [0]⟩,
    ⟨some 39, .conv .u32 (.t 38), none, [1]⟩,
    ⟨some 40, .mv (.t 9), none, []⟩,
    ⟨some 41, .conv .u32 (.t 40), none, [3]⟩,
    ⟨some 42, .build [.i .u32 0, .i .u32 0] [(0, 1, .t 39), (1, 1, .t 41)], none, [2, 4]⟩,
    ⟨none, .store 2 (.t 4) (.t 42), none, [5, 0, 1, 2, 3, 4, 5]⟩,
    ⟨some 5, .mv (.c (.b true)), none, [6, 0, 1, 2, 3, 4, 5, 6]⟩] false)
  .ret)))))))⟩
theorem h_atoms_Table_Atom : lowFn Try.prog n_atoms_Table_Atom = some c_atoms_Table_Atom := by kernel_rfl
def c_slices_Contains_int_int : LF := ⟨9, [.tmp 4],
  (.seq
  (.reg [
    ⟨some 4, .mv (.c (.b false)), none, []⟩] false)
  (.seq
  (.reg [
    ⟨some 5, .mv (.t 0), none, []⟩,
    ⟨some 6, .mv (.t 1), none, []⟩,
    ⟨some 7, .call n_slices_Index_int_int [.t 5, .t 6], none, [0, 1]⟩,
    ⟨some 8, .bin .geq .plain (.t 7) (.c (.i .i64 0)), none, [2]⟩,
    ⟨some 4, .mv (.t 8), none, [3, 2, 0, 1, 2, 3]⟩] false)
  .ret))⟩
theorem h_slices_Contains_int_int : lowFn Try.prog n_slices_Contains_int_int = some c_slices_Contains_int_int := by kernel_rfl
def c_query_broken : LF := ⟨2, [.cell 0 true 6],
  (.seq
  (.reg [
    ⟨some 0, .alloc [.nilf, .nilf, .nilf, .nilf, .nilf, .nilf], none, []⟩] false)
  (.seq
  (.reg [
    ⟨some 1, .build [.nilf, .nilf, .nilf, .nilf, .nilf, .nilf] [(0, 1, .c (.fn n_query_broken_c1 [] [])), (1, 1, .c (.fn n_query_broken_c2 [] [])), (2, 1, .c (.fn n_query_broken_c3 [] [])), (3, 1, .c (.fn n_query_broken_c4 [] [])), (4, 1, .c (.fn n_query_broken_c5 [] [])), (5, 1, .c (.fn n_query_broken_c6 [] []))], none, []⟩,
    ⟨none, .store 6 (.t 0) (.t 1), none, [0, 0]⟩] false)
  .ret))⟩
theorem h_query_broken : lowFn Try.prog n_query_broken = some c_query_broken := by kernel_rfl

end Go.Proofs.Ytibkakodokbobaa
