/- The lowered code of functions (made by a program of this session out of the translation's print), and that the translation's code lowers to it. -/
import Derived.Test.YtibkakodokbobaaN
import Derived.Test.YtibkakodokbobaaProg
import Derived.KernelRfl
namespace Go.Proofs.Ytibkakodokbobaa
open Go.Am
def c_probe_Probe_visit : LF := ⟨76, [.tmp 6],
  (.seq
  (.reg [
    ⟨some 4, .box (.t 1), none, []⟩,
    ⟨some 6, .mv (.c (.b false)), none, []⟩] false)
  (.seq
  (.reg [
    ⟨some 12, .mv (.t 2), none, []⟩,
    ⟨some 13, .nilck (.t 12), none, [0]⟩,
    ⟨some 14, .fieldAddr 0 (.t 13), none, [1]⟩,
    ⟨some 15, .load false 1 (.t 14), none, [2]⟩,
    ⟨some 16, .mv (.t 0), none, []⟩,
    ⟨some 17, .nilck (.t 16), none, [4]⟩,
    ⟨some 18, .fieldAddr 16 (.t 17), none, [5]⟩,
    ⟨some 19, .load false 1 (.t 18), none, [6]⟩,
    ⟨some 20, .call n_slices_Contains_int_int [.t 15, .t 19], none, [3, 7]⟩,
    ⟨some 7, .mv (.t 20), none, [8, 8, 0, 1, 2, 3, 4, 5, 6, 7, 8]⟩] true)
  (.seq
  (.reg [
    ⟨some 21, .mv (.t 2), none, []⟩,
    ⟨some 22, .mv (.t 2), none, []⟩,
    ⟨some 23, .nilck (.t 22), none, [1]⟩,
    ⟨some 24, .fieldAddr 0 (.t 23), none, [2]⟩,
    ⟨some 25, .load false 1 (.t 24), none, [3]⟩,
    ⟨some 26, .mv (.t 0), none, []⟩,
    ⟨some 27, .nilck (.t 26), none, [5]⟩,
    ⟨some 28, .fieldAddr 16 (.t 27), none, [6]⟩,
    ⟨some 29, .load false 1 (.t 28), none, [7]⟩,
    ⟨some 30, .bslice 1 [.i .i64 0] 1 [(0, .t 29)], none, [8]⟩,
    ⟨some 31, .append 1 8 (.t 25) (.t 30), none, [4, 9]⟩,
    ⟨some 32, .nilck (.t 21), none, [0, 0, 1, 2, 3, 4, 5, 6, 7, 8, 9, 10]⟩,
    ⟨some 33, .fieldAddr 0 (.t 32), none, [11, 0, 1, 2, 3, 4, 5, 6, 7, 8, 9, 10]⟩,
    ⟨none, .store 1 (.t 33) (.t 31), none, [12, 10, 10, 0, 1, 2, 3, 4, 5, 6, 7, 8, 9, 10]⟩] true)
  (.seq
  (.reg [
    ⟨some 34, .mv (.t 2), none, []⟩,
    ⟨some 35, .nilck (.t 34), none, [0, 0]⟩,
    ⟨some 36, .fieldAddr 1 (.t 35), none, [1, 0]⟩,
    ⟨none, .store 1 (.t 36) (.c (.i .i64 4)), none, [2, 0]⟩] false)
  (.seq
  (.seq
  (.reg [
    ⟨some 37, .mv (.t 7), none, []⟩] false)
  (.cond (.t 37)
    (.seq
    (.reg [
      ⟨some 6, .mv (.c (.b false)), none, []⟩] false)
    .ret)
    .skip))
  (.seq
  (.reg [
    ⟨some 39, .load true 3 (.t 4), none, []⟩,
    ⟨some 40, .mv (.t 0), none, []⟩,
    ⟨some 41, .nilck (.t 40), none, [1]⟩,
    ⟨some 42, .fieldAddr 16 (.t 41), none, [2]⟩,
    ⟨some 43, .load false 1 (.t 42), none, [3]⟩,
    ⟨some 44, .mv (.t 0), none, []⟩,
    ⟨some 45, .nilck (.t 44), none, [5]⟩,
    ⟨some 46, .fieldAddr 15 (.t 45), none, [6]⟩,
    ⟨some 47, .load false 1 (.t 46), none, [7]⟩,
    ⟨some 48, .indexAddr none 2 (.t 47) (.c (.i .i64 0)), none, [8]⟩,
    ⟨some 49, .fieldAddr 0 (.t 48), none, [9]⟩,
    ⟨some 50, .load false 1 (.t 49), none, [10]⟩,
    ⟨some 51, .call n_fate_Step [.t 39, .t 43, .t 50], none, [0, 4, 11]⟩,
    ⟨some 38, .mv (.t 51), none, [12]⟩,
    ⟨some 52, .extract (.t 38) 0, none, [13]⟩,
    ⟨some 53, .extract (.t 38) 1, none, [13]⟩,
    ⟨some 9, .alloc [.i .i64 0, .i .i64 0], none, []⟩,
    ⟨some 8, .mv (.t 52), none, [14, 12, 0, 1, 2, 3, 4, 5, 6, 7, 8, 9, 10, 11, 12, 13, 14, 16]⟩,
    ⟨none, .store 2 (.t 9) (.t 53), none, [16, 15, 17, 0, 1, 2, 3, 4, 5, 6, 7, 8, 9, 10, 11, 12, 13, 14, 15, 16, 17]⟩] true)
  (.seq
  (.seq
  (.reg [
    ⟨some 54, .mv (.t 8), none, []⟩,
    ⟨some 55, .bin .neq .plain (.t 54) (.c (.i .i64 4)), none, [0]⟩] false)
  (.cond (.t 55)
    (.seq
    (.reg [
      ⟨some 56, .mv (.t 2), none, []⟩,
      ⟨some 57, .mv (.t 2), none, []⟩,
      ⟨some 58, .mv (.t 8), none, []⟩,
      ⟨some 59, .load true 2 (.t 9), none, []⟩,
      ⟨some 60, .nilck (.t 56), none, [0, 0, 2]⟩,
      ⟨some 61, .fieldAddr 1 (.t 60), none, [4, 0, 2]⟩,
      ⟨none, .store 1 (.t 61) (.t 58), none, [5, 2, 0, 2]⟩,
      ⟨some 62, .nilck (.t 57), none, [1, 0, 1, 2, 3, 4, 5, 6]⟩,
      ⟨some 63, .fieldAddr 2 (.t 62), none, [7, 0, 1, 2, 3, 4, 5, 6]⟩,
      ⟨none, .store 2 (.t 63) (.t 59), none, [8, 3, 6, 0, 1, 2, 3, 4, 5, 6]⟩] true)
    (.seq
    (.reg [
      ⟨some 6, .mv (.c (.b false)), none, []⟩] false)
    .ret))
    .skip))
  (.seq
  (.reg [
    ⟨some 65, .fieldAddr 0 (.t 4), none, []⟩,
    ⟨some 66, .load true 2 (.t 65), none, [0]⟩,
    ⟨some 67, .load true 2 (.t 9), none, []⟩,
    ⟨some 68, .call n_topo_Next [.t 66, .t 67], none, [1, 2]⟩,
    ⟨some 64, .mv (.t 68), none, [3]⟩,
    ⟨some 69, .extract (.t 64) 0, none, [4]⟩,
    ⟨some 70, .extract (.t 64) 1, none, [4]⟩,
    ⟨some 10, .alloc [.i .i64 0, .i .i64 0], none, []⟩,
    ⟨none, .store 2 (.t 10) (.t 69), none, [7, 5, 3, 0, 1, 2, 3, 4, 5, 7]⟩,
    ⟨some 11, .mv (.t 70), none, [6, 8, 0, 1, 2, 3, 4, 5, 6, 7, 8]⟩] false)
  (.seq
  (.reg [
    ⟨some 71, .mv (.t 0), none, []⟩,
    ⟨some 72, .fieldAddr 0 (.t 10), none, []⟩,
    ⟨some 73, .load false 1 (.t 72), none, [1]⟩,
    ⟨some 74, .nilck (.t 71), none, [0, 0, 1, 2]⟩,
    ⟨some 75, .fieldAddr 16 (.t 74), none, [3, 0, 1, 2]⟩,
    ⟨none, .store 1 (.t 75) (.t 73), none, [4, 2, 0, 1, 2]⟩] false)
  (.seq
  (.reg [
    ⟨some 6, .mv (.c (.b true)), none, []⟩] false)
  .ret))))))))))⟩
theorem h_probe_Probe_visit : lowFn Try.prog n_probe_Probe_visit = some c_probe_Probe_visit := by kernel_rfl
def c_probe_Probe_second : LF := ⟨14, [],
  (.seq
  (.reg [
    ⟨some 2, .mv (.t 0), none, []⟩,
    ⟨some 3, .mv (.t 0), none, []⟩,
    ⟨some 4, .nilck (.t 3), none, [1]⟩,
    ⟨some 5, .fieldAddr 3 (.t 4), none, [2]⟩,
    ⟨some 6, .load true 3 (.t 5), none, [3]⟩,
    ⟨some 7, .mv (.t 0), none, []⟩,
    ⟨some 8, .nilck (.t 7), none, [5]⟩,
    ⟨some 9, .fieldAddr 21 (.t 8), none, [6]⟩,
    ⟨some 10, .call n_probe_Probe_visit [.t 2, .t 6, .t 9], none, [0, 4, 7]⟩,
    ⟨some 11, .un .not (.t 10), none, [8]⟩] true)
  (.cond (.t 11)
    (.reg [
      ⟨some 12, .mv (.t 0), none, []⟩,
      ⟨some 13, .call n_probe_Probe_ended [.t 12], none, [0]⟩] false)
    .skip))⟩
theorem h_probe_Probe_second : lowFn Try.prog n_probe_Probe_second = some c_probe_Probe_second := by kernel_rfl
def c_probe_Probe_ended : LF := ⟨91, [],
  (.seq
  (.seq
  (.reg [
    ⟨some 2, .mv (.t 0), none, []⟩,
    ⟨some 3, .nilck (.t 2), none, [0]⟩,
    ⟨some 4, .fieldAddr 0 (.t 3), none, [1]⟩,
    ⟨some 5, .load true 3 (.t 4), none, [2]⟩,
    ⟨some 6, .mv (.t 0), none, []⟩,
    ⟨some 7, .nilck (.t 6), none, [4]⟩,
    ⟨some 8, .fieldAddr 3 (.t 7), none, [5]⟩,
    ⟨some 9, .load true 3 (.t 8), none, [6]⟩,
    ⟨some 10, .mv (.t 0), none, []⟩,
    ⟨some 11, .nilck (.t 10), none, [8]⟩,
    ⟨some 12, .fieldAddr 6 (.t 11), none, [9]⟩,
    ⟨some 13, .load true 7 (.t 12), none, [10]⟩,
    ⟨some 14, .mv (.t 0), none, []⟩,
    ⟨some 15, .nilck (.t 14), none, [12]⟩,
    ⟨some 16, .fieldAddr 17 (.t 15), none, [13]⟩,
    ⟨some 17, .load true 4 (.t 16), none, [14]⟩,
    ⟨some 18, .mv (.t 0), none, []⟩,
    ⟨some 19, .nilck (.t 18), none, [16]⟩,
    ⟨some 20, .fieldAddr 21 (.t 19), none, [17]⟩,
    ⟨some 21, .load true 4 (.t 20), none, [18]⟩,
    ⟨some 22, .call n_query_Breaks [.t 5, .t 9, .t 13, .t 17, .t 21], none, [3, 7, 11, 15, 19]⟩] true)
  (.cond (.t 22)
    (.seq
    (.reg [
      ⟨some 23, .mv (.t 0), none, []⟩,
      ⟨some 24, .mv (.t 0), none, []⟩,
      ⟨some 25, .mv (.t 0), none, []⟩,
      ⟨some 26, .nilck (.t 25), none, [2]⟩,
      ⟨some 27, .fieldAddr 13 (.t 26), none, [3]⟩,
      ⟨some 28, .load false 1 (.t 27), none, [4]⟩,
      ⟨some 29, .indexAddr none 1 (.t 28) (.c (.i .i64 0)), none, [5]⟩,
      ⟨some 30, .load false 1 (.t 29), none, [6]⟩,
      ⟨some 31, .mv (.t 0), none, []⟩,
      ⟨some 32, .nilck (.t 31), none, [8]⟩,
      ⟨some 33, .fieldAddr 15 (.t 32), none, [9]⟩,
      ⟨some 34, .load false 1 (.t 33), none, [10]⟩,
      ⟨some 35, .indexAddr none 2 (.t 34) (.c (.i .i64 0)), none, [11]⟩,
      ⟨some 36, .fieldAddr 0 (.t 35), none, [12]⟩,
      ⟨some 37, .load false 1 (.t 36), none, [13]⟩,
      ⟨some 38, .mv (.t 0), none, []⟩,
      ⟨some 39, .nilck (.t 38), none, [15]⟩,
      ⟨some 40, .fieldAddr 17 (.t 39), none, [16]⟩,
      ⟨some 41, .load true 4 (.t 40), none, [17]⟩,
      ⟨some 42, .build [.b false, .i .i64 0, .i .u32 0, .esl, .i .i64 0, .i .i64 0, .i .i64 0] [(1, 1, .t 30), (2, 1, .t 37), (3, 4, .t 41)], none, [7, 14, 18]⟩,
      ⟨some 43, .nilck (.t 23), none, [0, 0, 5, 7, 11, 14, 18]⟩,
      ⟨some 44, .fieldAddr 26 (.t 43), none, [20, 0, 5, 7, 11, 14, 18]⟩,
      ⟨none, .store 1 (.t 44) (.c (.b true)), none, [21, 0, 5, 7, 11, 14, 18]⟩,
      ⟨some 45, .nilck (.t 24), none, [1, 0, 1, 2, 3, 4, 5, 6, 7, 8, 9, 10, 11, 12, 13, 14, 15, 16, 17, 18, 19, 20, 21, 22]⟩,
      ⟨some 46, .fieldAddr 27 (.t 45), none, [23, 0, 1, 2, 3, 4, 5, 6, 7, 8, 9, 10, 11, 12, 13, 14, 15, 16, 17, 18, 19, 20, 21, 22]⟩,
      ⟨none, .store 7 (.t 46) (.t 42), none, [24, 19, 22, 0, 1, 2, 3, 4, 5, 6, 7, 8, 9, 10, 11, 12, 13, 14, 15, 16, 17, 18, 19, 20, 21, 22]⟩] true)
    .ret)
    .skip))
  (.seq
  (.reg [
    ⟨some 47, .mv (.t 0), none, []⟩,
    ⟨some 48, .mv (.t 0), none, []⟩,
    ⟨some 49, .nilck (.t 48), none, [1]⟩,
    ⟨some 50, .fieldAddr 15 (.t 49), none, [2]⟩,
    ⟨some 51, .load false 1 (.t 50), none, [3]⟩,
    ⟨some 52, .slice false 2 (.t 51) (some (.c (.i .i64 1))) none none, none, [4]⟩,
    ⟨some 53, .nilck (.t 47), none, [0, 0, 1, 2, 3, 4, 5]⟩,
    ⟨some 54, .fieldAddr 15 (.t 53), none, [6, 0, 1, 2, 3, 4, 5]⟩,
    ⟨none, .store 1 (.t 54) (.t 52), none, [7, 5, 0, 1, 2, 3, 4, 5]⟩] false)
  (.seq
  (.seq
  (.reg [
    ⟨some 55, .mv (.t 0), none, []⟩,
    ⟨some 56, .nilck (.t 55), none, [0]⟩,
    ⟨some 57, .fieldAddr 15 (.t 56), none, [1]⟩,
    ⟨some 58, .load false 1 (.t 57), none, [2]⟩,
    ⟨some 59, .len none false (.t 58), none, [3]⟩,
    ⟨some 60, .bin .eql .plain (.t 59) (.c (.i .i64 0)), none, [4]⟩] false)
  (.cond (.t 60)
    (.reg [
      ⟨some 61, .mv (.t 0), none, []⟩,
      ⟨some 62, .mv (.t 0), none, []⟩,
      ⟨some 63, .mv (.t 0), none, []⟩,
      ⟨some 64, .nilck (.t 63), none, [2]⟩,
      ⟨some 65, .fieldAddr 14 (.t 64), none, [3]⟩,
      ⟨some 66, .load false 1 (.t 65), none, [4]⟩,
      ⟨some 67, .mv (.t 0), none, []⟩,
      ⟨some 68, .nilck (.t 67), none, [6]⟩,
      ⟨some 69, .fieldAddr 13 (.t 68), none, [7]⟩,
      ⟨some 70, .load false 1 (.t 69), none, [8]⟩,
      ⟨some 71, .slice false 1 (.t 70) (some (.c (.i .i64 1))) none none, none, [9]⟩,
      ⟨some 72, .nilck (.t 61), none, [0, 0, 2, 3, 4, 5, 9]⟩,
      ⟨some 73, .fieldAddr 15 (.t 72), none, [11, 0, 2, 3, 4, 5, 9]⟩,
      ⟨none, .store 1 (.t 73) (.t 66), none, [12, 5, 0, 2, 3, 4, 5, 9]⟩,
      ⟨some 74, .nilck (.t 62), none, [1, 0, 1, 2, 3, 4, 5, 6, 7, 8, 9, 10, 11, 12, 13]⟩,
      ⟨some 75, .fieldAddr 13 (.t 74), none, [14, 0, 1, 2, 3, 4, 5, 6, 7, 8, 9, 10, 11, 12, 13]⟩,
      ⟨none, .store 1 (.t 75) (.t 71), none, [15, 10, 13, 0, 1, 2, 3, 4, 5, 6, 7, 8, 9, 10, 11, 12, 13]⟩] true)
    .skip))
  (.seq
  (.seq
  (.reg [
    ⟨some 76, .mv (.t 0), none, []⟩,
    ⟨some 77, .nilck (.t 76), none, [0]⟩,
    ⟨some 78, .fieldAddr 13 (.t 77), none, [1]⟩,
    ⟨some 79, .load false 1 (.t 78), none, [2]⟩,
    ⟨some 80, .len none false (.t 79), none, [3]⟩,
    ⟨some 81, .bin .eql .plain (.t 80) (.c (.i .i64 0)), none, [4]⟩] false)
  (.cond (.t 81)
    (.seq
    (.reg [
      ⟨some 82, .mv (.t 0), none, []⟩,
      ⟨some 83, .mv (.t 0), none, []⟩,
      ⟨some 84, .build [.b false, .i .i64 0, .i .u32 0, .esl, .i .i64 0, .i .i64 0, .i .i64 0] [(0, 1, .c (.b true))], none, []⟩,
      ⟨some 85, .nilck (.t 82), none, [0, 0]⟩,
      ⟨some 86, .fieldAddr 26 (.t 85), none, [3, 0]⟩,
      ⟨none, .store 1 (.t 86) (.c (.b true)), none, [4, 0]⟩,
      ⟨some 87, .nilck (.t 83), none, [1, 0, 1, 2, 3, 4, 5]⟩,
      ⟨some 88, .fieldAddr 27 (.t 87), none, [6, 0, 1, 2, 3, 4, 5]⟩,
      ⟨none, .store 7 (.t 88) (.t 84), none, [7, 2, 5, 0, 1, 2, 3, 4, 5]⟩] false)
    .ret)
    .skip))
  (.reg [
    ⟨some 89, .mv (.t 0), none, []⟩,
    ⟨some 90, .call n_probe_Probe_begin [.t 89], none, [0]⟩] false)))))⟩
theorem h_probe_Probe_ended : lowFn Try.prog n_probe_Probe_ended = some c_probe_Probe_ended := by kernel_rfl
def c_slices_IndexFunc_int_int : LF := ⟨19, [.tmp 4],
  (.seq
  (.reg [
    ⟨some 4, .mv (.c (.i .i64 0)), none, []⟩] false)
  (.seq
  (.seq
  (.reg [
    ⟨some 6, .mv (.t 0), none, []⟩,
    ⟨some 7, .len none false (.t 6), none, [0]⟩,
    ⟨some 8, .mv (.c (.i .i64 0)), none, []⟩] false)
  (.block 0
    (.loop
      (.seq
      (.reg [
        ⟨some 9, .bin .lss .plain (.t 8) (.t 7), none, []⟩] false)
      (.seq
      (.cond (.t 9)
        .skip
        (.exit 0))
      (.seq
      (.block 1
        (.seq
        (.reg [
          ⟨some 10, .mv (.t 8), none, []⟩,
          ⟨some 5, .mv (.t 10), none, [0, 0]⟩] false)
        (.seq
        (.reg [
          ⟨some 11, .mv (.t 1), none, []⟩,
          ⟨some 12, .mv (.t 0), none, []⟩,
          ⟨some 13, .mv (.t 5), none, []⟩,
          ⟨some 14, .indexAddr none 1 (.t 12) (.t 13), none, [1, 2]⟩,
          ⟨some 15, .load false 1 (.t 14), none, [3]⟩,
          ⟨some 16, .callv (.t 11) [.t 15], none, [0, 4]⟩] false)
        (.cond (.t 16)
          (.seq
          (.reg [
            ⟨some 17, .mv (.t 5), none, []⟩,
            ⟨some 4, .mv (.t 17), none, [0, 0]⟩] false)
          .ret)
          .skip))))
      (.reg [
        ⟨some 18, .bin .add .plain (.t 8) (.c (.i .i64 1)), none, []⟩,
        ⟨some 8, .mv (.t 18), none, [0]⟩] false)))))))
  (.seq
  (.reg [
    ⟨some 4, .mv (.c (.i .i64 (-1))), none, []⟩] false)
  .ret)))⟩
theorem h_slices_IndexFunc_int_int : lowFn Try.prog n_slices_IndexFunc_int_int = some c_slices_IndexFunc_int_int := by kernel_rfl
def c_tree_New_int : LF := ⟨3, [.tmp 0],
  (.seq
  (.reg [
    ⟨some 0, .mv (.c (.nilp)), none, []⟩] false)
  (.seq
  (.reg [
    ⟨some 1, .build [.nilp] [], none, []⟩,
    ⟨some 2, .box (.t 1), none, [0]⟩,
    ⟨some 0, .mv (.t 2), none, [1, 0, 1]⟩] false)
  .ret))⟩
theorem h_tree_New_int : lowFn Try.prog n_tree_New_int = some c_tree_New_int := by kernel_rfl
def c_tree_Tree_int_Put : LF := ⟨31, [.tmp 6, .tmp 7],
  (.seq
  (.reg [
    ⟨some 6, .mv (.c (.nilp)), none, []⟩,
    ⟨some 7, .mv (.c (.i .i64 0)), none, [0]⟩] false)
  (.seq
  (.seq
  (.reg [
    ⟨some 11, .mv (.t 0), none, []⟩,
    ⟨some 12, .mv (.t 1), none, []⟩,
    ⟨some 13, .call n_tree_Tree_int_Get [.t 11, .t 12], none, [0, 1]⟩,
    ⟨some 10, .mv (.t 13), none, [2]⟩,
    ⟨some 14, .extract (.t 10) 0, none, [3]⟩,
    ⟨some 15, .extract (.t 10) 1, none, [3]⟩,
    ⟨some 8, .mv (.t 14), none, [4, 2, 0, 1, 2, 3, 4]⟩,
    ⟨some 9, .mv (.t 15), none, [5, 6, 0, 1, 2, 3, 4, 5, 6]⟩] false)
  (.seq
  (.reg [
    ⟨some 16, .mv (.t 9), none, []⟩,
    ⟨some 17, .un .not (.t 16), none, [0]⟩,
    ⟨some 18, .mv (.t 17), none, [1]⟩,
    ⟨some 19, .mv (.t 0), (some (18, true)), [2]⟩,
    ⟨some 20, .call n_tree_Tree_int_Len [.t 19], (some (18, true)), [3, 2, 2]⟩,
    ⟨some 21, .bin .geq .plain (.t 20) (.c (.i .i64 1024)), (some (18, true)), [4, 2]⟩,
    ⟨some 22, .pick (.t 18) (.t 21) (.c (.b false)), none, [2, 5]⟩] false)
  (.cond (.t 22)
    (.seq
    (.reg [
      ⟨some 6, .mv (.c (.nilp)), none, []⟩,
      ⟨some 7, .mv (.c (.i .i64 41)), none, [0, 0]⟩] false)
    .ret)
    .skip)))
  (.seq
  (.reg [
    ⟨some 23, .mv (.t 0), none, []⟩,
    ⟨some 24, .call n_tree_Tree_int_top [.t 23], none, [0]⟩,
    ⟨some 25, .mv (.t 1), none, []⟩,
    ⟨some 26, .mv (.t 2), none, []⟩,
    ⟨some 27, .build [.i .u64 0, .i .i64 0] [(0, 1, .t 25), (1, 1, .t 26)], none, [2, 3]⟩,
    ⟨some 28, .call n_tree_node_int_with [.t 24, .t 27], none, [1, 4, 1]⟩,
    ⟨some 29, .build [.nilp] [(0, 1, .t 28)], none, [5]⟩,
    ⟨some 30, .box (.t 29), none, [6]⟩,
    ⟨some 6, .mv (.t 30), none, [7, 5, 0, 1, 2, 3, 4, 5, 6, 7]⟩,
    ⟨some 7, .mv (.c (.i .i64 0)), none, [8, 0, 1, 2, 3, 4, 5, 6, 7, 8]⟩] false)
  .ret)))⟩
theorem h_tree_Tree_int_Put : lowFn Try.prog n_tree_Tree_int_Put = some c_tree_Tree_int_Put := by kernel_rfl
def c_atoms_Table_own : LF := ⟨7, [.tmp 2],
  (.seq
  (.reg [
    ⟨some 2, .mv (.c (.nilp)), none, []⟩] false)
  (.seq
  (.seq
  (.reg [
    ⟨some 3, .mv (.t 0), none, []⟩,
    ⟨some 4, .bin .eql .ptr (.t 3) (.c (.nilp)), none, [0]⟩] false)
  (.cond (.t 4)
    (.seq
    (.reg [
      ⟨some 5, .call n_atoms_New [], none, []⟩,
      ⟨some 2, .mv (.t 5), none, [0, 0, 0]⟩] false)
    .ret)
    .skip))
  (.seq
  (.reg [
    ⟨some 6, .mv (.t 0), none, []⟩,
    ⟨some 2, .mv (.t 6), none, [0, 0]⟩] false)
  .ret)))⟩
theorem h_atoms_Table_own : lowFn Try.prog n_atoms_Table_own = some c_atoms_Table_own := by kernel_rfl
def c_atoms_Table_with : LF := ⟨49, [.tmp 6],
  (.seq
  (.reg [
    ⟨some 4, .box (.t 1), none, []⟩,
    ⟨some 6, .mv (.c (.nilp)), none, []⟩] false)
  (.seq
  (.reg [
    ⟨some 10, .mv (.t 0), none, []⟩,
    ⟨some 11, .nilck (.t 10), none, [0]⟩,
    ⟨some 12, .fieldAddr 0 (.t 11), none, [1]⟩,
    ⟨some 13, .load false 1 (.t 12), none, [2]⟩,
    ⟨some 14, .mv (.t 0), none, []⟩,
    ⟨some 15, .nilck (.t 14), none, [4]⟩,
    ⟨some 16, .fieldAddr 1 (.t 15), none, [5]⟩,
    ⟨some 17, .load false 1 (.t 16), none, [6]⟩,
    ⟨some 18, .load true 2 (.t 4), none, []⟩,
    ⟨some 19, .call n_atoms_key [.t 18], none, [8]⟩,
    ⟨some 20, .mv (.t 2), none, []⟩,
    ⟨some 21, .call n_atoms_more_int [.t 17, .t 19, .t 20], none, [7, 9, 10, 9]⟩,
    ⟨some 22, .mv (.t 0), none, []⟩,
    ⟨some 23, .nilck (.t 22), none, [12]⟩,
    ⟨some 24, .fieldAddr 2 (.t 23), none, [13]⟩,
    ⟨some 25, .load false 1 (.t 24), none, [14]⟩,
    ⟨some 26, .mv (.t 2), none, []⟩,
    ⟨some 27, .bin .add .plain (.t 25) (.t 26), none, [15, 16]⟩,
    ⟨some 28, .build [.nilp, .nilp, .i .i64 0] [(0, 1, .t 13), (1, 1, .t 21), (2, 1, .t 27)], none, [3, 11, 17]⟩,
    ⟨some 29, .box (.t 28), none, [18]⟩,
    ⟨some 7, .mv (.t 29), none, [19, 11, 0, 1, 2, 3, 4, 5, 6, 7, 8, 9, 10, 11, 12, 13, 14, 15, 16, 17, 18, 19]⟩] true)
  (.seq
  (.seq
  (.reg [
    ⟨some 30, .load true 2 (.t 4), none, []⟩,
    ⟨some 31, .call n_atoms_ends [.t 30], none, [0]⟩,
    ⟨some 32, .len none false (.t 31), none, [1]⟩,
    ⟨some 33, .mv (.c (.i .i64 0)), none, []⟩] false)
  (.block 0
    (.loop
      (.seq
      (.reg [
        ⟨some 34, .bin .lss .plain (.t 33) (.t 32), none, []⟩] false)
      (.seq
      (.cond (.t 34)
        .skip
        (.exit 0))
      (.seq
      (.block 1
        (.seq
        (.reg [
          ⟨some 35, .indexAddr none 1 (.t 31) (.t 33), none, []⟩,
          ⟨some 36, .load false 1 (.t 35), none, [0]⟩,
          ⟨some 9, .mv (.t 36), none, [1, 0, 1]⟩] false)
        (.reg [
          ⟨some 37, .mv (.t 7), none, []⟩,
          ⟨some 38, .mv (.t 7), none, []⟩,
          ⟨some 39, .nilck (.t 38), none, [1]⟩,
          ⟨some 40, .fieldAddr 0 (.t 39), none, [2]⟩,
          ⟨some 41, .load false 1 (.t 40), none, [3]⟩,
          ⟨some 42, .mv (.t 9), none, []⟩,
          ⟨some 43, .mv (.t 2), none, []⟩,
          ⟨some 44, .call n_atoms_more_int [.t 41, .t 42, .t 43], none, [4, 5, 6]⟩,
          ⟨some 45, .nilck (.t 37), none, [0, 0, 1, 2, 3, 4, 5, 6, 7]⟩,
          ⟨some 46, .fieldAddr 0 (.t 45), none, [8, 0, 1, 2, 3, 4, 5, 6, 7]⟩,
          ⟨none, .store 1 (.t 46) (.t 44), none, [9, 7, 7, 0, 1, 2, 3, 4, 5, 6, 7]⟩] false)))
      (.reg [
        ⟨some 47, .bin .add .plain (.t 33) (.c (.i .i64 1)), none, []⟩,
        ⟨some 33, .mv (.t 47), none, [0]⟩] false)))))))
  (.seq
  (.reg [
    ⟨some 48, .mv (.t 7), none, []⟩,
    ⟨some 6, .mv (.t 48), none, [0, 0]⟩] false)
  .ret))))⟩
theorem h_atoms_Table_with : lowFn Try.prog n_atoms_Table_with = some c_atoms_Table_with := by kernel_rfl
def c_atoms_Table_place : LF := ⟨18, [.tmp 4],
  (.seq
  (.reg [
    ⟨some 4, .mv (.c (.i .i64 0)), none, []⟩] false)
  (.seq
  (.reg [
    ⟨some 8, .mv (.t 0), none, []⟩,
    ⟨some 9, .nilck (.t 8), none, [0]⟩,
    ⟨some 10, .fieldAddr 0 (.t 9), none, [1]⟩,
    ⟨some 11, .load false 1 (.t 10), none, [2]⟩,
    ⟨some 12, .mv (.t 1), none, []⟩,
    ⟨some 13, .call n_tree_Tree_int_Split [.t 11, .t 12], none, [3, 4]⟩,
    ⟨some 7, .mv (.t 13), none, [5]⟩,
    ⟨some 14, .extract (.t 7) 0, none, [6]⟩,
    ⟨some 15, .extract (.t 7) 1, none, [6]⟩,
    ⟨some 5, .mv (.t 14), none, [7, 5, 0, 1, 2, 3, 4, 5, 6, 7]⟩,
    ⟨some 6, .mv (.t 15), none, [8, 9, 0, 1, 2, 3, 4, 5, 6, 7, 8, 9]⟩] false)
  (.seq
  (.reg [
    ⟨some 16, .mv (.t 5), none, []⟩,
    ⟨some 17, .call n_tree_Tree_int_Len [.t 16], none, [0]⟩,
    ⟨some 4, .mv (.t 17), none, [1, 1, 0, 1]⟩] false)
  .ret)))⟩
theorem h_atoms_Table_place : lowFn Try.prog n_atoms_Table_place = some c_atoms_Table_place := by kernel_rfl
def c_tree_Tree_int_At : LF := ⟨52, [.cell 4 true 2, .tmp 5],
  (.seq
  (.reg [
    ⟨some 4, .alloc [.i .u64 0, .i .i64 0], none, []⟩,
    ⟨some 5, .mv (.c (.b false)), none, []⟩] false)
  (.seq
  (.seq
  (.reg [
    ⟨some 7, .mv (.t 1), none, []⟩,
    ⟨some 8, .bin .lss .plain (.t 7) (.c (.i .i64 0)), none, [0]⟩,
    ⟨some 9, .mv (.t 8), none, [1]⟩,
    ⟨some 10, .mv (.t 1), (some (9, false)), [2]⟩,
    ⟨some 11, .mv (.t 0), (some (9, false)), [2]⟩,
    ⟨some 12, .call n_tree_Tree_int_Len [.t 11], (some (9, false)), [4, 2, 2]⟩,
    ⟨some 13, .bin .geq .plain (.t 10) (.t 12), (some (9, false)), [3, 5, 2]⟩,
    ⟨some 14, .pick (.t 9) (.c (.b true)) (.t 13), none, [2, 6]⟩] false)
  (.cond (.t 14)
    (.seq
    (.reg [
      ⟨some 15, .build [.i .u64 0, .i .i64 0] [], none, []⟩,
      ⟨none, .store 2 (.t 4) (.t 15), none, [0, 0]⟩,
      ⟨some 5, .mv (.c (.b false)), none, [1, 0, 1]⟩] false)
    .ret)
    .skip))
  (.seq
  (.reg [
    ⟨some 16, .mv (.t 0), none, []⟩,
    ⟨some 17, .call n_tree_Tree_int_top [.t 16], none, [0]⟩,
    ⟨some 6, .mv (.t 17), none, [1, 1, 0, 1]⟩] false)
  (.seq
  (.block 0
    (.loop
      (.seq
      (.seq
      (.reg [
        ⟨some 18, .mv (.t 1), none, []⟩,
        ⟨some 19, .mv (.t 6), none, []⟩,
        ⟨some 20, .nilck (.t 19), none, [1]⟩,
        ⟨some 21, .fieldAddr 2 (.t 20), none, [2]⟩,
        ⟨some 22, .load false 1 (.t 21), none, [3]⟩,
        ⟨some 23, .call n_tree_node_int_size [.t 22], none, [4]⟩,
        ⟨some 24, .bin .neq .plain (.t 18) (.t 23), none, [0, 5]⟩] false)
      (.cond (.t 24)
        .skip
        (.exit 0)))
      (.block 1
        (.seq
        (.seq
        (.reg [
          ⟨some 25, .mv (.t 1), none, []⟩,
          ⟨some 26, .mv (.t 6), none, []⟩,
          ⟨some 27, .nilck (.t 26), none, [1]⟩,
          ⟨some 28, .fieldAddr 2 (.t 27), none, [2]⟩,
          ⟨some 29, .load false 1 (.t 28), none, [3]⟩,
          ⟨some 30, .call n_tree_node_int_size [.t 29], none, [4]⟩,
          ⟨some 31, .bin .lss .plain (.t 25) (.t 30), none, [0, 5]⟩] false)
        (.cond (.t 31)
          (.seq
          (.reg [
            ⟨some 32, .mv (.t 6), none, []⟩,
            ⟨some 33, .nilck (.t 32), none, [0]⟩,
            ⟨some 34, .fieldAddr 2 (.t 33), none, [1]⟩,
            ⟨some 35, .load false 1 (.t 34), none, [2]⟩,
            ⟨some 6, .mv (.t 35), none, [3, 0, 1, 2, 3]⟩] false)
          (.exit 1))
          .skip))
        (.seq
        (.reg [
          ⟨some 36, .mv (.t 1), none, []⟩,
          ⟨some 37, .mv (.t 6), none, []⟩,
          ⟨some 38, .nilck (.t 37), none, [1]⟩,
          ⟨some 39, .fieldAddr 2 (.t 38), none, [2]⟩,
          ⟨some 40, .load false 1 (.t 39), none, [3]⟩,
          ⟨some 41, .call n_tree_node_int_size [.t 40], none, [4]⟩,
          ⟨some 42, .bin .add .plain (.c (.i .i64 1)) (.t 41), none, [5]⟩,
          ⟨some 43, .bin .sub .plain (.t 36) (.t 42), none, [0, 6]⟩,
          ⟨some 1, .mv (.t 43), none, [7, 5, 0, 1, 2, 3, 4, 5, 6, 7]⟩] false)
        (.reg [
          ⟨some 44, .mv (.t 6), none, []⟩,
          ⟨some 45, .nilck (.t 44), none, [0]⟩,
          ⟨some 46, .fieldAddr 3 (.t 45), none, [1]⟩,
          ⟨some 47, .load false 1 (.t 46), none, [2]⟩,
          ⟨some 6, .mv (.t 47), none, [3, 0, 1, 2, 3]⟩] false)))))))
  (.seq
  (.reg [
    ⟨some 48, .mv (.t 6), none, []⟩,
    ⟨some 49, .nilck (.t 48), none, [0]⟩,
    ⟨some 50, .fieldAddr 0 (.t 49), none, [1]⟩,
    ⟨some 51, .load true 2 (.t 50), none, [2]⟩,
    ⟨none, .store 2 (.t 4) (.t 51), none, [3, 0, 1, 2, 3]⟩,
    ⟨some 5, .mv (.c (.b true)), none, [4, 0, 1, 2, 3, 4]⟩] false)
  .ret)))))⟩
theorem h_tree_Tree_int_At : lowFn Try.prog n_tree_Tree_int_At = some c_tree_Tree_int_At := by kernel_rfl
def c_fate_Step : LF := ⟨50, [.tmp 6, .cell 7 true 2],
  (.seq
  (.reg [
    ⟨some 3, .box (.t 0), none, []⟩,
    ⟨some 6, .mv (.c (.i .i64 0)), none, []⟩,
    ⟨some 7, .alloc [.i .i64 0, .i .i64 0], none, []⟩] false)
  (.seq
  (.seq
  (.reg [
    ⟨some 13, .fieldAddr 2 (.t 3), none, []⟩,
    ⟨some 14, .load false 1 (.t 13), none, [0]⟩,
    ⟨some 15, .mv (.t 1), none, []⟩,
    ⟨some 16, .mv (.t 2), none, []⟩,
    ⟨some 17, .call n_rule_Denies [.t 14, .t 15, .t 16], none, [1, 2, 3]⟩] false)
  (.cond (.t 17)
    (.seq
    (.reg [
      ⟨some 18, .build [.i .i64 0, .i .i64 0] [], none, []⟩,
      ⟨some 6, .mv (.c (.i .i64 2)), none, []⟩,
      ⟨none, .store 2 (.t 7) (.t 18), none, [0, 1, 0, 1]⟩] false)
    .ret)
    .skip))
  (.seq
  (.reg [
    ⟨some 20, .fieldAddr 2 (.t 3), none, []⟩,
    ⟨some 21, .load false 1 (.t 20), none, [0]⟩,
    ⟨some 22, .mv (.t 1), none, []⟩,
    ⟨some 23, .mv (.t 2), none, []⟩,
    ⟨some 24, .call n_rule_Match [.t 21, .t 22, .t 23], none, [1, 2, 3]⟩,
    ⟨some 19, .mv (.t 24), none, [4]⟩,
    ⟨some 25, .extract (.t 19) 0, none, [5]⟩,
    ⟨some 26, .extract (.t 19) 1, none, [5]⟩,
    ⟨some 8, .alloc [.i .i64 0, .i .i64 0, .i .i64 0, .i .i64 0, .i .u32 0, .i .u32 0, .i .i64 0], none, []⟩,
    ⟨none, .store 7 (.t 8) (.t 25), none, [8, 6, 4, 0, 1, 2, 3, 4, 5, 6, 8]⟩,
    ⟨some 9, .mv (.t 26), none, [7, 9, 0, 1, 2, 3, 4, 5, 6, 7, 8, 9]⟩] false)
  (.seq
  (.block 0
    (.seq
    (.reg [
      ⟨some 28, .mv (.t 9), none, []⟩,
      ⟨some 29, .un .not (.t 28), none, [0]⟩,
      ⟨some 27, .mv (.t 29), none, [1]⟩] false)
    (.cond (.t 27)
      (.seq
      (.reg [
        ⟨some 30, .build [.i .i64 0, .i .i64 0] [], none, []⟩,
        ⟨some 6, .mv (.c (.i .i64 0)), none, []⟩,
        ⟨none, .store 2 (.t 7) (.t 30), none, [0, 1, 0, 1]⟩] false)
      .ret)
      (.seq
      (.reg [
        ⟨some 32, .fieldAddr 3 (.t 8), none, []⟩,
        ⟨some 33, .load false 1 (.t 32), none, [0]⟩,
        ⟨some 34, .bin .eql .plain (.t 33) (.c (.i .i64 1)), none, [1]⟩,
        ⟨some 31, .mv (.t 34), none, [2]⟩] false)
      (.cond (.t 31)
        (.seq
        (.reg [
          ⟨some 35, .build [.i .i64 0, .i .i64 0] [], none, []⟩,
          ⟨some 6, .mv (.c (.i .i64 1)), none, []⟩,
          ⟨none, .store 2 (.t 7) (.t 35), none, [0, 1, 0, 1]⟩] false)
        .ret)
        .skip)))))
  (.seq
  (.reg [
    ⟨some 36, .mv (.t 1), none, []⟩,
    ⟨some 37, .fieldAddr 6 (.t 8), none, []⟩,
    ⟨some 38, .load false 1 (.t 37), none, [1]⟩,
    ⟨some 39, .build [.i .i64 0, .i .i64 0] [(0, 1, .t 36), (1, 1, .t 38)], none, [0, 2]⟩,
    ⟨some 10, .alloc [.i .i64 0, .i .i64 0], none, []⟩,
    ⟨none, .store 2 (.t 10) (.t 39), none, [4, 3, 0, 1, 2, 3, 4]⟩] false)
  (.seq
  (.seq
  (.reg [
    ⟨some 41, .fieldAddr 0 (.t 3), none, []⟩,
    ⟨some 42, .load true 2 (.t 41), none, [0]⟩,
    ⟨some 43, .load true 2 (.t 10), none, []⟩,
    ⟨some 44, .call n_topo_Next [.t 42, .t 43], none, [1, 2]⟩,
    ⟨some 40, .mv (.t 44), none, [3]⟩,
    ⟨some 45, .extract (.t 40) 0, none, [4]⟩,
    ⟨some 46, .extract (.t 40) 1, none, [4]⟩,
    ⟨some 11, .alloc [.i .i64 0, .i .i64 0], none, []⟩,
    ⟨none, .store 2 (.t 11) (.t 45), none, [7, 5, 3, 0, 1, 2, 3, 4, 5, 7]⟩,
    ⟨some 12, .mv (.t 46), none, [6, 8, 0, 1, 2, 3, 4, 5, 6, 7, 8]⟩] false)
  (.seq
  (.reg [
    ⟨some 47, .mv (.t 12), none, []⟩] false)
  (.cond (.t 47)
    (.seq
    (.reg [
      ⟨some 48, .load true 2 (.t 10), none, []⟩,
      ⟨some 6, .mv (.c (.i .i64 4)), none, []⟩,
      ⟨none, .store 2 (.t 7) (.t 48), none, [0, 1, 0, 1]⟩] true)
    .ret)
    .skip)))
  (.seq
  (.reg [
    ⟨some 49, .load true 2 (.t 10), none, []⟩,
    ⟨some 6, .mv (.c (.i .i64 3)), none, []⟩,
    ⟨none, .store 2 (.t 7) (.t 49), none, [0, 1, 0, 1]⟩] true)
  .ret)))))))⟩
theorem h_fate_Step : lowFn Try.prog n_fate_Step = some c_fate_Step := by kernel_rfl
def c_topo_Next : LF := ⟨17, [.cell 4 true 2, .tmp 5],
  (.seq
  (.reg [
    ⟨some 2, .box (.t 0), none, []⟩,
    ⟨some 3, .box (.t 1), none, []⟩,
    ⟨some 4, .alloc [.i .i64 0, .i .i64 0], none, []⟩,
    ⟨some 5, .mv (.c (.b false)), none, []⟩] false)
  (.seq
  (.reg [
    ⟨some 9, .load true 2 (.t 2), none, []⟩,
    ⟨some 10, .call n_topo_joined [.t 9], none, [0]⟩,
    ⟨some 11, .load true 2 (.t 3), none, []⟩,
    ⟨some 12, .lookup (.agg [(0, 1), (1, 1)]) 5 (.ag [.i .i64 0, .i .i64 0]) true (.t 10) (.t 11), none, [1, 2]⟩,
    ⟨some 8, .mv (.t 12), none, [3]⟩,
    ⟨some 13, .extract (.t 8) 0, none, [4]⟩,
    ⟨some 14, .extract (.t 8) 1, none, [4]⟩,
    ⟨some 6, .alloc [.i .i64 0, .i .i64 0], none, []⟩,
    ⟨none, .store 2 (.t 6) (.t 13), none, [7, 5, 1, 0, 1, 2, 3, 4, 5, 7]⟩,
    ⟨some 7, .mv (.t 14), none, [6, 8, 0, 1, 2, 3, 4, 5, 6, 7, 8]⟩] true)
  (.seq
  (.reg [
    ⟨some 15, .load true 2 (.t 6), none, []⟩,
    ⟨some 16, .mv (.t 7), none, []⟩,
    ⟨none, .store 2 (.t 4) (.t 15), none, [0, 0]⟩,
    ⟨some 5, .mv (.t 16), none, [1, 2, 0, 1, 2]⟩] false)
  .ret)))⟩
theorem h_topo_Next : lowFn Try.prog n_topo_Next = some c_topo_Next := by kernel_rfl
def c_slices_Index_int_int : LF := ⟨19, [.tmp 4],
  (.seq
  (.reg [
    ⟨some 4, .mv (.c (.i .i64 0)), none, []⟩] false)
  (.seq
  (.seq
  (.reg [
    ⟨some 6, .mv (.t 0), none, []⟩,
    ⟨some 7, .len none false (.t 6), none, [0]⟩,
    ⟨some 8, .mv (.c (.i .i64 0)), none, []⟩] false)
  (.block 0
    (.loop
      (.seq
      (.reg [
        ⟨some 9, .bin .lss .plain (.t 8) (.t 7), none, []⟩] false)
      (.seq
      (.cond (.t 9)
        .skip
        (.exit 0))
      (.seq
      (.block 1
        (.seq
        (.reg [
          ⟨some 10, .mv (.t 8), none, []⟩,
          ⟨some 5, .mv (.t 10), none, [0, 0]⟩] false)
        (.seq
        (.reg [
          ⟨some 11, .mv (.t 1), none, []⟩,
          ⟨some 12, .mv (.t 0), none, []⟩,
          ⟨some 13, .mv (.t 5), none, []⟩,
          ⟨some 14, .indexAddr none 1 (.t 12) (.t 13), none, [1, 2]⟩,
          ⟨some 15, .load false 1 (.t 14), none, [3]⟩,
          ⟨some 16, .bin .eql .plain (.t 11) (.t 15), none, [0, 4]⟩] false)
        (.cond (.t 16)
          (.seq
          (.reg [
            ⟨some 17, .mv (.t 5), none, []⟩,
            ⟨some 4, .mv (.t 17), none, [0, 0]⟩] false)
          .ret)
          .skip))))
      (.reg [
        ⟨some 18, .bin .add .plain (.t 8) (.c (.i .i64 1)), none, []⟩,
        ⟨some 8, .mv (.t 18), none, [0]⟩] false)))))))
  (.seq
  (.reg [
    ⟨some 4, .mv (.c (.i .i64 (-1))), none, []⟩] false)
  .ret)))⟩
theorem h_slices_Index_int_int : lowFn Try.prog n_slices_Index_int_int = some c_slices_Index_int_int := by kernel_rfl
def c_query_broken_c1 : LF := ⟨12, [.tmp 6],
  (.seq
  (.reg [
    ⟨some 3, .box (.t 0), none, []⟩,
    ⟨some 4, .box (.t 1), none, []⟩,
    ⟨some 5, .box (.t 2), none, []⟩,
    ⟨some 6, .mv (.c (.b false)), none, []⟩] false)
  (.seq
  (.reg [
    ⟨some 7, .load true 4 (.t 4), none, []⟩,
    ⟨some 8, .fieldAddr 2 (.t 3), none, []⟩,
    ⟨some 9, .load false 1 (.t 8), none, [1]⟩,
    ⟨some 10, .call n_query_leaves [.t 7, .t 9], none, [0, 2]⟩,
    ⟨some 11, .un .not (.t 10), none, [3]⟩,
    ⟨some 6, .mv (.t 11), none, [4, 3, 0, 1, 2, 3, 4]⟩] false)
  .ret))⟩
theorem h_query_broken_c1 : lowFn Try.prog n_query_broken_c1 = some c_query_broken_c1 := by kernel_rfl
def c_query_leaves : LF := ⟨15, [.tmp 4],
  (.seq
  (.reg [
    ⟨some 2, .box (.t 0), none, []⟩,
    ⟨some 4, .mv (.c (.b false)), none, []⟩] false)
  (.seq
  (.reg [
    ⟨some 5, .fieldAddr 1 (.t 2), none, []⟩,
    ⟨some 6, .load false 1 (.t 5), none, [0]⟩,
    ⟨some 7, .bin .eql .plain (.t 6) (.c (.i .i64 3)), none, [1]⟩,
    ⟨some 8, .mv (.t 7), none, [2]⟩,
    ⟨some 9, .fieldAddr 2 (.t 2), (some (8, true)), [3]⟩,
    ⟨some 10, .fieldAddr 0 (.t 9), (some (8, true)), [4, 3]⟩,
    ⟨some 11, .load false 1 (.t 10), (some (8, true)), [5, 3]⟩,
    ⟨some 12, .mv (.t 1), (some (8, true)), [3]⟩,
    ⟨some 13, .bin .eql .plain (.t 11) (.t 12), (some (8, true)), [6, 7, 3]⟩,
    ⟨some 14, .pick (.t 8) (.t 13) (.c (.b false)), none, [3, 8]⟩,
    ⟨some 4, .mv (.t 14), none, [9, 3, 0, 1, 2, 3, 4, 5, 6, 7, 8, 9]⟩] false)
  .ret))⟩
theorem h_query_leaves : lowFn Try.prog n_query_leaves = some c_query_leaves := by kernel_rfl
def c_query_broken_c2 : LF := ⟨10, [.tmp 6],
  (.seq
  (.reg [
    ⟨some 3, .box (.t 0), none, []⟩,
    ⟨some 4, .box (.t 1), none, []⟩,
    ⟨some 5, .box (.t 2), none, []⟩,
    ⟨some 6, .mv (.c (.b false)), none, []⟩] false)
  (.seq
  (.reg [
    ⟨some 7, .fieldAddr 1 (.t 4), none, []⟩,
    ⟨some 8, .load false 1 (.t 7), none, [0]⟩,
    ⟨some 9, .bin .eql .plain (.t 8) (.c (.i .i64 4)), none, [1]⟩,
    ⟨some 6, .mv (.t 9), none, [2, 0, 1, 2]⟩] false)
  .ret))⟩
theorem h_query_broken_c2 : lowFn Try.prog n_query_broken_c2 = some c_query_broken_c2 := by kernel_rfl
def c_query_broken_c3 : LF := ⟨10, [.tmp 6],
  (.seq
  (.reg [
    ⟨some 3, .box (.t 0), none, []⟩,
    ⟨some 4, .box (.t 1), none, []⟩,
    ⟨some 5, .box (.t 2), none, []⟩,
    ⟨some 6, .mv (.c (.b false)), none, []⟩] false)
  (.seq
  (.reg [
    ⟨some 7, .fieldAddr 1 (.t 4), none, []⟩,
    ⟨some 8, .load false 1 (.t 7), none, [0]⟩,
    ⟨some 9, .bin .eql .plain (.t 8) (.c (.i .i64 0)), none, [1]⟩,
    ⟨some 6, .mv (.t 9), none, [2, 0, 1, 2]⟩] false)
  .ret))⟩
theorem h_query_broken_c3 : lowFn Try.prog n_query_broken_c3 = some c_query_broken_c3 := by kernel_rfl
def c_query_broken_c4 : LF := ⟨12, [.tmp 6],
  (.seq
  (.reg [
    ⟨some 3, .box (.t 0), none, []⟩,
    ⟨some 4, .box (.t 1), none, []⟩,
    ⟨some 5, .box (.t 2), none, []⟩,
    ⟨some 6, .mv (.c (.b false)), none, []⟩] false)
  (.seq
  (.reg [
    ⟨some 7, .fieldAddr 0 (.t 4), none, []⟩,
    ⟨some 8, .load false 1 (.t 7), none, [0]⟩,
    ⟨some 9, .fieldAddr 2 (.t 3), none, []⟩,
    ⟨some 10, .load false 1 (.t 9), none, [2]⟩,
    ⟨some 11, .call n_slices_Contains_int_int [.t 8, .t 10], none, [1, 3]⟩,
    ⟨some 6, .mv (.t 11), none, [4, 4, 0, 1, 2, 3, 4]⟩] false)
  .ret))⟩
theorem h_query_broken_c4 : lowFn Try.prog n_query_broken_c4 = some c_query_broken_c4 := by kernel_rfl
def c_query_broken_c5 : LF := ⟨19, [.tmp 6],
  (.seq
  (.reg [
    ⟨some 3, .box (.t 0), none, []⟩,
    ⟨some 4, .box (.t 1), none, []⟩,
    ⟨some 5, .box (.t 2), none, []⟩,
    ⟨some 6, .mv (.c (.b false)), none, []⟩] false)
  (.seq
  (.reg [
    ⟨some 7, .load true 4 (.t 4), none, []⟩,
    ⟨some 8, .fieldAddr 2 (.t 3), none, []⟩,
    ⟨some 9, .load false 1 (.t 8), none, [1]⟩,
    ⟨some 10, .call n_query_leaves [.t 7, .t 9], none, [0, 2]⟩,
    ⟨some 11, .mv (.t 10), none, [3, 3]⟩,
    ⟨some 12, .fieldAddr 0 (.t 4), (some (11, true)), [4]⟩,
    ⟨some 13, .load false 1 (.t 12), (some (11, true)), [5, 4]⟩,
    ⟨some 14, .fieldAddr 3 (.t 3), (some (11, true)), [4]⟩,
    ⟨some 15, .load false 1 (.t 14), (some (11, true)), [7, 4]⟩,
    ⟨some 16, .call n_slices_Contains_int_int [.t 13, .t 15], (some (11, true)), [6, 8, 4, 4]⟩,
    ⟨some 17, .un .not (.t 16), (some (11, true)), [9, 4]⟩,
    ⟨some 18, .pick (.t 11) (.t 17) (.c (.b false)), none, [4, 10]⟩,
    ⟨some 6, .mv (.t 18), none, [11, 9, 0, 1, 2, 3, 4, 5, 6, 7, 8, 9, 10, 11]⟩] false)
  .ret))⟩
theorem h_query_broken_c5 : lowFn Try.prog n_query_broken_c5 = some c_query_broken_c5 := by kernel_rfl
def c_query_broken_c6 : LF := ⟨11, [.tmp 6],
  (.seq
  (.reg [
    ⟨some 3, .box (.t 0), none, []⟩,
    ⟨some 4, .box (.t 1), none, []⟩,
    ⟨some 5, .box (.t 2), none, []⟩,
    ⟨some 6, .mv (.c (.b false)), none, []⟩] false)
  (.seq
  (.reg [
    ⟨some 7, .load true 4 (.t 4), none, []⟩,
    ⟨some 8, .load true 4 (.t 5), none, []⟩,
    ⟨some 9, .call n_fate_Same [.t 7, .t 8], none, [0, 1]⟩,
    ⟨some 10, .un .not (.t 9), none, [2]⟩,
    ⟨some 6, .mv (.t 10), none, [3, 2, 0, 1, 2, 3]⟩] false)
  .ret))⟩
theorem h_query_broken_c6 : lowFn Try.prog n_query_broken_c6 = some c_query_broken_c6 := by kernel_rfl
def c_tree_Tree_int_Get : LF := ⟨42, [.tmp 4, .tmp 5],
  (.seq
  (.reg [
    ⟨some 4, .mv (.c (.i .i64 0)), none, []⟩,
    ⟨some 5, .mv (.c (.b false)), none, [0]⟩] false)
  (.seq
  (.reg [
    ⟨some 6, .mv (.c (.i .i64 0)), none, []⟩] false)
  (.seq
  (.seq
  (.reg [
    ⟨some 8, .mv (.t 0), none, []⟩,
    ⟨some 9, .call n_tree_Tree_int_top [.t 8], none, [0]⟩,
    ⟨some 7, .mv (.t 9), none, [1, 1, 0, 1]⟩] false)
  (.block 0
    (.loop
      (.seq
      (.seq
      (.reg [
        ⟨some 10, .mv (.t 7), none, []⟩,
        ⟨some 11, .bin .neq .ptr (.t 10) (.c (.nilp)), none, [0]⟩] false)
      (.cond (.t 11)
        .skip
        (.exit 0)))
      (.block 1
        (.block 2
          (.seq
          (.reg [
            ⟨some 18, .mv (.t 1), none, []⟩,
            ⟨some 19, .mv (.t 7), none, []⟩,
            ⟨some 20, .nilck (.t 19), none, [1]⟩,
            ⟨some 21, .fieldAddr 0 (.t 20), none, [2]⟩,
            ⟨some 22, .fieldAddr 0 (.t 21), none, [3]⟩,
            ⟨some 23, .load false 1 (.t 22), none, [4]⟩,
            ⟨some 24, .bin .lss .plain (.t 18) (.t 23), none, [0, 5]⟩,
            ⟨some 17, .mv (.t 24), none, [6]⟩] false)
          (.cond (.t 17)
            (.reg [
              ⟨some 25, .mv (.t 7), none, []⟩,
              ⟨some 26, .nilck (.t 25), none, [0]⟩,
              ⟨some 27, .fieldAddr 2 (.t 26), none, [1]⟩,
              ⟨some 28, .load false 1 (.t 27), none, [2]⟩,
              ⟨some 7, .mv (.t 28), none, [3, 0, 1, 2, 3]⟩] false)
            (.seq
            (.reg [
              ⟨some 30, .mv (.t 1), none, []⟩,
              ⟨some 31, .mv (.t 7), none, []⟩,
              ⟨some 32, .nilck (.t 31), none, [1]⟩,
              ⟨some 33, .fieldAddr 0 (.t 32), none, [2]⟩,
              ⟨some 34, .fieldAddr 0 (.t 33), none, [3]⟩,
              ⟨some 35, .load false 1 (.t 34), none, [4]⟩,
              ⟨some 36, .bin .gtr .plain (.t 30) (.t 35), none, [0, 5]⟩,
              ⟨some 29, .mv (.t 36), none, [6]⟩] false)
            (.cond (.t 29)
              (.reg [
                ⟨some 37, .mv (.t 7), none, []⟩,
                ⟨some 38, .nilck (.t 37), none, [0]⟩,
                ⟨some 39, .fieldAddr 3 (.t 38), none, [1]⟩,
                ⟨some 40, .load false 1 (.t 39), none, [2]⟩,
                ⟨some 7, .mv (.t 40), none, [3, 0, 1, 2, 3]⟩] false)
              (.seq
              (.reg [
                ⟨some 12, .mv (.t 7), none, []⟩,
                ⟨some 13, .nilck (.t 12), none, [0]⟩,
                ⟨some 14, .fieldAddr 0 (.t 13), none, [1]⟩,
                ⟨some 15, .fieldAddr 1 (.t 14), none, [2]⟩,
                ⟨some 16, .load false 1 (.t 15), none, [3]⟩,
                ⟨some 4, .mv (.t 16), none, [4, 0, 1, 2, 3, 4]⟩,
                ⟨some 5, .mv (.c (.b true)), none, [5, 0, 1, 2, 3, 4, 5]⟩] false)
              .ret)))))))))))
  (.seq
  (.reg [
    ⟨some 41, .mv (.t 6), none, []⟩,
    ⟨some 4, .mv (.t 41), none, [0, 0]⟩,
    ⟨some 5, .mv (.c (.b false)), none, [1, 0, 1]⟩] false)
  .ret))))⟩
theorem h_tree_Tree_int_Get : lowFn Try.prog n_tree_Tree_int_Get = some c_tree_Tree_int_Get := by kernel_rfl
def c_tree_Tree_int_Len : LF := ⟨6, [.tmp 2],
  (.seq
  (.reg [
    ⟨some 2, .mv (.c (.i .i64 0)), none, []⟩] false)
  (.seq
  (.reg [
    ⟨some 3, .mv (.t 0), none, []⟩,
    ⟨some 4, .call n_tree_Tree_int_top [.t 3], none, [0]⟩,
    ⟨some 5, .call n_tree_node_int_size [.t 4], none, [1, 1]⟩,
    ⟨some 2, .mv (.t 5), none, [2, 2, 0, 1, 2]⟩] false)
  .ret))⟩
theorem h_tree_Tree_int_Len : lowFn Try.prog n_tree_Tree_int_Len = some c_tree_Tree_int_Len := by kernel_rfl
def c_tree_Tree_int_top : LF := ⟨9, [.tmp 2],
  (.seq
  (.reg [
    ⟨some 2, .mv (.c (.nilp)), none, []⟩] false)
  (.seq
  (.seq
  (.reg [
    ⟨some 3, .mv (.t 0), none, []⟩,
    ⟨some 4, .bin .eql .ptr (.t 3) (.c (.nilp)), none, [0]⟩] false)
  (.cond (.t 4)
    (.seq
    (.reg [
      ⟨some 2, .mv (.c (.nilp)), none, []⟩] false)
    .ret)
    .skip))
  (.seq
  (.reg [
    ⟨some 5, .mv (.t 0), none, []⟩,
    ⟨some 6, .nilck (.t 5), none, [0]⟩,
    ⟨some 7, .fieldAddr 0 (.t 6), none, [1]⟩,
    ⟨some 8, .load false 1 (.t 7), none, [2]⟩,
    ⟨some 2, .mv (.t 8), none, [3, 0, 1, 2, 3]⟩] false)
  .ret)))⟩
theorem h_tree_Tree_int_top : lowFn Try.prog n_tree_Tree_int_top = some c_tree_Tree_int_top := by kernel_rfl
def c_tree_node_int_with : LF := ⟨68, [.tmp 4],
  (.seq
  (.reg [
    ⟨some 3, .box (.t 1), none, []⟩,
    ⟨some 4, .mv (.c (.nilp)), none, []⟩] false)
  (.seq
  (.block 0
    (.seq
    (.reg [
      ⟨some 6, .mv (.t 0), none, []⟩,
      ⟨some 7, .bin .eql .ptr (.t 6) (.c (.nilp)), none, [0]⟩,
      ⟨some 5, .mv (.t 7), none, [1]⟩] false)
    (.cond (.t 5)
      (.seq
      (.reg [
        ⟨some 8, .load true 2 (.t 3), none, []⟩,
        ⟨some 9, .call n_tree_made_int [.c (.nilp), .t 8, .c (.nilp)], none, [0]⟩,
        ⟨some 4, .mv (.t 9), none, [1, 1, 0, 1]⟩] false)
      .ret)
      (.seq
      (.reg [
        ⟨some 11, .fieldAddr 0 (.t 3), none, []⟩,
        ⟨some 12, .load false 1 (.t 11), none, [0]⟩,
        ⟨some 13, .mv (.t 0), none, []⟩,
        ⟨some 14, .nilck (.t 13), none, [2]⟩,
        ⟨some 15, .fieldAddr 0 (.t 14), none, [3]⟩,
        ⟨some 16, .fieldAddr 0 (.t 15), none, [4]⟩,
        ⟨some 17, .load false 1 (.t 16), none, [5]⟩,
        ⟨some 18, .bin .lss .plain (.t 12) (.t 17), none, [1, 6]⟩,
        ⟨some 10, .mv (.t 18), none, [7]⟩] true)
      (.cond (.t 10)
        (.seq
        (.reg [
          ⟨some 19, .mv (.t 0), none, []⟩,
          ⟨some 20, .nilck (.t 19), none, [0]⟩,
          ⟨some 21, .fieldAddr 2 (.t 20), none, [1]⟩,
          ⟨some 22, .load false 1 (.t 21), none, [2]⟩,
          ⟨some 23, .load true 2 (.t 3), none, []⟩,
          ⟨some 24, .call n_tree_node_int_with [.t 22, .t 23], none, [3, 4]⟩,
          ⟨some 25, .mv (.t 0), none, []⟩,
          ⟨some 26, .nilck (.t 25), none, [6]⟩,
          ⟨some 27, .fieldAddr 0 (.t 26), none, [7]⟩,
          ⟨some 28, .load true 2 (.t 27), none, [8]⟩,
          ⟨some 29, .mv (.t 0), none, []⟩,
          ⟨some 30, .nilck (.t 29), none, [10]⟩,
          ⟨some 31, .fieldAddr 3 (.t 30), none, [11]⟩,
          ⟨some 32, .load false 1 (.t 31), none, [12]⟩,
          ⟨some 33, .call n_tree_even_int [.t 24, .t 28, .t 32], none, [5, 9, 13, 5]⟩,
          ⟨some 4, .mv (.t 33), none, [14, 14, 0, 1, 2, 3, 4, 5, 6, 7, 8, 9, 10, 11, 12, 13, 14]⟩] true)
        .ret)
        (.seq
        (.reg [
          ⟨some 35, .fieldAddr 0 (.t 3), none, []⟩,
          ⟨some 36, .load false 1 (.t 35), none, [0]⟩,
          ⟨some 37, .mv (.t 0), none, []⟩,
          ⟨some 38, .nilck (.t 37), none, [2]⟩,
          ⟨some 39, .fieldAddr 0 (.t 38), none, [3]⟩,
          ⟨some 40, .fieldAddr 0 (.t 39), none, [4]⟩,
          ⟨some 41, .load false 1 (.t 40), none, [5]⟩,
          ⟨some 42, .bin .gtr .plain (.t 36) (.t 41), none, [1, 6]⟩,
          ⟨some 34, .mv (.t 42), none, [7]⟩] true)
        (.cond (.t 34)
          (.seq
          (.reg [
            ⟨some 43, .mv (.t 0), none, []⟩,
            ⟨some 44, .nilck (.t 43), none, [0]⟩,
            ⟨some 45, .fieldAddr 2 (.t 44), none, [1]⟩,
            ⟨some 46, .load false 1 (.t 45), none, [2]⟩,
            ⟨some 47, .mv (.t 0), none, []⟩,
            ⟨some 48, .nilck (.t 47), none, [4]⟩,
            ⟨some 49, .fieldAddr 0 (.t 48), none, [5]⟩,
            ⟨some 50, .load true 2 (.t 49), none, [6]⟩,
            ⟨some 51, .mv (.t 0), none, []⟩,
            ⟨some 52, .nilck (.t 51), none, [8]⟩,
            ⟨some 53, .fieldAddr 3 (.t 52), none, [9]⟩,
            ⟨some 54, .load false 1 (.t 53), none, [10]⟩,
            ⟨some 55, .load true 2 (.t 3), none, []⟩,
            ⟨some 56, .call n_tree_node_int_with [.t 54, .t 55], none, [11, 12]⟩,
            ⟨some 57, .call n_tree_even_int [.t 46, .t 50, .t 56], none, [3, 7, 13, 13]⟩,
            ⟨some 4, .mv (.t 57), none, [14, 14, 0, 1, 2, 3, 4, 5, 6, 7, 8, 9, 10, 11, 12, 13, 14]⟩] true)
          .ret)
          .skip)))))))
  (.seq
  (.reg [
    ⟨some 58, .mv (.t 0), none, []⟩,
    ⟨some 59, .nilck (.t 58), none, [0]⟩,
    ⟨some 60, .fieldAddr 2 (.t 59), none, [1]⟩,
    ⟨some 61, .load false 1 (.t 60), none, [2]⟩,
    ⟨some 62, .load true 2 (.t 3), none, []⟩,
    ⟨some 63, .mv (.t 0), none, []⟩,
    ⟨some 64, .nilck (.t 63), none, [5]⟩,
    ⟨some 65, .fieldAddr 3 (.t 64), none, [6]⟩,
    ⟨some 66, .load false 1 (.t 65), none, [7]⟩,
    ⟨some 67, .call n_tree_made_int [.t 61, .t 62, .t 66], none, [3, 4, 8]⟩,
    ⟨some 4, .mv (.t 67), none, [9, 9, 0, 1, 2, 3, 4, 5, 6, 7, 8, 9]⟩] true)
  .ret)))⟩
theorem h_tree_node_int_with : lowFn Try.prog n_tree_node_int_with = some c_tree_node_int_with := by kernel_rfl
def c_atoms_more_int : LF := ⟨36, [.tmp 6],
  (.seq
  (.reg [
    ⟨some 6, .mv (.c (.nilp)), none, []⟩] false)
  (.seq
  (.reg [
    ⟨some 10, .mv (.t 0), none, []⟩,
    ⟨some 11, .mv (.t 1), none, []⟩,
    ⟨some 12, .call n_tree_Tree_int_Get [.t 10, .t 11], none, [0, 1]⟩,
    ⟨some 9, .mv (.t 12), none, [2]⟩,
    ⟨some 13, .extract (.t 9) 0, none, [3]⟩,
    ⟨some 14, .extract (.t 9) 1, none, [3]⟩,
    ⟨some 7, .mv (.t 13), none, [4, 2, 0, 1, 2, 3, 4]⟩,
    ⟨some 8, .mv (.t 14), none, [5, 6, 0, 1, 2, 3, 4, 5, 6]⟩] false)
  (.seq
  (.seq
  (.reg [
    ⟨some 15, .mv (.t 7), none, []⟩,
    ⟨some 16, .mv (.t 2), none, []⟩,
    ⟨some 17, .bin .add .plain (.t 15) (.t 16), none, [0, 1]⟩,
    ⟨some 18, .bin .eql .plain (.t 17) (.c (.i .i64 0)), none, [2]⟩] false)
  (.cond (.t 18)
    (.seq
    (.reg [
      ⟨some 20, .mv (.t 0), none, []⟩,
      ⟨some 21, .mv (.t 1), none, []⟩,
      ⟨some 22, .call n_tree_Tree_int_Drop [.t 20, .t 21], none, [0, 1]⟩,
      ⟨some 19, .mv (.t 22), none, [2]⟩,
      ⟨some 23, .extract (.t 19) 0, none, [3]⟩,
      ⟨some 24, .extract (.t 19) 1, none, [3]⟩,
      ⟨some 0, .mv (.t 23), none, [4, 2, 0, 1, 2, 3, 4]⟩] false)
    (.seq
    (.reg [
      ⟨some 25, .mv (.t 0), none, []⟩,
      ⟨some 6, .mv (.t 25), none, [0, 0]⟩] false)
    .ret))
    .skip))
  (.seq
  (.reg [
    ⟨some 27, .mv (.t 0), none, []⟩,
    ⟨some 28, .mv (.t 1), none, []⟩,
    ⟨some 29, .mv (.t 7), none, []⟩,
    ⟨some 30, .mv (.t 2), none, []⟩,
    ⟨some 31, .bin .add .plain (.t 29) (.t 30), none, [2, 3]⟩,
    ⟨some 32, .call n_tree_Tree_int_Put [.t 27, .t 28, .t 31], none, [0, 1, 4]⟩,
    ⟨some 26, .mv (.t 32), none, [5]⟩,
    ⟨some 33, .extract (.t 26) 0, none, [6]⟩,
    ⟨some 34, .extract (.t 26) 1, none, [6]⟩,
    ⟨some 0, .mv (.t 33), none, [7, 5, 0, 1, 2, 3, 4, 5, 6, 7]⟩] false)
  (.seq
  (.reg [
    ⟨some 35, .mv (.t 0), none, []⟩,
    ⟨some 6, .mv (.t 35), none, [0, 0]⟩] false)
  .ret)))))⟩
theorem h_atoms_more_int : lowFn Try.prog n_atoms_more_int = some c_atoms_more_int := by kernel_rfl
def c_atoms_key : LF := ⟨11, [.tmp 2],
  (.seq
  (.reg [
    ⟨some 1, .box (.t 0), none, []⟩,
    ⟨some 2, .mv (.c (.i .u64 0)), none, []⟩] false)
  (.seq
  (.reg [
    ⟨some 3, .fieldAddr 0 (.t 1), none, []⟩,
    ⟨some 4, .load false 1 (.t 3), none, [0]⟩,
    ⟨some 5, .conv .u64 (.t 4), none, [1]⟩,
    ⟨some 6, .bin .shl .plain (.t 5) (.c (.i .u64 32)), none, [2]⟩,
    ⟨some 7, .fieldAddr 1 (.t 1), none, []⟩,
    ⟨some 8, .load false 1 (.t 7), none, [4]⟩,
    ⟨some 9, .conv .u64 (.t 8), none, [5]⟩,
    ⟨some 10, .bin .or .plain (.t 6) (.t 9), none, [3, 6]⟩,
    ⟨some 2, .mv (.t 10), none, [7, 0, 1, 2, 3, 4, 5, 6, 7]⟩] false)
  .ret))⟩
theorem h_atoms_key : lowFn Try.prog n_atoms_key = some c_atoms_key := by kernel_rfl
def c_atoms_ends : LF := ⟨19, [.tmp 2],
  (.seq
  (.reg [
    ⟨some 1, .box (.t 0), none, []⟩,
    ⟨some 2, .mv (.c (.esl)), none, []⟩] false)
  (.seq
  (.reg [
    ⟨some 4, .fieldAddr 0 (.t 1), none, []⟩,
    ⟨some 5, .load false 1 (.t 4), none, [0]⟩,
    ⟨some 6, .conv .u64 (.t 5), none, [1]⟩,
    ⟨some 7, .bslice 1 [.i .u64 0] 1 [(0, .t 6)], none, [2]⟩,
    ⟨some 3, .mv (.t 7), none, [3, 0, 1, 2, 3]⟩] false)
  (.seq
  (.seq
  (.reg [
    ⟨some 8, .fieldAddr 1 (.t 1), none, []⟩,
    ⟨some 9, .load false 1 (.t 8), none, [0]⟩,
    ⟨some 10, .bin .lss .plain (.t 9) (.c (.i .u32 4294967295)), none, [1]⟩] false)
  (.cond (.t 10)
    (.reg [
      ⟨some 11, .mv (.t 3), none, []⟩,
      ⟨some 12, .fieldAddr 1 (.t 1), none, []⟩,
      ⟨some 13, .load false 1 (.t 12), none, [1]⟩,
      ⟨some 14, .conv .u64 (.t 13), none, [2]⟩,
      ⟨some 15, .bin .add .plain (.t 14) (.c (.i .u64 1)), none, [3]⟩,
      ⟨some 16, .bslice 1 [.i .u64 0] 1 [(0, .t 15)], none, [4]⟩,
      ⟨some 17, .append 1 8 (.t 11) (.t 16), none, [0, 5]⟩,
      ⟨some 3, .mv (.t 17), none, [6, 6, 0, 1, 2, 3, 4, 5, 6]⟩] false)
    .skip))
  (.seq
  (.reg [
    ⟨some 18, .mv (.t 3), none, []⟩,
    ⟨some 2, .mv (.t 18), none, [0, 0]⟩] false)
  .ret))))⟩
theorem h_atoms_ends : lowFn Try.prog n_atoms_ends = some c_atoms_ends := by kernel_rfl
def c_tree_Tree_int_Split : LF := ⟨21, [.tmp 4, .tmp 5],
  (.seq
  (.reg [
    ⟨some 4, .mv (.c (.nilp)), none, []⟩,
    ⟨some 5, .mv (.c (.nilp)), none, [0]⟩] false)
  (.seq
  (.reg [
    ⟨some 9, .mv (.t 0), none, []⟩,
    ⟨some 10, .call n_tree_Tree_int_top [.t 9], none, [0]⟩,
    ⟨some 11, .mv (.t 1), none, []⟩,
    ⟨some 12, .call n_tree_node_int_cut [.t 10, .t 11], none, [1, 2, 1]⟩,
    ⟨some 8, .mv (.t 12), none, [3]⟩,
    ⟨some 13, .extract (.t 8) 0, none, [4]⟩,
    ⟨some 14, .extract (.t 8) 1, none, [4]⟩,
    ⟨some 6, .mv (.t 13), none, [5, 3, 0, 1, 2, 3, 4, 5]⟩,
    ⟨some 7, .mv (.t 14), none, [6, 7, 0, 1, 2, 3, 4, 5, 6, 7]⟩] false)
  (.seq
  (.reg [
    ⟨some 15, .mv (.t 6), none, []⟩,
    ⟨some 16, .build [.nilp] [(0, 1, .t 15)], none, [0]⟩,
    ⟨some 17, .box (.t 16), none, [1]⟩,
    ⟨some 18, .mv (.t 7), none, []⟩,
    ⟨some 19, .build [.nilp] [(0, 1, .t 18)], none, [3]⟩,
    ⟨some 20, .box (.t 19), none, [4]⟩,
    ⟨some 4, .mv (.t 17), none, [2, 0, 1, 2]⟩,
    ⟨some 5, .mv (.t 20), none, [5, 6, 0, 1, 2, 3, 4, 5, 6]⟩] false)
  .ret)))⟩
theorem h_tree_Tree_int_Split : lowFn Try.prog n_tree_Tree_int_Split = some c_tree_Tree_int_Split := by kernel_rfl
def c_tree_node_int_size : LF := ⟨9, [.tmp 2],
  (.seq
  (.reg [
    ⟨some 2, .mv (.c (.i .i64 0)), none, []⟩] false)
  (.seq
  (.seq
  (.reg [
    ⟨some 3, .mv (.t 0), none, []⟩,
    ⟨some 4, .bin .eql .ptr (.t 3) (.c (.nilp)), none, [0]⟩] false)
  (.cond (.t 4)
    (.seq
    (.reg [
      ⟨some 2, .mv (.c (.i .i64 0)), none, []⟩] false)
    .ret)
    .skip))
  (.seq
  (.reg [
    ⟨some 5, .mv (.t 0), none, []⟩,
    ⟨some 6, .nilck (.t 5), none, [0]⟩,
    ⟨some 7, .fieldAddr 5 (.t 6), none, [1]⟩,
    ⟨some 8, .load false 1 (.t 7), none, [2]⟩,
    ⟨some 2, .mv (.t 8), none, [3, 0, 1, 2, 3]⟩] false)
  .ret)))⟩
theorem h_tree_node_int_size : lowFn Try.prog n_tree_node_int_size = some c_tree_node_int_size := by kernel_rfl
def c_rule_Denies : LF := ⟨21, [.tmp 6],
  (.seq
  (.reg [
    ⟨some 4, .box (.t 1), none, []⟩,
    ⟨some 5, .box (.t 2), none, []⟩,
    ⟨some 6, .mv (.c (.b false)), none, []⟩] false)
  (.seq
  (.reg [
    ⟨some 10, .mv (.t 0), none, []⟩,
    ⟨some 11, .mkfn n_rule_Denies_c1 [] [.t 4, .t 5], none, []⟩,
    ⟨some 12, .call n_rule_first [.t 10, .t 11], none, [0, 1]⟩,
    ⟨some 9, .mv (.t 12), none, [2]⟩,
    ⟨some 13, .extract (.t 9) 0, none, [3]⟩,
    ⟨some 14, .extract (.t 9) 1, none, [3]⟩,
    ⟨some 7, .alloc [.i .i64 0, .i .i64 0, .i .i64 0, .i .i64 0, .i .u32 0, .i .u32 0, .i .i64 0], none, []⟩,
    ⟨none, .store 7 (.t 7) (.t 13), none, [6, 4, 2, 0, 1, 2, 3, 4, 6]⟩,
    ⟨some 8, .mv (.t 14), none, [5, 7, 0, 1, 2, 3, 4, 5, 6, 7]⟩] false)
  (.seq
  (.reg [
    ⟨some 15, .mv (.t 8), none, []⟩,
    ⟨some 16, .mv (.t 15), none, [0]⟩,
    ⟨some 17, .fieldAddr 3 (.t 7), (some (16, true)), [1]⟩,
    ⟨some 18, .load false 1 (.t 17), (some (16, true)), [2, 1]⟩,
    ⟨some 19, .bin .eql .plain (.t 18) (.c (.i .i64 3)), (some (16, true)), [3, 1]⟩,
    ⟨some 20, .pick (.t 16) (.t 19) (.c (.b false)), none, [1, 4]⟩,
    ⟨some 6, .mv (.t 20), none, [5, 1, 0, 1, 2, 3, 4, 5]⟩] false)
  .ret)))⟩
theorem h_rule_Denies : lowFn Try.prog n_rule_Denies = some c_rule_Denies := by kernel_rfl
def c_rule_Match : LF := ⟨13, [.cell 6 true 7, .tmp 7],
  (.seq
  (.reg [
    ⟨some 4, .box (.t 1), none, []⟩,
    ⟨some 5, .box (.t 2), none, []⟩,
    ⟨some 6, .alloc [.i .i64 0, .i .i64 0, .i .i64 0, .i .i64 0, .i .u32 0, .i .u32 0, .i .i64 0], none, []⟩,
    ⟨some 7, .mv (.c (.b false)), none, []⟩] false)
  (.seq
  (.reg [
    ⟨some 8, .mv (.t 0), none, []⟩,
    ⟨some 9, .mkfn n_rule_Match_c1 [] [.t 4, .t 5], none, []⟩,
    ⟨some 10, .call n_rule_first [.t 8, .t 9], none, [0, 1]⟩,
    ⟨some 11, .extract (.t 10) 0, none, [2]⟩,
    ⟨some 12, .extract (.t 10) 1, none, [2]⟩,
    ⟨none, .store 7 (.t 6) (.t 11), none, [3, 2, 0, 1, 2, 3, 4]⟩,
    ⟨some 7, .mv (.t 12), none, [4, 5, 0, 1, 2, 3, 4, 5]⟩] false)
  .ret))⟩
theorem h_rule_Match : lowFn Try.prog n_rule_Match = some c_rule_Match := by kernel_rfl
def c_topo_joined : LF := ⟨26, [.tmp 2],
  (.seq
  (.reg [
    ⟨some 1, .box (.t 0), none, []⟩,
    ⟨some 2, .mv (.c (.nilm)), none, []⟩] false)
  (.seq
  (.reg [
    ⟨some 6, .mkmap, none, []⟩,
    ⟨some 3, .mv (.t 6), none, [0, 0]⟩] false)
  (.seq
  (.seq
  (.reg [
    ⟨some 7, .fieldAddr 1 (.t 1), none, []⟩,
    ⟨some 8, .load false 1 (.t 7), none, [0]⟩,
    ⟨some 9, .len none false (.t 8), none, [1]⟩,
    ⟨some 10, .mv (.c (.i .i64 0)), none, []⟩] false)
  (.block 0
    (.loop
      (.seq
      (.reg [
        ⟨some 11, .bin .lss .plain (.t 10) (.t 9), none, []⟩] false)
      (.seq
      (.cond (.t 11)
        .skip
        (.exit 0))
      (.seq
      (.block 1
        (.seq
        (.reg [
          ⟨some 12, .indexAddr none 4 (.t 8) (.t 10), none, []⟩,
          ⟨some 13, .load true 4 (.t 12), none, [0]⟩,
          ⟨some 5, .alloc [.i .i64 0, .i .i64 0, .i .i64 0, .i .i64 0], none, []⟩,
          ⟨none, .store 4 (.t 5) (.t 13), none, [2, 1, 0, 1, 2]⟩] false)
        (.reg [
          ⟨some 14, .mv (.t 3), none, []⟩,
          ⟨some 15, .fieldAddr 0 (.t 5), none, []⟩,
          ⟨some 16, .load true 2 (.t 15), none, [1]⟩,
          ⟨some 17, .mv (.t 3), none, []⟩,
          ⟨some 18, .fieldAddr 2 (.t 5), none, []⟩,
          ⟨some 19, .load true 2 (.t 18), none, [4]⟩,
          ⟨some 20, .fieldAddr 2 (.t 5), none, []⟩,
          ⟨some 21, .load true 2 (.t 20), none, [6]⟩,
          ⟨some 22, .fieldAddr 0 (.t 5), none, []⟩,
          ⟨some 23, .load true 2 (.t 22), none, [8]⟩,
          ⟨none, .mapup (.agg [(0, 1), (1, 1)]) 5 (.t 14) (.t 16) (.t 21), none, [0, 2, 7, 0, 1, 2, 6, 7]⟩,
          ⟨none, .mapup (.agg [(0, 1), (1, 1)]) 5 (.t 17) (.t 19) (.t 23), none, [3, 5, 9, 10, 0, 1, 2, 3, 4, 5, 6, 7, 8, 9, 10]⟩] true)))
      (.reg [
        ⟨some 24, .bin .add .plain (.t 10) (.c (.i .i64 1)), none, []⟩,
        ⟨some 10, .mv (.t 24), none, [0]⟩] false)))))))
  (.seq
  (.reg [
    ⟨some 25, .mv (.t 3), none, []⟩,
    ⟨some 2, .mv (.t 25), none, [0, 0]⟩] false)
  .ret))))⟩
theorem h_topo_joined : lowFn Try.prog n_topo_joined = some c_topo_joined := by kernel_rfl

end Go.Proofs.Ytibkakodokbobaa
