/- The lowered code of functions (made by a program of this session out of the translation's print), and that the translation's code lowers to it. -/
import Derived.Test.YtibkakodokbobaaN
import Derived.Test.YtibkakodokbobaaProg
import Derived.KernelRfl
namespace Go.Proofs.Ytibkakodokbobaa
open Go.Am
def c_l13_ProbeNil : LF := ⟨44, [.tmp 2],
  (.seq
  (.reg [
    ⟨some 2, .mv (.c (.b false)), none, []⟩] false)
  (.seq
  (.reg [
    ⟨some 3, .mv (.c (.nilp)), none, []⟩] false)
  (.seq
  (.reg [
    ⟨some 10, .mv (.t 3), none, []⟩,
    ⟨some 11, .mv (.t 0), none, []⟩,
    ⟨some 12, .call n_probe_Probe_Step [.t 10, .t 11], none, [0, 1]⟩,
    ⟨some 9, .mv (.t 12), none, [2]⟩,
    ⟨some 13, .extract (.t 9) 0, none, [3]⟩,
    ⟨some 14, .extract (.t 9) 1, none, [3]⟩,
    ⟨some 4, .mv (.t 13), none, [4, 2, 0, 1, 2, 3, 4]⟩,
    ⟨some 5, .mv (.t 14), none, [5, 6, 0, 1, 2, 3, 4, 5, 6]⟩] false)
  (.seq
  (.reg [
    ⟨some 16, .mv (.t 3), none, []⟩,
    ⟨some 17, .call n_probe_Probe_Verdict [.t 16], none, [0]⟩,
    ⟨some 15, .mv (.t 17), none, [1]⟩,
    ⟨some 18, .extract (.t 15) 0, none, [2]⟩,
    ⟨some 19, .extract (.t 15) 1, none, [2]⟩,
    ⟨some 6, .alloc [.b false, .i .i64 0, .i .u32 0, .esl, .i .i64 0, .i .i64 0, .i .i64 0], none, []⟩,
    ⟨none, .store 7 (.t 6) (.t 18), none, [5, 3, 1, 0, 1, 2, 3, 5]⟩,
    ⟨some 7, .mv (.t 19), none, [4, 6, 0, 1, 2, 3, 4, 5, 6]⟩] false)
  (.seq
  (.reg [
    ⟨some 20, .load true 7 (.t 6), none, []⟩,
    ⟨some 21, .build [.b false, .i .i64 0, .i .u32 0, .esl, .i .i64 0, .i .i64 0, .i .i64 0] [], none, []⟩,
    ⟨some 22, .call n_r12_Same [.t 20, .t 21], none, [0, 1]⟩,
    ⟨some 8, .mv (.t 22), none, [2, 2, 0, 1, 2]⟩] false)
  (.seq
  (.reg [
    ⟨some 23, .call n_l13_alive [], none, []⟩,
    ⟨some 24, .mv (.t 23), none, [0, 0]⟩,
    ⟨some 25, .mv (.t 4), (some (24, true)), [1]⟩,
    ⟨some 26, .bin .eql .plain (.t 25) (.c (.i .i64 0)), (some (24, true)), [2, 1]⟩,
    ⟨some 27, .pick (.t 24) (.t 26) (.c (.b false)), none, [1, 3]⟩,
    ⟨some 28, .mv (.t 27), none, [4, 1]⟩,
    ⟨some 29, .mv (.t 5), (some (28, true)), [5]⟩,
    ⟨some 30, .bin .eql .plain (.t 29) (.c (.i .i64 1)), (some (28, true)), [6, 5]⟩,
    ⟨some 31, .pick (.t 28) (.t 30) (.c (.b false)), none, [5, 7]⟩,
    ⟨some 32, .mv (.t 31), none, [8, 5]⟩,
    ⟨some 33, .mv (.t 7), (some (32, true)), [9]⟩,
    ⟨some 34, .un .not (.t 33), (some (32, true)), [10, 9]⟩,
    ⟨some 35, .pick (.t 32) (.t 34) (.c (.b false)), none, [9, 11]⟩,
    ⟨some 36, .mv (.t 35), none, [12, 9]⟩,
    ⟨some 37, .mv (.t 8), (some (36, true)), [13]⟩,
    ⟨some 38, .pick (.t 36) (.t 37) (.c (.b false)), none, [13, 14]⟩,
    ⟨some 39, .mv (.t 38), none, [15, 13]⟩,
    ⟨some 40, .mv (.t 3), (some (39, true)), [16]⟩,
    ⟨some 41, .call n_probe_Probe_Done [.t 40], (some (39, true)), [17, 16, 16]⟩,
    ⟨some 42, .un .not (.t 41), (some (39, true)), [18, 16]⟩,
    ⟨some 43, .pick (.t 39) (.t 42) (.c (.b false)), none, [16, 19]⟩,
    ⟨some 2, .mv (.t 43), none, [20, 18, 0, 1, 2, 3, 4, 5, 6, 7, 8, 9, 10, 11, 12, 13, 14, 15, 16, 17, 18, 19, 20]⟩] false)
  .ret))))))⟩
theorem h_l13_ProbeNil : lowFn Try.prog n_l13_ProbeNil = some c_l13_ProbeNil := by kernel_rfl
def c_probe_Probe_Step : LF := ⟨37, [.tmp 4, .tmp 5],
  (.seq
  (.reg [
    ⟨some 4, .mv (.c (.i .i64 0)), none, []⟩,
    ⟨some 5, .mv (.c (.i .i64 0)), none, [0]⟩] false)
  (.seq
  (.block 0
    (.seq
    (.reg [
      ⟨some 8, .mv (.t 0), none, []⟩,
      ⟨some 9, .bin .eql .ptr (.t 8) (.c (.nilp)), none, [0]⟩,
      ⟨some 7, .mv (.t 9), none, [1]⟩] false)
    (.cond (.t 7)
      (.seq
      (.reg [
        ⟨some 4, .mv (.c (.i .i64 0)), none, []⟩,
        ⟨some 5, .mv (.c (.i .i64 1)), none, [0, 0]⟩] false)
      .ret)
      (.seq
      (.reg [
        ⟨some 11, .mv (.t 1), none, []⟩,
        ⟨some 12, .bin .lss .plain (.t 11) (.c (.i .i64 1)), none, [0]⟩,
        ⟨some 13, .mv (.t 12), none, [1]⟩,
        ⟨some 14, .mv (.t 0), (some (13, false)), [2]⟩,
        ⟨some 15, .nilck (.t 14), (some (13, false)), [3, 2]⟩,
        ⟨some 16, .fieldAddr 26 (.t 15), (some (13, false)), [4, 2]⟩,
        ⟨some 17, .load false 1 (.t 16), (some (13, false)), [5, 2]⟩,
        ⟨some 18, .pick (.t 13) (.c (.b true)) (.t 17), none, [2, 6]⟩,
        ⟨some 10, .mv (.t 18), none, [7, 2]⟩] false)
      (.cond (.t 10)
        (.seq
        (.reg [
          ⟨some 4, .mv (.c (.i .i64 0)), none, []⟩,
          ⟨some 5, .mv (.c (.i .i64 131)), none, [0, 0]⟩] false)
        .ret)
        .skip)))))
  (.seq
  (.reg [
    ⟨some 6, .mv (.c (.i .i64 0)), none, []⟩] false)
  (.seq
  (.block 1
    (.loop
      (.seq
      (.seq
      (.reg [
        ⟨some 19, .mv (.t 6), none, []⟩,
        ⟨some 20, .mv (.t 1), none, []⟩,
        ⟨some 21, .bin .lss .plain (.t 19) (.t 20), none, [0, 1]⟩,
        ⟨some 22, .mv (.t 21), none, [2]⟩,
        ⟨some 23, .mv (.t 0), (some (22, true)), [3]⟩,
        ⟨some 24, .nilck (.t 23), (some (22, true)), [4, 3]⟩,
        ⟨some 25, .fieldAddr 26 (.t 24), (some (22, true)), [5, 3]⟩,
        ⟨some 26, .load false 1 (.t 25), (some (22, true)), [6, 3]⟩,
        ⟨some 27, .un .not (.t 26), (some (22, true)), [7, 3]⟩,
        ⟨some 28, .pick (.t 22) (.t 27) (.c (.b false)), none, [3, 8]⟩] false)
      (.cond (.t 28)
        .skip
        (.exit 1)))
      (.block 2
        (.seq
        (.reg [
          ⟨some 29, .mv (.t 0), none, []⟩,
          ⟨some 30, .nilck (.t 29), none, [0]⟩,
          ⟨some 31, .fieldAddr 25 (.t 30), none, [1]⟩,
          ⟨some 32, .load false 1 (.t 31), none, [2]⟩,
          ⟨some 33, .callv (.t 32) [], none, [3]⟩] false)
        (.reg [
          ⟨some 34, .mv (.t 6), none, []⟩,
          ⟨some 35, .bin .add .plain (.t 34) (.c (.i .i64 1)), none, [0]⟩,
          ⟨some 6, .mv (.t 35), none, [1, 0, 1]⟩] false))))))
  (.seq
  (.reg [
    ⟨some 36, .mv (.t 6), none, []⟩,
    ⟨some 4, .mv (.t 36), none, [0, 0]⟩,
    ⟨some 5, .mv (.c (.i .i64 0)), none, [1, 0, 1]⟩] false)
  .ret)))))⟩
theorem h_probe_Probe_Step : lowFn Try.prog n_probe_Probe_Step = some c_probe_Probe_Step := by kernel_rfl
def c_probe_Probe_Verdict : LF := ⟨20, [.cell 2 true 7, .tmp 3],
  (.seq
  (.reg [
    ⟨some 2, .alloc [.b false, .i .i64 0, .i .u32 0, .esl, .i .i64 0, .i .i64 0, .i .i64 0], none, []⟩,
    ⟨some 3, .mv (.c (.b false)), none, []⟩] false)
  (.seq
  (.seq
  (.reg [
    ⟨some 5, .mv (.t 0), none, []⟩,
    ⟨some 6, .call n_probe_Probe_Done [.t 5], none, [0]⟩,
    ⟨some 7, .un .not (.t 6), none, [1]⟩] false)
  (.cond (.t 7)
    (.seq
    (.reg [
      ⟨some 8, .build [.b false, .i .i64 0, .i .u32 0, .esl, .i .i64 0, .i .i64 0, .i .i64 0] [], none, []⟩,
      ⟨none, .store 7 (.t 2) (.t 8), none, [0, 0]⟩,
      ⟨some 3, .mv (.c (.b false)), none, [1, 0, 1]⟩] false)
    .ret)
    .skip))
  (.seq
  (.reg [
    ⟨some 9, .mv (.t 0), none, []⟩,
    ⟨some 10, .nilck (.t 9), none, [0]⟩,
    ⟨some 11, .fieldAddr 27 (.t 10), none, [1]⟩,
    ⟨some 12, .load true 7 (.t 11), none, [2]⟩,
    ⟨some 4, .alloc [.b false, .i .i64 0, .i .u32 0, .esl, .i .i64 0, .i .i64 0, .i .i64 0], none, []⟩,
    ⟨none, .store 7 (.t 4) (.t 12), none, [4, 3, 0, 1, 2, 3, 4]⟩] false)
  (.seq
  (.reg [
    ⟨some 13, .fieldAddr 3 (.t 4), none, []⟩,
    ⟨some 14, .fieldAddr 0 (.t 13), none, [0]⟩,
    ⟨some 15, .load false 1 (.t 14), none, [1]⟩,
    ⟨some 16, .call n_slices_Clone_int_int [.t 15], none, [2]⟩,
    ⟨some 17, .fieldAddr 3 (.t 4), none, [0, 1, 2, 3]⟩,
    ⟨some 18, .fieldAddr 0 (.t 17), none, [4, 0, 1, 2, 3]⟩,
    ⟨none, .store 1 (.t 18) (.t 16), none, [5, 3, 3, 0, 1, 2, 3]⟩] false)
  (.seq
  (.reg [
    ⟨some 19, .load true 7 (.t 4), none, []⟩,
    ⟨none, .store 7 (.t 2) (.t 19), none, [0, 0]⟩,
    ⟨some 3, .mv (.c (.b true)), none, [1, 0, 1]⟩] false)
  .ret)))))⟩
theorem h_probe_Probe_Verdict : lowFn Try.prog n_probe_Probe_Verdict = some c_probe_Probe_Verdict := by kernel_rfl
def c_r12_Same : LF := ⟨33, [.tmp 4],
  (.seq
  (.reg [
    ⟨some 2, .box (.t 0), none, []⟩,
    ⟨some 3, .box (.t 1), none, []⟩,
    ⟨some 4, .mv (.c (.b false)), none, []⟩] false)
  (.seq
  (.reg [
    ⟨some 6, .fieldAddr 3 (.t 2), none, []⟩,
    ⟨some 7, .load true 4 (.t 6), none, [0]⟩,
    ⟨some 8, .fieldAddr 3 (.t 3), none, []⟩,
    ⟨some 9, .load true 4 (.t 8), none, [2]⟩,
    ⟨some 10, .call n_r09_Same [.t 7, .t 9], none, [1, 3]⟩,
    ⟨some 5, .mv (.t 10), none, [4, 4, 0, 1, 2, 3, 4]⟩] false)
  (.seq
  (.reg [
    ⟨some 11, .mv (.t 5), none, []⟩,
    ⟨some 12, .mv (.t 11), none, [0]⟩,
    ⟨some 13, .fieldAddr 0 (.t 2), (some (12, true)), [1]⟩,
    ⟨some 14, .load false 1 (.t 13), (some (12, true)), [2, 1]⟩,
    ⟨some 15, .fieldAddr 0 (.t 3), (some (12, true)), [1]⟩,
    ⟨some 16, .load false 1 (.t 15), (some (12, true)), [4, 1]⟩,
    ⟨some 17, .bin .eql .bool (.t 14) (.t 16), (some (12, true)), [3, 5, 1]⟩,
    ⟨some 18, .pick (.t 12) (.t 17) (.c (.b false)), none, [1, 6]⟩,
    ⟨some 19, .mv (.t 18), none, [7, 1]⟩,
    ⟨some 20, .fieldAddr 1 (.t 2), (some (19, true)), [8]⟩,
    ⟨some 21, .load false 1 (.t 20), (some (19, true)), [9, 8]⟩,
    ⟨some 22, .fieldAddr 1 (.t 3), (some (19, true)), [8]⟩,
    ⟨some 23, .load false 1 (.t 22), (some (19, true)), [11, 8]⟩,
    ⟨some 24, .bin .eql .plain (.t 21) (.t 23), (some (19, true)), [10, 12, 8]⟩,
    ⟨some 25, .pick (.t 19) (.t 24) (.c (.b false)), none, [8, 13]⟩,
    ⟨some 26, .mv (.t 25), none, [14, 8]⟩,
    ⟨some 27, .fieldAddr 2 (.t 2), (some (26, true)), [15]⟩,
    ⟨some 28, .load false 1 (.t 27), (some (26, true)), [16, 15]⟩,
    ⟨some 29, .fieldAddr 2 (.t 3), (some (26, true)), [15]⟩,
    ⟨some 30, .load false 1 (.t 29), (some (26, true)), [18, 15]⟩,
    ⟨some 31, .bin .eql .plain (.t 28) (.t 30), (some (26, true)), [17, 19, 15]⟩,
    ⟨some 32, .pick (.t 26) (.t 31) (.c (.b false)), none, [15, 20]⟩,
    ⟨some 4, .mv (.t 32), none, [21, 15, 0, 1, 2, 3, 4, 5, 6, 7, 8, 9, 10, 11, 12, 13, 14, 15, 16, 17, 18, 19, 20, 21]⟩] false)
  .ret)))⟩
theorem h_r12_Same : lowFn Try.prog n_r12_Same = some c_r12_Same := by kernel_rfl
def c_l13_alive : LF := ⟨71, [.tmp 0],
  (.seq
  (.reg [
    ⟨some 0, .mv (.c (.b false)), none, []⟩] false)
  (.seq
  (.reg [
    ⟨some 10, .call n_l09_Net [], none, []⟩,
    ⟨some 1, .alloc [.esl, .esl, .esl], none, []⟩,
    ⟨none, .store 3 (.t 1) (.t 10), none, [1, 0, 0, 0, 1]⟩] false)
  (.seq
  (.reg [
    ⟨some 12, .load true 3 (.t 1), none, []⟩,
    ⟨some 13, .load true 3 (.t 1), none, []⟩,
    ⟨some 14, .build [.i .u32 0, .i .u32 0] [(0, 1, .c (.i .u32 5)), (1, 1, .c (.i .u32 30))], none, []⟩,
    ⟨some 15, .build [.i .i64 0, .i .i64 0, .i .i64 0, .i .i64 0, .i .u32 0, .i .u32 0, .s ByteArray.empty] [(0, 1, .c (.i .i64 0)), (2, 1, .c (.i .i64 2)), (4, 2, .t 14)], none, [2]⟩,
    ⟨some 16, .call n_probe_New [.t 12, .t 13, .t 15], none, [0, 1, 3]⟩,
    ⟨some 11, .mv (.t 16), none, [4]⟩,
    ⟨some 17, .extract (.t 11) 0, none, [5]⟩,
    ⟨some 18, .extract (.t 11) 1, none, [5]⟩,
    ⟨some 2, .mv (.t 17), none, [6, 4, 0, 1, 2, 3, 4, 5, 6]⟩,
    ⟨some 3, .mv (.t 18), none, [7, 8, 0, 1, 2, 3, 4, 5, 6, 7, 8]⟩] false)
  (.seq
  (.seq
  (.reg [
    ⟨some 19, .mv (.t 3), none, []⟩,
    ⟨some 20, .bin .neq .plain (.t 19) (.c (.i .i64 0)), none, [0]⟩,
    ⟨some 21, .mv (.t 20), none, [1]⟩,
    ⟨some 22, .mv (.t 2), (some (21, false)), [2]⟩,
    ⟨some 23, .bin .eql .ptr (.t 22) (.c (.nilp)), (some (21, false)), [3, 2]⟩,
    ⟨some 24, .pick (.t 21) (.c (.b true)) (.t 23), none, [2, 4]⟩] false)
  (.cond (.t 24)
    (.seq
    (.reg [
      ⟨some 0, .mv (.c (.b false)), none, []⟩] false)
    .ret)
    .skip))
  (.seq
  (.reg [
    ⟨some 26, .mv (.t 2), none, []⟩,
    ⟨some 27, .call n_probe_Probe_Step [.t 26, .c (.i .i64 2)], none, [0]⟩,
    ⟨some 25, .mv (.t 27), none, [1]⟩,
    ⟨some 28, .extract (.t 25) 0, none, [2]⟩,
    ⟨some 29, .extract (.t 25) 1, none, [2]⟩,
    ⟨some 4, .mv (.t 28), none, [3, 1, 0, 1, 2, 3]⟩,
    ⟨some 5, .mv (.t 29), none, [4, 5, 0, 1, 2, 3, 4, 5]⟩] false)
  (.seq
  (.reg [
    ⟨some 31, .mv (.t 2), none, []⟩,
    ⟨some 32, .call n_probe_Probe_Step [.t 31, .c (.i .i64 100)], none, [0]⟩,
    ⟨some 30, .mv (.t 32), none, [1]⟩,
    ⟨some 33, .extract (.t 30) 0, none, [2]⟩,
    ⟨some 34, .extract (.t 30) 1, none, [2]⟩,
    ⟨some 6, .mv (.t 33), none, [3, 1, 0, 1, 2, 3]⟩,
    ⟨some 7, .mv (.t 34), none, [4, 5, 0, 1, 2, 3, 4, 5]⟩] false)
  (.seq
  (.reg [
    ⟨some 36, .mv (.t 2), none, []⟩,
    ⟨some 37, .call n_probe_Probe_Verdict [.t 36], none, [0]⟩,
    ⟨some 35, .mv (.t 37), none, [1]⟩,
    ⟨some 38, .extract (.t 35) 0, none, [2]⟩,
    ⟨some 39, .extract (.t 35) 1, none, [2]⟩,
    ⟨some 8, .alloc [.b false, .i .i64 0, .i .u32 0, .esl, .i .i64 0, .i .i64 0, .i .i64 0], none, []⟩,
    ⟨none, .store 7 (.t 8) (.t 38), none, [5, 3, 1, 0, 1, 2, 3, 5]⟩,
    ⟨some 9, .mv (.t 39), none, [4, 6, 0, 1, 2, 3, 4, 5, 6]⟩] false)
  (.seq
  (.reg [
    ⟨some 40, .mv (.t 5), none, []⟩,
    ⟨some 41, .bin .eql .plain (.t 40) (.c (.i .i64 0)), none, [0]⟩,
    ⟨some 42, .mv (.t 41), none, [1]⟩,
    ⟨some 43, .mv (.t 7), (some (42, true)), [2]⟩,
    ⟨some 44, .bin .eql .plain (.t 43) (.c (.i .i64 0)), (some (42, true)), [3, 2]⟩,
    ⟨some 45, .pick (.t 42) (.t 44) (.c (.b false)), none, [2, 4]⟩,
    ⟨some 46, .mv (.t 45), none, [5, 2]⟩,
    ⟨some 47, .mv (.t 4), (some (46, true)), [6]⟩,
    ⟨some 48, .bin .eql .plain (.t 47) (.c (.i .i64 2)), (some (46, true)), [7, 6]⟩,
    ⟨some 49, .pick (.t 46) (.t 48) (.c (.b false)), none, [6, 8]⟩,
    ⟨some 50, .mv (.t 49), none, [9, 6]⟩,
    ⟨some 51, .mv (.t 6), (some (50, true)), [10]⟩,
    ⟨some 52, .bin .eql .plain (.t 51) (.c (.i .i64 4)), (some (50, true)), [11, 10]⟩,
    ⟨some 53, .pick (.t 50) (.t 52) (.c (.b false)), none, [10, 12]⟩,
    ⟨some 54, .mv (.t 53), none, [13, 10]⟩,
    ⟨some 55, .mv (.t 9), (some (54, true)), [14]⟩,
    ⟨some 56, .pick (.t 54) (.t 55) (.c (.b false)), none, [14, 15]⟩,
    ⟨some 57, .mv (.t 56), none, [16, 14]⟩,
    ⟨some 58, .mv (.t 2), (some (57, true)), [17]⟩,
    ⟨some 59, .call n_probe_Probe_Done [.t 58], (some (57, true)), [18, 17, 17]⟩,
    ⟨some 60, .pick (.t 57) (.t 59) (.c (.b false)), none, [17, 19]⟩,
    ⟨some 61, .mv (.t 60), none, [20, 19]⟩,
    ⟨some 62, .fieldAddr 0 (.t 8), (some (61, true)), [21]⟩,
    ⟨some 63, .load false 1 (.t 62), (some (61, true)), [22, 21]⟩,
    ⟨some 64, .un .not (.t 63), (some (61, true)), [23, 21]⟩,
    ⟨some 65, .pick (.t 61) (.t 64) (.c (.b false)), none, [21, 24]⟩,
    ⟨some 66, .mv (.t 65), none, [25, 21]⟩,
    ⟨some 67, .fieldAddr 2 (.t 8), (some (66, true)), [26]⟩,
    ⟨some 68, .load false 1 (.t 67), (some (66, true)), [27, 26]⟩,
    ⟨some 69, .bin .eql .plain (.t 68) (.c (.i .u32 20)), (some (66, true)), [28, 26]⟩,
    ⟨some 70, .pick (.t 66) (.t 69) (.c (.b false)), none, [26, 29]⟩,
    ⟨some 0, .mv (.t 70), none, [30, 26, 0, 1, 2, 3, 4, 5, 6, 7, 8, 9, 10, 11, 12, 13, 14, 15, 16, 17, 18, 19, 20, 21, 22, 23, 24, 25, 26, 27, 28, 29, 30]⟩] false)
  .ret))))))))⟩
theorem h_l13_alive : lowFn Try.prog n_l13_alive = some c_l13_alive := by kernel_rfl
def c_probe_Probe_Done : LF := ⟨11, [.tmp 2],
  (.seq
  (.reg [
    ⟨some 2, .mv (.c (.b false)), none, []⟩] false)
  (.seq
  (.reg [
    ⟨some 3, .mv (.t 0), none, []⟩,
    ⟨some 4, .bin .neq .ptr (.t 3) (.c (.nilp)), none, [0]⟩,
    ⟨some 5, .mv (.t 4), none, [1]⟩,
    ⟨some 6, .mv (.t 0), (some (5, true)), [2]⟩,
    ⟨some 7, .nilck (.t 6), (some (5, true)), [3, 2]⟩,
    ⟨some 8, .fieldAddr 26 (.t 7), (some (5, true)), [4, 2]⟩,
    ⟨some 9, .load false 1 (.t 8), (some (5, true)), [5, 2]⟩,
    ⟨some 10, .pick (.t 5) (.t 9) (.c (.b false)), none, [2, 6]⟩,
    ⟨some 2, .mv (.t 10), none, [7, 2, 0, 1, 2, 3, 4, 5, 6, 7]⟩] false)
  .ret))⟩
theorem h_probe_Probe_Done : lowFn Try.prog n_probe_Probe_Done = some c_probe_Probe_Done := by kernel_rfl
def c_probe_New : LF := ⟨36, [.tmp 6, .tmp 7],
  (.seq
  (.reg [
    ⟨some 3, .box (.t 0), none, []⟩,
    ⟨some 4, .box (.t 1), none, []⟩,
    ⟨some 5, .box (.t 2), none, []⟩,
    ⟨some 6, .mv (.c (.nilp)), none, []⟩,
    ⟨some 7, .mv (.c (.i .i64 0)), none, [3]⟩] false)
  (.seq
  (.seq
  (.reg [
    ⟨some 9, .load true 3 (.t 3), none, []⟩,
    ⟨some 10, .load true 3 (.t 4), none, []⟩,
    ⟨some 11, .load true 7 (.t 5), none, []⟩,
    ⟨some 12, .call n_probe_asked [.t 9, .t 10, .t 11], none, [0, 1, 2]⟩,
    ⟨some 13, .un .not (.t 12), none, [3]⟩] false)
  (.cond (.t 13)
    (.seq
    (.reg [
      ⟨some 6, .mv (.c (.nilp)), none, []⟩,
      ⟨some 7, .mv (.c (.i .i64 121)), none, [0, 0]⟩] false)
    .ret)
    .skip))
  (.seq
  (.reg [
    ⟨some 14, .load true 3 (.t 3), none, []⟩,
    ⟨some 15, .load true 3 (.t 4), none, []⟩,
    ⟨some 16, .load true 7 (.t 5), none, []⟩,
    ⟨some 17, .load true 3 (.t 3), none, []⟩,
    ⟨some 18, .load true 7 (.t 5), none, []⟩,
    ⟨some 19, .call n_query_Sources [.t 17, .t 18], none, [3, 4]⟩,
    ⟨some 20, .load true 3 (.t 3), none, []⟩,
    ⟨some 21, .load true 3 (.t 4), none, []⟩,
    ⟨some 22, .load true 7 (.t 5), none, []⟩,
    ⟨some 23, .call n_probe_cut [.t 20, .t 21, .t 22], none, [6, 7, 8, 5]⟩,
    ⟨some 24, .build [.esl, .esl, .esl, .esl, .esl, .esl, .i .i64 0, .i .i64 0, .i .i64 0, .i .i64 0, .i .u32 0, .i .u32 0, .s ByteArray.empty, .esl, .esl, .esl, .i .i64 0, .esl, .i .i64 0, .i .i64 0, .i .i64 0, .esl, .i .i64 0, .i .i64 0, .i .i64 0, .nilf, .b false, .b false, .i .i64 0, .i .u32 0, .esl, .i .i64 0, .i .i64 0, .i .i64 0] [(0, 3, .t 14), (3, 3, .t 15), (6, 7, .t 16), (13, 1, .t 19), (14, 1, .t 23)], none, [0, 1, 2, 5, 9]⟩,
    ⟨some 25, .box (.t 24), none, [10]⟩,
    ⟨some 8, .mv (.t 25), none, [11, 9, 0, 1, 2, 3, 4, 5, 6, 7, 8, 9, 10, 11]⟩] true)
  (.seq
  (.reg [
    ⟨some 26, .mv (.t 8), none, []⟩,
    ⟨some 27, .mv (.t 8), none, []⟩,
    ⟨some 28, .nilck (.t 27), none, [1]⟩,
    ⟨some 29, .fieldAddr 14 (.t 28), none, [2]⟩,
    ⟨some 30, .load false 1 (.t 29), none, [3]⟩,
    ⟨some 31, .nilck (.t 26), none, [0, 0, 1, 2, 3, 4]⟩,
    ⟨some 32, .fieldAddr 15 (.t 31), none, [5, 0, 1, 2, 3, 4]⟩,
    ⟨none, .store 1 (.t 32) (.t 30), none, [6, 4, 0, 1, 2, 3, 4]⟩] false)
  (.seq
  (.reg [
    ⟨some 33, .mv (.t 8), none, []⟩,
    ⟨some 34, .call n_probe_Probe_begin [.t 33], none, [0]⟩] false)
  (.seq
  (.reg [
    ⟨some 35, .mv (.t 8), none, []⟩,
    ⟨some 6, .mv (.t 35), none, [0, 0]⟩,
    ⟨some 7, .mv (.c (.i .i64 0)), none, [1, 0, 1]⟩] false)
  .ret))))))⟩
theorem h_probe_New : lowFn Try.prog n_probe_New = some c_probe_New := by kernel_rfl
def c_slices_Clone_int_int : LF := ⟨8, [.tmp 2],
  (.seq
  (.reg [
    ⟨some 2, .mv (.c (.esl)), none, []⟩] false)
  (.seq
  (.seq
  (.reg [
    ⟨some 3, .mv (.t 0), none, []⟩,
    ⟨some 4, .bin .eql .slice (.t 3) (.c (.esl)), none, [0]⟩] false)
  (.cond (.t 4)
    (.seq
    (.reg [
      ⟨some 2, .mv (.c (.esl)), none, []⟩] false)
    .ret)
    .skip))
  (.seq
  (.reg [
    ⟨some 5, .bslice 1 [.i .i64 0] 0 [], none, []⟩,
    ⟨some 6, .mv (.t 0), none, []⟩,
    ⟨some 7, .append 1 8 (.t 5) (.t 6), none, [0, 1]⟩,
    ⟨some 2, .mv (.t 7), none, [2, 2, 0, 1, 2]⟩] false)
  .ret)))⟩
theorem h_slices_Clone_int_int : lowFn Try.prog n_slices_Clone_int_int = some c_slices_Clone_int_int := by kernel_rfl
def c_r09_Same : LF := ⟨26, [.tmp 4],
  (.seq
  (.reg [
    ⟨some 2, .box (.t 0), none, []⟩,
    ⟨some 3, .box (.t 1), none, []⟩,
    ⟨some 4, .mv (.c (.b false)), none, []⟩] false)
  (.seq
  (.reg [
    ⟨some 6, .fieldAddr 0 (.t 2), none, []⟩,
    ⟨some 7, .load false 1 (.t 6), none, [0]⟩,
    ⟨some 8, .fieldAddr 0 (.t 3), none, []⟩,
    ⟨some 9, .load false 1 (.t 8), none, [2]⟩,
    ⟨some 10, .call n_r06_Ints [.t 7, .t 9], none, [1, 3]⟩,
    ⟨some 5, .mv (.t 10), none, [4, 4, 0, 1, 2, 3, 4]⟩] false)
  (.seq
  (.reg [
    ⟨some 11, .mv (.t 5), none, []⟩,
    ⟨some 12, .mv (.t 11), none, [0]⟩,
    ⟨some 13, .fieldAddr 1 (.t 2), (some (12, true)), [1]⟩,
    ⟨some 14, .load false 1 (.t 13), (some (12, true)), [2, 1]⟩,
    ⟨some 15, .fieldAddr 1 (.t 3), (some (12, true)), [1]⟩,
    ⟨some 16, .load false 1 (.t 15), (some (12, true)), [4, 1]⟩,
    ⟨some 17, .bin .eql .plain (.t 14) (.t 16), (some (12, true)), [3, 5, 1]⟩,
    ⟨some 18, .pick (.t 12) (.t 17) (.c (.b false)), none, [1, 6]⟩,
    ⟨some 19, .mv (.t 18), none, [7, 1]⟩,
    ⟨some 20, .fieldAddr 2 (.t 2), (some (19, true)), [8]⟩,
    ⟨some 21, .load true 2 (.t 20), (some (19, true)), [9, 8]⟩,
    ⟨some 22, .fieldAddr 2 (.t 3), (some (19, true)), [8]⟩,
    ⟨some 23, .load true 2 (.t 22), (some (19, true)), [11, 8]⟩,
    ⟨some 24, .bin .eql (.agg [(0, 1), (1, 1)]) (.t 21) (.t 23), (some (19, true)), [10, 12, 8]⟩,
    ⟨some 25, .pick (.t 19) (.t 24) (.c (.b false)), none, [8, 13]⟩,
    ⟨some 4, .mv (.t 25), none, [14, 8, 0, 1, 2, 3, 4, 5, 6, 7, 8, 9, 10, 11, 12, 13, 14]⟩] false)
  .ret)))⟩
theorem h_r09_Same : lowFn Try.prog n_r09_Same = some c_r09_Same := by kernel_rfl
def c_l09_Net : LF := ⟨26, [.cell 0 true 3],
  (.seq
  (.reg [
    ⟨some 0, .alloc [.esl, .esl, .esl], none, []⟩] false)
  (.seq
  (.reg [
    ⟨some 3, .bslice 1 [.i .i64 0] 3 [(0, .c (.i .i64 2)), (1, .c (.i .i64 3)), (2, .c (.i .i64 2))], none, []⟩,
    ⟨some 4, .build [.i .i64 0, .i .i64 0] [(0, 1, .c (.i .i64 0)), (1, 1, .c (.i .i64 1))], none, []⟩,
    ⟨some 5, .build [.i .i64 0, .i .i64 0] [(0, 1, .c (.i .i64 1)), (1, 1, .c (.i .i64 0))], none, []⟩,
    ⟨some 6, .build [.i .i64 0, .i .i64 0, .i .i64 0, .i .i64 0] [(0, 2, .t 4), (2, 2, .t 5)], none, [1, 2]⟩,
    ⟨some 7, .build [.i .i64 0, .i .i64 0] [(0, 1, .c (.i .i64 1)), (1, 1, .c (.i .i64 1))], none, []⟩,
    ⟨some 8, .build [.i .i64 0, .i .i64 0] [(0, 1, .c (.i .i64 2)), (1, 1, .c (.i .i64 0))], none, []⟩,
    ⟨some 9, .build [.i .i64 0, .i .i64 0, .i .i64 0, .i .i64 0] [(0, 2, .t 7), (2, 2, .t 8)], none, [4, 5]⟩,
    ⟨some 10, .bslice 4 [.i .i64 0, .i .i64 0, .i .i64 0, .i .i64 0] 2 [(0, .t 6), (1, .t 9)], none, [3, 6]⟩,
    ⟨some 11, .build [.esl, .esl] [(0, 1, .t 3), (1, 1, .t 10)], none, [0, 7]⟩,
    ⟨some 1, .alloc [.esl, .esl], none, []⟩,
    ⟨none, .store 2 (.t 1) (.t 11), none, [9, 8, 0, 1, 2, 3, 4, 5, 6, 7, 8, 9]⟩] false)
  (.seq
  (.reg [
    ⟨some 12, .build [.i .u32 0, .i .u32 0] [(0, 1, .c (.i .u32 0)), (1, 1, .c (.i .u32 99))], none, []⟩,
    ⟨some 13, .build [.i .i64 0, .i .i64 0, .i .i64 0, .i .i64 0, .i .u32 0, .i .u32 0, .i .i64 0] [(0, 1, .c (.i .i64 1)), (4, 2, .t 12), (6, 1, .c (.i .i64 1))], none, [0]⟩,
    ⟨some 14, .build [.i .u32 0, .i .u32 0] [(0, 1, .c (.i .u32 0)), (1, 1, .c (.i .u32 49))], none, []⟩,
    ⟨some 15, .build [.i .i64 0, .i .i64 0, .i .i64 0, .i .i64 0, .i .u32 0, .i .u32 0, .i .i64 0] [(0, 1, .c (.i .i64 2)), (1, 1, .c (.i .i64 1)), (4, 2, .t 14), (6, 1, .c (.i .i64 1))], none, [2]⟩,
    ⟨some 16, .build [.i .u32 0, .i .u32 0] [(0, 1, .c (.i .u32 50)), (1, 1, .c (.i .u32 59))], none, []⟩,
    ⟨some 17, .build [.i .i64 0, .i .i64 0, .i .i64 0, .i .i64 0, .i .u32 0, .i .u32 0, .i .i64 0] [(0, 1, .c (.i .i64 3)), (1, 1, .c (.i .i64 1)), (4, 2, .t 16)], none, [4]⟩,
    ⟨some 18, .build [.i .u32 0, .i .u32 0] [(0, 1, .c (.i .u32 0)), (1, 1, .c (.i .u32 29))], none, []⟩,
    ⟨some 19, .build [.i .i64 0, .i .i64 0, .i .i64 0, .i .i64 0, .i .u32 0, .i .u32 0, .i .i64 0] [(0, 1, .c (.i .i64 4)), (1, 1, .c (.i .i64 2)), (4, 2, .t 18), (6, 1, .c (.i .i64 1))], none, [6]⟩,
    ⟨some 20, .build [.i .u32 0, .i .u32 0] [(0, 1, .c (.i .u32 20)), (1, 1, .c (.i .u32 24))], none, []⟩,
    ⟨some 21, .build [.i .i64 0, .i .i64 0, .i .i64 0, .i .i64 0, .i .u32 0, .i .u32 0, .i .i64 0] [(0, 1, .c (.i .i64 5)), (1, 1, .c (.i .i64 2)), (3, 1, .c (.i .i64 3)), (4, 2, .t 20)], none, [8]⟩,
    ⟨some 22, .bslice 7 [.i .i64 0, .i .i64 0, .i .i64 0, .i .i64 0, .i .u32 0, .i .u32 0, .i .i64 0] 5 [(0, .t 13), (1, .t 15), (2, .t 17), (3, .t 19), (4, .t 21)], none, [1, 3, 5, 7, 9]⟩,
    ⟨some 2, .mv (.t 22), none, [10, 0, 1, 2, 3, 4, 5, 6, 7, 8, 9, 10]⟩] false)
  (.seq
  (.reg [
    ⟨some 23, .load true 2 (.t 1), none, []⟩,
    ⟨some 24, .mv (.t 2), none, []⟩,
    ⟨some 25, .build [.esl, .esl, .esl] [(0, 2, .t 23), (2, 1, .t 24)], none, [0, 1]⟩,
    ⟨none, .store 3 (.t 0) (.t 25), none, [2, 0, 1, 2]⟩] false)
  .ret))))⟩
theorem h_l09_Net : lowFn Try.prog n_l09_Net = some c_l09_Net := by kernel_rfl

end Go.Proofs.Ytibkakodokbobaa
