/- The lowered code of functions (made by a program of this session out of the translation's print), and that the translation's code lowers to it. -/
import Derived.Test.YtibkakodokbobaaN
import Derived.Test.YtibkakodokbobaaProg
import Derived.KernelRfl
namespace Go.Proofs.Ytibkakodokbobaa
open Go.Am
def c_tree_made_int : LF := ⟨24, [.tmp 6],
  (.seq
  (.reg [
    ⟨some 4, .box (.t 1), none, []⟩,
    ⟨some 6, .mv (.c (.nilp)), none, []⟩] false)
  (.seq
  (.reg [
    ⟨some 7, .load true 2 (.t 4), none, []⟩,
    ⟨some 8, .mv (.t 0), none, []⟩,
    ⟨some 9, .mv (.t 2), none, []⟩,
    ⟨some 10, .mv (.t 0), none, []⟩,
    ⟨some 11, .call n_tree_node_int_high [.t 10], none, [3]⟩,
    ⟨some 12, .mv (.t 2), none, []⟩,
    ⟨some 13, .call n_tree_node_int_high [.t 12], none, [5, 4]⟩,
    ⟨some 14, .minmax true [.t 11, .t 13], none, [4, 6]⟩,
    ⟨some 15, .bin .add .plain (.c (.i .i64 1)) (.t 14), none, [7]⟩,
    ⟨some 16, .mv (.t 0), none, []⟩,
    ⟨some 17, .call n_tree_node_int_size [.t 16], none, [9, 6]⟩,
    ⟨some 18, .bin .add .plain (.c (.i .i64 1)) (.t 17), none, [10]⟩,
    ⟨some 19, .mv (.t 2), none, []⟩,
    ⟨some 20, .call n_tree_node_int_size [.t 19], none, [12, 10]⟩,
    ⟨some 21, .bin .add .plain (.t 18) (.t 20), none, [11, 13]⟩,
    ⟨some 22, .build [.i .u64 0, .i .i64 0, .nilp, .nilp, .i .i64 0, .i .i64 0] [(0, 2, .t 7), (2, 1, .t 8), (3, 1, .t 9), (4, 1, .t 15), (5, 1, .t 21)], none, [0, 1, 2, 8, 14]⟩,
    ⟨some 23, .box (.t 22), none, [15]⟩,
    ⟨some 6, .mv (.t 23), none, [16, 13, 0, 1, 2, 3, 4, 5, 6, 7, 8, 9, 10, 11, 12, 13, 14, 15, 16]⟩] true)
  .ret))⟩
theorem h_tree_made_int : lowFn Try.prog n_tree_made_int = some c_tree_made_int := by kernel_rfl
def c_tree_even_int : LF := ⟨139, [.tmp 6],
  (.seq
  (.reg [
    ⟨some 4, .box (.t 1), none, []⟩,
    ⟨some 6, .mv (.c (.nilp)), none, []⟩] false)
  (.seq
  (.block 0
    (.seq
    (.reg [
      ⟨some 10, .mv (.t 0), none, []⟩,
      ⟨some 11, .call n_tree_node_int_high [.t 10], none, [0]⟩,
      ⟨some 12, .mv (.t 2), none, []⟩,
      ⟨some 13, .call n_tree_node_int_high [.t 12], none, [2, 1]⟩,
      ⟨some 14, .bin .add .plain (.t 13) (.c (.i .i64 1)), none, [3]⟩,
      ⟨some 15, .bin .gtr .plain (.t 11) (.t 14), none, [1, 4]⟩,
      ⟨some 9, .mv (.t 15), none, [5, 3]⟩] false)
    (.cond (.t 9)
      (.seq
      (.seq
      (.reg [
        ⟨some 16, .mv (.t 0), none, []⟩,
        ⟨some 17, .nilck (.t 16), none, [0]⟩,
        ⟨some 18, .fieldAddr 2 (.t 17), none, [1]⟩,
        ⟨some 19, .load false 1 (.t 18), none, [2]⟩,
        ⟨some 20, .call n_tree_node_int_high [.t 19], none, [3]⟩,
        ⟨some 21, .mv (.t 0), none, []⟩,
        ⟨some 22, .nilck (.t 21), none, [5]⟩,
        ⟨some 23, .fieldAddr 3 (.t 22), none, [6]⟩,
        ⟨some 24, .load false 1 (.t 23), none, [7]⟩,
        ⟨some 25, .call n_tree_node_int_high [.t 24], none, [8, 4]⟩,
        ⟨some 26, .bin .geq .plain (.t 20) (.t 25), none, [4, 9]⟩] true)
      (.cond (.t 26)
        (.seq
        (.reg [
          ⟨some 27, .mv (.t 0), none, []⟩,
          ⟨some 28, .nilck (.t 27), none, [0]⟩,
          ⟨some 29, .fieldAddr 2 (.t 28), none, [1]⟩,
          ⟨some 30, .load false 1 (.t 29), none, [2]⟩,
          ⟨some 31, .mv (.t 0), none, []⟩,
          ⟨some 32, .nilck (.t 31), none, [4]⟩,
          ⟨some 33, .fieldAddr 0 (.t 32), none, [5]⟩,
          ⟨some 34, .load true 2 (.t 33), none, [6]⟩,
          ⟨some 35, .mv (.t 0), none, []⟩,
          ⟨some 36, .nilck (.t 35), none, [8]⟩,
          ⟨some 37, .fieldAddr 3 (.t 36), none, [9]⟩,
          ⟨some 38, .load false 1 (.t 37), none, [10]⟩,
          ⟨some 39, .load true 2 (.t 4), none, []⟩,
          ⟨some 40, .mv (.t 2), none, []⟩,
          ⟨some 41, .call n_tree_made_int [.t 38, .t 39, .t 40], none, [11, 12, 13]⟩,
          ⟨some 42, .call n_tree_made_int [.t 30, .t 34, .t 41], none, [3, 7, 14, 14]⟩,
          ⟨some 6, .mv (.t 42), none, [15, 15, 0, 1, 2, 3, 4, 5, 6, 7, 8, 9, 10, 11, 12, 13, 14, 15]⟩] true)
        .ret)
        .skip))
      (.seq
      (.reg [
        ⟨some 43, .mv (.t 0), none, []⟩,
        ⟨some 44, .nilck (.t 43), none, [0]⟩,
        ⟨some 45, .fieldAddr 3 (.t 44), none, [1]⟩,
        ⟨some 46, .load false 1 (.t 45), none, [2]⟩,
        ⟨some 7, .mv (.t 46), none, [3, 0, 1, 2, 3]⟩] false)
      (.seq
      (.reg [
        ⟨some 47, .mv (.t 0), none, []⟩,
        ⟨some 48, .nilck (.t 47), none, [0]⟩,
        ⟨some 49, .fieldAddr 2 (.t 48), none, [1]⟩,
        ⟨some 50, .load false 1 (.t 49), none, [2]⟩,
        ⟨some 51, .mv (.t 0), none, []⟩,
        ⟨some 52, .nilck (.t 51), none, [4]⟩,
        ⟨some 53, .fieldAddr 0 (.t 52), none, [5]⟩,
        ⟨some 54, .load true 2 (.t 53), none, [6]⟩,
        ⟨some 55, .mv (.t 7), none, []⟩,
        ⟨some 56, .nilck (.t 55), none, [8]⟩,
        ⟨some 57, .fieldAddr 2 (.t 56), none, [9]⟩,
        ⟨some 58, .load false 1 (.t 57), none, [10]⟩,
        ⟨some 59, .call n_tree_made_int [.t 50, .t 54, .t 58], none, [3, 7, 11]⟩,
        ⟨some 60, .mv (.t 7), none, []⟩,
        ⟨some 61, .nilck (.t 60), none, [13]⟩,
        ⟨some 62, .fieldAddr 0 (.t 61), none, [14]⟩,
        ⟨some 63, .load true 2 (.t 62), none, [15]⟩,
        ⟨some 64, .mv (.t 7), none, []⟩,
        ⟨some 65, .nilck (.t 64), none, [17]⟩,
        ⟨some 66, .fieldAddr 3 (.t 65), none, [18]⟩,
        ⟨some 67, .load false 1 (.t 66), none, [19]⟩,
        ⟨some 68, .load true 2 (.t 4), none, []⟩,
        ⟨some 69, .mv (.t 2), none, []⟩,
        ⟨some 70, .call n_tree_made_int [.t 67, .t 68, .t 69], none, [20, 21, 22, 12]⟩,
        ⟨some 71, .call n_tree_made_int [.t 59, .t 63, .t 70], none, [12, 16, 23, 23]⟩,
        ⟨some 6, .mv (.t 71), none, [24, 24, 0, 1, 2, 3, 4, 5, 6, 7, 8, 9, 10, 11, 12, 13, 14, 15, 16, 17, 18, 19, 20, 21, 22, 23, 24]⟩] true)
      .ret)))
      (.seq
      (.reg [
        ⟨some 73, .mv (.t 2), none, []⟩,
        ⟨some 74, .call n_tree_node_int_high [.t 73], none, [0]⟩,
        ⟨some 75, .mv (.t 0), none, []⟩,
        ⟨some 76, .call n_tree_node_int_high [.t 75], none, [2, 1]⟩,
        ⟨some 77, .bin .add .plain (.t 76) (.c (.i .i64 1)), none, [3]⟩,
        ⟨some 78, .bin .gtr .plain (.t 74) (.t 77), none, [1, 4]⟩,
        ⟨some 72, .mv (.t 78), none, [5, 3]⟩] false)
      (.cond (.t 72)
        (.seq
        (.seq
        (.reg [
          ⟨some 79, .mv (.t 2), none, []⟩,
          ⟨some 80, .nilck (.t 79), none, [0]⟩,
          ⟨some 81, .fieldAddr 3 (.t 80), none, [1]⟩,
          ⟨some 82, .load false 1 (.t 81), none, [2]⟩,
          ⟨some 83, .call n_tree_node_int_high [.t 82], none, [3]⟩,
          ⟨some 84, .mv (.t 2), none, []⟩,
          ⟨some 85, .nilck (.t 84), none, [5]⟩,
          ⟨some 86, .fieldAddr 2 (.t 85), none, [6]⟩,
          ⟨some 87, .load false 1 (.t 86), none, [7]⟩,
          ⟨some 88, .call n_tree_node_int_high [.t 87], none, [8, 4]⟩,
          ⟨some 89, .bin .geq .plain (.t 83) (.t 88), none, [4, 9]⟩] true)
        (.cond (.t 89)
          (.seq
          (.reg [
            ⟨some 90, .mv (.t 0), none, []⟩,
            ⟨some 91, .load true 2 (.t 4), none, []⟩,
            ⟨some 92, .mv (.t 2), none, []⟩,
            ⟨some 93, .nilck (.t 92), none, [2]⟩,
            ⟨some 94, .fieldAddr 2 (.t 93), none, [3]⟩,
            ⟨some 95, .load false 1 (.t 94), none, [4]⟩,
            ⟨some 96, .call n_tree_made_int [.t 90, .t 91, .t 95], none, [0, 1, 5]⟩,
            ⟨some 97, .mv (.t 2), none, []⟩,
            ⟨some 98, .nilck (.t 97), none, [7]⟩,
            ⟨some 99, .fieldAddr 0 (.t 98), none, [8]⟩,
            ⟨some 100, .load true 2 (.t 99), none, [9]⟩,
            ⟨some 101, .mv (.t 2), none, []⟩,
            ⟨some 102, .nilck (.t 101), none, [11]⟩,
            ⟨some 103, .fieldAddr 3 (.t 102), none, [12]⟩,
            ⟨some 104, .load false 1 (.t 103), none, [13]⟩,
            ⟨some 105, .call n_tree_made_int [.t 96, .t 100, .t 104], none, [6, 10, 14, 6]⟩,
            ⟨some 6, .mv (.t 105), none, [15, 15, 0, 1, 2, 3, 4, 5, 6, 7, 8, 9, 10, 11, 12, 13, 14, 15]⟩] true)
          .ret)
          .skip))
        (.seq
        (.reg [
          ⟨some 106, .mv (.t 2), none, []⟩,
          ⟨some 107, .nilck (.t 106), none, [0]⟩,
          ⟨some 108, .fieldAddr 2 (.t 107), none, [1]⟩,
          ⟨some 109, .load false 1 (.t 108), none, [2]⟩,
          ⟨some 8, .mv (.t 109), none, [3, 0, 1, 2, 3]⟩] false)
        (.seq
        (.reg [
          ⟨some 110, .mv (.t 0), none, []⟩,
          ⟨some 111, .load true 2 (.t 4), none, []⟩,
          ⟨some 112, .mv (.t 8), none, []⟩,
          ⟨some 113, .nilck (.t 112), none, [2]⟩,
          ⟨some 114, .fieldAddr 2 (.t 113), none, [3]⟩,
          ⟨some 115, .load false 1 (.t 114), none, [4]⟩,
          ⟨some 116, .call n_tree_made_int [.t 110, .t 111, .t 115], none, [0, 1, 5]⟩,
          ⟨some 117, .mv (.t 8), none, []⟩,
          ⟨some 118, .nilck (.t 117), none, [7]⟩,
          ⟨some 119, .fieldAddr 0 (.t 118), none, [8]⟩,
          ⟨some 120, .load true 2 (.t 119), none, [9]⟩,
          ⟨some 121, .mv (.t 8), none, []⟩,
          ⟨some 122, .nilck (.t 121), none, [11]⟩,
          ⟨some 123, .fieldAddr 3 (.t 122), none, [12]⟩,
          ⟨some 124, .load false 1 (.t 123), none, [13]⟩,
          ⟨some 125, .mv (.t 2), none, []⟩,
          ⟨some 126, .nilck (.t 125), none, [15]⟩,
          ⟨some 127, .fieldAddr 0 (.t 126), none, [16]⟩,
          ⟨some 128, .load true 2 (.t 127), none, [17]⟩,
          ⟨some 129, .mv (.t 2), none, []⟩,
          ⟨some 130, .nilck (.t 129), none, [19]⟩,
          ⟨some 131, .fieldAddr 3 (.t 130), none, [20]⟩,
          ⟨some 132, .load false 1 (.t 131), none, [21]⟩,
          ⟨some 133, .call n_tree_made_int [.t 124, .t 128, .t 132], none, [14, 18, 22, 6]⟩,
          ⟨some 134, .call n_tree_made_int [.t 116, .t 120, .t 133], none, [6, 10, 23, 23]⟩,
          ⟨some 6, .mv (.t 134), none, [24, 24, 0, 1, 2, 3, 4, 5, 6, 7, 8, 9, 10, 11, 12, 13, 14, 15, 16, 17, 18, 19, 20, 21, 22, 23, 24]⟩] true)
        .ret)))
        .skip)))))
  (.seq
  (.reg [
    ⟨some 135, .mv (.t 0), none, []⟩,
    ⟨some 136, .load true 2 (.t 4), none, []⟩,
    ⟨some 137, .mv (.t 2), none, []⟩,
    ⟨some 138, .call n_tree_made_int [.t 135, .t 136, .t 137], none, [0, 1, 2]⟩,
    ⟨some 6, .mv (.t 138), none, [3, 3, 0, 1, 2, 3]⟩] false)
  .ret)))⟩
theorem h_tree_even_int : lowFn Try.prog n_tree_even_int = some c_tree_even_int := by kernel_rfl
def c_tree_Tree_int_Drop : LF := ⟨22, [.tmp 4, .tmp 5],
  (.seq
  (.reg [
    ⟨some 4, .mv (.c (.nilp)), none, []⟩,
    ⟨some 5, .mv (.c (.i .i64 0)), none, [0]⟩] false)
  (.seq
  (.seq
  (.reg [
    ⟨some 9, .mv (.t 0), none, []⟩,
    ⟨some 10, .mv (.t 1), none, []⟩,
    ⟨some 11, .call n_tree_Tree_int_Get [.t 9, .t 10], none, [0, 1]⟩,
    ⟨some 8, .mv (.t 11), none, [2]⟩,
    ⟨some 12, .extract (.t 8) 0, none, [3]⟩,
    ⟨some 13, .extract (.t 8) 1, none, [3]⟩,
    ⟨some 6, .mv (.t 12), none, [4, 2, 0, 1, 2, 3, 4]⟩,
    ⟨some 7, .mv (.t 13), none, [5, 6, 0, 1, 2, 3, 4, 5, 6]⟩] false)
  (.seq
  (.reg [
    ⟨some 14, .mv (.t 7), none, []⟩,
    ⟨some 15, .un .not (.t 14), none, [0]⟩] false)
  (.cond (.t 15)
    (.seq
    (.reg [
      ⟨some 4, .mv (.c (.nilp)), none, []⟩,
      ⟨some 5, .mv (.c (.i .i64 42)), none, [0, 0]⟩] false)
    .ret)
    .skip)))
  (.seq
  (.reg [
    ⟨some 16, .mv (.t 0), none, []⟩,
    ⟨some 17, .call n_tree_Tree_int_top [.t 16], none, [0]⟩,
    ⟨some 18, .mv (.t 1), none, []⟩,
    ⟨some 19, .call n_tree_node_int_without [.t 17, .t 18], none, [1, 2, 1]⟩,
    ⟨some 20, .build [.nilp] [(0, 1, .t 19)], none, [3]⟩,
    ⟨some 21, .box (.t 20), none, [4]⟩,
    ⟨some 4, .mv (.t 21), none, [5, 3, 0, 1, 2, 3, 4, 5]⟩,
    ⟨some 5, .mv (.c (.i .i64 0)), none, [6, 0, 1, 2, 3, 4, 5, 6]⟩] false)
  .ret)))⟩
theorem h_tree_Tree_int_Drop : lowFn Try.prog n_tree_Tree_int_Drop = some c_tree_Tree_int_Drop := by kernel_rfl
def c_tree_node_int_cut : LF := ⟨59, [.tmp 4, .tmp 5],
  (.seq
  (.reg [
    ⟨some 4, .mv (.c (.nilp)), none, []⟩,
    ⟨some 5, .mv (.c (.nilp)), none, [0]⟩] false)
  (.seq
  (.seq
  (.reg [
    ⟨some 10, .mv (.t 0), none, []⟩,
    ⟨some 11, .bin .eql .ptr (.t 10) (.c (.nilp)), none, [0]⟩] false)
  (.cond (.t 11)
    (.seq
    (.reg [
      ⟨some 4, .mv (.c (.nilp)), none, []⟩,
      ⟨some 5, .mv (.c (.nilp)), none, [0, 0]⟩] false)
    .ret)
    .skip))
  (.seq
  (.seq
  (.reg [
    ⟨some 12, .mv (.t 0), none, []⟩,
    ⟨some 13, .nilck (.t 12), none, [0]⟩,
    ⟨some 14, .fieldAddr 0 (.t 13), none, [1]⟩,
    ⟨some 15, .fieldAddr 0 (.t 14), none, [2]⟩,
    ⟨some 16, .load false 1 (.t 15), none, [3]⟩,
    ⟨some 17, .mv (.t 1), none, []⟩,
    ⟨some 18, .bin .lss .plain (.t 16) (.t 17), none, [4, 5]⟩] false)
  (.cond (.t 18)
    (.seq
    (.reg [
      ⟨some 20, .mv (.t 0), none, []⟩,
      ⟨some 21, .nilck (.t 20), none, [0]⟩,
      ⟨some 22, .fieldAddr 3 (.t 21), none, [1]⟩,
      ⟨some 23, .load false 1 (.t 22), none, [2]⟩,
      ⟨some 24, .mv (.t 1), none, []⟩,
      ⟨some 25, .call n_tree_node_int_cut [.t 23, .t 24], none, [3, 4]⟩,
      ⟨some 19, .mv (.t 25), none, [5]⟩,
      ⟨some 26, .extract (.t 19) 0, none, [6]⟩,
      ⟨some 27, .extract (.t 19) 1, none, [6]⟩,
      ⟨some 6, .mv (.t 26), none, [7, 5, 0, 1, 2, 3, 4, 5, 6, 7]⟩,
      ⟨some 7, .mv (.t 27), none, [8, 9, 0, 1, 2, 3, 4, 5, 6, 7, 8, 9]⟩] false)
    (.seq
    (.reg [
      ⟨some 28, .mv (.t 0), none, []⟩,
      ⟨some 29, .nilck (.t 28), none, [0]⟩,
      ⟨some 30, .fieldAddr 2 (.t 29), none, [1]⟩,
      ⟨some 31, .load false 1 (.t 30), none, [2]⟩,
      ⟨some 32, .mv (.t 0), none, []⟩,
      ⟨some 33, .nilck (.t 32), none, [4]⟩,
      ⟨some 34, .fieldAddr 0 (.t 33), none, [5]⟩,
      ⟨some 35, .load true 2 (.t 34), none, [6]⟩,
      ⟨some 36, .mv (.t 6), none, []⟩,
      ⟨some 37, .call n_tree_join_int [.t 31, .t 35, .t 36], none, [3, 7, 8]⟩,
      ⟨some 38, .mv (.t 7), none, []⟩,
      ⟨some 4, .mv (.t 37), none, [9, 9, 0, 1, 2, 3, 4, 5, 6, 7, 8, 9]⟩,
      ⟨some 5, .mv (.t 38), none, [10, 11, 0, 1, 2, 3, 4, 5, 6, 7, 8, 9, 10, 11]⟩] true)
    .ret))
    .skip))
  (.seq
  (.reg [
    ⟨some 40, .mv (.t 0), none, []⟩,
    ⟨some 41, .nilck (.t 40), none, [0]⟩,
    ⟨some 42, .fieldAddr 2 (.t 41), none, [1]⟩,
    ⟨some 43, .load false 1 (.t 42), none, [2]⟩,
    ⟨some 44, .mv (.t 1), none, []⟩,
    ⟨some 45, .call n_tree_node_int_cut [.t 43, .t 44], none, [3, 4]⟩,
    ⟨some 39, .mv (.t 45), none, [5]⟩,
    ⟨some 46, .extract (.t 39) 0, none, [6]⟩,
    ⟨some 47, .extract (.t 39) 1, none, [6]⟩,
    ⟨some 8, .mv (.t 46), none, [7, 5, 0, 1, 2, 3, 4, 5, 6, 7]⟩,
    ⟨some 9, .mv (.t 47), none, [8, 9, 0, 1, 2, 3, 4, 5, 6, 7, 8, 9]⟩] false)
  (.seq
  (.reg [
    ⟨some 48, .mv (.t 8), none, []⟩,
    ⟨some 49, .mv (.t 9), none, []⟩,
    ⟨some 50, .mv (.t 0), none, []⟩,
    ⟨some 51, .nilck (.t 50), none, [2]⟩,
    ⟨some 52, .fieldAddr 0 (.t 51), none, [3]⟩,
    ⟨some 53, .load true 2 (.t 52), none, [4]⟩,
    ⟨some 54, .mv (.t 0), none, []⟩,
    ⟨some 55, .nilck (.t 54), none, [6]⟩,
    ⟨some 56, .fieldAddr 3 (.t 55), none, [7]⟩,
    ⟨some 57, .load false 1 (.t 56), none, [8]⟩,
    ⟨some 58, .call n_tree_join_int [.t 49, .t 53, .t 57], none, [1, 5, 9]⟩,
    ⟨some 4, .mv (.t 48), none, [0, 10, 0]⟩,
    ⟨some 5, .mv (.t 58), none, [10, 11, 0, 1, 2, 3, 4, 5, 6, 7, 8, 9, 10, 11]⟩] true)
  .ret)))))⟩
theorem h_tree_node_int_cut : lowFn Try.prog n_tree_node_int_cut = some c_tree_node_int_cut := by kernel_rfl
def c_rule_first : LF := ⟨16, [.cell 4 true 7, .tmp 5],
  (.seq
  (.reg [
    ⟨some 3, .box (.t 1), none, []⟩,
    ⟨some 4, .alloc [.i .i64 0, .i .i64 0, .i .i64 0, .i .i64 0, .i .u32 0, .i .u32 0, .i .i64 0], none, []⟩,
    ⟨some 5, .mv (.c (.b false)), none, []⟩] false)
  (.seq
  (.reg [
    ⟨some 6, .mv (.t 0), none, []⟩,
    ⟨some 7, .call n_slices_Clone_api_Rule_api_Rule [.t 6], none, [0]⟩,
    ⟨some 8, .mkfn n_rule_first_c1 [] [.t 3], none, []⟩,
    ⟨some 9, .call n_slices_DeleteFunc_api_Rule_api_Rule [.t 7, .t 8], none, [1, 2, 1]⟩,
    ⟨some 0, .mv (.t 9), none, [3, 3, 0, 1, 2, 3]⟩] false)
  (.seq
  (.seq
  (.reg [
    ⟨some 10, .mv (.t 0), none, []⟩,
    ⟨some 11, .len none false (.t 10), none, [0]⟩,
    ⟨some 12, .bin .eql .plain (.t 11) (.c (.i .i64 0)), none, [1]⟩] false)
  (.cond (.t 12)
    (.seq
    (.reg [
      ⟨some 13, .build [.i .i64 0, .i .i64 0, .i .i64 0, .i .i64 0, .i .u32 0, .i .u32 0, .i .i64 0] [], none, []⟩,
      ⟨none, .store 7 (.t 4) (.t 13), none, [0, 0]⟩,
      ⟨some 5, .mv (.c (.b false)), none, [1, 0, 1]⟩] false)
    .ret)
    .skip))
  (.seq
  (.reg [
    ⟨some 14, .mv (.t 0), none, []⟩,
    ⟨some 15, .call n_slices_MinFunc_api_Rule_api_Rule [.t 14, .c (.fn n_rule_ahead [] [])], none, [0]⟩,
    ⟨none, .store 7 (.t 4) (.t 15), none, [1, 1, 0, 1]⟩,
    ⟨some 5, .mv (.c (.b true)), none, [2, 0, 1, 2]⟩] false)
  .ret))))⟩
theorem h_rule_first : lowFn Try.prog n_rule_first = some c_rule_first := by kernel_rfl
def c_rule_Denies_c1 : LF := ⟨14, [.tmp 4],
  (.seq
  (.reg [
    ⟨some 3, .box (.t 0), none, []⟩,
    ⟨some 4, .mv (.c (.b false)), none, []⟩] false)
  (.seq
  (.reg [
    ⟨some 5, .fieldAddr 3 (.t 3), none, []⟩,
    ⟨some 6, .load false 1 (.t 5), none, [0]⟩,
    ⟨some 7, .bin .gtr .plain (.t 6) (.c (.i .i64 1)), none, [1]⟩,
    ⟨some 8, .mv (.t 7), none, [2]⟩,
    ⟨some 9, .load true 7 (.t 3), (some (8, true)), [3]⟩,
    ⟨some 10, .load false 1 (.t 1), (some (8, true)), [3]⟩,
    ⟨some 11, .load false 1 (.t 2), (some (8, true)), [3]⟩,
    ⟨some 12, .call n_rule_takes [.t 9, .t 10, .t 11], (some (8, true)), [4, 5, 6, 3, 3]⟩,
    ⟨some 13, .pick (.t 8) (.t 12) (.c (.b false)), none, [3, 7]⟩,
    ⟨some 4, .mv (.t 13), none, [8, 7, 0, 1, 2, 3, 4, 5, 6, 7, 8]⟩] false)
  .ret))⟩
theorem h_rule_Denies_c1 : lowFn Try.prog n_rule_Denies_c1 = some c_rule_Denies_c1 := by kernel_rfl
def c_rule_takes : LF := ⟨25, [.tmp 6],
  (.seq
  (.reg [
    ⟨some 3, .box (.t 0), none, []⟩,
    ⟨some 6, .mv (.c (.b false)), none, []⟩] false)
  (.seq
  (.reg [
    ⟨some 7, .fieldAddr 1 (.t 3), none, []⟩,
    ⟨some 8, .load false 1 (.t 7), none, [0]⟩,
    ⟨some 9, .mv (.t 1), none, []⟩,
    ⟨some 10, .bin .eql .plain (.t 8) (.t 9), none, [1, 2]⟩,
    ⟨some 11, .mv (.t 10), none, [3]⟩,
    ⟨some 12, .fieldAddr 4 (.t 3), (some (11, true)), [4]⟩,
    ⟨some 13, .fieldAddr 0 (.t 12), (some (11, true)), [5, 4]⟩,
    ⟨some 14, .load false 1 (.t 13), (some (11, true)), [6, 4]⟩,
    ⟨some 15, .mv (.t 2), (some (11, true)), [4]⟩,
    ⟨some 16, .bin .leq .plain (.t 14) (.t 15), (some (11, true)), [7, 8, 4]⟩,
    ⟨some 17, .pick (.t 11) (.t 16) (.c (.b false)), none, [4, 9]⟩,
    ⟨some 18, .mv (.t 17), none, [10, 4]⟩,
    ⟨some 19, .mv (.t 2), (some (18, true)), [11]⟩,
    ⟨some 20, .fieldAddr 4 (.t 3), (some (18, true)), [11]⟩,
    ⟨some 21, .fieldAddr 1 (.t 20), (some (18, true)), [13, 11]⟩,
    ⟨some 22, .load false 1 (.t 21), (some (18, true)), [14, 11]⟩,
    ⟨some 23, .bin .leq .plain (.t 19) (.t 22), (some (18, true)), [12, 15, 11]⟩,
    ⟨some 24, .pick (.t 18) (.t 23) (.c (.b false)), none, [11, 16]⟩,
    ⟨some 6, .mv (.t 24), none, [17, 11, 0, 1, 2, 3, 4, 5, 6, 7, 8, 9, 10, 11, 12, 13, 14, 15, 16, 17]⟩] false)
  .ret))⟩
theorem h_rule_takes : lowFn Try.prog n_rule_takes = some c_rule_takes := by kernel_rfl
def c_rule_Match_c1 : LF := ⟨14, [.tmp 4],
  (.seq
  (.reg [
    ⟨some 3, .box (.t 0), none, []⟩,
    ⟨some 4, .mv (.c (.b false)), none, []⟩] false)
  (.seq
  (.reg [
    ⟨some 5, .fieldAddr 3 (.t 3), none, []⟩,
    ⟨some 6, .load false 1 (.t 5), none, [0]⟩,
    ⟨some 7, .bin .leq .plain (.t 6) (.c (.i .i64 1)), none, [1]⟩,
    ⟨some 8, .mv (.t 7), none, [2]⟩,
    ⟨some 9, .load true 7 (.t 3), (some (8, true)), [3]⟩,
    ⟨some 10, .load false 1 (.t 1), (some (8, true)), [3]⟩,
    ⟨some 11, .load false 1 (.t 2), (some (8, true)), [3]⟩,
    ⟨some 12, .call n_rule_takes [.t 9, .t 10, .t 11], (some (8, true)), [4, 5, 6, 3, 3]⟩,
    ⟨some 13, .pick (.t 8) (.t 12) (.c (.b false)), none, [3, 7]⟩,
    ⟨some 4, .mv (.t 13), none, [8, 7, 0, 1, 2, 3, 4, 5, 6, 7, 8]⟩] false)
  .ret))⟩
theorem h_rule_Match_c1 : lowFn Try.prog n_rule_Match_c1 = some c_rule_Match_c1 := by kernel_rfl
def c_tree_node_int_high : LF := ⟨9, [.tmp 2],
  (.seq
  (.reg [
    ⟨some 2, .mv (.c (.i .i64 0)), none, []⟩] false)
  (.seq
  (.seq
  (.reg [
    ⟨some 3, .mv (.t 0), none, []⟩,
    ⟨some 4, .bin .eql .ptr (.t 3) (.c (.nilp)), none, [0]⟩] false)
  (.cond (.t 4)
    (.seq
    (.reg [
      ⟨some 2, .mv (.c (.i .i64 0)), none, []⟩] false)
    .ret)
    .skip))
  (.seq
  (.reg [
    ⟨some 5, .mv (.t 0), none, []⟩,
    ⟨some 6, .nilck (.t 5), none, [0]⟩,
    ⟨some 7, .fieldAddr 4 (.t 6), none, [1]⟩,
    ⟨some 8, .load false 1 (.t 7), none, [2]⟩,
    ⟨some 2, .mv (.t 8), none, [3, 0, 1, 2, 3]⟩] false)
  .ret)))⟩
theorem h_tree_node_int_high : lowFn Try.prog n_tree_node_int_high = some c_tree_node_int_high := by kernel_rfl
def c_tree_node_int_without : LF := ⟨78, [.tmp 4],
  (.seq
  (.reg [
    ⟨some 4, .mv (.c (.nilp)), none, []⟩] false)
  (.seq
  (.block 0
    (.seq
    (.reg [
      ⟨some 8, .mv (.t 1), none, []⟩,
      ⟨some 9, .mv (.t 0), none, []⟩,
      ⟨some 10, .nilck (.t 9), none, [1]⟩,
      ⟨some 11, .fieldAddr 0 (.t 10), none, [2]⟩,
      ⟨some 12, .fieldAddr 0 (.t 11), none, [3]⟩,
      ⟨some 13, .load false 1 (.t 12), none, [4]⟩,
      ⟨some 14, .bin .lss .plain (.t 8) (.t 13), none, [0, 5]⟩,
      ⟨some 7, .mv (.t 14), none, [6]⟩] false)
    (.cond (.t 7)
      (.seq
      (.reg [
        ⟨some 15, .mv (.t 0), none, []⟩,
        ⟨some 16, .nilck (.t 15), none, [0]⟩,
        ⟨some 17, .fieldAddr 2 (.t 16), none, [1]⟩,
        ⟨some 18, .load false 1 (.t 17), none, [2]⟩,
        ⟨some 19, .mv (.t 1), none, []⟩,
        ⟨some 20, .call n_tree_node_int_without [.t 18, .t 19], none, [3, 4]⟩,
        ⟨some 21, .mv (.t 0), none, []⟩,
        ⟨some 22, .nilck (.t 21), none, [6]⟩,
        ⟨some 23, .fieldAddr 0 (.t 22), none, [7]⟩,
        ⟨some 24, .load true 2 (.t 23), none, [8]⟩,
        ⟨some 25, .mv (.t 0), none, []⟩,
        ⟨some 26, .nilck (.t 25), none, [10]⟩,
        ⟨some 27, .fieldAddr 3 (.t 26), none, [11]⟩,
        ⟨some 28, .load false 1 (.t 27), none, [12]⟩,
        ⟨some 29, .call n_tree_even_int [.t 20, .t 24, .t 28], none, [5, 9, 13, 5]⟩,
        ⟨some 4, .mv (.t 29), none, [14, 14, 0, 1, 2, 3, 4, 5, 6, 7, 8, 9, 10, 11, 12, 13, 14]⟩] true)
      .ret)
      (.seq
      (.reg [
        ⟨some 31, .mv (.t 1), none, []⟩,
        ⟨some 32, .mv (.t 0), none, []⟩,
        ⟨some 33, .nilck (.t 32), none, [1]⟩,
        ⟨some 34, .fieldAddr 0 (.t 33), none, [2]⟩,
        ⟨some 35, .fieldAddr 0 (.t 34), none, [3]⟩,
        ⟨some 36, .load false 1 (.t 35), none, [4]⟩,
        ⟨some 37, .bin .gtr .plain (.t 31) (.t 36), none, [0, 5]⟩,
        ⟨some 30, .mv (.t 37), none, [6]⟩] false)
      (.cond (.t 30)
        (.seq
        (.reg [
          ⟨some 38, .mv (.t 0), none, []⟩,
          ⟨some 39, .nilck (.t 38), none, [0]⟩,
          ⟨some 40, .fieldAddr 2 (.t 39), none, [1]⟩,
          ⟨some 41, .load false 1 (.t 40), none, [2]⟩,
          ⟨some 42, .mv (.t 0), none, []⟩,
          ⟨some 43, .nilck (.t 42), none, [4]⟩,
          ⟨some 44, .fieldAddr 0 (.t 43), none, [5]⟩,
          ⟨some 45, .load true 2 (.t 44), none, [6]⟩,
          ⟨some 46, .mv (.t 0), none, []⟩,
          ⟨some 47, .nilck (.t 46), none, [8]⟩,
          ⟨some 48, .fieldAddr 3 (.t 47), none, [9]⟩,
          ⟨some 49, .load false 1 (.t 48), none, [10]⟩,
          ⟨some 50, .mv (.t 1), none, []⟩,
          ⟨some 51, .call n_tree_node_int_without [.t 49, .t 50], none, [11, 12]⟩,
          ⟨some 52, .call n_tree_even_int [.t 41, .t 45, .t 51], none, [3, 7, 13, 13]⟩,
          ⟨some 4, .mv (.t 52), none, [14, 14, 0, 1, 2, 3, 4, 5, 6, 7, 8, 9, 10, 11, 12, 13, 14]⟩] true)
        .ret)
        (.seq
        (.reg [
          ⟨some 54, .mv (.t 0), none, []⟩,
          ⟨some 55, .nilck (.t 54), none, [0]⟩,
          ⟨some 56, .fieldAddr 3 (.t 55), none, [1]⟩,
          ⟨some 57, .load false 1 (.t 56), none, [2]⟩,
          ⟨some 58, .bin .eql .ptr (.t 57) (.c (.nilp)), none, [3]⟩,
          ⟨some 53, .mv (.t 58), none, [4]⟩] false)
        (.cond (.t 53)
          (.seq
          (.reg [
            ⟨some 59, .mv (.t 0), none, []⟩,
            ⟨some 60, .nilck (.t 59), none, [0]⟩,
            ⟨some 61, .fieldAddr 2 (.t 60), none, [1]⟩,
            ⟨some 62, .load false 1 (.t 61), none, [2]⟩,
            ⟨some 4, .mv (.t 62), none, [3, 0, 1, 2, 3]⟩] false)
          .ret)
          .skip)))))))
  (.seq
  (.reg [
    ⟨some 64, .mv (.t 0), none, []⟩,
    ⟨some 65, .nilck (.t 64), none, [0]⟩,
    ⟨some 66, .fieldAddr 3 (.t 65), none, [1]⟩,
    ⟨some 67, .load false 1 (.t 66), none, [2]⟩,
    ⟨some 68, .call n_tree_node_int_least [.t 67], none, [3]⟩,
    ⟨some 63, .mv (.t 68), none, [4]⟩,
    ⟨some 69, .extract (.t 63) 0, none, [5]⟩,
    ⟨some 70, .extract (.t 63) 1, none, [5]⟩,
    ⟨some 5, .alloc [.i .u64 0, .i .i64 0], none, []⟩,
    ⟨none, .store 2 (.t 5) (.t 69), none, [8, 6, 4, 0, 1, 2, 3, 4, 5, 6, 8]⟩,
    ⟨some 6, .mv (.t 70), none, [7, 9, 0, 1, 2, 3, 4, 5, 6, 7, 8, 9]⟩] false)
  (.seq
  (.reg [
    ⟨some 71, .mv (.t 0), none, []⟩,
    ⟨some 72, .nilck (.t 71), none, [0]⟩,
    ⟨some 73, .fieldAddr 2 (.t 72), none, [1]⟩,
    ⟨some 74, .load false 1 (.t 73), none, [2]⟩,
    ⟨some 75, .load true 2 (.t 5), none, []⟩,
    ⟨some 76, .mv (.t 6), none, []⟩,
    ⟨some 77, .call n_tree_even_int [.t 74, .t 75, .t 76], none, [3, 4, 5]⟩,
    ⟨some 4, .mv (.t 77), none, [6, 6, 0, 1, 2, 3, 4, 5, 6]⟩] true)
  .ret))))⟩
theorem h_tree_node_int_without : lowFn Try.prog n_tree_node_int_without = some c_tree_node_int_without := by kernel_rfl
def c_tree_join_int : LF := ⟨57, [.tmp 6],
  (.seq
  (.reg [
    ⟨some 4, .box (.t 1), none, []⟩,
    ⟨some 6, .mv (.c (.nilp)), none, []⟩] false)
  (.seq
  (.block 0
    (.seq
    (.reg [
      ⟨some 8, .mv (.t 0), none, []⟩,
      ⟨some 9, .call n_tree_node_int_high [.t 8], none, [0]⟩,
      ⟨some 10, .mv (.t 2), none, []⟩,
      ⟨some 11, .call n_tree_node_int_high [.t 10], none, [2, 1]⟩,
      ⟨some 12, .bin .add .plain (.t 11) (.c (.i .i64 1)), none, [3]⟩,
      ⟨some 13, .bin .gtr .plain (.t 9) (.t 12), none, [1, 4]⟩,
      ⟨some 7, .mv (.t 13), none, [5, 3]⟩] false)
    (.cond (.t 7)
      (.seq
      (.reg [
        ⟨some 14, .mv (.t 0), none, []⟩,
        ⟨some 15, .nilck (.t 14), none, [0]⟩,
        ⟨some 16, .fieldAddr 2 (.t 15), none, [1]⟩,
        ⟨some 17, .load false 1 (.t 16), none, [2]⟩,
        ⟨some 18, .mv (.t 0), none, []⟩,
        ⟨some 19, .nilck (.t 18), none, [4]⟩,
        ⟨some 20, .fieldAddr 0 (.t 19), none, [5]⟩,
        ⟨some 21, .load true 2 (.t 20), none, [6]⟩,
        ⟨some 22, .mv (.t 0), none, []⟩,
        ⟨some 23, .nilck (.t 22), none, [8]⟩,
        ⟨some 24, .fieldAddr 3 (.t 23), none, [9]⟩,
        ⟨some 25, .load false 1 (.t 24), none, [10]⟩,
        ⟨some 26, .load true 2 (.t 4), none, []⟩,
        ⟨some 27, .mv (.t 2), none, []⟩,
        ⟨some 28, .call n_tree_join_int [.t 25, .t 26, .t 27], none, [11, 12, 13]⟩,
        ⟨some 29, .call n_tree_even_int [.t 17, .t 21, .t 28], none, [3, 7, 14, 14]⟩,
        ⟨some 6, .mv (.t 29), none, [15, 15, 0, 1, 2, 3, 4, 5, 6, 7, 8, 9, 10, 11, 12, 13, 14, 15]⟩] true)
      .ret)
      (.seq
      (.reg [
        ⟨some 31, .mv (.t 2), none, []⟩,
        ⟨some 32, .call n_tree_node_int_high [.t 31], none, [0]⟩,
        ⟨some 33, .mv (.t 0), none, []⟩,
        ⟨some 34, .call n_tree_node_int_high [.t 33], none, [2, 1]⟩,
        ⟨some 35, .bin .add .plain (.t 34) (.c (.i .i64 1)), none, [3]⟩,
        ⟨some 36, .bin .gtr .plain (.t 32) (.t 35), none, [1, 4]⟩,
        ⟨some 30, .mv (.t 36), none, [5, 3]⟩] false)
      (.cond (.t 30)
        (.seq
        (.reg [
          ⟨some 37, .mv (.t 0), none, []⟩,
          ⟨some 38, .load true 2 (.t 4), none, []⟩,
          ⟨some 39, .mv (.t 2), none, []⟩,
          ⟨some 40, .nilck (.t 39), none, [2]⟩,
          ⟨some 41, .fieldAddr 2 (.t 40), none, [3]⟩,
          ⟨some 42, .load false 1 (.t 41), none, [4]⟩,
          ⟨some 43, .call n_tree_join_int [.t 37, .t 38, .t 42], none, [0, 1, 5]⟩,
          ⟨some 44, .mv (.t 2), none, []⟩,
          ⟨some 45, .nilck (.t 44), none, [7]⟩,
          ⟨some 46, .fieldAddr 0 (.t 45), none, [8]⟩,
          ⟨some 47, .load true 2 (.t 46), none, [9]⟩,
          ⟨some 48, .mv (.t 2), none, []⟩,
          ⟨some 49, .nilck (.t 48), none, [11]⟩,
          ⟨some 50, .fieldAddr 3 (.t 49), none, [12]⟩,
          ⟨some 51, .load false 1 (.t 50), none, [13]⟩,
          ⟨some 52, .call n_tree_even_int [.t 43, .t 47, .t 51], none, [6, 10, 14, 6]⟩,
          ⟨some 6, .mv (.t 52), none, [15, 15, 0, 1, 2, 3, 4, 5, 6, 7, 8, 9, 10, 11, 12, 13, 14, 15]⟩] true)
        .ret)
        .skip)))))
  (.seq
  (.reg [
    ⟨some 53, .mv (.t 0), none, []⟩,
    ⟨some 54, .load true 2 (.t 4), none, []⟩,
    ⟨some 55, .mv (.t 2), none, []⟩,
    ⟨some 56, .call n_tree_made_int [.t 53, .t 54, .t 55], none, [0, 1, 2]⟩,
    ⟨some 6, .mv (.t 56), none, [3, 3, 0, 1, 2, 3]⟩] false)
  .ret)))⟩
theorem h_tree_join_int : lowFn Try.prog n_tree_join_int = some c_tree_join_int := by kernel_rfl
def c_slices_DeleteFunc_api_Rule_api_Rule : LF := ⟨42, [.tmp 4],
  (.seq
  (.reg [
    ⟨some 4, .mv (.c (.esl)), none, []⟩] false)
  (.seq
  (.reg [
    ⟨some 8, .mv (.t 0), none, []⟩,
    ⟨some 9, .mv (.t 1), none, []⟩,
    ⟨some 10, .call n_slices_IndexFunc_api_Rule_api_Rule [.t 8, .t 9], none, [0, 1]⟩,
    ⟨some 5, .mv (.t 10), none, [2, 2, 0, 1, 2]⟩] false)
  (.seq
  (.seq
  (.reg [
    ⟨some 11, .mv (.t 5), none, []⟩,
    ⟨some 12, .bin .eql .plain (.t 11) (.c (.i .i64 (-1))), none, [0]⟩] false)
  (.cond (.t 12)
    (.seq
    (.reg [
      ⟨some 13, .mv (.t 0), none, []⟩,
      ⟨some 4, .mv (.t 13), none, [0, 0]⟩] false)
    .ret)
    .skip))
  (.seq
  (.seq
  (.reg [
    ⟨some 14, .mv (.t 5), none, []⟩,
    ⟨some 15, .bin .add .plain (.t 14) (.c (.i .i64 1)), none, [0]⟩,
    ⟨some 6, .mv (.t 15), none, [1, 0, 1]⟩] false)
  (.block 0
    (.loop
      (.seq
      (.seq
      (.reg [
        ⟨some 16, .mv (.t 6), none, []⟩,
        ⟨some 17, .mv (.t 0), none, []⟩,
        ⟨some 18, .len none false (.t 17), none, [1]⟩,
        ⟨some 19, .bin .lss .plain (.t 16) (.t 18), none, [0, 2]⟩] false)
      (.cond (.t 19)
        .skip
        (.exit 0)))
      (.seq
      (.block 1
        (.seq
        (.reg [
          ⟨some 22, .mv (.t 0), none, []⟩,
          ⟨some 23, .mv (.t 6), none, []⟩,
          ⟨some 24, .indexAddr none 7 (.t 22) (.t 23), none, [0, 1]⟩,
          ⟨some 25, .load true 7 (.t 24), none, [2]⟩,
          ⟨some 7, .alloc [.i .i64 0, .i .i64 0, .i .i64 0, .i .i64 0, .i .u32 0, .i .u32 0, .i .i64 0], none, []⟩,
          ⟨none, .store 7 (.t 7) (.t 25), none, [4, 3, 0, 1, 2, 3, 4]⟩] false)
        (.seq
        (.reg [
          ⟨some 26, .mv (.t 1), none, []⟩,
          ⟨some 27, .load true 7 (.t 7), none, []⟩,
          ⟨some 28, .callv (.t 26) [.t 27], none, [0, 1]⟩,
          ⟨some 29, .un .not (.t 28), none, [2]⟩] false)
        (.cond (.t 29)
          (.seq
          (.reg [
            ⟨some 30, .mv (.t 0), none, []⟩,
            ⟨some 31, .mv (.t 5), none, []⟩,
            ⟨some 32, .load true 7 (.t 7), none, []⟩,
            ⟨some 33, .indexAddr none 7 (.t 30) (.t 31), none, [0, 1, 0, 1, 2]⟩,
            ⟨none, .store 7 (.t 33) (.t 32), none, [3, 2, 0, 1, 2]⟩] false)
          (.reg [
            ⟨some 34, .mv (.t 5), none, []⟩,
            ⟨some 35, .bin .add .plain (.t 34) (.c (.i .i64 1)), none, [0]⟩,
            ⟨some 5, .mv (.t 35), none, [1, 0, 1]⟩] false))
          .skip))))
      (.reg [
        ⟨some 20, .mv (.t 6), none, []⟩,
        ⟨some 21, .bin .add .plain (.t 20) (.c (.i .i64 1)), none, [0]⟩,
        ⟨some 6, .mv (.t 21), none, [1, 0, 1]⟩] false))))))
  (.seq
  (.reg [
    ⟨some 36, .mv (.t 0), none, []⟩,
    ⟨some 37, .mv (.t 5), none, []⟩,
    ⟨some 38, .slice false 7 (.t 36) (some (.t 37)) none none, none, [0, 1]⟩,
    ⟨none, .clear 7 [.i .i64 0, .i .i64 0, .i .i64 0, .i .i64 0, .i .u32 0, .i .u32 0, .i .i64 0] (.t 38), none, [2]⟩] false)
  (.seq
  (.reg [
    ⟨some 39, .mv (.t 0), none, []⟩,
    ⟨some 40, .mv (.t 5), none, []⟩,
    ⟨some 41, .slice false 7 (.t 39) none (some (.t 40)) none, none, [0, 1]⟩,
    ⟨some 4, .mv (.t 41), none, [2, 0, 1, 2]⟩] false)
  .ret))))))⟩
theorem h_slices_DeleteFunc_api_Rule_api_Rule : lowFn Try.prog n_slices_DeleteFunc_api_Rule_api_Rule = some c_slices_DeleteFunc_api_Rule_api_Rule := by kernel_rfl
def c_slices_Clone_api_Rule_api_Rule : LF := ⟨8, [.tmp 2],
  (.seq
  (.reg [
    ⟨some 2, .mv (.c (.esl)), none, []⟩] false)
  (.seq
  (.seq
  (.reg [
    ⟨some 3, .mv (.t 0), none, []⟩,
    ⟨some 4, .bin .eql .slice (.t 3) (.c (.esl)), none, [0]⟩] false)
  (.cond (.t 4)
    (.seq
    (.reg [
      ⟨some 2, .mv (.c (.esl)), none, []⟩] false)
    .ret)
    .skip))
  (.seq
  (.reg [
    ⟨some 5, .bslice 7 [.i .i64 0, .i .i64 0, .i .i64 0, .i .i64 0, .i .u32 0, .i .u32 0, .i .i64 0] 0 [], none, []⟩,
    ⟨some 6, .mv (.t 0), none, []⟩,
    ⟨some 7, .append 7 48 (.t 5) (.t 6), none, [0, 1]⟩,
    ⟨some 2, .mv (.t 7), none, [2, 2, 0, 1, 2]⟩] false)
  .ret)))⟩
theorem h_slices_Clone_api_Rule_api_Rule : lowFn Try.prog n_slices_Clone_api_Rule_api_Rule = some c_slices_Clone_api_Rule_api_Rule := by kernel_rfl
def c_rule_first_c1 : LF := ⟨8, [.tmp 3],
  (.seq
  (.reg [
    ⟨some 2, .box (.t 0), none, []⟩,
    ⟨some 3, .mv (.c (.b false)), none, []⟩] false)
  (.seq
  (.reg [
    ⟨some 4, .load false 1 (.t 1), none, []⟩,
    ⟨some 5, .load true 7 (.t 2), none, []⟩,
    ⟨some 6, .callv (.t 4) [.t 5], none, [0, 1]⟩,
    ⟨some 7, .un .not (.t 6), none, [2]⟩,
    ⟨some 3, .mv (.t 7), none, [3, 2, 0, 1, 2, 3]⟩] false)
  .ret))⟩
theorem h_rule_first_c1 : lowFn Try.prog n_rule_first_c1 = some c_rule_first_c1 := by kernel_rfl
def c_slices_MinFunc_api_Rule_api_Rule : LF := ⟨33, [.cell 4 true 7],
  (.seq
  (.reg [
    ⟨some 4, .alloc [.i .i64 0, .i .i64 0, .i .i64 0, .i .i64 0, .i .u32 0, .i .u32 0, .i .i64 0], none, []⟩] false)
  (.seq
  (.seq
  (.reg [
    ⟨some 7, .mv (.t 0), none, []⟩,
    ⟨some 8, .len none false (.t 7), none, [0]⟩,
    ⟨some 9, .bin .lss .plain (.t 8) (.c (.i .i64 1)), none, [1]⟩] false)
  (.cond (.t 9)
    (.reg [
      ⟨some 10, .die, none, []⟩,
      ⟨none, .die, none, [0]⟩] false)
    .skip))
  (.seq
  (.reg [
    ⟨some 11, .mv (.t 0), none, []⟩,
    ⟨some 12, .indexAddr none 7 (.t 11) (.c (.i .i64 0)), none, [0]⟩,
    ⟨some 13, .load true 7 (.t 12), none, [1]⟩,
    ⟨some 5, .alloc [.i .i64 0, .i .i64 0, .i .i64 0, .i .i64 0, .i .u32 0, .i .u32 0, .i .i64 0], none, []⟩,
    ⟨none, .store 7 (.t 5) (.t 13), none, [3, 2, 0, 1, 2, 3]⟩] false)
  (.seq
  (.seq
  (.reg [
    ⟨some 6, .mv (.c (.i .i64 1)), none, []⟩] false)
  (.block 0
    (.loop
      (.seq
      (.seq
      (.reg [
        ⟨some 14, .mv (.t 6), none, []⟩,
        ⟨some 15, .mv (.t 0), none, []⟩,
        ⟨some 16, .len none false (.t 15), none, [1]⟩,
        ⟨some 17, .bin .lss .plain (.t 14) (.t 16), none, [0, 2]⟩] false)
      (.cond (.t 17)
        .skip
        (.exit 0)))
      (.seq
      (.block 1
        (.seq
        (.reg [
          ⟨some 20, .mv (.t 1), none, []⟩,
          ⟨some 21, .mv (.t 0), none, []⟩,
          ⟨some 22, .mv (.t 6), none, []⟩,
          ⟨some 23, .indexAddr none 7 (.t 21) (.t 22), none, [1, 2]⟩,
          ⟨some 24, .load true 7 (.t 23), none, [3]⟩,
          ⟨some 25, .load true 7 (.t 5), none, []⟩,
          ⟨some 26, .callv (.t 20) [.t 24, .t 25], none, [0, 4, 5]⟩,
          ⟨some 27, .bin .lss .plain (.t 26) (.c (.i .i64 0)), none, [6]⟩] true)
        (.cond (.t 27)
          (.reg [
            ⟨some 28, .mv (.t 0), none, []⟩,
            ⟨some 29, .mv (.t 6), none, []⟩,
            ⟨some 30, .indexAddr none 7 (.t 28) (.t 29), none, [0, 1]⟩,
            ⟨some 31, .load true 7 (.t 30), none, [2]⟩,
            ⟨none, .store 7 (.t 5) (.t 31), none, [3, 0, 1, 2, 3]⟩] false)
          .skip)))
      (.reg [
        ⟨some 18, .mv (.t 6), none, []⟩,
        ⟨some 19, .bin .add .plain (.t 18) (.c (.i .i64 1)), none, [0]⟩,
        ⟨some 6, .mv (.t 19), none, [1, 0, 1]⟩] false))))))
  (.seq
  (.reg [
    ⟨some 32, .load true 7 (.t 5), none, []⟩,
    ⟨none, .store 7 (.t 4) (.t 32), none, [0, 0]⟩] false)
  .ret)))))⟩
theorem h_slices_MinFunc_api_Rule_api_Rule : lowFn Try.prog n_slices_MinFunc_api_Rule_api_Rule = some c_slices_MinFunc_api_Rule_api_Rule := by kernel_rfl
def c_rule_ahead : LF := ⟨17, [.tmp 4],
  (.seq
  (.reg [
    ⟨some 2, .box (.t 0), none, []⟩,
    ⟨some 3, .box (.t 1), none, []⟩,
    ⟨some 4, .mv (.c (.i .i64 0)), none, []⟩] false)
  (.seq
  (.reg [
    ⟨some 5, .fieldAddr 2 (.t 3), none, []⟩,
    ⟨some 6, .load false 1 (.t 5), none, [0]⟩,
    ⟨some 7, .fieldAddr 2 (.t 2), none, []⟩,
    ⟨some 8, .load false 1 (.t 7), none, [2]⟩,
    ⟨some 9, .call n_cmp_Compare_int [.t 6, .t 8], none, [1, 3]⟩,
    ⟨some 10, .fieldAddr 0 (.t 2), none, []⟩,
    ⟨some 11, .load false 1 (.t 10), none, [5]⟩,
    ⟨some 12, .fieldAddr 0 (.t 3), none, []⟩,
    ⟨some 13, .load false 1 (.t 12), none, [7]⟩,
    ⟨some 14, .call n_cmp_Compare_int [.t 11, .t 13], none, [6, 8, 4]⟩,
    ⟨some 15, .bslice 1 [.i .i64 0] 2 [(0, .t 9), (1, .t 14)], none, [4, 9]⟩,
    ⟨some 16, .call n_cmp_Or_int [.t 15], none, [10, 9]⟩,
    ⟨some 4, .mv (.t 16), none, [11, 11, 0, 1, 2, 3, 4, 5, 6, 7, 8, 9, 10, 11]⟩] true)
  .ret))⟩
theorem h_rule_ahead : lowFn Try.prog n_rule_ahead = some c_rule_ahead := by kernel_rfl
def c_tree_node_int_least : LF := ⟨38, [.cell 2 true 2, .tmp 3],
  (.seq
  (.reg [
    ⟨some 2, .alloc [.i .u64 0, .i .i64 0], none, []⟩,
    ⟨some 3, .mv (.c (.nilp)), none, []⟩] false)
  (.seq
  (.seq
  (.reg [
    ⟨some 6, .mv (.t 0), none, []⟩,
    ⟨some 7, .nilck (.t 6), none, [0]⟩,
    ⟨some 8, .fieldAddr 2 (.t 7), none, [1]⟩,
    ⟨some 9, .load false 1 (.t 8), none, [2]⟩,
    ⟨some 10, .bin .eql .ptr (.t 9) (.c (.nilp)), none, [3]⟩] false)
  (.cond (.t 10)
    (.seq
    (.reg [
      ⟨some 11, .mv (.t 0), none, []⟩,
      ⟨some 12, .nilck (.t 11), none, [0]⟩,
      ⟨some 13, .fieldAddr 0 (.t 12), none, [1]⟩,
      ⟨some 14, .load true 2 (.t 13), none, [2]⟩,
      ⟨some 15, .mv (.t 0), none, []⟩,
      ⟨some 16, .nilck (.t 15), none, [4]⟩,
      ⟨some 17, .fieldAddr 3 (.t 16), none, [5]⟩,
      ⟨some 18, .load false 1 (.t 17), none, [6]⟩,
      ⟨none, .store 2 (.t 2) (.t 14), none, [3, 0, 1, 2, 3]⟩,
      ⟨some 3, .mv (.t 18), none, [7, 8, 0, 1, 2, 3, 4, 5, 6, 7, 8]⟩] true)
    .ret)
    .skip))
  (.seq
  (.reg [
    ⟨some 20, .mv (.t 0), none, []⟩,
    ⟨some 21, .nilck (.t 20), none, [0]⟩,
    ⟨some 22, .fieldAddr 2 (.t 21), none, [1]⟩,
    ⟨some 23, .load false 1 (.t 22), none, [2]⟩,
    ⟨some 24, .call n_tree_node_int_least [.t 23], none, [3]⟩,
    ⟨some 19, .mv (.t 24), none, [4]⟩,
    ⟨some 25, .extract (.t 19) 0, none, [5]⟩,
    ⟨some 26, .extract (.t 19) 1, none, [5]⟩,
    ⟨some 4, .alloc [.i .u64 0, .i .i64 0], none, []⟩,
    ⟨none, .store 2 (.t 4) (.t 25), none, [8, 6, 4, 0, 1, 2, 3, 4, 5, 6, 8]⟩,
    ⟨some 5, .mv (.t 26), none, [7, 9, 0, 1, 2, 3, 4, 5, 6, 7, 8, 9]⟩] false)
  (.seq
  (.reg [
    ⟨some 27, .load true 2 (.t 4), none, []⟩,
    ⟨some 28, .mv (.t 5), none, []⟩,
    ⟨some 29, .mv (.t 0), none, []⟩,
    ⟨some 30, .nilck (.t 29), none, [2]⟩,
    ⟨some 31, .fieldAddr 0 (.t 30), none, [3]⟩,
    ⟨some 32, .load true 2 (.t 31), none, [4]⟩,
    ⟨some 33, .mv (.t 0), none, []⟩,
    ⟨some 34, .nilck (.t 33), none, [6]⟩,
    ⟨some 35, .fieldAddr 3 (.t 34), none, [7]⟩,
    ⟨some 36, .load false 1 (.t 35), none, [8]⟩,
    ⟨some 37, .call n_tree_even_int [.t 28, .t 32, .t 36], none, [1, 5, 9]⟩,
    ⟨none, .store 2 (.t 2) (.t 27), none, [0, 10, 0]⟩,
    ⟨some 3, .mv (.t 37), none, [10, 11, 0, 1, 2, 3, 4, 5, 6, 7, 8, 9, 10, 11]⟩] true)
  .ret))))⟩
theorem h_tree_node_int_least : lowFn Try.prog n_tree_node_int_least = some c_tree_node_int_least := by kernel_rfl
def c_slices_IndexFunc_api_Rule_api_Rule : LF := ⟨19, [.tmp 4],
  (.seq
  (.reg [
    ⟨some 4, .mv (.c (.i .i64 0)), none, []⟩] false)
  (.seq
  (.seq
  (.reg [
    ⟨some 6, .mv (.t 0), none, []⟩,
    ⟨some 7, .len none false (.t 6), none, [0]⟩,
    ⟨some 8, .mv (.c (.i .i64 0)), none, []⟩] false)
  (.block 0
    (.loop
      (.seq
      (.reg [
        ⟨some 9, .bin .lss .plain (.t 8) (.t 7), none, []⟩] false)
      (.seq
      (.cond (.t 9)
        .skip
        (.exit 0))
      (.seq
      (.block 1
        (.seq
        (.reg [
          ⟨some 10, .mv (.t 8), none, []⟩,
          ⟨some 5, .mv (.t 10), none, [0, 0]⟩] false)
        (.seq
        (.reg [
          ⟨some 11, .mv (.t 1), none, []⟩,
          ⟨some 12, .mv (.t 0), none, []⟩,
          ⟨some 13, .mv (.t 5), none, []⟩,
          ⟨some 14, .indexAddr none 7 (.t 12) (.t 13), none, [1, 2]⟩,
          ⟨some 15, .load true 7 (.t 14), none, [3]⟩,
          ⟨some 16, .callv (.t 11) [.t 15], none, [0, 4]⟩] false)
        (.cond (.t 16)
          (.seq
          (.reg [
            ⟨some 17, .mv (.t 5), none, []⟩,
            ⟨some 4, .mv (.t 17), none, [0, 0]⟩] false)
          .ret)
          .skip))))
      (.reg [
        ⟨some 18, .bin .add .plain (.t 8) (.c (.i .i64 1)), none, []⟩,
        ⟨some 8, .mv (.t 18), none, [0]⟩] false)))))))
  (.seq
  (.reg [
    ⟨some 4, .mv (.c (.i .i64 (-1))), none, []⟩] false)
  .ret)))⟩
theorem h_slices_IndexFunc_api_Rule_api_Rule : lowFn Try.prog n_slices_IndexFunc_api_Rule_api_Rule = some c_slices_IndexFunc_api_Rule_api_Rule := by kernel_rfl
def c_cmp_Or_int : LF := ⟨18, [.tmp 2],
  (.seq
  (.reg [
    ⟨some 2, .mv (.c (.i .i64 0)), none, []⟩] false)
  (.seq
  (.reg [
    ⟨some 3, .mv (.c (.i .i64 0)), none, []⟩] false)
  (.seq
  (.seq
  (.reg [
    ⟨some 6, .mv (.t 0), none, []⟩,
    ⟨some 7, .len none false (.t 6), none, [0]⟩,
    ⟨some 8, .mv (.c (.i .i64 0)), none, []⟩] false)
  (.block 0
    (.loop
      (.seq
      (.reg [
        ⟨some 9, .bin .lss .plain (.t 8) (.t 7), none, []⟩] false)
      (.seq
      (.cond (.t 9)
        .skip
        (.exit 0))
      (.seq
      (.block 1
        (.seq
        (.reg [
          ⟨some 10, .indexAddr none 1 (.t 6) (.t 8), none, []⟩,
          ⟨some 11, .load false 1 (.t 10), none, [0]⟩,
          ⟨some 5, .mv (.t 11), none, [1, 0, 1]⟩] false)
        (.seq
        (.reg [
          ⟨some 12, .mv (.t 5), none, []⟩,
          ⟨some 13, .mv (.t 3), none, []⟩,
          ⟨some 14, .bin .neq .plain (.t 12) (.t 13), none, [0, 1]⟩] false)
        (.cond (.t 14)
          (.seq
          (.reg [
            ⟨some 15, .mv (.t 5), none, []⟩,
            ⟨some 2, .mv (.t 15), none, [0, 0]⟩] false)
          .ret)
          .skip))))
      (.reg [
        ⟨some 16, .bin .add .plain (.t 8) (.c (.i .i64 1)), none, []⟩,
        ⟨some 8, .mv (.t 16), none, [0]⟩] false)))))))
  (.seq
  (.reg [
    ⟨some 17, .mv (.t 3), none, []⟩,
    ⟨some 2, .mv (.t 17), none, [0, 0]⟩] false)
  .ret))))⟩
theorem h_cmp_Or_int : lowFn Try.prog n_cmp_Or_int = some c_cmp_Or_int := by kernel_rfl
def c_cmp_Compare_int : LF := ⟨20, [.tmp 4],
  (.seq
  (.reg [
    ⟨some 4, .mv (.c (.i .i64 0)), none, []⟩] false)
  (.seq
  (.reg [
    ⟨some 7, .mv (.t 0), none, []⟩,
    ⟨some 8, .call n_cmp_isNaN_int [.t 7], none, [0]⟩,
    ⟨some 5, .mv (.t 8), none, [1, 1, 0, 1]⟩] false)
  (.seq
  (.reg [
    ⟨some 9, .mv (.t 1), none, []⟩,
    ⟨some 10, .call n_cmp_isNaN_int [.t 9], none, [0]⟩,
    ⟨some 6, .mv (.t 10), none, [1, 1, 0, 1]⟩] false)
  (.seq
  (.seq
  (.reg [
    ⟨some 11, .mv (.t 5), none, []⟩] false)
  (.cond (.t 11)
    (.seq
    (.seq
    (.reg [
      ⟨some 12, .mv (.t 6), none, []⟩] false)
    (.cond (.t 12)
      (.seq
      (.reg [
        ⟨some 4, .mv (.c (.i .i64 0)), none, []⟩] false)
      .ret)
      .skip))
    (.seq
    (.reg [
      ⟨some 4, .mv (.c (.i .i64 (-1))), none, []⟩] false)
    .ret))
    .skip))
  (.seq
  (.seq
  (.reg [
    ⟨some 13, .mv (.t 6), none, []⟩] false)
  (.cond (.t 13)
    (.seq
    (.reg [
      ⟨some 4, .mv (.c (.i .i64 1)), none, []⟩] false)
    .ret)
    .skip))
  (.seq
  (.seq
  (.reg [
    ⟨some 14, .mv (.t 0), none, []⟩,
    ⟨some 15, .mv (.t 1), none, []⟩,
    ⟨some 16, .bin .lss .plain (.t 14) (.t 15), none, [0, 1]⟩] false)
  (.cond (.t 16)
    (.seq
    (.reg [
      ⟨some 4, .mv (.c (.i .i64 (-1))), none, []⟩] false)
    .ret)
    .skip))
  (.seq
  (.seq
  (.reg [
    ⟨some 17, .mv (.t 0), none, []⟩,
    ⟨some 18, .mv (.t 1), none, []⟩,
    ⟨some 19, .bin .gtr .plain (.t 17) (.t 18), none, [0, 1]⟩] false)
  (.cond (.t 19)
    (.seq
    (.reg [
      ⟨some 4, .mv (.c (.i .i64 1)), none, []⟩] false)
    .ret)
    .skip))
  (.seq
  (.reg [
    ⟨some 4, .mv (.c (.i .i64 0)), none, []⟩] false)
  .ret))))))))⟩
theorem h_cmp_Compare_int : lowFn Try.prog n_cmp_Compare_int = some c_cmp_Compare_int := by kernel_rfl
def c_cmp_isNaN_int : LF := ⟨6, [.tmp 2],
  (.seq
  (.reg [
    ⟨some 2, .mv (.c (.b false)), none, []⟩] false)
  (.seq
  (.reg [
    ⟨some 3, .mv (.t 0), none, []⟩,
    ⟨some 4, .mv (.t 0), none, []⟩,
    ⟨some 5, .bin .neq .plain (.t 3) (.t 4), none, [0, 1]⟩,
    ⟨some 2, .mv (.t 5), none, [2, 0, 1, 2]⟩] false)
  .ret))⟩
theorem h_cmp_isNaN_int : lowFn Try.prog n_cmp_isNaN_int = some c_cmp_isNaN_int := by kernel_rfl

end Go.Proofs.Ytibkakodokbobaa
