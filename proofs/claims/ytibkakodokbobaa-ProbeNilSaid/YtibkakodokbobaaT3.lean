import Derived.Test.YtibkakodokbobaaT2
import Derived.Test.YtibkakodokbobaaC3
namespace Go.Proofs.Ytibkakodokbobaa
open Go.Am
set_option maxRecDepth 100000
set_option linter.unusedSimpArgs false
set_option linter.unusedVariables false
theorem nT3_0 {E A : Prop} (e : E) (h : E → A := by (intro hE; simp only [aone, aoneT, gval, astep, aev, val, abin, abinI, abinS, aun, aeqn, aeqL, aeq1, put, upds, sset, sget, aload, astore, aobj, acut, cells_b, one_b, cells_i, one_i, cells_s, one_s, cells_nilp, one_nilp, cells_ref, one_ref, cells_ptr, one_ptr, cells_esl, one_esl, cells_sl, one_sl, cells_row, one_row, cells_fn, one_fn, cells_nilf, one_nilf, cells_nilm, one_nilm, cells_mp, one_mp, cells_mpr, one_mpr, cells_ag, anilck, afieldAddr, aindex, aindexAddr, alen, afill, afillR, aminmax, aminmax.aminmaxI, isNeq, sdl, kin, acall, ares, ares1, arows, aappend, aslice, asliceS, asliceR, aslice0, abnd, List.set_cons_succ, List.set_cons_zero, List.getD_cons_succ, List.getD_cons_zero, List.getElem?_cons_succ, List.getElem?_cons_zero, List.map_cons, List.map_nil, List.cons_append, List.nil_append, List.append_nil, List.length_cons, List.length_nil, List.take_succ_cons, List.take_zero, List.drop_succ_cons, List.drop_zero, List.all_cons, List.all_nil, List.replicate, Nat.reduceAdd, Nat.reduceSub, Nat.reduceMul, Nat.reduceLT, Nat.reduceLeDiff, Nat.reduceEqDiff, Nat.zero_add, Nat.add_zero, Nat.zero_mul, Option.map_some, Option.map_none, Option.bind_some, Option.bind_eq_bind, Option.getD_some, Option.getD_none, Option.isSome_some, Option.isSome_none, Option.toList, if_true, if_false, and_self, and_true, true_and, and_false, false_and, Prod.mk.injEq, Bool.false_eq_true, Bool.true_eq_false, beq_self_eq_true, Bool.not_true, Bool.not_false, Bool.and_self, Bool.and_true, Bool.true_and, decide_true, decide_false, beq_true, beq_false, Bool.not_not, reduceCtorEq, Nat.le_refl, Int.reduceNeg, reduceIte, Nat.reduceBEq, Int.reduceBEq, Int.reduceLT, Int.reduceLE, Int.reduceToNat, decide_eq_true_eq, not_false_eq_true, not_true_eq_false, ne_eq, eT_cells, eT_nil, eT_one, hE] <;> rfl)) : A := h e
theorem nT3_1 {E A : Prop} (e : E) (h : E → A := by (intro hE; simp only [aone, aoneT, gval, astep, aev, val, abin, abinI, abinS, aun, aeqn, aeqL, aeq1, put, upds, sset, sget, aload, astore, aobj, acut, cells_b, one_b, cells_i, one_i, cells_s, one_s, cells_nilp, one_nilp, cells_ref, one_ref, cells_ptr, one_ptr, cells_esl, one_esl, cells_sl, one_sl, cells_row, one_row, cells_fn, one_fn, cells_nilf, one_nilf, cells_nilm, one_nilm, cells_mp, one_mp, cells_mpr, one_mpr, cells_ag, anilck, afieldAddr, aindex, aindexAddr, alen, afill, afillR, aminmax, aminmax.aminmaxI, isNeq, sdl, kin, acall, ares, ares1, arows, aappend, aslice, asliceS, asliceR, aslice0, abnd, List.set_cons_succ, List.set_cons_zero, List.getD_cons_succ, List.getD_cons_zero, List.getElem?_cons_succ, List.getElem?_cons_zero, List.map_cons, List.map_nil, List.cons_append, List.nil_append, List.append_nil, List.length_cons, List.length_nil, List.take_succ_cons, List.take_zero, List.drop_succ_cons, List.drop_zero, List.all_cons, List.all_nil, List.replicate, Nat.reduceAdd, Nat.reduceSub, Nat.reduceMul, Nat.reduceLT, Nat.reduceLeDiff, Nat.reduceEqDiff, Nat.zero_add, Nat.add_zero, Nat.zero_mul, Option.map_some, Option.map_none, Option.bind_some, Option.bind_eq_bind, Option.getD_some, Option.getD_none, Option.isSome_some, Option.isSome_none, Option.toList, if_true, if_false, and_self, and_true, true_and, and_false, false_and, Prod.mk.injEq, Bool.false_eq_true, Bool.true_eq_false, beq_self_eq_true, Bool.not_true, Bool.not_false, Bool.and_self, Bool.and_true, Bool.true_and, decide_true, decide_false, beq_true, beq_false, Bool.not_not, reduceCtorEq, Nat.le_refl, Int.reduceNeg, reduceIte, Nat.reduceBEq, Int.reduceBEq, Int.reduceLT, Int.reduceLE, Int.reduceToNat, decide_eq_true_eq, not_false_eq_true, not_true_eq_false, ne_eq, eT_cells, eT_nil, eT_node, eT_one, hE] <;> rfl)) : A := h e
theorem pT3_ {A : Prop} (h : A := by (simp only [List.forall_mem_cons, List.forall_mem_nil, List.not_mem_nil, false_imp_iff, implies_true, List.forall_mem_map, pure_b, pure_i, pure_s, pure_nilp, pure_nilf, pure_esl, pure_ref, pure_sl, pure_ag, pure_tu, pure_fn, and_self, and_true, true_and, eT_pure]; done)) : A := h
/-- A search tree, as its shape is. -/
inductive T where
  | nil
  | node (k v : Int) (l r : T)
def T.ht : T → Nat
  | .nil => 0
  | .node _ _ l r => 1 + max l.ht r.ht
def T.sz : T → Nat
  | .nil => 0
  | .node _ _ l r => 1 + l.sz + r.sz
theorem T.ht_le : ∀ t : T, t.ht ≤ t.sz
  | .nil => Nat.le_refl _
  | .node _ _ l r => by have := T.ht_le l; have := T.ht_le r; simp only [T.ht, T.sz]; omega
def eT : T → AV
  | .nil => .nilp
  | .node k v l r => .ref [.i .u64 k, .i .i64 v, eT l, eT r, .i .i64 ((1 + max l.ht r.ht : Nat) : Int), .i .i64 ((1 + l.sz + r.sz : Nat) : Int)] 0
theorem eT_Pure : ∀ t : T, Pure (eT t)
  | .nil => .nilp
  | .node k v l r => by
    refine .ref _ _ fun x hx => ?_
    simp only [List.mem_cons, List.not_mem_nil, or_false] at hx
    rcases hx with rfl | rfl | rfl | rfl | rfl | rfl
    · exact .i _ _
    · exact .i _ _
    · exact eT_Pure l
    · exact eT_Pure r
    · exact .i _ _
    · exact .i _ _
theorem eT_pure (t : T) : Pure (eT t) ↔ True := ⟨fun _ => trivial, fun _ => eT_Pure t⟩
theorem eT_nil : eT .nil = .nilp := rfl
theorem eT_node (k v : Int) (l r : T) : eT (.node k v l r) = .ref [.i .u64 k, .i .i64 v, eT l, eT r, .i .i64 ((1 + max l.ht r.ht : Nat) : Int), .i .i64 ((1 + l.sz + r.sz : Nat) : Int)] 0 := rfl
theorem eT_cells (t : T) : (eT t).cells = some [eT t] := by cases t <;> rfl
theorem eT_one (t : T) : (eT t).one = true := by cases t <;> rfl
theorem p_highN (a b c d e : AV) (h : Int) : APure Try.prog n_tree_node_int_high [.ref [a, b, c, d, .i .i64 h, e] 0] (.i .i64 h) := by
  refine apure_of h_tree_node_int_high ?_
  simp only [c_tree_node_int_high, List.length_cons, List.length_nil, List.cons_append, List.nil_append, Nat.reduceAdd, Nat.reduceSub, List.reduceReplicate]
  (have hE := noX; repeat' (first
    | refine awp_seq ?_
    | (refine awp_reg fun nv => ?_)
    | (refine awp_regd mix fun nv => ?_)
    | ((first | refine aops_nil ?_ | refine adr_nil (by rfl) ?_ | refine awp_skip ?_ | refine awp_exit ?_ | refine awp_ret ?_); try simp only [thenQ, blockQ, if_true, if_false, Nat.reduceEqDiff, eq_self, reduceCtorEq, reduceIte])
    | ((first | apply aops_one 0 | apply adr_one 0); (· exact nT3_0 hE))
    | refine awp_block ?_
    | (apply awp_condt; (· exact nT3_0 hE))
    | (apply awp_condf; (· exact nT3_0 hE))
    | (apply awp_cond; (· exact nT3_0 hE); all_goals intro hc)
    | ((first | apply aops_gsplit | apply adr_gsplit); (· rfl); (· exact nT3_0 hE); all_goals (intro hg; rw [hg])))); all_goals clear hE
  all_goals
    (apply awp_end [] (by first | exact .inl rfl | exact .inr rfl); · (simp only [aone, aoneT, gval, astep, aev, val, abin, abinI, abinS, aun, aeqn, aeqL, aeq1, put, upds, sset, sget, aload, astore, aobj, acut, cells_b, one_b, cells_i, one_i, cells_s, one_s, cells_nilp, one_nilp, cells_ref, one_ref, cells_ptr, one_ptr, cells_esl, one_esl, cells_sl, one_sl, cells_row, one_row, cells_fn, one_fn, cells_nilf, one_nilf, cells_nilm, one_nilm, cells_mp, one_mp, cells_mpr, one_mpr, cells_ag, anilck, afieldAddr, aindex, aindexAddr, alen, afill, afillR, aminmax, aminmax.aminmaxI, isNeq, sdl, kin, acall, ares, ares1, arows, aappend, aslice, asliceS, asliceR, aslice0, abnd, List.set_cons_succ, List.set_cons_zero, List.getD_cons_succ, List.getD_cons_zero, List.getElem?_cons_succ, List.getElem?_cons_zero, List.map_cons, List.map_nil, List.cons_append, List.nil_append, List.append_nil, List.length_cons, List.length_nil, List.take_succ_cons, List.take_zero, List.drop_succ_cons, List.drop_zero, List.all_cons, List.all_nil, List.replicate, Nat.reduceAdd, Nat.reduceSub, Nat.reduceMul, Nat.reduceLT, Nat.reduceLeDiff, Nat.reduceEqDiff, Nat.zero_add, Nat.add_zero, Nat.zero_mul, Option.map_some, Option.map_none, Option.bind_some, Option.bind_eq_bind, Option.getD_some, Option.getD_none, Option.isSome_some, Option.isSome_none, Option.toList, if_true, if_false, and_self, and_true, true_and, and_false, false_and, Prod.mk.injEq, Bool.false_eq_true, Bool.true_eq_false, beq_self_eq_true, Bool.not_true, Bool.not_false, Bool.and_self, Bool.and_true, Bool.true_and, decide_true, decide_false, beq_true, beq_false, Bool.not_not, reduceCtorEq, Nat.le_refl, Int.reduceNeg, reduceIte, Nat.reduceBEq, Int.reduceBEq, Int.reduceLT, Int.reduceLE, Int.reduceToNat, decide_eq_true_eq, not_false_eq_true, not_true_eq_false, ne_eq, eT_nil, eT_cells, eT_one] <;> rfl)); refine fz_res ?_ (.i _ _)
    simp [tup]
theorem p_high (t : T) : APure Try.prog n_tree_node_int_high [eT t] (.i .i64 (t.ht : Nat)) := by
  refine apure_of h_tree_node_int_high ?_
  simp only [c_tree_node_int_high, List.length_cons, List.length_nil, List.cons_append, List.nil_append, Nat.reduceAdd, Nat.reduceSub, List.reduceReplicate]
  cases t
  all_goals
    (have hE := noX; repeat' (first
    | refine awp_seq ?_
    | (refine awp_reg fun nv => ?_)
    | (refine awp_regd mix fun nv => ?_)
    | ((first | refine aops_nil ?_ | refine adr_nil (by rfl) ?_ | refine awp_skip ?_ | refine awp_exit ?_ | refine awp_ret ?_); try simp only [thenQ, blockQ, if_true, if_false, Nat.reduceEqDiff, eq_self, reduceCtorEq, reduceIte])
    | ((first | apply aops_one 0 | apply adr_one 0); (· exact nT3_1 hE))
    | refine awp_block ?_
    | (apply awp_condt; (· exact nT3_1 hE))
    | (apply awp_condf; (· exact nT3_1 hE))
    | (apply awp_cond; (· exact nT3_1 hE); all_goals intro hc)
    | ((first | apply aops_gsplit | apply adr_gsplit); (· rfl); (· exact nT3_1 hE); all_goals (intro hg; rw [hg])))); all_goals clear hE
    all_goals
      (apply awp_end [] (by first | exact .inl rfl | exact .inr rfl); · (simp only [aone, aoneT, gval, astep, aev, val, abin, abinI, abinS, aun, aeqn, aeqL, aeq1, put, upds, sset, sget, aload, astore, aobj, acut, cells_b, one_b, cells_i, one_i, cells_s, one_s, cells_nilp, one_nilp, cells_ref, one_ref, cells_ptr, one_ptr, cells_esl, one_esl, cells_sl, one_sl, cells_row, one_row, cells_fn, one_fn, cells_nilf, one_nilf, cells_nilm, one_nilm, cells_mp, one_mp, cells_mpr, one_mpr, cells_ag, anilck, afieldAddr, aindex, aindexAddr, alen, afill, afillR, aminmax, aminmax.aminmaxI, isNeq, sdl, kin, acall, ares, ares1, arows, aappend, aslice, asliceS, asliceR, aslice0, abnd, List.set_cons_succ, List.set_cons_zero, List.getD_cons_succ, List.getD_cons_zero, List.getElem?_cons_succ, List.getElem?_cons_zero, List.map_cons, List.map_nil, List.cons_append, List.nil_append, List.append_nil, List.length_cons, List.length_nil, List.take_succ_cons, List.take_zero, List.drop_succ_cons, List.drop_zero, List.all_cons, List.all_nil, List.replicate, Nat.reduceAdd, Nat.reduceSub, Nat.reduceMul, Nat.reduceLT, Nat.reduceLeDiff, Nat.reduceEqDiff, Nat.zero_add, Nat.add_zero, Nat.zero_mul, Option.map_some, Option.map_none, Option.bind_some, Option.bind_eq_bind, Option.getD_some, Option.getD_none, Option.isSome_some, Option.isSome_none, Option.toList, if_true, if_false, and_self, and_true, true_and, and_false, false_and, Prod.mk.injEq, Bool.false_eq_true, Bool.true_eq_false, beq_self_eq_true, Bool.not_true, Bool.not_false, Bool.and_self, Bool.and_true, Bool.true_and, decide_true, decide_false, beq_true, beq_false, Bool.not_not, reduceCtorEq, Nat.le_refl, Int.reduceNeg, reduceIte, Nat.reduceBEq, Int.reduceBEq, Int.reduceLT, Int.reduceLE, Int.reduceToNat, decide_eq_true_eq, not_false_eq_true, not_true_eq_false, ne_eq, eT_nil, eT_cells, eT_one] <;> rfl)); refine fz_res ?_ (.i _ _)
      simp [tup, T.ht]
theorem p_size (t : T) : APure Try.prog n_tree_node_int_size [eT t] (.i .i64 (t.sz : Nat)) := by
  refine apure_of h_tree_node_int_size ?_
  simp only [c_tree_node_int_size, List.length_cons, List.length_nil, List.cons_append, List.nil_append, Nat.reduceAdd, Nat.reduceSub, List.reduceReplicate]
  cases t
  all_goals
    (have hE := noX; repeat' (first
    | refine awp_seq ?_
    | (refine awp_reg fun nv => ?_)
    | (refine awp_regd mix fun nv => ?_)
    | ((first | refine aops_nil ?_ | refine adr_nil (by rfl) ?_ | refine awp_skip ?_ | refine awp_exit ?_ | refine awp_ret ?_); try simp only [thenQ, blockQ, if_true, if_false, Nat.reduceEqDiff, eq_self, reduceCtorEq, reduceIte])
    | ((first | apply aops_one 0 | apply adr_one 0); (· exact nT3_1 hE))
    | refine awp_block ?_
    | (apply awp_condt; (· exact nT3_1 hE))
    | (apply awp_condf; (· exact nT3_1 hE))
    | (apply awp_cond; (· exact nT3_1 hE); all_goals intro hc)
    | ((first | apply aops_gsplit | apply adr_gsplit); (· rfl); (· exact nT3_1 hE); all_goals (intro hg; rw [hg])))); all_goals clear hE
    all_goals
      (apply awp_end [] (by first | exact .inl rfl | exact .inr rfl); · (simp only [aone, aoneT, gval, astep, aev, val, abin, abinI, abinS, aun, aeqn, aeqL, aeq1, put, upds, sset, sget, aload, astore, aobj, acut, cells_b, one_b, cells_i, one_i, cells_s, one_s, cells_nilp, one_nilp, cells_ref, one_ref, cells_ptr, one_ptr, cells_esl, one_esl, cells_sl, one_sl, cells_row, one_row, cells_fn, one_fn, cells_nilf, one_nilf, cells_nilm, one_nilm, cells_mp, one_mp, cells_mpr, one_mpr, cells_ag, anilck, afieldAddr, aindex, aindexAddr, alen, afill, afillR, aminmax, aminmax.aminmaxI, isNeq, sdl, kin, acall, ares, ares1, arows, aappend, aslice, asliceS, asliceR, aslice0, abnd, List.set_cons_succ, List.set_cons_zero, List.getD_cons_succ, List.getD_cons_zero, List.getElem?_cons_succ, List.getElem?_cons_zero, List.map_cons, List.map_nil, List.cons_append, List.nil_append, List.append_nil, List.length_cons, List.length_nil, List.take_succ_cons, List.take_zero, List.drop_succ_cons, List.drop_zero, List.all_cons, List.all_nil, List.replicate, Nat.reduceAdd, Nat.reduceSub, Nat.reduceMul, Nat.reduceLT, Nat.reduceLeDiff, Nat.reduceEqDiff, Nat.zero_add, Nat.add_zero, Nat.zero_mul, Option.map_some, Option.map_none, Option.bind_some, Option.bind_eq_bind, Option.getD_some, Option.getD_none, Option.isSome_some, Option.isSome_none, Option.toList, if_true, if_false, and_self, and_true, true_and, and_false, false_and, Prod.mk.injEq, Bool.false_eq_true, Bool.true_eq_false, beq_self_eq_true, Bool.not_true, Bool.not_false, Bool.and_self, Bool.and_true, Bool.true_and, decide_true, decide_false, beq_true, beq_false, Bool.not_not, reduceCtorEq, Nat.le_refl, Int.reduceNeg, reduceIte, Nat.reduceBEq, Int.reduceBEq, Int.reduceLT, Int.reduceLE, Int.reduceToNat, decide_eq_true_eq, not_false_eq_true, not_true_eq_false, ne_eq, eT_nil, eT_cells, eT_one] <;> rfl)); refine fz_res ?_ (.i _ _)
      simp [tup, T.sz]
theorem p_made (k v : Int) (l r : T) (hb : l.sz + r.sz < 4611686018427387904) : APure Try.prog n_tree_made_int [eT l, .ag [.i .u64 k, .i .i64 v], eT r] (eT (.node k v l r)) := by
  have hl := l.ht_le
  have hr := r.ht_le
  have hm : (if (r.ht : Int) > (l.ht : Int) then (r.ht : Int) else (l.ht : Int)) = ((max l.ht r.ht : Nat) : Int) := by split <;> omega
  have hw1 : IntKind.wrap .i64 (1 + ((max l.ht r.ht : Nat) : Int)) = ((1 + max l.ht r.ht : Nat) : Int) := by rw [wrap64 (by omega) (by omega)]; omega
  have hw2 : IntKind.wrap .i64 (1 + ((l.sz : Nat) : Int)) = ((1 + l.sz : Nat) : Int) := by rw [wrap64 (by omega) (by omega)]; omega
  have hw3 : IntKind.wrap .i64 (((1 + l.sz : Nat) : Int) + ((r.sz : Nat) : Int)) = ((1 + l.sz + r.sz : Nat) : Int) := by rw [wrap64 (by omega) (by omega)]; omega
  refine apure_of h_tree_made_int ?_
  simp only [c_tree_made_int, List.length_cons, List.length_nil, List.cons_append, List.nil_append, Nat.reduceAdd, Nat.reduceSub, List.reduceReplicate]
  (have hE := And.intro @hm (And.intro @hw1 (And.intro @hw2 (And.intro @hw3 noX))); repeat' (first
    | refine awp_seq ?_
    | (refine awp_reg fun nv => ?_)
    | (refine awp_regd mix fun nv => ?_)
    | ((first | refine aops_nil ?_ | refine adr_nil (by rfl) ?_ | refine awp_skip ?_ | refine awp_exit ?_ | refine awp_ret ?_); try simp only [thenQ, blockQ, if_true, if_false, Nat.reduceEqDiff, eq_self, reduceCtorEq, reduceIte])
    | ((first | apply aops_one 0 | apply adr_one 0); (· exact nT3_0 hE))
    | ((first | apply aops_call (hlf := h_tree_node_int_high) | apply adr_call (hlf := h_tree_node_int_high)); (· rfl); (· exact nT3_0 hE); (· exact pT3_); (· exact (p_high _)); (· exact nput))
    | ((first | apply aops_call (hlf := h_tree_node_int_size) | apply adr_call (hlf := h_tree_node_int_size)); (· rfl); (· exact nT3_0 hE); (· exact pT3_); (· exact (p_size _)); (· exact nput))
    | refine awp_block ?_
    | (apply awp_condt; (· exact nT3_0 hE))
    | (apply awp_condf; (· exact nT3_0 hE))
    | (apply awp_cond; (· exact nT3_0 hE); all_goals intro hc)
    | ((first | apply aops_gsplit | apply adr_gsplit); (· rfl); (· exact nT3_0 hE); all_goals (intro hg; rw [hg])))); all_goals clear hE
  all_goals
    (apply awp_end [(0, 23)] (by first | exact .inl rfl | exact .inr rfl); · (simp only [aone, aoneT, gval, astep, aev, val, abin, abinI, abinS, aun, aeqn, aeqL, aeq1, put, upds, sset, sget, aload, astore, aobj, acut, cells_b, one_b, cells_i, one_i, cells_s, one_s, cells_nilp, one_nilp, cells_ref, one_ref, cells_ptr, one_ptr, cells_esl, one_esl, cells_sl, one_sl, cells_row, one_row, cells_fn, one_fn, cells_nilf, one_nilf, cells_nilm, one_nilm, cells_mp, one_mp, cells_mpr, one_mpr, cells_ag, anilck, afieldAddr, aindex, aindexAddr, alen, afill, afillR, aminmax, aminmax.aminmaxI, isNeq, sdl, kin, acall, ares, ares1, arows, aappend, aslice, asliceS, asliceR, aslice0, abnd, List.set_cons_succ, List.set_cons_zero, List.getD_cons_succ, List.getD_cons_zero, List.getElem?_cons_succ, List.getElem?_cons_zero, List.map_cons, List.map_nil, List.cons_append, List.nil_append, List.append_nil, List.length_cons, List.length_nil, List.take_succ_cons, List.take_zero, List.drop_succ_cons, List.drop_zero, List.all_cons, List.all_nil, List.replicate, Nat.reduceAdd, Nat.reduceSub, Nat.reduceMul, Nat.reduceLT, Nat.reduceLeDiff, Nat.reduceEqDiff, Nat.zero_add, Nat.add_zero, Nat.zero_mul, Option.map_some, Option.map_none, Option.bind_some, Option.bind_eq_bind, Option.getD_some, Option.getD_none, Option.isSome_some, Option.isSome_none, Option.toList, if_true, if_false, and_self, and_true, true_and, and_false, false_and, Prod.mk.injEq, Bool.false_eq_true, Bool.true_eq_false, beq_self_eq_true, Bool.not_true, Bool.not_false, Bool.and_self, Bool.and_true, Bool.true_and, decide_true, decide_false, beq_true, beq_false, Bool.not_not, reduceCtorEq, Nat.le_refl, Int.reduceNeg, reduceIte, Nat.reduceBEq, Int.reduceBEq, Int.reduceLT, Int.reduceLE, Int.reduceToNat, decide_eq_true_eq, not_false_eq_true, not_true_eq_false, ne_eq, eT_nil, eT_cells, eT_one] <;> rfl))
    rw [eT_node]
    refine fz_ptr (by simp) (by simp only [aone, aoneT, gval, astep, aev, val, abin, abinI, abinS, aun, aeqn, aeqL, aeq1, put, upds, sset, sget, aload, astore, aobj, acut, cells_b, one_b, cells_i, one_i, cells_s, one_s, cells_nilp, one_nilp, cells_ref, one_ref, cells_ptr, one_ptr, cells_esl, one_esl, cells_sl, one_sl, cells_row, one_row, cells_fn, one_fn, cells_nilf, one_nilf, cells_nilm, one_nilm, cells_mp, one_mp, cells_mpr, one_mpr, cells_ag, anilck, afieldAddr, aindex, aindexAddr, alen, afill, afillR, aminmax, aminmax.aminmaxI, isNeq, sdl, kin, acall, ares, ares1, arows, aappend, aslice, asliceS, asliceR, aslice0, abnd, List.set_cons_succ, List.set_cons_zero, List.getD_cons_succ, List.getD_cons_zero, List.getElem?_cons_succ, List.getElem?_cons_zero, List.map_cons, List.map_nil, List.cons_append, List.nil_append, List.append_nil, List.length_cons, List.length_nil, List.take_succ_cons, List.take_zero, List.drop_succ_cons, List.drop_zero, List.all_cons, List.all_nil, List.replicate, Nat.reduceAdd, Nat.reduceSub, Nat.reduceMul, Nat.reduceLT, Nat.reduceLeDiff, Nat.reduceEqDiff, Nat.zero_add, Nat.add_zero, Nat.zero_mul, Option.map_some, Option.map_none, Option.bind_some, Option.bind_eq_bind, Option.getD_some, Option.getD_none, Option.isSome_some, Option.isSome_none, Option.toList, if_true, if_false, and_self, and_true, true_and, and_false, false_and, Prod.mk.injEq, Bool.false_eq_true, Bool.true_eq_false, beq_self_eq_true, Bool.not_true, Bool.not_false, Bool.and_self, Bool.and_true, Bool.true_and, decide_true, decide_false, beq_true, beq_false, Bool.not_not, reduceCtorEq, Nat.le_refl, Int.reduceNeg, reduceIte, Nat.reduceBEq, Int.reduceBEq, Int.reduceLT, Int.reduceLE, Int.reduceToNat, decide_eq_true_eq, not_false_eq_true, not_true_eq_false, ne_eq, eT_nil, eT_cells, eT_one] <;> rfl) (by rfl) ?_
    refine ⟨?_, ?_, ?_, ?_, ?_, ?_, trivial⟩
    all_goals exact fz_eq' rfl (by first | exact .i _ _ | exact eT_Pure _)
def evenS (l : T) (k v : Int) (r : T) : T :=
  if l.ht > r.ht + 1 then
    match l with
    | .nil => .nil
    | .node lk lv ll lr =>
      if ll.ht ≥ lr.ht then .node lk lv ll (.node k v lr r)
      else match lr with
        | .nil => .nil
        | .node mk mv ml mr => .node mk mv (.node lk lv ll ml) (.node k v mr r)
  else if r.ht > l.ht + 1 then
    match r with
    | .nil => .nil
    | .node rk rv rl rr =>
      if rr.ht ≥ rl.ht then .node rk rv (.node k v l rl) rr
      else match rl with
        | .nil => .nil
        | .node mk mv ml mr => .node mk mv (.node k v l ml) (.node rk rv mr rr)
  else .node k v l r
set_option maxHeartbeats 4000000 in
theorem p_even (k v : Int) (l r : T) (hb : l.sz + r.sz < 1152921504606846976) : APure Try.prog n_tree_even_int [eT l, .ag [.i .u64 k, .i .i64 v], eT r] (eT (evenS l k v r)) := by
  have hl := l.ht_le
  have hr := r.ht_le
  have hw1 : IntKind.wrap .i64 ((r.ht : Int) + 1) = ((r.ht + 1 : Nat) : Int) := by rw [wrap64 (by omega) (by omega)]; omega
  have hw2 : IntKind.wrap .i64 ((l.ht : Int) + 1) = ((l.ht + 1 : Nat) : Int) := by rw [wrap64 (by omega) (by omega)]; omega
  refine apure_of h_tree_even_int ?_
  simp only [c_tree_even_int, List.length_cons, List.length_nil, List.cons_append, List.nil_append, Nat.reduceAdd, Nat.reduceSub, List.reduceReplicate]
  by_cases h1 : l.ht > r.ht + 1
  · have h1' : (l.ht : Int) > ((r.ht + 1 : Nat) : Int) := by omega
    cases l with
    | nil => simp [T.ht] at h1
    | node lk lv ll lr =>
      have hn := eT_node lk lv ll lr
      simp only [T.sz] at hb
      by_cases h2 : ll.ht ≥ lr.ht
      · have h2' : (ll.ht : Int) ≥ (lr.ht : Int) := by omega
        have he : evenS (.node lk lv ll lr) k v r = .node lk lv ll (.node k v lr r) := by unfold evenS; rw [if_pos h1]; simp only []; rw [if_pos h2]
        rw [he]
        rw [T.ht] at h1' hw2
        (have hE := And.intro @hn (And.intro @hw1 (And.intro @hw2 (And.intro @h1' (And.intro @h2' noX)))); repeat' (first
    | refine awp_seq ?_
    | (refine awp_reg fun nv => ?_)
    | (refine awp_regd mix fun nv => ?_)
    | ((first | refine aops_nil ?_ | refine adr_nil (by rfl) ?_ | refine awp_skip ?_ | refine awp_exit ?_ | refine awp_ret ?_); try simp only [thenQ, blockQ, if_true, if_false, Nat.reduceEqDiff, eq_self, reduceCtorEq, reduceIte])
    | ((first | apply aops_one 0 | apply adr_one 0); (· exact nT3_0 hE))
    | ((first | apply aops_call (hlf := h_tree_node_int_high) | apply adr_call (hlf := h_tree_node_int_high)); (· rfl); (· exact nT3_0 hE); (· exact pT3_); (· exact (p_high _)); (· exact nput))
    | ((first | apply aops_call (hlf := h_tree_node_int_high) | apply adr_call (hlf := h_tree_node_int_high)); (· rfl); (· exact nT3_0 hE); (· exact pT3_); (· exact (p_highN _ _ _ _ _ _)); (· exact nput))
    | ((first | apply aops_call (hlf := h_tree_made_int) | apply adr_call (hlf := h_tree_made_int)); (· rfl); (· exact nT3_0 hE); (· exact pT3_); (· exact (p_made _ _ _ _ (by (try simp only [T.sz]); omega))); (· exact nput))
    | refine awp_block ?_
    | (apply awp_condt; (· exact nT3_0 hE))
    | (apply awp_condf; (· exact nT3_0 hE))
    | (apply awp_cond; (· exact nT3_0 hE); all_goals intro hc)
    | ((first | apply aops_gsplit | apply adr_gsplit); (· rfl); (· exact nT3_0 hE); all_goals (intro hg; rw [hg])))); all_goals clear hE
        all_goals
          (apply awp_end [] (by first | exact .inl rfl | exact .inr rfl); · (simp only [aone, aoneT, gval, astep, aev, val, abin, abinI, abinS, aun, aeqn, aeqL, aeq1, put, upds, sset, sget, aload, astore, aobj, acut, cells_b, one_b, cells_i, one_i, cells_s, one_s, cells_nilp, one_nilp, cells_ref, one_ref, cells_ptr, one_ptr, cells_esl, one_esl, cells_sl, one_sl, cells_row, one_row, cells_fn, one_fn, cells_nilf, one_nilf, cells_nilm, one_nilm, cells_mp, one_mp, cells_mpr, one_mpr, cells_ag, anilck, afieldAddr, aindex, aindexAddr, alen, afill, afillR, aminmax, aminmax.aminmaxI, isNeq, sdl, kin, acall, ares, ares1, arows, aappend, aslice, asliceS, asliceR, aslice0, abnd, List.set_cons_succ, List.set_cons_zero, List.getD_cons_succ, List.getD_cons_zero, List.getElem?_cons_succ, List.getElem?_cons_zero, List.map_cons, List.map_nil, List.cons_append, List.nil_append, List.append_nil, List.length_cons, List.length_nil, List.take_succ_cons, List.take_zero, List.drop_succ_cons, List.drop_zero, List.all_cons, List.all_nil, List.replicate, Nat.reduceAdd, Nat.reduceSub, Nat.reduceMul, Nat.reduceLT, Nat.reduceLeDiff, Nat.reduceEqDiff, Nat.zero_add, Nat.add_zero, Nat.zero_mul, Option.map_some, Option.map_none, Option.bind_some, Option.bind_eq_bind, Option.getD_some, Option.getD_none, Option.isSome_some, Option.isSome_none, Option.toList, if_true, if_false, and_self, and_true, true_and, and_false, false_and, Prod.mk.injEq, Bool.false_eq_true, Bool.true_eq_false, beq_self_eq_true, Bool.not_true, Bool.not_false, Bool.and_self, Bool.and_true, Bool.true_and, decide_true, decide_false, beq_true, beq_false, Bool.not_not, reduceCtorEq, Nat.le_refl, Int.reduceNeg, reduceIte, Nat.reduceBEq, Int.reduceBEq, Int.reduceLT, Int.reduceLE, Int.reduceToNat, decide_eq_true_eq, not_false_eq_true, not_true_eq_false, ne_eq, eT_nil, eT_cells, eT_one] <;> rfl))
          exact fz_eq' rfl (eT_Pure _)
      · have h2' : ¬ (ll.ht : Int) ≥ (lr.ht : Int) := by omega
        cases lr with
        | nil => simp [T.ht] at h2
        | node mk mv ml mr =>
          have hm := eT_node mk mv ml mr
          have he : evenS (.node lk lv ll (.node mk mv ml mr)) k v r = .node mk mv (.node lk lv ll ml) (.node k v mr r) := by unfold evenS; rw [if_pos h1]; simp only []; rw [if_neg h2]
          rw [he]
          rw [T.ht] at h1' hw2
          have h2'' : ¬ (ll.ht : Int) ≥ ((1 + max ml.ht mr.ht : Nat) : Int) := h2'
          simp only [T.sz] at hb
          (have hE := And.intro @hn (And.intro @hm (And.intro @hw1 (And.intro @hw2 (And.intro @h1' (And.intro @h2'' noX))))); repeat' (first
    | refine awp_seq ?_
    | (refine awp_reg fun nv => ?_)
    | (refine awp_regd mix fun nv => ?_)
    | ((first | refine aops_nil ?_ | refine adr_nil (by rfl) ?_ | refine awp_skip ?_ | refine awp_exit ?_ | refine awp_ret ?_); try simp only [thenQ, blockQ, if_true, if_false, Nat.reduceEqDiff, eq_self, reduceCtorEq, reduceIte])
    | ((first | apply aops_one 0 | apply adr_one 0); (· exact nT3_0 hE))
    | ((first | apply aops_call (hlf := h_tree_node_int_high) | apply adr_call (hlf := h_tree_node_int_high)); (· rfl); (· exact nT3_0 hE); (· exact pT3_); (· exact (p_high _)); (· exact nput))
    | ((first | apply aops_call (hlf := h_tree_node_int_high) | apply adr_call (hlf := h_tree_node_int_high)); (· rfl); (· exact nT3_0 hE); (· exact pT3_); (· exact (p_highN _ _ _ _ _ _)); (· exact nput))
    | ((first | apply aops_call (hlf := h_tree_made_int) | apply adr_call (hlf := h_tree_made_int)); (· rfl); (· exact nT3_0 hE); (· exact pT3_); (· exact (p_made _ _ _ _ (by (try simp only [T.sz]); omega))); (· exact nput))
    | refine awp_block ?_
    | (apply awp_condt; (· exact nT3_0 hE))
    | (apply awp_condf; (· exact nT3_0 hE))
    | (apply awp_cond; (· exact nT3_0 hE); all_goals intro hc)
    | ((first | apply aops_gsplit | apply adr_gsplit); (· rfl); (· exact nT3_0 hE); all_goals (intro hg; rw [hg])))); all_goals clear hE
          all_goals
            (apply awp_end [] (by first | exact .inl rfl | exact .inr rfl); · (simp only [aone, aoneT, gval, astep, aev, val, abin, abinI, abinS, aun, aeqn, aeqL, aeq1, put, upds, sset, sget, aload, astore, aobj, acut, cells_b, one_b, cells_i, one_i, cells_s, one_s, cells_nilp, one_nilp, cells_ref, one_ref, cells_ptr, one_ptr, cells_esl, one_esl, cells_sl, one_sl, cells_row, one_row, cells_fn, one_fn, cells_nilf, one_nilf, cells_nilm, one_nilm, cells_mp, one_mp, cells_mpr, one_mpr, cells_ag, anilck, afieldAddr, aindex, aindexAddr, alen, afill, afillR, aminmax, aminmax.aminmaxI, isNeq, sdl, kin, acall, ares, ares1, arows, aappend, aslice, asliceS, asliceR, aslice0, abnd, List.set_cons_succ, List.set_cons_zero, List.getD_cons_succ, List.getD_cons_zero, List.getElem?_cons_succ, List.getElem?_cons_zero, List.map_cons, List.map_nil, List.cons_append, List.nil_append, List.append_nil, List.length_cons, List.length_nil, List.take_succ_cons, List.take_zero, List.drop_succ_cons, List.drop_zero, List.all_cons, List.all_nil, List.replicate, Nat.reduceAdd, Nat.reduceSub, Nat.reduceMul, Nat.reduceLT, Nat.reduceLeDiff, Nat.reduceEqDiff, Nat.zero_add, Nat.add_zero, Nat.zero_mul, Option.map_some, Option.map_none, Option.bind_some, Option.bind_eq_bind, Option.getD_some, Option.getD_none, Option.isSome_some, Option.isSome_none, Option.toList, if_true, if_false, and_self, and_true, true_and, and_false, false_and, Prod.mk.injEq, Bool.false_eq_true, Bool.true_eq_false, beq_self_eq_true, Bool.not_true, Bool.not_false, Bool.and_self, Bool.and_true, Bool.true_and, decide_true, decide_false, beq_true, beq_false, Bool.not_not, reduceCtorEq, Nat.le_refl, Int.reduceNeg, reduceIte, Nat.reduceBEq, Int.reduceBEq, Int.reduceLT, Int.reduceLE, Int.reduceToNat, decide_eq_true_eq, not_false_eq_true, not_true_eq_false, ne_eq, eT_nil, eT_cells, eT_one] <;> rfl))
            exact fz_eq' rfl (eT_Pure _)
  · have h1' : ¬ (l.ht : Int) > ((r.ht + 1 : Nat) : Int) := by omega
    by_cases h3 : r.ht > l.ht + 1
    · have h3' : (r.ht : Int) > ((l.ht + 1 : Nat) : Int) := by omega
      cases r with
      | nil => simp [T.ht] at h3
      | node rk rv rl rr =>
        have hn := eT_node rk rv rl rr
        simp only [T.sz] at hb
        by_cases h2 : rr.ht ≥ rl.ht
        · have h2' : (rr.ht : Int) ≥ (rl.ht : Int) := by omega
          have he : evenS l k v (.node rk rv rl rr) = .node rk rv (.node k v l rl) rr := by unfold evenS; rw [if_neg h1, if_pos h3]; simp only []; rw [if_pos h2]
          rw [he]
          rw [T.ht] at h1' h3' hw1
          (have hE := And.intro @hn (And.intro @hw1 (And.intro @hw2 (And.intro @h1' (And.intro @h2' (And.intro @h3' noX))))); repeat' (first
    | refine awp_seq ?_
    | (refine awp_reg fun nv => ?_)
    | (refine awp_regd mix fun nv => ?_)
    | ((first | refine aops_nil ?_ | refine adr_nil (by rfl) ?_ | refine awp_skip ?_ | refine awp_exit ?_ | refine awp_ret ?_); try simp only [thenQ, blockQ, if_true, if_false, Nat.reduceEqDiff, eq_self, reduceCtorEq, reduceIte])
    | ((first | apply aops_one 0 | apply adr_one 0); (· exact nT3_0 hE))
    | ((first | apply aops_call (hlf := h_tree_node_int_high) | apply adr_call (hlf := h_tree_node_int_high)); (· rfl); (· exact nT3_0 hE); (· exact pT3_); (· exact (p_high _)); (· exact nput))
    | ((first | apply aops_call (hlf := h_tree_node_int_high) | apply adr_call (hlf := h_tree_node_int_high)); (· rfl); (· exact nT3_0 hE); (· exact pT3_); (· exact (p_highN _ _ _ _ _ _)); (· exact nput))
    | ((first | apply aops_call (hlf := h_tree_made_int) | apply adr_call (hlf := h_tree_made_int)); (· rfl); (· exact nT3_0 hE); (· exact pT3_); (· exact (p_made _ _ _ _ (by (try simp only [T.sz]); omega))); (· exact nput))
    | refine awp_block ?_
    | (apply awp_condt; (· exact nT3_0 hE))
    | (apply awp_condf; (· exact nT3_0 hE))
    | (apply awp_cond; (· exact nT3_0 hE); all_goals intro hc)
    | ((first | apply aops_gsplit | apply adr_gsplit); (· rfl); (· exact nT3_0 hE); all_goals (intro hg; rw [hg])))); all_goals clear hE
          all_goals
            (apply awp_end [] (by first | exact .inl rfl | exact .inr rfl); · (simp only [aone, aoneT, gval, astep, aev, val, abin, abinI, abinS, aun, aeqn, aeqL, aeq1, put, upds, sset, sget, aload, astore, aobj, acut, cells_b, one_b, cells_i, one_i, cells_s, one_s, cells_nilp, one_nilp, cells_ref, one_ref, cells_ptr, one_ptr, cells_esl, one_esl, cells_sl, one_sl, cells_row, one_row, cells_fn, one_fn, cells_nilf, one_nilf, cells_nilm, one_nilm, cells_mp, one_mp, cells_mpr, one_mpr, cells_ag, anilck, afieldAddr, aindex, aindexAddr, alen, afill, afillR, aminmax, aminmax.aminmaxI, isNeq, sdl, kin, acall, ares, ares1, arows, aappend, aslice, asliceS, asliceR, aslice0, abnd, List.set_cons_succ, List.set_cons_zero, List.getD_cons_succ, List.getD_cons_zero, List.getElem?_cons_succ, List.getElem?_cons_zero, List.map_cons, List.map_nil, List.cons_append, List.nil_append, List.append_nil, List.length_cons, List.length_nil, List.take_succ_cons, List.take_zero, List.drop_succ_cons, List.drop_zero, List.all_cons, List.all_nil, List.replicate, Nat.reduceAdd, Nat.reduceSub, Nat.reduceMul, Nat.reduceLT, Nat.reduceLeDiff, Nat.reduceEqDiff, Nat.zero_add, Nat.add_zero, Nat.zero_mul, Option.map_some, Option.map_none, Option.bind_some, Option.bind_eq_bind, Option.getD_some, Option.getD_none, Option.isSome_some, Option.isSome_none, Option.toList, if_true, if_false, and_self, and_true, true_and, and_false, false_and, Prod.mk.injEq, Bool.false_eq_true, Bool.true_eq_false, beq_self_eq_true, Bool.not_true, Bool.not_false, Bool.and_self, Bool.and_true, Bool.true_and, decide_true, decide_false, beq_true, beq_false, Bool.not_not, reduceCtorEq, Nat.le_refl, Int.reduceNeg, reduceIte, Nat.reduceBEq, Int.reduceBEq, Int.reduceLT, Int.reduceLE, Int.reduceToNat, decide_eq_true_eq, not_false_eq_true, not_true_eq_false, ne_eq, eT_nil, eT_cells, eT_one] <;> rfl))
            exact fz_eq' rfl (eT_Pure _)
        · have h2' : ¬ (rr.ht : Int) ≥ (rl.ht : Int) := by omega
          cases rl with
          | nil => simp [T.ht] at h2
          | node mk mv ml mr =>
            have hm := eT_node mk mv ml mr
            have he : evenS l k v (.node rk rv (.node mk mv ml mr) rr) = .node mk mv (.node k v l ml) (.node rk rv mr rr) := by unfold evenS; rw [if_neg h1, if_pos h3]; simp only []; rw [if_neg h2]
            rw [he]
            rw [T.ht] at h1' h3' hw1
            have h2'' : ¬ (rr.ht : Int) ≥ ((1 + max ml.ht mr.ht : Nat) : Int) := h2'
            simp only [T.sz] at hb
            (have hE := And.intro @hn (And.intro @hm (And.intro @hw1 (And.intro @hw2 (And.intro @h1' (And.intro @h2'' (And.intro @h3' noX)))))); repeat' (first
    | refine awp_seq ?_
    | (refine awp_reg fun nv => ?_)
    | (refine awp_regd mix fun nv => ?_)
    | ((first | refine aops_nil ?_ | refine adr_nil (by rfl) ?_ | refine awp_skip ?_ | refine awp_exit ?_ | refine awp_ret ?_); try simp only [thenQ, blockQ, if_true, if_false, Nat.reduceEqDiff, eq_self, reduceCtorEq, reduceIte])
    | ((first | apply aops_one 0 | apply adr_one 0); (· exact nT3_0 hE))
    | ((first | apply aops_call (hlf := h_tree_node_int_high) | apply adr_call (hlf := h_tree_node_int_high)); (· rfl); (· exact nT3_0 hE); (· exact pT3_); (· exact (p_high _)); (· exact nput))
    | ((first | apply aops_call (hlf := h_tree_node_int_high) | apply adr_call (hlf := h_tree_node_int_high)); (· rfl); (· exact nT3_0 hE); (· exact pT3_); (· exact (p_highN _ _ _ _ _ _)); (· exact nput))
    | ((first | apply aops_call (hlf := h_tree_made_int) | apply adr_call (hlf := h_tree_made_int)); (· rfl); (· exact nT3_0 hE); (· exact pT3_); (· exact (p_made _ _ _ _ (by (try simp only [T.sz]); omega))); (· exact nput))
    | refine awp_block ?_
    | (apply awp_condt; (· exact nT3_0 hE))
    | (apply awp_condf; (· exact nT3_0 hE))
    | (apply awp_cond; (· exact nT3_0 hE); all_goals intro hc)
    | ((first | apply aops_gsplit | apply adr_gsplit); (· rfl); (· exact nT3_0 hE); all_goals (intro hg; rw [hg])))); all_goals clear hE
            all_goals
              (apply awp_end [] (by first | exact .inl rfl | exact .inr rfl); · (simp only [aone, aoneT, gval, astep, aev, val, abin, abinI, abinS, aun, aeqn, aeqL, aeq1, put, upds, sset, sget, aload, astore, aobj, acut, cells_b, one_b, cells_i, one_i, cells_s, one_s, cells_nilp, one_nilp, cells_ref, one_ref, cells_ptr, one_ptr, cells_esl, one_esl, cells_sl, one_sl, cells_row, one_row, cells_fn, one_fn, cells_nilf, one_nilf, cells_nilm, one_nilm, cells_mp, one_mp, cells_mpr, one_mpr, cells_ag, anilck, afieldAddr, aindex, aindexAddr, alen, afill, afillR, aminmax, aminmax.aminmaxI, isNeq, sdl, kin, acall, ares, ares1, arows, aappend, aslice, asliceS, asliceR, aslice0, abnd, List.set_cons_succ, List.set_cons_zero, List.getD_cons_succ, List.getD_cons_zero, List.getElem?_cons_succ, List.getElem?_cons_zero, List.map_cons, List.map_nil, List.cons_append, List.nil_append, List.append_nil, List.length_cons, List.length_nil, List.take_succ_cons, List.take_zero, List.drop_succ_cons, List.drop_zero, List.all_cons, List.all_nil, List.replicate, Nat.reduceAdd, Nat.reduceSub, Nat.reduceMul, Nat.reduceLT, Nat.reduceLeDiff, Nat.reduceEqDiff, Nat.zero_add, Nat.add_zero, Nat.zero_mul, Option.map_some, Option.map_none, Option.bind_some, Option.bind_eq_bind, Option.getD_some, Option.getD_none, Option.isSome_some, Option.isSome_none, Option.toList, if_true, if_false, and_self, and_true, true_and, and_false, false_and, Prod.mk.injEq, Bool.false_eq_true, Bool.true_eq_false, beq_self_eq_true, Bool.not_true, Bool.not_false, Bool.and_self, Bool.and_true, Bool.true_and, decide_true, decide_false, beq_true, beq_false, Bool.not_not, reduceCtorEq, Nat.le_refl, Int.reduceNeg, reduceIte, Nat.reduceBEq, Int.reduceBEq, Int.reduceLT, Int.reduceLE, Int.reduceToNat, decide_eq_true_eq, not_false_eq_true, not_true_eq_false, ne_eq, eT_nil, eT_cells, eT_one] <;> rfl))
              exact fz_eq' rfl (eT_Pure _)
    · have h3' : ¬ (r.ht : Int) > ((l.ht + 1 : Nat) : Int) := by omega
      have he : evenS l k v r = .node k v l r := by unfold evenS; rw [if_neg h1, if_neg h3]
      rw [he]
      (have hE := And.intro @hw1 (And.intro @hw2 (And.intro @h1' (And.intro @h3' noX))); repeat' (first
    | refine awp_seq ?_
    | (refine awp_reg fun nv => ?_)
    | (refine awp_regd mix fun nv => ?_)
    | ((first | refine aops_nil ?_ | refine adr_nil (by rfl) ?_ | refine awp_skip ?_ | refine awp_exit ?_ | refine awp_ret ?_); try simp only [thenQ, blockQ, if_true, if_false, Nat.reduceEqDiff, eq_self, reduceCtorEq, reduceIte])
    | ((first | apply aops_one 0 | apply adr_one 0); (· exact nT3_0 hE))
    | ((first | apply aops_call (hlf := h_tree_node_int_high) | apply adr_call (hlf := h_tree_node_int_high)); (· rfl); (· exact nT3_0 hE); (· exact pT3_); (· exact (p_high _)); (· exact nput))
    | ((first | apply aops_call (hlf := h_tree_node_int_high) | apply adr_call (hlf := h_tree_node_int_high)); (· rfl); (· exact nT3_0 hE); (· exact pT3_); (· exact (p_highN _ _ _ _ _ _)); (· exact nput))
    | ((first | apply aops_call (hlf := h_tree_made_int) | apply adr_call (hlf := h_tree_made_int)); (· rfl); (· exact nT3_0 hE); (· exact pT3_); (· exact (p_made _ _ _ _ (by (try simp only [T.sz]); omega))); (· exact nput))
    | refine awp_block ?_
    | (apply awp_condt; (· exact nT3_0 hE))
    | (apply awp_condf; (· exact nT3_0 hE))
    | (apply awp_cond; (· exact nT3_0 hE); all_goals intro hc)
    | ((first | apply aops_gsplit | apply adr_gsplit); (· rfl); (· exact nT3_0 hE); all_goals (intro hg; rw [hg])))); all_goals clear hE
      all_goals
        (apply awp_end [] (by first | exact .inl rfl | exact .inr rfl); · (simp only [aone, aoneT, gval, astep, aev, val, abin, abinI, abinS, aun, aeqn, aeqL, aeq1, put, upds, sset, sget, aload, astore, aobj, acut, cells_b, one_b, cells_i, one_i, cells_s, one_s, cells_nilp, one_nilp, cells_ref, one_ref, cells_ptr, one_ptr, cells_esl, one_esl, cells_sl, one_sl, cells_row, one_row, cells_fn, one_fn, cells_nilf, one_nilf, cells_nilm, one_nilm, cells_mp, one_mp, cells_mpr, one_mpr, cells_ag, anilck, afieldAddr, aindex, aindexAddr, alen, afill, afillR, aminmax, aminmax.aminmaxI, isNeq, sdl, kin, acall, ares, ares1, arows, aappend, aslice, asliceS, asliceR, aslice0, abnd, List.set_cons_succ, List.set_cons_zero, List.getD_cons_succ, List.getD_cons_zero, List.getElem?_cons_succ, List.getElem?_cons_zero, List.map_cons, List.map_nil, List.cons_append, List.nil_append, List.append_nil, List.length_cons, List.length_nil, List.take_succ_cons, List.take_zero, List.drop_succ_cons, List.drop_zero, List.all_cons, List.all_nil, List.replicate, Nat.reduceAdd, Nat.reduceSub, Nat.reduceMul, Nat.reduceLT, Nat.reduceLeDiff, Nat.reduceEqDiff, Nat.zero_add, Nat.add_zero, Nat.zero_mul, Option.map_some, Option.map_none, Option.bind_some, Option.bind_eq_bind, Option.getD_some, Option.getD_none, Option.isSome_some, Option.isSome_none, Option.toList, if_true, if_false, and_self, and_true, true_and, and_false, false_and, Prod.mk.injEq, Bool.false_eq_true, Bool.true_eq_false, beq_self_eq_true, Bool.not_true, Bool.not_false, Bool.and_self, Bool.and_true, Bool.true_and, decide_true, decide_false, beq_true, beq_false, Bool.not_not, reduceCtorEq, Nat.le_refl, Int.reduceNeg, reduceIte, Nat.reduceBEq, Int.reduceBEq, Int.reduceLT, Int.reduceLE, Int.reduceToNat, decide_eq_true_eq, not_false_eq_true, not_true_eq_false, ne_eq, eT_nil, eT_cells, eT_one] <;> rfl))
        exact fz_eq' rfl (eT_Pure _)
end Go.Proofs.Ytibkakodokbobaa
