import Derived.Test.YtibkakodokbobaaT8
namespace Go.Proofs.Ytibkakodokbobaa
open Go.Am
set_option maxRecDepth 100000
set_option linter.unusedSimpArgs false
set_option linter.unusedVariables false
theorem nT9_0 {E A : Prop} (e : E) (h : E → A := by (intro hE; simp only [aone, aoneT, gval, astep, aev, val, abin, abinI, abinS, aun, aeqn, aeqL, aeq1, put, upds, sset, sget, aload, astore, aobj, acut, cells_b, one_b, cells_i, one_i, cells_s, one_s, cells_nilp, one_nilp, cells_ref, one_ref, cells_ptr, one_ptr, cells_esl, one_esl, cells_sl, one_sl, cells_row, one_row, cells_fn, one_fn, cells_nilf, one_nilf, cells_nilm, one_nilm, cells_mp, one_mp, cells_mpr, one_mpr, cells_ag, anilck, afieldAddr, aindex, aindexAddr, alen, afill, afillR, aminmax, aminmax.aminmaxI, isNeq, sdl, kin, acall, ares, ares1, arows, aappend, aslice, asliceS, asliceR, aslice0, abnd, List.set_cons_succ, List.set_cons_zero, List.getD_cons_succ, List.getD_cons_zero, List.getElem?_cons_succ, List.getElem?_cons_zero, List.map_cons, List.map_nil, List.cons_append, List.nil_append, List.append_nil, List.length_cons, List.length_nil, List.take_succ_cons, List.take_zero, List.drop_succ_cons, List.drop_zero, List.all_cons, List.all_nil, List.replicate, Nat.reduceAdd, Nat.reduceSub, Nat.reduceMul, Nat.reduceLT, Nat.reduceLeDiff, Nat.reduceEqDiff, Nat.zero_add, Nat.add_zero, Nat.zero_mul, Option.map_some, Option.map_none, Option.bind_some, Option.bind_eq_bind, Option.getD_some, Option.getD_none, Option.isSome_some, Option.isSome_none, Option.toList, if_true, if_false, and_self, and_true, true_and, and_false, false_and, Prod.mk.injEq, Bool.false_eq_true, Bool.true_eq_false, beq_self_eq_true, Bool.not_true, Bool.not_false, Bool.and_self, Bool.and_true, Bool.true_and, decide_true, decide_false, beq_true, beq_false, Bool.not_not, reduceCtorEq, Nat.le_refl, Int.reduceNeg, reduceIte, Nat.reduceBEq, Int.reduceBEq, Int.reduceLT, Int.reduceLE, Int.reduceToNat, decide_eq_true_eq, not_false_eq_true, not_true_eq_false, ne_eq, eT_cells, eT_nil, eT_one, hE] <;> rfl)) : A := h e
theorem nT9_1 {E A : Prop} (e : E) (h : E → A := by (intro hE; simp only [aone, aoneT, gval, astep, aev, val, abin, abinI, abinS, aun, aeqn, aeqL, aeq1, put, upds, sset, sget, aload, astore, aobj, acut, cells_b, one_b, cells_i, one_i, cells_s, one_s, cells_nilp, one_nilp, cells_ref, one_ref, cells_ptr, one_ptr, cells_esl, one_esl, cells_sl, one_sl, cells_row, one_row, cells_fn, one_fn, cells_nilf, one_nilf, cells_nilm, one_nilm, cells_mp, one_mp, cells_mpr, one_mpr, cells_ag, anilck, afieldAddr, aindex, aindexAddr, alen, afill, afillR, aminmax, aminmax.aminmaxI, isNeq, sdl, kin, acall, ares, ares1, arows, aappend, aslice, asliceS, asliceR, aslice0, abnd, List.set_cons_succ, List.set_cons_zero, List.getD_cons_succ, List.getD_cons_zero, List.getElem?_cons_succ, List.getElem?_cons_zero, List.map_cons, List.map_nil, List.cons_append, List.nil_append, List.append_nil, List.length_cons, List.length_nil, List.take_succ_cons, List.take_zero, List.drop_succ_cons, List.drop_zero, List.all_cons, List.all_nil, List.replicate, Nat.reduceAdd, Nat.reduceSub, Nat.reduceMul, Nat.reduceLT, Nat.reduceLeDiff, Nat.reduceEqDiff, Nat.zero_add, Nat.add_zero, Nat.zero_mul, Option.map_some, Option.map_none, Option.bind_some, Option.bind_eq_bind, Option.getD_some, Option.getD_none, Option.isSome_some, Option.isSome_none, Option.toList, if_true, if_false, and_self, and_true, true_and, and_false, false_and, Prod.mk.injEq, Bool.false_eq_true, Bool.true_eq_false, beq_self_eq_true, Bool.not_true, Bool.not_false, Bool.and_self, Bool.and_true, Bool.true_and, decide_true, decide_false, beq_true, beq_false, Bool.not_not, reduceCtorEq, Nat.le_refl, Int.reduceNeg, reduceIte, Nat.reduceBEq, Int.reduceBEq, Int.reduceLT, Int.reduceLE, Int.reduceToNat, decide_eq_true_eq, not_false_eq_true, not_true_eq_false, ne_eq, eLeast, eT_cells, eT_nil, eT_one, hE] <;> rfl)) : A := h e
theorem pT9_ {A : Prop} (h : A := by (simp only [List.forall_mem_cons, List.forall_mem_nil, List.not_mem_nil, false_imp_iff, implies_true, List.forall_mem_map, pure_b, pure_i, pure_s, pure_nilp, pure_nilf, pure_esl, pure_ref, pure_sl, pure_ag, pure_tu, pure_fn, and_self, and_true, true_and, eT_pure]; done)) : A := h
def leastS : T → Int × Int × T
  | .nil => (0, 0, .nil)
  | .node k v .nil r => (k, v, r)
  | .node k v (.node a b c d) r => ((leastS (.node a b c d)).1, (leastS (.node a b c d)).2.1, evenS (leastS (.node a b c d)).2.2 k v r)
theorem leastS_sz : ∀ t : T, (leastS t).2.2.sz ≤ t.sz
  | .nil => Nat.le_refl _
  | .node k v .nil r => by simp only [leastS, T.sz]; omega
  | .node k v (.node a b c d) r => by
    have h := leastS_sz (.node a b c d)
    have h2 := evenS_sz (leastS (.node a b c d)).2.2 k v r
    simp only [leastS, T.sz] at *; omega
def eLeast (p : Int × Int × T) : AV := .tu [.ag [.i .u64 p.1, .i .i64 p.2.1], eT p.2.2]
set_option maxHeartbeats 4000000 in
theorem p_least (k v : Int) (l r : T) : (T.node k v l r).sz < 576460752303423488 → APure Try.prog n_tree_node_int_least [eT (.node k v l r)] (eLeast (leastS (.node k v l r))) := by
  induction l generalizing k v r with
  | nil =>
    intro hb
    have hn := eT_node k v .nil r
    refine apure_of h_tree_node_int_least ?_
    simp only [c_tree_node_int_least, List.length_cons, List.length_nil, List.cons_append, List.nil_append, Nat.reduceAdd, Nat.reduceSub, List.reduceReplicate]
    (have hE := And.intro @hn noX; repeat' (first
    | refine awp_seq ?_
    | (refine awp_reg fun nv => ?_)
    | (refine awp_regd mix fun nv => ?_)
    | ((first | refine aops_nil ?_ | refine adr_nil (by rfl) ?_ | refine awp_skip ?_ | refine awp_exit ?_ | refine awp_ret ?_); try simp only [thenQ, blockQ, if_true, if_false, Nat.reduceEqDiff, eq_self, reduceCtorEq, reduceIte])
    | ((first | apply aops_one 0 | apply adr_one 0); (· exact nT9_0 hE))
    | refine awp_block ?_
    | (apply awp_condt; (· exact nT9_0 hE))
    | (apply awp_condf; (· exact nT9_0 hE))
    | (apply awp_cond; (· exact nT9_0 hE); all_goals intro hc)
    | ((first | apply aops_gsplit | apply adr_gsplit); (· rfl); (· exact nT9_0 hE); all_goals (intro hg; rw [hg])))); all_goals clear hE
    all_goals
      (apply awp_end [(0, 2)] (by first | exact .inl rfl | exact .inr rfl); · (simp only [aone, aoneT, gval, astep, aev, val, abin, abinI, abinS, aun, aeqn, aeqL, aeq1, put, upds, sset, sget, aload, astore, aobj, acut, cells_b, one_b, cells_i, one_i, cells_s, one_s, cells_nilp, one_nilp, cells_ref, one_ref, cells_ptr, one_ptr, cells_esl, one_esl, cells_sl, one_sl, cells_row, one_row, cells_fn, one_fn, cells_nilf, one_nilf, cells_nilm, one_nilm, cells_mp, one_mp, cells_mpr, one_mpr, cells_ag, anilck, afieldAddr, aindex, aindexAddr, alen, afill, afillR, aminmax, aminmax.aminmaxI, isNeq, sdl, kin, acall, ares, ares1, arows, aappend, aslice, asliceS, asliceR, aslice0, abnd, List.set_cons_succ, List.set_cons_zero, List.getD_cons_succ, List.getD_cons_zero, List.getElem?_cons_succ, List.getElem?_cons_zero, List.map_cons, List.map_nil, List.cons_append, List.nil_append, List.append_nil, List.length_cons, List.length_nil, List.take_succ_cons, List.take_zero, List.drop_succ_cons, List.drop_zero, List.all_cons, List.all_nil, List.replicate, Nat.reduceAdd, Nat.reduceSub, Nat.reduceMul, Nat.reduceLT, Nat.reduceLeDiff, Nat.reduceEqDiff, Nat.zero_add, Nat.add_zero, Nat.zero_mul, Option.map_some, Option.map_none, Option.bind_some, Option.bind_eq_bind, Option.getD_some, Option.getD_none, Option.isSome_some, Option.isSome_none, Option.toList, if_true, if_false, and_self, and_true, true_and, and_false, false_and, Prod.mk.injEq, Bool.false_eq_true, Bool.true_eq_false, beq_self_eq_true, Bool.not_true, Bool.not_false, Bool.and_self, Bool.and_true, Bool.true_and, decide_true, decide_false, beq_true, beq_false, Bool.not_not, reduceCtorEq, Nat.le_refl, Int.reduceNeg, reduceIte, Nat.reduceBEq, Int.reduceBEq, Int.reduceLT, Int.reduceLE, Int.reduceToNat, decide_eq_true_eq, not_false_eq_true, not_true_eq_false, ne_eq, eT_nil, eT_cells, eT_one] <;> rfl))
      exact fz_tu ⟨fz_eq' rfl (.ag _ (by simp [pure_i])), fz_eq' rfl (eT_Pure _), trivial⟩
  | node a b c d ih1 ih2 =>
    intro hb
    have ih := ih1 a b d (by simp only [T.sz] at *; omega)
    have hz := leastS_sz (.node a b c d)
    have hn := eT_node k v (.node a b c d) r
    have hm := eT_node a b c d
    simp only [T.sz] at hb hz
    refine apure_of h_tree_node_int_least ?_
    simp only [c_tree_node_int_least, List.length_cons, List.length_nil, List.cons_append, List.nil_append, Nat.reduceAdd, Nat.reduceSub, List.reduceReplicate]
    rw [hm] at ih
    (have hE := And.intro @hn (And.intro @hm noX); repeat' (first
    | refine awp_seq ?_
    | (refine awp_reg fun nv => ?_)
    | (refine awp_regd mix fun nv => ?_)
    | ((first | refine aops_nil ?_ | refine adr_nil (by rfl) ?_ | refine awp_skip ?_ | refine awp_exit ?_ | refine awp_ret ?_); try simp only [thenQ, blockQ, if_true, if_false, Nat.reduceEqDiff, eq_self, reduceCtorEq, reduceIte])
    | ((first | apply aops_one 0 | apply adr_one 0); (· exact nT9_1 hE))
    | ((first | apply aops_call (hlf := h_tree_node_int_least) | apply adr_call (hlf := h_tree_node_int_least)); (· rfl); (· exact nT9_1 hE); (· exact pT9_); (· exact (ih)); (· exact nput))
    | ((first | apply aops_call (hlf := h_tree_even_int) | apply adr_call (hlf := h_tree_even_int)); (· rfl); (· exact nT9_1 hE); (· exact pT9_); (· exact (p_even _ _ _ _ (by omega))); (· exact nput))
    | refine awp_block ?_
    | (apply awp_condt; (· exact nT9_1 hE))
    | (apply awp_condf; (· exact nT9_1 hE))
    | (apply awp_cond; (· exact nT9_1 hE); all_goals intro hc)
    | ((first | apply aops_gsplit | apply adr_gsplit); (· rfl); (· exact nT9_1 hE); all_goals (intro hg; rw [hg])))); all_goals clear hE
    all_goals
      (apply awp_end [(0, 2)] (by first | exact .inl rfl | exact .inr rfl); · (simp only [aone, aoneT, gval, astep, aev, val, abin, abinI, abinS, aun, aeqn, aeqL, aeq1, put, upds, sset, sget, aload, astore, aobj, acut, cells_b, one_b, cells_i, one_i, cells_s, one_s, cells_nilp, one_nilp, cells_ref, one_ref, cells_ptr, one_ptr, cells_esl, one_esl, cells_sl, one_sl, cells_row, one_row, cells_fn, one_fn, cells_nilf, one_nilf, cells_nilm, one_nilm, cells_mp, one_mp, cells_mpr, one_mpr, cells_ag, anilck, afieldAddr, aindex, aindexAddr, alen, afill, afillR, aminmax, aminmax.aminmaxI, isNeq, sdl, kin, acall, ares, ares1, arows, aappend, aslice, asliceS, asliceR, aslice0, abnd, List.set_cons_succ, List.set_cons_zero, List.getD_cons_succ, List.getD_cons_zero, List.getElem?_cons_succ, List.getElem?_cons_zero, List.map_cons, List.map_nil, List.cons_append, List.nil_append, List.append_nil, List.length_cons, List.length_nil, List.take_succ_cons, List.take_zero, List.drop_succ_cons, List.drop_zero, List.all_cons, List.all_nil, List.replicate, Nat.reduceAdd, Nat.reduceSub, Nat.reduceMul, Nat.reduceLT, Nat.reduceLeDiff, Nat.reduceEqDiff, Nat.zero_add, Nat.add_zero, Nat.zero_mul, Option.map_some, Option.map_none, Option.bind_some, Option.bind_eq_bind, Option.getD_some, Option.getD_none, Option.isSome_some, Option.isSome_none, Option.toList, if_true, if_false, and_self, and_true, true_and, and_false, false_and, Prod.mk.injEq, Bool.false_eq_true, Bool.true_eq_false, beq_self_eq_true, Bool.not_true, Bool.not_false, Bool.and_self, Bool.and_true, Bool.true_and, decide_true, decide_false, beq_true, beq_false, Bool.not_not, reduceCtorEq, Nat.le_refl, Int.reduceNeg, reduceIte, Nat.reduceBEq, Int.reduceBEq, Int.reduceLT, Int.reduceLE, Int.reduceToNat, decide_eq_true_eq, not_false_eq_true, not_true_eq_false, ne_eq, eT_nil, eT_cells, eT_one] <;> rfl))
      exact fz_tu ⟨fz_eq' rfl (.ag _ (by simp [pure_i])), fz_eq' rfl (eT_Pure _), trivial⟩
end Go.Proofs.Ytibkakodokbobaa
