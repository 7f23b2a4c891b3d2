import Derived.Test.YtibkakodokbobaaT27
namespace Go.Proofs.Ytibkakodokbobaa
open Go.Am
set_option maxRecDepth 100000
set_option linter.unusedSimpArgs false
set_option linter.unusedVariables false
theorem nT28_0 {E A : Prop} (e : E) (h : E → A := by (intro hE; simp only [aone, aoneT, gval, astep, aev, val, abin, abinI, abinS, aun, aeqn, aeqL, aeq1, put, upds, sset, sget, aload, astore, aobj, acut, cells_b, one_b, cells_i, one_i, cells_s, one_s, cells_nilp, one_nilp, cells_ref, one_ref, cells_ptr, one_ptr, cells_esl, one_esl, cells_sl, one_sl, cells_row, one_row, cells_fn, one_fn, cells_nilf, one_nilf, cells_nilm, one_nilm, cells_mp, one_mp, cells_mpr, one_mpr, cells_ag, anilck, afieldAddr, aindex, aindexAddr, alen, afill, afillR, aminmax, aminmax.aminmaxI, isNeq, sdl, kin, acall, ares, ares1, arows, aappend, aslice, asliceS, asliceR, aslice0, abnd, List.set_cons_succ, List.set_cons_zero, List.getD_cons_succ, List.getD_cons_zero, List.getElem?_cons_succ, List.getElem?_cons_zero, List.map_cons, List.map_nil, List.cons_append, List.nil_append, List.append_nil, List.length_cons, List.length_nil, List.take_succ_cons, List.take_zero, List.drop_succ_cons, List.drop_zero, List.all_cons, List.all_nil, List.replicate, Nat.reduceAdd, Nat.reduceSub, Nat.reduceMul, Nat.reduceLT, Nat.reduceLeDiff, Nat.reduceEqDiff, Nat.zero_add, Nat.add_zero, Nat.zero_mul, Option.map_some, Option.map_none, Option.bind_some, Option.bind_eq_bind, Option.getD_some, Option.getD_none, Option.isSome_some, Option.isSome_none, Option.toList, if_true, if_false, and_self, and_true, true_and, and_false, false_and, Prod.mk.injEq, Bool.false_eq_true, Bool.true_eq_false, beq_self_eq_true, Bool.not_true, Bool.not_false, Bool.and_self, Bool.and_true, Bool.true_and, decide_true, decide_false, beq_true, beq_false, Bool.not_not, reduceCtorEq, Nat.le_refl, Int.reduceNeg, reduceIte, Nat.reduceBEq, Int.reduceBEq, Int.reduceLT, Int.reduceLE, Int.reduceToNat, decide_eq_true_eq, not_false_eq_true, not_true_eq_false, ne_eq, Query.row, eLinks_cells, eLinks_one, ePorts_cells, ePorts_one, eRules_cells, eRules_one, hE] <;> rfl)) : A := h e
theorem nT28_1 {E A : Prop} (e : E) (h : E → A := by (intro hE; simp only [aone, aoneT, gval, astep, aev, val, abin, abinI, abinS, aun, aeqn, aeqL, aeq1, put, upds, sset, sget, aload, astore, aobj, acut, cells_b, one_b, cells_i, one_i, cells_s, one_s, cells_nilp, one_nilp, cells_ref, one_ref, cells_ptr, one_ptr, cells_esl, one_esl, cells_sl, one_sl, cells_row, one_row, cells_fn, one_fn, cells_nilf, one_nilf, cells_nilm, one_nilm, cells_mp, one_mp, cells_mpr, one_mpr, cells_ag, anilck, afieldAddr, aindex, aindexAddr, alen, afill, afillR, aminmax, aminmax.aminmaxI, isNeq, sdl, kin, acall, ares, ares1, arows, aappend, aslice, asliceS, asliceR, aslice0, abnd, List.set_cons_succ, List.set_cons_zero, List.getD_cons_succ, List.getD_cons_zero, List.getElem?_cons_succ, List.getElem?_cons_zero, List.map_cons, List.map_nil, List.cons_append, List.nil_append, List.append_nil, List.length_cons, List.length_nil, List.take_succ_cons, List.take_zero, List.drop_succ_cons, List.drop_zero, List.all_cons, List.all_nil, List.replicate, Nat.reduceAdd, Nat.reduceSub, Nat.reduceMul, Nat.reduceLT, Nat.reduceLeDiff, Nat.reduceEqDiff, Nat.zero_add, Nat.add_zero, Nat.zero_mul, Option.map_some, Option.map_none, Option.bind_some, Option.bind_eq_bind, Option.getD_some, Option.getD_none, Option.isSome_some, Option.isSome_none, Option.toList, if_true, if_false, and_self, and_true, true_and, and_false, false_and, Prod.mk.injEq, Bool.false_eq_true, Bool.true_eq_false, beq_self_eq_true, Bool.not_true, Bool.not_false, Bool.and_self, Bool.and_true, Bool.true_and, decide_true, decide_false, beq_true, beq_false, Bool.not_not, reduceCtorEq, Nat.le_refl, Int.reduceNeg, reduceIte, Nat.reduceBEq, Int.reduceBEq, Int.reduceLT, Int.reduceLE, Int.reduceToNat, decide_eq_true_eq, not_false_eq_true, not_true_eq_false, ne_eq, eLinks_cells, eLinks_one, ePorts_cells, ePorts_one, eRules_cells, eRules_one, hE] <;> rfl)) : A := h e
theorem nT28_2 {E A : Prop} (e : E) (h : E → A := by (intro hE; simp only [aone, aoneT, gval, astep, aev, val, abin, abinI, abinS, aun, aeqn, aeqL, aeq1, put, upds, sset, sget, aload, astore, aobj, acut, cells_b, one_b, cells_i, one_i, cells_s, one_s, cells_nilp, one_nilp, cells_ref, one_ref, cells_ptr, one_ptr, cells_esl, one_esl, cells_sl, one_sl, cells_row, one_row, cells_fn, one_fn, cells_nilf, one_nilf, cells_nilm, one_nilm, cells_mp, one_mp, cells_mpr, one_mpr, cells_ag, anilck, afieldAddr, aindex, aindexAddr, alen, afill, afillR, aminmax, aminmax.aminmaxI, isNeq, sdl, kin, acall, ares, ares1, arows, aappend, aslice, asliceS, asliceR, aslice0, abnd, List.set_cons_succ, List.set_cons_zero, List.getD_cons_succ, List.getD_cons_zero, List.getElem?_cons_succ, List.getElem?_cons_zero, List.map_cons, List.map_nil, List.cons_append, List.nil_append, List.append_nil, List.length_cons, List.length_nil, List.take_succ_cons, List.take_zero, List.drop_succ_cons, List.drop_zero, List.all_cons, List.all_nil, List.replicate, Nat.reduceAdd, Nat.reduceSub, Nat.reduceMul, Nat.reduceLT, Nat.reduceLeDiff, Nat.reduceEqDiff, Nat.zero_add, Nat.add_zero, Nat.zero_mul, Option.map_some, Option.map_none, Option.bind_some, Option.bind_eq_bind, Option.getD_some, Option.getD_none, Option.isSome_some, Option.isSome_none, Option.toList, if_true, if_false, and_self, and_true, true_and, and_false, false_and, Prod.mk.injEq, Bool.false_eq_true, Bool.true_eq_false, beq_self_eq_true, Bool.not_true, Bool.not_false, Bool.and_self, Bool.and_true, Bool.true_and, decide_true, decide_false, beq_true, beq_false, Bool.not_not, reduceCtorEq, Nat.le_refl, Int.reduceNeg, reduceIte, Nat.reduceBEq, Int.reduceBEq, Int.reduceLT, Int.reduceLE, Int.reduceToNat, decide_eq_true_eq, not_false_eq_true, not_true_eq_false, ne_eq, List.length_map, Query.row, eLinks_cells, eLinks_one, ePorts, ePorts_cells, ePorts_one, eRules_cells, eRules_one, hE] <;> rfl)) : A := h e
theorem nT28_3 {E A : Prop} (e : E) (h : E → A := by (intro hE; simp only [aone, aoneT, gval, astep, aev, val, abin, abinI, abinS, aun, aeqn, aeqL, aeq1, put, upds, sset, sget, aload, astore, aobj, acut, cells_b, one_b, cells_i, one_i, cells_s, one_s, cells_nilp, one_nilp, cells_ref, one_ref, cells_ptr, one_ptr, cells_esl, one_esl, cells_sl, one_sl, cells_row, one_row, cells_fn, one_fn, cells_nilf, one_nilf, cells_nilm, one_nilm, cells_mp, one_mp, cells_mpr, one_mpr, cells_ag, anilck, afieldAddr, aindex, aindexAddr, alen, afill, afillR, aminmax, aminmax.aminmaxI, isNeq, sdl, kin, acall, ares, ares1, arows, aappend, aslice, asliceS, asliceR, aslice0, abnd, List.set_cons_succ, List.set_cons_zero, List.getD_cons_succ, List.getD_cons_zero, List.getElem?_cons_succ, List.getElem?_cons_zero, List.map_cons, List.map_nil, List.cons_append, List.nil_append, List.append_nil, List.length_cons, List.length_nil, List.take_succ_cons, List.take_zero, List.drop_succ_cons, List.drop_zero, List.all_cons, List.all_nil, List.replicate, Nat.reduceAdd, Nat.reduceSub, Nat.reduceMul, Nat.reduceLT, Nat.reduceLeDiff, Nat.reduceEqDiff, Nat.zero_add, Nat.add_zero, Nat.zero_mul, Option.map_some, Option.map_none, Option.bind_some, Option.bind_eq_bind, Option.getD_some, Option.getD_none, Option.isSome_some, Option.isSome_none, Option.toList, if_true, if_false, and_self, and_true, true_and, and_false, false_and, Prod.mk.injEq, Bool.false_eq_true, Bool.true_eq_false, beq_self_eq_true, Bool.not_true, Bool.not_false, Bool.and_self, Bool.and_true, Bool.true_and, decide_true, decide_false, beq_true, beq_false, Bool.not_not, reduceCtorEq, Nat.le_refl, Int.reduceNeg, reduceIte, Nat.reduceBEq, Int.reduceBEq, Int.reduceLT, Int.reduceLE, Int.reduceToNat, decide_eq_true_eq, not_false_eq_true, not_true_eq_false, ne_eq, eLinks_cells, eLinks_one, ePorts_cells, ePorts_one, eRules_cells, eRules_one, srcS, srcV, hE] <;> rfl)) : A := h e
theorem nT28_4 {E A : Prop} (e : E) (h : E → A := by (intro hE; simp only [aone, aoneT, gval, astep, aev, val, abin, abinI, abinS, aun, aeqn, aeqL, aeq1, put, upds, sset, sget, aload, astore, aobj, acut, cells_b, one_b, cells_i, one_i, cells_s, one_s, cells_nilp, one_nilp, cells_ref, one_ref, cells_ptr, one_ptr, cells_esl, one_esl, cells_sl, one_sl, cells_row, one_row, cells_fn, one_fn, cells_nilf, one_nilf, cells_nilm, one_nilm, cells_mp, one_mp, cells_mpr, one_mpr, cells_ag, anilck, afieldAddr, aindex, aindexAddr, alen, afill, afillR, aminmax, aminmax.aminmaxI, isNeq, sdl, kin, acall, ares, ares1, arows, aappend, aslice, asliceS, asliceR, aslice0, abnd, List.set_cons_succ, List.set_cons_zero, List.getD_cons_succ, List.getD_cons_zero, List.getElem?_cons_succ, List.getElem?_cons_zero, List.map_cons, List.map_nil, List.cons_append, List.nil_append, List.append_nil, List.length_cons, List.length_nil, List.take_succ_cons, List.take_zero, List.drop_succ_cons, List.drop_zero, List.all_cons, List.all_nil, List.replicate, Nat.reduceAdd, Nat.reduceSub, Nat.reduceMul, Nat.reduceLT, Nat.reduceLeDiff, Nat.reduceEqDiff, Nat.zero_add, Nat.add_zero, Nat.zero_mul, Option.map_some, Option.map_none, Option.bind_some, Option.bind_eq_bind, Option.getD_some, Option.getD_none, Option.isSome_some, Option.isSome_none, Option.toList, if_true, if_false, and_self, and_true, true_and, and_false, false_and, Prod.mk.injEq, Bool.false_eq_true, Bool.true_eq_false, beq_self_eq_true, Bool.not_true, Bool.not_false, Bool.and_self, Bool.and_true, Bool.true_and, decide_true, decide_false, beq_true, beq_false, Bool.not_not, reduceCtorEq, Nat.le_refl, Int.reduceNeg, reduceIte, Nat.reduceBEq, Int.reduceBEq, Int.reduceLT, Int.reduceLE, Int.reduceToNat, decide_eq_true_eq, not_false_eq_true, not_true_eq_false, ne_eq, List.length_map, List.length_range, eLinks_cells, eLinks_one, ePorts_cells, ePorts_one, eRules_cells, eRules_one, srcS, srcV, hE] <;> rfl)) : A := h e
theorem nT28_5 {E A : Prop} (e : E) (h : E → A := by (intro hE; simp only [aone, aoneT, gval, astep, aev, val, abin, abinI, abinS, aun, aeqn, aeqL, aeq1, put, upds, sset, sget, aload, astore, aobj, acut, cells_b, one_b, cells_i, one_i, cells_s, one_s, cells_nilp, one_nilp, cells_ref, one_ref, cells_ptr, one_ptr, cells_esl, one_esl, cells_sl, one_sl, cells_row, one_row, cells_fn, one_fn, cells_nilf, one_nilf, cells_nilm, one_nilm, cells_mp, one_mp, cells_mpr, one_mpr, cells_ag, anilck, afieldAddr, aindex, aindexAddr, alen, afill, afillR, aminmax, aminmax.aminmaxI, isNeq, sdl, kin, acall, ares, ares1, arows, aappend, aslice, asliceS, asliceR, aslice0, abnd, List.set_cons_succ, List.set_cons_zero, List.getD_cons_succ, List.getD_cons_zero, List.getElem?_cons_succ, List.getElem?_cons_zero, List.map_cons, List.map_nil, List.cons_append, List.nil_append, List.append_nil, List.length_cons, List.length_nil, List.take_succ_cons, List.take_zero, List.drop_succ_cons, List.drop_zero, List.all_cons, List.all_nil, List.replicate, Nat.reduceAdd, Nat.reduceSub, Nat.reduceMul, Nat.reduceLT, Nat.reduceLeDiff, Nat.reduceEqDiff, Nat.zero_add, Nat.add_zero, Nat.zero_mul, Option.map_some, Option.map_none, Option.bind_some, Option.bind_eq_bind, Option.getD_some, Option.getD_none, Option.isSome_some, Option.isSome_none, Option.toList, if_true, if_false, and_self, and_true, true_and, and_false, false_and, Prod.mk.injEq, Bool.false_eq_true, Bool.true_eq_false, beq_self_eq_true, Bool.not_true, Bool.not_false, Bool.and_self, Bool.and_true, Bool.true_and, decide_true, decide_false, beq_true, beq_false, Bool.not_not, reduceCtorEq, Nat.le_refl, Int.reduceNeg, reduceIte, Nat.reduceBEq, Int.reduceBEq, Int.reduceLT, Int.reduceLE, Int.reduceToNat, decide_eq_true_eq, not_false_eq_true, not_true_eq_false, ne_eq, Tr.row, eLinks_cells, eLinks_one, ePorts_cells, ePorts_one, eRules_cells, eRules_one, hE] <;> rfl)) : A := h e
theorem nT28_6 {E A : Prop} (e : E) (h : E → A := by (intro hE; simp only [aone, aoneT, gval, astep, aev, val, abin, abinI, abinS, aun, aeqn, aeqL, aeq1, put, upds, sset, sget, aload, astore, aobj, acut, cells_b, one_b, cells_i, one_i, cells_s, one_s, cells_nilp, one_nilp, cells_ref, one_ref, cells_ptr, one_ptr, cells_esl, one_esl, cells_sl, one_sl, cells_row, one_row, cells_fn, one_fn, cells_nilf, one_nilf, cells_nilm, one_nilm, cells_mp, one_mp, cells_mpr, one_mpr, cells_ag, anilck, afieldAddr, aindex, aindexAddr, alen, afill, afillR, aminmax, aminmax.aminmaxI, isNeq, sdl, kin, acall, ares, ares1, arows, aappend, aslice, asliceS, asliceR, aslice0, abnd, List.set_cons_succ, List.set_cons_zero, List.getD_cons_succ, List.getD_cons_zero, List.getElem?_cons_succ, List.getElem?_cons_zero, List.map_cons, List.map_nil, List.cons_append, List.nil_append, List.append_nil, List.length_cons, List.length_nil, List.take_succ_cons, List.take_zero, List.drop_succ_cons, List.drop_zero, List.all_cons, List.all_nil, List.replicate, Nat.reduceAdd, Nat.reduceSub, Nat.reduceMul, Nat.reduceLT, Nat.reduceLeDiff, Nat.reduceEqDiff, Nat.zero_add, Nat.add_zero, Nat.zero_mul, Option.map_some, Option.map_none, Option.bind_some, Option.bind_eq_bind, Option.getD_some, Option.getD_none, Option.isSome_some, Option.isSome_none, Option.toList, if_true, if_false, and_self, and_true, true_and, and_false, false_and, Prod.mk.injEq, Bool.false_eq_true, Bool.true_eq_false, beq_self_eq_true, Bool.not_true, Bool.not_false, Bool.and_self, Bool.and_true, Bool.true_and, decide_true, decide_false, beq_true, beq_false, Bool.not_not, reduceCtorEq, Nat.le_refl, Int.reduceNeg, reduceIte, Nat.reduceBEq, Int.reduceBEq, Int.reduceLT, Int.reduceLE, Int.reduceToNat, decide_eq_true_eq, not_false_eq_true, not_true_eq_false, ne_eq, Query.row, Tr.row, eLinks_cells, eLinks_one, ePorts_cells, ePorts_one, eRules_cells, eRules_one, hE] <;> rfl)) : A := h e
theorem nT28_7 {E A : Prop} (e : E) (h : E → A := by (intro hE; simp only [aone, aoneT, gval, astep, aev, val, abin, abinI, abinS, aun, aeqn, aeqL, aeq1, put, upds, sset, sget, aload, astore, aobj, acut, cells_b, one_b, cells_i, one_i, cells_s, one_s, cells_nilp, one_nilp, cells_ref, one_ref, cells_ptr, one_ptr, cells_esl, one_esl, cells_sl, one_sl, cells_row, one_row, cells_fn, one_fn, cells_nilf, one_nilf, cells_nilm, one_nilm, cells_mp, one_mp, cells_mpr, one_mpr, cells_ag, anilck, afieldAddr, aindex, aindexAddr, alen, afill, afillR, aminmax, aminmax.aminmaxI, isNeq, sdl, kin, acall, ares, ares1, arows, aappend, aslice, asliceS, asliceR, aslice0, abnd, List.set_cons_succ, List.set_cons_zero, List.getD_cons_succ, List.getD_cons_zero, List.getElem?_cons_succ, List.getElem?_cons_zero, List.map_cons, List.map_nil, List.cons_append, List.nil_append, List.append_nil, List.length_cons, List.length_nil, List.take_succ_cons, List.take_zero, List.drop_succ_cons, List.drop_zero, List.all_cons, List.all_nil, List.replicate, Nat.reduceAdd, Nat.reduceSub, Nat.reduceMul, Nat.reduceLT, Nat.reduceLeDiff, Nat.reduceEqDiff, Nat.zero_add, Nat.add_zero, Nat.zero_mul, Option.map_some, Option.map_none, Option.bind_some, Option.bind_eq_bind, Option.getD_some, Option.getD_none, Option.isSome_some, Option.isSome_none, Option.toList, if_true, if_false, and_self, and_true, true_and, and_false, false_and, Prod.mk.injEq, Bool.false_eq_true, Bool.true_eq_false, beq_self_eq_true, Bool.not_true, Bool.not_false, Bool.and_self, Bool.and_true, Bool.true_and, decide_true, decide_false, beq_true, beq_false, Bool.not_not, reduceCtorEq, Nat.le_refl, Int.reduceNeg, reduceIte, Nat.reduceBEq, Int.reduceBEq, Int.reduceLT, Int.reduceLE, Int.reduceToNat, decide_eq_true_eq, not_false_eq_true, not_true_eq_false, ne_eq, Query.row, Tr.row, eLinks_cells, eLinks_one, ePorts_cells, ePorts_one, eRules_cells, eRules_one, fnsB, hE] <;> rfl)) : A := h e
theorem pT28_ {A : Prop} (h : A := by (simp only [List.forall_mem_cons, List.forall_mem_nil, List.not_mem_nil, false_imp_iff, implies_true, List.forall_mem_map, pure_b, pure_i, pure_s, pure_nilp, pure_nilf, pure_esl, pure_ref, pure_sl, pure_ag, pure_tu, pure_fn, and_self, and_true, true_and, eRules_pure, ePorts_pure, eLinks_pure]; done)) : A := h
/-! ### query.Sources, Breaks; fate.Same -/
def srcV : Nat → Nat → AV
  | 0, _ => .esl
  | j + 1, v => .row (0, 22) v 0 (j + 1)
def srcS : Nat → Nat → Store
  | 0, _ => []
  | j + 1, v => [((0, 22), ⟨v, .rows 1 ((List.range (j + 1)).map fun i : Nat => eI (i : Int))⟩)]
def sourcesS (n : Net) (q : Query) : List Int := if singleB q = true then [q.a] else (List.range n.ports.length).map fun i : Nat => (i : Int)
set_option maxHeartbeats 1000000 in
theorem p_Sources (n : Net) (hn : n.ports.length < 1000000) (q : Query) : APure Try.prog n_query_Sources [.ag [ePorts n.ports, eLinks n.links, eRules n.rules], .ag q.row] (ePorts (sourcesS n q)) := by
  have hs := p_single q
  unfold sourcesS
  refine apure_of h_query_Sources ?_; simp only [c_query_Sources, List.length_cons, List.length_nil, List.cons_append, List.nil_append, Nat.reduceAdd, Nat.reduceSub, List.reduceReplicate]
  cases h1 : singleB q with
  | true =>
    rw [h1] at hs
    (have hE := noX; repeat' (first
    | refine awp_seq ?_
    | (refine awp_reg fun nv => ?_)
    | ((first | refine aops_nil ?_ | refine awp_skip ?_ | refine awp_exit ?_ | refine awp_ret ?_); try simp only [thenQ, blockQ, if_true, if_false, Nat.reduceEqDiff, eq_self, reduceCtorEq, reduceIte])
    | (apply aops_one 0; (· exact nT28_0 hE))
    | (apply aops_call (hlf := h_query_single); (· rfl); (· exact nT28_0 hE); (· exact pT28_); (· exact hs); (· exact nput))
    | refine awp_block ?_
    | (apply awp_condt; (· exact nT28_0 hE))
    | (apply awp_condf; (· exact nT28_0 hE))
    | (apply awp_cond; (· exact nT28_0 hE); all_goals intro hc)
    | (apply aops_gsplit; (· rfl); (· exact nT28_0 hE); all_goals (intro hg; rw [hg])))); all_goals clear hE
    all_goals
      (apply awp_end [(0, 11)] (by first | exact .inl rfl | exact .inr rfl); (· exact nT28_1 (noX)))
      exact fz_row (k := (0, 11)) (List.mem_cons_self ..) rfl rfl (by simp [eI]) (by simp [eI, pure_i])
  | false =>
    rw [h1] at hs
    simp only [Bool.false_eq_true, if_false]
    (have hE := noX; repeat' (first
    | refine awp_seq ?_
    | (refine awp_reg fun nv => ?_)
    | ((first | refine aops_nil ?_ | refine awp_skip ?_ | refine awp_exit ?_ | refine awp_ret ?_); try simp only [thenQ, blockQ, if_true, if_false, Nat.reduceEqDiff, eq_self, reduceCtorEq, reduceIte])
    | (apply aops_one 0; (· exact nT28_2 hE))
    | (apply aops_call (hlf := h_query_single); (· rfl); (· exact nT28_2 hE); (· exact pT28_); (· exact hs); (· exact nput))
    | refine awp_block ?_
    | (apply awp_condt; (· exact nT28_2 hE))
    | (apply awp_condf; (· exact nT28_2 hE))
    | (apply awp_cond; (· exact nT28_2 hE); all_goals intro hc)
    | (apply aops_gsplit; (· rfl); (· exact nT28_2 hE); all_goals (intro hg; rw [hg])))); all_goals clear hE
    refine awp_loop (α := Nat × Nat) (fun y => [.bot, .bot, .bot, .bot, .bot, srcV y.1 y.2, .bot, .bot, .bot, .bot, .bot, .bot, .bot, .bot, .bot, .i .i64 n.ports.length, .i .i64 (y.1 : Nat), .bot, .bot, .bot, .bot, .bot, .bot, .bot, .bot]) (fun y => srcS y.1 y.2) (fun y => y.1 ≤ n.ports.length) (fun y => n.ports.length - y.1) (0, 0) (Nat.zero_le _) ?_ (StLe.nil _) ?_
    · simp only [srcV]
      repeat' (first | exact FrLe.nil | apply FrLe.cons | apply FrLe.bot)
    rintro ⟨j, v⟩ hj
    simp only at hj ⊢
    by_cases hlt : j < n.ports.length
    · have hlt' : (j : Int) < (n.ports.length : Int) := by omega
      have hw := wrapS hlt (by omega)
      cases j with
      | zero =>
        (have hE := And.intro @hlt' (And.intro @hw noX); repeat' (first
    | refine awp_seq ?_
    | (refine awp_reg fun nv => ?_)
    | ((first | refine aops_nil ?_ | refine awp_skip ?_ | refine awp_exit ?_ | refine awp_ret ?_); try simp only [thenQ, blockQ, if_true, if_false, Nat.reduceEqDiff, eq_self, reduceCtorEq, reduceIte])
    | (apply aops_one 0; (· exact nT28_3 hE))
    | refine awp_block ?_
    | (apply awp_condt; (· exact nT28_3 hE))
    | (apply awp_condf; (· exact nT28_3 hE))
    | (apply awp_cond; (· exact nT28_3 hE); all_goals intro hc)
    | (apply aops_gsplit; (· rfl); (· exact nT28_3 hE); all_goals (intro hg; rw [hg])))); all_goals clear hE
        all_goals
          rename_i m1 m2
          exact ⟨(0 + 1, m2 + 3), by simp only; omega, by simp only; omega, by repeat' (first | exact FrLe.nil | apply FrLe.cons | apply FrLe.bot), stle_cons rfl (StLe.nil _)⟩
      | succ j =>
        have hb2 : (j + 1 + 1) * 8 ≤ 140737488355328 := by omega
        have hrs : (List.range (j + 1 + 1)).map (fun i => eI ((i : Nat) : Int)) = (List.range (j + 1)).map (fun i => eI ((i : Nat) : Int)) ++ [eI ((j + 1 : Nat) : Int)] := by rw [List.range_succ, List.map_append]; rfl
        (have hE := And.intro @hlt' (And.intro @hw (And.intro @hb2 noX)); repeat' (first
    | refine awp_seq ?_
    | (refine awp_reg fun nv => ?_)
    | ((first | refine aops_nil ?_ | refine awp_skip ?_ | refine awp_exit ?_ | refine awp_ret ?_); try simp only [thenQ, blockQ, if_true, if_false, Nat.reduceEqDiff, eq_self, reduceCtorEq, reduceIte])
    | (apply aops_one 0; (· exact nT28_4 hE))
    | refine awp_block ?_
    | (apply awp_condt; (· exact nT28_4 hE))
    | (apply awp_condf; (· exact nT28_4 hE))
    | (apply awp_cond; (· exact nT28_4 hE); all_goals intro hc)
    | (apply aops_gsplit; (· rfl); (· exact nT28_4 hE); all_goals (intro hg; rw [hg])))); all_goals clear hE
        all_goals
          rename_i m1 m2
          refine ⟨(j + 1 + 1, m2 + 3), by simp only; omega, by simp only; omega, by repeat' (first | exact FrLe.nil | apply FrLe.cons | apply FrLe.bot), ?_⟩
          simp only [srcS]
          rw [hrs]
          exact stle_cons rfl (StLe.nil _)
    · have hlt' : ¬ (j : Int) < (n.ports.length : Int) := by omega
      have hjn : j = n.ports.length := by omega
      subst hjn
      have hmm : ePorts ((List.range n.ports.length).map fun i : Nat => (i : Int)) = .sl ((List.range n.ports.length).map fun i : Nat => eI (i : Int)) := by unfold ePorts; rw [List.map_map]; rfl
      simp only [hmm]
      generalize hj0 : n.ports.length = j at *
      cases j with
      | zero =>
        (have hE := And.intro @hlt' noX; repeat' (first
    | refine awp_seq ?_
    | (refine awp_reg fun nv => ?_)
    | ((first | refine aops_nil ?_ | refine awp_skip ?_ | refine awp_exit ?_ | refine awp_ret ?_); try simp only [thenQ, blockQ, if_true, if_false, Nat.reduceEqDiff, eq_self, reduceCtorEq, reduceIte])
    | (apply aops_one 0; (· exact nT28_3 hE))
    | refine awp_block ?_
    | (apply awp_condt; (· exact nT28_3 hE))
    | (apply awp_condf; (· exact nT28_3 hE))
    | (apply awp_cond; (· exact nT28_3 hE); all_goals intro hc)
    | (apply aops_gsplit; (· rfl); (· exact nT28_3 hE); all_goals (intro hg; rw [hg])))); all_goals clear hE
        all_goals
          (apply awp_end [] (by first | exact .inl rfl | exact .inr rfl); (· exact nT28_1 (noX)))
          exact .esl
      | succ j =>
        (have hE := And.intro @hlt' noX; repeat' (first
    | refine awp_seq ?_
    | (refine awp_reg fun nv => ?_)
    | ((first | refine aops_nil ?_ | refine awp_skip ?_ | refine awp_exit ?_ | refine awp_ret ?_); try simp only [thenQ, blockQ, if_true, if_false, Nat.reduceEqDiff, eq_self, reduceCtorEq, reduceIte])
    | (apply aops_one 0; (· exact nT28_3 hE))
    | refine awp_block ?_
    | (apply awp_condt; (· exact nT28_3 hE))
    | (apply awp_condf; (· exact nT28_3 hE))
    | (apply awp_cond; (· exact nT28_3 hE); all_goals intro hc)
    | (apply aops_gsplit; (· rfl); (· exact nT28_3 hE); all_goals (intro hg; rw [hg])))); all_goals clear hE
        all_goals
          (apply awp_end [(0, 22)] (by first | exact .inl rfl | exact .inr rfl); (· exact nT28_1 (noX)))
          exact fz_row (k := (0, 22)) (List.mem_cons_self ..) rfl (by simp) (by simp [eI]) (by simp [eI, pure_i])
def leavesB (t : Tr) (d : Int) : Bool := t.fate == 3 && t.out.1 == d
theorem p_leaves (t : Tr) (d : Int) : APure Try.prog n_query_leaves [.ag t.row, .i .i64 d] (.b (leavesB t d)) := by
  refine apure_of h_query_leaves ?_; simp only [c_query_leaves, List.length_cons, List.length_nil, List.cons_append, List.nil_append, Nat.reduceAdd, Nat.reduceSub, List.reduceReplicate]
  (have hE := noX; repeat' (first
    | refine awp_seq ?_
    | (refine awp_reg fun nv => ?_)
    | ((first | refine aops_nil ?_ | refine awp_skip ?_ | refine awp_exit ?_ | refine awp_ret ?_); try simp only [thenQ, blockQ, if_true, if_false, Nat.reduceEqDiff, eq_self, reduceCtorEq, reduceIte])
    | (apply aops_one 0; (· exact nT28_5 hE))
    | refine awp_block ?_
    | (apply awp_condt; (· exact nT28_5 hE))
    | (apply awp_condf; (· exact nT28_5 hE))
    | (apply awp_cond; (· exact nT28_5 hE); all_goals intro hc)
    | (apply aops_gsplit; (· rfl); (· exact nT28_5 hE); all_goals (intro hg; rw [hg])))); all_goals clear hE
  all_goals
    (apply awp_end [] (by first | exact .inl rfl | exact .inr rfl); (· exact nT28_1 (noX)))
    refine fz_res ?_ (.b _)
    simp only [tup, Bool.or_false, Bool.false_or, Bool.not_false, Bool.not_true, Bool.true_and, Bool.and_true, Bool.true_or, Bool.or_true, Bool.and_false, Bool.false_and, Bool.not_not, leavesB, *]
def sameTr (t u : Tr) : Bool := (t.devs == u.devs) && t.fate == u.fate && (t.out.1 == u.out.1 && (t.out.2 == u.out.2 && true))
def Tr.small (t : Tr) : Prop := t.devs.length < 1000000
theorem p_SameTr (t u : Tr) (ht : t.small) (hu : u.small) : APure Try.prog n_fate_Same [.ag t.row, .ag u.row] (.b (sameTr t u)) := by
  have he := p_EqualI t.devs u.devs (Nat.lt_trans ht (by decide)) (Nat.lt_trans hu (by decide))
  refine apure_of h_fate_Same ?_; simp only [c_fate_Same, List.length_cons, List.length_nil, List.cons_append, List.nil_append, Nat.reduceAdd, Nat.reduceSub, List.reduceReplicate]
  (have hE := noX; repeat' (first
    | refine awp_seq ?_
    | (refine awp_reg fun nv => ?_)
    | ((first | refine aops_nil ?_ | refine awp_skip ?_ | refine awp_exit ?_ | refine awp_ret ?_); try simp only [thenQ, blockQ, if_true, if_false, Nat.reduceEqDiff, eq_self, reduceCtorEq, reduceIte])
    | (apply aops_one 0; (· exact nT28_5 hE))
    | (apply aops_call (hlf := h_slices_Equal_int_int); (· rfl); (· exact nT28_5 hE); (· exact pT28_); (· exact he); (· exact nput))
    | refine awp_block ?_
    | (apply awp_condt; (· exact nT28_5 hE))
    | (apply awp_condf; (· exact nT28_5 hE))
    | (apply awp_cond; (· exact nT28_5 hE); all_goals intro hc)
    | (apply aops_gsplit; (· rfl); (· exact nT28_5 hE); all_goals (intro hg; rw [hg])))); all_goals clear hE
  all_goals
    (apply awp_end [] (by first | exact .inl rfl | exact .inr rfl); (· exact nT28_1 (noX)))
    refine fz_res ?_ (.b _)
    simp only [tup, Bool.or_false, Bool.false_or, Bool.not_false, Bool.not_true, Bool.true_and, Bool.and_true, Bool.true_or, Bool.or_true, Bool.and_false, Bool.false_and, Bool.not_not, sameTr, *]
theorem p_brk1 (q : Query) (t u : Tr) : APure Try.prog n_query_broken_c1 [.ag q.row, .ag t.row, .ag u.row] (.b (!leavesB t q.b)) := by
  have hl := p_leaves t q.b
  refine apure_of h_query_broken_c1 ?_; simp only [c_query_broken_c1, List.length_cons, List.length_nil, List.cons_append, List.nil_append, Nat.reduceAdd, Nat.reduceSub, List.reduceReplicate]
  (have hE := noX; repeat' (first
    | refine awp_seq ?_
    | (refine awp_reg fun nv => ?_)
    | ((first | refine aops_nil ?_ | refine awp_skip ?_ | refine awp_exit ?_ | refine awp_ret ?_); try simp only [thenQ, blockQ, if_true, if_false, Nat.reduceEqDiff, eq_self, reduceCtorEq, reduceIte])
    | (apply aops_one 0; (· exact nT28_6 hE))
    | (apply aops_call (hlf := h_query_leaves); (· rfl); (· exact nT28_6 hE); (· exact pT28_); (· exact hl); (· exact nput))
    | refine awp_block ?_
    | (apply awp_condt; (· exact nT28_6 hE))
    | (apply awp_condf; (· exact nT28_6 hE))
    | (apply awp_cond; (· exact nT28_6 hE); all_goals intro hc)
    | (apply aops_gsplit; (· rfl); (· exact nT28_6 hE); all_goals (intro hg; rw [hg])))); all_goals clear hE
  all_goals
    (apply awp_end [] (by first | exact .inl rfl | exact .inr rfl); (· exact nT28_1 (noX)))
    exact fz_res rfl (.b _)
theorem p_brk2 (q : Query) (t u : Tr) : APure Try.prog n_query_broken_c2 [.ag q.row, .ag t.row, .ag u.row] (.b (t.fate == 4)) := by
  refine apure_of h_query_broken_c2 ?_; simp only [c_query_broken_c2, List.length_cons, List.length_nil, List.cons_append, List.nil_append, Nat.reduceAdd, Nat.reduceSub, List.reduceReplicate]
  (have hE := noX; repeat' (first
    | refine awp_seq ?_
    | (refine awp_reg fun nv => ?_)
    | ((first | refine aops_nil ?_ | refine awp_skip ?_ | refine awp_exit ?_ | refine awp_ret ?_); try simp only [thenQ, blockQ, if_true, if_false, Nat.reduceEqDiff, eq_self, reduceCtorEq, reduceIte])
    | (apply aops_one 0; (· exact nT28_6 hE))
    | refine awp_block ?_
    | (apply awp_condt; (· exact nT28_6 hE))
    | (apply awp_condf; (· exact nT28_6 hE))
    | (apply awp_cond; (· exact nT28_6 hE); all_goals intro hc)
    | (apply aops_gsplit; (· rfl); (· exact nT28_6 hE); all_goals (intro hg; rw [hg])))); all_goals clear hE
  all_goals
    (apply awp_end [] (by first | exact .inl rfl | exact .inr rfl); (· exact nT28_1 (noX)))
    exact fz_res rfl (.b _)
theorem p_brk3 (q : Query) (t u : Tr) : APure Try.prog n_query_broken_c3 [.ag q.row, .ag t.row, .ag u.row] (.b (t.fate == 0)) := by
  refine apure_of h_query_broken_c3 ?_; simp only [c_query_broken_c3, List.length_cons, List.length_nil, List.cons_append, List.nil_append, Nat.reduceAdd, Nat.reduceSub, List.reduceReplicate]
  (have hE := noX; repeat' (first
    | refine awp_seq ?_
    | (refine awp_reg fun nv => ?_)
    | ((first | refine aops_nil ?_ | refine awp_skip ?_ | refine awp_exit ?_ | refine awp_ret ?_); try simp only [thenQ, blockQ, if_true, if_false, Nat.reduceEqDiff, eq_self, reduceCtorEq, reduceIte])
    | (apply aops_one 0; (· exact nT28_6 hE))
    | refine awp_block ?_
    | (apply awp_condt; (· exact nT28_6 hE))
    | (apply awp_condf; (· exact nT28_6 hE))
    | (apply awp_cond; (· exact nT28_6 hE); all_goals intro hc)
    | (apply aops_gsplit; (· rfl); (· exact nT28_6 hE); all_goals (intro hg; rw [hg])))); all_goals clear hE
  all_goals
    (apply awp_end [] (by first | exact .inl rfl | exact .inr rfl); (· exact nT28_1 (noX)))
    exact fz_res rfl (.b _)
theorem p_brk4 (q : Query) (t u : Tr) (ht : t.small) : APure Try.prog n_query_broken_c4 [.ag q.row, .ag t.row, .ag u.row] (.b (t.devs.contains q.b)) := by
  have hl := p_Contains t.devs q.b (Nat.lt_trans ht (by decide))
  refine apure_of h_query_broken_c4 ?_; simp only [c_query_broken_c4, List.length_cons, List.length_nil, List.cons_append, List.nil_append, Nat.reduceAdd, Nat.reduceSub, List.reduceReplicate]
  (have hE := noX; repeat' (first
    | refine awp_seq ?_
    | (refine awp_reg fun nv => ?_)
    | ((first | refine aops_nil ?_ | refine awp_skip ?_ | refine awp_exit ?_ | refine awp_ret ?_); try simp only [thenQ, blockQ, if_true, if_false, Nat.reduceEqDiff, eq_self, reduceCtorEq, reduceIte])
    | (apply aops_one 0; (· exact nT28_6 hE))
    | (apply aops_call (hlf := h_slices_Contains_int_int); (· rfl); (· exact nT28_6 hE); (· exact pT28_); (· exact hl); (· exact nput))
    | refine awp_block ?_
    | (apply awp_condt; (· exact nT28_6 hE))
    | (apply awp_condf; (· exact nT28_6 hE))
    | (apply awp_cond; (· exact nT28_6 hE); all_goals intro hc)
    | (apply aops_gsplit; (· rfl); (· exact nT28_6 hE); all_goals (intro hg; rw [hg])))); all_goals clear hE
  all_goals
    (apply awp_end [] (by first | exact .inl rfl | exact .inr rfl); (· exact nT28_1 (noX)))
    exact fz_res rfl (.b _)
theorem p_brk5 (q : Query) (t u : Tr) (ht : t.small) : APure Try.prog n_query_broken_c5 [.ag q.row, .ag t.row, .ag u.row] (.b (leavesB t q.b && !t.devs.contains q.w)) := by
  have hl := p_leaves t q.b
  have hk := p_Contains t.devs q.w (Nat.lt_trans ht (by decide))
  refine apure_of h_query_broken_c5 ?_; simp only [c_query_broken_c5, List.length_cons, List.length_nil, List.cons_append, List.nil_append, Nat.reduceAdd, Nat.reduceSub, List.reduceReplicate]
  (have hE := noX; repeat' (first
    | refine awp_seq ?_
    | (refine awp_reg fun nv => ?_)
    | ((first | refine aops_nil ?_ | refine awp_skip ?_ | refine awp_exit ?_ | refine awp_ret ?_); try simp only [thenQ, blockQ, if_true, if_false, Nat.reduceEqDiff, eq_self, reduceCtorEq, reduceIte])
    | (apply aops_one 0; (· exact nT28_6 hE))
    | (apply aops_call (hlf := h_query_leaves); (· rfl); (· exact nT28_6 hE); (· exact pT28_); (· exact hl); (· exact nput))
    | (apply aops_call (hlf := h_slices_Contains_int_int); (· rfl); (· exact nT28_6 hE); (· exact pT28_); (· exact hk); (· exact nput))
    | refine awp_block ?_
    | (apply awp_condt; (· exact nT28_6 hE))
    | (apply awp_condf; (· exact nT28_6 hE))
    | (apply awp_cond; (· exact nT28_6 hE); all_goals intro hc)
    | (apply aops_gsplit; (· rfl); (· exact nT28_6 hE); all_goals (intro hg; rw [hg])))); all_goals clear hE
  all_goals
    (apply awp_end [] (by first | exact .inl rfl | exact .inr rfl); (· exact nT28_1 (noX)))
    refine fz_res ?_ (.b _)
    simp only [tup, Bool.or_false, Bool.false_or, Bool.not_false, Bool.not_true, Bool.true_and, Bool.and_true, Bool.true_or, Bool.or_true, Bool.and_false, Bool.false_and, Bool.not_not, *]
theorem p_brk6 (q : Query) (t u : Tr) (ht : t.small) (hu : u.small) : APure Try.prog n_query_broken_c6 [.ag q.row, .ag t.row, .ag u.row] (.b (!sameTr t u)) := by
  have hl := p_SameTr t u ht hu
  refine apure_of h_query_broken_c6 ?_; simp only [c_query_broken_c6, List.length_cons, List.length_nil, List.cons_append, List.nil_append, Nat.reduceAdd, Nat.reduceSub, List.reduceReplicate]
  (have hE := noX; repeat' (first
    | refine awp_seq ?_
    | (refine awp_reg fun nv => ?_)
    | ((first | refine aops_nil ?_ | refine awp_skip ?_ | refine awp_exit ?_ | refine awp_ret ?_); try simp only [thenQ, blockQ, if_true, if_false, Nat.reduceEqDiff, eq_self, reduceCtorEq, reduceIte])
    | (apply aops_one 0; (· exact nT28_6 hE))
    | (apply aops_call (hlf := h_fate_Same); (· rfl); (· exact nT28_6 hE); (· exact pT28_); (· exact hl); (· exact nput))
    | refine awp_block ?_
    | (apply awp_condt; (· exact nT28_6 hE))
    | (apply awp_condf; (· exact nT28_6 hE))
    | (apply awp_cond; (· exact nT28_6 hE); all_goals intro hc)
    | (apply aops_gsplit; (· rfl); (· exact nT28_6 hE); all_goals (intro hg; rw [hg])))); all_goals clear hE
  all_goals
    (apply awp_end [] (by first | exact .inl rfl | exact .inr rfl); (· exact nT28_1 (noX)))
    exact fz_res rfl (.b _)
def fnsB : List AV := [.fn n_query_broken_c1 [] [], .fn n_query_broken_c2 [] [], .fn n_query_broken_c3 [] [], .fn n_query_broken_c4 [] [], .fn n_query_broken_c5 [] [], .fn n_query_broken_c6 [] []]
theorem fnsB_pure : Pure (.ag fnsB) := .ag _ (by simp [fnsB, pure_fn])
theorem p_broken : APure Try.prog n_query_broken [] (.ag fnsB) := by
  refine apure_of h_query_broken ?_; simp only [c_query_broken, List.length_cons, List.length_nil, List.cons_append, List.nil_append, Nat.reduceAdd, Nat.reduceSub, List.reduceReplicate]
  (have hE := noX; repeat' (first
    | refine awp_seq ?_
    | (refine awp_reg fun nv => ?_)
    | ((first | refine aops_nil ?_ | refine awp_skip ?_ | refine awp_exit ?_ | refine awp_ret ?_); try simp only [thenQ, blockQ, if_true, if_false, Nat.reduceEqDiff, eq_self, reduceCtorEq, reduceIte])
    | (apply aops_one 0; (· exact nT28_1 hE))
    | refine awp_block ?_
    | (apply awp_condt; (· exact nT28_1 hE))
    | (apply awp_condf; (· exact nT28_1 hE))
    | (apply awp_cond; (· exact nT28_1 hE); all_goals intro hc)
    | (apply aops_gsplit; (· rfl); (· exact nT28_1 hE); all_goals (intro hg; rw [hg])))); all_goals clear hE
  all_goals
    (apply awp_end [] (by first | exact .inl rfl | exact .inr rfl); (· exact nT28_1 (noX)))
    exact fz_res rfl fnsB_pure
def breaksS (q : Query) (t u : Tr) : Bool :=
  if q.kind = 0 then !leavesB t q.b else if q.kind = 1 then t.fate == 4 else if q.kind = 2 then t.fate == 0 else if q.kind = 3 then t.devs.contains q.b
  else if q.kind = 4 then leavesB t q.b && !t.devs.contains q.w else if q.kind = 5 then !sameTr t u else false
set_option maxHeartbeats 4000000 in
theorem p_Breaks (n m : Net) (q : Query) (t u : Tr) (ht : t.small) (hu : u.small) (hk : 0 ≤ q.kind ∧ q.kind ≤ 5) :
    APure Try.prog n_query_Breaks [.ag [ePorts n.ports, eLinks n.links, eRules n.rules], .ag [ePorts m.ports, eLinks m.links, eRules m.rules], .ag q.row, .ag t.row, .ag u.row] (.b (breaksS q t u)) := by
  obtain ⟨k, a, b, w, f, to, ot⟩ := q
  simp only at hk
  have hk' : k = 0 ∨ k = 1 ∨ k = 2 ∨ k = 3 ∨ k = 4 ∨ k = 5 := by omega
  refine apure_of h_query_Breaks ?_; simp only [c_query_Breaks, List.length_cons, List.length_nil, List.cons_append, List.nil_append, Nat.reduceAdd, Nat.reduceSub, List.reduceReplicate]
  rcases hk' with rfl | rfl | rfl | rfl | rfl | rfl
  · have hp := p_brk1 ⟨0, a, b, w, f, to, ot⟩ t u
    (have hE := noX; repeat' (first
    | refine awp_seq ?_
    | (refine awp_reg fun nv => ?_)
    | (refine awp_regd mix fun nv => ?_)
    | ((first | refine aops_nil ?_ | refine adr_nil (by rfl) ?_ | refine awp_skip ?_ | refine awp_exit ?_ | refine awp_ret ?_); try simp only [thenQ, blockQ, if_true, if_false, Nat.reduceEqDiff, eq_self, reduceCtorEq, reduceIte])
    | ((first | apply aops_one 0 | apply adr_one 0); (· exact nT28_7 hE))
    | ((first | apply aops_call (hlf := h_query_broken) | apply adr_call (hlf := h_query_broken)); (· rfl); (· exact nT28_7 hE); (· exact pT28_); (· exact p_broken); (· exact nput))
    | ((first | apply aops_call (hlf := h_query_broken_c1) | apply adr_call (hlf := h_query_broken_c1)); (· rfl); (· exact nT28_7 hE); (· exact pT28_); (· exact hp); (· exact nput))
    | refine awp_block ?_
    | (apply awp_condt; (· exact nT28_7 hE))
    | (apply awp_condf; (· exact nT28_7 hE))
    | (apply awp_cond; (· exact nT28_7 hE); all_goals intro hc)
    | ((first | apply aops_gsplit | apply adr_gsplit); (· rfl); (· exact nT28_7 hE); all_goals (intro hg; rw [hg])))); all_goals clear hE
    all_goals
      (apply awp_end [] (by first | exact .inl rfl | exact .inr rfl); (· exact nT28_1 (noX)))
      exact fz_res rfl (.b _)
  · have hp := p_brk2 ⟨1, a, b, w, f, to, ot⟩ t u
    (have hE := noX; repeat' (first
    | refine awp_seq ?_
    | (refine awp_reg fun nv => ?_)
    | (refine awp_regd mix fun nv => ?_)
    | ((first | refine aops_nil ?_ | refine adr_nil (by rfl) ?_ | refine awp_skip ?_ | refine awp_exit ?_ | refine awp_ret ?_); try simp only [thenQ, blockQ, if_true, if_false, Nat.reduceEqDiff, eq_self, reduceCtorEq, reduceIte])
    | ((first | apply aops_one 0 | apply adr_one 0); (· exact nT28_7 hE))
    | ((first | apply aops_call (hlf := h_query_broken) | apply adr_call (hlf := h_query_broken)); (· rfl); (· exact nT28_7 hE); (· exact pT28_); (· exact p_broken); (· exact nput))
    | ((first | apply aops_call (hlf := h_query_broken_c2) | apply adr_call (hlf := h_query_broken_c2)); (· rfl); (· exact nT28_7 hE); (· exact pT28_); (· exact hp); (· exact nput))
    | refine awp_block ?_
    | (apply awp_condt; (· exact nT28_7 hE))
    | (apply awp_condf; (· exact nT28_7 hE))
    | (apply awp_cond; (· exact nT28_7 hE); all_goals intro hc)
    | ((first | apply aops_gsplit | apply adr_gsplit); (· rfl); (· exact nT28_7 hE); all_goals (intro hg; rw [hg])))); all_goals clear hE
    all_goals
      (apply awp_end [] (by first | exact .inl rfl | exact .inr rfl); (· exact nT28_1 (noX)))
      exact fz_res rfl (.b _)
  · have hp := p_brk3 ⟨2, a, b, w, f, to, ot⟩ t u
    (have hE := noX; repeat' (first
    | refine awp_seq ?_
    | (refine awp_reg fun nv => ?_)
    | (refine awp_regd mix fun nv => ?_)
    | ((first | refine aops_nil ?_ | refine adr_nil (by rfl) ?_ | refine awp_skip ?_ | refine awp_exit ?_ | refine awp_ret ?_); try simp only [thenQ, blockQ, if_true, if_false, Nat.reduceEqDiff, eq_self, reduceCtorEq, reduceIte])
    | ((first | apply aops_one 0 | apply adr_one 0); (· exact nT28_7 hE))
    | ((first | apply aops_call (hlf := h_query_broken) | apply adr_call (hlf := h_query_broken)); (· rfl); (· exact nT28_7 hE); (· exact pT28_); (· exact p_broken); (· exact nput))
    | ((first | apply aops_call (hlf := h_query_broken_c3) | apply adr_call (hlf := h_query_broken_c3)); (· rfl); (· exact nT28_7 hE); (· exact pT28_); (· exact hp); (· exact nput))
    | refine awp_block ?_
    | (apply awp_condt; (· exact nT28_7 hE))
    | (apply awp_condf; (· exact nT28_7 hE))
    | (apply awp_cond; (· exact nT28_7 hE); all_goals intro hc)
    | ((first | apply aops_gsplit | apply adr_gsplit); (· rfl); (· exact nT28_7 hE); all_goals (intro hg; rw [hg])))); all_goals clear hE
    all_goals
      (apply awp_end [] (by first | exact .inl rfl | exact .inr rfl); (· exact nT28_1 (noX)))
      exact fz_res rfl (.b _)
  · have hp := p_brk4 ⟨3, a, b, w, f, to, ot⟩ t u ht
    (have hE := noX; repeat' (first
    | refine awp_seq ?_
    | (refine awp_reg fun nv => ?_)
    | (refine awp_regd mix fun nv => ?_)
    | ((first | refine aops_nil ?_ | refine adr_nil (by rfl) ?_ | refine awp_skip ?_ | refine awp_exit ?_ | refine awp_ret ?_); try simp only [thenQ, blockQ, if_true, if_false, Nat.reduceEqDiff, eq_self, reduceCtorEq, reduceIte])
    | ((first | apply aops_one 0 | apply adr_one 0); (· exact nT28_7 hE))
    | ((first | apply aops_call (hlf := h_query_broken) | apply adr_call (hlf := h_query_broken)); (· rfl); (· exact nT28_7 hE); (· exact pT28_); (· exact p_broken); (· exact nput))
    | ((first | apply aops_call (hlf := h_query_broken_c4) | apply adr_call (hlf := h_query_broken_c4)); (· rfl); (· exact nT28_7 hE); (· exact pT28_); (· exact hp); (· exact nput))
    | refine awp_block ?_
    | (apply awp_condt; (· exact nT28_7 hE))
    | (apply awp_condf; (· exact nT28_7 hE))
    | (apply awp_cond; (· exact nT28_7 hE); all_goals intro hc)
    | ((first | apply aops_gsplit | apply adr_gsplit); (· rfl); (· exact nT28_7 hE); all_goals (intro hg; rw [hg])))); all_goals clear hE
    all_goals
      (apply awp_end [] (by first | exact .inl rfl | exact .inr rfl); (· exact nT28_1 (noX)))
      exact fz_res rfl (.b _)
  · have hp := p_brk5 ⟨4, a, b, w, f, to, ot⟩ t u ht
    (have hE := noX; repeat' (first
    | refine awp_seq ?_
    | (refine awp_reg fun nv => ?_)
    | (refine awp_regd mix fun nv => ?_)
    | ((first | refine aops_nil ?_ | refine adr_nil (by rfl) ?_ | refine awp_skip ?_ | refine awp_exit ?_ | refine awp_ret ?_); try simp only [thenQ, blockQ, if_true, if_false, Nat.reduceEqDiff, eq_self, reduceCtorEq, reduceIte])
    | ((first | apply aops_one 0 | apply adr_one 0); (· exact nT28_7 hE))
    | ((first | apply aops_call (hlf := h_query_broken) | apply adr_call (hlf := h_query_broken)); (· rfl); (· exact nT28_7 hE); (· exact pT28_); (· exact p_broken); (· exact nput))
    | ((first | apply aops_call (hlf := h_query_broken_c5) | apply adr_call (hlf := h_query_broken_c5)); (· rfl); (· exact nT28_7 hE); (· exact pT28_); (· exact hp); (· exact nput))
    | refine awp_block ?_
    | (apply awp_condt; (· exact nT28_7 hE))
    | (apply awp_condf; (· exact nT28_7 hE))
    | (apply awp_cond; (· exact nT28_7 hE); all_goals intro hc)
    | ((first | apply aops_gsplit | apply adr_gsplit); (· rfl); (· exact nT28_7 hE); all_goals (intro hg; rw [hg])))); all_goals clear hE
    all_goals
      (apply awp_end [] (by first | exact .inl rfl | exact .inr rfl); (· exact nT28_1 (noX)))
      exact fz_res rfl (.b _)
  · have hp := p_brk6 ⟨5, a, b, w, f, to, ot⟩ t u ht hu
    (have hE := noX; repeat' (first
    | refine awp_seq ?_
    | (refine awp_reg fun nv => ?_)
    | (refine awp_regd mix fun nv => ?_)
    | ((first | refine aops_nil ?_ | refine adr_nil (by rfl) ?_ | refine awp_skip ?_ | refine awp_exit ?_ | refine awp_ret ?_); try simp only [thenQ, blockQ, if_true, if_false, Nat.reduceEqDiff, eq_self, reduceCtorEq, reduceIte])
    | ((first | apply aops_one 0 | apply adr_one 0); (· exact nT28_7 hE))
    | ((first | apply aops_call (hlf := h_query_broken) | apply adr_call (hlf := h_query_broken)); (· rfl); (· exact nT28_7 hE); (· exact pT28_); (· exact p_broken); (· exact nput))
    | ((first | apply aops_call (hlf := h_query_broken_c6) | apply adr_call (hlf := h_query_broken_c6)); (· rfl); (· exact nT28_7 hE); (· exact pT28_); (· exact hp); (· exact nput))
    | refine awp_block ?_
    | (apply awp_condt; (· exact nT28_7 hE))
    | (apply awp_condf; (· exact nT28_7 hE))
    | (apply awp_cond; (· exact nT28_7 hE); all_goals intro hc)
    | ((first | apply aops_gsplit | apply adr_gsplit); (· rfl); (· exact nT28_7 hE); all_goals (intro hg; rw [hg])))); all_goals clear hE
    all_goals
      (apply awp_end [] (by first | exact .inl rfl | exact .inr rfl); (· exact nT28_1 (noX)))
      exact fz_res rfl (.b _)
end Go.Proofs.Ytibkakodokbobaa
