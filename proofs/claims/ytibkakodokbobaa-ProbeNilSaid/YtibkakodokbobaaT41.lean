import Derived.Test.YtibkakodokbobaaT40
namespace Go.Proofs.Ytibkakodokbobaa
open Go.Am
set_option maxRecDepth 100000
set_option linter.unusedSimpArgs false
set_option linter.unusedVariables false
theorem nT41_0 {E A : Prop} (e : E) (h : E → A := by (intro hE; simp only [aone, aoneT, gval, astep, aev, val, abin, abinI, abinS, aun, aeqn, aeqL, aeq1, put, upds, sset, sget, aload, astore, aobj, acut, cells_b, one_b, cells_i, one_i, cells_s, one_s, cells_nilp, one_nilp, cells_ref, one_ref, cells_ptr, one_ptr, cells_esl, one_esl, cells_sl, one_sl, cells_row, one_row, cells_fn, one_fn, cells_nilf, one_nilf, cells_nilm, one_nilm, cells_mp, one_mp, cells_mpr, one_mpr, cells_ag, anilck, afieldAddr, aindex, aindexAddr, alen, afill, afillR, aminmax, aminmax.aminmaxI, isNeq, sdl, kin, acall, ares, ares1, arows, aappend, aslice, asliceS, asliceR, aslice0, abnd, List.set_cons_succ, List.set_cons_zero, List.getD_cons_succ, List.getD_cons_zero, List.getElem?_cons_succ, List.getElem?_cons_zero, List.map_cons, List.map_nil, List.cons_append, List.nil_append, List.append_nil, List.length_cons, List.length_nil, List.take_succ_cons, List.take_zero, List.drop_succ_cons, List.drop_zero, List.all_cons, List.all_nil, List.replicate, Nat.reduceAdd, Nat.reduceSub, Nat.reduceMul, Nat.reduceLT, Nat.reduceLeDiff, Nat.reduceEqDiff, Nat.zero_add, Nat.add_zero, Nat.zero_mul, Option.map_some, Option.map_none, Option.bind_some, Option.bind_eq_bind, Option.getD_some, Option.getD_none, Option.isSome_some, Option.isSome_none, Option.toList, if_true, if_false, and_self, and_true, true_and, and_false, false_and, Prod.mk.injEq, Bool.false_eq_true, Bool.true_eq_false, beq_self_eq_true, Bool.not_true, Bool.not_false, Bool.and_self, Bool.and_true, Bool.true_and, decide_true, decide_false, beq_true, beq_false, Bool.not_not, reduceCtorEq, Nat.le_refl, Int.reduceNeg, reduceIte, Nat.reduceBEq, Int.reduceBEq, Int.reduceLT, Int.reduceLE, Int.reduceToNat, decide_eq_true_eq, not_false_eq_true, not_true_eq_false, ne_eq, devV_cells, devV_one, eLinks_cells, eLinks_one, ePorts_cells, ePorts_one, eRanges_cells, eRanges_one, eRules_cells, eRules_one, nxV_cells, nxV_one, ver0, hE] <;> rfl)) : A := h e
theorem nT41_1 {E A : Prop} (e : E) (h : E → A := by (intro hE; simp only [aone, aoneT, gval, astep, aev, val, abin, abinI, abinS, aun, aeqn, aeqL, aeq1, put, upds, sset, sget, aload, astore, aobj, acut, cells_b, one_b, cells_i, one_i, cells_s, one_s, cells_nilp, one_nilp, cells_ref, one_ref, cells_ptr, one_ptr, cells_esl, one_esl, cells_sl, one_sl, cells_row, one_row, cells_fn, one_fn, cells_nilf, one_nilf, cells_nilm, one_nilm, cells_mp, one_mp, cells_mpr, one_mpr, cells_ag, anilck, afieldAddr, aindex, aindexAddr, alen, afill, afillR, aminmax, aminmax.aminmaxI, isNeq, sdl, kin, acall, ares, ares1, arows, aappend, aslice, asliceS, asliceR, aslice0, abnd, List.set_cons_succ, List.set_cons_zero, List.getD_cons_succ, List.getD_cons_zero, List.getElem?_cons_succ, List.getElem?_cons_zero, List.map_cons, List.map_nil, List.cons_append, List.nil_append, List.append_nil, List.length_cons, List.length_nil, List.take_succ_cons, List.take_zero, List.drop_succ_cons, List.drop_zero, List.all_cons, List.all_nil, List.replicate, Nat.reduceAdd, Nat.reduceSub, Nat.reduceMul, Nat.reduceLT, Nat.reduceLeDiff, Nat.reduceEqDiff, Nat.zero_add, Nat.add_zero, Nat.zero_mul, Option.map_some, Option.map_none, Option.bind_some, Option.bind_eq_bind, Option.getD_some, Option.getD_none, Option.isSome_some, Option.isSome_none, Option.toList, if_true, if_false, and_self, and_true, true_and, and_false, false_and, Prod.mk.injEq, Bool.false_eq_true, Bool.true_eq_false, beq_self_eq_true, Bool.not_true, Bool.not_false, Bool.and_self, Bool.and_true, Bool.true_and, decide_true, decide_false, beq_true, beq_false, Bool.not_not, reduceCtorEq, Nat.le_refl, Int.reduceNeg, reduceIte, Nat.reduceBEq, Int.reduceBEq, Int.reduceLT, Int.reduceLE, Int.reduceToNat, decide_eq_true_eq, not_false_eq_true, not_true_eq_false, ne_eq, devV_cells, devV_one, eLinks_cells, eLinks_one, ePorts_cells, ePorts_one, eRanges_cells, eRanges_one, eRules_cells, eRules_one, nxV_cells, nxV_one, hE] <;> rfl)) : A := h e
theorem pT41_ {A : Prop} (h : A := by (simp only [List.forall_mem_cons, List.forall_mem_nil, List.not_mem_nil, false_imp_iff, implies_true, List.forall_mem_map, pure_b, pure_i, pure_s, pure_nilp, pure_nilf, pure_esl, pure_ref, pure_sl, pure_ag, pure_tu, pure_fn, and_self, and_true, true_and, eRules_pure, ePorts_pure, eLinks_pure, eRanges_pure]; done)) : A := h
/-! ### ProbeNil -/
def v0 : Ver := ⟨false, 0, 0, ⟨[], 0, (0, 0)⟩⟩
theorem ver0_fz {σ : Store} : Fz σ [] ver0 (.ag v0.row) :=
  fz_ag (fzl_cons (fz_eq' rfl (.b _)) (fzl_cons (fz_eq' rfl (.i _ _)) (fzl_cons (fz_eq' rfl (.i _ _)) (fzl_cons .esl (fzl_cons (fz_eq' rfl (.i _ _)) (fzl_cons (fz_eq' rfl (.i _ _)) (fzl_cons (fz_eq' rfl (.i _ _)) fzl_nil)))))))
set_option maxHeartbeats 4000000 in
theorem p_ProbeNil (f : Int) : APure Try.prog n_l13_ProbeNil [.i .i64 f] (.b true) := by
  have hs : APure Try.prog n_r12_Same [.ag v0.row, .ag v0.row] (.b true) := p_r12Same v0 v0 (by decide) (by decide)
  refine apure_of h_l13_ProbeNil ?_; simp only [c_l13_ProbeNil, List.length_cons, List.length_nil, List.cons_append, List.nil_append, Nat.reduceAdd, Nat.reduceSub, List.reduceReplicate]
  (have hE := noX; repeat' (first
    | refine awp_seq ?_
    | (refine awp_reg fun nv => ?_)
    | ((first | refine aops_nil ?_ | refine awp_skip ?_ | refine awp_exit ?_ | refine awp_ret ?_); try simp only [thenQ, blockQ, if_true, if_false, Nat.reduceEqDiff, eq_self, reduceCtorEq, reduceIte])
    | (apply aops_one 0; (· exact nT41_0 hE))
    | (apply aops_call (hlf := h_probe_Probe_Step); (· rfl); (· exact nT41_0 hE); (· exact pT41_); (· exact (p_StepNil f)); (· exact nput))
    | (apply aops_call (hlf := h_probe_Probe_Verdict); (· rfl); (· exact nT41_0 hE); (· exact pT41_); (· exact p_VerdictNil); (· exact nput))
    | (apply aops_callf [] (hlf := h_r12_Same); (· rfl); (· exact nT41_0 hE); (· exact (fzl_cons ver0_fz (fzl_cons ver0_fz fzl_nil))); (· exact hs); (· exact (.b _)); (· exact nput))
    | (apply aops_call (hlf := h_l13_alive); (· rfl); (· exact nT41_0 hE); (· exact pT41_); (· exact p_alive); (· exact nput))
    | (apply aops_call (hlf := h_probe_Probe_Done); (· rfl); (· exact nT41_0 hE); (· exact pT41_); (· exact p_DoneNil); (· exact nput))
    | refine awp_block ?_
    | (apply awp_condt; (· exact nT41_0 hE))
    | (apply awp_condf; (· exact nT41_0 hE))
    | (apply awp_cond; (· exact nT41_0 hE); all_goals intro hc)
    | (apply aops_gsplit; (· rfl); (· exact nT41_0 hE); all_goals (intro hg; rw [hg])))); all_goals clear hE
  all_goals
    (apply awp_end [] (by first | exact .inl rfl | exact .inr rfl); (· exact nT41_1 (noX)))
    exact fz_res rfl (.b _)
end Go.Proofs.Ytibkakodokbobaa
