import Derived.Test.YtibkakodokbobaaT22
namespace Go.Proofs.Ytibkakodokbobaa
open Go.Am
set_option maxRecDepth 100000
set_option linter.unusedSimpArgs false
set_option linter.unusedVariables false
theorem nT23_0 {E A : Prop} (e : E) (h : E → A := by (intro hE; simp only [aone, aoneT, gval, astep, aev, val, abin, abinI, abinS, aun, aeqn, aeqL, aeq1, put, upds, sset, sget, aload, astore, aobj, acut, cells_b, one_b, cells_i, one_i, cells_s, one_s, cells_nilp, one_nilp, cells_ref, one_ref, cells_ptr, one_ptr, cells_esl, one_esl, cells_sl, one_sl, cells_row, one_row, cells_fn, one_fn, cells_nilf, one_nilf, cells_nilm, one_nilm, cells_mp, one_mp, cells_mpr, one_mpr, cells_ag, anilck, afieldAddr, aindex, aindexAddr, alen, afill, afillR, aminmax, aminmax.aminmaxI, isNeq, sdl, kin, acall, ares, ares1, arows, aappend, aslice, asliceS, asliceR, aslice0, abnd, List.set_cons_succ, List.set_cons_zero, List.getD_cons_succ, List.getD_cons_zero, List.getElem?_cons_succ, List.getElem?_cons_zero, List.map_cons, List.map_nil, List.cons_append, List.nil_append, List.append_nil, List.length_cons, List.length_nil, List.take_succ_cons, List.take_zero, List.drop_succ_cons, List.drop_zero, List.all_cons, List.all_nil, List.replicate, Nat.reduceAdd, Nat.reduceSub, Nat.reduceMul, Nat.reduceLT, Nat.reduceLeDiff, Nat.reduceEqDiff, Nat.zero_add, Nat.add_zero, Nat.zero_mul, Option.map_some, Option.map_none, Option.bind_some, Option.bind_eq_bind, Option.getD_some, Option.getD_none, Option.isSome_some, Option.isSome_none, Option.toList, if_true, if_false, and_self, and_true, true_and, and_false, false_and, Prod.mk.injEq, Bool.false_eq_true, Bool.true_eq_false, beq_self_eq_true, Bool.not_true, Bool.not_false, Bool.and_self, Bool.and_true, Bool.true_and, decide_true, decide_false, beq_true, beq_false, Bool.not_not, reduceCtorEq, Nat.le_refl, Int.reduceNeg, reduceIte, Nat.reduceBEq, Int.reduceBEq, Int.reduceLT, Int.reduceLE, Int.reduceToNat, decide_eq_true_eq, not_false_eq_true, not_true_eq_false, ne_eq, List.length_map, eLinks_cells, eLinks_one, ePorts_cells, ePorts_one, eRules, eRules_cells, eRules_one, hE] <;> rfl)) : A := h e
theorem nT23_1 {E A : Prop} (e : E) (h : E → A := by (intro hE; simp only [aone, aoneT, gval, astep, aev, val, abin, abinI, abinS, aun, aeqn, aeqL, aeq1, put, upds, sset, sget, aload, astore, aobj, acut, cells_b, one_b, cells_i, one_i, cells_s, one_s, cells_nilp, one_nilp, cells_ref, one_ref, cells_ptr, one_ptr, cells_esl, one_esl, cells_sl, one_sl, cells_row, one_row, cells_fn, one_fn, cells_nilf, one_nilf, cells_nilm, one_nilm, cells_mp, one_mp, cells_mpr, one_mpr, cells_ag, anilck, afieldAddr, aindex, aindexAddr, alen, afill, afillR, aminmax, aminmax.aminmaxI, isNeq, sdl, kin, acall, ares, ares1, arows, aappend, aslice, asliceS, asliceR, aslice0, abnd, List.set_cons_succ, List.set_cons_zero, List.getD_cons_succ, List.getD_cons_zero, List.getElem?_cons_succ, List.getElem?_cons_zero, List.map_cons, List.map_nil, List.cons_append, List.nil_append, List.append_nil, List.length_cons, List.length_nil, List.take_succ_cons, List.take_zero, List.drop_succ_cons, List.drop_zero, List.all_cons, List.all_nil, List.replicate, Nat.reduceAdd, Nat.reduceSub, Nat.reduceMul, Nat.reduceLT, Nat.reduceLeDiff, Nat.reduceEqDiff, Nat.zero_add, Nat.add_zero, Nat.zero_mul, Option.map_some, Option.map_none, Option.bind_some, Option.bind_eq_bind, Option.getD_some, Option.getD_none, Option.isSome_some, Option.isSome_none, Option.toList, if_true, if_false, and_self, and_true, true_and, and_false, false_and, Prod.mk.injEq, Bool.false_eq_true, Bool.true_eq_false, beq_self_eq_true, Bool.not_true, Bool.not_false, Bool.and_self, Bool.and_true, Bool.true_and, decide_true, decide_false, beq_true, beq_false, Bool.not_not, reduceCtorEq, Nat.le_refl, Int.reduceNeg, reduceIte, Nat.reduceBEq, Int.reduceBEq, Int.reduceLT, Int.reduceLE, Int.reduceToNat, decide_eq_true_eq, not_false_eq_true, not_true_eq_false, ne_eq, Int.toNat_natCast, List.length_map, cells7, eLinks_cells, eLinks_one, ePorts_cells, ePorts_one, eRules_cells, eRules_one, zrow, hE] <;> rfl)) : A := h e
theorem nT23_2 {E A : Prop} (e : E) (h : E → A := by (intro hE; simp only [aone, aoneT, gval, astep, aev, val, abin, abinI, abinS, aun, aeqn, aeqL, aeq1, put, upds, sset, sget, aload, astore, aobj, acut, cells_b, one_b, cells_i, one_i, cells_s, one_s, cells_nilp, one_nilp, cells_ref, one_ref, cells_ptr, one_ptr, cells_esl, one_esl, cells_sl, one_sl, cells_row, one_row, cells_fn, one_fn, cells_nilf, one_nilf, cells_nilm, one_nilm, cells_mp, one_mp, cells_mpr, one_mpr, cells_ag, anilck, afieldAddr, aindex, aindexAddr, alen, afill, afillR, aminmax, aminmax.aminmaxI, isNeq, sdl, kin, acall, ares, ares1, arows, aappend, aslice, asliceS, asliceR, aslice0, abnd, List.set_cons_succ, List.set_cons_zero, List.getD_cons_succ, List.getD_cons_zero, List.getElem?_cons_succ, List.getElem?_cons_zero, List.map_cons, List.map_nil, List.cons_append, List.nil_append, List.append_nil, List.length_cons, List.length_nil, List.take_succ_cons, List.take_zero, List.drop_succ_cons, List.drop_zero, List.all_cons, List.all_nil, List.replicate, Nat.reduceAdd, Nat.reduceSub, Nat.reduceMul, Nat.reduceLT, Nat.reduceLeDiff, Nat.reduceEqDiff, Nat.zero_add, Nat.add_zero, Nat.zero_mul, Option.map_some, Option.map_none, Option.bind_some, Option.bind_eq_bind, Option.getD_some, Option.getD_none, Option.isSome_some, Option.isSome_none, Option.toList, if_true, if_false, and_self, and_true, true_and, and_false, false_and, Prod.mk.injEq, Bool.false_eq_true, Bool.true_eq_false, beq_self_eq_true, Bool.not_true, Bool.not_false, Bool.and_self, Bool.and_true, Bool.true_and, decide_true, decide_false, beq_true, beq_false, Bool.not_not, reduceCtorEq, Nat.le_refl, Int.reduceNeg, reduceIte, Nat.reduceBEq, Int.reduceBEq, Int.reduceLT, Int.reduceLE, Int.reduceToNat, decide_eq_true_eq, not_false_eq_true, not_true_eq_false, ne_eq, List.length_map, cells7, eLinks_cells, eLinks_one, ePorts_cells, ePorts_one, eRules_cells, eRules_one, zrow, hE] <;> rfl)) : A := h e
theorem nT23_3 {E A : Prop} (e : E) (h : E → A := by (intro hE; simp only [aone, aoneT, gval, astep, aev, val, abin, abinI, abinS, aun, aeqn, aeqL, aeq1, put, upds, sset, sget, aload, astore, aobj, acut, cells_b, one_b, cells_i, one_i, cells_s, one_s, cells_nilp, one_nilp, cells_ref, one_ref, cells_ptr, one_ptr, cells_esl, one_esl, cells_sl, one_sl, cells_row, one_row, cells_fn, one_fn, cells_nilf, one_nilf, cells_nilm, one_nilm, cells_mp, one_mp, cells_mpr, one_mpr, cells_ag, anilck, afieldAddr, aindex, aindexAddr, alen, afill, afillR, aminmax, aminmax.aminmaxI, isNeq, sdl, kin, acall, ares, ares1, arows, aappend, aslice, asliceS, asliceR, aslice0, abnd, List.set_cons_succ, List.set_cons_zero, List.getD_cons_succ, List.getD_cons_zero, List.getElem?_cons_succ, List.getElem?_cons_zero, List.map_cons, List.map_nil, List.cons_append, List.nil_append, List.append_nil, List.length_cons, List.length_nil, List.take_succ_cons, List.take_zero, List.drop_succ_cons, List.drop_zero, List.all_cons, List.all_nil, List.replicate, Nat.reduceAdd, Nat.reduceSub, Nat.reduceMul, Nat.reduceLT, Nat.reduceLeDiff, Nat.reduceEqDiff, Nat.zero_add, Nat.add_zero, Nat.zero_mul, Option.map_some, Option.map_none, Option.bind_some, Option.bind_eq_bind, Option.getD_some, Option.getD_none, Option.isSome_some, Option.isSome_none, Option.toList, if_true, if_false, and_self, and_true, true_and, and_false, false_and, Prod.mk.injEq, Bool.false_eq_true, Bool.true_eq_false, beq_self_eq_true, Bool.not_true, Bool.not_false, Bool.and_self, Bool.and_true, Bool.true_and, decide_true, decide_false, beq_true, beq_false, Bool.not_not, reduceCtorEq, Nat.le_refl, Int.reduceNeg, reduceIte, Nat.reduceBEq, Int.reduceBEq, Int.reduceLT, Int.reduceLE, Int.reduceToNat, decide_eq_true_eq, not_false_eq_true, not_true_eq_false, ne_eq, eLinks_cells, eLinks_one, ePorts_cells, ePorts_one, eRules_cells, eRules_one, hE] <;> rfl)) : A := h e
theorem nT23_4 {E A : Prop} (e : E) (h : E → A := by (intro hE; simp only [aone, aoneT, gval, astep, aev, val, abin, abinI, abinS, aun, aeqn, aeqL, aeq1, put, upds, sset, sget, aload, astore, aobj, acut, cells_b, one_b, cells_i, one_i, cells_s, one_s, cells_nilp, one_nilp, cells_ref, one_ref, cells_ptr, one_ptr, cells_esl, one_esl, cells_sl, one_sl, cells_row, one_row, cells_fn, one_fn, cells_nilf, one_nilf, cells_nilm, one_nilm, cells_mp, one_mp, cells_mpr, one_mpr, cells_ag, anilck, afieldAddr, aindex, aindexAddr, alen, afill, afillR, aminmax, aminmax.aminmaxI, isNeq, sdl, kin, acall, ares, ares1, arows, aappend, aslice, asliceS, asliceR, aslice0, abnd, List.set_cons_succ, List.set_cons_zero, List.getD_cons_succ, List.getD_cons_zero, List.getElem?_cons_succ, List.getElem?_cons_zero, List.map_cons, List.map_nil, List.cons_append, List.nil_append, List.append_nil, List.length_cons, List.length_nil, List.take_succ_cons, List.take_zero, List.drop_succ_cons, List.drop_zero, List.all_cons, List.all_nil, List.replicate, Nat.reduceAdd, Nat.reduceSub, Nat.reduceMul, Nat.reduceLT, Nat.reduceLeDiff, Nat.reduceEqDiff, Nat.zero_add, Nat.add_zero, Nat.zero_mul, Option.map_some, Option.map_none, Option.bind_some, Option.bind_eq_bind, Option.getD_some, Option.getD_none, Option.isSome_some, Option.isSome_none, Option.toList, if_true, if_false, and_self, and_true, true_and, and_false, false_and, Prod.mk.injEq, Bool.false_eq_true, Bool.true_eq_false, beq_self_eq_true, Bool.not_true, Bool.not_false, Bool.and_self, Bool.and_true, Bool.true_and, decide_true, decide_false, beq_true, beq_false, Bool.not_not, reduceCtorEq, Nat.le_refl, Int.reduceNeg, reduceIte, Nat.reduceBEq, Int.reduceBEq, Int.reduceLT, Int.reduceLE, Int.reduceToNat, decide_eq_true_eq, not_false_eq_true, not_true_eq_false, ne_eq, List.map_nil, eLinks_cells, eLinks_one, ePorts_cells, ePorts_one, eRules, eRules_cells, eRules_one, hE] <;> rfl)) : A := h e
theorem nT23_5 {E A : Prop} (e : E) (h : E → A := by (intro hE; simp only [aone, aoneT, gval, astep, aev, val, abin, abinI, abinS, aun, aeqn, aeqL, aeq1, put, upds, sset, sget, aload, astore, aobj, acut, cells_b, one_b, cells_i, one_i, cells_s, one_s, cells_nilp, one_nilp, cells_ref, one_ref, cells_ptr, one_ptr, cells_esl, one_esl, cells_sl, one_sl, cells_row, one_row, cells_fn, one_fn, cells_nilf, one_nilf, cells_nilm, one_nilm, cells_mp, one_mp, cells_mpr, one_mpr, cells_ag, anilck, afieldAddr, aindex, aindexAddr, alen, afill, afillR, aminmax, aminmax.aminmaxI, isNeq, sdl, kin, acall, ares, ares1, arows, aappend, aslice, asliceS, asliceR, aslice0, abnd, List.set_cons_succ, List.set_cons_zero, List.getD_cons_succ, List.getD_cons_zero, List.getElem?_cons_succ, List.getElem?_cons_zero, List.map_cons, List.map_nil, List.cons_append, List.nil_append, List.append_nil, List.length_cons, List.length_nil, List.take_succ_cons, List.take_zero, List.drop_succ_cons, List.drop_zero, List.all_cons, List.all_nil, List.replicate, Nat.reduceAdd, Nat.reduceSub, Nat.reduceMul, Nat.reduceLT, Nat.reduceLeDiff, Nat.reduceEqDiff, Nat.zero_add, Nat.add_zero, Nat.zero_mul, Option.map_some, Option.map_none, Option.bind_some, Option.bind_eq_bind, Option.getD_some, Option.getD_none, Option.isSome_some, Option.isSome_none, Option.toList, if_true, if_false, and_self, and_true, true_and, and_false, false_and, Prod.mk.injEq, Bool.false_eq_true, Bool.true_eq_false, beq_self_eq_true, Bool.not_true, Bool.not_false, Bool.and_self, Bool.and_true, Bool.true_and, decide_true, decide_false, beq_true, beq_false, Bool.not_not, reduceCtorEq, Nat.le_refl, Int.reduceNeg, reduceIte, Nat.reduceBEq, Int.reduceBEq, Int.reduceLT, Int.reduceLE, Int.reduceToNat, decide_eq_true_eq, not_false_eq_true, not_true_eq_false, ne_eq, eLinks_cells, eLinks_one, ePorts_cells, ePorts_one, eRules, eRules_cells, eRules_one, hE] <;> rfl)) : A := h e
theorem nT23_6 {E A : Prop} (e : E) (h : E → A := by (intro hE; simp only [aone, aoneT, gval, astep, aev, val, abin, abinI, abinS, aun, aeqn, aeqL, aeq1, put, upds, sset, sget, aload, astore, aobj, acut, cells_b, one_b, cells_i, one_i, cells_s, one_s, cells_nilp, one_nilp, cells_ref, one_ref, cells_ptr, one_ptr, cells_esl, one_esl, cells_sl, one_sl, cells_row, one_row, cells_fn, one_fn, cells_nilf, one_nilf, cells_nilm, one_nilm, cells_mp, one_mp, cells_mpr, one_mpr, cells_ag, anilck, afieldAddr, aindex, aindexAddr, alen, afill, afillR, aminmax, aminmax.aminmaxI, isNeq, sdl, kin, acall, ares, ares1, arows, aappend, aslice, asliceS, asliceR, aslice0, abnd, List.set_cons_succ, List.set_cons_zero, List.getD_cons_succ, List.getD_cons_zero, List.getElem?_cons_succ, List.getElem?_cons_zero, List.map_cons, List.map_nil, List.cons_append, List.nil_append, List.append_nil, List.length_cons, List.length_nil, List.take_succ_cons, List.take_zero, List.drop_succ_cons, List.drop_zero, List.all_cons, List.all_nil, List.replicate, Nat.reduceAdd, Nat.reduceSub, Nat.reduceMul, Nat.reduceLT, Nat.reduceLeDiff, Nat.reduceEqDiff, Nat.zero_add, Nat.add_zero, Nat.zero_mul, Option.map_some, Option.map_none, Option.bind_some, Option.bind_eq_bind, Option.getD_some, Option.getD_none, Option.isSome_some, Option.isSome_none, Option.toList, if_true, if_false, and_self, and_true, true_and, and_false, false_and, Prod.mk.injEq, Bool.false_eq_true, Bool.true_eq_false, beq_self_eq_true, Bool.not_true, Bool.not_false, Bool.and_self, Bool.and_true, Bool.true_and, decide_true, decide_false, beq_true, beq_false, Bool.not_not, reduceCtorEq, Nat.le_refl, Int.reduceNeg, reduceIte, Nat.reduceBEq, Int.reduceBEq, Int.reduceLT, Int.reduceLE, Int.reduceToNat, decide_eq_true_eq, not_false_eq_true, not_true_eq_false, ne_eq, Rule.row, eLinks_cells, eLinks_one, ePorts_cells, ePorts_one, eRuleO, eRules_cells, eRules_one, zrow, hE] <;> rfl)) : A := h e
theorem nT23_7 {E A : Prop} (e : E) (h : E → A := by (intro hE; simp only [aone, aoneT, gval, astep, aev, val, abin, abinI, abinS, aun, aeqn, aeqL, aeq1, put, upds, sset, sget, aload, astore, aobj, acut, cells_b, one_b, cells_i, one_i, cells_s, one_s, cells_nilp, one_nilp, cells_ref, one_ref, cells_ptr, one_ptr, cells_esl, one_esl, cells_sl, one_sl, cells_row, one_row, cells_fn, one_fn, cells_nilf, one_nilf, cells_nilm, one_nilm, cells_mp, one_mp, cells_mpr, one_mpr, cells_ag, anilck, afieldAddr, aindex, aindexAddr, alen, afill, afillR, aminmax, aminmax.aminmaxI, isNeq, sdl, kin, acall, ares, ares1, arows, aappend, aslice, asliceS, asliceR, aslice0, abnd, List.set_cons_succ, List.set_cons_zero, List.getD_cons_succ, List.getD_cons_zero, List.getElem?_cons_succ, List.getElem?_cons_zero, List.map_cons, List.map_nil, List.cons_append, List.nil_append, List.append_nil, List.length_cons, List.length_nil, List.take_succ_cons, List.take_zero, List.drop_succ_cons, List.drop_zero, List.all_cons, List.all_nil, List.replicate, Nat.reduceAdd, Nat.reduceSub, Nat.reduceMul, Nat.reduceLT, Nat.reduceLeDiff, Nat.reduceEqDiff, Nat.zero_add, Nat.add_zero, Nat.zero_mul, Option.map_some, Option.map_none, Option.bind_some, Option.bind_eq_bind, Option.getD_some, Option.getD_none, Option.isSome_some, Option.isSome_none, Option.toList, if_true, if_false, and_self, and_true, true_and, and_false, false_and, Prod.mk.injEq, Bool.false_eq_true, Bool.true_eq_false, beq_self_eq_true, Bool.not_true, Bool.not_false, Bool.and_self, Bool.and_true, Bool.true_and, decide_true, decide_false, beq_true, beq_false, Bool.not_not, reduceCtorEq, Nat.le_refl, Int.reduceNeg, reduceIte, Nat.reduceBEq, Int.reduceBEq, Int.reduceLT, Int.reduceLE, Int.reduceToNat, decide_eq_true_eq, not_false_eq_true, not_true_eq_false, ne_eq, Rule.row, eLinks_cells, eLinks_one, ePorts_cells, ePorts_one, eRuleO, eRules_cells, eRules_one, hE] <;> rfl)) : A := h e
theorem pT23_ {A : Prop} (h : A := by (simp only [List.forall_mem_cons, List.forall_mem_nil, List.not_mem_nil, false_imp_iff, implies_true, List.forall_mem_map, pure_b, pure_i, pure_s, pure_nilp, pure_nilf, pure_esl, pure_ref, pure_sl, pure_ag, pure_tu, pure_fn, and_self, and_true, true_and, eRules_pure, ePorts_pure, eLinks_pure]; done)) : A := h
/-! ### slices.MinFunc, rule.first, Match, Denies -/
theorem rows_len (l : List Rule) : ∀ r ∈ l.map Rule.row, r.length = 7 := fun r hr => by obtain ⟨a, _, rfl⟩ := List.mem_map.1 hr; rfl
theorem rows_pure (l : List Rule) : ∀ r ∈ l.map Rule.row, ∀ x ∈ r, Pure x := fun r hr => by obtain ⟨a, _, rfl⟩ := List.mem_map.1 hr; simp [Rule.row, pure_i]
def lessR (m r : Rule) : Rule := if aheadI r m < 0 then r else m
def minAt (l : List Rule) (j : Nat) : Rule := ((l.take j).drop 1).foldl lessR l.head!
def minF (l : List Rule) : Rule := minAt l l.length
theorem minAt_succ {l : List Rule} {j : Nat} (h1 : 1 ≤ j) (h : j < l.length) : minAt l (j + 1) = lessR (minAt l j) l[j] := by
  unfold minAt
  rw [List.take_succ_eq_append_getElem h, List.drop_append_of_le_length (by rw [List.length_take]; omega), List.foldl_append]
  rfl
def cells7 (r : Rule) : List AV := [.i .i64 r.id, .i .i64 r.dev, .i .i64 r.prio, .i .i64 r.kind, .i .u32 r.f, .i .u32 r.t, .i .i64 r.port]
set_option maxHeartbeats 2000000 in
theorem p_MinFunc (l : List Rule) (hl : l.length < 1000000) (hne : l ≠ []) : APure Try.prog n_slices_MinFunc_api_Rule_api_Rule [eRules l, .fn n_rule_ahead [] []] (.ag (minF l).row) := by
  have hpos : 0 < l.length := List.length_pos_iff.2 hne
  have hp1 : ¬ (l.length : Int) < 1 := by omega
  have hhd : l.head! = l[0] := by
    cases l with
    | nil => exact absurd rfl hne
    | cons a b => rfl
  have hget0 : (l.map Rule.row)[0]? = some [.i .i64 l[0].id, .i .i64 l[0].dev, .i .i64 l[0].prio, .i .i64 l[0].kind, .i .u32 l[0].f, .i .u32 l[0].t, .i .i64 l[0].port] := by simp [hpos, Rule.row]
  refine apure_of h_slices_MinFunc_api_Rule_api_Rule ?_; simp only [c_slices_MinFunc_api_Rule_api_Rule, List.length_cons, List.length_nil, List.cons_append, List.nil_append, Nat.reduceAdd, Nat.reduceSub, List.reduceReplicate]
  (have hE := And.intro @hp1 (And.intro @hget0 noX); repeat' (first
    | refine awp_seq ?_
    | (refine awp_reg fun nv => ?_)
    | (refine awp_regd mix fun nv => ?_)
    | ((first | refine aops_nil ?_ | refine adr_nil (by rfl) ?_ | refine awp_skip ?_ | refine awp_exit ?_ | refine awp_ret ?_); try simp only [thenQ, blockQ, if_true, if_false, Nat.reduceEqDiff, eq_self, reduceCtorEq, reduceIte])
    | ((first | apply aops_one 0 | apply adr_one 0); (· exact nT23_0 hE))
    | refine awp_block ?_
    | (apply awp_condt; (· exact nT23_0 hE))
    | (apply awp_condf; (· exact nT23_0 hE))
    | (apply awp_cond; (· exact nT23_0 hE); all_goals intro hc)
    | ((first | apply aops_gsplit | apply adr_gsplit); (· rfl); (· exact nT23_0 hE); all_goals (intro hg; rw [hg])))); all_goals clear hE
  rename_i n0 n1 n2
  refine awp_loop (α := Nat) (fun j => [.sl (l.map Rule.row), .fn n_rule_ahead [] [], .bot, .bot, .ptr (0, 4) n0 0 0, .ptr (0, 5) (n2 + 3) 0 0, .i .i64 j, .bot, .bot, .bot, .bot, .bot, .bot, .bot, .bot, .bot, .bot, .bot, .bot, .bot, .bot, .bot, .bot, .bot, .bot, .bot, .bot, .bot, .bot, .bot, .bot, .bot, .bot]) (fun j => [((0, 4), ⟨n0, .rows 7 [zrow]⟩), ((0, 5), ⟨n2 + 3, .rows 7 [cells7 (minAt l j)]⟩)])
    (fun j => 1 ≤ j ∧ j ≤ l.length) (fun j => l.length - j) 1 ⟨by omega, by omega⟩ ?_ ?_ ?_
  · repeat' (first | exact FrLe.nil | apply FrLe.cons | apply FrLe.bot)
  · refine stle_cons rfl (stle_cons ?_ (StLe.nil _))
    have : minAt l 1 = l[0] := by
      unfold minAt
      cases l with
      | nil => exact absurd rfl hne
      | cons a b => simp; rfl
    rw [this]; rfl
  rintro j ⟨hj1, hj⟩
  by_cases hlt : j < l.length
  · have hlt' : (j : Int) < (l.length : Int) := by omega
    have hget : (l.map Rule.row)[j]? = some [.i .i64 l[j].id, .i .i64 l[j].dev, .i .i64 l[j].prio, .i .i64 l[j].kind, .i .u32 l[j].f, .i .u32 l[j].t, .i .i64 l[j].port] := by simp [hlt, Rule.row]
    have h0 : (0 : Int) ≤ (j : Int) := by omega
    have hw := wrapS hlt (by omega)
    have hs := minAt_succ hj1 hlt
    by_cases hc : aheadI l[j] (minAt l j) < 0
    · rw [lessR, if_pos hc] at hs
      (have hE := And.intro @hlt' (And.intro @hget (And.intro @h0 (And.intro @hw (And.intro @hc noX)))); repeat' (first
    | refine awp_seq ?_
    | (refine awp_reg fun nv => ?_)
    | (refine awp_regd mix fun nv => ?_)
    | ((first | refine aops_nil ?_ | refine adr_nil (by rfl) ?_ | refine awp_skip ?_ | refine awp_exit ?_ | refine awp_ret ?_); try simp only [thenQ, blockQ, if_true, if_false, Nat.reduceEqDiff, eq_self, reduceCtorEq, reduceIte])
    | ((first | apply aops_one 0 | apply adr_one 0); (· exact nT23_1 hE))
    | ((first | apply aops_call (hlf := h_rule_ahead) | apply adr_call (hlf := h_rule_ahead)); (· rfl); (· exact nT23_1 hE); (· exact pT23_); (· exact (p_ahead l[j] (minAt l j))); (· exact nput))
    | refine awp_block ?_
    | (apply awp_condt; (· exact nT23_1 hE))
    | (apply awp_condf; (· exact nT23_1 hE))
    | (apply awp_cond; (· exact nT23_1 hE); all_goals intro hc)
    | ((first | apply aops_gsplit | apply adr_gsplit); (· rfl); (· exact nT23_1 hE); all_goals (intro hg; rw [hg])))); all_goals clear hE
      all_goals
        refine ⟨j + 1, ⟨by omega, by omega⟩, by omega, by repeat' (first | exact FrLe.nil | apply FrLe.cons | apply FrLe.bot), ?_⟩
        rw [hs]
        exact stle_cons rfl (stle_cons rfl (StLe.nil _))
    · rw [lessR, if_neg hc] at hs
      (have hE := And.intro @hlt' (And.intro @hget (And.intro @h0 (And.intro @hw (And.intro @hc noX)))); repeat' (first
    | refine awp_seq ?_
    | (refine awp_reg fun nv => ?_)
    | (refine awp_regd mix fun nv => ?_)
    | ((first | refine aops_nil ?_ | refine adr_nil (by rfl) ?_ | refine awp_skip ?_ | refine awp_exit ?_ | refine awp_ret ?_); try simp only [thenQ, blockQ, if_true, if_false, Nat.reduceEqDiff, eq_self, reduceCtorEq, reduceIte])
    | ((first | apply aops_one 0 | apply adr_one 0); (· exact nT23_1 hE))
    | ((first | apply aops_call (hlf := h_rule_ahead) | apply adr_call (hlf := h_rule_ahead)); (· rfl); (· exact nT23_1 hE); (· exact pT23_); (· exact (p_ahead l[j] (minAt l j))); (· exact nput))
    | refine awp_block ?_
    | (apply awp_condt; (· exact nT23_1 hE))
    | (apply awp_condf; (· exact nT23_1 hE))
    | (apply awp_cond; (· exact nT23_1 hE); all_goals intro hc)
    | ((first | apply aops_gsplit | apply adr_gsplit); (· rfl); (· exact nT23_1 hE); all_goals (intro hg; rw [hg])))); all_goals clear hE
      all_goals
        refine ⟨j + 1, ⟨by omega, by omega⟩, by omega, by repeat' (first | exact FrLe.nil | apply FrLe.cons | apply FrLe.bot), ?_⟩
        rw [hs]
        exact stle_cons rfl (stle_cons rfl (StLe.nil _))
  · have hlt' : ¬ (j : Int) < (l.length : Int) := by omega
    have hjl : j = l.length := by omega
    subst hjl
    (have hE := And.intro @hlt' noX; repeat' (first
    | refine awp_seq ?_
    | (refine awp_reg fun nv => ?_)
    | (refine awp_regd mix fun nv => ?_)
    | ((first | refine aops_nil ?_ | refine adr_nil (by rfl) ?_ | refine awp_skip ?_ | refine awp_exit ?_ | refine awp_ret ?_); try simp only [thenQ, blockQ, if_true, if_false, Nat.reduceEqDiff, eq_self, reduceCtorEq, reduceIte])
    | ((first | apply aops_one 0 | apply adr_one 0); (· exact nT23_2 hE))
    | refine awp_block ?_
    | (apply awp_condt; (· exact nT23_2 hE))
    | (apply awp_condf; (· exact nT23_2 hE))
    | (apply awp_cond; (· exact nT23_2 hE); all_goals intro hc)
    | ((first | apply aops_gsplit | apply adr_gsplit); (· rfl); (· exact nT23_2 hE); all_goals (intro hg; rw [hg])))); all_goals clear hE
    all_goals
      (apply awp_end [] (by first | exact .inl rfl | exact .inr rfl); (· exact nT23_3 (noX)))
      exact fz_eq' rfl (rowPure (minF l))
def firstS (q : Rule → Bool) (l : List Rule) : Option Rule := if l.filter q = [] then none else some (minF (l.filter q))
def eRuleO : Option Rule → AV
  | none => .tu [.ag zrow, .b false]
  | some r => .tu [.ag r.row, .b true]
theorem eRuleO_Pure : ∀ o, Pure (eRuleO o)
  | none => .tu _ (by simp [zrow, pure_ag, pure_i, pure_b])
  | some r => .tu _ (by simp [Rule.row, pure_ag, pure_i, pure_b])
theorem eRuleO_Flat : ∀ o, Flat (eRuleO o)
  | none => .tu _ (by simp [zrow, flat_ag, flat_i, flat_bb])
  | some r => .tu _ (by simp [Rule.row, flat_ag, flat_i, flat_bb])
theorem p_IndexFunc0 (c : AV) (hc : Pure c) : APure Try.prog n_slices_IndexFunc_api_Rule_api_Rule [.esl, c] (.i .i64 (-1)) := by
  refine apure_of h_slices_IndexFunc_api_Rule_api_Rule ?_; simp only [c_slices_IndexFunc_api_Rule_api_Rule, List.length_cons, List.length_nil, List.cons_append, List.nil_append, Nat.reduceAdd, Nat.reduceSub, List.reduceReplicate]
  (have hE := noX; repeat' (first
    | refine awp_seq ?_
    | (refine awp_reg fun nv => ?_)
    | ((first | refine aops_nil ?_ | refine awp_skip ?_ | refine awp_exit ?_ | refine awp_ret ?_); try simp only [thenQ, blockQ, if_true, if_false, Nat.reduceEqDiff, eq_self, reduceCtorEq, reduceIte])
    | (apply aops_one 0; (· exact nT23_3 hE))
    | (refine awp_loopn 2 ?_)
    | (refine loopn_succ ?_)
    | refine awp_block ?_
    | (apply awp_condt; (· exact nT23_3 hE))
    | (apply awp_condf; (· exact nT23_3 hE))
    | (apply awp_cond; (· exact nT23_3 hE); all_goals intro hc)
    | (apply aops_gsplit; (· rfl); (· exact nT23_3 hE); all_goals (intro hg; rw [hg])))); all_goals clear hE
  all_goals
    (apply awp_end [] (by first | exact .inl rfl | exact .inr rfl); (· exact nT23_3 (noX)))
    exact fz_res rfl (.i _ _)
theorem p_DeleteFunc0 (c : AV) (hc : Pure c) : APure Try.prog n_slices_DeleteFunc_api_Rule_api_Rule [.esl, c] .esl := by
  refine apure_of h_slices_DeleteFunc_api_Rule_api_Rule ?_; simp only [c_slices_DeleteFunc_api_Rule_api_Rule, List.length_cons, List.length_nil, List.cons_append, List.nil_append, Nat.reduceAdd, Nat.reduceSub, List.reduceReplicate]
  (have hE := noX; repeat' (first
    | refine awp_seq ?_
    | (refine awp_reg fun nv => ?_)
    | ((first | refine aops_nil ?_ | refine awp_skip ?_ | refine awp_exit ?_ | refine awp_ret ?_); try simp only [thenQ, blockQ, if_true, if_false, Nat.reduceEqDiff, eq_self, reduceCtorEq, reduceIte])
    | (apply aops_one 0; (· exact nT23_3 hE))
    | (apply aops_call (hlf := h_slices_IndexFunc_api_Rule_api_Rule); (· rfl); (· exact nT23_3 hE); (· exact (pure_cons .esl (pure_cons hc pure_nil))); (· exact (p_IndexFunc0 c hc)); (· exact nput))
    | refine awp_block ?_
    | (apply awp_condt; (· exact nT23_3 hE))
    | (apply awp_condf; (· exact nT23_3 hE))
    | (apply awp_cond; (· exact nT23_3 hE); all_goals intro hc)
    | (apply aops_gsplit; (· rfl); (· exact nT23_3 hE); all_goals (intro hg; rw [hg])))); all_goals clear hE
  all_goals
    (apply awp_end [] (by first | exact .inl rfl | exact .inr rfl); (· exact nT23_3 (noX)))
    exact fz_res rfl .esl
set_option maxHeartbeats 2000000 in
theorem p_first {g : Nat} {lf : LF} {caps : List AV} (q : Rule → Bool) (l : List Rule) (hl : l.length < 1000000) (h_ask : lowFn Try.prog g = some lf) (hcaps : ∀ x ∈ caps, Pure x) (h : ∀ r ∈ l, APure Try.prog g (.ag r.row :: caps) (.b (q r))) :
    APure Try.prog n_rule_first [eRules l, .fn g [] caps] (eRuleO (firstS q l)) := by
  have hF : Pure (.fn g [] caps) := .fn _ _ _ pure_nil hcaps
  have hq : ∀ r ∈ l, APure Try.prog n_rule_first_c1 [.ag r.row, .ref [.fn g [] caps] 0] (.b (!q r)) := fun r hr => p_first_c1 r h_ask hcaps (h r hr)
  refine apure_of h_rule_first ?_; simp only [c_rule_first, List.length_cons, List.length_nil, List.cons_append, List.nil_append, Nat.reduceAdd, Nat.reduceSub, List.reduceReplicate]
  by_cases hne : l = []
  · subst hne
    (have hE := noX; repeat' (first
    | refine awp_seq ?_
    | (refine awp_reg fun nv => ?_)
    | ((first | refine aops_nil ?_ | refine awp_skip ?_ | refine awp_exit ?_ | refine awp_ret ?_); try simp only [thenQ, blockQ, if_true, if_false, Nat.reduceEqDiff, eq_self, reduceCtorEq, reduceIte])
    | (apply aops_one 0; (· exact nT23_4 hE))
    | (apply aops_callw (hlf := h_slices_Clone_api_Rule_api_Rule); (· rfl); (· exact nT23_4 hE); (· exact c_Clone0); (· (repeat' (first | exact StLe.refl _ | exact StLe.nil _ | (refine stle_cons (by first | rfl | exact nT23_4 hE) ?_)))); (· (intro _; exact nT23_4 hE)); ((intro v; cases v); simp only [put, List.set_cons_succ, List.set_cons_zero]))
    | refine awp_block ?_
    | (apply awp_condt; (· exact nT23_4 hE))
    | (apply awp_condf; (· exact nT23_4 hE))
    | (apply awp_cond; (· exact nT23_4 hE); all_goals intro hc)
    | (apply aops_gsplit; (· rfl); (· exact nT23_4 hE); all_goals (intro hg; rw [hg])))); all_goals clear hE
    · have hd : APure Try.prog n_slices_DeleteFunc_api_Rule_api_Rule [.esl, .fn n_rule_first_c1 [] [.ref [.fn g [] caps] 0]] .esl := p_DeleteFunc0 _ (.fn _ _ _ pure_nil (pure_cons (.ref _ _ (pure_cons hF pure_nil)) pure_nil))
      simp only [clone0R, clone0S, List.nil_append, List.cons_append]
      (have hE := noX; repeat' (first
    | refine awp_seq ?_
    | (refine awp_reg fun nv => ?_)
    | ((first | refine aops_nil ?_ | refine awp_skip ?_ | refine awp_exit ?_ | refine awp_ret ?_); try simp only [thenQ, blockQ, if_true, if_false, Nat.reduceEqDiff, eq_self, reduceCtorEq, reduceIte])
    | (apply aops_one 0; (· exact nT23_4 hE))
    | (apply aops_callf [(0, 3)] (hlf := h_slices_DeleteFunc_api_Rule_api_Rule); (· rfl); (· exact nT23_4 hE); (· exact (fzl_cons (fz_eq' rfl .esl) (fzl_cons (fz_fn fzl_nil (fzl_cons (fz_ptr (by simp) rfl rfl (fzl_cons (fz_eq' rfl hF) fzl_nil)) fzl_nil)) fzl_nil))); (· exact hd); (· exact .esl); (· exact nput))
    | refine awp_block ?_
    | (apply awp_condt; (· exact nT23_4 hE))
    | (apply awp_condf; (· exact nT23_4 hE))
    | (apply awp_cond; (· exact nT23_4 hE); all_goals intro hc)
    | (apply aops_gsplit; (· rfl); (· exact nT23_4 hE); all_goals (intro hg; rw [hg])))); all_goals clear hE
      all_goals
        (apply awp_end [] (by first | exact .inl rfl | exact .inr rfl); (· exact nT23_3 (noX)))
        exact fz_res rfl (eRuleO_Pure none)
    · have hd := fun vf v => c_DeleteFunc (g := g) (F := .fn g [] caps) q [] (by decide) v vf h_rule_first_c1 hF (fun r hr => by cases hr)
      simp only [List.filter_nil, List.map_nil, List.nil_append, List.length_nil] at hd
      simp only [clone0R, clone0S, List.nil_append, List.cons_append]
      (have hE := noX; repeat' (first
    | refine awp_seq ?_
    | (refine awp_reg fun nv => ?_)
    | ((first | refine aops_nil ?_ | refine awp_skip ?_ | refine awp_exit ?_ | refine awp_ret ?_); try simp only [thenQ, blockQ, if_true, if_false, Nat.reduceEqDiff, eq_self, reduceCtorEq, reduceIte])
    | (apply aops_one 0; (· exact nT23_4 hE))
    | (apply aops_callw (hlf := h_slices_DeleteFunc_api_Rule_api_Rule); (· rfl); (· exact nT23_4 hE); (· exact (hd _ _)); (· (repeat' (first | exact StLe.refl _ | exact StLe.nil _ | (refine stle_cons (by first | rfl | exact nT23_4 hE) ?_)))); (· (intro _; exact nT23_4 hE)); (intro zs; simp only [put, List.set_cons_succ, List.set_cons_zero]))
    | refine awp_block ?_
    | (apply awp_condt; (· exact nT23_4 hE))
    | (apply awp_condf; (· exact nT23_4 hE))
    | (apply awp_cond; (· exact nT23_4 hE); all_goals intro hc)
    | (apply aops_gsplit; (· rfl); (· exact nT23_4 hE); all_goals (intro hg; rw [hg])))); all_goals clear hE
      all_goals
        (apply awp_end [] (by first | exact .inl rfl | exact .inr rfl); (· exact nT23_3 (noX)))
        exact fz_res rfl (eRuleO_Pure none)
  · by_cases hk : l.filter q = []
    · have h0 : ((((l.filter q).length : Nat) : Int) == 0) = true := by rw [hk]; rfl
      (have hE := And.intro @h0 noX; repeat' (first
    | refine awp_seq ?_
    | (refine awp_reg fun nv => ?_)
    | ((first | refine aops_nil ?_ | refine awp_skip ?_ | refine awp_exit ?_ | refine awp_ret ?_); try simp only [thenQ, blockQ, if_true, if_false, Nat.reduceEqDiff, eq_self, reduceCtorEq, reduceIte])
    | (apply aops_one 0; (· exact nT23_5 hE))
    | (apply aops_callw (hlf := h_slices_Clone_api_Rule_api_Rule); (· rfl); (· exact nT23_5 hE); (· exact (c_Clone l hl hne)); (· (repeat' (first | exact StLe.refl _ | exact StLe.nil _ | (refine stle_cons (by first | rfl | exact nT23_5 hE) ?_)))); (· (intro _; exact nT23_5 hE)); (intro v; simp only [put, List.set_cons_succ, List.set_cons_zero]))
    | (apply aops_callw (hlf := h_slices_DeleteFunc_api_Rule_api_Rule); (· rfl); (· exact nT23_5 hE); (· exact (c_DeleteFunc (g := g) q l hl v _ h_rule_first_c1 hF hq)); (· (repeat' (first | exact StLe.refl _ | exact StLe.nil _ | (refine stle_cons (by first | rfl | exact nT23_5 hE) ?_)))); (· (intro _; exact nT23_5 hE)); (intro zs; simp only [put, List.set_cons_succ, List.set_cons_zero]))
    | refine awp_block ?_
    | (apply awp_condt; (· exact nT23_5 hE))
    | (apply awp_condf; (· exact nT23_5 hE))
    | (apply awp_cond; (· exact nT23_5 hE); all_goals intro hc)
    | (apply aops_gsplit; (· rfl); (· exact nT23_5 hE); all_goals (intro hg; rw [hg])))); all_goals clear hE
      all_goals
        (apply awp_end [] (by first | exact .inl rfl | exact .inr rfl); (· exact nT23_3 (noX)))
        rw [firstS, if_pos hk]
        exact fz_res rfl (eRuleO_Pure none)
    · have hlen := List.length_filter_le q l
      have hpos : 0 < (l.filter q).length := List.length_pos_iff.2 hk
      have h0 : ((((l.filter q).length : Nat) : Int) == 0) = false := beq_eq_false_iff_ne.2 (by omega)
      have hm := p_MinFunc (l.filter q) (by omega) hk
      (have hE := And.intro @h0 noX; repeat' (first
    | refine awp_seq ?_
    | (refine awp_reg fun nv => ?_)
    | ((first | refine aops_nil ?_ | refine awp_skip ?_ | refine awp_exit ?_ | refine awp_ret ?_); try simp only [thenQ, blockQ, if_true, if_false, Nat.reduceEqDiff, eq_self, reduceCtorEq, reduceIte])
    | (apply aops_one 0; (· exact nT23_5 hE))
    | (apply aops_callw (hlf := h_slices_Clone_api_Rule_api_Rule); (· rfl); (· exact nT23_5 hE); (· exact (c_Clone l hl hne)); (· (repeat' (first | exact StLe.refl _ | exact StLe.nil _ | (refine stle_cons (by first | rfl | exact nT23_5 hE) ?_)))); (· (intro _; exact nT23_5 hE)); (intro v; simp only [put, List.set_cons_succ, List.set_cons_zero]))
    | (apply aops_callw (hlf := h_slices_DeleteFunc_api_Rule_api_Rule); (· rfl); (· exact nT23_5 hE); (· exact (c_DeleteFunc (g := g) q l hl v _ h_rule_first_c1 hF hq)); (· (repeat' (first | exact StLe.refl _ | exact StLe.nil _ | (refine stle_cons (by first | rfl | exact nT23_5 hE) ?_)))); (· (intro _; exact nT23_5 hE)); (intro zs; simp only [put, List.set_cons_succ, List.set_cons_zero]))
    | (apply aops_callf [(5, 5)] (hlf := h_slices_MinFunc_api_Rule_api_Rule); (· rfl); (· exact nT23_5 hE); (· exact (fzl_cons (fz_rowp ((l.filter q).map Rule.row) (by simp) rfl (by simp) (by simp) (rows_len _) (rows_pure _)) (fzl_cons (fz_eq' rfl (.fn _ _ _ pure_nil pure_nil)) fzl_nil))); (· exact hm); (· exact (.ag _ (by simp [Rule.row, flat_i]))); (· exact nput))
    | refine awp_block ?_
    | (apply awp_condt; (· exact nT23_5 hE))
    | (apply awp_condf; (· exact nT23_5 hE))
    | (apply awp_cond; (· exact nT23_5 hE); all_goals intro hc)
    | (apply aops_gsplit; (· rfl); (· exact nT23_5 hE); all_goals (intro hg; rw [hg])))); all_goals clear hE
      all_goals
        (apply awp_end [] (by first | exact .inl rfl | exact .inr rfl); (· exact nT23_3 (noX)))
        rw [firstS, if_neg hk]
        exact fz_res rfl (eRuleO_Pure (some _))
def matchS (l : List Rule) (dev a : Int) : Option Rule := firstS (fun r => isFwd r dev a) l
def deniesS (l : List Rule) (dev a : Int) : Bool := match firstS (fun r => isAcl r dev a) l with | some r => r.kind == 3 | none => false
theorem p_Match (l : List Rule) (hl : l.length < 1000000) (dev a : Int) : APure Try.prog n_rule_Match [eRules l, .i .i64 dev, .i .u32 a] (eRuleO (matchS l dev a)) := by
  have hp := p_first (caps := [.ref [.i .i64 dev] 0, .ref [.i .u32 a] 0]) (fun r => isFwd r dev a) l hl h_rule_Match_c1 (pure_cons (.ref _ _ (pure_cons (.i _ _) pure_nil)) (pure_cons (.ref _ _ (pure_cons (.i _ _) pure_nil)) pure_nil)) (fun r _ => p_Match_c1 r dev a)
  unfold matchS
  refine apure_of h_rule_Match ?_; simp only [c_rule_Match, List.length_cons, List.length_nil, List.cons_append, List.nil_append, Nat.reduceAdd, Nat.reduceSub, List.reduceReplicate]
  cases hf : firstS (fun r => isFwd r dev a) l with
  | none =>
    rw [hf] at hp
    (have hE := noX; repeat' (first
    | refine awp_seq ?_
    | (refine awp_reg fun nv => ?_)
    | ((first | refine aops_nil ?_ | refine awp_skip ?_ | refine awp_exit ?_ | refine awp_ret ?_); try simp only [thenQ, blockQ, if_true, if_false, Nat.reduceEqDiff, eq_self, reduceCtorEq, reduceIte])
    | (apply aops_one 0; (· exact nT23_6 hE))
    | (apply aops_callf [(0, 4), (0, 5)] (hlf := h_rule_first); (· rfl); (· exact nT23_6 hE); (· exact (fzl_cons (fz_eq' rfl (eRules_Pure l)) (fzl_cons (fz_fn fzl_nil (fzl_cons (fz_ptr (by simp) rfl rfl (fzl_cons (fz_eq' rfl (.i _ _)) fzl_nil)) (fzl_cons (fz_ptr (by simp) rfl rfl (fzl_cons (fz_eq' rfl (.i _ _)) fzl_nil)) fzl_nil))) fzl_nil))); (· exact hp); (· exact (eRuleO_Flat none)); (· exact nput))
    | refine awp_block ?_
    | (apply awp_condt; (· exact nT23_6 hE))
    | (apply awp_condf; (· exact nT23_6 hE))
    | (apply awp_cond; (· exact nT23_6 hE); all_goals intro hc)
    | (apply aops_gsplit; (· rfl); (· exact nT23_6 hE); all_goals (intro hg; rw [hg])))); all_goals clear hE
    all_goals
      (apply awp_end [] (by first | exact .inl rfl | exact .inr rfl); (· exact nT23_3 (noX)))
      exact fz_res rfl (eRuleO_Pure none)
  | some r =>
    rw [hf] at hp
    (have hE := noX; repeat' (first
    | refine awp_seq ?_
    | (refine awp_reg fun nv => ?_)
    | ((first | refine aops_nil ?_ | refine awp_skip ?_ | refine awp_exit ?_ | refine awp_ret ?_); try simp only [thenQ, blockQ, if_true, if_false, Nat.reduceEqDiff, eq_self, reduceCtorEq, reduceIte])
    | (apply aops_one 0; (· exact nT23_7 hE))
    | (apply aops_callf [(0, 4), (0, 5)] (hlf := h_rule_first); (· rfl); (· exact nT23_7 hE); (· exact (fzl_cons (fz_eq' rfl (eRules_Pure l)) (fzl_cons (fz_fn fzl_nil (fzl_cons (fz_ptr (by simp) rfl rfl (fzl_cons (fz_eq' rfl (.i _ _)) fzl_nil)) (fzl_cons (fz_ptr (by simp) rfl rfl (fzl_cons (fz_eq' rfl (.i _ _)) fzl_nil)) fzl_nil))) fzl_nil))); (· exact hp); (· exact (eRuleO_Flat (some r))); (· exact nput))
    | refine awp_block ?_
    | (apply awp_condt; (· exact nT23_7 hE))
    | (apply awp_condf; (· exact nT23_7 hE))
    | (apply awp_cond; (· exact nT23_7 hE); all_goals intro hc)
    | (apply aops_gsplit; (· rfl); (· exact nT23_7 hE); all_goals (intro hg; rw [hg])))); all_goals clear hE
    all_goals
      (apply awp_end [] (by first | exact .inl rfl | exact .inr rfl); (· exact nT23_3 (noX)))
      exact fz_res rfl (eRuleO_Pure (some r))
theorem p_Denies (l : List Rule) (hl : l.length < 1000000) (dev a : Int) : APure Try.prog n_rule_Denies [eRules l, .i .i64 dev, .i .u32 a] (.b (deniesS l dev a)) := by
  have hp := p_first (caps := [.ref [.i .i64 dev] 0, .ref [.i .u32 a] 0]) (fun r => isAcl r dev a) l hl h_rule_Denies_c1 (pure_cons (.ref _ _ (pure_cons (.i _ _) pure_nil)) (pure_cons (.ref _ _ (pure_cons (.i _ _) pure_nil)) pure_nil)) (fun r _ => p_Denies_c1 r dev a)
  unfold deniesS
  refine apure_of h_rule_Denies ?_; simp only [c_rule_Denies, List.length_cons, List.length_nil, List.cons_append, List.nil_append, Nat.reduceAdd, Nat.reduceSub, List.reduceReplicate]
  cases hf : firstS (fun r => isAcl r dev a) l with
  | none =>
    rw [hf] at hp
    (have hE := noX; repeat' (first
    | refine awp_seq ?_
    | (refine awp_reg fun nv => ?_)
    | ((first | refine aops_nil ?_ | refine awp_skip ?_ | refine awp_exit ?_ | refine awp_ret ?_); try simp only [thenQ, blockQ, if_true, if_false, Nat.reduceEqDiff, eq_self, reduceCtorEq, reduceIte])
    | (apply aops_one 0; (· exact nT23_6 hE))
    | (apply aops_callf [(0, 4), (0, 5)] (hlf := h_rule_first); (· rfl); (· exact nT23_6 hE); (· exact (fzl_cons (fz_eq' rfl (eRules_Pure l)) (fzl_cons (fz_fn fzl_nil (fzl_cons (fz_ptr (by simp) rfl rfl (fzl_cons (fz_eq' rfl (.i _ _)) fzl_nil)) (fzl_cons (fz_ptr (by simp) rfl rfl (fzl_cons (fz_eq' rfl (.i _ _)) fzl_nil)) fzl_nil))) fzl_nil))); (· exact hp); (· exact (eRuleO_Flat none)); (· exact nput))
    | refine awp_block ?_
    | (apply awp_condt; (· exact nT23_6 hE))
    | (apply awp_condf; (· exact nT23_6 hE))
    | (apply awp_cond; (· exact nT23_6 hE); all_goals intro hc)
    | (apply aops_gsplit; (· rfl); (· exact nT23_6 hE); all_goals (intro hg; rw [hg])))); all_goals clear hE
    all_goals
      (apply awp_end [] (by first | exact .inl rfl | exact .inr rfl); (· exact nT23_3 (noX)))
      exact fz_res rfl (.b _)
  | some r =>
    rw [hf] at hp
    (have hE := noX; repeat' (first
    | refine awp_seq ?_
    | (refine awp_reg fun nv => ?_)
    | ((first | refine aops_nil ?_ | refine awp_skip ?_ | refine awp_exit ?_ | refine awp_ret ?_); try simp only [thenQ, blockQ, if_true, if_false, Nat.reduceEqDiff, eq_self, reduceCtorEq, reduceIte])
    | (apply aops_one 0; (· exact nT23_7 hE))
    | (apply aops_callf [(0, 4), (0, 5)] (hlf := h_rule_first); (· rfl); (· exact nT23_7 hE); (· exact (fzl_cons (fz_eq' rfl (eRules_Pure l)) (fzl_cons (fz_fn fzl_nil (fzl_cons (fz_ptr (by simp) rfl rfl (fzl_cons (fz_eq' rfl (.i _ _)) fzl_nil)) (fzl_cons (fz_ptr (by simp) rfl rfl (fzl_cons (fz_eq' rfl (.i _ _)) fzl_nil)) fzl_nil))) fzl_nil))); (· exact hp); (· exact (eRuleO_Flat (some r))); (· exact nput))
    | refine awp_block ?_
    | (apply awp_condt; (· exact nT23_7 hE))
    | (apply awp_condf; (· exact nT23_7 hE))
    | (apply awp_cond; (· exact nT23_7 hE); all_goals intro hc)
    | (apply aops_gsplit; (· rfl); (· exact nT23_7 hE); all_goals (intro hg; rw [hg])))); all_goals clear hE
    all_goals
      (apply awp_end [] (by first | exact .inl rfl | exact .inr rfl); (· exact nT23_3 (noX)))
      exact fz_res rfl (.b _)
end Go.Proofs.Ytibkakodokbobaa
