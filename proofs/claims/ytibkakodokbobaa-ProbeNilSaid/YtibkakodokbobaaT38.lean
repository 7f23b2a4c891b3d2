import Derived.Test.YtibkakodokbobaaT28
namespace Go.Proofs.Ytibkakodokbobaa
open Go.Am
set_option maxRecDepth 100000
set_option linter.unusedSimpArgs false
set_option linter.unusedVariables false
theorem nT38_0 {E A : Prop} (e : E) (h : E → A := by (intro hE; simp only [aone, aoneT, gval, astep, aev, val, abin, abinI, abinS, aun, aeqn, aeqL, aeq1, put, upds, sset, sget, aload, astore, aobj, acut, cells_b, one_b, cells_i, one_i, cells_s, one_s, cells_nilp, one_nilp, cells_ref, one_ref, cells_ptr, one_ptr, cells_esl, one_esl, cells_sl, one_sl, cells_row, one_row, cells_fn, one_fn, cells_nilf, one_nilf, cells_nilm, one_nilm, cells_mp, one_mp, cells_mpr, one_mpr, cells_ag, anilck, afieldAddr, aindex, aindexAddr, alen, afill, afillR, aminmax, aminmax.aminmaxI, isNeq, sdl, kin, acall, ares, ares1, arows, aappend, aslice, asliceS, asliceR, aslice0, abnd, List.set_cons_succ, List.set_cons_zero, List.getD_cons_succ, List.getD_cons_zero, List.getElem?_cons_succ, List.getElem?_cons_zero, List.map_cons, List.map_nil, List.cons_append, List.nil_append, List.append_nil, List.length_cons, List.length_nil, List.take_succ_cons, List.take_zero, List.drop_succ_cons, List.drop_zero, List.all_cons, List.all_nil, List.replicate, Nat.reduceAdd, Nat.reduceSub, Nat.reduceMul, Nat.reduceLT, Nat.reduceLeDiff, Nat.reduceEqDiff, Nat.zero_add, Nat.add_zero, Nat.zero_mul, Option.map_some, Option.map_none, Option.bind_some, Option.bind_eq_bind, Option.getD_some, Option.getD_none, Option.isSome_some, Option.isSome_none, Option.toList, if_true, if_false, and_self, and_true, true_and, and_false, false_and, Prod.mk.injEq, Bool.false_eq_true, Bool.true_eq_false, beq_self_eq_true, Bool.not_true, Bool.not_false, Bool.and_self, Bool.and_true, Bool.true_and, decide_true, decide_false, beq_true, beq_false, Bool.not_not, reduceCtorEq, Nat.le_refl, Int.reduceNeg, reduceIte, Nat.reduceBEq, Int.reduceBEq, Int.reduceLT, Int.reduceLE, Int.reduceToNat, decide_eq_true_eq, not_false_eq_true, not_true_eq_false, ne_eq, List.length_map, eLinks_cells, eLinks_one, ePorts, ePorts_cells, ePorts_one, eRules_cells, eRules_one, hE] <;> rfl)) : A := h e
theorem nT38_1 {E A : Prop} (e : E) (h : E → A := by (intro hE; simp only [aone, aoneT, gval, astep, aev, val, abin, abinI, abinS, aun, aeqn, aeqL, aeq1, put, upds, sset, sget, aload, astore, aobj, acut, cells_b, one_b, cells_i, one_i, cells_s, one_s, cells_nilp, one_nilp, cells_ref, one_ref, cells_ptr, one_ptr, cells_esl, one_esl, cells_sl, one_sl, cells_row, one_row, cells_fn, one_fn, cells_nilf, one_nilf, cells_nilm, one_nilm, cells_mp, one_mp, cells_mpr, one_mpr, cells_ag, anilck, afieldAddr, aindex, aindexAddr, alen, afill, afillR, aminmax, aminmax.aminmaxI, isNeq, sdl, kin, acall, ares, ares1, arows, aappend, aslice, asliceS, asliceR, aslice0, abnd, List.set_cons_succ, List.set_cons_zero, List.getD_cons_succ, List.getD_cons_zero, List.getElem?_cons_succ, List.getElem?_cons_zero, List.map_cons, List.map_nil, List.cons_append, List.nil_append, List.append_nil, List.length_cons, List.length_nil, List.take_succ_cons, List.take_zero, List.drop_succ_cons, List.drop_zero, List.all_cons, List.all_nil, List.replicate, Nat.reduceAdd, Nat.reduceSub, Nat.reduceMul, Nat.reduceLT, Nat.reduceLeDiff, Nat.reduceEqDiff, Nat.zero_add, Nat.add_zero, Nat.zero_mul, Option.map_some, Option.map_none, Option.bind_some, Option.bind_eq_bind, Option.getD_some, Option.getD_none, Option.isSome_some, Option.isSome_none, Option.toList, if_true, if_false, and_self, and_true, true_and, and_false, false_and, Prod.mk.injEq, Bool.false_eq_true, Bool.true_eq_false, beq_self_eq_true, Bool.not_true, Bool.not_false, Bool.and_self, Bool.and_true, Bool.true_and, decide_true, decide_false, beq_true, beq_false, Bool.not_not, reduceCtorEq, Nat.le_refl, Int.reduceNeg, reduceIte, Nat.reduceBEq, Int.reduceBEq, Int.reduceLT, Int.reduceLE, Int.reduceToNat, decide_eq_true_eq, not_false_eq_true, not_true_eq_false, ne_eq, Int.toNat_natCast, List.length_map, eLinks_cells, eLinks_one, ePorts_cells, ePorts_one, eRules_cells, eRules_one, hE] <;> rfl)) : A := h e
theorem nT38_2 {E A : Prop} (e : E) (h : E → A := by (intro hE; simp only [aone, aoneT, gval, astep, aev, val, abin, abinI, abinS, aun, aeqn, aeqL, aeq1, put, upds, sset, sget, aload, astore, aobj, acut, cells_b, one_b, cells_i, one_i, cells_s, one_s, cells_nilp, one_nilp, cells_ref, one_ref, cells_ptr, one_ptr, cells_esl, one_esl, cells_sl, one_sl, cells_row, one_row, cells_fn, one_fn, cells_nilf, one_nilf, cells_nilm, one_nilm, cells_mp, one_mp, cells_mpr, one_mpr, cells_ag, anilck, afieldAddr, aindex, aindexAddr, alen, afill, afillR, aminmax, aminmax.aminmaxI, isNeq, sdl, kin, acall, ares, ares1, arows, aappend, aslice, asliceS, asliceR, aslice0, abnd, List.set_cons_succ, List.set_cons_zero, List.getD_cons_succ, List.getD_cons_zero, List.getElem?_cons_succ, List.getElem?_cons_zero, List.map_cons, List.map_nil, List.cons_append, List.nil_append, List.append_nil, List.length_cons, List.length_nil, List.take_succ_cons, List.take_zero, List.drop_succ_cons, List.drop_zero, List.all_cons, List.all_nil, List.replicate, Nat.reduceAdd, Nat.reduceSub, Nat.reduceMul, Nat.reduceLT, Nat.reduceLeDiff, Nat.reduceEqDiff, Nat.zero_add, Nat.add_zero, Nat.zero_mul, Option.map_some, Option.map_none, Option.bind_some, Option.bind_eq_bind, Option.getD_some, Option.getD_none, Option.isSome_some, Option.isSome_none, Option.toList, if_true, if_false, and_self, and_true, true_and, and_false, false_and, Prod.mk.injEq, Bool.false_eq_true, Bool.true_eq_false, beq_self_eq_true, Bool.not_true, Bool.not_false, Bool.and_self, Bool.and_true, Bool.true_and, decide_true, decide_false, beq_true, beq_false, Bool.not_not, reduceCtorEq, Nat.le_refl, Int.reduceNeg, reduceIte, Nat.reduceBEq, Int.reduceBEq, Int.reduceLT, Int.reduceLE, Int.reduceToNat, decide_eq_true_eq, not_false_eq_true, not_true_eq_false, ne_eq, eLinks_cells, eLinks_one, ePorts_cells, ePorts_one, eRules_cells, eRules_one, hE] <;> rfl)) : A := h e
theorem nT38_3 {E A : Prop} (e : E) (h : E → A := by (intro hE; simp only [aone, aoneT, gval, astep, aev, val, abin, abinI, abinS, aun, aeqn, aeqL, aeq1, put, upds, sset, sget, aload, astore, aobj, acut, cells_b, one_b, cells_i, one_i, cells_s, one_s, cells_nilp, one_nilp, cells_ref, one_ref, cells_ptr, one_ptr, cells_esl, one_esl, cells_sl, one_sl, cells_row, one_row, cells_fn, one_fn, cells_nilf, one_nilf, cells_nilm, one_nilm, cells_mp, one_mp, cells_mpr, one_mpr, cells_ag, anilck, afieldAddr, aindex, aindexAddr, alen, afill, afillR, aminmax, aminmax.aminmaxI, isNeq, sdl, kin, acall, ares, ares1, arows, aappend, aslice, asliceS, asliceR, aslice0, abnd, List.set_cons_succ, List.set_cons_zero, List.getD_cons_succ, List.getD_cons_zero, List.getElem?_cons_succ, List.getElem?_cons_zero, List.map_cons, List.map_nil, List.cons_append, List.nil_append, List.append_nil, List.length_cons, List.length_nil, List.take_succ_cons, List.take_zero, List.drop_succ_cons, List.drop_zero, List.all_cons, List.all_nil, List.replicate, Nat.reduceAdd, Nat.reduceSub, Nat.reduceMul, Nat.reduceLT, Nat.reduceLeDiff, Nat.reduceEqDiff, Nat.zero_add, Nat.add_zero, Nat.zero_mul, Option.map_some, Option.map_none, Option.bind_some, Option.bind_eq_bind, Option.getD_some, Option.getD_none, Option.isSome_some, Option.isSome_none, Option.toList, if_true, if_false, and_self, and_true, true_and, and_false, false_and, Prod.mk.injEq, Bool.false_eq_true, Bool.true_eq_false, beq_self_eq_true, Bool.not_true, Bool.not_false, Bool.and_self, Bool.and_true, Bool.true_and, decide_true, decide_false, beq_true, beq_false, Bool.not_not, reduceCtorEq, Nat.le_refl, Int.reduceNeg, reduceIte, Nat.reduceBEq, Int.reduceBEq, Int.reduceLT, Int.reduceLE, Int.reduceToNat, decide_eq_true_eq, not_false_eq_true, not_true_eq_false, ne_eq, List.length_map, eLinks_cells, eLinks_one, ePorts_cells, ePorts_one, eRules_cells, eRules_one, hE] <;> rfl)) : A := h e
theorem nT38_4 {E A : Prop} (e : E) (h : E → A := by (intro hE; simp only [aone, aoneT, gval, astep, aev, val, abin, abinI, abinS, aun, aeqn, aeqL, aeq1, put, upds, sset, sget, aload, astore, aobj, acut, cells_b, one_b, cells_i, one_i, cells_s, one_s, cells_nilp, one_nilp, cells_ref, one_ref, cells_ptr, one_ptr, cells_esl, one_esl, cells_sl, one_sl, cells_row, one_row, cells_fn, one_fn, cells_nilf, one_nilf, cells_nilm, one_nilm, cells_mp, one_mp, cells_mpr, one_mpr, cells_ag, anilck, afieldAddr, aindex, aindexAddr, alen, afill, afillR, aminmax, aminmax.aminmaxI, isNeq, sdl, kin, acall, ares, ares1, arows, aappend, aslice, asliceS, asliceR, aslice0, abnd, List.set_cons_succ, List.set_cons_zero, List.getD_cons_succ, List.getD_cons_zero, List.getElem?_cons_succ, List.getElem?_cons_zero, List.map_cons, List.map_nil, List.cons_append, List.nil_append, List.append_nil, List.length_cons, List.length_nil, List.take_succ_cons, List.take_zero, List.drop_succ_cons, List.drop_zero, List.all_cons, List.all_nil, List.replicate, Nat.reduceAdd, Nat.reduceSub, Nat.reduceMul, Nat.reduceLT, Nat.reduceLeDiff, Nat.reduceEqDiff, Nat.zero_add, Nat.add_zero, Nat.zero_mul, Option.map_some, Option.map_none, Option.bind_some, Option.bind_eq_bind, Option.getD_some, Option.getD_none, Option.isSome_some, Option.isSome_none, Option.toList, if_true, if_false, and_self, and_true, true_and, and_false, false_and, Prod.mk.injEq, Bool.false_eq_true, Bool.true_eq_false, beq_self_eq_true, Bool.not_true, Bool.not_false, Bool.and_self, Bool.and_true, Bool.true_and, decide_true, decide_false, beq_true, beq_false, Bool.not_not, reduceCtorEq, Nat.le_refl, Int.reduceNeg, reduceIte, Nat.reduceBEq, Int.reduceBEq, Int.reduceLT, Int.reduceLE, Int.reduceToNat, decide_eq_true_eq, not_false_eq_true, not_true_eq_false, ne_eq, Tr.row, eLinks_cells, eLinks_one, ePorts_cells, ePorts_one, eRules_cells, eRules_one, hE] <;> rfl)) : A := h e
theorem nT38_5 {E A : Prop} (e : E) (h : E → A := by (intro hE; simp only [aone, aoneT, gval, astep, aev, val, abin, abinI, abinS, aun, aeqn, aeqL, aeq1, put, upds, sset, sget, aload, astore, aobj, acut, cells_b, one_b, cells_i, one_i, cells_s, one_s, cells_nilp, one_nilp, cells_ref, one_ref, cells_ptr, one_ptr, cells_esl, one_esl, cells_sl, one_sl, cells_row, one_row, cells_fn, one_fn, cells_nilf, one_nilf, cells_nilm, one_nilm, cells_mp, one_mp, cells_mpr, one_mpr, cells_ag, anilck, afieldAddr, aindex, aindexAddr, alen, afill, afillR, aminmax, aminmax.aminmaxI, isNeq, sdl, kin, acall, ares, ares1, arows, aappend, aslice, asliceS, asliceR, aslice0, abnd, List.set_cons_succ, List.set_cons_zero, List.getD_cons_succ, List.getD_cons_zero, List.getElem?_cons_succ, List.getElem?_cons_zero, List.map_cons, List.map_nil, List.cons_append, List.nil_append, List.append_nil, List.length_cons, List.length_nil, List.take_succ_cons, List.take_zero, List.drop_succ_cons, List.drop_zero, List.all_cons, List.all_nil, List.replicate, Nat.reduceAdd, Nat.reduceSub, Nat.reduceMul, Nat.reduceLT, Nat.reduceLeDiff, Nat.reduceEqDiff, Nat.zero_add, Nat.add_zero, Nat.zero_mul, Option.map_some, Option.map_none, Option.bind_some, Option.bind_eq_bind, Option.getD_some, Option.getD_none, Option.isSome_some, Option.isSome_none, Option.toList, if_true, if_false, and_self, and_true, true_and, and_false, false_and, Prod.mk.injEq, Bool.false_eq_true, Bool.true_eq_false, beq_self_eq_true, Bool.not_true, Bool.not_false, Bool.and_self, Bool.and_true, Bool.true_and, decide_true, decide_false, beq_true, beq_false, Bool.not_not, reduceCtorEq, Nat.le_refl, Int.reduceNeg, reduceIte, Nat.reduceBEq, Int.reduceBEq, Int.reduceLT, Int.reduceLE, Int.reduceToNat, decide_eq_true_eq, not_false_eq_true, not_true_eq_false, ne_eq, Ver.row, eLinks_cells, eLinks_one, ePorts_cells, ePorts_one, eRules_cells, eRules_one, hE] <;> rfl)) : A := h e
theorem pT38_ {A : Prop} (h : A := by (simp only [List.forall_mem_cons, List.forall_mem_nil, List.not_mem_nil, false_imp_iff, implies_true, List.forall_mem_map, pure_b, pure_i, pure_s, pure_nilp, pure_nilf, pure_esl, pure_ref, pure_sl, pure_ag, pure_tu, pure_fn, and_self, and_true, true_and, eRules_pure, ePorts_pure, eLinks_pure]; done)) : A := h
/-! ### the references' sameness of ints, traces, verdicts -/
set_option maxHeartbeats 1000000 in
theorem p_r06Ints (l m : List Int) (hl : l.length < 4611686018427387904) (hm : m.length < 4611686018427387904) : APure Try.prog n_r06_Ints [ePorts l, ePorts m] (.b (l == m)) := by
  refine apure_of h_r06_Ints ?_; simp only [c_r06_Ints, List.length_cons, List.length_nil, List.cons_append, List.nil_append, Nat.reduceAdd, Nat.reduceSub, List.reduceReplicate]
  by_cases hlm : l.length = m.length
  · have hne : ((l.length : Int) != (m.length : Int)) = false := by rw [bne_eq_false_iff_eq]; omega
    (have hE := And.intro @hne noX; repeat' (first
    | refine awp_seq ?_
    | (refine awp_reg fun nv => ?_)
    | (refine awp_regd mix fun nv => ?_)
    | ((first | refine aops_nil ?_ | refine adr_nil (by rfl) ?_ | refine awp_skip ?_ | refine awp_exit ?_ | refine awp_ret ?_); try simp only [thenQ, blockQ, if_true, if_false, Nat.reduceEqDiff, eq_self, reduceCtorEq, reduceIte])
    | ((first | apply aops_one 0 | apply adr_one 0); (· exact nT38_0 hE))
    | refine awp_block ?_
    | (apply awp_condt; (· exact nT38_0 hE))
    | (apply awp_condf; (· exact nT38_0 hE))
    | (apply awp_cond; (· exact nT38_0 hE); all_goals intro hc)
    | ((first | apply aops_gsplit | apply adr_gsplit); (· rfl); (· exact nT38_0 hE); all_goals (intro hg; rw [hg])))); all_goals clear hE
    refine awp_loop (α := Nat) (fun j => [.sl (l.map eI), .sl (m.map eI), .bot, .bot, .bot, .i .i64 j, .bot, .bot, .bot, .bot, .bot, .bot, .bot, .bot, .bot, .bot, .bot, .bot, .bot, .bot, .bot, .bot, .bot, .bot, .bot, .bot]) (fun _ => []) (fun j => j ≤ l.length ∧ l.take j = m.take j) (fun j => l.length - j) 0 ⟨by omega, by simp⟩ ?_ (StLe.nil _) ?_
    · repeat' (first | exact FrLe.nil | apply FrLe.cons | apply FrLe.bot)
    rintro j ⟨hj, hs⟩
    by_cases hlt : j < l.length
    · have hlt' : (j : Int) < (l.length : Int) := by omega
      have hg1 : (l.map eI)[j]? = some [.i .i64 l[j]] := by simp [hlt, eI]
      have hg2 : (m.map eI)[j]? = some [.i .i64 (m[j]'(by omega))] := by simp [show j < m.length by omega, eI]
      have h0 : (0 : Int) ≤ (j : Int) := by omega
      have hw := wrapS hlt hl
      by_cases he : l[j] = m[j]'(by omega)
      · have he' : (l[j] != m[j]'(by omega)) = false := by rw [bne_eq_false_iff_eq]; exact he
        (have hE := And.intro @hlt' (And.intro @hg1 (And.intro @hg2 (And.intro @h0 (And.intro @hw (And.intro @he' noX))))); repeat' (first
    | refine awp_seq ?_
    | (refine awp_reg fun nv => ?_)
    | (refine awp_regd mix fun nv => ?_)
    | ((first | refine aops_nil ?_ | refine adr_nil (by rfl) ?_ | refine awp_skip ?_ | refine awp_exit ?_ | refine awp_ret ?_); try simp only [thenQ, blockQ, if_true, if_false, Nat.reduceEqDiff, eq_self, reduceCtorEq, reduceIte])
    | ((first | apply aops_one 0 | apply adr_one 0); (· exact nT38_1 hE))
    | refine awp_block ?_
    | (apply awp_condt; (· exact nT38_1 hE))
    | (apply awp_condf; (· exact nT38_1 hE))
    | (apply awp_cond; (· exact nT38_1 hE); all_goals intro hc)
    | ((first | apply aops_gsplit | apply adr_gsplit); (· rfl); (· exact nT38_1 hE); all_goals (intro hg; rw [hg])))); all_goals clear hE
        all_goals
          exact ⟨j + 1, ⟨by omega, eq_step hlm hlt hs he⟩, by omega, by repeat' (first | exact FrLe.nil | apply FrLe.cons | apply FrLe.bot), StLe.nil _⟩
      · have he' : (l[j] != m[j]'(by omega)) = true := by rw [bne_iff_ne]; exact he
        have hr : (l == m) = false := by
          rw [beq_eq_false_iff_ne]
          intro e
          subst e
          exact he rfl
        rw [hr]
        (have hE := And.intro @hlt' (And.intro @hg1 (And.intro @hg2 (And.intro @h0 (And.intro @hw (And.intro @he' noX))))); repeat' (first
    | refine awp_seq ?_
    | (refine awp_reg fun nv => ?_)
    | (refine awp_regd mix fun nv => ?_)
    | ((first | refine aops_nil ?_ | refine adr_nil (by rfl) ?_ | refine awp_skip ?_ | refine awp_exit ?_ | refine awp_ret ?_); try simp only [thenQ, blockQ, if_true, if_false, Nat.reduceEqDiff, eq_self, reduceCtorEq, reduceIte])
    | ((first | apply aops_one 0 | apply adr_one 0); (· exact nT38_1 hE))
    | refine awp_block ?_
    | (apply awp_condt; (· exact nT38_1 hE))
    | (apply awp_condf; (· exact nT38_1 hE))
    | (apply awp_cond; (· exact nT38_1 hE); all_goals intro hc)
    | ((first | apply aops_gsplit | apply adr_gsplit); (· rfl); (· exact nT38_1 hE); all_goals (intro hg; rw [hg])))); all_goals clear hE
        all_goals
          (apply awp_end [] (by first | exact .inl rfl | exact .inr rfl); (· exact nT38_2 (noX)))
          exact fz_res rfl (.b _)
    · have hlt' : ¬ (j : Int) < (l.length : Int) := by omega
      have hr : (l == m) = true := by
        rw [beq_iff_eq]
        have hjl : j = l.length := by omega
        subst hjl
        rw [List.take_length, hlm, List.take_length] at hs
        exact hs
      rw [hr]
      (have hE := And.intro @hlt' noX; repeat' (first
    | refine awp_seq ?_
    | (refine awp_reg fun nv => ?_)
    | (refine awp_regd mix fun nv => ?_)
    | ((first | refine aops_nil ?_ | refine adr_nil (by rfl) ?_ | refine awp_skip ?_ | refine awp_exit ?_ | refine awp_ret ?_); try simp only [thenQ, blockQ, if_true, if_false, Nat.reduceEqDiff, eq_self, reduceCtorEq, reduceIte])
    | ((first | apply aops_one 0 | apply adr_one 0); (· exact nT38_3 hE))
    | refine awp_block ?_
    | (apply awp_condt; (· exact nT38_3 hE))
    | (apply awp_condf; (· exact nT38_3 hE))
    | (apply awp_cond; (· exact nT38_3 hE); all_goals intro hc)
    | ((first | apply aops_gsplit | apply adr_gsplit); (· rfl); (· exact nT38_3 hE); all_goals (intro hg; rw [hg])))); all_goals clear hE
      all_goals
        (apply awp_end [] (by first | exact .inl rfl | exact .inr rfl); (· exact nT38_2 (noX)))
        exact fz_res rfl (.b _)
  · have hne : ((l.length : Int) != (m.length : Int)) = true := by rw [bne_iff_ne]; omega
    have hr : (l == m) = false := by
      rw [beq_eq_false_iff_ne]
      intro e
      exact hlm (by rw [e])
    rw [hr]
    (have hE := And.intro @hne noX; repeat' (first
    | refine awp_seq ?_
    | (refine awp_reg fun nv => ?_)
    | (refine awp_regd mix fun nv => ?_)
    | ((first | refine aops_nil ?_ | refine adr_nil (by rfl) ?_ | refine awp_skip ?_ | refine awp_exit ?_ | refine awp_ret ?_); try simp only [thenQ, blockQ, if_true, if_false, Nat.reduceEqDiff, eq_self, reduceCtorEq, reduceIte])
    | ((first | apply aops_one 0 | apply adr_one 0); (· exact nT38_0 hE))
    | refine awp_block ?_
    | (apply awp_condt; (· exact nT38_0 hE))
    | (apply awp_condf; (· exact nT38_0 hE))
    | (apply awp_cond; (· exact nT38_0 hE); all_goals intro hc)
    | ((first | apply aops_gsplit | apply adr_gsplit); (· rfl); (· exact nT38_0 hE); all_goals (intro hg; rw [hg])))); all_goals clear hE
    all_goals
      (apply awp_end [] (by first | exact .inl rfl | exact .inr rfl); (· exact nT38_2 (noX)))
      exact fz_res rfl (.b _)
def sameT9 (s t : Tr) : Bool := s.devs == t.devs && (s.fate == t.fate && (s.out.1 == t.out.1 && s.out.2 == t.out.2))
set_option maxHeartbeats 1000000 in
theorem p_r09Same (s t : Tr) (hl : s.devs.length < 4611686018427387904) (hm : t.devs.length < 4611686018427387904) : APure Try.prog n_r09_Same [.ag s.row, .ag t.row] (.b (sameT9 s t)) := by
  have hi := p_r06Ints s.devs t.devs hl hm
  refine apure_of h_r09_Same ?_; simp only [c_r09_Same, List.length_cons, List.length_nil, List.cons_append, List.nil_append, Nat.reduceAdd, Nat.reduceSub, List.reduceReplicate]
  (have hE := noX; repeat' (first
    | refine awp_seq ?_
    | (refine awp_reg fun nv => ?_)
    | ((first | refine aops_nil ?_ | refine awp_skip ?_ | refine awp_exit ?_ | refine awp_ret ?_); try simp only [thenQ, blockQ, if_true, if_false, Nat.reduceEqDiff, eq_self, reduceCtorEq, reduceIte])
    | (apply aops_one 0; (· exact nT38_4 hE))
    | (apply aops_call (hlf := h_r06_Ints); (· rfl); (· exact nT38_4 hE); (· exact pT38_); (· exact hi); (· exact nput))
    | refine awp_block ?_
    | (apply awp_condt; (· exact nT38_4 hE))
    | (apply awp_condf; (· exact nT38_4 hE))
    | (apply awp_cond; (· exact nT38_4 hE); all_goals intro hc)
    | (apply aops_gsplit; (· rfl); (· exact nT38_4 hE); all_goals (intro hg; rw [hg])))); all_goals clear hE
  all_goals
    (apply awp_end [] (by first | exact .inl rfl | exact .inr rfl); (· exact nT38_2 (noX)))
    refine fz_res ?_ (.b _)
    simp only [tup, Bool.or_false, Bool.false_or, Bool.not_false, Bool.not_true, Bool.true_and, Bool.and_true, Bool.true_or, Bool.or_true, Bool.and_false, Bool.false_and, Bool.not_not, sameT9, *]
structure Ver where
  holds : Bool
  src : Int
  addr : Int
  tr : Tr
  deriving DecidableEq
def Ver.row (v : Ver) : List AV := [.b v.holds, .i .i64 v.src, .i .u32 v.addr, ePorts v.tr.devs, .i .i64 v.tr.fate, .i .i64 v.tr.out.1, .i .i64 v.tr.out.2]
def sameV (v w : Ver) : Bool := sameT9 v.tr w.tr && (v.holds == w.holds && (v.src == w.src && v.addr == w.addr))
set_option maxHeartbeats 1000000 in
theorem p_r12Same (v w : Ver) (hl : v.tr.devs.length < 4611686018427387904) (hm : w.tr.devs.length < 4611686018427387904) : APure Try.prog n_r12_Same [.ag v.row, .ag w.row] (.b (sameV v w)) := by
  have hi := p_r09Same v.tr w.tr hl hm
  refine apure_of h_r12_Same ?_; simp only [c_r12_Same, List.length_cons, List.length_nil, List.cons_append, List.nil_append, Nat.reduceAdd, Nat.reduceSub, List.reduceReplicate]
  (have hE := noX; repeat' (first
    | refine awp_seq ?_
    | (refine awp_reg fun nv => ?_)
    | ((first | refine aops_nil ?_ | refine awp_skip ?_ | refine awp_exit ?_ | refine awp_ret ?_); try simp only [thenQ, blockQ, if_true, if_false, Nat.reduceEqDiff, eq_self, reduceCtorEq, reduceIte])
    | (apply aops_one 0; (· exact nT38_5 hE))
    | (apply aops_call (hlf := h_r09_Same); (· rfl); (· exact nT38_5 hE); (· exact pT38_); (· exact hi); (· exact nput))
    | refine awp_block ?_
    | (apply awp_condt; (· exact nT38_5 hE))
    | (apply awp_condf; (· exact nT38_5 hE))
    | (apply awp_cond; (· exact nT38_5 hE); all_goals intro hc)
    | (apply aops_gsplit; (· rfl); (· exact nT38_5 hE); all_goals (intro hg; rw [hg])))); all_goals clear hE
  all_goals
    (apply awp_end [] (by first | exact .inl rfl | exact .inr rfl); (· exact nT38_2 (noX)))
    refine fz_res ?_ (.b _)
    simp only [tup, Bool.or_false, Bool.false_or, Bool.not_false, Bool.not_true, Bool.true_and, Bool.and_true, Bool.true_or, Bool.or_true, Bool.and_false, Bool.false_and, Bool.not_not, sameV, *]
end Go.Proofs.Ytibkakodokbobaa
