import Derived.Test.YtibkakodokbobaaT25
namespace Go.Proofs.Ytibkakodokbobaa
open Go.Am
set_option maxRecDepth 100000
set_option linter.unusedSimpArgs false
set_option linter.unusedVariables false
theorem nT26_0 {E A : Prop} (e : E) (h : E → A := by (intro hE; simp only [aone, aoneT, gval, astep, aev, val, abin, abinI, abinS, aun, aeqn, aeqL, aeq1, put, upds, sset, sget, aload, astore, aobj, acut, cells_b, one_b, cells_i, one_i, cells_s, one_s, cells_nilp, one_nilp, cells_ref, one_ref, cells_ptr, one_ptr, cells_esl, one_esl, cells_sl, one_sl, cells_row, one_row, cells_fn, one_fn, cells_nilf, one_nilf, cells_nilm, one_nilm, cells_mp, one_mp, cells_mpr, one_mpr, cells_ag, anilck, afieldAddr, aindex, aindexAddr, alen, afill, afillR, aminmax, aminmax.aminmaxI, isNeq, sdl, kin, acall, ares, ares1, arows, aappend, aslice, asliceS, asliceR, aslice0, abnd, List.set_cons_succ, List.set_cons_zero, List.getD_cons_succ, List.getD_cons_zero, List.getElem?_cons_succ, List.getElem?_cons_zero, List.map_cons, List.map_nil, List.cons_append, List.nil_append, List.append_nil, List.length_cons, List.length_nil, List.take_succ_cons, List.take_zero, List.drop_succ_cons, List.drop_zero, List.all_cons, List.all_nil, List.replicate, Nat.reduceAdd, Nat.reduceSub, Nat.reduceMul, Nat.reduceLT, Nat.reduceLeDiff, Nat.reduceEqDiff, Nat.zero_add, Nat.add_zero, Nat.zero_mul, Option.map_some, Option.map_none, Option.bind_some, Option.bind_eq_bind, Option.getD_some, Option.getD_none, Option.isSome_some, Option.isSome_none, Option.toList, if_true, if_false, and_self, and_true, true_and, and_false, false_and, Prod.mk.injEq, Bool.false_eq_true, Bool.true_eq_false, beq_self_eq_true, Bool.not_true, Bool.not_false, Bool.and_self, Bool.and_true, Bool.true_and, decide_true, decide_false, beq_true, beq_false, Bool.not_not, reduceCtorEq, Nat.le_refl, Int.reduceNeg, reduceIte, Nat.reduceBEq, Int.reduceBEq, Int.reduceLT, Int.reduceLE, Int.reduceToNat, decide_eq_true_eq, not_false_eq_true, not_true_eq_false, ne_eq, eLinks_cells, eLinks_one, ePorts_cells, ePorts_one, eRules_cells, eRules_one, hE] <;> rfl)) : A := h e
theorem nT26_1 {E A : Prop} (e : E) (h : E → A := by (intro hE; simp only [aone, aoneT, gval, astep, aev, val, abin, abinI, abinS, aun, aeqn, aeqL, aeq1, put, upds, sset, sget, aload, astore, aobj, acut, cells_b, one_b, cells_i, one_i, cells_s, one_s, cells_nilp, one_nilp, cells_ref, one_ref, cells_ptr, one_ptr, cells_esl, one_esl, cells_sl, one_sl, cells_row, one_row, cells_fn, one_fn, cells_nilf, one_nilf, cells_nilm, one_nilm, cells_mp, one_mp, cells_mpr, one_mpr, cells_ag, anilck, afieldAddr, aindex, aindexAddr, alen, afill, afillR, aminmax, aminmax.aminmaxI, isNeq, sdl, kin, acall, ares, ares1, arows, aappend, aslice, asliceS, asliceR, aslice0, abnd, List.set_cons_succ, List.set_cons_zero, List.getD_cons_succ, List.getD_cons_zero, List.getElem?_cons_succ, List.getElem?_cons_zero, List.map_cons, List.map_nil, List.cons_append, List.nil_append, List.append_nil, List.length_cons, List.length_nil, List.take_succ_cons, List.take_zero, List.drop_succ_cons, List.drop_zero, List.all_cons, List.all_nil, List.replicate, Nat.reduceAdd, Nat.reduceSub, Nat.reduceMul, Nat.reduceLT, Nat.reduceLeDiff, Nat.reduceEqDiff, Nat.zero_add, Nat.add_zero, Nat.zero_mul, Option.map_some, Option.map_none, Option.bind_some, Option.bind_eq_bind, Option.getD_some, Option.getD_none, Option.isSome_some, Option.isSome_none, Option.toList, if_true, if_false, and_self, and_true, true_and, and_false, false_and, Prod.mk.injEq, Bool.false_eq_true, Bool.true_eq_false, beq_self_eq_true, Bool.not_true, Bool.not_false, Bool.and_self, Bool.and_true, Bool.true_and, decide_true, decide_false, beq_true, beq_false, Bool.not_not, reduceCtorEq, Nat.le_refl, Int.reduceNeg, reduceIte, Nat.reduceBEq, Int.reduceBEq, Int.reduceLT, Int.reduceLE, Int.reduceToNat, decide_eq_true_eq, not_false_eq_true, not_true_eq_false, ne_eq, eLinks_cells, eLinks_one, ePorts_cells, ePorts_one, eRuleO, eRules_cells, eRules_one, zrow, hE] <;> rfl)) : A := h e
theorem nT26_2 {E A : Prop} (e : E) (h : E → A := by (intro hE; simp only [aone, aoneT, gval, astep, aev, val, abin, abinI, abinS, aun, aeqn, aeqL, aeq1, put, upds, sset, sget, aload, astore, aobj, acut, cells_b, one_b, cells_i, one_i, cells_s, one_s, cells_nilp, one_nilp, cells_ref, one_ref, cells_ptr, one_ptr, cells_esl, one_esl, cells_sl, one_sl, cells_row, one_row, cells_fn, one_fn, cells_nilf, one_nilf, cells_nilm, one_nilm, cells_mp, one_mp, cells_mpr, one_mpr, cells_ag, anilck, afieldAddr, aindex, aindexAddr, alen, afill, afillR, aminmax, aminmax.aminmaxI, isNeq, sdl, kin, acall, ares, ares1, arows, aappend, aslice, asliceS, asliceR, aslice0, abnd, List.set_cons_succ, List.set_cons_zero, List.getD_cons_succ, List.getD_cons_zero, List.getElem?_cons_succ, List.getElem?_cons_zero, List.map_cons, List.map_nil, List.cons_append, List.nil_append, List.append_nil, List.length_cons, List.length_nil, List.take_succ_cons, List.take_zero, List.drop_succ_cons, List.drop_zero, List.all_cons, List.all_nil, List.replicate, Nat.reduceAdd, Nat.reduceSub, Nat.reduceMul, Nat.reduceLT, Nat.reduceLeDiff, Nat.reduceEqDiff, Nat.zero_add, Nat.add_zero, Nat.zero_mul, Option.map_some, Option.map_none, Option.bind_some, Option.bind_eq_bind, Option.getD_some, Option.getD_none, Option.isSome_some, Option.isSome_none, Option.toList, if_true, if_false, and_self, and_true, true_and, and_false, false_and, Prod.mk.injEq, Bool.false_eq_true, Bool.true_eq_false, beq_self_eq_true, Bool.not_true, Bool.not_false, Bool.and_self, Bool.and_true, Bool.true_and, decide_true, decide_false, beq_true, beq_false, Bool.not_not, reduceCtorEq, Nat.le_refl, Int.reduceNeg, reduceIte, Nat.reduceBEq, Int.reduceBEq, Int.reduceLT, Int.reduceLE, Int.reduceToNat, decide_eq_true_eq, not_false_eq_true, not_true_eq_false, ne_eq, Rule.row, eLinks_cells, eLinks_one, ePorts_cells, ePorts_one, eRuleO, eRules_cells, eRules_one, hE] <;> rfl)) : A := h e
theorem nT26_3 {E A : Prop} (e : E) (h : E → A := by (intro hE; simp only [aone, aoneT, gval, astep, aev, val, abin, abinI, abinS, aun, aeqn, aeqL, aeq1, put, upds, sset, sget, aload, astore, aobj, acut, cells_b, one_b, cells_i, one_i, cells_s, one_s, cells_nilp, one_nilp, cells_ref, one_ref, cells_ptr, one_ptr, cells_esl, one_esl, cells_sl, one_sl, cells_row, one_row, cells_fn, one_fn, cells_nilf, one_nilf, cells_nilm, one_nilm, cells_mp, one_mp, cells_mpr, one_mpr, cells_ag, anilck, afieldAddr, aindex, aindexAddr, alen, afill, afillR, aminmax, aminmax.aminmaxI, isNeq, sdl, kin, acall, ares, ares1, arows, aappend, aslice, asliceS, asliceR, aslice0, abnd, List.set_cons_succ, List.set_cons_zero, List.getD_cons_succ, List.getD_cons_zero, List.getElem?_cons_succ, List.getElem?_cons_zero, List.map_cons, List.map_nil, List.cons_append, List.nil_append, List.append_nil, List.length_cons, List.length_nil, List.take_succ_cons, List.take_zero, List.drop_succ_cons, List.drop_zero, List.all_cons, List.all_nil, List.replicate, Nat.reduceAdd, Nat.reduceSub, Nat.reduceMul, Nat.reduceLT, Nat.reduceLeDiff, Nat.reduceEqDiff, Nat.zero_add, Nat.add_zero, Nat.zero_mul, Option.map_some, Option.map_none, Option.bind_some, Option.bind_eq_bind, Option.getD_some, Option.getD_none, Option.isSome_some, Option.isSome_none, Option.toList, if_true, if_false, and_self, and_true, true_and, and_false, false_and, Prod.mk.injEq, Bool.false_eq_true, Bool.true_eq_false, beq_self_eq_true, Bool.not_true, Bool.not_false, Bool.and_self, Bool.and_true, Bool.true_and, decide_true, decide_false, beq_true, beq_false, Bool.not_not, reduceCtorEq, Nat.le_refl, Int.reduceNeg, reduceIte, Nat.reduceBEq, Int.reduceBEq, Int.reduceLT, Int.reduceLE, Int.reduceToNat, decide_eq_true_eq, not_false_eq_true, not_true_eq_false, ne_eq, Rule.row, eLinks_cells, eLinks_one, ePorts_cells, ePorts_one, ePt, eRuleO, eRules_cells, eRules_one, hE] <;> rfl)) : A := h e
theorem pT26_ {A : Prop} (h : A := by (simp only [List.forall_mem_cons, List.forall_mem_nil, List.not_mem_nil, false_imp_iff, implies_true, List.forall_mem_map, pure_b, pure_i, pure_s, pure_nilp, pure_nilf, pure_esl, pure_ref, pure_sl, pure_ag, pure_tu, pure_fn, and_self, and_true, true_and, eRules_pure, ePorts_pure, eLinks_pure]; done)) : A := h
/-! ### fate.Step -/
def stepS (n : Net) (d a : Int) : Int × Pt :=
  if deniesS n.rules d a = true then (2, (0, 0)) else
  match matchS n.rules d a with
  | none => (0, (0, 0))
  | some r => if r.kind = 1 then (1, (0, 0)) else if (nextS n d r.port).isSome = true then (4, (d, r.port)) else (3, (d, r.port))
def Net.small (n : Net) : Prop := n.ports.length < 1000000 ∧ n.links.length < 1000000 ∧ n.rules.length < 1000000
def eStep (x : Int × Pt) : AV := .tu [.i .i64 x.1, ePt x.2]
theorem eStep_Pure (x : Int × Pt) : Pure (eStep x) := .tu _ (by simp [ePt, pure_ag, pure_i])
set_option maxHeartbeats 4000000 in
theorem p_Step (n : Net) (hn : n.small) (d a : Int) : APure Try.prog n_fate_Step [.ag [ePorts n.ports, eLinks n.links, eRules n.rules], .i .i64 d, .i .u32 a] (eStep (stepS n d a)) := by
  have hd := p_Denies n.rules hn.2.2 d a
  have hm := p_Match n.rules hn.2.2 d a
  refine apure_of h_fate_Step ?_; simp only [c_fate_Step, List.length_cons, List.length_nil, List.cons_append, List.nil_append, Nat.reduceAdd, Nat.reduceSub, List.reduceReplicate]
  unfold stepS
  cases h1 : deniesS n.rules d a with
  | true =>
    rw [h1] at hd
    (have hE := noX; repeat' (first
    | refine awp_seq ?_
    | (refine awp_reg fun nv => ?_)
    | (refine awp_regd mix fun nv => ?_)
    | ((first | refine aops_nil ?_ | refine adr_nil (by rfl) ?_ | refine awp_skip ?_ | refine awp_exit ?_ | refine awp_ret ?_); try simp only [thenQ, blockQ, if_true, if_false, Nat.reduceEqDiff, eq_self, reduceCtorEq, reduceIte])
    | ((first | apply aops_one 0 | apply adr_one 0); (· exact nT26_0 hE))
    | ((first | apply aops_call (hlf := h_rule_Denies) | apply adr_call (hlf := h_rule_Denies)); (· rfl); (· exact nT26_0 hE); (· exact pT26_); (· exact hd); (· exact nput))
    | refine awp_block ?_
    | (apply awp_condt; (· exact nT26_0 hE))
    | (apply awp_condf; (· exact nT26_0 hE))
    | (apply awp_cond; (· exact nT26_0 hE); all_goals intro hc)
    | ((first | apply aops_gsplit | apply adr_gsplit); (· rfl); (· exact nT26_0 hE); all_goals (intro hg; rw [hg])))); all_goals clear hE
    all_goals
      (apply awp_end [] (by first | exact .inl rfl | exact .inr rfl); (· exact nT26_0 (noX)))
      exact fz_res rfl (eStep_Pure (2, (0, 0)))
  | false =>
    rw [h1] at hd
    cases h2 : matchS n.rules d a with
    | none =>
      rw [h2] at hm
      (have hE := noX; repeat' (first
    | refine awp_seq ?_
    | (refine awp_reg fun nv => ?_)
    | (refine awp_regd mix fun nv => ?_)
    | ((first | refine aops_nil ?_ | refine adr_nil (by rfl) ?_ | refine awp_skip ?_ | refine awp_exit ?_ | refine awp_ret ?_); try simp only [thenQ, blockQ, if_true, if_false, Nat.reduceEqDiff, eq_self, reduceCtorEq, reduceIte])
    | ((first | apply aops_one 0 | apply adr_one 0); (· exact nT26_1 hE))
    | ((first | apply aops_call (hlf := h_rule_Denies) | apply adr_call (hlf := h_rule_Denies)); (· rfl); (· exact nT26_1 hE); (· exact pT26_); (· exact hd); (· exact nput))
    | ((first | apply aops_call (hlf := h_rule_Match) | apply adr_call (hlf := h_rule_Match)); (· rfl); (· exact nT26_1 hE); (· exact pT26_); (· exact hm); (· exact nput))
    | refine awp_block ?_
    | (apply awp_condt; (· exact nT26_1 hE))
    | (apply awp_condf; (· exact nT26_1 hE))
    | (apply awp_cond; (· exact nT26_1 hE); all_goals intro hc)
    | ((first | apply aops_gsplit | apply adr_gsplit); (· rfl); (· exact nT26_1 hE); all_goals (intro hg; rw [hg])))); all_goals clear hE
      all_goals
        (apply awp_end [] (by first | exact .inl rfl | exact .inr rfl); (· exact nT26_0 (noX)))
        exact fz_res rfl (eStep_Pure (0, (0, 0)))
    | some r =>
      rw [h2] at hm
      by_cases h3 : r.kind = 1
      · have h3' : (r.kind == 1) = true := by simpa using h3
        (have hE := And.intro @h3' noX; repeat' (first
    | refine awp_seq ?_
    | (refine awp_reg fun nv => ?_)
    | (refine awp_regd mix fun nv => ?_)
    | ((first | refine aops_nil ?_ | refine adr_nil (by rfl) ?_ | refine awp_skip ?_ | refine awp_exit ?_ | refine awp_ret ?_); try simp only [thenQ, blockQ, if_true, if_false, Nat.reduceEqDiff, eq_self, reduceCtorEq, reduceIte])
    | ((first | apply aops_one 0 | apply adr_one 0); (· exact nT26_2 hE))
    | ((first | apply aops_call (hlf := h_rule_Denies) | apply adr_call (hlf := h_rule_Denies)); (· rfl); (· exact nT26_2 hE); (· exact pT26_); (· exact hd); (· exact nput))
    | ((first | apply aops_call (hlf := h_rule_Match) | apply adr_call (hlf := h_rule_Match)); (· rfl); (· exact nT26_2 hE); (· exact pT26_); (· exact hm); (· exact nput))
    | refine awp_block ?_
    | (apply awp_condt; (· exact nT26_2 hE))
    | (apply awp_condf; (· exact nT26_2 hE))
    | (apply awp_cond; (· exact nT26_2 hE); all_goals intro hc)
    | ((first | apply aops_gsplit | apply adr_gsplit); (· rfl); (· exact nT26_2 hE); all_goals (intro hg; rw [hg])))); all_goals clear hE
        all_goals
          (apply awp_end [] (by first | exact .inl rfl | exact .inr rfl); (· exact nT26_0 (noX)))
          simp only [if_pos h3]
          exact fz_res rfl (eStep_Pure (1, (0, 0)))
      · have h3' : (r.kind == 1) = false := by simpa using h3
        have hx := p_NextT n hn.2.1 d r.port
        by_cases h4 : (nextS n d r.port).isSome = true
        · rw [h4] at hx
          (have hE := And.intro @h3' noX; repeat' (first
    | refine awp_seq ?_
    | (refine awp_reg fun nv => ?_)
    | (refine awp_regd mix fun nv => ?_)
    | ((first | refine aops_nil ?_ | refine adr_nil (by rfl) ?_ | refine awp_skip ?_ | refine awp_exit ?_ | refine awp_ret ?_); try simp only [thenQ, blockQ, if_true, if_false, Nat.reduceEqDiff, eq_self, reduceCtorEq, reduceIte])
    | ((first | apply aops_one 0 | apply adr_one 0); (· exact nT26_3 hE))
    | ((first | apply aops_call (hlf := h_rule_Denies) | apply adr_call (hlf := h_rule_Denies)); (· rfl); (· exact nT26_3 hE); (· exact pT26_); (· exact hd); (· exact nput))
    | ((first | apply aops_call (hlf := h_rule_Match) | apply adr_call (hlf := h_rule_Match)); (· rfl); (· exact nT26_3 hE); (· exact pT26_); (· exact hm); (· exact nput))
    | ((first | apply aops_call (hlf := h_topo_Next) | apply adr_call (hlf := h_topo_Next)); (· rfl); (· exact nT26_3 hE); (· exact pT26_); (· exact hx); (· exact nput))
    | refine awp_block ?_
    | (apply awp_condt; (· exact nT26_3 hE))
    | (apply awp_condf; (· exact nT26_3 hE))
    | (apply awp_cond; (· exact nT26_3 hE); all_goals intro hc)
    | ((first | apply aops_gsplit | apply adr_gsplit); (· rfl); (· exact nT26_3 hE); all_goals (intro hg; rw [hg])))); all_goals clear hE
          all_goals
            (apply awp_end [] (by first | exact .inl rfl | exact .inr rfl); (· exact nT26_0 (noX)))
            simp only [if_neg h3, if_pos h4]
            exact fz_res rfl (eStep_Pure (4, (d, r.port)))
        · have h4' : (nextS n d r.port).isSome = false := by simpa using h4
          rw [h4'] at hx
          (have hE := And.intro @h3' noX; repeat' (first
    | refine awp_seq ?_
    | (refine awp_reg fun nv => ?_)
    | (refine awp_regd mix fun nv => ?_)
    | ((first | refine aops_nil ?_ | refine adr_nil (by rfl) ?_ | refine awp_skip ?_ | refine awp_exit ?_ | refine awp_ret ?_); try simp only [thenQ, blockQ, if_true, if_false, Nat.reduceEqDiff, eq_self, reduceCtorEq, reduceIte])
    | ((first | apply aops_one 0 | apply adr_one 0); (· exact nT26_3 hE))
    | ((first | apply aops_call (hlf := h_rule_Denies) | apply adr_call (hlf := h_rule_Denies)); (· rfl); (· exact nT26_3 hE); (· exact pT26_); (· exact hd); (· exact nput))
    | ((first | apply aops_call (hlf := h_rule_Match) | apply adr_call (hlf := h_rule_Match)); (· rfl); (· exact nT26_3 hE); (· exact pT26_); (· exact hm); (· exact nput))
    | ((first | apply aops_call (hlf := h_topo_Next) | apply adr_call (hlf := h_topo_Next)); (· rfl); (· exact nT26_3 hE); (· exact pT26_); (· exact hx); (· exact nput))
    | refine awp_block ?_
    | (apply awp_condt; (· exact nT26_3 hE))
    | (apply awp_condf; (· exact nT26_3 hE))
    | (apply awp_cond; (· exact nT26_3 hE); all_goals intro hc)
    | ((first | apply aops_gsplit | apply adr_gsplit); (· rfl); (· exact nT26_3 hE); all_goals (intro hg; rw [hg])))); all_goals clear hE
          all_goals
            (apply awp_end [] (by first | exact .inl rfl | exact .inr rfl); (· exact nT26_0 (noX)))
            simp only [if_neg h3, if_neg h4]
            exact fz_res rfl (eStep_Pure (3, (d, r.port)))
end Go.Proofs.Ytibkakodokbobaa
