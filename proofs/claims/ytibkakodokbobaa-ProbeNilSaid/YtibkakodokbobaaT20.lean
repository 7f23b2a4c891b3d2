import Derived.Test.YtibkakodokbobaaB0
namespace Go.Proofs.Ytibkakodokbobaa
open Go.Am
set_option maxRecDepth 100000
set_option linter.unusedSimpArgs false
set_option linter.unusedVariables false
theorem nT20_0 {E A : Prop} (e : E) (h : E → A := by (intro hE; simp only [aone, aoneT, gval, astep, aev, val, abin, abinI, abinS, aun, aeqn, aeqL, aeq1, put, upds, sset, sget, aload, astore, aobj, acut, cells_b, one_b, cells_i, one_i, cells_s, one_s, cells_nilp, one_nilp, cells_ref, one_ref, cells_ptr, one_ptr, cells_esl, one_esl, cells_sl, one_sl, cells_row, one_row, cells_fn, one_fn, cells_nilf, one_nilf, cells_nilm, one_nilm, cells_mp, one_mp, cells_mpr, one_mpr, cells_ag, anilck, afieldAddr, aindex, aindexAddr, alen, afill, afillR, aminmax, aminmax.aminmaxI, isNeq, sdl, kin, acall, ares, ares1, arows, aappend, aslice, asliceS, asliceR, aslice0, abnd, List.set_cons_succ, List.set_cons_zero, List.getD_cons_succ, List.getD_cons_zero, List.getElem?_cons_succ, List.getElem?_cons_zero, List.map_cons, List.map_nil, List.cons_append, List.nil_append, List.append_nil, List.length_cons, List.length_nil, List.take_succ_cons, List.take_zero, List.drop_succ_cons, List.drop_zero, List.all_cons, List.all_nil, List.replicate, Nat.reduceAdd, Nat.reduceSub, Nat.reduceMul, Nat.reduceLT, Nat.reduceLeDiff, Nat.reduceEqDiff, Nat.zero_add, Nat.add_zero, Nat.zero_mul, Option.map_some, Option.map_none, Option.bind_some, Option.bind_eq_bind, Option.getD_some, Option.getD_none, Option.isSome_some, Option.isSome_none, Option.toList, if_true, if_false, and_self, and_true, true_and, and_false, false_and, Prod.mk.injEq, Bool.false_eq_true, Bool.true_eq_false, beq_self_eq_true, Bool.not_true, Bool.not_false, Bool.and_self, Bool.and_true, Bool.true_and, decide_true, decide_false, beq_true, beq_false, Bool.not_not, reduceCtorEq, Nat.le_refl, Int.reduceNeg, reduceIte, Nat.reduceBEq, Int.reduceBEq, Int.reduceLT, Int.reduceLE, Int.reduceToNat, decide_eq_true_eq, not_false_eq_true, not_true_eq_false, ne_eq, eLinks_cells, eLinks_one, ePorts_cells, ePorts_one, eRules_cells, eRules_one, hE] <;> rfl)) : A := h e
theorem nT20_1 {E A : Prop} (e : E) (h : E → A := by (intro hE; simp only [aone, aoneT, gval, astep, aev, val, abin, abinI, abinS, aun, aeqn, aeqL, aeq1, put, upds, sset, sget, aload, astore, aobj, acut, cells_b, one_b, cells_i, one_i, cells_s, one_s, cells_nilp, one_nilp, cells_ref, one_ref, cells_ptr, one_ptr, cells_esl, one_esl, cells_sl, one_sl, cells_row, one_row, cells_fn, one_fn, cells_nilf, one_nilf, cells_nilm, one_nilm, cells_mp, one_mp, cells_mpr, one_mpr, cells_ag, anilck, afieldAddr, aindex, aindexAddr, alen, afill, afillR, aminmax, aminmax.aminmaxI, isNeq, sdl, kin, acall, ares, ares1, arows, aappend, aslice, asliceS, asliceR, aslice0, abnd, List.set_cons_succ, List.set_cons_zero, List.getD_cons_succ, List.getD_cons_zero, List.getElem?_cons_succ, List.getElem?_cons_zero, List.map_cons, List.map_nil, List.cons_append, List.nil_append, List.append_nil, List.length_cons, List.length_nil, List.take_succ_cons, List.take_zero, List.drop_succ_cons, List.drop_zero, List.all_cons, List.all_nil, List.replicate, Nat.reduceAdd, Nat.reduceSub, Nat.reduceMul, Nat.reduceLT, Nat.reduceLeDiff, Nat.reduceEqDiff, Nat.zero_add, Nat.add_zero, Nat.zero_mul, Option.map_some, Option.map_none, Option.bind_some, Option.bind_eq_bind, Option.getD_some, Option.getD_none, Option.isSome_some, Option.isSome_none, Option.toList, if_true, if_false, and_self, and_true, true_and, and_false, false_and, Prod.mk.injEq, Bool.false_eq_true, Bool.true_eq_false, beq_self_eq_true, Bool.not_true, Bool.not_false, Bool.and_self, Bool.and_true, Bool.true_and, decide_true, decide_false, beq_true, beq_false, Bool.not_not, reduceCtorEq, Nat.le_refl, Int.reduceNeg, reduceIte, Nat.reduceBEq, Int.reduceBEq, Int.reduceLT, Int.reduceLE, Int.reduceToNat, decide_eq_true_eq, not_false_eq_true, not_true_eq_false, ne_eq, Rule.row, eLinks_cells, eLinks_one, ePorts_cells, ePorts_one, eRules_cells, eRules_one, hE] <;> rfl)) : A := h e
theorem pT20_ {A : Prop} (h : A := by (simp only [List.forall_mem_cons, List.forall_mem_nil, List.not_mem_nil, false_imp_iff, implies_true, List.forall_mem_map, pure_b, pure_i, pure_s, pure_nilp, pure_nilf, pure_esl, pure_ref, pure_sl, pure_ag, pure_tu, pure_fn, and_self, and_true, true_and, eRules_pure, ePorts_pure, eLinks_pure]; done)) : A := h
/-! ### cmp.Compare, cmp.Or; rule: ahead, takes, and what is asked of rules -/
theorem p_isNaN (x : Int) : APure Try.prog n_cmp_isNaN_int [.i .i64 x] (.b false) := by
  refine apure_of h_cmp_isNaN_int ?_; simp only [c_cmp_isNaN_int, List.length_cons, List.length_nil, List.cons_append, List.nil_append, Nat.reduceAdd, Nat.reduceSub, List.reduceReplicate]
  (have hE := noX; repeat' (first
    | refine awp_seq ?_
    | (refine awp_reg fun nv => ?_)
    | ((first | refine aops_nil ?_ | refine awp_skip ?_ | refine awp_exit ?_ | refine awp_ret ?_); try simp only [thenQ, blockQ, if_true, if_false, Nat.reduceEqDiff, eq_self, reduceCtorEq, reduceIte])
    | (apply aops_one 0; (· exact nT20_0 hE))
    | refine awp_block ?_
    | (apply awp_condt; (· exact nT20_0 hE))
    | (apply awp_condf; (· exact nT20_0 hE))
    | (apply awp_cond; (· exact nT20_0 hE); all_goals intro hc)
    | (apply aops_gsplit; (· rfl); (· exact nT20_0 hE); all_goals (intro hg; rw [hg])))); all_goals clear hE
  all_goals
    (apply awp_end [] (by first | exact .inl rfl | exact .inr rfl); (· exact nT20_0 (noX))); refine fz_res ?_ (.b _)
    simp [tup]
def cmpI (x y : Int) : Int := if x < y then -1 else if x > y then 1 else 0
theorem p_Compare (x y : Int) : APure Try.prog n_cmp_Compare_int [.i .i64 x, .i .i64 y] (.i .i64 (cmpI x y)) := by
  refine apure_of h_cmp_Compare_int ?_; simp only [c_cmp_Compare_int, List.length_cons, List.length_nil, List.cons_append, List.nil_append, Nat.reduceAdd, Nat.reduceSub, List.reduceReplicate]
  (have hE := noX; repeat' (first
    | refine awp_seq ?_
    | (refine awp_reg fun nv => ?_)
    | ((first | refine aops_nil ?_ | refine awp_skip ?_ | refine awp_exit ?_ | refine awp_ret ?_); try simp only [thenQ, blockQ, if_true, if_false, Nat.reduceEqDiff, eq_self, reduceCtorEq, reduceIte])
    | (apply aops_one 0; (· exact nT20_0 hE))
    | (apply aops_call (hlf := h_cmp_isNaN_int); (· rfl); (· exact nT20_0 hE); (· exact pT20_); (· exact (p_isNaN _)); (· exact nput))
    | refine awp_block ?_
    | (apply awp_condt; (· exact nT20_0 hE))
    | (apply awp_condf; (· exact nT20_0 hE))
    | (apply awp_cond; (· exact nT20_0 hE); all_goals intro hc)
    | (apply aops_gsplit; (· rfl); (· exact nT20_0 hE); all_goals (intro hg; rw [hg])))); all_goals clear hE
  all_goals
    (apply awp_end [] (by first | exact .inl rfl | exact .inr rfl); (· exact nT20_0 (noX))); refine fz_res ?_ (.i _ _)
    simp only [decide_eq_true_eq, decide_eq_false_iff_not] at *
    simp [tup, cmpI, *]
def orI (a b : Int) : Int := if a = 0 then b else a
theorem p_Or (a b : Int) : APure Try.prog n_cmp_Or_int [.sl [[.i .i64 a], [.i .i64 b]]] (.i .i64 (orI a b)) := by
  refine apure_of h_cmp_Or_int ?_; simp only [c_cmp_Or_int, List.length_cons, List.length_nil, List.cons_append, List.nil_append, Nat.reduceAdd, Nat.reduceSub, List.reduceReplicate]
  by_cases ha : a = 0
  · have ha' : (a != 0) = false := by simpa using ha
    by_cases hb : b = 0
    · have hb' : (b != 0) = false := by simpa using hb
      (have hE := And.intro @ha' (And.intro @hb' noX); repeat' (first
    | refine awp_seq ?_
    | (refine awp_reg fun nv => ?_)
    | ((first | refine aops_nil ?_ | refine awp_skip ?_ | refine awp_exit ?_ | refine awp_ret ?_); try simp only [thenQ, blockQ, if_true, if_false, Nat.reduceEqDiff, eq_self, reduceCtorEq, reduceIte])
    | (apply aops_one 0; (· exact nT20_0 hE))
    | (refine awp_loopn 4 ?_)
    | (refine loopn_succ ?_)
    | refine awp_block ?_
    | (apply awp_condt; (· exact nT20_0 hE))
    | (apply awp_condf; (· exact nT20_0 hE))
    | (apply awp_cond; (· exact nT20_0 hE); all_goals intro hc)
    | (apply aops_gsplit; (· rfl); (· exact nT20_0 hE); all_goals (intro hg; rw [hg])))); all_goals clear hE
      all_goals
        (apply awp_end [] (by first | exact .inl rfl | exact .inr rfl); (· exact nT20_0 (noX)))
        exact fz_res (by simp [tup, orI, ha, hb]) (.i _ _)
    · have hb' : (b != 0) = true := by simpa using hb
      (have hE := And.intro @ha' (And.intro @hb' noX); repeat' (first
    | refine awp_seq ?_
    | (refine awp_reg fun nv => ?_)
    | ((first | refine aops_nil ?_ | refine awp_skip ?_ | refine awp_exit ?_ | refine awp_ret ?_); try simp only [thenQ, blockQ, if_true, if_false, Nat.reduceEqDiff, eq_self, reduceCtorEq, reduceIte])
    | (apply aops_one 0; (· exact nT20_0 hE))
    | (refine awp_loopn 4 ?_)
    | (refine loopn_succ ?_)
    | refine awp_block ?_
    | (apply awp_condt; (· exact nT20_0 hE))
    | (apply awp_condf; (· exact nT20_0 hE))
    | (apply awp_cond; (· exact nT20_0 hE); all_goals intro hc)
    | (apply aops_gsplit; (· rfl); (· exact nT20_0 hE); all_goals (intro hg; rw [hg])))); all_goals clear hE
      all_goals
        (apply awp_end [] (by first | exact .inl rfl | exact .inr rfl); (· exact nT20_0 (noX)))
        exact fz_res (by simp [tup, orI, ha]) (.i _ _)
  · have ha' : (a != 0) = true := by simpa using ha
    (have hE := And.intro @ha' noX; repeat' (first
    | refine awp_seq ?_
    | (refine awp_reg fun nv => ?_)
    | ((first | refine aops_nil ?_ | refine awp_skip ?_ | refine awp_exit ?_ | refine awp_ret ?_); try simp only [thenQ, blockQ, if_true, if_false, Nat.reduceEqDiff, eq_self, reduceCtorEq, reduceIte])
    | (apply aops_one 0; (· exact nT20_0 hE))
    | (refine awp_loopn 4 ?_)
    | (refine loopn_succ ?_)
    | refine awp_block ?_
    | (apply awp_condt; (· exact nT20_0 hE))
    | (apply awp_condf; (· exact nT20_0 hE))
    | (apply awp_cond; (· exact nT20_0 hE); all_goals intro hc)
    | (apply aops_gsplit; (· rfl); (· exact nT20_0 hE); all_goals (intro hg; rw [hg])))); all_goals clear hE
    all_goals
      (apply awp_end [] (by first | exact .inl rfl | exact .inr rfl); (· exact nT20_0 (noX)))
      exact fz_res (by simp [tup, orI, ha]) (.i _ _)
def aheadI (x y : Rule) : Int := orI (cmpI y.prio x.prio) (cmpI x.id y.id)
theorem p_ahead (x y : Rule) : APure Try.prog n_rule_ahead [.ag x.row, .ag y.row] (.i .i64 (aheadI x y)) := by
  refine apure_of h_rule_ahead ?_; simp only [c_rule_ahead, List.length_cons, List.length_nil, List.cons_append, List.nil_append, Nat.reduceAdd, Nat.reduceSub, List.reduceReplicate]
  (have hE := noX; repeat' (first
    | refine awp_seq ?_
    | (refine awp_reg fun nv => ?_)
    | (refine awp_regd mix fun nv => ?_)
    | ((first | refine aops_nil ?_ | refine adr_nil (by rfl) ?_ | refine awp_skip ?_ | refine awp_exit ?_ | refine awp_ret ?_); try simp only [thenQ, blockQ, if_true, if_false, Nat.reduceEqDiff, eq_self, reduceCtorEq, reduceIte])
    | ((first | apply aops_one 0 | apply adr_one 0); (· exact nT20_1 hE))
    | ((first | apply aops_call (hlf := h_cmp_Compare_int) | apply adr_call (hlf := h_cmp_Compare_int)); (· rfl); (· exact nT20_1 hE); (· exact pT20_); (· exact (p_Compare _ _)); (· exact nput))
    | ((first | apply aops_callf [(0, 15)] (hlf := h_cmp_Or_int) | apply adr_callf [(0, 15)] (hlf := h_cmp_Or_int)); (· rfl); (· exact nT20_1 hE); (· exact (fzl_cons (fz_row (List.mem_cons_self ..) rfl rfl (by simp) (by simp [pure_i])) fzl_nil)); (· exact (p_Or _ _)); (· exact (.i _ _)); (· exact nput))
    | refine awp_block ?_
    | (apply awp_condt; (· exact nT20_1 hE))
    | (apply awp_condf; (· exact nT20_1 hE))
    | (apply awp_cond; (· exact nT20_1 hE); all_goals intro hc)
    | ((first | apply aops_gsplit | apply adr_gsplit); (· rfl); (· exact nT20_1 hE); all_goals (intro hg; rw [hg])))); all_goals clear hE
  all_goals
    (apply awp_end [] (by first | exact .inl rfl | exact .inr rfl); (· exact nT20_0 (noX)))
    exact fz_eq' rfl (.i _ _)
def takesB (r : Rule) (dev a : Int) : Bool := r.dev == dev && decide (r.f ≤ a) && decide (a ≤ r.t)
set_option maxHeartbeats 1000000 in
theorem p_takes (r : Rule) (dev a : Int) : APure Try.prog n_rule_takes [.ag r.row, .i .i64 dev, .i .u32 a] (.b (takesB r dev a)) := by
  refine apure_of h_rule_takes ?_; simp only [c_rule_takes, List.length_cons, List.length_nil, List.cons_append, List.nil_append, Nat.reduceAdd, Nat.reduceSub, List.reduceReplicate]
  (have hE := noX; repeat' (first
    | refine awp_seq ?_
    | (refine awp_reg fun nv => ?_)
    | ((first | refine aops_nil ?_ | refine awp_skip ?_ | refine awp_exit ?_ | refine awp_ret ?_); try simp only [thenQ, blockQ, if_true, if_false, Nat.reduceEqDiff, eq_self, reduceCtorEq, reduceIte])
    | (apply aops_one 0; (· exact nT20_1 hE))
    | refine awp_block ?_
    | (apply awp_condt; (· exact nT20_1 hE))
    | (apply awp_condf; (· exact nT20_1 hE))
    | (apply awp_cond; (· exact nT20_1 hE); all_goals intro hc)
    | (apply aops_gsplit; (· rfl); (· exact nT20_1 hE); all_goals (intro hg; rw [hg])))); all_goals clear hE
  all_goals
    (apply awp_end [] (by first | exact .inl rfl | exact .inr rfl); (· exact nT20_0 (noX)))
    refine fz_res ?_ (.b _)
    simp [tup, takesB, *]
end Go.Proofs.Ytibkakodokbobaa
