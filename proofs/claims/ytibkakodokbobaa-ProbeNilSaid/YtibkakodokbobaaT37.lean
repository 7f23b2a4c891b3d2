import Derived.Test.YtibkakodokbobaaT33
namespace Go.Proofs.Ytibkakodokbobaa
open Go.Am
set_option maxRecDepth 100000
set_option linter.unusedSimpArgs false
set_option linter.unusedVariables false
theorem nT37_0 {E A : Prop} (e : E) (h : E → A := by (intro hE; simp only [aone, aoneT, gval, astep, aev, val, abin, abinI, abinS, aun, aeqn, aeqL, aeq1, put, upds, sset, sget, aload, astore, aobj, acut, cells_b, one_b, cells_i, one_i, cells_s, one_s, cells_nilp, one_nilp, cells_ref, one_ref, cells_ptr, one_ptr, cells_esl, one_esl, cells_sl, one_sl, cells_row, one_row, cells_fn, one_fn, cells_nilf, one_nilf, cells_nilm, one_nilm, cells_mp, one_mp, cells_mpr, one_mpr, cells_ag, anilck, afieldAddr, aindex, aindexAddr, alen, afill, afillR, aminmax, aminmax.aminmaxI, isNeq, sdl, kin, acall, ares, ares1, arows, aappend, aslice, asliceS, asliceR, aslice0, abnd, List.set_cons_succ, List.set_cons_zero, List.getD_cons_succ, List.getD_cons_zero, List.getElem?_cons_succ, List.getElem?_cons_zero, List.map_cons, List.map_nil, List.cons_append, List.nil_append, List.append_nil, List.length_cons, List.length_nil, List.take_succ_cons, List.take_zero, List.drop_succ_cons, List.drop_zero, List.all_cons, List.all_nil, List.replicate, Nat.reduceAdd, Nat.reduceSub, Nat.reduceMul, Nat.reduceLT, Nat.reduceLeDiff, Nat.reduceEqDiff, Nat.zero_add, Nat.add_zero, Nat.zero_mul, Option.map_some, Option.map_none, Option.bind_some, Option.bind_eq_bind, Option.getD_some, Option.getD_none, Option.isSome_some, Option.isSome_none, Option.toList, if_true, if_false, and_self, and_true, true_and, and_false, false_and, Prod.mk.injEq, Bool.false_eq_true, Bool.true_eq_false, beq_self_eq_true, Bool.not_true, Bool.not_false, Bool.and_self, Bool.and_true, Bool.true_and, decide_true, decide_false, beq_true, beq_false, Bool.not_not, reduceCtorEq, Nat.le_refl, Int.reduceNeg, reduceIte, Nat.reduceBEq, Int.reduceBEq, Int.reduceLT, Int.reduceLE, Int.reduceToNat, decide_eq_true_eq, not_false_eq_true, not_true_eq_false, ne_eq, List.map_nil, devV_cells, devV_one, eLinks_cells, eLinks_one, ePorts, ePorts_cells, ePorts_one, eRanges_cells, eRanges_one, eRules_cells, eRules_one, nxV_cells, nxV_one, hE] <;> rfl)) : A := h e
theorem nT37_1 {E A : Prop} (e : E) (h : E → A := by (intro hE; simp only [aone, aoneT, gval, astep, aev, val, abin, abinI, abinS, aun, aeqn, aeqL, aeq1, put, upds, sset, sget, aload, astore, aobj, acut, cells_b, one_b, cells_i, one_i, cells_s, one_s, cells_nilp, one_nilp, cells_ref, one_ref, cells_ptr, one_ptr, cells_esl, one_esl, cells_sl, one_sl, cells_row, one_row, cells_fn, one_fn, cells_nilf, one_nilf, cells_nilm, one_nilm, cells_mp, one_mp, cells_mpr, one_mpr, cells_ag, anilck, afieldAddr, aindex, aindexAddr, alen, afill, afillR, aminmax, aminmax.aminmaxI, isNeq, sdl, kin, acall, ares, ares1, arows, aappend, aslice, asliceS, asliceR, aslice0, abnd, List.set_cons_succ, List.set_cons_zero, List.getD_cons_succ, List.getD_cons_zero, List.getElem?_cons_succ, List.getElem?_cons_zero, List.map_cons, List.map_nil, List.cons_append, List.nil_append, List.append_nil, List.length_cons, List.length_nil, List.take_succ_cons, List.take_zero, List.drop_succ_cons, List.drop_zero, List.all_cons, List.all_nil, List.replicate, Nat.reduceAdd, Nat.reduceSub, Nat.reduceMul, Nat.reduceLT, Nat.reduceLeDiff, Nat.reduceEqDiff, Nat.zero_add, Nat.add_zero, Nat.zero_mul, Option.map_some, Option.map_none, Option.bind_some, Option.bind_eq_bind, Option.getD_some, Option.getD_none, Option.isSome_some, Option.isSome_none, Option.toList, if_true, if_false, and_self, and_true, true_and, and_false, false_and, Prod.mk.injEq, Bool.false_eq_true, Bool.true_eq_false, beq_self_eq_true, Bool.not_true, Bool.not_false, Bool.and_self, Bool.and_true, Bool.true_and, decide_true, decide_false, beq_true, beq_false, Bool.not_not, reduceCtorEq, Nat.le_refl, Int.reduceNeg, reduceIte, Nat.reduceBEq, Int.reduceBEq, Int.reduceLT, Int.reduceLE, Int.reduceToNat, decide_eq_true_eq, not_false_eq_true, not_true_eq_false, ne_eq, devV_cells, devV_one, eLinks_cells, eLinks_one, ePorts_cells, ePorts_one, eRanges_cells, eRanges_one, eRules_cells, eRules_one, nxV_cells, nxV_one, hE] <;> rfl)) : A := h e
theorem nT37_2 {E A : Prop} (e : E) (h : E → A := by (intro hE; simp only [aone, aoneT, gval, astep, aev, val, abin, abinI, abinS, aun, aeqn, aeqL, aeq1, put, upds, sset, sget, aload, astore, aobj, acut, cells_b, one_b, cells_i, one_i, cells_s, one_s, cells_nilp, one_nilp, cells_ref, one_ref, cells_ptr, one_ptr, cells_esl, one_esl, cells_sl, one_sl, cells_row, one_row, cells_fn, one_fn, cells_nilf, one_nilf, cells_nilm, one_nilm, cells_mp, one_mp, cells_mpr, one_mpr, cells_ag, anilck, afieldAddr, aindex, aindexAddr, alen, afill, afillR, aminmax, aminmax.aminmaxI, isNeq, sdl, kin, acall, ares, ares1, arows, aappend, aslice, asliceS, asliceR, aslice0, abnd, List.set_cons_succ, List.set_cons_zero, List.getD_cons_succ, List.getD_cons_zero, List.getElem?_cons_succ, List.getElem?_cons_zero, List.map_cons, List.map_nil, List.cons_append, List.nil_append, List.append_nil, List.length_cons, List.length_nil, List.take_succ_cons, List.take_zero, List.drop_succ_cons, List.drop_zero, List.all_cons, List.all_nil, List.replicate, Nat.reduceAdd, Nat.reduceSub, Nat.reduceMul, Nat.reduceLT, Nat.reduceLeDiff, Nat.reduceEqDiff, Nat.zero_add, Nat.add_zero, Nat.zero_mul, Option.map_some, Option.map_none, Option.bind_some, Option.bind_eq_bind, Option.getD_some, Option.getD_none, Option.isSome_some, Option.isSome_none, Option.toList, if_true, if_false, and_self, and_true, true_and, and_false, false_and, Prod.mk.injEq, Bool.false_eq_true, Bool.true_eq_false, beq_self_eq_true, Bool.not_true, Bool.not_false, Bool.and_self, Bool.and_true, Bool.true_and, decide_true, decide_false, beq_true, beq_false, Bool.not_not, reduceCtorEq, Nat.le_refl, Int.reduceNeg, reduceIte, Nat.reduceBEq, Int.reduceBEq, Int.reduceLT, Int.reduceLE, Int.reduceToNat, decide_eq_true_eq, not_false_eq_true, not_true_eq_false, ne_eq, List.length_map, devV_cells, devV_one, eLinks_cells, eLinks_one, ePorts, ePorts_cells, ePorts_one, eRanges_cells, eRanges_one, eRules_cells, eRules_one, nxV_cells, nxV_one, hE] <;> rfl)) : A := h e
theorem nT37_3 {E A : Prop} (e : E) (h : E → A := by (intro hE; simp only [aone, aoneT, gval, astep, aev, val, abin, abinI, abinS, aun, aeqn, aeqL, aeq1, put, upds, sset, sget, aload, astore, aobj, acut, cells_b, one_b, cells_i, one_i, cells_s, one_s, cells_nilp, one_nilp, cells_ref, one_ref, cells_ptr, one_ptr, cells_esl, one_esl, cells_sl, one_sl, cells_row, one_row, cells_fn, one_fn, cells_nilf, one_nilf, cells_nilm, one_nilm, cells_mp, one_mp, cells_mpr, one_mpr, cells_ag, anilck, afieldAddr, aindex, aindexAddr, alen, afill, afillR, aminmax, aminmax.aminmaxI, isNeq, sdl, kin, acall, ares, ares1, arows, aappend, aslice, asliceS, asliceR, aslice0, abnd, List.set_cons_succ, List.set_cons_zero, List.getD_cons_succ, List.getD_cons_zero, List.getElem?_cons_succ, List.getElem?_cons_zero, List.map_cons, List.map_nil, List.cons_append, List.nil_append, List.append_nil, List.length_cons, List.length_nil, List.take_succ_cons, List.take_zero, List.drop_succ_cons, List.drop_zero, List.all_cons, List.all_nil, List.replicate, Nat.reduceAdd, Nat.reduceSub, Nat.reduceMul, Nat.reduceLT, Nat.reduceLeDiff, Nat.reduceEqDiff, Nat.zero_add, Nat.add_zero, Nat.zero_mul, Option.map_some, Option.map_none, Option.bind_some, Option.bind_eq_bind, Option.getD_some, Option.getD_none, Option.isSome_some, Option.isSome_none, Option.toList, if_true, if_false, and_self, and_true, true_and, and_false, false_and, Prod.mk.injEq, Bool.false_eq_true, Bool.true_eq_false, beq_self_eq_true, Bool.not_true, Bool.not_false, Bool.and_self, Bool.and_true, Bool.true_and, decide_true, decide_false, beq_true, beq_false, Bool.not_not, reduceCtorEq, Nat.le_refl, Int.reduceNeg, reduceIte, Nat.reduceBEq, Int.reduceBEq, Int.reduceLT, Int.reduceLE, Int.reduceToNat, decide_eq_true_eq, not_false_eq_true, not_true_eq_false, ne_eq, PS.cells, devV_cells, devV_one, eLinks_cells, eLinks_one, ePorts_cells, ePorts_one, eRanges_cells, eRanges_one, eRules_cells, eRules_one, nxV_cells, nxV_one, hE] <;> rfl)) : A := h e
theorem pT37_ {A : Prop} (h : A := by (simp only [List.forall_mem_cons, List.forall_mem_nil, List.not_mem_nil, false_imp_iff, implies_true, List.forall_mem_map, pure_b, pure_i, pure_s, pure_nilp, pure_nilf, pure_esl, pure_ref, pure_sl, pure_ag, pure_tu, pure_fn, and_self, and_true, true_and, eRules_pure, ePorts_pure, eLinks_pure, eRanges_pure]; done)) : A := h
/-! ### probe.Verdict -/
theorem p_CloneN (l : List Int) (hl : l.length < 1000000) : APureN Try.prog n_slices_Clone_int_int [ePorts l] (ePorts l) := by
  by_cases hne : l = []
  · subst hne
    refine apureN_of h_slices_Clone_int_int ?_; simp only [c_slices_Clone_int_int, List.length_cons, List.length_nil, List.cons_append, List.nil_append, Nat.reduceAdd, Nat.reduceSub, List.reduceReplicate]
    (have hE := noX; repeat' (first
    | refine awp_seq ?_
    | (refine awp_reg fun nv => ?_)
    | ((first | refine aops_nil ?_ | refine awp_skip ?_ | refine awp_exit ?_ | refine awp_ret ?_); try simp only [thenQ, blockQ, if_true, if_false, Nat.reduceEqDiff, eq_self, reduceCtorEq, reduceIte])
    | (apply aops_one 5; (· exact nT37_0 hE))
    | ((refine aops_eqnil rfl rfl (.inl rfl) (.inl ⟨_, rfl⟩) fun b => ?_; simp only [put, List.set_cons_succ, List.set_cons_zero]))
    | refine awp_block ?_
    | (apply awp_condt; (· exact nT37_0 hE))
    | (apply awp_condf; (· exact nT37_0 hE))
    | (apply awp_cond; (· exact nT37_0 hE); all_goals intro hc)
    | (apply aops_gsplit; (· rfl); (· exact nT37_0 hE); all_goals (intro hg; rw [hg])))); all_goals clear hE
    · (apply awp_endN [] (by first | exact .inl rfl | exact .inr rfl); (· exact nT37_1 (noX)))
      exact .esl
    · (apply awp_endN [(5, 5)] (by first | exact .inl rfl | exact .inr rfl); (· exact nT37_1 (noX)))
      exact .row _ _ _ _ _ (List.mem_cons_self ..) rfl rfl (by simp) (by simp)
  · have hb : l.length * 8 ≤ 140737488355328 := by omega
    have hne' : l.map eI ≠ [] := by simpa using hne
    have hone : ((l.map eI).all fun cs => cs.all AV.one) = true := by simp [eI, one_i]
    have hlen : ((l.map eI).all fun cs => cs.length == 1) = true := by simp [eI]
    refine apureN_of h_slices_Clone_int_int ?_; simp only [c_slices_Clone_int_int, List.length_cons, List.length_nil, List.cons_append, List.nil_append, Nat.reduceAdd, Nat.reduceSub, List.reduceReplicate]
    (have hE := And.intro @hb (And.intro @hone (And.intro @hlen noX)); repeat' (first
    | refine awp_seq ?_
    | (refine awp_reg fun nv => ?_)
    | ((first | refine aops_nil ?_ | refine awp_skip ?_ | refine awp_exit ?_ | refine awp_ret ?_); try simp only [thenQ, blockQ, if_true, if_false, Nat.reduceEqDiff, eq_self, reduceCtorEq, reduceIte])
    | (apply aops_one 5; (· exact nT37_2 hE))
    | ((refine aops_eqnilf rfl rfl (.inl rfl) rfl hne' ?_; simp only [isNeq, put, List.set_cons_succ, List.set_cons_zero]))
    | refine awp_block ?_
    | (apply awp_condt; (· exact nT37_2 hE))
    | (apply awp_condf; (· exact nT37_2 hE))
    | (apply awp_cond; (· exact nT37_2 hE); all_goals intro hc)
    | (apply aops_gsplit; (· rfl); (· exact nT37_2 hE); all_goals (intro hg; rw [hg])))); all_goals clear hE
    all_goals
      (apply awp_endN [(5, 5)] (by first | exact .inl rfl | exact .inr rfl); (· exact nT37_1 (noX)))
      exact .row _ _ _ _ _ (List.mem_cons_self ..) rfl (by simp) (by simp [eI]) (by simp [eI, flat_i])
def verV (h : Bool) (f a : Int) (d : List Int) (fate o1 o2 : Int) : AV := .ag [.b h, .i .i64 f, .i .u32 a, ePorts d, .i .i64 fate, .i .i64 o1, .i .i64 o2]
def PS.ver (s : PS) : AV := verV s.holds s.vfrom s.vaddr s.vt.devs s.vt.fate s.vt.out.1 s.vt.out.2
def ver0 : AV := .ag [.b false, .i .i64 0, .i .u32 0, .esl, .i .i64 0, .i .i64 0, .i .i64 0]
theorem p_DoneNil : APure Try.prog n_probe_Probe_Done [.nilp] (.b false) := by
  refine apure_of h_probe_Probe_Done ?_; simp only [c_probe_Probe_Done, List.length_cons, List.length_nil, List.cons_append, List.nil_append, Nat.reduceAdd, Nat.reduceSub, List.reduceReplicate]
  (have hE := noX; repeat' (first
    | refine awp_seq ?_
    | (refine awp_reg fun nv => ?_)
    | ((first | refine aops_nil ?_ | refine awp_skip ?_ | refine awp_exit ?_ | refine awp_ret ?_); try simp only [thenQ, blockQ, if_true, if_false, Nat.reduceEqDiff, eq_self, reduceCtorEq, reduceIte])
    | (apply aops_one 0; (· exact nT37_1 hE))
    | refine awp_block ?_
    | (apply awp_condt; (· exact nT37_1 hE))
    | (apply awp_condf; (· exact nT37_1 hE))
    | (apply awp_cond; (· exact nT37_1 hE); all_goals intro hc)
    | (apply aops_gsplit; (· rfl); (· exact nT37_1 hE); all_goals (intro hg; rw [hg])))); all_goals clear hE
  all_goals
    (apply awp_end [] (by first | exact .inl rfl | exact .inr rfl); (· exact nT37_1 (noX)))
    exact fz_res rfl (.b _)
theorem p_VerdictNil : APure Try.prog n_probe_Probe_Verdict [.nilp] (.tu [ver0, .b false]) := by
  refine apure_of h_probe_Probe_Verdict ?_; simp only [c_probe_Probe_Verdict, List.length_cons, List.length_nil, List.cons_append, List.nil_append, Nat.reduceAdd, Nat.reduceSub, List.reduceReplicate]
  (have hE := noX; repeat' (first
    | refine awp_seq ?_
    | (refine awp_reg fun nv => ?_)
    | ((first | refine aops_nil ?_ | refine awp_skip ?_ | refine awp_exit ?_ | refine awp_ret ?_); try simp only [thenQ, blockQ, if_true, if_false, Nat.reduceEqDiff, eq_self, reduceCtorEq, reduceIte])
    | (apply aops_one 0; (· exact nT37_1 hE))
    | (apply aops_call (hlf := h_probe_Probe_Done); (· rfl); (· exact nT37_1 hE); (· exact pT37_); (· exact p_DoneNil); (· exact nput))
    | refine awp_block ?_
    | (apply awp_condt; (· exact nT37_1 hE))
    | (apply awp_condf; (· exact nT37_1 hE))
    | (apply awp_cond; (· exact nT37_1 hE); all_goals intro hc)
    | (apply aops_gsplit; (· rfl); (· exact nT37_1 hE); all_goals (intro hg; rw [hg])))); all_goals clear hE
  all_goals
    (apply awp_end [] (by first | exact .inl rfl | exact .inr rfl); (· exact nT37_1 (noX)))
    exact fz_res rfl (.tu _ (by simp [pure_i, pure_ag, pure_b, ver0, pure_esl]))
theorem c_Done' (s : PS) (vp vt vu : Nat) :
    ACall Try.prog n_probe_Probe_Done [.ptr (9, 25) vp 0 0] [((9, 25), ⟨vp, .rows 34 [s.cells vp vt vu vt]⟩)]
      fun r τ => ∃ _ : Unit, r = .b s.done ∧ StLe τ [((9, 25), ⟨vp, .rows 34 [s.cells vp vt vu vt]⟩)] := by
  refine acall_of h_probe_Probe_Done ?_; simp only [c_probe_Probe_Done, List.length_cons, List.length_nil, List.cons_append, List.nil_append, Nat.reduceAdd, Nat.reduceSub, List.reduceReplicate]
  (have hE := noX; repeat' (first
    | refine awp_seq ?_
    | (refine awp_reg fun nv => ?_)
    | ((first | refine aops_nil ?_ | refine awp_skip ?_ | refine awp_exit ?_ | refine awp_ret ?_); try simp only [thenQ, blockQ, if_true, if_false, Nat.reduceEqDiff, eq_self, reduceCtorEq, reduceIte])
    | (apply aops_one 0; (· exact nT37_3 hE))
    | refine awp_block ?_
    | (apply awp_condt; (· exact nT37_3 hE))
    | (apply awp_condf; (· exact nT37_3 hE))
    | (apply awp_cond; (· exact nT37_3 hE); all_goals intro hc)
    | (apply aops_gsplit; (· rfl); (· exact nT37_3 hE); all_goals (intro hg; rw [hg])))); all_goals clear hE
  all_goals
    (apply acall_end (by first | exact .inl rfl | exact .inr rfl); (· exact nT37_1 (noX)))
    exact ⟨(), rfl, StLe.refl _⟩
theorem c_Done (s : PS) (vp vt vu : Nat) :
    ACall Try.prog n_probe_Probe_Done [.ptr (9, 25) vp 0 0] [((9, 25), ⟨vp, .rows 34 [s.cells vp vt vu vt]⟩)]
      fun r τ => ∃ _ : Unit, r = .b s.done ∧ τ = [((9, 25), ⟨vp, .rows 34 [s.cells vp vt vu vt]⟩)] :=
  (c_Done' s vp vt vu).weak fun r σ' ⟨w, h1, h2⟩ => ⟨_, h2, w, h1, rfl⟩
theorem c_VerdictOff (s : PS) (hd : s.done = false) (vp vt vu : Nat) :
    ACall Try.prog n_probe_Probe_Verdict [.ptr (9, 25) vp 0 0] [((9, 25), ⟨vp, .rows 34 [s.cells vp vt vu vt]⟩)]
      fun r τ => ∃ _ : Unit, r = .tu [ver0, .b false] ∧ StLe τ [((9, 25), ⟨vp, .rows 34 [s.cells vp vt vu vt]⟩)] := by
  have hdn := c_Done s vp vt vu
  rw [hd] at hdn
  refine acall_of h_probe_Probe_Verdict ?_; simp only [c_probe_Probe_Verdict, List.length_cons, List.length_nil, List.cons_append, List.nil_append, Nat.reduceAdd, Nat.reduceSub, List.reduceReplicate]
  (have hE := noX; repeat' (first
    | refine awp_seq ?_
    | (refine awp_reg fun nv => ?_)
    | ((first | refine aops_nil ?_ | refine awp_skip ?_ | refine awp_exit ?_ | refine awp_ret ?_); try simp only [thenQ, blockQ, if_true, if_false, Nat.reduceEqDiff, eq_self, reduceCtorEq, reduceIte])
    | (apply aops_one 0; (· exact nT37_1 hE))
    | (apply aops_callw (hlf := h_probe_Probe_Done); (· rfl); (· exact nT37_1 hE); (· exact hdn); (· (repeat' (first | exact StLe.refl _ | exact StLe.nil _ | (refine stle_cons (by first | rfl | exact nT37_1 hE) ?_)))); (· (intro _; exact nT37_1 hE)); (intro _; simp only [put, List.set_cons_succ, List.set_cons_zero]))
    | refine awp_block ?_
    | (apply awp_condt; (· exact nT37_1 hE))
    | (apply awp_condf; (· exact nT37_1 hE))
    | (apply awp_cond; (· exact nT37_1 hE); all_goals intro hc)
    | (apply aops_gsplit; (· rfl); (· exact nT37_1 hE); all_goals (intro hg; rw [hg])))); all_goals clear hE
  all_goals
    (apply acall_end (by first | exact .inl rfl | exact .inr rfl); (· exact nT37_1 (noX)))
    exact ⟨(), rfl, stle_cons rfl (StLe.nil _)⟩
theorem c_Verdict (s : PS) (hd : s.done = true) (hv : s.vt.devs.length < 1000000) (vp vt vu : Nat) :
    ACall Try.prog n_probe_Probe_Verdict [.ptr (9, 25) vp 0 0] (((9, 25), ⟨vp, .rows 34 [s.cells vp vt vu vt]⟩) :: devS (7, 31) vt s.vt.devs)
      fun r τ => ∃ _ : Unit, r = .tu [s.ver, .b true] ∧ StLe τ (((9, 25), ⟨vp, .rows 34 [s.cells vp vt vu vt]⟩) :: devS (7, 31) vt s.vt.devs) := by
  have hdn := c_Done s vp vt vu
  rw [hd] at hdn
  have hcl := p_CloneN s.vt.devs hv
  refine acall_of h_probe_Probe_Verdict ?_; simp only [c_probe_Probe_Verdict, List.length_cons, List.length_nil, List.cons_append, List.nil_append, Nat.reduceAdd, Nat.reduceSub, List.reduceReplicate]
  by_cases hne : s.vt.devs = []
  · rw [hne] at hcl
    have hV : devV (7, 31) vt s.vt.devs = .esl := by rw [hne]; rfl
    have hS : devS (7, 31) vt s.vt.devs = [] := by rw [hne]; rfl
    rw [hS]
    (have hE := And.intro @hV noX; repeat' (first
    | refine awp_seq ?_
    | (refine awp_reg fun nv => ?_)
    | ((first | refine aops_nil ?_ | refine awp_skip ?_ | refine awp_exit ?_ | refine awp_ret ?_); try simp only [thenQ, blockQ, if_true, if_false, Nat.reduceEqDiff, eq_self, reduceCtorEq, reduceIte])
    | (apply aops_one 0; (· exact nT37_3 hE))
    | (apply aops_callw (hlf := h_probe_Probe_Done); (· rfl); (· exact nT37_3 hE); (· exact hdn); (· (repeat' (first | exact StLe.refl _ | exact StLe.nil _ | (refine stle_cons (by first | rfl | exact nT37_3 hE) ?_)))); (· (intro _; exact nT37_3 hE)); (intro _; simp only [put, List.set_cons_succ, List.set_cons_zero]))
    | (apply aops_calln [] (hlf := h_slices_Clone_int_int); (· rfl); (· exact nT37_3 hE); (· exact (fzl_cons .esl fzl_nil)); (· exact hcl); (· exact nput))
    | refine awp_block ?_
    | (apply awp_condt; (· exact nT37_3 hE))
    | (apply awp_condf; (· exact nT37_3 hE))
    | (apply awp_cond; (· exact nT37_3 hE); all_goals intro hc)
    | (apply aops_gsplit; (· rfl); (· exact nT37_3 hE); all_goals (intro hg; rw [hg])))); all_goals clear hE
    all_goals
      (apply acall_end (by first | exact .inl rfl | exact .inr rfl); (· exact nT37_1 (noX)))
      refine ⟨(), by unfold PS.ver verV; rw [hne]; rfl, ?_⟩
      simp only [PS.cells, hV]
      exact stle_head
  · have hV := devV_ne (7, 31) vt hne
    have hS := devS_ne (7, 31) vt hne
    rw [hS]
    (have hE := And.intro @hV noX; repeat' (first
    | refine awp_seq ?_
    | (refine awp_reg fun nv => ?_)
    | ((first | refine aops_nil ?_ | refine awp_skip ?_ | refine awp_exit ?_ | refine awp_ret ?_); try simp only [thenQ, blockQ, if_true, if_false, Nat.reduceEqDiff, eq_self, reduceCtorEq, reduceIte])
    | (apply aops_one 0; (· exact nT37_3 hE))
    | (apply aops_callw (hlf := h_probe_Probe_Done); (· rfl); (· exact nT37_3 hE); (· exact hdn); (· (repeat' (first | exact StLe.refl _ | exact StLe.nil _ | (refine stle_cons (by first | rfl | exact nT37_3 hE) ?_)))); (· (intro _; exact nT37_3 hE)); (intro _; simp only [put, List.set_cons_succ, List.set_cons_zero]))
    | (apply aops_calln [(7, 31)] (hlf := h_slices_Clone_int_int); (· rfl); (· exact nT37_3 hE); (· exact (fzl_cons (fz_row (by simp) rfl (by simp) (by simp [eI]) (by simp [eI, pure_i])) fzl_nil)); (· exact hcl); (· exact nput))
    | refine awp_block ?_
    | (apply awp_condt; (· exact nT37_3 hE))
    | (apply awp_condf; (· exact nT37_3 hE))
    | (apply awp_cond; (· exact nT37_3 hE); all_goals intro hc)
    | (apply aops_gsplit; (· rfl); (· exact nT37_3 hE); all_goals (intro hg; rw [hg])))); all_goals clear hE
    all_goals
      (apply acall_end (by first | exact .inl rfl | exact .inr rfl); (· exact nT37_1 (noX)))
      refine ⟨(), rfl, ?_⟩
      simp only [PS.cells, hV]
      exact stle_cons rfl (stle_cons rfl (StLe.nil _))
end Go.Proofs.Ytibkakodokbobaa
