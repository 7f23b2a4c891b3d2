import Derived.Test.YtibkakodokbobaaT33
namespace Go.Proofs.Ytibkakodokbobaa
open Go.Am
set_option maxRecDepth 100000
set_option linter.unusedSimpArgs false
set_option linter.unusedVariables false
theorem nT34_0 {E A : Prop} (e : E) (h : E → A := by (intro hE; simp only [aone, aoneT, gval, astep, aev, val, abin, abinI, abinS, aun, aeqn, aeqL, aeq1, put, upds, sset, sget, aload, astore, aobj, acut, cells_b, one_b, cells_i, one_i, cells_s, one_s, cells_nilp, one_nilp, cells_ref, one_ref, cells_ptr, one_ptr, cells_esl, one_esl, cells_sl, one_sl, cells_row, one_row, cells_fn, one_fn, cells_nilf, one_nilf, cells_nilm, one_nilm, cells_mp, one_mp, cells_mpr, one_mpr, cells_ag, anilck, afieldAddr, aindex, aindexAddr, alen, afill, afillR, aminmax, aminmax.aminmaxI, isNeq, sdl, kin, acall, ares, ares1, arows, aappend, aslice, asliceS, asliceR, aslice0, abnd, List.set_cons_succ, List.set_cons_zero, List.getD_cons_succ, List.getD_cons_zero, List.getElem?_cons_succ, List.getElem?_cons_zero, List.map_cons, List.map_nil, List.cons_append, List.nil_append, List.append_nil, List.length_cons, List.length_nil, List.take_succ_cons, List.take_zero, List.drop_succ_cons, List.drop_zero, List.all_cons, List.all_nil, List.replicate, Nat.reduceAdd, Nat.reduceSub, Nat.reduceMul, Nat.reduceLT, Nat.reduceLeDiff, Nat.reduceEqDiff, Nat.zero_add, Nat.add_zero, Nat.zero_mul, Option.map_some, Option.map_none, Option.bind_some, Option.bind_eq_bind, Option.getD_some, Option.getD_none, Option.isSome_some, Option.isSome_none, Option.toList, if_true, if_false, and_self, and_true, true_and, and_false, false_and, Prod.mk.injEq, Bool.false_eq_true, Bool.true_eq_false, beq_self_eq_true, Bool.not_true, Bool.not_false, Bool.and_self, Bool.and_true, Bool.true_and, decide_true, decide_false, beq_true, beq_false, Bool.not_not, reduceCtorEq, Nat.le_refl, Int.reduceNeg, reduceIte, Nat.reduceBEq, Int.reduceBEq, Int.reduceLT, Int.reduceLE, Int.reduceToNat, decide_eq_true_eq, not_false_eq_true, not_true_eq_false, ne_eq, List.map_nil, PS.cells, PS.st, devS_nil, devV_cells, devV_nil, devV_one, devV_snoc, eLinks_cells, eLinks_one, ePorts_cells, ePorts_one, eRanges_cells, eRanges_one, eRules_cells, eRules_one, nxV_cells, nxV_one, tr0, hE] <;> rfl)) : A := h e
theorem nT34_1 {E A : Prop} (e : E) (h : E → A := by (intro hE; simp only [aone, aoneT, gval, astep, aev, val, abin, abinI, abinS, aun, aeqn, aeqL, aeq1, put, upds, sset, sget, aload, astore, aobj, acut, cells_b, one_b, cells_i, one_i, cells_s, one_s, cells_nilp, one_nilp, cells_ref, one_ref, cells_ptr, one_ptr, cells_esl, one_esl, cells_sl, one_sl, cells_row, one_row, cells_fn, one_fn, cells_nilf, one_nilf, cells_nilm, one_nilm, cells_mp, one_mp, cells_mpr, one_mpr, cells_ag, anilck, afieldAddr, aindex, aindexAddr, alen, afill, afillR, aminmax, aminmax.aminmaxI, isNeq, sdl, kin, acall, ares, ares1, arows, aappend, aslice, asliceS, asliceR, aslice0, abnd, List.set_cons_succ, List.set_cons_zero, List.getD_cons_succ, List.getD_cons_zero, List.getElem?_cons_succ, List.getElem?_cons_zero, List.map_cons, List.map_nil, List.cons_append, List.nil_append, List.append_nil, List.length_cons, List.length_nil, List.take_succ_cons, List.take_zero, List.drop_succ_cons, List.drop_zero, List.all_cons, List.all_nil, List.replicate, Nat.reduceAdd, Nat.reduceSub, Nat.reduceMul, Nat.reduceLT, Nat.reduceLeDiff, Nat.reduceEqDiff, Nat.zero_add, Nat.add_zero, Nat.zero_mul, Option.map_some, Option.map_none, Option.bind_some, Option.bind_eq_bind, Option.getD_some, Option.getD_none, Option.isSome_some, Option.isSome_none, Option.toList, if_true, if_false, and_self, and_true, true_and, and_false, false_and, Prod.mk.injEq, Bool.false_eq_true, Bool.true_eq_false, beq_self_eq_true, Bool.not_true, Bool.not_false, Bool.and_self, Bool.and_true, Bool.true_and, decide_true, decide_false, beq_true, beq_false, Bool.not_not, reduceCtorEq, Nat.le_refl, Int.reduceNeg, reduceIte, Nat.reduceBEq, Int.reduceBEq, Int.reduceLT, Int.reduceLE, Int.reduceToNat, decide_eq_true_eq, not_false_eq_true, not_true_eq_false, ne_eq, devV_cells, devV_one, eLinks_cells, eLinks_one, ePorts_cells, ePorts_one, eRanges_cells, eRanges_one, eRules_cells, eRules_one, nxV_cells, nxV_one, hE] <;> rfl)) : A := h e
theorem nT34_2 {E A : Prop} (e : E) (h : E → A := by (intro hE; simp only [aone, aoneT, gval, astep, aev, val, abin, abinI, abinS, aun, aeqn, aeqL, aeq1, put, upds, sset, sget, aload, astore, aobj, acut, cells_b, one_b, cells_i, one_i, cells_s, one_s, cells_nilp, one_nilp, cells_ref, one_ref, cells_ptr, one_ptr, cells_esl, one_esl, cells_sl, one_sl, cells_row, one_row, cells_fn, one_fn, cells_nilf, one_nilf, cells_nilm, one_nilm, cells_mp, one_mp, cells_mpr, one_mpr, cells_ag, anilck, afieldAddr, aindex, aindexAddr, alen, afill, afillR, aminmax, aminmax.aminmaxI, isNeq, sdl, kin, acall, ares, ares1, arows, aappend, aslice, asliceS, asliceR, aslice0, abnd, List.set_cons_succ, List.set_cons_zero, List.getD_cons_succ, List.getD_cons_zero, List.getElem?_cons_succ, List.getElem?_cons_zero, List.map_cons, List.map_nil, List.cons_append, List.nil_append, List.append_nil, List.length_cons, List.length_nil, List.take_succ_cons, List.take_zero, List.drop_succ_cons, List.drop_zero, List.all_cons, List.all_nil, List.replicate, Nat.reduceAdd, Nat.reduceSub, Nat.reduceMul, Nat.reduceLT, Nat.reduceLeDiff, Nat.reduceEqDiff, Nat.zero_add, Nat.add_zero, Nat.zero_mul, Option.map_some, Option.map_none, Option.bind_some, Option.bind_eq_bind, Option.getD_some, Option.getD_none, Option.isSome_some, Option.isSome_none, Option.toList, if_true, if_false, and_self, and_true, true_and, and_false, false_and, Prod.mk.injEq, Bool.false_eq_true, Bool.true_eq_false, beq_self_eq_true, Bool.not_true, Bool.not_false, Bool.and_self, Bool.and_true, Bool.true_and, decide_true, decide_false, beq_true, beq_false, Bool.not_not, reduceCtorEq, Nat.le_refl, Int.reduceNeg, reduceIte, Nat.reduceBEq, Int.reduceBEq, Int.reduceLT, Int.reduceLE, Int.reduceToNat, decide_eq_true_eq, not_false_eq_true, not_true_eq_false, ne_eq, PS.cells, PS.st, devS_nil, devV_cells, devV_nil, devV_one, devV_snoc, eLinks_cells, eLinks_one, ePorts_cells, ePorts_one, eRanges_cells, eRanges_one, eRules_cells, eRules_one, nxV_cells, nxV_one, tr0, hE] <;> rfl)) : A := h e
theorem pT34_ {A : Prop} (h : A := by (simp only [List.forall_mem_cons, List.forall_mem_nil, List.not_mem_nil, false_imp_iff, implies_true, List.forall_mem_map, pure_b, pure_i, pure_s, pure_nilp, pure_nilf, pure_esl, pure_ref, pure_sl, pure_ag, pure_tu, pure_fn, and_self, and_true, true_and, eRules_pure, ePorts_pure, eLinks_pure, eRanges_pure]; done)) : A := h
/-! ### probe.second -/
set_option maxHeartbeats 16000000 in
theorem c_second' (s : PS) (hg : Good s) (hu1 : s.u.devs.length + 1 < 1000000) (vp vt vu : Nat) :
    ACall Try.prog n_probe_Probe_second [.ptr (9, 25) vp 0 0] (s.st vp vt vu)
      fun r τ => ∃ w : Nat × Nat, r = .tu [] ∧ StLe τ ((secondF s).st vp w.1 w.2) := by
  obtain ⟨h1, h2, h3, h4, h5, h6, h7, h8, h9⟩ := hg
  obtain ⟨n, o, q, sources, all, parts, at_, ⟨td, tf, tout⟩, ⟨ud, uf, uout⟩, next, done, holds, vf, va, vtr⟩ := s
  simp only at h1 h2 h3 h4 h5 h6 h7 h8 h9 hu1
  subst h8; subst h9
  obtain ⟨y, ys, rfl⟩ : ∃ y ys, sources = y :: ys := by cases sources with | nil => exact absurd rfl h6 | cons a b => exact ⟨a, b, rfl⟩
  obtain ⟨x, xs, rfl⟩ : ∃ x xs, parts = x :: xs := by cases parts with | nil => exact absurd rfl h7 | cons a b => exact ⟨a, b, rfl⟩
  have hvis := c_visitU o h2 ⟨n, o, q, y :: ys, all, x :: xs, at_, ⟨td, tf, tout⟩, ⟨ud, uf, uout⟩, next, false, holds, vf, va, tr0⟩ h5 vp vt vu vt x xs rfl
  have hgd : Good (visitU o ⟨n, o, q, y :: ys, all, x :: xs, at_, ⟨td, tf, tout⟩, ⟨ud, uf, uout⟩, next, false, holds, vf, va, tr0⟩ x.1) :=
    ⟨h1, h2, h3, h4, by simp only [visitU, visitS_devs, List.length_append, List.length_cons, List.length_nil]; omega, h6, h7, rfl, rfl⟩
  have hend := fun v => c_ended _ hgd vp vt v vt
  have hff : secondF ⟨n, o, q, y :: ys, all, x :: xs, at_, ⟨td, tf, tout⟩, ⟨ud, uf, uout⟩, next, false, holds, vf, va, tr0⟩ = if (visitS o at_ x.1 ⟨ud, uf, uout⟩).1 = true then visitU o ⟨n, o, q, y :: ys, all, x :: xs, at_, ⟨td, tf, tout⟩, ⟨ud, uf, uout⟩, next, false, holds, vf, va, tr0⟩ x.1
      else endedS (visitU o ⟨n, o, q, y :: ys, all, x :: xs, at_, ⟨td, tf, tout⟩, ⟨ud, uf, uout⟩, next, false, holds, vf, va, tr0⟩ x.1) := rfl
  rw [hff]
  have hdevs : (visitS o at_ x.1 ⟨ud, uf, uout⟩).2.2.devs = ud ++ [at_] := visitS_devs _ _ _ _
  simp only [visitU] at hvis hend ⊢
  generalize hV : visitS o at_ x.1 ⟨ud, uf, uout⟩ = V at *
  obtain ⟨vb, va', ⟨vd, vfa, vo⟩⟩ := V
  simp only at hdevs hvis hend ⊢
  subst hdevs
  simp only [devS_snoc] at hvis
  simp only [devS_snoc, PS.cells, devV_snoc, tr0, devV_nil, devS_nil, List.append_nil] at hend
  refine acall_of h_probe_Probe_second ?_; simp only [c_probe_Probe_second, List.length_cons, List.length_nil, List.cons_append, List.nil_append, Nat.reduceAdd, Nat.reduceSub, List.reduceReplicate]
  cases vb with
  | true =>
    by_cases htd : td = []
    · subst htd
      simp only [devS_nil, devV_nil, List.nil_append] at hvis hend
      by_cases hud : ud = []
      · subst hud
        (have hE := noX; repeat' (first
    | refine awp_seq ?_
    | (refine awp_reg fun nv => ?_)
    | (refine awp_regds mix fun nv => ?_)
    | ((first | refine aops_nil ?_ | refine ads_nil (by rfl) ?_ | refine awp_skip ?_ | refine awp_exit ?_ | refine awp_ret ?_); try simp only [thenQ, blockQ, if_true, if_false, Nat.reduceEqDiff, eq_self, reduceCtorEq, reduceIte])
    | ((first | apply aops_one 0 | apply ads_one 0); (· exact nT34_0 hE))
    | ((first | apply aops_callw (hlf := h_probe_Probe_visit) | apply ads_callw (hlf := h_probe_Probe_visit)); (· rfl); (· exact nT34_0 hE); (· exact hvis); (· (repeat' (first | exact StLe.refl _ | exact StLe.nil _ | (refine stle_cons (by first | rfl | exact nT34_0 hE) ?_)))); (· (intro _; exact nT34_0 hE)); (iterate 2 (try (· rfl))); (intro v; simp only [put, List.set_cons_succ, List.set_cons_zero]))
    | refine awp_block ?_
    | (apply awp_condt; (· exact nT34_0 hE))
    | (apply awp_condf; (· exact nT34_0 hE))
    | (apply awp_cond; (· exact nT34_0 hE); all_goals intro hc)
    | ((first | apply aops_gsplit | apply ads_gsplit); (· rfl); (· exact nT34_0 hE); all_goals (intro hg; rw [hg])))); all_goals clear hE
        all_goals
          (apply acall_end (by first | exact .inl rfl | exact .inr rfl); (· exact nT34_1 (noX)))
          refine ⟨(vt, v), rfl, ?_⟩
          simp only [PS.st, devS_snoc, PS.cells, devV_snoc, devS_nil, devV_nil, List.nil_append, List.cons_append, if_true]
          exact stle_cons rfl (stle_cons rfl (StLe.nil _))
      · have huV := devV_ne (8, 31) vu hud
        have huS := devS_ne (8, 31) vu hud
        rw [huS] at hvis
        (have hE := And.intro @huV (And.intro @huS noX); repeat' (first
    | refine awp_seq ?_
    | (refine awp_reg fun nv => ?_)
    | (refine awp_regds mix fun nv => ?_)
    | ((first | refine aops_nil ?_ | refine ads_nil (by rfl) ?_ | refine awp_skip ?_ | refine awp_exit ?_ | refine awp_ret ?_); try simp only [thenQ, blockQ, if_true, if_false, Nat.reduceEqDiff, eq_self, reduceCtorEq, reduceIte])
    | ((first | apply aops_one 0 | apply ads_one 0); (· exact nT34_0 hE))
    | ((first | apply aops_callw (hlf := h_probe_Probe_visit) | apply ads_callw (hlf := h_probe_Probe_visit)); (· rfl); (· exact nT34_0 hE); (· exact hvis); (· (repeat' (first | exact StLe.refl _ | exact StLe.nil _ | (refine stle_cons (by first | rfl | exact nT34_0 hE) ?_)))); (· (intro _; exact nT34_0 hE)); (iterate 2 (try (· rfl))); (intro v; simp only [put, List.set_cons_succ, List.set_cons_zero]))
    | refine awp_block ?_
    | (apply awp_condt; (· exact nT34_0 hE))
    | (apply awp_condf; (· exact nT34_0 hE))
    | (apply awp_cond; (· exact nT34_0 hE); all_goals intro hc)
    | ((first | apply aops_gsplit | apply ads_gsplit); (· rfl); (· exact nT34_0 hE); all_goals (intro hg; rw [hg])))); all_goals clear hE
        all_goals
          (apply acall_end (by first | exact .inl rfl | exact .inr rfl); (· exact nT34_1 (noX)))
          refine ⟨(vt, v), rfl, ?_⟩
          simp only [PS.st, devS_snoc, PS.cells, devV_snoc, devS_nil, devV_nil, List.nil_append, List.cons_append, if_true]
          exact stle_cons rfl (stle_cons rfl (StLe.nil _))
    · have hdV := devV_ne (7, 31) vt htd
      have hdS := devS_ne (7, 31) vt htd
      simp only [hdS, hdV, List.cons_append, List.nil_append] at hvis hend
      by_cases hud : ud = []
      · subst hud
        (have hE := And.intro @hdV (And.intro @hdS noX); repeat' (first
    | refine awp_seq ?_
    | (refine awp_reg fun nv => ?_)
    | (refine awp_regds mix fun nv => ?_)
    | ((first | refine aops_nil ?_ | refine ads_nil (by rfl) ?_ | refine awp_skip ?_ | refine awp_exit ?_ | refine awp_ret ?_); try simp only [thenQ, blockQ, if_true, if_false, Nat.reduceEqDiff, eq_self, reduceCtorEq, reduceIte])
    | ((first | apply aops_one 0 | apply ads_one 0); (· exact nT34_0 hE))
    | ((first | apply aops_callw (hlf := h_probe_Probe_visit) | apply ads_callw (hlf := h_probe_Probe_visit)); (· rfl); (· exact nT34_0 hE); (· exact hvis); (· (repeat' (first | exact StLe.refl _ | exact StLe.nil _ | (refine stle_cons (by first | rfl | exact nT34_0 hE) ?_)))); (· (intro _; exact nT34_0 hE)); (iterate 2 (try (· rfl))); (intro v; simp only [put, List.set_cons_succ, List.set_cons_zero]))
    | refine awp_block ?_
    | (apply awp_condt; (· exact nT34_0 hE))
    | (apply awp_condf; (· exact nT34_0 hE))
    | (apply awp_cond; (· exact nT34_0 hE); all_goals intro hc)
    | ((first | apply aops_gsplit | apply ads_gsplit); (· rfl); (· exact nT34_0 hE); all_goals (intro hg; rw [hg])))); all_goals clear hE
        all_goals
          (apply acall_end (by first | exact .inl rfl | exact .inr rfl); (· exact nT34_1 (noX)))
          refine ⟨(vt, v), rfl, ?_⟩
          simp only [PS.st, devS_snoc, PS.cells, devV_snoc, devS_nil, devV_nil, List.nil_append, List.cons_append, if_true, hdS, hdV]
          exact stle_cons rfl (stle_cons rfl (stle_cons rfl (StLe.nil _)))
      · have huV := devV_ne (8, 31) vu hud
        have huS := devS_ne (8, 31) vu hud
        rw [huS] at hvis
        (have hE := And.intro @hdV (And.intro @hdS (And.intro @huV (And.intro @huS noX))); repeat' (first
    | refine awp_seq ?_
    | (refine awp_reg fun nv => ?_)
    | (refine awp_regds mix fun nv => ?_)
    | ((first | refine aops_nil ?_ | refine ads_nil (by rfl) ?_ | refine awp_skip ?_ | refine awp_exit ?_ | refine awp_ret ?_); try simp only [thenQ, blockQ, if_true, if_false, Nat.reduceEqDiff, eq_self, reduceCtorEq, reduceIte])
    | ((first | apply aops_one 0 | apply ads_one 0); (· exact nT34_2 hE))
    | ((first | apply aops_callw (hlf := h_probe_Probe_visit) | apply ads_callw (hlf := h_probe_Probe_visit)); (· rfl); (· exact nT34_2 hE); (· exact hvis); (· (repeat' (first | exact StLe.refl _ | exact StLe.nil _ | (refine stle_cons (by first | rfl | exact nT34_2 hE) ?_)))); (· (intro _; exact nT34_2 hE)); (iterate 2 (try (· rfl))); (intro v; simp only [put, List.set_cons_succ, List.set_cons_zero]))
    | refine awp_block ?_
    | (apply awp_condt; (· exact nT34_2 hE))
    | (apply awp_condf; (· exact nT34_2 hE))
    | (apply awp_cond; (· exact nT34_2 hE); all_goals intro hc)
    | ((first | apply aops_gsplit | apply ads_gsplit); (· rfl); (· exact nT34_2 hE); all_goals (intro hg; rw [hg])))); all_goals clear hE
        all_goals
          (apply acall_end (by first | exact .inl rfl | exact .inr rfl); (· exact nT34_1 (noX)))
          refine ⟨(vt, v), rfl, ?_⟩
          simp only [PS.st, devS_snoc, PS.cells, devV_snoc, devS_nil, devV_nil, List.nil_append, List.cons_append, if_true, hdS, hdV]
          exact stle_cons rfl (stle_cons rfl (stle_cons rfl (StLe.nil _)))
  | false =>
    simp only [Bool.false_eq_true, if_false]
    by_cases htd : td = []
    · subst htd
      simp only [devS_nil, devV_nil, List.nil_append] at hvis hend
      by_cases hud : ud = []
      · subst hud
        (have hE := noX; repeat' (first
    | refine awp_seq ?_
    | (refine awp_reg fun nv => ?_)
    | (refine awp_regds mix fun nv => ?_)
    | ((first | refine aops_nil ?_ | refine ads_nil (by rfl) ?_ | refine awp_skip ?_ | refine awp_exit ?_ | refine awp_ret ?_); try simp only [thenQ, blockQ, if_true, if_false, Nat.reduceEqDiff, eq_self, reduceCtorEq, reduceIte])
    | ((first | apply aops_one 0 | apply ads_one 0); (· exact nT34_0 hE))
    | ((first | apply aops_callw (hlf := h_probe_Probe_visit) | apply ads_callw (hlf := h_probe_Probe_visit)); (· rfl); (· exact nT34_0 hE); (· exact hvis); (· (repeat' (first | exact StLe.refl _ | exact StLe.nil _ | (refine stle_cons (by first | rfl | exact nT34_0 hE) ?_)))); (· (intro _; exact nT34_0 hE)); (iterate 2 (try (· rfl))); (intro v; simp only [put, List.set_cons_succ, List.set_cons_zero]))
    | ((first | apply aops_callw (hlf := h_probe_Probe_ended) | apply ads_callw (hlf := h_probe_Probe_ended)); (· rfl); (· exact nT34_0 hE); (· exact (hend v)); (· (repeat' (first | exact StLe.refl _ | exact StLe.nil _ | (refine stle_cons (by first | rfl | exact nT34_0 hE) ?_)))); (· (intro _; exact nT34_0 hE)); (iterate 2 (try (· rfl))); (intro w; simp only [put, List.set_cons_succ, List.set_cons_zero]))
    | refine awp_block ?_
    | (apply awp_condt; (· exact nT34_0 hE))
    | (apply awp_condf; (· exact nT34_0 hE))
    | (apply awp_cond; (· exact nT34_0 hE); all_goals intro hc)
    | ((first | apply aops_gsplit | apply ads_gsplit); (· rfl); (· exact nT34_0 hE); all_goals (intro hg; rw [hg])))); all_goals clear hE
        all_goals
          (apply acall_end (by first | exact .inl rfl | exact .inr rfl); (· exact nT34_1 (noX)))
          exact ⟨w, rfl, by first | exact StLe.refl _ | exact stle_app _ _⟩
      · have huV := devV_ne (8, 31) vu hud
        have huS := devS_ne (8, 31) vu hud
        rw [huS] at hvis
        (have hE := And.intro @huV (And.intro @huS noX); repeat' (first
    | refine awp_seq ?_
    | (refine awp_reg fun nv => ?_)
    | (refine awp_regds mix fun nv => ?_)
    | ((first | refine aops_nil ?_ | refine ads_nil (by rfl) ?_ | refine awp_skip ?_ | refine awp_exit ?_ | refine awp_ret ?_); try simp only [thenQ, blockQ, if_true, if_false, Nat.reduceEqDiff, eq_self, reduceCtorEq, reduceIte])
    | ((first | apply aops_one 0 | apply ads_one 0); (· exact nT34_0 hE))
    | ((first | apply aops_callw (hlf := h_probe_Probe_visit) | apply ads_callw (hlf := h_probe_Probe_visit)); (· rfl); (· exact nT34_0 hE); (· exact hvis); (· (repeat' (first | exact StLe.refl _ | exact StLe.nil _ | (refine stle_cons (by first | rfl | exact nT34_0 hE) ?_)))); (· (intro _; exact nT34_0 hE)); (iterate 2 (try (· rfl))); (intro v; simp only [put, List.set_cons_succ, List.set_cons_zero]))
    | ((first | apply aops_callw (hlf := h_probe_Probe_ended) | apply ads_callw (hlf := h_probe_Probe_ended)); (· rfl); (· exact nT34_0 hE); (· exact (hend v)); (· (repeat' (first | exact StLe.refl _ | exact StLe.nil _ | (refine stle_cons (by first | rfl | exact nT34_0 hE) ?_)))); (· (intro _; exact nT34_0 hE)); (iterate 2 (try (· rfl))); (intro w; simp only [put, List.set_cons_succ, List.set_cons_zero]))
    | refine awp_block ?_
    | (apply awp_condt; (· exact nT34_0 hE))
    | (apply awp_condf; (· exact nT34_0 hE))
    | (apply awp_cond; (· exact nT34_0 hE); all_goals intro hc)
    | ((first | apply aops_gsplit | apply ads_gsplit); (· rfl); (· exact nT34_0 hE); all_goals (intro hg; rw [hg])))); all_goals clear hE
        all_goals
          (apply acall_end (by first | exact .inl rfl | exact .inr rfl); (· exact nT34_1 (noX)))
          exact ⟨w, rfl, by first | exact StLe.refl _ | exact stle_app _ _⟩
    · have hdV := devV_ne (7, 31) vt htd
      have hdS := devS_ne (7, 31) vt htd
      simp only [hdS, hdV, List.cons_append, List.nil_append] at hvis hend
      by_cases hud : ud = []
      · subst hud
        (have hE := And.intro @hdV (And.intro @hdS noX); repeat' (first
    | refine awp_seq ?_
    | (refine awp_reg fun nv => ?_)
    | (refine awp_regds mix fun nv => ?_)
    | ((first | refine aops_nil ?_ | refine ads_nil (by rfl) ?_ | refine awp_skip ?_ | refine awp_exit ?_ | refine awp_ret ?_); try simp only [thenQ, blockQ, if_true, if_false, Nat.reduceEqDiff, eq_self, reduceCtorEq, reduceIte])
    | ((first | apply aops_one 0 | apply ads_one 0); (· exact nT34_0 hE))
    | ((first | apply aops_callw (hlf := h_probe_Probe_visit) | apply ads_callw (hlf := h_probe_Probe_visit)); (· rfl); (· exact nT34_0 hE); (· exact hvis); (· (repeat' (first | exact StLe.refl _ | exact StLe.nil _ | (refine stle_cons (by first | rfl | exact nT34_0 hE) ?_)))); (· (intro _; exact nT34_0 hE)); (iterate 2 (try (· rfl))); (intro v; simp only [put, List.set_cons_succ, List.set_cons_zero]))
    | ((first | apply aops_callw (hlf := h_probe_Probe_ended) | apply ads_callw (hlf := h_probe_Probe_ended)); (· rfl); (· exact nT34_0 hE); (· exact (hend v)); (· (repeat' (first | exact StLe.refl _ | exact StLe.nil _ | (refine stle_cons (by first | rfl | exact nT34_0 hE) ?_)))); (· (intro _; exact nT34_0 hE)); (iterate 2 (try (· rfl))); (intro w; simp only [put, List.set_cons_succ, List.set_cons_zero]))
    | refine awp_block ?_
    | (apply awp_condt; (· exact nT34_0 hE))
    | (apply awp_condf; (· exact nT34_0 hE))
    | (apply awp_cond; (· exact nT34_0 hE); all_goals intro hc)
    | ((first | apply aops_gsplit | apply ads_gsplit); (· rfl); (· exact nT34_0 hE); all_goals (intro hg; rw [hg])))); all_goals clear hE
        all_goals
          (apply acall_end (by first | exact .inl rfl | exact .inr rfl); (· exact nT34_1 (noX)))
          exact ⟨w, rfl, by first | exact StLe.refl _ | exact stle_app _ _⟩
      · have huV := devV_ne (8, 31) vu hud
        have huS := devS_ne (8, 31) vu hud
        rw [huS] at hvis
        (have hE := And.intro @hdV (And.intro @hdS (And.intro @huV (And.intro @huS noX))); repeat' (first
    | refine awp_seq ?_
    | (refine awp_reg fun nv => ?_)
    | (refine awp_regds mix fun nv => ?_)
    | ((first | refine aops_nil ?_ | refine ads_nil (by rfl) ?_ | refine awp_skip ?_ | refine awp_exit ?_ | refine awp_ret ?_); try simp only [thenQ, blockQ, if_true, if_false, Nat.reduceEqDiff, eq_self, reduceCtorEq, reduceIte])
    | ((first | apply aops_one 0 | apply ads_one 0); (· exact nT34_2 hE))
    | ((first | apply aops_callw (hlf := h_probe_Probe_visit) | apply ads_callw (hlf := h_probe_Probe_visit)); (· rfl); (· exact nT34_2 hE); (· exact hvis); (· (repeat' (first | exact StLe.refl _ | exact StLe.nil _ | (refine stle_cons (by first | rfl | exact nT34_2 hE) ?_)))); (· (intro _; exact nT34_2 hE)); (iterate 2 (try (· rfl))); (intro v; simp only [put, List.set_cons_succ, List.set_cons_zero]))
    | ((first | apply aops_callw (hlf := h_probe_Probe_ended) | apply ads_callw (hlf := h_probe_Probe_ended)); (· rfl); (· exact nT34_2 hE); (· exact (hend v)); (· (repeat' (first | exact StLe.refl _ | exact StLe.nil _ | (refine stle_cons (by first | rfl | exact nT34_2 hE) ?_)))); (· (intro _; exact nT34_2 hE)); (iterate 2 (try (· rfl))); (intro w; simp only [put, List.set_cons_succ, List.set_cons_zero]))
    | refine awp_block ?_
    | (apply awp_condt; (· exact nT34_2 hE))
    | (apply awp_condf; (· exact nT34_2 hE))
    | (apply awp_cond; (· exact nT34_2 hE); all_goals intro hc)
    | ((first | apply aops_gsplit | apply ads_gsplit); (· rfl); (· exact nT34_2 hE); all_goals (intro hg; rw [hg])))); all_goals clear hE
        all_goals
          (apply acall_end (by first | exact .inl rfl | exact .inr rfl); (· exact nT34_1 (noX)))
          exact ⟨w, rfl, by first | exact StLe.refl _ | exact stle_app _ _⟩
end Go.Proofs.Ytibkakodokbobaa
