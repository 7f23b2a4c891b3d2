import Derived.Test.YtibkakodokbobaaT29
namespace Go.Proofs.Ytibkakodokbobaa
open Go.Am
set_option maxRecDepth 100000
set_option linter.unusedSimpArgs false
set_option linter.unusedVariables false
theorem nT31_0 {E A : Prop} (e : E) (h : E → A := by (intro hE; simp only [aone, aoneT, gval, astep, aev, val, abin, abinI, abinS, aun, aeqn, aeqL, aeq1, put, upds, sset, sget, aload, astore, aobj, acut, cells_b, one_b, cells_i, one_i, cells_s, one_s, cells_nilp, one_nilp, cells_ref, one_ref, cells_ptr, one_ptr, cells_esl, one_esl, cells_sl, one_sl, cells_row, one_row, cells_fn, one_fn, cells_nilf, one_nilf, cells_nilm, one_nilm, cells_mp, one_mp, cells_mpr, one_mpr, cells_ag, anilck, afieldAddr, aindex, aindexAddr, alen, afill, afillR, aminmax, aminmax.aminmaxI, isNeq, sdl, kin, acall, ares, ares1, arows, aappend, aslice, asliceS, asliceR, aslice0, abnd, List.set_cons_succ, List.set_cons_zero, List.getD_cons_succ, List.getD_cons_zero, List.getElem?_cons_succ, List.getElem?_cons_zero, List.map_cons, List.map_nil, List.cons_append, List.nil_append, List.append_nil, List.length_cons, List.length_nil, List.take_succ_cons, List.take_zero, List.drop_succ_cons, List.drop_zero, List.all_cons, List.all_nil, List.replicate, Nat.reduceAdd, Nat.reduceSub, Nat.reduceMul, Nat.reduceLT, Nat.reduceLeDiff, Nat.reduceEqDiff, Nat.zero_add, Nat.add_zero, Nat.zero_mul, Option.map_some, Option.map_none, Option.bind_some, Option.bind_eq_bind, Option.getD_some, Option.getD_none, Option.isSome_some, Option.isSome_none, Option.toList, if_true, if_false, and_self, and_true, true_and, and_false, false_and, Prod.mk.injEq, Bool.false_eq_true, Bool.true_eq_false, beq_self_eq_true, Bool.not_true, Bool.not_false, Bool.and_self, Bool.and_true, Bool.true_and, decide_true, decide_false, beq_true, beq_false, Bool.not_not, reduceCtorEq, Nat.le_refl, Int.reduceNeg, reduceIte, Nat.reduceBEq, Int.reduceBEq, Int.reduceLT, Int.reduceLE, Int.reduceToNat, decide_eq_true_eq, not_false_eq_true, not_true_eq_false, ne_eq, List.map_nil, PS.cells, devS_cons, devS_nil, devV_cells, devV_cons, devV_nil, devV_one, eLinks_cells, eLinks_one, ePorts_cells, ePorts_one, ePt, eRanges_cells, eRanges_one, eRules_cells, eRules_one, eStep, hE] <;> rfl)) : A := h e
theorem nT31_1 {E A : Prop} (e : E) (h : E → A := by (intro hE; simp only [aone, aoneT, gval, astep, aev, val, abin, abinI, abinS, aun, aeqn, aeqL, aeq1, put, upds, sset, sget, aload, astore, aobj, acut, cells_b, one_b, cells_i, one_i, cells_s, one_s, cells_nilp, one_nilp, cells_ref, one_ref, cells_ptr, one_ptr, cells_esl, one_esl, cells_sl, one_sl, cells_row, one_row, cells_fn, one_fn, cells_nilf, one_nilf, cells_nilm, one_nilm, cells_mp, one_mp, cells_mpr, one_mpr, cells_ag, anilck, afieldAddr, aindex, aindexAddr, alen, afill, afillR, aminmax, aminmax.aminmaxI, isNeq, sdl, kin, acall, ares, ares1, arows, aappend, aslice, asliceS, asliceR, aslice0, abnd, List.set_cons_succ, List.set_cons_zero, List.getD_cons_succ, List.getD_cons_zero, List.getElem?_cons_succ, List.getElem?_cons_zero, List.map_cons, List.map_nil, List.cons_append, List.nil_append, List.append_nil, List.length_cons, List.length_nil, List.take_succ_cons, List.take_zero, List.drop_succ_cons, List.drop_zero, List.all_cons, List.all_nil, List.replicate, Nat.reduceAdd, Nat.reduceSub, Nat.reduceMul, Nat.reduceLT, Nat.reduceLeDiff, Nat.reduceEqDiff, Nat.zero_add, Nat.add_zero, Nat.zero_mul, Option.map_some, Option.map_none, Option.bind_some, Option.bind_eq_bind, Option.getD_some, Option.getD_none, Option.isSome_some, Option.isSome_none, Option.toList, if_true, if_false, and_self, and_true, true_and, and_false, false_and, Prod.mk.injEq, Bool.false_eq_true, Bool.true_eq_false, beq_self_eq_true, Bool.not_true, Bool.not_false, Bool.and_self, Bool.and_true, Bool.true_and, decide_true, decide_false, beq_true, beq_false, Bool.not_not, reduceCtorEq, Nat.le_refl, Int.reduceNeg, reduceIte, Nat.reduceBEq, Int.reduceBEq, Int.reduceLT, Int.reduceLE, Int.reduceToNat, decide_eq_true_eq, not_false_eq_true, not_true_eq_false, ne_eq, devV_cells, devV_one, eLinks_cells, eLinks_one, ePorts_cells, ePorts_one, eRanges_cells, eRanges_one, eRules_cells, eRules_one, hE] <;> rfl)) : A := h e
theorem nT31_2 {E A : Prop} (e : E) (h : E → A := by (intro hE; simp only [aone, aoneT, gval, astep, aev, val, abin, abinI, abinS, aun, aeqn, aeqL, aeq1, put, upds, sset, sget, aload, astore, aobj, acut, cells_b, one_b, cells_i, one_i, cells_s, one_s, cells_nilp, one_nilp, cells_ref, one_ref, cells_ptr, one_ptr, cells_esl, one_esl, cells_sl, one_sl, cells_row, one_row, cells_fn, one_fn, cells_nilf, one_nilf, cells_nilm, one_nilm, cells_mp, one_mp, cells_mpr, one_mpr, cells_ag, anilck, afieldAddr, aindex, aindexAddr, alen, afill, afillR, aminmax, aminmax.aminmaxI, isNeq, sdl, kin, acall, ares, ares1, arows, aappend, aslice, asliceS, asliceR, aslice0, abnd, List.set_cons_succ, List.set_cons_zero, List.getD_cons_succ, List.getD_cons_zero, List.getElem?_cons_succ, List.getElem?_cons_zero, List.map_cons, List.map_nil, List.cons_append, List.nil_append, List.append_nil, List.length_cons, List.length_nil, List.take_succ_cons, List.take_zero, List.drop_succ_cons, List.drop_zero, List.all_cons, List.all_nil, List.replicate, Nat.reduceAdd, Nat.reduceSub, Nat.reduceMul, Nat.reduceLT, Nat.reduceLeDiff, Nat.reduceEqDiff, Nat.zero_add, Nat.add_zero, Nat.zero_mul, Option.map_some, Option.map_none, Option.bind_some, Option.bind_eq_bind, Option.getD_some, Option.getD_none, Option.isSome_some, Option.isSome_none, Option.toList, if_true, if_false, and_self, and_true, true_and, and_false, false_and, Prod.mk.injEq, Bool.false_eq_true, Bool.true_eq_false, beq_self_eq_true, Bool.not_true, Bool.not_false, Bool.and_self, Bool.and_true, Bool.true_and, decide_true, decide_false, beq_true, beq_false, Bool.not_not, reduceCtorEq, Nat.le_refl, Int.reduceNeg, reduceIte, Nat.reduceBEq, Int.reduceBEq, Int.reduceLT, Int.reduceLE, Int.reduceToNat, decide_eq_true_eq, not_false_eq_true, not_true_eq_false, ne_eq, List.length_map, PS.cells, devS_cons, devS_nil, devV_cells, devV_cons, devV_nil, devV_one, eLinks_cells, eLinks_one, ePorts_cells, ePorts_one, ePt, eRanges_cells, eRanges_one, eRules_cells, eRules_one, eStep, hE] <;> rfl)) : A := h e
theorem pT31_ {A : Prop} (h : A := by (simp only [List.forall_mem_cons, List.forall_mem_nil, List.not_mem_nil, false_imp_iff, implies_true, List.forall_mem_map, pure_b, pure_i, pure_s, pure_nilp, pure_nilf, pure_esl, pure_ref, pure_sl, pure_ag, pure_tu, pure_fn, and_self, and_true, true_and, eRules_pure, ePorts_pure, eLinks_pure, eRanges_pure]; done)) : A := h
/-! ### probe.visit, on the second trace -/
set_option maxHeartbeats 8000000 in
theorem c_visitU' (m : Net) (hm : m.small) (s : PS) (hsm : s.u.devs.length < 1000000) (vp vt vu vv : Nat) (x : Int × Int) (xs : List (Int × Int)) (hs : s.parts = x :: xs) :
    ACall Try.prog n_probe_Probe_visit [.ptr (9, 25) vp 0 0, .ag [ePorts m.ports, eLinks m.links, eRules m.rules], .ptr (9, 25) vp 0 21] (((9, 25), ⟨vp, .rows 34 [s.cells vp vt vu vv]⟩) :: devS (8, 31) vu s.u.devs)
      fun r τ => ∃ v : Nat, r = .b (visitS m s.at_ x.1 s.u).1 ∧ StLe τ (((9, 25), ⟨vp, .rows 34 [(visitU m s x.1).cells vp vt v vv]⟩) :: devS (8, 31) v (visitU m s x.1).u.devs) := by
  have hx : eRanges s.parts = .sl ([.i .u32 x.1, .i .u32 x.2] :: xs.map eRange) := by rw [hs]; rfl
  have hcon := p_Contains s.u.devs s.at_ (by omega)
  have hst := p_Step m hm s.at_ x.1
  have hfz : ∀ {σ : Store}, (s.u.devs ≠ [] → sget σ (8, 31) = some ⟨vu, .rows 1 (s.u.devs.map eI)⟩) → Fz σ [(8, 31)] (devV (8, 31) vu s.u.devs) (ePorts s.u.devs) := fun h => devV_fz (by simp) h
  refine acall_of h_probe_Probe_visit ?_; simp only [c_probe_Probe_visit, List.length_cons, List.length_nil, List.cons_append, List.nil_append, Nat.reduceAdd, Nat.reduceSub, List.reduceReplicate]
  cases hdv : s.u.devs with
  | nil =>
    have hA : s.u.devs.contains s.at_ = false := by rw [hdv]; rfl
    rw [hA, hdv] at hcon
    by_cases hF : (stepS m s.at_ x.1).1 = 4
    · have hF' : ((stepS m s.at_ x.1).1 != 4) = false := by simp [hF]
      have hnx := p_NextT m hm.2.1 (stepS m s.at_ x.1).2.1 (stepS m s.at_ x.1).2.2
      have hv : visitS m s.at_ x.1 s.u = (true, ((nextS m (stepS m s.at_ x.1).2.1 (stepS m s.at_ x.1).2.2).getD (0, 0)).1, ⟨[s.at_], 4, s.u.out⟩) := by
        unfold visitS; rw [hA, hdv, if_pos hF]; rfl
      (have hE := And.intro @hx (And.intro @hdv (And.intro @hF' noX)); repeat' (first
    | refine awp_seq ?_
    | (refine awp_reg fun nv => ?_)
    | (refine awp_regd mix fun nv => ?_)
    | ((first | refine aops_nil ?_ | refine adr_nil (by rfl) ?_ | refine awp_skip ?_ | refine awp_exit ?_ | refine awp_ret ?_); try simp only [thenQ, blockQ, if_true, if_false, Nat.reduceEqDiff, eq_self, reduceCtorEq, reduceIte])
    | ((first | apply aops_one 8 | apply adr_one 8); (· exact nT31_0 hE))
    | ((first | apply aops_callf [] (hlf := h_slices_Contains_int_int) | apply adr_callf [] (hlf := h_slices_Contains_int_int)); (· rfl); (· exact nT31_0 hE); (· exact (fzl_cons .esl (fzl_cons (fz_eq' rfl (.i _ _)) fzl_nil))); (· exact hcon); (· exact (.b _)); (· exact nput))
    | ((first | apply aops_call (hlf := h_fate_Step) | apply adr_call (hlf := h_fate_Step)); (· rfl); (· exact nT31_0 hE); (· exact pT31_); (· exact hst); (· exact nput))
    | ((first | apply aops_call (hlf := h_topo_Next) | apply adr_call (hlf := h_topo_Next)); (· rfl); (· exact nT31_0 hE); (· exact pT31_); (· exact hnx); (· exact nput))
    | refine awp_block ?_
    | (apply awp_condt; (· exact nT31_0 hE))
    | (apply awp_condf; (· exact nT31_0 hE))
    | (apply awp_cond; (· exact nT31_0 hE); all_goals intro hc)
    | ((first | apply aops_gsplit | apply adr_gsplit); (· rfl); (· exact nT31_0 hE); all_goals (intro hg; rw [hg])))); all_goals clear hE
      all_goals
        (apply acall_end (by first | exact .inl rfl | exact .inr rfl); (· exact nT31_1 (noX)))
        rw [hv]
        apply Exists.intro; refine ⟨rfl, ?_⟩
        unfold PS.cells
        simp only [visitU, hv]
        rw [hx]
        exact stle_cons rfl (stle_cons rfl (StLe.nil _))
    · have hF' : ((stepS m s.at_ x.1).1 != 4) = true := by simp [hF]
      have hv : visitS m s.at_ x.1 s.u = (false, s.at_, ⟨[s.at_], (stepS m s.at_ x.1).1, (stepS m s.at_ x.1).2⟩) := by
        unfold visitS; rw [hA, hdv, if_neg hF]; rfl
      (have hE := And.intro @hx (And.intro @hdv (And.intro @hF' noX)); repeat' (first
    | refine awp_seq ?_
    | (refine awp_reg fun nv => ?_)
    | (refine awp_regd mix fun nv => ?_)
    | ((first | refine aops_nil ?_ | refine adr_nil (by rfl) ?_ | refine awp_skip ?_ | refine awp_exit ?_ | refine awp_ret ?_); try simp only [thenQ, blockQ, if_true, if_false, Nat.reduceEqDiff, eq_self, reduceCtorEq, reduceIte])
    | ((first | apply aops_one 8 | apply adr_one 8); (· exact nT31_0 hE))
    | ((first | apply aops_callf [] (hlf := h_slices_Contains_int_int) | apply adr_callf [] (hlf := h_slices_Contains_int_int)); (· rfl); (· exact nT31_0 hE); (· exact (fzl_cons .esl (fzl_cons (fz_eq' rfl (.i _ _)) fzl_nil))); (· exact hcon); (· exact (.b _)); (· exact nput))
    | ((first | apply aops_call (hlf := h_fate_Step) | apply adr_call (hlf := h_fate_Step)); (· rfl); (· exact nT31_0 hE); (· exact pT31_); (· exact hst); (· exact nput))
    | refine awp_block ?_
    | (apply awp_condt; (· exact nT31_0 hE))
    | (apply awp_condf; (· exact nT31_0 hE))
    | (apply awp_cond; (· exact nT31_0 hE); all_goals intro hc)
    | ((first | apply aops_gsplit | apply adr_gsplit); (· rfl); (· exact nT31_0 hE); all_goals (intro hg; rw [hg])))); all_goals clear hE
      all_goals
        (apply acall_end (by first | exact .inl rfl | exact .inr rfl); (· exact nT31_1 (noX)))
        rw [hv]
        apply Exists.intro; refine ⟨rfl, ?_⟩
        unfold PS.cells
        simp only [visitU, hv]
        rw [hx]
        exact stle_cons rfl (stle_cons rfl (StLe.nil _))
  | cons d ds =>
    have hlen : (ds.length + 1 + 1) * 8 ≤ 140737488355328 := by rw [hdv] at hsm; simp only [List.length_cons] at hsm; omega
    have hrow : ∀ {σ : Store}, sget σ (8, 31) = some ⟨vu, .rows 1 (eI d :: ds.map eI)⟩ → Fz σ [(8, 31)] (.row (8, 31) vu 0 (ds.length + 1)) (ePorts (d :: ds)) := fun h => fz_row (rs := eI d :: ds.map eI) (by simp) h (by simp) (by simp [eI]) (by simp [eI, pure_i])
    rw [hdv] at hcon
    have hra : (ds.length + 1) + 1 = ds.length + 1 + 1 := rfl
    cases hA : (d :: ds).contains s.at_ with
    | true =>
      rw [hA] at hcon
      have hv : visitS m s.at_ x.1 s.u = (false, s.at_, ⟨d :: ds ++ [s.at_], 4, s.u.out⟩) := by
        unfold visitS; rw [hdv, hA]; rfl
      (have hE := And.intro @hx (And.intro @hdv (And.intro @hlen noX)); repeat' (first
    | refine awp_seq ?_
    | (refine awp_reg fun nv => ?_)
    | (refine awp_regd mix fun nv => ?_)
    | ((first | refine aops_nil ?_ | refine adr_nil (by rfl) ?_ | refine awp_skip ?_ | refine awp_exit ?_ | refine awp_ret ?_); try simp only [thenQ, blockQ, if_true, if_false, Nat.reduceEqDiff, eq_self, reduceCtorEq, reduceIte])
    | ((first | apply aops_one 8 | apply adr_one 8); (· exact nT31_2 hE))
    | ((first | apply aops_callf [(8, 31)] (hlf := h_slices_Contains_int_int) | apply adr_callf [(8, 31)] (hlf := h_slices_Contains_int_int)); (· rfl); (· exact nT31_2 hE); (· exact (fzl_cons (hrow rfl) (fzl_cons (fz_eq' rfl (.i _ _)) fzl_nil))); (· exact hcon); (· exact (.b _)); (· exact nput))
    | refine awp_block ?_
    | (apply awp_condt; (· exact nT31_2 hE))
    | (apply awp_condf; (· exact nT31_2 hE))
    | (apply awp_cond; (· exact nT31_2 hE); all_goals intro hc)
    | ((first | apply aops_gsplit | apply adr_gsplit); (· rfl); (· exact nT31_2 hE); all_goals (intro hg; rw [hg])))); all_goals clear hE
      all_goals
        (apply acall_end (by first | exact .inl rfl | exact .inr rfl); (· exact nT31_1 (noX)))
        rw [hv]
        apply Exists.intro; refine ⟨rfl, ?_⟩
        unfold PS.cells
        simp only [visitU, hv, devV_snoc, devS_snoc]
        rw [hx]
        exact stle_cons rfl (stle_cons rfl (StLe.nil _))
    | false =>
      rw [hA] at hcon
      by_cases hF : (stepS m s.at_ x.1).1 = 4
      · have hF' : ((stepS m s.at_ x.1).1 != 4) = false := by simp [hF]
        have hnx := p_NextT m hm.2.1 (stepS m s.at_ x.1).2.1 (stepS m s.at_ x.1).2.2
        have hv : visitS m s.at_ x.1 s.u = (true, ((nextS m (stepS m s.at_ x.1).2.1 (stepS m s.at_ x.1).2.2).getD (0, 0)).1, ⟨d :: ds ++ [s.at_], 4, s.u.out⟩) := by
          unfold visitS; rw [hdv, hA, if_pos hF]; rfl
        (have hE := And.intro @hx (And.intro @hdv (And.intro @hlen (And.intro @hF' noX))); repeat' (first
    | refine awp_seq ?_
    | (refine awp_reg fun nv => ?_)
    | (refine awp_regd mix fun nv => ?_)
    | ((first | refine aops_nil ?_ | refine adr_nil (by rfl) ?_ | refine awp_skip ?_ | refine awp_exit ?_ | refine awp_ret ?_); try simp only [thenQ, blockQ, if_true, if_false, Nat.reduceEqDiff, eq_self, reduceCtorEq, reduceIte])
    | ((first | apply aops_one 8 | apply adr_one 8); (· exact nT31_2 hE))
    | ((first | apply aops_callf [(8, 31)] (hlf := h_slices_Contains_int_int) | apply adr_callf [(8, 31)] (hlf := h_slices_Contains_int_int)); (· rfl); (· exact nT31_2 hE); (· exact (fzl_cons (hrow rfl) (fzl_cons (fz_eq' rfl (.i _ _)) fzl_nil))); (· exact hcon); (· exact (.b _)); (· exact nput))
    | ((first | apply aops_call (hlf := h_fate_Step) | apply adr_call (hlf := h_fate_Step)); (· rfl); (· exact nT31_2 hE); (· exact pT31_); (· exact hst); (· exact nput))
    | ((first | apply aops_call (hlf := h_topo_Next) | apply adr_call (hlf := h_topo_Next)); (· rfl); (· exact nT31_2 hE); (· exact pT31_); (· exact hnx); (· exact nput))
    | refine awp_block ?_
    | (apply awp_condt; (· exact nT31_2 hE))
    | (apply awp_condf; (· exact nT31_2 hE))
    | (apply awp_cond; (· exact nT31_2 hE); all_goals intro hc)
    | ((first | apply aops_gsplit | apply adr_gsplit); (· rfl); (· exact nT31_2 hE); all_goals (intro hg; rw [hg])))); all_goals clear hE
        all_goals
          (apply acall_end (by first | exact .inl rfl | exact .inr rfl); (· exact nT31_1 (noX)))
          rw [hv]
          apply Exists.intro; refine ⟨rfl, ?_⟩
          unfold PS.cells
          simp only [visitU, hv, devV_snoc, devS_snoc]
          rw [hx]
          exact stle_cons rfl (stle_cons rfl (StLe.nil _))
      · have hF' : ((stepS m s.at_ x.1).1 != 4) = true := by simp [hF]
        have hv : visitS m s.at_ x.1 s.u = (false, s.at_, ⟨d :: ds ++ [s.at_], (stepS m s.at_ x.1).1, (stepS m s.at_ x.1).2⟩) := by
          unfold visitS; rw [hdv, hA, if_neg hF]; rfl
        (have hE := And.intro @hx (And.intro @hdv (And.intro @hlen (And.intro @hF' noX))); repeat' (first
    | refine awp_seq ?_
    | (refine awp_reg fun nv => ?_)
    | (refine awp_regd mix fun nv => ?_)
    | ((first | refine aops_nil ?_ | refine adr_nil (by rfl) ?_ | refine awp_skip ?_ | refine awp_exit ?_ | refine awp_ret ?_); try simp only [thenQ, blockQ, if_true, if_false, Nat.reduceEqDiff, eq_self, reduceCtorEq, reduceIte])
    | ((first | apply aops_one 8 | apply adr_one 8); (· exact nT31_2 hE))
    | ((first | apply aops_callf [(8, 31)] (hlf := h_slices_Contains_int_int) | apply adr_callf [(8, 31)] (hlf := h_slices_Contains_int_int)); (· rfl); (· exact nT31_2 hE); (· exact (fzl_cons (hrow rfl) (fzl_cons (fz_eq' rfl (.i _ _)) fzl_nil))); (· exact hcon); (· exact (.b _)); (· exact nput))
    | ((first | apply aops_call (hlf := h_fate_Step) | apply adr_call (hlf := h_fate_Step)); (· rfl); (· exact nT31_2 hE); (· exact pT31_); (· exact hst); (· exact nput))
    | refine awp_block ?_
    | (apply awp_condt; (· exact nT31_2 hE))
    | (apply awp_condf; (· exact nT31_2 hE))
    | (apply awp_cond; (· exact nT31_2 hE); all_goals intro hc)
    | ((first | apply aops_gsplit | apply adr_gsplit); (· rfl); (· exact nT31_2 hE); all_goals (intro hg; rw [hg])))); all_goals clear hE
        all_goals
          (apply acall_end (by first | exact .inl rfl | exact .inr rfl); (· exact nT31_1 (noX)))
          rw [hv]
          apply Exists.intro; refine ⟨rfl, ?_⟩
          unfold PS.cells
          simp only [visitU, hv, devV_snoc, devS_snoc]
          rw [hx]
          exact stle_cons rfl (stle_cons rfl (StLe.nil _))
theorem c_visitU (m : Net) (hm : m.small) (s : PS) (hsm : s.u.devs.length < 1000000) (vp vt vu vv : Nat) (x : Int × Int) (xs : List (Int × Int)) (hs : s.parts = x :: xs) :
    ACall Try.prog n_probe_Probe_visit [.ptr (9, 25) vp 0 0, .ag [ePorts m.ports, eLinks m.links, eRules m.rules], .ptr (9, 25) vp 0 21] (((9, 25), ⟨vp, .rows 34 [s.cells vp vt vu vv]⟩) :: devS (8, 31) vu s.u.devs)
      fun r τ => ∃ v : Nat, r = .b (visitS m s.at_ x.1 s.u).1 ∧ τ = ((9, 25), ⟨vp, .rows 34 [(visitU m s x.1).cells vp vt v vv]⟩) :: devS (8, 31) v (visitU m s x.1).u.devs :=
  (c_visitU' m hm s hsm vp vt vu vv x xs hs).weak fun r σ' ⟨v, h1, h2⟩ => ⟨_, h2, v, h1, rfl⟩
end Go.Proofs.Ytibkakodokbobaa
