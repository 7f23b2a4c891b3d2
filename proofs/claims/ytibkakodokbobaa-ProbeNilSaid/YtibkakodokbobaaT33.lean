import Derived.Test.YtibkakodokbobaaT32
namespace Go.Proofs.Ytibkakodokbobaa
open Go.Am
set_option maxRecDepth 100000
set_option linter.unusedSimpArgs false
set_option linter.unusedVariables false
theorem nT33_0 {E A : Prop} (e : E) (h : E → A := by (intro hE; simp only [aone, aoneT, gval, astep, aev, val, abin, abinI, abinS, aun, aeqn, aeqL, aeq1, put, upds, sset, sget, aload, astore, aobj, acut, cells_b, one_b, cells_i, one_i, cells_s, one_s, cells_nilp, one_nilp, cells_ref, one_ref, cells_ptr, one_ptr, cells_esl, one_esl, cells_sl, one_sl, cells_row, one_row, cells_fn, one_fn, cells_nilf, one_nilf, cells_nilm, one_nilm, cells_mp, one_mp, cells_mpr, one_mpr, cells_ag, anilck, afieldAddr, aindex, aindexAddr, alen, afill, afillR, aminmax, aminmax.aminmaxI, isNeq, sdl, kin, acall, ares, ares1, arows, aappend, aslice, asliceS, asliceR, aslice0, abnd, List.set_cons_succ, List.set_cons_zero, List.getD_cons_succ, List.getD_cons_zero, List.getElem?_cons_succ, List.getElem?_cons_zero, List.map_cons, List.map_nil, List.cons_append, List.nil_append, List.append_nil, List.length_cons, List.length_nil, List.take_succ_cons, List.take_zero, List.drop_succ_cons, List.drop_zero, List.all_cons, List.all_nil, List.replicate, Nat.reduceAdd, Nat.reduceSub, Nat.reduceMul, Nat.reduceLT, Nat.reduceLeDiff, Nat.reduceEqDiff, Nat.zero_add, Nat.add_zero, Nat.zero_mul, Option.map_some, Option.map_none, Option.bind_some, Option.bind_eq_bind, Option.getD_some, Option.getD_none, Option.isSome_some, Option.isSome_none, Option.toList, if_true, if_false, and_self, and_true, true_and, and_false, false_and, Prod.mk.injEq, Bool.false_eq_true, Bool.true_eq_false, beq_self_eq_true, Bool.not_true, Bool.not_false, Bool.and_self, Bool.and_true, Bool.true_and, decide_true, decide_false, beq_true, beq_false, Bool.not_not, reduceCtorEq, Nat.le_refl, Int.reduceNeg, reduceIte, Nat.reduceBEq, Int.reduceBEq, Int.reduceLT, Int.reduceLE, Int.reduceToNat, decide_eq_true_eq, not_false_eq_true, not_true_eq_false, ne_eq, List.map_nil, PS.cells, PS.st, devS_nil, devV_cells, devV_nil, devV_one, devV_snoc, eLinks_cells, eLinks_one, ePorts_cells, ePorts_one, eRanges_cells, eRanges_one, eRules_cells, eRules_one, nxV_cells, nxV_one, tr0, hE] <;> rfl)) : A := h e
theorem nT33_1 {E A : Prop} (e : E) (h : E → A := by (intro hE; simp only [aone, aoneT, gval, astep, aev, val, abin, abinI, abinS, aun, aeqn, aeqL, aeq1, put, upds, sset, sget, aload, astore, aobj, acut, cells_b, one_b, cells_i, one_i, cells_s, one_s, cells_nilp, one_nilp, cells_ref, one_ref, cells_ptr, one_ptr, cells_esl, one_esl, cells_sl, one_sl, cells_row, one_row, cells_fn, one_fn, cells_nilf, one_nilf, cells_nilm, one_nilm, cells_mp, one_mp, cells_mpr, one_mpr, cells_ag, anilck, afieldAddr, aindex, aindexAddr, alen, afill, afillR, aminmax, aminmax.aminmaxI, isNeq, sdl, kin, acall, ares, ares1, arows, aappend, aslice, asliceS, asliceR, aslice0, abnd, List.set_cons_succ, List.set_cons_zero, List.getD_cons_succ, List.getD_cons_zero, List.getElem?_cons_succ, List.getElem?_cons_zero, List.map_cons, List.map_nil, List.cons_append, List.nil_append, List.append_nil, List.length_cons, List.length_nil, List.take_succ_cons, List.take_zero, List.drop_succ_cons, List.drop_zero, List.all_cons, List.all_nil, List.replicate, Nat.reduceAdd, Nat.reduceSub, Nat.reduceMul, Nat.reduceLT, Nat.reduceLeDiff, Nat.reduceEqDiff, Nat.zero_add, Nat.add_zero, Nat.zero_mul, Option.map_some, Option.map_none, Option.bind_some, Option.bind_eq_bind, Option.getD_some, Option.getD_none, Option.isSome_some, Option.isSome_none, Option.toList, if_true, if_false, and_self, and_true, true_and, and_false, false_and, Prod.mk.injEq, Bool.false_eq_true, Bool.true_eq_false, beq_self_eq_true, Bool.not_true, Bool.not_false, Bool.and_self, Bool.and_true, Bool.true_and, decide_true, decide_false, beq_true, beq_false, Bool.not_not, reduceCtorEq, Nat.le_refl, Int.reduceNeg, reduceIte, Nat.reduceBEq, Int.reduceBEq, Int.reduceLT, Int.reduceLE, Int.reduceToNat, decide_eq_true_eq, not_false_eq_true, not_true_eq_false, ne_eq, devV_cells, devV_one, eLinks_cells, eLinks_one, ePorts_cells, ePorts_one, eRanges_cells, eRanges_one, eRules_cells, eRules_one, nxV_cells, nxV_one, hE] <;> rfl)) : A := h e
theorem nT33_2 {E A : Prop} (e : E) (h : E → A := by (intro hE; simp only [aone, aoneT, gval, astep, aev, val, abin, abinI, abinS, aun, aeqn, aeqL, aeq1, put, upds, sset, sget, aload, astore, aobj, acut, cells_b, one_b, cells_i, one_i, cells_s, one_s, cells_nilp, one_nilp, cells_ref, one_ref, cells_ptr, one_ptr, cells_esl, one_esl, cells_sl, one_sl, cells_row, one_row, cells_fn, one_fn, cells_nilf, one_nilf, cells_nilm, one_nilm, cells_mp, one_mp, cells_mpr, one_mpr, cells_ag, anilck, afieldAddr, aindex, aindexAddr, alen, afill, afillR, aminmax, aminmax.aminmaxI, isNeq, sdl, kin, acall, ares, ares1, arows, aappend, aslice, asliceS, asliceR, aslice0, abnd, List.set_cons_succ, List.set_cons_zero, List.getD_cons_succ, List.getD_cons_zero, List.getElem?_cons_succ, List.getElem?_cons_zero, List.map_cons, List.map_nil, List.cons_append, List.nil_append, List.append_nil, List.length_cons, List.length_nil, List.take_succ_cons, List.take_zero, List.drop_succ_cons, List.drop_zero, List.all_cons, List.all_nil, List.replicate, Nat.reduceAdd, Nat.reduceSub, Nat.reduceMul, Nat.reduceLT, Nat.reduceLeDiff, Nat.reduceEqDiff, Nat.zero_add, Nat.add_zero, Nat.zero_mul, Option.map_some, Option.map_none, Option.bind_some, Option.bind_eq_bind, Option.getD_some, Option.getD_none, Option.isSome_some, Option.isSome_none, Option.toList, if_true, if_false, and_self, and_true, true_and, and_false, false_and, Prod.mk.injEq, Bool.false_eq_true, Bool.true_eq_false, beq_self_eq_true, Bool.not_true, Bool.not_false, Bool.and_self, Bool.and_true, Bool.true_and, decide_true, decide_false, beq_true, beq_false, Bool.not_not, reduceCtorEq, Nat.le_refl, Int.reduceNeg, reduceIte, Nat.reduceBEq, Int.reduceBEq, Int.reduceLT, Int.reduceLE, Int.reduceToNat, decide_eq_true_eq, not_false_eq_true, not_true_eq_false, ne_eq, PS.cells, PS.st, devS_nil, devV_cells, devV_nil, devV_one, devV_snoc, eLinks_cells, eLinks_one, ePorts_cells, ePorts_one, eRanges_cells, eRanges_one, eRules_cells, eRules_one, nxV_cells, nxV_one, tr0, hE] <;> rfl)) : A := h e
theorem nT33_3 {E A : Prop} (e : E) (h : E → A := by (intro hE; simp only [aone, aoneT, gval, astep, aev, val, abin, abinI, abinS, aun, aeqn, aeqL, aeq1, put, upds, sset, sget, aload, astore, aobj, acut, cells_b, one_b, cells_i, one_i, cells_s, one_s, cells_nilp, one_nilp, cells_ref, one_ref, cells_ptr, one_ptr, cells_esl, one_esl, cells_sl, one_sl, cells_row, one_row, cells_fn, one_fn, cells_nilf, one_nilf, cells_nilm, one_nilm, cells_mp, one_mp, cells_mpr, one_mpr, cells_ag, anilck, afieldAddr, aindex, aindexAddr, alen, afill, afillR, aminmax, aminmax.aminmaxI, isNeq, sdl, kin, acall, ares, ares1, arows, aappend, aslice, asliceS, asliceR, aslice0, abnd, List.set_cons_succ, List.set_cons_zero, List.getD_cons_succ, List.getD_cons_zero, List.getElem?_cons_succ, List.getElem?_cons_zero, List.map_cons, List.map_nil, List.cons_append, List.nil_append, List.append_nil, List.length_cons, List.length_nil, List.take_succ_cons, List.take_zero, List.drop_succ_cons, List.drop_zero, List.all_cons, List.all_nil, List.replicate, Nat.reduceAdd, Nat.reduceSub, Nat.reduceMul, Nat.reduceLT, Nat.reduceLeDiff, Nat.reduceEqDiff, Nat.zero_add, Nat.add_zero, Nat.zero_mul, Option.map_some, Option.map_none, Option.bind_some, Option.bind_eq_bind, Option.getD_some, Option.getD_none, Option.isSome_some, Option.isSome_none, Option.toList, if_true, if_false, and_self, and_true, true_and, and_false, false_and, Prod.mk.injEq, Bool.false_eq_true, Bool.true_eq_false, beq_self_eq_true, Bool.not_true, Bool.not_false, Bool.and_self, Bool.and_true, Bool.true_and, decide_true, decide_false, beq_true, beq_false, Bool.not_not, reduceCtorEq, Nat.le_refl, Int.reduceNeg, reduceIte, Nat.reduceBEq, Int.reduceBEq, Int.reduceLT, Int.reduceLE, Int.reduceToNat, decide_eq_true_eq, not_false_eq_true, not_true_eq_false, ne_eq, List.map_nil, PS.cells, PS.st, devS_nil, devV_cells, devV_nil, devV_one, devV_snoc, eLinks_cells, eLinks_one, ePorts_cells, ePorts_cons, ePorts_one, eRanges_cells, eRanges_one, eRules_cells, eRules_one, nxV_cells, nxV_one, tr0, hE] <;> rfl)) : A := h e
theorem nT33_4 {E A : Prop} (e : E) (h : E → A := by (intro hE; simp only [aone, aoneT, gval, astep, aev, val, abin, abinI, abinS, aun, aeqn, aeqL, aeq1, put, upds, sset, sget, aload, astore, aobj, acut, cells_b, one_b, cells_i, one_i, cells_s, one_s, cells_nilp, one_nilp, cells_ref, one_ref, cells_ptr, one_ptr, cells_esl, one_esl, cells_sl, one_sl, cells_row, one_row, cells_fn, one_fn, cells_nilf, one_nilf, cells_nilm, one_nilm, cells_mp, one_mp, cells_mpr, one_mpr, cells_ag, anilck, afieldAddr, aindex, aindexAddr, alen, afill, afillR, aminmax, aminmax.aminmaxI, isNeq, sdl, kin, acall, ares, ares1, arows, aappend, aslice, asliceS, asliceR, aslice0, abnd, List.set_cons_succ, List.set_cons_zero, List.getD_cons_succ, List.getD_cons_zero, List.getElem?_cons_succ, List.getElem?_cons_zero, List.map_cons, List.map_nil, List.cons_append, List.nil_append, List.append_nil, List.length_cons, List.length_nil, List.take_succ_cons, List.take_zero, List.drop_succ_cons, List.drop_zero, List.all_cons, List.all_nil, List.replicate, Nat.reduceAdd, Nat.reduceSub, Nat.reduceMul, Nat.reduceLT, Nat.reduceLeDiff, Nat.reduceEqDiff, Nat.zero_add, Nat.add_zero, Nat.zero_mul, Option.map_some, Option.map_none, Option.bind_some, Option.bind_eq_bind, Option.getD_some, Option.getD_none, Option.isSome_some, Option.isSome_none, Option.toList, if_true, if_false, and_self, and_true, true_and, and_false, false_and, Prod.mk.injEq, Bool.false_eq_true, Bool.true_eq_false, beq_self_eq_true, Bool.not_true, Bool.not_false, Bool.and_self, Bool.and_true, Bool.true_and, decide_true, decide_false, beq_true, beq_false, Bool.not_not, reduceCtorEq, Nat.le_refl, Int.reduceNeg, reduceIte, Nat.reduceBEq, Int.reduceBEq, Int.reduceLT, Int.reduceLE, Int.reduceToNat, decide_eq_true_eq, not_false_eq_true, not_true_eq_false, ne_eq, PS.cells, PS.st, devS_nil, devV_cells, devV_nil, devV_one, devV_snoc, eLinks_cells, eLinks_one, ePorts_cells, ePorts_cons, ePorts_one, eRanges_cells, eRanges_one, eRules_cells, eRules_one, nxV_cells, nxV_one, tr0, hE] <;> rfl)) : A := h e
theorem pT33_ {A : Prop} (h : A := by (simp only [List.forall_mem_cons, List.forall_mem_nil, List.not_mem_nil, false_imp_iff, implies_true, List.forall_mem_map, pure_b, pure_i, pure_s, pure_nilp, pure_nilf, pure_esl, pure_ref, pure_sl, pure_ag, pure_tu, pure_fn, and_self, and_true, true_and, eRules_pure, ePorts_pure, eLinks_pure, eRanges_pure]; done)) : A := h
/-! ### probe.first, second -/
theorem c_ended (s : PS) (hg : Good s) (vp vt vu vv : Nat) :
    ACall Try.prog n_probe_Probe_ended [.ptr (9, 25) vp 0 0] (((9, 25), ⟨vp, .rows 34 [s.cells vp vt vu vv]⟩) :: (devS (7, 31) vt s.t.devs ++ devS (8, 31) vu s.u.devs))
      fun r τ => ∃ w : Nat × Nat, r = .tu [] ∧ τ = (endedS s).st vp w.1 w.2 :=
  (c_ended' s hg vp vt vu vv).weak fun r σ' ⟨w, h1, h2⟩ => ⟨_, h2, w, h1, rfl⟩
def headF (s : PS) : Int := (s.parts.headD (0, 0)).1
def firstF (s : PS) : PS := if (visitS s.n s.at_ (headF s) s.t).1 = true then visitT s.n s (headF s) else if s.q.kind = 5 then { visitT s.n s (headF s) with at_ := s.sources.headD 0, next := .second } else endedS (visitT s.n s (headF s))
def secondF (s : PS) : PS := if (visitS s.o s.at_ (headF s) s.u).1 = true then visitU s.o s (headF s) else endedS (visitU s.o s (headF s))
theorem stle_app (σ τ : Store) : StLe (σ ++ τ) σ := fun k o h => by rw [sget_append, h]
theorem devV_ne (k : Key) (v : Nat) {l : List Int} (h : l ≠ []) : devV k v l = .row k v 0 l.length := by
  cases l with
  | nil => exact absurd rfl h
  | cons a l => rfl
theorem devS_ne (k : Key) (v : Nat) {l : List Int} (h : l ≠ []) : devS k v l = [(k, ⟨v, .rows 1 (l.map eI)⟩)] := by
  cases l with
  | nil => exact absurd rfl h
  | cons a l => rfl
theorem visitS_devs (m : Net) (at_ a : Int) (t : Tr) : (visitS m at_ a t).2.2.devs = t.devs ++ [at_] := by
  unfold visitS; split
  · rfl
  · split <;> rfl
set_option maxHeartbeats 8000000 in
theorem c_first' (s : PS) (hg : Good s) (ht1 : s.t.devs.length + 1 < 1000000) (hu0 : s.u.devs = []) (vp vt vu : Nat) :
    ACall Try.prog n_probe_Probe_first [.ptr (9, 25) vp 0 0] (s.st vp vt vu)
      fun r τ => ∃ w : Nat × Nat, r = .tu [] ∧ StLe τ ((firstF s).st vp w.1 w.2) := by
  obtain ⟨h1, h2, h3, h4, h5, h6, h7, h8, h9⟩ := hg
  obtain ⟨n, o, q, sources, all, parts, at_, ⟨td, tf, tout⟩, ⟨ud, uf, uout⟩, next, done, holds, vf, va, vtr⟩ := s
  simp only at h1 h2 h3 h4 h5 h6 h7 h8 h9 ht1 hu0
  subst h8; subst h9; subst hu0
  obtain ⟨y, ys, rfl⟩ : ∃ y ys, sources = y :: ys := by cases sources with | nil => exact absurd rfl h6 | cons a b => exact ⟨a, b, rfl⟩
  obtain ⟨x, xs, rfl⟩ : ∃ x xs, parts = x :: xs := by cases parts with | nil => exact absurd rfl h7 | cons a b => exact ⟨a, b, rfl⟩
  have hvis := c_visitT n h1 ⟨n, o, q, y :: ys, all, x :: xs, at_, ⟨td, tf, tout⟩, ⟨[], uf, uout⟩, next, false, holds, vf, va, tr0⟩ h4 vp vt vu vt x xs rfl
  have hgd : Good (visitT n ⟨n, o, q, y :: ys, all, x :: xs, at_, ⟨td, tf, tout⟩, ⟨[], uf, uout⟩, next, false, holds, vf, va, tr0⟩ x.1) :=
    ⟨h1, h2, h3, by simp only [visitT, visitS_devs, List.length_append, List.length_cons, List.length_nil]; omega, h5, h6, h7, rfl, rfl⟩
  have hend := fun v => c_ended _ hgd vp v vu vt
  have hff : firstF ⟨n, o, q, y :: ys, all, x :: xs, at_, ⟨td, tf, tout⟩, ⟨[], uf, uout⟩, next, false, holds, vf, va, tr0⟩ = if (visitS n at_ x.1 ⟨td, tf, tout⟩).1 = true then visitT n ⟨n, o, q, y :: ys, all, x :: xs, at_, ⟨td, tf, tout⟩, ⟨[], uf, uout⟩, next, false, holds, vf, va, tr0⟩ x.1
      else if q.kind = 5 then { visitT n ⟨n, o, q, y :: ys, all, x :: xs, at_, ⟨td, tf, tout⟩, ⟨[], uf, uout⟩, next, false, holds, vf, va, tr0⟩ x.1 with at_ := y, next := .second } else endedS (visitT n ⟨n, o, q, y :: ys, all, x :: xs, at_, ⟨td, tf, tout⟩, ⟨[], uf, uout⟩, next, false, holds, vf, va, tr0⟩ x.1) := rfl
  rw [hff]
  have hdevs : (visitS n at_ x.1 ⟨td, tf, tout⟩).2.2.devs = td ++ [at_] := visitS_devs _ _ _ _
  simp only [visitT] at hvis hend ⊢
  generalize hV : visitS n at_ x.1 ⟨td, tf, tout⟩ = V at *
  obtain ⟨vb, va', ⟨vd, vfa, vo⟩⟩ := V
  simp only at hdevs hvis hend ⊢
  subst hdevs
  simp only [devS_snoc] at hvis
  simp only [devS_snoc, PS.cells, devV_snoc, tr0, devV_nil, devS_nil, List.append_nil] at hend
  refine acall_of h_probe_Probe_first ?_; simp only [c_probe_Probe_first, List.length_cons, List.length_nil, List.cons_append, List.nil_append, Nat.reduceAdd, Nat.reduceSub, List.reduceReplicate]
  cases vb with
  | true =>
    by_cases htd : td = []
    · subst htd
      (have hE := noX; repeat' (first
    | refine awp_seq ?_
    | (refine awp_reg fun nv => ?_)
    | (refine awp_regds mix fun nv => ?_)
    | ((first | refine aops_nil ?_ | refine ads_nil (by rfl) ?_ | refine awp_skip ?_ | refine awp_exit ?_ | refine awp_ret ?_); try simp only [thenQ, blockQ, if_true, if_false, Nat.reduceEqDiff, eq_self, reduceCtorEq, reduceIte])
    | ((first | apply aops_one 0 | apply ads_one 0); (· exact nT33_0 hE))
    | ((first | apply aops_callw (hlf := h_probe_Probe_visit) | apply ads_callw (hlf := h_probe_Probe_visit)); (· rfl); (· exact nT33_0 hE); (· exact hvis); (· (repeat' (first | exact StLe.refl _ | exact StLe.nil _ | (refine stle_cons (by first | rfl | exact nT33_0 hE) ?_)))); (· (intro _; exact nT33_0 hE)); (iterate 2 (try (· rfl))); (intro v; simp only [put, List.set_cons_succ, List.set_cons_zero]))
    | refine awp_block ?_
    | (apply awp_condt; (· exact nT33_0 hE))
    | (apply awp_condf; (· exact nT33_0 hE))
    | (apply awp_cond; (· exact nT33_0 hE); all_goals intro hc)
    | ((first | apply aops_gsplit | apply ads_gsplit); (· rfl); (· exact nT33_0 hE); all_goals (intro hg; rw [hg])))); all_goals clear hE
      all_goals
        (apply acall_end (by first | exact .inl rfl | exact .inr rfl); (· exact nT33_1 (noX)))
        refine ⟨(v, vu), rfl, ?_⟩
        simp only [PS.st, devS_snoc, PS.cells, devV_snoc, if_true]
        exact stle_cons rfl (stle_cons rfl (StLe.nil _))
    · have hdV := devV_ne (7, 31) vt htd
      have hdS := devS_ne (7, 31) vt htd
      rw [hdS] at hvis
      (have hE := And.intro @hdV (And.intro @hdS noX); repeat' (first
    | refine awp_seq ?_
    | (refine awp_reg fun nv => ?_)
    | (refine awp_regds mix fun nv => ?_)
    | ((first | refine aops_nil ?_ | refine ads_nil (by rfl) ?_ | refine awp_skip ?_ | refine awp_exit ?_ | refine awp_ret ?_); try simp only [thenQ, blockQ, if_true, if_false, Nat.reduceEqDiff, eq_self, reduceCtorEq, reduceIte])
    | ((first | apply aops_one 0 | apply ads_one 0); (· exact nT33_2 hE))
    | ((first | apply aops_callw (hlf := h_probe_Probe_visit) | apply ads_callw (hlf := h_probe_Probe_visit)); (· rfl); (· exact nT33_2 hE); (· exact hvis); (· (repeat' (first | exact StLe.refl _ | exact StLe.nil _ | (refine stle_cons (by first | rfl | exact nT33_2 hE) ?_)))); (· (intro _; exact nT33_2 hE)); (iterate 2 (try (· rfl))); (intro v; simp only [put, List.set_cons_succ, List.set_cons_zero]))
    | refine awp_block ?_
    | (apply awp_condt; (· exact nT33_2 hE))
    | (apply awp_condf; (· exact nT33_2 hE))
    | (apply awp_cond; (· exact nT33_2 hE); all_goals intro hc)
    | ((first | apply aops_gsplit | apply ads_gsplit); (· rfl); (· exact nT33_2 hE); all_goals (intro hg; rw [hg])))); all_goals clear hE
      all_goals
        (apply acall_end (by first | exact .inl rfl | exact .inr rfl); (· exact nT33_1 (noX)))
        refine ⟨(v, vu), rfl, ?_⟩
        simp only [PS.st, devS_snoc, PS.cells, devV_snoc, if_true]
        exact stle_cons rfl (stle_cons rfl (StLe.nil _))
  | false =>
    simp only [Bool.false_eq_true, if_false]
    by_cases hk : q.kind = 5
    · have hk' : (q.kind == 5) = true := by simpa using hk
      rw [if_pos hk]
      by_cases htd : td = []
      · subst htd
        (have hE := And.intro @hk' noX; repeat' (first
    | refine awp_seq ?_
    | (refine awp_reg fun nv => ?_)
    | (refine awp_regds mix fun nv => ?_)
    | ((first | refine aops_nil ?_ | refine ads_nil (by rfl) ?_ | refine awp_skip ?_ | refine awp_exit ?_ | refine awp_ret ?_); try simp only [thenQ, blockQ, if_true, if_false, Nat.reduceEqDiff, eq_self, reduceCtorEq, reduceIte])
    | ((first | apply aops_one 0 | apply ads_one 0); (· exact nT33_3 hE))
    | ((first | apply aops_callw (hlf := h_probe_Probe_visit) | apply ads_callw (hlf := h_probe_Probe_visit)); (· rfl); (· exact nT33_3 hE); (· exact hvis); (· (repeat' (first | exact StLe.refl _ | exact StLe.nil _ | (refine stle_cons (by first | rfl | exact nT33_3 hE) ?_)))); (· (intro _; exact nT33_3 hE)); (iterate 2 (try (· rfl))); (intro v; simp only [put, List.set_cons_succ, List.set_cons_zero]))
    | refine awp_block ?_
    | (apply awp_condt; (· exact nT33_3 hE))
    | (apply awp_condf; (· exact nT33_3 hE))
    | (apply awp_cond; (· exact nT33_3 hE); all_goals intro hc)
    | ((first | apply aops_gsplit | apply ads_gsplit); (· rfl); (· exact nT33_3 hE); all_goals (intro hg; rw [hg])))); all_goals clear hE
        all_goals
          (apply acall_end (by first | exact .inl rfl | exact .inr rfl); (· exact nT33_1 (noX)))
          refine ⟨(v, vu), rfl, ?_⟩
          simp only [PS.st, devS_snoc, PS.cells, devV_snoc, if_true]
          exact stle_cons rfl (stle_cons rfl (StLe.nil _))
      · have hdV := devV_ne (7, 31) vt htd
        have hdS := devS_ne (7, 31) vt htd
        rw [hdS] at hvis
        (have hE := And.intro @hk' (And.intro @hdV (And.intro @hdS noX)); repeat' (first
    | refine awp_seq ?_
    | (refine awp_reg fun nv => ?_)
    | (refine awp_regds mix fun nv => ?_)
    | ((first | refine aops_nil ?_ | refine ads_nil (by rfl) ?_ | refine awp_skip ?_ | refine awp_exit ?_ | refine awp_ret ?_); try simp only [thenQ, blockQ, if_true, if_false, Nat.reduceEqDiff, eq_self, reduceCtorEq, reduceIte])
    | ((first | apply aops_one 0 | apply ads_one 0); (· exact nT33_4 hE))
    | ((first | apply aops_callw (hlf := h_probe_Probe_visit) | apply ads_callw (hlf := h_probe_Probe_visit)); (· rfl); (· exact nT33_4 hE); (· exact hvis); (· (repeat' (first | exact StLe.refl _ | exact StLe.nil _ | (refine stle_cons (by first | rfl | exact nT33_4 hE) ?_)))); (· (intro _; exact nT33_4 hE)); (iterate 2 (try (· rfl))); (intro v; simp only [put, List.set_cons_succ, List.set_cons_zero]))
    | refine awp_block ?_
    | (apply awp_condt; (· exact nT33_4 hE))
    | (apply awp_condf; (· exact nT33_4 hE))
    | (apply awp_cond; (· exact nT33_4 hE); all_goals intro hc)
    | ((first | apply aops_gsplit | apply ads_gsplit); (· rfl); (· exact nT33_4 hE); all_goals (intro hg; rw [hg])))); all_goals clear hE
        all_goals
          (apply acall_end (by first | exact .inl rfl | exact .inr rfl); (· exact nT33_1 (noX)))
          refine ⟨(v, vu), rfl, ?_⟩
          simp only [PS.st, devS_snoc, PS.cells, devV_snoc, if_true]
          exact stle_cons rfl (stle_cons rfl (StLe.nil _))
    · have hk' : (q.kind == 5) = false := by simpa using hk
      rw [if_neg hk]
      by_cases htd : td = []
      · subst htd
        (have hE := And.intro @hk' noX; repeat' (first
    | refine awp_seq ?_
    | (refine awp_reg fun nv => ?_)
    | (refine awp_regds mix fun nv => ?_)
    | ((first | refine aops_nil ?_ | refine ads_nil (by rfl) ?_ | refine awp_skip ?_ | refine awp_exit ?_ | refine awp_ret ?_); try simp only [thenQ, blockQ, if_true, if_false, Nat.reduceEqDiff, eq_self, reduceCtorEq, reduceIte])
    | ((first | apply aops_one 0 | apply ads_one 0); (· exact nT33_0 hE))
    | ((first | apply aops_callw (hlf := h_probe_Probe_visit) | apply ads_callw (hlf := h_probe_Probe_visit)); (· rfl); (· exact nT33_0 hE); (· exact hvis); (· (repeat' (first | exact StLe.refl _ | exact StLe.nil _ | (refine stle_cons (by first | rfl | exact nT33_0 hE) ?_)))); (· (intro _; exact nT33_0 hE)); (iterate 2 (try (· rfl))); (intro v; simp only [put, List.set_cons_succ, List.set_cons_zero]))
    | ((first | apply aops_callw (hlf := h_probe_Probe_ended) | apply ads_callw (hlf := h_probe_Probe_ended)); (· rfl); (· exact nT33_0 hE); (· exact (hend v)); (· (repeat' (first | exact StLe.refl _ | exact StLe.nil _ | (refine stle_cons (by first | rfl | exact nT33_0 hE) ?_)))); (· (intro _; exact nT33_0 hE)); (iterate 2 (try (· rfl))); (intro w; simp only [put, List.set_cons_succ, List.set_cons_zero]))
    | refine awp_block ?_
    | (apply awp_condt; (· exact nT33_0 hE))
    | (apply awp_condf; (· exact nT33_0 hE))
    | (apply awp_cond; (· exact nT33_0 hE); all_goals intro hc)
    | ((first | apply aops_gsplit | apply ads_gsplit); (· rfl); (· exact nT33_0 hE); all_goals (intro hg; rw [hg])))); all_goals clear hE
        all_goals
          (apply acall_end (by first | exact .inl rfl | exact .inr rfl); (· exact nT33_1 (noX)))
          exact ⟨w, rfl, by first | exact StLe.refl _ | exact stle_app _ _⟩
      · have hdV := devV_ne (7, 31) vt htd
        have hdS := devS_ne (7, 31) vt htd
        rw [hdS] at hvis
        (have hE := And.intro @hk' (And.intro @hdV (And.intro @hdS noX)); repeat' (first
    | refine awp_seq ?_
    | (refine awp_reg fun nv => ?_)
    | (refine awp_regds mix fun nv => ?_)
    | ((first | refine aops_nil ?_ | refine ads_nil (by rfl) ?_ | refine awp_skip ?_ | refine awp_exit ?_ | refine awp_ret ?_); try simp only [thenQ, blockQ, if_true, if_false, Nat.reduceEqDiff, eq_self, reduceCtorEq, reduceIte])
    | ((first | apply aops_one 0 | apply ads_one 0); (· exact nT33_2 hE))
    | ((first | apply aops_callw (hlf := h_probe_Probe_visit) | apply ads_callw (hlf := h_probe_Probe_visit)); (· rfl); (· exact nT33_2 hE); (· exact hvis); (· (repeat' (first | exact StLe.refl _ | exact StLe.nil _ | (refine stle_cons (by first | rfl | exact nT33_2 hE) ?_)))); (· (intro _; exact nT33_2 hE)); (iterate 2 (try (· rfl))); (intro v; simp only [put, List.set_cons_succ, List.set_cons_zero]))
    | ((first | apply aops_callw (hlf := h_probe_Probe_ended) | apply ads_callw (hlf := h_probe_Probe_ended)); (· rfl); (· exact nT33_2 hE); (· exact (hend v)); (· (repeat' (first | exact StLe.refl _ | exact StLe.nil _ | (refine stle_cons (by first | rfl | exact nT33_2 hE) ?_)))); (· (intro _; exact nT33_2 hE)); (iterate 2 (try (· rfl))); (intro w; simp only [put, List.set_cons_succ, List.set_cons_zero]))
    | refine awp_block ?_
    | (apply awp_condt; (· exact nT33_2 hE))
    | (apply awp_condf; (· exact nT33_2 hE))
    | (apply awp_cond; (· exact nT33_2 hE); all_goals intro hc)
    | ((first | apply aops_gsplit | apply ads_gsplit); (· rfl); (· exact nT33_2 hE); all_goals (intro hg; rw [hg])))); all_goals clear hE
        all_goals
          (apply acall_end (by first | exact .inl rfl | exact .inr rfl); (· exact nT33_1 (noX)))
          exact ⟨w, rfl, by first | exact StLe.refl _ | exact stle_app _ _⟩
end Go.Proofs.Ytibkakodokbobaa
