import Derived.Test.YtibkakodokbobaaT39
namespace Go.Proofs.Ytibkakodokbobaa
open Go.Am
set_option maxRecDepth 100000
set_option linter.unusedSimpArgs false
set_option linter.unusedVariables false
theorem nT40_0 {E A : Prop} (e : E) (h : E → A := by (intro hE; simp only [aone, aoneT, gval, astep, aev, val, abin, abinI, abinS, aun, aeqn, aeqL, aeq1, put, upds, sset, sget, aload, astore, aobj, acut, cells_b, one_b, cells_i, one_i, cells_s, one_s, cells_nilp, one_nilp, cells_ref, one_ref, cells_ptr, one_ptr, cells_esl, one_esl, cells_sl, one_sl, cells_row, one_row, cells_fn, one_fn, cells_nilf, one_nilf, cells_nilm, one_nilm, cells_mp, one_mp, cells_mpr, one_mpr, cells_ag, anilck, afieldAddr, aindex, aindexAddr, alen, afill, afillR, aminmax, aminmax.aminmaxI, isNeq, sdl, kin, acall, ares, ares1, arows, aappend, aslice, asliceS, asliceR, aslice0, abnd, List.set_cons_succ, List.set_cons_zero, List.getD_cons_succ, List.getD_cons_zero, List.getElem?_cons_succ, List.getElem?_cons_zero, List.map_cons, List.map_nil, List.cons_append, List.nil_append, List.append_nil, List.length_cons, List.length_nil, List.take_succ_cons, List.take_zero, List.drop_succ_cons, List.drop_zero, List.all_cons, List.all_nil, List.replicate, Nat.reduceAdd, Nat.reduceSub, Nat.reduceMul, Nat.reduceLT, Nat.reduceLeDiff, Nat.reduceEqDiff, Nat.zero_add, Nat.add_zero, Nat.zero_mul, Option.map_some, Option.map_none, Option.bind_some, Option.bind_eq_bind, Option.getD_some, Option.getD_none, Option.isSome_some, Option.isSome_none, Option.toList, if_true, if_false, and_self, and_true, true_and, and_false, false_and, Prod.mk.injEq, Bool.false_eq_true, Bool.true_eq_false, beq_self_eq_true, Bool.not_true, Bool.not_false, Bool.and_self, Bool.and_true, Bool.true_and, decide_true, decide_false, beq_true, beq_false, Bool.not_not, reduceCtorEq, Nat.le_refl, Int.reduceNeg, reduceIte, Nat.reduceBEq, Int.reduceBEq, Int.reduceLT, Int.reduceLE, Int.reduceToNat, decide_eq_true_eq, not_false_eq_true, not_true_eq_false, ne_eq, Query.row, devV_cells, devV_one, eLinks_cells, eLinks_one, ePorts_cells, ePorts_one, eRanges_cells, eRanges_one, eRules_cells, eRules_one, nxV_cells, nxV_one, verV, hE] <;> rfl)) : A := h e
theorem nT40_1 {E A : Prop} (e : E) (h : E → A := by (intro hE; simp only [aone, aoneT, gval, astep, aev, val, abin, abinI, abinS, aun, aeqn, aeqL, aeq1, put, upds, sset, sget, aload, astore, aobj, acut, cells_b, one_b, cells_i, one_i, cells_s, one_s, cells_nilp, one_nilp, cells_ref, one_ref, cells_ptr, one_ptr, cells_esl, one_esl, cells_sl, one_sl, cells_row, one_row, cells_fn, one_fn, cells_nilf, one_nilf, cells_nilm, one_nilm, cells_mp, one_mp, cells_mpr, one_mpr, cells_ag, anilck, afieldAddr, aindex, aindexAddr, alen, afill, afillR, aminmax, aminmax.aminmaxI, isNeq, sdl, kin, acall, ares, ares1, arows, aappend, aslice, asliceS, asliceR, aslice0, abnd, List.set_cons_succ, List.set_cons_zero, List.getD_cons_succ, List.getD_cons_zero, List.getElem?_cons_succ, List.getElem?_cons_zero, List.map_cons, List.map_nil, List.cons_append, List.nil_append, List.append_nil, List.length_cons, List.length_nil, List.take_succ_cons, List.take_zero, List.drop_succ_cons, List.drop_zero, List.all_cons, List.all_nil, List.replicate, Nat.reduceAdd, Nat.reduceSub, Nat.reduceMul, Nat.reduceLT, Nat.reduceLeDiff, Nat.reduceEqDiff, Nat.zero_add, Nat.add_zero, Nat.zero_mul, Option.map_some, Option.map_none, Option.bind_some, Option.bind_eq_bind, Option.getD_some, Option.getD_none, Option.isSome_some, Option.isSome_none, Option.toList, if_true, if_false, and_self, and_true, true_and, and_false, false_and, Prod.mk.injEq, Bool.false_eq_true, Bool.true_eq_false, beq_self_eq_true, Bool.not_true, Bool.not_false, Bool.and_self, Bool.and_true, Bool.true_and, decide_true, decide_false, beq_true, beq_false, Bool.not_not, reduceCtorEq, Nat.le_refl, Int.reduceNeg, reduceIte, Nat.reduceBEq, Int.reduceBEq, Int.reduceLT, Int.reduceLE, Int.reduceToNat, decide_eq_true_eq, not_false_eq_true, not_true_eq_false, ne_eq, devV_cells, devV_one, eLinks_cells, eLinks_one, ePorts_cells, ePorts_one, eRanges_cells, eRanges_one, eRules_cells, eRules_one, nxV_cells, nxV_one, hE] <;> rfl)) : A := h e
theorem pT40_ {A : Prop} (h : A := by (simp only [List.forall_mem_cons, List.forall_mem_nil, List.not_mem_nil, false_imp_iff, implies_true, List.forall_mem_map, pure_b, pure_i, pure_s, pure_nilp, pure_nilf, pure_esl, pure_ref, pure_sl, pure_ag, pure_tu, pure_fn, and_self, and_true, true_and, eRules_pure, ePorts_pure, eLinks_pure, eRanges_pure]; done)) : A := h
/-! ### l13: alive, ProbeNil -/
theorem net9_ok : net9.okR := by
  intro r hr
  simp only [net9, List.mem_cons, List.not_mem_nil, or_false] at hr
  rcases hr with rfl | rfl | rfl | rfl | rfl <;> exact ⟨by decide, by decide, by decide⟩
theorem c_VerdictD (s : PS) (hd : s.done = true) (hv : s.vt.devs.length < 1000000) (vp vt vu : Nat) :
    ACall Try.prog n_probe_Probe_Verdict [.ptr (9, 25) vp 0 0] (((9, 25), ⟨vp, .rows 34 [s.cells vp vt vu vt]⟩) :: devS (7, 31) vt s.vt.devs)
      fun r τ => ∃ _ : Unit, r = .tu [s.ver, .b true] ∧ τ = (((9, 25), ⟨vp, .rows 34 [s.cells vp vt vu vt]⟩) :: devS (7, 31) vt s.vt.devs) :=
  (c_Verdict s hd hv vp vt vu).weak fun r σ' ⟨w, h1, h2⟩ => ⟨_, h2, w, h1, rfl⟩
def mid13 : PS := (goS 2 s13).1
def end13 : PS := (goS 100 mid13).1
def PS.at (s : PS) (vp vt vu : Nat) : AO := ⟨vp, .rows 34 [s.cells vp vt vu vt]⟩
def PS.more (s : PS) (vt vu : Nat) : Store := devS (7, 31) vt s.t.devs ++ devS (8, 31) vu s.u.devs
theorem st_eq (s : PS) (vp vt vu : Nat) : s.st vp vt vu = ((9, 25), s.at vp vt vu) :: s.more vt vu := rfl
def d2 (v : Nat) : AO := ⟨v, .rows 1 [[.i .i64 0], [.i .i64 1]]⟩
def d3 (v : Nat) : AO := ⟨v, .rows 1 [[.i .i64 0], [.i .i64 1], [.i .i64 2]]⟩
theorem s13_st (v vt vu : Nat) : s13.st v vt vu = [((9, 25), s13.at v vt vu)] := rfl
theorem mid13_devs : mid13.t.devs = [0, 1] ∧ mid13.u.devs = [] := by decide +kernel
theorem end13_devs : end13.t.devs = [0, 1, 2] ∧ end13.u.devs = [] ∧ end13.vt.devs = [0, 1, 2] := by decide +kernel
theorem mid13_st (v vt vu : Nat) : mid13.st v vt vu = [((9, 25), mid13.at v vt vu), ((7, 31), d2 vt)] := by
  rw [st_eq]; unfold PS.more; rw [mid13_devs.1, mid13_devs.2]; rfl
theorem end13_st (v vt vu : Nat) : end13.st v vt vu = [((9, 25), end13.at v vt vu), ((7, 31), d3 vt)] := by
  rw [st_eq]; unfold PS.more; rw [end13_devs.1, end13_devs.2.1]; rfl
set_option maxHeartbeats 4000000 in
theorem p_alive : APure Try.prog n_l13_alive [] (.b true) := by
  have hl := live13
  simp only [Bool.and_eq_true, beq_iff_eq, Bool.not_eq_true'] at hl
  obtain ⟨⟨⟨⟨⟨⟨⟨⟨h1, h2⟩, h3⟩, h4⟩, h5⟩, h6⟩, h7⟩, h8⟩, h9⟩ := hl
  have hsm : net9.small := ⟨by decide, by decide, by decide⟩
  have hnew : ACall Try.prog n_probe_New [.ag [ePorts net9.ports, eLinks net9.links, eRules net9.rules], .ag [ePorts net9.ports, eLinks net9.links, eRules net9.rules], .ag q13.row] []
      fun r τ => ∃ w : Nat, r = .tu [.ptr (9, 25) w 0 0, .i .i64 0] ∧ τ = [((9, 25), s13.at w 0 0)] :=
    c_New net9 net9 hsm hsm (by decide) (by decide) net9_ok net9_ok q13 (by decide) (by decide) h1
  have hs1 : ∀ v, ACall Try.prog n_probe_Probe_Step [.ptr (9, 25) v 0 0, .i .i64 2] [((9, 25), s13.at v 0 0)]
      fun r τ => ∃ w : Nat × Nat, r = .tu [.i .i64 2, .i .i64 0] ∧ τ = [((9, 25), mid13.at v w.1 w.2), ((7, 31), d2 w.1)] := fun v => by
    have h := c_Step 2 (by decide) (by decide) s13 rfl (runOk_of h2) v 0 0
    rw [h4, s13_st] at h
    refine h.weak fun r σ' ⟨w, g1, g2⟩ => ⟨_, StLe.refl _, w, g1, ?_⟩
    rw [g2]; exact mid13_st v w.1 w.2
  have hs2 : ∀ v vt vu, ACall Try.prog n_probe_Probe_Step [.ptr (9, 25) v 0 0, .i .i64 100] [((9, 25), mid13.at v vt vu), ((7, 31), d2 vt)]
      fun r τ => ∃ w : Nat × Nat, r = .tu [.i .i64 4, .i .i64 0] ∧ τ = [((9, 25), end13.at v w.1 w.2), ((7, 31), d3 w.1)] := fun v vt vu => by
    have h := c_Step 100 (by decide) (by decide) mid13 h5 (runOk_of h3) v vt vu
    rw [show (goS 100 mid13).2 = 4 from h6, mid13_st] at h
    refine h.weak fun r σ' ⟨w, g1, g2⟩ => ⟨_, StLe.refl _, w, g1, ?_⟩
    rw [g2]; exact end13_st v w.1 w.2
  have hv : ∀ v vt vu, ACall Try.prog n_probe_Probe_Verdict [.ptr (9, 25) v 0 0] [((9, 25), end13.at v vt vu), ((7, 31), d3 vt)]
      fun r τ => ∃ _ : Unit, r = .tu [verV false end13.vfrom 20 end13.vt.devs end13.vt.fate end13.vt.out.1 end13.vt.out.2, .b true] ∧ τ = [((9, 25), end13.at v vt vu), ((7, 31), d3 vt)] := fun v vt vu => by
    have h := c_VerdictD end13 h7 (by rw [end13_devs.2.2]; decide) v vt vu
    have e : devS (7, 31) vt end13.vt.devs = [((7, 31), d3 vt)] := by rw [end13_devs.2.2]; rfl
    rw [e] at h
    refine h.weak fun r σ' ⟨w, g1, g2⟩ => ⟨_, StLe.refl _, w, ?_, g2⟩
    rw [g1]; unfold PS.ver
    rw [show end13.holds = false from h8, show end13.vaddr = 20 from h9]
  have hd : ∀ v vt vu, ACall Try.prog n_probe_Probe_Done [.ptr (9, 25) v 0 0] [((9, 25), end13.at v vt vu)]
      fun r τ => ∃ _ : Unit, r = .b true ∧ τ = [((9, 25), end13.at v vt vu)] := fun v vt vu => by
    have h := c_Done end13 v vt vu
    rw [show end13.done = true from h7] at h
    exact h
  have hn := p_Net
  refine apure_of h_l13_alive ?_; simp only [c_l13_alive, List.length_cons, List.length_nil, List.cons_append, List.nil_append, Nat.reduceAdd, Nat.reduceSub, List.reduceReplicate]
  (have hE := noX; repeat' (first
    | refine awp_seq ?_
    | (refine awp_reg fun nv => ?_)
    | ((first | refine aops_nil ?_ | refine awp_skip ?_ | refine awp_exit ?_ | refine awp_ret ?_); try simp only [thenQ, blockQ, if_true, if_false, Nat.reduceEqDiff, eq_self, reduceCtorEq, reduceIte])
    | (apply aops_one 0; (· exact nT40_0 hE))
    | (apply aops_calln [] (hlf := h_l09_Net); (· rfl); (· exact nT40_0 hE); (· exact fzl_nil); (· exact hn); (· exact nput))
    | (apply aops_callw (hlf := h_probe_New); (· rfl); (· exact nT40_0 hE); (· exact hnew); (· (repeat' (first | exact StLe.refl _ | exact StLe.nil _ | (refine stle_cons (by first | rfl | exact nT40_0 hE) ?_)))); (· (intro _; exact nT40_0 hE)); (intro v; simp only [put, List.set_cons_succ, List.set_cons_zero]))
    | (apply aops_callw (hlf := h_probe_Probe_Step); (· rfl); (· exact nT40_0 hE); (· exact (hs1 v)); (· (repeat' (first | exact StLe.refl _ | exact StLe.nil _ | (refine stle_cons (by first | rfl | exact nT40_0 hE) ?_)))); (· (intro _; exact nT40_0 hE)); (intro w; simp only [put, List.set_cons_succ, List.set_cons_zero]))
    | (apply aops_callw (hlf := h_probe_Probe_Step); (· rfl); (· exact nT40_0 hE); (· exact (hs2 v w.1 w.2)); (· (repeat' (first | exact StLe.refl _ | exact StLe.nil _ | (refine stle_cons (by first | rfl | exact nT40_0 hE) ?_)))); (· (intro _; exact nT40_0 hE)); (intro x; simp only [put, List.set_cons_succ, List.set_cons_zero]))
    | (apply aops_callw (hlf := h_probe_Probe_Verdict); (· rfl); (· exact nT40_0 hE); (· exact (hv v x.1 x.2)); (· (repeat' (first | exact StLe.refl _ | exact StLe.nil _ | (refine stle_cons (by first | rfl | exact nT40_0 hE) ?_)))); (· (intro _; exact nT40_0 hE)); (intro y; simp only [put, List.set_cons_succ, List.set_cons_zero]))
    | (apply aops_callw (hlf := h_probe_Probe_Done); (· rfl); (· exact nT40_0 hE); (· exact (hd v x.1 x.2)); (· (repeat' (first | exact StLe.refl _ | exact StLe.nil _ | (refine stle_cons (by first | rfl | exact nT40_0 hE) ?_)))); (· (intro _; exact nT40_0 hE)); (intro z; simp only [put, List.set_cons_succ, List.set_cons_zero]))
    | refine awp_block ?_
    | (apply awp_condt; (· exact nT40_0 hE))
    | (apply awp_condf; (· exact nT40_0 hE))
    | (apply awp_cond; (· exact nT40_0 hE); all_goals intro hc)
    | (apply aops_gsplit; (· rfl); (· exact nT40_0 hE); all_goals (intro hg; rw [hg])))); all_goals clear hE
  all_goals
    (apply awp_end [] (by first | exact .inl rfl | exact .inr rfl); (· exact nT40_1 (noX)))
    exact fz_res rfl (.b _)
end Go.Proofs.Ytibkakodokbobaa
