import Derived.Test.YtibkakodokbobaaT35
namespace Go.Proofs.Ytibkakodokbobaa
open Go.Am
set_option maxRecDepth 100000
set_option linter.unusedSimpArgs false
set_option linter.unusedVariables false
theorem nT36_0 {E A : Prop} (e : E) (h : E → A := by (intro hE; simp only [aone, aoneT, gval, astep, aev, val, abin, abinI, abinS, aun, aeqn, aeqL, aeq1, put, upds, sset, sget, aload, astore, aobj, acut, cells_b, one_b, cells_i, one_i, cells_s, one_s, cells_nilp, one_nilp, cells_ref, one_ref, cells_ptr, one_ptr, cells_esl, one_esl, cells_sl, one_sl, cells_row, one_row, cells_fn, one_fn, cells_nilf, one_nilf, cells_nilm, one_nilm, cells_mp, one_mp, cells_mpr, one_mpr, cells_ag, anilck, afieldAddr, aindex, aindexAddr, alen, afill, afillR, aminmax, aminmax.aminmaxI, isNeq, sdl, kin, acall, ares, ares1, arows, aappend, aslice, asliceS, asliceR, aslice0, abnd, List.set_cons_succ, List.set_cons_zero, List.getD_cons_succ, List.getD_cons_zero, List.getElem?_cons_succ, List.getElem?_cons_zero, List.map_cons, List.map_nil, List.cons_append, List.nil_append, List.append_nil, List.length_cons, List.length_nil, List.take_succ_cons, List.take_zero, List.drop_succ_cons, List.drop_zero, List.all_cons, List.all_nil, List.replicate, Nat.reduceAdd, Nat.reduceSub, Nat.reduceMul, Nat.reduceLT, Nat.reduceLeDiff, Nat.reduceEqDiff, Nat.zero_add, Nat.add_zero, Nat.zero_mul, Option.map_some, Option.map_none, Option.bind_some, Option.bind_eq_bind, Option.getD_some, Option.getD_none, Option.isSome_some, Option.isSome_none, Option.toList, if_true, if_false, and_self, and_true, true_and, and_false, false_and, Prod.mk.injEq, Bool.false_eq_true, Bool.true_eq_false, beq_self_eq_true, Bool.not_true, Bool.not_false, Bool.and_self, Bool.and_true, Bool.true_and, decide_true, decide_false, beq_true, beq_false, Bool.not_not, reduceCtorEq, Nat.le_refl, Int.reduceNeg, reduceIte, Nat.reduceBEq, Int.reduceBEq, Int.reduceLT, Int.reduceLE, Int.reduceToNat, decide_eq_true_eq, not_false_eq_true, not_true_eq_false, ne_eq, Query.row, devV_cells, devV_one, eLinks_cells, eLinks_one, ePorts_cells, ePorts_one, eRanges_cells, eRanges_one, eRules_cells, eRules_one, nxV, nxV_cells, nxV_one, hE] <;> rfl)) : A := h e
theorem nT36_1 {E A : Prop} (e : E) (h : E → A := by (intro hE; simp only [aone, aoneT, gval, astep, aev, val, abin, abinI, abinS, aun, aeqn, aeqL, aeq1, put, upds, sset, sget, aload, astore, aobj, acut, cells_b, one_b, cells_i, one_i, cells_s, one_s, cells_nilp, one_nilp, cells_ref, one_ref, cells_ptr, one_ptr, cells_esl, one_esl, cells_sl, one_sl, cells_row, one_row, cells_fn, one_fn, cells_nilf, one_nilf, cells_nilm, one_nilm, cells_mp, one_mp, cells_mpr, one_mpr, cells_ag, anilck, afieldAddr, aindex, aindexAddr, alen, afill, afillR, aminmax, aminmax.aminmaxI, isNeq, sdl, kin, acall, ares, ares1, arows, aappend, aslice, asliceS, asliceR, aslice0, abnd, List.set_cons_succ, List.set_cons_zero, List.getD_cons_succ, List.getD_cons_zero, List.getElem?_cons_succ, List.getElem?_cons_zero, List.map_cons, List.map_nil, List.cons_append, List.nil_append, List.append_nil, List.length_cons, List.length_nil, List.take_succ_cons, List.take_zero, List.drop_succ_cons, List.drop_zero, List.all_cons, List.all_nil, List.replicate, Nat.reduceAdd, Nat.reduceSub, Nat.reduceMul, Nat.reduceLT, Nat.reduceLeDiff, Nat.reduceEqDiff, Nat.zero_add, Nat.add_zero, Nat.zero_mul, Option.map_some, Option.map_none, Option.bind_some, Option.bind_eq_bind, Option.getD_some, Option.getD_none, Option.isSome_some, Option.isSome_none, Option.toList, if_true, if_false, and_self, and_true, true_and, and_false, false_and, Prod.mk.injEq, Bool.false_eq_true, Bool.true_eq_false, beq_self_eq_true, Bool.not_true, Bool.not_false, Bool.and_self, Bool.and_true, Bool.true_and, decide_true, decide_false, beq_true, beq_false, Bool.not_not, reduceCtorEq, Nat.le_refl, Int.reduceNeg, reduceIte, Nat.reduceBEq, Int.reduceBEq, Int.reduceLT, Int.reduceLE, Int.reduceToNat, decide_eq_true_eq, not_false_eq_true, not_true_eq_false, ne_eq, devV_cells, devV_one, eLinks_cells, eLinks_one, ePorts_cells, ePorts_one, eRanges_cells, eRanges_one, eRules_cells, eRules_one, nxV_cells, nxV_one, hE] <;> rfl)) : A := h e
theorem nT36_2 {E A : Prop} (e : E) (h : E → A := by (intro hE; simp only [aone, aoneT, gval, astep, aev, val, abin, abinI, abinS, aun, aeqn, aeqL, aeq1, put, upds, sset, sget, aload, astore, aobj, acut, cells_b, one_b, cells_i, one_i, cells_s, one_s, cells_nilp, one_nilp, cells_ref, one_ref, cells_ptr, one_ptr, cells_esl, one_esl, cells_sl, one_sl, cells_row, one_row, cells_fn, one_fn, cells_nilf, one_nilf, cells_nilm, one_nilm, cells_mp, one_mp, cells_mpr, one_mpr, cells_ag, anilck, afieldAddr, aindex, aindexAddr, alen, afill, afillR, aminmax, aminmax.aminmaxI, isNeq, sdl, kin, acall, ares, ares1, arows, aappend, aslice, asliceS, asliceR, aslice0, abnd, List.set_cons_succ, List.set_cons_zero, List.getD_cons_succ, List.getD_cons_zero, List.getElem?_cons_succ, List.getElem?_cons_zero, List.map_cons, List.map_nil, List.cons_append, List.nil_append, List.append_nil, List.length_cons, List.length_nil, List.take_succ_cons, List.take_zero, List.drop_succ_cons, List.drop_zero, List.all_cons, List.all_nil, List.replicate, Nat.reduceAdd, Nat.reduceSub, Nat.reduceMul, Nat.reduceLT, Nat.reduceLeDiff, Nat.reduceEqDiff, Nat.zero_add, Nat.add_zero, Nat.zero_mul, Option.map_some, Option.map_none, Option.bind_some, Option.bind_eq_bind, Option.getD_some, Option.getD_none, Option.isSome_some, Option.isSome_none, Option.toList, if_true, if_false, and_self, and_true, true_and, and_false, false_and, Prod.mk.injEq, Bool.false_eq_true, Bool.true_eq_false, beq_self_eq_true, Bool.not_true, Bool.not_false, Bool.and_self, Bool.and_true, Bool.true_and, decide_true, decide_false, beq_true, beq_false, Bool.not_not, reduceCtorEq, Nat.le_refl, Int.reduceNeg, reduceIte, Nat.reduceBEq, Int.reduceBEq, Int.reduceLT, Int.reduceLE, Int.reduceToNat, decide_eq_true_eq, not_false_eq_true, not_true_eq_false, ne_eq, PS.cells, PS.st, devV_cells, devV_one, eLinks_cells, eLinks_one, ePorts_cells, ePorts_one, eRanges_cells, eRanges_one, eRules_cells, eRules_one, nxV_cells, nxV_one, hE] <;> rfl)) : A := h e
theorem nT36_3 {E A : Prop} (e : E) (h : E → A := by (intro hE; simp only [aone, aoneT, gval, astep, aev, val, abin, abinI, abinS, aun, aeqn, aeqL, aeq1, put, upds, sset, sget, aload, astore, aobj, acut, cells_b, one_b, cells_i, one_i, cells_s, one_s, cells_nilp, one_nilp, cells_ref, one_ref, cells_ptr, one_ptr, cells_esl, one_esl, cells_sl, one_sl, cells_row, one_row, cells_fn, one_fn, cells_nilf, one_nilf, cells_nilm, one_nilm, cells_mp, one_mp, cells_mpr, one_mpr, cells_ag, anilck, afieldAddr, aindex, aindexAddr, alen, afill, afillR, aminmax, aminmax.aminmaxI, isNeq, sdl, kin, acall, ares, ares1, arows, aappend, aslice, asliceS, asliceR, aslice0, abnd, List.set_cons_succ, List.set_cons_zero, List.getD_cons_succ, List.getD_cons_zero, List.getElem?_cons_succ, List.getElem?_cons_zero, List.map_cons, List.map_nil, List.cons_append, List.nil_append, List.append_nil, List.length_cons, List.length_nil, List.take_succ_cons, List.take_zero, List.drop_succ_cons, List.drop_zero, List.all_cons, List.all_nil, List.replicate, Nat.reduceAdd, Nat.reduceSub, Nat.reduceMul, Nat.reduceLT, Nat.reduceLeDiff, Nat.reduceEqDiff, Nat.zero_add, Nat.add_zero, Nat.zero_mul, Option.map_some, Option.map_none, Option.bind_some, Option.bind_eq_bind, Option.getD_some, Option.getD_none, Option.isSome_some, Option.isSome_none, Option.toList, if_true, if_false, and_self, and_true, true_and, and_false, false_and, Prod.mk.injEq, Bool.false_eq_true, Bool.true_eq_false, beq_self_eq_true, Bool.not_true, Bool.not_false, Bool.and_self, Bool.and_true, Bool.true_and, decide_true, decide_false, beq_true, beq_false, Bool.not_not, reduceCtorEq, Nat.le_refl, Int.reduceNeg, reduceIte, Nat.reduceBEq, Int.reduceBEq, Int.reduceLT, Int.reduceLE, Int.reduceToNat, decide_eq_true_eq, not_false_eq_true, not_true_eq_false, ne_eq, PS.cells, devV_cells, devV_one, eLinks_cells, eLinks_one, ePorts_cells, ePorts_one, eRanges_cells, eRanges_one, eRules_cells, eRules_one, nxV_cells, nxV_one, hE] <;> rfl)) : A := h e
theorem nT36_4 {E A : Prop} (e : E) (h : E → A := by (intro hE; simp only [aone, aoneT, gval, astep, aev, val, abin, abinI, abinS, aun, aeqn, aeqL, aeq1, put, upds, sset, sget, aload, astore, aobj, acut, cells_b, one_b, cells_i, one_i, cells_s, one_s, cells_nilp, one_nilp, cells_ref, one_ref, cells_ptr, one_ptr, cells_esl, one_esl, cells_sl, one_sl, cells_row, one_row, cells_fn, one_fn, cells_nilf, one_nilf, cells_nilm, one_nilm, cells_mp, one_mp, cells_mpr, one_mpr, cells_ag, anilck, afieldAddr, aindex, aindexAddr, alen, afill, afillR, aminmax, aminmax.aminmaxI, isNeq, sdl, kin, acall, ares, ares1, arows, aappend, aslice, asliceS, asliceR, aslice0, abnd, List.set_cons_succ, List.set_cons_zero, List.getD_cons_succ, List.getD_cons_zero, List.getElem?_cons_succ, List.getElem?_cons_zero, List.map_cons, List.map_nil, List.cons_append, List.nil_append, List.append_nil, List.length_cons, List.length_nil, List.take_succ_cons, List.take_zero, List.drop_succ_cons, List.drop_zero, List.all_cons, List.all_nil, List.replicate, Nat.reduceAdd, Nat.reduceSub, Nat.reduceMul, Nat.reduceLT, Nat.reduceLeDiff, Nat.reduceEqDiff, Nat.zero_add, Nat.add_zero, Nat.zero_mul, Option.map_some, Option.map_none, Option.bind_some, Option.bind_eq_bind, Option.getD_some, Option.getD_none, Option.isSome_some, Option.isSome_none, Option.toList, if_true, if_false, and_self, and_true, true_and, and_false, false_and, Prod.mk.injEq, Bool.false_eq_true, Bool.true_eq_false, beq_self_eq_true, Bool.not_true, Bool.not_false, Bool.and_self, Bool.and_true, Bool.true_and, decide_true, decide_false, beq_true, beq_false, Bool.not_not, reduceCtorEq, Nat.le_refl, Int.reduceNeg, reduceIte, Nat.reduceBEq, Int.reduceBEq, Int.reduceLT, Int.reduceLE, Int.reduceToNat, decide_eq_true_eq, not_false_eq_true, not_true_eq_false, ne_eq, PS.cells, PS.st, devV_cells, devV_one, eLinks_cells, eLinks_one, ePorts_cells, ePorts_one, eRanges_cells, eRanges_one, eRules_cells, eRules_one, nxV, nxV_cells, nxV_one, hE] <;> rfl)) : A := h e
theorem pT36_ {A : Prop} (h : A := by (simp only [List.forall_mem_cons, List.forall_mem_nil, List.not_mem_nil, false_imp_iff, implies_true, List.forall_mem_map, pure_b, pure_i, pure_s, pure_nilp, pure_nilf, pure_esl, pure_ref, pure_sl, pure_ag, pure_tu, pure_fn, and_self, and_true, true_and, eRules_pure, ePorts_pure, eLinks_pure, eRanges_pure]; done)) : A := h
/-! ### probe.Step, Done, Verdict -/
theorem c_first (s : PS) (hg : Good s) (ht1 : s.t.devs.length + 1 < 1000000) (hu0 : s.u.devs = []) (vp vt vu : Nat) :
    ACall Try.prog n_probe_Probe_first [.ptr (9, 25) vp 0 0] (s.st vp vt vu)
      fun r τ => ∃ w : Nat × Nat, r = .tu [] ∧ τ = (firstF s).st vp w.1 w.2 :=
  (c_first' s hg ht1 hu0 vp vt vu).weak fun r σ' ⟨w, h1, h2⟩ => ⟨_, h2, w, h1, rfl⟩
theorem c_second (s : PS) (hg : Good s) (hu1 : s.u.devs.length + 1 < 1000000) (vp vt vu : Nat) :
    ACall Try.prog n_probe_Probe_second [.ptr (9, 25) vp 0 0] (s.st vp vt vu)
      fun r τ => ∃ w : Nat × Nat, r = .tu [] ∧ τ = (secondF s).st vp w.1 w.2 :=
  (c_second' s hg hu1 vp vt vu).weak fun r σ' ⟨w, h1, h2⟩ => ⟨_, h2, w, h1, rfl⟩
theorem c_New (n o : Net) (hns : n.small) (hos : o.small) (hn : n.rules.length ≤ 200) (ho : o.rules.length ≤ 200) (hon : n.okR) (hoo : o.okR) (q : Query) (hf : 0 ≤ q.f) (ht : q.t < 4294967296) (ha : askedS n o q = true) :
    ACall Try.prog n_probe_New [.ag [ePorts n.ports, eLinks n.links, eRules n.rules], .ag [ePorts o.ports, eLinks o.links, eRules o.rules], .ag q.row] []
      fun r τ => ∃ w : Nat, r = .tu [.ptr (9, 25) w 0 0, .i .i64 0] ∧ τ = (newS n o q).st w 0 0 :=
  (c_New' n o hns hos hn ho hon hoo q hf ht ha).weak fun r σ' ⟨w, h1, h2⟩ => ⟨_, h2, w, h1, rfl⟩
theorem p_NewNot (n o : Net) (hns : n.small) (hos : o.small) (q : Query) (ha : askedS n o q = false) :
    APure Try.prog n_probe_New [.ag [ePorts n.ports, eLinks n.links, eRules n.rules], .ag [ePorts o.ports, eLinks o.links, eRules o.rules], .ag q.row] (.tu [.nilp, .i .i64 121]) := by
  have hask := p_asked n o hns hos q
  rw [ha] at hask
  refine apure_of h_probe_New ?_; simp only [c_probe_New, List.length_cons, List.length_nil, List.cons_append, List.nil_append, Nat.reduceAdd, Nat.reduceSub, List.reduceReplicate]
  (have hE := noX; repeat' (first
    | refine awp_seq ?_
    | (refine awp_reg fun nv => ?_)
    | (refine awp_regd mix fun nv => ?_)
    | ((first | refine aops_nil ?_ | refine adr_nil (by rfl) ?_ | refine awp_skip ?_ | refine awp_exit ?_ | refine awp_ret ?_); try simp only [thenQ, blockQ, if_true, if_false, Nat.reduceEqDiff, eq_self, reduceCtorEq, reduceIte])
    | ((first | apply aops_one 9 | apply adr_one 9); (· exact nT36_0 hE))
    | ((first | apply aops_call (hlf := h_probe_asked) | apply adr_call (hlf := h_probe_asked)); (· rfl); (· exact nT36_0 hE); (· exact pT36_); (· exact hask); (· exact nput))
    | refine awp_block ?_
    | (apply awp_condt; (· exact nT36_0 hE))
    | (apply awp_condf; (· exact nT36_0 hE))
    | (apply awp_cond; (· exact nT36_0 hE); all_goals intro hc)
    | ((first | apply aops_gsplit | apply adr_gsplit); (· rfl); (· exact nT36_0 hE); all_goals (intro hg; rw [hg])))); all_goals clear hE
  all_goals
    (apply awp_end [] (by first | exact .inl rfl | exact .inr rfl); (· exact nT36_1 (noX)))
    exact fz_res rfl (.tu _ (by simp [pure_i, pure_nilp]))
def oneS (s : PS) : PS := match s.next with | .no => s | .first => firstF s | .second => secondF s
def goS : Nat → PS → PS × Nat
  | 0, s => (s, 0)
  | f + 1, s => if s.done = true then (s, 0) else ((goS f (oneS s)).1, (goS f (oneS s)).2 + 1)
structure GoodN (s : PS) : Prop where
  g : Good s
  t : s.t.devs.length + 1 < 1000000
  u : s.u.devs.length + 1 < 1000000
  nx : match s.next with | .no => False | .first => s.u.devs = [] | .second => True
def RunOk : Nat → PS → Prop
  | 0, _ => True
  | f + 1, s => s.done = false → GoodN s ∧ RunOk f (oneS s)
theorem goS_done {s : PS} (h : s.done = true) : ∀ f, goS f s = (s, 0)
  | 0 => rfl
  | f + 1 => by simp [goS, h]
theorem goS_succ {s : PS} (h : s.done = false) (f : Nat) : goS (f + 1) s = ((goS f (oneS s)).1, (goS f (oneS s)).2 + 1) := by simp [goS, h]
theorem sdl_self (σ : Store) : sdl σ (σ.map (·.1)) = [] := by
  rw [sdl_eq]
  unfold sdel
  rw [List.filter_eq_nil_iff]
  intro x hx h
  simp only [Bool.not_eq_true', List.contains_eq_mem, decide_eq_false_iff_not] at h
  exact h (List.mem_map.2 ⟨x, hx, rfl⟩)
set_option maxHeartbeats 4000000 in
theorem c_Step' (F : Nat) (hF : 1 ≤ F) (hF2 : F < 4611686018427387904) (s : PS) (hd : s.done = false) (hr : RunOk F s) (vp vt vu : Nat) :
    ACall Try.prog n_probe_Probe_Step [.ptr (9, 25) vp 0 0, .i .i64 F] (s.st vp vt vu)
      fun r τ => ∃ w : Nat × Nat, r = .tu [.i .i64 (goS F s).2, .i .i64 0] ∧ StLe τ ((goS F s).1.st vp w.1 w.2) := by
  have hF1 : ¬ (F : Int) < 1 := by omega
  refine acall_of h_probe_Probe_Step ?_; simp only [c_probe_Probe_Step, List.length_cons, List.length_nil, List.cons_append, List.nil_append, Nat.reduceAdd, Nat.reduceSub, List.reduceReplicate]
  (have hE := And.intro @hF1 (And.intro @hd noX); repeat' (first
    | refine awp_seq ?_
    | (refine awp_reg fun nv => ?_)
    | ((first | refine aops_nil ?_ | refine awp_skip ?_ | refine awp_exit ?_ | refine awp_ret ?_); try simp only [thenQ, blockQ, if_true, if_false, Nat.reduceEqDiff, eq_self, reduceCtorEq, reduceIte])
    | (apply aops_one 0; (· exact nT36_2 hE))
    | refine awp_block ?_
    | (apply awp_condt; (· exact nT36_2 hE))
    | (apply awp_condf; (· exact nT36_2 hE))
    | (apply awp_cond; (· exact nT36_2 hE); all_goals intro hc)
    | (apply aops_gsplit; (· rfl); (· exact nT36_2 hE); all_goals (intro hg; rw [hg])))); all_goals clear hE
  refine awp_loop (α := Nat × PS × Nat × Nat) (fun y => [.ptr (9, 25) vp 0 0, .i .i64 F, .bot, .bot, .bot, .bot, .i .i64 (y.1 : Nat), .bot, .bot, .bot, .bot, .bot, .bot, .bot, .bot, .bot, .bot, .bot, .bot, .bot, .bot, .bot, .bot, .bot, .bot, .bot, .bot, .bot, .bot, .bot, .bot, .bot, .bot, .bot, .bot, .bot, .bot]) (fun y => y.2.1.st vp y.2.2.1 y.2.2.2)
    (fun y => y.1 ≤ F ∧ RunOk (F - y.1) y.2.1 ∧ goS F s = ((goS (F - y.1) y.2.1).1, (goS (F - y.1) y.2.1).2 + y.1)) (fun y => F - y.1) (0, s, vt, vu) ⟨by omega, hr, rfl⟩ ?_ ?_ ?_
  · repeat' (first | exact FrLe.nil | apply FrLe.cons | apply FrLe.bot)
  · simp only [PS.st, PS.cells, hd]; exact StLe.refl _
  rintro ⟨j, s', vt, vu⟩ ⟨hj, hr', hgo⟩
  simp only at hj hr' hgo ⊢
  by_cases hlt : j < F
  · have hlt' : (j : Int) < (F : Int) := by omega
    have hw := wrapS hlt hF2
    cases hd' : s'.done with
    | true =>
      rw [goS_done hd'] at hgo
      (have hE := And.intro @hlt' (And.intro @hd' noX); repeat' (first
    | refine awp_seq ?_
    | (refine awp_reg fun nv => ?_)
    | ((first | refine aops_nil ?_ | refine awp_skip ?_ | refine awp_exit ?_ | refine awp_ret ?_); try simp only [thenQ, blockQ, if_true, if_false, Nat.reduceEqDiff, eq_self, reduceCtorEq, reduceIte])
    | (apply aops_one 0; (· exact nT36_2 hE))
    | refine awp_block ?_
    | (apply awp_condt; (· exact nT36_2 hE))
    | (apply awp_condf; (· exact nT36_2 hE))
    | (apply awp_cond; (· exact nT36_2 hE); all_goals intro hc)
    | (apply aops_gsplit; (· rfl); (· exact nT36_2 hE); all_goals (intro hg; rw [hg])))); all_goals clear hE
      all_goals
        (apply acall_end (by first | exact .inl rfl | exact .inr rfl); (· exact nT36_1 (noX)))
        rw [hgo]
        refine ⟨(vt, vu), by simp [tup], by simp only [PS.st, PS.cells, hd']; exact StLe.refl _⟩
    | false =>
      obtain ⟨k, hk⟩ : ∃ k, F - j = k + 1 := ⟨F - j - 1, by omega⟩
      rw [hk] at hr' hgo
      obtain ⟨hgn, hro⟩ := hr' hd'
      rw [goS_succ hd'] at hgo
      have hk' : F - (j + 1) = k := by omega
      cases hnx : s'.next with
      | no => exact absurd hgn.nx (by simp [hnx])
      | first =>
        have hone : oneS s' = firstF s' := by unfold oneS; rw [hnx]
        have hc1 := c_first s' hgn.g hgn.t (by have := hgn.nx; rw [hnx] at this; exact this) vp vt vu
        rw [hone] at hgo hro
        obtain ⟨T, hT⟩ : ∃ T : Nat × Nat → Store, ∀ w, T w = (firstF s').st vp w.1 w.2 := ⟨_, fun _ => rfl⟩
        simp only [← hT] at hc1
        simp only [PS.st, PS.cells, hd', hnx, nxV] at hc1
        (have hE := And.intro @hlt' (And.intro @hw (And.intro @hd' (And.intro @hnx noX))); repeat' (first
    | refine awp_seq ?_
    | (refine awp_reg fun nv => ?_)
    | ((first | refine aops_nil ?_ | refine awp_skip ?_ | refine awp_exit ?_ | refine awp_ret ?_); try simp only [thenQ, blockQ, if_true, if_false, Nat.reduceEqDiff, eq_self, reduceCtorEq, reduceIte])
    | (apply aops_one 0; (· exact nT36_4 hE))
    | ((apply aops_callw (hlf := h_probe_Probe_first); (· rfl); (· (simp only [aone, aoneT, gval, astep, aev, val, abin, abinI, abinS, aun, aeqn, aeqL, aeq1, put, upds, sset, sget, aload, astore, aobj, acut, cells_b, one_b, cells_i, one_i, cells_s, one_s, cells_nilp, one_nilp, cells_ref, one_ref, cells_ptr, one_ptr, cells_esl, one_esl, cells_sl, one_sl, cells_row, one_row, cells_fn, one_fn, cells_nilf, one_nilf, cells_nilm, one_nilm, cells_mp, one_mp, cells_mpr, one_mpr, cells_ag, anilck, afieldAddr, aindex, aindexAddr, alen, afill, afillR, aminmax, aminmax.aminmaxI, isNeq, sdl, kin, acall, ares, ares1, arows, aappend, aslice, asliceS, asliceR, aslice0, abnd, List.set_cons_succ, List.set_cons_zero, List.getD_cons_succ, List.getD_cons_zero, List.getElem?_cons_succ, List.getElem?_cons_zero, List.map_cons, List.map_nil, List.cons_append, List.nil_append, List.append_nil, List.length_cons, List.length_nil, List.take_succ_cons, List.take_zero, List.drop_succ_cons, List.drop_zero, List.all_cons, List.all_nil, List.replicate, Nat.reduceAdd, Nat.reduceSub, Nat.reduceMul, Nat.reduceLT, Nat.reduceLeDiff, Nat.reduceEqDiff, Nat.zero_add, Nat.add_zero, Nat.zero_mul, Option.map_some, Option.map_none, Option.bind_some, Option.bind_eq_bind, Option.getD_some, Option.getD_none, Option.isSome_some, Option.isSome_none, Option.toList, if_true, if_false, and_self, and_true, true_and, and_false, false_and, Prod.mk.injEq, Bool.false_eq_true, Bool.true_eq_false, beq_self_eq_true, Bool.not_true, Bool.not_false, Bool.and_self, Bool.and_true, Bool.true_and, decide_true, decide_false, beq_true, beq_false, Bool.not_not, reduceCtorEq, Nat.le_refl, Int.reduceNeg, reduceIte, Nat.reduceBEq, Int.reduceBEq, Int.reduceLT, Int.reduceLE, Int.reduceToNat, decide_eq_true_eq, not_false_eq_true, not_true_eq_false, ne_eq, eRules_cells, ePorts_cells, eLinks_cells, eRules_one, ePorts_one, eLinks_one, eRanges_cells, eRanges_one, devV_cells, devV_one, nxV_cells, nxV_one] <;> rfl)); (· exact hc1); (· exact StLe.refl _); (· (intro _; rw [sdl_self, List.append_nil])); (intro w; simp only [put, List.set_cons_succ, List.set_cons_zero])))
    | refine awp_block ?_
    | (apply awp_condt; (· exact nT36_4 hE))
    | (apply awp_condf; (· exact nT36_4 hE))
    | (apply awp_cond; (· exact nT36_4 hE); all_goals intro hc)
    | (apply aops_gsplit; (· rfl); (· exact nT36_4 hE); all_goals (intro hg; rw [hg])))); all_goals clear hE
        all_goals
          refine ⟨(j + 1, firstF s', w.1, w.2), ⟨hlt, by simp only [hk']; exact hro, ?_⟩, by simp only; omega, by repeat' (first | exact FrLe.nil | apply FrLe.cons | apply FrLe.bot), ?_⟩
          · simp only [hk']
            rw [hgo]
            simp only [Prod.mk.injEq, true_and]
            omega
          · rw [hT]; exact StLe.refl _
      | second =>
        have hone : oneS s' = secondF s' := by unfold oneS; rw [hnx]
        have hc1 := c_second s' hgn.g hgn.u vp vt vu
        rw [hone] at hgo hro
        obtain ⟨T, hT⟩ : ∃ T : Nat × Nat → Store, ∀ w, T w = (secondF s').st vp w.1 w.2 := ⟨_, fun _ => rfl⟩
        simp only [← hT] at hc1
        simp only [PS.st, PS.cells, hd', hnx, nxV] at hc1
        (have hE := And.intro @hlt' (And.intro @hw (And.intro @hd' (And.intro @hnx noX))); repeat' (first
    | refine awp_seq ?_
    | (refine awp_reg fun nv => ?_)
    | ((first | refine aops_nil ?_ | refine awp_skip ?_ | refine awp_exit ?_ | refine awp_ret ?_); try simp only [thenQ, blockQ, if_true, if_false, Nat.reduceEqDiff, eq_self, reduceCtorEq, reduceIte])
    | (apply aops_one 0; (· exact nT36_4 hE))
    | ((apply aops_callw (hlf := h_probe_Probe_second); (· rfl); (· (simp only [aone, aoneT, gval, astep, aev, val, abin, abinI, abinS, aun, aeqn, aeqL, aeq1, put, upds, sset, sget, aload, astore, aobj, acut, cells_b, one_b, cells_i, one_i, cells_s, one_s, cells_nilp, one_nilp, cells_ref, one_ref, cells_ptr, one_ptr, cells_esl, one_esl, cells_sl, one_sl, cells_row, one_row, cells_fn, one_fn, cells_nilf, one_nilf, cells_nilm, one_nilm, cells_mp, one_mp, cells_mpr, one_mpr, cells_ag, anilck, afieldAddr, aindex, aindexAddr, alen, afill, afillR, aminmax, aminmax.aminmaxI, isNeq, sdl, kin, acall, ares, ares1, arows, aappend, aslice, asliceS, asliceR, aslice0, abnd, List.set_cons_succ, List.set_cons_zero, List.getD_cons_succ, List.getD_cons_zero, List.getElem?_cons_succ, List.getElem?_cons_zero, List.map_cons, List.map_nil, List.cons_append, List.nil_append, List.append_nil, List.length_cons, List.length_nil, List.take_succ_cons, List.take_zero, List.drop_succ_cons, List.drop_zero, List.all_cons, List.all_nil, List.replicate, Nat.reduceAdd, Nat.reduceSub, Nat.reduceMul, Nat.reduceLT, Nat.reduceLeDiff, Nat.reduceEqDiff, Nat.zero_add, Nat.add_zero, Nat.zero_mul, Option.map_some, Option.map_none, Option.bind_some, Option.bind_eq_bind, Option.getD_some, Option.getD_none, Option.isSome_some, Option.isSome_none, Option.toList, if_true, if_false, and_self, and_true, true_and, and_false, false_and, Prod.mk.injEq, Bool.false_eq_true, Bool.true_eq_false, beq_self_eq_true, Bool.not_true, Bool.not_false, Bool.and_self, Bool.and_true, Bool.true_and, decide_true, decide_false, beq_true, beq_false, Bool.not_not, reduceCtorEq, Nat.le_refl, Int.reduceNeg, reduceIte, Nat.reduceBEq, Int.reduceBEq, Int.reduceLT, Int.reduceLE, Int.reduceToNat, decide_eq_true_eq, not_false_eq_true, not_true_eq_false, ne_eq, eRules_cells, ePorts_cells, eLinks_cells, eRules_one, ePorts_one, eLinks_one, eRanges_cells, eRanges_one, devV_cells, devV_one, nxV_cells, nxV_one] <;> rfl)); (· exact hc1); (· exact StLe.refl _); (· (intro _; rw [sdl_self, List.append_nil])); (intro w; simp only [put, List.set_cons_succ, List.set_cons_zero])))
    | refine awp_block ?_
    | (apply awp_condt; (· exact nT36_4 hE))
    | (apply awp_condf; (· exact nT36_4 hE))
    | (apply awp_cond; (· exact nT36_4 hE); all_goals intro hc)
    | (apply aops_gsplit; (· rfl); (· exact nT36_4 hE); all_goals (intro hg; rw [hg])))); all_goals clear hE
        all_goals
          refine ⟨(j + 1, secondF s', w.1, w.2), ⟨hlt, by simp only [hk']; exact hro, ?_⟩, by simp only; omega, by repeat' (first | exact FrLe.nil | apply FrLe.cons | apply FrLe.bot), ?_⟩
          · simp only [hk']
            rw [hgo]
            simp only [Prod.mk.injEq, true_and]
            omega
          · rw [hT]; exact StLe.refl _
  · have hlt' : ¬ (j : Int) < (F : Int) := by omega
    have hjF : j = F := by omega
    subst hjF
    rw [Nat.sub_self] at hgo
    (have hE := And.intro @hlt' noX; repeat' (first
    | refine awp_seq ?_
    | (refine awp_reg fun nv => ?_)
    | ((first | refine aops_nil ?_ | refine awp_skip ?_ | refine awp_exit ?_ | refine awp_ret ?_); try simp only [thenQ, blockQ, if_true, if_false, Nat.reduceEqDiff, eq_self, reduceCtorEq, reduceIte])
    | (apply aops_one 0; (· exact nT36_2 hE))
    | refine awp_block ?_
    | (apply awp_condt; (· exact nT36_2 hE))
    | (apply awp_condf; (· exact nT36_2 hE))
    | (apply awp_cond; (· exact nT36_2 hE); all_goals intro hc)
    | (apply aops_gsplit; (· rfl); (· exact nT36_2 hE); all_goals (intro hg; rw [hg])))); all_goals clear hE
    all_goals
      (apply acall_end (by first | exact .inl rfl | exact .inr rfl); (· exact nT36_1 (noX)))
      rw [hgo]
      refine ⟨(vt, vu), by simp [goS, tup], StLe.refl _⟩
theorem c_Step (F : Nat) (hF : 1 ≤ F) (hF2 : F < 4611686018427387904) (s : PS) (hd : s.done = false) (hr : RunOk F s) (vp vt vu : Nat) :
    ACall Try.prog n_probe_Probe_Step [.ptr (9, 25) vp 0 0, .i .i64 F] (s.st vp vt vu)
      fun r τ => ∃ w : Nat × Nat, r = .tu [.i .i64 (goS F s).2, .i .i64 0] ∧ τ = (goS F s).1.st vp w.1 w.2 :=
  (c_Step' F hF hF2 s hd hr vp vt vu).weak fun r σ' ⟨w, h1, h2⟩ => ⟨_, h2, w, h1, rfl⟩
theorem p_StepNil (f : Int) : APure Try.prog n_probe_Probe_Step [.nilp, .i .i64 f] (.tu [.i .i64 0, .i .i64 1]) := by
  refine apure_of h_probe_Probe_Step ?_; simp only [c_probe_Probe_Step, List.length_cons, List.length_nil, List.cons_append, List.nil_append, Nat.reduceAdd, Nat.reduceSub, List.reduceReplicate]
  (have hE := noX; repeat' (first
    | refine awp_seq ?_
    | (refine awp_reg fun nv => ?_)
    | ((first | refine aops_nil ?_ | refine awp_skip ?_ | refine awp_exit ?_ | refine awp_ret ?_); try simp only [thenQ, blockQ, if_true, if_false, Nat.reduceEqDiff, eq_self, reduceCtorEq, reduceIte])
    | (apply aops_one 0; (· exact nT36_1 hE))
    | refine awp_block ?_
    | (apply awp_condt; (· exact nT36_1 hE))
    | (apply awp_condf; (· exact nT36_1 hE))
    | (apply awp_cond; (· exact nT36_1 hE); all_goals intro hc)
    | (apply aops_gsplit; (· rfl); (· exact nT36_1 hE); all_goals (intro hg; rw [hg])))); all_goals clear hE
  all_goals
    (apply awp_end [] (by first | exact .inl rfl | exact .inr rfl); (· exact nT36_1 (noX)))
    exact fz_res rfl (.tu _ (by simp [pure_i]))
theorem c_StepOff (f : Int) (s : PS) (h : f < 1 ∨ s.done = true) (vp vt vu : Nat) :
    ACall Try.prog n_probe_Probe_Step [.ptr (9, 25) vp 0 0, .i .i64 f] [((9, 25), ⟨vp, .rows 34 [s.cells vp vt vu vt]⟩)]
      fun r τ => ∃ _ : Unit, r = .tu [.i .i64 0, .i .i64 131] ∧ StLe τ [((9, 25), ⟨vp, .rows 34 [s.cells vp vt vu vt]⟩)] := by
  refine acall_of h_probe_Probe_Step ?_; simp only [c_probe_Probe_Step, List.length_cons, List.length_nil, List.cons_append, List.nil_append, Nat.reduceAdd, Nat.reduceSub, List.reduceReplicate]
  by_cases h1 : f < 1
  · (have hE := And.intro @h1 noX; repeat' (first
    | refine awp_seq ?_
    | (refine awp_reg fun nv => ?_)
    | ((first | refine aops_nil ?_ | refine awp_skip ?_ | refine awp_exit ?_ | refine awp_ret ?_); try simp only [thenQ, blockQ, if_true, if_false, Nat.reduceEqDiff, eq_self, reduceCtorEq, reduceIte])
    | (apply aops_one 0; (· exact nT36_3 hE))
    | refine awp_block ?_
    | (apply awp_condt; (· exact nT36_3 hE))
    | (apply awp_condf; (· exact nT36_3 hE))
    | (apply awp_cond; (· exact nT36_3 hE); all_goals intro hc)
    | (apply aops_gsplit; (· rfl); (· exact nT36_3 hE); all_goals (intro hg; rw [hg])))); all_goals clear hE
    all_goals
      (apply acall_end (by first | exact .inl rfl | exact .inr rfl); (· exact nT36_1 (noX)))
      exact ⟨(), rfl, StLe.refl _⟩
  · have hd : s.done = true := by rcases h with h | h; exact absurd h h1; exact h
    (have hE := And.intro @h1 (And.intro @hd noX); repeat' (first
    | refine awp_seq ?_
    | (refine awp_reg fun nv => ?_)
    | ((first | refine aops_nil ?_ | refine awp_skip ?_ | refine awp_exit ?_ | refine awp_ret ?_); try simp only [thenQ, blockQ, if_true, if_false, Nat.reduceEqDiff, eq_self, reduceCtorEq, reduceIte])
    | (apply aops_one 0; (· exact nT36_3 hE))
    | refine awp_block ?_
    | (apply awp_condt; (· exact nT36_3 hE))
    | (apply awp_condf; (· exact nT36_3 hE))
    | (apply awp_cond; (· exact nT36_3 hE); all_goals intro hc)
    | (apply aops_gsplit; (· rfl); (· exact nT36_3 hE); all_goals (intro hg; rw [hg])))); all_goals clear hE
    all_goals
      (apply acall_end (by first | exact .inl rfl | exact .inr rfl); (· exact nT36_1 (noX)))
      exact ⟨(), rfl, by simp only [PS.cells, hd]; exact StLe.refl _⟩
end Go.Proofs.Ytibkakodokbobaa
