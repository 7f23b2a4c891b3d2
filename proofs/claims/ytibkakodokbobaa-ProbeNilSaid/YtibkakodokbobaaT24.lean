import Derived.Test.YtibkakodokbobaaT23
import Derived.Test.YtibkakodokbobaaT2
namespace Go.Proofs.Ytibkakodokbobaa
open Go.Am
set_option maxRecDepth 100000
set_option linter.unusedSimpArgs false
set_option linter.unusedVariables false
theorem nT24_0 {E A : Prop} (e : E) (h : E → A := by (intro hE; simp only [aone, aoneT, gval, astep, aev, val, abin, abinI, abinS, aun, aeqn, aeqL, aeq1, put, upds, sset, sget, aload, astore, aobj, acut, cells_b, one_b, cells_i, one_i, cells_s, one_s, cells_nilp, one_nilp, cells_ref, one_ref, cells_ptr, one_ptr, cells_esl, one_esl, cells_sl, one_sl, cells_row, one_row, cells_fn, one_fn, cells_nilf, one_nilf, cells_nilm, one_nilm, cells_mp, one_mp, cells_mpr, one_mpr, cells_ag, anilck, afieldAddr, aindex, aindexAddr, alen, afill, afillR, aminmax, aminmax.aminmaxI, isNeq, sdl, kin, acall, ares, ares1, arows, aappend, aslice, asliceS, asliceR, aslice0, abnd, List.set_cons_succ, List.set_cons_zero, List.getD_cons_succ, List.getD_cons_zero, List.getElem?_cons_succ, List.getElem?_cons_zero, List.map_cons, List.map_nil, List.cons_append, List.nil_append, List.append_nil, List.length_cons, List.length_nil, List.take_succ_cons, List.take_zero, List.drop_succ_cons, List.drop_zero, List.all_cons, List.all_nil, List.replicate, Nat.reduceAdd, Nat.reduceSub, Nat.reduceMul, Nat.reduceLT, Nat.reduceLeDiff, Nat.reduceEqDiff, Nat.zero_add, Nat.add_zero, Nat.zero_mul, Option.map_some, Option.map_none, Option.bind_some, Option.bind_eq_bind, Option.getD_some, Option.getD_none, Option.isSome_some, Option.isSome_none, Option.toList, if_true, if_false, and_self, and_true, true_and, and_false, false_and, Prod.mk.injEq, Bool.false_eq_true, Bool.true_eq_false, beq_self_eq_true, Bool.not_true, Bool.not_false, Bool.and_self, Bool.and_true, Bool.true_and, decide_true, decide_false, beq_true, beq_false, Bool.not_not, reduceCtorEq, Nat.le_refl, Int.reduceNeg, reduceIte, Nat.reduceBEq, Int.reduceBEq, Int.reduceLT, Int.reduceLE, Int.reduceToNat, decide_eq_true_eq, not_false_eq_true, not_true_eq_false, ne_eq, eLinks_cells, eLinks_one, ePorts_cells, ePorts_one, eRules_cells, eRules_one, hE] <;> rfl)) : A := h e
theorem nT24_1 {E A : Prop} (e : E) (h : E → A := by (intro hE; simp only [aone, aoneT, gval, astep, aev, val, abin, abinI, abinS, aun, aeqn, aeqL, aeq1, put, upds, sset, sget, aload, astore, aobj, acut, cells_b, one_b, cells_i, one_i, cells_s, one_s, cells_nilp, one_nilp, cells_ref, one_ref, cells_ptr, one_ptr, cells_esl, one_esl, cells_sl, one_sl, cells_row, one_row, cells_fn, one_fn, cells_nilf, one_nilf, cells_nilm, one_nilm, cells_mp, one_mp, cells_mpr, one_mpr, cells_ag, anilck, afieldAddr, aindex, aindexAddr, alen, afill, afillR, aminmax, aminmax.aminmaxI, isNeq, sdl, kin, acall, ares, ares1, arows, aappend, aslice, asliceS, asliceR, aslice0, abnd, List.set_cons_succ, List.set_cons_zero, List.getD_cons_succ, List.getD_cons_zero, List.getElem?_cons_succ, List.getElem?_cons_zero, List.map_cons, List.map_nil, List.cons_append, List.nil_append, List.append_nil, List.length_cons, List.length_nil, List.take_succ_cons, List.take_zero, List.drop_succ_cons, List.drop_zero, List.all_cons, List.all_nil, List.replicate, Nat.reduceAdd, Nat.reduceSub, Nat.reduceMul, Nat.reduceLT, Nat.reduceLeDiff, Nat.reduceEqDiff, Nat.zero_add, Nat.add_zero, Nat.zero_mul, Option.map_some, Option.map_none, Option.bind_some, Option.bind_eq_bind, Option.getD_some, Option.getD_none, Option.isSome_some, Option.isSome_none, Option.toList, if_true, if_false, and_self, and_true, true_and, and_false, false_and, Prod.mk.injEq, Bool.false_eq_true, Bool.true_eq_false, beq_self_eq_true, Bool.not_true, Bool.not_false, Bool.and_self, Bool.and_true, Bool.true_and, decide_true, decide_false, beq_true, beq_false, Bool.not_not, reduceCtorEq, Nat.le_refl, Int.reduceNeg, reduceIte, Nat.reduceBEq, Int.reduceBEq, Int.reduceLT, Int.reduceLE, Int.reduceToNat, decide_eq_true_eq, not_false_eq_true, not_true_eq_false, ne_eq, List.length_map, eLinks_cells, eLinks_one, ePorts, ePorts_cells, ePorts_one, eRules_cells, eRules_one, hE] <;> rfl)) : A := h e
theorem nT24_2 {E A : Prop} (e : E) (h : E → A := by (intro hE; simp only [aone, aoneT, gval, astep, aev, val, abin, abinI, abinS, aun, aeqn, aeqL, aeq1, put, upds, sset, sget, aload, astore, aobj, acut, cells_b, one_b, cells_i, one_i, cells_s, one_s, cells_nilp, one_nilp, cells_ref, one_ref, cells_ptr, one_ptr, cells_esl, one_esl, cells_sl, one_sl, cells_row, one_row, cells_fn, one_fn, cells_nilf, one_nilf, cells_nilm, one_nilm, cells_mp, one_mp, cells_mpr, one_mpr, cells_ag, anilck, afieldAddr, aindex, aindexAddr, alen, afill, afillR, aminmax, aminmax.aminmaxI, isNeq, sdl, kin, acall, ares, ares1, arows, aappend, aslice, asliceS, asliceR, aslice0, abnd, List.set_cons_succ, List.set_cons_zero, List.getD_cons_succ, List.getD_cons_zero, List.getElem?_cons_succ, List.getElem?_cons_zero, List.map_cons, List.map_nil, List.cons_append, List.nil_append, List.append_nil, List.length_cons, List.length_nil, List.take_succ_cons, List.take_zero, List.drop_succ_cons, List.drop_zero, List.all_cons, List.all_nil, List.replicate, Nat.reduceAdd, Nat.reduceSub, Nat.reduceMul, Nat.reduceLT, Nat.reduceLeDiff, Nat.reduceEqDiff, Nat.zero_add, Nat.add_zero, Nat.zero_mul, Option.map_some, Option.map_none, Option.bind_some, Option.bind_eq_bind, Option.getD_some, Option.getD_none, Option.isSome_some, Option.isSome_none, Option.toList, if_true, if_false, and_self, and_true, true_and, and_false, false_and, Prod.mk.injEq, Bool.false_eq_true, Bool.true_eq_false, beq_self_eq_true, Bool.not_true, Bool.not_false, Bool.and_self, Bool.and_true, Bool.true_and, decide_true, decide_false, beq_true, beq_false, Bool.not_not, reduceCtorEq, Nat.le_refl, Int.reduceNeg, reduceIte, Nat.reduceBEq, Int.reduceBEq, Int.reduceLT, Int.reduceLE, Int.reduceToNat, decide_eq_true_eq, not_false_eq_true, not_true_eq_false, ne_eq, Int.toNat_natCast, eLinks_cells, eLinks_one, ePorts_cells, ePorts_one, eRules_cells, eRules_one, hE] <;> rfl)) : A := h e
theorem nT24_3 {E A : Prop} (e : E) (h : E → A := by (intro hE; simp only [aone, aoneT, gval, astep, aev, val, abin, abinI, abinS, aun, aeqn, aeqL, aeq1, put, upds, sset, sget, aload, astore, aobj, acut, cells_b, one_b, cells_i, one_i, cells_s, one_s, cells_nilp, one_nilp, cells_ref, one_ref, cells_ptr, one_ptr, cells_esl, one_esl, cells_sl, one_sl, cells_row, one_row, cells_fn, one_fn, cells_nilf, one_nilf, cells_nilm, one_nilm, cells_mp, one_mp, cells_mpr, one_mpr, cells_ag, anilck, afieldAddr, aindex, aindexAddr, alen, afill, afillR, aminmax, aminmax.aminmaxI, isNeq, sdl, kin, acall, ares, ares1, arows, aappend, aslice, asliceS, asliceR, aslice0, abnd, List.set_cons_succ, List.set_cons_zero, List.getD_cons_succ, List.getD_cons_zero, List.getElem?_cons_succ, List.getElem?_cons_zero, List.map_cons, List.map_nil, List.cons_append, List.nil_append, List.append_nil, List.length_cons, List.length_nil, List.take_succ_cons, List.take_zero, List.drop_succ_cons, List.drop_zero, List.all_cons, List.all_nil, List.replicate, Nat.reduceAdd, Nat.reduceSub, Nat.reduceMul, Nat.reduceLT, Nat.reduceLeDiff, Nat.reduceEqDiff, Nat.zero_add, Nat.add_zero, Nat.zero_mul, Option.map_some, Option.map_none, Option.bind_some, Option.bind_eq_bind, Option.getD_some, Option.getD_none, Option.isSome_some, Option.isSome_none, Option.toList, if_true, if_false, and_self, and_true, true_and, and_false, false_and, Prod.mk.injEq, Bool.false_eq_true, Bool.true_eq_false, beq_self_eq_true, Bool.not_true, Bool.not_false, Bool.and_self, Bool.and_true, Bool.true_and, decide_true, decide_false, beq_true, beq_false, Bool.not_not, reduceCtorEq, Nat.le_refl, Int.reduceNeg, reduceIte, Nat.reduceBEq, Int.reduceBEq, Int.reduceLT, Int.reduceLE, Int.reduceToNat, decide_eq_true_eq, not_false_eq_true, not_true_eq_false, ne_eq, List.length_map, eLinks, eLinks_cells, eLinks_one, ePorts_cells, ePorts_one, eRules_cells, eRules_one, hE] <;> rfl)) : A := h e
theorem pT24_ {A : Prop} (h : A := by (simp only [List.forall_mem_cons, List.forall_mem_nil, List.not_mem_nil, false_imp_iff, implies_true, List.forall_mem_map, pure_b, pure_i, pure_s, pure_nilp, pure_nilf, pure_esl, pure_ref, pure_sl, pure_ag, pure_tu, pure_fn, and_self, and_true, true_and, eRules_pure, ePorts_pure, eLinks_pure]; done)) : A := h
/-! ### slices.Contains, Equal; topo: joined, Next, Same -/
theorem p_Contains (l : List Int) (x : Int) (hl : l.length < 4611686018427387904) : APure Try.prog n_slices_Contains_int_int [ePorts l, .i .i64 x] (.b (l.contains x)) := by
  have hp := p_Index l x hl
  refine apure_of h_slices_Contains_int_int ?_; simp only [c_slices_Contains_int_int, List.length_cons, List.length_nil, List.cons_append, List.nil_append, Nat.reduceAdd, Nat.reduceSub, List.reduceReplicate]
  cases hf : l.findIdx? (· == x) with
  | none =>
    rw [idx, hf] at hp
    have hx : l.contains x = false := by
      rw [List.findIdx?_eq_none_iff] at hf
      cases hc : l.contains x with
      | false => rfl
      | true =>
        have := hf x (by simpa using hc)
        simp at this
    rw [hx]
    (have hE := noX; repeat' (first
    | refine awp_seq ?_
    | (refine awp_reg fun nv => ?_)
    | ((first | refine aops_nil ?_ | refine awp_skip ?_ | refine awp_exit ?_ | refine awp_ret ?_); try simp only [thenQ, blockQ, if_true, if_false, Nat.reduceEqDiff, eq_self, reduceCtorEq, reduceIte])
    | (apply aops_one 0; (· exact nT24_0 hE))
    | (apply aops_call (hlf := h_slices_Index_int_int); (· rfl); (· exact nT24_0 hE); (· exact pT24_); (· exact hp); (· exact nput))
    | refine awp_block ?_
    | (apply awp_condt; (· exact nT24_0 hE))
    | (apply awp_condf; (· exact nT24_0 hE))
    | (apply awp_cond; (· exact nT24_0 hE); all_goals intro hc)
    | (apply aops_gsplit; (· rfl); (· exact nT24_0 hE); all_goals (intro hg; rw [hg])))); all_goals clear hE
    all_goals
      (apply awp_end [] (by first | exact .inl rfl | exact .inr rfl); (· exact nT24_0 (noX)))
      exact fz_res rfl (.b _)
  | some j =>
    rw [idx, hf] at hp
    have h0 : (j : Int) ≥ 0 := by omega
    have hx : l.contains x = true := by
      rw [List.findIdx?_eq_some_iff_getElem] at hf
      obtain ⟨h1, h2, _⟩ := hf
      have : l[j] = x := by simpa using h2
      simp only [List.contains_eq_mem, decide_eq_true_eq]
      exact this ▸ List.getElem_mem h1
    rw [hx]
    (have hE := And.intro @h0 noX; repeat' (first
    | refine awp_seq ?_
    | (refine awp_reg fun nv => ?_)
    | ((first | refine aops_nil ?_ | refine awp_skip ?_ | refine awp_exit ?_ | refine awp_ret ?_); try simp only [thenQ, blockQ, if_true, if_false, Nat.reduceEqDiff, eq_self, reduceCtorEq, reduceIte])
    | (apply aops_one 0; (· exact nT24_0 hE))
    | (apply aops_call (hlf := h_slices_Index_int_int); (· rfl); (· exact nT24_0 hE); (· exact pT24_); (· exact hp); (· exact nput))
    | refine awp_block ?_
    | (apply awp_condt; (· exact nT24_0 hE))
    | (apply awp_condf; (· exact nT24_0 hE))
    | (apply awp_cond; (· exact nT24_0 hE); all_goals intro hc)
    | (apply aops_gsplit; (· rfl); (· exact nT24_0 hE); all_goals (intro hg; rw [hg])))); all_goals clear hE
    all_goals
      (apply awp_end [] (by first | exact .inl rfl | exact .inr rfl); (· exact nT24_0 (noX)))
      exact fz_res rfl (.b _)
theorem eq_step {α : Type} [DecidableEq α] {l m : List α} (hlm : l.length = m.length) {j : Nat} (h : j < l.length) (hs : l.take j = m.take j) (he : l[j] = m[j]) : l.take (j + 1) = m.take (j + 1) := by
  rw [List.take_succ_eq_append_getElem h, List.take_succ_eq_append_getElem (by omega), hs, he]
set_option maxHeartbeats 1000000 in
theorem p_EqualI (l m : List Int) (hl : l.length < 4611686018427387904) (hm : m.length < 4611686018427387904) : APure Try.prog n_slices_Equal_int_int [ePorts l, ePorts m] (.b (l == m)) := by
  refine apure_of h_slices_Equal_int_int ?_; simp only [c_slices_Equal_int_int, List.length_cons, List.length_nil, List.cons_append, List.nil_append, Nat.reduceAdd, Nat.reduceSub, List.reduceReplicate]
  by_cases hlm : l.length = m.length
  · have hne : ((l.length : Int) != (m.length : Int)) = false := by rw [bne_eq_false_iff_eq]; omega
    (have hE := And.intro @hne noX; repeat' (first
    | refine awp_seq ?_
    | (refine awp_reg fun nv => ?_)
    | (refine awp_regd mix fun nv => ?_)
    | ((first | refine aops_nil ?_ | refine adr_nil (by rfl) ?_ | refine awp_skip ?_ | refine awp_exit ?_ | refine awp_ret ?_); try simp only [thenQ, blockQ, if_true, if_false, Nat.reduceEqDiff, eq_self, reduceCtorEq, reduceIte])
    | ((first | apply aops_one 0 | apply adr_one 0); (· exact nT24_1 hE))
    | refine awp_block ?_
    | (apply awp_condt; (· exact nT24_1 hE))
    | (apply awp_condf; (· exact nT24_1 hE))
    | (apply awp_cond; (· exact nT24_1 hE); all_goals intro hc)
    | ((first | apply aops_gsplit | apply adr_gsplit); (· rfl); (· exact nT24_1 hE); all_goals (intro hg; rw [hg])))); all_goals clear hE
    refine awp_loop (α := Nat) (fun j => [.sl (l.map eI), .sl (m.map eI), .bot, .bot, .bot, .bot, .bot, .bot, .bot, .bot, .bot, .bot, .i .i64 l.length, .i .i64 j, .bot, .bot, .bot, .bot, .bot, .bot, .bot, .bot, .bot, .bot, .bot, .bot]) (fun _ => []) (fun j => j ≤ l.length ∧ l.take j = m.take j) (fun j => l.length - j) 0 ⟨by omega, by simp⟩ ?_ (StLe.nil _) ?_
    · repeat' (first | exact FrLe.nil | apply FrLe.cons | apply FrLe.bot)
    rintro j ⟨hj, hs⟩
    by_cases hlt : j < l.length
    · have hlt' : (j : Int) < (l.length : Int) := by omega
      have hg1 : (l.map eI)[j]? = some [.i .i64 l[j]] := by simp [hlt, eI]
      have hg2 : (m.map eI)[j]? = some [.i .i64 (m[j]'(by omega))] := by simp [show j < m.length by omega, eI]
      have h0 : (0 : Int) ≤ (j : Int) := by omega
      have hw := wrapS hlt hl
      by_cases he : l[j] = m[j]'(by omega)
      · have he' : (l[j] != m[j]'(by omega)) = false := by rw [bne_eq_false_iff_eq]; exact he
        (have hE := And.intro @hlt' (And.intro @hg1 (And.intro @hg2 (And.intro @h0 (And.intro @hw (And.intro @he' noX))))); repeat' (first
    | refine awp_seq ?_
    | (refine awp_reg fun nv => ?_)
    | (refine awp_regd mix fun nv => ?_)
    | ((first | refine aops_nil ?_ | refine adr_nil (by rfl) ?_ | refine awp_skip ?_ | refine awp_exit ?_ | refine awp_ret ?_); try simp only [thenQ, blockQ, if_true, if_false, Nat.reduceEqDiff, eq_self, reduceCtorEq, reduceIte])
    | ((first | apply aops_one 0 | apply adr_one 0); (· exact nT24_2 hE))
    | refine awp_block ?_
    | (apply awp_condt; (· exact nT24_2 hE))
    | (apply awp_condf; (· exact nT24_2 hE))
    | (apply awp_cond; (· exact nT24_2 hE); all_goals intro hc)
    | ((first | apply aops_gsplit | apply adr_gsplit); (· rfl); (· exact nT24_2 hE); all_goals (intro hg; rw [hg])))); all_goals clear hE
        all_goals
          exact ⟨j + 1, ⟨by omega, eq_step hlm hlt hs he⟩, by omega, by repeat' (first | exact FrLe.nil | apply FrLe.cons | apply FrLe.bot), StLe.nil _⟩
      · have he' : (l[j] != m[j]'(by omega)) = true := by rw [bne_iff_ne]; exact he
        have hr : (l == m) = false := by
          rw [beq_eq_false_iff_ne]; rintro rfl; exact he rfl
        rw [hr]
        (have hE := And.intro @hlt' (And.intro @hg1 (And.intro @hg2 (And.intro @h0 (And.intro @hw (And.intro @he' noX))))); repeat' (first
    | refine awp_seq ?_
    | (refine awp_reg fun nv => ?_)
    | (refine awp_regd mix fun nv => ?_)
    | ((first | refine aops_nil ?_ | refine adr_nil (by rfl) ?_ | refine awp_skip ?_ | refine awp_exit ?_ | refine awp_ret ?_); try simp only [thenQ, blockQ, if_true, if_false, Nat.reduceEqDiff, eq_self, reduceCtorEq, reduceIte])
    | ((first | apply aops_one 0 | apply adr_one 0); (· exact nT24_2 hE))
    | refine awp_block ?_
    | (apply awp_condt; (· exact nT24_2 hE))
    | (apply awp_condf; (· exact nT24_2 hE))
    | (apply awp_cond; (· exact nT24_2 hE); all_goals intro hc)
    | ((first | apply aops_gsplit | apply adr_gsplit); (· rfl); (· exact nT24_2 hE); all_goals (intro hg; rw [hg])))); all_goals clear hE
        all_goals
          (apply awp_end [] (by first | exact .inl rfl | exact .inr rfl); (· exact nT24_0 (noX)))
          exact fz_res rfl (.b _)
    · have hlt' : ¬ (j : Int) < (l.length : Int) := by omega
      have hr : (l == m) = true := by
        rw [List.take_of_length_le (by omega), List.take_of_length_le (by omega)] at hs
        rw [hs]; simp
      rw [hr]
      (have hE := And.intro @hlt' noX; repeat' (first
    | refine awp_seq ?_
    | (refine awp_reg fun nv => ?_)
    | (refine awp_regd mix fun nv => ?_)
    | ((first | refine aops_nil ?_ | refine adr_nil (by rfl) ?_ | refine awp_skip ?_ | refine awp_exit ?_ | refine awp_ret ?_); try simp only [thenQ, blockQ, if_true, if_false, Nat.reduceEqDiff, eq_self, reduceCtorEq, reduceIte])
    | ((first | apply aops_one 0 | apply adr_one 0); (· exact nT24_0 hE))
    | refine awp_block ?_
    | (apply awp_condt; (· exact nT24_0 hE))
    | (apply awp_condf; (· exact nT24_0 hE))
    | (apply awp_cond; (· exact nT24_0 hE); all_goals intro hc)
    | ((first | apply aops_gsplit | apply adr_gsplit); (· rfl); (· exact nT24_0 hE); all_goals (intro hg; rw [hg])))); all_goals clear hE
      all_goals
        (apply awp_end [] (by first | exact .inl rfl | exact .inr rfl); (· exact nT24_0 (noX)))
        exact fz_res rfl (.b _)
  · have hne : ((l.length : Int) != (m.length : Int)) = true := by rw [bne_iff_ne]; omega
    have hr : (l == m) = false := by rw [beq_eq_false_iff_ne]; rintro rfl; exact hlm rfl
    rw [hr]
    (have hE := And.intro @hne noX; repeat' (first
    | refine awp_seq ?_
    | (refine awp_reg fun nv => ?_)
    | (refine awp_regd mix fun nv => ?_)
    | ((first | refine aops_nil ?_ | refine adr_nil (by rfl) ?_ | refine awp_skip ?_ | refine awp_exit ?_ | refine awp_ret ?_); try simp only [thenQ, blockQ, if_true, if_false, Nat.reduceEqDiff, eq_self, reduceCtorEq, reduceIte])
    | ((first | apply aops_one 0 | apply adr_one 0); (· exact nT24_1 hE))
    | refine awp_block ?_
    | (apply awp_condt; (· exact nT24_1 hE))
    | (apply awp_condf; (· exact nT24_1 hE))
    | (apply awp_cond; (· exact nT24_1 hE); all_goals intro hc)
    | ((first | apply aops_gsplit | apply adr_gsplit); (· rfl); (· exact nT24_1 hE); all_goals (intro hg; rw [hg])))); all_goals clear hE
    all_goals
      (apply awp_end [] (by first | exact .inl rfl | exact .inr rfl); (· exact nT24_0 (noX)))
      exact fz_res rfl (.b _)
set_option maxHeartbeats 1000000 in
theorem p_EqualL (l m : List Link) (hl : l.length < 4611686018427387904) (hm : m.length < 4611686018427387904) : APure Try.prog n_slices_Equal_api_Link_api_Link [eLinks l, eLinks m] (.b (decide (l = m))) := by
  refine apure_of h_slices_Equal_api_Link_api_Link ?_; simp only [c_slices_Equal_api_Link_api_Link, List.length_cons, List.length_nil, List.cons_append, List.nil_append, Nat.reduceAdd, Nat.reduceSub, List.reduceReplicate]
  by_cases hlm : l.length = m.length
  · have hne : ((l.length : Int) != (m.length : Int)) = false := by rw [bne_eq_false_iff_eq]; omega
    (have hE := And.intro @hne noX; repeat' (first
    | refine awp_seq ?_
    | (refine awp_reg fun nv => ?_)
    | (refine awp_regd mix fun nv => ?_)
    | ((first | refine aops_nil ?_ | refine adr_nil (by rfl) ?_ | refine awp_skip ?_ | refine awp_exit ?_ | refine awp_ret ?_); try simp only [thenQ, blockQ, if_true, if_false, Nat.reduceEqDiff, eq_self, reduceCtorEq, reduceIte])
    | ((first | apply aops_one 0 | apply adr_one 0); (· exact nT24_3 hE))
    | refine awp_block ?_
    | (apply awp_condt; (· exact nT24_3 hE))
    | (apply awp_condf; (· exact nT24_3 hE))
    | (apply awp_cond; (· exact nT24_3 hE); all_goals intro hc)
    | ((first | apply aops_gsplit | apply adr_gsplit); (· rfl); (· exact nT24_3 hE); all_goals (intro hg; rw [hg])))); all_goals clear hE
    refine awp_loop (α := Nat) (fun j => [.sl (l.map Link.row), .sl (m.map Link.row), .bot, .bot, .bot, .bot, .bot, .bot, .bot, .bot, .bot, .bot, .i .i64 l.length, .i .i64 j, .bot, .bot, .bot, .bot, .bot, .bot, .bot, .bot, .bot, .bot, .bot, .bot]) (fun _ => []) (fun j => j ≤ l.length ∧ l.take j = m.take j) (fun j => l.length - j) 0 ⟨by omega, by simp⟩ ?_ (StLe.nil _) ?_
    · repeat' (first | exact FrLe.nil | apply FrLe.cons | apply FrLe.bot)
    rintro j ⟨hj, hs⟩
    by_cases hlt : j < l.length
    · have hlt' : (j : Int) < (l.length : Int) := by omega
      have hjm : j < m.length := by omega
      have hg1 : (l.map Link.row)[j]? = some [.i .i64 l[j].d1, .i .i64 l[j].p1, .i .i64 l[j].d2, .i .i64 l[j].p2] := by simp [hlt, Link.row]
      have hg2 : (m.map Link.row)[j]? = some [.i .i64 m[j].d1, .i .i64 m[j].p1, .i .i64 m[j].d2, .i .i64 m[j].p2] := by simp [hjm, Link.row]
      have h0 : (0 : Int) ≤ (j : Int) := by omega
      have hw := wrapS hlt hl
      have hb : (l[j].d1 == m[j].d1 && (l[j].p1 == m[j].p1 && (l[j].d2 == m[j].d2 && l[j].p2 == m[j].p2))) = decide (l[j] = m[j]) := by
        rw [Bool.eq_iff_iff]
        simp only [Bool.and_eq_true, beq_iff_eq, decide_eq_true_eq]
        constructor
        · rintro ⟨a, b, c, d⟩
          cases hx : l[j]; cases hy : m[j]
          simp_all
        · intro h; simp [h]
      by_cases he : l[j] = m[j]
      · have hb' : (l[j].d1 == m[j].d1 && (l[j].p1 == m[j].p1 && (l[j].d2 == m[j].d2 && l[j].p2 == m[j].p2))) = true := by rw [hb]; simpa using he
        (have hE := And.intro @hlt' (And.intro @hg1 (And.intro @hg2 (And.intro @h0 (And.intro @hw (And.intro @hb' noX))))); repeat' (first
    | refine awp_seq ?_
    | (refine awp_reg fun nv => ?_)
    | (refine awp_regd mix fun nv => ?_)
    | ((first | refine aops_nil ?_ | refine adr_nil (by rfl) ?_ | refine awp_skip ?_ | refine awp_exit ?_ | refine awp_ret ?_); try simp only [thenQ, blockQ, if_true, if_false, Nat.reduceEqDiff, eq_self, reduceCtorEq, reduceIte])
    | ((first | apply aops_one 0 | apply adr_one 0); (· exact nT24_2 hE))
    | refine awp_block ?_
    | (apply awp_condt; (· exact nT24_2 hE))
    | (apply awp_condf; (· exact nT24_2 hE))
    | (apply awp_cond; (· exact nT24_2 hE); all_goals intro hc)
    | ((first | apply aops_gsplit | apply adr_gsplit); (· rfl); (· exact nT24_2 hE); all_goals (intro hg; rw [hg])))); all_goals clear hE
        all_goals
          exact ⟨j + 1, ⟨by omega, eq_step hlm hlt hs he⟩, by omega, by repeat' (first | exact FrLe.nil | apply FrLe.cons | apply FrLe.bot), StLe.nil _⟩
      · have hb' : (l[j].d1 == m[j].d1 && (l[j].p1 == m[j].p1 && (l[j].d2 == m[j].d2 && l[j].p2 == m[j].p2))) = false := by rw [hb]; simpa using he
        have hr : decide (l = m) = false := by
          rw [decide_eq_false_iff_not]; rintro rfl; exact he rfl
        rw [hr]
        (have hE := And.intro @hlt' (And.intro @hg1 (And.intro @hg2 (And.intro @h0 (And.intro @hw (And.intro @hb' noX))))); repeat' (first
    | refine awp_seq ?_
    | (refine awp_reg fun nv => ?_)
    | (refine awp_regd mix fun nv => ?_)
    | ((first | refine aops_nil ?_ | refine adr_nil (by rfl) ?_ | refine awp_skip ?_ | refine awp_exit ?_ | refine awp_ret ?_); try simp only [thenQ, blockQ, if_true, if_false, Nat.reduceEqDiff, eq_self, reduceCtorEq, reduceIte])
    | ((first | apply aops_one 0 | apply adr_one 0); (· exact nT24_2 hE))
    | refine awp_block ?_
    | (apply awp_condt; (· exact nT24_2 hE))
    | (apply awp_condf; (· exact nT24_2 hE))
    | (apply awp_cond; (· exact nT24_2 hE); all_goals intro hc)
    | ((first | apply aops_gsplit | apply adr_gsplit); (· rfl); (· exact nT24_2 hE); all_goals (intro hg; rw [hg])))); all_goals clear hE
        all_goals
          (apply awp_end [] (by first | exact .inl rfl | exact .inr rfl); (· exact nT24_0 (noX)))
          exact fz_res rfl (.b _)
    · have hlt' : ¬ (j : Int) < (l.length : Int) := by omega
      have hr : decide (l = m) = true := by
        rw [List.take_of_length_le (by omega), List.take_of_length_le (by omega)] at hs
        rw [hs]; simp
      rw [hr]
      (have hE := And.intro @hlt' noX; repeat' (first
    | refine awp_seq ?_
    | (refine awp_reg fun nv => ?_)
    | (refine awp_regd mix fun nv => ?_)
    | ((first | refine aops_nil ?_ | refine adr_nil (by rfl) ?_ | refine awp_skip ?_ | refine awp_exit ?_ | refine awp_ret ?_); try simp only [thenQ, blockQ, if_true, if_false, Nat.reduceEqDiff, eq_self, reduceCtorEq, reduceIte])
    | ((first | apply aops_one 0 | apply adr_one 0); (· exact nT24_0 hE))
    | refine awp_block ?_
    | (apply awp_condt; (· exact nT24_0 hE))
    | (apply awp_condf; (· exact nT24_0 hE))
    | (apply awp_cond; (· exact nT24_0 hE); all_goals intro hc)
    | ((first | apply aops_gsplit | apply adr_gsplit); (· rfl); (· exact nT24_0 hE); all_goals (intro hg; rw [hg])))); all_goals clear hE
      all_goals
        (apply awp_end [] (by first | exact .inl rfl | exact .inr rfl); (· exact nT24_0 (noX)))
        exact fz_res rfl (.b _)
  · have hne : ((l.length : Int) != (m.length : Int)) = true := by rw [bne_iff_ne]; omega
    have hr : decide (l = m) = false := by rw [decide_eq_false_iff_not]; rintro rfl; exact hlm rfl
    rw [hr]
    (have hE := And.intro @hne noX; repeat' (first
    | refine awp_seq ?_
    | (refine awp_reg fun nv => ?_)
    | (refine awp_regd mix fun nv => ?_)
    | ((first | refine aops_nil ?_ | refine adr_nil (by rfl) ?_ | refine awp_skip ?_ | refine awp_exit ?_ | refine awp_ret ?_); try simp only [thenQ, blockQ, if_true, if_false, Nat.reduceEqDiff, eq_self, reduceCtorEq, reduceIte])
    | ((first | apply aops_one 0 | apply adr_one 0); (· exact nT24_3 hE))
    | refine awp_block ?_
    | (apply awp_condt; (· exact nT24_3 hE))
    | (apply awp_condf; (· exact nT24_3 hE))
    | (apply awp_cond; (· exact nT24_3 hE); all_goals intro hc)
    | ((first | apply aops_gsplit | apply adr_gsplit); (· rfl); (· exact nT24_3 hE); all_goals (intro hg; rw [hg])))); all_goals clear hE
    all_goals
      (apply awp_end [] (by first | exact .inl rfl | exact .inr rfl); (· exact nT24_0 (noX)))
      exact fz_res rfl (.b _)
def sameT (x y : Net) : Bool := (x.ports == y.ports) && decide (x.links = y.links)
theorem p_SameT (x y : Net) (hx : x.ports.length < 4611686018427387904 ∧ x.links.length < 4611686018427387904) (hy : y.ports.length < 4611686018427387904 ∧ y.links.length < 4611686018427387904) :
    APure Try.prog n_topo_Same [.ag [ePorts x.ports, eLinks x.links], .ag [ePorts y.ports, eLinks y.links]] (.b (sameT x y)) := by
  refine apure_of h_topo_Same ?_; simp only [c_topo_Same, List.length_cons, List.length_nil, List.cons_append, List.nil_append, Nat.reduceAdd, Nat.reduceSub, List.reduceReplicate]
  (have hE := noX; repeat' (first
    | refine awp_seq ?_
    | (refine awp_reg fun nv => ?_)
    | ((first | refine aops_nil ?_ | refine awp_skip ?_ | refine awp_exit ?_ | refine awp_ret ?_); try simp only [thenQ, blockQ, if_true, if_false, Nat.reduceEqDiff, eq_self, reduceCtorEq, reduceIte])
    | (apply aops_one 0; (· exact nT24_0 hE))
    | (apply aops_call (hlf := h_slices_Equal_int_int); (· rfl); (· exact nT24_0 hE); (· exact pT24_); (· exact (p_EqualI x.ports y.ports hx.1 hy.1)); (· exact nput))
    | (apply aops_call (hlf := h_slices_Equal_api_Link_api_Link); (· rfl); (· exact nT24_0 hE); (· exact pT24_); (· exact (p_EqualL x.links y.links hx.2 hy.2)); (· exact nput))
    | refine awp_block ?_
    | (apply awp_condt; (· exact nT24_0 hE))
    | (apply awp_condf; (· exact nT24_0 hE))
    | (apply awp_cond; (· exact nT24_0 hE); all_goals intro hc)
    | (apply aops_gsplit; (· rfl); (· exact nT24_0 hE); all_goals (intro hg; rw [hg])))); all_goals clear hE
  all_goals
    (apply awp_end [] (by first | exact .inl rfl | exact .inr rfl); (· exact nT24_0 (noX)))
    refine fz_res ?_ (.b _)
    simp [tup, sameT, *]
end Go.Proofs.Ytibkakodokbobaa
