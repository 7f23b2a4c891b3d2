import Derived.Test.YtibkakodokbobaaT20
namespace Go.Proofs.Ytibkakodokbobaa
open Go.Am
set_option maxRecDepth 100000
set_option linter.unusedSimpArgs false
set_option linter.unusedVariables false
theorem nT21_0 {E A : Prop} (e : E) (h : E → A := by (intro hE; simp only [aone, aoneT, gval, astep, aev, val, abin, abinI, abinS, aun, aeqn, aeqL, aeq1, put, upds, sset, sget, aload, astore, aobj, acut, cells_b, one_b, cells_i, one_i, cells_s, one_s, cells_nilp, one_nilp, cells_ref, one_ref, cells_ptr, one_ptr, cells_esl, one_esl, cells_sl, one_sl, cells_row, one_row, cells_fn, one_fn, cells_nilf, one_nilf, cells_nilm, one_nilm, cells_mp, one_mp, cells_mpr, one_mpr, cells_ag, anilck, afieldAddr, aindex, aindexAddr, alen, afill, afillR, aminmax, aminmax.aminmaxI, isNeq, sdl, kin, acall, ares, ares1, arows, aappend, aslice, asliceS, asliceR, aslice0, abnd, List.set_cons_succ, List.set_cons_zero, List.getD_cons_succ, List.getD_cons_zero, List.getElem?_cons_succ, List.getElem?_cons_zero, List.map_cons, List.map_nil, List.cons_append, List.nil_append, List.append_nil, List.length_cons, List.length_nil, List.take_succ_cons, List.take_zero, List.drop_succ_cons, List.drop_zero, List.all_cons, List.all_nil, List.replicate, Nat.reduceAdd, Nat.reduceSub, Nat.reduceMul, Nat.reduceLT, Nat.reduceLeDiff, Nat.reduceEqDiff, Nat.zero_add, Nat.add_zero, Nat.zero_mul, Option.map_some, Option.map_none, Option.bind_some, Option.bind_eq_bind, Option.getD_some, Option.getD_none, Option.isSome_some, Option.isSome_none, Option.toList, if_true, if_false, and_self, and_true, true_and, and_false, false_and, Prod.mk.injEq, Bool.false_eq_true, Bool.true_eq_false, beq_self_eq_true, Bool.not_true, Bool.not_false, Bool.and_self, Bool.and_true, Bool.true_and, decide_true, decide_false, beq_true, beq_false, Bool.not_not, reduceCtorEq, Nat.le_refl, Int.reduceNeg, reduceIte, Nat.reduceBEq, Int.reduceBEq, Int.reduceLT, Int.reduceLE, Int.reduceToNat, decide_eq_true_eq, not_false_eq_true, not_true_eq_false, ne_eq, Rule.row, eLinks_cells, eLinks_one, ePorts_cells, ePorts_one, eRules_cells, eRules_one, hE] <;> rfl)) : A := h e
theorem nT21_1 {E A : Prop} (e : E) (h : E → A := by (intro hE; simp only [aone, aoneT, gval, astep, aev, val, abin, abinI, abinS, aun, aeqn, aeqL, aeq1, put, upds, sset, sget, aload, astore, aobj, acut, cells_b, one_b, cells_i, one_i, cells_s, one_s, cells_nilp, one_nilp, cells_ref, one_ref, cells_ptr, one_ptr, cells_esl, one_esl, cells_sl, one_sl, cells_row, one_row, cells_fn, one_fn, cells_nilf, one_nilf, cells_nilm, one_nilm, cells_mp, one_mp, cells_mpr, one_mpr, cells_ag, anilck, afieldAddr, aindex, aindexAddr, alen, afill, afillR, aminmax, aminmax.aminmaxI, isNeq, sdl, kin, acall, ares, ares1, arows, aappend, aslice, asliceS, asliceR, aslice0, abnd, List.set_cons_succ, List.set_cons_zero, List.getD_cons_succ, List.getD_cons_zero, List.getElem?_cons_succ, List.getElem?_cons_zero, List.map_cons, List.map_nil, List.cons_append, List.nil_append, List.append_nil, List.length_cons, List.length_nil, List.take_succ_cons, List.take_zero, List.drop_succ_cons, List.drop_zero, List.all_cons, List.all_nil, List.replicate, Nat.reduceAdd, Nat.reduceSub, Nat.reduceMul, Nat.reduceLT, Nat.reduceLeDiff, Nat.reduceEqDiff, Nat.zero_add, Nat.add_zero, Nat.zero_mul, Option.map_some, Option.map_none, Option.bind_some, Option.bind_eq_bind, Option.getD_some, Option.getD_none, Option.isSome_some, Option.isSome_none, Option.toList, if_true, if_false, and_self, and_true, true_and, and_false, false_and, Prod.mk.injEq, Bool.false_eq_true, Bool.true_eq_false, beq_self_eq_true, Bool.not_true, Bool.not_false, Bool.and_self, Bool.and_true, Bool.true_and, decide_true, decide_false, beq_true, beq_false, Bool.not_not, reduceCtorEq, Nat.le_refl, Int.reduceNeg, reduceIte, Nat.reduceBEq, Int.reduceBEq, Int.reduceLT, Int.reduceLE, Int.reduceToNat, decide_eq_true_eq, not_false_eq_true, not_true_eq_false, ne_eq, eLinks_cells, eLinks_one, ePorts_cells, ePorts_one, eRules_cells, eRules_one, hE] <;> rfl)) : A := h e
theorem nT21_2 {E A : Prop} (e : E) (h : E → A := by (intro hE; simp only [aone, aoneT, gval, astep, aev, val, abin, abinI, abinS, aun, aeqn, aeqL, aeq1, put, upds, sset, sget, aload, astore, aobj, acut, cells_b, one_b, cells_i, one_i, cells_s, one_s, cells_nilp, one_nilp, cells_ref, one_ref, cells_ptr, one_ptr, cells_esl, one_esl, cells_sl, one_sl, cells_row, one_row, cells_fn, one_fn, cells_nilf, one_nilf, cells_nilm, one_nilm, cells_mp, one_mp, cells_mpr, one_mpr, cells_ag, anilck, afieldAddr, aindex, aindexAddr, alen, afill, afillR, aminmax, aminmax.aminmaxI, isNeq, sdl, kin, acall, ares, ares1, arows, aappend, aslice, asliceS, asliceR, aslice0, abnd, List.set_cons_succ, List.set_cons_zero, List.getD_cons_succ, List.getD_cons_zero, List.getElem?_cons_succ, List.getElem?_cons_zero, List.map_cons, List.map_nil, List.cons_append, List.nil_append, List.append_nil, List.length_cons, List.length_nil, List.take_succ_cons, List.take_zero, List.drop_succ_cons, List.drop_zero, List.all_cons, List.all_nil, List.replicate, Nat.reduceAdd, Nat.reduceSub, Nat.reduceMul, Nat.reduceLT, Nat.reduceLeDiff, Nat.reduceEqDiff, Nat.zero_add, Nat.add_zero, Nat.zero_mul, Option.map_some, Option.map_none, Option.bind_some, Option.bind_eq_bind, Option.getD_some, Option.getD_none, Option.isSome_some, Option.isSome_none, Option.toList, if_true, if_false, and_self, and_true, true_and, and_false, false_and, Prod.mk.injEq, Bool.false_eq_true, Bool.true_eq_false, beq_self_eq_true, Bool.not_true, Bool.not_false, Bool.and_self, Bool.and_true, Bool.true_and, decide_true, decide_false, beq_true, beq_false, Bool.not_not, reduceCtorEq, Nat.le_refl, Int.reduceNeg, reduceIte, Nat.reduceBEq, Int.reduceBEq, Int.reduceLT, Int.reduceLE, Int.reduceToNat, decide_eq_true_eq, not_false_eq_true, not_true_eq_false, ne_eq, List.length_map, eLinks_cells, eLinks_one, ePorts_cells, ePorts_one, eRules, eRules_cells, eRules_one, hE] <;> rfl)) : A := h e
theorem nT21_3 {E A : Prop} (e : E) (h : E → A := by (intro hE; simp only [aone, aoneT, gval, astep, aev, val, abin, abinI, abinS, aun, aeqn, aeqL, aeq1, put, upds, sset, sget, aload, astore, aobj, acut, cells_b, one_b, cells_i, one_i, cells_s, one_s, cells_nilp, one_nilp, cells_ref, one_ref, cells_ptr, one_ptr, cells_esl, one_esl, cells_sl, one_sl, cells_row, one_row, cells_fn, one_fn, cells_nilf, one_nilf, cells_nilm, one_nilm, cells_mp, one_mp, cells_mpr, one_mpr, cells_ag, anilck, afieldAddr, aindex, aindexAddr, alen, afill, afillR, aminmax, aminmax.aminmaxI, isNeq, sdl, kin, acall, ares, ares1, arows, aappend, aslice, asliceS, asliceR, aslice0, abnd, List.set_cons_succ, List.set_cons_zero, List.getD_cons_succ, List.getD_cons_zero, List.getElem?_cons_succ, List.getElem?_cons_zero, List.map_cons, List.map_nil, List.cons_append, List.nil_append, List.append_nil, List.length_cons, List.length_nil, List.take_succ_cons, List.take_zero, List.drop_succ_cons, List.drop_zero, List.all_cons, List.all_nil, List.replicate, Nat.reduceAdd, Nat.reduceSub, Nat.reduceMul, Nat.reduceLT, Nat.reduceLeDiff, Nat.reduceEqDiff, Nat.zero_add, Nat.add_zero, Nat.zero_mul, Option.map_some, Option.map_none, Option.bind_some, Option.bind_eq_bind, Option.getD_some, Option.getD_none, Option.isSome_some, Option.isSome_none, Option.toList, if_true, if_false, and_self, and_true, true_and, and_false, false_and, Prod.mk.injEq, Bool.false_eq_true, Bool.true_eq_false, beq_self_eq_true, Bool.not_true, Bool.not_false, Bool.and_self, Bool.and_true, Bool.true_and, decide_true, decide_false, beq_true, beq_false, Bool.not_not, reduceCtorEq, Nat.le_refl, Int.reduceNeg, reduceIte, Nat.reduceBEq, Int.reduceBEq, Int.reduceLT, Int.reduceLE, Int.reduceToNat, decide_eq_true_eq, not_false_eq_true, not_true_eq_false, ne_eq, Int.toNat_natCast, eLinks_cells, eLinks_one, ePorts_cells, ePorts_one, eRules_cells, eRules_one, hE] <;> rfl)) : A := h e
theorem nT21_4 {E A : Prop} (e : E) (h : E → A := by (intro hE; simp only [aone, aoneT, gval, astep, aev, val, abin, abinI, abinS, aun, aeqn, aeqL, aeq1, put, upds, sset, sget, aload, astore, aobj, acut, cells_b, one_b, cells_i, one_i, cells_s, one_s, cells_nilp, one_nilp, cells_ref, one_ref, cells_ptr, one_ptr, cells_esl, one_esl, cells_sl, one_sl, cells_row, one_row, cells_fn, one_fn, cells_nilf, one_nilf, cells_nilm, one_nilm, cells_mp, one_mp, cells_mpr, one_mpr, cells_ag, anilck, afieldAddr, aindex, aindexAddr, alen, afill, afillR, aminmax, aminmax.aminmaxI, isNeq, sdl, kin, acall, ares, ares1, arows, aappend, aslice, asliceS, asliceR, aslice0, abnd, List.set_cons_succ, List.set_cons_zero, List.getD_cons_succ, List.getD_cons_zero, List.getElem?_cons_succ, List.getElem?_cons_zero, List.map_cons, List.map_nil, List.cons_append, List.nil_append, List.append_nil, List.length_cons, List.length_nil, List.take_succ_cons, List.take_zero, List.drop_succ_cons, List.drop_zero, List.all_cons, List.all_nil, List.replicate, Nat.reduceAdd, Nat.reduceSub, Nat.reduceMul, Nat.reduceLT, Nat.reduceLeDiff, Nat.reduceEqDiff, Nat.zero_add, Nat.add_zero, Nat.zero_mul, Option.map_some, Option.map_none, Option.bind_some, Option.bind_eq_bind, Option.getD_some, Option.getD_none, Option.isSome_some, Option.isSome_none, Option.toList, if_true, if_false, and_self, and_true, true_and, and_false, false_and, Prod.mk.injEq, Bool.false_eq_true, Bool.true_eq_false, beq_self_eq_true, Bool.not_true, Bool.not_false, Bool.and_self, Bool.and_true, Bool.true_and, decide_true, decide_false, beq_true, beq_false, Bool.not_not, reduceCtorEq, Nat.le_refl, Int.reduceNeg, reduceIte, Nat.reduceBEq, Int.reduceBEq, Int.reduceLT, Int.reduceLE, Int.reduceToNat, decide_eq_true_eq, not_false_eq_true, not_true_eq_false, ne_eq, List.map_nil, eLinks_cells, eLinks_one, ePorts_cells, ePorts_one, eRules, eRules_cells, eRules_one, hE] <;> rfl)) : A := h e
theorem pT21_ {A : Prop} (h : A := by (simp only [List.forall_mem_cons, List.forall_mem_nil, List.not_mem_nil, false_imp_iff, implies_true, List.forall_mem_map, pure_b, pure_i, pure_s, pure_nilp, pure_nilf, pure_esl, pure_ref, pure_sl, pure_ag, pure_tu, pure_fn, and_self, and_true, true_and, eRules_pure, ePorts_pure, eLinks_pure]; done)) : A := h
/-! ### rule: what is asked of rules, in closures; slices.IndexFunc, Clone -/
theorem rowPure (r : Rule) : Pure (.ag r.row) := .ag _ (by simp [Rule.row, pure_i])
def isAcl (r : Rule) (dev a : Int) : Bool := decide (r.kind > 1) && takesB r dev a
def isFwd (r : Rule) (dev a : Int) : Bool := decide (r.kind ≤ 1) && takesB r dev a
theorem p_Denies_c1 (r : Rule) (dev a : Int) : APure Try.prog n_rule_Denies_c1 [.ag r.row, .ref [.i .i64 dev] 0, .ref [.i .u32 a] 0] (.b (isAcl r dev a)) := by
  refine apure_of h_rule_Denies_c1 ?_; simp only [c_rule_Denies_c1, List.length_cons, List.length_nil, List.cons_append, List.nil_append, Nat.reduceAdd, Nat.reduceSub, List.reduceReplicate]
  (have hE := noX; repeat' (first
    | refine awp_seq ?_
    | (refine awp_reg fun nv => ?_)
    | ((first | refine aops_nil ?_ | refine awp_skip ?_ | refine awp_exit ?_ | refine awp_ret ?_); try simp only [thenQ, blockQ, if_true, if_false, Nat.reduceEqDiff, eq_self, reduceCtorEq, reduceIte])
    | (apply aops_one 0; (· exact nT21_0 hE))
    | (apply aops_call (hlf := h_rule_takes); (· rfl); (· exact nT21_0 hE); (· exact pT21_); (· exact (p_takes r dev a)); (· exact nput))
    | refine awp_block ?_
    | (apply awp_condt; (· exact nT21_0 hE))
    | (apply awp_condf; (· exact nT21_0 hE))
    | (apply awp_cond; (· exact nT21_0 hE); all_goals intro hc)
    | (apply aops_gsplit; (· rfl); (· exact nT21_0 hE); all_goals (intro hg; rw [hg])))); all_goals clear hE
  all_goals
    (apply awp_end [] (by first | exact .inl rfl | exact .inr rfl); (· exact nT21_1 (noX)))
    refine fz_res ?_ (.b _)
    simp [tup, isAcl, *]
theorem p_Match_c1 (r : Rule) (dev a : Int) : APure Try.prog n_rule_Match_c1 [.ag r.row, .ref [.i .i64 dev] 0, .ref [.i .u32 a] 0] (.b (isFwd r dev a)) := by
  refine apure_of h_rule_Match_c1 ?_; simp only [c_rule_Match_c1, List.length_cons, List.length_nil, List.cons_append, List.nil_append, Nat.reduceAdd, Nat.reduceSub, List.reduceReplicate]
  (have hE := noX; repeat' (first
    | refine awp_seq ?_
    | (refine awp_reg fun nv => ?_)
    | ((first | refine aops_nil ?_ | refine awp_skip ?_ | refine awp_exit ?_ | refine awp_ret ?_); try simp only [thenQ, blockQ, if_true, if_false, Nat.reduceEqDiff, eq_self, reduceCtorEq, reduceIte])
    | (apply aops_one 0; (· exact nT21_0 hE))
    | (apply aops_call (hlf := h_rule_takes); (· rfl); (· exact nT21_0 hE); (· exact pT21_); (· exact (p_takes r dev a)); (· exact nput))
    | refine awp_block ?_
    | (apply awp_condt; (· exact nT21_0 hE))
    | (apply awp_condf; (· exact nT21_0 hE))
    | (apply awp_cond; (· exact nT21_0 hE); all_goals intro hc)
    | (apply aops_gsplit; (· rfl); (· exact nT21_0 hE); all_goals (intro hg; rw [hg])))); all_goals clear hE
  all_goals
    (apply awp_end [] (by first | exact .inl rfl | exact .inr rfl); (· exact nT21_1 (noX)))
    refine fz_res ?_ (.b _)
    simp [tup, isFwd, *]
theorem p_first_c1 {g : Nat} {lf : LF} {caps : List AV} {b : Bool} (r : Rule) (h_ask : lowFn Try.prog g = some lf) (hcaps : ∀ x ∈ caps, Pure x) (h : APure Try.prog g (.ag r.row :: caps) (.b b)) : APure Try.prog n_rule_first_c1 [.ag r.row, .ref [.fn g [] caps] 0] (.b (!b)) := by
  refine apure_of h_rule_first_c1 ?_; simp only [c_rule_first_c1, List.length_cons, List.length_nil, List.cons_append, List.nil_append, Nat.reduceAdd, Nat.reduceSub, List.reduceReplicate]
  (have hE := noX; repeat' (first
    | refine awp_seq ?_
    | (refine awp_reg fun nv => ?_)
    | ((first | refine aops_nil ?_ | refine awp_skip ?_ | refine awp_exit ?_ | refine awp_ret ?_); try simp only [thenQ, blockQ, if_true, if_false, Nat.reduceEqDiff, eq_self, reduceCtorEq, reduceIte])
    | (apply aops_one 0; (· exact nT21_0 hE))
    | (apply aops_call (hlf := h_ask); (· rfl); (· exact nT21_0 hE); (· exact (pure_cons (rowPure r) hcaps)); (· exact h); (· exact nput))
    | refine awp_block ?_
    | (apply awp_condt; (· exact nT21_0 hE))
    | (apply awp_condf; (· exact nT21_0 hE))
    | (apply awp_cond; (· exact nT21_0 hE); all_goals intro hc)
    | (apply aops_gsplit; (· rfl); (· exact nT21_0 hE); all_goals (intro hg; rw [hg])))); all_goals clear hE
  all_goals
    (apply awp_end [] (by first | exact .inl rfl | exact .inr rfl); (· exact nT21_1 (noX)))
    exact fz_res rfl (.b _)
def idxF (p : Rule → Bool) (l : List Rule) : Int := match l.findIdx? p with | some j => j | none => -1
theorem findIdxF_at {p : Rule → Bool} {l : List Rule} {j : Nat} (h : j < l.length) (hx : p l[j] = true) (hno : ∀ k (hk : k < l.length), k < j → p l[k] = false) : l.findIdx? p = some j := by
  rw [List.findIdx?_eq_some_iff_getElem]
  exact ⟨h, hx, fun k hk => by simpa using hno k (by omega) hk⟩
theorem findIdxF_none {p : Rule → Bool} {l : List Rule} (hno : ∀ k (hk : k < l.length), p l[k] = false) : l.findIdx? p = none := by
  rw [List.findIdx?_eq_none_iff]
  intro y hy
  obtain ⟨k, hk, rfl⟩ := List.getElem_of_mem hy
  exact hno k hk
set_option maxHeartbeats 1000000 in
theorem p_IndexFunc {g : Nat} {lf : LF} {caps : List AV} (p : Rule → Bool) (l : List Rule) (hl : l.length < 4611686018427387904) (h_ask : lowFn Try.prog g = some lf) (hcaps : ∀ x ∈ caps, Pure x) (h : ∀ r ∈ l, APure Try.prog g (.ag r.row :: caps) (.b (p r))) :
    APure Try.prog n_slices_IndexFunc_api_Rule_api_Rule [eRules l, .fn g [] caps] (.i .i64 (idxF p l)) := by
  refine apure_of h_slices_IndexFunc_api_Rule_api_Rule ?_; simp only [c_slices_IndexFunc_api_Rule_api_Rule, List.length_cons, List.length_nil, List.cons_append, List.nil_append, Nat.reduceAdd, Nat.reduceSub, List.reduceReplicate]
  (have hE := noX; repeat' (first
    | refine awp_seq ?_
    | (refine awp_reg fun nv => ?_)
    | ((first | refine aops_nil ?_ | refine awp_skip ?_ | refine awp_exit ?_ | refine awp_ret ?_); try simp only [thenQ, blockQ, if_true, if_false, Nat.reduceEqDiff, eq_self, reduceCtorEq, reduceIte])
    | (apply aops_one 0; (· exact nT21_2 hE))
    | refine awp_block ?_
    | (apply awp_condt; (· exact nT21_2 hE))
    | (apply awp_condf; (· exact nT21_2 hE))
    | (apply awp_cond; (· exact nT21_2 hE); all_goals intro hc)
    | (apply aops_gsplit; (· rfl); (· exact nT21_2 hE); all_goals (intro hg; rw [hg])))); all_goals clear hE
  refine awp_loop (α := Nat) (fun j => [.sl (l.map Rule.row), .fn g [] caps, .bot, .bot, .bot, .bot, .bot, .i .i64 l.length, .i .i64 j, .bot, .bot, .bot, .bot, .bot, .bot, .bot, .bot, .bot, .bot]) (fun _ => []) (fun j => j ≤ l.length ∧ ∀ k (hk : k < l.length), k < j → p l[k] = false) (fun j => l.length - j) 0 ⟨by omega, fun k _ hk => by omega⟩ ?_ (StLe.nil _) ?_
  · repeat' (first | exact FrLe.nil | apply FrLe.cons | apply FrLe.bot)
  rintro j ⟨hj, hno⟩
  by_cases hlt : j < l.length
  · have hlt' : (j : Int) < (l.length : Int) := by omega
    have hget : (l.map Rule.row)[j]? = some [.i .i64 l[j].id, .i .i64 l[j].dev, .i .i64 l[j].prio, .i .i64 l[j].kind, .i .u32 l[j].f, .i .u32 l[j].t, .i .i64 l[j].port] := by simp [hlt, Rule.row]
    have h0 : (0 : Int) ≤ (j : Int) := by omega
    have hw := wrapS hlt hl
    have hp := h l[j] (List.getElem_mem hlt)
    cases hx : p l[j] with
    | true =>
      rw [hx] at hp
      (have hE := And.intro @hlt' (And.intro @hget (And.intro @h0 (And.intro @hw noX))); repeat' (first
    | refine awp_seq ?_
    | (refine awp_reg fun nv => ?_)
    | ((first | refine aops_nil ?_ | refine awp_skip ?_ | refine awp_exit ?_ | refine awp_ret ?_); try simp only [thenQ, blockQ, if_true, if_false, Nat.reduceEqDiff, eq_self, reduceCtorEq, reduceIte])
    | (apply aops_one 0; (· exact nT21_3 hE))
    | (apply aops_call (hlf := h_ask); (· rfl); (· exact nT21_3 hE); (· exact (pure_cons (rowPure l[j]) hcaps)); (· exact hp); (· exact nput))
    | refine awp_block ?_
    | (apply awp_condt; (· exact nT21_3 hE))
    | (apply awp_condf; (· exact nT21_3 hE))
    | (apply awp_cond; (· exact nT21_3 hE); all_goals intro hc)
    | (apply aops_gsplit; (· rfl); (· exact nT21_3 hE); all_goals (intro hg; rw [hg])))); all_goals clear hE
      all_goals
        (apply awp_end [] (by first | exact .inl rfl | exact .inr rfl); (· exact nT21_1 (noX)))
        refine fz_res ?_ (.i _ _)
        simp only [tup, AV.i.injEq, true_and]
        unfold idxF
        rw [findIdxF_at hlt hx hno]
    | false =>
      rw [hx] at hp
      (have hE := And.intro @hlt' (And.intro @hget (And.intro @h0 (And.intro @hw noX))); repeat' (first
    | refine awp_seq ?_
    | (refine awp_reg fun nv => ?_)
    | ((first | refine aops_nil ?_ | refine awp_skip ?_ | refine awp_exit ?_ | refine awp_ret ?_); try simp only [thenQ, blockQ, if_true, if_false, Nat.reduceEqDiff, eq_self, reduceCtorEq, reduceIte])
    | (apply aops_one 0; (· exact nT21_3 hE))
    | (apply aops_call (hlf := h_ask); (· rfl); (· exact nT21_3 hE); (· exact (pure_cons (rowPure l[j]) hcaps)); (· exact hp); (· exact nput))
    | refine awp_block ?_
    | (apply awp_condt; (· exact nT21_3 hE))
    | (apply awp_condf; (· exact nT21_3 hE))
    | (apply awp_cond; (· exact nT21_3 hE); all_goals intro hc)
    | (apply aops_gsplit; (· rfl); (· exact nT21_3 hE); all_goals (intro hg; rw [hg])))); all_goals clear hE
      all_goals
        refine ⟨j + 1, ⟨by omega, fun k hk1 hk => ?_⟩, by omega, by repeat' (first | exact FrLe.nil | apply FrLe.cons | apply FrLe.bot), StLe.nil _⟩
        by_cases e : k = j
        · subst e; exact hx
        · exact hno k hk1 (by omega)
  · have hlt' : ¬ (j : Int) < (l.length : Int) := by omega
    (have hE := And.intro @hlt' noX; repeat' (first
    | refine awp_seq ?_
    | (refine awp_reg fun nv => ?_)
    | ((first | refine aops_nil ?_ | refine awp_skip ?_ | refine awp_exit ?_ | refine awp_ret ?_); try simp only [thenQ, blockQ, if_true, if_false, Nat.reduceEqDiff, eq_self, reduceCtorEq, reduceIte])
    | (apply aops_one 0; (· exact nT21_1 hE))
    | refine awp_block ?_
    | (apply awp_condt; (· exact nT21_1 hE))
    | (apply awp_condf; (· exact nT21_1 hE))
    | (apply awp_cond; (· exact nT21_1 hE); all_goals intro hc)
    | (apply aops_gsplit; (· rfl); (· exact nT21_1 hE); all_goals (intro hg; rw [hg])))); all_goals clear hE
    all_goals
      (apply awp_end [] (by first | exact .inl rfl | exact .inr rfl); (· exact nT21_1 (noX)))
      refine fz_res ?_ (.i _ _)
      simp only [tup, AV.i.injEq, true_and]
      unfold idxF
      rw [findIdxF_none (fun k hk => hno k hk (by omega))]
theorem c_Clone' (l : List Rule) (hl : l.length < 1000000) (hne : l ≠ []) : ACall Try.prog n_slices_Clone_api_Rule_api_Rule [eRules l] [] fun r σ => ∃ v, r = .row (5, 5) v 0 l.length ∧ StLe σ [((5, 5), ⟨v, .rows 7 (l.map Rule.row)⟩)] := by
  have hb : l.length * 48 ≤ 140737488355328 := by omega
  have hne' : l.map Rule.row ≠ [] := by simpa using hne
  have hall : ∀ r : Rule, (r.row.length == 7) = true := fun r => rfl
  have hone : ((l.map Rule.row).all fun cs => cs.all AV.one) = true := by simp [Rule.row, one_i]
  have hlen : ((l.map Rule.row).all fun cs => cs.length == 7) = true := by simp [Rule.row]
  refine acall_of h_slices_Clone_api_Rule_api_Rule ?_; simp only [c_slices_Clone_api_Rule_api_Rule, List.length_cons, List.length_nil, List.cons_append, List.nil_append, Nat.reduceAdd, Nat.reduceSub, List.reduceReplicate]
  (have hE := And.intro @hb (And.intro @hone (And.intro @hlen noX)); repeat' (first
    | refine awp_seq ?_
    | (refine awp_reg fun nv => ?_)
    | ((first | refine aops_nil ?_ | refine awp_skip ?_ | refine awp_exit ?_ | refine awp_ret ?_); try simp only [thenQ, blockQ, if_true, if_false, Nat.reduceEqDiff, eq_self, reduceCtorEq, reduceIte])
    | (apply aops_one 5; (· exact nT21_2 hE))
    | ((refine aops_eqnilf rfl rfl (.inl rfl) rfl hne' ?_; simp only [isNeq, put, List.set_cons_succ, List.set_cons_zero]))
    | refine awp_block ?_
    | (apply awp_condt; (· exact nT21_2 hE))
    | (apply awp_condf; (· exact nT21_2 hE))
    | (apply awp_cond; (· exact nT21_2 hE); all_goals intro hc)
    | (apply aops_gsplit; (· rfl); (· exact nT21_2 hE); all_goals (intro hg; rw [hg])))); all_goals clear hE
  all_goals
    (apply acall_end (by first | exact .inl rfl | exact .inr rfl); (· exact nT21_1 (noX)))
    exact ⟨_, rfl, stle_cons rfl (StLe.nil _)⟩
theorem c_Clone (l : List Rule) (hl : l.length < 1000000) (hne : l ≠ []) : ACall Try.prog n_slices_Clone_api_Rule_api_Rule [eRules l] [] fun r s => ∃ v : Nat, r = .row (5, 5) v 0 l.length ∧ s = [((5, 5), ⟨v, .rows 7 (l.map Rule.row)⟩)] :=
  (c_Clone' l hl hne).weak fun r s ⟨v, h1, h2⟩ => ⟨_, h2, v, h1, rfl⟩
theorem c_Clone0' : ACall Try.prog n_slices_Clone_api_Rule_api_Rule [eRules []] [] fun r σ => r = .esl ∨ ∃ v, r = .row (5, 5) v 0 0 ∧ StLe σ [((5, 5), ⟨v, .rows 7 []⟩)] := by
  refine acall_of h_slices_Clone_api_Rule_api_Rule ?_; simp only [c_slices_Clone_api_Rule_api_Rule, List.length_cons, List.length_nil, List.cons_append, List.nil_append, Nat.reduceAdd, Nat.reduceSub, List.reduceReplicate]
  (have hE := noX; repeat' (first
    | refine awp_seq ?_
    | (refine awp_reg fun nv => ?_)
    | ((first | refine aops_nil ?_ | refine awp_skip ?_ | refine awp_exit ?_ | refine awp_ret ?_); try simp only [thenQ, blockQ, if_true, if_false, Nat.reduceEqDiff, eq_self, reduceCtorEq, reduceIte])
    | (apply aops_one 5; (· exact nT21_4 hE))
    | ((refine aops_eqnil rfl rfl (.inl rfl) (.inl ⟨_, rfl⟩) fun b => ?_; simp only [put, List.set_cons_succ, List.set_cons_zero]))
    | refine awp_block ?_
    | (apply awp_condt; (· exact nT21_4 hE))
    | (apply awp_condf; (· exact nT21_4 hE))
    | (apply awp_cond; (· exact nT21_4 hE); all_goals intro hc)
    | (apply aops_gsplit; (· rfl); (· exact nT21_4 hE); all_goals (intro hg; rw [hg])))); all_goals clear hE
  · (apply acall_end (by first | exact .inl rfl | exact .inr rfl); (· exact nT21_1 (noX)))
    exact .inl rfl
  · (apply acall_end (by first | exact .inl rfl | exact .inr rfl); (· exact nT21_1 (noX)))
    exact .inr ⟨_, rfl, stle_cons rfl (StLe.nil _)⟩
def clone0R : Option Nat → AV
  | none => .esl
  | some v => .row (5, 5) v 0 0
def clone0S : Option Nat → Store
  | none => []
  | some v => [((5, 5), ⟨v, .rows 7 []⟩)]
theorem c_Clone0 : ACall Try.prog n_slices_Clone_api_Rule_api_Rule [eRules []] [] fun r s => ∃ i, r = clone0R i ∧ s = clone0S i :=
  c_Clone0'.weak fun r s h => by
    rcases h with rfl | ⟨v, rfl, h2⟩
    · exact ⟨[], StLe.nil _, none, rfl, rfl⟩
    · exact ⟨_, h2, some v, rfl, rfl⟩
end Go.Proofs.Ytibkakodokbobaa
