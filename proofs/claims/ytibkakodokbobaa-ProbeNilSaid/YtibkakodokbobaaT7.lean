import Derived.Test.YtibkakodokbobaaT6
namespace Go.Proofs.Ytibkakodokbobaa
open Go.Am
set_option maxRecDepth 100000
set_option linter.unusedSimpArgs false
set_option linter.unusedVariables false
theorem nT7_0 {E A : Prop} (e : E) (h : E → A := by (intro hE; simp only [aone, aoneT, gval, astep, aev, val, abin, abinI, abinS, aun, aeqn, aeqL, aeq1, put, upds, sset, sget, aload, astore, aobj, acut, cells_b, one_b, cells_i, one_i, cells_s, one_s, cells_nilp, one_nilp, cells_ref, one_ref, cells_ptr, one_ptr, cells_esl, one_esl, cells_sl, one_sl, cells_row, one_row, cells_fn, one_fn, cells_nilf, one_nilf, cells_nilm, one_nilm, cells_mp, one_mp, cells_mpr, one_mpr, cells_ag, anilck, afieldAddr, aindex, aindexAddr, alen, afill, afillR, aminmax, aminmax.aminmaxI, isNeq, sdl, kin, acall, ares, ares1, arows, aappend, aslice, asliceS, asliceR, aslice0, abnd, List.set_cons_succ, List.set_cons_zero, List.getD_cons_succ, List.getD_cons_zero, List.getElem?_cons_succ, List.getElem?_cons_zero, List.map_cons, List.map_nil, List.cons_append, List.nil_append, List.append_nil, List.length_cons, List.length_nil, List.take_succ_cons, List.take_zero, List.drop_succ_cons, List.drop_zero, List.all_cons, List.all_nil, List.replicate, Nat.reduceAdd, Nat.reduceSub, Nat.reduceMul, Nat.reduceLT, Nat.reduceLeDiff, Nat.reduceEqDiff, Nat.zero_add, Nat.add_zero, Nat.zero_mul, Option.map_some, Option.map_none, Option.bind_some, Option.bind_eq_bind, Option.getD_some, Option.getD_none, Option.isSome_some, Option.isSome_none, Option.toList, if_true, if_false, and_self, and_true, true_and, and_false, false_and, Prod.mk.injEq, Bool.false_eq_true, Bool.true_eq_false, beq_self_eq_true, Bool.not_true, Bool.not_false, Bool.and_self, Bool.and_true, Bool.true_and, decide_true, decide_false, beq_true, beq_false, Bool.not_not, reduceCtorEq, Nat.le_refl, Int.reduceNeg, reduceIte, Nat.reduceBEq, Int.reduceBEq, Int.reduceLT, Int.reduceLE, Int.reduceToNat, decide_eq_true_eq, not_false_eq_true, not_true_eq_false, ne_eq, eT_cells, eT_nil, eT_one, hE] <;> rfl)) : A := h e
theorem pT7_ {A : Prop} (h : A := by (simp only [List.forall_mem_cons, List.forall_mem_nil, List.not_mem_nil, false_imp_iff, implies_true, List.forall_mem_map, pure_b, pure_i, pure_s, pure_nilp, pure_nilf, pure_esl, pure_ref, pure_sl, pure_ag, pure_tu, pure_fn, and_self, and_true, true_and, eT_pure]; done)) : A := h
def joinS (l : T) (k v : Int) (r : T) : T :=
  if l.ht > r.ht + 1 then
    match l with
    | .nil => .nil
    | .node lk lv ll lr => evenS ll lk lv (joinS lr k v r)
  else if r.ht > l.ht + 1 then
    match r with
    | .nil => .nil
    | .node rk rv rl rr => evenS (joinS l k v rl) rk rv rr
  else .node k v l r
termination_by l.sz + r.sz
decreasing_by
  all_goals (simp only [T.sz]; omega)
theorem joinS_sz (n : Nat) : ∀ (l : T) (k v : Int) (r : T), l.sz + r.sz ≤ n → (joinS l k v r).sz ≤ 1 + l.sz + r.sz := by
  induction n with
  | zero =>
    intro l k v r h
    cases l with
    | node a b c d => simp only [T.sz] at h; omega
    | nil =>
      cases r with
      | node a b c d => simp only [T.sz] at h; omega
      | nil => rw [joinS.eq_def]; simp [T.ht, T.sz]
  | succ n ih =>
    intro l k v r h
    rw [joinS.eq_def]
    split
    · cases l with
      | nil => simp [T.sz]
      | node lk lv ll lr =>
        simp only [T.sz] at h ⊢
        have h1 := ih lr k v r (by omega)
        have h2 := evenS_sz ll lk lv (joinS lr k v r)
        omega
    · split
      · cases r with
        | nil => simp [T.sz]
        | node rk rv rl rr =>
          simp only [T.sz] at h ⊢
          have h1 := ih l k v rl (by omega)
          have h2 := evenS_sz (joinS l k v rl) rk rv rr
          omega
      · simp only [T.sz]; omega
set_option maxHeartbeats 4000000 in
theorem p_join (k v : Int) (n : Nat) : ∀ (l r : T), l.sz + r.sz ≤ n → l.sz + r.sz < 576460752303423488 → APure Try.prog n_tree_join_int [eT l, .ag [.i .u64 k, .i .i64 v], eT r] (eT (joinS l k v r)) := by
  induction n with
  | zero =>
    intro l r h _
    cases l with
    | node a b c d => simp only [T.sz] at h; omega
    | nil =>
      cases r with
      | node a b c d => simp only [T.sz] at h; omega
      | nil =>
        have he : joinS .nil k v .nil = .node k v .nil .nil := by rw [joinS.eq_def]; simp [T.ht]
        have hw : IntKind.wrap .i64 (((T.nil.ht : Nat) : Int) + 1) = 1 := by rw [T.ht]; exact wrap64 (by omega) (by omega)
        have h1 : ¬ ((T.nil.ht : Nat) : Int) > 1 := by rw [T.ht]; omega
        rw [he]
        refine apure_of h_tree_join_int ?_
        simp only [c_tree_join_int, List.length_cons, List.length_nil, List.cons_append, List.nil_append, Nat.reduceAdd, Nat.reduceSub, List.reduceReplicate]
        (have hE := And.intro @hw (And.intro @h1 noX); repeat' (first
    | refine awp_seq ?_
    | (refine awp_reg fun nv => ?_)
    | (refine awp_regd mix fun nv => ?_)
    | ((first | refine aops_nil ?_ | refine adr_nil (by rfl) ?_ | refine awp_skip ?_ | refine awp_exit ?_ | refine awp_ret ?_); try simp only [thenQ, blockQ, if_true, if_false, Nat.reduceEqDiff, eq_self, reduceCtorEq, reduceIte])
    | ((first | apply aops_one 0 | apply adr_one 0); (· exact nT7_0 hE))
    | ((first | apply aops_call (hlf := h_tree_node_int_high) | apply adr_call (hlf := h_tree_node_int_high)); (· rfl); (· exact nT7_0 hE); (· exact pT7_); (· exact (p_high .nil)); (· exact nput))
    | ((first | apply aops_call (hlf := h_tree_made_int) | apply adr_call (hlf := h_tree_made_int)); (· rfl); (· exact nT7_0 hE); (· exact pT7_); (· exact (p_made _ _ .nil .nil (by decide))); (· exact nput))
    | refine awp_block ?_
    | (apply awp_condt; (· exact nT7_0 hE))
    | (apply awp_condf; (· exact nT7_0 hE))
    | (apply awp_cond; (· exact nT7_0 hE); all_goals intro hc)
    | ((first | apply aops_gsplit | apply adr_gsplit); (· rfl); (· exact nT7_0 hE); all_goals (intro hg; rw [hg])))); all_goals clear hE
        all_goals
          (apply awp_end [] (by first | exact .inl rfl | exact .inr rfl); · (simp only [aone, aoneT, gval, astep, aev, val, abin, abinI, abinS, aun, aeqn, aeqL, aeq1, put, upds, sset, sget, aload, astore, aobj, acut, cells_b, one_b, cells_i, one_i, cells_s, one_s, cells_nilp, one_nilp, cells_ref, one_ref, cells_ptr, one_ptr, cells_esl, one_esl, cells_sl, one_sl, cells_row, one_row, cells_fn, one_fn, cells_nilf, one_nilf, cells_nilm, one_nilm, cells_mp, one_mp, cells_mpr, one_mpr, cells_ag, anilck, afieldAddr, aindex, aindexAddr, alen, afill, afillR, aminmax, aminmax.aminmaxI, isNeq, sdl, kin, acall, ares, ares1, arows, aappend, aslice, asliceS, asliceR, aslice0, abnd, List.set_cons_succ, List.set_cons_zero, List.getD_cons_succ, List.getD_cons_zero, List.getElem?_cons_succ, List.getElem?_cons_zero, List.map_cons, List.map_nil, List.cons_append, List.nil_append, List.append_nil, List.length_cons, List.length_nil, List.take_succ_cons, List.take_zero, List.drop_succ_cons, List.drop_zero, List.all_cons, List.all_nil, List.replicate, Nat.reduceAdd, Nat.reduceSub, Nat.reduceMul, Nat.reduceLT, Nat.reduceLeDiff, Nat.reduceEqDiff, Nat.zero_add, Nat.add_zero, Nat.zero_mul, Option.map_some, Option.map_none, Option.bind_some, Option.bind_eq_bind, Option.getD_some, Option.getD_none, Option.isSome_some, Option.isSome_none, Option.toList, if_true, if_false, and_self, and_true, true_and, and_false, false_and, Prod.mk.injEq, Bool.false_eq_true, Bool.true_eq_false, beq_self_eq_true, Bool.not_true, Bool.not_false, Bool.and_self, Bool.and_true, Bool.true_and, decide_true, decide_false, beq_true, beq_false, Bool.not_not, reduceCtorEq, Nat.le_refl, Int.reduceNeg, reduceIte, Nat.reduceBEq, Int.reduceBEq, Int.reduceLT, Int.reduceLE, Int.reduceToNat, decide_eq_true_eq, not_false_eq_true, not_true_eq_false, ne_eq, eT_nil, eT_cells, eT_one] <;> rfl))
          exact fz_eq' rfl (eT_Pure _)
  | succ n ih =>
    intro l r h hb
    have hl := l.ht_le
    have hr := r.ht_le
    have hw1 : IntKind.wrap .i64 ((r.ht : Int) + 1) = ((r.ht + 1 : Nat) : Int) := by rw [wrap64 (by omega) (by omega)]; omega
    have hw2 : IntKind.wrap .i64 ((l.ht : Int) + 1) = ((l.ht + 1 : Nat) : Int) := by rw [wrap64 (by omega) (by omega)]; omega
    refine apure_of h_tree_join_int ?_
    simp only [c_tree_join_int, List.length_cons, List.length_nil, List.cons_append, List.nil_append, Nat.reduceAdd, Nat.reduceSub, List.reduceReplicate]
    by_cases h1 : l.ht > r.ht + 1
    · have h1' : (l.ht : Int) > ((r.ht + 1 : Nat) : Int) := by omega
      cases l with
      | nil => simp [T.ht] at h1
      | node lk lv ll lr =>
        have hn := eT_node lk lv ll lr
        have he : joinS (.node lk lv ll lr) k v r = evenS ll lk lv (joinS lr k v r) := by rw [joinS.eq_def, if_pos h1]
        rw [he]
        simp only [T.sz] at hb h
        have hz := joinS_sz _ lr k v r (Nat.le_refl _)
        rw [T.ht] at h1' hw2
        (have hE := And.intro @hn (And.intro @hw1 (And.intro @hw2 (And.intro @h1' noX))); repeat' (first
    | refine awp_seq ?_
    | (refine awp_reg fun nv => ?_)
    | (refine awp_regd mix fun nv => ?_)
    | ((first | refine aops_nil ?_ | refine adr_nil (by rfl) ?_ | refine awp_skip ?_ | refine awp_exit ?_ | refine awp_ret ?_); try simp only [thenQ, blockQ, if_true, if_false, Nat.reduceEqDiff, eq_self, reduceCtorEq, reduceIte])
    | ((first | apply aops_one 0 | apply adr_one 0); (· exact nT7_0 hE))
    | ((first | apply aops_call (hlf := h_tree_node_int_high) | apply adr_call (hlf := h_tree_node_int_high)); (· rfl); (· exact nT7_0 hE); (· exact pT7_); (· exact (p_high _)); (· exact nput))
    | ((first | apply aops_call (hlf := h_tree_node_int_high) | apply adr_call (hlf := h_tree_node_int_high)); (· rfl); (· exact nT7_0 hE); (· exact pT7_); (· exact (p_highN _ _ _ _ _ _)); (· exact nput))
    | ((first | apply aops_call (hlf := h_tree_join_int) | apply adr_call (hlf := h_tree_join_int)); (· rfl); (· exact nT7_0 hE); (· exact pT7_); (· exact (ih _ _ (by omega) (by omega))); (· exact nput))
    | ((first | apply aops_call (hlf := h_tree_even_int) | apply adr_call (hlf := h_tree_even_int)); (· rfl); (· exact nT7_0 hE); (· exact pT7_); (· exact (p_even _ _ _ _ (by omega))); (· exact nput))
    | refine awp_block ?_
    | (apply awp_condt; (· exact nT7_0 hE))
    | (apply awp_condf; (· exact nT7_0 hE))
    | (apply awp_cond; (· exact nT7_0 hE); all_goals intro hc)
    | ((first | apply aops_gsplit | apply adr_gsplit); (· rfl); (· exact nT7_0 hE); all_goals (intro hg; rw [hg])))); all_goals clear hE
        all_goals
          (apply awp_end [] (by first | exact .inl rfl | exact .inr rfl); · (simp only [aone, aoneT, gval, astep, aev, val, abin, abinI, abinS, aun, aeqn, aeqL, aeq1, put, upds, sset, sget, aload, astore, aobj, acut, cells_b, one_b, cells_i, one_i, cells_s, one_s, cells_nilp, one_nilp, cells_ref, one_ref, cells_ptr, one_ptr, cells_esl, one_esl, cells_sl, one_sl, cells_row, one_row, cells_fn, one_fn, cells_nilf, one_nilf, cells_nilm, one_nilm, cells_mp, one_mp, cells_mpr, one_mpr, cells_ag, anilck, afieldAddr, aindex, aindexAddr, alen, afill, afillR, aminmax, aminmax.aminmaxI, isNeq, sdl, kin, acall, ares, ares1, arows, aappend, aslice, asliceS, asliceR, aslice0, abnd, List.set_cons_succ, List.set_cons_zero, List.getD_cons_succ, List.getD_cons_zero, List.getElem?_cons_succ, List.getElem?_cons_zero, List.map_cons, List.map_nil, List.cons_append, List.nil_append, List.append_nil, List.length_cons, List.length_nil, List.take_succ_cons, List.take_zero, List.drop_succ_cons, List.drop_zero, List.all_cons, List.all_nil, List.replicate, Nat.reduceAdd, Nat.reduceSub, Nat.reduceMul, Nat.reduceLT, Nat.reduceLeDiff, Nat.reduceEqDiff, Nat.zero_add, Nat.add_zero, Nat.zero_mul, Option.map_some, Option.map_none, Option.bind_some, Option.bind_eq_bind, Option.getD_some, Option.getD_none, Option.isSome_some, Option.isSome_none, Option.toList, if_true, if_false, and_self, and_true, true_and, and_false, false_and, Prod.mk.injEq, Bool.false_eq_true, Bool.true_eq_false, beq_self_eq_true, Bool.not_true, Bool.not_false, Bool.and_self, Bool.and_true, Bool.true_and, decide_true, decide_false, beq_true, beq_false, Bool.not_not, reduceCtorEq, Nat.le_refl, Int.reduceNeg, reduceIte, Nat.reduceBEq, Int.reduceBEq, Int.reduceLT, Int.reduceLE, Int.reduceToNat, decide_eq_true_eq, not_false_eq_true, not_true_eq_false, ne_eq, eT_nil, eT_cells, eT_one] <;> rfl))
          exact fz_eq' rfl (eT_Pure _)
    · have h1' : ¬ (l.ht : Int) > ((r.ht + 1 : Nat) : Int) := by omega
      by_cases h3 : r.ht > l.ht + 1
      · have h3' : (r.ht : Int) > ((l.ht + 1 : Nat) : Int) := by omega
        cases r with
        | nil => simp [T.ht] at h3
        | node rk rv rl rr =>
          have hn := eT_node rk rv rl rr
          have he : joinS l k v (.node rk rv rl rr) = evenS (joinS l k v rl) rk rv rr := by rw [joinS.eq_def, if_neg h1, if_pos h3]
          rw [he]
          simp only [T.sz] at hb h
          have hz := joinS_sz _ l k v rl (Nat.le_refl _)
          rw [T.ht] at h1' h3' hw1
          (have hE := And.intro @hn (And.intro @hw1 (And.intro @hw2 (And.intro @h1' (And.intro @h3' noX)))); repeat' (first
    | refine awp_seq ?_
    | (refine awp_reg fun nv => ?_)
    | (refine awp_regd mix fun nv => ?_)
    | ((first | refine aops_nil ?_ | refine adr_nil (by rfl) ?_ | refine awp_skip ?_ | refine awp_exit ?_ | refine awp_ret ?_); try simp only [thenQ, blockQ, if_true, if_false, Nat.reduceEqDiff, eq_self, reduceCtorEq, reduceIte])
    | ((first | apply aops_one 0 | apply adr_one 0); (· exact nT7_0 hE))
    | ((first | apply aops_call (hlf := h_tree_node_int_high) | apply adr_call (hlf := h_tree_node_int_high)); (· rfl); (· exact nT7_0 hE); (· exact pT7_); (· exact (p_high _)); (· exact nput))
    | ((first | apply aops_call (hlf := h_tree_node_int_high) | apply adr_call (hlf := h_tree_node_int_high)); (· rfl); (· exact nT7_0 hE); (· exact pT7_); (· exact (p_highN _ _ _ _ _ _)); (· exact nput))
    | ((first | apply aops_call (hlf := h_tree_join_int) | apply adr_call (hlf := h_tree_join_int)); (· rfl); (· exact nT7_0 hE); (· exact pT7_); (· exact (ih _ _ (by omega) (by omega))); (· exact nput))
    | ((first | apply aops_call (hlf := h_tree_even_int) | apply adr_call (hlf := h_tree_even_int)); (· rfl); (· exact nT7_0 hE); (· exact pT7_); (· exact (p_even _ _ _ _ (by omega))); (· exact nput))
    | refine awp_block ?_
    | (apply awp_condt; (· exact nT7_0 hE))
    | (apply awp_condf; (· exact nT7_0 hE))
    | (apply awp_cond; (· exact nT7_0 hE); all_goals intro hc)
    | ((first | apply aops_gsplit | apply adr_gsplit); (· rfl); (· exact nT7_0 hE); all_goals (intro hg; rw [hg])))); all_goals clear hE
          all_goals
            (apply awp_end [] (by first | exact .inl rfl | exact .inr rfl); · (simp only [aone, aoneT, gval, astep, aev, val, abin, abinI, abinS, aun, aeqn, aeqL, aeq1, put, upds, sset, sget, aload, astore, aobj, acut, cells_b, one_b, cells_i, one_i, cells_s, one_s, cells_nilp, one_nilp, cells_ref, one_ref, cells_ptr, one_ptr, cells_esl, one_esl, cells_sl, one_sl, cells_row, one_row, cells_fn, one_fn, cells_nilf, one_nilf, cells_nilm, one_nilm, cells_mp, one_mp, cells_mpr, one_mpr, cells_ag, anilck, afieldAddr, aindex, aindexAddr, alen, afill, afillR, aminmax, aminmax.aminmaxI, isNeq, sdl, kin, acall, ares, ares1, arows, aappend, aslice, asliceS, asliceR, aslice0, abnd, List.set_cons_succ, List.set_cons_zero, List.getD_cons_succ, List.getD_cons_zero, List.getElem?_cons_succ, List.getElem?_cons_zero, List.map_cons, List.map_nil, List.cons_append, List.nil_append, List.append_nil, List.length_cons, List.length_nil, List.take_succ_cons, List.take_zero, List.drop_succ_cons, List.drop_zero, List.all_cons, List.all_nil, List.replicate, Nat.reduceAdd, Nat.reduceSub, Nat.reduceMul, Nat.reduceLT, Nat.reduceLeDiff, Nat.reduceEqDiff, Nat.zero_add, Nat.add_zero, Nat.zero_mul, Option.map_some, Option.map_none, Option.bind_some, Option.bind_eq_bind, Option.getD_some, Option.getD_none, Option.isSome_some, Option.isSome_none, Option.toList, if_true, if_false, and_self, and_true, true_and, and_false, false_and, Prod.mk.injEq, Bool.false_eq_true, Bool.true_eq_false, beq_self_eq_true, Bool.not_true, Bool.not_false, Bool.and_self, Bool.and_true, Bool.true_and, decide_true, decide_false, beq_true, beq_false, Bool.not_not, reduceCtorEq, Nat.le_refl, Int.reduceNeg, reduceIte, Nat.reduceBEq, Int.reduceBEq, Int.reduceLT, Int.reduceLE, Int.reduceToNat, decide_eq_true_eq, not_false_eq_true, not_true_eq_false, ne_eq, eT_nil, eT_cells, eT_one] <;> rfl))
            exact fz_eq' rfl (eT_Pure _)
      · have h3' : ¬ (r.ht : Int) > ((l.ht + 1 : Nat) : Int) := by omega
        have he : joinS l k v r = .node k v l r := by rw [joinS.eq_def, if_neg h1, if_neg h3]
        rw [he]
        (have hE := And.intro @hw1 (And.intro @hw2 (And.intro @h1' (And.intro @h3' noX))); repeat' (first
    | refine awp_seq ?_
    | (refine awp_reg fun nv => ?_)
    | (refine awp_regd mix fun nv => ?_)
    | ((first | refine aops_nil ?_ | refine adr_nil (by rfl) ?_ | refine awp_skip ?_ | refine awp_exit ?_ | refine awp_ret ?_); try simp only [thenQ, blockQ, if_true, if_false, Nat.reduceEqDiff, eq_self, reduceCtorEq, reduceIte])
    | ((first | apply aops_one 0 | apply adr_one 0); (· exact nT7_0 hE))
    | ((first | apply aops_call (hlf := h_tree_node_int_high) | apply adr_call (hlf := h_tree_node_int_high)); (· rfl); (· exact nT7_0 hE); (· exact pT7_); (· exact (p_high _)); (· exact nput))
    | ((first | apply aops_call (hlf := h_tree_made_int) | apply adr_call (hlf := h_tree_made_int)); (· rfl); (· exact nT7_0 hE); (· exact pT7_); (· exact (p_made _ _ _ _ (by omega))); (· exact nput))
    | refine awp_block ?_
    | (apply awp_condt; (· exact nT7_0 hE))
    | (apply awp_condf; (· exact nT7_0 hE))
    | (apply awp_cond; (· exact nT7_0 hE); all_goals intro hc)
    | ((first | apply aops_gsplit | apply adr_gsplit); (· rfl); (· exact nT7_0 hE); all_goals (intro hg; rw [hg])))); all_goals clear hE
        all_goals
          (apply awp_end [] (by first | exact .inl rfl | exact .inr rfl); · (simp only [aone, aoneT, gval, astep, aev, val, abin, abinI, abinS, aun, aeqn, aeqL, aeq1, put, upds, sset, sget, aload, astore, aobj, acut, cells_b, one_b, cells_i, one_i, cells_s, one_s, cells_nilp, one_nilp, cells_ref, one_ref, cells_ptr, one_ptr, cells_esl, one_esl, cells_sl, one_sl, cells_row, one_row, cells_fn, one_fn, cells_nilf, one_nilf, cells_nilm, one_nilm, cells_mp, one_mp, cells_mpr, one_mpr, cells_ag, anilck, afieldAddr, aindex, aindexAddr, alen, afill, afillR, aminmax, aminmax.aminmaxI, isNeq, sdl, kin, acall, ares, ares1, arows, aappend, aslice, asliceS, asliceR, aslice0, abnd, List.set_cons_succ, List.set_cons_zero, List.getD_cons_succ, List.getD_cons_zero, List.getElem?_cons_succ, List.getElem?_cons_zero, List.map_cons, List.map_nil, List.cons_append, List.nil_append, List.append_nil, List.length_cons, List.length_nil, List.take_succ_cons, List.take_zero, List.drop_succ_cons, List.drop_zero, List.all_cons, List.all_nil, List.replicate, Nat.reduceAdd, Nat.reduceSub, Nat.reduceMul, Nat.reduceLT, Nat.reduceLeDiff, Nat.reduceEqDiff, Nat.zero_add, Nat.add_zero, Nat.zero_mul, Option.map_some, Option.map_none, Option.bind_some, Option.bind_eq_bind, Option.getD_some, Option.getD_none, Option.isSome_some, Option.isSome_none, Option.toList, if_true, if_false, and_self, and_true, true_and, and_false, false_and, Prod.mk.injEq, Bool.false_eq_true, Bool.true_eq_false, beq_self_eq_true, Bool.not_true, Bool.not_false, Bool.and_self, Bool.and_true, Bool.true_and, decide_true, decide_false, beq_true, beq_false, Bool.not_not, reduceCtorEq, Nat.le_refl, Int.reduceNeg, reduceIte, Nat.reduceBEq, Int.reduceBEq, Int.reduceLT, Int.reduceLE, Int.reduceToNat, decide_eq_true_eq, not_false_eq_true, not_true_eq_false, ne_eq, eT_nil, eT_cells, eT_one] <;> rfl))
          exact fz_eq' rfl (eT_Pure _)
end Go.Proofs.Ytibkakodokbobaa
