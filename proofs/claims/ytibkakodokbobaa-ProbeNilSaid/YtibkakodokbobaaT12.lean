import Derived.Test.YtibkakodokbobaaT11
namespace Go.Proofs.Ytibkakodokbobaa
open Go.Am
set_option maxRecDepth 100000
set_option linter.unusedSimpArgs false
set_option linter.unusedVariables false
theorem nT12_0 {E A : Prop} (e : E) (h : E → A := by (intro hE; simp only [aone, aoneT, gval, astep, aev, val, abin, abinI, abinS, aun, aeqn, aeqL, aeq1, put, upds, sset, sget, aload, astore, aobj, acut, cells_b, one_b, cells_i, one_i, cells_s, one_s, cells_nilp, one_nilp, cells_ref, one_ref, cells_ptr, one_ptr, cells_esl, one_esl, cells_sl, one_sl, cells_row, one_row, cells_fn, one_fn, cells_nilf, one_nilf, cells_nilm, one_nilm, cells_mp, one_mp, cells_mpr, one_mpr, cells_ag, anilck, afieldAddr, aindex, aindexAddr, alen, afill, afillR, aminmax, aminmax.aminmaxI, isNeq, sdl, kin, acall, ares, ares1, arows, aappend, aslice, asliceS, asliceR, aslice0, abnd, List.set_cons_succ, List.set_cons_zero, List.getD_cons_succ, List.getD_cons_zero, List.getElem?_cons_succ, List.getElem?_cons_zero, List.map_cons, List.map_nil, List.cons_append, List.nil_append, List.append_nil, List.length_cons, List.length_nil, List.take_succ_cons, List.take_zero, List.drop_succ_cons, List.drop_zero, List.all_cons, List.all_nil, List.replicate, Nat.reduceAdd, Nat.reduceSub, Nat.reduceMul, Nat.reduceLT, Nat.reduceLeDiff, Nat.reduceEqDiff, Nat.zero_add, Nat.add_zero, Nat.zero_mul, Option.map_some, Option.map_none, Option.bind_some, Option.bind_eq_bind, Option.getD_some, Option.getD_none, Option.isSome_some, Option.isSome_none, Option.toList, if_true, if_false, and_self, and_true, true_and, and_false, false_and, Prod.mk.injEq, Bool.false_eq_true, Bool.true_eq_false, beq_self_eq_true, Bool.not_true, Bool.not_false, Bool.and_self, Bool.and_true, Bool.true_and, decide_true, decide_false, beq_true, beq_false, Bool.not_not, reduceCtorEq, Nat.le_refl, Int.reduceNeg, reduceIte, Nat.reduceBEq, Int.reduceBEq, Int.reduceLT, Int.reduceLE, Int.reduceToNat, decide_eq_true_eq, not_false_eq_true, not_true_eq_false, ne_eq, eT_cells, eT_nil, eT_one, hE] <;> rfl)) : A := h e
theorem pT12_ {A : Prop} (h : A := by (simp only [List.forall_mem_cons, List.forall_mem_nil, List.not_mem_nil, false_imp_iff, implies_true, List.forall_mem_map, pure_b, pure_i, pure_s, pure_nilp, pure_nilf, pure_esl, pure_ref, pure_sl, pure_ag, pure_tu, pure_fn, and_self, and_true, true_and, eT_pure]; done)) : A := h
/-- The i-th pair. -/
def atS : Nat → T → Int × Int
  | _, .nil => (0, 0)
  | i, .node k v l r => if i = l.sz then (k, v) else if i < l.sz then atS i l else atS (i - (1 + l.sz)) r
def eAt (i : Int) (t : T) : AV := if 0 ≤ i ∧ i < t.sz then .tu [.ag [.i .u64 (atS i.toNat t).1, .i .i64 (atS i.toNat t).2], .b true] else .tu [.ag [.i .u64 0, .i .i64 0], .b false]
set_option maxHeartbeats 2000000 in
theorem p_At (i : Int) (t : T) (hb : t.sz < 576460752303423488) : APure Try.prog n_tree_Tree_int_At [.ref [eT t] 0, .i .i64 i] (eAt i t) := by
  refine apure_of h_tree_Tree_int_At ?_
  simp only [c_tree_Tree_int_At, List.length_cons, List.length_nil, List.cons_append, List.nil_append, Nat.reduceAdd, Nat.reduceSub, List.reduceReplicate]
  by_cases h1 : i < 0
  · have he : eAt i t = .tu [.ag [.i .u64 0, .i .i64 0], .b false] := by unfold eAt; rw [if_neg (by omega)]
    (have hE := And.intro @h1 noX; repeat' (first
    | refine awp_seq ?_
    | (refine awp_reg fun nv => ?_)
    | (refine awp_regd mix fun nv => ?_)
    | ((first | refine aops_nil ?_ | refine adr_nil (by rfl) ?_ | refine awp_skip ?_ | refine awp_exit ?_ | refine awp_ret ?_); try simp only [thenQ, blockQ, if_true, if_false, Nat.reduceEqDiff, eq_self, reduceCtorEq, reduceIte])
    | ((first | apply aops_one 0 | apply adr_one 0); (· exact nT12_0 hE))
    | ((first | apply aops_call (hlf := h_tree_Tree_int_Len) | apply adr_call (hlf := h_tree_Tree_int_Len)); (· rfl); (· exact nT12_0 hE); (· exact pT12_); (· exact (p_Len _)); (· exact nput))
    | ((first | apply aops_call (hlf := h_tree_Tree_int_top) | apply adr_call (hlf := h_tree_Tree_int_top)); (· rfl); (· exact nT12_0 hE); (· exact pT12_); (· exact (p_top _)); (· exact nput))
    | refine awp_block ?_
    | (apply awp_condt; (· exact nT12_0 hE))
    | (apply awp_condf; (· exact nT12_0 hE))
    | (apply awp_cond; (· exact nT12_0 hE); all_goals intro hc)
    | ((first | apply aops_gsplit | apply adr_gsplit); (· rfl); (· exact nT12_0 hE); all_goals (intro hg; rw [hg])))); all_goals clear hE
    all_goals
      (apply awp_end [(0, 4)] (by first | exact .inl rfl | exact .inr rfl); · (simp only [aone, aoneT, gval, astep, aev, val, abin, abinI, abinS, aun, aeqn, aeqL, aeq1, put, upds, sset, sget, aload, astore, aobj, acut, cells_b, one_b, cells_i, one_i, cells_s, one_s, cells_nilp, one_nilp, cells_ref, one_ref, cells_ptr, one_ptr, cells_esl, one_esl, cells_sl, one_sl, cells_row, one_row, cells_fn, one_fn, cells_nilf, one_nilf, cells_nilm, one_nilm, cells_mp, one_mp, cells_mpr, one_mpr, cells_ag, anilck, afieldAddr, aindex, aindexAddr, alen, afill, afillR, aminmax, aminmax.aminmaxI, isNeq, sdl, kin, acall, ares, ares1, arows, aappend, aslice, asliceS, asliceR, aslice0, abnd, List.set_cons_succ, List.set_cons_zero, List.getD_cons_succ, List.getD_cons_zero, List.getElem?_cons_succ, List.getElem?_cons_zero, List.map_cons, List.map_nil, List.cons_append, List.nil_append, List.append_nil, List.length_cons, List.length_nil, List.take_succ_cons, List.take_zero, List.drop_succ_cons, List.drop_zero, List.all_cons, List.all_nil, List.replicate, Nat.reduceAdd, Nat.reduceSub, Nat.reduceMul, Nat.reduceLT, Nat.reduceLeDiff, Nat.reduceEqDiff, Nat.zero_add, Nat.add_zero, Nat.zero_mul, Option.map_some, Option.map_none, Option.bind_some, Option.bind_eq_bind, Option.getD_some, Option.getD_none, Option.isSome_some, Option.isSome_none, Option.toList, if_true, if_false, and_self, and_true, true_and, and_false, false_and, Prod.mk.injEq, Bool.false_eq_true, Bool.true_eq_false, beq_self_eq_true, Bool.not_true, Bool.not_false, Bool.and_self, Bool.and_true, Bool.true_and, decide_true, decide_false, beq_true, beq_false, Bool.not_not, reduceCtorEq, Nat.le_refl, Int.reduceNeg, reduceIte, Nat.reduceBEq, Int.reduceBEq, Int.reduceLT, Int.reduceLE, Int.reduceToNat, decide_eq_true_eq, not_false_eq_true, not_true_eq_false, ne_eq, eT_nil, eT_cells, eT_one] <;> rfl))
      rw [he]
      exact fz_tu ⟨fz_eq' rfl (.ag _ (by simp [pure_i])), fz_eq' rfl (.b _), trivial⟩
  · by_cases h2 : i ≥ (t.sz : Int)
    · have he : eAt i t = .tu [.ag [.i .u64 0, .i .i64 0], .b false] := by unfold eAt; rw [if_neg (by omega)]
      (have hE := And.intro @h1 (And.intro @h2 noX); repeat' (first
    | refine awp_seq ?_
    | (refine awp_reg fun nv => ?_)
    | (refine awp_regd mix fun nv => ?_)
    | ((first | refine aops_nil ?_ | refine adr_nil (by rfl) ?_ | refine awp_skip ?_ | refine awp_exit ?_ | refine awp_ret ?_); try simp only [thenQ, blockQ, if_true, if_false, Nat.reduceEqDiff, eq_self, reduceCtorEq, reduceIte])
    | ((first | apply aops_one 0 | apply adr_one 0); (· exact nT12_0 hE))
    | ((first | apply aops_call (hlf := h_tree_Tree_int_Len) | apply adr_call (hlf := h_tree_Tree_int_Len)); (· rfl); (· exact nT12_0 hE); (· exact pT12_); (· exact (p_Len _)); (· exact nput))
    | ((first | apply aops_call (hlf := h_tree_Tree_int_top) | apply adr_call (hlf := h_tree_Tree_int_top)); (· rfl); (· exact nT12_0 hE); (· exact pT12_); (· exact (p_top _)); (· exact nput))
    | refine awp_block ?_
    | (apply awp_condt; (· exact nT12_0 hE))
    | (apply awp_condf; (· exact nT12_0 hE))
    | (apply awp_cond; (· exact nT12_0 hE); all_goals intro hc)
    | ((first | apply aops_gsplit | apply adr_gsplit); (· rfl); (· exact nT12_0 hE); all_goals (intro hg; rw [hg])))); all_goals clear hE
      all_goals
        (apply awp_end [(0, 4)] (by first | exact .inl rfl | exact .inr rfl); · (simp only [aone, aoneT, gval, astep, aev, val, abin, abinI, abinS, aun, aeqn, aeqL, aeq1, put, upds, sset, sget, aload, astore, aobj, acut, cells_b, one_b, cells_i, one_i, cells_s, one_s, cells_nilp, one_nilp, cells_ref, one_ref, cells_ptr, one_ptr, cells_esl, one_esl, cells_sl, one_sl, cells_row, one_row, cells_fn, one_fn, cells_nilf, one_nilf, cells_nilm, one_nilm, cells_mp, one_mp, cells_mpr, one_mpr, cells_ag, anilck, afieldAddr, aindex, aindexAddr, alen, afill, afillR, aminmax, aminmax.aminmaxI, isNeq, sdl, kin, acall, ares, ares1, arows, aappend, aslice, asliceS, asliceR, aslice0, abnd, List.set_cons_succ, List.set_cons_zero, List.getD_cons_succ, List.getD_cons_zero, List.getElem?_cons_succ, List.getElem?_cons_zero, List.map_cons, List.map_nil, List.cons_append, List.nil_append, List.append_nil, List.length_cons, List.length_nil, List.take_succ_cons, List.take_zero, List.drop_succ_cons, List.drop_zero, List.all_cons, List.all_nil, List.replicate, Nat.reduceAdd, Nat.reduceSub, Nat.reduceMul, Nat.reduceLT, Nat.reduceLeDiff, Nat.reduceEqDiff, Nat.zero_add, Nat.add_zero, Nat.zero_mul, Option.map_some, Option.map_none, Option.bind_some, Option.bind_eq_bind, Option.getD_some, Option.getD_none, Option.isSome_some, Option.isSome_none, Option.toList, if_true, if_false, and_self, and_true, true_and, and_false, false_and, Prod.mk.injEq, Bool.false_eq_true, Bool.true_eq_false, beq_self_eq_true, Bool.not_true, Bool.not_false, Bool.and_self, Bool.and_true, Bool.true_and, decide_true, decide_false, beq_true, beq_false, Bool.not_not, reduceCtorEq, Nat.le_refl, Int.reduceNeg, reduceIte, Nat.reduceBEq, Int.reduceBEq, Int.reduceLT, Int.reduceLE, Int.reduceToNat, decide_eq_true_eq, not_false_eq_true, not_true_eq_false, ne_eq, eT_nil, eT_cells, eT_one] <;> rfl))
        rw [he]
        exact fz_tu ⟨fz_eq' rfl (.ag _ (by simp [pure_i])), fz_eq' rfl (.b _), trivial⟩
    · (have hE := And.intro @h1 (And.intro @h2 noX); repeat' (first
    | refine awp_seq ?_
    | (refine awp_reg fun nv => ?_)
    | (refine awp_regd mix fun nv => ?_)
    | ((first | refine aops_nil ?_ | refine adr_nil (by rfl) ?_ | refine awp_skip ?_ | refine awp_exit ?_ | refine awp_ret ?_); try simp only [thenQ, blockQ, if_true, if_false, Nat.reduceEqDiff, eq_self, reduceCtorEq, reduceIte])
    | ((first | apply aops_one 0 | apply adr_one 0); (· exact nT12_0 hE))
    | ((first | apply aops_call (hlf := h_tree_Tree_int_Len) | apply adr_call (hlf := h_tree_Tree_int_Len)); (· rfl); (· exact nT12_0 hE); (· exact pT12_); (· exact (p_Len _)); (· exact nput))
    | ((first | apply aops_call (hlf := h_tree_Tree_int_top) | apply adr_call (hlf := h_tree_Tree_int_top)); (· rfl); (· exact nT12_0 hE); (· exact pT12_); (· exact (p_top _)); (· exact nput))
    | refine awp_block ?_
    | (apply awp_condt; (· exact nT12_0 hE))
    | (apply awp_condf; (· exact nT12_0 hE))
    | (apply awp_cond; (· exact nT12_0 hE); all_goals intro hc)
    | ((first | apply aops_gsplit | apply adr_gsplit); (· rfl); (· exact nT12_0 hE); all_goals (intro hg; rw [hg])))); all_goals clear hE
      rename_i n0 n1
      have hi : ((i.toNat : Nat) : Int) = i := by omega
      refine awp_loop (α := Nat × T) (fun p => [.bot, .i .i64 (p.1 : Nat), .bot, .bot, .ptr (0, 4) n0 0 0, .bot, eT p.2, .bot, .bot, .bot, .bot, .bot, .bot, .bot, .bot, .bot, .bot, .bot, .bot, .bot, .bot, .bot, .bot, .bot, .bot, .bot, .bot, .bot, .bot, .bot, .bot, .bot, .bot, .bot, .bot, .bot, .bot, .bot, .bot, .bot, .bot, .bot, .bot, .bot, .bot, .bot, .bot, .bot, .bot, .bot, .bot, .bot]) (fun _ => _) (fun p => p.1 < p.2.sz ∧ p.2.sz ≤ t.sz ∧ atS p.1 p.2 = atS i.toNat t) (fun p => p.2.sz) (i.toNat, t) ⟨by show i.toNat < t.sz; omega, Nat.le_refl _, rfl⟩ ?_ (StLe.refl _) ?_
      · simp only [hi]
        repeat' (first | exact FrLe.nil | apply FrLe.cons | apply FrLe.bot)
      rintro ⟨j, s⟩ ⟨q1, q2, q3⟩
      simp only [] at q1 q2 q3
      cases s with
      | nil => simp [T.sz] at q1
      | node k v l r =>
        have hn := eT_node k v l r
        simp only [T.sz] at q1 q2
        have he : eAt i t = .tu [.ag [.i .u64 (atS j (.node k v l r)).1, .i .i64 (atS j (.node k v l r)).2], .b true] := by unfold eAt; rw [if_pos ⟨by omega, by omega⟩, q3]
        by_cases c1 : j = l.sz
        · have c1' : ((j : Nat) : Int) = (l.sz : Int) := by omega
          have c1b : (((j : Nat) : Int) != (l.sz : Int)) = false := by simp [c1]
          have ha : atS j (.node k v l r) = (k, v) := by rw [atS, if_pos c1]
          (have hE := And.intro @hn (And.intro @c1b noX); repeat' (first
    | refine awp_seq ?_
    | (refine awp_reg fun nv => ?_)
    | (refine awp_regd mix fun nv => ?_)
    | ((first | refine aops_nil ?_ | refine adr_nil (by rfl) ?_ | refine awp_skip ?_ | refine awp_exit ?_ | refine awp_ret ?_); try simp only [thenQ, blockQ, if_true, if_false, Nat.reduceEqDiff, eq_self, reduceCtorEq, reduceIte])
    | ((first | apply aops_one 0 | apply adr_one 0); (· exact nT12_0 hE))
    | ((first | apply aops_call (hlf := h_tree_node_int_size) | apply adr_call (hlf := h_tree_node_int_size)); (· rfl); (· exact nT12_0 hE); (· exact pT12_); (· exact (p_size _)); (· exact nput))
    | refine awp_block ?_
    | (apply awp_condt; (· exact nT12_0 hE))
    | (apply awp_condf; (· exact nT12_0 hE))
    | (apply awp_cond; (· exact nT12_0 hE); all_goals intro hc)
    | ((first | apply aops_gsplit | apply adr_gsplit); (· rfl); (· exact nT12_0 hE); all_goals (intro hg; rw [hg])))); all_goals clear hE
          all_goals
            (apply awp_end [(0, 4)] (by first | exact .inl rfl | exact .inr rfl); · (simp only [aone, aoneT, gval, astep, aev, val, abin, abinI, abinS, aun, aeqn, aeqL, aeq1, put, upds, sset, sget, aload, astore, aobj, acut, cells_b, one_b, cells_i, one_i, cells_s, one_s, cells_nilp, one_nilp, cells_ref, one_ref, cells_ptr, one_ptr, cells_esl, one_esl, cells_sl, one_sl, cells_row, one_row, cells_fn, one_fn, cells_nilf, one_nilf, cells_nilm, one_nilm, cells_mp, one_mp, cells_mpr, one_mpr, cells_ag, anilck, afieldAddr, aindex, aindexAddr, alen, afill, afillR, aminmax, aminmax.aminmaxI, isNeq, sdl, kin, acall, ares, ares1, arows, aappend, aslice, asliceS, asliceR, aslice0, abnd, List.set_cons_succ, List.set_cons_zero, List.getD_cons_succ, List.getD_cons_zero, List.getElem?_cons_succ, List.getElem?_cons_zero, List.map_cons, List.map_nil, List.cons_append, List.nil_append, List.append_nil, List.length_cons, List.length_nil, List.take_succ_cons, List.take_zero, List.drop_succ_cons, List.drop_zero, List.all_cons, List.all_nil, List.replicate, Nat.reduceAdd, Nat.reduceSub, Nat.reduceMul, Nat.reduceLT, Nat.reduceLeDiff, Nat.reduceEqDiff, Nat.zero_add, Nat.add_zero, Nat.zero_mul, Option.map_some, Option.map_none, Option.bind_some, Option.bind_eq_bind, Option.getD_some, Option.getD_none, Option.isSome_some, Option.isSome_none, Option.toList, if_true, if_false, and_self, and_true, true_and, and_false, false_and, Prod.mk.injEq, Bool.false_eq_true, Bool.true_eq_false, beq_self_eq_true, Bool.not_true, Bool.not_false, Bool.and_self, Bool.and_true, Bool.true_and, decide_true, decide_false, beq_true, beq_false, Bool.not_not, reduceCtorEq, Nat.le_refl, Int.reduceNeg, reduceIte, Nat.reduceBEq, Int.reduceBEq, Int.reduceLT, Int.reduceLE, Int.reduceToNat, decide_eq_true_eq, not_false_eq_true, not_true_eq_false, ne_eq, eT_nil, eT_cells, eT_one] <;> rfl))
            rw [he, ha]
            exact fz_tu ⟨fz_eq' rfl (.ag _ (by simp [pure_i])), fz_eq' rfl (.b _), trivial⟩
        · have c1b : (((j : Nat) : Int) != (l.sz : Int)) = true := by simp; omega
          by_cases c2 : j < l.sz
          · have c2' : ((j : Nat) : Int) < (l.sz : Int) := by omega
            have ha : atS j (.node k v l r) = atS j l := by rw [atS, if_neg c1, if_pos c2]
            (have hE := And.intro @hn (And.intro @c1b (And.intro @c2' noX)); repeat' (first
    | refine awp_seq ?_
    | (refine awp_reg fun nv => ?_)
    | (refine awp_regd mix fun nv => ?_)
    | ((first | refine aops_nil ?_ | refine adr_nil (by rfl) ?_ | refine awp_skip ?_ | refine awp_exit ?_ | refine awp_ret ?_); try simp only [thenQ, blockQ, if_true, if_false, Nat.reduceEqDiff, eq_self, reduceCtorEq, reduceIte])
    | ((first | apply aops_one 0 | apply adr_one 0); (· exact nT12_0 hE))
    | ((first | apply aops_call (hlf := h_tree_node_int_size) | apply adr_call (hlf := h_tree_node_int_size)); (· rfl); (· exact nT12_0 hE); (· exact pT12_); (· exact (p_size _)); (· exact nput))
    | refine awp_block ?_
    | (apply awp_condt; (· exact nT12_0 hE))
    | (apply awp_condf; (· exact nT12_0 hE))
    | (apply awp_cond; (· exact nT12_0 hE); all_goals intro hc)
    | ((first | apply aops_gsplit | apply adr_gsplit); (· rfl); (· exact nT12_0 hE); all_goals (intro hg; rw [hg])))); all_goals clear hE
            all_goals
              refine ⟨(j, l), ⟨c2, by simp only []; omega, ha.symm.trans q3⟩, by simp only [T.sz]; omega, ?_, StLe.refl _⟩
              repeat' (first | exact FrLe.nil | apply FrLe.cons | apply FrLe.bot)
          · have c2' : ¬ ((j : Nat) : Int) < (l.sz : Int) := by omega
            have ha : atS j (.node k v l r) = atS (j - (1 + l.sz)) r := by rw [atS, if_neg c1, if_neg c2]
            have w1 : IntKind.wrap .i64 (1 + ((l.sz : Nat) : Int)) = 1 + (l.sz : Int) := wrap64 (by omega) (by omega)
            have w2 : IntKind.wrap .i64 (((j : Nat) : Int) - (1 + (l.sz : Int))) = ((j - (1 + l.sz) : Nat) : Int) := by rw [wrap64 (by omega) (by omega)]; omega
            (have hE := And.intro @hn (And.intro @c1b (And.intro @c2' (And.intro @w1 (And.intro @w2 noX)))); repeat' (first
    | refine awp_seq ?_
    | (refine awp_reg fun nv => ?_)
    | (refine awp_regd mix fun nv => ?_)
    | ((first | refine aops_nil ?_ | refine adr_nil (by rfl) ?_ | refine awp_skip ?_ | refine awp_exit ?_ | refine awp_ret ?_); try simp only [thenQ, blockQ, if_true, if_false, Nat.reduceEqDiff, eq_self, reduceCtorEq, reduceIte])
    | ((first | apply aops_one 0 | apply adr_one 0); (· exact nT12_0 hE))
    | ((first | apply aops_call (hlf := h_tree_node_int_size) | apply adr_call (hlf := h_tree_node_int_size)); (· rfl); (· exact nT12_0 hE); (· exact pT12_); (· exact (p_size _)); (· exact nput))
    | refine awp_block ?_
    | (apply awp_condt; (· exact nT12_0 hE))
    | (apply awp_condf; (· exact nT12_0 hE))
    | (apply awp_cond; (· exact nT12_0 hE); all_goals intro hc)
    | ((first | apply aops_gsplit | apply adr_gsplit); (· rfl); (· exact nT12_0 hE); all_goals (intro hg; rw [hg])))); all_goals clear hE
            all_goals
              refine ⟨(j - (1 + l.sz), r), ⟨by simp only []; omega, by simp only []; omega, ha.symm.trans q3⟩, by simp only [T.sz]; omega, ?_, StLe.refl _⟩
              repeat' (first | exact FrLe.nil | apply FrLe.cons | apply FrLe.bot)
end Go.Proofs.Ytibkakodokbobaa
