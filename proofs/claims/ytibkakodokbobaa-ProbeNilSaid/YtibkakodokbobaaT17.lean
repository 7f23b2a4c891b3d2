import Derived.Test.YtibkakodokbobaaT16
namespace Go.Proofs.Ytibkakodokbobaa
open Go.Am
set_option maxRecDepth 100000
set_option linter.unusedSimpArgs false
set_option linter.unusedVariables false
theorem nT17_0 {E A : Prop} (e : E) (h : E → A := by (intro hE; simp only [aone, aoneT, gval, astep, aev, val, abin, abinI, abinS, aun, aeqn, aeqL, aeq1, put, upds, sset, sget, aload, astore, aobj, acut, cells_b, one_b, cells_i, one_i, cells_s, one_s, cells_nilp, one_nilp, cells_ref, one_ref, cells_ptr, one_ptr, cells_esl, one_esl, cells_sl, one_sl, cells_row, one_row, cells_fn, one_fn, cells_nilf, one_nilf, cells_nilm, one_nilm, cells_mp, one_mp, cells_mpr, one_mpr, cells_ag, anilck, afieldAddr, aindex, aindexAddr, alen, afill, afillR, aminmax, aminmax.aminmaxI, isNeq, sdl, kin, acall, ares, ares1, arows, aappend, aslice, asliceS, asliceR, aslice0, abnd, List.set_cons_succ, List.set_cons_zero, List.getD_cons_succ, List.getD_cons_zero, List.getElem?_cons_succ, List.getElem?_cons_zero, List.map_cons, List.map_nil, List.cons_append, List.nil_append, List.append_nil, List.length_cons, List.length_nil, List.take_succ_cons, List.take_zero, List.drop_succ_cons, List.drop_zero, List.all_cons, List.all_nil, List.replicate, Nat.reduceAdd, Nat.reduceSub, Nat.reduceMul, Nat.reduceLT, Nat.reduceLeDiff, Nat.reduceEqDiff, Nat.zero_add, Nat.add_zero, Nat.zero_mul, Option.map_some, Option.map_none, Option.bind_some, Option.bind_eq_bind, Option.getD_some, Option.getD_none, Option.isSome_some, Option.isSome_none, Option.toList, if_true, if_false, and_self, and_true, true_and, and_false, false_and, Prod.mk.injEq, Bool.false_eq_true, Bool.true_eq_false, beq_self_eq_true, Bool.not_true, Bool.not_false, Bool.and_self, Bool.and_true, Bool.true_and, decide_true, decide_false, beq_true, beq_false, Bool.not_not, reduceCtorEq, Nat.le_refl, Int.reduceNeg, reduceIte, Nat.reduceBEq, Int.reduceBEq, Int.reduceLT, Int.reduceLE, Int.reduceToNat, decide_eq_true_eq, not_false_eq_true, not_true_eq_false, ne_eq, eT_cells, eT_nil, eT_one, hE] <;> rfl)) : A := h e
theorem pT17_ {A : Prop} (h : A := by (simp only [List.forall_mem_cons, List.forall_mem_nil, List.not_mem_nil, false_imp_iff, implies_true, List.forall_mem_map, pure_b, pure_i, pure_s, pure_nilp, pure_nilf, pure_esl, pure_ref, pure_sl, pure_ag, pure_tu, pure_fn, and_self, and_true, true_and, eT_pure]; done)) : A := h
/-! ### atoms: with, New, Add -/
def eTab (a b : T) (n : Int) : AV := .ref [.ref [eT a] 0, .ref [eT b] 0, .i .i64 n] 0
theorem eTab_Pure (a b : T) (n : Int) : Pure (eTab a b n) := .ref _ _ (by simp [pure_ref, pure_i, eT_pure])
theorem refT_Pure (t : T) : Pure (.ref [eT t] 0) := .ref _ _ (by simp [eT_pure])
def MoreOk (k by_ : Int) (t t' : T) : Prop := moreS k by_ t = some t' ∧ t.sz < 576460752303423488 ∧ IntKind.wrap .i64 ((getS k t).getD 0 + by_) = (getS k t).getD 0 + by_
theorem p_moreOk {k by_ : Int} {t t' : T} (h : MoreOk k by_ t t') : APure Try.prog n_atoms_more_int [.ref [eT t] 0, .i .u64 k, .i .i64 by_] (.ref [eT t'] 0) := by
  have := p_more k by_ t h.2.1 h.2.2
  rw [h.1] at this
  exact this
set_option maxHeartbeats 2000000 in
theorem p_withT (a a1 a2 b b1 : T) (n f t by_ : Int) (hf : 0 ≤ f) (hf' : f < 4294967296) (ht : 0 ≤ t) (ht' : t < 4294967296) (hn : IntKind.wrap .i64 (n + by_) = n + by_)
    (h1 : MoreOk (keyS f t) by_ b b1) (h2 : MoreOk f by_ a a1) (h3 : if t < 4294967295 then MoreOk (t + 1) by_ a1 a2 else a2 = a1) :
    APure Try.prog n_atoms_Table_with [.ref [.ref [eT a] 0, .ref [eT b] 0, .i .i64 n] 0, .ag [.i .u32 f, .i .u32 t], .i .i64 by_] (eTab a2 b1 (n + by_)) := by
  have he := p_ends f t hf hf' ht ht'
  by_cases h : t < 4294967295
  · rw [if_pos h] at h3
    rw [endsS, if_pos h] at he
    simp only [List.map_cons, List.map_nil] at he
    refine apure_of h_atoms_Table_with ?_; simp only [c_atoms_Table_with, List.length_cons, List.length_nil, List.cons_append, List.nil_append, Nat.reduceAdd, Nat.reduceSub, List.reduceReplicate]
    (have hE := And.intro @hn noX; repeat' (first
    | refine awp_seq ?_
    | (refine awp_reg fun nv => ?_)
    | (refine awp_regd mix fun nv => ?_)
    | ((first | refine aops_nil ?_ | refine adr_nil (by rfl) ?_ | refine awp_skip ?_ | refine awp_exit ?_ | refine awp_ret ?_); try simp only [thenQ, blockQ, if_true, if_false, Nat.reduceEqDiff, eq_self, reduceCtorEq, reduceIte])
    | ((first | apply aops_one 0 | apply adr_one 0); (· exact nT17_0 hE))
    | ((first | apply aops_call (hlf := h_atoms_key) | apply adr_call (hlf := h_atoms_key)); (· rfl); (· exact nT17_0 hE); (· exact pT17_); (· exact (p_key _ _ hf hf' ht ht')); (· exact nput))
    | ((first | apply aops_call (hlf := h_atoms_ends) | apply adr_call (hlf := h_atoms_ends)); (· rfl); (· exact nT17_0 hE); (· exact pT17_); (· exact he); (· exact nput))
    | ((first | apply aops_call (hlf := h_atoms_more_int) | apply adr_call (hlf := h_atoms_more_int)); (· rfl); (· exact nT17_0 hE); (· exact pT17_); (· exact (p_moreOk h1)); (· exact nput))
    | ((first | apply aops_call (hlf := h_atoms_more_int) | apply adr_call (hlf := h_atoms_more_int)); (· rfl); (· exact nT17_0 hE); (· exact pT17_); (· exact (p_moreOk h2)); (· exact nput))
    | ((first | apply aops_call (hlf := h_atoms_more_int) | apply adr_call (hlf := h_atoms_more_int)); (· rfl); (· exact nT17_0 hE); (· exact pT17_); (· exact (p_moreOk h3)); (· exact nput))
    | (refine awp_loopn 4 ?_)
    | (refine loopn_succ ?_)
    | refine awp_block ?_
    | (apply awp_condt; (· exact nT17_0 hE))
    | (apply awp_condf; (· exact nT17_0 hE))
    | (apply awp_cond; (· exact nT17_0 hE); all_goals intro hc)
    | ((first | apply aops_gsplit | apply adr_gsplit); (· rfl); (· exact nT17_0 hE); all_goals (intro hg; rw [hg])))); all_goals clear hE
    all_goals
      (apply awp_end [(0, 29)] (by first | exact .inl rfl | exact .inr rfl); (· exact nT17_0 (noX)))
      refine fz_ptr (by simp) (by simp only [aone, aoneT, gval, astep, aev, val, abin, abinI, abinS, aun, aeqn, aeqL, aeq1, put, upds, sset, sget, aload, astore, aobj, acut, cells_b, one_b, cells_i, one_i, cells_s, one_s, cells_nilp, one_nilp, cells_ref, one_ref, cells_ptr, one_ptr, cells_esl, one_esl, cells_sl, one_sl, cells_row, one_row, cells_fn, one_fn, cells_nilf, one_nilf, cells_nilm, one_nilm, cells_mp, one_mp, cells_mpr, one_mpr, cells_ag, anilck, afieldAddr, aindex, aindexAddr, alen, afill, afillR, aminmax, aminmax.aminmaxI, isNeq, sdl, kin, acall, ares, ares1, arows, aappend, aslice, asliceS, asliceR, aslice0, abnd, List.set_cons_succ, List.set_cons_zero, List.getD_cons_succ, List.getD_cons_zero, List.getElem?_cons_succ, List.getElem?_cons_zero, List.map_cons, List.map_nil, List.cons_append, List.nil_append, List.append_nil, List.length_cons, List.length_nil, List.take_succ_cons, List.take_zero, List.drop_succ_cons, List.drop_zero, List.all_cons, List.all_nil, List.replicate, Nat.reduceAdd, Nat.reduceSub, Nat.reduceMul, Nat.reduceLT, Nat.reduceLeDiff, Nat.reduceEqDiff, Nat.zero_add, Nat.add_zero, Nat.zero_mul, Option.map_some, Option.map_none, Option.bind_some, Option.bind_eq_bind, Option.getD_some, Option.getD_none, Option.isSome_some, Option.isSome_none, Option.toList, if_true, if_false, and_self, and_true, true_and, and_false, false_and, Prod.mk.injEq, Bool.false_eq_true, Bool.true_eq_false, beq_self_eq_true, Bool.not_true, Bool.not_false, Bool.and_self, Bool.and_true, Bool.true_and, decide_true, decide_false, beq_true, beq_false, Bool.not_not, reduceCtorEq, Nat.le_refl, Int.reduceNeg, reduceIte, Nat.reduceBEq, Int.reduceBEq, Int.reduceLT, Int.reduceLE, Int.reduceToNat, decide_eq_true_eq, not_false_eq_true, not_true_eq_false, ne_eq, eT_nil, eT_cells, eT_one] <;> rfl) (by rfl) ?_
      exact ⟨fz_eq' rfl (refT_Pure _), fz_eq' rfl (refT_Pure _), fz_eq' rfl (.i _ _), trivial⟩
  · rw [if_neg h] at h3
    subst h3
    rw [endsS, if_neg h] at he
    simp only [List.map_cons, List.map_nil] at he
    refine apure_of h_atoms_Table_with ?_; simp only [c_atoms_Table_with, List.length_cons, List.length_nil, List.cons_append, List.nil_append, Nat.reduceAdd, Nat.reduceSub, List.reduceReplicate]
    (have hE := And.intro @hn noX; repeat' (first
    | refine awp_seq ?_
    | (refine awp_reg fun nv => ?_)
    | (refine awp_regd mix fun nv => ?_)
    | ((first | refine aops_nil ?_ | refine adr_nil (by rfl) ?_ | refine awp_skip ?_ | refine awp_exit ?_ | refine awp_ret ?_); try simp only [thenQ, blockQ, if_true, if_false, Nat.reduceEqDiff, eq_self, reduceCtorEq, reduceIte])
    | ((first | apply aops_one 0 | apply adr_one 0); (· exact nT17_0 hE))
    | ((first | apply aops_call (hlf := h_atoms_key) | apply adr_call (hlf := h_atoms_key)); (· rfl); (· exact nT17_0 hE); (· exact pT17_); (· exact (p_key _ _ hf hf' ht ht')); (· exact nput))
    | ((first | apply aops_call (hlf := h_atoms_ends) | apply adr_call (hlf := h_atoms_ends)); (· rfl); (· exact nT17_0 hE); (· exact pT17_); (· exact he); (· exact nput))
    | ((first | apply aops_call (hlf := h_atoms_more_int) | apply adr_call (hlf := h_atoms_more_int)); (· rfl); (· exact nT17_0 hE); (· exact pT17_); (· exact (p_moreOk h1)); (· exact nput))
    | ((first | apply aops_call (hlf := h_atoms_more_int) | apply adr_call (hlf := h_atoms_more_int)); (· rfl); (· exact nT17_0 hE); (· exact pT17_); (· exact (p_moreOk h2)); (· exact nput))
    | (refine awp_loopn 4 ?_)
    | (refine loopn_succ ?_)
    | refine awp_block ?_
    | (apply awp_condt; (· exact nT17_0 hE))
    | (apply awp_condf; (· exact nT17_0 hE))
    | (apply awp_cond; (· exact nT17_0 hE); all_goals intro hc)
    | ((first | apply aops_gsplit | apply adr_gsplit); (· rfl); (· exact nT17_0 hE); all_goals (intro hg; rw [hg])))); all_goals clear hE
    all_goals
      (apply awp_end [(0, 29)] (by first | exact .inl rfl | exact .inr rfl); (· exact nT17_0 (noX)))
      refine fz_ptr (by simp) (by simp only [aone, aoneT, gval, astep, aev, val, abin, abinI, abinS, aun, aeqn, aeqL, aeq1, put, upds, sset, sget, aload, astore, aobj, acut, cells_b, one_b, cells_i, one_i, cells_s, one_s, cells_nilp, one_nilp, cells_ref, one_ref, cells_ptr, one_ptr, cells_esl, one_esl, cells_sl, one_sl, cells_row, one_row, cells_fn, one_fn, cells_nilf, one_nilf, cells_nilm, one_nilm, cells_mp, one_mp, cells_mpr, one_mpr, cells_ag, anilck, afieldAddr, aindex, aindexAddr, alen, afill, afillR, aminmax, aminmax.aminmaxI, isNeq, sdl, kin, acall, ares, ares1, arows, aappend, aslice, asliceS, asliceR, aslice0, abnd, List.set_cons_succ, List.set_cons_zero, List.getD_cons_succ, List.getD_cons_zero, List.getElem?_cons_succ, List.getElem?_cons_zero, List.map_cons, List.map_nil, List.cons_append, List.nil_append, List.append_nil, List.length_cons, List.length_nil, List.take_succ_cons, List.take_zero, List.drop_succ_cons, List.drop_zero, List.all_cons, List.all_nil, List.replicate, Nat.reduceAdd, Nat.reduceSub, Nat.reduceMul, Nat.reduceLT, Nat.reduceLeDiff, Nat.reduceEqDiff, Nat.zero_add, Nat.add_zero, Nat.zero_mul, Option.map_some, Option.map_none, Option.bind_some, Option.bind_eq_bind, Option.getD_some, Option.getD_none, Option.isSome_some, Option.isSome_none, Option.toList, if_true, if_false, and_self, and_true, true_and, and_false, false_and, Prod.mk.injEq, Bool.false_eq_true, Bool.true_eq_false, beq_self_eq_true, Bool.not_true, Bool.not_false, Bool.and_self, Bool.and_true, Bool.true_and, decide_true, decide_false, beq_true, beq_false, Bool.not_not, reduceCtorEq, Nat.le_refl, Int.reduceNeg, reduceIte, Nat.reduceBEq, Int.reduceBEq, Int.reduceLT, Int.reduceLE, Int.reduceToNat, decide_eq_true_eq, not_false_eq_true, not_true_eq_false, ne_eq, eT_nil, eT_cells, eT_one] <;> rfl) (by rfl) ?_
      exact ⟨fz_eq' rfl (refT_Pure _), fz_eq' rfl (refT_Pure _), fz_eq' rfl (.i _ _), trivial⟩
theorem p_NewT : APure Try.prog n_atoms_New [] (eTab (.node 0 1 .nil .nil) .nil 0) := by
  have hp := p_Put 0 1 .nil (by decide)
  have he : ePE 41 (putS 0 1 .nil) = .tu [.ref [eT (.node 0 1 .nil .nil)] 0, .i .i64 0] := rfl
  rw [he] at hp
  refine apure_of h_atoms_New ?_; simp only [c_atoms_New, List.length_cons, List.length_nil, List.cons_append, List.nil_append, Nat.reduceAdd, Nat.reduceSub, List.reduceReplicate]
  (have hE := noX; repeat' (first
    | refine awp_seq ?_
    | (refine awp_reg fun nv => ?_)
    | ((first | refine aops_nil ?_ | refine awp_skip ?_ | refine awp_exit ?_ | refine awp_ret ?_); try simp only [thenQ, blockQ, if_true, if_false, Nat.reduceEqDiff, eq_self, reduceCtorEq, reduceIte])
    | (apply aops_one 0; (· exact nT17_0 hE))
    | (apply aops_call (hlf := h_tree_New_int); (· rfl); (· exact nT17_0 hE); (· exact pT17_); (· exact p_New); (· exact nput))
    | (apply aops_call (hlf := h_tree_Tree_int_Put); (· rfl); (· exact nT17_0 hE); (· exact pT17_); (· exact hp); (· exact nput))
    | refine awp_block ?_
    | (apply awp_condt; (· exact nT17_0 hE))
    | (apply awp_condf; (· exact nT17_0 hE))
    | (apply awp_cond; (· exact nT17_0 hE); all_goals intro hc)
    | (apply aops_gsplit; (· rfl); (· exact nT17_0 hE); all_goals (intro hg; rw [hg])))); all_goals clear hE
  all_goals
    (apply awp_end [(0, 11)] (by first | exact .inl rfl | exact .inr rfl); (· exact nT17_0 (noX)))
    refine fz_ptr (by simp) (by simp only [aone, aoneT, gval, astep, aev, val, abin, abinI, abinS, aun, aeqn, aeqL, aeq1, put, upds, sset, sget, aload, astore, aobj, acut, cells_b, one_b, cells_i, one_i, cells_s, one_s, cells_nilp, one_nilp, cells_ref, one_ref, cells_ptr, one_ptr, cells_esl, one_esl, cells_sl, one_sl, cells_row, one_row, cells_fn, one_fn, cells_nilf, one_nilf, cells_nilm, one_nilm, cells_mp, one_mp, cells_mpr, one_mpr, cells_ag, anilck, afieldAddr, aindex, aindexAddr, alen, afill, afillR, aminmax, aminmax.aminmaxI, isNeq, sdl, kin, acall, ares, ares1, arows, aappend, aslice, asliceS, asliceR, aslice0, abnd, List.set_cons_succ, List.set_cons_zero, List.getD_cons_succ, List.getD_cons_zero, List.getElem?_cons_succ, List.getElem?_cons_zero, List.map_cons, List.map_nil, List.cons_append, List.nil_append, List.append_nil, List.length_cons, List.length_nil, List.take_succ_cons, List.take_zero, List.drop_succ_cons, List.drop_zero, List.all_cons, List.all_nil, List.replicate, Nat.reduceAdd, Nat.reduceSub, Nat.reduceMul, Nat.reduceLT, Nat.reduceLeDiff, Nat.reduceEqDiff, Nat.zero_add, Nat.add_zero, Nat.zero_mul, Option.map_some, Option.map_none, Option.bind_some, Option.bind_eq_bind, Option.getD_some, Option.getD_none, Option.isSome_some, Option.isSome_none, Option.toList, if_true, if_false, and_self, and_true, true_and, and_false, false_and, Prod.mk.injEq, Bool.false_eq_true, Bool.true_eq_false, beq_self_eq_true, Bool.not_true, Bool.not_false, Bool.and_self, Bool.and_true, Bool.true_and, decide_true, decide_false, beq_true, beq_false, Bool.not_not, reduceCtorEq, Nat.le_refl, Int.reduceNeg, reduceIte, Nat.reduceBEq, Int.reduceBEq, Int.reduceLT, Int.reduceLE, Int.reduceToNat, decide_eq_true_eq, not_false_eq_true, not_true_eq_false, ne_eq, eT_nil, eT_cells, eT_one] <;> rfl) (by rfl) ?_
    exact ⟨fz_eq' rfl (refT_Pure (.node 0 1 .nil .nil)), fz_eq' rfl (refT_Pure .nil), fz_eq' rfl (.i _ _), trivial⟩
theorem p_Add (a a1 a2 b b1 : T) (n f t : Int) (hf : 0 ≤ f) (hft : f ≤ t) (ht' : t < 4294967296) (hn0 : 0 ≤ n) (hn : n < 500)
    (h1 : MoreOk (keyS f t) 1 b b1) (h2 : MoreOk f 1 a a1) (h3 : if t < 4294967295 then MoreOk (t + 1) 1 a1 a2 else a2 = a1) :
    APure Try.prog n_atoms_Table_Add [.ref [.ref [eT a] 0, .ref [eT b] 0, .i .i64 n] 0, .ag [.i .u32 f, .i .u32 t]] (.tu [eTab a2 b1 (n + 1), .i .i64 0]) := by
  have hw := p_withT a a1 a2 b b1 n f t 1 hf (by omega) (by omega) ht' (wrap64 (by omega) (by omega)) h1 h2 h3
  have c1 : ¬ f > t := by omega
  have c2 : ¬ n ≥ 500 := by omega
  refine apure_of h_atoms_Table_Add ?_; simp only [c_atoms_Table_Add, List.length_cons, List.length_nil, List.cons_append, List.nil_append, Nat.reduceAdd, Nat.reduceSub, List.reduceReplicate]
  (have hE := And.intro @c1 (And.intro @c2 noX); repeat' (first
    | refine awp_seq ?_
    | (refine awp_reg fun nv => ?_)
    | ((first | refine aops_nil ?_ | refine awp_skip ?_ | refine awp_exit ?_ | refine awp_ret ?_); try simp only [thenQ, blockQ, if_true, if_false, Nat.reduceEqDiff, eq_self, reduceCtorEq, reduceIte])
    | (apply aops_one 0; (· exact nT17_0 hE))
    | (apply aops_call (hlf := h_atoms_Table_own); (· rfl); (· exact nT17_0 hE); (· exact pT17_); (· exact (p_own _ _ _)); (· exact nput))
    | (apply aops_call (hlf := h_atoms_Table_with); (· rfl); (· exact nT17_0 hE); (· exact pT17_); (· exact hw); (· exact nput))
    | refine awp_block ?_
    | (apply awp_condt; (· exact nT17_0 hE))
    | (apply awp_condf; (· exact nT17_0 hE))
    | (apply awp_cond; (· exact nT17_0 hE); all_goals intro hc)
    | (apply aops_gsplit; (· rfl); (· exact nT17_0 hE); all_goals (intro hg; rw [hg])))); all_goals clear hE
  all_goals
    (apply awp_end [] (by first | exact .inl rfl | exact .inr rfl); (· exact nT17_0 (noX)))
    exact fz_eq' rfl (.tu _ (by simp [eTab_Pure, pure_i]))
def atomS (i : Int) (t : T) : Int × Int := (IntKind.wrap .u32 (atS i.toNat t).1, IntKind.wrap .u32 (if i + 1 < t.sz then IntKind.wrap .u64 ((atS (i + 1).toNat t).1 - 1) else 4294967295))
def eAtom (i : Int) (t : T) : AV := if 0 ≤ i ∧ i < t.sz then .tu [.ag [.i .u32 (atomS i t).1, .i .u32 (atomS i t).2], .b true] else .tu [.ag [.i .u32 0, .i .u32 0], .b false]
theorem eAtom_Pure (i : Int) (t : T) : Pure (eAtom i t) := by
  unfold eAtom
  split
  all_goals exact .tu _ (by simp [pure_ag, pure_i, pure_b])
set_option maxHeartbeats 1000000 in
theorem p_Atom (a b : T) (n i : Int) (hb : a.sz < 576460752303423488) (hi : IntKind.wrap .i64 (i + 1) = i + 1) : APure Try.prog n_atoms_Table_Atom [.ref [.ref [eT a] 0, .ref [eT b] 0, .i .i64 n] 0, .i .i64 i] (eAtom i a) := by
  have h1 := p_At i a hb
  have h2 := p_At (i + 1) a hb
  refine apure_of h_atoms_Table_Atom ?_; simp only [c_atoms_Table_Atom, List.length_cons, List.length_nil, List.cons_append, List.nil_append, Nat.reduceAdd, Nat.reduceSub, List.reduceReplicate]
  by_cases h : 0 ≤ i ∧ i < a.sz
  · unfold eAt at h1
    rw [if_pos h] at h1
    by_cases h' : i + 1 < a.sz
    · unfold eAt at h2
      rw [if_pos ⟨by omega, h'⟩] at h2
      (have hE := And.intro @hi noX; repeat' (first
    | refine awp_seq ?_
    | (refine awp_reg fun nv => ?_)
    | ((first | refine aops_nil ?_ | refine awp_skip ?_ | refine awp_exit ?_ | refine awp_ret ?_); try simp only [thenQ, blockQ, if_true, if_false, Nat.reduceEqDiff, eq_self, reduceCtorEq, reduceIte])
    | (apply aops_one 0; (· exact nT17_0 hE))
    | (apply aops_call (hlf := h_atoms_Table_own); (· rfl); (· exact nT17_0 hE); (· exact pT17_); (· exact (p_own _ _ _)); (· exact nput))
    | (apply aops_call (hlf := h_tree_Tree_int_At); (· rfl); (· exact nT17_0 hE); (· exact pT17_); (· exact h1); (· exact nput))
    | (apply aops_call (hlf := h_tree_Tree_int_At); (· rfl); (· exact nT17_0 hE); (· exact pT17_); (· exact h2); (· exact nput))
    | refine awp_block ?_
    | (apply awp_condt; (· exact nT17_0 hE))
    | (apply awp_condf; (· exact nT17_0 hE))
    | (apply awp_cond; (· exact nT17_0 hE); all_goals intro hc)
    | (apply aops_gsplit; (· rfl); (· exact nT17_0 hE); all_goals (intro hg; rw [hg])))); all_goals clear hE
      all_goals
        (apply awp_end [] (by first | exact .inl rfl | exact .inr rfl); (· exact nT17_0 (noX)))
        refine fz_res ?_ (eAtom_Pure _ _)
        unfold eAtom atomS
        rw [if_pos h, if_pos h']
        rfl
    · unfold eAt at h2
      rw [if_neg (by omega)] at h2
      (have hE := And.intro @hi noX; repeat' (first
    | refine awp_seq ?_
    | (refine awp_reg fun nv => ?_)
    | ((first | refine aops_nil ?_ | refine awp_skip ?_ | refine awp_exit ?_ | refine awp_ret ?_); try simp only [thenQ, blockQ, if_true, if_false, Nat.reduceEqDiff, eq_self, reduceCtorEq, reduceIte])
    | (apply aops_one 0; (· exact nT17_0 hE))
    | (apply aops_call (hlf := h_atoms_Table_own); (· rfl); (· exact nT17_0 hE); (· exact pT17_); (· exact (p_own _ _ _)); (· exact nput))
    | (apply aops_call (hlf := h_tree_Tree_int_At); (· rfl); (· exact nT17_0 hE); (· exact pT17_); (· exact h1); (· exact nput))
    | (apply aops_call (hlf := h_tree_Tree_int_At); (· rfl); (· exact nT17_0 hE); (· exact pT17_); (· exact h2); (· exact nput))
    | refine awp_block ?_
    | (apply awp_condt; (· exact nT17_0 hE))
    | (apply awp_condf; (· exact nT17_0 hE))
    | (apply awp_cond; (· exact nT17_0 hE); all_goals intro hc)
    | (apply aops_gsplit; (· rfl); (· exact nT17_0 hE); all_goals (intro hg; rw [hg])))); all_goals clear hE
      all_goals
        (apply awp_end [] (by first | exact .inl rfl | exact .inr rfl); (· exact nT17_0 (noX)))
        refine fz_res ?_ (eAtom_Pure _ _)
        unfold eAtom atomS
        rw [if_pos h, if_neg h']
        rfl
  · unfold eAt at h1
    rw [if_neg h] at h1
    (have hE := And.intro @hi noX; repeat' (first
    | refine awp_seq ?_
    | (refine awp_reg fun nv => ?_)
    | ((first | refine aops_nil ?_ | refine awp_skip ?_ | refine awp_exit ?_ | refine awp_ret ?_); try simp only [thenQ, blockQ, if_true, if_false, Nat.reduceEqDiff, eq_self, reduceCtorEq, reduceIte])
    | (apply aops_one 0; (· exact nT17_0 hE))
    | (apply aops_call (hlf := h_atoms_Table_own); (· rfl); (· exact nT17_0 hE); (· exact pT17_); (· exact (p_own _ _ _)); (· exact nput))
    | (apply aops_call (hlf := h_tree_Tree_int_At); (· rfl); (· exact nT17_0 hE); (· exact pT17_); (· exact h1); (· exact nput))
    | (apply aops_call (hlf := h_tree_Tree_int_At); (· rfl); (· exact nT17_0 hE); (· exact pT17_); (· exact h2); (· exact nput))
    | refine awp_block ?_
    | (apply awp_condt; (· exact nT17_0 hE))
    | (apply awp_condf; (· exact nT17_0 hE))
    | (apply awp_cond; (· exact nT17_0 hE); all_goals intro hc)
    | (apply aops_gsplit; (· rfl); (· exact nT17_0 hE); all_goals (intro hg; rw [hg])))); all_goals clear hE
    all_goals
      (apply awp_end [] (by first | exact .inl rfl | exact .inr rfl); (· exact nT17_0 (noX)))
      refine fz_res ?_ (eAtom_Pure _ _)
      unfold eAtom
      rw [if_neg h]
      rfl
end Go.Proofs.Ytibkakodokbobaa
