import Derived.Test.YtibkakodokbobaaT15
import Derived.Test.YtibkakodokbobaaK4
namespace Go.Proofs.Ytibkakodokbobaa
open Go.Am
set_option maxRecDepth 100000
set_option linter.unusedSimpArgs false
set_option linter.unusedVariables false
theorem nT16_0 {E A : Prop} (e : E) (h : E → A := by (intro hE; simp only [aone, aoneT, gval, astep, aev, val, abin, abinI, abinS, aun, aeqn, aeqL, aeq1, put, upds, sset, sget, aload, astore, aobj, acut, cells_b, one_b, cells_i, one_i, cells_s, one_s, cells_nilp, one_nilp, cells_ref, one_ref, cells_ptr, one_ptr, cells_esl, one_esl, cells_sl, one_sl, cells_row, one_row, cells_fn, one_fn, cells_nilf, one_nilf, cells_nilm, one_nilm, cells_mp, one_mp, cells_mpr, one_mpr, cells_ag, anilck, afieldAddr, aindex, aindexAddr, alen, afill, afillR, aminmax, aminmax.aminmaxI, isNeq, sdl, kin, acall, ares, ares1, arows, aappend, aslice, asliceS, asliceR, aslice0, abnd, List.set_cons_succ, List.set_cons_zero, List.getD_cons_succ, List.getD_cons_zero, List.getElem?_cons_succ, List.getElem?_cons_zero, List.map_cons, List.map_nil, List.cons_append, List.nil_append, List.append_nil, List.length_cons, List.length_nil, List.take_succ_cons, List.take_zero, List.drop_succ_cons, List.drop_zero, List.all_cons, List.all_nil, List.replicate, Nat.reduceAdd, Nat.reduceSub, Nat.reduceMul, Nat.reduceLT, Nat.reduceLeDiff, Nat.reduceEqDiff, Nat.zero_add, Nat.add_zero, Nat.zero_mul, Option.map_some, Option.map_none, Option.bind_some, Option.bind_eq_bind, Option.getD_some, Option.getD_none, Option.isSome_some, Option.isSome_none, Option.toList, if_true, if_false, and_self, and_true, true_and, and_false, false_and, Prod.mk.injEq, Bool.false_eq_true, Bool.true_eq_false, beq_self_eq_true, Bool.not_true, Bool.not_false, Bool.and_self, Bool.and_true, Bool.true_and, decide_true, decide_false, beq_true, beq_false, Bool.not_not, reduceCtorEq, Nat.le_refl, Int.reduceNeg, reduceIte, Nat.reduceBEq, Int.reduceBEq, Int.reduceLT, Int.reduceLE, Int.reduceToNat, decide_eq_true_eq, not_false_eq_true, not_true_eq_false, ne_eq, eT_cells, eT_nil, eT_one, hE] <;> rfl)) : A := h e
theorem pT16_ {A : Prop} (h : A := by (simp only [List.forall_mem_cons, List.forall_mem_nil, List.not_mem_nil, false_imp_iff, implies_true, List.forall_mem_map, pure_b, pure_i, pure_s, pure_nilp, pure_nilf, pure_esl, pure_ref, pure_sl, pure_ag, pure_tu, pure_fn, and_self, and_true, true_and, eT_pure]; done)) : A := h
/-! ### atoms: key, ends, with, New, Add -/
def keyS (f t : Int) : Int := f * 4294967296 + t
theorem key_or (f t : Int) (hf : 0 ≤ f) (hf' : f < 4294967296) (ht : 0 ≤ t) (ht' : t < 4294967296) :
    IntKind.wrap .u64 ((BitVec.ofInt (IntKind.bits .u64) (IntKind.wrap .u64 (IntKind.wrap .u64 f * 2 ^ min (32 : Int).toNat (IntKind.bits .u64))) ||| BitVec.ofInt (IntKind.bits .u64) (IntKind.wrap .u64 t)).toNat : Int) = keyS f t := by
  rw [wrapU64 hf (by omega), wrapU64 ht (by omega)]
  have e : (2 : Int) ^ min (32 : Int).toNat (IntKind.bits .u64) = 4294967296 := by decide
  rw [e, wrapU64 (n := f * 4294967296) (by omega) (by omega)]
  obtain ⟨a, rfl⟩ := Int.eq_ofNat_of_zero_le hf
  obtain ⟨b, rfl⟩ := Int.eq_ofNat_of_zero_le ht
  have h1 : ((BitVec.ofInt (IntKind.bits .u64) ((a : Int) * 4294967296) ||| BitVec.ofInt (IntKind.bits .u64) (b : Int)).toNat) = a * 4294967296 + b := by
    rw [BitVec.toNat_or]
    have ea : (BitVec.ofInt (IntKind.bits .u64) ((a : Int) * 4294967296)).toNat = a <<< 32 := by
      rw [BitVec.toNat_ofInt]
      simp only [IntKind.bits]
      rw [Nat.shiftLeft_eq]
      omega
    have eb : (BitVec.ofInt (IntKind.bits .u64) (b : Int)).toNat = b := by
      rw [BitVec.toNat_ofInt]
      simp only [IntKind.bits]
      omega
    rw [ea, eb, ← Nat.shiftLeft_add_eq_or_of_lt (by omega : b < 2 ^ 32), Nat.shiftLeft_eq]
  rw [h1]
  unfold keyS
  rw [wrapU64 (by omega) (by omega)]
  omega
theorem p_key (f t : Int) (hf : 0 ≤ f) (hf' : f < 4294967296) (ht : 0 ≤ t) (ht' : t < 4294967296) : APure Try.prog n_atoms_key [.ag [.i .u32 f, .i .u32 t]] (.i .u64 (keyS f t)) := by
  have hk := key_or f t hf hf' ht ht'
  refine apure_of h_atoms_key ?_; simp only [c_atoms_key, List.length_cons, List.length_nil, List.cons_append, List.nil_append, Nat.reduceAdd, Nat.reduceSub, List.reduceReplicate]
  (have hE := noX; repeat' (first
    | refine awp_seq ?_
    | (refine awp_reg fun nv => ?_)
    | ((first | refine aops_nil ?_ | refine awp_skip ?_ | refine awp_exit ?_ | refine awp_ret ?_); try simp only [thenQ, blockQ, if_true, if_false, Nat.reduceEqDiff, eq_self, reduceCtorEq, reduceIte])
    | (apply aops_one 0; (· exact nT16_0 hE))
    | refine awp_block ?_
    | (apply awp_condt; (· exact nT16_0 hE))
    | (apply awp_condf; (· exact nT16_0 hE))
    | (apply awp_cond; (· exact nT16_0 hE); all_goals intro hc)
    | (apply aops_gsplit; (· rfl); (· exact nT16_0 hE); all_goals (intro hg; rw [hg])))); all_goals clear hE
  all_goals
    (apply awp_end [] (by first | exact .inl rfl | exact .inr rfl); (· exact nT16_0 (noX)))
    rw [tup]
    exact fz_eq' (congrArg _ hk) (.i _ _)
def endsS (f t : Int) : List Int := if t < 4294967295 then [f, t + 1] else [f]
theorem p_ends (f t : Int) (hf : 0 ≤ f) (hf' : f < 4294967296) (ht : 0 ≤ t) (ht' : t < 4294967296) : APure Try.prog n_atoms_ends [.ag [.i .u32 f, .i .u32 t]] (.sl ((endsS f t).map fun x => [.i .u64 x])) := by
  have w1 := wrapU64 hf (by omega)
  have w2 := wrapU64 ht (by omega)
  have w3 : IntKind.wrap .u64 (t + 1) = t + 1 := wrapU64 (by omega) (by omega)
  refine apure_of h_atoms_ends ?_; simp only [c_atoms_ends, List.length_cons, List.length_nil, List.cons_append, List.nil_append, Nat.reduceAdd, Nat.reduceSub, List.reduceReplicate]
  by_cases h : t < 4294967295
  · (have hE := And.intro @w1 (And.intro @w2 (And.intro @w3 (And.intro @h noX))); repeat' (first
    | refine awp_seq ?_
    | (refine awp_reg fun nv => ?_)
    | ((first | refine aops_nil ?_ | refine awp_skip ?_ | refine awp_exit ?_ | refine awp_ret ?_); try simp only [thenQ, blockQ, if_true, if_false, Nat.reduceEqDiff, eq_self, reduceCtorEq, reduceIte])
    | (apply aops_one 0; (· exact nT16_0 hE))
    | refine awp_block ?_
    | (apply awp_condt; (· exact nT16_0 hE))
    | (apply awp_condf; (· exact nT16_0 hE))
    | (apply awp_cond; (· exact nT16_0 hE); all_goals intro hc)
    | (apply aops_gsplit; (· rfl); (· exact nT16_0 hE); all_goals (intro hg; rw [hg])))); all_goals clear hE
    all_goals
      (apply awp_end [(0, 7)] (by first | exact .inl rfl | exact .inr rfl); (· exact nT16_0 (noX)))
      rw [endsS, if_pos h]
      exact fz_row (k := (0, 7)) (List.mem_cons_self ..) (by simp only [aone, aoneT, gval, astep, aev, val, abin, abinI, abinS, aun, aeqn, aeqL, aeq1, put, upds, sset, sget, aload, astore, aobj, acut, cells_b, one_b, cells_i, one_i, cells_s, one_s, cells_nilp, one_nilp, cells_ref, one_ref, cells_ptr, one_ptr, cells_esl, one_esl, cells_sl, one_sl, cells_row, one_row, cells_fn, one_fn, cells_nilf, one_nilf, cells_nilm, one_nilm, cells_mp, one_mp, cells_mpr, one_mpr, cells_ag, anilck, afieldAddr, aindex, aindexAddr, alen, afill, afillR, aminmax, aminmax.aminmaxI, isNeq, sdl, kin, acall, ares, ares1, arows, aappend, aslice, asliceS, asliceR, aslice0, abnd, List.set_cons_succ, List.set_cons_zero, List.getD_cons_succ, List.getD_cons_zero, List.getElem?_cons_succ, List.getElem?_cons_zero, List.map_cons, List.map_nil, List.cons_append, List.nil_append, List.append_nil, List.length_cons, List.length_nil, List.take_succ_cons, List.take_zero, List.drop_succ_cons, List.drop_zero, List.all_cons, List.all_nil, List.replicate, Nat.reduceAdd, Nat.reduceSub, Nat.reduceMul, Nat.reduceLT, Nat.reduceLeDiff, Nat.reduceEqDiff, Nat.zero_add, Nat.add_zero, Nat.zero_mul, Option.map_some, Option.map_none, Option.bind_some, Option.bind_eq_bind, Option.getD_some, Option.getD_none, Option.isSome_some, Option.isSome_none, Option.toList, if_true, if_false, and_self, and_true, true_and, and_false, false_and, Prod.mk.injEq, Bool.false_eq_true, Bool.true_eq_false, beq_self_eq_true, Bool.not_true, Bool.not_false, Bool.and_self, Bool.and_true, Bool.true_and, decide_true, decide_false, beq_true, beq_false, Bool.not_not, reduceCtorEq, Nat.le_refl, Int.reduceNeg, reduceIte, Nat.reduceBEq, Int.reduceBEq, Int.reduceLT, Int.reduceLE, Int.reduceToNat, decide_eq_true_eq, not_false_eq_true, not_true_eq_false, ne_eq, eT_nil, eT_cells, eT_one] <;> rfl) rfl (by simp) (by simp [pure_i])
  · (have hE := And.intro @w1 (And.intro @w2 (And.intro @w3 (And.intro @h noX))); repeat' (first
    | refine awp_seq ?_
    | (refine awp_reg fun nv => ?_)
    | ((first | refine aops_nil ?_ | refine awp_skip ?_ | refine awp_exit ?_ | refine awp_ret ?_); try simp only [thenQ, blockQ, if_true, if_false, Nat.reduceEqDiff, eq_self, reduceCtorEq, reduceIte])
    | (apply aops_one 0; (· exact nT16_0 hE))
    | refine awp_block ?_
    | (apply awp_condt; (· exact nT16_0 hE))
    | (apply awp_condf; (· exact nT16_0 hE))
    | (apply awp_cond; (· exact nT16_0 hE); all_goals intro hc)
    | (apply aops_gsplit; (· rfl); (· exact nT16_0 hE); all_goals (intro hg; rw [hg])))); all_goals clear hE
    all_goals
      (apply awp_end [(0, 7)] (by first | exact .inl rfl | exact .inr rfl); (· exact nT16_0 (noX)))
      rw [endsS, if_neg h]
      exact fz_row (k := (0, 7)) (List.mem_cons_self ..) (by simp only [aone, aoneT, gval, astep, aev, val, abin, abinI, abinS, aun, aeqn, aeqL, aeq1, put, upds, sset, sget, aload, astore, aobj, acut, cells_b, one_b, cells_i, one_i, cells_s, one_s, cells_nilp, one_nilp, cells_ref, one_ref, cells_ptr, one_ptr, cells_esl, one_esl, cells_sl, one_sl, cells_row, one_row, cells_fn, one_fn, cells_nilf, one_nilf, cells_nilm, one_nilm, cells_mp, one_mp, cells_mpr, one_mpr, cells_ag, anilck, afieldAddr, aindex, aindexAddr, alen, afill, afillR, aminmax, aminmax.aminmaxI, isNeq, sdl, kin, acall, ares, ares1, arows, aappend, aslice, asliceS, asliceR, aslice0, abnd, List.set_cons_succ, List.set_cons_zero, List.getD_cons_succ, List.getD_cons_zero, List.getElem?_cons_succ, List.getElem?_cons_zero, List.map_cons, List.map_nil, List.cons_append, List.nil_append, List.append_nil, List.length_cons, List.length_nil, List.take_succ_cons, List.take_zero, List.drop_succ_cons, List.drop_zero, List.all_cons, List.all_nil, List.replicate, Nat.reduceAdd, Nat.reduceSub, Nat.reduceMul, Nat.reduceLT, Nat.reduceLeDiff, Nat.reduceEqDiff, Nat.zero_add, Nat.add_zero, Nat.zero_mul, Option.map_some, Option.map_none, Option.bind_some, Option.bind_eq_bind, Option.getD_some, Option.getD_none, Option.isSome_some, Option.isSome_none, Option.toList, if_true, if_false, and_self, and_true, true_and, and_false, false_and, Prod.mk.injEq, Bool.false_eq_true, Bool.true_eq_false, beq_self_eq_true, Bool.not_true, Bool.not_false, Bool.and_self, Bool.and_true, Bool.true_and, decide_true, decide_false, beq_true, beq_false, Bool.not_not, reduceCtorEq, Nat.le_refl, Int.reduceNeg, reduceIte, Nat.reduceBEq, Int.reduceBEq, Int.reduceLT, Int.reduceLE, Int.reduceToNat, decide_eq_true_eq, not_false_eq_true, not_true_eq_false, ne_eq, eT_nil, eT_cells, eT_one] <;> rfl) rfl (by simp) (by simp [pure_i])
end Go.Proofs.Ytibkakodokbobaa
