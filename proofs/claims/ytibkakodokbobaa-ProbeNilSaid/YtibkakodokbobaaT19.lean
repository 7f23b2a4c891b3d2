import Derived.Test.YtibkakodokbobaaT18
import Derived.Test.YtibkakodokbobaaK4
namespace Go.Proofs.Ytibkakodokbobaa
open Go.Am
set_option maxRecDepth 100000
set_option linter.unusedSimpArgs false
set_option linter.unusedVariables false
theorem nT19_0 {E A : Prop} (e : E) (h : E → A := by (intro hE; simp only [aone, aoneT, gval, astep, aev, val, abin, abinI, abinS, aun, aeqn, aeqL, aeq1, put, upds, sset, sget, aload, astore, aobj, acut, cells_b, one_b, cells_i, one_i, cells_s, one_s, cells_nilp, one_nilp, cells_ref, one_ref, cells_ptr, one_ptr, cells_esl, one_esl, cells_sl, one_sl, cells_row, one_row, cells_fn, one_fn, cells_nilf, one_nilf, cells_nilm, one_nilm, cells_mp, one_mp, cells_mpr, one_mpr, cells_ag, anilck, afieldAddr, aindex, aindexAddr, alen, afill, afillR, aminmax, aminmax.aminmaxI, isNeq, sdl, kin, acall, ares, ares1, arows, aappend, aslice, asliceS, asliceR, aslice0, abnd, List.set_cons_succ, List.set_cons_zero, List.getD_cons_succ, List.getD_cons_zero, List.getElem?_cons_succ, List.getElem?_cons_zero, List.map_cons, List.map_nil, List.cons_append, List.nil_append, List.append_nil, List.length_cons, List.length_nil, List.take_succ_cons, List.take_zero, List.drop_succ_cons, List.drop_zero, List.all_cons, List.all_nil, List.replicate, Nat.reduceAdd, Nat.reduceSub, Nat.reduceMul, Nat.reduceLT, Nat.reduceLeDiff, Nat.reduceEqDiff, Nat.zero_add, Nat.add_zero, Nat.zero_mul, Option.map_some, Option.map_none, Option.bind_some, Option.bind_eq_bind, Option.getD_some, Option.getD_none, Option.isSome_some, Option.isSome_none, Option.toList, if_true, if_false, and_self, and_true, true_and, and_false, false_and, Prod.mk.injEq, Bool.false_eq_true, Bool.true_eq_false, beq_self_eq_true, Bool.not_true, Bool.not_false, Bool.and_self, Bool.and_true, Bool.true_and, decide_true, decide_false, beq_true, beq_false, Bool.not_not, reduceCtorEq, Nat.le_refl, Int.reduceNeg, reduceIte, Nat.reduceBEq, Int.reduceBEq, Int.reduceLT, Int.reduceLE, Int.reduceToNat, decide_eq_true_eq, not_false_eq_true, not_true_eq_false, ne_eq, List.length_map, eLinks_cells, eLinks_one, ePorts_cells, ePorts_one, eRules_cells, eRules_one, eT_cells, eT_nil, eT_one, eTb_cells, eTb_one, hE] <;> rfl)) : A := h e
theorem nT19_1 {E A : Prop} (e : E) (h : E → A := by (intro hE; simp only [aone, aoneT, gval, astep, aev, val, abin, abinI, abinS, aun, aeqn, aeqL, aeq1, put, upds, sset, sget, aload, astore, aobj, acut, cells_b, one_b, cells_i, one_i, cells_s, one_s, cells_nilp, one_nilp, cells_ref, one_ref, cells_ptr, one_ptr, cells_esl, one_esl, cells_sl, one_sl, cells_row, one_row, cells_fn, one_fn, cells_nilf, one_nilf, cells_nilm, one_nilm, cells_mp, one_mp, cells_mpr, one_mpr, cells_ag, anilck, afieldAddr, aindex, aindexAddr, alen, afill, afillR, aminmax, aminmax.aminmaxI, isNeq, sdl, kin, acall, ares, ares1, arows, aappend, aslice, asliceS, asliceR, aslice0, abnd, List.set_cons_succ, List.set_cons_zero, List.getD_cons_succ, List.getD_cons_zero, List.getElem?_cons_succ, List.getElem?_cons_zero, List.map_cons, List.map_nil, List.cons_append, List.nil_append, List.append_nil, List.length_cons, List.length_nil, List.take_succ_cons, List.take_zero, List.drop_succ_cons, List.drop_zero, List.all_cons, List.all_nil, List.replicate, Nat.reduceAdd, Nat.reduceSub, Nat.reduceMul, Nat.reduceLT, Nat.reduceLeDiff, Nat.reduceEqDiff, Nat.zero_add, Nat.add_zero, Nat.zero_mul, Option.map_some, Option.map_none, Option.bind_some, Option.bind_eq_bind, Option.getD_some, Option.getD_none, Option.isSome_some, Option.isSome_none, Option.toList, if_true, if_false, and_self, and_true, true_and, and_false, false_and, Prod.mk.injEq, Bool.false_eq_true, Bool.true_eq_false, beq_self_eq_true, Bool.not_true, Bool.not_false, Bool.and_self, Bool.and_true, Bool.true_and, decide_true, decide_false, beq_true, beq_false, Bool.not_not, reduceCtorEq, Nat.le_refl, Int.reduceNeg, reduceIte, Nat.reduceBEq, Int.reduceBEq, Int.reduceLT, Int.reduceLE, Int.reduceToNat, decide_eq_true_eq, not_false_eq_true, not_true_eq_false, ne_eq, Int.toNat_natCast, List.length_map, eLinks_cells, eLinks_one, ePorts_cells, ePorts_one, eRules, eRules_cells, eRules_one, eT_cells, eT_nil, eT_one, eTb_cells, eTb_one, hE] <;> rfl)) : A := h e
theorem nT19_2 {E A : Prop} (e : E) (h : E → A := by (intro hE; simp only [aone, aoneT, gval, astep, aev, val, abin, abinI, abinS, aun, aeqn, aeqL, aeq1, put, upds, sset, sget, aload, astore, aobj, acut, cells_b, one_b, cells_i, one_i, cells_s, one_s, cells_nilp, one_nilp, cells_ref, one_ref, cells_ptr, one_ptr, cells_esl, one_esl, cells_sl, one_sl, cells_row, one_row, cells_fn, one_fn, cells_nilf, one_nilf, cells_nilm, one_nilm, cells_mp, one_mp, cells_mpr, one_mpr, cells_ag, anilck, afieldAddr, aindex, aindexAddr, alen, afill, afillR, aminmax, aminmax.aminmaxI, isNeq, sdl, kin, acall, ares, ares1, arows, aappend, aslice, asliceS, asliceR, aslice0, abnd, List.set_cons_succ, List.set_cons_zero, List.getD_cons_succ, List.getD_cons_zero, List.getElem?_cons_succ, List.getElem?_cons_zero, List.map_cons, List.map_nil, List.cons_append, List.nil_append, List.append_nil, List.length_cons, List.length_nil, List.take_succ_cons, List.take_zero, List.drop_succ_cons, List.drop_zero, List.all_cons, List.all_nil, List.replicate, Nat.reduceAdd, Nat.reduceSub, Nat.reduceMul, Nat.reduceLT, Nat.reduceLeDiff, Nat.reduceEqDiff, Nat.zero_add, Nat.add_zero, Nat.zero_mul, Option.map_some, Option.map_none, Option.bind_some, Option.bind_eq_bind, Option.getD_some, Option.getD_none, Option.isSome_some, Option.isSome_none, Option.toList, if_true, if_false, and_self, and_true, true_and, and_false, false_and, Prod.mk.injEq, Bool.false_eq_true, Bool.true_eq_false, beq_self_eq_true, Bool.not_true, Bool.not_false, Bool.and_self, Bool.and_true, Bool.true_and, decide_true, decide_false, beq_true, beq_false, Bool.not_not, reduceCtorEq, Nat.le_refl, Int.reduceNeg, reduceIte, Nat.reduceBEq, Int.reduceBEq, Int.reduceLT, Int.reduceLE, Int.reduceToNat, decide_eq_true_eq, not_false_eq_true, not_true_eq_false, ne_eq, Int.toNat_natCast, eLinks_cells, eLinks_one, ePorts_cells, ePorts_one, eRules_cells, eRules_one, eT_cells, eT_nil, eT_one, eTb_cells, eTb_one, hE] <;> rfl)) : A := h e
theorem nT19_3 {E A : Prop} (e : E) (h : E → A := by (intro hE; simp only [aone, aoneT, gval, astep, aev, val, abin, abinI, abinS, aun, aeqn, aeqL, aeq1, put, upds, sset, sget, aload, astore, aobj, acut, cells_b, one_b, cells_i, one_i, cells_s, one_s, cells_nilp, one_nilp, cells_ref, one_ref, cells_ptr, one_ptr, cells_esl, one_esl, cells_sl, one_sl, cells_row, one_row, cells_fn, one_fn, cells_nilf, one_nilf, cells_nilm, one_nilm, cells_mp, one_mp, cells_mpr, one_mpr, cells_ag, anilck, afieldAddr, aindex, aindexAddr, alen, afill, afillR, aminmax, aminmax.aminmaxI, isNeq, sdl, kin, acall, ares, ares1, arows, aappend, aslice, asliceS, asliceR, aslice0, abnd, List.set_cons_succ, List.set_cons_zero, List.getD_cons_succ, List.getD_cons_zero, List.getElem?_cons_succ, List.getElem?_cons_zero, List.map_cons, List.map_nil, List.cons_append, List.nil_append, List.append_nil, List.length_cons, List.length_nil, List.take_succ_cons, List.take_zero, List.drop_succ_cons, List.drop_zero, List.all_cons, List.all_nil, List.replicate, Nat.reduceAdd, Nat.reduceSub, Nat.reduceMul, Nat.reduceLT, Nat.reduceLeDiff, Nat.reduceEqDiff, Nat.zero_add, Nat.add_zero, Nat.zero_mul, Option.map_some, Option.map_none, Option.bind_some, Option.bind_eq_bind, Option.getD_some, Option.getD_none, Option.isSome_some, Option.isSome_none, Option.toList, if_true, if_false, and_self, and_true, true_and, and_false, false_and, Prod.mk.injEq, Bool.false_eq_true, Bool.true_eq_false, beq_self_eq_true, Bool.not_true, Bool.not_false, Bool.and_self, Bool.and_true, Bool.true_and, decide_true, decide_false, beq_true, beq_false, Bool.not_not, reduceCtorEq, Nat.le_refl, Int.reduceNeg, reduceIte, Nat.reduceBEq, Int.reduceBEq, Int.reduceLT, Int.reduceLE, Int.reduceToNat, decide_eq_true_eq, not_false_eq_true, not_true_eq_false, ne_eq, eLinks_cells, eLinks_one, ePorts_cells, ePorts_one, eRules_cells, eRules_one, eT_cells, eT_nil, eT_one, eTb_cells, eTb_one, hE] <;> rfl)) : A := h e
theorem nT19_4 {E A : Prop} (e : E) (h : E → A := by (intro hE; simp only [aone, aoneT, gval, astep, aev, val, abin, abinI, abinS, aun, aeqn, aeqL, aeq1, put, upds, sset, sget, aload, astore, aobj, acut, cells_b, one_b, cells_i, one_i, cells_s, one_s, cells_nilp, one_nilp, cells_ref, one_ref, cells_ptr, one_ptr, cells_esl, one_esl, cells_sl, one_sl, cells_row, one_row, cells_fn, one_fn, cells_nilf, one_nilf, cells_nilm, one_nilm, cells_mp, one_mp, cells_mpr, one_mpr, cells_ag, anilck, afieldAddr, aindex, aindexAddr, alen, afill, afillR, aminmax, aminmax.aminmaxI, isNeq, sdl, kin, acall, ares, ares1, arows, aappend, aslice, asliceS, asliceR, aslice0, abnd, List.set_cons_succ, List.set_cons_zero, List.getD_cons_succ, List.getD_cons_zero, List.getElem?_cons_succ, List.getElem?_cons_zero, List.map_cons, List.map_nil, List.cons_append, List.nil_append, List.append_nil, List.length_cons, List.length_nil, List.take_succ_cons, List.take_zero, List.drop_succ_cons, List.drop_zero, List.all_cons, List.all_nil, List.replicate, Nat.reduceAdd, Nat.reduceSub, Nat.reduceMul, Nat.reduceLT, Nat.reduceLeDiff, Nat.reduceEqDiff, Nat.zero_add, Nat.add_zero, Nat.zero_mul, Option.map_some, Option.map_none, Option.bind_some, Option.bind_eq_bind, Option.getD_some, Option.getD_none, Option.isSome_some, Option.isSome_none, Option.toList, if_true, if_false, and_self, and_true, true_and, and_false, false_and, Prod.mk.injEq, Bool.false_eq_true, Bool.true_eq_false, beq_self_eq_true, Bool.not_true, Bool.not_false, Bool.and_self, Bool.and_true, Bool.true_and, decide_true, decide_false, beq_true, beq_false, Bool.not_not, reduceCtorEq, Nat.le_refl, Int.reduceNeg, reduceIte, Nat.reduceBEq, Int.reduceBEq, Int.reduceLT, Int.reduceLE, Int.reduceToNat, decide_eq_true_eq, not_false_eq_true, not_true_eq_false, ne_eq, eLinks_cells, eLinks_one, ePorts_cells, ePorts_one, eRules_cells, eRules_one, eT_cells, eT_nil, eT_one, eTb_cells, eTb_one, outS, outV, hE] <;> rfl)) : A := h e
theorem nT19_5 {E A : Prop} (e : E) (h : E → A := by (intro hE; simp only [aone, aoneT, gval, astep, aev, val, abin, abinI, abinS, aun, aeqn, aeqL, aeq1, put, upds, sset, sget, aload, astore, aobj, acut, cells_b, one_b, cells_i, one_i, cells_s, one_s, cells_nilp, one_nilp, cells_ref, one_ref, cells_ptr, one_ptr, cells_esl, one_esl, cells_sl, one_sl, cells_row, one_row, cells_fn, one_fn, cells_nilf, one_nilf, cells_nilm, one_nilm, cells_mp, one_mp, cells_mpr, one_mpr, cells_ag, anilck, afieldAddr, aindex, aindexAddr, alen, afill, afillR, aminmax, aminmax.aminmaxI, isNeq, sdl, kin, acall, ares, ares1, arows, aappend, aslice, asliceS, asliceR, aslice0, abnd, List.set_cons_succ, List.set_cons_zero, List.getD_cons_succ, List.getD_cons_zero, List.getElem?_cons_succ, List.getElem?_cons_zero, List.map_cons, List.map_nil, List.cons_append, List.nil_append, List.append_nil, List.length_cons, List.length_nil, List.take_succ_cons, List.take_zero, List.drop_succ_cons, List.drop_zero, List.all_cons, List.all_nil, List.replicate, Nat.reduceAdd, Nat.reduceSub, Nat.reduceMul, Nat.reduceLT, Nat.reduceLeDiff, Nat.reduceEqDiff, Nat.zero_add, Nat.add_zero, Nat.zero_mul, Option.map_some, Option.map_none, Option.bind_some, Option.bind_eq_bind, Option.getD_some, Option.getD_none, Option.isSome_some, Option.isSome_none, Option.toList, if_true, if_false, and_self, and_true, true_and, and_false, false_and, Prod.mk.injEq, Bool.false_eq_true, Bool.true_eq_false, beq_self_eq_true, Bool.not_true, Bool.not_false, Bool.and_self, Bool.and_true, Bool.true_and, decide_true, decide_false, beq_true, beq_false, Bool.not_not, reduceCtorEq, Nat.le_refl, Int.reduceNeg, reduceIte, Nat.reduceBEq, Int.reduceBEq, Int.reduceLT, Int.reduceLE, Int.reduceToNat, decide_eq_true_eq, not_false_eq_true, not_true_eq_false, ne_eq, List.length_map, List.length_range, eLinks_cells, eLinks_one, ePorts_cells, ePorts_one, eRules_cells, eRules_one, eT_cells, eT_nil, eT_one, eTb_cells, eTb_one, outS, outV, hE] <;> rfl)) : A := h e
theorem pT19_ {A : Prop} (h : A := by (simp only [List.forall_mem_cons, List.forall_mem_nil, List.not_mem_nil, false_imp_iff, implies_true, List.forall_mem_map, pure_b, pure_i, pure_s, pure_nilp, pure_nilf, pure_esl, pure_ref, pure_sl, pure_ag, pure_tu, pure_fn, and_self, and_true, true_and, eT_pure, eTb_pure, eRules_pure, ePorts_pure, eLinks_pure]; done)) : A := h
/-! ### flow.Cut -/
def mxS (a b : Int) : Int := if b > a then b else a
def mnS (a b : Int) : Int := if b < a then b else a
def partAt (x : Tab) (f t : Int) (j : Nat) : Int × Int := (mxS (atomS (ofS x f + j) x.a).1 f, mnS (atomS (ofS x f + j) x.a).2 t)
def partsS (x : Tab) (f t : Int) : List (Int × Int) := (List.range (ofS x t - ofS x f + 1).toNat).map (partAt x f t)
def tabOf (l : List Net) : Tab := addAll newTab (l.flatMap Net.rules)
def outV : Nat → Nat → AV
  | 0, _ => .esl
  | j + 1, v => .row (0, 74) v 0 (j + 1)
def outS (x : Tab) (f t : Int) : Nat → Nat → Store
  | 0, _ => []
  | j + 1, v => [((0, 74), ⟨v, .rows 2 ((List.range (j + 1)).map fun i => eRange (partAt x f t i))⟩)]
theorem addAll_app (x : Tab) (l m : List Rule) : addAll x (l ++ m) = addAll (addAll x l) m := by simp [addAll]
theorem cntL_le (k : Int) (l : List (Int × Int)) : cntL k l ≤ l.length := List.length_filter_le _ _
theorem cntL_pos {k : Int} {l : List (Int × Int)} {q v : Int} (h : lookL q l = some v) (hq : q < k) : 0 < cntL k l :=
  List.length_pos_of_mem (List.mem_filter.2 ⟨lookL_mem h, by simpa using hq⟩)
theorem ofS_lo {x : Tab} (h : TInv x) {a : Int} (ha : 0 ≤ a) : 0 ≤ ofS x a := by
  obtain ⟨v, hv⟩ := h.z
  have := cntL_pos (k := a + 1) hv (by omega)
  unfold ofS; omega
theorem ofS_hi (x : Tab) (a : Int) : ofS x a < x.a.sz := by
  have := cntL_le (a + 1) (toL x.a)
  rw [toL_length] at this
  unfold ofS; omega
theorem parts_len (x : Tab) (f t : Int) : (partsS x f t).length = (ofS x t - ofS x f + 1).toNat := by simp [partsS]
set_option maxHeartbeats 4000000 in
theorem p_CutN (l : List Net) (f t : Int) (hf : 0 ≤ f) (hft : f ≤ t) (ht : t < 4294967296) (hl : (l.flatMap Net.rules).length ≤ 500) (hln : l.length < 1000) (hok : ∀ n ∈ l, ∀ r ∈ n.rules, r.ok) :
    APureN Try.prog n_flow_Cut [.sl (l.map Net.row), .ag [.i .u32 f, .i .u32 t]] (.tu [.sl ((partsS (tabOf l) f t).map eRange), .i .i64 0]) := by
  have c0 : ¬ f > t := by omega
  refine apureN_of h_flow_Cut ?_; simp only [c_flow_Cut, List.length_cons, List.length_nil, List.cons_append, List.nil_append, Nat.reduceAdd, Nat.reduceSub, List.reduceReplicate]
  (have hE := And.intro @c0 noX; repeat' (first
    | refine awp_seq ?_
    | (refine awp_reg fun nv => ?_)
    | ((first | refine aops_nil ?_ | refine awp_skip ?_ | refine awp_exit ?_ | refine awp_ret ?_); try simp only [thenQ, blockQ, if_true, if_false, Nat.reduceEqDiff, eq_self, reduceCtorEq, reduceIte])
    | (apply aops_one 0; (· exact nT19_0 hE))
    | (apply aops_call (hlf := h_atoms_New); (· rfl); (· exact nT19_0 hE); (· exact pT19_); (· exact p_NewTb); (· exact nput))
    | refine awp_block ?_
    | (apply awp_condt; (· exact nT19_0 hE))
    | (apply awp_condf; (· exact nT19_0 hE))
    | (apply awp_cond; (· exact nT19_0 hE); all_goals intro hc)
    | (apply aops_gsplit; (· rfl); (· exact nT19_0 hE); all_goals (intro hg; rw [hg])))); all_goals clear hE
  rename_i n0 n1 n2
  refine awp_loop (α := Nat) (fun i => [.bot, .bot, .bot, .ptr (0, 3) n0 0 0, .bot, .bot, eTb (tabOf (l.take i)), .bot, .bot, .bot, .bot, .bot, .bot, .bot, .bot, .bot, .bot, .bot, .bot, .bot, .bot, .sl (l.map Net.row), .i .i64 l.length, .i .i64 i, .bot, .bot, .bot, .bot, .bot, .bot, .bot, .bot, .bot, .bot, .bot, .bot, .bot, .bot, .bot, .bot, .bot, .bot, .bot, .bot, .bot, .bot, .bot, .bot, .bot, .bot, .bot, .bot, .bot, .bot, .bot, .bot, .bot, .bot, .bot, .bot, .bot, .bot, .bot, .bot, .bot, .bot, .bot, .bot, .bot, .bot, .bot, .bot, .bot, .bot, .bot, .bot]) (fun i => [((0, 3), ⟨n0, .rows 2 [[.i .u32 f, .i .u32 t]]⟩)]) (fun i => i ≤ l.length) (fun i => l.length - i) 0 (by omega) ?_ (StLe.refl _) ?_
  · repeat' (first | exact FrLe.nil | apply FrLe.cons | apply FrLe.bot)
  intro i hi
  by_cases hlt : i < l.length
  · have hlt' : (i : Int) < (l.length : Int) := by omega
    have hget : (l.map Net.row)[i]? = some [ePorts l[i].ports, eLinks l[i].links, eRules l[i].rules] := by simp [hlt, Net.row]
    have h0 : (0 : Int) ≤ (i : Int) := by omega
    have hw := wrapS hlt (by omega)
    have htk : l.take (i + 1) = l.take i ++ [l[i]] := by rw [List.take_succ_eq_append_getElem hlt]
    have hfl : ((l.take i).flatMap Net.rules).length + l[i].rules.length ≤ 500 := by
      have : (l.take (i + 1)).flatMap Net.rules ++ (l.drop (i + 1)).flatMap Net.rules = l.flatMap Net.rules := by rw [← List.flatMap_append, List.take_append_drop]
      have := congrArg List.length this
      rw [htk] at this
      simp only [List.flatMap_append, List.length_append, List.flatMap_cons, List.flatMap_nil, List.append_nil] at this
      omega
    have htab : ∀ j, j ≤ l[i].rules.length → TInv (addAll (tabOf (l.take i)) (l[i].rules.take j)) ∧ (addAll (tabOf (l.take i)) (l[i].rules.take j)).n = ((l.take i).flatMap Net.rules).length + j := fun j hj => by
      have := addAll_inv ((l.take i).flatMap Net.rules ++ l[i].rules.take j) newTab newTab_inv (by simp only [newTab, List.length_append, List.length_take]; omega)
      rw [addAll_app] at this
      refine ⟨this.1, ?_⟩
      have h2 := this.2
      simp only [newTab, List.length_append, List.length_take] at h2
      show (addAll (addAll newTab _) _).n = _
      simp only [newTab]
      omega
    (have hE := And.intro @hlt' (And.intro @hget (And.intro @h0 (And.intro @hw noX))); repeat' (first
    | refine awp_seq ?_
    | (refine awp_reg fun nv => ?_)
    | ((first | refine aops_nil ?_ | refine awp_skip ?_ | refine awp_exit ?_ | refine awp_ret ?_); try simp only [thenQ, blockQ, if_true, if_false, Nat.reduceEqDiff, eq_self, reduceCtorEq, reduceIte])
    | (apply aops_one 0; (· exact nT19_1 hE))
    | refine awp_block ?_
    | (apply awp_condt; (· exact nT19_1 hE))
    | (apply awp_condf; (· exact nT19_1 hE))
    | (apply awp_cond; (· exact nT19_1 hE); all_goals intro hc)
    | (apply aops_gsplit; (· rfl); (· exact nT19_1 hE); all_goals (intro hg; rw [hg])))); all_goals clear hE
    refine awp_loop (α := Nat) (fun j => [.bot, .bot, .bot, .ptr (0, 3) n0 0 0, .bot, .bot, eTb (addAll (tabOf (l.take i)) (l[i].rules.take j)), .bot, .bot, .bot, .bot, .bot, .bot, .bot, .bot, .bot, .bot, .bot, .bot, .bot, .bot, .sl (l.map Net.row), .i .i64 l.length, .i .i64 i, .bot, .bot, .bot, .bot, .sl (l[i].rules.map Rule.row), .i .i64 l[i].rules.length, .i .i64 j, .bot, .bot, .bot, .bot, .bot, .bot, .bot, .bot, .bot, .bot, .bot, .bot, .bot, .bot, .bot, .bot, .bot, .bot, .bot, .bot, .bot, .bot, .bot, .bot, .bot, .bot, .bot, .bot, .bot, .bot, .bot, .bot, .bot, .bot, .bot, .bot, .bot, .bot, .bot, .bot, .bot, .bot, .bot, .bot, .bot]) (fun j => [((0, 3), ⟨n0, .rows 2 [[.i .u32 f, .i .u32 t]]⟩)]) (fun j => j ≤ l[i].rules.length) (fun j => l[i].rules.length - j) 0 (by omega) ?_ ?_ ?_
    · repeat' (first | exact FrLe.nil | apply FrLe.cons | apply FrLe.bot)
    · exact stle_cons rfl (StLe.nil _)
    intro j hj
    by_cases hlt2 : j < l[i].rules.length
    · have hlt2' : (j : Int) < (l[i].rules.length : Int) := by omega
      have hget2 : (l[i].rules.map Rule.row)[j]? = some [.i .i64 l[i].rules[j].id, .i .i64 l[i].rules[j].dev, .i .i64 l[i].rules[j].prio, .i .i64 l[i].rules[j].kind, .i .u32 l[i].rules[j].f, .i .u32 l[i].rules[j].t, .i .i64 l[i].rules[j].port] := by simp [hlt2, Rule.row]
      have h02 : (0 : Int) ≤ (j : Int) := by omega
      have hw2 := wrapS hlt2 (by omega)
      obtain ⟨g1, g2⟩ := htab j hj
      obtain ⟨k1, k2, k3⟩ := hok l[i] (List.getElem_mem hlt) l[i].rules[j] (List.getElem_mem hlt2)
      have hsn : addS (addAll (tabOf (l.take i)) (l[i].rules.take j)) l[i].rules[j].f l[i].rules[j].t = addAll (tabOf (l.take i)) (l[i].rules.take (j + 1)) := by
        rw [List.take_succ_eq_append_getElem hlt2, addAll_snoc]
      (have hE := And.intro @hlt2' (And.intro @hget2 (And.intro @h02 (And.intro @hw2 noX))); repeat' (first
    | refine awp_seq ?_
    | (refine awp_reg fun nv => ?_)
    | ((first | refine aops_nil ?_ | refine awp_skip ?_ | refine awp_exit ?_ | refine awp_ret ?_); try simp only [thenQ, blockQ, if_true, if_false, Nat.reduceEqDiff, eq_self, reduceCtorEq, reduceIte])
    | (apply aops_one 0; (· exact nT19_2 hE))
    | (apply aops_call (hlf := h_atoms_Table_Add); (· rfl); (· exact nT19_2 hE); (· exact pT19_); (· exact (p_AddT g1 k1 k2 k3 (by omega))); (· exact nput))
    | refine awp_block ?_
    | (apply awp_condt; (· exact nT19_2 hE))
    | (apply awp_condf; (· exact nT19_2 hE))
    | (apply awp_cond; (· exact nT19_2 hE); all_goals intro hc)
    | (apply aops_gsplit; (· rfl); (· exact nT19_2 hE); all_goals (intro hg; rw [hg])))); all_goals clear hE
      all_goals
        refine ⟨j + 1, by omega, by omega, ?_, stle_cons rfl (StLe.nil _)⟩
        rw [hsn]
        repeat' (first | exact FrLe.nil | apply FrLe.cons | apply FrLe.bot)
    · have hlt2' : ¬ (j : Int) < (l[i].rules.length : Int) := by omega
      have hj2 : l[i].rules.take j = l[i].rules := List.take_of_length_le (by omega)
      have hsn : addAll (tabOf (l.take i)) l[i].rules = tabOf (l.take (i + 1)) := by
        unfold tabOf
        rw [htk, List.flatMap_append, addAll_app]
        simp
      rw [hj2, hsn]
      (have hE := And.intro @hlt2' (And.intro @hw noX); repeat' (first
    | refine awp_seq ?_
    | (refine awp_reg fun nv => ?_)
    | ((first | refine aops_nil ?_ | refine awp_skip ?_ | refine awp_exit ?_ | refine awp_ret ?_); try simp only [thenQ, blockQ, if_true, if_false, Nat.reduceEqDiff, eq_self, reduceCtorEq, reduceIte])
    | (apply aops_one 0; (· exact nT19_3 hE))
    | refine awp_block ?_
    | (apply awp_condt; (· exact nT19_3 hE))
    | (apply awp_condf; (· exact nT19_3 hE))
    | (apply awp_cond; (· exact nT19_3 hE); all_goals intro hc)
    | (apply aops_gsplit; (· rfl); (· exact nT19_3 hE); all_goals (intro hg; rw [hg])))); all_goals clear hE
      all_goals
        refine ⟨i + 1, by omega, by omega, ?_, StLe.refl _⟩
        repeat' (first | exact FrLe.nil | apply FrLe.cons | apply FrLe.bot)
  · have hlt' : ¬ (i : Int) < (l.length : Int) := by omega
    have hi2 : l.take i = l := List.take_of_length_le (by omega)
    rw [hi2]
    have htab := addAll_inv (l.flatMap Net.rules) newTab newTab_inv (by simp only [newTab]; omega)
    have g1 : TInv (tabOf l) := htab.1
    have g2 : (tabOf l).n ≤ 500 := by have := htab.2; simp only [newTab] at this; unfold tabOf; simp only [newTab]; omega
    have hlo := ofS_lo g1 hf
    have hhi := ofS_hi (tabOf l) t
    have hhf := ofS_hi (tabOf l) f
    have hz := g1.za
    generalize htl : tabOf l = x at *
    (have hE := And.intro @hlt' noX; repeat' (first
    | refine awp_seq ?_
    | (refine awp_reg fun nv => ?_)
    | ((first | refine aops_nil ?_ | refine awp_skip ?_ | refine awp_exit ?_ | refine awp_ret ?_); try simp only [thenQ, blockQ, if_true, if_false, Nat.reduceEqDiff, eq_self, reduceCtorEq, reduceIte])
    | (apply aops_one 0; (· exact nT19_3 hE))
    | (apply aops_call (hlf := h_atoms_Table_Of); (· rfl); (· exact nT19_3 hE); (· exact pT19_); (· exact (p_OfT g1 g2 hf (by omega))); (· exact nput))
    | refine awp_block ?_
    | (apply awp_condt; (· exact nT19_3 hE))
    | (apply awp_condf; (· exact nT19_3 hE))
    | (apply awp_cond; (· exact nT19_3 hE); all_goals intro hc)
    | (apply aops_gsplit; (· rfl); (· exact nT19_3 hE); all_goals (intro hg; rw [hg])))); all_goals clear hE
    refine awp_loop (α := Nat × Nat) (fun y => [.bot, .bot, .bot, .ptr (0, 3) n0 0 0, .bot, .bot, eTb x, .bot, .bot, .bot, .bot, outV y.1 y.2, .i .i64 (ofS x f + y.1), .bot, .bot, .bot, .bot, .bot, .bot, .bot, .bot, .bot, .bot, .bot, .bot, .bot, .bot, .bot, .bot, .bot, .bot, .bot, .bot, .bot, .bot, .bot, .bot, .bot, .bot, .bot, .bot, .bot, .bot, .bot, .bot, .bot, .bot, .bot, .bot, .bot, .bot, .bot, .bot, .bot, .bot, .bot, .bot, .bot, .bot, .bot, .bot, .bot, .bot, .bot, .bot, .bot, .bot, .bot, .bot, .bot, .bot, .bot, .bot, .bot, .bot, .bot]) (fun y => ((0, 3), ⟨n0, .rows 2 [[.i .u32 f, .i .u32 t]]⟩) :: outS x f t y.1 y.2) (fun y => (y.1 : Int) ≤ max 0 (ofS x t - ofS x f + 1)) (fun y => (ofS x t - ofS x f + 1).toNat - y.1) (0, 0) (by show ((0 : Nat) : Int) ≤ _; omega) ?_ (StLe.refl _) ?_
    · simp only [outV, Int.natCast_zero, Int.add_zero]
      repeat' (first | exact FrLe.nil | apply FrLe.cons | apply FrLe.bot)
    rintro ⟨j, v⟩ hj
    simp only at hj ⊢
    by_cases hc : ofS x f + (j : Int) ≤ ofS x t
    · have hat := p_AtomT g1 g2 (i := ofS x f + (j : Int)) (by omega) (by omega)
      unfold eAtom at hat
      rw [if_pos ⟨by omega, by omega⟩] at hat
      have hw : IntKind.wrap .i64 (ofS x f + (j : Int) + 1) = ofS x f + ((j + 1 : Nat) : Int) := by rw [wrap64 (by omega) (by omega)]; omega
      have hb : ((j : Int) + 1) * 8 ≤ 140737488355328 := by omega
      have hb' : (j + 1) * 8 ≤ 140737488355328 := by omega
      cases j with
      | zero =>
        (have hE := And.intro @hc (And.intro @hw noX); repeat' (first
    | refine awp_seq ?_
    | (refine awp_reg fun nv => ?_)
    | ((first | refine aops_nil ?_ | refine awp_skip ?_ | refine awp_exit ?_ | refine awp_ret ?_); try simp only [thenQ, blockQ, if_true, if_false, Nat.reduceEqDiff, eq_self, reduceCtorEq, reduceIte])
    | (apply aops_one 0; (· exact nT19_4 hE))
    | (apply aops_call (hlf := h_atoms_Table_Of); (· rfl); (· exact nT19_4 hE); (· exact pT19_); (· exact (p_OfT g1 g2 (by omega) ht)); (· exact nput))
    | (apply aops_call (hlf := h_atoms_Table_Atom); (· rfl); (· exact nT19_4 hE); (· exact pT19_); (· exact hat); (· exact nput))
    | refine awp_block ?_
    | (apply awp_condt; (· exact nT19_4 hE))
    | (apply awp_condf; (· exact nT19_4 hE))
    | (apply awp_cond; (· exact nT19_4 hE); all_goals intro hc)
    | (apply aops_gsplit; (· rfl); (· exact nT19_4 hE); all_goals (intro hg; rw [hg])))); all_goals clear hE
        all_goals
          rename_i m1 m2
          exact ⟨(0 + 1, m2 + 13), by simp only; omega, by simp only; omega, by repeat' (first | exact FrLe.nil | apply FrLe.cons | apply FrLe.bot), stle_cons rfl (stle_cons rfl (StLe.nil _))⟩
      | succ j =>
        have hb2 : (j + 1 + 1) * 8 ≤ 140737488355328 := by omega
        have hrs : (List.range (j + 1 + 1)).map (fun i => eRange (partAt x f t i)) = (List.range (j + 1)).map (fun i => eRange (partAt x f t i)) ++ [eRange (partAt x f t (j + 1))] := by rw [List.range_succ, List.map_append]; rfl
        (have hE := And.intro @hc (And.intro @hw (And.intro @hb2 noX)); repeat' (first
    | refine awp_seq ?_
    | (refine awp_reg fun nv => ?_)
    | ((first | refine aops_nil ?_ | refine awp_skip ?_ | refine awp_exit ?_ | refine awp_ret ?_); try simp only [thenQ, blockQ, if_true, if_false, Nat.reduceEqDiff, eq_self, reduceCtorEq, reduceIte])
    | (apply aops_one 0; (· exact nT19_5 hE))
    | (apply aops_call (hlf := h_atoms_Table_Of); (· rfl); (· exact nT19_5 hE); (· exact pT19_); (· exact (p_OfT g1 g2 (by omega) ht)); (· exact nput))
    | (apply aops_call (hlf := h_atoms_Table_Atom); (· rfl); (· exact nT19_5 hE); (· exact pT19_); (· exact hat); (· exact nput))
    | refine awp_block ?_
    | (apply awp_condt; (· exact nT19_5 hE))
    | (apply awp_condf; (· exact nT19_5 hE))
    | (apply awp_cond; (· exact nT19_5 hE); all_goals intro hc)
    | (apply aops_gsplit; (· rfl); (· exact nT19_5 hE); all_goals (intro hg; rw [hg])))); all_goals clear hE
        all_goals
          rename_i m1 m2
          refine ⟨(j + 1 + 1, m2 + 13), by simp only; omega, by simp only; omega, by repeat' (first | exact FrLe.nil | apply FrLe.cons | apply FrLe.bot), ?_⟩
          simp only [outS]
          rw [hrs]
          exact stle_cons rfl (stle_cons rfl (StLe.nil _))
    · have hj2 : (j : Int) = ofS x t - ofS x f + 1 ∨ (j = 0 ∧ ofS x t - ofS x f + 1 ≤ 0) := by omega
      have hps : (partsS x f t).map eRange = (List.range j).map fun i => eRange (partAt x f t i) := by
        unfold partsS
        rw [List.map_map, show (ofS x t - ofS x f + 1).toNat = j by omega]
        rfl
      rw [hps]
      cases j with
      | zero =>
        (have hE := And.intro @hc noX; repeat' (first
    | refine awp_seq ?_
    | (refine awp_reg fun nv => ?_)
    | ((first | refine aops_nil ?_ | refine awp_skip ?_ | refine awp_exit ?_ | refine awp_ret ?_); try simp only [thenQ, blockQ, if_true, if_false, Nat.reduceEqDiff, eq_self, reduceCtorEq, reduceIte])
    | (apply aops_one 0; (· exact nT19_4 hE))
    | (apply aops_call (hlf := h_atoms_Table_Of); (· rfl); (· exact nT19_4 hE); (· exact pT19_); (· exact (p_OfT g1 g2 (by omega) ht)); (· exact nput))
    | refine awp_block ?_
    | (apply awp_condt; (· exact nT19_4 hE))
    | (apply awp_condf; (· exact nT19_4 hE))
    | (apply awp_cond; (· exact nT19_4 hE); all_goals intro hc)
    | (apply aops_gsplit; (· rfl); (· exact nT19_4 hE); all_goals (intro hg; rw [hg])))); all_goals clear hE
        all_goals
          (apply awp_endN [] (by first | exact .inl rfl | exact .inr rfl); (· exact nT19_3 (noX)))
          exact fzn_tu ⟨.esl, fzn_flat rfl (.i _ _), trivial⟩
      | succ j =>
        (have hE := And.intro @hc noX; repeat' (first
    | refine awp_seq ?_
    | (refine awp_reg fun nv => ?_)
    | ((first | refine aops_nil ?_ | refine awp_skip ?_ | refine awp_exit ?_ | refine awp_ret ?_); try simp only [thenQ, blockQ, if_true, if_false, Nat.reduceEqDiff, eq_self, reduceCtorEq, reduceIte])
    | (apply aops_one 0; (· exact nT19_4 hE))
    | (apply aops_call (hlf := h_atoms_Table_Of); (· rfl); (· exact nT19_4 hE); (· exact pT19_); (· exact (p_OfT g1 g2 (by omega) ht)); (· exact nput))
    | refine awp_block ?_
    | (apply awp_condt; (· exact nT19_4 hE))
    | (apply awp_condf; (· exact nT19_4 hE))
    | (apply awp_cond; (· exact nT19_4 hE); all_goals intro hc)
    | (apply aops_gsplit; (· rfl); (· exact nT19_4 hE); all_goals (intro hg; rw [hg])))); all_goals clear hE
        all_goals
          (apply awp_endN [(0, 74)] (by first | exact .inl rfl | exact .inr rfl); (· exact nT19_3 (noX)))
          refine fzn_tu ⟨?_, fzn_flat rfl (.i _ _), trivial⟩
          exact .row _ _ _ _ _ (List.mem_cons_self ..) rfl (by simp) (by simp [eRange]) (by simp [eRange, flat_i])
theorem p_Cut (l : List Net) (f t : Int) (hf : 0 ≤ f) (hft : f ≤ t) (ht : t < 4294967296) (hl : (l.flatMap Net.rules).length ≤ 500) (hln : l.length < 1000) (hok : ∀ n ∈ l, ∀ r ∈ n.rules, r.ok) :
    APure Try.prog n_flow_Cut [.sl (l.map Net.row), .ag [.i .u32 f, .i .u32 t]] (.tu [.sl ((partsS (tabOf l) f t).map eRange), .i .i64 0]) := (p_CutN l f t hf hft ht hl hln hok).pure
end Go.Proofs.Ytibkakodokbobaa
