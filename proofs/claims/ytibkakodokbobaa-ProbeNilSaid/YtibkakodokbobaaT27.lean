import Derived.Test.YtibkakodokbobaaT26
namespace Go.Proofs.Ytibkakodokbobaa
open Go.Am
set_option maxRecDepth 100000
set_option linter.unusedSimpArgs false
set_option linter.unusedVariables false
theorem nT27_0 {E A : Prop} (e : E) (h : E → A := by (intro hE; simp only [aone, aoneT, gval, astep, aev, val, abin, abinI, abinS, aun, aeqn, aeqL, aeq1, put, upds, sset, sget, aload, astore, aobj, acut, cells_b, one_b, cells_i, one_i, cells_s, one_s, cells_nilp, one_nilp, cells_ref, one_ref, cells_ptr, one_ptr, cells_esl, one_esl, cells_sl, one_sl, cells_row, one_row, cells_fn, one_fn, cells_nilf, one_nilf, cells_nilm, one_nilm, cells_mp, one_mp, cells_mpr, one_mpr, cells_ag, anilck, afieldAddr, aindex, aindexAddr, alen, afill, afillR, aminmax, aminmax.aminmaxI, isNeq, sdl, kin, acall, ares, ares1, arows, aappend, aslice, asliceS, asliceR, aslice0, abnd, List.set_cons_succ, List.set_cons_zero, List.getD_cons_succ, List.getD_cons_zero, List.getElem?_cons_succ, List.getElem?_cons_zero, List.map_cons, List.map_nil, List.cons_append, List.nil_append, List.append_nil, List.length_cons, List.length_nil, List.take_succ_cons, List.take_zero, List.drop_succ_cons, List.drop_zero, List.all_cons, List.all_nil, List.replicate, Nat.reduceAdd, Nat.reduceSub, Nat.reduceMul, Nat.reduceLT, Nat.reduceLeDiff, Nat.reduceEqDiff, Nat.zero_add, Nat.add_zero, Nat.zero_mul, Option.map_some, Option.map_none, Option.bind_some, Option.bind_eq_bind, Option.getD_some, Option.getD_none, Option.isSome_some, Option.isSome_none, Option.toList, if_true, if_false, and_self, and_true, true_and, and_false, false_and, Prod.mk.injEq, Bool.false_eq_true, Bool.true_eq_false, beq_self_eq_true, Bool.not_true, Bool.not_false, Bool.and_self, Bool.and_true, Bool.true_and, decide_true, decide_false, beq_true, beq_false, Bool.not_not, reduceCtorEq, Nat.le_refl, Int.reduceNeg, reduceIte, Nat.reduceBEq, Int.reduceBEq, Int.reduceLT, Int.reduceLE, Int.reduceToNat, decide_eq_true_eq, not_false_eq_true, not_true_eq_false, ne_eq, Query.row, eLinks_cells, eLinks_one, ePorts_cells, ePorts_one, eRules_cells, eRules_one, hE] <;> rfl)) : A := h e
theorem nT27_1 {E A : Prop} (e : E) (h : E → A := by (intro hE; simp only [aone, aoneT, gval, astep, aev, val, abin, abinI, abinS, aun, aeqn, aeqL, aeq1, put, upds, sset, sget, aload, astore, aobj, acut, cells_b, one_b, cells_i, one_i, cells_s, one_s, cells_nilp, one_nilp, cells_ref, one_ref, cells_ptr, one_ptr, cells_esl, one_esl, cells_sl, one_sl, cells_row, one_row, cells_fn, one_fn, cells_nilf, one_nilf, cells_nilm, one_nilm, cells_mp, one_mp, cells_mpr, one_mpr, cells_ag, anilck, afieldAddr, aindex, aindexAddr, alen, afill, afillR, aminmax, aminmax.aminmaxI, isNeq, sdl, kin, acall, ares, ares1, arows, aappend, aslice, asliceS, asliceR, aslice0, abnd, List.set_cons_succ, List.set_cons_zero, List.getD_cons_succ, List.getD_cons_zero, List.getElem?_cons_succ, List.getElem?_cons_zero, List.map_cons, List.map_nil, List.cons_append, List.nil_append, List.append_nil, List.length_cons, List.length_nil, List.take_succ_cons, List.take_zero, List.drop_succ_cons, List.drop_zero, List.all_cons, List.all_nil, List.replicate, Nat.reduceAdd, Nat.reduceSub, Nat.reduceMul, Nat.reduceLT, Nat.reduceLeDiff, Nat.reduceEqDiff, Nat.zero_add, Nat.add_zero, Nat.zero_mul, Option.map_some, Option.map_none, Option.bind_some, Option.bind_eq_bind, Option.getD_some, Option.getD_none, Option.isSome_some, Option.isSome_none, Option.toList, if_true, if_false, and_self, and_true, true_and, and_false, false_and, Prod.mk.injEq, Bool.false_eq_true, Bool.true_eq_false, beq_self_eq_true, Bool.not_true, Bool.not_false, Bool.and_self, Bool.and_true, Bool.true_and, decide_true, decide_false, beq_true, beq_false, Bool.not_not, reduceCtorEq, Nat.le_refl, Int.reduceNeg, reduceIte, Nat.reduceBEq, Int.reduceBEq, Int.reduceLT, Int.reduceLE, Int.reduceToNat, decide_eq_true_eq, not_false_eq_true, not_true_eq_false, ne_eq, eLinks_cells, eLinks_one, ePorts_cells, ePorts_one, eRules_cells, eRules_one, hE] <;> rfl)) : A := h e
theorem nT27_2 {E A : Prop} (e : E) (h : E → A := by (intro hE; simp only [aone, aoneT, gval, astep, aev, val, abin, abinI, abinS, aun, aeqn, aeqL, aeq1, put, upds, sset, sget, aload, astore, aobj, acut, cells_b, one_b, cells_i, one_i, cells_s, one_s, cells_nilp, one_nilp, cells_ref, one_ref, cells_ptr, one_ptr, cells_esl, one_esl, cells_sl, one_sl, cells_row, one_row, cells_fn, one_fn, cells_nilf, one_nilf, cells_nilm, one_nilm, cells_mp, one_mp, cells_mpr, one_mpr, cells_ag, anilck, afieldAddr, aindex, aindexAddr, alen, afill, afillR, aminmax, aminmax.aminmaxI, isNeq, sdl, kin, acall, ares, ares1, arows, aappend, aslice, asliceS, asliceR, aslice0, abnd, List.set_cons_succ, List.set_cons_zero, List.getD_cons_succ, List.getD_cons_zero, List.getElem?_cons_succ, List.getElem?_cons_zero, List.map_cons, List.map_nil, List.cons_append, List.nil_append, List.append_nil, List.length_cons, List.length_nil, List.take_succ_cons, List.take_zero, List.drop_succ_cons, List.drop_zero, List.all_cons, List.all_nil, List.replicate, Nat.reduceAdd, Nat.reduceSub, Nat.reduceMul, Nat.reduceLT, Nat.reduceLeDiff, Nat.reduceEqDiff, Nat.zero_add, Nat.add_zero, Nat.zero_mul, Option.map_some, Option.map_none, Option.bind_some, Option.bind_eq_bind, Option.getD_some, Option.getD_none, Option.isSome_some, Option.isSome_none, Option.toList, if_true, if_false, and_self, and_true, true_and, and_false, false_and, Prod.mk.injEq, Bool.false_eq_true, Bool.true_eq_false, beq_self_eq_true, Bool.not_true, Bool.not_false, Bool.and_self, Bool.and_true, Bool.true_and, decide_true, decide_false, beq_true, beq_false, Bool.not_not, reduceCtorEq, Nat.le_refl, Int.reduceNeg, reduceIte, Nat.reduceBEq, Int.reduceBEq, Int.reduceLT, Int.reduceLE, Int.reduceToNat, decide_eq_true_eq, not_false_eq_true, not_true_eq_false, ne_eq, List.length_map, eLinks_cells, eLinks_one, ePorts, ePorts_cells, ePorts_one, eRules_cells, eRules_one, hE] <;> rfl)) : A := h e
theorem nT27_3 {E A : Prop} (e : E) (h : E → A := by (intro hE; simp only [aone, aoneT, gval, astep, aev, val, abin, abinI, abinS, aun, aeqn, aeqL, aeq1, put, upds, sset, sget, aload, astore, aobj, acut, cells_b, one_b, cells_i, one_i, cells_s, one_s, cells_nilp, one_nilp, cells_ref, one_ref, cells_ptr, one_ptr, cells_esl, one_esl, cells_sl, one_sl, cells_row, one_row, cells_fn, one_fn, cells_nilf, one_nilf, cells_nilm, one_nilm, cells_mp, one_mp, cells_mpr, one_mpr, cells_ag, anilck, afieldAddr, aindex, aindexAddr, alen, afill, afillR, aminmax, aminmax.aminmaxI, isNeq, sdl, kin, acall, ares, ares1, arows, aappend, aslice, asliceS, asliceR, aslice0, abnd, List.set_cons_succ, List.set_cons_zero, List.getD_cons_succ, List.getD_cons_zero, List.getElem?_cons_succ, List.getElem?_cons_zero, List.map_cons, List.map_nil, List.cons_append, List.nil_append, List.append_nil, List.length_cons, List.length_nil, List.take_succ_cons, List.take_zero, List.drop_succ_cons, List.drop_zero, List.all_cons, List.all_nil, List.replicate, Nat.reduceAdd, Nat.reduceSub, Nat.reduceMul, Nat.reduceLT, Nat.reduceLeDiff, Nat.reduceEqDiff, Nat.zero_add, Nat.add_zero, Nat.zero_mul, Option.map_some, Option.map_none, Option.bind_some, Option.bind_eq_bind, Option.getD_some, Option.getD_none, Option.isSome_some, Option.isSome_none, Option.toList, if_true, if_false, and_self, and_true, true_and, and_false, false_and, Prod.mk.injEq, Bool.false_eq_true, Bool.true_eq_false, beq_self_eq_true, Bool.not_true, Bool.not_false, Bool.and_self, Bool.and_true, Bool.true_and, decide_true, decide_false, beq_true, beq_false, Bool.not_not, reduceCtorEq, Nat.le_refl, Int.reduceNeg, reduceIte, Nat.reduceBEq, Int.reduceBEq, Int.reduceLT, Int.reduceLE, Int.reduceToNat, decide_eq_true_eq, not_false_eq_true, not_true_eq_false, ne_eq, Int.toNat_natCast, eLinks_cells, eLinks_one, ePorts_cells, ePorts_one, eRules_cells, eRules_one, hE] <;> rfl)) : A := h e
theorem pT27_ {A : Prop} (h : A := by (simp only [List.forall_mem_cons, List.forall_mem_nil, List.not_mem_nil, false_imp_iff, implies_true, List.forall_mem_map, pure_b, pure_i, pure_s, pure_nilp, pure_nilf, pure_esl, pure_ref, pure_sl, pure_ag, pure_tu, pure_fn, and_self, and_true, true_and, eRules_pure, ePorts_pure, eLinks_pure]; done)) : A := h
/-! ### query: single, Right, Sources, Breaks; fate.Same -/
structure Query where
  kind : Int
  a : Int
  b : Int
  w : Int
  f : Int
  t : Int
  other : ByteArray
def Query.row (q : Query) : List AV := [.i .i64 q.kind, .i .i64 q.a, .i .i64 q.b, .i .i64 q.w, .i .u32 q.f, .i .u32 q.t, .s q.other]
theorem qPure (q : Query) : Pure (.ag q.row) := .ag _ (by simp [Query.row, pure_i, pure_s])
structure Tr where
  devs : List Int
  fate : Int
  out : Pt
  deriving DecidableEq
def Tr.row (t : Tr) : List AV := [ePorts t.devs, .i .i64 t.fate, .i .i64 t.out.1, .i .i64 t.out.2]
theorem trPure (t : Tr) : Pure (.ag t.row) := .ag _ (by simp [Tr.row, pure_i, ePorts_pure])
theorem netPure (n : Net) : Pure (.ag [ePorts n.ports, eLinks n.links, eRules n.rules]) := .ag _ (by simp [ePorts_pure, eLinks_pure, eRules_pure])
def singleB (q : Query) : Bool := q.kind == 0 || q.kind == 3 || q.kind == 4
theorem p_single (q : Query) : APure Try.prog n_query_single [.ag q.row] (.b (singleB q)) := by
  refine apure_of h_query_single ?_; simp only [c_query_single, List.length_cons, List.length_nil, List.cons_append, List.nil_append, Nat.reduceAdd, Nat.reduceSub, List.reduceReplicate]
  (have hE := noX; repeat' (first
    | refine awp_seq ?_
    | (refine awp_reg fun nv => ?_)
    | ((first | refine aops_nil ?_ | refine awp_skip ?_ | refine awp_exit ?_ | refine awp_ret ?_); try simp only [thenQ, blockQ, if_true, if_false, Nat.reduceEqDiff, eq_self, reduceCtorEq, reduceIte])
    | (apply aops_one 0; (· exact nT27_0 hE))
    | refine awp_block ?_
    | (apply awp_condt; (· exact nT27_0 hE))
    | (apply awp_condf; (· exact nT27_0 hE))
    | (apply awp_cond; (· exact nT27_0 hE); all_goals intro hc)
    | (apply aops_gsplit; (· rfl); (· exact nT27_0 hE); all_goals (intro hg; rw [hg])))); all_goals clear hE
  all_goals
    (apply awp_end [] (by first | exact .inl rfl | exact .inr rfl); (· exact nT27_1 (noX)))
    refine fz_res ?_ (.b _)
    simp [tup, singleB, *]
def outside (n : Net) (d : Int) : Bool := decide (d < 0) || decide (d ≥ (n.ports.length : Int))
theorem p_Right_c1 (n : Net) (d : Int) : APure Try.prog n_query_Right_c1 [.i .i64 d, .ref [ePorts n.ports, eLinks n.links, eRules n.rules] 0] (.b (outside n d)) := by
  have hl : alen none false (ePorts n.ports) = some (.i .i64 (n.ports.length : Int)) := by simp [ePorts, alen]
  refine apure_of h_query_Right_c1 ?_; simp only [c_query_Right_c1, List.length_cons, List.length_nil, List.cons_append, List.nil_append, Nat.reduceAdd, Nat.reduceSub, List.reduceReplicate]
  (have hE := noX; repeat' (first
    | refine awp_seq ?_
    | (refine awp_reg fun nv => ?_)
    | ((first | refine aops_nil ?_ | refine awp_skip ?_ | refine awp_exit ?_ | refine awp_ret ?_); try simp only [thenQ, blockQ, if_true, if_false, Nat.reduceEqDiff, eq_self, reduceCtorEq, reduceIte])
    | (apply aops_one 0; (· exact nT27_2 hE))
    | refine awp_block ?_
    | (apply awp_condt; (· exact nT27_2 hE))
    | (apply awp_condf; (· exact nT27_2 hE))
    | (apply awp_cond; (· exact nT27_2 hE); all_goals intro hc)
    | (apply aops_gsplit; (· rfl); (· exact nT27_2 hE); all_goals (intro hg; rw [hg])))); all_goals clear hE
  all_goals
    (apply awp_end [] (by first | exact .inl rfl | exact .inr rfl); (· exact nT27_1 (noX)))
    refine fz_res ?_ (.b _)
    simp_all [tup, outside]
    try omega
def idxI (p : Int → Bool) (l : List Int) : Int := match l.findIdx? p with | some j => j | none => -1
theorem findIdxI_at {p : Int → Bool} {l : List Int} {j : Nat} (h : j < l.length) (hx : p l[j] = true) (hno : ∀ k (hk : k < l.length), k < j → p l[k] = false) : l.findIdx? p = some j := by
  rw [List.findIdx?_eq_some_iff_getElem]
  exact ⟨h, hx, fun k hk => by simpa using hno k (by omega) hk⟩
theorem findIdxI_none {p : Int → Bool} {l : List Int} (hno : ∀ k (hk : k < l.length), p l[k] = false) : l.findIdx? p = none := by
  rw [List.findIdx?_eq_none_iff]
  intro y hy
  obtain ⟨k, hk, rfl⟩ := List.getElem_of_mem hy
  exact hno k hk
set_option maxHeartbeats 1000000 in
theorem p_IndexFuncI {g : Nat} {lf : LF} {caps : List AV} (p : Int → Bool) (l : List Int) (hl : l.length < 4611686018427387904) (h_ask : lowFn Try.prog g = some lf) (hcaps : ∀ x ∈ caps, Pure x) (h : ∀ r ∈ l, APure Try.prog g (.i .i64 r :: caps) (.b (p r))) :
    APure Try.prog n_slices_IndexFunc_int_int [ePorts l, .fn g [] caps] (.i .i64 (idxI p l)) := by
  refine apure_of h_slices_IndexFunc_int_int ?_; simp only [c_slices_IndexFunc_int_int, List.length_cons, List.length_nil, List.cons_append, List.nil_append, Nat.reduceAdd, Nat.reduceSub, List.reduceReplicate]
  (have hE := noX; repeat' (first
    | refine awp_seq ?_
    | (refine awp_reg fun nv => ?_)
    | ((first | refine aops_nil ?_ | refine awp_skip ?_ | refine awp_exit ?_ | refine awp_ret ?_); try simp only [thenQ, blockQ, if_true, if_false, Nat.reduceEqDiff, eq_self, reduceCtorEq, reduceIte])
    | (apply aops_one 0; (· exact nT27_2 hE))
    | refine awp_block ?_
    | (apply awp_condt; (· exact nT27_2 hE))
    | (apply awp_condf; (· exact nT27_2 hE))
    | (apply awp_cond; (· exact nT27_2 hE); all_goals intro hc)
    | (apply aops_gsplit; (· rfl); (· exact nT27_2 hE); all_goals (intro hg; rw [hg])))); all_goals clear hE
  refine awp_loop (α := Nat) (fun j => [.sl (l.map eI), .fn g [] caps, .bot, .bot, .bot, .bot, .bot, .i .i64 l.length, .i .i64 j, .bot, .bot, .bot, .bot, .bot, .bot, .bot, .bot, .bot, .bot]) (fun _ => []) (fun j => j ≤ l.length ∧ ∀ k (hk : k < l.length), k < j → p l[k] = false) (fun j => l.length - j) 0 ⟨by omega, fun k _ hk => by omega⟩ ?_ (StLe.nil _) ?_
  · repeat' (first | exact FrLe.nil | apply FrLe.cons | apply FrLe.bot)
  rintro j ⟨hj, hno⟩
  by_cases hlt : j < l.length
  · have hlt' : (j : Int) < (l.length : Int) := by omega
    have hget : (l.map eI)[j]? = some [.i .i64 l[j]] := by simp [hlt, eI]
    have h0 : (0 : Int) ≤ (j : Int) := by omega
    have hw := wrapS hlt hl
    have hp := h l[j] (List.getElem_mem hlt)
    cases hx : p l[j] with
    | true =>
      rw [hx] at hp
      (have hE := And.intro @hlt' (And.intro @hget (And.intro @h0 (And.intro @hw noX))); repeat' (first
    | refine awp_seq ?_
    | (refine awp_reg fun nv => ?_)
    | ((first | refine aops_nil ?_ | refine awp_skip ?_ | refine awp_exit ?_ | refine awp_ret ?_); try simp only [thenQ, blockQ, if_true, if_false, Nat.reduceEqDiff, eq_self, reduceCtorEq, reduceIte])
    | (apply aops_one 0; (· exact nT27_3 hE))
    | (apply aops_call (hlf := h_ask); (· rfl); (· exact nT27_3 hE); (· exact (pure_cons (.i _ _) hcaps)); (· exact hp); (· exact nput))
    | refine awp_block ?_
    | (apply awp_condt; (· exact nT27_3 hE))
    | (apply awp_condf; (· exact nT27_3 hE))
    | (apply awp_cond; (· exact nT27_3 hE); all_goals intro hc)
    | (apply aops_gsplit; (· rfl); (· exact nT27_3 hE); all_goals (intro hg; rw [hg])))); all_goals clear hE
      all_goals
        (apply awp_end [] (by first | exact .inl rfl | exact .inr rfl); (· exact nT27_1 (noX)))
        refine fz_res ?_ (.i _ _)
        simp only [tup, AV.i.injEq, true_and]
        unfold idxI
        rw [findIdxI_at hlt hx hno]
    | false =>
      rw [hx] at hp
      (have hE := And.intro @hlt' (And.intro @hget (And.intro @h0 (And.intro @hw noX))); repeat' (first
    | refine awp_seq ?_
    | (refine awp_reg fun nv => ?_)
    | ((first | refine aops_nil ?_ | refine awp_skip ?_ | refine awp_exit ?_ | refine awp_ret ?_); try simp only [thenQ, blockQ, if_true, if_false, Nat.reduceEqDiff, eq_self, reduceCtorEq, reduceIte])
    | (apply aops_one 0; (· exact nT27_3 hE))
    | (apply aops_call (hlf := h_ask); (· rfl); (· exact nT27_3 hE); (· exact (pure_cons (.i _ _) hcaps)); (· exact hp); (· exact nput))
    | refine awp_block ?_
    | (apply awp_condt; (· exact nT27_3 hE))
    | (apply awp_condf; (· exact nT27_3 hE))
    | (apply awp_cond; (· exact nT27_3 hE); all_goals intro hc)
    | (apply aops_gsplit; (· rfl); (· exact nT27_3 hE); all_goals (intro hg; rw [hg])))); all_goals clear hE
      all_goals
        refine ⟨j + 1, ⟨by omega, fun k hk1 hk => ?_⟩, by omega, by repeat' (first | exact FrLe.nil | apply FrLe.cons | apply FrLe.bot), StLe.nil _⟩
        by_cases e : k = j
        · subst e; exact hx
        · exact hno k hk1 (by omega)
  · have hlt' : ¬ (j : Int) < (l.length : Int) := by omega
    (have hE := And.intro @hlt' noX; repeat' (first
    | refine awp_seq ?_
    | (refine awp_reg fun nv => ?_)
    | ((first | refine aops_nil ?_ | refine awp_skip ?_ | refine awp_exit ?_ | refine awp_ret ?_); try simp only [thenQ, blockQ, if_true, if_false, Nat.reduceEqDiff, eq_self, reduceCtorEq, reduceIte])
    | (apply aops_one 0; (· exact nT27_1 hE))
    | refine awp_block ?_
    | (apply awp_condt; (· exact nT27_1 hE))
    | (apply awp_condf; (· exact nT27_1 hE))
    | (apply awp_cond; (· exact nT27_1 hE); all_goals intro hc)
    | (apply aops_gsplit; (· rfl); (· exact nT27_1 hE); all_goals (intro hg; rw [hg])))); all_goals clear hE
    all_goals
      (apply awp_end [] (by first | exact .inl rfl | exact .inr rfl); (· exact nT27_1 (noX)))
      refine fz_res ?_ (.i _ _)
      simp only [tup, AV.i.injEq, true_and]
      unfold idxI
      rw [findIdxI_none (fun k hk => hno k hk (by omega))]
theorem p_ContainsFuncI {g : Nat} {lf : LF} {caps : List AV} (p : Int → Bool) (l : List Int) (hl : l.length < 4611686018427387904) (h_ask : lowFn Try.prog g = some lf) (hcaps : ∀ x ∈ caps, Pure x) (h : ∀ r ∈ l, APure Try.prog g (.i .i64 r :: caps) (.b (p r))) :
    APure Try.prog n_slices_ContainsFunc_int_int [ePorts l, .fn g [] caps] (.b (l.any p)) := by
  have hp := p_IndexFuncI p l hl h_ask hcaps h
  have hpu : ∀ x ∈ [ePorts l, .fn g [] caps], Pure x := pure_cons (ePorts_Pure l) (pure_cons (.fn _ _ _ pure_nil hcaps) pure_nil)
  refine apure_of h_slices_ContainsFunc_int_int ?_; simp only [c_slices_ContainsFunc_int_int, List.length_cons, List.length_nil, List.cons_append, List.nil_append, Nat.reduceAdd, Nat.reduceSub, List.reduceReplicate]
  cases hf : l.findIdx? p with
  | none =>
    rw [idxI, hf] at hp
    have hx : l.any p = false := by
      rw [List.findIdx?_eq_none_iff] at hf
      rw [List.any_eq_false]
      intro x hx; simp [hf x hx]
    rw [hx]
    (have hE := noX; repeat' (first
    | refine awp_seq ?_
    | (refine awp_reg fun nv => ?_)
    | ((first | refine aops_nil ?_ | refine awp_skip ?_ | refine awp_exit ?_ | refine awp_ret ?_); try simp only [thenQ, blockQ, if_true, if_false, Nat.reduceEqDiff, eq_self, reduceCtorEq, reduceIte])
    | (apply aops_one 0; (· exact nT27_1 hE))
    | (apply aops_call (hlf := h_slices_IndexFunc_int_int); (· rfl); (· exact nT27_1 hE); (· exact hpu); (· exact hp); (· exact nput))
    | refine awp_block ?_
    | (apply awp_condt; (· exact nT27_1 hE))
    | (apply awp_condf; (· exact nT27_1 hE))
    | (apply awp_cond; (· exact nT27_1 hE); all_goals intro hc)
    | (apply aops_gsplit; (· rfl); (· exact nT27_1 hE); all_goals (intro hg; rw [hg])))); all_goals clear hE
    all_goals
      (apply awp_end [] (by first | exact .inl rfl | exact .inr rfl); (· exact nT27_1 (noX)))
      exact fz_res rfl (.b _)
  | some j =>
    rw [idxI, hf] at hp
    have h0 : (j : Int) ≥ 0 := by omega
    have hx : l.any p = true := by
      rw [List.findIdx?_eq_some_iff_getElem] at hf
      obtain ⟨h1, h2, _⟩ := hf
      rw [List.any_eq_true]
      exact ⟨l[j], List.getElem_mem h1, h2⟩
    rw [hx]
    (have hE := And.intro @h0 noX; repeat' (first
    | refine awp_seq ?_
    | (refine awp_reg fun nv => ?_)
    | ((first | refine aops_nil ?_ | refine awp_skip ?_ | refine awp_exit ?_ | refine awp_ret ?_); try simp only [thenQ, blockQ, if_true, if_false, Nat.reduceEqDiff, eq_self, reduceCtorEq, reduceIte])
    | (apply aops_one 0; (· exact nT27_1 hE))
    | (apply aops_call (hlf := h_slices_IndexFunc_int_int); (· rfl); (· exact nT27_1 hE); (· exact hpu); (· exact hp); (· exact nput))
    | refine awp_block ?_
    | (apply awp_condt; (· exact nT27_1 hE))
    | (apply awp_condf; (· exact nT27_1 hE))
    | (apply awp_cond; (· exact nT27_1 hE); all_goals intro hc)
    | (apply aops_gsplit; (· rfl); (· exact nT27_1 hE); all_goals (intro hg; rw [hg])))); all_goals clear hE
    all_goals
      (apply awp_end [] (by first | exact .inl rfl | exact .inr rfl); (· exact nT27_1 (noX)))
      exact fz_res rfl (.b _)
def otherE (q : Query) : Bool := q.other.toList == (ByteArray.mk #[]).toList
def rightQ (n : Net) (q : Query) : Bool :=
  !(decide (q.kind < 0) || decide (q.kind > 5) || decide (q.f > q.t)) && !([q.a, q.b, q.w].any (outside n)) && ((singleB q || (q.a == 0 && q.b == 0)) && (q.kind == 4 || q.w == 0) && (q.kind == 5 || otherE q))
set_option maxHeartbeats 8000000 in
theorem p_RightQ (n : Net) (q : Query) : APure Try.prog n_query_Right [.ag [ePorts n.ports, eLinks n.links, eRules n.rules], .ag q.row] (.b (rightQ n q)) := by
  have hcf := p_ContainsFuncI (caps := [.ref [ePorts n.ports, eLinks n.links, eRules n.rules] 0]) (outside n) [q.a, q.b, q.w] (by simp) h_query_Right_c1 (pure_cons (.ref _ _ (by simp [ePorts_pure, eLinks_pure, eRules_pure])) pure_nil) (fun d _ => p_Right_c1 n d)
  have hs := p_single q
  refine apure_of h_query_Right ?_; simp only [c_query_Right, List.length_cons, List.length_nil, List.cons_append, List.nil_append, Nat.reduceAdd, Nat.reduceSub, List.reduceReplicate]
  (have hE := noX; repeat' (first
    | refine awp_seq ?_
    | (refine awp_reg fun nv => ?_)
    | ((first | refine aops_nil ?_ | refine awp_skip ?_ | refine awp_exit ?_ | refine awp_ret ?_); try simp only [thenQ, blockQ, if_true, if_false, Nat.reduceEqDiff, eq_self, reduceCtorEq, reduceIte])
    | (apply aops_one 0; (· exact nT27_0 hE))
    | (apply aops_callf [(0, 2), (0, 29)] (hlf := h_slices_ContainsFunc_int_int); (· rfl); (· exact nT27_0 hE); (· exact (fzl_cons (fz_row (by simp) rfl rfl (by simp) (by simp [pure_i])) (fzl_cons (fz_fn fzl_nil (fzl_cons (fz_ptr (by simp) rfl rfl (fzl_cons (fz_eq' rfl (ePorts_Pure _)) (fzl_cons (fz_eq' rfl (eLinks_Pure _)) (fzl_cons (fz_eq' rfl (eRules_Pure _)) fzl_nil)))) fzl_nil)) fzl_nil))); (· exact hcf); (· exact (.b _)); (· exact nput))
    | (apply aops_call (hlf := h_query_single); (· rfl); (· exact nT27_0 hE); (· exact pT27_); (· exact hs); (· exact nput))
    | refine awp_block ?_
    | (apply awp_condt; (· exact nT27_0 hE))
    | (apply awp_condf; (· exact nT27_0 hE))
    | (apply awp_cond; (· exact nT27_0 hE); all_goals intro hc)
    | (apply aops_gsplit; (· rfl); (· exact nT27_0 hE); all_goals (intro hg; rw [hg])))); all_goals clear hE
  all_goals
    (apply awp_end [] (by first | exact .inl rfl | exact .inr rfl); (· exact nT27_1 (noX)))
    refine fz_res ?_ (.b _)
    simp only [tup, Bool.or_false, Bool.false_or, Bool.not_false, Bool.not_true, Bool.true_and, Bool.and_true, Bool.true_or, Bool.or_true, Bool.and_false, Bool.false_and, Bool.not_not, rightQ, otherE, *]
end Go.Proofs.Ytibkakodokbobaa
