import Derived.Test.YtibkakodokbobaaT21
namespace Go.Proofs.Ytibkakodokbobaa
open Go.Am
set_option maxRecDepth 100000
set_option linter.unusedSimpArgs false
set_option linter.unusedVariables false
theorem nT22_0 {E A : Prop} (e : E) (h : E → A := by (intro hE; simp only [aone, aoneT, gval, astep, aev, val, abin, abinI, abinS, aun, aeqn, aeqL, aeq1, put, upds, sset, sget, aload, astore, aobj, acut, cells_b, one_b, cells_i, one_i, cells_s, one_s, cells_nilp, one_nilp, cells_ref, one_ref, cells_ptr, one_ptr, cells_esl, one_esl, cells_sl, one_sl, cells_row, one_row, cells_fn, one_fn, cells_nilf, one_nilf, cells_nilm, one_nilm, cells_mp, one_mp, cells_mpr, one_mpr, cells_ag, anilck, afieldAddr, aindex, aindexAddr, alen, afill, afillR, aminmax, aminmax.aminmaxI, isNeq, sdl, kin, acall, ares, ares1, arows, aappend, aslice, asliceS, asliceR, aslice0, abnd, List.set_cons_succ, List.set_cons_zero, List.getD_cons_succ, List.getD_cons_zero, List.getElem?_cons_succ, List.getElem?_cons_zero, List.map_cons, List.map_nil, List.cons_append, List.nil_append, List.append_nil, List.length_cons, List.length_nil, List.take_succ_cons, List.take_zero, List.drop_succ_cons, List.drop_zero, List.all_cons, List.all_nil, List.replicate, Nat.reduceAdd, Nat.reduceSub, Nat.reduceMul, Nat.reduceLT, Nat.reduceLeDiff, Nat.reduceEqDiff, Nat.zero_add, Nat.add_zero, Nat.zero_mul, Option.map_some, Option.map_none, Option.bind_some, Option.bind_eq_bind, Option.getD_some, Option.getD_none, Option.isSome_some, Option.isSome_none, Option.toList, if_true, if_false, and_self, and_true, true_and, and_false, false_and, Prod.mk.injEq, Bool.false_eq_true, Bool.true_eq_false, beq_self_eq_true, Bool.not_true, Bool.not_false, Bool.and_self, Bool.and_true, Bool.true_and, decide_true, decide_false, beq_true, beq_false, Bool.not_not, reduceCtorEq, Nat.le_refl, Int.reduceNeg, reduceIte, Nat.reduceBEq, Int.reduceBEq, Int.reduceLT, Int.reduceLE, Int.reduceToNat, decide_eq_true_eq, not_false_eq_true, not_true_eq_false, ne_eq, eLinks_cells, eLinks_one, ePorts_cells, ePorts_one, eRules_cells, eRules_one, hE] <;> rfl)) : A := h e
theorem nT22_1 {E A : Prop} (e : E) (h : E → A := by (intro hE; simp only [aone, aoneT, gval, astep, aev, val, abin, abinI, abinS, aun, aeqn, aeqL, aeq1, put, upds, sset, sget, aload, astore, aobj, acut, cells_b, one_b, cells_i, one_i, cells_s, one_s, cells_nilp, one_nilp, cells_ref, one_ref, cells_ptr, one_ptr, cells_esl, one_esl, cells_sl, one_sl, cells_row, one_row, cells_fn, one_fn, cells_nilf, one_nilf, cells_nilm, one_nilm, cells_mp, one_mp, cells_mpr, one_mpr, cells_ag, anilck, afieldAddr, aindex, aindexAddr, alen, afill, afillR, aminmax, aminmax.aminmaxI, isNeq, sdl, kin, acall, ares, ares1, arows, aappend, aslice, asliceS, asliceR, aslice0, abnd, List.set_cons_succ, List.set_cons_zero, List.getD_cons_succ, List.getD_cons_zero, List.getElem?_cons_succ, List.getElem?_cons_zero, List.map_cons, List.map_nil, List.cons_append, List.nil_append, List.append_nil, List.length_cons, List.length_nil, List.take_succ_cons, List.take_zero, List.drop_succ_cons, List.drop_zero, List.all_cons, List.all_nil, List.replicate, Nat.reduceAdd, Nat.reduceSub, Nat.reduceMul, Nat.reduceLT, Nat.reduceLeDiff, Nat.reduceEqDiff, Nat.zero_add, Nat.add_zero, Nat.zero_mul, Option.map_some, Option.map_none, Option.bind_some, Option.bind_eq_bind, Option.getD_some, Option.getD_none, Option.isSome_some, Option.isSome_none, Option.toList, if_true, if_false, and_self, and_true, true_and, and_false, false_and, Prod.mk.injEq, Bool.false_eq_true, Bool.true_eq_false, beq_self_eq_true, Bool.not_true, Bool.not_false, Bool.and_self, Bool.and_true, Bool.true_and, decide_true, decide_false, beq_true, beq_false, Bool.not_not, reduceCtorEq, Nat.le_refl, Int.reduceNeg, reduceIte, Nat.reduceBEq, Int.reduceBEq, Int.reduceLT, Int.reduceLE, Int.reduceToNat, decide_eq_true_eq, not_false_eq_true, not_true_eq_false, ne_eq, Int.toNat_natCast, eLinks_cells, eLinks_one, ePorts_cells, ePorts_one, eRules_cells, eRules_one, hE] <;> rfl)) : A := h e
theorem nT22_2 {E A : Prop} (e : E) (h : E → A := by (intro hE; simp only [aone, aoneT, gval, astep, aev, val, abin, abinI, abinS, aun, aeqn, aeqL, aeq1, put, upds, sset, sget, aload, astore, aobj, acut, cells_b, one_b, cells_i, one_i, cells_s, one_s, cells_nilp, one_nilp, cells_ref, one_ref, cells_ptr, one_ptr, cells_esl, one_esl, cells_sl, one_sl, cells_row, one_row, cells_fn, one_fn, cells_nilf, one_nilf, cells_nilm, one_nilm, cells_mp, one_mp, cells_mpr, one_mpr, cells_ag, anilck, afieldAddr, aindex, aindexAddr, alen, afill, afillR, aminmax, aminmax.aminmaxI, isNeq, sdl, kin, acall, ares, ares1, arows, aappend, aslice, asliceS, asliceR, aslice0, abnd, List.set_cons_succ, List.set_cons_zero, List.getD_cons_succ, List.getD_cons_zero, List.getElem?_cons_succ, List.getElem?_cons_zero, List.map_cons, List.map_nil, List.cons_append, List.nil_append, List.append_nil, List.length_cons, List.length_nil, List.take_succ_cons, List.take_zero, List.drop_succ_cons, List.drop_zero, List.all_cons, List.all_nil, List.replicate, Nat.reduceAdd, Nat.reduceSub, Nat.reduceMul, Nat.reduceLT, Nat.reduceLeDiff, Nat.reduceEqDiff, Nat.zero_add, Nat.add_zero, Nat.zero_mul, Option.map_some, Option.map_none, Option.bind_some, Option.bind_eq_bind, Option.getD_some, Option.getD_none, Option.isSome_some, Option.isSome_none, Option.toList, if_true, if_false, and_self, and_true, true_and, and_false, false_and, Prod.mk.injEq, Bool.false_eq_true, Bool.true_eq_false, beq_self_eq_true, Bool.not_true, Bool.not_false, Bool.and_self, Bool.and_true, Bool.true_and, decide_true, decide_false, beq_true, beq_false, Bool.not_not, reduceCtorEq, Nat.le_refl, Int.reduceNeg, reduceIte, Nat.reduceBEq, Int.reduceBEq, Int.reduceLT, Int.reduceLE, Int.reduceToNat, decide_eq_true_eq, not_false_eq_true, not_true_eq_false, ne_eq, Int.toNat_natCast, List.length_map, Nat.sub_zero, Nat.zero_le, aclear, eLinks_cells, eLinks_one, ePorts_cells, ePorts_one, eRules_cells, eRules_one, hE] <;> rfl)) : A := h e
theorem pT22_ {A : Prop} (h : A := by (simp only [List.forall_mem_cons, List.forall_mem_nil, List.not_mem_nil, false_imp_iff, implies_true, List.forall_mem_map, pure_b, pure_i, pure_s, pure_nilp, pure_nilf, pure_esl, pure_ref, pure_sl, pure_ag, pure_tu, pure_fn, and_self, and_true, true_and, eRules_pure, ePorts_pure, eLinks_pure]; done)) : A := h
/-! ### slices.DeleteFunc, on a row of its own, asked by rule.first's closure -/
def zrow : List AV := [.i .i64 0, .i .i64 0, .i .i64 0, .i .i64 0, .i .u32 0, .i .u32 0, .i .i64 0]
theorem rules_set (rs : List Rule) (i : Nat) (r : Rule) : (rs.map Rule.row).set i [.i .i64 r.id, .i .i64 r.dev, .i .i64 r.prio, .i .i64 r.kind, .i .u32 r.f, .i .u32 r.t, .i .i64 r.port] = (rs.set i r).map Rule.row := by
  rw [List.map_set]; rfl
theorem keep_le (q : Rule → Bool) (l : List Rule) (j : Nat) : ((l.take j).filter q).length ≤ j := Nat.le_trans (List.length_filter_le _ _) (List.length_take_le _ _)
theorem idxF_none {p : Rule → Bool} {l : List Rule} (h : idxF p l = -1) : ∀ r ∈ l, p r = false := by
  unfold idxF at h
  split at h
  · omega
  · rename_i h1
    exact List.findIdx?_eq_none_iff.1 h1
theorem idxF_some {p : Rule → Bool} {l : List Rule} (h : idxF p l ≠ -1) : ∃ i, idxF p l = ((i : Nat) : Int) ∧ ∃ hi : i < l.length, p l[i] = true ∧ ∀ k (hk : k < i), p (l[k]'(by omega)) = false := by
  unfold idxF at h ⊢
  split at h
  · rename_i j h1
    rw [List.findIdx?_eq_some_iff_getElem] at h1
    obtain ⟨hi, h2, h3⟩ := h1
    exact ⟨j, rfl, hi, h2, fun k hk => by simpa using h3 k hk⟩
  · exact absurd rfl h
set_option maxHeartbeats 4000000 in
theorem c_DeleteFunc' {g : Nat} {lf : LF} {F : AV} (q : Rule → Bool) (l : List Rule) (hl : l.length < 1000000) (v vf : Nat) (h_ask : lowFn Try.prog n_rule_first_c1 = some lf) (hF : Pure F) (h : ∀ r ∈ l, APure Try.prog n_rule_first_c1 [.ag r.row, .ref [F] 0] (.b (!q r))) :
    ACall Try.prog n_slices_DeleteFunc_api_Rule_api_Rule [.row (5, 5) v 0 l.length, .fn n_rule_first_c1 [] [.ptr (0, 3) vf 0 0]] [((5, 5), ⟨v, .rows 7 (l.map Rule.row)⟩), ((0, 3), ⟨vf, .rows 1 [[F]]⟩)]
      fun r σ => r = .row (5, 5) v 0 (l.filter q).length ∧ ∃ zs, StLe σ [((5, 5), ⟨v, .rows 7 ((l.filter q).map Rule.row ++ zs)⟩), ((0, 3), ⟨vf, .rows 1 [[F]]⟩)] := by
  have hidx := p_IndexFunc (fun r => !q r) l (by omega) h_ask (pure_cons (.ref _ _ (pure_cons hF pure_nil)) pure_nil) h
  have hfz : ∀ {σ : Store} {len : Nat}, sget σ (5, 5) = some ⟨v, .rows 7 (l.map Rule.row)⟩ → len = l.length → Fz σ [(5, 5), (0, 3)] (.row (5, 5) v 0 len) (eRules l) := fun hs hn => by
    subst hn
    exact fz_row (by simp) hs (by simp) (by simp [Rule.row]) (by simp [Rule.row, pure_i])
  have hfq : ∀ {σ : Store} {ks : List Key}, (0, 3) ∈ ks → sget σ (0, 3) = some ⟨vf, .rows 1 [[F]]⟩ → Fz σ ks (.ptr (0, 3) vf 0 0) (.ref [F] 0) := fun hk hs => fz_ptr hk hs rfl ⟨fz_eq' rfl hF, trivial⟩
  refine acall_of h_slices_DeleteFunc_api_Rule_api_Rule ?_; simp only [c_slices_DeleteFunc_api_Rule_api_Rule, List.length_cons, List.length_nil, List.cons_append, List.nil_append, Nat.reduceAdd, Nat.reduceSub, List.reduceReplicate]
  by_cases hi : idxF (fun r => !q r) l = -1
  · have hall : l.filter q = l := List.filter_eq_self.2 fun r hr => by have := idxF_none hi r hr; simpa using this
    rw [hi] at hidx
    (have hE := noX; repeat' (first
    | refine awp_seq ?_
    | (refine awp_reg fun nv => ?_)
    | ((first | refine aops_nil ?_ | refine awp_skip ?_ | refine awp_exit ?_ | refine awp_ret ?_); try simp only [thenQ, blockQ, if_true, if_false, Nat.reduceEqDiff, eq_self, reduceCtorEq, reduceIte])
    | (apply aops_one 1; (· exact nT22_0 hE))
    | (apply aops_callf [(5, 5), (0, 3)] (hlf := h_slices_IndexFunc_api_Rule_api_Rule); (· rfl); (· exact nT22_0 hE); (· exact (fzl_cons (hfz rfl rfl) (fzl_cons (fz_fn fzl_nil (fzl_cons (hfq (by simp) rfl) fzl_nil)) fzl_nil))); (· exact hidx); (· exact (.i _ _)); (· exact nput))
    | refine awp_block ?_
    | (apply awp_condt; (· exact nT22_0 hE))
    | (apply awp_condf; (· exact nT22_0 hE))
    | (apply awp_cond; (· exact nT22_0 hE); all_goals intro hc)
    | (apply aops_gsplit; (· rfl); (· exact nT22_0 hE); all_goals (intro hg; rw [hg])))); all_goals clear hE
    all_goals
      (apply acall_end (by first | exact .inl rfl | exact .inr rfl); (· exact nT22_0 (noX)))
      rw [hall]
      exact ⟨rfl, [], by rw [List.append_nil]; exact stle_cons rfl (stle_cons rfl (StLe.nil _))⟩
  · obtain ⟨i0, e0, hi0, hpi, hno⟩ := idxF_some hi
    rw [e0] at hidx
    have hne : ((i0 : Int) == -1) = false := by simp
    have hw0 := wrapS hi0 (by omega)
    have hk0 : (l.take (i0 + 1)).filter q = l.take i0 := by
      rw [List.take_succ_eq_append_getElem hi0, List.filter_append]
      have : [l[i0]].filter q = [] := by simp at hpi; simp [hpi]
      rw [this, List.append_nil]
      refine List.filter_eq_self.2 fun r hr => ?_
      obtain ⟨k, hk, rfl⟩ := List.getElem_of_mem hr
      rw [List.length_take] at hk
      have := hno k (by omega)
      simpa using this
    (have hE := And.intro @hne (And.intro @hw0 noX); repeat' (first
    | refine awp_seq ?_
    | (refine awp_reg fun nv => ?_)
    | ((first | refine aops_nil ?_ | refine awp_skip ?_ | refine awp_exit ?_ | refine awp_ret ?_); try simp only [thenQ, blockQ, if_true, if_false, Nat.reduceEqDiff, eq_self, reduceCtorEq, reduceIte])
    | (apply aops_one 1; (· exact nT22_0 hE))
    | (apply aops_callf [(5, 5), (0, 3)] (hlf := h_slices_IndexFunc_api_Rule_api_Rule); (· rfl); (· exact nT22_0 hE); (· exact (fzl_cons (hfz rfl rfl) (fzl_cons (fz_fn fzl_nil (fzl_cons (hfq (by simp) rfl) fzl_nil)) fzl_nil))); (· exact hidx); (· exact (.i _ _)); (· exact nput))
    | refine awp_block ?_
    | (apply awp_condt; (· exact nT22_0 hE))
    | (apply awp_condf; (· exact nT22_0 hE))
    | (apply awp_cond; (· exact nT22_0 hE); all_goals intro hc)
    | (apply aops_gsplit; (· rfl); (· exact nT22_0 hE); all_goals (intro hg; rw [hg])))); all_goals clear hE
    refine awp_loop (α := Nat × List Rule) (fun y => [.row (5, 5) v 0 l.length, .fn n_rule_first_c1 [] [.ptr (0, 3) vf 0 0], .bot, .bot, .bot, .i .i64 (((l.take y.1).filter q).length : Nat), .i .i64 (y.1 : Nat), .bot, .bot, .bot, .bot, .bot, .bot, .bot, .bot, .bot, .bot, .bot, .bot, .bot, .bot, .bot, .bot, .bot, .bot, .bot, .bot, .bot, .bot, .bot, .bot, .bot, .bot, .bot, .bot, .bot, .bot, .bot, .bot, .bot, .bot, .bot]) (fun y => [((5, 5), ⟨v, .rows 7 (y.2.map Rule.row)⟩), ((0, 3), ⟨vf, .rows 1 [[F]]⟩)])
      (fun y => y.1 ≤ l.length ∧ y.2.length = l.length ∧ y.2.take ((l.take y.1).filter q).length = (l.take y.1).filter q ∧ y.2.drop y.1 = l.drop y.1) (fun y => l.length - y.1) (i0 + 1, l) ⟨by simp only; omega, rfl, ?_, rfl⟩ ?_ ?_ ?_
    · simp only; rw [hk0, List.length_take, Nat.min_eq_left (by omega)]
    · simp only; rw [hk0, List.length_take, Nat.min_eq_left (by omega)]
      repeat' (first | exact FrLe.nil | apply FrLe.cons | apply FrLe.bot)
    · exact stle_cons rfl (stle_cons rfl (StLe.nil _))
    rintro ⟨j, rs⟩ ⟨hj, hlen, htake, hdrop⟩
    simp only at hj hlen htake hdrop ⊢
    have hkl := keep_le q l j
    by_cases hlt : j < l.length
    · have hlt' : (j : Int) < (l.length : Int) := by omega
      have hrj : rs[j]? = some l[j] := by
        have := congrArg (fun m => m[0]?) hdrop
        simpa [List.getElem?_drop, hlt] using this
      have hget : (rs.map Rule.row)[j]? = some [.i .i64 l[j].id, .i .i64 l[j].dev, .i .i64 l[j].prio, .i .i64 l[j].kind, .i .u32 l[j].f, .i .u32 l[j].t, .i .i64 l[j].port] := by simp [hrj, Rule.row]
      have h0 : (0 : Int) ≤ (j : Int) := by omega
      have hw := wrapS hlt (by omega)
      have hq := h l[j] (List.getElem_mem hlt)
      have hsucc : (l.take (j + 1)).filter q = (l.take j).filter q ++ (if q l[j] then [l[j]] else []) := by
        rw [List.take_succ_eq_append_getElem hlt, List.filter_append]
        cases hqq : q l[j] <;> simp [List.filter_cons, hqq]
      cases hx : q l[j] with
      | true =>
        rw [hx] at hq
        have hki : ((l.take j).filter q).length < rs.length := by omega
        have hgi : ∃ r0 : Rule, (rs.map Rule.row)[((l.take j).filter q).length]? = some r0.row := ⟨rs[((l.take j).filter q).length], by simp [hki]⟩
        obtain ⟨r0, hgi⟩ := hgi
        have hgi' : (rs.map Rule.row)[((l.take j).filter q).length]? = some [.i .i64 r0.id, .i .i64 r0.dev, .i .i64 r0.prio, .i .i64 r0.kind, .i .u32 r0.f, .i .u32 r0.t, .i .i64 r0.port] := hgi
        have h0i : (0 : Int) ≤ ((((l.take j).filter q).length : Nat) : Int) := by omega
        have hli : ((((l.take j).filter q).length : Nat) : Int) < (l.length : Int) := by omega
        have hwi := wrapS (j := ((l.take j).filter q).length) (n := l.length) (by omega) (by omega)
        (have hE := And.intro @hlt' (And.intro @hget (And.intro @h0 (And.intro @hw (And.intro @hgi' (And.intro @h0i (And.intro @hli (And.intro @hwi noX))))))); repeat' (first
    | refine awp_seq ?_
    | (refine awp_reg fun nv => ?_)
    | ((first | refine aops_nil ?_ | refine awp_skip ?_ | refine awp_exit ?_ | refine awp_ret ?_); try simp only [thenQ, blockQ, if_true, if_false, Nat.reduceEqDiff, eq_self, reduceCtorEq, reduceIte])
    | (apply aops_one 1; (· exact nT22_1 hE))
    | (apply aops_callf [(0, 3)] (hlf := h_rule_first_c1); (· rfl); (· exact nT22_1 hE); (· exact (fzl_cons (fz_eq' rfl (rowPure l[j])) (fzl_cons (hfq (by simp) rfl) fzl_nil))); (· exact hq); (· exact (.b _)); (· exact nput))
    | refine awp_block ?_
    | (apply awp_condt; (· exact nT22_1 hE))
    | (apply awp_condf; (· exact nT22_1 hE))
    | (apply awp_cond; (· exact nT22_1 hE); all_goals intro hc)
    | (apply aops_gsplit; (· rfl); (· exact nT22_1 hE); all_goals (intro hg; rw [hg])))); all_goals clear hE
        all_goals
          refine ⟨(j + 1, rs.set ((l.take j).filter q).length l[j]), ⟨by simp only; omega, by simp only [List.length_set]; exact hlen, ?_, ?_⟩, by simp only; omega, ?_, ?_⟩
          · simp only [hsucc, hx, if_true, List.length_append, List.length_cons, List.length_nil, Nat.zero_add]
            rw [List.take_succ_eq_append_getElem (by rw [List.length_set]; exact hki), List.getElem_set_self, List.take_set_of_le (Nat.le_refl _), htake]
          · simp only
            rw [List.drop_set_of_lt (by omega)]
            have := congrArg (List.drop 1) hdrop
            simpa [List.drop_drop, Nat.add_comm] using this
          · simp only [hsucc, hx, if_true, List.length_append, List.length_cons, List.length_nil, Nat.zero_add]
            repeat' (first | exact FrLe.nil | apply FrLe.cons | apply FrLe.bot)
          · simp only
            rw [← rules_set]
            exact stle_cons rfl (stle_cons rfl (StLe.nil _))
      | false =>
        rw [hx] at hq
        (have hE := And.intro @hlt' (And.intro @hget (And.intro @h0 (And.intro @hw noX))); repeat' (first
    | refine awp_seq ?_
    | (refine awp_reg fun nv => ?_)
    | ((first | refine aops_nil ?_ | refine awp_skip ?_ | refine awp_exit ?_ | refine awp_ret ?_); try simp only [thenQ, blockQ, if_true, if_false, Nat.reduceEqDiff, eq_self, reduceCtorEq, reduceIte])
    | (apply aops_one 1; (· exact nT22_1 hE))
    | (apply aops_callf [(0, 3)] (hlf := h_rule_first_c1); (· rfl); (· exact nT22_1 hE); (· exact (fzl_cons (fz_eq' rfl (rowPure l[j])) (fzl_cons (hfq (by simp) rfl) fzl_nil))); (· exact hq); (· exact (.b _)); (· exact nput))
    | refine awp_block ?_
    | (apply awp_condt; (· exact nT22_1 hE))
    | (apply awp_condf; (· exact nT22_1 hE))
    | (apply awp_cond; (· exact nT22_1 hE); all_goals intro hc)
    | (apply aops_gsplit; (· rfl); (· exact nT22_1 hE); all_goals (intro hg; rw [hg])))); all_goals clear hE
        all_goals
          refine ⟨(j + 1, rs), ⟨by simp only; omega, hlen, ?_, ?_⟩, by simp only; omega, ?_, ?_⟩
          · simp only [hsucc, hx, Bool.false_eq_true, if_false, List.append_nil]
            exact htake
          · simp only
            have := congrArg (List.drop 1) hdrop
            simpa [List.drop_drop, Nat.add_comm] using this
          · simp only [hsucc, hx, Bool.false_eq_true, if_false, List.append_nil]
            repeat' (first | exact FrLe.nil | apply FrLe.cons | apply FrLe.bot)
          · exact stle_cons rfl (stle_cons rfl (StLe.nil _))
    · have hlt' : ¬ (j : Int) < (l.length : Int) := by omega
      have hjl : l.take j = l := List.take_of_length_le (by omega)
      rw [hjl] at htake hkl ⊢
      have hklt : (l.filter q).length < l.length := by
        rw [List.length_filter_lt_length_iff_exists]
        exact ⟨l[i0], List.getElem_mem hi0, by simpa using hpi⟩
      have hmk : (rs.map Rule.row).take (l.filter q).length = (l.filter q).map Rule.row := by rw [← List.map_take, htake]
      generalize hK : l.filter q = KK at *
      have h0i : (0 : Int) ≤ ((KK.length : Nat) : Int) := by omega
      have c1 : KK.length ≤ l.length := by omega
      have c2 : ¬ (l.length - KK.length = 0) := by omega
      have c3 : KK.length + (l.length - KK.length) ≤ rs.length := by omega
      (have hE := And.intro @hlt' (And.intro @h0i (And.intro @c1 (And.intro @c2 (And.intro @c3 noX)))); repeat' (first
    | refine awp_seq ?_
    | (refine awp_reg fun nv => ?_)
    | ((first | refine aops_nil ?_ | refine awp_skip ?_ | refine awp_exit ?_ | refine awp_ret ?_); try simp only [thenQ, blockQ, if_true, if_false, Nat.reduceEqDiff, eq_self, reduceCtorEq, reduceIte])
    | (apply aops_one 1; (· exact nT22_2 hE))
    | refine awp_block ?_
    | (apply awp_condt; (· exact nT22_2 hE))
    | (apply awp_condf; (· exact nT22_2 hE))
    | (apply awp_cond; (· exact nT22_2 hE); all_goals intro hc)
    | (apply aops_gsplit; (· rfl); (· exact nT22_2 hE); all_goals (intro hg; rw [hg])))); all_goals clear hE
      all_goals
        (apply acall_end (by first | exact .inl rfl | exact .inr rfl); (· exact nT22_0 (noX)))
        refine ⟨rfl, List.replicate (l.length - KK.length) zrow ++ (rs.map Rule.row).drop (KK.length + (l.length - KK.length)), stle_cons ?_ (stle_cons rfl (StLe.nil _))⟩
        rw [← List.append_assoc, ← hmk]
        rfl
theorem c_DeleteFunc {g : Nat} {lf : LF} {F : AV} (q : Rule → Bool) (l : List Rule) (hl : l.length < 1000000) (v vf : Nat) (h_ask : lowFn Try.prog n_rule_first_c1 = some lf) (hF : Pure F) (h : ∀ r ∈ l, APure Try.prog n_rule_first_c1 [.ag r.row, .ref [F] 0] (.b (!q r))) :
    ACall Try.prog n_slices_DeleteFunc_api_Rule_api_Rule [.row (5, 5) v 0 l.length, .fn n_rule_first_c1 [] [.ptr (0, 3) vf 0 0]] [((5, 5), ⟨v, .rows 7 (l.map Rule.row)⟩), ((0, 3), ⟨vf, .rows 1 [[F]]⟩)]
      fun r s => ∃ zs : List (List AV), r = .row (5, 5) v 0 (l.filter q).length ∧ s = [((5, 5), ⟨v, .rows 7 ((l.filter q).map Rule.row ++ zs)⟩), ((0, 3), ⟨vf, .rows 1 [[F]]⟩)] :=
  (c_DeleteFunc' (g := g) q l hl v vf h_ask hF h).weak fun r s ⟨h1, zs, h2⟩ => ⟨_, h2, zs, h1, rfl⟩
end Go.Proofs.Ytibkakodokbobaa
