import Derived.Test.YtibkakodokbobaaT24
namespace Go.Proofs.Ytibkakodokbobaa
open Go.Am
set_option maxRecDepth 100000
set_option linter.unusedSimpArgs false
set_option linter.unusedVariables false
theorem nT25_0 {E A : Prop} (e : E) (h : E → A := by (intro hE; simp only [aone, aoneT, gval, astep, aev, val, abin, abinI, abinS, aun, aeqn, aeqL, aeq1, put, upds, sset, sget, aload, astore, aobj, acut, cells_b, one_b, cells_i, one_i, cells_s, one_s, cells_nilp, one_nilp, cells_ref, one_ref, cells_ptr, one_ptr, cells_esl, one_esl, cells_sl, one_sl, cells_row, one_row, cells_fn, one_fn, cells_nilf, one_nilf, cells_nilm, one_nilm, cells_mp, one_mp, cells_mpr, one_mpr, cells_ag, anilck, afieldAddr, aindex, aindexAddr, alen, afill, afillR, aminmax, aminmax.aminmaxI, isNeq, sdl, kin, acall, ares, ares1, arows, aappend, aslice, asliceS, asliceR, aslice0, abnd, List.set_cons_succ, List.set_cons_zero, List.getD_cons_succ, List.getD_cons_zero, List.getElem?_cons_succ, List.getElem?_cons_zero, List.map_cons, List.map_nil, List.cons_append, List.nil_append, List.append_nil, List.length_cons, List.length_nil, List.take_succ_cons, List.take_zero, List.drop_succ_cons, List.drop_zero, List.all_cons, List.all_nil, List.replicate, Nat.reduceAdd, Nat.reduceSub, Nat.reduceMul, Nat.reduceLT, Nat.reduceLeDiff, Nat.reduceEqDiff, Nat.zero_add, Nat.add_zero, Nat.zero_mul, Option.map_some, Option.map_none, Option.bind_some, Option.bind_eq_bind, Option.getD_some, Option.getD_none, Option.isSome_some, Option.isSome_none, Option.toList, if_true, if_false, and_self, and_true, true_and, and_false, false_and, Prod.mk.injEq, Bool.false_eq_true, Bool.true_eq_false, beq_self_eq_true, Bool.not_true, Bool.not_false, Bool.and_self, Bool.and_true, Bool.true_and, decide_true, decide_false, beq_true, beq_false, Bool.not_not, reduceCtorEq, Nat.le_refl, Int.reduceNeg, reduceIte, Nat.reduceBEq, Int.reduceBEq, Int.reduceLT, Int.reduceLE, Int.reduceToNat, decide_eq_true_eq, not_false_eq_true, not_true_eq_false, ne_eq, List.length_map, eLinks, eLinks_cells, eLinks_one, ePorts_cells, ePorts_one, eRules_cells, eRules_one, hE] <;> rfl)) : A := h e
theorem nT25_1 {E A : Prop} (e : E) (h : E → A := by (intro hE; simp only [aone, aoneT, gval, astep, aev, val, abin, abinI, abinS, aun, aeqn, aeqL, aeq1, put, upds, sset, sget, aload, astore, aobj, acut, cells_b, one_b, cells_i, one_i, cells_s, one_s, cells_nilp, one_nilp, cells_ref, one_ref, cells_ptr, one_ptr, cells_esl, one_esl, cells_sl, one_sl, cells_row, one_row, cells_fn, one_fn, cells_nilf, one_nilf, cells_nilm, one_nilm, cells_mp, one_mp, cells_mpr, one_mpr, cells_ag, anilck, afieldAddr, aindex, aindexAddr, alen, afill, afillR, aminmax, aminmax.aminmaxI, isNeq, sdl, kin, acall, ares, ares1, arows, aappend, aslice, asliceS, asliceR, aslice0, abnd, List.set_cons_succ, List.set_cons_zero, List.getD_cons_succ, List.getD_cons_zero, List.getElem?_cons_succ, List.getElem?_cons_zero, List.map_cons, List.map_nil, List.cons_append, List.nil_append, List.append_nil, List.length_cons, List.length_nil, List.take_succ_cons, List.take_zero, List.drop_succ_cons, List.drop_zero, List.all_cons, List.all_nil, List.replicate, Nat.reduceAdd, Nat.reduceSub, Nat.reduceMul, Nat.reduceLT, Nat.reduceLeDiff, Nat.reduceEqDiff, Nat.zero_add, Nat.add_zero, Nat.zero_mul, Option.map_some, Option.map_none, Option.bind_some, Option.bind_eq_bind, Option.getD_some, Option.getD_none, Option.isSome_some, Option.isSome_none, Option.toList, if_true, if_false, and_self, and_true, true_and, and_false, false_and, Prod.mk.injEq, Bool.false_eq_true, Bool.true_eq_false, beq_self_eq_true, Bool.not_true, Bool.not_false, Bool.and_self, Bool.and_true, Bool.true_and, decide_true, decide_false, beq_true, beq_false, Bool.not_not, reduceCtorEq, Nat.le_refl, Int.reduceNeg, reduceIte, Nat.reduceBEq, Int.reduceBEq, Int.reduceLT, Int.reduceLE, Int.reduceToNat, decide_eq_true_eq, not_false_eq_true, not_true_eq_false, ne_eq, eLinks_cells, eLinks_one, ePorts_cells, ePorts_one, eRules_cells, eRules_one, hE] <;> rfl)) : A := h e
theorem nT25_2 {E A : Prop} (e : E) (h : E → A := by (intro hE; simp only [aone, aoneT, gval, astep, aev, val, abin, abinI, abinS, aun, aeqn, aeqL, aeq1, put, upds, sset, sget, aload, astore, aobj, acut, cells_b, one_b, cells_i, one_i, cells_s, one_s, cells_nilp, one_nilp, cells_ref, one_ref, cells_ptr, one_ptr, cells_esl, one_esl, cells_sl, one_sl, cells_row, one_row, cells_fn, one_fn, cells_nilf, one_nilf, cells_nilm, one_nilm, cells_mp, one_mp, cells_mpr, one_mpr, cells_ag, anilck, afieldAddr, aindex, aindexAddr, alen, afill, afillR, aminmax, aminmax.aminmaxI, isNeq, sdl, kin, acall, ares, ares1, arows, aappend, aslice, asliceS, asliceR, aslice0, abnd, List.set_cons_succ, List.set_cons_zero, List.getD_cons_succ, List.getD_cons_zero, List.getElem?_cons_succ, List.getElem?_cons_zero, List.map_cons, List.map_nil, List.cons_append, List.nil_append, List.append_nil, List.length_cons, List.length_nil, List.take_succ_cons, List.take_zero, List.drop_succ_cons, List.drop_zero, List.all_cons, List.all_nil, List.replicate, Nat.reduceAdd, Nat.reduceSub, Nat.reduceMul, Nat.reduceLT, Nat.reduceLeDiff, Nat.reduceEqDiff, Nat.zero_add, Nat.add_zero, Nat.zero_mul, Option.map_some, Option.map_none, Option.bind_some, Option.bind_eq_bind, Option.getD_some, Option.getD_none, Option.isSome_some, Option.isSome_none, Option.toList, if_true, if_false, and_self, and_true, true_and, and_false, false_and, Prod.mk.injEq, Bool.false_eq_true, Bool.true_eq_false, beq_self_eq_true, Bool.not_true, Bool.not_false, Bool.and_self, Bool.and_true, Bool.true_and, decide_true, decide_false, beq_true, beq_false, Bool.not_not, reduceCtorEq, Nat.le_refl, Int.reduceNeg, reduceIte, Nat.reduceBEq, Int.reduceBEq, Int.reduceLT, Int.reduceLE, Int.reduceToNat, decide_eq_true_eq, not_false_eq_true, not_true_eq_false, ne_eq, eLinks_cells, eLinks_one, ePorts_cells, ePorts_one, ePt, eRules_cells, eRules_one, hE] <;> rfl)) : A := h e
theorem nT25_3 {E A : Prop} (e : E) (h : E → A := by (intro hE; simp only [aone, aoneT, gval, astep, aev, val, abin, abinI, abinS, aun, aeqn, aeqL, aeq1, put, upds, sset, sget, aload, astore, aobj, acut, cells_b, one_b, cells_i, one_i, cells_s, one_s, cells_nilp, one_nilp, cells_ref, one_ref, cells_ptr, one_ptr, cells_esl, one_esl, cells_sl, one_sl, cells_row, one_row, cells_fn, one_fn, cells_nilf, one_nilf, cells_nilm, one_nilm, cells_mp, one_mp, cells_mpr, one_mpr, cells_ag, anilck, afieldAddr, aindex, aindexAddr, alen, afill, afillR, aminmax, aminmax.aminmaxI, isNeq, sdl, kin, acall, ares, ares1, arows, aappend, aslice, asliceS, asliceR, aslice0, abnd, List.set_cons_succ, List.set_cons_zero, List.getD_cons_succ, List.getD_cons_zero, List.getElem?_cons_succ, List.getElem?_cons_zero, List.map_cons, List.map_nil, List.cons_append, List.nil_append, List.append_nil, List.length_cons, List.length_nil, List.take_succ_cons, List.take_zero, List.drop_succ_cons, List.drop_zero, List.all_cons, List.all_nil, List.replicate, Nat.reduceAdd, Nat.reduceSub, Nat.reduceMul, Nat.reduceLT, Nat.reduceLeDiff, Nat.reduceEqDiff, Nat.zero_add, Nat.add_zero, Nat.zero_mul, Option.map_some, Option.map_none, Option.bind_some, Option.bind_eq_bind, Option.getD_some, Option.getD_none, Option.isSome_some, Option.isSome_none, Option.toList, if_true, if_false, and_self, and_true, true_and, and_false, false_and, Prod.mk.injEq, Bool.false_eq_true, Bool.true_eq_false, beq_self_eq_true, Bool.not_true, Bool.not_false, Bool.and_self, Bool.and_true, Bool.true_and, decide_true, decide_false, beq_true, beq_false, Bool.not_not, reduceCtorEq, Nat.le_refl, Int.reduceNeg, reduceIte, Nat.reduceBEq, Int.reduceBEq, Int.reduceLT, Int.reduceLE, Int.reduceToNat, decide_eq_true_eq, not_false_eq_true, not_true_eq_false, ne_eq, Int.toNat_natCast, eLinks_cells, eLinks_one, ePorts_cells, ePorts_one, eRules_cells, eRules_one, hE] <;> rfl)) : A := h e
theorem pT25_ {A : Prop} (h : A := by (simp only [List.forall_mem_cons, List.forall_mem_nil, List.not_mem_nil, false_imp_iff, implies_true, List.forall_mem_map, pure_b, pure_i, pure_s, pure_nilp, pure_nilf, pure_esl, pure_ref, pure_sl, pure_ag, pure_tu, pure_fn, and_self, and_true, true_and, eRules_pure, ePorts_pure, eLinks_pure]; done)) : A := h
/-! ### topo: joined, Next -/
abbrev Pt := Int × Int
abbrev PM := List (Pt × Pt)
def ePt (p : Pt) : AV := .ag [.i .i64 p.1, .i .i64 p.2]
def putM (k v : Pt) : PM → PM
  | [] => [(k, v)]
  | q :: r => if q.1 = k then (k, v) :: r else q :: putM k v r
def lookM (k : Pt) : PM → Option Pt
  | [] => none
  | q :: r => if q.1 = k then some q.2 else lookM k r
def ksM (m : PM) : List AV := m.map fun q => ePt q.1
def vsM (m : PM) : List AV := m.map fun q => ePt q.2
def eqP : EqT := .agg [(0, 1), (1, 1)]
theorem abin_pt (k q : Pt) : abin .eql (.agg [(0, 1), (1, 1)]) (.ag [.i .i64 k.1, .i .i64 k.2]) (ePt q) = some (.b (decide (q = k))) := by
  have : (k.1 == q.1 && k.2 == q.2) = decide (q = k) := by
    rw [Bool.eq_iff_iff]
    simp only [Bool.and_eq_true, beq_iff_eq, decide_eq_true_eq, Prod.ext_iff]
    constructor
    · rintro ⟨a, b⟩; exact ⟨a.symm, b.symm⟩
    · rintro ⟨a, b⟩; exact ⟨a.symm, b.symm⟩
  simp [abin, ePt, aeqL, aeq1, aeqn, this]
def findM (k : Pt) : PM → Nat → Option Nat
  | [], _ => none
  | q :: r, i => if q.1 = k then some i else findM k r (i + 1)
theorem amfind_pt (k : Pt) : ∀ (m : PM) (i : Nat), amfind (.agg [(0, 1), (1, 1)]) (.ag [.i .i64 k.1, .i .i64 k.2]) (ksM m) i = some (findM k m i)
  | [], i => rfl
  | q :: r, i => by
    have ih := amfind_pt k r (i + 1)
    have hb := abin_pt k q.1
    simp only [ksM, List.map_cons, amfind] at ih ⊢
    rw [hb]
    by_cases h : q.1 = k
    · have ha : akeq (ePt q.1) (.ag [.i .i64 k.1, .i .i64 k.2]) = true := by subst h; simp [akeq, ePt, akeqL, akeq1]
      simp only [h, decide_true, findM, if_true]
      rw [← h] at ha ⊢
      simp [ha]
    · simp only [h, decide_false, findM, if_false]
      exact ih
theorem findM_spec (k v : Pt) : ∀ (m : PM) (i : Nat), match findM k m i with
    | some j => i ≤ j ∧ j - i < m.length ∧ (ksM m).set (j - i) (ePt k) = ksM (putM k v m) ∧ (vsM m).set (j - i) (ePt v) = vsM (putM k v m) ∧ (vsM m)[j - i]? = (lookM k m).map ePt ∧ (lookM k m).isSome = true
    | none => ksM m ++ [ePt k] = ksM (putM k v m) ∧ vsM m ++ [ePt v] = vsM (putM k v m) ∧ lookM k m = none
  | [], i => by simp [findM, ksM, vsM, putM, lookM]
  | q :: r, i => by
    by_cases h : q.1 = k
    · simp only [findM, if_pos h, putM, lookM]
      simp [ksM, vsM]
    · simp only [findM, if_neg h, putM, lookM]
      have ih := findM_spec k v r (i + 1)
      split at ih
      · rename_i j hj
        obtain ⟨h1, h2, h3, h4, h5, h6⟩ := ih
        have e : j - i = (j - (i + 1)) + 1 := by omega
        simp only [e]
        refine ⟨by omega, by simp only [List.length_cons]; omega, ?_, ?_, ?_, h6⟩
        · simp only [ksM, List.map_cons, List.set_cons_succ] at h3 ⊢; rw [h3]
        · simp only [vsM, List.map_cons, List.set_cons_succ] at h4 ⊢; rw [h4]
        · simp only [vsM, List.map_cons, List.getElem?_cons_succ] at h5 ⊢; rw [h5]
      · rename_i hj
        obtain ⟨h1, h2, h3⟩ := ih
        refine ⟨?_, ?_, h3⟩
        · simp only [ksM, List.map_cons, List.cons_append] at h1 ⊢; rw [h1]
        · simp only [vsM, List.map_cons, List.cons_append] at h2 ⊢; rw [h2]
theorem amapup_pt {σ : Store} {q : Key} {qv : Nat} {a b c d : Int} (m : PM) (hs : sget σ q = some ⟨qv, .map (ksM m) (vsM m)⟩) :
    amapup σ (.agg [(0, 1), (1, 1)]) 5 (.mpr q qv) (.ag [.i .i64 a, .i .i64 b]) (.ag [.i .i64 c, .i .i64 d]) = some (.bot, [q], [(q, ⟨qv, .map (ksM (putM (a, b) (c, d) m)) (vsM (putM (a, b) (c, d) m))⟩)]) := by
  have hf := amfind_pt (a, b) m 0
  have hsp := findM_spec (a, b) (c, d) m 0
  simp only [amapup, hs]
  rw [if_pos ⟨trivial, rfl⟩, hf]
  cases hj : findM (a, b) m 0 with
  | none =>
    rw [hj] at hsp
    simp only at hsp ⊢
    rw [← hsp.1, ← hsp.2.1]
    rfl
  | some j =>
    rw [hj] at hsp
    simp only [Nat.sub_zero] at hsp ⊢
    rw [← hsp.2.2.1, ← hsp.2.2.2.1]
    rfl
theorem alookup_pt {σ : Store} {a b : Int} (m : PM) : alookup σ (.agg [(0, 1), (1, 1)]) 5 (.ag [.i .i64 0, .i .i64 0]) true (.mp (ksM m) (vsM m)) (.ag [.i .i64 a, .i .i64 b]) = some (.tu [ePt ((lookM (a, b) m).getD (0, 0)), .b (lookM (a, b) m).isSome], []) := by
  have hf := amfind_pt (a, b) m 0
  have hsp := findM_spec (a, b) (0, 0) m 0
  simp only [alookup, amap]
  rw [if_pos (show akok 5 (AV.ag [AV.i IntKind.i64 a, AV.i IntKind.i64 b]) = true from rfl)]
  simp only [amlook]
  rw [hf]
  cases hj : findM (a, b) m 0 with
  | none =>
    rw [hj] at hsp
    simp only at hsp ⊢
    rw [hsp.2.2]
    rfl
  | some j =>
    rw [hj] at hsp
    simp only [Nat.sub_zero] at hsp ⊢
    obtain ⟨_, _, _, _, h5, h6⟩ := hsp
    rw [h5]
    cases hl : lookM (a, b) m with
    | none => rw [hl] at h6; cases h6
    | some v => rfl
def joinM (l : List Link) : PM := l.foldl (fun m x => putM (x.d2, x.p2) (x.d1, x.p1) (putM (x.d1, x.p1) (x.d2, x.p2) m)) []
def eMap (m : PM) : AV := .mp (ksM m) (vsM m)
theorem ksM_pure (m : PM) : ∀ x ∈ ksM m, Pure x := fun x hx => by
  obtain ⟨q, _, rfl⟩ := List.mem_map.1 hx
  exact .ag _ (by simp [pure_i])
theorem vsM_pure (m : PM) : ∀ x ∈ vsM m, Pure x := fun x hx => by
  obtain ⟨q, _, rfl⟩ := List.mem_map.1 hx
  exact .ag _ (by simp [pure_i])
theorem eMap_Pure (m : PM) : Pure (eMap m) := .mp _ _ (ksM_pure m) (vsM_pure m)
theorem fz_map {σ : Store} {ks : List Key} {k : Key} {ver : Nat} {xs ys : List AV} (hk : k ∈ ks) (hs : sget σ k = some ⟨ver, .map xs ys⟩) (h1 : ∀ x ∈ xs, Pure x) (h2 : ∀ x ∈ ys, Pure x) : Fz σ ks (.mpr k ver) (.mp xs ys) := by
  refine .mpr k ver xs ys xs ys hk hs rfl rfl (fun j x y hx hy => ?_) (fun j x y hx hy => ?_)
  · rw [hx] at hy; cases hy; exact .pure x (h1 x (List.mem_of_getElem? hx))
  · rw [hx] at hy; cases hy; exact .pure x (h2 x (List.mem_of_getElem? hx))
set_option maxHeartbeats 2000000 in
theorem p_joined (n : Net) (hl : n.links.length < 1000000) : APure Try.prog n_topo_joined [.ag [ePorts n.ports, eLinks n.links]] (eMap (joinM n.links)) := by
  refine apure_of h_topo_joined ?_; simp only [c_topo_joined, List.length_cons, List.length_nil, List.cons_append, List.nil_append, Nat.reduceAdd, Nat.reduceSub, List.reduceReplicate]
  (have hE := noX; repeat' (first
    | refine awp_seq ?_
    | (refine awp_reg fun nv => ?_)
    | (refine awp_regd mix fun nv => ?_)
    | ((first | refine aops_nil ?_ | refine adr_nil (by rfl) ?_ | refine awp_skip ?_ | refine awp_exit ?_ | refine awp_ret ?_); try simp only [thenQ, blockQ, if_true, if_false, Nat.reduceEqDiff, eq_self, reduceCtorEq, reduceIte])
    | ((first | apply aops_one 0 | apply adr_one 0); (· exact nT25_0 hE))
    | refine awp_block ?_
    | (apply awp_condt; (· exact nT25_0 hE))
    | (apply awp_condf; (· exact nT25_0 hE))
    | (apply awp_cond; (· exact nT25_0 hE); all_goals intro hc)
    | ((first | apply aops_gsplit | apply adr_gsplit); (· rfl); (· exact nT25_0 hE); all_goals (intro hg; rw [hg])))); all_goals clear hE
  rename_i n0 n1
  refine awp_loop (α := Nat) (fun j => [.bot, .bot, .bot, .mpr (0, 6) n1, .bot, .bot, .bot, .bot, .sl (n.links.map Link.row), .i .i64 n.links.length, .i .i64 j, .bot, .bot, .bot, .bot, .bot, .bot, .bot, .bot, .bot, .bot, .bot, .bot, .bot, .bot, .bot]) (fun j => [((0, 6), ⟨n1, .map (ksM (joinM (n.links.take j))) (vsM (joinM (n.links.take j)))⟩)]) (fun j => j ≤ n.links.length) (fun j => n.links.length - j) 0 (by omega) ?_ (stle_cons rfl (StLe.nil _)) ?_
  · repeat' (first | exact FrLe.nil | apply FrLe.cons | apply FrLe.bot)
  intro j hj
  by_cases hlt : j < n.links.length
  · have hlt' : (j : Int) < (n.links.length : Int) := by omega
    have hg1 : (n.links.map Link.row)[j]? = some [.i .i64 n.links[j].d1, .i .i64 n.links[j].p1, .i .i64 n.links[j].d2, .i .i64 n.links[j].p2] := by simp [hlt, Link.row]
    have h0 : (0 : Int) ≤ (j : Int) := by omega
    have hw := wrapS hlt (by omega)
    have hs : joinM (n.links.take (j + 1)) = putM (n.links[j].d2, n.links[j].p2) (n.links[j].d1, n.links[j].p1) (putM (n.links[j].d1, n.links[j].p1) (n.links[j].d2, n.links[j].p2) (joinM (n.links.take j))) := by
      rw [List.take_succ_eq_append_getElem hlt]; unfold joinM; rw [List.foldl_append]; rfl
    (have hE := And.intro @hlt' (And.intro @hg1 (And.intro @h0 (And.intro @hw noX))); repeat' (first
    | refine awp_seq ?_
    | (refine awp_reg fun nv => ?_)
    | (refine awp_regd mix fun nv => ?_)
    | ((first | refine aops_nil ?_ | refine adr_nil (by rfl) ?_ | refine awp_skip ?_ | refine awp_exit ?_ | refine awp_ret ?_); try simp only [thenQ, blockQ, if_true, if_false, Nat.reduceEqDiff, eq_self, reduceCtorEq, reduceIte])
    | ((first | apply aops_one 0 | apply adr_one 0); (· exact nT25_3 hE))
    | ((apply adr_one 0; (· (simp only [aone, aoneT, gval, astep, aev, val, abin, abinI, abinS, aun, aeqn, aeqL, aeq1, put, upds, sset, sget, aload, astore, aobj, acut, cells_b, one_b, cells_i, one_i, cells_s, one_s, cells_nilp, one_nilp, cells_ref, one_ref, cells_ptr, one_ptr, cells_esl, one_esl, cells_sl, one_sl, cells_row, one_row, cells_fn, one_fn, cells_nilf, one_nilf, cells_nilm, one_nilm, cells_mp, one_mp, cells_mpr, one_mpr, cells_ag, anilck, afieldAddr, aindex, aindexAddr, alen, afill, afillR, aminmax, aminmax.aminmaxI, isNeq, sdl, kin, acall, ares, ares1, arows, aappend, aslice, asliceS, asliceR, aslice0, abnd, List.set_cons_succ, List.set_cons_zero, List.getD_cons_succ, List.getD_cons_zero, List.getElem?_cons_succ, List.getElem?_cons_zero, List.map_cons, List.map_nil, List.cons_append, List.nil_append, List.append_nil, List.length_cons, List.length_nil, List.take_succ_cons, List.take_zero, List.drop_succ_cons, List.drop_zero, List.all_cons, List.all_nil, List.replicate, Nat.reduceAdd, Nat.reduceSub, Nat.reduceMul, Nat.reduceLT, Nat.reduceLeDiff, Nat.reduceEqDiff, Nat.zero_add, Nat.add_zero, Nat.zero_mul, Option.map_some, Option.map_none, Option.bind_some, Option.bind_eq_bind, Option.getD_some, Option.getD_none, Option.isSome_some, Option.isSome_none, Option.toList, if_true, if_false, and_self, and_true, true_and, and_false, false_and, Prod.mk.injEq, Bool.false_eq_true, Bool.true_eq_false, beq_self_eq_true, Bool.not_true, Bool.not_false, Bool.and_self, Bool.and_true, Bool.true_and, decide_true, decide_false, beq_true, beq_false, Bool.not_not, reduceCtorEq, Nat.le_refl, Int.reduceNeg, reduceIte, Nat.reduceBEq, Int.reduceBEq, Int.reduceLT, Int.reduceLE, Int.reduceToNat, decide_eq_true_eq, not_false_eq_true, not_true_eq_false, ne_eq, eRules_cells, ePorts_cells, eLinks_cells, eRules_one, ePorts_one, eLinks_one]; rw [amapup_pt (joinM (n.links.take j)) rfl]; simp only [aone, aoneT, gval, astep, aev, val, abin, abinI, abinS, aun, aeqn, aeqL, aeq1, put, upds, sset, sget, aload, astore, aobj, acut, cells_b, one_b, cells_i, one_i, cells_s, one_s, cells_nilp, one_nilp, cells_ref, one_ref, cells_ptr, one_ptr, cells_esl, one_esl, cells_sl, one_sl, cells_row, one_row, cells_fn, one_fn, cells_nilf, one_nilf, cells_nilm, one_nilm, cells_mp, one_mp, cells_mpr, one_mpr, cells_ag, anilck, afieldAddr, aindex, aindexAddr, alen, afill, afillR, aminmax, aminmax.aminmaxI, isNeq, sdl, kin, acall, ares, ares1, arows, aappend, aslice, asliceS, asliceR, aslice0, abnd, List.set_cons_succ, List.set_cons_zero, List.getD_cons_succ, List.getD_cons_zero, List.getElem?_cons_succ, List.getElem?_cons_zero, List.map_cons, List.map_nil, List.cons_append, List.nil_append, List.append_nil, List.length_cons, List.length_nil, List.take_succ_cons, List.take_zero, List.drop_succ_cons, List.drop_zero, List.all_cons, List.all_nil, List.replicate, Nat.reduceAdd, Nat.reduceSub, Nat.reduceMul, Nat.reduceLT, Nat.reduceLeDiff, Nat.reduceEqDiff, Nat.zero_add, Nat.add_zero, Nat.zero_mul, Option.map_some, Option.map_none, Option.bind_some, Option.bind_eq_bind, Option.getD_some, Option.getD_none, Option.isSome_some, Option.isSome_none, Option.toList, if_true, if_false, and_self, and_true, true_and, and_false, false_and, Prod.mk.injEq, Bool.false_eq_true, Bool.true_eq_false, beq_self_eq_true, Bool.not_true, Bool.not_false, Bool.and_self, Bool.and_true, Bool.true_and, decide_true, decide_false, beq_true, beq_false, Bool.not_not, reduceCtorEq, Nat.le_refl, Int.reduceNeg, reduceIte, Nat.reduceBEq, Int.reduceBEq, Int.reduceLT, Int.reduceLE, Int.reduceToNat, decide_eq_true_eq, not_false_eq_true, not_true_eq_false, ne_eq, eRules_cells, ePorts_cells, eLinks_cells, eRules_one, ePorts_one, eLinks_one] <;> rfl))))
    | ((apply adr_one 0; (· (simp only [aone, aoneT, gval, astep, aev, val, abin, abinI, abinS, aun, aeqn, aeqL, aeq1, put, upds, sset, sget, aload, astore, aobj, acut, cells_b, one_b, cells_i, one_i, cells_s, one_s, cells_nilp, one_nilp, cells_ref, one_ref, cells_ptr, one_ptr, cells_esl, one_esl, cells_sl, one_sl, cells_row, one_row, cells_fn, one_fn, cells_nilf, one_nilf, cells_nilm, one_nilm, cells_mp, one_mp, cells_mpr, one_mpr, cells_ag, anilck, afieldAddr, aindex, aindexAddr, alen, afill, afillR, aminmax, aminmax.aminmaxI, isNeq, sdl, kin, acall, ares, ares1, arows, aappend, aslice, asliceS, asliceR, aslice0, abnd, List.set_cons_succ, List.set_cons_zero, List.getD_cons_succ, List.getD_cons_zero, List.getElem?_cons_succ, List.getElem?_cons_zero, List.map_cons, List.map_nil, List.cons_append, List.nil_append, List.append_nil, List.length_cons, List.length_nil, List.take_succ_cons, List.take_zero, List.drop_succ_cons, List.drop_zero, List.all_cons, List.all_nil, List.replicate, Nat.reduceAdd, Nat.reduceSub, Nat.reduceMul, Nat.reduceLT, Nat.reduceLeDiff, Nat.reduceEqDiff, Nat.zero_add, Nat.add_zero, Nat.zero_mul, Option.map_some, Option.map_none, Option.bind_some, Option.bind_eq_bind, Option.getD_some, Option.getD_none, Option.isSome_some, Option.isSome_none, Option.toList, if_true, if_false, and_self, and_true, true_and, and_false, false_and, Prod.mk.injEq, Bool.false_eq_true, Bool.true_eq_false, beq_self_eq_true, Bool.not_true, Bool.not_false, Bool.and_self, Bool.and_true, Bool.true_and, decide_true, decide_false, beq_true, beq_false, Bool.not_not, reduceCtorEq, Nat.le_refl, Int.reduceNeg, reduceIte, Nat.reduceBEq, Int.reduceBEq, Int.reduceLT, Int.reduceLE, Int.reduceToNat, decide_eq_true_eq, not_false_eq_true, not_true_eq_false, ne_eq, eRules_cells, ePorts_cells, eLinks_cells, eRules_one, ePorts_one, eLinks_one]; rw [amapup_pt (putM (n.links[j].d1, n.links[j].p1) (n.links[j].d2, n.links[j].p2) (joinM (n.links.take j))) rfl]; simp only [aone, aoneT, gval, astep, aev, val, abin, abinI, abinS, aun, aeqn, aeqL, aeq1, put, upds, sset, sget, aload, astore, aobj, acut, cells_b, one_b, cells_i, one_i, cells_s, one_s, cells_nilp, one_nilp, cells_ref, one_ref, cells_ptr, one_ptr, cells_esl, one_esl, cells_sl, one_sl, cells_row, one_row, cells_fn, one_fn, cells_nilf, one_nilf, cells_nilm, one_nilm, cells_mp, one_mp, cells_mpr, one_mpr, cells_ag, anilck, afieldAddr, aindex, aindexAddr, alen, afill, afillR, aminmax, aminmax.aminmaxI, isNeq, sdl, kin, acall, ares, ares1, arows, aappend, aslice, asliceS, asliceR, aslice0, abnd, List.set_cons_succ, List.set_cons_zero, List.getD_cons_succ, List.getD_cons_zero, List.getElem?_cons_succ, List.getElem?_cons_zero, List.map_cons, List.map_nil, List.cons_append, List.nil_append, List.append_nil, List.length_cons, List.length_nil, List.take_succ_cons, List.take_zero, List.drop_succ_cons, List.drop_zero, List.all_cons, List.all_nil, List.replicate, Nat.reduceAdd, Nat.reduceSub, Nat.reduceMul, Nat.reduceLT, Nat.reduceLeDiff, Nat.reduceEqDiff, Nat.zero_add, Nat.add_zero, Nat.zero_mul, Option.map_some, Option.map_none, Option.bind_some, Option.bind_eq_bind, Option.getD_some, Option.getD_none, Option.isSome_some, Option.isSome_none, Option.toList, if_true, if_false, and_self, and_true, true_and, and_false, false_and, Prod.mk.injEq, Bool.false_eq_true, Bool.true_eq_false, beq_self_eq_true, Bool.not_true, Bool.not_false, Bool.and_self, Bool.and_true, Bool.true_and, decide_true, decide_false, beq_true, beq_false, Bool.not_not, reduceCtorEq, Nat.le_refl, Int.reduceNeg, reduceIte, Nat.reduceBEq, Int.reduceBEq, Int.reduceLT, Int.reduceLE, Int.reduceToNat, decide_eq_true_eq, not_false_eq_true, not_true_eq_false, ne_eq, eRules_cells, ePorts_cells, eLinks_cells, eRules_one, ePorts_one, eLinks_one] <;> rfl))))
    | refine awp_block ?_
    | (apply awp_condt; (· exact nT25_3 hE))
    | (apply awp_condf; (· exact nT25_3 hE))
    | (apply awp_cond; (· exact nT25_3 hE); all_goals intro hc)
    | ((first | apply aops_gsplit | apply adr_gsplit); (· rfl); (· exact nT25_3 hE); all_goals (intro hg; rw [hg])))); all_goals clear hE
    all_goals
      refine ⟨j + 1, by omega, by omega, by repeat' (first | exact FrLe.nil | apply FrLe.cons | apply FrLe.bot), ?_⟩
      rw [hs]
      exact stle_cons rfl (StLe.nil _)
  · have hlt' : ¬ (j : Int) < (n.links.length : Int) := by omega
    have hj2 : n.links.take j = n.links := List.take_of_length_le (by omega)
    rw [hj2]
    (have hE := And.intro @hlt' noX; repeat' (first
    | refine awp_seq ?_
    | (refine awp_reg fun nv => ?_)
    | (refine awp_regd mix fun nv => ?_)
    | ((first | refine aops_nil ?_ | refine adr_nil (by rfl) ?_ | refine awp_skip ?_ | refine awp_exit ?_ | refine awp_ret ?_); try simp only [thenQ, blockQ, if_true, if_false, Nat.reduceEqDiff, eq_self, reduceCtorEq, reduceIte])
    | ((first | apply aops_one 0 | apply adr_one 0); (· exact nT25_1 hE))
    | refine awp_block ?_
    | (apply awp_condt; (· exact nT25_1 hE))
    | (apply awp_condf; (· exact nT25_1 hE))
    | (apply awp_cond; (· exact nT25_1 hE); all_goals intro hc)
    | ((first | apply aops_gsplit | apply adr_gsplit); (· rfl); (· exact nT25_1 hE); all_goals (intro hg; rw [hg])))); all_goals clear hE
    all_goals
      (apply awp_end [(0, 6)] (by first | exact .inl rfl | exact .inr rfl); (· exact nT25_1 (noX)))
      exact fz_map (List.mem_cons_self ..) rfl (ksM_pure _) (vsM_pure _)
def nextS (n : Net) (d p : Int) : Option Pt := lookM (d, p) (joinM n.links)
set_option maxHeartbeats 2000000 in
theorem p_NextT (n : Net) (hl : n.links.length < 1000000) (d p : Int) : APure Try.prog n_topo_Next [.ag [ePorts n.ports, eLinks n.links], .ag [.i .i64 d, .i .i64 p]] (.tu [ePt ((nextS n d p).getD (0, 0)), .b (nextS n d p).isSome]) := by
  have hj := p_joined n hl
  have hlk : ∀ σ, alookup σ (.agg [(0, 1), (1, 1)]) 5 (.ag [.i .i64 0, .i .i64 0]) true (eMap (joinM n.links)) (.ag [.i .i64 d, .i .i64 p]) = some (.tu [ePt ((nextS n d p).getD (0, 0)), .b (nextS n d p).isSome], []) := fun σ => alookup_pt _
  refine apure_of h_topo_Next ?_; simp only [c_topo_Next, List.length_cons, List.length_nil, List.cons_append, List.nil_append, Nat.reduceAdd, Nat.reduceSub, List.reduceReplicate]
  (have hE := And.intro @hlk noX; repeat' (first
    | refine awp_seq ?_
    | (refine awp_reg fun nv => ?_)
    | (refine awp_regd mix fun nv => ?_)
    | ((first | refine aops_nil ?_ | refine adr_nil (by rfl) ?_ | refine awp_skip ?_ | refine awp_exit ?_ | refine awp_ret ?_); try simp only [thenQ, blockQ, if_true, if_false, Nat.reduceEqDiff, eq_self, reduceCtorEq, reduceIte])
    | ((first | apply aops_one 0 | apply adr_one 0); (· exact nT25_2 hE))
    | ((first | apply aops_call (hlf := h_topo_joined) | apply adr_call (hlf := h_topo_joined)); (· rfl); (· exact nT25_2 hE); (· exact pT25_); (· exact hj); (· exact nput))
    | refine awp_block ?_
    | (apply awp_condt; (· exact nT25_2 hE))
    | (apply awp_condf; (· exact nT25_2 hE))
    | (apply awp_cond; (· exact nT25_2 hE); all_goals intro hc)
    | ((first | apply aops_gsplit | apply adr_gsplit); (· rfl); (· exact nT25_2 hE); all_goals (intro hg; rw [hg])))); all_goals clear hE
  all_goals
    (apply awp_end [] (by first | exact .inl rfl | exact .inr rfl); (· exact nT25_2 (noX)))
    exact fz_eq' rfl (.tu _ (by simp [pure_ag, pure_i, pure_b]))
end Go.Proofs.Ytibkakodokbobaa
