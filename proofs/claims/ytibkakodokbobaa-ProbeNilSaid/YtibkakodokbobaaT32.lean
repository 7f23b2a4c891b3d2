import Derived.Test.YtibkakodokbobaaT30
import Derived.Test.YtibkakodokbobaaT31
namespace Go.Proofs.Ytibkakodokbobaa
open Go.Am
set_option maxRecDepth 100000
set_option linter.unusedSimpArgs false
set_option linter.unusedVariables false
theorem nT32_0 {E A : Prop} (e : E) (h : E → A := by (intro hE; simp only [aone, aoneT, gval, astep, aev, val, abin, abinI, abinS, aun, aeqn, aeqL, aeq1, put, upds, sset, sget, aload, astore, aobj, acut, cells_b, one_b, cells_i, one_i, cells_s, one_s, cells_nilp, one_nilp, cells_ref, one_ref, cells_ptr, one_ptr, cells_esl, one_esl, cells_sl, one_sl, cells_row, one_row, cells_fn, one_fn, cells_nilf, one_nilf, cells_nilm, one_nilm, cells_mp, one_mp, cells_mpr, one_mpr, cells_ag, anilck, afieldAddr, aindex, aindexAddr, alen, afill, afillR, aminmax, aminmax.aminmaxI, isNeq, sdl, kin, acall, ares, ares1, arows, aappend, aslice, asliceS, asliceR, aslice0, abnd, List.set_cons_succ, List.set_cons_zero, List.getD_cons_succ, List.getD_cons_zero, List.getElem?_cons_succ, List.getElem?_cons_zero, List.map_cons, List.map_nil, List.cons_append, List.nil_append, List.append_nil, List.length_cons, List.length_nil, List.take_succ_cons, List.take_zero, List.drop_succ_cons, List.drop_zero, List.all_cons, List.all_nil, List.replicate, Nat.reduceAdd, Nat.reduceSub, Nat.reduceMul, Nat.reduceLT, Nat.reduceLeDiff, Nat.reduceEqDiff, Nat.zero_add, Nat.add_zero, Nat.zero_mul, Option.map_some, Option.map_none, Option.bind_some, Option.bind_eq_bind, Option.getD_some, Option.getD_none, Option.isSome_some, Option.isSome_none, Option.toList, if_true, if_false, and_self, and_true, true_and, and_false, false_and, Prod.mk.injEq, Bool.false_eq_true, Bool.true_eq_false, beq_self_eq_true, Bool.not_true, Bool.not_false, Bool.and_self, Bool.and_true, Bool.true_and, decide_true, decide_false, beq_true, beq_false, Bool.not_not, reduceCtorEq, Nat.le_refl, Int.reduceNeg, reduceIte, Nat.reduceBEq, Int.reduceBEq, Int.reduceLT, Int.reduceLE, Int.reduceToNat, decide_eq_true_eq, not_false_eq_true, not_true_eq_false, ne_eq, PS.cells, devV_cells, devV_one, eLinks_cells, eLinks_one, ePorts_cells, ePorts_cons, ePorts_one, eRanges_cells, eRanges_cons, eRanges_one, eRules_cells, eRules_one, nxV_cells, nxV_one, hE] <;> rfl)) : A := h e
theorem nT32_1 {E A : Prop} (e : E) (h : E → A := by (intro hE; simp only [aone, aoneT, gval, astep, aev, val, abin, abinI, abinS, aun, aeqn, aeqL, aeq1, put, upds, sset, sget, aload, astore, aobj, acut, cells_b, one_b, cells_i, one_i, cells_s, one_s, cells_nilp, one_nilp, cells_ref, one_ref, cells_ptr, one_ptr, cells_esl, one_esl, cells_sl, one_sl, cells_row, one_row, cells_fn, one_fn, cells_nilf, one_nilf, cells_nilm, one_nilm, cells_mp, one_mp, cells_mpr, one_mpr, cells_ag, anilck, afieldAddr, aindex, aindexAddr, alen, afill, afillR, aminmax, aminmax.aminmaxI, isNeq, sdl, kin, acall, ares, ares1, arows, aappend, aslice, asliceS, asliceR, aslice0, abnd, List.set_cons_succ, List.set_cons_zero, List.getD_cons_succ, List.getD_cons_zero, List.getElem?_cons_succ, List.getElem?_cons_zero, List.map_cons, List.map_nil, List.cons_append, List.nil_append, List.append_nil, List.length_cons, List.length_nil, List.take_succ_cons, List.take_zero, List.drop_succ_cons, List.drop_zero, List.all_cons, List.all_nil, List.replicate, Nat.reduceAdd, Nat.reduceSub, Nat.reduceMul, Nat.reduceLT, Nat.reduceLeDiff, Nat.reduceEqDiff, Nat.zero_add, Nat.add_zero, Nat.zero_mul, Option.map_some, Option.map_none, Option.bind_some, Option.bind_eq_bind, Option.getD_some, Option.getD_none, Option.isSome_some, Option.isSome_none, Option.toList, if_true, if_false, and_self, and_true, true_and, and_false, false_and, Prod.mk.injEq, Bool.false_eq_true, Bool.true_eq_false, beq_self_eq_true, Bool.not_true, Bool.not_false, Bool.and_self, Bool.and_true, Bool.true_and, decide_true, decide_false, beq_true, beq_false, Bool.not_not, reduceCtorEq, Nat.le_refl, Int.reduceNeg, reduceIte, Nat.reduceBEq, Int.reduceBEq, Int.reduceLT, Int.reduceLE, Int.reduceToNat, decide_eq_true_eq, not_false_eq_true, not_true_eq_false, ne_eq, devV_cells, devV_one, eLinks_cells, eLinks_one, ePorts_cells, ePorts_one, eRanges_cells, eRanges_one, eRules_cells, eRules_one, nxV_cells, nxV_one, hE] <;> rfl)) : A := h e
theorem nT32_2 {E A : Prop} (e : E) (h : E → A := by (intro hE; simp only [aone, aoneT, gval, astep, aev, val, abin, abinI, abinS, aun, aeqn, aeqL, aeq1, put, upds, sset, sget, aload, astore, aobj, acut, cells_b, one_b, cells_i, one_i, cells_s, one_s, cells_nilp, one_nilp, cells_ref, one_ref, cells_ptr, one_ptr, cells_esl, one_esl, cells_sl, one_sl, cells_row, one_row, cells_fn, one_fn, cells_nilf, one_nilf, cells_nilm, one_nilm, cells_mp, one_mp, cells_mpr, one_mpr, cells_ag, anilck, afieldAddr, aindex, aindexAddr, alen, afill, afillR, aminmax, aminmax.aminmaxI, isNeq, sdl, kin, acall, ares, ares1, arows, aappend, aslice, asliceS, asliceR, aslice0, abnd, List.set_cons_succ, List.set_cons_zero, List.getD_cons_succ, List.getD_cons_zero, List.getElem?_cons_succ, List.getElem?_cons_zero, List.map_cons, List.map_nil, List.cons_append, List.nil_append, List.append_nil, List.length_cons, List.length_nil, List.take_succ_cons, List.take_zero, List.drop_succ_cons, List.drop_zero, List.all_cons, List.all_nil, List.replicate, Nat.reduceAdd, Nat.reduceSub, Nat.reduceMul, Nat.reduceLT, Nat.reduceLeDiff, Nat.reduceEqDiff, Nat.zero_add, Nat.add_zero, Nat.zero_mul, Option.map_some, Option.map_none, Option.bind_some, Option.bind_eq_bind, Option.getD_some, Option.getD_none, Option.isSome_some, Option.isSome_none, Option.toList, if_true, if_false, and_self, and_true, true_and, and_false, false_and, Prod.mk.injEq, Bool.false_eq_true, Bool.true_eq_false, beq_self_eq_true, Bool.not_true, Bool.not_false, Bool.and_self, Bool.and_true, Bool.true_and, decide_true, decide_false, beq_true, beq_false, Bool.not_not, reduceCtorEq, Nat.le_refl, Int.reduceNeg, reduceIte, Nat.reduceBEq, Int.reduceBEq, Int.reduceLT, Int.reduceLE, Int.reduceToNat, decide_eq_true_eq, not_false_eq_true, not_true_eq_false, ne_eq, List.take_length, PS.cells, devV_cells, devV_one, eLinks_cells, eLinks_one, ePorts_cells, ePorts_cons, ePorts_one, eRanges_cells, eRanges_cons, eRanges_one, eRules_cells, eRules_one, nxV_cells, nxV_one, one_le_len, hE] <;> rfl)) : A := h e
theorem nT32_3 {E A : Prop} (e : E) (h : E → A := by (intro hE; simp only [aone, aoneT, gval, astep, aev, val, abin, abinI, abinS, aun, aeqn, aeqL, aeq1, put, upds, sset, sget, aload, astore, aobj, acut, cells_b, one_b, cells_i, one_i, cells_s, one_s, cells_nilp, one_nilp, cells_ref, one_ref, cells_ptr, one_ptr, cells_esl, one_esl, cells_sl, one_sl, cells_row, one_row, cells_fn, one_fn, cells_nilf, one_nilf, cells_nilm, one_nilm, cells_mp, one_mp, cells_mpr, one_mpr, cells_ag, anilck, afieldAddr, aindex, aindexAddr, alen, afill, afillR, aminmax, aminmax.aminmaxI, isNeq, sdl, kin, acall, ares, ares1, arows, aappend, aslice, asliceS, asliceR, aslice0, abnd, List.set_cons_succ, List.set_cons_zero, List.getD_cons_succ, List.getD_cons_zero, List.getElem?_cons_succ, List.getElem?_cons_zero, List.map_cons, List.map_nil, List.cons_append, List.nil_append, List.append_nil, List.length_cons, List.length_nil, List.take_succ_cons, List.take_zero, List.drop_succ_cons, List.drop_zero, List.all_cons, List.all_nil, List.replicate, Nat.reduceAdd, Nat.reduceSub, Nat.reduceMul, Nat.reduceLT, Nat.reduceLeDiff, Nat.reduceEqDiff, Nat.zero_add, Nat.add_zero, Nat.zero_mul, Option.map_some, Option.map_none, Option.bind_some, Option.bind_eq_bind, Option.getD_some, Option.getD_none, Option.isSome_some, Option.isSome_none, Option.toList, if_true, if_false, and_self, and_true, true_and, and_false, false_and, Prod.mk.injEq, Bool.false_eq_true, Bool.true_eq_false, beq_self_eq_true, Bool.not_true, Bool.not_false, Bool.and_self, Bool.and_true, Bool.true_and, decide_true, decide_false, beq_true, beq_false, Bool.not_not, reduceCtorEq, Nat.le_refl, Int.reduceNeg, reduceIte, Nat.reduceBEq, Int.reduceBEq, Int.reduceLT, Int.reduceLE, Int.reduceToNat, decide_eq_true_eq, not_false_eq_true, not_true_eq_false, ne_eq, PS.cells, devV_cells, devV_one, eLinks_cells, eLinks_one, ePorts_cells, ePorts_one, eRanges_cells, eRanges_one, eRules_cells, eRules_one, nxV_cells, nxV_one, hE] <;> rfl)) : A := h e
theorem pT32_ {A : Prop} (h : A := by (simp only [List.forall_mem_cons, List.forall_mem_nil, List.not_mem_nil, false_imp_iff, implies_true, List.forall_mem_map, pure_b, pure_i, pure_s, pure_nilp, pure_nilf, pure_esl, pure_ref, pure_sl, pure_ag, pure_tu, pure_fn, and_self, and_true, true_and, eRules_pure, ePorts_pure, eLinks_pure, eRanges_pure]; done)) : A := h
/-! ### probe.ended -/
def PS.st (s : PS) (vp vt vu : Nat) : Store := ((9, 25), ⟨vp, .rows 34 [s.cells vp vt vu vt]⟩) :: (devS (7, 31) vt s.t.devs ++ devS (8, 31) vu s.u.devs)
/-- What goes on behind a part. -/
def onS (s : PS) : PS := if s.parts.tail = [] then { s with parts := s.all, sources := s.sources.tail } else { s with parts := s.parts.tail }
def endedS (s : PS) : PS :=
  if breaksS s.q s.t s.u = true then { s with done := true, holds := false, vfrom := s.sources.headD 0, vaddr := (s.parts.headD (0, 0)).1, vt := s.t }
  else if (onS s).sources = [] then { onS s with done := true, holds := true, vfrom := 0, vaddr := 0, vt := tr0 } else beginS (onS s)
structure Good (s : PS) : Prop where
  n : s.n.small
  o : s.o.small
  k : 0 ≤ s.q.kind ∧ s.q.kind ≤ 5
  t : s.t.devs.length < 1000000
  u : s.u.devs.length < 1000000
  src : s.sources ≠ []
  parts : s.parts ≠ []
  vt : s.vt = tr0
  done : s.done = false
theorem st_get7 (o : AO) (vt vu : Nat) (td ud : List Int) (h : td ≠ []) : sget (((9, 25), o) :: (devS (7, 31) vt td ++ devS (8, 31) vu ud)) (7, 31) = some ⟨vt, .rows 1 (td.map eI)⟩ := by
  cases td with
  | nil => exact absurd rfl h
  | cons a b => rfl
theorem st_get8 (o : AO) (vt vu : Nat) (td ud : List Int) (h : ud ≠ []) : sget (((9, 25), o) :: (devS (7, 31) vt td ++ devS (8, 31) vu ud)) (8, 31) = some ⟨vu, .rows 1 (ud.map eI)⟩ := by
  cases ud with
  | nil => exact absurd rfl h
  | cons a b => cases td <;> rfl
theorem eRanges_cons (x : Int × Int) (xs : List (Int × Int)) : eRanges (x :: xs) = .sl ([.i .u32 x.1, .i .u32 x.2] :: xs.map eRange) := rfl
theorem ePorts_cons (y : Int) (ys : List Int) : ePorts (y :: ys) = .sl ([.i .i64 y] :: ys.map eI) := rfl
theorem all2 (xs : List (Int × Int)) : ((xs.map eRange).all fun cs => cs.length == 2) = true := by simp [eRange]
theorem all1 (ys : List Int) : ((ys.map eI).all fun cs => cs.length == 1) = true := by simp [eI]
theorem one_le_len {α : Type} (l : List α) : 1 ≤ l.length + 1 := by omega
theorem stle_head {k : Key} {o : AO} {σ : Store} : StLe ((k, o) :: σ) [(k, o)] := stle_cons (by simp [sget]) (StLe.nil _)
set_option maxHeartbeats 8000000 in
theorem c_ended' (s : PS) (hg : Good s) (vp vt vu vv : Nat) :
    ACall Try.prog n_probe_Probe_ended [.ptr (9, 25) vp 0 0] (((9, 25), ⟨vp, .rows 34 [s.cells vp vt vu vv]⟩) :: (devS (7, 31) vt s.t.devs ++ devS (8, 31) vu s.u.devs))
      fun r τ => ∃ w : Nat × Nat, r = .tu [] ∧ StLe τ ((endedS s).st vp w.1 w.2) := by
  obtain ⟨h1, h2, h3, h4, h5, h6, h7, h8, h9⟩ := hg
  obtain ⟨n, o, q, sources, all, parts, at_, ⟨td, tf, tout⟩, ⟨ud, uf, uout⟩, next, done, holds, vf, va, vtr⟩ := s
  simp only at h1 h2 h3 h4 h5 h6 h7 h8 h9
  subst h8; subst h9
  obtain ⟨y, ys, rfl⟩ : ∃ y ys, sources = y :: ys := by cases sources with | nil => exact absurd rfl h6 | cons a b => exact ⟨a, b, rfl⟩
  obtain ⟨x, xs, rfl⟩ : ∃ x xs, parts = x :: xs := by cases parts with | nil => exact absurd rfl h7 | cons a b => exact ⟨a, b, rfl⟩
  have hb := p_Breaks n o q ⟨td, tf, tout⟩ ⟨ud, uf, uout⟩ h4 h5 h3
  have hz : ∀ {σ : Store}, (td ≠ [] → sget σ (7, 31) = some ⟨vt, .rows 1 (td.map eI)⟩) → (ud ≠ [] → sget σ (8, 31) = some ⟨vu, .rows 1 (ud.map eI)⟩) →
      FzL σ [(7, 31), (8, 31)] [.ag [ePorts n.ports, eLinks n.links, eRules n.rules], .ag [ePorts o.ports, eLinks o.links, eRules o.rules], .ag q.row, .ag [devV (7, 31) vt td, .i .i64 tf, .i .i64 tout.1, .i .i64 tout.2], .ag [devV (8, 31) vu ud, .i .i64 uf, .i .i64 uout.1, .i .i64 uout.2]]
        [.ag [ePorts n.ports, eLinks n.links, eRules n.rules], .ag [ePorts o.ports, eLinks o.links, eRules o.rules], .ag q.row, .ag (Tr.row ⟨td, tf, tout⟩), .ag (Tr.row ⟨ud, uf, uout⟩)] := fun a b =>
    fzl_cons (fz_eq' rfl (netPure n)) (fzl_cons (fz_eq' rfl (netPure o)) (fzl_cons (fz_eq' rfl (qPure q)) (fzl_cons (fz_ag (fzl_cons (devV_fz (by simp) a) (fzl_cons (fz_eq' rfl (.i _ _)) (fzl_cons (fz_eq' rfl (.i _ _)) (fzl_cons (fz_eq' rfl (.i _ _)) fzl_nil))))) (fzl_cons (fz_ag (fzl_cons (devV_fz (by simp) b) (fzl_cons (fz_eq' rfl (.i _ _)) (fzl_cons (fz_eq' rfl (.i _ _)) (fzl_cons (fz_eq' rfl (.i _ _)) fzl_nil))))) fzl_nil))))
  refine acall_of h_probe_Probe_ended ?_; simp only [c_probe_Probe_ended, List.length_cons, List.length_nil, List.cons_append, List.nil_append, Nat.reduceAdd, Nat.reduceSub, List.reduceReplicate]
  cases hB : breaksS q ⟨td, tf, tout⟩ ⟨ud, uf, uout⟩ with
  | true =>
    rw [hB] at hb
    have he : endedS ⟨n, o, q, y :: ys, all, x :: xs, at_, ⟨td, tf, tout⟩, ⟨ud, uf, uout⟩, next, false, holds, vf, va, tr0⟩ = ⟨n, o, q, y :: ys, all, x :: xs, at_, ⟨td, tf, tout⟩, ⟨ud, uf, uout⟩, next, true, false, y, x.1, ⟨td, tf, tout⟩⟩ := by unfold endedS; simp only; rw [if_pos hB]; rfl
    rw [he]
    (have hE := noX; repeat' (first
    | refine awp_seq ?_
    | (refine awp_reg fun nv => ?_)
    | (refine awp_regd mix fun nv => ?_)
    | ((first | refine aops_nil ?_ | refine adr_nil (by rfl) ?_ | refine awp_skip ?_ | refine awp_exit ?_ | refine awp_ret ?_); try simp only [thenQ, blockQ, if_true, if_false, Nat.reduceEqDiff, eq_self, reduceCtorEq, reduceIte])
    | ((first | apply aops_one 0 | apply adr_one 0); (· exact nT32_0 hE))
    | ((first | apply aops_callf [(7, 31), (8, 31)] (hlf := h_query_Breaks) | apply adr_callf [(7, 31), (8, 31)] (hlf := h_query_Breaks)); (· rfl); (· exact nT32_0 hE); (· exact (hz (st_get7 _ _ _ _ _) (st_get8 _ _ _ _ _))); (· exact hb); (· exact (.b _)); (· exact nput))
    | refine awp_block ?_
    | (apply awp_condt; (· exact nT32_0 hE))
    | (apply awp_condf; (· exact nT32_0 hE))
    | (apply awp_cond; (· exact nT32_0 hE); all_goals intro hc)
    | ((first | apply aops_gsplit | apply adr_gsplit); (· rfl); (· exact nT32_0 hE); all_goals (intro hg; rw [hg])))); all_goals clear hE
    all_goals
      (apply acall_end (by first | exact .inl rfl | exact .inr rfl); (· exact nT32_1 (noX)))
      exact ⟨(vt, vu), rfl, StLe.refl _⟩
  | false =>
    rw [hB] at hb
    cases xs with
    | cons x2 xs =>
      have he : endedS ⟨n, o, q, y :: ys, all, x :: x2 :: xs, at_, ⟨td, tf, tout⟩, ⟨ud, uf, uout⟩, next, false, holds, vf, va, tr0⟩ = beginS ⟨n, o, q, y :: ys, all, x2 :: xs, at_, ⟨td, tf, tout⟩, ⟨ud, uf, uout⟩, next, false, holds, vf, va, tr0⟩ := by
        unfold endedS; simp only; rw [if_neg (by simp [hB])]
        have : onS ⟨n, o, q, y :: ys, all, x :: x2 :: xs, at_, ⟨td, tf, tout⟩, ⟨ud, uf, uout⟩, next, false, holds, vf, va, tr0⟩ = ⟨n, o, q, y :: ys, all, x2 :: xs, at_, ⟨td, tf, tout⟩, ⟨ud, uf, uout⟩, next, false, holds, vf, va, tr0⟩ := by unfold onS; simp
        rw [this, if_neg (by simp)]
      have hbg := c_begin ⟨n, o, q, y :: ys, all, x2 :: xs, at_, ⟨td, tf, tout⟩, ⟨ud, uf, uout⟩, next, false, holds, vf, va, tr0⟩ vp vt vu vv y ys rfl
      have hl2 : ((((x2 :: xs).map eRange).length : Int) == 0) = false := by simp; omega
      have hl1 : ((((ys.map eI).length + 1 : Nat) : Int) == 0) = false := by simp; omega
      have hm2 : (x2 :: xs).map eRange = [.i .u32 x2.1, .i .u32 x2.2] :: xs.map eRange := rfl
      rw [he]
      generalize hX : (x2 :: xs).map eRange = X at *
      have ha2 : (X.all fun cs => cs.length == 2) = true := hX ▸ all2 _
      (have hE := And.intro @hX (And.intro @hl2 (And.intro @hl1 (And.intro @ha2 noX))); repeat' (first
    | refine awp_seq ?_
    | (refine awp_reg fun nv => ?_)
    | (refine awp_regd mix fun nv => ?_)
    | ((first | refine aops_nil ?_ | refine adr_nil (by rfl) ?_ | refine awp_skip ?_ | refine awp_exit ?_ | refine awp_ret ?_); try simp only [thenQ, blockQ, if_true, if_false, Nat.reduceEqDiff, eq_self, reduceCtorEq, reduceIte])
    | ((first | apply aops_one 0 | apply adr_one 0); (· exact nT32_2 hE))
    | ((first | apply aops_callf [(7, 31), (8, 31)] (hlf := h_query_Breaks) | apply adr_callf [(7, 31), (8, 31)] (hlf := h_query_Breaks)); (· rfl); (· exact nT32_2 hE); (· exact (hz (st_get7 _ _ _ _ _) (st_get8 _ _ _ _ _))); (· exact hb); (· exact (.b _)); (· exact nput))
    | refine awp_block ?_
    | (apply awp_condt; (· exact nT32_2 hE))
    | (apply awp_condf; (· exact nT32_2 hE))
    | (apply awp_cond; (· exact nT32_2 hE); all_goals intro hc)
    | ((first | apply aops_gsplit | apply adr_gsplit); (· rfl); (· exact nT32_2 hE); all_goals (intro hg; rw [hg])))); all_goals clear hE
      rw [hm2]
      (have hE := noX; repeat' (first
    | refine awp_seq ?_
    | (refine awp_reg fun nv => ?_)
    | (refine awp_regd mix fun nv => ?_)
    | ((first | refine aops_nil ?_ | refine adr_nil (by rfl) ?_ | refine awp_skip ?_ | refine awp_exit ?_ | refine awp_ret ?_); try simp only [thenQ, blockQ, if_true, if_false, Nat.reduceEqDiff, eq_self, reduceCtorEq, reduceIte])
    | ((first | apply aops_one 0 | apply adr_one 0); (· exact nT32_3 hE))
    | (apply aops_callw (hlf := h_probe_Probe_begin); (· rfl); (· exact nT32_3 hE); (· exact hbg); (· (repeat' (first | exact StLe.refl _ | exact StLe.nil _ | (refine stle_cons (by first | rfl | exact nT32_3 hE) ?_)))); (· (intro _; exact nT32_3 hE)); (intro _; simp only [put, List.set_cons_succ, List.set_cons_zero]))
    | refine awp_block ?_
    | (apply awp_condt; (· exact nT32_3 hE))
    | (apply awp_condf; (· exact nT32_3 hE))
    | (apply awp_cond; (· exact nT32_3 hE); all_goals intro hc)
    | ((first | apply aops_gsplit | apply adr_gsplit); (· rfl); (· exact nT32_3 hE); all_goals (intro hg; rw [hg])))); all_goals clear hE
      all_goals
        (apply acall_end (by first | exact .inl rfl | exact .inr rfl); (· exact nT32_1 (noX)))
        exact ⟨(vt, vu), rfl, stle_head⟩
    | nil =>
      have hm2 : ([] : List (Int × Int)).map eRange = [] := rfl
      cases ys with
      | nil =>
        have hm1 : ([] : List Int).map eI = [] := rfl
        have he : endedS ⟨n, o, q, [y], all, [x], at_, ⟨td, tf, tout⟩, ⟨ud, uf, uout⟩, next, false, holds, vf, va, tr0⟩ = ⟨n, o, q, [], all, all, at_, ⟨td, tf, tout⟩, ⟨ud, uf, uout⟩, next, true, true, 0, 0, tr0⟩ := by
          unfold endedS; simp only; rw [if_neg (by simp [hB])]
          have : onS ⟨n, o, q, [y], all, [x], at_, ⟨td, tf, tout⟩, ⟨ud, uf, uout⟩, next, false, holds, vf, va, tr0⟩ = ⟨n, o, q, [], all, all, at_, ⟨td, tf, tout⟩, ⟨ud, uf, uout⟩, next, false, holds, vf, va, tr0⟩ := by unfold onS; simp
          rw [this, if_pos rfl]
        rw [he]
        (have hE := And.intro @hm2 (And.intro @hm1 noX); repeat' (first
    | refine awp_seq ?_
    | (refine awp_reg fun nv => ?_)
    | (refine awp_regd mix fun nv => ?_)
    | ((first | refine aops_nil ?_ | refine adr_nil (by rfl) ?_ | refine awp_skip ?_ | refine awp_exit ?_ | refine awp_ret ?_); try simp only [thenQ, blockQ, if_true, if_false, Nat.reduceEqDiff, eq_self, reduceCtorEq, reduceIte])
    | ((first | apply aops_one 0 | apply adr_one 0); (· exact nT32_2 hE))
    | ((first | apply aops_callf [(7, 31), (8, 31)] (hlf := h_query_Breaks) | apply adr_callf [(7, 31), (8, 31)] (hlf := h_query_Breaks)); (· rfl); (· exact nT32_2 hE); (· exact (hz (st_get7 _ _ _ _ _) (st_get8 _ _ _ _ _))); (· exact hb); (· exact (.b _)); (· exact nput))
    | refine awp_block ?_
    | (apply awp_condt; (· exact nT32_2 hE))
    | (apply awp_condf; (· exact nT32_2 hE))
    | (apply awp_cond; (· exact nT32_2 hE); all_goals intro hc)
    | ((first | apply aops_gsplit | apply adr_gsplit); (· rfl); (· exact nT32_2 hE); all_goals (intro hg; rw [hg])))); all_goals clear hE
        all_goals
          (apply acall_end (by first | exact .inl rfl | exact .inr rfl); (· exact nT32_1 (noX)))
          exact ⟨(vt, vu), rfl, StLe.refl _⟩
      | cons y2 ys =>
        have he : endedS ⟨n, o, q, y :: y2 :: ys, all, [x], at_, ⟨td, tf, tout⟩, ⟨ud, uf, uout⟩, next, false, holds, vf, va, tr0⟩ = beginS ⟨n, o, q, y2 :: ys, all, all, at_, ⟨td, tf, tout⟩, ⟨ud, uf, uout⟩, next, false, holds, vf, va, tr0⟩ := by
          unfold endedS; simp only; rw [if_neg (by simp [hB])]
          have : onS ⟨n, o, q, y :: y2 :: ys, all, [x], at_, ⟨td, tf, tout⟩, ⟨ud, uf, uout⟩, next, false, holds, vf, va, tr0⟩ = ⟨n, o, q, y2 :: ys, all, all, at_, ⟨td, tf, tout⟩, ⟨ud, uf, uout⟩, next, false, holds, vf, va, tr0⟩ := by unfold onS; simp
          rw [this, if_neg (by simp)]
        have hbg := c_begin ⟨n, o, q, y2 :: ys, all, all, at_, ⟨td, tf, tout⟩, ⟨ud, uf, uout⟩, next, false, holds, vf, va, tr0⟩ vp vt vu vv y2 ys rfl
        have hl1 : ((((y2 :: ys).map eI).length : Int) == 0) = false := by simp; omega
        rw [he]
        have hm1 : (y2 :: ys).map eI = [.i .i64 y2] :: ys.map eI := rfl
        generalize hX : (y2 :: ys).map eI = X at *
        have ha1 : (X.all fun cs => cs.length == 1) = true := hX ▸ all1 _
        (have hE := And.intro @hm2 (And.intro @hX (And.intro @hl1 (And.intro @ha1 noX))); repeat' (first
    | refine awp_seq ?_
    | (refine awp_reg fun nv => ?_)
    | (refine awp_regd mix fun nv => ?_)
    | ((first | refine aops_nil ?_ | refine adr_nil (by rfl) ?_ | refine awp_skip ?_ | refine awp_exit ?_ | refine awp_ret ?_); try simp only [thenQ, blockQ, if_true, if_false, Nat.reduceEqDiff, eq_self, reduceCtorEq, reduceIte])
    | ((first | apply aops_one 0 | apply adr_one 0); (· exact nT32_2 hE))
    | ((first | apply aops_callf [(7, 31), (8, 31)] (hlf := h_query_Breaks) | apply adr_callf [(7, 31), (8, 31)] (hlf := h_query_Breaks)); (· rfl); (· exact nT32_2 hE); (· exact (hz (st_get7 _ _ _ _ _) (st_get8 _ _ _ _ _))); (· exact hb); (· exact (.b _)); (· exact nput))
    | refine awp_block ?_
    | (apply awp_condt; (· exact nT32_2 hE))
    | (apply awp_condf; (· exact nT32_2 hE))
    | (apply awp_cond; (· exact nT32_2 hE); all_goals intro hc)
    | ((first | apply aops_gsplit | apply adr_gsplit); (· rfl); (· exact nT32_2 hE); all_goals (intro hg; rw [hg])))); all_goals clear hE
        rw [hm1]
        (have hE := noX; repeat' (first
    | refine awp_seq ?_
    | (refine awp_reg fun nv => ?_)
    | (refine awp_regd mix fun nv => ?_)
    | ((first | refine aops_nil ?_ | refine adr_nil (by rfl) ?_ | refine awp_skip ?_ | refine awp_exit ?_ | refine awp_ret ?_); try simp only [thenQ, blockQ, if_true, if_false, Nat.reduceEqDiff, eq_self, reduceCtorEq, reduceIte])
    | ((first | apply aops_one 0 | apply adr_one 0); (· exact nT32_3 hE))
    | (apply aops_callw (hlf := h_probe_Probe_begin); (· rfl); (· exact nT32_3 hE); (· exact hbg); (· (repeat' (first | exact StLe.refl _ | exact StLe.nil _ | (refine stle_cons (by first | rfl | exact nT32_3 hE) ?_)))); (· (intro _; exact nT32_3 hE)); (intro _; simp only [put, List.set_cons_succ, List.set_cons_zero]))
    | refine awp_block ?_
    | (apply awp_condt; (· exact nT32_3 hE))
    | (apply awp_condf; (· exact nT32_3 hE))
    | (apply awp_cond; (· exact nT32_3 hE); all_goals intro hc)
    | ((first | apply aops_gsplit | apply adr_gsplit); (· rfl); (· exact nT32_3 hE); all_goals (intro hg; rw [hg])))); all_goals clear hE
        all_goals
          (apply acall_end (by first | exact .inl rfl | exact .inr rfl); (· exact nT32_1 (noX)))
          exact ⟨(vt, vu), rfl, stle_head⟩
end Go.Proofs.Ytibkakodokbobaa
