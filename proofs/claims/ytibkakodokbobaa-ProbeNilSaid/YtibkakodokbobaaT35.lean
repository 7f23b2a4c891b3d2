import Derived.Test.YtibkakodokbobaaT34
import Derived.Test.YtibkakodokbobaaT19
namespace Go.Proofs.Ytibkakodokbobaa
open Go.Am
set_option maxRecDepth 100000
set_option linter.unusedSimpArgs false
set_option linter.unusedVariables false
theorem nT35_0 {E A : Prop} (e : E) (h : E → A := by (intro hE; simp only [aone, aoneT, gval, astep, aev, val, abin, abinI, abinS, aun, aeqn, aeqL, aeq1, put, upds, sset, sget, aload, astore, aobj, acut, cells_b, one_b, cells_i, one_i, cells_s, one_s, cells_nilp, one_nilp, cells_ref, one_ref, cells_ptr, one_ptr, cells_esl, one_esl, cells_sl, one_sl, cells_row, one_row, cells_fn, one_fn, cells_nilf, one_nilf, cells_nilm, one_nilm, cells_mp, one_mp, cells_mpr, one_mpr, cells_ag, anilck, afieldAddr, aindex, aindexAddr, alen, afill, afillR, aminmax, aminmax.aminmaxI, isNeq, sdl, kin, acall, ares, ares1, arows, aappend, aslice, asliceS, asliceR, aslice0, abnd, List.set_cons_succ, List.set_cons_zero, List.getD_cons_succ, List.getD_cons_zero, List.getElem?_cons_succ, List.getElem?_cons_zero, List.map_cons, List.map_nil, List.cons_append, List.nil_append, List.append_nil, List.length_cons, List.length_nil, List.take_succ_cons, List.take_zero, List.drop_succ_cons, List.drop_zero, List.all_cons, List.all_nil, List.replicate, Nat.reduceAdd, Nat.reduceSub, Nat.reduceMul, Nat.reduceLT, Nat.reduceLeDiff, Nat.reduceEqDiff, Nat.zero_add, Nat.add_zero, Nat.zero_mul, Option.map_some, Option.map_none, Option.bind_some, Option.bind_eq_bind, Option.getD_some, Option.getD_none, Option.isSome_some, Option.isSome_none, Option.toList, if_true, if_false, and_self, and_true, true_and, and_false, false_and, Prod.mk.injEq, Bool.false_eq_true, Bool.true_eq_false, beq_self_eq_true, Bool.not_true, Bool.not_false, Bool.and_self, Bool.and_true, Bool.true_and, decide_true, decide_false, beq_true, beq_false, Bool.not_not, reduceCtorEq, Nat.le_refl, Int.reduceNeg, reduceIte, Nat.reduceBEq, Int.reduceBEq, Int.reduceLT, Int.reduceLE, Int.reduceToNat, decide_eq_true_eq, not_false_eq_true, not_true_eq_false, ne_eq, Query.row, devV_cells, devV_one, eLinks_cells, eLinks_one, ePorts_cells, ePorts_one, eRanges_cells, eRanges_one, eRules_cells, eRules_one, nxV_cells, nxV_one, hE] <;> rfl)) : A := h e
theorem nT35_1 {E A : Prop} (e : E) (h : E → A := by (intro hE; simp only [aone, aoneT, gval, astep, aev, val, abin, abinI, abinS, aun, aeqn, aeqL, aeq1, put, upds, sset, sget, aload, astore, aobj, acut, cells_b, one_b, cells_i, one_i, cells_s, one_s, cells_nilp, one_nilp, cells_ref, one_ref, cells_ptr, one_ptr, cells_esl, one_esl, cells_sl, one_sl, cells_row, one_row, cells_fn, one_fn, cells_nilf, one_nilf, cells_nilm, one_nilm, cells_mp, one_mp, cells_mpr, one_mpr, cells_ag, anilck, afieldAddr, aindex, aindexAddr, alen, afill, afillR, aminmax, aminmax.aminmaxI, isNeq, sdl, kin, acall, ares, ares1, arows, aappend, aslice, asliceS, asliceR, aslice0, abnd, List.set_cons_succ, List.set_cons_zero, List.getD_cons_succ, List.getD_cons_zero, List.getElem?_cons_succ, List.getElem?_cons_zero, List.map_cons, List.map_nil, List.cons_append, List.nil_append, List.append_nil, List.length_cons, List.length_nil, List.take_succ_cons, List.take_zero, List.drop_succ_cons, List.drop_zero, List.all_cons, List.all_nil, List.replicate, Nat.reduceAdd, Nat.reduceSub, Nat.reduceMul, Nat.reduceLT, Nat.reduceLeDiff, Nat.reduceEqDiff, Nat.zero_add, Nat.add_zero, Nat.zero_mul, Option.map_some, Option.map_none, Option.bind_some, Option.bind_eq_bind, Option.getD_some, Option.getD_none, Option.isSome_some, Option.isSome_none, Option.toList, if_true, if_false, and_self, and_true, true_and, and_false, false_and, Prod.mk.injEq, Bool.false_eq_true, Bool.true_eq_false, beq_self_eq_true, Bool.not_true, Bool.not_false, Bool.and_self, Bool.and_true, Bool.true_and, decide_true, decide_false, beq_true, beq_false, Bool.not_not, reduceCtorEq, Nat.le_refl, Int.reduceNeg, reduceIte, Nat.reduceBEq, Int.reduceBEq, Int.reduceLT, Int.reduceLE, Int.reduceToNat, decide_eq_true_eq, not_false_eq_true, not_true_eq_false, ne_eq, devV_cells, devV_one, eLinks_cells, eLinks_one, ePorts_cells, ePorts_one, eRanges_cells, eRanges_one, eRules_cells, eRules_one, nxV_cells, nxV_one, hE] <;> rfl)) : A := h e
theorem nT35_2 {E A : Prop} (e : E) (h : E → A := by (intro hE; simp only [aone, aoneT, gval, astep, aev, val, abin, abinI, abinS, aun, aeqn, aeqL, aeq1, put, upds, sset, sget, aload, astore, aobj, acut, cells_b, one_b, cells_i, one_i, cells_s, one_s, cells_nilp, one_nilp, cells_ref, one_ref, cells_ptr, one_ptr, cells_esl, one_esl, cells_sl, one_sl, cells_row, one_row, cells_fn, one_fn, cells_nilf, one_nilf, cells_nilm, one_nilm, cells_mp, one_mp, cells_mpr, one_mpr, cells_ag, anilck, afieldAddr, aindex, aindexAddr, alen, afill, afillR, aminmax, aminmax.aminmaxI, isNeq, sdl, kin, acall, ares, ares1, arows, aappend, aslice, asliceS, asliceR, aslice0, abnd, List.set_cons_succ, List.set_cons_zero, List.getD_cons_succ, List.getD_cons_zero, List.getElem?_cons_succ, List.getElem?_cons_zero, List.map_cons, List.map_nil, List.cons_append, List.nil_append, List.append_nil, List.length_cons, List.length_nil, List.take_succ_cons, List.take_zero, List.drop_succ_cons, List.drop_zero, List.all_cons, List.all_nil, List.replicate, Nat.reduceAdd, Nat.reduceSub, Nat.reduceMul, Nat.reduceLT, Nat.reduceLeDiff, Nat.reduceEqDiff, Nat.zero_add, Nat.add_zero, Nat.zero_mul, Option.map_some, Option.map_none, Option.bind_some, Option.bind_eq_bind, Option.getD_some, Option.getD_none, Option.isSome_some, Option.isSome_none, Option.toList, if_true, if_false, and_self, and_true, true_and, and_false, false_and, Prod.mk.injEq, Bool.false_eq_true, Bool.true_eq_false, beq_self_eq_true, Bool.not_true, Bool.not_false, Bool.and_self, Bool.and_true, Bool.true_and, decide_true, decide_false, beq_true, beq_false, Bool.not_not, reduceCtorEq, Nat.le_refl, Int.reduceNeg, reduceIte, Nat.reduceBEq, Int.reduceBEq, Int.reduceLT, Int.reduceLE, Int.reduceToNat, decide_eq_true_eq, not_false_eq_true, not_true_eq_false, ne_eq, Query.row, devV_cells, devV_one, eLinks_cells, eLinks_one, ePorts_cells, ePorts_one, eRanges_cells, eRanges_one, eRules_cells, eRules_one, nxV, nxV_cells, nxV_one, hE] <;> rfl)) : A := h e
theorem pT35_ {A : Prop} (h : A := by (simp only [List.forall_mem_cons, List.forall_mem_nil, List.not_mem_nil, false_imp_iff, implies_true, List.forall_mem_map, pure_b, pure_i, pure_s, pure_nilp, pure_nilf, pure_esl, pure_ref, pure_sl, pure_ag, pure_tu, pure_fn, and_self, and_true, true_and, eRules_pure, ePorts_pure, eLinks_pure, eRanges_pure]; done)) : A := h
/-! ### probe: asked, cut, New -/
theorem ePorts_cells' (l : List Int) : (ePorts l).cells = some [ePorts l] := rfl
def askedS (n o : Net) (q : Query) : Bool := rightQ n q && (q.kind != 5 || sameT n o)
set_option maxHeartbeats 4000000 in
theorem p_asked (n o : Net) (hn : n.small) (ho : o.small) (q : Query) :
    APure Try.prog n_probe_asked [.ag [ePorts n.ports, eLinks n.links, eRules n.rules], .ag [ePorts o.ports, eLinks o.links, eRules o.rules], .ag q.row] (.b (askedS n o q)) := by
  have hr := p_RightQ n q
  have hs := p_SameT n o ⟨Nat.lt_trans hn.1 (by decide), Nat.lt_trans hn.2.1 (by decide)⟩ ⟨Nat.lt_trans ho.1 (by decide), Nat.lt_trans ho.2.1 (by decide)⟩
  refine apure_of h_probe_asked ?_; simp only [c_probe_asked, List.length_cons, List.length_nil, List.cons_append, List.nil_append, Nat.reduceAdd, Nat.reduceSub, List.reduceReplicate]
  (have hE := noX; repeat' (first
    | refine awp_seq ?_
    | (refine awp_reg fun nv => ?_)
    | ((first | refine aops_nil ?_ | refine awp_skip ?_ | refine awp_exit ?_ | refine awp_ret ?_); try simp only [thenQ, blockQ, if_true, if_false, Nat.reduceEqDiff, eq_self, reduceCtorEq, reduceIte])
    | (apply aops_one 0; (· exact nT35_0 hE))
    | (apply aops_call (hlf := h_query_Right); (· rfl); (· exact nT35_0 hE); (· exact pT35_); (· exact hr); (· exact nput))
    | (apply aops_call (hlf := h_topo_Same); (· rfl); (· exact nT35_0 hE); (· exact pT35_); (· exact hs); (· exact nput))
    | refine awp_block ?_
    | (apply awp_condt; (· exact nT35_0 hE))
    | (apply awp_condf; (· exact nT35_0 hE))
    | (apply awp_cond; (· exact nT35_0 hE); all_goals intro hc)
    | (apply aops_gsplit; (· rfl); (· exact nT35_0 hE); all_goals (intro hg; rw [hg])))); all_goals clear hE
  all_goals
    (apply awp_end [] (by first | exact .inl rfl | exact .inr rfl); (· exact nT35_1 (noX)))
    refine fz_res ?_ (.b _)
    simp only [tup, Bool.or_false, Bool.false_or, Bool.not_false, Bool.not_true, Bool.true_and, Bool.and_true, Bool.true_or, Bool.or_true, Bool.and_false, Bool.false_and, Bool.not_not, askedS, *]
def otherOf (n o : Net) (q : Query) : Net := if q.kind = 5 then o else n
def cutP (n o : Net) (q : Query) : List (Int × Int) := partsS (tabOf [n, otherOf n o q]) q.f q.t
def Net.okR (n : Net) : Prop := ∀ r ∈ n.rules, r.ok
set_option maxHeartbeats 4000000 in
theorem p_cutP (n o : Net) (hn : n.rules.length ≤ 200) (ho : o.rules.length ≤ 200) (hon : n.okR) (hoo : o.okR) (q : Query) (hf : 0 ≤ q.f) (hft : q.f ≤ q.t) (ht : q.t < 4294967296) :
    APure Try.prog n_probe_cut [.ag [ePorts n.ports, eLinks n.links, eRules n.rules], .ag [ePorts o.ports, eLinks o.links, eRules o.rules], .ag q.row] (eRanges (cutP n o q)) := by
  have hc : ∀ m : Net, m.rules.length ≤ 200 → m.okR → APureN Try.prog n_flow_Cut [.sl [[ePorts n.ports, eLinks n.links, eRules n.rules], [ePorts m.ports, eLinks m.links, eRules m.rules]], .ag [.i .u32 q.f, .i .u32 q.t]] (.tu [.sl ((partsS (tabOf [n, m]) q.f q.t).map eRange), .i .i64 0]) := fun m hm hom =>
    p_CutN [n, m] q.f q.t hf hft ht (by simp; omega) (by simp) (fun a ha r hr => by
      simp only [List.mem_cons, List.not_mem_nil, or_false] at ha
      rcases ha with rfl | rfl
      · exact hon r hr
      · exact hom r hr)
  unfold cutP otherOf
  refine apure_of h_probe_cut ?_; simp only [c_probe_cut, List.length_cons, List.length_nil, List.cons_append, List.nil_append, Nat.reduceAdd, Nat.reduceSub, List.reduceReplicate]
  by_cases hk : q.kind = 5
  · have hk' : (q.kind != 5) = false := by simp [hk]
    have hcut := hc o ho hoo
    rw [if_pos hk]
    (have hE := And.intro @hk' noX; repeat' (first
    | refine awp_seq ?_
    | (refine awp_reg fun nv => ?_)
    | ((first | refine aops_nil ?_ | refine awp_skip ?_ | refine awp_exit ?_ | refine awp_ret ?_); try simp only [thenQ, blockQ, if_true, if_false, Nat.reduceEqDiff, eq_self, reduceCtorEq, reduceIte])
    | (apply aops_one 0; (· exact nT35_0 hE))
    | (apply aops_calln [(0, 16)] (hlf := h_flow_Cut); (· rfl); (· exact nT35_0 hE); (· exact (fzl_cons (fz_row (by simp) rfl rfl (by simp) (by simp [ePorts_pure, eLinks_pure, eRules_pure])) (fzl_cons (fz_eq' rfl (.ag _ (by simp [pure_i]))) fzl_nil))); (· exact hcut); (· exact nput))
    | refine awp_block ?_
    | (apply awp_condt; (· exact nT35_0 hE))
    | (apply awp_condf; (· exact nT35_0 hE))
    | (apply awp_cond; (· exact nT35_0 hE); all_goals intro hc)
    | (apply aops_gsplit; (· rfl); (· exact nT35_0 hE); all_goals (intro hg; rw [hg])))); all_goals clear hE
    all_goals
      (apply awp_end [] (by first | exact .inl rfl | exact .inr rfl); (· exact nT35_1 (noX)))
      exact fz_eq' rfl (eRanges_Pure _)
  · have hk' : (q.kind != 5) = true := by simp [hk]
    have hcut := hc n hn hon
    rw [if_neg hk]
    (have hE := And.intro @hk' noX; repeat' (first
    | refine awp_seq ?_
    | (refine awp_reg fun nv => ?_)
    | ((first | refine aops_nil ?_ | refine awp_skip ?_ | refine awp_exit ?_ | refine awp_ret ?_); try simp only [thenQ, blockQ, if_true, if_false, Nat.reduceEqDiff, eq_self, reduceCtorEq, reduceIte])
    | (apply aops_one 0; (· exact nT35_0 hE))
    | (apply aops_calln [(0, 16)] (hlf := h_flow_Cut); (· rfl); (· exact nT35_0 hE); (· exact (fzl_cons (fz_row (by simp) rfl rfl (by simp) (by simp [ePorts_pure, eLinks_pure, eRules_pure])) (fzl_cons (fz_eq' rfl (.ag _ (by simp [pure_i]))) fzl_nil))); (· exact hcut); (· exact nput))
    | refine awp_block ?_
    | (apply awp_condt; (· exact nT35_0 hE))
    | (apply awp_condf; (· exact nT35_0 hE))
    | (apply awp_cond; (· exact nT35_0 hE); all_goals intro hc)
    | (apply aops_gsplit; (· rfl); (· exact nT35_0 hE); all_goals (intro hg; rw [hg])))); all_goals clear hE
    all_goals
      (apply awp_end [] (by first | exact .inl rfl | exact .inr rfl); (· exact nT35_1 (noX)))
      exact fz_eq' rfl (eRanges_Pure _)
/-- A probe at its beginning. -/
def newS (n o : Net) (q : Query) : PS := beginS ⟨n, o, q, sourcesS n q, cutP n o q, cutP n o q, 0, tr0, tr0, .no, false, false, 0, 0, tr0⟩
theorem sources_ne (n o : Net) (q : Query) (h : askedS n o q = true) : ∃ y ys, sourcesS n q = y :: ys := by
  unfold askedS rightQ at h
  simp only [Bool.and_eq_true, Bool.not_eq_true', List.any_cons, List.any_nil, Bool.or_false, Bool.or_eq_false_iff] at h
  obtain ⟨⟨⟨_, ha, _⟩, _⟩, _⟩ := h
  unfold sourcesS
  split
  · exact ⟨_, _, rfl⟩
  · unfold outside at ha
    simp only [Bool.or_eq_false_iff, decide_eq_false_iff_not] at ha
    obtain ⟨k, hk⟩ : ∃ k, n.ports.length = k + 1 := ⟨n.ports.length - 1, by omega⟩
    rw [hk, List.range_succ_eq_map]
    exact ⟨_, _, rfl⟩
set_option maxHeartbeats 4000000 in
theorem c_New' (n o : Net) (hns : n.small) (hos : o.small) (hn : n.rules.length ≤ 200) (ho : o.rules.length ≤ 200) (hon : n.okR) (hoo : o.okR) (q : Query) (hf : 0 ≤ q.f) (ht : q.t < 4294967296) (ha : askedS n o q = true) :
    ACall Try.prog n_probe_New [.ag [ePorts n.ports, eLinks n.links, eRules n.rules], .ag [ePorts o.ports, eLinks o.links, eRules o.rules], .ag q.row] []
      fun r τ => ∃ w : Nat, r = .tu [.ptr (9, 25) w 0 0, .i .i64 0] ∧ StLe τ ((newS n o q).st w 0 0) := by
  have hft : q.f ≤ q.t := by
    unfold askedS rightQ at ha
    simp only [Bool.and_eq_true, Bool.not_eq_true', Bool.or_eq_false_iff, decide_eq_false_iff_not] at ha
    have := ha.1.1.1.2
    omega
  have hask := p_asked n o hns hos q
  have hsrc := p_Sources n hns.1 q
  have hcut := p_cutP n o hn ho hon hoo q hf hft ht
  obtain ⟨y, ys, hy⟩ := sources_ne n o q ha
  have hbg := fun w => c_begin ⟨n, o, q, sourcesS n q, cutP n o q, cutP n o q, 0, tr0, tr0, .no, false, false, 0, 0, tr0⟩ w 0 0 0 y ys hy
  rw [ha] at hask
  refine acall_of h_probe_New ?_; simp only [c_probe_New, List.length_cons, List.length_nil, List.cons_append, List.nil_append, Nat.reduceAdd, Nat.reduceSub, List.reduceReplicate]
  (have hE := noX; repeat' (first
    | refine awp_seq ?_
    | (refine awp_reg fun nv => ?_)
    | (refine awp_regd mix fun nv => ?_)
    | ((first | refine aops_nil ?_ | refine adr_nil (by rfl) ?_ | refine awp_skip ?_ | refine awp_exit ?_ | refine awp_ret ?_); try simp only [thenQ, blockQ, if_true, if_false, Nat.reduceEqDiff, eq_self, reduceCtorEq, reduceIte])
    | ((first | apply aops_one 9 | apply adr_one 9); (· exact nT35_2 hE))
    | ((first | apply aops_call (hlf := h_probe_asked) | apply adr_call (hlf := h_probe_asked)); (· rfl); (· exact nT35_2 hE); (· exact pT35_); (· exact hask); (· exact nput))
    | ((first | apply aops_call (hlf := h_query_Sources) | apply adr_call (hlf := h_query_Sources)); (· rfl); (· exact nT35_2 hE); (· exact pT35_); (· exact hsrc); (· exact nput))
    | ((first | apply aops_call (hlf := h_probe_cut) | apply adr_call (hlf := h_probe_cut)); (· rfl); (· exact nT35_2 hE); (· exact pT35_); (· exact hcut); (· exact nput))
    | (apply aops_callw (hlf := h_probe_Probe_begin); (· rfl); (· exact nT35_2 hE); (· exact (hbg _)); (· (repeat' (first | exact StLe.refl _ | exact StLe.nil _ | (refine stle_cons (by first | rfl | exact nT35_2 hE) ?_)))); (· (intro _; exact nT35_2 hE)); (intro _; simp only [put, List.set_cons_succ, List.set_cons_zero]))
    | refine awp_block ?_
    | (apply awp_condt; (· exact nT35_2 hE))
    | (apply awp_condf; (· exact nT35_2 hE))
    | (apply awp_cond; (· exact nT35_2 hE); all_goals intro hc)
    | ((first | apply aops_gsplit | apply adr_gsplit); (· rfl); (· exact nT35_2 hE); all_goals (intro hg; rw [hg])))); all_goals clear hE
  all_goals
    (apply acall_end (by first | exact .inl rfl | exact .inr rfl); (· exact nT35_1 (noX)))
    exact ⟨_, rfl, stle_head⟩
theorem c_NewNot (n o : Net) (hns : n.small) (hos : o.small) (q : Query) (ha : askedS n o q = false) :
    ACall Try.prog n_probe_New [.ag [ePorts n.ports, eLinks n.links, eRules n.rules], .ag [ePorts o.ports, eLinks o.links, eRules o.rules], .ag q.row] []
      fun r τ => ∃ _ : Unit, r = .tu [.nilp, .i .i64 121] ∧ StLe τ [] := by
  have hask := p_asked n o hns hos q
  rw [ha] at hask
  refine acall_of h_probe_New ?_; simp only [c_probe_New, List.length_cons, List.length_nil, List.cons_append, List.nil_append, Nat.reduceAdd, Nat.reduceSub, List.reduceReplicate]
  (have hE := noX; repeat' (first
    | refine awp_seq ?_
    | (refine awp_reg fun nv => ?_)
    | (refine awp_regd mix fun nv => ?_)
    | ((first | refine aops_nil ?_ | refine adr_nil (by rfl) ?_ | refine awp_skip ?_ | refine awp_exit ?_ | refine awp_ret ?_); try simp only [thenQ, blockQ, if_true, if_false, Nat.reduceEqDiff, eq_self, reduceCtorEq, reduceIte])
    | ((first | apply aops_one 9 | apply adr_one 9); (· exact nT35_2 hE))
    | ((first | apply aops_call (hlf := h_probe_asked) | apply adr_call (hlf := h_probe_asked)); (· rfl); (· exact nT35_2 hE); (· exact pT35_); (· exact hask); (· exact nput))
    | refine awp_block ?_
    | (apply awp_condt; (· exact nT35_2 hE))
    | (apply awp_condf; (· exact nT35_2 hE))
    | (apply awp_cond; (· exact nT35_2 hE); all_goals intro hc)
    | ((first | apply aops_gsplit | apply adr_gsplit); (· rfl); (· exact nT35_2 hE); all_goals (intro hg; rw [hg])))); all_goals clear hE
  all_goals
    (apply acall_end (by first | exact .inl rfl | exact .inr rfl); (· exact nT35_1 (noX)))
    exact ⟨(), rfl, StLe.nil _⟩
end Go.Proofs.Ytibkakodokbobaa
