import Derived.Test.YtibkakodokbobaaT36
import Derived.Test.YtibkakodokbobaaT37
import Derived.Test.YtibkakodokbobaaT38
namespace Go.Proofs.Ytibkakodokbobaa
open Go.Am
set_option maxRecDepth 100000
set_option linter.unusedSimpArgs false
set_option linter.unusedVariables false
theorem nT39_0 {E A : Prop} (e : E) (h : E → A := by (intro hE; simp only [aone, aoneT, gval, astep, aev, val, abin, abinI, abinS, aun, aeqn, aeqL, aeq1, put, upds, sset, sget, aload, astore, aobj, acut, cells_b, one_b, cells_i, one_i, cells_s, one_s, cells_nilp, one_nilp, cells_ref, one_ref, cells_ptr, one_ptr, cells_esl, one_esl, cells_sl, one_sl, cells_row, one_row, cells_fn, one_fn, cells_nilf, one_nilf, cells_nilm, one_nilm, cells_mp, one_mp, cells_mpr, one_mpr, cells_ag, anilck, afieldAddr, aindex, aindexAddr, alen, afill, afillR, aminmax, aminmax.aminmaxI, isNeq, sdl, kin, acall, ares, ares1, arows, aappend, aslice, asliceS, asliceR, aslice0, abnd, List.set_cons_succ, List.set_cons_zero, List.getD_cons_succ, List.getD_cons_zero, List.getElem?_cons_succ, List.getElem?_cons_zero, List.map_cons, List.map_nil, List.cons_append, List.nil_append, List.append_nil, List.length_cons, List.length_nil, List.take_succ_cons, List.take_zero, List.drop_succ_cons, List.drop_zero, List.all_cons, List.all_nil, List.replicate, Nat.reduceAdd, Nat.reduceSub, Nat.reduceMul, Nat.reduceLT, Nat.reduceLeDiff, Nat.reduceEqDiff, Nat.zero_add, Nat.add_zero, Nat.zero_mul, Option.map_some, Option.map_none, Option.bind_some, Option.bind_eq_bind, Option.getD_some, Option.getD_none, Option.isSome_some, Option.isSome_none, Option.toList, if_true, if_false, and_self, and_true, true_and, and_false, false_and, Prod.mk.injEq, Bool.false_eq_true, Bool.true_eq_false, beq_self_eq_true, Bool.not_true, Bool.not_false, Bool.and_self, Bool.and_true, Bool.true_and, decide_true, decide_false, beq_true, beq_false, Bool.not_not, reduceCtorEq, Nat.le_refl, Int.reduceNeg, reduceIte, Nat.reduceBEq, Int.reduceBEq, Int.reduceLT, Int.reduceLE, Int.reduceToNat, decide_eq_true_eq, not_false_eq_true, not_true_eq_false, ne_eq, eLinks_cells, eLinks_one, ePorts_cells, ePorts_one, eRules_cells, eRules_one, hE] <;> rfl)) : A := h e
theorem pT39_ {A : Prop} (h : A := by (simp only [List.forall_mem_cons, List.forall_mem_nil, List.not_mem_nil, false_imp_iff, implies_true, List.forall_mem_map, pure_b, pure_i, pure_s, pure_nilp, pure_nilf, pure_esl, pure_ref, pure_sl, pure_ag, pure_tu, pure_fn, and_self, and_true, true_and, eRules_pure, ePorts_pure, eLinks_pure]; done)) : A := h
/-! ### the live question's network -/
def net9 : Net := ⟨[2, 3, 2], [⟨0, 1, 1, 0⟩, ⟨1, 1, 2, 0⟩], [⟨1, 0, 0, 0, 0, 99, 1⟩, ⟨2, 1, 0, 0, 0, 49, 1⟩, ⟨3, 1, 0, 0, 50, 59, 0⟩, ⟨4, 2, 0, 0, 0, 29, 1⟩, ⟨5, 2, 0, 3, 20, 24, 0⟩]⟩
theorem fzn_ag {σ : Store} {ks : List Key} {cs cs' : List AV} (h : FzNL σ ks cs cs') : FzN σ ks (.ag cs) (.ag cs') := .ag cs cs' h.get.1 h.get.2
theorem p_Net : APureN Try.prog n_l09_Net [] (.ag [ePorts net9.ports, eLinks net9.links, eRules net9.rules]) := by
  refine apureN_of h_l09_Net ?_; simp only [c_l09_Net, List.length_cons, List.length_nil, List.cons_append, List.nil_append, Nat.reduceAdd, Nat.reduceSub, List.reduceReplicate]
  (have hE := noX; repeat' (first
    | refine awp_seq ?_
    | (refine awp_reg fun nv => ?_)
    | ((first | refine aops_nil ?_ | refine awp_skip ?_ | refine awp_exit ?_ | refine awp_ret ?_); try simp only [thenQ, blockQ, if_true, if_false, Nat.reduceEqDiff, eq_self, reduceCtorEq, reduceIte])
    | (apply aops_one 0; (· exact nT39_0 hE))
    | refine awp_block ?_
    | (apply awp_condt; (· exact nT39_0 hE))
    | (apply awp_condf; (· exact nT39_0 hE))
    | (apply awp_cond; (· exact nT39_0 hE); all_goals intro hc)
    | (apply aops_gsplit; (· rfl); (· exact nT39_0 hE); all_goals (intro hg; rw [hg])))); all_goals clear hE
  all_goals
    (apply awp_endN [(0, 3), (0, 10), (0, 22)] (by first | exact .inl rfl | exact .inr rfl); (· exact nT39_0 (noX)))
    exact fzn_ag ⟨.row _ _ _ _ _ (by simp) rfl rfl (by simp [eI, Link.row, Rule.row]) (by simp [eI, Link.row, Rule.row, flat_i]), .row _ _ _ _ _ (by simp) rfl rfl (by simp [eI, Link.row, Rule.row]) (by simp [eI, Link.row, Rule.row, flat_i]), .row _ _ _ _ _ (by simp) rfl rfl (by simp [eI, Link.row, Rule.row]) (by simp [eI, Link.row, Rule.row, flat_i]), trivial⟩
def q13 : Query := ⟨0, 0, 2, 0, 5, 30, ByteArray.empty⟩
def s13 : PS := newS net9 net9 q13
def goodB (s : PS) : Bool := decide (s.n.ports.length < 1000000 ∧ s.n.links.length < 1000000 ∧ s.n.rules.length < 1000000 ∧ s.o.ports.length < 1000000 ∧ s.o.links.length < 1000000 ∧ s.o.rules.length < 1000000 ∧
  0 ≤ s.q.kind ∧ s.q.kind ≤ 5 ∧ s.t.devs.length + 1 < 1000000 ∧ s.u.devs.length + 1 < 1000000 ∧ s.sources ≠ [] ∧ s.parts ≠ [] ∧ s.vt = tr0 ∧ s.done = false) && (match s.next with | .no => false | .first => s.u.devs.isEmpty | .second => true)
theorem goodN_of {s : PS} (h : goodB s = true) : GoodN s := by
  unfold goodB at h
  simp only [Bool.and_eq_true, decide_eq_true_eq] at h
  obtain ⟨⟨h1, h2, h3, h4, h5, h6, h7, h8, h9, h10, h11, h12, h13, h14⟩, hx⟩ := h
  refine ⟨⟨⟨h1, h2, h3⟩, ⟨h4, h5, h6⟩, ⟨h7, h8⟩, by omega, by omega, h11, h12, h13, h14⟩, h9, h10, ?_⟩
  cases hn : s.next <;> rw [hn] at hx <;> simp_all
def runOkB : Nat → PS → Bool
  | 0, _ => true
  | f + 1, s => s.done || (goodB s && runOkB f (oneS s))
theorem runOk_of : ∀ {f : Nat} {s : PS}, runOkB f s = true → RunOk f s
  | 0, _, _ => trivial
  | f + 1, s, h => fun hd => by
    unfold runOkB at h
    rw [hd, Bool.false_or, Bool.and_eq_true] at h
    exact ⟨goodN_of h.1, runOk_of h.2⟩
theorem live13 : (askedS net9 net9 q13 && runOkB 2 s13 && runOkB 100 (goS 2 s13).1 && (goS 2 s13).2 == 2 && !(goS 2 s13).1.done && (goS 100 (goS 2 s13).1).2 == 4 && (goS 100 (goS 2 s13).1).1.done && !(goS 100 (goS 2 s13).1).1.holds && (goS 100 (goS 2 s13).1).1.vaddr == 20) = true := by decide +kernel
end Go.Proofs.Ytibkakodokbobaa
