import Derived.Test.YtibkakodokbobaaT28
import Derived.Test.YtibkakodokbobaaB0
namespace Go.Proofs.Ytibkakodokbobaa
open Go.Am
set_option maxRecDepth 100000
set_option linter.unusedSimpArgs false
set_option linter.unusedVariables false
theorem nT29_0 {E A : Prop} (e : E) (h : E → A := by (intro hE; simp only [aone, aoneT, gval, astep, aev, val, abin, abinI, abinS, aun, aeqn, aeqL, aeq1, put, upds, sset, sget, aload, astore, aobj, acut, cells_b, one_b, cells_i, one_i, cells_s, one_s, cells_nilp, one_nilp, cells_ref, one_ref, cells_ptr, one_ptr, cells_esl, one_esl, cells_sl, one_sl, cells_row, one_row, cells_fn, one_fn, cells_nilf, one_nilf, cells_nilm, one_nilm, cells_mp, one_mp, cells_mpr, one_mpr, cells_ag, anilck, afieldAddr, aindex, aindexAddr, alen, afill, afillR, aminmax, aminmax.aminmaxI, isNeq, sdl, kin, acall, ares, ares1, arows, aappend, aslice, asliceS, asliceR, aslice0, abnd, List.set_cons_succ, List.set_cons_zero, List.getD_cons_succ, List.getD_cons_zero, List.getElem?_cons_succ, List.getElem?_cons_zero, List.map_cons, List.map_nil, List.cons_append, List.nil_append, List.append_nil, List.length_cons, List.length_nil, List.take_succ_cons, List.take_zero, List.drop_succ_cons, List.drop_zero, List.all_cons, List.all_nil, List.replicate, Nat.reduceAdd, Nat.reduceSub, Nat.reduceMul, Nat.reduceLT, Nat.reduceLeDiff, Nat.reduceEqDiff, Nat.zero_add, Nat.add_zero, Nat.zero_mul, Option.map_some, Option.map_none, Option.bind_some, Option.bind_eq_bind, Option.getD_some, Option.getD_none, Option.isSome_some, Option.isSome_none, Option.toList, if_true, if_false, and_self, and_true, true_and, and_false, false_and, Prod.mk.injEq, Bool.false_eq_true, Bool.true_eq_false, beq_self_eq_true, Bool.not_true, Bool.not_false, Bool.and_self, Bool.and_true, Bool.true_and, decide_true, decide_false, beq_true, beq_false, Bool.not_not, reduceCtorEq, Nat.le_refl, Int.reduceNeg, reduceIte, Nat.reduceBEq, Int.reduceBEq, Int.reduceLT, Int.reduceLE, Int.reduceToNat, decide_eq_true_eq, not_false_eq_true, not_true_eq_false, ne_eq, PS.cells, devV_cells, devV_one, eLinks_cells, eLinks_one, ePorts_cells, ePorts_one, eRanges_cells, eRanges_one, eRules_cells, eRules_one, hE] <;> rfl)) : A := h e
theorem nT29_1 {E A : Prop} (e : E) (h : E → A := by (intro hE; simp only [aone, aoneT, gval, astep, aev, val, abin, abinI, abinS, aun, aeqn, aeqL, aeq1, put, upds, sset, sget, aload, astore, aobj, acut, cells_b, one_b, cells_i, one_i, cells_s, one_s, cells_nilp, one_nilp, cells_ref, one_ref, cells_ptr, one_ptr, cells_esl, one_esl, cells_sl, one_sl, cells_row, one_row, cells_fn, one_fn, cells_nilf, one_nilf, cells_nilm, one_nilm, cells_mp, one_mp, cells_mpr, one_mpr, cells_ag, anilck, afieldAddr, aindex, aindexAddr, alen, afill, afillR, aminmax, aminmax.aminmaxI, isNeq, sdl, kin, acall, ares, ares1, arows, aappend, aslice, asliceS, asliceR, aslice0, abnd, List.set_cons_succ, List.set_cons_zero, List.getD_cons_succ, List.getD_cons_zero, List.getElem?_cons_succ, List.getElem?_cons_zero, List.map_cons, List.map_nil, List.cons_append, List.nil_append, List.append_nil, List.length_cons, List.length_nil, List.take_succ_cons, List.take_zero, List.drop_succ_cons, List.drop_zero, List.all_cons, List.all_nil, List.replicate, Nat.reduceAdd, Nat.reduceSub, Nat.reduceMul, Nat.reduceLT, Nat.reduceLeDiff, Nat.reduceEqDiff, Nat.zero_add, Nat.add_zero, Nat.zero_mul, Option.map_some, Option.map_none, Option.bind_some, Option.bind_eq_bind, Option.getD_some, Option.getD_none, Option.isSome_some, Option.isSome_none, Option.toList, if_true, if_false, and_self, and_true, true_and, and_false, false_and, Prod.mk.injEq, Bool.false_eq_true, Bool.true_eq_false, beq_self_eq_true, Bool.not_true, Bool.not_false, Bool.and_self, Bool.and_true, Bool.true_and, decide_true, decide_false, beq_true, beq_false, Bool.not_not, reduceCtorEq, Nat.le_refl, Int.reduceNeg, reduceIte, Nat.reduceBEq, Int.reduceBEq, Int.reduceLT, Int.reduceLE, Int.reduceToNat, decide_eq_true_eq, not_false_eq_true, not_true_eq_false, ne_eq, devV_cells, devV_one, eLinks_cells, eLinks_one, ePorts_cells, ePorts_one, eRanges_cells, eRanges_one, eRules_cells, eRules_one, hE] <;> rfl)) : A := h e
theorem pT29_ {A : Prop} (h : A := by (simp only [List.forall_mem_cons, List.forall_mem_nil, List.not_mem_nil, false_imp_iff, implies_true, List.forall_mem_map, pure_b, pure_i, pure_s, pure_nilp, pure_nilf, pure_esl, pure_ref, pure_sl, pure_ag, pure_tu, pure_fn, and_self, and_true, true_and, eRules_pure, ePorts_pure, eLinks_pure, eRanges_pure]; done)) : A := h
/-! ### probe: a probe's state; begin, visit -/
def eRanges (l : List (Int × Int)) : AV := .sl (l.map eRange)
theorem eRanges_Pure (l : List (Int × Int)) : Pure (eRanges l) := .sl _ fun r hr => by obtain ⟨a, _, rfl⟩ := List.mem_map.1 hr; simp [eRange, pure_i]
theorem eRanges_pure (l : List (Int × Int)) : Pure (eRanges l) ↔ True := ⟨fun _ => trivial, fun _ => eRanges_Pure l⟩
theorem eRanges_cells (l : List (Int × Int)) : (eRanges l).cells = some [eRanges l] := rfl
theorem eRanges_one (l : List (Int × Int)) : (eRanges l).one = true := rfl
/-- A slice of devices that grows. -/
def devV (k : Key) (v : Nat) : List Int → AV
  | [] => .esl
  | d :: l => .row k v 0 (d :: l).length
def devS (k : Key) (v : Nat) : List Int → Store
  | [] => []
  | d :: l => [(k, ⟨v, .rows 1 ((d :: l).map eI)⟩)]
theorem devV_cells (k : Key) (v : Nat) (l : List Int) : (devV k v l).cells = some [devV k v l] := by cases l <;> rfl
theorem devV_one (k : Key) (v : Nat) (l : List Int) : (devV k v l).one = true := by cases l <;> rfl
theorem devV_nil (k : Key) (v : Nat) : devV k v [] = .esl := rfl
theorem devS_nil (k : Key) (v : Nat) : devS k v [] = [] := rfl
theorem devV_cons (k : Key) (v : Nat) (d : Int) (l : List Int) : devV k v (d :: l) = .row k v 0 (l.length + 1) := rfl
theorem devS_cons (k : Key) (v : Nat) (d : Int) (l : List Int) : devS k v (d :: l) = [(k, ⟨v, .rows 1 (eI d :: l.map eI)⟩)] := rfl
theorem devV_snoc (k : Key) (v : Nat) (l : List Int) (x : Int) : devV k v (l ++ [x]) = .row k v 0 (l.length + 1) := by
  cases l with
  | nil => rfl
  | cons a l => simp [devV]
theorem devS_snoc (k : Key) (v : Nat) (l : List Int) (x : Int) : devS k v (l ++ [x]) = [(k, ⟨v, .rows 1 (l.map eI ++ [eI x])⟩)] := by
  cases l with
  | nil => rfl
  | cons a l => simp [devS]
theorem devV_fz {σ : Store} {ks : List Key} {k : Key} {v : Nat} {l : List Int} (hk : k ∈ ks) (hs : l ≠ [] → sget σ k = some ⟨v, .rows 1 (l.map eI)⟩) : Fz σ ks (devV k v l) (ePorts l) := by
  cases l with
  | nil => exact .esl
  | cons a l => exact fz_row hk (hs (by simp)) (by simp) (by simp [eI]) (by simp [eI, pure_i])
inductive Nx where
  | no
  | first
  | second
structure PS where
  n : Net
  o : Net
  q : Query
  sources : List Int
  all : List (Int × Int)
  parts : List (Int × Int)
  at_ : Int
  t : Tr
  u : Tr
  next : Nx
  done : Bool
  holds : Bool
  vfrom : Int
  vaddr : Int
  vt : Tr
def nxV (k : Key) (v : Nat) : Nx → AV
  | .no => .nilf
  | .first => .fn n_probe_Probe_first [.ptr k v 0 0] []
  | .second => .fn n_probe_Probe_second [.ptr k v 0 0] []
theorem nxV_cells (k : Key) (v : Nat) (x : Nx) : (nxV k v x).cells = some [nxV k v x] := by cases x <;> rfl
theorem nxV_one (k : Key) (v : Nat) (x : Nx) : (nxV k v x).one = true := by cases x <;> rfl
/-- The cells of a probe: its key is (9, 25), those of its traces' devices (7, 31), (8, 31). -/
def PS.cells (s : PS) (vp vt vu vv : Nat) : List AV :=
  [ePorts s.n.ports, eLinks s.n.links, eRules s.n.rules, ePorts s.o.ports, eLinks s.o.links, eRules s.o.rules,
   .i .i64 s.q.kind, .i .i64 s.q.a, .i .i64 s.q.b, .i .i64 s.q.w, .i .u32 s.q.f, .i .u32 s.q.t, .s s.q.other,
   ePorts s.sources, eRanges s.all, eRanges s.parts, .i .i64 s.at_,
   devV (7, 31) vt s.t.devs, .i .i64 s.t.fate, .i .i64 s.t.out.1, .i .i64 s.t.out.2,
   devV (8, 31) vu s.u.devs, .i .i64 s.u.fate, .i .i64 s.u.out.1, .i .i64 s.u.out.2,
   nxV (9, 25) vp s.next, .b s.done, .b s.holds, .i .i64 s.vfrom, .i .u32 s.vaddr,
   devV (7, 31) vv s.vt.devs, .i .i64 s.vt.fate, .i .i64 s.vt.out.1, .i .i64 s.vt.out.2]
def tr0 : Tr := ⟨[], 0, (0, 0)⟩
def beginS (s : PS) : PS := { s with at_ := s.sources.headD 0, t := tr0, u := tr0, next := .first }
set_option maxHeartbeats 2000000 in
theorem c_begin (s : PS) (vp vt vu vv : Nat) (x : Int) (xs : List Int) (hs : s.sources = x :: xs) :
    ACall Try.prog n_probe_Probe_begin [.ptr (9, 25) vp 0 0] [((9, 25), ⟨vp, .rows 34 [s.cells vp vt vu vv]⟩)]
      fun r τ => ∃ _ : Unit, r = .tu [] ∧ τ = [((9, 25), ⟨vp, .rows 34 [(beginS s).cells vp vt vu vv]⟩)] := by
  have hx : ePorts s.sources = .sl ([.i .i64 x] :: xs.map eI) := by rw [hs]; rfl
  have hb : (beginS s).at_ = x := by simp [beginS, hs]
  refine acall_of h_probe_Probe_begin ?_; simp only [c_probe_Probe_begin, List.length_cons, List.length_nil, List.cons_append, List.nil_append, Nat.reduceAdd, Nat.reduceSub, List.reduceReplicate]
  (have hE := And.intro @hx noX; repeat' (first
    | refine awp_seq ?_
    | (refine awp_reg fun nv => ?_)
    | ((first | refine aops_nil ?_ | refine awp_skip ?_ | refine awp_exit ?_ | refine awp_ret ?_); try simp only [thenQ, blockQ, if_true, if_false, Nat.reduceEqDiff, eq_self, reduceCtorEq, reduceIte])
    | (apply aops_one 9; (· exact nT29_0 hE))
    | refine awp_block ?_
    | (apply awp_condt; (· exact nT29_0 hE))
    | (apply awp_condf; (· exact nT29_0 hE))
    | (apply awp_cond; (· exact nT29_0 hE); all_goals intro hc)
    | (apply aops_gsplit; (· rfl); (· exact nT29_0 hE); all_goals (intro hg; rw [hg])))); all_goals clear hE
  all_goals
    (apply acall_end (by first | exact .inl rfl | exact .inr rfl); (· exact nT29_1 (noX)))
    refine ⟨(), rfl, ?_⟩
    unfold PS.cells
    rw [hb]
    simp only [beginS]
    rw [hx]
    rfl
def visitS (m : Net) (at_ addr : Int) (t : Tr) : Bool × Int × Tr :=
  if t.devs.contains at_ = true then (false, at_, ⟨t.devs ++ [at_], 4, t.out⟩) else
  if (stepS m at_ addr).1 = 4 then (true, ((nextS m (stepS m at_ addr).2.1 (stepS m at_ addr).2.2).getD (0, 0)).1, ⟨t.devs ++ [at_], 4, t.out⟩)
  else (false, at_, ⟨t.devs ++ [at_], (stepS m at_ addr).1, (stepS m at_ addr).2⟩)
def visitT (m : Net) (s : PS) (addr : Int) : PS := { s with at_ := (visitS m s.at_ addr s.t).2.1, t := (visitS m s.at_ addr s.t).2.2 }
def visitU (m : Net) (s : PS) (addr : Int) : PS := { s with at_ := (visitS m s.at_ addr s.u).2.1, u := (visitS m s.at_ addr s.u).2.2 }
end Go.Proofs.Ytibkakodokbobaa
