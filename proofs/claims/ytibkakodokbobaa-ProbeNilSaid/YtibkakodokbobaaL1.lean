import Derived.Test.YtibkakodokbobaaT12
namespace Go.Proofs.Ytibkakodokbobaa
open Go.Am
set_option maxRecDepth 100000
set_option linter.unusedSimpArgs false
set_option linter.unusedVariables false
theorem pL1_ {A : Prop} (h : A := by (simp only [List.forall_mem_cons, List.forall_mem_nil, List.not_mem_nil, false_imp_iff, implies_true, List.forall_mem_map, pure_b, pure_i, pure_s, pure_nilp, pure_nilf, pure_esl, pure_ref, pure_sl, pure_ag, pure_tu, pure_fn, and_self, and_true, true_and]; done)) : A := h
/-! ### Plain laws: what the trees hold, in order -/
def toL : T → List (Int × Int)
  | .nil => []
  | .node k v l r => toL l ++ (k, v) :: toL r
theorem toL_length : ∀ t : T, (toL t).length = t.sz
  | .nil => rfl
  | .node k v l r => by simp only [toL, T.sz, List.length_append, List.length_cons, toL_length l, toL_length r]; omega
theorem toL_even (l : T) (k v : Int) (r : T) : toL (evenS l k v r) = toL l ++ (k, v) :: toL r := by
  unfold evenS
  split
  · rename_i h1
    cases l with
    | nil => simp [T.ht] at h1
    | node lk lv ll lr =>
      simp only
      split
      · simp [toL]
      · rename_i h2
        cases lr with
        | nil => simp [T.ht] at h2
        | node a b c d => simp [toL]
  · split
    · rename_i h1
      cases r with
      | nil => simp [T.ht] at h1
      | node rk rv rl rr =>
        simp only
        split
        · simp [toL]
        · rename_i h2
          cases rl with
          | nil => simp [T.ht] at h2
          | node a b c d => simp [toL]
    · simp [toL]
theorem toL_join : ∀ (n : Nat) (l : T) (k v : Int) (r : T), l.sz + r.sz ≤ n → toL (joinS l k v r) = toL l ++ (k, v) :: toL r := by
  intro n
  induction n with
  | zero =>
    intro l k v r h
    cases l with
    | node a b c d => simp only [T.sz] at h; omega
    | nil =>
      cases r with
      | node a b c d => simp only [T.sz] at h; omega
      | nil => rw [joinS.eq_def]; simp [T.ht, toL]
  | succ n ih =>
    intro l k v r h
    rw [joinS.eq_def]
    split
    · rename_i h1
      cases l with
      | nil => simp [T.ht] at h1
      | node lk lv ll lr =>
        simp only [T.sz] at h
        simp only [toL_even, ih lr k v r (by omega), toL, List.append_assoc, List.cons_append]
    · split
      · rename_i h1
        cases r with
        | nil => simp [T.ht] at h1
        | node rk rv rl rr =>
          simp only [T.sz] at h
          simp only [toL_even, ih l k v rl (by omega), toL, List.append_assoc, List.cons_append]
      · simp [toL]
/-- Rising keys. -/
def SortedK : List (Int × Int) → Prop
  | [] => True
  | p :: r => (∀ q ∈ r, p.1 < q.1) ∧ SortedK r
theorem sortedK_app : ∀ (l r : List (Int × Int)), SortedK (l ++ r) ↔ SortedK l ∧ SortedK r ∧ ∀ p ∈ l, ∀ q ∈ r, p.1 < q.1
  | [], r => by simp [SortedK]
  | p :: l, r => by
    simp only [List.cons_append, SortedK, sortedK_app l r, List.mem_append, List.mem_cons]
    constructor
    · rintro ⟨h1, h2, h3, h4⟩
      refine ⟨⟨fun q hq => h1 q (.inl hq), h2⟩, h3, fun a ha b hb => ?_⟩
      rcases ha with rfl | ha
      · exact h1 b (.inr hb)
      · exact h4 a ha b hb
    · rintro ⟨⟨h1, h2⟩, h3, h4⟩
      refine ⟨fun q hq => ?_, h2, h3, fun a ha b hb => h4 a (.inr ha) b hb⟩
      rcases hq with hq | hq
      · exact h1 q hq
      · exact h4 p (.inl rfl) q hq
def lookL (k : Int) : List (Int × Int) → Option Int
  | [] => none
  | p :: r => if p.1 = k then some p.2 else lookL k r
theorem lookL_app (k : Int) : ∀ (l r : List (Int × Int)), lookL k (l ++ r) = (lookL k l).or (lookL k r)
  | [], r => by simp [lookL]
  | p :: l, r => by
    simp only [List.cons_append, lookL, lookL_app k l r]
    split <;> simp
theorem lookL_none (k : Int) : ∀ (l : List (Int × Int)), (∀ p ∈ l, p.1 ≠ k) → lookL k l = none
  | [], _ => rfl
  | p :: l, h => by
    simp only [lookL]
    rw [if_neg (h p (List.mem_cons_self ..)), lookL_none k l fun q hq => h q (List.mem_cons_of_mem _ hq)]
theorem getS_lookL (k : Int) : ∀ t : T, SortedK (toL t) → getS k t = lookL k (toL t)
  | .nil, _ => rfl
  | .node k' v l r, h => by
    simp only [toL] at h ⊢
    rw [sortedK_app] at h
    obtain ⟨h1, ⟨h2, h3⟩, h4⟩ := h
    rw [lookL_app]
    simp only [getS, lookL]
    split
    · rename_i hk
      rw [if_neg (by omega), getS_lookL k l h1]
      rw [lookL_none k (toL r) fun q hq => by have := h2 q hq; simp only at this; omega]
      simp
    · split
      · rename_i hk
        rw [if_neg (by omega), getS_lookL k r h3]
        rw [lookL_none k (toL l) fun q hq => by have := h4 q hq (k', v) (List.mem_cons_self ..); simp only at this; omega]
        simp
      · have : k' = k := by omega
        rw [if_pos this]
        rw [lookL_none k (toL l) fun q hq => by have := h4 q hq (k', v) (List.mem_cons_self ..); simp only at this; omega]
        simp
def insL (k v : Int) : List (Int × Int) → List (Int × Int)
  | [] => [(k, v)]
  | p :: r => if k < p.1 then (k, v) :: p :: r else if k = p.1 then (k, v) :: r else p :: insL k v r
theorem insL_left (k v : Int) : ∀ (l r : List (Int × Int)) (p : Int × Int), SortedK (l ++ p :: r) → k < p.1 → insL k v (l ++ p :: r) = insL k v l ++ p :: r
  | [], r, p, _, h => by simp only [List.nil_append, insL]; rw [if_pos h]; rfl
  | q :: l, r, p, hs, h => by
    simp only [List.cons_append, insL]
    split
    · rfl
    · split
      · rfl
      · rw [insL_left k v l r p hs.2 h]; rfl
theorem insL_right (k v : Int) : ∀ (l r : List (Int × Int)), (∀ p ∈ l, p.1 < k) → insL k v (l ++ r) = l ++ insL k v r
  | [], r, _ => rfl
  | q :: l, r, h => by
    have := h q (List.mem_cons_self ..)
    simp only [List.cons_append, insL]
    rw [if_neg (by omega), if_neg (by omega), insL_right k v l r fun p hp => h p (List.mem_cons_of_mem _ hp)]
theorem toL_with (k v : Int) : ∀ t : T, SortedK (toL t) → toL (withS k v t) = insL k v (toL t)
  | .nil, _ => rfl
  | .node k' v' l r, h => by
    simp only [toL] at h ⊢
    have h' := h
    rw [sortedK_app] at h
    obtain ⟨h1, ⟨h2, h3⟩, h4⟩ := h
    simp only [withS]
    split
    · rename_i hk
      rw [toL_even, toL_with k v l h1, insL_left k v _ _ _ h' hk]
    · split
      · rename_i hk
        have e : toL l ++ (k', v') :: toL r = (toL l ++ [(k', v')]) ++ toL r := by simp
        rw [toL_even, toL_with k v r h3, e, insL_right k v (toL l ++ [(k', v')]) (toL r) fun p hp => ?_]
        · simp
        · simp only [List.mem_append, List.mem_cons, List.not_mem_nil, or_false] at hp
          rcases hp with hp | rfl
          · have := h4 p hp (k', v') (List.mem_cons_self ..); simp only at this; omega
          · exact hk
      · have : k = k' := by omega
        subst this
        rw [insL_right k v (toL l) _ fun p hp => h4 p hp (k, v') (List.mem_cons_self ..)]
        simp [toL, insL]
theorem mem_insL {k v : Int} {q : Int × Int} : ∀ {l : List (Int × Int)}, q ∈ insL k v l → q = (k, v) ∨ q ∈ l
  | [], h => by simpa [insL] using h
  | p :: r, h => by
    simp only [insL] at h
    split at h
    · simpa using h
    · split at h
      · simp only [List.mem_cons] at h ⊢
        rcases h with h | h
        · exact .inl h
        · exact .inr (.inr h)
      · simp only [List.mem_cons] at h ⊢
        rcases h with h | h
        · exact .inr (.inl h)
        · rcases mem_insL h with h | h
          · exact .inl h
          · exact .inr (.inr h)
theorem sortedK_insL (k v : Int) : ∀ {l : List (Int × Int)}, SortedK l → SortedK (insL k v l)
  | [], _ => ⟨by simp, trivial⟩
  | p :: r, h => by
    simp only [insL]
    split
    · rename_i hk
      refine ⟨fun q hq => ?_, h⟩
      rcases List.mem_cons.1 hq with rfl | hq
      · exact hk
      · have := h.1 q hq; simp only; omega
    · split
      · rename_i hk
        subst hk
        exact ⟨h.1, h.2⟩
      · refine ⟨fun q hq => ?_, sortedK_insL k v h.2⟩
        rcases mem_insL hq with rfl | hq
        · simp only; omega
        · exact h.1 q hq
theorem lookL_insL (k v k' : Int) : ∀ {l : List (Int × Int)}, SortedK l → lookL k' (insL k v l) = if k' = k then some v else lookL k' l
  | [], _ => by simp only [insL, lookL]; by_cases h : k = k' <;> simp [h, eq_comm]
  | p :: r, h => by
    simp only [insL]
    split
    · rename_i hk
      simp only [lookL]
      by_cases e : k = k'
      · simp [e]
      · simp [e, Ne.symm e]
    · split
      · rename_i hk
        simp only [lookL]
        by_cases e : k = k'
        · simp [e]
        · rw [if_neg e, if_neg (Ne.symm e), if_neg (by omega)]
      · rename_i hk1 hk2
        simp only [lookL, lookL_insL k v k' h.2]
        by_cases e : k' = k
        · subst e
          rw [if_neg (by omega), if_pos rfl, if_pos rfl]
        · rw [if_neg e, if_neg e]
theorem toL_at : ∀ (t : T) (i : Nat), i < t.sz → (toL t)[i]? = some (atS i t)
  | .nil, i, h => by simp [T.sz] at h
  | .node k v l r, i, h => by
    simp only [T.sz] at h
    simp only [toL, atS]
    have hl := toL_length l
    split
    · rename_i e
      subst e
      rw [List.getElem?_append_right (by omega), hl]; simp
    · split
      · rename_i h2
        rw [List.getElem?_append_left (by omega)]
        exact toL_at l i h2
      · rw [List.getElem?_append_right (by omega), hl]
        obtain ⟨j, hj⟩ : ∃ j, i - l.sz = j + 1 := ⟨i - l.sz - 1, by omega⟩
        rw [hj, List.getElem?_cons_succ, show i - (1 + l.sz) = j by omega]
        exact toL_at r j (by omega)
theorem toL_cut (k : Int) : ∀ t : T, SortedK (toL t) → toL (cutS k t).1 = (toL t).filter (fun p => decide (p.1 < k)) ∧ toL (cutS k t).2 = (toL t).filter (fun p => !decide (p.1 < k))
  | .nil, _ => ⟨rfl, rfl⟩
  | .node k' v l r, h => by
    simp only [toL] at h ⊢
    rw [sortedK_app] at h
    obtain ⟨h1, ⟨h2, h3⟩, h4⟩ := h
    have hl := toL_cut k l h1
    have hr := toL_cut k r h3
    simp only [cutS]
    split
    · rename_i hk
      have el : (toL l).filter (fun p => decide (p.1 < k)) = toL l := List.filter_eq_self.2 fun p hp => by have := h4 p hp (k', v) (List.mem_cons_self ..); simp only at this; simp; omega
      have el' : (toL l).filter (fun p => !decide (p.1 < k)) = [] := List.filter_eq_nil_iff.2 fun p hp => by have := h4 p hp (k', v) (List.mem_cons_self ..); simp only at this; simp; omega
      simp only
      rw [toL_join _ _ _ _ _ (Nat.le_refl _), hr.1, hr.2]
      simp [List.filter_append, List.filter_cons, hk, el, el']
    · rename_i hk
      have er : (toL r).filter (fun p => decide (p.1 < k)) = [] := List.filter_eq_nil_iff.2 fun p hp => by have := h2 p hp; simp only at this; simp; omega
      have er' : (toL r).filter (fun p => !decide (p.1 < k)) = toL r := List.filter_eq_self.2 fun p hp => by have := h2 p hp; simp only at this; simp; omega
      simp only
      rw [toL_join _ _ _ _ _ (Nat.le_refl _), hl.1, hl.2]
      simp [List.filter_append, List.filter_cons, hk, er, er']
/-- How many keys are below one. -/
def cntL (k : Int) (l : List (Int × Int)) : Nat := (l.filter fun p => decide (p.1 < k)).length
theorem cut_sz (k : Int) (t : T) (h : SortedK (toL t)) : (cutS k t).1.sz = cntL k (toL t) := by
  rw [← toL_length, (toL_cut k t h).1, cntL]
end Go.Proofs.Ytibkakodokbobaa
