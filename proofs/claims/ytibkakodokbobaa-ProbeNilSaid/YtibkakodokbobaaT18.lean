import Derived.Test.YtibkakodokbobaaL1
import Derived.Test.YtibkakodokbobaaT17
import Derived.Test.YtibkakodokbobaaC0
import Derived.Test.YtibkakodokbobaaC1
import Derived.Test.YtibkakodokbobaaC2
import Derived.Test.YtibkakodokbobaaC3
namespace Go.Proofs.Ytibkakodokbobaa
open Go.Am
set_option maxRecDepth 100000
set_option linter.unusedSimpArgs false
set_option linter.unusedVariables false
theorem pT18_ {A : Prop} (h : A := by (simp only [List.forall_mem_cons, List.forall_mem_nil, List.not_mem_nil, false_imp_iff, implies_true, List.forall_mem_map, pure_b, pure_i, pure_s, pure_nilp, pure_nilf, pure_esl, pure_ref, pure_sl, pure_ag, pure_tu, pure_fn, and_self, and_true, true_and, eT_pure, eTb_pure]; done)) : A := h
/-! ### Tables -/
structure Tab where
  a : T
  b : T
  n : Nat
def more1 (k : Int) (t : T) : T := withS k ((getS k t).getD 0 + 1) t
def addS (x : Tab) (f t : Int) : Tab := ⟨if t < 4294967295 then more1 (t + 1) (more1 f x.a) else more1 f x.a, more1 (keyS f t) x.b, x.n + 1⟩
def newTab : Tab := ⟨.node 0 1 .nil .nil, .nil, 0⟩
structure TInv (x : Tab) : Prop where
  sa : SortedK (toL x.a)
  sb : SortedK (toL x.b)
  va : ∀ p ∈ toL x.a, 1 ≤ p.2 ∧ p.2 ≤ 2 * x.n + 1
  vb : ∀ p ∈ toL x.b, 1 ≤ p.2 ∧ p.2 ≤ x.n
  za : x.a.sz ≤ 2 * x.n + 1
  zb : x.b.sz ≤ x.n
  z : ∃ v, lookL 0 (toL x.a) = some v
theorem newTab_inv : TInv newTab := by
  constructor <;> simp [newTab, toL, SortedK, T.sz, lookL]
theorem lookL_mem {k v : Int} : ∀ {l : List (Int × Int)}, lookL k l = some v → (k, v) ∈ l
  | [], h => by cases h
  | p :: r, h => by
    simp only [lookL] at h
    split at h
    · rename_i e; cases h; subst e; exact List.mem_cons_self ..
    · exact List.mem_cons_of_mem _ (lookL_mem h)
theorem more1_ok {k : Int} {t : T} {m : Int} (hs : SortedK (toL t)) (hv : ∀ p ∈ toL t, 1 ≤ p.2 ∧ p.2 ≤ m) (hm0 : 0 ≤ m) (hm : m < 4611686018427387904) (hz : t.sz < 1024) :
    MoreOk k 1 t (more1 k t) ∧ SortedK (toL (more1 k t)) ∧ (∀ p ∈ toL (more1 k t), 1 ≤ p.2 ∧ p.2 ≤ m + 1) ∧ (more1 k t).sz ≤ t.sz + 1 ∧ (∀ q v, lookL q (toL t) = some v → ∃ v', lookL q (toL (more1 k t)) = some v') := by
  have hg : 0 ≤ (getS k t).getD 0 ∧ (getS k t).getD 0 ≤ m := by
    rw [getS_lookL k t hs]
    cases h : lookL k (toL t) with
    | none => exact ⟨by simp, by simpa using hm0⟩
    | some v => have := hv _ (lookL_mem h); simp only [Option.getD_some]; omega
  refine ⟨⟨?_, by omega, wrap64 (by omega) (by omega)⟩, ?_, ?_, withS_sz _ _ _, fun q v hq => ?_⟩
  · unfold moreS putS
    rw [if_neg (by omega), if_neg (by omega)]
    rfl
  · unfold more1
    rw [toL_with _ _ _ hs]
    exact sortedK_insL _ _ hs
  · unfold more1
    rw [toL_with _ _ _ hs]
    intro p hp
    rcases mem_insL hp with rfl | hp
    · simp only; omega
    · have := hv p hp; omega
  · unfold more1
    rw [toL_with _ _ _ hs, lookL_insL _ _ _ hs]
    split
    · exact ⟨_, rfl⟩
    · exact ⟨v, hq⟩
theorem addS_inv {x : Tab} (h : TInv x) {f t : Int} (hn : x.n < 500) : TInv (addS x f t) ∧ MoreOk (keyS f t) 1 x.b (addS x f t).b ∧ MoreOk f 1 x.a (more1 f x.a) ∧ (if t < 4294967295 then MoreOk (t + 1) 1 (more1 f x.a) (addS x f t).a else (addS x f t).a = more1 f x.a) := by
  obtain ⟨b1, b2, b3, b4, _⟩ := more1_ok (k := keyS f t) (m := x.n) h.sb h.vb (by omega) (by omega) (by have := h.zb; omega)
  obtain ⟨a1, a2, a3, a4, a5⟩ := more1_ok (k := f) (m := 2 * x.n + 1) h.sa h.va (by omega) (by omega) (by have := h.za; omega)
  obtain ⟨c1, c2, c3, c4, c5⟩ := more1_ok (k := t + 1) (m := 2 * x.n + 1 + 1) a2 a3 (by omega) (by omega) (by have := h.za; omega)
  obtain ⟨v0, hv0⟩ := h.z
  obtain ⟨v1, hv1⟩ := a5 _ _ hv0
  have hza := h.za
  have hzb := h.zb
  by_cases ht : t < 4294967295
  · refine ⟨⟨?_, b2, ?_, ?_, ?_, ?_, by simp only [addS, if_pos ht]; exact c5 _ _ hv1⟩, b1, a1, ?_⟩
    · simp only [addS, if_pos ht]; exact c2
    · simp only [addS, if_pos ht]; intro p hp; have := c3 p hp; omega
    · simp only [addS]; intro p hp; have := b3 p hp; omega
    · simp only [addS, if_pos ht]; omega
    · simp only [addS]; omega
    · simp only [addS, if_pos ht]; exact c1
  · refine ⟨⟨?_, b2, ?_, ?_, ?_, ?_, by simp only [addS, if_neg ht]; exact ⟨v1, hv1⟩⟩, b1, a1, ?_⟩
    · simp only [addS, if_neg ht]; exact a2
    · simp only [addS, if_neg ht]; intro p hp; have := a3 p hp; omega
    · simp only [addS]; intro p hp; have := b3 p hp; omega
    · simp only [addS, if_neg ht]; omega
    · simp only [addS]; omega
    · simp only [addS, if_neg ht]
def eTb (x : Tab) : AV := eTab x.a x.b x.n
theorem eTb_Pure (x : Tab) : Pure (eTb x) := eTab_Pure _ _ _
theorem eTb_pure (x : Tab) : Pure (eTb x) ↔ True := ⟨fun _ => trivial, fun _ => eTb_Pure x⟩
theorem eTb_cells (x : Tab) : (eTb x).cells = some [eTb x] := rfl
theorem eTb_one (x : Tab) : (eTb x).one = true := rfl
theorem p_AddT {x : Tab} (h : TInv x) {f t : Int} (hf : 0 ≤ f) (hft : f ≤ t) (ht' : t < 4294967296) (hn : x.n < 500) : APure Try.prog n_atoms_Table_Add [eTb x, .ag [.i .u32 f, .i .u32 t]] (.tu [eTb (addS x f t), .i .i64 0]) := by
  obtain ⟨_, h1, h2, h3⟩ := addS_inv h (f := f) (t := t) hn
  exact p_Add x.a (more1 f x.a) (addS x f t).a x.b (addS x f t).b x.n f t hf hft ht' (by omega) (by omega) h1 h2 h3
theorem p_NewTb : APure Try.prog n_atoms_New [] (eTb newTab) := p_NewT
def ofS (x : Tab) (a : Int) : Int := ((cntL (a + 1) (toL x.a) : Nat) : Int) - 1
theorem p_OfT {x : Tab} (h : TInv x) (hn : x.n ≤ 500) {a : Int} (h0 : 0 ≤ a) (h1 : a < 4294967296) : APure Try.prog n_atoms_Table_Of [eTb x, .i .u32 a] (.i .i64 (ofS x a)) := by
  have := p_Of x.a x.b x.n a (by have := h.za; omega) h0 h1
  rw [cut_sz _ _ h.sa] at this
  exact this
theorem p_AtomT {x : Tab} (h : TInv x) (hn : x.n ≤ 500) {i : Int} (h0 : -2 ≤ i) (h1 : i < 9223372036854775000) : APure Try.prog n_atoms_Table_Atom [eTb x, .i .i64 i] (eAtom i x.a) :=
  p_Atom x.a x.b x.n i (by have := h.za; omega) (wrap64 (by omega) (by omega))

def addAll (x : Tab) (l : List Rule) : Tab := l.foldl (fun x r => addS x r.f r.t) x
theorem addAll_snoc (x : Tab) (l : List Rule) (r : Rule) : addAll x (l ++ [r]) = addS (addAll x l) r.f r.t := by simp [addAll]
theorem addAll_inv : ∀ (l : List Rule) (x : Tab), TInv x → x.n + l.length ≤ 500 → TInv (addAll x l) ∧ (addAll x l).n = x.n + l.length
  | [], x, h, _ => ⟨h, rfl⟩
  | r :: l, x, h, hn => by
    simp only [List.length_cons] at hn
    have h1 := (addS_inv h (f := r.f) (t := r.t) (by omega)).1
    obtain ⟨g1, g2⟩ := addAll_inv l (addS x r.f r.t) h1 (by simp only [addS]; omega)
    refine ⟨g1, ?_⟩
    show (addAll (addS x r.f r.t) l).n = _
    rw [g2]
    simp only [addS, List.length_cons]; omega
end Go.Proofs.Ytibkakodokbobaa
