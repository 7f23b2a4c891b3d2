/- Part 1 of this work's library of abstract walks, packed by a program of this work. -/
import Derived.Orders
import Derived.Below
import Derived.Tactics
import Derived.Laws.CopyRow
import Derived.Laws.Cells
import Derived.Laws.Entries
import Derived.Laws.Small
import Derived.Laws.StructEq
import Derived.Laws.Append
set_option linter.unusedVariables false
set_option linter.unusedSimpArgs false
/- The abstract values, the ghost, and how a model's value stands for an abstract one. -/
namespace Go.Am
open Go.RowKit

/-- A key of the abstract store: a level, a slot. -/
abbrev Key := Nat × Nat

/-- An abstract value: what a value of the model means, addresses set aside. -/
inductive AV where
  /-- anything -/
  | bot
  | b (x : Bool)
  | i (k : IntKind) (n : Int)
  | s (x : ByteArray)
  | nilp
  /-- a pointer to memory that no one writes: the cells from the variable's begin on, and the place -/
  | ref (cs : List AV) (off : Nat)
  /-- a pointer into a live object: its key, its version, the element, the cell -/
  | ptr (k : Key) (ver i off : Nat)
  /-- a slice without capacity -/
  | esl
  /-- a slice of memory that no one writes -/
  | sl (rows : List (List AV))
  /-- a slice of a live object -/
  | row (k : Key) (ver off len : Nat)
  | fn (f : Nat) (first caps : List AV)
  | nilf
  | ag (cs : List AV)
  | tu (vs : List AV)
  | nilm
  /-- a map that no one writes: its keys, in the order in which they came, and their values -/
  | mp (ks vs : List AV)
  /-- a live map -/
  | mpr (k : Key) (ver : Nat)
  /-- what a loop over a function hands to that function -/
  | yl (l : Nat)
  deriving Inhabited

/-- A map's entries as one value. -/
def encM (es : Array MapEntry) : Value := .tuple (es.map fun e => .tuple #[e.key, e.val])
/-- What lies in a block: a cell, or (none) a map's entries. -/
def rdm (w : World) (b : Nat) : Option Nat → Option Value
  | some o => w.cell? ⟨b, o, none⟩
  | none => match w.heap[b]? with
    | some (.map es _) => some (encM es)
    | some (.deferred (some [])) => some (.bool true)
    | _ => none
theorem rdm_lt {w : World} {b : Nat} {o : Option Nat} {u : Value} (h : rdm w b o = some u) : b < w.heap.size := by
  cases o with
  | some o => exact World.block_lt_of_cell? w ⟨b, o, none⟩ h
  | none =>
    simp only [rdm] at h
    split at h
    · rename_i h1; exact (Array.getElem?_eq_some_iff.1 h1).1
    · rename_i h1; exact (Array.getElem?_eq_some_iff.1 h1).1
    · cases h
theorem rdm_same {w w' : World} (h : w'.heap = w.heap) (b : Nat) (o : Option Nat) : rdm w' b o = rdm w b o := by
  cases o with
  | some o => simp [rdm, World.cell?, h]
  | none => simp [rdm, h]
theorem rdm_map {w : World} {b : Nat} {es : Array MapEntry} (h : rdm w b none = some (encM es)) : ∃ es' clock, w.heap[b]? = some (.map es' clock) ∧ es'.size = es.size ∧ ∀ (j : Nat) (e : MapEntry), es[j]? = some e → ∃ e' : MapEntry, es'[j]? = some e' ∧ e'.key = e.key ∧ e'.val = e.val := by
  simp only [rdm] at h
  split at h
  · rename_i es' clock h1
    simp only [encM, Option.some.injEq, Value.tuple.injEq] at h
    refine ⟨es', clock, h1, by simpa using congrArg Array.size h, fun j e hj => ?_⟩
    have := congrArg (fun a => a[j]?) h
    simp only [Array.getElem?_map, hj, Option.map_some] at this
    obtain ⟨e', he', hh⟩ := Option.map_eq_some_iff.1 this
    simp at hh
    exact ⟨e', he', hh⟩
  · simp [encM] at h
  · cases h

/-- Where a live object lies. -/
structure Loc where
  blk : Option Nat
  esz : Nat
  cap : Nat

/-- The ghost: the memory that no one writes, and the places of the objects. -/
structure Gh where
  F : Nat → Option Nat → Option Value
  io : Key → Nat → Option Loc

structure Gh.le (G G' : Gh) : Prop where
  F : ∀ b o u, G.F b o = some u → G'.F b o = some u
  io : ∀ k v L, G.io k v = some L → G'.io k v = some L
theorem Gh.le_refl (G : Gh) : G.le G := ⟨fun _ _ _ h => h, fun _ _ _ h => h⟩
theorem Gh.le.trans {A B C : Gh} (h : A.le B) (k : B.le C) : A.le C := ⟨fun b o u e => k.F b o u (h.F b o u e), fun a v L e => k.io a v L (h.io a v L e)⟩

/-- More is known, nothing of the first versions. -/
def GLe (N : Nat) (G G' : Gh) : Prop := G.le G' ∧ ∀ k n, n < N → G'.io k n = G.io k n
theorem GLe.refl (N : Nat) (G : Gh) : GLe N G G := ⟨Gh.le_refl G, fun _ _ _ => rfl⟩
theorem GLe.trans {N : Nat} {A B C : Gh} (h : GLe N A B) (k : GLe N B C) : GLe N A C := ⟨h.1.trans k.1, fun q n hn => (k.2 q n hn).trans (h.2 q n hn)⟩
theorem GLe.less {N M : Nat} {A B : Gh} (h : GLe N A B) (hm : M ≤ N) : GLe M A B := ⟨h.1, fun q n hn => h.2 q n (Nat.lt_of_lt_of_le hn hm)⟩
/-- A slice of a live object. -/
def RowAt (L : Loc) (off len : Nat) (a : Option Addr) (cap : Nat) : Prop :=
  off + cap ≤ L.cap ∧ len ≤ cap ∧ (cap ≠ 0 → ∃ b, L.blk = some b ∧ a = some ⟨b, off * L.esz, none⟩)

inductive ARep (G : Gh) : AV → Value → Prop where
  | bot (v : Value) : ARep G .bot v
  | b (x : Bool) : ARep G (.b x) (.bool x)
  | i (k : IntKind) (n : Int) : ARep G (.i k n) (.int k n)
  | s (x : ByteArray) : ARep G (.s x) (.string x)
  | nilp : ARep G .nilp (.pointer none)
  | nilf : ARep G .nilf .nilFunc
  | ref (cs : List AV) (off blk o : Nat) (us : Nat → Value) (hF : ∀ (j : Nat) (x : AV), cs[j]? = some x → G.F blk (some (o + j)) = some (us j)) (hr : ∀ (j : Nat) (x : AV), cs[j]? = some x → ARep G x (us j)) : ARep G (.ref cs off) (.pointer (some ⟨blk, o + off, none⟩))
  | ptr (k : Key) (ver i off : Nat) (L : Loc) (b : Nat) (hL : G.io k ver = some L) (hb : L.blk = some b) : ARep G (.ptr k ver i off) (.pointer (some ⟨b, i * L.esz + off, none⟩))
  | esl (a : Option Addr) : ARep G .esl (.slice a 0 0)
  | sl (rows : List (List AV)) (a : Option Addr) (cap esz : Nat) (us : Nat → Nat → Value) (hcap : rows.length ≤ cap) (blk o : Nat) (ha : rows ≠ [] → a = some ⟨blk, o, none⟩) (hz : ∀ (i : Nat) (cs : List AV), rows[i]? = some cs → cs.length = esz)
      (hF : ∀ (i : Nat) (cs : List AV) (j : Nat) (x : AV), rows[i]? = some cs → cs[j]? = some x → G.F blk (some (o + (i * esz + j))) = some (us i j)) (hr : ∀ (i : Nat) (cs : List AV) (j : Nat) (x : AV), rows[i]? = some cs → cs[j]? = some x → ARep G x (us i j)) : ARep G (.sl rows) (.slice a rows.length cap)
  | row (k : Key) (ver off len : Nat) (a : Option Addr) (cap : Nat) (L : Loc) (hL : G.io k ver = some L) (h : RowAt L off len a cap) : ARep G (.row k ver off len) (.slice a len cap)
  | fn (f : Nat) (first caps : List AV) (us ws : Nat → Value) (hr : ∀ (j : Nat) (x : AV), first[j]? = some x → ARep G x (us j)) (hs : ∀ (j : Nat) (x : AV), caps[j]? = some x → ARep G x (ws j)) :
      ARep G (.fn f first caps) (.func (.func f) ((List.range first.length).map us).toArray ((List.range caps.length).map ws).toArray)
  | ag (cs : List AV) (us : Nat → Value) (hr : ∀ (j : Nat) (x : AV), cs[j]? = some x → ARep G x (us j)) : ARep G (.ag cs) (.agg ((List.range cs.length).map us).toArray)
  | tu (cs : List AV) (us : Nat → Value) (hr : ∀ (j : Nat) (x : AV), cs[j]? = some x → ARep G x (us j)) : ARep G (.tu cs) (.tuple ((List.range cs.length).map us).toArray)
  | nilm : ARep G .nilm (.map none)
  | mp (ks vs : List AV) (b : Nat) (es : Array MapEntry) (us ws : Nat → Value) (hF : G.F b none = some (encM es)) (hk : ks.length = es.size) (hv : vs.length = es.size) (he : ∀ (j : Nat) (e : MapEntry), es[j]? = some e → e.key = us j ∧ e.val = ws j)
      (hr : ∀ (j : Nat) (x : AV), ks[j]? = some x → ARep G x (us j)) (hs : ∀ (j : Nat) (x : AV), vs[j]? = some x → ARep G x (ws j)) : ARep G (.mp ks vs) (.map (some b))
  | mpr (k : Key) (ver : Nat) (L : Loc) (b : Nat) (hL : G.io k ver = some L) (hb : L.blk = some b) : ARep G (.mpr k ver) (.map (some b))
  | yl (l : Nat) : ARep G (.yl l) (.func (.yield l) #[] #[])

/-- Cells and maps stay. -/
structure Gh.le' (G G' : Gh) : Prop where
  F : ∀ b o u, G.F b o = some u → ((∃ j, o = some j) ∨ ∃ es, u = encM es) → G'.F b o = some u
  io : ∀ k v L, G.io k v = some L → G'.io k v = some L
theorem Gh.le.le' {G G' : Gh} (h : G.le G') : G.le' G' := ⟨fun b o u e _ => h.F b o u e, h.io⟩
theorem ARep.mono' {G G' : Gh} (h : G.le' G') {x : AV} {u : Value} (hx : ARep G x u) : ARep G' x u := by
  induction hx with
  | bot v => exact .bot v
  | b x => exact .b x
  | i k n => exact .i k n
  | s x => exact .s x
  | nilp => exact .nilp
  | nilf => exact .nilf
  | ref cs off blk o us hF _ ih => exact .ref cs off blk o us (fun j x hj => h.F _ _ _ (hF j x hj) (.inl ⟨_, rfl⟩)) ih
  | ptr k ver i off L b hL hb => exact .ptr k ver i off L b (h.io _ _ _ hL) hb
  | esl a => exact .esl a
  | sl rows a cap esz us hcap blk o ha hz hF _ ih => exact .sl rows a cap esz us hcap blk o ha hz (fun i cs j x hi hj => h.F _ _ _ (hF i cs j x hi hj) (.inl ⟨_, rfl⟩)) ih
  | row k ver off len a cap L hL hR => exact .row k ver off len a cap L (h.io _ _ _ hL) hR
  | fn f first caps us ws _ _ ih1 ih2 => exact .fn f first caps us ws ih1 ih2
  | ag cs us _ ih => exact .ag cs us ih
  | tu cs us _ ih => exact .tu cs us ih
  | nilm => exact .nilm
  | mp ks vs b es us ws hF hk hv he _ _ ih1 ih2 => exact .mp ks vs b es us ws (h.F _ _ _ hF (.inr ⟨_, rfl⟩)) hk hv he ih1 ih2
  | mpr k ver L b hL hb => exact .mpr k ver L b (h.io _ _ _ hL) hb
  | yl l => exact .yl l
theorem ARep.mono {G G' : Gh} (h : G.le G') {x : AV} {u : Value} (hx : ARep G x u) : ARep G' x u := hx.mono' h.le'

/-- Many values. -/
def AReps (G : Gh) (xs : List AV) (us : List Value) : Prop := xs.length = us.length ∧ ∀ (j : Nat) (x : AV) (u : Value), xs[j]? = some x → us[j]? = some u → ARep G x u
theorem AReps.mono' {G G' : Gh} (h : G.le' G') {xs : List AV} {us : List Value} (hx : AReps G xs us) : AReps G' xs us := ⟨hx.1, fun j x u a b => (hx.2 j x u a b).mono' h⟩
theorem AReps.mono {G G' : Gh} (h : G.le G') {xs : List AV} {us : List Value} (hx : AReps G xs us) : AReps G' xs us := ⟨hx.1, fun j x u a b => (hx.2 j x u a b).mono h⟩
theorem AReps.get {G : Gh} {xs : List AV} {us : List Value} (h : AReps G xs us) {j : Nat} {x : AV} (hj : xs[j]? = some x) : ∃ u, us[j]? = some u ∧ ARep G x u := by
  have hl : j < us.length := by rw [← h.1]; exact (List.getElem?_eq_some_iff.1 hj).1
  exact ⟨us[j], List.getElem?_eq_getElem hl, h.2 j x _ hj (List.getElem?_eq_getElem hl)⟩
theorem AReps.nil (G : Gh) : AReps G [] [] := ⟨rfl, fun j x u h => by simp at h⟩
theorem AReps.cons {G : Gh} {x : AV} {u : Value} {xs : List AV} {us : List Value} (h : ARep G x u) (hs : AReps G xs us) : AReps G (x :: xs) (u :: us) := by
  refine ⟨by simp [hs.1], fun j y v hy hv => ?_⟩
  cases j with
  | zero => simp at hy hv; subst hy; subst hv; exact h
  | succ j => exact hs.2 j y v (by simpa using hy) (by simpa using hv)
theorem AReps.app {G : Gh} {xs ys : List AV} {us vs : List Value} (h : AReps G xs us) (k : AReps G ys vs) : AReps G (xs ++ ys) (us ++ vs) := by
  refine ⟨by simp [h.1, k.1], fun j y v hy hv => ?_⟩
  rw [List.getElem?_append] at hy hv
  rw [h.1] at hy
  split at hy
  · rename_i hlt; rw [if_pos hlt] at hv; exact h.2 j y v hy hv
  · rename_i hlt; rw [if_neg hlt] at hv; exact k.2 _ y v hy hv
theorem AReps.set {G : Gh} {xs : List AV} {us : List Value} (h : AReps G xs us) (t : Nat) {x : AV} {u : Value} (hx : ARep G x u) : AReps G (xs.set t x) (us.set t u) := by
  refine ⟨by simp [h.1], fun j y v hy hv => ?_⟩
  rw [List.getElem?_set] at hy hv
  by_cases e : t = j
  · subst e
    simp only [if_true] at hy hv
    split at hy <;> split at hv <;> simp at hy hv
    subst hy; subst hv; exact hx
  · rw [if_neg e] at hy hv; exact h.2 j y v hy hv
theorem AReps.take {G : Gh} {xs : List AV} {us : List Value} (h : AReps G xs us) (n : Nat) : AReps G (xs.take n) (us.take n) := by
  refine ⟨by simp [h.1], fun j y v hy hv => ?_⟩
  rw [List.getElem?_take] at hy hv
  split at hy
  · rename_i hlt; rw [if_pos hlt] at hv; exact h.2 j y v hy hv
  · simp at hy
theorem AReps.drop {G : Gh} {xs : List AV} {us : List Value} (h : AReps G xs us) (n : Nat) : AReps G (xs.drop n) (us.drop n) := by
  refine ⟨by simp [h.1], fun j y v hy hv => ?_⟩
  rw [List.getElem?_drop] at hy hv
  exact h.2 _ y v hy hv
theorem range_map_getD (us : List Value) (d : Value) : (List.range us.length).map (fun j => us.getD j d) = us := by
  apply List.ext_getElem?
  intro j
  rw [List.getElem?_map]
  by_cases h : j < us.length
  · rw [List.getElem?_range h]; simp [h, List.getD_eq_getElem?_getD]
  · rw [List.getElem?_eq_none (by simpa using h), List.getElem?_eq_none (Nat.le_of_not_lt h)]; rfl
theorem AReps.fn {G : Gh} {xs : List AV} {us : List Value} (h : AReps G xs us) : ∀ (j : Nat) (x : AV), xs[j]? = some x → ARep G x (us.getD j undef) := fun j x hj => by
  obtain ⟨u, hu, hr⟩ := h.get hj
  rw [List.getD_eq_getElem?_getD, hu]; exact hr
theorem AReps.of_fn {G : Gh} {xs : List AV} {us : Nat → Value} (h : ∀ (j : Nat) (x : AV), xs[j]? = some x → ARep G x (us j)) : AReps G xs ((List.range xs.length).map us) := by
  refine ⟨by simp, fun j x u hx hu => ?_⟩
  have hl := (List.getElem?_eq_some_iff.1 hx).1
  rw [List.getElem?_map, List.getElem?_range hl] at hu
  simp at hu; subst hu; exact h j x hx
theorem arep_ag {G : Gh} {cs : List AV} {us : List Value} (h : AReps G cs us) : ARep G (.ag cs) (.agg us.toArray) := by
  have := ARep.ag cs (fun j => us.getD j undef) h.fn
  rwa [h.1, range_map_getD] at this
theorem arep_ag_inv {G : Gh} {cs : List AV} {v : Value} (h : ARep G (.ag cs) v) : ∃ us : List Value, v = .agg us.toArray ∧ AReps G cs us := by
  cases h with
  | ag _ us hr => exact ⟨_, rfl, AReps.of_fn hr⟩
theorem arep_tu {G : Gh} {cs : List AV} {us : List Value} (h : AReps G cs us) : ARep G (.tu cs) (.tuple us.toArray) := by
  have := ARep.tu cs (fun j => us.getD j undef) h.fn
  rwa [h.1, range_map_getD] at this
theorem arep_tu_inv {G : Gh} {cs : List AV} {v : Value} (h : ARep G (.tu cs) v) : ∃ us : List Value, v = .tuple us.toArray ∧ AReps G cs us := by
  cases h with
  | tu _ us hr => exact ⟨_, rfl, AReps.of_fn hr⟩
theorem arep_fn {G : Gh} {f : Nat} {xs ys : List AV} {us vs : List Value} (h : AReps G xs us) (k : AReps G ys vs) : ARep G (.fn f xs ys) (.func (.func f) us.toArray vs.toArray) := by
  have := ARep.fn f xs ys (fun j => us.getD j undef) (fun j => vs.getD j undef) h.fn k.fn
  rwa [h.1, k.1, range_map_getD, range_map_getD] at this
theorem arep_fn_inv {G : Gh} {f : Nat} {xs ys : List AV} {v : Value} (h : ARep G (.fn f xs ys) v) : ∃ us vs : List Value, v = .func (.func f) us.toArray vs.toArray ∧ AReps G xs us ∧ AReps G ys vs := by
  cases h with
  | fn _ _ _ us ws hr hs => exact ⟨_, _, rfl, AReps.of_fn hr, AReps.of_fn hs⟩

/-- The cells that a value fills. -/
def AV.cells : AV → Option (List AV)
  | .bot => none
  | .ag cs => some cs
  | .tu _ => none
  | x => some [x]
theorem arep_cells {G : Gh} {x : AV} {u : Value} (h : ARep G x u) {cs : List AV} (hc : x.cells = some cs) : AReps G cs u.cells.toList := by
  cases h with
  | bot v => simp [AV.cells] at hc
  | ag ds us hr =>
    simp only [AV.cells, Option.some.injEq] at hc; subst hc
    simpa [Value.cells] using AReps.of_fn hr
  | tu ds us hr => simp [AV.cells] at hc
  | b x => simp only [AV.cells, Option.some.injEq] at hc; subst hc; exact (AReps.nil G).cons (.b x)
  | i k n => simp only [AV.cells, Option.some.injEq] at hc; subst hc; exact (AReps.nil G).cons (.i k n)
  | s x => simp only [AV.cells, Option.some.injEq] at hc; subst hc; exact (AReps.nil G).cons (.s x)
  | nilp => simp only [AV.cells, Option.some.injEq] at hc; subst hc; exact (AReps.nil G).cons .nilp
  | nilf => simp only [AV.cells, Option.some.injEq] at hc; subst hc; exact (AReps.nil G).cons .nilf
  | ref cs off blk o us hF hr => simp only [AV.cells, Option.some.injEq] at hc; subst hc; exact (AReps.nil G).cons (.ref cs off blk o us hF hr)
  | ptr k ver i off L b hL hb => simp only [AV.cells, Option.some.injEq] at hc; subst hc; exact (AReps.nil G).cons (.ptr k ver i off L b hL hb)
  | esl a => simp only [AV.cells, Option.some.injEq] at hc; subst hc; exact (AReps.nil G).cons (.esl a)
  | sl rows a cap esz us hcap blk o ha hz hF hr => simp only [AV.cells, Option.some.injEq] at hc; subst hc; exact (AReps.nil G).cons (.sl rows a cap esz us hcap blk o ha hz hF hr)
  | row k ver off len a cap L hL hR => simp only [AV.cells, Option.some.injEq] at hc; subst hc; exact (AReps.nil G).cons (.row k ver off len a cap L hL hR)
  | fn f first caps us ws hr hs => simp only [AV.cells, Option.some.injEq] at hc; subst hc; exact (AReps.nil G).cons (.fn f first caps us ws hr hs)
  | nilm => simp only [AV.cells, Option.some.injEq] at hc; subst hc; exact (AReps.nil G).cons .nilm
  | mp ks vs b es us ws hF hk hv he hr hs => simp only [AV.cells, Option.some.injEq] at hc; subst hc; exact (AReps.nil G).cons (.mp ks vs b es us ws hF hk hv he hr hs)
  | mpr k ver L b hL hb => simp only [AV.cells, Option.some.injEq] at hc; subst hc; exact (AReps.nil G).cons (.mpr k ver L b hL hb)
  | yl l => simp only [AV.cells, Option.some.injEq] at hc; subst hc; exact (AReps.nil G).cons (.yl l)

/-! ### The abstract store -/
inductive AB where
  | rows (esz : Nat) (rs : List (List AV))
  | map (ks vs : List AV)
  /-- a block of whatever make, as it stands, and values that are at hand -/
  | obj (b : Nat) (o : Obj) (fr : List AV) (us : List Value)
structure AO where
  ver : Nat
  body : AB
abbrev Store := List (Key × AO)
def sget : Store → Key → Option AO
  | [], _ => none
  | (k', o) :: r, k => if k' = k then some o else sget r k
def sset : Store → Key → AO → Store
  | [], k, o => [(k, o)]
  | (k', o') :: r, k, o => if k' = k then (k, o) :: r else (k', o') :: sset r k o
theorem sget_sset (σ : Store) (k : Key) (o : AO) (k' : Key) : sget (sset σ k o) k' = if k = k' then some o else sget σ k' := by
  induction σ with
  | nil => simp [sset, sget]
  | cons p r ih =>
    obtain ⟨q, o'⟩ := p
    simp only [sset]
    split
    · rename_i e; subst e
      simp only [sget]
      split <;> simp [*]
    · rename_i e
      simp only [sget, ih]
      by_cases h1 : q = k'
      · subst h1
        have : ¬ k = q := fun e' => e e'.symm
        simp [this]
      · simp [h1]
def upds (σ : Store) : List (Key × AO) → Store
  | [] => σ
  | (k, o) :: r => upds (sset σ k o) r

/-- The model's blocks that the live objects fill. -/
def Live (G : Gh) (σ : Store) (b : Nat) : Prop := ∃ k o L, sget σ k = some o ∧ G.io k o.ver = some L ∧ L.blk = some b

def BodyRep (G : Gh) (w : World) (L : Loc) : AB → Prop
  | .rows esz rs => L.esz = esz ∧ rs.length ≤ L.cap ∧ (∀ (i : Nat) (cs : List AV), rs[i]? = some cs → cs.length = esz) ∧
      match L.blk with
      | none => L.cap = 0
      | some b => ∃ c ty, w.heap[b]? = some (.cells c ty (0, 0)) ∧ L.cap * esz ≤ c.size ∧
          ∀ (i : Nat) (cs : List AV) (j : Nat) (x : AV), rs[i]? = some cs → cs[j]? = some x → ∃ u, c[i * esz + j]? = some u ∧ ARep G x u
  | .map ks vs => ∃ b es clock, L.blk = some b ∧ w.heap[b]? = some (.map es clock) ∧ ks.length = es.size ∧ vs.length = es.size ∧
      (∀ (j : Nat) (x : AV) (e : MapEntry), ks[j]? = some x → es[j]? = some e → ARep G x e.key) ∧ (∀ (j : Nat) (x : AV) (e : MapEntry), vs[j]? = some x → es[j]? = some e → ARep G x e.val)
  | .obj b o fr us => L.blk = some b ∧ w.heap[b]? = some o ∧ AReps G fr us
def ObjRep (G : Gh) (w : World) (k : Key) (o : AO) : Prop := ∃ L, G.io k o.ver = some L ∧ BodyRep G w L o.body

/-- Where a function's run began, and what of it may be written. -/
structure Base where
  w0 : World
  M0 : Nat → Prop
  F0 : Nat → Option Nat → Option Value
  /-- versions below this are not given anew -/
  N : Nat

structure MemSim (B : Base) (G : Gh) (w : World) (σ : Store) : Prop where
  hF : ∀ b o u, G.F b o = some u → rdm w b o = some u
  hF0 : ∀ b o u, G.F b o = some u → B.F0 b o = some u ∨ B.w0.heap.size ≤ b
  obj : ∀ k o, sget σ k = some o → ObjRep G w k o
  sepF : ∀ b, Live G σ b → ∀ o, G.F b o = none
  sep : ∀ k k' o o' L L' b, sget σ k = some o → sget σ k' = some o' → G.io k o.ver = some L → G.io k' o'.ver = some L' → L.blk = some b → L'.blk = some b → k = k'
  own : ∀ b, Live G σ b → B.M0 b ∨ B.w0.heap.size ≤ b
  fin : ∃ N, ∀ k v, N ≤ v → G.io k v = none
  os : w.os = B.w0.os
  tape : w.tape = B.w0.tape
  output : w.output = B.w0.output
  size : B.w0.heap.size ≤ w.heap.size
  keep : ∀ b, b < B.w0.heap.size → ¬ B.M0 b → w.heap[b]? = B.w0.heap[b]?
  fz : ∀ a, w.frozen? a = true → B.w0.frozen? a = true

/-- What else than live objects stays. -/
structure Keeps (S : Nat → Prop) (w w' : World) : Prop where
  os : w'.os = w.os
  tape : w'.tape = w.tape
  output : w'.output = w.output
  size : w.heap.size ≤ w'.heap.size
  block : ∀ b, b < w.heap.size → ¬ S b → w'.heap[b]? = w.heap[b]?
  fz : ∀ a, w'.frozen? a = true → w.frozen? a = true
theorem Keeps.refl (S : Nat → Prop) (w : World) : Keeps S w w := ⟨rfl, rfl, rfl, Nat.le_refl _, fun _ _ _ => rfl, fun _ h => h⟩
theorem Keeps.mono {S T : Nat → Prop} {w w' : World} (h : Keeps S w w') (hs : ∀ b, S b → T b) : Keeps T w w' := ⟨h.os, h.tape, h.output, h.size, fun b hb hn => h.block b hb (fun hS => hn (hs b hS)), h.fz⟩
theorem Keeps.trans {S : Nat → Prop} {a b c : World} (h : Keeps S a b) (k : Keeps S b c) : Keeps S a c :=
  ⟨k.os.trans h.os, k.tape.trans h.tape, k.output.trans h.output, Nat.le_trans h.size k.size, fun i hi hn => (k.block i (Nat.lt_of_lt_of_le hi h.size) hn).trans (h.block i hi hn), fun a ha => h.fz a (k.fz a ha)⟩
end Go.Am
/- The memory side: what a step of the model does to the simulation. -/
namespace Go.Am
open Go.RowKit

theorem Live.of_get {G : Gh} {σ : Store} {k : Key} {o : AO} {L : Loc} {b : Nat} (h : sget σ k = some o) (hL : G.io k o.ver = some L) (hb : L.blk = some b) : Live G σ b := ⟨k, o, L, h, hL, hb⟩

theorem rdm_alloc_lt {w : World} {b : Nat} (x : Obj) (hb : b < w.heap.size) (o : Option Nat) : rdm (w.alloc x) b o = rdm w b o := by
  cases o with
  | some o => exact World.cell?_alloc_lt _ _ ⟨b, o, none⟩ hb
  | none => simp only [rdm]; rw [Below.heap_alloc _ _ _ hb]
theorem rdm_setRow_other {w : World} {b k : Nat} {c : Array Value} {o : Option Nat} (h : k ≠ b) : rdm (w.setRow b c) k o = rdm w k o := by
  cases o with
  | some o => exact cell_setRow_other _ _ _ ⟨k, o, none⟩ h
  | none => simp only [rdm]; rw [setRow_other _ _ _ _ h]
theorem BodyRep.mono' {G G' : Gh} {w w' : World} {L : Loc} {x : AB} (h : BodyRep G w L x) (hG : G.le' G') (hw : ∀ b, L.blk = some b → w'.heap[b]? = w.heap[b]?) : BodyRep G' w' L x := by
  cases x with
  | rows esz rs =>
    obtain ⟨h1, h2, h3, h4⟩ := h
    refine ⟨h1, h2, h3, ?_⟩
    cases hb : L.blk with
    | none => rw [hb] at h4; exact h4
    | some b =>
      rw [hb] at h4
      obtain ⟨c, ty, hc, hs, hx⟩ := h4
      exact ⟨c, ty, (hw b hb).trans hc, hs, fun i cs j x a b => by obtain ⟨u, hu, hr⟩ := hx i cs j x a b; exact ⟨u, hu, hr.mono' hG⟩⟩
  | map ks vs =>
    obtain ⟨b, es, clock, h1, h2, h3, h4, h5, h6⟩ := h
    exact ⟨b, es, clock, h1, (hw b h1).trans h2, h3, h4, fun j x e a b => (h5 j x e a b).mono' hG, fun j x e a b => (h6 j x e a b).mono' hG⟩
  | obj b o fr us => obtain ⟨h1, h2, h3⟩ := h; exact ⟨h1, (hw b h1).trans h2, h3.mono' hG⟩
theorem BodyRep.mono {G G' : Gh} {w w' : World} {L : Loc} {x : AB} (h : BodyRep G w L x) (hG : G.le G') (hw : ∀ b, L.blk = some b → w'.heap[b]? = w.heap[b]?) : BodyRep G' w' L x := h.mono' hG.le' hw

theorem MemSim.cell_lt {B : Base} {G : Gh} {w : World} {σ : Store} (h : MemSim B G w σ) {b : Nat} {o : Option Nat} {u : Value} (hf : G.F b o = some u) : b < w.heap.size :=
  rdm_lt (h.hF b o u hf)
theorem BodyRep.lt {G : Gh} {w : World} {L : Loc} {x : AB} (h : BodyRep G w L x) {b : Nat} (hb : L.blk = some b) : b < w.heap.size := by
  cases x with
  | rows esz rs =>
    obtain ⟨_, _, _, h4⟩ := h
    rw [hb] at h4
    obtain ⟨c, ty, hc, _⟩ := h4
    exact (Array.getElem?_eq_some_iff.1 hc).1
  | map ks vs =>
    obtain ⟨b', es, clock, h1, h2, _⟩ := h
    rw [hb] at h1; cases h1
    exact (Array.getElem?_eq_some_iff.1 h2).1
  | obj b' o fr us =>
    obtain ⟨h1, h2, _⟩ := h
    rw [hb] at h1; cases h1
    exact (Array.getElem?_eq_some_iff.1 h2).1
theorem MemSim.live_lt {B : Base} {G : Gh} {w : World} {σ : Store} (h : MemSim B G w σ) {b : Nat} (hl : Live G σ b) : b < w.heap.size := by
  obtain ⟨k, o, L, hk, hL, hb⟩ := hl
  obtain ⟨L', hL', hr⟩ := h.obj k o hk
  rw [hL] at hL'; cases hL'
  exact hr.lt hb

/-! ### No new block is frozen -/
def cold : Obj → Bool
  | .cells _ _ p => decide (p.2 ≤ p.1)
  | _ => true
theorem cold_frozen {w : World} {a : Addr} {o : Obj} (h : w.heap[a.block]? = some o) (hc : cold o = true) : w.frozen? a = false := by
  unfold World.frozen?
  rw [h]
  cases o with
  | cells c t p =>
    obtain ⟨lo, hi⟩ := p
    simp only [cold, decide_eq_true_eq] at hc
    simp only [Bool.and_eq_false_iff, decide_eq_false_iff_not]
    omega
  | _ => rfl
theorem froz_block {w w' : World} {a : Addr} (h : w'.heap[a.block]? = w.heap[a.block]?) (ha : w'.frozen? a = true) : w.frozen? a = true := by
  unfold World.frozen? at ha ⊢
  rw [← h]; exact ha
theorem froz_alloc {w : World} {o : Obj} (hc : cold o = true) (a : Addr) (ha : (w.alloc o).frozen? a = true) : w.frozen? a = true := by
  by_cases h : a.block = w.heap.size
  · have e : (w.alloc o).heap[a.block]? = some o := by rw [h]; exact (MapKept.heap_alloc w _).1
    rw [cold_frozen e hc] at ha; cases ha
  · refine froz_block ?_ ha
    show (w.heap.push o)[a.block]? = w.heap[a.block]?
    rw [Array.getElem?_push, if_neg h]
theorem froz_setRow {w : World} {b : Nat} {c : Array Value} (a : Addr) (ha : (w.setRow b c).frozen? a = true) : w.frozen? a = true := by
  by_cases h : a.block = b
  · subst h
    unfold World.frozen? World.setRow at ha
    simp only [Array.getElem?_modify, if_true] at ha
    unfold World.frozen?
    cases hw : w.heap[a.block]? with
    | none => rw [hw] at ha; simp at ha
    | some o =>
      rw [hw] at ha
      cases o <;> simp_all
  · exact froz_block (setRow_other w b a.block c h) ha
theorem froz_heap {w w' : World} (hh : w'.heap = w.heap) (a : Addr) (ha : w'.frozen? a = true) : w.frozen? a = true := froz_block (by rw [hh]) ha
/-- A store of which less is known, or the same in another order. -/
theorem MemSim.sub {B : Base} {G : Gh} {w : World} {σ σ' : Store} (h : MemSim B G w σ) (hs : ∀ k o, sget σ' k = some o → sget σ k = some o) : MemSim B G w σ' where
  hF := h.hF
  hF0 := h.hF0
  obj k o hk := h.obj k o (hs k o hk)
  sepF b hb := h.sepF b (by obtain ⟨k, o, L, hk, hL⟩ := hb; exact ⟨k, o, L, hs k o hk, hL⟩)
  sep k k' o o' L L' b hk hk' := h.sep k k' o o' L L' b (hs _ _ hk) (hs _ _ hk')
  own b hb := h.own b (by obtain ⟨k, o, L, hk, hL⟩ := hb; exact ⟨k, o, L, hs k o hk, hL⟩)
  fin := h.fin
  os := h.os
  tape := h.tape
  output := h.output
  size := h.size
  keep := h.keep
  fz := h.fz

/-- A world whose memory is the same (a draw). -/
theorem MemSim.same {B : Base} {G : Gh} {w w' : World} {σ : Store} (h : MemSim B G w σ) (hh : w'.heap = w.heap) (ho : w'.os = w.os) (ht : w'.tape = w.tape) (hu : w'.output = w.output) : MemSim B G w' σ where
  hF b o u hf := by rw [rdm_same hh]; exact h.hF b o u hf
  hF0 := h.hF0
  obj k o hk := by obtain ⟨L, hL, hr⟩ := h.obj k o hk; exact ⟨L, hL, hr.mono (Gh.le_refl G) (fun b _ => by rw [hh])⟩
  sepF := h.sepF
  sep := h.sep
  own := h.own
  fin := h.fin
  os := ho.trans h.os
  tape := ht.trans h.tape
  output := hu.trans h.output
  size := by rw [hh]; exact h.size
  keep b hb hn := by rw [hh]; exact h.keep b hb hn
  fz a ha := h.fz a (froz_heap hh a ha)

def Gh.put (G : Gh) (k : Key) (ver : Nat) (L : Loc) : Gh := { G with io := fun k' v' => if k' = k ∧ v' = ver then some L else G.io k' v' }
theorem Gh.put_same (G : Gh) (k : Key) (ver : Nat) (L : Loc) : (G.put k ver L).io k ver = some L := by simp [Gh.put]
theorem Gh.put_other (G : Gh) (k : Key) (ver : Nat) (L : Loc) {k' : Key} {v' : Nat} (h : ¬ (k' = k ∧ v' = ver)) : (G.put k ver L).io k' v' = G.io k' v' := by simp only [Gh.put, if_neg h]
theorem Gh.le_put {G : Gh} {k : Key} {ver : Nat} {L : Loc} (h : G.io k ver = none) : G.le (G.put k ver L) :=
  ⟨fun _ _ _ e => e, fun k' v' L' e => by rw [Gh.put_other]; exact e; rintro ⟨rfl, rfl⟩; rw [h] at e; cases e⟩

/-- A new object in a new block. -/
theorem MemSim.new {B : Base} {G : Gh} {w : World} {σ : Store} (h : MemSim B G w σ) {k : Key} {ver : Nat} (hv : G.io k ver = none) (c : Array Value) (ty : TypeId) (rs : List (List AV)) (esz cap : Nat)
    (hcap : rs.length ≤ cap) (hsz : cap * esz ≤ c.size) (hz : ∀ (i : Nat) (cs : List AV), rs[i]? = some cs → cs.length = esz)
    (hc : ∀ (i : Nat) (cs : List AV) (j : Nat) (x : AV), rs[i]? = some cs → cs[j]? = some x → ∃ u, c[i * esz + j]? = some u ∧ ARep G x u) :
    MemSim B (G.put k ver ⟨some w.heap.size, esz, cap⟩) (w.alloc (.cells c ty)) (sset σ k ⟨ver, .rows esz rs⟩) := by
  have hle := Gh.le_put (L := ⟨some w.heap.size, esz, cap⟩) hv
  have hold : ∀ b, b < w.heap.size → (w.alloc (.cells c ty)).heap[b]? = w.heap[b]? := fun b hb => Below.heap_alloc _ _ _ hb
  have hnew : (w.alloc (.cells c ty)).heap[w.heap.size]? = some (.cells c ty (0, 0)) := by show (w.heap.push _)[w.heap.size]? = _; simp
  have hlive : ∀ b, Live (G.put k ver ⟨some w.heap.size, esz, cap⟩) (sset σ k ⟨ver, .rows esz rs⟩) b → b = w.heap.size ∨ Live G σ b := by
    rintro b ⟨k', o, L, hk, hL, hb⟩
    rw [sget_sset] at hk
    split at hk
    · rename_i e; subst e; cases hk
      rw [Gh.put_same] at hL; cases hL
      left; simpa using hb.symm
    · rename_i e
      right
      rw [Gh.put_other _ _ _ _ (fun h => e h.1.symm)] at hL
      exact ⟨k', o, L, hk, hL, hb⟩
  exact
  { hF := fun b o u hf => by
      rw [rdm_alloc_lt _ (h.cell_lt hf)]; exact h.hF b o u hf
    hF0 := h.hF0
    obj := fun k' o hk => by
      rw [sget_sset] at hk
      split at hk
      · rename_i e; subst e; cases hk
        refine ⟨_, Gh.put_same _ _ _ _, rfl, hcap, hz, c, ty, hnew, hsz, fun i cs j x a b => ?_⟩
        obtain ⟨u, hu, hr⟩ := hc i cs j x a b
        exact ⟨u, hu, hr.mono hle⟩
      · rename_i e
        obtain ⟨L, hL, hr⟩ := h.obj k' o hk
        exact ⟨L, hle.io _ _ _ hL, hr.mono hle (fun b hb => hold b (hr.lt hb))⟩
    sepF := fun b hb o => by
      rcases hlive b hb with rfl | hb
      · cases hf : G.F w.heap.size o with
        | none => exact hf
        | some u => have := h.cell_lt hf; omega
      · exact h.sepF b hb o
    sep := fun k1 k2 o1 o2 L1 L2 b h1 h2 e1 e2 b1 b2 => by
      rw [sget_sset] at h1 h2
      split at h1 <;> split at h2
      · rename_i a1 a2; exact a1.symm.trans a2
      · rename_i a1 a2
        subst a1; cases h1
        rw [Gh.put_same] at e1; cases e1
        rw [Gh.put_other _ _ _ _ (fun h => a2 h.1.symm)] at e2
        simp at b1; subst b1
        have := h.live_lt ⟨k2, o2, L2, h2, e2, b2⟩
        omega
      · rename_i a1 a2
        subst a2; cases h2
        rw [Gh.put_same] at e2; cases e2
        rw [Gh.put_other _ _ _ _ (fun h => a1 h.1.symm)] at e1
        simp at b2; subst b2
        have := h.live_lt ⟨k1, o1, L1, h1, e1, b1⟩
        omega
      · rename_i a1 a2
        rw [Gh.put_other _ _ _ _ (fun h => a1 h.1.symm)] at e1
        rw [Gh.put_other _ _ _ _ (fun h => a2 h.1.symm)] at e2
        exact h.sep k1 k2 o1 o2 L1 L2 b h1 h2 e1 e2 b1 b2
    own := fun b hb => by
      rcases hlive b hb with rfl | hb
      · exact .inr h.size
      · exact h.own b hb
    fin := by
      obtain ⟨N, hN⟩ := h.fin
      refine ⟨max N (ver + 1), fun k' v' hv' => ?_⟩
      rw [Gh.put_other]
      · exact hN k' v' (by omega)
      · rintro ⟨_, rfl⟩; omega
    os := h.os
    tape := h.tape
    output := h.output
    size := by simp; have := h.size; omega
    keep := fun b hb hn => by rw [hold b (Nat.lt_of_lt_of_le hb h.size)]; exact h.keep b hb hn
    fz := fun a ha => h.fz a (froz_alloc rfl a ha) }

theorem Keeps.alloc (S : Nat → Prop) (w : World) (o : Obj) (hc : cold o = true := by rfl) : Keeps S w (w.alloc o) := ⟨rfl, rfl, rfl, by simp, fun b hb _ => Below.heap_alloc _ _ _ hb, froz_alloc hc⟩
theorem Keeps.setRow {S : Nat → Prop} {b : Nat} (hS : S b) (w : World) (c : Array Value) : Keeps S w (w.setRow b c) :=
  ⟨rfl, rfl, rfl, by simp, fun k _ hn => setRow_other w b k c (fun e => hn (e ▸ hS)), froz_setRow⟩

/-- An object is written: the block stays the same (the version may be another one). -/
theorem MemSim.write {B : Base} {G G' : Gh} {w : World} {σ : Store} (h : MemSim B G w σ) {k : Key} {ver ver' esz : Nat} {rs rs' : List (List AV)} {L : Loc} {b : Nat} {c c' : Array Value} {ty : TypeId}
    (hk : sget σ k = some ⟨ver, .rows esz rs⟩) (hL : G.io k ver = some L) (hb : L.blk = some b) (hG : G.le G') (hGF : G'.F = G.F) (hGo : ∀ k' v', k' ≠ k → G'.io k' v' = G.io k' v') (hGk : G'.io k ver' = some L)
    (hfin : ∃ N, ∀ k v, N ≤ v → G'.io k v = none)
    (hc : w.heap[b]? = some (.cells c ty (0, 0))) (hlen : rs'.length ≤ L.cap) (hz : ∀ (i : Nat) (cs : List AV), rs'[i]? = some cs → cs.length = esz) (hsz : c'.size = c.size)
    (hx : ∀ (i : Nat) (cs : List AV) (j : Nat) (x : AV), rs'[i]? = some cs → cs[j]? = some x → ∃ u, c'[i * esz + j]? = some u ∧ ARep G' x u) :
    MemSim B G' (w.setRow b c') (sset σ k ⟨ver', .rows esz rs'⟩) := by
  have hlb : Live G σ b := ⟨k, _, L, hk, hL, hb⟩
  have hlive : ∀ b', Live G' (sset σ k ⟨ver', .rows esz rs'⟩) b' → Live G σ b' := by
    rintro b' ⟨k', o, L', hk', hL', hb'⟩
    rw [sget_sset] at hk'
    split at hk'
    · rename_i e; subst e; cases hk'
      rw [hGk] at hL'; cases hL'
      rw [hb] at hb'; cases hb'; exact hlb
    · rename_i e
      rw [hGo _ _ (fun h => e h.symm)] at hL'
      exact ⟨k', o, L', hk', hL', hb'⟩
  have hR : BodyRep G w L (.rows esz rs) := by
    obtain ⟨L', hL', hr⟩ := h.obj k _ hk
    rw [hL] at hL'; cases hL'; exact hr
  exact
  { hF := fun b' o u hf => by
      rw [hGF] at hf
      rw [rdm_setRow_other (fun e => by subst e; rw [h.sepF _ hlb] at hf; cases hf)]
      exact h.hF b' o u hf
    hF0 := fun b' o u hf => by rw [hGF] at hf; exact h.hF0 b' o u hf
    obj := fun k' o hk' => by
      rw [sget_sset] at hk'
      split at hk'
      · rename_i e; subst e; cases hk'
        obtain ⟨h1, h2, h3, h4⟩ := hR
        refine ⟨L, hGk, h1, hlen, hz, ?_⟩
        rw [hb] at h4 ⊢
        obtain ⟨c0, ty0, hc0, hs0, _⟩ := h4
        rw [hc] at hc0; cases hc0
        exact ⟨c', ty, setRow_heap w b c c' ty _ hc, by rw [hsz]; exact hs0, hx⟩
      · rename_i e
        obtain ⟨L', hL', hr⟩ := h.obj k' o hk'
        refine ⟨L', hG.io _ _ _ hL', hr.mono hG (fun b' hb' => setRow_other _ _ _ _ ?_)⟩
        rintro rfl
        exact e (h.sep k k' _ o L L' b' hk hk' hL hL' hb hb')
    sepF := fun b' hb' o => by rw [hGF]; exact h.sepF b' (hlive b' hb') o
    sep := fun k1 k2 o1 o2 L1 L2 b' h1 h2 e1 e2 b1 b2 => by
      rw [sget_sset] at h1 h2
      split at h1 <;> split at h2
      · rename_i a1 a2; exact a1.symm.trans a2
      · rename_i a1 a2
        subst a1; cases h1
        rw [hGk] at e1; cases e1
        rw [hGo _ _ (fun h => a2 h.symm)] at e2
        exact h.sep k k2 _ o2 _ L2 b' hk h2 hL e2 b1 b2
      · rename_i a1 a2
        subst a2; cases h2
        rw [hGk] at e2; cases e2
        rw [hGo _ _ (fun h => a1 h.symm)] at e1
        exact h.sep k1 k o1 _ L1 _ b' h1 hk e1 hL b1 b2
      · rename_i a1 a2
        rw [hGo _ _ (fun h => a1 h.symm)] at e1
        rw [hGo _ _ (fun h => a2 h.symm)] at e2
        exact h.sep k1 k2 o1 o2 L1 L2 b' h1 h2 e1 e2 b1 b2
    own := fun b' hb' => h.own b' (hlive b' hb')
    fin := hfin
    os := h.os
    tape := h.tape
    output := h.output
    size := by simp; exact h.size
    fz := fun a ha => h.fz a (froz_setRow a ha)
    keep := fun b' hb' hn => by
      rw [setRow_other _ _ _ _ (fun e => by
        subst e
        rcases h.own _ hlb with h1 | h1
        · exact hn h1
        · omega)]
      exact h.keep b' hb' hn }
end Go.Am
/- The lowered code, how it is made out of the model's, and what its operations mean on abstract values. -/
namespace Go.Am
open Go.RowKit

/-- An operand. -/
inductive X where
  | t (i : Nat)
  | c (v : AV)
  deriving Inhabited
def aev (fr : List AV) : X → AV
  | .t i => fr.getD i .bot
  | .c v => v

/-- How two values of a type are held against one another. -/
inductive EqT where
  | plain
  | bool
  | ptr
  | func
  | slice
  | agg (ls : List (Nat × Nat))
  | no

/-- A lowered operation. -/
inductive LO where
  | mv (x : X)
  | pick (c a b : X)
  | alloc (z : List AV)
  | box (x : X)
  | build (z : List AV) (ps : List (Nat × Nat × X))
  | bslice (esz : Nat) (z : List AV) (len : Nat) (ps : List (Nat × X))
  | load (agg : Bool) (n : Nat) (a : X)
  | store (n : Nat) (a x : X)
  | nilck (x : X)
  | bin (op : BinOp) (e : EqT) (x y : X)
  | un (op : UnOp) (x : X)
  | conv (k : IntKind) (x : X)
  | mkfn (f : Nat) (first caps : List X)
  | slice (str : Bool) (esz : Nat) (x : X) (lo hi mx : Option X)
  | fieldAddr (d : Nat) (x : X)
  | field (agg : Bool) (off n : Nat) (x : X)
  | indexAddr (arr : Option Nat) (esz : Nat) (x i : X)
  | index (arr : Option (Nat × Bool × Nat)) (x i : X)
  | extract (x : X) (i : Nat)
  | len (arr : Option Nat) (str : Bool) (x : X)
  | append (esz bytes : Nat) (x y : X)
  | minmax (mx : Bool) (xs : List X)
  | mkmap
  | mapup (e : EqT) (n : Nat) (m k x : X)
  | lookup (e : EqT) (n : Nat) (z : AV) (ok : Bool) (m k : X)
  | lenm (x : X)
  | clear (esz : Nat) (z : List AV) (x : X)
  | call (f : Nat) (args : List X)
  | callv (f : X) (args : List X)
  | die
def LO.xs : LO → List X
  | .mv x | .box x | .load _ _ x | .nilck x | .un _ x | .conv _ x | .fieldAddr _ x | .field _ _ _ x | .extract x _ | .len _ _ x => [x]
  | .pick c a b => [c, a, b]
  | .alloc _ | .die | .mkmap => []
  | .mapup _ _ m k x => [m, k, x]
  | .lookup _ _ _ _ m k => [m, k]
  | .lenm x | .clear _ _ x => [x]
  | .build _ ps => ps.map (·.2.2)
  | .bslice _ _ _ ps => ps.map (·.2)
  | .store _ a x | .bin _ _ a x | .indexAddr _ _ a x | .index _ a x | .append _ _ a x => [a, x]
  | .mkfn _ f c => f ++ c
  | .slice _ _ x l h m => x :: (l.toList ++ h.toList ++ m.toList)
  | .call _ as0 | .minmax _ as0 => as0
  | .callv f as0 => f :: as0

structure LOper where
  dst : Option Nat
  op : LO
  g : Option (Nat × Bool)
  /-- of a region that draws: which operations go ahead -/
  af : List Nat

/-! ### Lowering -/
def ofV1 : Value → Option AV
  | .bool b => some (.b b)
  | .int k n => some (.i k n)
  | .string s => some (.s s)
  | .pointer none => some .nilp
  | .nilFunc => some .nilf
  | .slice none 0 0 => some .esl
  | .map none => some .nilm
  | .func (.func f) a c => if a.size = 0 ∧ c.size = 0 then some (.fn f [] []) else none
  | _ => none
def ofV : Value → Option AV
  | .agg cs => (cs.toList.mapM ofV1).map .ag
  | v => ofV1 v
def lowX : Operand → Option X
  | .tmp t => some (.t t)
  | .const v => (ofV v).map .c
  | .func f => some (.c (.fn f [] []))
  | .global _ => none
def szOf (P : Program) (t : TypeId) : Option Nat := (P.info? t).map (·.size)
def byOf (P : Program) (t : TypeId) : Option Nat := (P.info? t).map (·.bytes)
def zeroOf (P : Program) (t : TypeId) : Option (List AV) := do
  let i ← P.info? t
  let z ← i.zero
  z.cells.toList.mapM ofV1
def aggT (P : Program) (t : TypeId) : Option Bool := (P.underlying t).map fun | .struct _ => true | .array _ _ => true | _ => false
def eqFieldWith (P : Program) (rec : TypeId → Option (List (Nat × Nat))) (f : Field) : Option (List (Nat × Nat)) :=
  if f.name == "_" then none else
  match szOf P f.type with
  | none => none
  | some n =>
    match rec f.type with
    | none => none
    | some ls => if ls.all (·.1 < n) then some (ls.map fun p => (f.offset + p.1, p.2)) else none
/-- The places of the cells that '==' looks at; none where one of them is not plain. -/
def eqLeaves (P : Program) : Nat → TypeId → Option (List (Nat × Nat))
  | 0, _ => none
  | d + 1, t =>
    match P.underlying t with
    | some .bool => some [(0, 0)]
    | some (.int _) => some [(0, 1)]
    | some .string => some [(0, 2)]
    | some (.struct fs) => if P.stoodInHeld t then none else (fs.toList.mapM (eqFieldWith P (eqLeaves P d))).map List.flatten
    | _ => none
def eqTOf (P : Program) (t : TypeId) : EqT :=
  match P.underlying t with
  | some (.int _) | some .string => .plain
  | some .bool => .bool
  | some (.pointer _) => .ptr
  | some (.func _ _ _) => .func
  | some (.slice _) => .slice
  | some (.struct _) => if P.eqGuardType P.depth t then .no else match eqLeaves P 50 t with
    | some ls => .agg ls
    | none => .no
  | _ => .no
def isBasic (P : Program) (t : TypeId) : Bool := match P.underlying t with | some (.int _) | some .string | some .bool => true | _ => false
/-- What a map's keys are: bools, integers, strings, or structs of so many cells of such. -/
def kdOf (P : Program) (t : TypeId) : Option Nat :=
  match P.underlying t with
  | some .bool => some 0
  | some (.int _) => some 1
  | some .string => some 2
  | some (.struct fs) =>
    match eqTOf P t, szOf P t with
    | .agg _, some n => if fs.toList.all (fun f => isBasic P f.type && decide (f.offset < n)) = true then some (n + 3) else none
    | _, _ => none
  | _ => none
def zeroV (P : Program) (t : TypeId) : Option AV :=
  match P.info? t with
  | some i => i.zero.bind ofV
  | none => none
def lowXO : Option Operand → Option (Option X)
  | none => some none
  | some l => (lowX l).map some
def lowPartS (P : Program) (fs : Array Field) (p : Nat × Operand) : Option (Nat × Nat × X) :=
  match fs[p.1]? with
  | none => none
  | some f =>
    match szOf P f.type, lowX p.2 with
    | some n, some x => some (f.offset, n, x)
    | _, _ => none
def lowPartA (n : Nat) (p : Nat × Operand) : Option (Nat × Nat × X) := (lowX p.2).map fun x => (p.1 * n, n, x)
def lowPartR (p : Nat × Operand) : Option (Nat × X) := (lowX p.2).map fun x => (p.1, x)
def lowOp (P : Program) (o : Op) (_type : TypeId) : Option LO :=
  match o with
  | .move x | .assign x => (lowX x).map .mv
  | .pick c a b => do some (.pick (← lowX c) (← lowX a) (← lowX b))
  | .alloc elem => (zeroOf P elem).map .alloc
  | .box _ x => (lowX x).map .box
  | .build t ps =>
    match P.underlying t with
    | some (.struct fs) => do
      let z ← zeroOf P t
      let qs ← ps.toList.mapM (lowPartS P fs)
      let _ ← fs.toList.mapM fun f => szOf P f.type
      some (.build z qs)
    | some (.array _ e) => do
      let z ← zeroOf P t
      let n ← szOf P e
      let qs ← ps.toList.mapM (lowPartA n)
      some (.build z qs)
    | _ => none
  | .buildSlice t len ps =>
    match P.underlying t with
    | some (.slice e) => do
      let n ← szOf P e
      let z ← zeroOf P e
      let qs ← ps.toList.mapM lowPartR
      if z.length = n ∧ 0 < n ∧ len * n ≤ 2 ^ 24 then some (.bslice n z len qs) else none
    | _ => none
  | .load t a => do some (.load (← aggT P t) (← szOf P t) (← lowX a))
  | .store t a x => do some (.store (← szOf P t) (← lowX a) (← lowX x))
  | .nilCheck x => (lowX x).map .nilck
  | .binOp op t x y _ => do some (.bin op (eqTOf P t) (← lowX x) (← lowX y))
  | .unOp op _ x => (lowX x).map (.un op)
  | .convert s d x =>
    match P.underlying s, P.underlying d with
    | some (.int _), some (.int k) => (lowX x).map (.conv k)
    | _, _ => none
  | .makeFunc (.func f) first caps => do some (.mkfn f (← first.toList.mapM lowX) (← caps.toList.mapM lowX))
  | .slice t x lo hi mx => do
    let x ← lowX x
    let lo ← lowXO lo
    let hi ← lowXO hi
    let mx ← lowXO mx
    match P.underlying t with
    | some .string => some (.slice true 1 x lo hi mx)
    | some (.slice e) => some (.slice false (← szOf P e) x lo hi mx)
    | _ => none
  | .fieldAddr s x f =>
    match P.underlying s with
    | some (.struct fs) => do
      let f ← fs[f]?
      let n ← szOf P f.type
      if n = 0 then none else some (.fieldAddr f.offset (← lowX x))
    | _ => none
  | .field s x f =>
    match P.underlying s with
    | some (.struct fs) => do
      let f ← fs[f]?
      some (.field (← aggT P f.type) f.offset (← szOf P f.type) (← lowX x))
    | _ => none
  | .indexAddr t x i =>
    match P.underlying t with
    | some (.slice e) => do some (.indexAddr none (← szOf P e) (← lowX x) (← lowX i))
    | some (.array n e) => do some (.indexAddr (some n) (← szOf P e) (← lowX x) (← lowX i))
    | _ => none
  | .index t x i =>
    match P.underlying t with
    | some .string => do some (.index none (← lowX x) (← lowX i))
    | some (.array n e) => do some (.index (some (n, ← aggT P e, ← szOf P e)) (← lowX x) (← lowX i))
    | _ => none
  | .extract x i => do some (.extract (← lowX x) i)
  | .call { callee := .value f, args, .. } => do
    let as0 ← args.toList.mapM lowX
    match f with
    | .func f => some (.call f as0)
    | f => some (.callv (← lowX f) as0)
  | .call { callee := .builtin .len, args, argTypes } =>
    match args.toList, argTypes.toList with
    | [x], [t] =>
      match P.underlying t with
      | some .string => do some (.len none true (← lowX x))
      | some (.slice _) => do some (.len none false (← lowX x))
      | some (.array n _) => do some (.len (some n) false (← lowX x))
      | some (.map _ _) => do some (.lenm (← lowX x))
      | _ => none
    | _, _ => none
  | .call { callee := .builtin .append, args, argTypes } =>
    match args.toList, argTypes.toList with
    | [x, y], [t, t'] =>
      match P.underlying t, P.underlying t' with
      | some (.slice e), some (.slice _) => do
        let z ← zeroOf P e
        let n ← szOf P e
        if z.length = n ∧ 0 < n ∧ 0 < (← byOf P e) ∧ t = t' then some (.append n (← byOf P e) (← lowX x) (← lowX y)) else none
      | _, _ => none
    | _, _ => none
  | .call { callee := .builtin .max, args, .. } => do some (.minmax true (← args.toList.mapM lowX))
  | .call { callee := .builtin .min, args, .. } => do some (.minmax false (← args.toList.mapM lowX))
  | .call { callee := .builtin .clear, args, argTypes } =>
    match args.toList, argTypes.toList with
    | [x], [t] =>
      match P.underlying t with
      | some (.slice e) => do
        let z ← zeroOf P e
        let n ← szOf P e
        if z.length = n then some (.clear n z (← lowX x)) else none
      | _ => none
    | _, _ => none
  | .panic _ | .makeInterface .. => some .die
  | .makeMap t none => match P.underlying t with | some (.map _ _) => some .mkmap | _ => none
  | .mapUpdate t m k x =>
    match P.underlying t with
    | some (.map kt _) => do some (.mapup (eqTOf P kt) (← kdOf P kt) (← lowX m) (← lowX k) (← lowX x))
    | _ => none
  | .lookup t m k ok =>
    match P.underlying t with
    | some (.map kt et) => do some (.lookup (eqTOf P kt) (← kdOf P kt) (← zeroV P et) ok (← lowX m) (← lowX k))
    | _ => none
  | _ => none

/-! ### What the operations mean -/
def acut (agg : Bool) (n : Nat) (cs : List AV) (off : Nat) : Option AV :=
  if agg then (if off + n ≤ cs.length then some (.ag ((cs.drop off).take n)) else none) else cs[off]?
def aobj (σ : Store) (k : Key) (kv i : Nat) : Option (List AV) :=
  match sget σ k with
  | some ⟨kv', .rows _ rs⟩ => if kv' = kv then rs[i]? else none
  | _ => none
def aload (σ : Store) (agg : Bool) (n : Nat) : AV → Option (AV × List Key)
  | .ref cs off => (acut agg n cs off).map fun v => (v, [])
  | .ptr k kv i off => ((aobj σ k kv i).bind (acut agg n · off)).map fun v => (v, [k])
  | _ => none
def AV.one : AV → Bool
  | .bot | .ag _ | .tu _ => false
  | _ => true
def astore (σ : Store) (n : Nat) (a x : AV) : Option (List Key × List (Key × AO)) :=
  match a, x.cells with
  | .ptr k kv i off, some xs =>
    match sget σ k with
    | some ⟨kv', .rows esz rs⟩ =>
      match rs[i]? with
      | some cs => if kv' = kv ∧ xs.length = n ∧ off + n ≤ cs.length ∧ xs.all AV.one = true then some ([k], [(k, ⟨kv, .rows esz (rs.set i (cs.take off ++ xs ++ cs.drop (off + n)))⟩)]) else none
      | none => none
    | _ => none
  | _, _ => none
def abinI (op : BinOp) (k : IntKind) (a b : Int) : Option AV :=
  match op with
  | .add => some (.i k (k.wrap (a + b)))
  | .sub => some (.i k (k.wrap (a - b)))
  | .mul => some (.i k (k.wrap (a * b)))
  | .quo => if b = 0 then none else some (.i k (k.wrap (a.tdiv b)))
  | .rem => if b = 0 then none else some (.i k (a.tmod b))
  | .and => some (.i k (k.wrap ((BitVec.ofInt k.bits a &&& BitVec.ofInt k.bits b).toNat : Int)))
  | .or => some (.i k (k.wrap ((BitVec.ofInt k.bits a ||| BitVec.ofInt k.bits b).toNat : Int)))
  | .xor => some (.i k (k.wrap ((BitVec.ofInt k.bits a ^^^ BitVec.ofInt k.bits b).toNat : Int)))
  | .andNot => some (.i k (k.wrap ((BitVec.ofInt k.bits a &&& ~~~BitVec.ofInt k.bits b).toNat : Int)))
  | .eql => some (.b (a == b))
  | .neq => some (.b (a != b))
  | .lss => some (.b (decide (a < b)))
  | .leq => some (.b (decide (a ≤ b)))
  | .gtr => some (.b (decide (a > b)))
  | .geq => some (.b (decide (a ≥ b)))
  | _ => none
def abinS (op : BinOp) (x y : ByteArray) : Option AV :=
  match op with
  | .add => if x.size + y.size ≤ 9223372036854775807 then some (.s (x ++ y)) else none
  | .eql => some (.b (x.toList == y.toList))
  | .neq => some (.b (!(x.toList == y.toList)))
  | _ => none
def aeq1 : Nat → AV → AV → Option Bool
  | 0, .b a, .b b => some (a == b)
  | 1, .i k a, .i k' b => if k = k' then some (a == b) else none
  | 2, .s a, .s b => some (a == b)
  | _, _, _ => none
def aeqL (xs ys : List AV) : List (Nat × Nat) → Option Bool
  | [] => some true
  | (o, q) :: r => do
    let x ← xs[o]?
    let y ← ys[o]?
    let c ← aeq1 q x y
    let d ← aeqL xs ys r
    some (c && d)
def aeqn (op : BinOp) (r : Bool) : Option AV :=
  match op with
  | .eql => some (.b r)
  | .neq => some (.b (!r))
  | _ => none
def abin (op : BinOp) (e : EqT) (x y : AV) : Option AV :=
  match x, y with
  | .i k a, .i k' b =>
    match op with
    | .shl => if b < 0 then none else some (.i k (k.wrap (a * 2 ^ min b.toNat k.bits)))
    | .shr => if b < 0 then none else some (.i k (a.fdiv (2 ^ min b.toNat k.bits)))
    | op => if k = k' then abinI op k a b else none
  | .s a, .s b => abinS op a b
  | .b a, .b b => match e with | .bool => aeqn op (a == b) | _ => none
  | .nilp, .nilp => match e with | .ptr => aeqn op true | _ => none
  | .nilp, .ref _ _ | .nilp, .ptr _ _ _ _ | .ref _ _, .nilp | .ptr _ _ _ _, .nilp => match e with | .ptr => aeqn op false | _ => none
  | .nilf, .nilf => match e with | .func => aeqn op true | _ => none
  | .nilf, .fn _ _ _ | .fn _ _ _, .nilf => match e with | .func => aeqn op false | _ => none
  | .ag xs, .ag ys => match e with | .agg ls => (aeqL xs ys ls).bind (aeqn op) | _ => none
  | _, _ => none
def aun (op : UnOp) (x : AV) : Option AV :=
  match op, x with
  | .neg, .i k n => some (.i k (k.wrap (0 - n)))
  | .not, .b b => some (.b (!b))
  | _, _ => none
def afill (z : List AV) : List (Nat × Nat × AV) → Option (List AV)
  | [] => some z
  | (off, n, x) :: r => do
    let xs ← x.cells
    if xs.length = n ∧ off + n ≤ z.length then afill (z.take off ++ xs ++ z.drop (off + n)) r else none
def afillR (esz : Nat) (z : List (List AV)) : List (Nat × AV) → Option (List (List AV))
  | [] => some z
  | (i, x) :: r => do
    let xs ← x.cells
    if xs.length = esz ∧ i < z.length then afillR esz (z.set i xs) r else none
def aidx : AV → Option (Int)
  | .i _ n => some n
  | _ => none
def aindexAddr (σ : Store) (arr : Option Nat) (esz : Nat) (x i : AV) : Option (AV × List Key) :=
  match i with
  | .i _ n =>
    match arr, x with
    | none, .sl rows =>
      match rows[n.toNat]? with
      | some cs => if 0 ≤ n ∧ cs.length = esz then some (.ref cs 0, []) else none
      | none => none
    | none, .row k kv off len =>
      match sget σ k with
      | some ⟨kv', .rows esz' _⟩ => if kv' = kv ∧ esz' = esz ∧ 0 ≤ n ∧ n < len then some (.ptr k kv (off + n.toNat) 0, [k]) else none
      | _ => none
    | some m, .ref cs off => if 0 ≤ n ∧ n < m then some (.ref cs (off + n.toNat * esz), []) else none
    | some m, .ptr k kv i off => if 0 ≤ n ∧ n < m then some (.ptr k kv i (off + n.toNat * esz), []) else none
    | _, _ => none
  | _ => none
def aindex (arr : Option (Nat × Bool × Nat)) (x i : AV) : Option AV :=
  match arr, x, i with
  | none, .s s, .i _ n => if 0 ≤ n then (s[n.toNat]?).map fun b => .i .u8 b.toNat else none
  | some (m, agg, esz), .ag cs, .i _ n => if 0 ≤ n ∧ n < m then acut agg esz cs (n.toNat * esz) else none
  | _, _, _ => none
def abnd (d : Nat) : Option AV → Option Nat
  | none => some d
  | some (.i _ n) => if 0 ≤ n then some n.toNat else none
  | some _ => none
def asliceS (x : AV) (lo hi mx : Option AV) : Option AV :=
  match x, mx with
  | .s s, none => do
    let h ← abnd s.size hi
    let l ← abnd 0 lo
    if l ≤ h ∧ h ≤ s.size then some (.s (s.extract l h)) else none
  | _, _ => none
def asliceR (σ : Store) (esz : Nat) (x : AV) (lo hi : Option AV) : Option (AV × List Key) :=
  match x with
  | .sl rows => do
    let h ← abnd rows.length hi
    let l ← abnd 0 lo
    if l ≤ h ∧ h ≤ rows.length ∧ rows.all (·.length == esz) = true then some (.sl ((rows.take h).drop l), []) else none
  | .esl => do
    let h ← abnd 0 hi
    let l ← abnd 0 lo
    if l = 0 ∧ h = 0 then some (.esl, []) else none
  | .row k kv off len => do
    let h ← abnd len hi
    let l ← abnd 0 lo
    match sget σ k with
    | some ⟨kv', .rows esz' _⟩ => if l ≤ h ∧ h ≤ len ∧ kv' = kv ∧ esz' = esz then some (.row k kv (off + l) (h - l), [k]) else none
    | _ => none
  | _ => none
/-- x[:0:0] -/
def aslice0 (x : AV) (lo hi mx : Option AV) : Option AV := do
  let h ← abnd 1 hi
  let l ← abnd 0 lo
  let m ← abnd 1 mx
  match x with
  | .sl _ | .esl | .row _ _ _ _ => if l = 0 ∧ h = 0 ∧ m = 0 then some .esl else none
  | _ => none
def aslice (σ : Store) (str : Bool) (esz : Nat) (x : AV) (lo hi mx : Option AV) : Option (AV × List Key) :=
  if str then (asliceS x lo hi mx).map fun v => (v, []) else if mx.isSome then (aslice0 x lo hi mx).map fun v => (v, []) else asliceR σ esz x lo hi
def alen (arr : Option Nat) (str : Bool) (x : AV) : Option AV :=
  match arr, str, x with
  | some n, _, _ => some (.i .i64 n)
  | none, true, .s s => some (.i .i64 s.size)
  | none, false, .sl rows => some (.i .i64 rows.length)
  | none, false, .esl => some (.i .i64 0)
  | none, false, .row _ _ _ len => some (.i .i64 len)
  | _, _, _ => none
/-- The rows of a slice. -/
def arows (σ : Store) (esz : Nat) : AV → Option (List (List AV) × List Key)
  | .esl => some ([], [])
  | .sl rows => if rows.all (·.length == esz) then some (rows, []) else none
  | .row k kv off len =>
    match sget σ k with
    | some ⟨kv', .rows esz' rs⟩ => if kv' = kv ∧ esz' = esz ∧ off + len ≤ rs.length then some ((rs.drop off).take len, [k]) else none
    | _ => none
  | _ => none
def aappend (key : Key) (ver : Nat) (σ : Store) (esz bytes : Nat) (x y : AV) : Option (AV × List Key × List (Key × AO)) :=
  match arows σ esz y with
  | none => none
  | some (new, rd) =>
    if new.all (fun cs => cs.all AV.one) = true then
      match x with
      | .esl => if new.length * bytes ≤ 140737488355328 then some (.row key ver 0 new.length, rd, [(key, ⟨ver, .rows esz new⟩)]) else none
      | .row k kv off len =>
        match sget σ k with
        | some ⟨kv', .rows esz' rs⟩ => if kv' = kv ∧ esz' = esz ∧ off = 0 ∧ len = rs.length ∧ (len + new.length) * bytes ≤ 140737488355328 then some (.row k ver 0 (len + new.length), k :: rd, [(k, ⟨ver, .rows esz (rs ++ new)⟩)]) else none
        | _ => none
      | _ => none
    else none
def aclear (σ : Store) (esz : Nat) (z : List AV) (x : AV) : Option (AV × List Key × List (Key × AO)) :=
  match x with
  | .esl => some (.tu [], [], [])
  | .row k kv off len =>
    match sget σ k with
    | some ⟨kv', .rows esz' rs⟩ =>
      if len = 0 then some (.tu [], [k], [])
      else if kv' = kv ∧ esz' = esz ∧ off + len ≤ rs.length ∧ z.all AV.one = true then some (.tu [], [k], [(k, ⟨kv, .rows esz (rs.take off ++ List.replicate len z ++ rs.drop (off + len))⟩)]) else none
    | _ => none
  | _ => none
def aminmax (mx : Bool) : List AV → Option AV
  | [] => none
  | .i k a :: r => aminmaxI mx k a r
  | _ :: _ => none
where
  aminmaxI (mx : Bool) (k : IntKind) (a : Int) : List AV → Option AV
  | [] => some (.i k a)
  | .i _ b :: r => aminmaxI mx k (if mx then (if b > a then b else a) else (if b < a then b else a)) r
  | _ :: _ => none
def anilck : AV → Option AV
  | .ref cs off => some (.ref cs off)
  | .ptr k kv i off => some (.ptr k kv i off)
  | .fn f a c => some (.fn f a c)
  | _ => none
def afieldAddr (d : Nat) : AV → Option AV
  | .ref cs off => some (.ref cs (off + d))
  | .ptr k kv i off => some (.ptr k kv i (off + d))
  | _ => none
/-- Of two keys: are they the same, cell by cell? -/
def akeq1 : AV → AV → Bool
  | .b a, .b b => a == b
  | .i k a, .i k' b => decide (k = k') && a == b
  | .s a, .s b => a == b
  | _, _ => false
def akeqL : List AV → List AV → Bool
  | [], [] => true
  | x :: xs, y :: ys => akeq1 x y && akeqL xs ys
  | _, _ => false
def akeq : AV → AV → Bool
  | .ag xs, .ag ys => akeqL xs ys
  | x, y => akeq1 x y
def akok (n : Nat) (x : AV) : Bool :=
  match n, x with
  | 0, .b _ => true
  | 1, .i _ _ => true
  | 2, .s _ => true
  | m + 3, .ag xs => xs.length == m
  | _, _ => false
/-- Where a key lies among a map's keys. -/
def amfind (e : EqT) (x : AV) : List AV → Nat → Option (Option Nat)
  | [], _ => some none
  | y :: r, i =>
    match abin .eql e x y with
    | some (.b true) => if akeq y x then some (some i) else none
    | some (.b false) => amfind e x r (i + 1)
    | _ => none
def amap (σ : Store) : AV → Option (List AV × List AV × List Key)
  | .nilm => some ([], [], [])
  | .mp ks vs => some (ks, vs, [])
  | .mpr q qv =>
    match sget σ q with
    | some ⟨qv', .map ks vs⟩ => if qv' = qv then some (ks, vs, [q]) else none
    | _ => none
  | _ => none
def amapup (σ : Store) (e : EqT) (n : Nat) (m k x : AV) : Option (AV × List Key × List (Key × AO)) :=
  match m with
  | .mpr q qv =>
    match sget σ q with
    | some ⟨qv', .map ks vs⟩ =>
      if qv' = qv ∧ akok n k = true then
        match amfind e k ks 0 with
        | some (some j) => some (.bot, [q], [(q, ⟨qv, .map (ks.set j k) (vs.set j x)⟩)])
        | some none => some (.bot, [q], [(q, ⟨qv, .map (ks ++ [k]) (vs ++ [x])⟩)])
        | none => none
      else none
    | _ => none
  | _ => none
/-- What a map has at a key; else z. -/
def amlook (e : EqT) (z k : AV) (ks vs : List AV) : Option (AV × Bool) :=
  match amfind e k ks 0 with
  | some (some j) => (vs[j]?).map fun x => (x, true)
  | some none => some (z, false)
  | none => none
def alookup (σ : Store) (e : EqT) (n : Nat) (z : AV) (ok : Bool) (m k : AV) : Option (AV × List Key) :=
  match amap σ m with
  | some (ks, vs, rd) => if akok n k = true then (amlook e z k ks vs).map fun p => (if ok then .tu [p.1, .b p.2] else p.1, rd) else none
  | none => none
def val (v : Option AV) : Option (AV × List Key × List (Key × AO)) := v.map fun v => (v, [], [])
/-- One operation that calls nothing: its value, the objects that it reads, the objects as they are behind it. -/
def astep (key : Key) (ver : Nat) (fr : List AV) (σ : Store) : LO → Option (AV × List Key × List (Key × AO))
  | .mv x => some (aev fr x, [], [])
  | .pick c a b => match aev fr c with | .b x => some (if x then aev fr a else aev fr b, [], []) | _ => none
  | .alloc z => some (.ptr key ver 0 0, [], [(key, ⟨ver, .rows z.length [z]⟩)])
  | .box x => (aev fr x).cells.map fun cs => (.ptr key ver 0 0, [], [(key, ⟨ver, .rows cs.length [cs]⟩)])
  | .build z ps => val ((afill z (ps.map fun p => (p.1, p.2.1, aev fr p.2.2))).map .ag)
  | .bslice esz z len ps => (afillR esz (List.replicate len z) (ps.map fun p => (p.1, aev fr p.2))).map fun rs => (.row key ver 0 len, [], [(key, ⟨ver, .rows esz rs⟩)])
  | .load agg n a => (aload σ agg n (aev fr a)).map fun p => (p.1, p.2, [])
  | .store n a x => (astore σ n (aev fr a) (aev fr x)).map fun p => (.bot, p.1, p.2)
  | .nilck x => val (anilck (aev fr x))
  | .bin op e x y => val (abin op e (aev fr x) (aev fr y))
  | .un op x => val (aun op (aev fr x))
  | .conv k x => match aev fr x with | .i _ n => some (.i k (k.wrap n), [], []) | _ => none
  | .mkfn f a c => some (.fn f (a.map (aev fr)) (c.map (aev fr)), [], [])
  | .slice str esz x lo hi mx => (aslice σ str esz (aev fr x) (lo.map (aev fr)) (hi.map (aev fr)) (mx.map (aev fr))).map fun p => (p.1, p.2, [])
  | .fieldAddr d x => val (afieldAddr d (aev fr x))
  | .field agg off n x => match aev fr x with | .ag cs => val (acut agg n cs off) | _ => none
  | .indexAddr arr esz x i => (aindexAddr σ arr esz (aev fr x) (aev fr i)).map fun p => (p.1, p.2, [])
  | .index arr x i => val (aindex arr (aev fr x) (aev fr i))
  | .extract x i => match aev fr x with | .tu vs => val (vs[i]?) | _ => none
  | .len arr str x => val (alen arr str (aev fr x))
  | .append esz by_ x y => aappend key ver σ esz by_ (aev fr x) (aev fr y)
  | .minmax mx xs => val (aminmax mx (xs.map (aev fr)))
  | .mkmap => some (.mpr key ver, [], [(key, ⟨ver, .map [] []⟩)])
  | .mapup e n m k x => amapup σ e n (aev fr m) (aev fr k) (aev fr x)
  | .lookup e n z ok m k => (alookup σ e n z ok (aev fr m) (aev fr k)).map fun p => (p.1, p.2, [])
  | .lenm x => (amap σ (aev fr x)).map fun p => (.i .i64 p.1.length, p.2.2, [])
  | .clear esz z x => aclear σ esz z (aev fr x)
  | .call _ _ | .callv _ _ | .die => none
end Go.Am
/- The operations that read and write no live object: each comes to what 'astep' says. -/
namespace Go.Am
open Go.RowKit
set_option linter.unusedSimpArgs false
set_option linter.unusedVariables false

/-- What an operation comes to. -/
def Res (B : Base) (G : Gh) (w : World) (σ : Store) (ver : Nat) (r : Result Next) (v : AV) (wr : List (Key × AO)) : Prop :=
  ∃ u G' w', (r = .ok (.value u) w' ∨ (r = .ok .skip w' ∧ u = undef)) ∧ G.le G' ∧ (∀ k n, n ≠ ver → G'.io k n = G.io k n) ∧ Keeps (Live G σ) w w' ∧ MemSim B G' w' (upds σ wr) ∧ ARep G' v u
theorem Res.val {B : Base} {G : Gh} {w : World} {σ : Store} {ver : Nat} {r : Result Next} {v : AV} {u : Value} (hm : MemSim B G w σ) (h : r = .ok (.value u) w) (hr : ARep G v u) : Res B G w σ ver r v [] :=
  ⟨u, G, w, .inl h, Gh.le_refl G, fun _ _ _ => rfl, Keeps.refl _ _, hm, hr⟩

/-- The operands' values stand for the abstract ones. -/
def Opnds (G : Gh) (fr : List AV) (ρ : Operand → Value) : Prop := ∀ x x', lowX x = some x' → ARep G (aev fr x') (ρ x)

theorem arep_ofV1 (G : Gh) {v : Value} {x : AV} (h : ofV1 v = some x) : ARep G x v := by
  unfold ofV1 at h
  split at h
  · cases h; exact .b _
  · cases h; exact .i _ _
  · cases h; exact .s _
  · cases h; exact .nilp
  · cases h; exact .nilf
  · cases h; exact .esl _
  · cases h; exact .nilm
  · rename_i f a c
    split at h
    · rename_i hh
      cases h
      obtain rfl : a = #[] := Array.eq_empty_of_size_eq_zero hh.1
      obtain rfl : c = #[] := Array.eq_empty_of_size_eq_zero hh.2
      exact arep_fn (us := []) (vs := []) (AReps.nil G) (AReps.nil G)
    · cases h
  · cases h
theorem ofV1_esl {v : Value} (h : ofV1 v = some .esl) : v = .slice none 0 0 := by
  cases v with
  | slice a n c =>
    cases a with
    | some a => simp [ofV1] at h
    | none =>
      cases n with
      | succ n => simp [ofV1] at h
      | zero =>
        cases c with
        | succ c => simp [ofV1] at h
        | zero => rfl
  | func f a c => cases f <;> simp [ofV1] at h
  | pointer a => cases a <;> simp [ofV1] at h
  | map a => cases a <;> simp [ofV1] at h
  | _ => simp [ofV1] at h
theorem mapM_some_get {α β : Type} {f : α → Option β} : ∀ {l : List α} {r : List β}, l.mapM f = some r → l.length = r.length ∧ ∀ (j : Nat) (x : α) (y : β), l[j]? = some x → r[j]? = some y → f x = some y
  | [], r, h => by simp at h; subst h; exact ⟨rfl, fun j x y hx => by simp at hx⟩
  | a :: l, r, h => by
    rw [List.mapM_cons] at h
    cases ha : f a with
    | none => simp [ha] at h
    | some b =>
      cases hl : l.mapM f with
      | none => simp [ha, hl] at h
      | some bs =>
        simp [ha, hl] at h
        subst h
        obtain ⟨h1, h2⟩ := mapM_some_get hl
        refine ⟨by simp [h1], fun j x y hx hy => ?_⟩
        cases j with
        | zero => simp at hx hy; subst hx; subst hy; exact ha
        | succ j => exact h2 j x y (by simpa using hx) (by simpa using hy)
theorem areps_mapM (G : Gh) {vs : List Value} {xs : List AV} (h : vs.mapM ofV1 = some xs) : AReps G xs vs := by
  obtain ⟨h1, h2⟩ := mapM_some_get h
  exact ⟨h1.symm, fun j x u hx hu => arep_ofV1 G (h2 j u x hu hx)⟩
theorem arep_ofV (G : Gh) {v : Value} {x : AV} (h : ofV v = some x) : ARep G x v := by
  unfold ofV at h
  split at h
  · rename_i cs
    cases hm : cs.toList.mapM ofV1 with
    | none => simp [hm] at h
    | some xs =>
      simp [hm] at h
      subst h
      have := arep_ag (areps_mapM G hm)
      simpa using this
  · exact arep_ofV1 G h
theorem opnds_of {G : Gh} {fr : List AV} {a : Act} (h : AReps G fr a.tmps.toList) : Opnds G fr a.eval := by
  intro x x' hx
  cases x with
  | tmp t =>
    simp [lowX] at hx; subst hx
    simp only [aev, Act.eval]
    by_cases ht : t < fr.length
    · obtain ⟨u, hu, hr⟩ := h.get (List.getElem?_eq_getElem ht)
      rw [List.getD_eq_getElem?_getD, List.getElem?_eq_getElem ht]
      rw [Array.getElem?_toList] at hu
      simp only [Array.getD_eq_getD_getElem?, hu, Option.getD_some]
      exact hr
    · rw [List.getD_eq_getElem?_getD, List.getElem?_eq_none (Nat.le_of_not_lt ht)]
      exact .bot _
  | const v =>
    simp only [lowX, Option.map_eq_some_iff] at hx
    obtain ⟨y, hy, rfl⟩ := hx
    exact arep_ofV G hy
  | func f => simp [lowX] at hx; subst hx; exact arep_fn (us := []) (vs := []) (AReps.nil G) (AReps.nil G)
  | global g => simp [lowX] at hx
theorem opnds_list {G : Gh} {fr : List AV} {ρ : Operand → Value} (h : Opnds G fr ρ) {l : List Operand} {xs : List X} (hm : l.mapM lowX = some xs) : AReps G (xs.map (aev fr)) (l.map ρ) := by
  obtain ⟨h1, h2⟩ := mapM_some_get hm
  refine ⟨by simp [h1], fun j x u hx hu => ?_⟩
  rw [List.getElem?_map] at hx hu
  cases hj : xs[j]? with
  | none => simp [hj] at hx
  | some y =>
    cases hk : l[j]? with
    | none => simp [hk] at hu
    | some z =>
      simp [hj] at hx; simp [hk] at hu
      subst hx; subst hu
      exact h _ _ (h2 j z y hk hj)

variable {P : Program} {B : Base} {G : Gh} {w : World} {σ : Store} {ver : Nat} {key : Key} {fr : List AV} {ρ : Operand → Value} {o : Oper} {lo : LO} {v : AV} {rd : List Key} {wr : List (Key × AO)}

theorem sz_info {t : TypeId} {n : Nat} (h : szOf P t = some n) : ∃ i, P.info? t = some i ∧ i.size = n := by
  unfold szOf at h
  simpa [Option.map_eq_some_iff] using h
theorem run_size {t : TypeId} {n : Nat} (h : szOf P t = some n) : (sizeOf t).run P w = .ok n w := by
  obtain ⟨i, hi, rfl⟩ := sz_info h
  simp [sizeOf, typeInfo, hi]
theorem run_aggT {t : TypeId} {b : Bool} (h : aggT P t = some b) : (isAgg t).run P w = .ok b w := by
  unfold aggT at h
  cases hu : P.underlying t with
  | none => simp [hu] at h
  | some d =>
    simp only [hu, Option.map_some, Option.some.injEq] at h
    simp only [isAgg, Sem.run_bind, run_underlying hu, Result.andThen_ok]
    subst h
    cases d <;> rfl

theorem acut_rep {agg : Bool} {n off : Nat} {cs : List AV} {us : List Value} (h : AReps G cs us) (hv : acut agg n cs off = some v) {t : TypeId} (ha : aggT P t = some agg) (hn : szOf P t = some n) :
    ∃ u, (part t us.toArray off).run P w = .ok u w ∧ ARep G v u := by
  unfold acut at hv
  simp only [part, Sem.run_bind, run_aggT ha, Result.andThen_ok]
  cases agg with
  | true =>
    simp only [if_true] at hv ⊢
    split at hv
    · cases hv
      exact ⟨.agg ((us.drop off).take n).toArray, by simp [run_size hn], arep_ag ((h.drop off).take n)⟩
    · cases hv
  | false =>
    simp only [Bool.false_eq_true, if_false] at hv ⊢
    obtain ⟨u, hu, hr⟩ := h.get hv
    exact ⟨u, by simp [hu], hr⟩

theorem res_mv {x : Operand} {x' : X} (hm : MemSim B G w σ) (hρ : Opnds G fr ρ) (ho : o.op = .move x ∨ o.op = .assign x) (hx : lowX x = some x') : Res B G w σ ver ((execOp ρ o).run P w) (aev fr x') [] := by
  refine Res.val hm ?_ (hρ x x' hx)
  rcases ho with ho | ho <;> simp [execOp, ho]

theorem res_pick {c a b : Operand} {c' a' b' : X} (hm : MemSim B G w σ) (hρ : Opnds G fr ρ) (ho : o.op = .pick c a b) (hc : lowX c = some c') (ha : lowX a = some a') (hb : lowX b = some b') {x : Bool} (hx : aev fr c' = .b x) :
    Res B G w σ ver ((execOp ρ o).run P w) (if x then aev fr a' else aev fr b') [] := by
  have h1 := hρ c c' hc
  rw [hx] at h1
  generalize hu : ρ c = u at h1
  cases h1
  refine Res.val hm (u := if x then ρ a else ρ b) (by simp [execOp, ho, hu, asBool]) ?_
  cases x
  · exact hρ b b' hb
  · exact hρ a a' ha

theorem cells_one {c : Array Value} {zs : List AV} {n : Nat} (h : AReps G zs c.toList) (hn : n = zs.length) : ∀ (i : Nat) (cs : List AV) (j : Nat) (x : AV), [zs][i]? = some cs → cs[j]? = some x → ∃ u, c[i * n + j]? = some u ∧ ARep G x u := by
  intro i cs j x hi hj
  cases i with
  | zero =>
    simp at hi; subst hi
    obtain ⟨u, hu, hr⟩ := h.get hj
    exact ⟨u, by simpa using hu, hr⟩
  | succ i => simp at hi
theorem Res.new (hm : MemSim B G w σ) (hv : ∀ k, G.io k ver = none) {r : Result Next} (c : Array Value) (ty : TypeId) (rs : List (List AV)) (esz cap : Nat) {u : Value}
    (hr : r = .ok (.value u) (w.alloc (.cells c ty))) (hcap : rs.length ≤ cap) (hsz : cap * esz ≤ c.size) (hz : ∀ (i : Nat) (cs : List AV), rs[i]? = some cs → cs.length = esz)
    (hc : ∀ (i : Nat) (cs : List AV) (j : Nat) (x : AV), rs[i]? = some cs → cs[j]? = some x → ∃ u, c[i * esz + j]? = some u ∧ ARep G x u)
    (hu : ∀ G' : Gh, G'.io key ver = some ⟨some w.heap.size, esz, cap⟩ → ARep G' v u) :
    Res B G w σ ver r v [(key, ⟨ver, .rows esz rs⟩)] :=
  ⟨u, G.put key ver ⟨some w.heap.size, esz, cap⟩, _, .inl hr, Gh.le_put (hv key), fun k n hn => Gh.put_other _ _ _ _ (fun h => hn h.2), Keeps.alloc _ _ _, hm.new (hv key) c ty rs esz cap hcap hsz hz hc, hu _ (Gh.put_same _ _ _ _)⟩
theorem one_rows {zs : List AV} {n : Nat} (h : n = zs.length) : ∀ (i : Nat) (cs : List AV), [zs][i]? = some cs → cs.length = n := by
  intro i cs hi
  cases i with
  | zero => simp at hi; subst hi; exact h.symm
  | succ i => simp at hi
theorem zeroOf_spec {t : TypeId} {z : List AV} (h : zeroOf P t = some z) : ∃ zv : Value, (zeroValue t).run P w = .ok zv w ∧ AReps G z zv.cells.toList := by
  unfold zeroOf at h
  cases hi : P.info? t with
  | none => simp [hi] at h
  | some i =>
    cases hz : i.zero with
    | none => simp [hi, hz] at h
    | some zv =>
      simp [hi, hz] at h
      exact ⟨zv, by simp [zeroValue, typeInfo, hi, hz], areps_mapM G h⟩
theorem ptr_new (G' : Gh) {key : Key} {ver b esz cap : Nat} (h : G'.io key ver = some ⟨some b, esz, cap⟩) : ARep G' (.ptr key ver 0 0) (.pointer (some ⟨b, 0, none⟩)) := by
  have := ARep.ptr key ver 0 0 _ b h rfl
  simpa using this
theorem res_alloc {t : TypeId} {z : List AV} (hm : MemSim B G w σ) (hv : ∀ k, G.io k ver = none) (ho : o.op = .alloc t) (hz : zeroOf P t = some z) :
    Res B G w σ ver ((execOp ρ o).run P w) (.ptr key ver 0 0) [(key, ⟨ver, .rows z.length [z]⟩)] := by
  obtain ⟨zv, hr, hc⟩ := zeroOf_spec (P := P) (G := G) (w := w) hz
  refine Res.new hm hv zv.cells t [z] z.length 1 (u := .pointer (some ⟨w.heap.size, 0, none⟩)) ?_ (by simp) (by have := hc.1; simp at this; simp [this]) (one_rows rfl) (cells_one hc rfl) (fun G' h => ptr_new G' h)
  simp [execOp, ho, Instr.alloc, hr, newVar, newRow, newObj, Sem.run]
theorem res_box {t : TypeId} {x : Operand} {x' : X} {cs : List AV} (hm : MemSim B G w σ) (hρ : Opnds G fr ρ) (hv : ∀ k, G.io k ver = none) (ho : o.op = .box t x) (hx : lowX x = some x') (hc : (aev fr x').cells = some cs) :
    Res B G w σ ver ((execOp ρ o).run P w) (.ptr key ver 0 0) [(key, ⟨ver, .rows cs.length [cs]⟩)] := by
  have h := arep_cells (hρ x x' hx) hc
  refine Res.new hm hv (ρ x).cells t [cs] cs.length 1 (u := .pointer (some ⟨w.heap.size, 0, none⟩)) ?_ (by simp) (by have := h.1; simp at this; simp [this]) (one_rows rfl) (cells_one h rfl) (fun G' h => ptr_new G' h)
  simp [execOp, ho, Instr.box, newVar, newRow, newObj, Sem.run]

theorem aobj_spec (hm : MemSim B G w σ) {k : Key} {kv i : Nat} {cs : List AV} (h : aobj σ k kv i = some cs) :
    ∃ L b c ty esz rs, sget σ k = some ⟨kv, .rows esz rs⟩ ∧ rs[i]? = some cs ∧ G.io k kv = some L ∧ L.blk = some b ∧ L.esz = esz ∧ rs.length ≤ L.cap ∧ w.heap[b]? = some (.cells c ty (0, 0)) ∧ L.cap * esz ≤ c.size ∧ cs.length = esz ∧
      (∀ (i : Nat) (cs : List AV), rs[i]? = some cs → cs.length = esz) ∧ ∀ (i : Nat) (cs : List AV) (j : Nat) (x : AV), rs[i]? = some cs → cs[j]? = some x → ∃ u, c[i * esz + j]? = some u ∧ ARep G x u := by
  unfold aobj at h
  split at h
  · rename_i kv' esz rs hk
    split at h
    · rename_i e; subst e
      obtain ⟨L, hL, h1, h2, h3, h4⟩ := hm.obj k _ hk
      have hi : i < rs.length := (List.getElem?_eq_some_iff.1 h).1
      cases hb : L.blk with
      | none => rw [hb] at h4; simp at h4; omega
      | some b =>
        rw [hb] at h4
        obtain ⟨c, ty, hc, hs, hx⟩ := h4
        exact ⟨L, b, c, ty, esz, rs, hk, h, hL, hb, h1, h2, hc, hs, h3 i cs h, h3, hx⟩
    · cases h
  · cases h
theorem add_none (b o j : Nat) : (⟨b, o, none⟩ : Addr).add j = ⟨b, o + j, none⟩ := by unfold Addr.add; split <;> simp_all
/-- Cells that lie in a row in the world are read. -/
theorem run_acut {agg : Bool} {n off : Nat} {cs : List AV} (b p : Nat) (us : Nat → Value) (hc : ∀ (j : Nat) (x : AV), cs[j]? = some x → w.cell? ⟨b, p + j, none⟩ = some (us j) ∧ ARep G x (us j)) (hv : acut agg n cs off = some v) {t : TypeId}
    (ha : aggT P t = some agg) (hn : szOf P t = some n) : ∃ u, (loadVar t ⟨b, p + off, none⟩).run P w = .ok u w ∧ ARep G v u := by
  unfold acut at hv
  simp only [loadVar, Sem.run_bind, run_aggT ha, Result.andThen_ok]
  cases agg with
  | true =>
    simp only [if_true] at hv ⊢
    split at hv
    · rename_i hl
      cases hv
      have hlen : ((cs.drop off).take n).length = n := by simp; omega
      have hrun := run_loadCells (P := P) w ⟨b, p + off, none⟩ n (fun j => us (off + j)) (fun j hj => by
        rw [add_none, Nat.add_assoc]
        exact (hc (off + j) _ (List.getElem?_eq_getElem (by omega))).1)
      refine ⟨_, by simp only [Sem.run_bind, run_size hn, Result.andThen_ok, hrun]; rfl, ?_⟩
      have := ARep.ag (G := G) ((cs.drop off).take n) (fun j => us (off + j)) (fun j x hj => by
        rw [List.getElem?_take] at hj
        split at hj
        · rw [List.getElem?_drop] at hj; exact (hc _ x hj).2
        · cases hj)
      rwa [hlen] at this
    · cases hv
  | false =>
    simp only [Bool.false_eq_true, if_false] at hv ⊢
    obtain ⟨h1, h2⟩ := hc off v hv
    exact ⟨us off, by simp [run_load, h1], h2⟩
theorem load_rep (hm : MemSim B G w σ) {av : AV} {u : Value} {agg : Bool} {n : Nat} (h : ARep G av u) (hl : aload σ agg n av = some (v, rd)) {t : TypeId} (ha : aggT P t = some agg) (hn : szOf P t = some n) :
    ∃ b u', u = .pointer (some b) ∧ (loadVar t b).run P w = .ok u' w ∧ ARep G v u' := by
  cases h with
  | ref cs off blk p us hF hr =>
    simp only [aload, Option.map_eq_some_iff] at hl
    obtain ⟨v', hv, he⟩ := hl
    cases he
    obtain ⟨u', h1, h2⟩ := run_acut (P := P) (G := G) (w := w) blk p us (fun j x hj => ⟨hm.hF _ _ _ (hF j x hj), hr j x hj⟩) hv ha hn
    exact ⟨_, u', rfl, h1, h2⟩
  | ptr k kv i off L b hL hb =>
    simp only [aload, Option.map_eq_some_iff] at hl
    obtain ⟨v', hv, he⟩ := hl
    cases he
    obtain ⟨cs, hcs, hv⟩ := Option.bind_eq_some_iff.1 hv
    obtain ⟨L', b', c, ty, esz, rs, hk, hi, hL', hb', he, hcap, hc, hs, hlen, hz, hxx⟩ := aobj_spec hm hcs
    rw [hL] at hL'; cases hL'
    rw [hb] at hb'; cases hb'
    obtain ⟨u', h1, h2⟩ := run_acut (P := P) (G := G) (w := w) b (i * esz) (fun j => (c[i * esz + j]?).getD undef) (fun j x hj => by
      obtain ⟨u, hu, hr⟩ := hxx i cs j x hi hj
      exact ⟨by simp [World.cell?, hc, hu], by rw [hu]; exact hr⟩) hv ha hn
    exact ⟨_, u', rfl, by rw [he]; exact h1, h2⟩
  | _ => simp [aload] at hl
theorem res_load {t : TypeId} {x : Operand} {x' : X} {agg : Bool} {n : Nat} (hm : MemSim B G w σ) (hρ : Opnds G fr ρ) (ho : o.op = .load t x) (ha : aggT P t = some agg) (hn : szOf P t = some n) (hx : lowX x = some x')
    (hl : aload σ agg n (aev fr x') = some (v, rd)) : Res B G w σ ver ((execOp ρ o).run P w) v [] := by
  obtain ⟨b, u', h0, h1, h2⟩ := load_rep (P := P) hm (hρ x x' hx) hl ha hn
  exact Res.val hm (by simp [execOp, ho, Instr.loadAt, h0, Instr.sureAddr, h1]) h2
end Go.Am
/- More operations: each comes to what 'astep' says. -/
namespace Go.Am
open Go.RowKit
set_option linter.unusedSimpArgs false
set_option linter.unusedVariables false
variable {P : Program} {B : Base} {G : Gh} {w : World} {σ : Store} {ver : Nat} {key : Key} {fr : List AV} {ρ : Operand → Value} {o : Oper} {lo : LO} {v : AV} {rd : List Key} {wr : List (Key × AO)}

theorem arep_one {x : AV} {u : Value} (h : ARep G x u) (h1 : x.one = true) : u.oneCell' = true := by
  cases h <;> first | rfl | (simp [AV.one] at h1)
theorem areps_one {xs : List AV} {us : List Value} (h : AReps G xs us) (h1 : xs.all AV.one = true) : ∀ u ∈ us, u.oneCell' = true := by
  intro u hu
  obtain ⟨j, hj⟩ := List.getElem?_of_mem hu
  have hl : j < xs.length := by rw [h.1]; exact (List.getElem?_eq_some_iff.1 hj).1
  have hx := List.getElem?_eq_getElem hl
  exact arep_one (h.2 j _ u hx hj) (List.all_eq_true.1 h1 _ (List.getElem_mem hl))

theorem splice_get {α : Type} (l vs : List α) (p q : Nat) (h : p + vs.length ≤ l.length) :
    (l.take p ++ vs ++ l.drop (p + vs.length))[q]? = if q < p then l[q]? else if q < p + vs.length then vs[q - p]? else l[q]? := by
  rw [List.append_assoc, List.getElem?_append]
  have hl : (l.take p).length = p := by simp; omega
  rw [hl]
  by_cases h1 : q < p
  · rw [if_pos h1, if_pos h1, List.getElem?_take, if_pos h1]
  · rw [if_neg h1, if_neg h1, List.getElem?_append]
    by_cases h2 : q < p + vs.length
    · rw [if_pos h2, if_pos (by omega)]
    · rw [if_neg h2, if_neg (by omega), List.getElem?_drop]
      congr 1; omega
theorem mul_lt_row {i j i' j' e : Nat} (hj : j < e) (hj' : j' < e) (h : i * e + j = i' * e + j') : i = i' ∧ j = j' := by
  have h1 : (i * e + j) / e = i := by rw [Nat.mul_comm, Nat.mul_add_div (by omega), Nat.div_eq_of_lt hj]; omega
  have h2 : (i' * e + j') / e = i' := by rw [Nat.mul_comm, Nat.mul_add_div (by omega), Nat.div_eq_of_lt hj']; omega
  rw [h] at h1
  have : i = i' := h1.symm.trans h2
  subst this
  exact ⟨rfl, by omega⟩

theorem res_store {t : TypeId} {a x : Operand} {a' x' : X} {n : Nat} (hm : MemSim B G w σ) (hρ : Opnds G fr ρ) (ho : o.op = .store t a x) (hn : szOf P t = some n) (ha : lowX a = some a') (hx : lowX x = some x')
    (hs : astore σ n (aev fr a') (aev fr x') = some (rd, wr)) : Res B G w σ ver ((execOp ρ o).run P w) .bot wr := by
  have h1 := hρ a a' ha
  have h2 := hρ x x' hx
  generalize aev fr a' = av at hs h1
  generalize aev fr x' = xv at hs h2
  unfold astore at hs
  split at hs
  · rename_i k kv i off xs hcells
    split at hs
    · rename_i kv' esz rs hk
      split at hs
      · rename_i cs hi
        split at hs
        · rename_i hcond
          obtain ⟨rfl, hxl, hoff, hone⟩ := hcond
          cases hs
          have hxs := arep_cells h2 hcells
          obtain ⟨L, b, c, ty, esz', rs', hk', hi', hL, hb, he, hcap, hc, hsz, hlen, hz, hxx⟩ := aobj_spec hm (k := k) (kv := kv') (i := i) (cs := cs) (by unfold aobj; rw [hk]; simp [hi])
          rw [hk] at hk'; cases hk'
          generalize hu : ρ a = u at h1
          cases h1 with
          | ptr _ _ _ _ L' b' hL' hb' =>
            rw [hL] at hL'; cases hL'
            rw [hb] at hb'; cases hb'
            have hil : i < rs.length := (List.getElem?_eq_some_iff.1 hi).1
            have hle : i * esz + esz ≤ L.cap * esz := by
              have : i + 1 ≤ L.cap := by omega
              calc i * esz + esz = (i + 1) * esz := by rw [Nat.succ_mul]
                _ ≤ L.cap * esz := Nat.mul_le_mul_right _ this
            have hul : (ρ x).cells.toList.length = n := by rw [← hxs.1]; exact hxl
            have hrun := run_storeCells_at P b (i * esz + off) ty (ρ x).cells.toList 0 c w hc (by rw [hul]; omega) (areps_one hxs hone)
            refine ⟨undef, G, w.setRow b (c.toList.take (i * esz + off + 0) ++ (ρ x).cells.toList ++ c.toList.drop (i * esz + off + 0 + (ρ x).cells.toList.length)).toArray, .inr ⟨?_, rfl⟩, Gh.le_refl G, fun _ _ _ => rfl, Keeps.setRow (Live.of_get hk hL hb) w _, ?_, .bot _⟩
            rotate_left
            · simp only [upds]
              refine hm.write hk hL hb (Gh.le_refl G) rfl (fun _ _ _ => rfl) hL hm.fin hc (by simpa using hcap) (fun i' cs' hi' => ?_) ?_ (fun i' cs' j y hi' hj => ?_)
              · rw [List.getElem?_set] at hi'
                by_cases e : i = i'
                · subst e
                  rw [if_pos rfl, if_pos hil] at hi'
                  cases hi'; simp; omega
                · rw [if_neg e] at hi'
                  exact hz i' cs' hi'
              · simp; simp at hul; omega
              · rw [List.getElem?_toArray, splice_get _ _ _ _ (by rw [hul]; simp; omega)]
                have hn' : (ρ x).cells.toList.length = n := hul
                rw [List.getElem?_set] at hi'
                by_cases e : i = i'
                · subst e
                  rw [if_pos rfl, if_pos hil] at hi'
                  cases hi'
                  rw [← hxl, splice_get _ _ _ _ (by rw [hxl]; exact hoff)] at hj
                  rw [Nat.add_zero, hn']
                  by_cases c1 : j < off
                  · rw [if_pos c1] at hj
                    rw [if_pos (by omega), Array.getElem?_toList]
                    exact hxx i cs j y hi hj
                  · rw [if_neg c1] at hj
                    rw [if_neg (by omega)]
                    by_cases c2 : j < off + xs.length
                    · rw [if_pos c2] at hj
                      rw [if_pos (by omega)]
                      obtain ⟨u, h3, h4⟩ := hxs.get hj
                      exact ⟨u, by rw [← h3]; congr 1; omega, h4⟩
                    · rw [if_neg c2] at hj
                      rw [if_neg (by omega), Array.getElem?_toList]
                      exact hxx i cs j y hi hj
                · rw [if_neg e] at hi'
                  obtain ⟨u, h3, h4⟩ := hxx i' cs' j y hi' hj
                  refine ⟨u, ?_, h4⟩
                  have hj' : j < esz := by rw [← hz i' cs' hi']; exact (List.getElem?_eq_some_iff.1 hj).1
                  rw [Nat.add_zero, hn', Array.getElem?_toList]
                  by_cases c1 : i' * esz + j < i * esz + off
                  · rw [if_pos c1]; exact h3
                  · rw [if_neg c1]
                    by_cases c2 : i' * esz + j < i * esz + off + n
                    · exact absurd (mul_lt_row (i := i) (j := i' * esz + j - i * esz) (by omega) hj' (by omega)).1 e
                    · rw [if_neg c2]; exact h3
            · simp only [execOp, ho, Instr.storeAt, storeVar, hu, Instr.sureAddr, Sem.run_bind, Sem.run_pure, Result.andThen_ok, run_size hn, he]
              have hne : ¬ (ρ x).cells.size ≠ n := by simp at hul; omega
              rw [if_neg hne, hrun]
              simp
        · cases hs
      · cases hs
    · cases hs
  · cases hs

theorem res_nilck {x : Operand} {x' : X} (hm : MemSim B G w σ) (hρ : Opnds G fr ρ) (ho : o.op = .nilCheck x) (hx : lowX x = some x') (hv : anilck (aev fr x') = some v) : Res B G w σ ver ((execOp ρ o).run P w) v [] := by
  have h := hρ x x' hx
  generalize aev fr x' = av at hv h
  have hav : v = av := by unfold anilck at hv; split at hv <;> simp at hv <;> exact hv.symm
  subst hav
  refine Res.val hm (u := ρ x) ?_ h
  generalize hu : ρ x = u at h
  simp only [execOp, ho]
  cases h <;> first | (simp [anilck] at hv; done) | (simp [hu])
theorem res_fieldAddr {s : TypeId} {x : Operand} {x' : X} {f n : Nat} {fs : Array Field} {fd : Field} (hm : MemSim B G w σ) (hρ : Opnds G fr ρ) (ho : o.op = .fieldAddr s x f) (hs : P.underlying s = some (.struct fs)) (hf : fs[f]? = some fd) (hn : szOf P fd.type = some n) (hn0 : n ≠ 0)
    (hx : lowX x = some x') (hv : afieldAddr fd.offset (aev fr x') = some v) : Res B G w σ ver ((execOp ρ o).run P w) v [] := by
  have h := hρ x x' hx
  generalize aev fr x' = av at hv h
  generalize hu : ρ x = u at h
  have run : ∀ a : Addr, a.spot = none → u = .pointer (some a) → (execOp ρ o).run P w = .ok (.value (.pointer (some ⟨a.block, a.off + fd.offset, none⟩))) w := by
    rintro ⟨b, p, sp⟩ hsp rfl
    simp only at hsp; subst hsp
    simp [execOp, ho, Instr.fieldAt, run_underlying hs, hf, hu, Instr.sureAddr, fieldPlace, run_size hn, hn0, add_none]
  cases h with
  | ref cs off blk p us hF hr =>
    simp [afieldAddr] at hv; subst hv
    refine Res.val hm (run _ rfl rfl) ?_
    simp only [Nat.add_assoc]
    exact .ref cs _ blk p us hF hr
  | ptr k kv i off L b hL hb =>
    simp [afieldAddr] at hv; subst hv
    refine Res.val hm (run _ rfl rfl) ?_
    simp only [Nat.add_assoc]
    exact .ptr k kv i _ L b hL hb
  | _ => simp [afieldAddr] at hv
theorem res_field {s : TypeId} {x : Operand} {x' : X} {f n : Nat} {agg : Bool} {fs : Array Field} {fd : Field} {cs : List AV} (hm : MemSim B G w σ) (hρ : Opnds G fr ρ) (ho : o.op = .field s x f) (hs : P.underlying s = some (.struct fs)) (hf : fs[f]? = some fd) (ha : aggT P fd.type = some agg) (hn : szOf P fd.type = some n)
    (hx : lowX x = some x') (hc : aev fr x' = .ag cs) (hv : acut agg n cs fd.offset = some v) : Res B G w σ ver ((execOp ρ o).run P w) v [] := by
  have h := hρ x x' hx
  rw [hc] at h
  obtain ⟨us, hu, hr⟩ := arep_ag_inv h
  obtain ⟨u, h1, h2⟩ := acut_rep (P := P) (w := w) hr hv ha hn
  exact Res.val hm (by simp [execOp, ho, Instr.field, run_underlying hs, hf, hu, asAgg, h1]) h2
theorem res_extract {x : Operand} {x' : X} {i : Nat} {vs : List AV} (hm : MemSim B G w σ) (hρ : Opnds G fr ρ) (ho : o.op = .extract x i) (hx : lowX x = some x') (hc : aev fr x' = .tu vs) (hv : vs[i]? = some v) : Res B G w σ ver ((execOp ρ o).run P w) v [] := by
  have h := hρ x x' hx
  rw [hc] at h
  obtain ⟨us, hu, hr⟩ := arep_tu_inv h
  obtain ⟨u, h1, h2⟩ := hr.get hv
  exact Res.val hm (by simp [execOp, ho, Instr.extract, hu, h1]) h2
theorem res_conv {s d : TypeId} {x : Operand} {x' : X} {k k' ks : IntKind} {n : Int} (hm : MemSim B G w σ) (hρ : Opnds G fr ρ) (ho : o.op = .convert s d x) (hs : P.underlying s = some (.int ks)) (hd : P.underlying d = some (.int k)) (hx : lowX x = some x') (hc : aev fr x' = .i k' n) :
    Res B G w σ ver ((execOp ρ o).run P w) (.i k (k.wrap n)) [] := by
  have h := hρ x x' hx
  rw [hc] at h
  generalize hu : ρ x = u at h
  cases h
  exact Res.val hm (by simp [execOp, ho, convert, run_underlying hs, run_underlying hd, hu, Conv.intToInt]) (.i _ _)
theorem res_mkfn {f : Nat} {a c : Array Operand} {a' c' : List X} (hm : MemSim B G w σ) (hρ : Opnds G fr ρ) (ho : o.op = .makeFunc (.func f) a c) (ha : a.toList.mapM lowX = some a') (hc : c.toList.mapM lowX = some c') :
    Res B G w σ ver ((execOp ρ o).run P w) (.fn f (a'.map (aev fr)) (c'.map (aev fr))) [] := by
  have h1 := opnds_list hρ ha
  have h2 := opnds_list hρ hc
  refine Res.val hm (u := .func (.func f) (a.map ρ) (c.map ρ)) (by simp [execOp, ho, Instr.makeFunc]) ?_
  have e : ∀ l : Array Operand, (l.toList.map ρ).toArray = l.map ρ := fun l => by rw [← Array.toList_map, Array.toArray_toList]
  have := arep_fn (f := f) h1 h2
  rwa [e, e] at this
theorem res_un {op : UnOp} {t : TypeId} {x : Operand} {x' : X} (hm : MemSim B G w σ) (hρ : Opnds G fr ρ) (ho : o.op = .unOp op t x) (hx : lowX x = some x') (hv : aun op (aev fr x') = some v) : Res B G w σ ver ((execOp ρ o).run P w) v [] := by
  have h := hρ x x' hx
  generalize aev fr x' = av at hv h
  generalize hu : ρ x = u at h
  unfold aun at hv
  split at hv
  · cases hv; cases h
    exact Res.val hm (by simp [execOp, ho, hu, Op.unary, Op.intArith]) (.i _ _)
  · cases hv; cases h
    exact Res.val hm (by simp [execOp, ho, hu, Op.unary]) (.b _)
  · cases hv
theorem res_len {t : TypeId} {x : Operand} {x' : X} {arr : Option Nat} {str : Bool} {c : Call} (hm : MemSim B G w σ) (hρ : Opnds G fr ρ) (ho : o.op = .call c) (hc : c = { callee := .builtin .len, args := #[x], argTypes := #[t] })
    (ht : match arr, str with | none, true => P.underlying t = some .string | none, false => ∃ e, P.underlying t = some (.slice e) | some n, _ => ∃ e, P.underlying t = some (.array n e)) (hx : lowX x = some x') (hv : alen arr str (aev fr x') = some v) :
    Res B G w σ ver ((execOp ρ o).run P w) v [] := by
  have h := hρ x x' hx
  generalize aev fr x' = av at hv h
  generalize hu : ρ x = u at h
  subst hc
  cases arr with
  | some n =>
    obtain ⟨e, he⟩ := ht
    simp only [alen, Option.some.injEq] at hv; subst hv
    exact Res.val hm (by simp [execOp, ho, resolve, invoke, builtin, Builtin.len_, run_underlying he, hu, goInt]) (.i _ _)
  | none =>
    unfold alen at hv
    split at hv
    · rename_i e; cases e
    · cases hv; cases h
      exact Res.val hm (by simp [execOp, ho, resolve, invoke, builtin, Builtin.len_, run_underlying ht, hu, goInt]) (.i _ _)
    all_goals (try (cases hv; done))
    all_goals
      obtain ⟨e, he⟩ := ht
      cases hv; cases h
      exact Res.val hm (by simp [execOp, ho, resolve, invoke, builtin, Builtin.len_, run_underlying he, hu, goInt]) (.i _ _)
end Go.Am
/- Indexes, comparisons, arithmetic, slices. -/
namespace Go.Am
open Go.RowKit
set_option linter.unusedSimpArgs false
set_option linter.unusedVariables false
variable {P : Program} {B : Base} {G : Gh} {w : World} {σ : Store} {ver : Nat} {key : Key} {fr : List AV} {ρ : Operand → Value} {o : Oper} {lo : LO} {v : AV} {rd : List Key} {wr : List (Key × AO)}

theorem live_loc (hm : MemSim B G w σ) {k : Key} {kv esz : Nat} {rs : List (List AV)} (hk : sget σ k = some ⟨kv, .rows esz rs⟩) {L : Loc} (hL : G.io k kv = some L) : L.esz = esz ∧ rs.length ≤ L.cap := by
  obtain ⟨L', hL', h1, h2, _⟩ := hm.obj k _ hk
  rw [hL] at hL'; cases hL'
  exact ⟨h1, h2⟩
theorem res_indexAddr_sl {t e : TypeId} {x i : Operand} {x' i' : X} {esz : Nat} (hm : MemSim B G w σ) (hρ : Opnds G fr ρ) (ho : o.op = .indexAddr t x i) (ht : P.underlying t = some (.slice e)) (hn : szOf P e = some esz) (hx : lowX x = some x') (hi : lowX i = some i')
    (hv : aindexAddr σ none esz (aev fr x') (aev fr i') = some (v, rd)) : Res B G w σ ver ((execOp ρ o).run P w) v [] := by
  have h1 := hρ x x' hx
  have h2 := hρ i i' hi
  generalize aev fr x' = av at hv h1
  generalize aev fr i' = iv at hv h2
  generalize hu : ρ x = u at h1
  generalize hq : ρ i = q at h2
  unfold aindexAddr at hv
  split at hv
  · rename_i kk n
    cases h2
    split at hv
    · rename_i rows _
      split at hv
      · rename_i cs hcs
        split at hv
        · rename_i hc
          obtain ⟨h0, rfl⟩ := hc
          cases hv
          cases h1 with
          | sl _ a cap esz us hcap blk p ha hz hF hr =>
            have hl : n.toNat < rows.length := (List.getElem?_eq_some_iff.1 hcs).1
            have hne : rows ≠ [] := by intro h; simp [h] at hl
            have ha' := ha hne
            subst ha'
            have hes := hz _ _ hcs
            have hlt : n < (rows.length : Int) := by omega
            refine Res.val hm (u := .pointer (some ⟨blk, p + n.toNat * cs.length + 0, none⟩)) ?_ ?_
            · simp [execOp, ho, Instr.indexAt, hu, hq, asIntOf, run_underlying ht, h0, hlt, run_size hn, add_none]
            · refine .ref cs 0 blk (p + n.toNat * cs.length) (fun j => us n.toNat j) (fun j x hj => ?_) (fun j x hj => hr _ _ _ _ hcs hj)
              have := hF _ _ _ _ hcs hj
              rw [Nat.add_assoc, hes]; exact this
        · cases hv
      · cases hv
    · rename_i k kv off len _
      split at hv
      · rename_i kv' esz' rs hk
        split at hv
        · rename_i hc
          obtain ⟨rfl, rfl, h0, hlt⟩ := hc
          cases hv
          cases h1 with
          | row _ _ _ _ a cap L hL hR =>
            obtain ⟨r1, r2, r3⟩ := hR
            obtain ⟨b, hb, rfl⟩ := r3 (by omega)
            obtain ⟨e1, e2⟩ := live_loc hm hk hL
            subst e1
            have := ARep.ptr (G := G) k kv' (off + n.toNat) 0 L b hL hb
            refine Res.val hm ?_ this
            simp [execOp, ho, Instr.indexAt, hu, hq, asIntOf, run_underlying ht, h0, hlt, run_size hn, add_none, Nat.add_mul]
        · cases hv
      · cases hv
    all_goals (first | (cases hv; done) | (rename_i e; cases e; done))
  · cases hv
theorem res_indexAddr_arr {t e : TypeId} {x i : Operand} {x' i' : X} {esz m : Nat} (hm : MemSim B G w σ) (hρ : Opnds G fr ρ) (ho : o.op = .indexAddr t x i) (ht : P.underlying t = some (.array m e)) (hn : szOf P e = some esz) (hx : lowX x = some x') (hi : lowX i = some i')
    (hv : aindexAddr σ (some m) esz (aev fr x') (aev fr i') = some (v, rd)) : Res B G w σ ver ((execOp ρ o).run P w) v [] := by
  have h1 := hρ x x' hx
  have h2 := hρ i i' hi
  generalize aev fr x' = av at hv h1
  generalize aev fr i' = iv at hv h2
  generalize hu : ρ x = u at h1
  generalize hq : ρ i = q at h2
  unfold aindexAddr at hv
  split at hv
  · rename_i kk n
    cases h2
    split at hv
    · rename_i e; cases e
    · rename_i e; cases e
    · rename_i m' cs off he
      cases he
      split at hv
      · rename_i hc
        obtain ⟨h0, hlt⟩ := hc
        cases hv
        cases h1 with
        | ref _ _ blk p us hF hr =>
          refine Res.val hm (u := .pointer (some ⟨blk, p + (off + n.toNat * esz), none⟩)) ?_ (.ref cs _ blk p us hF hr)
          simp [execOp, ho, Instr.indexAt, hu, hq, asIntOf, run_underlying ht, h0, hlt, run_size hn, add_none, Nat.add_assoc, Instr.sureAddr]
      · cases hv
    · rename_i m' k kv i0 off he
      cases he
      split at hv
      · rename_i hc
        obtain ⟨h0, hlt⟩ := hc
        cases hv
        cases h1 with
        | ptr _ _ _ _ L b hL hb =>
          refine Res.val hm ?_ (.ptr k kv i0 (off + n.toNat * esz) L b hL hb)
          simp [execOp, ho, Instr.indexAt, hu, hq, asIntOf, run_underlying ht, h0, hlt, run_size hn, add_none, Nat.add_assoc, Instr.sureAddr]
      · cases hv
    · cases hv
  · cases hv
theorem res_index_str {t : TypeId} {x i : Operand} {x' i' : X} (hm : MemSim B G w σ) (hρ : Opnds G fr ρ) (ho : o.op = .index t x i) (ht : P.underlying t = some .string) (hx : lowX x = some x') (hi : lowX i = some i')
    (hv : aindex none (aev fr x') (aev fr i') = some v) : Res B G w σ ver ((execOp ρ o).run P w) v [] := by
  have h1 := hρ x x' hx
  have h2 := hρ i i' hi
  generalize aev fr x' = av at hv h1
  generalize aev fr i' = iv at hv h2
  generalize hu : ρ x = u at h1
  generalize hq : ρ i = q at h2
  unfold aindex at hv
  split at hv
  · rename_i s kk n _
    cases h1; cases h2
    split at hv
    · rename_i h0
      simp only [Option.map_eq_some_iff] at hv
      obtain ⟨b, hb, rfl⟩ := hv
      exact Res.val hm (by simp [execOp, ho, Instr.index, hu, hq, asIntOf, run_underlying ht, h0, hb]) (.i _ _)
    · cases hv
  · rename_i e; cases e
  · cases hv
theorem res_index_arr {t e : TypeId} {x i : Operand} {x' i' : X} {m esz : Nat} {agg : Bool} (hm : MemSim B G w σ) (hρ : Opnds G fr ρ) (ho : o.op = .index t x i) (ht : P.underlying t = some (.array m e)) (ha : aggT P e = some agg) (hn : szOf P e = some esz) (hx : lowX x = some x') (hi : lowX i = some i')
    (hv : aindex (some (m, agg, esz)) (aev fr x') (aev fr i') = some v) : Res B G w σ ver ((execOp ρ o).run P w) v [] := by
  have h1 := hρ x x' hx
  have h2 := hρ i i' hi
  generalize aev fr x' = av at hv h1
  generalize aev fr i' = iv at hv h2
  generalize hu : ρ x = u at h1
  generalize hq : ρ i = q at h2
  unfold aindex at hv
  split at hv
  · rename_i e; cases e
  · rename_i m' agg' esz' cs kk n he
    cases he
    obtain ⟨us, rfl, hr⟩ := arep_ag_inv h1
    cases h2
    split at hv
    · rename_i hc
      obtain ⟨h0, hlt⟩ := hc
      obtain ⟨u', r1, r2⟩ := acut_rep (P := P) (w := w) hr hv ha hn
      exact Res.val hm (by simp [execOp, ho, Instr.index, hu, hq, asIntOf, run_underlying ht, h0, hlt, run_size hn, r1]) r2
    · cases hv
  · cases hv
theorem res_minmax {mx : Bool} {c : Call} {xs : Array Operand} {as0 : List X} {ty : Array TypeId} (hm : MemSim B G w σ) (hρ : Opnds G fr ρ) (ho : o.op = .call c) (hc : c = { callee := .builtin (if mx then .max else .min), args := xs, argTypes := ty }) (ha : xs.toList.mapM lowX = some as0)
    (hv : aminmax mx (as0.map (aev fr)) = some v) : Res B G w σ ver ((execOp ρ o).run P w) v [] := by
  have h := opnds_list hρ ha
  subst hc
  have e : (xs.map ρ).toList = xs.toList.map ρ := by simp
  generalize as0.map (aev fr) = avs at hv h
  have key : ∃ u, (if mx then Builtin.max_ ty o.type (xs.map ρ) else Builtin.min_ ty o.type (xs.map ρ)).run P w = .ok u w ∧ ARep G v u := by
    unfold Builtin.max_ Builtin.min_
    rw [e]
    generalize xs.toList.map ρ = us at h
    unfold aminmax at hv
    split at hv
    · cases hv
    · rename_i k a r
      cases us with
      | nil => simp [AReps] at h
      | cons u us =>
        have h0 := h.2 0 _ _ rfl rfl
        cases h0
        have hr : AReps G r us := ⟨by have := h.1; simpa using this, fun j x u hx hu => h.2 (j + 1) x u (by simpa using hx) (by simpa using hu)⟩
        clear h
        simp only []
        induction r generalizing us a with
        | nil =>
          cases us with
          | nil =>
            simp [aminmax.aminmaxI] at hv; subst hv
            exact ⟨_, by cases mx <;> simp, .i _ _⟩
          | cons u us => simp [AReps] at hr
        | cons x r ih =>
          cases us with
          | nil => simp [AReps] at hr
          | cons u us =>
            unfold aminmax.aminmaxI at hv
            split at hv
            · rename_i e; cases e
            · rename_i e
              cases e
              have h0 := hr.2 0 _ _ rfl rfl
              cases h0
              have hr' : AReps G r us := ⟨by have := hr.1; simpa using this, fun j x u hx hu => hr.2 (j + 1) x u (by simpa using hx) (by simpa using hu)⟩
              have := ih _ hv _ hr'
              cases mx
              · simpa [Builtin.min2] using this
              · simpa [Builtin.max2] using this
            · cases hv
    · cases hv
  obtain ⟨u, h1, h2⟩ := key
  refine Res.val hm (u := u) ?_ h2
  cases mx
  · simp at h1; simp [execOp, ho, resolve, invoke, builtin, h1]
  · simp at h1; simp [execOp, ho, resolve, invoke, builtin, h1]
end Go.Am
/- Arithmetic, comparisons. -/
namespace Go.Am
open Go.RowKit
set_option linter.unusedSimpArgs false
set_option linter.unusedVariables false
variable {P : Program} {B : Base} {G : Gh} {w : World} {σ : Store} {ver : Nat} {key : Key} {fr : List AV} {ρ : Operand → Value} {o : Oper} {lo : LO} {v : AV} {rd : List Key} {wr : List (Key × AO)}

theorem guard_free {op : BinOp} {t : TypeId} {x y : Operand} {a b : Value} (h : (∀ cs, a ≠ .agg cs) ∧ a ≠ .nilIface) : (eqGuard op t x y a b).run P w = .ok () w := by
  unfold eqGuard
  cases a <;> first | (exact absurd rfl h.2) | (exact absurd rfl (h.1 _)) | (cases op <;> simp)
theorem res_bin_of {op : BinOp} {t t' : TypeId} {x y : Operand} {u : Value} (hm : MemSim B G w σ) (ho : o.op = .binOp op t x y t') (hg : (eqGuard op t x y (ρ x) (ρ y)).run P w = .ok () w) (hb : (binOp op t (ρ x) (ρ y)).run P w = .ok u w) (hr : ARep G v u) :
    Res B G w σ ver ((execOp ρ o).run P w) v [] :=
  Res.val hm (by simp [execOp, ho, hg, hb]) hr
theorem abinI_run {op : BinOp} {k : IntKind} {a b : Int} {t : TypeId} (h : abinI op k a b = some v) (h1 : op ≠ .shl) (h2 : op ≠ .shr) : ∃ u, (binOp op t (.int k a) (.int k b)).run P w = .ok u w ∧ ARep G v u := by
  cases op <;> simp only [abinI, Option.some.injEq, reduceCtorEq] at h <;>
    first
      | (exact absurd rfl h1)
      | (exact absurd rfl h2)
      | (subst h; refine ⟨_, ?_, .i _ _⟩; simp [binOp, Op.intArith, Op.intCmp, Op.intBits]; done)
      | (subst h; refine ⟨_, ?_, .b _⟩; simp [binOp, Op.intArith, Op.intCmp, Op.intBits]; done)
      | (split at h
         · cases h
         · rename_i hb; cases h; refine ⟨_, ?_, .i _ _⟩; simp [binOp, Op.intDiv, hb])
theorem aeqn_run {op : BinOp} {t : TypeId} {a b : Value} {r : Bool} (h : aeqn op r = some v) (hne : ∀ k n, a ≠ .int k n) (hs : ∀ s, a ≠ .string s) (hf : ∀ k n, a ≠ .float k n) (hcx : ∀ k n m, a ≠ .complex k n m) (he : (Op.equal t a b).run P w = .ok r w) : ∃ u, (binOp op t a b).run P w = .ok u w ∧ ARep G v u := by
  unfold aeqn at h
  split at h
  · cases h
    refine ⟨.bool r, ?_, .b _⟩
    cases a <;> cases b <;> first | (exact absurd rfl (hne _ _)) | (exact absurd rfl (hs _)) | (exact absurd rfl (hf _ _)) | (exact absurd rfl (hcx _ _ _)) | simp [binOp, he]
  · cases h
    refine ⟨.bool (!r), ?_, .b _⟩
    cases a <;> cases b <;> first | (exact absurd rfl (hne _ _)) | (exact absurd rfl (hs _)) | (exact absurd rfl (hf _ _)) | (exact absurd rfl (hcx _ _ _)) | simp [binOp, he]
  · cases h

theorem run_equalIn_atom {d q : Nat} {t : TypeId} {x y : AV} {u p : Value} {r : Bool} (hx : ARep G x u) (hy : ARep G y p) (h : aeq1 q x y = some r)
    (ht : (q = 0 → P.underlying t = some .bool) ∧ (q = 1 → ∃ k, P.underlying t = some (.int k)) ∧ (q = 2 → P.underlying t = some .string)) : (Op.equalIn (d + 1) t u p).run P w = .ok r w := by
  unfold aeq1 at h
  split at h
  · cases h; cases hx; cases hy
    simp [Op.equalIn, run_underlying (ht.1 rfl)]
  · split at h
    · rename_i e; subst e
      cases h; cases hx; cases hy
      obtain ⟨k, hk⟩ := ht.2.1 rfl
      simp [Op.equalIn, run_underlying hk]
    · cases h
  · cases h; cases hx; cases hy
    simp [Op.equalIn, run_underlying (ht.2.2 rfl)]
  · cases h

theorem eqLeaves_agg : ∀ {d : Nat} {t : TypeId} {ls : List (Nat × Nat)}, eqLeaves P d t = some ls → ∃ b, aggT P t = some b
  | 0, t, ls, h => by simp [eqLeaves] at h
  | d + 1, t, ls, h => by
    unfold eqLeaves at h
    cases hu : P.underlying t with
    | none => simp [hu] at h
    | some u => exact ⟨_, by rw [aggT, hu]; rfl⟩
theorem eqLeaves_atom {d : Nat} {t : TypeId} {ls : List (Nat × Nat)} (h : eqLeaves P d t = some ls) (ha : aggT P t = some false) : ∃ q, ls = [(0, q)] := by
  cases d with
  | zero => simp [eqLeaves] at h
  | succ d =>
    unfold eqLeaves at h
    split at h
    · cases h; exact ⟨_, rfl⟩
    · cases h; exact ⟨_, rfl⟩
    · cases h; exact ⟨_, rfl⟩
    · rename_i hu; simp [aggT, hu] at ha
    · cases h
theorem aeqL_append (xs ys : List AV) : ∀ (a b : List (Nat × Nat)) (r : Bool), aeqL xs ys (a ++ b) = some r → ∃ c d, aeqL xs ys a = some c ∧ aeqL xs ys b = some d ∧ r = (c && d)
  | [], b, r, h => ⟨true, r, rfl, h, by simp⟩
  | (o, q) :: a, b, r, h => by
    simp only [List.cons_append, aeqL, Option.bind_eq_bind, Option.bind_eq_some_iff] at h ⊢
    obtain ⟨x, hx, y, hy, c, hc, d, hd, he⟩ := h
    obtain ⟨c', d', h1, h2, h3⟩ := aeqL_append xs ys a b d hd
    refine ⟨c && c', d', ⟨x, hx, y, hy, c, hc, c', h1, rfl⟩, h2, ?_⟩
    cases he; subst h3; simp [Bool.and_assoc]
theorem aeqL_shift (xs ys : List AV) (off : Nat) : ∀ (a : List (Nat × Nat)), aeqL (xs.drop off) (ys.drop off) a = aeqL xs ys (a.map fun p => (off + p.1, p.2))
  | [] => rfl
  | (o, q) :: a => by simp only [List.map_cons, aeqL, List.getElem?_drop, aeqL_shift xs ys off a]
theorem aeqL_take (xs ys : List AV) (n : Nat) : ∀ (a : List (Nat × Nat)), a.all (·.1 < n) = true → aeqL (xs.take n) (ys.take n) a = aeqL xs ys a
  | [], _ => rfl
  | (o, q) :: a, h => by
    simp only [List.all_cons, Bool.and_eq_true, decide_eq_true_eq] at h
    simp only [aeqL, List.getElem?_take, if_pos h.1, aeqL_take xs ys n a h.2]

/-- What '==' of two structs comes to. -/
theorem run_equalIn_leaves : ∀ (d D : Nat) (hD : d ≤ D) (t : TypeId) (ls : List (Nat × Nat)) (xs ys : List AV) (us vs : List Value) (r : Bool) (b : Bool) (x y : AV), eqLeaves P d t = some ls → AReps G xs us → AReps G ys vs → aeqL xs ys ls = some r → aggT P t = some b →
    (b = true → (Op.equalIn D t (.agg us.toArray) (.agg vs.toArray)).run P w = .ok r w) ∧ (b = false → ∀ u p, us[0]? = some u → vs[0]? = some p → (Op.equalIn D t u p).run P w = .ok r w)
  | 0, D, _, t, ls, xs, ys, us, vs, r, b, _, _, hl, _, _, _, _ => by simp [eqLeaves] at hl
  | d + 1, 0, hD, t, ls, xs, ys, us, vs, r, b, _, _, hl, _, _, _, _ => by omega
  | d + 1, D + 1, hD, t, ls, xs, ys, us, vs, r, b, x0, y0, hl, hx, hy, hr, hb => by
    have atom : ∀ q : Nat, ls = [(0, q)] → ((q = 0 → P.underlying t = some .bool) ∧ (q = 1 → ∃ k, P.underlying t = some (.int k)) ∧ (q = 2 → P.underlying t = some .string)) →
        ∀ u p, us[0]? = some u → vs[0]? = some p → (Op.equalIn (D + 1) t u p).run P w = .ok r w := by
      rintro q rfl ht u p hu hp
      simp only [aeqL] at hr
      cases h1 : xs[0]? with
      | none => simp [h1] at hr
      | some x =>
        cases h2 : ys[0]? with
        | none => simp [h1, h2] at hr
        | some y =>
          cases h3 : aeq1 q x y with
          | none => simp [h1, h2, h3] at hr
          | some c =>
            simp [h1, h2, h3] at hr
            subst hr
            exact run_equalIn_atom (hx.2 0 x u h1 hu) (hy.2 0 y p h2 hp) h3 ht
    unfold eqLeaves at hl
    split at hl
    · rename_i hu
      cases hl
      simp [aggT, hu] at hb; subst hb
      exact ⟨fun h => (by cases h), fun _ => atom 0 rfl ⟨fun _ => hu, by omega, by omega⟩⟩
    · rename_i k hu
      cases hl
      simp [aggT, hu] at hb; subst hb
      exact ⟨fun h => (by cases h), fun _ => atom 1 rfl ⟨by omega, fun _ => ⟨k, hu⟩, by omega⟩⟩
    · rename_i hu
      cases hl
      simp [aggT, hu] at hb; subst hb
      exact ⟨fun h => (by cases h), fun _ => atom 2 rfl ⟨by omega, by omega, fun _ => hu⟩⟩
    · rename_i fs hu
      simp [aggT, hu] at hb; subst hb
      refine ⟨fun _ => ?_, fun h => (by cases h)⟩
      split at hl
      · cases hl
      · rename_i hst
        have hst' : P.stoodInHeld t = false := by simpa using hst
        have hfs : P.fieldsOf t = fs := by simp [Program.fieldsOf, hu]
        rw [run_equalIn_struct w D t us.toArray vs.toArray (by rw [hfs]; exact hu) hst', hfs]
        generalize fs.toList = fl at hl
        clear hst hfs hu
        cases hm : fl.mapM (eqFieldWith P (eqLeaves P d)) with
        | none => rw [hm] at hl; cases hl
        | some lss =>
          rw [hm] at hl
          simp at hl; subst hl
          clear atom
          induction fl generalizing lss r with
          | nil =>
            simp at hm; subst hm
            simp [aeqL] at hr; subst hr
            simp [Op.eqFields]
          | cons f fl ih =>
            rw [List.mapM_cons] at hm
            cases h0 : eqFieldWith P (eqLeaves P d) f with
            | none => simp [h0] at hm
            | some ls0 =>
              cases h3 : fl.mapM (eqFieldWith P (eqLeaves P d)) with
              | none => simp [h0, h3] at hm
              | some l2 =>
                simp [h0, h3] at hm
                subst hm
                unfold eqFieldWith at h0
                split at h0
                · cases h0
                · rename_i hname
                  split at h0
                  · cases h0
                  · rename_i n h1
                    split at h0
                    · cases h0
                    · rename_i l1 h2
                      split at h0
                      · rename_i hall
                        cases h0
                        rw [List.flatten_cons] at hr
                        obtain ⟨c, e, hc, he, rfl⟩ := aeqL_append _ _ _ _ _ hr
                        obtain ⟨b', hb'⟩ := eqLeaves_agg h2
                        have hn : f.name ≠ "_" := by simpa using hname
                        have hih := ih e l2 h3 he
                        simp only [Op.eqFields, if_pos hn]
                        rw [← aeqL_shift] at hc
                        cases b' with
                        | true =>
                          rw [← aeqL_take _ _ n l1 hall] at hc
                          have hrec := (run_equalIn_leaves d D (by omega) f.type l1 _ _ _ _ c true x0 y0 h2 ((hx.drop f.offset).take n) ((hy.drop f.offset).take n) hc hb').1 rfl
                          have p1 : ∀ zs : List Value, (part f.type zs.toArray f.offset).run P w = .ok (.agg ((zs.drop f.offset).take n).toArray) w := fun zs => by
                            simp [part, run_aggT hb', run_size h1]
                          simp only [Sem.run_bind, p1, Result.andThen_ok, hrec]
                          cases c
                          · simp
                          · simpa using hih
                        | false =>
                          have hrec := (run_equalIn_leaves d D (by omega) f.type l1 _ _ _ _ c false x0 y0 h2 (hx.drop f.offset) (hy.drop f.offset) hc hb').2 rfl
                          obtain ⟨q, rfl⟩ := eqLeaves_atom h2 hb'
                          simp only [aeqL, Option.bind_eq_bind, Option.bind_eq_some_iff] at hc
                          obtain ⟨x, hx0, y, hy0, _⟩ := hc
                          obtain ⟨u, hu0, _⟩ := (hx.drop f.offset).get hx0
                          obtain ⟨p, hp0, _⟩ := (hy.drop f.offset).get hy0
                          have p1 : ∀ (zs : List Value) (z : Value), (zs.drop f.offset)[0]? = some z → (part f.type zs.toArray f.offset).run P w = .ok z w := fun zs z hz => by
                            rw [List.getElem?_drop, Nat.add_zero] at hz
                            simp [part, run_aggT hb', hz]
                          simp only [Sem.run_bind, p1 _ _ hu0, p1 _ _ hp0, Result.andThen_ok, hrec u p hu0 hp0]
                          cases c
                          · simp
                          · simpa using hih
                      · cases h0
    · cases hl

theorem eqTOf_bool {t : TypeId} (h : eqTOf P t = .bool) : P.underlying t = some .bool := by
  unfold eqTOf at h
  split at h <;> first | assumption | (cases h; done) | (split at h <;> first | (cases h; done) | (split at h <;> cases h))
theorem eqTOf_ptr {t : TypeId} (h : eqTOf P t = .ptr) : ∃ z, P.underlying t = some (.pointer z) := by
  unfold eqTOf at h
  split at h <;> first | exact ⟨_, by assumption⟩ | (cases h; done) | (split at h <;> first | (cases h; done) | (split at h <;> cases h))
theorem eqTOf_func {t : TypeId} (h : eqTOf P t = .func) : ∃ a b c, P.underlying t = some (.func a b c) := by
  unfold eqTOf at h
  split at h <;> first | exact ⟨_, _, _, by assumption⟩ | (cases h; done) | (split at h <;> first | (cases h; done) | (split at h <;> cases h))
theorem eqTOf_agg {t : TypeId} {ls : List (Nat × Nat)} (h : eqTOf P t = .agg ls) : P.eqGuardType P.depth t = false ∧ eqLeaves P 50 t = some ls ∧ aggT P t = some true := by
  unfold eqTOf at h
  split at h <;> try (cases h; done)
  rename_i fs hu
  split at h
  · cases h
  · rename_i hg
    split at h
    · rename_i ls' hl
      cases h
      exact ⟨by simpa using hg, hl, by simp [aggT, hu]⟩
    · cases h
theorem equal_of {t : TypeId} {a b : Value} {r : Bool} (h : ∀ d, 50 ≤ d → (Op.equalIn (d + 1) t a b).run P w = .ok r w) : (Op.equal t a b).run P w = .ok r w := h 9999 (by omega)
theorem res_bin {op : BinOp} {t t' : TypeId} {x y : Operand} {x' y' : X} (hm : MemSim B G w σ) (hρ : Opnds G fr ρ) (ho : o.op = .binOp op t x y t') (hx : lowX x = some x') (hy : lowX y = some y') (hv : abin op (eqTOf P t) (aev fr x') (aev fr y') = some v) :
    Res B G w σ ver ((execOp ρ o).run P w) v [] := by
  have h1 := hρ x x' hx
  have h2 := hρ y y' hy
  generalize aev fr x' = av at hv h1
  generalize aev fr y' = bv at hv h2
  have go2 : (∀ cs, ρ x ≠ .agg cs) ∧ ρ x ≠ .nilIface → (∃ u, (binOp op t (ρ x) (ρ y)).run P w = .ok u w ∧ ARep G v u) → Res B G w σ ver ((execOp ρ o).run P w) v [] := by
    rintro a ⟨u, b, c⟩
    exact res_bin_of hm ho (guard_free a) b c
  have go3 : ∀ xs ys, ρ x = .agg xs → ρ y = .agg ys → P.eqGuardType P.depth t = false → (∃ u, (binOp op t (ρ x) (ρ y)).run P w = .ok u w ∧ ARep G v u) → Res B G w σ ver ((execOp ρ o).run P w) v [] := by
    rintro xs ys e1 e2 hg ⟨u, b, c⟩
    exact res_bin_of hm ho (by rw [e1, e2]; exact run_eqGuard_agg w op t x y xs ys hg) b c
  generalize ρ x = u at h1 go2 go3
  generalize ρ y = q at h2 go2 go3
  unfold abin at hv
  split at hv
  · rename_i k a k' b
    cases h1; cases h2
    refine go2 ⟨by simp, by simp⟩ ?_
    split at hv
    · split at hv
      · cases hv
      · rename_i hb
        cases hv
        exact ⟨.int k _, by simp [binOp, Op.shift, hb], .i _ _⟩
    · split at hv
      · cases hv
      · rename_i hb
        cases hv
        exact ⟨.int k _, by simp [binOp, Op.shift, hb], .i _ _⟩
    · rename_i n1 n2
      split at hv
      · rename_i e; subst e
        exact abinI_run hv n1 n2
      · cases hv
  · rename_i a b
    cases h1; cases h2
    refine go2 ⟨by simp, by simp⟩ ?_
    unfold abinS at hv
    split at hv
    · split at hv
      · rename_i hs
        cases hv
        have hs' : ¬ ((a.size + b.size : Nat) : Int) > IntKind.i64.max := by
          have : IntKind.i64.max = 9223372036854775807 := rfl
          omega
        exact ⟨.string (a ++ b), by simp only [binOp, Op.stringOp, if_neg hs', Sem.run_pure], .s _⟩
      · cases hv
    · cases hv; exact ⟨.bool _, by simp [binOp, Op.stringOp], .b _⟩
    · cases hv; exact ⟨.bool _, by simp only [binOp, Op.stringOp, Sem.run_pure], .b _⟩
    · cases hv
  · cases h1; cases h2
    refine go2 ⟨by simp, by simp⟩ ?_
    split at hv
    · rename_i he
      exact aeqn_run hv (by simp) (by simp) (by simp) (by simp) (equal_of fun d _ => by simp [Op.equalIn, run_underlying (eqTOf_bool he)])
    · cases hv
  · cases h1; cases h2
    refine go2 ⟨by simp, by simp⟩ ?_
    split at hv
    · rename_i he
      obtain ⟨z, hz⟩ := eqTOf_ptr he
      exact aeqn_run hv (by simp) (by simp) (by simp) (by simp) (equal_of fun d _ => by simp [Op.equalIn, run_underlying hz])
    · cases hv
  iterate 4
    · cases h1; cases h2
      refine go2 ⟨by simp, by simp⟩ ?_
      split at hv
      · rename_i he
        obtain ⟨z, hz⟩ := eqTOf_ptr he
        exact aeqn_run hv (by simp) (by simp) (by simp) (by simp) (equal_of fun d _ => by simp [Op.equalIn, run_underlying hz])
      · cases hv
  iterate 3
    · cases h1; cases h2
      refine go2 ⟨by simp, by simp⟩ ?_
      split at hv
      · rename_i he
        obtain ⟨a, b, c, hz⟩ := eqTOf_func he
        exact aeqn_run hv (by simp) (by simp) (by simp) (by simp) (equal_of fun d _ => by simp [Op.equalIn, run_underlying hz])
      · cases hv
  · obtain ⟨us, rfl, hr⟩ := arep_ag_inv h1
    obtain ⟨ws, rfl, hs⟩ := arep_ag_inv h2
    split at hv
    · rename_i ls he
      obtain ⟨hg, hl, ha⟩ := eqTOf_agg he
      obtain ⟨r, hr', hv'⟩ := Option.bind_eq_some_iff.1 hv
      refine go3 _ _ rfl rfl hg ?_
      exact aeqn_run hv' (by simp) (by simp) (by simp) (by simp) (equal_of fun d hd => (run_equalIn_leaves 50 (d + 1) (by omega) t ls _ _ us ws r true .bot .bot hl hr hs hr' ha).1 rfl)
    · cases hv
  · cases hv
end Go.Am
/- append. -/
namespace Go.Am
open Go.RowKit
set_option linter.unusedSimpArgs false
set_option linter.unusedVariables false
variable {P : Program} {B : Base} {G : Gh} {w : World} {σ : Store} {ver : Nat} {key : Key} {fr : List AV} {ρ : Operand → Value} {o : Oper} {lo : LO} {v : AV} {rd : List Key} {wr : List (Key × AO)}

/-- An object without a block: what a nil slice becomes. -/
theorem MemSim.virt (h : MemSim B G w σ) {k : Key} (hv : G.io k ver = none) (esz : Nat) : MemSim B (G.put k ver ⟨none, esz, 0⟩) w (sset σ k ⟨ver, .rows esz []⟩) := by
  have hle := Gh.le_put (L := ⟨none, esz, 0⟩) hv
  have hlive : ∀ b, Live (G.put k ver ⟨none, esz, 0⟩) (sset σ k ⟨ver, .rows esz []⟩) b → Live G σ b := by
    rintro b ⟨k', o, L, hk, hL, hb⟩
    rw [sget_sset] at hk
    split at hk
    · rename_i e; subst e; cases hk
      rw [Gh.put_same] at hL; cases hL; cases hb
    · rename_i e
      rw [Gh.put_other _ _ _ _ (fun h => e h.1.symm)] at hL
      exact ⟨k', o, L, hk, hL, hb⟩
  exact
  { hF := h.hF
    hF0 := h.hF0
    obj := fun k' o hk => by
      rw [sget_sset] at hk
      split at hk
      · rename_i e; subst e; cases hk
        exact ⟨_, Gh.put_same _ _ _ _, rfl, Nat.le_refl _, fun i cs hi => by simp at hi, rfl⟩
      · obtain ⟨L, hL, hr⟩ := h.obj k' o hk
        exact ⟨L, hle.io _ _ _ hL, hr.mono hle (fun b hb => rfl)⟩
    sepF := fun b hb o => h.sepF b (hlive b hb) o
    sep := fun k1 k2 o1 o2 L1 L2 b h1 h2 e1 e2 b1 b2 => by
      rw [sget_sset] at h1 h2
      split at h1 <;> split at h2
      · rename_i a1 a2; exact a1.symm.trans a2
      · rename_i a1 a2
        subst a1; cases h1
        rw [Gh.put_same] at e1; cases e1; cases b1
      · rename_i a1 a2
        subst a2; cases h2
        rw [Gh.put_same] at e2; cases e2; cases b2
      · rename_i a1 a2
        rw [Gh.put_other _ _ _ _ (fun h => a1 h.1.symm)] at e1
        rw [Gh.put_other _ _ _ _ (fun h => a2 h.1.symm)] at e2
        exact h.sep k1 k2 o1 o2 L1 L2 b h1 h2 e1 e2 b1 b2
    own := fun b hb => h.own b (hlive b hb)
    fin := by
      obtain ⟨N, hN⟩ := h.fin
      refine ⟨max N (ver + 1), fun k' v' hv' => ?_⟩
      rw [Gh.put_other]
      · exact hN k' v' (by omega)
      · rintro ⟨_, rfl⟩; omega
    os := h.os
    tape := h.tape
    output := h.output
    size := h.size
    keep := h.keep
    fz := h.fz }

/-- The cells of rows, one behind the other. -/
def flatU (us : Nat → Nat → Value) (m esz : Nat) : List Value := (List.range (m * esz)).map fun q => us (q / esz) (q % esz)
theorem flatU_get (us : Nat → Nat → Value) (m esz i j : Nat) (hi : i < m) (hj : j < esz) : (flatU us m esz)[i * esz + j]? = some (us i j) := by
  have hlt : i * esz + j < m * esz := by
    calc i * esz + j < i * esz + esz := by omega
      _ = (i + 1) * esz := by rw [Nat.succ_mul]
      _ ≤ m * esz := Nat.mul_le_mul_right _ hi
  unfold flatU
  rw [List.getElem?_map, List.getElem?_range hlt]
  have h1 : (i * esz + j) / esz = i := by rw [Nat.mul_comm, Nat.mul_add_div (by omega), Nat.div_eq_of_lt hj]; omega
  have h2 : (i * esz + j) % esz = j := by rw [Nat.mul_comm, Nat.mul_add_mod, Nat.mod_eq_of_lt hj]
  simp [h1, h2]
theorem flatU_at (us : Nat → Nat → Value) (m esz q : Nat) (u : Value) (h : (flatU us m esz)[q]? = some u) : q / esz < m ∧ q % esz < esz ∧ u = us (q / esz) (q % esz) ∧ q = (q / esz) * esz + q % esz := by
  unfold flatU at h
  have hl := (List.getElem?_eq_some_iff.1 h).1
  simp at hl
  rw [List.getElem?_map, List.getElem?_range hl] at h
  simp at h
  have he : 0 < esz := by
    rcases Nat.eq_zero_or_pos esz with rfl | he
    · simp at hl
    · exact he
  exact ⟨(Nat.div_lt_iff_lt_mul he).2 hl, Nat.mod_lt _ he, h.symm, by rw [Nat.mul_comm]; exact (Nat.div_add_mod q esz).symm⟩

/-- What a slice's rows are in memory. -/
theorem arows_spec (hm : MemSim B G w σ) {esz : Nat} {y : AV} {q : Value} {new : List (List AV)} (h : arows σ esz y = some (new, rd)) (hr : ARep G y q) :
    ∃ a c us, q = .slice a new.length c ∧ new.length ≤ c ∧ (∀ (i : Nat) (cs : List AV), new[i]? = some cs → cs.length = esz) ∧ (∀ (i : Nat) (cs : List AV) (j : Nat) (x : AV), new[i]? = some cs → cs[j]? = some x → ARep G x (us i j)) ∧
      (new.length = 0 ∨ ∃ ad : Addr, a = some ad ∧ ∀ j u, (flatU us new.length esz)[j]? = some u → w.cell? (ad.add j) = some u) := by
  unfold arows at h
  split at h
  · cases h; cases hr
    exact ⟨_, 0, fun _ _ => undef, rfl, Nat.le_refl _, fun i cs hi => by simp at hi, fun i cs j x hi => by simp at hi, .inl rfl⟩
  · rename_i rows
    split at h
    · rename_i hall
      cases h
      cases hr with
      | sl _ a cap esz' us hcap blk p ha hz hF hr =>
        have hz' : ∀ (i : Nat) (cs : List AV), new[i]? = some cs → cs.length = esz := fun i cs hi => by
          have := List.all_eq_true.1 hall cs (List.mem_of_getElem? hi)
          simpa using this
        refine ⟨a, cap, us, rfl, hcap, hz', hr, ?_⟩
        by_cases h0 : new = []
        · left; simp [h0]
        · right
          refine ⟨_, ha h0, fun j u hj => ?_⟩
          obtain ⟨h1, h2, rfl, h4⟩ := flatU_at _ _ _ _ _ hj
          have hr1 := List.getElem?_eq_getElem h1
          have hl := hz' _ _ hr1
          have hl' := hz _ _ hr1
          have := hF _ _ (j % esz) _ hr1 (List.getElem?_eq_getElem (by rw [hl]; exact h2))
          rw [← hl', hl, ← h4] at this
          rw [add_none]
          exact hm.hF _ _ _ this
    · cases h
  · rename_i k kv off len
    split at h
    · rename_i kv' esz' rs hk
      split at h
      · rename_i hc
        obtain ⟨rfl, rfl, hlen⟩ := hc
        cases h
        cases hr with
        | row _ _ _ _ a cap L hL hR =>
          obtain ⟨r1, r2, r3⟩ := hR
          obtain ⟨L', hL', e1, e2, e3, e4⟩ := hm.obj k _ hk
          rw [hL] at hL'; cases hL'
          have hnl : ((rs.drop off).take len).length = len := by simp; omega
          have hz' : ∀ (i : Nat) (cs : List AV), ((rs.drop off).take len)[i]? = some cs → cs.length = esz' := fun i cs hi => by
            rw [List.getElem?_take] at hi
            split at hi
            · rw [List.getElem?_drop] at hi; exact e3 _ _ hi
            · cases hi
          cases hb : L.blk with
          | none =>
            rw [hb] at e4
            have h0 : len = 0 := by simp at e4; omega
            subst h0
            exact ⟨a, cap, fun _ _ => undef, by simp, by simp, hz', fun i cs j x hi => by simp at hi, .inl (by simp)⟩
          | some b =>
            rw [hb] at e4
            obtain ⟨c, ty, hcc, hs, hx⟩ := e4
            refine ⟨a, cap, fun i j => (c[(off + i) * esz' + j]?).getD undef, by rw [hnl], by rw [hnl]; exact r2, hz', fun i cs j x hi hj => ?_, ?_⟩
            · rw [List.getElem?_take] at hi
              split at hi
              · rw [List.getElem?_drop] at hi
                obtain ⟨u, hu, hru⟩ := hx _ _ _ _ hi hj
                simp only [hu, Option.getD_some]; exact hru
              · cases hi
            · rw [hnl]
              by_cases h0 : len = 0
              · exact .inl h0
              · right
                obtain ⟨b', hb', ha⟩ := r3 (by omega)
                rw [hb] at hb'; cases hb'
                refine ⟨_, ha, fun j u hj => ?_⟩
                obtain ⟨h1, h2, rfl, h4⟩ := flatU_at _ _ _ _ _ hj
                have hlt : off + j / esz' < rs.length := by omega
                have hr1 := List.getElem?_eq_getElem hlt
                obtain ⟨u, hu, _⟩ := hx _ _ (j % esz') _ hr1 (List.getElem?_eq_getElem (by rw [e3 _ _ hr1]; exact h2))
                rw [add_none, e1]
                have : off * esz' + j = (off + j / esz') * esz' + j % esz' := by rw [Nat.add_mul, Nat.add_assoc, ← h4]
                simp only [World.cell?, hcc, this, hu, Option.getD_some]
                simp
      · cases h
    · cases h
  · cases h

theorem firstCells_src {a : Option Addr} {m c esz : Nat} {us : Nat → Nat → Value} (h : m = 0 ∨ ∃ ad : Addr, a = some ad ∧ ∀ j u, (flatU us m esz)[j]? = some u → w.cell? (ad.add j) = some u) :
    (Builtin.firstCells esz m (.slice a m c)).run P w = .ok (flatU us m esz).toArray w := by
  rcases h with rfl | ⟨ad, rfl, h⟩
  · cases a <;> simp [Builtin.firstCells, flatU, loadCells, loadCellsFrom]
  · have hl : (flatU us m esz).length = m * esz := by simp [flatU]
    have := run_loadCells_list (P := P) w ad (flatU us m esz) h
    rw [hl] at this
    simp only [Builtin.firstCells, this]
theorem run_app_grow {t e : TypeId} {i : TypeInfo} {z : Value} (ty : TypeId) (ht : P.underlying t = some (.slice e)) (hi : P.info? e = some i) (hz : i.zero = some z) {a0 a : Option Addr} {n cap m c : Nat} {xs us : Nat → Nat → Value}
    (h0 : n = 0 ∨ ∃ ad : Addr, a0 = some ad ∧ ∀ j u, (flatU xs n i.size)[j]? = some u → w.cell? (ad.add j) = some u) (h1 : m = 0 ∨ ∃ ad : Addr, a = some ad ∧ ∀ j u, (flatU us m i.size)[j]? = some u → w.cell? (ad.add j) = some u)
    (hg : cap < n + m) (hb0 : 0 < i.bytes) (hb : (n + m) * i.bytes ≤ 140737488355328) :
    (Builtin.append_ #[t, t] ty #[.slice a0 n cap, .slice a m c]).run P w =
      .ok (.slice (some ⟨w.heap.size, 0, none⟩) (n + m) (grownCap w (n + m) cap e))
        (w.drew.alloc (.cells ((flatU xs n i.size).toArray ++ (flatU us m i.size).toArray ++ Builtin.zeroCells z.cells (grownCap w (n + m) cap e - (n + m))) e)) := by
  have hsmall : n + m ≤ 140737488355328 := Nat.le_trans (Nat.le_mul_of_pos_right _ hb0) hb
  have hn : ¬ (n + m ≤ cap) := by omega
  have h63' : ¬ (9223372036854775807 < ((n : Int) + (m : Int))) := by omega
  have hfit := growslice_fits hg hb
  have h48' : ¬ (281474976710656 < Builtin.nextslicecap (n + m) cap * i.bytes) := by omega
  have hf := firstCells_src (P := P) (w := w.drew) (c := c) (esz := i.size) (us := us) (a := a) (m := m) (by simpa using h1)
  have hfo := firstCells_src (P := P) (w := w.drew) (c := cap) (esz := i.size) (us := xs) (a := a0) (m := n) (by simpa using h0)
  simp [Builtin.append_, run_underlying ht, sizeOf, typeInfo, zeroValue, hi, hz, Builtin.lenOf, hn, h63', h48', Question.forced, hf, hfo, newRow, grownCap]
  congr 2
  apply Array.ext'
  simp [List.append_assoc]
theorem run_app_room {t e : TypeId} {i : TypeInfo} (ty : TypeId) (ht : P.underlying t = some (.slice e)) (hi : P.info? e = some i) {a : Option Addr} {n cap m c b : Nat} {us : Nat → Nat → Value} {cur : Array Value} {te : TypeId} (hc : w.heap[b]? = some (.cells cur te (0, 0)))
    (h1 : m = 0 ∨ ∃ ad : Addr, a = some ad ∧ ∀ j u, (flatU us m i.size)[j]? = some u → w.cell? (ad.add j) = some u) (hone : ∀ u ∈ flatU us m i.size, u.oneCell' = true)
    (hg : n + m ≤ cap) (hfit : (n + m) * i.size ≤ cur.size) :
    (Builtin.append_ #[t, t] ty #[.slice (some ⟨b, 0, none⟩) n cap, .slice a m c]).run P w =
      .ok (.slice (some ⟨b, 0, none⟩) (n + m) cap) (w.setRow b (cur.toList.take (n * i.size) ++ flatU us m i.size ++ cur.toList.drop (n * i.size + (flatU us m i.size).length)).toArray) := by
  have hf := firstCells_src (P := P) (w := w) (c := c) (esz := i.size) (us := us) (a := a) (m := m) h1
  have hl : (flatU us m i.size).length = m * i.size := by simp [flatU]
  have hst := run_storeCells_at P b (n * i.size) te (flatU us m i.size) 0 cur w hc (by rw [hl, Nat.add_zero, ← Nat.add_mul]; exact hfit) hone
  simp only [Nat.add_zero] at hst
  simp [Builtin.append_, run_underlying ht, sizeOf, typeInfo, hi, Builtin.lenOf, hg, hf, Addr.add_lit, hst]
theorem run_app_none {t e : TypeId} {i : TypeInfo} (ty : TypeId) (ht : P.underlying t = some (.slice e)) (hi : P.info? e = some i) {a0 a : Option Addr} {n cap c : Nat} (hn : n ≤ cap) :
    (Builtin.append_ #[t, t] ty #[.slice a0 n cap, .slice a 0 c]).run P w = .ok (.slice a0 n cap) w := by
  have hf : (Builtin.firstCells i.size 0 (.slice a 0 c)).run P w = .ok #[] w := by cases a <;> simp [Builtin.firstCells, loadCells, loadCellsFrom]
  cases a0 <;> simp [Builtin.append_, run_underlying ht, sizeOf, typeInfo, hi, Builtin.lenOf, hn, hf, storeCells]
end Go.Am
