/- Part 3 of this work's library of abstract walks, packed by a program of this work. -/
import Derived.Test.YtibkakodokbobaaK2
set_option linter.unusedVariables false
set_option linter.unusedSimpArgs false
/- Contracts of functions whose arguments and results are values; calls. -/
namespace Go.Am
open Go.RowKit
set_option linter.unusedSimpArgs false
set_option linter.unusedVariables false

/-- No reference to a live object. -/
inductive Pure : AV → Prop where
  | bot : Pure .bot
  | b (x : Bool) : Pure (.b x)
  | i (k : IntKind) (n : Int) : Pure (.i k n)
  | s (x : ByteArray) : Pure (.s x)
  | nilp : Pure .nilp
  | nilf : Pure .nilf
  | esl : Pure .esl
  | ref (cs : List AV) (off : Nat) (h : ∀ x ∈ cs, Pure x) : Pure (.ref cs off)
  | sl (rows : List (List AV)) (h : ∀ r ∈ rows, ∀ x ∈ r, Pure x) : Pure (.sl rows)
  | fn (f : Nat) (a c : List AV) (ha : ∀ x ∈ a, Pure x) (hc : ∀ x ∈ c, Pure x) : Pure (.fn f a c)
  | ag (cs : List AV) (h : ∀ x ∈ cs, Pure x) : Pure (.ag cs)
  | tu (cs : List AV) (h : ∀ x ∈ cs, Pure x) : Pure (.tu cs)
  | nilm : Pure .nilm
  | mp (ks vs : List AV) (hk : ∀ x ∈ ks, Pure x) (hv : ∀ x ∈ vs, Pure x) : Pure (.mp ks vs)
/-- No reference to memory at all. -/
inductive Flat : AV → Prop where
  | b (x : Bool) : Flat (.b x)
  | i (k : IntKind) (n : Int) : Flat (.i k n)
  | s (x : ByteArray) : Flat (.s x)
  | nilp : Flat .nilp
  | nilf : Flat .nilf
  | esl : Flat .esl
  | ag (cs : List AV) (h : ∀ x ∈ cs, Flat x) : Flat (.ag cs)
  | tu (cs : List AV) (h : ∀ x ∈ cs, Flat x) : Flat (.tu cs)
  | nilm : Flat .nilm
def GF (F : Nat → Option Nat → Option Value) : Gh := ⟨F, fun _ _ => none⟩
theorem Pure.rep {G : Gh} {x : AV} {u : Value} (h : ARep G x u) : Pure x → ∀ F, (∀ b o u, G.F b o = some u → F b o = some u) → ARep (GF F) x u := by
  induction h with
  | bot v => exact fun _ F _ => .bot v
  | b x => exact fun _ F _ => .b x
  | i k n => exact fun _ F _ => .i k n
  | s x => exact fun _ F _ => .s x
  | nilp => exact fun _ F _ => .nilp
  | nilf => exact fun _ F _ => .nilf
  | ref cs off blk o us hF _ ih =>
    intro hp F hle
    cases hp with
    | ref _ _ h => exact .ref cs off blk o us (fun j x hj => hle _ _ _ (hF j x hj)) (fun j x hj => ih j x hj (h x (List.mem_of_getElem? hj)) F hle)
  | ptr k ver i off L b hL hb => intro hp; cases hp
  | esl a => exact fun _ F _ => .esl a
  | sl rows a cap esz us hcap blk o ha hz hF _ ih =>
    intro hp F hle
    cases hp with
    | sl _ h => exact .sl rows a cap esz us hcap blk o ha hz (fun i cs j x hi hj => hle _ _ _ (hF i cs j x hi hj)) (fun i cs j x hi hj => ih i cs j x hi hj (h cs (List.mem_of_getElem? hi) x (List.mem_of_getElem? hj)) F hle)
  | row k ver off len a cap L hL hR => intro hp; cases hp
  | fn f first caps us ws _ _ ih1 ih2 =>
    intro hp F hle
    cases hp with
    | fn _ _ _ ha hc => exact .fn f first caps us ws (fun j x hj => ih1 j x hj (ha x (List.mem_of_getElem? hj)) F hle) (fun j x hj => ih2 j x hj (hc x (List.mem_of_getElem? hj)) F hle)
  | ag cs us _ ih =>
    intro hp F hle
    cases hp with
    | ag _ h => exact .ag cs us (fun j x hj => ih j x hj (h x (List.mem_of_getElem? hj)) F hle)
  | tu cs us _ ih =>
    intro hp F hle
    cases hp with
    | tu _ h => exact .tu cs us (fun j x hj => ih j x hj (h x (List.mem_of_getElem? hj)) F hle)
  | nilm => exact fun _ F _ => .nilm
  | mp ks vs b es us ws hF hk hv he _ _ ih1 ih2 =>
    intro hp F hle
    cases hp with
    | mp _ _ h1 h2 => exact .mp ks vs b es us ws (hle _ _ _ hF) hk hv he (fun j x hj => ih1 j x hj (h1 x (List.mem_of_getElem? hj)) F hle) (fun j x hj => ih2 j x hj (h2 x (List.mem_of_getElem? hj)) F hle)
  | mpr k ver L b hL hb => intro hp; cases hp
  | yl l => intro hp; cases hp
theorem Flat.rep {G : Gh} {x : AV} {u : Value} (h : ARep G x u) : Flat x → ∀ G', ARep G' x u := by
  induction h with
  | b x => exact fun _ F => .b x
  | i k n => exact fun _ F => .i k n
  | s x => exact fun _ F => .s x
  | nilp => exact fun _ F => .nilp
  | nilf => exact fun _ F => .nilf
  | esl a => exact fun _ F => .esl a
  | nilm => exact fun _ F => .nilm
  | ag cs us _ ih =>
    intro hp F
    cases hp with
    | ag _ h => exact .ag cs us (fun j x hj => ih j x hj (h x (List.mem_of_getElem? hj)) F)
  | tu cs us _ ih =>
    intro hp F
    cases hp with
    | tu _ h => exact .tu cs us (fun j x hj => ih j x hj (h x (List.mem_of_getElem? hj)) F)
  | _ => intro hp; cases hp
theorem rep_lift {F : Nat → Option Nat → Option Value} {G : Gh} {x : AV} {u : Value} (h : ARep (GF F) x u) (hle : ∀ b o u, F b o = some u → G.F b o = some u) : ARep G x u :=
  h.mono ⟨hle, fun k v L e => by simp [GF] at e⟩

/-- What a value is when the live objects that it leads to are taken as they stand. -/
inductive Fz (σ : Store) (ks : List Key) : AV → AV → Prop where
  | pure (x : AV) (h : Pure x) : Fz σ ks x x
  | ptr (k : Key) (ver i off esz : Nat) (rs : List (List AV)) (cs cs' : List AV) (hk : k ∈ ks) (hs : sget σ k = some ⟨ver, .rows esz rs⟩) (hi : rs[i]? = some cs) (hl : cs.length = cs'.length) (h : ∀ (j : Nat) (x y : AV), cs[j]? = some x → cs'[j]? = some y → Fz σ ks x y) :
      Fz σ ks (.ptr k ver i off) (.ref cs' off)
  | row (k : Key) (ver off len esz : Nat) (rs rs' : List (List AV)) (hk : k ∈ ks) (hs : sget σ k = some ⟨ver, .rows esz rs⟩) (hb : off + len ≤ rs.length) (hl : rs'.length = len) (hz : ∀ r ∈ rs', r.length = esz)
      (h : ∀ (i : Nat) (cs cs' : List AV) (j : Nat) (x y : AV), rs[off + i]? = some cs → rs'[i]? = some cs' → cs[j]? = some x → cs'[j]? = some y → Fz σ ks x y) : Fz σ ks (.row k ver off len) (.sl rs')
  | fn (f : Nat) (a a' c c' : List AV) (ha : a.length = a'.length) (hc : c.length = c'.length) (h1 : ∀ (j : Nat) (x y : AV), a[j]? = some x → a'[j]? = some y → Fz σ ks x y) (h2 : ∀ (j : Nat) (x y : AV), c[j]? = some x → c'[j]? = some y → Fz σ ks x y) : Fz σ ks (.fn f a c) (.fn f a' c')
  | ag (cs cs' : List AV) (hl : cs.length = cs'.length) (h : ∀ (j : Nat) (x y : AV), cs[j]? = some x → cs'[j]? = some y → Fz σ ks x y) : Fz σ ks (.ag cs) (.ag cs')
  | tu (cs cs' : List AV) (hl : cs.length = cs'.length) (h : ∀ (j : Nat) (x y : AV), cs[j]? = some x → cs'[j]? = some y → Fz σ ks x y) : Fz σ ks (.tu cs) (.tu cs')
  | esl : Fz σ ks .esl (.sl [])
  | mpr (k : Key) (ver : Nat) (xs ys xs' ys' : List AV) (hk : k ∈ ks) (hs : sget σ k = some ⟨ver, .map xs ys⟩) (hx : xs.length = xs'.length) (hy : ys.length = ys'.length)
      (h1 : ∀ (j : Nat) (x y : AV), xs[j]? = some x → xs'[j]? = some y → Fz σ ks x y) (h2 : ∀ (j : Nat) (x y : AV), ys[j]? = some x → ys'[j]? = some y → Fz σ ks x y) : Fz σ ks (.mpr k ver) (.mp xs' ys')
theorem Fz.local {σ σ' : Store} {ks : List Key} {x y : AV} (h : Fz σ ks x y) (he : ∀ k ∈ ks, sget σ' k = sget σ k) : Fz σ' ks x y := by
  induction h with
  | pure x h => exact .pure x h
  | ptr k ver i off esz rs cs cs' hk hs hi hl _ ih => exact .ptr k ver i off esz rs cs cs' hk ((he k hk).trans hs) hi hl ih
  | row k ver off len esz rs rs' hk hs hb hl hz _ ih => exact .row k ver off len esz rs rs' hk ((he k hk).trans hs) hb hl hz ih
  | fn f a a' c c' ha hc _ _ ih1 ih2 => exact .fn f a a' c c' ha hc ih1 ih2
  | ag cs cs' hl _ ih => exact .ag cs cs' hl ih
  | tu cs cs' hl _ ih => exact .tu cs cs' hl ih
  | esl => exact .esl
  | mpr k ver xs ys xs' ys' hk hs hx hy _ _ ih1 ih2 => exact .mpr k ver xs ys xs' ys' hk ((he k hk).trans hs) hx hy ih1 ih2

open Classical in
/-- The memory that no one writes, the objects of some keys taken in. -/
noncomputable def frz (G : Gh) (w : World) (σ : Store) (ks : List Key) : Nat → Option Nat → Option Value := fun b o =>
  match G.F b o with
  | some u => some u
  | none => if (∃ k ob L, k ∈ ks ∧ sget σ k = some ob ∧ G.io k ob.ver = some L ∧ L.blk = some b) then rdm w b o else none

variable {P : Program} {B : Base} {G : Gh} {w : World} {σ : Store} {fr : List AV}

theorem frz_le (w : World) (σ : Store) (ks : List Key) : ∀ b o u, G.F b o = some u → frz G w σ ks b o = some u := fun b o u h => by simp [frz, h]
theorem frz_live (hm : MemSim B G w σ) {ks : List Key} {k : Key} {ob : AO} {L : Loc} {b : Nat} (hk : k ∈ ks) (hs : sget σ k = some ob) (hL : G.io k ob.ver = some L) (hb : L.blk = some b) (o : Option Nat) : frz G w σ ks b o = rdm w b o := by
  unfold frz
  rw [hm.sepF b (Live.of_get hs hL hb) o]
  simp only
  rw [if_pos ⟨k, ob, L, hk, hs, hL, hb⟩]
theorem frz_mem (hm : MemSim B G w σ) (ks : List Key) : ∀ b o u, frz G w σ ks b o = some u → rdm w b o = some u := fun b o u h => by
  unfold frz at h
  split at h
  · rename_i u' hu; cases h; exact hm.hF b o _ hu
  · split at h
    · exact h
    · cases h
theorem frz_nil (w : World) (σ : Store) : frz G w σ [] = G.F := by
  funext b o
  unfold frz
  split
  · rename_i h; exact h.symm
  · rename_i h; rw [if_neg (by rintro ⟨k, ob, L, hk, _⟩; cases hk)]; exact h.symm
theorem frz_of (hm : MemSim B G w σ) (ks : List Key) {b : Nat} {o : Option Nat} {u : Value} (h : frz G w σ ks b o = some u) : G.F b o = some u ∨ Live G σ b := by
  unfold frz at h
  split at h
  · rename_i u' hu; cases h; exact .inl hu
  · split at h
    · rename_i hk
      obtain ⟨k, ob, L, _, h1, h2, h3⟩ := hk
      exact .inr ⟨k, ob, L, h1, h2, h3⟩
    · cases h

theorem Fz.rep (hm : MemSim B G w σ) {ks : List Key} {x y : AV} (h : Fz σ ks x y) : ∀ u, ARep G x u → ARep (GF (frz G w σ ks)) y u := by
  induction h with
  | pure x h => exact fun u hr => h.rep hr _ (frz_le w σ ks)
  | ptr k ver i off esz rs cs cs' hk hs hi hl _ ih =>
    intro u hr
    cases hr with
    | ptr _ _ _ _ L b hL hb =>
      obtain ⟨L', b', c, ty, esz', rs', hs', hi', hL', hb', he, hcap, hc, hsz, hlen, hz, hxx⟩ := aobj_spec hm (k := k) (kv := ver) (i := i) (cs := cs) (by unfold aobj; rw [hs]; simp [hi])
      rw [hs] at hs'; cases hs'
      rw [hL] at hL'; cases hL'
      rw [hb] at hb'; cases hb'
      rw [he]
      refine .ref cs' off b (i * esz) (fun j => (c[i * esz + j]?).getD undef) (fun j y hj => ?_) (fun j y hj => ?_)
      all_goals
        have hjl : j < cs.length := by rw [hl]; exact (List.getElem?_eq_some_iff.1 hj).1
        have hx := List.getElem?_eq_getElem hjl
        obtain ⟨u, hu, hru⟩ := hxx i cs j _ hi hx
      · show frz G w σ ks b (some (i * esz + j)) = _
        rw [frz_live hm hk hs hL hb]
        simp [rdm, World.cell?, hc, hu]
      · simp only [hu, Option.getD_some]
        exact ih j _ y hx hj u hru
  | row k ver off len esz rs rs' hk hs hb hl hz _ ih =>
    intro u hr
    cases hr with
    | row _ _ _ _ a cap L hL hR =>
      obtain ⟨r1, r2, r3⟩ := hR
      obtain ⟨L', hL', e1, e2, e3, e4⟩ := hm.obj k _ hs
      rw [hL] at hL'; cases hL'
      subst hl
      cases hbk : L.blk with
      | none =>
        rw [hbk] at e4
        have h0 : rs' = [] := List.eq_nil_of_length_eq_zero (by simp at e4; omega)
        subst h0
        exact .sl [] a cap esz (fun _ _ => undef) (by simp) 0 0 (fun h => absurd rfl h) (fun i cs h => by simp at h) (fun i cs j x h => by simp at h) (fun i cs j x h => by simp at h)
      | some b =>
        rw [hbk] at e4
        obtain ⟨c, ty, hcc, hsz, hxx⟩ := e4
        have find : ∀ (i : Nat) (cs' : List AV) (j : Nat) (y : AV), rs'[i]? = some cs' → cs'[j]? = some y → ∃ cs x u, rs[off + i]? = some cs ∧ cs[j]? = some x ∧ c[(off + i) * esz + j]? = some u ∧ ARep G x u := by
          intro i cs' j y hi hj
          have hil : off + i < rs.length := by have := (List.getElem?_eq_some_iff.1 hi).1; omega
          have hr1 := List.getElem?_eq_getElem hil
          have hjl : j < (rs[off + i]).length := by
            rw [e3 _ _ hr1, ← hz cs' (List.mem_of_getElem? hi)]
            exact (List.getElem?_eq_some_iff.1 hj).1
          have hr2 := List.getElem?_eq_getElem hjl
          obtain ⟨u, hu, hru⟩ := hxx _ _ _ _ hr1 hr2
          exact ⟨_, _, u, hr1, hr2, hu, hru⟩
        refine .sl rs' a cap esz (fun i j => (c[(off + i) * esz + j]?).getD undef) r2 b (off * esz) (fun hne => ?_) (fun i cs hi => hz cs (List.mem_of_getElem? hi)) (fun i cs' j y hi hj => ?_) (fun i cs' j y hi hj => ?_)
        · have : rs'.length ≠ 0 := fun h => hne (List.eq_nil_of_length_eq_zero h)
          obtain ⟨b', hb', ha⟩ := r3 (by omega)
          rw [hbk] at hb'; cases hb'
          rw [ha, e1]
        · obtain ⟨cs, x, u, _, _, hu, _⟩ := find i cs' j y hi hj
          show frz G w σ ks b (some (off * esz + (i * esz + j))) = _
          rw [frz_live hm hk hs hL hbk]
          have e : off * esz + (i * esz + j) = (off + i) * esz + j := by rw [Nat.add_mul]; omega
          simp [rdm, World.cell?, hcc, e, hu]
        · obtain ⟨cs, x, u, h1, h2, hu, hru⟩ := find i cs' j y hi hj
          simp only [hu, Option.getD_some]
          exact ih i cs cs' j x y h1 hi h2 hj u hru
  | fn f a a' c c' ha hc _ _ ih1 ih2 =>
    intro u hr
    obtain ⟨us, vs, rfl, h1, h2⟩ := arep_fn_inv hr
    refine arep_fn ⟨ha ▸ h1.1, fun j y v hy hv => ?_⟩ ⟨hc ▸ h2.1, fun j y v hy hv => ?_⟩
    · have hjl : j < a.length := by rw [ha]; exact (List.getElem?_eq_some_iff.1 hy).1
      exact ih1 j _ y (List.getElem?_eq_getElem hjl) hy v (h1.2 j _ v (List.getElem?_eq_getElem hjl) hv)
    · have hjl : j < c.length := by rw [hc]; exact (List.getElem?_eq_some_iff.1 hy).1
      exact ih2 j _ y (List.getElem?_eq_getElem hjl) hy v (h2.2 j _ v (List.getElem?_eq_getElem hjl) hv)
  | ag cs cs' hl _ ih =>
    intro u hr
    obtain ⟨us, rfl, h1⟩ := arep_ag_inv hr
    refine arep_ag ⟨hl ▸ h1.1, fun j y v hy hv => ?_⟩
    have hjl : j < cs.length := by rw [hl]; exact (List.getElem?_eq_some_iff.1 hy).1
    exact ih j _ y (List.getElem?_eq_getElem hjl) hy v (h1.2 j _ v (List.getElem?_eq_getElem hjl) hv)
  | tu cs cs' hl _ ih =>
    intro u hr
    obtain ⟨us, rfl, h1⟩ := arep_tu_inv hr
    refine arep_tu ⟨hl ▸ h1.1, fun j y v hy hv => ?_⟩
    have hjl : j < cs.length := by rw [hl]; exact (List.getElem?_eq_some_iff.1 hy).1
    exact ih j _ y (List.getElem?_eq_getElem hjl) hy v (h1.2 j _ v (List.getElem?_eq_getElem hjl) hv)
  | esl =>
    intro u hr
    cases hr with
    | esl a => exact .sl [] a 0 0 (fun _ _ => undef) (by simp) 0 0 (fun h => absurd rfl h) (fun i cs h => by simp at h) (fun i cs j x h => by simp at h) (fun i cs j x h => by simp at h)
  | mpr k ver xs ys xs' ys' hk hs hx hy _ _ ih1 ih2 =>
    intro u hr
    cases hr with
    | mpr _ _ L b hL hb =>
      obtain ⟨L', hL', b', es, clock, e1, e2, e3, e4, e5, e6⟩ := hm.obj k _ hs
      rw [hL] at hL'; cases hL'
      rw [hb] at e1; cases e1
      refine .mp xs' ys' b es (fun j => ((es[j]?).map (·.key)).getD undef) (fun j => ((es[j]?).map (·.val)).getD undef) ?_ (hx ▸ e3) (hy ▸ e4) (fun j e he => by simp [he]) (fun j x hj => ?_) (fun j x hj => ?_)
      · show frz G w σ ks b none = _
        rw [frz_live hm hk hs hL hb]
        simp [rdm, e2]
      · have hjl : j < xs.length := by rw [hx]; exact (List.getElem?_eq_some_iff.1 hj).1
        have hje : j < es.size := by omega
        have he : es[j]? = some es[j] := by simp [hje]
        simp only [he, Option.map_some, Option.getD_some]
        exact ih1 j _ x (List.getElem?_eq_getElem hjl) hj _ (e5 j _ _ (List.getElem?_eq_getElem hjl) he)
      · have hjl : j < ys.length := by rw [hy]; exact (List.getElem?_eq_some_iff.1 hj).1
        have hje : j < es.size := by omega
        have he : es[j]? = some es[j] := by simp [hje]
        simp only [he, Option.map_some, Option.getD_some]
        exact ih2 j _ x (List.getElem?_eq_getElem hjl) hj _ (e6 j _ _ (List.getElem?_eq_getElem hjl) he)
end Go.Am
/- Contracts; calls by contract; a function's contract out of its body. -/
namespace Go.Am
open Go.RowKit
set_option linter.unusedSimpArgs false
set_option linter.unusedVariables false

/-- A function comes, of values, to a value; it writes nothing that was there. -/
def APure (P : Program) (f : Nat) (args : List AV) (res : AV) : Prop :=
  ∀ (F : Nat → Option Nat → Option Value) (w : World) (us : List Value), (∀ b o u, F b o = some u → rdm w b o = some u) → AReps (GF F) args us →
    Calls P f us.toArray w fun e w' => ∃ v F', e = .returned v ∧ (∀ b o u, F b o = some u → F' b o = some u) ∧ (∀ b o u, F' b o = some u → rdm w' b o = some u) ∧
      (∀ b o u, F' b o = some u → F b o = some u ∨ w.heap.size ≤ b) ∧ ARep (GF F') res v ∧ Keeps (fun _ => False) w w'

inductive LR where
  | tmp (t : Nat)
  | cell (t : Nat) (agg : Bool) (n : Nat)
structure LF where
  ntmps : Nat
  res : List LR
  body : LC
def lowR (P : Program) : ResultVar → Option LR
  | .tmp t => some (.tmp t)
  | .cell a t =>
    match aggT P t, szOf P t with
    | some g, some n => some (.cell a g n)
    | _, _ => none
def lowF (P : Program) (fn : Func) : Option LF :=
  if fn.name == "runtime.NumGoroutine" then none else
  match fn.body with
  | none => none
  | some c =>
    match lowC P c, fn.results.toList.mapM (lowR P) with
    | some body, some res => some ⟨fn.ntmps, res, body⟩
    | _, _ => none
def lowFn (P : Program) (f : Nat) : Option LF := (P.funcs[f]?).bind (lowF P)

variable {P : Program} {B : Base} {G : Gh} {w : World} {σ : Store} {fr : List AV} {a : Act}

theorem lowFn_spec {f : Nat} {lf : LF} (h : lowFn P f = some lf) : ∃ fn c, P.funcs[f]? = some fn ∧ fn.body = some c ∧ lowC P c = some lf.body ∧ fn.results.toList.mapM (lowR P) = some lf.res ∧ fn.ntmps = lf.ntmps ∧ (fn.name == "runtime.NumGoroutine") = false := by
  unfold lowFn at h
  obtain ⟨fn, hf, h⟩ := Option.bind_eq_some_iff.1 h
  unfold lowF at h
  split at h
  · cases h
  · rename_i hn
    split at h
    · cases h
    · rename_i c hc
      split at h
      · rename_i body res hb hr
        cases h
        exact ⟨fn, c, hf, hc, hb, hr, rfl, by simpa using hn⟩
      · cases h
theorem run_callFunc {f : Nat} {lf : LF} (h : lowFn P f = some lf) (args : Array Value) : (callFunc f args).run P w = .ok (.enter f args) w := by
  obtain ⟨fn, c, hf, hc, _, _, _, hn⟩ := lowFn_spec h
  have hn' : ¬ fn.name = "runtime.NumGoroutine" := by simpa using hn
  simp [callFunc, hf, hn', hc]

/-- What the callee of a call is, and the abstract values that it gets. -/
def acall (fr : List AV) : LO → Option (Nat × List AV)
  | .call f as0 => some (f, as0.map (aev fr))
  | .callv f as0 =>
    match aev fr f with
    | .fn g a c => some (g, a ++ as0.map (aev fr) ++ c)
    | _ => none
  | _ => none
theorem lowOp_call {op : Op} {ty : TypeId} {lo : LO} (hl : lowOp P op ty = some lo) (hc : (acall fr lo).isSome = true) :
    ∃ g as0 tys as', op = .call { callee := .value g, args := as0, argTypes := tys } ∧ as0.toList.mapM lowX = some as' ∧ ((∃ f, g = .func f ∧ lo = .call f as') ∨ ∃ g', lowX g = some g' ∧ lo = .callv g' as') := by
  unfold lowOp at hl
  split at hl
  all_goals
    first
    | (cases hl; done)
    | (rename_i g as0 tys
       simp only [Option.bind_eq_bind, Option.bind_eq_some_iff] at hl
       obtain ⟨as', has, hl⟩ := hl
       split at hl
       · rename_i f
         cases hl
         exact ⟨_, _, _, as', rfl, has, .inl ⟨_, rfl, rfl⟩⟩
       · simp only [Option.bind_eq_some_iff, Option.some.injEq] at hl
         obtain ⟨g', hg, rfl⟩ := hl
         exact ⟨_, _, _, as', rfl, has, .inr ⟨g', hg, rfl⟩⟩)
    | (exfalso
       repeat' (first | (subst hl; simp [acall] at hc; done) | (cases hl; simp [acall] at hc; done) | (cases hl; done) | (split at hl) | (obtain ⟨_, hl⟩ := hl) | (simp only [Option.bind_eq_bind, Option.bind_eq_some_iff, Option.map_eq_some_iff, Option.some.injEq] at hl)))
theorem acall_run {lo : LO} {f : Nat} {args : List AV} {o : Oper} {lf : LF} (h : acall fr lo = some (f, args)) (hl : lowOp P o.op o.type = some lo) (hf : AReps G fr a.tmps.toList) (hlf : lowFn P f = some lf) :
    ∃ us : List Value, AReps G args us ∧ (execOp a.eval o).run P w = .ok (.enter f us.toArray) w := by
  have hρ := opnds_of hf
  obtain ⟨g, as0, tys, as', hop, has, hh⟩ := lowOp_call (fr := fr) hl (by rw [h]; rfl)
  have hr := opnds_list hρ has
  rcases hh with ⟨f', rfl, rfl⟩ | ⟨g', hg, rfl⟩
  · simp only [acall, Option.some.injEq, Prod.mk.injEq] at h
    obtain ⟨rfl, rfl⟩ := h
    refine ⟨_, hr, ?_⟩
    have e : as0.map a.eval = (as0.toList.map a.eval).toArray := by apply Array.ext'; simp
    simp only [execOp, hop, resolve, Act.eval, Deferred.ofValue, invoke, Sem.run_bind, Sem.run_pure, Result.andThen_ok, run_callFunc hlf]
    simp [e]
  · have hgr := hρ _ _ hg
    simp only [acall] at h
    split at h
    · rename_i q fa fc he
      cases h
      rw [he] at hgr
      obtain ⟨us, vs, hu, h1, h2⟩ := arep_fn_inv hgr
      refine ⟨us ++ as0.toList.map a.eval ++ vs, (h1.app hr).app h2, ?_⟩
      have e : us.toArray ++ as0.map a.eval ++ vs.toArray = (us ++ as0.toList.map a.eval ++ vs).toArray := by
        apply Array.ext'; simp
      simp only [execOp, hop, resolve, hu, Deferred.ofValue, invoke, Sem.run_bind, Sem.run_pure, Result.andThen_ok, run_callFunc hlf, e]
    · cases h

theorem acall_frame {fr' : List AV} {lo : LO} (hx : ∀ x ∈ lo.xs, aev fr' x = aev fr x) : acall fr' lo = acall fr lo := by
  cases lo with
  | call f as0 => simp only [acall]; rw [map_aev (xs := as0) fun x h => hx x (by simpa [LO.xs] using h)]
  | callv f as0 => simp only [acall]; rw [hx f (by simp [LO.xs]), map_aev (xs := as0) fun x h => hx x (by simp [LO.xs, h])]
  | _ => rfl
theorem MemSim.after {F' : Nat → Option Nat → Option Value} {w' : World} (hm : MemSim B G w σ) (hk : Keeps (fun _ => False) w w') (h1 : ∀ b o u, G.F b o = some u → F' b o = some u) (h2 : ∀ b o u, F' b o = some u → rdm w' b o = some u)
    (h3 : ∀ b o u, F' b o = some u → G.F b o = some u ∨ w.heap.size ≤ b) : MemSim B { G with F := F' } w' σ := by
  have hb : ∀ b, b < w.heap.size → w'.heap[b]? = w.heap[b]? := fun b h => hk.block b h (fun e => e)
  have hle : G.le { G with F := F' } := ⟨h1, fun _ _ _ e => e⟩
  exact
  { hF := h2
    hF0 := fun b o u hf => by
      rcases h3 b o u hf with h | h
      · exact hm.hF0 b o u h
      · exact .inr (Nat.le_trans hm.size h)
    obj := fun k ob hs => by
      obtain ⟨L, hL, hr⟩ := hm.obj k ob hs
      exact ⟨L, hL, hr.mono hle (fun b hbk => hb b (hr.lt hbk))⟩
    sepF := fun b hl o => by
      have hl' : Live G σ b := hl
      cases hf : F' b o with
      | none => exact hf
      | some u =>
        rcases h3 b o u hf with h | h
        · rw [hm.sepF b hl' o] at h; cases h
        · have := hm.live_lt hl'; omega
    sep := hm.sep
    own := hm.own
    fin := hm.fin
    os := hk.os.trans hm.os
    tape := hk.tape.trans hm.tape
    output := hk.output.trans hm.output
    size := Nat.le_trans hm.size hk.size
    keep := fun b h1 h2 => (hb b (Nat.lt_of_lt_of_le h1 hm.size)).trans (hm.keep b h1 h2)
    fz := fun a ha => hm.fz a (hk.fz a ha) }
/-- A call by a contract: what the arguments lead to is taken as it stands (ks: the objects among it); where there is any, the answer bears no reference. -/
theorem AStep.call {lo : LO} {ver f : Nat} {args args' : List AV} {res : AV} {ks : List Key} {lf : LF} (hlf : lowFn P f = some lf) (hc : acall fr lo = some (f, args)) (hl : args.length = args'.length) (hz : ∀ (j : Nat) (x y : AV), args[j]? = some x → args'[j]? = some y → Fz σ ks x y)
    (hp : APure P f args' res) (hflat : ks = [] ∨ Flat res) : AStep P lo ver fr σ res ks [] := by
  intro fr' σ' hx hr o hlow B G a w N hm hf hv K Q hK
  obtain ⟨us, h1, hrun⟩ := acall_run (P := P) (w := w) ((acall_frame hx).trans hc) hlow hf hlf
  have hreps : AReps (GF (frz G w σ' ks)) args' us := ⟨hl ▸ h1.1, fun j y u hy hu => by
    have hjl : j < args.length := by rw [hl]; exact (List.getElem?_eq_some_iff.1 hy).1
    exact ((hz j _ y (List.getElem?_eq_getElem hjl) hy).local hr).rep hm u (h1.2 j _ u (List.getElem?_eq_getElem hjl) hu)⟩
  have hcall := hp _ w us (frz_mem hm ks) hreps
  unfold Oper.wp
  rw [hrun]
  simp only [Oper.upon]
  refine hcall.mono ?_
  rintro e w' ⟨v, F', rfl, g1, g2, g3, g4, g5⟩
  simp only []
  rcases hflat with rfl | hflat
  · rw [frz_nil] at g1 g3
    exact hK { G with F := F' } w' v ⟨g1, fun _ _ _ e => e⟩ (fun _ _ _ _ => rfl) (g5.mono fun _ h => h.elim) (hm.after g5 g1 g2 g3) (rep_lift g4 fun _ _ _ h => h)
  · refine hK G w' v (Gh.le_refl G) (fun _ _ _ _ => rfl) (g5.mono fun _ h => h.elim) ?_ (hflat.rep g4 G)
    refine hm.after g5 (fun _ _ _ h => h) (fun b o u h => ?_) (fun b o u h => .inl h)
    exact g2 b o u (g1 b o u (frz_le w σ' ks b o u h))

/-! ### A function's results, and its contract -/
def ares1 (σ : Store) (fr : List AV) : LR → Option AV
  | .tmp t => some (fr.getD t .bot)
  | .cell t agg n => (aload σ agg n (fr.getD t .bot)).map (·.1)
def ares (σ : Store) (fr : List AV) : List LR → Option (List AV)
  | [] => some []
  | r :: rs =>
    match ares1 σ fr r, ares σ fr rs with
    | some v, some vs => some (v :: vs)
    | _, _ => none
def tup : List AV → AV
  | [v] => v
  | vs => .tu vs
theorem fr_get {t : Nat} (h : AReps G fr a.tmps.toList) : ARep G (fr.getD t .bot) (a.tmps.getD t undef) := opnds_of h (.tmp t) (.t t) rfl
def resOne (tmps : Array Value) : ResultVar → Sem Value
  | .tmp t => pure (tmps.getD t undef)
  | .cell c t => do loadVar t (← asAddr (tmps.getD c undef))
theorem results_eq (fn : Func) (tmps : Array Value) : results fn tmps = (fn.results.mapM (resOne tmps) >>= fun vs => pure (if h : vs.size = 1 then vs[0] else .tuple vs)) := by
  unfold results
  congr 1
theorem ares1_run {r : LR} {rv : ResultVar} {v : AV} (hm : MemSim B G w σ) (hf : AReps G fr a.tmps.toList) (hl : lowR P rv = some r) (h : ares1 σ fr r = some v) :
    ∃ u, (resOne a.tmps rv).run P w = .ok u w ∧ ARep G v u := by
  cases rv with
  | tmp t =>
    simp [lowR] at hl; subst hl
    simp [ares1] at h; subst h
    exact ⟨_, rfl, fr_get hf⟩
  | cell c t =>
    simp only [lowR] at hl
    split at hl
    · rename_i agg n ha hn
      cases hl
      simp only [ares1, Option.map_eq_some_iff] at h
      obtain ⟨⟨v', rd⟩, hld, rfl⟩ := h
      obtain ⟨b, u', h0, h1, h2⟩ := load_rep (P := P) hm (fr_get (t := c) hf) hld ha hn
      exact ⟨u', by simp [resOne, h0, asAddr, h1], h2⟩
    · cases hl
theorem ares_run : ∀ {rs : List LR} {rvs : List ResultVar} {vs : List AV}, MemSim B G w σ → AReps G fr a.tmps.toList → rvs.mapM (lowR P) = some rs → ares σ fr rs = some vs →
    ∃ us : List Value, (rvs.mapM (resOne a.tmps)).run P w = .ok us w ∧ AReps G vs us
  | [], [], vs, hm, hf, hl, h => by simp [ares] at h; subst h; exact ⟨[], rfl, AReps.nil G⟩
  | [], _ :: _, vs, hm, hf, hl, h => by have := (mapM_some_get hl).1; simp at this
  | _ :: _, [], vs, hm, hf, hl, h => by have := (mapM_some_get hl).1; simp at this
  | r :: rs, rv :: rvs, vs, hm, hf, hl, h => by
    rw [List.mapM_cons] at hl
    cases h1 : lowR P rv with
    | none => simp [h1] at hl
    | some r' =>
      cases h2 : rvs.mapM (lowR P) with
      | none => simp [h1, h2] at hl
      | some rs' =>
        simp [h1, h2] at hl
        obtain ⟨rfl, rfl⟩ := hl
        simp only [ares] at h
        split at h
        · rename_i v vs' h3 h4
          cases h
          obtain ⟨u, e1, e2⟩ := ares1_run hm hf h1 h3
          obtain ⟨us, e3, e4⟩ := ares_run hm hf h2 h4
          exact ⟨u :: us, by simp only [List.mapM_cons, Sem.run_bind, e1, Result.andThen_ok, e3, Sem.run_pure], AReps.cons e2 e4⟩
        · cases h
theorem results_run {fn : Func} {rs : List LR} {vs : List AV} (hm : MemSim B G w σ) (hf : AReps G fr a.tmps.toList) (hl : fn.results.toList.mapM (lowR P) = some rs) (h : ares σ fr rs = some vs) :
    ∃ u, (results fn a.tmps).run P w = .ok u w ∧ ARep G (tup vs) u := by
  obtain ⟨us, h1, h2⟩ := ares_run hm hf hl h
  rw [results_eq]
  simp only [Sem.run_bind, Array.mapM_eq_mapM_toList, Sem.run_map, h1, Result.andThen_ok, Sem.run_pure]
  refine ⟨_, rfl, ?_⟩
  · match vs, us, h2 with
    | [], [], h2 => exact arep_tu (us := []) h2
    | [v], [u], h2 => exact h2.2 0 v u rfl rfl
    | v1 :: v2 :: vs, u1 :: u2 :: us, h2 =>
      have : ¬ (u1 :: u2 :: us).toArray.size = 1 := by simp
      rw [dif_neg this]
      exact arep_tu h2
    | [], _ :: _, h2 => exact absurd h2.1 (by simp)
    | [_], [], h2 => exact absurd h2.1 (by simp)
    | [_], _ :: _ :: _, h2 => exact absurd h2.1 (by simp)
    | _ :: _ :: _, [], h2 => exact absurd h2.1 (by simp)
    | _ :: _ :: _, [_], h2 => exact absurd h2.1 (by simp)

/-- Where a function's body ends: its results, the objects that they lead to as they stand. -/
def retQ (rs : List LR) (res : AV) : AQ := fun e fr σ =>
  (e = .normal ∨ e = .ret) ∧ ∃ vs ks, ares σ fr rs = some vs ∧ Fz σ ks (tup vs) res
/-! ### Out of a function: the marks of its loops over functions -/
def Gh.unmark (G : Gh) (N : Nat) : Gh := { G with F := fun b o => match o with | none => (match G.F b none with | some (.bool x) => if N ≤ b then none else some (.bool x) | r => r) | some j => G.F b (some j) }
theorem unmark_some (G : Gh) (N b j : Nat) : (G.unmark N).F b (some j) = G.F b (some j) := rfl
theorem unmark_sub {G : Gh} {N b : Nat} {o : Option Nat} {u : Value} (h : (G.unmark N).F b o = some u) : G.F b o = some u := by
  cases o with
  | some j => exact h
  | none =>
    simp only [Gh.unmark] at h
    split at h
    · rename_i x hx
      split at h
      · cases h
      · cases h; exact hx
    · exact h
theorem unmark_lt {G : Gh} {N b : Nat} {o : Option Nat} {u : Value} (h : G.F b o = some u) (hb : b < N) : (G.unmark N).F b o = some u := by
  cases o with
  | some j => exact h
  | none =>
    simp only [Gh.unmark]
    split
    · rename_i x hx
      rw [if_neg (by omega), ← hx]; exact h
    · exact h
theorem unmark_le (G : Gh) (N : Nat) : G.le' (G.unmark N) := ⟨fun b o u h hh => by
  cases o with
  | some j => exact h
  | none =>
    rcases hh with ⟨j, hj⟩ | ⟨es, rfl⟩
    · cases hj
    · simp only [Gh.unmark]
      split
      · rename_i x hx
        rw [h] at hx; simp [encM] at hx
      · exact h, fun _ _ _ h => h⟩
theorem unmark_mark {G : Gh} {N b : Nat} {x : Bool} (h : G.F b none = some (.bool x)) (hb : N ≤ b) : (G.unmark N).F b none = none := by
  simp only [Gh.unmark, h, if_pos hb]
theorem MemSim.unmark (h : MemSim B G w σ) (N : Nat) : MemSim B (G.unmark N) w σ where
  hF b o u hf := h.hF b o u (unmark_sub hf)
  hF0 b o u hf := h.hF0 b o u (unmark_sub hf)
  obj k o hk := by obtain ⟨L, hL, hr⟩ := h.obj k o hk; exact ⟨L, hL, hr.mono' (unmark_le G N) (fun _ _ => rfl)⟩
  sepF b hb o := by
    cases hf : (G.unmark N).F b o with
    | none => rfl
    | some u => have := unmark_sub hf; rw [h.sepF b hb o] at this; cases this
  sep := h.sep
  own := h.own
  fin := h.fin
  os := h.os
  tape := h.tape
  output := h.output
  size := h.size
  keep := h.keep
  fz := h.fz
theorem froz_put {r : Nat} {x : Obj} (hc : cold x = true) (a : Addr) (ha : (w.putObj r x).frozen? a = true) : w.frozen? a = true := by
  by_cases h : a.block = r
  · by_cases hlt : r < w.heap.size
    · rw [cold_frozen (by rw [h]; exact World.putObj_heap_same hlt) hc] at ha; cases ha
    · have e : (w.putObj r x).heap[a.block]? = none := by rw [h]; simp [World.putObj]; omega
      unfold World.frozen? at ha; rw [e] at ha; cases ha
  · exact froz_block (World.putObj_heap_other h) ha
/-- A block that nobody speaks of is turned. -/
theorem MemSim.turn (h : MemSim B G w σ) {r : Nat} {x : Obj} (h1 : ∀ o, G.F r o = none) (h2 : ¬ Live G σ r) (h3 : B.w0.heap.size ≤ r) (hc : cold x = true := by rfl) : MemSim B G (w.putObj r x) σ where
  hF b o u hf := by
    have hb : b ≠ r := by rintro rfl; rw [h1] at hf; cases hf
    have := h.hF b o u hf
    cases o with
    | some j => simp only [rdm, World.cell?] at this ⊢; rw [World.putObj_heap_other hb]; exact this
    | none => simp only [rdm] at this ⊢; rw [World.putObj_heap_other hb]; exact this
  hF0 := h.hF0
  obj k o hk := by
    obtain ⟨L, hL, hr⟩ := h.obj k o hk
    refine ⟨L, hL, hr.mono (Gh.le_refl G) (fun b hb => World.putObj_heap_other ?_)⟩
    rintro rfl
    exact h2 ⟨k, o, L, hk, hL, hb⟩
  sepF := h.sepF
  sep := h.sep
  own := h.own
  fin := h.fin
  os := h.os
  tape := h.tape
  output := h.output
  size := by simpa using h.size
  keep b hb hn := by rw [World.putObj_heap_other (by omega)]; exact h.keep b hb hn
  fz a ha := h.fz a (froz_put hc a ha)
theorem leaves_marks {fn : Func} {tmps : Array Value} {R : Ending → World → Prop} : ∀ (rs : List Nat) (w : World), rs.Nodup →
    (∀ r ∈ rs, w.heap[r]? = some (.deferred (some [])) ∧ (∀ o, G.F r o = none) ∧ ¬ Live G σ r ∧ B.w0.heap.size ≤ r) → MemSim B G w σ →
    (∀ w', MemSim B G w' σ → ∃ v, (results fn tmps).run P w' = .ok v w' ∧ R (.returned v) w') → LeavesInM (FW none) 0 P fn tmps R (rs.map (fun r => ({ target := .collected r, args := #[] } : Deferred)) ++ []) .returning w
  | [], w, _, _, hm, hR => hR w hm
  | r :: rs, w, hnd, hr, hm, hR => by
    obtain ⟨h1, h2, h3, h4⟩ := hr r (by simp)
    rw [List.nodup_cons] at hnd
    refine ⟨by simp, .inl ⟨r, _, rfl, run_takeDeferred h1, ?_⟩⟩
    refine leaves_marks rs _ hnd.2 (fun q hq => ?_) (hm.turn h2 h3 h4) hR
    obtain ⟨g1, g2, g3, g4⟩ := hr q (by simp [hq])
    refine ⟨?_, g2, g3, g4⟩
    rw [World.putObj_heap_other (by rintro rfl; exact hnd.1 hq)]; exact g1
/-- What is asked of a function's body, from the simulation at its end. -/
theorem post_leaves {fn : Func} {R : Ending → World → Prop} (hs : Sim B G a w [] fr σ)
    (hR : ∀ w', MemSim B (G.unmark B.w0.heap.size) w' σ → AReps (G.unmark B.w0.heap.size) fr a.tmps.toList → ∃ v, (results fn a.tmps).run P w' = .ok v w' ∧ R (.returned v) w') : LeavesInM (FW none) 0 P fn a.tmps R a.defers .returning w := by
  obtain ⟨rs, h1, h2, h3⟩ := hs.df
  rw [h2]
  have hh : ∀ r ∈ rs, w.heap[r]? = some (.deferred (some [])) := fun r hr => by
    have := hs.mem.hF r none _ (h3 r hr).1
    simp only [rdm] at this
    split at this
    · simp [encM] at this
    · assumption
    · cases this
  have hl : ∀ r ∈ rs, ¬ Live G σ r := fun r hr hl => by
    have := hs.mem.sepF r hl none
    rw [(h3 r hr).1] at this; cases this
  refine leaves_marks (B := B) (G := G.unmark B.w0.heap.size) (σ := σ) rs w h1 (fun r hr => ⟨hh r hr, fun o => ?_, hl r hr, (h3 r hr).2⟩) (hs.mem.unmark _) (fun w' hm' => hR w' hm' (hs.fr.mono' (unmark_le G _)))
  cases o with
  | none => exact unmark_mark (h3 r hr).1 (h3 r hr).2
  | some j =>
    rw [unmark_some]
    cases hf : G.F r (some j) with
    | none => rfl
    | some u =>
      have := hs.mem.hF r (some j) u hf
      simp [rdm, World.cell?, hh r hr] at this

theorem apure_of {f : Nat} {lf : LF} {args : List AV} {res : AV} (hlf : lowFn P f = some lf) (h : AWp P lf.body (retQ lf.res res) (args ++ List.replicate (lf.ntmps - args.length) .bot) []) : APure P f args res := by
  obtain ⟨fn, c, hf, hc, hb, hr, hn, _⟩ := lowFn_spec hlf
  intro F w us hF hargs
  refine callsIn_FW.1 (callsIn_of_wp_marks (F := FW none) (n := 0) hf hc trivial ?_)
  have hsim : MemSim ⟨w, fun _ => False, F, 0⟩ (GF F) w [] :=
  { hF := hF
    hF0 := fun b o u h => .inl h
    obj := fun k o h => by simp [sget] at h
    sepF := fun b h => by obtain ⟨k, o, L, h, _⟩ := h; simp [sget] at h
    sep := fun k k' o o' L L' b h => by simp [sget] at h
    own := fun b h => by obtain ⟨k, o, L, h, _⟩ := h; simp [sget] at h
    fin := ⟨0, fun _ _ _ => rfl⟩
    os := rfl
    tape := rfl
    output := rfl
    size := Nat.le_refl _
    keep := fun _ _ _ => rfl
    fz := fun _ h => h }
  have hfr : AReps (GF F) (args ++ List.replicate (lf.ntmps - args.length) .bot) (us.toArray ++ Array.replicate (fn.ntmps - us.toArray.size) undef).toList := by
    have : AReps (GF F) (List.replicate (lf.ntmps - args.length) AV.bot) (List.replicate (lf.ntmps - args.length) undef) := ⟨by simp, fun j x u hx _ => by
      rw [List.getElem?_replicate] at hx
      split at hx
      · cases hx; exact .bot _
      · cases hx⟩
    have := hargs.app this
    rw [hn]
    have e : us.length = args.length := hargs.1.symm
    simpa [e] using this
  refine wpIn_mono (h c hb none (fun e => by cases e) ⟨w, fun _ => False, F, 0⟩ (GF F) _ w [] ⟨hsim, hfr, Marks.refl _ _ _⟩) ?_
  rintro e a' w' ⟨G0, fr', σ', hle0, hs, hq, vs, ks, hv, hz⟩
  have hgo : ∀ w', MemSim ⟨w, fun _ => False, F, 0⟩ (G0.unmark w.heap.size) w' σ' → AReps (G0.unmark w.heap.size) fr' a'.tmps.toList → ∃ u, (results fn a'.tmps).run P w' = .ok u w' ∧
      ∃ v F', Ending.returned u = .returned v ∧ (∀ b o u, F b o = some u → F' b o = some u) ∧ (∀ b o u, F' b o = some u → rdm w' b o = some u) ∧ (∀ b o u, F' b o = some u → F b o = some u ∨ w.heap.size ≤ b) ∧ ARep (GF F') res v ∧ Keeps (fun _ => False) w w' := by
    intro w' hm hfr'
    obtain ⟨u, hrun, hrep⟩ := results_run (P := P) hm hfr' hr hv
    refine ⟨u, hrun, u, frz (G0.unmark w.heap.size) w' σ' ks, rfl, fun b o u h => frz_le w' σ' ks b o u (unmark_lt (hle0.1.F b o u h) (rdm_lt (hF b o u h))), frz_mem hm ks, fun b o u h => ?_, hz.rep hm u hrep, ⟨hm.os, hm.tape, hm.output, hm.size, fun b hb _ => hm.keep b hb (fun h => h), hm.fz⟩⟩
    rcases frz_of hm ks h with h | h
    · exact hm.hF0 b o u h
    · rcases hm.own b h with h | h
      · exact h.elim
      · exact .inr h
  rcases hq with rfl | rfl
  · exact post_leaves hs hgo
  · exact post_leaves hs hgo
end Go.Am
/- The rules in the form in which a proof applies them. -/
namespace Go.Am
open Go.RowKit
set_option linter.unusedVariables false
variable {P : Program} {fr fr' : List AV} {σ σ' : Store} {Q : AQ} {nv i : Nat} {K : List AV → Store → Prop} {o : LOper} {r : List LOper} {v : AV} {rd ks : List Key} {wr : List (Key × AO)}
theorem aops_nil (h : K fr σ) : AOps P nv K i [] fr σ := h
theorem aops_step (key : Key) (hg : gval fr o = some true) (h : astep key (nv + i) fr σ o.op = some (v, rd, wr)) (hf : put fr o.dst v = fr') (hs : upds σ wr = σ') (hr : AOps P nv K (i + 1) r fr' σ') : AOps P nv K i (o :: r) fr σ := by
  subst hf; subst hs
  exact .inl ⟨hg, v, rd, wr, AStep.of_astep key h, hr⟩
theorem aops_skip (hg : gval fr o = some false) (hf : put fr o.dst (.tu []) = fr') (hr : AOps P nv K (i + 1) r fr' σ) : AOps P nv K i (o :: r) fr σ := by
  subst hf
  exact .inr (.inl ⟨hg, hr⟩)
theorem aops_if {x : Bool} (hg : gval fr o = some x) (h1 : x = true → gval fr o = some true → AOps P nv K i (o :: r) fr σ) (h2 : x = false → gval fr o = some false → AOps P nv K i (o :: r) fr σ) : AOps P nv K i (o :: r) fr σ := by
  cases x
  · exact h2 rfl hg
  · exact h1 rfl hg
theorem fz_all {args : List AV} (h : ∀ x ∈ args, Pure x) : ∀ (j : Nat) (x y : AV), args[j]? = some x → args[j]? = some y → Fz σ [] x y := by
  intro j x y hx hy
  rw [hx] at hy; cases hy
  exact .pure x (h x (List.mem_of_getElem? hx))
/-- A call whose arguments bear no reference to a live object. -/
theorem aops_call {f : Nat} {args : List AV} {res : AV} {lf : LF} (hg : gval fr o = some true) (hlf : lowFn P f = some lf) (hc : acall fr o.op = some (f, args)) (hp : ∀ x ∈ args, Pure x) (h : APure P f args res) (hf : put fr o.dst res = fr') (hr : AOps P nv K (i + 1) r fr' σ) : AOps P nv K i (o :: r) fr σ := by
  subst hf
  exact .inl ⟨hg, res, [], [], AStep.call hlf hc rfl (fz_all hp) h (.inl rfl), hr⟩
/-- A call whose arguments may lead to live objects; the answer bears no reference. -/
theorem aops_call_flat {f : Nat} {args args' : List AV} {res : AV} {lf : LF} (ks : List Key) (hg : gval fr o = some true) (hlf : lowFn P f = some lf) (hc : acall fr o.op = some (f, args)) (hl : args.length = args'.length) (hz : ∀ (j : Nat) (x y : AV), args[j]? = some x → args'[j]? = some y → Fz σ ks x y)
    (hfl : Flat res) (h : APure P f args' res) (hf : put fr o.dst res = fr') (hr : AOps P nv K (i + 1) r fr' σ) : AOps P nv K i (o :: r) fr σ := by
  subst hf
  exact .inl ⟨hg, res, ks, [], AStep.call hlf hc hl hz h (.inr hfl), hr⟩
theorem awp_condt {x : X} {y z : LC} (ht : aev fr x = .b true) (h : AWp P y Q fr σ) : AWp P (.cond x y z) Q fr σ := awp_cond ht (fun _ => h) (fun e => by cases e)
theorem awp_condf {x : X} {y z : LC} (ht : aev fr x = .b false) (h : AWp P z Q fr σ) : AWp P (.cond x y z) Q fr σ := awp_cond ht (fun e => by cases e) (fun _ => h)
end Go.Am
namespace Go.Am
variable {P : Program} {fr fr' : List AV} {σ σ' : Store} {Q : AQ} {nv i : Nat} {K : List AV → Store → Prop} {o : LOper} {r : List LOper} {v : AV} {rd ks : List Key} {wr : List (Key × AO)}
/-- One operation: the frame and the store behind it. -/
def aone (lvl nv i : Nat) (o : LOper) (fr : List AV) (σ : Store) : Option (List AV × Store) :=
  match gval fr o with
  | some true => (astep (lvl, o.dst.getD 0) (nv + i) fr σ o.op).map fun p => (put fr o.dst p.1, upds σ p.2.2)
  | some false => some (put fr o.dst (.tu []), σ)
  | none => none
theorem aops_one (lvl : Nat) (h : aone lvl nv i o fr σ = some (fr', σ')) (hr : AOps P nv K (i + 1) r fr' σ') : AOps P nv K i (o :: r) fr σ := by
  unfold aone at h
  split at h
  · rename_i hg
    obtain ⟨⟨v, rd, wr⟩, hs, he⟩ := Option.map_eq_some_iff.1 h
    cases he
    exact .inl ⟨hg, v, rd, wr, AStep.of_astep _ hs, hr⟩
  · rename_i hg
    cases h
    exact .inr (.inl ⟨hg, hr⟩)
  · cases h
end Go.Am
/- A region that draws its order: one walk in the order of the text, where whatever clashes is ordered. -/
namespace Go.Am
open Go.RowKit
set_option linter.unusedSimpArgs false
set_option linter.unusedVariables false

structure Tr where
  looks : List Nat
  dst : Option Nat
  rd : List Key
  wk : List Key
  af : List Nat
def xslots : List X → List Nat
  | [] => []
  | .t i :: r => i :: xslots r
  | .c _ :: r => xslots r
def lslots (o : LOper) : List Nat := (match o.g with | none => [] | some (t, _) => [t]) ++ xslots o.op.xs
def trOf (o : LOper) (rd : List Key) (wr : List (Key × AO)) : Tr := ⟨lslots o, o.dst, rd, wr.map (·.1), o.af⟩
def inD (d : Option Nat) (l : List Nat) : Bool := match d with | none => false | some t => l.contains t
def meet (a b : List Key) : Bool := a.any fun k => b.contains k
/-- Two operations that can't change places. -/
def clash (x y : Tr) : Bool :=
  inD x.dst y.looks || inD y.dst x.looks || (match x.dst, y.dst with | some s, some t => s == t | _, _ => false) || meet x.wk y.rd || meet x.wk y.wk || meet y.wk x.rd
/-- Which go ahead of which, through others. -/
def befs : List Tr → List (List Nat) → List (List Nat)
  | [], acc => acc
  | t :: r, acc => befs r (acc ++ [t.af ++ (t.af.map fun e => acc.getD e []).flatten])
def okTr (tr : List Tr) : Bool :=
  let bs := befs tr []
  (List.range tr.length).all fun j => (match tr[j]? with | some y => y.af.all (· < j) | none => true) && (List.range j).all fun i =>
    match tr[i]?, tr[j]? with
    | some x, some y => !clash x y || (bs.getD j []).contains i
    | _, _ => true

def ADr (P : Program) (nv : Nat) (K : List AV → Store → Prop) : Nat → List LOper → List Tr → List AV → Store → Prop
  | _, [], tr, fr, σ => okTr tr = true ∧ K fr σ
  | i, o :: r, tr, fr, σ =>
    (gval fr o = some true ∧ ∃ v rd wr, AStep P o.op (nv + i) fr σ v rd wr ∧ ADr P nv K (i + 1) r (tr ++ [trOf o rd wr]) (put fr o.dst v) (upds σ wr)) ∨
    (gval fr o = some false ∧ ADr P nv K (i + 1) r (tr ++ [trOf o [] []]) (put fr o.dst (.tu [])) σ)

variable {P : Program} {B : Base} {D : List Deferred} {nv : Nat} {K : List AV → Store → Prop}

theorem adr_trace (ops : List LOper) : ∀ (r : List LOper) (i : Nat) (tr : List Tr) (fr : List AV) (σ : Store), ops.drop i = r → ADr P nv K i r tr fr σ →
    ∃ (v : Nat → AV) (rd : Nat → List Key) (wr : Nat → List (Key × AO)) (f : Nat → List AV) (s : Nat → Store), f i = fr ∧ s i = σ ∧
      (∀ j o, i ≤ j → ops[j]? = some o → f (j + 1) = put (f j) o.dst (v j) ∧ s (j + 1) = upds (s j) (wr j) ∧
        ((gval (f j) o = some true ∧ AStep P o.op (nv + j) (f j) (s j) (v j) (rd j) (wr j)) ∨ (gval (f j) o = some false ∧ v j = .tu [] ∧ wr j = []))) ∧
      okTr (tr ++ (r.zipIdx i).map fun p => trOf p.1 (rd p.2) (wr p.2)) = true ∧ K (f (i + r.length)) (s (i + r.length))
  | [], i, tr, fr, σ, hd, h => by
    have hl : ops.length ≤ i := by
      have := congrArg List.length hd
      simp at this; omega
    refine ⟨fun _ => .bot, fun _ => [], fun _ => [], fun _ => fr, fun _ => σ, rfl, rfl, fun j o hj ho => ?_, by simpa using h.1, by simpa using h.2⟩
    rw [List.getElem?_eq_none (by omega)] at ho; cases ho
  | o :: r, i, tr, fr, σ, hd, h => by
    have hi : ops[i]? = some o := by
      have := congrArg (fun l => l[0]?) hd
      simpa using this
    have hd' : ops.drop (i + 1) = r := by
      have := congrArg (fun l => l.drop 1) hd
      simpa [List.drop_drop, Nat.add_comm] using this
    have go : ∀ (v0 : AV) (rd0 : List Key) (wr0 : List (Key × AO)), ((gval fr o = some true ∧ AStep P o.op (nv + i) fr σ v0 rd0 wr0) ∨ (gval fr o = some false ∧ v0 = .tu [] ∧ wr0 = [])) → ADr P nv K (i + 1) r (tr ++ [trOf o rd0 wr0]) (put fr o.dst v0) (upds σ wr0) →
        ∃ (v : Nat → AV) (rd : Nat → List Key) (wr : Nat → List (Key × AO)) (f : Nat → List AV) (s : Nat → Store), f i = fr ∧ s i = σ ∧
          (∀ j o, i ≤ j → ops[j]? = some o → f (j + 1) = put (f j) o.dst (v j) ∧ s (j + 1) = upds (s j) (wr j) ∧
            ((gval (f j) o = some true ∧ AStep P o.op (nv + j) (f j) (s j) (v j) (rd j) (wr j)) ∨ (gval (f j) o = some false ∧ v j = .tu [] ∧ wr j = []))) ∧
          okTr (tr ++ ((o :: r).zipIdx i).map fun p => trOf p.1 (rd p.2) (wr p.2)) = true ∧ K (f (i + (o :: r).length)) (s (i + (o :: r).length)) := by
      intro v0 rd0 wr0 hstep hrest
      obtain ⟨v, rd, wr, f, s, hf, hs, hall, hok, hK⟩ := adr_trace ops r (i + 1) _ _ _ hd' hrest
      refine ⟨fun j => if j = i then v0 else v j, fun j => if j = i then rd0 else rd j, fun j => if j = i then wr0 else wr j, fun j => if j = i then fr else f j, fun j => if j = i then σ else s j, by simp, by simp, fun j o' hj ho' => ?_, ?_, ?_⟩
      · by_cases e : j = i
        · subst e
          rw [hi] at ho'; cases ho'
          simp only [if_true, if_neg (show ¬ j + 1 = j by omega)]
          exact ⟨hf, hs, hstep⟩
        · simp only [if_neg e, if_neg (show ¬ j + 1 = i by omega)]
          exact hall j o' (by omega) ho'
      · have e1 : (r.zipIdx (i + 1)).map (fun p => trOf p.1 (if p.2 = i then rd0 else rd p.2) (if p.2 = i then wr0 else wr p.2)) = (r.zipIdx (i + 1)).map (fun p => trOf p.1 (rd p.2) (wr p.2)) := by
          refine List.map_congr_left fun p hp => ?_
          have : i + 1 ≤ p.2 := by
            obtain ⟨a, b⟩ := p
            exact (List.mem_zipIdx hp).1
          rw [if_neg (by omega), if_neg (by omega)]
        rw [List.zipIdx_cons, List.map_cons, e1]
        simp only [if_true]
        rw [List.append_assoc] at hok
        exact hok
      · simp only [List.length_cons, if_neg (show ¬ i + (r.length + 1) = i by omega)]
        have : i + (r.length + 1) = i + 1 + r.length := by omega
        rw [this]; exact hK
    rcases h with ⟨hg, v0, rd0, wr0, hst, hrest⟩ | ⟨hg, hrest⟩
    · exact go v0 rd0 wr0 (.inl ⟨hg, hst⟩) hrest
    · exact go (.tu []) [] [] (.inr ⟨hg, rfl, rfl⟩) hrest

theorem exists_last (p : Nat → Prop) : ∀ n, (∀ j, j < n → ¬ p j) ∨ ∃ j, j < n ∧ p j ∧ ∀ j', j < j' → j' < n → ¬ p j'
  | 0 => .inl fun j h => by omega
  | n + 1 => by
    by_cases hn : p n
    · exact .inr ⟨n, by omega, hn, fun j' h1 h2 => by omega⟩
    · rcases exists_last p n with h | ⟨j, h1, h2, h3⟩
      · refine .inl fun j hj => ?_
        by_cases e : j = n
        · subst e; exact hn
        · exact h j (by omega)
      · refine .inr ⟨j, by omega, h2, fun j' h4 h5 => ?_⟩
        by_cases e : j' = n
        · subst e; exact hn
        · exact h3 j' h4 (by omega)
theorem sget_upds (wr : List (Key × AO)) (k : Key) : ∀ (σ : Store), ((∀ p ∈ wr, p.1 ≠ k) → sget (upds σ wr) k = sget σ k) ∧ (∀ σ', (∃ p ∈ wr, p.1 = k) → sget (upds σ wr) k = sget (upds σ' wr) k) := by
  induction wr with
  | nil => exact fun σ => ⟨fun _ => rfl, fun σ' h => by obtain ⟨p, hp, _⟩ := h; cases hp⟩
  | cons p wr ih =>
    intro σ
    obtain ⟨k', o⟩ := p
    refine ⟨fun h => ?_, fun σ' h => ?_⟩
    · simp only [upds]
      rw [(ih _).1 (fun q hq => h q (List.mem_cons_of_mem _ hq)), sget_sset, if_neg (h (k', o) List.mem_cons_self)]
    · simp only [upds]
      by_cases hin : ∃ q ∈ wr, q.1 = k
      · exact (ih _).2 _ hin
      · have hno : ∀ q ∈ wr, q.1 ≠ k := fun q hq e => hin ⟨q, hq, e⟩
        obtain ⟨q, hq, he⟩ := h
        cases hq with
        | head =>
          simp only at he; subst he
          rw [(ih _).1 hno, (ih _).1 hno, sget_sset, sget_sset, if_pos rfl, if_pos rfl]
        | tail _ hq => exact absurd he (hno q hq)
/-- What frame and store are behind the operations of a set, whatever their order. -/
structure At (n : Nat) (dst : Nat → Option Nat) (v : Nat → AV) (wr : Nat → List (Key × AO)) (f0 : List AV) (s0 : Store) (D : Nat → Prop) (fr : List AV) (σ : Store) : Prop where
  len : fr.length = f0.length
  g0 : ∀ t, (∀ j, j < n → D j → dst j ≠ some t) → fr[t]? = f0[t]?
  g1 : ∀ t j, j < n → D j → dst j = some t → (∀ j', j < j' → j' < n → ¬ (D j' ∧ dst j' = some t)) → t < f0.length → fr[t]? = some (v j)
  q0 : ∀ k, (∀ j, j < n → D j → ∀ p ∈ wr j, p.1 ≠ k) → sget σ k = sget s0 k
  q1 : ∀ k j, j < n → D j → (∃ p ∈ wr j, p.1 = k) → (∀ j', j < j' → j' < n → ¬ (D j' ∧ ∃ p ∈ wr j', p.1 = k)) → sget σ k = sget (upds [] (wr j)) k
section
variable {n : Nat} {dst : Nat → Option Nat} {v : Nat → AV} {wr : Nat → List (Key × AO)} {f0 fr fr' : List AV} {s0 σ σ' : Store} {D' : Nat → Prop} {E : Nat → Prop}
theorem At.start : At n dst v wr f0 s0 (fun _ => False) f0 s0 := ⟨rfl, fun _ _ => rfl, fun _ _ _ h => h.elim, fun _ _ => rfl, fun _ _ _ h => h.elim⟩
theorem At.mono (h : At n dst v wr f0 s0 E fr σ) (he : ∀ j, j < n → (E j ↔ D' j)) : At n dst v wr f0 s0 D' fr σ where
  len := h.len
  g0 t ht := h.g0 t (fun j hj hE => ht j hj ((he j hj).1 hE))
  g1 t j hj hD hd hl := h.g1 t j hj ((he j hj).2 hD) hd (fun j' h1 h2 h3 => hl j' h1 h2 ⟨(he j' h2).1 h3.1, h3.2⟩)
  q0 k hk := h.q0 k (fun j hj hE => hk j hj ((he j hj).1 hE))
  q1 k j hj hD hd hl := h.q1 k j hj ((he j hj).2 hD) hd (fun j' h1 h2 h3 => hl j' h1 h2 ⟨(he j' h2).1 h3.1, h3.2⟩)
theorem put_get (fr : List AV) (d : Option Nat) (x : AV) (t : Nat) : (put fr d x)[t]? = if d = some t ∧ t < fr.length then some x else fr[t]? := by
  cases d with
  | none => simp [put]
  | some s =>
    simp only [put, List.getElem?_set, Option.some.injEq]
    by_cases e : s = t
    · subst e
      by_cases hl : s < fr.length
      · simp [hl]
      · simp [hl, List.getElem?_eq_none (Nat.le_of_not_lt hl)]
    · simp [e]
theorem put_len (fr : List AV) (d : Option Nat) (x : AV) : (put fr d x).length = fr.length := by cases d <;> simp [put]
theorem At.step (h : At n dst v wr f0 s0 E fr σ) {i : Nat} (hi : i < n) (hn : ¬ E i) (h1 : ∀ j, i < j → j < n → E j → ∀ t, dst i = some t → dst j ≠ some t) (h2 : ∀ j, i < j → j < n → E j → ∀ p ∈ wr i, ∀ q ∈ wr j, p.1 ≠ q.1) :
    At n dst v wr f0 s0 (fun j => E j ∨ j = i) (put fr (dst i) (v i)) (upds σ (wr i)) where
  len := by rw [put_len]; exact h.len
  g0 t ht := by
    rw [put_get, if_neg (fun hh => ht i hi (.inr rfl) hh.1)]
    exact h.g0 t (fun j hj hE => ht j hj (.inl hE))
  g1 t j hj hD hd hl hlt := by
    rw [put_get]
    by_cases e : dst i = some t
    · rw [if_pos ⟨e, by rw [h.len]; exact hlt⟩]
      rcases hD with hD | rfl
      · exfalso
        by_cases hij : j < i
        · exact hl i hij hi ⟨.inr rfl, e⟩
        · exact h1 j (by have : j ≠ i := fun e' => hn (e' ▸ hD); omega) hj hD t e hd
      · rfl
    · rw [if_neg (fun hh => e hh.1)]
      rcases hD with hD | rfl
      · exact h.g1 t j hj hD hd (fun j' a b c => hl j' a b ⟨.inl c.1, c.2⟩) hlt
      · exact absurd hd e
  q0 k hk := by
    rw [(sget_upds (wr i) k σ).1 (hk i hi (.inr rfl))]
    exact h.q0 k (fun j hj hE => hk j hj (.inl hE))
  q1 k j hj hD hd hl := by
    by_cases e : ∃ p ∈ wr i, p.1 = k
    · rcases hD with hD | rfl
      · exfalso
        by_cases hij : j < i
        · exact hl i hij hi ⟨.inr rfl, e⟩
        · obtain ⟨p, hp, hpe⟩ := e
          obtain ⟨q, hq, hqe⟩ := hd
          exact h2 j (by have : j ≠ i := fun e' => hn (e' ▸ hD); omega) hj hD p hp q hq (hpe.trans hqe.symm)
      · exact (sget_upds (wr j) k σ).2 [] hd
    · rw [(sget_upds (wr i) k σ).1 (fun p hp hpe => e ⟨p, hp, hpe⟩)]
      rcases hD with hD | rfl
      · exact h.q1 k j hj hD hd (fun j' a b c => hl j' a b ⟨.inl c.1, c.2⟩)
      · exact absurd hd e
theorem At.agree (h : At n dst v wr f0 s0 E fr σ) (h' : At n dst v wr f0 s0 D' fr' σ') {t : Nat} (he : ∀ j, j < n → dst j = some t → (E j ↔ D' j)) : fr[t]? = fr'[t]? := by
  by_cases hlt : t < f0.length
  · rcases exists_last (fun j => E j ∧ dst j = some t) n with hno | ⟨j, hj, ⟨hE, hd⟩, hl⟩
    · rw [h.g0 t (fun j hj hE hd => hno j hj ⟨hE, hd⟩), h'.g0 t (fun j hj hD hd => hno j hj ⟨(he j hj hd).2 hD, hd⟩)]
    · rw [h.g1 t j hj hE hd hl hlt, h'.g1 t j hj ((he j hj hd).1 hE) hd (fun j' a b c => hl j' a b ⟨(he j' b c.2).2 c.1, c.2⟩) hlt]
  · rw [List.getElem?_eq_none (by rw [h.len]; omega), List.getElem?_eq_none (by rw [h'.len]; omega)]
theorem At.agreeS (h : At n dst v wr f0 s0 E fr σ) (h' : At n dst v wr f0 s0 D' fr' σ') {k : Key} (he : ∀ j, j < n → (∃ p ∈ wr j, p.1 = k) → (E j ↔ D' j)) : sget σ k = sget σ' k := by
  rcases exists_last (fun j => E j ∧ ∃ p ∈ wr j, p.1 = k) n with hno | ⟨j, hj, ⟨hE, hd⟩, hl⟩
  · rw [h.q0 k (fun j hj hE p hp hpe => hno j hj ⟨hE, p, hp, hpe⟩), h'.q0 k (fun j hj hD p hp hpe => hno j hj ⟨(he j hj ⟨p, hp, hpe⟩).2 hD, p, hp, hpe⟩)]
  · rw [h.q1 k j hj hE hd hl, h'.q1 k j hj ((he j hj hd).1 hE) hd (fun j' a b c => hl j' a b ⟨(he j' b c.2).2 c.1, c.2⟩)]
end
theorem befs_spec {D : Nat → Prop} : ∀ (tr : List Tr) (acc : List (List Nat)), (∀ (j : Nat) (t : Tr), tr[j]? = some t → D (acc.length + j) → ∀ e ∈ t.af, D e) → (∀ j i, i ∈ acc.getD j [] → D j → D i) →
    ∀ j i, i ∈ (befs tr acc).getD j [] → D j → D i
  | [], acc, _, ha => ha
  | t :: r, acc, ht, ha => by
    simp only [befs]
    refine befs_spec r _ (fun j t' hj hD => ht (j + 1) t' (by simpa using hj) (by simpa [Nat.add_assoc, Nat.add_comm 1 j] using hD)) ?_
    intro j i hi hD
    rw [List.getD_eq_getElem?_getD, List.getElem?_append] at hi
    split at hi
    · exact ha j i (by rw [List.getD_eq_getElem?_getD]; exact hi) hD
    · rename_i hj
      cases hq : j - acc.length with
      | zero =>
        rw [hq] at hi
        simp only [List.getElem?_cons_zero, Option.getD_some, List.mem_append, List.mem_flatten, List.mem_map] at hi
        have hjl : j = acc.length := by omega
        subst hjl
        have hafD := ht 0 t rfl (by simpa using hD)
        rcases hi with hi | ⟨l, ⟨e, he, rfl⟩, hi⟩
        · exact hafD i hi
        · exact ha e i hi (hafD e he)
      | succ m => rw [hq] at hi; simp at hi
theorem okTr_spec {tr : List Tr} (h : okTr tr = true) {i j : Nat} {x y : Tr} (hx : tr[i]? = some x) (hy : tr[j]? = some y) (hij : i < j) (hc : clash x y = true) : i ∈ (befs tr []).getD j [] := by
  unfold okTr at h
  have hj : j < tr.length := (List.getElem?_eq_some_iff.1 hy).1
  have h1 := List.all_eq_true.1 h j (List.mem_range.2 hj)
  rw [Bool.and_eq_true] at h1
  have h2 := List.all_eq_true.1 h1.2 i (List.mem_range.2 hij)
  rw [hx, hy] at h2
  simp only [hc, Bool.not_true, Bool.false_or, List.contains_iff_mem] at h2
  exact h2
theorem okTr_lt {tr : List Tr} (h : okTr tr = true) {j : Nat} {y : Tr} (hy : tr[j]? = some y) : ∀ e ∈ y.af, e < j := by
  unfold okTr at h
  have hj : j < tr.length := (List.getElem?_eq_some_iff.1 hy).1
  have h1 := List.all_eq_true.1 h j (List.mem_range.2 hj)
  rw [Bool.and_eq_true] at h1
  have h2 := h1.1
  rw [hy] at h2
  intro e he
  simpa using List.all_eq_true.1 h2 e he
theorem countP_set {l : List Nat} {p q : Nat → Bool} {i : Nat} (hn : l.Nodup) (hi : i ∈ l) (hp : p i = false) (hq : q i = true) (he : ∀ j, j ≠ i → q j = p j) : l.countP q = l.countP p + 1 := by
  induction l with
  | nil => cases hi
  | cons a l ih =>
    rw [List.nodup_cons] at hn
    rw [List.countP_cons, List.countP_cons]
    by_cases e : a = i
    · subst e
      have : l.countP q = l.countP p := List.countP_congr fun x hx => by rw [he x (fun e' => hn.1 (e' ▸ hx))]
      rw [this, hp, hq]; simp
    · have hi' : i ∈ l := by
        cases hi with
        | head => exact absurd rfl e
        | tail _ h => exact h
      rw [ih hn.2 hi', he a e]; omega
theorem xslots_mem {xs : List X} {t : Nat} (h : X.t t ∈ xs) : t ∈ xslots xs := by
  induction xs with
  | nil => cases h
  | cons x xs ih =>
    cases h with
    | head => exact List.mem_cons_self
    | tail _ h =>
      cases x with
      | t i => exact List.mem_cons_of_mem _ (ih h)
      | c v => exact ih h
theorem lowOper_af {ops : Array Oper} {o : Oper} {lo : LOper} (hl : lowOper P ops o = some lo) : lo.af = (o.after.toList.filter (Region.binds .any)).map (·.on) := by
  unfold lowOper at hl
  split at hl
  · cases hl
  · split at hl
    · cases hl; rfl
    · split at hl
      · cases hl
      · cases hl; rfl
theorem awp_regd {ops : List LOper} {fr : List AV} {σ : Store} {Q : AQ} (hmix : P.follows .mixedOrders = true) (h : ∀ nv, ADr P nv (fun fr σ => Q .normal fr σ) 0 ops [] fr σ) : AWp P (.reg ops true) Q fr σ := by
  intro c hc ro hro B G0 a0 w0 D0 hs0
  cases c with
  | region id cops draw =>
    simp only [lowC, Option.map_eq_some_iff] at hc
    obtain ⟨lops, hl, he⟩ := hc
    cases he
    obtain ⟨nv, hN, hBN⟩ : ∃ nv, (∀ k v, nv ≤ v → G0.io k v = none) ∧ B.N ≤ nv := by
      obtain ⟨N, hN⟩ := hs0.mem.fin
      exact ⟨max N B.N, fun k v hv => hN k v (by omega), by omega⟩
    obtain ⟨v, rd, wr, f, s, hf0, hst0, hall, hok, hK⟩ := adr_trace ops ops 0 [] fr σ rfl (h nv)
    simp only [Nat.zero_add, List.nil_append] at hok hK
    obtain ⟨hlen, hlow⟩ := mapM_some_get hl
    have hsz : cops.size = ops.length := by simpa using hlen
    generalize hn : ops.length = n at *
    obtain ⟨dst, hd⟩ : ∃ dst : Nat → Option Nat, ∀ j o, ops[j]? = some o → dst j = o.dst := ⟨fun j => (ops[j]?).bind LOper.dst, fun j o ho => by simp [ho]⟩
    have htr : ∀ j o, ops[j]? = some o → ((ops.zipIdx 0).map fun p => trOf p.1 (rd p.2) (wr p.2))[j]? = some (trOf o (rd j) (wr j)) := fun j o ho => by
      rw [List.getElem?_map, List.getElem?_zipIdx, ho]; simp
    have hTl : ((ops.zipIdx 0).map fun p => trOf p.1 (rd p.2) (wr p.2)).length = n := by simp [hn]
    generalize ((ops.zipIdx 0).map fun p => trOf p.1 (rd p.2) (wr p.2)) = T at *
    have hget : ∀ j, j < n → ∃ o, ops[j]? = some o := fun j hj => ⟨ops[j]'(by omega), List.getElem?_eq_getElem (by omega)⟩
    -- the text's own states
    have text : ∀ i, i ≤ n → At n dst v wr fr σ (fun j => j < i) (f i) (s i) := by
      intro i
      induction i with
      | zero => intro _; rw [hf0, hst0]; exact At.start.mono fun j hj => by simp
      | succ i ih =>
        intro hi
        obtain ⟨o, ho⟩ := hget i (by omega)
        obtain ⟨e1, e2, _⟩ := hall i o (Nat.zero_le _) ho
        rw [e1, e2, ← hd i o ho]
        refine ((ih (by omega)).step (by omega) (by omega) (fun j h1 _ h2 => by omega) (fun j h1 _ h2 => by omega)).mono fun j hj => ?_
        omega
    have clashes : ∀ {D : Nat → Prop}, (∀ j o, ops[j]? = some o → D j → ∀ e ∈ o.af, D e) → ∀ i j oi oj, i < j → ops[i]? = some oi → ops[j]? = some oj → clash (trOf oi (rd i) (wr i)) (trOf oj (rd j) (wr j)) = true → D j → D i := by
      intro D hcl i j oi oj hij hoi hoj hcs hDj
      refine befs_spec (D := D) T [] (fun j' t' ht' hD e he => ?_) (fun j' i' hi' => by simp at hi') j i (okTr_spec hok (htr i oi hoi) (htr j oj hoj) hij hcs) hDj
      have hjl : j' < n := by
        have := (List.getElem?_eq_some_iff.1 ht').1
        omega
      obtain ⟨o', ho'⟩ := hget j' hjl
      rw [htr j' o' ho'] at ht'
      cases ht'
      exact hcl j' o' ho' (by simpa using hD) e he
    have hgd : ∀ (listed : Array Bool) j, listed.size = n → j < n → listed.getD j true = listed.getD j false := fun listed j h1 h2 => by
      rw [Array.getD_eq_getD_getElem?, Array.getD_eq_getD_getElem?, Array.getElem?_eq_getElem (by omega)]; rfl
    have fin : ∀ (listed : Array Bool) (a : Act) (w : World) (G : Gh) (fr' : List AV) (σ' : Store), (∀ j, j < n → listed.getD j false = true) → At n dst v wr fr σ (fun j => listed.getD j false = true) fr' σ' → GLe B.N G0 G → Sim B G a w D0 fr' σ' → Post B G0 D0 Q .normal a w := by
      intro listed a w G fr' σ' hallL hat hle hsim
      have hfr : fr' = f n := List.ext_getElem? fun t => hat.agree (text n (Nat.le_refl _)) fun j hj _ => by simp [hallL j hj, hj]
      refine ⟨G, f n, s n, hle, ⟨hsim.mem.sub fun k o hk => ?_, hfr ▸ hsim.fr, hsim.df⟩, hK⟩
      rw [hat.agreeS (text n (Nat.le_refl _)) (k := k) fun j hj _ => by simp [hallL j hj, hj]]
      exact hk
    have main : ∀ (fuel : Nat) (listed : Array Bool) (a : Act) (w : World) (G : Gh) (fr' : List AV) (σ' : Store), listed.size = n → (List.range n).countP (fun j => listed.getD j false) + fuel = n →
        (∀ j o, ops[j]? = some o → listed.getD j false = true → ∀ e ∈ o.af, listed.getD e false = true) → At n dst v wr fr σ (fun j => listed.getD j false = true) fr' σ' → GLe B.N G0 G → Sim B G a w D0 fr' σ' →
        (∀ i, i < n → listed.getD i false = false → ∀ k, G.io k (nv + i) = none) → wpAnyIn (FW ro) 0 P .any cops (Post B G0 D0 Q) fuel listed a w := by
      intro fuel
      induction fuel with
      | zero =>
        intro listed a w G fr' σ' hls hcnt hcl hat hle hsim hcol
        have hallL : ∀ j, j < n → listed.getD j false = true := by
          intro j hj
          have : (List.range n).countP (fun j => listed.getD j false) = (List.range n).length := by simpa using hcnt
          exact List.countP_eq_length.1 this j (List.mem_range.2 hj)
        refine ⟨?_, fin listed a w G fr' σ' hallL hat hle hsim⟩
        refine List.eq_nil_iff_forall_not_mem.2 fun j hj => ?_
        rw [mem_ready] at hj
        obtain ⟨h0, o, ho, _⟩ := hj
        have hjn : j < n := by have := (Array.getElem?_eq_some_iff.1 ho).1; omega
        rw [hgd listed j hls hjn, hallL j hjn] at h0
        cases h0
      | succ fuel ih =>
        intro listed a w G fr' σ' hls hcnt hcl hat hle hsim hcol
        refine ⟨fun hr => ?_, fun i hi => ?_⟩
        · refine fin listed a w G fr' σ' (fun j => ?_) hat hle hsim
          induction j using Nat.strongRecOn with
          | _ j ihj =>
            intro hj
            cases hq : listed.getD j false with
            | true => rfl
            | false =>
              exfalso
              obtain ⟨lo, hlo⟩ := hget j hj
              have hmem : j ∈ Region.ready .any cops listed := by
                rw [mem_ready]
                refine ⟨by rw [hgd listed j hls hj]; exact hq, cops[j]'(by omega), by simp [show j < cops.size by omega], fun e he hb => ?_⟩
                have haf := lowOper_af (hlow j (cops[j]'(by omega)) lo (by simp [show j < cops.size by omega]) hlo)
                have hin : e.on ∈ lo.af := by
                  rw [haf]
                  exact List.mem_map.2 ⟨e, List.mem_filter.2 ⟨Array.mem_toList_iff.2 he, hb⟩, rfl⟩
                have hlt := okTr_lt hok (htr j lo hlo) e.on hin
                exact ihj e.on hlt (by omega)
              rw [hr] at hmem; cases hmem
        · rw [mem_ready] at hi
          obtain ⟨h0, o, ho, hdeps⟩ := hi
          have hin : i < n := by have := (Array.getElem?_eq_some_iff.1 ho).1; omega
          rw [hgd listed i hls hin] at h0
          obtain ⟨lo, hlo⟩ := hget i hin
          have hlw := hlow i o lo (by rw [Array.getElem?_toList]; exact ho) hlo
          obtain ⟨hop, hdo⟩ := lowOper_op hlw
          have haf := lowOper_af hlw
          have hafD : ∀ e ∈ lo.af, listed.getD e false = true := by
            intro e he
            rw [haf] at he
            obtain ⟨e', he', rfl⟩ := List.mem_map.1 he
            obtain ⟨he1, he2⟩ := List.mem_filter.1 he'
            exact hdeps e' (Array.mem_toList_iff.1 he1) he2
          obtain ⟨e1, e2, hcase⟩ := hall i lo (Nat.zero_le _) hlo
          -- who clashes with i
          have before : ∀ j oj, j < i → ops[j]? = some oj → clash (trOf oj (rd j) (wr j)) (trOf lo (rd i) (wr i)) = true → listed.getD j false = true := by
            intro j oj hji hoj hcs
            have := clashes (D := fun j => listed.getD j false = true ∨ j = i) (fun j' o' ho' hD e he => by
              rcases hD with hD | rfl
              · exact .inl (hcl j' o' ho' hD e he)
              · rw [hlo] at ho'; cases ho'; exact .inl (hafD e he)) j i oj lo hji hoj hlo hcs (.inr rfl)
            rcases this with h | h
            · exact h
            · omega
          have after : ∀ j oj, i < j → ops[j]? = some oj → clash (trOf lo (rd i) (wr i)) (trOf oj (rd j) (wr j)) = true → ¬ listed.getD j false = true := by
            intro j oj hij hoj hcs hD
            have := clashes (D := fun j => listed.getD j false = true) hcl i j lo oj hij hlo hoj hcs hD
            rw [h0] at this; cases this
          have agree : ∀ t, t ∈ lslots lo → fr'[t]? = (f i)[t]? := by
            intro t ht
            refine hat.agree (text i (by omega)) fun j hj hdj => ?_
            obtain ⟨oj, hoj⟩ := hget j hj
            rw [hd j oj hoj] at hdj
            constructor
            · intro hD
              rcases Nat.lt_trichotomy j i with h | rfl | h
              · exact h
              · rw [h0] at hD; cases hD
              · exact absurd hD (after j oj h hoj (by simp [clash, trOf, inD, hdj, ht]))
            · intro h
              exact before j oj h hoj (by simp [clash, trOf, inD, hdj, ht])
          have hgv : gval fr' lo = gval (f i) lo := by
            unfold gval
            split
            · rfl
            · rename_i t want hg
              rw [agree t (by simp [lslots, hg])]
          have hx : ∀ x ∈ lo.op.xs, aev fr' x = aev (f i) x := by
            intro x hx
            cases x with
            | c v => rfl
            | t t =>
              simp only [aev, List.getD_eq_getElem?_getD]
              rw [agree t (by simp only [lslots, List.mem_append]; exact .inr (xslots_mem hx))]
          have hkeys : ∀ k ∈ rd i, sget σ' k = sget (s i) k := by
            intro k hk
            refine hat.agreeS (text i (by omega)) fun j hj hw => ?_
            obtain ⟨oj, hoj⟩ := hget j hj
            obtain ⟨p, hp, hpk⟩ := hw
            have hwk : k ∈ (wr j).map (·.1) := List.mem_map.2 ⟨p, hp, hpk⟩
            constructor
            · intro hD
              rcases Nat.lt_trichotomy j i with h | rfl | h
              · exact h
              · rw [h0] at hD; cases hD
              · refine absurd hD (after j oj h hoj ?_)
                have : meet ((wr j).map (·.1)) (rd i) = true := List.any_eq_true.2 ⟨k, hwk, by simpa using hk⟩
                simp [clash, trOf, this]
            · intro h
              refine before j oj h hoj ?_
              have : meet ((wr j).map (·.1)) (rd i) = true := List.any_eq_true.2 ⟨k, hwk, by simpa using hk⟩
              simp [clash, trOf, this]
          have hstep := hat.step (i := i) hin (by rw [h0]; simp) (fun j hij hj hD t hdi hdj => by
            obtain ⟨oj, hoj⟩ := hget j hj
            rw [hd i lo hlo] at hdi
            rw [hd j oj hoj] at hdj
            exact after j oj hij hoj (by simp [clash, trOf, hdi, hdj]) hD) (fun j hij hj hD p hp q hq hpq => by
            obtain ⟨oj, hoj⟩ := hget j hj
            refine after j oj hij hoj ?_ hD
            have : meet ((wr i).map (·.1)) ((wr j).map (·.1)) = true := List.any_eq_true.2 ⟨p.1, List.mem_map.2 ⟨p, hp, rfl⟩, by simpa using ⟨q.2, by rw [hpq]; exact hq⟩⟩
            simp [clash, trOf, this])
          rw [hd i lo hlo] at hstep
          have hset : ∀ j, (listed.setIfInBounds i true).getD j false = if j = i then true else listed.getD j false := by
            intro j
            by_cases e : j = i
            · subst e
              rw [if_pos rfl, Array.getD_eq_getD_getElem?, Array.getElem?_setIfInBounds]
              simp [show j < listed.size by omega]
            · rw [if_neg e, Array.getD_eq_getD_getElem?, Array.getElem?_setIfInBounds, if_neg (fun h => e h.symm), ← Array.getD_eq_getD_getElem?]
          have next : ∀ (G' : Gh) (w' : World) (u : Value), G.le G' → (∀ k n', n' < nv + n → n' ≠ nv + i → G'.io k n' = G.io k n') → MemSim B G' w' (upds σ' (wr i)) → ARep G' (v i) u → wpAnyIn (FW ro) 0 P .any cops (Post B G0 D0 Q) fuel (listed.setIfInBounds i true) (a.put o.dst u) w' := by
            intro G' w' u hle' hcol' hm' hrep
            rw [hdo]
            refine ih _ _ w' G' _ _ (by simpa using hls) ?_ ?_ (hstep.mono fun j hj => ?_) (hle.trans ⟨hle', fun k n' hn => hcol' k n' (by omega) (by omega)⟩) ⟨hm', put_reps (hsim.fr.mono hle') hrep, put_df hsim.df hle'⟩ ?_
            · have := countP_set (l := List.range n) (p := fun j => listed.getD j false) (q := fun j => (listed.setIfInBounds i true).getD j false) List.nodup_range (List.mem_range.2 hin) h0 (by simp only [hset, if_true]) (fun j hj => by simp only [hset, if_neg hj])
              omega
            · intro j oj hoj hD e he
              rw [hset] at hD ⊢
              split
              · rfl
              · split at hD
                · rename_i hji; subst hji; rw [hlo] at hoj; cases hoj; exact hafD e he
                · exact hcl j oj hoj hD e he
            · rw [hset]
              by_cases e : j = i
              · simp [e]
              · simp [e]
            · intro j hj hD k
              rw [hset] at hD
              split at hD
              · cases hD
              · rename_i hji
                rw [hcol' k (nv + j) (by omega) (by omega)]
                exact hcol j hj hD k
          unfold wpOpIn
          simp only [ho]
          rcases hcase with ⟨hg, hst⟩ | ⟨hg, hv, hw⟩
          · rw [if_pos (wanted_of hlw hsim.fr (hgv.trans hg))]
            refine oper_in (lowOp_nodefer hop) ?_
            refine hst fr' σ' hx hkeys o hop B G a w (nv + n) hsim.mem hsim.fr (hcol i hin h0) _ _ ?_
            intro G' w' u hle' hcol' _ hm' hrep
            exact next G' w' u hle' hcol' hm' hrep
          · rw [if_neg (by rw [wanted_of hlw hsim.fr (hgv.trans hg)]; simp)]
            refine ⟨fun _ _ => trivial, ?_⟩
            exact next G w undef (Gh.le_refl G) (fun _ _ _ _ => rfl) (by rw [hw]; exact hsim.mem) (by rw [hv]; exact arep_tu (AReps.nil G))
    have hrep0 : ∀ j, (Array.replicate n false).getD j false = false := fun j => by
      rw [Array.getD_eq_getD_getElem?, Array.getElem?_replicate]; split <;> rfl
    refine wpIn_region_any hmix ?_
    rw [hsz]
    refine main n _ a0 _ G0 fr σ (by simp) ?_ (fun j o ho hD => ?_) (At.start.mono fun j hj => ?_) (GLe.refl _ G0) ⟨hs0.mem.same rfl rfl rfl rfl, hs0.fr, hs0.df⟩ (fun i hi _ k => hN k _ (by omega))
    · have : (List.range n).countP (fun j => (Array.replicate n false).getD j false) = 0 := by
        rw [List.countP_eq_zero]
        intro j hj
        simp only [hrep0]; simp
      omega
    · rw [hrep0] at hD; cases hD
    · simp only [hrep0]; simp
  | seq x y => simp only [lowC] at hc; split at hc <;> cases hc
  | cond x y z => simp only [lowC] at hc; split at hc <;> cases hc
  | rangeFunc x y z u => simp only [lowC] at hc; split at hc <;> cases hc
  | block x y => simp only [lowC, Option.map_eq_some_iff] at hc; obtain ⟨_, _, he⟩ := hc; cases he
  | loop x => simp only [lowC, Option.map_eq_some_iff] at hc; obtain ⟨_, _, he⟩ := hc; cases he
  | _ => simp [lowC] at hc
end Go.Am
/- The rules for regions that draw, in the form in which a proof applies them; small lemmas on values. -/
namespace Go.Am
open Go.RowKit
set_option linter.unusedVariables false
variable {P : Program} {fr fr' : List AV} {σ σ' : Store} {Q : AQ} {nv i : Nat} {K : List AV → Store → Prop} {o : LOper} {r : List LOper} {v : AV} {rd ks : List Key} {wr : List (Key × AO)} {tr : List Tr}
/-- One operation of a region that draws: the frame and the store behind it, and what it reads and writes. -/
def aoneT (lvl nv i : Nat) (o : LOper) (fr : List AV) (σ : Store) : Option (List AV × Store × List Key × List Key) :=
  match gval fr o with
  | some true => (astep (lvl, o.dst.getD 0) (nv + i) fr σ o.op).map fun p => (put fr o.dst p.1, upds σ p.2.2, p.2.1, p.2.2.map (·.1))
  | some false => some (put fr o.dst (.tu []), σ, [], [])
  | none => none
theorem adr_one (lvl : Nat) {rk wk : List Key} (h : aoneT lvl nv i o fr σ = some (fr', σ', rk, wk)) (hr : ADr P nv K (i + 1) r (tr ++ [⟨lslots o, o.dst, rk, wk, o.af⟩]) fr' σ') : ADr P nv K i (o :: r) tr fr σ := by
  unfold aoneT at h
  split at h
  · rename_i hg
    obtain ⟨⟨v, rd, wr⟩, hs, he⟩ := Option.map_eq_some_iff.1 h
    cases he
    exact .inl ⟨hg, v, _, wr, AStep.of_astep _ hs, hr⟩
  · rename_i hg
    cases h
    exact .inr ⟨hg, hr⟩
  · cases h
theorem adr_nil (ht : okTr tr = true) (h : K fr σ) : ADr P nv K i [] tr fr σ := ⟨ht, h⟩
theorem adr_call {f : Nat} {args : List AV} {res : AV} {lf : LF} (hg : gval fr o = some true) (hlf : lowFn P f = some lf) (hc : acall fr o.op = some (f, args)) (hp : ∀ x ∈ args, Pure x) (h : APure P f args res) (hf : put fr o.dst res = fr') (hr : ADr P nv K (i + 1) r (tr ++ [⟨lslots o, o.dst, [], [], o.af⟩]) fr' σ) : ADr P nv K i (o :: r) tr fr σ := by
  subst hf
  exact .inl ⟨hg, res, [], [], AStep.call hlf hc rfl (fz_all hp) h (.inl rfl), hr⟩
theorem adr_call_flat {f : Nat} {args args' : List AV} {res : AV} {lf : LF} (ks : List Key) (hg : gval fr o = some true) (hlf : lowFn P f = some lf) (hc : acall fr o.op = some (f, args)) (hl : args.length = args'.length) (hz : ∀ (j : Nat) (x y : AV), args[j]? = some x → args'[j]? = some y → Fz σ ks x y)
    (hfl : Flat res) (h : APure P f args' res) (hf : put fr o.dst res = fr') (hr : ADr P nv K (i + 1) r (tr ++ [⟨lslots o, o.dst, ks, [], o.af⟩]) fr' σ) : ADr P nv K i (o :: r) tr fr σ := by
  subst hf
  exact .inl ⟨hg, res, ks, [], AStep.call hlf hc hl hz h (.inr hfl), hr⟩

theorem pure_b (x : Bool) : Pure (.b x) ↔ True := ⟨fun _ => trivial, fun _ => .b x⟩
theorem pure_i (k : IntKind) (n : Int) : Pure (.i k n) ↔ True := ⟨fun _ => trivial, fun _ => .i k n⟩
theorem pure_s (x : ByteArray) : Pure (.s x) ↔ True := ⟨fun _ => trivial, fun _ => .s x⟩
theorem pure_nilp : Pure .nilp ↔ True := ⟨fun _ => trivial, fun _ => .nilp⟩
theorem pure_nilf : Pure .nilf ↔ True := ⟨fun _ => trivial, fun _ => .nilf⟩
theorem pure_esl : Pure .esl ↔ True := ⟨fun _ => trivial, fun _ => .esl⟩
theorem pure_ref (cs : List AV) (off : Nat) : Pure (.ref cs off) ↔ ∀ x ∈ cs, Pure x := ⟨fun h => by cases h; assumption, .ref cs off⟩
theorem pure_sl (rows : List (List AV)) : Pure (.sl rows) ↔ ∀ r ∈ rows, ∀ x ∈ r, Pure x := ⟨fun h => by cases h; assumption, .sl rows⟩
theorem pure_ag (cs : List AV) : Pure (.ag cs) ↔ ∀ x ∈ cs, Pure x := ⟨fun h => by cases h; assumption, .ag cs⟩
theorem pure_tu (cs : List AV) : Pure (.tu cs) ↔ ∀ x ∈ cs, Pure x := ⟨fun h => by cases h; assumption, .tu cs⟩
theorem pure_fn (f : Nat) (a c : List AV) : Pure (.fn f a c) ↔ (∀ x ∈ a, Pure x) ∧ ∀ x ∈ c, Pure x := ⟨fun h => by cases h; exact ⟨by assumption, by assumption⟩, fun h => .fn f a c h.1 h.2⟩
theorem fz_eq {x y : AV} (h : x = y) (hp : Pure x) : Fz σ [] x y := h ▸ .pure x hp
theorem fz_res {ks : List Key} {x y : AV} (h : x = y) (hp : Pure y) : Fz σ ks x y := h ▸ .pure x (h ▸ hp)
theorem fz_eq' {ks : List Key} {x y : AV} (h : x = y) (hp : Pure x) : Fz σ ks x y := h ▸ .pure x hp
/-- Value by value. -/
def FzL (σ : Store) (ks : List Key) : List AV → List AV → Prop
  | [], [] => True
  | x :: xs, y :: ys => Fz σ ks x y ∧ FzL σ ks xs ys
  | _, _ => False
theorem FzL.get {ks : List Key} : ∀ {xs ys : List AV}, FzL σ ks xs ys → xs.length = ys.length ∧ ∀ (j : Nat) (x y : AV), xs[j]? = some x → ys[j]? = some y → Fz σ ks x y
  | [], [], _ => ⟨rfl, fun j x y h => by simp at h⟩
  | x :: xs, y :: ys, h => by
    obtain ⟨h1, h2⟩ := FzL.get h.2
    refine ⟨by simp [h1], fun j a b ha hb => ?_⟩
    cases j with
    | zero => simp at ha hb; subst ha; subst hb; exact h.1
    | succ j => exact h2 j a b (by simpa using ha) (by simpa using hb)
  | [], _ :: _, h => h.elim
  | _ :: _, [], h => h.elim
theorem fz_ptr {k : Key} {ver i off esz : Nat} {rs : List (List AV)} {cs cs' : List AV} (hk : k ∈ ks) (hs : sget σ k = some ⟨ver, .rows esz rs⟩) (hi : rs[i]? = some cs) (h : FzL σ ks cs cs') : Fz σ ks (.ptr k ver i off) (.ref cs' off) :=
  .ptr k ver i off esz rs cs cs' hk hs hi h.get.1 h.get.2
theorem fz_ag {cs cs' : List AV} (h : FzL σ ks cs cs') : Fz σ ks (.ag cs) (.ag cs') := .ag cs cs' h.get.1 h.get.2
theorem fz_tu {cs cs' : List AV} (h : FzL σ ks cs cs') : Fz σ ks (.tu cs) (.tu cs') := .tu cs cs' h.get.1 h.get.2
theorem fz_fn {f : Nat} {a a' c c' : List AV} (h1 : FzL σ ks a a') (h2 : FzL σ ks c c') : Fz σ ks (.fn f a c) (.fn f a' c') := .fn f a a' c c' h1.get.1 h2.get.1 h1.get.2 h2.get.2
/-- A whole row of values without references. -/
theorem fz_row {k : Key} {ver len esz : Nat} {rs : List (List AV)} (hk : k ∈ ks) (hs : sget σ k = some ⟨ver, .rows esz rs⟩) (hl : rs.length = len) (hz : ∀ r ∈ rs, r.length = esz) (hp : ∀ r ∈ rs, ∀ x ∈ r, Pure x) : Fz σ ks (.row k ver 0 len) (.sl rs) := by
  refine .row k ver 0 len esz rs rs hk hs (by omega) hl hz fun i cs cs' j x y h1 h2 h3 h4 => ?_
  rw [Nat.zero_add, h2] at h1; cases h1
  rw [h3] at h4; cases h4
  exact .pure x (hp cs (List.mem_of_getElem? h2) x (List.mem_of_getElem? h3))
theorem aops_callz {f : Nat} {args args' : List AV} {res : AV} {lf : LF} (ks : List Key) (hg : gval fr o = some true) (hlf : lowFn P f = some lf) (hc : acall fr o.op = some (f, args)) (hz : FzL σ ks args args')
    (hfl : Flat res) (h : APure P f args' res) (hf : put fr o.dst res = fr') (hr : AOps P nv K (i + 1) r fr' σ) : AOps P nv K i (o :: r) fr σ := aops_call_flat ks hg hlf hc hz.get.1 hz.get.2 hfl h hf hr
theorem adr_callz {f : Nat} {args args' : List AV} {res : AV} {lf : LF} (ks : List Key) (hg : gval fr o = some true) (hlf : lowFn P f = some lf) (hc : acall fr o.op = some (f, args)) (hz : FzL σ ks args args')
    (hfl : Flat res) (h : APure P f args' res) (hf : put fr o.dst res = fr') (hr : ADr P nv K (i + 1) r (tr ++ [⟨lslots o, o.dst, ks, [], o.af⟩]) fr' σ) : ADr P nv K i (o :: r) tr fr σ := adr_call_flat ks hg hlf hc hz.get.1 hz.get.2 hfl h hf hr
theorem flat_b (x : Bool) : Flat (.b x) := .b x
theorem awp_end {rs : List LR} {res : AV} {vs : List AV} (ks : List Key) {e : Exit} (he : e = .normal ∨ e = .ret) (hv : ares σ fr rs = some vs) (hz : Fz σ ks (tup vs) res) : retQ rs res e fr σ := ⟨he, vs, ks, hv, hz⟩
end Go.Am
namespace Go.Am
variable {P : Program} {fr : List AV} {σ : Store} {nv i : Nat} {K : List AV → Store → Prop} {o : LOper} {r : List LOper} {tr : List Tr}
/-- A guard that is not known: both ways. -/
theorem aops_gsplit {t : Nat} {want b : Bool} (hg : o.g = some (t, want)) (hb : fr.getD t .bot = .b b) (h1 : b = true → AOps P nv K i (o :: r) fr σ) (h2 : b = false → AOps P nv K i (o :: r) fr σ) : AOps P nv K i (o :: r) fr σ := by
  cases b
  · exact h2 rfl
  · exact h1 rfl
theorem adr_gsplit {t : Nat} {want b : Bool} (hg : o.g = some (t, want)) (hb : fr.getD t .bot = .b b) (h1 : b = true → ADr P nv K i (o :: r) tr fr σ) (h2 : b = false → ADr P nv K i (o :: r) tr fr σ) : ADr P nv K i (o :: r) tr fr σ := by
  cases b
  · exact h2 rfl
  · exact h1 rfl
end Go.Am
/- Calls that write what they were handed: contracts with a store ahead of the call, and one behind it. -/
namespace Go.Am
open Go.RowKit
set_option linter.unusedSimpArgs false
set_option linter.unusedVariables false
variable {P : Program} {B : Base} {G : Gh} {w : World} {σ σ' : Store} {fr : List AV} {a : Act}

/-- What a call of a function comes to, at a store of which it may write all. -/
def ACall (P : Program) (f : Nat) (args : List AV) (σ : Store) (T : AV → Store → Prop) : Prop :=
  ∀ (G : Gh) (w : World) (us : List Value) (N : Nat), MemSim ⟨w, Live G σ, G.F, N⟩ G w σ → AReps G args us →
    Calls P f us.toArray w fun e w' => ∃ v G' res σ', e = .returned v ∧ GLe N G G' ∧ MemSim ⟨w, Live G σ, G.F, N⟩ G' w' σ' ∧ ARep G' res v ∧ T res σ'
theorem ACall.mono {f : Nat} {args : List AV} {T T' : AV → Store → Prop} (h : ACall P f args σ T) (ht : ∀ r s, T r s → T' r s) : ACall P f args σ T' := by
  intro G w us N hm hr
  refine (h G w us N hm hr).mono ?_
  rintro e w' ⟨v, G', res, σ', h1, h2, h3, h4, h5⟩
  exact ⟨v, G', res, σ', h1, h2, h3, h4, ht _ _ h5⟩
/-- The end of a function's body, the objects left as they are. -/
def retM (rs : List LR) (T : AV → Store → Prop) : AQ := fun e fr σ =>
  (e = .normal ∨ e = .ret) ∧ ∃ vs, ares σ fr rs = some vs ∧ T (tup vs) σ
theorem acall_of {f : Nat} {lf : LF} {args : List AV} {T : AV → Store → Prop} (hlf : lowFn P f = some lf) (h : AWp P lf.body (retM lf.res T) (args ++ List.replicate (lf.ntmps - args.length) .bot) σ) : ACall P f args σ T := by
  obtain ⟨fn, c, hf, hc, hb, hr, hn, _⟩ := lowFn_spec hlf
  intro G w us N hm hargs
  refine callsIn_FW.1 (callsIn_of_wp_marks (F := FW none) (n := 0) hf hc trivial ?_)
  have hfr : AReps G (args ++ List.replicate (lf.ntmps - args.length) .bot) (us.toArray ++ Array.replicate (fn.ntmps - us.toArray.size) undef).toList := by
    have : AReps G (List.replicate (lf.ntmps - args.length) AV.bot) (List.replicate (lf.ntmps - args.length) undef) := ⟨by simp, fun j x u hx _ => by
      rw [List.getElem?_replicate] at hx
      split at hx
      · cases hx; exact .bot _
      · cases hx⟩
    have := hargs.app this
    rw [hn]
    have e : us.length = args.length := hargs.1.symm
    simpa [e] using this
  refine wpIn_mono (h c hb none (fun e => by cases e) _ G _ w [] ⟨hm, hfr, Marks.refl _ _ _⟩) ?_
  rintro e a' w' ⟨G', fr', σ', hle, hs, hq, vs, hv, hT⟩
  have hgo : ∀ w', MemSim ⟨w, Live G σ, G.F, N⟩ (G'.unmark w.heap.size) w' σ' → AReps (G'.unmark w.heap.size) fr' a'.tmps.toList → ∃ u, (results fn a'.tmps).run P w' = .ok u w' ∧
      ∃ v G' res σ', Ending.returned u = .returned v ∧ GLe N G G' ∧ MemSim ⟨w, Live G σ, G.F, N⟩ G' w' σ' ∧ ARep G' res v ∧ T res σ' := by
    intro w' hm' hfr'
    obtain ⟨u, hrun, hrep⟩ := results_run (P := P) hm' hfr' hr hv
    exact ⟨u, hrun, u, _, _, σ', rfl, ⟨⟨fun b o u h => unmark_lt (hle.1.F b o u h) (rdm_lt (hm.hF b o u h)), fun k v L e => hle.1.io k v L e⟩, fun k n hn => hle.2 k n hn⟩, hm', hrep, hT⟩
  rcases hq with rfl | rfl
  · exact post_leaves hs hgo
  · exact post_leaves hs hgo

/-! ### The rest of the store stays -/
def sdel (σ : Store) (ks : List Key) : Store := σ.filter fun p => !ks.contains p.1
theorem sget_sdel (σ : Store) (ks : List Key) (k : Key) : sget (sdel σ ks) k = if k ∈ ks then none else sget σ k := by
  induction σ with
  | nil => simp [sdel, sget]
  | cons p r ih =>
    obtain ⟨q, o⟩ := p
    simp only [sdel] at ih ⊢
    rw [List.filter_cons]
    by_cases hq : q ∈ ks
    · have : (!ks.contains q) = false := by simp [hq]
      simp only [this, Bool.false_eq_true, if_false, ih, sget]
      by_cases hk : k ∈ ks
      · simp [hk]
      · have : ¬ q = k := fun e => hk (e ▸ hq)
        simp [hk, this]
    · have : (!ks.contains q) = true := by simp [hq]
      simp only [this, if_true, sget, ih]
      by_cases e : q = k
      · subst e; simp [hq]
      · simp [e]
theorem sget_append (σ τ : Store) (k : Key) : sget (σ ++ τ) k = (match sget σ k with | some o => some o | none => sget τ k) := by
  induction σ with
  | nil => rfl
  | cons p r ih =>
    obtain ⟨q, o⟩ := p
    simp only [List.cons_append, sget]
    split <;> simp [*]
theorem sget_key {σ : Store} {k : Key} {o : AO} (h : sget σ k = some o) : k ∈ σ.map (·.1) := by
  induction σ with
  | nil => simp [sget] at h
  | cons p r ih =>
    obtain ⟨q, o'⟩ := p
    simp only [sget] at h
    split at h
    · rename_i e; subst e; simp
    · simp [ih h]
theorem sget_nokey {σ : Store} {k : Key} (h : k ∉ σ.map (·.1)) : sget σ k = none := by
  cases hs : sget σ k with
  | none => rfl
  | some o => exact absurd (sget_key hs) h
/-- What a store is behind a call: what the call leaves, and of the rest what was not handed to it. -/
def rest (σ σr σ2 : Store) : Store := σ2 ++ sdel σ (σr.map (·.1))
theorem sget_rest (σ σr σ2 : Store) (k : Key) : sget (rest σ σr σ2) k = (match sget σ2 k with | some o => some o | none => if k ∈ σr.map (·.1) then none else sget σ k) := by
  unfold rest; rw [sget_append, sget_sdel]
theorem Live.mono {G G' : Gh} {b : Nat} (h : Live G σ b) (hle : G.le G') : Live G' σ b := by
  obtain ⟨k, o, L, h1, h2, h3⟩ := h
  exact ⟨k, o, L, h1, hle.io _ _ _ h2, h3⟩
theorem Live.sub {σr : Store} (hs : StLe σ σr) {b : Nat} (h : Live G σr b) : Live G σ b := by
  obtain ⟨k, o, L, h1, h2, h3⟩ := h
  exact ⟨k, o, L, hs k o h1, h2, h3⟩
theorem MemSim.enter {σr : Store} (hm : MemSim B G w σ) (hs : StLe σ σr) (N : Nat) : MemSim ⟨w, Live G σr, G.F, N⟩ G w σr :=
  { hF := hm.hF
    hF0 := fun b o u h => .inl h
    obj := fun k o h => hm.obj k o (hs k o h)
    sepF := fun b h => hm.sepF b (h.sub hs)
    sep := fun k k' o o' L L' b h1 h2 => hm.sep k k' o o' L L' b (hs _ _ h1) (hs _ _ h2)
    own := fun b h => .inl h
    fin := hm.fin
    os := rfl
    tape := rfl
    output := rfl
    size := Nat.le_refl _
    keep := fun _ _ _ => rfl
    fz := fun _ h => h }
theorem MemSim.leave {σr σ2 : Store} {G' : Gh} {w' : World} {N : Nat} (hm : MemSim B G w σ) (hs : StLe σ σr) (hle : GLe N G G') (h2 : MemSim ⟨w, Live G σr, G.F, N⟩ G' w' σ2) : MemSim B G' w' (rest σ σr σ2) := by
  -- an object that was not handed in
  have old : ∀ k o, k ∉ σr.map (·.1) → sget σ k = some o → ∀ L b, G'.io k o.ver = some L → L.blk = some b → G.io k o.ver = some L ∧ b < w.heap.size ∧ ¬ Live G σr b := by
    intro k o hk ho L b hL hb
    obtain ⟨L0, hL0, hr⟩ := hm.obj k o ho
    have e := hle.1.io _ _ _ hL0
    rw [hL] at e; cases e
    refine ⟨hL0, hr.lt hb, ?_⟩
    rintro ⟨k3, o3, L3, h3, h4, h5⟩
    have := hm.sep k3 k o3 o L3 L b (hs _ _ h3) ho h4 hL0 h5 hb
    subst this
    exact hk (sget_key h3)
  have cases_ : ∀ k o, sget (rest σ σr σ2) k = some o → sget σ2 k = some o ∨ (k ∉ σr.map (·.1) ∧ sget σ k = some o) := by
    intro k o h
    rw [sget_rest] at h
    split at h
    · cases h; exact .inl (by assumption)
    · split at h
      · cases h
      · exact .inr ⟨by assumption, h⟩
  have live : ∀ b, Live G' (rest σ σr σ2) b → Live G' σ2 b ∨ (Live G σ b ∧ b < w.heap.size ∧ ¬ Live G σr b) := by
    rintro b ⟨k, o, L, hk, hL, hb⟩
    rcases cases_ k o hk with h | ⟨h1, h3⟩
    · exact .inl ⟨k, o, L, h, hL, hb⟩
    · obtain ⟨e1, e2, e3⟩ := old k o h1 h3 L b hL hb
      exact .inr ⟨⟨k, o, L, h3, e1, hb⟩, e2, e3⟩
  exact
  { hF := h2.hF
    hF0 := fun b o u h => by
      rcases h2.hF0 b o u h with h | h
      · exact hm.hF0 b o u h
      · exact .inr (Nat.le_trans hm.size h)
    obj := fun k o hk => by
      rcases cases_ k o hk with h | ⟨h1, h3⟩
      · exact h2.obj k o h
      · obtain ⟨L, hL, hr⟩ := hm.obj k o h3
        refine ⟨L, hle.1.io _ _ _ hL, hr.mono hle.1 fun b hb => ?_⟩
        obtain ⟨e1, e2, e3⟩ := old k o h1 h3 L b (hle.1.io _ _ _ hL) hb
        exact h2.keep b e2 e3
    sepF := fun b hb o => by
      rcases live b hb with h | ⟨h, e2, e3⟩
      · exact h2.sepF b h o
      · cases hf : G'.F b o with
        | none => rfl
        | some u =>
          rcases h2.hF0 b o u hf with h' | h'
          · have h' : G.F b o = some u := h'
            rw [hm.sepF b h o] at h'; cases h'
          · have : w.heap.size ≤ b := h'
            omega
    sep := fun k k' o o' L L' b hk hk' hL hL' hb hb' => by
      rcases cases_ k o hk with h | ⟨h1, h3⟩ <;> rcases cases_ k' o' hk' with h' | ⟨h1', h3'⟩
      · exact h2.sep k k' o o' L L' b h h' hL hL' hb hb'
      · obtain ⟨e1, e2, e3⟩ := old k' o' h1' h3' L' b hL' hb'
        rcases h2.own b ⟨k, o, L, h, hL, hb⟩ with g | g
        · exact absurd g e3
        · have : w.heap.size ≤ b := g
          omega
      · obtain ⟨e1, e2, e3⟩ := old k o h1 h3 L b hL hb
        rcases h2.own b ⟨k', o', L', h', hL', hb'⟩ with g | g
        · exact absurd g e3
        · have : w.heap.size ≤ b := g
          omega
      · obtain ⟨e1, e2, e3⟩ := old k o h1 h3 L b hL hb
        obtain ⟨e1', e2', e3'⟩ := old k' o' h1' h3' L' b hL' hb'
        exact hm.sep k k' o o' L L' b h3 h3' e1 e1' hb hb'
    own := fun b hb => by
      rcases live b hb with h | ⟨h, e2, e3⟩
      · rcases h2.own b h with g | g
        · exact hm.own b (g.sub hs)
        · exact .inr (Nat.le_trans hm.size g)
      · exact hm.own b h
    fin := h2.fin
    os := h2.os.trans hm.os
    tape := h2.tape.trans hm.tape
    output := h2.output.trans hm.output
    size := Nat.le_trans hm.size h2.size
    fz := fun a ha => hm.fz a (h2.fz a ha)
    keep := fun b h1 h3 => by
      rw [h2.keep b (Nat.lt_of_lt_of_le h1 hm.size) ?_, hm.keep b h1 h3]
      intro hl
      rcases hm.own b (hl.sub hs) with g | g
      · exact h3 g
      · omega }
theorem AMany.call {lo : LO} {f : Nat} {args : List AV} {lf : LF} {T : AV → Store → Prop} (σr : Store) (hlf : lowFn P f = some lf) (hc : acall fr lo = some (f, args)) (hs : StLe σ σr) (h : ACall P f args σr T) :
    AMany P lo fr σ fun v τ => ∃ σ2, T v σ2 ∧ τ = rest σ σr σ2 := by
  intro o hlow B G a w N hm hf K Q hK ro
  refine oper_in (lowOp_nodefer hlow) ?_
  obtain ⟨us, h1, hrun⟩ := acall_run (P := P) (w := w) hc hlow hf hlf
  unfold Oper.wp
  rw [hrun]
  simp only [Oper.upon]
  refine (h G w us N (hm.enter hs N) h1).mono ?_
  rintro e w' ⟨v, G', res, σ2, rfl, g1, g2, g3, g4⟩
  exact hK G' w' v res _ g1 (hm.leave hs g1 g2) g3 ⟨σ2, g4, rfl⟩
/-- A call that may write what it is handed. -/
theorem aops_callm {o : LOper} {r : List LOper} {nv i : Nat} {K : List AV → Store → Prop} {f : Nat} {args : List AV} {lf : LF} {T : AV → Store → Prop} (σr : Store) (hg : gval fr o = some true) (hlf : lowFn P f = some lf) (hc : acall fr o.op = some (f, args)) (hs : StLe σ σr) (h : ACall P f args σr T)
    (hr : ∀ v σ2, T v σ2 → AOps P nv K (i + 1) r (put fr o.dst v) (rest σ σr σ2)) : AOps P nv K i (o :: r) fr σ := by
  refine .inr (.inr ⟨hg, _, AMany.call σr hlf hc hs h, ?_⟩)
  rintro v τ ⟨σ2, h1, rfl⟩
  exact hr v σ2 h1
end Go.Am
/- Is a slice nil? Either answer. -/
namespace Go.Am
open Go.RowKit
set_option linter.unusedSimpArgs false
set_option linter.unusedVariables false
variable {P : Program} {B : Base} {G : Gh} {w : World} {σ σ' : Store} {fr : List AV} {a : Act}

theorem eqTOf_slice {t : TypeId} (h : eqTOf P t = .slice) : ∃ z, P.underlying t = some (.slice z) := by
  unfold eqTOf at h
  split at h <;> first | exact ⟨_, by assumption⟩ | (cases h; done) | (split at h <;> first | (cases h; done) | (split at h <;> cases h))
theorem lowX_esl {y : Operand} (h : lowX y = some (.c .esl)) : y = .const (.slice none 0 0) := by
  cases y with
  | tmp t => simp [lowX] at h
  | func f => simp [lowX] at h
  | global g => simp [lowX] at h
  | const v =>
    simp only [lowX, Option.map_eq_some_iff] at h
    obtain ⟨x, hx, he⟩ := h
    cases he
    unfold ofV at hx
    split at hx
    · simp at hx
    · rw [ofV1_esl hx]
theorem lowOp_bin {op' : Op} {ty : TypeId} {op : BinOp} {e : EqT} {x y : X} (h : lowOp P op' ty = some (.bin op e x y)) : ∃ t x0 y0 t', op' = .binOp op t x0 y0 t' ∧ eqTOf P t = e ∧ lowX x0 = some x ∧ lowX y0 = some y := by
  unfold lowOp at h
  split at h
  all_goals
    first
    | (cases h; done)
    | (rename_i bop t x0 y0 t'
       simp only [Option.bind_eq_bind, Option.bind_eq_some_iff, Option.some.injEq, LO.bin.injEq] at h
       obtain ⟨x', hx, y', hy, rfl, he, rfl, rfl⟩ := h
       exact ⟨_, _, _, _, rfl, he, hx, hy⟩)
    | (exfalso
       repeat' (first | (cases h; done) | (split at h) | (obtain ⟨_, h⟩ := h) | (simp only [Option.bind_eq_bind, Option.bind_eq_some_iff, Option.map_eq_some_iff, Option.some.injEq, reduceCtorEq, and_false, false_and, exists_false, exists_const] at h)))
theorem AMany.eqnil {op : BinOp} {x : X} (hop : op = .eql ∨ op = .neq) (hx : ∀ (G : Gh) (u : Value), ARep G (aev fr x) u → ∃ ad n c, u = .slice ad n c) : AMany P (.bin op .slice x (.c .esl)) fr σ fun v τ => (∃ b, v = .b b) ∧ τ = σ := by
  intro o hlow B G a w N hm hf K Q hK ro
  refine oper_in (lowOp_nodefer hlow) ?_
  obtain ⟨t, x0, y0, t', ho, ht, h1, h2⟩ := lowOp_bin hlow
  obtain ⟨z, hz⟩ := eqTOf_slice ht
  have hy := lowX_esl h2
  subst hy
  obtain ⟨ad, n, c, hu⟩ := hx G _ (opnds_of hf x0 x h1)
  have heq : ∃ r, (Op.equal t (.slice ad n c) (.slice none 0 0)).run P w = .ok r w := by
    cases ad with
    | none => exact ⟨_, equal_of fun d _ => by simp [Op.equalIn, run_underlying hz]; rfl⟩
    | some ad => exact ⟨_, equal_of fun d _ => by simp [Op.equalIn, run_underlying hz]; rfl⟩
  obtain ⟨r, hr⟩ := heq
  have hb : ∃ b, (execOp a.eval o).run P w = .ok (.value (.bool b)) w := by
    have hg : (eqGuard op t x0 (.const (.slice none 0 0)) (.slice ad n c) (.slice none 0 0)).run P w = .ok () w := guard_free ⟨by simp, by simp⟩
    have hc : a.eval (.const (.slice none 0 0)) = .slice none 0 0 := rfl
    rcases hop with rfl | rfl
    · exact ⟨r, by simp [execOp, ho, hu, hc, hg, binOp, hr]⟩
    · exact ⟨!r, by simp [execOp, ho, hu, hc, hg, binOp, hr]⟩
  obtain ⟨b, hb⟩ := hb
  unfold Oper.wp
  rw [hb]
  exact hK G w (.bool b) (.b b) σ (GLe.refl _ G) hm (.b b) ⟨⟨b, rfl⟩, rfl⟩
def isNeq : BinOp → Bool
  | .neq => true
  | _ => false
/-- 'x == nil', x a slice that has elements. -/
theorem AMany.eqnilf {op : BinOp} {x : X} {rows : List (List AV)} (hop : op = .eql ∨ op = .neq) (hx : aev fr x = .sl rows) (hne : rows ≠ []) : AMany P (.bin op .slice x (.c .esl)) fr σ fun v τ => v = .b (isNeq op) ∧ τ = σ := by
  intro o hlow B G a w N hm hf K Q hK ro
  refine oper_in (lowOp_nodefer hlow) ?_
  obtain ⟨t, x0, y0, t', ho, ht, h1, h2⟩ := lowOp_bin hlow
  obtain ⟨z, hz⟩ := eqTOf_slice ht
  have hy := lowX_esl h2
  subst hy
  have hr := opnds_of hf x0 x h1
  rw [hx] at hr
  generalize hu : a.eval x0 = u at hr
  cases hr with
  | sl _ ad cap esz us hcap blk o' ha hz' hF hr' =>
    have had := ha hne
    subst had
    have heq : (Op.equal t (.slice (some ⟨blk, o', none⟩) rows.length cap) (.slice none 0 0)).run P w = .ok false w := equal_of fun d _ => by simp [Op.equalIn, run_underlying hz]
    have hb : (execOp a.eval o).run P w = .ok (.value (.bool (isNeq op))) w := by
      have hg : (eqGuard op t x0 (.const (.slice none 0 0)) (.slice (some ⟨blk, o', none⟩) rows.length cap) (.slice none 0 0)).run P w = .ok () w := guard_free ⟨by simp, by simp⟩
      have hc : a.eval (.const (.slice none 0 0)) = .slice none 0 0 := rfl
      rcases hop with rfl | rfl
      · simp [execOp, ho, hu, hc, hg, binOp, heq, isNeq]
      · simp [execOp, ho, hu, hc, hg, binOp, heq, isNeq]
    unfold Oper.wp
    rw [hb]
    exact hK G w _ _ σ (GLe.refl _ G) hm (.b _) ⟨rfl, rfl⟩
theorem sl_slice {G : Gh} {u : Value} {rows : List (List AV)} (h : ARep G (.sl rows) u) : ∃ ad n c, u = .slice ad n c := by
  cases h with
  | sl _ a cap _ _ _ _ _ _ _ _ _ => exact ⟨_, _, _, rfl⟩
theorem row_slice {G : Gh} {u : Value} {k : Key} {ver off len : Nat} (h : ARep G (.row k ver off len) u) : ∃ ad n c, u = .slice ad n c := by cases h; exact ⟨_, _, _, rfl⟩
theorem esl_slice {G : Gh} {u : Value} (h : ARep G .esl u) : ∃ ad n c, u = .slice ad n c := by cases h; exact ⟨_, _, _, rfl⟩
/-- 'x == nil', x a slice. -/
theorem aops_eqnil {o : LOper} {r : List LOper} {nv i : Nat} {K : List AV → Store → Prop} {op : BinOp} {x : X} (hg : gval fr o = some true) (ho : o.op = .bin op .slice x (.c .esl)) (hop : op = .eql ∨ op = .neq) (hx : (∃ rows, aev fr x = .sl rows) ∨ (∃ k ver off len, aev fr x = .row k ver off len) ∨ aev fr x = .esl)
    (hr : ∀ b, AOps P nv K (i + 1) r (put fr o.dst (.b b)) σ) : AOps P nv K i (o :: r) fr σ := by
  have hm : AMany P o.op fr σ fun v τ => (∃ b, v = .b b) ∧ τ = σ := by
    rw [ho]
    refine AMany.eqnil hop fun G u h => ?_
    rcases hx with ⟨rows, e⟩ | ⟨k, v, q, n, e⟩ | e <;> rw [e] at h
    · exact sl_slice h
    · exact row_slice h
    · exact esl_slice h
  refine .inr (.inr ⟨hg, _, hm, ?_⟩)
  rintro v τ ⟨⟨b, rfl⟩, rfl⟩
  exact hr b
theorem aops_eqnilf {o : LOper} {r : List LOper} {nv i : Nat} {K : List AV → Store → Prop} {op : BinOp} {x : X} {rows : List (List AV)} (hg : gval fr o = some true) (ho : o.op = .bin op .slice x (.c .esl)) (hop : op = .eql ∨ op = .neq) (hx : aev fr x = .sl rows) (hne : rows ≠ [])
    (hr : AOps P nv K (i + 1) r (put fr o.dst (.b (isNeq op))) σ) : AOps P nv K i (o :: r) fr σ := by
  have hm : AMany P o.op fr σ fun v τ => v = .b (isNeq op) ∧ τ = σ := by
    rw [ho]; exact AMany.eqnilf hop hx hne
  refine .inr (.inr ⟨hg, _, hm, ?_⟩)
  rintro v τ ⟨rfl, rfl⟩
  exact hr
theorem cells_b (x : Bool) : AV.cells (.b x : AV) = some [(.b x)] := rfl
theorem one_b (x : Bool) : AV.one (.b x : AV) = true := rfl
theorem cells_i (k : IntKind) (n : Int) : AV.cells (.i k n : AV) = some [(.i k n)] := rfl
theorem one_i (k : IntKind) (n : Int) : AV.one (.i k n : AV) = true := rfl
theorem cells_s (x : ByteArray) : AV.cells (.s x : AV) = some [(.s x)] := rfl
theorem one_s (x : ByteArray) : AV.one (.s x : AV) = true := rfl
theorem cells_nilp : AV.cells (.nilp : AV) = some [(.nilp)] := rfl
theorem one_nilp : AV.one (.nilp : AV) = true := rfl
theorem cells_ref (cs : List AV) (o : Nat) : AV.cells (.ref cs o : AV) = some [(.ref cs o)] := rfl
theorem one_ref (cs : List AV) (o : Nat) : AV.one (.ref cs o : AV) = true := rfl
theorem cells_ptr (k : Key) (v i o : Nat) : AV.cells (.ptr k v i o : AV) = some [(.ptr k v i o)] := rfl
theorem one_ptr (k : Key) (v i o : Nat) : AV.one (.ptr k v i o : AV) = true := rfl
theorem cells_esl : AV.cells (.esl : AV) = some [(.esl)] := rfl
theorem one_esl : AV.one (.esl : AV) = true := rfl
theorem cells_sl (r : List (List AV)) : AV.cells (.sl r : AV) = some [(.sl r)] := rfl
theorem one_sl (r : List (List AV)) : AV.one (.sl r : AV) = true := rfl
theorem cells_row (k : Key) (v o n : Nat) : AV.cells (.row k v o n : AV) = some [(.row k v o n)] := rfl
theorem one_row (k : Key) (v o n : Nat) : AV.one (.row k v o n : AV) = true := rfl
theorem cells_fn (f : Nat) (a c : List AV) : AV.cells (.fn f a c : AV) = some [(.fn f a c)] := rfl
theorem one_fn (f : Nat) (a c : List AV) : AV.one (.fn f a c : AV) = true := rfl
theorem cells_nilf : AV.cells (.nilf : AV) = some [(.nilf)] := rfl
theorem one_nilf : AV.one (.nilf : AV) = true := rfl
theorem cells_nilm : AV.cells (.nilm : AV) = some [(.nilm)] := rfl
theorem one_nilm : AV.one (.nilm : AV) = true := rfl
theorem cells_mp (a c : List AV) : AV.cells (.mp a c : AV) = some [(.mp a c)] := rfl
theorem one_mp (a c : List AV) : AV.one (.mp a c : AV) = true := rfl
theorem cells_mpr (k : Key) (v : Nat) : AV.cells (.mpr k v : AV) = some [(.mpr k v)] := rfl
theorem one_mpr (k : Key) (v : Nat) : AV.one (.mpr k v : AV) = true := rfl
theorem cells_yl (l : Nat) : AV.cells (.yl l : AV) = some [(.yl l)] := rfl
theorem one_yl (l : Nat) : AV.one (.yl l : AV) = true := rfl
theorem cells_ag (cs : List AV) : AV.cells (.ag cs) = some cs := rfl
end Go.Am
/- Loops over functions: 'for x := range seq { .. }'. -/
namespace Go.Am
open Go.RowKit
set_option linter.unusedSimpArgs false
set_option linter.unusedVariables false
variable {P : Program} {B : Base} {G : Gh} {w : World} {σ σ' : Store} {fr : List AV} {a : Act}

/-! ### A call of what the loop hands on -/
def AYield (P : Program) (l : Nat) (args : List AV) (σ : Store) (T : AV → Store → Prop) : Prop :=
  ∀ (G : Gh) (w : World) (us : List Value) (N : Nat), MemSim ⟨w, Live G σ, G.F, N⟩ G w σ → AReps G args us →
    YieldAt (FW none) 0 P l us.toArray w fun e w' => ∃ v G' res σ', e = .returned v ∧ GLe N G G' ∧ MemSim ⟨w, Live G σ, G.F, N⟩ G' w' σ' ∧ ARep G' res v ∧ T res σ'
def ayield (fr : List AV) : LO → Option (Nat × List AV)
  | .callv f as0 => match aev fr f with | .yl l => some (l, as0.map (aev fr)) | _ => none
  | _ => none
theorem lowOp_callv {op : Op} {ty : TypeId} {f : X} {as' : List X} (hl : lowOp P op ty = some (.callv f as')) :
    ∃ g as0 tys, op = .call { callee := .value g, args := as0, argTypes := tys } ∧ as0.toList.mapM lowX = some as' ∧ lowX g = some f := by
  unfold lowOp at hl
  split at hl
  all_goals
    first
    | (cases hl; done)
    | (rename_i g as0 tys
       simp only [Option.bind_eq_bind, Option.bind_eq_some_iff] at hl
       obtain ⟨as', has, hl⟩ := hl
       split at hl
       · cases hl
       · simp only [Option.bind_eq_some_iff, Option.some.injEq, LO.callv.injEq] at hl
         obtain ⟨g', hg, rfl, rfl⟩ := hl
         exact ⟨_, _, _, rfl, has, hg⟩)
    | (exfalso
       repeat' (first | (cases hl; done) | (split at hl) | (obtain ⟨_, hl⟩ := hl) | (simp only [Option.bind_eq_bind, Option.bind_eq_some_iff, Option.map_eq_some_iff, Option.some.injEq, reduceCtorEq, and_false, false_and, exists_false, exists_const] at hl)))
theorem AMany.yield {lo : LO} {l : Nat} {args : List AV} {T T' : AV → Store → Prop} (σr : Store) (hc : ayield fr lo = some (l, args)) (hs : StLe σ σr) (h : AYield P l args σr T)
    (hT : ∀ v σ2, T v σ2 → ∃ τ, StLe (rest σ σr σ2) τ ∧ T' v τ) : AMany P lo fr σ T' := by
  intro o hlow B G a w N hm hf K Q hK ro
  cases lo with
  | callv f as' =>
    obtain ⟨g, as0, tys, hop, has, hg⟩ := lowOp_callv hlow
    simp only [ayield] at hc
    split at hc
    · rename_i l' he
      cases hc
      have hρ := opnds_of hf
      have hgr := hρ _ _ hg
      rw [he] at hgr
      generalize hu : a.eval g = u at hgr
      cases hgr
      have hr := opnds_list hρ has
      obtain ⟨fn, tmps, assign, body, hy, hrd⟩ := h G w _ N (hm.enter hs N) hr
      refine ⟨fun _ _ => trivial, ?_⟩
      rw [Oper.semAt_eq _ _ _ (lowOp_nodefer hlow)]
      have e : as0.map a.eval = (as0.toList.map a.eval).toArray := by apply Array.ext'; simp
      have hrun : (execOp a.eval o).run P w = .ok (.round l fn tmps assign body) w := by
        simp only [execOp, hop, resolve, hu, Deferred.ofValue, invoke, Sem.run_bind, Sem.run_pure, Result.andThen_ok]
        simpa [e] using hy
      rw [hrun]
      simp only [Oper.uponIn]
      have hrd' : RoundIn (FW ro) (0 - 1) P l fn tmps assign body w _ := ⟨trivial, fun c cs _ => hrd.2 c cs (FW_room _ _)⟩
      refine ⟨FW_depth, hrd'.mono ?_⟩
      rintro e w' ⟨v, G', res, σ2, rfl, g1, g2, g3, g4⟩
      obtain ⟨τ, t1, t2⟩ := hT _ _ g4
      exact hK G' w' v res τ g1 ((hm.leave hs g1 g2).sub t1) g3 t2
    · cases hc
  | _ => simp [ayield] at hc
theorem sget_of_key {σ : Store} {k : Key} (h : k ∈ σ.map (·.1)) : (sget σ k).isSome = true := by
  cases hs : sget σ k with
  | some o => rfl
  | none =>
    exfalso
    induction σ with
    | nil => simp at h
    | cons p r ih =>
      obtain ⟨q, o'⟩ := p
      simp only [sget] at hs
      split at hs
      · cases hs
      · rename_i e
        refine ih ?_ hs
        simpa [Ne.symm e] using h
/-- What the caller of 'yield' has stays; what the loop's body has is as the body leaves it. -/
theorem aops_yield {o : LOper} {r : List LOper} {nv i : Nat} {K : List AV → Store → Prop} {l : Nat} {args : List AV} {b : Bool} (own τs τs' : Store) (hg : gval fr o = some true) (hc : ayield fr o.op = some (l, args))
    (hσ : StLe σ (own ++ τs)) (hd : ∀ k, (sget own k).isSome = true → sget τs k = none ∧ sget τs' k = none) (h : AYield P l args τs fun r σ' => r = .b b ∧ σ' = τs')
    (hr : AOps P nv K (i + 1) r (put fr o.dst (.b b)) (own ++ τs')) : AOps P nv K i (o :: r) fr σ := by
  refine .inr (.inr ⟨hg, fun v τ => v = .b b ∧ τ = own ++ τs', AMany.yield τs hc ?_ h ?_, ?_⟩)
  · intro k ob hk
    refine hσ k ob ?_
    rw [sget_append]
    cases ho : sget own k with
    | none => exact hk
    | some ob' => have := (hd k (by rw [ho]; rfl)).1; rw [hk] at this; cases this
  · rintro v σ2 ⟨rfl, rfl⟩
    refine ⟨_, fun k ob hk => ?_, rfl, rfl⟩
    rw [sget_append] at hk
    rw [sget_rest]
    cases ho : sget own k with
    | none =>
      rw [ho] at hk
      simp only at hk
      rw [hk]
    | some ob' =>
      rw [ho] at hk
      simp only [Option.some.injEq] at hk
      subst hk
      obtain ⟨h1, h2⟩ := hd k (by rw [ho]; rfl)
      rw [h2]
      simp only
      rw [if_neg]
      · exact hσ k _ (by rw [sget_append, ho])
      · intro hin
        have := sget_of_key hin
        rw [h1] at this; cases this
  · rintro v τ ⟨rfl, rfl⟩
    exact hr

/-! ### The contract of a function that is ranged over -/
inductive SRun {π β : Type} (own ends : π → Store) (nxt : π → Option (List AV × π)) (Y : β → List AV → Bool → β → Prop) : Nat → π → β → Store → β → Prop where
  | done {p : π} {s : β} (h : nxt p = none) : SRun own ends nxt Y 0 p s (own p) s
  | stop {p p' : π} {s s' : β} {x : List AV} (h : nxt p = some (x, p')) (hy : Y s x false s') : SRun own ends nxt Y 0 p s (ends p) s'
  | next {n : Nat} {p p' : π} {s s' sf : β} {x : List AV} {σf : Store} (h : nxt p = some (x, p')) (hy : Y s x true s') (hr : SRun own ends nxt Y n p' s' σf sf) : SRun own ends nxt Y (n + 1) p s σf sf
/-- Function g, with what it has captured, hands on nxt's values, one behind the other. kp: the keys that are its own. -/
def ASeq (P : Program) (g : Nat) (caps : List AV) {π : Type} (kp : Key → Prop) (own ends : π → Store) (nxt : π → Option (List AV × π)) (p0 : π) : Prop :=
  ∀ (β : Type) (τ : β → Store), (∀ s k, kp k → sget (τ s) k = none) → ∀ (l n : Nat) (s0 sf : β) (σf : Store),
    SRun own ends nxt (fun s x b s' => AYield P l x (τ s) fun r σ' => r = .b b ∧ σ' = τ s') n p0 s0 σf sf →
    ACall P g (.yl l :: caps) (own p0 ++ τ s0) fun _ σ' => StLe σ' (σf ++ τ sf)

/-! ### The loop's record, and its mark -/
def Gh.mark (G : Gh) (r : Nat) : Gh := { G with F := fun b o => if b = r ∧ o = none then some (.bool true) else G.F b o }
theorem MemSim.mark (h : MemSim B G w σ) : G.le (G.mark w.heap.size) ∧ MemSim B (G.mark w.heap.size) (w.alloc (.deferred (some []))) σ := by
  have hle : G.le (G.mark w.heap.size) := ⟨fun b o u hf => by
    have := h.cell_lt hf
    simp only [Gh.mark]
    rw [if_neg (by rintro ⟨rfl, _⟩; omega)]
    exact hf, fun _ _ _ e => e⟩
  have hold : ∀ b, b < w.heap.size → (w.alloc (.deferred (some []))).heap[b]? = w.heap[b]? := fun b hb => Below.heap_alloc _ _ _ hb
  refine ⟨hle, ?_⟩
  exact
  { hF := fun b o u hf => by
      simp only [Gh.mark] at hf
      split at hf
      · rename_i e
        obtain ⟨rfl, rfl⟩ := e
        cases hf
        simp only [rdm, World.alloc_heap_new]
      · rw [rdm_alloc_lt _ (h.cell_lt hf)]; exact h.hF b o u hf
    hF0 := fun b o u hf => by
      simp only [Gh.mark] at hf
      split at hf
      · rename_i e; obtain ⟨rfl, rfl⟩ := e; exact .inr h.size
      · exact h.hF0 b o u hf
    obj := fun k o hk => by
      obtain ⟨L, hL, hr⟩ := h.obj k o hk
      exact ⟨L, hL, hr.mono hle (fun b hb => hold b (hr.lt hb))⟩
    sepF := fun b hb o => by
      have hb' : Live G σ b := hb
      have := h.live_lt hb'
      simp only [Gh.mark]
      rw [if_neg (by rintro ⟨rfl, _⟩; omega)]
      exact h.sepF b hb' o
    sep := h.sep
    own := h.own
    fin := h.fin
    os := h.os
    tape := h.tape
    output := h.output
    size := by simp; have := h.size; omega
    keep := fun b hb hn => by rw [hold b (Nat.lt_of_lt_of_le hb h.size)]; exact h.keep b hb hn
    fz := fun a ha => h.fz a (froz_alloc rfl a ha) }
/-- A new block of whatever make. -/
theorem MemSim.newObj (h : MemSim B G w σ) {k : Key} {ver : Nat} (hv : G.io k ver = none) (o : Obj) {fr : List AV} {us : List Value} (hr : AReps G fr us) (hc : cold o = true := by rfl) :
    MemSim B (G.put k ver ⟨some w.heap.size, 0, 0⟩) (w.alloc o) (sset σ k ⟨ver, .obj w.heap.size o fr us⟩) := by
  have hle := Gh.le_put (L := ⟨some w.heap.size, 0, 0⟩) hv
  have hold : ∀ b, b < w.heap.size → (w.alloc o).heap[b]? = w.heap[b]? := fun b hb => Below.heap_alloc _ _ _ hb
  have hlive : ∀ b, Live (G.put k ver ⟨some w.heap.size, 0, 0⟩) (sset σ k ⟨ver, .obj w.heap.size o fr us⟩) b → b = w.heap.size ∨ Live G σ b := by
    rintro b ⟨k', ob, L, hk, hL, hb⟩
    rw [sget_sset] at hk
    split at hk
    · rename_i e; subst e; cases hk
      rw [Gh.put_same] at hL; cases hL
      left; simpa using hb.symm
    · rename_i e
      right
      rw [Gh.put_other _ _ _ _ (fun h => e h.1.symm)] at hL
      exact ⟨k', ob, L, hk, hL, hb⟩
  exact
  { hF := fun b o u hf => by
      rw [rdm_alloc_lt _ (h.cell_lt hf)]; exact h.hF b o u hf
    hF0 := h.hF0
    obj := fun k' ob hk => by
      rw [sget_sset] at hk
      split at hk
      · rename_i e; subst e; cases hk
        exact ⟨_, Gh.put_same _ _ _ _, rfl, World.alloc_heap_new w o, hr.mono hle⟩
      · rename_i e
        obtain ⟨L, hL, hr⟩ := h.obj k' ob hk
        exact ⟨L, hle.io _ _ _ hL, hr.mono hle (fun b hb => hold b (hr.lt hb))⟩
    sepF := fun b hb o => by
      rcases hlive b hb with rfl | hb
      · cases hf : G.F w.heap.size o with
        | none => exact hf
        | some u => have := h.cell_lt hf; omega
      · exact h.sepF b hb o
    sep := fun k1 k2 o1 o2 L1 L2 b h1 h2 e1 e2 b1 b2 => by
      rw [sget_sset] at h1 h2
      split at h1 <;> split at h2
      · rename_i a1 a2; exact a1.symm.trans a2
      · rename_i a1 a2
        subst a1; cases h1
        rw [Gh.put_same] at e1; cases e1
        rw [Gh.put_other _ _ _ _ (fun h => a2 h.1.symm)] at e2
        simp at b1; subst b1
        have := h.live_lt ⟨k2, o2, L2, h2, e2, b2⟩
        omega
      · rename_i a1 a2
        subst a2; cases h2
        rw [Gh.put_same] at e2; cases e2
        rw [Gh.put_other _ _ _ _ (fun h => a1 h.1.symm)] at e1
        simp at b2; subst b2
        have := h.live_lt ⟨k1, o1, L1, h1, e1, b1⟩
        omega
      · rename_i a1 a2
        rw [Gh.put_other _ _ _ _ (fun h => a1 h.1.symm)] at e1
        rw [Gh.put_other _ _ _ _ (fun h => a2 h.1.symm)] at e2
        exact h.sep k1 k2 o1 o2 L1 L2 b h1 h2 e1 e2 b1 b2
    own := fun b hb => by
      rcases hlive b hb with rfl | hb
      · exact .inr h.size
      · exact h.own b hb
    fin := by
      obtain ⟨N, hN⟩ := h.fin
      refine ⟨max N (ver + 1), fun k' v' hv' => ?_⟩
      rw [Gh.put_other]
      · exact hN k' v' (by omega)
      · rintro ⟨_, rfl⟩; omega
    os := h.os
    tape := h.tape
    output := h.output
    size := by simp; have := h.size; omega
    keep := fun b hb hn => by rw [hold b (Nat.lt_of_lt_of_le hb h.size)]; exact h.keep b hb hn
    fz := fun a ha => h.fz a (froz_alloc hc a ha) }
/-- Such a block is turned. -/
theorem MemSim.setObj (h : MemSim B G w σ) {k : Key} {ver l : Nat} {o : Obj} {fr : List AV} {us : List Value} (o' : Obj) (hk : sget σ k = some ⟨ver, .obj l o fr us⟩) (hc : cold o' = true := by rfl) : w.heap[l]? = some o ∧ AReps G fr us ∧ MemSim B G (w.putObj l o') (sset σ k ⟨ver, .obj l o' fr us⟩) := by
  obtain ⟨L, hL, hb, ho, hfr⟩ := h.obj k _ hk
  have hl : Live G σ l := ⟨k, _, L, hk, hL, hb⟩
  have hlt := h.live_lt hl
  have hlive : ∀ b', Live G (sset σ k ⟨ver, .obj l o' fr us⟩) b' → Live G σ b' := by
    rintro b' ⟨k', ob, L', hk', hL', hb'⟩
    rw [sget_sset] at hk'
    split at hk'
    · rename_i e; subst e; cases hk'
      rw [hL] at hL'; cases hL'
      rw [hb] at hb'; cases hb'; exact hl
    · exact ⟨k', ob, L', hk', hL', hb'⟩
  refine ⟨ho, hfr, ?_⟩
  exact
  { hF := fun b o u hf => by
      have hne : b ≠ l := by rintro rfl; rw [h.sepF _ hl] at hf; cases hf
      have := h.hF b o u hf
      cases o with
      | some j => simp only [rdm, World.cell?] at this ⊢; rw [World.putObj_heap_other hne]; exact this
      | none => simp only [rdm] at this ⊢; rw [World.putObj_heap_other hne]; exact this
    hF0 := h.hF0
    obj := fun k' ob hk' => by
      rw [sget_sset] at hk'
      split at hk'
      · rename_i e; subst e; cases hk'
        exact ⟨L, hL, hb, World.putObj_heap_same hlt, hfr⟩
      · rename_i e
        obtain ⟨L', hL', hr⟩ := h.obj k' ob hk'
        refine ⟨L', hL', hr.mono (Gh.le_refl G) (fun b' hb' => World.putObj_heap_other ?_)⟩
        rintro rfl
        exact e (h.sep k k' _ ob L L' _ hk hk' hL hL' hb hb')
    sepF := fun b' hb' o => h.sepF b' (hlive b' hb') o
    sep := fun k1 k2 o1 o2 L1 L2 b' h1 h2 e1 e2 b1 b2 => by
      rw [sget_sset] at h1 h2
      split at h1 <;> split at h2
      · rename_i a1 a2; exact a1.symm.trans a2
      · rename_i a1 a2
        subst a1; cases h1
        rw [hL] at e1; cases e1
        exact h.sep k k2 _ o2 _ L2 b' hk h2 hL e2 b1 b2
      · rename_i a1 a2
        subst a2; cases h2
        rw [hL] at e2; cases e2
        exact h.sep k1 k o1 _ L1 _ b' h1 hk e1 hL b1 b2
      · exact h.sep k1 k2 o1 o2 L1 L2 b' h1 h2 e1 e2 b1 b2
    own := fun b' hb' => h.own b' (hlive b' hb')
    fin := h.fin
    os := h.os
    tape := h.tape
    output := h.output
    size := by simpa using h.size
    fz := fun a ha => h.fz a (froz_put hc a ha)
    keep := fun b' hb' hn => by
      rw [World.putObj_heap_other]
      · exact h.keep b' hb' hn
      · rintro rfl
        rcases h.own _ hl with h1 | h1
        · exact hn h1
        · omega }

/-! ### The statement -/
/-- How a round's body is left: to the next round; by an exit; out of the function. -/
inductive Leave where
  | on
  | exit (id : Nat)
  | ret
def Leave.exit' : Leave → Exit
  | .on => .normal
  | .exit id => .exit id
  | .ret => .ret
def Leave.jump : Leave → Option Code
  | .on => none
  | .exit id => some (.exit id)
  | .ret => some .ret
def Leave.state : Leave → LoopState
  | .on => .ready
  | _ => .done
def setAll (fr : List AV) : List Nat → List AV → List AV
  | t :: ts, x :: xs => setAll (fr.set t x) ts xs
  | _, _ => fr
/-- One round: from the loop's state s, on x. -/
def Rnd (P : Program) {β : Type} (fr : List AV) (ps : List Nat) (body : LC) (τ : β → Store) (s : β) (x : List AV) (e : Leave) (s' : β) : Prop :=
  x.length = ps.length ∧ AWp P body (fun e' _ σ' => e' = e.exit' ∧ StLe σ' (τ s')) (setAll fr ps x) (τ s)
inductive CRun {π β : Type} (own ends : π → Store) (nxt : π → Option (List AV × π)) (R : β → List AV → Leave → β → Prop) : Nat → π → β → Leave → Store → β → Prop where
  | done {p : π} {s : β} (h : nxt p = none) : CRun own ends nxt R 0 p s .on (own p) s
  | stop {p p' : π} {s s' : β} {x : List AV} {e : Leave} (h : nxt p = some (x, p')) (he : e ≠ .on) (hy : R s x e s') : CRun own ends nxt R 0 p s e (ends p) s'
  | next {n : Nat} {p p' : π} {s s' sf : β} {x : List AV} {e : Leave} {σf : Store} (h : nxt p = some (x, p')) (hy : R s x .on s') (hr : CRun own ends nxt R n p' s' e σf sf) : CRun own ends nxt R (n + 1) p s e σf sf
theorem lowC_skip {c : Code} (h : lowC P c = some .skip) : c = .skip := by
  cases c with
  | skip => rfl
  | seq x y => simp only [lowC] at h; split at h <;> cases h
  | cond x y z => simp only [lowC] at h; split at h <;> cases h
  | rangeFunc x y z u => simp only [lowC] at h; split at h <;> cases h
  | region x y z => simp only [lowC, Option.map_eq_some_iff] at h; obtain ⟨_, _, he⟩ := h; cases he
  | block x y => simp only [lowC, Option.map_eq_some_iff] at h; obtain ⟨_, _, he⟩ := h; cases he
  | loop x => simp only [lowC, Option.map_eq_some_iff] at h; obtain ⟨_, _, he⟩ := h; cases he
  | _ => simp [lowC] at h
theorem setAll_reps : ∀ (ps : List Nat) (xs : List AV) (us : List Value) (fr : List AV) (tm : Array Value), AReps G fr tm.toList → AReps G xs us → xs.length = ps.length →
    AReps G (setAll fr ps xs) ((ps.toArray.zip us.toArray).foldl (fun t (p : Nat × Value) => t.setIfInBounds p.1 p.2) tm).toList
  | [], [], [], fr, tm, h, _, _ => by simpa [setAll] using h
  | [], x :: xs, us, fr, tm, h, hx, hl => by simp at hl
  | t :: ts, [], us, fr, tm, h, hx, hl => by simp at hl
  | t :: ts, x :: xs, [], fr, tm, h, hx, hl => by have := hx.1; simp at this
  | [], [], u :: us, fr, tm, h, hx, hl => by have := hx.1; simp at this
  | t :: ts, x :: xs, u :: us, fr, tm, h, hx, hl => by
    have hxs : AReps G xs us := ⟨by have := hx.1; simpa using this, fun j y v a b => hx.2 (j + 1) y v (by simpa using a) (by simpa using b)⟩
    have h1 : AReps G (fr.set t x) (tm.setIfInBounds t u).toList := by rw [Array.toList_setIfInBounds]; exact h.set t (hx.2 0 x u rfl rfl)
    have := setAll_reps ts xs us (fr.set t x) _ h1 hxs (by simpa using hl)
    rw [List.zip_toArray, List.foldl_toArray] at this ⊢
    simpa [setAll] using this
section
open Classical
variable {π β : Type}
/-- The loop's record lies beside what the loop's body has. -/
def withRec (τ : β → Store) (kl : Key) (v0 l : Nat) (rec : LoopState → Option Code → Obj) (fr : List AV) (us : List Value) (s : β × Leave) : Store :=
  (kl, ⟨v0, .obj l (rec s.2.state s.2.jump) fr us⟩) :: τ s.1
theorem withRec_get (τ : β → Store) (kl : Key) (v0 l : Nat) (rec : LoopState → Option Code → Obj) (fr : List AV) (us : List Value) (s : β × Leave) : sget (withRec τ kl v0 l rec fr us s) kl = some ⟨v0, .obj l (rec s.2.state s.2.jump) fr us⟩ := by
  simp [withRec, sget]
theorem withRec_other (τ : β → Store) {kl : Key} (v0 l : Nat) (rec : LoopState → Option Code → Obj) (fr : List AV) (us : List Value) (s : β × Leave) {k : Key} (h : k ≠ kl) : sget (withRec τ kl v0 l rec fr us s) k = sget (τ s.1) k := by
  simp [withRec, sget, Ne.symm h]
theorem stle_cons {σ τ : Store} {k : Key} {o : AO} (h1 : sget σ k = some o) (h2 : StLe σ τ) : StLe σ ((k, o) :: τ) := by
  intro k' o' h
  simp only [sget] at h
  split at h
  · rename_i e; subst e; cases h; exact h1
  · exact h2 k' o' h
/-- One round, as a call of yield: the record is ready, and ready again, or done. -/
theorem yield_of_rnd {fn : FuncId} {ps : List Nat} {body : LC} {cb : Code} {tm : Array Value} {l dfr v0 : Nat} {kl : Key} (hb : lowC P cb = some body) (hflat : body.flat = true) (τ : β → Store) (hkl : ∀ s, sget (τ s) kl = none)
    {s s' : β} {x : List AV} {e : Leave} (h : Rnd P fr ps body τ s x e s') {rec : LoopState → Option Code → Obj}
    (hrec : rec = fun st pe => .loop { state := st, pending := pe, fn, tmps := tm, params := ps.toArray, assign := .skip, body := cb, defers := dfr })
    (G : Gh) (w : World) (us : List Value) (N : Nat) (hm : MemSim ⟨w, Live G (withRec τ kl v0 l rec fr tm.toList (s, .on)), G.F, N⟩ G w (withRec τ kl v0 l rec fr tm.toList (s, .on))) (hx : AReps G x us) :
    YieldAt (FW none) 0 P l us.toArray w fun e' w' => ∃ v G' res σ', e' = .returned v ∧ GLe N G G' ∧ MemSim ⟨w, Live G (withRec τ kl v0 l rec fr tm.toList (s, .on)), G.F, N⟩ G' w' σ' ∧ ARep G' res v ∧
      (res = .b (match e with | .on => true | _ => false) ∧ σ' = withRec τ kl v0 l rec fr tm.toList (s', e)) := by
  obtain ⟨hlen, hbody⟩ := h
  have hk := withRec_get τ kl v0 l rec fr tm.toList (s, .on)
  obtain ⟨hl0, hfr, _⟩ := hm.setObj (rec .ready none) hk (by rw [hrec]; rfl)
  have hl0' := hl0
  simp only [hrec] at hl0
  refine ⟨fn, _, .skip, cb, run_yield hl0 (by simpa [hlen] using hx.1.symm), roundIn_of_wpIn (F := FW none) trivial (wpIn_skip ⟨_, run_beginRound hl0 rfl, ?_⟩)⟩
  -- the record is busy
  obtain ⟨_, _, hm1⟩ := hm.setObj (rec .busy none) hk (by rw [hrec]; rfl)
  have hbusy : (Obj.loop { { state := .ready, pending := none, fn, tmps := tm, params := ps.toArray, assign := .skip, body := cb, defers := dfr : Loop } with state := .busy }) = rec .busy none := by rw [hrec]
  rw [show (Leave.on).jump = none from rfl, hbusy] at *
  generalize hσ1 : sset (withRec τ kl v0 l rec fr tm.toList (s, .on)) kl ⟨v0, .obj l (rec .busy none) fr tm.toList⟩ = σ1 at hm1
  have hg1 : ∀ k, sget σ1 k = if kl = k then some ⟨v0, .obj l (rec .busy none) fr tm.toList⟩ else sget (τ s) k := fun k => by
    rw [← hσ1, sget_sset]
    split
    · rfl
    · rename_i e; exact withRec_other τ v0 l rec fr tm.toList (s, .on) (fun h => e h.symm)
  have hsub : StLe σ1 (τ s) := fun k ob h => by
    rw [hg1]
    rw [if_neg (by rintro rfl; rw [hkl] at h; cases h)]; exact h
  have hfr1 : AReps G (setAll fr ps x) ((ps.toArray.zip us.toArray).foldl (fun t (p : Nat × Value) => t.setIfInBounds p.1 p.2) tm).toList := setAll_reps ps x us fr tm hfr hx hlen
  have hrun := hbody cb hb (some l) (fun _ => hflat) ⟨_, Live G (τ s), G.F, N⟩ G ⟨_, []⟩ _ [] ⟨hm1.enter hsub N, hfr1, Marks.refl _ _ _⟩
  refine wpIn_mono hrun ?_
  rintro e3 a3 w3 ⟨G3, fr3, σ3, hle3, hs3, he3, hst3⟩
  have hm3 := hm1.leave hsub hle3 (hs3.mem.sub hst3)
  have hk3 : sget (rest σ1 (τ s) (τ s')) kl = some ⟨v0, .obj l (rec .busy none) fr tm.toList⟩ := by
    rw [sget_rest, hkl]
    simp only
    rw [if_neg, hg1, if_pos rfl]
    intro hin
    have := sget_of_key hin
    rw [hkl] at this; cases this
  obtain ⟨hl3, _, _⟩ := hm3.setObj (rec .busy none) hk3 (by rw [hrec]; rfl)
  have hst4 : ∀ o', StLe (sset (rest σ1 (τ s) (τ s')) kl ⟨v0, .obj l o' fr tm.toList⟩) ((kl, ⟨v0, .obj l o' fr tm.toList⟩) :: τ s') := fun o' => by
    refine stle_cons (by rw [sget_sset, if_pos rfl]) fun k ob h => ?_
    rw [sget_sset, if_neg (by rintro rfl; rw [hkl] at h; cases h), sget_rest, h]
  have hl3' := hl3
  simp only [hrec] at hl3'
  have hend : ∀ jump, (Instr.endRound l jump).run P w3 = .ok (.bool jump.isNone) (w3.putObj l (rec (if jump.isNone then .ready else .done) jump)) := fun jump => by
    have := run_endRound (P := P) jump hl3'
    rw [hrec]; exact this
  subst he3
  cases e with
  | on =>
    obtain ⟨_, _, hm4⟩ := hm3.setObj (rec .ready none) hk3 (by rw [hrec]; rfl)
    exact ⟨_, _, hend none, _, G3, .b true, _, rfl, hle3, hm4.sub (hst4 _), .b true, rfl, rfl⟩
  | exit id =>
    obtain ⟨_, _, hm4⟩ := hm3.setObj (rec .done (some (.exit id))) hk3 (by rw [hrec]; rfl)
    exact ⟨_, _, hend (some (.exit id)), _, G3, .b false, _, rfl, hle3, hm4.sub (hst4 _), .b false, rfl, rfl⟩
  | ret =>
    obtain ⟨_, _, hm4⟩ := hm3.setObj (rec .done (some .ret)) hk3 (by rw [hrec]; rfl)
    exact ⟨_, _, hend (some .ret), _, G3, .b false, _, rfl, hle3, hm4.sub (hst4 _), .b false, rfl, rfl⟩
theorem run_of_rnds {g : Nat} {caps : List AV} {fn : FuncId} {ps : List Nat} {body : LC} {cb : Code} {tm : Array Value} {l dfr v0 : Nat} {kl : Key} (hb : lowC P cb = some body) (hflat : body.flat = true) (τ : β → Store) (hkl : ∀ s, sget (τ s) kl = none)
    {rec : LoopState → Option Code → Obj} (hrec : rec = fun st pe => .loop { state := st, pending := pe, fn, tmps := tm, params := ps.toArray, assign := .skip, body := cb, defers := dfr })
    {own ends : π → Store} {nxt : π → Option (List AV × π)} {n : Nat} {p : π} {s sf : β} {e : Leave} {σf : Store} (h : CRun own ends nxt (Rnd P fr ps body τ) n p s e σf sf) :
    SRun own ends nxt (fun (s : β × Leave) x b s' => AYield P l x (withRec τ kl v0 l rec fr tm.toList s) fun r σ' => r = .b b ∧ σ' = withRec τ kl v0 l rec fr tm.toList s') n p (s, .on) σf (sf, e) := by
  induction h with
  | done h => exact .done h
  | stop h he hy =>
    rename_i p p' s s' x e
    refine .stop h (fun G w us N hm hx => ?_)
    have := yield_of_rnd hb hflat τ hkl hy hrec G w us N hm hx
    cases e with
    | on => exact absurd rfl he
    | exit id => exact this
    | ret => exact this
  | next h hy _ ih => exact .next h (fun G w us N hm hx => yield_of_rnd hb hflat τ hkl hy hrec G w us N hm hx) ih

/-- **'for x := range f { body }'**: f's value is a function with a contract of its own (ASeq); the loop's body, round by round (CRun). -/
theorem awp_range {f : X} {ps : List Nat} {body : LC} {Q : AQ} {g : Nat} {caps : List AV} {lf : LF} {kp : Key → Prop} {own ends : π → Store} {nxt : π → Option (List AV × π)} {p0 : π} (τ : β → Store) (kl : Key)
    (hg : aev fr f = .fn g [] caps) (hlf : lowFn P g = some lf) (hseq : ASeq P g caps kp own ends nxt p0) {n : Nat} {s0 sf : β} {e : Leave} {σf : Store} (hrun : CRun own ends nxt (Rnd P fr ps body τ) n p0 s0 e σf sf)
    (hflat : body.flat = true) (hσ : StLe σ (own p0 ++ τ s0)) (hkp : ∀ s k, kp k → sget (τ s) k = none) (hkl : ∀ s, sget (τ s) kl = none) (hkn : ¬ kp kl) (hko : sget (own p0) kl = none) (hkf : sget σf kl = none)
    (hQ : Q e.exit' fr (σf ++ τ sf)) : AWp P (.rangeFunc f ps .skip body) Q fr σ := by
  intro c hc ro hro B G a w D hs
  cases c with
  | rangeFunc f0 ps0 ca cb =>
    simp only [lowC] at hc
    split at hc
    · rename_i f' a' b' hf0 hca hcb
      cases hc
      obtain rfl := lowC_skip hca
      have hro : ro = none := by
        cases ro with
        | none => rfl
        | some l => have := hro rfl; simp [LC.flat] at this
      subst hro
      refine wpIn_rangeFunc (F := FW none) ?_
      intro fn _
      obtain ⟨rec, hrec⟩ : ∃ rec : LoopState → Option Code → Obj, rec = fun st pe => .loop { state := st, pending := pe, fn, tmps := a.tmps, params := ps0, assign := .skip, body := cb, defers := w.heap.size } := ⟨_, rfl⟩
      have hrec' : rec = fun st pe => .loop { state := st, pending := pe, fn, tmps := a.tmps, params := ps0.toList.toArray, assign := .skip, body := cb, defers := w.heap.size } := by rw [hrec]
      -- the closure
      have hv := opnds_of hs.fr f0 f hf0
      rw [hg] at hv
      obtain ⟨us, vs, hu, h1, h2⟩ := arep_fn_inv hv
      have hus : us = [] := List.eq_nil_of_length_eq_zero h1.1.symm
      subst hus
      -- the memory: the mark, the record
      obtain ⟨N0, hN0⟩ := hs.mem.fin
      obtain ⟨v0, hv0⟩ : ∃ v0, v0 = max N0 B.N := ⟨_, rfl⟩
      obtain ⟨hle1, hm1⟩ := hs.mem.mark
      have hio : (G.mark w.heap.size).io kl v0 = none := hN0 kl v0 (by omega)
      have hm2 := hm1.newObj hio (rec .ready none) (hs.fr.mono hle1) (by rw [hrec]; rfl)
      have hle2 : (G.mark w.heap.size).le _ := Gh.le_put (k := kl) (ver := v0) (L := ⟨some (w.alloc (.deferred (some []))).heap.size, 0, 0⟩) hio
      have hsz : (w.alloc (.deferred (some []))).heap.size = w.heap.size + 1 := by simp
      rw [hsz] at hm2 hle2
      generalize hG2 : (G.mark w.heap.size).put kl v0 ⟨some (w.heap.size + 1), 0, 0⟩ = G2 at hm2 hle2
      generalize hW1 : (w.alloc (.deferred (some []))).alloc (rec .ready none) = W1 at hm2
      have hGLe : GLe B.N G G2 := ⟨hle1.trans hle2, fun k m hm => by
        rw [← hG2, Gh.put_other]
        · rfl
        · rintro ⟨_, rfl⟩; omega⟩
      have hstle : StLe (sset σ kl ⟨v0, .obj (w.heap.size + 1) (rec .ready none) fr a.tmps.toList⟩) (own p0 ++ withRec τ kl v0 (w.heap.size + 1) rec fr a.tmps.toList (s0, .on)) := by
        intro k ob h
        rw [sget_append] at h
        rw [sget_sset]
        cases ho : sget (own p0) k with
        | some ob' =>
          rw [ho] at h
          simp only [Option.some.injEq] at h
          subst h
          rw [if_neg (by rintro rfl; rw [hko] at ho; cases ho)]
          exact hσ k _ (by rw [sget_append, ho])
        | none =>
          rw [ho] at h
          simp only at h
          by_cases hk : kl = k
          · subst hk
            rw [withRec_get] at h
            rw [if_pos rfl]; exact h
          · rw [withRec_other _ _ _ _ _ _ _ (Ne.symm hk)] at h
            rw [if_neg hk]
            exact hσ k _ (by rw [sget_append, ho]; exact h)
      have hargs : AReps G2 (.yl (w.heap.size + 1) :: caps) (.func (.yield (w.heap.size + 1)) #[] #[] :: vs) := AReps.cons (.yl _) (h2.mono hGLe.1)
      have hcall := hseq (β × Leave) (withRec τ kl v0 (w.heap.size + 1) rec fr a.tmps.toList) (fun s k hk => by
        rw [withRec_other _ _ _ _ _ _ _ (by rintro rfl; exact hkn hk)]; exact hkp s.1 k hk) (w.heap.size + 1) n (s0, .on) (sf, e) σf (run_of_rnds (g := g) (caps := caps) hcb hflat τ hkl hrec' hrun) G2 W1 _ B.N (hm2.enter hstle B.N) hargs
      refine ⟨w.heap.size + 1, [{ target := .collected w.heap.size, args := #[] }], W1, { target := .fn (.func g) vs.toArray, args := #[.func (.yield (w.heap.size + 1)) #[] #[]] }, W1, g,
        (Value.func (.yield (w.heap.size + 1)) #[] #[] :: vs).toArray, W1, ?_, ?_, fun _ _ => trivial, ?_, FW_depth, ?_⟩
      · rw [← hW1, hrec]; exact run_enterLoop_outer _ _ _ _ _
      · simp only [resolve, hu]
        simp [go_sem]
      · have e1 : (Value.func (.yield (w.heap.size + 1)) #[] #[] :: vs).toArray = #[Value.func (.yield (w.heap.size + 1)) #[] #[]] ++ vs.toArray := by apply Array.ext'; simp
        rw [e1]
        simp [invoke, run_callFunc hlf, go_sem]
      · refine (callsIn_FW.2 hcall).mono ?_
        rintro e' w3 ⟨v, G3, res, σ3, rfl, g1, g2, g3, g4⟩
        have hm3 := hm2.leave hstle g1 (g2.sub g4)
        have hget : sget (σf ++ withRec τ kl v0 (w.heap.size + 1) rec fr a.tmps.toList (sf, e)) kl = some ⟨v0, .obj (w.heap.size + 1) (rec e.state e.jump) fr a.tmps.toList⟩ := by
          rw [sget_append, hkf]
          exact withRec_get τ kl v0 (w.heap.size + 1) rec fr a.tmps.toList (sf, e)
        have hm4 := hm3.sub (σ' := σf ++ withRec τ kl v0 (w.heap.size + 1) rec fr a.tmps.toList (sf, e)) (fun k ob h => by rw [sget_rest, h])
        obtain ⟨hl4, _, hm5⟩ := hm4.setObj (rec .exhausted e.jump) hget (by rw [hrec]; rfl)
        have hl4' := hl4
        simp only [hrec] at hl4'
        have hend := run_endLoop (P := P) hl4' (by cases e <;> simp [Leave.state])
        have hw4 : w3.putObj (w.heap.size + 1) (rec .exhausted e.jump) = w3.putObj (w.heap.size + 1) (.loop { { state := e.state, pending := e.jump, fn, tmps := a.tmps, params := ps0, assign := .skip, body := cb, defers := w.heap.size : Loop } with state := .exhausted }) := by rw [hrec]
        have hm6 := hm5.sub (σ' := σf ++ τ sf) (fun k ob h => by
          rw [sget_append] at h
          rw [sget_sset]
          by_cases hk : kl = k
          · subst hk
            rw [hkf] at h
            simp only at h
            rw [hkl] at h; cases h
          · rw [if_neg hk, sget_append]
            cases ho : sget σf k with
            | some ob' => rw [ho] at h; exact h
            | none =>
              rw [ho] at h
              simp only at h ⊢
              rw [withRec_other _ _ _ _ _ _ _ (Ne.symm hk)]; exact h)
        rw [hw4] at hm6
        refine ⟨_, _, hend, ?_⟩
        have hle3 : GLe B.N G G3 := hGLe.trans g1
        have hdf : Marks B G3 D ({ target := .collected w.heap.size, args := #[] } :: a.defers) := by
          obtain ⟨rs, r1, r2, r3⟩ := hs.df
          refine ⟨w.heap.size :: rs, ?_, by rw [r2]; rfl, fun r hr => ?_⟩
          · rw [List.nodup_cons]
            refine ⟨fun hin => ?_, r1⟩
            have := hs.mem.cell_lt (r3 _ hin).1
            omega
          · rcases List.mem_cons.1 hr with rfl | hr
            · refine ⟨g1.1.F _ _ _ (hle2.F _ _ _ (by simp [Gh.mark])), hs.mem.size⟩
            · exact ⟨hle3.1.F _ _ _ (r3 r hr).1, (r3 r hr).2⟩
        have hsim : Sim B G3 { a with defers := [{ target := .collected w.heap.size, args := #[] }] ++ a.defers } _ D fr (σf ++ τ sf) := ⟨hm6, hs.fr.mono hle3.1, hdf⟩
        cases e with
        | on => exact ⟨G3, fr, _, hle3, hsim, hQ⟩
        | exit id => exact wpIn_exit ⟨G3, fr, _, hle3, hsim, hQ⟩
        | ret => exact wpIn_ret ⟨G3, fr, _, hle3, hsim, hQ⟩
    · cases hc
  | seq x y => simp only [lowC] at hc; split at hc <;> cases hc
  | cond x y z => simp only [lowC] at hc; split at hc <;> cases hc
  | region x y z => simp only [lowC, Option.map_eq_some_iff] at hc; obtain ⟨_, _, he⟩ := hc; cases he
  | block x y => simp only [lowC, Option.map_eq_some_iff] at hc; obtain ⟨_, _, he⟩ := hc; cases he
  | loop x => simp only [lowC, Option.map_eq_some_iff] at hc; obtain ⟨_, _, he⟩ := hc; cases he
  | _ => simp [lowC] at hc
end
end Go.Am
/- A loop that is gone through round by round. -/
namespace Go.Am
open Go.RowKit
set_option linter.unusedVariables false
variable {P : Program} {fr : List AV} {σ : Store} {Q : AQ}
/-- At most n rounds. -/
def LoopN (P : Program) (x : LC) (Q : AQ) : Nat → List AV → Store → Prop
  | 0, _, _ => False
  | n + 1, fr, σ => AWp P x (thenQ (fun fr' σ' => LoopN P x Q n fr' σ') Q) fr σ
theorem loopn_succ {x : LC} {n : Nat} (h : AWp P x (thenQ (fun fr' σ' => LoopN P x Q n fr' σ') Q) fr σ) : LoopN P x Q (n + 1) fr σ := h
theorem awp_loopn {x : LC} (n : Nat) (h : LoopN P x Q n fr σ) : AWp P (.loop x) Q fr σ := by
  refine awp_loop (α := { y : Nat × List AV × Store // LoopN P x Q y.1 y.2.1 y.2.2 }) (fun y => y.1.2.1) (fun y => y.1.2.2) (fun _ => True) (fun y => y.1.1) ⟨(n, fr, σ), h⟩ trivial (FrLe.refl _) (StLe.refl _) ?_
  rintro ⟨⟨m, fr1, σ1⟩, hm⟩ _
  cases m with
  | zero => exact hm.elim
  | succ m =>
    refine awp_mono (P := P) hm fun e fr2 σ2 hq => ?_
    cases e with
    | normal => exact ⟨⟨(m, fr2, σ2), hq⟩, trivial, Nat.lt_succ_self m, FrLe.refl _, StLe.refl _⟩
    | _ => exact hq
section
variable {fr' : List AV} {nv i : Nat} {K : List AV → Store → Prop} {o : LOper} {r : List LOper} {tr : List Tr}
theorem aops_callf {f : Nat} {args args' : List AV} {res : AV} {lf : LF} (ks : List Key) (hg : gval fr o = some true) (hlf : lowFn P f = some lf) (hc : acall fr o.op = some (f, args)) (hz : FzL σ ks args args')
    (h : APure P f args' res) (hfl : Flat res) (hf : put fr o.dst res = fr') (hr : AOps P nv K (i + 1) r fr' σ) : AOps P nv K i (o :: r) fr σ := aops_callz ks hg hlf hc hz hfl h hf hr
theorem adr_callf {f : Nat} {args args' : List AV} {res : AV} {lf : LF} (ks : List Key) (hg : gval fr o = some true) (hlf : lowFn P f = some lf) (hc : acall fr o.op = some (f, args)) (hz : FzL σ ks args args')
    (h : APure P f args' res) (hfl : Flat res) (hf : put fr o.dst res = fr') (hr : ADr P nv K (i + 1) r (tr ++ [⟨lslots o, o.dst, ks, [], o.af⟩]) fr' σ) : ADr P nv K i (o :: r) tr fr σ := adr_callz ks hg hlf hc hz hfl h hf hr
end
/-! ### Calls that write: the store behind them, as a list -/
def kin : Key → List Key → Bool
  | _, [] => false
  | k, q :: r => if q = k then true else kin k r
def sdl : Store → List Key → Store
  | [], _ => []
  | (k, o) :: r, ks => if kin k ks = true then sdl r ks else (k, o) :: sdl r ks
theorem kin_iff (k : Key) : ∀ ks : List Key, kin k ks = true ↔ k ∈ ks
  | [] => by simp [kin]
  | q :: r => by
    simp only [kin, List.mem_cons]
    split
    · rename_i e; simp [e]
    · rename_i e; rw [kin_iff k r]; simp [Ne.symm e]
theorem sdl_eq (ks : List Key) : ∀ σ : Store, sdl σ ks = sdel σ ks
  | [] => rfl
  | (k, o) :: r => by
    have ih := sdl_eq ks r
    simp only [sdel] at ih ⊢
    simp only [sdl, List.filter_cons]
    by_cases h : k ∈ ks
    · simp [(kin_iff k ks).2 h, h, ih]
    · have : ¬ kin k ks = true := fun e => h ((kin_iff k ks).1 e)
      simp [this, h, ih]
theorem ACall.weak {f : Nat} {args : List AV} {T T' : AV → Store → Prop} (h : ACall P f args σ T) (hT : ∀ r s, T r s → ∃ τ, StLe s τ ∧ T' r τ) : ACall P f args σ T' := by
  intro G w us N hm hr
  refine (h G w us N hm hr).mono ?_
  rintro e w' ⟨v, G', res, σ', h1, h2, h3, h4, h5⟩
  obtain ⟨τ, g1, g2⟩ := hT _ _ h5
  exact ⟨v, G', res, τ, h1, h2, h3.sub g1, h4, g2⟩
section
variable {nv i : Nat} {K : List AV → Store → Prop} {o : LOper} {r : List LOper}
theorem aops_callw {ι : Type} {f : Nat} {args : List AV} {lf : LF} {σr : Store} {res : ι → AV} {new τ : ι → Store} (hg : gval fr o = some true) (hlf : lowFn P f = some lf) (hc : acall fr o.op = some (f, args))
    (h : ACall P f args σr fun r s => ∃ i, r = res i ∧ s = new i) (hs : StLe σ σr) (hst : ∀ i, new i ++ sdl σ (σr.map (·.1)) = τ i) (hr : ∀ j, AOps P nv K (i + 1) r (put fr o.dst (res j)) (τ j)) : AOps P nv K i (o :: r) fr σ := by
  refine .inr (.inr ⟨hg, _, AMany.call σr hlf hc hs h, ?_⟩)
  rintro v τ' ⟨σ2, ⟨j, rfl, rfl⟩, rfl⟩
  have := hr j
  rw [← hst j, sdl_eq] at this
  exact this
end
theorem pure_cons {x : AV} {xs : List AV} (h : Pure x) (hs : ∀ y ∈ xs, Pure y) : ∀ y ∈ x :: xs, Pure y := fun y hy => by
  rcases List.mem_cons.1 hy with rfl | hy
  · exact h
  · exact hs y hy
theorem pure_nil : ∀ y ∈ ([] : List AV), Pure y := fun y hy => by cases hy
theorem acall_end {rs : List LR} {T : AV → Store → Prop} {vs : List AV} {e : Exit} (he : e = .normal ∨ e = .ret) (hv : ares σ fr rs = some vs) (hT : T (tup vs) σ) : retM rs T e fr σ := ⟨he, vs, hv, hT⟩
theorem fzl_nil {ks : List Key} : FzL σ ks [] [] := trivial
theorem fzl_cons {ks : List Key} {x y : AV} {xs ys : List AV} (h : Fz σ ks x y) (hs : FzL σ ks xs ys) : FzL σ ks (x :: xs) (y :: ys) := ⟨h, hs⟩
/-- The first elements of a row. -/
theorem fz_rowp {ks : List Key} {k : Key} {ver len esz : Nat} {rs : List (List AV)} (rs' : List (List AV)) (hk : k ∈ ks) (hs : sget σ k = some ⟨ver, .rows esz rs⟩) (hl : rs.take len = rs') (hle : len ≤ rs.length) (hz : ∀ r ∈ rs', r.length = esz) (hp : ∀ r ∈ rs', ∀ x ∈ r, Pure x) : Fz σ ks (.row k ver 0 len) (.sl rs') := by
  subst hl
  refine .row k ver 0 len esz rs _ hk hs (by omega) (by simp; omega) hz fun i cs cs' j x y h1 h2 h3 h4 => ?_
  rw [Nat.zero_add] at h1
  have h2' := h2
  rw [List.getElem?_take] at h2
  split at h2
  · rw [h1] at h2; cases h2
    rw [h3] at h4; cases h4
    exact .pure x (hp cs (List.mem_of_getElem? h2') x (List.mem_of_getElem? h3))
  · cases h2
theorem flat_ints : ∀ (cs : List AV), (∀ x ∈ cs, Flat x) → Flat (.ag cs) := fun cs h => .ag cs h
theorem flat_i (k : IntKind) (n : Int) : Flat (.i k n) ↔ True := ⟨fun _ => trivial, fun _ => .i k n⟩
theorem flat_bb (x : Bool) : Flat (.b x) ↔ True := ⟨fun _ => trivial, fun _ => .b x⟩
theorem flat_ag (cs : List AV) : Flat (.ag cs) ↔ ∀ x ∈ cs, Flat x := ⟨fun h => by cases h; assumption, .ag cs⟩
theorem flat_tu (cs : List AV) : Flat (.tu cs) ↔ ∀ x ∈ cs, Flat x := ⟨fun h => by cases h; assumption, .tu cs⟩
end Go.Am
