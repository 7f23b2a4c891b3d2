/- Part 4 of this work's library of abstract walks, packed by a program of this work. -/
import Derived.Test.YtibkakodokbobaaK3
import Derived.RowKit3
set_option linter.unusedVariables false
set_option linter.unusedSimpArgs false
/- Regions that draw their order, with calls in them that write: each such call behind all that stands ahead of it, and ahead of all that stands behind it. -/
namespace Go.Am
open Go.RowKit
set_option linter.unusedSimpArgs false
set_option linter.unusedVariables false
variable {P : Program} {B : Base} {D : List Deferred}

def afTr (o : LOper) : Tr := ⟨[], none, [], [], o.af⟩
def closes (ops : List LOper) : List (List Nat) := befs (ops.map afTr) []
def barOk (ops : List LOper) (i : Nat) : Bool :=
  (match ops[i]? with | some o => o.af.all (· < i) | none => false) && (List.range i).all (fun j => ((closes ops).getD i []).contains j) && (List.range ops.length).all (fun j => !decide (i < j) || ((closes ops).getD j []).contains i)
def ADs (P : Program) (nv : Nat) (ops : List LOper) (K : List AV → Store → Prop) : Nat → List LOper → List Tr → List AV → Store → Prop
  | _, [], tr, fr, σ => okTr tr = true ∧ K fr σ
  | i, o :: r, tr, fr, σ =>
    (gval fr o = some true ∧ ∃ v rd wr, AStep P o.op (nv + i) fr σ v rd wr ∧ ADs P nv ops K (i + 1) r (tr ++ [trOf o rd wr]) (put fr o.dst v) (upds σ wr)) ∨
    (gval fr o = some false ∧ ADs P nv ops K (i + 1) r (tr ++ [trOf o [] []]) (put fr o.dst (.tu [])) σ) ∨
    (gval fr o = some true ∧ okTr tr = true ∧ barOk ops i = true ∧ ∃ T, AMany P o.op fr σ T ∧ ∀ v σ', T v σ' → ADs P nv ops K (i + 1) r (tr ++ [trOf o [] []]) (put fr o.dst v) σ')
def SegEnd (P : Program) (nv : Nat) (ops : List LOper) (K : List AV → Store → Prop) (hi : Nat) (tr : List Tr) (fr : List AV) (σ : Store) : Prop :=
  okTr tr = true ∧ ((ops.length = hi ∧ K fr σ) ∨
    ∃ o r, ops.drop hi = o :: r ∧ gval fr o = some true ∧ barOk ops hi = true ∧ ∃ T, AMany P o.op fr σ T ∧ ∀ v σ', T v σ' → ADs P nv ops K (hi + 1) r (tr ++ [trOf o [] []]) (put fr o.dst v) σ')
theorem ads_trace {nv : Nat} {K : List AV → Store → Prop} (ops : List LOper) : ∀ (r : List LOper) (i : Nat) (tr : List Tr) (fr : List AV) (σ : Store), ops.drop i = r → i ≤ ops.length → tr.length = i → ADs P nv ops K i r tr fr σ →
    ∃ (hi : Nat) (v : Nat → AV) (rd : Nat → List Key) (wr : Nat → List (Key × AO)) (f : Nat → List AV) (s : Nat → Store) (tr' : List Tr), i ≤ hi ∧ hi ≤ ops.length ∧ f i = fr ∧ s i = σ ∧
      (∀ j o, i ≤ j → j < hi → ops[j]? = some o → f (j + 1) = put (f j) o.dst (v j) ∧ s (j + 1) = upds (s j) (wr j) ∧
        ((gval (f j) o = some true ∧ AStep P o.op (nv + j) (f j) (s j) (v j) (rd j) (wr j)) ∨ (gval (f j) o = some false ∧ v j = .tu [] ∧ wr j = []))) ∧
      tr'.length = hi ∧ (∀ j, j < i → tr'[j]? = tr[j]?) ∧ (∀ j o, i ≤ j → j < hi → ops[j]? = some o → tr'[j]? = some (trOf o (rd j) (wr j))) ∧ SegEnd P nv ops K hi tr' (f hi) (s hi)
  | [], i, tr, fr, σ, hd, hi, htl, h => by
    have hl : ops.length ≤ i := by
      have := congrArg List.length hd
      simp at this; omega
    exact ⟨i, fun _ => .bot, fun _ => [], fun _ => [], fun _ => fr, fun _ => σ, tr, Nat.le_refl _, hi, rfl, rfl, fun j o h1 h2 => by omega, htl, fun _ _ => rfl, fun j o h1 h2 => by omega, h.1, .inl ⟨by omega, h.2⟩⟩
  | o :: r, i, tr, fr, σ, hd, hi, htl, h => by
    have hoi : ops[i]? = some o := by
      have := congrArg (fun l => l[0]?) hd
      simpa using this
    have hil : i < ops.length := (List.getElem?_eq_some_iff.1 hoi).1
    have hd' : ops.drop (i + 1) = r := by
      have := congrArg (fun l => l.drop 1) hd
      simpa [List.drop_drop, Nat.add_comm] using this
    have go : ∀ (v0 : AV) (rd0 : List Key) (wr0 : List (Key × AO)), ((gval fr o = some true ∧ AStep P o.op (nv + i) fr σ v0 rd0 wr0) ∨ (gval fr o = some false ∧ v0 = .tu [] ∧ wr0 = [])) → ADs P nv ops K (i + 1) r (tr ++ [trOf o rd0 wr0]) (put fr o.dst v0) (upds σ wr0) →
        ∃ (hi : Nat) (v : Nat → AV) (rd : Nat → List Key) (wr : Nat → List (Key × AO)) (f : Nat → List AV) (s : Nat → Store) (tr' : List Tr), i ≤ hi ∧ hi ≤ ops.length ∧ f i = fr ∧ s i = σ ∧
          (∀ j o, i ≤ j → j < hi → ops[j]? = some o → f (j + 1) = put (f j) o.dst (v j) ∧ s (j + 1) = upds (s j) (wr j) ∧
            ((gval (f j) o = some true ∧ AStep P o.op (nv + j) (f j) (s j) (v j) (rd j) (wr j)) ∨ (gval (f j) o = some false ∧ v j = .tu [] ∧ wr j = []))) ∧
          tr'.length = hi ∧ (∀ j, j < i → tr'[j]? = tr[j]?) ∧ (∀ j o, i ≤ j → j < hi → ops[j]? = some o → tr'[j]? = some (trOf o (rd j) (wr j))) ∧ SegEnd P nv ops K hi tr' (f hi) (s hi) := by
      intro v0 rd0 wr0 hstep hrest
      obtain ⟨hi', v, rd, wr, f, s, tr', g1, g2, hf, hs, hall, htl', htr1, htr2, hend⟩ := ads_trace ops r (i + 1) _ _ _ hd' hil (by simp [htl]) hrest
      refine ⟨hi', fun j => if j = i then v0 else v j, fun j => if j = i then rd0 else rd j, fun j => if j = i then wr0 else wr j, fun j => if j = i then fr else f j, fun j => if j = i then σ else s j, tr', by omega, g2, by simp, by simp, fun j o' hj hj2 ho' => ?_, htl', fun j hj => ?_, fun j o' hj hj2 ho' => ?_, ?_⟩
      · by_cases e : j = i
        · subst e
          rw [hoi] at ho'; cases ho'
          simp only [if_true, if_neg (show ¬ j + 1 = j by omega)]
          exact ⟨hf, hs, hstep⟩
        · simp only [if_neg e, if_neg (show ¬ j + 1 = i by omega)]
          exact hall j o' (by omega) hj2 ho'
      · rw [htr1 j (by omega), List.getElem?_append_left (by omega)]
      · by_cases e : j = i
        · subst e
          rw [hoi] at ho'; cases ho'
          simp only [if_true]
          rw [htr1 j (by omega), List.getElem?_append_right (by omega)]
          simp [htl]
        · simp only [if_neg e]
          exact htr2 j o' (by omega) hj2 ho'
      · simp only [if_neg (show ¬ hi' = i by omega)]
        exact hend
    rcases h with ⟨hg, v0, rd0, wr0, hst, hrest⟩ | ⟨hg, hrest⟩ | ⟨hg, hok, hbar, T, hT, hrest⟩
    · exact go v0 rd0 wr0 (.inl ⟨hg, hst⟩) hrest
    · exact go (.tu []) [] [] (.inr ⟨hg, rfl, rfl⟩) hrest
    · exact ⟨i, fun _ => .bot, fun _ => [], fun _ => [], fun _ => fr, fun _ => σ, tr, Nat.le_refl _, hi, rfl, rfl, fun j o h1 h2 => by omega, htl, fun _ _ => rfl, fun j o h1 h2 => by omega, hok, .inr ⟨o, r, hd, hg, hbar, T, hT, hrest⟩⟩
theorem closes_spec {ops : List LOper} {E : Nat → Prop} (hcl : ∀ j o, ops[j]? = some o → E j → ∀ e ∈ o.af, E e) {i j : Nat} (hi : i ∈ (closes ops).getD j []) (hj : E j) : E i := by
  refine befs_spec (D := E) (ops.map afTr) [] (fun j' t' ht' hE e he => ?_) (fun j' i' hi' => by simp at hi') j i hi hj
  rw [List.getElem?_map] at ht'
  obtain ⟨o, ho, rfl⟩ := Option.map_eq_some_iff.1 ht'
  exact hcl j' o ho (by simpa using hE) e he
theorem barOk_af {ops : List LOper} {i : Nat} (h : barOk ops i = true) {o : LOper} (ho : ops[i]? = some o) : ∀ e ∈ o.af, e < i := by
  unfold barOk at h
  rw [ho] at h
  simp only [Bool.and_eq_true, List.all_eq_true, decide_eq_true_eq] at h
  exact h.1.1
theorem barOk_before {ops : List LOper} {i : Nat} (h : barOk ops i = true) {j : Nat} (hj : j < i) : j ∈ (closes ops).getD i [] := by
  unfold barOk at h
  simp only [Bool.and_eq_true, List.all_eq_true] at h
  have := h.1.2 j (List.mem_range.2 hj)
  simpa using this
theorem barOk_after {ops : List LOper} {i : Nat} (h : barOk ops i = true) {j : Nat} (hij : i < j) (hj : j < ops.length) : i ∈ (closes ops).getD j [] := by
  unfold barOk at h
  simp only [Bool.and_eq_true, List.all_eq_true] at h
  have := h.2 j (List.mem_range.2 hj)
  simpa [hij] using this
theorem ads_sound {cops : Array Oper} {ops : List LOper} (hl : cops.toList.mapM (lowOper P cops) = some ops) (ro : Option Nat) {nv : Nat} {K : List AV → Store → Prop} {Q' : Exit → Act → World → Prop} (G0 : Gh) (hBN : B.N ≤ nv)
    (hQ : ∀ G fr σ a w, GLe B.N G0 G → Sim B G a w D fr σ → K fr σ → Q' .normal a w) :
    ∀ (m lo : Nat), ops.length - lo = m → lo ≤ ops.length → ∀ (tr : List Tr) (fr : List AV) (σ : Store), tr.length = lo → (∀ j o, j < lo → ops[j]? = some o → ∃ t, tr[j]? = some t ∧ t.af = o.af) → ADs P nv ops K lo (ops.drop lo) tr fr σ →
      ∀ (listed : Array Bool) (a : Act) (w : World) (G : Gh), listed.size = ops.length → (∀ j, listed.getD j false = true ↔ j < lo) → GLe B.N G0 G → Sim B G a w D fr σ → (∀ q, lo ≤ q → q < ops.length → ∀ k, G.io k (nv + q) = none) →
      wpAnyIn (FW ro) 0 P .any cops Q' (ops.length - lo) listed a w := by
  obtain ⟨hlen, hlow⟩ := mapM_some_get hl
  have hsz : cops.size = ops.length := by simpa using hlen
  intro m
  induction m using Nat.strongRecOn with
  | _ m IH =>
  intro lo hm hlo tr fr σ htl htaf hA listed0 a0 w0 Gs hls0 hlist0 hle0 hsim0 hcol0
  obtain ⟨hi, v, rd, wr, f, s, T, hlohi, hin', hf0, hst0, hall, hTl, hT1, hT2, hok, hend⟩ := ads_trace ops _ lo tr fr σ rfl hlo htl hA
  generalize hn : ops.length = n at *
  obtain ⟨dst, hd⟩ : ∃ dst : Nat → Option Nat, ∀ j o, ops[j]? = some o → dst j = o.dst := ⟨fun j => (ops[j]?).bind LOper.dst, fun j o ho => by simp [ho]⟩
  have hget : ∀ j, j < n → ∃ o, ops[j]? = some o := fun j hj => ⟨ops[j]'(by omega), List.getElem?_eq_getElem (by omega)⟩
  have htaf' : ∀ j o, j < hi → ops[j]? = some o → ∃ t, T[j]? = some t ∧ t.af = o.af := fun j o hj ho => by
    by_cases e : j < lo
    · obtain ⟨t, h1, h2⟩ := htaf j o e ho
      exact ⟨t, (hT1 j e).trans h1, h2⟩
    · exact ⟨_, hT2 j o (by omega) hj ho, rfl⟩
  have haflt : ∀ j o, j < hi → ops[j]? = some o → ∀ e ∈ o.af, e < j := fun j o hj ho e he => by
    obtain ⟨t, h1, h2⟩ := htaf' j o hj ho
    exact okTr_lt hok h1 e (h2 ▸ he)
  -- the text's own states
  have text : ∀ i, lo ≤ i → i ≤ hi → At hi dst v wr fr σ (fun j => lo ≤ j ∧ j < i) (f i) (s i) := by
    intro i
    induction i with
    | zero => intro h1 _; have : lo = 0 := by omega
              subst this; rw [hf0, hst0]; exact At.start.mono fun j hj => by simp
    | succ i ih =>
      intro h1 h2
      by_cases e : lo = i + 1
      · subst e; rw [hf0, hst0]; exact At.start.mono fun j hj => ⟨fun h => h.elim, fun h => by omega⟩
      · obtain ⟨o, ho⟩ := hget i (by omega)
        obtain ⟨e1, e2, _⟩ := hall i o (by omega) (by omega) ho
        rw [e1, e2, ← hd i o ho]
        refine ((ih (by omega) (by omega)).step (by omega) (by omega) (fun j h1 _ h2 => by omega) (fun j h1 _ h2 => by omega)).mono fun j hj => ?_
        omega
  have clashes : ∀ {E : Nat → Prop}, (∀ j o, ops[j]? = some o → j < hi → E j → ∀ e ∈ o.af, E e) → ∀ i j oi oj, lo ≤ i → i < j → j < hi → ops[i]? = some oi → ops[j]? = some oj → clash (trOf oi (rd i) (wr i)) (trOf oj (rd j) (wr j)) = true → E j → E i := by
    intro E hcl i j oi oj hloi hij hjh hoi hoj hcs hEj
    refine befs_spec (D := E) T [] (fun j' t' ht' hE e he => ?_) (fun j' i' hi' => by simp at hi') j i (okTr_spec hok (hT2 i oi hloi (by omega) hoi) (hT2 j oj (by omega) hjh hoj) hij hcs) hEj
    have hjl : j' < hi := by
      have := (List.getElem?_eq_some_iff.1 ht').1
      omega
    obtain ⟨o', ho'⟩ := hget j' (by omega)
    obtain ⟨t, h1, h2⟩ := htaf' j' o' hjl ho'
    rw [h1] at ht'; cases ht'
    exact hcl j' o' ho' hjl (by simpa using hE) e (h2 ▸ he)
  have hgd : ∀ (listed : Array Bool) j, listed.size = n → j < n → listed.getD j true = listed.getD j false := fun listed j h1 h2 => by
    rw [Array.getD_eq_getD_getElem?, Array.getD_eq_getD_getElem?, Array.getElem?_eq_getElem (by omega)]; rfl
  have afOf : ∀ (i : Nat) (o : Oper) (lo' : LOper), cops[i]? = some o → ops[i]? = some lo' → lo'.af = (o.after.toList.filter (Region.binds .any)).map (·.on) := fun i o lo' ho hlo' => lowOper_af (hlow i o lo' (by rw [Array.getElem?_toList]; exact ho) hlo')
  have copsget : ∀ j (hj : j < n), cops[j]? = some (cops[j]'(by omega)) := fun j hj => by simp [show j < cops.size by omega]
  -- an operation whose predecessors are listed is ready
  have ready : ∀ (listed : Array Bool) j, listed.size = n → j < n → listed.getD j false = false → (∀ o, ops[j]? = some o → ∀ e ∈ o.af, listed.getD e false = true) → j ∈ Region.ready .any cops listed := by
    intro listed j hls hj hq haf
    obtain ⟨lo', hlo'⟩ := hget j hj
    rw [mem_ready]
    refine ⟨by rw [hgd listed j hls hj]; exact hq, cops[j]'(by omega), copsget j hj, fun e he hb => ?_⟩
    refine haf lo' hlo' e.on ?_
    rw [afOf j _ lo' (copsget j hj) hlo']
    exact List.mem_map.2 ⟨e, List.mem_filter.2 ⟨Array.mem_toList_iff.2 he, hb⟩, rfl⟩
  have readyAf : ∀ (listed : Array Bool) i, listed.size = n → i ∈ Region.ready .any cops listed → i < n ∧ listed.getD i false = false ∧ ∀ o, ops[i]? = some o → ∀ e ∈ o.af, listed.getD e false = true := by
    intro listed i hls hi'
    rw [mem_ready] at hi'
    obtain ⟨h0, o, ho, hdeps⟩ := hi'
    have hin : i < n := by have := (Array.getElem?_eq_some_iff.1 ho).1; omega
    rw [hgd listed i hls hin] at h0
    refine ⟨hin, h0, fun lo' hlo' e he => ?_⟩
    rw [afOf i o lo' ho hlo'] at he
    obtain ⟨e', he', rfl⟩ := List.mem_map.1 he
    obtain ⟨he1, he2⟩ := List.mem_filter.1 he'
    exact hdeps e' (Array.mem_toList_iff.1 he1) he2
  -- what stands behind the stretch is not ready before all of it is listed
  have past : ∀ (listed : Array Bool), listed.size = n → (∀ j o, ops[j]? = some o → listed.getD j false = true → ∀ e ∈ o.af, listed.getD e false = true) → (∀ j, listed.getD j false = true → j < hi) → ∀ i, i ∈ Region.ready .any cops listed → hi ≤ i → (∀ j, j < hi → listed.getD j false = true) ∧ i = hi ∧ barOk ops hi = true := by
    intro listed hls hcl hlt i hi' hhi
    obtain ⟨hin, h0, haf⟩ := readyAf listed i hls hi'
    rcases hend with ⟨hne, _⟩ | ⟨o, r, hdr, hg, hbar, _⟩
    · omega
    · have hcl' : ∀ j o, ops[j]? = some o → (listed.getD j false = true ∨ j = i) → ∀ e ∈ o.af, (listed.getD e false = true ∨ e = i) := fun j o' ho' hE e he => by
        rcases hE with hE | rfl
        · exact .inl (hcl j o' ho' hE e he)
        · exact .inl (haf o' ho' e he)
      have hieq : i = hi := by
        rcases Nat.lt_or_ge hi i with h | h
        · have := closes_spec hcl' (barOk_after hbar h (by omega)) (.inr rfl)
          rcases this with this | this
          · have := hlt hi this; omega
          · omega
        · omega
      subst hieq
      refine ⟨fun j hj => ?_, rfl, hbar⟩
      have := closes_spec hcl' (barOk_before hbar hj) (.inr rfl)
      rcases this with this | this
      · exact this
      · omega
  have fin : ∀ (listed : Array Bool) (a : Act) (w : World) (G : Gh) (fr' : List AV) (σ' : Store), listed.size = n → (∀ j, listed.getD j false = true ↔ j < hi) → At hi dst v wr fr σ (fun j => lo ≤ j ∧ listed.getD j false = true) fr' σ' → GLe B.N G0 G → Sim B G a w D fr' σ' →
      (∀ i, i < n → listed.getD i false = false → ∀ k, G.io k (nv + i) = none) → wpAnyIn (FW ro) 0 P .any cops Q' (n - hi) listed a w := by
    intro listed a w G fr' σ' hls hallL hat hle hsim hcol
    have hfr : fr' = f hi := List.ext_getElem? fun t => hat.agree (text hi hlohi (Nat.le_refl _)) fun j hj _ => by simp [(hallL j).2 hj, hj]
    have hsim' : Sim B G a w D (f hi) (s hi) := ⟨hsim.mem.sub fun k o hk => (by
      rw [hat.agreeS (text hi hlohi (Nat.le_refl _)) (k := k) fun j hj _ => by simp [(hallL j).2 hj, hj]]
      exact hk), hfr ▸ hsim.fr, hsim.df⟩
    have hcl : ∀ j o, ops[j]? = some o → listed.getD j false = true → ∀ e ∈ o.af, listed.getD e false = true := fun j o ho hj e he => by
      have hjh := (hallL j).1 hj
      have := haflt j o hjh ho e he
      exact (hallL e).2 (by omega)
    rcases hend with ⟨hne, hK⟩ | ⟨o, r, hdr, hg, hbar, TT, hTT, hrest⟩
    · subst hne
      rw [Nat.sub_self]
      refine ⟨?_, hQ G _ _ a w hle hsim' hK⟩
      refine List.eq_nil_iff_forall_not_mem.2 fun j hj => ?_
      obtain ⟨h1, h2, _⟩ := readyAf listed j hls hj
      rw [(hallL j).2 h1] at h2; cases h2
    · have hohi : ops[hi]? = some o := by
        have := congrArg (fun l => l[0]?) hdr
        simpa using this
      have hhn : hi < n := by have := (List.getElem?_eq_some_iff.1 hohi).1; omega
      obtain ⟨fuel, hfu⟩ : ∃ fuel, n - hi = fuel + 1 := ⟨n - hi - 1, by omega⟩
      rw [hfu]
      have hnot : listed.getD hi false = false := by
        cases hq : listed.getD hi false with
        | false => rfl
        | true => have := (hallL hi).1 hq; omega
      refine ⟨fun hr => ?_, fun i hir => ?_⟩
      · exfalso
        have := ready listed hi hls hhn hnot (fun o' ho' e he => by
          rw [hohi] at ho'; cases ho'
          exact (hallL e).2 (barOk_af hbar hohi e he))
        rw [hr] at this; cases this
      · obtain ⟨hin, h0, haf⟩ := readyAf listed i hls hir
        have hhi : hi ≤ i := by
          rcases Nat.lt_or_ge i hi with h | h
          · rw [(hallL i).2 h] at h0; cases h0
          · exact h
        obtain ⟨_, rfl, _⟩ := past listed hls hcl (fun j hj => (hallL j).1 hj) i hir hhi
        have hco := copsget i hhn
        have hlw := hlow i _ o (by rw [Array.getElem?_toList]; exact hco) hohi
        obtain ⟨hop, hdo⟩ := lowOper_op hlw
        unfold wpOpIn
        simp only [hco]
        rw [if_pos (wanted_of hlw hsim'.fr hg)]
        refine hTT _ hop B G a w (nv + n) hsim'.mem hsim'.fr _ _ ?_ ro
        intro G' w' u v' σ'' hle' hm' hrep hTv
        have hA' := hrest v' σ'' hTv
        have hd' : ops.drop (i + 1) = r := by
          have := congrArg (fun l => l.drop 1) hdr
          simpa [List.drop_drop, Nat.add_comm] using this
        rw [hdo]
        have hfe : fuel = n - (i + 1) := by omega
        rw [hfe]
        refine IH (n - (i + 1)) (by omega) (i + 1) rfl (by omega) (T ++ [trOf o [] []]) _ _ (by simp [hTl]) (fun j o' hj ho' => ?_) (by rw [hd']; exact hA') _ _ _ G' (by simpa using hls) (fun j => ?_) (hle.trans (hle'.less (by omega))) ⟨hm', put_reps (hsim'.fr.mono hle'.1) hrep, put_df hsim'.df hle'.1⟩ (fun q hq1 hq2 k => ?_)
        · by_cases e : j < i
          · obtain ⟨t, h1, h2⟩ := htaf' j o' e ho'
            exact ⟨t, by rw [List.getElem?_append_left (by omega)]; exact h1, h2⟩
          · have : j = i := by omega
            subst this
            rw [hohi] at ho'; cases ho'
            exact ⟨trOf o [] [], by rw [List.getElem?_append_right (by omega)]; simp [hTl], rfl⟩
        · by_cases e : j = i
          · subst e
            rw [Array.getD_eq_getD_getElem?, Array.getElem?_setIfInBounds]
            simp [show j < listed.size by omega]
          · rw [Array.getD_eq_getD_getElem?, Array.getElem?_setIfInBounds, if_neg (fun h => e h.symm), ← Array.getD_eq_getD_getElem?, hallL j]
            omega
        · rw [hle'.2 k (nv + q) (by omega)]
          refine hcol q hq2 ?_ k
          cases hq : listed.getD q false with
          | false => rfl
          | true => have := (hallL q).1 hq; omega
  have main : ∀ (fuel : Nat) (listed : Array Bool) (a : Act) (w : World) (G : Gh) (fr' : List AV) (σ' : Store), listed.size = n → (List.range n).countP (fun j => listed.getD j false) + fuel = n → (∀ j, j < lo → listed.getD j false = true) → (∀ j, listed.getD j false = true → j < hi) →
      (∀ j o, ops[j]? = some o → listed.getD j false = true → ∀ e ∈ o.af, listed.getD e false = true) → At hi dst v wr fr σ (fun j => lo ≤ j ∧ listed.getD j false = true) fr' σ' → GLe B.N G0 G → Sim B G a w D fr' σ' →
      (∀ i, i < n → listed.getD i false = false → ∀ k, G.io k (nv + i) = none) → wpAnyIn (FW ro) 0 P .any cops Q' fuel listed a w := by
    intro fuel
    induction fuel with
    | zero =>
      intro listed a w G fr' σ' hls hcnt hlo1 hhi1 hcl hat hle hsim hcol
      have hallL : ∀ j, j < n → listed.getD j false = true := by
        intro j hj
        have : (List.range n).countP (fun j => listed.getD j false) = (List.range n).length := by simpa using hcnt
        exact List.countP_eq_length.1 this j (List.mem_range.2 hj)
      have hne : hi = n := by
        rcases Nat.lt_or_ge hi n with h | h
        · have := hhi1 hi (hallL hi h); omega
        · omega
      have := fin listed a w G fr' σ' hls (fun j => ⟨hhi1 j, fun h => hallL j (by omega)⟩) hat hle hsim hcol
      rw [hne, Nat.sub_self] at this
      exact this
    | succ fuel ih =>
      intro listed a w G fr' σ' hls hcnt hlo1 hhi1 hcl hat hle hsim hcol
      by_cases hallL : ∀ j, j < hi → listed.getD j false = true
      · have hc : (List.range n).countP (fun j => listed.getD j false) = hi := by
          have e : (List.range n).countP (fun j => listed.getD j false) = (List.range n).countP (fun j => decide (j < hi)) := List.countP_congr fun j _ => by
            simp only [decide_eq_true_eq]
            exact ⟨hhi1 j, hallL j⟩
          rw [e]
          have : ∀ n hi, hi ≤ n → (List.range n).countP (fun j => decide (j < hi)) = hi := by
            intro n
            induction n with
            | zero => intro hi h; simp; omega
            | succ n ihn =>
              intro hi h
              rw [List.range_succ, List.countP_append]
              by_cases e : hi ≤ n
              · rw [ihn hi e]; simp; omega
              · have : hi = n + 1 := by omega
                subst this
                have h2 : (List.range n).countP (fun j => decide (j < n + 1)) = (List.range n).length := List.countP_eq_length.2 fun j hj => by have := List.mem_range.1 hj; simp; omega
                rw [h2]; simp
          exact this n hi hin'
        have := fin listed a w G fr' σ' hls (fun j => ⟨hhi1 j, hallL j⟩) hat hle hsim hcol
        rw [show n - hi = fuel + 1 by omega] at this
        exact this
      · refine ⟨fun hr => ?_, fun i hi' => ?_⟩
        · exfalso
          refine hallL fun j => ?_
          induction j using Nat.strongRecOn with
          | _ j ihj =>
            intro hj
            cases hq : listed.getD j false with
            | true => rfl
            | false =>
              exfalso
              have := ready listed j hls (by omega) hq (fun o ho e he => by
                have hlt := haflt j o hj ho e he
                exact ihj e hlt (by omega))
              rw [hr] at this; cases this
        · obtain ⟨hin, h0, haf⟩ := readyAf listed i hls hi'
          have hihi : i < hi := by
            rcases Nat.lt_or_ge i hi with h | h
            · exact h
            · exact absurd (past listed hls hcl hhi1 i hi' h).1 hallL
          have hloi : lo ≤ i := by
            rcases Nat.lt_or_ge i lo with h | h
            · rw [hlo1 i h] at h0; cases h0
            · exact h
          obtain ⟨lo', hlo'⟩ := hget i hin
          have ho := copsget i hin
          generalize hoq : cops[i]'(by omega) = o at ho
          have hlw := hlow i o lo' (by rw [Array.getElem?_toList]; exact ho) hlo'
          obtain ⟨hop, hdo⟩ := lowOper_op hlw
          have hafD := haf lo' hlo'
          obtain ⟨e1, e2, hcase⟩ := hall i lo' hloi hihi hlo'
          have before : ∀ j oj, lo ≤ j → j < i → ops[j]? = some oj → clash (trOf oj (rd j) (wr j)) (trOf lo' (rd i) (wr i)) = true → listed.getD j false = true := by
            intro j oj hlj hji hoj hcs
            have := clashes (E := fun j => listed.getD j false = true ∨ j = i) (fun j' o' ho' _ hD e he => by
              rcases hD with hD | rfl
              · exact .inl (hcl j' o' ho' hD e he)
              · rw [hlo'] at ho'; cases ho'; exact .inl (hafD e he)) j i oj lo' hlj hji hihi hoj hlo' hcs (.inr rfl)
            rcases this with h | h
            · exact h
            · omega
          have after : ∀ j oj, i < j → j < hi → ops[j]? = some oj → clash (trOf lo' (rd i) (wr i)) (trOf oj (rd j) (wr j)) = true → ¬ listed.getD j false = true := by
            intro j oj hij hjh hoj hcs hD
            have := clashes (E := fun j => listed.getD j false = true) (fun j o ho _ => hcl j o ho) i j lo' oj hloi hij hjh hlo' hoj hcs hD
            rw [h0] at this; cases this
          have agree : ∀ t, t ∈ lslots lo' → fr'[t]? = (f i)[t]? := by
            intro t ht
            refine hat.agree (text i hloi (by omega)) fun j hj hdj => ?_
            obtain ⟨oj, hoj⟩ := hget j (by omega)
            rw [hd j oj hoj] at hdj
            constructor
            · rintro ⟨hlj, hD⟩
              refine ⟨hlj, ?_⟩
              rcases Nat.lt_trichotomy j i with h | rfl | h
              · exact h
              · rw [h0] at hD; cases hD
              · exact absurd hD (after j oj h hj hoj (by simp [clash, trOf, inD, hdj, ht]))
            · rintro ⟨hlj, h⟩
              exact ⟨hlj, before j oj hlj h hoj (by simp [clash, trOf, inD, hdj, ht])⟩
          have hgv : gval fr' lo' = gval (f i) lo' := by
            unfold gval
            split
            · rfl
            · rename_i t want hg
              rw [agree t (by simp [lslots, hg])]
          have hx : ∀ x ∈ lo'.op.xs, aev fr' x = aev (f i) x := by
            intro x hx
            cases x with
            | c v => rfl
            | t t =>
              simp only [aev, List.getD_eq_getElem?_getD]
              rw [agree t (by simp only [lslots, List.mem_append]; exact .inr (xslots_mem hx))]
          have hkeys : ∀ k ∈ rd i, sget σ' k = sget (s i) k := by
            intro k hk
            refine hat.agreeS (text i hloi (by omega)) fun j hj hw => ?_
            obtain ⟨oj, hoj⟩ := hget j (by omega)
            obtain ⟨p, hp, hpk⟩ := hw
            have hwk : k ∈ (wr j).map (·.1) := List.mem_map.2 ⟨p, hp, hpk⟩
            constructor
            · rintro ⟨hlj, hD⟩
              refine ⟨hlj, ?_⟩
              rcases Nat.lt_trichotomy j i with h | rfl | h
              · exact h
              · rw [h0] at hD; cases hD
              · refine absurd hD (after j oj h hj hoj ?_)
                have : meet ((wr j).map (·.1)) (rd i) = true := List.any_eq_true.2 ⟨k, hwk, by simpa using hk⟩
                simp [clash, trOf, this]
            · rintro ⟨hlj, h⟩
              refine ⟨hlj, before j oj hlj h hoj ?_⟩
              have : meet ((wr j).map (·.1)) (rd i) = true := List.any_eq_true.2 ⟨k, hwk, by simpa using hk⟩
              simp [clash, trOf, this]
          have hstep := hat.step (i := i) hihi (by rw [h0]; simp) (fun j hij hj hD t hdi hdj => by
            obtain ⟨oj, hoj⟩ := hget j (by omega)
            rw [hd i lo' hlo'] at hdi
            rw [hd j oj hoj] at hdj
            exact after j oj hij hj hoj (by simp [clash, trOf, hdi, hdj]) hD.2) (fun j hij hj hD p hp q hq hpq => by
            obtain ⟨oj, hoj⟩ := hget j (by omega)
            refine after j oj hij hj hoj ?_ hD.2
            have : meet ((wr i).map (·.1)) ((wr j).map (·.1)) = true := List.any_eq_true.2 ⟨p.1, List.mem_map.2 ⟨p, hp, rfl⟩, by simpa using ⟨q.2, by rw [hpq]; exact hq⟩⟩
            simp [clash, trOf, this])
          rw [hd i lo' hlo'] at hstep
          have hset : ∀ j, (listed.setIfInBounds i true).getD j false = if j = i then true else listed.getD j false := by
            intro j
            by_cases e : j = i
            · subst e
              rw [if_pos rfl, Array.getD_eq_getD_getElem?, Array.getElem?_setIfInBounds]
              simp [show j < listed.size by omega]
            · rw [if_neg e, Array.getD_eq_getD_getElem?, Array.getElem?_setIfInBounds, if_neg (fun h => e h.symm), ← Array.getD_eq_getD_getElem?]
          have next : ∀ (G' : Gh) (w' : World) (u : Value), G.le G' → (∀ k n', n' < nv + n → n' ≠ nv + i → G'.io k n' = G.io k n') → MemSim B G' w' (upds σ' (wr i)) → ARep G' (v i) u → wpAnyIn (FW ro) 0 P .any cops Q' fuel (listed.setIfInBounds i true) (a.put o.dst u) w' := by
            intro G' w' u hle' hcol' hm' hrep
            rw [hdo]
            refine ih _ _ w' G' _ _ (by simpa using hls) ?_ (fun j hj => ?_) (fun j hj => ?_) ?_ (hstep.mono fun j hj => ?_) (hle.trans ⟨hle', fun k n' hn => hcol' k n' (by omega) (by omega)⟩) ⟨hm', put_reps (hsim.fr.mono hle') hrep, put_df hsim.df hle'⟩ ?_
            · have := countP_set (l := List.range n) (p := fun j => listed.getD j false) (q := fun j => (listed.setIfInBounds i true).getD j false) List.nodup_range (List.mem_range.2 hin) h0 (by simp only [hset, if_true]) (fun j hj => by simp only [hset, if_neg hj])
              omega
            · rw [hset]; split
              · rfl
              · exact hlo1 j hj
            · rw [hset] at hj; split at hj
              · omega
              · exact hhi1 j hj
            · intro j oj hoj hD e he
              rw [hset] at hD ⊢
              split
              · rfl
              · split at hD
                · rename_i hji; subst hji; rw [hlo'] at hoj; cases hoj; exact hafD e he
                · exact hcl j oj hoj hD e he
            · rw [hset]
              by_cases e : j = i
              · subst e; simp [hloi]
              · simp [e]
            · intro j hj hD k
              rw [hset] at hD
              split at hD
              · cases hD
              · rename_i hji
                rw [hcol' k (nv + j) (by omega) (by omega)]
                exact hcol j hj hD k
          unfold wpOpIn
          simp only [ho]
          rcases hcase with ⟨hg, hst⟩ | ⟨hg, hv, hw⟩
          · rw [if_pos (wanted_of hlw hsim.fr (hgv.trans hg))]
            refine oper_in (lowOp_nodefer hop) ?_
            refine hst fr' σ' hx hkeys o hop B G a w (nv + n) hsim.mem hsim.fr (hcol i hin h0) _ _ ?_
            intro G' w' u hle' hcol' _ hm' hrep
            exact next G' w' u hle' hcol' hm' hrep
          · rw [if_neg (by rw [wanted_of hlw hsim.fr (hgv.trans hg)]; simp)]
            refine ⟨fun _ _ => trivial, ?_⟩
            exact next G w undef (Gh.le_refl G) (fun _ _ _ _ => rfl) (by rw [hw]; exact hsim.mem) (by rw [hv]; exact arep_tu (AReps.nil G))
  refine main (n - lo) listed0 a0 w0 Gs fr σ hls0 ?_ (fun j hj => (hlist0 j).2 hj) (fun j hj => by have := (hlist0 j).1 hj; omega) (fun j o ho hj e he => ?_) (At.start.mono fun j hj => ?_) hle0 hsim0 (fun i hi' hq k => ?_)
  · have e : (List.range n).countP (fun j => listed0.getD j false) = (List.range n).countP (fun j => decide (j < lo)) := List.countP_congr fun j _ => by
      simp only [decide_eq_true_eq]
      exact hlist0 j
    rw [e]
    have : ∀ n hi, hi ≤ n → (List.range n).countP (fun j => decide (j < hi)) = hi := by
      intro n
      induction n with
      | zero => intro hi h; simp; omega
      | succ n ihn =>
        intro hi h
        rw [List.range_succ, List.countP_append]
        by_cases e : hi ≤ n
        · rw [ihn hi e]; simp; omega
        · have : hi = n + 1 := by omega
          subst this
          have h2 : (List.range n).countP (fun j => decide (j < n + 1)) = (List.range n).length := List.countP_eq_length.2 fun j hj => by have := List.mem_range.1 hj; simp; omega
          rw [h2]; simp
    rw [this n lo hlo]; omega
  · have hjl := (hlist0 j).1 hj
    have := haflt j o (by omega) ho e he
    exact (hlist0 e).2 (by omega)
  · constructor
    · intro h; exact h.elim
    · rintro ⟨h1, h2⟩; have := (hlist0 j).1 h2; omega
  · refine hcol0 i ?_ hi' k
    rcases Nat.lt_or_ge i lo with h | h
    · rw [(hlist0 i).2 h] at hq; cases hq
    · exact h
theorem awp_regds {ops : List LOper} {fr : List AV} {σ : Store} {Q : AQ} (hmix : P.follows .mixedOrders = true) (h : ∀ nv, ADs P nv ops (fun fr σ => Q .normal fr σ) 0 ops [] fr σ) : AWp P (.reg ops true) Q fr σ := by
  intro c hc ro hro B G0 a0 w0 D0 hs0
  cases c with
  | region id cops draw =>
    simp only [lowC, Option.map_eq_some_iff] at hc
    obtain ⟨lops, hl, he⟩ := hc
    cases he
    obtain ⟨nv, hN, hBN⟩ : ∃ nv, (∀ k v, nv ≤ v → G0.io k v = none) ∧ B.N ≤ nv := by
      obtain ⟨N, hN⟩ := hs0.mem.fin
      exact ⟨max N B.N, fun k v hv => hN k v (by omega), by omega⟩
    have hsz : cops.size = ops.length := by have := (mapM_some_get hl).1; simpa using this
    refine wpIn_region_any hmix ?_
    have := ads_sound (B := B) (D := D0) (Q' := Post B G0 D0 Q) hl ro G0 hBN (fun G fr σ a w hle hsim hq => ⟨G, fr, σ, hle, hsim, hq⟩) _ 0 rfl (Nat.zero_le _) [] fr σ rfl (fun j o hj => by omega) (h nv) (Array.replicate ops.length false) a0 { w0 with drawn := w0.drawn + 1 } G0 (by simp) (fun j => ?_) (GLe.refl _ G0) ⟨hs0.mem.same rfl rfl rfl rfl, hs0.fr, hs0.df⟩ (fun q _ _ k => hN k _ (by omega))
    · rw [hsz]; exact this
    · rw [Array.getD_eq_getD_getElem?, Array.getElem?_replicate]
      split <;> simp
  | seq x y => simp only [lowC] at hc; split at hc <;> cases hc
  | cond x y z => simp only [lowC] at hc; split at hc <;> cases hc
  | rangeFunc x y z u => simp only [lowC] at hc; split at hc <;> cases hc
  | block x y => simp only [lowC, Option.map_eq_some_iff] at hc; obtain ⟨_, _, he⟩ := hc; cases he
  | loop x => simp only [lowC, Option.map_eq_some_iff] at hc; obtain ⟨_, _, he⟩ := hc; cases he
  | _ => simp [lowC] at hc
section
variable {fr fr' : List AV} {σ σ' : Store} {nv i : Nat} {K : List AV → Store → Prop} {o : LOper} {r ops : List LOper} {tr : List Tr}
theorem ads_one (lvl : Nat) {rk wk : List Key} (h : aoneT lvl nv i o fr σ = some (fr', σ', rk, wk)) (hr : ADs P nv ops K (i + 1) r (tr ++ [⟨lslots o, o.dst, rk, wk, o.af⟩]) fr' σ') : ADs P nv ops K i (o :: r) tr fr σ := by
  unfold aoneT at h
  split at h
  · rename_i hg
    obtain ⟨⟨v, rd, wr⟩, hs, he⟩ := Option.map_eq_some_iff.1 h
    cases he
    exact .inl ⟨hg, v, _, wr, AStep.of_astep _ hs, hr⟩
  · rename_i hg
    cases h
    exact .inr (.inl ⟨hg, hr⟩)
  · cases h
theorem ads_nil (ht : okTr tr = true) (h : K fr σ) : ADs P nv ops K i [] tr fr σ := ⟨ht, h⟩
theorem ads_call {f : Nat} {args : List AV} {res : AV} {lf : LF} (hg : gval fr o = some true) (hlf : lowFn P f = some lf) (hc : acall fr o.op = some (f, args)) (hp : ∀ x ∈ args, Pure x) (h : APure P f args res) (hf : put fr o.dst res = fr') (hr : ADs P nv ops K (i + 1) r (tr ++ [⟨lslots o, o.dst, [], [], o.af⟩]) fr' σ) : ADs P nv ops K i (o :: r) tr fr σ := by
  subst hf
  exact .inl ⟨hg, res, [], [], AStep.call hlf hc rfl (fz_all hp) h (.inl rfl), hr⟩
theorem ads_callf {f : Nat} {args args' : List AV} {res : AV} {lf : LF} (ks : List Key) (hg : gval fr o = some true) (hlf : lowFn P f = some lf) (hc : acall fr o.op = some (f, args)) (hz : FzL σ ks args args')
    (h : APure P f args' res) (hfl : Flat res) (hf : put fr o.dst res = fr') (hr : ADs P nv ops K (i + 1) r (tr ++ [⟨lslots o, o.dst, ks, [], o.af⟩]) fr' σ) : ADs P nv ops K i (o :: r) tr fr σ := by
  subst hf
  exact .inl ⟨hg, res, ks, [], AStep.call hlf hc hz.get.1 hz.get.2 h (.inr hfl), hr⟩
theorem ads_gsplit {t : Nat} {want b : Bool} (hg : o.g = some (t, want)) (hb : fr.getD t .bot = .b b) (h1 : b = true → ADs P nv ops K i (o :: r) tr fr σ) (h2 : b = false → ADs P nv ops K i (o :: r) tr fr σ) : ADs P nv ops K i (o :: r) tr fr σ := by
  cases b
  · exact h2 rfl
  · exact h1 rfl
theorem ads_callw {ι : Type} {f : Nat} {args : List AV} {lf : LF} {σr : Store} {res : ι → AV} {new τ : ι → Store} (hg : gval fr o = some true) (hlf : lowFn P f = some lf) (hc : acall fr o.op = some (f, args))
    (h : ACall P f args σr fun r s => ∃ i, r = res i ∧ s = new i) (hs : StLe σ σr) (hst : ∀ i, new i ++ sdl σ (σr.map (·.1)) = τ i) (hok : okTr tr = true) (hbar : barOk ops i = true)
    (hr : ∀ j, ADs P nv ops K (i + 1) r (tr ++ [trOf o [] []]) (put fr o.dst (res j)) (τ j)) : ADs P nv ops K i (o :: r) tr fr σ := by
  refine .inr (.inr ⟨hg, hok, hbar, _, AMany.call σr hlf hc hs h, ?_⟩)
  rintro v τ' ⟨σ2, ⟨j, rfl, rfl⟩, rfl⟩
  have := hr j
  rw [← hst j, sdl_eq] at this
  exact this
end
end Go.Am
/- Contracts whose answer lies in new memory alone: such an answer may be kept where the arguments lead to live objects. -/
namespace Go.Am
open Go.RowKit
set_option linter.unusedSimpArgs false
set_option linter.unusedVariables false
variable {P : Program} {B : Base} {G : Gh} {w : World} {σ : Store} {fr fr' : List AV} {a : Act}

def newF (N : Nat) (F : Nat → Option Nat → Option Value) : Nat → Option Nat → Option Value := fun b o => if N ≤ b then F b o else none
theorem newF_sub {N b : Nat} {F : Nat → Option Nat → Option Value} {o : Option Nat} {u : Value} (h : newF N F b o = some u) : F b o = some u := by
  unfold newF at h; split at h
  · exact h
  · cases h
/-- As APure; of the answer all references are to new memory. -/
def APureN (P : Program) (f : Nat) (args : List AV) (res : AV) : Prop :=
  ∀ (F : Nat → Option Nat → Option Value) (w : World) (us : List Value), (∀ b o u, F b o = some u → rdm w b o = some u) → AReps (GF F) args us →
    Calls P f us.toArray w fun e w' => ∃ v F', e = .returned v ∧ (∀ b o u, F b o = some u → F' b o = some u) ∧ (∀ b o u, F' b o = some u → rdm w' b o = some u) ∧
      (∀ b o u, F' b o = some u → F b o = some u ∨ w.heap.size ≤ b) ∧ ARep (GF (newF w.heap.size F')) res v ∧ Keeps (fun _ => False) w w'
theorem APureN.pure {f : Nat} {args : List AV} {res : AV} (h : APureN P f args res) : APure P f args res := by
  intro F w us hF hr
  refine (h F w us hF hr).mono ?_
  rintro e w' ⟨v, F', h1, h2, h3, h4, h5, h6⟩
  exact ⟨v, F', h1, h2, h3, h4, rep_lift h5 (G := GF F') fun b o u h => newF_sub h, h6⟩
theorem AStep.callN {lo : LO} {ver f : Nat} {args args' : List AV} {res : AV} {ks : List Key} {lf : LF} (hlf : lowFn P f = some lf) (hc : acall fr lo = some (f, args)) (hl : args.length = args'.length) (hz : ∀ (j : Nat) (x y : AV), args[j]? = some x → args'[j]? = some y → Fz σ ks x y)
    (hp : APureN P f args' res) : AStep P lo ver fr σ res ks [] := by
  intro fr' σ' hx hr o hlow B G a w N hm hf hv K Q hK
  obtain ⟨us, h1, hrun⟩ := acall_run (P := P) (w := w) ((acall_frame hx).trans hc) hlow hf hlf
  have hreps : AReps (GF (frz G w σ' ks)) args' us := ⟨hl ▸ h1.1, fun j y u hy hu => by
    have hjl : j < args.length := by rw [hl]; exact (List.getElem?_eq_some_iff.1 hy).1
    exact ((hz j _ y (List.getElem?_eq_getElem hjl) hy).local hr).rep hm u (h1.2 j _ u (List.getElem?_eq_getElem hjl) hu)⟩
  have hcall := hp _ w us (frz_mem hm ks) hreps
  unfold Oper.wp
  rw [hrun]
  simp only [Oper.upon]
  refine hcall.mono ?_
  rintro e w' ⟨v, F', rfl, g1, g2, g3, g4, g5⟩
  simp only []
  have hF1 : ∀ b o u, G.F b o = some u → F' b o = some u := fun b o u h => g1 b o u (frz_le w σ' ks b o u h)
  let F2 : Nat → Option Nat → Option Value := fun b o => if w.heap.size ≤ b then F' b o else G.F b o
  have e1 : ∀ b o u, G.F b o = some u → F2 b o = some u := fun b o u h => by
    have := hm.cell_lt h
    show (if w.heap.size ≤ b then F' b o else G.F b o) = some u
    rw [if_neg (by omega)]; exact h
  have e2 : ∀ b o u, F2 b o = some u → rdm w' b o = some u := fun b o u h => by
    have h : (if w.heap.size ≤ b then F' b o else G.F b o) = some u := h
    split at h
    · exact g2 b o u h
    · exact g2 b o u (hF1 b o u h)
  have e3 : ∀ b o u, F2 b o = some u → G.F b o = some u ∨ w.heap.size ≤ b := fun b o u h => by
    have h : (if w.heap.size ≤ b then F' b o else G.F b o) = some u := h
    split at h
    · exact .inr (by assumption)
    · exact .inl h
  refine hK { G with F := F2 } w' v ⟨e1, fun _ _ _ e => e⟩ (fun _ _ _ _ => rfl) (g5.mono fun _ h => h.elim) (hm.after g5 e1 e2 e3) (rep_lift g4 (G := { G with F := F2 }) fun b o u h => ?_)
  show (if w.heap.size ≤ b then F' b o else G.F b o) = some u
  unfold newF at h
  split at h
  · rename_i hb; rw [if_pos hb]; exact h
  · cases h

/-- What a value is when the objects that it leads to are taken as they stand; nothing that was frozen before. -/
inductive FzN (σ : Store) (ks : List Key) : AV → AV → Prop where
  | flat (x : AV) (h : Flat x) : FzN σ ks x x
  | esl : FzN σ ks .esl (.sl [])
  | row (k : Key) (ver len esz : Nat) (rs : List (List AV)) (hk : k ∈ ks) (hs : sget σ k = some ⟨ver, .rows esz rs⟩) (hl : rs.length = len) (hz : ∀ r ∈ rs, r.length = esz) (hp : ∀ r ∈ rs, ∀ x ∈ r, Flat x) : FzN σ ks (.row k ver 0 len) (.sl rs)
  | tu (cs cs' : List AV) (hl : cs.length = cs'.length) (h : ∀ (j : Nat) (x y : AV), cs[j]? = some x → cs'[j]? = some y → FzN σ ks x y) : FzN σ ks (.tu cs) (.tu cs')
  | ag (cs cs' : List AV) (hl : cs.length = cs'.length) (h : ∀ (j : Nat) (x y : AV), cs[j]? = some x → cs'[j]? = some y → FzN σ ks x y) : FzN σ ks (.ag cs) (.ag cs')
theorem FzN.rep (hm : MemSim B G w σ) (hM : ∀ b, ¬ B.M0 b) {ks : List Key} {x y : AV} (h : FzN σ ks x y) : ∀ u, ARep G x u → ARep (GF (newF B.w0.heap.size (frz G w σ ks))) y u := by
  induction h with
  | flat x h => exact fun u hr => h.rep hr _
  | esl =>
    intro u hr
    cases hr with
    | esl a => exact .sl [] a 0 0 (fun _ _ => undef) (by simp) 0 0 (fun h => absurd rfl h) (fun i cs h => by simp at h) (fun i cs j x h => by simp at h) (fun i cs j x h => by simp at h)
  | row k ver len esz rs hk hs hl hz hp =>
    intro u hr
    cases hr with
    | row _ _ _ _ a cap L hL hR =>
      obtain ⟨r1, r2, r3⟩ := hR
      obtain ⟨L', hL', e1, e2, e3, e4⟩ := hm.obj k _ hs
      rw [hL] at hL'; cases hL'
      subst hl
      cases hbk : L.blk with
      | none =>
        rw [hbk] at e4
        have h0 : rs = [] := List.eq_nil_of_length_eq_zero (by simp at e4; omega)
        subst h0
        exact .sl [] a cap esz (fun _ _ => undef) (by simp) 0 0 (fun h => absurd rfl h) (fun i cs h => by simp at h) (fun i cs j x h => by simp at h) (fun i cs j x h => by simp at h)
      | some b =>
        rw [hbk] at e4
        obtain ⟨c, ty, hcc, hsz, hxx⟩ := e4
        have hnew : B.w0.heap.size ≤ b := by
          rcases hm.own b (Live.of_get hs hL hbk) with h | h
          · exact absurd h (hM b)
          · exact h
        refine .sl rs a cap esz (fun i j => (c[i * esz + j]?).getD undef) r2 b 0 (fun hne => ?_) (fun i cs hi => hz cs (List.mem_of_getElem? hi)) (fun i cs j y hi hj => ?_) (fun i cs j y hi hj => ?_)
        · have : rs.length ≠ 0 := fun h => hne (List.eq_nil_of_length_eq_zero h)
          obtain ⟨b', hb', ha⟩ := r3 (by omega)
          rw [hbk] at hb'; cases hb'
          rw [ha]; simp
        · obtain ⟨u, hu, _⟩ := hxx i cs j y hi hj
          show newF B.w0.heap.size (frz G w σ ks) b (some (0 + (i * esz + j))) = _
          unfold newF
          rw [if_pos hnew, frz_live hm hk hs hL hbk]
          simp [rdm, World.cell?, hcc, hu]
        · obtain ⟨u, hu, hru⟩ := hxx i cs j y hi hj
          simp only [hu, Option.getD_some]
          exact (hp cs (List.mem_of_getElem? hi) y (List.mem_of_getElem? hj)).rep hru _
  | tu cs cs' hl _ ih =>
    intro u hr
    obtain ⟨us, rfl, h1⟩ := arep_tu_inv hr
    refine arep_tu ⟨hl ▸ h1.1, fun j y v hy hv => ?_⟩
    have hjl : j < cs.length := by rw [hl]; exact (List.getElem?_eq_some_iff.1 hy).1
    exact ih j _ y (List.getElem?_eq_getElem hjl) hy v (h1.2 j _ v (List.getElem?_eq_getElem hjl) hv)
  | ag cs cs' hl _ ih =>
    intro u hr
    obtain ⟨us, rfl, h1⟩ := arep_ag_inv hr
    refine arep_ag ⟨hl ▸ h1.1, fun j y v hy hv => ?_⟩
    have hjl : j < cs.length := by rw [hl]; exact (List.getElem?_eq_some_iff.1 hy).1
    exact ih j _ y (List.getElem?_eq_getElem hjl) hy v (h1.2 j _ v (List.getElem?_eq_getElem hjl) hv)
def retN (rs : List LR) (res : AV) : AQ := fun e fr σ =>
  (e = .normal ∨ e = .ret) ∧ ∃ vs ks, ares σ fr rs = some vs ∧ FzN σ ks (tup vs) res
theorem awp_endN {rs : List LR} {res : AV} {vs : List AV} (ks : List Key) {e : Exit} (he : e = .normal ∨ e = .ret) (hv : ares σ fr rs = some vs) (hz : FzN σ ks (tup vs) res) : retN rs res e fr σ := ⟨he, vs, ks, hv, hz⟩
theorem apureN_of {f : Nat} {lf : LF} {args : List AV} {res : AV} (hlf : lowFn P f = some lf) (h : AWp P lf.body (retN lf.res res) (args ++ List.replicate (lf.ntmps - args.length) .bot) []) : APureN P f args res := by
  obtain ⟨fn, c, hf, hc, hb, hr, hn, _⟩ := lowFn_spec hlf
  intro F w us hF hargs
  refine callsIn_FW.1 (callsIn_of_wp_marks (F := FW none) (n := 0) hf hc trivial ?_)
  have hsim : MemSim ⟨w, fun _ => False, F, 0⟩ (GF F) w [] :=
  { hF := hF
    hF0 := fun b o u h => .inl h
    obj := fun k o h => by simp [sget] at h
    sepF := fun b h => by obtain ⟨k, o, L, h, _⟩ := h; simp [sget] at h
    sep := fun k k' o o' L L' b h => by simp [sget] at h
    own := fun b h => by obtain ⟨k, o, L, h, _⟩ := h; simp [sget] at h
    fin := ⟨0, fun _ _ _ => rfl⟩
    os := rfl
    tape := rfl
    output := rfl
    size := Nat.le_refl _
    keep := fun _ _ _ => rfl
    fz := fun _ h => h }
  have hfr : AReps (GF F) (args ++ List.replicate (lf.ntmps - args.length) .bot) (us.toArray ++ Array.replicate (fn.ntmps - us.toArray.size) undef).toList := by
    have : AReps (GF F) (List.replicate (lf.ntmps - args.length) AV.bot) (List.replicate (lf.ntmps - args.length) undef) := ⟨by simp, fun j x u hx _ => by
      rw [List.getElem?_replicate] at hx
      split at hx
      · cases hx; exact .bot _
      · cases hx⟩
    have := hargs.app this
    rw [hn]
    have e : us.length = args.length := hargs.1.symm
    simpa [e] using this
  refine wpIn_mono (h c hb none (fun e => by cases e) ⟨w, fun _ => False, F, 0⟩ (GF F) _ w [] ⟨hsim, hfr, Marks.refl _ _ _⟩) ?_
  rintro e a' w' ⟨G0, fr', σ', hle0, hs, hq, vs, ks, hv, hz⟩
  have hgo : ∀ w', MemSim ⟨w, fun _ => False, F, 0⟩ (G0.unmark w.heap.size) w' σ' → AReps (G0.unmark w.heap.size) fr' a'.tmps.toList → ∃ u, (results fn a'.tmps).run P w' = .ok u w' ∧
      ∃ v F', Ending.returned u = .returned v ∧ (∀ b o u, F b o = some u → F' b o = some u) ∧ (∀ b o u, F' b o = some u → rdm w' b o = some u) ∧ (∀ b o u, F' b o = some u → F b o = some u ∨ w.heap.size ≤ b) ∧ ARep (GF (newF w.heap.size F')) res v ∧ Keeps (fun _ => False) w w' := by
    intro w' hm hfr'
    obtain ⟨u, hrun, hrep⟩ := results_run (P := P) hm hfr' hr hv
    refine ⟨u, hrun, u, frz (G0.unmark w.heap.size) w' σ' ks, rfl, fun b o u h => frz_le w' σ' ks b o u (unmark_lt (hle0.1.F b o u h) (rdm_lt (hF b o u h))), frz_mem hm ks, fun b o u h => ?_, hz.rep hm (fun _ h => h) u hrep, ⟨hm.os, hm.tape, hm.output, hm.size, fun b hb _ => hm.keep b hb (fun h => h), hm.fz⟩⟩
    rcases frz_of hm ks h with h | h
    · exact hm.hF0 b o u h
    · rcases hm.own b h with h | h
      · exact h.elim
      · exact .inr h
  rcases hq with rfl | rfl
  · exact post_leaves hs hgo
  · exact post_leaves hs hgo
def FzNL (σ : Store) (ks : List Key) : List AV → List AV → Prop
  | [], [] => True
  | x :: xs, y :: ys => FzN σ ks x y ∧ FzNL σ ks xs ys
  | _, _ => False
theorem FzNL.get {ks : List Key} : ∀ {xs ys : List AV}, FzNL σ ks xs ys → xs.length = ys.length ∧ ∀ (j : Nat) (x y : AV), xs[j]? = some x → ys[j]? = some y → FzN σ ks x y
  | [], [], _ => ⟨rfl, fun j x y h => by simp at h⟩
  | x :: xs, y :: ys, h => by
    obtain ⟨h1, h2⟩ := FzNL.get h.2
    refine ⟨by simp [h1], fun j a b ha hb => ?_⟩
    cases j with
    | zero => simp at ha hb; subst ha; subst hb; exact h.1
    | succ j => exact h2 j a b (by simpa using ha) (by simpa using hb)
  | [], _ :: _, h => h.elim
  | _ :: _, [], h => h.elim
theorem fzn_tu {ks : List Key} {cs cs' : List AV} (h : FzNL σ ks cs cs') : FzN σ ks (.tu cs) (.tu cs') := .tu cs cs' h.get.1 h.get.2
theorem fzn_flat {ks : List Key} {x y : AV} (h : x = y) (hf : Flat x) : FzN σ ks x y := h ▸ .flat x hf
section
variable {nv i : Nat} {K : List AV → Store → Prop} {o : LOper} {r ops : List LOper} {tr : List Tr}
theorem aops_calln {f : Nat} {args args' : List AV} {res : AV} {lf : LF} (ks : List Key) (hg : gval fr o = some true) (hlf : lowFn P f = some lf) (hc : acall fr o.op = some (f, args)) (hz : FzL σ ks args args')
    (h : APureN P f args' res) (hf : put fr o.dst res = fr') (hr : AOps P nv K (i + 1) r fr' σ) : AOps P nv K i (o :: r) fr σ := by
  subst hf
  exact .inl ⟨hg, res, ks, [], AStep.callN hlf hc hz.get.1 hz.get.2 h, hr⟩
theorem adr_calln {f : Nat} {args args' : List AV} {res : AV} {lf : LF} (ks : List Key) (hg : gval fr o = some true) (hlf : lowFn P f = some lf) (hc : acall fr o.op = some (f, args)) (hz : FzL σ ks args args')
    (h : APureN P f args' res) (hf : put fr o.dst res = fr') (hr : ADr P nv K (i + 1) r (tr ++ [⟨lslots o, o.dst, ks, [], o.af⟩]) fr' σ) : ADr P nv K i (o :: r) tr fr σ := by
  subst hf
  exact .inl ⟨hg, res, ks, [], AStep.callN hlf hc hz.get.1 hz.get.2 h, hr⟩
theorem ads_calln {f : Nat} {args args' : List AV} {res : AV} {lf : LF} (ks : List Key) (hg : gval fr o = some true) (hlf : lowFn P f = some lf) (hc : acall fr o.op = some (f, args)) (hz : FzL σ ks args args')
    (h : APureN P f args' res) (hf : put fr o.dst res = fr') (hr : ADs P nv ops K (i + 1) r (tr ++ [⟨lslots o, o.dst, ks, [], o.af⟩]) fr' σ) : ADs P nv ops K i (o :: r) tr fr σ := by
  subst hf
  exact .inl ⟨hg, res, ks, [], AStep.callN hlf hc hz.get.1 hz.get.2 h, hr⟩
end
end Go.Am
/- Calculations as default proofs: so that a proof's text stays short. -/
namespace Go.Am
theorem noX : (AV.bot = AV.bot) = True := by simp
theorem nput {A : Prop} (h : A := by (simp only [put, List.set_cons_succ, List.set_cons_zero] <;> rfl)) : A := h
end Go.Am
/- From a contract of a pure call to what a row's proof asks of the walk. -/
namespace Go.Am
open Go.RowKit
theorem frozen_block {w w' : World} {a : Addr} (h : w'.heap[a.block]? = w.heap[a.block]?) : w'.frozen? a = w.frozen? a := by
  unfold World.frozen?; rw [h]
theorem grown_of_keeps {w w' : World} (h : Keeps (fun _ => False) w w') : Grown w w' := by
  refine ⟨⟨h.os, h.output, fun i hi => ?_⟩, fun a => ?_, h.size⟩
  · rw [h.block i hi (fun e => e)]
    cases w.heap[i]? with
    | none => rfl
    | some o =>
      cases o with
      | cells c t fr => exact ⟨rfl, rfl, rfl, fun _ _ => rfl⟩
      | map es clock => exact .inr ⟨rfl, rfl⟩
      | _ => rfl
  · by_cases ha : a.block < w.heap.size
    · exact frozen_block (h.block _ ha (fun e => e))
    · have h0 : w.frozen? a = false := by
        unfold World.frozen?
        rw [Array.getElem?_eq_none (by omega)]
      rw [h0]
      cases hf : w'.frozen? a with
      | false => rfl
      | true => rw [h.fz a hf] at h0; cases h0
/-- The law's answer is true, whatever of the memory ahead of it is told by F. -/
theorem calls_true {P : Program} {f : Nat} {args : List AV} {us : List Value} {w : World} (F : Nat → Option Nat → Option Value) (hF : ∀ b o u, F b o = some u → rdm w b o = some u)
    (h : APure P f args (.b true)) (ha : AReps (GF F) args us) : Calls P f us.toArray w fun e w' => e = .returned (.bool true) ∧ Grown w w' := by
  refine (h F w us hF ha).mono ?_
  rintro e w' ⟨v, F', rfl, _, _, _, hr, hk⟩
  cases hr
  exact ⟨rfl, grown_of_keeps hk⟩
theorem areps_nil {G : Gh} : AReps G [] [] := AReps.nil G
end Go.Am
