/- Part 2 of this work's library of abstract walks, packed by a program of this work. -/
import Derived.Test.YtibkakodokbobaaK1
import Derived.OrdersIn
import Derived.RangeFuncSeq
import Derived.RangeFuncIn
import Derived.RangeFuncLeaves
set_option linter.unusedVariables false
set_option linter.unusedSimpArgs false
/- append: what it comes to. -/
namespace Go.Am
open Go.RowKit
set_option linter.unusedSimpArgs false
set_option linter.unusedVariables false
variable {P : Program} {B : Base} {G : Gh} {w : World} {σ : Store} {ver : Nat} {key : Key} {fr : List AV} {ρ : Operand → Value} {o : Oper} {lo : LO} {v : AV} {rd : List Key} {wr : List (Key × AO)}

theorem Keeps.same {S : Nat → Prop} {w w' : World} (hh : w'.heap = w.heap) (ho : w'.os = w.os) (ht : w'.tape = w.tape) (hu : w'.output = w.output) : Keeps S w w' := ⟨ho, ht, hu, by rw [hh]; exact Nat.le_refl _, fun b _ _ => by rw [hh], froz_heap hh⟩
theorem upds_one (σ : Store) (k : Key) (x : AO) : upds σ [(k, x)] = sset σ k x := rfl

/-- A new row: the old cells, the new ones, the rest. -/
theorem app_new (hm : MemSim B G w σ) {k : Key} (hv : ∀ k, G.io k ver = none) {e : TypeId} {i : TypeInfo} {z : Value} (hzs : z.cells.size = i.size) {rs new : List (List AV)} {xs us : Nat → Nat → Value} {cap : Nat} {r : Result Next}
    (hzr : ∀ (q : Nat) (cs : List AV), rs[q]? = some cs → cs.length = i.size) (hzn : ∀ (q : Nat) (cs : List AV), new[q]? = some cs → cs.length = i.size)
    (hxs : ∀ (q : Nat) (cs : List AV) (j : Nat) (x : AV), rs[q]? = some cs → cs[j]? = some x → ARep G x (xs q j)) (hus : ∀ (q : Nat) (cs : List AV) (j : Nat) (x : AV), new[q]? = some cs → cs[j]? = some x → ARep G x (us q j))
    (hcap : rs.length + new.length ≤ cap)
    (hr : r = .ok (.value (.slice (some ⟨w.heap.size, 0, none⟩) (rs.length + new.length) cap)) (w.drew.alloc (.cells ((flatU xs rs.length i.size).toArray ++ (flatU us new.length i.size).toArray ++ Builtin.zeroCells z.cells (cap - (rs.length + new.length))) e))) :
    Res B G w σ ver r (.row k ver 0 (rs.length + new.length)) [(k, ⟨ver, .rows i.size (rs ++ new)⟩)] := by
  have hm' : MemSim B G w.drew σ := hm.same rfl rfl rfl rfl
  have hsz : ((flatU xs rs.length i.size).toArray ++ (flatU us new.length i.size).toArray ++ Builtin.zeroCells z.cells (cap - (rs.length + new.length))).size = cap * i.size := by
    simp only [Array.size_append, List.size_toArray, flatU, List.length_map, List.length_range, size_zeroCells, hzs, ← Nat.add_mul]
    congr 1; omega
  refine ⟨_, G.put k ver ⟨some w.heap.size, i.size, cap⟩, _, .inl hr, Gh.le_put (hv k), fun k' n hn => Gh.put_other _ _ _ _ (fun h => hn h.2), (Keeps.same (w := w) (w' := w.drew) rfl rfl rfl rfl).trans (Keeps.alloc _ _ _), ?_, ?_⟩
  · rw [upds_one]
    refine hm'.new (hv k) _ e (rs ++ new) i.size cap (by simpa using hcap) (by rw [hsz]; exact Nat.le_refl _) (fun q cs hq => ?_) (fun q cs j x hq hj => ?_)
    · rw [List.getElem?_append] at hq
      split at hq
      · exact hzr _ _ hq
      · exact hzn _ _ hq
    · rw [List.getElem?_append] at hq
      have hla : (flatU xs rs.length i.size).length = rs.length * i.size := by simp [flatU]
      have hlb : (flatU us new.length i.size).length = new.length * i.size := by simp [flatU]
      split at hq
      · rename_i hlt
        have hjl : j < i.size := by rw [← hzr _ _ hq]; exact (List.getElem?_eq_some_iff.1 hj).1
        refine ⟨xs q j, ?_, hxs _ _ _ _ hq hj⟩
        have hg := flatU_get xs rs.length i.size q j hlt hjl
        have hlt2 : q * i.size + j < (flatU xs rs.length i.size).length := (List.getElem?_eq_some_iff.1 hg).1
        rw [Array.append_assoc, Array.getElem?_append, if_pos (by simpa using hlt2), List.getElem?_toArray]
        exact hg
      · rename_i hlt
        have hjl : j < i.size := by rw [← hzn _ _ hq]; exact (List.getElem?_eq_some_iff.1 hj).1
        have hql : q - rs.length < new.length := (List.getElem?_eq_some_iff.1 hq).1
        refine ⟨us (q - rs.length) j, ?_, hus _ _ _ _ hq hj⟩
        have hg := flatU_get us new.length i.size (q - rs.length) j hql hjl
        have hlt2 : (q - rs.length) * i.size + j < (flatU us new.length i.size).length := (List.getElem?_eq_some_iff.1 hg).1
        have hqe : q * i.size = rs.length * i.size + (q - rs.length) * i.size := by rw [← Nat.add_mul]; congr 1; omega
        rw [Array.append_assoc, Array.getElem?_append, if_neg (by simp only [List.size_toArray, hla]; omega), Array.getElem?_append, if_pos (by simp only [List.size_toArray, hla, hlb] at hlt2 ⊢; omega), List.getElem?_toArray]
        simp only [List.size_toArray, hla]
        rw [show q * i.size + j - rs.length * i.size = (q - rs.length) * i.size + j by omega]
        exact hg
  · refine .row k ver 0 _ _ _ _ (Gh.put_same _ _ _ _) ⟨by simp, hcap, fun _ => ⟨_, rfl, by simp⟩⟩

theorem app_virt (hm : MemSim B G w σ) {k : Key} (hv : ∀ k, G.io k ver = none) (esz : Nat) {r : Result Next} {a0 : Option Addr} (hr : r = .ok (.value (.slice a0 0 0)) w) : Res B G w σ ver r (.row k ver 0 0) [(k, ⟨ver, .rows esz []⟩)] :=
  ⟨_, G.put k ver ⟨none, esz, 0⟩, _, .inl hr, Gh.le_put (hv k), fun k' n hn => Gh.put_other _ _ _ _ (fun h => hn h.2), Keeps.refl _ _, hm.virt (hv k) esz, .row k ver 0 0 a0 0 _ (Gh.put_same _ _ _ _) ⟨Nat.le_refl _, Nat.le_refl _, fun h => absurd rfl h⟩⟩

theorem res_append {t e : TypeId} {x y : Operand} {x' y' : X} {c : Call} {z : List AV} {esz bytes : Nat} (hm : MemSim B G w σ) (hρ : Opnds G fr ρ) (hvc : ∀ k, G.io k ver = none) (ho : o.op = .call c) (hc : c = { callee := .builtin .append, args := #[x, y], argTypes := #[t, t] })
    (ht : P.underlying t = some (.slice e)) (hz : zeroOf P e = some z) (hn : szOf P e = some esz) (hzl : z.length = esz) (hby : byOf P e = some bytes) (hb0 : 0 < bytes) (hx : lowX x = some x') (hy : lowX y = some y')
    (hv : aappend key ver σ esz bytes (aev fr x') (aev fr y') = some (v, rd, wr)) : Res B G w σ ver ((execOp ρ o).run P w) v wr := by
  have h1 := hρ x x' hx
  have h2 := hρ y y' hy
  generalize aev fr x' = av at hv h1
  generalize aev fr y' = bv at hv h2
  have run : ∀ u w', (Builtin.append_ #[t, t] o.type #[ρ x, ρ y]).run P w = .ok u w' → (execOp ρ o).run P w = .ok (.value u) w' := by
    intro u w' h
    subst hc
    simp [execOp, ho, resolve, invoke, builtin, h]
  generalize ρ x = u at h1 run
  generalize ρ y = q at h2 run
  obtain ⟨i, hi, hie⟩ := sz_info hn
  subst hie
  have hbi : i.bytes = bytes := by unfold byOf at hby; simpa [hi] using hby
  subst hbi
  obtain ⟨zv, hzv, hzc⟩ : ∃ zv, i.zero = some zv ∧ zv.cells.size = i.size := by
    unfold zeroOf at hz
    cases hq : i.zero with
    | none => simp [hi, hq] at hz
    | some zv =>
      simp [hi, hq] at hz
      exact ⟨zv, rfl, by have := (areps_mapM G hz).1; simp at this; omega⟩
  unfold aappend at hv
  split at hv
  · cases hv
  · rename_i new rd0 hrows
    obtain ⟨a, c', us, rfl, hlc, hzn, hus, hsrc⟩ := arows_spec hm hrows h2
    split at hv
    · rename_i hone
      have hone' : ∀ u ∈ flatU us new.length i.size, u.oneCell' = true := by
        intro u hu
        obtain ⟨j, hj⟩ := List.getElem?_of_mem hu
        obtain ⟨g1, g2, rfl, g4⟩ := flatU_at _ _ _ _ _ hj
        have hr1 := List.getElem?_eq_getElem g1
        have hr2 := List.getElem?_eq_getElem (show j % i.size < (new[j / i.size]).length by rw [hzn _ _ hr1]; exact g2)
        refine arep_one (hus _ _ _ _ hr1 hr2) ?_
        have := List.all_eq_true.1 hone _ (List.getElem_mem g1)
        exact List.all_eq_true.1 this _ (List.getElem_mem _)
      -- an empty base without capacity
      have empty : ∀ (k : Key) (a0 : Option Addr), u = .slice a0 0 0 → new.length * i.bytes ≤ 140737488355328 → Res B G w σ ver ((execOp ρ o).run P w) (.row k ver 0 new.length) [(k, ⟨ver, .rows i.size new⟩)] := by
        rintro k a0 rfl hbd
        by_cases h0 : new.length = 0
        · have hnil : new = [] := List.eq_nil_of_length_eq_zero h0
          subst hnil
          exact app_virt hm hvc i.size (run _ _ (run_app_none (P := P) o.type ht hi (Nat.le_refl 0)))
        · have hg := run_app_grow (P := P) (w := w) (c := c') o.type ht hi hzv (a0 := a0) (a := a) (n := 0) (cap := 0) (m := new.length) (xs := fun _ _ => undef) (us := us) (.inl rfl) hsrc (by omega) hb0 (by simpa using hbd)
          have := app_new (B := B) (G := G) (σ := σ) (k := k) hm hvc (e := e) (i := i) hzc (rs := []) (new := new) (xs := fun _ _ => undef) (us := us) (cap := grownCap w (0 + new.length) 0 e) (fun q cs h => by simp at h) hzn (fun q cs j x h => by simp at h) hus (by simpa using grownCap_ge w (0 + new.length) 0 e) (run _ _ hg)
          simpa using this
      split at hv
      · split at hv
        · rename_i hbd
          cases hv; cases h1
          exact empty key _ rfl hbd
        · cases hv
      · rename_i k kv off len
        split at hv
        · rename_i kv' esz' rs hk
          split at hv
          · rename_i hcond
            obtain ⟨rfl, rfl, rfl, rfl, hbd⟩ := hcond
            cases hv
            cases h1 with
            | row _ _ _ _ a0 cap L hL hR =>
              obtain ⟨r1, r2, r3⟩ := hR
              obtain ⟨L', hL', e1, e2, e3, e4⟩ := hm.obj k _ hk
              rw [hL] at hL'; cases hL'
              by_cases hcap : cap = 0
              · subst hcap
                have hnil : rs = [] := List.eq_nil_of_length_eq_zero (by omega)
                subst hnil
                have := empty k a0 rfl (by simpa using hbd)
                simpa using this
              · obtain ⟨b, hb, ha⟩ := r3 hcap
                simp only [Nat.zero_mul] at ha
                subst ha
                rw [hb] at e4
                obtain ⟨cc, ty, hcc, hs, hxx⟩ := e4
                have hlive : Live G σ b := Live.of_get hk hL hb
                have hlcap : L.cap * i.size ≤ cc.size := hs
                by_cases hroom : rs.length + new.length ≤ cap
                · have hfit : (rs.length + new.length) * i.size ≤ cc.size := Nat.le_trans (Nat.mul_le_mul_right _ (by omega)) hlcap
                  have hg := run_app_room (P := P) (w := w) (c := c') o.type ht hi (a := a) (n := rs.length) (cap := cap) (m := new.length) (us := us) hcc hsrc hone' hroom hfit
                  have hle := Gh.le_put (G := G) (L := L) (hvc k)
                  refine ⟨_, G.put k ver L, _, .inl (run _ _ hg), hle, fun k' n hn => Gh.put_other _ _ _ _ (fun h => hn h.2), Keeps.setRow hlive _ _, ?_, .row k ver 0 _ _ cap L (Gh.put_same _ _ _ _) ⟨by omega, hroom, fun _ => ⟨b, hb, by simp⟩⟩⟩
                  rw [upds_one]
                  have hla : (flatU us new.length i.size).length = new.length * i.size := by simp [flatU]
                  have hfit2 : rs.length * i.size + (flatU us new.length i.size).length ≤ cc.toList.length := by
                    rw [hla, ← Nat.add_mul]; simpa using hfit
                  refine hm.write hk hL hb hle rfl (fun k' v' h => Gh.put_other _ _ _ _ (fun e => h e.1)) (Gh.put_same _ _ _ _) ?_ hcc (by simp; omega) (fun q cs hq => ?_) ?_ (fun q cs j x hq hj => ?_)
                  · obtain ⟨N, hN⟩ := hm.fin
                    refine ⟨max N (ver + 1), fun k' v' hv' => ?_⟩
                    rw [Gh.put_other]
                    · exact hN k' v' (by omega)
                    · rintro ⟨_, rfl⟩; omega
                  · rw [List.getElem?_append] at hq
                    split at hq
                    · exact e3 _ _ hq
                    · exact hzn _ _ hq
                  · simp only [List.size_toArray, List.length_append, List.length_take, List.length_drop, Array.length_toList, hla]
                    simp only [hla, Array.length_toList] at hfit2
                    omega
                  · rw [List.getElem?_toArray, splice_get _ _ _ _ hfit2]
                    rw [List.getElem?_append] at hq
                    split at hq
                    · rename_i hlt
                      have hjl : j < i.size := by rw [← e3 _ _ hq]; exact (List.getElem?_eq_some_iff.1 hj).1
                      have hlt2 : q * i.size + j < rs.length * i.size := by
                        calc q * i.size + j < q * i.size + i.size := by omega
                          _ = (q + 1) * i.size := by rw [Nat.succ_mul]
                          _ ≤ rs.length * i.size := Nat.mul_le_mul_right _ hlt
                      rw [if_pos hlt2, Array.getElem?_toList]
                      obtain ⟨u, hu, hr⟩ := hxx _ _ _ _ hq hj
                      exact ⟨u, hu, hr.mono hle⟩
                    · rename_i hlt
                      have hjl : j < i.size := by rw [← hzn _ _ hq]; exact (List.getElem?_eq_some_iff.1 hj).1
                      have hql : q - rs.length < new.length := (List.getElem?_eq_some_iff.1 hq).1
                      have hg2 := flatU_get us new.length i.size (q - rs.length) j hql hjl
                      have hlt2 : (q - rs.length) * i.size + j < (flatU us new.length i.size).length := (List.getElem?_eq_some_iff.1 hg2).1
                      have hqe : q * i.size = rs.length * i.size + (q - rs.length) * i.size := by rw [← Nat.add_mul]; congr 1; omega
                      rw [if_neg (by omega), if_pos (by omega)]
                      refine ⟨us (q - rs.length) j, ?_, (hus _ _ _ _ hq hj).mono hle⟩
                      rw [show q * i.size + j - rs.length * i.size = (q - rs.length) * i.size + j by omega]
                      exact hg2
                · have hold : rs.length = 0 ∨ ∃ ad : Addr, (some ⟨b, 0, none⟩ : Option Addr) = some ad ∧ ∀ j u, (flatU (fun q j => (cc[q * i.size + j]?).getD undef) rs.length i.size)[j]? = some u → w.cell? (ad.add j) = some u := by
                    right
                    refine ⟨_, rfl, fun j u hj => ?_⟩
                    obtain ⟨g1, g2, rfl, g4⟩ := flatU_at _ _ _ _ _ hj
                    have hr1 := List.getElem?_eq_getElem g1
                    obtain ⟨u, hu, _⟩ := hxx _ _ (j % i.size) _ hr1 (List.getElem?_eq_getElem (by rw [e3 _ _ hr1]; exact g2))
                    have hu2 : cc[j]? = some u := (congrArg (fun n => cc[n]?) g4).trans hu
                    rw [add_none, Nat.zero_add, hu]
                    simp [World.cell?, hcc, hu2]
                  have hg := run_app_grow (P := P) (w := w) (c := c') o.type ht hi hzv (a0 := some ⟨b, 0, none⟩) (a := a) (n := rs.length) (cap := cap) (m := new.length) (us := us) hold hsrc (by omega) hb0 hbd
                  refine app_new (B := B) (G := G) (σ := σ) (k := k) hm hvc (e := e) (i := i) hzc e3 hzn (fun q cs j x h1 h2 => ?_) hus (grownCap_ge w (rs.length + new.length) cap e) (run _ _ hg)
                  obtain ⟨u, hu, hr⟩ := hxx _ _ _ _ h1 h2
                  simp only [hu, Option.getD_some]; exact hr
          · cases hv
        · cases hv
      · cases hv
    · cases hv
end Go.Am
/- Structs and slices that are laid out; slice expressions. -/
namespace Go.Am
open Go.RowKit
set_option linter.unusedSimpArgs false
set_option linter.unusedVariables false
variable {P : Program} {B : Base} {G : Gh} {w : World} {σ : Store} {ver : Nat} {key : Key} {fr : List AV} {ρ : Operand → Value} {o : Oper} {lo : LO} {v : AV} {rd : List Key} {wr : List (Key × AO)}

theorem foldl_set (cells : Array Value) (off : Nat) : ∀ (vs : List Value) (k : Nat), off + k + vs.length ≤ cells.size →
    ((vs.zipIdx k).foldl (fun cs (c, j) => cs.setIfInBounds (off + j) c) cells).toList = cells.toList.take (off + k) ++ vs ++ cells.toList.drop (off + k + vs.length)
  | [], k, _ => by simp
  | v :: vs, k, h => by
    simp only [List.zipIdx_cons, List.foldl_cons]
    rw [foldl_set (cells.setIfInBounds (off + k) v) off vs (k + 1) (by simp at h ⊢; omega)]
    have := list_seg_step cells.toList (off + k) v vs (by simp at h ⊢; omega)
    simpa [Nat.add_assoc] using this
theorem fill_ok {place : Nat → Option (Nat × Nat)} : ∀ (ps : List (Nat × Value)) (qs : List (Nat × Nat × AV)) (cells : Array Value) (z cs : List AV), AReps G z cells.toList →
    qs.length = ps.length → (∀ (j : Nat) (p : Nat × Value) (q : Nat × Nat × AV), ps[j]? = some p → qs[j]? = some q → place p.1 = some (q.1, q.2.1) ∧ ARep G q.2.2 p.2) → afill z qs = some cs →
    ∃ r, Instr.fill place cells ps = some r ∧ AReps G cs r.toList
  | [], [], cells, z, cs, hz, _, _, h => by simp [afill] at h; subst h; exact ⟨cells, rfl, hz⟩
  | [], _ :: _, _, _, _, _, hl, _, _ => by simp at hl
  | _ :: _, [], _, _, _, _, hl, _, _ => by simp at hl
  | (i, u) :: ps, (off, n, x) :: qs, cells, z, cs, hz, hl, hp, h => by
    obtain ⟨h1, h2⟩ := hp 0 _ _ rfl rfl
    simp only [afill, Option.bind_eq_bind, Option.bind_eq_some_iff] at h
    obtain ⟨xs, hxs, h⟩ := h
    split at h
    · rename_i hc
      obtain ⟨rfl, hle⟩ := hc
      have hr := arep_cells h2 hxs
      have hul : u.cells.toList.length = xs.length := hr.1.symm
      have hsz : off + u.cells.size ≤ cells.size := by have := hz.1; simp at this hul; omega
      have hlist := foldl_set cells off u.cells.toList 0 (by simpa using hsz)
      simp only [Nat.add_zero] at hlist
      have hz' : AReps G (z.take off ++ xs ++ z.drop (off + xs.length)) ((u.cells.toList.zipIdx 0).foldl (fun cs (c, j) => cs.setIfInBounds (off + j) c) cells).toList := by
        rw [hlist, hul]
        exact ((hz.take off).app hr).app (hz.drop _)
      obtain ⟨r, hr1, hr2⟩ := fill_ok ps qs _ _ cs hz' (by simpa using hl) (fun j p q a b => hp (j + 1) p q (by simpa using a) (by simpa using b)) h
      refine ⟨r, ?_, hr2⟩
      unfold Instr.fill
      simp only [h1]
      rw [if_neg (by simp at hul ⊢; omega)]
      rw [← Array.foldl_toList]
      simpa using hr1
    · cases h
theorem lower_parts {α : Type} {f : Nat × Operand → Option α} {g : α → Nat × Nat × X} {ρ : Operand → Value} (hρ : Opnds G fr ρ) {place : Nat → Option (Nat × Nat)} {ps : List (Nat × Operand)} {qs : List α}
    (h : ps.mapM f = some qs) (hf : ∀ p q, f p = some q → place p.1 = some ((g q).1, (g q).2.1) ∧ lowX p.2 = some (g q).2.2) :
    (qs.map fun q => ((g q).1, (g q).2.1, aev fr (g q).2.2)).length = (ps.map fun p => (p.1, ρ p.2)).length ∧
    ∀ (j : Nat) (p : Nat × Value) (q : Nat × Nat × AV), (ps.map fun p => (p.1, ρ p.2))[j]? = some p → (qs.map fun q => ((g q).1, (g q).2.1, aev fr (g q).2.2))[j]? = some q → place p.1 = some (q.1, q.2.1) ∧ ARep G q.2.2 p.2 := by
  obtain ⟨h1, h2⟩ := mapM_some_get h
  refine ⟨by simp [h1], fun j p q hp hq => ?_⟩
  rw [List.getElem?_map] at hp hq
  cases a : ps[j]? with
  | none => simp [a] at hp
  | some p0 =>
    cases b : qs[j]? with
    | none => simp [b] at hq
    | some q0 =>
      simp [a] at hp; simp [b] at hq
      subst hp; subst hq
      obtain ⟨f1, f2⟩ := hf p0 q0 (h2 j p0 q0 a b)
      exact ⟨f1, hρ _ _ f2⟩
theorem mapM_sizes {fs : List Field} {ns : List Nat} (h : fs.mapM (fun f => szOf P f.type) = some ns) : (fs.mapM (fun f => (do pure (f.offset, ← sizeOf f.type) : Sem (Nat × Nat)))).run P w = .ok (fs.zipWith (fun f n => (f.offset, n)) ns) w := by
  induction fs generalizing ns with
  | nil => simp at h; subst h; simp
  | cons f fs ih =>
    rw [List.mapM_cons] at h
    cases h1 : szOf P f.type with
    | none => simp [h1] at h
    | some n =>
      cases h2 : fs.mapM (fun f => szOf P f.type) with
      | none => simp [h1, h2] at h
      | some ms =>
        simp [h1, h2] at h
        subst h
        have := ih h2
        simp only [List.mapM_cons, Sem.run_bind, run_size h1, Result.andThen_ok, Sem.run_pure, this, List.zipWith_cons_cons]

theorem res_build_struct {t : TypeId} {ps : Array (Nat × Operand)} {fs : Array Field} {z cs : List AV} {qs : List (Nat × Nat × X)} {ns : List Nat} (hm : MemSim B G w σ) (hρ : Opnds G fr ρ) (ho : o.op = .build t ps) (ht : P.underlying t = some (.struct fs)) (hz : zeroOf P t = some z)
    (hq : ps.toList.mapM (lowPartS P fs) = some qs) (hns : fs.toList.mapM (fun f => szOf P f.type) = some ns) (hv : afill z (qs.map fun p => (p.1, p.2.1, aev fr p.2.2)) = some cs) : Res B G w σ ver ((execOp ρ o).run P w) (.ag cs) [] := by
  obtain ⟨zv, hzr, hzc⟩ := zeroOf_spec (P := P) (G := G) (w := w) hz
  have hsz := mapM_sizes (P := P) (w := w) hns
  obtain ⟨hl, hget⟩ := mapM_some_get hns
  obtain ⟨g1, g2⟩ := lower_parts (G := G) (fr := fr) (g := id) hρ (place := fun i => (fs.toList.zipWith (fun f n => (f.offset, n)) ns).toArray[i]?) hq (fun p q hpq => by
    unfold lowPartS at hpq
    split at hpq
    · cases hpq
    · rename_i f hf
      split at hpq
      · rename_i n x hn hx
        cases hpq
        refine ⟨?_, hx⟩
        rw [List.getElem?_toArray, List.getElem?_zipWith]
        have hf' : fs.toList[p.1]? = some f := by rw [Array.getElem?_toList]; exact hf
        have hpl : p.1 < ns.length := by rw [← hl]; exact (List.getElem?_eq_some_iff.1 hf').1
        have hn' := hget p.1 f _ hf' (List.getElem?_eq_getElem hpl)
        rw [hn] at hn'
        simp [hf', List.getElem?_eq_getElem hpl, id]
        exact (Option.some.inj hn').symm
      · cases hpq)
  obtain ⟨r, h1, h2⟩ := fill_ok (G := G) _ _ zv.cells z cs hzc g1 g2 hv
  refine Res.val hm (u := .agg r) ?_ (by have := arep_ag h2; simpa using this)
  have e1 : (ps.map fun (i, x) => (i, ρ x)).toList = ps.toList.map fun p => (p.1, ρ p.2) := by simp
  simp only [execOp, ho, Instr.build, Sem.run_bind, hzr, Result.andThen_ok, run_underlying ht, e1, Array.mapM_eq_mapM_toList, Sem.run_map, hsz]
  simp only [h1]
  simp
theorem res_build_arr {t e : TypeId} {m n : Nat} {ps : Array (Nat × Operand)} {z cs : List AV} {qs : List (Nat × Nat × X)} (hm : MemSim B G w σ) (hρ : Opnds G fr ρ) (ho : o.op = .build t ps) (ht : P.underlying t = some (.array m e)) (hz : zeroOf P t = some z) (hn : szOf P e = some n)
    (hq : ps.toList.mapM (lowPartA n) = some qs) (hv : afill z (qs.map fun p => (p.1, p.2.1, aev fr p.2.2)) = some cs) : Res B G w σ ver ((execOp ρ o).run P w) (.ag cs) [] := by
  obtain ⟨zv, hzr, hzc⟩ := zeroOf_spec (P := P) (G := G) (w := w) hz
  obtain ⟨g1, g2⟩ := lower_parts (G := G) (fr := fr) (g := id) hρ (place := fun i => some (i * n, n)) hq (fun p q hpq => by
    simp only [lowPartA, Option.map_eq_some_iff] at hpq
    obtain ⟨x, hx, rfl⟩ := hpq
    exact ⟨rfl, hx⟩)
  obtain ⟨r, h1, h2⟩ := fill_ok (G := G) (place := fun i => some (i * n, n)) _ _ zv.cells z cs hzc g1 g2 hv
  refine Res.val hm (u := .agg r) ?_ (by have := arep_ag h2; simpa using this)
  have e1 : (ps.map fun (i, x) => (i, ρ x)).toList = ps.toList.map fun p => (p.1, ρ p.2) := by simp
  simp only [execOp, ho, Instr.build, Sem.run_bind, hzr, Result.andThen_ok, run_underlying ht, e1, run_size hn]
  simp only [h1]
  simp

/-- A bound that was told, and its operand. -/
theorem abnd_spec {l : Option Operand} {l' : Option X} {d n : Nat} (hρ : Opnds G fr ρ) (hx : lowXO l = some l') (h : abnd d (l'.map (aev fr)) = some n) :
    (l = none ∧ l' = none ∧ n = d) ∨ ∃ x k, l = some x ∧ ρ x = .int k n ∧ l'.isSome = true := by
  cases l with
  | none => simp [lowXO] at hx; subst hx; simp [abnd] at h; exact .inl ⟨rfl, rfl, h.symm⟩
  | some x =>
    right
    simp only [lowXO, Option.map_eq_some_iff] at hx
    obtain ⟨x', hx', rfl⟩ := hx
    have h1 := hρ x x' hx'
    simp only [Option.map_some] at h
    generalize aev fr x' = av at h h1
    unfold abnd at h
    split at h
    · rename_i e; cases e
    · rename_i e
      cases e
      split at h
      · cases h
        generalize hu : ρ x = u at h1
        cases h1
        rename_i k n h0
        exact ⟨x, k, rfl, by rw [hu, Int.toNat_of_nonneg h0], rfl⟩
      · cases h
    · cases h
theorem run_bound {u : Value} {k : IntKind} {n y : Nat} {code : BoundsCode} (h : u = .int k n) (hle : n ≤ y) : (Instr.sliceBound u y code).run P w = .ok n w := by
  subst h
  have h2 : (0 : Int) ≤ n ∧ (n : Int) ≤ y := ⟨by omega, by omega⟩
  simp [Instr.sliceBound, asIntOf, h2]
theorem run_bounds {isS : Bool} {len cap h l : Nat} {lo hi : Option Operand} (hh : (hi = none ∧ h = len) ∨ ∃ x k, hi = some x ∧ ρ x = .int k h) (hl : (lo = none ∧ l = 0) ∨ ∃ x k, lo = some x ∧ ρ x = .int k l) (h1 : l ≤ h) (h2 : h ≤ cap) :
    (Instr.sliceBounds isS len cap (lo.map ρ) (hi.map ρ) none).run P w = .ok (l, h, cap) w := by
  rcases hh with ⟨rfl, rfl⟩ | ⟨x, k, rfl, hx⟩ <;> rcases hl with ⟨rfl, rfl⟩ | ⟨y, k', rfl, hy⟩
  · simp [Instr.sliceBounds]
  · simp [Instr.sliceBounds, run_bound hy h1]
  · simp [Instr.sliceBounds, run_bound hx h2]
  · simp [Instr.sliceBounds, run_bound hx h2, run_bound hy h1]
theorem abnd_rel {l : Option Operand} {l' : Option X} {d n : Nat} (hρ : Opnds G fr ρ) (hx : lowXO l = some l') (h : abnd d (l'.map (aev fr)) = some n) : (l = none ∧ n = d) ∨ ∃ x k, l = some x ∧ ρ x = .int k n := by
  rcases abnd_spec hρ hx h with ⟨a, _, b⟩ | ⟨x, k, a, b, _⟩
  · exact .inl ⟨a, b⟩
  · exact .inr ⟨x, k, a, b⟩

theorem res_slice_str {t : TypeId} {x : Operand} {x' : X} {lo hi mx : Option Operand} {lo' hi' mx' : Option X} (hm : MemSim B G w σ) (hρ : Opnds G fr ρ) (ho : o.op = .slice t x lo hi mx) (ht : P.underlying t = some .string) (hx : lowX x = some x') (hlo : lowXO lo = some lo') (hhi : lowXO hi = some hi') (hmx : lowXO mx = some mx')
    (hv : asliceS (aev fr x') (lo'.map (aev fr)) (hi'.map (aev fr)) (mx'.map (aev fr)) = some v) : Res B G w σ ver ((execOp ρ o).run P w) v [] := by
  have h1 := hρ x x' hx
  generalize aev fr x' = av at hv h1
  generalize hu : ρ x = u at h1
  unfold asliceS at hv
  split at hv
  · rename_i s hmn
    have hmx0 : mx = none := by
      cases mx with
      | none => rfl
      | some m =>
        simp only [lowXO, Option.map_eq_some_iff] at hmx
        obtain ⟨m', _, rfl⟩ := hmx
        simp at hmn
    subst hmx0
    cases h1
    simp only [Option.bind_eq_bind, Option.bind_eq_some_iff] at hv
    obtain ⟨h, hh, l, hl, hv⟩ := hv
    split at hv
    · rename_i hc
      cases hv
      have hb := run_bounds (P := P) (w := w) (isS := false) (len := s.size) (cap := s.size) (abnd_rel hρ hhi hh) (abnd_rel hρ hlo hl) hc.1 hc.2
      exact Res.val hm (by simp [execOp, ho, Instr.sliceAt, Instr.slice, run_underlying ht, hu, hb]) (.s _)
    · cases hv
  · cases hv
theorem res_slice_row {t e : TypeId} {esz : Nat} {x : Operand} {x' : X} {lo hi : Option Operand} {lo' hi' : Option X} (hm : MemSim B G w σ) (hρ : Opnds G fr ρ) (ho : o.op = .slice t x lo hi none) (ht : P.underlying t = some (.slice e)) (hn : szOf P e = some esz) (hx : lowX x = some x') (hlo : lowXO lo = some lo') (hhi : lowXO hi = some hi')
    (hv : asliceR σ esz (aev fr x') (lo'.map (aev fr)) (hi'.map (aev fr)) = some (v, rd)) : Res B G w σ ver ((execOp ρ o).run P w) v [] := by
  have h1 := hρ x x' hx
  generalize aev fr x' = av at hv h1
  generalize hu : ρ x = u at h1
  unfold asliceR at hv
  have run : ∀ (a : Option Addr) (len cap l h : Nat), u = .slice a len cap → ((hi = none ∧ h = len) ∨ ∃ x k, hi = some x ∧ ρ x = .int k (h : Nat)) → ((lo = none ∧ l = 0) ∨ ∃ x k, lo = some x ∧ ρ x = .int k (l : Nat)) → l ≤ h → h ≤ cap →
      (execOp ρ o).run P w = .ok (.value (.slice (if cap = l then a else a.map (·.add (l * esz))) (h - l) (cap - l))) w := by
    rintro a len cap l h rfl q1 q2 q3 q4
    have hb := run_bounds (P := P) (w := w) (isS := true) (len := len) (cap := cap) q1 q2 q3 q4
    simp [execOp, ho, Instr.sliceAt, Instr.slice, run_underlying ht, hu, hb, run_size hn]
  split at hv
  · rename_i rows
    simp only [Option.bind_eq_bind, Option.bind_eq_some_iff] at hv
    obtain ⟨h, hh, l, hl, hv⟩ := hv
    split at hv
    · rename_i hc
      cases hv
      have hes : ∀ (i : Nat) (cs : List AV), rows[i]? = some cs → cs.length = esz := fun i cs hi => by
        have := List.all_eq_true.1 hc.2.2 cs (List.mem_of_getElem? hi)
        simpa using this
      cases h1 with
      | sl _ a cap esz' us hcap blk p ha hz hF hr =>
        refine Res.val hm (run a _ cap l h rfl (abnd_rel hρ hhi hh) (abnd_rel hρ hlo hl) hc.1 (by omega)) ?_
        have hlen : ((rows.take h).drop l).length = h - l := by simp; omega
        have := ARep.sl (G := G) ((rows.take h).drop l) (if cap = l then a else a.map (·.add (l * esz))) (cap - l) esz (fun i j => us (l + i) j) (by rw [hlen]; omega) blk (p + l * esz) (fun hne => by
          have hll : l < h := by
            rcases Nat.lt_or_ge l h with h' | h'
            · exact h'
            · exact absurd (List.eq_nil_of_length_eq_zero (by rw [hlen]; omega)) hne
          have hne' : rows ≠ [] := by intro e; subst e; simp at hc; omega
          rw [if_neg (by omega), ha hne']
          simp [add_none]) (fun i cs hi => by
          rw [List.getElem?_drop, List.getElem?_take] at hi
          split at hi
          · exact hes _ _ hi
          · cases hi) (fun i cs j x hi hj => by
          rw [List.getElem?_drop, List.getElem?_take] at hi
          split at hi
          · have h3 := hF _ _ _ _ hi hj
            have e1 : esz' = esz := (hz _ _ hi).symm.trans (hes _ _ hi)
            rw [e1] at h3
            rw [show p + l * esz + (i * esz + j) = p + ((l + i) * esz + j) by rw [Nat.add_mul]; omega]
            exact h3
          · cases hi) (fun i cs j x hi hj => by
          rw [List.getElem?_drop, List.getElem?_take] at hi
          split at hi
          · exact hr _ _ _ _ hi hj
          · cases hi)
        rwa [hlen] at this
    · cases hv
  · simp only [Option.bind_eq_bind, Option.bind_eq_some_iff] at hv
    obtain ⟨h, hh, l, hl, hv⟩ := hv
    split at hv
    · rename_i hc
      obtain ⟨rfl, rfl⟩ := hc
      cases hv; cases h1
      exact Res.val hm (run _ 0 0 0 0 rfl (abnd_rel hρ hhi hh) (abnd_rel hρ hlo hl) (Nat.le_refl _) (Nat.le_refl _)) (.esl _)
    · cases hv
  · rename_i k kv off len
    simp only [Option.bind_eq_bind, Option.bind_eq_some_iff] at hv
    obtain ⟨h, hh, l, hl, hv⟩ := hv
    split at hv
    · rename_i kv' esz' rs hk
      split at hv
      · rename_i hc
        obtain ⟨c1, c2, rfl, rfl⟩ := hc
        cases hv
        cases h1 with
        | row _ _ _ _ a cap L hL hR =>
          obtain ⟨r1, r2, r3⟩ := hR
          obtain ⟨e1, e2⟩ := live_loc hm hk hL
          refine Res.val hm (run a len cap l h rfl (abnd_rel hρ hhi hh) (abnd_rel hρ hlo hl) c1 (by omega)) ?_
          refine .row k kv' (off + l) (h - l) _ _ L hL ⟨by omega, by omega, fun hne => ?_⟩
          obtain ⟨b, hb, rfl⟩ := r3 (by omega)
          refine ⟨b, hb, ?_⟩
          rw [if_neg (by omega), ← e1]
          simp [add_none, Nat.add_mul]
      · cases hv
    · cases hv
  · cases hv
theorem res_slice_zero {t e : TypeId} {esz : Nat} {x : Operand} {x' : X} {lo hi mx : Option Operand} {lo' hi' mx' : Option X} (hm : MemSim B G w σ) (hρ : Opnds G fr ρ) (ho : o.op = .slice t x lo hi mx) (ht : P.underlying t = some (.slice e)) (hn : szOf P e = some esz) (hx : lowX x = some x') (hlo : lowXO lo = some lo') (hhi : lowXO hi = some hi') (hmx : lowXO mx = some mx')
    (hv : aslice0 (aev fr x') (lo'.map (aev fr)) (hi'.map (aev fr)) (mx'.map (aev fr)) = some v) : Res B G w σ ver ((execOp ρ o).run P w) v [] := by
  have h1 := hρ x x' hx
  generalize aev fr x' = av at hv h1
  generalize hu : ρ x = u at h1
  unfold aslice0 at hv
  simp only [Option.bind_eq_bind, Option.bind_eq_some_iff] at hv
  obtain ⟨h, hh, l, hl, m, hm2, hv⟩ := hv
  have key : ∀ a len cap, u = .slice a len cap → l = 0 → h = 0 → m = 0 → v = .esl → Res B G w σ ver ((execOp ρ o).run P w) v [] := by
    rintro a len cap rfl rfl rfl rfl rfl
    rcases abnd_rel hρ hhi hh with ⟨_, e⟩ | ⟨xh, k1, rfl, e1⟩
    · cases e
    · rcases abnd_rel hρ hmx hm2 with ⟨_, e⟩ | ⟨xm, k2, rfl, e2⟩
      · cases e
      · have b1 := run_bound (P := P) (w := w) (y := cap) (code := .slice3Acap) e2 (Nat.zero_le _)
        have b2 := run_bound (P := P) (w := w) (y := 0) (code := .slice3B) e1 (Nat.zero_le _)
        rcases abnd_rel hρ hlo hl with ⟨rfl, _⟩ | ⟨xl, k3, rfl, e3⟩
        · exact Res.val hm (by simp [execOp, ho, Instr.sliceAt, Instr.slice, run_underlying ht, hu, Instr.sliceBounds, b1, b2, run_size hn]; rfl) (.esl _)
        · have b3 := run_bound (P := P) (w := w) (y := 0) (code := .slice3C) e3 (Nat.zero_le _)
          exact Res.val hm (by simp [execOp, ho, Instr.sliceAt, Instr.slice, run_underlying ht, hu, Instr.sliceBounds, b1, b2, b3, run_size hn]; rfl) (.esl _)
  split at hv
  all_goals (first | (cases hv; done) | (split at hv <;> first | (cases hv; done) | skip))
  all_goals
    rename_i hc
    cases hv
    cases h1
    exact key _ _ _ rfl hc.1 hc.2.1 hc.2.2 rfl
end Go.Am
/- A slice that is laid out; and all operations together: 'astep' is right. -/
namespace Go.Am
open Go.RowKit
set_option linter.unusedSimpArgs false
set_option linter.unusedVariables false
variable {P : Program} {B : Base} {G : Gh} {w : World} {σ : Store} {ver : Nat} {key : Key} {fr : List AV} {ρ : Operand → Value} {o : Oper} {lo : LO} {v : AV} {rd : List Key} {wr : List (Key × AO)}

theorem flatten_len {α : Type} {n : Nat} : ∀ {rs : List (List α)}, (∀ r ∈ rs, r.length = n) → rs.flatten.length = rs.length * n
  | [], _ => by simp
  | r :: rs, h => by
    rw [List.flatten_cons, List.length_append, flatten_len (fun q hq => h q (List.mem_cons_of_mem _ hq)), h r List.mem_cons_self, List.length_cons, Nat.succ_mul]
    omega
theorem flatten_get {α : Type} {n : Nat} : ∀ {rs : List (List α)} (i : Nat) {r : List α} {j : Nat} {x : α}, (∀ r ∈ rs, r.length = n) → rs[i]? = some r → r[j]? = some x → rs.flatten[i * n + j]? = some x
  | [], i, r, j, x, _, h, _ => by simp at h
  | q :: rs, 0, r, j, x, h, hr, hx => by
    simp at hr; subst hr
    rw [List.flatten_cons, Nat.zero_mul, Nat.zero_add, List.getElem?_append_left (List.getElem?_eq_some_iff.1 hx).1]
    exact hx
  | q :: rs, i + 1, r, j, x, h, hr, hx => by
    have := flatten_get (rs := rs) i (fun q hq => h q (List.mem_cons_of_mem _ hq)) (by simpa using hr) hx
    have hq := h q List.mem_cons_self
    rw [List.flatten_cons, List.getElem?_append_right (by rw [hq, Nat.succ_mul]; omega), hq]
    rw [show (i + 1) * n + j - n = i * n + j by rw [Nat.succ_mul]; omega]
    exact this
theorem flatten_set {α : Type} {n : Nat} : ∀ {rs : List (List α)} (i : Nat) {xs : List α}, (∀ r ∈ rs, r.length = n) → xs.length = n → i < rs.length →
    (rs.set i xs).flatten = rs.flatten.take (i * n) ++ xs ++ rs.flatten.drop (i * n + n)
  | [], i, xs, _, _, h => by simp at h
  | q :: rs, 0, xs, h, hx, _ => by
    have hq := h q List.mem_cons_self
    simp [List.drop_append, ← hq]
  | q :: rs, i + 1, xs, h, hx, hi => by
    have hq := h q List.mem_cons_self
    have := flatten_set (rs := rs) i (fun q hq => h q (List.mem_cons_of_mem _ hq)) hx (by simpa using hi)
    simp only [List.set_cons_succ, List.flatten_cons, this]
    have t1 : q.take ((i + 1) * n) = q := List.take_of_length_le (by rw [hq, Nat.succ_mul]; omega)
    have d1 : q.drop ((i + 1) * n + n) = [] := List.drop_eq_nil_of_le (by rw [hq, Nat.succ_mul]; omega)
    rw [List.take_append, List.drop_append, hq, t1, d1]
    rw [show (i + 1) * n - n = i * n by rw [Nat.succ_mul]; omega, show (i + 1) * n + n - n = i * n + n by rw [Nat.succ_mul]; omega]
    simp [List.append_assoc]
theorem map_range0 {α : Type} (f : Nat → α) : (Array.range 0).map f = #[] := by
  apply Array.eq_empty_of_size_eq_zero; simp
theorem afillR_spec {esz : Nat} : ∀ (qs : List (Nat × AV)) (z rs : List (List AV)), (∀ r ∈ z, r.length = esz) → afillR esz z qs = some rs →
    (∀ r ∈ rs, r.length = esz) ∧ rs.length = z.length ∧ afill z.flatten (qs.map fun q => (q.1 * esz, esz, q.2)) = some rs.flatten
  | [], z, rs, hz, h => by simp [afillR] at h; subst h; exact ⟨hz, rfl, rfl⟩
  | (i, x) :: qs, z, rs, hz, h => by
    simp only [afillR, Option.bind_eq_bind, Option.bind_eq_some_iff] at h
    obtain ⟨xs, hxs, h⟩ := h
    split at h
    · rename_i hc
      obtain ⟨hl, hi⟩ := hc
      have hz' : ∀ r ∈ z.set i xs, r.length = esz := fun r hr => by
        rcases List.mem_or_eq_of_mem_set hr with h1 | rfl
        · exact hz r h1
        · exact hl
      obtain ⟨a, b, c⟩ := afillR_spec qs _ rs hz' h
      refine ⟨a, by rw [b]; simp, ?_⟩
      rw [flatten_set i hz hl hi] at c
      simp only [List.map_cons, afill, Option.bind_eq_bind, hxs, Option.bind_some]
      have hle : i * esz + esz ≤ z.flatten.length := by
        rw [flatten_len hz]
        calc i * esz + esz = (i + 1) * esz := by rw [Nat.succ_mul]
          _ ≤ z.length * esz := Nat.mul_le_mul_right _ hi
      rw [if_pos ⟨hl, hle⟩]
      exact c
    · cases h
theorem res_bslice {t e : TypeId} {esz len : Nat} {ps : Array (Nat × Operand)} {z : List AV} {qs : List (Nat × X)} {rs : List (List AV)} (hm : MemSim B G w σ) (hρ : Opnds G fr ρ) (hvc : ∀ k, G.io k ver = none) (ho : o.op = .buildSlice t len ps) (ht : P.underlying t = some (.slice e)) (hn : szOf P e = some esz) (hz : zeroOf P e = some z)
    (hzl : z.length = esz) (h0 : 0 < esz) (hbd : len * esz ≤ 2 ^ 24) (hq : ps.toList.mapM lowPartR = some qs) (hv : afillR esz (List.replicate len z) (qs.map fun p => (p.1, aev fr p.2)) = some rs) :
    Res B G w σ ver ((execOp ρ o).run P w) (.row key ver 0 len) [(key, ⟨ver, .rows esz rs⟩)] := by
  obtain ⟨zv, hzr, hzc⟩ := zeroOf_spec (P := P) (G := G) (w := w) hz
  have hzs : zv.cells.size = esz := by have := hzc.1; simp at this; omega
  obtain ⟨a1, a2, a3⟩ := afillR_spec _ _ _ (fun r hr => by rw [(List.mem_replicate.1 hr).2]; exact hzl) hv
  simp at a2
  have hinit : AReps G (List.replicate len z).flatten ((Array.range (len * esz)).map (zv.cells[· % zv.cells.size]!)).toList := by
    refine ⟨by rw [flatten_len (n := esz) (fun r hr => by rw [(List.mem_replicate.1 hr).2]; exact hzl)]; simp, fun q x u hx hu => ?_⟩
    have hql : q < len * esz := by
      have := (List.getElem?_eq_some_iff.1 hu).1
      simpa using this
    have hq1 : q / esz < len := (Nat.div_lt_iff_lt_mul h0).2 hql
    have hq2 : q % esz < esz := Nat.mod_lt _ h0
    have hqe : q = q / esz * esz + q % esz := by rw [Nat.mul_comm]; exact (Nat.div_add_mod q esz).symm
    have hzx : z[q % esz]? = some x := by
      have hlt : q % esz < z.length := by omega
      have := flatten_get (rs := List.replicate len z) (n := esz) (q / esz) (r := z) (j := q % esz) (x := z[q % esz]) (fun r hr => by rw [(List.mem_replicate.1 hr).2]; exact hzl) (by simp [hq1]) (List.getElem?_eq_getElem hlt)
      rw [← hqe, hx] at this
      rw [List.getElem?_eq_getElem hlt]; exact this.symm
    obtain ⟨u', hu', hr'⟩ := hzc.get hzx
    rw [Array.getElem?_toList, Array.getElem?_map, Array.getElem?_range, if_pos hql] at hu
    simp only [Option.map_some, Option.some.injEq] at hu
    subst hu
    rw [hzs]
    rw [Array.getElem?_toList] at hu'
    rw [getElem!_def, hu']
    exact hr'
  obtain ⟨g1, g2⟩ := lower_parts (G := G) (fr := fr) (g := fun q : Nat × X => (q.1 * esz, esz, q.2)) hρ (place := fun i => some (i * esz, esz)) hq (fun p q hpq => by
    simp only [lowPartR, Option.map_eq_some_iff] at hpq
    obtain ⟨x, hx, rfl⟩ := hpq
    exact ⟨rfl, hx⟩)
  rw [List.map_map] at a3
  obtain ⟨r, h1, h2⟩ := fill_ok (G := G) (place := fun i => some (i * esz, esz)) _ _ _ _ _ hinit g1 g2 a3
  have hrs : r.size = len * esz := by have := h2.1; rw [flatten_len a1, a2] at this; simpa using this.symm
  refine Res.new hm hvc r e rs esz len (u := .slice (some ⟨w.heap.size, 0, none⟩) len len) ?_ (by omega) (by omega) (fun i cs hi => a1 cs (List.mem_of_getElem? hi)) (fun i cs j x hi hj => ?_) (fun G' h => .row key ver 0 len _ len _ h ⟨by simp, Nat.le_refl _, fun _ => ⟨_, rfl, by simp⟩⟩)
  · have e1 : (ps.map fun (i, x) => (i, ρ x)).toList = ps.toList.map fun p => (p.1, ρ p.2) := by simp
    have hbd' : ¬ (len * esz > 2 ^ 24) := by omega
    simp only [execOp, ho, Instr.buildSlice, Sem.run_bind, run_underlying ht, run_size hn, Result.andThen_ok, if_neg hbd', e1, Sem.run_pure]
    by_cases hl0 : len * esz = 0
    · have hfill : Instr.fill (fun i => some (i * esz, esz)) ((Array.range (len * esz)).map ((#[] : Array Value)[· % (#[] : Array Value).size]!)) (ps.toList.map fun p => (p.1, ρ p.2)) = some r := by
        rw [hl0, map_range0] at h1 ⊢; exact h1
      simp only [if_pos hl0, Sem.run_bind, Sem.run_pure, Result.andThen_ok, hfill]
      simp [newRow, newObj, Sem.run]
    · simp only [if_neg hl0, Sem.run_bind, Sem.run_pure, Result.andThen_ok, hzr, h1]
      simp [newRow, newObj, Sem.run]
  · obtain ⟨u, hu, hr⟩ := h2.get (flatten_get i a1 hi hj)
    exact ⟨u, by simpa using hu, hr⟩

/-! ### Maps -/
def setM (w : World) (b : Nat) (es : Array MapEntry) (clock : Nat) : World := { w with heap := w.heap.setIfInBounds b (.map es clock) }
theorem setM_same {b : Nat} {es : Array MapEntry} {clock : Nat} (h : b < w.heap.size) : (setM w b es clock).heap[b]? = some (.map es clock) := by simp [setM, h]
theorem setM_other {b k : Nat} {es : Array MapEntry} {clock : Nat} (h : k ≠ b) : (setM w b es clock).heap[k]? = w.heap[k]? := by
  simp only [setM]; rw [Array.getElem?_setIfInBounds_ne (by omega)]
theorem froz_setM {b : Nat} {es : Array MapEntry} {clock : Nat} (a : Addr) (ha : (setM w b es clock).frozen? a = true) : w.frozen? a = true := by
  by_cases h : a.block = b
  · by_cases hlt : b < w.heap.size
    · rw [cold_frozen (by rw [h]; exact setM_same hlt) rfl] at ha; cases ha
    · have e : (setM w b es clock).heap[a.block]? = none := by rw [h]; simp [setM]; omega
      unfold World.frozen? at ha; rw [e] at ha; cases ha
  · exact froz_block (setM_other h) ha
theorem rdm_setM_other {b k : Nat} {es : Array MapEntry} {clock : Nat} {o : Option Nat} (h : k ≠ b) : rdm (setM w b es clock) k o = rdm w k o := by
  cases o with
  | some o => simp only [rdm, World.cell?]; rw [setM_other h]
  | none => simp only [rdm]; rw [setM_other h]
theorem run_getM {b : Nat} {es : Array MapEntry} {clock : Nat} (h : w.heap[b]? = some (.map es clock)) : (getObj b).run P w = .ok (.map es clock) w := by simp [getObj, Sem.run, h]
theorem run_setM {b : Nat} {es es' : Array MapEntry} {clock clock' : Nat} (h : w.heap[b]? = some (.map es clock)) : (setObj b (.map es' clock')).run P w = .ok () (setM w b es' clock') := by
  obtain ⟨this, e⟩ := Array.getElem?_eq_some_iff.1 h
  simp [setObj, Sem.run, setM, this, e]
/-- A new object of any kind. -/
theorem MemSim.newB (h : MemSim B G w σ) {k : Key} {ver : Nat} (hv : G.io k ver = none) (x : Obj) (L : Loc) (y : AB) (hLb : L.blk = some w.heap.size) (hy : BodyRep (G.put k ver L) (w.alloc x) L y) (hcold : cold x = true := by rfl) :
    MemSim B (G.put k ver L) (w.alloc x) (sset σ k ⟨ver, y⟩) := by
  have hle := Gh.le_put (L := L) hv
  have hold : ∀ b, b < w.heap.size → (w.alloc x).heap[b]? = w.heap[b]? := fun b hb => Below.heap_alloc _ _ _ hb
  have hlive : ∀ b, Live (G.put k ver L) (sset σ k ⟨ver, y⟩) b → b = w.heap.size ∨ Live G σ b := by
    rintro b ⟨k', o, L', hk, hL, hb⟩
    rw [sget_sset] at hk
    split at hk
    · rename_i e; subst e; cases hk
      rw [Gh.put_same] at hL; cases hL
      left; rw [hLb] at hb; simpa using hb.symm
    · rename_i e
      right
      rw [Gh.put_other _ _ _ _ (fun h => e h.1.symm)] at hL
      exact ⟨k', o, L', hk, hL, hb⟩
  exact
  { hF := fun b o u hf => by
      rw [rdm_alloc_lt _ (h.cell_lt hf)]; exact h.hF b o u hf
    hF0 := h.hF0
    obj := fun k' o hk => by
      rw [sget_sset] at hk
      split at hk
      · rename_i e; subst e; cases hk
        exact ⟨_, Gh.put_same _ _ _ _, hy⟩
      · rename_i e
        obtain ⟨L', hL, hr⟩ := h.obj k' o hk
        exact ⟨L', hle.io _ _ _ hL, hr.mono hle (fun b hb => hold b (hr.lt hb))⟩
    sepF := fun b hb o => by
      rcases hlive b hb with rfl | hb
      · cases hf : G.F w.heap.size o with
        | none => exact hf
        | some u => have := h.cell_lt hf; omega
      · exact h.sepF b hb o
    sep := fun k1 k2 o1 o2 L1 L2 b h1 h2 e1 e2 b1 b2 => by
      rw [sget_sset] at h1 h2
      split at h1 <;> split at h2
      · rename_i a1 a2; exact a1.symm.trans a2
      · rename_i a1 a2
        subst a1; cases h1
        rw [Gh.put_same] at e1; cases e1
        rw [Gh.put_other _ _ _ _ (fun h => a2 h.1.symm)] at e2
        rw [hLb] at b1; simp at b1; subst b1
        have := h.live_lt ⟨k2, o2, L2, h2, e2, b2⟩
        omega
      · rename_i a1 a2
        subst a2; cases h2
        rw [Gh.put_same] at e2; cases e2
        rw [Gh.put_other _ _ _ _ (fun h => a1 h.1.symm)] at e1
        rw [hLb] at b2; simp at b2; subst b2
        have := h.live_lt ⟨k1, o1, L1, h1, e1, b1⟩
        omega
      · rename_i a1 a2
        rw [Gh.put_other _ _ _ _ (fun h => a1 h.1.symm)] at e1
        rw [Gh.put_other _ _ _ _ (fun h => a2 h.1.symm)] at e2
        exact h.sep k1 k2 o1 o2 L1 L2 b h1 h2 e1 e2 b1 b2
    own := fun b hb => by
      rcases hlive b hb with rfl | hb
      · exact .inr h.size
      · exact h.own b hb
    fin := by
      obtain ⟨N, hN⟩ := h.fin
      refine ⟨max N (ver + 1), fun k' v' hv' => ?_⟩
      rw [Gh.put_other]
      · exact hN k' v' (by omega)
      · rintro ⟨_, rfl⟩; omega
    os := h.os
    tape := h.tape
    output := h.output
    size := by simp; have := h.size; omega
    keep := fun b hb hn => by rw [hold b (Nat.lt_of_lt_of_le hb h.size)]; exact h.keep b hb hn
    fz := fun a ha => h.fz a (froz_alloc hcold a ha) }
/-- A map is written. -/
theorem MemSim.writeM (h : MemSim B G w σ) {k : Key} {ver : Nat} {y y' : AB} {L : Loc} {b : Nat} {es : Array MapEntry} {clock : Nat} (hk : sget σ k = some ⟨ver, y⟩) (hL : G.io k ver = some L) (hb : L.blk = some b) (hy : BodyRep G (setM w b es clock) L y') :
    MemSim B G (setM w b es clock) (sset σ k ⟨ver, y'⟩) := by
  have hlb : Live G σ b := ⟨k, _, L, hk, hL, hb⟩
  have old : ∀ k' o, sget (sset σ k ⟨ver, y'⟩) k' = some o → ∃ o', sget σ k' = some o' ∧ o'.ver = o.ver := by
    intro k' o h'
    rw [sget_sset] at h'
    split at h'
    · rename_i e; subst e; cases h'; exact ⟨_, hk, rfl⟩
    · exact ⟨o, h', rfl⟩
  have hlive : ∀ b', Live G (sset σ k ⟨ver, y'⟩) b' → Live G σ b' := by
    rintro b' ⟨k', o, L', hk', hL', hb'⟩
    obtain ⟨o', h1, h2⟩ := old k' o hk'
    exact ⟨k', o', L', h1, h2 ▸ hL', hb'⟩
  exact
  { hF := fun b' o u hf => by
      rw [rdm_setM_other (fun e => by subst e; rw [h.sepF _ hlb] at hf; cases hf)]
      exact h.hF b' o u hf
    hF0 := h.hF0
    obj := fun k' o hk' => by
      rw [sget_sset] at hk'
      split at hk'
      · rename_i e; subst e; cases hk'
        exact ⟨L, hL, hy⟩
      · rename_i e
        obtain ⟨L', hL', hr⟩ := h.obj k' o hk'
        refine ⟨L', hL', hr.mono (Gh.le_refl G) (fun b' hb' => setM_other ?_)⟩
        rintro rfl
        exact e (h.sep k k' _ o L L' b' hk hk' hL hL' hb hb')
    sepF := fun b' hb' o => h.sepF b' (hlive b' hb') o
    sep := fun k1 k2 o1 o2 L1 L2 b' h1 h2 e1 e2 b1 b2 => by
      obtain ⟨p1, q1, r1⟩ := old k1 o1 h1
      obtain ⟨p2, q2, r2⟩ := old k2 o2 h2
      exact h.sep k1 k2 p1 p2 L1 L2 b' q1 q2 (r1 ▸ e1) (r2 ▸ e2) b1 b2
    own := fun b' hb' => h.own b' (hlive b' hb')
    fin := h.fin
    os := h.os
    tape := h.tape
    output := h.output
    size := by simp [setM]; exact h.size
    fz := fun a ha => h.fz a (froz_setM a ha)
    keep := fun b' hb' hn => by
      rw [setM_other (fun e => by
        subst e
        rcases h.own _ hlb with h1 | h1
        · exact hn h1
        · omega)]
      exact h.keep b' hb' hn }
theorem Keeps.setM {S : Nat → Prop} {b : Nat} (hS : S b) (w : World) (es : Array MapEntry) (clock : Nat) : Keeps S w (setM w b es clock) :=
  ⟨rfl, rfl, rfl, by simp [Am.setM], fun k _ hn => setM_other (fun e => hn (e ▸ hS)), froz_setM⟩

/-! ### Keys -/
theorem kdOf_basic {t : TypeId} {d : TypeDesc} (hd : P.underlying t = some d) (hb : isBasic P t = true) : d = .bool ∨ (∃ q, d = .int q) ∨ d = .string := by
  unfold isBasic at hb
  rw [hd] at hb
  split at hb
  · rename_i e; cases e; exact .inr (.inl ⟨_, rfl⟩)
  · rename_i e; cases e; exact .inr (.inr rfl)
  · rename_i e; cases e; exact .inl rfl
  · cases hb
/-- The kinds of keys. -/
theorem kdOf_cases {t : TypeId} {n : Nat} (h : kdOf P t = some n) :
    (n = 0 ∧ P.underlying t = some .bool ∧ eqTOf P t = .bool) ∨ (n = 1 ∧ ∃ q, P.underlying t = some (.int q)) ∨ (n = 2 ∧ P.underlying t = some .string) ∨
      ∃ m fs ls, n = m + 3 ∧ P.underlying t = some (.struct fs) ∧ eqTOf P t = .agg ls ∧ szOf P t = some m ∧ ∀ f ∈ fs, isBasic P f.type = true ∧ f.offset < m := by
  unfold kdOf at h
  split at h
  · rename_i hu; cases h; exact .inl ⟨rfl, hu, by simp [eqTOf, hu]⟩
  · rename_i q hu; cases h; exact .inr (.inl ⟨rfl, q, hu⟩)
  · rename_i hu; cases h; exact .inr (.inr (.inl ⟨rfl, hu⟩))
  · rename_i fs hu
    split at h
    · rename_i ls m he hs
      split at h
      · rename_i hall
        cases h
        refine .inr (.inr (.inr ⟨m, fs, ls, rfl, hu, he, hs, fun f hf => ?_⟩))
        have := List.all_eq_true.1 hall f (by simpa using hf)
        simpa using this
      · cases h
    · cases h
  · cases h
theorem abin_eql_b {x y : AV} {e : EqT} {r : Bool} (h : abin .eql e x y = some (.b r)) :
    (∃ k a b, x = .i k a ∧ y = .i k b ∧ r = (a == b)) ∨ (∃ a b, x = .s a ∧ y = .s b ∧ r = (a.toList == b.toList)) ∨ (∃ a b, x = .b a ∧ y = .b b ∧ r = (a == b)) ∨ (∃ xs ys ls, x = .ag xs ∧ y = .ag ys ∧ e = .agg ls ∧ aeqL xs ys ls = some r) ∨ (x.cells ≠ none ∧ ∀ n, akok n x = false) := by
  cases x <;> cases y <;> simp only [abin, reduceCtorEq] at h <;> try (cases h; done)
  all_goals first
    | (right; right; left; split at h <;> simp [aeqn] at h; exact ⟨_, _, rfl, rfl, h.symm⟩)
    | (left; split at h
       · rename_i e; subst e; simp [abinI] at h; exact ⟨_, _, _, rfl, rfl, h.symm⟩
       · cases h)
    | (right; left; simp [abinS] at h; exact ⟨_, _, rfl, rfl, h.symm⟩)
    | (right; right; right; left; split at h <;> try (cases h; done)
       obtain ⟨r', h1, h2⟩ := Option.bind_eq_some_iff.1 h
       simp [aeqn] at h2; subst h2
       exact ⟨_, _, _, rfl, rfl, rfl, h1⟩)
    | (refine .inr (.inr (.inr (.inr ⟨?_, fun n => ?_⟩)))
       · simp [AV.cells]
       · unfold akok; split <;> simp_all)

theorem bytes_loop (s : ByteArray) : ∀ (n i : Nat) (r : List UInt8), s.size - i = n → ByteArray.toList.loop s i r = r.reverse ++ s.data.toList.drop i
  | 0, i, r, h => by
    unfold ByteArray.toList.loop
    have hsz : s.data.toList.length = s.size := rfl
    rw [if_neg (by omega), List.drop_eq_nil_of_le (by omega)]
    simp
  | n + 1, i, r, h => by
    unfold ByteArray.toList.loop
    have hi : i < s.size := by omega
    rw [if_pos hi, bytes_loop s n (i + 1) _ (by omega)]
    have hl : i < s.data.toList.length := by simpa using hi
    rw [List.drop_eq_getElem_cons hl]
    have : s.get! i = s.data.toList[i] := by
      have h2 : i < s.data.size := hi
      simp only [ByteArray.get!, Array.getElem_toList]
      exact getElem!_pos s.data i h2
    simp [this]
theorem bytes_toList (s : ByteArray) : s.toList = s.data.toList := by
  unfold ByteArray.toList
  rw [bytes_loop s _ 0 [] rfl]
  simp
theorem beq_toList (a b : ByteArray) : (a == b) = (a.toList == b.toList) := by
  rw [bytes_toList, bytes_toList]
  have e : (a == b) = (a.data == b.data) := by cases a; cases b; rfl
  rw [e]
  by_cases h : a.data = b.data
  · rw [h]; simp
  · have h1 : ¬ a.data.toList = b.data.toList := fun e => h (Array.toList_inj.1 e)
    rw [beq_eq_false_iff_ne.2 h1, beq_eq_false_iff_ne.2 h]
theorem akok_kind {n : Nat} {x : AV} (h : akok n x = true) : (n = 0 ∧ ∃ a, x = .b a) ∨ (n = 1 ∧ ∃ k a, x = .i k a) ∨ (n = 2 ∧ ∃ a, x = .s a) ∨ ∃ m xs, n = m + 3 ∧ x = .ag xs ∧ xs.length = m := by
  unfold akok at h
  split at h
  · exact .inl ⟨rfl, _, rfl⟩
  · exact .inr (.inl ⟨rfl, _, _, rfl⟩)
  · exact .inr (.inr (.inl ⟨rfl, _, rfl⟩))
  · exact .inr (.inr (.inr ⟨_, _, rfl, rfl, by simpa using h⟩))
  · cases h
/-- Entries that stand for keys and values. -/
structure MapAt (G : Gh) (es : List MapEntry) (ks vs : List AV) : Prop where
  k : ks.length = es.length
  v : vs.length = es.length
  hk : ∀ (j : Nat) (x : AV) (e : MapEntry), ks[j]? = some x → es[j]? = some e → ARep G x e.key
  hv : ∀ (j : Nat) (x : AV) (e : MapEntry), vs[j]? = some x → es[j]? = some e → ARep G x e.val
def Fnd (i : Nat) (x : AV) (es : List MapEntry) (ks : List AV) : Option Nat → Option (Nat × Value) → Prop
  | none, r => r = none
  | some j, r => ∃ y e, i ≤ j ∧ ks[j - i]? = some y ∧ es[j - i]? = some e ∧ r = some (j, e.val) ∧ akeq y x = true
theorem Fnd.tail {i : Nat} {x y : AV} {e : MapEntry} {es : List MapEntry} {ks : List AV} {o : Option Nat} {r : Option (Nat × Value)} (h : Fnd (i + 1) x es ks o r) : Fnd i x (e :: es) (y :: ks) o r := by
  cases o with
  | none => exact h
  | some j =>
    obtain ⟨y', e', h1, h2, h3, h4, h5⟩ := h
    have : j - i = (j - (i + 1)) + 1 := by omega
    exact ⟨y', e', by omega, by rw [this]; simpa using h2, by rw [this]; simpa using h3, h4, h5⟩
/-- The search, one entry after the other. -/
theorem find_go {x : AV} {e : EqT} (s : MapEntry → Option Bool → Prop) (go : Nat → List MapEntry → Option (Nat × Value) → Prop) (h0 : ∀ i, go i [] none)
    (h1 : ∀ i a r, s a (some true) → go i (a :: r) (some (i, a.val))) (h2 : ∀ i a r o, s a (some false) → go (i + 1) r o → go i (a :: r) o) (hs : ∀ (y : AV) (a : MapEntry) (b : Bool), ARep G y a.key → abin .eql e x y = some (.b b) → s a (some b)) :
    ∀ (es : List MapEntry) (ks : List AV) (i : Nat) (o : Option Nat), ks.length = es.length → (∀ (j : Nat) (x : AV) (e : MapEntry), ks[j]? = some x → es[j]? = some e → ARep G x e.key) → amfind e x ks i = some o → ∃ r, go i es r ∧ Fnd i x es ks o r
  | [], [], i, o, _, _, h => by simp [amfind] at h; subst h; exact ⟨none, h0 i, rfl⟩
  | a :: es, y :: ks, i, o, hl, hk, h => by
    simp only [amfind] at h
    have hy := hk 0 y a rfl rfl
    split at h
    · rename_i hb
      split at h
      · rename_i hq
        cases h
        exact ⟨_, h1 i a es (hs y a true hy hb), y, a, Nat.le_refl _, by simp, by simp, rfl, hq⟩
      · cases h
    · rename_i hb
      obtain ⟨r, g1, g2⟩ := find_go s go h0 h1 h2 hs es ks (i + 1) o (by simpa using hl) (fun j x e a b => hk (j + 1) x e (by simpa using a) (by simpa using b)) h
      exact ⟨r, h2 i a es r (hs y a false hy hb) g1, g2.tail⟩
    · cases h
  | [], _ :: _, _, _, hl, _, _ => by simp at hl
  | _ :: _, [], _, _, hl, _, _ => by simp at hl
/-- A key is found, or not, where 'amfind' says. -/
theorem find_run {kt : TypeId} {n : Nat} {x : AV} {u : Value} {es : Array MapEntry} {ks : List AV} {o : Option Nat} (hn : kdOf P kt = some n) (hx : ARep G x u) (ho : akok n x = true) (hl : ks.length = es.size)
    (hk : ∀ (j : Nat) (x : AV) (e : MapEntry), ks[j]? = some x → es[j]? = some e → ARep G x e.key) (h : amfind (eqTOf P kt) x ks 0 = some o) :
    ∃ r, (Instr.findKey kt u es.toList).run P w = .ok r w ∧ Fnd 0 x es.toList ks o r := by
  have hk' : ∀ (j : Nat) (x : AV) (e : MapEntry), ks[j]? = some x → es.toList[j]? = some e → ARep G x e.key := fun j x e a b => hk j x e a (by simpa using b)
  have basic : ∀ d, P.underlying kt = some d → (∀ (y : AV) (a : MapEntry) (b : Bool), ARep G y a.key → abin .eql (eqTOf P kt) x y = some (.b b) → Instr.sameNow d u a.key = some b) →
      ∃ r, (Instr.findKey kt u es.toList).run P w = .ok r w ∧ Fnd 0 x es.toList ks o r := by
    intro d hd hs
    obtain ⟨r, g1, g2⟩ := find_go (G := G) (x := x) (fun a b => Instr.sameNow d u a.key = b) (fun i l r => Instr.findNow d u l i = some r) (fun i => rfl) (fun i a r h => by simp [Instr.findNow, h]) (fun i a r o h1 h2 => by simp [Instr.findNow, h1, h2]) hs es.toList ks 0 o (by simpa using hl) hk' h
    exact ⟨r, by simp [Instr.findKey, run_underlying hd, g1], g2⟩
  rcases kdOf_cases hn with ⟨rfl, hu, he⟩ | ⟨rfl, q, hu⟩ | ⟨rfl, hu⟩ | ⟨m, fs, ls, rfl, hu, he, hsz, hf⟩
  · rcases akok_kind ho with ⟨_, c, rfl⟩ | ⟨h, _⟩ | ⟨h, _⟩ | ⟨_, _, h, _⟩ <;> try omega
    cases hx
    refine basic _ hu fun y a b hy hb => ?_
    rcases abin_eql_b hb with ⟨_, _, _, e, _⟩ | ⟨_, _, e, _⟩ | ⟨c', d, e, rfl, rfl⟩ | ⟨_, _, _, e, _⟩ | ⟨_, e⟩ <;> try (cases e; done)
    · cases e; generalize a.key = kv at hy; cases hy; rfl
    · exact absurd ho (by simp [e 0])
  · rcases akok_kind ho with ⟨h, _⟩ | ⟨_, k, c, rfl⟩ | ⟨h, _⟩ | ⟨_, _, h, _⟩ <;> try omega
    cases hx
    refine basic _ hu fun y a b hy hb => ?_
    rcases abin_eql_b hb with ⟨_, _, d, e, rfl, rfl⟩ | ⟨_, _, e, _⟩ | ⟨_, _, e, _⟩ | ⟨_, _, _, e, _⟩ | ⟨_, e⟩ <;> try (cases e; done)
    · cases e; generalize a.key = kv at hy; cases hy; simp [Instr.sameNow]
    · exact absurd ho (by simp [e 1])
  · rcases akok_kind ho with ⟨h, _⟩ | ⟨h, _⟩ | ⟨_, c, rfl⟩ | ⟨_, _, h, _⟩ <;> try omega
    cases hx
    refine basic _ hu fun y a b hy hb => ?_
    rcases abin_eql_b hb with ⟨_, _, d, e, _⟩ | ⟨_, d, e, rfl, rfl⟩ | ⟨_, _, e, _⟩ | ⟨_, _, _, e, _⟩ | ⟨_, e⟩ <;> try (cases e; done)
    · cases e; generalize a.key = kv at hy; cases hy; simp [Instr.sameNow, beq_toList]
    · exact absurd ho (by simp [e 2])
  · rcases akok_kind ho with ⟨h, _⟩ | ⟨h, _⟩ | ⟨h, _⟩ | ⟨m', xs, h, rfl, hxl⟩ <;> try omega
    obtain ⟨us, rfl, hxs⟩ := arep_ag_inv hx
    obtain ⟨hg, hl1, ha⟩ := eqTOf_agg he
    have step : ∀ (y : AV) (a : MapEntry) (b : Bool), ARep G y a.key → abin .eql (eqTOf P kt) (.ag xs) y = some (.b b) → (Op.equal kt (.agg us.toArray) a.key).run P w = .ok b w := by
      intro y a b hy hb
      rcases abin_eql_b hb with ⟨_, _, d, e, _⟩ | ⟨_, d, e, _⟩ | ⟨_, _, e, _⟩ | ⟨xs', ys, ls', e, rfl, h2, h3⟩ | ⟨_, e⟩ <;> try (cases e; done)
      · cases e
        obtain ⟨ws, hw, hys⟩ := arep_ag_inv hy
        rw [hw]
        rw [he] at h2; cases h2
        exact equal_of fun d hd => (run_equalIn_leaves 50 (d + 1) (by omega) kt ls _ _ us ws b true .bot .bot hl1 hxs hys h3 ha).1 rfl
      · exact absurd ho (by simp [e (m + 3)])
    obtain ⟨r, g1, g2⟩ := find_go (G := G) (x := .ag xs) (fun a b => ∀ c, b = some c → (Op.equal kt (.agg us.toArray) a.key).run P w = .ok c w) (fun i l r => (Instr.findAsking kt (.agg us.toArray) l i).run P w = .ok r w) (fun i => by simp [Instr.findAsking])
      (fun i a r h => by simp [Instr.findAsking, h true rfl]) (fun i a r o h1 h2 => by simp [Instr.findAsking, h1 false rfl, h2]) (fun y a b hy hb c hc => by cases hc; exact step y a b hy hb) es.toList ks 0 o (by simpa using hl) hk' h
    refine ⟨r, ?_, g2⟩
    cases hes : es.toList with
    | nil =>
      rw [hes] at g1
      simp [Instr.findAsking] at g1
      simp [Instr.findKey, run_underlying hu, Instr.findNow, g1]
    | cons a es' =>
      rw [hes] at g1
      simp only [Instr.findKey, Sem.run_bind, run_underlying hu, Result.andThen_ok, Instr.findNow, Instr.sameNow]
      exact g1

theorem check_basic {t : TypeId} (hb : isBasic P t = true) (em : Bool) (d : Nat) (u : Value) : (Instr.checkKey em (d + 1) t u).run P w = .ok () w := by
  unfold isBasic at hb
  split at hb
  · rename_i q hu; simp [Instr.checkKey, run_underlying hu]
  · rename_i hu; simp [Instr.checkKey, run_underlying hu]
  · rename_i hu; simp [Instr.checkKey, run_underlying hu]
  · cases hb
theorem isBasic_agg {t : TypeId} (hb : isBasic P t = true) : aggT P t = some false := by
  unfold isBasic at hb
  split at hb
  · rename_i q hu; simp [aggT, hu]
  · rename_i hu; simp [aggT, hu]
  · rename_i hu; simp [aggT, hu]
  · cases hb
theorem check_run {kt : TypeId} {n : Nat} {x : AV} {u : Value} (hn : kdOf P kt = some n) (hx : ARep G x u) (ho : akok n x = true) (em : Bool) : (Instr.checkKey em 10000 kt u).run P w = .ok () w := by
  rcases kdOf_cases hn with ⟨rfl, hu, he⟩ | ⟨rfl, q, hu⟩ | ⟨rfl, hu⟩ | ⟨m, fs, ls, rfl, hu, he, hsz, hf⟩
  · exact check_basic (by simp [isBasic, hu]) em 9999 u
  · exact check_basic (by simp [isBasic, hu]) em 9999 u
  · exact check_basic (by simp [isBasic, hu]) em 9999 u
  · rcases akok_kind ho with ⟨h, _⟩ | ⟨h, _⟩ | ⟨h, _⟩ | ⟨m', xs, h, rfl, hxl⟩ <;> try omega
    obtain ⟨us, rfl, hxs⟩ := arep_ag_inv hx
    have hus : us.length = m := by rw [← hxs.1]; omega
    suffices h : ∀ D, (Instr.checkKey em (D + 1 + 1) kt (.agg us.toArray)).run P w = .ok () w from h 9998
    intro D
    rw [Instr.checkKey]
    simp only [Sem.run_bind, run_underlying hu, Result.andThen_ok]
    rw [← Array.forIn_toList]
    have hf' : ∀ f ∈ fs.toList, isBasic P f.type = true ∧ f.offset < m := fun f h => hf f (by simpa using h)
    generalize fs.toList = l at hf'
    induction l with
    | nil => simp
    | cons f l ih =>
      obtain ⟨h1, h2⟩ := hf' f List.mem_cons_self
      have ih := ih (fun g hg => hf' g (List.mem_cons_of_mem _ hg))
      have hlt : f.offset < us.length := by omega
      have hp : (part f.type us.toArray f.offset).run P w = .ok us[f.offset] w := by
        simp [part, run_aggT (isBasic_agg h1), hlt]
      simp only [List.forIn_cons, Sem.run_bind]
      by_cases hname : f.name = "_"
      · simp only [hname, ne_eq, not_true_eq_false, if_false, Sem.run_pure, Result.andThen_ok]
        exact ih
      · simp only [ne_eq, hname, not_false_eq_true, if_true, Sem.run_bind, hp, Result.andThen_ok, check_basic h1 em D, Sem.run_pure]
        exact ih
theorem same1 {x y : AV} {u v : Value} (hx : ARep G x u) (hy : ARep G y v) (h : akeq1 x y = true) (d : Nat) : Instr.sameBits d u v = true := by
  unfold akeq1 at h
  split at h
  · cases hx; cases hy; cases d <;> simpa [Instr.sameBits] using h
  · cases hx; cases hy
    simp only [Bool.and_eq_true, decide_eq_true_eq, beq_iff_eq] at h
    obtain ⟨rfl, rfl⟩ := h
    cases d <;> simp [Instr.sameBits]
  · cases hx; cases hy; cases d <;> simpa [Instr.sameBits] using h
  · cases h
theorem sameL : ∀ {xs ys : List AV} {us vs : List Value}, AReps G xs us → AReps G ys vs → akeqL xs ys = true → ∀ d, us.length = vs.length ∧ (us.zip vs).all (fun (p : Value × Value) => Instr.sameBits d p.1 p.2) = true
  | [], [], us, vs, hx, hy, h, d => by
    have h1 := hx.1; have h2 := hy.1
    simp at h1 h2
    have : us = [] := List.eq_nil_of_length_eq_zero h1.symm
    have : vs = [] := List.eq_nil_of_length_eq_zero h2.symm
    subst us; subst vs; simp
  | x :: xs, y :: ys, u :: us, v :: vs, hx, hy, h, d => by
    simp only [akeqL, Bool.and_eq_true] at h
    obtain ⟨h1, h2⟩ := sameL (xs := xs) (ys := ys) (us := us) (vs := vs) ⟨by simpa using hx.1, fun j a b p q => hx.2 (j + 1) a b (by simpa using p) (by simpa using q)⟩ ⟨by simpa using hy.1, fun j a b p q => hy.2 (j + 1) a b (by simpa using p) (by simpa using q)⟩ h.2 d
    refine ⟨by simp [h1], ?_⟩
    simp only [List.zip_cons_cons, List.all_cons, Bool.and_eq_true]
    exact ⟨same1 (hx.2 0 x u rfl rfl) (hy.2 0 y v rfl rfl) h.1 d, h2⟩
  | [], _ :: _, _, _, _, _, h, _ => by simp [akeqL] at h
  | _ :: _, [], _, _, _, _, h, _ => by simp [akeqL] at h
  | x :: xs, y :: ys, [], _, hx, _, _, _ => absurd hx.1 (by simp)
  | x :: xs, y :: ys, _ :: _, [], _, hy, _, _ => absurd hy.1 (by simp)
theorem stays_run {x y : AV} {u v : Value} (hx : ARep G x u) (hy : ARep G y v) (h : akeq x y = true) : (Instr.keyThatStays u v).run P w = .ok v w := by
  have hs : Instr.sameBits 10000 u v = true := by
    unfold akeq at h
    split at h
    · obtain ⟨us, rfl, h1⟩ := arep_ag_inv hx
      obtain ⟨vs, rfl, h2⟩ := arep_ag_inv hy
      obtain ⟨e1, e2⟩ := sameL h1 h2 h 9999
      simp only [Instr.sameBits, Bool.and_eq_true]
      exact ⟨by simpa using e1, by simpa using e2⟩
    · exact same1 hx hy h _
  simp [Instr.keyThatStays, hs]

theorem amap_spec {m : AV} {u : Value} {ks vs : List AV} {rd : List Key} (hm : MemSim B G w σ) (h : amap σ m = some (ks, vs, rd)) (hr : ARep G m u) :
    (u = .map none ∧ ks = [] ∧ vs = []) ∨ ∃ b es clock, u = .map (some b) ∧ w.heap[b]? = some (.map es clock) ∧ ks.length = es.size ∧ vs.length = es.size ∧
      (∀ (j : Nat) (x : AV) (e : MapEntry), ks[j]? = some x → es[j]? = some e → ARep G x e.key) ∧ (∀ (j : Nat) (x : AV) (e : MapEntry), vs[j]? = some x → es[j]? = some e → ARep G x e.val) := by
  unfold amap at h
  split at h
  · cases h; cases hr; exact .inl ⟨rfl, rfl, rfl⟩
  · cases h
    cases hr with
    | mp _ _ b es us ws hF hk hv he hr hs =>
      obtain ⟨es', clock, h1, h2, h3⟩ := rdm_map (hm.hF _ _ _ hF)
      have get : ∀ (j : Nat) (e' : MapEntry), es'[j]? = some e' → e'.key = us j ∧ e'.val = ws j := fun j e' hj => by
        have hl : j < es.size := by rw [← h2]; exact (Array.getElem?_eq_some_iff.1 hj).1
        have hj' : es[j]? = some es[j] := by simp [hl]
        obtain ⟨e2, g1, g2, g3⟩ := h3 j _ hj'
        rw [hj] at g1; cases g1
        obtain ⟨p1, p2⟩ := he j _ hj'
        exact ⟨g2.trans p1, g3.trans p2⟩
      refine .inr ⟨b, es', clock, rfl, h1, by omega, by omega, fun j x e a c => ?_, fun j x e a c => ?_⟩
      · rw [(get j e c).1]; exact hr j x a
      · rw [(get j e c).2]; exact hs j x a
  · rename_i q qv
    split at h
    · rename_i qv' ks' vs' hk
      split at h
      · rename_i e
        subst e
        cases h
        cases hr with
        | mpr _ _ L b hL hb =>
          obtain ⟨L', hL', b', es, clock, e1, e2, e3, e4, e5, e6⟩ := hm.obj q _ hk
          rw [hL] at hL'; cases hL'
          rw [hb] at e1; cases e1
          exact .inr ⟨b, es, clock, rfl, e2, e3, e4, e5, e6⟩
      · cases h
    · cases h
  · cases h
theorem res_lenm {t kt et : TypeId} {x : Operand} {x' : X} {c : Call} {ks vs : List AV} {rd : List Key} (hm : MemSim B G w σ) (hρ : Opnds G fr ρ) (ho : o.op = .call c) (hc : c = { callee := .builtin .len, args := #[x], argTypes := #[t] })
    (ht : P.underlying t = some (.map kt et)) (hx : lowX x = some x') (hv : amap σ (aev fr x') = some (ks, vs, rd)) : Res B G w σ ver ((execOp ρ o).run P w) (.i .i64 ks.length) [] := by
  subst hc
  rcases amap_spec hm hv (hρ x x' hx) with ⟨hu, rfl, rfl⟩ | ⟨b, es, clock, hu, hb, h1, _⟩
  · exact Res.val hm (by simp [execOp, ho, resolve, invoke, builtin, Builtin.len_, run_underlying ht, hu, goInt]) (.i _ _)
  · rw [h1]
    exact Res.val hm (by simp [execOp, ho, resolve, invoke, builtin, Builtin.len_, run_underlying ht, hu, run_getM hb, goInt]) (.i _ _)
theorem zeroV_spec {t : TypeId} {z : AV} (h : zeroV P t = some z) : ∃ zv : Value, (zeroValue t).run P w = .ok zv w ∧ ARep G z zv := by
  unfold zeroV at h
  split at h
  · rename_i i hi
    obtain ⟨zv, hz, h⟩ := Option.bind_eq_some_iff.1 h
    exact ⟨zv, by simp [zeroValue, typeInfo, hi, hz], arep_ofV G h⟩
  · cases h
theorem res_lookup {t kt et : TypeId} {m k : Operand} {m' k' : X} {n : Nat} {z : AV} {ok : Bool} {rd : List Key} (hm : MemSim B G w σ) (hρ : Opnds G fr ρ) (ho : o.op = .lookup t m k ok) (ht : P.underlying t = some (.map kt et)) (hn : kdOf P kt = some n) (hz : zeroV P et = some z)
    (hx : lowX m = some m') (hk : lowX k = some k') (hv : alookup σ (eqTOf P kt) n z ok (aev fr m') (aev fr k') = some (v, rd)) : Res B G w σ ver ((execOp ρ o).run P w) v [] := by
  have h1 := hρ m m' hx
  have h2 := hρ k k' hk
  generalize aev fr m' = mv at hv h1
  generalize aev fr k' = kv at hv h2
  obtain ⟨zv, hzr, hzz⟩ := zeroV_spec (P := P) (G := G) (w := w) hz
  unfold alookup at hv
  split at hv
  · rename_i ks vs rd' ha
    split at hv
    · rename_i hok
      obtain ⟨⟨pv, pb⟩, hp, he⟩ := Option.map_eq_some_iff.1 hv
      cases he
      have fin : ∀ u : Value, ARep G pv u → (execOp ρ o).run P w = .ok (.value (if ok then .tuple #[u, .bool pb] else u)) w → Res B G w σ ver ((execOp ρ o).run P w) (if ok then .tu [pv, .b pb] else pv) [] := by
        intro u hu hrun
        refine Res.val hm hrun ?_
        cases ok
        · exact hu
        · exact arep_tu (us := [u, .bool pb]) (((AReps.nil G).cons (.b pb)).cons hu)
      rcases amap_spec hm ha h1 with ⟨hu, rfl, rfl⟩ | ⟨b, es, clock, hu, hb, e1, e2, e3, e4⟩
      · simp only [amlook, amfind, Option.some.injEq, Prod.mk.injEq] at hp
        obtain ⟨rfl, rfl⟩ := hp
        have hf : (Instr.findKey kt (ρ k) (#[] : Array MapEntry).toList).run P w = .ok none w := by
          obtain ⟨r, g1, g2⟩ := find_run (P := P) (w := w) (es := #[]) (ks := []) (o := none) hn h2 hok rfl (fun j x e a => by simp at a) (by simp [amfind])
          rw [g1, show r = none from g2]
        refine fin zv hzz ?_
        simp only [Array.toList_empty] at hf
        simp [execOp, ho, Instr.lookup, run_underlying ht, hu, check_run hn h2 hok, hf, hzr]
      · unfold amlook at hp
        split at hp
        · rename_i j hj
          obtain ⟨xx, hxj, hp⟩ := Option.map_eq_some_iff.1 hp
          cases hp
          obtain ⟨r, g1, y, e, g2, g3, g4, rfl, g5⟩ := find_run (P := P) (w := w) hn h2 hok e1 e3 hj
          simp only [Nat.sub_zero] at g3 g4
          have hej : es[j]? = some e := by simpa using g4
          refine fin e.val (e4 j _ e hxj hej) ?_
          simp [execOp, ho, Instr.lookup, run_underlying ht, hu, run_getM hb, check_run hn h2 hok, g1]
        · rename_i hj
          cases hp
          obtain ⟨r, g1, g2⟩ := find_run (P := P) (w := w) hn h2 hok e1 e3 hj
          cases (show r = none from g2)
          refine fin zv hzz ?_
          simp [execOp, ho, Instr.lookup, run_underlying ht, hu, run_getM hb, check_run hn h2 hok, g1, hzr]
        · cases hp
    · cases hv
  · cases hv
theorem res_mkmap {t : TypeId} (hm : MemSim B G w σ) (hv : ∀ k, G.io k ver = none) (ho : o.op = .makeMap t none) : Res B G w σ ver ((execOp ρ o).run P w) (.mpr key ver) [(key, ⟨ver, .map [] []⟩)] := by
  have hr : (execOp ρ o).run P w = .ok (.value (.map (some w.heap.size))) (w.alloc (.map #[] 0)) := by
    simp [execOp, ho, Instr.makeMap]
  have hnew : (w.alloc (.map #[] 0)).heap[w.heap.size]? = some (.map #[] 0) := by show (w.heap.push _)[w.heap.size]? = _; simp
  refine ⟨_, G.put key ver ⟨some w.heap.size, 0, 0⟩, _, .inl hr, Gh.le_put (hv key), fun k n hn => Gh.put_other _ _ _ _ (fun h => hn h.2), Keeps.alloc _ _ _, ?_, .mpr key ver _ _ (Gh.put_same _ _ _ _) rfl⟩
  exact hm.newB (hv key) _ _ _ rfl ⟨_, _, _, rfl, hnew, rfl, rfl, fun j x e h => by simp at h, fun j x e h => by simp at h⟩
theorem res_mapup {t kt et : TypeId} {m k x : Operand} {m' k' x' : X} {n : Nat} {rd : List Key} {wr : List (Key × AO)} (hm : MemSim B G w σ) (hρ : Opnds G fr ρ) (ho : o.op = .mapUpdate t m k x) (ht : P.underlying t = some (.map kt et)) (hn : kdOf P kt = some n)
    (hm' : lowX m = some m') (hk' : lowX k = some k') (hx' : lowX x = some x') (hv : amapup σ (eqTOf P kt) n (aev fr m') (aev fr k') (aev fr x') = some (v, rd, wr)) : Res B G w σ ver ((execOp ρ o).run P w) v wr := by
  have h1 := hρ m m' hm'
  have h2 := hρ k k' hk'
  have h3 := hρ x x' hx'
  generalize aev fr m' = mv at hv h1
  generalize aev fr k' = kv at hv h2
  generalize aev fr x' = xv at hv h3
  unfold amapup at hv
  split at hv
  · rename_i q qv
    split at hv
    · rename_i qv' ks vs hq
      split at hv
      · rename_i hc
        obtain ⟨rfl, hok⟩ := hc
        generalize hu : ρ m = mu at h1
        cases h1 with
        | mpr _ _ L b hL hb =>
          obtain ⟨L', hL', b', es, clock, e1, e2, e3, e4, e5, e6⟩ := hm.obj q _ hq
          rw [hL] at hL'; cases hL'
          rw [hb] at e1; cases e1
          have hbl : b < w.heap.size := (Array.getElem?_eq_some_iff.1 e2).1
          have hlb : Live G σ b := ⟨q, _, L, hq, hL, hb⟩
          split at hv
          · rename_i j hj
            cases hv
            obtain ⟨r, g1, y, e, g2, g3, g4, rfl, g5⟩ := find_run (P := P) (w := w) hn h2 hok e3 e5 hj
            simp only [Nat.sub_zero] at g3 g4
            have hej : es[j]? = some e := by simpa using g4
            have hst := stays_run (P := P) (w := w) (e5 j y e g3 hej) h2 g5
            have hr : (execOp ρ o).run P w = .ok .skip (setM w b (es.modify j fun e => { e with key := ρ k, val := ρ x }) clock) := by
              simp [execOp, ho, Instr.mapUpdate, run_underlying ht, hu, run_getM e2, check_run hn h2 hok, g1, hej, hst, run_setM e2]
            refine ⟨undef, G, _, .inr ⟨hr, rfl⟩, Gh.le_refl G, fun _ _ _ => rfl, Keeps.setM hlb _ _ _, ?_, .bot _⟩
            refine hm.writeM hq hL hb ⟨b, _, clock, hb, setM_same hbl, by simpa using e3, by simpa using e4, fun i a c p q => ?_, fun i a c p q => ?_⟩
            all_goals
              rw [Array.getElem?_modify] at q
              rw [List.getElem?_set] at p
              by_cases hij : j = i
              · subst hij
                rw [if_pos rfl, hej] at q
                simp only [Option.map_some, Option.some.injEq] at q
                rw [if_pos rfl] at p
                split at p
                · cases p; subst q; assumption
                · cases p
              · rw [if_neg hij] at p q
                first | exact e5 i a c p q | exact e6 i a c p q
          · rename_i hj
            cases hv
            obtain ⟨r, g1, g2⟩ := find_run (P := P) (w := w) hn h2 hok e3 e5 hj
            cases (show r = none from g2)
            have hr : (execOp ρ o).run P w = .ok .skip (setM w b (es.push { key := ρ k, val := ρ x, born := clock }) (clock + 1)) := by
              simp [execOp, ho, Instr.mapUpdate, run_underlying ht, hu, run_getM e2, check_run hn h2 hok, g1, run_setM e2]
            refine ⟨undef, G, _, .inr ⟨hr, rfl⟩, Gh.le_refl G, fun _ _ _ => rfl, Keeps.setM hlb _ _ _, ?_, .bot _⟩
            refine hm.writeM hq hL hb ⟨b, _, clock + 1, hb, setM_same hbl, by simpa using e3, by simpa using e4, fun i a c p q => ?_, fun i a c p q => ?_⟩
            all_goals
              rw [Array.getElem?_push] at q
              rw [List.getElem?_append] at p
              split at q
              · rename_i hi
                cases q
                rw [if_neg (by omega)] at p
                have : i - es.size = 0 := by omega
                first
                | (rw [e3, this] at p; simp at p; subst p; exact h2)
                | (rw [e4, this] at p; simp at p; subst p; exact h3)
              · rename_i hi
                have hil : i < es.size := (Array.getElem?_eq_some_iff.1 q).1
                rw [if_pos (by omega)] at p
                first | exact e5 i a c p q | exact e6 i a c p q
          · cases hv
      · cases hv
    · cases hv
  · cases hv

/-! ### clear -/
theorem zeroCells_get {zc : Array Value} {n m : Nat} (h : m < n * zc.size) : (Builtin.zeroCells zc n)[m]? = some zc[m % zc.size]! := by
  unfold Builtin.zeroCells
  rw [Array.getElem?_map, Array.getElem?_range]
  simp [h]
theorem res_clear {t e : TypeId} {x : Operand} {x' : X} {c : Call} {z : List AV} {n : Nat} {rd : List Key} {wr : List (Key × AO)} (hm : MemSim B G w σ) (hρ : Opnds G fr ρ) (ho : o.op = .call c) (hc : c = { callee := .builtin .clear, args := #[x], argTypes := #[t] })
    (ht : P.underlying t = some (.slice e)) (hz : zeroOf P e = some z) (hzl : z.length = n) (hx : lowX x = some x') (hv : aclear σ n z (aev fr x') = some (v, rd, wr)) : Res B G w σ ver ((execOp ρ o).run P w) v wr := by
  have h1 := hρ x x' hx
  generalize aev fr x' = xv at hv h1
  generalize hu : ρ x = u at h1
  subst hc
  obtain ⟨zv, hzr, hzz⟩ := zeroOf_spec (G := G) (w := w) hz
  have htu : ARep G (.tu []) (.tuple #[]) := arep_tu (us := []) (AReps.nil G)
  have skip : ∀ a cap, u = .slice a 0 cap → Res B G w σ ver ((execOp ρ o).run P w) (.tu []) [] := by
    rintro a cap rfl
    refine Res.val hm (u := .tuple #[]) ?_ htu
    cases a <;> simp [execOp, ho, resolve, invoke, builtin, Builtin.clear_, run_underlying ht, hu]
  unfold aclear at hv
  split at hv
  · cases hv; cases h1; exact skip _ _ rfl
  · rename_i k kv off len
    split at hv
    · rename_i kv' esz' rs hk
      split at hv
      · rename_i h0; subst h0
        cases hv; cases h1; exact skip _ _ rfl
      · rename_i hlen
        split at hv
        · rename_i hcond
          obtain ⟨rfl, rfl, hoff, hone⟩ := hcond
          cases hv
          cases h1 with
          | row _ _ _ _ a cap L hL hR =>
            obtain ⟨r1, r2, r3⟩ := hR
            obtain ⟨b, hb, ha⟩ := r3 (by omega)
            obtain ⟨L', hL', e1, e2, e3, e4⟩ := hm.obj k _ hk
            rw [hL] at hL'; cases hL'
            rw [hb] at e4
            obtain ⟨cc, ty, hcc, hsz, hxx⟩ := e4
            subst e1
            have hzs : zv.cells.size = L.esz := by have := hzz.1; simp at this; omega
            generalize hvs : (Builtin.zeroCells zv.cells len).toList = vs
            have hvl : vs.length = len * L.esz := by rw [← hvs]; simp [size_zeroCells, hzs]
            have hle : off * L.esz + len * L.esz ≤ cc.size := by
              have : (off + len) * L.esz ≤ L.cap * L.esz := Nat.mul_le_mul_right _ (by omega)
              rw [Nat.add_mul] at this; omega
            have hvg : ∀ m, m < len * L.esz → vs[m]? = some zv.cells[m % L.esz]! := fun m hm' => by
              rw [← hvs, Array.getElem?_toList, zeroCells_get (by rw [hzs]; exact hm'), hzs]
            have hvone : ∀ u ∈ vs, u.oneCell' = true := by
              intro u hu'
              obtain ⟨m, hm1, hm2⟩ := List.getElem_of_mem hu'
              have hml : m < len * L.esz := by omega
              have h5 := hvg m hml
              rw [List.getElem?_eq_getElem hm1, hm2] at h5
              have hz0 : 0 < L.esz := by
                rcases Nat.eq_zero_or_pos L.esz with h | h
                · rw [h] at hml; omega
                · exact h
              have hmod : m % L.esz < zv.cells.size := by rw [hzs]; exact Nat.mod_lt _ hz0
              simp only [Option.some.injEq] at h5
              rw [h5, getElem!_pos zv.cells _ hmod]
              exact areps_one hzz hone _ (by simp)
            have hrun := run_storeCells_at P b (off * L.esz) ty vs 0 cc w hcc (by rw [hvl]; omega) hvone
            refine ⟨.tuple #[], G, w.setRow b (cc.toList.take (off * L.esz + 0) ++ vs ++ cc.toList.drop (off * L.esz + 0 + vs.length)).toArray, .inl ?_, Gh.le_refl G, fun _ _ _ => rfl, Keeps.setRow (Live.of_get hk hL hb) w _, ?_, htu⟩
            · subst ha
              obtain ⟨len', hn⟩ : ∃ l, len = l + 1 := ⟨len - 1, by omega⟩
              · have : (execOp ρ o).run P w = ((Builtin.clear_ #[t] o.type #[.slice (some ⟨b, off * L.esz, none⟩) len cap]) >>= fun v => pure (.value v)).run P w := by
                  simp [execOp, ho, resolve, invoke, builtin, hu]
                rw [this, hn]
                rw [hn] at hvs
                simp only [Builtin.clear_, List.getElem?_toArray, List.getElem?_cons_zero, Sem.run_bind, run_underlying ht, Result.andThen_ok, hzr, hvs, hrun, Sem.run_pure]
            · simp only [upds]
              have hlt : ∀ (q : Nat) (cs : List AV), (rs.take off ++ List.replicate len z ++ rs.drop (off + len))[q]? = some cs → (¬ (off ≤ q ∧ q < off + len) ∧ rs[q]? = some cs) ∨ (off ≤ q ∧ q < off + len ∧ cs = z) := by
                intro q cs hq
                have hsp := splice_get rs (List.replicate len z) off q (by simpa using hoff)
                rw [List.length_replicate] at hsp
                rw [hsp] at hq
                split at hq
                · exact .inl ⟨by omega, hq⟩
                · split at hq
                  · rw [List.getElem?_replicate] at hq
                    split at hq
                    · cases hq; exact .inr ⟨by omega, by omega, rfl⟩
                    · cases hq
                  · exact .inl ⟨by omega, hq⟩
              refine hm.write hk hL hb (Gh.le_refl G) rfl (fun _ _ _ => rfl) hL hm.fin hcc (by simp; omega) (fun q cs hq => ?_) ?_ (fun q cs j y hq hj => ?_)
              · rcases hlt q cs hq with ⟨_, h⟩ | ⟨_, _, rfl⟩
                · exact e3 q cs h
                · exact hzl
              · simp; omega
              · rw [List.getElem?_toArray, splice_get _ _ _ _ (by rw [hvl]; simp; omega), hvl, Nat.add_zero]
                have hql : cs.length = L.esz := by
                  rcases hlt q cs hq with ⟨_, h⟩ | ⟨_, _, rfl⟩
                  · exact e3 q cs h
                  · exact hzl
                have hjl : j < L.esz := by rw [← hql]; exact (List.getElem?_eq_some_iff.1 hj).1
                rcases hlt q cs hq with ⟨hno, h⟩ | ⟨hq1, hq2, rfl⟩
                · obtain ⟨u, h3, h4⟩ := hxx q cs j y h hj
                  refine ⟨u, ?_, h4⟩
                  rw [Array.getElem?_toList]
                  by_cases c1 : q < off
                  · have : (q + 1) * L.esz ≤ off * L.esz := Nat.mul_le_mul_right _ c1
                    rw [Nat.add_mul] at this
                    rw [if_pos (by omega)]; exact h3
                  · have : (off + len) * L.esz ≤ q * L.esz := Nat.mul_le_mul_right _ (by omega)
                    rw [Nat.add_mul] at this
                    rw [if_neg (by omega), if_neg (by omega)]; exact h3
                · have g1 : off * L.esz ≤ q * L.esz := Nat.mul_le_mul_right _ hq1
                  have g2 : (q + 1) * L.esz ≤ (off + len) * L.esz := Nat.mul_le_mul_right _ hq2
                  rw [Nat.add_mul, Nat.add_mul] at g2
                  rw [if_neg (by omega), if_pos (by omega)]
                  have g3 : q * L.esz + j - off * L.esz = (q - off) * L.esz + j := by
                    rw [Nat.sub_mul]; omega
                  rw [hvg _ (by omega), g3]
                  have g4 : ((q - off) * L.esz + j) % L.esz = j := by
                    rw [Nat.mul_comm, Nat.mul_add_mod]; exact Nat.mod_eq_of_lt hjl
                  rw [g4]
                  obtain ⟨u, h3, h4⟩ := hzz.get hj
                  rw [getElem!_pos zv.cells j (by rw [hzs]; exact hjl)]
                  rw [Array.getElem?_toList] at h3
                  have := (Array.getElem?_eq_some_iff.1 h3).2
                  exact ⟨_, rfl, by rw [this]; exact h4⟩
        · cases hv
    · cases hv
  · cases hv
end Go.Am
/- All operations together: 'astep' is right. -/
namespace Go.Am
open Go.RowKit
set_option linter.unusedSimpArgs false
set_option linter.unusedVariables false
variable {P : Program} {B : Base} {G : Gh} {w : World} {σ : Store} {ver : Nat} {key : Key} {fr : List AV} {ρ : Operand → Value} {o : Oper} {lo : LO} {v : AV} {rd : List Key} {wr : List (Key × AO)}

theorem val_some {x : Option AV} {v : AV} {rd : List Key} {wr : List (Key × AO)} (h : val x = some (v, rd, wr)) : x = some v ∧ rd = [] ∧ wr = [] := by
  unfold val at h
  cases x with
  | none => cases h
  | some y => simp at h; obtain ⟨rfl, rfl, rfl⟩ := h; exact ⟨rfl, rfl, rfl⟩
theorem astep_res (hm : MemSim B G w σ) (hρ : Opnds G fr ρ) (hv : ∀ k, G.io k ver = none) (hlow : lowOp P o.op o.type = some lo) (hs : astep key ver fr σ lo = some (v, rd, wr)) : Res B G w σ ver ((execOp ρ o).run P w) v wr := by
  unfold lowOp at hlow
  split at hlow
  · -- move
    rename_i x hop
    obtain ⟨x', hx, rfl⟩ := Option.map_eq_some_iff.1 hlow
    simp only [astep, Option.some.injEq, Prod.mk.injEq] at hs
    obtain ⟨rfl, rfl, rfl⟩ := hs
    exact res_mv hm hρ (.inl hop) hx
  · rename_i x hop
    obtain ⟨x', hx, rfl⟩ := Option.map_eq_some_iff.1 hlow
    simp only [astep, Option.some.injEq, Prod.mk.injEq] at hs
    obtain ⟨rfl, rfl, rfl⟩ := hs
    exact res_mv hm hρ (.inr hop) hx
  · -- pick
    rename_i c a b hop
    simp only [Option.bind_eq_bind, Option.bind_eq_some_iff, Option.some.injEq] at hlow
    obtain ⟨c', hc, a', ha, b', hb, rfl⟩ := hlow
    simp only [astep] at hs
    split at hs
    · rename_i x hx
      simp only [Option.some.injEq, Prod.mk.injEq] at hs
      obtain ⟨rfl, rfl, rfl⟩ := hs
      exact res_pick hm hρ hop hc ha hb hx
    · cases hs
  · -- alloc
    rename_i t hop
    obtain ⟨z, hz, rfl⟩ := Option.map_eq_some_iff.1 hlow
    simp only [astep, Option.some.injEq, Prod.mk.injEq] at hs
    obtain ⟨rfl, rfl, rfl⟩ := hs
    exact res_alloc hm hv hop hz
  · -- box
    rename_i t x hop
    obtain ⟨x', hx, rfl⟩ := Option.map_eq_some_iff.1 hlow
    simp only [astep, Option.map_eq_some_iff] at hs
    obtain ⟨cs, hc, hs⟩ := hs
    cases hs
    exact res_box hm hρ hv hop hx hc
  · -- build
    rename_i t ps hop
    split at hlow
    · rename_i fs ht
      simp only [Option.bind_eq_bind, Option.bind_eq_some_iff, Option.some.injEq] at hlow
      obtain ⟨z, hz, qs, hq, ns, hns, rfl⟩ := hlow
      obtain ⟨hq0, rfl, rfl⟩ := val_some hs
      obtain ⟨cs, hc, rfl⟩ := Option.map_eq_some_iff.1 hq0
      exact res_build_struct hm hρ hop ht hz hq hns hc
    · rename_i m e ht
      simp only [Option.bind_eq_bind, Option.bind_eq_some_iff, Option.some.injEq] at hlow
      obtain ⟨z, hz, n, hn, qs, hq, rfl⟩ := hlow
      obtain ⟨hq0, rfl, rfl⟩ := val_some hs
      obtain ⟨cs, hc, rfl⟩ := Option.map_eq_some_iff.1 hq0
      exact res_build_arr hm hρ hop ht hz hn hq hc
    · cases hlow
  · -- buildSlice
    rename_i t len ps hop
    split at hlow
    · rename_i e ht
      simp only [Option.bind_eq_bind, Option.bind_eq_some_iff] at hlow
      obtain ⟨n, hn, z, hz, qs, hq, hlow⟩ := hlow
      split at hlow
      · rename_i hc
        cases hlow
        simp only [astep, Option.map_eq_some_iff] at hs
        obtain ⟨rs, hr, hs⟩ := hs
        cases hs
        exact res_bslice hm hρ hv hop ht hn hz hc.1 hc.2.1 hc.2.2 hq hr
      · cases hlow
    · cases hlow
  · -- load
    rename_i t a hop
    simp only [Option.bind_eq_bind, Option.bind_eq_some_iff, Option.some.injEq] at hlow
    obtain ⟨agg, ha, n, hn, x', hx, rfl⟩ := hlow
    simp only [astep, Option.map_eq_some_iff] at hs
    obtain ⟨⟨v', rd'⟩, hl, hs⟩ := hs
    cases hs
    exact res_load hm hρ hop ha hn hx hl
  · -- store
    rename_i t a x hop
    simp only [Option.bind_eq_bind, Option.bind_eq_some_iff, Option.some.injEq] at hlow
    obtain ⟨n, hn, a', ha, x', hx, rfl⟩ := hlow
    simp only [astep, Option.map_eq_some_iff] at hs
    obtain ⟨⟨rd', wr'⟩, hl, hs⟩ := hs
    cases hs
    exact res_store hm hρ hop hn ha hx hl
  · -- nilCheck
    rename_i x hop
    obtain ⟨x', hx, rfl⟩ := Option.map_eq_some_iff.1 hlow
    obtain ⟨hq0, rfl, rfl⟩ := val_some hs
    exact res_nilck hm hρ hop hx hq0
  · -- binOp
    rename_i op t x y t' hop
    simp only [Option.bind_eq_bind, Option.bind_eq_some_iff, Option.some.injEq] at hlow
    obtain ⟨x', hx, y', hy, rfl⟩ := hlow
    obtain ⟨hq0, rfl, rfl⟩ := val_some hs
    exact res_bin hm hρ hop hx hy hq0
  · -- unOp
    rename_i op t x hop
    obtain ⟨x', hx, rfl⟩ := Option.map_eq_some_iff.1 hlow
    obtain ⟨hq0, rfl, rfl⟩ := val_some hs
    exact res_un hm hρ hop hx hq0
  · -- convert
    rename_i s d x hop
    split at hlow
    · rename_i ks k hks hk
      obtain ⟨x', hx, rfl⟩ := Option.map_eq_some_iff.1 hlow
      simp only [astep] at hs
      split at hs
      · rename_i k' n hn
        cases hs
        exact res_conv hm hρ hop hks hk hx hn
      · cases hs
    · cases hlow
  · -- makeFunc
    rename_i f first caps hop
    simp only [Option.bind_eq_bind, Option.bind_eq_some_iff, Option.some.injEq] at hlow
    obtain ⟨a', ha, c', hc, rfl⟩ := hlow
    cases hs
    exact res_mkfn hm hρ hop ha hc
  · -- slice
    rename_i t x l h m hop
    simp only [Option.bind_eq_bind, Option.bind_eq_some_iff] at hlow
    obtain ⟨x', hx, lo', hlo, hi', hhi, mx', hmx, hlow⟩ := hlow
    split at hlow
    · rename_i ht
      cases hlow
      simp only [astep, Option.map_eq_some_iff] at hs
      obtain ⟨⟨v', rd'⟩, hl, hs⟩ := hs
      cases hs
      simp only [aslice, if_true, Option.map_eq_some_iff] at hl
      obtain ⟨v', hl, he⟩ := hl
      cases he
      exact res_slice_str hm hρ hop ht hx hlo hhi hmx hl
    · rename_i e ht
      simp only [Option.bind_eq_some_iff, Option.some.injEq] at hlow
      obtain ⟨n, hn, rfl⟩ := hlow
      simp only [astep, Option.map_eq_some_iff] at hs
      obtain ⟨⟨v', rd'⟩, hl, hs⟩ := hs
      cases hs
      simp only [aslice, Bool.false_eq_true, if_false] at hl
      split at hl
      · obtain ⟨v', hl', he⟩ := Option.map_eq_some_iff.1 hl
        cases he
        exact res_slice_zero hm hρ hop ht hn hx hlo hhi hmx hl'
      · rename_i hmn
        have hm0 : m = none := by
          cases m with
          | none => rfl
          | some q =>
            simp only [lowXO, Option.map_eq_some_iff] at hmx
            obtain ⟨q', _, rfl⟩ := hmx
            simp at hmn
        subst hm0
        exact res_slice_row hm hρ hop ht hn hx hlo hhi hl
    · cases hlow
  · -- fieldAddr
    rename_i s x f hop
    split at hlow
    · rename_i fs ht
      simp only [Option.bind_eq_bind, Option.bind_eq_some_iff] at hlow
      obtain ⟨fd, hf, n, hn, hlow⟩ := hlow
      split at hlow
      · cases hlow
      · rename_i hn0
        simp only [Option.bind_eq_some_iff, Option.some.injEq] at hlow
        obtain ⟨x', hx, rfl⟩ := hlow
        obtain ⟨hq0, rfl, rfl⟩ := val_some hs
        exact res_fieldAddr hm hρ hop ht hf hn hn0 hx hq0
    · cases hlow
  · -- field
    rename_i s x f hop
    split at hlow
    · rename_i fs ht
      simp only [Option.bind_eq_bind, Option.bind_eq_some_iff, Option.some.injEq] at hlow
      obtain ⟨fd, hf, agg, ha, n, hn, x', hx, rfl⟩ := hlow
      simp only [astep] at hs
      split at hs
      · rename_i cs hc
        obtain ⟨hq0, rfl, rfl⟩ := val_some hs
        exact res_field hm hρ hop ht hf ha hn hx hc hq0
      · cases hs
    · cases hlow
  · -- indexAddr
    rename_i t x i hop
    split at hlow
    · rename_i e ht
      simp only [Option.bind_eq_bind, Option.bind_eq_some_iff, Option.some.injEq] at hlow
      obtain ⟨n, hn, x', hx, i', hi, rfl⟩ := hlow
      simp only [astep, Option.map_eq_some_iff] at hs
      obtain ⟨⟨v', rd'⟩, hl, hs⟩ := hs
      cases hs
      exact res_indexAddr_sl hm hρ hop ht hn hx hi hl
    · rename_i m e ht
      simp only [Option.bind_eq_bind, Option.bind_eq_some_iff, Option.some.injEq] at hlow
      obtain ⟨n, hn, x', hx, i', hi, rfl⟩ := hlow
      simp only [astep, Option.map_eq_some_iff] at hs
      obtain ⟨⟨v', rd'⟩, hl, hs⟩ := hs
      cases hs
      exact res_indexAddr_arr hm hρ hop ht hn hx hi hl
    · cases hlow
  · -- index
    rename_i t x i hop
    split at hlow
    · rename_i ht
      simp only [Option.bind_eq_bind, Option.bind_eq_some_iff, Option.some.injEq] at hlow
      obtain ⟨x', hx, i', hi, rfl⟩ := hlow
      obtain ⟨hq0, rfl, rfl⟩ := val_some hs
      exact res_index_str hm hρ hop ht hx hi hq0
    · rename_i m e ht
      simp only [Option.bind_eq_bind, Option.bind_eq_some_iff, Option.some.injEq] at hlow
      obtain ⟨agg, ha, n, hn, x', hx, i', hi, rfl⟩ := hlow
      obtain ⟨hq0, rfl, rfl⟩ := val_some hs
      exact res_index_arr hm hρ hop ht ha hn hx hi hq0
    · cases hlow
  · -- extract
    rename_i x i hop
    simp only [Option.bind_eq_bind, Option.bind_eq_some_iff, Option.some.injEq] at hlow
    obtain ⟨x', hx, rfl⟩ := hlow
    simp only [astep] at hs
    split at hs
    · rename_i vs hc
      obtain ⟨hq0, rfl, rfl⟩ := val_some hs
      exact res_extract hm hρ hop hx hc hq0
    · cases hs
  · -- call of a value
    rename_i f args ty hop
    simp only [Option.bind_eq_bind, Option.bind_eq_some_iff] at hlow
    obtain ⟨as0, has, hlow⟩ := hlow
    split at hlow
    · cases hlow; cases hs
    · simp only [Option.bind_eq_some_iff, Option.some.injEq] at hlow
      obtain ⟨f', _, rfl⟩ := hlow
      cases hs
  · -- len
    rename_i args ty hop
    split at hlow
    · rename_i x t ha hty
      have hc : ({ callee := .builtin .len, args := args, argTypes := ty } : Call) = { callee := .builtin .len, args := #[x], argTypes := #[t] } := by
        rw [show args = #[x] from by rw [← Array.toArray_toList (xs := args), ha], show ty = #[t] from by rw [← Array.toArray_toList (xs := ty), hty]]
      split at hlow
      · rename_i ht
        simp only [Option.bind_eq_bind, Option.bind_eq_some_iff, Option.some.injEq] at hlow
        obtain ⟨x', hx, rfl⟩ := hlow
        obtain ⟨hq0, rfl, rfl⟩ := val_some hs
        exact res_len (arr := none) (str := true) hm hρ hop hc ht hx hq0
      · rename_i e ht
        simp only [Option.bind_eq_bind, Option.bind_eq_some_iff, Option.some.injEq] at hlow
        obtain ⟨x', hx, rfl⟩ := hlow
        obtain ⟨hq0, rfl, rfl⟩ := val_some hs
        exact res_len (arr := none) (str := false) hm hρ hop hc ⟨e, ht⟩ hx hq0
      · rename_i n e ht
        simp only [Option.bind_eq_bind, Option.bind_eq_some_iff, Option.some.injEq] at hlow
        obtain ⟨x', hx, rfl⟩ := hlow
        obtain ⟨hq0, rfl, rfl⟩ := val_some hs
        exact res_len (arr := some n) hm hρ hop hc ⟨e, ht⟩ hx hq0
      · rename_i kt et ht
        simp only [Option.bind_eq_bind, Option.bind_eq_some_iff, Option.some.injEq] at hlow
        obtain ⟨x', hx, rfl⟩ := hlow
        simp only [astep, Option.map_eq_some_iff] at hs
        obtain ⟨⟨ks, vs, rd'⟩, hq0, he⟩ := hs
        cases he
        exact res_lenm hm hρ hop hc ht hx hq0
      · cases hlow
    · cases hlow
  · -- append
    rename_i args ty hop
    split at hlow
    · rename_i x y t t' ha hty
      split at hlow
      · rename_i e e' ht ht'
        simp only [Option.bind_eq_bind, Option.bind_eq_some_iff] at hlow
        obtain ⟨z, hz, n, hn, by_, hby, hlow⟩ := hlow
        split at hlow
        · rename_i hc
          obtain ⟨c1, c2, c3, rfl⟩ := hc
          have hc : ({ callee := .builtin .append, args := args, argTypes := ty } : Call) = { callee := .builtin .append, args := #[x, y], argTypes := #[t, t] } := by
            rw [show args = #[x, y] from by rw [← Array.toArray_toList (xs := args), ha], show ty = #[t, t] from by rw [← Array.toArray_toList (xs := ty), hty]]
          simp only [Option.bind_eq_some_iff, Option.some.injEq] at hlow
          obtain ⟨by2, hby2, x', hx, y', hy, rfl⟩ := hlow
          rw [hby] at hby2; cases hby2
          exact res_append hm hρ hv hop hc ht hz hn c1 hby c3 hx hy hs
        · cases hlow
      · cases hlow
    · cases hlow
  · -- max
    rename_i args ty hop
    simp only [Option.bind_eq_bind, Option.bind_eq_some_iff, Option.some.injEq] at hlow
    obtain ⟨as0, has, rfl⟩ := hlow
    obtain ⟨hq0, rfl, rfl⟩ := val_some hs
    exact res_minmax (mx := true) hm hρ hop rfl has hq0
  · rename_i args ty hop
    simp only [Option.bind_eq_bind, Option.bind_eq_some_iff, Option.some.injEq] at hlow
    obtain ⟨as0, has, rfl⟩ := hlow
    obtain ⟨hq0, rfl, rfl⟩ := val_some hs
    exact res_minmax (mx := false) hm hρ hop rfl has hq0
  · -- clear
    rename_i args ty hop
    split at hlow
    · rename_i x t ha hty
      split at hlow
      · rename_i e ht
        simp only [Option.bind_eq_bind, Option.bind_eq_some_iff] at hlow
        obtain ⟨z, hz, n, hn, hlow⟩ := hlow
        split at hlow
        · rename_i hzl
          simp only [Option.bind_eq_some_iff, Option.some.injEq] at hlow
          obtain ⟨x', hx, rfl⟩ := hlow
          have hc : ({ callee := .builtin .clear, args := args, argTypes := ty } : Call) = { callee := .builtin .clear, args := #[x], argTypes := #[t] } := by
            rw [show args = #[x] from by rw [← Array.toArray_toList (xs := args), ha], show ty = #[t] from by rw [← Array.toArray_toList (xs := ty), hty]]
          exact res_clear hm hρ hop hc ht hz hzl hx hs
        · cases hlow
      · cases hlow
    · cases hlow
  · cases hlow; cases hs
  · cases hlow; cases hs
  · -- maps
    rename_i t hop
    split at hlow
    · cases hlow
      simp only [astep, Option.some.injEq, Prod.mk.injEq] at hs
      obtain ⟨rfl, rfl, rfl⟩ := hs
      exact res_mkmap hm hv hop
    · cases hlow
  · rename_i t m k x hop
    split at hlow
    · rename_i kt et ht
      simp only [Option.bind_eq_bind, Option.bind_eq_some_iff, Option.some.injEq] at hlow
      obtain ⟨n, hn, m', hm', k', hk', x', hx', rfl⟩ := hlow
      exact res_mapup hm hρ hop ht hn hm' hk' hx' hs
    · cases hlow
  · rename_i t m k ok hop
    split at hlow
    · rename_i kt et ht
      simp only [Option.bind_eq_bind, Option.bind_eq_some_iff, Option.some.injEq] at hlow
      obtain ⟨n, hn, z, hz, m', hm', k', hk', rfl⟩ := hlow
      simp only [astep, Option.map_eq_some_iff] at hs
      obtain ⟨⟨v', rd'⟩, hq0, he⟩ := hs
      cases he
      exact res_lookup hm hρ hop ht hn hz hm' hk' hq0
    · cases hlow
  · cases hlow
end Go.Am
/- One operation's meaning, wherever it stands: what it reads of the frame and of the store is all that it hangs on. -/
namespace Go.Am
open Go.RowKit
set_option linter.unusedSimpArgs false
set_option linter.unusedVariables false
variable {P : Program} {B : Base} {G : Gh} {w : World} {σ σ' : Store} {ver : Nat} {key : Key} {fr fr' : List AV} {ρ : Operand → Value} {o : Oper} {lo : LO} {v : AV} {rd : List Key} {wr : List (Key × AO)}

theorem map_aev {fr fr' : List AV} {xs : List X} (h : ∀ x ∈ xs, aev fr' x = aev fr x) : xs.map (aev fr') = xs.map (aev fr) := List.map_congr_left h
theorem omap_aev {fr fr' : List AV} {x : Option X} (h : ∀ y ∈ x.toList, aev fr' y = aev fr y) : x.map (aev fr') = x.map (aev fr) := by
  cases x with
  | none => rfl
  | some y => simp only [Option.map_some]; rw [h y (by simp)]
theorem astep_frame (hx : ∀ x ∈ lo.xs, aev fr' x = aev fr x) : astep key ver fr' σ lo = astep key ver fr σ lo := by
  cases lo with
  | mv x => simp only [astep]; rw [hx x (by simp [LO.xs])]
  | pick c a b => simp only [astep]; rw [hx c (by simp [LO.xs]), hx a (by simp [LO.xs]), hx b (by simp [LO.xs])]
  | alloc z => rfl
  | box x => simp only [astep]; rw [hx x (by simp [LO.xs])]
  | build z ps =>
    simp only [astep]
    rw [show (ps.map fun p => (p.1, p.2.1, aev fr' p.2.2)) = ps.map fun p => (p.1, p.2.1, aev fr p.2.2) from List.map_congr_left fun p hp => by rw [hx p.2.2 (List.mem_map.2 ⟨p, hp, rfl⟩)]]
  | bslice esz z len ps =>
    simp only [astep]
    rw [show (ps.map fun p => (p.1, aev fr' p.2)) = ps.map fun p => (p.1, aev fr p.2) from List.map_congr_left fun p hp => by rw [hx p.2 (List.mem_map.2 ⟨p, hp, rfl⟩)]]
  | load agg n a => simp only [astep]; rw [hx a (by simp [LO.xs])]
  | store n a x => simp only [astep]; rw [hx a (by simp [LO.xs]), hx x (by simp [LO.xs])]
  | nilck x => simp only [astep]; rw [hx x (by simp [LO.xs])]
  | bin op e x y => simp only [astep]; rw [hx x (by simp [LO.xs]), hx y (by simp [LO.xs])]
  | un op x => simp only [astep]; rw [hx x (by simp [LO.xs])]
  | conv k x => simp only [astep]; rw [hx x (by simp [LO.xs])]
  | mkfn f a c => simp only [astep]; rw [map_aev fun x h => hx x (by simp [LO.xs, h]), map_aev (xs := c) fun x h => hx x (by simp [LO.xs, h])]
  | slice str esz x lo hi mx => simp only [astep]; rw [hx x (by simp [LO.xs]), omap_aev fun y h => hx y (by simp only [LO.xs, List.mem_cons, List.mem_append]; exact .inr (.inl (.inl h))), omap_aev (x := hi) fun y h => hx y (by simp only [LO.xs, List.mem_cons, List.mem_append]; exact .inr (.inl (.inr h))), omap_aev (x := mx) fun y h => hx y (by simp only [LO.xs, List.mem_cons, List.mem_append]; exact .inr (.inr h))]
  | fieldAddr d x => simp only [astep]; rw [hx x (by simp [LO.xs])]
  | field agg off n x => simp only [astep]; rw [hx x (by simp [LO.xs])]
  | indexAddr arr esz x i => simp only [astep]; rw [hx x (by simp [LO.xs]), hx i (by simp [LO.xs])]
  | index arr x i => simp only [astep]; rw [hx x (by simp [LO.xs]), hx i (by simp [LO.xs])]
  | extract x i => simp only [astep]; rw [hx x (by simp [LO.xs])]
  | len arr str x => simp only [astep]; rw [hx x (by simp [LO.xs])]
  | append esz by_ x y => simp only [astep]; rw [hx x (by simp [LO.xs]), hx y (by simp [LO.xs])]
  | minmax mx xs => simp only [astep]; rw [map_aev fun x h => hx x (by simp [LO.xs, h])]
  | mkmap => rfl
  | mapup e n m k x => simp only [astep]; rw [hx m (by simp [LO.xs]), hx k (by simp [LO.xs]), hx x (by simp [LO.xs])]
  | lookup e n z ok m k => simp only [astep]; rw [hx m (by simp [LO.xs]), hx k (by simp [LO.xs])]
  | lenm x => simp only [astep]; rw [hx x (by simp [LO.xs])]
  | clear esz z x => simp only [astep]; rw [hx x (by simp [LO.xs])]
  | call f as0 => rfl
  | callv f as0 => rfl
  | die => rfl
theorem arows_local {esz : Nat} {y : AV} {new : List (List AV)} (h : arows σ esz y = some (new, rd)) (hr : ∀ k ∈ rd, sget σ' k = sget σ k) : arows σ' esz y = some (new, rd) := by
  unfold arows at h ⊢
  split at h
  · exact h
  · exact h
  · rename_i k kv off len
    split at h
    · rename_i kv' esz' rs hk
      split at h
      · rename_i hc
        cases h
        simp only [hr k (by simp), hk, if_pos hc]
      · cases h
    · cases h
  · cases h
theorem amap_local {x : AV} {ks vs : List AV} (h : amap σ x = some (ks, vs, rd)) (hr : ∀ k ∈ rd, sget σ' k = sget σ k) : amap σ' x = some (ks, vs, rd) := by
  unfold amap at h ⊢
  split at h
  · exact h
  · exact h
  · rename_i q qv
    split at h
    · rename_i qv' ks' vs' hk
      split at h
      · rename_i hc
        cases h
        simp only [hr q (by simp), hk, if_pos hc]
      · cases h
    · cases h
  · cases h
theorem astep_local (hx : ∀ x ∈ lo.xs, aev fr' x = aev fr x) (hs : astep key ver fr σ lo = some (v, rd, wr)) (hr : ∀ k ∈ rd, sget σ' k = sget σ k) : astep key ver fr' σ' lo = some (v, rd, wr) := by
  rw [astep_frame hx]
  cases lo with
  | load agg n a =>
    simp only [astep, Option.map_eq_some_iff] at hs ⊢
    obtain ⟨⟨v', rd'⟩, hl, he⟩ := hs
    cases he
    refine ⟨_, ?_, rfl⟩
    generalize aev fr a = av at hl
    unfold aload at hl ⊢
    split at hl
    · exact hl
    · rename_i k kv i off
      simp only [Option.map_eq_some_iff] at hl
      obtain ⟨v', h1, h2⟩ := hl
      cases h2
      have := hr k (by simp)
      simp only [Option.map_eq_some_iff]
      refine ⟨_, ?_, rfl⟩
      rw [← h1]
      unfold aobj
      rw [this]
    · cases hl
  | store n a x =>
    simp only [astep, Option.map_eq_some_iff] at hs ⊢
    obtain ⟨⟨rd', wr'⟩, hl, he⟩ := hs
    cases he
    refine ⟨_, ?_, rfl⟩
    generalize aev fr a = av at hl
    generalize aev fr x = xv at hl
    unfold astore at hl ⊢
    split at hl
    · rename_i k kv i off xs hc
      split at hl
      · rename_i kv' esz rs hk
        split at hl
        · rename_i cs hi
          split at hl
          · rename_i hcond
            cases hl
            simp only [hr k (by simp), hk, hi, if_pos hcond]
          · cases hl
        · cases hl
      · cases hl
    · cases hl
  | slice str esz x lo hi mx =>
    simp only [astep, Option.map_eq_some_iff] at hs ⊢
    obtain ⟨⟨v', rd'⟩, hl, he⟩ := hs
    cases he
    refine ⟨_, ?_, rfl⟩
    generalize aev fr x = xv at hl
    unfold aslice at hl ⊢
    split at hl
    · rename_i h; rw [if_pos h]; exact hl
    · rename_i h
      rw [if_neg h]
      split at hl
      · rename_i h2; rw [if_pos h2]; exact hl
      · rename_i h2
        rw [if_neg h2]
        unfold asliceR at hl ⊢
        split at hl
        · exact hl
        · exact hl
        · rename_i k kv off len
          simp only [Option.bind_eq_bind, Option.bind_eq_some_iff] at hl ⊢
          obtain ⟨h', hh, l, hl', hv⟩ := hl
          refine ⟨h', hh, l, hl', ?_⟩
          split at hv
          · rename_i kv' esz' rs hk
            split at hv
            · rename_i hc
              cases hv
              simp only [hr k (by simp), hk, if_pos hc]
            · cases hv
          · cases hv
        · cases hl
  | indexAddr arr esz x i =>
    simp only [astep, Option.map_eq_some_iff] at hs ⊢
    obtain ⟨⟨v', rd'⟩, hl, he⟩ := hs
    cases he
    refine ⟨_, ?_, rfl⟩
    generalize aev fr x = xv at hl
    generalize aev fr i = iv at hl
    unfold aindexAddr at hl ⊢
    split at hl
    · rename_i kk n
      split at hl
      · exact hl
      · rename_i k kv off len
        split at hl
        · rename_i kv' esz' rs hk
          split at hl
          · rename_i hc
            cases hl
            simp only [hr k (by simp), hk, if_pos hc]
          · cases hl
        · cases hl
      · exact hl
      · exact hl
      · cases hl
    · cases hl
  | append esz by_ x y =>
    simp only [astep] at hs ⊢
    generalize aev fr x = xv at hs
    generalize aev fr y = yv at hs
    unfold aappend at hs ⊢
    split at hs
    · cases hs
    · rename_i new rd0 hrows
      split at hs
      · rename_i hone
        split at hs
        · split at hs
          · rename_i hb
            cases hs
            rw [arows_local hrows hr]
            simp only [if_pos hone, if_pos hb]
          · cases hs
        · rename_i k kv off len
          split at hs
          · rename_i kv' esz' rs hk
            split at hs
            · rename_i hc
              cases hs
              rw [arows_local hrows (fun q hq => hr q (List.mem_cons_of_mem _ hq))]
              simp only [if_pos hone, hr k List.mem_cons_self, hk, if_pos hc]
            · cases hs
          · cases hs
        · cases hs
      · cases hs
  | mapup e n m k x =>
    simp only [astep] at hs ⊢
    generalize aev fr m = mv at hs
    generalize aev fr k = kv at hs
    generalize aev fr x = xv at hs
    unfold amapup at hs ⊢
    split at hs
    · rename_i q qv
      split at hs
      · rename_i qv' ks vs hk
        split at hs
        · rename_i hc
          have hq : sget σ' q = sget σ q := by
            split at hs
            · cases hs; exact hr q (by simp)
            · cases hs; exact hr q (by simp)
            · cases hs
          simp only [hq, hk, if_pos hc]
          exact hs
        · cases hs
      · cases hs
    · cases hs
  | lookup e n z ok m k =>
    simp only [astep, Option.map_eq_some_iff] at hs ⊢
    obtain ⟨⟨v', rd'⟩, hl, he⟩ := hs
    cases he
    refine ⟨_, ?_, rfl⟩
    generalize aev fr m = mv at hl
    unfold alookup at hl ⊢
    split at hl
    · rename_i ks vs rd' hm'
      split at hl
      · rename_i hc
        obtain ⟨p, hp, he⟩ := Option.map_eq_some_iff.1 hl
        cases he
        rw [amap_local hm' hr]
        simp only [if_pos hc, hp, Option.map_some]
      · cases hl
    · cases hl
  | clear esz z x =>
    simp only [astep] at hs ⊢
    generalize aev fr x = xv at hs
    unfold aclear at hs ⊢
    split at hs
    · exact hs
    · rename_i k kv off len
      split at hs
      · rename_i kv' esz' rs hk
        have hq : sget σ' k = sget σ k := by
          split at hs
          · cases hs; exact hr k (by simp)
          · split at hs
            · cases hs; exact hr k (by simp)
            · cases hs
        simp only [hq, hk]
        exact hs
      · cases hs
    · cases hs
  | lenm x =>
    simp only [astep, Option.map_eq_some_iff] at hs ⊢
    obtain ⟨⟨ks, vs, rd'⟩, hl, he⟩ := hs
    cases he
    exact ⟨_, amap_local hl hr, rfl⟩
  | _ => exact hs

/-- What an operation that stands in a place comes to: its value, the objects that it reads, and those that it leaves. -/
def AStep (P : Program) (lo : LO) (ver : Nat) (fr : List AV) (σ : Store) (v : AV) (rd : List Key) (wr : List (Key × AO)) : Prop :=
  ∀ (fr' : List AV) (σ' : Store), (∀ x ∈ lo.xs, aev fr' x = aev fr x) → (∀ k ∈ rd, sget σ' k = sget σ k) → ∀ (o : Oper), lowOp P o.op o.type = some lo →
  ∀ (B : Base) (G : Gh) (a : Act) (w : World) (N : Nat), MemSim B G w σ' → AReps G fr' a.tmps.toList → (∀ k, G.io k ver = none) →
  ∀ (K : Act → World → Prop) (Q : Exit → Act → World → Prop),
    (∀ (G' : Gh) (w' : World) (u : Value), G.le G' → (∀ k n, n < N → n ≠ ver → G'.io k n = G.io k n) → Keeps (Live G σ') w w' → MemSim B G' w' (upds σ' wr) → ARep G' v u → K (a.put o.dst u) w') → o.wp P a w K Q
theorem AStep.of_astep (key : Key) (h : astep key ver fr σ lo = some (v, rd, wr)) : AStep P lo ver fr σ v rd wr := by
  intro fr' σ' hx hr o hlow B G a w N hm hf hv K Q hK
  obtain ⟨u, G', w', hrun, hle, hcol, hkeep, hm', hrep⟩ := astep_res hm (opnds_of hf) hv hlow (astep_local hx h hr)
  have hk := hK G' w' u hle (fun k n _ hn => hcol k n hn) hkeep hm' hrep
  unfold Oper.wp
  rcases hrun with hrun | ⟨hrun, rfl⟩
  · rw [hrun]; exact hk
  · rw [hrun]; exact hk
end Go.Am
/- The lowered code, and the rules: what a stretch of code comes to on abstract frames and stores. -/
namespace Go.Am
open Go.RowKit
set_option linter.unusedSimpArgs false
set_option linter.unusedVariables false

inductive LC where
  | skip
  | reg (ops : List LOper) (draw : Bool)
  | seq (a b : LC)
  | cond (x : X) (a b : LC)
  | block (id : Nat) (c : LC)
  | loop (c : LC)
  | exit (id : Nat)
  | ret
  | rangeFunc (f : X) (ps : List Nat) (asg body : LC)
def lowOper (P : Program) (ops : Array Oper) (o : Oper) : Option LOper :=
  match lowOp P o.op o.type with
  | none => none
  | some op =>
    match o.guard with
    | none => some ⟨o.dst, op, none, (o.after.toList.filter (Region.binds .any)).map (·.on)⟩
    | some (j, want) =>
      match (ops[j]?).bind (·.dst) with
      | none => none
      | some t => some ⟨o.dst, op, some (t, want), (o.after.toList.filter (Region.binds .any)).map (·.on)⟩
def lowC (P : Program) : Code → Option LC
  | .skip => some .skip
  | .region _ ops draw => (ops.toList.mapM (lowOper P ops)).map (.reg · draw)
  | .seq a b =>
    match lowC P a, lowC P b with
    | some a, some b => some (.seq a b)
    | _, _ => none
  | .cond c a b =>
    match lowX c, lowC P a, lowC P b with
    | some c, some a, some b => some (.cond c a b)
    | _, _, _ => none
  | .block id c => (lowC P c).map (.block id)
  | .loop c => (lowC P c).map .loop
  | .exit id => some (.exit id)
  | .ret => some .ret
  | .rangeFunc f ps a b =>
    match lowX f, lowC P a, lowC P b with
    | some f, some a, some b => some (.rangeFunc f ps.toList a b)
    | _, _, _ => none
  | _ => none

/-- Without a loop over a function. -/
def LC.flat : LC → Bool
  | .rangeFunc _ _ _ _ => false
  | .seq a b | .cond _ a b => a.flat && b.flat
  | .block _ c | .loop c => c.flat
  | _ => true

/-! ### No fence, in a round's frame or not -/
def FW (ro : Option Nat) : Fence := { Fence.wide with round := ro }
theorem FW_room (ro : Option Nat) (k : Nat) : (FW ro).room k := fun _ h => by simp [FW, Fence.wide] at h
theorem FW_depth {ro : Option Nat} {q : Prop} (h : (FW ro).depth.isSome = true) : q := by simp [FW, Fence.wide] at h
theorem callsIn_FW {ro : Option Nat} {n : Nat} {P : Program} {f : FuncId} {args : Array Value} {w : World} {R : Ending → World → Prop} : CallsIn (FW ro) n P f args w R ↔ Calls P f args w R := callsIn_wide (n := n)
theorem rowsIn_FW {ro : Option Nat} {n : Nat} {P : Program} {row : String} {args : Array Value} {w : World} {R : Value → World → Prop} (h : Rows P row args w R) : RowsIn (FW ro) n P row args w R :=
  fun c cs _ => let ⟨v, w', r, s⟩ := h c cs; ⟨v, w', r, stepsIn_wide.2 s⟩
theorem lowOp_nodefer {P : Program} {op : Op} {ty : TypeId} {lo : LO} (h : lowOp P op ty = some lo) : ∀ c, op ≠ .defer c := by
  rintro c rfl; simp [lowOp] at h
theorem oper_in {ro : Option Nat} {n : Nat} {P : Program} {o : Oper} {a : Act} {w : World} {K : Act → World → Prop} {Q : Exit → Act → World → Prop} (hd : ∀ c, o.op ≠ .defer c) (h : o.wp P a w K Q) : o.wpIn (FW ro) n P a w K Q := by
  refine ⟨fun _ _ => trivial, ?_⟩
  rw [Oper.semAt_eq _ _ _ hd]
  unfold Oper.wp at h
  generalize (execOp a.eval o).run P w = r at h
  cases r with
  | ok x w' =>
    cases x <;> simp only [Oper.upon, Oper.uponIn] at h ⊢ <;>
      first
        | exact h
        | exact h.elim
        | exact ⟨FW_depth, (callsIn_FW.2 h).mono (fun e w'' he => by cases e <;> exact he)⟩
        | exact ⟨FW_depth, rowsIn_FW h⟩
  | halt x w' => cases x <;> simp only [Oper.upon, Oper.uponIn] at h ⊢ <;> first | exact h | exact h.elim

/-- The activation's deferred calls: its own, and ahead of them the marks of the loops over functions that it has been through. -/
def Marks (B : Base) (G : Gh) (D ds : List Deferred) : Prop :=
  ∃ rs : List Nat, rs.Nodup ∧ ds = rs.map (fun r => ({ target := .collected r, args := #[] } : Deferred)) ++ D ∧ ∀ r ∈ rs, G.F r none = some (.bool true) ∧ B.w0.heap.size ≤ r
theorem Marks.refl (B : Base) (G : Gh) (D : List Deferred) : Marks B G D D := ⟨[], .nil, rfl, fun r h => by cases h⟩
theorem Marks.mono {B : Base} {G G' : Gh} {D ds : List Deferred} (h : Marks B G D ds) (hle : G.le G') : Marks B G' D ds := by
  obtain ⟨rs, h1, h2, h3⟩ := h
  exact ⟨rs, h1, h2, fun r hr => ⟨hle.F _ _ _ (h3 r hr).1, (h3 r hr).2⟩⟩

abbrev AQ := Exit → List AV → Store → Prop
structure Sim (B : Base) (G : Gh) (a : Act) (w : World) (D : List Deferred) (fr : List AV) (σ : Store) : Prop where
  mem : MemSim B G w σ
  fr : AReps G fr a.tmps.toList
  df : Marks B G D a.defers
def Post (B : Base) (G : Gh) (D : List Deferred) (Q : AQ) : Exit → Act → World → Prop := fun e a w => ∃ G' fr σ, GLe B.N G G' ∧ Sim B G' a w D fr σ ∧ Q e fr σ
/-- What a stretch of code comes to. -/
def AWp (P : Program) (lc : LC) (Q : AQ) (fr : List AV) (σ : Store) : Prop :=
  ∀ c, lowC P c = some lc → ∀ ro : Option Nat, (ro.isSome = true → lc.flat = true) → ∀ (B : Base) (G : Gh) (a : Act) (w : World) (D : List Deferred), Sim B G a w D fr σ → c.wpIn (FW ro) 0 P (Post B G D Q) a w

def put (fr : List AV) (d : Option Nat) (v : AV) : List AV := match d with | none => fr | some t => fr.set t v
def gval (fr : List AV) (o : LOper) : Option Bool :=
  match o.g with
  | none => some true
  | some (t, want) => match fr[t]? with | some (.b x) => some (x == want) | some (.tu _) => some false | _ => none
/-- What an operation comes to, told by a law on its value and on the store behind it. -/
def AMany (P : Program) (lo : LO) (fr : List AV) (σ : Store) (T : AV → Store → Prop) : Prop :=
  ∀ (o : Oper), lowOp P o.op o.type = some lo → ∀ (B : Base) (G : Gh) (a : Act) (w : World) (N : Nat), MemSim B G w σ → AReps G fr a.tmps.toList →
  ∀ (K : Act → World → Prop) (Q : Exit → Act → World → Prop),
    (∀ (G' : Gh) (w' : World) (u : Value) (v : AV) (σ' : Store), GLe N G G' → MemSim B G' w' σ' → ARep G' v u → T v σ' → K (a.put o.dst u) w') → ∀ ro, o.wpIn (FW ro) 0 P a w K Q
/-- The operations of a region, one behind the other. -/
def AOps (P : Program) (nv : Nat) (K : List AV → Store → Prop) : Nat → List LOper → List AV → Store → Prop
  | _, [], fr, σ => K fr σ
  | i, o :: r, fr, σ =>
    (gval fr o = some true ∧ ∃ v rd wr, AStep P o.op (nv + i) fr σ v rd wr ∧ AOps P nv K (i + 1) r (put fr o.dst v) (upds σ wr)) ∨
    (gval fr o = some false ∧ AOps P nv K (i + 1) r (put fr o.dst (.tu [])) σ) ∨
    (gval fr o = some true ∧ ∃ T, AMany P o.op fr σ T ∧ ∀ v σ', T v σ' → AOps P nv K (i + 1) r (put fr o.dst v) σ')

variable {P : Program} {B : Base} {G : Gh} {w : World} {a : Act} {D : List Deferred} {fr : List AV} {σ : Store} {Q : AQ}

theorem put_reps {dst : Option Nat} {v : AV} {u : Value} (h : AReps G fr a.tmps.toList) (hv : ARep G v u) : AReps G (put fr dst v) (a.put dst u).tmps.toList := by
  cases dst with
  | none => exact h
  | some t =>
    simp only [put, Act.put, Array.toList_setIfInBounds]
    exact h.set t hv
theorem put_defers {dst : Option Nat} {u : Value} : (a.put dst u).defers = a.defers := by cases dst <;> rfl
theorem put_df {G' : Gh} {dst : Option Nat} {u : Value} (h : Marks B G D a.defers) (hle : G.le G') : Marks B G' D (a.put dst u).defers := by rw [put_defers]; exact h.mono hle
theorem wanted_of {ops : Array Oper} {o : Oper} {lo : LOper} {x : Bool} (hl : lowOper P ops o = some lo) (h : AReps G fr a.tmps.toList) (hg : gval fr lo = some x) : Region.wanted o (yielded ops a.tmps) = x := by
  unfold lowOper at hl
  split at hl
  · cases hl
  · split at hl
    · rename_i hgd
      cases hl
      simp [gval] at hg; subst hg
      simp [Region.wanted, hgd]
    · rename_i j want hgd
      split at hl
      · cases hl
      · rename_i t ht
        cases hl
        simp only [gval] at hg
        split at hg
        · rename_i y hy
          simp only [Option.some.injEq] at hg
          subst hg
          obtain ⟨u, hu, hr⟩ := h.get hy
          cases hr
          rw [Array.getElem?_toList] at hu
          simp [Region.wanted, hgd, yielded, ht, hu]
        · rename_i vs hy
          simp only [Option.some.injEq] at hg
          subst hg
          obtain ⟨u, hu, hr⟩ := h.get hy
          obtain ⟨us, rfl, _⟩ := arep_tu_inv hr
          rw [Array.getElem?_toList] at hu
          simp [Region.wanted, hgd, yielded, ht, hu]
        · cases hg
theorem lowOper_op {ops : Array Oper} {o : Oper} {lo : LOper} (hl : lowOper P ops o = some lo) : lowOp P o.op o.type = some lo.op ∧ o.dst = lo.dst := by
  unfold lowOper at hl
  split at hl
  · cases hl
  · rename_i op hop
    split at hl
    · cases hl; exact ⟨hop, rfl⟩
    · split at hl
      · cases hl
      · cases hl; exact ⟨hop, rfl⟩

theorem aops_sound {ops : Array Oper} {lops : List LOper} (hl : ops.toList.mapM (lowOper P ops) = some lops) {nv : Nat} {K : List AV → Store → Prop} {Q' : Exit → Act → World → Prop} (ro : Option Nat) (G0 : Gh)
    (hnv : B.N ≤ nv) (hK : ∀ G fr σ a w, GLe B.N G0 G → Sim B G a w D fr σ → K fr σ → Q' .normal a w) :
    ∀ (r : List LOper) (i : Nat) (G : Gh) (a : Act) (w : World) (fr : List AV) (σ : Store), lops.drop i = r → GLe B.N G0 G → Sim B G a w D fr σ → (∀ k n, nv + i ≤ n → n < nv + lops.length → G.io k n = none) → AOps P nv K i r fr σ →
      wpOpsIn (FW ro) 0 P ops Q' (List.range' i r.length) a w
  | [], i, G, a, w, fr, σ, hd, hG, hs, hc, h => by
    simp only [List.length_nil, List.range'_zero, wpOpsIn]
    exact hK G fr σ a w hG hs h
  | o :: r, i, G, a, w, fr, σ, hd, hG, hs, hc, h => by
    obtain ⟨h1, h2⟩ := mapM_some_get hl
    have hi : lops[i]? = some o := by
      have := congrArg (fun l => l[0]?) hd
      simpa using this
    have hil : i < lops.length := (List.getElem?_eq_some_iff.1 hi).1
    have hio : i < ops.size := by have := h1; simp at this; omega
    have hoi : ops[i]? = some ops[i] := by simp [hio]
    have hlow := h2 i ops[i] o (by simp [hio]) hi
    obtain ⟨hop, hdst⟩ := lowOper_op hlow
    have hd' : lops.drop (i + 1) = r := by
      have := congrArg (fun l => l.drop 1) hd
      simpa [List.drop_drop, Nat.add_comm] using this
    simp only [List.length_cons, List.range'_succ, wpOpsIn, hoi]
    rcases h with ⟨hg, v, rd, wr, hst, hrest⟩ | ⟨hg, hrest⟩ | ⟨hg, T, hst, hrest⟩
    · rw [if_pos (wanted_of hlow hs.fr hg)]
      refine oper_in (lowOp_nodefer hop) ?_
      refine hst fr σ (fun _ _ => rfl) (fun _ _ => rfl) ops[i] hop B G a w (nv + lops.length) hs.mem hs.fr (fun k => hc k _ (Nat.le_refl _) (by omega)) _ _ ?_
      intro G' w' u hle hcol hkeep hm' hrep
      rw [hdst]
      refine aops_sound hl ro G0 hnv hK r (i + 1) G' _ w' _ _ hd' (hG.trans ⟨hle, fun k n hn => hcol k n (by omega) (by omega)⟩) ⟨hm', put_reps (hs.fr.mono hle) hrep, put_df hs.df hle⟩ (fun k n h3 h4 => ?_) hrest
      rw [hcol k n h4 (by omega)]
      exact hc k n (by omega) h4
    · rw [if_neg (by rw [wanted_of hlow hs.fr hg]; simp)]
      rw [hdst]
      refine ⟨fun _ _ => trivial, ?_⟩
      exact aops_sound hl ro G0 hnv hK r (i + 1) G _ w _ _ hd' hG ⟨hs.mem, put_reps hs.fr (arep_tu (AReps.nil G)), put_df hs.df (Gh.le_refl G)⟩ (fun k n h3 h4 => hc k n (by omega) h4) hrest
    · rw [if_pos (wanted_of hlow hs.fr hg)]
      refine hst ops[i] hop B G a w (nv + lops.length) hs.mem hs.fr _ _ ?_ ro
      intro G' w' u v σ' hle hm' hrep hT
      rw [hdst]
      refine aops_sound hl ro G0 hnv hK r (i + 1) G' _ w' _ _ hd' (hG.trans (hle.less (by omega))) ⟨hm', put_reps (hs.fr.mono hle.1) hrep, put_df hs.df hle.1⟩ (fun k n h3 h4 => ?_) (hrest v σ' hT)
      rw [hle.2 k n h4]
      exact hc k n (by omega) h4

theorem awp_reg {ops : List LOper} (h : ∀ nv, AOps P nv (fun fr σ => Q .normal fr σ) 0 ops fr σ) : AWp P (.reg ops false) Q fr σ := by
  intro c hc ro hro B G a w D hs
  cases c with
  | region id cops draw =>
    simp only [lowC, Option.map_eq_some_iff] at hc
    obtain ⟨lops, hl, he⟩ := hc
    cases he
    obtain ⟨N, hN⟩ := hs.mem.fin
    refine wpIn_region ?_
    have hlen : cops.size = ops.length := by have := (mapM_some_get hl).1; simpa using this
    have := aops_sound (B := B) (D := D) (Q' := Post B G D Q) (nv := max N B.N) hl ro G (by omega) (fun G' fr σ a w hle hsim hq => ⟨G', fr, σ, hle, hsim, hq⟩) ops 0 G a w fr σ rfl (GLe.refl _ G) hs (fun k n h1 _ => hN k n (by omega)) (h _)
    rw [List.range_eq_range', hlen]
    exact this
  | seq x y => simp only [lowC] at hc; split at hc <;> cases hc
  | cond x y z => simp only [lowC] at hc; split at hc <;> cases hc
  | rangeFunc x y z u => simp only [lowC] at hc; split at hc <;> cases hc
  | block x y => simp only [lowC, Option.map_eq_some_iff] at hc; obtain ⟨_, _, he⟩ := hc; cases he
  | loop x => simp only [lowC, Option.map_eq_some_iff] at hc; obtain ⟨_, _, he⟩ := hc; cases he
  | _ => simp [lowC] at hc
theorem awp_skip (h : Q .normal fr σ) : AWp P .skip Q fr σ := by
  intro c hc ro hro B G a w D hs
  cases c with
  | skip => exact wpIn_skip ⟨G, fr, σ, GLe.refl _ G, hs, h⟩
  | seq x y => simp only [lowC] at hc; split at hc <;> cases hc
  | cond x y z => simp only [lowC] at hc; split at hc <;> cases hc
  | rangeFunc x y z u => simp only [lowC] at hc; split at hc <;> cases hc
  | region x y z => simp only [lowC, Option.map_eq_some_iff] at hc; obtain ⟨_, _, he⟩ := hc; cases he
  | block x y => simp only [lowC, Option.map_eq_some_iff] at hc; obtain ⟨_, _, he⟩ := hc; cases he
  | loop x => simp only [lowC, Option.map_eq_some_iff] at hc; obtain ⟨_, _, he⟩ := hc; cases he
  | _ => simp [lowC] at hc
theorem awp_ret (h : Q .ret fr σ) : AWp P .ret Q fr σ := by
  intro c hc ro hro B G a w D hs
  cases c with
  | ret => exact wpIn_ret ⟨G, fr, σ, GLe.refl _ G, hs, h⟩
  | seq x y => simp only [lowC] at hc; split at hc <;> cases hc
  | cond x y z => simp only [lowC] at hc; split at hc <;> cases hc
  | rangeFunc x y z u => simp only [lowC] at hc; split at hc <;> cases hc
  | region x y z => simp only [lowC, Option.map_eq_some_iff] at hc; obtain ⟨_, _, he⟩ := hc; cases he
  | block x y => simp only [lowC, Option.map_eq_some_iff] at hc; obtain ⟨_, _, he⟩ := hc; cases he
  | loop x => simp only [lowC, Option.map_eq_some_iff] at hc; obtain ⟨_, _, he⟩ := hc; cases he
  | _ => simp [lowC] at hc
theorem awp_exit {id : Nat} (h : Q (.exit id) fr σ) : AWp P (.exit id) Q fr σ := by
  intro c hc ro hro B G a w D hs
  cases c with
  | exit i => simp [lowC] at hc; subst hc; exact wpIn_exit ⟨G, fr, σ, GLe.refl _ G, hs, h⟩
  | seq x y => simp only [lowC] at hc; split at hc <;> cases hc
  | cond x y z => simp only [lowC] at hc; split at hc <;> cases hc
  | rangeFunc x y z u => simp only [lowC] at hc; split at hc <;> cases hc
  | region x y z => simp only [lowC, Option.map_eq_some_iff] at hc; obtain ⟨_, _, he⟩ := hc; cases he
  | block x y => simp only [lowC, Option.map_eq_some_iff] at hc; obtain ⟨_, _, he⟩ := hc; cases he
  | loop x => simp only [lowC, Option.map_eq_some_iff] at hc; obtain ⟨_, _, he⟩ := hc; cases he
  | _ => simp [lowC] at hc
def thenQ (K : List AV → Store → Prop) (Q : AQ) : AQ
  | .normal, fr, σ => K fr σ
  | e, fr, σ => Q e fr σ
theorem awp_seq {x y : LC} (h : AWp P x (thenQ (fun fr σ => AWp P y Q fr σ) Q) fr σ) : AWp P (.seq x y) Q fr σ := by
  intro c hc ro hro B G a w D hs
  cases c with
  | seq cx cy =>
    simp only [lowC] at hc
    split at hc
    · rename_i x' y' hx hy
      cases hc
      have hf : ro.isSome = true → x.flat = true ∧ y.flat = true := fun e => by simpa [LC.flat] using hro e
      refine wpIn_seq (wpIn_mono (h cx hx ro (fun e => (hf e).1) B G a w D hs) ?_)
      rintro e a' w' ⟨G', fr', σ', hle, hs', hq⟩
      cases e with
      | normal => exact wpIn_mono (hq cy hy ro (fun e => (hf e).2) B G' a' w' D hs') (fun e a2 w2 ⟨G2, fr2, σ2, h2, h3, h4⟩ => ⟨G2, fr2, σ2, hle.trans h2, h3, h4⟩)
      | _ => exact ⟨G', fr', σ', hle, hs', hq⟩
    · cases hc
  | cond x y z => simp only [lowC] at hc; split at hc <;> cases hc
  | rangeFunc x y z u => simp only [lowC] at hc; split at hc <;> cases hc
  | region x y z => simp only [lowC, Option.map_eq_some_iff] at hc; obtain ⟨_, _, he⟩ := hc; cases he
  | block x y => simp only [lowC, Option.map_eq_some_iff] at hc; obtain ⟨_, _, he⟩ := hc; cases he
  | loop x => simp only [lowC, Option.map_eq_some_iff] at hc; obtain ⟨_, _, he⟩ := hc; cases he
  | _ => simp [lowC] at hc
theorem awp_cond {x : X} {y z : LC} {t : Bool} (ht : aev fr x = .b t) (h1 : t = true → AWp P y Q fr σ) (h2 : t = false → AWp P z Q fr σ) : AWp P (.cond x y z) Q fr σ := by
  intro c hc ro hro B G a w D hs
  cases c with
  | cond co cy cz =>
    simp only [lowC] at hc
    split at hc
    · rename_i x' y' z' hx hy hz
      cases hc
      have := opnds_of hs.fr co x hx
      rw [ht] at this
      generalize hu : a.eval co = u at this
      cases this
      have hf : ro.isSome = true → y.flat = true ∧ z.flat = true := fun e => by simpa [LC.flat] using hro e
      refine wpIn_cond_split hu (fun e => h1 e cy hy ro (fun e => (hf e).1) B G a w D hs) (fun e => h2 e cz hz ro (fun e => (hf e).2) B G a w D hs)
    · cases hc
  | seq x y => simp only [lowC] at hc; split at hc <;> cases hc
  | rangeFunc x y z u => simp only [lowC] at hc; split at hc <;> cases hc
  | region x y z => simp only [lowC, Option.map_eq_some_iff] at hc; obtain ⟨_, _, he⟩ := hc; cases he
  | block x y => simp only [lowC, Option.map_eq_some_iff] at hc; obtain ⟨_, _, he⟩ := hc; cases he
  | loop x => simp only [lowC, Option.map_eq_some_iff] at hc; obtain ⟨_, _, he⟩ := hc; cases he
  | _ => simp [lowC] at hc
def blockQ (id : Nat) (Q : AQ) : AQ
  | .exit id', fr, σ => if id' = id then Q .normal fr σ else Q (.exit id') fr σ
  | e, fr, σ => Q e fr σ
theorem awp_block {id : Nat} {x : LC} (h : AWp P x (blockQ id Q) fr σ) : AWp P (.block id x) Q fr σ := by
  intro c hc ro hro B G a w D hs
  cases c with
  | block i cx =>
    simp only [lowC, Option.map_eq_some_iff] at hc
    obtain ⟨x', hx, he⟩ := hc
    cases he
    refine wpIn_block (wpIn_mono (h cx hx ro hro B G a w D hs) ?_)
    rintro e a' w' ⟨G', fr', σ', hle, hs', hq⟩
    cases e with
    | exit id' =>
      simp only [blockQ] at hq
      simp only [Exit.inBlock]
      split
      · rename_i e; rw [if_pos e] at hq; exact ⟨G', fr', σ', hle, hs', hq⟩
      · rename_i e; rw [if_neg e] at hq; exact ⟨G', fr', σ', hle, hs', hq⟩
    | _ => exact ⟨G', fr', σ', hle, hs', hq⟩
  | seq x y => simp only [lowC] at hc; split at hc <;> cases hc
  | cond x y z => simp only [lowC] at hc; split at hc <;> cases hc
  | rangeFunc x y z u => simp only [lowC] at hc; split at hc <;> cases hc
  | region x y z => simp only [lowC, Option.map_eq_some_iff] at hc; obtain ⟨_, _, he⟩ := hc; cases he
  | loop x => simp only [lowC, Option.map_eq_some_iff] at hc; obtain ⟨_, _, he⟩ := hc; cases he
  | _ => simp [lowC] at hc
theorem awp_mono {lc : LC} {Q' : AQ} (h : AWp P lc Q fr σ) (hq : ∀ e fr σ, Q e fr σ → Q' e fr σ) : AWp P lc Q' fr σ := by
  intro c hc ro hro B G a w D hs
  exact wpIn_mono (h c hc ro hro B G a w D hs) (fun e a' w' ⟨G', fr', σ', h1, h2, h3⟩ => ⟨G', fr', σ', h1, h2, hq _ _ _ h3⟩)

/-- Less is known of a frame, and of a store. -/
def FrLe (fr fr' : List AV) : Prop := fr.length = fr'.length ∧ ∀ (j : Nat) (y : AV), fr'[j]? = some y → y = .bot ∨ fr[j]? = some y
theorem FrLe.refl (fr : List AV) : FrLe fr fr := ⟨rfl, fun _ _ h => .inr h⟩
theorem FrLe.nil : FrLe [] [] := FrLe.refl _
theorem FrLe.cons {x : AV} {l m : List AV} (h : FrLe l m) : FrLe (x :: l) (x :: m) := ⟨by simp [h.1], fun j y hy => by
  cases j with
  | zero => exact .inr (by simpa using hy)
  | succ j => simpa using h.2 j y (by simpa using hy)⟩
theorem FrLe.bot {x : AV} {l m : List AV} (h : FrLe l m) : FrLe (x :: l) (.bot :: m) := ⟨by simp [h.1], fun j y hy => by
  cases j with
  | zero => exact .inl (by simpa using hy.symm)
  | succ j => simpa using h.2 j y (by simpa using hy)⟩
theorem FrLe.reps {fr' : List AV} {us : List Value} (h : FrLe fr fr') (hr : AReps G fr us) : AReps G fr' us := ⟨h.1 ▸ hr.1, fun j x u hx hu => by
  rcases h.2 j x hx with rfl | h1
  · exact .bot _
  · exact hr.2 j x u h1 hu⟩
def StLe (σ σ' : Store) : Prop := ∀ k o, sget σ' k = some o → sget σ k = some o
theorem StLe.refl (σ : Store) : StLe σ σ := fun _ _ h => h
theorem StLe.nil (σ : Store) : StLe σ [] := fun _ _ h => by simp [sget] at h
theorem awp_weak {lc : LC} {fr' : List AV} {σ' : Store} (hf : FrLe fr fr') (hσ : StLe σ σ') (h : AWp P lc Q fr' σ') : AWp P lc Q fr σ := by
  intro c hc ro hro B G a w D hs
  exact h c hc ro hro B G a w D ⟨hs.mem.sub hσ, hf.reps hs.fr, hs.df⟩

/-- A loop: what holds of frame and store at each round's head is told by a parameter that goes down. -/
theorem awp_loop {α : Type} {x : LC} (F : α → List AV) (S : α → Store) (R : α → Prop) (μ : α → Nat) (x0 : α) (h0 : R x0) (hf : FrLe fr (F x0)) (hσ : StLe σ (S x0))
    (round : ∀ y, R y → AWp P x (thenQ (fun fr' σ' => ∃ z, R z ∧ μ z < μ y ∧ FrLe fr' (F z) ∧ StLe σ' (S z)) Q) (F y) (S y)) : AWp P (.loop x) Q fr σ := by
  intro c hc ro hro B G a w D hs
  cases c with
  | loop cx =>
    simp only [lowC, Option.map_eq_some_iff] at hc
    obtain ⟨x', hx, he⟩ := hc
    cases he
    intro b k cs hb1 hb hr
    have key : ∀ n y G' a w, μ y = n → R y → GLe B.N G G' → Sim B G' a w D (F y) (S y) →
        ∃ e a' w', Post B G D Q e a' w' ∧ ArrivesIn (Machine.fenced P (FW ro)) P (lone (b.atR a (.code cx :: .inLoop cx :: k)) cs w) b k cs e a' w' := by
      intro n
      induction n using Nat.strongRecOn with
      | _ n ih =>
        intro y G' a w hn hR hle hsim
        obtain ⟨e, a₁, w₁, hq, harr⟩ := round y hR cx hx ro hro B G' a w D hsim b (.inLoop cx :: k) cs hb1 hb hr
        obtain ⟨G1, fr1, σ1, hle1, hs1, hq⟩ := hq
        cases e with
        | normal =>
          obtain ⟨z, hz, hlt, hf1, hσ1⟩ := hq
          obtain ⟨e₂, a₂, w₂, hq₂, harr₂⟩ := ih (μ z) (hn ▸ hlt) z G1 a₁ w₁ rfl hz (hle.trans hle1) ⟨hs1.mem.sub hσ1, hf1.reps hs1.fr, hs1.df⟩
          exact ⟨e₂, a₂, w₂, hq₂, .of_steps (StepsIn.trans harr (.one (fenced_calm hb hr rfl) stepR_inLoop)) harr₂⟩
        | exit id => exact ⟨_, a₁, w₁, ⟨G1, fr1, σ1, hle.trans hle1, hs1, hq⟩, .pass (x := .inLoop cx) rfl (fun _ _ => .inl (by simp)) harr⟩
        | goto l => exact ⟨_, a₁, w₁, ⟨G1, fr1, σ1, hle.trans hle1, hs1, hq⟩, .pass (x := .inLoop cx) rfl (fun _ _ => .inl (by simp)) harr⟩
        | ret => exact ⟨_, a₁, w₁, ⟨G1, fr1, σ1, hle.trans hle1, hs1, hq⟩, .pass (x := .inLoop cx) rfl (fun _ _ => .inl (by simp)) harr⟩
        | panic ch => exact ⟨_, a₁, w₁, ⟨G1, fr1, σ1, hle.trans hle1, hs1, hq⟩, .pass (x := .inLoop cx) rfl (fun _ _ => .inl (by simp)) harr⟩
        | outgrown => exact ⟨_, a₁, w₁, ⟨G1, fr1, σ1, hle.trans hle1, hs1, hq⟩, .pass (x := .inLoop cx) rfl (fun _ _ => .inl (by simp)) harr⟩
    obtain ⟨e, a', w', hq, harr⟩ := key _ x0 G a w rfl h0 (GLe.refl _ G) ⟨hs.mem.sub hσ, hf.reps hs.fr, hs.df⟩
    exact ⟨e, a', w', hq, .of_steps (.one (fenced_calm hb hr rfl) stepR_loop) harr⟩
  | seq x y => simp only [lowC] at hc; split at hc <;> cases hc
  | cond x y z => simp only [lowC] at hc; split at hc <;> cases hc
  | rangeFunc x y z u => simp only [lowC] at hc; split at hc <;> cases hc
  | region x y z => simp only [lowC, Option.map_eq_some_iff] at hc; obtain ⟨_, _, he⟩ := hc; cases he
  | block x y => simp only [lowC, Option.map_eq_some_iff] at hc; obtain ⟨_, _, he⟩ := hc; cases he
  | _ => simp [lowC] at hc
end Go.Am
