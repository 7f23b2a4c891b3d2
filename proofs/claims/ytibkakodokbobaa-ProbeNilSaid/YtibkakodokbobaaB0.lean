import Derived.Test.YtibkakodokbobaaK4
import Derived.Test.YtibkakodokbobaaC0
import Derived.Test.YtibkakodokbobaaC1
import Derived.Test.YtibkakodokbobaaC2
import Derived.Test.YtibkakodokbobaaC3
namespace Go.Proofs.Ytibkakodokbobaa
open Go.Am
set_option maxRecDepth 100000
set_option linter.unusedSimpArgs false
set_option linter.unusedVariables false
theorem pB0_ {A : Prop} (h : A := by (simp only [List.forall_mem_cons, List.forall_mem_nil, List.not_mem_nil, false_imp_iff, implies_true, List.forall_mem_map, pure_b, pure_i, pure_s, pure_nilp, pure_nilf, pure_esl, pure_ref, pure_sl, pure_ag, pure_tu, pure_fn, and_self, and_true, true_and, eRules_pure, ePorts_pure, eLinks_pure]; done)) : A := h
/-! ### The ground: whole numbers in range; rules, links, networks as values -/
theorem mix : Try.prog.follows .mixedOrders = true := by kernel_rfl
theorem wrap64 {n : Int} (h : -9223372036854775808 ≤ n) (k : n < 9223372036854775808) : IntKind.wrap .i64 n = n := by
  simp [IntKind.wrap, IntKind.signed, IntKind.bits]
  split <;> omega
theorem wrapS {j : Nat} {n : Nat} (h : j < n) (k : n < 4611686018427387904) : IntKind.wrap .i64 ((j : Int) + 1) = ((j + 1 : Nat) : Int) := by
  rw [wrap64 (by omega) (by omega)]; rfl
def eI (n : Int) : List AV := [.i .i64 n]
theorem wrapU64 {n : Int} (h : 0 ≤ n) (k : n < 18446744073709551616) : IntKind.wrap .u64 n = n := by
  simp [IntKind.wrap, IntKind.signed, IntKind.bits]
  omega
/-! ### Rules, networks -/
structure Rule where
  id : Int
  dev : Int
  prio : Int
  kind : Int
  f : Int
  t : Int
  port : Int
  deriving DecidableEq, Inhabited
def Rule.row (r : Rule) : List AV := [.i .i64 r.id, .i .i64 r.dev, .i .i64 r.prio, .i .i64 r.kind, .i .u32 r.f, .i .u32 r.t, .i .i64 r.port]
/-- Two ports that are joined. -/
structure Link where
  d1 : Int
  p1 : Int
  d2 : Int
  p2 : Int
  deriving DecidableEq, Inhabited
def Link.row (l : Link) : List AV := [.i .i64 l.d1, .i .i64 l.p1, .i .i64 l.d2, .i .i64 l.p2]
structure Net where
  ports : List Int
  links : List Link
  rules : List Rule
  deriving Inhabited
def eRules (l : List Rule) : AV := .sl (l.map Rule.row)
def ePorts (l : List Int) : AV := .sl (l.map eI)
def eLinks (l : List Link) : AV := .sl (l.map Link.row)
def Net.row (n : Net) : List AV := [ePorts n.ports, eLinks n.links, eRules n.rules]
def eRange (p : Int × Int) : List AV := [.i .u32 p.1, .i .u32 p.2]
theorem eRules_Pure (l : List Rule) : Pure (eRules l) := .sl _ (by simp [Rule.row, pure_i])
theorem ePorts_Pure (l : List Int) : Pure (ePorts l) := .sl _ (by simp [eI, pure_i])
theorem eLinks_Pure (l : List Link) : Pure (eLinks l) := .sl _ (by simp [Link.row, pure_i])
theorem eRules_pure (l : List Rule) : Pure (eRules l) ↔ True := ⟨fun _ => trivial, fun _ => eRules_Pure l⟩
theorem ePorts_pure (l : List Int) : Pure (ePorts l) ↔ True := ⟨fun _ => trivial, fun _ => ePorts_Pure l⟩
theorem eLinks_pure (l : List Link) : Pure (eLinks l) ↔ True := ⟨fun _ => trivial, fun _ => eLinks_Pure l⟩
theorem eRules_cells (l : List Rule) : (eRules l).cells = some [eRules l] := rfl
theorem ePorts_cells (l : List Int) : (ePorts l).cells = some [ePorts l] := rfl
theorem eLinks_cells (l : List Link) : (eLinks l).cells = some [eLinks l] := rfl
theorem eRules_one (l : List Rule) : (eRules l).one = true := rfl
theorem ePorts_one (l : List Int) : (ePorts l).one = true := rfl
theorem eLinks_one (l : List Link) : (eLinks l).one = true := rfl
def Rule.ok (r : Rule) : Prop := 0 ≤ r.f ∧ r.f ≤ r.t ∧ r.t < 4294967296
end Go.Proofs.Ytibkakodokbobaa
