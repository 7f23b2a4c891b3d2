/-
  No cell of these rows narrows 'for every input' (looked for: loops, veiled, ifaces, maps, wideKeys, modest, calm, conditions, laid).
  DERIVED. THE GIVEN ROWS OF THIS SEAT. 3 by the template 'for every input the law returns true; each argument reads behind the call as it read before'; 0 by the template 'total and deterministic' (their statements: YtibkakodokbobaaTotals.lean).
  GIVEN WITH THE SEED: the statements are not yours to turn. If you find one false, say at which input.
  Laid BY PROGRAM, IN A SANDBOX (cutbox-rows.mjs): the forced cells as the released guide's own fill.sh prints them over the translation 3e0be6fc0a862b9d… (all of the seat's roots in one cut). By AI agents, Wed Nov 11 2026. No macro, syntax, notation, axiom, sorry.
-/
import Derived.Test.YtibkakodokbobaaChecked
import GoSem.Claim
import GoSem.ClaimJoined
import GoSem.ClaimMapViews
import Derived.JoinedTies
import Derived.KernelRfl
namespace Go.Proofs.Ytibkakodokbobaa
/- THE CELL 'sum', in the pinned program and in every row, IS THE sha256 OF THE DUMP (.gsa) THAT YtibkakodokbobaaProg.lean LOADS. Nothing in Lean hashes anything: it is a label: what it is worth is what the hold of that sum in a sandbox is worth. -/
noncomputable def Try.pinned : Pinned := { name := "ytibkakodokbobaa", sum := "3e0be6fc0a862b9d611fc81fb14e4267933190020c063dcfce61bda33fd4b072", checked := Try.checked }
namespace Rows
def none {H : Type} : Left H := { results := [], args := [] }

/-- 'waystonelaw13.ProbeNil': WHATEVER THE INPUT: true; the input reads as it did. -/
def probeNilSpec : ChangeSpec := { name := "probeNil", fn := fun _ => fun
  | [d] => { results := [.lit (.bool true)], args := [d] }
  | _ => none }
def probeNilRow : OpenClaim := { program := "ytibkakodokbobaa", sum := "3e0be6fc0a862b9d611fc81fb14e4267933190020c063dcfce61bda33fd4b072", func := "waystone/waystonelaw13.ProbeNil", spec := "probeNil", unfollowed := true, recurses := true, plainKeys := false, apart := false }
def ProbeNilSaid : Prop := probeNilRow.holds Try.pinned (OpenSpec.ofChange probeNilSpec)

/-- ITS FALSE NEIGHBOUR: 'it returns false'. Refute it at one input. -/
def probeNilWrong : ChangeSpec := { name := "probeNil", fn := fun _ => fun
  | [d] => { results := [.lit (.bool false)], args := [d] }
  | _ => none }
def ProbeNilWrongFalsely : Prop := probeNilRow.holds Try.pinned (OpenSpec.ofChange probeNilWrong)

/-- 'waystonelaw13.ProbeOwn': WHATEVER THE INPUT: true; the input reads as it did. -/
def probeOwnSpec : ChangeSpec := { name := "probeOwn", fn := fun _ => fun
  | [d1, d2, d3] => { results := [.lit (.bool true)], args := [d1, d2, d3] }
  | _ => none }
def probeOwnRow : OpenClaim := { program := "ytibkakodokbobaa", sum := "3e0be6fc0a862b9d611fc81fb14e4267933190020c063dcfce61bda33fd4b072", func := "waystone/waystonelaw13.ProbeOwn", spec := "probeOwn", unfollowed := true, recurses := true, plainKeys := false, apart := false }
def ProbeOwnSaid : Prop := probeOwnRow.holds Try.pinned (OpenSpec.ofChange probeOwnSpec)

/-- ITS FALSE NEIGHBOUR: 'it returns false'. Refute it at one input. -/
def probeOwnWrong : ChangeSpec := { name := "probeOwn", fn := fun _ => fun
  | [d1, d2, d3] => { results := [.lit (.bool false)], args := [d1, d2, d3] }
  | _ => none }
def ProbeOwnWrongFalsely : Prop := probeOwnRow.holds Try.pinned (OpenSpec.ofChange probeOwnWrong)

/-- 'waystonelaw13.ProbeCut': WHATEVER THE INPUT: true; the input reads as it did. -/
def probeCutSpec : ChangeSpec := { name := "probeCut", fn := fun _ => fun
  | [d1, d2, d3] => { results := [.lit (.bool true)], args := [d1, d2, d3] }
  | _ => none }
def probeCutRow : OpenClaim := { program := "ytibkakodokbobaa", sum := "3e0be6fc0a862b9d611fc81fb14e4267933190020c063dcfce61bda33fd4b072", func := "waystone/waystonelaw13.ProbeCut", spec := "probeCut", unfollowed := true, recurses := true, plainKeys := false, apart := false }
def ProbeCutSaid : Prop := probeCutRow.holds Try.pinned (OpenSpec.ofChange probeCutSpec)

/-- ITS FALSE NEIGHBOUR: 'it returns false'. Refute it at one input. -/
def probeCutWrong : ChangeSpec := { name := "probeCut", fn := fun _ => fun
  | [d1, d2, d3] => { results := [.lit (.bool false)], args := [d1, d2, d3] }
  | _ => none }
def ProbeCutWrongFalsely : Prop := probeCutRow.holds Try.pinned (OpenSpec.ofChange probeCutWrong)

/- THE SECOND FORM. 'bulk': how many values and letters a reading holds, each counted each time it is reached (what is shared counts as often as it is met; a slice's spare places count too). A statement '..UptoSaid' is the law's where the arguments, and the package variables that the reading takes, are together of bulk at most 1048576: NARROWER than '..Said'. Prove '..Said' where nothing that the law and all that it calls make is longer than what came in: it says more and counts as full. Else prove '..UptoSaid'. A law counts once. -/
mutual
def uptoBulk {H : Type} : DataW H → Nat
  | .lit (.string bytes) => bytes.length + 1
  | .lit _ => 1
  | .nil => 1
  | .ptr d => uptoBulk d + 1
  | .slice elems spare => uptoBulkAll elems + uptoBulkAll spare + 1
  | .agg parts => uptoBulkAll parts + 1
  | .iface _ d => uptoBulk d + 1
  | .map entries => uptoBulkEntries entries + 1
  | .held _ => 1
def uptoBulkAll {H : Type} : List (DataW H) → Nat
  | [] => 0
  | d :: r => uptoBulk d + uptoBulkAll r
def uptoBulkEntries {H : Type} : List (Lit × DataW H) → Nat
  | [] => 0
  | x :: r => uptoBulkEntry x + uptoBulkEntries r
def uptoBulkEntry {H : Type} : Lit × DataW H → Nat
  | (.string bytes, d) => bytes.length + uptoBulk d + 1
  | (_, d) => uptoBulk d + 1
 end
def uptoSmall : (H : Type) → List (DataW H) → Bool := fun _ ds => decide (uptoBulkAll ds ≤ 1048576)
def OpenSpec.upto (s : _root_.Go.ChangeSpec) : _root_.Go.OpenSpec := { _root_.Go.OpenSpec.ofChange s with cond := some uptoSmall }

/-- 'waystonelaw13.ProbeNil', WHERE WHAT IT READS IS OF BULK AT MOST 1048576: true; the input reads as it did. -/
def probeNilUptoRow : OpenClaim := { program := "ytibkakodokbobaa", sum := "3e0be6fc0a862b9d611fc81fb14e4267933190020c063dcfce61bda33fd4b072", func := "waystone/waystonelaw13.ProbeNil", spec := "probeNil", unfollowed := true, recurses := true, plainKeys := false, apart := false, narrowed := true }
def ProbeNilUptoSaid : Prop := probeNilUptoRow.holds Try.pinned (OpenSpec.upto probeNilSpec)

/-- 'waystonelaw13.ProbeOwn', WHERE WHAT IT READS IS OF BULK AT MOST 1048576: true; the input reads as it did. -/
def probeOwnUptoRow : OpenClaim := { program := "ytibkakodokbobaa", sum := "3e0be6fc0a862b9d611fc81fb14e4267933190020c063dcfce61bda33fd4b072", func := "waystone/waystonelaw13.ProbeOwn", spec := "probeOwn", unfollowed := true, recurses := true, plainKeys := false, apart := false, narrowed := true }
def ProbeOwnUptoSaid : Prop := probeOwnUptoRow.holds Try.pinned (OpenSpec.upto probeOwnSpec)

/-- 'waystonelaw13.ProbeCut', WHERE WHAT IT READS IS OF BULK AT MOST 1048576: true; the input reads as it did. -/
def probeCutUptoRow : OpenClaim := { program := "ytibkakodokbobaa", sum := "3e0be6fc0a862b9d611fc81fb14e4267933190020c063dcfce61bda33fd4b072", func := "waystone/waystonelaw13.ProbeCut", spec := "probeCut", unfollowed := true, recurses := true, plainKeys := false, apart := false, narrowed := true }
def ProbeCutUptoSaid : Prop := probeCutUptoRow.holds Try.pinned (OpenSpec.upto probeCutSpec)

end Rows
end Go.Proofs.Ytibkakodokbobaa
