/-
  No cell of these rows narrows 'for every input' (looked for: loops, veiled, ifaces, maps, wideKeys, modest, calm, conditions, laid).
  DERIVED. THE GIVEN ROWS OF THIS SEAT. 3 by the template 'for every input the law returns true; each argument reads behind the call as it read before'; 0 by the template 'total and deterministic' (their statements: YtfkofdjpdbfjgaaTotals.lean).
  GIVEN WITH THE SEED: the statements are not yours to turn. If you find one false, say at which input.
  Laid BY PROGRAM, IN A SANDBOX (cutbox-rows.mjs): the forced cells as the released guide's own fill.sh prints them over the translation 75f63a7f363e9824… (all of the seat's roots in one cut). By AI agents, Wed Nov 11 2026. No macro, syntax, notation, axiom, sorry.
-/
import Derived.Test.YtfkofdjpdbfjgaaChecked
import GoSem.Claim
import GoSem.ClaimJoined
import GoSem.ClaimMapViews
import Derived.JoinedTies
import Derived.KernelRfl
namespace Go.Proofs.Ytfkofdjpdbfjgaa
/- THE CELL 'sum', in the pinned program and in every row, IS THE sha256 OF THE DUMP (.gsa) THAT YtfkofdjpdbfjgaaProg.lean LOADS. Nothing in Lean hashes anything: it is a label: what it is worth is what the hold of that sum in a sandbox is worth. -/
noncomputable def Try.pinned : Pinned := { name := "ytfkofdjpdbfjgaa", sum := "75f63a7f363e98249fda5ffb6e45087fa3c1bf4ad3bf7ae31c3fd43622913b05", checked := Try.checked }
namespace Rows
def none {H : Type} : Left H := { results := [], args := [] }

/-- 'cotillionlaw18.PickGuards': WHATEVER THE INPUT: true; the input reads as it did. -/
def pickGuardsSpec : ChangeSpec := { name := "pickGuards", fn := fun _ => fun
  | [d1, d2, d3] => { results := [.lit (.bool true)], args := [d1, d2, d3] }
  | _ => none }
def pickGuardsRow : OpenClaim := { program := "ytfkofdjpdbfjgaa", sum := "75f63a7f363e98249fda5ffb6e45087fa3c1bf4ad3bf7ae31c3fd43622913b05", func := "cotillion/cotillionlaw18.PickGuards", spec := "pickGuards", unfollowed := true, recurses := true, apart := false }
def PickGuardsSaid : Prop := pickGuardsRow.holds Try.pinned (OpenSpec.ofChange pickGuardsSpec)

/-- ITS FALSE NEIGHBOUR: 'it returns false'. Refute it at one input. -/
def pickGuardsWrong : ChangeSpec := { name := "pickGuards", fn := fun _ => fun
  | [d1, d2, d3] => { results := [.lit (.bool false)], args := [d1, d2, d3] }
  | _ => none }
def PickGuardsWrongFalsely : Prop := pickGuardsRow.holds Try.pinned (OpenSpec.ofChange pickGuardsWrong)

/-- 'cotillionlaw19.MicroComes': WHATEVER THE INPUT: true; the input reads as it did. -/
def microComesSpec : ChangeSpec := { name := "microComes", fn := fun _ => fun
  | [d1, d2, d3] => { results := [.lit (.bool true)], args := [d1, d2, d3] }
  | _ => none }
def microComesRow : OpenClaim := { program := "ytfkofdjpdbfjgaa", sum := "75f63a7f363e98249fda5ffb6e45087fa3c1bf4ad3bf7ae31c3fd43622913b05", func := "cotillion/cotillionlaw19.MicroComes", spec := "microComes", inPlace := ["slices.overlaps[int]"], unfollowed := true, recurses := true, apart := false }
def MicroComesSaid : Prop := microComesRow.holds Try.pinned (OpenSpec.ofChange microComesSpec)

/-- ITS FALSE NEIGHBOUR: 'it returns false'. Refute it at one input. -/
def microComesWrong : ChangeSpec := { name := "microComes", fn := fun _ => fun
  | [d1, d2, d3] => { results := [.lit (.bool false)], args := [d1, d2, d3] }
  | _ => none }
def MicroComesWrongFalsely : Prop := microComesRow.holds Try.pinned (OpenSpec.ofChange microComesWrong)

/-- 'cotillionlaw20.MacroChain': WHATEVER THE INPUT: true; the input reads as it did. -/
def macroChainSpec : ChangeSpec := { name := "macroChain", fn := fun _ => fun
  | [d1, d2] => { results := [.lit (.bool true)], args := [d1, d2] }
  | _ => none }
def macroChainRow : OpenClaim := { program := "ytfkofdjpdbfjgaa", sum := "75f63a7f363e98249fda5ffb6e45087fa3c1bf4ad3bf7ae31c3fd43622913b05", func := "cotillion/cotillionlaw20.MacroChain", spec := "macroChain", inPlace := ["slices.overlaps[int]"], unfollowed := true, recurses := true, apart := false }
def MacroChainSaid : Prop := macroChainRow.holds Try.pinned (OpenSpec.ofChange macroChainSpec)

/-- ITS FALSE NEIGHBOUR: 'it returns false'. Refute it at one input. -/
def macroChainWrong : ChangeSpec := { name := "macroChain", fn := fun _ => fun
  | [d1, d2] => { results := [.lit (.bool false)], args := [d1, d2] }
  | _ => none }
def MacroChainWrongFalsely : Prop := macroChainRow.holds Try.pinned (OpenSpec.ofChange macroChainWrong)

/- THE SECOND FORM. 'bulk': how many values and letters a reading holds, each counted each time it is reached (what is shared counts as often as it is met; a slice's spare places count too). A statement '..UptoSaid' is the law's where the arguments, and the package variables that the reading takes, are together of bulk at most 1048576: NARROWER than '..Said'. Prove '..Said' where nothing that the law and all that it calls make is longer than what came in: it says more and counts as full. Else prove '..UptoSaid'. A law counts once. -/
mutual
def uptoBulk {H : Type} : DataW H → Nat
  | .lit (.string bytes) => bytes.length + 1
  | .lit _ => 1
  | .nil => 1
  | .ptr d => uptoBulk d + 1
  | .slice elems spare => uptoBulkAll elems + uptoBulkAll spare + 1
  | .agg parts => uptoBulkAll parts + 1
  | .iface _ d => uptoBulk d + 1
  | .map entries => uptoBulkEntries entries + 1
  | .held _ => 1
def uptoBulkAll {H : Type} : List (DataW H) → Nat
  | [] => 0
  | d :: r => uptoBulk d + uptoBulkAll r
def uptoBulkEntries {H : Type} : List (Lit × DataW H) → Nat
  | [] => 0
  | x :: r => uptoBulkEntry x + uptoBulkEntries r
def uptoBulkEntry {H : Type} : Lit × DataW H → Nat
  | (.string bytes, d) => bytes.length + uptoBulk d + 1
  | (_, d) => uptoBulk d + 1
 end
def uptoSmall : (H : Type) → List (DataW H) → Bool := fun _ ds => decide (uptoBulkAll ds ≤ 1048576)
def OpenSpec.upto (s : _root_.Go.ChangeSpec) : _root_.Go.OpenSpec := { _root_.Go.OpenSpec.ofChange s with cond := some uptoSmall }

/-- 'cotillionlaw18.PickGuards', WHERE WHAT IT READS IS OF BULK AT MOST 1048576: true; the input reads as it did. -/
def pickGuardsUptoRow : OpenClaim := { program := "ytfkofdjpdbfjgaa", sum := "75f63a7f363e98249fda5ffb6e45087fa3c1bf4ad3bf7ae31c3fd43622913b05", func := "cotillion/cotillionlaw18.PickGuards", spec := "pickGuards", unfollowed := true, recurses := true, apart := false, narrowed := true }
def PickGuardsUptoSaid : Prop := pickGuardsUptoRow.holds Try.pinned (OpenSpec.upto pickGuardsSpec)

/-- 'cotillionlaw19.MicroComes', WHERE WHAT IT READS IS OF BULK AT MOST 1048576: true; the input reads as it did. -/
def microComesUptoRow : OpenClaim := { program := "ytfkofdjpdbfjgaa", sum := "75f63a7f363e98249fda5ffb6e45087fa3c1bf4ad3bf7ae31c3fd43622913b05", func := "cotillion/cotillionlaw19.MicroComes", spec := "microComes", inPlace := ["slices.overlaps[int]"], unfollowed := true, recurses := true, apart := false, narrowed := true }
def MicroComesUptoSaid : Prop := microComesUptoRow.holds Try.pinned (OpenSpec.upto microComesSpec)

/-- 'cotillionlaw20.MacroChain', WHERE WHAT IT READS IS OF BULK AT MOST 1048576: true; the input reads as it did. -/
def macroChainUptoRow : OpenClaim := { program := "ytfkofdjpdbfjgaa", sum := "75f63a7f363e98249fda5ffb6e45087fa3c1bf4ad3bf7ae31c3fd43622913b05", func := "cotillion/cotillionlaw20.MacroChain", spec := "macroChain", inPlace := ["slices.overlaps[int]"], unfollowed := true, recurses := true, apart := false, narrowed := true }
def MacroChainUptoSaid : Prop := macroChainUptoRow.holds Try.pinned (OpenSpec.upto macroChainSpec)

end Rows
end Go.Proofs.Ytfkofdjpdbfjgaa
