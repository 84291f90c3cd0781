/-
  No cell of these rows narrows 'for every input' (looked for: loops, veiled, ifaces, maps, wideKeys, modest, calm, conditions, laid).
  DERIVED. THE GIVEN ROWS OF THIS SEAT. 11 by the template 'for every input the law returns true; each argument reads behind the call as it read before'; 0 by the template 'total and deterministic' (their statements: YtdfjodnkplbffaaTotals.lean).
  GIVEN WITH THE SEED: the statements are not yours to turn. If you find one false, say at which input.
  Laid BY PROGRAM, IN A SANDBOX (cutbox-rows.mjs): the forced cells as the released guide's own fill.sh prints them over the translation 86ac0ac3d516ad33… (all of the seat's roots in one cut). By AI agents, Wed Nov 11 2026. No macro, syntax, notation, axiom, sorry.
-/
import Derived.Test.YtdfjodnkplbffaaChecked
import GoSem.Claim
import GoSem.ClaimJoined
import GoSem.ClaimMapViews
import Derived.JoinedTies
import Derived.KernelRfl
namespace Go.Proofs.Ytdfjodnkplbffaa
/- THE CELL 'sum', in the pinned program and in every row, IS THE sha256 OF THE DUMP (.gsa) THAT YtdfjodnkplbffaaProg.lean LOADS. Nothing in Lean hashes anything: it is a label: what it is worth is what the hold of that sum in a sandbox is worth. -/
noncomputable def Try.pinned : Pinned := { name := "ytdfjodnkplbffaa", sum := "86ac0ac3d516ad332196bda269702b3e757e4e57af90de8a0657740576d3d03a", checked := Try.checked }
namespace Rows
def none {H : Type} : Left H := { results := [], args := [] }

/-- 'cotillionlaw16.CodeBlocks': WHATEVER THE INPUT: true; the input reads as it did. -/
def codeBlocksSpec : ChangeSpec := { name := "codeBlocks", fn := fun _ => fun
  | [d] => { results := [.lit (.bool true)], args := [d] }
  | _ => none }
def codeBlocksRow : OpenClaim := { program := "ytdfjodnkplbffaa", sum := "86ac0ac3d516ad332196bda269702b3e757e4e57af90de8a0657740576d3d03a", func := "cotillion/cotillionlaw16.CodeBlocks", spec := "codeBlocks", unfollowed := true, recurses := true, apart := false }
def CodeBlocksSaid : Prop := codeBlocksRow.holds Try.pinned (OpenSpec.ofChange codeBlocksSpec)

/-- ITS FALSE NEIGHBOUR: 'it returns false'. Refute it at one input. -/
def codeBlocksWrong : ChangeSpec := { name := "codeBlocks", fn := fun _ => fun
  | [d] => { results := [.lit (.bool false)], args := [d] }
  | _ => none }
def CodeBlocksWrongFalsely : Prop := codeBlocksRow.holds Try.pinned (OpenSpec.ofChange codeBlocksWrong)

/-- 'cotillionlaw16.CodeCounts': WHATEVER THE INPUT: true; the input reads as it did. -/
def codeCountsSpec : ChangeSpec := { name := "codeCounts", fn := fun _ => fun
  | [d1, d2] => { results := [.lit (.bool true)], args := [d1, d2] }
  | _ => none }
def codeCountsRow : OpenClaim := { program := "ytdfjodnkplbffaa", sum := "86ac0ac3d516ad332196bda269702b3e757e4e57af90de8a0657740576d3d03a", func := "cotillion/cotillionlaw16.CodeCounts", spec := "codeCounts", unfollowed := true, recurses := true, apart := false }
def CodeCountsSaid : Prop := codeCountsRow.holds Try.pinned (OpenSpec.ofChange codeCountsSpec)

/-- ITS FALSE NEIGHBOUR: 'it returns false'. Refute it at one input. -/
def codeCountsWrong : ChangeSpec := { name := "codeCounts", fn := fun _ => fun
  | [d1, d2] => { results := [.lit (.bool false)], args := [d1, d2] }
  | _ => none }
def CodeCountsWrongFalsely : Prop := codeCountsRow.holds Try.pinned (OpenSpec.ofChange codeCountsWrong)

/-- 'cotillionlaw16.CodeJumps': WHATEVER THE INPUT: true; the input reads as it did. -/
def codeJumpsSpec : ChangeSpec := { name := "codeJumps", fn := fun _ => fun
  | [d] => { results := [.lit (.bool true)], args := [d] }
  | _ => none }
def codeJumpsRow : OpenClaim := { program := "ytdfjodnkplbffaa", sum := "86ac0ac3d516ad332196bda269702b3e757e4e57af90de8a0657740576d3d03a", func := "cotillion/cotillionlaw16.CodeJumps", spec := "codeJumps", unfollowed := true, recurses := true, apart := false }
def CodeJumpsSaid : Prop := codeJumpsRow.holds Try.pinned (OpenSpec.ofChange codeJumpsSpec)

/-- ITS FALSE NEIGHBOUR: 'it returns false'. Refute it at one input. -/
def codeJumpsWrong : ChangeSpec := { name := "codeJumps", fn := fun _ => fun
  | [d] => { results := [.lit (.bool false)], args := [d] }
  | _ => none }
def CodeJumpsWrongFalsely : Prop := codeJumpsRow.holds Try.pinned (OpenSpec.ofChange codeJumpsWrong)

/-- 'cotillionlaw16.CodeLoops': WHATEVER THE INPUT: true; the input reads as it did. -/
def codeLoopsSpec : ChangeSpec := { name := "codeLoops", fn := fun _ => fun
  | [d1, d2] => { results := [.lit (.bool true)], args := [d1, d2] }
  | _ => none }
def codeLoopsRow : OpenClaim := { program := "ytdfjodnkplbffaa", sum := "86ac0ac3d516ad332196bda269702b3e757e4e57af90de8a0657740576d3d03a", func := "cotillion/cotillionlaw16.CodeLoops", spec := "codeLoops", unfollowed := true, recurses := true, apart := false }
def CodeLoopsSaid : Prop := codeLoopsRow.holds Try.pinned (OpenSpec.ofChange codeLoopsSpec)

/-- ITS FALSE NEIGHBOUR: 'it returns false'. Refute it at one input. -/
def codeLoopsWrong : ChangeSpec := { name := "codeLoops", fn := fun _ => fun
  | [d1, d2] => { results := [.lit (.bool false)], args := [d1, d2] }
  | _ => none }
def CodeLoopsWrongFalsely : Prop := codeLoopsRow.holds Try.pinned (OpenSpec.ofChange codeLoopsWrong)

/-- 'cotillionlaw16.CodeGuards': WHATEVER THE INPUT: true; the input reads as it did. -/
def codeGuardsSpec : ChangeSpec := { name := "codeGuards", fn := fun _ => fun
  | [d] => { results := [.lit (.bool true)], args := [d] }
  | _ => none }
def codeGuardsRow : OpenClaim := { program := "ytdfjodnkplbffaa", sum := "86ac0ac3d516ad332196bda269702b3e757e4e57af90de8a0657740576d3d03a", func := "cotillion/cotillionlaw16.CodeGuards", spec := "codeGuards", unfollowed := true, recurses := true, apart := false }
def CodeGuardsSaid : Prop := codeGuardsRow.holds Try.pinned (OpenSpec.ofChange codeGuardsSpec)

/-- ITS FALSE NEIGHBOUR: 'it returns false'. Refute it at one input. -/
def codeGuardsWrong : ChangeSpec := { name := "codeGuards", fn := fun _ => fun
  | [d] => { results := [.lit (.bool false)], args := [d] }
  | _ => none }
def CodeGuardsWrongFalsely : Prop := codeGuardsRow.holds Try.pinned (OpenSpec.ofChange codeGuardsWrong)

/-- 'cotillionlaw17.EvalRuns': WHATEVER THE INPUT: true; the input reads as it did. -/
def evalRunsSpec : ChangeSpec := { name := "evalRuns", fn := fun _ => fun
  | [d1, d2, d3, d4, d5, d6, d7] => { results := [.lit (.bool true)], args := [d1, d2, d3, d4, d5, d6, d7] }
  | _ => none }
def evalRunsRow : OpenClaim := { program := "ytdfjodnkplbffaa", sum := "86ac0ac3d516ad332196bda269702b3e757e4e57af90de8a0657740576d3d03a", func := "cotillion/cotillionlaw17.EvalRuns", spec := "evalRuns", unfollowed := true, recurses := true, apart := false }
def EvalRunsSaid : Prop := evalRunsRow.holds Try.pinned (OpenSpec.ofChange evalRunsSpec)

/-- ITS FALSE NEIGHBOUR: 'it returns false'. Refute it at one input. -/
def evalRunsWrong : ChangeSpec := { name := "evalRuns", fn := fun _ => fun
  | [d1, d2, d3, d4, d5, d6, d7] => { results := [.lit (.bool false)], args := [d1, d2, d3, d4, d5, d6, d7] }
  | _ => none }
def EvalRunsWrongFalsely : Prop := evalRunsRow.holds Try.pinned (OpenSpec.ofChange evalRunsWrong)

/-- 'cotillionlaw17.EvalFuel': WHATEVER THE INPUT: true; the input reads as it did. -/
def evalFuelSpec : ChangeSpec := { name := "evalFuel", fn := fun _ => fun
  | [d1, d2, d3, d4, d5] => { results := [.lit (.bool true)], args := [d1, d2, d3, d4, d5] }
  | _ => none }
def evalFuelRow : OpenClaim := { program := "ytdfjodnkplbffaa", sum := "86ac0ac3d516ad332196bda269702b3e757e4e57af90de8a0657740576d3d03a", func := "cotillion/cotillionlaw17.EvalFuel", spec := "evalFuel", unfollowed := true, recurses := true, apart := false }
def EvalFuelSaid : Prop := evalFuelRow.holds Try.pinned (OpenSpec.ofChange evalFuelSpec)

/-- ITS FALSE NEIGHBOUR: 'it returns false'. Refute it at one input. -/
def evalFuelWrong : ChangeSpec := { name := "evalFuel", fn := fun _ => fun
  | [d1, d2, d3, d4, d5] => { results := [.lit (.bool false)], args := [d1, d2, d3, d4, d5] }
  | _ => none }
def EvalFuelWrongFalsely : Prop := evalFuelRow.holds Try.pinned (OpenSpec.ofChange evalFuelWrong)

/-- 'cotillionlaw17.EvalMost': WHATEVER THE INPUT: true; the input reads as it did. -/
def evalMostSpec : ChangeSpec := { name := "evalMost", fn := fun _ => fun
  | [d1, d2, d3, d4, d5] => { results := [.lit (.bool true)], args := [d1, d2, d3, d4, d5] }
  | _ => none }
def evalMostRow : OpenClaim := { program := "ytdfjodnkplbffaa", sum := "86ac0ac3d516ad332196bda269702b3e757e4e57af90de8a0657740576d3d03a", func := "cotillion/cotillionlaw17.EvalMost", spec := "evalMost", unfollowed := true, recurses := true, apart := false }
def EvalMostSaid : Prop := evalMostRow.holds Try.pinned (OpenSpec.ofChange evalMostSpec)

/-- ITS FALSE NEIGHBOUR: 'it returns false'. Refute it at one input. -/
def evalMostWrong : ChangeSpec := { name := "evalMost", fn := fun _ => fun
  | [d1, d2, d3, d4, d5] => { results := [.lit (.bool false)], args := [d1, d2, d3, d4, d5] }
  | _ => none }
def EvalMostWrongFalsely : Prop := evalMostRow.holds Try.pinned (OpenSpec.ofChange evalMostWrong)

/-- 'cotillionlaw17.EvalTruths': WHATEVER THE INPUT: true; the input reads as it did. -/
def evalTruthsSpec : ChangeSpec := { name := "evalTruths", fn := fun _ => fun
  | [d1, d2, d3] => { results := [.lit (.bool true)], args := [d1, d2, d3] }
  | _ => none }
def evalTruthsRow : OpenClaim := { program := "ytdfjodnkplbffaa", sum := "86ac0ac3d516ad332196bda269702b3e757e4e57af90de8a0657740576d3d03a", func := "cotillion/cotillionlaw17.EvalTruths", spec := "evalTruths", unfollowed := true, recurses := true, apart := false }
def EvalTruthsSaid : Prop := evalTruthsRow.holds Try.pinned (OpenSpec.ofChange evalTruthsSpec)

/-- ITS FALSE NEIGHBOUR: 'it returns false'. Refute it at one input. -/
def evalTruthsWrong : ChangeSpec := { name := "evalTruths", fn := fun _ => fun
  | [d1, d2, d3] => { results := [.lit (.bool false)], args := [d1, d2, d3] }
  | _ => none }
def EvalTruthsWrongFalsely : Prop := evalTruthsRow.holds Try.pinned (OpenSpec.ofChange evalTruthsWrong)

/-- 'cotillionlaw17.EvalOver': WHATEVER THE INPUT: true; the input reads as it did. -/
def evalOverSpec : ChangeSpec := { name := "evalOver", fn := fun _ => fun
  | [d1, d2, d3] => { results := [.lit (.bool true)], args := [d1, d2, d3] }
  | _ => none }
def evalOverRow : OpenClaim := { program := "ytdfjodnkplbffaa", sum := "86ac0ac3d516ad332196bda269702b3e757e4e57af90de8a0657740576d3d03a", func := "cotillion/cotillionlaw17.EvalOver", spec := "evalOver", unfollowed := true, recurses := true, apart := false }
def EvalOverSaid : Prop := evalOverRow.holds Try.pinned (OpenSpec.ofChange evalOverSpec)

/-- ITS FALSE NEIGHBOUR: 'it returns false'. Refute it at one input. -/
def evalOverWrong : ChangeSpec := { name := "evalOver", fn := fun _ => fun
  | [d1, d2, d3] => { results := [.lit (.bool false)], args := [d1, d2, d3] }
  | _ => none }
def EvalOverWrongFalsely : Prop := evalOverRow.holds Try.pinned (OpenSpec.ofChange evalOverWrong)

/-- 'cotillionlaw17.EvalOwn': WHATEVER THE INPUT: true; the input reads as it did. -/
def evalOwnSpec : ChangeSpec := { name := "evalOwn", fn := fun _ => fun
  | [d1, d2, d3] => { results := [.lit (.bool true)], args := [d1, d2, d3] }
  | _ => none }
def evalOwnRow : OpenClaim := { program := "ytdfjodnkplbffaa", sum := "86ac0ac3d516ad332196bda269702b3e757e4e57af90de8a0657740576d3d03a", func := "cotillion/cotillionlaw17.EvalOwn", spec := "evalOwn", unfollowed := true, recurses := true, apart := false }
def EvalOwnSaid : Prop := evalOwnRow.holds Try.pinned (OpenSpec.ofChange evalOwnSpec)

/-- ITS FALSE NEIGHBOUR: 'it returns false'. Refute it at one input. -/
def evalOwnWrong : ChangeSpec := { name := "evalOwn", fn := fun _ => fun
  | [d1, d2, d3] => { results := [.lit (.bool false)], args := [d1, d2, d3] }
  | _ => none }
def EvalOwnWrongFalsely : Prop := evalOwnRow.holds Try.pinned (OpenSpec.ofChange evalOwnWrong)

/- THE SECOND FORM. 'bulk': how many values and letters a reading holds, each counted each time it is reached (what is shared counts as often as it is met; a slice's spare places count too). A statement '..UptoSaid' is the law's where the arguments, and the package variables that the reading takes, are together of bulk at most 1048576: NARROWER than '..Said'. Prove '..Said' where nothing that the law and all that it calls make is longer than what came in: it says more and counts as full. Else prove '..UptoSaid'. A law counts once. -/
mutual
def uptoBulk {H : Type} : DataW H → Nat
  | .lit (.string bytes) => bytes.length + 1
  | .lit _ => 1
  | .nil => 1
  | .ptr d => uptoBulk d + 1
  | .slice elems spare => uptoBulkAll elems + uptoBulkAll spare + 1
  | .agg parts => uptoBulkAll parts + 1
  | .iface _ d => uptoBulk d + 1
  | .map entries => uptoBulkEntries entries + 1
  | .held _ => 1
def uptoBulkAll {H : Type} : List (DataW H) → Nat
  | [] => 0
  | d :: r => uptoBulk d + uptoBulkAll r
def uptoBulkEntries {H : Type} : List (Lit × DataW H) → Nat
  | [] => 0
  | x :: r => uptoBulkEntry x + uptoBulkEntries r
def uptoBulkEntry {H : Type} : Lit × DataW H → Nat
  | (.string bytes, d) => bytes.length + uptoBulk d + 1
  | (_, d) => uptoBulk d + 1
 end
def uptoSmall : (H : Type) → List (DataW H) → Bool := fun _ ds => decide (uptoBulkAll ds ≤ 1048576)
def OpenSpec.upto (s : _root_.Go.ChangeSpec) : _root_.Go.OpenSpec := { _root_.Go.OpenSpec.ofChange s with cond := some uptoSmall }

/-- 'cotillionlaw16.CodeBlocks', WHERE WHAT IT READS IS OF BULK AT MOST 1048576: true; the input reads as it did. -/
def codeBlocksUptoRow : OpenClaim := { program := "ytdfjodnkplbffaa", sum := "86ac0ac3d516ad332196bda269702b3e757e4e57af90de8a0657740576d3d03a", func := "cotillion/cotillionlaw16.CodeBlocks", spec := "codeBlocks", unfollowed := true, recurses := true, apart := false, narrowed := true }
def CodeBlocksUptoSaid : Prop := codeBlocksUptoRow.holds Try.pinned (OpenSpec.upto codeBlocksSpec)

/-- 'cotillionlaw16.CodeCounts', WHERE WHAT IT READS IS OF BULK AT MOST 1048576: true; the input reads as it did. -/
def codeCountsUptoRow : OpenClaim := { program := "ytdfjodnkplbffaa", sum := "86ac0ac3d516ad332196bda269702b3e757e4e57af90de8a0657740576d3d03a", func := "cotillion/cotillionlaw16.CodeCounts", spec := "codeCounts", unfollowed := true, recurses := true, apart := false, narrowed := true }
def CodeCountsUptoSaid : Prop := codeCountsUptoRow.holds Try.pinned (OpenSpec.upto codeCountsSpec)

/-- 'cotillionlaw16.CodeJumps', WHERE WHAT IT READS IS OF BULK AT MOST 1048576: true; the input reads as it did. -/
def codeJumpsUptoRow : OpenClaim := { program := "ytdfjodnkplbffaa", sum := "86ac0ac3d516ad332196bda269702b3e757e4e57af90de8a0657740576d3d03a", func := "cotillion/cotillionlaw16.CodeJumps", spec := "codeJumps", unfollowed := true, recurses := true, apart := false, narrowed := true }
def CodeJumpsUptoSaid : Prop := codeJumpsUptoRow.holds Try.pinned (OpenSpec.upto codeJumpsSpec)

/-- 'cotillionlaw16.CodeLoops', WHERE WHAT IT READS IS OF BULK AT MOST 1048576: true; the input reads as it did. -/
def codeLoopsUptoRow : OpenClaim := { program := "ytdfjodnkplbffaa", sum := "86ac0ac3d516ad332196bda269702b3e757e4e57af90de8a0657740576d3d03a", func := "cotillion/cotillionlaw16.CodeLoops", spec := "codeLoops", unfollowed := true, recurses := true, apart := false, narrowed := true }
def CodeLoopsUptoSaid : Prop := codeLoopsUptoRow.holds Try.pinned (OpenSpec.upto codeLoopsSpec)

/-- 'cotillionlaw16.CodeGuards', WHERE WHAT IT READS IS OF BULK AT MOST 1048576: true; the input reads as it did. -/
def codeGuardsUptoRow : OpenClaim := { program := "ytdfjodnkplbffaa", sum := "86ac0ac3d516ad332196bda269702b3e757e4e57af90de8a0657740576d3d03a", func := "cotillion/cotillionlaw16.CodeGuards", spec := "codeGuards", unfollowed := true, recurses := true, apart := false, narrowed := true }
def CodeGuardsUptoSaid : Prop := codeGuardsUptoRow.holds Try.pinned (OpenSpec.upto codeGuardsSpec)

/-- 'cotillionlaw17.EvalRuns', WHERE WHAT IT READS IS OF BULK AT MOST 1048576: true; the input reads as it did. -/
def evalRunsUptoRow : OpenClaim := { program := "ytdfjodnkplbffaa", sum := "86ac0ac3d516ad332196bda269702b3e757e4e57af90de8a0657740576d3d03a", func := "cotillion/cotillionlaw17.EvalRuns", spec := "evalRuns", unfollowed := true, recurses := true, apart := false, narrowed := true }
def EvalRunsUptoSaid : Prop := evalRunsUptoRow.holds Try.pinned (OpenSpec.upto evalRunsSpec)

/-- 'cotillionlaw17.EvalFuel', WHERE WHAT IT READS IS OF BULK AT MOST 1048576: true; the input reads as it did. -/
def evalFuelUptoRow : OpenClaim := { program := "ytdfjodnkplbffaa", sum := "86ac0ac3d516ad332196bda269702b3e757e4e57af90de8a0657740576d3d03a", func := "cotillion/cotillionlaw17.EvalFuel", spec := "evalFuel", unfollowed := true, recurses := true, apart := false, narrowed := true }
def EvalFuelUptoSaid : Prop := evalFuelUptoRow.holds Try.pinned (OpenSpec.upto evalFuelSpec)

/-- 'cotillionlaw17.EvalMost', WHERE WHAT IT READS IS OF BULK AT MOST 1048576: true; the input reads as it did. -/
def evalMostUptoRow : OpenClaim := { program := "ytdfjodnkplbffaa", sum := "86ac0ac3d516ad332196bda269702b3e757e4e57af90de8a0657740576d3d03a", func := "cotillion/cotillionlaw17.EvalMost", spec := "evalMost", unfollowed := true, recurses := true, apart := false, narrowed := true }
def EvalMostUptoSaid : Prop := evalMostUptoRow.holds Try.pinned (OpenSpec.upto evalMostSpec)

/-- 'cotillionlaw17.EvalTruths', WHERE WHAT IT READS IS OF BULK AT MOST 1048576: true; the input reads as it did. -/
def evalTruthsUptoRow : OpenClaim := { program := "ytdfjodnkplbffaa", sum := "86ac0ac3d516ad332196bda269702b3e757e4e57af90de8a0657740576d3d03a", func := "cotillion/cotillionlaw17.EvalTruths", spec := "evalTruths", unfollowed := true, recurses := true, apart := false, narrowed := true }
def EvalTruthsUptoSaid : Prop := evalTruthsUptoRow.holds Try.pinned (OpenSpec.upto evalTruthsSpec)

/-- 'cotillionlaw17.EvalOver', WHERE WHAT IT READS IS OF BULK AT MOST 1048576: true; the input reads as it did. -/
def evalOverUptoRow : OpenClaim := { program := "ytdfjodnkplbffaa", sum := "86ac0ac3d516ad332196bda269702b3e757e4e57af90de8a0657740576d3d03a", func := "cotillion/cotillionlaw17.EvalOver", spec := "evalOver", unfollowed := true, recurses := true, apart := false, narrowed := true }
def EvalOverUptoSaid : Prop := evalOverUptoRow.holds Try.pinned (OpenSpec.upto evalOverSpec)

/-- 'cotillionlaw17.EvalOwn', WHERE WHAT IT READS IS OF BULK AT MOST 1048576: true; the input reads as it did. -/
def evalOwnUptoRow : OpenClaim := { program := "ytdfjodnkplbffaa", sum := "86ac0ac3d516ad332196bda269702b3e757e4e57af90de8a0657740576d3d03a", func := "cotillion/cotillionlaw17.EvalOwn", spec := "evalOwn", unfollowed := true, recurses := true, apart := false, narrowed := true }
def EvalOwnUptoSaid : Prop := evalOwnUptoRow.holds Try.pinned (OpenSpec.upto evalOwnSpec)

end Rows
end Go.Proofs.Ytdfjodnkplbffaa
