/-
  No cell of these rows narrows 'for every input' (looked for: loops, veiled, ifaces, maps, wideKeys, modest, calm, conditions, laid).
  DERIVED. THE GIVEN ROWS OF THIS SEAT. 10 by the template 'for every input the law returns true; each argument reads behind the call as it read before'; 0 by the template 'total and deterministic' (their statements: YtblabbcmokldiaaTotals.lean).
  GIVEN WITH THE SEED: the statements are not yours to turn. If you find one false, say at which input.
  Laid BY PROGRAM, IN A SANDBOX (cutbox-rows.mjs): the forced cells as the released guide's own fill.sh prints them over the translation 994d64e450cb8c8d… (all of the seat's roots in one cut). By AI agents, Wed Nov 11 2026. No macro, syntax, notation, axiom, sorry.
-/
import Derived.Test.YtblabbcmokldiaaChecked
import GoSem.Claim
import GoSem.ClaimJoined
import GoSem.ClaimMapViews
import Derived.JoinedTies
import Derived.KernelRfl
namespace Go.Proofs.Ytblabbcmokldiaa
/- THE CELL 'sum', in the pinned program and in every row, IS THE sha256 OF THE DUMP (.gsa) THAT YtblabbcmokldiaaProg.lean LOADS. Nothing in Lean hashes anything: it is a label: what it is worth is what the hold of that sum in a sandbox is worth. -/
noncomputable def Try.pinned : Pinned := { name := "ytblabbcmokldiaa", sum := "994d64e450cb8c8d961e8c0881495a53c2ca0ba4c201465465a711890783289d", checked := Try.checked }
namespace Rows
def none {H : Type} : Left H := { results := [], args := [] }

/-- 'cotillionlaw13.FlatNodes': WHATEVER THE INPUT: true; the input reads as it did. -/
def flatNodesSpec : ChangeSpec := { name := "flatNodes", fn := fun _ => fun
  | [d1, d2, d3, d4] => { results := [.lit (.bool true)], args := [d1, d2, d3, d4] }
  | _ => none }
def flatNodesRow : OpenClaim := { program := "ytblabbcmokldiaa", sum := "994d64e450cb8c8d961e8c0881495a53c2ca0ba4c201465465a711890783289d", func := "cotillion/cotillionlaw13.FlatNodes", spec := "flatNodes", unfollowed := true, recurses := true, apart := false }
def FlatNodesSaid : Prop := flatNodesRow.holds Try.pinned (OpenSpec.ofChange flatNodesSpec)

/-- ITS FALSE NEIGHBOUR: 'it returns false'. Refute it at one input. -/
def flatNodesWrong : ChangeSpec := { name := "flatNodes", fn := fun _ => fun
  | [d1, d2, d3, d4] => { results := [.lit (.bool false)], args := [d1, d2, d3, d4] }
  | _ => none }
def FlatNodesWrongFalsely : Prop := flatNodesRow.holds Try.pinned (OpenSpec.ofChange flatNodesWrong)

/-- 'cotillionlaw13.FlatRanges': WHATEVER THE INPUT: true; the input reads as it did. -/
def flatRangesSpec : ChangeSpec := { name := "flatRanges", fn := fun _ => fun
  | [d] => { results := [.lit (.bool true)], args := [d] }
  | _ => none }
def flatRangesRow : OpenClaim := { program := "ytblabbcmokldiaa", sum := "994d64e450cb8c8d961e8c0881495a53c2ca0ba4c201465465a711890783289d", func := "cotillion/cotillionlaw13.FlatRanges", spec := "flatRanges", unfollowed := true, recurses := true, apart := false }
def FlatRangesSaid : Prop := flatRangesRow.holds Try.pinned (OpenSpec.ofChange flatRangesSpec)

/-- ITS FALSE NEIGHBOUR: 'it returns false'. Refute it at one input. -/
def flatRangesWrong : ChangeSpec := { name := "flatRanges", fn := fun _ => fun
  | [d] => { results := [.lit (.bool false)], args := [d] }
  | _ => none }
def FlatRangesWrongFalsely : Prop := flatRangesRow.holds Try.pinned (OpenSpec.ofChange flatRangesWrong)

/-- 'cotillionlaw13.FlatLegal': WHATEVER THE INPUT: true; the input reads as it did. -/
def flatLegalSpec : ChangeSpec := { name := "flatLegal", fn := fun _ => fun
  | [d1, d2, d3] => { results := [.lit (.bool true)], args := [d1, d2, d3] }
  | _ => none }
def flatLegalRow : OpenClaim := { program := "ytblabbcmokldiaa", sum := "994d64e450cb8c8d961e8c0881495a53c2ca0ba4c201465465a711890783289d", func := "cotillion/cotillionlaw13.FlatLegal", spec := "flatLegal", unfollowed := true, recurses := true, apart := false }
def FlatLegalSaid : Prop := flatLegalRow.holds Try.pinned (OpenSpec.ofChange flatLegalSpec)

/-- ITS FALSE NEIGHBOUR: 'it returns false'. Refute it at one input. -/
def flatLegalWrong : ChangeSpec := { name := "flatLegal", fn := fun _ => fun
  | [d1, d2, d3] => { results := [.lit (.bool false)], args := [d1, d2, d3] }
  | _ => none }
def FlatLegalWrongFalsely : Prop := flatLegalRow.holds Try.pinned (OpenSpec.ofChange flatLegalWrong)

/-- 'cotillionlaw13.FlatFull': WHATEVER THE INPUT: true; the input reads as it did. -/
def flatFullSpec : ChangeSpec := { name := "flatFull", fn := fun _ => fun
  | [d1, d2, d3] => { results := [.lit (.bool true)], args := [d1, d2, d3] }
  | _ => none }
def flatFullRow : OpenClaim := { program := "ytblabbcmokldiaa", sum := "994d64e450cb8c8d961e8c0881495a53c2ca0ba4c201465465a711890783289d", func := "cotillion/cotillionlaw13.FlatFull", spec := "flatFull", unfollowed := true, recurses := true, apart := false }
def FlatFullSaid : Prop := flatFullRow.holds Try.pinned (OpenSpec.ofChange flatFullSpec)

/-- ITS FALSE NEIGHBOUR: 'it returns false'. Refute it at one input. -/
def flatFullWrong : ChangeSpec := { name := "flatFull", fn := fun _ => fun
  | [d1, d2, d3] => { results := [.lit (.bool false)], args := [d1, d2, d3] }
  | _ => none }
def FlatFullWrongFalsely : Prop := flatFullRow.holds Try.pinned (OpenSpec.ofChange flatFullWrong)

/-- 'cotillionlaw14.LccaDoms': WHATEVER THE INPUT: true; the input reads as it did. -/
def lccaDomsSpec : ChangeSpec := { name := "lccaDoms", fn := fun _ => fun
  | [d1, d2, d3] => { results := [.lit (.bool true)], args := [d1, d2, d3] }
  | _ => none }
def lccaDomsRow : OpenClaim := { program := "ytblabbcmokldiaa", sum := "994d64e450cb8c8d961e8c0881495a53c2ca0ba4c201465465a711890783289d", func := "cotillion/cotillionlaw14.LccaDoms", spec := "lccaDoms", unfollowed := true, recurses := true, apart := false }
def LccaDomsSaid : Prop := lccaDomsRow.holds Try.pinned (OpenSpec.ofChange lccaDomsSpec)

/-- ITS FALSE NEIGHBOUR: 'it returns false'. Refute it at one input. -/
def lccaDomsWrong : ChangeSpec := { name := "lccaDoms", fn := fun _ => fun
  | [d1, d2, d3] => { results := [.lit (.bool false)], args := [d1, d2, d3] }
  | _ => none }
def LccaDomsWrongFalsely : Prop := lccaDomsRow.holds Try.pinned (OpenSpec.ofChange lccaDomsWrong)

/-- 'cotillionlaw14.LccaEnters': WHATEVER THE INPUT: true; the input reads as it did. -/
def lccaEntersSpec : ChangeSpec := { name := "lccaEnters", fn := fun _ => fun
  | [d1, d2, d3, d4] => { results := [.lit (.bool true)], args := [d1, d2, d3, d4] }
  | _ => none }
def lccaEntersRow : OpenClaim := { program := "ytblabbcmokldiaa", sum := "994d64e450cb8c8d961e8c0881495a53c2ca0ba4c201465465a711890783289d", func := "cotillion/cotillionlaw14.LccaEnters", spec := "lccaEnters", unfollowed := true, recurses := true, apart := false }
def LccaEntersSaid : Prop := lccaEntersRow.holds Try.pinned (OpenSpec.ofChange lccaEntersSpec)

/-- ITS FALSE NEIGHBOUR: 'it returns false'. Refute it at one input. -/
def lccaEntersWrong : ChangeSpec := { name := "lccaEnters", fn := fun _ => fun
  | [d1, d2, d3, d4] => { results := [.lit (.bool false)], args := [d1, d2, d3, d4] }
  | _ => none }
def LccaEntersWrongFalsely : Prop := lccaEntersRow.holds Try.pinned (OpenSpec.ofChange lccaEntersWrong)

/-- 'cotillionlaw14.LccaRemembers': WHATEVER THE INPUT: true; the input reads as it did. -/
def lccaRemembersSpec : ChangeSpec := { name := "lccaRemembers", fn := fun _ => fun
  | [d1, d2, d3, d4] => { results := [.lit (.bool true)], args := [d1, d2, d3, d4] }
  | _ => none }
def lccaRemembersRow : OpenClaim := { program := "ytblabbcmokldiaa", sum := "994d64e450cb8c8d961e8c0881495a53c2ca0ba4c201465465a711890783289d", func := "cotillion/cotillionlaw14.LccaRemembers", spec := "lccaRemembers", unfollowed := true, recurses := true, apart := false }
def LccaRemembersSaid : Prop := lccaRemembersRow.holds Try.pinned (OpenSpec.ofChange lccaRemembersSpec)

/-- ITS FALSE NEIGHBOUR: 'it returns false'. Refute it at one input. -/
def lccaRemembersWrong : ChangeSpec := { name := "lccaRemembers", fn := fun _ => fun
  | [d1, d2, d3, d4] => { results := [.lit (.bool false)], args := [d1, d2, d3, d4] }
  | _ => none }
def LccaRemembersWrongFalsely : Prop := lccaRemembersRow.holds Try.pinned (OpenSpec.ofChange lccaRemembersWrong)

/-- 'cotillionlaw14.LccaExits': WHATEVER THE INPUT: true; the input reads as it did. -/
def lccaExitsSpec : ChangeSpec := { name := "lccaExits", fn := fun _ => fun
  | [d1, d2, d3] => { results := [.lit (.bool true)], args := [d1, d2, d3] }
  | _ => none }
def lccaExitsRow : OpenClaim := { program := "ytblabbcmokldiaa", sum := "994d64e450cb8c8d961e8c0881495a53c2ca0ba4c201465465a711890783289d", func := "cotillion/cotillionlaw14.LccaExits", spec := "lccaExits", unfollowed := true, recurses := true, apart := false }
def LccaExitsSaid : Prop := lccaExitsRow.holds Try.pinned (OpenSpec.ofChange lccaExitsSpec)

/-- ITS FALSE NEIGHBOUR: 'it returns false'. Refute it at one input. -/
def lccaExitsWrong : ChangeSpec := { name := "lccaExits", fn := fun _ => fun
  | [d1, d2, d3] => { results := [.lit (.bool false)], args := [d1, d2, d3] }
  | _ => none }
def LccaExitsWrongFalsely : Prop := lccaExitsRow.holds Try.pinned (OpenSpec.ofChange lccaExitsWrong)

/-- 'cotillionlaw15.ClashTells': WHATEVER THE INPUT: true; the input reads as it did. -/
def clashTellsSpec : ChangeSpec := { name := "clashTells", fn := fun _ => fun
  | [d1, d2, d3] => { results := [.lit (.bool true)], args := [d1, d2, d3] }
  | _ => none }
def clashTellsRow : OpenClaim := { program := "ytblabbcmokldiaa", sum := "994d64e450cb8c8d961e8c0881495a53c2ca0ba4c201465465a711890783289d", func := "cotillion/cotillionlaw15.ClashTells", spec := "clashTells", recurses := true, apart := false }
def ClashTellsSaid : Prop := clashTellsRow.holds Try.pinned (OpenSpec.ofChange clashTellsSpec)

/-- ITS FALSE NEIGHBOUR: 'it returns false'. Refute it at one input. -/
def clashTellsWrong : ChangeSpec := { name := "clashTells", fn := fun _ => fun
  | [d1, d2, d3] => { results := [.lit (.bool false)], args := [d1, d2, d3] }
  | _ => none }
def ClashTellsWrongFalsely : Prop := clashTellsRow.holds Try.pinned (OpenSpec.ofChange clashTellsWrong)

/-- 'cotillionlaw15.ClashExits': WHATEVER THE INPUT: true; the input reads as it did. -/
def clashExitsSpec : ChangeSpec := { name := "clashExits", fn := fun _ => fun
  | [d1, d2] => { results := [.lit (.bool true)], args := [d1, d2] }
  | _ => none }
def clashExitsRow : OpenClaim := { program := "ytblabbcmokldiaa", sum := "994d64e450cb8c8d961e8c0881495a53c2ca0ba4c201465465a711890783289d", func := "cotillion/cotillionlaw15.ClashExits", spec := "clashExits", recurses := true, apart := false }
def ClashExitsSaid : Prop := clashExitsRow.holds Try.pinned (OpenSpec.ofChange clashExitsSpec)

/-- ITS FALSE NEIGHBOUR: 'it returns false'. Refute it at one input. -/
def clashExitsWrong : ChangeSpec := { name := "clashExits", fn := fun _ => fun
  | [d1, d2] => { results := [.lit (.bool false)], args := [d1, d2] }
  | _ => none }
def ClashExitsWrongFalsely : Prop := clashExitsRow.holds Try.pinned (OpenSpec.ofChange clashExitsWrong)

/- THE SECOND FORM. 'bulk': how many values and letters a reading holds, each counted each time it is reached (what is shared counts as often as it is met; a slice's spare places count too). A statement '..UptoSaid' is the law's where the arguments, and the package variables that the reading takes, are together of bulk at most 1048576: NARROWER than '..Said'. Prove '..Said' where nothing that the law and all that it calls make is longer than what came in: it says more and counts as full. Else prove '..UptoSaid'. A law counts once. -/
mutual
def uptoBulk {H : Type} : DataW H → Nat
  | .lit (.string bytes) => bytes.length + 1
  | .lit _ => 1
  | .nil => 1
  | .ptr d => uptoBulk d + 1
  | .slice elems spare => uptoBulkAll elems + uptoBulkAll spare + 1
  | .agg parts => uptoBulkAll parts + 1
  | .iface _ d => uptoBulk d + 1
  | .map entries => uptoBulkEntries entries + 1
  | .held _ => 1
def uptoBulkAll {H : Type} : List (DataW H) → Nat
  | [] => 0
  | d :: r => uptoBulk d + uptoBulkAll r
def uptoBulkEntries {H : Type} : List (Lit × DataW H) → Nat
  | [] => 0
  | x :: r => uptoBulkEntry x + uptoBulkEntries r
def uptoBulkEntry {H : Type} : Lit × DataW H → Nat
  | (.string bytes, d) => bytes.length + uptoBulk d + 1
  | (_, d) => uptoBulk d + 1
 end
def uptoSmall : (H : Type) → List (DataW H) → Bool := fun _ ds => decide (uptoBulkAll ds ≤ 1048576)
def OpenSpec.upto (s : _root_.Go.ChangeSpec) : _root_.Go.OpenSpec := { _root_.Go.OpenSpec.ofChange s with cond := some uptoSmall }

/-- 'cotillionlaw13.FlatNodes', WHERE WHAT IT READS IS OF BULK AT MOST 1048576: true; the input reads as it did. -/
def flatNodesUptoRow : OpenClaim := { program := "ytblabbcmokldiaa", sum := "994d64e450cb8c8d961e8c0881495a53c2ca0ba4c201465465a711890783289d", func := "cotillion/cotillionlaw13.FlatNodes", spec := "flatNodes", unfollowed := true, recurses := true, apart := false, narrowed := true }
def FlatNodesUptoSaid : Prop := flatNodesUptoRow.holds Try.pinned (OpenSpec.upto flatNodesSpec)

/-- 'cotillionlaw13.FlatRanges', WHERE WHAT IT READS IS OF BULK AT MOST 1048576: true; the input reads as it did. -/
def flatRangesUptoRow : OpenClaim := { program := "ytblabbcmokldiaa", sum := "994d64e450cb8c8d961e8c0881495a53c2ca0ba4c201465465a711890783289d", func := "cotillion/cotillionlaw13.FlatRanges", spec := "flatRanges", unfollowed := true, recurses := true, apart := false, narrowed := true }
def FlatRangesUptoSaid : Prop := flatRangesUptoRow.holds Try.pinned (OpenSpec.upto flatRangesSpec)

/-- 'cotillionlaw13.FlatLegal', WHERE WHAT IT READS IS OF BULK AT MOST 1048576: true; the input reads as it did. -/
def flatLegalUptoRow : OpenClaim := { program := "ytblabbcmokldiaa", sum := "994d64e450cb8c8d961e8c0881495a53c2ca0ba4c201465465a711890783289d", func := "cotillion/cotillionlaw13.FlatLegal", spec := "flatLegal", unfollowed := true, recurses := true, apart := false, narrowed := true }
def FlatLegalUptoSaid : Prop := flatLegalUptoRow.holds Try.pinned (OpenSpec.upto flatLegalSpec)

/-- 'cotillionlaw13.FlatFull', WHERE WHAT IT READS IS OF BULK AT MOST 1048576: true; the input reads as it did. -/
def flatFullUptoRow : OpenClaim := { program := "ytblabbcmokldiaa", sum := "994d64e450cb8c8d961e8c0881495a53c2ca0ba4c201465465a711890783289d", func := "cotillion/cotillionlaw13.FlatFull", spec := "flatFull", unfollowed := true, recurses := true, apart := false, narrowed := true }
def FlatFullUptoSaid : Prop := flatFullUptoRow.holds Try.pinned (OpenSpec.upto flatFullSpec)

/-- 'cotillionlaw14.LccaDoms', WHERE WHAT IT READS IS OF BULK AT MOST 1048576: true; the input reads as it did. -/
def lccaDomsUptoRow : OpenClaim := { program := "ytblabbcmokldiaa", sum := "994d64e450cb8c8d961e8c0881495a53c2ca0ba4c201465465a711890783289d", func := "cotillion/cotillionlaw14.LccaDoms", spec := "lccaDoms", unfollowed := true, recurses := true, apart := false, narrowed := true }
def LccaDomsUptoSaid : Prop := lccaDomsUptoRow.holds Try.pinned (OpenSpec.upto lccaDomsSpec)

/-- 'cotillionlaw14.LccaEnters', WHERE WHAT IT READS IS OF BULK AT MOST 1048576: true; the input reads as it did. -/
def lccaEntersUptoRow : OpenClaim := { program := "ytblabbcmokldiaa", sum := "994d64e450cb8c8d961e8c0881495a53c2ca0ba4c201465465a711890783289d", func := "cotillion/cotillionlaw14.LccaEnters", spec := "lccaEnters", unfollowed := true, recurses := true, apart := false, narrowed := true }
def LccaEntersUptoSaid : Prop := lccaEntersUptoRow.holds Try.pinned (OpenSpec.upto lccaEntersSpec)

/-- 'cotillionlaw14.LccaRemembers', WHERE WHAT IT READS IS OF BULK AT MOST 1048576: true; the input reads as it did. -/
def lccaRemembersUptoRow : OpenClaim := { program := "ytblabbcmokldiaa", sum := "994d64e450cb8c8d961e8c0881495a53c2ca0ba4c201465465a711890783289d", func := "cotillion/cotillionlaw14.LccaRemembers", spec := "lccaRemembers", unfollowed := true, recurses := true, apart := false, narrowed := true }
def LccaRemembersUptoSaid : Prop := lccaRemembersUptoRow.holds Try.pinned (OpenSpec.upto lccaRemembersSpec)

/-- 'cotillionlaw14.LccaExits', WHERE WHAT IT READS IS OF BULK AT MOST 1048576: true; the input reads as it did. -/
def lccaExitsUptoRow : OpenClaim := { program := "ytblabbcmokldiaa", sum := "994d64e450cb8c8d961e8c0881495a53c2ca0ba4c201465465a711890783289d", func := "cotillion/cotillionlaw14.LccaExits", spec := "lccaExits", unfollowed := true, recurses := true, apart := false, narrowed := true }
def LccaExitsUptoSaid : Prop := lccaExitsUptoRow.holds Try.pinned (OpenSpec.upto lccaExitsSpec)

/-- 'cotillionlaw15.ClashTells', WHERE WHAT IT READS IS OF BULK AT MOST 1048576: true; the input reads as it did. -/
def clashTellsUptoRow : OpenClaim := { program := "ytblabbcmokldiaa", sum := "994d64e450cb8c8d961e8c0881495a53c2ca0ba4c201465465a711890783289d", func := "cotillion/cotillionlaw15.ClashTells", spec := "clashTells", recurses := true, apart := false, narrowed := true }
def ClashTellsUptoSaid : Prop := clashTellsUptoRow.holds Try.pinned (OpenSpec.upto clashTellsSpec)

/-- 'cotillionlaw15.ClashExits', WHERE WHAT IT READS IS OF BULK AT MOST 1048576: true; the input reads as it did. -/
def clashExitsUptoRow : OpenClaim := { program := "ytblabbcmokldiaa", sum := "994d64e450cb8c8d961e8c0881495a53c2ca0ba4c201465465a711890783289d", func := "cotillion/cotillionlaw15.ClashExits", spec := "clashExits", recurses := true, apart := false, narrowed := true }
def ClashExitsUptoSaid : Prop := clashExitsUptoRow.holds Try.pinned (OpenSpec.upto clashExitsSpec)

end Rows
end Go.Proofs.Ytblabbcmokldiaa
