/-
  No cell of these rows narrows 'for every input' (looked for: loops, veiled, ifaces, maps, wideKeys, modest, calm, conditions, laid).
  DERIVED. THE GIVEN ROWS OF THIS SEAT. 3 by the template 'for every input the law returns true; each argument reads behind the call as it read before'; 0 by the template 'total and deterministic' (their statements: YtokgijpdehjckaaTotals.lean).
  GIVEN WITH THE SEED: the statements are not yours to turn. If you find one false, say at which input.
  Laid BY PROGRAM, IN A SANDBOX (cutbox-rows.mjs): the forced cells as the released guide's own fill.sh prints them over the translation f14b60037a4ffa15… (all of the seat's roots in one cut). By AI agents, Wed Nov 11 2026. No macro, syntax, notation, axiom, sorry.
-/
import Derived.Test.YtokgijpdehjckaaChecked
import GoSem.Claim
import GoSem.ClaimJoined
import GoSem.ClaimMapViews
import Derived.JoinedTies
import Derived.KernelRfl
namespace Go.Proofs.Ytokgijpdehjckaa
/- THE CELL 'sum', in the pinned program and in every row, IS THE sha256 OF THE DUMP (.gsa) THAT YtokgijpdehjckaaProg.lean LOADS. Nothing in Lean hashes anything: it is a label: what it is worth is what the hold of that sum in a sandbox is worth. -/
noncomputable def Try.pinned : Pinned := { name := "ytokgijpdehjckaa", sum := "f14b60037a4ffa153101cb9f7b33b9ae2d71dc67178efcd0aa9d47ff4caf247e", checked := Try.checked }
namespace Rows
def none {H : Type} : Left H := { results := [], args := [] }

/-- 'cotillionlaw14.LccaEnters': WHATEVER THE INPUT: true; the input reads as it did. -/
def lccaEntersSpec : ChangeSpec := { name := "lccaEnters", fn := fun _ => fun
  | [d1, d2, d3, d4] => { results := [.lit (.bool true)], args := [d1, d2, d3, d4] }
  | _ => none }
def lccaEntersRow : OpenClaim := { program := "ytokgijpdehjckaa", sum := "f14b60037a4ffa153101cb9f7b33b9ae2d71dc67178efcd0aa9d47ff4caf247e", func := "cotillion/cotillionlaw14.LccaEnters", spec := "lccaEnters", unfollowed := true, recurses := true, apart := false }
def LccaEntersSaid : Prop := lccaEntersRow.holds Try.pinned (OpenSpec.ofChange lccaEntersSpec)

/-- ITS FALSE NEIGHBOUR: 'it returns false'. Refute it at one input. -/
def lccaEntersWrong : ChangeSpec := { name := "lccaEnters", fn := fun _ => fun
  | [d1, d2, d3, d4] => { results := [.lit (.bool false)], args := [d1, d2, d3, d4] }
  | _ => none }
def LccaEntersWrongFalsely : Prop := lccaEntersRow.holds Try.pinned (OpenSpec.ofChange lccaEntersWrong)

/-- 'cotillionlaw14.LccaRemembers': WHATEVER THE INPUT: true; the input reads as it did. -/
def lccaRemembersSpec : ChangeSpec := { name := "lccaRemembers", fn := fun _ => fun
  | [d1, d2, d3, d4] => { results := [.lit (.bool true)], args := [d1, d2, d3, d4] }
  | _ => none }
def lccaRemembersRow : OpenClaim := { program := "ytokgijpdehjckaa", sum := "f14b60037a4ffa153101cb9f7b33b9ae2d71dc67178efcd0aa9d47ff4caf247e", func := "cotillion/cotillionlaw14.LccaRemembers", spec := "lccaRemembers", unfollowed := true, recurses := true, apart := false }
def LccaRemembersSaid : Prop := lccaRemembersRow.holds Try.pinned (OpenSpec.ofChange lccaRemembersSpec)

/-- ITS FALSE NEIGHBOUR: 'it returns false'. Refute it at one input. -/
def lccaRemembersWrong : ChangeSpec := { name := "lccaRemembers", fn := fun _ => fun
  | [d1, d2, d3, d4] => { results := [.lit (.bool false)], args := [d1, d2, d3, d4] }
  | _ => none }
def LccaRemembersWrongFalsely : Prop := lccaRemembersRow.holds Try.pinned (OpenSpec.ofChange lccaRemembersWrong)

/-- 'cotillionlaw14.LccaExits': WHATEVER THE INPUT: true; the input reads as it did. -/
def lccaExitsSpec : ChangeSpec := { name := "lccaExits", fn := fun _ => fun
  | [d1, d2, d3] => { results := [.lit (.bool true)], args := [d1, d2, d3] }
  | _ => none }
def lccaExitsRow : OpenClaim := { program := "ytokgijpdehjckaa", sum := "f14b60037a4ffa153101cb9f7b33b9ae2d71dc67178efcd0aa9d47ff4caf247e", func := "cotillion/cotillionlaw14.LccaExits", spec := "lccaExits", unfollowed := true, recurses := true, apart := false }
def LccaExitsSaid : Prop := lccaExitsRow.holds Try.pinned (OpenSpec.ofChange lccaExitsSpec)

/-- ITS FALSE NEIGHBOUR: 'it returns false'. Refute it at one input. -/
def lccaExitsWrong : ChangeSpec := { name := "lccaExits", fn := fun _ => fun
  | [d1, d2, d3] => { results := [.lit (.bool false)], args := [d1, d2, d3] }
  | _ => none }
def LccaExitsWrongFalsely : Prop := lccaExitsRow.holds Try.pinned (OpenSpec.ofChange lccaExitsWrong)

/- THE SECOND FORM. 'bulk': how many values and letters a reading holds, each counted each time it is reached (what is shared counts as often as it is met; a slice's spare places count too). A statement '..UptoSaid' is the law's where the arguments, and the package variables that the reading takes, are together of bulk at most 1048576: NARROWER than '..Said'. Prove '..Said' where nothing that the law and all that it calls make is longer than what came in: it says more and counts as full. Else prove '..UptoSaid'. A law counts once. -/
mutual
def uptoBulk {H : Type} : DataW H → Nat
  | .lit (.string bytes) => bytes.length + 1
  | .lit _ => 1
  | .nil => 1
  | .ptr d => uptoBulk d + 1
  | .slice elems spare => uptoBulkAll elems + uptoBulkAll spare + 1
  | .agg parts => uptoBulkAll parts + 1
  | .iface _ d => uptoBulk d + 1
  | .map entries => uptoBulkEntries entries + 1
  | .held _ => 1
def uptoBulkAll {H : Type} : List (DataW H) → Nat
  | [] => 0
  | d :: r => uptoBulk d + uptoBulkAll r
def uptoBulkEntries {H : Type} : List (Lit × DataW H) → Nat
  | [] => 0
  | x :: r => uptoBulkEntry x + uptoBulkEntries r
def uptoBulkEntry {H : Type} : Lit × DataW H → Nat
  | (.string bytes, d) => bytes.length + uptoBulk d + 1
  | (_, d) => uptoBulk d + 1
 end
def uptoSmall : (H : Type) → List (DataW H) → Bool := fun _ ds => decide (uptoBulkAll ds ≤ 1048576)
def OpenSpec.upto (s : _root_.Go.ChangeSpec) : _root_.Go.OpenSpec := { _root_.Go.OpenSpec.ofChange s with cond := some uptoSmall }

/-- 'cotillionlaw14.LccaEnters', WHERE WHAT IT READS IS OF BULK AT MOST 1048576: true; the input reads as it did. -/
def lccaEntersUptoRow : OpenClaim := { program := "ytokgijpdehjckaa", sum := "f14b60037a4ffa153101cb9f7b33b9ae2d71dc67178efcd0aa9d47ff4caf247e", func := "cotillion/cotillionlaw14.LccaEnters", spec := "lccaEnters", unfollowed := true, recurses := true, apart := false, narrowed := true }
def LccaEntersUptoSaid : Prop := lccaEntersUptoRow.holds Try.pinned (OpenSpec.upto lccaEntersSpec)

/-- 'cotillionlaw14.LccaRemembers', WHERE WHAT IT READS IS OF BULK AT MOST 1048576: true; the input reads as it did. -/
def lccaRemembersUptoRow : OpenClaim := { program := "ytokgijpdehjckaa", sum := "f14b60037a4ffa153101cb9f7b33b9ae2d71dc67178efcd0aa9d47ff4caf247e", func := "cotillion/cotillionlaw14.LccaRemembers", spec := "lccaRemembers", unfollowed := true, recurses := true, apart := false, narrowed := true }
def LccaRemembersUptoSaid : Prop := lccaRemembersUptoRow.holds Try.pinned (OpenSpec.upto lccaRemembersSpec)

/-- 'cotillionlaw14.LccaExits', WHERE WHAT IT READS IS OF BULK AT MOST 1048576: true; the input reads as it did. -/
def lccaExitsUptoRow : OpenClaim := { program := "ytokgijpdehjckaa", sum := "f14b60037a4ffa153101cb9f7b33b9ae2d71dc67178efcd0aa9d47ff4caf247e", func := "cotillion/cotillionlaw14.LccaExits", spec := "lccaExits", unfollowed := true, recurses := true, apart := false, narrowed := true }
def LccaExitsUptoSaid : Prop := lccaExitsUptoRow.holds Try.pinned (OpenSpec.upto lccaExitsSpec)

end Rows
end Go.Proofs.Ytokgijpdehjckaa
