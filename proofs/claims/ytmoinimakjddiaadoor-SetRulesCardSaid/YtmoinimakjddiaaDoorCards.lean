/-
  DERIVED. GIVEN WITH THE SEED: THE CARDS: each row of YtmoinimakjddiaaDoorRows.lean that lists a variable, with what it lists TIED to the program's text (the seventh form; the later family's looks); each row that meets fmt, with fmt's text TOLD by the authors' own Lean function (tested against real Go, not proved from fmt's source: count such statements apart). THE CARD IS WHAT COUNTS. Prove the row's statement (the work); the ties are given (YtmoinimakjddiaaDoorTie.lean); close each card by the builder's one call (the guide's Derived/Test/ToyasCard.lean, 'card_holds'). Laid BY PROGRAM, IN A SANDBOX (cutbox-door.mjs). By AI agents, Wed Nov 11 2026. No macro, syntax, notation, axiom, sorry.
-/
import Derived.Test.YtmoinimakjddiaaDoorRows
import GoSem.ClaimSeven
namespace Go.Proofs.YtmoinimakjddiaaDoor
namespace Rows

/-- THE TIED CARD OF 'cotillionlaw3.SetGoes'. -/
def setGoesCard : Claim7 := { stood := { row := setGoesRow, standIns := [], harness := (true, "65253b6438bd3021ab478e532085e3ca21e777cc8d2b8ee6cce7f32900c2a61d"), looks := false }, kinds := [], alts := [], laidByText := true, laidKinds := [.data], laidTests := true, laidLooks := .later }
def SetGoesCardSaid : Prop := Claim7.holds Tryd.pinned (.plain (OpenSpec.ofChange setGoesSpec)) setGoesCard

/-- THE TIED CARD OF 'cotillionlaw3.SetEquals'. -/
def setEqualsCard : Claim7 := { stood := { row := setEqualsRow, standIns := [], harness := (true, "65253b6438bd3021ab478e532085e3ca21e777cc8d2b8ee6cce7f32900c2a61d"), looks := false }, kinds := [], alts := [], laidByText := true, laidKinds := [.data], laidTests := true, laidLooks := .later }
def SetEqualsCardSaid : Prop := Claim7.holds Tryd.pinned (.plain (OpenSpec.ofChange setEqualsSpec)) setEqualsCard

/-- THE TIED CARD OF 'cotillionlaw3.SetSteps'. -/
def setStepsCard : Claim7 := { stood := { row := setStepsRow, standIns := [], harness := (true, "65253b6438bd3021ab478e532085e3ca21e777cc8d2b8ee6cce7f32900c2a61d"), looks := false }, kinds := [], alts := [], laidByText := true, laidKinds := [.data], laidTests := true, laidLooks := .later }
def SetStepsCardSaid : Prop := Claim7.holds Tryd.pinned (.plain (OpenSpec.ofChange setStepsSpec)) setStepsCard

/-- THE TIED CARD OF 'cotillionlaw3.SetRules'. -/
def setRulesCard : Claim7 := { stood := { row := setRulesRow, standIns := [], harness := (true, "65253b6438bd3021ab478e532085e3ca21e777cc8d2b8ee6cce7f32900c2a61d"), looks := false }, kinds := [], alts := [], laidByText := true, laidKinds := [.data], laidTests := true, laidLooks := .later }
def SetRulesCardSaid : Prop := Claim7.holds Tryd.pinned (.plain (OpenSpec.ofChange setRulesSpec)) setRulesCard

/-- THE TIED CARD OF 'cotillionlaw3.SetTells'. -/
def setTellsCard : Claim7 := { stood := { row := setTellsRow, standIns := [], harness := (true, "65253b6438bd3021ab478e532085e3ca21e777cc8d2b8ee6cce7f32900c2a61d"), looks := false }, kinds := [], alts := [], laidByText := true, laidKinds := [.data], laidTests := true, laidLooks := .later }
def SetTellsCardSaid : Prop := Claim7.holds Tryd.pinned (.plain (OpenSpec.ofChange setTellsSpec)) setTellsCard

/-- THE SECOND FORM's CARD OF 'cotillionlaw3.SetGoes'. -/
def setGoesUptoCard : Claim7 := { stood := { row := setGoesUptoRow, standIns := [], harness := (true, "65253b6438bd3021ab478e532085e3ca21e777cc8d2b8ee6cce7f32900c2a61d"), looks := false }, kinds := [], alts := [], laidByText := true, laidKinds := [.data], laidTests := true, laidLooks := .later }
def SetGoesUptoCardSaid : Prop := Claim7.holds Tryd.pinned (.plain (OpenSpec.upto setGoesSpec)) setGoesUptoCard

/-- THE SECOND FORM's CARD OF 'cotillionlaw3.SetEquals'. -/
def setEqualsUptoCard : Claim7 := { stood := { row := setEqualsUptoRow, standIns := [], harness := (true, "65253b6438bd3021ab478e532085e3ca21e777cc8d2b8ee6cce7f32900c2a61d"), looks := false }, kinds := [], alts := [], laidByText := true, laidKinds := [.data], laidTests := true, laidLooks := .later }
def SetEqualsUptoCardSaid : Prop := Claim7.holds Tryd.pinned (.plain (OpenSpec.upto setEqualsSpec)) setEqualsUptoCard

/-- THE SECOND FORM's CARD OF 'cotillionlaw3.SetSteps'. -/
def setStepsUptoCard : Claim7 := { stood := { row := setStepsUptoRow, standIns := [], harness := (true, "65253b6438bd3021ab478e532085e3ca21e777cc8d2b8ee6cce7f32900c2a61d"), looks := false }, kinds := [], alts := [], laidByText := true, laidKinds := [.data], laidTests := true, laidLooks := .later }
def SetStepsUptoCardSaid : Prop := Claim7.holds Tryd.pinned (.plain (OpenSpec.upto setStepsSpec)) setStepsUptoCard

/-- THE SECOND FORM's CARD OF 'cotillionlaw3.SetRules'. -/
def setRulesUptoCard : Claim7 := { stood := { row := setRulesUptoRow, standIns := [], harness := (true, "65253b6438bd3021ab478e532085e3ca21e777cc8d2b8ee6cce7f32900c2a61d"), looks := false }, kinds := [], alts := [], laidByText := true, laidKinds := [.data], laidTests := true, laidLooks := .later }
def SetRulesUptoCardSaid : Prop := Claim7.holds Tryd.pinned (.plain (OpenSpec.upto setRulesSpec)) setRulesUptoCard

/-- THE SECOND FORM's CARD OF 'cotillionlaw3.SetTells'. -/
def setTellsUptoCard : Claim7 := { stood := { row := setTellsUptoRow, standIns := [], harness := (true, "65253b6438bd3021ab478e532085e3ca21e777cc8d2b8ee6cce7f32900c2a61d"), looks := false }, kinds := [], alts := [], laidByText := true, laidKinds := [.data], laidTests := true, laidLooks := .later }
def SetTellsUptoCardSaid : Prop := Claim7.holds Tryd.pinned (.plain (OpenSpec.upto setTellsSpec)) setTellsUptoCard
end Rows
end Go.Proofs.YtmoinimakjddiaaDoor
