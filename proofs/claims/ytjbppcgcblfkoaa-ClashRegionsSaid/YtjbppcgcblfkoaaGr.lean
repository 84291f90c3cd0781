/- All functions that these reach, told together. -/
import Derived.Test.YtjbppcgcblfkoaaF5
import Derived.Test.YtjbppcgcblfkoaaF6
import Derived.Test.YtjbppcgcblfkoaaF8
import Derived.Test.YtjbppcgcblfkoaaF10
import Derived.Test.YtjbppcgcblfkoaaF15
import Derived.Test.YtjbppcgcblfkoaaF16
import Derived.Test.YtjbppcgcblfkoaaF19
import Derived.Test.YtjbppcgcblfkoaaF20
import Derived.Test.YtjbppcgcblfkoaaF24
import Derived.Test.YtjbppcgcblfkoaaF25
import Derived.Test.YtjbppcgcblfkoaaF34
import Derived.Test.YtjbppcgcblfkoaaF36
import Derived.Test.YtjbppcgcblfkoaaF38
open Go Go.VM
set_option linter.unusedVariables false
set_option maxRecDepth 100000
namespace Go.Proofs.Ytjbppcgcblfkoaa.Vm
def gr {R : Type} (k : Nat) : Nat → ORC R
  | 0 => fun _ _ _ => none
  | j + 1 => fun f args K => match f with
    | 5 => g5 (gr k j) k args K
    | 6 => g6 (gr k j) k args K
    | 8 => g8 (gr k j) k args K
    | 10 => g10 (gr k j) k args K
    | 15 => g15 (gr k j) k args K
    | 16 => g16 (gr k j) k args K
    | 19 => g19 (gr k j) k args K
    | 20 => g20 (gr k j) k args K
    | 24 => g24 (gr k j) k args K
    | 25 => g25 (gr k j) k args K
    | 34 => g34 (gr k j) k args K
    | 36 => g36 (gr k j) k args K
    | 38 => g38 (gr k j) k args K
    | _ => none
theorem gr_sound {R : Type} (k : Nat) : ∀ j, Sound (R := R) Try.prog TAB (gr k j)
  | 0 => fun f args K r h => by cases h
  | j + 1 => fun f args K r h => by
    have ih := gr_sound (R := R) k j
    unfold gr at h
    split at h
    · exact s5 ih args K r h
    · exact s6 ih args K r h
    · exact s8 ih args K r h
    · exact s10 ih args K r h
    · exact s15 ih args K r h
    · exact s16 ih args K r h
    · exact s19 ih args K r h
    · exact s20 ih args K r h
    · exact s24 ih args K r h
    · exact s25 ih args K r h
    · exact s34 ih args K r h
    · exact s36 ih args K r h
    · exact s38 ih args K r h
    · cases h
end Go.Proofs.Ytjbppcgcblfkoaa.Vm
