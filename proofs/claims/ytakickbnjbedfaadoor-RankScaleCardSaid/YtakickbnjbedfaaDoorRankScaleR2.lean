/- Part of the proof of Card. -/
import Derived.Test.YtakickbnjbedfaaDoorRankScaleR1
namespace Go.Proofs.YtakickbnjbedfaaDoor.R
set_option linter.unusedVariables false
set_option linter.unusedSimpArgs false
open Go.RowKit Go.Proofs.YtakickbnjbedfaaDoorW.PrintWords Go.Proofs.YtakickbnjbedfaaDoorW.PrintLast Go.Proofs.YtakickbnjbedfaaDoor.PA Go.Proofs.YtakickbnjbedfaaDoor.Num Go.Proofs.YtakickbnjbedfaaDoor.F
theorem hval (n : Nat) {m : Nat} (h : (limbs n).length ≤ m) : val 65536 (hv (limbs n) (2 * m)) = n := by rw [hv_val _ h, val_limbs]
end Go.Proofs.YtakickbnjbedfaaDoor.R
