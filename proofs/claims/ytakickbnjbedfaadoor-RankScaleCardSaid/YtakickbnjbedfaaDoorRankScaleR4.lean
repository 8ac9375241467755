/- Part of the proof of Card. -/
import Derived.Test.YtakickbnjbedfaaDoorRankScaleR2
import Derived.Test.YtakickbnjbedfaaDoorRankScaleF2
import Derived.Test.YtakickbnjbedfaaDoorRankScaleP0
namespace Go.Proofs.YtakickbnjbedfaaDoor.R
set_option linter.unusedVariables false
set_option linter.unusedSimpArgs false
open Go.RowKit Go.Proofs.YtakickbnjbedfaaDoorW.PrintWords Go.Proofs.YtakickbnjbedfaaDoorW.PrintLast Go.Proofs.YtakickbnjbedfaaDoor.PA Go.Proofs.YtakickbnjbedfaaDoor.Num Go.Proofs.YtakickbnjbedfaaDoor.F
def hf (l : List Int) (j : Nat) : Int := lg l (j + 1) * 2147483648 % 4294967296 + lg l j / 2
def hl (l : List Int) (n : Nat) : List Int := (List.range n).map (hf l)
end Go.Proofs.YtakickbnjbedfaaDoor.R
