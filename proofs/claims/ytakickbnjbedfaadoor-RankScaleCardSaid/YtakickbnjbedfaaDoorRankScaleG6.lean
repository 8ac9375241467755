/- Part of the proof of Card. -/
import Derived.Deep.RegionHeld3
import Derived.Deep.DeepCutAuto
import Derived.Deep.LoopGhost
import Derived.Laws.Rows
import Derived.Laws.Tables
import Derived.Laws.CopyOwn
import Derived.Deep.WholeRow
import Derived.RegionTactic
import Derived.ChangeAlike
import Derived.BigRegion
import Derived.IntWalk
import Derived.WalkLawsBesides
import Derived.Test.YtakickbnjbedfaaDoorRankScaleP0
import Derived.Test.YtakickbnjbedfaaDoorRankScaleNum
import Derived.Test.YtakickbnjbedfaaDoorRankScaleG4
import Derived.Test.YtakickbnjbedfaaDoorRankScaleShelf
namespace Go.Proofs.YtakickbnjbedfaaDoor.PB
open Go.Proofs.YtakickbnjbedfaaDoor.PA Go.Proofs.YtakickbnjbedfaaDoor.Num
open Go.RowKit Go.Proofs.YtakickbnjbedfaaDoorW.PrintWords Go.Proofs.YtakickbnjbedfaaDoorW.PrintLast Go.Proofs.YtakickbnjbedfaaDoorW.PrintMore
set_option linter.unusedVariables false
set_option linter.unusedSimpArgs false
section
variable {w : World}
def itemC (k : ByteArray) (u v : Nat) (k' : ByteArray) (u' v' : Nat) : Int := if cmpI ((u * v' : Nat) : Int) ((u' * v : Nat) : Int) ≠ 0 then cmpI ((u * v' : Nat) : Int) ((u' * v : Nat) : Int) else Lib.compareBytes k.data.toList k'.data.toList
end
end Go.Proofs.YtakickbnjbedfaaDoor.PB
