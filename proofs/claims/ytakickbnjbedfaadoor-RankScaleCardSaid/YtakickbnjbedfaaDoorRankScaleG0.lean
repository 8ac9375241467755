/- Part of the proof of Card. -/
import Derived.Test.YtakickbnjbedfaaDoorRankScaleP0
import Derived.Test.YtakickbnjbedfaaDoorRankScaleShelf
namespace Go.Proofs.YtakickbnjbedfaaDoor.PB
open Go.Proofs.YtakickbnjbedfaaDoor.PA
open Go.RowKit Go.Proofs.YtakickbnjbedfaaDoorW.PrintWords Go.Proofs.YtakickbnjbedfaaDoorW.PrintLast Go.Proofs.YtakickbnjbedfaaDoorW.PrintMore
set_option linter.unusedVariables false
def strings_Compare.f (a0 a1 : ByteArray) : Option Int := some (Lib.compareBytes a0.data.toList a1.data.toList)
theorem strings_Compare.calls (a0 : ByteArray) (a1 : ByteArray) (r : Int) (w : World) (h : strings_Compare.f a0 a1 = some r) :
    Calls Tryd.prog 90 #[.string a0, .string a1] w fun e w' => e = .returned (.int .i64 r) ∧ Drawn0 w w' := by
  refine (Tryd.strings_Compare a0 a1 w).mono ?_
  rintro e w' ⟨rfl, rfl⟩
  exact ⟨by rw [Option.some.inj h], 0, rfl⟩
end Go.Proofs.YtakickbnjbedfaaDoor.PB
