/- Part of the proof of Card. -/
import Derived.Test.YtakickbnjbedfaaDoorRankTellsK2
namespace Go.Proofs.YtakickbnjbedfaaDoor.PB
set_option linter.unusedVariables false
open Go.RowKit Go.Proofs.YtakickbnjbedfaaDoorW.PrintWords Go.Proofs.YtakickbnjbedfaaDoor.PA
theorem tells_call (W : World) (s : ByteArray) (u v : Nat) (h1 : u < 18446744073709551616) (h2 : v < 18446744073709551616) (t : ByteArray) (u' v' : Nat) (h3 : u' < 18446744073709551616) (h4 : v' < 18446744073709551616) :
    Calls Tryd.prog 4 #[.agg #[.string s, .int .u64 u, .int .u64 v], .agg #[.string t, .int .u64 u', .int .u64 v']] W fun e W' => e = .returned (.bool true) ∧ Below W.heap.size W W' := by
  obtain ⟨k, hk⟩ := (tells_ev s t u v u' v' h1 h2 h3 h4).rounds
  exact samphirelaw10_RankTells.calls k s u v t u' v' true W hk rfl
end Go.Proofs.YtakickbnjbedfaaDoor.PB
