/- Part of the proof of Card. -/
import Derived.Test.YtakickbnjbedfaaDoorRankScaleK2
namespace Go.Proofs.YtakickbnjbedfaaDoor.PB
set_option linter.unusedVariables false
open Go.RowKit Go.Proofs.YtakickbnjbedfaaDoorW.PrintWords Go.Proofs.YtakickbnjbedfaaDoor.PA
theorem scale_call (W : World) (s : ByteArray) (u v : Nat) (h1 : u < 18446744073709551616) (h2 : v < 18446744073709551616) (t : ByteArray) (u' v' : Nat) (h3 : u' < 18446744073709551616) (h4 : v' < 18446744073709551616) (n : Int) (hn : 0 ≤ n ∧ n ≤ 4294967295) :
    Calls Tryd.prog 6 #[.agg #[.string s, .int .u64 u, .int .u64 v], .agg #[.string t, .int .u64 u', .int .u64 v'], .int .u32 n] W fun e W' => e = .returned (.bool true) ∧ Below W.heap.size W W' := by
  obtain ⟨m, rfl⟩ := Int.eq_ofNat_of_zero_le hn.1
  obtain ⟨k, hk⟩ := (scale_ev s t u v u' v' m h1 h2 h3 h4 (by omega)).rounds
  exact samphirelaw10_RankScale.calls k s u v t u' v' m true W hk rfl
end Go.Proofs.YtakickbnjbedfaaDoor.PB
