/- Part of the proof of Card. -/
import Derived.Test.YtakickbnjbedfaaDoorRankTellsR2
namespace Go.Proofs.YtakickbnjbedfaaDoor.R
set_option linter.unusedVariables false
set_option linter.unusedSimpArgs false
open Go.RowKit Go.Proofs.YtakickbnjbedfaaDoorW.PrintWords Go.Proofs.YtakickbnjbedfaaDoorW.PrintLast Go.Proofs.YtakickbnjbedfaaDoor.PA Go.Proofs.YtakickbnjbedfaaDoor.Num Go.Proofs.YtakickbnjbedfaaDoor.F
theorem rof_f (n : Nat) (h : n < 18446744073709551616) : Ev (fun k => samphireref02_Of.f k (n : Int)) (limbs n) := by
  unfold samphireref02_Of.f
  rw [Int.tdiv_eq_ediv_of_nonneg (by omega), Int.tdiv_eq_ediv_of_nonneg (by omega), Int.tdiv_eq_ediv_of_nonneg (by omega), wu (by omega), wu (by omega), wu (by omega), Int.tmod_eq_emod_of_nonneg (by omega), Int.tmod_eq_emod_of_nonneg (by omega), Int.tmod_eq_emod_of_nonneg (by omega)]
  have hw : Wf 65536 [(n : Int) % 65536, (n : Int) / 65536 % 65536, (n : Int) / 4294967296 % 65536, (n : Int) / 281474976710656] :=
    Wf.cons (by omega) (by omega) (Wf.cons (by omega) (by omega) (Wf.cons (by omega) (by omega) (Wf.cons (by omega) (by omega) (Wf.nil _))))
  refine Ev.bind (whole_f _ hw 2 rfl (by omega)) (Ev.all fun k => ?_)
  congr 2
  simp only [val]
  omega
end Go.Proofs.YtakickbnjbedfaaDoor.R
