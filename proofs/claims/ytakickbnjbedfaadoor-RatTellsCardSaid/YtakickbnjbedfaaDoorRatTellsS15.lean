/- Part of the proof of Card. -/
import Derived.Test.YtakickbnjbedfaaDoorRatTellsS14
namespace Go.Proofs.YtakickbnjbedfaaDoor.S
set_option linter.unusedVariables false
open Go.RowKit Go.Proofs.YtakickbnjbedfaaDoorW.PrintWords Go.Proofs.YtakickbnjbedfaaDoor.PA Go.Proofs.YtakickbnjbedfaaDoor.Num Go.Proofs.YtakickbnjbedfaaDoor.F Go.Proofs.YtakickbnjbedfaaDoor.R
theorem tells {w : World} {u v u' v' : Value} {l m l' m' : List Int} (hu : Rd w u l) (hv : Rd w v m) (hu' : Rd w u' l') (hv' : Rd w v' m')
    (hl : Wf 4294967296 l) (hm : Wf 4294967296 m) (hl' : Wf 4294967296 l') (hm' : Wf 4294967296 m') : Calls Tryd.prog 3 #[.agg #[u, v], .agg #[u', v']] w (OneB w true) := by
  by_cases hs : (l.length ≤ 70 ∧ m.length ≤ 70) ∧ (l'.length ≤ 70 ∧ m'.length ≤ 70)
  · cases h : isRat l m with
    | false =>
      cases h' : isRat l' m' with
      | false => exact tells_bad_ff hu hv hu' hv' hl hm hl' hm' hs.1 hs.2 h h'
      | true => exact tells_bad_ft hu hv hu' hv' hl hm hl' hm' hs.1 hs.2 h h'
    | true =>
      cases h' : isRat l' m' with
      | false => exact tells_bad_tf hu hv hu' hv' hl hm hl' hm' hs.1 hs.2 h h'
      | true =>
        obtain ⟨n, d, rfl, rfl, tn, td, d0, _⟩ := isRat_open hl hm h
        obtain ⟨n', d', rfl, rfl, tn', td', d0', _⟩ := isRat_open hl' hm' h'
        exact tells_good hu hv hu' hv' ⟨tn, td, d0, h⟩ ⟨tn', td', d0', h'⟩
  · exact tells_large hu hv hu' hv' hs
end Go.Proofs.YtakickbnjbedfaaDoor.S
