/- Part of the proof of Card. -/
import Derived.Deep.Slices
import Derived.Deep.Fields
import Derived.ChangeSame
import Derived.Test.YtakickbnjbedfaaDoorRankScaleT0
namespace Go.Proofs.YtakickbnjbedfaaDoor.Card
set_option linter.unusedVariables false
open Go.ChangeShapes Go.WideShapes Go.ChangeAt Go.RowKit Go.Deep
theorem int_open {H : Type} {enc : TypeId × Value → H} {W : World} {base n : Nat} {spare : Nat → Bool} {held : Bool} {v : Value} {y : DataW H × List MemPlace}
    (h : DataW.trod enc Tryd.prog W base spare held n 40 [v] = some y) : ∃ u : Nat, v = .int .u64 (u : Int) ∧ u < 18446744073709551616 := by
  obtain ⟨z, h1, _, h2⟩ := DataW.trod_int Tryd.underlying40 h
  simp at h1
  subst h1
  simp [Lit.wf, IntKind.min, IntKind.max, IntKind.bits, IntKind.signed] at h2
  exact ⟨z.toNat, by congr 1; omega, by omega⟩
theorem str_open {H : Type} {enc : TypeId × Value → H} {W : World} {base n : Nat} {spare : Nat → Bool} {held : Bool} {v : Value} {y : DataW H × List MemPlace}
    (h : DataW.trod enc Tryd.prog W base spare held n 9 [v] = some y) : ∃ s : ByteArray, v = .string s ∧ s.size ≤ maxLen := by
  obtain ⟨s, h1, _, h2⟩ := DataW.trod_string Tryd.underlying9 h
  simp at h1
  subst h1
  exact ⟨s, rfl, h2⟩
set_option maxRecDepth 100000 in
theorem item_open {H : Type} {enc : TypeId × Value → H} {W : World} {base b0 : Nat} {r : Reach} {spare : Nat → Bool} {held : Bool} {v : Value} {d : DataW H} {p : List MemPlace}
    (hv : Value.okWide Tryd.prog W r b0 42 v) (h : DataW.Trod enc Tryd.prog W base spare held 42 v d p) :
    ∃ (s : ByteArray) (u w : Nat), v = .agg #[.string s, .int .u64 (u : Int), .int .u64 (w : Int)] ∧ u < 18446744073709551616 ∧ w < 18446744073709551616 := by
  obtain ⟨a0, a1, a2, y0, y1, y2, n, rfl, _, _, t0, t1, t2⟩ := Joins.open_agg3 Tryd.underlying42 (by kernel_rfl) (by kernel_rfl) hv h
  obtain ⟨s, rfl, _⟩ := str_open t0
  obtain ⟨u, rfl, hu⟩ := int_open t1
  obtain ⟨w, rfl, hw⟩ := int_open t2
  exact ⟨s, u, w, rfl, hu, hw⟩
end Go.Proofs.YtakickbnjbedfaaDoor.Card
