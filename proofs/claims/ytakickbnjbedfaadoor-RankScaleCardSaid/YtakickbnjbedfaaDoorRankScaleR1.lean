/- Part of the proof of Card. -/
import Derived.Test.YtakickbnjbedfaaDoorRankScaleF1
import Derived.Test.YtakickbnjbedfaaDoorRankScaleP0
import Derived.Test.YtakickbnjbedfaaDoorRankScaleP1
namespace Go.Proofs.YtakickbnjbedfaaDoor.R
set_option linter.unusedVariables false
set_option linter.unusedSimpArgs false
open Go.RowKit Go.Proofs.YtakickbnjbedfaaDoorW.PrintWords Go.Proofs.YtakickbnjbedfaaDoorW.PrintLast Go.Proofs.YtakickbnjbedfaaDoor.PA Go.Proofs.YtakickbnjbedfaaDoor.Num Go.Proofs.YtakickbnjbedfaaDoor.F
def hd (l : List Int) (i : Nat) : Int := if i % 2 = 0 then lg l (i / 2) % 65536 else lg l (i / 2) / 65536
def hv (l : List Int) (n : Nat) : List Int := (List.range n).map (hd l)
theorem hv_len (l : List Int) (n : Nat) : (hv l n).length = n := by simp [hv]
theorem hv_succ (l : List Int) (n : Nat) : hv l (n + 1) = hv l n ++ [hd l n] := by simp [hv, List.range_succ]
theorem hv_val_take (l : List Int) (m : Nat) : val 65536 (hv l (2 * m)) = val 4294967296 (l.take m) := by
  induction m with
  | zero => rfl
  | succ m ih =>
    rw [show 2 * (m + 1) = 2 * m + 1 + 1 by omega, hv_succ, hv_succ, val_append, val_append, ih, val_take_succ]
    simp only [hv_len, List.length_append, List.length_cons, List.length_nil, val]
    have e1 : (65536 : Int) ^ (2 * m) = 4294967296 ^ m := by rw [Int.pow_mul]; rfl
    have e2 : hd l (2 * m) = lg l m % 65536 := by
      unfold hd; rw [if_pos (by omega), show 2 * m / 2 = m by omega]
    have e3 : hd l (2 * m + 1) = lg l m / 65536 := by
      unfold hd; rw [if_neg (by omega), show (2 * m + 1) / 2 = m by omega]
    have e4 : (65536 : Int) ^ (2 * m + (0 + 1)) = 4294967296 ^ m * 65536 := by rw [show 2 * m + (0 + 1) = 2 * m + 1 by omega, Int.pow_succ, e1]
    rw [e1, e2, e3, e4]
    have := Int.emod_add_mul_ediv (lg l m) 65536
    grind
theorem hv_val (l : List Int) {m : Nat} (h : l.length ≤ m) : val 65536 (hv l (2 * m)) = val 4294967296 l := by
  rw [hv_val_take, val_take_all _ _ h]
theorem same_l0 (a b : List Int) (hl : a.length = b.length) (hs : a.length ≤ 1000000) : ∀ d i : Nat, a.length - i = d → i ≤ a.length →
    Ev (fun k => samphireref02_Same.l0 k a b (i : Int)) (decide (a.drop i = b.drop i)) := by
  intro d
  induction d with
  | zero =>
    intro i hd hi
    refine Ev.step (fun k => by rw [samphireref02_Same.l0, if_neg (by omega)]) (Ev.all fun k => ?_)
    rw [List.drop_of_length_le (by omega), List.drop_of_length_le (by omega)]
    rfl
  | succ d ih =>
    intro i hd hi
    have ea : a.drop i = lg a i :: a.drop (i + 1) := by
      rw [List.drop_eq_getElem_cons (by omega)]; congr 1; unfold lg; rw [List.getD_eq_getElem?_getD, List.getElem?_eq_getElem (by omega)]; rfl
    have eb : b.drop i = lg b i :: b.drop (i + 1) := by
      rw [List.drop_eq_getElem_cons (by omega)]; congr 1; unfold lg; rw [List.getD_eq_getElem?_getD, List.getElem?_eq_getElem (by omega)]; rfl
    have e1 : wrap64 ((i : Int) + 1) = ((i + 1 : Nat) : Int) := by rw [w64 (by omega)]; rfl
    by_cases h : lg a i = lg b i
    · refine Ev.step (fun k => by rw [samphireref02_Same.l0, if_pos (by omega), if_pos (by omega), if_pos (by omega), rd_lg, rd_lg, if_pos h, e1]) ?_
      have := ih (i + 1) (by omega) (by omega)
      rw [ea, eb, h]
      simpa using this
    · refine Ev.step (fun k => by rw [samphireref02_Same.l0, if_pos (by omega), if_pos (by omega), if_pos (by omega), rd_lg, rd_lg, if_neg h]) (Ev.all fun k => ?_)
      rw [ea, eb]
      simp [h]
theorem same_f (a b : List Int) (hs : a.length ≤ 1000000) : Ev (fun k => samphireref02_Same.f k a b) (decide (a = b)) := by
  by_cases hl : a.length = b.length
  · refine Ev.congr (fun k => by rw [samphireref02_Same.f, if_pos (by omega)]) ?_
    have := same_l0 a b hl hs _ 0 rfl (by omega)
    simpa using this
  · refine Ev.congr (fun k => by rw [samphireref02_Same.f, if_neg (by omega)]) (Ev.all fun k => ?_)
    rw [decide_eq_false (fun e => hl (by rw [e]))]
theorem rsame_f (a b c d : List Int) (h1 : a.length ≤ 1000000) (h2 : b.length ≤ 1000000) : Ev (fun k => samphireref03_Same.f k a b c d) (decide (a = c ∧ b = d)) := by
  unfold samphireref03_Same.f
  refine Ev.bind (same_f a c h1) ?_
  by_cases h : a = c
  · refine Ev.congr (fun k => by rw [if_pos (decide_eq_true h)]) ?_
    refine Ev.bind (same_f b d h2) (Ev.all fun k => ?_)
    simp [h]
  · refine Ev.congr (fun k => by rw [if_neg (by simp [h])]) (Ev.all fun k => ?_)
    simp [h]
end Go.Proofs.YtakickbnjbedfaaDoor.R
