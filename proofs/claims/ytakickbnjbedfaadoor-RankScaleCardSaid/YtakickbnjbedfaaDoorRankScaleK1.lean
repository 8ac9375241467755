/- Part of the proof of Card. -/
import Derived.Test.YtakickbnjbedfaaDoorRankScaleP2
import Derived.Test.YtakickbnjbedfaaDoorRankScaleF1
import Derived.Test.YtakickbnjbedfaaDoorRankScaleG6
import Derived.Test.YtakickbnjbedfaaDoorRankScaleH1
namespace Go.Proofs.YtakickbnjbedfaaDoor.PB
set_option linter.unusedVariables false
open Go.RowKit Go.Proofs.YtakickbnjbedfaaDoorW.PrintWords Go.Proofs.YtakickbnjbedfaaDoorW.PrintLast Go.Proofs.YtakickbnjbedfaaDoor.PA Go.Proofs.YtakickbnjbedfaaDoor.Num Go.Proofs.YtakickbnjbedfaaDoor.F Go.Proofs.YtakickbnjbedfaaDoor.S
theorem bits_Mul64g_f (a b : Nat) (ha : a < 18446744073709551616) (hb : b < 18446744073709551616) : bits_Mul64g.f a b = some (((a * b / 18446744073709551616 : Nat) : Int), ((a * b % 18446744073709551616 : Nat) : Int)) := by
  unfold bits_Mul64g.f
  rw [if_pos ⟨⟨by omega, by omega⟩, by omega, by omega⟩]
  simp
theorem full_f (a b : Nat) (ha : a < 18446744073709551616) (hb : b < 18446744073709551616) : wide_Full.f a b = some (((a * b / 18446744073709551616 : Nat) : Int), ((a * b % 18446744073709551616 : Nat) : Int)) := by
  unfold wide_Full.f
  rw [bits_Mul64g_f a b ha hb]
  rfl
theorem order64_f (a b : Int) : wide_order.f a b = some (cmpI a b) := by
  unfold wide_order.f cmpI
  by_cases h : a < b
  · rw [if_pos h, if_pos h]
  · rw [if_neg h, if_neg h]
    by_cases h2 : b < a
    · rw [if_pos h2, if_pos h2]
    · rw [if_neg h2, if_neg h2]
theorem cmpI_zero {a b : Int} : cmpI a b = 0 ↔ a = b := by
  unfold cmpI
  by_cases h : a < b
  · rw [if_pos h]; omega
  · rw [if_neg h]
    by_cases h2 : b < a
    · rw [if_pos h2]; omega
    · rw [if_neg h2]; omega
theorem wcmp_f (m n : Nat) : wide_Cmp.f ((m / 18446744073709551616 : Nat) : Int) ((m % 18446744073709551616 : Nat) : Int) ((n / 18446744073709551616 : Nat) : Int) ((n % 18446744073709551616 : Nat) : Int) = some (cmpI (m : Int) (n : Int)) := by
  unfold wide_Cmp.f
  rw [order64_f, Option.bind_some, order64_f, Option.bind_some]
  unfold cmpI
  by_cases h1 : m / 18446744073709551616 < n / 18446744073709551616
  · rw [if_pos (show ((m / 18446744073709551616 : Nat) : Int) < ((n / 18446744073709551616 : Nat) : Int) by omega), if_neg (by omega), if_pos (show (m : Int) < n by omega)]
  · by_cases h2 : n / 18446744073709551616 < m / 18446744073709551616
    · rw [if_neg (show ¬ ((m / 18446744073709551616 : Nat) : Int) < ((n / 18446744073709551616 : Nat) : Int) by omega), if_pos (show ((n / 18446744073709551616 : Nat) : Int) < ((m / 18446744073709551616 : Nat) : Int) by omega), if_neg (by omega), if_neg (show ¬ (m : Int) < n by omega), if_pos (show (n : Int) < m by omega)]
    · rw [if_neg (show ¬ ((m / 18446744073709551616 : Nat) : Int) < ((n / 18446744073709551616 : Nat) : Int) by omega), if_neg (show ¬ ((n / 18446744073709551616 : Nat) : Int) < ((m / 18446744073709551616 : Nat) : Int) by omega), if_pos rfl]
      congr 1
      by_cases h3 : m % 18446744073709551616 < n % 18446744073709551616
      · rw [if_pos (by omega), if_pos (by omega)]
      · rw [if_neg (by omega), if_neg (show ¬ (m : Int) < n by omega)]
        by_cases h4 : n % 18446744073709551616 < m % 18446744073709551616
        · rw [if_pos (by omega), if_pos (by omega)]
        · rw [if_neg (by omega), if_neg (by omega)]
theorem or_f (x y : Int) : Ev (fun k => cmp_Or_int.f k [x, y]) (if x ≠ 0 then x else y) := by
  have e0 : rd [x, y] 0 = x := rfl
  have e1 : rd [x, y] 1 = y := rfl
  refine Ev.step (f := fun k => if x = 0 then cmp_Or_int.l0 k 0 [x, y] 2 1 else some x) (fun k => ?_) ?_
  · rw [cmp_Or_int.f, cmp_Or_int.l0]
    simp only [List.length_cons, List.length_nil]
    rw [if_pos (by omega), if_pos (by omega), if_pos (by omega), e0]
    rw [w64 (by omega)]
    rfl
  · by_cases hx : x = 0
    · rw [if_neg (by omega)]
      refine Ev.congr (f := fun k => cmp_Or_int.l0 k 0 [x, y] 2 1) (fun k => by rw [if_pos hx]) ?_
      refine Ev.step (f := fun k => if y = 0 then cmp_Or_int.l0 k 0 [x, y] 2 2 else some y) (fun k => ?_) ?_
      · rw [cmp_Or_int.l0]
        simp only [List.length_cons, List.length_nil]
        rw [if_pos (by omega), if_pos (by omega), if_pos (by omega), e1]
        rw [w64 (by omega)]
        rfl
      · by_cases hy : y = 0
        · refine Ev.congr (f := fun k => cmp_Or_int.l0 k 0 [x, y] 2 2) (fun k => by rw [if_pos hy]) ?_
          refine Ev.step (f := fun k => some y) (fun k => ?_) (Ev.now _)
          rw [cmp_Or_int.l0, if_neg (by omega), hy]
        · exact Ev.congr (fun k => by rw [if_neg hy]) (Ev.now _)
    · rw [if_pos hx]
      exact Ev.congr (fun k => by rw [if_neg hx]) (Ev.now _)
theorem rank_cmp_f (s t : ByteArray) (u v u' v' : Nat) (h1 : u < 18446744073709551616) (h2 : v < 18446744073709551616) (h3 : u' < 18446744073709551616) (h4 : v' < 18446744073709551616) :
    Ev (fun k => rank_Cmp.f k s u v t u' v') (itemC s u v t u' v') := by
  unfold rank_Cmp.f
  refine Ev.bind1 (full_f u v' h1 h4) ?_
  refine Ev.bind1 (full_f u' v h3 h2) ?_
  refine Ev.bind1 (wcmp_f (u * v') (u' * v)) ?_
  refine Ev.bind1 rfl ?_
  refine Ev.bind (or_f _ _) ?_
  exact Ev.all fun k => rfl
theorem u64_top {n : Nat} (h : n < 18446744073709551616) : n < top := Nat.lt_of_lt_of_le h (show (4294967296 : Nat) ^ 2 ≤ 4294967296 ^ 64 from Nat.pow_le_pow_right (by decide) (by decide))
theorem rank_rank_f (s : ByteArray) (u v : Nat) (hs : s.size ≤ 64) (h1 : u < 18446744073709551616) (h2 : v < 18446744073709551616) (v0 : 0 < v) :
    Ev (fun k => rank_Rank.f k s u v) (limbs (u / Nat.gcd u v), limbs (v / Nat.gcd u v), 0) := by
  have t1 : u < top := u64_top h1
  have t2 : v < top := u64_top h2
  unfold rank_Rank.f
  refine Ev.bind1 (a := 0) (by unfold rank_Check.f; rw [if_neg (by omega), if_neg (by omega)]) ?_
  refine Ev.congr (fun k => if_pos rfl) ?_
  refine Ev.bind (of_f u h1) ?_
  refine Ev.bind (of_f v h2) ?_
  refine Ev.bind1 (a := (limbs (u / Nat.gcd u v), limbs (v / Nat.gcd u v), 0)) ?_ (Ev.now _)
  unfold rat_Make.f
  rw [isL_limbs t1, isL_limbs t2, nt_limbs, nt_limbs, decide_eq_true v0]
  rfl
end Go.Proofs.YtakickbnjbedfaaDoor.PB
