/- Part of the proof of Card. -/
import Derived.Test.YtakickbnjbedfaaDoorRankScaleP2
import Derived.Test.YtakickbnjbedfaaDoorRankScaleG6
import Derived.Test.YtakickbnjbedfaaDoorRankScaleH2
import Derived.Test.YtakickbnjbedfaaDoorRankScaleP0
import Derived.Test.YtakickbnjbedfaaDoorRankScaleP1
import Derived.Test.YtakickbnjbedfaaDoorRankScaleLRankScale
import Derived.Test.YtakickbnjbedfaaDoorRankScaleR4
namespace Go.Proofs.YtakickbnjbedfaaDoor.PB
set_option linter.unusedVariables false
open Go.RowKit Go.Proofs.YtakickbnjbedfaaDoorW.PrintWords Go.Proofs.YtakickbnjbedfaaDoorW.PrintLast Go.Proofs.YtakickbnjbedfaaDoor.PA Go.Proofs.YtakickbnjbedfaaDoor.Num Go.Proofs.YtakickbnjbedfaaDoor.F Go.Proofs.YtakickbnjbedfaaDoor.S Go.Proofs.YtakickbnjbedfaaDoor.R
theorem awakeg_ev : Ev (fun _ : Nat => (samphirelaw10_awakeg.f).bind fun t => some t) true := Ev.all fun _ => rfl
theorem limbs_short {n : Nat} (h : n < 18446744073709551616) : (limbs n).length ≤ 64 := len_top.2 (u64_top h)
theorem div_u64 {n m : Nat} (h : n < 18446744073709551616) : n / m < 18446744073709551616 := Nat.lt_of_le_of_lt (Nat.div_le_self _ _) h
theorem compareBytes_self : ∀ x : List UInt8, Lib.compareBytes x x = 0
  | [] => rfl
  | a :: x => by
    unfold Lib.compareBytes
    rw [if_neg (UInt8.lt_irrefl a), if_neg (UInt8.lt_irrefl a)]
    exact compareBytes_self x
theorem cmpI_mul (a b n : Nat) (h : 0 < n) : cmpI ((a * n : Nat) : Int) ((b * n : Nat) : Int) = cmpI (a : Int) (b : Int) := by
  unfold cmpI
  have e1 : (((a * n : Nat) : Int) < ((b * n : Nat) : Int)) ↔ ((a : Int) < b) := by
    rw [Int.ofNat_lt, Int.ofNat_lt]; exact Nat.mul_lt_mul_right h
  have e2 : (((b * n : Nat) : Int) < ((a * n : Nat) : Int)) ↔ ((b : Int) < a) := by
    rw [Int.ofNat_lt, Int.ofNat_lt]; exact Nat.mul_lt_mul_right h
  simp only [e1, e2]
theorem itemC_scale (s t : ByteArray) (u v u' v' n : Nat) (h : 0 < n) : itemC s (u * n) (v * n) t u' v' = itemC s u v t u' v' := by
  unfold itemC
  rw [show u * n * v' = u * v' * n by rw [Nat.mul_right_comm], show u' * (v * n) = u' * v * n by rw [Nat.mul_assoc], cmpI_mul _ _ _ h]
theorem itemC_scale_self (s : ByteArray) (u v n : Nat) : itemC s u v s (u * n) (v * n) = 0 := by
  unfold itemC
  have e : u * (v * n) = u * n * v := by rw [Nat.mul_assoc, Nat.mul_comm v n]
  rw [e, cmpI_zero.2 rfl, if_neg (by simp)]
  exact compareBytes_self _
theorem scale_ev (s t : ByteArray) (u v u' v' n : Nat) (h1 : u < 18446744073709551616) (h2 : v < 18446744073709551616) (h3 : u' < 18446744073709551616) (h4 : v' < 18446744073709551616) (hn : n < 4294967296) :
    Ev (fun k => samphirelaw10_RankScale.f k s u v t u' v' n) true := by
  have big : Ev (fun k => samphirelaw10_RankScale.j0 k n true s u v t u' v') true := by
    refine Ev.step (fun k => by rw [samphirelaw10_RankScale.j0, if_pos rfl]) ?_
    exact awakeg_ev
  have chk : ∀ (s : ByteArray) (u v : Nat), ∃ c, rank_Check.f s u v = some c ∧ (c = 0 → s.size ≤ 64 ∧ 0 < v) := by
    intro s u v
    unfold rank_Check.f
    by_cases h64 : (s.size : Int) > 64
    · exact ⟨5, by rw [if_pos h64], fun h => by cases h⟩
    · by_cases hv : (v : Int) = 0
      · exact ⟨7, by rw [if_neg h64, if_pos hv], fun h => by cases h⟩
      · exact ⟨0, by rw [if_neg h64, if_neg hv], fun _ => ⟨by omega, by omega⟩⟩
  obtain ⟨c, hc, hc0⟩ := chk s u v
  obtain ⟨c', hc', hc0'⟩ := chk t u' v'
  unfold samphirelaw10_RankScale.f
  refine Ev.bind1 hc ?_
  by_cases e : c = 0
  case neg => exact Ev.congr (fun k => if_neg e) big
  refine Ev.congr (fun k => if_pos e) ?_
  refine Ev.bind1 hc' ?_
  by_cases e' : c' = 0
  case neg => exact Ev.congr (fun k => if_neg e') big
  refine Ev.congr (fun k => if_pos e') ?_
  by_cases n0 : (n : Int) = 0
  · exact Ev.congr (fun k => if_pos n0) big
  refine Ev.congr (fun k => if_neg n0) ?_
  by_cases hu : (u : Int) ≥ 4294967296
  · exact Ev.congr (fun k => if_pos hu) big
  refine Ev.congr (fun k => if_neg hu) ?_
  by_cases hv : (v : Int) ≥ 4294967296
  · rw [decide_eq_true hv]; exact big
  rw [decide_eq_false hv]
  obtain ⟨hs, v0⟩ := hc0 e
  have npos : 0 < n := by omega
  have b1 : u * n < 18446744073709551616 := Nat.lt_of_lt_of_le (Nat.mul_lt_mul'' (show u < 4294967296 by omega) hn) (by decide)
  have b2 : v * n < 18446744073709551616 := Nat.lt_of_lt_of_le (Nat.mul_lt_mul'' (show v < 4294967296 by omega) hn) (by decide)
  have e1 : IntKind.u64.wrap ((u : Int) * (IntKind.u64.wrap (n : Int))) = ((u * n : Nat) : Int) := by
    rw [wu (n := (n : Int)) ⟨by omega, by omega⟩, ← Int.natCast_mul]; exact wu ⟨by omega, by omega⟩
  have e2 : IntKind.u64.wrap ((v : Int) * (IntKind.u64.wrap (n : Int))) = ((v * n : Nat) : Int) := by
    rw [wu (n := (n : Int)) ⟨by omega, by omega⟩, ← Int.natCast_mul]; exact wu ⟨by omega, by omega⟩
  have g1 : u * n / Nat.gcd (u * n) (v * n) = u / Nat.gcd u v := by rw [Nat.gcd_mul_right, Nat.mul_div_mul_right _ _ npos]
  have g2 : v * n / Nat.gcd (u * n) (v * n) = v / Nat.gcd u v := by rw [Nat.gcd_mul_right, Nat.mul_div_mul_right _ _ npos]
  refine Ev.step (fun k => by rw [samphirelaw10_RankScale.j0, if_neg (by decide), e1, e2]) ?_
  refine Ev.bind (rank_rank_f s u v hs h1 h2 v0) ?_
  have r2 := rank_rank_f s (u * n) (v * n) hs b1 b2 (Nat.mul_pos v0 npos)
  rw [g1, g2] at r2
  refine Ev.bind r2 ?_
  refine Ev.bind (rank_cmp_f s t (u * n) (v * n) u' v' b1 b2 h3 h4) ?_
  refine Ev.bind (rank_cmp_f s t u v u' v' h1 h2 h3 h4) ?_
  refine Ev.congr (fun k => if_pos (itemC_scale s t u v u' v' n npos)) ?_
  have r3 := rank_cmp_f s s u v (u * n) (v * n) h1 h2 b1 b2
  rw [itemC_scale_self] at r3
  refine Ev.bind r3 ?_
  refine Ev.congr (fun k => (if_pos rfl).trans ((if_pos rfl).trans (if_pos rfl))) ?_
  refine Ev.bind (rsame_f _ _ _ _ (Nat.le_trans (limbs_short (div_u64 h1)) (by decide)) (Nat.le_trans (limbs_short (div_u64 h2)) (by decide))) ?_
  exact Ev.congr (fun k => if_pos (by simp)) awakeg_ev
end Go.Proofs.YtakickbnjbedfaaDoor.PB
