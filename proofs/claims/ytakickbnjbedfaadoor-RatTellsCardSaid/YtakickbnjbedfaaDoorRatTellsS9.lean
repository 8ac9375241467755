/- Part of the proof of Card. -/
import Derived.Test.YtakickbnjbedfaaDoorRatTellsS8
namespace Go.Proofs.YtakickbnjbedfaaDoor.S
set_option linter.unusedVariables false
set_option linter.unusedSimpArgs false
open Go.RowKit Go.Proofs.YtakickbnjbedfaaDoorW.PrintWords Go.Proofs.YtakickbnjbedfaaDoorW.PrintLast Go.Proofs.YtakickbnjbedfaaDoorW.PrintMore Go.Proofs.YtakickbnjbedfaaDoor.PA Go.Proofs.YtakickbnjbedfaaDoor.Num Go.Proofs.YtakickbnjbedfaaDoor.F Go.Proofs.YtakickbnjbedfaaDoor.R
theorem lit1 {w : World} {n : Nat} {x : Int} (hx : x = (n : Int)) (h0 : n ≠ 0) (h1 : n < 4294967296) : IsN (w.alloc (.cells #[.int .u32 x] 55)) (.slice (some ⟨w.heap.size, 0, none⟩) 1 1) n := by
  subst hx
  unfold IsN
  rw [limbs_small h0 h1]
  refine Rd.of_R (base := 0) (ok := fun _ => True) ⟨fun _ _ => trivial, [.int .u32 (n : Int)], ?_, ?_⟩
  · have h2 := World.ownsRow_lit (base := 0) (e := 55) (size := 1) w #[.int .u32 (n : Int)] 1 (Nat.zero_le _) (by decide) (by simp)
    simpa [Kd.int, Kd.scalar] using h2
  · exact Reps.one (show Kd.M (Kd.int .u32) _ _ _ (n : Int) [.int .u32 (n : Int)] from rfl) (Reps.none _ _)
theorem gcd24 : limbs (2 / Nat.gcd 2 4) = limbs 1 ∧ limbs (4 / Nat.gcd 2 4) = limbs 2 := ⟨by congr 1, by congr 1⟩
theorem two_lt_top {n : Nat} (h : n < 100) : n < top := by
  have h1 : (4294967296 : Nat) ^ 1 ≤ 4294967296 ^ 64 := Nat.pow_le_pow_right (by decide) (by decide)
  unfold top
  generalize (4294967296 : Nat) ^ 64 = t at *
  omega
theorem isR {n d : Nat} (hn : n < 100) (hd : d < 100) (b : Bool) (h : (!(limbs d).isEmpty && decide (Nat.gcd n d = 1)) = b) : isRat (limbs n) (limbs d) = b := by
  rw [isRat_limbs, decide_eq_true (two_lt_top hn), decide_eq_true (two_lt_top hd)]
  simpa using h
theorem limbs_ne {d : Nat} (h : d ≠ 0) : (limbs d).isEmpty = false := by
  cases hh : limbs d with
  | nil => exact absurd (limbs_nil.1 hh) h
  | cons x y => rfl
theorem isR_yes {n d : Nat} (hn : n < 100) (hd : d < 100) (d0 : d ≠ 0) (hg : Nat.gcd n d = 1) : isRat (limbs n) (limbs d) = true := isR hn hd true (by rw [limbs_ne d0, decide_eq_true hg]; rfl)
section
variable {w : World} {u v u' v' : Value}
theorem aw_add (hu : IsN w u 1) (hv : IsN w v 2) (hu' : IsN w u' 1) (hv' : IsN w v' 6) : Calls Tryd.prog 20 #[.agg #[u, v], .agg #[u', v']] w (OneQE w (limbs 2) (limbs 3) 0) := by
  obtain ⟨r, hr, h⟩ := radd_c hu hv hu' hv' (two_lt_top (by decide)) (two_lt_top (by decide)) (two_lt_top (by decide)) (two_lt_top (by decide)) (by decide) (by decide) (isR_yes (by decide) (by decide) (by decide) (by decide)) (isR_yes (by decide) (by decide) (by decide) (by decide))
  have t1 : 2 * 6 < top := two_lt_top (by decide)
  have t2 : 1 * 6 < top := two_lt_top (by decide)
  have t3 : 1 * 2 < top := two_lt_top (by decide)
  have t4 : 1 * 6 + 1 * 2 < top := two_lt_top (by decide)
  unfold jo at hr
  rw [if_pos ⟨t1, t2, t3⟩, kp_lt t4, if_pos rfl] at hr
  rw [hr] at h
  exact h
theorem aw_sub (hu : IsN w u 1) (hv : IsN w v 6) (hu' : IsN w u' 1) (hv' : IsN w v' 2) : Calls Tryd.prog 21 #[.agg #[u, v], .agg #[u', v']] w (OneQE w [] [] 1) := by
  obtain ⟨r, hr, h⟩ := rsub_c hu hv hu' hv' (two_lt_top (by decide)) (two_lt_top (by decide)) (two_lt_top (by decide)) (two_lt_top (by decide)) (by decide) (by decide) (isR_yes (by decide) (by decide) (by decide) (by decide)) (isR_yes (by decide) (by decide) (by decide) (by decide))
  have t1 : 6 * 2 < top := two_lt_top (by decide)
  have t2 : 1 * 2 < top := two_lt_top (by decide)
  have t3 : 1 * 6 < top := two_lt_top (by decide)
  have e : sb (1 * 2) (1 * 6) = ([], 1) := if_pos (by decide)
  unfold jo at hr
  rw [if_pos ⟨t1, t2, t3⟩, e, if_neg (by decide)] at hr
  rw [hr] at h
  exact h
theorem aw_div (hu : IsN w u 1) (hv : IsN w v 2) (hu' : IsN w u' 0) (hv' : IsN w v' 1) : Calls Tryd.prog 23 #[.agg #[u, v], .agg #[u', v']] w (OneQE w [] [] 7) := by
  unfold IsN at hu'
  rw [limbs_zero] at hu'
  refine rdiv_zero hu hv hu' hv' (isR_yes (by decide) (by decide) (by decide) (by decide)) ?_
  have := isR_yes (n := 0) (d := 1) (by decide) (by decide) (by decide) (by decide)
  rw [limbs_zero] at this
  exact this
theorem aw_cmp (hu : IsN w u 1) (hv : IsN w v 6) (hu' : IsN w u' 1) (hv' : IsN w v' 2) : Calls Tryd.prog 24 #[.agg #[u, v], .agg #[u', v']] w (OneIE w (-1) 0) :=
  rcmp_good hu hv hu' hv' (two_lt_top (by decide)) (two_lt_top (by decide)) (two_lt_top (by decide)) (two_lt_top (by decide)) (isR_yes (by decide) (by decide) (by decide) (by decide)) (isR_yes (by decide) (by decide) (by decide) (by decide)) (two_lt_top (by decide)) (two_lt_top (by decide)) (-1) (by decide)
theorem rdec23 : rdec 2 3 = ⟨#[50, 47, 51]⟩ := by
  unfold rdec dec
  rw [Lib.decDigits_one (by decide), Lib.decDigits_one (by decide)]
  rfl
theorem rdec01 : rdec 0 1 = ⟨#[48, 47, 49]⟩ := by
  unfold rdec dec
  rw [Lib.decDigits_one (by decide), Lib.decDigits_one (by decide)]
  rfl
theorem aw_text (hu : IsN w u 2) (hv : IsN w v 3) : Calls Tryd.prog 26 #[.agg #[u, v]] w (OneS w ⟨#[50, 47, 51]⟩) := by
  have := rtext_good hu hv (two_lt_top (by decide)) (two_lt_top (by decide)) (isR_yes (by decide) (by decide) (by decide) (by decide))
  rwa [rdec23] at this
theorem aw_text0 (hu : IsN w u 0) (hv : IsN w v 1) : Calls Tryd.prog 26 #[.agg #[u, v]] w (OneS w ⟨#[48, 47, 49]⟩) := by
  have := rtext_good hu hv (two_lt_top (by decide)) (two_lt_top (by decide)) (isR_yes (by decide) (by decide) (by decide) (by decide))
  rwa [rdec01] at this
theorem aw_right (hu : IsN w u 1) (hv : IsN w v 2) : Calls Tryd.prog 19 #[.agg #[u, v]] w (OneB w true) :=
  rright_c hu hv (wf_limbs _) (wf_limbs _) true (isR_yes (by decide) (by decide) (by decide) (by decide))
theorem aw_wrong (hu : IsN w u 2) (hv : IsN w v 4) : Calls Tryd.prog 19 #[.agg #[u, v]] w (OneB w false) :=
  rright_c hu hv (wf_limbs _) (wf_limbs _) false (isR (by decide) (by decide) false (by rw [limbs_ne (by decide), decide_eq_false (by decide)]; rfl))
theorem aw_make (hu : IsN w u 2) (hv : IsN w v 4) : Calls Tryd.prog 69 #[u, v] w (OneQE w (limbs 1) (limbs 2) 0) := by
  have H1 := make_ok hu hv (two_lt_top (by decide)) (two_lt_top (by decide)) (by decide)
  rw [gcd24.1, gcd24.2] at H1
  exact H1
theorem aw_make6 (hu : IsN w u 1) (hv : IsN w v 6) : Calls Tryd.prog 69 #[u, v] w (OneQE w (limbs 1) (limbs 6) 0) := by
  have H1 := make_ok hu hv (two_lt_top (by decide)) (two_lt_top (by decide)) (by decide)
  exact H1
end
end Go.Proofs.YtakickbnjbedfaaDoor.S
