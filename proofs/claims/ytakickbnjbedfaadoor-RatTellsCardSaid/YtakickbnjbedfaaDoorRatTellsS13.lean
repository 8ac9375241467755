/- Part of the proof of Card. -/
import Derived.Test.YtakickbnjbedfaaDoorRatTellsS8
namespace Go.Proofs.YtakickbnjbedfaaDoor.S
set_option linter.unusedVariables false
set_option linter.unusedSimpArgs false
open Go.RowKit Go.Proofs.YtakickbnjbedfaaDoorW.PrintWords Go.Proofs.YtakickbnjbedfaaDoorW.PrintLast Go.Proofs.YtakickbnjbedfaaDoorW.PrintMore Go.Proofs.YtakickbnjbedfaaDoor.PA Go.Proofs.YtakickbnjbedfaaDoor.Num Go.Proofs.YtakickbnjbedfaaDoor.F Go.Proofs.YtakickbnjbedfaaDoor.R
abbrev Ans := List Int × List Int × Int
def ansAdd (n d n' d' : Nat) : Ans := jo (kp (n * d' + n' * d)) (n * d' + n' * d) n d n' d'
def ansSub (n d n' d' : Nat) : Ans := jo (sb (n * d') (n' * d)) (n * d' - n' * d) n d n' d'
def ansMul (n d n' d' : Nat) : Ans := ov (n * n') (d * d')
def ansDiv (n d n' d' : Nat) : Ans := if n' = 0 then ([], [], 7) else ov (n * d') (n' * d)
def ansCmp (n d n' d' : Nat) : Int × Int := if n * d' < top ∧ n' * d < top then (ord ((n * d' : Nat) : Int) ((n' * d : Nat) : Int), 0) else (0, 6)
structure Frac (n d : Nat) : Prop where
  tn : n < top
  td : d < top
  d0 : 0 < d
  r : isRat (limbs n) (limbs d) = true
section
variable {w : World} {u v u' v' : Value} {n d n' d' : Nat} {a : Ans}
theorem g20 (hu : IsN w u n) (hv : IsN w v d) (hu' : IsN w u' n') (hv' : IsN w v' d') (f : Frac n d) (f' : Frac n' d') (ha : ansAdd n d n' d' = a) : Calls Tryd.prog 20 #[.agg #[u, v], .agg #[u', v']] w (OneQE w a.1 a.2.1 a.2.2) := by
  obtain ⟨r, hr, h⟩ := radd_c hu hv hu' hv' f.tn f.td f'.tn f'.td f.d0 f'.d0 f.r f'.r
  rw [← ha]
  have : r = ansAdd n d n' d' := hr
  rw [← this]
  exact h
theorem g21 (hu : IsN w u n) (hv : IsN w v d) (hu' : IsN w u' n') (hv' : IsN w v' d') (f : Frac n d) (f' : Frac n' d') (ha : ansSub n d n' d' = a) : Calls Tryd.prog 21 #[.agg #[u, v], .agg #[u', v']] w (OneQE w a.1 a.2.1 a.2.2) := by
  obtain ⟨r, hr, h⟩ := rsub_c hu hv hu' hv' f.tn f.td f'.tn f'.td f.d0 f'.d0 f.r f'.r
  rw [← ha]
  have : r = ansSub n d n' d' := hr
  rw [← this]
  exact h
theorem g22 (hu : IsN w u n) (hv : IsN w v d) (hu' : IsN w u' n') (hv' : IsN w v' d') (f : Frac n d) (f' : Frac n' d') (ha : ansMul n d n' d' = a) : Calls Tryd.prog 22 #[.agg #[u, v], .agg #[u', v']] w (OneQE w a.1 a.2.1 a.2.2) := by
  rw [← ha]
  exact rmul_good hu hv hu' hv' f.tn f.td f'.tn f'.td f.d0 f'.d0 f.r f'.r
theorem g23 (hu : IsN w u n) (hv : IsN w v d) (hu' : IsN w u' n') (hv' : IsN w v' d') (f : Frac n d) (f' : Frac n' d') (ha : ansDiv n d n' d' = a) : Calls Tryd.prog 23 #[.agg #[u, v], .agg #[u', v']] w (OneQE w a.1 a.2.1 a.2.2) := by
  rw [← ha]
  unfold ansDiv
  by_cases h0 : n' = 0
  · subst h0
    have fr := f'.r
    unfold IsN at hu'
    rw [limbs_zero] at hu' fr
    rw [if_pos rfl]
    exact rdiv_zero hu hv hu' hv' f.r fr
  · rw [if_neg h0, Nat.mul_comm n' d]
    exact rdiv_good hu hv hu' hv' f.tn f.td f'.tn f'.td f.d0 (by omega) f.r f'.r
theorem g24 {r c : Int} (hu : IsN w u n) (hv : IsN w v d) (hu' : IsN w u' n') (hv' : IsN w v' d') (f : Frac n d) (f' : Frac n' d') (ha : ansCmp n d n' d' = (r, c)) : Calls Tryd.prog 24 #[.agg #[u, v], .agg #[u', v']] w (OneIE w r c) := by
  unfold ansCmp at ha
  by_cases h : n * d' < top ∧ n' * d < top
  · rw [if_pos h] at ha
    obtain ⟨rfl, rfl⟩ := Prod.mk.inj ha
    exact rcmp_good hu hv hu' hv' f.tn f.td f'.tn f'.td f.r f'.r h.1 h.2 _ rfl
  · rw [if_neg h] at ha
    obtain ⟨rfl, rfl⟩ := Prod.mk.inj ha
    exact rcmp_big hu hv hu' hv' f.tn f.td f'.tn f'.td f.r f'.r h
theorem g27 {r c : Int} (hu : IsN w u n) (hv : IsN w v d) (hu' : IsN w u' n') (hv' : IsN w v' d') (f : Frac n d) (f' : Frac n' d') (ha : ansCmp n d n' d' = (r, c)) : Calls Tryd.prog 27 #[.agg #[u, v], .agg #[u', v']] w (OneIE w r c) :=
  dratcmp_c hu hv hu' hv' f.tn f.td f'.tn f'.td r c ha
theorem g29_3 (hu : IsN w u n) (hv : IsN w v d) (hu' : IsN w u' n') (hv' : IsN w v' d') (f : Frac n d) (f' : Frac n' d') (ha : ansMul n d n' d' = a) : Calls Tryd.prog 29 #[.int .i64 3, .agg #[u, v], .agg #[u', v']] w (OneQE w a.1 a.2.1 a.2.2) := by
  rw [← ha]
  unfold ansMul ov
  by_cases h : n * n' < top ∧ d * d' < top
  · rw [if_pos h]
    exact do_mul hu hv hu' hv' f.tn f.td f'.tn f'.td f.d0 f'.d0 h.1 h.2
  · rw [if_neg h]
    exact do_mul_big hu hv hu' hv' f.tn f.td f'.tn f'.td f.d0 f'.d0 h
theorem g29_4 (hu : IsN w u n) (hv : IsN w v d) (hu' : IsN w u' n') (hv' : IsN w v' d') (f : Frac n d) (f' : Frac n' d') (ha : ansDiv n d n' d' = a) : Calls Tryd.prog 29 #[.int .i64 4, .agg #[u, v], .agg #[u', v']] w (OneQE w a.1 a.2.1 a.2.2) := by
  rw [← ha]
  unfold ansDiv ov
  by_cases h0 : n' = 0
  · rw [if_pos h0]
    exact do_div_zero hu hv hu' hv' f.tn f.td f'.tn f'.td f.d0 f'.d0 h0
  · rw [if_neg h0]
    by_cases h : n * d' < top ∧ n' * d < top
    · rw [if_pos h]
      exact do_div hu hv hu' hv' f.tn f.td f'.tn f'.td f.d0 f'.d0 (by omega) h.1 h.2
    · rw [if_neg h]
      exact do_div_big hu hv hu' hv' f.tn f.td f'.tn f'.td f.d0 f'.d0 (by omega) h
theorem g29_1 (hu : IsN w u n) (hv : IsN w v d) (hu' : IsN w u' n') (hv' : IsN w v' d') (f : Frac n d) (f' : Frac n' d') (ha : ansAdd n d n' d' = a) : Calls Tryd.prog 29 #[.int .i64 1, .agg #[u, v], .agg #[u', v']] w (OneQE w a.1 a.2.1 a.2.2) := by
  rw [← ha]
  unfold ansAdd jo
  by_cases h : d * d' < top ∧ n * d' < top ∧ n' * d < top
  · rw [if_pos h]
    by_cases h3 : n * d' + n' * d < top
    · rw [kp_lt h3, if_pos rfl]
      exact do_add hu hv hu' hv' f.tn f.td f'.tn f'.td f.d0 f'.d0 h.1 h.2.1 h.2.2 h3
    · rw [kp_ge h3, if_neg (by decide)]
      exact do_add_long hu hv hu' hv' f.tn f.td f'.tn f'.td f.d0 f'.d0 h.1 h.2.1 h.2.2 h3
  · rw [if_neg h]
    exact do_add_big hu hv hu' hv' f.tn f.td f'.tn f'.td f.d0 f'.d0 h
theorem g29_2 (hu : IsN w u n) (hv : IsN w v d) (hu' : IsN w u' n') (hv' : IsN w v' d') (f : Frac n d) (f' : Frac n' d') (ha : ansSub n d n' d' = a) : Calls Tryd.prog 29 #[.int .i64 2, .agg #[u, v], .agg #[u', v']] w (OneQE w a.1 a.2.1 a.2.2) := by
  rw [← ha]
  unfold ansSub jo
  by_cases h : d * d' < top ∧ n * d' < top ∧ n' * d < top
  · rw [if_pos h]
    by_cases h3 : n * d' < n' * d
    · have e : sb (n * d') (n' * d) = ([], 1) := if_pos h3
      rw [e, if_neg (by decide)]
      exact do_sub_less hu hv hu' hv' f.tn f.td f'.tn f'.td f.d0 f'.d0 h.1 h.2.1 h.2.2 h3
    · have e : sb (n * d') (n' * d) = (limbs (n * d' - n' * d), 0) := if_neg h3
      rw [e, if_pos rfl]
      exact do_sub hu hv hu' hv' f.tn f.td f'.tn f'.td f.d0 f'.d0 h.1 h.2.1 h.2.2 h3
  · rw [if_neg h]
    exact do_sub_big hu hv hu' hv' f.tn f.td f'.tn f'.td f.d0 f'.d0 h
end
def Short (a : Ans) : Prop := a.1.length ≤ 1000000 ∧ a.2.1.length ≤ 1000000
theorem short_ov (n d : Nat) : Short (ov n d) := by
  unfold ov
  split
  · rename_i h
    have h1 := len_mono (Nat.div_le_self n (Nat.gcd n d)) (len_top.2 h.1)
    have h2 := len_mono (Nat.div_le_self d (Nat.gcd n d)) (len_top.2 h.2)
    exact ⟨by show (limbs _).length ≤ _; omega, by show (limbs _).length ≤ _; omega⟩
  · exact ⟨by decide, by decide⟩
theorem short_jo (j : List Int × Int) (jn : Nat) (n d n' d' : Nat) (h : j.2 = 0 → jn < top) : Short (jo j jn n d n' d') := by
  unfold jo
  split
  · rename_i h2
    split
    · rename_i h3
      have h1 := len_mono (Nat.div_le_self jn (Nat.gcd jn (d * d'))) (len_top.2 (h h3))
      have h4 := len_mono (Nat.div_le_self (d * d') (Nat.gcd jn (d * d'))) (len_top.2 h2.1)
      exact ⟨by show (limbs _).length ≤ _; omega, by show (limbs _).length ≤ _; omega⟩
    · exact ⟨Nat.zero_le _, Nat.zero_le _⟩
  · exact ⟨Nat.zero_le _, Nat.zero_le _⟩
theorem short_add (n d n' d' : Nat) : Short (ansAdd n d n' d') := by
  refine short_jo _ _ _ _ _ _ fun h => ?_
  unfold kp at h
  split at h
  · assumption
  · cases h
theorem short_sub (n d n' d' : Nat) (hx : Frac n d) (hy : Frac n' d') : Short (ansSub n d n' d') := by
  unfold ansSub jo
  split
  · rename_i h2
    split
    · have h1 := len_mono (Nat.le_trans (Nat.div_le_self (n * d' - n' * d) (Nat.gcd (n * d' - n' * d) (d * d'))) (Nat.sub_le _ _)) (len_top.2 h2.2.1)
      have h4 := len_mono (Nat.div_le_self (d * d') (Nat.gcd (n * d' - n' * d) (d * d'))) (len_top.2 h2.1)
      exact ⟨by show (limbs _).length ≤ _; omega, by show (limbs _).length ≤ _; omega⟩
    · exact ⟨Nat.zero_le _, Nat.zero_le _⟩
  · exact ⟨Nat.zero_le _, Nat.zero_le _⟩
theorem short_mul (n d n' d' : Nat) : Short (ansMul n d n' d') := short_ov _ _
theorem short_div (n d n' d' : Nat) : Short (ansDiv n d n' d') := by
  unfold ansDiv
  split
  · exact ⟨Nat.zero_le _, Nat.zero_le _⟩
  · exact short_ov _ _
end Go.Proofs.YtakickbnjbedfaaDoor.S
