/- Part of the proof of Card. -/
import Derived.Lib.ItoaNum
import Derived.Test.YtakickbnjbedfaaDoorRankScaleF2
namespace Go.Proofs.YtakickbnjbedfaaDoor.F
set_option linter.unusedVariables false
open Go.RowKit Go.Proofs.YtakickbnjbedfaaDoorW.PrintWords Go.Proofs.YtakickbnjbedfaaDoorW.PrintLast Go.Proofs.YtakickbnjbedfaaDoor.PA Go.Proofs.YtakickbnjbedfaaDoor.Num
section
variable {b P U V U' V' v1 v2 u2 top q r Q : Int}
theorem knuth_up (hb : 1 < b) (hP : 0 < P) (hV : V = v1 * (b * P) + v2 * P + V') (hV0 : 0 ≤ V') (hV1 : V' < P) (hU : U = top * (b * P) + u2 * P + U') (hU0 : 0 ≤ U') (hv1 : 1 ≤ v1) (hv2 : 0 ≤ v2)
    (hQ : U < (Q + 1) * V) (hq0 : 0 ≤ q) (hq1 : q ≤ b - 1) (hqr : q * v1 + r = top) (ht : q * v2 ≤ r * b + u2) : q ≤ Q + 1 := by
  have h1 : q * v2 * P ≤ (r * b + u2) * P := Int.mul_le_mul_of_nonneg_right ht (by omega)
  have h2 : q * V' ≤ (b - 1) * P := Int.mul_le_mul hq1 (by omega) hV0 (by omega)
  have hbP : 0 < b * P := Int.mul_pos (by omega) hP
  have h3 : 1 * (b * P) ≤ v1 * (b * P) := Int.mul_le_mul_of_nonneg_right hv1 (by omega)
  have h4 : 0 ≤ v2 * P := Int.mul_nonneg hv2 (by omega)
  have e1 : q * V = (q * v1 + r) * (b * P) - r * b * P + q * v2 * P + q * V' := by rw [hV]; grind
  have e2 : (r * b + u2) * P = r * b * P + u2 * P := by grind
  have e3 : (b - 1) * P = b * P - P := by grind
  rw [hqr] at e1
  have h5 : q * V < U + V := by omega
  have hVpos : 0 < V := by omega
  have h6 : (q - 1) * V < (Q + 1) * V := by
    have : (q - 1) * V = q * V - V := by grind
    omega
  have := Int.lt_of_mul_lt_mul_right h6 (by omega)
  omega
theorem knuth_down (hb : 1 < b) (hP : 0 < P) (hV : V = v1 * (b * P) + v2 * P + V') (hV0 : 0 ≤ V') (hU : U = top * (b * P) + u2 * P + U') (hU1 : U' < P) (hVp : 0 < V)
    (hQ : Q * V ≤ U) (hq0 : 0 ≤ q) (hqr : q * v1 + r = top) (ht : r * b + u2 < q * v2) : Q < q := by
  have h1 : (r * b + u2 + 1) * P ≤ q * v2 * P := Int.mul_le_mul_of_nonneg_right (by omega) (by omega)
  have h2 : 0 ≤ q * V' := Int.mul_nonneg hq0 hV0
  have e1 : q * V = (q * v1 + r) * (b * P) - r * b * P + q * v2 * P + q * V' := by rw [hV]; grind
  have e2 : (r * b + u2 + 1) * P = r * b * P + u2 * P + P := by grind
  rw [hqr] at e1
  have h3 : Q * V < q * V := by omega
  exact Int.lt_of_mul_lt_mul_right h3 (by omega)
theorem knuth_first (hb : 1 < b) (hP : 0 < P) (hV : V = v1 * (b * P) + v2 * P + V') (hV0 : 0 ≤ V') (hv2 : 0 ≤ v2) (hU : U = top * (b * P) + u2 * P + U') (hU1 : U' < P) (hu2 : u2 < b) (hv1 : 0 < v1)
    (hQ0 : 0 ≤ Q) (hQ : Q * V ≤ U) : Q ≤ top / v1 := by
  have hbP : 0 < b * P := Int.mul_pos (by omega) hP
  have h1 : (u2 + 1) * P ≤ b * P := Int.mul_le_mul_of_nonneg_right (by omega) (by omega)
  have h2 : 0 ≤ Q * (v2 * P + V') := Int.mul_nonneg hQ0 (by have := Int.mul_nonneg hv2 (show 0 ≤ P by omega); omega)
  have e1 : Q * V = (Q * v1) * (b * P) + Q * (v2 * P + V') := by rw [hV]; grind
  have e2 : (u2 + 1) * P = u2 * P + P := by grind
  have e3 : (top + 1) * (b * P) = top * (b * P) + b * P := by grind
  have h3 : (Q * v1) * (b * P) < (top + 1) * (b * P) := by omega
  have h4 := Int.lt_of_mul_lt_mul_right h3 (by omega)
  exact (Int.le_ediv_iff_mul_le hv1).2 (by omega)
end
theorem guess_l0 (x y : List Int) (hx : Wf 4294967296 x) (hy : Wf 4294967296 y) (lx : x.length ≤ 1000) (kk m : Nat) (hn : y.length = m + 2) (hk : kk + y.length < x.length)
    {P U V U' V' top Q : Int} (hP : 0 < P) (hV : V = lg y (m + 1) * (4294967296 * P) + lg y m * P + V') (hV0 : 0 ≤ V') (hV1 : V' < P) (hU : U = top * (4294967296 * P) + lg x (kk + m) * P + U') (hU0 : 0 ≤ U') (hU1 : U' < P)
    (hv : 2147483648 ≤ lg y (m + 1)) (htop : top ≤ lg y (m + 1) * 4294967296 + 4294967295) (hQ : Q * V ≤ U) (hQ' : U < (Q + 1) * V) (hQ1 : Q ≤ 4294967295) :
    ∀ (d : Nat) (q r : Int), 4294967296 ≤ r + d * 2147483648 → 0 ≤ r → r < 4294967296 → 0 ≤ q → q ≤ 17179869184 → q * lg y (m + 1) + r = top → Q ≤ q →
    ∃ g, 0 ≤ g ∧ g ≤ 4294967295 ∧ Q ≤ g ∧ g ≤ Q + 1 ∧ Ev (fun k => nat_guess.l0 k x y (kk : Int) (y.length : Int) q r) g := by
  have v1b := hy.at (by decide) (m + 1)
  have v2b := hy.at (by decide) m
  have u2b := hx.at (by decide) (kk + m)
  have hVp : 0 < V := by
    have h3 : 1 * (4294967296 * P) ≤ lg y (m + 1) * (4294967296 * P) := Int.mul_le_mul_of_nonneg_right (by omega) (by omega)
    have h4 : 0 ≤ lg y m * P := Int.mul_nonneg v2b.1 (by omega)
    omega
  intro d
  induction d with
  | zero => intro q r h1 h2 h3; omega
  | succ d ih =>
    intro q r hd r0 r1 q0 q1 hqr hQq
    have less : Q < q → ∃ g, 0 ≤ g ∧ g ≤ 4294967295 ∧ Q ≤ g ∧ g ≤ Q + 1 ∧ Ev (fun k => nat_guess.j1 k x y (kk : Int) (y.length : Int) q r true) g := by
      intro hlt
      have hqr' : (q - 1) * lg y (m + 1) + (r + lg y (m + 1)) = top := by
        have : (q - 1) * lg y (m + 1) = q * lg y (m + 1) - lg y (m + 1) := by grind
        omega
      have hQ0 : 0 < q := by
        rcases Int.lt_or_le Q 0 with hneg | hpos
        · exfalso
          have : (Q + 1) * V ≤ 0 * V := Int.mul_le_mul_of_nonneg_right (by omega) (by omega)
          have h5 : 0 ≤ top * (4294967296 * P) ∨ top < 0 := by
            rcases Int.lt_or_le top 0 with h | h
            · exact .inr h
            · exact .inl (Int.mul_nonneg h (by omega))
          have h6 : 0 ≤ lg x (kk + m) * P := Int.mul_nonneg u2b.1 (by omega)
          have h7 : 0 ≤ q * lg y (m + 1) := Int.mul_nonneg q0 v1b.1
          omega
        · omega
      by_cases hb : r + lg y (m + 1) > 4294967295
      · refine ⟨q - 1, by omega, ?_, by omega, ?_, ?_⟩
        ·
          have : (q - 1) * lg y (m + 1) < 4294967296 * lg y (m + 1) := by omega
          have := Int.lt_of_mul_lt_mul_right this (by omega)
          omega
        · refine knuth_up (b := 4294967296) (by decide) hP hV hV0 hV1 hU hU0 (by omega) v2b.1 hQ' (by omega) ?_ hqr' ?_
          · have : (q - 1) * lg y (m + 1) < 4294967296 * lg y (m + 1) := by omega
            have := Int.lt_of_mul_lt_mul_right this (by omega)
            omega
          · have h8 : (q - 1) < 4294967296 := by
              have : (q - 1) * lg y (m + 1) < 4294967296 * lg y (m + 1) := by omega
              exact Int.lt_of_mul_lt_mul_right this (by omega)
            have := (mul_bound (show 0 ≤ q - 1 by omega) h8 v2b.1 v2b.2).2
            omega
        · refine Ev.step (fun k => by
            rw [nat_guess.j1, if_pos rfl, w64 (by omega), if_pos (by omega), if_pos (by omega), rd_lg' y (m + 1) (by omega), wu (n := lg y (m + 1)) (by omega), wu (n := r + lg y (m + 1)) (by omega), if_pos (by omega), wu (by omega)]) ?_
          exact Ev.all fun k => rfl
      · obtain ⟨g, h1, h2, h3, h4, h5⟩ := ih (q - 1) (r + lg y (m + 1)) (by omega) (by omega) (by omega) (by omega) (by omega) hqr' (by omega)
        refine ⟨g, h1, h2, h3, h4, ?_⟩
        refine Ev.step (fun k => by
          rw [nat_guess.j1, if_pos rfl, w64 (by omega), if_pos (by omega), if_pos (by omega), rd_lg' y (m + 1) (by omega), wu (n := lg y (m + 1)) (by omega), wu (n := r + lg y (m + 1)) (by omega), if_neg (by omega), wu (by omega)]) ?_
        exact h5
    by_cases hq : q > 4294967295
    · obtain ⟨g, h1, h2, h3, h4, h5⟩ := less (by omega)
      exact ⟨g, h1, h2, h3, h4, Ev.step (fun k => by rw [nat_guess.l0, if_pos hq]) h5⟩
    · have hm := mul_bound q0 (show q < 4294967296 by omega) v2b.1 v2b.2
      have step : ∀ k, nat_guess.l0 (k + 1) x y (kk : Int) (y.length : Int) q r = nat_guess.j1 k x y (kk : Int) (y.length : Int) q r (decide (q * lg y m > r * 4294967296 + lg x (kk + m))) := by
        intro k
        rw [nat_guess.l0, if_neg hq, w64 (n := (y.length : Int) - 2) (by omega), if_pos (by omega), if_pos (by omega), w64 (n := (kk : Int) + (y.length : Int)) (by omega), w64 (by omega), if_pos (by omega), if_pos (by omega), rd_lg' y m (by omega), rd_lg' x (kk + m) (by omega), wu (n := lg y m) (by omega), wu (n := lg x (kk + m)) (by omega), wu (n := q * lg y m) (by omega), wu (n := r * 4294967296) (by omega), or64 r0 r1 u2b.1 u2b.2]
      by_cases ht : q * lg y m > r * 4294967296 + lg x (kk + m)
      · obtain ⟨g, h1, h2, h3, h4, h5⟩ := less (knuth_down (b := 4294967296) (by decide) hP hV hV0 hU hU1 hVp hQ q0 hqr ht)
        refine ⟨g, h1, h2, h3, h4, Ev.step step ?_⟩
        rw [decide_eq_true ht]
        exact h5
      · refine ⟨q, q0, by omega, hQq, knuth_up (b := 4294967296) (by decide) hP hV hV0 hV1 hU hU0 (by omega) v2b.1 hQ' q0 (by omega) hqr (by omega), Ev.step step ?_⟩
        rw [decide_eq_false ht]
        refine Ev.step (fun k => by rw [nat_guess.j1, if_neg (by decide)]) ?_
        exact Ev.all fun k => rfl
theorem three_top (l : List Int) (m : Nat) : val 4294967296 (l.take (m + 3)) = (lg l (m + 2) * 4294967296 + lg l (m + 1)) * (4294967296 * 4294967296 ^ m) + lg l m * 4294967296 ^ m + val 4294967296 (l.take m) := by
  rw [val_take_succ, val_take_succ, val_take_succ, Int.pow_succ, Int.pow_succ]; grind
theorem two_top (l : List Int) (m : Nat) (h : l.length = m + 2) : val 4294967296 l = lg l (m + 1) * (4294967296 * 4294967296 ^ m) + lg l m * 4294967296 ^ m + val 4294967296 (l.take m) := by
  rw [← val_take_all 4294967296 l (show l.length ≤ m + 2 by omega), val_take_succ, val_take_succ, Int.pow_succ]; grind
theorem guess_f (x y : List Int) (hx : Wf 4294967296 x) (hy : Wf 4294967296 y) (lx : x.length ≤ 1000) (kk m : Nat) (hn : y.length = m + 2) (hk : kk + y.length < x.length)
    (hv : 2147483648 ≤ lg y (m + 1)) {U : Int} (hU : U = val 4294967296 ((x.drop kk).take (m + 3))) (hlt : U < val 4294967296 y * 4294967296) :
    ∃ g, 0 ≤ g ∧ g ≤ 4294967295 ∧ U / val 4294967296 y ≤ g ∧ g ≤ U / val 4294967296 y + 1 ∧ Ev (fun k => nat_guess.f k x y (kk : Int)) g := by
  have v1b := hy.at (by decide) (m + 1)
  have v2b := hy.at (by decide) m
  have u1b := hx.at (by decide) (kk + (m + 2))
  have u0b := hx.at (by decide) (kk + (m + 1))
  have u2b := hx.at (by decide) (kk + m)
  have hP : 0 < (4294967296 : Int) ^ m := pow_pos' (by decide) m
  have hV := two_top y m hn
  have bV := take_bound hy (n := m) (by omega)
  have bU := take_bound (hx.drop kk) (n := m) (by rw [List.length_drop]; omega)
  rw [three_top, lg_drop, lg_drop, lg_drop] at hU
  have h3 : 1 * (4294967296 * 4294967296 ^ m) ≤ lg y (m + 1) * (4294967296 * 4294967296 ^ m) := Int.mul_le_mul_of_nonneg_right (by omega) (by omega)
  have h4 : 0 ≤ lg y m * 4294967296 ^ m := Int.mul_nonneg v2b.1 (by omega)
  have hVp : 0 < val 4294967296 y := by omega
  have htop0 : 0 ≤ (lg x (kk + (m + 2)) * 4294967296 + lg x (kk + (m + 1))) * (4294967296 * 4294967296 ^ m) := Int.mul_nonneg (by omega) (by omega)
  have h5 : 0 ≤ lg x (kk + m) * 4294967296 ^ m := Int.mul_nonneg u2b.1 (by omega)
  have hU0 : 0 ≤ U := by omega
  have hQ0 : 0 ≤ U / val 4294967296 y := Int.ediv_nonneg hU0 (by omega)
  have hQlt : U / val 4294967296 y < 4294967296 := Int.ediv_lt_of_lt_mul hVp (by rw [Int.mul_comm]; exact hlt)
  have hQ : U / val 4294967296 y * val 4294967296 y ≤ U := Int.ediv_mul_le _ (by omega)
  have hQ' : U < (U / val 4294967296 y + 1) * val 4294967296 y := Int.lt_ediv_add_one_mul_self _ hVp
  have htop : lg x (kk + (m + 2)) ≤ lg y (m + 1) := by
    have hh : lg y m * 4294967296 ^ m + 4294967296 ^ m ≤ 4294967296 * 4294967296 ^ m := by
      have : (lg y m + 1) * 4294967296 ^ m ≤ 4294967296 * 4294967296 ^ m := Int.mul_le_mul_of_nonneg_right (by omega) (by omega)
      have e : (lg y m + 1) * 4294967296 ^ m = lg y m * 4294967296 ^ m + 4294967296 ^ m := by grind
      omega
    have e1 : (lg x (kk + (m + 2)) * 4294967296 + lg x (kk + (m + 1))) * (4294967296 * 4294967296 ^ m) = (lg x (kk + (m + 2)) * (4294967296 * 4294967296 ^ m)) * 4294967296 + lg x (kk + (m + 1)) * (4294967296 * 4294967296 ^ m) := by grind
    have e2 : (lg y (m + 1) + 1) * (4294967296 * 4294967296 ^ m) = lg y (m + 1) * (4294967296 * 4294967296 ^ m) + 4294967296 * 4294967296 ^ m := by grind
    have e3 : 0 ≤ lg x (kk + (m + 1)) * (4294967296 * 4294967296 ^ m) := Int.mul_nonneg u0b.1 (by omega)
    have h6 : lg x (kk + (m + 2)) * (4294967296 * 4294967296 ^ m) < (lg y (m + 1) + 1) * (4294967296 * 4294967296 ^ m) := by omega
    have := Int.lt_of_mul_lt_mul_right h6 (by omega)
    omega
  have hc0 : 0 ≤ lg x (kk + (m + 2)) * 4294967296 + lg x (kk + (m + 1)) := by omega
  have hdm := Int.mul_ediv_add_emod (lg x (kk + (m + 2)) * 4294967296 + lg x (kk + (m + 1))) (lg y (m + 1))
  have hr := Int.emod_nonneg (lg x (kk + (m + 2)) * 4294967296 + lg x (kk + (m + 1))) (show lg y (m + 1) ≠ 0 by omega)
  have hr' := Int.emod_lt_of_pos (lg x (kk + (m + 2)) * 4294967296 + lg x (kk + (m + 1))) (show 0 < lg y (m + 1) by omega)
  have hq0 : 0 ≤ (lg x (kk + (m + 2)) * 4294967296 + lg x (kk + (m + 1))) / lg y (m + 1) := Int.ediv_nonneg hc0 (by omega)
  have hq1 : (lg x (kk + (m + 2)) * 4294967296 + lg x (kk + (m + 1))) / lg y (m + 1) < 8589934592 + 1 := Int.ediv_lt_of_lt_mul (by omega) (by omega)
  obtain ⟨g, h1, h2, h3', h4', h5'⟩ := guess_l0 x y hx hy lx kk m hn hk hP hV bV.1 bV.2 hU bU.1 bU.2 hv (by omega) hQ hQ' (by omega) 3 _ _ (by omega) hr (by omega) hq0 (by omega) (by rw [Int.mul_comm]; exact hdm) (knuth_first (b := 4294967296) (by decide) hP hV bV.1 v2b.1 hU bU.2 u2b.2 (by omega) hQ0 hQ)
  refine ⟨g, h1, h2, h3', h4', ?_⟩
  refine Ev.congr (fun k => by
    rw [nat_guess.f, w64 (n := (kk : Int) + (y.length : Int)) (by omega), if_pos (by omega), if_pos (by omega), w64 (n := (kk : Int) + (y.length : Int) - 1) (by omega), if_pos (by omega), if_pos (by omega), w64 (n := (y.length : Int) - 1) (by omega), if_pos (by omega), if_pos (by omega), rd_lg' y (m + 1) (by omega), wu (n := lg y (m + 1)) (by omega), if_neg (by omega), rd_lg' x (kk + (m + 2)) (by omega), rd_lg' x (kk + (m + 1)) (by omega), wu (n := lg x (kk + (m + 2))) (by omega), wu (n := lg x (kk + (m + 1))) (by omega), wu (n := lg x (kk + (m + 2)) * 4294967296) (by omega), or64 u1b.1 u1b.2 u0b.1 u0b.2, Int.tdiv_eq_ediv_of_nonneg hc0, Int.tmod_eq_emod_of_nonneg hc0, wu (by omega)]) ?_
  exact h5'
theorem take_l0 (x y : List Int) (hx : Wf 4294967296 x) (hy : Wf 4294967296 y) (lx : x.length ≤ 1000) (kk : Nat) (hk : kk + y.length < x.length) (q : Int) (q0 : 0 ≤ q) (q1 : q ≤ 4294967295) :
    ∀ (d i : Nat) (z : List Int) (c o : Int), y.length - i = d → i ≤ y.length → z.length = x.length → Wf 4294967296 z → 0 ≤ c → c < 4294967296 → 0 ≤ o → o ≤ 1 → (∀ j, kk + i ≤ j → lg z j = lg x j) →
    val 4294967296 z = val 4294967296 x + 4294967296 ^ kk * ((c + o) * 4294967296 ^ i - q * val 4294967296 (y.take i)) →
    ∃ (f : Bool) (r : List Int), r.length = x.length ∧ Wf 4294967296 r ∧ (∀ j, kk + y.length < j → lg r j = lg x j) ∧
      val 4294967296 r = val 4294967296 x - 4294967296 ^ kk * (q * val 4294967296 y) + (if f then 4294967296 ^ (kk + y.length + 1) else 0) ∧
      Ev (fun k => nat_take.l0 k z y (kk : Int) q c o (y.length : Int) (i : Int)) (f, r) := by
  intro d
  induction d with
  | zero =>
    intro i z c o hd hi hl hw c0 c1 o0 o1 hz hv
    obtain rfl : i = y.length := by omega
    have zb := hw.at (by decide) (kk + y.length)
    rw [val_take_all _ _ (Nat.le_refl _)] at hv
    have key : ∃ f : Bool, (IntKind.u64.wrap (IntKind.u64.wrap (lg z (kk + y.length) - c) - o) / 9223372036854775808 != 0) = f ∧ 0 ≤ IntKind.u64.wrap (IntKind.u64.wrap (lg z (kk + y.length) - c) - o) % 4294967296 ∧ IntKind.u64.wrap (IntKind.u64.wrap (lg z (kk + y.length) - c) - o) % 4294967296 < 4294967296 ∧
        IntKind.u64.wrap (IntKind.u64.wrap (lg z (kk + y.length) - c) - o) % 4294967296 = lg z (kk + y.length) - c - o + (if f then 4294967296 else 0) := by
      rw [wu_eq, wu_eq]
      by_cases h : lg z (kk + y.length) - c - o < 0
      · exact ⟨true, by rw [bne_iff_ne]; omega, by omega, by omega, by rw [if_pos rfl]; omega⟩
      · exact ⟨false, by rw [bne_eq_false_iff_eq]; omega, by omega, by omega, by rw [if_neg (by decide)]; omega⟩
    obtain ⟨f, e1, e2, e3, e4⟩ := key
    refine ⟨f, z.set (kk + y.length) (IntKind.u64.wrap (IntKind.u64.wrap (lg z (kk + y.length) - c) - o) % 4294967296), by rw [List.length_set]; exact hl, hw.set _ e2 e3, ?_, ?_, ?_⟩
    · intro j hj
      rw [lg_set_ne _ (by omega)]
      exact hz j (by omega)
    · rw [val_set _ _ _ _ (by omega), e4, hv, Int.pow_succ, Int.pow_add]
      cases f
      · simp only [Bool.false_eq_true, if_false]; grind
      · simp only [if_true]; grind
    · refine Ev.step (fun k => by
        rw [nat_take.l0, if_neg (by omega), w64 (by omega), if_pos (by omega), if_pos (by omega), rd_lg' z (kk + y.length) (by omega), wu (n := lg z (kk + y.length)) (by omega), e1, show ((kk : Int) + (y.length : Int)).toNat = kk + y.length by omega]) ?_
      exact Ev.all fun k => rfl
  | succ d ih =>
    intro i z c o hd hi hl hw c0 c1 o0 o1 hz hv
    have zb := hw.at (by decide) (kk + i)
    have yb := hy.at (by decide) i
    have hm := mul_bound q0 (show q < 4294967296 by omega) yb.1 yb.2
    have hS0 : 0 ≤ c + q * lg y i := by omega
    have hS1 : c + q * lg y i ≤ 18446744069414584320 := by omega
    have key : ∃ o' : Int, 0 ≤ o' ∧ o' ≤ 1 ∧ IntKind.u64.wrap (IntKind.u64.wrap (lg z (kk + i) - (c + q * lg y i) % 4294967296) - o) / 9223372036854775808 = o' ∧ 0 ≤ IntKind.u64.wrap (IntKind.u64.wrap (lg z (kk + i) - (c + q * lg y i) % 4294967296) - o) % 4294967296 ∧ IntKind.u64.wrap (IntKind.u64.wrap (lg z (kk + i) - (c + q * lg y i) % 4294967296) - o) % 4294967296 < 4294967296 ∧
        IntKind.u64.wrap (IntKind.u64.wrap (lg z (kk + i) - (c + q * lg y i) % 4294967296) - o) % 4294967296 = lg z (kk + i) - (c + q * lg y i) % 4294967296 - o + o' * 4294967296 := by
      rw [wu_eq, wu_eq]
      by_cases h : lg z (kk + i) - (c + q * lg y i) % 4294967296 - o < 0
      · exact ⟨1, by omega, by omega, by omega, by omega, by omega, by omega⟩
      · exact ⟨0, by omega, by omega, by omega, by omega, by omega, by omega⟩
    obtain ⟨o', p0, p1, e1, e2, e3, e4⟩ := key
    obtain ⟨f, r, h1, h2, h3, h4, h5⟩ := ih (i + 1) (z.set (kk + i) (IntKind.u64.wrap (IntKind.u64.wrap (lg z (kk + i) - (c + q * lg y i) % 4294967296) - o) % 4294967296)) ((c + q * lg y i) / 4294967296) o' (by omega) (by omega) (by rw [List.length_set]; exact hl) (hw.set _ e2 e3) (by omega) (by omega) p0 p1
      (fun j hj => by rw [lg_set_ne _ (by omega)]; exact hz j (by omega))
      (by
        rw [val_set _ _ _ _ (by omega), e4, hv, val_take_succ, Int.pow_succ, Int.pow_add]
        have e := Int.emod_add_mul_ediv (c + q * lg y i) 4294967296
        grind)
    refine ⟨f, r, h1, h2, h3, h4, ?_⟩
    refine Ev.step (fun k => by
      rw [nat_take.l0, if_pos (by omega), if_pos (by omega), if_pos (by omega), w64 (n := (kk : Int) + (i : Int)) (by omega), if_pos (by omega), if_pos (by omega), rd_lg y i, rd_lg' z (kk + i) (by omega), wu (n := lg y i) (by omega), wu (n := q * lg y i) (by omega), wu (n := c + q * lg y i) (by omega), wu (n := lg z (kk + i)) (by omega), e1, w64 (by omega), show ((kk : Int) + (i : Int)).toNat = kk + i by omega, show (i : Int) + 1 = ((i + 1 : Nat) : Int) by omega]) ?_
    exact h5
theorem take_f (x y : List Int) (hx : Wf 4294967296 x) (hy : Wf 4294967296 y) (lx : x.length ≤ 1000) (kk : Nat) (hk : kk + y.length < x.length) (q : Int) (q0 : 0 ≤ q) (q1 : q ≤ 4294967295) :
    ∃ (f : Bool) (r : List Int), r.length = x.length ∧ Wf 4294967296 r ∧ (∀ j, kk + y.length < j → lg r j = lg x j) ∧
      val 4294967296 r = val 4294967296 x - 4294967296 ^ kk * (q * val 4294967296 y) + (if f then 4294967296 ^ (kk + y.length + 1) else 0) ∧
      Ev (fun k => nat_take.f k x y (kk : Int) q) (f, r) := by
  obtain ⟨f, r, h1, h2, h3, h4, h5⟩ := take_l0 x y hx hy lx kk hk q q0 q1 _ 0 x 0 0 rfl (by omega) rfl hx (by omega) (by omega) (by omega) (by omega) (fun _ _ => rfl) (by simp [val])
  exact ⟨f, r, h1, h2, h3, h4, Ev.congr (fun k => by rw [nat_take.f]; rfl) h5⟩
theorem give_l0 (x y : List Int) (hx : Wf 4294967296 x) (hy : Wf 4294967296 y) (lx : x.length ≤ 1000) (kk : Nat) (hk : kk + y.length < x.length) :
    ∀ (d i : Nat) (z : List Int) (c : Int), y.length - i = d → i ≤ y.length → z.length = x.length → Wf 4294967296 z → 0 ≤ c → c ≤ 1 → (∀ j, kk + i ≤ j → lg z j = lg x j) →
    val 4294967296 z + c * 4294967296 ^ (kk + i) = val 4294967296 x + 4294967296 ^ kk * val 4294967296 (y.take i) →
    ∃ (f : Bool) (r : List Int), r.length = x.length ∧ Wf 4294967296 r ∧ (∀ j, kk + y.length < j → lg r j = lg x j) ∧
      val 4294967296 r = val 4294967296 x + 4294967296 ^ kk * val 4294967296 y - (if f then 4294967296 ^ (kk + y.length + 1) else 0) ∧
      Ev (fun k => nat_give.l0 k z y (kk : Int) c (y.length : Int) (i : Int)) r := by
  intro d
  induction d with
  | zero =>
    intro i z c hd hi hl hw c0 c1 hz hv
    obtain rfl : i = y.length := by omega
    have zb := hw.at (by decide) (kk + y.length)
    rw [val_take_all _ _ (Nat.le_refl _)] at hv
    have key : ∃ f : Bool, (lg z (kk + y.length) + c % 4294967296) % 4294967296 = lg z (kk + y.length) + c - (if f then 4294967296 else 0) := by
      by_cases h : lg z (kk + y.length) + c < 4294967296
      · exact ⟨false, by rw [if_neg (by decide)]; omega⟩
      · exact ⟨true, by rw [if_pos rfl]; omega⟩
    obtain ⟨f, e4⟩ := key
    refine ⟨f, z.set (kk + y.length) ((lg z (kk + y.length) + c % 4294967296) % 4294967296), by rw [List.length_set]; exact hl, hw.set _ (by omega) (by omega), ?_, ?_, ?_⟩
    · intro j hj
      rw [lg_set_ne _ (by omega)]
      exact hz j (by omega)
    · rw [val_set _ _ _ _ (by omega), e4, Int.pow_succ]
      cases f
      · simp only [Bool.false_eq_true, if_false]; grind
      · simp only [if_true]; grind
    · refine Ev.step (fun k => by
        rw [nat_give.l0, if_neg (by omega), w64 (by omega), if_pos (by omega), if_pos (by omega), rd_lg' z (kk + y.length) (by omega), show ((kk : Int) + (y.length : Int)).toNat = kk + y.length by omega]) ?_
      exact Ev.all fun k => rfl
  | succ d ih =>
    intro i z c hd hi hl hw c0 c1 hz hv
    have zb := hw.at (by decide) (kk + i)
    have yb := hy.at (by decide) i
    obtain ⟨f, r, h1, h2, h3, h4, h5⟩ := ih (i + 1) (z.set (kk + i) ((c + (lg z (kk + i) + lg y i)) % 4294967296)) ((c + (lg z (kk + i) + lg y i)) / 4294967296) (by omega) (by omega) (by rw [List.length_set]; exact hl) (hw.set _ (by omega) (by omega)) (by omega) (by omega)
      (fun j hj => by rw [lg_set_ne _ (by omega)]; exact hz j (by omega))
      (by
        rw [val_set _ _ _ _ (by omega), val_take_succ, show kk + (i + 1) = kk + i + 1 by omega, Int.pow_succ]
        have e := Int.emod_add_mul_ediv (c + (lg z (kk + i) + lg y i)) 4294967296
        have e2 : (4294967296 : Int) ^ (kk + i) = 4294967296 ^ kk * 4294967296 ^ i := Int.pow_add _ _ _
        rw [e2] at hv ⊢
        grind)
    refine ⟨f, r, h1, h2, h3, h4, ?_⟩
    refine Ev.step (fun k => by
      rw [nat_give.l0, if_pos (by omega), w64 (n := (kk : Int) + (i : Int)) (by omega), if_pos (by omega), if_pos (by omega), if_pos (by omega), if_pos (by omega), rd_lg y i, rd_lg' z (kk + i) (by omega), wu (n := lg z (kk + i)) (by omega), wu (n := lg y i) (by omega), wu (n := lg z (kk + i) + lg y i) (by omega), wu (by omega), w64 (by omega), show ((kk : Int) + (i : Int)).toNat = kk + i by omega, show (i : Int) + 1 = ((i + 1 : Nat) : Int) by omega]) ?_
    exact h5
theorem give_f (x y : List Int) (hx : Wf 4294967296 x) (hy : Wf 4294967296 y) (lx : x.length ≤ 1000) (kk : Nat) (hk : kk + y.length < x.length) :
    ∃ (f : Bool) (r : List Int), r.length = x.length ∧ Wf 4294967296 r ∧ (∀ j, kk + y.length < j → lg r j = lg x j) ∧
      val 4294967296 r = val 4294967296 x + 4294967296 ^ kk * val 4294967296 y - (if f then 4294967296 ^ (kk + y.length + 1) else 0) ∧
      Ev (fun k => nat_give.f k x y (kk : Int)) r := by
  obtain ⟨f, r, h1, h2, h3, h4, h5⟩ := give_l0 x y hx hy lx kk hk _ 0 x 0 rfl (by omega) rfl hx (by omega) (by omega) (fun _ _ => rfl) (by simp [val])
  exact ⟨f, r, h1, h2, h3, h4, Ev.congr (fun k => by rw [nat_give.f]; rfl) h5⟩
theorem lt_of_zeros {l : List Int} (h : Wf 4294967296 l) (n : Nat) (hz : ∀ j, n ≤ j → lg l j = 0) : val 4294967296 l < 4294967296 ^ n := by
  rw [← val_take_zeros _ l n hz]
  have := val_bound (by decide) (h.take n)
  have h2 : (4294967296 : Int) ^ (l.take n).length ≤ 4294967296 ^ n := pow_le (by decide) (by rw [List.length_take]; omega)
  omega
theorem zeros_of_lt {l : List Int} (h : Wf 4294967296 l) (n : Nat) (hv : val 4294967296 l < 4294967296 ^ n) : ∀ j, n ≤ j → lg l j = 0 := by
  intro j hj
  rcases Nat.lt_or_ge n l.length with hn | hn
  · have e := val_take_drop 4294967296 l (Nat.le_of_lt hn)
    have b1 := val_bound (by decide) (h.take n)
    have b2 := val_bound (by decide) (h.drop n)
    have hp : 0 < (4294967296 : Int) ^ n := pow_pos' (by decide) n
    have hz : val 4294967296 (l.drop n) = 0 := by
      rcases Int.lt_or_le 0 (val 4294967296 (l.drop n)) with h0 | h0
      · have : 4294967296 ^ n * 1 ≤ 4294967296 ^ n * val 4294967296 (l.drop n) := Int.mul_le_mul_of_nonneg_left (by omega) (by omega)
        omega
      · omega
    have := val_zero_of (by decide) (h.drop n) hz (j - n)
    rwa [lg_drop, show n + (j - n) = j by omega] at this
  · exact lg_ge (by omega)
theorem long_step (x y : List Int) (hx : Wf 4294967296 x) (hy : Wf 4294967296 y) (lx : x.length ≤ 1000) (kk m : Nat) (hn : y.length = m + 2) (hk : kk + y.length < x.length)
    (hv : 2147483648 ≤ lg y (m + 1)) (hlt : val 4294967296 x < val 4294967296 y * 4294967296 ^ (kk + 1)) :
    ∃ (g : Int) (f : Bool) (t r : List Int), 0 ≤ g ∧ g ≤ 4294967295 ∧ Ev (fun k => nat_guess.f k x y (kk : Int)) g ∧ Ev (fun k => nat_take.f k x y (kk : Int) g) (f, t) ∧ (f = true → Ev (fun k => nat_give.f k t y (kk : Int)) r) ∧ (f = false → r = t) ∧ (f = true → 1 ≤ g) ∧
      r.length = x.length ∧ Wf 4294967296 r ∧ val 4294967296 x = val 4294967296 r + 4294967296 ^ kk * ((if f then g - 1 else g) * val 4294967296 y) ∧ val 4294967296 r < val 4294967296 y * 4294967296 ^ kk := by
  have hp : 0 < (4294967296 : Int) ^ kk := pow_pos' (by decide) kk
  have bY := val_bound (by decide) hy
  have hzx : ∀ j, kk + y.length + 1 ≤ j → lg x j = 0 := zeros_of_lt hx _ (by
    have : val 4294967296 y * 4294967296 ^ (kk + 1) ≤ 4294967296 ^ y.length * 4294967296 ^ (kk + 1) := Int.mul_le_mul_of_nonneg_right (by omega) (by have := pow_pos' (b := 4294967296) (by decide) (kk + 1); omega)
    rw [show kk + y.length + 1 = y.length + (kk + 1) by omega, Int.pow_add]
    omega)
  have eU : val 4294967296 ((x.drop kk).take (m + 3)) = val 4294967296 (x.drop kk) := val_take_zeros _ _ _ (fun i hi => by rw [lg_drop]; exact hzx _ (by omega))
  have eX := val_take_drop 4294967296 x (show kk ≤ x.length by omega)
  have bL := take_bound hx (n := kk) (by omega)
  have bD := val_bound (by decide) (hx.drop kk)
  have hU : val 4294967296 (x.drop kk) < val 4294967296 y * 4294967296 := by
    have h1 : 4294967296 ^ kk * val 4294967296 (x.drop kk) < 4294967296 ^ kk * (val 4294967296 y * 4294967296) := by
      rw [Int.pow_succ] at hlt
      have : 4294967296 ^ kk * (val 4294967296 y * 4294967296) = val 4294967296 y * (4294967296 ^ kk * 4294967296) := by grind
      omega
    exact Int.lt_of_mul_lt_mul_left h1 (by omega)
  obtain ⟨g, g0, g1, gl, gu, gE⟩ := guess_f x y hx hy lx kk m hn hk hv eU.symm hU
  obtain ⟨f, t, t1, t2, t3, t4, tE⟩ := take_f x y hx hy lx kk hk g g0 g1
  have hVp : 0 < val 4294967296 y := by
    have h2 := two_top y m hn
    have hP : 0 < (4294967296 : Int) ^ m := pow_pos' (by decide) m
    have v2b := hy.at (by decide) m
    have bV := take_bound hy (n := m) (by omega)
    have h3 : 1 * (4294967296 * 4294967296 ^ m) ≤ lg y (m + 1) * (4294967296 * 4294967296 ^ m) := Int.mul_le_mul_of_nonneg_right (by omega) (by omega)
    have h4 : 0 ≤ lg y m * 4294967296 ^ m := Int.mul_nonneg v2b.1 (by omega)
    omega
  generalize hU' : val 4294967296 (x.drop kk) = U at *
  generalize hV' : val 4294967296 y = V at *
  have hQ := Int.mul_ediv_add_emod U V
  have hR0 := Int.emod_nonneg U (show V ≠ 0 by omega)
  have hR1 := Int.emod_lt_of_pos U hVp
  have hzt : ∀ j, kk + y.length + 1 ≤ j → lg t j = 0 := fun j hj => by rw [t3 j (by omega)]; exact hzx j hj
  have bt := val_bound (by decide) t2
  have ut := lt_of_zeros t2 _ hzt
  generalize hQ' : U / V = Q at *
  generalize hR' : U % V = R at *
  have hR2 : 4294967296 ^ kk * R + 4294967296 ^ kk ≤ V * 4294967296 ^ kk := by
    have : (R + 1) * 4294967296 ^ kk ≤ V * 4294967296 ^ kk := Int.mul_le_mul_of_nonneg_right (by omega) (by omega)
    have e : (R + 1) * 4294967296 ^ kk = 4294967296 ^ kk * R + 4294967296 ^ kk := by grind
    omega
  have hR3 : 0 ≤ 4294967296 ^ kk * R := Int.mul_nonneg (by omega) hR0
  rcases (by omega : g = Q ∨ g = Q + 1) with hg | hg
  ·
    subst hg
    have e1 : val 4294967296 x - 4294967296 ^ kk * (g * V) = val 4294967296 (x.take kk) + 4294967296 ^ kk * R := by rw [eX, ← hQ]; grind
    have hf : f = false := by
      cases f
      · rfl
      · rw [if_pos rfl] at t4
        omega
    subst hf
    simp only [Bool.false_eq_true, if_false] at t4
    refine ⟨g, false, t, t, g0, g1, gE, tE, by simp, by simp, by simp, t1, t2, ?_, ?_⟩
    · simp only [Bool.false_eq_true, if_false]; omega
    · omega
  ·
    have e1 : val 4294967296 x - 4294967296 ^ kk * (g * V) = val 4294967296 (x.take kk) + 4294967296 ^ kk * R - 4294967296 ^ kk * V := by rw [eX, ← hQ, hg]; grind
    have hRV : 4294967296 ^ kk * R + 4294967296 ^ kk ≤ 4294967296 ^ kk * V := by
      have : V * 4294967296 ^ kk = 4294967296 ^ kk * V := Int.mul_comm _ _
      omega
    have hf : f = true := by
      cases f
      · simp only [Bool.false_eq_true, if_false] at t4
        omega
      · rfl
    subst hf
    rw [if_pos rfl] at t4
    obtain ⟨f2, r, r1, r2, r3, r4, rE⟩ := give_f t y t2 hy (by omega) kk (by omega)
    have br := val_bound (by decide) r2
    have ur := lt_of_zeros r2 (kk + y.length + 1) (fun j hj => by rw [r3 j (by omega)]; exact hzt j hj)
    rw [hV'] at r4
    have hf2 : f2 = true := by
      cases f2
      · simp only [Bool.false_eq_true, if_false] at r4
        omega
      · rfl
    subst hf2
    rw [if_pos rfl] at r4
    have hg1 : 1 ≤ g := by
      have : 0 ≤ Q := by
        rw [← hQ']
        exact Int.ediv_nonneg bD.1 (by omega)
      omega
    refine ⟨g, true, t, r, g0, g1, gE, tE, fun _ => rE, by simp, fun _ => hg1, by omega, r2, ?_, ?_⟩
    · have e2 : 4294967296 ^ kk * ((if true = true then g - 1 else g) * V) = 4294967296 ^ kk * (g * V) - 4294967296 ^ kk * V := by rw [if_pos rfl]; grind
      omega
    · omega
theorem long_l0 (y : List Int) (hy : Wf 4294967296 y) (s m : Nat) (hs : s < 32) (hn : y.length = m + 2) (hv : 2147483648 ≤ lg y (m + 1)) (X D A : Int) (hX : X = A * 2 ^ s) (hD : val 4294967296 y = D * 2 ^ s) (L W : Nat) (hL : L ≤ 1000) (hW : W + m + 2 = L) :
    ∀ (n : Nat) (x out : List Int), n ≤ W → x.length = L → Wf 4294967296 x → out.length = W → Wf 4294967296 out → (∀ j, j < n → lg out j = 0) →
    X = val 4294967296 x + val 4294967296 y * val 4294967296 out → val 4294967296 x < val 4294967296 y * 4294967296 ^ n →
    Ev (fun k => nat_long.l0 k (s : Int) x y out ((n : Int) - 1)) (limbs (A / D).toNat, limbs (A % D).toNat) := by
  have hp := two_pos s
  have hVp : 0 < val 4294967296 y := by
    have h2 := two_top y m hn
    have hP : 0 < (4294967296 : Int) ^ m := pow_pos' (by decide) m
    have v2b := hy.at (by decide) m
    have bV := take_bound hy (n := m) (by omega)
    have h3 : 1 * (4294967296 * 4294967296 ^ m) ≤ lg y (m + 1) * (4294967296 * 4294967296 ^ m) := Int.mul_le_mul_of_nonneg_right (by omega) (by omega)
    have h4 : 0 ≤ lg y m * 4294967296 ^ m := Int.mul_nonneg v2b.1 (by omega)
    omega
  have hDp : 0 < D := by
    rcases Int.lt_or_le 0 D with h | h
    · exact h
    · have : D * 2 ^ s ≤ 0 * 2 ^ s := Int.mul_le_mul_of_nonneg_right h (by omega)
      omega
  intro n
  induction n with
  | zero =>
    intro x out hnW hlx hx hlo ho hz hv1 hv2
    have bx := val_bound (by decide) hx
    have bo := val_bound (by decide) ho
    rw [Int.pow_zero, Int.mul_one] at hv2
    have e1 : val 4294967296 x = (A - D * val 4294967296 out) * 2 ^ s := by
      have : (A - D * val 4294967296 out) * 2 ^ s = A * 2 ^ s - (D * 2 ^ s) * val 4294967296 out := by grind
      rw [this, ← hX, ← hD]; omega
    have r0 : 0 ≤ A - D * val 4294967296 out := by
      rcases Int.lt_or_le (A - D * val 4294967296 out) 0 with h | h
      · have : (A - D * val 4294967296 out) * 2 ^ s < 0 * 2 ^ s := Int.mul_lt_mul_of_pos_right h hp
        omega
      · exact h
    have r1 : A - D * val 4294967296 out < D := by
      rw [e1, hD] at hv2
      exact Int.lt_of_mul_lt_mul_right hv2 (by omega)
    have eq : A / D = val 4294967296 out := by
      have : A = (A - D * val 4294967296 out) + D * val 4294967296 out := by omega
      rw [this, Int.add_mul_ediv_left _ _ (by omega), Int.ediv_eq_zero_of_lt r0 r1]; omega
    have er : A % D = A - D * val 4294967296 out := by
      have := Int.mul_ediv_add_emod A D
      rw [eq] at this; omega
    obtain ⟨r, h1, h2, h3, h4⟩ := unshift_f x s hx (by omega) hs
    have e2 : lg x 0 % 2 ^ s = 0 := by
      have h5 : val 4294967296 x = lg x 0 + 4294967296 * val 4294967296 (x.drop 1) := by
        have := val_drop_succ 4294967296 x 0
        rwa [List.drop_zero] at this
      have h6 : (4294967296 : Int) = 2 ^ s * 2 ^ (32 - s) := (two_parts (by omega)).symm
      have h7 : lg x 0 = 2 ^ s * ((A - D * val 4294967296 out) - 2 ^ (32 - s) * val 4294967296 (x.drop 1)) := by
        have e : 2 ^ s * ((A - D * val 4294967296 out) - 2 ^ (32 - s) * val 4294967296 (x.drop 1)) = (A - D * val 4294967296 out) * 2 ^ s - (2 ^ s * 2 ^ (32 - s)) * val 4294967296 (x.drop 1) := by grind
        rw [e, ← h6, ← e1]; omega
      rw [h7, Int.mul_emod_right]
    have e3 : val 4294967296 r = A % D := by
      rw [e2, e1] at h3
      have : 2 ^ s * val 4294967296 r = 2 ^ s * (A - D * val 4294967296 out) := by rw [h3]; grind
      rw [er]
      exact Int.eq_of_mul_eq_mul_left (by omega) this
    refine Ev.step (fun k => by rw [nat_long.l0, if_neg (by omega)]) ?_
    refine Ev.bind (trim_f out ho (by omega)) ?_
    refine Ev.bind h4 ?_
    refine Ev.bind (trim_f r h2 (by omega)) ?_
    exact Ev.all fun k => by rw [e3, eq]
  | succ n ih =>
    intro x out hnW hlx hx hlo ho hz hv1 hv2
    obtain ⟨g, f, t, r, g0, g1, gE, tE, rE, rt, gp, l1, w1, v1, v2⟩ := long_step x y hx hy (by omega) n m hn (by omega) hv hv2
    have e0 : ((n + 1 : Nat) : Int) - 1 = (n : Int) := by omega
    rw [e0]
    cases f with
    | true =>
      have gp := gp rfl
      rw [if_pos rfl] at v1
      have := ih r (out.set n (g - 1)) (by omega) (by omega) w1 (by rw [List.length_set]; exact hlo) (ho.set _ (by omega) (by omega)) (fun j hj => by rw [lg_set_ne _ (by omega)]; exact hz j (by omega))
        (by rw [val_set _ _ _ _ (by omega), hz n (by omega), hv1, v1]; grind) v2
      refine Ev.step (fun k => by rw [nat_long.l0, if_pos (by omega)]) ?_
      refine Ev.bind gE ?_
      refine Ev.bind tE ?_
      refine Ev.congr (fun k => by rw [if_pos rfl]) ?_
      refine Ev.bind (rE rfl) ?_
      refine Ev.congr (fun k => by rw [if_pos (by omega), if_pos (by omega), wu (by omega), Int.emod_eq_of_lt (by omega) (by omega), w64 (by omega), Int.toNat_natCast]) ?_
      exact this
    | false =>
      simp only [Bool.false_eq_true, if_false] at v1
      obtain rfl := rt rfl
      have := ih r (out.set n g) (by omega) (by omega) w1 (by rw [List.length_set]; exact hlo) (ho.set _ (by omega) (by omega)) (fun j hj => by rw [lg_set_ne _ (by omega)]; exact hz j (by omega))
        (by rw [val_set _ _ _ _ (by omega), hz n (by omega), hv1, v1]; grind) v2
      refine Ev.step (fun k => by rw [nat_long.l0, if_pos (by omega)]) ?_
      refine Ev.bind gE ?_
      refine Ev.bind tE ?_
      refine Ev.congr (fun k => by rw [if_neg (by simp)]) ?_
      refine Ev.congr (fun k => by rw [if_pos (by omega), if_pos (by omega), Int.emod_eq_of_lt (by omega) (by omega), w64 (by omega), Int.toNat_natCast]) ?_
      exact this
theorem long_f (a b : Nat) (la : (limbs a).length ≤ 900) (lb : 2 ≤ (limbs b).length) (hab : (limbs b).length ≤ (limbs a).length) :
    Ev (fun k => nat_long.f k (limbs a) (limbs b)) (limbs (a / b), limbs (a % b)) := by
  obtain ⟨m, hm⟩ : ∃ m, (limbs b).length = m + 2 := ⟨(limbs b).length - 2, by omega⟩
  have wa := wf_limbs a
  have wb := wf_limbs b
  have tb := wb.at (by decide) (m + 1)
  have htop : lg (limbs b) (m + 1) ≠ 0 := by
    rcases tidy_limbs b with h | h
    · rw [h] at hm; cases hm
    · rwa [hm] at h
  obtain ⟨v, hv⟩ := Int.eq_ofNat_of_zero_le tb.1
  have hv32 : v < 2 ^ 32 := by have := tb.2; rw [hv] at this; omega
  have hv0 : v ≠ 0 := by intro e; rw [e] at hv; exact htop hv
  have hvL := Lib.bitLenAux_bounds 64 v (by omega) hv0
  have hbl : Lib.bitLen v ≤ 32 := Lib.bitLen_le v 32 (by decide) hv32
  change 1 ≤ Lib.bitLen v ∧ 2 ^ (Lib.bitLen v - 1) ≤ v ∧ v < 2 ^ Lib.bitLen v at hvL
  generalize hs0 : Lib.bitLen v = L at *
  obtain ⟨s, hs⟩ : ∃ s, s + L = 32 := ⟨32 - L, by omega⟩
  have hp := two_pos s
  have s31 : s < 32 := by omega
  have hlo : (2147483648 : Int) ≤ v * 2 ^ s := by
    have h1 : (2 : Int) ^ (L - 1) ≤ (v : Int) := by
      have := hvL.2.1
      have e : ((2 ^ (L - 1) : Nat) : Int) = 2 ^ (L - 1) := by rw [Int.natCast_pow]; rfl
      omega
    have h2 : (2 : Int) ^ (L - 1) * 2 ^ s ≤ (v : Int) * 2 ^ s := Int.mul_le_mul_of_nonneg_right h1 (by omega)
    have e : (2 : Int) ^ (L - 1) * 2 ^ s = 2147483648 := by rw [← Int.pow_add, show L - 1 + s = 31 by omega]; decide
    omega
  have hhi : ((v : Int) + 1) * 2 ^ s ≤ 4294967296 := by
    have h1 : (v : Int) + 1 ≤ 2 ^ L := by
      have := hvL.2.2
      have e : ((2 ^ L : Nat) : Int) = 2 ^ L := by rw [Int.natCast_pow]; rfl
      omega
    have h2 : ((v : Int) + 1) * 2 ^ s ≤ 2 ^ L * 2 ^ s := Int.mul_le_mul_of_nonneg_right h1 (by omega)
    have e : (2 : Int) ^ L * 2 ^ s = 4294967296 := by rw [← Int.pow_add, show L + s = 32 by omega]; decide
    omega
  obtain ⟨x, x1, x2, x3, xE⟩ := shift_f (limbs a) s wa (by omega) s31
  obtain ⟨y, y1, y2, y3, yE⟩ := shift_f (limbs b) s wb (by omega) s31
  rw [val_limbs] at x3 y3
  have hpm : 0 < (4294967296 : Int) ^ (m + 1) := pow_pos' (by decide) (m + 1)
  have eb : (b : Int) = lg (limbs b) (m + 1) * 4294967296 ^ (m + 1) + val 4294967296 ((limbs b).take (m + 1)) := by
    have := val_take_succ 4294967296 (limbs b) (m + 1)
    rw [val_take_all _ _ (by omega), val_limbs] at this
    omega
  have bl := take_bound wb (n := m + 1) (by omega)
  rw [hv] at eb
  have hylt : val 4294967296 y < 4294967296 ^ (m + 2) := by
    have h1 : (b : Int) * 2 ^ s < (((v : Int) + 1) * 2 ^ s) * 4294967296 ^ (m + 1) := by
      have h2 : (b : Int) < ((v : Int) + 1) * 4294967296 ^ (m + 1) := by
        have : ((v : Int) + 1) * 4294967296 ^ (m + 1) = v * 4294967296 ^ (m + 1) + 4294967296 ^ (m + 1) := by grind
        omega
      have h3 : (b : Int) * 2 ^ s < ((v : Int) + 1) * 4294967296 ^ (m + 1) * 2 ^ s := Int.mul_lt_mul_of_pos_right h2 hp
      have e : ((v : Int) + 1) * 4294967296 ^ (m + 1) * 2 ^ s = (((v : Int) + 1) * 2 ^ s) * 4294967296 ^ (m + 1) := by grind
      omega
    have h4 : (((v : Int) + 1) * 2 ^ s) * 4294967296 ^ (m + 1) ≤ 4294967296 * 4294967296 ^ (m + 1) := Int.mul_le_mul_of_nonneg_right hhi (by omega)
    rw [y3, show m + 2 = (m + 1) + 1 by omega, Int.pow_succ]
    omega
  have hyz := zeros_of_lt y2 (m + 2) hylt
  have eY : val 4294967296 (y.take (m + 2)) = (b : Int) * 2 ^ s := by rw [val_take_zeros _ _ _ hyz, y3]
  have ylen : (y.take (m + 2)).length = m + 2 := by rw [List.length_take]; omega
  have wy := y2.take (m + 2)
  have hyt : 2147483648 ≤ lg (y.take (m + 2)) (m + 1) := by
    have e1 := val_take_succ 4294967296 (y.take (m + 2)) (m + 1)
    rw [val_take_all _ _ (by omega), eY] at e1
    have b1 := take_bound wy (n := m + 1) (by omega)
    have h1 : 2147483648 * 4294967296 ^ (m + 1) ≤ (b : Int) * 2 ^ s := by
      have h2 : (v : Int) * 4294967296 ^ (m + 1) ≤ b := by omega
      have h3 : (v : Int) * 4294967296 ^ (m + 1) * 2 ^ s ≤ b * 2 ^ s := Int.mul_le_mul_of_nonneg_right h2 (by omega)
      have h4 : 2147483648 * 4294967296 ^ (m + 1) ≤ (v * 2 ^ s) * (4294967296 : Int) ^ (m + 1) := Int.mul_le_mul_of_nonneg_right hlo (by omega)
      have e : (v : Int) * 4294967296 ^ (m + 1) * 2 ^ s = (v * 2 ^ s) * 4294967296 ^ (m + 1) := by grind
      omega
    have h5 : 2147483648 * 4294967296 ^ (m + 1) < (lg (y.take (m + 2)) (m + 1) + 1) * 4294967296 ^ (m + 1) := by
      have e : (lg (y.take (m + 2)) (m + 1) + 1) * 4294967296 ^ (m + 1) = lg (y.take (m + 2)) (m + 1) * 4294967296 ^ (m + 1) + 4294967296 ^ (m + 1) := by grind
      omega
    have := Int.lt_of_mul_lt_mul_right h5 (by omega)
    omega
  have hxlt : val 4294967296 x < val 4294967296 (y.take (m + 2)) * 4294967296 ^ ((limbs a).length - (m + 2) + 1) := by
    have b1 := val_bound (by decide) wa
    rw [val_limbs] at b1
    have h31 : (2 : Int) ^ s ≤ 2147483648 := by
      have : (2 : Int) ^ s ≤ 2 ^ 31 := pow_le (by decide) (by omega)
      have e : (2 : Int) ^ 31 = 2147483648 := by decide
      omega
    have h1 : (a : Int) * 2 ^ s < 4294967296 ^ (limbs a).length * 2 ^ s := Int.mul_lt_mul_of_pos_right b1.2 hp
    have hpa : 0 < (4294967296 : Int) ^ (limbs a).length := pow_pos' (by decide) _
    have h2 : (4294967296 : Int) ^ (limbs a).length * 2 ^ s ≤ 4294967296 ^ (limbs a).length * 2147483648 := Int.mul_le_mul_of_nonneg_left h31 (by omega)
    have e1 := val_take_succ 4294967296 (y.take (m + 2)) (m + 1)
    rw [val_take_all _ _ (by omega)] at e1
    have b2 := take_bound wy (n := m + 1) (by omega)
    have h3 : 2147483648 * 4294967296 ^ (m + 1) ≤ val 4294967296 (y.take (m + 2)) := by
      have : 2147483648 * 4294967296 ^ (m + 1) ≤ lg (y.take (m + 2)) (m + 1) * 4294967296 ^ (m + 1) := Int.mul_le_mul_of_nonneg_right hyt (by omega)
      omega
    have hpw : 0 < (4294967296 : Int) ^ ((limbs a).length - (m + 2) + 1) := pow_pos' (by decide) _
    have h4 : 2147483648 * 4294967296 ^ (m + 1) * 4294967296 ^ ((limbs a).length - (m + 2) + 1) ≤ val 4294967296 (y.take (m + 2)) * 4294967296 ^ ((limbs a).length - (m + 2) + 1) := Int.mul_le_mul_of_nonneg_right h3 (by omega)
    have e2 : (4294967296 : Int) ^ (m + 1) * 4294967296 ^ ((limbs a).length - (m + 2) + 1) = 4294967296 ^ (limbs a).length := by rw [← Int.pow_add, show m + 1 + ((limbs a).length - (m + 2) + 1) = (limbs a).length by omega]
    have e3 : 2147483648 * (4294967296 : Int) ^ (m + 1) * 4294967296 ^ ((limbs a).length - (m + 2) + 1) = 4294967296 ^ (limbs a).length * 2147483648 := by rw [← e2]; grind
    rw [x3]
    omega
  have main := long_l0 (y.take (m + 2)) wy s m s31 ylen hyt ((a : Int) * 2 ^ s) b a rfl eY ((limbs a).length + 1) ((limbs a).length - (m + 2) + 1) (by omega) (by omega) ((limbs a).length - (m + 2) + 1) x (List.replicate ((limbs a).length - (m + 2) + 1) 0) (Nat.le_refl _) x1 x2 (by simp) (Wf.replicate (by decide) _) (fun j _ => lg_replicate _ _) (by rw [val_replicate, x3]; omega) hxlt
  have e1 : ((a : Int) / (b : Int)).toNat = a / b := by rw [← Int.natCast_ediv, Int.toNat_natCast]
  have e2 : ((a : Int) % (b : Int)).toNat = a % b := by rw [← Int.natCast_emod, Int.toNat_natCast]
  rw [e1, e2] at main
  refine Ev.congr (fun k => by
    rw [nat_long.f, w64 (by omega), if_pos (by omega), if_pos (by omega), rd_lg' _ (m + 1) (by omega), hv, bits_LeadingZeros32.f, if_pos (by omega), Int.toNat_natCast, hs0, show (32 - (L : Int)) = (s : Int) by omega, Option.bind_some]) ?_
  refine Ev.bind xE ?_
  refine Ev.bind yE ?_
  refine Ev.congr (fun k => by
    rw [if_pos (by omega), if_pos (by omega), w64 (n := ((limbs a).length : Int) - ((limbs b).length : Int)) (by omega), w64 (n := ((limbs a).length : Int) - ((limbs b).length : Int) + 1) (by omega), if_pos (by omega), if_pos (by omega), Option.bind_some, List.length_replicate, Int.toNat_natCast, hm, show (((limbs a).length : Int) - ((m + 2 : Nat) : Int) + 1).toNat = (limbs a).length - (m + 2) + 1 by omega, w64 (by omega)]) ?_
  exact main
end Go.Proofs.YtakickbnjbedfaaDoor.F
