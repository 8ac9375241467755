/- Part of the proof of Card. -/
import Derived.Test.YtakickbnjbedfaaDoorRatTellsR2
namespace Go.Proofs.YtakickbnjbedfaaDoor.R
set_option linter.unusedVariables false
set_option linter.unusedSimpArgs false
open Go.RowKit Go.Proofs.YtakickbnjbedfaaDoorW.PrintWords Go.Proofs.YtakickbnjbedfaaDoorW.PrintLast Go.Proofs.YtakickbnjbedfaaDoor.PA Go.Proofs.YtakickbnjbedfaaDoor.Num Go.Proofs.YtakickbnjbedfaaDoor.F
theorem mul_b {o p c s : Int} (ox : 0 ≤ o ∧ o < 65536) (p0 : 0 ≤ p ∧ p ≤ 4294836225) (c0 : 0 ≤ c) (c1 : c < 65536) (hs : o + p + c = s) :
    (0 ≤ p ∧ p ≤ 18446744073709551615) ∧ (0 ≤ o + p ∧ o + p ≤ 18446744073709551615) ∧ (0 ≤ o + p + c ∧ o + p + c ≤ 18446744073709551615) ∧ 0 ≤ s ∧ (0 ≤ s / 65536 ∧ s / 65536 ≤ 18446744073709551615) := by omega
theorem mul_ix {i j n m : Nat} (hi : i < n) (hj : j < m) (hn : n ≤ 10000) (hm : m ≤ 10000) : wrap64 ((i : Int) + (j : Int)) = ((i + j : Nat) : Int) := by rw [w64 (by omega)]; omega
theorem mul_jx {j m : Nat} (hj : j < m) (hm : m ≤ 10000) : wrap64 ((j : Int) + 1) = ((j + 1 : Nat) : Int) := by rw [w64 (by omega)]; omega
theorem mul_st (x y out : List Int) (n m i j : Nat) (c s p : Int) (hi : i < n) (hj : j < m) (lx : x.length = n) (ly : y.length = m) (lo : out.length = n + m + 2) (hn : n ≤ 10000) (hm : m ≤ 10000)
    (hp : lg x i * lg y j = p) (p0 : 0 ≤ p ∧ p ≤ 4294836225) (ox : 0 ≤ lg out (i + j) ∧ lg out (i + j) < 65536) (c0 : 0 ≤ c) (c1 : c < 65536) (hs : lg out (i + j) + p + c = s) (k : Nat) :
    samphireref02_Mul.l1 (k + 1) (n : Int) (m : Int) x y out (i : Int) c (j : Int) = samphireref02_Mul.l1 k (n : Int) (m : Int) x y (out.set (i + j) (s % 65536)) (i : Int) (s / 65536) ((j + 1 : Nat) : Int) := by
  obtain ⟨b1, b2, b3, b4, b5⟩ := mul_b ox p0 c0 c1 hs
  rw [samphireref02_Mul.l1, mul_ix hi hj hn hm, mul_jx hj hm, if_pos (Int.ofNat_lt.2 hj), if_pos (Int.natCast_nonneg _), if_pos (Int.ofNat_lt.2 (by rw [lo]; clear b1 b2 b3 b4 b5 hs p0 hp ox c0 c1; omega)), if_pos (Int.natCast_nonneg _), if_pos (Int.ofNat_lt.2 (by rw [lx]; exact hi)), if_pos (Int.natCast_nonneg _), if_pos (Int.ofNat_lt.2 (by rw [ly]; exact hj))]
  rw [rd_lg, rd_lg, rd_lg, hp]
  rw [wu b1, wu b2, wu b3, hs]
  rw [Int.tdiv_eq_ediv_of_nonneg b4, Int.tmod_eq_emod_of_nonneg b4]
  rw [wu b5]
  rw [Int.toNat_natCast]
theorem mul_st0 (x y out : List Int) (n m i : Nat) (c : Int) (hi : i < n) (lo : out.length = n + m + 2) (hn : n ≤ 10000) (hm : m ≤ 10000)
    (hz : lg out (i + m) = 0) (c0 : 0 ≤ c) (c1 : c < 65536) (k : Nat) :
    samphireref02_Mul.l1 (k + 1) (n : Int) (m : Int) x y out (i : Int) c (m : Int) = samphireref02_Mul.l0 k (n : Int) (m : Int) x y (out.set (i + m) c) ((i + 1 : Nat) : Int) := by
  have e1 : wrap64 ((i : Int) + (m : Int)) = ((i + m : Nat) : Int) := by rw [w64 (by omega)]; omega
  have e2 : wrap64 ((i : Int) + 1) = ((i + 1 : Nat) : Int) := by rw [w64 (by omega)]; omega
  have g1 : ((i + m : Nat) : Int) < (out.length : Int) := by omega
  rw [samphireref02_Mul.l1, e1, e2, if_neg (by omega), if_pos (by omega), if_pos g1, rd_lg, hz, wu (n := 0 + c) (by omega), Int.zero_add, Int.toNat_natCast]
theorem mul_nums {o p c s : Int} (ox : 0 ≤ o ∧ o < 65536) (p0 : 0 ≤ p ∧ p ≤ 4294836225) (c0 : 0 ≤ c) (c1 : c < 65536) (hs : o + p + c = s) :
    (0 ≤ s % 65536 ∧ s % 65536 < 65536) ∧ 0 ≤ s / 65536 ∧ s / 65536 < 65536 := by omega
theorem mul_ar {O V xi Y yj Pi Pj o c s : Int} (h : O + c * (Pi * Pj) = V + xi * Y * Pi) (hs : o + xi * yj + c = s) : O + (s % 65536 - o) * (Pi * Pj) + s / 65536 * (Pi * Pj * 65536) = V + xi * (Y + yj * Pj) * Pi := by
  have e : s % 65536 = s - 65536 * (s / 65536) := by omega
  rw [e]
  generalize s / 65536 = q
  subst hs
  grind
theorem rmul_l1 (x y : List Int) (n m : Nat) (hx : Wf 65536 x) (hy : Wf 65536 y) (lx : x.length = n) (ly : y.length = m) (hn : n ≤ 10000) (hm : m ≤ 10000) (i : Nat) (hi : i < n) (V : Int) (r : List Int)
    (K : ∀ out : List Int, out.length = n + m + 2 → Wf 65536 out → (∀ j, i + 1 + m ≤ j → lg out j = 0) → val 65536 out = V + lg x i * val 65536 y * 65536 ^ i →
      Ev (fun k => samphireref02_Mul.l0 k (n : Int) (m : Int) x y out ((i + 1 : Nat) : Int)) r) :
    ∀ (d j : Nat) (out : List Int) (c : Int), m - j = d → j ≤ m → out.length = n + m + 2 → Wf 65536 out → 0 ≤ c → c < 65536 → (∀ j, i + m ≤ j → lg out j = 0) →
    val 65536 out + c * 65536 ^ (i + j) = V + lg x i * val 65536 (y.take j) * 65536 ^ i →
    Ev (fun k => samphireref02_Mul.l1 k (n : Int) (m : Int) x y out (i : Int) c (j : Int)) r := by
  intro d
  have ax := hx.at (by decide) i
  induction d with
  | zero =>
    intro j out c hd hj hl hw c0 c1 hz hv
    obtain rfl : j = m := by omega
    refine Ev.step (mul_st0 x y out n j i c hi hl hn hm (hz _ (Nat.le_refl _)) c0 c1) ?_
    refine K _ (by rw [List.length_set]; exact hl) (hw.set _ c0 c1) ?_ ?_
    · intro j' hj'
      rw [lg_set_ne _ (by omega)]
      exact hz j' (by omega)
    · rw [val_set _ _ _ _ (by omega), hz _ (Nat.le_refl _)]
      rw [val_take_all _ _ (by omega)] at hv
      rw [Int.sub_zero]; exact hv
  | succ d ih =>
    intro j out c hd hj hl hw c0 c1 hz hv
    have bx := hy.at (by decide) j
    have ox := hw.at (by decide) (i + j)
    have hp := mul_bound ax.1 ax.2 bx.1 bx.2
    have g1 : m - (j + 1) = d := by omega
    have g2 : j + 1 ≤ m := by omega
    have g3 : i + j < out.length := by omega
    obtain ⟨s, hs⟩ : ∃ s, lg out (i + j) + lg x i * lg y j + c = s := ⟨_, rfl⟩
    have st := mul_st x y out n m i j c s _ hi g2 lx ly hl hn hm rfl hp ox c0 c1 hs
    have nm := mul_nums ox hp c0 c1 hs
    have key := ih (j + 1) (out.set (i + j) (s % 65536)) (s / 65536) g1 g2 (by rw [List.length_set]; exact hl) (hw.set _ nm.1.1 nm.1.2) nm.2.1 nm.2.2
    refine Ev.step st (key ?_ ?_)
    · intro j' hj'
      rw [lg_set_ne _ (by clear hs hv nm hp; omega)]
      exact hz j' hj'
    · rw [val_set _ _ _ _ g3, val_take_succ, show i + (j + 1) = i + j + 1 by omega, Int.pow_succ, Int.pow_add]
      rw [Int.pow_add] at hv
      exact mul_ar hv hs
theorem rmul_l0 (x y : List Int) (n m M : Nat) (hx : Wf 65536 x) (hy : Wf 65536 y) (lx : x.length = n) (ly : y.length = m) (hn : n ≤ 10000) (hm : m ≤ 10000) (hM : n + m + 2 = 2 * M) :
    ∀ (d i : Nat) (out : List Int), n - i = d → i ≤ n → out.length = n + m + 2 → Wf 65536 out → (∀ j, i + m ≤ j → lg out j = 0) →
    val 65536 out = val 65536 (x.take i) * val 65536 y →
    Ev (fun k => samphireref02_Mul.l0 k (n : Int) (m : Int) x y out (i : Int)) (limbs (val 65536 x * val 65536 y).toNat) := by
  intro d
  induction d with
  | zero =>
    intro i out hd hi hl hw hz hv
    obtain rfl : i = n := by omega
    rw [val_take_all _ _ (by omega)] at hv
    refine Ev.step (fun k => by rw [samphireref02_Mul.l0, if_neg (by omega)]) ?_
    refine Ev.bind (whole_f out hw M (by omega) (by omega)) (Ev.all fun k => by rw [hv])
  | succ d ih =>
    intro i out hd hi hl hw hz hv
    refine Ev.step (fun k => by rw [samphireref02_Mul.l0, if_pos (by omega)]) ?_
    refine rmul_l1 x y n m hx hy lx ly hn hm i (by omega) (val 65536 out) _ ?_ _ 0 out 0 rfl (by omega) hl hw (by omega) (by omega) hz (by simp [val])
    intro out' hl' hw' hz' hv'
    refine ih (i + 1) out' (by omega) (by omega) hl' hw' hz' ?_
    rw [hv', hv, val_take_succ]
    grind
theorem rmul_f (a b : Nat) (la : (limbs a).length ≤ 1000) (lb : (limbs b).length ≤ 1000) : Ev (fun k => samphireref02_Mul.f k (limbs a) (limbs b)) (limbs (a * b)) := by
  obtain ⟨n, hn⟩ : ∃ n, (limbs a).length = n := ⟨_, rfl⟩
  obtain ⟨m, hm⟩ : ∃ m, (limbs b).length = m := ⟨_, rfl⟩
  have e1 : wrap64 (2 * (n : Int)) = ((2 * n : Nat) : Int) := by rw [w64 (by omega)]; omega
  have e2 : wrap64 (2 * (m : Int)) = ((2 * m : Nat) : Int) := by rw [w64 (by omega)]; omega
  have e3 : wrap64 (((2 * n : Nat) : Int) + ((2 * m : Nat) : Int)) = ((2 * n + 2 * m : Nat) : Int) := by rw [w64 (by omega)]; omega
  have e4 : wrap64 (((2 * n + 2 * m : Nat) : Int) + 2) = ((2 * n + 2 * m + 2 : Nat) : Int) := by rw [w64 (by omega)]; omega
  unfold samphireref02_Mul.f
  rw [hn, hm, e1, e2, e3, e4]
  refine Ev.bind (half_f _ (wf_limbs a) (by omega) (2 * n) (by omega)) ?_
  refine Ev.bind (half_f _ (wf_limbs b) (by omega) (2 * m) (by omega)) ?_
  refine Ev.congr (fun k => by rw [Int.toNat_natCast, if_pos (by omega), if_pos (by omega)]) ?_
  have va := hval a (m := n) (by omega)
  have vb := hval b (m := m) (by omega)
  have := rmul_l0 _ _ (2 * n) (2 * m) (n + m + 1) (hv_wf (wf_limbs a) (2 * n)) (hv_wf (wf_limbs b) (2 * m)) (hv_len _ _) (hv_len _ _) (by omega) (by omega) (by omega) _ 0 (List.replicate (2 * n + 2 * m + 2) 0) rfl (by omega) (by simp) (Wf.replicate (by decide) _) (fun j _ => lg_replicate _ _) (by simp [val_replicate, val])
  rw [va, vb, show ((a : Int) * (b : Int)).toNat = a * b by rw [← Int.natCast_mul]; rfl] at this
  exact this
end Go.Proofs.YtakickbnjbedfaaDoor.R
