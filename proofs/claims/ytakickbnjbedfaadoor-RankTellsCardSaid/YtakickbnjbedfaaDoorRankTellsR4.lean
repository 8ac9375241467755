/- Part of the proof of Card. -/
import Derived.Test.YtakickbnjbedfaaDoorRankTellsR3
import Derived.Test.YtakickbnjbedfaaDoorRankTellsF2
import Derived.Test.YtakickbnjbedfaaDoorRankTellsP1
namespace Go.Proofs.YtakickbnjbedfaaDoor.R
set_option linter.unusedVariables false
set_option linter.unusedSimpArgs false
open Go.RowKit Go.Proofs.YtakickbnjbedfaaDoorW.PrintWords Go.Proofs.YtakickbnjbedfaaDoorW.PrintLast Go.Proofs.YtakickbnjbedfaaDoor.PA Go.Proofs.YtakickbnjbedfaaDoor.Num Go.Proofs.YtakickbnjbedfaaDoor.F
theorem lg_limbs_zero (n : Nat) : lg (limbs n) 0 = ((n % 4294967296 : Nat) : Int) := by
  by_cases h : n = 0
  · subst h; rw [limbs_zero]; rfl
  · rw [limbs_pos h]; rfl
theorem limbs_len0 {n : Nat} : (limbs n).length = 0 ↔ n = 0 := by rw [List.length_eq_zero_iff, limbs_nil]
theorem even_f (a : Nat) : samphireref02_even.f (limbs a) = some (decide (a % 2 = 0)) := by
  unfold samphireref02_even.f
  by_cases h : a = 0
  · subst h; rw [limbs_zero]; rfl
  · have := mt limbs_len0.1 h
    rw [if_neg (by omega), if_pos (by omega), show rd (limbs a) 0 = lg (limbs a) 0 from rfl, lg_limbs_zero, Int.tmod_eq_emod_of_nonneg (by omega)]
    congr 1
    rw [Bool.eq_iff_iff]; simp; omega
def hf (l : List Int) (j : Nat) : Int := lg l (j + 1) * 2147483648 % 4294967296 + lg l j / 2
def hl (l : List Int) (n : Nat) : List Int := (List.range n).map (hf l)
theorem hl_len (l : List Int) (n : Nat) : (hl l n).length = n := by simp [hl]
theorem hl_succ (l : List Int) (n : Nat) : hl l (n + 1) = hl l n ++ [hf l n] := by simp [hl, List.range_succ]
theorem hf_nums {x y : Int} (hx : 0 ≤ x ∧ x < 4294967296) (hy : 0 ≤ y ∧ y < 4294967296) : (0 ≤ y * 2147483648 % 4294967296 + x / 2 ∧ y * 2147483648 % 4294967296 + x / 2 < 4294967296) ∧ 2 * (y * 2147483648 % 4294967296 + x / 2) = x - x % 2 + (y % 2) * 4294967296 := by omega
theorem hl_wf {l : List Int} (h : Wf 4294967296 l) (n : Nat) : Wf 4294967296 (hl l n) := by
  intro x hx
  unfold hl at hx
  obtain ⟨i, _, rfl⟩ := List.mem_map.1 hx
  exact (hf_nums (h.at (by decide) i) (h.at (by decide) (i + 1))).1
theorem hl_val {l : List Int} (h : Wf 4294967296 l) (n : Nat) : 2 * val 4294967296 (hl l n) = val 4294967296 (l.take n) - lg l 0 % 2 + (lg l n % 2) * 4294967296 ^ n := by
  induction n with
  | zero => simp only [hl, val, List.range_zero, List.map_nil, List.take_zero, Int.pow_zero]; omega
  | succ n ih =>
    rw [hl_succ, val_append, val_take_succ, hl_len, Int.pow_succ]
    have e := (hf_nums (h.at (by decide) n) (h.at (by decide) (n + 1))).2
    have e2 : hf l n = lg l (n + 1) * 2147483648 % 4294967296 + lg l n / 2 := rfl
    rw [← e2] at e
    simp only [val]
    generalize hf l n = f at *
    grind
theorem half_or {x y : Int} (hx : 0 ≤ x ∧ x < 4294967296) (hy : 0 ≤ y ∧ y < 4294967296) : Go.bits .or .u32 (x / 2) (y * 2147483648 % 4294967296) = y * 2147483648 % 4294967296 + x / 2 :=
  or32' 31 (by omega) (by omega) (by omega) (by omega) (by omega) (by omega)
theorem half_l0' (l : List Int) (hw : Wf 4294967296 l) (hll : l.length ≤ 100000) : ∀ d i : Nat, l.length - i = d → i ≤ l.length →
    ∀ r, Ev (fun k => samphireref02_half.l1 k (hl l l.length)) r → Ev (fun k => samphireref02_half.l0 k l (hl l i) (i : Int)) r := by
  intro d
  induction d with
  | zero =>
    intro i hd hi r hr
    obtain rfl : i = l.length := by omega
    exact Ev.step (fun k => by rw [samphireref02_half.l0, if_neg (by omega)]) hr
  | succ d ih =>
    intro i hd hi r hr
    have key := ih (i + 1) (by omega) (by omega) r hr
    rw [hl_succ] at key
    have e1 : wrap64 ((i : Int) + 1) = ((i + 1 : Nat) : Int) := by rw [w64 (by omega)]; rfl
    have q1 : (i : Int) < (l.length : Int) := by omega
    have q2 : (hl l i).length < 35184372088832 := by rw [hl_len]; omega
    by_cases hb : i + 1 < l.length
    · have q3 : ((i + 1 : Nat) : Int) < (l.length : Int) := by omega
      refine Ev.step (fun k => by rw [samphireref02_half.l0, e1, if_pos q1, if_pos (Int.natCast_nonneg _), if_pos q3, if_pos (Int.natCast_nonneg _), if_pos q2, rd_lg, rd_lg, half_or (hw.at (by decide) i) (hw.at (by decide) (i + 1))]; rfl) key
    · have q3 : ¬ ((i + 1 : Nat) : Int) < (l.length : Int) := by omega
      have hz : lg l (i + 1) = 0 := lg_ge (by omega)
      have e3 : hf l i = lg l i / 2 := by unfold hf; rw [hz]; simp
      rw [e3] at key
      refine Ev.step (fun k => by rw [samphireref02_half.l0, e1, if_pos q1, if_pos (Int.natCast_nonneg _), if_neg q3, if_pos q2, rd_lg]) key
theorem half_l1 : ∀ (n : Nat) (l : List Int), l.length = n → n ≤ 100000 → Wf 4294967296 l → Ev (fun k => samphireref02_half.l1 k l) (limbs (val 4294967296 l).toNat) := by
  intro n
  induction n with
  | zero =>
    intro l hl _ hw
    obtain rfl := List.length_eq_zero_iff.1 hl
    exact Ev.step (fun k => by rw [samphireref02_half.l1, if_neg (by simp)]) (Ev.all fun k => by simp [val, limbs_zero])
  | succ n ih =>
    intro l hl hn hw
    have hne : l ≠ [] := fun e => by simp [e] at hl
    have e1 : wrap64 ((l.length : Int) - 1) = (n : Int) := by rw [w64 (by omega)]; omega
    by_cases hz : lg l n = 0
    · refine Ev.step (fun k => by rw [samphireref02_half.l1, e1, if_pos (by omega), if_pos (by omega), if_pos (by omega), rd_lg, if_pos hz, if_pos (by omega), Int.toNat_natCast]) ?_
      have := ih (l.take n) (by simp; omega) (by omega) (hw.take n)
      have e2 := tidy_take hw hne (by rw [hl]; exact hz)
      rw [hl, show n + 1 - 1 = n by omega] at e2
      rw [e2] at this
      exact this
    · refine Ev.step (fun k => by rw [samphireref02_half.l1, e1, if_pos (by omega), if_pos (by omega), if_pos (by omega), rd_lg, if_neg hz]) (Ev.all fun k => ?_)
      rw [← limbs_val hw (Or.inr (by rw [hl]; exact hz))]
theorem rhalf_f (a : Nat) (la : (limbs a).length ≤ 1000) : Ev (fun k => samphireref02_half.f k (limbs a)) (limbs (a / 2)) := by
  have h1 := half_l1 _ (hl (limbs a) (limbs a).length) (hl_len _ _) (by omega) (hl_wf (wf_limbs a) _)
  have h2 := hl_val (wf_limbs a) (limbs a).length
  rw [val_take_all _ _ (Nat.le_refl _), val_limbs, lg_ge (l := limbs a) (Nat.le_refl _), lg_limbs_zero] at h2
  rw [show (val 4294967296 (hl (limbs a) (limbs a).length)).toNat = a / 2 by omega] at h1
  exact half_l0' (limbs a) (wf_limbs a) (by omega) _ 0 rfl (by omega) _ h1
theorem tidy_of_val {l : List Int} (hw : Wf 4294967296 l) (h : (4294967296 : Int) ^ (l.length - 1) ≤ val 4294967296 l) : Tidy l := by
  by_cases hn : l = []
  · exact Or.inl hn
  · refine Or.inr fun hz => ?_
    have h1 := tidy_take hw hn hz
    have h2 := take_bound hw (n := l.length - 1) (by omega)
    omega
theorem tw_nums {x c s : Int} (hx : 0 ≤ x ∧ x < 4294967296) (c0 : 0 ≤ c) (c1 : c ≤ 1) : (0 ≤ x * 2 % 4294967296 + c ∧ x * 2 % 4294967296 + c < 4294967296) ∧ (0 ≤ x / 2147483648 ∧ x / 2147483648 ≤ 1) ∧ x * 2 % 4294967296 = x * 2 - (x / 2147483648) * 4294967296 := by omega
theorem tw_or {x c : Int} (hx : 0 ≤ x ∧ x < 4294967296) (c0 : 0 ≤ c) (c1 : c ≤ 1) : Go.bits .or .u32 (x * 2 % 4294967296) c = x * 2 % 4294967296 + c :=
  or32 1 (by omega) (by omega) (by omega) (by omega) (by omega) (by omega)
theorem tw_ar {X T P x c q m b : Int} (h : X + c * P = 2 * T + b) (hm : m = x * 2 - q * 4294967296) : X + P * (m + c) + q * (P * 4294967296) = 2 * (T + x * P) + b := by
  subst hm; grind
theorem twice_l0 (l : List Int) (hw : Wf 4294967296 l) (hll : l.length ≤ 100000) (b : Int) (r : List Int)
    (K : ∀ x c, x.length = l.length → Wf 4294967296 x → 0 ≤ c → c ≤ 1 → val 4294967296 x + c * 4294967296 ^ l.length = 2 * val 4294967296 l + b → (if c > 0 then x ++ [c] else x) = r) :
    ∀ (d i : Nat) (x : List Int) (c : Int), l.length - i = d → i ≤ l.length → x.length = i → Wf 4294967296 x → 0 ≤ c → c ≤ 1 →
    val 4294967296 x + c * 4294967296 ^ i = 2 * val 4294967296 (l.take i) + b → Ev (fun k => samphireref02_twice.l0 k l x c (i : Int)) r := by
  intro d
  induction d with
  | zero =>
    intro i x c hd hi hx hxw c0 c1 hv
    obtain rfl : i = l.length := by clear hv K; omega
    rw [val_take_all _ _ (Nat.le_refl _)] at hv
    have := K x c hx hxw c0 c1 hv
    have q2 : x.length < 35184372088832 := by clear hv; omega
    have q3 : ¬ (l.length : Int) < (l.length : Int) := by clear hv; omega
    refine Ev.step (fun k => by rw [samphireref02_twice.l0, if_neg q3]) (Ev.all fun k => ?_)
    rw [← this, if_pos q2]
    split <;> rfl
  | succ d ih =>
    intro i x c hd hi hx hxw c0 c1 hv
    have ax := hw.at (by decide) i
    have e1 : wrap64 ((i : Int) + 1) = ((i + 1 : Nat) : Int) := by rw [w64 (by clear hv; omega)]; rfl
    have q1 : (i : Int) < (l.length : Int) := by clear hv; omega
    have q2 : x.length < 35184372088832 := by clear hv; omega
    have q3 : l.length - (i + 1) = d := by clear hv; omega
    have q4 : i + 1 ≤ l.length := by clear hv; omega
    have nm := tw_nums (s := 0) ax c0 c1
    refine Ev.step (fun k => by rw [samphireref02_twice.l0, e1, if_pos q1, if_pos (Int.natCast_nonneg _), if_pos q2, rd_lg, tw_or ax c0 c1]) ?_
    refine ih (i + 1) _ _ q3 q4 (by rw [List.length_append, hx]; rfl) (hxw.snoc nm.1.1 nm.1.2) nm.2.1.1 nm.2.1.2 ?_
    rw [val_append, hx, val_take_succ, Int.pow_succ]
    simp only [val]
    have := tw_ar hv nm.2.2
    rw [Int.mul_zero, Int.add_zero]
    exact this
theorem twice_f (a : Nat) (la : (limbs a).length ≤ 1000) (b : Nat) (hb : b ≤ 1) : Ev (fun k => samphireref02_twice.f k (limbs a) (b : Int)) (limbs (2 * a + b)) := by
  refine twice_l0 (limbs a) (wf_limbs a) (by omega) (b : Int) _ ?_ _ 0 [] (b : Int) rfl (by omega) rfl (Wf.nil _) (by omega) (by omega) (by simp [val])
  intro x c hx hxw c0 c1 hv
  rw [val_limbs] at hv
  by_cases hc : c = 1
  · subst hc
    rw [if_pos (by decide)]
    have hw : Wf 4294967296 (x ++ [1]) := hxw.snoc (by decide) (by decide)
    have ht : Tidy (x ++ [1]) := by
      refine Or.inr ?_
      rw [List.length_append, show x.length + [(1 : Int)].length - 1 = x.length from rfl]
      simp [lg, List.getD_eq_getElem?_getD]
    rw [limbs_val hw ht]
    congr 1
    rw [val_append, hx]
    simp only [val]
    omega
  · obtain rfl : c = 0 := by omega
    rw [if_neg (by decide)]
    rw [Int.zero_mul, Int.add_zero] at hv
    have ht : Tidy x := by
      by_cases h0 : a = 0
      · subst h0
        rw [limbs_zero] at hx
        exact Or.inl (List.length_eq_zero_iff.1 hx)
      · refine tidy_of_val hxw ?_
        rw [hv, hx]
        have h1 := mt limbs_len0.1 h0
        have h2 := (limbs_len (n := a) (k := (limbs a).length - 1)).1 (by omega)
        have h3 : ((4294967296 ^ ((limbs a).length - 1) : Nat) : Int) ≤ (a : Int) := by exact_mod_cast h2.1
        rw [Int.natCast_pow] at h3
        have h4 : ((4294967296 : Nat) : Int) = 4294967296 := rfl
        rw [h4] at h3
        omega
    rw [limbs_val hxw ht, hv]
    congr 1
end Go.Proofs.YtakickbnjbedfaaDoor.R
