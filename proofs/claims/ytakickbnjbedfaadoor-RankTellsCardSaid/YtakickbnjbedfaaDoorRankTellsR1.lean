/- Part of the proof of Card. -/
import Derived.Test.YtakickbnjbedfaaDoorRankTellsF1
import Derived.Test.YtakickbnjbedfaaDoorRankTellsP0
import Derived.Test.YtakickbnjbedfaaDoorRankTellsP1
namespace Go.Proofs.YtakickbnjbedfaaDoor.R
set_option linter.unusedVariables false
set_option linter.unusedSimpArgs false
open Go.RowKit Go.Proofs.YtakickbnjbedfaaDoorW.PrintWords Go.Proofs.YtakickbnjbedfaaDoorW.PrintLast Go.Proofs.YtakickbnjbedfaaDoor.PA Go.Proofs.YtakickbnjbedfaaDoor.Num Go.Proofs.YtakickbnjbedfaaDoor.F
def hd (l : List Int) (i : Nat) : Int := if i % 2 = 0 then lg l (i / 2) % 65536 else lg l (i / 2) / 65536
def hv (l : List Int) (n : Nat) : List Int := (List.range n).map (hd l)
theorem hv_len (l : List Int) (n : Nat) : (hv l n).length = n := by simp [hv]
theorem hv_succ (l : List Int) (n : Nat) : hv l (n + 1) = hv l n ++ [hd l n] := by simp [hv, List.range_succ]
theorem hd_bound {l : List Int} (h : Wf 4294967296 l) (i : Nat) : 0 ≤ hd l i ∧ hd l i < 65536 := by
  have := h.at (by decide) (i / 2)
  unfold hd
  split <;> omega
theorem hv_wf {l : List Int} (h : Wf 4294967296 l) (n : Nat) : Wf 65536 (hv l n) := by
  intro x hx
  unfold hv at hx
  obtain ⟨i, _, rfl⟩ := List.mem_map.1 hx
  exact hd_bound h i
theorem hv_val_take (l : List Int) (m : Nat) : val 65536 (hv l (2 * m)) = val 4294967296 (l.take m) := by
  induction m with
  | zero => rfl
  | succ m ih =>
    rw [show 2 * (m + 1) = 2 * m + 1 + 1 by omega, hv_succ, hv_succ, val_append, val_append, ih, val_take_succ]
    simp only [hv_len, List.length_append, List.length_cons, List.length_nil, val]
    have e1 : (65536 : Int) ^ (2 * m) = 4294967296 ^ m := by rw [Int.pow_mul]; rfl
    have e2 : hd l (2 * m) = lg l m % 65536 := by
      unfold hd; rw [if_pos (by omega), show 2 * m / 2 = m by omega]
    have e3 : hd l (2 * m + 1) = lg l m / 65536 := by
      unfold hd; rw [if_neg (by omega), show (2 * m + 1) / 2 = m by omega]
    have e4 : (65536 : Int) ^ (2 * m + (0 + 1)) = 4294967296 ^ m * 65536 := by rw [show 2 * m + (0 + 1) = 2 * m + 1 by omega, Int.pow_succ, e1]
    rw [e1, e2, e3, e4]
    have := Int.emod_add_mul_ediv (lg l m) 65536
    grind
theorem hv_val (l : List Int) {m : Nat} (h : l.length ≤ m) : val 65536 (hv l (2 * m)) = val 4294967296 l := by
  rw [hv_val_take, val_take_all _ _ h]
theorem half_l0 (l : List Int) (hw : Wf 4294967296 l) (hl : l.length ≤ 100000) (n : Nat) (hn : n ≤ 100000) : ∀ d i : Nat, n - i = d → i ≤ n →
    Ev (fun k => samphireref02_Half.l0 k l (n : Int) (hv l i) (i : Int)) (hv l n) := by
  intro d
  induction d with
  | zero =>
    intro i hd hi
    obtain rfl : i = n := by omega
    exact Ev.step (fun k => by rw [samphireref02_Half.l0, if_neg (by omega)]) (Ev.all fun k => rfl)
  | succ d ih =>
    intro i hdd hi
    have key := ih (i + 1) (by omega) (by omega)
    rw [hv_succ] at key
    have e1 : wrap64 (Int.tdiv (i : Int) 2) = ((i / 2 : Nat) : Int) := by
      rw [show Int.tdiv (i : Int) 2 = ((i / 2 : Nat) : Int) from rfl, w64 (by omega)]
    have e2 : Int.tmod (i : Int) 2 = ((i % 2 : Nat) : Int) := rfl
    have e3 : wrap64 ((i : Int) + 1) = ((i + 1 : Nat) : Int) := by rw [w64 (by omega)]; rfl
    have hx := hw.at (by decide) (i / 2)
    have hlen : (hv l i).length < 17592186044416 := by rw [hv_len]; omega
    refine Ev.step (fun k => ?_) key
    rw [samphireref02_Half.l0, if_pos (by omega), e1, e2, e3]
    by_cases hb : i / 2 < l.length
    · rw [if_pos (by omega), if_pos (by omega)]
      by_cases hp : i % 2 = 0
      · rw [if_pos (by omega), if_pos hlen, rd_lg, wu (by omega), show hd l i = Int.tmod (lg l (i / 2)) 65536 by
          unfold hd; rw [if_pos hp, Int.tmod_eq_emod_of_nonneg hx.1]]
      · rw [if_neg (by omega), if_pos hlen, rd_lg, wu (n := lg l (i / 2)) (by omega), Int.tdiv_eq_ediv_of_nonneg hx.1, wu (by omega), show hd l i = lg l (i / 2) / 65536 by
          unfold hd; rw [if_neg hp]]
    · have hz : lg l (i / 2) = 0 := lg_ge (by omega)
      rw [if_neg (by omega)]
      by_cases hp : i % 2 = 0
      · rw [if_pos (by omega), if_pos hlen, show hd l i = 0 % 65536 by unfold hd; rw [if_pos hp, hz]]
      · rw [if_neg (by omega), if_pos hlen, show hd l i = 0 / 65536 by unfold hd; rw [if_neg hp, hz]]
theorem half_f (l : List Int) (hw : Wf 4294967296 l) (hl : l.length ≤ 100000) (n : Nat) (hn : n ≤ 100000) : Ev (fun k => samphireref02_Half.f k l (n : Int)) (hv l n) :=
  half_l0 l hw hl n hn n 0 rfl (by omega)
theorem tidy_take {l : List Int} (hw : Wf 4294967296 l) (h : l ≠ []) (hz : lg l (l.length - 1) = 0) : val 4294967296 (l.take (l.length - 1)) = val 4294967296 l := by
  have hl : 0 < l.length := List.length_pos_iff.2 h
  have := val_take_succ 4294967296 l (l.length - 1)
  rw [hz, show l.length - 1 + 1 = l.length by omega, val_take_all _ _ (Nat.le_refl _)] at this
  omega
theorem whole_l1 : ∀ (n : Nat) (l : List Int), l.length = n → n ≤ 100000 → Wf 4294967296 l → Ev (fun k => samphireref02_Whole.l1 k l) (limbs (val 4294967296 l).toNat) := by
  intro n
  induction n with
  | zero =>
    intro l hl _ hw
    obtain rfl := List.length_eq_zero_iff.1 hl
    exact Ev.step (fun k => by rw [samphireref02_Whole.l1, if_neg (by simp)]) (Ev.all fun k => by simp [val, limbs_zero])
  | succ n ih =>
    intro l hl hn hw
    have hne : l ≠ [] := fun e => by simp [e] at hl
    have e1 : wrap64 ((l.length : Int) - 1) = (n : Int) := by rw [w64 (by omega)]; omega
    by_cases hz : lg l n = 0
    · refine Ev.step (fun k => by rw [samphireref02_Whole.l1, e1, if_pos (by omega), if_pos (by omega), if_pos (by omega), rd_lg, if_pos hz, if_pos (by omega), Int.toNat_natCast]) ?_
      have := ih (l.take n) (by simp; omega) (by omega) (hw.take n)
      have e2 := tidy_take hw hne (by rw [hl]; exact hz)
      rw [hl, show n + 1 - 1 = n by omega] at e2
      rw [e2] at this
      exact this
    · refine Ev.step (fun k => by rw [samphireref02_Whole.l1, e1, if_pos (by omega), if_pos (by omega), if_pos (by omega), rd_lg, if_neg hz]) (Ev.all fun k => ?_)
      rw [← limbs_val hw (Or.inr (by rw [hl]; exact hz))]
def wh (h : List Int) (m : Nat) : List Int := (List.range m).map fun j => lg h (2 * j) + 65536 * lg h (2 * j + 1)
theorem wh_len (h : List Int) (m : Nat) : (wh h m).length = m := by simp [wh]
theorem wh_succ (h : List Int) (m : Nat) : wh h (m + 1) = wh h m ++ [lg h (2 * m) + 65536 * lg h (2 * m + 1)] := by simp [wh, List.range_succ]
theorem wh_wf {h : List Int} (hw : Wf 65536 h) (m : Nat) : Wf 4294967296 (wh h m) := by
  intro x hx
  unfold wh at hx
  obtain ⟨i, _, rfl⟩ := List.mem_map.1 hx
  have := hw.at (by decide) (2 * i)
  have := hw.at (by decide) (2 * i + 1)
  omega
theorem wh_val (h : List Int) (m : Nat) : val 4294967296 (wh h m) = val 65536 (h.take (2 * m)) := by
  induction m with
  | zero => simp [wh, val]
  | succ m ih =>
    rw [show 2 * (m + 1) = 2 * m + 1 + 1 by omega, val_take_succ, val_take_succ, wh_succ, val_append, ih, wh_len]
    have e1 : (65536 : Int) ^ (2 * m) = 4294967296 ^ m := by rw [Int.pow_mul]; rfl
    have e4 : (65536 : Int) ^ (2 * m + 1) = 4294967296 ^ m * 65536 := by rw [Int.pow_succ, e1]
    rw [e1, e4]
    simp only [val]
    grind
theorem whole_l0 (h : List Int) (hw : Wf 65536 h) (m : Nat) (hm : h.length = 2 * m) (hl : m ≤ 100000) : ∀ d j : Nat, m - j = d → j ≤ m →
    Ev (fun k => samphireref02_Whole.l0 k h (wh h j) ((2 * j : Nat) : Int)) (limbs (val 65536 h).toNat) := by
  intro d
  induction d with
  | zero =>
    intro j hd hj
    obtain rfl : j = m := by omega
    refine Ev.step (fun k => by rw [samphireref02_Whole.l0, if_neg (by omega)]) ?_
    have := whole_l1 j (wh h j) (wh_len h j) hl (wh_wf hw j)
    rw [wh_val, val_take_all _ _ (by omega)] at this
    exact this
  | succ d ih =>
    intro j hd hj
    have key := ih (j + 1) (by omega) (by omega)
    rw [wh_succ] at key
    have a1 := hw.at (by decide) (2 * j)
    have a2 := hw.at (by decide) (2 * j + 1)
    have e1 : wrap64 (((2 * j : Nat) : Int) + 1) = ((2 * j + 1 : Nat) : Int) := by rw [w64 (by omega)]; omega
    have e2 : wrap64 (((2 * j : Nat) : Int) + 2) = ((2 * (j + 1) : Nat) : Int) := by rw [w64 (by omega)]; omega
    refine Ev.step (fun k => ?_) key
    rw [samphireref02_Whole.l0, e1, e2, if_pos (by omega), if_pos (by omega), if_pos (by omega), if_pos (by omega), if_pos (by rw [wh_len]; omega), rd_lg, rd_lg, wu (n := 65536 * lg h (2 * j + 1)) (by omega), wu (by omega), Int.emod_eq_of_lt (by omega) (by omega)]
theorem whole_f (h : List Int) (hw : Wf 65536 h) (m : Nat) (hm : h.length = 2 * m) (hl : m ≤ 100000) : Ev (fun k => samphireref02_Whole.f k h) (limbs (val 65536 h).toNat) :=
  whole_l0 h hw m hm hl m 0 rfl (by omega)
theorem rcmp_l0 (a b : List Int) (ha : Wf 4294967296 a) (hb : Wf 4294967296 b) (hl : a.length = b.length) (hs : a.length ≤ 1000000) : ∀ n : Nat, n ≤ a.length →
    val 4294967296 (a.drop n) = val 4294967296 (b.drop n) → Ev (fun k => samphireref02_Cmp.l0 k a b ((n : Int) - 1)) (ord (val 4294967296 a) (val 4294967296 b)) := by
  intro n
  induction n with
  | zero =>
    intro _ h
    refine Ev.step (fun k => by rw [samphireref02_Cmp.l0, if_neg (by omega)]) (Ev.all fun k => ?_)
    rw [show val 4294967296 a = val 4294967296 b from h, ord_self]
  | succ n ih =>
    intro hn hv
    have e1 : ((n + 1 : Nat) : Int) - 1 = (n : Int) := by omega
    have e2 : wrap64 ((n : Int) - 1) = (n : Int) - 1 := w64 (by omega)
    have va := val_take_drop 4294967296 a (n := n) (by omega)
    have vb := val_take_drop 4294967296 b (n := n) (by omega)
    have da := val_drop_succ 4294967296 a n
    have db := val_drop_succ 4294967296 b n
    have ta := take_bound ha (n := n) (by omega)
    have tb := take_bound hb (n := n) (by omega)
    have hp : (0 : Int) < 4294967296 ^ n := pow_pos' (by decide) n
    rw [e1]
    by_cases h : lg a n = lg b n
    · refine Ev.step (fun k => by rw [samphireref02_Cmp.l0, if_pos (by omega), if_pos (by omega), if_pos (by omega), if_pos (by omega), rd_lg, rd_lg, if_pos h, e2]) ?_
      exact ih (by omega) (by rw [da, db, hv, h])
    · by_cases h1 : lg a n < lg b n
      · refine Ev.step (fun k => by rw [samphireref02_Cmp.l0, if_pos (by omega), if_pos (by omega), if_pos (by omega), if_pos (by omega), rd_lg, rd_lg, if_neg h, if_pos h1]) (Ev.all fun k => ?_)
        rw [ord_lt]
        rw [va, vb, da, db, hv]
        have := digit_lt ta.2 tb.1 hp h1
        grind
      · refine Ev.step (fun k => by rw [samphireref02_Cmp.l0, if_pos (by omega), if_pos (by omega), if_pos (by omega), if_pos (by omega), rd_lg, rd_lg, if_neg h, if_neg h1]) (Ev.all fun k => ?_)
        rw [ord_gt]
        rw [va, vb, da, db, hv]
        have := digit_lt tb.2 ta.1 hp (show lg b n < lg a n by omega)
        grind
theorem len_lt_of {a b : Nat} (h : (limbs a).length < (limbs b).length) : a < b := by
  rcases Nat.lt_or_ge a b with h1 | h1
  · exact h1
  · have h2 : (limbs a).length ≤ (limbs a).length := Nat.le_refl _
    have h3 := limbs_len_le.1 h2
    have h4 : (limbs b).length ≤ (limbs a).length := limbs_len_le.2 (Nat.lt_of_le_of_lt h1 h3)
    omega
theorem rcmp_f (a b : Nat) (la : (limbs a).length ≤ 1000) (lb : (limbs b).length ≤ 1000) : Ev (fun k => samphireref02_Cmp.f k (limbs a) (limbs b)) (ord a b) := by
  by_cases hl : (limbs a).length = (limbs b).length
  · refine Ev.congr (fun k => by rw [samphireref02_Cmp.f, if_pos (by omega), w64 (by omega)]) ?_
    have := rcmp_l0 (limbs a) (limbs b) (wf_limbs a) (wf_limbs b) hl (by omega) (limbs a).length (Nat.le_refl _) (by rw [List.drop_of_length_le (Nat.le_refl _), List.drop_of_length_le (by omega)])
    rw [val_limbs, val_limbs] at this
    exact this
  · by_cases h : (limbs a).length < (limbs b).length
    · have := len_lt_of h
      refine Ev.congr (fun k => by rw [samphireref02_Cmp.f, if_neg (by omega), if_pos (by omega)]) (Ev.all fun k => ?_)
      rw [ord_lt (by omega)]
    · have := len_lt_of (show (limbs b).length < (limbs a).length by omega)
      refine Ev.congr (fun k => by rw [samphireref02_Cmp.f, if_neg (by omega), if_neg (by omega)]) (Ev.all fun k => ?_)
      rw [ord_gt (by omega)]
theorem same_l0 (a b : List Int) (hl : a.length = b.length) (hs : a.length ≤ 1000000) : ∀ d i : Nat, a.length - i = d → i ≤ a.length →
    Ev (fun k => samphireref02_Same.l0 k a b (i : Int)) (decide (a.drop i = b.drop i)) := by
  intro d
  induction d with
  | zero =>
    intro i hd hi
    refine Ev.step (fun k => by rw [samphireref02_Same.l0, if_neg (by omega)]) (Ev.all fun k => ?_)
    rw [List.drop_of_length_le (by omega), List.drop_of_length_le (by omega)]
    rfl
  | succ d ih =>
    intro i hd hi
    have ea : a.drop i = lg a i :: a.drop (i + 1) := by
      rw [List.drop_eq_getElem_cons (by omega)]; congr 1; unfold lg; rw [List.getD_eq_getElem?_getD, List.getElem?_eq_getElem (by omega)]; rfl
    have eb : b.drop i = lg b i :: b.drop (i + 1) := by
      rw [List.drop_eq_getElem_cons (by omega)]; congr 1; unfold lg; rw [List.getD_eq_getElem?_getD, List.getElem?_eq_getElem (by omega)]; rfl
    have e1 : wrap64 ((i : Int) + 1) = ((i + 1 : Nat) : Int) := by rw [w64 (by omega)]; rfl
    by_cases h : lg a i = lg b i
    · refine Ev.step (fun k => by rw [samphireref02_Same.l0, if_pos (by omega), if_pos (by omega), if_pos (by omega), rd_lg, rd_lg, if_pos h, e1]) ?_
      have := ih (i + 1) (by omega) (by omega)
      rw [ea, eb, h]
      simpa using this
    · refine Ev.step (fun k => by rw [samphireref02_Same.l0, if_pos (by omega), if_pos (by omega), if_pos (by omega), rd_lg, rd_lg, if_neg h]) (Ev.all fun k => ?_)
      rw [ea, eb]
      simp [h]
theorem same_f (a b : List Int) (hs : a.length ≤ 1000000) : Ev (fun k => samphireref02_Same.f k a b) (decide (a = b)) := by
  by_cases hl : a.length = b.length
  · refine Ev.congr (fun k => by rw [samphireref02_Same.f, if_pos (by omega)]) ?_
    have := same_l0 a b hl hs _ 0 rfl (by omega)
    simpa using this
  · refine Ev.congr (fun k => by rw [samphireref02_Same.f, if_neg (by omega)]) (Ev.all fun k => ?_)
    rw [decide_eq_false (fun e => hl (by rw [e]))]
theorem rsame_f (a b c d : List Int) (h1 : a.length ≤ 1000000) (h2 : b.length ≤ 1000000) : Ev (fun k => samphireref03_Same.f k a b c d) (decide (a = c ∧ b = d)) := by
  unfold samphireref03_Same.f
  refine Ev.bind (same_f a c h1) ?_
  by_cases h : a = c
  · refine Ev.congr (fun k => by rw [if_pos (decide_eq_true h)]) ?_
    refine Ev.bind (same_f b d h2) (Ev.all fun k => ?_)
    simp [h]
  · refine Ev.congr (fun k => by rw [if_neg (by simp [h])]) (Ev.all fun k => ?_)
    simp [h]
end Go.Proofs.YtakickbnjbedfaaDoor.R
