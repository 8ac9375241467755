/- Part of the proof of Card. -/
import Derived.Test.YtakickbnjbedfaaDoorRankTellsR1
namespace Go.Proofs.YtakickbnjbedfaaDoor.R
set_option linter.unusedVariables false
set_option linter.unusedSimpArgs false
open Go.RowKit Go.Proofs.YtakickbnjbedfaaDoorW.PrintWords Go.Proofs.YtakickbnjbedfaaDoorW.PrintLast Go.Proofs.YtakickbnjbedfaaDoor.PA Go.Proofs.YtakickbnjbedfaaDoor.Num Go.Proofs.YtakickbnjbedfaaDoor.F
theorem sub_st (b x : List Int) (n i : Nat) (c s la : Int) (hi : i < n) (lx : x.length = n) (lb : b.length = n) (hn : n ≤ 10000) (hxi : lg x i = la)
    (ax : 0 ≤ la ∧ la < 65536) (bx : 0 ≤ lg b i ∧ lg b i < 65536) (c0 : 0 ≤ c) (c1 : c ≤ 1) (hs : 65536 + la - lg b i - c = s) (k : Nat) :
    samphireref02_Sub.l0 (k + 1) (n : Int) x b c (i : Int) = samphireref02_Sub.l0 k (n : Int) (x.set i (s % 65536)) b (1 - s / 65536) ((i + 1 : Nat) : Int) := by
  have e1 : wrap64 ((i : Int) + 1) = ((i + 1 : Nat) : Int) := by rw [w64 (by omega)]; rfl
  have s0 : 0 ≤ s ∧ s < 131072 := by omega
  have d1 : 0 ≤ s / 65536 ∧ s / 65536 ≤ 1 := by omega
  rw [samphireref02_Sub.l0, if_pos (by omega), if_pos (by omega), if_pos (by omega), if_pos (by omega)]
  rw [rd_lg, rd_lg, hxi, e1]
  rw [wu (n := 65536 + la) (by omega), wu (n := 65536 + la - lg b i) (by omega), wu (n := 65536 + la - lg b i - c) (by omega), hs]
  rw [Int.tdiv_eq_ediv_of_nonneg s0.1, Int.tmod_eq_emod_of_nonneg s0.1]
  rw [wu (n := s / 65536) (by omega), wu (n := 1 - s / 65536) (by omega)]
  rw [Int.toNat_natCast]
theorem sub_nums {la lb c s : Int} (ax : 0 ≤ la ∧ la < 65536) (bx : 0 ≤ lb ∧ lb < 65536) (c0 : 0 ≤ c) (c1 : c ≤ 1) (hs : 65536 + la - lb - c = s) :
    (0 ≤ s % 65536 ∧ s % 65536 < 65536) ∧ 0 ≤ 1 - s / 65536 ∧ 1 - s / 65536 ≤ 1 := by omega
theorem sub_ar {X A B P c a b s : Int} (h : X - c * P = A - B) (hs : 65536 + a - b - c = s) : X + s % 65536 * P - (1 - s / 65536) * (P * 65536) = A + a * P - (B + b * P) := by
  have e : s % 65536 = s - 65536 * (s / 65536) := by omega
  rw [e]
  generalize s / 65536 = q
  subst hs
  grind
theorem rsub_l0 (a b : List Int) (ha : Wf 65536 a) (hb : Wf 65536 b) (n m : Nat) (la : a.length = n) (lb : b.length = n) (hn : n = 2 * m) (hm : m ≤ 1000) (hle : val 65536 b ≤ val 65536 a) :
    ∀ (d i : Nat) (x : List Int) (c : Int), n - i = d → i ≤ n → x.length = n → Wf 65536 x → 0 ≤ c → c ≤ 1 → (∀ j, i ≤ j → lg x j = lg a j) →
    val 65536 (x.take i) - c * 65536 ^ i = val 65536 (a.take i) - val 65536 (b.take i) →
    Ev (fun k => samphireref02_Sub.l0 k (n : Int) x b c (i : Int)) (limbs (val 65536 a - val 65536 b).toNat) := by
  intro d
  induction d with
  | zero =>
    intro i x c hd hi hl hw c0 c1 hz hv
    obtain rfl : i = n := by omega
    refine Ev.step (fun k => by rw [samphireref02_Sub.l0, if_neg (by omega)]) ?_
    rw [val_take_all _ _ (by omega), val_take_all _ _ (by omega), val_take_all _ _ (by omega)] at hv
    have hx := val_bound (by decide) hw
    have hc : c = 0 := by
      rcases (by omega : c = 0 ∨ c = 1) with h | h
      · exact h
      · rw [h] at hv; rw [hl] at hx; omega
    refine Ev.bind (whole_f x hw m (by omega) (by omega)) (Ev.all fun k => ?_)
    rw [show val 65536 x = val 65536 a - val 65536 b by rw [hc] at hv; omega]
  | succ d ih =>
    intro i x c hd hi hl hw c0 c1 hz hv
    have ax := ha.at (by decide) i
    have bx := hb.at (by decide) i
    have hxi := hz i (Nat.le_refl _)
    obtain ⟨s, hs⟩ : ∃ s, 65536 + lg a i - lg b i - c = s := ⟨_, rfl⟩
    have st := sub_st b x n i c s (lg a i) (by omega) hl lb (by omega) hxi ax bx c0 c1 hs
    have nm := sub_nums ax bx c0 c1 hs
    have key := ih (i + 1) (x.set i (s % 65536)) (1 - s / 65536) (by clear hv hs nm; omega) (by clear hv hs nm; omega) (by rw [List.length_set]; exact hl) (hw.set _ nm.1.1 nm.1.2) nm.2.1 nm.2.2
    refine Ev.step st (key ?_ ?_)
    · intro j hj
      rw [lg_set_ne _ (Nat.ne_of_lt hj)]
      exact hz j (Nat.le_of_succ_le hj)
    · rw [val_take_succ, val_take_succ, val_take_succ, lg_set_same _ (by clear hv hs nm; omega), List.take_set_of_le (Nat.le_refl _), Int.pow_succ]
      exact sub_ar hv hs
theorem hval (n : Nat) {m : Nat} (h : (limbs n).length ≤ m) : val 65536 (hv (limbs n) (2 * m)) = n := by rw [hv_val _ h, val_limbs]
theorem rsub_f (a b : Nat) (la : (limbs a).length ≤ 1000) (hle : b ≤ a) : Ev (fun k => samphireref02_Sub.f k (limbs a) (limbs b)) (limbs (a - b)) := by
  have lb : (limbs b).length ≤ (limbs a).length := limbs_len_le.2 (Nat.lt_of_le_of_lt hle (limbs_len_le.1 (Nat.le_refl _)))
  have e1 : wrap64 (2 * ((limbs a).length : Int)) = ((2 * (limbs a).length : Nat) : Int) := by rw [w64 (by omega)]; omega
  unfold samphireref02_Sub.f
  rw [e1]
  refine Ev.bind (half_f _ (wf_limbs a) (by omega) (2 * (limbs a).length) (by omega)) ?_
  refine Ev.bind (half_f _ (wf_limbs b) (by omega) (2 * (limbs a).length) (by omega)) ?_
  have va := hval a (Nat.le_refl _)
  have vb := hval b lb
  have := rsub_l0 _ _ (hv_wf (wf_limbs a) (2 * (limbs a).length)) (hv_wf (wf_limbs b) (2 * (limbs a).length)) _ _ (hv_len _ _) (hv_len _ _) rfl la (by rw [va, vb]; omega) _ 0 _ 0 rfl (by omega) (hv_len _ _) (hv_wf (wf_limbs a) _) (by omega) (by omega) (fun j _ => rfl) (by simp [val])
  rw [va, vb, show ((a : Int) - (b : Int)).toNat = a - b by omega] at this
  exact this
end Go.Proofs.YtakickbnjbedfaaDoor.R
