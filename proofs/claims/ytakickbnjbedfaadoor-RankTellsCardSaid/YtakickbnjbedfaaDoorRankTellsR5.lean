/- Part of the proof of Card. -/
import Derived.Test.YtakickbnjbedfaaDoorRankTellsR4
namespace Go.Proofs.YtakickbnjbedfaaDoor.R
set_option linter.unusedVariables false
set_option linter.unusedSimpArgs false
open Go.RowKit Go.Proofs.YtakickbnjbedfaaDoorW.PrintWords Go.Proofs.YtakickbnjbedfaaDoorW.PrintLast Go.Proofs.YtakickbnjbedfaaDoor.PA Go.Proofs.YtakickbnjbedfaaDoor.Num Go.Proofs.YtakickbnjbedfaaDoor.F
theorem len_mono {a b k : Nat} (h : a ≤ b) (hb : (limbs b).length ≤ k) : (limbs a).length ≤ k := limbs_len_le.2 (Nat.lt_of_le_of_lt h (limbs_len_le.1 hb))
theorem lt_two {a k : Nat} (h : (limbs a).length ≤ k) : a < 2 ^ (32 * k) := by
  have := limbs_len_le.1 h
  rwa [show 4294967296 = 2 ^ 32 from rfl, ← Nat.pow_mul] at this
theorem gcd_half_l {a b : Nat} (ha : a % 2 = 0) (hb : b % 2 = 1) : Nat.gcd (a / 2) b = Nat.gcd a b := by
  have e : a = 2 * (a / 2) := by omega
  conv => rhs; rw [e]
  refine (Nat.Coprime.gcd_mul_left_cancel (a / 2) ?_).symm
  unfold Nat.Coprime
  rw [Nat.gcd_rec, hb]
  rfl
theorem gcd_half_r {a b : Nat} (ha : a % 2 = 1) (hb : b % 2 = 0) : Nat.gcd a (b / 2) = Nat.gcd a b := by
  rw [Nat.gcd_comm, gcd_half_l hb ha, Nat.gcd_comm]
theorem gcd_twos {a b : Nat} (ha : a % 2 = 0) (hb : b % 2 = 0) : 2 * Nat.gcd (a / 2) (b / 2) = Nat.gcd a b := by
  rw [← Nat.gcd_mul_left]
  congr 1 <;> omega
theorem gcd_l4 (G : Nat) (hG : (limbs G).length ≤ 1000) : ∀ t b : Nat, t ≤ 1000000 → 2 ^ t * b = G → Ev (fun k => samphireref02_Gcd.l4 k (limbs b) (t : Int)) (limbs G) := by
  intro t
  induction t with
  | zero =>
    intro b _ h
    refine Ev.step (fun k => by rw [samphireref02_Gcd.l4, if_neg (by omega)]) (Ev.all fun k => ?_)
    rw [← h]; simp
  | succ t ih =>
    intro b ht h
    have hp : 1 ≤ 2 ^ (t + 1) := Nat.one_le_pow _ _ (by decide)
    have hb : b ≤ G := by rw [← h]; exact Nat.le_mul_of_pos_left b hp
    have e1 : wrap64 (((t + 1 : Nat) : Int) - 1) = (t : Int) := by rw [w64 (by clear h hp hb; omega)]; omega
    refine Ev.step (fun k => by rw [samphireref02_Gcd.l4, if_pos (by clear h hp hb; omega), e1]) ?_
    refine Ev.bind (twice_f b (len_mono hb hG) 0 (by decide)) ?_
    refine ih (2 * b + 0) (by omega) ?_
    rw [← h, Nat.pow_succ]
    grind
def GP (N : Nat) : Prop := ∀ a b t G : Nat, a + b < N → 0 < b → (a % 2 = 1 ∨ b % 2 = 1) → (limbs a).length ≤ 1000 → (limbs b).length ≤ 1000 → (limbs G).length ≤ 1000 → t ≤ 1000000 → 2 ^ t * Nat.gcd a b = G →
  Ev (fun k => samphireref02_Gcd.l1 k (limbs a) (limbs b) (t : Int)) (limbs G)
theorem gcd_l3 (N : Nat) (H : GP N) (a t G : Nat) (ha : a % 2 = 1) (la : (limbs a).length ≤ 1000) (lG : (limbs G).length ≤ 1000) (ht : t ≤ 1000000) :
    ∀ m b : Nat, b ≤ m → 0 < b → a + b < N + 1 → (limbs b).length ≤ 1000 → 2 ^ t * Nat.gcd a b = G → Ev (fun k => samphireref02_Gcd.l3 k (limbs a) (limbs b) (t : Int)) (limbs G) := by
  intro m
  induction m with
  | zero => intro b h1 h2; omega
  | succ m ih =>
    intro b hm hb hN lb hG
    by_cases he : b % 2 = 0
    · refine Ev.step (fun k => by rw [samphireref02_Gcd.l3, even_f, Option.bind_some, if_pos (decide_eq_true he)]) ?_
      refine Ev.bind (rhalf_f b lb) ?_
      exact ih (b / 2) (by omega) (by omega) (by omega) (len_mono (Nat.div_le_self _ _) lb) (by rw [gcd_half_r ha he]; exact hG)
    · refine Ev.step (fun k => by rw [samphireref02_Gcd.l3, even_f, Option.bind_some, if_neg (by simp; omega)]) ?_
      refine Ev.bind (rcmp_f a b la lb) ?_
      by_cases hlt : a < b
      · rw [ord_lt (show (a : Int) < (b : Int) by omega)]
        refine Ev.congr (fun k => by rw [if_pos (by decide)]) ?_
        refine Ev.bind (rsub_f b a lb (by omega)) ?_
        refine H (b - a) a t G (by omega) (by omega) (Or.inr ha) (len_mono (Nat.sub_le _ _) lb) la lG ht ?_
        rw [Nat.gcd_comm, Nat.gcd_sub_self_right (by omega)]
        exact hG
      · have ho : ¬ ord (a : Int) (b : Int) < 0 := by unfold ord; split <;> (try split) <;> omega
        refine Ev.congr (fun k => by rw [if_neg ho]) ?_
        refine Ev.bind (rsub_f a b la (by omega)) ?_
        refine H (a - b) b t G (by omega) hb (Or.inr (by omega)) (len_mono (Nat.sub_le _ _) la) lb lG ht ?_
        rw [Nat.gcd_sub_self_left (by omega)]
        exact hG
theorem gcd_l2 (N : Nat) (H : GP N) (b t G : Nat) (hb : 0 < b) (lb : (limbs b).length ≤ 1000) (lG : (limbs G).length ≤ 1000) (ht : t ≤ 1000000) :
    ∀ m a : Nat, a ≤ m → 0 < a → (a % 2 = 1 ∨ b % 2 = 1) → a + b < N + 1 → (limbs a).length ≤ 1000 → 2 ^ t * Nat.gcd a b = G → Ev (fun k => samphireref02_Gcd.l2 k (limbs a) (limbs b) (t : Int)) (limbs G) := by
  intro m
  induction m with
  | zero => intro a h1 h2; omega
  | succ m ih =>
    intro a hm ha ho hN la hG
    have hpos := mt limbs_len0.1 (show ¬ a = 0 by omega)
    by_cases he : a % 2 = 0
    · refine Ev.step (fun k => by rw [samphireref02_Gcd.l2, even_f, Option.bind_some, if_pos (decide_eq_true he), if_pos (by omega)]) ?_
      refine Ev.bind (rhalf_f a la) ?_
      have hb1 : b % 2 = 1 := by omega
      exact ih (a / 2) (by omega) (by omega) (Or.inr hb1) (by omega) (len_mono (Nat.div_le_self _ _) la) (by rw [gcd_half_l he hb1]; exact hG)
    · refine Ev.step (fun k => by rw [samphireref02_Gcd.l2, even_f, Option.bind_some, if_neg (by simp; omega)]) ?_
      refine Ev.step (fun k => by rw [samphireref02_Gcd.j4]) ?_
      exact gcd_l3 N H a t G (by omega) la lG ht b b (Nat.le_refl _) hb hN lb hG
theorem gcd_l1 : ∀ N, GP N := by
  intro N
  induction N with
  | zero => intro a b t G h; omega
  | succ N ih =>
    intro a b t G hN hb ho la lb lG ht hG
    by_cases h0 : a = 0
    · subst h0
      have e : (limbs 0).length = 0 := limbs_len0.2 rfl
      rw [Nat.gcd_zero_left] at hG
      exact Ev.step (fun k => by rw [samphireref02_Gcd.l1, if_neg (by omega)]) (gcd_l4 G lG t b ht hG)
    · have hpos := mt limbs_len0.1 h0
      exact Ev.step (fun k => by rw [samphireref02_Gcd.l1, if_pos (by omega)]) (gcd_l2 N ih b t G hb lb lG ht a a (Nat.le_refl _) (by omega) ho hN la hG)
theorem gcd_l0 (G : Nat) (lG : (limbs G).length ≤ 1000) : ∀ m a b t : Nat, a < 2 ^ m → m + t ≤ 1000000 → 0 < a → 0 < b → (limbs a).length ≤ 1000 → (limbs b).length ≤ 1000 → 2 ^ t * Nat.gcd a b = G →
    Ev (fun k => samphireref02_Gcd.l0 k (limbs a) (limbs b) (t : Int)) (limbs G) := by
  intro m
  induction m with
  | zero => intro a b t h1 _ h2; omega
  | succ m ih =>
    intro a b t hm ht ha hb la lb hG
    by_cases h : a % 2 = 0 ∧ b % 2 = 0
    · have e1 : wrap64 ((t : Int) + 1) = ((t + 1 : Nat) : Int) := by rw [w64 (by clear hG hm; omega)]; rfl
      refine Ev.step (fun k => by rw [samphireref02_Gcd.l0, even_f, even_f, Option.bind_some, Option.bind_some, if_pos (decide_eq_true h.1)]) ?_
      refine Ev.step (fun k => by rw [samphireref02_Gcd.j1, if_pos (decide_eq_true h.2), e1]) ?_
      refine Ev.bind (rhalf_f a la) ?_
      refine Ev.bind (rhalf_f b lb) ?_
      refine ih (a / 2) (b / 2) (t + 1) ?_ (by clear hG hm; omega) (by omega) (by omega) (len_mono (Nat.div_le_self _ _) la) (len_mono (Nat.div_le_self _ _) lb) ?_
      · rw [Nat.pow_succ] at hm; omega
      · rw [Nat.pow_succ, Nat.mul_assoc, gcd_twos h.1 h.2]; exact hG
    · have ho : a % 2 = 1 ∨ b % 2 = 1 := by omega
      have key := gcd_l1 (a + b + 1) a b t G (by omega) hb ho la lb lG (by clear hG hm; omega) hG
      by_cases he : a % 2 = 0
      · refine Ev.step (fun k => by rw [samphireref02_Gcd.l0, even_f, even_f, Option.bind_some, Option.bind_some, if_pos (decide_eq_true he)]) ?_
        exact Ev.step (fun k => by rw [samphireref02_Gcd.j1, if_neg (by simp; omega)]) key
      · refine Ev.step (fun k => by rw [samphireref02_Gcd.l0, even_f, Option.bind_some, if_neg (by simp; omega)]) ?_
        exact Ev.step (fun k => by rw [samphireref02_Gcd.j1, if_neg (by decide)]) key
theorem rgcd_f (a b : Nat) (la : (limbs a).length ≤ 1000) (lb : (limbs b).length ≤ 1000) : Ev (fun k => samphireref02_Gcd.f k (limbs a) (limbs b)) (limbs (Nat.gcd a b)) := by
  by_cases ha : a = 0
  · subst ha
    refine Ev.congr (fun k => by rw [samphireref02_Gcd.f, if_pos (by rw [limbs_zero]; rfl)]) (Ev.all fun k => ?_)
    rw [Nat.gcd_zero_left]
  · have pa := mt limbs_len0.1 ha
    by_cases hb : b = 0
    · subst hb
      refine Ev.congr (fun k => by rw [samphireref02_Gcd.f, if_neg (by omega), if_pos (by rw [limbs_zero]; rfl)]) (Ev.all fun k => ?_)
      rw [Nat.gcd_zero_right]
    · have pb := mt limbs_len0.1 hb
      refine Ev.congr (fun k => by rw [samphireref02_Gcd.f, if_neg (by omega), if_neg (by omega)]) ?_
      have h1 := lt_two la
      exact gcd_l0 _ (len_mono (Nat.gcd_le_left b (by omega)) la) (32 * 1000) a b 0 h1 (by omega) (by omega) (by omega) la lb (by simp)
end Go.Proofs.YtakickbnjbedfaaDoor.R
