/- Part of the proof of Card. -/
import Derived.IntWalk
import Derived.Test.YtakickbnjbedfaaDoorRankScaleNum
import Derived.Test.YtakickbnjbedfaaDoorRankScaleP0
namespace Go.Proofs.YtakickbnjbedfaaDoor.F
set_option linter.unusedVariables false
open Go.RowKit Go.Proofs.YtakickbnjbedfaaDoorW.PrintWords Go.Proofs.YtakickbnjbedfaaDoorW.PrintLast Go.Proofs.YtakickbnjbedfaaDoor.PA Go.Proofs.YtakickbnjbedfaaDoor.Num
theorem w64 {n : Int} (h : -9223372036854775808 ≤ n ∧ n ≤ 9223372036854775807) : wrap64 n = n := by unfold wrap64; omega
theorem wu {n : Int} (h : 0 ≤ n ∧ n ≤ 18446744073709551615) : IntKind.u64.wrap n = n := IntWalk.u64_in n h
theorem wu_eq (n : Int) : IntKind.u64.wrap n = n % 18446744073709551616 := by simp [IntKind.wrap, IntKind.bits, IntKind.signed]
theorem rd_lg (l : List Int) (i : Nat) : rd l (i : Int) = lg l i := rfl
theorem rd_lg' (l : List Int) {z : Int} (i : Nat) (h : z = (i : Int)) : rd l z = lg l i := by subst h; rfl
theorem Ev.all {α : Type} {g : Nat → Option α} {r : α} (h : ∀ k, g k = some r) : Ev g r := ⟨0, fun k _ => h k⟩
theorem Ev.bind1 {α β : Type} {g : Option α} {f : Nat → α → Option β} {a : α} {r : β} (h : g = some a) (k : Ev (fun n => f n a) r) : Ev (fun n => g.bind (f n)) r := by
  obtain ⟨K, hK⟩ := k
  exact ⟨K, fun n hn => by rw [h]; exact hK n hn⟩
def isNat (l : List Int) : Bool := decide (l.length ≤ 64 ∧ Tidy l)
theorem right_f (l : List Int) : nat_Right.f l = some (isNat l) := by
  unfold nat_Right.f isNat
  by_cases h : l.length ≤ 64
  · rw [if_pos (by omega)]
    by_cases h0 : l.length = 0
    · rw [if_pos (by omega)]
      have : l = [] := List.length_eq_zero_iff.1 h0
      simp [this, Tidy]
    · rw [if_neg (by omega), w64 (by omega), if_pos (by omega), if_pos (by omega)]
      congr 1
      rw [rd_lg' l (l.length - 1) (by omega)]
      have hne : l ≠ [] := fun e => h0 (by rw [e]; rfl)
      simp [Tidy, hne, h, bne]
      rw [Bool.eq_iff_iff]; simp
  · rw [if_neg (by omega)]
    simp [h]
def top : Nat := 4294967296 ^ 64
theorem right_limbs {n : Nat} : isNat (limbs n) = decide (n < top) := by
  unfold isNat top
  rw [Bool.eq_iff_iff]
  simp only [decide_eq_true_eq, tidy_limbs, and_true]
  exact limbs_len_le
theorem trim_l0 (l : List Int) (hw : Wf 4294967296 l) (hl : l.length ≤ 1000000) : ∀ n : Nat, n ≤ l.length → (∀ i, n ≤ i → lg l i = 0) →
    Ev (fun k => nat_trim.l0 k l (n : Int)) (limbs (val 4294967296 l).toNat) := by
  intro n
  induction n with
  | zero =>
    intro _ hz
    refine Ev.step (fun k => by rw [nat_trim.l0, if_neg (by omega), if_pos (by omega), if_pos (by omega)]) ?_
    refine Ev.all fun k => ?_
    have : val 4294967296 l = 0 := by rw [← val_take_zeros 4294967296 l 0 hz]; rfl
    rw [this]
    simp [limbs_zero]
  | succ n ih =>
    intro hn hz
    by_cases h0 : lg l n = 0
    · refine Ev.step (fun k => by
        rw [nat_trim.l0, if_pos (by omega), w64 (by omega), if_pos (by omega), if_pos (by omega), rd_lg' l n (by omega), if_pos h0, show ((n + 1 : Nat) : Int) - 1 = (n : Int) by omega]) ?_
      exact ih (by omega) (fun i hi => by
        rcases Nat.lt_or_ge n i with h | h
        · exact hz i (by omega)
        · have : i = n := by omega
          rw [this]; exact h0)
    · refine Ev.step (fun k => by
        rw [nat_trim.l0, if_pos (by omega), w64 (by omega), if_pos (by omega), if_pos (by omega), rd_lg' l n (by omega), if_neg h0, if_pos (by omega), if_pos (by omega)]) ?_
      refine Ev.all fun k => ?_
      rw [← val_take_zeros 4294967296 l (n + 1) hz, Int.toNat_natCast, ← limbs_val (hw.take _)]
      refine .inr ?_
      rw [List.length_take, Nat.min_eq_left hn, Nat.add_sub_cancel, lg_take (by omega)]
      exact h0
theorem trim_f (l : List Int) (hw : Wf 4294967296 l) (hl : l.length ≤ 1000000) : Ev (fun k => nat_trim.f k l) (limbs (val 4294967296 l).toNat) :=
  trim_l0 l hw hl l.length (Nat.le_refl _) (fun _ h => lg_ge h)
theorem of_f (n : Nat) (h : n < 18446744073709551616) : Ev (fun k => nat_Of.f k (n : Int)) (limbs n) := by
  unfold nat_Of.f
  refine Ev.bind (trim_f _ (Wf.cons (by omega) (by omega) (Wf.cons (by omega) (by omega) (Wf.nil _))) (by simp)) ?_
  refine Ev.all fun k => ?_
  have : (val 4294967296 [(n : Int) % 4294967296, (n : Int) / 4294967296 % 4294967296]).toNat = n := by
    simp only [val]; omega
  rw [this]
def ord (x y : Int) : Int := if x < y then -1 else if x > y then 1 else 0
theorem ord_self (x : Int) : ord x x = 0 := by unfold ord; rw [if_neg (by omega), if_neg (by omega)]
theorem ord_lt {x y : Int} (h : x < y) : ord x y = -1 := by unfold ord; rw [if_pos h]
theorem ord_gt {x y : Int} (h : y < x) : ord x y = 1 := by unfold ord; rw [if_neg (by omega), if_pos h]
theorem digit_lt {u v x y p : Int} (hu : u < p) (hv : 0 ≤ v) (hp : 0 < p) (h : x < y) : u + x * p < v + y * p := by
  have : (x + 1) * p ≤ y * p := Int.mul_le_mul_of_nonneg_right (by omega) (by omega)
  have e : (x + 1) * p = x * p + p := by grind
  omega
theorem take_bound {l : List Int} (h : Wf 4294967296 l) {n : Nat} (hn : n ≤ l.length) : 0 ≤ val 4294967296 (l.take n) ∧ val 4294967296 (l.take n) < 4294967296 ^ n := by
  have := val_bound (by decide) (h.take n)
  rwa [List.length_take, Nat.min_eq_left hn] at this
theorem order_l0 (a b : List Int) (ha : Wf 4294967296 a) (hb : Wf 4294967296 b) (hl : a.length = b.length) (hs : a.length ≤ 1000000) : ∀ n : Nat, n ≤ a.length →
    Ev (fun k => nat_order.l0 k a b ((n : Int) - 1)) (ord (val 4294967296 (a.take n)) (val 4294967296 (b.take n))) := by
  intro n
  induction n with
  | zero =>
    intro _
    refine Ev.step (fun k => by rw [nat_order.l0, if_neg (by omega)]) ?_
    exact Ev.all fun k => rfl
  | succ n ih =>
    intro hn
    have b1 := take_bound ha (n := n) (by omega)
    have b2 := take_bound hb (n := n) (by omega)
    have hp : 0 < (4294967296 : Int) ^ n := pow_pos' (by decide) n
    rw [val_take_succ, val_take_succ]
    have e : ((n + 1 : Nat) : Int) - 1 = (n : Int) := by omega
    rw [e]
    by_cases h1 : lg a n < lg b n
    · refine Ev.step (fun k => by
        rw [nat_order.l0, if_pos (by omega), if_pos (by omega), if_pos (by omega), if_pos (by omega), rd_lg, rd_lg, if_pos h1]) ?_
      rw [ord_lt (digit_lt b1.2 b2.1 hp h1)]
      exact Ev.all fun k => rfl
    · by_cases h2 : lg a n > lg b n
      · refine Ev.step (fun k => by
          rw [nat_order.l0, if_pos (by omega), if_pos (by omega), if_pos (by omega), if_pos (by omega), rd_lg, rd_lg, if_neg h1, if_pos h2]) ?_
        rw [ord_gt (digit_lt b2.2 b1.1 hp h2)]
        exact Ev.all fun k => rfl
      · refine Ev.step (fun k => by
          rw [nat_order.l0, if_pos (by omega), if_pos (by omega), if_pos (by omega), if_pos (by omega), rd_lg, rd_lg, if_neg h1, if_neg h2, w64 (by omega)]) ?_
        have h3 : lg a n = lg b n := by omega
        have := ih (by omega)
        have e2 : ord (val 4294967296 (a.take n) + lg a n * 4294967296 ^ n) (val 4294967296 (b.take n) + lg b n * 4294967296 ^ n) = ord (val 4294967296 (a.take n)) (val 4294967296 (b.take n)) := by
          rw [h3]; unfold ord
          split <;> split <;> first | rfl | omega | (split <;> first | rfl | omega)
        rw [e2]
        exact this
theorem mnmx (d : Int) : mn (mx d 0) 1 = if d ≤ 0 then 0 else 1 := by
  unfold mn mx
  by_cases h : d < 0
  · rw [if_pos h, if_neg (by omega), if_pos (by omega)]
  · rw [if_neg h]
    by_cases h1 : 1 < d
    · rw [if_pos h1, if_neg (by omega)]
    · rw [if_neg h1]
      by_cases h2 : d ≤ 0
      · rw [if_pos h2]; omega
      · rw [if_neg h2]; omega
theorem order_f (a b : Nat) (la : (limbs a).length ≤ 1000) (lb : (limbs b).length ≤ 1000) : Ev (fun k => nat_order.f k (limbs a) (limbs b)) (ord a b) := by
  by_cases h : (limbs a).length = (limbs b).length
  · refine Ev.congr (fun k => by rw [nat_order.f, if_pos (by omega), w64 (by omega)]) ?_
    have := order_l0 _ _ (wf_limbs a) (wf_limbs b) h (by omega) _ (Nat.le_refl _)
    rw [val_take_all _ _ (Nat.le_refl _), val_take_all _ _ (by omega), val_limbs, val_limbs] at this
    exact this
  · refine Ev.congr (fun k => by rw [nat_order.f, if_neg (by omega), w64 (by omega)]) ?_
    refine Ev.all fun k => ?_
    congr 1
    rcases Nat.lt_or_ge (limbs a).length (limbs b).length with h1 | h1
    · have : a < b := by
        rcases Nat.lt_or_ge a b with h2 | h2
        · exact h2
        · have h3 : (limbs b).length ≤ (limbs a).length := limbs_len_le.2 (Nat.lt_of_le_of_lt h2 (limbs_len_le.1 (Nat.le_refl _)))
          omega
      rw [ord_lt (by omega), mnmx, if_pos (by omega)]; rfl
    · have : b < a := by
        rcases Nat.lt_or_ge b a with h2 | h2
        · exact h2
        · have h3 : (limbs a).length ≤ (limbs b).length := limbs_len_le.2 (Nat.lt_of_le_of_lt h2 (limbs_len_le.1 (Nat.le_refl _)))
          omega
      rw [ord_gt (by omega), mnmx, if_neg (by omega)]; rfl
theorem at_f (l : List Int) (hw : Wf 4294967296 l) (i : Nat) : nat_at.f l (i : Int) = some (lg l i) := by
  unfold nat_at.f
  have := hw.at (by decide) i
  by_cases h : i < l.length
  · rw [if_pos (by omega), if_pos (by omega), rd_lg, wu (by omega)]
  · rw [if_neg (by omega), lg_ge (by omega)]
theorem sum_l0 (a b : List Int) (ha : Wf 4294967296 a) (hb : Wf 4294967296 b) (la : a.length ≤ 1000) (lb : b.length ≤ 1000) (L : Nat) (h1 : a.length < L) (h2 : b.length < L) (hL : L ≤ 1002) :
    ∀ (d i : Nat) (out : List Int) (c : Int), L - i = d → i ≤ L → out.length = L → Wf 4294967296 out → 0 ≤ c → c ≤ 1 → (∀ j, i ≤ j → lg out j = 0) →
    val 4294967296 out + c * 4294967296 ^ i = val 4294967296 (a.take i) + val 4294967296 (b.take i) →
    Ev (fun k => nat_sum.l0 k a b out c (L : Int) (i : Int)) (limbs (val 4294967296 a + val 4294967296 b).toNat) := by
  intro d
  induction d with
  | zero =>
    intro i out c hd hi hl hw c0 c1 hz hv
    obtain rfl : i = L := by omega
    refine Ev.step (fun k => by rw [nat_sum.l0, if_neg (by omega)]) ?_
    have hc : c = 0 := by
      have := val_bound (by decide) hw
      have t1 := val_bound (by decide) ha
      have t2 := val_bound (by decide) hb
      rw [val_take_all _ _ (by omega), val_take_all _ _ (by omega)] at hv
      have g1 : (4294967296 : Int) ^ a.length * 4294967296 ≤ 4294967296 ^ i := by
        rw [← Int.pow_succ]; exact pow_le (by decide) (by omega)
      have g2 : (4294967296 : Int) ^ b.length * 4294967296 ≤ 4294967296 ^ i := by
        rw [← Int.pow_succ]; exact pow_le (by decide) (by omega)
      rcases (by omega : c = 0 ∨ c = 1) with h | h
      · exact h
      · rw [h] at hv; omega
    rw [hc, val_take_all _ _ (by omega), val_take_all _ _ (by omega)] at hv
    have := trim_f out hw (by omega)
    refine Ev.bind this ?_
    refine Ev.all fun k => ?_
    rw [show val 4294967296 out = val 4294967296 a + val 4294967296 b by omega]
  | succ d ih =>
    intro i out c hd hi hl hw c0 c1 hz hv
    have ax := ha.at (by decide) i
    have bx := hb.at (by decide) i
    refine Ev.step (fun k => by
      rw [nat_sum.l0, if_pos (by omega), at_f a ha i, at_f b hb i, Option.bind_some, Option.bind_some, if_pos (by omega), if_pos (by omega), wu (n := lg a i + lg b i) (by omega), wu (by omega), w64 (by omega), Int.toNat_natCast, show (i : Int) + 1 = ((i + 1 : Nat) : Int) by omega]) ?_
    refine ih (i + 1) _ _ (by omega) (by omega) (by rw [List.length_set]; exact hl) (hw.set _ (by omega) (by omega)) (by omega) (by omega) ?_ ?_
    · intro j hj
      rw [lg_set_ne _ (by omega)]
      exact hz j (by omega)
    · rw [val_set _ _ _ _ (by omega), val_take_succ, val_take_succ, hz i (by omega), Int.pow_succ]
      have e := Int.emod_add_mul_ediv (c + (lg a i + lg b i)) 4294967296
      grind
theorem sum_f (a b : Nat) (la : (limbs a).length ≤ 1000) (lb : (limbs b).length ≤ 1000) : Ev (fun k => nat_sum.f k (limbs a) (limbs b)) (limbs (a + b)) := by
  have hm : mx ((limbs a).length : Int) ((limbs b).length : Int) = ((max (limbs a).length (limbs b).length : Nat) : Int) := by unfold mx; split <;> omega
  have e : (((max (limbs a).length (limbs b).length : Nat) : Int) + 1).toNat = max (limbs a).length (limbs b).length + 1 := by omega
  refine Ev.congr (fun k => by rw [nat_sum.f, hm, w64 (by omega), if_pos (by omega), if_pos (by omega), e, Option.bind_some, List.length_replicate]) ?_
  have := sum_l0 (limbs a) (limbs b) (wf_limbs a) (wf_limbs b) la lb (max (limbs a).length (limbs b).length + 1) (by omega) (by omega) (by omega) _ 0 (List.replicate (max (limbs a).length (limbs b).length + 1) 0) 0 rfl (by omega) (by simp) (Wf.replicate (by decide) _) (by omega) (by omega) (fun j _ => lg_replicate _ _) (by simp [val_replicate, val])
  rw [val_limbs, val_limbs, show ((a : Int) + (b : Int)).toNat = a + b by omega] at this
  exact this
theorem len_top {n : Nat} : (limbs n).length ≤ 64 ↔ n < top := limbs_len_le
def kp (n : Nat) : List Int × Int := if n < top then (limbs n, 0) else ([], 6)
theorem kept_f (n : Nat) : nat_kept.f (limbs n) = some (kp n) := by
  unfold nat_kept.f kp
  by_cases h : n < top
  · rw [if_pos h, if_neg (by have := len_top.2 h; omega)]
  · rw [if_neg h, if_pos (by have := mt len_top.1 h; omega)]
theorem add_f (a b : Nat) (ha : a < top) (hb : b < top) : Ev (fun k => nat_Add.f k (limbs a) (limbs b)) (kp (a + b)) := by
  have la := len_top.2 ha
  have lb := len_top.2 hb
  refine Ev.congr (fun k => by rw [nat_Add.f, right_f, right_f, right_limbs, right_limbs, decide_eq_true ha, decide_eq_true hb, Option.bind_some, Option.bind_some, if_pos rfl]) ?_
  refine Ev.step (fun k => by rw [nat_Add.j0, if_neg (by decide)]) ?_
  refine Ev.bind (sum_f a b (by omega) (by omega)) ?_
  exact Ev.all fun k => by rw [kept_f, Option.bind_some]
theorem mul_bound {b x y : Int} (hx : 0 ≤ x) (hx' : x < b) (hy : 0 ≤ y) (hy' : y < b) : 0 ≤ x * y ∧ x * y ≤ (b - 1) * (b - 1) :=
  ⟨Int.mul_nonneg hx hy, Int.mul_le_mul (by omega) (by omega) hy (by omega)⟩
theorem cmp_f (a b : Nat) (ha : a < top) (hb : b < top) : Ev (fun k => nat_Cmp.f k (limbs a) (limbs b)) (ord a b) := by
  have la := len_top.2 ha
  have lb := len_top.2 hb
  refine Ev.congr (fun k => by rw [nat_Cmp.f, right_f, right_f, right_limbs, right_limbs, decide_eq_true ha, decide_eq_true hb, Option.bind_some, Option.bind_some, if_pos rfl, if_pos rfl]) ?_
  exact Ev.bind (order_f a b (by omega) (by omega)) (Ev.all fun k => rfl)
end Go.Proofs.YtakickbnjbedfaaDoor.F
