/- Part of the proof of Card. -/
import Derived.Laws.BitsLemmas
import Derived.Test.YtakickbnjbedfaaDoorRankScaleF1
import Derived.Test.YtakickbnjbedfaaDoorRankScaleP0
namespace Go.Proofs.YtakickbnjbedfaaDoor.F
set_option linter.unusedVariables false
open Go.RowKit Go.Proofs.YtakickbnjbedfaaDoorW.PrintWords Go.Proofs.YtakickbnjbedfaaDoorW.PrintLast Go.Proofs.YtakickbnjbedfaaDoor.PA Go.Proofs.YtakickbnjbedfaaDoor.Num
theorem wu32_eq (n : Int) : IntKind.u32.wrap n = n % 4294967296 := by simp [IntKind.wrap, IntKind.bits, IntKind.signed]
theorem wraps_u64 (n : Int) (h0 : 0 ≤ n) (h1 : n < 2 ^ 64) : IntKind.u64.wrap n = n := wu (by omega)
theorem wraps_u32 (n : Int) (h0 : 0 ≤ n) (h1 : n < 2 ^ 32) : IntKind.u32.wrap n = n := by rw [wu32_eq]; omega
theorem or64 {x y : Int} (hx : 0 ≤ x) (hx1 : x < 4294967296) (hy : 0 ≤ y) (hy1 : y < 4294967296) : Go.bits .or .u64 (x * 4294967296) y = x * 4294967296 + y :=
  bits_join .u64 64 (by decide) wraps_u64 32 _ _ (by omega) (by omega) (by omega) hy (by omega) (by omega)
theorem or32 {x y : Int} (i : Nat) (hx : 0 ≤ x) (hx0 : x % 2 ^ i = 0) (hx1 : x < 4294967296) (hy : 0 ≤ y) (hy0 : y < 2 ^ i) (hy1 : y < 4294967296) : Go.bits .or .u32 x y = x + y :=
  bits_join .u32 32 (by decide) wraps_u32 i _ _ hx hx0 hx1 hy hy0 hy1
theorem or32' {x y : Int} (i : Nat) (hx : 0 ≤ x) (hx0 : x % 2 ^ i = 0) (hx1 : x < 4294967296) (hy : 0 ≤ y) (hy0 : y < 2 ^ i) (hy1 : y < 4294967296) : Go.bits .or .u32 y x = x + y := by
  rw [← or32 i hx hx0 hx1 hy hy0 hy1]
  obtain ⟨a, rfl⟩ := Int.eq_ofNat_of_zero_le hx
  obtain ⟨b, rfl⟩ := Int.eq_ofNat_of_zero_le hy
  rw [(bits_nat .u32 32 (by decide) wraps_u32 a b (by omega) (by omega)).2, (bits_nat .u32 32 (by decide) wraps_u32 b a (by omega) (by omega)).2, Nat.or_comm]
theorem short_l0 (a : List Int) (b : Int) (ha : Wf 4294967296 a) (la : a.length ≤ 1000) (b0 : 0 < b) (b1 : b < 4294967296) :
    ∀ (n : Nat) (out : List Int) (c : Int), n ≤ a.length → out.length = a.length → Wf 4294967296 out → 0 ≤ c → c < b → (∀ j, j < n → lg out j = 0) →
    b * val 4294967296 out + c * 4294967296 ^ n = val 4294967296 a - val 4294967296 (a.take n) →
    Ev (fun k => nat_short.l0 k a b out c ((n : Int) - 1)) (limbs (val 4294967296 a / b).toNat, val 4294967296 a % b) := by
  intro n
  induction n with
  | zero =>
    intro out c hn hl hw c0 c1 hz hv
    refine Ev.step (fun k => by rw [nat_short.l0, if_neg (by omega)]) ?_
    have e : b * val 4294967296 out + c = val 4294967296 a := by
      simp only [List.take_zero, val, Int.pow_zero] at hv; omega
    have e1 : val 4294967296 a / b = val 4294967296 out := by rw [← e, Int.mul_add_ediv_left _ _ (by omega), Int.ediv_eq_zero_of_lt c0 c1]; omega
    have e2 : val 4294967296 a % b = c := by rw [← e, Int.mul_add_emod_self_left, Int.emod_eq_of_lt c0 c1]
    refine Ev.bind (trim_f out hw (by omega)) ?_
    refine Ev.all fun k => ?_
    rw [e1, e2, Int.emod_eq_of_lt c0 (by omega)]
  | succ n ih =>
    intro out c hn hl hw c0 c1 hz hv
    have ax := ha.at (by decide) n
    have hq0 : 0 ≤ c * 4294967296 + lg a n := by omega
    have hq : (c * 4294967296 + lg a n) / b < 4294967296 := Int.ediv_lt_of_lt_mul b0 (by
      have : (c + 1) * 4294967296 ≤ b * 4294967296 := by omega
      omega)
    have hq' : 0 ≤ (c * 4294967296 + lg a n) / b := Int.ediv_nonneg hq0 (by omega)
    have hr := Int.emod_nonneg (c * 4294967296 + lg a n) (show b ≠ 0 by omega)
    have hr' := Int.emod_lt_of_pos (c * 4294967296 + lg a n) b0
    refine Ev.step (fun k => by
      rw [nat_short.l0, show ((n + 1 : Nat) : Int) - 1 = (n : Int) by omega, if_pos (by omega), if_pos (by omega), if_pos (by omega), wu (n := b) (by omega), if_neg (by omega), if_pos (by omega), rd_lg, wu (n := lg a n) (by omega), wu (n := c * 4294967296) (by omega), or64 c0 (by omega) ax.1 ax.2, Int.tdiv_eq_ediv_of_nonneg hq0, Int.tmod_eq_emod_of_nonneg hq0, wu (by omega), w64 (by omega), Int.emod_eq_of_lt hq' hq, Int.toNat_natCast]) ?_
    refine ih _ _ (by omega) (by rw [List.length_set]; exact hl) (hw.set _ hq' hq) hr hr' ?_ ?_
    · intro j hj
      rw [lg_set_ne _ (by omega)]
      exact hz j (by omega)
    · rw [val_set _ _ _ _ (by omega), hz n (by omega)]
      rw [val_take_succ, Int.pow_succ] at hv
      have e := Int.mul_ediv_add_emod (c * 4294967296 + lg a n) b
      grind
theorem short_f (a : Nat) (b : Int) (la : (limbs a).length ≤ 1000) (b0 : 0 < b) (b1 : b < 4294967296) :
    Ev (fun k => nat_short.f k (limbs a) b) (limbs (a / b.toNat), ((a % b.toNat : Nat) : Int)) := by
  refine Ev.congr (fun k => by rw [nat_short.f, if_pos (by omega), if_pos (by omega), w64 (by omega), Int.toNat_natCast]) ?_
  have := short_l0 (limbs a) b (wf_limbs a) la b0 b1 (limbs a).length (List.replicate (limbs a).length 0) 0 (Nat.le_refl _) (by simp) (Wf.replicate (by decide) _) (by omega) b0 (fun j _ => lg_replicate _ _) (by rw [val_replicate, val_take_all _ _ (Nat.le_refl _)]; omega)
  obtain ⟨m, rfl⟩ := Int.eq_ofNat_of_zero_le (Int.le_of_lt b0)
  rw [val_limbs] at this
  rw [Int.toNat_natCast]
  have e1 : ((a : Int) / (m : Int)).toNat = a / m := by rw [← Int.natCast_ediv, Int.toNat_natCast]
  have e2 : (a : Int) % (m : Int) = ((a % m : Nat) : Int) := by rw [Int.natCast_emod]
  rw [e1, e2] at this
  exact this
theorem two_parts {s : Nat} (hs : s ≤ 32) : (2 : Int) ^ s * 2 ^ (32 - s) = 4294967296 := by
  rw [← Int.pow_add, show s + (32 - s) = 32 by omega]; decide
theorem two_pos (s : Nat) : (0 : Int) < 2 ^ s := pow_pos' (by decide) s
theorem mul_emod_mul' (x p t : Int) (hp : 0 < p) : (x * p) % (p * t) = p * (x % t) := by
  rw [Int.mul_comm x p, Int.mul_emod_mul_of_pos _ _ hp]
theorem shift_l0 (a : List Int) (s : Nat) (ha : Wf 4294967296 a) (la : a.length ≤ 1000) (hs : s < 32) :
    ∀ (d i : Nat) (out : List Int) (c : Int), a.length - i = d → i ≤ a.length → out.length = a.length + 1 → Wf 4294967296 out → 0 ≤ c → c < 2 ^ s → (∀ j, i ≤ j → lg out j = 0) →
    val 4294967296 out + c * 4294967296 ^ i = val 4294967296 (a.take i) * 2 ^ s →
    ∃ r, r.length = a.length + 1 ∧ Wf 4294967296 r ∧ val 4294967296 r = val 4294967296 a * 2 ^ s ∧ Ev (fun k => nat_shift.l0 k a (s : Int) out c a (a.length : Int) (i : Int)) r := by
  have hp := two_pos s
  have ht := two_pos (32 - s)
  have hpt := two_parts (show s ≤ 32 by omega)
  have hp31 : (2 : Int) ^ s ≤ 4294967296 := by
    have : (2 : Int) ^ s ≤ 2 ^ 32 := pow_le (by decide) (by omega)
    have e : (2 : Int) ^ 32 = 4294967296 := by decide
    omega
  intro d
  induction d with
  | zero =>
    intro i out c hd hi hl hw c0 c1 hz hv
    obtain rfl : i = a.length := by omega
    rw [val_take_all _ _ (Nat.le_refl _)] at hv
    refine ⟨out.set a.length c, by rw [List.length_set]; exact hl, hw.set _ c0 (by omega), ?_, ?_⟩
    · rw [val_set _ _ _ _ (by omega), hz _ (Nat.le_refl _)]
      grind
    · refine Ev.step (fun k => by rw [nat_shift.l0, if_neg (by omega), if_pos (by omega), if_pos (by omega), Int.toNat_natCast]) ?_
      exact Ev.all fun k => rfl
  | succ d ih =>
    intro i out c hd hi hl hw c0 c1 hz hv
    have ax := ha.at (by decide) i
    have e1 : shl .u32 (lg a i) (s : Int) = 2 ^ s * (lg a i % 2 ^ (32 - s)) := by
      unfold shl
      rw [Int.toNat_natCast, show min s (IntKind.u32.bits) = s from Nat.min_eq_left (by show s ≤ 32; omega), wu32_eq, ← hpt, mul_emod_mul' _ _ _ hp]
    have e2 : shr .u64 (lg a i) (32 - (s : Int)) = lg a i / 2 ^ (32 - s) := by
      unfold shr
      rw [show (32 - (s : Int)).toNat = 32 - s by omega, show min (32 - s) (IntKind.u64.bits) = 32 - s from Nat.min_eq_left (by show 32 - s ≤ 64; omega)]
    have m0 := Int.emod_nonneg (lg a i) (show (2 : Int) ^ (32 - s) ≠ 0 by omega)
    have m1 := Int.emod_lt_of_pos (lg a i) ht
    have q0 : 0 ≤ lg a i / 2 ^ (32 - s) := Int.ediv_nonneg ax.1 (by omega)
    have q1 : lg a i / 2 ^ (32 - s) < 2 ^ s := Int.ediv_lt_of_lt_mul ht (by rw [hpt]; exact ax.2)
    have x0 : 0 ≤ 2 ^ s * (lg a i % 2 ^ (32 - s)) := Int.mul_nonneg (by omega) m0
    have x1 : 2 ^ s * (lg a i % 2 ^ (32 - s)) + 2 ^ s ≤ 4294967296 := by
      have : 2 ^ s * (lg a i % 2 ^ (32 - s) + 1) ≤ 2 ^ s * 2 ^ (32 - s) := Int.mul_le_mul_of_nonneg_left (by omega) (by omega)
      have e : 2 ^ s * (lg a i % 2 ^ (32 - s) + 1) = 2 ^ s * (lg a i % 2 ^ (32 - s)) + 2 ^ s := by grind
      omega
    have e3 : Go.bits .or .u32 (2 ^ s * (lg a i % 2 ^ (32 - s))) c = 2 ^ s * (lg a i % 2 ^ (32 - s)) + c :=
      or32 s x0 (Int.mul_emod_right _ _) (by omega) c0 c1 (by omega)
    obtain ⟨r, h1, h2, h3, h4⟩ := ih (i + 1) (out.set i (2 ^ s * (lg a i % 2 ^ (32 - s)) + c)) (lg a i / 2 ^ (32 - s)) (by omega) (by omega) (by rw [List.length_set]; exact hl) (hw.set _ (by omega) (by omega)) q0 q1
      (fun j hj => by rw [lg_set_ne _ (by omega)]; exact hz j (by omega))
      (by
        rw [val_set _ _ _ _ (by omega), hz i (Nat.le_refl _), val_take_succ, Int.pow_succ]
        have e := Int.emod_add_mul_ediv (lg a i) (2 ^ (32 - s))
        grind)
    refine ⟨r, h1, h2, h3, ?_⟩
    refine Ev.step (fun k => by
      rw [nat_shift.l0, if_pos (by omega), if_pos (by omega), if_pos (by omega), if_pos (by omega), if_pos (by omega), w64 (n := 32 - (s : Int)) (by omega), if_pos (by omega), rd_lg, wu (n := lg a i) (by omega), e1, e2, e3, Int.emod_eq_of_lt q0 (by omega), w64 (by omega), Int.toNat_natCast, show (i : Int) + 1 = ((i + 1 : Nat) : Int) by omega]) ?_
    exact h4
theorem shift_f (a : List Int) (s : Nat) (ha : Wf 4294967296 a) (la : a.length ≤ 1000) (hs : s < 32) :
    ∃ r, r.length = a.length + 1 ∧ Wf 4294967296 r ∧ val 4294967296 r = val 4294967296 a * 2 ^ s ∧ Ev (fun k => nat_shift.f k a (s : Int)) r := by
  obtain ⟨r, h1, h2, h3, h4⟩ := shift_l0 a s ha la hs _ 0 (List.replicate (a.length + 1) 0) 0 rfl (by omega) (by simp) (Wf.replicate (by decide) _) (by omega) (two_pos s) (fun j _ => lg_replicate _ _) (by simp [val_replicate, val])
  refine ⟨r, h1, h2, h3, ?_⟩
  refine Ev.congr (fun k => by rw [nat_shift.f, w64 (by omega), if_pos (by omega), if_pos (by omega), show ((a.length : Int) + 1).toNat = a.length + 1 by omega]) ?_
  exact h4
theorem unshift_l0 (a : List Int) (s : Nat) (ha : Wf 4294967296 a) (la : a.length ≤ 1000) (hs : s < 32) :
    ∀ (d i : Nat) (out : List Int), a.length - i = d → i ≤ a.length → out.length = a.length → Wf 4294967296 out → (∀ j, i ≤ j → lg out j = 0) →
    2 ^ s * val 4294967296 out = val 4294967296 (a.take i) - lg a 0 % 2 ^ s + (lg a i % 2 ^ s) * 4294967296 ^ i →
    ∃ r, r.length = a.length ∧ Wf 4294967296 r ∧ 2 ^ s * val 4294967296 r = val 4294967296 a - lg a 0 % 2 ^ s ∧ Ev (fun k => nat_unshift.l0 k a (s : Int) out a (a.length : Int) (i : Int)) r := by
  have hp := two_pos s
  have ht := two_pos (32 - s)
  have hpt := two_parts (show s ≤ 32 by omega)
  intro d
  induction d with
  | zero =>
    intro i out hd hi hl hw hz hv
    obtain rfl : i = a.length := by omega
    rw [val_take_all _ _ (Nat.le_refl _), lg_ge (Nat.le_refl _)] at hv
    refine ⟨out, hl, hw, by rw [hv]; simp, ?_⟩
    exact Ev.step (fun k => by rw [nat_unshift.l0, if_neg (by omega)]) (Ev.all fun k => rfl)
  | succ d ih =>
    intro i out hd hi hl hw hz hv
    have ax := ha.at (by decide) i
    have ay := ha.at (by decide) (i + 1)
    have ht32 : (2 : Int) ^ (32 - s) ≤ 4294967296 := by
      have : (2 : Int) ^ (32 - s) ≤ 2 ^ 32 := pow_le (by decide) (by omega)
      have e : (2 : Int) ^ 32 = 4294967296 := by decide
      omega
    have e1 : shr .u32 (lg a i) (s : Int) = lg a i / 2 ^ s := by
      unfold shr
      rw [Int.toNat_natCast, show min s (IntKind.u32.bits) = s from Nat.min_eq_left (by show s ≤ 32; omega)]
    have yt : 0 ≤ lg a (i + 1) * 2 ^ (32 - s) ∧ lg a (i + 1) * 2 ^ (32 - s) ≤ 4294967295 * 4294967296 :=
      ⟨Int.mul_nonneg ay.1 (by omega), Int.mul_le_mul (by omega) ht32 (by omega) (by omega)⟩
    have e2 : shl .u64 (lg a (i + 1)) (32 - (s : Int)) % 4294967296 = 2 ^ (32 - s) * (lg a (i + 1) % 2 ^ s) := by
      unfold shl
      rw [show (32 - (s : Int)).toNat = 32 - s by omega, show min (32 - s) (IntKind.u64.bits) = 32 - s from Nat.min_eq_left (by show 32 - s ≤ 64; omega), wu (by omega), ← hpt, Int.mul_comm (2 ^ s) (2 ^ (32 - s)), mul_emod_mul' _ _ _ ht]
    have m0 := Int.emod_nonneg (lg a (i + 1)) (show (2 : Int) ^ s ≠ 0 by omega)
    have m1 := Int.emod_lt_of_pos (lg a (i + 1)) hp
    have q0 : 0 ≤ lg a i / 2 ^ s := Int.ediv_nonneg ax.1 (by omega)
    have q1 : lg a i / 2 ^ s < 2 ^ (32 - s) := Int.ediv_lt_of_lt_mul hp (by rw [Int.mul_comm, hpt]; exact ax.2)
    have x0 : 0 ≤ 2 ^ (32 - s) * (lg a (i + 1) % 2 ^ s) := Int.mul_nonneg (by omega) m0
    have x1 : 2 ^ (32 - s) * (lg a (i + 1) % 2 ^ s) + 2 ^ (32 - s) ≤ 4294967296 := by
      have : 2 ^ (32 - s) * (lg a (i + 1) % 2 ^ s + 1) ≤ 2 ^ (32 - s) * 2 ^ s := Int.mul_le_mul_of_nonneg_left (by omega) (by omega)
      have e : 2 ^ (32 - s) * (lg a (i + 1) % 2 ^ s + 1) = 2 ^ (32 - s) * (lg a (i + 1) % 2 ^ s) + 2 ^ (32 - s) := by grind
      have e' : (2 : Int) ^ (32 - s) * 2 ^ s = 4294967296 := by rw [Int.mul_comm]; exact hpt
      omega
    have e3 : Go.bits .or .u32 (lg a i / 2 ^ s) (2 ^ (32 - s) * (lg a (i + 1) % 2 ^ s)) = 2 ^ (32 - s) * (lg a (i + 1) % 2 ^ s) + lg a i / 2 ^ s :=
      or32' (32 - s) x0 (Int.mul_emod_right _ _) (by omega) q0 q1 (by omega)
    obtain ⟨r, h1, h2, h3, h4⟩ := ih (i + 1) (out.set i (2 ^ (32 - s) * (lg a (i + 1) % 2 ^ s) + lg a i / 2 ^ s)) (by omega) (by omega) (by rw [List.length_set]; exact hl) (hw.set _ (by omega) (by omega))
      (fun j hj => by rw [lg_set_ne _ (by omega)]; exact hz j (by omega))
      (by
        rw [val_set _ _ _ _ (by omega), hz i (Nat.le_refl _), val_take_succ, Int.pow_succ]
        have e := Int.emod_add_mul_ediv (lg a i) (2 ^ s)
        have g : 2 ^ s * (val 4294967296 out + (2 ^ (32 - s) * (lg a (i + 1) % 2 ^ s) + lg a i / 2 ^ s - 0) * 4294967296 ^ i) = 2 ^ s * val 4294967296 out + (2 ^ s * 2 ^ (32 - s)) * (lg a (i + 1) % 2 ^ s) * 4294967296 ^ i + 2 ^ s * (lg a i / 2 ^ s) * 4294967296 ^ i := by grind
        rw [g, hpt, hv]
        grind)
    refine ⟨r, h1, h2, h3, ?_⟩
    refine Ev.step (fun k => by
      rw [nat_unshift.l0, if_pos (by omega), if_pos (by omega), if_pos (by omega), if_pos (by omega), w64 (n := (i : Int) + 1) (by omega), show (i : Int) + 1 = ((i + 1 : Nat) : Int) by omega, at_f a ha (i + 1), Option.bind_some, w64 (by omega), if_pos (by omega), if_pos (by omega), rd_lg, e1, e2, e3, Int.toNat_natCast]) ?_
    exact h4
theorem unshift_f (a : List Int) (s : Nat) (ha : Wf 4294967296 a) (la : a.length ≤ 1000) (hs : s < 32) :
    ∃ r, r.length = a.length ∧ Wf 4294967296 r ∧ 2 ^ s * val 4294967296 r = val 4294967296 a - lg a 0 % 2 ^ s ∧ Ev (fun k => nat_unshift.f k a (s : Int)) r := by
  obtain ⟨r, h1, h2, h3, h4⟩ := unshift_l0 a s ha la hs _ 0 (List.replicate a.length 0) rfl (by omega) (by simp) (Wf.replicate (by decide) _) (fun j _ => lg_replicate _ _) (by rw [val_replicate]; simp [val]; omega)
  refine ⟨r, h1, h2, h3, ?_⟩
  refine Ev.congr (fun k => by rw [nat_unshift.f, if_pos (by omega), if_pos (by omega), Int.toNat_natCast]) ?_
  exact h4
end Go.Proofs.YtakickbnjbedfaaDoor.F
