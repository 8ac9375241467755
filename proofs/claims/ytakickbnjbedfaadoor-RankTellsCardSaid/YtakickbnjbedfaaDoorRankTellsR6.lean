/- Part of the proof of Card. -/
import Derived.Test.YtakickbnjbedfaaDoorRankTellsR5
import Derived.Test.YtakickbnjbedfaaDoorRankTellsP1
namespace Go.Proofs.YtakickbnjbedfaaDoor.R
set_option linter.unusedVariables false
set_option linter.unusedSimpArgs false
open Go.RowKit Go.Proofs.YtakickbnjbedfaaDoorW.PrintWords Go.Proofs.YtakickbnjbedfaaDoorW.PrintLast Go.Proofs.YtakickbnjbedfaaDoorW.PrintMore Go.Proofs.YtakickbnjbedfaaDoor.PA Go.Proofs.YtakickbnjbedfaaDoor.Num Go.Proofs.YtakickbnjbedfaaDoor.F
theorem shr32 (x : Int) (k : Nat) (h : k ≤ 32) : shr .u32 x (k : Int) = x / 2 ^ k := by
  unfold shr
  rw [Int.toNat_natCast, Nat.min_eq_left (by exact h)]
theorem bits_up {V x P p n : Int} (hV : V < P) (hP : 0 < P) (hx : x + 1 ≤ p) : V + x * P < P * p := by
  have : (x + 1) * P ≤ p * P := Int.mul_le_mul_of_nonneg_right hx (by omega)
  grind
theorem mod_next (x : Int) (k : Nat) (h : x / 2 ^ k % 2 = 0) : x % 2 ^ (k + 1) = x % 2 ^ k := by
  have hp : (0 : Int) < 2 ^ k := Int.pow_pos (by decide)
  have e1 := Int.emod_add_mul_ediv x (2 ^ k)
  have e2 : x / 2 ^ k = 2 * (x / 2 ^ k / 2) := by omega
  have e3 : x = x % 2 ^ k + 2 ^ (k + 1) * (x / 2 ^ k / 2) := by rw [Int.pow_succ]; grind
  have h0 := Int.emod_nonneg x (show (2 : Int) ^ k ≠ 0 by omega)
  have h1 := Int.emod_lt_of_pos x hp
  conv => lhs; rw [e3]
  rw [Int.add_mul_emod_self_left]
  exact Int.emod_eq_of_lt h0 (by rw [Int.pow_succ]; omega)
theorem bits_l1 (l : List Int) (hw : Wf 4294967296 l) (hl : l.length ≤ 100000) (i : Nat) (hi : i < l.length)
    (K : ∀ n : Nat, n ≤ 32 * (i + 1) → val 4294967296 (l.take (i + 1)) < 2 ^ n → ∃ r : Nat, Ev (fun k => samphireref02_Bits.l0 k l (n : Int) ((i + 1 : Nat) : Int)) (r : Int) ∧ r ≤ 32 * l.length ∧ val 4294967296 l < 2 ^ r) :
    ∀ (d k n : Nat), 32 - k = d → k ≤ 32 → n ≤ 32 * i + k → val 4294967296 (l.take i) + (lg l i % 2 ^ k) * 4294967296 ^ i < 2 ^ n →
    ∃ r : Nat, Ev (fun f => samphireref02_Bits.l1 f l (n : Int) (i : Int) (k : Int)) (r : Int) ∧ r ≤ 32 * l.length ∧ val 4294967296 l < 2 ^ r := by
  intro d
  have ax := hw.at (by decide) i
  induction d with
  | zero =>
    intro k n hd hk hn hv
    obtain rfl : k = 32 := by omega
    have e1 : wrap64 ((i : Int) + 1) = ((i + 1 : Nat) : Int) := by rw [w64 (by clear hv K; omega)]; rfl
    rw [show lg l i % 2 ^ 32 = lg l i by omega, ← val_take_succ] at hv
    obtain ⟨r, hr, h2⟩ := K n hn hv
    exact ⟨r, Ev.step (fun f => by rw [samphireref02_Bits.l1, if_neg (by decide), e1]) hr, h2⟩
  | succ d ih =>
    intro k n hd hk hn hv
    have q1 : (k : Int) < 32 := by clear hv K; omega
    have q2 : (i : Int) < (l.length : Int) := by clear hv K; omega
    have e1 : wrap64 ((k : Int) + 1) = ((k + 1 : Nat) : Int) := by rw [w64 (by clear hv K; omega)]; rfl
    have e2 : wrap64 (wrap64 (wrap64 (32 * (i : Int)) + (k : Int)) + 1) = ((32 * i + k + 1 : Nat) : Int) := by
      rw [w64 (n := 32 * (i : Int)) (by clear hv K; omega), w64 (n := 32 * (i : Int) + (k : Int)) (by clear hv K; omega), w64 (by clear hv K; omega)]; omega
    have e3 : IntKind.u64.wrap (k : Int) = (k : Int) := wu (by clear hv K; omega)
    have hp : (0 : Int) < 2 ^ k := Int.pow_pos (by decide)
    have h0 : 0 ≤ lg l i / 2 ^ k := Int.ediv_nonneg ax.1 (by omega)
    have e4 : Int.tmod (shr .u32 (rd l (i : Int)) (k : Int)) 2 = lg l i / 2 ^ k % 2 := by
      rw [rd_lg, shr32 _ _ (by omega), Int.tmod_eq_emod_of_nonneg h0]
    by_cases hb : lg l i / 2 ^ k % 2 = 1
    · obtain ⟨r, hr, h2⟩ := ih (k + 1) (32 * i + k + 1) (by clear hv K; omega) (by clear hv K; omega) (by clear hv K; omega) (by
        have t := take_bound hw (n := i) (by clear hv K; omega)
        have hm := Int.emod_lt_of_pos (lg l i) (show (0 : Int) < 2 ^ (k + 1) from Int.pow_pos (by decide))
        have := bits_up (n := 0) t.2 (pow_pos' (by decide) i) (show lg l i % 2 ^ (k + 1) + 1 ≤ 2 ^ (k + 1) by omega)
        have ep : (2 : Int) ^ (32 * i + (k + 1)) = 4294967296 ^ i * 2 ^ (k + 1) := by rw [Int.pow_add 2 (32 * i) (k + 1), Int.pow_mul]; rfl
        rw [show 32 * i + k + 1 = 32 * i + (k + 1) by omega, ep]
        exact this)
      refine ⟨r, Ev.step (fun f => by rw [samphireref02_Bits.l1, e3, if_pos q1, if_pos (Int.natCast_nonneg _), if_pos q2, if_pos (Int.natCast_nonneg _), e4, if_pos hb, e2, e1]) hr, h2⟩
    · obtain ⟨r, hr, h2⟩ := ih (k + 1) n (by clear hv K; omega) (by clear hv K; omega) (by clear hv K; omega) (by rw [mod_next _ _ (by omega)]; exact hv)
      refine ⟨r, Ev.step (fun f => by rw [samphireref02_Bits.l1, e3, if_pos q1, if_pos (Int.natCast_nonneg _), if_pos q2, if_pos (Int.natCast_nonneg _), e4, if_neg hb, e1]) hr, h2⟩
theorem bits_l0 (l : List Int) (hw : Wf 4294967296 l) (hl : l.length ≤ 100000) : ∀ (d i n : Nat), l.length - i = d → i ≤ l.length → n ≤ 32 * i → val 4294967296 (l.take i) < 2 ^ n →
    ∃ r : Nat, Ev (fun k => samphireref02_Bits.l0 k l (n : Int) (i : Int)) (r : Int) ∧ r ≤ 32 * l.length ∧ val 4294967296 l < 2 ^ r := by
  intro d
  induction d with
  | zero =>
    intro i n hd hi hn hv
    obtain rfl : i = l.length := by omega
    rw [val_take_all _ _ (Nat.le_refl _)] at hv
    exact ⟨n, Ev.step (fun k => by rw [samphireref02_Bits.l0, if_neg (by omega)]) (Ev.all fun k => rfl), hn, hv⟩
  | succ d ih =>
    intro i n hd hi hn hv
    have hi' : i < l.length := by omega
    obtain ⟨r, hr, h2⟩ := bits_l1 l hw hl i hi' (fun n hn hv => ih (i + 1) n (by omega) (by omega) hn hv) 32 0 n rfl (by omega) (by omega) (by rw [show lg l i % 2 ^ 0 = 0 by omega]; simpa using hv)
    exact ⟨r, Ev.step (fun k => by rw [samphireref02_Bits.l0, if_pos (by omega)]; rfl) hr, h2⟩
theorem rbits_f (a : Nat) (la : (limbs a).length ≤ 1000) : ∃ r : Nat, Ev (fun k => samphireref02_Bits.f k (limbs a)) (r : Int) ∧ r ≤ 32 * (limbs a).length ∧ a < 2 ^ r := by
  obtain ⟨r, h1, h2, h3⟩ := bits_l0 (limbs a) (wf_limbs a) (by omega) _ 0 0 rfl (by omega) (by omega) (by simp [val])
  rw [val_limbs] at h3
  refine ⟨r, h1, h2, ?_⟩
  have h4 : (a : Int) < ((2 ^ r : Nat) : Int) := by rw [Int.natCast_pow]; exact h3
  exact_mod_cast h4
theorem lg_limbs (i : Nat) : ∀ a : Nat, lg (limbs a) i = ((a / 4294967296 ^ i % 4294967296 : Nat) : Int) := by
  induction i with
  | zero => intro a; rw [lg_limbs_zero, Nat.pow_zero, Nat.div_one]
  | succ i ih =>
    intro a
    by_cases h : a = 0
    · subst h; rw [limbs_zero, Nat.zero_div]; rfl
    · rw [limbs_pos h, lg_cons_succ, ih, Nat.div_div_eq_div_mul, Nat.pow_succ, Nat.mul_comm]
theorem bit_of (a j : Nat) : a / 4294967296 ^ (j / 32) % 4294967296 / 2 ^ (j % 32) % 2 = a / 2 ^ j % 2 := by
  have e1 : a / 2 ^ j = a / 4294967296 ^ (j / 32) / 2 ^ (j % 32) := by
    rw [Nat.div_div_eq_div_mul, show 4294967296 = 2 ^ 32 from rfl, ← Nat.pow_mul, ← Nat.pow_add, Nat.div_add_mod]
  rw [e1]
  generalize a / 4294967296 ^ (j / 32) = x
  obtain ⟨c, hc⟩ : ∃ c, 32 = j % 32 + 1 + c := ⟨31 - j % 32, by omega⟩
  generalize j % 32 = m at *
  rw [show 4294967296 = 2 ^ m * (2 * 2 ^ c) by
    rw [show 4294967296 = 2 ^ 32 from rfl, ← Nat.mul_assoc, ← Nat.pow_succ, ← Nat.pow_add, ← hc]]
  rw [Nat.mod_mul_right_div_self, Nat.mod_mul_right_mod]
theorem div_bit (a j : Nat) (hj : j ≤ 1000000) : Int.tmod (shr .u32 (rd (limbs a) (wrap64 (Int.tdiv (j : Int) 32))) (IntKind.u64.wrap (Int.tmod (j : Int) 32))) 2 = ((a / 2 ^ j % 2 : Nat) : Int) := by
  rw [show Int.tdiv (j : Int) 32 = ((j / 32 : Nat) : Int) from rfl, w64 (by omega), show Int.tmod (j : Int) 32 = ((j % 32 : Nat) : Int) from rfl, wu (by omega), rd_lg, lg_limbs, shr32 _ _ (by omega), ← bit_of]
  rfl
theorem div_l0 (a b : Nat) (hb : 0 < b) (la : (limbs a).length ≤ 1000) (lb : (limbs b).length ≤ 1000) : ∀ (j Q R : Nat), j ≤ 32 * (limbs a).length → a / 2 ^ j = Q * b + R → R < b →
    Ev (fun k => samphireref02_Div.l0 k (limbs a) (limbs b) (limbs Q) (limbs R) ((j : Int) - 1)) (limbs (a / b), limbs (a % b)) := by
  intro j
  induction j with
  | zero =>
    intro Q R _ h hR
    rw [Nat.pow_zero, Nat.div_one] at h
    refine Ev.step (fun k => by rw [samphireref02_Div.l0, if_neg (by omega)]) (Ev.all fun k => ?_)
    have e1 : a / b = Q := by rw [h, Nat.mul_comm, Nat.mul_add_div hb, Nat.div_eq_of_lt hR, Nat.add_zero]
    have e2 : a % b = R := by rw [h, Nat.mul_comm, Nat.mul_add_mod, Nat.mod_eq_of_lt hR]
    rw [e1, e2]
  | succ j ih =>
    intro Q R hj h hR
    have e1 : ((j + 1 : Nat) : Int) - 1 = (j : Int) := by omega
    have e2 : wrap64 ((j : Int) - 1) = (j : Int) - 1 := w64 (by clear h; omega)
    have e3 : wrap64 (Int.tdiv (j : Int) 32) = ((j / 32 : Nat) : Int) := by rw [show Int.tdiv (j : Int) 32 = ((j / 32 : Nat) : Int) from rfl, w64 (by clear h; omega)]
    have q1 : ((j / 32 : Nat) : Int) < ((limbs a).length : Int) := by clear h; omega
    have q2 : 0 ≤ IntKind.u64.wrap (Int.tmod (j : Int) 32) := by rw [show Int.tmod (j : Int) 32 = ((j % 32 : Nat) : Int) from rfl, wu (by clear h; omega)]; omega
    have hbit := div_bit a j (by clear h; omega)
    rw [e3] at hbit
    obtain ⟨c, hc⟩ : ∃ c, a / 2 ^ j % 2 = c := ⟨_, rfl⟩
    have c1 : c ≤ 1 := by omega
    have hnew : a / 2 ^ j = Q * b + Q * b + (2 * R + c) := by
      have h2 : a / 2 ^ j / 2 = a / 2 ^ (j + 1) := by rw [Nat.div_div_eq_div_mul, ← Nat.pow_succ]
      rw [h] at h2
      clear hbit q1 q2 e1 e2 e3 h
      omega
    have hle : a / 2 ^ j ≤ a := Nat.div_le_self _ _
    rw [hc] at hbit
    have lR : (limbs (2 * R + c)).length ≤ 1000 := len_mono (by omega) la
    have lQ : (limbs Q).length ≤ 1000 := len_mono (by have := Nat.le_mul_of_pos_right Q hb; omega) la
    have lR0 : (limbs R).length ≤ 1000 := len_mono (by omega) la
    refine Ev.step (fun k => by rw [samphireref02_Div.l0, e1, e3, if_pos (Int.natCast_nonneg _), if_pos (Int.natCast_nonneg _), if_pos q1, if_pos q2, hbit]) ?_
    refine Ev.bind (twice_f R lR0 c c1) ?_
    refine Ev.bind (rcmp_f (2 * R + c) b lR lb) ?_
    by_cases hlt : 2 * R + c < b
    · rw [ord_lt (show ((2 * R + c : Nat) : Int) < (b : Int) by omega)]
      refine Ev.congr (fun k => by rw [if_neg (by decide)]) ?_
      refine Ev.bind (twice_f Q lQ 0 (by decide)) ?_
      rw [e2]
      refine ih _ _ (by clear h hnew; omega) ?_ hlt
      rw [hnew]; grind
    · have ho : ord ((2 * R + c : Nat) : Int) (b : Int) ≥ 0 := by clear h hnew; unfold ord; split <;> (try split) <;> omega
      refine Ev.congr (fun k => by rw [if_pos ho]) ?_
      refine Ev.bind (rsub_f (2 * R + c) b lR (by omega)) ?_
      refine Ev.bind (twice_f Q lQ 1 (by decide)) ?_
      rw [e2]
      refine ih _ _ (by clear h hnew; omega) ?_ (by clear h hnew; omega)
      obtain ⟨S, hS⟩ : ∃ S, 2 * R + c = b + S := ⟨2 * R + c - b, by omega⟩
      rw [hnew, hS]
      rw [Nat.add_sub_cancel_left]
      grind
theorem rdiv_f (a b : Nat) (hb : 0 < b) (la : (limbs a).length ≤ 1000) (lb : (limbs b).length ≤ 1000) : Ev (fun k => samphireref02_Div.f k (limbs a) (limbs b)) (limbs (a / b), limbs (a % b)) := by
  obtain ⟨r, h1, h2, h3⟩ := rbits_f a la
  unfold samphireref02_Div.f
  refine Ev.bind h1 ?_
  rw [w64 (by omega)]
  have := div_l0 a b hb la lb r 0 0 h2 (by rw [Nat.div_eq_of_lt h3]; omega) hb
  rw [limbs_zero] at this
  exact this
theorem rreduce_f (n d : Nat) (hd : 0 < d) (ln : (limbs n).length ≤ 1000) (ld : (limbs d).length ≤ 1000) : Ev (fun k => samphireref03_Reduce.f k (limbs n) (limbs d)) (limbs (n / Nat.gcd n d), limbs (d / Nat.gcd n d)) := by
  unfold samphireref03_Reduce.f
  have hg : 0 < Nat.gcd n d := Nat.gcd_pos_of_pos_right n hd
  have lg : (limbs (Nat.gcd n d)).length ≤ 1000 := len_mono (Nat.gcd_le_right n hd) ld
  refine Ev.bind (rgcd_f n d ln ld) ?_
  refine Ev.bind (rdiv_f n _ hg ln lg) ?_
  refine Ev.bind (rdiv_f d _ hg ld lg) (Ev.all fun k => rfl)
end Go.Proofs.YtakickbnjbedfaaDoor.R
