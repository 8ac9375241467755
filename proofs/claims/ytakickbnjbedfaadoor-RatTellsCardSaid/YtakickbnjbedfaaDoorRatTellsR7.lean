/- Part of the proof of Card. -/
import Derived.Test.YtakickbnjbedfaaDoorRatTellsR6
import Derived.Test.YtakickbnjbedfaaDoorRatTellsS6
import Derived.Test.YtakickbnjbedfaaDoorRatTellsP2
namespace Go.Proofs.YtakickbnjbedfaaDoor.R
set_option linter.unusedVariables false
set_option linter.unusedSimpArgs false
open Go.RowKit Go.Proofs.YtakickbnjbedfaaDoorW.PrintWords Go.Proofs.YtakickbnjbedfaaDoorW.PrintLast Go.Proofs.YtakickbnjbedfaaDoorW.PrintMore Go.Proofs.YtakickbnjbedfaaDoor.PA Go.Proofs.YtakickbnjbedfaaDoor.Num Go.Proofs.YtakickbnjbedfaaDoor.F Go.Proofs.YtakickbnjbedfaaDoor.S
theorem tx_nums {r x s : Int} (r0 : 0 ≤ r) (r1 : r < 10) (hx : 0 ≤ x ∧ x < 65536) (hs : 65536 * r + x = s) :
    (0 ≤ 65536 * r ∧ 65536 * r ≤ 18446744073709551615) ∧ (0 ≤ s ∧ s ≤ 18446744073709551615) ∧ (0 ≤ s / 10 ∧ s / 10 ≤ 18446744073709551615) ∧ (0 ≤ s / 10 ∧ s / 10 < 65536) ∧ (0 ≤ s % 10 ∧ s % 10 < 10) := by omega
theorem tx_ar {X T r x s : Int} (h : 10 * X + r = T) (hs : 65536 * r + x = s) : 10 * (s / 10 + 65536 * X) + s % 10 = x + 65536 * T := by omega
theorem text_l1 (H : List Int) (hH : Wf 65536 H) (m : Nat) (hm : H.length = 2 * m) (hl : m ≤ 1000) (s r : ByteArray)
    (K : ∀ (cur : List Int) (rest : Int), cur.length = 2 * m → Wf 65536 cur → 0 ≤ rest → rest < 10 → 10 * val 65536 cur + rest = val 65536 H →
      Ev (fun k => samphireref02_Text.l1 k s rest cur (-1)) r) :
    ∀ (j : Nat) (cur : List Int) (rest : Int), j ≤ 2 * m → cur.length = 2 * m → Wf 65536 cur → 0 ≤ rest → rest < 10 → (∀ t, t < j → lg cur t = lg H t) →
    10 * val 65536 (cur.drop j) + rest = val 65536 (H.drop j) → Ev (fun k => samphireref02_Text.l1 k s rest cur ((j : Int) - 1)) r := by
  intro j
  induction j with
  | zero =>
    intro cur rest hj hc hw r0 r1 hz hv
    exact K cur rest hc hw r0 r1 hv
  | succ j ih =>
    intro cur rest hj hc hw r0 r1 hz hv
    have hx := hH.at (by decide) j
    have hcj := hz j (by omega)
    have e1 : ((j + 1 : Nat) : Int) - 1 = (j : Int) := by omega
    have e2 : wrap64 ((j : Int) - 1) = (j : Int) - 1 := w64 (by clear hv; omega)
    have q1 : (j : Int) < (cur.length : Int) := by clear hv; omega
    obtain ⟨x, hs⟩ : ∃ x, 65536 * rest + lg H j = x := ⟨_, rfl⟩
    obtain ⟨b1, b2, b3, b4, b5⟩ := tx_nums r0 r1 hx hs
    refine Ev.step (fun k => by rw [samphireref02_Text.l1, e1, e2, if_pos (Int.natCast_nonneg _), if_pos (Int.natCast_nonneg _), if_pos q1, rd_lg, hcj, wu b1, hs, wu b2, Int.tdiv_eq_ediv_of_nonneg b2.1, Int.tmod_eq_emod_of_nonneg b2.1, wu b3, Int.toNat_natCast]) ?_
    refine ih _ _ (by omega) (by rw [List.length_set]; exact hc) (hw.set _ b4.1 b4.2) b5.1 b5.2 ?_ ?_
    · intro t ht
      rw [lg_set_ne _ (by omega)]
      exact hz t (by omega)
    · rw [val_drop_succ, lg_set_same _ (by omega), List.drop_set_of_lt (by omega), val_drop_succ 65536 H]
      exact tx_ar hv hs
theorem dec_small {a : Nat} (h : a < 10) (s : ByteArray) (x : Int) (hx : x = (a : Int)) : strOfNums [IntKind.u64.wrap (48 + x) % 256] ++ s = dec a ++ s := by
  subst hx
  congr 1
  rw [wu (by omega)]
  unfold dec strOfNums
  rw [Lib.decDigits_one h]
  simp only [List.map_cons, List.map_nil]
  rw [show ((48 + (a : Int)) % 256).toNat = 48 + a by omega]
theorem dec_big {a : Nat} (h : ¬ a < 10) (s : ByteArray) (x : Int) (hx : x = ((a % 10 : Nat) : Int)) : dec (a / 10) ++ (strOfNums [IntKind.u64.wrap (48 + x) % 256] ++ s) = dec a ++ s := by
  subst hx
  rw [wu (by omega), ← ByteArray.append_assoc]
  congr 1
  unfold dec strOfNums
  conv => rhs; rw [Lib.decDigits, dif_neg h]
  simp only [List.map_cons, List.map_nil]
  rw [show ((48 + ((a % 10 : Nat) : Int)) % 256).toNat = 48 + a % 10 by omega]
  apply ByteArray.ext
  simp
theorem text_one (a : Nat) (s r : ByteArray) (la : (limbs a).length ≤ 1000) (hs : s.size ≤ 1000000)
    (K : Ev (fun k => if a / 10 = 0 then some (strOfNums [IntKind.u64.wrap (48 + ((a % 10 : Nat) : Int)) % 256] ++ s) else samphireref02_Text.l0 k (limbs (a / 10)) (strOfNums [IntKind.u64.wrap (48 + ((a % 10 : Nat) : Int)) % 256] ++ s)) r) :
    Ev (fun k => samphireref02_Text.l0 k (limbs a) s) r := by
  obtain ⟨n, hn⟩ : ∃ n, (limbs a).length = n := ⟨_, rfl⟩
  have e1 : wrap64 (2 * ((limbs a).length : Int)) = ((2 * n : Nat) : Int) := by rw [w64 (by omega)]; omega
  refine Ev.step (fun k => by rw [samphireref02_Text.l0, e1]) ?_
  refine Ev.bind (half_f _ (wf_limbs a) (by omega) (2 * n) (by omega)) ?_
  have va := hval a (m := n) (by omega)
  rw [hv_len, w64 (by omega)]
  refine text_l1 (hv (limbs a) (2 * n)) (hv_wf (wf_limbs a) _) n (hv_len _ _) (by omega) s r ?_ (2 * n) _ 0 (Nat.le_refl _) (hv_len _ _) (hv_wf (wf_limbs a) _) (by decide) (by decide) (fun t _ => rfl) (by rw [List.drop_of_length_le (by rw [hv_len]; omega)]; rfl)
  intro cur rest hc hw r0 r1 hv'
  rw [va] at hv'
  have hcur : val 65536 cur = ((a / 10 : Nat) : Int) := by omega
  have hrest : rest = ((a % 10 : Nat) : Int) := by omega
  subst hrest
  refine Ev.step (fun k => by rw [samphireref02_Text.l1, if_neg (by decide)]) ?_
  refine Ev.bind (whole_f cur hw n hc (by omega)) ?_
  rw [hcur, Int.toNat_natCast]
  refine Ev.congr (fun k => by rw [Option.bind_some, if_pos (by rw [strOfNums_size]; simp; omega)]) ?_
  refine Ev.congr (fun k => ?_) K
  by_cases h : a / 10 = 0
  · rw [if_pos h, if_pos (by have := limbs_len0.2 h; omega)]
  · rw [if_neg h, if_neg (by have := mt limbs_len0.1 h; omega)]
theorem text_l0 : ∀ (m a : Nat) (s : ByteArray), a < 10 ^ (m + 1) → s.size + m ≤ 1000000 → (limbs a).length ≤ 1000 →
    Ev (fun k => samphireref02_Text.l0 k (limbs a) s) (dec a ++ s) := by
  intro m
  induction m with
  | zero =>
    intro a s ha hs la
    have h10 : a < 10 := by simpa using ha
    refine text_one a s _ la (by omega) ?_
    refine Ev.all fun k => ?_
    rw [if_pos (by omega), dec_small h10 s _ (by omega)]
  | succ m ih =>
    intro a s ha hs la
    by_cases h10 : a < 10
    · refine text_one a s _ la (by omega) ?_
      refine Ev.all fun k => ?_
      rw [if_pos (by omega), dec_small h10 s _ (by omega)]
    · refine text_one a s _ la (by omega) ?_
      refine Ev.congr (fun k => by rw [if_neg (by omega)]) ?_
      rw [← dec_big h10 s _ rfl]
      refine ih (a / 10) _ ?_ ?_ (len_mono (Nat.div_le_self _ _) la)
      · rw [Nat.pow_succ] at ha; omega
      · rw [ByteArray.size_append, strOfNums_size]; simp; omega
theorem rtext_f (a : Nat) (la : (limbs a).length ≤ 1000) : Ev (fun k => samphireref02_Text.f k (limbs a)) (dec a) := by
  have h1 := lt_two la
  obtain ⟨K, hK⟩ : ∃ K, 32 * 1000 = K := ⟨_, rfl⟩
  rw [hK] at h1
  have h2 : a < 10 ^ (K + 1) := Nat.lt_of_lt_of_le h1 (Nat.le_trans (Nat.pow_le_pow_left (by decide) _) (Nat.pow_le_pow_right (by decide) (by omega)))
  have := text_l0 K a ⟨#[]⟩ h2 (by show 0 + K ≤ 1000000; omega) la
  rwa [show dec a ++ (⟨#[]⟩ : ByteArray) = dec a by apply ByteArray.ext; simp] at this
theorem rrtext_f (n d : Nat) (ln : n < top) (ld : d < top) : Ev (fun k => samphireref03_Text.f k (limbs n) (limbs d)) (rdec n d) := by
  have l1 := len_top.2 ln
  have l2 := len_top.2 ld
  have s1 := dec_size ln
  have s2 := dec_size ld
  unfold samphireref03_Text.f
  refine Ev.bind (rtext_f n (by omega)) ?_
  refine Ev.congr (fun k => by rw [if_pos (by omega)]) ?_
  refine Ev.bind (rtext_f d (by omega)) ?_
  refine Ev.all fun k => ?_
  rw [if_pos (by rw [ByteArray.size_append, show (⟨#[47]⟩ : ByteArray).size = 1 from rfl]; omega)]
  rfl
theorem small_f (l m : List Int) : samphireref03_Small.f l m = some (decide (l.length ≤ 70 ∧ m.length ≤ 70)) := by
  unfold samphireref03_Small.f
  by_cases h : l.length ≤ 70
  · rw [if_pos (by omega)]; simp [h]; omega
  · rw [if_neg (by omega)]; simp [h]
theorem rrat_f (l m : List Int) (hl : Wf 4294967296 l) (hm : Wf 4294967296 m) : Ev (fun k => samphireref03_Right.f k l m) (isRat l m) := by
  unfold samphireref03_Right.f
  refine Ev.bind1 (rright_f l hl) ?_
  cases h : isNat l with
  | false =>
    refine Ev.all fun k => ?_
    rw [if_neg (by decide)]
    simp [isRat, h]
  | true =>
    refine Ev.congr (fun k => by rw [if_pos rfl]) ?_
    refine Ev.bind1 (rright_f m hm) ?_
    cases h' : isNat m with
    | false =>
      refine Ev.all fun k => ?_
      rw [if_neg (by decide)]
      simp [isRat, h, h']
    | true =>
      obtain ⟨n, rfl, tn⟩ := isNat_limbs hl h
      obtain ⟨d, rfl, td⟩ := isNat_limbs hm h'
      refine Ev.congr (fun k => by rw [if_pos rfl]) ?_
      rw [isRat_limbs]
      by_cases hd : d = 0
      · subst hd
        refine Ev.all fun k => ?_
        rw [if_pos (by rw [limbs_zero]; rfl)]
        simp [limbs_zero]
      · have hp := mt limbs_len0.1 hd
        refine Ev.congr (fun k => by rw [if_neg (by omega)]) ?_
        refine Ev.bind (rgcd_f n d (by have := len_top.2 tn; omega) (by have := len_top.2 td; omega)) ?_
        have hemp : (limbs d).isEmpty = false := by
          cases hh : limbs d with
          | nil => exact absurd (limbs_nil.1 hh) hd
          | cons x y => rfl
        rw [decide_eq_true tn, decide_eq_true td, hemp]
        refine Ev.all fun k => ?_
        by_cases hg : Nat.gcd n d = 1
        · rw [decide_eq_true hg, hg, limbs_small (by decide) (by decide)]
          rfl
        · by_cases h1 : (limbs (Nat.gcd n d)).length = 1
          · rw [if_pos (by omega), if_pos (by omega), show rd (limbs (Nat.gcd n d)) 0 = lg (limbs (Nat.gcd n d)) 0 from rfl, lg_limbs_zero]
            have h2 : Nat.gcd n d < 4294967296 := by simpa using (limbs_len (n := Nat.gcd n d) (k := 0)).1 h1 |>.2
            rw [Nat.mod_eq_of_lt h2]
            congr 1
            rw [Bool.eq_iff_iff]; simp; omega
          · rw [if_neg (by omega)]
            simp [hg]
theorem big_f (l m r : List Int) : samphireref03_big.f l m r = some (decide (l.length > 64 ∨ m.length > 64 ∨ r.length > 64)) := by
  unfold samphireref03_big.f
  by_cases h : l.length > 64
  · rw [if_pos (by omega)]; simp [h]
  · by_cases h2 : m.length > 64
    · rw [if_neg (by omega), if_pos (by omega)]; simp [h2]
    · rw [if_neg (by omega), if_neg (by omega)]
      congr 1
      rw [Bool.eq_iff_iff]; simp; omega
theorem rrcmp_f (n d n' d' : Nat) (tn : n < top) (td : d < top) (tn' : n' < top) (td' : d' < top) : Ev (fun k => samphireref03_Cmp.f k (limbs n) (limbs d) (limbs n') (limbs d'))
    (if n * d' < top ∧ n' * d < top then (ord ((n * d' : Nat) : Int) ((n' * d : Nat) : Int), 0) else (0, 6)) := by
  have l1 := len_top.2 tn
  have l2 := len_top.2 td
  have l3 := len_top.2 tn'
  have l4 := len_top.2 td'
  unfold samphireref03_Cmp.f
  refine Ev.bind (rmul_f n d' (by omega) (by omega)) ?_
  refine Ev.bind (rmul_f n' d (by omega) (by omega)) ?_
  refine Ev.bind1 (big_f _ _ _) ?_
  by_cases h : n * d' < top ∧ n' * d < top
  · have h1 := len_top.2 h.1
    have h2 := len_top.2 h.2
    rw [if_pos h]
    refine Ev.congr (fun k => by rw [if_neg (by simp; omega)]) ?_
    exact Ev.bind (rcmp_f _ _ (by omega) (by omega)) (Ev.all fun k => rfl)
  · rw [if_neg h]
    refine Ev.all fun k => ?_
    rw [if_pos (decide_eq_true ?_)]
    by_cases h1 : n * d' < top
    · have := mt len_top.1 (show ¬ n' * d < top from fun h2 => h ⟨h1, h2⟩)
      omega
    · have := mt len_top.1 h1
      omega
end Go.Proofs.YtakickbnjbedfaaDoor.R
