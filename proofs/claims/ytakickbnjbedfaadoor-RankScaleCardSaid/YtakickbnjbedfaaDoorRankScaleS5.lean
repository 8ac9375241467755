/- Part of the proof of Card. -/
import Derived.Test.YtakickbnjbedfaaDoorRankScaleS2
import Derived.Test.YtakickbnjbedfaaDoorRankScaleP0
import Derived.Test.YtakickbnjbedfaaDoorRankScaleShelf
namespace Go.Proofs.YtakickbnjbedfaaDoor.S
set_option linter.unusedVariables false
set_option linter.unusedSimpArgs false
open Go.RowKit Go.Proofs.YtakickbnjbedfaaDoorW.PrintWords Go.Proofs.YtakickbnjbedfaaDoorW.PrintLast Go.Proofs.YtakickbnjbedfaaDoorW.PrintMore Go.Proofs.YtakickbnjbedfaaDoor.PA Go.Proofs.YtakickbnjbedfaaDoor.Num Go.Proofs.YtakickbnjbedfaaDoor.F
def pad (n : Nat) : Nat → List UInt8
  | 0 => []
  | m + 1 => UInt8.ofNat (48 + n / 10 ^ m % 10) :: pad n m
theorem pad_len (n m : Nat) : (pad n m).length = m := by induction m with | zero => rfl | succ m ih => simp [pad, ih]
def dc (k : Nat) (l : List UInt8) : Array Value := (List.replicate k (Value.int .u8 0) ++ l.map fun b => Value.int .u8 (b.toNat : Int)).toArray
theorem dc_set (k : Nat) (l : List UInt8) (b : UInt8) : (dc (k + 1) l).setIfInBounds k (.int .u8 (b.toNat : Int)) = dc k (b :: l) := by
  unfold dc
  apply Array.toList_inj.1
  simp only [Array.toList_setIfInBounds, List.map_cons]
  rw [List.replicate_succ', List.append_assoc, List.set_append_right _ _ (by simp)]
  simp
theorem dc_at (k : Nat) (l : List UInt8) : ((dc (k + 1) l)[k]? : Option Value) = some (.int .u8 0) := by
  unfold dc
  simp [List.getElem?_append, List.getElem?_replicate]
set_option maxHeartbeats 4000000 in
set_option maxRecDepth 100000 in
theorem digits_c {w : World} {n : Nat} (hn : n < 1000000000) : Calls Tryd.prog 111 #[.int .u32 (n : Int)] w fun e w' => e = .returned (.string ⟨(pad n 9).toArray⟩) ∧ Below w.heap.size w w' := by
  go_enter Tryd.func111, Tryd.ntmps111
  go_wp2_with fail
  go_loopg [4, 0] (9 : Nat) (fun kq x y w' => kq ≤ 9 ∧ x = .int .i64 ((kq : Int) - 1) ∧ y = .int .u32 ((n / 10 ^ (9 - kq) : Nat) : Int) ∧ w' = w.alloc (.cells (dc kq (pad n (9 - kq))) 158))
  case atStart =>
    refine ⟨Nat.le_refl _, by rfl, by simp, by rfl⟩
  case round =>
    obtain ⟨h9, rfl, rfl, rfl⟩ := hrel
    cases gk with
    | zero =>
      have hd0 : dc 0 (pad n (9 - 0)) = dc 0 (pad n 9) := rfl
      have hp : (pad n 9).length = 9 := pad_len n 9
      have hcv : (convert 126 9 (.slice (some ⟨w.heap.size, 0, none⟩) 9 9)).run Tryd.prog (w.alloc (.cells (dc 0 (pad n 9)) 158)) = .ok (.string ⟨(pad n 9).toArray⟩) (w.alloc (.cells (dc 0 (pad n 9)) 158)) := by
        have h := run_convert_bytes_back (P := Tryd.prog) (w.alloc (.cells (dc 0 (pad n 9)) 158)) 126 9 5 ⟨w.heap.size, 0, none⟩ 9 (pad n 9) Tryd.underlying126 Tryd.underlying5 Tryd.underlying9 (fun j hj => by
          rw [show (⟨w.heap.size, 0, none⟩ : Addr).add j = ⟨w.heap.size, j, none⟩ by simp [Addr.add]; intro h; exact h.symm, World.cell?_alloc_new]
          unfold dc
          simp [hj])
        rw [hp] at h
        exact h
      rw [hd0]
      clear hd0
      generalize dc 0 (pad n 9) = cs at *
      go_wp2_with fail
      go_ret
      exact ⟨rfl, below_alloc (Below.refl _ _) _⟩
    | succ k =>
      have hset := dc_set k (pad n (9 - (k + 1))) (UInt8.ofNat (48 + n / 10 ^ (9 - (k + 1)) % 10))
      have hat := dc_at k (pad n (9 - (k + 1)))
      have hnx : UInt8.ofNat (48 + n / 10 ^ (9 - (k + 1)) % 10) :: pad n (9 - (k + 1)) = pad n (9 - k) := by
        rw [show 9 - k = (9 - (k + 1)) + 1 by omega]
        rfl
      have hdv : n / 10 ^ (9 - (k + 1)) / 10 = n / 10 ^ (9 - k) := by
        rw [show 9 - k = (9 - (k + 1)) + 1 by omega, Nat.pow_succ, Nat.div_div_eq_div_mul]
      have hub : n / 10 ^ (9 - (k + 1)) < 4294967296 := Nat.lt_of_le_of_lt (Nat.div_le_self _ _) (by omega)
      rw [hnx] at hset
      clear hnx
      generalize n / 10 ^ (9 - (k + 1)) = u at *
      rw [show ((UInt8.ofNat (48 + u % 10)).toNat : Int) = 48 + (u : Int) % 10 by
        rw [UInt8.toNat_ofNat']
        omega] at hset
      have hk : ((k + 1 : Nat) : Int) - 1 = (k : Int) := by omega
      rw [hk]
      have hne : (k : Int) ≠ -1 := by omega
      have HD := Aside0.mk hdv
      clear hdv
      generalize dc (k + 1) (pad n (9 - (k + 1))) = cs at *
      have HP := Aside0.mk hset
      generalize hcs : cs.setIfInBounds k (.int .u8 (48 + (u : Int) % 10)) = cs' at *
      go_wp2_with fail
      go_roundg k
      case measure => omega
      case rel =>
        refine ⟨by omega, rfl, ?_, ?_⟩
        · congr 1
          rw [← HD.out]
          omega
        · rw [← HP.out]
theorem pad_append (n a b : Nat) : pad n (a + b) = pad (n / 10 ^ b) a ++ pad n b := by
  induction a with
  | zero => simp [pad]
  | succ a ih =>
    rw [show a + 1 + b = (a + b) + 1 by omega]
    simp only [pad, ih, List.cons_append]
    rw [Nat.div_div_eq_div_mul, Nat.pow_add, Nat.mul_comm (10 ^ a)]
theorem pad_mod (n m : Nat) : pad (n % 10 ^ m) m = pad n m := by
  have key : ∀ k, k ≤ m → pad (n % 10 ^ m) k = pad n k := by
    intro k
    induction k with
    | zero => intro _; rfl
    | succ k ih =>
      intro h
      simp only [pad, ih (by omega)]
      congr 2
      congr 1
      obtain ⟨c, rfl⟩ : ∃ c, m = k + 1 + c := ⟨m - (k + 1), by omega⟩
      rw [Nat.pow_add, Nat.pow_succ, Nat.mul_assoc, Nat.mod_mul_right_div_self, Nat.mul_comm 10, Nat.mod_mul_left_mod]
  exact key m (Nat.le_refl _)
theorem pad_dec (m : Nat) : ∀ n, 10 ^ m ≤ n → n < 10 ^ (m + 1) → pad n (m + 1) = Lib.decDigits n := by
  induction m with
  | zero =>
    intro n h1 h2
    rw [Lib.decDigits_one (by simpa using h2)]
    simp [pad, Nat.mod_eq_of_lt (show n < 10 by simpa using h2)]
  | succ m ih =>
    intro n h1 h2
    have hp : 1 ≤ 10 ^ m := Nat.one_le_pow _ _ (by decide)
    have e1 : 10 ^ (m + 1) = 10 ^ m * 10 := Nat.pow_succ ..
    have e2 : 10 ^ (m + 1 + 1) = 10 ^ (m + 1) * 10 := Nat.pow_succ ..
    rw [pad_append n (m + 1) 1, ih (n / 10 ^ 1) (by rw [Nat.pow_one]; omega) (by rw [Nat.pow_one]; omega)]
    rw [Nat.pow_one]
    conv => rhs; rw [Lib.decDigits, dif_neg (by omega)]
    simp [pad]
theorem pad_trim (m : Nat) : ∀ n, n < 10 ^ m → Lib.trimLeftB (pad n m) 48 = if n = 0 then [] else Lib.decDigits n := by
  induction m with
  | zero =>
    intro n h
    have : n = 0 := by simpa using h
    subst this
    rfl
  | succ m ih =>
    intro n h
    by_cases h1 : n < 10 ^ m
    · rw [← ih n h1]
      simp only [pad, Nat.div_eq_of_lt h1]
      rfl
    · have hp : 1 ≤ 10 ^ m := Nat.one_le_pow _ _ (by decide)
      rw [if_neg (by omega), ← pad_dec m n (by omega) h]
      have hq : 0 < n / 10 ^ m := Nat.div_pos (by omega) hp
      have hq2 : n / 10 ^ m < 10 := Nat.div_lt_of_lt_mul (by rw [Nat.pow_succ] at h; omega)
      simp only [pad, Lib.trimLeftB, List.dropWhile_cons]
      rw [if_neg]
      intro hc
      have h3 : UInt8.ofNat (48 + n / 10 ^ m % 10) = 48 := by simpa using hc
      have h4 := congrArg UInt8.toNat h3
      rw [UInt8.toNat_ofNat'] at h4
      have h5 : (48 : UInt8).toNat = 48 := rfl
      omega
def dec (n : Nat) : ByteArray := ⟨(Lib.decDigits n).toArray⟩
def OneS (w : World) (s : ByteArray) (e : Ending) (w' : World) : Prop := e = .returned (.string s) ∧ Below w.heap.size w w'
set_option maxHeartbeats 4000000 in
set_option maxRecDepth 100000 in
theorem text_c {w : World} {v : Value} {n : Nat} (hv : IsN w v n) (hn : n < top) : Calls Tryd.prog 59 #[v] w (OneS w (dec n)) := by
  have H1 := right_yes hv hn
  go_enter Tryd.func59, Tryd.ntmps59
  go_wp2_with fail
  refine H1.mono ?_
  rintro e w1 ⟨rfl, hb1⟩
  clear H1
  have hv1 := hv.below hb1
  clear hv
  go_wp2_with fail
  go_loopg [0, 3] n (fun kq x y w' => ∃ t : Nat, IsN w' x kq ∧ y = .string ⟨(pad n (9 * t)).toArray⟩ ∧ kq = n / 10 ^ (9 * t) ∧ Below w.heap.size w w')
  case atStart => exact ⟨0, hv1, rfl, by simp, hb1⟩
  case round =>
    obtain ⟨t, hx, rfl, hk, HB⟩ := hrel
    by_cases h0 : gk = 0
    · subst h0
      have hx2 := hx
      unfold IsN at hx2
      rw [limbs_zero] at hx2
      obtain ⟨A, c, rfl, _, _⟩ := hx2.open
      clear hx hx2
      have hlt : n < 10 ^ (9 * t) := by
        rcases Nat.lt_or_ge n (10 ^ (9 * t)) with h | h
        · exact h
        · have := Nat.div_pos h (Nat.pow_pos (by decide : 0 < 10))
          omega
      have H2 := Tryd.strings_TrimLeft_one ⟨(pad n (9 * t)).toArray⟩ 48 (by decide) wr
      rw [show (ByteArray.mk (pad n (9 * t)).toArray).data.toList = pad n (9 * t) from rfl, pad_trim _ n hlt] at H2
      generalize (ByteArray.mk (pad n (9 * t)).toArray) = s1 at *
      clear hlt hk
      by_cases hn0 : n = 0
      · subst hn0
        rw [if_pos rfl] at H2
        have hd : dec 0 = ⟨#[48]⟩ := by
          unfold dec
          rw [Lib.decDigits_one (by decide)]
          rfl
        rw [hd]
        go_wp2_with fail
        refine H2.mono ?_
        rintro e w2 ⟨rfl, rfl⟩
        clear H2
        go_wp2_with fail
        go_ret
        exact ⟨by rw [hd]; rfl, HB⟩
      · rw [if_neg hn0] at H2
        have hd : (dec n).toList.isEmpty = false := by
          rw [← Go.decide_eq_emptyBytes]
          refine decide_eq_false fun h => ?_
          have h2 := congrArg (fun b : ByteArray => b.data.toList.length) h
          have h3 : (Lib.decDigits n).length = 0 := h2
          rw [Lib.decDigits_length] at h3
          have := Lib.nDigits_pos n
          omega
        change Calls _ _ _ _ fun e w' => e = .returned (.string (dec n)) ∧ w' = wr at H2
        generalize dec n = D at *
        go_wp2_with fail
        refine H2.mono ?_
        rintro e w2 ⟨rfl, rfl⟩
        clear H2
        go_wp2_with fail
        go_ret
        exact ⟨rfl, HB⟩
    · obtain ⟨A, c, rfl, hAl, hAc⟩ := Rd.open hx
      have hlen : (limbs gk).length ≤ 64 := len_top.2 (Nat.lt_of_le_of_lt (by rw [hk]; exact Nat.div_le_self _ _) hn)
      have H2 := short_c (b := 1000000000) hx (by omega) (by decide) (by decide)
      have hpos : 0 < (limbs gk).length := by
        rcases Nat.eq_zero_or_pos (limbs gk).length with h | h
        · exact absurd (limbs_nil.1 (List.length_eq_zero_iff.1 h)) h0
        · exact h
      generalize hL : (limbs gk).length = L at *
      clear hAc
      go_wp2_with fail
      refine H2.mono ?_
      rintro e w2 ⟨z, rfl, hz, hb2⟩
      clear H2
      have H3 := digits_c (w := w2) (n := gk % 1000000000) (Nat.mod_lt _ (by decide))
      have hpd : pad (gk % 1000000000) 9 ++ pad n (9 * t) = pad n (9 * (t + 1)) := by
        rw [show 9 * (t + 1) = 9 + 9 * t by omega, pad_append n 9 (9 * t), ← hk]
        congr 1
        exact pad_mod gk 9
      have HK := Aside0.mk hk
      have HP := Aside0.mk hpd
      clear hk hpd
      generalize gk % 1000000000 = r at *
      have hszt : ¬ (9223372036854775807 < (⟨(pad r 9).toArray⟩ : ByteArray).size + (⟨(pad n (9 * t)).toArray⟩ : ByteArray).size) := by
        have h1 : (⟨(pad r 9).toArray⟩ : ByteArray).size = 9 := pad_len r 9
        have h2 : (⟨(pad n (9 * t)).toArray⟩ : ByteArray).size = 9 * t := pad_len n (9 * t)
        have h3 : 10 ^ (9 * t) ≤ n := by
          rcases Nat.lt_or_ge n (10 ^ (9 * t)) with h | h
          · exact absurd (by rw [HK.out, Nat.div_eq_of_lt h]) h0
          · exact h
        have h4 : 2 ^ (9 * t) ≤ 10 ^ (9 * t) := Nat.pow_le_pow_left (by decide) _
        have h5 : n < 2 ^ (32 * 64) := by
          have : top = 2 ^ (32 * 64) := by unfold top; rw [show 4294967296 = 2 ^ 32 from rfl, ← Nat.pow_mul]
          omega
        have h6 : 9 * t < 32 * 64 := (Nat.pow_lt_pow_iff_right (by decide : 1 < 2)).1 (Nat.lt_of_le_of_lt h4 (Nat.lt_of_le_of_lt h3 h5))
        omega
      have hcat : (⟨(pad r 9).toArray⟩ : ByteArray) ++ (⟨(pad n (9 * t)).toArray⟩ : ByteArray) = ⟨(pad n (9 * (t + 1))).toArray⟩ := by
        rw [← HP.out]
        apply ByteArray.ext
        simp
      have HC := Aside0.mk hcat
      clear hcat
      generalize (⟨(pad r 9).toArray⟩ : ByteArray) = p2 at *
      generalize (⟨(pad n (9 * t)).toArray⟩ : ByteArray) = p1 at *
      go_wp2_with fail
      refine H3.mono ?_
      rintro e w3 ⟨rfl, hb3⟩
      clear H3
      go_wp2_with fail
      go_roundg (gk / 1000000000)
      case measure => omega
      case rel =>
        refine ⟨t + 1, (hz.rd.below hb3), ?_, ?_, below_trans HB (below_trans hb2 hb3)⟩
        · congr 1
          exact HC.out
        · rw [HK.out, Nat.div_div_eq_div_mul]
          congr 1
          rw [show 9 * (t + 1) = 9 * t + 9 by omega, Nat.pow_add]
end Go.Proofs.YtakickbnjbedfaaDoor.S
