/- Part of the proof of Card. -/
import Derived.IntWalk
import Derived.Test.YtakickbnjbedfaaDoorRankTellsG3
import Derived.Test.YtakickbnjbedfaaDoorRankTellsG4
namespace Go.Proofs.YtakickbnjbedfaaDoor.PB
open Go.Proofs.YtakickbnjbedfaaDoor.PA Go.Proofs.YtakickbnjbedfaaDoor.Num
open Go.RowKit Go.Proofs.YtakickbnjbedfaaDoorW.PrintWords Go.Proofs.YtakickbnjbedfaaDoorW.PrintLast Go.Proofs.YtakickbnjbedfaaDoorW.PrintMore
set_option linter.unusedVariables false
set_option linter.unusedSimpArgs false
theorem m_ar {O V xi Y yj Pi Pj o c s : Int} (h : O + c * (Pi * Pj) = V + xi * Y * Pi) (hs : o + xi * yj + c = s) : O + (s % 65536 - o) * (Pi * Pj) + s / 65536 * (Pi * Pj * 65536) = V + xi * (Y + yj * Pj) * Pi := by
  have e : s % 65536 = s - 65536 * (s / 65536) := by omega
  rw [e]
  generalize s / 65536 = q
  subst hs
  grind
def MI (o : List Int) (V xi Y : Int) (i k : Nat) (c : Int) : Prop := o.length = 16 ∧ Wf 65536 o ∧ (∀ j, i + 8 ≤ j → lg o j = 0) ∧ (0 ≤ c ∧ c < 65536) ∧ val 65536 o + c * (65536 ^ i * 65536 ^ k) = V + xi * Y * 65536 ^ i
theorem MI.step {o y : List Int} {V xi c s : Int} {i k : Nat} (h : MI o V xi (val 65536 (y.take k)) i k c) (hi : i < 8) (hk : k < 8) (hx : 0 ≤ xi ∧ xi < 65536) (hy : Wf 65536 y) (hs : lg o (i + k) + xi * lg y k + c = s) :
    MI (o.set (i + k) (s % 65536)) V xi (val 65536 (y.take (k + 1))) i (k + 1) (s / 65536) := by
  obtain ⟨h1, h2, h3, h4, h5⟩ := h
  have ho := h2.at (by decide) (i + k)
  have hyk := hy.at (by decide) k
  have hp : 0 ≤ xi * lg y k ∧ xi * lg y k ≤ 4294836225 := ⟨Int.mul_nonneg hx.1 hyk.1, by
    have := Int.mul_le_mul (show xi ≤ 65535 by omega) (show lg y k ≤ 65535 by omega) hyk.1 (by decide)
    omega⟩
  refine ⟨by simp [h1], h2.set _ (by omega) (by omega), fun j hj => ?_, by omega, ?_⟩
  · rw [lg_set_ne _ (by omega)]; exact h3 j hj
  · rw [val_set _ _ _ _ (by omega), val_take_succ, Int.pow_add, show (65536 : Int) ^ (k + 1) = 65536 ^ k * 65536 from Int.pow_succ ..]
    have := m_ar h5 hs
    grind
theorem MI.last {o x y : List Int} {c : Int} {i : Nat} (h : MI o (val 65536 (x.take i) * val 65536 y) (lg x i) (val 65536 y) i 8 c) (hi : i < 8) :
    (o.set (i + 8) c).length = 16 ∧ Wf 65536 (o.set (i + 8) c) ∧ (∀ j, i + 1 + 8 ≤ j → lg (o.set (i + 8) c) j = 0) ∧ val 65536 (o.set (i + 8) c) = val 65536 (x.take (i + 1)) * val 65536 y := by
  obtain ⟨h1, h2, h3, h4, h5⟩ := h
  refine ⟨by simp [h1], h2.set _ h4.1 h4.2, fun j hj => ?_, ?_⟩
  · rw [lg_set_ne _ (by omega)]; exact h3 j (by omega)
  · rw [val_set _ _ _ _ (by omega), h3 (i + 8) (Nat.le_refl _), val_take_succ, Int.pow_add]
    generalize (65536 : Int) ^ i = p at *
    generalize (65536 : Int) ^ 8 = q at *
    grind
theorem MI.start {o y : List Int} {V xi : Int} {i : Nat} (h1 : o.length = 16) (h2 : Wf 65536 o) (h3 : ∀ j, i + 8 ≤ j → lg o j = 0) (h : val 65536 o = V) : MI o V xi (val 65536 (y.take 0)) i 0 0 :=
  ⟨h1, h2, h3, by decide, by simp [h, val]⟩
theorem MI.nums {o y : List Int} {V xi Y c : Int} {i k : Nat} (h : MI o V xi Y i k c) (hx : 0 ≤ xi ∧ xi < 65536) (hy : Wf 65536 y) :
    (0 ≤ lg o (i + k) ∧ lg o (i + k) < 65536) ∧ (0 ≤ lg y k ∧ lg y k < 65536) ∧ (0 ≤ xi * lg y k ∧ xi * lg y k ≤ 4294836225) := by
  have hyk := hy.at (by decide) k
  refine ⟨h.2.1.at (by decide) _, hyk, Int.mul_nonneg hx.1 hyk.1, ?_⟩
  have := Int.mul_le_mul (show xi ≤ 65535 by omega) (show lg y k ≤ 65535 by omega) hyk.1 (by decide)
  omega
theorem zeros16 : arrV (List.replicate 16 0) = #[.int .u64 0, .int .u64 0, .int .u64 0, .int .u64 0, .int .u64 0, .int .u64 0, .int .u64 0, .int .u64 0, .int .u64 0, .int .u64 0, .int .u64 0, .int .u64 0, .int .u64 0, .int .u64 0, .int .u64 0, .int .u64 0] := by
  simp [arrV, List.replicate]
theorem cast_prod (B a b c d : Nat) : (((a + B * b) * (c + B * d) : Nat) : Int) = ((a : Int) + (B : Int) * b) * ((c : Int) + (B : Int) * d) := by simp only [Int.natCast_mul, Int.natCast_add]
theorem top_zero {o : List Int} (h1 : o.length = 16) (h2 : Wf 65536 o) (h : val 65536 o < 340282366920938463463374607431768211456) : ∀ j, 8 ≤ j → lg o j = 0 := by
  intro j hj
  have hd := val_take_drop 65536 o (n := 8) (by omega)
  have b1 := val_bound (b := 65536) (by decide) (h2.take 8)
  have b2 := val_bound (b := 65536) (by decide) (h2.drop 8)
  have hp : (65536 : Int) ^ 8 = 340282366920938463463374607431768211456 := by decide
  rw [hp] at hd
  have hz : val 65536 (o.drop 8) = 0 := by omega
  have := val_zero_of (by decide) (h2.drop 8) hz (j - 8)
  rw [lg_drop] at this
  rwa [show 8 + (j - 8) = j by omega] at this
def lowL (o : List Int) (i : Nat) : List Int := o.take i ++ List.replicate (8 - i) 0
theorem lowL_len {o : List Int} (h : o.length = 16) {i : Nat} (hi : i ≤ 8) : (lowL o i).length = 8 := by simp [lowL, h]; omega
theorem lowL_set {o : List Int} (h : o.length = 16) {i : Nat} (hi : i < 8) : (lowL o i).set i (lg o i) = lowL o (i + 1) := by
  unfold lowL lg
  rw [List.set_append_right _ _ (by simp [h]; omega)]
  rw [show 8 - i = (8 - (i + 1)) + 1 by omega, List.replicate_succ]
  rw [List.length_take, Nat.min_eq_left (by omega), Nat.sub_self, List.set_cons_zero, List.take_add_one, List.append_assoc]
  congr 1
  rw [List.getD_eq_getElem?_getD, List.getElem?_eq_getElem (by omega)]
  rfl
theorem lowL_zero (o : List Int) : arrV (lowL o 0) = #[.int .u64 0, .int .u64 0, .int .u64 0, .int .u64 0, .int .u64 0, .int .u64 0, .int .u64 0, .int .u64 0] := by
  simp [lowL, arrV, List.replicate]
theorem eight {l : List Int} (h : l.length = 8) : ∃ a b c d e f g i, l = [a, b, c, d, e, f, g, i] := by
  match l, h with
  | [a, b, c, d, e, f, g, i], _ => exact ⟨a, b, c, d, e, f, g, i, rfl⟩
theorem num8 {d0 d1 d2 d3 d4 d5 d6 d7 u v V : Int} {P : Nat} (h : (0 ≤ d0 ∧ d0 < 65536) ∧ (0 ≤ d1 ∧ d1 < 65536) ∧ (0 ≤ d2 ∧ d2 < 65536) ∧ (0 ≤ d3 ∧ d3 < 65536) ∧ (0 ≤ d4 ∧ d4 < 65536) ∧ (0 ≤ d5 ∧ d5 < 65536) ∧ (0 ≤ d6 ∧ d6 < 65536) ∧ (0 ≤ d7 ∧ d7 < 65536)) (hv : val 65536 [d0, d1, d2, d3, d4, d5, d6, d7] = V) (hp : V = (P : Int)) (h1 : nb d4 d5 d6 d7 0 = u) (h2 : nb d0 d1 d2 d3 0 = v) :
    0 ≤ u ∧ u < 18446744073709551616 ∧ 0 ≤ v ∧ v < 18446744073709551616 ∧ v + 18446744073709551616 * u = (P : Int) := by
  replace h1 : ((d7 * 65536 + d6) * 65536 + d5) * 65536 + d4 = u := h1
  replace h2 : ((d3 * 65536 + d2) * 65536 + d1) * 65536 + d0 = v := h2
  rw [hp] at hv
  simp only [val] at hv
  generalize (P : Int) = p at *
  omega
theorem num_nat {u v : Int} {P : Nat} (h : 0 ≤ u ∧ u < 18446744073709551616 ∧ 0 ≤ v ∧ v < 18446744073709551616 ∧ v + 18446744073709551616 * u = (P : Int)) : v.toNat + 18446744073709551616 * u.toNat = P := by omega
section
variable {w : World} {hi lo hi' lo' : Nat}
set_option maxHeartbeats 4000000 in
set_option maxRecDepth 100000 in
theorem mul01 (h0 : hi < 18446744073709551616) (h1 : lo < 18446744073709551616) (h0' : hi' < 18446744073709551616) (h1' : lo' < 18446744073709551616) (hp : (lo + 18446744073709551616 * hi) * (lo' + 18446744073709551616 * hi') < 340282366920938463463374607431768211456) :
    Calls Tryd.prog 143 #[.agg #[.int .u64 hi, .int .u64 lo], .agg #[.int .u64 hi', .int .u64 lo']] w fun e w' => ∃ u v : Nat, e = .returned (.tuple #[.agg #[.int .u64 u, .int .u64 v], .bool true]) ∧ v < 18446744073709551616 ∧ u < 18446744073709551616 ∧ v + 18446744073709551616 * u = (lo + 18446744073709551616 * hi) * (lo' + 18446744073709551616 * hi') ∧ Below w.heap.size w w' := by
  have hu := Tryd.underlying68
  have VX := Aside0.mk (dk_val hi lo h0 h1)
  have VY := Aside0.mk (dk_val hi' lo' h0' h1')
  have WX := Aside0.mk (dk_wf hi lo)
  have WY := Aside0.mk (dk_wf hi' lo')
  have HP := Aside0.mk hp
  have D1 := fun W => digits01 (w := W) h0 h1
  have D2 := fun W => digits01 (w := W) h0' h1'
  obtain ⟨X, eX⟩ : ∃ X, arrV (dk hi lo 4) = X := ⟨_, rfl⟩
  obtain ⟨Y, eY⟩ : ∃ X, arrV (dk hi' lo' 4) = X := ⟨_, rfl⟩
  have zX : X.size = 8 := by rw [← eX, arrV_size, dk_len]
  have zY : Y.size = 8 := by rw [← eY, arrV_size, dk_len]
  have sX := st149 X zX (by rw [← eX]; exact arrV_cells _)
  have sY := st149 Y zY (by rw [← eY]; exact arrV_cells _)
  simp only [eX] at D1
  simp only [eY] at D2
  replace D1 := Aside0.mk D1
  replace D2 := Aside0.mk D2
  replace eX := Aside0.mk eX
  replace eY := Aside0.mk eY
  go_enter Tryd.func143, Tryd.ntmps143
  go_wp2_with fail
  have HB0 := Aside0.mk (below_alloc (below_alloc (below_alloc (Below.refl w.heap.size w) (.cells #[.int .u64 hi, .int .u64 lo] 68)) (.cells #[.int .u64 hi', .int .u64 lo'] 68)) (.cells #[.int .u64 0, .int .u64 0] 68))
  have hf0 : (((w.alloc (.cells #[.int .u64 hi, .int .u64 lo] 68)).alloc (.cells #[.int .u64 hi', .int .u64 lo'] 68)).alloc (.cells #[.int .u64 0, .int .u64 0] 68)).cell? ⟨w.heap.size, 0, none⟩ = some (.int .u64 hi) ∧ (((w.alloc (.cells #[.int .u64 hi, .int .u64 lo] 68)).alloc (.cells #[.int .u64 hi', .int .u64 lo'] 68)).alloc (.cells #[.int .u64 0, .int .u64 0] 68)).cell? ⟨w.heap.size, 1, none⟩ = some (.int .u64 lo) ∧
    (((w.alloc (.cells #[.int .u64 hi, .int .u64 lo] 68)).alloc (.cells #[.int .u64 hi', .int .u64 lo'] 68)).alloc (.cells #[.int .u64 0, .int .u64 0] 68)).cell? ⟨w.heap.size + 1, 0, none⟩ = some (.int .u64 hi') ∧ (((w.alloc (.cells #[.int .u64 hi, .int .u64 lo] 68)).alloc (.cells #[.int .u64 hi', .int .u64 lo'] 68)).alloc (.cells #[.int .u64 0, .int .u64 0] 68)).cell? ⟨w.heap.size + 1, 1, none⟩ = some (.int .u64 lo') := by
    refine ⟨by go_simp, by go_simp, by go_simp, by go_simp⟩
  have hlt : w.heap.size + 1 < (((w.alloc (.cells #[.int .u64 hi, .int .u64 lo] 68)).alloc (.cells #[.int .u64 hi', .int .u64 lo'] 68)).alloc (.cells #[.int .u64 0, .int .u64 0] 68)).heap.size := by simp <;> omega
  obtain ⟨W, hW⟩ : ∃ W, ((w.alloc (.cells #[.int .u64 hi, .int .u64 lo] 68)).alloc (.cells #[.int .u64 hi', .int .u64 lo'] 68)).alloc (.cells #[.int .u64 0, .int .u64 0] 68) = W := ⟨_, rfl⟩
  have hR : Blk (((w.alloc (.cells #[.int .u64 hi, .int .u64 lo] 68)).alloc (.cells #[.int .u64 hi', .int .u64 lo'] 68)).alloc (.cells #[.int .u64 0, .int .u64 0] 68)) (w.heap.size + 1 + 1) (.cells #[.int .u64 0, .int .u64 0] 68) := Blk.new _ _ _ (by simp)
  have hlt2 : w.heap.size + 1 + 1 < (((w.alloc (.cells #[.int .u64 hi, .int .u64 lo] 68)).alloc (.cells #[.int .u64 hi', .int .u64 lo'] 68)).alloc (.cells #[.int .u64 0, .int .u64 0] 68)).heap.size := by simp
  rw [hW] at HB0 hf0 hlt hR hlt2
  replace hR := Aside0.mk hR
  rw [hW]
  clear hW
  have HFA : Aside0 (∀ X, Below W.heap.size W X → X.cell? ⟨w.heap.size, 0, none⟩ = some (.int .u64 hi) ∧ X.cell? ⟨w.heap.size, 1, none⟩ = some (.int .u64 lo) ∧ X.cell? ⟨w.heap.size + 1, 0, none⟩ = some (.int .u64 hi') ∧ X.cell? ⟨w.heap.size + 1, 1, none⟩ = some (.int .u64 lo')) := Aside0.mk fun X hX => by
    have := hbP hX
    refine ⟨?_, ?_, ?_, ?_⟩
    · rw [this.2.2 _ _ (by omega)]; exact hf0.1
    · rw [this.2.2 _ _ (by omega)]; exact hf0.2.1
    · rw [this.2.2 _ _ (by omega)]; exact hf0.2.2.1
    · rw [this.2.2 _ _ (by omega)]; exact hf0.2.2.2
  have hf1 := HFA.out _ (below_drew1 (Below.refl W.heap.size W))
  go_cut [6, 7] from 15 to 18 (fun v5 v6 wx => ∃ b5 b6, v5 = .pointer (some ⟨b5, 0, none⟩) ∧ v6 = .pointer (some ⟨b6, 0, none⟩) ∧ Blk wx b5 (.cells X 149) ∧ Blk wx b6 (.cells Y 149) ∧ Below W.heap.size W wx)
  case first =>
    have hnn : ∀ n : Nat, n < n + 1 + 1 := fun n => by omega
    have hA1 := Blk.new
    have hA2 := Blk.old
    have hA3 := Blk.drew
    have hA4 := Blk.row
    have hA7 := Blk.here
    have hA5 : ∀ n : Nat, n + 1 ≠ n := fun n => by omega
    have hA6 : ∀ n : Nat, n ≠ n + 1 := fun n => by omega
    have hbd := Aside0.mk (below_drew1 (Below.refl W.heap.size W))
    go_region_held3 (fun W => W.cell? ⟨w.heap.size, 0, none⟩ = some (.int .u64 hi) ∧ W.cell? ⟨w.heap.size, 1, none⟩ = some (.int .u64 lo) ∧ W.cell? ⟨w.heap.size + 1, 0, none⟩ = some (.int .u64 hi') ∧ W.cell? ⟨w.heap.size + 1, 1, none⟩ = some (.int .u64 lo')) (first | with_reducible exact hf1 | exact HFA.out _ (by with_reducible repeat (first | exact Below.refl _ _ | exact Hb6.out | exact Hb5.out | exact hbd.out | refine below_alloc ?_ _ | refine below_drew1 ?_ | refine below_setRow ?_ (by first | with_reducible exact Nat.le_refl _ | with_reducible exact Nat.le_succ _ | with_reducible exact Hb5.out.size | with_reducible exact Hb6.out.size | with_reducible exact Nat.le_succ_of_le Hb5.out.size | with_reducible exact Nat.le_succ_of_le Hb6.out.size | (have h5 := Hb5.out.size; simp; omega)) _))) (first
      | (go_at_call_of 142 hi; refine (D1.out _).mono ?_; rintro e w5 ⟨rfl, hb5⟩; have hq5 := hbP hb5; (first | have z51 := hh (show W.heap.size < w5.heap.size from hq5.2.1 _ (lt1 W.drew _)) | have z51 := hh (show W.heap.size < w5.heap.size from hq5.2.1 _ (lt2 W.drew _ _)) | skip); (first | have z52 := hh (show W.heap.size + 1 < w5.heap.size from hq5.2.1 _ (lt3 W.drew _ _)) | skip); have HK5 := Aside0.mk hb5; have Hb5 := Aside0.mk (below_step (show Below W.heap.size W _ from by with_reducible repeat (first | exact Below.refl _ _ | exact hbd.out | refine below_alloc ?_ _ | refine below_drew1 ?_)) hb5); clear hb5)
      | (go_at_call_of 142 hi'; refine (D2.out _).mono ?_; rintro e w6 ⟨rfl, hb6⟩; have hq6 := hbP hb6; (first | have z61 := hh (show w5.heap.size < w6.heap.size from hq6.2.1 _ (lt1 w5 _)) | have z61 := hh (show w5.heap.size < w6.heap.size from hq6.2.1 _ (lt2 w5 _ _)) | skip); (first | have z62 := hh (show w5.heap.size + 1 < w6.heap.size from hq6.2.1 _ (lt3 w5 _ _)) | skip); have zz := hb6.size; (first | have z63 := hh (show W.heap.size < w6.heap.size from Nat.lt_of_lt_of_le z51.1 zz) | have z63 := hh (show W.heap.size < w6.heap.size from Nat.lt_of_lt_of_le z51.1 (Nat.le_trans (Nat.le_of_lt (lt1 w5 _)) zz)) | skip); (first | have z64 := hh (show W.heap.size + 1 < w6.heap.size from Nat.lt_of_lt_of_le z52.1 zz) | skip); clear zz; (first | have hq56 := hbP (below_step HK5.out hb6) | have hq56 := hbP (below_step (below_alloc HK5.out _) hb6) | have hq56 := hbP (below_step (below_alloc (below_alloc HK5.out _) _) hb6)); have Hb6 := Aside0.mk (below_step (show Below W.heap.size W _ from by with_reducible repeat (first | exact Below.refl _ _ | exact Hb5.out | refine below_alloc ?_ _ | refine below_drew1 ?_)) hb6); clear hb6))
    all_goals (go_wp2_with fail; go_meet)
    all_goals exact ⟨_, _, rfl, rfl, by go_simp, by go_simp, (by with_reducible repeat (first | exact Below.refl _ _ | exact Hb6.out | exact Hb5.out | refine below_alloc ?_ _ | refine below_setRow ?_ (by first | with_reducible exact Nat.le_refl _ | with_reducible exact Nat.le_succ _ | with_reducible exact Hb5.out.size | with_reducible exact Hb6.out.size | with_reducible exact Nat.le_succ_of_le Hb5.out.size | with_reducible exact Nat.le_succ_of_le Hb6.out.size) _))⟩
  case rest =>
    obtain ⟨b5, b6, rfl, rfl, hX, hY, hb⟩ := hcut
    rw [← eX.out] at hX
    rw [← eY.out] at hY
    have lX := Aside0.mk (dk_len hi lo 4)
    have lY := Aside0.mk (dk_len hi' lo' 4)
    have HX := Aside0.mk hX
    have HY := Aside0.mk hY
    have HB := Aside0.mk (below_step HB0.out hb)
    have HR : Aside0 (Blk wc (w.heap.size + 1 + 1) (.cells #[.int .u64 0, .int .u64 0] 68)) := Aside0.mk (by rw [(hbP hb).1 _ _ hlt2]; exact hR.out)
    clear hX hY hb sX sY zX zY hf1 hf0 hlt hlt2 hR HFA D1 D2 HB0 h0 h1 h0' h1' hp
    generalize dk hi lo 4 = x at *
    generalize dk hi' lo' 4 = y at *
    go_wp2_with fail
    have HO : Blk (wc.alloc (.cells (arrV (List.replicate 16 0)) 173)) wc.heap.size (.cells (arrV (List.replicate 16 0)) 173) := Blk.new _ _ _ rfl
    have hne : b5 < wc.heap.size ∧ b6 < wc.heap.size ∧ w.heap.size + 1 + 1 < wc.heap.size := ⟨blk_lt HX.out, blk_lt HY.out, blk_lt HR.out⟩
    rw [zeros16] at HO
    go_loopg [9] (8 : Nat) (fun kq v w' => ∃ (i : Nat) (o : List Int), kq + i = 8 ∧ v = .int .i64 (i : Int) ∧ Aside0 (o.length = 16 ∧ Wf 65536 o ∧ (∀ j, i + 8 ≤ j → lg o j = 0) ∧ val 65536 o = val 65536 (x.take i) * val 65536 y) ∧
      Aside0 (Blk w' b5 (.cells (arrV x) 149) ∧ Blk w' b6 (.cells (arrV y) 149) ∧ Blk w' (w.heap.size + 1 + 1) (.cells #[.int .u64 0, .int .u64 0] 68) ∧ Blk w' wc.heap.size (.cells (arrV o) 173) ∧ Below w.heap.size w w'))
    case atStart =>
      refine ⟨0, List.replicate 16 0, rfl, rfl, ⟨by simp, Wf.replicate (by decide) 16, fun j hj => lg_replicate _ _, by simp [val_replicate, val]⟩, ⟨(Blk.old _ _ _ _ hne.1).mpr HX.out, (Blk.old _ _ _ _ hne.2.1).mpr HY.out, (Blk.old _ _ _ _ hne.2.2).mpr HR.out, ?_, below_alloc HB.out _⟩⟩
      rw [zeros16]; exact HO
    case round =>
      clear HO
      obtain ⟨i, o, hki, rfl, HO, HM⟩ := hrel
      cases gk with
      | zero =>
        obtain rfl : i = 8 := by omega
        have hx8 : x.take 8 = x := List.take_of_length_le (by rw [lX.out]; exact Nat.le_refl _)
        have hv : val 65536 o = (((lo + 18446744073709551616 * hi) * (lo' + 18446744073709551616 * hi') : Nat) : Int) := by
          rw [HO.out.2.2.2, hx8, VX.out, VY.out]; exact (cast_prod 18446744073709551616 lo hi lo' hi').symm
        have hz := top_zero HO.out.1 HO.out.2.1 (by rw [hv]; exact Int.ofNat_lt.mpr HP.out)
        have HZ := Aside0.mk hz
        have HV := Aside0.mk hv
        clear hz hv hx8
        have h8 : ((8 : Nat) : Int) = 8 := rfl
        rw [h8]
        clear h8
        go_wp2_with fail
        have hbl := And.intro (blk_lt HM.out.2.2.1) (blk_lt HM.out.2.2.2.1)
        have HW := Aside0.mk (below_size HM.out.2.2.2.2)
        have HN : Blk (wr.alloc (.cells (arrV (lowL o 0)) 149)) wr.heap.size (.cells (arrV (lowL o 0)) 149) := Blk.new _ _ _ rfl
        rw [lowL_zero] at HN
        generalize hg : wr.heap.size = g at *
        go_loopg [14] (8 : Nat) (fun kq v w' => ∃ (i : Nat), kq + i = 8 ∧ v = .int .i64 (i : Int) ∧
          Aside0 (Blk w' (w.heap.size + 1 + 1) (.cells #[.int .u64 0, .int .u64 0] 68) ∧ Blk w' wc.heap.size (.cells (arrV o) 173) ∧ Blk w' g (.cells (arrV (lowL o i)) 149) ∧ Below w.heap.size w w'))
        case atStart =>
          refine ⟨0, rfl, rfl, ⟨(Blk.old _ _ _ _ (by omega)).mpr HM.out.2.2.1, (Blk.old _ _ _ _ (by omega)).mpr HM.out.2.2.2.1, ?_, below_alloc HM.out.2.2.2.2 _⟩⟩
          rw [lowL_zero]; exact HN
        case round =>
          clear HM HN hg
          obtain ⟨i, hki, rfl, HM⟩ := hrel
          cases gk with
          | zero =>
            obtain rfl : i = 8 := by omega
            have h8 : ((8 : Nat) : Int) = 8 := rfl
            rw [h8]
            clear h8
            obtain ⟨d0, d1, d2, d3, d4, d5, d6, d7, hd⟩ := eight (lowL_len HO.out.1 (i := 8) (Nat.le_refl _))
            have hw : Wf 65536 (lowL o 8) := by unfold lowL; exact (HO.out.2.1.take 8).append (Wf.replicate (by decide) _)
            have hvl : val 65536 (lowL o 8) = val 65536 o := by
              unfold lowL
              rw [show 8 - 8 = 0 from rfl, List.replicate_zero, List.append_nil, val_take_zeros 65536 o 8 HZ.out]
            rw [hd] at hw hvl
            have HG := HM.out.2.2.1
            rw [hd] at HG
            have z4 := Aside0.mk (show (Tryd.prog.info? 149).map (·.size) = some (arrV [d0, d1, d2, d3, d4, d5, d6, d7]).size by rw [arr149, arrV_size]; rfl)
            replace HG := Aside0.mk HG
            have q0 := hw d0 (by simp)
            have q1 := hw d1 (by simp)
            have q2 := hw d2 (by simp)
            have q3 := hw d3 (by simp)
            have q4 := hw d4 (by simp)
            have q5 := hw d5 (by simp)
            have q6 := hw d6 (by simp)
            have q7 := hw d7 (by simp)
            have HQ := Aside0.mk (And.intro q0 (And.intro q1 (And.intro q2 (And.intro q3 (And.intro q4 (And.intro q5 (And.intro q6 q7)))))))
            have HVL := Aside0.mk hvl
            have hu2 := Tryd.underlying149
            clear q0 q1 q2 q3 q4 q5 q6 q7 hw hvl hd
            go_wp2_with (first | (refine wpList_load_row rfl 149 (.tmp 13) rfl g (by rfl) 149 (arrV [d0, d1, d2, d3, d4, d5, d6, d7]) (0, 0) _ HG.out hu2 rfl z4.out ?_))
            rw [show arrV [d0, d1, d2, d3, d4, d5, d6, d7] = #[.int .u64 d0, .int .u64 d1, .int .u64 d2, .int .u64 d3, .int .u64 d4, .int .u64 d5, .int .u64 d6, .int .u64 d7] from rfl]
            refine (number01 HQ.out.1 HQ.out.2.1 HQ.out.2.2.1 HQ.out.2.2.2.1 HQ.out.2.2.2.2.1 HQ.out.2.2.2.2.2.1 HQ.out.2.2.2.2.2.2.1 HQ.out.2.2.2.2.2.2.2).mono ?_
            rintro e w9 ⟨rfl, hb9⟩
            have HR9 := blk_below HM.out.1 hb9
            have c0 : w9.cell? ⟨w.heap.size + 1 + 1, 0, none⟩ = some (.int .u64 0) := (blk_cell HR9 0).trans rfl
            have c1 : w9.cell? ⟨w.heap.size + 1 + 1, 1, none⟩ = some (.int .u64 0) := (blk_cell HR9 1).trans rfl
            have f0 : w9.frozen? ⟨w.heap.size + 1 + 1, 0, none⟩ = false := blk_frozen HR9 _
            have f1 : w9.frozen? ⟨w.heap.size + 1 + 1, 1, none⟩ = false := blk_frozen HR9 _
            have HB9 := Aside0.mk (below_step HM.out.2.2.2 hb9)
            obtain ⟨u, hu9⟩ : ∃ u, nb d4 d5 d6 d7 0 = u := ⟨_, rfl⟩
            obtain ⟨v, hv9⟩ : ∃ v, nb d0 d1 d2 d3 0 = v := ⟨_, rfl⟩
            rw [hu9, hv9]
            have hnum := num8 HQ.out HVL.out HV.out hu9 hv9
            have HN9 := Aside0.mk hnum
            clear HR9 hb9 hu9 hv9 hnum
            go_wp2_with fail
            refine bodyPost_ret (v := .tuple #[.agg #[.int .u64 u, .int .u64 v], .bool true]) (by simp [results, Tryd.results143, go_sem, hu, c0, c1, f0, f1]) rfl ⟨u.toNat, v.toNat, ?_, ?_, ?_, ?_, ?_⟩
            · rw [Int.toNat_of_nonneg HN9.out.1, Int.toNat_of_nonneg HN9.out.2.2.1]
            · have := HN9.out; omega
            · have := HN9.out; omega
            · exact num_nat HN9.out
            · exact below_set (below_set HB9.out (by omega)) (by omega)
          | succ q =>
            have hi8 : (i : Int) < 8 := by omega
            have hi0 : (0 : Int) ≤ i := by omega
            have hdi : decide ((i : Int) < 8) = true := decide_eq_true hi8
            have c8 : wr.cell? ⟨wc.heap.size, 8 + i, none⟩ = some (.int .u64 0) := by rw [cell_of_row _ _ _ _ _ _ HM.out.2.1, arrV_at (by rw [HO.out.1]; omega), HZ.out _ (by omega)]
            have ci : wr.cell? ⟨wc.heap.size, i, none⟩ = some (.int .u64 (lg o i)) := by rw [cell_of_row _ _ _ _ _ _ HM.out.2.1, arrV_at (by rw [HO.out.1]; omega)]
            have cl : wr.cell? ⟨g, i, none⟩ = some (.int .u64 (lg (lowL o i) i)) := by rw [cell_of_row _ _ _ _ _ _ HM.out.2.2.1, arrV_at (by rw [lowL_len HO.out.1 (by omega)]; omega)]
            have fl : wr.frozen? ⟨g, i, none⟩ = false := blk_frozen HM.out.2.2.1 _
            have u5 : (8 + (i : Int)).toNat = 8 + i := by omega
            have HL := Aside0.mk (lowL_set HO.out.1 (i := i) (by omega))
            go_wp2_with fail
            go_roundg q
            case measure => omega
            case rel =>
              refine ⟨i + 1, by omega, by go_num, ⟨blk_far HM.out.1 (by simp; omega) _, blk_far HM.out.2.1 (by simp; omega) _, ?_, ?_⟩⟩
              · rw [← HL.out, ← arrV_set]; exact blk_set HM.out.2.2.1 _ _
              · exact below_set HM.out.2.2.2 HW.out
      | succ q =>
        have hi8 : i < 8 := by omega
        have hi8' : (i : Int) < 8 := by omega
        have hi0 : (0 : Int) ≤ i := by omega
        have hdi : decide ((i : Int) < 8) = true := decide_eq_true hi8'
        have hxi := Aside0.mk (WX.out.at (by decide) i)
        go_wp2_with fail
        go_loopg [10, 11] (8 : Nat) (fun kq cv kv w' => ∃ (k : Nat) (c : Int) (o : List Int), kq + k = 8 ∧ cv = .int .u64 c ∧ kv = .int .i64 (k : Int) ∧ Aside0 (MI o (val 65536 (x.take i) * val 65536 y) (lg x i) (val 65536 (y.take k)) i k c) ∧
          Aside0 (Blk w' b5 (.cells (arrV x) 149) ∧ Blk w' b6 (.cells (arrV y) 149) ∧ Blk w' (w.heap.size + 1 + 1) (.cells #[.int .u64 0, .int .u64 0] 68) ∧ Blk w' wc.heap.size (.cells (arrV o) 173) ∧ Below w.heap.size w w'))
        case atStart => exact ⟨0, 0, o, rfl, rfl, rfl, ⟨MI.start HO.out.1 HO.out.2.1 HO.out.2.2.1 HO.out.2.2.2⟩, ⟨HM.out⟩⟩
        case round =>
          clear HO HM
          obtain ⟨k, c, o, hkk, rfl, rfl, HO, HM⟩ := hrel
          cases gk with
          | zero =>
            obtain rfl : k = 8 := by omega
            have h8 : ((8 : Nat) : Int) = 8 := rfl
            rw [h8]
            clear h8
            have ci : wr.cell? ⟨wc.heap.size, i + 8, none⟩ = some (.int .u64 (lg o (i + 8))) := by rw [cell_of_row _ _ _ _ _ _ HM.out.2.2.2.1, arrV_at (by rw [HO.out.1]; omega)]
            have fi : wr.frozen? ⟨wc.heap.size, i + 8, none⟩ = false := blk_frozen HM.out.2.2.2.1 _
            have hix : ((i : Int) + 8).toNat = i + 8 := by omega
            have HA := Aside0.mk (arrV_set o (i + 8) c)
            go_wp2_with fail
            go_roundg q
            case measure => omega
            case rel =>
              have hy8 : y.take 8 = y := List.take_of_length_le (by rw [lY.out]; exact Nat.le_refl _)
              have HO' := HO.out
              rw [hy8] at HO'
              have hL := MI.last HO' hi8
              refine ⟨i + 1, o.set (i + 8) c, by omega, by go_num, ⟨hL⟩, ⟨blk_far HM.out.1 (by simp; omega) _, blk_far HM.out.2.1 (by simp; omega) _, blk_far HM.out.2.2.1 (by simp; omega) _, ?_, ?_⟩⟩
              · rw [← arrV_set]; exact blk_set HM.out.2.2.2.1 _ _
              · exact below_set HM.out.2.2.2.2 (Nat.le_trans HB.out.size (Nat.le_refl _))
          | succ q2 =>
            have hk8 : (k : Int) < 8 := by omega
            have hk0 : (0 : Int) ≤ k := by omega
            have hdk : decide ((k : Int) < 8) = true := decide_eq_true hk8
            obtain ⟨hN1, hN2, hN3⟩ := HO.out.nums (k := k) hxi.out WY.out
            have co : wr.cell? ⟨wc.heap.size, i + k, none⟩ = some (.int .u64 (lg o (i + k))) := by rw [cell_of_row _ _ _ _ _ _ HM.out.2.2.2.1, arrV_at (by rw [HO.out.1]; omega)]
            have fo : wr.frozen? ⟨wc.heap.size, i + k, none⟩ = false := blk_frozen HM.out.2.2.2.1 _
            have cx : wr.cell? ⟨b5, i, none⟩ = some (.int .u64 (lg x i)) := Blk.cell HM.out.1 (by rw [lX.out]; exact hi8)
            have cy : wr.cell? ⟨b6, k, none⟩ = some (.int .u64 (lg y k)) := Blk.cell HM.out.2.1 (by rw [lY.out]; omega)
            have hc := HO.out.2.2.2.1
            obtain ⟨s, hs⟩ : ∃ s, lg o (i + k) + lg x i * lg y k + c = s := ⟨_, rfl⟩
            have HS := Aside0.mk (HO.out.step hi8 (by omega) hxi.out WY.out hs)
            obtain ⟨p, hpp⟩ : ∃ p, lg x i * lg y k = p := ⟨_, rfl⟩
            rw [hpp] at hs hN3
            have u1 : IntKind.u64.wrap (lg x i * lg y k) = p := by rw [hpp]; exact IntWalk.u64_in _ (by omega)
            have u2 : IntKind.u64.wrap (lg o (i + k) + p) = lg o (i + k) + p := IntWalk.u64_in _ (by omega)
            have u3 : IntKind.u64.wrap (lg o (i + k) + p + c) = s := by rw [hs]; exact IntWalk.u64_in _ (by omega)
            have u4 : IntKind.i64.wrap ((i : Int) + k) = (i : Int) + k := IntWalk.i64_in _ (by omega)
            have u5 : ((i : Int) + k).toNat = i + k := by omega
            have u6 : (0 : Int) ≤ (i : Int) + k := by omega
            have u7 : (i : Int) + k < 16 := by omega
            have hs0 : 0 ≤ s ∧ s ≤ 18446744073709551615 := by omega
            have HA := Aside0.mk (arrV_set o (i + k) (s % 65536))
            clear hpp hs hN1 hN2 hN3 hc
            generalize lg x i = xi at *
            generalize lg y k = yk at *
            generalize lg o (i + k) = ok at *
            go_wp2_with fail
            go_quiet (fail)
            go_wp2_with fail
            go_roundg q2
            case measure => omega
            case rel =>
              refine ⟨k + 1, s / 65536, o.set (i + k) (s % 65536), by omega, rfl, by go_num, HS, ⟨blk_far (blk_drewN HM.out.1 _) (by simp; omega) _, blk_far (blk_drewN HM.out.2.1 _) (by simp; omega) _, blk_far (blk_drewN HM.out.2.2.1 _) (by simp; omega) _, ?_, ?_⟩⟩
              · rw [← arrV_set]; exact blk_set (blk_drewN HM.out.2.2.2.1 _) _ _
              · exact below_set (pw_below_drewN HM.out.2.2.2.2 _) (Nat.le_trans HB.out.size (Nat.le_refl _))
end
end Go.Proofs.YtakickbnjbedfaaDoor.PB
