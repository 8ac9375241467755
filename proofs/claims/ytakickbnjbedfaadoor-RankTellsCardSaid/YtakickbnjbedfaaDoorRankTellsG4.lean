/- Part of the proof of Card. -/
import Derived.RegionTactic
import Derived.ChangeAlike
import Derived.BigRegion
import Derived.BigQuiet
import Derived.Deep.QuietTactic
import Derived.Test.YtakickbnjbedfaaDoorRankTellsG2
namespace Go.Proofs.YtakickbnjbedfaaDoor.PB
open Go.Proofs.YtakickbnjbedfaaDoor.PA Go.Proofs.YtakickbnjbedfaaDoor.Num
open Go.RowKit Go.Proofs.YtakickbnjbedfaaDoorW.PrintWords Go.Proofs.YtakickbnjbedfaaDoorW.PrintLast Go.Proofs.YtakickbnjbedfaaDoorW.PrintMore
set_option linter.unusedVariables false
set_option linter.unusedSimpArgs false
def Blk (w : World) (b : Nat) (o : Obj) : Prop := w.heap[b]? = some o
theorem hbP {w w1 : World} (hb : Below w.heap.size w w1) : (∀ b o, b < w.heap.size → Blk w1 b o = Blk w b o) ∧ (∀ b, b < w.heap.size → b < w1.heap.size) ∧ (∀ b o, b < w.heap.size → w1.cell? ⟨b, o, none⟩ = w.cell? ⟨b, o, none⟩) :=
  ⟨fun b o h => by unfold Blk; rw [hb.block b h], fun b h => Nat.lt_of_lt_of_le h hb.size, fun b o h => hb.cell (p := ⟨b, o, none⟩) h⟩
theorem Blk.new (w : World) (o : Obj) (k : Nat) (h : k = w.heap.size) : Blk (w.alloc o) k o := by subst h; exact heap_alloc_last w o
theorem Blk.old (w : World) (o o' : Obj) (k : Nat) (h : k < w.heap.size) : Blk (w.alloc o) k o' = Blk w k o' := by unfold Blk; rw [Below.heap_alloc w o k h]
theorem Blk.drew (w : World) (k : Nat) (o : Obj) : Blk w.drew k o = Blk w k o := rfl
theorem Blk.row (w : World) (g k : Nat) (X : Array Value) (o : Obj) (h : k ≠ g) : Blk (w.setRow g X) k o = Blk w k o := by unfold Blk; rw [setRow_other w g k X h]
theorem Blk.here (w : World) (g : Nat) (X : Array Value) (h : Blk w g (.cells #[.int .u64 0, .int .u64 0, .int .u64 0, .int .u64 0, .int .u64 0, .int .u64 0, .int .u64 0, .int .u64 0] 149)) : Blk (w.setRow g X) g (.cells X 149) := setRow_heap _ _ _ _ _ _ h
theorem lt1 (w : World) (o : Obj) : w.heap.size < (w.alloc o).heap.size := by simp
theorem lt2 (w : World) (o o' : Obj) : w.heap.size < ((w.alloc o).alloc o').heap.size := by simp; omega
theorem lt3 (w : World) (o o' : Obj) : w.heap.size + 1 < ((w.alloc o).alloc o').heap.size := by simp
theorem hh {a b : Nat} (h : a < b) : a < b ∧ a ≤ b ∧ a ≠ b ∧ b ≠ a ∧ a ≠ b + 1 ∧ b + 1 ≠ a ∧ a < b + 1 := by omega
abbrev Z8 : Array Value := #[.int .u64 0, .int .u64 0, .int .u64 0, .int .u64 0, .int .u64 0, .int .u64 0, .int .u64 0, .int .u64 0]
theorem st149 (X : Array Value) (hX : X.size = 8) (h1 : X.all (·.oneCell') = true) (w : World) (b : Nat) (h : Blk w b (.cells #[.int .u64 0, .int .u64 0, .int .u64 0, .int .u64 0, .int .u64 0, .int .u64 0, .int .u64 0, .int .u64 0] 149)) : (storeCells ⟨b, 0, none⟩ X.toList).run Tryd.prog w = .ok () (w.setRow b X) := by
  have h2 := run_storeVar_row (P := Tryd.prog) w b 149 149 Z8 X h (by rw [arr149, hX]) (by rw [hX]; rfl) h1
  cases hq : Tryd.prog.info? 149 with
  | none => have := arr149; simp [hq] at this
  | some i =>
    have hs : X.size = i.size := by have := arr149; simp [hq] at this; omega
    simpa [storeVar, sizeOf, typeInfo, hq, Value.cells, hs] using h2
theorem Blk.cell {w : World} {b k : Nat} {l : List Int} (h : Blk w b (.cells (arrV l) 149)) (hk : k < l.length) : w.cell? ⟨b, k, none⟩ = some (.int .u64 (lg l k)) := by
  rw [cell_of_row w b k _ _ _ h, arrV_at hk]
theorem retI {a b : Int} (h : a = b) : Ending.returned (.int .i64 a) = .returned (.int .i64 b) := by rw [h]
def cmpI (a b : Int) : Int := if a < b then -1 else if b < a then 1 else 0
theorem val_lt {x y : List Int} (hx : Wf 65536 x) (hy : Wf 65536 y) (hl : x.length = y.length) {k : Nat} (hk : k < x.length) (he : ∀ i, k + 1 ≤ i → i < x.length → lg x i = lg y i) (h : lg x k < lg y k) : val 65536 x < val 65536 y := by
  have hd : x.drop (k + 1) = y.drop (k + 1) := by
    apply List.ext_getElem (by simp [hl])
    intro i h1 h2
    have := he (k + 1 + i) (by omega) (by simp at h1; omega)
    unfold lg at this
    simp only [List.getElem_drop]
    rw [List.getD_eq_getElem?_getD, List.getD_eq_getElem?_getD, List.getElem?_eq_getElem (by simp at h1; omega), List.getElem?_eq_getElem (by simp at h2; omega)] at this
    exact this
  rw [val_take_drop 65536 x (n := k) (by omega), val_take_drop 65536 y (n := k) (by omega), val_drop_succ 65536 x, val_drop_succ 65536 y, hd]
  have bx := val_bound (b := 65536) (by decide) (hx.take k)
  have by_ := val_bound (b := 65536) (by decide) (hy.take k)
  rw [List.length_take, Nat.min_eq_left (by omega)] at bx by_
  have hp := pow_pos' (b := 65536) (by decide) k
  generalize (65536 : Int) ^ k = p at *
  generalize val 65536 (y.drop (k + 1)) = D at *
  generalize val 65536 (x.take k) = u at *
  generalize val 65536 (y.take k) = v at *
  have : p * (lg x k + 65536 * D) + p ≤ p * (lg y k + 65536 * D) := by
    have : p * (lg x k + 65536 * D + 1) ≤ p * (lg y k + 65536 * D) := Int.mul_le_mul_of_nonneg_left (by omega) (by omega)
    rw [Int.mul_add, Int.mul_one] at this
    exact this
  omega
theorem val_eq {x y : List Int} (hl : x.length = y.length) (he : ∀ i, i < x.length → lg x i = lg y i) : x = y := by
  apply List.ext_getElem hl
  intro i h1 h2
  have := he i h1
  unfold lg at this
  rw [List.getD_eq_getElem?_getD, List.getD_eq_getElem?_getD, List.getElem?_eq_getElem h1, List.getElem?_eq_getElem h2] at this
  exact this
section
variable {w : World} {hi lo hi' lo' : Nat}
set_option maxHeartbeats 4000000 in
set_option maxRecDepth 100000 in
theorem cmp01 (h0 : hi < 18446744073709551616) (h1 : lo < 18446744073709551616) (h0' : hi' < 18446744073709551616) (h1' : lo' < 18446744073709551616) :
    Calls Tryd.prog 91 #[.agg #[.int .u64 hi, .int .u64 lo], .agg #[.int .u64 hi', .int .u64 lo']] w fun e w' => e = .returned (.int .i64 (cmpI ((lo : Int) + 18446744073709551616 * hi) ((lo' : Int) + 18446744073709551616 * hi'))) ∧ Below w.heap.size w w' := by
  have hu := Tryd.underlying68
  have VX := Aside0.mk (dk_val hi lo h0 h1)
  have VY := Aside0.mk (dk_val hi' lo' h0' h1')
  have WX := Aside0.mk (dk_wf hi lo)
  have WY := Aside0.mk (dk_wf hi' lo')
  have D1 := fun W => digits01 (w := W) h0 h1
  have D2 := fun W => digits01 (w := W) h0' h1'
  obtain ⟨X, eX⟩ : ∃ X, arrV (dk hi lo 4) = X := ⟨_, rfl⟩
  obtain ⟨Y, eY⟩ : ∃ X, arrV (dk hi' lo' 4) = X := ⟨_, rfl⟩
  have zX : X.size = 8 := by rw [← eX, arrV_size, dk_len]
  have zY : Y.size = 8 := by rw [← eY, arrV_size, dk_len]
  have sX := st149 X zX (by rw [← eX]; exact arrV_cells _)
  have sY := st149 Y zY (by rw [← eY]; exact arrV_cells _)
  simp only [eX] at D1
  simp only [eY] at D2
  replace D1 := Aside0.mk D1
  replace D2 := Aside0.mk D2
  replace eX := Aside0.mk eX
  replace eY := Aside0.mk eY
  go_enter Tryd.func91, Tryd.ntmps91
  go_wp2_with fail
  have HB0 := Aside0.mk (below_alloc (below_alloc (Below.refl w.heap.size w) (.cells #[.int .u64 hi, .int .u64 lo] 68)) (.cells #[.int .u64 hi', .int .u64 lo'] 68))
  have hf0 : ((w.alloc (.cells #[.int .u64 hi, .int .u64 lo] 68)).alloc (.cells #[.int .u64 hi', .int .u64 lo'] 68)).cell? ⟨w.heap.size, 0, none⟩ = some (.int .u64 hi) ∧ ((w.alloc (.cells #[.int .u64 hi, .int .u64 lo] 68)).alloc (.cells #[.int .u64 hi', .int .u64 lo'] 68)).cell? ⟨w.heap.size, 1, none⟩ = some (.int .u64 lo) ∧
    ((w.alloc (.cells #[.int .u64 hi, .int .u64 lo] 68)).alloc (.cells #[.int .u64 hi', .int .u64 lo'] 68)).cell? ⟨w.heap.size + 1, 0, none⟩ = some (.int .u64 hi') ∧ ((w.alloc (.cells #[.int .u64 hi, .int .u64 lo] 68)).alloc (.cells #[.int .u64 hi', .int .u64 lo'] 68)).cell? ⟨w.heap.size + 1, 1, none⟩ = some (.int .u64 lo') := by
    refine ⟨by simp, by simp, by simp, by simp⟩
  have hlt : w.heap.size + 1 < ((w.alloc (.cells #[.int .u64 hi, .int .u64 lo] 68)).alloc (.cells #[.int .u64 hi', .int .u64 lo'] 68)).heap.size := by simp
  obtain ⟨W, hW⟩ : ∃ W, (w.alloc (.cells #[.int .u64 hi, .int .u64 lo] 68)).alloc (.cells #[.int .u64 hi', .int .u64 lo'] 68) = W := ⟨_, rfl⟩
  rw [hW] at HB0 hf0 hlt
  rw [hW]
  clear hW
  have HFA : Aside0 (∀ X, Below W.heap.size W X → X.cell? ⟨w.heap.size, 0, none⟩ = some (.int .u64 hi) ∧ X.cell? ⟨w.heap.size, 1, none⟩ = some (.int .u64 lo) ∧ X.cell? ⟨w.heap.size + 1, 0, none⟩ = some (.int .u64 hi') ∧ X.cell? ⟨w.heap.size + 1, 1, none⟩ = some (.int .u64 lo')) := Aside0.mk fun X hX => by
    have := hbP hX
    refine ⟨?_, ?_, ?_, ?_⟩
    · rw [this.2.2 _ _ (by omega)]; exact hf0.1
    · rw [this.2.2 _ _ (by omega)]; exact hf0.2.1
    · rw [this.2.2 _ _ (by omega)]; exact hf0.2.2.1
    · rw [this.2.2 _ _ (by omega)]; exact hf0.2.2.2
  have hf1 := HFA.out _ (below_drew1 (Below.refl W.heap.size W))
  go_cut [5, 6] from 8 to 11 (fun v5 v6 wx => ∃ b5 b6, v5 = .pointer (some ⟨b5, 0, none⟩) ∧ v6 = .pointer (some ⟨b6, 0, none⟩) ∧ Blk wx b5 (.cells X 149) ∧ Blk wx b6 (.cells Y 149) ∧ Below W.heap.size W wx)
  case first =>
    have hnn : ∀ n : Nat, n < n + 1 + 1 := fun n => by omega
    have hA1 := Blk.new
    have hA2 := Blk.old
    have hA3 := Blk.drew
    have hA4 := Blk.row
    have hA7 := Blk.here
    have hA5 : ∀ n : Nat, n + 1 ≠ n := fun n => by omega
    have hA6 : ∀ n : Nat, n ≠ n + 1 := fun n => by omega
    have hbd := Aside0.mk (below_drew1 (Below.refl W.heap.size W))
    go_region_held3 (fun W => W.cell? ⟨w.heap.size, 0, none⟩ = some (.int .u64 hi) ∧ W.cell? ⟨w.heap.size, 1, none⟩ = some (.int .u64 lo) ∧ W.cell? ⟨w.heap.size + 1, 0, none⟩ = some (.int .u64 hi') ∧ W.cell? ⟨w.heap.size + 1, 1, none⟩ = some (.int .u64 lo')) (first | with_reducible exact hf1 | exact HFA.out _ (by with_reducible repeat (first | exact Below.refl _ _ | exact Hb6.out | exact Hb5.out | exact hbd.out | refine below_alloc ?_ _ | refine below_drew1 ?_ | refine below_setRow ?_ (by first | with_reducible exact Nat.le_refl _ | with_reducible exact Nat.le_succ _ | with_reducible exact Hb5.out.size | with_reducible exact Hb6.out.size | with_reducible exact Nat.le_succ_of_le Hb5.out.size | with_reducible exact Nat.le_succ_of_le Hb6.out.size | (have h5 := Hb5.out.size; simp; omega)) _))) (first
      | (go_at_call_of 142 hi; refine (D1.out _).mono ?_; rintro e w5 ⟨rfl, hb5⟩; have hq5 := hbP hb5; (first | have z51 := hh (show W.heap.size < w5.heap.size from hq5.2.1 _ (lt1 W.drew _)) | have z51 := hh (show W.heap.size < w5.heap.size from hq5.2.1 _ (lt2 W.drew _ _)) | skip); (first | have z52 := hh (show W.heap.size + 1 < w5.heap.size from hq5.2.1 _ (lt3 W.drew _ _)) | skip); have HK5 := Aside0.mk hb5; have Hb5 := Aside0.mk (below_step (show Below W.heap.size W _ from by with_reducible repeat (first | exact Below.refl _ _ | exact hbd.out | refine below_alloc ?_ _ | refine below_drew1 ?_)) hb5); clear hb5)
      | (go_at_call_of 142 hi'; refine (D2.out _).mono ?_; rintro e w6 ⟨rfl, hb6⟩; have hq6 := hbP hb6; (first | have z61 := hh (show w5.heap.size < w6.heap.size from hq6.2.1 _ (lt1 w5 _)) | have z61 := hh (show w5.heap.size < w6.heap.size from hq6.2.1 _ (lt2 w5 _ _)) | skip); (first | have z62 := hh (show w5.heap.size + 1 < w6.heap.size from hq6.2.1 _ (lt3 w5 _ _)) | skip); have zz := hb6.size; (first | have z63 := hh (show W.heap.size < w6.heap.size from Nat.lt_of_lt_of_le z51.1 zz) | have z63 := hh (show W.heap.size < w6.heap.size from Nat.lt_of_lt_of_le z51.1 (Nat.le_trans (Nat.le_of_lt (lt1 w5 _)) zz)) | skip); (first | have z64 := hh (show W.heap.size + 1 < w6.heap.size from Nat.lt_of_lt_of_le z52.1 zz) | skip); clear zz; (first | have hq56 := hbP (below_step HK5.out hb6) | have hq56 := hbP (below_step (below_alloc HK5.out _) hb6) | have hq56 := hbP (below_step (below_alloc (below_alloc HK5.out _) _) hb6)); have Hb6 := Aside0.mk (below_step (show Below W.heap.size W _ from by with_reducible repeat (first | exact Below.refl _ _ | exact Hb5.out | refine below_alloc ?_ _ | refine below_drew1 ?_)) hb6); clear hb6))
    all_goals (go_wp2_with fail; go_meet)
    all_goals exact ⟨_, _, rfl, rfl, by go_simp, by go_simp, (by with_reducible repeat (first | exact Below.refl _ _ | exact Hb6.out | exact Hb5.out | refine below_alloc ?_ _ | refine below_setRow ?_ (by first | with_reducible exact Nat.le_refl _ | with_reducible exact Nat.le_succ _ | with_reducible exact Hb5.out.size | with_reducible exact Hb6.out.size | with_reducible exact Nat.le_succ_of_le Hb5.out.size | with_reducible exact Nat.le_succ_of_le Hb6.out.size) _))⟩
  case rest =>
    obtain ⟨b5, b6, rfl, rfl, hX, hY, hb⟩ := hcut
    rw [← eX.out] at hX
    rw [← eY.out] at hY
    have lX := Aside0.mk (dk_len hi lo 4)
    have lY := Aside0.mk (dk_len hi' lo' 4)
    have HX := Aside0.mk hX
    have HY := Aside0.mk hY
    have HB := Aside0.mk (below_step HB0.out hb)
    clear hX hY hb sX sY zX zY hf1 hf0 hlt HFA D1 D2 HB0 h0 h1 h0' h1'
    generalize dk hi lo 4 = x at *
    generalize dk hi' lo' 4 = y at *
    go_wp2_with fail
    go_loopg [7] (8 : Nat) (fun kq v w' => kq ≤ 8 ∧ v = .int .i64 ((kq : Int) - 1) ∧ (∃ n, w' = wc.drewN n) ∧ Aside0 (∀ i, kq ≤ i → i < 8 → lg x i = lg y i))
    case atStart => exact ⟨Nat.le_refl _, rfl, ⟨0, rfl⟩, ⟨fun i h1 h2 => by omega⟩⟩
    case round =>
      obtain ⟨hk, rfl, ⟨n, rfl⟩, HE⟩ := hrel
      cases gk with
      | zero =>
        have hne : ((0 : Nat) : Int) - 1 = -1 := rfl
        rw [hne]
        clear hne
        go_wp2_with fail
        go_ret
        refine ⟨retI (a := 0) ?_, below_step HB.out (pw_below_drewN (Below.refl _ _) _)⟩
        have := val_eq (by rw [lX.out, lY.out]) (fun i hi => HE.out i (Nat.zero_le _) (by rw [← lX.out]; exact hi))
        rw [← VX.out, ← VY.out, this]
        unfold cmpI
        rw [if_neg (Int.lt_irrefl _), if_neg (Int.lt_irrefl _)]
      | succ k =>
        have hk1 : ((k + 1 : Nat) : Int) - 1 = (k : Int) := by omega
        rw [hk1]
        clear hk1
        have c5 : wc.cell? ⟨b5, k, none⟩ = some (.int .u64 (lg x k)) := HX.out.cell (by rw [lX.out]; omega)
        have c6 : wc.cell? ⟨b6, k, none⟩ = some (.int .u64 (lg y k)) := HY.out.cell (by rw [lY.out]; omega)
        rcases Int.lt_trichotomy (lg x k) (lg y k) with hlt | heq | hgt
        · have hd : decide (lg x k < lg y k) = true := decide_eq_true hlt
          have HL := Aside0.mk hlt
          clear hlt
          have hk0 : (0 : Int) ≤ k := by omega
          have hk8 : (k : Int) < 8 := by omega
          go_wp2_with fail
          go_quiet (fail)
          go_wp2_with fail
          go_ret
          refine ⟨retI (a := -1) ?_, below_step HB.out (by repeat (first | exact Below.refl _ _ | apply pw_below_drewN | apply below_drew1))⟩
          have := val_lt WX.out WY.out (by rw [lX.out, lY.out]) (k := k) (by rw [lX.out]; omega) (fun i h1 h2 => HE.out i (by omega) (by rw [lX.out] at h2; exact h2)) HL.out
          rw [VX.out, VY.out] at this
          unfold cmpI
          rw [if_pos this]
        · have hd : decide (lg x k < lg y k) = false := decide_eq_false (by omega)
          have hd2 : decide (lg y k < lg x k) = false := decide_eq_false (by omega)
          have HL := Aside0.mk heq
          clear heq
          have hk0 : (0 : Int) ≤ k := by omega
          have hk8 : (k : Int) < 8 := by omega
          go_wp2_with fail
          go_quiet (fail)
          go_wp2_with fail
          go_quiet (fail)
          go_wp2_with fail
          go_roundg k
          case measure => omega
          case rel => exact ⟨by omega, rfl, ⟨_, by first | rfl | (rw [World.drewN_drewN]) | (rw [World.drewN_drewN, World.drewN_drewN])⟩, ⟨fun i h1 h2 => by rcases Nat.lt_or_ge k i with h | h; exact HE.out i h h2; rw [show i = k by omega]; exact HL.out⟩⟩
        · have hd : decide (lg x k < lg y k) = false := decide_eq_false (by omega)
          have hd2 : decide (lg y k < lg x k) = true := decide_eq_true hgt
          have HL := Aside0.mk hgt
          clear hgt
          have hk0 : (0 : Int) ≤ k := by omega
          have hk8 : (k : Int) < 8 := by omega
          go_wp2_with fail
          go_quiet (fail)
          go_wp2_with fail
          go_quiet (fail)
          go_wp2_with fail
          go_ret
          refine ⟨retI (a := 1) ?_, below_step HB.out (by repeat (first | exact Below.refl _ _ | apply pw_below_drewN | apply below_drew1))⟩
          have := val_lt WY.out WX.out (by rw [lX.out, lY.out]) (k := k) (by rw [lY.out]; omega) (fun i h1 h2 => (HE.out i (by omega) (by rw [lY.out] at h2; exact h2)).symm) HL.out
          rw [VX.out, VY.out] at this
          unfold cmpI
          rw [if_neg (by omega), if_pos this]
end
end Go.Proofs.YtakickbnjbedfaaDoor.PB
