/- Part of the proof of Card. -/
import Derived.Deep.RegionHeld3
import Derived.Deep.DeepCutAuto
import Derived.Deep.LoopGhost
import Derived.Laws.Rows
import Derived.Laws.Tables
import Derived.Laws.CopyOwn
import Derived.Deep.WholeRow
import Derived.Test.YtakickbnjbedfaaDoorRankTellsP0
import Derived.Test.YtakickbnjbedfaaDoorRankTellsNum
namespace Go.Proofs.YtakickbnjbedfaaDoor.PB
open Go.Proofs.YtakickbnjbedfaaDoor.PA Go.Proofs.YtakickbnjbedfaaDoor.Num
open Go.RowKit Go.Proofs.YtakickbnjbedfaaDoorW.PrintWords Go.Proofs.YtakickbnjbedfaaDoorW.PrintLast Go.Proofs.YtakickbnjbedfaaDoorW.PrintMore
set_option linter.unusedVariables false
set_option linter.unusedSimpArgs false
def arrV (l : List Int) : Array Value := (l.map (Value.int .u64)).toArray
theorem arrV_size (l : List Int) : (arrV l).size = l.length := by simp [arrV]
theorem arrV_at {l : List Int} {k : Nat} (h : k < l.length) : (arrV l)[k]? = some (.int .u64 (lg l k)) := by
  unfold arrV lg
  simp [List.getD_eq_getElem?_getD, h]
theorem arrV_set (l : List Int) (k : Nat) (v : Int) : (arrV l).setIfInBounds k (.int .u64 v) = arrV (l.set k v) := by
  unfold arrV
  apply Array.toList_inj.1
  simp [List.map_set]
def dk (hi lo k : Nat) : List Int := (List.range 8).map fun i => if i < 4 then (if i < k then ((lo / 65536 ^ i % 65536 : Nat) : Int) else 0) else (if i - 4 < k then ((hi / 65536 ^ (i - 4) % 65536 : Nat) : Int) else 0)
theorem dk_len (hi lo k : Nat) : (dk hi lo k).length = 8 := by simp [dk]
theorem dk_zero (hi lo : Nat) : arrV (dk hi lo 0) = #[.int .u64 0, .int .u64 0, .int .u64 0, .int .u64 0, .int .u64 0, .int .u64 0, .int .u64 0, .int .u64 0] := by
  simp [dk, arrV, List.range, List.range.loop]
theorem dk_succ (hi lo k : Nat) (h : k < 4) : ((dk hi lo k).set k ((lo / 65536 ^ k % 65536 : Nat) : Int)).set (4 + k) ((hi / 65536 ^ k % 65536 : Nat) : Int) = dk hi lo (k + 1) := by
  rcases (by omega : k = 0 ∨ k = 1 ∨ k = 2 ∨ k = 3) with rfl | rfl | rfl | rfl <;> simp [dk, List.range, List.range.loop]
theorem dk_wf (hi lo : Nat) : Wf 65536 (dk hi lo 4) := by
  intro x hx
  simp only [dk, List.mem_map, List.mem_range] at hx
  obtain ⟨i, hi8, rfl⟩ := hx
  by_cases h4 : i < 4
  · rw [if_pos h4, if_pos h4]; omega
  · rw [if_neg h4, if_pos (by omega)]; omega
theorem dk_val (hi lo : Nat) (h0 : hi < 18446744073709551616) (h1 : lo < 18446744073709551616) : val 65536 (dk hi lo 4) = lo + 18446744073709551616 * hi := by
  simp [dk, List.range, List.range.loop, val]
  omega
theorem arr149 : (Tryd.prog.info? 149).map (·.size) = some 8 := by kernel_rfl
theorem arrV_cells (l : List Int) : (arrV l).all (·.oneCell') = true := by
  unfold arrV
  simp [Array.all_eq_true]
  intro i h
  rfl
set_option maxHeartbeats 4000000 in
set_option maxRecDepth 100000 in
theorem digits01 {w : World} {hi lo : Nat} (h0 : hi < 18446744073709551616) (h1 : lo < 18446744073709551616) : Calls Tryd.prog 142 #[.agg #[.int .u64 hi, .int .u64 lo]] w fun e w' => e = .returned (.agg (arrV (dk hi lo 4))) ∧ Below w.heap.size w w' := by
  have hu := Tryd.underlying68
  have hu2 := Tryd.underlying149
  go_enter Tryd.func142, Tryd.ntmps142
  go_wp2_with fail
  go_loopg [4] (4 : Nat) (fun kq x w' => kq ≤ 4 ∧ x = .int .i64 (4 - (kq : Int)) ∧ w' = ((w.alloc (.cells #[.int .u64 hi, .int .u64 lo] 68)).alloc (.cells (arrV (dk hi lo 0)) 149)).alloc (.cells (arrV (dk hi lo (4 - kq))) 149))
  case atStart => exact ⟨Nat.le_refl _, rfl, by rw [dk_zero]⟩
  case round =>
    obtain ⟨hk, hx, rfl⟩ := hrel
    rcases (by omega : gk = 0 ∨ gk = 1 ∨ gk = 2 ∨ gk = 3 ∨ gk = 4) with rfl | rfl | rfl | rfl | rfl
    · obtain rfl := (show _ = Value.int .i64 4 from hx)
      clear hx
      simp only [Nat.reduceSub] at *
      have z4 : some (arrV (dk hi lo 4)).size = some 8 := by rw [arrV_size, dk_len]
      have H1 : (((w.alloc (.cells #[.int .u64 hi, .int .u64 lo] 68)).alloc (.cells (arrV (dk hi lo 0)) 149)).alloc (.cells (arrV (dk hi lo 4)) 149)).heap[w.heap.size + 1 + 1]? = some (.cells (arrV (dk hi lo 4)) 149) := by
        have := heap_alloc_last ((w.alloc (.cells #[.int .u64 hi, .int .u64 lo] 68)).alloc (.cells (arrV (dk hi lo 0)) 149)) (.cells (arrV (dk hi lo 4)) 149)
        simpa using this
      have H2 : (((w.alloc (.cells #[.int .u64 hi, .int .u64 lo] 68)).alloc (.cells (arrV (dk hi lo 0)) 149)).alloc (.cells (arrV (dk hi lo 4)) 149)).heap[w.heap.size + 1]? = some (.cells (arrV (dk hi lo 0)) 149) := by
        rw [heap_alloc_old _ _ (by simp)]
        exact heap_alloc2_new w _ _
      have HH := Aside0.mk (And.intro H1 H2)
      have z4' := Aside0.mk (arr149.trans z4.symm)
      have z0 : (arrV (dk hi lo 0)).size = (arrV (dk hi lo 4)).size := by rw [arrV_size, arrV_size, dk_len, dk_len]
      have z0' := Aside0.mk z0
      clear H1 H2 z0 z4
      go_wp2_with (first | (refine wpList_load_row rfl 149 (.tmp 3) rfl (w.heap.size + 1 + 1) (by rfl) 149 (arrV (dk hi lo 4)) (0, 0) _ HH.out.1 hu2 rfl z4'.out ?_) | (refine wpList_store_row rfl 149 (.tmp 2) (.tmp 28) rfl (w.heap.size + 1) (arrV (dk hi lo 4)) (by rfl) (by rfl) 149 (arrV (dk hi lo 0)) HH.out.2 z4'.out z0'.out (arrV_cells _) ?_))
      refine bodyPost_ret (v := .agg (arrV (dk hi lo 4))) (results_cell_row (p := 2) (ty := 149) rfl _ _ (w.heap.size + 1) 149 (arrV (dk hi lo 4)) (0, 0) _ (by rfl) (setRow_heap _ _ _ _ _ _ HH.out.2) hu2 rfl z4'.out) rfl ⟨rfl, ?_⟩
      exact below_setRow (below_alloc (below_alloc (below_alloc (Below.refl _ _) _) _) _) (by omega) _
    · obtain rfl := (show _ = Value.int .i64 3 from hx)
      clear hx
      have hs := dk_succ hi lo 3 (by decide)
      have e1 := arrV_set (dk hi lo 3) 3 ((lo / 65536 ^ 3 % 65536 : Nat) : Int)
      have e2 := arrV_set ((dk hi lo 3).set 3 ((lo / 65536 ^ 3 % 65536 : Nat) : Int)) 7 ((hi / 65536 ^ 3 % 65536 : Nat) : Int)
      simp only [Nat.reduceAdd] at hs
      rw [hs] at e2
      rw [← e1] at e2
      rw [show ((lo / 65536 ^ 3 % 65536 : Nat) : Int) = (lo : Int) / 281474976710656 % 65536 by omega, show ((hi / 65536 ^ 3 % 65536 : Nat) : Int) = (hi : Int) / 281474976710656 % 65536 by omega] at e2
      have HE := Aside0.mk e2
      have l1 := arrV_at (l := dk hi lo 3) (k := 3) (by rw [dk_len]; decide)
      have z := arrV_size (dk hi lo 3)
      rw [dk_len] at z
      clear hs e1 e2
      simp only [Nat.reduceSub] at *
      go_wp2_with fail
      go_roundg 0
      case measure => omega
      case rel => exact ⟨by omega, rfl, by rw [HE.out]⟩
    · obtain rfl := (show _ = Value.int .i64 2 from hx)
      clear hx
      have hs := dk_succ hi lo 2 (by decide)
      have e1 := arrV_set (dk hi lo 2) 2 ((lo / 65536 ^ 2 % 65536 : Nat) : Int)
      have e2 := arrV_set ((dk hi lo 2).set 2 ((lo / 65536 ^ 2 % 65536 : Nat) : Int)) 6 ((hi / 65536 ^ 2 % 65536 : Nat) : Int)
      simp only [Nat.reduceAdd] at hs
      rw [hs] at e2
      rw [← e1] at e2
      rw [show ((lo / 65536 ^ 2 % 65536 : Nat) : Int) = (lo : Int) / 4294967296 % 65536 by omega, show ((hi / 65536 ^ 2 % 65536 : Nat) : Int) = (hi : Int) / 4294967296 % 65536 by omega] at e2
      have HE := Aside0.mk e2
      have l1 := arrV_at (l := dk hi lo 2) (k := 2) (by rw [dk_len]; decide)
      have z := arrV_size (dk hi lo 2)
      rw [dk_len] at z
      clear hs e1 e2
      simp only [Nat.reduceSub] at *
      go_wp2_with fail
      go_roundg 1
      case measure => omega
      case rel => exact ⟨by omega, rfl, by rw [HE.out]⟩
    · obtain rfl := (show _ = Value.int .i64 1 from hx)
      clear hx
      have hs := dk_succ hi lo 1 (by decide)
      have e1 := arrV_set (dk hi lo 1) 1 ((lo / 65536 ^ 1 % 65536 : Nat) : Int)
      have e2 := arrV_set ((dk hi lo 1).set 1 ((lo / 65536 ^ 1 % 65536 : Nat) : Int)) 5 ((hi / 65536 ^ 1 % 65536 : Nat) : Int)
      simp only [Nat.reduceAdd] at hs
      rw [hs] at e2
      rw [← e1] at e2
      rw [show ((lo / 65536 ^ 1 % 65536 : Nat) : Int) = (lo : Int) / 65536 % 65536 by omega, show ((hi / 65536 ^ 1 % 65536 : Nat) : Int) = (hi : Int) / 65536 % 65536 by omega] at e2
      have HE := Aside0.mk e2
      have l1 := arrV_at (l := dk hi lo 1) (k := 1) (by rw [dk_len]; decide)
      have z := arrV_size (dk hi lo 1)
      rw [dk_len] at z
      clear hs e1 e2
      simp only [Nat.reduceSub] at *
      go_wp2_with fail
      go_roundg 2
      case measure => omega
      case rel => exact ⟨by omega, rfl, by rw [HE.out]⟩
    · obtain rfl := (show _ = Value.int .i64 0 from hx)
      clear hx
      have hs := dk_succ hi lo 0 (by decide)
      have e1 := arrV_set (dk hi lo 0) 0 ((lo / 65536 ^ 0 % 65536 : Nat) : Int)
      have e2 := arrV_set ((dk hi lo 0).set 0 ((lo / 65536 ^ 0 % 65536 : Nat) : Int)) 4 ((hi / 65536 ^ 0 % 65536 : Nat) : Int)
      simp only [Nat.reduceAdd] at hs
      rw [hs] at e2
      rw [← e1] at e2
      rw [show ((lo / 65536 ^ 0 % 65536 : Nat) : Int) = (lo : Int) % 65536 by omega, show ((hi / 65536 ^ 0 % 65536 : Nat) : Int) = (hi : Int) % 65536 by omega] at e2
      have HE := Aside0.mk e2
      have l1 := arrV_at (l := dk hi lo 0) (k := 0) (by rw [dk_len]; decide)
      have z := arrV_size (dk hi lo 0)
      rw [dk_len] at z
      clear hs e1 e2
      simp only [Nat.reduceSub] at *
      go_wp2_with fail
      go_roundg 3
      case measure => omega
      case rel => exact ⟨by omega, rfl, by rw [HE.out]⟩
end Go.Proofs.YtakickbnjbedfaaDoor.PB
