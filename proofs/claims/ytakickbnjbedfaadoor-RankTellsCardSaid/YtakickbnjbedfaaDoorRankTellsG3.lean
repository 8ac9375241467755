/- Part of the proof of Card. -/
import Derived.RegionTactic
import Derived.ChangeAlike
import Derived.BigRegion
import Derived.Test.YtakickbnjbedfaaDoorRankTellsG2
namespace Go.Proofs.YtakickbnjbedfaaDoor.PB
open Go.Proofs.YtakickbnjbedfaaDoor.PA Go.Proofs.YtakickbnjbedfaaDoor.Num
open Go.RowKit Go.Proofs.YtakickbnjbedfaaDoorW.PrintWords Go.Proofs.YtakickbnjbedfaaDoorW.PrintLast Go.Proofs.YtakickbnjbedfaaDoorW.PrintMore
set_option linter.unusedVariables false
set_option linter.unusedSimpArgs false
def nb (d0 d1 d2 d3 : Int) : Nat → Int
  | 4 => 0
  | 3 => d3
  | 2 => d3 * 65536 + d2
  | 1 => (d3 * 65536 + d2) * 65536 + d1
  | _ => ((d3 * 65536 + d2) * 65536 + d1) * 65536 + d0
theorem num_step (w0 : World) (x y a b : Value) (n m : Nat) (hm : m = w0.heap.size) : ((((w0.alloc (.cells #[x, y] 68)).drewN (n + 1)).setCell ⟨m, 1, none⟩ a).setCell ⟨m, 0, none⟩ b).drew = (w0.alloc (.cells #[b, a] 68)).drewN (n + 1 + 1) := by
  subst hm
  show (((w0.alloc (.cells #[x, y] 68)).setCell ⟨w0.heap.size, 1, none⟩ a).setCell ⟨w0.heap.size, 0, none⟩ b).drewN (n + 1 + 1) = _
  rw [World.setCell_alloc_new, World.setCell_alloc_new]
  rfl
set_option maxHeartbeats 4000000 in
set_option maxRecDepth 100000 in
theorem number01 {w : World} {d0 d1 d2 d3 d4 d5 d6 d7 : Int} (h0 : 0 ≤ d0 ∧ d0 < 65536) (h1 : 0 ≤ d1 ∧ d1 < 65536) (h2 : 0 ≤ d2 ∧ d2 < 65536) (h3 : 0 ≤ d3 ∧ d3 < 65536) (h4 : 0 ≤ d4 ∧ d4 < 65536) (h5 : 0 ≤ d5 ∧ d5 < 65536) (h6 : 0 ≤ d6 ∧ d6 < 65536) (h7 : 0 ≤ d7 ∧ d7 < 65536) :
    Calls Tryd.prog 169 #[.agg #[.int .u64 d0, .int .u64 d1, .int .u64 d2, .int .u64 d3, .int .u64 d4, .int .u64 d5, .int .u64 d6, .int .u64 d7]] w fun e w' => e = .returned (.agg #[.int .u64 (nb d4 d5 d6 d7 0), .int .u64 (nb d0 d1 d2 d3 0)]) ∧ Below w.heap.size w w' := by
  have hu := Tryd.underlying68
  have hu2 := Tryd.underlying149
  go_enter Tryd.func169, Tryd.ntmps169
  go_wp2_with fail
  go_loopg [4] (4 : Nat) (fun kq x w' => kq ≤ 4 ∧ x = .int .i64 ((kq : Int) - 1) ∧ ∃ n, w' = (((w.alloc (.cells #[.int .u64 d0, .int .u64 d1, .int .u64 d2, .int .u64 d3, .int .u64 d4, .int .u64 d5, .int .u64 d6, .int .u64 d7] 149)).alloc (.cells #[.int .u64 0, .int .u64 0] 68)).alloc (.cells #[.int .u64 (nb d4 d5 d6 d7 kq), .int .u64 (nb d0 d1 d2 d3 kq)] 68)).drewN n)
  case atStart => exact ⟨Nat.le_refl _, rfl, 0, rfl⟩
  case round =>
    obtain ⟨hk, hx, n, rfl⟩ := hrel
    rcases (by omega : gk = 0 ∨ gk = 1 ∨ gk = 2 ∨ gk = 3 ∨ gk = 4) with rfl | rfl | rfl | rfl | rfl
    · obtain rfl := (show _ = Value.int .i64 (-1) from hx)
      clear hx
      obtain ⟨v, hv⟩ : ∃ v, nb d0 d1 d2 d3 0 = v := ⟨_, rfl⟩
      obtain ⟨v', hv'⟩ : ∃ v, nb d4 d5 d6 d7 0 = v := ⟨_, rfl⟩
      have HV := Aside0.mk (And.intro hv hv')
      rw [hv, hv']
      clear hv hv'
      go_wp2_with fail
      exact bodyPost_ret (v := .agg #[.int .u64 v', .int .u64 v]) (by simp [results, Tryd.results169, go_sem, hu]) rfl ⟨by rw [← HV.out.1, ← HV.out.2], below_set (below_set (pw_below_drewN (below_alloc (below_alloc (below_alloc (Below.refl _ _) _) _) _) _) (by simp)) (by simp)⟩
    · obtain rfl := (show _ = Value.int .i64 0 from hx)
      clear hx
      have b : 0 ≤ nb d0 d1 d2 d3 1 ∧ nb d0 d1 d2 d3 1 < 281474976710656 := by show 0 ≤ (d3 * 65536 + d2) * 65536 + d1 ∧ (d3 * 65536 + d2) * 65536 + d1 < 281474976710656; omega
      have b' : 0 ≤ nb d4 d5 d6 d7 1 ∧ nb d4 d5 d6 d7 1 < 281474976710656 := by show 0 ≤ (d7 * 65536 + d6) * 65536 + d5 ∧ (d7 * 65536 + d6) * 65536 + d5 < 281474976710656; omega
      have e : nb d0 d1 d2 d3 0 = nb d0 d1 d2 d3 1 * 65536 + d0 := rfl
      have e' : nb d4 d5 d6 d7 0 = nb d4 d5 d6 d7 1 * 65536 + d4 := rfl
      have HE := Aside0.mk (And.intro e e')
      clear e e'
      generalize nb d0 d1 d2 d3 1 = v at *
      generalize nb d4 d5 d6 d7 1 = v' at *
      obtain ⟨b0, b1⟩ := b
      obtain ⟨b0', b1'⟩ := b'
      go_wp2_with fail
      go_region
      go_wp2_with fail
      go_region
      go_wp2_with fail
      go_roundg 0
      case measure => omega
      case rel => exact ⟨by omega, rfl, n + 1 + 1, by rw [HE.out.1, HE.out.2]; exact num_step _ _ _ _ _ n _ (by simp)⟩
    · obtain rfl := (show _ = Value.int .i64 1 from hx)
      clear hx
      have b : 0 ≤ nb d0 d1 d2 d3 2 ∧ nb d0 d1 d2 d3 2 < 281474976710656 := by show 0 ≤ d3 * 65536 + d2 ∧ d3 * 65536 + d2 < 281474976710656; omega
      have b' : 0 ≤ nb d4 d5 d6 d7 2 ∧ nb d4 d5 d6 d7 2 < 281474976710656 := by show 0 ≤ d7 * 65536 + d6 ∧ d7 * 65536 + d6 < 281474976710656; omega
      have e : nb d0 d1 d2 d3 1 = nb d0 d1 d2 d3 2 * 65536 + d1 := rfl
      have e' : nb d4 d5 d6 d7 1 = nb d4 d5 d6 d7 2 * 65536 + d5 := rfl
      have HE := Aside0.mk (And.intro e e')
      clear e e'
      generalize nb d0 d1 d2 d3 2 = v at *
      generalize nb d4 d5 d6 d7 2 = v' at *
      obtain ⟨b0, b1⟩ := b
      obtain ⟨b0', b1'⟩ := b'
      go_wp2_with fail
      go_region
      go_wp2_with fail
      go_region
      go_wp2_with fail
      go_roundg 1
      case measure => omega
      case rel => exact ⟨by omega, rfl, n + 1 + 1, by rw [HE.out.1, HE.out.2]; exact num_step _ _ _ _ _ n _ (by simp)⟩
    · obtain rfl := (show _ = Value.int .i64 2 from hx)
      clear hx
      have b : 0 ≤ nb d0 d1 d2 d3 3 ∧ nb d0 d1 d2 d3 3 < 281474976710656 := by show 0 ≤ d3 ∧ d3 < 281474976710656; omega
      have b' : 0 ≤ nb d4 d5 d6 d7 3 ∧ nb d4 d5 d6 d7 3 < 281474976710656 := by show 0 ≤ d7 ∧ d7 < 281474976710656; omega
      have e : nb d0 d1 d2 d3 2 = nb d0 d1 d2 d3 3 * 65536 + d2 := rfl
      have e' : nb d4 d5 d6 d7 2 = nb d4 d5 d6 d7 3 * 65536 + d6 := rfl
      have HE := Aside0.mk (And.intro e e')
      clear e e'
      generalize nb d0 d1 d2 d3 3 = v at *
      generalize nb d4 d5 d6 d7 3 = v' at *
      obtain ⟨b0, b1⟩ := b
      obtain ⟨b0', b1'⟩ := b'
      go_wp2_with fail
      go_region
      go_wp2_with fail
      go_region
      go_wp2_with fail
      go_roundg 2
      case measure => omega
      case rel => exact ⟨by omega, rfl, n + 1 + 1, by rw [HE.out.1, HE.out.2]; exact num_step _ _ _ _ _ n _ (by simp)⟩
    · obtain rfl := (show _ = Value.int .i64 3 from hx)
      clear hx
      have b : 0 ≤ nb d0 d1 d2 d3 4 ∧ nb d0 d1 d2 d3 4 < 281474976710656 := by show 0 ≤ 0 ∧ 0 < 281474976710656; omega
      have b' : 0 ≤ nb d4 d5 d6 d7 4 ∧ nb d4 d5 d6 d7 4 < 281474976710656 := by show 0 ≤ 0 ∧ 0 < 281474976710656; omega
      have e : nb d0 d1 d2 d3 3 = nb d0 d1 d2 d3 4 * 65536 + d3 := by show d3 = 0 * 65536 + d3; omega
      have e' : nb d4 d5 d6 d7 3 = nb d4 d5 d6 d7 4 * 65536 + d7 := by show d7 = 0 * 65536 + d7; omega
      have HE := Aside0.mk (And.intro e e')
      clear e e'
      generalize nb d0 d1 d2 d3 4 = v at *
      generalize nb d4 d5 d6 d7 4 = v' at *
      obtain ⟨b0, b1⟩ := b
      obtain ⟨b0', b1'⟩ := b'
      go_wp2_with fail
      go_region
      go_wp2_with fail
      go_region
      go_wp2_with fail
      go_roundg 3
      case measure => omega
      case rel => exact ⟨by omega, rfl, n + 1 + 1, by rw [HE.out.1, HE.out.2]; exact num_step _ _ _ _ _ n _ (by simp)⟩
end Go.Proofs.YtakickbnjbedfaaDoor.PB
