/- Part of the proof of Card. -/
import Derived.Lib.SliceRun
import Derived.Test.YtakickbnjbedfaaDoorRankScaleP0
namespace Go.Proofs.YtakickbnjbedfaaDoor.PB
open Go.Proofs.YtakickbnjbedfaaDoor.PA
open Go.RowKit Go.Proofs.YtakickbnjbedfaaDoorW.PrintWords Go.Proofs.YtakickbnjbedfaaDoorW.PrintLast Go.Proofs.YtakickbnjbedfaaDoorW.PrintMore
set_option linter.unusedVariables false
set_option linter.unusedSimpArgs false
def slices_Clone_42.f (l0 : List S42) : Option (List S42) := if l0.length ≤ 100000 then some l0 else none
theorem eqlNil49 (w : World) (a : Option Addr) (n c n' c' : Nat) : (binOp .eql 49 (.slice a n c) (.slice none n' c')).run Tryd.prog w = .ok (.bool a.isNone) w := Lib.run_eql_slice_nil w _ _ a n c n' c' Tryd.underlying49
theorem info42g : (Tryd.prog.info? 42).map (fun i => (i.zero, i.size, i.bytes)) = some (some (.agg #[(.string ⟨#[]⟩), (.int .u64 0), (.int .u64 0)]), 3, 32) := by kernel_rfl
set_option maxHeartbeats 1000000 in
theorem slices_Clone_42.calls (A0 : Option Addr) (c0 : Nat) (l0 : List S42) (r : List S42) (w : World) (hr0 : Kd.C k42 w A0 l0.length l0) (hc0 : l0.length ≤ c0) (h : slices_Clone_42.f l0 = some r) :
    Calls Tryd.prog 95 #[.slice A0 l0.length c0] w fun e w' => ∃ v0_ : Value, e = .returned (v0_) ∧ Kd.R k42 42 w' w.heap.size (fun _ => True) v0_ r ∧ Below w.heap.size w w' := by
  unfold slices_Clone_42.f at h
  split at h
  case isFalse => cases h
  case isTrue hl =>
  obtain rfl := Option.some.inj h
  clear h
  cases A0 with
  | none =>
    have hl0 : l0 = [] := by
      rcases Nat.eq_zero_or_pos l0.length with h0 | h0
      · exact List.length_eq_zero_iff.1 h0
      · obtain ⟨ad, e, _⟩ := hr0.2.2 h0
        cases e
    subst hl0
    have q := eqlNil49
    go_enter Tryd.func95, Tryd.ntmps95
    go_wp2
    go_ret
    exact ⟨_, rfl, Kd.R_nil _ _ _ _ _, Below.refl _ _⟩
  | some ad =>
    have q := eqlNil49
    have HC := Aside0.mk hr0
    clear hr0
    go_enter Tryd.func95, Tryd.ntmps95
    go_wp2_with (at_builtin; refine Kd.R_append_rows k42 (w0 := w) w.heap.size rfl (.tmp 5) (.tmp 6) 49 42 (.agg #[(.string ⟨#[]⟩), (.int .u64 0), (.int .u64 0)]) 32 rfl Tryd.underlying49 info42g rfl (by decide) (by omega) _ ([] : List S42) l0 (some ad) l0.length c0 (fun _ => True) (fun _ => False) rfl rfl ?hO ?hR (fun _ _ h => h) (fun _ h => h.elim) ?hF ?hB ?hS ?hL ?_)
    case hO => exact ⟨fun _ _ => trivial, [], World.ownsRow_made w #[] 0 (Nat.le_refl _) (Nat.zero_le _) (by simp), Reps.none _ _⟩
    case hR => exact Kd.C_below HC.out (below_alloc (Below.refl _ _) _)
    case hF => exact fun _ _ => trivial
    case hB => exact below_alloc (Below.refl _ _) _
    case hS => exact Nat.le_of_lt (by simp)
    case hL => simp only [List.length_nil]; omega
    intro v1 w1 hv1 hb1 _ _
    go_wp2
    go_ret
    exact ⟨_, rfl, hv1, hb1⟩
end Go.Proofs.YtakickbnjbedfaaDoor.PB
