/- Part of the proof of Card. -/
import Derived.Test.YtakickbnjbedfaaDoorRankScaleH2p
import Derived.Test.YtakickbnjbedfaaDoorRankScaleK1
namespace Go.Proofs.YtakickbnjbedfaaDoor.PB
set_option linter.unusedVariables false
open Go.RowKit Go.Proofs.YtakickbnjbedfaaDoorW.PrintWords Go.Proofs.YtakickbnjbedfaaDoorW.PrintLast Go.Proofs.YtakickbnjbedfaaDoor.PA Go.Proofs.YtakickbnjbedfaaDoor.Num Go.Proofs.YtakickbnjbedfaaDoor.F Go.Proofs.YtakickbnjbedfaaDoor.S
abbrev xa : S42 := ⟨⟨#[120]⟩, 6, 3⟩
abbrev xb : S42 := ⟨⟨#[121]⟩, 5, 2⟩
abbrev xc : S42 := ⟨⟨#[97]⟩, 4, 2⟩
theorem aw10_sort : Ev (fun k => rank_Sort.f k [xb, xa, xc]) [xc, xa, xb] := Ev.of (fun k => rank_Sort.mono _ k) (k := 20) (by kernel_rfl)
theorem aw10_least : Ev (fun k => rank_Least.f k [xc, xa, xb] 2) [xc, xa] := Ev.of (fun k => rank_Least.mono _ _ k) (k := 20) (by kernel_rfl)
theorem aw10_rank : Ev (fun k => rank_Rank.f k (⟨#[121]⟩ : ByteArray) 5 2) (limbs 5, limbs 2, 0) := rank_rank_f ⟨#[121]⟩ 5 2 (by decide) (by decide) (by decide) (by decide)
theorem aw10_cmp1 : Ev (fun k => rank_Cmp.f k (⟨#[120]⟩ : ByteArray) 6 3 (⟨#[121]⟩ : ByteArray) 5 2) (-1) := rank_cmp_f ⟨#[120]⟩ ⟨#[121]⟩ 6 3 5 2 (by decide) (by decide) (by decide) (by decide)
theorem aw10_cmp2 : Ev (fun k => rank_Cmp.f k (⟨#[120]⟩ : ByteArray) 6 3 (⟨#[97]⟩ : ByteArray) 4 2) 1 := rank_cmp_f ⟨#[120]⟩ ⟨#[97]⟩ 6 3 4 2 (by decide) (by decide) (by decide) (by decide)
theorem small_top {n : Nat} (h : n < 100) : n < top := u64_top (Nat.lt_trans h (by decide))
theorem aw10_text : rat_Text.f (limbs 5) (limbs 2) = some ⟨#[53, 47, 50]⟩ := by
  have e2 : (limbs 2).isEmpty = false := by rw [limbs_small (by decide) (by decide)]; rfl
  unfold rat_Text.f
  rw [isL_limbs (small_top (by decide)), isL_limbs (small_top (by decide)), isRat_limbs, decide_eq_true (small_top (n := 5) (by decide)), decide_eq_true (small_top (n := 2) (by decide)), e2, nt_limbs, nt_limbs]
  simp only [Bool.and_self, Bool.not_false, Bool.true_and]
  rw [if_pos (by decide)]
  unfold rdec dec
  rw [Lib.decDigits_one (by decide), Lib.decDigits_one (by decide)]
  rfl
theorem aw10_ev : Ev (fun k => samphirelaw10_awake.f k) true := by
  unfold samphirelaw10_awake.f
  refine Ev.bind aw10_sort ?_
  refine Ev.bind aw10_rank ?_
  refine Ev.bind aw10_cmp1 ?_
  refine Ev.congr (fun k => if_pos rfl) ?_
  refine Ev.bind aw10_cmp2 ?_
  refine Ev.congr (fun k => (if_pos rfl).trans ((if_pos rfl).trans ((if_pos (by decide)).trans ((if_pos (by kernel_rfl)).trans ((if_pos (by decide)).trans ((if_pos (by kernel_rfl)))))))) ?_
  refine Ev.bind1 aw10_text ?_
  refine Ev.congr (fun k => (if_pos (by kernel_rfl)).trans (if_pos rfl)) ?_
  refine Ev.bind1 (a := 7) (by kernel_rfl) ?_
  refine Ev.congr (fun k => if_pos rfl) ?_
  refine Ev.bind aw10_least ?_
  exact Ev.all fun k => rfl
def samphirelaw10_awakeg.f : Option Bool := some true
theorem samphirelaw10_awakeg.calls (r : Bool) (w : World) (h : samphirelaw10_awakeg.f = some r) : Calls Tryd.prog 30 #[] w fun e w' => e = .returned (.bool r) ∧ Below w.heap.size w w' := by
  obtain ⟨k, hk⟩ := aw10_ev.rounds
  have hr : r = true := (Option.some.inj h).symm
  subst hr
  exact samphirelaw10_awake.calls k true w hk rfl
end Go.Proofs.YtakickbnjbedfaaDoor.PB
