/- Part of the proof of Card. -/
import Derived.Test.YtakickbnjbedfaaDoorRankTellsLRankTells
import Derived.Test.YtakickbnjbedfaaDoorRankTellsP2
import Derived.Test.YtakickbnjbedfaaDoorRankTellsH2
import Derived.Test.YtakickbnjbedfaaDoorRankTellsP1
import Derived.Test.YtakickbnjbedfaaDoorRankTellsP0
import Derived.Test.YtakickbnjbedfaaDoorRankTellsR6
namespace Go.Proofs.YtakickbnjbedfaaDoor.PB
set_option linter.unusedVariables false
open Go.RowKit Go.Proofs.YtakickbnjbedfaaDoorW.PrintWords Go.Proofs.YtakickbnjbedfaaDoorW.PrintLast Go.Proofs.YtakickbnjbedfaaDoor.PA Go.Proofs.YtakickbnjbedfaaDoor.Num Go.Proofs.YtakickbnjbedfaaDoor.F Go.Proofs.YtakickbnjbedfaaDoor.S Go.Proofs.YtakickbnjbedfaaDoor.R
theorem awakeg_ev : Ev (fun _ : Nat => (samphirelaw10_awakeg.f).bind fun t => some t) true := Ev.all fun _ => rfl
theorem limbs_short {n : Nat} (h : n < 18446744073709551616) : (limbs n).length ≤ 64 := len_top.2 (u64_top h)
theorem div_u64 {n m : Nat} (h : n < 18446744073709551616) : n / m < 18446744073709551616 := Nat.lt_of_le_of_lt (Nat.div_le_self _ _) h
theorem tells_j3 (s t : ByteArray) (u v u' v' : Nat) (h1 : u < 18446744073709551616) (h2 : v < 18446744073709551616) (h3 : u' < 18446744073709551616) (h4 : v' < 18446744073709551616) (c : Int) (hc : rank_Check.f s u v = some c) (p q : List Int) (lp : p.length ≤ 64) (lq : q.length ≤ 64) :
    Ev (fun k => samphirelaw10_RankTells.j3 k c c s u v t u' v' p q p q) true := by
  refine Ev.step (fun k => by rw [samphirelaw10_RankTells.j3]) ?_
  refine Ev.bind (rank_cmp_f s t u v u' v' h1 h2 h3 h4) ?_
  refine Ev.bind1 (ref_cmp_f s t u v u' v' h1 h2 h3 h4) ?_
  refine Ev.congr (fun k => if_pos rfl) ?_
  refine Ev.bind1 hc ?_
  refine Ev.congr (fun k => (if_pos rfl).trans (if_pos rfl)) ?_
  refine Ev.bind (rsame_f p q p q (by omega) (by omega)) ?_
  exact Ev.congr (fun k => if_pos (by simp)) awakeg_ev
theorem tells_ev (s t : ByteArray) (u v u' v' : Nat) (h1 : u < 18446744073709551616) (h2 : v < 18446744073709551616) (h3 : u' < 18446744073709551616) (h4 : v' < 18446744073709551616) :
    Ev (fun k => samphirelaw10_RankTells.f k s u v t u' v') true := by
  have big : Ev (fun k => samphirelaw10_RankTells.j0 k true s u v t u' v') true := by
    refine Ev.step (fun k => by rw [samphirelaw10_RankTells.j0, if_pos rfl]) ?_
    exact awakeg_ev
  unfold samphirelaw10_RankTells.f
  by_cases hs : (s.size : Int) > 100
  · exact Ev.congr (fun k => if_pos hs) big
  refine Ev.congr (fun k => if_neg hs) ?_
  by_cases ht : (t.size : Int) > 100
  · rw [decide_eq_true ht]; exact big
  rw [decide_eq_false ht]
  have bad : ∀ c : Int, c ≠ 0 → rank_Check.f s u v = some c → Ev (fun k => samphirelaw10_RankTells.j2 k c s u v t u' v') true := by
    intro c c0 hc
    refine Ev.step (fun k => by rw [samphirelaw10_RankTells.j2]) ?_
    refine Ev.bind (rank_rank_bad s u v c hc c0) ?_
    refine Ev.congr (fun k => if_neg c0) ?_
    exact tells_j3 s t u v u' v' h1 h2 h3 h4 c hc [] [] (by simp) (by simp)
  by_cases h64 : (s.size : Int) > 64
  · have hc : rank_Check.f s u v = some 5 := by unfold rank_Check.f; rw [if_pos h64]
    have : ∀ x : Int, Ev (fun k => samphirelaw10_RankTells.j1 k x s u v t u' v') true := fun x =>
      Ev.step (fun k => by rw [samphirelaw10_RankTells.j1, if_pos h64]) (bad 5 (by decide) hc)
    by_cases hv : (v : Int) = 0
    · exact Ev.step (fun k => by rw [samphirelaw10_RankTells.j0, if_neg (by decide), if_pos hv]) (this 7)
    · exact Ev.step (fun k => by rw [samphirelaw10_RankTells.j0, if_neg (by decide), if_neg hv]) (this 0)
  by_cases hv : (v : Int) = 0
  · have hc : rank_Check.f s u v = some 7 := by unfold rank_Check.f; rw [if_neg h64, if_pos hv]
    refine Ev.step (fun k => by rw [samphirelaw10_RankTells.j0, if_neg (by decide), if_pos hv]) ?_
    exact Ev.step (fun k => by rw [samphirelaw10_RankTells.j1, if_neg h64]) (bad 7 (by decide) hc)
  have hc : rank_Check.f s u v = some 0 := by unfold rank_Check.f; rw [if_neg h64, if_neg hv]
  have v0 : 0 < v := by omega
  refine Ev.step (fun k => by rw [samphirelaw10_RankTells.j0, if_neg (by decide), if_neg hv]) ?_
  refine Ev.step (fun k => by rw [samphirelaw10_RankTells.j1, if_neg h64]) ?_
  refine Ev.step (fun k => by rw [samphirelaw10_RankTells.j2]) ?_
  refine Ev.bind (rank_rank_f s u v (by omega) h1 h2 v0) ?_
  refine Ev.congr (fun k => if_pos rfl) ?_
  refine Ev.bind (rof_f u h1) ?_
  refine Ev.bind (rof_f v h2) ?_
  refine Ev.bind (rreduce_f u v v0 (by have := limbs_short h1; omega) (by have := limbs_short h2; omega)) ?_
  exact tells_j3 s t u v u' v' h1 h2 h3 h4 0 hc _ _ (limbs_short (div_u64 h1)) (limbs_short (div_u64 h2))
end Go.Proofs.YtakickbnjbedfaaDoor.PB
