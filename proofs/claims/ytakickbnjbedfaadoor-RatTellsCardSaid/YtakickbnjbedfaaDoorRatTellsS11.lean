/- Part of the proof of Card. -/
import Derived.Test.YtakickbnjbedfaaDoorRatTellsS10
namespace Go.Proofs.YtakickbnjbedfaaDoor.S
set_option linter.unusedVariables false
set_option linter.unusedSimpArgs false
open Go.RowKit Go.Proofs.YtakickbnjbedfaaDoorW.PrintWords Go.Proofs.YtakickbnjbedfaaDoorW.PrintLast Go.Proofs.YtakickbnjbedfaaDoorW.PrintMore Go.Proofs.YtakickbnjbedfaaDoor.PA Go.Proofs.YtakickbnjbedfaaDoor.Num Go.Proofs.YtakickbnjbedfaaDoor.F Go.Proofs.YtakickbnjbedfaaDoor.R
def Held (w W : World) (b b' : Nat) (u v u' v' : Value) (l m l' m' : List Int) : Prop :=
  Pair W b u v ∧ Pair W b' u' v' ∧ Rd W u l ∧ Rd W v m ∧ Rd W u' l' ∧ Rd W v' m' ∧ Below w.heap.size w W
theorem Held.below {w W W' : World} {b b' : Nat} {u v u' v' : Value} {l m l' m' : List Int} (h : Held w W b b' u v u' v' l m l' m') (hb : Below W.heap.size W W') : Held w W' b b' u v u' v' l m l' m' :=
  ⟨h.1.below hb, h.2.1.below hb, h.2.2.1.below hb, h.2.2.2.1.below hb, h.2.2.2.2.1.below hb, h.2.2.2.2.2.1.below hb, below_trans h.2.2.2.2.2.2 hb⟩
theorem Held.start {w : World} {u v u' v' : Value} {l m l' m' : List Int} (hu : Rd w u l) (hv : Rd w v m) (hu' : Rd w u' l') (hv' : Rd w v' m') :
    Held w (box2 w u v u' v') w.heap.size (w.heap.size + 1) u v u' v' l m l' m' := by
  have h1 := (Pair.new w u v).alloc (.cells #[u', v'] 25)
  have h2 := Pair.new (w.alloc (.cells #[u, v] 25)) u' v'
  refine ⟨h1, ?_, hu.box2, hv.box2, hu'.box2, hv'.box2, below_alloc (below_alloc (Below.refl _ _) _) _⟩
  simpa using h2
section
variable {w : World} {u v u' v' : Value} {l m l' m' : List Int}
set_option maxHeartbeats 4000000 in
set_option maxRecDepth 100000 in
theorem tells_large (hu : Rd w u l) (hv : Rd w v m) (hu' : Rd w u' l') (hv' : Rd w v' m') (h : ¬ ((l.length ≤ 70 ∧ m.length ≤ 70) ∧ (l'.length ≤ 70 ∧ m'.length ≤ 70))) :
    Calls Tryd.prog 3 #[.agg #[u, v], .agg #[u', v']] w (OneB w true) := by
  have H0 := Aside0.mk (Held.start hu hv hu' hv')
  by_cases h1 : l.length ≤ 70 ∧ m.length ≤ 70
  · have h2 : ¬ (l'.length ≤ 70 ∧ m'.length ≤ 70) := fun e => h ⟨h1, e⟩
    have C1 := dsmall_c (w := box2 w u v u' v') hu.box2 hv.box2 true (decide_eq_true h1)
    clear h h1
    go_enter Tryd.func3, Tryd.ntmps3
    go_wp2_with fail
    refine C1.mono ?_
    rintro e w1 ⟨rfl, hb⟩
    clear C1
    have H1 := Aside0.mk (H0.out.below hb)
    obtain ⟨⟨x1, x2, x3⟩, ⟨x4, x5, x6⟩, _, _, r3, r4, _⟩ := H1.out
    have C2 := dsmall_c r3 r4 false (decide_eq_false h2)
    clear H0 hb r3 r4 h2
    generalize hg2 : w.heap.size + 1 = g2 at x4 x5 x6
    go_wp2_with fail
    refine C2.mono ?_
    rintro e w2 ⟨rfl, hb⟩
    clear C2 x1 x2 x3 x4 x5 x6
    have C3 := awake3 (w := w2)
    have H2 := Aside0.mk (H1.out.below hb)
    clear H1 hb
    go_wp2_with fail
    refine C3.mono ?_
    rintro e w3 ⟨rfl, hb⟩
    clear C3
    go_wp2_with fail
    go_ret
    exact ⟨rfl, (H2.out.below hb).2.2.2.2.2.2⟩
  · have C1 := dsmall_c (w := box2 w u v u' v') hu.box2 hv.box2 false (decide_eq_false h1)
    clear h h1
    go_enter Tryd.func3, Tryd.ntmps3
    go_wp2_with fail
    refine C1.mono ?_
    rintro e w2 ⟨rfl, hb⟩
    clear C1
    have C3 := awake3 (w := w2)
    have H2 := Aside0.mk (H0.out.below hb)
    clear H0 hb
    go_wp2_with fail
    refine C3.mono ?_
    rintro e w3 ⟨rfl, hb⟩
    clear C3
    go_wp2_with fail
    go_ret
    exact ⟨rfl, (H2.out.below hb).2.2.2.2.2.2⟩
end
end Go.Proofs.YtakickbnjbedfaaDoor.S
