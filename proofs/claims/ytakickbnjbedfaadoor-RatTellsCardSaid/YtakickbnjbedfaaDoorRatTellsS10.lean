/- Part of the proof of Card. -/
import Derived.Deep.RegionHeld3
import Derived.Deep.DeepCutAuto
import Derived.Test.YtakickbnjbedfaaDoorRatTellsS9
namespace Go.Proofs.YtakickbnjbedfaaDoor.S
set_option linter.unusedVariables false
set_option linter.unusedSimpArgs false
open Go.RowKit Go.Proofs.YtakickbnjbedfaaDoorW.PrintWords Go.Proofs.YtakickbnjbedfaaDoorW.PrintLast Go.Proofs.YtakickbnjbedfaaDoorW.PrintMore Go.Proofs.YtakickbnjbedfaaDoor.PA Go.Proofs.YtakickbnjbedfaaDoor.Num Go.Proofs.YtakickbnjbedfaaDoor.F Go.Proofs.YtakickbnjbedfaaDoor.R
theorem Rd.sl {w : World} {v : Value} {l : List Int} (h : Rd w v l) : ∃ A n c, v = .slice A n c := by
  obtain ⟨A, c, e, _, _⟩ := h.open
  exact ⟨A, _, c, e⟩
def Pair (W : World) (b : Nat) (x y : Value) : Prop := b < W.heap.size ∧ W.cell? ⟨b, 0, none⟩ = some x ∧ W.cell? ⟨b, 1, none⟩ = some y
theorem Pair.below {W W' : World} {b : Nat} {x y : Value} (h : Pair W b x y) (hb : Below W.heap.size W W') : Pair W' b x y := by
  have := bcell hb
  exact ⟨Nat.lt_of_lt_of_le h.1 hb.size, by rw [this.1 _ _ h.1]; exact h.2.1, by rw [this.1 _ _ h.1]; exact h.2.2⟩
theorem Pair.alloc {W : World} {b : Nat} {x y : Value} (h : Pair W b x y) (o : Obj) : Pair (W.alloc o) b x y := h.below (below_alloc (Below.refl _ _) o)
theorem Pair.new (W : World) (x y : Value) : Pair (W.alloc (.cells #[x, y] 25)) W.heap.size x y := ⟨by simp, by simp, by simp⟩
theorem bcell3 {w w1 : World} (h : Below w.heap.size w w1) : (∀ b o, b < w.heap.size → w1.cell? ⟨b, o, none⟩ = w.cell? ⟨b, o, none⟩) ∧ (∀ b o, b < w.heap.size → w1.frozen? ⟨b, o, none⟩ = w.frozen? ⟨b, o, none⟩) ∧ (∀ b, b < w.heap.size → b < w1.heap.size) :=
  ⟨(bcell h).1, (bcell h).2, fun b hb => Nat.lt_of_lt_of_le hb h.size⟩
theorem whole_of {W0 W : World} (hb : Below W0.heap.size W0 W) : Calls Tryd.prog 68 #[.int .u64 0] W fun e w' => ∃ z y, e = .returned (.agg #[z, y]) ∧ IsN w' z 0 ∧ IsN w' y 1 ∧ Below W0.heap.size W0 w' ∧ Below W.heap.size W w' := by
  refine (whole_c (w := W) (k := 0) (by decide)).mono ?_
  rintro e w' ⟨z, y, rfl, hz, hy, hb2⟩
  exact ⟨z, y, rfl, hz.rd, hy.rd, below_trans hb hb2, hb2⟩
theorem div_of {W0 W1 W : World} {u v u' v' : Value} (hu : IsN W0 u 1) (hv : IsN W0 v 2) (hu' : IsN W1 u' 0) (hv' : IsN W1 v' 1) (hb : Below W0.heap.size W0 W) (hb1 : Below W1.heap.size W1 W) :
    Calls Tryd.prog 23 #[.agg #[u, v], .agg #[u', v']] W fun e w' => ∃ z y, e = .returned (.tuple #[.agg #[z, y], .int .i64 7]) ∧ Rd w' z [] ∧ Rd w' y [] ∧ Below W0.heap.size W0 w' ∧ Below W.heap.size W w' := by
  refine (aw_div (hu.below hb) (hv.below hb) (hu'.below hb1) (hv'.below hb1)).mono ?_
  rintro e w' ⟨z, y, rfl, hz, hy, hb2⟩
  exact ⟨z, y, rfl, hz.rd, hy.rd, below_trans hb hb2, hb2⟩
set_option maxHeartbeats 4000000 in
set_option maxRecDepth 100000 in
theorem awake3 {w : World} : Calls Tryd.prog 17 #[] w (OneB w true) := by
  have p2 : IsN ((w.alloc (.cells #[.int .u32 2] 55)).alloc (.cells #[.int .u32 4] 55)) (.slice (some ⟨w.heap.size, 0, none⟩) 1 1) 2 := (lit1 (n := 2) rfl (by decide) (by decide)).alloc _
  have p4 : IsN ((w.alloc (.cells #[.int .u32 2] 55)).alloc (.cells #[.int .u32 4] 55)) (.slice (some ⟨w.heap.size + 1, 0, none⟩) 1 1) 4 := by
    have := lit1 (w := w.alloc (.cells #[.int .u32 2] 55)) (n := 4) (x := 4) rfl (by decide) (by decide)
    simpa using this
  have H1 := aw_make p2 p4
  have HB := Aside0.mk (below_alloc (below_alloc (Below.refl w.heap.size w) (.cells #[.int .u32 2] 55)) (.cells #[.int .u32 4] 55))
  clear p2 p4
  go_enter Tryd.func17, Tryd.ntmps17
  go_wp2_with fail
  refine H1.mono ?_
  rintro e w1 ⟨z, y, rfl, hz, hy, hb⟩
  clear H1
  obtain ⟨A1, n1, c1, rfl⟩ := hz.rd.sl
  obtain ⟨A2, n2, c2, rfl⟩ := hy.rd.sl
  have HB1 := Aside0.mk (below_trans HB.out hb)
  have a1 := Aside0.mk hz.rd
  have a2 := Aside0.mk hy.rd
  clear HB hz hy hb
  have t1 := Aside0.mk (Pair.new w1 (.slice A1 n1 c1) (.slice A2 n2 c2))
  have hB2 := below_alloc (below_alloc (below_alloc (Below.refl w1.heap.size w1) (.cells #[.slice A1 n1 c1, .slice A2 n2 c2] 25)) (.cells #[.int .u32 1] 55)) (.cells #[.int .u32 6] 55)
  have q1 : IsN (((w1.alloc (.cells #[.slice A1 n1 c1, .slice A2 n2 c2] 25)).alloc (.cells #[.int .u32 1] 55)).alloc (.cells #[.int .u32 6] 55)) (.slice (some ⟨w1.heap.size + 1, 0, none⟩) 1 1) 1 := by
    have := (lit1 (w := w1.alloc (.cells #[.slice A1 n1 c1, .slice A2 n2 c2] 25)) (n := 1) (x := 1) rfl (by decide) (by decide)).alloc (.cells #[.int .u32 6] 55)
    simpa using this
  have q2 : IsN (((w1.alloc (.cells #[.slice A1 n1 c1, .slice A2 n2 c2] 25)).alloc (.cells #[.int .u32 1] 55)).alloc (.cells #[.int .u32 6] 55)) (.slice (some ⟨w1.heap.size + 1 + 1, 0, none⟩) 1 1) 6 := by
    have := lit1 (w := (w1.alloc (.cells #[.slice A1 n1 c1, .slice A2 n2 c2] 25)).alloc (.cells #[.int .u32 1] 55)) (n := 6) (x := 6) rfl (by decide) (by decide)
    simpa using this
  have H2 := aw_make6 q1 q2
  clear q1 q2
  have T1 := Aside0.mk ((t1.out.alloc (.cells #[.int .u32 1] 55)).alloc (.cells #[.int .u32 6] 55))
  have HB2 := Aside0.mk (below_trans HB1.out hB2)
  clear hB2
  go_wp2_with fail
  refine H2.mono ?_
  rintro e w2 ⟨z, y, rfl, hz, hy, hb⟩
  clear H2
  obtain ⟨A3, n3, c3, rfl⟩ := hz.rd.sl
  obtain ⟨A4, n4, c4, rfl⟩ := hy.rd.sl
  have U1 := Aside0.mk ((T1.out.below hb).alloc (.cells #[.slice A3 n3 c3, .slice A4 n4 c4] 25))
  have U2 := Aside0.mk (Pair.new w2 (.slice A3 n3 c3) (.slice A4 n4 c4))
  have b1 := Aside0.mk (((((a1.out.alloc (.cells #[.slice A1 n1 c1, .slice A2 n2 c2] 25)).alloc (.cells #[.int .u32 1] 55)).alloc (.cells #[.int .u32 6] 55)).below hb).alloc (.cells #[.slice A3 n3 c3, .slice A4 n4 c4] 25))
  have b2 := Aside0.mk (((((a2.out.alloc (.cells #[.slice A1 n1 c1, .slice A2 n2 c2] 25)).alloc (.cells #[.int .u32 1] 55)).alloc (.cells #[.int .u32 6] 55)).below hb).alloc (.cells #[.slice A3 n3 c3, .slice A4 n4 c4] 25))
  have b3 := Aside0.mk (hz.rd.alloc (.cells #[.slice A3 n3 c3, .slice A4 n4 c4] 25))
  have b4 := Aside0.mk (hy.rd.alloc (.cells #[.slice A3 n3 c3, .slice A4 n4 c4] 25))
  have HB3 := Aside0.mk (below_alloc (below_trans HB2.out hb) (.cells #[.slice A3 n3 c3, .slice A4 n4 c4] 25))
  clear T1 t1 a1 a2 HB1 HB2 hz hy hb
  generalize w1.heap.size = g1 at *
  obtain ⟨u1, u2, u3⟩ := U1.out
  obtain ⟨u4, u5, u6⟩ := U2.out
  have H3 := aw_add b1.out b2.out b3.out b4.out
  go_wp2_with fail
  refine H3.mono ?_
  rintro e w3 ⟨z, y, rfl, hz, hy, hb⟩
  clear H3
  obtain ⟨A5, n5, c5, rfl⟩ := hz.rd.sl
  obtain ⟨A6, n6, c6, rfl⟩ := hy.rd.sl
  have V1 := Aside0.mk ((U1.out.below hb).alloc (.cells #[.slice A5 n5 c5, .slice A6 n6 c6] 25))
  have V2 := Aside0.mk ((U2.out.below hb).alloc (.cells #[.slice A5 n5 c5, .slice A6 n6 c6] 25))
  have V3 := Aside0.mk (Pair.new w3 (.slice A5 n5 c5) (.slice A6 n6 c6))
  have d1 := Aside0.mk ((b1.out.below hb).alloc (.cells #[.slice A5 n5 c5, .slice A6 n6 c6] 25))
  have d2 := Aside0.mk ((b2.out.below hb).alloc (.cells #[.slice A5 n5 c5, .slice A6 n6 c6] 25))
  have d3 := Aside0.mk ((b3.out.below hb).alloc (.cells #[.slice A5 n5 c5, .slice A6 n6 c6] 25))
  have d4 := Aside0.mk ((b4.out.below hb).alloc (.cells #[.slice A5 n5 c5, .slice A6 n6 c6] 25))
  have d5 := Aside0.mk (hz.rd.alloc (.cells #[.slice A5 n5 c5, .slice A6 n6 c6] 25))
  have d6 := Aside0.mk (hy.rd.alloc (.cells #[.slice A5 n5 c5, .slice A6 n6 c6] 25))
  have HB4 := Aside0.mk (below_alloc (below_trans HB3.out hb) (.cells #[.slice A5 n5 c5, .slice A6 n6 c6] 25))
  clear U1 U2 u1 u2 u3 u4 u5 u6 b1 b2 b3 b4 HB3 hz hy hb
  go_upto_region 4 with fail
  generalize w2.heap.size = g2 at *
  generalize w3.heap.size = g3 at *
  generalize w3.alloc (.cells #[.slice A5 n5 c5, .slice A6 n6 c6] 25) = W3 at *
  go_cut [7, 8] from 31 to 36 (fun v7 v8 wx => v8 = .int .i64 7 ∧ Below W3.heap.size W3 wx)
  case first =>
    have hbd := Aside0.mk (pw_below_drewN (Below.refl W3.heap.size W3) 1)
    obtain ⟨_, v2, v3⟩ := (V1.out.below hbd.out)
    have hf1 := And.intro v2 v3
    clear v2 v3
    have HF := fun W (h : Below W3.heap.size W3 W) => (V1.out.below h).2
    have HFA := Aside0.mk HF
    clear HF
    go_region_held3 (fun W => W.cell? ⟨g1, 0, none⟩ = some (.slice A1 n1 c1) ∧ W.cell? ⟨g1, 1, none⟩ = some (.slice A2 n2 c2)) (first | exact hf1 | exact HFA.out _ (below_alloc Hb5.out _) | exact HFA.out _ Hb6.out | exact HFA.out _ Hb5.out | exact HFA.out _ (below_alloc hbd.out _) | exact HFA.out _ (below_set (below_set Hb6.out Hb5.out.size) Hb5.out.size) | exact HFA.out _ (below_set (below_set Hb6.out (Nat.le_refl _)) (Nat.le_refl _)) | exact HFA.out _ (below_alloc Hb6.out _)) (first
      | (go_at_call 68; refine (whole_of (W0 := W3) ?_).mono ?_; (first | exact hbd.out | exact below_alloc hbd.out _); rintro e w5 ⟨z, y, rfl, hz, hy, hb5, hb5'⟩; have hq5 := bcell3 hb5'; have Hb5 := Aside0.mk hb5; have Hz := Aside0.mk hz; have Hy := Aside0.mk hy; clear hb5 hb5' hz hy)
      | (go_at_call 23; refine (div_of (W0 := W3) d1.out d2.out Hz.out Hy.out ?_ ?_).mono ?_; (first | exact Hb5.out | exact below_alloc Hb5.out _); (first | exact Below.refl _ _ | exact below_alloc (Below.refl _ _) _); rintro e w6 ⟨z6, y6, rfl, hz6, hy6, hb6, hb6'⟩; obtain ⟨A7, n7, c7, rfl⟩ := hz6.sl; obtain ⟨A8, n8, c8, rfl⟩ := hy6.sl; have hq6 := bcell3 hb6'; have Hb6 := Aside0.mk hb6; clear hb6 hb6' hz6 hy6))
    all_goals (go_wp2_with fail; go_meet)
    all_goals first | exact ⟨rfl, below_alloc Hb6.out _⟩ | exact ⟨rfl, below_set (below_set Hb6.out Hb5.out.size) Hb5.out.size⟩ | exact ⟨rfl, below_set (below_set Hb6.out (Nat.le_refl _)) (Nat.le_refl _)⟩ | trace_state
  case rest =>
    obtain ⟨rfl, hbc⟩ := hcut
    have e1 := Aside0.mk (d1.out.below hbc)
    have e2 := Aside0.mk (d2.out.below hbc)
    have e3 := Aside0.mk (d3.out.below hbc)
    have e4 := Aside0.mk (d4.out.below hbc)
    have e5 := Aside0.mk (d5.out.below hbc)
    have e6 := Aside0.mk (d6.out.below hbc)
    have P1 := Aside0.mk (V1.out.below hbc)
    have P2 := Aside0.mk (V2.out.below hbc)
    have P3 := Aside0.mk (V3.out.below hbc)
    have HB5 := Aside0.mk (below_trans HB4.out hbc)
    clear d1 d2 d3 d4 d5 d6 V1 V2 V3 HB4 hbc
    have H5 := aw_sub e3.out e4.out e1.out e2.out
    obtain ⟨x1, x2, x3⟩ := P1.out
    obtain ⟨x4, x5, x6⟩ := P2.out
    go_wp2_with fail
    refine H5.mono ?_
    rintro e w7 ⟨z, y, rfl, hz, hy, hb⟩
    clear H5 x1 x2 x3 x4 x5 x6
    obtain ⟨A7, n7, c7, rfl⟩ := hz.rd.sl
    obtain ⟨A8, n8, c8, rfl⟩ := hy.rd.sl
    have hb' := below_alloc hb (.cells #[.slice A7 n7 c7, .slice A8 n8 c8] 25)
    have f1 := Aside0.mk (e1.out.below hb')
    have f2 := Aside0.mk (e2.out.below hb')
    have f3 := Aside0.mk (e3.out.below hb')
    have f4 := Aside0.mk (e4.out.below hb')
    have f5 := Aside0.mk (e5.out.below hb')
    have f6 := Aside0.mk (e6.out.below hb')
    have Q1 := Aside0.mk (P1.out.below hb')
    have Q2 := Aside0.mk (P2.out.below hb')
    have Q3 := Aside0.mk (P3.out.below hb')
    have HB6 := Aside0.mk (below_trans HB5.out hb')
    clear e1 e2 e3 e4 e5 e6 P1 P2 P3 HB5 hb hb' hz hy
    have H6 := aw_cmp f3.out f4.out f1.out f2.out
    obtain ⟨x1, x2, x3⟩ := Q1.out
    obtain ⟨x4, x5, x6⟩ := Q2.out
    go_wp2_with fail
    refine H6.mono ?_
    rintro e w8 ⟨rfl, hb⟩
    clear H6 x1 x2 x3 x4 x5 x6
    have HB7 := Aside0.mk (below_trans HB6.out hb)
    have h5 := f5.out.below hb
    have h6 := f6.out.below hb
    have h1 := Aside0.mk (f1.out.below hb)
    have h2 := Aside0.mk (f2.out.below hb)
    have Q1 := Aside0.mk (Q1.out.below hb)
    have Q3 := Q3.out.below hb
    clear f1 f2 f3 f4 f5 f6 Q2 HB6 hb
    have H7 := aw_text h5 h6
    obtain ⟨x1, x2, x3⟩ := Q3
    clear h5 h6
    go_wp2_with fail
    refine H7.mono ?_
    rintro e w9 ⟨rfl, hb⟩
    clear H7 x1 x2 x3
    have HB8 := Aside0.mk (below_trans HB7.out hb)
    have H8 := aw_right (h1.out.below hb) (h2.out.below hb)
    obtain ⟨x1, x2, x3⟩ := Q1.out.below hb
    clear h1 h2 Q1 HB7 hb
    go_wp2_with fail
    refine H8.mono ?_
    rintro e w10 ⟨rfl, hb⟩
    clear H8 x1 x2 x3
    have p2 : IsN ((w10.alloc (.cells #[.int .u32 2] 55)).alloc (.cells #[.int .u32 4] 55)) (.slice (some ⟨w10.heap.size, 0, none⟩) 1 1) 2 := (lit1 (n := 2) rfl (by decide) (by decide)).alloc _
    have p4 : IsN ((w10.alloc (.cells #[.int .u32 2] 55)).alloc (.cells #[.int .u32 4] 55)) (.slice (some ⟨w10.heap.size + 1, 0, none⟩) 1 1) 4 := by
      have := lit1 (w := w10.alloc (.cells #[.int .u32 2] 55)) (n := 4) (x := 4) rfl (by decide) (by decide)
      simpa using this
    have H9 := aw_wrong p2 p4
    have HB9 := Aside0.mk (below_alloc (below_alloc (below_trans HB8.out hb) (.cells #[.int .u32 2] 55)) (.cells #[.int .u32 4] 55))
    clear p2 p4 HB8 hb
    go_wp2_with fail
    refine H9.mono ?_
    rintro e w11 ⟨rfl, hb⟩
    clear H9
    have H10 := whole_of (Below.refl w11.heap.size w11)
    have HB10 := Aside0.mk (below_trans HB9.out hb)
    clear HB9 hb
    go_wp2_with fail
    refine H10.mono ?_
    rintro e w12 ⟨z, y, rfl, hz, hy, hb, _⟩
    clear H10
    have H11 := aw_text0 hz hy
    have HB11 := Aside0.mk (below_trans HB10.out hb)
    clear HB10 hb hz hy
    go_wp2_with fail
    refine H11.mono ?_
    rintro e w13 ⟨rfl, hb⟩
    clear H11
    go_wp2_with fail
    go_ret
    exact ⟨rfl, below_trans HB11.out hb⟩
end Go.Proofs.YtakickbnjbedfaaDoor.S
