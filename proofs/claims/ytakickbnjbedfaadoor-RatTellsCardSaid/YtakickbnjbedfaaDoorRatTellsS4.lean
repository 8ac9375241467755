/- Part of the proof of Card. -/
import Derived.Test.YtakickbnjbedfaaDoorRatTellsS3
namespace Go.Proofs.YtakickbnjbedfaaDoor.S
set_option linter.unusedVariables false
set_option linter.unusedSimpArgs false
open Go.RowKit Go.Proofs.YtakickbnjbedfaaDoorW.PrintWords Go.Proofs.YtakickbnjbedfaaDoorW.PrintLast Go.Proofs.YtakickbnjbedfaaDoorW.PrintMore Go.Proofs.YtakickbnjbedfaaDoor.PA Go.Proofs.YtakickbnjbedfaaDoor.Num Go.Proofs.YtakickbnjbedfaaDoor.F
def TwoE (w : World) (l m : List Int) (c : Int) (e : Ending) (w' : World) : Prop := ∃ z y, e = .returned (.tuple #[z, y, .int .i64 c]) ∧ Fr w.heap.size w' z l ∧ Fr w.heap.size w' y m ∧ Below w.heap.size w w'
theorem cross_c {w : World} {u v u' v' : Value} {n d n' d' : Nat} (hu : IsN w u n) (hv : IsN w v d) (hu' : IsN w u' n') (hv' : IsN w v' d') (tn : n < top) (td : d < top) (tn' : n' < top) (td' : d' < top) :
    Calls Tryd.prog 78 #[.agg #[u, v], .agg #[u', v']] w (TwoE w (kp (n * d')).1 (kp (n' * d)).1 (mx (kp (n * d')).2 (kp (n' * d)).2)) := by
  obtain ⟨A, c, rfl, hl, hC⟩ := hu.open
  obtain ⟨A1, c1, rfl, hl1, hC1⟩ := hv.open
  obtain ⟨A2, c2, rfl, hl2, hC2⟩ := hu'.open
  obtain ⟨A3, c3, rfl, hl3, hC3⟩ := hv'.open
  have h : Ev (fun k => rat_cross.f k (limbs n) (limbs d) (limbs n') (limbs d')) ((kp (n * d')).1, (kp (n' * d)).1, mx (kp (n * d')).2 (kp (n' * d)).2) :=
    Ev.bind (mul_f n d' tn td') (Ev.bind (mul_f n' d tn' td) (Ev.all fun k => rfl))
  refine ev_calls h fun k hk => ?_
  refine (rat_cross.calls k A c _ A1 c1 _ A2 c2 _ A3 c3 _ _ _ _ w hC hl hC1 hl1 hC2 hl2 hC3 hl3 hk).mono ?_
  rintro e w' ⟨z, y, rfl, hz, hy, hb⟩
  exact ⟨z, y, rfl, Fr.of_R hz, Fr.of_R hy, hb⟩
theorem cross_ok {w : World} {u v u' v' : Value} {n d n' d' : Nat} (hu : IsN w u n) (hv : IsN w v d) (hu' : IsN w u' n') (hv' : IsN w v' d') (tn : n < top) (td : d < top) (tn' : n' < top) (td' : d' < top) (h1 : n * d' < top) (h2 : n' * d < top) :
    Calls Tryd.prog 78 #[.agg #[u, v], .agg #[u', v']] w (TwoE w (limbs (n * d')) (limbs (n' * d)) 0) := by
  have := cross_c hu hv hu' hv' tn td tn' td'
  rw [kp_lt h1, kp_lt h2] at this
  exact this
theorem cross_big {w : World} {u v u' v' : Value} {n d n' d' : Nat} (hu : IsN w u n) (hv : IsN w v d) (hu' : IsN w u' n') (hv' : IsN w v' d') (tn : n < top) (td : d < top) (tn' : n' < top) (td' : d' < top) (h : ¬ (n * d' < top ∧ n' * d < top)) :
    ∃ l m, Calls Tryd.prog 78 #[.agg #[u, v], .agg #[u', v']] w (TwoE w l m 6) := by
  have := cross_c hu hv hu' hv' tn td tn' td'
  by_cases h1 : n * d' < top
  · have h2 : ¬ n' * d < top := fun e => h ⟨h1, e⟩
    rw [kp_lt h1, kp_ge h2] at this
    exact ⟨_, _, this⟩
  · by_cases h2 : n' * d < top
    · rw [kp_ge h1, kp_lt h2] at this
      exact ⟨_, _, this⟩
    · rw [kp_ge h1, kp_ge h2] at this
      exact ⟨_, _, this⟩
section
variable {w : World} {u v u' v' : Value} {n d n' d' : Nat} (f : FuncId)
set_option maxHeartbeats 4000000 in
set_option maxRecDepth 100000 in
theorem joined_bad {l m l' m' : List Int} (hu : Rd w u l) (hv : Rd w v m) (hu' : Rd w u' l') (hv' : Rd w v' m') (hl : Wf 4294967296 l) (hm : Wf 4294967296 m) (hl' : Wf 4294967296 l') (hm' : Wf 4294967296 m') (h : (isRat l m && isRat l' m') = false) :
    Calls Tryd.prog 74 #[.agg #[u, v], .agg #[u', v'], .func (.func f) #[] #[]] w (OneQE w [] [] 1) := by
  have H1 := both_c (w := box3 w u v u' v') hu.box3 hv.box3 hu'.box3 hv'.box3 hl hm hl' hm' _ _ rfl rfl 1 (by rw [h]; rfl)
  clear h
  go_enter Tryd.func74, Tryd.ntmps74
  go_wp2_with fail
  refine H1.mono ?_
  rintro e w1 ⟨rfl, hb1⟩
  clear H1
  obtain ⟨hc, hf⟩ := bcell hb1
  have HB := Aside0.mk (below_box3 hb1)
  go_wp2_with fail
  refine bodyPost_ret (v := .tuple #[zq, .int .i64 1]) (by simp [results, Tryd.results74, go_sem, hc]) rfl ?_
  exact ⟨_, _, rfl, Fr.nil _ _, Fr.nil _ _, below_set (below_set HB.out (by omega)) (by omega)⟩
set_option maxHeartbeats 4000000 in
set_option maxRecDepth 100000 in
theorem joined_den (hu : IsN w u n) (hv : IsN w v d) (hu' : IsN w u' n') (hv' : IsN w v' d') (tn : n < top) (td : d < top) (tn' : n' < top) (td' : d' < top) (h : isRat (limbs n) (limbs d) = true) (h' : isRat (limbs n') (limbs d') = true) (hd : ¬ d * d' < top) :
    Calls Tryd.prog 74 #[.agg #[u, v], .agg #[u', v'], .func (.func f) #[] #[]] w (OneQE w [] [] 6) := by
  have H1 := both_c (w := box3 w u v u' v') (Rd.box3 hu) (Rd.box3 hv) (Rd.box3 hu') (Rd.box3 hv') (wf_limbs _) (wf_limbs _) (wf_limbs _) (wf_limbs _) _ _ h h' 0 rfl
  clear h h'
  go_enter Tryd.func74, Tryd.ntmps74
  go_wp2_with fail
  refine H1.mono ?_
  rintro e w1 ⟨rfl, hb1⟩
  clear H1
  have HB := Aside0.mk (below_box3 hb1)
  have H2 := mul_big (hv.below HB.out) (hv'.below HB.out) td td' hd
  clear hd
  obtain ⟨hc, hf⟩ := bcell hb1
  go_wp2_with fail
  refine H2.mono ?_
  rintro e w2 ⟨z, rfl, hz, hb2⟩
  clear H2 hc hf
  have hb12 := below_trans hb1 hb2
  obtain ⟨hc, hf⟩ := bcell hb12
  go_wp2_with fail
  refine bodyPost_ret (v := .tuple #[zq, .int .i64 6]) (by simp [results, Tryd.results74, go_sem, hc]) rfl ?_
  exact ⟨_, _, rfl, Fr.nil _ _, Fr.nil _ _, below_set (below_set (below_box3 hb12) (by omega)) (by omega)⟩
set_option maxHeartbeats 4000000 in
set_option maxRecDepth 100000 in
theorem joined_cross (hu : IsN w u n) (hv : IsN w v d) (hu' : IsN w u' n') (hv' : IsN w v' d') (tn : n < top) (td : d < top) (tn' : n' < top) (td' : d' < top) (h : isRat (limbs n) (limbs d) = true) (h' : isRat (limbs n') (limbs d') = true) (hd : d * d' < top) (hx : ¬ (n * d' < top ∧ n' * d < top)) :
    Calls Tryd.prog 74 #[.agg #[u, v], .agg #[u', v'], .func (.func f) #[] #[]] w (OneQE w [] [] 6) := by
  have H1 := both_c (w := box3 w u v u' v') (Rd.box3 hu) (Rd.box3 hv) (Rd.box3 hu') (Rd.box3 hv') (wf_limbs _) (wf_limbs _) (wf_limbs _) (wf_limbs _) _ _ h h' 0 rfl
  clear h h'
  go_enter Tryd.func74, Tryd.ntmps74
  go_wp2_with fail
  refine H1.mono ?_
  rintro e w1 ⟨rfl, hb1⟩
  clear H1
  have HB := Aside0.mk (below_box3 hb1)
  have H2 := mul_ok (hv.below HB.out) (hv'.below HB.out) td td' hd
  clear hd
  generalize d * d' = b at *
  obtain ⟨hc, hf⟩ := bcell hb1
  go_wp2_with fail
  refine H2.mono ?_
  rintro e w2 ⟨z, rfl, hz, hb2⟩
  clear H2 hc hf
  have hb12 := below_trans hb1 hb2
  obtain ⟨hc, hf⟩ := bcell hb12
  have HB2 := Aside0.mk (below_trans HB.out hb2)
  obtain ⟨l1, l2, H3⟩ := cross_big (hu.below HB2.out) (hv.below HB2.out) (hu'.below HB2.out) (hv'.below HB2.out) tn td tn' td' hx
  clear hx
  go_wp2_with fail
  refine H3.mono ?_
  rintro e w3 ⟨x1, x2, rfl, hx1, hx2, hb3⟩
  clear H3 hc hf
  have hb13 := below_trans hb12 hb3
  obtain ⟨hc, hf⟩ := bcell hb13
  go_wp2_with fail
  refine bodyPost_ret (v := .tuple #[zq, .int .i64 6]) (by simp [results, Tryd.results74, go_sem, hc]) rfl ?_
  exact ⟨_, _, rfl, Fr.nil _ _, Fr.nil _ _, below_set (below_set (below_box3 hb13) (by omega)) (by omega)⟩
set_option maxHeartbeats 4000000 in
set_option maxRecDepth 100000 in
theorem joined_add_err (hu : IsN w u n) (hv : IsN w v d) (hu' : IsN w u' n') (hv' : IsN w v' d') (tn : n < top) (td : d < top) (tn' : n' < top) (td' : d' < top) (h : isRat (limbs n) (limbs d) = true) (h' : isRat (limbs n') (limbs d') = true) (hd : d * d' < top) (hx1 : n * d' < top) (hx2 : n' * d < top)
    {jl : List Int} {jc : Int} (HJ : ∀ (W : World) (x y : Value), IsN W x (n * d') → IsN W y (n' * d) → Calls Tryd.prog 53 #[x, y] W (OneE W jl jc)) (hj : (jc != 0) = true) :
    Calls Tryd.prog 74 #[.agg #[u, v], .agg #[u', v'], .func (.func 53) #[] #[]] w (OneQE w [] [] jc) := by
  have H1 := both_c (w := box3 w u v u' v') (Rd.box3 hu) (Rd.box3 hv) (Rd.box3 hu') (Rd.box3 hv') (wf_limbs _) (wf_limbs _) (wf_limbs _) (wf_limbs _) _ _ h h' 0 rfl
  clear h h'
  have HJ' := Aside0.mk HJ
  clear HJ
  go_enter Tryd.func74, Tryd.ntmps74
  go_wp2_with fail
  refine H1.mono ?_
  rintro e w1 ⟨rfl, hb1⟩
  clear H1
  have HB := Aside0.mk (below_box3 hb1)
  have H2 := mul_ok (hv.below HB.out) (hv'.below HB.out) td td' hd
  clear hd
  generalize d * d' = b at *
  obtain ⟨hc, hf⟩ := bcell hb1
  go_wp2_with fail
  refine H2.mono ?_
  rintro e w2 ⟨z, rfl, hz, hb2⟩
  clear H2 hc hf
  have hb12 := below_trans hb1 hb2
  obtain ⟨hc, hf⟩ := bcell hb12
  have HB2 := Aside0.mk (below_trans HB.out hb2)
  have H3 := cross_ok (hu.below HB2.out) (hv.below HB2.out) (hu'.below HB2.out) (hv'.below HB2.out) tn td tn' td' hx1 hx2
  clear hx1 hx2
  generalize n * d' = a1 at *
  generalize n' * d = a2 at *
  go_wp2_with fail
  refine H3.mono ?_
  rintro e w3 ⟨x1, x2, rfl, hx1, hx2, hb3⟩
  clear H3 hc hf
  have hb13 := below_trans hb12 hb3
  have H4 := HJ'.out w3 x1 x2 hx1.rd hx2.rd
  go_wp2_with fail
  refine H4.mono ?_
  rintro e w4 ⟨y1, rfl, hy1, hb4⟩
  clear H4
  have hb14 := below_trans hb13 hb4
  obtain ⟨hc, hf⟩ := bcell hb14
  go_wp2_with fail
  refine bodyPost_ret (v := .tuple #[zq, .int .i64 jc]) (by simp [results, Tryd.results74, go_sem, hc]) rfl ?_
  exact ⟨_, _, rfl, Fr.nil _ _, Fr.nil _ _, below_set (below_set (below_box3 hb14) (by omega)) (by omega)⟩
set_option maxHeartbeats 4000000 in
set_option maxRecDepth 100000 in
theorem joined_add_ok (hu : IsN w u n) (hv : IsN w v d) (hu' : IsN w u' n') (hv' : IsN w v' d') (tn : n < top) (td : d < top) (tn' : n' < top) (td' : d' < top) (h : isRat (limbs n) (limbs d) = true) (h' : isRat (limbs n') (limbs d') = true) (d0 : 0 < d * d') (hd : d * d' < top) (hx1 : n * d' < top) (hx2 : n' * d < top)
    {j : Nat} (hj : j < top) (HJ : ∀ (W : World) (x y : Value), IsN W x (n * d') → IsN W y (n' * d) → Calls Tryd.prog 53 #[x, y] W (OneE W (limbs j) 0)) :
    Calls Tryd.prog 74 #[.agg #[u, v], .agg #[u', v'], .func (.func 53) #[] #[]] w (OneQE w (limbs (j / Nat.gcd j (d * d'))) (limbs (d * d' / Nat.gcd j (d * d'))) 0) := by
  have H1 := both_c (w := box3 w u v u' v') (Rd.box3 hu) (Rd.box3 hv) (Rd.box3 hu') (Rd.box3 hv') (wf_limbs _) (wf_limbs _) (wf_limbs _) (wf_limbs _) _ _ h h' 0 rfl
  clear h h'
  have HJ' := Aside0.mk HJ
  clear HJ
  go_enter Tryd.func74, Tryd.ntmps74
  go_wp2_with fail
  refine H1.mono ?_
  rintro e w1 ⟨rfl, hb1⟩
  clear H1
  have HB := Aside0.mk (below_box3 hb1)
  have H2 := mul_ok (hv.below HB.out) (hv'.below HB.out) td td' hd
  generalize d * d' = b at *
  obtain ⟨hc, hf⟩ := bcell hb1
  go_wp2_with fail
  refine H2.mono ?_
  rintro e w2 ⟨z, rfl, hz, hb2⟩
  clear H2 hc hf
  have hb12 := below_trans hb1 hb2
  obtain ⟨hc, hf⟩ := bcell hb12
  have HB2 := Aside0.mk (below_trans HB.out hb2)
  have H3 := cross_ok (hu.below HB2.out) (hv.below HB2.out) (hu'.below HB2.out) (hv'.below HB2.out) tn td tn' td' hx1 hx2
  clear hx1 hx2
  generalize n * d' = a1 at *
  generalize n' * d = a2 at *
  go_wp2_with fail
  refine H3.mono ?_
  rintro e w3 ⟨x1, x2, rfl, hx1, hx2, hb3⟩
  clear H3 hc hf
  have hb13 := below_trans hb12 hb3
  have H4 := HJ'.out w3 x1 x2 hx1.rd hx2.rd
  go_wp2_with fail
  refine H4.mono ?_
  rintro e w4 ⟨y1, rfl, hy1, hb4⟩
  clear H4
  have hb14 := below_trans hb13 hb4
  have H5 := reduce_c hy1.rd ((hz.rd.below hb3).below hb4) hj hd d0
  go_wp2_with fail
  refine H5.mono ?_
  rintro e w5 ⟨q1, q2, rfl, hq1, hq2, hb5⟩
  clear H5
  have hb15 := below_trans hb14 hb5
  obtain ⟨hc, hf⟩ := bcell hb15
  have hlt : w.heap.size + 1 + 1 < w4.heap.size := by have := hb14.size; simp at this; omega
  have F1 := hq1.lower (N' := w.heap.size + 1 + 1 + 1) (by omega)
  have F2 := hq2.lower (N' := w.heap.size + 1 + 1 + 1) (by omega)
  obtain ⟨A1, k1, rfl, _, _⟩ := Rd.open hq1.rd
  obtain ⟨A2, k2, rfl, _, _⟩ := Rd.open hq2.rd
  go_wp2_with fail
  refine bodyPost_ret (v := .tuple #[.agg #[.slice A1 (limbs (j / j.gcd b)).length k1, .slice A2 (limbs (b / j.gcd b)).length k2], .int .i64 0]) (by simp [results, Tryd.results74, go_sem, hc]) rfl ?_
  refine ⟨_, _, rfl, ?_, ?_, ?_⟩
  · exact ((F1.far (p := ⟨w.heap.size + 1 + 1, 0, none⟩) (by simp) _).far (p := ⟨w.heap.size + 1 + 1, 1, none⟩) (by simp) _).lower (by omega)
  · exact ((F2.far (p := ⟨w.heap.size + 1 + 1, 0, none⟩) (by simp) _).far (p := ⟨w.heap.size + 1 + 1, 1, none⟩) (by simp) _).lower (by omega)
  · exact below_set (below_set (below_box3 hb15) (by omega)) (by omega)
set_option maxHeartbeats 4000000 in
set_option maxRecDepth 100000 in
theorem joined_sub_err (hu : IsN w u n) (hv : IsN w v d) (hu' : IsN w u' n') (hv' : IsN w v' d') (tn : n < top) (td : d < top) (tn' : n' < top) (td' : d' < top) (h : isRat (limbs n) (limbs d) = true) (h' : isRat (limbs n') (limbs d') = true) (hd : d * d' < top) (hx1 : n * d' < top) (hx2 : n' * d < top)
    {jl : List Int} {jc : Int} (HJ : ∀ (W : World) (x y : Value), IsN W x (n * d') → IsN W y (n' * d) → Calls Tryd.prog 75 #[x, y] W (OneE W jl jc)) (hj : (jc != 0) = true) :
    Calls Tryd.prog 74 #[.agg #[u, v], .agg #[u', v'], .func (.func 75) #[] #[]] w (OneQE w [] [] jc) := by
  have H1 := both_c (w := box3 w u v u' v') (Rd.box3 hu) (Rd.box3 hv) (Rd.box3 hu') (Rd.box3 hv') (wf_limbs _) (wf_limbs _) (wf_limbs _) (wf_limbs _) _ _ h h' 0 rfl
  clear h h'
  have HJ' := Aside0.mk HJ
  clear HJ
  go_enter Tryd.func74, Tryd.ntmps74
  go_wp2_with fail
  refine H1.mono ?_
  rintro e w1 ⟨rfl, hb1⟩
  clear H1
  have HB := Aside0.mk (below_box3 hb1)
  have H2 := mul_ok (hv.below HB.out) (hv'.below HB.out) td td' hd
  clear hd
  generalize d * d' = b at *
  obtain ⟨hc, hf⟩ := bcell hb1
  go_wp2_with fail
  refine H2.mono ?_
  rintro e w2 ⟨z, rfl, hz, hb2⟩
  clear H2 hc hf
  have hb12 := below_trans hb1 hb2
  obtain ⟨hc, hf⟩ := bcell hb12
  have HB2 := Aside0.mk (below_trans HB.out hb2)
  have H3 := cross_ok (hu.below HB2.out) (hv.below HB2.out) (hu'.below HB2.out) (hv'.below HB2.out) tn td tn' td' hx1 hx2
  clear hx1 hx2
  generalize n * d' = a1 at *
  generalize n' * d = a2 at *
  go_wp2_with fail
  refine H3.mono ?_
  rintro e w3 ⟨x1, x2, rfl, hx1, hx2, hb3⟩
  clear H3 hc hf
  have hb13 := below_trans hb12 hb3
  have H4 := HJ'.out w3 x1 x2 hx1.rd hx2.rd
  go_wp2_with fail
  refine H4.mono ?_
  rintro e w4 ⟨y1, rfl, hy1, hb4⟩
  clear H4
  have hb14 := below_trans hb13 hb4
  obtain ⟨hc, hf⟩ := bcell hb14
  go_wp2_with fail
  refine bodyPost_ret (v := .tuple #[zq, .int .i64 jc]) (by simp [results, Tryd.results74, go_sem, hc]) rfl ?_
  exact ⟨_, _, rfl, Fr.nil _ _, Fr.nil _ _, below_set (below_set (below_box3 hb14) (by omega)) (by omega)⟩
set_option maxHeartbeats 4000000 in
set_option maxRecDepth 100000 in
theorem joined_sub_ok (hu : IsN w u n) (hv : IsN w v d) (hu' : IsN w u' n') (hv' : IsN w v' d') (tn : n < top) (td : d < top) (tn' : n' < top) (td' : d' < top) (h : isRat (limbs n) (limbs d) = true) (h' : isRat (limbs n') (limbs d') = true) (d0 : 0 < d * d') (hd : d * d' < top) (hx1 : n * d' < top) (hx2 : n' * d < top)
    {j : Nat} (hj : j < top) (HJ : ∀ (W : World) (x y : Value), IsN W x (n * d') → IsN W y (n' * d) → Calls Tryd.prog 75 #[x, y] W (OneE W (limbs j) 0)) :
    Calls Tryd.prog 74 #[.agg #[u, v], .agg #[u', v'], .func (.func 75) #[] #[]] w (OneQE w (limbs (j / Nat.gcd j (d * d'))) (limbs (d * d' / Nat.gcd j (d * d'))) 0) := by
  have H1 := both_c (w := box3 w u v u' v') (Rd.box3 hu) (Rd.box3 hv) (Rd.box3 hu') (Rd.box3 hv') (wf_limbs _) (wf_limbs _) (wf_limbs _) (wf_limbs _) _ _ h h' 0 rfl
  clear h h'
  have HJ' := Aside0.mk HJ
  clear HJ
  go_enter Tryd.func74, Tryd.ntmps74
  go_wp2_with fail
  refine H1.mono ?_
  rintro e w1 ⟨rfl, hb1⟩
  clear H1
  have HB := Aside0.mk (below_box3 hb1)
  have H2 := mul_ok (hv.below HB.out) (hv'.below HB.out) td td' hd
  generalize d * d' = b at *
  obtain ⟨hc, hf⟩ := bcell hb1
  go_wp2_with fail
  refine H2.mono ?_
  rintro e w2 ⟨z, rfl, hz, hb2⟩
  clear H2 hc hf
  have hb12 := below_trans hb1 hb2
  obtain ⟨hc, hf⟩ := bcell hb12
  have HB2 := Aside0.mk (below_trans HB.out hb2)
  have H3 := cross_ok (hu.below HB2.out) (hv.below HB2.out) (hu'.below HB2.out) (hv'.below HB2.out) tn td tn' td' hx1 hx2
  clear hx1 hx2
  generalize n * d' = a1 at *
  generalize n' * d = a2 at *
  go_wp2_with fail
  refine H3.mono ?_
  rintro e w3 ⟨x1, x2, rfl, hx1, hx2, hb3⟩
  clear H3 hc hf
  have hb13 := below_trans hb12 hb3
  have H4 := HJ'.out w3 x1 x2 hx1.rd hx2.rd
  go_wp2_with fail
  refine H4.mono ?_
  rintro e w4 ⟨y1, rfl, hy1, hb4⟩
  clear H4
  have hb14 := below_trans hb13 hb4
  have H5 := reduce_c hy1.rd ((hz.rd.below hb3).below hb4) hj hd d0
  go_wp2_with fail
  refine H5.mono ?_
  rintro e w5 ⟨q1, q2, rfl, hq1, hq2, hb5⟩
  clear H5
  have hb15 := below_trans hb14 hb5
  obtain ⟨hc, hf⟩ := bcell hb15
  have hlt : w.heap.size + 1 + 1 < w4.heap.size := by have := hb14.size; simp at this; omega
  have F1 := hq1.lower (N' := w.heap.size + 1 + 1 + 1) (by omega)
  have F2 := hq2.lower (N' := w.heap.size + 1 + 1 + 1) (by omega)
  obtain ⟨A1, k1, rfl, _, _⟩ := Rd.open hq1.rd
  obtain ⟨A2, k2, rfl, _, _⟩ := Rd.open hq2.rd
  go_wp2_with fail
  refine bodyPost_ret (v := .tuple #[.agg #[.slice A1 (limbs (j / j.gcd b)).length k1, .slice A2 (limbs (b / j.gcd b)).length k2], .int .i64 0]) (by simp [results, Tryd.results74, go_sem, hc]) rfl ?_
  refine ⟨_, _, rfl, ?_, ?_, ?_⟩
  · exact ((F1.far (p := ⟨w.heap.size + 1 + 1, 0, none⟩) (by simp) _).far (p := ⟨w.heap.size + 1 + 1, 1, none⟩) (by simp) _).lower (by omega)
  · exact ((F2.far (p := ⟨w.heap.size + 1 + 1, 0, none⟩) (by simp) _).far (p := ⟨w.heap.size + 1 + 1, 1, none⟩) (by simp) _).lower (by omega)
  · exact below_set (below_set (below_box3 hb15) (by omega)) (by omega)
end
section
variable {w : World} {u v u' v' : Value} {n d n' d' : Nat}
set_option maxHeartbeats 4000000 in
set_option maxRecDepth 100000 in
theorem radd_of {l m : List Int} {c : Int} (H : ∀ W, Below w.heap.size w W → Calls Tryd.prog 74 #[.agg #[u, v], .agg #[u', v'], .func (.func 53) #[] #[]] W (OneQE W l m c)) :
    Calls Tryd.prog 20 #[.agg #[u, v], .agg #[u', v']] w (OneQE w l m c) := by
  have H1 := H (box3 w u v u' v') (below_box3 (Below.refl _ _))
  clear H
  go_enter Tryd.func20, Tryd.ntmps20
  go_wp2_with fail
  refine H1.mono ?_
  rintro e w1 ⟨q1, q2, rfl, hq1, hq2, hb1⟩
  clear H1
  obtain ⟨hc, hf⟩ := bcell hb1
  have F1 := hq1.lower (N' := w.heap.size + 1 + 1 + 1) (by simp)
  have F2 := hq2.lower (N' := w.heap.size + 1 + 1 + 1) (by simp)
  obtain ⟨A1, k1, rfl, _, _⟩ := Rd.open hq1.rd
  obtain ⟨A2, k2, rfl, _, _⟩ := Rd.open hq2.rd
  go_wp2_with fail
  refine bodyPost_ret (v := .tuple #[.agg #[.slice A1 l.length k1, .slice A2 m.length k2], .int .i64 c]) (by simp [results, Tryd.results20, go_sem, hc]) rfl ?_
  refine ⟨_, _, rfl, ?_, ?_, ?_⟩
  · exact ((F1.far (p := ⟨w.heap.size + 1 + 1, 0, none⟩) (by simp) _).far (p := ⟨w.heap.size + 1 + 1, 1, none⟩) (by simp) _).lower (by omega)
  · exact ((F2.far (p := ⟨w.heap.size + 1 + 1, 0, none⟩) (by simp) _).far (p := ⟨w.heap.size + 1 + 1, 1, none⟩) (by simp) _).lower (by omega)
  · exact below_set (below_set (below_box3 hb1) (by omega)) (by omega)
set_option maxHeartbeats 4000000 in
set_option maxRecDepth 100000 in
theorem rsub_of {l m : List Int} {c : Int} (H : ∀ W, Below w.heap.size w W → Calls Tryd.prog 74 #[.agg #[u, v], .agg #[u', v'], .func (.func 75) #[] #[]] W (OneQE W l m c)) :
    Calls Tryd.prog 21 #[.agg #[u, v], .agg #[u', v']] w (OneQE w l m c) := by
  have H1 := H (box3 w u v u' v') (below_box3 (Below.refl _ _))
  clear H
  go_enter Tryd.func21, Tryd.ntmps21
  go_wp2_with fail
  refine H1.mono ?_
  rintro e w1 ⟨q1, q2, rfl, hq1, hq2, hb1⟩
  clear H1
  obtain ⟨hc, hf⟩ := bcell hb1
  have F1 := hq1.lower (N' := w.heap.size + 1 + 1 + 1) (by simp)
  have F2 := hq2.lower (N' := w.heap.size + 1 + 1 + 1) (by simp)
  obtain ⟨A1, k1, rfl, _, _⟩ := Rd.open hq1.rd
  obtain ⟨A2, k2, rfl, _, _⟩ := Rd.open hq2.rd
  go_wp2_with fail
  refine bodyPost_ret (v := .tuple #[.agg #[.slice A1 l.length k1, .slice A2 m.length k2], .int .i64 c]) (by simp [results, Tryd.results21, go_sem, hc]) rfl ?_
  refine ⟨_, _, rfl, ?_, ?_, ?_⟩
  · exact ((F1.far (p := ⟨w.heap.size + 1 + 1, 0, none⟩) (by simp) _).far (p := ⟨w.heap.size + 1 + 1, 1, none⟩) (by simp) _).lower (by omega)
  · exact ((F2.far (p := ⟨w.heap.size + 1 + 1, 0, none⟩) (by simp) _).far (p := ⟨w.heap.size + 1 + 1, 1, none⟩) (by simp) _).lower (by omega)
  · exact below_set (below_set (below_box3 hb1) (by omega)) (by omega)
def jo (j : List Int × Int) (jn : Nat) (n d n' d' : Nat) : List Int × List Int × Int :=
  if d * d' < top ∧ n * d' < top ∧ n' * d < top then (if j.2 = 0 then (limbs (jn / Nat.gcd jn (d * d')), limbs (d * d' / Nat.gcd jn (d * d')), 0) else ([], [], j.2)) else ([], [], 6)
theorem radd_c (hu : IsN w u n) (hv : IsN w v d) (hu' : IsN w u' n') (hv' : IsN w v' d') (tn : n < top) (td : d < top) (tn' : n' < top) (td' : d' < top) (d0 : 0 < d) (d0' : 0 < d') (h : isRat (limbs n) (limbs d) = true) (h' : isRat (limbs n') (limbs d') = true) :
    ∃ r, r = jo (kp (n * d' + n' * d)) (n * d' + n' * d) n d n' d' ∧ Calls Tryd.prog 20 #[.agg #[u, v], .agg #[u', v']] w (OneQE w r.1 r.2.1 r.2.2) := by
  refine ⟨_, rfl, radd_of fun W hb => ?_⟩
  have au := hu.below hb
  have av := hv.below hb
  have au' := hu'.below hb
  have av' := hv'.below hb
  unfold jo
  by_cases h1 : d * d' < top
  · by_cases h2 : n * d' < top ∧ n' * d < top
    · rw [if_pos ⟨h1, h2.1, h2.2⟩]
      by_cases h3 : n * d' + n' * d < top
      · rw [kp_lt h3, if_pos rfl]
        refine joined_add_ok au av au' av' tn td tn' td' h h' (Nat.mul_pos d0 d0') h1 h2.1 h2.2 h3 fun W' x y hx hy => ?_
        have := add_c hx hy h2.1 h2.2
        rw [kp_lt h3] at this
        exact this
      · rw [kp_ge h3, if_neg (by decide)]
        refine joined_add_err au av au' av' tn td tn' td' h h' h1 h2.1 h2.2 (jl := []) (jc := 6) (fun W' x y hx hy => ?_) (by decide)
        have := add_c hx hy h2.1 h2.2
        rw [kp_ge h3] at this
        exact this
    · rw [if_neg (fun e => h2 e.2)]
      exact joined_cross 53 au av au' av' tn td tn' td' h h' h1 h2
  · rw [if_neg (fun e => h1 e.1)]
    exact joined_den 53 au av au' av' tn td tn' td' h h' h1
theorem rsub_c (hu : IsN w u n) (hv : IsN w v d) (hu' : IsN w u' n') (hv' : IsN w v' d') (tn : n < top) (td : d < top) (tn' : n' < top) (td' : d' < top) (d0 : 0 < d) (d0' : 0 < d') (h : isRat (limbs n) (limbs d) = true) (h' : isRat (limbs n') (limbs d') = true) :
    ∃ r, r = jo (sb (n * d') (n' * d)) (n * d' - n' * d) n d n' d' ∧ Calls Tryd.prog 21 #[.agg #[u, v], .agg #[u', v']] w (OneQE w r.1 r.2.1 r.2.2) := by
  refine ⟨_, rfl, rsub_of fun W hb => ?_⟩
  have au := hu.below hb
  have av := hv.below hb
  have au' := hu'.below hb
  have av' := hv'.below hb
  unfold jo
  by_cases h1 : d * d' < top
  · by_cases h2 : n * d' < top ∧ n' * d < top
    · rw [if_pos ⟨h1, h2.1, h2.2⟩]
      by_cases h3 : n * d' < n' * d
      · have e : sb (n * d') (n' * d) = ([], 1) := if_pos h3
        rw [e, if_neg (by decide)]
        refine joined_sub_err au av au' av' tn td tn' td' h h' h1 h2.1 h2.2 (jl := []) (jc := 1) (fun W' x y hx hy => ?_) (by decide)
        have := sub_c hx hy h2.1 h2.2
        rw [e] at this
        exact this
      · have e : sb (n * d') (n' * d) = (limbs (n * d' - n' * d), 0) := if_neg h3
        rw [e, if_pos rfl]
        refine joined_sub_ok au av au' av' tn td tn' td' h h' (Nat.mul_pos d0 d0') h1 h2.1 h2.2 (Nat.lt_of_le_of_lt (Nat.sub_le _ _) h2.1) fun W' x y hx hy => ?_
        have := sub_c hx hy h2.1 h2.2
        rw [e] at this
        exact this
    · rw [if_neg (fun e => h2 e.2)]
      exact joined_cross 75 au av au' av' tn td tn' td' h h' h1 h2
  · rw [if_neg (fun e => h1 e.1)]
    exact joined_den 75 au av au' av' tn td tn' td' h h' h1
theorem radd_bad {l m l' m' : List Int} (hu : Rd w u l) (hv : Rd w v m) (hu' : Rd w u' l') (hv' : Rd w v' m') (hl : Wf 4294967296 l) (hm : Wf 4294967296 m) (hl' : Wf 4294967296 l') (hm' : Wf 4294967296 m') (h : (isRat l m && isRat l' m') = false) :
    Calls Tryd.prog 20 #[.agg #[u, v], .agg #[u', v']] w (OneQE w [] [] 1) :=
  radd_of fun W hb => joined_bad 53 (hu.below hb) (hv.below hb) (hu'.below hb) (hv'.below hb) hl hm hl' hm' h
theorem rsub_bad {l m l' m' : List Int} (hu : Rd w u l) (hv : Rd w v m) (hu' : Rd w u' l') (hv' : Rd w v' m') (hl : Wf 4294967296 l) (hm : Wf 4294967296 m) (hl' : Wf 4294967296 l') (hm' : Wf 4294967296 m') (h : (isRat l m && isRat l' m') = false) :
    Calls Tryd.prog 21 #[.agg #[u, v], .agg #[u', v']] w (OneQE w [] [] 1) :=
  rsub_of fun W hb => joined_bad 75 (hu.below hb) (hv.below hb) (hu'.below hb) (hv'.below hb) hl hm hl' hm' h
def OneIE (w : World) (r c : Int) (e : Ending) (w' : World) : Prop := e = .returned (.tuple #[.int .i64 r, .int .i64 c]) ∧ Below w.heap.size w w'
abbrev box2 (w : World) (u v u' v' : Value) : World := (w.alloc (.cells #[u, v] 25)).alloc (.cells #[u', v'] 25)
theorem Rd.box2 {w : World} {u v u' v' x : Value} {l : List Int} (h : Rd w x l) : Rd (box2 w u v u' v') x l := (h.alloc _).alloc _
set_option maxHeartbeats 4000000 in
set_option maxRecDepth 100000 in
theorem rcmp_bad {l m l' m' : List Int} (hu : Rd w u l) (hv : Rd w v m) (hu' : Rd w u' l') (hv' : Rd w v' m') (hl : Wf 4294967296 l) (hm : Wf 4294967296 m) (hl' : Wf 4294967296 l') (hm' : Wf 4294967296 m') (h : (isRat l m && isRat l' m') = false) :
    Calls Tryd.prog 24 #[.agg #[u, v], .agg #[u', v']] w (OneIE w 0 1) := by
  have H1 := both_c (w := box2 w u v u' v') hu.box2 hv.box2 hu'.box2 hv'.box2 hl hm hl' hm' _ _ rfl rfl 1 (by rw [h]; rfl)
  clear h
  go_enter Tryd.func24, Tryd.ntmps24
  go_wp2_with fail
  refine H1.mono ?_
  rintro e w1 ⟨rfl, hb1⟩
  clear H1
  have HB := Aside0.mk (below_box2 hb1)
  go_wp2_with fail
  go_ret2
  exact ⟨rfl, HB.out⟩
set_option maxHeartbeats 4000000 in
set_option maxRecDepth 100000 in
theorem rcmp_good (hu : IsN w u n) (hv : IsN w v d) (hu' : IsN w u' n') (hv' : IsN w v' d') (tn : n < top) (td : d < top) (tn' : n' < top) (td' : d' < top) (h : isRat (limbs n) (limbs d) = true) (h' : isRat (limbs n') (limbs d') = true) (h1 : n * d' < top) (h2 : n' * d < top) (r : Int) (hr : ord ((n * d' : Nat) : Int) ((n' * d : Nat) : Int) = r) :
    Calls Tryd.prog 24 #[.agg #[u, v], .agg #[u', v']] w (OneIE w r 0) := by
  have H1 := both_c (w := box2 w u v u' v') (Rd.box2 hu) (Rd.box2 hv) (Rd.box2 hu') (Rd.box2 hv') (wf_limbs _) (wf_limbs _) (wf_limbs _) (wf_limbs _) _ _ h h' 0 rfl
  have HR := Aside0.mk hr
  clear h h' hr
  go_enter Tryd.func24, Tryd.ntmps24
  go_wp2_with fail
  refine H1.mono ?_
  rintro e w1 ⟨rfl, hb1⟩
  clear H1
  have HB := Aside0.mk (below_box2 hb1)
  have H3 := cross_ok (hu.below HB.out) (hv.below HB.out) (hu'.below HB.out) (hv'.below HB.out) tn td tn' td' h1 h2
  generalize n * d' = a1 at *
  generalize n' * d = a2 at *
  obtain ⟨hc, hf⟩ := bcell hb1
  go_wp2_with fail
  refine H3.mono ?_
  rintro e w2 ⟨x1, x2, rfl, hx1, hx2, hb2⟩
  clear H3 hc hf
  have H4 := cmp_c hx1.rd hx2.rd h1 h2
  rw [HR.out] at H4
  go_wp2_with fail
  refine H4.mono ?_
  rintro e w3 ⟨rfl, hb3⟩
  clear H4
  go_wp2_with fail
  go_ret2
  exact ⟨rfl, below_trans HB.out (below_trans hb2 hb3)⟩
set_option maxHeartbeats 4000000 in
set_option maxRecDepth 100000 in
theorem rcmp_big (hu : IsN w u n) (hv : IsN w v d) (hu' : IsN w u' n') (hv' : IsN w v' d') (tn : n < top) (td : d < top) (tn' : n' < top) (td' : d' < top) (h : isRat (limbs n) (limbs d) = true) (h' : isRat (limbs n') (limbs d') = true) (hx : ¬ (n * d' < top ∧ n' * d < top)) :
    Calls Tryd.prog 24 #[.agg #[u, v], .agg #[u', v']] w (OneIE w 0 6) := by
  have H1 := both_c (w := box2 w u v u' v') (Rd.box2 hu) (Rd.box2 hv) (Rd.box2 hu') (Rd.box2 hv') (wf_limbs _) (wf_limbs _) (wf_limbs _) (wf_limbs _) _ _ h h' 0 rfl
  clear h h'
  go_enter Tryd.func24, Tryd.ntmps24
  go_wp2_with fail
  refine H1.mono ?_
  rintro e w1 ⟨rfl, hb1⟩
  clear H1
  have HB := Aside0.mk (below_box2 hb1)
  obtain ⟨l1, l2, H3⟩ := cross_big (hu.below HB.out) (hv.below HB.out) (hu'.below HB.out) (hv'.below HB.out) tn td tn' td' hx
  clear hx
  obtain ⟨hc, hf⟩ := bcell hb1
  go_wp2_with fail
  refine H3.mono ?_
  rintro e w2 ⟨x1, x2, rfl, hx1, hx2, hb2⟩
  clear H3 hc hf
  go_wp2_with fail
  go_ret2
  exact ⟨rfl, below_trans HB.out hb2⟩
end
end Go.Proofs.YtakickbnjbedfaaDoor.S
