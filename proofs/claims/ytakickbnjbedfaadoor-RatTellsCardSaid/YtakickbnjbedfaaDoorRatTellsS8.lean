/- Part of the proof of Card. -/
import Derived.Test.YtakickbnjbedfaaDoorRatTellsS7
namespace Go.Proofs.YtakickbnjbedfaaDoor.S
set_option linter.unusedVariables false
set_option linter.unusedSimpArgs false
open Go.RowKit Go.Proofs.YtakickbnjbedfaaDoorW.PrintWords Go.Proofs.YtakickbnjbedfaaDoorW.PrintLast Go.Proofs.YtakickbnjbedfaaDoorW.PrintMore Go.Proofs.YtakickbnjbedfaaDoor.PA Go.Proofs.YtakickbnjbedfaaDoor.Num Go.Proofs.YtakickbnjbedfaaDoor.F Go.Proofs.YtakickbnjbedfaaDoor.R
section
variable {w : World} {u v u' v' : Value} {n d n' d' : Nat}
theorem dmul_of {w W : World} {u v : Value} {a b : Nat} (hu : IsN w u a) (hv : IsN w v b) (la : a < top) (lb : b < top) (hb : Below w.heap.size w W) :
    Calls Tryd.prog 79 #[u, v] W fun e w' => ∃ z, e = .returned z ∧ Fr w.heap.size w' z (limbs (a * b)) ∧ Below w.heap.size w w' ∧ Below W.heap.size W w' := by
  refine (dmul_c (hu.below hb) (hv.below hb) (by have := len_top.2 la; omega) (by have := len_top.2 lb; omega)).mono ?_
  rintro e w' ⟨z, rfl, hz, hb2⟩
  exact ⟨z, rfl, hz.lower hb.size, below_trans hb hb2, hb2⟩
def Four (w : World) (u v u' v' : Value) (W : World) : Prop := (W.cell? ⟨w.heap.size, 0, none⟩ = some u ∧ W.cell? ⟨w.heap.size, 1, none⟩ = some v) ∧ (W.cell? ⟨w.heap.size + 1, 0, none⟩ = some u' ∧ W.cell? ⟨w.heap.size + 1, 1, none⟩ = some v')
theorem four_of {W : World} (h : Below (box3 w u v u' v').heap.size (box3 w u v u' v') W) : Four w u v u' v' W := by
  have h1 := bcell h
  have hs : w.heap.size + 1 < (box3 w u v u' v').heap.size := by simp [box3]
  have hs0 : w.heap.size < (box3 w u v u' v').heap.size := by omega
  refine ⟨⟨?_, ?_⟩, ?_, ?_⟩ <;> (first | rw [h1.1 _ _ hs] | rw [h1.1 _ _ hs0]) <;> simp [box3, go_sem]
set_option maxHeartbeats 4000000 in
set_option maxRecDepth 100000 in
theorem do_mul (hu : IsN w u n) (hv : IsN w v d) (hu' : IsN w u' n') (hv' : IsN w v' d') (tn : n < top) (td : d < top) (tn' : n' < top) (td' : d' < top) (d0 : 0 < d) (d0' : 0 < d') (h1 : n * n' < top) (h2 : d * d' < top) :
    Calls Tryd.prog 29 #[.int .i64 3, .agg #[u, v], .agg #[u', v']] w (OneQE w (limbs (n * n' / Nat.gcd (n * n') (d * d'))) (limbs (d * d' / Nat.gcd (n * n') (d * d'))) 0) := by
  have hbd := Aside0.mk (pw_below_drewN (Below.refl (box3 w u v u' v').heap.size (box3 w u v u' v')) 1)
  have Hu := Aside0.mk (Rd.box3 (u := u) (v := v) (u' := u') (v' := v') hu)
  have Hv := Aside0.mk (Rd.box3 (u := u) (v := v) (u' := u') (v' := v') hv)
  have Hu' := Aside0.mk (Rd.box3 (u := u) (v := v) (u' := u') (v' := v') hu')
  have Hv' := Aside0.mk (Rd.box3 (u := u) (v := v) (u' := u') (v' := v') hv')
  have hp0 := Nat.mul_pos d0 d0'
  have hf0 := four_of (Below.refl (box3 w u v u' v').heap.size (box3 w u v u' v'))
  have hf1 := four_of hbd.out
  go_enter Tryd.func29, Tryd.ntmps29
  go_wp2_with fail
  unfold Four at hf0 hf1
  go_region_held3 (fun W => (W.cell? ⟨w.heap.size, 0, none⟩ = some u ∧ W.cell? ⟨w.heap.size, 1, none⟩ = some v) ∧ (W.cell? ⟨w.heap.size + 1, 0, none⟩ = some (u') ∧ W.cell? ⟨w.heap.size + 1, 1, none⟩ = some v')) (first | exact hf3 | exact hf2 | exact hf1) (first
    | (go_at_call_of 79 u; refine (dmul_of Hu.out Hu'.out tn tn' ?_).mono ?_; (first | exact hbd.out); rintro e w2 ⟨z, rfl, hz, hb2, hb2'⟩; have hf2 := four_of hb2; unfold Four at hf2; have Hb2 := Aside0.mk hb2; have Hb2' := Aside0.mk hb2'; have Hz := Aside0.mk hz; clear hb2 hb2' hz)
    | (go_at_call_of 79 v; refine (dmul_of Hv.out Hv'.out td td' ?_).mono ?_; (first | exact Hb2.out); rintro e w3 ⟨y, rfl, hy, hb3, hb3'⟩; have hf3 := four_of hb3; unfold Four at hf3; have Hb3 := Aside0.mk hb3; have Hb3' := Aside0.mk hb3'; have Hy := Aside0.mk hy; clear hb3 hb3' hy))
  all_goals (
    have hz1 := (Hz.out.below Hb3'.out)
    have hB3 := Hb3.out
    generalize n * n' = x at *
    generalize d * d' = y0 at *
    have H3 := dbig_c hz1.rd Hy.out.rd (Rd.nil _) false (decide_eq_false (by have := len_top.2 h1; have := len_top.2 h2; simp; omega))
    clear hf0 hf1 hf2 hf3 hbd Hb2 Hb2' Hb3 Hb3' Hu Hv Hu' Hv'
    go_wp2_with fail
    refine H3.mono ?_
    rintro e w4 ⟨rfl, hb4⟩
    clear H3
    have hB4 := below_trans hB3 hb4
    have H4 := dred_c (hz1.rd.below hb4) (Hy.out.rd.below hb4) hp0 (by have := len_top.2 h1; omega) (by have := len_top.2 h2; omega)
    generalize limbs (x / Nat.gcd x y0) = L1 at *
    generalize limbs (y0 / Nat.gcd x y0) = L2 at *
    clear hz1 Hy Hz hb4 h1 h2 hp0 hu hv hu' hv' tn td tn' td' d0 d0'
    go_wp2_with fail
    refine H4.mono ?_
    rintro e w5 ⟨z1, y1, rfl, hz5, hy5, hb5⟩
    clear H4
    have hB5 := below_trans hB4 hb5
    obtain ⟨hc, hf⟩ := bcell hB5
    have hlt : w.heap.size + 1 + 1 < w4.heap.size := by have := hB4.size; simp at this; omega
    have F1 := hz5.lower (N' := w.heap.size + 1 + 1 + 1) (by omega)
    have F2 := hy5.lower (N' := w.heap.size + 1 + 1 + 1) (by omega)
    obtain ⟨A1, k1, rfl, _, _⟩ := Rd.open hz5.rd
    obtain ⟨A2, k2, rfl, _, _⟩ := Rd.open hy5.rd
    go_wp2_with fail
    refine bodyPost_ret (v := .tuple #[.agg #[.slice A1 L1.length k1, .slice A2 L2.length k2], .int .i64 0]) (by simp [results, Tryd.results29, go_sem, hc]) rfl ?_
    refine ⟨_, _, rfl, ?_, ?_, ?_⟩
    · exact ((F1.far (p := ⟨w.heap.size + 1 + 1, 0, none⟩) (by simp) _).far (p := ⟨w.heap.size + 1 + 1, 1, none⟩) (by simp) _).lower (by omega)
    · exact ((F2.far (p := ⟨w.heap.size + 1 + 1, 0, none⟩) (by simp) _).far (p := ⟨w.heap.size + 1 + 1, 1, none⟩) (by simp) _).lower (by omega)
    · exact below_set (below_set (below_box3 hB5) (by omega)) (by omega))
set_option maxHeartbeats 4000000 in
set_option maxRecDepth 100000 in
theorem do_mul_big (hu : IsN w u n) (hv : IsN w v d) (hu' : IsN w u' n') (hv' : IsN w v' d') (tn : n < top) (td : d < top) (tn' : n' < top) (td' : d' < top) (d0 : 0 < d) (d0' : 0 < d') (hx : ¬ (n * n' < top ∧ d * d' < top)) :
    Calls Tryd.prog 29 #[.int .i64 3, .agg #[u, v], .agg #[u', v']] w (OneQE w [] [] 6) := by
  have hbd := Aside0.mk (pw_below_drewN (Below.refl (box3 w u v u' v').heap.size (box3 w u v u' v')) 1)
  have Hu := Aside0.mk (Rd.box3 (u := u) (v := v) (u' := u') (v' := v') hu)
  have Hv := Aside0.mk (Rd.box3 (u := u) (v := v) (u' := u') (v' := v') hv)
  have Hu' := Aside0.mk (Rd.box3 (u := u) (v := v) (u' := u') (v' := v') hu')
  have Hv' := Aside0.mk (Rd.box3 (u := u) (v := v) (u' := u') (v' := v') hv')
  have hp0 := Nat.mul_pos d0 d0'
  have hf0 := four_of (Below.refl (box3 w u v u' v').heap.size (box3 w u v u' v'))
  have hf1 := four_of hbd.out
  go_enter Tryd.func29, Tryd.ntmps29
  go_wp2_with fail
  unfold Four at hf0 hf1
  go_region_held3 (fun W => (W.cell? ⟨w.heap.size, 0, none⟩ = some u ∧ W.cell? ⟨w.heap.size, 1, none⟩ = some v) ∧ (W.cell? ⟨w.heap.size + 1, 0, none⟩ = some (u') ∧ W.cell? ⟨w.heap.size + 1, 1, none⟩ = some v')) (first | exact hf3 | exact hf2 | exact hf1) (first
    | (go_at_call_of 79 u; refine (dmul_of Hu.out Hu'.out tn tn' ?_).mono ?_; (first | exact hbd.out); rintro e w2 ⟨z, rfl, hz, hb2, hb2'⟩; have hf2 := four_of hb2; unfold Four at hf2; have Hb2 := Aside0.mk hb2; have Hb2' := Aside0.mk hb2'; have Hz := Aside0.mk hz; clear hb2 hb2' hz)
    | (go_at_call_of 79 v; refine (dmul_of Hv.out Hv'.out td td' ?_).mono ?_; (first | exact Hb2.out); rintro e w3 ⟨y, rfl, hy, hb3, hb3'⟩; have hf3 := four_of hb3; unfold Four at hf3; have Hb3 := Aside0.mk hb3; have Hb3' := Aside0.mk hb3'; have Hy := Aside0.mk hy; clear hb3 hb3' hy))
  all_goals (
    have hz1 := (Hz.out.below Hb3'.out)
    have hB3 := Hb3.out
    generalize n * n' = x at *
    generalize d * d' = y0 at *
    have H3 := dbig_c hz1.rd Hy.out.rd (Rd.nil _) true (decide_eq_true (by rcases Nat.lt_or_ge x top with q | q; (have := mt len_top.1 (fun q2 => hx ⟨q, q2⟩); omega); (have := mt len_top.1 (show ¬ x < top by omega); omega)))
    clear hf0 hf1 hf2 hf3 hbd Hb2 Hb2' Hb3 Hb3' Hu Hv Hu' Hv'
    go_wp2_with fail
    refine H3.mono ?_
    rintro e w4 ⟨rfl, hb4⟩
    clear H3
    have hB4 := below_trans hB3 hb4
    obtain ⟨hc, hf⟩ := bcell hB4
    have hlt : w.heap.size + 1 + 1 < w4.heap.size := by have := hB4.size; simp at this; omega
    go_wp2_with fail
    refine bodyPost_ret (v := .tuple #[zq, .int .i64 6]) (by simp [results, Tryd.results29, go_sem, hc]) rfl ?_
    exact ⟨_, _, rfl, Fr.nil _ _, Fr.nil _ _, below_set (below_set (below_box3 hB4) (by omega)) (by omega)⟩)
set_option maxHeartbeats 4000000 in
set_option maxRecDepth 100000 in
theorem do_div (hu : IsN w u n) (hv : IsN w v d) (hu' : IsN w u' n') (hv' : IsN w v' d') (tn : n < top) (td : d < top) (tn' : n' < top) (td' : d' < top) (d0 : 0 < d) (d0' : 0 < d') (n0 : 0 < n') (h1 : n * d' < top) (h2 : n' * d < top) :
    Calls Tryd.prog 29 #[.int .i64 4, .agg #[u, v], .agg #[u', v']] w (OneQE w (limbs (n * d' / Nat.gcd (n * d') (n' * d))) (limbs (n' * d / Nat.gcd (n * d') (n' * d))) 0) := by
  obtain ⟨A', c', e0, _, _⟩ := Rd.open hu'
  subst e0
  obtain ⟨L, hL⟩ : ∃ L, (limbs n').length = L := ⟨_, rfl⟩
  rw [hL] at hu' ⊢
  have hLp : 0 < L := by rw [← hL]; have := mt limbs_len0.1 (show ¬ n' = 0 by omega); omega
  have hLn : ¬ L = 0 := by omega
  have hbd := Aside0.mk (pw_below_drewN (Below.refl (box3 w u v (.slice A' L c') v').heap.size (box3 w u v (.slice A' L c') v')) 1)
  have Hu := Aside0.mk (Rd.box3 (u := u) (v := v) (u' := (.slice A' L c')) (v' := v') hu)
  have Hv := Aside0.mk (Rd.box3 (u := u) (v := v) (u' := (.slice A' L c')) (v' := v') hv)
  have Hu' := Aside0.mk (Rd.box3 (u := u) (v := v) (u' := (.slice A' L c')) (v' := v') hu')
  have Hv' := Aside0.mk (Rd.box3 (u := u) (v := v) (u' := (.slice A' L c')) (v' := v') hv')
  have hp0 := Nat.mul_pos d0 d0'
  have hf0 := four_of (Below.refl (box3 w u v (.slice A' L c') v').heap.size (box3 w u v (.slice A' L c') v'))
  have hf1 := four_of hbd.out
  go_enter Tryd.func29, Tryd.ntmps29
  go_wp2_with fail
  unfold Four at hf0 hf1
  go_region_held3 (fun W => (W.cell? ⟨w.heap.size, 0, none⟩ = some u ∧ W.cell? ⟨w.heap.size, 1, none⟩ = some v) ∧ (W.cell? ⟨w.heap.size + 1, 0, none⟩ = some ((.slice A' L c')) ∧ W.cell? ⟨w.heap.size + 1, 1, none⟩ = some v')) (first | exact hf3 | exact hf2 | exact hf1) (first
    | (go_at_call_of 79 u; refine (dmul_of Hu.out Hv'.out tn td' ?_).mono ?_; (first | exact hbd.out); rintro e w2 ⟨z, rfl, hz, hb2, hb2'⟩; have hf2 := four_of hb2; unfold Four at hf2; have Hb2 := Aside0.mk hb2; have Hb2' := Aside0.mk hb2'; have Hz := Aside0.mk hz; clear hb2 hb2' hz)
    | (go_at_call_of 79 v; refine (dmul_of Hu'.out Hv.out tn' td ?_).mono ?_; (first | exact Hb2.out); rintro e w3 ⟨y, rfl, hy, hb3, hb3'⟩; have hf3 := four_of hb3; unfold Four at hf3; have Hb3 := Aside0.mk hb3; have Hb3' := Aside0.mk hb3'; have Hy := Aside0.mk hy; clear hb3 hb3' hy))
  all_goals (
    have hz1 := (Hz.out.below Hb3'.out)
    have hB3 := Hb3.out
    have hp1 := Nat.mul_pos n0 d0
    generalize n * d' = x at *
    generalize n' * d = y0 at *
    have H3 := dbig_c hz1.rd Hy.out.rd (Rd.nil _) false (decide_eq_false (by have := len_top.2 h1; have := len_top.2 h2; simp; omega))
    clear hf0 hf1 hf2 hbd Hb2 Hb2' Hb3 Hb3' Hu Hv Hu' Hv'
    go_wp2_with fail
    refine H3.mono ?_
    rintro e w4 ⟨rfl, hb4⟩
    clear H3
    have hB4 := below_trans hB3 hb4
    have H4 := dred_c (hz1.rd.below hb4) (Hy.out.rd.below hb4) hp1 (by have := len_top.2 h1; omega) (by have := len_top.2 h2; omega)
    generalize limbs (x / Nat.gcd x y0) = L1 at *
    generalize limbs (y0 / Nat.gcd x y0) = L2 at *
    clear hz1 Hy Hz hb4 h1 h2 hp0 hp1 hu hv hu' hv' tn td tn' td' d0 d0' hf3
    go_wp2_with fail
    refine H4.mono ?_
    rintro e w5 ⟨z1, y1, rfl, hz5, hy5, hb5⟩
    clear H4
    have hB5 := below_trans hB4 hb5
    obtain ⟨hc, hf⟩ := bcell hB5
    have hlt : w.heap.size + 1 + 1 < w4.heap.size := by have := hB4.size; simp at this; omega
    have F1 := hz5.lower (N' := w.heap.size + 1 + 1 + 1) (by omega)
    have F2 := hy5.lower (N' := w.heap.size + 1 + 1 + 1) (by omega)
    obtain ⟨A1, k1, rfl, _, _⟩ := Rd.open hz5.rd
    obtain ⟨A2, k2, rfl, _, _⟩ := Rd.open hy5.rd
    go_wp2_with fail
    refine bodyPost_ret (v := .tuple #[.agg #[.slice A1 L1.length k1, .slice A2 L2.length k2], .int .i64 0]) (by simp [results, Tryd.results29, go_sem, hc]) rfl ?_
    refine ⟨_, _, rfl, ?_, ?_, ?_⟩
    · exact ((F1.far (p := ⟨w.heap.size + 1 + 1, 0, none⟩) (by simp) _).far (p := ⟨w.heap.size + 1 + 1, 1, none⟩) (by simp) _).lower (by omega)
    · exact ((F2.far (p := ⟨w.heap.size + 1 + 1, 0, none⟩) (by simp) _).far (p := ⟨w.heap.size + 1 + 1, 1, none⟩) (by simp) _).lower (by omega)
    · exact below_set (below_set (below_box3 hB5) (by omega)) (by omega))
set_option maxHeartbeats 4000000 in
set_option maxRecDepth 100000 in
theorem do_div_big (hu : IsN w u n) (hv : IsN w v d) (hu' : IsN w u' n') (hv' : IsN w v' d') (tn : n < top) (td : d < top) (tn' : n' < top) (td' : d' < top) (d0 : 0 < d) (d0' : 0 < d') (n0 : 0 < n') (hx : ¬ (n * d' < top ∧ n' * d < top)) :
    Calls Tryd.prog 29 #[.int .i64 4, .agg #[u, v], .agg #[u', v']] w (OneQE w [] [] 6) := by
  obtain ⟨A', c', e0, _, _⟩ := Rd.open hu'
  subst e0
  obtain ⟨L, hL⟩ : ∃ L, (limbs n').length = L := ⟨_, rfl⟩
  rw [hL] at hu' ⊢
  have hLp : 0 < L := by rw [← hL]; have := mt limbs_len0.1 (show ¬ n' = 0 by omega); omega
  have hLn : ¬ L = 0 := by omega
  have hbd := Aside0.mk (pw_below_drewN (Below.refl (box3 w u v (.slice A' L c') v').heap.size (box3 w u v (.slice A' L c') v')) 1)
  have Hu := Aside0.mk (Rd.box3 (u := u) (v := v) (u' := (.slice A' L c')) (v' := v') hu)
  have Hv := Aside0.mk (Rd.box3 (u := u) (v := v) (u' := (.slice A' L c')) (v' := v') hv)
  have Hu' := Aside0.mk (Rd.box3 (u := u) (v := v) (u' := (.slice A' L c')) (v' := v') hu')
  have Hv' := Aside0.mk (Rd.box3 (u := u) (v := v) (u' := (.slice A' L c')) (v' := v') hv')
  have hp0 := Nat.mul_pos d0 d0'
  have hf0 := four_of (Below.refl (box3 w u v (.slice A' L c') v').heap.size (box3 w u v (.slice A' L c') v'))
  have hf1 := four_of hbd.out
  go_enter Tryd.func29, Tryd.ntmps29
  go_wp2_with fail
  unfold Four at hf0 hf1
  go_region_held3 (fun W => (W.cell? ⟨w.heap.size, 0, none⟩ = some u ∧ W.cell? ⟨w.heap.size, 1, none⟩ = some v) ∧ (W.cell? ⟨w.heap.size + 1, 0, none⟩ = some ((.slice A' L c')) ∧ W.cell? ⟨w.heap.size + 1, 1, none⟩ = some v')) (first | exact hf3 | exact hf2 | exact hf1) (first
    | (go_at_call_of 79 u; refine (dmul_of Hu.out Hv'.out tn td' ?_).mono ?_; (first | exact hbd.out); rintro e w2 ⟨z, rfl, hz, hb2, hb2'⟩; have hf2 := four_of hb2; unfold Four at hf2; have Hb2 := Aside0.mk hb2; have Hb2' := Aside0.mk hb2'; have Hz := Aside0.mk hz; clear hb2 hb2' hz)
    | (go_at_call_of 79 v; refine (dmul_of Hu'.out Hv.out tn' td ?_).mono ?_; (first | exact Hb2.out); rintro e w3 ⟨y, rfl, hy, hb3, hb3'⟩; have hf3 := four_of hb3; unfold Four at hf3; have Hb3 := Aside0.mk hb3; have Hb3' := Aside0.mk hb3'; have Hy := Aside0.mk hy; clear hb3 hb3' hy))
  all_goals (
    have hz1 := (Hz.out.below Hb3'.out)
    have hB3 := Hb3.out
    generalize n * d' = x at *
    generalize n' * d = y0 at *
    have H3 := dbig_c hz1.rd Hy.out.rd (Rd.nil _) true (decide_eq_true (by rcases Nat.lt_or_ge x top with q | q; (have := mt len_top.1 (fun q2 => hx ⟨q, q2⟩); omega); (have := mt len_top.1 (show ¬ x < top by omega); omega)))
    clear hf0 hf1 hf2 hbd Hb2 Hb2' Hb3 Hb3' Hu Hv Hu' Hv'
    go_wp2_with fail
    refine H3.mono ?_
    rintro e w4 ⟨rfl, hb4⟩
    clear H3
    have hB4 := below_trans hB3 hb4
    clear hf3
    obtain ⟨hc, hf⟩ := bcell hB4
    have hlt : w.heap.size + 1 + 1 < w4.heap.size := by have := hB4.size; simp at this; omega
    go_wp2_with fail
    refine bodyPost_ret (v := .tuple #[zq, .int .i64 6]) (by simp [results, Tryd.results29, go_sem, hc]) rfl ?_
    exact ⟨_, _, rfl, Fr.nil _ _, Fr.nil _ _, below_set (below_set (below_box3 hB4) (by omega)) (by omega)⟩)
set_option maxHeartbeats 4000000 in
set_option maxRecDepth 100000 in
theorem do_div_zero (hu : IsN w u n) (hv : IsN w v d) (hu' : IsN w u' n') (hv' : IsN w v' d') (tn : n < top) (td : d < top) (tn' : n' < top) (td' : d' < top) (d0 : 0 < d) (d0' : 0 < d') (hn0 : n' = 0) :
    Calls Tryd.prog 29 #[.int .i64 4, .agg #[u, v], .agg #[u', v']] w (OneQE w [] [] 7) := by
  obtain ⟨A', c', e0, _, _⟩ := Rd.open hu'
  subst e0
  obtain ⟨L, hL⟩ : ∃ L, (limbs n').length = L := ⟨_, rfl⟩
  rw [hL] at hu' ⊢
  have hLz : L = 0 := by rw [← hL]; exact limbs_len0.2 hn0
  subst hLz
  clear hL hn0
  have hbd := Aside0.mk (pw_below_drewN (Below.refl (box3 w u v (.slice A' 0 c') v').heap.size (box3 w u v (.slice A' 0 c') v')) 1)
  have Hu := Aside0.mk (Rd.box3 (u := u) (v := v) (u' := (.slice A' 0 c')) (v' := v') hu)
  have Hv := Aside0.mk (Rd.box3 (u := u) (v := v) (u' := (.slice A' 0 c')) (v' := v') hv)
  have Hu' := Aside0.mk (Rd.box3 (u := u) (v := v) (u' := (.slice A' 0 c')) (v' := v') hu')
  have Hv' := Aside0.mk (Rd.box3 (u := u) (v := v) (u' := (.slice A' 0 c')) (v' := v') hv')
  have hp0 := Nat.mul_pos d0 d0'
  have hf0 := four_of (Below.refl (box3 w u v (.slice A' 0 c') v').heap.size (box3 w u v (.slice A' 0 c') v'))
  have hf1 := four_of hbd.out
  go_enter Tryd.func29, Tryd.ntmps29
  go_wp2_with fail
  unfold Four at hf0 hf1
  go_region_held3 (fun W => (W.cell? ⟨w.heap.size, 0, none⟩ = some u ∧ W.cell? ⟨w.heap.size, 1, none⟩ = some v) ∧ (W.cell? ⟨w.heap.size + 1, 0, none⟩ = some ((.slice A' 0 c')) ∧ W.cell? ⟨w.heap.size + 1, 1, none⟩ = some v')) (first | exact hf3 | exact hf2 | exact hf1) (first
    | (go_at_call_of 79 u; refine (dmul_of Hu.out Hv'.out tn td' ?_).mono ?_; (first | exact hbd.out); rintro e w2 ⟨z, rfl, hz, hb2, hb2'⟩; have hf2 := four_of hb2; unfold Four at hf2; have Hb2 := Aside0.mk hb2; have Hb2' := Aside0.mk hb2'; have Hz := Aside0.mk hz; clear hb2 hb2' hz)
    | (go_at_call_of 79 v; refine (dmul_of Hu'.out Hv.out tn' td ?_).mono ?_; (first | exact Hb2.out); rintro e w3 ⟨y, rfl, hy, hb3, hb3'⟩; have hf3 := four_of hb3; unfold Four at hf3; have Hb3 := Aside0.mk hb3; have Hb3' := Aside0.mk hb3'; have Hy := Aside0.mk hy; clear hb3 hb3' hy))
  all_goals (
    have hz1 := (Hz.out.below Hb3'.out)
    have hB3 := Hb3.out
    clear hf0 hf1 hf2 hbd Hb2 Hb2' Hb3 Hb3' Hu Hv Hu' Hv'
    obtain ⟨hc, hf⟩ := bcell hB3
    have hlt : w.heap.size + 1 + 1 < w3.heap.size := by have := hB3.size; simp at this; omega
    go_wp2_with fail
    refine bodyPost_ret (v := .tuple #[zq, .int .i64 7]) (by simp [results, Tryd.results29, go_sem, hc]) rfl ?_
    exact ⟨_, _, rfl, Fr.nil _ _, Fr.nil _ _, below_set (below_set (below_box3 hB3) (by omega)) (by omega)⟩)
set_option maxHeartbeats 4000000 in
set_option maxRecDepth 100000 in
theorem do_add_big (hu : IsN w u n) (hv : IsN w v d) (hu' : IsN w u' n') (hv' : IsN w v' d') (tn : n < top) (td : d < top) (tn' : n' < top) (td' : d' < top) (d0 : 0 < d) (d0' : 0 < d') (hx : ¬ (d * d' < top ∧ n * d' < top ∧ n' * d < top)) :
    Calls Tryd.prog 29 #[.int .i64 1, .agg #[u, v], .agg #[u', v']] w (OneQE w [] [] 6) := by
  have hbd := Aside0.mk (pw_below_drewN (Below.refl (box3 w u v u' v').heap.size (box3 w u v u' v')) 1)
  have Hu := Aside0.mk (Rd.box3 (u := u) (v := v) (u' := u') (v' := v') hu)
  have Hv := Aside0.mk (Rd.box3 (u := u) (v := v) (u' := u') (v' := v') hv)
  have Hu' := Aside0.mk (Rd.box3 (u := u) (v := v) (u' := u') (v' := v') hu')
  have Hv' := Aside0.mk (Rd.box3 (u := u) (v := v) (u' := u') (v' := v') hv')
  have hp0 := Nat.mul_pos d0 d0'
  have hf0 := four_of (Below.refl (box3 w u v u' v').heap.size (box3 w u v u' v'))
  have hf1 := four_of hbd.out
  go_enter Tryd.func29, Tryd.ntmps29
  go_wp2_with fail
  unfold Four at hf0 hf1
  go_region_held3 (fun W => (W.cell? ⟨w.heap.size, 0, none⟩ = some u ∧ W.cell? ⟨w.heap.size, 1, none⟩ = some v) ∧ (W.cell? ⟨w.heap.size + 1, 0, none⟩ = some (u') ∧ W.cell? ⟨w.heap.size + 1, 1, none⟩ = some v')) (first | exact hf3 | exact hf2 | exact hf1) (first
    | (go_at_call_of 79 u; refine (dmul_of Hu.out Hv'.out tn td' ?_).mono ?_; (first | exact hbd.out); rintro e w2 ⟨z, rfl, hz, hb2, hb2'⟩; have hf2 := four_of hb2; unfold Four at hf2; have Hb2 := Aside0.mk hb2; have Hb2' := Aside0.mk hb2'; have Hz := Aside0.mk hz; clear hb2 hb2' hz)
    | (go_at_call_of 79 v; refine (dmul_of Hu'.out Hv.out tn' td ?_).mono ?_; (first | exact Hb2.out); rintro e w3 ⟨y, rfl, hy, hb3, hb3'⟩; have hf3 := four_of hb3; unfold Four at hf3; have Hb3 := Aside0.mk hb3; have Hb3' := Aside0.mk hb3'; have Hy := Aside0.mk hy; clear hb3 hb3' hy))
  all_goals (
    have hz1 := (Hz.out.below Hb3'.out)
    have hB3 := Hb3.out
    generalize n * d' = x at *
    generalize n' * d = y0 at *
    have H2 := dmul_of Hv.out Hv'.out td td' hB3
    generalize d * d' = t0 at *
    clear hf0 hf1 hf2 hbd Hb2 Hb2' Hb3 Hu Hv Hu' Hv'
    go_wp2_with fail
    refine H2.mono ?_
    rintro e w3b ⟨t, rfl, ht, hbt, hbt'⟩
    clear H2 hf3
    have hz2 := hz1.below hbt'
    have hy2 := Hy.out.below hbt'
    clear hz1 Hy Hz Hb3' hB3
    have hB3 := hbt
    have H3 := dbig_c hz2.rd hy2.rd ht.rd true (decide_eq_true (by rcases Nat.lt_or_ge x top with q | q; (rcases Nat.lt_or_ge y0 top with q2 | q2; (have := mt len_top.1 (fun q3 => hx ⟨q3, q, q2⟩); omega); (have := mt len_top.1 (show ¬ y0 < top by omega); omega)); (have := mt len_top.1 (show ¬ x < top by omega); omega)))
    clear hbt'
    go_wp2_with fail
    refine H3.mono ?_
    rintro e w4 ⟨rfl, hb4⟩
    clear H3
    have hB4 := below_trans hB3 hb4
    obtain ⟨hc, hf⟩ := bcell hB4
    have hlt : w.heap.size + 1 + 1 < w4.heap.size := by have := hB4.size; simp at this; omega
    go_wp2_with fail
    refine bodyPost_ret (v := .tuple #[zq, .int .i64 6]) (by simp [results, Tryd.results29, go_sem, hc]) rfl ?_
    exact ⟨_, _, rfl, Fr.nil _ _, Fr.nil _ _, below_set (below_set (below_box3 hB4) (by omega)) (by omega)⟩)
set_option maxHeartbeats 4000000 in
set_option maxRecDepth 100000 in
theorem do_sub_big (hu : IsN w u n) (hv : IsN w v d) (hu' : IsN w u' n') (hv' : IsN w v' d') (tn : n < top) (td : d < top) (tn' : n' < top) (td' : d' < top) (d0 : 0 < d) (d0' : 0 < d') (hx : ¬ (d * d' < top ∧ n * d' < top ∧ n' * d < top)) :
    Calls Tryd.prog 29 #[.int .i64 2, .agg #[u, v], .agg #[u', v']] w (OneQE w [] [] 6) := by
  have hbd := Aside0.mk (pw_below_drewN (Below.refl (box3 w u v u' v').heap.size (box3 w u v u' v')) 1)
  have Hu := Aside0.mk (Rd.box3 (u := u) (v := v) (u' := u') (v' := v') hu)
  have Hv := Aside0.mk (Rd.box3 (u := u) (v := v) (u' := u') (v' := v') hv)
  have Hu' := Aside0.mk (Rd.box3 (u := u) (v := v) (u' := u') (v' := v') hu')
  have Hv' := Aside0.mk (Rd.box3 (u := u) (v := v) (u' := u') (v' := v') hv')
  have hp0 := Nat.mul_pos d0 d0'
  have hf0 := four_of (Below.refl (box3 w u v u' v').heap.size (box3 w u v u' v'))
  have hf1 := four_of hbd.out
  go_enter Tryd.func29, Tryd.ntmps29
  go_wp2_with fail
  unfold Four at hf0 hf1
  go_region_held3 (fun W => (W.cell? ⟨w.heap.size, 0, none⟩ = some u ∧ W.cell? ⟨w.heap.size, 1, none⟩ = some v) ∧ (W.cell? ⟨w.heap.size + 1, 0, none⟩ = some (u') ∧ W.cell? ⟨w.heap.size + 1, 1, none⟩ = some v')) (first | exact hf3 | exact hf2 | exact hf1) (first
    | (go_at_call_of 79 u; refine (dmul_of Hu.out Hv'.out tn td' ?_).mono ?_; (first | exact hbd.out); rintro e w2 ⟨z, rfl, hz, hb2, hb2'⟩; have hf2 := four_of hb2; unfold Four at hf2; have Hb2 := Aside0.mk hb2; have Hb2' := Aside0.mk hb2'; have Hz := Aside0.mk hz; clear hb2 hb2' hz)
    | (go_at_call_of 79 v; refine (dmul_of Hu'.out Hv.out tn' td ?_).mono ?_; (first | exact Hb2.out); rintro e w3 ⟨y, rfl, hy, hb3, hb3'⟩; have hf3 := four_of hb3; unfold Four at hf3; have Hb3 := Aside0.mk hb3; have Hb3' := Aside0.mk hb3'; have Hy := Aside0.mk hy; clear hb3 hb3' hy))
  all_goals (
    have hz1 := (Hz.out.below Hb3'.out)
    have hB3 := Hb3.out
    generalize n * d' = x at *
    generalize n' * d = y0 at *
    have H2 := dmul_of Hv.out Hv'.out td td' hB3
    generalize d * d' = t0 at *
    clear hf0 hf1 hf2 hbd Hb2 Hb2' Hb3 Hu Hv Hu' Hv'
    go_wp2_with fail
    refine H2.mono ?_
    rintro e w3b ⟨t, rfl, ht, hbt, hbt'⟩
    clear H2 hf3
    have hz2 := hz1.below hbt'
    have hy2 := Hy.out.below hbt'
    clear hz1 Hy Hz Hb3' hB3
    have hB3 := hbt
    have H3 := dbig_c hz2.rd hy2.rd ht.rd true (decide_eq_true (by rcases Nat.lt_or_ge x top with q | q; (rcases Nat.lt_or_ge y0 top with q2 | q2; (have := mt len_top.1 (fun q3 => hx ⟨q3, q, q2⟩); omega); (have := mt len_top.1 (show ¬ y0 < top by omega); omega)); (have := mt len_top.1 (show ¬ x < top by omega); omega)))
    clear hbt'
    go_wp2_with fail
    refine H3.mono ?_
    rintro e w4 ⟨rfl, hb4⟩
    clear H3
    have hB4 := below_trans hB3 hb4
    obtain ⟨hc, hf⟩ := bcell hB4
    have hlt : w.heap.size + 1 + 1 < w4.heap.size := by have := hB4.size; simp at this; omega
    go_wp2_with fail
    refine bodyPost_ret (v := .tuple #[zq, .int .i64 6]) (by simp [results, Tryd.results29, go_sem, hc]) rfl ?_
    exact ⟨_, _, rfl, Fr.nil _ _, Fr.nil _ _, below_set (below_set (below_box3 hB4) (by omega)) (by omega)⟩)
set_option maxHeartbeats 4000000 in
set_option maxRecDepth 100000 in
theorem do_sub_less (hu : IsN w u n) (hv : IsN w v d) (hu' : IsN w u' n') (hv' : IsN w v' d') (tn : n < top) (td : d < top) (tn' : n' < top) (td' : d' < top) (d0 : 0 < d) (d0' : 0 < d') (h3 : d * d' < top) (h1 : n * d' < top) (h2 : n' * d < top) (hl : n * d' < n' * d) :
    Calls Tryd.prog 29 #[.int .i64 2, .agg #[u, v], .agg #[u', v']] w (OneQE w [] [] 1) := by
  have hbd := Aside0.mk (pw_below_drewN (Below.refl (box3 w u v u' v').heap.size (box3 w u v u' v')) 1)
  have Hu := Aside0.mk (Rd.box3 (u := u) (v := v) (u' := u') (v' := v') hu)
  have Hv := Aside0.mk (Rd.box3 (u := u) (v := v) (u' := u') (v' := v') hv)
  have Hu' := Aside0.mk (Rd.box3 (u := u) (v := v) (u' := u') (v' := v') hu')
  have Hv' := Aside0.mk (Rd.box3 (u := u) (v := v) (u' := u') (v' := v') hv')
  have hp0 := Nat.mul_pos d0 d0'
  have hf0 := four_of (Below.refl (box3 w u v u' v').heap.size (box3 w u v u' v'))
  have hf1 := four_of hbd.out
  go_enter Tryd.func29, Tryd.ntmps29
  go_wp2_with fail
  unfold Four at hf0 hf1
  go_region_held3 (fun W => (W.cell? ⟨w.heap.size, 0, none⟩ = some u ∧ W.cell? ⟨w.heap.size, 1, none⟩ = some v) ∧ (W.cell? ⟨w.heap.size + 1, 0, none⟩ = some (u') ∧ W.cell? ⟨w.heap.size + 1, 1, none⟩ = some v')) (first | exact hf3 | exact hf2 | exact hf1) (first
    | (go_at_call_of 79 u; refine (dmul_of Hu.out Hv'.out tn td' ?_).mono ?_; (first | exact hbd.out); rintro e w2 ⟨z, rfl, hz, hb2, hb2'⟩; have hf2 := four_of hb2; unfold Four at hf2; have Hb2 := Aside0.mk hb2; have Hb2' := Aside0.mk hb2'; have Hz := Aside0.mk hz; clear hb2 hb2' hz)
    | (go_at_call_of 79 v; refine (dmul_of Hu'.out Hv.out tn' td ?_).mono ?_; (first | exact Hb2.out); rintro e w3 ⟨y, rfl, hy, hb3, hb3'⟩; have hf3 := four_of hb3; unfold Four at hf3; have Hb3 := Aside0.mk hb3; have Hb3' := Aside0.mk hb3'; have Hy := Aside0.mk hy; clear hb3 hb3' hy))
  all_goals (
    have hz1 := (Hz.out.below Hb3'.out)
    have hB3 := Hb3.out
    generalize n * d' = x at *
    generalize n' * d = y0 at *
    have H2 := dmul_of Hv.out Hv'.out td td' hB3
    generalize d * d' = t0 at *
    clear hf0 hf1 hf2 hbd Hb2 Hb2' Hb3 Hu Hv Hu' Hv'
    go_wp2_with fail
    refine H2.mono ?_
    rintro e w3b ⟨t, rfl, ht, hbt, hbt'⟩
    clear H2 hf3
    have hz2 := hz1.below hbt'
    have hy2 := Hy.out.below hbt'
    clear hz1 Hy Hz Hb3' hB3
    have hB3 := hbt
    have H3 := dbig_c hz2.rd hy2.rd ht.rd false (decide_eq_false (by have := len_top.2 h1; have := len_top.2 h2; have := len_top.2 h3; omega))
    clear hbt'
    go_wp2_with fail
    refine H3.mono ?_
    rintro e w4a ⟨rfl, hb4a⟩
    clear H3
    have hB4a := below_trans hB3 hb4a
    have hz3 := hz2.rd.below hb4a
    have hy3 := hy2.rd.below hb4a
    have ht3 := ht.rd.below hb4a
    clear hz2 hy2 ht hbt hB3 hb4a
    have H4 := dcmp_c hz3 hy3 (by have := len_top.2 h1; omega) (by have := len_top.2 h2; omega)
    rw [ord_lt (show (x : Int) < (y0 : Int) by omega)] at H4
    go_wp2_with fail
    refine H4.mono ?_
    rintro e w4 ⟨rfl, hb4⟩
    clear H4
    have hB4 := below_trans hB4a hb4
    obtain ⟨hc, hf⟩ := bcell hB4
    have hlt : w.heap.size + 1 + 1 < w4.heap.size := by have := hB4.size; simp at this; omega
    go_wp2_with fail
    refine bodyPost_ret (v := .tuple #[zq, .int .i64 1]) (by simp [results, Tryd.results29, go_sem, hc]) rfl ?_
    exact ⟨_, _, rfl, Fr.nil _ _, Fr.nil _ _, below_set (below_set (below_box3 hB4) (by omega)) (by omega)⟩)
set_option maxHeartbeats 4000000 in
set_option maxRecDepth 100000 in
theorem do_sub (hu : IsN w u n) (hv : IsN w v d) (hu' : IsN w u' n') (hv' : IsN w v' d') (tn : n < top) (td : d < top) (tn' : n' < top) (td' : d' < top) (d0 : 0 < d) (d0' : 0 < d') (h3 : d * d' < top) (h1 : n * d' < top) (h2 : n' * d < top) (hl : ¬ n * d' < n' * d) :
    Calls Tryd.prog 29 #[.int .i64 2, .agg #[u, v], .agg #[u', v']] w (OneQE w (limbs ((n * d' - n' * d) / Nat.gcd (n * d' - n' * d) (d * d'))) (limbs (d * d' / Nat.gcd (n * d' - n' * d) (d * d'))) 0) := by
  have hbd := Aside0.mk (pw_below_drewN (Below.refl (box3 w u v u' v').heap.size (box3 w u v u' v')) 1)
  have Hu := Aside0.mk (Rd.box3 (u := u) (v := v) (u' := u') (v' := v') hu)
  have Hv := Aside0.mk (Rd.box3 (u := u) (v := v) (u' := u') (v' := v') hv)
  have Hu' := Aside0.mk (Rd.box3 (u := u) (v := v) (u' := u') (v' := v') hu')
  have Hv' := Aside0.mk (Rd.box3 (u := u) (v := v) (u' := u') (v' := v') hv')
  have hp0 := Nat.mul_pos d0 d0'
  have hf0 := four_of (Below.refl (box3 w u v u' v').heap.size (box3 w u v u' v'))
  have hf1 := four_of hbd.out
  go_enter Tryd.func29, Tryd.ntmps29
  go_wp2_with fail
  unfold Four at hf0 hf1
  go_region_held3 (fun W => (W.cell? ⟨w.heap.size, 0, none⟩ = some u ∧ W.cell? ⟨w.heap.size, 1, none⟩ = some v) ∧ (W.cell? ⟨w.heap.size + 1, 0, none⟩ = some (u') ∧ W.cell? ⟨w.heap.size + 1, 1, none⟩ = some v')) (first | exact hf3 | exact hf2 | exact hf1) (first
    | (go_at_call_of 79 u; refine (dmul_of Hu.out Hv'.out tn td' ?_).mono ?_; (first | exact hbd.out); rintro e w2 ⟨z, rfl, hz, hb2, hb2'⟩; have hf2 := four_of hb2; unfold Four at hf2; have Hb2 := Aside0.mk hb2; have Hb2' := Aside0.mk hb2'; have Hz := Aside0.mk hz; clear hb2 hb2' hz)
    | (go_at_call_of 79 v; refine (dmul_of Hu'.out Hv.out tn' td ?_).mono ?_; (first | exact Hb2.out); rintro e w3 ⟨y, rfl, hy, hb3, hb3'⟩; have hf3 := four_of hb3; unfold Four at hf3; have Hb3 := Aside0.mk hb3; have Hb3' := Aside0.mk hb3'; have Hy := Aside0.mk hy; clear hb3 hb3' hy))
  all_goals (
    have hz1 := (Hz.out.below Hb3'.out)
    have hB3 := Hb3.out
    generalize n * d' = x at *
    generalize n' * d = y0 at *
    have H2 := dmul_of Hv.out Hv'.out td td' hB3
    generalize d * d' = t0 at *
    clear hf0 hf1 hf2 hbd Hb2 Hb2' Hb3 Hu Hv Hu' Hv'
    go_wp2_with fail
    refine H2.mono ?_
    rintro e w3b ⟨t, rfl, ht, hbt, hbt'⟩
    clear H2 hf3
    have hz2 := hz1.below hbt'
    have hy2 := Hy.out.below hbt'
    clear hz1 Hy Hz Hb3' hB3
    have hB3 := hbt
    have H3 := dbig_c hz2.rd hy2.rd ht.rd false (decide_eq_false (by have := len_top.2 h1; have := len_top.2 h2; have := len_top.2 h3; omega))
    clear hbt'
    go_wp2_with fail
    refine H3.mono ?_
    rintro e w4a ⟨rfl, hb4a⟩
    clear H3
    have hB4a := below_trans hB3 hb4a
    have hz3 := hz2.rd.below hb4a
    have hy3 := hy2.rd.below hb4a
    have ht3 := ht.rd.below hb4a
    clear hz2 hy2 ht hbt hB3 hb4a
    have H4 := dcmp_c hz3 hy3 (by have := len_top.2 h1; omega) (by have := len_top.2 h2; omega)
    obtain ⟨o, ho, ho2⟩ : ∃ o, ord (x : Int) (y0 : Int) = o ∧ ¬ o < 0 := ⟨_, rfl, by unfold ord; split <;> (try split) <;> omega⟩
    rw [ho] at H4
    clear ho
    go_wp2_with fail
    refine H4.mono ?_
    rintro e w4b ⟨rfl, hb4b⟩
    clear H4
    have H5 := dsub_c (hz3.below hb4b) (hy3.below hb4b) (by have := len_top.2 h1; omega) (by omega)
    have hxy : x - y0 < top := by omega
    generalize x - y0 = s0 at *
    go_wp2_with fail
    refine H5.mono ?_
    rintro e w4 ⟨zs, rfl, hzs, hb4⟩
    clear H5
    have hB4 := below_trans (below_trans hB4a hb4b) hb4
    have H4 := dred_c hzs.rd ((ht3.below hb4b).below hb4) hp0 (by have := len_top.2 hxy; omega) (by have := len_top.2 h3; omega)
    generalize limbs (s0 / Nat.gcd s0 t0) = L1 at *
    generalize limbs (t0 / Nat.gcd s0 t0) = L2 at *
    clear hz3 hy3 hzs ht3 hb4b hb4 hB4a
    go_wp2_with fail
    refine H4.mono ?_
    rintro e w5 ⟨z1, y1, rfl, hz5, hy5, hb5⟩
    clear H4
    have hB5 := below_trans hB4 hb5
    obtain ⟨hc, hf⟩ := bcell hB5
    have hlt : w.heap.size + 1 + 1 < w4.heap.size := by have := hB4.size; simp at this; omega
    have F1 := hz5.lower (N' := w.heap.size + 1 + 1 + 1) (by omega)
    have F2 := hy5.lower (N' := w.heap.size + 1 + 1 + 1) (by omega)
    obtain ⟨A1, k1, rfl, _, _⟩ := Rd.open hz5.rd
    obtain ⟨A2, k2, rfl, _, _⟩ := Rd.open hy5.rd
    go_wp2_with fail
    refine bodyPost_ret (v := .tuple #[.agg #[.slice A1 L1.length k1, .slice A2 L2.length k2], .int .i64 0]) (by simp [results, Tryd.results29, go_sem, hc]) rfl ?_
    refine ⟨_, _, rfl, ?_, ?_, ?_⟩
    · exact ((F1.far (p := ⟨w.heap.size + 1 + 1, 0, none⟩) (by simp) _).far (p := ⟨w.heap.size + 1 + 1, 1, none⟩) (by simp) _).lower (by omega)
    · exact ((F2.far (p := ⟨w.heap.size + 1 + 1, 0, none⟩) (by simp) _).far (p := ⟨w.heap.size + 1 + 1, 1, none⟩) (by simp) _).lower (by omega)
    · exact below_set (below_set (below_box3 hB5) (by omega)) (by omega))
set_option maxHeartbeats 4000000 in
set_option maxRecDepth 100000 in
theorem do_add_long (hu : IsN w u n) (hv : IsN w v d) (hu' : IsN w u' n') (hv' : IsN w v' d') (tn : n < top) (td : d < top) (tn' : n' < top) (td' : d' < top) (d0 : 0 < d) (d0' : 0 < d') (h3 : d * d' < top) (h1 : n * d' < top) (h2 : n' * d < top) (hl : ¬ n * d' + n' * d < top) :
    Calls Tryd.prog 29 #[.int .i64 1, .agg #[u, v], .agg #[u', v']] w (OneQE w [] [] 6) := by
  have hbd := Aside0.mk (pw_below_drewN (Below.refl (box3 w u v u' v').heap.size (box3 w u v u' v')) 1)
  have Hu := Aside0.mk (Rd.box3 (u := u) (v := v) (u' := u') (v' := v') hu)
  have Hv := Aside0.mk (Rd.box3 (u := u) (v := v) (u' := u') (v' := v') hv)
  have Hu' := Aside0.mk (Rd.box3 (u := u) (v := v) (u' := u') (v' := v') hu')
  have Hv' := Aside0.mk (Rd.box3 (u := u) (v := v) (u' := u') (v' := v') hv')
  have hp0 := Nat.mul_pos d0 d0'
  have hf0 := four_of (Below.refl (box3 w u v u' v').heap.size (box3 w u v u' v'))
  have hf1 := four_of hbd.out
  go_enter Tryd.func29, Tryd.ntmps29
  go_wp2_with fail
  unfold Four at hf0 hf1
  go_region_held3 (fun W => (W.cell? ⟨w.heap.size, 0, none⟩ = some u ∧ W.cell? ⟨w.heap.size, 1, none⟩ = some v) ∧ (W.cell? ⟨w.heap.size + 1, 0, none⟩ = some (u') ∧ W.cell? ⟨w.heap.size + 1, 1, none⟩ = some v')) (first | exact hf3 | exact hf2 | exact hf1) (first
    | (go_at_call_of 79 u; refine (dmul_of Hu.out Hv'.out tn td' ?_).mono ?_; (first | exact hbd.out); rintro e w2 ⟨z, rfl, hz, hb2, hb2'⟩; have hf2 := four_of hb2; unfold Four at hf2; have Hb2 := Aside0.mk hb2; have Hb2' := Aside0.mk hb2'; have Hz := Aside0.mk hz; clear hb2 hb2' hz)
    | (go_at_call_of 79 v; refine (dmul_of Hu'.out Hv.out tn' td ?_).mono ?_; (first | exact Hb2.out); rintro e w3 ⟨y, rfl, hy, hb3, hb3'⟩; have hf3 := four_of hb3; unfold Four at hf3; have Hb3 := Aside0.mk hb3; have Hb3' := Aside0.mk hb3'; have Hy := Aside0.mk hy; clear hb3 hb3' hy))
  all_goals (
    have hz1 := (Hz.out.below Hb3'.out)
    have hB3 := Hb3.out
    generalize n * d' = x at *
    generalize n' * d = y0 at *
    have H2 := dmul_of Hv.out Hv'.out td td' hB3
    generalize d * d' = t0 at *
    clear hf0 hf1 hf2 hbd Hb2 Hb2' Hb3 Hu Hv Hu' Hv'
    go_wp2_with fail
    refine H2.mono ?_
    rintro e w3b ⟨t, rfl, ht, hbt, hbt'⟩
    clear H2 hf3
    have hz2 := hz1.below hbt'
    have hy2 := Hy.out.below hbt'
    clear hz1 Hy Hz Hb3' hB3
    have hB3 := hbt
    have H3 := dbig_c hz2.rd hy2.rd ht.rd false (decide_eq_false (by have := len_top.2 h1; have := len_top.2 h2; have := len_top.2 h3; omega))
    clear hbt'
    go_wp2_with fail
    refine H3.mono ?_
    rintro e w4a ⟨rfl, hb4a⟩
    clear H3
    have hB4a := below_trans hB3 hb4a
    have hz3 := hz2.rd.below hb4a
    have hy3 := hy2.rd.below hb4a
    have ht3 := ht.rd.below hb4a
    clear hz2 hy2 ht hbt hB3 hb4a
    have H4 := dadd_c hz3 hy3 (by have := len_top.2 h1; omega) (by have := len_top.2 h2; omega)
    generalize x + y0 = s0 at *
    go_wp2_with fail
    refine H4.mono ?_
    rintro e w4 ⟨zs, rfl, hzs, hb4⟩
    clear H4
    have hB4 := below_trans hB4a hb4
    have hzs' := Aside0.mk hzs
    obtain ⟨A5, k5, rfl, _, _⟩ := Rd.open hzs.rd
    obtain ⟨Ln, hLn⟩ : ∃ Ln, (limbs s0).length = Ln := ⟨_, rfl⟩
    rw [hLn] at hzs'
    clear hzs
    have hgt : 64 < Ln := by rw [← hLn]; have := mt len_top.1 hl; omega
    rw [hLn]
    obtain ⟨hc, hf⟩ := bcell hB4
    have hlt : w.heap.size + 1 + 1 < w4.heap.size := by have := hB4.size; simp at this; omega
    go_wp2_with fail
    refine bodyPost_ret (v := .tuple #[zq, .int .i64 6]) (by simp [results, Tryd.results29, go_sem, hc]) rfl ?_
    exact ⟨_, _, rfl, Fr.nil _ _, Fr.nil _ _, below_set (below_set (below_box3 hB4) (by omega)) (by omega)⟩)
set_option maxHeartbeats 4000000 in
set_option maxRecDepth 100000 in
theorem do_add (hu : IsN w u n) (hv : IsN w v d) (hu' : IsN w u' n') (hv' : IsN w v' d') (tn : n < top) (td : d < top) (tn' : n' < top) (td' : d' < top) (d0 : 0 < d) (d0' : 0 < d') (h3 : d * d' < top) (h1 : n * d' < top) (h2 : n' * d < top) (hl : n * d' + n' * d < top) :
    Calls Tryd.prog 29 #[.int .i64 1, .agg #[u, v], .agg #[u', v']] w (OneQE w (limbs ((n * d' + n' * d) / Nat.gcd (n * d' + n' * d) (d * d'))) (limbs (d * d' / Nat.gcd (n * d' + n' * d) (d * d'))) 0) := by
  have hbd := Aside0.mk (pw_below_drewN (Below.refl (box3 w u v u' v').heap.size (box3 w u v u' v')) 1)
  have Hu := Aside0.mk (Rd.box3 (u := u) (v := v) (u' := u') (v' := v') hu)
  have Hv := Aside0.mk (Rd.box3 (u := u) (v := v) (u' := u') (v' := v') hv)
  have Hu' := Aside0.mk (Rd.box3 (u := u) (v := v) (u' := u') (v' := v') hu')
  have Hv' := Aside0.mk (Rd.box3 (u := u) (v := v) (u' := u') (v' := v') hv')
  have hp0 := Nat.mul_pos d0 d0'
  have hf0 := four_of (Below.refl (box3 w u v u' v').heap.size (box3 w u v u' v'))
  have hf1 := four_of hbd.out
  go_enter Tryd.func29, Tryd.ntmps29
  go_wp2_with fail
  unfold Four at hf0 hf1
  go_region_held3 (fun W => (W.cell? ⟨w.heap.size, 0, none⟩ = some u ∧ W.cell? ⟨w.heap.size, 1, none⟩ = some v) ∧ (W.cell? ⟨w.heap.size + 1, 0, none⟩ = some (u') ∧ W.cell? ⟨w.heap.size + 1, 1, none⟩ = some v')) (first | exact hf3 | exact hf2 | exact hf1) (first
    | (go_at_call_of 79 u; refine (dmul_of Hu.out Hv'.out tn td' ?_).mono ?_; (first | exact hbd.out); rintro e w2 ⟨z, rfl, hz, hb2, hb2'⟩; have hf2 := four_of hb2; unfold Four at hf2; have Hb2 := Aside0.mk hb2; have Hb2' := Aside0.mk hb2'; have Hz := Aside0.mk hz; clear hb2 hb2' hz)
    | (go_at_call_of 79 v; refine (dmul_of Hu'.out Hv.out tn' td ?_).mono ?_; (first | exact Hb2.out); rintro e w3 ⟨y, rfl, hy, hb3, hb3'⟩; have hf3 := four_of hb3; unfold Four at hf3; have Hb3 := Aside0.mk hb3; have Hb3' := Aside0.mk hb3'; have Hy := Aside0.mk hy; clear hb3 hb3' hy))
  all_goals (
    have hz1 := (Hz.out.below Hb3'.out)
    have hB3 := Hb3.out
    generalize n * d' = x at *
    generalize n' * d = y0 at *
    have H2 := dmul_of Hv.out Hv'.out td td' hB3
    generalize d * d' = t0 at *
    clear hf0 hf1 hf2 hbd Hb2 Hb2' Hb3 Hu Hv Hu' Hv'
    go_wp2_with fail
    refine H2.mono ?_
    rintro e w3b ⟨t, rfl, ht, hbt, hbt'⟩
    clear H2 hf3
    have hz2 := hz1.below hbt'
    have hy2 := Hy.out.below hbt'
    clear hz1 Hy Hz Hb3' hB3
    have hB3 := hbt
    have H3 := dbig_c hz2.rd hy2.rd ht.rd false (decide_eq_false (by have := len_top.2 h1; have := len_top.2 h2; have := len_top.2 h3; omega))
    clear hbt'
    go_wp2_with fail
    refine H3.mono ?_
    rintro e w4a ⟨rfl, hb4a⟩
    clear H3
    have hB4a := below_trans hB3 hb4a
    have hz3 := hz2.rd.below hb4a
    have hy3 := hy2.rd.below hb4a
    have ht3 := ht.rd.below hb4a
    clear hz2 hy2 ht hbt hB3 hb4a
    have H4 := dadd_c hz3 hy3 (by have := len_top.2 h1; omega) (by have := len_top.2 h2; omega)
    generalize x + y0 = s0 at *
    go_wp2_with fail
    refine H4.mono ?_
    rintro e w4 ⟨zs, rfl, hzs, hb4⟩
    clear H4
    have hB4 := below_trans hB4a hb4
    have hzs' := Aside0.mk hzs
    obtain ⟨A5, k5, rfl, _, _⟩ := Rd.open hzs.rd
    obtain ⟨Ln, hLn⟩ : ∃ Ln, (limbs s0).length = Ln := ⟨_, rfl⟩
    rw [hLn] at hzs'
    clear hzs
    have hgt : ¬ 64 < Ln := by rw [← hLn]; have := len_top.2 hl; omega
    rw [hLn]
    have H4 := dred_c hzs'.out.rd (ht3.below hb4) hp0 (by have := len_top.2 hl; omega) (by have := len_top.2 h3; omega)
    generalize limbs (s0 / Nat.gcd s0 t0) = L1 at *
    generalize limbs (t0 / Nat.gcd s0 t0) = L2 at *
    clear hz3 hy3 hzs' ht3 hb4 hB4a
    go_wp2_with fail
    refine H4.mono ?_
    rintro e w5 ⟨z1, y1, rfl, hz5, hy5, hb5⟩
    clear H4
    have hB5 := below_trans hB4 hb5
    obtain ⟨hc, hf⟩ := bcell hB5
    have hlt : w.heap.size + 1 + 1 < w4.heap.size := by have := hB4.size; simp at this; omega
    have F1 := hz5.lower (N' := w.heap.size + 1 + 1 + 1) (by omega)
    have F2 := hy5.lower (N' := w.heap.size + 1 + 1 + 1) (by omega)
    obtain ⟨A1, k1, rfl, _, _⟩ := Rd.open hz5.rd
    obtain ⟨A2, k2, rfl, _, _⟩ := Rd.open hy5.rd
    go_wp2_with fail
    refine bodyPost_ret (v := .tuple #[.agg #[.slice A1 L1.length k1, .slice A2 L2.length k2], .int .i64 0]) (by simp [results, Tryd.results29, go_sem, hc]) rfl ?_
    refine ⟨_, _, rfl, ?_, ?_, ?_⟩
    · exact ((F1.far (p := ⟨w.heap.size + 1 + 1, 0, none⟩) (by simp) _).far (p := ⟨w.heap.size + 1 + 1, 1, none⟩) (by simp) _).lower (by omega)
    · exact ((F2.far (p := ⟨w.heap.size + 1 + 1, 0, none⟩) (by simp) _).far (p := ⟨w.heap.size + 1 + 1, 1, none⟩) (by simp) _).lower (by omega)
    · exact below_set (below_set (below_box3 hB5) (by omega)) (by omega))
end
end Go.Proofs.YtakickbnjbedfaaDoor.S
