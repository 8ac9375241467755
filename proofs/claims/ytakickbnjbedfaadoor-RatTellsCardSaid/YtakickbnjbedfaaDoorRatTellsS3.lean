/- Part of the proof of Card. -/
import Derived.Test.YtakickbnjbedfaaDoorRatTellsS2
import Derived.Test.YtakickbnjbedfaaDoorRatTellsP2
namespace Go.Proofs.YtakickbnjbedfaaDoor.S
set_option linter.unusedVariables false
set_option linter.unusedSimpArgs false
open Go.RowKit Go.Proofs.YtakickbnjbedfaaDoorW.PrintWords Go.Proofs.YtakickbnjbedfaaDoorW.PrintLast Go.Proofs.YtakickbnjbedfaaDoorW.PrintMore Go.Proofs.YtakickbnjbedfaaDoor.PA Go.Proofs.YtakickbnjbedfaaDoor.Num Go.Proofs.YtakickbnjbedfaaDoor.F
abbrev box3 (w : World) (u v u' v' : Value) : World := ((w.alloc (.cells #[u, v] 25)).alloc (.cells #[u', v'] 25)).alloc (.cells #[.slice none 0 0, .slice none 0 0] 25)
theorem Rd.box3 {w : World} {u v u' v' x : Value} {l : List Int} (h : Rd w x l) : Rd (box3 w u v u' v') x l := ((h.alloc _).alloc _).alloc _
set_option maxHeartbeats 2000000 in
theorem rmul_bad {w : World} {u v u' v' : Value} {l m l' m' : List Int} (hu : Rd w u l) (hv : Rd w v m) (hu' : Rd w u' l') (hv' : Rd w v' m') (hl : Wf 4294967296 l) (hm : Wf 4294967296 m) (hl' : Wf 4294967296 l') (hm' : Wf 4294967296 m') (h : (isRat l m && isRat l' m') = false) :
    Calls Tryd.prog 22 #[.agg #[u, v], .agg #[u', v']] w (OneQE w [] [] 1) := by
  have H1 := both_c (w := box3 w u v u' v') hu.box3 hv.box3 hu'.box3 hv'.box3 hl hm hl' hm' _ _ rfl rfl 1 (by rw [h]; rfl)
  clear h
  go_enter Tryd.func22, Tryd.ntmps22
  go_wp2_with fail
  refine H1.mono ?_
  rintro e w1 ⟨rfl, hb1⟩
  clear H1
  obtain ⟨hc, hf⟩ := bcell hb1
  have HB := Aside0.mk (below_box3 hb1)
  go_wp2_with fail
  refine bodyPost_ret (v := .tuple #[zq, .int .i64 1]) (by simp [results, Tryd.results22, go_sem, hc]) rfl ?_
  exact ⟨_, _, rfl, Fr.nil _ _, Fr.nil _ _, below_set (below_set HB.out (by omega)) (by omega)⟩
set_option maxHeartbeats 2000000 in
theorem rmul_good {w : World} {u v u' v' : Value} {n d n' d' : Nat} (hu : IsN w u n) (hv : IsN w v d) (hu' : IsN w u' n') (hv' : IsN w v' d') (tn : n < top) (td : d < top) (tn' : n' < top) (td' : d' < top) (d0 : 0 < d) (d0' : 0 < d') (h : isRat (limbs n) (limbs d) = true) (h' : isRat (limbs n') (limbs d') = true) :
    Calls Tryd.prog 22 #[.agg #[u, v], .agg #[u', v']] w (OneQE w (ov (n * n') (d * d')).1 (ov (n * n') (d * d')).2.1 (ov (n * n') (d * d')).2.2) := by
  have H1 := both_c (w := box3 w u v u' v') (Rd.box3 hu) (Rd.box3 hv) (Rd.box3 hu') (Rd.box3 hv') (wf_limbs _) (wf_limbs _) (wf_limbs _) (wf_limbs _) _ _ h h' 0 rfl
  have hp := Nat.mul_pos d0 d0'
  clear h h'
  go_enter Tryd.func22, Tryd.ntmps22
  go_wp2_with fail
  refine H1.mono ?_
  rintro e w1 ⟨rfl, hb1⟩
  clear H1
  have HB := Aside0.mk (below_box3 hb1)
  have H2 := over_c (hu.below HB.out) (hu'.below HB.out) (hv.below HB.out) (hv'.below HB.out) tn tn' td td' hp
  clear hp
  generalize n * n' = a at *
  generalize d * d' = b at *
  generalize ov a b = o at *
  obtain ⟨c1, c2, c3⟩ := o
  obtain ⟨hc, hf⟩ := bcell hb1
  go_wp2_with fail
  refine H2.mono ?_
  rintro e w2 ⟨z, y, rfl, hz, hy, hb2⟩
  clear H2 hc hf
  have hb12 := below_trans hb1 hb2
  obtain ⟨hc, hf⟩ := bcell hb12
  have hlt : w.heap.size + 1 + 1 < w1.heap.size := by have := hb1.size; simp at this; omega
  have F1 := hz.lower (N' := w.heap.size + 1 + 1 + 1) (by omega)
  have F2 := hy.lower (N' := w.heap.size + 1 + 1 + 1) (by omega)
  obtain ⟨A1, k1, rfl, _, _⟩ := Rd.open hz.rd
  obtain ⟨A2, k2, rfl, _, _⟩ := Rd.open hy.rd
  go_wp2_with fail
  refine bodyPost_ret (v := .tuple #[.agg #[.slice A1 c1.length k1, .slice A2 c2.length k2], .int .i64 c3]) (by simp [results, Tryd.results22, go_sem, hc]) rfl ?_
  refine ⟨_, _, rfl, ?_, ?_, ?_⟩
  · exact ((F1.far (p := ⟨w.heap.size + 1 + 1, 0, none⟩) (by simp) _).far (p := ⟨w.heap.size + 1 + 1, 1, none⟩) (by simp) _).lower (by omega)
  · exact ((F2.far (p := ⟨w.heap.size + 1 + 1, 0, none⟩) (by simp) _).far (p := ⟨w.heap.size + 1 + 1, 1, none⟩) (by simp) _).lower (by omega)
  · exact below_set (below_set (below_box3 hb12) (by omega)) (by omega)
set_option maxHeartbeats 2000000 in
theorem rdiv_bad {w : World} {u v u' v' : Value} {l m l' m' : List Int} (hu : Rd w u l) (hv : Rd w v m) (hu' : Rd w u' l') (hv' : Rd w v' m') (hl : Wf 4294967296 l) (hm : Wf 4294967296 m) (hl' : Wf 4294967296 l') (hm' : Wf 4294967296 m') (h : (isRat l m && isRat l' m') = false) :
    Calls Tryd.prog 23 #[.agg #[u, v], .agg #[u', v']] w (OneQE w [] [] 1) := by
  have H1 := both_c (w := box3 w u v u' v') hu.box3 hv.box3 hu'.box3 hv'.box3 hl hm hl' hm' _ _ rfl rfl 1 (by rw [h]; rfl)
  clear h
  go_enter Tryd.func23, Tryd.ntmps23
  go_wp2_with fail
  refine H1.mono ?_
  rintro e w1 ⟨rfl, hb1⟩
  clear H1
  obtain ⟨hc, hf⟩ := bcell hb1
  have HB := Aside0.mk (below_box3 hb1)
  go_wp2_with fail
  refine bodyPost_ret (v := .tuple #[zq, .int .i64 1]) (by simp [results, Tryd.results23, go_sem, hc]) rfl ?_
  exact ⟨_, _, rfl, Fr.nil _ _, Fr.nil _ _, below_set (below_set HB.out (by omega)) (by omega)⟩
set_option maxHeartbeats 2000000 in
theorem rdiv_good {w : World} {u v u' v' : Value} {n d n' d' : Nat} (hu : IsN w u n) (hv : IsN w v d) (hu' : IsN w u' n') (hv' : IsN w v' d') (tn : n < top) (td : d < top) (tn' : n' < top) (td' : d' < top) (d0 : 0 < d) (n0' : 0 < n') (h : isRat (limbs n) (limbs d) = true) (h' : isRat (limbs n') (limbs d') = true) :
    Calls Tryd.prog 23 #[.agg #[u, v], .agg #[u', v']] w (OneQE w (ov (n * d') (d * n')).1 (ov (n * d') (d * n')).2.1 (ov (n * d') (d * n')).2.2) := by
  have H1 := both_c (w := box3 w u v u' v') (Rd.box3 hu) (Rd.box3 hv) (Rd.box3 hu') (Rd.box3 hv') (wf_limbs _) (wf_limbs _) (wf_limbs _) (wf_limbs _) _ _ h h' 0 rfl
  have hp := Nat.mul_pos d0 n0'
  clear h h'
  have ln : (limbs n').length ≠ 0 := fun e => by have := limbs_nil.1 (List.length_eq_zero_iff.1 e); omega
  have lb : (((limbs n').length : Int) == 0) = false := beq_eq_false_iff_ne.2 (by omega)
  have lb2 : (limbs n').isEmpty = false := by
    rw [List.isEmpty_eq_false_iff]
    intro e
    rw [e] at ln; exact ln rfl
  clear ln
  obtain ⟨A', c', rfl, _, _⟩ := hu'.open
  go_enter Tryd.func23, Tryd.ntmps23
  go_wp2_with fail
  refine H1.mono ?_
  rintro e w1 ⟨rfl, hb1⟩
  clear H1
  have HB := Aside0.mk (below_box3 hb1)
  have H2 := over_c (hu.below HB.out) (hv'.below HB.out) (hv.below HB.out) (hu'.below HB.out) tn td' td tn' hp
  clear hp
  generalize n * d' = a at *
  generalize d * n' = b at *
  generalize ov a b = o at *
  obtain ⟨c1, c2, c3⟩ := o
  obtain ⟨hc, hf⟩ := bcell hb1
  go_wp2_with fail
  refine H2.mono ?_
  rintro e w2 ⟨z, y, rfl, hz, hy, hb2⟩
  clear H2 hc hf
  have hb12 := below_trans hb1 hb2
  obtain ⟨hc, hf⟩ := bcell hb12
  have hlt : w.heap.size + 1 + 1 < w1.heap.size := by have := hb1.size; simp at this; omega
  have F1 := hz.lower (N' := w.heap.size + 1 + 1 + 1) (by omega)
  have F2 := hy.lower (N' := w.heap.size + 1 + 1 + 1) (by omega)
  obtain ⟨A1, k1, rfl, _, _⟩ := Rd.open hz.rd
  obtain ⟨A2, k2, rfl, _, _⟩ := Rd.open hy.rd
  go_wp2_with fail
  refine bodyPost_ret (v := .tuple #[.agg #[.slice A1 c1.length k1, .slice A2 c2.length k2], .int .i64 c3]) (by simp [results, Tryd.results23, go_sem, hc]) rfl ?_
  refine ⟨_, _, rfl, ?_, ?_, ?_⟩
  · exact ((F1.far (p := ⟨w.heap.size + 1 + 1, 0, none⟩) (by simp) _).far (p := ⟨w.heap.size + 1 + 1, 1, none⟩) (by simp) _).lower (by omega)
  · exact ((F2.far (p := ⟨w.heap.size + 1 + 1, 0, none⟩) (by simp) _).far (p := ⟨w.heap.size + 1 + 1, 1, none⟩) (by simp) _).lower (by omega)
  · exact below_set (below_set (below_box3 hb12) (by omega)) (by omega)
set_option maxHeartbeats 2000000 in
theorem rdiv_zero {w : World} {u v u' v' : Value} {n d d' : Nat} (hu : IsN w u n) (hv : IsN w v d) (hu' : Rd w u' []) (hv' : IsN w v' d') (h : isRat (limbs n) (limbs d) = true) (h' : isRat [] (limbs d') = true) :
    Calls Tryd.prog 23 #[.agg #[u, v], .agg #[u', v']] w (OneQE w [] [] 7) := by
  have H1 := both_c (w := box3 w u v u' v') (Rd.box3 hu) (Rd.box3 hv) (Rd.box3 hu') (Rd.box3 hv') (wf_limbs _) (wf_limbs _) (Wf.nil _) (wf_limbs _) _ _ h h' 0 rfl
  clear h h'
  obtain ⟨A', c', rfl, _, _⟩ := hu'.open
  go_enter Tryd.func23, Tryd.ntmps23
  go_wp2_with fail
  refine H1.mono ?_
  rintro e w1 ⟨rfl, hb1⟩
  clear H1
  have HB := Aside0.mk (below_box3 hb1)
  obtain ⟨hc, hf⟩ := bcell hb1
  go_wp2_with fail
  refine bodyPost_ret (v := .tuple #[zq, .int .i64 7]) (by simp [results, Tryd.results23, go_sem, hc]) rfl ?_
  exact ⟨_, _, rfl, Fr.nil _ _, Fr.nil _ _, below_set (below_set HB.out (by omega)) (by omega)⟩
end Go.Proofs.YtakickbnjbedfaaDoor.S
