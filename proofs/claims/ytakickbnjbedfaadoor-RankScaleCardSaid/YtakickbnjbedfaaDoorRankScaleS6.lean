/- Part of the proof of Card. -/
import Derived.Deep.RegionHeld3
import Derived.Test.YtakickbnjbedfaaDoorRankScaleS5
namespace Go.Proofs.YtakickbnjbedfaaDoor.S
set_option linter.unusedVariables false
set_option linter.unusedSimpArgs false
open Go.RowKit Go.Proofs.YtakickbnjbedfaaDoorW.PrintWords Go.Proofs.YtakickbnjbedfaaDoorW.PrintLast Go.Proofs.YtakickbnjbedfaaDoorW.PrintMore Go.Proofs.YtakickbnjbedfaaDoor.PA Go.Proofs.YtakickbnjbedfaaDoor.Num Go.Proofs.YtakickbnjbedfaaDoor.F
def rdec (n d : Nat) : ByteArray := (dec n ++ ⟨#[47]⟩) ++ dec d
theorem text_of {w W : World} {u : Value} {n : Nat} (hu : IsN w u n) (tn : n < top) (hb : Below w.heap.size w W) : Calls Tryd.prog 59 #[u] W fun e w' => e = .returned (.string (dec n)) ∧ Below w.heap.size w w' := by
  refine (text_c (hu.below hb) tn).mono ?_
  rintro e w' ⟨rfl, hb2⟩
  exact ⟨rfl, below_trans hb hb2⟩
theorem dec_size {n : Nat} (h : n < top) : (dec n).size ≤ 3000 := by
  show (Lib.decDigits n).length ≤ 3000
  rw [Lib.decDigits_length]
  have e1 : top = 2 ^ (32 * 64) := by unfold top; rw [show 4294967296 = 2 ^ 32 from rfl, ← Nat.pow_mul]
  obtain ⟨k0, hk0⟩ : ∃ k, 32 * 64 = k + 1 := ⟨2047, rfl⟩
  rw [hk0] at e1
  have h1 : n < 10 ^ (k0 + 1) := Nat.lt_of_lt_of_le h (by rw [e1]; exact Nat.pow_le_pow_left (by decide) _)
  have key : ∀ k, ∀ n, n < 10 ^ (k + 1) → Lib.nDigits n ≤ k + 1 := by
    intro k
    induction k with
    | zero => intro n h; rw [Lib.nDigits_small (by simpa using h)]; omega
    | succ k ih =>
      intro n h
      by_cases h9 : n < 10
      · rw [Lib.nDigits_small h9]; omega
      · rw [Lib.nDigits_big h9]
        have := ih (n / 10) (by rw [Nat.pow_succ] at h; omega)
        omega
  have := key k0 n h1
  omega
theorem rdec_eq (n d : Nat) : (dec n ++ ⟨#[47]⟩) ++ dec d = rdec n d := rfl
attribute [local irreducible] dec rdec
section
variable {w : World} {u v : Value} {n d : Nat}
set_option maxHeartbeats 4000000 in
set_option maxRecDepth 100000 in
theorem rtext_good (hu : IsN w u n) (hv : IsN w v d) (tn : n < top) (td : d < top) (h : isRat (limbs n) (limbs d) = true) :
    Calls Tryd.prog 26 #[.agg #[u, v]] w (OneS w (rdec n d)) := by
  have H1 := rright_c (w := w.alloc (.cells #[u, v] 25)) (hu.alloc _) (hv.alloc _) (wf_limbs _) (wf_limbs _) true h
  clear h
  go_enter Tryd.func26, Tryd.ntmps26
  go_wp2_with fail
  refine H1.mono ?_
  rintro e w1 ⟨rfl, hb1⟩
  clear H1
  have HB := Aside0.mk (below_box hb1)
  have hsz := hb1.size
  have hu1 := Aside0.mk (hu.below HB.out)
  have hv1 := Aside0.mk (hv.below HB.out)
  have hbd := Aside0.mk (pw_below_drewN (Below.refl w1.heap.size w1) 1)
  have hcell : ∀ W, Below w1.heap.size w1 W → W.cell? ⟨w.heap.size, 0, none⟩ = some u ∧ W.cell? ⟨w.heap.size, 1, none⟩ = some v := by
    intro W hW
    have h1 := bcell hW
    have h2 := bcell hb1
    have hs : w.heap.size < (w.alloc (.cells #[u, v] 25)).heap.size := by simp
    refine ⟨by rw [h1.1 _ _ (by omega), h2.1 _ _ hs]; simp, by rw [h1.1 _ _ (by omega), h2.1 _ _ hs]; simp⟩
  obtain ⟨hc, hf⟩ := bcell hb1
  have HCELL := Aside0.mk hcell
  have s1 := dec_size tn
  have s2 := dec_size td
  have s3 : (⟨#[47]⟩ : ByteArray).size = 1 := rfl
  have s4 : ¬ (9223372036854775807 < (dec n).size + (⟨#[47]⟩ : ByteArray).size) := by omega
  have s5 : ¬ (9223372036854775807 < (dec n ++ ⟨#[47]⟩ : ByteArray).size + (dec d).size) := by rw [ByteArray.size_append]; omega
  have s6 : ¬ (9223372036854775807 < (dec n).size + 1) := by omega
  have s8 : ¬ (9223372036854775807 ≤ (dec n).size) := by omega
  have s7 : ¬ (9223372036854775807 < (dec n).size + 1 + (dec d).size) := by omega
  clear hb1 hsz s1 s2 s3
  go_wp2_with fail
  clear hc hf
  have hcc := hcell _ hbd.out
  have hcc0 := hcell _ (Below.refl w1.heap.size w1)
  clear hcell
  go_region_held3 (fun w' => w'.cell? ⟨w.heap.size, 0, none⟩ = some u ∧ w'.cell? ⟨w.heap.size, 1, none⟩ = some v) (first | exact hcc3 | exact hcc2 | exact hcc) (first
    | (go_at_call_of 59 u; refine (text_of hu1.out tn ?_).mono ?_; (first | exact hbd.out | exact Hb.out); rintro e w2 ⟨rfl, hb2⟩; have hcc2 := HCELL.out _ hb2; have Hb := Aside0.mk hb2; clear hb2)
    | (go_at_call_of 59 v; refine (text_of hv1.out td ?_).mono ?_; (first | exact Hb.out | exact hbd.out); rintro e w3 ⟨rfl, hb3⟩; have hcc3 := HCELL.out _ hb3; have Hb3 := Aside0.mk hb3; clear hb3))
  all_goals (go_wp2_with fail; go_ret; exact ⟨by rw [← rdec_eq]; rfl, below_trans HB.out Hb3.out⟩)
end
end Go.Proofs.YtakickbnjbedfaaDoor.S
