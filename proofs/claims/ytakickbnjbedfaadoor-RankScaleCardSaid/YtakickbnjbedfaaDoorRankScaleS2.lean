/- Part of the proof of Card. -/
import Derived.Outline
import Derived.Test.YtakickbnjbedfaaDoorRankScaleS1
import Derived.Test.YtakickbnjbedfaaDoorRankScaleP0
namespace Go.Proofs.YtakickbnjbedfaaDoor.S
set_option linter.unusedVariables false
set_option linter.unusedSimpArgs false
open Go.RowKit Go.Proofs.YtakickbnjbedfaaDoorW.PrintWords Go.Proofs.YtakickbnjbedfaaDoorW.PrintLast Go.Proofs.YtakickbnjbedfaaDoorW.PrintMore Go.Proofs.YtakickbnjbedfaaDoor.PA Go.Proofs.YtakickbnjbedfaaDoor.Num Go.Proofs.YtakickbnjbedfaaDoor.F
theorem bcell {W w1 : World} (hb : Below W.heap.size W w1) : (∀ b o, b < W.heap.size → w1.cell? ⟨b, o, none⟩ = W.cell? ⟨b, o, none⟩) ∧ (∀ b o, b < W.heap.size → w1.frozen? ⟨b, o, none⟩ = W.frozen? ⟨b, o, none⟩) :=
  ⟨fun b o h => hb.cell (p := ⟨b, o, none⟩) h, fun b o h => hb.frozen (p := ⟨b, o, none⟩) h⟩
theorem top_pos : 0 < top := by unfold top; exact Nat.pow_pos (by decide)
theorem one_top : 1 < top := by unfold top; exact Nat.one_lt_pow (by decide) (by decide)
theorem one_c {w : World} : Calls Tryd.prog 73 #[] w fun e w' => ∃ z, e = .returned z ∧ Fr w.heap.size w' z (limbs 1) ∧ Below w.heap.size w w' := by
  have h : Ev (fun k => rat_one.f k) (limbs 1) := Ev.bind (of_f 1 (by decide)) (Ev.all fun k => rfl)
  refine ev_calls h fun k hk => ?_
  refine (rat_one.calls k _ w hk).mono ?_
  rintro e w' ⟨z, rfl, hz, hb⟩
  exact ⟨z, rfl, Fr.of_R hz, hb⟩
theorem IsN.alloc {w : World} {v : Value} {n : Nat} (h : IsN w v n) (o : Obj) : IsN (w.alloc o) v n := h.below (below_alloc (Below.refl _ _) o)
theorem Rd.alloc {w : World} {v : Value} {l : List Int} (h : Rd w v l) (o : Obj) : Rd (w.alloc o) v l := h.below (below_alloc (Below.refl _ _) o)
def OneB (w : World) (b : Bool) (e : Ending) (w' : World) : Prop := e = .returned (.bool b) ∧ Below w.heap.size w w'
theorem below_box {w w1 : World} {o : Obj} (h : Below (w.alloc o).heap.size (w.alloc o) w1) : Below w.heap.size w w1 := below_trans (below_alloc (Below.refl _ _) o) h
set_option maxHeartbeats 1000000 in
theorem rright_bad {w : World} {u v : Value} {l m : List Int} (hu : Rd w u l) (hv : Rd w v m) (h : isNat l = false ∨ isNat m = false) : Calls Tryd.prog 19 #[.agg #[u, v]] w (OneB w false) := by
  have H := gcd_bad (hu.alloc (.cells #[u, v] 25)) (hv.alloc (.cells #[u, v] 25)) h
  clear h
  go_enter Tryd.func19, Tryd.ntmps19
  go_wp2_with fail
  refine H.mono ?_
  rintro e w1 ⟨z, rfl, hz, hb1⟩
  clear H
  go_wp2_with fail
  go_ret
  exact ⟨rfl, below_box hb1⟩
set_option maxHeartbeats 1000000 in
theorem rright_zero {w : World} {u v : Value} {n : Nat} (hu : IsN w u n) (hv : Rd w v []) (hn : n < top) : Calls Tryd.prog 19 #[.agg #[u, v]] w (OneB w false) := by
  have hv0 : IsN w v 0 := by unfold IsN; rw [limbs_zero]; exact hv
  have H := gcd_c (hu.alloc (.cells #[u, v] 25)) (hv0.alloc (.cells #[u, v] 25)) hn top_pos
  obtain ⟨A, c, rfl, _, _⟩ := hv.open
  clear hv0 hv
  go_enter Tryd.func19, Tryd.ntmps19
  go_wp2_with fail
  refine H.mono ?_
  rintro e w1 ⟨z, rfl, hz, hb1⟩
  clear H
  obtain ⟨hc, hf⟩ := bcell hb1
  go_wp2_with fail
  go_ret
  exact ⟨rfl, below_box hb1⟩
set_option maxHeartbeats 1000000 in
theorem rright_nat {w : World} {u v : Value} {n d : Nat} (hu : IsN w u n) (hv : IsN w v d) (hn : n < top) (hd : d < top) (d0 : 0 < d) (b : Bool) (hb : decide (Nat.gcd n d = 1) = b) : Calls Tryd.prog 19 #[.agg #[u, v]] w (OneB w b) := by
  have H := gcd_c (hu.alloc (.cells #[u, v] 25)) (hv.alloc (.cells #[u, v] 25)) hn hd
  have hg : Nat.gcd n d < top := Nat.lt_of_le_of_lt (Nat.gcd_le_right _ d0) hd
  obtain ⟨A, c, rfl, _, _⟩ := hv.open
  have hl : 0 < (limbs d).length := by
    rcases Nat.eq_zero_or_pos (limbs d).length with h | h
    · have := limbs_nil.1 (List.length_eq_zero_iff.1 h); omega
    · exact h
  have hl1 : decide (0 < (limbs d).length) = true := decide_eq_true hl
  obtain ⟨r, hr⟩ : ∃ r, ord ((Nat.gcd n d : Nat) : Int) ((1 : Nat) : Int) = r := ⟨_, rfl⟩
  have hrb : (r == 0) = b := by
    rw [← hb, ← hr, Bool.eq_iff_iff]
    simp only [beq_iff_eq, decide_eq_true_eq]
    unfold ord
    constructor
    · intro h
      split at h
      · cases h
      · split at h
        · cases h
        · omega
    · intro h; rw [h]; rfl
  have HR := Aside0.mk hr
  have HB := Aside0.mk hb
  clear hv hl hr hb
  go_enter Tryd.func19, Tryd.ntmps19
  go_wp2_with fail
  refine H.mono ?_
  rintro e w1 ⟨z, rfl, hz, hb1⟩
  clear H
  obtain ⟨hc, hf⟩ := bcell hb1
  go_wp2_with fail
  refine (one_c).mono ?_
  rintro e w2 ⟨z1, rfl, hz1, hb2⟩
  have H2 := cmp_c (Rd.below hz.rd hb2) hz1.rd hg one_top
  rw [HR.out] at H2
  go_wp2_with fail
  refine H2.mono ?_
  rintro e w3 ⟨rfl, hb3⟩
  clear H2
  go_wp2_with fail
  go_ret
  exact ⟨rfl, below_trans (below_box hb1) (below_trans hb2 hb3)⟩
def isRat (l m : List Int) : Bool := isNat l && isNat m && !m.isEmpty && decide (Nat.gcd (val 4294967296 l).toNat (val 4294967296 m).toNat = 1)
theorem isNat_limbs {l : List Int} (hw : Wf 4294967296 l) (h : isNat l = true) : ∃ n, l = limbs n ∧ n < top := by
  unfold isNat at h
  have h1 := of_decide_eq_true h
  have e := limbs_val hw h1.2
  refine ⟨_, e, len_top.1 ?_⟩
  rw [← e]; exact h1.1
theorem isRat_limbs {n d : Nat} : isRat (limbs n) (limbs d) = (decide (n < top) && decide (d < top) && !(limbs d).isEmpty && decide (Nat.gcd n d = 1)) := by
  unfold isRat
  rw [right_limbs, right_limbs, val_limbs, val_limbs, Int.toNat_natCast, Int.toNat_natCast]
theorem rright_c {w : World} {u v : Value} {l m : List Int} (hu : Rd w u l) (hv : Rd w v m) (hl : Wf 4294967296 l) (hm : Wf 4294967296 m) (b : Bool) (hb : isRat l m = b) : Calls Tryd.prog 19 #[.agg #[u, v]] w (OneB w b) := by
  subst hb
  cases h1 : isNat l with
  | false =>
    have : isRat l m = false := by unfold isRat; rw [h1]; rfl
    rw [this]; exact rright_bad hu hv (.inl h1)
  | true =>
    cases h2 : isNat m with
    | false =>
      have : isRat l m = false := by unfold isRat; rw [h1, h2]; rfl
      rw [this]; exact rright_bad hu hv (.inr h2)
    | true =>
      obtain ⟨n, rfl, hn⟩ := isNat_limbs hl h1
      obtain ⟨d, rfl, hd⟩ := isNat_limbs hm h2
      rcases Nat.eq_zero_or_pos d with h3 | h3
      · subst h3
        have : isRat (limbs n) (limbs 0) = false := by rw [isRat_limbs, limbs_zero]; simp
        rw [this]
        rw [limbs_zero] at hv
        exact rright_zero hu hv hn
      · refine rright_nat hu hv hn hd h3 _ ?_
        rw [isRat_limbs, decide_eq_true hn, decide_eq_true hd]
        have : (limbs d).isEmpty = false := by
          rw [List.isEmpty_eq_false_iff]
          intro h
          have := limbs_nil.1 h
          omega
        rw [this]; rfl
end Go.Proofs.YtakickbnjbedfaaDoor.S
