/- Part of the proof of Card. -/
import Derived.Outline
import Derived.Test.YtakickbnjbedfaaDoorRatTellsS1
import Derived.Test.YtakickbnjbedfaaDoorRatTellsP2
namespace Go.Proofs.YtakickbnjbedfaaDoor.S
set_option linter.unusedVariables false
set_option linter.unusedSimpArgs false
open Go.RowKit Go.Proofs.YtakickbnjbedfaaDoorW.PrintWords Go.Proofs.YtakickbnjbedfaaDoorW.PrintLast Go.Proofs.YtakickbnjbedfaaDoorW.PrintMore Go.Proofs.YtakickbnjbedfaaDoor.PA Go.Proofs.YtakickbnjbedfaaDoor.Num Go.Proofs.YtakickbnjbedfaaDoor.F
theorem bcell {W w1 : World} (hb : Below W.heap.size W w1) : (∀ b o, b < W.heap.size → w1.cell? ⟨b, o, none⟩ = W.cell? ⟨b, o, none⟩) ∧ (∀ b o, b < W.heap.size → w1.frozen? ⟨b, o, none⟩ = W.frozen? ⟨b, o, none⟩) :=
  ⟨fun b o h => hb.cell (p := ⟨b, o, none⟩) h, fun b o h => hb.frozen (p := ⟨b, o, none⟩) h⟩
theorem top_pos : 0 < top := by unfold top; exact Nat.pow_pos (by decide)
theorem one_top : 1 < top := by unfold top; exact Nat.one_lt_pow (by decide) (by decide)
theorem one_c {w : World} : Calls Tryd.prog 73 #[] w fun e w' => ∃ z, e = .returned z ∧ Fr w.heap.size w' z (limbs 1) ∧ Below w.heap.size w w' := by
  have h : Ev (fun k => rat_one.f k) (limbs 1) := Ev.bind (of_f 1 (by decide)) (Ev.all fun k => rfl)
  refine ev_calls h fun k hk => ?_
  refine (rat_one.calls k _ w hk).mono ?_
  rintro e w' ⟨z, rfl, hz, hb⟩
  exact ⟨z, rfl, Fr.of_R hz, hb⟩
theorem IsN.alloc {w : World} {v : Value} {n : Nat} (h : IsN w v n) (o : Obj) : IsN (w.alloc o) v n := h.below (below_alloc (Below.refl _ _) o)
theorem Rd.alloc {w : World} {v : Value} {l : List Int} (h : Rd w v l) (o : Obj) : Rd (w.alloc o) v l := h.below (below_alloc (Below.refl _ _) o)
def OneB (w : World) (b : Bool) (e : Ending) (w' : World) : Prop := e = .returned (.bool b) ∧ Below w.heap.size w w'
theorem below_box {w w1 : World} {o : Obj} (h : Below (w.alloc o).heap.size (w.alloc o) w1) : Below w.heap.size w w1 := below_trans (below_alloc (Below.refl _ _) o) h
theorem below_box2 {w w1 : World} {o o' : Obj} (h : Below ((w.alloc o).alloc o').heap.size ((w.alloc o).alloc o') w1) : Below w.heap.size w w1 := below_box (below_box h)
theorem below_box3 {w w1 : World} {o o' o'' : Obj} (h : Below (((w.alloc o).alloc o').alloc o'').heap.size (((w.alloc o).alloc o').alloc o'') w1) : Below w.heap.size w w1 := below_box (below_box (below_box h))
set_option maxHeartbeats 1000000 in
theorem rright_bad {w : World} {u v : Value} {l m : List Int} (hu : Rd w u l) (hv : Rd w v m) (h : isNat l = false ∨ isNat m = false) : Calls Tryd.prog 19 #[.agg #[u, v]] w (OneB w false) := by
  have H := gcd_bad (hu.alloc (.cells #[u, v] 25)) (hv.alloc (.cells #[u, v] 25)) h
  clear h
  go_enter Tryd.func19, Tryd.ntmps19
  go_wp2_with fail
  refine H.mono ?_
  rintro e w1 ⟨z, rfl, hz, hb1⟩
  clear H
  go_wp2_with fail
  go_ret
  exact ⟨rfl, below_box hb1⟩
set_option maxHeartbeats 1000000 in
theorem rright_zero {w : World} {u v : Value} {n : Nat} (hu : IsN w u n) (hv : Rd w v []) (hn : n < top) : Calls Tryd.prog 19 #[.agg #[u, v]] w (OneB w false) := by
  have hv0 : IsN w v 0 := by unfold IsN; rw [limbs_zero]; exact hv
  have H := gcd_c (hu.alloc (.cells #[u, v] 25)) (hv0.alloc (.cells #[u, v] 25)) hn top_pos
  obtain ⟨A, c, rfl, _, _⟩ := hv.open
  clear hv0 hv
  go_enter Tryd.func19, Tryd.ntmps19
  go_wp2_with fail
  refine H.mono ?_
  rintro e w1 ⟨z, rfl, hz, hb1⟩
  clear H
  obtain ⟨hc, hf⟩ := bcell hb1
  go_wp2_with fail
  go_ret
  exact ⟨rfl, below_box hb1⟩
set_option maxHeartbeats 1000000 in
theorem rright_nat {w : World} {u v : Value} {n d : Nat} (hu : IsN w u n) (hv : IsN w v d) (hn : n < top) (hd : d < top) (d0 : 0 < d) (b : Bool) (hb : decide (Nat.gcd n d = 1) = b) : Calls Tryd.prog 19 #[.agg #[u, v]] w (OneB w b) := by
  have H := gcd_c (hu.alloc (.cells #[u, v] 25)) (hv.alloc (.cells #[u, v] 25)) hn hd
  have hg : Nat.gcd n d < top := Nat.lt_of_le_of_lt (Nat.gcd_le_right _ d0) hd
  obtain ⟨A, c, rfl, _, _⟩ := hv.open
  have hl : 0 < (limbs d).length := by
    rcases Nat.eq_zero_or_pos (limbs d).length with h | h
    · have := limbs_nil.1 (List.length_eq_zero_iff.1 h); omega
    · exact h
  have hl1 : decide (0 < (limbs d).length) = true := decide_eq_true hl
  obtain ⟨r, hr⟩ : ∃ r, ord ((Nat.gcd n d : Nat) : Int) ((1 : Nat) : Int) = r := ⟨_, rfl⟩
  have hrb : (r == 0) = b := by
    rw [← hb, ← hr, Bool.eq_iff_iff]
    simp only [beq_iff_eq, decide_eq_true_eq]
    unfold ord
    constructor
    · intro h
      split at h
      · cases h
      · split at h
        · cases h
        · omega
    · intro h; rw [h]; rfl
  have HR := Aside0.mk hr
  have HB := Aside0.mk hb
  clear hv hl hr hb
  go_enter Tryd.func19, Tryd.ntmps19
  go_wp2_with fail
  refine H.mono ?_
  rintro e w1 ⟨z, rfl, hz, hb1⟩
  clear H
  obtain ⟨hc, hf⟩ := bcell hb1
  go_wp2_with fail
  refine (one_c).mono ?_
  rintro e w2 ⟨z1, rfl, hz1, hb2⟩
  have H2 := cmp_c (Rd.below hz.rd hb2) hz1.rd hg one_top
  rw [HR.out] at H2
  go_wp2_with fail
  refine H2.mono ?_
  rintro e w3 ⟨rfl, hb3⟩
  clear H2
  go_wp2_with fail
  go_ret
  exact ⟨rfl, below_trans (below_box hb1) (below_trans hb2 hb3)⟩
def isRat (l m : List Int) : Bool := isNat l && isNat m && !m.isEmpty && decide (Nat.gcd (val 4294967296 l).toNat (val 4294967296 m).toNat = 1)
theorem isNat_limbs {l : List Int} (hw : Wf 4294967296 l) (h : isNat l = true) : ∃ n, l = limbs n ∧ n < top := by
  unfold isNat at h
  have h1 := of_decide_eq_true h
  have e := limbs_val hw h1.2
  refine ⟨_, e, len_top.1 ?_⟩
  rw [← e]; exact h1.1
theorem isRat_limbs {n d : Nat} : isRat (limbs n) (limbs d) = (decide (n < top) && decide (d < top) && !(limbs d).isEmpty && decide (Nat.gcd n d = 1)) := by
  unfold isRat
  rw [right_limbs, right_limbs, val_limbs, val_limbs, Int.toNat_natCast, Int.toNat_natCast]
theorem isRat_open {l m : List Int} (hl : Wf 4294967296 l) (hm : Wf 4294967296 m) (h : isRat l m = true) : ∃ n d, l = limbs n ∧ m = limbs d ∧ n < top ∧ d < top ∧ 0 < d ∧ Nat.gcd n d = 1 := by
  have h0 := h
  unfold isRat at h0
  simp only [Bool.and_eq_true] at h0
  obtain ⟨n, rfl, hn⟩ := isNat_limbs hl h0.1.1.1
  obtain ⟨d, rfl, hd⟩ := isNat_limbs hm h0.1.1.2
  refine ⟨n, d, rfl, rfl, hn, hd, ?_, ?_⟩
  · rcases Nat.eq_zero_or_pos d with h1 | h1
    · rw [h1, limbs_zero] at h0
      simp at h0
    · exact h1
  · have := of_decide_eq_true h0.2
    rwa [val_limbs, val_limbs, Int.toNat_natCast, Int.toNat_natCast] at this
theorem rright_c {w : World} {u v : Value} {l m : List Int} (hu : Rd w u l) (hv : Rd w v m) (hl : Wf 4294967296 l) (hm : Wf 4294967296 m) (b : Bool) (hb : isRat l m = b) : Calls Tryd.prog 19 #[.agg #[u, v]] w (OneB w b) := by
  subst hb
  cases h1 : isNat l with
  | false =>
    have : isRat l m = false := by unfold isRat; rw [h1]; rfl
    rw [this]; exact rright_bad hu hv (.inl h1)
  | true =>
    cases h2 : isNat m with
    | false =>
      have : isRat l m = false := by unfold isRat; rw [h1, h2]; rfl
      rw [this]; exact rright_bad hu hv (.inr h2)
    | true =>
      obtain ⟨n, rfl, hn⟩ := isNat_limbs hl h1
      obtain ⟨d, rfl, hd⟩ := isNat_limbs hm h2
      rcases Nat.eq_zero_or_pos d with h3 | h3
      · subst h3
        have : isRat (limbs n) (limbs 0) = false := by rw [isRat_limbs, limbs_zero]; simp
        rw [this]
        rw [limbs_zero] at hv
        exact rright_zero hu hv hn
      · refine rright_nat hu hv hn hd h3 _ ?_
        rw [isRat_limbs, decide_eq_true hn, decide_eq_true hd]
        have : (limbs d).isEmpty = false := by
          rw [List.isEmpty_eq_false_iff]
          intro h
          have := limbs_nil.1 h
          omega
        rw [this]; rfl
def OneI (w : World) (c : Int) (e : Ending) (w' : World) : Prop := e = .returned (.int .i64 c) ∧ Below w.heap.size w w'
set_option maxHeartbeats 1000000 in
theorem both_c {w : World} {u v u' v' : Value} {l m l' m' : List Int} (hu : Rd w u l) (hv : Rd w v m) (hu' : Rd w u' l') (hv' : Rd w v' m') (hl : Wf 4294967296 l) (hm : Wf 4294967296 m) (hl' : Wf 4294967296 l') (hm' : Wf 4294967296 m') (b b' : Bool) (hb : isRat l m = b) (hb' : isRat l' m' = b') (c : Int) (hc : (if b && b' then (0 : Int) else 1) = c) :
    Calls Tryd.prog 76 #[.agg #[u, v], .agg #[u', v']] w (OneI w c) := by
  have HC := Aside0.mk hc
  clear hc
  have H1 := rright_c ((hu.alloc (.cells #[u, v] 25)).alloc (.cells #[u', v'] 25)) ((hv.alloc (.cells #[u, v] 25)).alloc (.cells #[u', v'] 25)) hl hm b hb
  clear hb
  go_enter Tryd.func76, Tryd.ntmps76
  go_wp2_with fail
  refine H1.mono ?_
  rintro e w1 ⟨rfl, hb1⟩
  clear H1
  obtain ⟨hc, hf⟩ := bcell hb1
  have HB := Aside0.mk (below_box2 hb1)
  have H2 := rright_c (hu'.below HB.out) (hv'.below HB.out) hl' hm' b' hb'
  clear hb'
  cases b with
  | false =>
    go_wp2_with fail
    go_ret
    rw [← HC.out]
    exact ⟨rfl, HB.out⟩
  | true =>
    go_wp2_with fail
    refine H2.mono ?_
    rintro e w2 ⟨rfl, hb2⟩
    clear H2 hc hf
    cases b' with
    | false =>
      go_wp2_with fail
      go_ret
      rw [← HC.out]
      exact ⟨rfl, below_trans HB.out hb2⟩
    | true =>
      go_wp2_with fail
      go_ret
      rw [← HC.out]
      exact ⟨rfl, below_trans HB.out hb2⟩
def OneQ (w : World) (l m : List Int) (e : Ending) (w' : World) : Prop := ∃ z y, e = .returned (.agg #[z, y]) ∧ Fr w.heap.size w' z l ∧ Fr w.heap.size w' y m ∧ Below w.heap.size w w'
set_option maxHeartbeats 1000000 in
theorem reduce_c {w : World} {u v : Value} {n d : Nat} (hu : IsN w u n) (hv : IsN w v d) (hn : n < top) (hd : d < top) (d0 : 0 < d) : Calls Tryd.prog 131 #[u, v] w (OneQ w (limbs (n / Nat.gcd n d)) (limbs (d / Nat.gcd n d))) := by
  have hg0 : 0 < Nat.gcd n d := Nat.gcd_pos_of_pos_right _ d0
  have hg : Nat.gcd n d < top := Nat.lt_of_le_of_lt (Nat.gcd_le_right _ d0) hd
  have H1 := gcd_c (hu.alloc (.cells #[.slice none 0 0, .slice none 0 0] 25)) (hv.alloc (.cells #[.slice none 0 0, .slice none 0 0] 25)) hn hd
  go_enter Tryd.func131, Tryd.ntmps131
  go_wp2_with fail
  refine H1.mono ?_
  rintro e w1 ⟨g, rfl, hgz, hb1⟩
  clear H1
  have HB1 := Aside0.mk (below_box hb1)
  have H2 := div_c (hu.below HB1.out) hgz.rd hn hg hg0
  go_wp2_with fail
  refine H2.mono ?_
  rintro e w2 ⟨q1, r1, rfl, hq1, hr1, hb2⟩
  clear H2
  have H3 := div_c ((hv.below HB1.out).below hb2) (Rd.below hgz.rd hb2) hd hg hg0
  go_wp2_with fail
  refine H3.mono ?_
  rintro e w3 ⟨q2, r2, rfl, hq2, hr2, hb3⟩
  clear H3
  have hb13 := below_trans hb1 (below_trans hb2 hb3)
  obtain ⟨hc, hf⟩ := bcell hb13
  have hlt : w.heap.size < w1.heap.size := by have := hb1.size; simp at this; omega
  have F1 := (hq1.below hb3).lower (N' := w.heap.size + 1) (by omega)
  have F2 := hq2.lower (N' := w.heap.size + 1) (by have := hb2.size; omega)
  obtain ⟨A1, c1, rfl, _, _⟩ := Rd.open hq1.rd
  obtain ⟨A2, c2, rfl, _, _⟩ := Rd.open hq2.rd
  go_wp2_with fail
  refine bodyPost_ret (v := .agg #[.slice A1 (limbs (n / n.gcd d)).length c1, .slice A2 (limbs (d / n.gcd d)).length c2]) (by simp [results, Tryd.results131, go_sem, hc]) rfl ?_
  refine ⟨_, _, rfl, ?_, ?_, ?_⟩
  · exact ((F1.far (p := ⟨w.heap.size, 0, none⟩) (Nat.lt_succ_self _) _).far (p := ⟨w.heap.size, 1, none⟩) (Nat.lt_succ_self _) _).lower (Nat.le_succ _)
  · exact ((F2.far (p := ⟨w.heap.size, 0, none⟩) (Nat.lt_succ_self _) _).far (p := ⟨w.heap.size, 1, none⟩) (Nat.lt_succ_self _) _).lower (Nat.le_succ _)
  · exact below_set (below_set (below_box hb13) (Nat.le_refl _)) (Nat.le_refl _)
theorem kp_lt {n : Nat} (h : n < top) : kp n = (limbs n, 0) := if_pos h
theorem kp_ge {n : Nat} (h : ¬ n < top) : kp n = ([], 6) := if_neg h
theorem mul_ok {w : World} {u v : Value} {a b : Nat} (hu : IsN w u a) (hv : IsN w v b) (ha : a < top) (hb : b < top) (h : a * b < top) : Calls Tryd.prog 54 #[u, v] w (OneE w (limbs (a * b)) 0) := by
  have := mul_c hu hv ha hb
  rw [kp_lt h] at this
  exact this
theorem mul_big {w : World} {u v : Value} {a b : Nat} (hu : IsN w u a) (hv : IsN w v b) (ha : a < top) (hb : b < top) (h : ¬ a * b < top) : Calls Tryd.prog 54 #[u, v] w (OneE w [] 6) := by
  have := mul_c hu hv ha hb
  rw [kp_ge h] at this
  exact this
def OneQE (w : World) (l m : List Int) (c : Int) (e : Ending) (w' : World) : Prop := ∃ z y, e = .returned (.tuple #[.agg #[z, y], .int .i64 c]) ∧ Fr w.heap.size w' z l ∧ Fr w.heap.size w' y m ∧ Below w.heap.size w w'
abbrev zq : Value := .agg #[.slice none 0 0, .slice none 0 0]
set_option maxHeartbeats 2000000 in
theorem over_ok {w : World} {u v x y : Value} {a b c d : Nat} (hu : IsN w u a) (hv : IsN w v b) (hx : IsN w x c) (hy : IsN w y d) (ha : a < top) (hb : b < top) (hc : c < top) (hd : d < top) (h1 : a * b < top) (h2 : c * d < top) (h0 : 0 < c * d) :
    Calls Tryd.prog 77 #[u, v, x, y] w (OneQE w (limbs (a * b / Nat.gcd (a * b) (c * d))) (limbs (c * d / Nat.gcd (a * b) (c * d))) 0) := by
  have H1 := mul_ok (hu.alloc (.cells #[.slice none 0 0, .slice none 0 0] 25)) (hv.alloc (.cells #[.slice none 0 0, .slice none 0 0] 25)) ha hb h1
  generalize a * b = n at *
  go_enter Tryd.func77, Tryd.ntmps77
  go_wp2_with fail
  refine H1.mono ?_
  rintro e w1 ⟨z, rfl, hz, hb1⟩
  clear H1
  have HB1 := Aside0.mk (below_box hb1)
  have H2 := mul_ok (hx.below HB1.out) (hy.below HB1.out) hc hd h2
  generalize c * d = m at *
  go_wp2_with fail
  refine H2.mono ?_
  rintro e w2 ⟨z2, rfl, hz2, hb2⟩
  clear H2
  have H3 := reduce_c (Rd.below hz.rd hb2) hz2.rd h1 h2 h0
  go_wp2_with fail
  refine H3.mono ?_
  rintro e w3 ⟨q1, q2, rfl, hq1, hq2, hb3⟩
  clear H3
  have hb13 := below_trans hb1 (below_trans hb2 hb3)
  obtain ⟨hc', hf'⟩ := bcell hb13
  have hlt : w.heap.size < w1.heap.size := by have := hb1.size; simp at this; omega
  have F1 := hq1.lower (N' := w.heap.size + 1) (by have := hb2.size; omega)
  have F2 := hq2.lower (N' := w.heap.size + 1) (by have := hb2.size; omega)
  obtain ⟨A1, c1, rfl, _, _⟩ := Rd.open hq1.rd
  obtain ⟨A2, c2, rfl, _, _⟩ := Rd.open hq2.rd
  go_wp2_with fail
  refine bodyPost_ret (v := .tuple #[.agg #[.slice A1 (limbs (n / n.gcd m)).length c1, .slice A2 (limbs (m / n.gcd m)).length c2], .int .i64 0]) (by simp [results, Tryd.results77, go_sem, hc']) rfl ?_
  refine ⟨_, _, rfl, ?_, ?_, ?_⟩
  · exact ((F1.far (p := ⟨w.heap.size, 0, none⟩) (Nat.lt_succ_self _) _).far (p := ⟨w.heap.size, 1, none⟩) (Nat.lt_succ_self _) _).lower (Nat.le_succ _)
  · exact ((F2.far (p := ⟨w.heap.size, 0, none⟩) (Nat.lt_succ_self _) _).far (p := ⟨w.heap.size, 1, none⟩) (Nat.lt_succ_self _) _).lower (Nat.le_succ _)
  · exact below_set (below_set (below_box hb13) (Nat.le_refl _)) (Nat.le_refl _)
set_option maxHeartbeats 2000000 in
theorem over_big_a {w : World} {u v x y : Value} {a b c d : Nat} (hu : IsN w u a) (hv : IsN w v b) (hx : IsN w x c) (hy : IsN w y d) (ha : a < top) (hb : b < top) (hc : c < top) (hd : d < top) (h1 : a * b < top) (h2 : ¬ c * d < top) :
    Calls Tryd.prog 77 #[u, v, x, y] w (OneQE w [] [] 6) := by
  have H1 := mul_ok (hu.alloc (.cells #[.slice none 0 0, .slice none 0 0] 25)) (hv.alloc (.cells #[.slice none 0 0, .slice none 0 0] 25)) ha hb h1
  generalize a * b = n at *
  go_enter Tryd.func77, Tryd.ntmps77
  go_wp2_with fail
  refine H1.mono ?_
  rintro e w1 ⟨z, rfl, hz, hb1⟩
  clear H1
  have HB1 := Aside0.mk (below_box hb1)
  have H2 := mul_big (hx.below HB1.out) (hy.below HB1.out) hc hd h2
  generalize c * d = m at *
  go_wp2_with fail
  refine H2.mono ?_
  rintro e w2 ⟨z2, rfl, hz2, hb2⟩
  clear H2
  have hb12 := below_trans hb1 hb2
  obtain ⟨hc', hf'⟩ := bcell hb12
  have e06 : max (0 : Int) 6 = 6 := rfl
  have e60 : max (6 : Int) 0 = 6 := rfl
  have e66 : max (6 : Int) 6 = 6 := rfl
  go_wp2_with fail
  refine bodyPost_ret (v := .tuple #[.agg #[.slice none 0 0, .slice none 0 0], .int .i64 6]) (by simp [results, Tryd.results77, go_sem, hc', e06, e60, e66]) rfl ?_
  exact ⟨_, _, rfl, Fr.nil _ _, Fr.nil _ _, below_set (below_set (below_box hb12) (Nat.le_refl _)) (Nat.le_refl _)⟩
set_option maxHeartbeats 2000000 in
theorem over_big_b {w : World} {u v x y : Value} {a b c d : Nat} (hu : IsN w u a) (hv : IsN w v b) (hx : IsN w x c) (hy : IsN w y d) (ha : a < top) (hb : b < top) (hc : c < top) (hd : d < top) (h1 : ¬ a * b < top) (h2 : c * d < top) :
    Calls Tryd.prog 77 #[u, v, x, y] w (OneQE w [] [] 6) := by
  have H1 := mul_big (hu.alloc (.cells #[.slice none 0 0, .slice none 0 0] 25)) (hv.alloc (.cells #[.slice none 0 0, .slice none 0 0] 25)) ha hb h1
  generalize a * b = n at *
  go_enter Tryd.func77, Tryd.ntmps77
  go_wp2_with fail
  refine H1.mono ?_
  rintro e w1 ⟨z, rfl, hz, hb1⟩
  clear H1
  have HB1 := Aside0.mk (below_box hb1)
  have H2 := mul_ok (hx.below HB1.out) (hy.below HB1.out) hc hd h2
  generalize c * d = m at *
  go_wp2_with fail
  refine H2.mono ?_
  rintro e w2 ⟨z2, rfl, hz2, hb2⟩
  clear H2
  have hb12 := below_trans hb1 hb2
  obtain ⟨hc', hf'⟩ := bcell hb12
  have e06 : max (0 : Int) 6 = 6 := rfl
  have e60 : max (6 : Int) 0 = 6 := rfl
  have e66 : max (6 : Int) 6 = 6 := rfl
  go_wp2_with fail
  refine bodyPost_ret (v := .tuple #[.agg #[.slice none 0 0, .slice none 0 0], .int .i64 6]) (by simp [results, Tryd.results77, go_sem, hc', e06, e60, e66]) rfl ?_
  exact ⟨_, _, rfl, Fr.nil _ _, Fr.nil _ _, below_set (below_set (below_box hb12) (Nat.le_refl _)) (Nat.le_refl _)⟩
set_option maxHeartbeats 2000000 in
theorem over_big_c {w : World} {u v x y : Value} {a b c d : Nat} (hu : IsN w u a) (hv : IsN w v b) (hx : IsN w x c) (hy : IsN w y d) (ha : a < top) (hb : b < top) (hc : c < top) (hd : d < top) (h1 : ¬ a * b < top) (h2 : ¬ c * d < top) :
    Calls Tryd.prog 77 #[u, v, x, y] w (OneQE w [] [] 6) := by
  have H1 := mul_big (hu.alloc (.cells #[.slice none 0 0, .slice none 0 0] 25)) (hv.alloc (.cells #[.slice none 0 0, .slice none 0 0] 25)) ha hb h1
  generalize a * b = n at *
  go_enter Tryd.func77, Tryd.ntmps77
  go_wp2_with fail
  refine H1.mono ?_
  rintro e w1 ⟨z, rfl, hz, hb1⟩
  clear H1
  have HB1 := Aside0.mk (below_box hb1)
  have H2 := mul_big (hx.below HB1.out) (hy.below HB1.out) hc hd h2
  generalize c * d = m at *
  go_wp2_with fail
  refine H2.mono ?_
  rintro e w2 ⟨z2, rfl, hz2, hb2⟩
  clear H2
  have hb12 := below_trans hb1 hb2
  obtain ⟨hc', hf'⟩ := bcell hb12
  have e06 : max (0 : Int) 6 = 6 := rfl
  have e60 : max (6 : Int) 0 = 6 := rfl
  have e66 : max (6 : Int) 6 = 6 := rfl
  go_wp2_with fail
  refine bodyPost_ret (v := .tuple #[.agg #[.slice none 0 0, .slice none 0 0], .int .i64 6]) (by simp [results, Tryd.results77, go_sem, hc', e06, e60, e66]) rfl ?_
  exact ⟨_, _, rfl, Fr.nil _ _, Fr.nil _ _, below_set (below_set (below_box hb12) (Nat.le_refl _)) (Nat.le_refl _)⟩
theorem over_big {w : World} {u v x y : Value} {a b c d : Nat} (hu : IsN w u a) (hv : IsN w v b) (hx : IsN w x c) (hy : IsN w y d) (ha : a < top) (hb : b < top) (hc : c < top) (hd : d < top) (h : ¬ (a * b < top ∧ c * d < top)) :
    Calls Tryd.prog 77 #[u, v, x, y] w (OneQE w [] [] 6) := by
  by_cases h1 : a * b < top
  · exact over_big_a hu hv hx hy ha hb hc hd h1 (fun e => h ⟨h1, e⟩)
  · by_cases h2 : c * d < top
    · exact over_big_b hu hv hx hy ha hb hc hd h1 h2
    · exact over_big_c hu hv hx hy ha hb hc hd h1 h2
def ov (n d : Nat) : List Int × List Int × Int := if n < top ∧ d < top then (limbs (n / Nat.gcd n d), limbs (d / Nat.gcd n d), 0) else ([], [], 6)
theorem over_c {w : World} {u v x y : Value} {a b c d : Nat} (hu : IsN w u a) (hv : IsN w v b) (hx : IsN w x c) (hy : IsN w y d) (ha : a < top) (hb : b < top) (hc : c < top) (hd : d < top) (h0 : 0 < c * d) :
    Calls Tryd.prog 77 #[u, v, x, y] w (OneQE w (ov (a * b) (c * d)).1 (ov (a * b) (c * d)).2.1 (ov (a * b) (c * d)).2.2) := by
  unfold ov
  by_cases h : a * b < top ∧ c * d < top
  · rw [if_pos h]; exact over_ok hu hv hx hy ha hb hc hd h.1 h.2 h0
  · rw [if_neg h]; exact over_big hu hv hx hy ha hb hc hd h
end Go.Proofs.YtakickbnjbedfaaDoor.S
