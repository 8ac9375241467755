/- Part of the proof of Card. -/
import Derived.Test.YtakickbnjbedfaaDoorRankScaleS6
namespace Go.Proofs.YtakickbnjbedfaaDoor.PB
set_option linter.unusedVariables false
set_option linter.unusedSimpArgs false
open Go.RowKit Go.Proofs.YtakickbnjbedfaaDoorW.PrintWords Go.Proofs.YtakickbnjbedfaaDoorW.PrintLast Go.Proofs.YtakickbnjbedfaaDoorW.PrintMore Go.Proofs.YtakickbnjbedfaaDoor.PA Go.Proofs.YtakickbnjbedfaaDoor.Num Go.Proofs.YtakickbnjbedfaaDoor.F Go.Proofs.YtakickbnjbedfaaDoor.S
def Own2 (N : Nat) (w : World) (z y : Value) (l m : List Int) : Prop :=
  Kd.R (Kd.int .u32) 55 w N (fun k_ => some k_ ≠ (y : Value).ownBlock) z l ∧ Kd.R (Kd.int .u32) 55 w N (fun k_ => some k_ ≠ (z : Value).ownBlock) y m
theorem int_E : (Kd.int .u32).E = [] := rfl
theorem Own2.mk {N : Nat} {w : World} {z y : Value} {l m : List Int} (h1 : Fr N w z l) (h2 : Fr N w y m) (h : ∀ k, z.ownBlock = some k → y.ownBlock ≠ some k) : Own2 N w z y l m :=
  ⟨Kd.R_reok int_E h1 (fun k hk e => h k hk e.symm), Kd.R_reok int_E h2 (fun k hk e => h k e.symm hk)⟩
theorem Own2.apart {N : Nat} {w : World} {z y : Value} {l m : List Int} (h : Own2 N w z y l m) : ∀ k, z.ownBlock = some k → y.ownBlock ≠ some k := fun k hk e => h.1.1 k hk e.symm
theorem Own2.l {N : Nat} {w : World} {z y : Value} {l m : List Int} (h : Own2 N w z y l m) : Fr N w z l := Fr.of_R h.1
theorem Own2.r {N : Nat} {w : World} {z y : Value} {l m : List Int} (h : Own2 N w z y l m) : Fr N w y m := Fr.of_R h.2
theorem fr_lt {N : Nat} {w : World} {z : Value} {l : List Int} (h : Fr N w z l) : ∀ k, z.ownBlock = some k → N ≤ k ∧ k < w.heap.size := fun k hk => by
  have := (Kd.R_bound h).1 k hk
  exact ⟨this.2.1, this.2.2.1⟩
def OwnQ (w : World) (l m : List Int) (e : Ending) (w' : World) : Prop := ∃ z y, e = .returned (.agg #[z, y]) ∧ Own2 w.heap.size w' z y l m ∧ Below w.heap.size w w'
def OwnQE (w : World) (l m : List Int) (c : Int) (e : Ending) (w' : World) : Prop := ∃ z y, e = .returned (.tuple #[.agg #[z, y], .int .i64 c]) ∧ Own2 w.heap.size w' z y l m ∧ Below w.heap.size w w'
variable {w : World} {u v : Value} {n d : Nat}
set_option maxHeartbeats 1000000 in
theorem reduce_own {w : World} {u v : Value} {n d : Nat} (hu : IsN w u n) (hv : IsN w v d) (hn : n < top) (hd : d < top) (d0 : 0 < d) : Calls Tryd.prog 131 #[u, v] w (OwnQ w (limbs (n / Nat.gcd n d)) (limbs (d / Nat.gcd n d))) := by
  have hg0 : 0 < Nat.gcd n d := Nat.gcd_pos_of_pos_right _ d0
  have hg : Nat.gcd n d < top := Nat.lt_of_le_of_lt (Nat.gcd_le_right _ d0) hd
  have H1 := gcd_c (hu.alloc (.cells #[.slice none 0 0, .slice none 0 0] 25)) (hv.alloc (.cells #[.slice none 0 0, .slice none 0 0] 25)) hn hd
  go_enter Tryd.func131, Tryd.ntmps131
  go_wp2_with fail
  refine H1.mono ?_
  rintro e w1 ⟨g, rfl, hgz, hb1⟩
  clear H1
  have HB1 := Aside0.mk (below_box hb1)
  have H2 := div_c (hu.below HB1.out) hgz.rd hn hg hg0
  go_wp2_with fail
  refine H2.mono ?_
  rintro e w2 ⟨q1, r1, rfl, hq1, hr1, hb2⟩
  clear H2
  have H3 := div_c ((hv.below HB1.out).below hb2) (Rd.below hgz.rd hb2) hd hg hg0
  go_wp2_with fail
  refine H3.mono ?_
  rintro e w3 ⟨q2, r2, rfl, hq2, hr2, hb3⟩
  clear H3
  have hb13 := below_trans hb1 (below_trans hb2 hb3)
  obtain ⟨hc, hf⟩ := bcell hb13
  have hlt : w.heap.size < w1.heap.size := by have := hb1.size; simp at this; omega
  have F1 := (hq1.below hb3).lower (N' := w.heap.size + 1) (by omega)
  have F2 := hq2.lower (N' := w.heap.size + 1) (by have := hb2.size; omega)
  have AP : ∀ k, q1.ownBlock = some k → q2.ownBlock ≠ some k := fun k h1 h2 => by have := fr_lt hq1 k h1; have := fr_lt hq2 k h2; omega
  obtain ⟨A1, c1, rfl, _, _⟩ := Rd.open hq1.rd
  obtain ⟨A2, c2, rfl, _, _⟩ := Rd.open hq2.rd
  go_wp2_with fail
  refine bodyPost_ret (v := .agg #[.slice A1 (limbs (n / n.gcd d)).length c1, .slice A2 (limbs (d / n.gcd d)).length c2]) (by simp [results, Tryd.results131, go_sem, hc]) rfl ?_
  refine ⟨_, _, rfl, Own2.mk ?_ ?_ AP, ?_⟩
  · exact ((F1.far (p := ⟨w.heap.size, 0, none⟩) (Nat.lt_succ_self _) _).far (p := ⟨w.heap.size, 1, none⟩) (Nat.lt_succ_self _) _).lower (Nat.le_succ _)
  · exact ((F2.far (p := ⟨w.heap.size, 0, none⟩) (Nat.lt_succ_self _) _).far (p := ⟨w.heap.size, 1, none⟩) (Nat.lt_succ_self _) _).lower (Nat.le_succ _)
  · exact below_set (below_set (below_box hb13) (Nat.le_refl _)) (Nat.le_refl _)
set_option maxHeartbeats 4000000 in
set_option maxRecDepth 100000 in
theorem make_own (hu : IsN w u n) (hv : IsN w v d) (tn : n < top) (td : d < top) (d0 : 0 < d) :
    Calls Tryd.prog 69 #[u, v] w (OwnQE w (limbs (n / Nat.gcd n d)) (limbs (d / Nat.gcd n d)) 0) := by
  have H1 := right_yes (w := w.alloc (.cells #[.slice none 0 0, .slice none 0 0] 25)) (hu.alloc _) tn
  have hvO := Aside0.mk hv
  obtain ⟨A, c, rfl, hAl, hAc⟩ := Rd.open hv
  have hpos : 0 < (limbs d).length := by
    rcases Nat.eq_zero_or_pos (limbs d).length with h | h
    · have := limbs_nil.1 (List.length_eq_zero_iff.1 h); omega
    · exact h
  generalize hL : (limbs d).length = L at *
  have hne : ¬ L = 0 := by omega
  clear hAc hv
  go_enter Tryd.func69, Tryd.ntmps69
  go_wp2_with fail
  refine H1.mono ?_
  rintro e w1 ⟨rfl, hb1⟩
  clear H1
  have hb1' := below_box hb1
  have H2 := right_yes (hvO.out.below hb1') td
  go_wp2_with fail
  refine H2.mono ?_
  rintro e w2 ⟨rfl, hb2⟩
  clear H2
  have H3 := reduce_own ((hu.below hb1').below hb2) ((hvO.out.below hb1').below hb2) tn td d0
  generalize n / Nat.gcd n d = x at *
  generalize d / Nat.gcd n d = y at *
  have HB := Aside0.mk (below_trans hb1 hb2)
  have hsz : w.heap.size < w2.heap.size := by have := HB.out.size; simp at this; omega
  clear hb1 hb2 hb1'
  go_wp2_with fail
  refine H3.mono ?_
  rintro e w3 ⟨z, t, rfl, HO, hb3⟩
  clear H3
  have hz := HO.l
  have ht := HO.r
  have AP := HO.apart
  clear HO
  have hb := below_trans HB.out hb3
  obtain ⟨hc, hf⟩ := bcell hb
  have F1 := hz.lower (N' := w.heap.size + 1) (by omega)
  have F2 := ht.lower (N' := w.heap.size + 1) (by omega)
  obtain ⟨A1, k1, rfl, _, _⟩ := Rd.open hz.rd
  obtain ⟨A2, k2, rfl, _, _⟩ := Rd.open ht.rd
  go_wp2_with fail
  refine bodyPost_ret (v := .tuple #[.agg #[.slice A1 (limbs x).length k1, .slice A2 (limbs y).length k2], .int .i64 0]) (by simp [results, Tryd.results69, go_sem, hc]) rfl ?_
  refine ⟨_, _, rfl, Own2.mk ?_ ?_ AP, ?_⟩
  · exact ((F1.far (p := ⟨w.heap.size, 0, none⟩) (by simp) _).far (p := ⟨w.heap.size, 1, none⟩) (by simp) _).lower (by omega)
  · exact ((F2.far (p := ⟨w.heap.size, 0, none⟩) (by simp) _).far (p := ⟨w.heap.size, 1, none⟩) (by simp) _).lower (by omega)
  · exact below_set (below_set (below_box hb) (by omega)) (by omega)
def nt (l : List Int) : Nat := (val 4294967296 l).toNat
theorem nt_limbs (n : Nat) : nt (limbs n) = n := by unfold nt; rw [val_limbs]; omega
def isL (l : List Int) : Bool := decide (l = limbs (nt l)) && decide (nt l < top)
theorem isL_limbs {n : Nat} (h : n < top) : isL (limbs n) = true := by unfold isL; rw [nt_limbs]; simp [h]
theorem isL_open {l : List Int} (h : isL l = true) : l = limbs (nt l) ∧ nt l < top := by unfold isL at h; simpa using h
theorem rd_C {w : World} {A : Option Addr} {c : Nat} {l : List Int} (h : Kd.C (Kd.int .u32) w A l.length l) (hc : l.length ≤ c) : Rd w (.slice A l.length c) l := by
  refine ⟨A, c, rfl, hc, fun W' hW => ?_⟩
  have hs : w.heap.size ≤ W'.heap.size := by
    rcases Nat.eq_zero_or_pos w.heap.size with h0 | h0
    · omega
    · have := heap_lt (hW (w.heap.size - 1) trivial (by omega)) (by omega)
      omega
  have := Kd.C_below h (w1 := { w with heap := W'.heap }) ⟨rfl, rfl, rfl, hs, fun k hk => hW k trivial hk⟩
  exact this
def rat_Make.f (l0 : List Int) (l1 : List Int) : Option (List Int × List Int × Int) := if isL l0 && isL l1 && decide (0 < nt l1) then some (limbs (nt l0 / Nat.gcd (nt l0) (nt l1)), limbs (nt l1 / Nat.gcd (nt l0) (nt l1)), 0) else none
theorem rat_Make.calls (A0 : Option Addr) (c0 : Nat) (l0 : List Int) (A1 : Option Addr) (c1 : Nat) (l1 : List Int) (r1 : List Int) (r2 : List Int) (r3 : Int) (w : World) (hr0 : Kd.C (Kd.int .u32) w A0 l0.length l0) (hc0 : l0.length ≤ c0) (hr1 : Kd.C (Kd.int .u32) w A1 l1.length l1) (hc1 : l1.length ≤ c1) (h : rat_Make.f l0 l1 = some (r1, r2, r3)) :
    Calls Tryd.prog 69 #[.slice A0 l0.length c0, .slice A1 l1.length c1] w fun e w' => ∃ v0_ v1_ : Value, e = .returned (.tuple #[.agg #[v0_, v1_], .int .i64 r3]) ∧ Kd.R (Kd.int .u32) 55 w' w.heap.size (fun k_ => some k_ ≠ (v1_ : Value).ownBlock) v0_ r1 ∧ Kd.R (Kd.int .u32) 55 w' w.heap.size (fun k_ => some k_ ≠ (v0_ : Value).ownBlock) v1_ r2 ∧ Below w.heap.size w w' := by
  unfold rat_Make.f at h
  split at h
  · rename_i hg
    simp only [Bool.and_eq_true, decide_eq_true_eq] at hg
    obtain ⟨⟨h0, h1⟩, hp⟩ := hg
    obtain ⟨e0, t0⟩ := isL_open h0
    obtain ⟨e1, t1⟩ := isL_open h1
    injection h with h
    simp only [Prod.mk.injEq] at h
    obtain ⟨rfl, rfl, rfl⟩ := h
    have q0 : IsN w (.slice A0 l0.length c0) (nt l0) := by unfold IsN; rw [← e0]; exact rd_C hr0 hc0
    have q1 : IsN w (.slice A1 l1.length c1) (nt l1) := by unfold IsN; rw [← e1]; exact rd_C hr1 hc1
    refine (make_own q0 q1 t0 t1 hp).mono ?_
    rintro e w' ⟨z, y, rfl, ho, hb⟩
    exact ⟨z, y, rfl, ho.1, ho.2, hb⟩
  · cases h
def rat_Text.f (l0_0 : List Int) (l0_1 : List Int) : Option ByteArray := if isL l0_0 && isL l0_1 && isRat l0_0 l0_1 then some (rdec (nt l0_0) (nt l0_1)) else none
theorem rat_Text.calls (A0_0 : Option Addr) (c0_0 : Nat) (l0_0 : List Int) (A0_1 : Option Addr) (c0_1 : Nat) (l0_1 : List Int) (r : ByteArray) (w : World) (hr0_0 : Kd.C (Kd.int .u32) w A0_0 l0_0.length l0_0) (hc0_0 : l0_0.length ≤ c0_0) (hr0_1 : Kd.C (Kd.int .u32) w A0_1 l0_1.length l0_1) (hc0_1 : l0_1.length ≤ c0_1) (h : rat_Text.f l0_0 l0_1 = some r) :
    Calls Tryd.prog 26 #[.agg #[.slice A0_0 l0_0.length c0_0, .slice A0_1 l0_1.length c0_1]] w fun e w' => e = .returned (.string r) ∧ Below w.heap.size w w' := by
  unfold rat_Text.f at h
  split at h
  · rename_i hg
    simp only [Bool.and_eq_true] at hg
    obtain ⟨⟨h0, h1⟩, hp⟩ := hg
    obtain ⟨e0, t0⟩ := isL_open h0
    obtain ⟨e1, t1⟩ := isL_open h1
    injection h with h
    subst h
    have q0 : IsN w (.slice A0_0 l0_0.length c0_0) (nt l0_0) := by unfold IsN; rw [← e0]; exact rd_C hr0_0 hc0_0
    have q1 : IsN w (.slice A0_1 l0_1.length c0_1) (nt l0_1) := by unfold IsN; rw [← e1]; exact rd_C hr0_1 hc0_1
    exact rtext_good q0 q1 t0 t1 (by rw [← e0, ← e1]; exact hp)
  · cases h
end Go.Proofs.YtakickbnjbedfaaDoor.PB
