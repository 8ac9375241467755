/- Part of the proof of Card. -/
import Derived.Test.YtakickbnjbedfaaDoorRatTellsR7
import Derived.Test.YtakickbnjbedfaaDoorRatTellsP3
namespace Go.Proofs.YtakickbnjbedfaaDoor.S
set_option linter.unusedVariables false
set_option linter.unusedSimpArgs false
open Go.RowKit Go.Proofs.YtakickbnjbedfaaDoorW.PrintWords Go.Proofs.YtakickbnjbedfaaDoorW.PrintLast Go.Proofs.YtakickbnjbedfaaDoorW.PrintMore Go.Proofs.YtakickbnjbedfaaDoor.PA Go.Proofs.YtakickbnjbedfaaDoor.Num Go.Proofs.YtakickbnjbedfaaDoor.F Go.Proofs.YtakickbnjbedfaaDoor.R
def OneN (w : World) (l : List Int) (e : Ending) (w' : World) : Prop := ∃ z, e = .returned z ∧ Fr w.heap.size w' z l ∧ Below w.heap.size w w'
section
variable {w : World} {u v u' v' : Value} {a b : Nat}
theorem dmul_c (hu : IsN w u a) (hv : IsN w v b) (la : (limbs a).length ≤ 1000) (lb : (limbs b).length ≤ 1000) : Calls Tryd.prog 79 #[u, v] w (OneN w (limbs (a * b))) := by
  obtain ⟨A, c, rfl, hl, hC⟩ := hu.open
  obtain ⟨A', c', rfl, hl', hC'⟩ := hv.open
  refine ev_calls (rmul_f a b la lb) fun k hk => ?_
  refine (samphireref02_Mul.calls k A c _ A' c' _ _ w hC hl hC' hl' hk).mono ?_
  rintro e w' ⟨z, rfl, hz, hb⟩
  exact ⟨z, rfl, Fr.of_R hz, hb⟩
theorem dsub_c (hu : IsN w u a) (hv : IsN w v b) (la : (limbs a).length ≤ 1000) (h : b ≤ a) : Calls Tryd.prog 83 #[u, v] w (OneN w (limbs (a - b))) := by
  obtain ⟨A, c, rfl, hl, hC⟩ := hu.open
  obtain ⟨A', c', rfl, hl', hC'⟩ := hv.open
  refine ev_calls (rsub_f a b la h) fun k hk => ?_
  refine (samphireref02_Sub.calls k A c _ A' c' _ _ w hC hl hC' hl' hk).mono ?_
  rintro e w' ⟨z, rfl, hz, hb⟩
  exact ⟨z, rfl, Fr.of_R hz, hb⟩
theorem dadd_c (hu : IsN w u a) (hv : IsN w v b) (la : (limbs a).length ≤ 900) (lb : (limbs b).length ≤ 900) : Calls Tryd.prog 84 #[u, v] w (OneN w (limbs (a + b))) := by
  obtain ⟨A, c, rfl, hl, hC⟩ := hu.open
  obtain ⟨A', c', rfl, hl', hC'⟩ := hv.open
  refine ev_calls (radd_f a b la lb) fun k hk => ?_
  refine (samphireref02_Add.calls k A c _ A' c' _ _ w hC hl hC' hl' hk).mono ?_
  rintro e w' ⟨z, rfl, hz, hb⟩
  exact ⟨z, rfl, Fr.of_R hz, hb⟩
theorem dcmp_c (hu : IsN w u a) (hv : IsN w v b) (la : (limbs a).length ≤ 1000) (lb : (limbs b).length ≤ 1000) : Calls Tryd.prog 81 #[u, v] w (OneI w (ord a b)) := by
  obtain ⟨A, c, rfl, hl, hC⟩ := hu.open
  obtain ⟨A', c', rfl, hl', hC'⟩ := hv.open
  refine ev_calls (rcmp_f a b la lb) fun k hk => ?_
  refine (samphireref02_Cmp.calls k A c _ A' c' _ _ w hC hl hC' hl' hk).mono ?_
  rintro e w' ⟨rfl, n, rfl⟩
  exact ⟨rfl, pw_below_drewN (Below.refl _ _) _⟩
theorem dred_c (hu : IsN w u a) (hv : IsN w v b) (b0 : 0 < b) (la : (limbs a).length ≤ 1000) (lb : (limbs b).length ≤ 1000) : Calls Tryd.prog 32 #[u, v] w (OneQ w (limbs (a / Nat.gcd a b)) (limbs (b / Nat.gcd a b))) := by
  obtain ⟨A, c, rfl, hl, hC⟩ := hu.open
  obtain ⟨A', c', rfl, hl', hC'⟩ := hv.open
  refine ev_calls (rreduce_f a b b0 la lb) fun k hk => ?_
  refine (samphireref03_Reduce.calls k A c _ A' c' _ _ _ w hC hl hC' hl' hk).mono ?_
  rintro e w' ⟨z, y, rfl, hz, hy, hb⟩
  exact ⟨z, y, rfl, Fr.of_R hz, Fr.of_R hy, hb⟩
theorem dbig_c {l m r : List Int} {x : Value} (hu : Rd w u l) (hv : Rd w v m) (hx : Rd w x r) (t : Bool) (ht : decide (l.length > 64 ∨ m.length > 64 ∨ r.length > 64) = t) : Calls Tryd.prog 80 #[u, v, x] w (OneB w t) := by
  obtain ⟨A, c, rfl, hl, hC⟩ := hu.open
  obtain ⟨A', c', rfl, hl', hC'⟩ := hv.open
  obtain ⟨A2, c2, rfl, hl2, hC2⟩ := hx.open
  refine (samphireref03_big.calls A c l A' c' m A2 c2 r t w hC hl hC' hl' hC2 hl2 (by rw [big_f, ht])).mono ?_
  rintro e w' ⟨rfl, n, rfl⟩
  exact ⟨rfl, pw_below_drewN (Below.refl _ _) _⟩
theorem dsmall_c {l m : List Int} (hu : Rd w u l) (hv : Rd w v m) (t : Bool) (ht : decide (l.length ≤ 70 ∧ m.length ≤ 70) = t) : Calls Tryd.prog 16 #[.agg #[u, v]] w (OneB w t) := by
  obtain ⟨A, c, rfl, hl, hC⟩ := hu.open
  obtain ⟨A', c', rfl, hl', hC'⟩ := hv.open
  exact samphireref03_Small.calls A c l A' c' m t w hC hl hC' hl' (by rw [small_f, ht])
theorem dright_c {l m : List Int} (hu : Rd w u l) (hv : Rd w v m) (hl0 : Wf 4294967296 l) (hm0 : Wf 4294967296 m) (t : Bool) (ht : isRat l m = t) : Calls Tryd.prog 18 #[.agg #[u, v]] w (OneB w t) := by
  subst ht
  obtain ⟨A, c, rfl, hl, hC⟩ := hu.open
  obtain ⟨A', c', rfl, hl', hC'⟩ := hv.open
  refine ev_calls (rrat_f l m hl0 hm0) fun k hk => ?_
  exact samphireref03_Right.calls k A c l A' c' m _ w hC hl hC' hl' hk
theorem told_f (l m l' m' : List Int) (x y : Int) (h1 : l.length ≤ 1000000) (h2 : m.length ≤ 1000000) : Ev (fun k => samphirelaw03_told.f k l m x l' m' y) (decide (l = l' ∧ m = m' ∧ x = y)) := by
  unfold samphirelaw03_told.f
  refine Ev.bind (rsame_f l m l' m' h1 h2) (Ev.all fun k => ?_)
  by_cases h : l = l' ∧ m = m'
  · rw [if_pos (decide_eq_true h)]
    simp [h]; rfl
  · rw [if_neg (by simp [h]), decide_eq_false (fun e => h ⟨e.1, e.2.1⟩)]
theorem told_yes {l m : List Int} {x : Int} (hu : Rd w u l) (hv : Rd w v m) (hu' : Rd w u' l) (hv' : Rd w v' m) (h1 : l.length ≤ 1000000) (h2 : m.length ≤ 1000000) : Calls Tryd.prog 25 #[.agg #[u, v], .int .i64 x, .agg #[u', v'], .int .i64 x] w (OneB w true) := by
  obtain ⟨A, c, rfl, hl, hC⟩ := hu.open
  obtain ⟨A', c', rfl, hl', hC'⟩ := hv.open
  obtain ⟨A2, c2, rfl, hl2, hC2⟩ := hu'.open
  obtain ⟨A3, c3, rfl, hl3, hC3⟩ := hv'.open
  refine ev_calls (told_f l m l m x x h1 h2) fun k hk => ?_
  have := samphirelaw03_told.calls k A c l A' c' m x A2 c2 l A3 c3 m x _ w hC hl hC' hl' hC2 hl2 hC3 hl3 hk
  simp only [and_self, decide_true] at this
  exact this
theorem dtext_c {n d : Nat} (hu : IsN w u n) (hv : IsN w v d) (tn : n < top) (td : d < top) : Calls Tryd.prog 28 #[.agg #[u, v]] w (OneS w (rdec n d)) := by
  obtain ⟨A, c, rfl, hl, hC⟩ := hu.open
  obtain ⟨A', c', rfl, hl', hC'⟩ := hv.open
  refine ev_calls (rrtext_f n d tn td) fun k hk => ?_
  exact samphireref03_Text.calls k A c _ A' c' _ _ w hC hl hC' hl' hk
theorem dratcmp_c {n d n' d' : Nat} (hu : IsN w u n) (hv : IsN w v d) (hu' : IsN w u' n') (hv' : IsN w v' d') (tn : n < top) (td : d < top) (tn' : n' < top) (td' : d' < top) (r c : Int)
    (hrc : (if n * d' < top ∧ n' * d < top then (ord ((n * d' : Nat) : Int) ((n' * d : Nat) : Int), 0) else (0, 6)) = (r, c)) :
    Calls Tryd.prog 27 #[.agg #[u, v], .agg #[u', v']] w (OneIE w r c) := by
  obtain ⟨A, c0, rfl, hl, hC⟩ := hu.open
  obtain ⟨A', c', rfl, hl', hC'⟩ := hv.open
  obtain ⟨A2, c2, rfl, hl2, hC2⟩ := hu'.open
  obtain ⟨A3, c3, rfl, hl3, hC3⟩ := hv'.open
  have h := rrcmp_f n d n' d' tn td tn' td'
  rw [hrc] at h
  refine ev_calls h fun k hk => ?_
  exact samphireref03_Cmp.calls k A c0 _ A' c' _ A2 c2 _ A3 c3 _ _ _ w hC hl hC' hl' hC2 hl2 hC3 hl3 hk
end
end Go.Proofs.YtakickbnjbedfaaDoor.S
