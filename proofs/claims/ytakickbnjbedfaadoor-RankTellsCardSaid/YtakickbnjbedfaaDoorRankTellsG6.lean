/- Part of the proof of Card. -/
import Derived.WalkLawsBesides
import Derived.Test.YtakickbnjbedfaaDoorRankTellsG5
import Derived.Test.YtakickbnjbedfaaDoorRankTellsShelf
namespace Go.Proofs.YtakickbnjbedfaaDoor.PB
open Go.Proofs.YtakickbnjbedfaaDoor.PA Go.Proofs.YtakickbnjbedfaaDoor.Num
open Go.RowKit Go.Proofs.YtakickbnjbedfaaDoorW.PrintWords Go.Proofs.YtakickbnjbedfaaDoorW.PrintLast Go.Proofs.YtakickbnjbedfaaDoorW.PrintMore
set_option linter.unusedVariables false
set_option linter.unusedSimpArgs false
section
variable {w : World}
theorem prod_lt {a b : Nat} (h0 : a < 18446744073709551616) (h1 : b < 18446744073709551616) : (a + 18446744073709551616 * 0) * (b + 18446744073709551616 * 0) < 340282366920938463463374607431768211456 := by
  have h : a * b ≤ 18446744073709551615 * 18446744073709551615 := Nat.mul_le_mul (by omega) (by omega)
  simp only [Nat.mul_zero, Nat.add_zero]
  omega
set_option maxHeartbeats 4000000 in
theorem product10 {a b : Nat} (h0 : a < 18446744073709551616) (h1 : b < 18446744073709551616) :
    Calls Tryd.prog 92 #[.int .u64 a, .int .u64 b] w fun e w' => ∃ u v : Nat, e = .returned (.agg #[.int .u64 u, .int .u64 v]) ∧ v < 18446744073709551616 ∧ u < 18446744073709551616 ∧ v + 18446744073709551616 * u = a * b ∧ Below w.heap.size w w' := by
  have hu := Tryd.underlying68
  have C := fun W => mul01 (w := W) (hi := 0) (lo := a) (hi' := 0) (lo' := b) (by decide) h0 (by decide) h1 (prod_lt h0 h1)
  have HC := Aside0.mk C
  clear C
  go_enter Tryd.func92, Tryd.ntmps92
  go_wp2_with fail
  refine (HC.out _).mono ?_
  rintro e w1 ⟨u, v, rfl, hv, hu1, he, hb⟩
  have HB := Aside0.mk (below_step (below_alloc (Below.refl w.heap.size w) (.cells #[.int .u64 0, .int .u64 0] 68)) hb)
  have hR := blk_below (blk_new w (.cells #[.int .u64 0, .int .u64 0] 68)) hb
  have c0 : w1.cell? ⟨w.heap.size, 0, none⟩ = some (.int .u64 0) := (blk_cell hR 0).trans rfl
  have c1 : w1.cell? ⟨w.heap.size, 1, none⟩ = some (.int .u64 0) := (blk_cell hR 1).trans rfl
  have f0 : w1.frozen? ⟨w.heap.size, 0, none⟩ = false := blk_frozen hR _
  have f1 : w1.frozen? ⟨w.heap.size, 1, none⟩ = false := blk_frozen hR _
  have lt := blk_lt hR
  have HE := Aside0.mk (And.intro hv (And.intro hu1 he))
  clear hv hu1 he hb hR HC
  go_wp2_with fail
  refine bodyPost_ret (v := .agg #[.int .u64 u, .int .u64 v]) (by simp [results, Tryd.results92, go_sem, hu, c0, c1, f0, f1, lt]) rfl ⟨u, v, rfl, HE.out.1, HE.out.2.1, ?_, ?_⟩
  · have := HE.out.2.2; simp only [Nat.mul_zero, Nat.add_zero] at this; exact this
  · exact below_alloc (below_set (below_set HB.out (Nat.le_refl _)) (Nat.le_refl _)) _
theorem less_lt : ∀ (a b : List UInt8), Op.bytesLess a b = true → Lib.compareBytes a b = -1
  | _, [], h => by unfold Op.bytesLess at h; cases h
  | [], _ :: _, _ => rfl
  | a :: x, b :: y, h => by
    unfold Op.bytesLess at h
    unfold Lib.compareBytes
    by_cases hab : a < b
    · rw [if_pos hab]
    · have h2 : a = b ∧ Op.bytesLess x y = true := by simpa [hab] using h
      obtain ⟨rfl, h2⟩ := h2
      rw [if_neg hab, if_neg hab]
      exact less_lt x y h2
theorem cmp_self : ∀ (a : List UInt8), Lib.compareBytes a a = 0
  | [] => rfl
  | a :: x => by
    unfold Lib.compareBytes
    rw [if_neg (UInt8.lt_irrefl a), if_neg (UInt8.lt_irrefl a)]
    exact cmp_self x
theorem less_gt : ∀ (a b : List UInt8), Op.bytesLess a b = false → a ≠ b → Lib.compareBytes a b = 1
  | [], [], _, h2 => absurd rfl h2
  | _ :: _, [], _, _ => rfl
  | [], _ :: _, h, _ => by unfold Op.bytesLess at h; cases h
  | a :: x, b :: y, h, h2 => by
    unfold Op.bytesLess at h
    unfold Lib.compareBytes
    by_cases hab : a < b
    · simp [hab] at h
    · by_cases hba : b < a
      · rw [if_neg hab, if_pos hba]
      · have e : a = b := UInt8.le_antisymm (UInt8.not_lt.1 hba) (UInt8.not_lt.1 hab)
        subst e
        rw [if_neg hab, if_neg hab]
        have h3 : Op.bytesLess x y = false := by simpa [hab] using h
        exact less_gt x y h3 (fun e => h2 (by rw [e]))
def itemC (k : ByteArray) (u v : Nat) (k' : ByteArray) (u' v' : Nat) : Int := if cmpI ((u * v' : Nat) : Int) ((u' * v : Nat) : Int) ≠ 0 then cmpI ((u * v' : Nat) : Int) ((u' * v : Nat) : Int) else Lib.compareBytes k.data.toList k'.data.toList
theorem product_of {W0 W : World} {a b : Nat} (h0 : a < 18446744073709551616) (h1 : b < 18446744073709551616) (hb : Below W0.heap.size W0 W) :
    Calls Tryd.prog 92 #[.int .u64 a, .int .u64 b] W fun e w' => ∃ u v : Nat, e = .returned (.agg #[.int .u64 u, .int .u64 v]) ∧ (v < 18446744073709551616 ∧ u < 18446744073709551616 ∧ v + 18446744073709551616 * u = a * b) ∧ Below W0.heap.size W0 w' := by
  refine (product10 h0 h1).mono ?_
  rintro e w' ⟨u, v, rfl, h2, h3, h4, h5⟩
  exact ⟨u, v, rfl, ⟨h2, h3, h4⟩, below_step hb h5⟩
theorem cmp_of {W0 W : World} {hi lo hi' lo' a b : Nat} (h : lo < 18446744073709551616 ∧ hi < 18446744073709551616 ∧ lo + 18446744073709551616 * hi = a) (h' : lo' < 18446744073709551616 ∧ hi' < 18446744073709551616 ∧ lo' + 18446744073709551616 * hi' = b) (hb : Below W0.heap.size W0 W) :
    Calls Tryd.prog 91 #[.agg #[.int .u64 hi, .int .u64 lo], .agg #[.int .u64 hi', .int .u64 lo']] W fun e w' => e = .returned (.int .i64 (cmpI (a : Int) (b : Int))) ∧ Below W0.heap.size W0 w' := by
  refine (cmp01 h.2.1 h.1 h'.2.1 h'.1).mono ?_
  rintro e w' ⟨rfl, h5⟩
  refine ⟨?_, below_step hb h5⟩
  rw [← h.2.2, ← h'.2.2]
  simp only [Int.natCast_add, Int.natCast_mul]
  rfl
set_option maxHeartbeats 4000000 in
set_option maxRecDepth 100000 in
theorem cmp10 {k k' : ByteArray} {u v u' v' : Nat} (h0 : u < 18446744073709551616) (h1 : v < 18446744073709551616) (h0' : u' < 18446744073709551616) (h1' : v' < 18446744073709551616) :
    Calls Tryd.prog 35 #[.agg #[.string k, .int .u64 u, .int .u64 v], .agg #[.string k', .int .u64 u', .int .u64 v']] w fun e w' => e = .returned (.int .i64 (itemC k u v k' u' v')) ∧ Below w.heap.size w w' := by
  have hu := Tryd.underlying42
  have HH := Aside0.mk (And.intro (And.intro h0 h1) (And.intro h0' h1'))
  clear h0 h1 h0' h1'
  go_enter Tryd.func35, Tryd.ntmps35
  go_wp2_with fail
  obtain ⟨W, hW⟩ : ∃ W, (w.alloc (.cells #[.string k, .int .u64 u, .int .u64 v] 42)).alloc (.cells #[.string k', .int .u64 u', .int .u64 v'] 42) = W := ⟨_, rfl⟩
  have HB0 : Below w.heap.size w W := by rw [← hW]; exact below_alloc (below_alloc (Below.refl w.heap.size w) _) _
  have b1 : Blk W w.heap.size (.cells #[.string k, .int .u64 u, .int .u64 v] 42) := by rw [← hW]; exact blk_alloc (blk_new w _) _
  have b2 : Blk W (w.heap.size + 1) (.cells #[.string k', .int .u64 u', .int .u64 v'] 42) := by rw [← hW]; exact heap_alloc2_new w _ _
  rw [hW]
  clear hW
  replace HB0 := Aside0.mk HB0
  have HF : Aside0 (∀ X, Below W.heap.size W X → (X.cell? ⟨w.heap.size, 0, none⟩ = some (.string k) ∧ X.cell? ⟨w.heap.size, 1, none⟩ = some (.int .u64 u) ∧ X.cell? ⟨w.heap.size, 2, none⟩ = some (.int .u64 v)) ∧ (X.cell? ⟨w.heap.size + 1, 0, none⟩ = some (.string k') ∧ X.cell? ⟨w.heap.size + 1, 1, none⟩ = some (.int .u64 u') ∧ X.cell? ⟨w.heap.size + 1, 2, none⟩ = some (.int .u64 v'))) :=
    Aside0.mk fun X hX => ⟨⟨(blk_cell (blk_below b1 hX) 0).trans rfl, (blk_cell (blk_below b1 hX) 1).trans rfl, (blk_cell (blk_below b1 hX) 2).trans rfl⟩, (blk_cell (blk_below b2 hX) 0).trans rfl, (blk_cell (blk_below b2 hX) 1).trans rfl, (blk_cell (blk_below b2 hX) 2).trans rfl⟩
  clear b1 b2
  have hf1 := HF.out _ (below_drew1 (Below.refl W.heap.size W))
  have hbd := Aside0.mk (below_drew1 (Below.refl W.heap.size W))
  go_cut [5] from 6 to 16 (fun v5 wx => v5 = .int .i64 (cmpI ((u * v' : Nat) : Int) ((u' * v : Nat) : Int)) ∧ Below W.heap.size W wx)
  case first =>
    go_region_held3 (fun W => (W.cell? ⟨w.heap.size, 0, none⟩ = some (.string k) ∧ W.cell? ⟨w.heap.size, 1, none⟩ = some (.int .u64 u) ∧ W.cell? ⟨w.heap.size, 2, none⟩ = some (.int .u64 v)) ∧ (W.cell? ⟨w.heap.size + 1, 0, none⟩ = some (.string k') ∧ W.cell? ⟨w.heap.size + 1, 1, none⟩ = some (.int .u64 u') ∧ W.cell? ⟨w.heap.size + 1, 2, none⟩ = some (.int .u64 v'))) (first | with_reducible exact hf1 | with_reducible exact HF.out _ Hb3.out | with_reducible exact HF.out _ Hb2.out | with_reducible exact HF.out _ Hb1.out) (first
      | (go_at_call 91; refine (cmp_of (W0 := W) H1.out H2.out Hb2.out).mono ?_; rintro e w3 ⟨rfl, hb3⟩; have Hb3 := Aside0.mk hb3; clear hb3)
      | (go_at_call_of 92 v'; refine (product_of (W0 := W) HH.out.1.1 HH.out.2.2 hbd.out).mono ?_; rintro e w1 ⟨p1, q1, rfl, h1, hb1⟩; have H1 := Aside0.mk h1; have Hb1 := Aside0.mk hb1; clear h1 hb1)
      | (go_at_call_of 92 v; refine (product_of (W0 := W) HH.out.2.1 HH.out.1.2 Hb1.out).mono ?_; rintro e w2 ⟨p2, q2, rfl, h2, hb2⟩; have H2 := Aside0.mk h2; have Hb2 := Aside0.mk hb2; clear h2 hb2))
    all_goals (go_wp2_with fail; go_meet)
    all_goals exact ⟨rfl, Hb3.out⟩
  case rest =>
    obtain ⟨rfl, hb⟩ := hcut
    obtain ⟨⟨x1, _, _⟩, ⟨x2, _, _⟩⟩ := HF.out _ hb
    have HB := Aside0.mk (below_step HB0.out hb)
    obtain ⟨c, hc⟩ : ∃ c, cmpI ((u * v' : Nat) : Int) ((u' * v : Nat) : Int) = c := ⟨_, rfl⟩
    rw [hc]
    have HC := Aside0.mk hc
    clear hb hf1 hbd hc
    by_cases hz : c = 0
    · subst hz
      go_wp2_with fail
      all_goals go_ret
      · have hl : Op.bytesLess k.toList k'.toList = true := by assumption
        refine ⟨retI (a := -1) ?_, HB.out⟩
        unfold itemC
        rw [HC.out, if_neg (by decide), ← ByteArray.toList_eq, ← ByteArray.toList_eq, less_lt _ _ hl]
      · have hl : Op.bytesLess k.toList k'.toList = false := by assumption
        have hn : (!k.toList == k'.toList) = true := by assumption
        refine ⟨retI (a := 1) ?_, HB.out⟩
        unfold itemC
        rw [HC.out, if_neg (by decide), ← ByteArray.toList_eq, ← ByteArray.toList_eq, less_gt _ _ hl (by simpa using hn)]
      · have hn : (!k.toList == k'.toList) = false := by assumption
        refine ⟨retI (a := 0) ?_, HB.out⟩
        unfold itemC
        rw [HC.out, if_neg (by decide), ← ByteArray.toList_eq, ← ByteArray.toList_eq, show k.toList = k'.toList by simpa using hn, cmp_self]
    · have hzb : (c != 0) = true := by simpa using hz
      have hzc : (c == 0) = false := by simpa using hz
      clear hz
      go_wp2_with fail
      go_ret
      refine ⟨retI (a := c) ?_, HB.out⟩
      unfold itemC
      rw [HC.out, if_pos (by simpa using hzb)]
def samphireref10_Cmp.f (a0_0 : ByteArray) (a0_1 : Int) (a0_2 : Int) (a1_0 : ByteArray) (a1_1 : Int) (a1_2 : Int) : Option Int :=
  if (0 ≤ a0_1 ∧ a0_1 < 18446744073709551616) ∧ (0 ≤ a0_2 ∧ a0_2 < 18446744073709551616) ∧ (0 ≤ a1_1 ∧ a1_1 < 18446744073709551616) ∧ (0 ≤ a1_2 ∧ a1_2 < 18446744073709551616) then some (itemC a0_0 a0_1.toNat a0_2.toNat a1_0 a1_1.toNat a1_2.toNat) else none
theorem samphireref10_Cmp.calls (a0_0 : ByteArray) (a0_1 : Int) (a0_2 : Int) (a1_0 : ByteArray) (a1_1 : Int) (a1_2 : Int) (r : Int) (w : World) (h : samphireref10_Cmp.f a0_0 a0_1 a0_2 a1_0 a1_1 a1_2 = some r) :
    Calls Tryd.prog 35 #[.agg #[.string a0_0, .int .u64 a0_1, .int .u64 a0_2], .agg #[.string a1_0, .int .u64 a1_1, .int .u64 a1_2]] w fun e w' => e = .returned (.int .i64 r) ∧ Below w.heap.size w w' := by
  unfold samphireref10_Cmp.f at h
  split at h
  case isFalse => cases h
  case isTrue hb =>
    obtain ⟨h1, h2, h3, h4⟩ := hb
    obtain ⟨u, rfl⟩ := Int.eq_ofNat_of_zero_le h1.1
    obtain ⟨v, rfl⟩ := Int.eq_ofNat_of_zero_le h2.1
    obtain ⟨u', rfl⟩ := Int.eq_ofNat_of_zero_le h3.1
    obtain ⟨v', rfl⟩ := Int.eq_ofNat_of_zero_le h4.1
    obtain rfl := Option.some.inj h
    exact cmp10 (by omega) (by omega) (by omega) (by omega)
end
end Go.Proofs.YtakickbnjbedfaaDoor.PB
