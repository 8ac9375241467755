/- Part of the proof of Card. -/
import Derived.Test.YtakickbnjbedfaaDoorRankScaleP2
import Derived.Test.YtakickbnjbedfaaDoorRankScaleH2
import Derived.Test.YtakickbnjbedfaaDoorRankScaleP1
import Derived.Test.YtakickbnjbedfaaDoorRankScaleP0
namespace Go.Proofs.YtakickbnjbedfaaDoor.PB
open Go.Proofs.YtakickbnjbedfaaDoor.PA
open Go.RowKit Go.Proofs.YtakickbnjbedfaaDoorW.PrintWords Go.Proofs.YtakickbnjbedfaaDoorW.PrintLast Go.Proofs.YtakickbnjbedfaaDoorW.PrintMore
attribute [local go_sem] max2_int min2_int max_two min_two
set_option linter.unusedVariables false
set_option linter.unusedSimpArgs false
def samphirelaw10_RankScale.j0 : Nat → Int → Bool → ByteArray → Int → Int → ByteArray → Int → Int → Option (Bool)
 | 0, _, _, _, _, _, _, _, _ => none
 | k + 1, x2, x33, x253000, x253001, x253002, x254000, x254001, x254002 => if x33 = true then ((samphirelaw10_awakeg.f).bind fun t256 => (some t256)) else ((rank_Rank.f k x253000 x253001 x253002).bind fun bt258 => ((rank_Rank.f k x253000 (IntKind.u64.wrap (x253001 * (IntKind.u64.wrap (x2)))) (IntKind.u64.wrap (x253002 * (IntKind.u64.wrap (x2))))).bind fun bt266 => ((rank_Cmp.f k x253000 (IntKind.u64.wrap (x253001 * (IntKind.u64.wrap (x2)))) (IntKind.u64.wrap (x253002 * (IntKind.u64.wrap (x2)))) x254000 x254001 x254002).bind fun t274 => ((rank_Cmp.f k x253000 x253001 x253002 x254000 x254001 x254002).bind fun t275 => (if t274 = t275 then ((rank_Cmp.f k x253000 x253001 x253002 x253000 (IntKind.u64.wrap (x253001 * (IntKind.u64.wrap (x2)))) (IntKind.u64.wrap (x253002 * (IntKind.u64.wrap (x2))))).bind fun t276 => (if t276 = 0 then (if bt258.2.2 = 0 then (if bt266.2.2 = 0 then ((samphireref03_Same.f k bt258.1 bt258.2.1 bt266.1 bt266.2.1).bind fun t277 => (if t277 = true then ((samphirelaw10_awakeg.f).bind fun t278 => (some t278)) else (some false))) else (some false)) else (some false)) else (some false))) else (some false))))))
def samphirelaw10_RankScale.f (k : Nat) (a0_0 : ByteArray) (a0_1 : Int) (a0_2 : Int) (a1_0 : ByteArray) (a1_1 : Int) (a1_2 : Int) (a2 : Int) : Option (Bool) := (rank_Check.f a0_0 a0_1 a0_2).bind fun t254 => (if t254 = 0 then ((rank_Check.f a1_0 a1_1 a1_2).bind fun t255 => (if t255 = 0 then (if a2 = 0 then (samphirelaw10_RankScale.j0 k a2 true a0_0 a0_1 a0_2 a1_0 a1_1 a1_2) else (if a0_1 ≥ 4294967296 then (samphirelaw10_RankScale.j0 k a2 true a0_0 a0_1 a0_2 a1_0 a1_1 a1_2) else (samphirelaw10_RankScale.j0 k a2 (decide (a0_2 ≥ 4294967296)) a0_0 a0_1 a0_2 a1_0 a1_1 a1_2))) else (samphirelaw10_RankScale.j0 k a2 true a0_0 a0_1 a0_2 a1_0 a1_1 a1_2))) else (samphirelaw10_RankScale.j0 k a2 true a0_0 a0_1 a0_2 a1_0 a1_1 a1_2))
def samphirelaw10_RankScale.T6 : Bool × List (List Nat × List Nat) := (true, [([], []), ([], []), ([0, 1], [0, 1]), ([], []), ([], []), ([3, 4, 2], [3, 4]), ([2, 5], [2, 5]), ([6, 5], [6]), ([7], [7]), ([7], [7]), ([8, 9, 7, 7], [7, 8, 9]), ([10, 7], [7, 10]), ([7, 11], [7, 11]), ([12, 10], [12]), ([13], [13]), ([14, 13], [13, 14]), ([13, 15], [13, 15]), ([16, 13], [16]), ([17], [17]), ([18, 17], [17, 18]), ([17, 19], [17, 19]), ([20, 17], [20]), ([21], [21]), ([21], [21]), ([22, 23, 21, 21], [21, 22, 23]), ([21, 24], [21, 24]), ([25, 24], [25]), ([26, 26], [26]), ([26, 27], [26, 27]), ([28, 27, 0, 1, 2, 3, 4, 5, 6, 7, 8, 9, 10, 11, 12, 13, 14, 15, 16, 17, 18, 19, 20, 21, 22, 23, 24, 25, 26, 27, 28], [28])])
def samphirelaw10_RankScale.B6 : List Nat := [0, 0, 3, 0, 0, 31, 63, 127, 255, 255, 1023, 2047, 4095, 8191, 16383, 32767, 65535, 131071, 262143, 524287, 1048575, 2097151, 4194303, 4194303, 16777215, 33554431, 67108863, 134217727, 268435455, 536870911]
theorem samphirelaw10_RankScale.tab6 : rtab .any (opsOf Tryd.f6 6) = samphirelaw10_RankScale.T6 := by kernel_rfl
theorem samphirelaw10_RankScale.bits6 : waitsOk samphirelaw10_RankScale.T6.2 samphirelaw10_RankScale.B6 = true := by kernel_rfl
set_option maxHeartbeats 8000000 in
set_option maxRecDepth 100000 in
theorem samphirelaw10_RankScale.calls (k : Nat) (a0_0 : ByteArray) (a0_1 : Int) (a0_2 : Int) (a1_0 : ByteArray) (a1_1 : Int) (a1_2 : Int) (a2 : Int) (r : Bool) (w : World) (h : samphirelaw10_RankScale.f k a0_0 a0_1 a0_2 a1_0 a1_1 a1_2 a2 = some r) (hr : r = true) :
  Calls Tryd.prog 6 #[.agg #[.string a0_0, .int .u64 a0_1, .int .u64 a0_2], .agg #[.string a1_0, .int .u64 a1_1, .int .u64 a1_2], .int .u32 a2] w fun e w' => e = .returned (.bool r) ∧ Below w.heap.size w w' := by
 have hu42 := Tryd.underlying42
 have hu25 := Tryd.underlying25
 have HB := Aside0.mk (Below.refl w.heap.size w)
 have H : ((rank_Check.f a0_0 a0_1 a0_2).bind fun t254 => (if t254 = 0 then ((rank_Check.f a1_0 a1_1 a1_2).bind fun t255 => (if t255 = 0 then (if a2 = 0 then (samphirelaw10_RankScale.j0 k a2 true a0_0 a0_1 a0_2 a1_0 a1_1 a1_2) else (if a0_1 ≥ 4294967296 then (samphirelaw10_RankScale.j0 k a2 true a0_0 a0_1 a0_2 a1_0 a1_1 a1_2) else (samphirelaw10_RankScale.j0 k a2 (decide (a0_2 ≥ 4294967296)) a0_0 a0_1 a0_2 a1_0 a1_1 a1_2))) else (samphirelaw10_RankScale.j0 k a2 true a0_0 a0_1 a0_2 a1_0 a1_1 a1_2))) else (samphirelaw10_RankScale.j0 k a2 true a0_0 a0_1 a0_2 a1_0 a1_1 a1_2))) = some r := h
 clear h
 have HC4 := Aside0.mk H
 clear H
 go_enter Tryd.func6, Tryd.ntmps6
 go_upto_region 1 with (first | ((with_reducible refine gate_dst (N := 3) rfl ?_); refine box_event ?hg (N := 3) ?hd (cs := #[.string a0_0, .int .u64 a0_1, .int .u64 a0_2]) (t := 42) ?hr ?_; (case hd => rfl); (case hg => rfl); (case hr => first | (go_simp; done) | (go_simp; rfl)); intro gb252 hg w5 hbox hb; have n0_ := Aside0.mk (below_step (by repeat (first | (with_reducible first | exact HB.out | apply below_alloc | apply pw_below_drewN | apply below_drew1) | exact HB.out)) hb); have n1_ := Aside0.mk (hbox); have n2_ := Aside0.mk ((by rw [hg]; exact (below_size (by repeat (first | (with_reducible first | exact HB.out | apply below_alloc | apply pw_below_drewN | apply below_drew1) | exact HB.out))) : w.heap.size ≤ gb252)); have n3_ := Aside0.mk ((by rw [hg]; exact (below_size (by repeat (first | (with_reducible first | exact HB.out | apply below_alloc | apply pw_below_drewN | apply below_drew1) | exact HB.out))) : w.heap.size ≤ gb252)); clear HB; have HB := n0_; have BK252 := n1_; have GW252 := n2_; have GE252 := n3_; clear n0_ n1_ n2_ n3_; clear hb hbox hg) | ((with_reducible refine gate_dst (N := 4) rfl ?_); refine box_event ?hg (N := 4) ?hd (cs := #[.string a1_0, .int .u64 a1_1, .int .u64 a1_2]) (t := 42) ?hr ?_; (case hd => rfl); (case hg => rfl); (case hr => first | (go_simp; done) | (go_simp; rfl)); intro gb253 hg w6 hbox hb; have n0_ := Aside0.mk (blk_below (g := gb252) (o := .cells #[.string a0_0, .int .u64 a0_1, .int .u64 a0_2] 42 (0, 0)) (by (with_reducible repeat (first | refine blk_drewN ?_ _ | refine blk_drew ?_ | refine blk_alloc ?_ _)); exact BK252.out) hb); have n1_ := Aside0.mk (below_step (by repeat (first | (with_reducible first | exact HB.out | apply below_alloc | apply pw_below_drewN | apply below_drew1 | refine below_set ?_ GE252.out) | exact HB.out)) hb); have n2_ := Aside0.mk (hbox); have n3_ := Aside0.mk ((by rw [hg]; exact (below_size (by repeat (first | (with_reducible first | exact HB.out | apply below_alloc | apply pw_below_drewN | apply below_drew1 | refine below_set ?_ GE252.out) | exact HB.out))) : w.heap.size ≤ gb253)); have n4_ := Aside0.mk ((by rw [hg]; exact (below_size (by repeat (first | (with_reducible first | exact HB.out | apply below_alloc | apply pw_below_drewN | apply below_drew1 | refine below_set ?_ GE252.out) | exact HB.out))) : w.heap.size ≤ gb253)); have n5_ := Aside0.mk ((by rw [hg]; exact Nat.ne_of_lt (blk_lt (g := gb252) (o := .cells #[.string a0_0, .int .u64 a0_1, .int .u64 a0_2] 42 (0, 0)) (by (with_reducible repeat (first | refine blk_drewN ?_ _ | refine blk_drew ?_ | refine blk_alloc ?_ _)); exact BK252.out)) : gb252 ≠ gb253)); have n6_ := Aside0.mk ((by rw [hg]; exact Nat.ne_of_gt (blk_lt (g := gb252) (o := .cells #[.string a0_0, .int .u64 a0_1, .int .u64 a0_2] 42 (0, 0)) (by (with_reducible repeat (first | refine blk_drewN ?_ _ | refine blk_drew ?_ | refine blk_alloc ?_ _)); exact BK252.out)) : gb253 ≠ gb252)); clear BK252; clear HB; have BK252 := n0_; have HB := n1_; have BK253 := n2_; have GW253 := n3_; have GE253 := n4_; have NB252_253 := n5_; have NB253_252 := n6_; clear n0_ n1_ n2_ n3_ n4_ n5_ n6_; clear hb hbox hg))
 (try simp only [Act.put, List.setIfInBounds_toArray, List.set_cons_zero, List.set_cons_succ])
 go_cut [33] (fun v33 wc => ∃ (kq : Nat) (x33_3 : Bool), v33 = .bool x33_3 ∧ Aside0 (samphirelaw10_RankScale.j0 kq a2 x33_3 a0_0 a0_1 a0_2 a1_0 a1_1 a1_2 = some r) ∧ Aside0 (kq ≤ k) ∧ Aside0 (wc.heap[gb252]? = some (.cells #[.string a0_0, .int .u64 a0_1, .int .u64 a0_2] 42 (0, 0))) ∧ Aside0 (wc.heap[gb253]? = some (.cells #[.string a1_0, .int .u64 a1_1, .int .u64 a1_2] 42 (0, 0))) ∧ Aside0 (Below w.heap.size w wc))
 case first =>
  have H := HC4.out
  clear HC4
  replace H := Option.bind_eq_some_iff.mp H
  obtain ⟨t254, A70, H⟩ := H
  replace H : (if t254 = 0 then ((rank_Check.f a1_0 a1_1 a1_2).bind fun t255 => (if t255 = 0 then (if a2 = 0 then (samphirelaw10_RankScale.j0 k a2 true a0_0 a0_1 a0_2 a1_0 a1_1 a1_2) else (if a0_1 ≥ 4294967296 then (samphirelaw10_RankScale.j0 k a2 true a0_0 a0_1 a0_2 a1_0 a1_1 a1_2) else (samphirelaw10_RankScale.j0 k a2 (decide (a0_2 ≥ 4294967296)) a0_0 a0_1 a0_2 a1_0 a1_1 a1_2))) else (samphirelaw10_RankScale.j0 k a2 true a0_0 a0_1 a0_2 a1_0 a1_1 a1_2))) else (samphirelaw10_RankScale.j0 k a2 true a0_0 a0_1 a0_2 a1_0 a1_1 a1_2)) = some r := H
  have A7 := Aside0.mk A70
  clear A70
  by_cases c8 : t254 = 0
  ·rw [if_pos c8] at H
   have c8b0 : (t254 == 0) = true := beq_iff_eq.mpr c8
   have c8b1 : (t254 != 0) = false := bne_eq_false_iff_eq.mpr c8
   clear c8
   (first | rw [c8b0] | (simp only [i64_w, i32_w]; rw [c8b0]) | skip)
   replace H := Option.bind_eq_some_iff.mp H
   obtain ⟨t255, A90, H⟩ := H
   replace H : (if t255 = 0 then (if a2 = 0 then (samphirelaw10_RankScale.j0 k a2 true a0_0 a0_1 a0_2 a1_0 a1_1 a1_2) else (if a0_1 ≥ 4294967296 then (samphirelaw10_RankScale.j0 k a2 true a0_0 a0_1 a0_2 a1_0 a1_1 a1_2) else (samphirelaw10_RankScale.j0 k a2 (decide (a0_2 ≥ 4294967296)) a0_0 a0_1 a0_2 a1_0 a1_1 a1_2))) else (samphirelaw10_RankScale.j0 k a2 true a0_0 a0_1 a0_2 a1_0 a1_1 a1_2)) = some r := H
   have A9 := Aside0.mk A90
   clear A90
   by_cases c10 : t255 = 0
   ·rw [if_pos c10] at H
    have c10b0 : (t255 == 0) = true := beq_iff_eq.mpr c10
    have c10b1 : (t255 != 0) = false := bne_eq_false_iff_eq.mpr c10
    clear c10
    by_cases c11 : a2 = 0
    ·rw [if_pos c11] at H
     have c11b0 : (a2 == 0) = true := beq_iff_eq.mpr c11
     have c11b1 : (a2 != 0) = false := bne_eq_false_iff_eq.mpr c11
     clear c11
     have H' := Aside0.mk H
     clear H
     have hnb12 := NB252_253.out
     have hnc12 := NB253_252.out
     have hcz13_0 : w6.cell? ⟨gb252, 0, none⟩ = some (.string a0_0) := (blk_cell BK252.out 0).trans rfl
     have hcz13_1 : w6.cell? ⟨gb252, 1, none⟩ = some (.int .u64 a0_1) := (blk_cell BK252.out 1).trans rfl
     have hcz13_2 : w6.cell? ⟨gb252, 2, none⟩ = some (.int .u64 a0_2) := (blk_cell BK252.out 2).trans rfl
     have hfz13_0 := blk_frozen BK252.out 0
     have hfz13_1 := blk_frozen BK252.out 1
     have hfz13_2 := blk_frozen BK252.out 2
     go_wp2_with (first | ((with_reducible refine gate_callee (f := 36) rfl ?_); refine goesL_ (some 13) rfl rfl Tryd.func36 (by kernel_rfl) rfl #[.agg #[.string a0_0, .int .u64 a0_1, .int .u64 a0_2]] rfl (by (try simp only [List.map_toArray, List.map_cons, List.map_nil]); first | done | rfl | (simp only [List.length_drop, List.length_take]; rfl)) ?_; (with_reducible refine (rank_Check.calls a0_0 a0_1 a0_2 t254 _ A7.out).mono ?_); rintro e w14 ⟨rfl, hb⟩; refine ⟨_, rfl, ?_⟩; have n0_ := Aside0.mk (blk_below (g := gb252) (o := .cells #[.string a0_0, .int .u64 a0_1, .int .u64 a0_2] 42 (0, 0)) (by (with_reducible repeat (first | refine blk_drewN ?_ _ | refine blk_drew ?_ | refine blk_alloc ?_ _)); exact BK252.out) hb); have n1_ := Aside0.mk (blk_below (g := gb253) (o := .cells #[.string a1_0, .int .u64 a1_1, .int .u64 a1_2] 42 (0, 0)) (by (with_reducible repeat (first | refine blk_drewN ?_ _ | refine blk_drew ?_ | refine blk_alloc ?_ _)); exact BK253.out) hb); have n2_ := Aside0.mk (below_step (by repeat (first | (with_reducible first | exact HB.out | apply below_alloc | apply pw_below_drewN | apply below_drew1 | refine below_set ?_ GE252.out | refine below_set ?_ GE253.out) | exact HB.out)) hb); clear BK252; clear BK253; clear HB; have BK252 := n0_; have BK253 := n1_; have HB := n2_; clear n0_ n1_ n2_; (try clear hb); (try clear hb2); (try clear hk); (try clear hi); have hcz15_0 : w14.cell? ⟨gb253, 0, none⟩ = some (.string a1_0) := (blk_cell BK253.out 0).trans rfl; have hcz15_1 : w14.cell? ⟨gb253, 1, none⟩ = some (.int .u64 a1_1) := (blk_cell BK253.out 1).trans rfl; have hcz15_2 : w14.cell? ⟨gb253, 2, none⟩ = some (.int .u64 a1_2) := (blk_cell BK253.out 2).trans rfl; have hfz15_0 := blk_frozen BK253.out 0; have hfz15_1 := blk_frozen BK253.out 1; have hfz15_2 := blk_frozen BK253.out 2) | (go_at_call 36; (with_reducible refine (rank_Check.calls a1_0 a1_1 a1_2 t255 _ A9.out).mono ?_); rintro e w16 ⟨rfl, hb⟩; have n0_ := Aside0.mk (blk_below (g := gb252) (o := .cells #[.string a0_0, .int .u64 a0_1, .int .u64 a0_2] 42 (0, 0)) (by (with_reducible repeat (first | refine blk_drewN ?_ _ | refine blk_drew ?_ | refine blk_alloc ?_ _)); exact BK252.out) hb); have n1_ := Aside0.mk (blk_below (g := gb253) (o := .cells #[.string a1_0, .int .u64 a1_1, .int .u64 a1_2] 42 (0, 0)) (by (with_reducible repeat (first | refine blk_drewN ?_ _ | refine blk_drew ?_ | refine blk_alloc ?_ _)); exact BK253.out) hb); have n2_ := Aside0.mk (below_step (by repeat (first | (with_reducible first | exact HB.out | apply below_alloc | apply pw_below_drewN | apply below_drew1 | refine below_set ?_ GE252.out | refine below_set ?_ GE253.out) | exact HB.out)) hb); clear BK252; clear BK253; clear HB; have BK252 := n0_; have BK253 := n1_; have HB := n2_; clear n0_ n1_ n2_; (try clear hb); (try clear hb2); (try clear hk); (try clear hi)))
     go_meet
     case rel => exact ⟨_, (true), (by first | rfl | (simp; done) | (simp [*]; done)), H', ⟨by first | omega | exact Nat.le_refl _⟩, ⟨by (with_reducible repeat (first | refine blk_drewN ?_ _ | refine blk_drew ?_ | refine blk_alloc ?_ _)); exact BK252.out⟩, ⟨by (with_reducible repeat (first | refine blk_drewN ?_ _ | refine blk_drew ?_ | refine blk_alloc ?_ _)); exact BK253.out⟩, ⟨by repeat (first | (with_reducible first | exact HB.out | apply below_alloc | apply pw_below_drewN | apply below_drew1 | refine below_set ?_ GE252.out | refine below_set ?_ GE253.out) | exact HB.out)⟩⟩
    ·rw [if_neg c11] at H
     have c11b0 : (a2 == 0) = false := beq_eq_false_iff_ne.mpr c11
     have c11b1 : (a2 != 0) = true := bne_iff_ne.mpr c11
     by_cases c17 : a0_1 ≥ 4294967296
     ·rw [if_pos c17] at H
      have c17b0 : decide (4294967296 ≤ a0_1) = true := decide_eq_true c17
      clear c17
      have H' := Aside0.mk H
      clear H
      have hnb18 := NB252_253.out
      have hnc18 := NB253_252.out
      have hcz19_0 : w6.cell? ⟨gb252, 0, none⟩ = some (.string a0_0) := (blk_cell BK252.out 0).trans rfl
      have hcz19_1 : w6.cell? ⟨gb252, 1, none⟩ = some (.int .u64 a0_1) := (blk_cell BK252.out 1).trans rfl
      have hcz19_2 : w6.cell? ⟨gb252, 2, none⟩ = some (.int .u64 a0_2) := (blk_cell BK252.out 2).trans rfl
      have hfz19_0 := blk_frozen BK252.out 0
      have hfz19_1 := blk_frozen BK252.out 1
      have hfz19_2 := blk_frozen BK252.out 2
      go_wp2_with (first | ((with_reducible refine gate_callee (f := 36) rfl ?_); refine goesL_ (some 13) rfl rfl Tryd.func36 (by kernel_rfl) rfl #[.agg #[.string a0_0, .int .u64 a0_1, .int .u64 a0_2]] rfl (by (try simp only [List.map_toArray, List.map_cons, List.map_nil]); first | done | rfl | (simp only [List.length_drop, List.length_take]; rfl)) ?_; (with_reducible refine (rank_Check.calls a0_0 a0_1 a0_2 t254 _ A7.out).mono ?_); rintro e w20 ⟨rfl, hb⟩; refine ⟨_, rfl, ?_⟩; have n0_ := Aside0.mk (blk_below (g := gb252) (o := .cells #[.string a0_0, .int .u64 a0_1, .int .u64 a0_2] 42 (0, 0)) (by (with_reducible repeat (first | refine blk_drewN ?_ _ | refine blk_drew ?_ | refine blk_alloc ?_ _)); exact BK252.out) hb); have n1_ := Aside0.mk (blk_below (g := gb253) (o := .cells #[.string a1_0, .int .u64 a1_1, .int .u64 a1_2] 42 (0, 0)) (by (with_reducible repeat (first | refine blk_drewN ?_ _ | refine blk_drew ?_ | refine blk_alloc ?_ _)); exact BK253.out) hb); have n2_ := Aside0.mk (below_step (by repeat (first | (with_reducible first | exact HB.out | apply below_alloc | apply pw_below_drewN | apply below_drew1 | refine below_set ?_ GE252.out | refine below_set ?_ GE253.out) | exact HB.out)) hb); clear BK252; clear BK253; clear HB; have BK252 := n0_; have BK253 := n1_; have HB := n2_; clear n0_ n1_ n2_; (try clear hb); (try clear hb2); (try clear hk); (try clear hi); have hcz21_0 : w20.cell? ⟨gb253, 0, none⟩ = some (.string a1_0) := (blk_cell BK253.out 0).trans rfl; have hcz21_1 : w20.cell? ⟨gb253, 1, none⟩ = some (.int .u64 a1_1) := (blk_cell BK253.out 1).trans rfl; have hcz21_2 : w20.cell? ⟨gb253, 2, none⟩ = some (.int .u64 a1_2) := (blk_cell BK253.out 2).trans rfl; have hfz21_0 := blk_frozen BK253.out 0; have hfz21_1 := blk_frozen BK253.out 1; have hfz21_2 := blk_frozen BK253.out 2) | (go_at_call 36; (with_reducible refine (rank_Check.calls a1_0 a1_1 a1_2 t255 _ A9.out).mono ?_); rintro e w22 ⟨rfl, hb⟩; have n0_ := Aside0.mk (blk_below (g := gb252) (o := .cells #[.string a0_0, .int .u64 a0_1, .int .u64 a0_2] 42 (0, 0)) (by (with_reducible repeat (first | refine blk_drewN ?_ _ | refine blk_drew ?_ | refine blk_alloc ?_ _)); exact BK252.out) hb); have n1_ := Aside0.mk (blk_below (g := gb253) (o := .cells #[.string a1_0, .int .u64 a1_1, .int .u64 a1_2] 42 (0, 0)) (by (with_reducible repeat (first | refine blk_drewN ?_ _ | refine blk_drew ?_ | refine blk_alloc ?_ _)); exact BK253.out) hb); have n2_ := Aside0.mk (below_step (by repeat (first | (with_reducible first | exact HB.out | apply below_alloc | apply pw_below_drewN | apply below_drew1 | refine below_set ?_ GE252.out | refine below_set ?_ GE253.out) | exact HB.out)) hb); clear BK252; clear BK253; clear HB; have BK252 := n0_; have BK253 := n1_; have HB := n2_; clear n0_ n1_ n2_; (try clear hb); (try clear hb2); (try clear hk); (try clear hi); have hcz23_0 : w22.cell? ⟨gb252, 0, none⟩ = some (.string a0_0) := (blk_cell BK252.out 0).trans rfl; have hcz23_1 : w22.cell? ⟨gb252, 1, none⟩ = some (.int .u64 a0_1) := (blk_cell BK252.out 1).trans rfl; have hcz23_2 : w22.cell? ⟨gb252, 2, none⟩ = some (.int .u64 a0_2) := (blk_cell BK252.out 2).trans rfl; have hfz23_0 := blk_frozen BK252.out 0; have hfz23_1 := blk_frozen BK252.out 1; have hfz23_2 := blk_frozen BK252.out 2))
      go_meet
      case rel => exact ⟨_, (true), (by first | rfl | (simp; done) | (simp [*]; done)), H', ⟨by first | omega | exact Nat.le_refl _⟩, ⟨by (with_reducible repeat (first | refine blk_drewN ?_ _ | refine blk_drew ?_ | refine blk_alloc ?_ _)); exact BK252.out⟩, ⟨by (with_reducible repeat (first | refine blk_drewN ?_ _ | refine blk_drew ?_ | refine blk_alloc ?_ _)); exact BK253.out⟩, ⟨by repeat (first | (with_reducible first | exact HB.out | apply below_alloc | apply pw_below_drewN | apply below_drew1 | refine below_set ?_ GE252.out | refine below_set ?_ GE253.out) | exact HB.out)⟩⟩
     ·rw [if_neg c17] at H
      have c17b0 : decide (4294967296 ≤ a0_1) = false := decide_eq_false c17
      clear c17
      have H' := Aside0.mk H
      clear H
      have hnb24 := NB252_253.out
      have hnc24 := NB253_252.out
      have hcz25_0 : w6.cell? ⟨gb252, 0, none⟩ = some (.string a0_0) := (blk_cell BK252.out 0).trans rfl
      have hcz25_1 : w6.cell? ⟨gb252, 1, none⟩ = some (.int .u64 a0_1) := (blk_cell BK252.out 1).trans rfl
      have hcz25_2 : w6.cell? ⟨gb252, 2, none⟩ = some (.int .u64 a0_2) := (blk_cell BK252.out 2).trans rfl
      have hfz25_0 := blk_frozen BK252.out 0
      have hfz25_1 := blk_frozen BK252.out 1
      have hfz25_2 := blk_frozen BK252.out 2
      go_wp2_with (first | ((with_reducible refine gate_callee (f := 36) rfl ?_); refine goesL_ (some 13) rfl rfl Tryd.func36 (by kernel_rfl) rfl #[.agg #[.string a0_0, .int .u64 a0_1, .int .u64 a0_2]] rfl (by (try simp only [List.map_toArray, List.map_cons, List.map_nil]); first | done | rfl | (simp only [List.length_drop, List.length_take]; rfl)) ?_; (with_reducible refine (rank_Check.calls a0_0 a0_1 a0_2 t254 _ A7.out).mono ?_); rintro e w26 ⟨rfl, hb⟩; refine ⟨_, rfl, ?_⟩; have n0_ := Aside0.mk (blk_below (g := gb252) (o := .cells #[.string a0_0, .int .u64 a0_1, .int .u64 a0_2] 42 (0, 0)) (by (with_reducible repeat (first | refine blk_drewN ?_ _ | refine blk_drew ?_ | refine blk_alloc ?_ _)); exact BK252.out) hb); have n1_ := Aside0.mk (blk_below (g := gb253) (o := .cells #[.string a1_0, .int .u64 a1_1, .int .u64 a1_2] 42 (0, 0)) (by (with_reducible repeat (first | refine blk_drewN ?_ _ | refine blk_drew ?_ | refine blk_alloc ?_ _)); exact BK253.out) hb); have n2_ := Aside0.mk (below_step (by repeat (first | (with_reducible first | exact HB.out | apply below_alloc | apply pw_below_drewN | apply below_drew1 | refine below_set ?_ GE252.out | refine below_set ?_ GE253.out) | exact HB.out)) hb); clear BK252; clear BK253; clear HB; have BK252 := n0_; have BK253 := n1_; have HB := n2_; clear n0_ n1_ n2_; (try clear hb); (try clear hb2); (try clear hk); (try clear hi); have hcz27_0 : w26.cell? ⟨gb253, 0, none⟩ = some (.string a1_0) := (blk_cell BK253.out 0).trans rfl; have hcz27_1 : w26.cell? ⟨gb253, 1, none⟩ = some (.int .u64 a1_1) := (blk_cell BK253.out 1).trans rfl; have hcz27_2 : w26.cell? ⟨gb253, 2, none⟩ = some (.int .u64 a1_2) := (blk_cell BK253.out 2).trans rfl; have hfz27_0 := blk_frozen BK253.out 0; have hfz27_1 := blk_frozen BK253.out 1; have hfz27_2 := blk_frozen BK253.out 2) | (go_at_call 36; (with_reducible refine (rank_Check.calls a1_0 a1_1 a1_2 t255 _ A9.out).mono ?_); rintro e w28 ⟨rfl, hb⟩; have n0_ := Aside0.mk (blk_below (g := gb252) (o := .cells #[.string a0_0, .int .u64 a0_1, .int .u64 a0_2] 42 (0, 0)) (by (with_reducible repeat (first | refine blk_drewN ?_ _ | refine blk_drew ?_ | refine blk_alloc ?_ _)); exact BK252.out) hb); have n1_ := Aside0.mk (blk_below (g := gb253) (o := .cells #[.string a1_0, .int .u64 a1_1, .int .u64 a1_2] 42 (0, 0)) (by (with_reducible repeat (first | refine blk_drewN ?_ _ | refine blk_drew ?_ | refine blk_alloc ?_ _)); exact BK253.out) hb); have n2_ := Aside0.mk (below_step (by repeat (first | (with_reducible first | exact HB.out | apply below_alloc | apply pw_below_drewN | apply below_drew1 | refine below_set ?_ GE252.out | refine below_set ?_ GE253.out) | exact HB.out)) hb); clear BK252; clear BK253; clear HB; have BK252 := n0_; have BK253 := n1_; have HB := n2_; clear n0_ n1_ n2_; (try clear hb); (try clear hb2); (try clear hk); (try clear hi); have hcz29_0 : w28.cell? ⟨gb252, 0, none⟩ = some (.string a0_0) := (blk_cell BK252.out 0).trans rfl; have hcz29_1 : w28.cell? ⟨gb252, 1, none⟩ = some (.int .u64 a0_1) := (blk_cell BK252.out 1).trans rfl; have hcz29_2 : w28.cell? ⟨gb252, 2, none⟩ = some (.int .u64 a0_2) := (blk_cell BK252.out 2).trans rfl; have hfz29_0 := blk_frozen BK252.out 0; have hfz29_1 := blk_frozen BK252.out 1; have hfz29_2 := blk_frozen BK252.out 2))
      go_meet
      case rel => exact ⟨_, (decide (a0_2 ≥ 4294967296)), (by first | rfl | (simp; done) | (simp [*]; done)), H', ⟨by first | omega | exact Nat.le_refl _⟩, ⟨by (with_reducible repeat (first | refine blk_drewN ?_ _ | refine blk_drew ?_ | refine blk_alloc ?_ _)); exact BK252.out⟩, ⟨by (with_reducible repeat (first | refine blk_drewN ?_ _ | refine blk_drew ?_ | refine blk_alloc ?_ _)); exact BK253.out⟩, ⟨by repeat (first | (with_reducible first | exact HB.out | apply below_alloc | apply pw_below_drewN | apply below_drew1 | refine below_set ?_ GE252.out | refine below_set ?_ GE253.out) | exact HB.out)⟩⟩
   ·rw [if_neg c10] at H
    have c10b0 : (t255 == 0) = false := beq_eq_false_iff_ne.mpr c10
    have c10b1 : (t255 != 0) = true := bne_iff_ne.mpr c10
    have H' := Aside0.mk H
    clear H
    have hnb30 := NB252_253.out
    have hnc30 := NB253_252.out
    have hcz31_0 : w6.cell? ⟨gb252, 0, none⟩ = some (.string a0_0) := (blk_cell BK252.out 0).trans rfl
    have hcz31_1 : w6.cell? ⟨gb252, 1, none⟩ = some (.int .u64 a0_1) := (blk_cell BK252.out 1).trans rfl
    have hcz31_2 : w6.cell? ⟨gb252, 2, none⟩ = some (.int .u64 a0_2) := (blk_cell BK252.out 2).trans rfl
    have hfz31_0 := blk_frozen BK252.out 0
    have hfz31_1 := blk_frozen BK252.out 1
    have hfz31_2 := blk_frozen BK252.out 2
    go_wp2_with (first | ((with_reducible refine gate_callee (f := 36) rfl ?_); refine goesL_ (some 13) rfl rfl Tryd.func36 (by kernel_rfl) rfl #[.agg #[.string a0_0, .int .u64 a0_1, .int .u64 a0_2]] rfl (by (try simp only [List.map_toArray, List.map_cons, List.map_nil]); first | done | rfl | (simp only [List.length_drop, List.length_take]; rfl)) ?_; (with_reducible refine (rank_Check.calls a0_0 a0_1 a0_2 t254 _ A7.out).mono ?_); rintro e w32 ⟨rfl, hb⟩; refine ⟨_, rfl, ?_⟩; have n0_ := Aside0.mk (blk_below (g := gb252) (o := .cells #[.string a0_0, .int .u64 a0_1, .int .u64 a0_2] 42 (0, 0)) (by (with_reducible repeat (first | refine blk_drewN ?_ _ | refine blk_drew ?_ | refine blk_alloc ?_ _)); exact BK252.out) hb); have n1_ := Aside0.mk (blk_below (g := gb253) (o := .cells #[.string a1_0, .int .u64 a1_1, .int .u64 a1_2] 42 (0, 0)) (by (with_reducible repeat (first | refine blk_drewN ?_ _ | refine blk_drew ?_ | refine blk_alloc ?_ _)); exact BK253.out) hb); have n2_ := Aside0.mk (below_step (by repeat (first | (with_reducible first | exact HB.out | apply below_alloc | apply pw_below_drewN | apply below_drew1 | refine below_set ?_ GE252.out | refine below_set ?_ GE253.out) | exact HB.out)) hb); clear BK252; clear BK253; clear HB; have BK252 := n0_; have BK253 := n1_; have HB := n2_; clear n0_ n1_ n2_; (try clear hb); (try clear hb2); (try clear hk); (try clear hi); have hcz33_0 : w32.cell? ⟨gb253, 0, none⟩ = some (.string a1_0) := (blk_cell BK253.out 0).trans rfl; have hcz33_1 : w32.cell? ⟨gb253, 1, none⟩ = some (.int .u64 a1_1) := (blk_cell BK253.out 1).trans rfl; have hcz33_2 : w32.cell? ⟨gb253, 2, none⟩ = some (.int .u64 a1_2) := (blk_cell BK253.out 2).trans rfl; have hfz33_0 := blk_frozen BK253.out 0; have hfz33_1 := blk_frozen BK253.out 1; have hfz33_2 := blk_frozen BK253.out 2) | (go_at_call 36; (with_reducible refine (rank_Check.calls a1_0 a1_1 a1_2 t255 _ A9.out).mono ?_); rintro e w34 ⟨rfl, hb⟩; have n0_ := Aside0.mk (blk_below (g := gb252) (o := .cells #[.string a0_0, .int .u64 a0_1, .int .u64 a0_2] 42 (0, 0)) (by (with_reducible repeat (first | refine blk_drewN ?_ _ | refine blk_drew ?_ | refine blk_alloc ?_ _)); exact BK252.out) hb); have n1_ := Aside0.mk (blk_below (g := gb253) (o := .cells #[.string a1_0, .int .u64 a1_1, .int .u64 a1_2] 42 (0, 0)) (by (with_reducible repeat (first | refine blk_drewN ?_ _ | refine blk_drew ?_ | refine blk_alloc ?_ _)); exact BK253.out) hb); have n2_ := Aside0.mk (below_step (by repeat (first | (with_reducible first | exact HB.out | apply below_alloc | apply pw_below_drewN | apply below_drew1 | refine below_set ?_ GE252.out | refine below_set ?_ GE253.out) | exact HB.out)) hb); clear BK252; clear BK253; clear HB; have BK252 := n0_; have BK253 := n1_; have HB := n2_; clear n0_ n1_ n2_; (try clear hb); (try clear hb2); (try clear hk); (try clear hi)))
    go_meet
    case rel => exact ⟨_, (true), (by first | rfl | (simp; done) | (simp [*]; done)), H', ⟨by first | omega | exact Nat.le_refl _⟩, ⟨by (with_reducible repeat (first | refine blk_drewN ?_ _ | refine blk_drew ?_ | refine blk_alloc ?_ _)); exact BK252.out⟩, ⟨by (with_reducible repeat (first | refine blk_drewN ?_ _ | refine blk_drew ?_ | refine blk_alloc ?_ _)); exact BK253.out⟩, ⟨by repeat (first | (with_reducible first | exact HB.out | apply below_alloc | apply pw_below_drewN | apply below_drew1 | refine below_set ?_ GE252.out | refine below_set ?_ GE253.out) | exact HB.out)⟩⟩
  ·rw [if_neg c8] at H
   have c8b0 : (t254 == 0) = false := beq_eq_false_iff_ne.mpr c8
   have c8b1 : (t254 != 0) = true := bne_iff_ne.mpr c8
   (first | rw [c8b0] | (simp only [i64_w, i32_w]; rw [c8b0]) | skip)
   have H' := Aside0.mk H
   clear H
   have hnb35 := NB252_253.out
   have hnc35 := NB253_252.out
   have hcz36_0 : w6.cell? ⟨gb252, 0, none⟩ = some (.string a0_0) := (blk_cell BK252.out 0).trans rfl
   have hcz36_1 : w6.cell? ⟨gb252, 1, none⟩ = some (.int .u64 a0_1) := (blk_cell BK252.out 1).trans rfl
   have hcz36_2 : w6.cell? ⟨gb252, 2, none⟩ = some (.int .u64 a0_2) := (blk_cell BK252.out 2).trans rfl
   have hfz36_0 := blk_frozen BK252.out 0
   have hfz36_1 := blk_frozen BK252.out 1
   have hfz36_2 := blk_frozen BK252.out 2
   go_wp2_with (first | ((with_reducible refine gate_callee (f := 36) rfl ?_); refine goesL_ (some 13) rfl rfl Tryd.func36 (by kernel_rfl) rfl #[.agg #[.string a0_0, .int .u64 a0_1, .int .u64 a0_2]] rfl (by (try simp only [List.map_toArray, List.map_cons, List.map_nil]); first | done | rfl | (simp only [List.length_drop, List.length_take]; rfl)) ?_; (with_reducible refine (rank_Check.calls a0_0 a0_1 a0_2 t254 _ A7.out).mono ?_); rintro e w37 ⟨rfl, hb⟩; refine ⟨_, rfl, ?_⟩; have n0_ := Aside0.mk (blk_below (g := gb252) (o := .cells #[.string a0_0, .int .u64 a0_1, .int .u64 a0_2] 42 (0, 0)) (by (with_reducible repeat (first | refine blk_drewN ?_ _ | refine blk_drew ?_ | refine blk_alloc ?_ _)); exact BK252.out) hb); have n1_ := Aside0.mk (blk_below (g := gb253) (o := .cells #[.string a1_0, .int .u64 a1_1, .int .u64 a1_2] 42 (0, 0)) (by (with_reducible repeat (first | refine blk_drewN ?_ _ | refine blk_drew ?_ | refine blk_alloc ?_ _)); exact BK253.out) hb); have n2_ := Aside0.mk (below_step (by repeat (first | (with_reducible first | exact HB.out | apply below_alloc | apply pw_below_drewN | apply below_drew1 | refine below_set ?_ GE252.out | refine below_set ?_ GE253.out) | exact HB.out)) hb); clear BK252; clear BK253; clear HB; have BK252 := n0_; have BK253 := n1_; have HB := n2_; clear n0_ n1_ n2_; (try clear hb); (try clear hb2); (try clear hk); (try clear hi)))
   go_meet
   case rel => exact ⟨_, (true), (by first | rfl | (simp; done) | (simp [*]; done)), H', ⟨by first | omega | exact Nat.le_refl _⟩, ⟨by (with_reducible repeat (first | refine blk_drewN ?_ _ | refine blk_drew ?_ | refine blk_alloc ?_ _)); exact BK252.out⟩, ⟨by (with_reducible repeat (first | refine blk_drewN ?_ _ | refine blk_drew ?_ | refine blk_alloc ?_ _)); exact BK253.out⟩, ⟨by repeat (first | (with_reducible first | exact HB.out | apply below_alloc | apply pw_below_drewN | apply below_drew1 | refine below_set ?_ GE252.out | refine below_set ?_ GE253.out) | exact HB.out)⟩⟩
 case rest =>
  clear HC4
  try clear c1
  try clear c2
  try clear p2
  try clear c3
  try clear c6
  try clear c8
  try clear c8b0
  try clear c8b1
  try clear c10
  try clear c10b0
  try clear c10b1
  try clear c11
  try clear c11b0
  try clear c11b1
  try clear c12
  try clear c17
  try clear c17b0
  try clear c18
  try clear c24
  try clear c30
  try clear c35
  try clear c36
  try clear hcz13_0
  try clear hcz13_1
  try clear hcz13_2
  try clear hcz15_0
  try clear hcz15_1
  try clear hcz15_2
  try clear hcz19_0
  try clear hcz19_1
  try clear hcz19_2
  try clear hcz21_0
  try clear hcz21_1
  try clear hcz21_2
  try clear hcz23_0
  try clear hcz23_1
  try clear hcz23_2
  try clear hcz25_0
  try clear hcz25_1
  try clear hcz25_2
  try clear hcz27_0
  try clear hcz27_1
  try clear hcz27_2
  try clear hcz29_0
  try clear hcz29_1
  try clear hcz29_2
  try clear hcz31_0
  try clear hcz31_1
  try clear hcz31_2
  try clear hcz33_0
  try clear hcz33_1
  try clear hcz33_2
  try clear hcz36_0
  try clear hcz36_1
  try clear hcz36_2
  try clear hfz13_0
  try clear hfz13_1
  try clear hfz13_2
  try clear hfz15_0
  try clear hfz15_1
  try clear hfz15_2
  try clear hfz19_0
  try clear hfz19_1
  try clear hfz19_2
  try clear hfz21_0
  try clear hfz21_1
  try clear hfz21_2
  try clear hfz23_0
  try clear hfz23_1
  try clear hfz23_2
  try clear hfz25_0
  try clear hfz25_1
  try clear hfz25_2
  try clear hfz27_0
  try clear hfz27_1
  try clear hfz27_2
  try clear hfz29_0
  try clear hfz29_1
  try clear hfz29_2
  try clear hfz31_0
  try clear hfz31_1
  try clear hfz31_2
  try clear hfz33_0
  try clear hfz33_1
  try clear hfz33_2
  try clear hfz36_0
  try clear hfz36_1
  try clear hfz36_2
  obtain ⟨kq, x33_3, rfl, HA, HJ3, BK252, BK253, HB⟩ := hcut
  cases kq with
  | zero => exact absurd HA.out (by simp [samphirelaw10_RankScale.j0])
  | succ kj3 =>
   have H := HA.out
   clear HA
   simp only [samphirelaw10_RankScale.j0] at H
   by_cases c38 : x33_3 = true
   ·subst c38
    have H1 : ((samphirelaw10_awakeg.f).bind fun t256 => (some t256)) = some r := by rw [if_pos rfl] at H; exact H
    clear H
    have H := H1
    clear H1
    replace H := Option.bind_eq_some_iff.mp H
    obtain ⟨t256, A390, H⟩ := H
    replace H : (some t256) = some r := H
    have A39 := Aside0.mk A390
    clear A390
    obtain rfl := Option.some.inj H
    go_wp2_with (first | ((with_reducible refine gate_callee (f := 30) rfl ?_); refine goesL_ (some 34) rfl rfl Tryd.func30 (by kernel_rfl) rfl #[] rfl (by (try simp only [List.map_toArray, List.map_cons, List.map_nil]); first | done | rfl | (simp only [List.length_drop, List.length_take]; rfl)) ?_; (with_reducible refine (samphirelaw10_awakeg.calls  t256 _ A39.out).mono ?_); rintro e w40 ⟨rfl, hb⟩; refine ⟨_, rfl, ?_⟩; have n0_ := Aside0.mk (blk_below (g := gb252) (o := .cells #[.string a0_0, .int .u64 a0_1, .int .u64 a0_2] 42 (0, 0)) (by (with_reducible repeat (first | refine blk_drewN ?_ _ | refine blk_drew ?_ | refine blk_alloc ?_ _)); exact BK252.out) hb); have n1_ := Aside0.mk (blk_below (g := gb253) (o := .cells #[.string a1_0, .int .u64 a1_1, .int .u64 a1_2] 42 (0, 0)) (by (with_reducible repeat (first | refine blk_drewN ?_ _ | refine blk_drew ?_ | refine blk_alloc ?_ _)); exact BK253.out) hb); have n2_ := Aside0.mk (below_step (by repeat (first | (with_reducible first | exact HB.out | apply below_alloc | apply pw_below_drewN | apply below_drew1 | refine below_set ?_ GE252.out | refine below_set ?_ GE253.out) | exact HB.out)) hb); clear BK252; clear BK253; clear HB; have BK252 := n0_; have BK253 := n1_; have HB := n2_; clear n0_ n1_ n2_; (try clear hb); (try clear hb2); (try clear hk); (try clear hi)))
    go_ret
    exact ⟨by first | rfl | (simp [errW_none, errW_some] <;> rfl) | (simp [*, errW_none, errW_some] <;> rfl), by repeat (first | (with_reducible first | exact HB.out | apply below_alloc | apply pw_below_drewN | apply below_drew1 | refine below_set ?_ GE252.out | refine below_set ?_ GE253.out) | exact HB.out)⟩
   ·replace c38 := Bool.eq_false_iff.mpr c38
    subst c38
    have H1 : ((rank_Rank.f kj3 a0_0 a0_1 a0_2).bind fun bt258 => ((rank_Rank.f kj3 a0_0 (IntKind.u64.wrap (a0_1 * (IntKind.u64.wrap (a2)))) (IntKind.u64.wrap (a0_2 * (IntKind.u64.wrap (a2))))).bind fun bt266 => ((rank_Cmp.f kj3 a0_0 (IntKind.u64.wrap (a0_1 * (IntKind.u64.wrap (a2)))) (IntKind.u64.wrap (a0_2 * (IntKind.u64.wrap (a2)))) a1_0 a1_1 a1_2).bind fun t274 => ((rank_Cmp.f kj3 a0_0 a0_1 a0_2 a1_0 a1_1 a1_2).bind fun t275 => (if t274 = t275 then ((rank_Cmp.f kj3 a0_0 a0_1 a0_2 a0_0 (IntKind.u64.wrap (a0_1 * (IntKind.u64.wrap (a2)))) (IntKind.u64.wrap (a0_2 * (IntKind.u64.wrap (a2))))).bind fun t276 => (if t276 = 0 then (if bt258.2.2 = 0 then (if bt266.2.2 = 0 then ((samphireref03_Same.f kj3 bt258.1 bt258.2.1 bt266.1 bt266.2.1).bind fun t277 => (if t277 = true then ((samphirelaw10_awakeg.f).bind fun t278 => (some t278)) else (some false))) else (some false)) else (some false)) else (some false))) else (some false)))))) = some r := by rw [if_neg (show ¬ (false = true) by decide)] at H; exact H
    clear H
    have H := H1
    clear H1
    replace H := Option.bind_eq_some_iff.mp H
    obtain ⟨⟨t258, t261, t264⟩, A410, H⟩ := H
    replace H : ((rank_Rank.f kj3 a0_0 (IntKind.u64.wrap (a0_1 * (IntKind.u64.wrap (a2)))) (IntKind.u64.wrap (a0_2 * (IntKind.u64.wrap (a2))))).bind fun bt266 => ((rank_Cmp.f kj3 a0_0 (IntKind.u64.wrap (a0_1 * (IntKind.u64.wrap (a2)))) (IntKind.u64.wrap (a0_2 * (IntKind.u64.wrap (a2)))) a1_0 a1_1 a1_2).bind fun t274 => ((rank_Cmp.f kj3 a0_0 a0_1 a0_2 a1_0 a1_1 a1_2).bind fun t275 => (if t274 = t275 then ((rank_Cmp.f kj3 a0_0 a0_1 a0_2 a0_0 (IntKind.u64.wrap (a0_1 * (IntKind.u64.wrap (a2)))) (IntKind.u64.wrap (a0_2 * (IntKind.u64.wrap (a2))))).bind fun t276 => (if t276 = 0 then (if t264 = 0 then (if bt266.2.2 = 0 then ((samphireref03_Same.f kj3 t258 t261 bt266.1 bt266.2.1).bind fun t277 => (if t277 = true then ((samphirelaw10_awakeg.f).bind fun t278 => (some t278)) else (some false))) else (some false)) else (some false)) else (some false))) else (some false))))) = some r := H
    have A41 := Aside0.mk A410
    clear A410
    replace H := Option.bind_eq_some_iff.mp H
    obtain ⟨⟨t266, t269, t272⟩, A420, H⟩ := H
    replace H : ((rank_Cmp.f kj3 a0_0 (IntKind.u64.wrap (a0_1 * (IntKind.u64.wrap (a2)))) (IntKind.u64.wrap (a0_2 * (IntKind.u64.wrap (a2)))) a1_0 a1_1 a1_2).bind fun t274 => ((rank_Cmp.f kj3 a0_0 a0_1 a0_2 a1_0 a1_1 a1_2).bind fun t275 => (if t274 = t275 then ((rank_Cmp.f kj3 a0_0 a0_1 a0_2 a0_0 (IntKind.u64.wrap (a0_1 * (IntKind.u64.wrap (a2)))) (IntKind.u64.wrap (a0_2 * (IntKind.u64.wrap (a2))))).bind fun t276 => (if t276 = 0 then (if t264 = 0 then (if t272 = 0 then ((samphireref03_Same.f kj3 t258 t261 t266 t269).bind fun t277 => (if t277 = true then ((samphirelaw10_awakeg.f).bind fun t278 => (some t278)) else (some false))) else (some false)) else (some false)) else (some false))) else (some false)))) = some r := H
    have A42 := Aside0.mk A420
    clear A420
    replace H := Option.bind_eq_some_iff.mp H
    obtain ⟨t274, A430, H⟩ := H
    replace H : ((rank_Cmp.f kj3 a0_0 a0_1 a0_2 a1_0 a1_1 a1_2).bind fun t275 => (if t274 = t275 then ((rank_Cmp.f kj3 a0_0 a0_1 a0_2 a0_0 (IntKind.u64.wrap (a0_1 * (IntKind.u64.wrap (a2)))) (IntKind.u64.wrap (a0_2 * (IntKind.u64.wrap (a2))))).bind fun t276 => (if t276 = 0 then (if t264 = 0 then (if t272 = 0 then ((samphireref03_Same.f kj3 t258 t261 t266 t269).bind fun t277 => (if t277 = true then ((samphirelaw10_awakeg.f).bind fun t278 => (some t278)) else (some false))) else (some false)) else (some false)) else (some false))) else (some false))) = some r := H
    have A43 := Aside0.mk A430
    clear A430
    replace H := Option.bind_eq_some_iff.mp H
    obtain ⟨t275, A440, H⟩ := H
    replace H : (if t274 = t275 then ((rank_Cmp.f kj3 a0_0 a0_1 a0_2 a0_0 (IntKind.u64.wrap (a0_1 * (IntKind.u64.wrap (a2)))) (IntKind.u64.wrap (a0_2 * (IntKind.u64.wrap (a2))))).bind fun t276 => (if t276 = 0 then (if t264 = 0 then (if t272 = 0 then ((samphireref03_Same.f kj3 t258 t261 t266 t269).bind fun t277 => (if t277 = true then ((samphirelaw10_awakeg.f).bind fun t278 => (some t278)) else (some false))) else (some false)) else (some false)) else (some false))) else (some false)) = some r := H
    have A44 := Aside0.mk A440
    clear A440
    by_cases c45 : t274 = t275
    ·rw [if_pos c45] at H
     have c45b0 : (t274 == t275) = true := beq_iff_eq.mpr c45
     have c45b1 : (t274 != t275) = false := bne_eq_false_iff_eq.mpr c45
     clear c45
     replace H := Option.bind_eq_some_iff.mp H
     obtain ⟨t276, A460, H⟩ := H
     replace H : (if t276 = 0 then (if t264 = 0 then (if t272 = 0 then ((samphireref03_Same.f kj3 t258 t261 t266 t269).bind fun t277 => (if t277 = true then ((samphirelaw10_awakeg.f).bind fun t278 => (some t278)) else (some false))) else (some false)) else (some false)) else (some false)) = some r := H
     have A46 := Aside0.mk A460
     clear A460
     by_cases c47 : t276 = 0
     ·rw [if_pos c47] at H
      have c47b0 : (t276 == 0) = true := beq_iff_eq.mpr c47
      have c47b1 : (t276 != 0) = false := bne_eq_false_iff_eq.mpr c47
      clear c47
      by_cases c48 : t264 = 0
      ·rw [if_pos c48] at H
       have c48b0 : (t264 == 0) = true := beq_iff_eq.mpr c48
       have c48b1 : (t264 != 0) = false := bne_eq_false_iff_eq.mpr c48
       clear c48
       by_cases c49 : t272 = 0
       ·rw [if_pos c49] at H
        have c49b0 : (t272 == 0) = true := beq_iff_eq.mpr c49
        have c49b1 : (t272 != 0) = false := bne_eq_false_iff_eq.mpr c49
        clear c49
        replace H := Option.bind_eq_some_iff.mp H
        obtain ⟨t277, A500, H⟩ := H
        replace H : (if t277 = true then ((samphirelaw10_awakeg.f).bind fun t278 => (some t278)) else (some false)) = some r := H
        have A50 := Aside0.mk A500
        clear A500
        by_cases c51 : t277 = true
        ·subst c51
         have H1 : ((samphirelaw10_awakeg.f).bind fun t278 => (some t278)) = some r := by rw [if_pos rfl] at H; exact H
         clear H
         have H := H1
         clear H1
         replace H := Option.bind_eq_some_iff.mp H
         obtain ⟨t278, A520, H⟩ := H
         replace H : (some t278) = some r := H
         have A52 := Aside0.mk A520
         clear A520
         obtain rfl := Option.some.inj H
         have hnb53 := NB252_253.out
         have hnc53 := NB253_252.out
         have hcz54_0 : wc.cell? ⟨gb252, 0, none⟩ = some (.string a0_0) := (blk_cell BK252.out 0).trans rfl
         have hcz54_1 : wc.cell? ⟨gb252, 1, none⟩ = some (.int .u64 a0_1) := (blk_cell BK252.out 1).trans rfl
         have hcz54_2 : wc.cell? ⟨gb252, 2, none⟩ = some (.int .u64 a0_2) := (blk_cell BK252.out 2).trans rfl
         have hfz54_0 := blk_frozen BK252.out 0
         have hfz54_1 := blk_frozen BK252.out 1
         have hfz54_2 := blk_frozen BK252.out 2
         try go_wp2_with (first | ((with_reducible refine gate_dst (N := 7) rfl ?_); refine box_event ?hg (N := 7) ?hd (cs := #[.string (⟨#[]⟩ : ByteArray), .int .u64 0, .int .u64 0]) (t := 42) ?hr ?_; (case hd => rfl); (case hg => rfl); (case hr => first | (go_simp; done) | (go_simp; rfl)); intro gb257 hg w55 hbox hb; have n0_ := Aside0.mk (blk_below (g := gb252) (o := .cells #[.string a0_0, .int .u64 a0_1, .int .u64 a0_2] 42 (0, 0)) (by (with_reducible repeat (first | refine blk_drewN ?_ _ | refine blk_drew ?_ | refine blk_alloc ?_ _)); exact BK252.out) hb); have n1_ := Aside0.mk (blk_below (g := gb253) (o := .cells #[.string a1_0, .int .u64 a1_1, .int .u64 a1_2] 42 (0, 0)) (by (with_reducible repeat (first | refine blk_drewN ?_ _ | refine blk_drew ?_ | refine blk_alloc ?_ _)); exact BK253.out) hb); have n2_ := Aside0.mk (below_step (by repeat (first | (with_reducible first | exact HB.out | apply below_alloc | apply pw_below_drewN | apply below_drew1 | refine below_set ?_ GE252.out | refine below_set ?_ GE253.out) | exact HB.out)) hb); have n3_ := Aside0.mk (hbox); have n4_ := Aside0.mk ((by rw [hg]; exact (below_size (by repeat (first | (with_reducible first | exact HB.out | apply below_alloc | apply pw_below_drewN | apply below_drew1 | refine below_set ?_ GE252.out | refine below_set ?_ GE253.out) | exact HB.out))) : w.heap.size ≤ gb257)); have n5_ := Aside0.mk ((by rw [hg]; exact (below_size (by repeat (first | (with_reducible first | exact HB.out | apply below_alloc | apply pw_below_drewN | apply below_drew1 | refine below_set ?_ GE252.out | refine below_set ?_ GE253.out) | exact HB.out))) : w.heap.size ≤ gb257)); have n6_ := Aside0.mk ((by rw [hg]; exact Nat.ne_of_lt (blk_lt (g := gb252) (o := .cells #[.string a0_0, .int .u64 a0_1, .int .u64 a0_2] 42 (0, 0)) (by (with_reducible repeat (first | refine blk_drewN ?_ _ | refine blk_drew ?_ | refine blk_alloc ?_ _)); exact BK252.out)) : gb252 ≠ gb257)); have n7_ := Aside0.mk ((by rw [hg]; exact Nat.ne_of_gt (blk_lt (g := gb252) (o := .cells #[.string a0_0, .int .u64 a0_1, .int .u64 a0_2] 42 (0, 0)) (by (with_reducible repeat (first | refine blk_drewN ?_ _ | refine blk_drew ?_ | refine blk_alloc ?_ _)); exact BK252.out)) : gb257 ≠ gb252)); have n8_ := Aside0.mk ((by rw [hg]; exact Nat.ne_of_lt (blk_lt (g := gb253) (o := .cells #[.string a1_0, .int .u64 a1_1, .int .u64 a1_2] 42 (0, 0)) (by (with_reducible repeat (first | refine blk_drewN ?_ _ | refine blk_drew ?_ | refine blk_alloc ?_ _)); exact BK253.out)) : gb253 ≠ gb257)); have n9_ := Aside0.mk ((by rw [hg]; exact Nat.ne_of_gt (blk_lt (g := gb253) (o := .cells #[.string a1_0, .int .u64 a1_1, .int .u64 a1_2] 42 (0, 0)) (by (with_reducible repeat (first | refine blk_drewN ?_ _ | refine blk_drew ?_ | refine blk_alloc ?_ _)); exact BK253.out)) : gb257 ≠ gb253)); clear BK252; clear BK253; clear HB; have BK252 := n0_; have BK253 := n1_; have HB := n2_; have BK257 := n3_; have GW257 := n4_; have GE257 := n5_; have NB252_257 := n6_; have NB257_252 := n7_; have NB253_257 := n8_; have NB257_253 := n9_; clear n0_ n1_ n2_ n3_ n4_ n5_ n6_ n7_ n8_ n9_; clear hb hbox hg; have hnb56 := NB257_252.out; have hnc56 := NB252_257.out; have hnb57 := NB257_253.out; have hnc57 := NB253_257.out; have hcz58_0 : w55.cell? ⟨gb257, 0, none⟩ = some (.string (⟨#[]⟩ : ByteArray)) := (blk_cell BK257.out 0).trans rfl; have hcz58_1 : w55.cell? ⟨gb257, 1, none⟩ = some (.int .u64 0) := (blk_cell BK257.out 1).trans rfl; have hcz58_2 : w55.cell? ⟨gb257, 2, none⟩ = some (.int .u64 0) := (blk_cell BK257.out 2).trans rfl; have hfz58_0 := blk_frozen BK257.out 0; have hfz58_1 := blk_frozen BK257.out 1; have hfz58_2 := blk_frozen BK257.out 2; have hcz59_0 : w55.cell? ⟨gb252, 0, none⟩ = some (.string a0_0) := (blk_cell BK252.out 0).trans rfl; have hcz59_1 : w55.cell? ⟨gb252, 1, none⟩ = some (.int .u64 a0_1) := (blk_cell BK252.out 1).trans rfl; have hcz59_2 : w55.cell? ⟨gb252, 2, none⟩ = some (.int .u64 a0_2) := (blk_cell BK252.out 2).trans rfl; have hfz59_0 := blk_frozen BK252.out 0; have hfz59_1 := blk_frozen BK252.out 1; have hfz59_2 := blk_frozen BK252.out 2) | ((with_reducible refine gate_callee (f := 31) rfl ?_); refine goesL_ (some 50) rfl rfl Tryd.func31 (by kernel_rfl) rfl #[.agg #[.string a0_0, .int .u64 a0_1, .int .u64 a0_2]] rfl (by (try simp only [List.map_toArray, List.map_cons, List.map_nil]); first | done | rfl | (simp only [List.length_drop, List.length_take]; rfl)) ?_; (with_reducible refine (rank_Rank.calls kj3 a0_0 a0_1 a0_2 t258 t261 t264 _ A41.out).mono ?_); rintro e w60 ⟨v259, v262, rfl, ho0, ho1, hb⟩; refine ⟨_, rfl, ?_⟩; have n0_ := Aside0.mk (Kd.R_lower ho0 (below_size (by repeat (first | (with_reducible first | exact HB.out | apply below_alloc | apply pw_below_drewN | apply below_drew1 | refine below_set ?_ GE252.out | refine below_set ?_ GE253.out | refine below_set ?_ GE257.out) | exact HB.out)))); have n1_ := Aside0.mk (Kd.R_lower ho1 (below_size (by repeat (first | (with_reducible first | exact HB.out | apply below_alloc | apply pw_below_drewN | apply below_drew1 | refine below_set ?_ GE252.out | refine below_set ?_ GE253.out | refine below_set ?_ GE257.out) | exact HB.out)))); have n2_ := Aside0.mk (blk_below (g := gb252) (o := .cells #[.string a0_0, .int .u64 a0_1, .int .u64 a0_2] 42 (0, 0)) (by (with_reducible repeat (first | refine blk_drewN ?_ _ | refine blk_drew ?_ | refine blk_alloc ?_ _)); refine blk_far ?_ NB252_257.out _; (with_reducible repeat (first | refine blk_drewN ?_ _ | refine blk_drew ?_ | refine blk_alloc ?_ _)); refine blk_far ?_ NB252_257.out _; (with_reducible repeat (first | refine blk_drewN ?_ _ | refine blk_drew ?_ | refine blk_alloc ?_ _)); refine blk_far ?_ NB252_257.out _; (with_reducible repeat (first | refine blk_drewN ?_ _ | refine blk_drew ?_ | refine blk_alloc ?_ _)); exact BK252.out) hb); have n3_ := Aside0.mk (blk_below (g := gb253) (o := .cells #[.string a1_0, .int .u64 a1_1, .int .u64 a1_2] 42 (0, 0)) (by (with_reducible repeat (first | refine blk_drewN ?_ _ | refine blk_drew ?_ | refine blk_alloc ?_ _)); refine blk_far ?_ NB253_257.out _; (with_reducible repeat (first | refine blk_drewN ?_ _ | refine blk_drew ?_ | refine blk_alloc ?_ _)); refine blk_far ?_ NB253_257.out _; (with_reducible repeat (first | refine blk_drewN ?_ _ | refine blk_drew ?_ | refine blk_alloc ?_ _)); refine blk_far ?_ NB253_257.out _; (with_reducible repeat (first | refine blk_drewN ?_ _ | refine blk_drew ?_ | refine blk_alloc ?_ _)); exact BK253.out) hb); have n4_ := Aside0.mk (blk_below (g := gb257) (o := .cells #[.string a0_0, .int .u64 (IntKind.u64.wrap (a0_1 * (IntKind.u64.wrap (a2)))), .int .u64 (IntKind.u64.wrap (a0_2 * (IntKind.u64.wrap (a2))))] 42 (0, 0)) (by (with_reducible repeat (first | refine blk_drewN ?_ _ | refine blk_drew ?_ | refine blk_alloc ?_ _)); refine blk_put (cs := #[.string a0_0, .int .u64 (IntKind.u64.wrap (a0_1 * (IntKind.u64.wrap (a2)))), .int .u64 0]) ?_ 2 _ rfl; (with_reducible repeat (first | refine blk_drewN ?_ _ | refine blk_drew ?_ | refine blk_alloc ?_ _)); refine blk_put (cs := #[.string a0_0, .int .u64 0, .int .u64 0]) ?_ 1 _ rfl; (with_reducible repeat (first | refine blk_drewN ?_ _ | refine blk_drew ?_ | refine blk_alloc ?_ _)); refine blk_put (cs := #[.string (⟨#[]⟩ : ByteArray), .int .u64 0, .int .u64 0]) ?_ 0 _ rfl; (with_reducible repeat (first | refine blk_drewN ?_ _ | refine blk_drew ?_ | refine blk_alloc ?_ _)); exact BK257.out) hb); have n5_ := Aside0.mk (below_step (by repeat (first | (with_reducible first | exact HB.out | apply below_alloc | apply pw_below_drewN | apply below_drew1 | refine below_set ?_ GE252.out | refine below_set ?_ GE253.out | refine below_set ?_ GE257.out) | exact HB.out)) hb); clear BK252; clear BK253; clear BK257; clear HB; have HO260 := n0_; have HO263 := n1_; have BK252 := n2_; have BK253 := n3_; have BK257 := n4_; have HB := n5_; clear n0_ n1_ n2_ n3_ n4_ n5_; (try clear hb); (try clear hb2); (try clear hk); (try clear hi); (try clear ho0); (try clear ho1)) | ((with_reducible refine gate_dst (N := 8) rfl ?_); refine box_event ?hg (N := 8) ?hd (cs := #[.slice none 0 0, .slice none 0 0]) (t := 25) ?hr ?_; (case hd => rfl); (case hg => rfl); (case hr => first | (go_simp; done) | (go_simp; rfl)); intro gb265 hg w61 hbox hb; have n0_ := Aside0.mk (Kd.R_below (by (with_reducible repeat (first | apply Kd.R_alloc | apply Kd.R_drewN | apply Kd.R_drew)); exact HO260.out) hb); have n1_ := Aside0.mk (Kd.R_below (by (with_reducible repeat (first | apply Kd.R_alloc | apply Kd.R_drewN | apply Kd.R_drew)); exact HO263.out) hb); have n2_ := Aside0.mk (blk_below (g := gb252) (o := .cells #[.string a0_0, .int .u64 a0_1, .int .u64 a0_2] 42 (0, 0)) (by (with_reducible repeat (first | refine blk_drewN ?_ _ | refine blk_drew ?_ | refine blk_alloc ?_ _)); exact BK252.out) hb); have n3_ := Aside0.mk (blk_below (g := gb253) (o := .cells #[.string a1_0, .int .u64 a1_1, .int .u64 a1_2] 42 (0, 0)) (by (with_reducible repeat (first | refine blk_drewN ?_ _ | refine blk_drew ?_ | refine blk_alloc ?_ _)); exact BK253.out) hb); have n4_ := Aside0.mk (blk_below (g := gb257) (o := .cells #[.string a0_0, .int .u64 (IntKind.u64.wrap (a0_1 * (IntKind.u64.wrap (a2)))), .int .u64 (IntKind.u64.wrap (a0_2 * (IntKind.u64.wrap (a2))))] 42 (0, 0)) (by (with_reducible repeat (first | refine blk_drewN ?_ _ | refine blk_drew ?_ | refine blk_alloc ?_ _)); exact BK257.out) hb); have n5_ := Aside0.mk (below_step (by repeat (first | (with_reducible first | exact HB.out | apply below_alloc | apply pw_below_drewN | apply below_drew1 | refine below_set ?_ GE252.out | refine below_set ?_ GE253.out | refine below_set ?_ GE257.out) | exact HB.out)) hb); have n6_ := Aside0.mk (hbox); have n7_ := Aside0.mk ((by rw [hg]; exact (below_size (by repeat (first | (with_reducible first | exact HB.out | apply below_alloc | apply pw_below_drewN | apply below_drew1 | refine below_set ?_ GE252.out | refine below_set ?_ GE253.out | refine below_set ?_ GE257.out) | exact HB.out))) : w.heap.size ≤ gb265)); have n8_ := Aside0.mk ((by rw [hg]; exact (below_size (by repeat (first | (with_reducible first | exact HB.out | apply below_alloc | apply pw_below_drewN | apply below_drew1 | refine below_set ?_ GE252.out | refine below_set ?_ GE253.out | refine below_set ?_ GE257.out) | exact HB.out))) : w.heap.size ≤ gb265)); have n9_ := Aside0.mk ((by rw [hg]; exact Nat.ne_of_lt (blk_lt (g := gb252) (o := .cells #[.string a0_0, .int .u64 a0_1, .int .u64 a0_2] 42 (0, 0)) (by (with_reducible repeat (first | refine blk_drewN ?_ _ | refine blk_drew ?_ | refine blk_alloc ?_ _)); exact BK252.out)) : gb252 ≠ gb265)); have n10_ := Aside0.mk ((by rw [hg]; exact Nat.ne_of_gt (blk_lt (g := gb252) (o := .cells #[.string a0_0, .int .u64 a0_1, .int .u64 a0_2] 42 (0, 0)) (by (with_reducible repeat (first | refine blk_drewN ?_ _ | refine blk_drew ?_ | refine blk_alloc ?_ _)); exact BK252.out)) : gb265 ≠ gb252)); have n11_ := Aside0.mk ((by rw [hg]; exact Nat.ne_of_lt (blk_lt (g := gb253) (o := .cells #[.string a1_0, .int .u64 a1_1, .int .u64 a1_2] 42 (0, 0)) (by (with_reducible repeat (first | refine blk_drewN ?_ _ | refine blk_drew ?_ | refine blk_alloc ?_ _)); exact BK253.out)) : gb253 ≠ gb265)); have n12_ := Aside0.mk ((by rw [hg]; exact Nat.ne_of_gt (blk_lt (g := gb253) (o := .cells #[.string a1_0, .int .u64 a1_1, .int .u64 a1_2] 42 (0, 0)) (by (with_reducible repeat (first | refine blk_drewN ?_ _ | refine blk_drew ?_ | refine blk_alloc ?_ _)); exact BK253.out)) : gb265 ≠ gb253)); have n13_ := Aside0.mk ((by rw [hg]; exact Nat.ne_of_lt (blk_lt (g := gb257) (o := .cells #[.string a0_0, .int .u64 (IntKind.u64.wrap (a0_1 * (IntKind.u64.wrap (a2)))), .int .u64 (IntKind.u64.wrap (a0_2 * (IntKind.u64.wrap (a2))))] 42 (0, 0)) (by (with_reducible repeat (first | refine blk_drewN ?_ _ | refine blk_drew ?_ | refine blk_alloc ?_ _)); exact BK257.out)) : gb257 ≠ gb265)); have n14_ := Aside0.mk ((by rw [hg]; exact Nat.ne_of_gt (blk_lt (g := gb257) (o := .cells #[.string a0_0, .int .u64 (IntKind.u64.wrap (a0_1 * (IntKind.u64.wrap (a2)))), .int .u64 (IntKind.u64.wrap (a0_2 * (IntKind.u64.wrap (a2))))] 42 (0, 0)) (by (with_reducible repeat (first | refine blk_drewN ?_ _ | refine blk_drew ?_ | refine blk_alloc ?_ _)); exact BK257.out)) : gb265 ≠ gb257)); clear HO260; clear HO263; clear BK252; clear BK253; clear BK257; clear HB; have HO260 := n0_; have HO263 := n1_; have BK252 := n2_; have BK253 := n3_; have BK257 := n4_; have HB := n5_; have BK265 := n6_; have GW265 := n7_; have GE265 := n8_; have NB252_265 := n9_; have NB265_252 := n10_; have NB253_265 := n11_; have NB265_253 := n12_; have NB257_265 := n13_; have NB265_257 := n14_; clear n0_ n1_ n2_ n3_ n4_ n5_ n6_ n7_ n8_ n9_ n10_ n11_ n12_ n13_ n14_; clear hb hbox hg; obtain ⟨Ao62, co62, eo62⟩ := Kd.R_slice HO260.out; subst eo62; have hnb63 := NB265_252.out; have hnc63 := NB252_265.out; have hnb64 := NB265_253.out; have hnc64 := NB253_265.out; have hnb65 := NB265_257.out; have hnc65 := NB257_265.out; have hcz66_0 : w61.cell? ⟨gb265, 0, none⟩ = some (.slice none 0 0) := (blk_cell BK265.out 0).trans rfl; have hcz66_1 : w61.cell? ⟨gb265, 1, none⟩ = some (.slice none 0 0) := (blk_cell BK265.out 1).trans rfl; have hfz66_0 := blk_frozen BK265.out 0; have hfz66_1 := blk_frozen BK265.out 1; obtain ⟨Ao67, co67, eo67⟩ := Kd.R_slice HO263.out; subst eo67; have hcz68_0 : w61.cell? ⟨gb257, 0, none⟩ = some (.string a0_0) := (blk_cell BK257.out 0).trans rfl; have hcz68_1 : w61.cell? ⟨gb257, 1, none⟩ = some (.int .u64 (IntKind.u64.wrap (a0_1 * (IntKind.u64.wrap (a2))))) := (blk_cell BK257.out 1).trans rfl; have hcz68_2 : w61.cell? ⟨gb257, 2, none⟩ = some (.int .u64 (IntKind.u64.wrap (a0_2 * (IntKind.u64.wrap (a2))))) := (blk_cell BK257.out 2).trans rfl; have hfz68_0 := blk_frozen BK257.out 0; have hfz68_1 := blk_frozen BK257.out 1; have hfz68_2 := blk_frozen BK257.out 2) | ((with_reducible refine gate_callee (f := 31) rfl ?_); refine goesL_ (some 55) rfl rfl Tryd.func31 (by kernel_rfl) rfl #[.agg #[.string a0_0, .int .u64 (IntKind.u64.wrap (a0_1 * (IntKind.u64.wrap (a2)))), .int .u64 (IntKind.u64.wrap (a0_2 * (IntKind.u64.wrap (a2))))]] rfl (by (try simp only [List.map_toArray, List.map_cons, List.map_nil]); first | done | rfl | (simp only [List.length_drop, List.length_take]; rfl)) ?_; (with_reducible refine (rank_Rank.calls kj3 a0_0 (IntKind.u64.wrap (a0_1 * (IntKind.u64.wrap (a2)))) (IntKind.u64.wrap (a0_2 * (IntKind.u64.wrap (a2)))) t266 t269 t272 _ A42.out).mono ?_); rintro e w69 ⟨v267, v270, rfl, ho0, ho1, hb⟩; refine ⟨_, rfl, ?_⟩; have n0_ := Aside0.mk (Kd.R_mono (Kd.R_told (Kd.R_told (Kd.R_old (by (with_reducible repeat (first | apply Kd.R_alloc | apply Kd.R_drewN | apply Kd.R_drew)); exact (Kd.R_mono (Kd.R_far (p := ⟨gb265, 1, none⟩) (Kd.R_far (p := ⟨gb265, 0, none⟩) (Kd.R_types HO260.out BK265.out (by decide)) (fun _ hk => hk.2) (.slice Ao62 t258.length co62)) (fun _ hk => hk.2) (.slice Ao67 t261.length co67)) (fun _ h_ => h_.1))) hb) (Kd.R_base ho0)) (Kd.R_base ho1)) (fun _ h_ => h_.1)); have n1_ := Aside0.mk (Kd.R_mono (Kd.R_told (Kd.R_told (Kd.R_old (by (with_reducible repeat (first | apply Kd.R_alloc | apply Kd.R_drewN | apply Kd.R_drew)); exact (Kd.R_mono (Kd.R_far (p := ⟨gb265, 1, none⟩) (Kd.R_far (p := ⟨gb265, 0, none⟩) (Kd.R_types HO263.out BK265.out (by decide)) (fun _ hk => hk.2) (.slice Ao62 t258.length co62)) (fun _ hk => hk.2) (.slice Ao67 t261.length co67)) (fun _ h_ => h_.1))) hb) (Kd.R_base ho0)) (Kd.R_base ho1)) (fun _ h_ => h_.1)); have n2_ := Aside0.mk (Kd.R_lower (Kd.R_new' (Kd.R_new' ho0 (Kd.R_lt (by (with_reducible repeat (first | apply Kd.R_alloc | apply Kd.R_drewN | apply Kd.R_drew)); exact (Kd.R_mono (Kd.R_far (p := ⟨gb265, 1, none⟩) (Kd.R_far (p := ⟨gb265, 0, none⟩) (Kd.R_types HO260.out BK265.out (by decide)) (fun _ hk => hk.2) (.slice Ao62 t258.length co62)) (fun _ hk => hk.2) (.slice Ao67 t261.length co67)) (fun _ h_ => h_.1))))) (Kd.R_lt (by (with_reducible repeat (first | apply Kd.R_alloc | apply Kd.R_drewN | apply Kd.R_drew)); exact (Kd.R_mono (Kd.R_far (p := ⟨gb265, 1, none⟩) (Kd.R_far (p := ⟨gb265, 0, none⟩) (Kd.R_types HO263.out BK265.out (by decide)) (fun _ hk => hk.2) (.slice Ao62 t258.length co62)) (fun _ hk => hk.2) (.slice Ao67 t261.length co67)) (fun _ h_ => h_.1))))) (below_size (by repeat (first | (with_reducible first | exact HB.out | apply below_alloc | apply pw_below_drewN | apply below_drew1 | refine below_set ?_ GE252.out | refine below_set ?_ GE253.out | refine below_set ?_ GE257.out | refine below_set ?_ GE265.out) | exact HB.out)))); have n3_ := Aside0.mk (Kd.R_lower (Kd.R_new' (Kd.R_new' ho1 (Kd.R_lt (by (with_reducible repeat (first | apply Kd.R_alloc | apply Kd.R_drewN | apply Kd.R_drew)); exact (Kd.R_mono (Kd.R_far (p := ⟨gb265, 1, none⟩) (Kd.R_far (p := ⟨gb265, 0, none⟩) (Kd.R_types HO260.out BK265.out (by decide)) (fun _ hk => hk.2) (.slice Ao62 t258.length co62)) (fun _ hk => hk.2) (.slice Ao67 t261.length co67)) (fun _ h_ => h_.1))))) (Kd.R_lt (by (with_reducible repeat (first | apply Kd.R_alloc | apply Kd.R_drewN | apply Kd.R_drew)); exact (Kd.R_mono (Kd.R_far (p := ⟨gb265, 1, none⟩) (Kd.R_far (p := ⟨gb265, 0, none⟩) (Kd.R_types HO263.out BK265.out (by decide)) (fun _ hk => hk.2) (.slice Ao62 t258.length co62)) (fun _ hk => hk.2) (.slice Ao67 t261.length co67)) (fun _ h_ => h_.1))))) (below_size (by repeat (first | (with_reducible first | exact HB.out | apply below_alloc | apply pw_below_drewN | apply below_drew1 | refine below_set ?_ GE252.out | refine below_set ?_ GE253.out | refine below_set ?_ GE257.out | refine below_set ?_ GE265.out) | exact HB.out)))); have n4_ := Aside0.mk (blk_below (g := gb252) (o := .cells #[.string a0_0, .int .u64 a0_1, .int .u64 a0_2] 42 (0, 0)) (by (with_reducible repeat (first | refine blk_drewN ?_ _ | refine blk_drew ?_ | refine blk_alloc ?_ _)); refine blk_far ?_ NB252_265.out _; (with_reducible repeat (first | refine blk_drewN ?_ _ | refine blk_drew ?_ | refine blk_alloc ?_ _)); refine blk_far ?_ NB252_265.out _; (with_reducible repeat (first | refine blk_drewN ?_ _ | refine blk_drew ?_ | refine blk_alloc ?_ _)); exact BK252.out) hb); have n5_ := Aside0.mk (blk_below (g := gb253) (o := .cells #[.string a1_0, .int .u64 a1_1, .int .u64 a1_2] 42 (0, 0)) (by (with_reducible repeat (first | refine blk_drewN ?_ _ | refine blk_drew ?_ | refine blk_alloc ?_ _)); refine blk_far ?_ NB253_265.out _; (with_reducible repeat (first | refine blk_drewN ?_ _ | refine blk_drew ?_ | refine blk_alloc ?_ _)); refine blk_far ?_ NB253_265.out _; (with_reducible repeat (first | refine blk_drewN ?_ _ | refine blk_drew ?_ | refine blk_alloc ?_ _)); exact BK253.out) hb); have n6_ := Aside0.mk (blk_below (g := gb257) (o := .cells #[.string a0_0, .int .u64 (IntKind.u64.wrap (a0_1 * (IntKind.u64.wrap (a2)))), .int .u64 (IntKind.u64.wrap (a0_2 * (IntKind.u64.wrap (a2))))] 42 (0, 0)) (by (with_reducible repeat (first | refine blk_drewN ?_ _ | refine blk_drew ?_ | refine blk_alloc ?_ _)); refine blk_far ?_ NB257_265.out _; (with_reducible repeat (first | refine blk_drewN ?_ _ | refine blk_drew ?_ | refine blk_alloc ?_ _)); refine blk_far ?_ NB257_265.out _; (with_reducible repeat (first | refine blk_drewN ?_ _ | refine blk_drew ?_ | refine blk_alloc ?_ _)); exact BK257.out) hb); have n7_ := Aside0.mk (blk_below (g := gb265) (o := .cells #[.slice Ao62 t258.length co62, .slice Ao67 t261.length co67] 25 (0, 0)) (by (with_reducible repeat (first | refine blk_drewN ?_ _ | refine blk_drew ?_ | refine blk_alloc ?_ _)); refine blk_put (cs := #[.slice Ao62 t258.length co62, .slice none 0 0]) ?_ 1 _ rfl; (with_reducible repeat (first | refine blk_drewN ?_ _ | refine blk_drew ?_ | refine blk_alloc ?_ _)); refine blk_put (cs := #[.slice none 0 0, .slice none 0 0]) ?_ 0 _ rfl; (with_reducible repeat (first | refine blk_drewN ?_ _ | refine blk_drew ?_ | refine blk_alloc ?_ _)); exact BK265.out) hb); have n8_ := Aside0.mk (below_step (by repeat (first | (with_reducible first | exact HB.out | apply below_alloc | apply pw_below_drewN | apply below_drew1 | refine below_set ?_ GE252.out | refine below_set ?_ GE253.out | refine below_set ?_ GE257.out | refine below_set ?_ GE265.out) | exact HB.out)) hb); clear HO260; clear HO263; clear BK252; clear BK253; clear BK257; clear BK265; clear HB; have HO260 := n0_; have HO263 := n1_; have HO268 := n2_; have HO271 := n3_; have BK252 := n4_; have BK253 := n5_; have BK257 := n6_; have BK265 := n7_; have HB := n8_; clear n0_ n1_ n2_ n3_ n4_ n5_ n6_ n7_ n8_; (try clear hb); (try clear hb2); (try clear hk); (try clear hi); (try clear ho0); (try clear ho1)) | ((with_reducible refine gate_dst (N := 10) rfl ?_); refine box_event ?hg (N := 10) ?hd (cs := #[.slice none 0 0, .slice none 0 0]) (t := 25) ?hr ?_; (case hd => rfl); (case hg => rfl); (case hr => first | (go_simp; done) | (go_simp; rfl)); intro gb273 hg w70 hbox hb; have n0_ := Aside0.mk (Kd.R_below (by (with_reducible repeat (first | apply Kd.R_alloc | apply Kd.R_drewN | apply Kd.R_drew)); exact HO260.out) hb); have n1_ := Aside0.mk (Kd.R_below (by (with_reducible repeat (first | apply Kd.R_alloc | apply Kd.R_drewN | apply Kd.R_drew)); exact HO263.out) hb); have n2_ := Aside0.mk (Kd.R_below (by (with_reducible repeat (first | apply Kd.R_alloc | apply Kd.R_drewN | apply Kd.R_drew)); exact HO268.out) hb); have n3_ := Aside0.mk (Kd.R_below (by (with_reducible repeat (first | apply Kd.R_alloc | apply Kd.R_drewN | apply Kd.R_drew)); exact HO271.out) hb); have n4_ := Aside0.mk (blk_below (g := gb252) (o := .cells #[.string a0_0, .int .u64 a0_1, .int .u64 a0_2] 42 (0, 0)) (by (with_reducible repeat (first | refine blk_drewN ?_ _ | refine blk_drew ?_ | refine blk_alloc ?_ _)); exact BK252.out) hb); have n5_ := Aside0.mk (blk_below (g := gb253) (o := .cells #[.string a1_0, .int .u64 a1_1, .int .u64 a1_2] 42 (0, 0)) (by (with_reducible repeat (first | refine blk_drewN ?_ _ | refine blk_drew ?_ | refine blk_alloc ?_ _)); exact BK253.out) hb); have n6_ := Aside0.mk (blk_below (g := gb257) (o := .cells #[.string a0_0, .int .u64 (IntKind.u64.wrap (a0_1 * (IntKind.u64.wrap (a2)))), .int .u64 (IntKind.u64.wrap (a0_2 * (IntKind.u64.wrap (a2))))] 42 (0, 0)) (by (with_reducible repeat (first | refine blk_drewN ?_ _ | refine blk_drew ?_ | refine blk_alloc ?_ _)); exact BK257.out) hb); have n7_ := Aside0.mk (blk_below (g := gb265) (o := .cells #[.slice Ao62 t258.length co62, .slice Ao67 t261.length co67] 25 (0, 0)) (by (with_reducible repeat (first | refine blk_drewN ?_ _ | refine blk_drew ?_ | refine blk_alloc ?_ _)); exact BK265.out) hb); have n8_ := Aside0.mk (below_step (by repeat (first | (with_reducible first | exact HB.out | apply below_alloc | apply pw_below_drewN | apply below_drew1 | refine below_set ?_ GE252.out | refine below_set ?_ GE253.out | refine below_set ?_ GE257.out | refine below_set ?_ GE265.out) | exact HB.out)) hb); have n9_ := Aside0.mk (hbox); have n10_ := Aside0.mk ((by rw [hg]; exact (below_size (by repeat (first | (with_reducible first | exact HB.out | apply below_alloc | apply pw_below_drewN | apply below_drew1 | refine below_set ?_ GE252.out | refine below_set ?_ GE253.out | refine below_set ?_ GE257.out | refine below_set ?_ GE265.out) | exact HB.out))) : w.heap.size ≤ gb273)); have n11_ := Aside0.mk ((by rw [hg]; exact (below_size (by repeat (first | (with_reducible first | exact HB.out | apply below_alloc | apply pw_below_drewN | apply below_drew1 | refine below_set ?_ GE252.out | refine below_set ?_ GE253.out | refine below_set ?_ GE257.out | refine below_set ?_ GE265.out) | exact HB.out))) : w.heap.size ≤ gb273)); have n12_ := Aside0.mk ((by rw [hg]; exact Nat.ne_of_lt (blk_lt (g := gb252) (o := .cells #[.string a0_0, .int .u64 a0_1, .int .u64 a0_2] 42 (0, 0)) (by (with_reducible repeat (first | refine blk_drewN ?_ _ | refine blk_drew ?_ | refine blk_alloc ?_ _)); exact BK252.out)) : gb252 ≠ gb273)); have n13_ := Aside0.mk ((by rw [hg]; exact Nat.ne_of_gt (blk_lt (g := gb252) (o := .cells #[.string a0_0, .int .u64 a0_1, .int .u64 a0_2] 42 (0, 0)) (by (with_reducible repeat (first | refine blk_drewN ?_ _ | refine blk_drew ?_ | refine blk_alloc ?_ _)); exact BK252.out)) : gb273 ≠ gb252)); have n14_ := Aside0.mk ((by rw [hg]; exact Nat.ne_of_lt (blk_lt (g := gb253) (o := .cells #[.string a1_0, .int .u64 a1_1, .int .u64 a1_2] 42 (0, 0)) (by (with_reducible repeat (first | refine blk_drewN ?_ _ | refine blk_drew ?_ | refine blk_alloc ?_ _)); exact BK253.out)) : gb253 ≠ gb273)); have n15_ := Aside0.mk ((by rw [hg]; exact Nat.ne_of_gt (blk_lt (g := gb253) (o := .cells #[.string a1_0, .int .u64 a1_1, .int .u64 a1_2] 42 (0, 0)) (by (with_reducible repeat (first | refine blk_drewN ?_ _ | refine blk_drew ?_ | refine blk_alloc ?_ _)); exact BK253.out)) : gb273 ≠ gb253)); have n16_ := Aside0.mk ((by rw [hg]; exact Nat.ne_of_lt (blk_lt (g := gb257) (o := .cells #[.string a0_0, .int .u64 (IntKind.u64.wrap (a0_1 * (IntKind.u64.wrap (a2)))), .int .u64 (IntKind.u64.wrap (a0_2 * (IntKind.u64.wrap (a2))))] 42 (0, 0)) (by (with_reducible repeat (first | refine blk_drewN ?_ _ | refine blk_drew ?_ | refine blk_alloc ?_ _)); exact BK257.out)) : gb257 ≠ gb273)); have n17_ := Aside0.mk ((by rw [hg]; exact Nat.ne_of_gt (blk_lt (g := gb257) (o := .cells #[.string a0_0, .int .u64 (IntKind.u64.wrap (a0_1 * (IntKind.u64.wrap (a2)))), .int .u64 (IntKind.u64.wrap (a0_2 * (IntKind.u64.wrap (a2))))] 42 (0, 0)) (by (with_reducible repeat (first | refine blk_drewN ?_ _ | refine blk_drew ?_ | refine blk_alloc ?_ _)); exact BK257.out)) : gb273 ≠ gb257)); have n18_ := Aside0.mk ((by rw [hg]; exact Nat.ne_of_lt (blk_lt (g := gb265) (o := .cells #[.slice Ao62 t258.length co62, .slice Ao67 t261.length co67] 25 (0, 0)) (by (with_reducible repeat (first | refine blk_drewN ?_ _ | refine blk_drew ?_ | refine blk_alloc ?_ _)); exact BK265.out)) : gb265 ≠ gb273)); have n19_ := Aside0.mk ((by rw [hg]; exact Nat.ne_of_gt (blk_lt (g := gb265) (o := .cells #[.slice Ao62 t258.length co62, .slice Ao67 t261.length co67] 25 (0, 0)) (by (with_reducible repeat (first | refine blk_drewN ?_ _ | refine blk_drew ?_ | refine blk_alloc ?_ _)); exact BK265.out)) : gb273 ≠ gb265)); clear HO260; clear HO263; clear HO268; clear HO271; clear BK252; clear BK253; clear BK257; clear BK265; clear HB; have HO260 := n0_; have HO263 := n1_; have HO268 := n2_; have HO271 := n3_; have BK252 := n4_; have BK253 := n5_; have BK257 := n6_; have BK265 := n7_; have HB := n8_; have BK273 := n9_; have GW273 := n10_; have GE273 := n11_; have NB252_273 := n12_; have NB273_252 := n13_; have NB253_273 := n14_; have NB273_253 := n15_; have NB257_273 := n16_; have NB273_257 := n17_; have NB265_273 := n18_; have NB273_265 := n19_; clear n0_ n1_ n2_ n3_ n4_ n5_ n6_ n7_ n8_ n9_ n10_ n11_ n12_ n13_ n14_ n15_ n16_ n17_ n18_ n19_; clear hb hbox hg; obtain ⟨Ao71, co71, eo71⟩ := Kd.R_slice HO268.out; subst eo71; have hnb72 := NB273_252.out; have hnc72 := NB252_273.out; have hnb73 := NB273_253.out; have hnc73 := NB253_273.out; have hnb74 := NB273_257.out; have hnc74 := NB257_273.out; have hnb75 := NB273_265.out; have hnc75 := NB265_273.out; have hcz76_0 : w70.cell? ⟨gb273, 0, none⟩ = some (.slice none 0 0) := (blk_cell BK273.out 0).trans rfl; have hcz76_1 : w70.cell? ⟨gb273, 1, none⟩ = some (.slice none 0 0) := (blk_cell BK273.out 1).trans rfl; have hfz76_0 := blk_frozen BK273.out 0; have hfz76_1 := blk_frozen BK273.out 1; obtain ⟨Ao77, co77, eo77⟩ := Kd.R_slice HO271.out; subst eo77))
         have n0_ : Aside0 (Kd.R (Kd.int .u32) 55 ((w70.setCell ⟨gb273, 0, none⟩ (.slice Ao71 t266.length co71)).setCell ⟨gb273, 1, none⟩ (.slice Ao77 t269.length co77)) w.heap.size (fun k_ => some k_ ≠ (.slice Ao67 t261.length co67 : Value).ownBlock ∧ some k_ ≠ (.slice Ao71 t266.length co71 : Value).ownBlock ∧ some k_ ≠ (.slice Ao77 t269.length co77 : Value).ownBlock) (.slice Ao62 t258.length co62) t258) := ⟨by (with_reducible repeat (first | apply Kd.R_alloc | apply Kd.R_drewN | apply Kd.R_drew)); exact Kd.R_mono (Kd.R_far (p := ⟨gb273, 1, none⟩) (Kd.R_far (p := ⟨gb273, 0, none⟩) (Kd.R_types HO260.out BK273.out (by decide)) (fun _ hk => hk.2) (.slice Ao71 t266.length co71)) (fun _ hk => hk.2) (.slice Ao77 t269.length co77)) (fun _ hk => ⟨hk.1.1.1, ⟨hk.1.1.2, hk.1.2⟩⟩)⟩
         have n1_ : Aside0 (Kd.R (Kd.int .u32) 55 ((w70.setCell ⟨gb273, 0, none⟩ (.slice Ao71 t266.length co71)).setCell ⟨gb273, 1, none⟩ (.slice Ao77 t269.length co77)) w.heap.size (fun k_ => some k_ ≠ (.slice Ao62 t258.length co62 : Value).ownBlock ∧ some k_ ≠ (.slice Ao71 t266.length co71 : Value).ownBlock ∧ some k_ ≠ (.slice Ao77 t269.length co77 : Value).ownBlock) (.slice Ao67 t261.length co67) t261) := ⟨by (with_reducible repeat (first | apply Kd.R_alloc | apply Kd.R_drewN | apply Kd.R_drew)); exact Kd.R_mono (Kd.R_far (p := ⟨gb273, 1, none⟩) (Kd.R_far (p := ⟨gb273, 0, none⟩) (Kd.R_types HO263.out BK273.out (by decide)) (fun _ hk => hk.2) (.slice Ao71 t266.length co71)) (fun _ hk => hk.2) (.slice Ao77 t269.length co77)) (fun _ hk => ⟨hk.1.1.1, ⟨hk.1.1.2, hk.1.2⟩⟩)⟩
         have n2_ : Aside0 (Kd.R (Kd.int .u32) 55 ((w70.setCell ⟨gb273, 0, none⟩ (.slice Ao71 t266.length co71)).setCell ⟨gb273, 1, none⟩ (.slice Ao77 t269.length co77)) w.heap.size (fun k_ => some k_ ≠ (.slice Ao62 t258.length co62 : Value).ownBlock ∧ some k_ ≠ (.slice Ao67 t261.length co67 : Value).ownBlock ∧ some k_ ≠ (.slice Ao77 t269.length co77 : Value).ownBlock) (.slice Ao71 t266.length co71) t266) := ⟨by (with_reducible repeat (first | apply Kd.R_alloc | apply Kd.R_drewN | apply Kd.R_drew)); exact Kd.R_mono (Kd.R_far (p := ⟨gb273, 1, none⟩) (Kd.R_far (p := ⟨gb273, 0, none⟩) (Kd.R_types HO268.out BK273.out (by decide)) (fun _ hk => hk.2) (.slice Ao71 t266.length co71)) (fun _ hk => hk.2) (.slice Ao77 t269.length co77)) (fun _ hk => ⟨hk.1.1.2, ⟨hk.1.2, hk.1.1.1⟩⟩)⟩
         have n3_ : Aside0 (Kd.R (Kd.int .u32) 55 ((w70.setCell ⟨gb273, 0, none⟩ (.slice Ao71 t266.length co71)).setCell ⟨gb273, 1, none⟩ (.slice Ao77 t269.length co77)) w.heap.size (fun k_ => some k_ ≠ (.slice Ao62 t258.length co62 : Value).ownBlock ∧ some k_ ≠ (.slice Ao67 t261.length co67 : Value).ownBlock ∧ some k_ ≠ (.slice Ao71 t266.length co71 : Value).ownBlock) (.slice Ao77 t269.length co77) t269) := ⟨by (with_reducible repeat (first | apply Kd.R_alloc | apply Kd.R_drewN | apply Kd.R_drew)); exact Kd.R_mono (Kd.R_far (p := ⟨gb273, 1, none⟩) (Kd.R_far (p := ⟨gb273, 0, none⟩) (Kd.R_types HO271.out BK273.out (by decide)) (fun _ hk => hk.2) (.slice Ao71 t266.length co71)) (fun _ hk => hk.2) (.slice Ao77 t269.length co77)) (fun _ hk => ⟨hk.1.1.2, ⟨hk.1.2, hk.1.1.1⟩⟩)⟩
         have n4_ : Aside0 (((w70.setCell ⟨gb273, 0, none⟩ (.slice Ao71 t266.length co71)).setCell ⟨gb273, 1, none⟩ (.slice Ao77 t269.length co77)).heap[gb252]? = some (.cells #[.string a0_0, .int .u64 a0_1, .int .u64 a0_2] 42 (0, 0))) := ⟨by (with_reducible repeat (first | refine blk_drewN ?_ _ | refine blk_drew ?_ | refine blk_alloc ?_ _)); refine blk_far ?_ NB252_273.out _; (with_reducible repeat (first | refine blk_drewN ?_ _ | refine blk_drew ?_ | refine blk_alloc ?_ _)); refine blk_far ?_ NB252_273.out _; (with_reducible repeat (first | refine blk_drewN ?_ _ | refine blk_drew ?_ | refine blk_alloc ?_ _)); exact BK252.out⟩
         have n5_ : Aside0 (((w70.setCell ⟨gb273, 0, none⟩ (.slice Ao71 t266.length co71)).setCell ⟨gb273, 1, none⟩ (.slice Ao77 t269.length co77)).heap[gb253]? = some (.cells #[.string a1_0, .int .u64 a1_1, .int .u64 a1_2] 42 (0, 0))) := ⟨by (with_reducible repeat (first | refine blk_drewN ?_ _ | refine blk_drew ?_ | refine blk_alloc ?_ _)); refine blk_far ?_ NB253_273.out _; (with_reducible repeat (first | refine blk_drewN ?_ _ | refine blk_drew ?_ | refine blk_alloc ?_ _)); refine blk_far ?_ NB253_273.out _; (with_reducible repeat (first | refine blk_drewN ?_ _ | refine blk_drew ?_ | refine blk_alloc ?_ _)); exact BK253.out⟩
         have n6_ : Aside0 (((w70.setCell ⟨gb273, 0, none⟩ (.slice Ao71 t266.length co71)).setCell ⟨gb273, 1, none⟩ (.slice Ao77 t269.length co77)).heap[gb257]? = some (.cells #[.string a0_0, .int .u64 (IntKind.u64.wrap (a0_1 * (IntKind.u64.wrap (a2)))), .int .u64 (IntKind.u64.wrap (a0_2 * (IntKind.u64.wrap (a2))))] 42 (0, 0))) := ⟨by (with_reducible repeat (first | refine blk_drewN ?_ _ | refine blk_drew ?_ | refine blk_alloc ?_ _)); refine blk_far ?_ NB257_273.out _; (with_reducible repeat (first | refine blk_drewN ?_ _ | refine blk_drew ?_ | refine blk_alloc ?_ _)); refine blk_far ?_ NB257_273.out _; (with_reducible repeat (first | refine blk_drewN ?_ _ | refine blk_drew ?_ | refine blk_alloc ?_ _)); exact BK257.out⟩
         have n7_ : Aside0 (((w70.setCell ⟨gb273, 0, none⟩ (.slice Ao71 t266.length co71)).setCell ⟨gb273, 1, none⟩ (.slice Ao77 t269.length co77)).heap[gb265]? = some (.cells #[.slice Ao62 t258.length co62, .slice Ao67 t261.length co67] 25 (0, 0))) := ⟨by (with_reducible repeat (first | refine blk_drewN ?_ _ | refine blk_drew ?_ | refine blk_alloc ?_ _)); refine blk_far ?_ NB265_273.out _; (with_reducible repeat (first | refine blk_drewN ?_ _ | refine blk_drew ?_ | refine blk_alloc ?_ _)); refine blk_far ?_ NB265_273.out _; (with_reducible repeat (first | refine blk_drewN ?_ _ | refine blk_drew ?_ | refine blk_alloc ?_ _)); exact BK265.out⟩
         have n8_ : Aside0 (((w70.setCell ⟨gb273, 0, none⟩ (.slice Ao71 t266.length co71)).setCell ⟨gb273, 1, none⟩ (.slice Ao77 t269.length co77)).heap[gb273]? = some (.cells #[.slice Ao71 t266.length co71, .slice Ao77 t269.length co77] 25 (0, 0))) := ⟨by (with_reducible repeat (first | refine blk_drewN ?_ _ | refine blk_drew ?_ | refine blk_alloc ?_ _)); refine blk_put (cs := #[.slice Ao71 t266.length co71, .slice none 0 0]) ?_ 1 _ rfl; (with_reducible repeat (first | refine blk_drewN ?_ _ | refine blk_drew ?_ | refine blk_alloc ?_ _)); refine blk_put (cs := #[.slice none 0 0, .slice none 0 0]) ?_ 0 _ rfl; (with_reducible repeat (first | refine blk_drewN ?_ _ | refine blk_drew ?_ | refine blk_alloc ?_ _)); exact BK273.out⟩
         have n9_ : Aside0 (Below w.heap.size w ((w70.setCell ⟨gb273, 0, none⟩ (.slice Ao71 t266.length co71)).setCell ⟨gb273, 1, none⟩ (.slice Ao77 t269.length co77))) := ⟨by repeat (first | (with_reducible first | exact HB.out | apply below_alloc | apply pw_below_drewN | apply below_drew1 | refine below_set ?_ GE252.out | refine below_set ?_ GE253.out | refine below_set ?_ GE257.out | refine below_set ?_ GE265.out | refine below_set ?_ GE273.out) | exact HB.out)⟩
         (try clear HO260)
         (try clear HO263)
         (try clear HO268)
         (try clear HO271)
         (try clear BK252)
         (try clear BK253)
         (try clear BK257)
         (try clear BK265)
         (try clear BK273)
         (try clear HB)
         generalize ((w70.setCell ⟨gb273, 0, none⟩ (.slice Ao71 t266.length co71)).setCell ⟨gb273, 1, none⟩ (.slice Ao77 t269.length co77)) = w78 at n0_ n1_ n2_ n3_ n4_ n5_ n6_ n7_ n8_ n9_ ⊢
         have HO260 := n0_
         have HO263 := n1_
         have HO268 := n2_
         have HO271 := n3_
         have BK252 := n4_
         have BK253 := n5_
         have BK257 := n6_
         have BK265 := n7_
         have BK273 := n8_
         have HB := n9_
         clear n0_ n1_ n2_ n3_ n4_ n5_ n6_ n7_ n8_ n9_
         have n0_ := Aside0.mk (Kd.R_drew HO260.out)
         have n1_ := Aside0.mk (Kd.R_drew HO263.out)
         have n2_ := Aside0.mk (Kd.R_drew HO268.out)
         have n3_ := Aside0.mk (Kd.R_drew HO271.out)
         have n4_ := Aside0.mk (blk_drew BK252.out)
         have n5_ := Aside0.mk (blk_drew BK253.out)
         have n6_ := Aside0.mk (blk_drew BK257.out)
         have n7_ := Aside0.mk (blk_drew BK265.out)
         have n8_ := Aside0.mk (blk_drew BK273.out)
         have n9_ := Aside0.mk (below_drew1 HB.out)
         clear HO260
         clear HO263
         clear HO268
         clear HO271
         clear BK252
         clear BK253
         clear BK257
         clear BK265
         clear BK273
         clear HB
         have HO260 := n0_
         have HO263 := n1_
         have HO268 := n2_
         have HO271 := n3_
         have BK252 := n4_
         have BK253 := n5_
         have BK257 := n6_
         have BK265 := n7_
         have BK273 := n8_
         have HB := n9_
         clear n0_ n1_ n2_ n3_ n4_ n5_ n6_ n7_ n8_ n9_
         refine start_ (n := 30) (S := fun w' => w'.cell? ⟨gb257, 0, none⟩ = some (.string a0_0) ∧ w'.cell? ⟨gb257, 1, none⟩ = some (.int .u64 (IntKind.u64.wrap (a0_1 * (IntKind.u64.wrap (a2))))) ∧ w'.cell? ⟨gb257, 2, none⟩ = some (.int .u64 (IntKind.u64.wrap (a0_2 * (IntKind.u64.wrap (a2))))) ∧ w'.cell? ⟨gb253, 0, none⟩ = some (.string a1_0) ∧ w'.cell? ⟨gb253, 1, none⟩ = some (.int .u64 a1_1) ∧ w'.cell? ⟨gb253, 2, none⟩ = some (.int .u64 a1_2) ∧ w'.cell? ⟨gb252, 0, none⟩ = some (.string a0_0) ∧ w'.cell? ⟨gb252, 1, none⟩ = some (.int .u64 a0_1) ∧ w'.cell? ⟨gb252, 2, none⟩ = some (.int .u64 a0_2) ∧ w'.cell? ⟨gb265, 0, none⟩ = some (.slice Ao62 t258.length co62) ∧ w'.cell? ⟨gb265, 1, none⟩ = some (.slice Ao67 t261.length co67) ∧ w'.cell? ⟨gb273, 0, none⟩ = some (.slice Ao71 t266.length co71) ∧ w'.cell? ⟨gb273, 1, none⟩ = some (.slice Ao77 t269.length co77)) (ds := []) #[false, false, false, false, false, false, false, false, false, false, false, false, false, false, false, false, false, false, false, false, false, false, false, false, false, false, false, false, false, false] (by kernel_rfl) rfl rfl ⟨(blk_cell BK257.out 0).trans rfl, (blk_cell BK257.out 1).trans rfl, (blk_cell BK257.out 2).trans rfl, (blk_cell BK253.out 0).trans rfl, (blk_cell BK253.out 1).trans rfl, (blk_cell BK253.out 2).trans rfl, (blk_cell BK252.out 0).trans rfl, (blk_cell BK252.out 1).trans rfl, (blk_cell BK252.out 2).trans rfl, (blk_cell BK265.out 0).trans rfl, (blk_cell BK265.out 1).trans rfl, (blk_cell BK273.out 0).trans rfl, (blk_cell BK273.out 1).trans rfl⟩ (fun hHeld => ?_); refine with_tabW samphirelaw10_RankScale.tab6 samphirelaw10_RankScale.bits6 (fun HT_ HW_ => ?_)
         generalize w78.drew = w79 at HO260 HO263 HO268 HO271 BK252 BK253 BK257 BK265 BK273 HB hHeld ⊢
         refine take_ (i := 0) (N := some 58) (v := ?_) (a' := ?_) #[true, false, false, false, false, false, false, false, false, false, false, false, false, false, false, false, false, false, false, false, false, false, false, false, false, false, false, false, false, false] rfl rfl (take_ofW HT_.out HW_.out (by kernel_rfl)) (fun _ _ _ h => h) (Or.inl ⟨by rfl, ?_⟩) hHeld ?_ ?_
         rotate_left
         ·rintro w' ⟨s0, s1, s2, s3, s4, s5, s6, s7, s8, s9, s10, s11, s12⟩
          go_simp
          with_reducible rfl
         rotate_left
         ·simp only [Act.put, List.setIfInBounds_toArray, List.set_cons_zero, List.set_cons_succ, i64_w, i32_w]
          rfl
         refine take_ (i := 1) (N := some 59) (v := ?_) (a' := ?_) #[true, true, false, false, false, false, false, false, false, false, false, false, false, false, false, false, false, false, false, false, false, false, false, false, false, false, false, false, false, false] rfl rfl (take_ofW HT_.out HW_.out (by kernel_rfl)) (fun _ _ _ h => h) (Or.inl ⟨by rfl, ?_⟩) hHeld ?_ ?_
         rotate_left
         ·rintro w' ⟨s0, s1, s2, s3, s4, s5, s6, s7, s8, s9, s10, s11, s12⟩
          go_simp
          with_reducible rfl
         rotate_left
         ·simp only [Act.put, List.setIfInBounds_toArray, List.set_cons_zero, List.set_cons_succ, i64_w, i32_w]
          rfl
         refine take_ (i := 3) (N := some 61) (v := ?_) (a' := ?_) #[true, true, false, true, false, false, false, false, false, false, false, false, false, false, false, false, false, false, false, false, false, false, false, false, false, false, false, false, false, false] rfl rfl (take_ofW HT_.out HW_.out (by kernel_rfl)) (fun _ _ _ h => h) (Or.inl ⟨by rfl, ?_⟩) hHeld ?_ ?_
         rotate_left
         ·rintro w' ⟨s0, s1, s2, s3, s4, s5, s6, s7, s8, s9, s10, s11, s12⟩
          go_simp
          with_reducible rfl
         rotate_left
         ·simp only [Act.put, List.setIfInBounds_toArray, List.set_cons_zero, List.set_cons_succ, i64_w, i32_w]
          rfl
         refine take_ (i := 4) (N := some 62) (v := ?_) (a' := ?_) #[true, true, false, true, true, false, false, false, false, false, false, false, false, false, false, false, false, false, false, false, false, false, false, false, false, false, false, false, false, false] rfl rfl (take_ofW HT_.out HW_.out (by kernel_rfl)) (fun _ _ _ h => h) (Or.inl ⟨by rfl, ?_⟩) hHeld ?_ ?_
         rotate_left
         ·rintro w' ⟨s0, s1, s2, s3, s4, s5, s6, s7, s8, s9, s10, s11, s12⟩
          go_simp
          with_reducible rfl
         rotate_left
         ·simp only [Act.put, List.setIfInBounds_toArray, List.set_cons_zero, List.set_cons_succ, i64_w, i32_w]
          rfl
         refine one_ (i := 2) (N := some 60) #[true, true, true, true, true, false, false, false, false, false, false, false, false, false, false, false, false, false, false, false, false, false, false, false, false, false, false, false, false, false] rfl rfl (one_of HT_.out (by kernel_rfl)) (by decide) (fun K hK => ?_)
         refine goes_ Tryd.func34 (by kernel_rfl) rfl #[.agg #[.string a0_0, .int .u64 (IntKind.u64.wrap (a0_1 * (IntKind.u64.wrap (a2)))), .int .u64 (IntKind.u64.wrap (a0_2 * (IntKind.u64.wrap (a2))))], .agg #[.string a1_0, .int .u64 a1_1, .int .u64 a1_2]] (by rfl) rfl rfl (by (try simp only [List.map_toArray, List.map_cons, List.map_nil]); first | done | rfl | (simp only [List.length_drop, List.length_take]; rfl)) ?_
         with_reducible refine (rank_Cmp.calls kj3 a0_0 (IntKind.u64.wrap (a0_1 * (IntKind.u64.wrap (a2)))) (IntKind.u64.wrap (a0_2 * (IntKind.u64.wrap (a2)))) a1_0 a1_1 a1_2 t274 _ A43.out).mono ?_
         rintro e w80 ⟨rfl, hb⟩
         refine ⟨_, rfl, ?_⟩
         have n0_ := Aside0.mk (Kd.R_below (by (with_reducible repeat (first | apply Kd.R_alloc | apply Kd.R_drewN | apply Kd.R_drew)); exact HO260.out) hb)
         have n1_ := Aside0.mk (Kd.R_below (by (with_reducible repeat (first | apply Kd.R_alloc | apply Kd.R_drewN | apply Kd.R_drew)); exact HO263.out) hb)
         have n2_ := Aside0.mk (Kd.R_below (by (with_reducible repeat (first | apply Kd.R_alloc | apply Kd.R_drewN | apply Kd.R_drew)); exact HO268.out) hb)
         have n3_ := Aside0.mk (Kd.R_below (by (with_reducible repeat (first | apply Kd.R_alloc | apply Kd.R_drewN | apply Kd.R_drew)); exact HO271.out) hb)
         have n4_ := Aside0.mk (blk_below (g := gb252) (o := .cells #[.string a0_0, .int .u64 a0_1, .int .u64 a0_2] 42 (0, 0)) (by (with_reducible repeat (first | refine blk_drewN ?_ _ | refine blk_drew ?_ | refine blk_alloc ?_ _)); exact BK252.out) hb)
         have n5_ := Aside0.mk (blk_below (g := gb253) (o := .cells #[.string a1_0, .int .u64 a1_1, .int .u64 a1_2] 42 (0, 0)) (by (with_reducible repeat (first | refine blk_drewN ?_ _ | refine blk_drew ?_ | refine blk_alloc ?_ _)); exact BK253.out) hb)
         have n6_ := Aside0.mk (blk_below (g := gb257) (o := .cells #[.string a0_0, .int .u64 (IntKind.u64.wrap (a0_1 * (IntKind.u64.wrap (a2)))), .int .u64 (IntKind.u64.wrap (a0_2 * (IntKind.u64.wrap (a2))))] 42 (0, 0)) (by (with_reducible repeat (first | refine blk_drewN ?_ _ | refine blk_drew ?_ | refine blk_alloc ?_ _)); exact BK257.out) hb)
         have n7_ := Aside0.mk (blk_below (g := gb265) (o := .cells #[.slice Ao62 t258.length co62, .slice Ao67 t261.length co67] 25 (0, 0)) (by (with_reducible repeat (first | refine blk_drewN ?_ _ | refine blk_drew ?_ | refine blk_alloc ?_ _)); exact BK265.out) hb)
         have n8_ := Aside0.mk (blk_below (g := gb273) (o := .cells #[.slice Ao71 t266.length co71, .slice Ao77 t269.length co77] 25 (0, 0)) (by (with_reducible repeat (first | refine blk_drewN ?_ _ | refine blk_drew ?_ | refine blk_alloc ?_ _)); exact BK273.out) hb)
         have n9_ := Aside0.mk (below_step (by repeat (first | (with_reducible first | exact HB.out | apply below_alloc | apply pw_below_drewN | apply below_drew1 | refine below_set ?_ GE252.out | refine below_set ?_ GE253.out | refine below_set ?_ GE257.out | refine below_set ?_ GE265.out | refine below_set ?_ GE273.out) | exact HB.out)) hb)
         clear HO260
         clear HO263
         clear HO268
         clear HO271
         clear BK252
         clear BK253
         clear BK257
         clear BK265
         clear BK273
         clear HB
         have HO260 := n0_
         have HO263 := n1_
         have HO268 := n2_
         have HO271 := n3_
         have BK252 := n4_
         have BK253 := n5_
         have BK257 := n6_
         have BK265 := n7_
         have BK273 := n8_
         have HB := n9_
         clear n0_ n1_ n2_ n3_ n4_ n5_ n6_ n7_ n8_ n9_
         (try clear hb)
         (try clear hb2)
         (try clear hk)
         (try clear hi)
         refine hK.out _ _ ⟨(blk_cell BK257.out 0).trans rfl, (blk_cell BK257.out 1).trans rfl, (blk_cell BK257.out 2).trans rfl, (blk_cell BK253.out 0).trans rfl, (blk_cell BK253.out 1).trans rfl, (blk_cell BK253.out 2).trans rfl, (blk_cell BK252.out 0).trans rfl, (blk_cell BK252.out 1).trans rfl, (blk_cell BK252.out 2).trans rfl, (blk_cell BK265.out 0).trans rfl, (blk_cell BK265.out 1).trans rfl, (blk_cell BK273.out 0).trans rfl, (blk_cell BK273.out 1).trans rfl⟩ (fun hHeld => ?_)
         clear hK K
         refine norm_ (a' := ?_) ?_ ?_
         rotate_left
         ·show Act.put _ (some 60) _ = _
          simp only [Act.put, List.setIfInBounds_toArray, List.set_cons_zero, List.set_cons_succ, i64_w, i32_w]
          rfl
         refine one_ (i := 5) (N := some 63) #[true, true, true, true, true, true, false, false, false, false, false, false, false, false, false, false, false, false, false, false, false, false, false, false, false, false, false, false, false, false] rfl rfl (one_of HT_.out (by kernel_rfl)) (by decide) (fun K hK => ?_)
         refine goes_ Tryd.func34 (by kernel_rfl) rfl #[.agg #[.string a0_0, .int .u64 a0_1, .int .u64 a0_2], .agg #[.string a1_0, .int .u64 a1_1, .int .u64 a1_2]] (by rfl) rfl rfl (by (try simp only [List.map_toArray, List.map_cons, List.map_nil]); first | done | rfl | (simp only [List.length_drop, List.length_take]; rfl)) ?_
         with_reducible refine (rank_Cmp.calls kj3 a0_0 a0_1 a0_2 a1_0 a1_1 a1_2 t275 _ A44.out).mono ?_
         rintro e w81 ⟨rfl, hb⟩
         refine ⟨_, rfl, ?_⟩
         have n0_ := Aside0.mk (Kd.R_below (by (with_reducible repeat (first | apply Kd.R_alloc | apply Kd.R_drewN | apply Kd.R_drew)); exact HO260.out) hb)
         have n1_ := Aside0.mk (Kd.R_below (by (with_reducible repeat (first | apply Kd.R_alloc | apply Kd.R_drewN | apply Kd.R_drew)); exact HO263.out) hb)
         have n2_ := Aside0.mk (Kd.R_below (by (with_reducible repeat (first | apply Kd.R_alloc | apply Kd.R_drewN | apply Kd.R_drew)); exact HO268.out) hb)
         have n3_ := Aside0.mk (Kd.R_below (by (with_reducible repeat (first | apply Kd.R_alloc | apply Kd.R_drewN | apply Kd.R_drew)); exact HO271.out) hb)
         have n4_ := Aside0.mk (blk_below (g := gb252) (o := .cells #[.string a0_0, .int .u64 a0_1, .int .u64 a0_2] 42 (0, 0)) (by (with_reducible repeat (first | refine blk_drewN ?_ _ | refine blk_drew ?_ | refine blk_alloc ?_ _)); exact BK252.out) hb)
         have n5_ := Aside0.mk (blk_below (g := gb253) (o := .cells #[.string a1_0, .int .u64 a1_1, .int .u64 a1_2] 42 (0, 0)) (by (with_reducible repeat (first | refine blk_drewN ?_ _ | refine blk_drew ?_ | refine blk_alloc ?_ _)); exact BK253.out) hb)
         have n6_ := Aside0.mk (blk_below (g := gb257) (o := .cells #[.string a0_0, .int .u64 (IntKind.u64.wrap (a0_1 * (IntKind.u64.wrap (a2)))), .int .u64 (IntKind.u64.wrap (a0_2 * (IntKind.u64.wrap (a2))))] 42 (0, 0)) (by (with_reducible repeat (first | refine blk_drewN ?_ _ | refine blk_drew ?_ | refine blk_alloc ?_ _)); exact BK257.out) hb)
         have n7_ := Aside0.mk (blk_below (g := gb265) (o := .cells #[.slice Ao62 t258.length co62, .slice Ao67 t261.length co67] 25 (0, 0)) (by (with_reducible repeat (first | refine blk_drewN ?_ _ | refine blk_drew ?_ | refine blk_alloc ?_ _)); exact BK265.out) hb)
         have n8_ := Aside0.mk (blk_below (g := gb273) (o := .cells #[.slice Ao71 t266.length co71, .slice Ao77 t269.length co77] 25 (0, 0)) (by (with_reducible repeat (first | refine blk_drewN ?_ _ | refine blk_drew ?_ | refine blk_alloc ?_ _)); exact BK273.out) hb)
         have n9_ := Aside0.mk (below_step (by repeat (first | (with_reducible first | exact HB.out | apply below_alloc | apply pw_below_drewN | apply below_drew1 | refine below_set ?_ GE252.out | refine below_set ?_ GE253.out | refine below_set ?_ GE257.out | refine below_set ?_ GE265.out | refine below_set ?_ GE273.out) | exact HB.out)) hb)
         clear HO260
         clear HO263
         clear HO268
         clear HO271
         clear BK252
         clear BK253
         clear BK257
         clear BK265
         clear BK273
         clear HB
         have HO260 := n0_
         have HO263 := n1_
         have HO268 := n2_
         have HO271 := n3_
         have BK252 := n4_
         have BK253 := n5_
         have BK257 := n6_
         have BK265 := n7_
         have BK273 := n8_
         have HB := n9_
         clear n0_ n1_ n2_ n3_ n4_ n5_ n6_ n7_ n8_ n9_
         (try clear hb)
         (try clear hb2)
         (try clear hk)
         (try clear hi)
         refine hK.out _ _ ⟨(blk_cell BK257.out 0).trans rfl, (blk_cell BK257.out 1).trans rfl, (blk_cell BK257.out 2).trans rfl, (blk_cell BK253.out 0).trans rfl, (blk_cell BK253.out 1).trans rfl, (blk_cell BK253.out 2).trans rfl, (blk_cell BK252.out 0).trans rfl, (blk_cell BK252.out 1).trans rfl, (blk_cell BK252.out 2).trans rfl, (blk_cell BK265.out 0).trans rfl, (blk_cell BK265.out 1).trans rfl, (blk_cell BK273.out 0).trans rfl, (blk_cell BK273.out 1).trans rfl⟩ (fun hHeld => ?_)
         clear hK K
         refine norm_ (a' := ?_) ?_ ?_
         rotate_left
         ·show Act.put _ (some 63) _ = _
          simp only [Act.put, List.setIfInBounds_toArray, List.set_cons_zero, List.set_cons_succ, i64_w, i32_w]
          rfl
         refine pure_ (i := 6) (N := some 64) (v := ?_) (a' := ?_) #[true, true, true, true, true, true, true, false, false, false, false, false, false, false, false, false, false, false, false, false, false, false, false, false, false, false, false, false, false, false] rfl rfl (any_of HT_.out (by kernel_rfl)) (fun _ _ _ h => h) (Or.inl ⟨by rfl, ?_⟩) ?_ ?_
         rotate_left
         ·intro w'
          go_simp
          with_reducible rfl
         rotate_left
         ·simp only [Act.put, List.setIfInBounds_toArray, List.set_cons_zero, List.set_cons_succ, i64_w, i32_w]
          rfl
         refine pure_ (i := 7) (N := some 65) (v := ?_) (a' := ?_) #[true, true, true, true, true, true, true, true, false, false, false, false, false, false, false, false, false, false, false, false, false, false, false, false, false, false, false, false, false, false] rfl rfl (any_of HT_.out (by kernel_rfl)) (fun _ _ _ h => h) (Or.inl ⟨by rfl, ?_⟩) ?_ ?_
         rotate_left
         ·intro w'
          go_simp
          with_reducible rfl
         rotate_left
         ·simp only [Act.put, List.setIfInBounds_toArray, List.set_cons_zero, List.set_cons_succ, i64_w, i32_w]
          rfl
         refine take_ (i := 8) (N := some 66) (v := ?_) (a' := ?_) #[true, true, true, true, true, true, true, true, true, false, false, false, false, false, false, false, false, false, false, false, false, false, false, false, false, false, false, false, false, false] rfl rfl (take_ofW HT_.out HW_.out (by kernel_rfl)) (fun _ _ _ h => h) (Or.inl ⟨by rfl, ?_⟩) hHeld ?_ ?_
         rotate_left
         ·rintro w' ⟨s0, s1, s2, s3, s4, s5, s6, s7, s8, s9, s10, s11, s12⟩
          go_simp
          with_reducible rfl
         rotate_left
         ·simp only [Act.put, List.setIfInBounds_toArray, List.set_cons_zero, List.set_cons_succ, i64_w, i32_w]
          rfl
         refine take_ (i := 9) (N := some 67) (v := ?_) (a' := ?_) #[true, true, true, true, true, true, true, true, true, true, false, false, false, false, false, false, false, false, false, false, false, false, false, false, false, false, false, false, false, false] rfl rfl (take_ofW HT_.out HW_.out (by kernel_rfl)) (fun _ _ _ h => h) (Or.inl ⟨by rfl, ?_⟩) hHeld ?_ ?_
         rotate_left
         ·rintro w' ⟨s0, s1, s2, s3, s4, s5, s6, s7, s8, s9, s10, s11, s12⟩
          go_simp
          with_reducible rfl
         rotate_left
         ·simp only [Act.put, List.setIfInBounds_toArray, List.set_cons_zero, List.set_cons_succ, i64_w, i32_w]
          rfl
         refine one_ (i := 10) (N := some 68) #[true, true, true, true, true, true, true, true, true, true, true, false, false, false, false, false, false, false, false, false, false, false, false, false, false, false, false, false, false, false] rfl rfl (one_of HT_.out (by kernel_rfl)) (by decide) (fun K hK => ?_)
         refine goes_ Tryd.func34 (by kernel_rfl) rfl #[.agg #[.string a0_0, .int .u64 a0_1, .int .u64 a0_2], .agg #[.string a0_0, .int .u64 (IntKind.u64.wrap (a0_1 * (IntKind.u64.wrap (a2)))), .int .u64 (IntKind.u64.wrap (a0_2 * (IntKind.u64.wrap (a2))))]] (by rfl) rfl rfl (by (try simp only [List.map_toArray, List.map_cons, List.map_nil]); first | done | rfl | (simp only [List.length_drop, List.length_take]; rfl)) ?_
         with_reducible refine (rank_Cmp.calls kj3 a0_0 a0_1 a0_2 a0_0 (IntKind.u64.wrap (a0_1 * (IntKind.u64.wrap (a2)))) (IntKind.u64.wrap (a0_2 * (IntKind.u64.wrap (a2)))) t276 _ A46.out).mono ?_
         rintro e w82 ⟨rfl, hb⟩
         refine ⟨_, rfl, ?_⟩
         have n0_ := Aside0.mk (Kd.R_below (by (with_reducible repeat (first | apply Kd.R_alloc | apply Kd.R_drewN | apply Kd.R_drew)); exact HO260.out) hb)
         have n1_ := Aside0.mk (Kd.R_below (by (with_reducible repeat (first | apply Kd.R_alloc | apply Kd.R_drewN | apply Kd.R_drew)); exact HO263.out) hb)
         have n2_ := Aside0.mk (Kd.R_below (by (with_reducible repeat (first | apply Kd.R_alloc | apply Kd.R_drewN | apply Kd.R_drew)); exact HO268.out) hb)
         have n3_ := Aside0.mk (Kd.R_below (by (with_reducible repeat (first | apply Kd.R_alloc | apply Kd.R_drewN | apply Kd.R_drew)); exact HO271.out) hb)
         have n4_ := Aside0.mk (blk_below (g := gb252) (o := .cells #[.string a0_0, .int .u64 a0_1, .int .u64 a0_2] 42 (0, 0)) (by (with_reducible repeat (first | refine blk_drewN ?_ _ | refine blk_drew ?_ | refine blk_alloc ?_ _)); exact BK252.out) hb)
         have n5_ := Aside0.mk (blk_below (g := gb253) (o := .cells #[.string a1_0, .int .u64 a1_1, .int .u64 a1_2] 42 (0, 0)) (by (with_reducible repeat (first | refine blk_drewN ?_ _ | refine blk_drew ?_ | refine blk_alloc ?_ _)); exact BK253.out) hb)
         have n6_ := Aside0.mk (blk_below (g := gb257) (o := .cells #[.string a0_0, .int .u64 (IntKind.u64.wrap (a0_1 * (IntKind.u64.wrap (a2)))), .int .u64 (IntKind.u64.wrap (a0_2 * (IntKind.u64.wrap (a2))))] 42 (0, 0)) (by (with_reducible repeat (first | refine blk_drewN ?_ _ | refine blk_drew ?_ | refine blk_alloc ?_ _)); exact BK257.out) hb)
         have n7_ := Aside0.mk (blk_below (g := gb265) (o := .cells #[.slice Ao62 t258.length co62, .slice Ao67 t261.length co67] 25 (0, 0)) (by (with_reducible repeat (first | refine blk_drewN ?_ _ | refine blk_drew ?_ | refine blk_alloc ?_ _)); exact BK265.out) hb)
         have n8_ := Aside0.mk (blk_below (g := gb273) (o := .cells #[.slice Ao71 t266.length co71, .slice Ao77 t269.length co77] 25 (0, 0)) (by (with_reducible repeat (first | refine blk_drewN ?_ _ | refine blk_drew ?_ | refine blk_alloc ?_ _)); exact BK273.out) hb)
         have n9_ := Aside0.mk (below_step (by repeat (first | (with_reducible first | exact HB.out | apply below_alloc | apply pw_below_drewN | apply below_drew1 | refine below_set ?_ GE252.out | refine below_set ?_ GE253.out | refine below_set ?_ GE257.out | refine below_set ?_ GE265.out | refine below_set ?_ GE273.out) | exact HB.out)) hb)
         clear HO260
         clear HO263
         clear HO268
         clear HO271
         clear BK252
         clear BK253
         clear BK257
         clear BK265
         clear BK273
         clear HB
         have HO260 := n0_
         have HO263 := n1_
         have HO268 := n2_
         have HO271 := n3_
         have BK252 := n4_
         have BK253 := n5_
         have BK257 := n6_
         have BK265 := n7_
         have BK273 := n8_
         have HB := n9_
         clear n0_ n1_ n2_ n3_ n4_ n5_ n6_ n7_ n8_ n9_
         (try clear hb)
         (try clear hb2)
         (try clear hk)
         (try clear hi)
         refine hK.out _ _ ⟨(blk_cell BK257.out 0).trans rfl, (blk_cell BK257.out 1).trans rfl, (blk_cell BK257.out 2).trans rfl, (blk_cell BK253.out 0).trans rfl, (blk_cell BK253.out 1).trans rfl, (blk_cell BK253.out 2).trans rfl, (blk_cell BK252.out 0).trans rfl, (blk_cell BK252.out 1).trans rfl, (blk_cell BK252.out 2).trans rfl, (blk_cell BK265.out 0).trans rfl, (blk_cell BK265.out 1).trans rfl, (blk_cell BK273.out 0).trans rfl, (blk_cell BK273.out 1).trans rfl⟩ (fun hHeld => ?_)
         clear hK K
         refine norm_ (a' := ?_) ?_ ?_
         rotate_left
         ·show Act.put _ (some 68) _ = _
          simp only [Act.put, List.setIfInBounds_toArray, List.set_cons_zero, List.set_cons_succ, i64_w, i32_w]
          rfl
         refine pure_ (i := 11) (N := some 69) (v := ?_) (a' := ?_) #[true, true, true, true, true, true, true, true, true, true, true, true, false, false, false, false, false, false, false, false, false, false, false, false, false, false, false, false, false, false] rfl rfl (any_of HT_.out (by kernel_rfl)) (fun _ _ _ h => h) (Or.inl ⟨by rfl, ?_⟩) ?_ ?_
         rotate_left
         ·intro w'
          go_simp
          with_reducible rfl
         rotate_left
         ·simp only [Act.put, List.setIfInBounds_toArray, List.set_cons_zero, List.set_cons_succ, i64_w, i32_w]
          rfl
         refine pure_ (i := 12) (N := some 70) (v := ?_) (a' := ?_) #[true, true, true, true, true, true, true, true, true, true, true, true, true, false, false, false, false, false, false, false, false, false, false, false, false, false, false, false, false, false] rfl rfl (any_of HT_.out (by kernel_rfl)) (fun _ _ _ h => h) (Or.inl ⟨by rfl, ?_⟩) ?_ ?_
         rotate_left
         ·intro w'
          go_simp
          with_reducible rfl
         rotate_left
         ·simp only [Act.put, List.setIfInBounds_toArray, List.set_cons_zero, List.set_cons_succ, i64_w, i32_w]
          rfl
         refine pure_ (i := 13) (N := some 71) (v := ?_) (a' := ?_) #[true, true, true, true, true, true, true, true, true, true, true, true, true, true, false, false, false, false, false, false, false, false, false, false, false, false, false, false, false, false] rfl rfl (any_of HT_.out (by kernel_rfl)) (fun _ _ _ h => h) (Or.inl ⟨by rfl, ?_⟩) ?_ ?_
         rotate_left
         ·intro w'
          go_simp
          with_reducible rfl
         rotate_left
         ·simp only [Act.put, List.setIfInBounds_toArray, List.set_cons_zero, List.set_cons_succ, i64_w, i32_w]
          rfl
         refine pure_ (i := 14) (N := some 72) (v := ?_) (a' := ?_) #[true, true, true, true, true, true, true, true, true, true, true, true, true, true, true, false, false, false, false, false, false, false, false, false, false, false, false, false, false, false] rfl rfl (any_of HT_.out (by kernel_rfl)) (fun _ _ _ h => h) (Or.inl ⟨by rfl, ?_⟩) ?_ ?_
         rotate_left
         ·intro w'
          go_simp
          with_reducible rfl
         rotate_left
         ·simp only [Act.put, List.setIfInBounds_toArray, List.set_cons_zero, List.set_cons_succ, i64_w, i32_w]
          rfl
         refine pure_ (i := 15) (N := some 73) (v := ?_) (a' := ?_) #[true, true, true, true, true, true, true, true, true, true, true, true, true, true, true, true, false, false, false, false, false, false, false, false, false, false, false, false, false, false] rfl rfl (any_of HT_.out (by kernel_rfl)) (fun _ _ _ h => h) (Or.inl ⟨by rfl, ?_⟩) ?_ ?_
         rotate_left
         ·intro w'
          go_simp
          with_reducible rfl
         rotate_left
         ·simp only [Act.put, List.setIfInBounds_toArray, List.set_cons_zero, List.set_cons_succ, i64_w, i32_w]
          rfl
         refine pure_ (i := 16) (N := some 74) (v := ?_) (a' := ?_) #[true, true, true, true, true, true, true, true, true, true, true, true, true, true, true, true, true, false, false, false, false, false, false, false, false, false, false, false, false, false] rfl rfl (any_of HT_.out (by kernel_rfl)) (fun _ _ _ h => h) (Or.inl ⟨by rfl, ?_⟩) ?_ ?_
         rotate_left
         ·intro w'
          go_simp
          with_reducible rfl
         rotate_left
         ·simp only [Act.put, List.setIfInBounds_toArray, List.set_cons_zero, List.set_cons_succ, i64_w, i32_w]
          rfl
         refine pure_ (i := 17) (N := some 75) (v := ?_) (a' := ?_) #[true, true, true, true, true, true, true, true, true, true, true, true, true, true, true, true, true, true, false, false, false, false, false, false, false, false, false, false, false, false] rfl rfl (any_of HT_.out (by kernel_rfl)) (fun _ _ _ h => h) (Or.inl ⟨by rfl, ?_⟩) ?_ ?_
         rotate_left
         ·intro w'
          go_simp
          with_reducible rfl
         rotate_left
         ·simp only [Act.put, List.setIfInBounds_toArray, List.set_cons_zero, List.set_cons_succ, i64_w, i32_w]
          rfl
         refine pure_ (i := 18) (N := some 76) (v := ?_) (a' := ?_) #[true, true, true, true, true, true, true, true, true, true, true, true, true, true, true, true, true, true, true, false, false, false, false, false, false, false, false, false, false, false] rfl rfl (any_of HT_.out (by kernel_rfl)) (fun _ _ _ h => h) (Or.inl ⟨by rfl, ?_⟩) ?_ ?_
         rotate_left
         ·intro w'
          go_simp
          with_reducible rfl
         rotate_left
         ·simp only [Act.put, List.setIfInBounds_toArray, List.set_cons_zero, List.set_cons_succ, i64_w, i32_w]
          rfl
         refine pure_ (i := 19) (N := some 77) (v := ?_) (a' := ?_) #[true, true, true, true, true, true, true, true, true, true, true, true, true, true, true, true, true, true, true, true, false, false, false, false, false, false, false, false, false, false] rfl rfl (any_of HT_.out (by kernel_rfl)) (fun _ _ _ h => h) (Or.inl ⟨by rfl, ?_⟩) ?_ ?_
         rotate_left
         ·intro w'
          go_simp
          with_reducible rfl
         rotate_left
         ·simp only [Act.put, List.setIfInBounds_toArray, List.set_cons_zero, List.set_cons_succ, i64_w, i32_w]
          rfl
         refine pure_ (i := 20) (N := some 78) (v := ?_) (a' := ?_) #[true, true, true, true, true, true, true, true, true, true, true, true, true, true, true, true, true, true, true, true, true, false, false, false, false, false, false, false, false, false] rfl rfl (any_of HT_.out (by kernel_rfl)) (fun _ _ _ h => h) (Or.inl ⟨by rfl, ?_⟩) ?_ ?_
         rotate_left
         ·intro w'
          go_simp
          with_reducible rfl
         rotate_left
         ·simp only [Act.put, List.setIfInBounds_toArray, List.set_cons_zero, List.set_cons_succ, i64_w, i32_w]
          rfl
         refine pure_ (i := 21) (N := some 79) (v := ?_) (a' := ?_) #[true, true, true, true, true, true, true, true, true, true, true, true, true, true, true, true, true, true, true, true, true, true, false, false, false, false, false, false, false, false] rfl rfl (any_of HT_.out (by kernel_rfl)) (fun _ _ _ h => h) (Or.inl ⟨by rfl, ?_⟩) ?_ ?_
         rotate_left
         ·intro w'
          go_simp
          with_reducible rfl
         rotate_left
         ·simp only [Act.put, List.setIfInBounds_toArray, List.set_cons_zero, List.set_cons_succ, i64_w, i32_w]
          rfl
         refine take_ (i := 22) (N := some 80) (v := ?_) (a' := ?_) #[true, true, true, true, true, true, true, true, true, true, true, true, true, true, true, true, true, true, true, true, true, true, true, false, false, false, false, false, false, false] rfl rfl (take_ofW HT_.out HW_.out (by kernel_rfl)) (fun _ _ _ h => h) (Or.inl ⟨by rfl, ?_⟩) hHeld ?_ ?_
         rotate_left
         ·rintro w' ⟨s0, s1, s2, s3, s4, s5, s6, s7, s8, s9, s10, s11, s12⟩
          go_simp
          with_reducible rfl
         rotate_left
         ·simp only [Act.put, List.setIfInBounds_toArray, List.set_cons_zero, List.set_cons_succ, i64_w, i32_w]
          rfl
         refine take_ (i := 23) (N := some 81) (v := ?_) (a' := ?_) #[true, true, true, true, true, true, true, true, true, true, true, true, true, true, true, true, true, true, true, true, true, true, true, true, false, false, false, false, false, false] rfl rfl (take_ofW HT_.out HW_.out (by kernel_rfl)) (fun _ _ _ h => h) (Or.inl ⟨by rfl, ?_⟩) hHeld ?_ ?_
         rotate_left
         ·rintro w' ⟨s0, s1, s2, s3, s4, s5, s6, s7, s8, s9, s10, s11, s12⟩
          go_simp
          with_reducible rfl
         rotate_left
         ·simp only [Act.put, List.setIfInBounds_toArray, List.set_cons_zero, List.set_cons_succ, i64_w, i32_w]
          rfl
         refine one_ (i := 24) (N := some 82) #[true, true, true, true, true, true, true, true, true, true, true, true, true, true, true, true, true, true, true, true, true, true, true, true, true, false, false, false, false, false] rfl rfl (one_of HT_.out (by kernel_rfl)) (by decide) (fun K hK => ?_)
         refine goes_ Tryd.func37 (by kernel_rfl) rfl #[.agg #[.slice Ao62 t258.length co62, .slice Ao67 t261.length co67], .agg #[.slice Ao71 t266.length co71, .slice Ao77 t269.length co77]] (by rfl) rfl rfl (by (try simp only [List.map_toArray, List.map_cons, List.map_nil]); first | done | rfl | (simp only [List.length_drop, List.length_take]; rfl)) ?_
         with_reducible refine (samphireref03_Same.calls kj3 _ _ t258 _ _ t261 _ _ t266 _ _ t269 true _ ?side1 ?side2 ?side3 ?side4 ?side5 ?side6 ?side7 ?side8 A50.out).mono ?_
         (case side1 => repeat (first | exact (Kd.R_reads' HO260.out).2.2 | (with_reducible refine Kd.C_alloc ?_ _) | (with_reducible refine Kd.C_drewN ?_ _) | (with_reducible refine Kd.C_drew ?_)))
         (case side2 => exact (Kd.R_reads' HO260.out).2.1)
         (case side3 => repeat (first | exact (Kd.R_reads' HO263.out).2.2 | (with_reducible refine Kd.C_alloc ?_ _) | (with_reducible refine Kd.C_drewN ?_ _) | (with_reducible refine Kd.C_drew ?_)))
         (case side4 => exact (Kd.R_reads' HO263.out).2.1)
         (case side5 => repeat (first | exact (Kd.R_reads' HO268.out).2.2 | (with_reducible refine Kd.C_alloc ?_ _) | (with_reducible refine Kd.C_drewN ?_ _) | (with_reducible refine Kd.C_drew ?_)))
         (case side6 => exact (Kd.R_reads' HO268.out).2.1)
         (case side7 => repeat (first | exact (Kd.R_reads' HO271.out).2.2 | (with_reducible refine Kd.C_alloc ?_ _) | (with_reducible refine Kd.C_drewN ?_ _) | (with_reducible refine Kd.C_drew ?_)))
         (case side8 => exact (Kd.R_reads' HO271.out).2.1)
         rintro e w83 ⟨rfl, hb⟩
         refine ⟨_, rfl, ?_⟩
         have n0_ := Aside0.mk (Kd.R_below (by (with_reducible repeat (first | apply Kd.R_alloc | apply Kd.R_drewN | apply Kd.R_drew)); exact HO260.out) hb)
         have n1_ := Aside0.mk (Kd.R_below (by (with_reducible repeat (first | apply Kd.R_alloc | apply Kd.R_drewN | apply Kd.R_drew)); exact HO263.out) hb)
         have n2_ := Aside0.mk (Kd.R_below (by (with_reducible repeat (first | apply Kd.R_alloc | apply Kd.R_drewN | apply Kd.R_drew)); exact HO268.out) hb)
         have n3_ := Aside0.mk (Kd.R_below (by (with_reducible repeat (first | apply Kd.R_alloc | apply Kd.R_drewN | apply Kd.R_drew)); exact HO271.out) hb)
         have n4_ := Aside0.mk (blk_below (g := gb252) (o := .cells #[.string a0_0, .int .u64 a0_1, .int .u64 a0_2] 42 (0, 0)) (by (with_reducible repeat (first | refine blk_drewN ?_ _ | refine blk_drew ?_ | refine blk_alloc ?_ _)); exact BK252.out) hb)
         have n5_ := Aside0.mk (blk_below (g := gb253) (o := .cells #[.string a1_0, .int .u64 a1_1, .int .u64 a1_2] 42 (0, 0)) (by (with_reducible repeat (first | refine blk_drewN ?_ _ | refine blk_drew ?_ | refine blk_alloc ?_ _)); exact BK253.out) hb)
         have n6_ := Aside0.mk (blk_below (g := gb257) (o := .cells #[.string a0_0, .int .u64 (IntKind.u64.wrap (a0_1 * (IntKind.u64.wrap (a2)))), .int .u64 (IntKind.u64.wrap (a0_2 * (IntKind.u64.wrap (a2))))] 42 (0, 0)) (by (with_reducible repeat (first | refine blk_drewN ?_ _ | refine blk_drew ?_ | refine blk_alloc ?_ _)); exact BK257.out) hb)
         have n7_ := Aside0.mk (blk_below (g := gb265) (o := .cells #[.slice Ao62 t258.length co62, .slice Ao67 t261.length co67] 25 (0, 0)) (by (with_reducible repeat (first | refine blk_drewN ?_ _ | refine blk_drew ?_ | refine blk_alloc ?_ _)); exact BK265.out) hb)
         have n8_ := Aside0.mk (blk_below (g := gb273) (o := .cells #[.slice Ao71 t266.length co71, .slice Ao77 t269.length co77] 25 (0, 0)) (by (with_reducible repeat (first | refine blk_drewN ?_ _ | refine blk_drew ?_ | refine blk_alloc ?_ _)); exact BK273.out) hb)
         have n9_ := Aside0.mk (below_step (by repeat (first | (with_reducible first | exact HB.out | apply below_alloc | apply pw_below_drewN | apply below_drew1 | refine below_set ?_ GE252.out | refine below_set ?_ GE253.out | refine below_set ?_ GE257.out | refine below_set ?_ GE265.out | refine below_set ?_ GE273.out) | exact HB.out)) hb)
         clear HO260
         clear HO263
         clear HO268
         clear HO271
         clear BK252
         clear BK253
         clear BK257
         clear BK265
         clear BK273
         clear HB
         have HO260 := n0_
         have HO263 := n1_
         have HO268 := n2_
         have HO271 := n3_
         have BK252 := n4_
         have BK253 := n5_
         have BK257 := n6_
         have BK265 := n7_
         have BK273 := n8_
         have HB := n9_
         clear n0_ n1_ n2_ n3_ n4_ n5_ n6_ n7_ n8_ n9_
         (try clear hb)
         (try clear hb2)
         (try clear hk)
         (try clear hi)
         refine hK.out _ _ ⟨(blk_cell BK257.out 0).trans rfl, (blk_cell BK257.out 1).trans rfl, (blk_cell BK257.out 2).trans rfl, (blk_cell BK253.out 0).trans rfl, (blk_cell BK253.out 1).trans rfl, (blk_cell BK253.out 2).trans rfl, (blk_cell BK252.out 0).trans rfl, (blk_cell BK252.out 1).trans rfl, (blk_cell BK252.out 2).trans rfl, (blk_cell BK265.out 0).trans rfl, (blk_cell BK265.out 1).trans rfl, (blk_cell BK273.out 0).trans rfl, (blk_cell BK273.out 1).trans rfl⟩ (fun hHeld => ?_)
         clear hK K
         refine norm_ (a' := ?_) ?_ ?_
         rotate_left
         ·show Act.put _ (some 82) _ = _
          simp only [Act.put, List.setIfInBounds_toArray, List.set_cons_zero, List.set_cons_succ, i64_w, i32_w]
          rfl
         refine pure_ (i := 25) (N := some 83) (v := ?_) (a' := ?_) #[true, true, true, true, true, true, true, true, true, true, true, true, true, true, true, true, true, true, true, true, true, true, true, true, true, true, false, false, false, false] rfl rfl (any_of HT_.out (by kernel_rfl)) (fun _ _ _ h => h) (Or.inl ⟨by rfl, ?_⟩) ?_ ?_
         rotate_left
         ·intro w'
          go_simp
          with_reducible rfl
         rotate_left
         ·simp only [Act.put, List.setIfInBounds_toArray, List.set_cons_zero, List.set_cons_succ, i64_w, i32_w]
          rfl
         refine pure_ (i := 26) (N := some 84) (v := ?_) (a' := ?_) #[true, true, true, true, true, true, true, true, true, true, true, true, true, true, true, true, true, true, true, true, true, true, true, true, true, true, true, false, false, false] rfl rfl (any_of HT_.out (by kernel_rfl)) (fun _ _ _ h => h) (Or.inl ⟨by rfl, ?_⟩) ?_ ?_
         rotate_left
         ·intro w'
          go_simp
          with_reducible rfl
         rotate_left
         ·simp only [Act.put, List.setIfInBounds_toArray, List.set_cons_zero, List.set_cons_succ, i64_w, i32_w]
          rfl
         refine one_ (i := 27) (N := some 85) #[true, true, true, true, true, true, true, true, true, true, true, true, true, true, true, true, true, true, true, true, true, true, true, true, true, true, true, true, false, false] rfl rfl (one_of HT_.out (by kernel_rfl)) (by decide) (fun K hK => ?_)
         refine goes_ Tryd.func30 (by kernel_rfl) rfl #[] (by rfl) rfl rfl (by (try simp only [List.map_toArray, List.map_cons, List.map_nil]); first | done | rfl | (simp only [List.length_drop, List.length_take]; rfl)) ?_
         with_reducible refine (samphirelaw10_awakeg.calls  t278 _ A52.out).mono ?_
         rintro e w84 ⟨rfl, hb⟩
         refine ⟨_, rfl, ?_⟩
         have n0_ := Aside0.mk (Kd.R_below (by (with_reducible repeat (first | apply Kd.R_alloc | apply Kd.R_drewN | apply Kd.R_drew)); exact HO260.out) hb)
         have n1_ := Aside0.mk (Kd.R_below (by (with_reducible repeat (first | apply Kd.R_alloc | apply Kd.R_drewN | apply Kd.R_drew)); exact HO263.out) hb)
         have n2_ := Aside0.mk (Kd.R_below (by (with_reducible repeat (first | apply Kd.R_alloc | apply Kd.R_drewN | apply Kd.R_drew)); exact HO268.out) hb)
         have n3_ := Aside0.mk (Kd.R_below (by (with_reducible repeat (first | apply Kd.R_alloc | apply Kd.R_drewN | apply Kd.R_drew)); exact HO271.out) hb)
         have n4_ := Aside0.mk (blk_below (g := gb252) (o := .cells #[.string a0_0, .int .u64 a0_1, .int .u64 a0_2] 42 (0, 0)) (by (with_reducible repeat (first | refine blk_drewN ?_ _ | refine blk_drew ?_ | refine blk_alloc ?_ _)); exact BK252.out) hb)
         have n5_ := Aside0.mk (blk_below (g := gb253) (o := .cells #[.string a1_0, .int .u64 a1_1, .int .u64 a1_2] 42 (0, 0)) (by (with_reducible repeat (first | refine blk_drewN ?_ _ | refine blk_drew ?_ | refine blk_alloc ?_ _)); exact BK253.out) hb)
         have n6_ := Aside0.mk (blk_below (g := gb257) (o := .cells #[.string a0_0, .int .u64 (IntKind.u64.wrap (a0_1 * (IntKind.u64.wrap (a2)))), .int .u64 (IntKind.u64.wrap (a0_2 * (IntKind.u64.wrap (a2))))] 42 (0, 0)) (by (with_reducible repeat (first | refine blk_drewN ?_ _ | refine blk_drew ?_ | refine blk_alloc ?_ _)); exact BK257.out) hb)
         have n7_ := Aside0.mk (blk_below (g := gb265) (o := .cells #[.slice Ao62 t258.length co62, .slice Ao67 t261.length co67] 25 (0, 0)) (by (with_reducible repeat (first | refine blk_drewN ?_ _ | refine blk_drew ?_ | refine blk_alloc ?_ _)); exact BK265.out) hb)
         have n8_ := Aside0.mk (blk_below (g := gb273) (o := .cells #[.slice Ao71 t266.length co71, .slice Ao77 t269.length co77] 25 (0, 0)) (by (with_reducible repeat (first | refine blk_drewN ?_ _ | refine blk_drew ?_ | refine blk_alloc ?_ _)); exact BK273.out) hb)
         have n9_ := Aside0.mk (below_step (by repeat (first | (with_reducible first | exact HB.out | apply below_alloc | apply pw_below_drewN | apply below_drew1 | refine below_set ?_ GE252.out | refine below_set ?_ GE253.out | refine below_set ?_ GE257.out | refine below_set ?_ GE265.out | refine below_set ?_ GE273.out) | exact HB.out)) hb)
         clear HO260
         clear HO263
         clear HO268
         clear HO271
         clear BK252
         clear BK253
         clear BK257
         clear BK265
         clear BK273
         clear HB
         have HO260 := n0_
         have HO263 := n1_
         have HO268 := n2_
         have HO271 := n3_
         have BK252 := n4_
         have BK253 := n5_
         have BK257 := n6_
         have BK265 := n7_
         have BK273 := n8_
         have HB := n9_
         clear n0_ n1_ n2_ n3_ n4_ n5_ n6_ n7_ n8_ n9_
         (try clear hb)
         (try clear hb2)
         (try clear hk)
         (try clear hi)
         refine hK.out _ _ ⟨(blk_cell BK257.out 0).trans rfl, (blk_cell BK257.out 1).trans rfl, (blk_cell BK257.out 2).trans rfl, (blk_cell BK253.out 0).trans rfl, (blk_cell BK253.out 1).trans rfl, (blk_cell BK253.out 2).trans rfl, (blk_cell BK252.out 0).trans rfl, (blk_cell BK252.out 1).trans rfl, (blk_cell BK252.out 2).trans rfl, (blk_cell BK265.out 0).trans rfl, (blk_cell BK265.out 1).trans rfl, (blk_cell BK273.out 0).trans rfl, (blk_cell BK273.out 1).trans rfl⟩ (fun hHeld => ?_)
         clear hK K
         refine norm_ (a' := ?_) ?_ ?_
         rotate_left
         ·show Act.put _ (some 85) _ = _
          simp only [Act.put, List.setIfInBounds_toArray, List.set_cons_zero, List.set_cons_succ, i64_w, i32_w]
          rfl
         refine pure_ (i := 28) (N := some 86) (v := ?_) (a' := ?_) #[true, true, true, true, true, true, true, true, true, true, true, true, true, true, true, true, true, true, true, true, true, true, true, true, true, true, true, true, true, false] rfl rfl (any_of HT_.out (by kernel_rfl)) (fun _ _ _ h => h) (Or.inl ⟨by rfl, ?_⟩) ?_ ?_
         rotate_left
         ·intro w'
          go_simp
          with_reducible rfl
         rotate_left
         ·simp only [Act.put, List.setIfInBounds_toArray, List.set_cons_zero, List.set_cons_succ, i64_w, i32_w]
          rfl
         refine pure_ (i := 29) (N := some 6) (v := ?_) (a' := ?_) #[true, true, true, true, true, true, true, true, true, true, true, true, true, true, true, true, true, true, true, true, true, true, true, true, true, true, true, true, true, true] rfl rfl (any_of HT_.out (by kernel_rfl)) (fun _ _ _ h => h) (Or.inl ⟨by rfl, ?_⟩) ?_ ?_
         rotate_left
         ·intro w'
          go_simp
          with_reducible rfl
         rotate_left
         ·simp only [Act.put, List.setIfInBounds_toArray, List.set_cons_zero, List.set_cons_succ, i64_w, i32_w]
          rfl
         refine done_ (done_of HT_.out (by kernel_rfl)) ?_
         try go_wp2
         go_ret
         exact ⟨by first | rfl | (simp [errW_none, errW_some] <;> rfl) | (simp [*, errW_none, errW_some] <;> rfl), by repeat (first | (with_reducible first | exact HB.out | apply below_alloc | apply pw_below_drewN | apply below_drew1 | refine below_set ?_ GE252.out | refine below_set ?_ GE253.out | refine below_set ?_ GE257.out | refine below_set ?_ GE265.out | refine below_set ?_ GE273.out) | exact HB.out)⟩
        ·replace c51 := Bool.eq_false_iff.mpr c51
         subst c51
         have H1 : (some false) = some r := by rw [if_neg (show ¬ (false = true) by decide)] at H; exact H
         clear H
         have H := H1
         clear H1
         exact absurd ((Option.some.inj H).trans hr) (by decide)
       ·rw [if_neg c49] at H
        exact absurd ((Option.some.inj H).trans hr) (by decide)
      ·rw [if_neg c48] at H
       exact absurd ((Option.some.inj H).trans hr) (by decide)
     ·rw [if_neg c47] at H
      exact absurd ((Option.some.inj H).trans hr) (by decide)
    ·rw [if_neg c45] at H
     exact absurd ((Option.some.inj H).trans hr) (by decide)
end Go.Proofs.YtakickbnjbedfaaDoor.PB
