/- Part of the proof of Card. -/
import Derived.Test.YtakickbnjbedfaaDoorProg
import Derived.Below
import Derived.Deep.Draws
import Derived.Deep.AppendLies
import Derived.Maps.AppendAt
import Derived.OwnWalk
import Derived.Laws.BytesArg
import Derived.Laws.MakeOwn
import Derived.Laws.OwnMore
import Derived.Deep.OwnRows
import Derived.Tactics
import Derived.Lib.ConvBytes
import Derived.Laws.Slices
import Derived.WalkKit
import Derived.KernelRfl
import Derived.RowKit3
import Derived.Deep.LoopGhost
import Derived.Deep.QuietTactic
import Derived.BigQuiet
import Derived.WideLaws
import Derived.Deep.DeepCutAuto
import Derived.Deep.CutBlock
import Derived.Deep.RegionHeld3
import Derived.Laws.Rows
import Derived.Lib.AppendStr
import Derived.ArgAppend
import Derived.Laws.IdiomCopy
import Derived.OrdersHeld
import Derived.Laws.BitsLemmas
import Derived.RowKit
import Derived.Test.YtakickbnjbedfaaDoorRankScaleWWords
import Derived.Test.YtakickbnjbedfaaDoorRankScaleWLast
import Derived.Test.YtakickbnjbedfaaDoorRankScaleWTab
import Derived.Test.YtakickbnjbedfaaDoorRankScaleWApart
import Derived.Test.YtakickbnjbedfaaDoorRankScaleWFoot
import Derived.Test.YtakickbnjbedfaaDoorRankScaleWKept
import Derived.Test.YtakickbnjbedfaaDoorRankScaleWShare
import Derived.Test.YtakickbnjbedfaaDoorRankScaleWN
import Derived.Test.YtakickbnjbedfaaDoorRankScaleWEqStruct
import Derived.Test.YtakickbnjbedfaaDoorRankScaleWRepsOne
import Derived.Test.YtakickbnjbedfaaDoorRankScaleWGuard
import Derived.Test.YtakickbnjbedfaaDoorRankScaleWMore
import Derived.Test.YtakickbnjbedfaaDoorRankScaleShelf
section
namespace Go.Proofs.YtakickbnjbedfaaDoor.PA
open Go.RowKit Go.Proofs.YtakickbnjbedfaaDoorW.PrintWords Go.Proofs.YtakickbnjbedfaaDoorW.PrintLast Go.Proofs.YtakickbnjbedfaaDoorW.PrintMore
attribute [local go_sem] max2_int min2_int max_two min_two
set_option linter.unusedVariables false
set_option linter.unusedSimpArgs false
def errW : Option Int → Value
 | none => .nilIface
 | some c => .iface 0 (.int .i64 c)
theorem errW_none : errW none = .nilIface := rfl
theorem errW_some (c : Int) : errW (some c) = .iface 0 (.int .i64 c) := rfl
theorem info55 : (Tryd.prog.info? 55).map (fun i => (i.zero, i.size, i.bytes)) = some (some (.int .u32 0), 1, 4) := by kernel_rfl
structure S42 where
 f0 : ByteArray
 f1 : Int
 f2 : Int
def z42 : S42 := ⟨(⟨#[]⟩ : ByteArray), (0 : Int), (0 : Int)⟩
def k42 : Kd S42 := Kd.iso (Kd.pair Kd.string (Kd.pair (Kd.int .u64) (Kd.int .u64))) (fun x : S42 => (x.f0, x.f1, x.f2))
theorem k42_open {w : World} {x : S42} {cs : List Value} (h : k42.K w x cs) : cs = [.string x.f0, .int .u64 x.f1, .int .u64 x.f2] := by
 obtain ⟨_, _, rfl, rfl, ⟨_, _, rfl, rfl, rfl⟩⟩ := h
 exact rfl
theorem k42_openM {w : World} {base : Nat} {ok : Nat → Prop} {x : S42} {cs : List Value} (h : k42.M w base ok x cs) : cs = [.string x.f0, .int .u64 x.f1, .int .u64 x.f2] := by
 obtain ⟨_, _, rfl, rfl, ⟨_, _, rfl, rfl, rfl⟩⟩ := h
 exact rfl
theorem k42_mkM (w : World) (base : Nat) (ok : Nat → Prop) (x : S42)  : k42.M w base ok x [.string x.f0, .int .u64 x.f1, .int .u64 x.f2] := ⟨[.string x.f0], [.int .u64 x.f1, .int .u64 x.f2], rfl, rfl, ⟨[.int .u64 x.f1], [.int .u64 x.f2], rfl, rfl, rfl⟩⟩
def rd_T42 (xs : List S42) (i : Int) : S42 := xs.getD i.toNat z42
theorem at_T42 {w : World} {A : Option Addr} {n : Nat} {xs : List S42} (h : Kd.C k42 w A n xs) (i : Int) (h0 : 0 ≤ i) (h1 : i < n) : ∃ ad , A = some ad ∧ w.cell? (ad.add (i.toNat * 3)) = some (.string (rd_T42 xs i).f0) ∧ w.cell? ⟨(ad.add (i.toNat * 3)).block, (ad.add (i.toNat * 3)).off + 1, none⟩ = some (.int .u64 (rd_T42 xs i).f1) ∧ w.cell? ⟨(ad.add (i.toNat * 3)).block, (ad.add (i.toNat * 3)).off + 2, none⟩ = some (.int .u64 (rd_T42 xs i).f2) := by
 obtain ⟨ad, c, e, _, hK, hc0⟩ := Kd.C_get h z42 i h0 h1
 have hc : ∀ j u, c[j]? = some u → w.cell? (ad.add (i.toNat * 3 + j)) = some u := hc0
 obtain rfl := k42_open hK
 exact ⟨ad, e, hc 0 _ rfl, by rw [← add_field _ _ 1 (by omega)]; exact hc 1 _ rfl, by rw [← add_field _ _ 2 (by omega)]; exact hc 2 _ rfl⟩
end Go.Proofs.YtakickbnjbedfaaDoor.PA
end
section
namespace Go.Proofs.YtakickbnjbedfaaDoor.PA
open Go.RowKit Go.Proofs.YtakickbnjbedfaaDoorW.PrintWords Go.Proofs.YtakickbnjbedfaaDoorW.PrintLast Go.Proofs.YtakickbnjbedfaaDoorW.PrintMore
attribute [local go_sem] max2_int min2_int max_two min_two
set_option linter.unusedVariables false
set_option linter.unusedSimpArgs false
def nat_trim.l0 : Nat → List Int → Int → Option (List Int)
 | 0, _, _ => none
 | k + 1, x0, x3 => if x3 > 0 then (if 0 ≤ (wrap64 (x3 - 1)) then (if (wrap64 (x3 - 1)) < (x0.length : Int) then (if (rd x0 (wrap64 (x3 - 1))) = 0 then (nat_trim.l0 k x0 (wrap64 (x3 - 1))) else (if 0 ≤ x3 then (if x3 ≤ (x0.length : Int) then (some (x0.take (x3 : Int).toNat)) else (none)) else (none))) else (none)) else (none)) else (if 0 ≤ x3 then (if x3 ≤ (x0.length : Int) then (some (x0.take (x3 : Int).toNat)) else (none)) else (none))
def nat_trim.f (k : Nat) (l0 : List Int) : Option (List Int) := nat_trim.l0 k l0 (l0.length : Int)
set_option maxHeartbeats 8000000 in
set_option maxRecDepth 100000 in
theorem nat_trim.calls (k : Nat) (P0_ : Nat → Prop) (u9000_ : Value) (l0 : List Int) (r : List Int) (w0 w : World) (hB : Below w0.heap.size w0 w) (ho0 : Kd.R (Kd.int .u32) 55 w w0.heap.size P0_ u9000_ l0) (h : nat_trim.f k l0 = some r) :
  Calls Tryd.prog 102 #[u9000_] w fun e w' => ∃ v0_ : Value, e = .returned (v0_) ∧ Kd.R (Kd.int .u32) 55 w' w0.heap.size (fun k_ => (P0_ k_ ∨ w.heap.size ≤ k_)) v0_ r ∧ Below w0.heap.size w0 w' ∧ Kept w w' (fun k_ => P0_ k_) := by
 have HO0 := Aside0.mk (show Kd.R (Kd.int .u32) 55 w w0.heap.size (fun k_ => (P0_ k_ ∨ w.heap.size ≤ k_)) u9000_ l0 from Kd.R_mono ho0 (fun k_ hk => (.inl hk)))
 have HK := Aside0.mk (Kept.refl w (fun k_ => P0_ k_))
 have HW0 := Aside0.mk hB.size
 have HB := Aside0.mk hB
 clear hB
 have H : (nat_trim.l0 k l0 (l0.length : Int)) = some r := h
 clear h
 have H' := Aside0.mk H
 clear H
 obtain ⟨Ao2, co2, eo2⟩ := Kd.R_slice HO0.out
 subst eo2
 go_enter Tryd.func102, Tryd.ntmps102
 go_wp2
 go_loopg [3] k (fun kq v3 w' => ∃ (x3_1 : Int), v3 = .int .i64 x3_1 ∧ Aside0 (nat_trim.l0 kq l0 x3_1 = some r) ∧ Aside0 (kq ≤ k) ∧ Aside0 (Kd.R (Kd.int .u32) 55 w' w0.heap.size (fun k_ => (P0_ k_ ∨ w.heap.size ≤ k_)) (.slice Ao2 l0.length co2) l0) ∧ Aside0 (Kept w w' (fun k_ => P0_ k_)) ∧ Aside0 (Below w0.heap.size w0 w'))
 case atStart => exact ⟨((l0.length : Int)), (by first | rfl | (simp; done) | (simp [*]; done)), H', ⟨Nat.le_refl _⟩, ⟨by (with_reducible repeat (first | apply Kd.R_alloc | apply Kd.R_drewN | apply Kd.R_drew)); exact HO0.out⟩, ⟨by repeat (first | (with_reducible first | exact HK.out | apply Kept.alloc | apply Kept.drewN | apply Kept.drew) | exact HK.out)⟩, ⟨by repeat (first | (with_reducible first | exact HB.out | apply below_alloc | apply pw_below_drewN | apply below_drew1) | exact HB.out)⟩⟩
 case round =>
  clear H'
  try clear c1
  try clear p2
  obtain ⟨x3_1, rfl, HA, HK1, HO_0, HK, HB⟩ := hrel
  cases gk with
  | zero => exact absurd HA.out (by simp [nat_trim.l0])
  | succ k1 =>
   have H := HA.out
   clear HA
   simp only [nat_trim.l0] at H
   by_cases c3 : x3_1 > 0
   ·rw [if_pos c3] at H
    have c3b0 : decide (0 < x3_1) = true := decide_eq_true c3
    clear c3
    obtain ⟨ji4, hji4⟩ : ∃ j_ : Int, (wrap64 (x3_1 - 1)) = j_ := ⟨_, rfl⟩
    replace H : (if 0 ≤ (ji4) then (if (ji4) < (l0.length : Int) then (if (rd l0 (ji4)) = 0 then (nat_trim.l0 k1 l0 ji4) else (if 0 ≤ x3_1 then (if x3_1 ≤ (l0.length : Int) then (some (l0.take (x3_1 : Int).toNat)) else (none)) else (none))) else (none)) else (none)) = some r := by first | (rw [hji4] at H; exact H) | (simp only [hji4] at H ⊢; exact H)
    have hji4w : (IntKind.i64.wrap (x3_1 - 1)) = ji4 := (i64_w _).trans hji4
    by_cases c5 : 0 ≤ (ji4)
    ·rw [if_pos c5] at H
     have c5b0 : decide (0 ≤ (ji4)) = true := decide_eq_true c5
     clear c5
     by_cases c6 : (ji4) < (l0.length : Int)
     ·rw [if_pos c6] at H
      have c6b0 : decide ((ji4) < (l0.length : Int)) = true := decide_eq_true c6
      clear c6
      by_cases c7 : (rd l0 (ji4)) = 0
      ·rw [if_pos c7] at H
       have c7b0 : ((rd l0 (ji4)) == 0) = true := beq_iff_eq.mpr c7
       have c7b1 : ((rd l0 (ji4)) != 0) = false := bne_eq_false_iff_eq.mpr c7
       clear c7
       have H' := Aside0.mk H
       clear H
       have p110 : 0 ≤ ((ji4) : Int) := of_decide_eq_true (by first | (with_reducible assumption) | assumption)
       have q110 : (ji4) < (l0.length : Int) := of_decide_eq_true (by first | (with_reducible assumption) | assumption)
       obtain ⟨ad110, e110, hx110_0⟩ := Kd.at_int (Kd.R_reads' HO_0.out).2.2 (ji4) p110 q110
       cases e110
       replace p110 := eq_true p110
       replace q110 := eq_true q110
       go_wp2
       go_roundg k1
       case measure => have := HK1.out; omega
       case rel => exact ⟨(ji4), (by first | rfl | (simp; done) | (simp only [← hji4] <;> (first | rfl | simp)) | (simp [*]; done)), H', ⟨by have := HK1.out; omega⟩, ⟨by (with_reducible repeat (first | apply Kd.R_alloc | apply Kd.R_drewN | apply Kd.R_drew)); exact HO_0.out⟩, ⟨by repeat (first | (with_reducible first | exact HK.out | apply Kept.alloc | apply Kept.drewN | apply Kept.drew) | exact HK.out)⟩, ⟨by repeat (first | (with_reducible first | exact HB.out | apply below_alloc | apply pw_below_drewN | apply below_drew1) | exact HB.out)⟩⟩
      ·rw [if_neg c7] at H
       have c7b0 : ((rd l0 (ji4)) == 0) = false := beq_eq_false_iff_ne.mpr c7
       have c7b1 : ((rd l0 (ji4)) != 0) = true := bne_iff_ne.mpr c7
       by_cases c8 : 0 ≤ x3_1
       ·rw [if_pos c8] at H
        have c8b0 := eq_true c8
        have c8b1 : decide (0 ≤ x3_1) = true := decide_eq_true c8
        clear c8
        by_cases c9 : x3_1 ≤ (l0.length : Int)
        ·rw [if_pos c9] at H
         have c9b0 := eq_true c9
         have c9b1 : decide (x3_1 ≤ (l0.length : Int)) = true := decide_eq_true c9
         clear c9
         obtain ⟨y111, hy111⟩ : ∃ y_ : List Int, y_ = (l0.take (x3_1 : Int).toNat) := ⟨_, rfl⟩
         replace H : (some y111) = some r := by first | (rw [hy111]; with_reducible exact H) | (have H2_ := (Option.bind_some _ _).symm.trans H; rw [hy111]; with_reducible exact H2_) | (have H2_ := (Option.bind_some _ _).symm.trans H; with_reducible exact H2_) | with_reducible exact H | (rw [hy111]; exact H) | exact H
         have Ny111 := Aside0.mk hy111
         clear hy111
         obtain rfl := Option.some.inj H
         have p110 : 0 ≤ ((ji4) : Int) := of_decide_eq_true (by first | (with_reducible assumption) | assumption)
         have q110 : (ji4) < (l0.length : Int) := of_decide_eq_true (by first | (with_reducible assumption) | assumption)
         obtain ⟨ad110, e110, hx110_0⟩ := Kd.at_int (Kd.R_reads' HO_0.out).2.2 (ji4) p110 q110
         cases e110
         replace p110 := eq_true p110
         replace q110 := eq_true q110
         have q10 : (x3_1 : Int) ≤ ((l0.length : Int) : Int) := of_decide_eq_true (by first | (with_reducible assumption) | assumption)
         obtain ⟨i010, hi010, _, hsz10, _⟩ := info_parts info55
         have hcut10 := cut_to (P := Tryd.prog) 22 55 .i64 Tryd.underlying22 hi010 (some ad110) l0.length co2 x3_1 (of_decide_eq_true (by first | (with_reducible assumption) | assumption)) q10 (Kd.R_reads' HO_0.out).2.1
         have hr10 := Kd.R_take (m := (x3_1 : Int).toNat) HO_0.out (by omega)
         have hy10 : y111.length = (x3_1 : Int).toNat := (by rw [Ny111.out, List.length_take]; omega)
         rw [← Ny111.out] at hr10
         rw [← hy10] at hr10 hcut10
         clear hy10 hi010 hsz10 HO_0
         have HO113 := Aside0.mk hr10
         clear hr10
         replace q10 := eq_true q10
         go_wp2
         go_ret
         exact ⟨_, by first | rfl | (simp [errW_none, errW_some] <;> rfl) | (simp only [← hji4]; first | rfl | (simp [errW_none, errW_some] <;> rfl)) | (simp [*, errW_none, errW_some] <;> rfl), by (with_reducible repeat (first | apply Kd.R_alloc | apply Kd.R_drewN | apply Kd.R_drew)); exact HO113.out, by repeat (first | (with_reducible first | exact HB.out | apply below_alloc | apply pw_below_drewN | apply below_drew1) | exact HB.out), by repeat (first | (with_reducible first | exact HK.out | apply Kept.alloc | apply Kept.drewN | apply Kept.drew) | exact HK.out)⟩
        ·rw [if_neg c9] at H
         exact absurd H (by simp)
       ·rw [if_neg c8] at H
        exact absurd H (by simp)
     ·rw [if_neg c6] at H
      exact absurd H (by simp)
    ·rw [if_neg c5] at H
     exact absurd H (by simp)
   ·rw [if_neg c3] at H
    have c3b0 : decide (0 < x3_1) = false := decide_eq_false c3
    clear c3
    by_cases c11 : 0 ≤ x3_1
    ·rw [if_pos c11] at H
     have c11b0 := eq_true c11
     have c11b1 : decide (0 ≤ x3_1) = true := decide_eq_true c11
     clear c11
     by_cases c12 : x3_1 ≤ (l0.length : Int)
     ·rw [if_pos c12] at H
      have c12b0 := eq_true c12
      have c12b1 : decide (x3_1 ≤ (l0.length : Int)) = true := decide_eq_true c12
      clear c12
      obtain ⟨y114, hy114⟩ : ∃ y_ : List Int, y_ = (l0.take (x3_1 : Int).toNat) := ⟨_, rfl⟩
      replace H : (some y114) = some r := by first | (rw [hy114]; with_reducible exact H) | (have H2_ := (Option.bind_some _ _).symm.trans H; rw [hy114]; with_reducible exact H2_) | (have H2_ := (Option.bind_some _ _).symm.trans H; with_reducible exact H2_) | with_reducible exact H | (rw [hy114]; exact H) | exact H
      have Ny114 := Aside0.mk hy114
      clear hy114
      obtain rfl := Option.some.inj H
      have q13 : (x3_1 : Int) ≤ ((l0.length : Int) : Int) := of_decide_eq_true (by first | (with_reducible assumption) | assumption)
      obtain ⟨i013, hi013, _, hsz13, _⟩ := info_parts info55
      have hcut13 := cut_to (P := Tryd.prog) 22 55 .i64 Tryd.underlying22 hi013 Ao2 l0.length co2 x3_1 (of_decide_eq_true (by first | (with_reducible assumption) | assumption)) q13 (Kd.R_reads' HO_0.out).2.1
      have hr13 := Kd.R_take (m := (x3_1 : Int).toNat) HO_0.out (by omega)
      have hy13 : y114.length = (x3_1 : Int).toNat := (by rw [Ny114.out, List.length_take]; omega)
      rw [← Ny114.out] at hr13
      rw [← hy13] at hr13 hcut13
      clear hy13 hi013 hsz13 HO_0
      have HO116 := Aside0.mk hr13
      clear hr13
      replace q13 := eq_true q13
      go_wp2
      go_ret
      exact ⟨_, by first | rfl | (simp [errW_none, errW_some] <;> rfl) | (simp [*, errW_none, errW_some] <;> rfl), by (with_reducible repeat (first | apply Kd.R_alloc | apply Kd.R_drewN | apply Kd.R_drew)); exact HO116.out, by repeat (first | (with_reducible first | exact HB.out | apply below_alloc | apply pw_below_drewN | apply below_drew1) | exact HB.out), by repeat (first | (with_reducible first | exact HK.out | apply Kept.alloc | apply Kept.drewN | apply Kept.drew) | exact HK.out)⟩
     ·rw [if_neg c12] at H
      exact absurd H (by simp)
    ·rw [if_neg c11] at H
     exact absurd H (by simp)
end Go.Proofs.YtakickbnjbedfaaDoor.PA
end
section
namespace Go.Proofs.YtakickbnjbedfaaDoor.PA
open Go.RowKit Go.Proofs.YtakickbnjbedfaaDoorW.PrintWords Go.Proofs.YtakickbnjbedfaaDoorW.PrintLast Go.Proofs.YtakickbnjbedfaaDoorW.PrintMore
attribute [local go_sem] max2_int min2_int max_two min_two
set_option linter.unusedVariables false
set_option linter.unusedSimpArgs false
def nat_Of.f (k : Nat) (a0 : Int) : Option (List Int) := (nat_trim.f k (([(a0) % 4294967296, (a0 / 4294967296) % 4294967296] : List Int))).bind fun t120 => (some t120)
set_option maxHeartbeats 8000000 in
set_option maxRecDepth 100000 in
theorem nat_Of.calls (k : Nat) (a0 : Int) (r : List Int) (w : World) (h : nat_Of.f k a0 = some r) :
  Calls Tryd.prog 85 #[.int .u64 a0] w fun e w' => ∃ v0_ : Value, e = .returned (v0_) ∧ Kd.R (Kd.int .u32) 55 w' w.heap.size (fun _ => True) v0_ r ∧ Below w.heap.size w w' := by
 have HB := Aside0.mk (Below.refl w.heap.size w)
 have H : ((nat_trim.f k (([(a0) % 4294967296, (a0 / 4294967296) % 4294967296] : List Int))).bind fun t120 => (some t120)) = some r := h
 clear h
 obtain ⟨y117, hy117⟩ : ∃ y_ : List Int, y_ = (([(a0) % 4294967296, (a0 / 4294967296) % 4294967296] : List Int)) := ⟨_, rfl⟩
 replace H : ((nat_trim.f k y117).bind fun t120 => (some t120)) = some r := by first | (rw [hy117]; with_reducible exact H) | (have H2_ := (Option.bind_some _ _).symm.trans H; rw [hy117]; with_reducible exact H2_) | (have H2_ := (Option.bind_some _ _).symm.trans H; with_reducible exact H2_) | with_reducible exact H | (rw [hy117]; exact H) | exact H
 have Ny117 := Aside0.mk hy117
 clear hy117
 replace H := Option.bind_eq_some_iff.mp H
 obtain ⟨t120, A20, H⟩ := H
 replace H : (some t120) = some r := H
 have A2 := Aside0.mk A20
 clear A20
 obtain rfl := Option.some.inj H
 go_enter Tryd.func85, Tryd.ntmps85
 go_wp2_with (first | ((with_reducible refine gate_dst (N := 8) rfl ?_); refine Kd.R_lit (Kd.int .u32) _ 55 ?hg (N := 8) ?hd (xs := ([(a0) % 4294967296, (a0 / 4294967296) % 4294967296] : List Int)) (inner := [.int .u32 ((a0) % 4294967296), .int .u32 ((a0 / 4294967296) % 4294967296)]) (ok := fun _ => True) (okp := fun _ => True) ?hr ?hp (fun _ hk => hk) trivial (Below.refl _ _) (Nat.le_refl _) (by simp) ?_; (case hd => rfl); (case hg => rfl); (case hr => first | (go_simp; done) | (go_simp; rfl)); (case hp => exact (Reps.one (show Kd.M (Kd.int .u32) _ _ _ ((a0) % 4294967296) [.int .u32 ((a0) % 4294967296)] from rfl) (Reps.one (show Kd.M (Kd.int .u32) _ _ _ ((a0 / 4294967296) % 4294967296) [.int .u32 ((a0 / 4294967296) % 4294967296)] from rfl) (Reps.none _ _)))); intro v118 w3 ho4 hb hg_ hnew_; clear hg_ hnew_; (first | rw [← Ny117.out] at ho4 | (simp only [Int.reduceToNat] at ho4; rw [← Ny117.out] at ho4)); have n0_ := Aside0.mk (Kd.R_lower ho4 (below_size (by repeat (first | (with_reducible first | exact HB.out | apply below_alloc | apply pw_below_drewN | apply below_drew1) | exact HB.out)))); have n1_ := Aside0.mk (below_step (by repeat (first | (with_reducible first | exact HB.out | apply below_alloc | apply pw_below_drewN | apply below_drew1) | exact HB.out)) hb); clear HB; have HO119 := n0_; have HB := n1_; clear n0_ n1_; clear hb ho4; obtain ⟨Ao5, co5, eo5⟩ := Kd.R_slice HO119.out; subst eo5) | ((with_reducible refine gate_callee (f := 102) rfl ?_); refine goesL_ (some 9) rfl rfl Tryd.func102 (by kernel_rfl) rfl #[.slice Ao5 y117.length co5] rfl (by (try simp only [List.map_toArray, List.map_cons, List.map_nil]); first | done | rfl | (simp only [List.length_drop, List.length_take]; rfl)) ?_; (with_reducible refine (nat_trim.calls k (fun k_ => some k_ = (.slice Ao5 y117.length co5 : Value).ownBlock) (.slice Ao5 y117.length co5) y117 t120 w _ ?side1 ?side2 A2.out).mono ?_); (case side1 => repeat (first | (with_reducible first | exact HB.out | apply below_alloc | apply pw_below_drewN | apply below_drew1) | exact HB.out)); (case side2 => exact Kd.R_tight rfl HO119.out); rintro e w6 ⟨v121, rfl, ho0, hb, hkp⟩; refine ⟨_, rfl, ?_⟩; have n0_ := Aside0.mk (Kd.R_mono (ok' := fun k_ => True) ho0 (fun k_ hk_ => trivial)); have n1_ := Aside0.mk (hb); clear HB; clear HO119; have HO122 := n0_; have HB := n1_; clear n0_ n1_; (try clear hb); (try clear hkp); (try clear ho0)))
 go_ret
 exact ⟨_, by first | rfl | (simp [errW_none, errW_some] <;> rfl) | (simp [*, errW_none, errW_some] <;> rfl), by (with_reducible repeat (first | apply Kd.R_alloc | apply Kd.R_drewN | apply Kd.R_drew)); exact HO122.out, by repeat (first | (with_reducible first | exact HB.out | apply below_alloc | apply pw_below_drewN | apply below_drew1) | exact HB.out)⟩
end Go.Proofs.YtakickbnjbedfaaDoor.PA
end
section
namespace Go.Proofs.YtakickbnjbedfaaDoor.PA
open Go.RowKit Go.Proofs.YtakickbnjbedfaaDoorW.PrintWords Go.Proofs.YtakickbnjbedfaaDoorW.PrintLast Go.Proofs.YtakickbnjbedfaaDoorW.PrintMore
attribute [local go_sem] max2_int min2_int max_two min_two
set_option linter.unusedVariables false
set_option linter.unusedSimpArgs false
def nat_Right.f (l0 : List Int) : Option (Bool) := if (l0.length : Int) ≤ 64 then (if (l0.length : Int) = 0 then (some true) else (if 0 ≤ (wrap64 ((l0.length : Int) - 1)) then (if (wrap64 ((l0.length : Int) - 1)) < (l0.length : Int) then (some ((rd l0 (wrap64 ((l0.length : Int) - 1))) != 0)) else (none)) else (none))) else (some false)
set_option maxHeartbeats 8000000 in
set_option maxRecDepth 100000 in
theorem nat_Right.calls (A0 : Option Addr) (c0 : Nat) (l0 : List Int) (r : Bool) (w : World) (hr0 : Kd.C (Kd.int .u32) w A0 l0.length l0) (hc0 : l0.length ≤ c0) (h : nat_Right.f l0 = some r) :
  Calls Tryd.prog 103 #[.slice A0 l0.length c0] w fun e w' => e = .returned (.bool r) ∧ Drawn0 w w' := by
 have HR0 := Aside0.mk hr0
 have HC0 := Aside0.mk hc0
 clear hr0 hc0
 have H : (if (l0.length : Int) ≤ 64 then (if (l0.length : Int) = 0 then (some true) else (if 0 ≤ (wrap64 ((l0.length : Int) - 1)) then (if (wrap64 ((l0.length : Int) - 1)) < (l0.length : Int) then (some ((rd l0 (wrap64 ((l0.length : Int) - 1))) != 0)) else (none)) else (none))) else (some false)) = some r := h
 clear h
 by_cases c2 : (l0.length : Int) ≤ 64
 ·rw [if_pos c2] at H
  have c2b0 : decide ((l0.length : Int) ≤ 64) = true := decide_eq_true c2
  have c2b1 : decide (l0.length ≤ 64) = true := decide_eq_true (by omega)
  clear c2
  by_cases c3 : (l0.length : Int) = 0
  ·rw [if_pos c3] at H
   have c3b0 : ((l0.length : Int) == 0) = true := beq_iff_eq.mpr c3
   have c3b1 : ((l0.length : Int) != 0) = false := bne_eq_false_iff_eq.mpr c3
   clear c3
   obtain rfl := Option.some.inj H
   go_enter Tryd.func103, Tryd.ntmps103
   go_wp2
   go_ret
   exact ⟨by first | rfl | (simp; done) | (simp [*]; done), by repeat (first | exact Drawn0.refl _ | apply Drawn0.step)⟩
  ·rw [if_neg c3] at H
   have c3b0 : ((l0.length : Int) == 0) = false := beq_eq_false_iff_ne.mpr c3
   have c3b1 : ((l0.length : Int) != 0) = true := bne_iff_ne.mpr c3
   have c3b2 : ¬ (l0 = []) := fun h_ => c3 (by rw [h_]; rfl)
   obtain ⟨ji4, hji4⟩ : ∃ j_ : Int, (wrap64 ((l0.length : Int) - 1)) = j_ := ⟨_, rfl⟩
   replace H : (if 0 ≤ (ji4) then (if (ji4) < (l0.length : Int) then (some ((rd l0 (ji4)) != 0)) else (none)) else (none)) = some r := by first | (rw [hji4] at H; exact H) | (simp only [hji4] at H ⊢; exact H)
   have hji4w : (IntKind.i64.wrap ((l0.length : Int) - 1)) = ji4 := (i64_w _).trans hji4
   by_cases c5 : 0 ≤ (ji4)
   ·rw [if_pos c5] at H
    have c5b0 : decide (0 ≤ (ji4)) = true := decide_eq_true c5
    clear c5
    by_cases c6 : (ji4) < (l0.length : Int)
    ·rw [if_pos c6] at H
     have c6b0 : decide ((ji4) < (l0.length : Int)) = true := decide_eq_true c6
     clear c6
     obtain rfl := Option.some.inj H
     have p102 : 0 ≤ ((ji4) : Int) := of_decide_eq_true (by first | (with_reducible assumption) | assumption)
     have q102 : (ji4) < (l0.length : Int) := of_decide_eq_true (by first | (with_reducible assumption) | assumption)
     obtain ⟨ad102, e102, hx102_0⟩ := Kd.at_int HR0.out (ji4) p102 q102
     cases e102
     replace p102 := eq_true p102
     replace q102 := eq_true q102
     go_enter Tryd.func103, Tryd.ntmps103
     go_wp2
     go_ret
     exact ⟨by first | rfl | (simp; done) | (simp only [← hji4] <;> (first | rfl | simp)) | (simp [*]; done), by repeat (first | exact Drawn0.refl _ | apply Drawn0.step)⟩
    ·rw [if_neg c6] at H
     exact absurd H (by simp)
   ·rw [if_neg c5] at H
    exact absurd H (by simp)
 ·rw [if_neg c2] at H
  have c2b0 : decide ((l0.length : Int) ≤ 64) = false := decide_eq_false c2
  have c2b1 : decide (l0.length ≤ 64) = false := decide_eq_false (by omega)
  clear c2
  obtain rfl := Option.some.inj H
  go_enter Tryd.func103, Tryd.ntmps103
  go_wp2
  go_ret
  exact ⟨by first | rfl | (simp; done) | (simp [*]; done), by repeat (first | exact Drawn0.refl _ | apply Drawn0.step)⟩
end Go.Proofs.YtakickbnjbedfaaDoor.PA
end
section
namespace Go.Proofs.YtakickbnjbedfaaDoor.PA
open Go.RowKit Go.Proofs.YtakickbnjbedfaaDoorW.PrintWords Go.Proofs.YtakickbnjbedfaaDoorW.PrintLast Go.Proofs.YtakickbnjbedfaaDoorW.PrintMore
attribute [local go_sem] max2_int min2_int max_two min_two
set_option linter.unusedVariables false
set_option linter.unusedSimpArgs false
def nat_kept.f (l0 : List Int) : Option (List Int × Int) := if (l0.length : Int) > 64 then (some (([] : List Int), 6)) else (some (l0, 0))
end Go.Proofs.YtakickbnjbedfaaDoor.PA
end
section
namespace Go.Proofs.YtakickbnjbedfaaDoor.PA
open Go.RowKit Go.Proofs.YtakickbnjbedfaaDoorW.PrintWords Go.Proofs.YtakickbnjbedfaaDoorW.PrintLast Go.Proofs.YtakickbnjbedfaaDoorW.PrintMore
attribute [local go_sem] max2_int min2_int max_two min_two
set_option linter.unusedVariables false
set_option linter.unusedSimpArgs false
def nat_at.f (l0 : List Int) (a1 : Int) : Option (Int) := if a1 < (l0.length : Int) then (if 0 ≤ a1 then (some (IntKind.u64.wrap (rd l0 a1))) else (none)) else (some 0)
set_option maxHeartbeats 8000000 in
set_option maxRecDepth 100000 in
theorem nat_at.calls (A0 : Option Addr) (c0 : Nat) (l0 : List Int) (a1 : Int) (r : Int) (w : World) (hr0 : Kd.C (Kd.int .u32) w A0 l0.length l0) (hc0 : l0.length ≤ c0) (h : nat_at.f l0 a1 = some r) :
  Calls Tryd.prog 150 #[.slice A0 l0.length c0, .int .i64 a1] w fun e w' => e = .returned (.int .u64 r) ∧ Drawn0 w w' := by
 have HR0 := Aside0.mk hr0
 have HC0 := Aside0.mk hc0
 clear hr0 hc0
 have H : (if a1 < (l0.length : Int) then (if 0 ≤ a1 then (some (IntKind.u64.wrap (rd l0 a1))) else (none)) else (some 0)) = some r := h
 clear h
 by_cases c3 : a1 < (l0.length : Int)
 ·rw [if_pos c3] at H
  have c3b0 : decide (a1 < (l0.length : Int)) = true := decide_eq_true c3
  clear c3
  by_cases c4 : 0 ≤ a1
  ·rw [if_pos c4] at H
   have c4b0 : decide (0 ≤ a1) = true := decide_eq_true c4
   clear c4
   obtain rfl := Option.some.inj H
   have p155 : 0 ≤ (a1 : Int) := of_decide_eq_true (by first | (with_reducible assumption) | assumption)
   have q155 : a1 < (l0.length : Int) := of_decide_eq_true (by first | (with_reducible assumption) | assumption)
   obtain ⟨ad155, e155, hx155_0⟩ := Kd.at_int HR0.out a1 p155 q155
   cases e155
   replace p155 := eq_true p155
   replace q155 := eq_true q155
   go_enter Tryd.func150, Tryd.ntmps150
   go_wp2
   go_ret
   exact ⟨by first | rfl | (simp; done) | (simp [*]; done), by repeat (first | exact Drawn0.refl _ | apply Drawn0.step)⟩
  ·rw [if_neg c4] at H
   exact absurd H (by simp)
 ·rw [if_neg c3] at H
  have c3b0 : decide (a1 < (l0.length : Int)) = false := decide_eq_false c3
  clear c3
  obtain rfl := Option.some.inj H
  go_enter Tryd.func150, Tryd.ntmps150
  go_wp2
  go_ret
  exact ⟨by first | rfl | (simp; done) | (simp [*]; done), by repeat (first | exact Drawn0.refl _ | apply Drawn0.step)⟩
end Go.Proofs.YtakickbnjbedfaaDoor.PA
end
section
namespace Go.Proofs.YtakickbnjbedfaaDoor.PA
open Go.RowKit Go.Proofs.YtakickbnjbedfaaDoorW.PrintWords Go.Proofs.YtakickbnjbedfaaDoorW.PrintLast Go.Proofs.YtakickbnjbedfaaDoorW.PrintMore
attribute [local go_sem] max2_int min2_int max_two min_two
set_option linter.unusedVariables false
set_option linter.unusedSimpArgs false
def nat_sum.l0 : Nat → List Int → List Int → List Int → Int → Int → Int → Option (List Int)
 | 0, _, _, _, _, _, _ => none
 | k + 1, x0, x1, x5, x6, x16, x17 => if x17 < x16 then ((nat_at.f x0 x17).bind fun t202 => ((nat_at.f x1 x17).bind fun t203 => (if 0 ≤ x17 then (if x17 < (x5.length : Int) then (nat_sum.l0 k x0 x1 (x5.set (x17 : Int).toNat ((IntKind.u64.wrap (x6 + (IntKind.u64.wrap (t202 + t203)))) % 4294967296)) ((IntKind.u64.wrap (x6 + (IntKind.u64.wrap (t202 + t203)))) / 4294967296) x16 (wrap64 (x17 + 1))) else (none)) else (none)))) else ((nat_trim.f k x5).bind fun t205 => (some t205))
def nat_sum.f (k : Nat) (l0 : List Int) (l1 : List Int) : Option (List Int) := if 0 ≤ (wrap64 ((mx (l0.length : Int) (l1.length : Int)) + 1)) then (if (wrap64 ((mx (l0.length : Int) (l1.length : Int)) + 1) : Int).toNat ≤ 70368744177664 then ((some (List.replicate (wrap64 ((mx (l0.length : Int) (l1.length : Int)) + 1) : Int).toNat 0 : List Int)).bind fun y199 => (nat_sum.l0 k l0 l1 y199 0 (y199.length : Int) 0)) else (none)) else (none)
end Go.Proofs.YtakickbnjbedfaaDoor.PA
end
section
namespace Go.Proofs.YtakickbnjbedfaaDoor.PA
open Go.RowKit Go.Proofs.YtakickbnjbedfaaDoorW.PrintWords Go.Proofs.YtakickbnjbedfaaDoorW.PrintLast Go.Proofs.YtakickbnjbedfaaDoorW.PrintMore
attribute [local go_sem] max2_int min2_int max_two min_two
set_option linter.unusedVariables false
set_option linter.unusedSimpArgs false
def nat_Add.j0 : Nat → List Int → List Int → Bool → Option (List Int × Int)
 | 0, _, _, _ => none
 | k + 1, x0, x1, x13 => if x13 = true then (some (([] : List Int), 1)) else ((nat_sum.f k x0 x1).bind fun t210 => ((nat_kept.f t210).bind fun bt213 => (some (bt213.1, bt213.2))))
def nat_Add.f (k : Nat) (l0 : List Int) (l1 : List Int) : Option (List Int × Int) := (nat_Right.f l0).bind fun t208 => (if t208 = true then ((nat_Right.f l1).bind fun t209 => (nat_Add.j0 k l0 l1 (!t209))) else (nat_Add.j0 k l0 l1 true))
end Go.Proofs.YtakickbnjbedfaaDoor.PA
end
section
namespace Go.Proofs.YtakickbnjbedfaaDoor.PA
open Go.RowKit Go.Proofs.YtakickbnjbedfaaDoorW.PrintWords Go.Proofs.YtakickbnjbedfaaDoorW.PrintLast Go.Proofs.YtakickbnjbedfaaDoorW.PrintMore
attribute [local go_sem] max2_int min2_int max_two min_two
set_option linter.unusedVariables false
set_option linter.unusedSimpArgs false
def nat_order.l0 : Nat → List Int → List Int → Int → Option (Int)
 | 0, _, _, _ => none
 | k + 1, x0, x1, x5 => if x5 ≥ 0 then (if 0 ≤ x5 then (if x5 < (x0.length : Int) then (if x5 < (x1.length : Int) then (if (rd x0 x5) < (rd x1 x5) then (some (-1)) else (if (rd x0 x5) > (rd x1 x5) then (some 1) else (nat_order.l0 k x0 x1 (wrap64 (x5 - 1))))) else (none)) else (none)) else (none)) else (some 0)
def nat_order.f (k : Nat) (l0 : List Int) (l1 : List Int) : Option (Int) := if (l0.length : Int) = (l1.length : Int) then (nat_order.l0 k l0 l1 (wrap64 ((l0.length : Int) - 1))) else (some ((2 * (mn (mx (wrap64 ((l0.length : Int) - (l1.length : Int))) 0) 1)) - 1))
set_option maxHeartbeats 8000000 in
set_option maxRecDepth 100000 in
theorem nat_order.calls (k : Nat) (A0 : Option Addr) (c0 : Nat) (l0 : List Int) (A1 : Option Addr) (c1 : Nat) (l1 : List Int) (r : Int) (w : World) (hr0 : Kd.C (Kd.int .u32) w A0 l0.length l0) (hc0 : l0.length ≤ c0) (hr1 : Kd.C (Kd.int .u32) w A1 l1.length l1) (hc1 : l1.length ≤ c1) (h : nat_order.f k l0 l1 = some r) :
  Calls Tryd.prog 115 #[.slice A0 l0.length c0, .slice A1 l1.length c1] w fun e w' => e = .returned (.int .i64 r) ∧ Below w.heap.size w w' := by
 have HR0 := Aside0.mk hr0
 have HC0 := Aside0.mk hc0
 clear hr0 hc0
 have HR1 := Aside0.mk hr1
 have HC1 := Aside0.mk hc1
 clear hr1 hc1
 have HB := Aside0.mk (Below.refl w.heap.size w)
 have H : (if (l0.length : Int) = (l1.length : Int) then (nat_order.l0 k l0 l1 (wrap64 ((l0.length : Int) - 1))) else (some ((2 * (mn (mx (wrap64 ((l0.length : Int) - (l1.length : Int))) 0) 1)) - 1))) = some r := h
 clear h
 by_cases c3 : (l0.length : Int) = (l1.length : Int)
 ·rw [if_pos c3] at H
  have c3b0 : ((l0.length : Int) == (l1.length : Int)) = true := beq_iff_eq.mpr c3
  have c3b1 : ((l0.length : Int) != (l1.length : Int)) = false := bne_eq_false_iff_eq.mpr c3
  have c3b2 : (l0.length == l1.length) = true := by first | simpa using c3 | (simp at c3 ⊢; omega)
  clear c3
  have H' := Aside0.mk H
  clear H
  go_enter Tryd.func115, Tryd.ntmps115
  go_wp2
  repeat (go_quiet (fail); try go_wp2)
  go_loopg [5] k (fun kq v5 w' => ∃ (x5_1 : Int), v5 = .int .i64 x5_1 ∧ Aside0 (nat_order.l0 kq l0 l1 x5_1 = some r) ∧ Aside0 (kq ≤ k) ∧ Aside0 (Below w.heap.size w w'))
  case atStart => exact ⟨(wrap64 ((l0.length : Int) - 1)), (by first | rfl | (simp; done) | (simp [*]; done)), H', ⟨Nat.le_refl _⟩, ⟨by repeat (first | (with_reducible first | exact HB.out | apply below_alloc | apply pw_below_drewN | apply below_drew1) | exact HB.out)⟩⟩
  case round =>
   clear H'
   try clear c1
   try clear p2
   try clear c3
   try clear c3b0
   try clear c3b1
   try clear c3b2
   obtain ⟨x5_1, rfl, HA, HK1, HB⟩ := hrel
   cases gk with
   | zero => exact absurd HA.out (by simp [nat_order.l0])
   | succ k1 =>
    have H := HA.out
    clear HA
    simp only [nat_order.l0] at H
    by_cases c4 : x5_1 ≥ 0
    ·rw [if_pos c4] at H
     have c4b0 : decide (0 ≤ x5_1) = true := decide_eq_true c4
     clear c4
     by_cases c5 : 0 ≤ x5_1
     ·rw [if_pos c5] at H
      have c5b0 : decide (0 ≤ x5_1) = true := decide_eq_true c5
      clear c5
      by_cases c6 : x5_1 < (l0.length : Int)
      ·rw [if_pos c6] at H
       have c6b0 : decide (x5_1 < (l0.length : Int)) = true := decide_eq_true c6
       clear c6
       by_cases c7 : x5_1 < (l1.length : Int)
       ·rw [if_pos c7] at H
        have c7b0 : decide (x5_1 < (l1.length : Int)) = true := decide_eq_true c7
        clear c7
        by_cases c8 : (rd l0 x5_1) < (rd l1 x5_1)
        ·rw [if_pos c8] at H
         have c8b0 : decide ((rd l0 x5_1) < (rd l1 x5_1)) = true := decide_eq_true c8
         clear c8
         obtain rfl := Option.some.inj H
         have p103 : 0 ≤ (x5_1 : Int) := of_decide_eq_true (by first | (with_reducible assumption) | assumption)
         have q103 : x5_1 < (l0.length : Int) := of_decide_eq_true (by first | (with_reducible assumption) | assumption)
         obtain ⟨ad103, e103, hx103_0⟩ := Kd.at_int HR0.out x5_1 p103 q103
         cases e103
         replace hx103_0 := (HB.out.cell (World.block_lt_of_cell? w _ hx103_0)).trans hx103_0
         replace p103 := eq_true p103
         replace q103 := eq_true q103
         have p104 : 0 ≤ (x5_1 : Int) := of_decide_eq_true (by first | (with_reducible assumption) | assumption)
         have q104 : x5_1 < (l1.length : Int) := of_decide_eq_true (by first | (with_reducible assumption) | assumption)
         obtain ⟨ad104, e104, hx104_0⟩ := Kd.at_int HR1.out x5_1 p104 q104
         cases e104
         replace hx104_0 := (HB.out.cell (World.block_lt_of_cell? w _ hx104_0)).trans hx104_0
         replace p104 := eq_true p104
         replace q104 := eq_true q104
         go_wp2
         repeat (go_quiet (fail); try go_wp2)
         go_ret
         exact ⟨by first | rfl | (simp [errW_none, errW_some] <;> rfl) | (simp [*, errW_none, errW_some] <;> rfl), by repeat (first | (with_reducible first | exact HB.out | apply below_alloc | apply pw_below_drewN | apply below_drew1) | exact HB.out)⟩
        ·rw [if_neg c8] at H
         have c8b0 : decide ((rd l0 x5_1) < (rd l1 x5_1)) = false := decide_eq_false c8
         clear c8
         by_cases c9 : (rd l0 x5_1) > (rd l1 x5_1)
         ·rw [if_pos c9] at H
          have c9b0 : decide ((rd l1 x5_1) < (rd l0 x5_1)) = true := decide_eq_true c9
          clear c9
          obtain rfl := Option.some.inj H
          have p103 : 0 ≤ (x5_1 : Int) := of_decide_eq_true (by first | (with_reducible assumption) | assumption)
          have q103 : x5_1 < (l0.length : Int) := of_decide_eq_true (by first | (with_reducible assumption) | assumption)
          obtain ⟨ad103, e103, hx103_0⟩ := Kd.at_int HR0.out x5_1 p103 q103
          cases e103
          replace hx103_0 := (HB.out.cell (World.block_lt_of_cell? w _ hx103_0)).trans hx103_0
          replace p103 := eq_true p103
          replace q103 := eq_true q103
          have p104 : 0 ≤ (x5_1 : Int) := of_decide_eq_true (by first | (with_reducible assumption) | assumption)
          have q104 : x5_1 < (l1.length : Int) := of_decide_eq_true (by first | (with_reducible assumption) | assumption)
          obtain ⟨ad104, e104, hx104_0⟩ := Kd.at_int HR1.out x5_1 p104 q104
          cases e104
          replace hx104_0 := (HB.out.cell (World.block_lt_of_cell? w _ hx104_0)).trans hx104_0
          replace p104 := eq_true p104
          replace q104 := eq_true q104
          have p105 : 0 ≤ (x5_1 : Int) := of_decide_eq_true (by first | (with_reducible assumption) | assumption)
          have q105 : x5_1 < (l0.length : Int) := of_decide_eq_true (by first | (with_reducible assumption) | assumption)
          obtain ⟨ad105, e105, hx105_0⟩ := Kd.at_int HR0.out x5_1 p105 q105
          obtain rfl : ad103 = ad105 := (by injection e105)
          replace hx105_0 := (HB.out.cell (World.block_lt_of_cell? w _ hx105_0)).trans hx105_0
          replace p105 := eq_true p105
          replace q105 := eq_true q105
          have p106 : 0 ≤ (x5_1 : Int) := of_decide_eq_true (by first | (with_reducible assumption) | assumption)
          have q106 : x5_1 < (l1.length : Int) := of_decide_eq_true (by first | (with_reducible assumption) | assumption)
          obtain ⟨ad106, e106, hx106_0⟩ := Kd.at_int HR1.out x5_1 p106 q106
          obtain rfl : ad104 = ad106 := (by injection e106)
          replace hx106_0 := (HB.out.cell (World.block_lt_of_cell? w _ hx106_0)).trans hx106_0
          replace p106 := eq_true p106
          replace q106 := eq_true q106
          go_wp2
          repeat (go_quiet (fail); try go_wp2)
          go_ret
          exact ⟨by first | rfl | (simp [errW_none, errW_some] <;> rfl) | (simp [*, errW_none, errW_some] <;> rfl), by repeat (first | (with_reducible first | exact HB.out | apply below_alloc | apply pw_below_drewN | apply below_drew1) | exact HB.out)⟩
         ·rw [if_neg c9] at H
          have c9b0 : decide ((rd l1 x5_1) < (rd l0 x5_1)) = false := decide_eq_false c9
          clear c9
          have H' := Aside0.mk H
          clear H
          have p103 : 0 ≤ (x5_1 : Int) := of_decide_eq_true (by first | (with_reducible assumption) | assumption)
          have q103 : x5_1 < (l0.length : Int) := of_decide_eq_true (by first | (with_reducible assumption) | assumption)
          obtain ⟨ad103, e103, hx103_0⟩ := Kd.at_int HR0.out x5_1 p103 q103
          cases e103
          replace hx103_0 := (HB.out.cell (World.block_lt_of_cell? w _ hx103_0)).trans hx103_0
          replace p103 := eq_true p103
          replace q103 := eq_true q103
          have p104 : 0 ≤ (x5_1 : Int) := of_decide_eq_true (by first | (with_reducible assumption) | assumption)
          have q104 : x5_1 < (l1.length : Int) := of_decide_eq_true (by first | (with_reducible assumption) | assumption)
          obtain ⟨ad104, e104, hx104_0⟩ := Kd.at_int HR1.out x5_1 p104 q104
          cases e104
          replace hx104_0 := (HB.out.cell (World.block_lt_of_cell? w _ hx104_0)).trans hx104_0
          replace p104 := eq_true p104
          replace q104 := eq_true q104
          have p105 : 0 ≤ (x5_1 : Int) := of_decide_eq_true (by first | (with_reducible assumption) | assumption)
          have q105 : x5_1 < (l0.length : Int) := of_decide_eq_true (by first | (with_reducible assumption) | assumption)
          obtain ⟨ad105, e105, hx105_0⟩ := Kd.at_int HR0.out x5_1 p105 q105
          obtain rfl : ad103 = ad105 := (by injection e105)
          replace hx105_0 := (HB.out.cell (World.block_lt_of_cell? w _ hx105_0)).trans hx105_0
          replace p105 := eq_true p105
          replace q105 := eq_true q105
          have p106 : 0 ≤ (x5_1 : Int) := of_decide_eq_true (by first | (with_reducible assumption) | assumption)
          have q106 : x5_1 < (l1.length : Int) := of_decide_eq_true (by first | (with_reducible assumption) | assumption)
          obtain ⟨ad106, e106, hx106_0⟩ := Kd.at_int HR1.out x5_1 p106 q106
          obtain rfl : ad104 = ad106 := (by injection e106)
          replace hx106_0 := (HB.out.cell (World.block_lt_of_cell? w _ hx106_0)).trans hx106_0
          replace p106 := eq_true p106
          replace q106 := eq_true q106
          go_wp2
          repeat (go_quiet (fail); try go_wp2)
          go_roundg k1
          case measure => have := HK1.out; omega
          case rel => exact ⟨(wrap64 (x5_1 - 1)), (by first | rfl | (simp; done) | (simp [*]; done)), H', ⟨by have := HK1.out; omega⟩, ⟨by repeat (first | (with_reducible first | exact HB.out | apply below_alloc | apply pw_below_drewN | apply below_drew1) | exact HB.out)⟩⟩
       ·rw [if_neg c7] at H
        exact absurd H (by simp)
      ·rw [if_neg c6] at H
       exact absurd H (by simp)
     ·rw [if_neg c5] at H
      exact absurd H (by simp)
    ·rw [if_neg c4] at H
     have c4b0 : decide (0 ≤ x5_1) = false := decide_eq_false c4
     clear c4
     obtain rfl := Option.some.inj H
     go_wp2
     repeat (go_quiet (fail); try go_wp2)
     go_ret
     exact ⟨by first | rfl | (simp [errW_none, errW_some] <;> rfl) | (simp [*, errW_none, errW_some] <;> rfl), by repeat (first | (with_reducible first | exact HB.out | apply below_alloc | apply pw_below_drewN | apply below_drew1) | exact HB.out)⟩
 ·rw [if_neg c3] at H
  have c3b0 : ((l0.length : Int) == (l1.length : Int)) = false := beq_eq_false_iff_ne.mpr c3
  have c3b1 : ((l0.length : Int) != (l1.length : Int)) = true := bne_iff_ne.mpr c3
  have c3b2 : (l0.length == l1.length) = false := by first | simpa using c3 | (simp at c3 ⊢; omega)
  obtain ⟨ji10, hji10⟩ : ∃ j_ : Int, (mx (wrap64 ((l0.length : Int) - (l1.length : Int))) 0) = j_ := ⟨_, rfl⟩
  replace H : (some ((2 * (mn (ji10) 1)) - 1)) = some r := by first | (rw [hji10] at H; exact H) | (simp only [hji10] at H ⊢; exact H)
  (try (have hji10l : 0 ≤ ji10 := by (rw [← hji10]; unfold mx; (repeat' split) <;> omega)))
  (try (have hji10m : 0 ≤ ji10 := by omega))
  have hji10_ : (if (wrap64 ((l0.length : Int) - (l1.length : Int))) < 0 then 0 else (wrap64 ((l0.length : Int) - (l1.length : Int)))) = ji10 := hji10
  obtain ⟨ji11, hji11⟩ : ∃ j_ : Int, (mn (ji10) 1) = j_ := ⟨_, rfl⟩
  replace H : (some ((2 * (ji11)) - 1)) = some r := by first | (rw [hji11] at H; exact H) | (simp only [hji11] at H ⊢; exact H)
  have hji11_ : (if 1 < (ji10) then 1 else (ji10)) = ji11 := hji11
  obtain rfl := Option.some.inj H
  go_enter Tryd.func115, Tryd.ntmps115
  go_wp2
  repeat (go_quiet (fail); try go_wp2)
  go_ret
  exact ⟨by first | rfl | (simp [errW_none, errW_some] <;> rfl) | (simp only [← hji10, ← hji11]; first | rfl | (simp [errW_none, errW_some] <;> rfl)) | (simp [*, errW_none, errW_some] <;> rfl), by repeat (first | (with_reducible first | exact HB.out | apply below_alloc | apply pw_below_drewN | apply below_drew1) | exact HB.out)⟩
end Go.Proofs.YtakickbnjbedfaaDoor.PA
end
section
namespace Go.Proofs.YtakickbnjbedfaaDoor.PA
open Go.RowKit Go.Proofs.YtakickbnjbedfaaDoorW.PrintWords Go.Proofs.YtakickbnjbedfaaDoorW.PrintLast Go.Proofs.YtakickbnjbedfaaDoorW.PrintMore
attribute [local go_sem] max2_int min2_int max_two min_two
set_option linter.unusedVariables false
set_option linter.unusedSimpArgs false
def nat_Cmp.f (k : Nat) (l0 : List Int) (l1 : List Int) : Option (Int) := (nat_Right.f l0).bind fun t107 => (if t107 = true then ((nat_Right.f l1).bind fun t108 => (if t108 = true then ((nat_order.f k l0 l1).bind fun t109 => (some t109)) else (some 0))) else (some 0))
set_option maxHeartbeats 8000000 in
set_option maxRecDepth 100000 in
theorem nat_Cmp.calls (k : Nat) (A0 : Option Addr) (c0 : Nat) (l0 : List Int) (A1 : Option Addr) (c1 : Nat) (l1 : List Int) (r : Int) (w : World) (hr0 : Kd.C (Kd.int .u32) w A0 l0.length l0) (hc0 : l0.length ≤ c0) (hr1 : Kd.C (Kd.int .u32) w A1 l1.length l1) (hc1 : l1.length ≤ c1) (h : nat_Cmp.f k l0 l1 = some r) :
  Calls Tryd.prog 61 #[.slice A0 l0.length c0, .slice A1 l1.length c1] w fun e w' => e = .returned (.int .i64 r) ∧ Below w.heap.size w w' := by
 have HR0 := Aside0.mk hr0
 have HC0 := Aside0.mk hc0
 clear hr0 hc0
 have HR1 := Aside0.mk hr1
 have HC1 := Aside0.mk hc1
 clear hr1 hc1
 have HB := Aside0.mk (Below.refl w.heap.size w)
 have H : ((nat_Right.f l0).bind fun t107 => (if t107 = true then ((nat_Right.f l1).bind fun t108 => (if t108 = true then ((nat_order.f k l0 l1).bind fun t109 => (some t109)) else (some 0))) else (some 0))) = some r := h
 clear h
 replace H := Option.bind_eq_some_iff.mp H
 obtain ⟨t107, A30, H⟩ := H
 replace H : (if t107 = true then ((nat_Right.f l1).bind fun t108 => (if t108 = true then ((nat_order.f k l0 l1).bind fun t109 => (some t109)) else (some 0))) else (some 0)) = some r := H
 have A3 := Aside0.mk A30
 clear A30
 by_cases c4 : t107 = true
 ·subst c4
  have H1 : ((nat_Right.f l1).bind fun t108 => (if t108 = true then ((nat_order.f k l0 l1).bind fun t109 => (some t109)) else (some 0))) = some r := by rw [if_pos rfl] at H; exact H
  clear H
  have H := H1
  clear H1
  replace H := Option.bind_eq_some_iff.mp H
  obtain ⟨t108, A50, H⟩ := H
  replace H : (if t108 = true then ((nat_order.f k l0 l1).bind fun t109 => (some t109)) else (some 0)) = some r := H
  have A5 := Aside0.mk A50
  clear A50
  by_cases c6 : t108 = true
  ·subst c6
   have H1 : ((nat_order.f k l0 l1).bind fun t109 => (some t109)) = some r := by rw [if_pos rfl] at H; exact H
   clear H
   have H := H1
   clear H1
   replace H := Option.bind_eq_some_iff.mp H
   obtain ⟨t109, A70, H⟩ := H
   replace H : (some t109) = some r := H
   have A7 := Aside0.mk A70
   clear A70
   obtain rfl := Option.some.inj H
   go_enter Tryd.func61, Tryd.ntmps61
   go_wp2_with (first | ((with_reducible refine gate_callee (f := 103) rfl ?_); refine goesL_ (some 6) rfl rfl Tryd.func103 (by kernel_rfl) rfl #[.slice A0 l0.length c0] rfl (by (try simp only [List.map_toArray, List.map_cons, List.map_nil]); first | done | rfl | (simp only [List.length_drop, List.length_take]; rfl)) ?_; (with_reducible refine (nat_Right.calls _ _ l0 true _ ?side1 ?side2 A3.out).mono ?_); (case side1 => repeat (first | exact HR0.out | (with_reducible refine Kd.C_alloc ?_ _) | (with_reducible refine Kd.C_drewN ?_ _) | (with_reducible refine Kd.C_drew ?_))); (case side2 => exact HC0.out); rintro e w' ⟨rfl, ⟨nd, rfl⟩⟩; refine ⟨_, rfl, ?_⟩) | (go_at_call 103; (with_reducible refine (nat_Right.calls _ _ l1 true _ ?side1 ?side2 A5.out).mono ?_); (case side1 => repeat (first | exact HR1.out | (with_reducible refine Kd.C_alloc ?_ _) | (with_reducible refine Kd.C_drewN ?_ _) | (with_reducible refine Kd.C_drew ?_))); (case side2 => exact HC1.out); rintro e w' ⟨rfl, ⟨nd, rfl⟩⟩) | ((with_reducible refine gate_callee (f := 115) rfl ?_); refine goesL_ (some 15) rfl rfl Tryd.func115 (by kernel_rfl) rfl #[.slice A0 l0.length c0, .slice A1 l1.length c1] rfl (by (try simp only [List.map_toArray, List.map_cons, List.map_nil]); first | done | rfl | (simp only [List.length_drop, List.length_take]; rfl)) ?_; (with_reducible refine (nat_order.calls k _ _ l0 _ _ l1 t109 _ ?side1 ?side2 ?side3 ?side4 A7.out).mono ?_); (case side1 => repeat (first | exact HR0.out | (with_reducible refine Kd.C_alloc ?_ _) | (with_reducible refine Kd.C_drewN ?_ _) | (with_reducible refine Kd.C_drew ?_))); (case side2 => exact HC0.out); (case side3 => repeat (first | exact HR1.out | (with_reducible refine Kd.C_alloc ?_ _) | (with_reducible refine Kd.C_drewN ?_ _) | (with_reducible refine Kd.C_drew ?_))); (case side4 => exact HC1.out); rintro e w8 ⟨rfl, hb⟩; refine ⟨_, rfl, ?_⟩; have n0_ := Aside0.mk (below_step (by repeat (first | (with_reducible first | exact HB.out | apply below_alloc | apply pw_below_drewN | apply below_drew1) | exact HB.out)) hb); clear HB; have HB := n0_; clear n0_; (try clear hb); (try clear hb2); (try clear hk); (try clear hi)))
   go_ret
   exact ⟨by first | rfl | (simp [errW_none, errW_some] <;> rfl) | (simp [*, errW_none, errW_some] <;> rfl), by repeat (first | (with_reducible first | exact HB.out | apply below_alloc | apply pw_below_drewN | apply below_drew1) | exact HB.out)⟩
  ·replace c6 := Bool.eq_false_iff.mpr c6
   subst c6
   have H1 : (some 0) = some r := by rw [if_neg (show ¬ (false = true) by decide)] at H; exact H
   clear H
   have H := H1
   clear H1
   obtain rfl := Option.some.inj H
   go_enter Tryd.func61, Tryd.ntmps61
   go_wp2_with (first | ((with_reducible refine gate_callee (f := 103) rfl ?_); refine goesL_ (some 6) rfl rfl Tryd.func103 (by kernel_rfl) rfl #[.slice A0 l0.length c0] rfl (by (try simp only [List.map_toArray, List.map_cons, List.map_nil]); first | done | rfl | (simp only [List.length_drop, List.length_take]; rfl)) ?_; (with_reducible refine (nat_Right.calls _ _ l0 true _ ?side1 ?side2 A3.out).mono ?_); (case side1 => repeat (first | exact HR0.out | (with_reducible refine Kd.C_alloc ?_ _) | (with_reducible refine Kd.C_drewN ?_ _) | (with_reducible refine Kd.C_drew ?_))); (case side2 => exact HC0.out); rintro e w' ⟨rfl, ⟨nd, rfl⟩⟩; refine ⟨_, rfl, ?_⟩) | (go_at_call 103; (with_reducible refine (nat_Right.calls _ _ l1 false _ ?side1 ?side2 A5.out).mono ?_); (case side1 => repeat (first | exact HR1.out | (with_reducible refine Kd.C_alloc ?_ _) | (with_reducible refine Kd.C_drewN ?_ _) | (with_reducible refine Kd.C_drew ?_))); (case side2 => exact HC1.out); rintro e w' ⟨rfl, ⟨nd, rfl⟩⟩))
   go_ret
   exact ⟨by first | rfl | (simp [errW_none, errW_some] <;> rfl) | (simp [*, errW_none, errW_some] <;> rfl), by repeat (first | (with_reducible first | exact HB.out | apply below_alloc | apply pw_below_drewN | apply below_drew1) | exact HB.out)⟩
 ·replace c4 := Bool.eq_false_iff.mpr c4
  subst c4
  have H1 : (some 0) = some r := by rw [if_neg (show ¬ (false = true) by decide)] at H; exact H
  clear H
  have H := H1
  clear H1
  obtain rfl := Option.some.inj H
  go_enter Tryd.func61, Tryd.ntmps61
  go_wp2_with (first | ((with_reducible refine gate_callee (f := 103) rfl ?_); refine goesL_ (some 6) rfl rfl Tryd.func103 (by kernel_rfl) rfl #[.slice A0 l0.length c0] rfl (by (try simp only [List.map_toArray, List.map_cons, List.map_nil]); first | done | rfl | (simp only [List.length_drop, List.length_take]; rfl)) ?_; (with_reducible refine (nat_Right.calls _ _ l0 false _ ?side1 ?side2 A3.out).mono ?_); (case side1 => repeat (first | exact HR0.out | (with_reducible refine Kd.C_alloc ?_ _) | (with_reducible refine Kd.C_drewN ?_ _) | (with_reducible refine Kd.C_drew ?_))); (case side2 => exact HC0.out); rintro e w' ⟨rfl, ⟨nd, rfl⟩⟩; refine ⟨_, rfl, ?_⟩))
  go_ret
  exact ⟨by first | rfl | (simp [errW_none, errW_some] <;> rfl) | (simp [*, errW_none, errW_some] <;> rfl), by repeat (first | (with_reducible first | exact HB.out | apply below_alloc | apply pw_below_drewN | apply below_drew1) | exact HB.out)⟩
end Go.Proofs.YtakickbnjbedfaaDoor.PA
end
section
namespace Go.Proofs.YtakickbnjbedfaaDoor.PA
open Go.RowKit Go.Proofs.YtakickbnjbedfaaDoorW.PrintWords Go.Proofs.YtakickbnjbedfaaDoorW.PrintLast Go.Proofs.YtakickbnjbedfaaDoorW.PrintMore
attribute [local go_sem] max2_int min2_int max_two min_two
set_option linter.unusedVariables false
set_option linter.unusedSimpArgs false
def nat_short.l0 : Nat → List Int → Int → List Int → Int → Int → Option (List Int × Int)
 | 0, _, _, _, _, _ => none
 | k + 1, x0, x1, x6, x7, x8 => if x8 ≥ 0 then (if 0 ≤ x8 then (if x8 < (x0.length : Int) then (if (IntKind.u64.wrap (x1)) = 0 then (none) else (if x8 < (x6.length : Int) then (nat_short.l0 k x0 x1 (x6.set (x8 : Int).toNat ((IntKind.u64.wrap (Int.tdiv (Go.bits .or .u64 (IntKind.u64.wrap (x7 * 4294967296)) (IntKind.u64.wrap (rd x0 x8))) (IntKind.u64.wrap (x1)))) % 4294967296)) (Int.tmod (Go.bits .or .u64 (IntKind.u64.wrap (x7 * 4294967296)) (IntKind.u64.wrap (rd x0 x8))) (IntKind.u64.wrap (x1))) (wrap64 (x8 - 1))) else (none))) else (none)) else (none)) else ((nat_trim.f k x6).bind fun t128 => (some (t128, (x7) % 4294967296)))
def nat_short.f (k : Nat) (l0 : List Int) (a1 : Int) : Option (List Int × Int) := if 0 ≤ (l0.length : Int) then (if ((l0.length : Int) : Int).toNat ≤ 70368744177664 then (nat_short.l0 k l0 a1 (List.replicate ((l0.length : Int) : Int).toNat 0) 0 (wrap64 ((l0.length : Int) - 1))) else (none)) else (none)
set_option maxHeartbeats 8000000 in
set_option maxRecDepth 100000 in
theorem nat_short.calls (k : Nat) (A0 : Option Addr) (c0 : Nat) (l0 : List Int) (a1 : Int) (r1 : List Int) (r2 : Int) (w : World) (hr0 : Kd.C (Kd.int .u32) w A0 l0.length l0) (hc0 : l0.length ≤ c0) (h : nat_short.f k l0 a1 = some (r1, r2)) :
  Calls Tryd.prog 110 #[.slice A0 l0.length c0, .int .u32 a1] w fun e w' => ∃ v0_ : Value, e = .returned (.tuple #[v0_, .int .u32 r2]) ∧ Kd.R (Kd.int .u32) 55 w' w.heap.size (fun _ => True) v0_ r1 ∧ Below w.heap.size w w' := by
 have HR0 := Aside0.mk hr0
 have HC0 := Aside0.mk hc0
 clear hr0 hc0
 have HB := Aside0.mk (Below.refl w.heap.size w)
 have H : (if 0 ≤ (l0.length : Int) then (if ((l0.length : Int) : Int).toNat ≤ 70368744177664 then (nat_short.l0 k l0 a1 (List.replicate ((l0.length : Int) : Int).toNat 0) 0 (wrap64 ((l0.length : Int) - 1))) else (none)) else (none)) = some (r1, r2) := h
 clear h
 by_cases c3 : 0 ≤ (l0.length : Int)
 ·rw [if_pos c3] at H
  have c3b0 := eq_true c3
  have c3b1 : decide (0 ≤ (l0.length : Int)) = true := decide_eq_true c3
  clear c3
  by_cases c4 : ((l0.length : Int) : Int).toNat ≤ 70368744177664
  ·rw [if_pos c4] at H
   have c4b0 := eq_true c4
   have c4b1 : decide (((l0.length : Int) : Int).toNat ≤ 70368744177664) = true := decide_eq_true c4
   clear c4
   obtain ⟨y123, hy123⟩ : ∃ y_ : List Int, y_ = (List.replicate ((l0.length : Int) : Int).toNat 0) := ⟨_, rfl⟩
   replace H : (nat_short.l0 k l0 a1 y123 0 (wrap64 ((l0.length : Int) - 1))) = some (r1, r2) := by first | (rw [hy123]; with_reducible exact H) | (have H2_ := (Option.bind_some _ _).symm.trans H; rw [hy123]; with_reducible exact H2_) | (have H2_ := (Option.bind_some _ _).symm.trans H; with_reducible exact H2_) | with_reducible exact H | (rw [hy123]; exact H) | exact H
   have Ny123 := Aside0.mk hy123
   clear hy123
   have H' := Aside0.mk H
   clear H
   go_enter Tryd.func110, Tryd.ntmps110
   go_wp2_with (first | ((with_reducible refine gate_dst (N := 11) rfl ?_); refine Kd.R_make (Kd.int .u32) _ 55 rfl (N := 11) rfl 22 _ _ rfl (l0.length : Int) rfl rfl Tryd.underlying22 (.int .u32 0) 4 info55 rfl (by decide) (by omega) 0 (ok := fun _ => True) (okp := fun _ => True) rfl (fun _ hk => hk) trivial (of_decide_eq_true (by first | (with_reducible assumption) | assumption)) (Nat.le_trans (Nat.mul_le_mul_right _ (of_decide_eq_true (by first | (with_reducible assumption) | assumption) : (l0.length : Int).toNat ≤ 70368744177664)) (by omega)) (Below.refl _ _) (Nat.le_refl _) ?_; intro v124 w5 ho6 hb hg_ hnew_; clear hg_ hnew_; (first | rw [← Ny123.out] at ho6 | (simp only [Int.reduceToNat] at ho6; rw [← Ny123.out] at ho6)); have n0_ := Aside0.mk (Kd.R_lower ho6 (below_size (by repeat (first | (with_reducible first | exact HB.out | apply below_alloc | apply pw_below_drewN | apply below_drew1) | exact HB.out)))); have n1_ := Aside0.mk (below_step (by repeat (first | (with_reducible first | exact HB.out | apply below_alloc | apply pw_below_drewN | apply below_drew1) | exact HB.out)) hb); clear HB; have HO125 := n0_; have HB := n1_; clear n0_ n1_; clear hb ho6))
   go_loopg [7, 8] k (fun kq v7 v8 w' => ∃ (x6_1 : List Int) (x7_1 : Int) (x8_1 : Int), v7 = .int .u64 x7_1 ∧ v8 = .int .i64 x8_1 ∧ Aside0 (nat_short.l0 kq l0 a1 x6_1 x7_1 x8_1 = some (r1, r2)) ∧ Aside0 (kq ≤ k) ∧ Aside0 (Kd.R (Kd.int .u32) 55 w' w.heap.size (fun _ => True) v124 x6_1) ∧ Aside0 (Below w.heap.size w w'))
   case atStart => exact ⟨(y123), (0), (wrap64 ((l0.length : Int) - 1)), (by first | rfl | (simp; done) | (simp [*]; done)), (by first | rfl | (simp; done) | (simp [*]; done)), H', ⟨Nat.le_refl _⟩, ⟨by (with_reducible repeat (first | apply Kd.R_alloc | apply Kd.R_drewN | apply Kd.R_drew)); exact HO125.out⟩, ⟨by repeat (first | (with_reducible first | exact HB.out | apply below_alloc | apply pw_below_drewN | apply below_drew1) | exact HB.out)⟩⟩
   case round =>
    clear H'
    try clear c1
    try clear p2
    try clear c3
    try clear c3b0
    try clear c3b1
    try clear c4
    try clear c4b0
    try clear c4b1
    try clear p6
    obtain ⟨x6_1, x7_1, x8_1, rfl, rfl, HA, HK1, HO_6, HB⟩ := hrel
    cases gk with
    | zero => exact absurd HA.out (by simp [nat_short.l0])
    | succ k1 =>
     have H := HA.out
     clear HA
     simp only [nat_short.l0] at H
     by_cases c7 : x8_1 ≥ 0
     ·rw [if_pos c7] at H
      have c7b0 : decide (0 ≤ x8_1) = true := decide_eq_true c7
      clear c7
      by_cases c8 : 0 ≤ x8_1
      ·rw [if_pos c8] at H
       have c8b0 : decide (0 ≤ x8_1) = true := decide_eq_true c8
       clear c8
       by_cases c9 : x8_1 < (l0.length : Int)
       ·rw [if_pos c9] at H
        have c9b0 : decide (x8_1 < (l0.length : Int)) = true := decide_eq_true c9
        clear c9
        by_cases c10 : (IntKind.u64.wrap (a1)) = 0
        ·rw [if_pos c10] at H
         exact absurd H (by simp)
        ·rw [if_neg c10] at H
         have c10b0 : ((IntKind.u64.wrap (a1)) == 0) = false := beq_eq_false_iff_ne.mpr c10
         have c10b1 : ((IntKind.u64.wrap (a1)) != 0) = true := bne_iff_ne.mpr c10
         by_cases c11 : x8_1 < (x6_1.length : Int)
         ·rw [if_pos c11] at H
          have c11b0 : decide (x8_1 < (x6_1.length : Int)) = true := decide_eq_true c11
          clear c11
          obtain ⟨y127, hy127⟩ : ∃ y_ : List Int, y_ = (x6_1.set (x8_1 : Int).toNat ((IntKind.u64.wrap (Int.tdiv (Go.bits .or .u64 (IntKind.u64.wrap (x7_1 * 4294967296)) (IntKind.u64.wrap (rd l0 x8_1))) (IntKind.u64.wrap (a1)))) % 4294967296)) := ⟨_, rfl⟩
          replace H : (nat_short.l0 k1 l0 a1 y127 (Int.tmod (Go.bits .or .u64 (IntKind.u64.wrap (x7_1 * 4294967296)) (IntKind.u64.wrap (rd l0 x8_1))) (IntKind.u64.wrap (a1))) (wrap64 (x8_1 - 1))) = some (r1, r2) := by first | (rw [hy127]; with_reducible exact H) | (have H2_ := (Option.bind_some _ _).symm.trans H; rw [hy127]; with_reducible exact H2_) | (have H2_ := (Option.bind_some _ _).symm.trans H; with_reducible exact H2_) | with_reducible exact H | (rw [hy127]; exact H) | exact H
          have Ny127 := Aside0.mk hy127
          clear hy127
          have H' := Aside0.mk H
          clear H
          have p126 : 0 ≤ (x8_1 : Int) := of_decide_eq_true (by first | (with_reducible assumption) | assumption)
          have q126 : x8_1 < (l0.length : Int) := of_decide_eq_true (by first | (with_reducible assumption) | assumption)
          obtain ⟨ad126, e126, hx126_0⟩ := Kd.at_int HR0.out x8_1 p126 q126
          cases e126
          replace hx126_0 := (HB.out.cell (World.block_lt_of_cell? w _ hx126_0)).trans hx126_0
          replace p126 := eq_true p126
          replace q126 := eq_true q126
          have p12 : 0 ≤ (x8_1 : Int) := of_decide_eq_true (by first | (with_reducible assumption) | assumption)
          have q12 : (x8_1 : Int) < ((x6_1.length : Int) : Int) := of_decide_eq_true (by first | (with_reducible assumption) | assumption)
          obtain ⟨go12, co12, eo12, gb12, gl12, cl12, HG12⟩ := Kd.R_form HO_6.out (by omega)
          (first | cases eo12 | (injection eo12 with ea_ en_ ec_; (first | subst ea_ | (injection ea_ with ea_; subst ea_)); subst ec_; clear en_))
          have GB12 := Aside0.mk gb12
          have GG12 := Aside0.mk HG12
          clear gb12 gl12 HG12
          obtain ⟨hx12_0, hf12_0⟩ := Kd.R_celln 0 HO_6.out (x8_1 : Int) p12 q12
          replace p12 := eq_true p12
          replace q12 := eq_true q12
          have HP13 := Kd.R_putg HO_6.out (x8_1 : Int) ((IntKind.u64.wrap (Int.tdiv (Go.bits .or .u64 (IntKind.u64.wrap (x7_1 * 4294967296)) (IntKind.u64.wrap (rd l0 x8_1))) (IntKind.u64.wrap (a1)))) % 4294967296)
          go_wp2_with (first | ((with_reducible refine gate_store (t := 55) (p := 34) rfl ?_); refine store_event (t := 55) (p := 34) (v := ?vo_w14) (w1 := (wr.setCell ⟨go12, (x8_1 : Int).toNat, none⟩ (.int .u32 ((IntKind.u64.wrap (Int.tdiv (Go.bits .or .u64 (IntKind.u64.wrap (x7_1 * 4294967296)) (IntKind.u64.wrap (rd l0 x8_1))) (IntKind.u64.wrap (a1)))) % 4294967296)))) ?hg ?ho ?hn ?hr ?_; (case ho => rfl); (case hg => rfl); (case hn => rfl); (case hr => first | (go_simp; done) | (go_simp; rfl)); intro w14 hw; have hg : wr.grownBy w14 (some go12) := (by rw [hw]; exact HP13.2); have hp_ : Kd.R (Kd.int .u32) 55 w14 w.heap.size (fun _ => True) (.slice (some ⟨go12, 0, none⟩) x6_1.length co12) y127 := (by rw [hw, Ny127.out]; exact HP13.1); clear HP13; have n0_ := Aside0.mk (hp_); have n1_ := Aside0.mk ((by rw [hw]; exact below_set (HB.out) GB12.out : Below w.heap.size w w14)); clear HO_6; clear HB; have HO_6 := n0_; have HB := n1_; clear n0_ n1_; clear hg hw hp_))
          go_roundg k1
          case measure => have := HK1.out; omega
          case rel => exact ⟨(y127), (Int.tmod (Go.bits .or .u64 (IntKind.u64.wrap (x7_1 * 4294967296)) (IntKind.u64.wrap (rd l0 x8_1))) (IntKind.u64.wrap (a1))), (wrap64 (x8_1 - 1)), (by first | rfl | (simp; done) | (simp [*]; done)), (by first | rfl | (simp; done) | (simp [*]; done)), H', ⟨by have := HK1.out; omega⟩, ⟨by (with_reducible repeat (first | apply Kd.R_alloc | apply Kd.R_drewN | apply Kd.R_drew)); exact HO_6.out⟩, ⟨by repeat (first | (with_reducible first | exact HB.out | apply below_alloc | apply pw_below_drewN | apply below_drew1) | exact HB.out)⟩⟩
         ·rw [if_neg c11] at H
          exact absurd H (by simp)
       ·rw [if_neg c9] at H
        exact absurd H (by simp)
      ·rw [if_neg c8] at H
       exact absurd H (by simp)
     ·rw [if_neg c7] at H
      have c7b0 : decide (0 ≤ x8_1) = false := decide_eq_false c7
      clear c7
      replace H := Option.bind_eq_some_iff.mp H
      obtain ⟨t128, A150, H⟩ := H
      replace H : (some (t128, (x7_1) % 4294967296)) = some (r1, r2) := H
      have A15 := Aside0.mk A150
      clear A150
      simp only [Option.some.injEq, Prod.mk.injEq] at H
      obtain ⟨rfl, rfl⟩ := H
      obtain ⟨Ao16, co16, eo16⟩ := Kd.R_slice HO_6.out
      subst eo16
      go_wp2_with (first | ((with_reducible refine gate_callee (f := 102) rfl ?_); refine goesL_ (some 40) rfl rfl Tryd.func102 (by kernel_rfl) rfl #[.slice Ao16 x6_1.length co16] rfl (by (try simp only [List.map_toArray, List.map_cons, List.map_nil]); first | done | rfl | (simp only [List.length_drop, List.length_take]; rfl)) ?_; (with_reducible refine (nat_trim.calls k1 (fun k_ => some k_ = (.slice Ao16 x6_1.length co16 : Value).ownBlock) (.slice Ao16 x6_1.length co16) x6_1 t128 w _ ?side1 ?side2 A15.out).mono ?_); (case side1 => repeat (first | (with_reducible first | exact HB.out | apply below_alloc | apply pw_below_drewN | apply below_drew1) | exact HB.out)); (case side2 => exact Kd.R_tight rfl HO_6.out); rintro e w17 ⟨v129, rfl, ho0, hb, hkp⟩; refine ⟨_, rfl, ?_⟩; have n0_ := Aside0.mk (Kd.R_mono (ok' := fun k_ => True) ho0 (fun k_ hk_ => trivial)); have n1_ := Aside0.mk (hb); clear HB; clear HO_6; have HO130 := n0_; have HB := n1_; clear n0_ n1_; (try clear hb); (try clear hkp); (try clear ho0)))
      go_ret2
      exact ⟨_, by first | rfl | (simp [errW_none, errW_some] <;> rfl) | (simp [*, errW_none, errW_some] <;> rfl), by (with_reducible repeat (first | apply Kd.R_alloc | apply Kd.R_drewN | apply Kd.R_drew)); exact HO130.out, by repeat (first | (with_reducible first | exact HB.out | apply below_alloc | apply pw_below_drewN | apply below_drew1) | exact HB.out)⟩
  ·rw [if_neg c4] at H
   exact absurd H (by simp)
 ·rw [if_neg c3] at H
  exact absurd H (by simp)
end Go.Proofs.YtakickbnjbedfaaDoor.PA
end
section
namespace Go.Proofs.YtakickbnjbedfaaDoor.PA
open Go.RowKit Go.Proofs.YtakickbnjbedfaaDoorW.PrintWords Go.Proofs.YtakickbnjbedfaaDoorW.PrintLast Go.Proofs.YtakickbnjbedfaaDoorW.PrintMore
def bits_LeadingZeros32.f (a0 : Int) : Option (Int) := if 0 ≤ a0 ∧ a0 ≤ 4294967295 then some (32 - (Lib.bitLen a0.toNat : Int)) else none
theorem bits_LeadingZeros32.calls (a0 : Int) (r : Int) (w : World) (h : bits_LeadingZeros32.f a0 = some r) :
  Calls Tryd.prog 185 #[.int .u32 a0] w fun e w' => e = .returned (.int .i64 r) ∧ Drawn0 w w' := by
 unfold bits_LeadingZeros32.f at h
 split at h
 ·rename_i hc
  obtain rfl := Option.some.inj h
  exact (Tryd.bits_LeadingZeros32 a0 w hc.1 hc.2).mono fun e w' ⟨he, hw⟩ => ⟨he, hw ▸ Drawn0.refl _⟩
 ·cases h
end Go.Proofs.YtakickbnjbedfaaDoor.PA
end
section
namespace Go.Proofs.YtakickbnjbedfaaDoor.PA
open Go.RowKit Go.Proofs.YtakickbnjbedfaaDoorW.PrintWords Go.Proofs.YtakickbnjbedfaaDoorW.PrintLast Go.Proofs.YtakickbnjbedfaaDoorW.PrintMore
attribute [local go_sem] max2_int min2_int max_two min_two
set_option linter.unusedVariables false
set_option linter.unusedSimpArgs false
def nat_shift.l0 : Nat → List Int → Int → List Int → Int → List Int → Int → Int → Option (List Int)
 | 0, _, _, _, _, _, _, _ => none
 | k + 1, x0, x1, x5, x6, x13, x14, x15 => if x15 < x14 then (if 0 ≤ x15 then (if x15 < (x13.length : Int) then (if 0 ≤ x1 then (if x15 < (x5.length : Int) then (if 0 ≤ (wrap64 (32 - x1)) then (nat_shift.l0 k x0 x1 (x5.set (x15 : Int).toNat (Go.bits .or .u32 (shl .u32 (rd x13 x15) x1) x6)) ((shr .u64 (IntKind.u64.wrap (rd x13 x15)) (wrap64 (32 - x1))) % 4294967296) x13 x14 (wrap64 (x15 + 1))) else (none)) else (none)) else (none)) else (none)) else (none)) else (if 0 ≤ (x0.length : Int) then (if (x0.length : Int) < (x5.length : Int) then (some (x5.set ((x0.length : Int) : Int).toNat x6)) else (none)) else (none))
def nat_shift.f (k : Nat) (l0 : List Int) (a1 : Int) : Option (List Int) := if 0 ≤ (wrap64 ((l0.length : Int) + 1)) then (if (wrap64 ((l0.length : Int) + 1) : Int).toNat ≤ 70368744177664 then (nat_shift.l0 k l0 a1 (List.replicate (wrap64 ((l0.length : Int) + 1) : Int).toNat 0) 0 l0 (l0.length : Int) 0) else (none)) else (none)
set_option maxHeartbeats 8000000 in
set_option maxRecDepth 100000 in
theorem nat_shift.calls (k : Nat) (A0 : Option Addr) (c0 : Nat) (l0 : List Int) (a1 : Int) (r : List Int) (w : World) (hr0 : Kd.C (Kd.int .u32) w A0 l0.length l0) (hc0 : l0.length ≤ c0) (h : nat_shift.f k l0 a1 = some r) :
  Calls Tryd.prog 186 #[.slice A0 l0.length c0, .int .i64 a1] w fun e w' => ∃ v0_ : Value, e = .returned (v0_) ∧ Kd.R (Kd.int .u32) 55 w' w.heap.size (fun _ => True) v0_ r ∧ Below w.heap.size w w' := by
 have HR0 := Aside0.mk hr0
 have HC0 := Aside0.mk hc0
 clear hr0 hc0
 have HB := Aside0.mk (Below.refl w.heap.size w)
 have H : (if 0 ≤ (wrap64 ((l0.length : Int) + 1)) then (if (wrap64 ((l0.length : Int) + 1) : Int).toNat ≤ 70368744177664 then (nat_shift.l0 k l0 a1 (List.replicate (wrap64 ((l0.length : Int) + 1) : Int).toNat 0) 0 l0 (l0.length : Int) 0) else (none)) else (none)) = some r := h
 clear h
 obtain ⟨ji3, hji3⟩ : ∃ j_ : Int, (wrap64 ((l0.length : Int) + 1)) = j_ := ⟨_, rfl⟩
 replace H : (if 0 ≤ (ji3) then (if (ji3 : Int).toNat ≤ 70368744177664 then (nat_shift.l0 k l0 a1 (List.replicate (ji3 : Int).toNat 0) 0 l0 (l0.length : Int) 0) else (none)) else (none)) = some r := by first | (rw [hji3] at H; exact H) | (simp only [hji3] at H ⊢; exact H)
 have hji3w : (IntKind.i64.wrap ((l0.length : Int) + 1)) = ji3 := (i64_w _).trans hji3
 by_cases c4 : 0 ≤ (ji3)
 ·rw [if_pos c4] at H
  have c4b0 := eq_true c4
  have c4b1 : decide (0 ≤ (ji3)) = true := decide_eq_true c4
  clear c4
  by_cases c5 : (ji3 : Int).toNat ≤ 70368744177664
  ·rw [if_pos c5] at H
   have c5b0 := eq_true c5
   have c5b1 : decide ((ji3 : Int).toNat ≤ 70368744177664) = true := decide_eq_true c5
   clear c5
   obtain ⟨y132, hy132⟩ : ∃ y_ : List Int, y_ = (List.replicate (ji3 : Int).toNat 0) := ⟨_, rfl⟩
   replace H : (nat_shift.l0 k l0 a1 y132 0 l0 (l0.length : Int) 0) = some r := by first | (rw [hy132]; with_reducible exact H) | (have H2_ := (Option.bind_some _ _).symm.trans H; rw [hy132]; with_reducible exact H2_) | (have H2_ := (Option.bind_some _ _).symm.trans H; with_reducible exact H2_) | with_reducible exact H | (rw [hy132]; exact H) | exact H
   have Ny132 := Aside0.mk hy132
   clear hy132
   have H' := Aside0.mk H
   clear H
   go_enter Tryd.func186, Tryd.ntmps186
   go_wp2_with (first | ((with_reducible refine gate_dst (N := 12) rfl ?_); refine Kd.R_make (Kd.int .u32) _ 55 rfl (N := 12) rfl 22 _ _ rfl ji3 rfl rfl Tryd.underlying22 (.int .u32 0) 4 info55 rfl (by decide) (by omega) 0 (ok := fun _ => True) (okp := fun _ => True) rfl (fun _ hk => hk) trivial (of_decide_eq_true (by first | (with_reducible assumption) | assumption)) (Nat.le_trans (Nat.mul_le_mul_right _ (of_decide_eq_true (by first | (with_reducible assumption) | assumption) : ji3.toNat ≤ 70368744177664)) (by omega)) (Below.refl _ _) (Nat.le_refl _) ?_; intro v133 w6 ho7 hb hg_ hnew_; clear hg_ hnew_; (first | rw [← Ny132.out] at ho7 | (simp only [Int.reduceToNat] at ho7; rw [← Ny132.out] at ho7)); have n0_ := Aside0.mk (Kd.R_lower ho7 (below_size (by repeat (first | (with_reducible first | exact HB.out | apply below_alloc | apply pw_below_drewN | apply below_drew1) | exact HB.out)))); have n1_ := Aside0.mk (below_step (by repeat (first | (with_reducible first | exact HB.out | apply below_alloc | apply pw_below_drewN | apply below_drew1) | exact HB.out)) hb); clear HB; have HO134 := n0_; have HB := n1_; clear n0_ n1_; clear hb ho7))
   go_loopg [6, 15] k (fun kq v6 v15 w' => ∃ (x5_1 : List Int) (x6_1 : Int) (x15_1 : Int), v6 = .int .u32 x6_1 ∧ v15 = .int .i64 x15_1 ∧ Aside0 (nat_shift.l0 kq l0 a1 x5_1 x6_1 l0 (l0.length : Int) x15_1 = some r) ∧ Aside0 (kq ≤ k) ∧ Aside0 (Kd.R (Kd.int .u32) 55 w' w.heap.size (fun _ => True) v133 x5_1) ∧ Aside0 (Below w.heap.size w w'))
   case atStart => exact ⟨(y132), (0), (0), (by first | rfl | (simp; done) | (simp [*]; done)), (by first | rfl | (simp; done) | (simp [*]; done)), H', ⟨Nat.le_refl _⟩, ⟨by (with_reducible repeat (first | apply Kd.R_alloc | apply Kd.R_drewN | apply Kd.R_drew)); exact HO134.out⟩, ⟨by repeat (first | (with_reducible first | exact HB.out | apply below_alloc | apply pw_below_drewN | apply below_drew1) | exact HB.out)⟩⟩
   case round =>
    clear H'
    try clear c1
    try clear p2
    try clear c4
    try clear c4b0
    try clear c4b1
    try clear c5
    try clear c5b0
    try clear c5b1
    try clear p6
    obtain ⟨x5_1, x6_1, x15_1, rfl, rfl, HA, HK1, HO_5, HB⟩ := hrel
    cases gk with
    | zero => exact absurd HA.out (by simp [nat_shift.l0])
    | succ k1 =>
     have H := HA.out
     clear HA
     simp only [nat_shift.l0] at H
     by_cases c8 : x15_1 < (l0.length : Int)
     ·rw [if_pos c8] at H
      have c8b0 : decide (x15_1 < (l0.length : Int)) = true := decide_eq_true c8
      clear c8
      by_cases c9 : 0 ≤ x15_1
      ·rw [if_pos c9] at H
       have c9b0 : decide (0 ≤ x15_1) = true := decide_eq_true c9
       clear c9
       by_cases c10 : x15_1 < (l0.length : Int)
       ·rw [if_pos c10] at H
        have c10b0 : decide (x15_1 < (l0.length : Int)) = true := decide_eq_true c10
        clear c10
        by_cases c11 : 0 ≤ a1
        ·rw [if_pos c11] at H
         have c11b0 := eq_true c11
         have c11b1 : decide (0 ≤ a1) = true := decide_eq_true c11
         clear c11
         obtain ⟨ji12, hji12⟩ : ∃ j_ : Int, (shl .u32 (rd l0 x15_1) a1) = j_ := ⟨_, rfl⟩
         replace H : (if x15_1 < (x5_1.length : Int) then (if 0 ≤ (wrap64 (32 - a1)) then (nat_shift.l0 k1 l0 a1 (x5_1.set (x15_1 : Int).toNat (Go.bits .or .u32 (ji12) x6_1)) ((shr .u64 (IntKind.u64.wrap (rd l0 x15_1)) (wrap64 (32 - a1))) % 4294967296) l0 (l0.length : Int) (wrap64 (x15_1 + 1))) else (none)) else (none)) = some r := by first | (rw [hji12] at H; exact H) | (simp only [hji12] at H ⊢; exact H)
         have hji12_ : (IntKind.u32.wrap ((rd l0 x15_1) * 2 ^ min a1.toNat 32)) = ji12 := hji12
         have hji12z : a1 ≤ 32 → (IntKind.u32.wrap ((rd l0 x15_1) * 2 ^ a1.toNat)) = ji12 := shl_small hji12
         by_cases c13 : x15_1 < (x5_1.length : Int)
         ·rw [if_pos c13] at H
          have c13b0 : decide (x15_1 < (x5_1.length : Int)) = true := decide_eq_true c13
          clear c13
          obtain ⟨y136, hy136⟩ : ∃ y_ : List Int, y_ = (x5_1.set (x15_1 : Int).toNat (Go.bits .or .u32 (ji12) x6_1)) := ⟨_, rfl⟩
          replace H : (if 0 ≤ (wrap64 (32 - a1)) then (nat_shift.l0 k1 l0 a1 y136 ((shr .u64 (IntKind.u64.wrap (rd l0 x15_1)) (wrap64 (32 - a1))) % 4294967296) l0 (l0.length : Int) (wrap64 (x15_1 + 1))) else (none)) = some r := by first | (rw [hy136]; with_reducible exact H) | (have H2_ := (Option.bind_some _ _).symm.trans H; rw [hy136]; with_reducible exact H2_) | (have H2_ := (Option.bind_some _ _).symm.trans H; with_reducible exact H2_) | with_reducible exact H | (rw [hy136]; exact H) | exact H
          have Ny136 := Aside0.mk hy136
          clear hy136
          obtain ⟨ji15, hji15⟩ : ∃ j_ : Int, (wrap64 (32 - a1)) = j_ := ⟨_, rfl⟩
          replace H : (if 0 ≤ (ji15) then (nat_shift.l0 k1 l0 a1 y136 ((shr .u64 (IntKind.u64.wrap (rd l0 x15_1)) (ji15)) % 4294967296) l0 (l0.length : Int) (wrap64 (x15_1 + 1))) else (none)) = some r := by first | (rw [hji15] at H; exact H) | (simp only [hji15] at H ⊢; exact H)
          have hji15w : (IntKind.i64.wrap (32 - a1)) = ji15 := (i64_w _).trans hji15
          by_cases c16 : 0 ≤ (ji15)
          ·rw [if_pos c16] at H
           have c16b0 := eq_true c16
           have c16b1 : decide (0 ≤ (ji15)) = true := decide_eq_true c16
           clear c16
           obtain ⟨ji17, hji17⟩ : ∃ j_ : Int, (shr .u64 (IntKind.u64.wrap (rd l0 x15_1)) (ji15)) = j_ := ⟨_, rfl⟩
           replace H : (nat_shift.l0 k1 l0 a1 y136 ((ji17) % 4294967296) l0 (l0.length : Int) (wrap64 (x15_1 + 1))) = some r := by first | (rw [hji17] at H; exact H) | (simp only [hji17] at H ⊢; exact H)
           have hji17_ : ((IntKind.u64.wrap (rd l0 x15_1)) / 2 ^ min (ji15).toNat 64) = ji17 := hji17
           have hji17z : (ji15) ≤ 64 → ((IntKind.u64.wrap (rd l0 x15_1)) / 2 ^ (ji15).toNat) = ji17 := shr_small hji17
           have H' := Aside0.mk H
           clear H
           have p135 : 0 ≤ (x15_1 : Int) := of_decide_eq_true (by first | (with_reducible assumption) | assumption)
           have q135 : x15_1 < (l0.length : Int) := of_decide_eq_true (by first | (with_reducible assumption) | assumption)
           obtain ⟨ad135, e135, hx135_0⟩ := Kd.at_int HR0.out x15_1 p135 q135
           cases e135
           replace hx135_0 := (HB.out.cell (World.block_lt_of_cell? w _ hx135_0)).trans hx135_0
           replace p135 := eq_true p135
           replace q135 := eq_true q135
           have p14 : 0 ≤ (x15_1 : Int) := of_decide_eq_true (by first | (with_reducible assumption) | assumption)
           have q14 : (x15_1 : Int) < ((x5_1.length : Int) : Int) := of_decide_eq_true (by first | (with_reducible assumption) | assumption)
           obtain ⟨go14, co14, eo14, gb14, gl14, cl14, HG14⟩ := Kd.R_form HO_5.out (by omega)
           (first | cases eo14 | (injection eo14 with ea_ en_ ec_; (first | subst ea_ | (injection ea_ with ea_; subst ea_)); subst ec_; clear en_))
           have GB14 := Aside0.mk gb14
           have GG14 := Aside0.mk HG14
           clear gb14 gl14 HG14
           obtain ⟨hx14_0, hf14_0⟩ := Kd.R_celln 0 HO_5.out (x15_1 : Int) p14 q14
           replace p14 := eq_true p14
           replace q14 := eq_true q14
           have HP18 := Kd.R_putg HO_5.out (x15_1 : Int) (Go.bits .or .u32 (ji12) x6_1)
           go_wp2_with (first | ((with_reducible refine gate_store (t := 55) (p := 27) rfl ?_); refine store_event (t := 55) (p := 27) (v := ?vo_w19) (w1 := (wr.setCell ⟨go14, (x15_1 : Int).toNat, none⟩ (.int .u32 (Go.bits .or .u32 (ji12) x6_1)))) ?hg ?ho ?hn ?hr ?_; (case ho => rfl); (case hg => rfl); (case hn => rfl); (case hr => first | (go_simp; done) | (go_simp; rfl)); intro w19 hw; have hg : wr.grownBy w19 (some go14) := (by rw [hw]; exact HP18.2); have hp_ : Kd.R (Kd.int .u32) 55 w19 w.heap.size (fun _ => True) (.slice (some ⟨go14, 0, none⟩) x5_1.length co14) y136 := (by rw [hw, Ny136.out]; exact HP18.1); clear HP18; have n0_ := Aside0.mk (hp_); have n1_ := Aside0.mk ((by rw [hw]; exact below_set (HB.out) GB14.out : Below w.heap.size w w19)); clear HO_5; clear HB; have HO_5 := n0_; have HB := n1_; clear n0_ n1_; clear hg hw hp_))
           go_roundg k1
           case measure => have := HK1.out; omega
           case rel => exact ⟨(y136), ((ji17) % 4294967296), (wrap64 (x15_1 + 1)), (by first | rfl | (simp; done) | (simp only [← hji17] <;> (first | rfl | simp)) | (simp [*]; done)), (by first | rfl | (simp; done) | (simp [*]; done)), H', ⟨by have := HK1.out; omega⟩, ⟨by (with_reducible repeat (first | apply Kd.R_alloc | apply Kd.R_drewN | apply Kd.R_drew)); exact HO_5.out⟩, ⟨by repeat (first | (with_reducible first | exact HB.out | apply below_alloc | apply pw_below_drewN | apply below_drew1) | exact HB.out)⟩⟩
          ·rw [if_neg c16] at H
           exact absurd H (by simp)
         ·rw [if_neg c13] at H
          exact absurd H (by simp)
        ·rw [if_neg c11] at H
         exact absurd H (by simp)
       ·rw [if_neg c10] at H
        exact absurd H (by simp)
      ·rw [if_neg c9] at H
       exact absurd H (by simp)
     ·rw [if_neg c8] at H
      have c8b0 : decide (x15_1 < (l0.length : Int)) = false := decide_eq_false c8
      (try simp only [hl5_1] at c8b0)
      clear c8
      by_cases c20 : 0 ≤ (l0.length : Int)
      ·rw [if_pos c20] at H
       have c20b0 : decide (0 ≤ (l0.length : Int)) = true := decide_eq_true c20
       have c20b1 : decide (0 ≤ l0.length) = true := decide_eq_true (by omega)
       clear c20
       by_cases c21 : (l0.length : Int) < (x5_1.length : Int)
       ·rw [if_pos c21] at H
        have c21b0 : decide ((l0.length : Int) < (x5_1.length : Int)) = true := decide_eq_true c21
        have c21b1 : decide (l0.length < x5_1.length) = true := decide_eq_true (Int.ofNat_lt.mp c21)
        clear c21
        obtain ⟨y137, hy137⟩ : ∃ y_ : List Int, y_ = (x5_1.set ((l0.length : Int) : Int).toNat x6_1) := ⟨_, rfl⟩
        replace H : (some y137) = some r := by first | (rw [hy137]; with_reducible exact H) | (have H2_ := (Option.bind_some _ _).symm.trans H; rw [hy137]; with_reducible exact H2_) | (have H2_ := (Option.bind_some _ _).symm.trans H; with_reducible exact H2_) | with_reducible exact H | (rw [hy137]; exact H) | exact H
        have Ny137 := Aside0.mk hy137
        clear hy137
        obtain rfl := Option.some.inj H
        have p22 : 0 ≤ ((l0.length : Int) : Int) := of_decide_eq_true (by first | (with_reducible assumption) | assumption)
        have q22 : ((l0.length : Int) : Int) < ((x5_1.length : Int) : Int) := of_decide_eq_true (by first | (with_reducible assumption) | assumption)
        obtain ⟨go22, co22, eo22, gb22, gl22, cl22, HG22⟩ := Kd.R_form HO_5.out (by omega)
        (first | cases eo22 | (injection eo22 with ea_ en_ ec_; (first | subst ea_ | (injection ea_ with ea_; subst ea_)); subst ec_; clear en_))
        have GB22 := Aside0.mk gb22
        have GG22 := Aside0.mk HG22
        clear gb22 gl22 HG22
        obtain ⟨hx22_0, hf22_0⟩ := Kd.R_celln 0 HO_5.out ((l0.length : Int) : Int) p22 q22
        replace p22 := eq_true p22
        replace q22 := eq_true q22
        have HP23 := Kd.R_putg HO_5.out ((l0.length : Int) : Int) x6_1
        simp only [Int.toNat_natCast] at hx22_0 hf22_0
        go_wp2_with (first | ((with_reducible refine gate_store (t := 55) (p := 39) rfl ?_); refine store_event (t := 55) (p := 39) (v := ?vo_w24) (w1 := (wr.setCell ⟨go22, ((l0.length : Int) : Int).toNat, none⟩ (.int .u32 x6_1))) ?hg ?ho ?hn ?hr ?_; (case ho => rfl); (case hg => rfl); (case hn => rfl); (case hr => first | (go_simp; done) | (go_simp; rfl)); intro w24 hw; have hg : wr.grownBy w24 (some go22) := (by rw [hw]; exact HP23.2); have hp_ : Kd.R (Kd.int .u32) 55 w24 w.heap.size (fun _ => True) (.slice (some ⟨go22, 0, none⟩) x5_1.length co22) y137 := (by rw [hw, Ny137.out]; exact HP23.1); clear HP23; have n0_ := Aside0.mk (hp_); have n1_ := Aside0.mk ((by rw [hw]; exact below_set (HB.out) GB22.out : Below w.heap.size w w24)); clear HO_5; clear HB; have HO_5 := n0_; have HB := n1_; clear n0_ n1_; clear hg hw hp_))
        go_ret
        exact ⟨_, by first | rfl | (simp [errW_none, errW_some] <;> rfl) | (simp only [← hji3]; first | rfl | (simp [errW_none, errW_some] <;> rfl)) | (simp [*, errW_none, errW_some] <;> rfl), by (with_reducible repeat (first | apply Kd.R_alloc | apply Kd.R_drewN | apply Kd.R_drew)); exact HO_5.out, by repeat (first | (with_reducible first | exact HB.out | apply below_alloc | apply pw_below_drewN | apply below_drew1) | exact HB.out)⟩
       ·rw [if_neg c21] at H
        exact absurd H (by simp)
      ·rw [if_neg c20] at H
       exact absurd H (by simp)
  ·rw [if_neg c5] at H
   exact absurd H (by simp)
 ·rw [if_neg c4] at H
  exact absurd H (by simp)
end Go.Proofs.YtakickbnjbedfaaDoor.PA
end
section
namespace Go.Proofs.YtakickbnjbedfaaDoor.PA
open Go.RowKit Go.Proofs.YtakickbnjbedfaaDoorW.PrintWords Go.Proofs.YtakickbnjbedfaaDoorW.PrintLast Go.Proofs.YtakickbnjbedfaaDoorW.PrintMore
attribute [local go_sem] max2_int min2_int max_two min_two
set_option linter.unusedVariables false
set_option linter.unusedSimpArgs false
mutual
def nat_guess.l0 : Nat → List Int → List Int → Int → Int → Int → Int → Option (Int)
 | 0, _, _, _, _, _, _ => none
 | k + 1, x0, x1, x2, x7, x9, x10 => if x9 > 4294967295 then (nat_guess.j1 k x0 x1 x2 x7 x9 x10 true) else (if 0 ≤ (wrap64 (x7 - 2)) then (if (wrap64 (x7 - 2)) < (x1.length : Int) then (if 0 ≤ (wrap64 ((wrap64 (x2 + x7)) - 2)) then (if (wrap64 ((wrap64 (x2 + x7)) - 2)) < (x0.length : Int) then (nat_guess.j1 k x0 x1 x2 x7 x9 x10 (decide ((IntKind.u64.wrap (x9 * (IntKind.u64.wrap (rd x1 (wrap64 (x7 - 2)))))) > (Go.bits .or .u64 (IntKind.u64.wrap (x10 * 4294967296)) (IntKind.u64.wrap (rd x0 (wrap64 ((wrap64 (x2 + x7)) - 2)))))))) else (none)) else (none)) else (none)) else (none))
def nat_guess.j1 : Nat → List Int → List Int → Int → Int → Int → Int → Bool → Option (Int)
 | 0, _, _, _, _, _, _, _ => none
 | k + 1, x0, x1, x2, x7, x9, x10, x69 => if x69 = true then (if 0 ≤ (wrap64 (x7 - 1)) then (if (wrap64 (x7 - 1)) < (x1.length : Int) then (if (IntKind.u64.wrap (x10 + (IntKind.u64.wrap (rd x1 (wrap64 (x7 - 1)))))) > 4294967295 then (some (IntKind.u64.wrap (x9 - 1))) else (nat_guess.l0 k x0 x1 x2 x7 (IntKind.u64.wrap (x9 - 1)) (IntKind.u64.wrap (x10 + (IntKind.u64.wrap (rd x1 (wrap64 (x7 - 1)))))))) else (none)) else (none)) else (some x9)
end
def nat_guess.f (k : Nat) (l0 : List Int) (l1 : List Int) (a2 : Int) : Option (Int) := if 0 ≤ (wrap64 (a2 + (l1.length : Int))) then (if (wrap64 (a2 + (l1.length : Int))) < (l0.length : Int) then (if 0 ≤ (wrap64 ((wrap64 (a2 + (l1.length : Int))) - 1)) then (if (wrap64 ((wrap64 (a2 + (l1.length : Int))) - 1)) < (l0.length : Int) then (if 0 ≤ (wrap64 ((l1.length : Int) - 1)) then (if (wrap64 ((l1.length : Int) - 1)) < (l1.length : Int) then (if (IntKind.u64.wrap (rd l1 (wrap64 ((l1.length : Int) - 1)))) = 0 then (none) else (nat_guess.l0 k l0 l1 a2 (l1.length : Int) (IntKind.u64.wrap (Int.tdiv (Go.bits .or .u64 (IntKind.u64.wrap ((IntKind.u64.wrap (rd l0 (wrap64 (a2 + (l1.length : Int))))) * 4294967296)) (IntKind.u64.wrap (rd l0 (wrap64 ((wrap64 (a2 + (l1.length : Int))) - 1))))) (IntKind.u64.wrap (rd l1 (wrap64 ((l1.length : Int) - 1)))))) (Int.tmod (Go.bits .or .u64 (IntKind.u64.wrap ((IntKind.u64.wrap (rd l0 (wrap64 (a2 + (l1.length : Int))))) * 4294967296)) (IntKind.u64.wrap (rd l0 (wrap64 ((wrap64 (a2 + (l1.length : Int))) - 1))))) (IntKind.u64.wrap (rd l1 (wrap64 ((l1.length : Int) - 1))))))) else (none)) else (none)) else (none)) else (none)) else (none)) else (none)
set_option maxHeartbeats 8000000 in
set_option maxRecDepth 100000 in
theorem nat_guess.calls (k : Nat) (A0 : Option Addr) (c0 : Nat) (l0 : List Int) (A1 : Option Addr) (c1 : Nat) (l1 : List Int) (a2 : Int) (r : Int) (w : World) (hr0 : Kd.C (Kd.int .u32) w A0 l0.length l0) (hc0 : l0.length ≤ c0) (hr1 : Kd.C (Kd.int .u32) w A1 l1.length l1) (hc1 : l1.length ≤ c1) (h : nat_guess.f k l0 l1 a2 = some r) :
  Calls Tryd.prog 187 #[.slice A0 l0.length c0, .slice A1 l1.length c1, .int .i64 a2] w fun e w' => e = .returned (.int .u64 r) ∧ Drawn0 w w' := by
 have HR0 := Aside0.mk hr0
 have HC0 := Aside0.mk hc0
 clear hr0 hc0
 have HR1 := Aside0.mk hr1
 have HC1 := Aside0.mk hc1
 clear hr1 hc1
 have H : (if 0 ≤ (wrap64 (a2 + (l1.length : Int))) then (if (wrap64 (a2 + (l1.length : Int))) < (l0.length : Int) then (if 0 ≤ (wrap64 ((wrap64 (a2 + (l1.length : Int))) - 1)) then (if (wrap64 ((wrap64 (a2 + (l1.length : Int))) - 1)) < (l0.length : Int) then (if 0 ≤ (wrap64 ((l1.length : Int) - 1)) then (if (wrap64 ((l1.length : Int) - 1)) < (l1.length : Int) then (if (IntKind.u64.wrap (rd l1 (wrap64 ((l1.length : Int) - 1)))) = 0 then (none) else (nat_guess.l0 k l0 l1 a2 (l1.length : Int) (IntKind.u64.wrap (Int.tdiv (Go.bits .or .u64 (IntKind.u64.wrap ((IntKind.u64.wrap (rd l0 (wrap64 (a2 + (l1.length : Int))))) * 4294967296)) (IntKind.u64.wrap (rd l0 (wrap64 ((wrap64 (a2 + (l1.length : Int))) - 1))))) (IntKind.u64.wrap (rd l1 (wrap64 ((l1.length : Int) - 1)))))) (Int.tmod (Go.bits .or .u64 (IntKind.u64.wrap ((IntKind.u64.wrap (rd l0 (wrap64 (a2 + (l1.length : Int))))) * 4294967296)) (IntKind.u64.wrap (rd l0 (wrap64 ((wrap64 (a2 + (l1.length : Int))) - 1))))) (IntKind.u64.wrap (rd l1 (wrap64 ((l1.length : Int) - 1))))))) else (none)) else (none)) else (none)) else (none)) else (none)) else (none)) = some r := h
 clear h
 obtain ⟨ji4, hji4⟩ : ∃ j_ : Int, (wrap64 (a2 + (l1.length : Int))) = j_ := ⟨_, rfl⟩
 replace H : (if 0 ≤ (ji4) then (if (ji4) < (l0.length : Int) then (if 0 ≤ (wrap64 ((ji4) - 1)) then (if (wrap64 ((ji4) - 1)) < (l0.length : Int) then (if 0 ≤ (wrap64 ((l1.length : Int) - 1)) then (if (wrap64 ((l1.length : Int) - 1)) < (l1.length : Int) then (if (IntKind.u64.wrap (rd l1 (wrap64 ((l1.length : Int) - 1)))) = 0 then (none) else (nat_guess.l0 k l0 l1 a2 (l1.length : Int) (IntKind.u64.wrap (Int.tdiv (Go.bits .or .u64 (IntKind.u64.wrap ((IntKind.u64.wrap (rd l0 (ji4))) * 4294967296)) (IntKind.u64.wrap (rd l0 (wrap64 ((ji4) - 1))))) (IntKind.u64.wrap (rd l1 (wrap64 ((l1.length : Int) - 1)))))) (Int.tmod (Go.bits .or .u64 (IntKind.u64.wrap ((IntKind.u64.wrap (rd l0 (ji4))) * 4294967296)) (IntKind.u64.wrap (rd l0 (wrap64 ((ji4) - 1))))) (IntKind.u64.wrap (rd l1 (wrap64 ((l1.length : Int) - 1))))))) else (none)) else (none)) else (none)) else (none)) else (none)) else (none)) = some r := by first | (rw [hji4] at H; exact H) | (simp only [hji4] at H ⊢; exact H)
 have hji4w : (IntKind.i64.wrap (a2 + (l1.length : Int))) = ji4 := (i64_w _).trans hji4
 by_cases c5 : 0 ≤ (ji4)
 ·rw [if_pos c5] at H
  have c5b0 : decide (0 ≤ (ji4)) = true := decide_eq_true c5
  clear c5
  by_cases c6 : (ji4) < (l0.length : Int)
  ·rw [if_pos c6] at H
   have c6b0 : decide ((ji4) < (l0.length : Int)) = true := decide_eq_true c6
   clear c6
   obtain ⟨ji7, hji7⟩ : ∃ j_ : Int, (wrap64 ((ji4) - 1)) = j_ := ⟨_, rfl⟩
   replace H : (if 0 ≤ (ji7) then (if (ji7) < (l0.length : Int) then (if 0 ≤ (wrap64 ((l1.length : Int) - 1)) then (if (wrap64 ((l1.length : Int) - 1)) < (l1.length : Int) then (if (IntKind.u64.wrap (rd l1 (wrap64 ((l1.length : Int) - 1)))) = 0 then (none) else (nat_guess.l0 k l0 l1 a2 (l1.length : Int) (IntKind.u64.wrap (Int.tdiv (Go.bits .or .u64 (IntKind.u64.wrap ((IntKind.u64.wrap (rd l0 (ji4))) * 4294967296)) (IntKind.u64.wrap (rd l0 (ji7)))) (IntKind.u64.wrap (rd l1 (wrap64 ((l1.length : Int) - 1)))))) (Int.tmod (Go.bits .or .u64 (IntKind.u64.wrap ((IntKind.u64.wrap (rd l0 (ji4))) * 4294967296)) (IntKind.u64.wrap (rd l0 (ji7)))) (IntKind.u64.wrap (rd l1 (wrap64 ((l1.length : Int) - 1))))))) else (none)) else (none)) else (none)) else (none)) = some r := by first | (rw [hji7] at H; exact H) | (simp only [hji7] at H ⊢; exact H)
   have hji7w : (IntKind.i64.wrap ((ji4) - 1)) = ji7 := (i64_w _).trans hji7
   by_cases c8 : 0 ≤ (ji7)
   ·rw [if_pos c8] at H
    have c8b0 : decide (0 ≤ (ji7)) = true := decide_eq_true c8
    clear c8
    by_cases c9 : (ji7) < (l0.length : Int)
    ·rw [if_pos c9] at H
     have c9b0 : decide ((ji7) < (l0.length : Int)) = true := decide_eq_true c9
     clear c9
     obtain ⟨ji10, hji10⟩ : ∃ j_ : Int, (wrap64 ((l1.length : Int) - 1)) = j_ := ⟨_, rfl⟩
     replace H : (if 0 ≤ (ji10) then (if (ji10) < (l1.length : Int) then (if (IntKind.u64.wrap (rd l1 (ji10))) = 0 then (none) else (nat_guess.l0 k l0 l1 a2 (l1.length : Int) (IntKind.u64.wrap (Int.tdiv (Go.bits .or .u64 (IntKind.u64.wrap ((IntKind.u64.wrap (rd l0 (ji4))) * 4294967296)) (IntKind.u64.wrap (rd l0 (ji7)))) (IntKind.u64.wrap (rd l1 (ji10))))) (Int.tmod (Go.bits .or .u64 (IntKind.u64.wrap ((IntKind.u64.wrap (rd l0 (ji4))) * 4294967296)) (IntKind.u64.wrap (rd l0 (ji7)))) (IntKind.u64.wrap (rd l1 (ji10)))))) else (none)) else (none)) = some r := by first | (rw [hji10] at H; exact H) | (simp only [hji10] at H ⊢; exact H)
     have hji10w : (IntKind.i64.wrap ((l1.length : Int) - 1)) = ji10 := (i64_w _).trans hji10
     by_cases c11 : 0 ≤ (ji10)
     ·rw [if_pos c11] at H
      have c11b0 : decide (0 ≤ (ji10)) = true := decide_eq_true c11
      clear c11
      by_cases c12 : (ji10) < (l1.length : Int)
      ·rw [if_pos c12] at H
       have c12b0 : decide ((ji10) < (l1.length : Int)) = true := decide_eq_true c12
       clear c12
       by_cases c13 : (IntKind.u64.wrap (rd l1 (ji10))) = 0
       ·rw [if_pos c13] at H
        exact absurd H (by simp)
       ·rw [if_neg c13] at H
        have c13b0 : ((IntKind.u64.wrap (rd l1 (ji10))) == 0) = false := beq_eq_false_iff_ne.mpr c13
        have c13b1 : ((IntKind.u64.wrap (rd l1 (ji10))) != 0) = true := bne_iff_ne.mpr c13
        have H' := Aside0.mk H
        clear H
        have p138 : 0 ≤ ((ji4) : Int) := of_decide_eq_true (by first | (with_reducible assumption) | assumption)
        have q138 : (ji4) < (l0.length : Int) := of_decide_eq_true (by first | (with_reducible assumption) | assumption)
        obtain ⟨ad138, e138, hx138_0⟩ := Kd.at_int HR0.out (ji4) p138 q138
        cases e138
        replace p138 := eq_true p138
        replace q138 := eq_true q138
        have p139 : 0 ≤ ((ji7) : Int) := of_decide_eq_true (by first | (with_reducible assumption) | assumption)
        have q139 : (ji7) < (l0.length : Int) := of_decide_eq_true (by first | (with_reducible assumption) | assumption)
        obtain ⟨ad139, e139, hx139_0⟩ := Kd.at_int HR0.out (ji7) p139 q139
        obtain rfl : ad138 = ad139 := (by injection e139)
        replace p139 := eq_true p139
        replace q139 := eq_true q139
        have p140 : 0 ≤ ((ji10) : Int) := of_decide_eq_true (by first | (with_reducible assumption) | assumption)
        have q140 : (ji10) < (l1.length : Int) := of_decide_eq_true (by first | (with_reducible assumption) | assumption)
        obtain ⟨ad140, e140, hx140_0⟩ := Kd.at_int HR1.out (ji10) p140 q140
        cases e140
        replace p140 := eq_true p140
        replace q140 := eq_true q140
        have p141 : 0 ≤ ((ji10) : Int) := of_decide_eq_true (by first | (with_reducible assumption) | assumption)
        have q141 : (ji10) < (l1.length : Int) := of_decide_eq_true (by first | (with_reducible assumption) | assumption)
        obtain ⟨ad141, e141, hx141_0⟩ := Kd.at_int HR1.out (ji10) p141 q141
        obtain rfl : ad140 = ad141 := (by injection e141)
        replace p141 := eq_true p141
        replace q141 := eq_true q141
        go_enter Tryd.func187, Tryd.ntmps187
        go_wp2
        repeat (go_quiet (fail); try go_wp2)
        go_loopg [9, 10] k (fun kq v9 v10 w' => ∃ (x9_1 : Int) (x10_1 : Int), v9 = .int .u64 x9_1 ∧ v10 = .int .u64 x10_1 ∧ Aside0 (nat_guess.l0 kq l0 l1 a2 (l1.length : Int) x9_1 x10_1 = some r) ∧ Aside0 (kq ≤ k) ∧ Drawn0 w w')
        case atStart => exact ⟨(IntKind.u64.wrap (Int.tdiv (Go.bits .or .u64 (IntKind.u64.wrap ((IntKind.u64.wrap (rd l0 (ji4))) * 4294967296)) (IntKind.u64.wrap (rd l0 (ji7)))) (IntKind.u64.wrap (rd l1 (ji10))))), (Int.tmod (Go.bits .or .u64 (IntKind.u64.wrap ((IntKind.u64.wrap (rd l0 (ji4))) * 4294967296)) (IntKind.u64.wrap (rd l0 (ji7)))) (IntKind.u64.wrap (rd l1 (ji10)))), (by first | rfl | (simp; done) | (simp only [← hji4, ← hji7, ← hji10] <;> (first | rfl | simp)) | (simp [*]; done)), (by first | rfl | (simp; done) | (simp only [← hji4, ← hji7, ← hji10] <;> (first | rfl | simp)) | (simp [*]; done)), H', ⟨Nat.le_refl _⟩, by repeat (first | exact Drawn0.refl _ | apply Drawn0.step)⟩
        case round =>
         clear H'
         try clear c1
         try clear p1
         try clear q1
         try clear hx1
         try clear p2
         try clear c5
         try clear c5b0
         try clear c6
         try clear c6b0
         try clear p6
         try clear c8
         try clear c8b0
         try clear c9
         try clear c9b0
         try clear c11
         try clear c11b0
         try clear c12
         try clear c12b0
         try clear c13
         try clear c13b0
         try clear c13b1
         try clear p13
         try clear q13
         try clear hx13
         try clear hx138_0
         try clear hx139_0
         try clear hx140_0
         try clear hx141_0
         try clear p138
         try clear p139
         try clear p140
         try clear p141
         try clear q138
         try clear q139
         try clear q140
         try clear q141
         obtain ⟨x9_1, x10_1, rfl, rfl, HA, HK1, ⟨m1, rfl⟩⟩ := hrel
         cases gk with
         | zero => exact absurd HA.out (by simp [nat_guess.l0])
         | succ k1 =>
          have H := HA.out
          clear HA
          simp only [nat_guess.l0] at H
          have HC14 := Aside0.mk H
          clear H
          go_upto_region 4 with (fail)
          repeat (go_quiet (fail); go_upto_region 4 with (fail))
          go_cut [69] (fun v69 wc => ∃ (kq : Nat) (x69_13 : Bool), v69 = .bool x69_13 ∧ Aside0 (nat_guess.j1 kq l0 l1 a2 (l1.length : Int) x9_1 x10_1 x69_13 = some r) ∧ Aside0 (kq ≤ k1) ∧ Drawn0 w wc)
          case first =>
           have H := HC14.out
           clear HC14
           by_cases c15 : x9_1 > 4294967295
           ·rw [if_pos c15] at H
            have c15b0 : decide (4294967295 < x9_1) = true := decide_eq_true c15
            clear c15
            (first | rw [c15b0] | (simp only [i64_w, i32_w]; rw [c15b0]) | skip)
            have H' := Aside0.mk H
            clear H
            go_wp2
            repeat (go_quiet (fail); try go_wp2)
            go_meet
            case rel => exact ⟨_, (true), (by first | rfl | (simp; done) | (simp [*]; done)), H', ⟨by have := HK1.out; first | omega | exact Nat.le_refl _⟩, by repeat (first | exact Drawn0.refl _ | apply Drawn0.step)⟩
           ·rw [if_neg c15] at H
            have c15b0 : decide (4294967295 < x9_1) = false := decide_eq_false c15
            (try simp only [hl5_1] at c15b0)
            clear c15
            (first | rw [c15b0] | (simp only [i64_w, i32_w]; rw [c15b0]) | skip)
            obtain ⟨ji16, hji16⟩ : ∃ j_ : Int, (wrap64 ((l1.length : Int) - 2)) = j_ := ⟨_, rfl⟩
            replace H : (if 0 ≤ (ji16) then (if (ji16) < (l1.length : Int) then (if 0 ≤ (wrap64 ((wrap64 (a2 + (l1.length : Int))) - 2)) then (if (wrap64 ((wrap64 (a2 + (l1.length : Int))) - 2)) < (l0.length : Int) then (nat_guess.j1 k1 l0 l1 a2 (l1.length : Int) x9_1 x10_1 (decide ((IntKind.u64.wrap (x9_1 * (IntKind.u64.wrap (rd l1 (ji16))))) > (Go.bits .or .u64 (IntKind.u64.wrap (x10_1 * 4294967296)) (IntKind.u64.wrap (rd l0 (wrap64 ((wrap64 (a2 + (l1.length : Int))) - 2)))))))) else (none)) else (none)) else (none)) else (none)) = some r := by first | (rw [hji16] at H; exact H) | (simp only [hji16] at H ⊢; exact H)
            have hji16w : (IntKind.i64.wrap ((l1.length : Int) - 2)) = ji16 := (i64_w _).trans hji16
            by_cases c17 : 0 ≤ (ji16)
            ·rw [if_pos c17] at H
             have c17b0 : decide (0 ≤ (ji16)) = true := decide_eq_true c17
             clear c17
             by_cases c18 : (ji16) < (l1.length : Int)
             ·rw [if_pos c18] at H
              have c18b0 : decide ((ji16) < (l1.length : Int)) = true := decide_eq_true c18
              clear c18
              obtain ⟨ji19, hji19⟩ : ∃ j_ : Int, (wrap64 ((wrap64 (a2 + (l1.length : Int))) - 2)) = j_ := ⟨_, rfl⟩
              replace H : (if 0 ≤ (ji19) then (if (ji19) < (l0.length : Int) then (nat_guess.j1 k1 l0 l1 a2 (l1.length : Int) x9_1 x10_1 (decide ((IntKind.u64.wrap (x9_1 * (IntKind.u64.wrap (rd l1 (ji16))))) > (Go.bits .or .u64 (IntKind.u64.wrap (x10_1 * 4294967296)) (IntKind.u64.wrap (rd l0 (ji19))))))) else (none)) else (none)) = some r := by first | (rw [hji19] at H; exact H) | (simp only [hji19] at H ⊢; exact H)
              have hji19w : (IntKind.i64.wrap ((wrap64 (a2 + (l1.length : Int))) - 2)) = ji19 := (i64_w _).trans hji19
              have hji19y : (IntKind.i64.wrap (ji4 - 2)) = ji19 := by rw [← hji4]; exact hji19w
              by_cases c20 : 0 ≤ (ji19)
              ·rw [if_pos c20] at H
               have c20b0 : decide (0 ≤ (ji19)) = true := decide_eq_true c20
               clear c20
               by_cases c21 : (ji19) < (l0.length : Int)
               ·rw [if_pos c21] at H
                have c21b0 : decide ((ji19) < (l0.length : Int)) = true := decide_eq_true c21
                clear c21
                have H' := Aside0.mk H
                clear H
                have p142 : 0 ≤ ((ji16) : Int) := of_decide_eq_true (by first | (with_reducible assumption) | assumption)
                have q142 : (ji16) < (l1.length : Int) := of_decide_eq_true (by first | (with_reducible assumption) | assumption)
                obtain ⟨ad142, e142, hx142_0⟩ := Kd.at_int HR1.out (ji16) p142 q142
                obtain rfl : ad140 = ad142 := (by injection e142)
                replace p142 := eq_true p142
                replace q142 := eq_true q142
                have p143 : 0 ≤ ((ji19) : Int) := of_decide_eq_true (by first | (with_reducible assumption) | assumption)
                have q143 : (ji19) < (l0.length : Int) := of_decide_eq_true (by first | (with_reducible assumption) | assumption)
                obtain ⟨ad143, e143, hx143_0⟩ := Kd.at_int HR0.out (ji19) p143 q143
                obtain rfl : ad138 = ad143 := (by injection e143)
                replace p143 := eq_true p143
                replace q143 := eq_true q143
                go_wp2
                repeat (go_quiet (fail); try go_wp2)
                go_meet
                case rel => exact ⟨_, (decide ((IntKind.u64.wrap (x9_1 * (IntKind.u64.wrap (rd l1 (ji16))))) > (Go.bits .or .u64 (IntKind.u64.wrap (x10_1 * 4294967296)) (IntKind.u64.wrap (rd l0 (ji19)))))), (by first | rfl | (simp; done) | (simp only [← hji16, ← hji19] <;> (first | rfl | simp)) | (simp [*]; done)), H', ⟨by have := HK1.out; first | omega | exact Nat.le_refl _⟩, by repeat (first | exact Drawn0.refl _ | apply Drawn0.step)⟩
               ·rw [if_neg c21] at H
                exact absurd H (by simp)
              ·rw [if_neg c20] at H
               exact absurd H (by simp)
             ·rw [if_neg c18] at H
              exact absurd H (by simp)
            ·rw [if_neg c17] at H
             exact absurd H (by simp)
          case rest =>
           clear HC14
           try clear c1
           try clear p1
           try clear q1
           try clear hx1
           try clear c2
           try clear p2
           try clear c5
           try clear c5b0
           try clear c6
           try clear c6b0
           try clear p6
           try clear c8
           try clear c8b0
           try clear c9
           try clear c9b0
           try clear c11
           try clear c11b0
           try clear c12
           try clear c12b0
           try clear c13
           try clear c13b0
           try clear c13b1
           try clear p13
           try clear q13
           try clear hx13
           try clear p14
           try clear q14
           try clear hx14
           try clear c15
           try clear c15b0
           try clear c17
           try clear c17b0
           try clear c18
           try clear c18b0
           try clear c20
           try clear c20b0
           try clear c21
           try clear c21b0
           try clear hx138_0
           try clear hx139_0
           try clear hx140_0
           try clear hx141_0
           try clear hx142_0
           try clear hx143_0
           try clear p1
           try clear p13
           try clear p138
           try clear p139
           try clear p140
           try clear p141
           try clear p142
           try clear p143
           try clear p2
           try clear p6
           try clear q1
           try clear q13
           try clear q138
           try clear q139
           try clear q140
           try clear q141
           try clear q142
           try clear q143
           obtain ⟨kq, x69_13, rfl, HA, HJ13, ⟨mc13, rfl⟩⟩ := hcut
           cases kq with
           | zero => exact absurd HA.out (by simp [nat_guess.j1])
           | succ kj13 =>
            have H := HA.out
            clear HA
            simp only [nat_guess.j1] at H
            by_cases c22 : x69_13 = true
            ·subst c22
             have H1 : (if 0 ≤ (wrap64 ((l1.length : Int) - 1)) then (if (wrap64 ((l1.length : Int) - 1)) < (l1.length : Int) then (if (IntKind.u64.wrap (x10_1 + (IntKind.u64.wrap (rd l1 (wrap64 ((l1.length : Int) - 1)))))) > 4294967295 then (some (IntKind.u64.wrap (x9_1 - 1))) else (nat_guess.l0 kj13 l0 l1 a2 (l1.length : Int) (IntKind.u64.wrap (x9_1 - 1)) (IntKind.u64.wrap (x10_1 + (IntKind.u64.wrap (rd l1 (wrap64 ((l1.length : Int) - 1)))))))) else (none)) else (none)) = some r := by rw [if_pos rfl] at H; exact H
             clear H
             have H := H1
             clear H1
             obtain ⟨ji23, hji23⟩ : ∃ j_ : Int, (wrap64 ((l1.length : Int) - 1)) = j_ := ⟨_, rfl⟩
             replace H : (if 0 ≤ (ji23) then (if (ji23) < (l1.length : Int) then (if (IntKind.u64.wrap (x10_1 + (IntKind.u64.wrap (rd l1 (ji23))))) > 4294967295 then (some (IntKind.u64.wrap (x9_1 - 1))) else (nat_guess.l0 kj13 l0 l1 a2 (l1.length : Int) (IntKind.u64.wrap (x9_1 - 1)) (IntKind.u64.wrap (x10_1 + (IntKind.u64.wrap (rd l1 (ji23))))))) else (none)) else (none)) = some r := by first | (rw [hji23] at H; exact H) | (simp only [hji23] at H ⊢; exact H)
             have hji23w : (IntKind.i64.wrap ((l1.length : Int) - 1)) = ji23 := (i64_w _).trans hji23
             clear hji10w hji10
             by_cases c24 : 0 ≤ (ji23)
             ·rw [if_pos c24] at H
              have c24b0 : decide (0 ≤ (ji23)) = true := decide_eq_true c24
              clear c24
              by_cases c25 : (ji23) < (l1.length : Int)
              ·rw [if_pos c25] at H
               have c25b0 : decide ((ji23) < (l1.length : Int)) = true := decide_eq_true c25
               clear c25
               by_cases c26 : (IntKind.u64.wrap (x10_1 + (IntKind.u64.wrap (rd l1 (ji23))))) > 4294967295
               ·rw [if_pos c26] at H
                have c26b0 : decide (4294967295 < (IntKind.u64.wrap (x10_1 + (IntKind.u64.wrap (rd l1 (ji23)))))) = true := decide_eq_true c26
                clear c26
                obtain rfl := Option.some.inj H
                have p144 : 0 ≤ ((ji23) : Int) := of_decide_eq_true (by first | (with_reducible assumption) | assumption)
                have q144 : (ji23) < (l1.length : Int) := of_decide_eq_true (by first | (with_reducible assumption) | assumption)
                obtain ⟨ad144, e144, hx144_0⟩ := Kd.at_int HR1.out (ji23) p144 q144
                obtain rfl : ad140 = ad144 := (by injection e144)
                replace p144 := eq_true p144
                replace q144 := eq_true q144
                go_wp2
                repeat (go_quiet (fail); try go_wp2)
                go_ret
                exact ⟨by first | rfl | (simp; done) | (simp only [← hji4, ← hji7, ← hji23] <;> (first | rfl | simp)) | (simp [*]; done), by repeat (first | exact Drawn0.refl _ | apply Drawn0.step)⟩
               ·rw [if_neg c26] at H
                have c26b0 : decide (4294967295 < (IntKind.u64.wrap (x10_1 + (IntKind.u64.wrap (rd l1 (ji23)))))) = false := decide_eq_false c26
                (try simp only [hl5_1] at c26b0)
                clear c26
                have H' := Aside0.mk H
                clear H
                have p144 : 0 ≤ ((ji23) : Int) := of_decide_eq_true (by first | (with_reducible assumption) | assumption)
                have q144 : (ji23) < (l1.length : Int) := of_decide_eq_true (by first | (with_reducible assumption) | assumption)
                obtain ⟨ad144, e144, hx144_0⟩ := Kd.at_int HR1.out (ji23) p144 q144
                obtain rfl : ad140 = ad144 := (by injection e144)
                replace p144 := eq_true p144
                replace q144 := eq_true q144
                go_wp2
                repeat (go_quiet (fail); try go_wp2)
                go_roundg kj13
                case measure => have := HK1.out; have := HJ13.out; omega
                case rel => exact ⟨(IntKind.u64.wrap (x9_1 - 1)), (IntKind.u64.wrap (x10_1 + (IntKind.u64.wrap (rd l1 (ji23))))), (by first | rfl | (simp; done) | (simp [*]; done)), (by first | rfl | (simp; done) | (simp only [← hji23] <;> (first | rfl | simp)) | (simp [*]; done)), H', ⟨by have := HK1.out; have := HJ13.out; omega⟩, by repeat (first | exact Drawn0.refl _ | apply Drawn0.step)⟩
              ·rw [if_neg c25] at H
               exact absurd H (by simp)
             ·rw [if_neg c24] at H
              exact absurd H (by simp)
            ·replace c22 := Bool.eq_false_iff.mpr c22
             subst c22
             have H1 : (some x9_1) = some r := by rw [if_neg (show ¬ (false = true) by decide)] at H; exact H
             clear H
             have H := H1
             clear H1
             obtain rfl := Option.some.inj H
             go_wp2
             repeat (go_quiet (fail); try go_wp2)
             go_ret
             exact ⟨by first | rfl | (simp; done) | (simp only [← hji4, ← hji7, ← hji10] <;> (first | rfl | simp)) | (simp [*]; done), by repeat (first | exact Drawn0.refl _ | apply Drawn0.step)⟩
      ·rw [if_neg c12] at H
       exact absurd H (by simp)
     ·rw [if_neg c11] at H
      exact absurd H (by simp)
    ·rw [if_neg c9] at H
     exact absurd H (by simp)
   ·rw [if_neg c8] at H
    exact absurd H (by simp)
  ·rw [if_neg c6] at H
   exact absurd H (by simp)
 ·rw [if_neg c5] at H
  exact absurd H (by simp)
end Go.Proofs.YtakickbnjbedfaaDoor.PA
end
section
namespace Go.Proofs.YtakickbnjbedfaaDoor.PA
open Go.RowKit Go.Proofs.YtakickbnjbedfaaDoorW.PrintWords Go.Proofs.YtakickbnjbedfaaDoorW.PrintLast Go.Proofs.YtakickbnjbedfaaDoorW.PrintMore
attribute [local go_sem] max2_int min2_int max_two min_two
set_option linter.unusedVariables false
set_option linter.unusedSimpArgs false
def nat_take.l0 : Nat → List Int → List Int → Int → Int → Int → Int → Int → Int → Option (Bool × List Int)
 | 0, _, _, _, _, _, _, _, _ => none
 | k + 1, x0, x1, x2, x3, x9, x10, x15, x16 => if x16 < x15 then (if 0 ≤ x16 then (if x16 < (x1.length : Int) then (if 0 ≤ (wrap64 (x2 + x16)) then (if (wrap64 (x2 + x16)) < (x0.length : Int) then (nat_take.l0 k (x0.set ((wrap64 (x2 + x16)) : Int).toNat ((IntKind.u64.wrap ((IntKind.u64.wrap ((IntKind.u64.wrap (rd x0 (wrap64 (x2 + x16)))) - ((IntKind.u64.wrap (x9 + (IntKind.u64.wrap (x3 * (IntKind.u64.wrap (rd x1 x16)))))) % 4294967296))) - x10)) % 4294967296)) x1 x2 x3 ((IntKind.u64.wrap (x9 + (IntKind.u64.wrap (x3 * (IntKind.u64.wrap (rd x1 x16)))))) / 4294967296) ((IntKind.u64.wrap ((IntKind.u64.wrap ((IntKind.u64.wrap (rd x0 (wrap64 (x2 + x16)))) - ((IntKind.u64.wrap (x9 + (IntKind.u64.wrap (x3 * (IntKind.u64.wrap (rd x1 x16)))))) % 4294967296))) - x10)) / 9223372036854775808) x15 (wrap64 (x16 + 1))) else (none)) else (none)) else (none)) else (none)) else (if 0 ≤ (wrap64 (x2 + (x1.length : Int))) then (if (wrap64 (x2 + (x1.length : Int))) < (x0.length : Int) then (some ((((IntKind.u64.wrap ((IntKind.u64.wrap ((IntKind.u64.wrap (rd x0 (wrap64 (x2 + (x1.length : Int))))) - x9)) - x10)) / 9223372036854775808) != 0), (x0.set ((wrap64 (x2 + (x1.length : Int))) : Int).toNat ((IntKind.u64.wrap ((IntKind.u64.wrap ((IntKind.u64.wrap (rd x0 (wrap64 (x2 + (x1.length : Int))))) - x9)) - x10)) % 4294967296)))) else (none)) else (none))
def nat_take.f (k : Nat) (l0 : List Int) (l1 : List Int) (a2 : Int) (a3 : Int) : Option (Bool × List Int) := nat_take.l0 k l0 l1 a2 a3 0 0 (l1.length : Int) 0
set_option maxHeartbeats 8000000 in
set_option maxRecDepth 100000 in
theorem nat_take.calls (k : Nat) (P0_ : Nat → Prop) (u9000_ : Value) (l0 : List Int) (A1 : Option Addr) (c1 : Nat) (l1 : List Int) (a2 : Int) (a3 : Int) (r1 : Bool) (r2 : List Int) (w0 w : World) (hB : Below w0.heap.size w0 w) (ho0 : Kd.R (Kd.int .u32) 55 w w0.heap.size P0_ u9000_ l0) (hr1 : ∀ W_, Kept w W_ (fun k_ => P0_ k_) → Kd.C (Kd.int .u32) W_ A1 l1.length l1) (hc1 : l1.length ≤ c1) (h : nat_take.f k l0 l1 a2 a3 = some (r1, r2)) :
  Calls Tryd.prog 188 #[u9000_, .slice A1 l1.length c1, .int .i64 a2, .int .u64 a3] w fun e w' => e = .returned (.bool r1) ∧ Kd.R (Kd.int .u32) 55 w' w0.heap.size (fun k_ => (P0_ k_ ∨ w.heap.size ≤ k_)) u9000_ r2 ∧ Below w0.heap.size w0 w' ∧ Kept w w' (fun k_ => P0_ k_) := by
 have HO0 := Aside0.mk (show Kd.R (Kd.int .u32) 55 w w0.heap.size (fun k_ => (P0_ k_ ∨ w.heap.size ≤ k_)) u9000_ l0 from Kd.R_mono ho0 (fun k_ hk => (.inl hk)))
 have HR1 := Aside0.mk hr1
 have HC1 := Aside0.mk hc1
 clear hr1 hc1
 have HK := Aside0.mk (Kept.refl w (fun k_ => P0_ k_))
 have HW0 := Aside0.mk hB.size
 have HB := Aside0.mk hB
 clear hB
 have H : (nat_take.l0 k l0 l1 a2 a3 0 0 (l1.length : Int) 0) = some (r1, r2) := h
 clear h
 have H' := Aside0.mk H
 clear H
 go_enter Tryd.func188, Tryd.ntmps188
 go_wp2
 go_loopg [9, 10, 16] k (fun kq v9 v10 v16 w' => ∃ (x0_1 : List Int) (x9_1 : Int) (x10_1 : Int) (x16_1 : Int), v9 = .int .u64 x9_1 ∧ v10 = .int .u64 x10_1 ∧ v16 = .int .i64 x16_1 ∧ Aside0 (nat_take.l0 kq x0_1 l1 a2 a3 x9_1 x10_1 (l1.length : Int) x16_1 = some (r1, r2)) ∧ Aside0 (kq ≤ k) ∧ Aside0 (Kd.R (Kd.int .u32) 55 w' w0.heap.size (fun k_ => (P0_ k_ ∨ w.heap.size ≤ k_)) u9000_ x0_1) ∧ Aside0 (Kept w w' (fun k_ => P0_ k_)) ∧ Aside0 (Below w0.heap.size w0 w'))
 case atStart => exact ⟨(l0), (0), (0), (0), (by first | rfl | (simp; done) | (simp [*]; done)), (by first | rfl | (simp; done) | (simp [*]; done)), (by first | rfl | (simp; done) | (simp [*]; done)), H', ⟨Nat.le_refl _⟩, ⟨by (with_reducible repeat (first | apply Kd.R_alloc | apply Kd.R_drewN | apply Kd.R_drew)); exact HO0.out⟩, ⟨by repeat (first | (with_reducible first | exact HK.out | apply Kept.alloc | apply Kept.drewN | apply Kept.drew) | exact HK.out)⟩, ⟨by repeat (first | (with_reducible first | exact HB.out | apply below_alloc | apply pw_below_drewN | apply below_drew1) | exact HB.out)⟩⟩
 case round =>
  clear H'
  try clear c1
  try clear p2
  obtain ⟨x0_1, x9_1, x10_1, x16_1, rfl, rfl, rfl, HA, HK1, HO_0, HK, HB⟩ := hrel
  cases gk with
  | zero => exact absurd HA.out (by simp [nat_take.l0])
  | succ k1 =>
   have H := HA.out
   clear HA
   simp only [nat_take.l0] at H
   by_cases c5 : x16_1 < (l1.length : Int)
   ·rw [if_pos c5] at H
    have c5b0 : decide (x16_1 < (l1.length : Int)) = true := decide_eq_true c5
    clear c5
    by_cases c6 : 0 ≤ x16_1
    ·rw [if_pos c6] at H
     have c6b0 : decide (0 ≤ x16_1) = true := decide_eq_true c6
     clear c6
     by_cases c7 : x16_1 < (l1.length : Int)
     ·rw [if_pos c7] at H
      have c7b0 : decide (x16_1 < (l1.length : Int)) = true := decide_eq_true c7
      clear c7
      obtain ⟨ji8, hji8⟩ : ∃ j_ : Int, (wrap64 (a2 + x16_1)) = j_ := ⟨_, rfl⟩
      replace H : (if 0 ≤ (ji8) then (if (ji8) < (x0_1.length : Int) then (nat_take.l0 k1 (x0_1.set ((ji8) : Int).toNat ((IntKind.u64.wrap ((IntKind.u64.wrap ((IntKind.u64.wrap (rd x0_1 (ji8))) - ((IntKind.u64.wrap (x9_1 + (IntKind.u64.wrap (a3 * (IntKind.u64.wrap (rd l1 x16_1)))))) % 4294967296))) - x10_1)) % 4294967296)) l1 a2 a3 ((IntKind.u64.wrap (x9_1 + (IntKind.u64.wrap (a3 * (IntKind.u64.wrap (rd l1 x16_1)))))) / 4294967296) ((IntKind.u64.wrap ((IntKind.u64.wrap ((IntKind.u64.wrap (rd x0_1 (ji8))) - ((IntKind.u64.wrap (x9_1 + (IntKind.u64.wrap (a3 * (IntKind.u64.wrap (rd l1 x16_1)))))) % 4294967296))) - x10_1)) / 9223372036854775808) (l1.length : Int) (wrap64 (x16_1 + 1))) else (none)) else (none)) = some (r1, r2) := by first | (rw [hji8] at H; exact H) | (simp only [hji8] at H ⊢; exact H)
      have hji8w : (IntKind.i64.wrap (a2 + x16_1)) = ji8 := (i64_w _).trans hji8
      by_cases c9 : 0 ≤ (ji8)
      ·rw [if_pos c9] at H
       have c9b0 : decide (0 ≤ (ji8)) = true := decide_eq_true c9
       clear c9
       by_cases c10 : (ji8) < (x0_1.length : Int)
       ·rw [if_pos c10] at H
        have c10b0 : decide ((ji8) < (x0_1.length : Int)) = true := decide_eq_true c10
        clear c10
        obtain ⟨y147, hy147⟩ : ∃ y_ : List Int, y_ = (x0_1.set ((ji8) : Int).toNat ((IntKind.u64.wrap ((IntKind.u64.wrap ((IntKind.u64.wrap (rd x0_1 (ji8))) - ((IntKind.u64.wrap (x9_1 + (IntKind.u64.wrap (a3 * (IntKind.u64.wrap (rd l1 x16_1)))))) % 4294967296))) - x10_1)) % 4294967296)) := ⟨_, rfl⟩
        replace H : (nat_take.l0 k1 y147 l1 a2 a3 ((IntKind.u64.wrap (x9_1 + (IntKind.u64.wrap (a3 * (IntKind.u64.wrap (rd l1 x16_1)))))) / 4294967296) ((IntKind.u64.wrap ((IntKind.u64.wrap ((IntKind.u64.wrap (rd x0_1 (ji8))) - ((IntKind.u64.wrap (x9_1 + (IntKind.u64.wrap (a3 * (IntKind.u64.wrap (rd l1 x16_1)))))) % 4294967296))) - x10_1)) / 9223372036854775808) (l1.length : Int) (wrap64 (x16_1 + 1))) = some (r1, r2) := by first | (rw [hy147]; with_reducible exact H) | (have H2_ := (Option.bind_some _ _).symm.trans H; rw [hy147]; with_reducible exact H2_) | (have H2_ := (Option.bind_some _ _).symm.trans H; with_reducible exact H2_) | with_reducible exact H | (rw [hy147]; exact H) | exact H
        have Ny147 := Aside0.mk hy147
        clear hy147
        have H' := Aside0.mk H
        clear H
        have p145 : 0 ≤ (x16_1 : Int) := of_decide_eq_true (by first | (with_reducible assumption) | assumption)
        have q145 : x16_1 < (l1.length : Int) := of_decide_eq_true (by first | (with_reducible assumption) | assumption)
        obtain ⟨ad145, e145, hx145_0⟩ := Kd.at_int (Kd.C_kept_now HR1.out HK.out) x16_1 p145 q145
        cases e145
        replace p145 := eq_true p145
        replace q145 := eq_true q145
        obtain ⟨Ao12, co12, eo12⟩ := Kd.R_slice HO_0.out
        subst eo12
        have p146 : 0 ≤ ((ji8) : Int) := of_decide_eq_true (by first | (with_reducible assumption) | assumption)
        have q146 : (ji8) < (x0_1.length : Int) := of_decide_eq_true (by first | (with_reducible assumption) | assumption)
        obtain ⟨ad146, e146, hx146_0⟩ := Kd.at_int (Kd.R_reads' HO_0.out).2.2 (ji8) p146 q146
        cases e146
        replace p146 := eq_true p146
        replace q146 := eq_true q146
        have p11 : 0 ≤ ((ji8) : Int) := of_decide_eq_true (by first | (with_reducible assumption) | assumption)
        have q11 : ((ji8) : Int) < ((x0_1.length : Int) : Int) := of_decide_eq_true (by first | (with_reducible assumption) | assumption)
        obtain ⟨go11, co11, eo11, gb11, gl11, cl11, HG11⟩ := Kd.R_form HO_0.out (by omega)
        (first | cases eo11 | (injection eo11 with ea_ en_ ec_; (first | subst ea_ | (injection ea_ with ea_; subst ea_)); subst ec_; clear en_))
        have GB11 := Aside0.mk gb11
        have GG11 := Aside0.mk HG11
        clear gb11 gl11 HG11
        have HMgo11 := Aside0.mk (show (P0_ go11 ∨ w.heap.size ≤ go11) from (HO_0.out.1 _ rfl))
        (first | simp only [add_plain] at hx146_0 | skip)
        obtain ⟨hx11_0, hf11_0⟩ := Kd.R_celln 0 HO_0.out ((ji8) : Int) p11 q11
        replace p11 := eq_true p11
        replace q11 := eq_true q11
        have HP13 := Kd.R_putg HO_0.out ((ji8) : Int) ((IntKind.u64.wrap ((IntKind.u64.wrap ((IntKind.u64.wrap (rd x0_1 (ji8))) - ((IntKind.u64.wrap (x9_1 + (IntKind.u64.wrap (a3 * (IntKind.u64.wrap (rd l1 x16_1)))))) % 4294967296))) - x10_1)) % 4294967296)
        go_wp2_with (first | ((with_reducible refine gate_store (t := 55) (p := 47) rfl ?_); refine store_event (t := 55) (p := 47) (v := ?vo_w14) (w1 := (wr.setCell ⟨go11, ((ji8) : Int).toNat, none⟩ (.int .u32 ((IntKind.u64.wrap ((IntKind.u64.wrap ((IntKind.u64.wrap (rd x0_1 (ji8))) - ((IntKind.u64.wrap (x9_1 + (IntKind.u64.wrap (a3 * (IntKind.u64.wrap (rd l1 x16_1)))))) % 4294967296))) - x10_1)) % 4294967296)))) ?hg ?ho ?hn ?hr ?_; (case ho => rfl); (case hg => rfl); (case hn => rfl); (case hr => first | (go_simp; done) | (go_simp; rfl)); intro w14 hw; have hg : wr.grownBy w14 (some go11) := (by rw [hw]; exact HP13.2); have hp_ : Kd.R (Kd.int .u32) 55 w14 w0.heap.size (fun k_ => (P0_ k_ ∨ w.heap.size ≤ k_)) (.slice (some ⟨go11, 0, none⟩) x0_1.length co12) y147 := (by rw [hw, Ny147.out]; exact HP13.1); clear HP13; have n0_ := Aside0.mk (hp_); have n1_ := Aside0.mk ((by rw [hw]; exact below_set (HB.out) GB11.out : Below w0.heap.size w0 w14)); have n2_ := Aside0.mk (Kept.of_grown (S := (fun k_ => P0_ k_)) hg (by repeat (first | (with_reducible first | exact HK.out | apply Kept.alloc | apply Kept.drewN | apply Kept.drew) | exact HK.out)) (fun k_ e_ => (HO_0.out.1 k_ e_))); clear HO_0; clear HB; clear HK; have HO_0 := n0_; have HB := n1_; have HK := n2_; clear n0_ n1_ n2_; clear hg hw hp_))
        go_roundg k1
        case measure => have := HK1.out; omega
        case rel => exact ⟨(y147), ((IntKind.u64.wrap (x9_1 + (IntKind.u64.wrap (a3 * (IntKind.u64.wrap (rd l1 x16_1)))))) / 4294967296), ((IntKind.u64.wrap ((IntKind.u64.wrap ((IntKind.u64.wrap (rd x0_1 (ji8))) - ((IntKind.u64.wrap (x9_1 + (IntKind.u64.wrap (a3 * (IntKind.u64.wrap (rd l1 x16_1)))))) % 4294967296))) - x10_1)) / 9223372036854775808), (wrap64 (x16_1 + 1)), (by first | rfl | (simp; done) | (simp [*]; done)), (by first | rfl | (simp; done) | (simp only [← hji8] <;> (first | rfl | simp)) | (simp [*]; done)), (by first | rfl | (simp; done) | (simp [*]; done)), H', ⟨by have := HK1.out; omega⟩, ⟨by (with_reducible repeat (first | apply Kd.R_alloc | apply Kd.R_drewN | apply Kd.R_drew)); exact HO_0.out⟩, ⟨by repeat (first | (with_reducible first | exact HK.out | apply Kept.alloc | apply Kept.drewN | apply Kept.drew) | exact HK.out)⟩, ⟨by repeat (first | (with_reducible first | exact HB.out | apply below_alloc | apply pw_below_drewN | apply below_drew1) | exact HB.out)⟩⟩
       ·rw [if_neg c10] at H
        exact absurd H (by simp)
      ·rw [if_neg c9] at H
       exact absurd H (by simp)
     ·rw [if_neg c7] at H
      exact absurd H (by simp)
    ·rw [if_neg c6] at H
     exact absurd H (by simp)
   ·rw [if_neg c5] at H
    have c5b0 : decide (x16_1 < (l1.length : Int)) = false := decide_eq_false c5
    clear c5
    obtain ⟨ji15, hji15⟩ : ∃ j_ : Int, (wrap64 (a2 + (l1.length : Int))) = j_ := ⟨_, rfl⟩
    replace H : (if 0 ≤ (ji15) then (if (ji15) < (x0_1.length : Int) then (some ((((IntKind.u64.wrap ((IntKind.u64.wrap ((IntKind.u64.wrap (rd x0_1 (ji15))) - x9_1)) - x10_1)) / 9223372036854775808) != 0), (x0_1.set ((ji15) : Int).toNat ((IntKind.u64.wrap ((IntKind.u64.wrap ((IntKind.u64.wrap (rd x0_1 (ji15))) - x9_1)) - x10_1)) % 4294967296)))) else (none)) else (none)) = some (r1, r2) := by first | (rw [hji15] at H; exact H) | (simp only [hji15] at H ⊢; exact H)
    have hji15w : (IntKind.i64.wrap (a2 + (l1.length : Int))) = ji15 := (i64_w _).trans hji15
    by_cases c16 : 0 ≤ (ji15)
    ·rw [if_pos c16] at H
     have c16b0 : decide (0 ≤ (ji15)) = true := decide_eq_true c16
     clear c16
     by_cases c17 : (ji15) < (x0_1.length : Int)
     ·rw [if_pos c17] at H
      have c17b0 : decide ((ji15) < (x0_1.length : Int)) = true := decide_eq_true c17
      clear c17
      obtain ⟨y149, hy149⟩ : ∃ y_ : List Int, y_ = (x0_1.set ((ji15) : Int).toNat ((IntKind.u64.wrap ((IntKind.u64.wrap ((IntKind.u64.wrap (rd x0_1 (ji15))) - x9_1)) - x10_1)) % 4294967296)) := ⟨_, rfl⟩
      replace H : (some ((((IntKind.u64.wrap ((IntKind.u64.wrap ((IntKind.u64.wrap (rd x0_1 (ji15))) - x9_1)) - x10_1)) / 9223372036854775808) != 0), y149)) = some (r1, r2) := by first | (rw [hy149]; with_reducible exact H) | (have H2_ := (Option.bind_some _ _).symm.trans H; rw [hy149]; with_reducible exact H2_) | (have H2_ := (Option.bind_some _ _).symm.trans H; with_reducible exact H2_) | with_reducible exact H | (rw [hy149]; exact H) | exact H
      have Ny149 := Aside0.mk hy149
      clear hy149
      simp only [Option.some.injEq, Prod.mk.injEq] at H
      obtain ⟨rfl, rfl⟩ := H
      obtain ⟨Ao19, co19, eo19⟩ := Kd.R_slice HO_0.out
      subst eo19
      have p148 : 0 ≤ ((ji15) : Int) := of_decide_eq_true (by first | (with_reducible assumption) | assumption)
      have q148 : (ji15) < (x0_1.length : Int) := of_decide_eq_true (by first | (with_reducible assumption) | assumption)
      obtain ⟨ad148, e148, hx148_0⟩ := Kd.at_int (Kd.R_reads' HO_0.out).2.2 (ji15) p148 q148
      cases e148
      replace p148 := eq_true p148
      replace q148 := eq_true q148
      have p18 : 0 ≤ ((ji15) : Int) := of_decide_eq_true (by first | (with_reducible assumption) | assumption)
      have q18 : ((ji15) : Int) < ((x0_1.length : Int) : Int) := of_decide_eq_true (by first | (with_reducible assumption) | assumption)
      obtain ⟨go18, co18, eo18, gb18, gl18, cl18, HG18⟩ := Kd.R_form HO_0.out (by omega)
      (first | cases eo18 | (injection eo18 with ea_ en_ ec_; (first | subst ea_ | (injection ea_ with ea_; subst ea_)); subst ec_; clear en_))
      have GB18 := Aside0.mk gb18
      have GG18 := Aside0.mk HG18
      clear gb18 gl18 HG18
      have HMgo18 := Aside0.mk (show (P0_ go18 ∨ w.heap.size ≤ go18) from (HO_0.out.1 _ rfl))
      (first | simp only [add_plain] at hx148_0 | skip)
      obtain ⟨hx18_0, hf18_0⟩ := Kd.R_celln 0 HO_0.out ((ji15) : Int) p18 q18
      replace p18 := eq_true p18
      replace q18 := eq_true q18
      have HP20 := Kd.R_putg HO_0.out ((ji15) : Int) ((IntKind.u64.wrap ((IntKind.u64.wrap ((IntKind.u64.wrap (rd x0_1 (ji15))) - x9_1)) - x10_1)) % 4294967296)
      go_wp2_with (first | ((with_reducible refine gate_store (t := 55) (p := 72) rfl ?_); refine store_event (t := 55) (p := 72) (v := ?vo_w21) (w1 := (wr.setCell ⟨go18, ((ji15) : Int).toNat, none⟩ (.int .u32 ((IntKind.u64.wrap ((IntKind.u64.wrap ((IntKind.u64.wrap (rd x0_1 (ji15))) - x9_1)) - x10_1)) % 4294967296)))) ?hg ?ho ?hn ?hr ?_; (case ho => rfl); (case hg => rfl); (case hn => rfl); (case hr => first | (go_simp; done) | (go_simp; rfl)); intro w21 hw; have hg : wr.grownBy w21 (some go18) := (by rw [hw]; exact HP20.2); have hp_ : Kd.R (Kd.int .u32) 55 w21 w0.heap.size (fun k_ => (P0_ k_ ∨ w.heap.size ≤ k_)) (.slice (some ⟨go18, 0, none⟩) x0_1.length co19) y149 := (by rw [hw, Ny149.out]; exact HP20.1); clear HP20; have n0_ := Aside0.mk (hp_); have n1_ := Aside0.mk ((by rw [hw]; exact below_set (HB.out) GB18.out : Below w0.heap.size w0 w21)); have n2_ := Aside0.mk (Kept.of_grown (S := (fun k_ => P0_ k_)) hg (by repeat (first | (with_reducible first | exact HK.out | apply Kept.alloc | apply Kept.drewN | apply Kept.drew) | exact HK.out)) (fun k_ e_ => (HO_0.out.1 k_ e_))); clear HO_0; clear HB; clear HK; have HO_0 := n0_; have HB := n1_; have HK := n2_; clear n0_ n1_ n2_; clear hg hw hp_))
      go_ret
      exact ⟨by first | rfl | (simp [errW_none, errW_some] <;> rfl) | (simp only [← hji15]; first | rfl | (simp [errW_none, errW_some] <;> rfl)) | (simp [*, errW_none, errW_some] <;> rfl), by (with_reducible repeat (first | apply Kd.R_alloc | apply Kd.R_drewN | apply Kd.R_drew)); exact HO_0.out, by repeat (first | (with_reducible first | exact HB.out | apply below_alloc | apply pw_below_drewN | apply below_drew1) | exact HB.out), by repeat (first | (with_reducible first | exact HK.out | apply Kept.alloc | apply Kept.drewN | apply Kept.drew) | exact HK.out)⟩
     ·rw [if_neg c17] at H
      exact absurd H (by simp)
    ·rw [if_neg c16] at H
     exact absurd H (by simp)
end Go.Proofs.YtakickbnjbedfaaDoor.PA
end
section
namespace Go.Proofs.YtakickbnjbedfaaDoor.PA
open Go.RowKit Go.Proofs.YtakickbnjbedfaaDoorW.PrintWords Go.Proofs.YtakickbnjbedfaaDoorW.PrintLast Go.Proofs.YtakickbnjbedfaaDoorW.PrintMore
attribute [local go_sem] max2_int min2_int max_two min_two
set_option linter.unusedVariables false
set_option linter.unusedSimpArgs false
def nat_give.l0 : Nat → List Int → List Int → Int → Int → Int → Int → Option (List Int)
 | 0, _, _, _, _, _, _ => none
 | k + 1, x0, x1, x2, x6, x9, x10 => if x10 < x9 then (if 0 ≤ (wrap64 (x2 + x10)) then (if (wrap64 (x2 + x10)) < (x0.length : Int) then (if 0 ≤ x10 then (if x10 < (x1.length : Int) then (nat_give.l0 k (x0.set ((wrap64 (x2 + x10)) : Int).toNat ((IntKind.u64.wrap (x6 + (IntKind.u64.wrap ((IntKind.u64.wrap (rd x0 (wrap64 (x2 + x10)))) + (IntKind.u64.wrap (rd x1 x10)))))) % 4294967296)) x1 x2 ((IntKind.u64.wrap (x6 + (IntKind.u64.wrap ((IntKind.u64.wrap (rd x0 (wrap64 (x2 + x10)))) + (IntKind.u64.wrap (rd x1 x10)))))) / 4294967296) x9 (wrap64 (x10 + 1))) else (none)) else (none)) else (none)) else (none)) else (if 0 ≤ (wrap64 (x2 + (x1.length : Int))) then (if (wrap64 (x2 + (x1.length : Int))) < (x0.length : Int) then (some (x0.set ((wrap64 (x2 + (x1.length : Int))) : Int).toNat (((rd x0 (wrap64 (x2 + (x1.length : Int)))) + ((x6) % 4294967296)) % 4294967296))) else (none)) else (none))
def nat_give.f (k : Nat) (l0 : List Int) (l1 : List Int) (a2 : Int) : Option (List Int) := nat_give.l0 k l0 l1 a2 0 (l1.length : Int) 0
set_option maxHeartbeats 8000000 in
set_option maxRecDepth 100000 in
theorem nat_give.calls (k : Nat) (P0_ : Nat → Prop) (u9000_ : Value) (l0 : List Int) (A1 : Option Addr) (c1 : Nat) (l1 : List Int) (a2 : Int) (r : List Int) (w0 w : World) (hB : Below w0.heap.size w0 w) (ho0 : Kd.R (Kd.int .u32) 55 w w0.heap.size P0_ u9000_ l0) (hr1 : ∀ W_, Kept w W_ (fun k_ => P0_ k_) → Kd.C (Kd.int .u32) W_ A1 l1.length l1) (hc1 : l1.length ≤ c1) (h : nat_give.f k l0 l1 a2 = some r) :
  Calls Tryd.prog 189 #[u9000_, .slice A1 l1.length c1, .int .i64 a2] w fun e w' => e = .returned (.tuple #[]) ∧ Kd.R (Kd.int .u32) 55 w' w0.heap.size (fun k_ => (P0_ k_ ∨ w.heap.size ≤ k_)) u9000_ r ∧ Below w0.heap.size w0 w' ∧ Kept w w' (fun k_ => P0_ k_) := by
 have HO0 := Aside0.mk (show Kd.R (Kd.int .u32) 55 w w0.heap.size (fun k_ => (P0_ k_ ∨ w.heap.size ≤ k_)) u9000_ l0 from Kd.R_mono ho0 (fun k_ hk => (.inl hk)))
 have HR1 := Aside0.mk hr1
 have HC1 := Aside0.mk hc1
 clear hr1 hc1
 have HK := Aside0.mk (Kept.refl w (fun k_ => P0_ k_))
 have HW0 := Aside0.mk hB.size
 have HB := Aside0.mk hB
 clear hB
 have H : (nat_give.l0 k l0 l1 a2 0 (l1.length : Int) 0) = some r := h
 clear h
 have H' := Aside0.mk H
 clear H
 go_enter Tryd.func189, Tryd.ntmps189
 go_wp2
 repeat (go_quiet (fail); try go_wp2)
 go_loopg [6, 10] k (fun kq v6 v10 w' => ∃ (x0_1 : List Int) (x6_1 : Int) (x10_1 : Int), v6 = .int .u64 x6_1 ∧ v10 = .int .i64 x10_1 ∧ Aside0 (nat_give.l0 kq x0_1 l1 a2 x6_1 (l1.length : Int) x10_1 = some r) ∧ Aside0 (kq ≤ k) ∧ Aside0 (Kd.R (Kd.int .u32) 55 w' w0.heap.size (fun k_ => (P0_ k_ ∨ w.heap.size ≤ k_)) u9000_ x0_1) ∧ Aside0 (Kept w w' (fun k_ => P0_ k_)) ∧ Aside0 (Below w0.heap.size w0 w'))
 case atStart => exact ⟨(l0), (0), (0), (by first | rfl | (simp; done) | (simp [*]; done)), (by first | rfl | (simp; done) | (simp [*]; done)), H', ⟨Nat.le_refl _⟩, ⟨by (with_reducible repeat (first | apply Kd.R_alloc | apply Kd.R_drewN | apply Kd.R_drew)); exact HO0.out⟩, ⟨by repeat (first | (with_reducible first | exact HK.out | apply Kept.alloc | apply Kept.drewN | apply Kept.drew) | exact HK.out)⟩, ⟨by repeat (first | (with_reducible first | exact HB.out | apply below_alloc | apply pw_below_drewN | apply below_drew1) | exact HB.out)⟩⟩
 case round =>
  clear H'
  try clear c1
  try clear p2
  obtain ⟨x0_1, x6_1, x10_1, rfl, rfl, HA, HK1, HO_0, HK, HB⟩ := hrel
  cases gk with
  | zero => exact absurd HA.out (by simp [nat_give.l0])
  | succ k1 =>
   have H := HA.out
   clear HA
   simp only [nat_give.l0] at H
   by_cases c4 : x10_1 < (l1.length : Int)
   ·rw [if_pos c4] at H
    have c4b0 : decide (x10_1 < (l1.length : Int)) = true := decide_eq_true c4
    clear c4
    obtain ⟨ji5, hji5⟩ : ∃ j_ : Int, (wrap64 (a2 + x10_1)) = j_ := ⟨_, rfl⟩
    replace H : (if 0 ≤ (ji5) then (if (ji5) < (x0_1.length : Int) then (if 0 ≤ x10_1 then (if x10_1 < (l1.length : Int) then (nat_give.l0 k1 (x0_1.set ((ji5) : Int).toNat ((IntKind.u64.wrap (x6_1 + (IntKind.u64.wrap ((IntKind.u64.wrap (rd x0_1 (ji5))) + (IntKind.u64.wrap (rd l1 x10_1)))))) % 4294967296)) l1 a2 ((IntKind.u64.wrap (x6_1 + (IntKind.u64.wrap ((IntKind.u64.wrap (rd x0_1 (ji5))) + (IntKind.u64.wrap (rd l1 x10_1)))))) / 4294967296) (l1.length : Int) (wrap64 (x10_1 + 1))) else (none)) else (none)) else (none)) else (none)) = some r := by first | (rw [hji5] at H; exact H) | (simp only [hji5] at H ⊢; exact H)
    have hji5w : (IntKind.i64.wrap (a2 + x10_1)) = ji5 := (i64_w _).trans hji5
    by_cases c6 : 0 ≤ (ji5)
    ·rw [if_pos c6] at H
     have c6b0 : decide (0 ≤ (ji5)) = true := decide_eq_true c6
     clear c6
     by_cases c7 : (ji5) < (x0_1.length : Int)
     ·rw [if_pos c7] at H
      have c7b0 : decide ((ji5) < (x0_1.length : Int)) = true := decide_eq_true c7
      clear c7
      by_cases c8 : 0 ≤ x10_1
      ·rw [if_pos c8] at H
       have c8b0 : decide (0 ≤ x10_1) = true := decide_eq_true c8
       clear c8
       by_cases c9 : x10_1 < (l1.length : Int)
       ·rw [if_pos c9] at H
        have c9b0 : decide (x10_1 < (l1.length : Int)) = true := decide_eq_true c9
        clear c9
        obtain ⟨y152, hy152⟩ : ∃ y_ : List Int, y_ = (x0_1.set ((ji5) : Int).toNat ((IntKind.u64.wrap (x6_1 + (IntKind.u64.wrap ((IntKind.u64.wrap (rd x0_1 (ji5))) + (IntKind.u64.wrap (rd l1 x10_1)))))) % 4294967296)) := ⟨_, rfl⟩
        replace H : (nat_give.l0 k1 y152 l1 a2 ((IntKind.u64.wrap (x6_1 + (IntKind.u64.wrap ((IntKind.u64.wrap (rd x0_1 (ji5))) + (IntKind.u64.wrap (rd l1 x10_1)))))) / 4294967296) (l1.length : Int) (wrap64 (x10_1 + 1))) = some r := by first | (rw [hy152]; with_reducible exact H) | (have H2_ := (Option.bind_some _ _).symm.trans H; rw [hy152]; with_reducible exact H2_) | (have H2_ := (Option.bind_some _ _).symm.trans H; with_reducible exact H2_) | with_reducible exact H | (rw [hy152]; exact H) | exact H
        have Ny152 := Aside0.mk hy152
        clear hy152
        have H' := Aside0.mk H
        clear H
        obtain ⟨Ao11, co11, eo11⟩ := Kd.R_slice HO_0.out
        subst eo11
        have p150 : 0 ≤ ((ji5) : Int) := of_decide_eq_true (by first | (with_reducible assumption) | assumption)
        have q150 : (ji5) < (x0_1.length : Int) := of_decide_eq_true (by first | (with_reducible assumption) | assumption)
        obtain ⟨ad150, e150, hx150_0⟩ := Kd.at_int (Kd.R_reads' HO_0.out).2.2 (ji5) p150 q150
        cases e150
        replace p150 := eq_true p150
        replace q150 := eq_true q150
        have p151 : 0 ≤ (x10_1 : Int) := of_decide_eq_true (by first | (with_reducible assumption) | assumption)
        have q151 : x10_1 < (l1.length : Int) := of_decide_eq_true (by first | (with_reducible assumption) | assumption)
        obtain ⟨ad151, e151, hx151_0⟩ := Kd.at_int (Kd.C_kept_now HR1.out HK.out) x10_1 p151 q151
        cases e151
        replace p151 := eq_true p151
        replace q151 := eq_true q151
        have p10 : 0 ≤ ((ji5) : Int) := of_decide_eq_true (by first | (with_reducible assumption) | assumption)
        have q10 : ((ji5) : Int) < ((x0_1.length : Int) : Int) := of_decide_eq_true (by first | (with_reducible assumption) | assumption)
        obtain ⟨go10, co10, eo10, gb10, gl10, cl10, HG10⟩ := Kd.R_form HO_0.out (by omega)
        (first | cases eo10 | (injection eo10 with ea_ en_ ec_; (first | subst ea_ | (injection ea_ with ea_; subst ea_)); subst ec_; clear en_))
        have GB10 := Aside0.mk gb10
        have GG10 := Aside0.mk HG10
        clear gb10 gl10 HG10
        have HMgo10 := Aside0.mk (show (P0_ go10 ∨ w.heap.size ≤ go10) from (HO_0.out.1 _ rfl))
        (first | simp only [add_plain] at hx150_0 | skip)
        obtain ⟨hx10_0, hf10_0⟩ := Kd.R_celln 0 HO_0.out ((ji5) : Int) p10 q10
        replace p10 := eq_true p10
        replace q10 := eq_true q10
        have HP12 := Kd.R_putg HO_0.out ((ji5) : Int) ((IntKind.u64.wrap (x6_1 + (IntKind.u64.wrap ((IntKind.u64.wrap (rd x0_1 (ji5))) + (IntKind.u64.wrap (rd l1 x10_1)))))) % 4294967296)
        go_wp2_with (first | ((with_reducible refine gate_store (t := 55) (p := 34) rfl ?_); (try (rw [drewN_self wr]; generalize hq_ : World.drewN wr _ = wr; have n0_ := Aside0.mk (Kd.R_at hq_ HO_0.out); have n1_ := Aside0.mk (kept_at hq_ HK.out); have n2_ := Aside0.mk (below_at hq_ HB.out); clear hq_ HO_0 HK HB; have HO_0 := n0_; have HK := n1_; have HB := n2_; clear n0_ n1_ n2_; (try (have HP12 := Kd.R_putg HO_0.out ((ji5) : Int) ((IntKind.u64.wrap (x6_1 + (IntKind.u64.wrap ((IntKind.u64.wrap (rd x0_1 (ji5))) + (IntKind.u64.wrap (rd l1 x10_1)))))) % 4294967296))))); refine store_event (t := 55) (p := 34) (v := ?vo_w13) (w1 := (wr.setCell ⟨go10, ((ji5) : Int).toNat, none⟩ (.int .u32 ((IntKind.u64.wrap (x6_1 + (IntKind.u64.wrap ((IntKind.u64.wrap (rd x0_1 (ji5))) + (IntKind.u64.wrap (rd l1 x10_1)))))) % 4294967296)))) ?hg ?ho ?hn ?hr ?_; (case ho => rfl); (case hg => rfl); (case hn => rfl); (case hr => first | (go_simp; done) | (go_simp; rfl)); intro w13 hw; have hg : wr.grownBy w13 (some go10) := (by rw [hw]; exact HP12.2); have hp_ : Kd.R (Kd.int .u32) 55 w13 w0.heap.size (fun k_ => (P0_ k_ ∨ w.heap.size ≤ k_)) (.slice (some ⟨go10, 0, none⟩) x0_1.length co11) y152 := (by rw [hw, Ny152.out]; exact HP12.1); clear HP12; have n0_ := Aside0.mk (hp_); have n1_ := Aside0.mk ((by rw [hw]; exact below_set (HB.out) GB10.out : Below w0.heap.size w0 w13)); have n2_ := Aside0.mk (Kept.of_grown (S := (fun k_ => P0_ k_)) hg (by repeat (first | (with_reducible first | exact HK.out | apply Kept.alloc | apply Kept.drewN | apply Kept.drew) | exact HK.out)) (fun k_ e_ => (HO_0.out.1 k_ e_))); clear HO_0; clear HB; clear HK; have HO_0 := n0_; have HB := n1_; have HK := n2_; clear n0_ n1_ n2_; clear hg hw hp_))
        repeat (go_quiet (first | ((with_reducible refine gate_store (t := 55) (p := 34) rfl ?_); (try (rw [drewN_self wr]; generalize hq_ : World.drewN wr _ = wr; have n0_ := Aside0.mk (Kd.R_at hq_ HO_0.out); have n1_ := Aside0.mk (kept_at hq_ HK.out); have n2_ := Aside0.mk (below_at hq_ HB.out); clear hq_ HO_0 HK HB; have HO_0 := n0_; have HK := n1_; have HB := n2_; clear n0_ n1_ n2_; (try (have HP12 := Kd.R_putg HO_0.out ((ji5) : Int) ((IntKind.u64.wrap (x6_1 + (IntKind.u64.wrap ((IntKind.u64.wrap (rd x0_1 (ji5))) + (IntKind.u64.wrap (rd l1 x10_1)))))) % 4294967296))))); refine store_event (t := 55) (p := 34) (v := ?vo_w13) (w1 := (wr.setCell ⟨go10, ((ji5) : Int).toNat, none⟩ (.int .u32 ((IntKind.u64.wrap (x6_1 + (IntKind.u64.wrap ((IntKind.u64.wrap (rd x0_1 (ji5))) + (IntKind.u64.wrap (rd l1 x10_1)))))) % 4294967296)))) ?hg ?ho ?hn ?hr ?_; (case ho => rfl); (case hg => rfl); (case hn => rfl); (case hr => first | (go_simp; done) | (go_simp; rfl)); intro w13 hw; have hg : wr.grownBy w13 (some go10) := (by rw [hw]; exact HP12.2); have hp_ : Kd.R (Kd.int .u32) 55 w13 w0.heap.size (fun k_ => (P0_ k_ ∨ w.heap.size ≤ k_)) (.slice (some ⟨go10, 0, none⟩) x0_1.length co11) y152 := (by rw [hw, Ny152.out]; exact HP12.1); clear HP12; have n0_ := Aside0.mk (hp_); have n1_ := Aside0.mk ((by rw [hw]; exact below_set (HB.out) GB10.out : Below w0.heap.size w0 w13)); have n2_ := Aside0.mk (Kept.of_grown (S := (fun k_ => P0_ k_)) hg (by repeat (first | (with_reducible first | exact HK.out | apply Kept.alloc | apply Kept.drewN | apply Kept.drew) | exact HK.out)) (fun k_ e_ => (HO_0.out.1 k_ e_))); clear HO_0; clear HB; clear HK; have HO_0 := n0_; have HB := n1_; have HK := n2_; clear n0_ n1_ n2_; clear hg hw hp_)); try go_wp2_with (first | ((with_reducible refine gate_store (t := 55) (p := 34) rfl ?_); (try (rw [drewN_self wr]; generalize hq_ : World.drewN wr _ = wr; have n0_ := Aside0.mk (Kd.R_at hq_ HO_0.out); have n1_ := Aside0.mk (kept_at hq_ HK.out); have n2_ := Aside0.mk (below_at hq_ HB.out); clear hq_ HO_0 HK HB; have HO_0 := n0_; have HK := n1_; have HB := n2_; clear n0_ n1_ n2_; (try (have HP12 := Kd.R_putg HO_0.out ((ji5) : Int) ((IntKind.u64.wrap (x6_1 + (IntKind.u64.wrap ((IntKind.u64.wrap (rd x0_1 (ji5))) + (IntKind.u64.wrap (rd l1 x10_1)))))) % 4294967296))))); refine store_event (t := 55) (p := 34) (v := ?vo_w13) (w1 := (wr.setCell ⟨go10, ((ji5) : Int).toNat, none⟩ (.int .u32 ((IntKind.u64.wrap (x6_1 + (IntKind.u64.wrap ((IntKind.u64.wrap (rd x0_1 (ji5))) + (IntKind.u64.wrap (rd l1 x10_1)))))) % 4294967296)))) ?hg ?ho ?hn ?hr ?_; (case ho => rfl); (case hg => rfl); (case hn => rfl); (case hr => first | (go_simp; done) | (go_simp; rfl)); intro w13 hw; have hg : wr.grownBy w13 (some go10) := (by rw [hw]; exact HP12.2); have hp_ : Kd.R (Kd.int .u32) 55 w13 w0.heap.size (fun k_ => (P0_ k_ ∨ w.heap.size ≤ k_)) (.slice (some ⟨go10, 0, none⟩) x0_1.length co11) y152 := (by rw [hw, Ny152.out]; exact HP12.1); clear HP12; have n0_ := Aside0.mk (hp_); have n1_ := Aside0.mk ((by rw [hw]; exact below_set (HB.out) GB10.out : Below w0.heap.size w0 w13)); have n2_ := Aside0.mk (Kept.of_grown (S := (fun k_ => P0_ k_)) hg (by repeat (first | (with_reducible first | exact HK.out | apply Kept.alloc | apply Kept.drewN | apply Kept.drew) | exact HK.out)) (fun k_ e_ => (HO_0.out.1 k_ e_))); clear HO_0; clear HB; clear HK; have HO_0 := n0_; have HB := n1_; have HK := n2_; clear n0_ n1_ n2_; clear hg hw hp_)))
        go_roundg k1
        case measure => have := HK1.out; omega
        case rel => exact ⟨(y152), ((IntKind.u64.wrap (x6_1 + (IntKind.u64.wrap ((IntKind.u64.wrap (rd x0_1 (ji5))) + (IntKind.u64.wrap (rd l1 x10_1)))))) / 4294967296), (wrap64 (x10_1 + 1)), (by first | rfl | (simp; done) | (simp only [← hji5] <;> (first | rfl | simp)) | (simp [*]; done)), (by first | rfl | (simp; done) | (simp [*]; done)), H', ⟨by have := HK1.out; omega⟩, ⟨by rw [Ny152.out]; refine (Kd.R_putg ?_ _ _).1; (with_reducible repeat (first | apply Kd.R_alloc | apply Kd.R_drewN | apply Kd.R_drew)); exact HO_0.out⟩, ⟨by refine Kept.setCell ?_ HMgo10.out _; repeat (first | (with_reducible first | exact HK.out | apply Kept.alloc | apply Kept.drewN | apply Kept.drew) | exact HK.out)⟩, ⟨by refine below_set ?_ GB10.out; repeat (first | (with_reducible first | exact HB.out | apply below_alloc | apply pw_below_drewN | apply below_drew1) | exact HB.out)⟩⟩
       ·rw [if_neg c9] at H
        exact absurd H (by simp)
      ·rw [if_neg c8] at H
       exact absurd H (by simp)
     ·rw [if_neg c7] at H
      exact absurd H (by simp)
    ·rw [if_neg c6] at H
     exact absurd H (by simp)
   ·rw [if_neg c4] at H
    have c4b0 : decide (x10_1 < (l1.length : Int)) = false := decide_eq_false c4
    (try simp only [hl5_1] at c4b0)
    clear c4
    obtain ⟨ji14, hji14⟩ : ∃ j_ : Int, (wrap64 (a2 + (l1.length : Int))) = j_ := ⟨_, rfl⟩
    replace H : (if 0 ≤ (ji14) then (if (ji14) < (x0_1.length : Int) then (some (x0_1.set ((ji14) : Int).toNat (((rd x0_1 (ji14)) + ((x6_1) % 4294967296)) % 4294967296))) else (none)) else (none)) = some r := by first | (rw [hji14] at H; exact H) | (simp only [hji14] at H ⊢; exact H)
    have hji14w : (IntKind.i64.wrap (a2 + (l1.length : Int))) = ji14 := (i64_w _).trans hji14
    by_cases c15 : 0 ≤ (ji14)
    ·rw [if_pos c15] at H
     have c15b0 : decide (0 ≤ (ji14)) = true := decide_eq_true c15
     clear c15
     by_cases c16 : (ji14) < (x0_1.length : Int)
     ·rw [if_pos c16] at H
      have c16b0 : decide ((ji14) < (x0_1.length : Int)) = true := decide_eq_true c16
      clear c16
      obtain ⟨y154, hy154⟩ : ∃ y_ : List Int, y_ = (x0_1.set ((ji14) : Int).toNat (((rd x0_1 (ji14)) + ((x6_1) % 4294967296)) % 4294967296)) := ⟨_, rfl⟩
      replace H : (some y154) = some r := by first | (rw [hy154]; with_reducible exact H) | (have H2_ := (Option.bind_some _ _).symm.trans H; rw [hy154]; with_reducible exact H2_) | (have H2_ := (Option.bind_some _ _).symm.trans H; with_reducible exact H2_) | with_reducible exact H | (rw [hy154]; exact H) | exact H
      have Ny154 := Aside0.mk hy154
      clear hy154
      obtain rfl := Option.some.inj H
      obtain ⟨Ao18, co18, eo18⟩ := Kd.R_slice HO_0.out
      subst eo18
      have p153 : 0 ≤ ((ji14) : Int) := of_decide_eq_true (by first | (with_reducible assumption) | assumption)
      have q153 : (ji14) < (x0_1.length : Int) := of_decide_eq_true (by first | (with_reducible assumption) | assumption)
      obtain ⟨ad153, e153, hx153_0⟩ := Kd.at_int (Kd.R_reads' HO_0.out).2.2 (ji14) p153 q153
      cases e153
      replace p153 := eq_true p153
      replace q153 := eq_true q153
      have p17 : 0 ≤ ((ji14) : Int) := of_decide_eq_true (by first | (with_reducible assumption) | assumption)
      have q17 : ((ji14) : Int) < ((x0_1.length : Int) : Int) := of_decide_eq_true (by first | (with_reducible assumption) | assumption)
      obtain ⟨go17, co17, eo17, gb17, gl17, cl17, HG17⟩ := Kd.R_form HO_0.out (by omega)
      (first | cases eo17 | (injection eo17 with ea_ en_ ec_; (first | subst ea_ | (injection ea_ with ea_; subst ea_)); subst ec_; clear en_))
      have GB17 := Aside0.mk gb17
      have GG17 := Aside0.mk HG17
      clear gb17 gl17 HG17
      have HMgo17 := Aside0.mk (show (P0_ go17 ∨ w.heap.size ≤ go17) from (HO_0.out.1 _ rfl))
      (first | simp only [add_plain] at hx153_0 | skip)
      obtain ⟨hx17_0, hf17_0⟩ := Kd.R_celln 0 HO_0.out ((ji14) : Int) p17 q17
      replace p17 := eq_true p17
      replace q17 := eq_true q17
      have HP19 := Kd.R_putg HO_0.out ((ji14) : Int) (((rd x0_1 (ji14)) + ((x6_1) % 4294967296)) % 4294967296)
      go_wp2_with (first | ((with_reducible refine gate_store (t := 55) (p := 48) rfl ?_); (try (rw [drewN_self wr]; generalize hq_ : World.drewN wr _ = wr; have n0_ := Aside0.mk (Kd.R_at hq_ HO_0.out); have n1_ := Aside0.mk (kept_at hq_ HK.out); have n2_ := Aside0.mk (below_at hq_ HB.out); clear hq_ HO_0 HK HB; have HO_0 := n0_; have HK := n1_; have HB := n2_; clear n0_ n1_ n2_; (try (have HP19 := Kd.R_putg HO_0.out ((ji14) : Int) (((rd x0_1 (ji14)) + ((x6_1) % 4294967296)) % 4294967296))))); refine store_event (t := 55) (p := 48) (v := ?vo_w20) (w1 := (wr.setCell ⟨go17, ((ji14) : Int).toNat, none⟩ (.int .u32 (((rd x0_1 (ji14)) + ((x6_1) % 4294967296)) % 4294967296)))) ?hg ?ho ?hn ?hr ?_; (case ho => rfl); (case hg => rfl); (case hn => rfl); (case hr => first | (go_simp; done) | (go_simp; rfl)); intro w20 hw; have hg : wr.grownBy w20 (some go17) := (by rw [hw]; exact HP19.2); have hp_ : Kd.R (Kd.int .u32) 55 w20 w0.heap.size (fun k_ => (P0_ k_ ∨ w.heap.size ≤ k_)) (.slice (some ⟨go17, 0, none⟩) x0_1.length co18) y154 := (by rw [hw, Ny154.out]; exact HP19.1); clear HP19; have n0_ := Aside0.mk (hp_); have n1_ := Aside0.mk ((by rw [hw]; exact below_set (HB.out) GB17.out : Below w0.heap.size w0 w20)); have n2_ := Aside0.mk (Kept.of_grown (S := (fun k_ => P0_ k_)) hg (by repeat (first | (with_reducible first | exact HK.out | apply Kept.alloc | apply Kept.drewN | apply Kept.drew) | exact HK.out)) (fun k_ e_ => (HO_0.out.1 k_ e_))); clear HO_0; clear HB; clear HK; have HO_0 := n0_; have HB := n1_; have HK := n2_; clear n0_ n1_ n2_; clear hg hw hp_))
      repeat (go_quiet (first | ((with_reducible refine gate_store (t := 55) (p := 48) rfl ?_); (try (rw [drewN_self wr]; generalize hq_ : World.drewN wr _ = wr; have n0_ := Aside0.mk (Kd.R_at hq_ HO_0.out); have n1_ := Aside0.mk (kept_at hq_ HK.out); have n2_ := Aside0.mk (below_at hq_ HB.out); clear hq_ HO_0 HK HB; have HO_0 := n0_; have HK := n1_; have HB := n2_; clear n0_ n1_ n2_; (try (have HP19 := Kd.R_putg HO_0.out ((ji14) : Int) (((rd x0_1 (ji14)) + ((x6_1) % 4294967296)) % 4294967296))))); refine store_event (t := 55) (p := 48) (v := ?vo_w20) (w1 := (wr.setCell ⟨go17, ((ji14) : Int).toNat, none⟩ (.int .u32 (((rd x0_1 (ji14)) + ((x6_1) % 4294967296)) % 4294967296)))) ?hg ?ho ?hn ?hr ?_; (case ho => rfl); (case hg => rfl); (case hn => rfl); (case hr => first | (go_simp; done) | (go_simp; rfl)); intro w20 hw; have hg : wr.grownBy w20 (some go17) := (by rw [hw]; exact HP19.2); have hp_ : Kd.R (Kd.int .u32) 55 w20 w0.heap.size (fun k_ => (P0_ k_ ∨ w.heap.size ≤ k_)) (.slice (some ⟨go17, 0, none⟩) x0_1.length co18) y154 := (by rw [hw, Ny154.out]; exact HP19.1); clear HP19; have n0_ := Aside0.mk (hp_); have n1_ := Aside0.mk ((by rw [hw]; exact below_set (HB.out) GB17.out : Below w0.heap.size w0 w20)); have n2_ := Aside0.mk (Kept.of_grown (S := (fun k_ => P0_ k_)) hg (by repeat (first | (with_reducible first | exact HK.out | apply Kept.alloc | apply Kept.drewN | apply Kept.drew) | exact HK.out)) (fun k_ e_ => (HO_0.out.1 k_ e_))); clear HO_0; clear HB; clear HK; have HO_0 := n0_; have HB := n1_; have HK := n2_; clear n0_ n1_ n2_; clear hg hw hp_)); try go_wp2_with (first | ((with_reducible refine gate_store (t := 55) (p := 48) rfl ?_); (try (rw [drewN_self wr]; generalize hq_ : World.drewN wr _ = wr; have n0_ := Aside0.mk (Kd.R_at hq_ HO_0.out); have n1_ := Aside0.mk (kept_at hq_ HK.out); have n2_ := Aside0.mk (below_at hq_ HB.out); clear hq_ HO_0 HK HB; have HO_0 := n0_; have HK := n1_; have HB := n2_; clear n0_ n1_ n2_; (try (have HP19 := Kd.R_putg HO_0.out ((ji14) : Int) (((rd x0_1 (ji14)) + ((x6_1) % 4294967296)) % 4294967296))))); refine store_event (t := 55) (p := 48) (v := ?vo_w20) (w1 := (wr.setCell ⟨go17, ((ji14) : Int).toNat, none⟩ (.int .u32 (((rd x0_1 (ji14)) + ((x6_1) % 4294967296)) % 4294967296)))) ?hg ?ho ?hn ?hr ?_; (case ho => rfl); (case hg => rfl); (case hn => rfl); (case hr => first | (go_simp; done) | (go_simp; rfl)); intro w20 hw; have hg : wr.grownBy w20 (some go17) := (by rw [hw]; exact HP19.2); have hp_ : Kd.R (Kd.int .u32) 55 w20 w0.heap.size (fun k_ => (P0_ k_ ∨ w.heap.size ≤ k_)) (.slice (some ⟨go17, 0, none⟩) x0_1.length co18) y154 := (by rw [hw, Ny154.out]; exact HP19.1); clear HP19; have n0_ := Aside0.mk (hp_); have n1_ := Aside0.mk ((by rw [hw]; exact below_set (HB.out) GB17.out : Below w0.heap.size w0 w20)); have n2_ := Aside0.mk (Kept.of_grown (S := (fun k_ => P0_ k_)) hg (by repeat (first | (with_reducible first | exact HK.out | apply Kept.alloc | apply Kept.drewN | apply Kept.drew) | exact HK.out)) (fun k_ e_ => (HO_0.out.1 k_ e_))); clear HO_0; clear HB; clear HK; have HO_0 := n0_; have HB := n1_; have HK := n2_; clear n0_ n1_ n2_; clear hg hw hp_)))
      first | go_end0 | ((try simp only [Exit.inBlock, Exit.then]); refine bodyPost_ret (results_none rfl _ _ _) rfl ?_)
      exact ⟨by first | rfl | (simp [errW_none, errW_some] <;> rfl) | (simp only [← hji14]; first | rfl | (simp [errW_none, errW_some] <;> rfl)) | (simp [*, errW_none, errW_some] <;> rfl), by (with_reducible repeat (first | apply Kd.R_alloc | apply Kd.R_drewN | apply Kd.R_drew)); exact HO_0.out, by repeat (first | (with_reducible first | exact HB.out | apply below_alloc | apply pw_below_drewN | apply below_drew1) | exact HB.out), by repeat (first | (with_reducible first | exact HK.out | apply Kept.alloc | apply Kept.drewN | apply Kept.drew) | exact HK.out)⟩
     ·rw [if_neg c16] at H
      exact absurd H (by simp)
    ·rw [if_neg c15] at H
     exact absurd H (by simp)
end Go.Proofs.YtakickbnjbedfaaDoor.PA
end
section
namespace Go.Proofs.YtakickbnjbedfaaDoor.PA
open Go.RowKit Go.Proofs.YtakickbnjbedfaaDoorW.PrintWords Go.Proofs.YtakickbnjbedfaaDoorW.PrintLast Go.Proofs.YtakickbnjbedfaaDoorW.PrintMore
attribute [local go_sem] max2_int min2_int max_two min_two
set_option linter.unusedVariables false
set_option linter.unusedSimpArgs false
def nat_unshift.l0 : Nat → List Int → Int → List Int → List Int → Int → Int → Option (List Int)
 | 0, _, _, _, _, _, _ => none
 | k + 1, x0, x1, x5, x11, x12, x13 => if x13 < x12 then (if 0 ≤ x13 then (if x13 < (x11.length : Int) then (if 0 ≤ x1 then ((nat_at.f x0 (wrap64 (x13 + 1))).bind fun t160 => (if 0 ≤ (wrap64 (32 - x1)) then (if x13 < (x5.length : Int) then (nat_unshift.l0 k x0 x1 (x5.set (x13 : Int).toNat (Go.bits .or .u32 (shr .u32 (rd x11 x13) x1) ((shl .u64 t160 (wrap64 (32 - x1))) % 4294967296))) x11 x12 (wrap64 (x13 + 1))) else (none)) else (none))) else (none)) else (none)) else (none)) else (some x5)
def nat_unshift.f (k : Nat) (l0 : List Int) (a1 : Int) : Option (List Int) := if 0 ≤ (l0.length : Int) then (if ((l0.length : Int) : Int).toNat ≤ 70368744177664 then (nat_unshift.l0 k l0 a1 (List.replicate ((l0.length : Int) : Int).toNat 0) l0 (l0.length : Int) 0) else (none)) else (none)
def nat_unshift.T5 : Bool × List (List Nat × List Nat) := (true, [([], []), ([], []), ([], []), ([], []), ([2, 3], [2, 3]), ([], []), ([], []), ([6], [6]), ([5, 7], [5, 7]), ([], []), ([9], [9]), ([8, 10], [8, 10]), ([11], [11]), ([4, 12], [4, 12]), ([0, 1, 0, 1, 2, 3, 4, 5, 6, 7, 8, 9, 10, 11, 12, 13], [0, 1]), ([14, 13, 8, 0, 1, 2, 3, 4, 5, 6, 7, 8, 9, 10, 11, 12, 13], [13, 14])])
def nat_unshift.B5 : List Nat := [0, 0, 0, 0, 12, 0, 0, 64, 224, 0, 512, 2016, 4064, 8188, 16383, 32767]
theorem nat_unshift.tab5 : rtab .any (opsOf Tryd.f190 5) = nat_unshift.T5 := by kernel_rfl
theorem nat_unshift.bits5 : waitsOk nat_unshift.T5.2 nat_unshift.B5 = true := by kernel_rfl
set_option maxHeartbeats 8000000 in
set_option maxRecDepth 100000 in
theorem nat_unshift.calls (k : Nat) (A0 : Option Addr) (c0 : Nat) (l0 : List Int) (a1 : Int) (r : List Int) (w : World) (hr0 : Kd.C (Kd.int .u32) w A0 l0.length l0) (hc0 : l0.length ≤ c0) (h : nat_unshift.f k l0 a1 = some r) :
  Calls Tryd.prog 190 #[.slice A0 l0.length c0, .int .i64 a1] w fun e w' => ∃ v0_ : Value, e = .returned (v0_) ∧ Kd.R (Kd.int .u32) 55 w' w.heap.size (fun _ => True) v0_ r ∧ Below w.heap.size w w' := by
 have HR0 := Aside0.mk hr0
 have HC0 := Aside0.mk hc0
 clear hr0 hc0
 have HB := Aside0.mk (Below.refl w.heap.size w)
 have H : (if 0 ≤ (l0.length : Int) then (if ((l0.length : Int) : Int).toNat ≤ 70368744177664 then (nat_unshift.l0 k l0 a1 (List.replicate ((l0.length : Int) : Int).toNat 0) l0 (l0.length : Int) 0) else (none)) else (none)) = some r := h
 clear h
 by_cases c3 : 0 ≤ (l0.length : Int)
 ·rw [if_pos c3] at H
  have c3b0 := eq_true c3
  have c3b1 : decide (0 ≤ (l0.length : Int)) = true := decide_eq_true c3
  clear c3
  by_cases c4 : ((l0.length : Int) : Int).toNat ≤ 70368744177664
  ·rw [if_pos c4] at H
   have c4b0 := eq_true c4
   have c4b1 : decide (((l0.length : Int) : Int).toNat ≤ 70368744177664) = true := decide_eq_true c4
   clear c4
   obtain ⟨y156, hy156⟩ : ∃ y_ : List Int, y_ = (List.replicate ((l0.length : Int) : Int).toNat 0) := ⟨_, rfl⟩
   replace H : (nat_unshift.l0 k l0 a1 y156 l0 (l0.length : Int) 0) = some r := by first | (rw [hy156]; with_reducible exact H) | (have H2_ := (Option.bind_some _ _).symm.trans H; rw [hy156]; with_reducible exact H2_) | (have H2_ := (Option.bind_some _ _).symm.trans H; with_reducible exact H2_) | with_reducible exact H | (rw [hy156]; exact H) | exact H
   have Ny156 := Aside0.mk hy156
   clear hy156
   have H' := Aside0.mk H
   clear H
   go_enter Tryd.func190, Tryd.ntmps190
   go_wp2_with (first | ((with_reducible refine gate_dst (N := 10) rfl ?_); refine Kd.R_make (Kd.int .u32) _ 55 rfl (N := 10) rfl 22 _ _ rfl (l0.length : Int) rfl rfl Tryd.underlying22 (.int .u32 0) 4 info55 rfl (by decide) (by omega) 0 (ok := fun _ => True) (okp := fun _ => True) rfl (fun _ hk => hk) trivial (of_decide_eq_true (by first | (with_reducible assumption) | assumption)) (Nat.le_trans (Nat.mul_le_mul_right _ (of_decide_eq_true (by first | (with_reducible assumption) | assumption) : (l0.length : Int).toNat ≤ 70368744177664)) (by omega)) (Below.refl _ _) (Nat.le_refl _) ?_; intro v157 w5 ho6 hb hg_ hnew_; clear hg_ hnew_; (first | rw [← Ny156.out] at ho6 | (simp only [Int.reduceToNat] at ho6; rw [← Ny156.out] at ho6)); have n0_ := Aside0.mk (Kd.R_lower ho6 (below_size (by repeat (first | (with_reducible first | exact HB.out | apply below_alloc | apply pw_below_drewN | apply below_drew1) | exact HB.out)))); have n1_ := Aside0.mk (below_step (by repeat (first | (with_reducible first | exact HB.out | apply below_alloc | apply pw_below_drewN | apply below_drew1) | exact HB.out)) hb); clear HB; have HO158 := n0_; have HB := n1_; clear n0_ n1_; clear hb ho6))
   go_loopg [13] k (fun kq v13 w' => ∃ (x5_1 : List Int) (x13_1 : Int), v13 = .int .i64 x13_1 ∧ Aside0 (nat_unshift.l0 kq l0 a1 x5_1 l0 (l0.length : Int) x13_1 = some r) ∧ Aside0 (kq ≤ k) ∧ Aside0 (Kd.R (Kd.int .u32) 55 w' w.heap.size (fun _ => True) v157 x5_1) ∧ Aside0 (Below w.heap.size w w'))
   case atStart => exact ⟨(y156), (0), (by first | rfl | (simp; done) | (simp [*]; done)), H', ⟨Nat.le_refl _⟩, ⟨by (with_reducible repeat (first | apply Kd.R_alloc | apply Kd.R_drewN | apply Kd.R_drew)); exact HO158.out⟩, ⟨by repeat (first | (with_reducible first | exact HB.out | apply below_alloc | apply pw_below_drewN | apply below_drew1) | exact HB.out)⟩⟩
   case round =>
    clear H'
    try clear c1
    try clear p2
    try clear c3
    try clear c3b0
    try clear c3b1
    try clear c4
    try clear c4b0
    try clear c4b1
    obtain ⟨x5_1, x13_1, rfl, HA, HK1, HO_5, HB⟩ := hrel
    cases gk with
    | zero => exact absurd HA.out (by simp [nat_unshift.l0])
    | succ k1 =>
     have H := HA.out
     clear HA
     simp only [nat_unshift.l0] at H
     by_cases c7 : x13_1 < (l0.length : Int)
     ·rw [if_pos c7] at H
      have c7b0 : decide (x13_1 < (l0.length : Int)) = true := decide_eq_true c7
      clear c7
      by_cases c8 : 0 ≤ x13_1
      ·rw [if_pos c8] at H
       have c8b0 : decide (0 ≤ x13_1) = true := decide_eq_true c8
       clear c8
       by_cases c9 : x13_1 < (l0.length : Int)
       ·rw [if_pos c9] at H
        have c9b0 : decide (x13_1 < (l0.length : Int)) = true := decide_eq_true c9
        clear c9
        by_cases c10 : 0 ≤ a1
        ·rw [if_pos c10] at H
         have c10b0 := eq_true c10
         have c10b1 : decide (0 ≤ a1) = true := decide_eq_true c10
         clear c10
         obtain ⟨ji11, hji11⟩ : ∃ j_ : Int, (shr .u32 (rd l0 x13_1) a1) = j_ := ⟨_, rfl⟩
         replace H : ((nat_at.f l0 (wrap64 (x13_1 + 1))).bind fun t160 => (if 0 ≤ (wrap64 (32 - a1)) then (if x13_1 < (x5_1.length : Int) then (nat_unshift.l0 k1 l0 a1 (x5_1.set (x13_1 : Int).toNat (Go.bits .or .u32 (ji11) ((shl .u64 t160 (wrap64 (32 - a1))) % 4294967296))) l0 (l0.length : Int) (wrap64 (x13_1 + 1))) else (none)) else (none))) = some r := by first | (rw [hji11] at H; exact H) | (simp only [hji11] at H ⊢; exact H)
         have hji11_ : ((rd l0 x13_1) / 2 ^ min a1.toNat 32) = ji11 := hji11
         have hji11z : a1 ≤ 32 → ((rd l0 x13_1) / 2 ^ a1.toNat) = ji11 := shr_small hji11
         replace H := Option.bind_eq_some_iff.mp H
         obtain ⟨t160, A120, H⟩ := H
         replace H : (if 0 ≤ (wrap64 (32 - a1)) then (if x13_1 < (x5_1.length : Int) then (nat_unshift.l0 k1 l0 a1 (x5_1.set (x13_1 : Int).toNat (Go.bits .or .u32 (ji11) ((shl .u64 t160 (wrap64 (32 - a1))) % 4294967296))) l0 (l0.length : Int) (wrap64 (x13_1 + 1))) else (none)) else (none)) = some r := H
         have A12 := Aside0.mk A120
         clear A120
         obtain ⟨ji13, hji13⟩ : ∃ j_ : Int, (wrap64 (32 - a1)) = j_ := ⟨_, rfl⟩
         replace H : (if 0 ≤ (ji13) then (if x13_1 < (x5_1.length : Int) then (nat_unshift.l0 k1 l0 a1 (x5_1.set (x13_1 : Int).toNat (Go.bits .or .u32 (ji11) ((shl .u64 t160 (ji13)) % 4294967296))) l0 (l0.length : Int) (wrap64 (x13_1 + 1))) else (none)) else (none)) = some r := by first | (rw [hji13] at H; exact H) | (simp only [hji13] at H ⊢; exact H)
         (try rw [hji13] at A12)
         have hji13w : (IntKind.i64.wrap (32 - a1)) = ji13 := (i64_w _).trans hji13
         by_cases c14 : 0 ≤ (ji13)
         ·rw [if_pos c14] at H
          have c14b0 := eq_true c14
          have c14b1 : decide (0 ≤ (ji13)) = true := decide_eq_true c14
          clear c14
          obtain ⟨ji15, hji15⟩ : ∃ j_ : Int, (shl .u64 t160 (ji13)) = j_ := ⟨_, rfl⟩
          replace H : (if x13_1 < (x5_1.length : Int) then (nat_unshift.l0 k1 l0 a1 (x5_1.set (x13_1 : Int).toNat (Go.bits .or .u32 (ji11) ((ji15) % 4294967296))) l0 (l0.length : Int) (wrap64 (x13_1 + 1))) else (none)) = some r := by first | (rw [hji15] at H; exact H) | (simp only [hji15] at H ⊢; exact H)
          (try rw [hji15] at A12)
          have hji15_ : (IntKind.u64.wrap (t160 * 2 ^ min (ji13).toNat 64)) = ji15 := hji15
          have hji15z : (ji13) ≤ 64 → (IntKind.u64.wrap (t160 * 2 ^ (ji13).toNat)) = ji15 := shl_small hji15
          by_cases c16 : x13_1 < (x5_1.length : Int)
          ·rw [if_pos c16] at H
           have c16b0 : decide (x13_1 < (x5_1.length : Int)) = true := decide_eq_true c16
           clear c16
           obtain ⟨y161, hy161⟩ : ∃ y_ : List Int, y_ = (x5_1.set (x13_1 : Int).toNat (Go.bits .or .u32 (ji11) ((ji15) % 4294967296))) := ⟨_, rfl⟩
           replace H : (nat_unshift.l0 k1 l0 a1 y161 l0 (l0.length : Int) (wrap64 (x13_1 + 1))) = some r := by first | (rw [hy161]; with_reducible exact H) | (have H2_ := (Option.bind_some _ _).symm.trans H; rw [hy161]; with_reducible exact H2_) | (have H2_ := (Option.bind_some _ _).symm.trans H; with_reducible exact H2_) | with_reducible exact H | (rw [hy161]; exact H) | exact H
           have Ny161 := Aside0.mk hy161
           clear hy161
           have H' := Aside0.mk H
           clear H
           have p159 : 0 ≤ (x13_1 : Int) := of_decide_eq_true (by first | (with_reducible assumption) | assumption)
           have q159 : x13_1 < (l0.length : Int) := of_decide_eq_true (by first | (with_reducible assumption) | assumption)
           obtain ⟨ad159, e159, hx159_0⟩ := Kd.at_int HR0.out x13_1 p159 q159
           cases e159
           replace hx159_0 := (HB.out.cell (World.block_lt_of_cell? w _ hx159_0)).trans hx159_0
           replace p159 := eq_true p159
           replace q159 := eq_true q159
           try go_wp2
           have n0_ := Aside0.mk (Kd.R_drew HO_5.out)
           have n1_ := Aside0.mk (below_drew1 HB.out)
           clear HO_5
           clear HB
           have HO_5 := n0_
           have HB := n1_
           clear n0_ n1_
           refine start_ (n := 16) (S := fun w' => True) (ds := [15]) #[false, false, false, false, false, false, false, false, false, false, false, false, false, false, false, false] (by kernel_rfl) rfl rfl trivial (fun hHeld => ?_); refine with_tabW nat_unshift.tab5 nat_unshift.bits5 (fun HT_ HW_ => ?_)
           generalize wr.drew = w18 at HO_5 HB hHeld ⊢
           refine pure_ (i := 0) (N := some 18) (v := ?_) (a' := ?_) #[true, false, false, false, false, false, false, false, false, false, false, false, false, false, false, false] rfl rfl (any_of HT_.out (by kernel_rfl)) (fun _ _ _ h => h) (Or.inl ⟨by rfl, ?_⟩) ?_ ?_
           rotate_left
           ·intro w'
            go_simp
            with_reducible rfl
           rotate_left
           ·simp only [Act.put, List.setIfInBounds_toArray, List.set_cons_zero, List.set_cons_succ, i64_w, i32_w]
            rfl
           refine pure_ (i := 1) (N := some 19) (v := ?_) (a' := ?_) #[true, true, false, false, false, false, false, false, false, false, false, false, false, false, false, false] rfl rfl (any_of HT_.out (by kernel_rfl)) (fun _ _ _ h => h) (Or.inl ⟨by rfl, ?_⟩) ?_ ?_
           rotate_left
           ·intro w'
            go_simp
            with_reducible rfl
           rotate_left
           ·simp only [Act.put, List.setIfInBounds_toArray, List.set_cons_zero, List.set_cons_succ, i64_w, i32_w]
            rfl
           refine pure_ (i := 2) (N := some 20) (v := ?_) (a' := ?_) #[true, true, true, false, false, false, false, false, false, false, false, false, false, false, false, false] rfl rfl (any_of HT_.out (by kernel_rfl)) (fun _ _ _ h => h) (Or.inl ⟨by rfl, ?_⟩) ?_ ?_
           rotate_left
           ·intro w'
            go_simp
            with_reducible rfl
           rotate_left
           ·simp only [Act.put, List.setIfInBounds_toArray, List.set_cons_zero, List.set_cons_succ, i64_w, i32_w]
            rfl
           refine pure_ (i := 3) (N := some 21) (v := ?_) (a' := ?_) #[true, true, true, true, false, false, false, false, false, false, false, false, false, false, false, false] rfl rfl (any_of HT_.out (by kernel_rfl)) (fun _ _ _ h => h) (Or.inl ⟨by rfl, ?_⟩) ?_ ?_
           rotate_left
           ·intro w'
            go_simp
            with_reducible rfl
           rotate_left
           ·simp only [Act.put, List.setIfInBounds_toArray, List.set_cons_zero, List.set_cons_succ, i64_w, i32_w]
            rfl
           refine pure_ (i := 4) (N := some 22) (v := ?_) (a' := ?_) #[true, true, true, true, true, false, false, false, false, false, false, false, false, false, false, false] rfl rfl (any_of HT_.out (by kernel_rfl)) (fun _ _ _ h => h) (Or.inl ⟨by rfl, ?_⟩) ?_ ?_
           rotate_left
           ·intro w'
            go_simp
            with_reducible rfl
           rotate_left
           ·simp only [Act.put, List.setIfInBounds_toArray, List.set_cons_zero, List.set_cons_succ, i64_w, i32_w]
            rfl
           refine pure_ (i := 5) (N := some 23) (v := ?_) (a' := ?_) #[true, true, true, true, true, true, false, false, false, false, false, false, false, false, false, false] rfl rfl (any_of HT_.out (by kernel_rfl)) (fun _ _ _ h => h) (Or.inl ⟨by rfl, ?_⟩) ?_ ?_
           rotate_left
           ·intro w'
            go_simp
            with_reducible rfl
           rotate_left
           ·simp only [Act.put, List.setIfInBounds_toArray, List.set_cons_zero, List.set_cons_succ, i64_w, i32_w]
            rfl
           refine pure_ (i := 6) (N := some 24) (v := ?_) (a' := ?_) #[true, true, true, true, true, true, true, false, false, false, false, false, false, false, false, false] rfl rfl (any_of HT_.out (by kernel_rfl)) (fun _ _ _ h => h) (Or.inl ⟨by rfl, ?_⟩) ?_ ?_
           rotate_left
           ·intro w'
            go_simp
            with_reducible rfl
           rotate_left
           ·simp only [Act.put, List.setIfInBounds_toArray, List.set_cons_zero, List.set_cons_succ, i64_w, i32_w]
            rfl
           refine pure_ (i := 7) (N := some 25) (v := ?_) (a' := ?_) #[true, true, true, true, true, true, true, true, false, false, false, false, false, false, false, false] rfl rfl (any_of HT_.out (by kernel_rfl)) (fun _ _ _ h => h) (Or.inl ⟨by rfl, ?_⟩) ?_ ?_
           rotate_left
           ·intro w'
            go_simp
            with_reducible rfl
           rotate_left
           ·simp only [Act.put, List.setIfInBounds_toArray, List.set_cons_zero, List.set_cons_succ, i64_w, i32_w]
            rfl
           refine pure_ (i := 9) (N := some 27) (v := ?_) (a' := ?_) #[true, true, true, true, true, true, true, true, false, true, false, false, false, false, false, false] rfl rfl (any_of HT_.out (by kernel_rfl)) (fun _ _ _ h => h) (Or.inl ⟨by rfl, ?_⟩) ?_ ?_
           rotate_left
           ·intro w'
            go_simp
            with_reducible rfl
           rotate_left
           ·simp only [Act.put, List.setIfInBounds_toArray, List.set_cons_zero, List.set_cons_succ, i64_w, i32_w]
            rfl
           refine pure_ (i := 10) (N := some 28) (v := ?_) (a' := ?_) #[true, true, true, true, true, true, true, true, false, true, true, false, false, false, false, false] rfl rfl (any_of HT_.out (by kernel_rfl)) (fun _ _ _ h => h) (Or.inl ⟨by rfl, ?_⟩) ?_ ?_
           rotate_left
           ·intro w'
            go_simp
            with_reducible rfl
           rotate_left
           ·simp only [Act.put, List.setIfInBounds_toArray, List.set_cons_zero, List.set_cons_succ, i64_w, i32_w]
            rfl
           refine one_ (i := 8) (N := some 26) #[true, true, true, true, true, true, true, true, true, true, true, false, false, false, false, false] rfl rfl (one_of HT_.out (by kernel_rfl)) (by decide) (fun K hK => ?_)
           refine goes_ Tryd.func150 (by kernel_rfl) rfl #[.slice (some ad159) l0.length c0, .int .i64 (wrap64 (x13_1 + 1))] (by rfl) rfl rfl (by (try simp only [List.map_toArray, List.map_cons, List.map_nil]); first | done | rfl | (simp only [List.length_drop, List.length_take]; rfl)) ?_
           with_reducible refine (nat_at.calls _ _ l0 (wrap64 (x13_1 + 1)) t160 _ ?side1 ?side2 A12.out).mono ?_
           (case side1 => repeat (first | exact (Kd.C_below HR0.out HB.out) | (with_reducible refine Kd.C_alloc ?_ _) | (with_reducible refine Kd.C_drewN ?_ _) | (with_reducible refine Kd.C_drew ?_)))
           (case side2 => exact HC0.out)
           rintro e w' ⟨rfl, ⟨nd, rfl⟩⟩
           refine ⟨_, rfl, ?_⟩
           have p17 : 0 ≤ (x13_1 : Int) := of_decide_eq_true (by first | (with_reducible assumption) | assumption)
           have q17 : (x13_1 : Int) < ((x5_1.length : Int) : Int) := of_decide_eq_true (by first | (with_reducible assumption) | assumption)
           obtain ⟨go17, co17, eo17, gb17, gl17, cl17, HG17⟩ := Kd.R_form HO_5.out (by omega)
           (first | cases eo17 | (injection eo17 with ea_ en_ ec_; (first | subst ea_ | (injection ea_ with ea_; subst ea_)); subst ec_; clear en_))
           have GB17 := Aside0.mk gb17
           have GG17 := Aside0.mk HG17
           clear gb17 gl17 HG17
           obtain ⟨hx17_0, hf17_0⟩ := Kd.R_celln 0 HO_5.out (x13_1 : Int) p17 q17
           replace p17 := eq_true p17
           replace q17 := eq_true q17
           have HP19 := Kd.R_putn HO_5.out (x13_1 : Int) (Go.bits .or .u32 (ji11) ((ji15) % 4294967296))
           rw [← Ny161.out] at HP19
           have HQ19 := Aside0.mk HP19
           clear HP19
           refine hK.out _ _ trivial (fun hHeld => ?_)
           clear hK K
           refine norm_ (a' := ?_) ?_ ?_
           rotate_left
           ·show Act.put _ (some 26) _ = _
            simp only [Act.put, List.setIfInBounds_toArray, List.set_cons_zero, List.set_cons_succ, i64_w, i32_w]
            rfl
           refine pure_ (i := 11) (N := some 29) (v := ?_) (a' := ?_) #[true, true, true, true, true, true, true, true, true, true, true, true, false, false, false, false] rfl rfl (any_of HT_.out (by kernel_rfl)) (fun _ _ _ h => h) (Or.inl ⟨by rfl, ?_⟩) ?_ ?_
           rotate_left
           ·intro w'
            go_simp
            with_reducible rfl
           rotate_left
           ·simp only [Act.put, List.setIfInBounds_toArray, List.set_cons_zero, List.set_cons_succ, i64_w, i32_w]
            rfl
           refine pure_ (i := 12) (N := some 30) (v := ?_) (a' := ?_) #[true, true, true, true, true, true, true, true, true, true, true, true, true, false, false, false] rfl rfl (any_of HT_.out (by kernel_rfl)) (fun _ _ _ h => h) (Or.inl ⟨by rfl, ?_⟩) ?_ ?_
           rotate_left
           ·intro w'
            go_simp
            with_reducible rfl
           rotate_left
           ·simp only [Act.put, List.setIfInBounds_toArray, List.set_cons_zero, List.set_cons_succ, i64_w, i32_w]
            rfl
           refine pure_ (i := 13) (N := some 31) (v := ?_) (a' := ?_) #[true, true, true, true, true, true, true, true, true, true, true, true, true, true, false, false] rfl rfl (any_of HT_.out (by kernel_rfl)) (fun _ _ _ h => h) (Or.inl ⟨by rfl, ?_⟩) ?_ ?_
           rotate_left
           ·intro w'
            go_simp
            with_reducible rfl
           rotate_left
           ·simp only [Act.put, List.setIfInBounds_toArray, List.set_cons_zero, List.set_cons_succ, i64_w, i32_w]
            rfl
           refine pure_ (i := 14) (N := some 32) (v := ?_) (a' := ?_) #[true, true, true, true, true, true, true, true, true, true, true, true, true, true, true, false] rfl rfl (any_of HT_.out (by kernel_rfl)) (fun _ _ _ h => h) (Or.inl ⟨by rfl, ?_⟩) ?_ ?_
           rotate_left
           ·intro w'
            go_simp
            with_reducible rfl
           rotate_left
           ·simp only [Act.put, List.setIfInBounds_toArray, List.set_cons_zero, List.set_cons_succ, i64_w, i32_w]
            rfl
           refine last_ (i := 15) (N := none) #[true, true, true, true, true, true, true, true, true, true, true, true, true, true, true, true] rfl rfl (one_of HT_.out (by kernel_rfl)) (by decide) (fun K hK => ?_)
           refine skip_ (w1 := ?_) (by rfl) rfl ?_ ?_
           rotate_left
           ·go_simp
            rfl
           refine hK.out _ _ ?_
           clear hK K
           refine done_ (done_of HT_.out (by kernel_rfl)) ?_
           try go_wp2
           go_roundg k1
           case measure => have := HK1.out; omega
           case rel => exact ⟨(y161), (wrap64 (x13_1 + 1)), (by first | rfl | (simp; done) | (simp [*]; done)), H', ⟨by have := HK1.out; omega⟩, ⟨by (with_reducible repeat (first | apply Kd.R_alloc | apply Kd.R_drewN | apply Kd.R_drew)); exact HQ19.out⟩, ⟨by repeat (first | (with_reducible first | exact HB.out | apply below_alloc | apply pw_below_drewN | apply below_drew1 | refine below_set ?_ GB17.out) | exact HB.out)⟩⟩
          ·rw [if_neg c16] at H
           exact absurd H (by simp)
         ·rw [if_neg c14] at H
          exact absurd H (by simp)
        ·rw [if_neg c10] at H
         exact absurd H (by simp)
       ·rw [if_neg c9] at H
        exact absurd H (by simp)
      ·rw [if_neg c8] at H
       exact absurd H (by simp)
     ·rw [if_neg c7] at H
      have c7b0 : decide (x13_1 < (l0.length : Int)) = false := decide_eq_false c7
      clear c7
      obtain rfl := Option.some.inj H
      go_wp2
      go_ret
      exact ⟨_, by first | rfl | (simp [errW_none, errW_some] <;> rfl) | (simp [*, errW_none, errW_some] <;> rfl), by (with_reducible repeat (first | apply Kd.R_alloc | apply Kd.R_drewN | apply Kd.R_drew)); exact HO_5.out, by repeat (first | (with_reducible first | exact HB.out | apply below_alloc | apply pw_below_drewN | apply below_drew1) | exact HB.out)⟩
  ·rw [if_neg c4] at H
   exact absurd H (by simp)
 ·rw [if_neg c3] at H
  exact absurd H (by simp)
end Go.Proofs.YtakickbnjbedfaaDoor.PA
end
section
namespace Go.Proofs.YtakickbnjbedfaaDoor.PA
open Go.RowKit Go.Proofs.YtakickbnjbedfaaDoorW.PrintWords Go.Proofs.YtakickbnjbedfaaDoorW.PrintLast Go.Proofs.YtakickbnjbedfaaDoorW.PrintMore
attribute [local go_sem] max2_int min2_int max_two min_two
set_option linter.unusedVariables false
set_option linter.unusedSimpArgs false
def nat_long.l0 : Nat → Int → List Int → List Int → List Int → Int → Option (List Int × List Int)
 | 0, _, _, _, _, _ => none
 | k + 1, x6, x7, x8, x9, x10 => if x10 ≥ 0 then ((nat_guess.f k x7 x8 x10).bind fun t186 => ((nat_take.f k x7 x8 x10 t186).bind fun bt187 => (if bt187.1 = true then ((nat_give.f k bt187.2 x8 x10).bind fun t189 => (if 0 ≤ x10 then (if x10 < (x9.length : Int) then (nat_long.l0 k x6 t189 x8 (x9.set (x10 : Int).toNat ((IntKind.u64.wrap (t186 - 1)) % 4294967296)) (wrap64 (x10 - 1))) else (none)) else (none))) else (if 0 ≤ x10 then (if x10 < (x9.length : Int) then (nat_long.l0 k x6 bt187.2 x8 (x9.set (x10 : Int).toNat ((t186) % 4294967296)) (wrap64 (x10 - 1))) else (none)) else (none))))) else ((nat_trim.f k x9).bind fun t177 => ((nat_unshift.f k x7 x6).bind fun t180 => ((nat_trim.f k t180).bind fun t183 => (some (t177, t183)))))
def nat_long.f (k : Nat) (l0 : List Int) (l1 : List Int) : Option (List Int × List Int) := if 0 ≤ (wrap64 ((l1.length : Int) - 1)) then (if (wrap64 ((l1.length : Int) - 1)) < (l1.length : Int) then ((bits_LeadingZeros32.f (rd l1 (wrap64 ((l1.length : Int) - 1)))).bind fun t163 => ((nat_shift.f k l0 t163).bind fun t164 => ((nat_shift.f k l1 t163).bind fun t167 => (if 0 ≤ (l1.length : Int) then (if (l1.length : Int) ≤ (t167.length : Int) then (if 0 ≤ (wrap64 ((wrap64 ((l0.length : Int) - (l1.length : Int))) + 1)) then (if (wrap64 ((wrap64 ((l0.length : Int) - (l1.length : Int))) + 1) : Int).toNat ≤ 70368744177664 then ((some (List.replicate (wrap64 ((wrap64 ((l0.length : Int) - (l1.length : Int))) + 1) : Int).toNat 0 : List Int)).bind fun y174 => (nat_long.l0 k t163 t164 (t167.take ((l1.length : Int) : Int).toNat) y174 (wrap64 ((y174.length : Int) - 1)))) else (none)) else (none)) else (none)) else (none))))) else (none)) else (none)
def nat_long.T2 : Bool × List (List Nat × List Nat) := (true, [([], []), ([], []), ([0, 1], [0, 1]), ([], []), ([], []), ([3, 4, 2], [3, 4]), ([], []), ([6], [6]), ([5, 7], [5, 7]), ([2, 5, 0, 1, 2], [2]), ([8, 9, 0, 1, 2, 3, 4, 5, 6, 7, 8, 9], [8])])
def nat_long.B2 : List Nat := [0, 0, 3, 0, 0, 31, 0, 64, 255, 63, 1023]
theorem nat_long.tab2 : rtab .any (opsOf Tryd.f167 2) = nat_long.T2 := by kernel_rfl
theorem nat_long.bits2 : waitsOk nat_long.T2.2 nat_long.B2 = true := by kernel_rfl
set_option maxHeartbeats 8000000 in
set_option maxRecDepth 100000 in
theorem nat_long.calls (k : Nat) (A0 : Option Addr) (c0 : Nat) (l0 : List Int) (A1 : Option Addr) (c1 : Nat) (l1 : List Int) (r1 : List Int) (r2 : List Int) (w : World) (hr0 : Kd.C (Kd.int .u32) w A0 l0.length l0) (hc0 : l0.length ≤ c0) (hr1 : Kd.C (Kd.int .u32) w A1 l1.length l1) (hc1 : l1.length ≤ c1) (h : nat_long.f k l0 l1 = some (r1, r2)) :
  Calls Tryd.prog 167 #[.slice A0 l0.length c0, .slice A1 l1.length c1] w fun e w' => ∃ v0_ v1_ : Value, e = .returned (.tuple #[v0_, v1_]) ∧ Kd.R (Kd.int .u32) 55 w' w.heap.size (fun k_ => some k_ ≠ (v1_ : Value).ownBlock) v0_ r1 ∧ Kd.R (Kd.int .u32) 55 w' w.heap.size (fun k_ => some k_ ≠ (v0_ : Value).ownBlock) v1_ r2 ∧ Below w.heap.size w w' := by
 have HR0 := Aside0.mk hr0
 have HC0 := Aside0.mk hc0
 clear hr0 hc0
 have HR1 := Aside0.mk hr1
 have HC1 := Aside0.mk hc1
 clear hr1 hc1
 have HB := Aside0.mk (Below.refl w.heap.size w)
 have H : (if 0 ≤ (wrap64 ((l1.length : Int) - 1)) then (if (wrap64 ((l1.length : Int) - 1)) < (l1.length : Int) then ((bits_LeadingZeros32.f (rd l1 (wrap64 ((l1.length : Int) - 1)))).bind fun t163 => ((nat_shift.f k l0 t163).bind fun t164 => ((nat_shift.f k l1 t163).bind fun t167 => (if 0 ≤ (l1.length : Int) then (if (l1.length : Int) ≤ (t167.length : Int) then (if 0 ≤ (wrap64 ((wrap64 ((l0.length : Int) - (l1.length : Int))) + 1)) then (if (wrap64 ((wrap64 ((l0.length : Int) - (l1.length : Int))) + 1) : Int).toNat ≤ 70368744177664 then ((some (List.replicate (wrap64 ((wrap64 ((l0.length : Int) - (l1.length : Int))) + 1) : Int).toNat 0 : List Int)).bind fun y174 => (nat_long.l0 k t163 t164 (t167.take ((l1.length : Int) : Int).toNat) y174 (wrap64 ((y174.length : Int) - 1)))) else (none)) else (none)) else (none)) else (none))))) else (none)) else (none)) = some (r1, r2) := h
 clear h
 obtain ⟨ji3, hji3⟩ : ∃ j_ : Int, (wrap64 ((l1.length : Int) - 1)) = j_ := ⟨_, rfl⟩
 replace H : (if 0 ≤ (ji3) then (if (ji3) < (l1.length : Int) then ((bits_LeadingZeros32.f (rd l1 (ji3))).bind fun t163 => ((nat_shift.f k l0 t163).bind fun t164 => ((nat_shift.f k l1 t163).bind fun t167 => (if 0 ≤ (l1.length : Int) then (if (l1.length : Int) ≤ (t167.length : Int) then (if 0 ≤ (wrap64 ((wrap64 ((l0.length : Int) - (l1.length : Int))) + 1)) then (if (wrap64 ((wrap64 ((l0.length : Int) - (l1.length : Int))) + 1) : Int).toNat ≤ 70368744177664 then ((some (List.replicate (wrap64 ((wrap64 ((l0.length : Int) - (l1.length : Int))) + 1) : Int).toNat 0 : List Int)).bind fun y174 => (nat_long.l0 k t163 t164 (t167.take ((l1.length : Int) : Int).toNat) y174 (wrap64 ((y174.length : Int) - 1)))) else (none)) else (none)) else (none)) else (none))))) else (none)) else (none)) = some (r1, r2) := by first | (rw [hji3] at H; exact H) | (simp only [hji3] at H ⊢; exact H)
 have hji3w : (IntKind.i64.wrap ((l1.length : Int) - 1)) = ji3 := (i64_w _).trans hji3
 by_cases c4 : 0 ≤ (ji3)
 ·rw [if_pos c4] at H
  have c4b0 : decide (0 ≤ (ji3)) = true := decide_eq_true c4
  clear c4
  by_cases c5 : (ji3) < (l1.length : Int)
  ·rw [if_pos c5] at H
   have c5b0 : decide ((ji3) < (l1.length : Int)) = true := decide_eq_true c5
   clear c5
   replace H := Option.bind_eq_some_iff.mp H
   obtain ⟨t163, A60, H⟩ := H
   replace H : ((nat_shift.f k l0 t163).bind fun t164 => ((nat_shift.f k l1 t163).bind fun t167 => (if 0 ≤ (l1.length : Int) then (if (l1.length : Int) ≤ (t167.length : Int) then (if 0 ≤ (wrap64 ((wrap64 ((l0.length : Int) - (l1.length : Int))) + 1)) then (if (wrap64 ((wrap64 ((l0.length : Int) - (l1.length : Int))) + 1) : Int).toNat ≤ 70368744177664 then ((some (List.replicate (wrap64 ((wrap64 ((l0.length : Int) - (l1.length : Int))) + 1) : Int).toNat 0 : List Int)).bind fun y174 => (nat_long.l0 k t163 t164 (t167.take ((l1.length : Int) : Int).toNat) y174 (wrap64 ((y174.length : Int) - 1)))) else (none)) else (none)) else (none)) else (none)))) = some (r1, r2) := H
   have A6 := Aside0.mk A60
   clear A60
   replace H := Option.bind_eq_some_iff.mp H
   obtain ⟨t164, A70, H⟩ := H
   replace H : ((nat_shift.f k l1 t163).bind fun t167 => (if 0 ≤ (l1.length : Int) then (if (l1.length : Int) ≤ (t167.length : Int) then (if 0 ≤ (wrap64 ((wrap64 ((l0.length : Int) - (l1.length : Int))) + 1)) then (if (wrap64 ((wrap64 ((l0.length : Int) - (l1.length : Int))) + 1) : Int).toNat ≤ 70368744177664 then ((some (List.replicate (wrap64 ((wrap64 ((l0.length : Int) - (l1.length : Int))) + 1) : Int).toNat 0 : List Int)).bind fun y174 => (nat_long.l0 k t163 t164 (t167.take ((l1.length : Int) : Int).toNat) y174 (wrap64 ((y174.length : Int) - 1)))) else (none)) else (none)) else (none)) else (none))) = some (r1, r2) := H
   have A7 := Aside0.mk A70
   clear A70
   replace H := Option.bind_eq_some_iff.mp H
   obtain ⟨t167, A80, H⟩ := H
   replace H : (if 0 ≤ (l1.length : Int) then (if (l1.length : Int) ≤ (t167.length : Int) then (if 0 ≤ (wrap64 ((wrap64 ((l0.length : Int) - (l1.length : Int))) + 1)) then (if (wrap64 ((wrap64 ((l0.length : Int) - (l1.length : Int))) + 1) : Int).toNat ≤ 70368744177664 then ((some (List.replicate (wrap64 ((wrap64 ((l0.length : Int) - (l1.length : Int))) + 1) : Int).toNat 0 : List Int)).bind fun y174 => (nat_long.l0 k t163 t164 (t167.take ((l1.length : Int) : Int).toNat) y174 (wrap64 ((y174.length : Int) - 1)))) else (none)) else (none)) else (none)) else (none)) = some (r1, r2) := H
   have A8 := Aside0.mk A80
   clear A80
   by_cases c9 : 0 ≤ (l1.length : Int)
   ·rw [if_pos c9] at H
    have c9b0 := eq_true c9
    have c9b1 : decide (0 ≤ (l1.length : Int)) = true := decide_eq_true c9
    clear c9
    by_cases c10 : (l1.length : Int) ≤ (t167.length : Int)
    ·rw [if_pos c10] at H
     have c10b0 := eq_true c10
     have c10b1 : decide ((l1.length : Int) ≤ (t167.length : Int)) = true := decide_eq_true c10
     clear c10
     obtain ⟨y170, hy170⟩ : ∃ y_ : List Int, y_ = (t167.take ((l1.length : Int) : Int).toNat) := ⟨_, rfl⟩
     replace H : (if 0 ≤ (wrap64 ((wrap64 ((l0.length : Int) - (l1.length : Int))) + 1)) then (if (wrap64 ((wrap64 ((l0.length : Int) - (l1.length : Int))) + 1) : Int).toNat ≤ 70368744177664 then ((some (List.replicate (wrap64 ((wrap64 ((l0.length : Int) - (l1.length : Int))) + 1) : Int).toNat 0 : List Int)).bind fun y174 => (nat_long.l0 k t163 t164 y170 y174 (wrap64 ((y174.length : Int) - 1)))) else (none)) else (none)) = some (r1, r2) := by first | (rw [hy170]; with_reducible exact H) | (have H2_ := (Option.bind_some _ _).symm.trans H; rw [hy170]; with_reducible exact H2_) | (have H2_ := (Option.bind_some _ _).symm.trans H; with_reducible exact H2_) | with_reducible exact H | (rw [hy170]; exact H) | exact H
     have Ny170 := Aside0.mk hy170
     clear hy170
     obtain ⟨ji11, hji11⟩ : ∃ j_ : Int, (wrap64 ((wrap64 ((l0.length : Int) - (l1.length : Int))) + 1)) = j_ := ⟨_, rfl⟩
     replace H : (if 0 ≤ (ji11) then (if (ji11 : Int).toNat ≤ 70368744177664 then ((some (List.replicate (ji11 : Int).toNat 0 : List Int)).bind fun y174 => (nat_long.l0 k t163 t164 y170 y174 (wrap64 ((y174.length : Int) - 1)))) else (none)) else (none)) = some (r1, r2) := by first | (rw [hji11] at H; exact H) | (simp only [hji11] at H ⊢; exact H)
     (try rw [hji11] at A6)
     (try rw [hji11] at A7)
     (try rw [hji11] at A8)
     have hji11w : (IntKind.i64.wrap ((wrap64 ((l0.length : Int) - (l1.length : Int))) + 1)) = ji11 := (i64_w _).trans hji11
     by_cases c12 : 0 ≤ (ji11)
     ·rw [if_pos c12] at H
      have c12b0 := eq_true c12
      have c12b1 : decide (0 ≤ (ji11)) = true := decide_eq_true c12
      clear c12
      by_cases c13 : (ji11 : Int).toNat ≤ 70368744177664
      ·rw [if_pos c13] at H
       have c13b0 := eq_true c13
       have c13b1 : decide ((ji11 : Int).toNat ≤ 70368744177664) = true := decide_eq_true c13
       clear c13
       obtain ⟨y174, hy174⟩ : ∃ y_ : List Int, y_ = (List.replicate (ji11 : Int).toNat 0) := ⟨_, rfl⟩
       replace H : (nat_long.l0 k t163 t164 y170 y174 (wrap64 ((y174.length : Int) - 1))) = some (r1, r2) := by first | (rw [hy174]; with_reducible exact H) | (have H2_ := (Option.bind_some _ _).symm.trans H; rw [hy174]; with_reducible exact H2_) | (have H2_ := (Option.bind_some _ _).symm.trans H; with_reducible exact H2_) | with_reducible exact H | (rw [hy174]; exact H) | exact H
       have Ny174 := Aside0.mk hy174
       clear hy174
       have H' := Aside0.mk H
       clear H
       have p162 : 0 ≤ ((ji3) : Int) := of_decide_eq_true (by first | (with_reducible assumption) | assumption)
       have q162 : (ji3) < (l1.length : Int) := of_decide_eq_true (by first | (with_reducible assumption) | assumption)
       obtain ⟨ad162, e162, hx162_0⟩ := Kd.at_int HR1.out (ji3) p162 q162
       cases e162
       replace p162 := eq_true p162
       replace q162 := eq_true q162
       go_enter Tryd.func167, Tryd.ntmps167
       try go_wp2_with (first | ((with_reducible refine gate_callee (f := 185) rfl ?_); refine goesL_ (some 18) rfl rfl Tryd.func185 (by kernel_rfl) rfl #[.int .u32 (rd l1 (ji3))] rfl (by (try simp only [List.map_toArray, List.map_cons, List.map_nil]); first | done | (simp only [hji3]; rfl) | rfl | (simp only [List.length_drop, List.length_take]; rfl)) ?_; (with_reducible refine (bits_LeadingZeros32.calls (rd l1 (ji3)) t163 _ A6.out).mono ?_); rintro e w' ⟨rfl, ⟨nd, rfl⟩⟩; refine ⟨_, rfl, ?_⟩))
       have n0_ := Aside0.mk (below_drew1 HB.out)
       clear HB
       have HB := n0_
       clear n0_
       refine start_ (n := 11) (S := fun w' => True) (ds := []) #[false, false, false, false, false, false, false, false, false, false, false] (by kernel_rfl) rfl rfl trivial (fun hHeld => ?_); refine with_tabW nat_long.tab2 nat_long.bits2 (fun HT_ HW_ => ?_)
       generalize w.drew = w14 at HB hHeld ⊢
       refine pure_ (i := 0) (N := some 19) (v := ?_) (a' := ?_) #[true, false, false, false, false, false, false, false, false, false, false] rfl rfl (any_of HT_.out (by kernel_rfl)) (fun _ _ _ h => h) (Or.inl ⟨by rfl, ?_⟩) ?_ ?_
       rotate_left
       ·intro w'
        go_simp
        with_reducible rfl
       rotate_left
       ·simp only [Act.put, List.setIfInBounds_toArray, List.set_cons_zero, List.set_cons_succ, i64_w, i32_w]
        rfl
       refine pure_ (i := 1) (N := some 20) (v := ?_) (a' := ?_) #[true, true, false, false, false, false, false, false, false, false, false] rfl rfl (any_of HT_.out (by kernel_rfl)) (fun _ _ _ h => h) (Or.inl ⟨by rfl, ?_⟩) ?_ ?_
       rotate_left
       ·intro w'
        go_simp
        with_reducible rfl
       rotate_left
       ·simp only [Act.put, List.setIfInBounds_toArray, List.set_cons_zero, List.set_cons_succ, i64_w, i32_w]
        rfl
       refine pure_ (i := 3) (N := some 22) (v := ?_) (a' := ?_) #[true, true, false, true, false, false, false, false, false, false, false] rfl rfl (any_of HT_.out (by kernel_rfl)) (fun _ _ _ h => h) (Or.inl ⟨by rfl, ?_⟩) ?_ ?_
       rotate_left
       ·intro w'
        go_simp
        with_reducible rfl
       rotate_left
       ·simp only [Act.put, List.setIfInBounds_toArray, List.set_cons_zero, List.set_cons_succ, i64_w, i32_w]
        rfl
       refine pure_ (i := 4) (N := some 23) (v := ?_) (a' := ?_) #[true, true, false, true, true, false, false, false, false, false, false] rfl rfl (any_of HT_.out (by kernel_rfl)) (fun _ _ _ h => h) (Or.inl ⟨by rfl, ?_⟩) ?_ ?_
       rotate_left
       ·intro w'
        go_simp
        with_reducible rfl
       rotate_left
       ·simp only [Act.put, List.setIfInBounds_toArray, List.set_cons_zero, List.set_cons_succ, i64_w, i32_w]
        rfl
       refine pure_ (i := 6) (N := some 25) (v := ?_) (a' := ?_) #[true, true, false, true, true, false, true, false, false, false, false] rfl rfl (any_of HT_.out (by kernel_rfl)) (fun _ _ _ h => h) (Or.inl ⟨by rfl, ?_⟩) ?_ ?_
       rotate_left
       ·intro w'
        go_simp
        with_reducible rfl
       rotate_left
       ·simp only [Act.put, List.setIfInBounds_toArray, List.set_cons_zero, List.set_cons_succ, i64_w, i32_w]
        rfl
       refine pure_ (i := 7) (N := some 26) (v := ?_) (a' := ?_) #[true, true, false, true, true, false, true, true, false, false, false] rfl rfl (any_of HT_.out (by kernel_rfl)) (fun _ _ _ h => h) (Or.inl ⟨by rfl, ?_⟩) ?_ ?_
       rotate_left
       ·intro w'
        go_simp
        with_reducible rfl
       rotate_left
       ·simp only [Act.put, List.setIfInBounds_toArray, List.set_cons_zero, List.set_cons_succ, i64_w, i32_w]
        rfl
       refine one_ (i := 2) (N := some 21) #[true, true, true, true, true, false, true, true, false, false, false] rfl rfl (one_of HT_.out (by kernel_rfl)) (by decide) (fun K hK => ?_)
       refine goes_ Tryd.func186 (by kernel_rfl) rfl #[.slice A0 l0.length c0, .int .i64 t163] (by rfl) rfl rfl (by (try simp only [List.map_toArray, List.map_cons, List.map_nil]); first | done | rfl | (simp only [List.length_drop, List.length_take]; rfl)) ?_
       with_reducible refine (nat_shift.calls k _ _ l0 t163 t164 _ ?side1 ?side2 A7.out).mono ?_
       (case side1 => repeat (first | exact (Kd.C_below HR0.out HB.out) | exact HR0.out | (with_reducible refine Kd.C_alloc ?_ _) | (with_reducible refine Kd.C_drewN ?_ _) | (with_reducible refine Kd.C_drew ?_)))
       (case side2 => exact HC0.out)
       rintro e w15 ⟨v165, rfl, ho0, hb⟩
       refine ⟨_, rfl, ?_⟩
       have n0_ := Aside0.mk (Kd.R_lower ho0 (below_size (by repeat (first | (with_reducible first | exact HB.out | apply below_alloc | apply pw_below_drewN | apply below_drew1) | exact HB.out | exact Below.refl _ _))))
       have n1_ := Aside0.mk (below_step (by repeat (first | (with_reducible first | exact HB.out | apply below_alloc | apply pw_below_drewN | apply below_drew1) | exact HB.out | exact Below.refl _ _)) hb)
       clear HB
       have HO166 := n0_
       have HB := n1_
       clear n0_ n1_
       (try clear hb)
       (try clear hb2)
       (try clear hk)
       (try clear hi)
       (try clear ho0)
       refine hK.out _ _ trivial (fun hHeld => ?_)
       clear hK K
       refine norm_ (a' := ?_) ?_ ?_
       rotate_left
       ·show Act.put _ (some 21) _ = _
        simp only [Act.put, List.setIfInBounds_toArray, List.set_cons_zero, List.set_cons_succ, i64_w, i32_w]
        rfl
       refine one_ (i := 5) (N := some 24) #[true, true, true, true, true, true, true, true, false, false, false] rfl rfl (one_of HT_.out (by kernel_rfl)) (by decide) (fun K hK => ?_)
       refine goes_ Tryd.func186 (by kernel_rfl) rfl #[.slice (some ad162) l1.length c1, .int .i64 t163] (by rfl) rfl rfl (by (try simp only [List.map_toArray, List.map_cons, List.map_nil]); first | done | rfl | (simp only [List.length_drop, List.length_take]; rfl)) ?_
       with_reducible refine (nat_shift.calls k _ _ l1 t163 t167 _ ?side1 ?side2 A8.out).mono ?_
       (case side1 => repeat (first | exact (Kd.C_below HR1.out HB.out) | exact HR1.out | (with_reducible refine Kd.C_alloc ?_ _) | (with_reducible refine Kd.C_drewN ?_ _) | (with_reducible refine Kd.C_drew ?_)))
       (case side2 => exact HC1.out)
       rintro e w16 ⟨v168, rfl, ho0, hb⟩
       refine ⟨_, rfl, ?_⟩
       have n0_ := Aside0.mk (Kd.R_elder' (by (with_reducible repeat (first | apply Kd.R_alloc | apply Kd.R_drewN | apply Kd.R_drew)); exact HO166.out) (Kd.R_base ho0) hb)
       have n1_ := Aside0.mk (Kd.R_lower (Kd.R_new' ho0 (Kd.R_lt (by (with_reducible repeat (first | apply Kd.R_alloc | apply Kd.R_drewN | apply Kd.R_drew)); exact HO166.out))) (below_size (by repeat (first | (with_reducible first | exact HB.out | apply below_alloc | apply pw_below_drewN | apply below_drew1) | exact HB.out))))
       have n2_ := Aside0.mk (below_step (by repeat (first | (with_reducible first | exact HB.out | apply below_alloc | apply pw_below_drewN | apply below_drew1) | exact HB.out)) hb)
       clear HO166
       clear HB
       have HO166 := n0_
       have HO169 := n1_
       have HB := n2_
       clear n0_ n1_ n2_
       (try clear hb)
       (try clear hb2)
       (try clear hk)
       (try clear hi)
       (try clear ho0)
       obtain ⟨Ao18, co18, eo18⟩ := Kd.R_slice HO169.out
       (first | subst eo18 | (injection eo18 with f1_ f2_ f3_; have f4_ := f1_.symm; have f5_ := f3_.symm; clear f1_ f2_ f3_; subst f4_; subst f5_))
       have q17 : ((l1.length : Int) : Int) ≤ ((t167.length : Int) : Int) := of_decide_eq_true (by first | (with_reducible assumption) | assumption)
       obtain ⟨i017, hi017, _, hsz17, _⟩ := info_parts info55
       have hroom17 : t167.length ≤ co18 := (Kd.R_reads' HO169.out).2.1
       have hC17 : Kd.C (Kd.int .u32) _ Ao18 t167.length t167 := (Kd.R_reads' HO169.out).2.2
       have hcut17 := cut_to (P := Tryd.prog) 22 55 .i64 Tryd.underlying22 hi017 Ao18 t167.length co18 (l1.length : Int) (of_decide_eq_true (by first | (with_reducible assumption) | assumption)) q17 hroom17
       have hr17 := Kd.C_take (m := ((l1.length : Int) : Int).toNat) hC17 (by omega)
       have hy17 : y170.length = ((l1.length : Int) : Int).toNat := (by rw [Ny170.out, List.length_take]; omega)
       rw [← Ny170.out] at hr17
       rw [← hy17] at hcut17
       have HR173 := Aside0.mk hr17
       have HC173 := Aside0.mk (show y170.length ≤ co18 from by omega)
       clear hr17 hC17 hroom17 hi017 hsz17
       have KY17 := Aside0.mk hy17
       clear hy17
       have KL17 := Aside0.mk (show ((l1.length : Int) : Int).toNat ≤ t167.length from by omega)
       replace q17 := eq_true q17
       refine hK.out _ _ trivial (fun hHeld => ?_)
       clear hK K
       refine norm_ (a' := ?_) ?_ ?_
       rotate_left
       ·show Act.put _ (some 24) _ = _
        simp only [Act.put, List.setIfInBounds_toArray, List.set_cons_zero, List.set_cons_succ, i64_w, i32_w]
        rfl
       refine pure_ (i := 8) (N := some 27) (v := ?_) (a' := ?_) #[true, true, true, true, true, true, true, true, true, false, false] rfl rfl (any_of HT_.out (by kernel_rfl)) (fun _ _ _ h => h) (Or.inl ⟨by rfl, ?_⟩) ?_ ?_
       rotate_left
       ·intro w'
        go_simp
        with_reducible rfl
       rotate_left
       ·simp only [Act.put, List.setIfInBounds_toArray, List.set_cons_zero, List.set_cons_succ, i64_w, i32_w]
        rfl
       refine pure_ (i := 9) (N := some 7) (v := ?_) (a' := ?_) #[true, true, true, true, true, true, true, true, true, true, false] rfl rfl (any_of HT_.out (by kernel_rfl)) (fun _ _ _ h => h) (Or.inl ⟨by rfl, ?_⟩) ?_ ?_
       rotate_left
       ·intro w'
        go_simp
        with_reducible rfl
       rotate_left
       ·simp only [Act.put, List.setIfInBounds_toArray, List.set_cons_zero, List.set_cons_succ, i64_w, i32_w]
        rfl
       refine pure_ (i := 10) (N := some 8) (v := ?_) (a' := ?_) #[true, true, true, true, true, true, true, true, true, true, true] rfl rfl (any_of HT_.out (by kernel_rfl)) (fun _ _ _ h => h) (Or.inl ⟨by rfl, ?_⟩) ?_ ?_
       rotate_left
       ·intro w'
        go_simp
        with_reducible rfl
       rotate_left
       ·simp only [Act.put, List.setIfInBounds_toArray, List.set_cons_zero, List.set_cons_succ, i64_w, i32_w]
        rfl
       refine done_ (done_of HT_.out (by kernel_rfl)) ?_
       try go_wp2_with (first | ((with_reducible refine gate_dst (N := 34) rfl ?_); refine Kd.R_make (Kd.int .u32) _ 55 rfl (N := 34) rfl 22 _ _ rfl ji11 rfl rfl Tryd.underlying22 (.int .u32 0) 4 info55 rfl (by decide) (by omega) 0 (ok := fun _ => True) (okp := fun _ => True) rfl (fun _ hk => hk) trivial (of_decide_eq_true (by first | (with_reducible assumption) | assumption)) (Nat.le_trans (Nat.mul_le_mul_right _ (of_decide_eq_true (by first | (with_reducible assumption) | assumption) : ji11.toNat ≤ 70368744177664)) (by omega)) (Below.refl _ _) (Nat.le_refl _) ?_; intro v175 w19 ho20 hb hg_ hnew_; clear hg_ hnew_; (first | rw [← Ny174.out] at ho20 | (simp only [Int.reduceToNat] at ho20; rw [← Ny174.out] at ho20)); have n0_ := Aside0.mk (Kd.R_elder' (by (with_reducible repeat (first | apply Kd.R_alloc | apply Kd.R_drewN | apply Kd.R_drew)); exact HO166.out) (Kd.R_base ho20) hb); have n1_ := Aside0.mk (Kd.R_elder' (by (with_reducible repeat (first | apply Kd.R_alloc | apply Kd.R_drewN | apply Kd.R_drew)); exact HO169.out) (Kd.R_base ho20) hb); have n2_ := Aside0.mk (Kd.R_lower (Kd.R_new' (Kd.R_new' ho20 (Kd.R_lt (by (with_reducible repeat (first | apply Kd.R_alloc | apply Kd.R_drewN | apply Kd.R_drew)); exact HO166.out))) (Kd.R_lt (by (with_reducible repeat (first | apply Kd.R_alloc | apply Kd.R_drewN | apply Kd.R_drew)); exact HO169.out))) (below_size (by repeat (first | (with_reducible first | exact HB.out | apply below_alloc | apply pw_below_drewN | apply below_drew1) | exact HB.out)))); have n3_ := Aside0.mk (Kd.C_below (by repeat (first | (with_reducible exact HR173.out) | (with_reducible refine Kd.C_alloc ?_ _) | (with_reducible refine Kd.C_drewN ?_ _) | (with_reducible refine Kd.C_drew ?_) | exact HR173.out)) hb); have n4_ := Aside0.mk (below_step (by repeat (first | (with_reducible first | exact HB.out | apply below_alloc | apply pw_below_drewN | apply below_drew1) | exact HB.out)) hb); clear HO166; clear HO169; clear HR173; clear HB; have HO166 := n0_; have HO169 := n1_; have HO176 := n2_; have HR173 := n3_; have HB := n4_; clear n0_ n1_ n2_ n3_ n4_; clear hb ho20; obtain ⟨Ao21, co21, eo21⟩ := Kd.R_slice HO176.out; subst eo21))
       go_loopg [10] k (fun kq v10 w' => ∃ (x7_1 : List Int) (x9_1 : List Int) (x10_1 : Int), v10 = .int .i64 x10_1 ∧ Aside0 (nat_long.l0 kq t163 x7_1 y170 x9_1 x10_1 = some (r1, r2)) ∧ Aside0 (kq ≤ k) ∧ Aside0 (Kd.R (Kd.int .u32) 55 w' w.heap.size (fun k_ => some k_ ≠ ((.slice Ao21 y174.length co21) : Value).ownBlock) v165 x7_1) ∧ Aside0 (Kd.R (Kd.int .u32) 55 w' w.heap.size (fun k_ => some k_ ≠ (v165 : Value).ownBlock) (.slice Ao21 y174.length co21) x9_1) ∧ Aside0 (Kd.R (Kd.int .u32) 55 w' w.heap.size (fun k_ => some k_ ≠ (v165 : Value).ownBlock ∧ some k_ ≠ ((.slice Ao21 y174.length co21) : Value).ownBlock) (.slice Ao18 t167.length co18) t167) ∧ Aside0 (Below w.heap.size w w'))
       case atStart => exact ⟨(t164), (y174), (wrap64 ((y174.length : Int) - 1)), (by first | rfl | (simp; done) | (simp [*]; done)), H', ⟨Nat.le_refl _⟩, ⟨by (with_reducible repeat (first | apply Kd.R_alloc | apply Kd.R_drewN | apply Kd.R_drew)); exact Kd.R_mono HO166.out (fun _ hk => hk.2)⟩, ⟨by (with_reducible repeat (first | apply Kd.R_alloc | apply Kd.R_drewN | apply Kd.R_drew)); exact Kd.R_mono HO176.out (fun _ hk => hk.1.2)⟩, ⟨by (with_reducible repeat (first | apply Kd.R_alloc | apply Kd.R_drewN | apply Kd.R_drew)); exact Kd.R_mono HO169.out (fun _ hk => ⟨hk.1.2, hk.2⟩)⟩, ⟨by repeat (first | (with_reducible first | exact HB.out | apply below_alloc | apply pw_below_drewN | apply below_drew1) | exact HB.out)⟩⟩
       case round =>
        clear H'
        try clear c1
        try clear p1
        try clear q1
        try clear hx1
        try clear p2
        try clear c4
        try clear c4b0
        try clear c5
        try clear c5b0
        try clear p6
        try clear c9
        try clear c9b0
        try clear c9b1
        try clear c10
        try clear c10b0
        try clear c10b1
        try clear c12
        try clear c12b0
        try clear c12b1
        try clear c13
        try clear c13b0
        try clear c13b1
        try clear c16
        try clear p16
        try clear q16
        try clear hx16
        try clear q17
        try clear c18
        try clear hx162_0
        try clear p162
        try clear q162
        try clear q17
        obtain ⟨x7_1, x9_1, x10_1, rfl, HA, HK1, HO_7, HO_9, HO_8, HB⟩ := hrel
        have hl9_1 := (Kd.R_reads' HO_9.out).1
        rw [hl9_1] at HO_9
        (try simp only [hl9_1])
        (try simp only [hl9_1] at HO_7)
        (try simp only [hl9_1] at HO_8)
        cases gk with
        | zero => exact absurd HA.out (by simp [nat_long.l0])
        | succ k1 =>
         have H := HA.out
         clear HA
         simp only [nat_long.l0] at H
         by_cases c22 : x10_1 ≥ 0
         ·rw [if_pos c22] at H
          have c22b0 : decide (0 ≤ x10_1) = true := decide_eq_true c22
          clear c22
          replace H := Option.bind_eq_some_iff.mp H
          obtain ⟨t186, A230, H⟩ := H
          replace H : ((nat_take.f k1 x7_1 y170 x10_1 t186).bind fun bt187 => (if bt187.1 = true then ((nat_give.f k1 bt187.2 y170 x10_1).bind fun t189 => (if 0 ≤ x10_1 then (if x10_1 < (x9_1.length : Int) then (nat_long.l0 k1 t163 t189 y170 (x9_1.set (x10_1 : Int).toNat ((IntKind.u64.wrap (t186 - 1)) % 4294967296)) (wrap64 (x10_1 - 1))) else (none)) else (none))) else (if 0 ≤ x10_1 then (if x10_1 < (x9_1.length : Int) then (nat_long.l0 k1 t163 bt187.2 y170 (x9_1.set (x10_1 : Int).toNat ((t186) % 4294967296)) (wrap64 (x10_1 - 1))) else (none)) else (none)))) = some (r1, r2) := H
          have A23 := Aside0.mk A230
          clear A230
          replace H := Option.bind_eq_some_iff.mp H
          obtain ⟨⟨t187, t188⟩, A240, H⟩ := H
          replace H : (if t187 = true then ((nat_give.f k1 t188 y170 x10_1).bind fun t189 => (if 0 ≤ x10_1 then (if x10_1 < (x9_1.length : Int) then (nat_long.l0 k1 t163 t189 y170 (x9_1.set (x10_1 : Int).toNat ((IntKind.u64.wrap (t186 - 1)) % 4294967296)) (wrap64 (x10_1 - 1))) else (none)) else (none))) else (if 0 ≤ x10_1 then (if x10_1 < (x9_1.length : Int) then (nat_long.l0 k1 t163 t188 y170 (x9_1.set (x10_1 : Int).toNat ((t186) % 4294967296)) (wrap64 (x10_1 - 1))) else (none)) else (none))) = some (r1, r2) := H
          have A24 := Aside0.mk A240
          clear A240
          by_cases c25 : t187 = true
          ·subst c25
           have H1 : ((nat_give.f k1 t188 y170 x10_1).bind fun t189 => (if 0 ≤ x10_1 then (if x10_1 < (x9_1.length : Int) then (nat_long.l0 k1 t163 t189 y170 (x9_1.set (x10_1 : Int).toNat ((IntKind.u64.wrap (t186 - 1)) % 4294967296)) (wrap64 (x10_1 - 1))) else (none)) else (none))) = some (r1, r2) := by rw [if_pos rfl] at H; exact H
           clear H
           have H := H1
           clear H1
           replace H := Option.bind_eq_some_iff.mp H
           obtain ⟨t189, A260, H⟩ := H
           replace H : (if 0 ≤ x10_1 then (if x10_1 < (x9_1.length : Int) then (nat_long.l0 k1 t163 t189 y170 (x9_1.set (x10_1 : Int).toNat ((IntKind.u64.wrap (t186 - 1)) % 4294967296)) (wrap64 (x10_1 - 1))) else (none)) else (none)) = some (r1, r2) := H
           have A26 := Aside0.mk A260
           clear A260
           by_cases c27 : 0 ≤ x10_1
           ·rw [if_pos c27] at H
            have c27b0 : decide (0 ≤ x10_1) = true := decide_eq_true c27
            clear c27
            by_cases c28 : x10_1 < (x9_1.length : Int)
            ·rw [if_pos c28] at H
             have c28b0 : decide (x10_1 < (x9_1.length : Int)) = true := decide_eq_true c28
             clear c28
             obtain ⟨y190, hy190⟩ : ∃ y_ : List Int, y_ = (x9_1.set (x10_1 : Int).toNat ((IntKind.u64.wrap (t186 - 1)) % 4294967296)) := ⟨_, rfl⟩
             replace H : (nat_long.l0 k1 t163 t189 y170 y190 (wrap64 (x10_1 - 1))) = some (r1, r2) := by first | (rw [hy190]; with_reducible exact H) | (have H2_ := (Option.bind_some _ _).symm.trans H; rw [hy190]; with_reducible exact H2_) | (have H2_ := (Option.bind_some _ _).symm.trans H; with_reducible exact H2_) | with_reducible exact H | (rw [hy190]; exact H) | exact H
             have Ny190 := Aside0.mk hy190
             clear hy190
             have H' := Aside0.mk H
             clear H
             obtain ⟨Ao30, co30, eo30⟩ := Kd.R_slice HO_7.out
             subst eo30
             have hC8 := Aside0.mk (show Kd.C (Kd.int .u32) wr Ao18 y170.length y170 from by have h := Kd.C_take (Kd.R_reads' HO_8.out).2.2 KL17.out; rw [← Ny170.out] at h; exact h)
             go_wp2_with (first | ((with_reducible refine gate_callee (f := 187) rfl ?_); refine goesL_ (some 45) rfl rfl Tryd.func187 (by kernel_rfl) rfl #[.slice Ao30 x7_1.length co30, .slice Ao18 y170.length co18, .int .i64 x10_1] rfl (by (try simp only [List.map_toArray, List.map_cons, List.map_nil]); first | done | rfl | (simp only [List.length_drop, List.length_take]; rfl)) ?_; (with_reducible refine (nat_guess.calls k1 _ _ x7_1 _ _ y170 x10_1 t186 _ ?side1 ?side2 ?side3 ?side4 A23.out).mono ?_); (case side1 => repeat (first | exact (Kd.R_reads' HO_7.out).2.2 | (with_reducible refine Kd.C_alloc ?_ _) | (with_reducible refine Kd.C_drewN ?_ _) | (with_reducible refine Kd.C_drew ?_))); (case side2 => exact (Kd.R_reads' HO_7.out).2.1); (case side3 => repeat (first | exact hC8.out | (with_reducible refine Kd.C_alloc ?_ _) | (with_reducible refine Kd.C_drewN ?_ _) | (with_reducible refine Kd.C_drew ?_))); (case side4 => exact HC173.out); rintro e w' ⟨rfl, ⟨nd, rfl⟩⟩; refine ⟨_, rfl, ?_⟩; (try (rw [drewN_self wr]; generalize hq_ : World.drewN wr _ = wr; have n0_ : Aside0 (Kd.R (Kd.int .u32) 55 wr w.heap.size (fun k_ => some k_ ≠ (.slice Ao21 x9_1.length co21 : Value).ownBlock) (.slice Ao30 x7_1.length co30) x7_1) := ⟨by rw [← hq_]; exact (by (with_reducible repeat (first | apply Kd.R_alloc | apply Kd.R_drewN | apply Kd.R_drew)); exact HO_7.out)⟩; have n1_ : Aside0 (Kd.R (Kd.int .u32) 55 wr w.heap.size (fun k_ => some k_ ≠ (.slice Ao30 x7_1.length co30 : Value).ownBlock) (.slice Ao21 x9_1.length co21) x9_1) := ⟨by rw [← hq_]; exact (by (with_reducible repeat (first | apply Kd.R_alloc | apply Kd.R_drewN | apply Kd.R_drew)); exact HO_9.out)⟩; have n2_ : Aside0 (Below w.heap.size w wr) := ⟨by rw [← hq_]; exact (by repeat (first | (with_reducible first | exact HB.out | apply below_alloc | apply pw_below_drewN | apply below_drew1) | exact HB.out))⟩; have n3_ : Aside0 (Kd.R (Kd.int .u32) 55 wr w.heap.size (fun k_ => some k_ ≠ (.slice Ao30 x7_1.length co30 : Value).ownBlock ∧ some k_ ≠ (.slice Ao21 x9_1.length co21 : Value).ownBlock) (.slice Ao18 t167.length co18) t167) := ⟨by rw [← hq_]; exact (by (with_reducible repeat (first | apply Kd.R_alloc | apply Kd.R_drewN | apply Kd.R_drew)); exact HO_8.out)⟩; clear HO_7 HO_9 HO_8 HB hq_; have HO_7 := n0_; have HO_9 := n1_; have HB := n2_; have HO_8 := n3_; clear n0_ n1_ n2_ n3_))) | ((with_reducible refine gate_callee (f := 188) rfl ?_); refine goesL_ (some 50) rfl rfl Tryd.func188 (by kernel_rfl) rfl #[.slice Ao30 x7_1.length co30, .slice Ao18 y170.length co18, .int .i64 x10_1, .int .u64 t186] rfl (by (try simp only [List.map_toArray, List.map_cons, List.map_nil]); first | done | rfl | (simp only [List.length_drop, List.length_take]; rfl)) ?_; (with_reducible refine (nat_take.calls k1 (fun k_ => some k_ = (.slice Ao30 x7_1.length co30 : Value).ownBlock) (.slice Ao30 x7_1.length co30) x7_1 _ _ y170 x10_1 t186 true t188 w _ ?side1 ?side2 ?side3 ?side4 A24.out).mono ?_); (case side1 => repeat (first | (with_reducible first | exact HB.out | apply below_alloc | apply pw_below_drewN | apply below_drew1) | exact HB.out)); (case side2 => exact Kd.R_tight rfl HO_7.out); (case side3 => exact (fun W_ hkW => (by have h := Kd.C_take (Kd.R_reads' (Kd.R_kept HO_8.out hkW (fun k_ hk_ hs_ => hk_.1 hs_))).2.2 KL17.out; rw [← Ny170.out] at h; exact h))); (case side4 => exact HC173.out); rintro e w31 ⟨rfl, hy0, hb, hkp⟩; refine ⟨_, rfl, ?_⟩; have n0_ := Aside0.mk (Kd.R_reok rfl hy0 (fun k_ e_ => HO_7.out.1 k_ e_)); have n1_ := Aside0.mk (Kd.R_mono (ok' := fun k_ => some k_ ≠ (.slice Ao30 x7_1.length co30 : Value).ownBlock) (Kd.R_keptB (HO_9.out) hkp (fun k_ hk_ hs_ => (hk_) hs_)) (fun k_ hk_ => hk_.1)); have n2_ := Aside0.mk (hb); have n3_ := Aside0.mk (Kd.R_mono (ok' := (fun k_ => some k_ ≠ (.slice Ao30 x7_1.length co30 : Value).ownBlock ∧ some k_ ≠ (.slice Ao21 x9_1.length co21 : Value).ownBlock)) (Kd.R_keptB (HO_8.out) hkp (fun k_ hk_ hs_ => (hk_.1) hs_)) (fun k_ hk_ => hk_.1)); clear HO_7; clear HO_9; clear HO_8; clear HB; have HO_7 := n0_; have HO_9 := n1_; have HB := n2_; have HO_8 := n3_; clear n0_ n1_ n2_ n3_; (try clear hb); (try clear hkp); (try clear hy0)) | ((with_reducible refine gate_callee (f := 189) rfl ?_); refine goesL_ (some 56) rfl rfl Tryd.func189 (by kernel_rfl) rfl #[.slice Ao30 x7_1.length co30, .slice Ao18 y170.length co18, .int .i64 x10_1] rfl (by (try simp only [List.map_toArray, List.map_cons, List.map_nil]); first | done | rfl | (simp only [List.length_drop, List.length_take]; rfl)) ?_; (with_reducible refine (nat_give.calls k1 (fun k_ => some k_ = (.slice Ao30 x7_1.length co30 : Value).ownBlock) (.slice Ao30 x7_1.length co30) t188 _ _ y170 x10_1 t189 w _ ?side1 ?side2 ?side3 ?side4 A26.out).mono ?_); (case side1 => repeat (first | (with_reducible first | exact HB.out | apply below_alloc | apply pw_below_drewN | apply below_drew1) | exact HB.out)); (case side2 => exact Kd.R_tight rfl HO_7.out); (case side3 => exact (fun W_ hkW => (by have h := Kd.C_take (Kd.R_reads' (Kd.R_kept HO_8.out hkW (fun k_ hk_ hs_ => hk_.1 hs_))).2.2 KL17.out; rw [← Ny170.out] at h; exact h))); (case side4 => exact HC173.out); rintro e w32 ⟨rfl, hy0, hb, hkp⟩; refine ⟨_, rfl, ?_⟩; have n0_ := Aside0.mk (Kd.R_reok rfl hy0 (fun k_ e_ => HO_7.out.1 k_ e_)); have n1_ := Aside0.mk (Kd.R_mono (ok' := fun k_ => some k_ ≠ (.slice Ao30 x7_1.length co30 : Value).ownBlock) (Kd.R_keptB (HO_9.out) hkp (fun k_ hk_ hs_ => (hk_) hs_)) (fun k_ hk_ => hk_.1)); have n2_ := Aside0.mk (hb); have n3_ := Aside0.mk (Kd.R_mono (ok' := (fun k_ => some k_ ≠ (.slice Ao30 x7_1.length co30 : Value).ownBlock ∧ some k_ ≠ (.slice Ao21 x9_1.length co21 : Value).ownBlock)) (Kd.R_keptB (HO_8.out) hkp (fun k_ hk_ hs_ => (hk_.1) hs_)) (fun k_ hk_ => hk_.1)); clear HO_7; clear HO_9; clear HO_8; clear HB; have HO_7 := n0_; have HO_9 := n1_; have HB := n2_; have HO_8 := n3_; clear n0_ n1_ n2_ n3_; (try clear hb); (try clear hkp); (try clear hy0); have p29 : 0 ≤ (x10_1 : Int) := of_decide_eq_true (by first | (with_reducible assumption) | assumption); have q29 : (x10_1 : Int) < ((x9_1.length : Int) : Int) := of_decide_eq_true (by first | (with_reducible assumption) | assumption); obtain ⟨go29, co29, eo29, gb29, gl29, cl29, HG29⟩ := Kd.R_form HO_9.out (by omega); (first | cases eo29 | (injection eo29 with ea_ en_ ec_; (first | subst ea_ | (injection ea_ with ea_; subst ea_)); subst ec_; clear en_)); have GB29 := Aside0.mk gb29; have GG29 := Aside0.mk HG29; clear gb29 gl29 HG29; obtain ⟨hx29_0, hf29_0⟩ := Kd.R_celln 0 HO_9.out (x10_1 : Int) p29 q29; replace p29 := eq_true p29; replace q29 := eq_true q29; obtain ⟨hy33_, hz33_⟩ := Kd.R_celln 0 HO_9.out (x10_1 : Int) (of_decide_eq_true (by first | (with_reducible assumption) | assumption)) (of_decide_eq_true (by first | (with_reducible assumption) | assumption)); have HP33 := Kd.R_putg HO_9.out (x10_1 : Int) ((IntKind.u64.wrap (t186 - 1)) % 4294967296)) | ((with_reducible refine gate_store (t := 55) (p := 61) rfl ?_); refine store_event (t := 55) (p := 61) (v := ?vo_w34) (w1 := (w32.setCell ⟨go29, (x10_1 : Int).toNat, none⟩ (.int .u32 ((IntKind.u64.wrap (t186 - 1)) % 4294967296)))) ?hg ?ho ?hn ?hr ?_; (case ho => rfl); (case hg => rfl); (case hn => rfl); (case hr => first | (go_simp; done) | (go_simp; rfl)); intro w34 hw; have hg : w32.grownBy w34 (some go29) := (by rw [hw]; exact HP33.2); have hp_ : Kd.R (Kd.int .u32) 55 w34 w.heap.size (fun k_ => some k_ ≠ (.slice Ao30 x7_1.length co30 : Value).ownBlock) (.slice (some ⟨go29, 0, none⟩) x9_1.length co21) y190 := (by rw [hw, Ny190.out]; exact HP33.1); clear HP33; have n0_ := Aside0.mk (Kd.R_after (v := (.slice (some ⟨go29, 0, none⟩) x9_1.length co21)) (v1 := (.slice (some ⟨go29, 0, none⟩) x9_1.length co21)) (ok := (fun _ => True)) (by (with_reducible repeat (first | apply Kd.R_alloc | apply Kd.R_drewN | apply Kd.R_drew)); exact Kd.R_mono HO_7.out (fun _ hk => ⟨trivial, hk⟩)) hg (.inl rfl)); have n1_ := Aside0.mk (hp_); have n2_ := Aside0.mk ((by rw [hw]; exact below_set (HB.out) GB29.out : Below w.heap.size w w34)); have n3_ := Aside0.mk (Kd.R_grown (show Kd.R (Kd.int .u32) 55 w32 w.heap.size (fun k_ => some k_ ≠ (.slice Ao30 x7_1.length co30 : Value).ownBlock ∧ some k_ ≠ (.slice (some ⟨go29, 0, none⟩) x9_1.length co21 : Value).ownBlock) (.slice Ao18 t167.length co18) t167 from by (with_reducible repeat (first | apply Kd.R_alloc | apply Kd.R_drewN | apply Kd.R_drew)); exact HO_8.out) hg (fun k_ hk_ => hk_.2)); clear HO_7; clear HO_9; clear HO_8; clear HB; have HO_7 := n0_; have HO_9 := n1_; have HB := n2_; have HO_8 := n3_; clear n0_ n1_ n2_ n3_; clear hg hw hp_))
             (try simp only [← hl9_1])
             go_roundg k1
             case measure => have := HK1.out; omega
             case rel => exact ⟨(t189), (y190), (wrap64 (x10_1 - 1)), (by first | rfl | (simp; done) | (simp [*]; done)), H', ⟨by have := HK1.out; omega⟩, ⟨by (try simp only [hl9_1]); (with_reducible repeat (first | apply Kd.R_alloc | apply Kd.R_drewN | apply Kd.R_drew)); exact Kd.R_mono HO_7.out (fun _ hk => hk.2)⟩, ⟨by (try simp only [hl9_1]); (with_reducible repeat (first | apply Kd.R_alloc | apply Kd.R_drewN | apply Kd.R_drew)); exact HO_9.out⟩, ⟨by (try simp only [hl9_1]); (with_reducible repeat (first | apply Kd.R_alloc | apply Kd.R_drewN | apply Kd.R_drew)); exact HO_8.out⟩, ⟨by repeat (first | (with_reducible first | exact HB.out | apply below_alloc | apply pw_below_drewN | apply below_drew1) | exact HB.out)⟩⟩
            ·rw [if_neg c28] at H
             exact absurd H (by simp)
           ·rw [if_neg c27] at H
            exact absurd H (by simp)
          ·replace c25 := Bool.eq_false_iff.mpr c25
           subst c25
           have H1 : (if 0 ≤ x10_1 then (if x10_1 < (x9_1.length : Int) then (nat_long.l0 k1 t163 t188 y170 (x9_1.set (x10_1 : Int).toNat ((t186) % 4294967296)) (wrap64 (x10_1 - 1))) else (none)) else (none)) = some (r1, r2) := by rw [if_neg (show ¬ (false = true) by decide)] at H; exact H
           clear H
           have H := H1
           clear H1
           by_cases c35 : 0 ≤ x10_1
           ·rw [if_pos c35] at H
            have c35b0 : decide (0 ≤ x10_1) = true := decide_eq_true c35
            clear c35
            by_cases c36 : x10_1 < (x9_1.length : Int)
            ·rw [if_pos c36] at H
             have c36b0 : decide (x10_1 < (x9_1.length : Int)) = true := decide_eq_true c36
             clear c36
             obtain ⟨y191, hy191⟩ : ∃ y_ : List Int, y_ = (x9_1.set (x10_1 : Int).toNat ((t186) % 4294967296)) := ⟨_, rfl⟩
             replace H : (nat_long.l0 k1 t163 t188 y170 y191 (wrap64 (x10_1 - 1))) = some (r1, r2) := by first | (rw [hy191]; with_reducible exact H) | (have H2_ := (Option.bind_some _ _).symm.trans H; rw [hy191]; with_reducible exact H2_) | (have H2_ := (Option.bind_some _ _).symm.trans H; with_reducible exact H2_) | with_reducible exact H | (rw [hy191]; exact H) | exact H
             have Ny191 := Aside0.mk hy191
             clear hy191
             have H' := Aside0.mk H
             clear H
             obtain ⟨Ao38, co38, eo38⟩ := Kd.R_slice HO_7.out
             subst eo38
             have hC8 := Aside0.mk (show Kd.C (Kd.int .u32) wr Ao18 y170.length y170 from by have h := Kd.C_take (Kd.R_reads' HO_8.out).2.2 KL17.out; rw [← Ny170.out] at h; exact h)
             go_wp2_with (first | ((with_reducible refine gate_callee (f := 187) rfl ?_); refine goesL_ (some 45) rfl rfl Tryd.func187 (by kernel_rfl) rfl #[.slice Ao38 x7_1.length co38, .slice Ao18 y170.length co18, .int .i64 x10_1] rfl (by (try simp only [List.map_toArray, List.map_cons, List.map_nil]); first | done | rfl | (simp only [List.length_drop, List.length_take]; rfl)) ?_; (with_reducible refine (nat_guess.calls k1 _ _ x7_1 _ _ y170 x10_1 t186 _ ?side1 ?side2 ?side3 ?side4 A23.out).mono ?_); (case side1 => repeat (first | exact (Kd.R_reads' HO_7.out).2.2 | (with_reducible refine Kd.C_alloc ?_ _) | (with_reducible refine Kd.C_drewN ?_ _) | (with_reducible refine Kd.C_drew ?_))); (case side2 => exact (Kd.R_reads' HO_7.out).2.1); (case side3 => repeat (first | exact hC8.out | (with_reducible refine Kd.C_alloc ?_ _) | (with_reducible refine Kd.C_drewN ?_ _) | (with_reducible refine Kd.C_drew ?_))); (case side4 => exact HC173.out); rintro e w' ⟨rfl, ⟨nd, rfl⟩⟩; refine ⟨_, rfl, ?_⟩; (try (rw [drewN_self wr]; generalize hq_ : World.drewN wr _ = wr; have n0_ : Aside0 (Kd.R (Kd.int .u32) 55 wr w.heap.size (fun k_ => some k_ ≠ (.slice Ao21 x9_1.length co21 : Value).ownBlock) (.slice Ao38 x7_1.length co38) x7_1) := ⟨by rw [← hq_]; exact (by (with_reducible repeat (first | apply Kd.R_alloc | apply Kd.R_drewN | apply Kd.R_drew)); exact HO_7.out)⟩; have n1_ : Aside0 (Kd.R (Kd.int .u32) 55 wr w.heap.size (fun k_ => some k_ ≠ (.slice Ao38 x7_1.length co38 : Value).ownBlock) (.slice Ao21 x9_1.length co21) x9_1) := ⟨by rw [← hq_]; exact (by (with_reducible repeat (first | apply Kd.R_alloc | apply Kd.R_drewN | apply Kd.R_drew)); exact HO_9.out)⟩; have n2_ : Aside0 (Below w.heap.size w wr) := ⟨by rw [← hq_]; exact (by repeat (first | (with_reducible first | exact HB.out | apply below_alloc | apply pw_below_drewN | apply below_drew1) | exact HB.out))⟩; have n3_ : Aside0 (Kd.R (Kd.int .u32) 55 wr w.heap.size (fun k_ => some k_ ≠ (.slice Ao38 x7_1.length co38 : Value).ownBlock ∧ some k_ ≠ (.slice Ao21 x9_1.length co21 : Value).ownBlock) (.slice Ao18 t167.length co18) t167) := ⟨by rw [← hq_]; exact (by (with_reducible repeat (first | apply Kd.R_alloc | apply Kd.R_drewN | apply Kd.R_drew)); exact HO_8.out)⟩; clear HO_7 HO_9 HO_8 HB hq_; have HO_7 := n0_; have HO_9 := n1_; have HB := n2_; have HO_8 := n3_; clear n0_ n1_ n2_ n3_))) | ((with_reducible refine gate_callee (f := 188) rfl ?_); refine goesL_ (some 50) rfl rfl Tryd.func188 (by kernel_rfl) rfl #[.slice Ao38 x7_1.length co38, .slice Ao18 y170.length co18, .int .i64 x10_1, .int .u64 t186] rfl (by (try simp only [List.map_toArray, List.map_cons, List.map_nil]); first | done | rfl | (simp only [List.length_drop, List.length_take]; rfl)) ?_; (with_reducible refine (nat_take.calls k1 (fun k_ => some k_ = (.slice Ao38 x7_1.length co38 : Value).ownBlock) (.slice Ao38 x7_1.length co38) x7_1 _ _ y170 x10_1 t186 false t188 w _ ?side1 ?side2 ?side3 ?side4 A24.out).mono ?_); (case side1 => repeat (first | (with_reducible first | exact HB.out | apply below_alloc | apply pw_below_drewN | apply below_drew1) | exact HB.out)); (case side2 => exact Kd.R_tight rfl HO_7.out); (case side3 => exact (fun W_ hkW => (by have h := Kd.C_take (Kd.R_reads' (Kd.R_kept HO_8.out hkW (fun k_ hk_ hs_ => hk_.1 hs_))).2.2 KL17.out; rw [← Ny170.out] at h; exact h))); (case side4 => exact HC173.out); rintro e w39 ⟨rfl, hy0, hb, hkp⟩; refine ⟨_, rfl, ?_⟩; have n0_ := Aside0.mk (Kd.R_reok rfl hy0 (fun k_ e_ => HO_7.out.1 k_ e_)); have n1_ := Aside0.mk (Kd.R_mono (ok' := fun k_ => some k_ ≠ (.slice Ao38 x7_1.length co38 : Value).ownBlock) (Kd.R_keptB (HO_9.out) hkp (fun k_ hk_ hs_ => (hk_) hs_)) (fun k_ hk_ => hk_.1)); have n2_ := Aside0.mk (hb); have n3_ := Aside0.mk (Kd.R_mono (ok' := (fun k_ => some k_ ≠ (.slice Ao38 x7_1.length co38 : Value).ownBlock ∧ some k_ ≠ (.slice Ao21 x9_1.length co21 : Value).ownBlock)) (Kd.R_keptB (HO_8.out) hkp (fun k_ hk_ hs_ => (hk_.1) hs_)) (fun k_ hk_ => hk_.1)); clear HO_7; clear HO_9; clear HO_8; clear HB; have HO_7 := n0_; have HO_9 := n1_; have HB := n2_; have HO_8 := n3_; clear n0_ n1_ n2_ n3_; (try clear hb); (try clear hkp); (try clear hy0); have p37 : 0 ≤ (x10_1 : Int) := of_decide_eq_true (by first | (with_reducible assumption) | assumption); have q37 : (x10_1 : Int) < ((x9_1.length : Int) : Int) := of_decide_eq_true (by first | (with_reducible assumption) | assumption); obtain ⟨go37, co37, eo37, gb37, gl37, cl37, HG37⟩ := Kd.R_form HO_9.out (by omega); (first | cases eo37 | (injection eo37 with ea_ en_ ec_; (first | subst ea_ | (injection ea_ with ea_; subst ea_)); subst ec_; clear en_)); have GB37 := Aside0.mk gb37; have GG37 := Aside0.mk HG37; clear gb37 gl37 HG37; obtain ⟨hx37_0, hf37_0⟩ := Kd.R_celln 0 HO_9.out (x10_1 : Int) p37 q37; replace p37 := eq_true p37; replace q37 := eq_true q37; obtain ⟨hy40_, hz40_⟩ := Kd.R_celln 0 HO_9.out (x10_1 : Int) (of_decide_eq_true (by first | (with_reducible assumption) | assumption)) (of_decide_eq_true (by first | (with_reducible assumption) | assumption)); have HP40 := Kd.R_putg HO_9.out (x10_1 : Int) ((t186) % 4294967296)) | ((with_reducible refine gate_store (t := 55) (p := 61) rfl ?_); refine store_event (t := 55) (p := 61) (v := ?vo_w41) (w1 := (w39.setCell ⟨go37, (x10_1 : Int).toNat, none⟩ (.int .u32 ((t186) % 4294967296)))) ?hg ?ho ?hn ?hr ?_; (case ho => rfl); (case hg => rfl); (case hn => rfl); (case hr => first | (go_simp; done) | (go_simp; rfl)); intro w41 hw; have hg : w39.grownBy w41 (some go37) := (by rw [hw]; exact HP40.2); have hp_ : Kd.R (Kd.int .u32) 55 w41 w.heap.size (fun k_ => some k_ ≠ (.slice Ao38 x7_1.length co38 : Value).ownBlock) (.slice (some ⟨go37, 0, none⟩) x9_1.length co21) y191 := (by rw [hw, Ny191.out]; exact HP40.1); clear HP40; have n0_ := Aside0.mk (Kd.R_after (v := (.slice (some ⟨go37, 0, none⟩) x9_1.length co21)) (v1 := (.slice (some ⟨go37, 0, none⟩) x9_1.length co21)) (ok := (fun _ => True)) (by (with_reducible repeat (first | apply Kd.R_alloc | apply Kd.R_drewN | apply Kd.R_drew)); exact Kd.R_mono HO_7.out (fun _ hk => ⟨trivial, hk⟩)) hg (.inl rfl)); have n1_ := Aside0.mk (hp_); have n2_ := Aside0.mk ((by rw [hw]; exact below_set (HB.out) GB37.out : Below w.heap.size w w41)); have n3_ := Aside0.mk (Kd.R_grown (show Kd.R (Kd.int .u32) 55 w39 w.heap.size (fun k_ => some k_ ≠ (.slice Ao38 x7_1.length co38 : Value).ownBlock ∧ some k_ ≠ (.slice (some ⟨go37, 0, none⟩) x9_1.length co21 : Value).ownBlock) (.slice Ao18 t167.length co18) t167 from by (with_reducible repeat (first | apply Kd.R_alloc | apply Kd.R_drewN | apply Kd.R_drew)); exact HO_8.out) hg (fun k_ hk_ => hk_.2)); clear HO_7; clear HO_9; clear HO_8; clear HB; have HO_7 := n0_; have HO_9 := n1_; have HB := n2_; have HO_8 := n3_; clear n0_ n1_ n2_ n3_; clear hg hw hp_))
             (try simp only [← hl9_1])
             go_roundg k1
             case measure => have := HK1.out; omega
             case rel => exact ⟨(t188), (y191), (wrap64 (x10_1 - 1)), (by first | rfl | (simp; done) | (simp [*]; done)), H', ⟨by have := HK1.out; omega⟩, ⟨by (try simp only [hl9_1]); (with_reducible repeat (first | apply Kd.R_alloc | apply Kd.R_drewN | apply Kd.R_drew)); exact Kd.R_mono HO_7.out (fun _ hk => hk.2)⟩, ⟨by (try simp only [hl9_1]); (with_reducible repeat (first | apply Kd.R_alloc | apply Kd.R_drewN | apply Kd.R_drew)); exact HO_9.out⟩, ⟨by (try simp only [hl9_1]); (with_reducible repeat (first | apply Kd.R_alloc | apply Kd.R_drewN | apply Kd.R_drew)); exact HO_8.out⟩, ⟨by repeat (first | (with_reducible first | exact HB.out | apply below_alloc | apply pw_below_drewN | apply below_drew1) | exact HB.out)⟩⟩
            ·rw [if_neg c36] at H
             exact absurd H (by simp)
           ·rw [if_neg c35] at H
            exact absurd H (by simp)
         ·rw [if_neg c22] at H
          have c22b0 : decide (0 ≤ x10_1) = false := decide_eq_false c22
          clear c22
          replace H := Option.bind_eq_some_iff.mp H
          obtain ⟨t177, A420, H⟩ := H
          replace H : ((nat_unshift.f k1 x7_1 t163).bind fun t180 => ((nat_trim.f k1 t180).bind fun t183 => (some (t177, t183)))) = some (r1, r2) := H
          have A42 := Aside0.mk A420
          clear A420
          replace H := Option.bind_eq_some_iff.mp H
          obtain ⟨t180, A430, H⟩ := H
          replace H : ((nat_trim.f k1 t180).bind fun t183 => (some (t177, t183))) = some (r1, r2) := H
          have A43 := Aside0.mk A430
          clear A430
          replace H := Option.bind_eq_some_iff.mp H
          obtain ⟨t183, A440, H⟩ := H
          replace H : (some (t177, t183)) = some (r1, r2) := H
          have A44 := Aside0.mk A440
          clear A440
          simp only [Option.some.injEq, Prod.mk.injEq] at H
          obtain ⟨rfl, rfl⟩ := H
          go_wp2_with (first | ((with_reducible refine gate_callee (f := 102) rfl ?_); refine goesL_ (some 63) rfl rfl Tryd.func102 (by kernel_rfl) rfl #[.slice Ao21 x9_1.length co21] rfl (by (try simp only [List.map_toArray, List.map_cons, List.map_nil]); first | done | rfl | (simp only [List.length_drop, List.length_take]; rfl)) ?_; (with_reducible refine (nat_trim.calls k1 (fun k_ => some k_ = (.slice Ao21 x9_1.length co21 : Value).ownBlock) (.slice Ao21 x9_1.length co21) x9_1 t177 w _ ?side1 ?side2 A42.out).mono ?_); (case side1 => repeat (first | (with_reducible first | exact HB.out | apply below_alloc | apply pw_below_drewN | apply below_drew1) | exact HB.out)); (case side2 => exact Kd.R_tight rfl HO_9.out); rintro e w45 ⟨v178, rfl, ho0, hb, hkp⟩; refine ⟨_, rfl, ?_⟩; have n0_ := Aside0.mk (Kd.R_mono (ok' := fun k_ => some k_ ≠ (v178 : Value).ownBlock) (Kd.R_keptB (HO_7.out) hkp (fun k_ hk_ hs_ => (hk_) hs_)) (fun k_ hk_ => fun e_ => Or.elim (ho0.1 k_ e_.symm) (fun hs_ => hk_.2.1 hs_) (fun hn_ => Nat.not_le.2 hk_.2.2 hn_))); have n1_ := Aside0.mk (Kd.R_mono (ok' := fun k_ => some k_ ≠ (v165 : Value).ownBlock) ho0 (fun k_ hk_ => Or.elim hk_ (fun hs_ => fun e_ => (((HO_7.out).1 k_ e_.symm)) hs_) (fun hn_ => (Kd.fresh' (Kd.R_lt (by (with_reducible repeat (first | apply Kd.R_alloc | apply Kd.R_drewN | apply Kd.R_drew)); exact HO_7.out)) k_ hn_)))); have n2_ := Aside0.mk (hb); clear HO_7; clear HB; clear HO_9; have HO_7 := n0_; have HO179 := n1_; have HB := n2_; clear n0_ n1_ n2_; (try clear hb); (try clear hkp); (try clear ho0); obtain ⟨Ao46, co46, eo46⟩ := Kd.R_slice HO_7.out; subst eo46) | ((with_reducible refine gate_callee (f := 190) rfl ?_); refine goesL_ (some 66) rfl rfl Tryd.func190 (by kernel_rfl) rfl #[.slice Ao46 x7_1.length co46, .int .i64 t163] rfl (by (try simp only [List.map_toArray, List.map_cons, List.map_nil]); first | done | rfl | (simp only [List.length_drop, List.length_take]; rfl)) ?_; (with_reducible refine (nat_unshift.calls k1 _ _ x7_1 t163 t180 _ ?side1 ?side2 A43.out).mono ?_); (case side1 => repeat (first | exact (Kd.R_reads' HO_7.out).2.2 | (with_reducible refine Kd.C_alloc ?_ _) | (with_reducible refine Kd.C_drewN ?_ _) | (with_reducible refine Kd.C_drew ?_))); (case side2 => exact (Kd.R_reads' HO_7.out).2.1); rintro e w47 ⟨v181, rfl, ho0, hb⟩; refine ⟨_, rfl, ?_⟩; have n0_ := Aside0.mk (Kd.R_elder' (by (with_reducible repeat (first | apply Kd.R_alloc | apply Kd.R_drewN | apply Kd.R_drew)); exact HO_7.out) (Kd.R_base ho0) hb); have n1_ := Aside0.mk (Kd.R_elder' (by (with_reducible repeat (first | apply Kd.R_alloc | apply Kd.R_drewN | apply Kd.R_drew)); exact HO179.out) (Kd.R_base ho0) hb); have n2_ := Aside0.mk (Kd.R_lower (Kd.R_new' (Kd.R_new' ho0 (Kd.R_lt (by (with_reducible repeat (first | apply Kd.R_alloc | apply Kd.R_drewN | apply Kd.R_drew)); exact HO_7.out))) (Kd.R_lt (by (with_reducible repeat (first | apply Kd.R_alloc | apply Kd.R_drewN | apply Kd.R_drew)); exact HO179.out))) (below_size (by repeat (first | (with_reducible first | exact HB.out | apply below_alloc | apply pw_below_drewN | apply below_drew1) | exact HB.out)))); have n3_ := Aside0.mk (below_step (by repeat (first | (with_reducible first | exact HB.out | apply below_alloc | apply pw_below_drewN | apply below_drew1) | exact HB.out)) hb); clear HO_7; clear HO179; clear HB; have HO_7 := n0_; have HO179 := n1_; have HO182 := n2_; have HB := n3_; clear n0_ n1_ n2_ n3_; (try clear hb); (try clear hb2); (try clear hk); (try clear hi); (try clear ho0); obtain ⟨Ao48, co48, eo48⟩ := Kd.R_slice HO182.out; subst eo48) | ((with_reducible refine gate_callee (f := 102) rfl ?_); refine goesL_ (some 67) rfl rfl Tryd.func102 (by kernel_rfl) rfl #[.slice Ao48 t180.length co48] rfl (by (try simp only [List.map_toArray, List.map_cons, List.map_nil]); first | done | rfl | (simp only [List.length_drop, List.length_take]; rfl)) ?_; (with_reducible refine (nat_trim.calls k1 (fun k_ => some k_ = (.slice Ao48 t180.length co48 : Value).ownBlock) (.slice Ao48 t180.length co48) t180 t183 w _ ?side1 ?side2 A44.out).mono ?_); (case side1 => repeat (first | (with_reducible first | exact HB.out | apply below_alloc | apply pw_below_drewN | apply below_drew1) | exact HB.out)); (case side2 => exact Kd.R_tight rfl HO182.out); rintro e w49 ⟨v184, rfl, ho0, hb, hkp⟩; refine ⟨_, rfl, ?_⟩; have n0_ := Aside0.mk (Kd.R_mono (ok' := fun k_ => some k_ ≠ (v178 : Value).ownBlock ∧ some k_ ≠ (v184 : Value).ownBlock) (Kd.R_keptB (HO_7.out) hkp (fun k_ hk_ hs_ => (hk_.2) hs_)) (fun k_ hk_ => ⟨hk_.1.1, fun e_ => Or.elim (ho0.1 k_ e_.symm) (fun hs_ => hk_.2.1 hs_) (fun hn_ => Nat.not_le.2 hk_.2.2 hn_)⟩)); have n1_ := Aside0.mk (Kd.R_mono (ok' := fun k_ => some k_ ≠ (.slice Ao46 x7_1.length co46 : Value).ownBlock ∧ some k_ ≠ (v184 : Value).ownBlock) (Kd.R_keptB (HO179.out) hkp (fun k_ hk_ hs_ => (hk_.2) hs_)) (fun k_ hk_ => ⟨hk_.1.1, fun e_ => Or.elim (ho0.1 k_ e_.symm) (fun hs_ => hk_.2.1 hs_) (fun hn_ => Nat.not_le.2 hk_.2.2 hn_)⟩)); have n2_ := Aside0.mk (Kd.R_mono (ok' := fun k_ => some k_ ≠ (.slice Ao46 x7_1.length co46 : Value).ownBlock ∧ some k_ ≠ (v178 : Value).ownBlock) ho0 (fun k_ hk_ => ⟨Or.elim hk_ (fun hs_ => fun e_ => (((HO_7.out).1 k_ e_.symm).2) hs_) (fun hn_ => (Kd.fresh' (Kd.R_lt (by (with_reducible repeat (first | apply Kd.R_alloc | apply Kd.R_drewN | apply Kd.R_drew)); exact HO_7.out)) k_ hn_)), Or.elim hk_ (fun hs_ => fun e_ => (((HO179.out).1 k_ e_.symm).2) hs_) (fun hn_ => (Kd.fresh' (Kd.R_lt (by (with_reducible repeat (first | apply Kd.R_alloc | apply Kd.R_drewN | apply Kd.R_drew)); exact HO179.out)) k_ hn_))⟩)); have n3_ := Aside0.mk (hb); clear HO_7; clear HO179; clear HB; clear HO182; have HO_7 := n0_; have HO179 := n1_; have HO185 := n2_; have HB := n3_; clear n0_ n1_ n2_ n3_; (try clear hb); (try clear hkp); (try clear ho0)))
          go_ret2
          exact ⟨_, _, by first | rfl | (simp [errW_none, errW_some] <;> rfl) | (simp only [← hji3, ← hji11]; first | rfl | (simp [errW_none, errW_some] <;> rfl)) | (simp [*, errW_none, errW_some] <;> rfl), by (with_reducible repeat (first | apply Kd.R_alloc | apply Kd.R_drewN | apply Kd.R_drew)); exact Kd.R_mono HO179.out (fun _ hk => hk.2), by (with_reducible repeat (first | apply Kd.R_alloc | apply Kd.R_drewN | apply Kd.R_drew)); exact Kd.R_mono HO185.out (fun _ hk => hk.2), by repeat (first | (with_reducible first | exact HB.out | apply below_alloc | apply pw_below_drewN | apply below_drew1) | exact HB.out)⟩
      ·rw [if_neg c13] at H
       exact absurd H (by simp)
     ·rw [if_neg c12] at H
      exact absurd H (by simp)
    ·rw [if_neg c10] at H
     exact absurd H (by simp)
   ·rw [if_neg c9] at H
    exact absurd H (by simp)
  ·rw [if_neg c5] at H
   exact absurd H (by simp)
 ·rw [if_neg c4] at H
  exact absurd H (by simp)
end Go.Proofs.YtakickbnjbedfaaDoor.PA
end
section
namespace Go.Proofs.YtakickbnjbedfaaDoor.PA
open Go.RowKit Go.Proofs.YtakickbnjbedfaaDoorW.PrintWords Go.Proofs.YtakickbnjbedfaaDoorW.PrintLast Go.Proofs.YtakickbnjbedfaaDoorW.PrintMore
attribute [local go_sem] max2_int min2_int max_two min_two
set_option linter.unusedVariables false
set_option linter.unusedSimpArgs false
def rat_one.f (k : Nat)  : Option (List Int) := (nat_Of.f k 1).bind fun t195 => (some t195)
set_option maxHeartbeats 8000000 in
set_option maxRecDepth 100000 in
theorem rat_one.calls (k : Nat)  (r : List Int) (w : World) (h : rat_one.f k  = some r) :
  Calls Tryd.prog 73 #[] w fun e w' => ∃ v0_ : Value, e = .returned (v0_) ∧ Kd.R (Kd.int .u32) 55 w' w.heap.size (fun _ => True) v0_ r ∧ Below w.heap.size w w' := by
 have HB := Aside0.mk (Below.refl w.heap.size w)
 have H : ((nat_Of.f k 1).bind fun t195 => (some t195)) = some r := h
 clear h
 replace H := Option.bind_eq_some_iff.mp H
 obtain ⟨t195, A10, H⟩ := H
 replace H : (some t195) = some r := H
 have A1 := Aside0.mk A10
 clear A10
 obtain rfl := Option.some.inj H
 go_enter Tryd.func73, Tryd.ntmps73
 go_wp2_with (first | ((with_reducible refine gate_callee (f := 85) rfl ?_); refine goesL_ (some 1) rfl rfl Tryd.func85 (by kernel_rfl) rfl #[.int .u64 1] rfl (by (try simp only [List.map_toArray, List.map_cons, List.map_nil]); first | done | rfl | (simp only [List.length_drop, List.length_take]; rfl)) ?_; (with_reducible refine (nat_Of.calls k 1 t195 _ A1.out).mono ?_); rintro e w2 ⟨v196, rfl, ho0, hb⟩; refine ⟨_, rfl, ?_⟩; have n0_ := Aside0.mk (Kd.R_lower ho0 (below_size (by repeat (first | (with_reducible first | exact HB.out | apply below_alloc | apply pw_below_drewN | apply below_drew1) | exact HB.out)))); have n1_ := Aside0.mk (below_step (by repeat (first | (with_reducible first | exact HB.out | apply below_alloc | apply pw_below_drewN | apply below_drew1) | exact HB.out)) hb); clear HB; have HO197 := n0_; have HB := n1_; clear n0_ n1_; (try clear hb); (try clear hb2); (try clear hk); (try clear hi); (try clear ho0)))
 go_ret
 exact ⟨_, by first | rfl | (simp [errW_none, errW_some] <;> rfl) | (simp [*, errW_none, errW_some] <;> rfl), by (with_reducible repeat (first | apply Kd.R_alloc | apply Kd.R_drewN | apply Kd.R_drew)); exact HO197.out, by repeat (first | (with_reducible first | exact HB.out | apply below_alloc | apply pw_below_drewN | apply below_drew1) | exact HB.out)⟩
end Go.Proofs.YtakickbnjbedfaaDoor.PA
end
section
namespace Go.Proofs.YtakickbnjbedfaaDoor.PA
open Go.RowKit Go.Proofs.YtakickbnjbedfaaDoorW.PrintWords Go.Proofs.YtakickbnjbedfaaDoorW.PrintLast Go.Proofs.YtakickbnjbedfaaDoorW.PrintMore
attribute [local go_sem] max2_int min2_int max_two min_two
set_option linter.unusedVariables false
set_option linter.unusedSimpArgs false
def rank_Check.f (a0_0 : ByteArray) (a0_1 : Int) (a0_2 : Int) : Option (Int) := if (a0_0.size : Int) > 64 then (some 5) else (if a0_2 = 0 then (some 7) else (some 0))
set_option maxHeartbeats 8000000 in
set_option maxRecDepth 100000 in
theorem rank_Check.calls (a0_0 : ByteArray) (a0_1 : Int) (a0_2 : Int) (r : Int) (w : World) (h : rank_Check.f a0_0 a0_1 a0_2 = some r) :
  Calls Tryd.prog 36 #[.agg #[.string a0_0, .int .u64 a0_1, .int .u64 a0_2]] w fun e w' => e = .returned (.int .i64 r) ∧ Below w.heap.size w w' := by
 have hu42 := Tryd.underlying42
 have HB := Aside0.mk (Below.refl w.heap.size w)
 have H : (if (a0_0.size : Int) > 64 then (some 5) else (if a0_2 = 0 then (some 7) else (some 0))) = some r := h
 clear h
 by_cases c2 : (a0_0.size : Int) > 64
 ·rw [if_pos c2] at H
  have c2b0 : decide (64 < (a0_0.size : Int)) = true := decide_eq_true c2
  have c2b1 : decide (64 < a0_0.size) = true := decide_eq_true (by omega)
  clear c2
  obtain rfl := Option.some.inj H
  go_enter Tryd.func36, Tryd.ntmps36
  go_wp2_with (first | ((with_reducible refine gate_dst (N := 1) rfl ?_); refine box_event ?hg (N := 1) ?hd (cs := #[.string a0_0, .int .u64 a0_1, .int .u64 a0_2]) (t := 42) ?hr ?_; (case hd => rfl); (case hg => rfl); (case hr => first | (go_simp; done) | (go_simp; rfl)); intro gb560 hg w3 hbox hb; have n0_ := Aside0.mk (below_step (by repeat (first | (with_reducible first | exact HB.out | apply below_alloc | apply pw_below_drewN | apply below_drew1) | exact HB.out)) hb); have n1_ := Aside0.mk (hbox); have n2_ := Aside0.mk ((by rw [hg]; exact (below_size (by repeat (first | (with_reducible first | exact HB.out | apply below_alloc | apply pw_below_drewN | apply below_drew1) | exact HB.out))) : w.heap.size ≤ gb560)); have n3_ := Aside0.mk ((by rw [hg]; exact (below_size (by repeat (first | (with_reducible first | exact HB.out | apply below_alloc | apply pw_below_drewN | apply below_drew1) | exact HB.out))) : w.heap.size ≤ gb560)); clear HB; have HB := n0_; have BK560 := n1_; have GW560 := n2_; have GE560 := n3_; clear n0_ n1_ n2_ n3_; clear hb hbox hg; have hcz4_0 : w3.cell? ⟨gb560, 0, none⟩ = some (.string a0_0) := (blk_cell BK560.out 0).trans rfl; have hcz4_1 : w3.cell? ⟨gb560, 1, none⟩ = some (.int .u64 a0_1) := (blk_cell BK560.out 1).trans rfl; have hcz4_2 : w3.cell? ⟨gb560, 2, none⟩ = some (.int .u64 a0_2) := (blk_cell BK560.out 2).trans rfl; have hfz4_0 := blk_frozen BK560.out 0; have hfz4_1 := blk_frozen BK560.out 1; have hfz4_2 := blk_frozen BK560.out 2))
  go_ret
  exact ⟨by first | rfl | (simp [errW_none, errW_some] <;> rfl) | (simp [*, errW_none, errW_some] <;> rfl), by repeat (first | (with_reducible first | exact HB.out | apply below_alloc | apply pw_below_drewN | apply below_drew1 | refine below_set ?_ GE560.out) | exact HB.out)⟩
 ·rw [if_neg c2] at H
  have c2b0 : decide (64 < (a0_0.size : Int)) = false := decide_eq_false c2
  have c2b1 : decide (64 < a0_0.size) = false := decide_eq_false (by omega)
  clear c2
  by_cases c5 : a0_2 = 0
  ·rw [if_pos c5] at H
   have c5b0 : (a0_2 == 0) = true := beq_iff_eq.mpr c5
   have c5b1 : (a0_2 != 0) = false := bne_eq_false_iff_eq.mpr c5
   clear c5
   obtain rfl := Option.some.inj H
   go_enter Tryd.func36, Tryd.ntmps36
   go_wp2_with (first | ((with_reducible refine gate_dst (N := 1) rfl ?_); refine box_event ?hg (N := 1) ?hd (cs := #[.string a0_0, .int .u64 a0_1, .int .u64 a0_2]) (t := 42) ?hr ?_; (case hd => rfl); (case hg => rfl); (case hr => first | (go_simp; done) | (go_simp; rfl)); intro gb560 hg w6 hbox hb; have n0_ := Aside0.mk (below_step (by repeat (first | (with_reducible first | exact HB.out | apply below_alloc | apply pw_below_drewN | apply below_drew1) | exact HB.out)) hb); have n1_ := Aside0.mk (hbox); have n2_ := Aside0.mk ((by rw [hg]; exact (below_size (by repeat (first | (with_reducible first | exact HB.out | apply below_alloc | apply pw_below_drewN | apply below_drew1) | exact HB.out))) : w.heap.size ≤ gb560)); have n3_ := Aside0.mk ((by rw [hg]; exact (below_size (by repeat (first | (with_reducible first | exact HB.out | apply below_alloc | apply pw_below_drewN | apply below_drew1) | exact HB.out))) : w.heap.size ≤ gb560)); clear HB; have HB := n0_; have BK560 := n1_; have GW560 := n2_; have GE560 := n3_; clear n0_ n1_ n2_ n3_; clear hb hbox hg; have hcz7_0 : w6.cell? ⟨gb560, 0, none⟩ = some (.string a0_0) := (blk_cell BK560.out 0).trans rfl; have hcz7_1 : w6.cell? ⟨gb560, 1, none⟩ = some (.int .u64 a0_1) := (blk_cell BK560.out 1).trans rfl; have hcz7_2 : w6.cell? ⟨gb560, 2, none⟩ = some (.int .u64 a0_2) := (blk_cell BK560.out 2).trans rfl; have hfz7_0 := blk_frozen BK560.out 0; have hfz7_1 := blk_frozen BK560.out 1; have hfz7_2 := blk_frozen BK560.out 2))
   go_ret
   exact ⟨by first | rfl | (simp [errW_none, errW_some] <;> rfl) | (simp [*, errW_none, errW_some] <;> rfl), by repeat (first | (with_reducible first | exact HB.out | apply below_alloc | apply pw_below_drewN | apply below_drew1 | refine below_set ?_ GE560.out) | exact HB.out)⟩
  ·rw [if_neg c5] at H
   have c5b0 : (a0_2 == 0) = false := beq_eq_false_iff_ne.mpr c5
   have c5b1 : (a0_2 != 0) = true := bne_iff_ne.mpr c5
   obtain rfl := Option.some.inj H
   go_enter Tryd.func36, Tryd.ntmps36
   go_wp2_with (first | ((with_reducible refine gate_dst (N := 1) rfl ?_); refine box_event ?hg (N := 1) ?hd (cs := #[.string a0_0, .int .u64 a0_1, .int .u64 a0_2]) (t := 42) ?hr ?_; (case hd => rfl); (case hg => rfl); (case hr => first | (go_simp; done) | (go_simp; rfl)); intro gb560 hg w8 hbox hb; have n0_ := Aside0.mk (below_step (by repeat (first | (with_reducible first | exact HB.out | apply below_alloc | apply pw_below_drewN | apply below_drew1) | exact HB.out)) hb); have n1_ := Aside0.mk (hbox); have n2_ := Aside0.mk ((by rw [hg]; exact (below_size (by repeat (first | (with_reducible first | exact HB.out | apply below_alloc | apply pw_below_drewN | apply below_drew1) | exact HB.out))) : w.heap.size ≤ gb560)); have n3_ := Aside0.mk ((by rw [hg]; exact (below_size (by repeat (first | (with_reducible first | exact HB.out | apply below_alloc | apply pw_below_drewN | apply below_drew1) | exact HB.out))) : w.heap.size ≤ gb560)); clear HB; have HB := n0_; have BK560 := n1_; have GW560 := n2_; have GE560 := n3_; clear n0_ n1_ n2_ n3_; clear hb hbox hg; have hcz9_0 : w8.cell? ⟨gb560, 0, none⟩ = some (.string a0_0) := (blk_cell BK560.out 0).trans rfl; have hcz9_1 : w8.cell? ⟨gb560, 1, none⟩ = some (.int .u64 a0_1) := (blk_cell BK560.out 1).trans rfl; have hcz9_2 : w8.cell? ⟨gb560, 2, none⟩ = some (.int .u64 a0_2) := (blk_cell BK560.out 2).trans rfl; have hfz9_0 := blk_frozen BK560.out 0; have hfz9_1 := blk_frozen BK560.out 1; have hfz9_2 := blk_frozen BK560.out 2))
   go_ret
   exact ⟨by first | rfl | (simp [errW_none, errW_some] <;> rfl) | (simp [*, errW_none, errW_some] <;> rfl), by repeat (first | (with_reducible first | exact HB.out | apply below_alloc | apply pw_below_drewN | apply below_drew1 | refine below_set ?_ GE560.out) | exact HB.out)⟩
end Go.Proofs.YtakickbnjbedfaaDoor.PA
end
section
namespace Go.Proofs.YtakickbnjbedfaaDoor.PA
open Go.RowKit Go.Proofs.YtakickbnjbedfaaDoorW.PrintWords Go.Proofs.YtakickbnjbedfaaDoorW.PrintLast Go.Proofs.YtakickbnjbedfaaDoorW.PrintMore
attribute [local go_sem] max2_int min2_int max_two min_two
set_option linter.unusedVariables false
set_option linter.unusedSimpArgs false
def wide_order.f (a0 : Int) (a1 : Int) : Option (Int) := if a0 < a1 then (some (-1)) else (if a0 > a1 then (some 1) else (some 0))
set_option maxHeartbeats 8000000 in
set_option maxRecDepth 100000 in
theorem wide_order.calls (a0 : Int) (a1 : Int) (r : Int) (w : World) (h : wide_order.f a0 a1 = some r) :
  Calls Tryd.prog 116 #[.int .u64 a0, .int .u64 a1] w fun e w' => e = .returned (.int .i64 r) ∧ Drawn0 w w' := by
 have H : (if a0 < a1 then (some (-1)) else (if a0 > a1 then (some 1) else (some 0))) = some r := h
 clear h
 by_cases c3 : a0 < a1
 ·rw [if_pos c3] at H
  have c3b0 : decide (a0 < a1) = true := decide_eq_true c3
  clear c3
  obtain rfl := Option.some.inj H
  go_enter Tryd.func116, Tryd.ntmps116
  go_wp2
  go_ret
  exact ⟨by first | rfl | (simp; done) | (simp [*]; done), by repeat (first | exact Drawn0.refl _ | apply Drawn0.step)⟩
 ·rw [if_neg c3] at H
  have c3b0 : decide (a0 < a1) = false := decide_eq_false c3
  clear c3
  by_cases c4 : a0 > a1
  ·rw [if_pos c4] at H
   have c4b0 : decide (a1 < a0) = true := decide_eq_true c4
   clear c4
   obtain rfl := Option.some.inj H
   go_enter Tryd.func116, Tryd.ntmps116
   go_wp2
   go_ret
   exact ⟨by first | rfl | (simp; done) | (simp [*]; done), by repeat (first | exact Drawn0.refl _ | apply Drawn0.step)⟩
  ·rw [if_neg c4] at H
   have c4b0 : decide (a1 < a0) = false := decide_eq_false c4
   clear c4
   obtain rfl := Option.some.inj H
   go_enter Tryd.func116, Tryd.ntmps116
   go_wp2
   go_ret
   exact ⟨by first | rfl | (simp; done) | (simp [*]; done), by repeat (first | exact Drawn0.refl _ | apply Drawn0.step)⟩
end Go.Proofs.YtakickbnjbedfaaDoor.PA
end
section
namespace Go.Proofs.YtakickbnjbedfaaDoor.PA
open Go.RowKit Go.Proofs.YtakickbnjbedfaaDoorW.PrintWords Go.Proofs.YtakickbnjbedfaaDoorW.PrintLast Go.Proofs.YtakickbnjbedfaaDoorW.PrintMore
attribute [local go_sem] max2_int min2_int max_two min_two
set_option linter.unusedVariables false
set_option linter.unusedSimpArgs false
def wide_Cmp.f (a0_0 : Int) (a0_1 : Int) (a1_0 : Int) (a1_1 : Int) : Option (Int) := (wide_order.f a0_0 a1_0).bind fun t572 => (if t572 = 0 then ((wide_order.f a0_1 a1_1).bind fun t573 => (some t573)) else (some t572))
set_option maxHeartbeats 8000000 in
set_option maxRecDepth 100000 in
theorem wide_Cmp.calls (a0_0 : Int) (a0_1 : Int) (a1_0 : Int) (a1_1 : Int) (r : Int) (w : World) (h : wide_Cmp.f a0_0 a0_1 a1_0 a1_1 = some r) :
  Calls Tryd.prog 62 #[.agg #[.int .u64 a0_0, .int .u64 a0_1], .agg #[.int .u64 a1_0, .int .u64 a1_1]] w fun e w' => e = .returned (.int .i64 r) ∧ Below w.heap.size w w' := by
 have hu68 := Tryd.underlying68
 have HB := Aside0.mk (Below.refl w.heap.size w)
 have H : ((wide_order.f a0_0 a1_0).bind fun t572 => (if t572 = 0 then ((wide_order.f a0_1 a1_1).bind fun t573 => (some t573)) else (some t572))) = some r := h
 clear h
 replace H := Option.bind_eq_some_iff.mp H
 obtain ⟨t572, A30, H⟩ := H
 replace H : (if t572 = 0 then ((wide_order.f a0_1 a1_1).bind fun t573 => (some t573)) else (some t572)) = some r := H
 have A3 := Aside0.mk A30
 clear A30
 by_cases c4 : t572 = 0
 ·rw [if_pos c4] at H
  have c4b0 : (t572 == 0) = true := beq_iff_eq.mpr c4
  have c4b1 : (t572 != 0) = false := bne_eq_false_iff_eq.mpr c4
  clear c4
  replace H := Option.bind_eq_some_iff.mp H
  obtain ⟨t573, A50, H⟩ := H
  replace H : (some t573) = some r := H
  have A5 := Aside0.mk A50
  clear A50
  obtain rfl := Option.some.inj H
  go_enter Tryd.func62, Tryd.ntmps62
  go_wp2_with (first | ((with_reducible refine gate_dst (N := 2) rfl ?_); refine box_event ?hg (N := 2) ?hd (cs := #[.int .u64 a0_0, .int .u64 a0_1]) (t := 68) ?hr ?_; (case hd => rfl); (case hg => rfl); (case hr => first | (go_simp; done) | (go_simp; rfl)); intro gb570 hg w6 hbox hb; have n0_ := Aside0.mk (below_step (by repeat (first | (with_reducible first | exact HB.out | apply below_alloc | apply pw_below_drewN | apply below_drew1) | exact HB.out)) hb); have n1_ := Aside0.mk (hbox); have n2_ := Aside0.mk ((by rw [hg]; exact (below_size (by repeat (first | (with_reducible first | exact HB.out | apply below_alloc | apply pw_below_drewN | apply below_drew1) | exact HB.out))) : w.heap.size ≤ gb570)); have n3_ := Aside0.mk ((by rw [hg]; exact (below_size (by repeat (first | (with_reducible first | exact HB.out | apply below_alloc | apply pw_below_drewN | apply below_drew1) | exact HB.out))) : w.heap.size ≤ gb570)); clear HB; have HB := n0_; have BK570 := n1_; have GW570 := n2_; have GE570 := n3_; clear n0_ n1_ n2_ n3_; clear hb hbox hg) | ((with_reducible refine gate_dst (N := 3) rfl ?_); refine box_event ?hg (N := 3) ?hd (cs := #[.int .u64 a1_0, .int .u64 a1_1]) (t := 68) ?hr ?_; (case hd => rfl); (case hg => rfl); (case hr => first | (go_simp; done) | (go_simp; rfl)); intro gb571 hg w7 hbox hb; have n0_ := Aside0.mk (blk_below (g := gb570) (o := .cells #[.int .u64 a0_0, .int .u64 a0_1] 68 (0, 0)) (by (with_reducible repeat (first | refine blk_drewN ?_ _ | refine blk_drew ?_ | refine blk_alloc ?_ _)); exact BK570.out) hb); have n1_ := Aside0.mk (below_step (by repeat (first | (with_reducible first | exact HB.out | apply below_alloc | apply pw_below_drewN | apply below_drew1 | refine below_set ?_ GE570.out) | exact HB.out)) hb); have n2_ := Aside0.mk (hbox); have n3_ := Aside0.mk ((by rw [hg]; exact (below_size (by repeat (first | (with_reducible first | exact HB.out | apply below_alloc | apply pw_below_drewN | apply below_drew1 | refine below_set ?_ GE570.out) | exact HB.out))) : w.heap.size ≤ gb571)); have n4_ := Aside0.mk ((by rw [hg]; exact (below_size (by repeat (first | (with_reducible first | exact HB.out | apply below_alloc | apply pw_below_drewN | apply below_drew1 | refine below_set ?_ GE570.out) | exact HB.out))) : w.heap.size ≤ gb571)); have n5_ := Aside0.mk ((by rw [hg]; exact Nat.ne_of_lt (blk_lt (g := gb570) (o := .cells #[.int .u64 a0_0, .int .u64 a0_1] 68 (0, 0)) (by (with_reducible repeat (first | refine blk_drewN ?_ _ | refine blk_drew ?_ | refine blk_alloc ?_ _)); exact BK570.out)) : gb570 ≠ gb571)); have n6_ := Aside0.mk ((by rw [hg]; exact Nat.ne_of_gt (blk_lt (g := gb570) (o := .cells #[.int .u64 a0_0, .int .u64 a0_1] 68 (0, 0)) (by (with_reducible repeat (first | refine blk_drewN ?_ _ | refine blk_drew ?_ | refine blk_alloc ?_ _)); exact BK570.out)) : gb571 ≠ gb570)); clear BK570; clear HB; have BK570 := n0_; have HB := n1_; have BK571 := n2_; have GW571 := n3_; have GE571 := n4_; have NB570_571 := n5_; have NB571_570 := n6_; clear n0_ n1_ n2_ n3_ n4_ n5_ n6_; clear hb hbox hg; have hnb8 := NB570_571.out; have hnc8 := NB571_570.out; have hcz9_0 : w7.cell? ⟨gb570, 0, none⟩ = some (.int .u64 a0_0) := (blk_cell BK570.out 0).trans rfl; have hcz9_1 : w7.cell? ⟨gb570, 1, none⟩ = some (.int .u64 a0_1) := (blk_cell BK570.out 1).trans rfl; have hfz9_0 := blk_frozen BK570.out 0; have hfz9_1 := blk_frozen BK570.out 1; have hcz10_0 : w7.cell? ⟨gb571, 0, none⟩ = some (.int .u64 a1_0) := (blk_cell BK571.out 0).trans rfl; have hcz10_1 : w7.cell? ⟨gb571, 1, none⟩ = some (.int .u64 a1_1) := (blk_cell BK571.out 1).trans rfl; have hfz10_0 := blk_frozen BK571.out 0; have hfz10_1 := blk_frozen BK571.out 1) | ((with_reducible refine gate_callee (f := 116) rfl ?_); refine goesL_ (some 10) rfl rfl Tryd.func116 (by kernel_rfl) rfl #[.int .u64 a0_0, .int .u64 a1_0] rfl (by (try simp only [List.map_toArray, List.map_cons, List.map_nil]); first | done | rfl | (simp only [List.length_drop, List.length_take]; rfl)) ?_; (with_reducible refine (wide_order.calls a0_0 a1_0 t572 _ A3.out).mono ?_); rintro e w' ⟨rfl, ⟨nd, rfl⟩⟩; refine ⟨_, rfl, ?_⟩) | ((with_reducible refine gate_callee (f := 116) rfl ?_); refine goesL_ (some 18) rfl rfl Tryd.func116 (by kernel_rfl) rfl #[.int .u64 a0_1, .int .u64 a1_1] rfl (by (try simp only [List.map_toArray, List.map_cons, List.map_nil]); first | done | rfl | (simp only [List.length_drop, List.length_take]; rfl)) ?_; (with_reducible refine (wide_order.calls a0_1 a1_1 t573 _ A5.out).mono ?_); rintro e w' ⟨rfl, ⟨nd, rfl⟩⟩; refine ⟨_, rfl, ?_⟩))
  go_ret
  exact ⟨by first | rfl | (simp [errW_none, errW_some] <;> rfl) | (simp [*, errW_none, errW_some] <;> rfl), by repeat (first | (with_reducible first | exact HB.out | apply below_alloc | apply pw_below_drewN | apply below_drew1 | refine below_set ?_ GE570.out | refine below_set ?_ GE571.out) | exact HB.out)⟩
 ·rw [if_neg c4] at H
  have c4b0 : (t572 == 0) = false := beq_eq_false_iff_ne.mpr c4
  have c4b1 : (t572 != 0) = true := bne_iff_ne.mpr c4
  obtain rfl := Option.some.inj H
  go_enter Tryd.func62, Tryd.ntmps62
  go_wp2_with (first | ((with_reducible refine gate_dst (N := 2) rfl ?_); refine box_event ?hg (N := 2) ?hd (cs := #[.int .u64 a0_0, .int .u64 a0_1]) (t := 68) ?hr ?_; (case hd => rfl); (case hg => rfl); (case hr => first | (go_simp; done) | (go_simp; rfl)); intro gb570 hg w11 hbox hb; have n0_ := Aside0.mk (below_step (by repeat (first | (with_reducible first | exact HB.out | apply below_alloc | apply pw_below_drewN | apply below_drew1) | exact HB.out)) hb); have n1_ := Aside0.mk (hbox); have n2_ := Aside0.mk ((by rw [hg]; exact (below_size (by repeat (first | (with_reducible first | exact HB.out | apply below_alloc | apply pw_below_drewN | apply below_drew1) | exact HB.out))) : w.heap.size ≤ gb570)); have n3_ := Aside0.mk ((by rw [hg]; exact (below_size (by repeat (first | (with_reducible first | exact HB.out | apply below_alloc | apply pw_below_drewN | apply below_drew1) | exact HB.out))) : w.heap.size ≤ gb570)); clear HB; have HB := n0_; have BK570 := n1_; have GW570 := n2_; have GE570 := n3_; clear n0_ n1_ n2_ n3_; clear hb hbox hg) | ((with_reducible refine gate_dst (N := 3) rfl ?_); refine box_event ?hg (N := 3) ?hd (cs := #[.int .u64 a1_0, .int .u64 a1_1]) (t := 68) ?hr ?_; (case hd => rfl); (case hg => rfl); (case hr => first | (go_simp; done) | (go_simp; rfl)); intro gb571 hg w12 hbox hb; have n0_ := Aside0.mk (blk_below (g := gb570) (o := .cells #[.int .u64 a0_0, .int .u64 a0_1] 68 (0, 0)) (by (with_reducible repeat (first | refine blk_drewN ?_ _ | refine blk_drew ?_ | refine blk_alloc ?_ _)); exact BK570.out) hb); have n1_ := Aside0.mk (below_step (by repeat (first | (with_reducible first | exact HB.out | apply below_alloc | apply pw_below_drewN | apply below_drew1 | refine below_set ?_ GE570.out) | exact HB.out)) hb); have n2_ := Aside0.mk (hbox); have n3_ := Aside0.mk ((by rw [hg]; exact (below_size (by repeat (first | (with_reducible first | exact HB.out | apply below_alloc | apply pw_below_drewN | apply below_drew1 | refine below_set ?_ GE570.out) | exact HB.out))) : w.heap.size ≤ gb571)); have n4_ := Aside0.mk ((by rw [hg]; exact (below_size (by repeat (first | (with_reducible first | exact HB.out | apply below_alloc | apply pw_below_drewN | apply below_drew1 | refine below_set ?_ GE570.out) | exact HB.out))) : w.heap.size ≤ gb571)); have n5_ := Aside0.mk ((by rw [hg]; exact Nat.ne_of_lt (blk_lt (g := gb570) (o := .cells #[.int .u64 a0_0, .int .u64 a0_1] 68 (0, 0)) (by (with_reducible repeat (first | refine blk_drewN ?_ _ | refine blk_drew ?_ | refine blk_alloc ?_ _)); exact BK570.out)) : gb570 ≠ gb571)); have n6_ := Aside0.mk ((by rw [hg]; exact Nat.ne_of_gt (blk_lt (g := gb570) (o := .cells #[.int .u64 a0_0, .int .u64 a0_1] 68 (0, 0)) (by (with_reducible repeat (first | refine blk_drewN ?_ _ | refine blk_drew ?_ | refine blk_alloc ?_ _)); exact BK570.out)) : gb571 ≠ gb570)); clear BK570; clear HB; have BK570 := n0_; have HB := n1_; have BK571 := n2_; have GW571 := n3_; have GE571 := n4_; have NB570_571 := n5_; have NB571_570 := n6_; clear n0_ n1_ n2_ n3_ n4_ n5_ n6_; clear hb hbox hg; have hnb13 := NB570_571.out; have hnc13 := NB571_570.out; have hcz14_0 : w12.cell? ⟨gb570, 0, none⟩ = some (.int .u64 a0_0) := (blk_cell BK570.out 0).trans rfl; have hcz14_1 : w12.cell? ⟨gb570, 1, none⟩ = some (.int .u64 a0_1) := (blk_cell BK570.out 1).trans rfl; have hfz14_0 := blk_frozen BK570.out 0; have hfz14_1 := blk_frozen BK570.out 1; have hcz15_0 : w12.cell? ⟨gb571, 0, none⟩ = some (.int .u64 a1_0) := (blk_cell BK571.out 0).trans rfl; have hcz15_1 : w12.cell? ⟨gb571, 1, none⟩ = some (.int .u64 a1_1) := (blk_cell BK571.out 1).trans rfl; have hfz15_0 := blk_frozen BK571.out 0; have hfz15_1 := blk_frozen BK571.out 1) | ((with_reducible refine gate_callee (f := 116) rfl ?_); refine goesL_ (some 10) rfl rfl Tryd.func116 (by kernel_rfl) rfl #[.int .u64 a0_0, .int .u64 a1_0] rfl (by (try simp only [List.map_toArray, List.map_cons, List.map_nil]); first | done | rfl | (simp only [List.length_drop, List.length_take]; rfl)) ?_; (with_reducible refine (wide_order.calls a0_0 a1_0 t572 _ A3.out).mono ?_); rintro e w' ⟨rfl, ⟨nd, rfl⟩⟩; refine ⟨_, rfl, ?_⟩))
  go_ret
  exact ⟨by first | rfl | (simp [errW_none, errW_some] <;> rfl) | (simp [*, errW_none, errW_some] <;> rfl), by repeat (first | (with_reducible first | exact HB.out | apply below_alloc | apply pw_below_drewN | apply below_drew1 | refine below_set ?_ GE570.out | refine below_set ?_ GE571.out) | exact HB.out)⟩
end Go.Proofs.YtakickbnjbedfaaDoor.PA
end
section
namespace Go.Proofs.YtakickbnjbedfaaDoor.PA
open Go.RowKit Go.Proofs.YtakickbnjbedfaaDoorW.PrintWords Go.Proofs.YtakickbnjbedfaaDoorW.PrintLast Go.Proofs.YtakickbnjbedfaaDoorW.PrintMore
attribute [local go_sem] max2_int min2_int max_two min_two
set_option linter.unusedVariables false
set_option linter.unusedSimpArgs false
def cmp_Or_int.l0 : Nat → Int → List Int → Int → Int → Option (Int)
 | 0, _, _, _, _ => none
 | k + 1, x3, x6, x7, x8 => if x8 < x7 then (if 0 ≤ x8 then (if x8 < (x6.length : Int) then (if (rd x6 x8) = x3 then (cmp_Or_int.l0 k x3 x6 x7 (wrap64 (x8 + 1))) else (some (rd x6 x8))) else (none)) else (none)) else (some x3)
def cmp_Or_int.f (k : Nat) (l0 : List Int) : Option (Int) := cmp_Or_int.l0 k 0 l0 (l0.length : Int) 0
theorem cmp_Or_int.mono_l : ∀ k, (∀ y0 y1 y2 y3, LeO (cmp_Or_int.l0 k y0 y1 y2 y3) (cmp_Or_int.l0 (k + 1) y0 y1 y2 y3))
 | 0 => fun _ _ _ _ r h => by simp [cmp_Or_int.l0] at h
 | k + 1 => by
  have ih0 := cmp_Or_int.mono_l k
  ·intro y0 y1 y2 y3
   unfold cmp_Or_int.l0
   repeat' first
   | (with_reducible exact ih0 _ _ _ _)
   | (with_reducible exact LeO.refl _)
   | (with_reducible exact LeO.none _)
   | (with_reducible refine LeO.ite ?_ ?_)
   | (with_reducible refine LeO.bind ?_ (fun _ => ?_))
   | exact ih0 _ _ _ _
   | exact LeO.none _
   | refine LeO.ite ?_ ?_
   | refine LeO.bind ?_ (fun _ => ?_)
theorem cmp_Or_int.mono : ∀ a0 k, LeO (cmp_Or_int.f k a0) (cmp_Or_int.f (k + 1) a0) := by
 intro a0 k
 have ih0 := cmp_Or_int.mono_l k
 unfold cmp_Or_int.f
 repeat' first
   | (with_reducible exact ih0 _ _ _ _)
   | (with_reducible exact LeO.refl _)
   | (with_reducible exact LeO.none _)
   | (with_reducible refine LeO.ite ?_ ?_)
   | (with_reducible refine LeO.bind ?_ (fun _ => ?_))
   | exact ih0 _ _ _ _
   | exact LeO.none _
   | refine LeO.ite ?_ ?_
   | refine LeO.bind ?_ (fun _ => ?_)
set_option maxHeartbeats 8000000 in
set_option maxRecDepth 100000 in
theorem cmp_Or_int.calls (k : Nat) (A0 : Option Addr) (c0 : Nat) (l0 : List Int) (r : Int) (w : World) (hr0 : Kd.C (Kd.int .i64) w A0 l0.length l0) (hc0 : l0.length ≤ c0) (h : cmp_Or_int.f k l0 = some r) :
  Calls Tryd.prog 88 #[.slice A0 l0.length c0] w fun e w' => e = .returned (.int .i64 r) ∧ Drawn0 w w' := by
 have HR0 := Aside0.mk hr0
 have HC0 := Aside0.mk hc0
 clear hr0 hc0
 have H : (cmp_Or_int.l0 k 0 l0 (l0.length : Int) 0) = some r := h
 clear h
 have H' := Aside0.mk H
 clear H
 go_enter Tryd.func88, Tryd.ntmps88
 go_wp2
 go_loopg [8] k (fun kq v8 w' => ∃ (x8_1 : Int), v8 = .int .i64 x8_1 ∧ Aside0 (cmp_Or_int.l0 kq 0 l0 (l0.length : Int) x8_1 = some r) ∧ Aside0 (kq ≤ k) ∧ Drawn0 w w')
 case atStart => exact ⟨(0), (by first | rfl | (simp; done) | (simp [*]; done)), H', ⟨Nat.le_refl _⟩, by repeat (first | exact Drawn0.refl _ | apply Drawn0.step)⟩
 case round =>
  clear H'
  obtain ⟨x8_1, rfl, HA, HK1, ⟨m1, rfl⟩⟩ := hrel
  cases gk with
  | zero => exact absurd HA.out (by simp [cmp_Or_int.l0])
  | succ k1 =>
   have H := HA.out
   clear HA
   simp only [cmp_Or_int.l0] at H
   by_cases c2 : x8_1 < (l0.length : Int)
   ·rw [if_pos c2] at H
    have c2b0 : decide (x8_1 < (l0.length : Int)) = true := decide_eq_true c2
    clear c2
    by_cases c3 : 0 ≤ x8_1
    ·rw [if_pos c3] at H
     have c3b0 : decide (0 ≤ x8_1) = true := decide_eq_true c3
     clear c3
     by_cases c4 : x8_1 < (l0.length : Int)
     ·rw [if_pos c4] at H
      have c4b0 : decide (x8_1 < (l0.length : Int)) = true := decide_eq_true c4
      clear c4
      by_cases c5 : (rd l0 x8_1) = 0
      ·rw [if_pos c5] at H
       have c5b0 : ((rd l0 x8_1) == 0) = true := beq_iff_eq.mpr c5
       have c5b1 : ((rd l0 x8_1) != 0) = false := bne_eq_false_iff_eq.mpr c5
       clear c5
       have H' := Aside0.mk H
       clear H
       have p574 : 0 ≤ (x8_1 : Int) := of_decide_eq_true (by first | (with_reducible assumption) | assumption)
       have q574 : x8_1 < (l0.length : Int) := of_decide_eq_true (by first | (with_reducible assumption) | assumption)
       obtain ⟨ad574, e574, hx574_0⟩ := Kd.at_int HR0.out x8_1 p574 q574
       cases e574
       replace p574 := eq_true p574
       replace q574 := eq_true q574
       go_wp2
       go_roundg k1
       case measure => have := HK1.out; omega
       case rel => exact ⟨(wrap64 (x8_1 + 1)), (by first | rfl | (simp; done) | (simp [*]; done)), H', ⟨by have := HK1.out; omega⟩, by repeat (first | exact Drawn0.refl _ | apply Drawn0.step)⟩
      ·rw [if_neg c5] at H
       have c5b0 : ((rd l0 x8_1) == 0) = false := beq_eq_false_iff_ne.mpr c5
       have c5b1 : ((rd l0 x8_1) != 0) = true := bne_iff_ne.mpr c5
       obtain rfl := Option.some.inj H
       have p574 : 0 ≤ (x8_1 : Int) := of_decide_eq_true (by first | (with_reducible assumption) | assumption)
       have q574 : x8_1 < (l0.length : Int) := of_decide_eq_true (by first | (with_reducible assumption) | assumption)
       obtain ⟨ad574, e574, hx574_0⟩ := Kd.at_int HR0.out x8_1 p574 q574
       cases e574
       replace p574 := eq_true p574
       replace q574 := eq_true q574
       go_wp2
       go_ret
       exact ⟨by first | rfl | (simp; done) | (simp [*]; done), by repeat (first | exact Drawn0.refl _ | apply Drawn0.step)⟩
     ·rw [if_neg c4] at H
      exact absurd H (by simp)
    ·rw [if_neg c3] at H
     exact absurd H (by simp)
   ·rw [if_neg c2] at H
    have c2b0 : decide (x8_1 < (l0.length : Int)) = false := decide_eq_false c2
    clear c2
    obtain rfl := Option.some.inj H
    go_wp2
    go_ret
    exact ⟨by first | rfl | (simp; done) | (simp [*]; done), by repeat (first | exact Drawn0.refl _ | apply Drawn0.step)⟩
end Go.Proofs.YtakickbnjbedfaaDoor.PA
end
