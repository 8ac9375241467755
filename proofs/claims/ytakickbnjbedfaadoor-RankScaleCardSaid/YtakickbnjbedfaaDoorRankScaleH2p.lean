/- Part of the proof of Card. -/
import Derived.Test.YtakickbnjbedfaaDoorRankScaleP2
import Derived.Test.YtakickbnjbedfaaDoorRankScaleH1
import Derived.Test.YtakickbnjbedfaaDoorRankScaleP0
namespace Go.Proofs.YtakickbnjbedfaaDoor.PB
open Go.Proofs.YtakickbnjbedfaaDoor.PA
open Go.RowKit Go.Proofs.YtakickbnjbedfaaDoorW.PrintWords Go.Proofs.YtakickbnjbedfaaDoorW.PrintLast Go.Proofs.YtakickbnjbedfaaDoorW.PrintMore
attribute [local go_sem] max2_int min2_int max_two min_two
set_option linter.unusedVariables false
set_option linter.unusedSimpArgs false
attribute [local go_sem high] eqA42
def samphirelaw10_awake.f (k : Nat)  : Option (Bool) := (rank_Sort.f k (([(⟨(⟨#[121]⟩ : ByteArray), 5, 2⟩ : S42), (⟨(⟨#[120]⟩ : ByteArray), 6, 3⟩ : S42), (⟨(⟨#[97]⟩ : ByteArray), 4, 2⟩ : S42)] : List (S42)))).bind fun t177 => ((rank_Rank.f k (⟨#[121]⟩ : ByteArray) 5 2).bind fun bt180 => ((rank_Cmp.f k (⟨#[120]⟩ : ByteArray) 6 3 (⟨#[121]⟩ : ByteArray) 5 2).bind fun t188 => (if t188 = (-1) then ((rank_Cmp.f k (⟨#[120]⟩ : ByteArray) 6 3 (⟨#[97]⟩ : ByteArray) 4 2).bind fun t189 => (if t189 = 1 then (if (t177.length : Int) = 3 then (if 0 < (t177.length : Int) then (if ((((rd_T42 t177 0).f0).toList) == ([97] : List UInt8) && (((rd_T42 t177 0).f1) == 4 && (((rd_T42 t177 0).f2) == 2))) = true then (if 2 < (t177.length : Int) then (if ((((rd_T42 t177 2).f0).toList) == ([121] : List UInt8) && (((rd_T42 t177 2).f1) == 5 && (((rd_T42 t177 2).f2) == 2))) = true then ((rat_Text.f bt180.1 bt180.2.1).bind fun t192 => (if t192.toList = ([53, 47, 50] : List UInt8) then (if bt180.2.2 = 0 then ((rank_Check.f (⟨#[]⟩ : ByteArray) 0 0).bind fun t193 => (if t193 = 7 then ((rank_Least.f k t177 2).bind fun t194 => (some ((t194.length : Int) == 2))) else (some false))) else (some false)) else (some false))) else (some false)) else (none)) else (some false)) else (none)) else (some false)) else (some false))) else (some false))))
def samphirelaw10_awake.T4 : Bool × List (List Nat × List Nat) := (true, [([], []), ([], []), ([0, 1], [0, 1]), ([2], [2]), ([3, 2], [3]), ([4], [4]), ([4], [4]), ([5, 6, 4, 4], [4, 5, 6]), ([7, 4], [4, 7]), ([4, 8], [4, 8]), ([9, 7], [9]), ([10], [10]), ([11, 10], [10, 11]), ([12, 10], [10, 12]), ([10, 13], [10, 13]), ([14, 10], [14]), ([15], [15]), ([16, 15], [15, 16]), ([17, 15], [15, 17]), ([15], [15]), ([18, 19, 15], [15, 18, 19]), ([15, 20], [15, 20]), ([21, 15], [21]), ([22], [22]), ([23, 22], [22, 23]), ([24, 22], [22, 24]), ([22], [22]), ([25, 26, 22], [22, 25, 26]), ([22, 27], [22, 27]), ([28, 22], [28]), ([29], [29]), ([30, 29, 29], [29, 30]), ([31, 29], [29, 31]), ([29, 32], [29, 32]), ([33, 31], [33]), ([34], [34]), ([35, 34], [34, 35]), ([34, 36], [34, 36]), ([37, 34], [37]), ([38], [38]), ([39, 38, 38], [38, 39]), ([40, 38], [38, 40]), ([38, 41], [38, 41]), ([42, 40], [42]), ([43], [43]), ([44, 43, 43], [43, 44]), ([45, 43], [43, 45]), ([46, 43], [43, 46]), ([43, 47], [43, 47]), ([48, 45, 0, 1, 2, 3, 4, 5, 6, 7, 8, 9, 10, 11, 12, 13, 14, 15, 16, 17, 18, 19, 20, 21, 22, 23, 24, 25, 26, 27, 28, 29, 30, 31, 32, 33, 34, 35, 36, 37, 38, 39, 40, 41, 42, 43, 44, 45, 46, 47, 48], [48])])
def samphirelaw10_awake.B4 : List Nat := [0, 0, 3, 7, 15, 31, 31, 127, 255, 511, 1023, 2047, 4095, 8191, 16383, 32767, 65535, 131071, 262143, 65535, 1048575, 2097151, 4194303, 8388607, 16777215, 33554431, 8388607, 134217727, 268435455, 536870911, 1073741823, 2147483647, 4294967295, 8589934591, 17179869183, 34359738367, 68719476735, 137438953471, 274877906943, 549755813887, 1099511627775, 2199023255551, 4398046511103, 8796093022207, 17592186044415, 35184372088831, 70368744177663, 140737488355327, 281474976710655, 562949953421311]
theorem samphirelaw10_awake.tab4 : rtab .any (opsOf Tryd.f30 4) = samphirelaw10_awake.T4 := by kernel_rfl
theorem samphirelaw10_awake.bits4 : waitsOk samphirelaw10_awake.T4.2 samphirelaw10_awake.B4 = true := by kernel_rfl
set_option maxHeartbeats 8000000 in
set_option maxRecDepth 100000 in
theorem samphirelaw10_awake.calls (k : Nat)  (r : Bool) (w : World) (h : samphirelaw10_awake.f k  = some r) (hr : r = true) :
  Calls Tryd.prog 30 #[] w fun e w' => e = .returned (.bool r) ∧ Below w.heap.size w w' := by
 have hu42 := Tryd.underlying42
 have hu25 := Tryd.underlying25
 have HB := Aside0.mk (Below.refl w.heap.size w)
 have H : ((rank_Sort.f k (([(⟨(⟨#[121]⟩ : ByteArray), 5, 2⟩ : S42), (⟨(⟨#[120]⟩ : ByteArray), 6, 3⟩ : S42), (⟨(⟨#[97]⟩ : ByteArray), 4, 2⟩ : S42)] : List (S42)))).bind fun t177 => ((rank_Rank.f k (⟨#[121]⟩ : ByteArray) 5 2).bind fun bt180 => ((rank_Cmp.f k (⟨#[120]⟩ : ByteArray) 6 3 (⟨#[121]⟩ : ByteArray) 5 2).bind fun t188 => (if t188 = (-1) then ((rank_Cmp.f k (⟨#[120]⟩ : ByteArray) 6 3 (⟨#[97]⟩ : ByteArray) 4 2).bind fun t189 => (if t189 = 1 then (if (t177.length : Int) = 3 then (if 0 < (t177.length : Int) then (if ((((rd_T42 t177 0).f0).toList) == ([97] : List UInt8) && (((rd_T42 t177 0).f1) == 4 && (((rd_T42 t177 0).f2) == 2))) = true then (if 2 < (t177.length : Int) then (if ((((rd_T42 t177 2).f0).toList) == ([121] : List UInt8) && (((rd_T42 t177 2).f1) == 5 && (((rd_T42 t177 2).f2) == 2))) = true then ((rat_Text.f bt180.1 bt180.2.1).bind fun t192 => (if t192.toList = ([53, 47, 50] : List UInt8) then (if bt180.2.2 = 0 then ((rank_Check.f (⟨#[]⟩ : ByteArray) 0 0).bind fun t193 => (if t193 = 7 then ((rank_Least.f k t177 2).bind fun t194 => (some ((t194.length : Int) == 2))) else (some false))) else (some false)) else (some false))) else (some false)) else (none)) else (some false)) else (none)) else (some false)) else (some false))) else (some false))))) = some r := h
 clear h
 obtain ⟨y174, hy174⟩ : ∃ y_ : List (S42), y_ = (([(⟨(⟨#[121]⟩ : ByteArray), 5, 2⟩ : S42), (⟨(⟨#[120]⟩ : ByteArray), 6, 3⟩ : S42), (⟨(⟨#[97]⟩ : ByteArray), 4, 2⟩ : S42)] : List (S42))) := ⟨_, rfl⟩
 replace H : ((rank_Sort.f k y174).bind fun t177 => ((rank_Rank.f k (⟨#[121]⟩ : ByteArray) 5 2).bind fun bt180 => ((rank_Cmp.f k (⟨#[120]⟩ : ByteArray) 6 3 (⟨#[121]⟩ : ByteArray) 5 2).bind fun t188 => (if t188 = (-1) then ((rank_Cmp.f k (⟨#[120]⟩ : ByteArray) 6 3 (⟨#[97]⟩ : ByteArray) 4 2).bind fun t189 => (if t189 = 1 then (if (t177.length : Int) = 3 then (if 0 < (t177.length : Int) then (if ((((rd_T42 t177 0).f0).toList) == ([97] : List UInt8) && (((rd_T42 t177 0).f1) == 4 && (((rd_T42 t177 0).f2) == 2))) = true then (if 2 < (t177.length : Int) then (if ((((rd_T42 t177 2).f0).toList) == ([121] : List UInt8) && (((rd_T42 t177 2).f1) == 5 && (((rd_T42 t177 2).f2) == 2))) = true then ((rat_Text.f bt180.1 bt180.2.1).bind fun t192 => (if t192.toList = ([53, 47, 50] : List UInt8) then (if bt180.2.2 = 0 then ((rank_Check.f (⟨#[]⟩ : ByteArray) 0 0).bind fun t193 => (if t193 = 7 then ((rank_Least.f k t177 2).bind fun t194 => (some ((t194.length : Int) == 2))) else (some false))) else (some false)) else (some false))) else (some false)) else (none)) else (some false)) else (none)) else (some false)) else (some false))) else (some false))))) = some r := by first | (rw [hy174]; with_reducible exact H) | (have H2_ := (Option.bind_some _ _).symm.trans H; rw [hy174]; with_reducible exact H2_) | (have H2_ := (Option.bind_some _ _).symm.trans H; with_reducible exact H2_) | with_reducible exact H | (rw [hy174]; exact H) | exact H
 have Ny174 := Aside0.mk hy174
 clear hy174
 replace H := Option.bind_eq_some_iff.mp H
 obtain ⟨t177, A10, H⟩ := H
 replace H : ((rank_Rank.f k (⟨#[121]⟩ : ByteArray) 5 2).bind fun bt180 => ((rank_Cmp.f k (⟨#[120]⟩ : ByteArray) 6 3 (⟨#[121]⟩ : ByteArray) 5 2).bind fun t188 => (if t188 = (-1) then ((rank_Cmp.f k (⟨#[120]⟩ : ByteArray) 6 3 (⟨#[97]⟩ : ByteArray) 4 2).bind fun t189 => (if t189 = 1 then (if (t177.length : Int) = 3 then (if 0 < (t177.length : Int) then (if ((((rd_T42 t177 0).f0).toList) == ([97] : List UInt8) && (((rd_T42 t177 0).f1) == 4 && (((rd_T42 t177 0).f2) == 2))) = true then (if 2 < (t177.length : Int) then (if ((((rd_T42 t177 2).f0).toList) == ([121] : List UInt8) && (((rd_T42 t177 2).f1) == 5 && (((rd_T42 t177 2).f2) == 2))) = true then ((rat_Text.f bt180.1 bt180.2.1).bind fun t192 => (if t192.toList = ([53, 47, 50] : List UInt8) then (if bt180.2.2 = 0 then ((rank_Check.f (⟨#[]⟩ : ByteArray) 0 0).bind fun t193 => (if t193 = 7 then ((rank_Least.f k t177 2).bind fun t194 => (some ((t194.length : Int) == 2))) else (some false))) else (some false)) else (some false))) else (some false)) else (none)) else (some false)) else (none)) else (some false)) else (some false))) else (some false)))) = some r := H
 have A1 := Aside0.mk A10
 clear A10
 replace H := Option.bind_eq_some_iff.mp H
 obtain ⟨⟨t180, t183, t186⟩, A20, H⟩ := H
 replace H : ((rank_Cmp.f k (⟨#[120]⟩ : ByteArray) 6 3 (⟨#[121]⟩ : ByteArray) 5 2).bind fun t188 => (if t188 = (-1) then ((rank_Cmp.f k (⟨#[120]⟩ : ByteArray) 6 3 (⟨#[97]⟩ : ByteArray) 4 2).bind fun t189 => (if t189 = 1 then (if (t177.length : Int) = 3 then (if 0 < (t177.length : Int) then (if ((((rd_T42 t177 0).f0).toList) == ([97] : List UInt8) && (((rd_T42 t177 0).f1) == 4 && (((rd_T42 t177 0).f2) == 2))) = true then (if 2 < (t177.length : Int) then (if ((((rd_T42 t177 2).f0).toList) == ([121] : List UInt8) && (((rd_T42 t177 2).f1) == 5 && (((rd_T42 t177 2).f2) == 2))) = true then ((rat_Text.f t180 t183).bind fun t192 => (if t192.toList = ([53, 47, 50] : List UInt8) then (if t186 = 0 then ((rank_Check.f (⟨#[]⟩ : ByteArray) 0 0).bind fun t193 => (if t193 = 7 then ((rank_Least.f k t177 2).bind fun t194 => (some ((t194.length : Int) == 2))) else (some false))) else (some false)) else (some false))) else (some false)) else (none)) else (some false)) else (none)) else (some false)) else (some false))) else (some false))) = some r := H
 have A2 := Aside0.mk A20
 clear A20
 replace H := Option.bind_eq_some_iff.mp H
 obtain ⟨t188, A30, H⟩ := H
 replace H : (if t188 = (-1) then ((rank_Cmp.f k (⟨#[120]⟩ : ByteArray) 6 3 (⟨#[97]⟩ : ByteArray) 4 2).bind fun t189 => (if t189 = 1 then (if (t177.length : Int) = 3 then (if 0 < (t177.length : Int) then (if ((((rd_T42 t177 0).f0).toList) == ([97] : List UInt8) && (((rd_T42 t177 0).f1) == 4 && (((rd_T42 t177 0).f2) == 2))) = true then (if 2 < (t177.length : Int) then (if ((((rd_T42 t177 2).f0).toList) == ([121] : List UInt8) && (((rd_T42 t177 2).f1) == 5 && (((rd_T42 t177 2).f2) == 2))) = true then ((rat_Text.f t180 t183).bind fun t192 => (if t192.toList = ([53, 47, 50] : List UInt8) then (if t186 = 0 then ((rank_Check.f (⟨#[]⟩ : ByteArray) 0 0).bind fun t193 => (if t193 = 7 then ((rank_Least.f k t177 2).bind fun t194 => (some ((t194.length : Int) == 2))) else (some false))) else (some false)) else (some false))) else (some false)) else (none)) else (some false)) else (none)) else (some false)) else (some false))) else (some false)) = some r := H
 have A3 := Aside0.mk A30
 clear A30
 by_cases c4 : t188 = (-1)
 ·rw [if_pos c4] at H
  have c4b0 : (t188 == (-1)) = true := beq_iff_eq.mpr c4
  have c4b1 : (t188 != (-1)) = false := bne_eq_false_iff_eq.mpr c4
  clear c4
  replace H := Option.bind_eq_some_iff.mp H
  obtain ⟨t189, A50, H⟩ := H
  replace H : (if t189 = 1 then (if (t177.length : Int) = 3 then (if 0 < (t177.length : Int) then (if ((((rd_T42 t177 0).f0).toList) == ([97] : List UInt8) && (((rd_T42 t177 0).f1) == 4 && (((rd_T42 t177 0).f2) == 2))) = true then (if 2 < (t177.length : Int) then (if ((((rd_T42 t177 2).f0).toList) == ([121] : List UInt8) && (((rd_T42 t177 2).f1) == 5 && (((rd_T42 t177 2).f2) == 2))) = true then ((rat_Text.f t180 t183).bind fun t192 => (if t192.toList = ([53, 47, 50] : List UInt8) then (if t186 = 0 then ((rank_Check.f (⟨#[]⟩ : ByteArray) 0 0).bind fun t193 => (if t193 = 7 then ((rank_Least.f k t177 2).bind fun t194 => (some ((t194.length : Int) == 2))) else (some false))) else (some false)) else (some false))) else (some false)) else (none)) else (some false)) else (none)) else (some false)) else (some false)) = some r := H
  have A5 := Aside0.mk A50
  clear A50
  by_cases c6 : t189 = 1
  ·rw [if_pos c6] at H
   have c6b0 : (t189 == 1) = true := beq_iff_eq.mpr c6
   have c6b1 : (t189 != 1) = false := bne_eq_false_iff_eq.mpr c6
   clear c6
   by_cases c7 : (t177.length : Int) = 3
   ·rw [if_pos c7] at H
    have c7b0 : ((t177.length : Int) == 3) = true := beq_iff_eq.mpr c7
    have c7b1 : ((t177.length : Int) != 3) = false := bne_eq_false_iff_eq.mpr c7
    clear c7
    by_cases c8 : 0 < (t177.length : Int)
    ·rw [if_pos c8] at H
     have c8b0 : decide (0 < (t177.length : Int)) = true := decide_eq_true c8
     have c8b1 : decide (0 < t177.length) = true := decide_eq_true (by omega)
     clear c8
     by_cases c9 : ((((rd_T42 t177 0).f0).toList) == ([97] : List UInt8) && (((rd_T42 t177 0).f1) == 4 && (((rd_T42 t177 0).f2) == 2))) = true
     ·rw [if_pos c9] at H
      have c9b0 : ((((rd_T42 t177 0).f0).toList) == ([97] : List UInt8) && (((rd_T42 t177 0).f1) == 4 && (((rd_T42 t177 0).f2) == 2))) = true := c9
      (try (have c9b1 : decide ((((rd_T42 t177 0).f0).toList) = ([97] : List UInt8) && (((rd_T42 t177 0).f1) == 4 && (((rd_T42 t177 0).f2) == 2))) = true := by simpa using c9))
      (try (have c9b2 : ((((rd_T42 t177 0).f0).toList) == ([97] : List UInt8) && (((rd_T42 t177 0).f1) == 4 && (((rd_T42 t177 0).f2) == 2))) = true := by simpa using c9))
      clear c9
      by_cases c10 : 2 < (t177.length : Int)
      ·rw [if_pos c10] at H
       have c10b0 : decide (2 < (t177.length : Int)) = true := decide_eq_true c10
       have c10b1 : decide (2 < t177.length) = true := decide_eq_true (by omega)
       clear c10
       by_cases c11 : ((((rd_T42 t177 2).f0).toList) == ([121] : List UInt8) && (((rd_T42 t177 2).f1) == 5 && (((rd_T42 t177 2).f2) == 2))) = true
       ·rw [if_pos c11] at H
        have c11b0 : ((((rd_T42 t177 2).f0).toList) == ([121] : List UInt8) && (((rd_T42 t177 2).f1) == 5 && (((rd_T42 t177 2).f2) == 2))) = true := c11
        (try (have c11b1 : decide ((((rd_T42 t177 2).f0).toList) = ([121] : List UInt8) && (((rd_T42 t177 2).f1) == 5 && (((rd_T42 t177 2).f2) == 2))) = true := by simpa using c11))
        (try (have c11b2 : ((((rd_T42 t177 2).f0).toList) == ([121] : List UInt8) && (((rd_T42 t177 2).f1) == 5 && (((rd_T42 t177 2).f2) == 2))) = true := by simpa using c11))
        clear c11
        replace H := Option.bind_eq_some_iff.mp H
        obtain ⟨t192, A120, H⟩ := H
        replace H : (if t192.toList = ([53, 47, 50] : List UInt8) then (if t186 = 0 then ((rank_Check.f (⟨#[]⟩ : ByteArray) 0 0).bind fun t193 => (if t193 = 7 then ((rank_Least.f k t177 2).bind fun t194 => (some ((t194.length : Int) == 2))) else (some false))) else (some false)) else (some false)) = some r := H
        have A12 := Aside0.mk A120
        clear A120
        by_cases c13 : t192.toList = ([53, 47, 50] : List UInt8)
        ·rw [if_pos c13] at H
         have c13b0 : (t192.toList == ([53, 47, 50] : List UInt8)) = true := beq_iff_eq.mpr c13
         have c13b1 : (t192.toList != ([53, 47, 50] : List UInt8)) = false := bne_eq_false_iff_eq.mpr c13
         clear c13
         by_cases c14 : t186 = 0
         ·rw [if_pos c14] at H
          have c14b0 : (t186 == 0) = true := beq_iff_eq.mpr c14
          have c14b1 : (t186 != 0) = false := bne_eq_false_iff_eq.mpr c14
          clear c14
          replace H := Option.bind_eq_some_iff.mp H
          obtain ⟨t193, A150, H⟩ := H
          replace H : (if t193 = 7 then ((rank_Least.f k t177 2).bind fun t194 => (some ((t194.length : Int) == 2))) else (some false)) = some r := H
          have A15 := Aside0.mk A150
          clear A150
          by_cases c16 : t193 = 7
          ·rw [if_pos c16] at H
           have c16b0 : (t193 == 7) = true := beq_iff_eq.mpr c16
           have c16b1 : (t193 != 7) = false := bne_eq_false_iff_eq.mpr c16
           clear c16
           replace H := Option.bind_eq_some_iff.mp H
           obtain ⟨t194, A170, H⟩ := H
           replace H : (some ((t194.length : Int) == 2)) = some r := H
           have A17 := Aside0.mk A170
           clear A170
           obtain rfl := Option.some.inj H
           go_enter Tryd.func30, Tryd.ntmps30
           try go_wp2_with (first | ((with_reducible refine gate_dst (N := 1) rfl ?_); (try (refine gate_guard (by rfl) ?_; dsimp only)); refine box_event ?hg (N := 1) ?hd (cs := #[.string (⟨#[]⟩ : ByteArray), .int .u64 0, .int .u64 0]) (t := 42) ?hr ?_; (case hd => rfl); (case hg => rfl); (case hr => first | (go_simp; done) | (go_simp; rfl)); intro gb171 hg w18 hbox hb; have n0_ := Aside0.mk (below_step (by repeat (first | (with_reducible first | exact HB.out | apply below_alloc | apply pw_below_drewN | apply below_drew1) | exact HB.out)) hb); have n1_ := Aside0.mk (hbox); have n2_ := Aside0.mk ((by rw [hg]; exact (below_size (by repeat (first | (with_reducible first | exact HB.out | apply below_alloc | apply pw_below_drewN | apply below_drew1) | exact HB.out))) : w.heap.size ≤ gb171)); have n3_ := Aside0.mk ((by rw [hg]; exact (below_size (by repeat (first | (with_reducible first | exact HB.out | apply below_alloc | apply pw_below_drewN | apply below_drew1) | exact HB.out))) : w.heap.size ≤ gb171)); clear HB; have HB := n0_; have BK171 := n1_; have GW171 := n2_; have GE171 := n3_; clear n0_ n1_ n2_ n3_; clear hb hbox hg) | ((with_reducible refine gate_dst (N := 2) rfl ?_); (try (refine gate_guard (by rfl) ?_; dsimp only)); refine box_event ?hg (N := 2) ?hd (cs := #[.string (⟨#[]⟩ : ByteArray), .int .u64 0, .int .u64 0]) (t := 42) ?hr ?_; (case hd => rfl); (case hg => rfl); (case hr => first | (go_simp; done) | (go_simp; rfl)); intro gb172 hg w19 hbox hb; have n0_ := Aside0.mk (blk_below (g := gb171) (o := .cells #[.string (⟨#[]⟩ : ByteArray), .int .u64 0, .int .u64 0] 42 (0, 0)) (by (with_reducible repeat (first | refine blk_drewN ?_ _ | refine blk_drew ?_ | refine blk_alloc ?_ _)); exact BK171.out) hb); have n1_ := Aside0.mk (below_step (by repeat (first | (with_reducible first | exact HB.out | apply below_alloc | apply pw_below_drewN | apply below_drew1 | refine below_set ?_ GE171.out) | exact HB.out)) hb); have n2_ := Aside0.mk (hbox); have n3_ := Aside0.mk ((by rw [hg]; exact (below_size (by repeat (first | (with_reducible first | exact HB.out | apply below_alloc | apply pw_below_drewN | apply below_drew1 | refine below_set ?_ GE171.out) | exact HB.out))) : w.heap.size ≤ gb172)); have n4_ := Aside0.mk ((by rw [hg]; exact (below_size (by repeat (first | (with_reducible first | exact HB.out | apply below_alloc | apply pw_below_drewN | apply below_drew1 | refine below_set ?_ GE171.out) | exact HB.out))) : w.heap.size ≤ gb172)); have n5_ := Aside0.mk ((by rw [hg]; exact Nat.ne_of_lt (blk_lt (g := gb171) (o := .cells #[.string (⟨#[]⟩ : ByteArray), .int .u64 0, .int .u64 0] 42 (0, 0)) (by (with_reducible repeat (first | refine blk_drewN ?_ _ | refine blk_drew ?_ | refine blk_alloc ?_ _)); exact BK171.out)) : gb171 ≠ gb172)); have n6_ := Aside0.mk ((by rw [hg]; exact Nat.ne_of_gt (blk_lt (g := gb171) (o := .cells #[.string (⟨#[]⟩ : ByteArray), .int .u64 0, .int .u64 0] 42 (0, 0)) (by (with_reducible repeat (first | refine blk_drewN ?_ _ | refine blk_drew ?_ | refine blk_alloc ?_ _)); exact BK171.out)) : gb172 ≠ gb171)); clear BK171; clear HB; have BK171 := n0_; have HB := n1_; have BK172 := n2_; have GW172 := n3_; have GE172 := n4_; have NB171_172 := n5_; have NB172_171 := n6_; clear n0_ n1_ n2_ n3_ n4_ n5_ n6_; clear hb hbox hg) | ((with_reducible refine gate_dst (N := 3) rfl ?_); (try (refine gate_guard (by rfl) ?_; dsimp only)); refine box_event ?hg (N := 3) ?hd (cs := #[.string (⟨#[]⟩ : ByteArray), .int .u64 0, .int .u64 0]) (t := 42) ?hr ?_; (case hd => rfl); (case hg => rfl); (case hr => first | (go_simp; done) | (go_simp; rfl)); intro gb173 hg w20 hbox hb; have n0_ := Aside0.mk (blk_below (g := gb171) (o := .cells #[.string (⟨#[]⟩ : ByteArray), .int .u64 0, .int .u64 0] 42 (0, 0)) (by (with_reducible repeat (first | refine blk_drewN ?_ _ | refine blk_drew ?_ | refine blk_alloc ?_ _)); exact BK171.out) hb); have n1_ := Aside0.mk (blk_below (g := gb172) (o := .cells #[.string (⟨#[]⟩ : ByteArray), .int .u64 0, .int .u64 0] 42 (0, 0)) (by (with_reducible repeat (first | refine blk_drewN ?_ _ | refine blk_drew ?_ | refine blk_alloc ?_ _)); exact BK172.out) hb); have n2_ := Aside0.mk (below_step (by repeat (first | (with_reducible first | exact HB.out | apply below_alloc | apply pw_below_drewN | apply below_drew1 | refine below_set ?_ GE171.out | refine below_set ?_ GE172.out) | exact HB.out)) hb); have n3_ := Aside0.mk (hbox); have n4_ := Aside0.mk ((by rw [hg]; exact (below_size (by repeat (first | (with_reducible first | exact HB.out | apply below_alloc | apply pw_below_drewN | apply below_drew1 | refine below_set ?_ GE171.out | refine below_set ?_ GE172.out) | exact HB.out))) : w.heap.size ≤ gb173)); have n5_ := Aside0.mk ((by rw [hg]; exact (below_size (by repeat (first | (with_reducible first | exact HB.out | apply below_alloc | apply pw_below_drewN | apply below_drew1 | refine below_set ?_ GE171.out | refine below_set ?_ GE172.out) | exact HB.out))) : w.heap.size ≤ gb173)); have n6_ := Aside0.mk ((by rw [hg]; exact Nat.ne_of_lt (blk_lt (g := gb171) (o := .cells #[.string (⟨#[]⟩ : ByteArray), .int .u64 0, .int .u64 0] 42 (0, 0)) (by (with_reducible repeat (first | refine blk_drewN ?_ _ | refine blk_drew ?_ | refine blk_alloc ?_ _)); exact BK171.out)) : gb171 ≠ gb173)); have n7_ := Aside0.mk ((by rw [hg]; exact Nat.ne_of_gt (blk_lt (g := gb171) (o := .cells #[.string (⟨#[]⟩ : ByteArray), .int .u64 0, .int .u64 0] 42 (0, 0)) (by (with_reducible repeat (first | refine blk_drewN ?_ _ | refine blk_drew ?_ | refine blk_alloc ?_ _)); exact BK171.out)) : gb173 ≠ gb171)); have n8_ := Aside0.mk ((by rw [hg]; exact Nat.ne_of_lt (blk_lt (g := gb172) (o := .cells #[.string (⟨#[]⟩ : ByteArray), .int .u64 0, .int .u64 0] 42 (0, 0)) (by (with_reducible repeat (first | refine blk_drewN ?_ _ | refine blk_drew ?_ | refine blk_alloc ?_ _)); exact BK172.out)) : gb172 ≠ gb173)); have n9_ := Aside0.mk ((by rw [hg]; exact Nat.ne_of_gt (blk_lt (g := gb172) (o := .cells #[.string (⟨#[]⟩ : ByteArray), .int .u64 0, .int .u64 0] 42 (0, 0)) (by (with_reducible repeat (first | refine blk_drewN ?_ _ | refine blk_drew ?_ | refine blk_alloc ?_ _)); exact BK172.out)) : gb173 ≠ gb172)); clear BK171; clear BK172; clear HB; have BK171 := n0_; have BK172 := n1_; have HB := n2_; have BK173 := n3_; have GW173 := n4_; have GE173 := n5_; have NB171_173 := n6_; have NB173_171 := n7_; have NB172_173 := n8_; have NB173_172 := n9_; clear n0_ n1_ n2_ n3_ n4_ n5_ n6_ n7_ n8_ n9_; clear hb hbox hg; have hnb21 := NB171_172.out; have hnc21 := NB172_171.out; have hnb22 := NB171_173.out; have hnc22 := NB173_171.out; have hcz23_0 : w20.cell? ⟨gb171, 0, none⟩ = some (.string (⟨#[]⟩ : ByteArray)) := (blk_cell BK171.out 0).trans rfl; have hcz23_1 : w20.cell? ⟨gb171, 1, none⟩ = some (.int .u64 0) := (blk_cell BK171.out 1).trans rfl; have hcz23_2 : w20.cell? ⟨gb171, 2, none⟩ = some (.int .u64 0) := (blk_cell BK171.out 2).trans rfl; have hfz23_0 := blk_frozen BK171.out 0; have hfz23_1 := blk_frozen BK171.out 1; have hfz23_2 := blk_frozen BK171.out 2; have hnb24 := NB172_173.out; have hnc24 := NB173_172.out; have hcz25_0 : w20.cell? ⟨gb172, 0, none⟩ = some (.string (⟨#[]⟩ : ByteArray)) := (blk_cell BK172.out 0).trans rfl; have hcz25_1 : w20.cell? ⟨gb172, 1, none⟩ = some (.int .u64 0) := (blk_cell BK172.out 1).trans rfl; have hcz25_2 : w20.cell? ⟨gb172, 2, none⟩ = some (.int .u64 0) := (blk_cell BK172.out 2).trans rfl; have hfz25_0 := blk_frozen BK172.out 0; have hfz25_1 := blk_frozen BK172.out 1; have hfz25_2 := blk_frozen BK172.out 2; have hcz26_0 : w20.cell? ⟨gb173, 0, none⟩ = some (.string (⟨#[]⟩ : ByteArray)) := (blk_cell BK173.out 0).trans rfl; have hcz26_1 : w20.cell? ⟨gb173, 1, none⟩ = some (.int .u64 0) := (blk_cell BK173.out 1).trans rfl; have hcz26_2 : w20.cell? ⟨gb173, 2, none⟩ = some (.int .u64 0) := (blk_cell BK173.out 2).trans rfl; have hfz26_0 := blk_frozen BK173.out 0; have hfz26_1 := blk_frozen BK173.out 1; have hfz26_2 := blk_frozen BK173.out 2) | ((with_reducible refine gate_dst (N := 13) rfl ?_); (try (refine gate_guard (by rfl) ?_; dsimp only)); refine Kd.R_lit k42 _ 42 ?hg (N := 13) ?hd (xs := ([(⟨(⟨#[121]⟩ : ByteArray), 5, 2⟩ : S42), (⟨(⟨#[120]⟩ : ByteArray), 6, 3⟩ : S42), (⟨(⟨#[97]⟩ : ByteArray), 4, 2⟩ : S42)] : List (S42))) (inner := [.string (⟨#[121]⟩ : ByteArray), .int .u64 5, .int .u64 2, .string (⟨#[120]⟩ : ByteArray), .int .u64 6, .int .u64 3, .string (⟨#[97]⟩ : ByteArray), .int .u64 4, .int .u64 2]) (ok := fun _ => True) (okp := fun _ => True) ?hr ?hp (fun _ hk => hk) trivial (Below.refl _ _) (Nat.le_refl _) (by simp) ?_; (case hd => rfl); (case hg => rfl); (case hr => first | (go_simp; done) | (go_simp; rfl)); (case hp => exact (Reps.c3 (show Kd.M k42 _ _ _ (⟨(⟨#[121]⟩ : ByteArray), 5, 2⟩ : S42) [.string (⟨#[121]⟩ : ByteArray), .int .u64 5, .int .u64 2] from (k42_mkM _ _ _ (⟨(⟨#[121]⟩ : ByteArray), 5, 2⟩ : S42) )) (Reps.c3 (show Kd.M k42 _ _ _ (⟨(⟨#[120]⟩ : ByteArray), 6, 3⟩ : S42) [.string (⟨#[120]⟩ : ByteArray), .int .u64 6, .int .u64 3] from (k42_mkM _ _ _ (⟨(⟨#[120]⟩ : ByteArray), 6, 3⟩ : S42) )) (Reps.c3 (show Kd.M k42 _ _ _ (⟨(⟨#[97]⟩ : ByteArray), 4, 2⟩ : S42) [.string (⟨#[97]⟩ : ByteArray), .int .u64 4, .int .u64 2] from (k42_mkM _ _ _ (⟨(⟨#[97]⟩ : ByteArray), 4, 2⟩ : S42) )) (Reps.none _ _))))); intro v175 w27 ho28 hb hg_ hnew_; clear hg_ hnew_; (first | rw [← Ny174.out] at ho28 | (simp only [Int.reduceToNat] at ho28; rw [← Ny174.out] at ho28)); have n0_ := Aside0.mk (Kd.R_lower (Kd.R_newB (Kd.R_newB (Kd.R_newB ho28 (g := gb171) (o := .cells #[.string (⟨#[120]⟩ : ByteArray), .int .u64 6, .int .u64 3] 42 (0, 0)) (by (with_reducible repeat (first | refine blk_drewN ?_ _ | refine blk_drew ?_ | refine blk_alloc ?_ _)); refine blk_far ?_ NB171_173.out _; (with_reducible repeat (first | refine blk_drewN ?_ _ | refine blk_drew ?_ | refine blk_alloc ?_ _)); refine blk_far ?_ NB171_173.out _; (with_reducible repeat (first | refine blk_drewN ?_ _ | refine blk_drew ?_ | refine blk_alloc ?_ _)); refine blk_far ?_ NB171_173.out _; (with_reducible repeat (first | refine blk_drewN ?_ _ | refine blk_drew ?_ | refine blk_alloc ?_ _)); refine blk_far ?_ NB171_172.out _; (with_reducible repeat (first | refine blk_drewN ?_ _ | refine blk_drew ?_ | refine blk_alloc ?_ _)); refine blk_far ?_ NB171_172.out _; (with_reducible repeat (first | refine blk_drewN ?_ _ | refine blk_drew ?_ | refine blk_alloc ?_ _)); refine blk_far ?_ NB171_172.out _; (with_reducible repeat (first | refine blk_drewN ?_ _ | refine blk_drew ?_ | refine blk_alloc ?_ _)); refine blk_put (cs := #[.string (⟨#[120]⟩ : ByteArray), .int .u64 6, .int .u64 0]) ?_ 2 _ rfl; (with_reducible repeat (first | refine blk_drewN ?_ _ | refine blk_drew ?_ | refine blk_alloc ?_ _)); refine blk_put (cs := #[.string (⟨#[120]⟩ : ByteArray), .int .u64 0, .int .u64 0]) ?_ 1 _ rfl; (with_reducible repeat (first | refine blk_drewN ?_ _ | refine blk_drew ?_ | refine blk_alloc ?_ _)); refine blk_put (cs := #[.string (⟨#[]⟩ : ByteArray), .int .u64 0, .int .u64 0]) ?_ 0 _ rfl; (with_reducible repeat (first | refine blk_drewN ?_ _ | refine blk_drew ?_ | refine blk_alloc ?_ _)); exact BK171.out)) (g := gb172) (o := .cells #[.string (⟨#[121]⟩ : ByteArray), .int .u64 5, .int .u64 2] 42 (0, 0)) (by (with_reducible repeat (first | refine blk_drewN ?_ _ | refine blk_drew ?_ | refine blk_alloc ?_ _)); refine blk_far ?_ NB172_173.out _; (with_reducible repeat (first | refine blk_drewN ?_ _ | refine blk_drew ?_ | refine blk_alloc ?_ _)); refine blk_far ?_ NB172_173.out _; (with_reducible repeat (first | refine blk_drewN ?_ _ | refine blk_drew ?_ | refine blk_alloc ?_ _)); refine blk_far ?_ NB172_173.out _; (with_reducible repeat (first | refine blk_drewN ?_ _ | refine blk_drew ?_ | refine blk_alloc ?_ _)); refine blk_put (cs := #[.string (⟨#[121]⟩ : ByteArray), .int .u64 5, .int .u64 0]) ?_ 2 _ rfl; (with_reducible repeat (first | refine blk_drewN ?_ _ | refine blk_drew ?_ | refine blk_alloc ?_ _)); refine blk_put (cs := #[.string (⟨#[121]⟩ : ByteArray), .int .u64 0, .int .u64 0]) ?_ 1 _ rfl; (with_reducible repeat (first | refine blk_drewN ?_ _ | refine blk_drew ?_ | refine blk_alloc ?_ _)); refine blk_put (cs := #[.string (⟨#[]⟩ : ByteArray), .int .u64 0, .int .u64 0]) ?_ 0 _ rfl; (with_reducible repeat (first | refine blk_drewN ?_ _ | refine blk_drew ?_ | refine blk_alloc ?_ _)); refine blk_far ?_ NB172_171.out _; (with_reducible repeat (first | refine blk_drewN ?_ _ | refine blk_drew ?_ | refine blk_alloc ?_ _)); refine blk_far ?_ NB172_171.out _; (with_reducible repeat (first | refine blk_drewN ?_ _ | refine blk_drew ?_ | refine blk_alloc ?_ _)); refine blk_far ?_ NB172_171.out _; (with_reducible repeat (first | refine blk_drewN ?_ _ | refine blk_drew ?_ | refine blk_alloc ?_ _)); exact BK172.out)) (g := gb173) (o := .cells #[.string (⟨#[97]⟩ : ByteArray), .int .u64 4, .int .u64 2] 42 (0, 0)) (by (with_reducible repeat (first | refine blk_drewN ?_ _ | refine blk_drew ?_ | refine blk_alloc ?_ _)); refine blk_put (cs := #[.string (⟨#[97]⟩ : ByteArray), .int .u64 4, .int .u64 0]) ?_ 2 _ rfl; (with_reducible repeat (first | refine blk_drewN ?_ _ | refine blk_drew ?_ | refine blk_alloc ?_ _)); refine blk_put (cs := #[.string (⟨#[97]⟩ : ByteArray), .int .u64 0, .int .u64 0]) ?_ 1 _ rfl; (with_reducible repeat (first | refine blk_drewN ?_ _ | refine blk_drew ?_ | refine blk_alloc ?_ _)); refine blk_put (cs := #[.string (⟨#[]⟩ : ByteArray), .int .u64 0, .int .u64 0]) ?_ 0 _ rfl; (with_reducible repeat (first | refine blk_drewN ?_ _ | refine blk_drew ?_ | refine blk_alloc ?_ _)); refine blk_far ?_ NB173_172.out _; (with_reducible repeat (first | refine blk_drewN ?_ _ | refine blk_drew ?_ | refine blk_alloc ?_ _)); refine blk_far ?_ NB173_172.out _; (with_reducible repeat (first | refine blk_drewN ?_ _ | refine blk_drew ?_ | refine blk_alloc ?_ _)); refine blk_far ?_ NB173_172.out _; (with_reducible repeat (first | refine blk_drewN ?_ _ | refine blk_drew ?_ | refine blk_alloc ?_ _)); refine blk_far ?_ NB173_171.out _; (with_reducible repeat (first | refine blk_drewN ?_ _ | refine blk_drew ?_ | refine blk_alloc ?_ _)); refine blk_far ?_ NB173_171.out _; (with_reducible repeat (first | refine blk_drewN ?_ _ | refine blk_drew ?_ | refine blk_alloc ?_ _)); refine blk_far ?_ NB173_171.out _; (with_reducible repeat (first | refine blk_drewN ?_ _ | refine blk_drew ?_ | refine blk_alloc ?_ _)); exact BK173.out)) (below_size (by repeat (first | (with_reducible first | exact HB.out | apply below_alloc | apply pw_below_drewN | apply below_drew1 | refine below_set ?_ GE171.out | refine below_set ?_ GE172.out | refine below_set ?_ GE173.out) | exact HB.out)))); have n1_ := Aside0.mk (blk_below (g := gb171) (o := .cells #[.string (⟨#[120]⟩ : ByteArray), .int .u64 6, .int .u64 3] 42 (0, 0)) (by (with_reducible repeat (first | refine blk_drewN ?_ _ | refine blk_drew ?_ | refine blk_alloc ?_ _)); refine blk_far ?_ NB171_173.out _; (with_reducible repeat (first | refine blk_drewN ?_ _ | refine blk_drew ?_ | refine blk_alloc ?_ _)); refine blk_far ?_ NB171_173.out _; (with_reducible repeat (first | refine blk_drewN ?_ _ | refine blk_drew ?_ | refine blk_alloc ?_ _)); refine blk_far ?_ NB171_173.out _; (with_reducible repeat (first | refine blk_drewN ?_ _ | refine blk_drew ?_ | refine blk_alloc ?_ _)); refine blk_far ?_ NB171_172.out _; (with_reducible repeat (first | refine blk_drewN ?_ _ | refine blk_drew ?_ | refine blk_alloc ?_ _)); refine blk_far ?_ NB171_172.out _; (with_reducible repeat (first | refine blk_drewN ?_ _ | refine blk_drew ?_ | refine blk_alloc ?_ _)); refine blk_far ?_ NB171_172.out _; (with_reducible repeat (first | refine blk_drewN ?_ _ | refine blk_drew ?_ | refine blk_alloc ?_ _)); refine blk_put (cs := #[.string (⟨#[120]⟩ : ByteArray), .int .u64 6, .int .u64 0]) ?_ 2 _ rfl; (with_reducible repeat (first | refine blk_drewN ?_ _ | refine blk_drew ?_ | refine blk_alloc ?_ _)); refine blk_put (cs := #[.string (⟨#[120]⟩ : ByteArray), .int .u64 0, .int .u64 0]) ?_ 1 _ rfl; (with_reducible repeat (first | refine blk_drewN ?_ _ | refine blk_drew ?_ | refine blk_alloc ?_ _)); refine blk_put (cs := #[.string (⟨#[]⟩ : ByteArray), .int .u64 0, .int .u64 0]) ?_ 0 _ rfl; (with_reducible repeat (first | refine blk_drewN ?_ _ | refine blk_drew ?_ | refine blk_alloc ?_ _)); exact BK171.out) hb); have n2_ := Aside0.mk (blk_below (g := gb172) (o := .cells #[.string (⟨#[121]⟩ : ByteArray), .int .u64 5, .int .u64 2] 42 (0, 0)) (by (with_reducible repeat (first | refine blk_drewN ?_ _ | refine blk_drew ?_ | refine blk_alloc ?_ _)); refine blk_far ?_ NB172_173.out _; (with_reducible repeat (first | refine blk_drewN ?_ _ | refine blk_drew ?_ | refine blk_alloc ?_ _)); refine blk_far ?_ NB172_173.out _; (with_reducible repeat (first | refine blk_drewN ?_ _ | refine blk_drew ?_ | refine blk_alloc ?_ _)); refine blk_far ?_ NB172_173.out _; (with_reducible repeat (first | refine blk_drewN ?_ _ | refine blk_drew ?_ | refine blk_alloc ?_ _)); refine blk_put (cs := #[.string (⟨#[121]⟩ : ByteArray), .int .u64 5, .int .u64 0]) ?_ 2 _ rfl; (with_reducible repeat (first | refine blk_drewN ?_ _ | refine blk_drew ?_ | refine blk_alloc ?_ _)); refine blk_put (cs := #[.string (⟨#[121]⟩ : ByteArray), .int .u64 0, .int .u64 0]) ?_ 1 _ rfl; (with_reducible repeat (first | refine blk_drewN ?_ _ | refine blk_drew ?_ | refine blk_alloc ?_ _)); refine blk_put (cs := #[.string (⟨#[]⟩ : ByteArray), .int .u64 0, .int .u64 0]) ?_ 0 _ rfl; (with_reducible repeat (first | refine blk_drewN ?_ _ | refine blk_drew ?_ | refine blk_alloc ?_ _)); refine blk_far ?_ NB172_171.out _; (with_reducible repeat (first | refine blk_drewN ?_ _ | refine blk_drew ?_ | refine blk_alloc ?_ _)); refine blk_far ?_ NB172_171.out _; (with_reducible repeat (first | refine blk_drewN ?_ _ | refine blk_drew ?_ | refine blk_alloc ?_ _)); refine blk_far ?_ NB172_171.out _; (with_reducible repeat (first | refine blk_drewN ?_ _ | refine blk_drew ?_ | refine blk_alloc ?_ _)); exact BK172.out) hb); have n3_ := Aside0.mk (blk_below (g := gb173) (o := .cells #[.string (⟨#[97]⟩ : ByteArray), .int .u64 4, .int .u64 2] 42 (0, 0)) (by (with_reducible repeat (first | refine blk_drewN ?_ _ | refine blk_drew ?_ | refine blk_alloc ?_ _)); refine blk_put (cs := #[.string (⟨#[97]⟩ : ByteArray), .int .u64 4, .int .u64 0]) ?_ 2 _ rfl; (with_reducible repeat (first | refine blk_drewN ?_ _ | refine blk_drew ?_ | refine blk_alloc ?_ _)); refine blk_put (cs := #[.string (⟨#[97]⟩ : ByteArray), .int .u64 0, .int .u64 0]) ?_ 1 _ rfl; (with_reducible repeat (first | refine blk_drewN ?_ _ | refine blk_drew ?_ | refine blk_alloc ?_ _)); refine blk_put (cs := #[.string (⟨#[]⟩ : ByteArray), .int .u64 0, .int .u64 0]) ?_ 0 _ rfl; (with_reducible repeat (first | refine blk_drewN ?_ _ | refine blk_drew ?_ | refine blk_alloc ?_ _)); refine blk_far ?_ NB173_172.out _; (with_reducible repeat (first | refine blk_drewN ?_ _ | refine blk_drew ?_ | refine blk_alloc ?_ _)); refine blk_far ?_ NB173_172.out _; (with_reducible repeat (first | refine blk_drewN ?_ _ | refine blk_drew ?_ | refine blk_alloc ?_ _)); refine blk_far ?_ NB173_172.out _; (with_reducible repeat (first | refine blk_drewN ?_ _ | refine blk_drew ?_ | refine blk_alloc ?_ _)); refine blk_far ?_ NB173_171.out _; (with_reducible repeat (first | refine blk_drewN ?_ _ | refine blk_drew ?_ | refine blk_alloc ?_ _)); refine blk_far ?_ NB173_171.out _; (with_reducible repeat (first | refine blk_drewN ?_ _ | refine blk_drew ?_ | refine blk_alloc ?_ _)); refine blk_far ?_ NB173_171.out _; (with_reducible repeat (first | refine blk_drewN ?_ _ | refine blk_drew ?_ | refine blk_alloc ?_ _)); exact BK173.out) hb); have n4_ := Aside0.mk (below_step (by repeat (first | (with_reducible first | exact HB.out | apply below_alloc | apply pw_below_drewN | apply below_drew1 | refine below_set ?_ GE171.out | refine below_set ?_ GE172.out | refine below_set ?_ GE173.out) | exact HB.out)) hb); clear BK171; clear BK172; clear BK173; clear HB; have HO176 := n0_; have BK171 := n1_; have BK172 := n2_; have BK173 := n3_; have HB := n4_; clear n0_ n1_ n2_ n3_ n4_; clear hb ho28; obtain ⟨Ao29, co29, eo29⟩ := Kd.R_slice HO176.out; subst eo29) | ((with_reducible refine gate_callee (f := 39) rfl ?_); refine goesL_ (some 14) rfl rfl Tryd.func39 (by kernel_rfl) rfl #[.slice Ao29 y174.length co29] rfl (by (try simp only [List.map_toArray, List.map_cons, List.map_nil]); first | done | rfl | (simp only [List.length_drop, List.length_take]; rfl)) ?_; (with_reducible refine (rank_Sort.calls k _ _ y174 t177 _ ?side1 ?side2 A1.out).mono ?_); (case side1 => repeat (first | exact (Kd.R_reads' HO176.out).2.2 | (with_reducible refine Kd.C_alloc ?_ _) | (with_reducible refine Kd.C_drewN ?_ _) | (with_reducible refine Kd.C_drew ?_))); (case side2 => exact (Kd.R_reads' HO176.out).2.1); rintro e w30 ⟨v178, rfl, ho0, hb⟩; refine ⟨_, rfl, ?_⟩; have n0_ := Aside0.mk (Kd.R_elder' (by (with_reducible repeat (first | apply Kd.R_alloc | apply Kd.R_drewN | apply Kd.R_drew)); exact HO176.out) (Kd.R_base ho0) hb); have n1_ := Aside0.mk (Kd.R_lower (Kd.R_newB (Kd.R_newB (Kd.R_newB (Kd.R_new' ho0 (Kd.R_lt (by (with_reducible repeat (first | apply Kd.R_alloc | apply Kd.R_drewN | apply Kd.R_drew)); exact HO176.out))) (g := gb171) (o := .cells #[.string (⟨#[120]⟩ : ByteArray), .int .u64 6, .int .u64 3] 42 (0, 0)) (by (with_reducible repeat (first | refine blk_drewN ?_ _ | refine blk_drew ?_ | refine blk_alloc ?_ _)); exact BK171.out)) (g := gb172) (o := .cells #[.string (⟨#[121]⟩ : ByteArray), .int .u64 5, .int .u64 2] 42 (0, 0)) (by (with_reducible repeat (first | refine blk_drewN ?_ _ | refine blk_drew ?_ | refine blk_alloc ?_ _)); exact BK172.out)) (g := gb173) (o := .cells #[.string (⟨#[97]⟩ : ByteArray), .int .u64 4, .int .u64 2] 42 (0, 0)) (by (with_reducible repeat (first | refine blk_drewN ?_ _ | refine blk_drew ?_ | refine blk_alloc ?_ _)); exact BK173.out)) (below_size (by repeat (first | (with_reducible first | exact HB.out | apply below_alloc | apply pw_below_drewN | apply below_drew1 | refine below_set ?_ GE171.out | refine below_set ?_ GE172.out | refine below_set ?_ GE173.out) | exact HB.out)))); have n2_ := Aside0.mk (blk_below (g := gb171) (o := .cells #[.string (⟨#[120]⟩ : ByteArray), .int .u64 6, .int .u64 3] 42 (0, 0)) (by (with_reducible repeat (first | refine blk_drewN ?_ _ | refine blk_drew ?_ | refine blk_alloc ?_ _)); exact BK171.out) hb); have n3_ := Aside0.mk (blk_below (g := gb172) (o := .cells #[.string (⟨#[121]⟩ : ByteArray), .int .u64 5, .int .u64 2] 42 (0, 0)) (by (with_reducible repeat (first | refine blk_drewN ?_ _ | refine blk_drew ?_ | refine blk_alloc ?_ _)); exact BK172.out) hb); have n4_ := Aside0.mk (blk_below (g := gb173) (o := .cells #[.string (⟨#[97]⟩ : ByteArray), .int .u64 4, .int .u64 2] 42 (0, 0)) (by (with_reducible repeat (first | refine blk_drewN ?_ _ | refine blk_drew ?_ | refine blk_alloc ?_ _)); exact BK173.out) hb); have n5_ := Aside0.mk (below_step (by repeat (first | (with_reducible first | exact HB.out | apply below_alloc | apply pw_below_drewN | apply below_drew1 | refine below_set ?_ GE171.out | refine below_set ?_ GE172.out | refine below_set ?_ GE173.out) | exact HB.out)) hb); clear HO176; clear BK171; clear BK172; clear BK173; clear HB; have HO176 := n0_; have HO179 := n1_; have BK171 := n2_; have BK172 := n3_; have BK173 := n4_; have HB := n5_; clear n0_ n1_ n2_ n3_ n4_ n5_; (try clear hb); (try clear hb2); (try clear hk); (try clear hi); (try clear ho0); have hcz31_0 : w30.cell? ⟨gb172, 0, none⟩ = some (.string (⟨#[121]⟩ : ByteArray)) := (blk_cell BK172.out 0).trans rfl; have hcz31_1 : w30.cell? ⟨gb172, 1, none⟩ = some (.int .u64 5) := (blk_cell BK172.out 1).trans rfl; have hcz31_2 : w30.cell? ⟨gb172, 2, none⟩ = some (.int .u64 2) := (blk_cell BK172.out 2).trans rfl; have hfz31_0 := blk_frozen BK172.out 0; have hfz31_1 := blk_frozen BK172.out 1; have hfz31_2 := blk_frozen BK172.out 2) | ((with_reducible refine gate_callee (f := 31) rfl ?_); refine goesL_ (some 17) rfl rfl Tryd.func31 (by kernel_rfl) rfl #[.agg #[.string (⟨#[121]⟩ : ByteArray), .int .u64 5, .int .u64 2]] rfl (by (try simp only [List.map_toArray, List.map_cons, List.map_nil]); first | done | rfl | (simp only [List.length_drop, List.length_take]; rfl)) ?_; (with_reducible refine (rank_Rank.calls k (⟨#[121]⟩ : ByteArray) 5 2 t180 t183 t186 _ A2.out).mono ?_); rintro e w32 ⟨v181, v184, rfl, ho0, ho1, hb⟩; refine ⟨_, rfl, ?_⟩; have n0_ := Aside0.mk (Kd.R_below (by (with_reducible repeat (first | apply Kd.R_alloc | apply Kd.R_drewN | apply Kd.R_drew)); exact HO176.out) hb); have n1_ := Aside0.mk (Kd.R_below (by (with_reducible repeat (first | apply Kd.R_alloc | apply Kd.R_drewN | apply Kd.R_drew)); exact HO179.out) hb); have n2_ := Aside0.mk (Kd.R_lower ho0 (below_size (by repeat (first | (with_reducible first | exact HB.out | apply below_alloc | apply pw_below_drewN | apply below_drew1 | refine below_set ?_ GE171.out | refine below_set ?_ GE172.out | refine below_set ?_ GE173.out) | exact HB.out)))); have n3_ := Aside0.mk (Kd.R_lower ho1 (below_size (by repeat (first | (with_reducible first | exact HB.out | apply below_alloc | apply pw_below_drewN | apply below_drew1 | refine below_set ?_ GE171.out | refine below_set ?_ GE172.out | refine below_set ?_ GE173.out) | exact HB.out)))); have n4_ := Aside0.mk (blk_below (g := gb171) (o := .cells #[.string (⟨#[120]⟩ : ByteArray), .int .u64 6, .int .u64 3] 42 (0, 0)) (by (with_reducible repeat (first | refine blk_drewN ?_ _ | refine blk_drew ?_ | refine blk_alloc ?_ _)); exact BK171.out) hb); have n5_ := Aside0.mk (blk_below (g := gb172) (o := .cells #[.string (⟨#[121]⟩ : ByteArray), .int .u64 5, .int .u64 2] 42 (0, 0)) (by (with_reducible repeat (first | refine blk_drewN ?_ _ | refine blk_drew ?_ | refine blk_alloc ?_ _)); exact BK172.out) hb); have n6_ := Aside0.mk (blk_below (g := gb173) (o := .cells #[.string (⟨#[97]⟩ : ByteArray), .int .u64 4, .int .u64 2] 42 (0, 0)) (by (with_reducible repeat (first | refine blk_drewN ?_ _ | refine blk_drew ?_ | refine blk_alloc ?_ _)); exact BK173.out) hb); have n7_ := Aside0.mk (below_step (by repeat (first | (with_reducible first | exact HB.out | apply below_alloc | apply pw_below_drewN | apply below_drew1 | refine below_set ?_ GE171.out | refine below_set ?_ GE172.out | refine below_set ?_ GE173.out) | exact HB.out)) hb); clear HO176; clear HO179; clear BK171; clear BK172; clear BK173; clear HB; have HO176 := n0_; have HO179 := n1_; have HO182 := n2_; have HO185 := n3_; have BK171 := n4_; have BK172 := n5_; have BK173 := n6_; have HB := n7_; clear n0_ n1_ n2_ n3_ n4_ n5_ n6_ n7_; (try clear hb); (try clear hb2); (try clear hk); (try clear hi); (try clear ho0); (try clear ho1)) | ((with_reducible refine gate_dst (N := 5) rfl ?_); (try (refine gate_guard (by rfl) ?_; dsimp only)); refine box_event ?hg (N := 5) ?hd (cs := #[.slice none 0 0, .slice none 0 0]) (t := 25) ?hr ?_; (case hd => rfl); (case hg => rfl); (case hr => first | (go_simp; done) | (go_simp; rfl)); intro gb187 hg w33 hbox hb; have n0_ := Aside0.mk (Kd.R_below (by (with_reducible repeat (first | apply Kd.R_alloc | apply Kd.R_drewN | apply Kd.R_drew)); exact HO176.out) hb); have n1_ := Aside0.mk (Kd.R_below (by (with_reducible repeat (first | apply Kd.R_alloc | apply Kd.R_drewN | apply Kd.R_drew)); exact HO179.out) hb); have n2_ := Aside0.mk (Kd.R_below (by (with_reducible repeat (first | apply Kd.R_alloc | apply Kd.R_drewN | apply Kd.R_drew)); exact HO182.out) hb); have n3_ := Aside0.mk (Kd.R_below (by (with_reducible repeat (first | apply Kd.R_alloc | apply Kd.R_drewN | apply Kd.R_drew)); exact HO185.out) hb); have n4_ := Aside0.mk (blk_below (g := gb171) (o := .cells #[.string (⟨#[120]⟩ : ByteArray), .int .u64 6, .int .u64 3] 42 (0, 0)) (by (with_reducible repeat (first | refine blk_drewN ?_ _ | refine blk_drew ?_ | refine blk_alloc ?_ _)); exact BK171.out) hb); have n5_ := Aside0.mk (blk_below (g := gb172) (o := .cells #[.string (⟨#[121]⟩ : ByteArray), .int .u64 5, .int .u64 2] 42 (0, 0)) (by (with_reducible repeat (first | refine blk_drewN ?_ _ | refine blk_drew ?_ | refine blk_alloc ?_ _)); exact BK172.out) hb); have n6_ := Aside0.mk (blk_below (g := gb173) (o := .cells #[.string (⟨#[97]⟩ : ByteArray), .int .u64 4, .int .u64 2] 42 (0, 0)) (by (with_reducible repeat (first | refine blk_drewN ?_ _ | refine blk_drew ?_ | refine blk_alloc ?_ _)); exact BK173.out) hb); have n7_ := Aside0.mk (below_step (by repeat (first | (with_reducible first | exact HB.out | apply below_alloc | apply pw_below_drewN | apply below_drew1 | refine below_set ?_ GE171.out | refine below_set ?_ GE172.out | refine below_set ?_ GE173.out) | exact HB.out)) hb); have n8_ := Aside0.mk (hbox); have n9_ := Aside0.mk ((by rw [hg]; exact (below_size (by repeat (first | (with_reducible first | exact HB.out | apply below_alloc | apply pw_below_drewN | apply below_drew1 | refine below_set ?_ GE171.out | refine below_set ?_ GE172.out | refine below_set ?_ GE173.out) | exact HB.out))) : w.heap.size ≤ gb187)); have n10_ := Aside0.mk ((by rw [hg]; exact (below_size (by repeat (first | (with_reducible first | exact HB.out | apply below_alloc | apply pw_below_drewN | apply below_drew1 | refine below_set ?_ GE171.out | refine below_set ?_ GE172.out | refine below_set ?_ GE173.out) | exact HB.out))) : w.heap.size ≤ gb187)); have n11_ := Aside0.mk ((by rw [hg]; exact Nat.ne_of_lt (blk_lt (g := gb171) (o := .cells #[.string (⟨#[120]⟩ : ByteArray), .int .u64 6, .int .u64 3] 42 (0, 0)) (by (with_reducible repeat (first | refine blk_drewN ?_ _ | refine blk_drew ?_ | refine blk_alloc ?_ _)); exact BK171.out)) : gb171 ≠ gb187)); have n12_ := Aside0.mk ((by rw [hg]; exact Nat.ne_of_gt (blk_lt (g := gb171) (o := .cells #[.string (⟨#[120]⟩ : ByteArray), .int .u64 6, .int .u64 3] 42 (0, 0)) (by (with_reducible repeat (first | refine blk_drewN ?_ _ | refine blk_drew ?_ | refine blk_alloc ?_ _)); exact BK171.out)) : gb187 ≠ gb171)); have n13_ := Aside0.mk ((by rw [hg]; exact Nat.ne_of_lt (blk_lt (g := gb172) (o := .cells #[.string (⟨#[121]⟩ : ByteArray), .int .u64 5, .int .u64 2] 42 (0, 0)) (by (with_reducible repeat (first | refine blk_drewN ?_ _ | refine blk_drew ?_ | refine blk_alloc ?_ _)); exact BK172.out)) : gb172 ≠ gb187)); have n14_ := Aside0.mk ((by rw [hg]; exact Nat.ne_of_gt (blk_lt (g := gb172) (o := .cells #[.string (⟨#[121]⟩ : ByteArray), .int .u64 5, .int .u64 2] 42 (0, 0)) (by (with_reducible repeat (first | refine blk_drewN ?_ _ | refine blk_drew ?_ | refine blk_alloc ?_ _)); exact BK172.out)) : gb187 ≠ gb172)); have n15_ := Aside0.mk ((by rw [hg]; exact Nat.ne_of_lt (blk_lt (g := gb173) (o := .cells #[.string (⟨#[97]⟩ : ByteArray), .int .u64 4, .int .u64 2] 42 (0, 0)) (by (with_reducible repeat (first | refine blk_drewN ?_ _ | refine blk_drew ?_ | refine blk_alloc ?_ _)); exact BK173.out)) : gb173 ≠ gb187)); have n16_ := Aside0.mk ((by rw [hg]; exact Nat.ne_of_gt (blk_lt (g := gb173) (o := .cells #[.string (⟨#[97]⟩ : ByteArray), .int .u64 4, .int .u64 2] 42 (0, 0)) (by (with_reducible repeat (first | refine blk_drewN ?_ _ | refine blk_drew ?_ | refine blk_alloc ?_ _)); exact BK173.out)) : gb187 ≠ gb173)); clear HO176; clear HO179; clear HO182; clear HO185; clear BK171; clear BK172; clear BK173; clear HB; have HO176 := n0_; have HO179 := n1_; have HO182 := n2_; have HO185 := n3_; have BK171 := n4_; have BK172 := n5_; have BK173 := n6_; have HB := n7_; have BK187 := n8_; have GW187 := n9_; have GE187 := n10_; have NB171_187 := n11_; have NB187_171 := n12_; have NB172_187 := n13_; have NB187_172 := n14_; have NB173_187 := n15_; have NB187_173 := n16_; clear n0_ n1_ n2_ n3_ n4_ n5_ n6_ n7_ n8_ n9_ n10_ n11_ n12_ n13_ n14_ n15_ n16_; clear hb hbox hg; obtain ⟨Ao34, co34, eo34⟩ := Kd.R_slice HO182.out; subst eo34; have hnb35 := NB187_171.out; have hnc35 := NB171_187.out; have hnb36 := NB187_172.out; have hnc36 := NB172_187.out; have hnb37 := NB187_173.out; have hnc37 := NB173_187.out; have hcz38_0 : w33.cell? ⟨gb187, 0, none⟩ = some (.slice none 0 0) := (blk_cell BK187.out 0).trans rfl; have hcz38_1 : w33.cell? ⟨gb187, 1, none⟩ = some (.slice none 0 0) := (blk_cell BK187.out 1).trans rfl; have hfz38_0 := blk_frozen BK187.out 0; have hfz38_1 := blk_frozen BK187.out 1; obtain ⟨Ao39, co39, eo39⟩ := Kd.R_slice HO185.out; subst eo39))
           have n0_ : Aside0 (Kd.R k42 42 ((w33.setCell ⟨gb187, 0, none⟩ (.slice Ao34 t180.length co34)).setCell ⟨gb187, 1, none⟩ (.slice Ao39 t183.length co39)) w.heap.size (fun k_ => some k_ ≠ (v178 : Value).ownBlock ∧ k_ ≠ gb171 ∧ k_ ≠ gb172 ∧ k_ ≠ gb173) (.slice Ao29 y174.length co29) y174) := ⟨by (with_reducible repeat (first | apply Kd.R_alloc | apply Kd.R_drewN | apply Kd.R_drew)); exact Kd.R_mono (Kd.R_far (p := ⟨gb187, 1, none⟩) (Kd.R_far (p := ⟨gb187, 0, none⟩) (Kd.R_types HO176.out BK187.out (by decide)) (fun _ hk => hk.2) (.slice Ao34 t180.length co34)) (fun _ hk => hk.2) (.slice Ao39 t183.length co39)) (fun _ hk => ⟨hk.1.2, ⟨hk.1.1.1.1.2, ⟨hk.1.1.1.2, hk.1.1.2⟩⟩⟩)⟩
           have n1_ : Aside0 (Kd.R k42 42 ((w33.setCell ⟨gb187, 0, none⟩ (.slice Ao34 t180.length co34)).setCell ⟨gb187, 1, none⟩ (.slice Ao39 t183.length co39)) w.heap.size (fun k_ => some k_ ≠ (.slice Ao29 y174.length co29 : Value).ownBlock ∧ k_ ≠ gb171 ∧ k_ ≠ gb172 ∧ k_ ≠ gb173) v178 t177) := ⟨by (with_reducible repeat (first | apply Kd.R_alloc | apply Kd.R_drewN | apply Kd.R_drew)); exact Kd.R_mono (Kd.R_far (p := ⟨gb187, 1, none⟩) (Kd.R_far (p := ⟨gb187, 0, none⟩) (Kd.R_types HO179.out BK187.out (by decide)) (fun _ hk => hk.2) (.slice Ao34 t180.length co34)) (fun _ hk => hk.2) (.slice Ao39 t183.length co39)) (fun _ hk => ⟨hk.1.1.1.1.2, ⟨hk.1.1.1.2, ⟨hk.1.1.2, hk.1.2⟩⟩⟩)⟩
           have n2_ : Aside0 (Kd.R (Kd.int .u32) 55 ((w33.setCell ⟨gb187, 0, none⟩ (.slice Ao34 t180.length co34)).setCell ⟨gb187, 1, none⟩ (.slice Ao39 t183.length co39)) w.heap.size (fun k_ => some k_ ≠ (.slice Ao39 t183.length co39 : Value).ownBlock) (.slice Ao34 t180.length co34) t180) := ⟨by (with_reducible repeat (first | apply Kd.R_alloc | apply Kd.R_drewN | apply Kd.R_drew)); exact Kd.R_mono (Kd.R_far (p := ⟨gb187, 1, none⟩) (Kd.R_far (p := ⟨gb187, 0, none⟩) (Kd.R_types HO182.out BK187.out (by decide)) (fun _ hk => hk.2) (.slice Ao34 t180.length co34)) (fun _ hk => hk.2) (.slice Ao39 t183.length co39)) (fun _ hk => hk.1)⟩
           have n3_ : Aside0 (Kd.R (Kd.int .u32) 55 ((w33.setCell ⟨gb187, 0, none⟩ (.slice Ao34 t180.length co34)).setCell ⟨gb187, 1, none⟩ (.slice Ao39 t183.length co39)) w.heap.size (fun k_ => some k_ ≠ (.slice Ao34 t180.length co34 : Value).ownBlock) (.slice Ao39 t183.length co39) t183) := ⟨by (with_reducible repeat (first | apply Kd.R_alloc | apply Kd.R_drewN | apply Kd.R_drew)); exact Kd.R_mono (Kd.R_far (p := ⟨gb187, 1, none⟩) (Kd.R_far (p := ⟨gb187, 0, none⟩) (Kd.R_types HO185.out BK187.out (by decide)) (fun _ hk => hk.2) (.slice Ao34 t180.length co34)) (fun _ hk => hk.2) (.slice Ao39 t183.length co39)) (fun _ hk => hk.1)⟩
           have n4_ : Aside0 (((w33.setCell ⟨gb187, 0, none⟩ (.slice Ao34 t180.length co34)).setCell ⟨gb187, 1, none⟩ (.slice Ao39 t183.length co39)).heap[gb171]? = some (.cells #[.string (⟨#[120]⟩ : ByteArray), .int .u64 6, .int .u64 3] 42 (0, 0))) := ⟨by (with_reducible repeat (first | refine blk_drewN ?_ _ | refine blk_drew ?_ | refine blk_alloc ?_ _)); refine blk_far ?_ NB171_187.out _; (with_reducible repeat (first | refine blk_drewN ?_ _ | refine blk_drew ?_ | refine blk_alloc ?_ _)); refine blk_far ?_ NB171_187.out _; (with_reducible repeat (first | refine blk_drewN ?_ _ | refine blk_drew ?_ | refine blk_alloc ?_ _)); exact BK171.out⟩
           have n5_ : Aside0 (((w33.setCell ⟨gb187, 0, none⟩ (.slice Ao34 t180.length co34)).setCell ⟨gb187, 1, none⟩ (.slice Ao39 t183.length co39)).heap[gb172]? = some (.cells #[.string (⟨#[121]⟩ : ByteArray), .int .u64 5, .int .u64 2] 42 (0, 0))) := ⟨by (with_reducible repeat (first | refine blk_drewN ?_ _ | refine blk_drew ?_ | refine blk_alloc ?_ _)); refine blk_far ?_ NB172_187.out _; (with_reducible repeat (first | refine blk_drewN ?_ _ | refine blk_drew ?_ | refine blk_alloc ?_ _)); refine blk_far ?_ NB172_187.out _; (with_reducible repeat (first | refine blk_drewN ?_ _ | refine blk_drew ?_ | refine blk_alloc ?_ _)); exact BK172.out⟩
           have n6_ : Aside0 (((w33.setCell ⟨gb187, 0, none⟩ (.slice Ao34 t180.length co34)).setCell ⟨gb187, 1, none⟩ (.slice Ao39 t183.length co39)).heap[gb173]? = some (.cells #[.string (⟨#[97]⟩ : ByteArray), .int .u64 4, .int .u64 2] 42 (0, 0))) := ⟨by (with_reducible repeat (first | refine blk_drewN ?_ _ | refine blk_drew ?_ | refine blk_alloc ?_ _)); refine blk_far ?_ NB173_187.out _; (with_reducible repeat (first | refine blk_drewN ?_ _ | refine blk_drew ?_ | refine blk_alloc ?_ _)); refine blk_far ?_ NB173_187.out _; (with_reducible repeat (first | refine blk_drewN ?_ _ | refine blk_drew ?_ | refine blk_alloc ?_ _)); exact BK173.out⟩
           have n7_ : Aside0 (((w33.setCell ⟨gb187, 0, none⟩ (.slice Ao34 t180.length co34)).setCell ⟨gb187, 1, none⟩ (.slice Ao39 t183.length co39)).heap[gb187]? = some (.cells #[.slice Ao34 t180.length co34, .slice Ao39 t183.length co39] 25 (0, 0))) := ⟨by (with_reducible repeat (first | refine blk_drewN ?_ _ | refine blk_drew ?_ | refine blk_alloc ?_ _)); refine blk_put (cs := #[.slice Ao34 t180.length co34, .slice none 0 0]) ?_ 1 _ rfl; (with_reducible repeat (first | refine blk_drewN ?_ _ | refine blk_drew ?_ | refine blk_alloc ?_ _)); refine blk_put (cs := #[.slice none 0 0, .slice none 0 0]) ?_ 0 _ rfl; (with_reducible repeat (first | refine blk_drewN ?_ _ | refine blk_drew ?_ | refine blk_alloc ?_ _)); exact BK187.out⟩
           have n8_ : Aside0 (Below w.heap.size w ((w33.setCell ⟨gb187, 0, none⟩ (.slice Ao34 t180.length co34)).setCell ⟨gb187, 1, none⟩ (.slice Ao39 t183.length co39))) := ⟨by repeat (first | (with_reducible first | exact HB.out | apply below_alloc | apply pw_below_drewN | apply below_drew1 | refine below_set ?_ GE171.out | refine below_set ?_ GE172.out | refine below_set ?_ GE173.out | refine below_set ?_ GE187.out) | exact HB.out)⟩
           (try clear HO176)
           (try clear HO179)
           (try clear HO182)
           (try clear HO185)
           (try clear BK171)
           (try clear BK172)
           (try clear BK173)
           (try clear BK187)
           (try clear HB)
           generalize ((w33.setCell ⟨gb187, 0, none⟩ (.slice Ao34 t180.length co34)).setCell ⟨gb187, 1, none⟩ (.slice Ao39 t183.length co39)) = w40 at n0_ n1_ n2_ n3_ n4_ n5_ n6_ n7_ n8_ ⊢
           have HO176 := n0_
           have HO179 := n1_
           have HO182 := n2_
           have HO185 := n3_
           have BK171 := n4_
           have BK172 := n5_
           have BK173 := n6_
           have BK187 := n7_
           have HB := n8_
           clear n0_ n1_ n2_ n3_ n4_ n5_ n6_ n7_ n8_
           have n0_ := Aside0.mk (Kd.R_drew HO176.out)
           have n1_ := Aside0.mk (Kd.R_drew HO179.out)
           have n2_ := Aside0.mk (Kd.R_drew HO182.out)
           have n3_ := Aside0.mk (Kd.R_drew HO185.out)
           have n4_ := Aside0.mk (blk_drew BK171.out)
           have n5_ := Aside0.mk (blk_drew BK172.out)
           have n6_ := Aside0.mk (blk_drew BK173.out)
           have n7_ := Aside0.mk (blk_drew BK187.out)
           have n8_ := Aside0.mk (below_drew1 HB.out)
           clear HO176
           clear HO179
           clear HO182
           clear HO185
           clear BK171
           clear BK172
           clear BK173
           clear BK187
           clear HB
           have HO176 := n0_
           have HO179 := n1_
           have HO182 := n2_
           have HO185 := n3_
           have BK171 := n4_
           have BK172 := n5_
           have BK173 := n6_
           have BK187 := n7_
           have HB := n8_
           clear n0_ n1_ n2_ n3_ n4_ n5_ n6_ n7_ n8_
           have p190 : 0 ≤ (0 : Int) := (by omega)
           have q190 : 0 < (t177.length : Int) := of_decide_eq_true (by first | (with_reducible assumption) | assumption)
           (try (obtain ⟨Ao190, co190, eo190⟩ := Kd.R_slice HO179.out; subst eo190))
           obtain ⟨ad190, e190, hx190_0, hx190_1, hx190_2⟩ := at_T42 (Kd.R_reads' HO179.out).2.2 0 p190 q190
           cases e190
           have qi190 : (0 < t177.length) = True := eq_true (by omega)
           (try rw [show ((0 : Int)).toNat = 0 from rfl] at hx190_0)
           (try rw [show 0 * 3 = 0 from rfl] at hx190_0)
           (try rw [Addr.add_zero'] at hx190_0)
           (try rw [show ((0 : Int)).toNat = 0 from rfl] at hx190_1)
           (try rw [show 0 * 3 = 0 from rfl] at hx190_1)
           (try rw [Addr.add_zero'] at hx190_1)
           (try rw [show ((0 : Int)).toNat = 0 from rfl] at hx190_2)
           (try rw [show 0 * 3 = 0 from rfl] at hx190_2)
           (try rw [Addr.add_zero'] at hx190_2)
           replace p190 := eq_true p190
           replace q190 := eq_true q190
           have p191 : 0 ≤ (2 : Int) := (by omega)
           have q191 : 2 < (t177.length : Int) := of_decide_eq_true (by first | (with_reducible assumption) | assumption)
           (try (obtain ⟨Ao191, co191, eo191⟩ := Kd.R_slice HO179.out; subst eo191))
           obtain ⟨ad191, e191, hx191_0, hx191_1, hx191_2⟩ := at_T42 (Kd.R_reads' HO179.out).2.2 2 p191 q191
           obtain rfl : ad190 = ad191 := (by injection e191)
           (try simp only [show (2 : Int).toNat = 2 from rfl, Nat.reduceMul, Nat.reduceEqDiff, Go.Addr.add, ↓reduceIte] at hx191_0)
           (try simp only [show (2 : Int).toNat = 2 from rfl, Nat.reduceMul, Nat.reduceEqDiff, Go.Addr.add, ↓reduceIte] at hx191_1)
           (try simp only [show (2 : Int).toNat = 2 from rfl, Nat.reduceMul, Nat.reduceEqDiff, Go.Addr.add, ↓reduceIte] at hx191_2)
           have qi191 : (2 < t177.length) = True := eq_true (by omega)
           (try rw [show ((2 : Int)).toNat = 2 from rfl] at hx191_0)
           (try rw [show 2 * 3 = 6 from rfl] at hx191_0)
           (try rw [show ((2 : Int)).toNat = 2 from rfl] at hx191_1)
           (try rw [show 2 * 3 = 6 from rfl] at hx191_1)
           (try rw [show ((2 : Int)).toNat = 2 from rfl] at hx191_2)
           (try rw [show 2 * 3 = 6 from rfl] at hx191_2)
           replace p191 := eq_true p191
           replace q191 := eq_true q191
           refine start_ (n := 50) (S := fun w' => w'.cell? ⟨gb171, 0, none⟩ = some (.string (⟨#[120]⟩ : ByteArray)) ∧ w'.cell? ⟨gb171, 1, none⟩ = some (.int .u64 6) ∧ w'.cell? ⟨gb171, 2, none⟩ = some (.int .u64 3) ∧ w'.cell? ⟨gb172, 0, none⟩ = some (.string (⟨#[121]⟩ : ByteArray)) ∧ w'.cell? ⟨gb172, 1, none⟩ = some (.int .u64 5) ∧ w'.cell? ⟨gb172, 2, none⟩ = some (.int .u64 2) ∧ w'.cell? ⟨gb173, 0, none⟩ = some (.string (⟨#[97]⟩ : ByteArray)) ∧ w'.cell? ⟨gb173, 1, none⟩ = some (.int .u64 4) ∧ w'.cell? ⟨gb173, 2, none⟩ = some (.int .u64 2) ∧ w'.cell? ⟨gb187, 0, none⟩ = some (.slice Ao34 t180.length co34) ∧ w'.cell? ⟨gb187, 1, none⟩ = some (.slice Ao39 t183.length co39) ∧ w'.cell? ad190 = some (.string ((rd_T42 t177 0).f0)) ∧ w'.cell? ⟨ad190.block, ad190.off + 1, none⟩ = some (.int .u64 ((rd_T42 t177 0).f1)) ∧ w'.cell? ⟨ad190.block, ad190.off + 2, none⟩ = some (.int .u64 ((rd_T42 t177 0).f2)) ∧ w'.cell? ⟨ad190.block, ad190.off + 6, none⟩ = some (.string ((rd_T42 t177 2).f0)) ∧ w'.cell? ⟨ad190.block, ad190.off + 6 + 1, none⟩ = some (.int .u64 ((rd_T42 t177 2).f1)) ∧ w'.cell? ⟨ad190.block, ad190.off + 6 + 2, none⟩ = some (.int .u64 ((rd_T42 t177 2).f2))) (ds := []) #[false, false, false, false, false, false, false, false, false, false, false, false, false, false, false, false, false, false, false, false, false, false, false, false, false, false, false, false, false, false, false, false, false, false, false, false, false, false, false, false, false, false, false, false, false, false, false, false, false, false] (by kernel_rfl) rfl rfl ⟨(blk_cell BK171.out 0).trans rfl, (blk_cell BK171.out 1).trans rfl, (blk_cell BK171.out 2).trans rfl, (blk_cell BK172.out 0).trans rfl, (blk_cell BK172.out 1).trans rfl, (blk_cell BK172.out 2).trans rfl, (blk_cell BK173.out 0).trans rfl, (blk_cell BK173.out 1).trans rfl, (blk_cell BK173.out 2).trans rfl, (blk_cell BK187.out 0).trans rfl, (blk_cell BK187.out 1).trans rfl, hx190_0, hx190_1, hx190_2, hx191_0, hx191_1, hx191_2⟩ (fun hHeld => ?_); refine with_tabW samphirelaw10_awake.tab4 samphirelaw10_awake.bits4 (fun HT_ HW_ => ?_)
           generalize w40.drew = w41 at HO176 HO179 HO182 HO185 BK171 BK172 BK173 BK187 HB hx190_0 hx190_1 hx190_2 hx191_0 hx191_1 hx191_2 hHeld ⊢
           refine take_ (i := 0) (N := some 20) (v := ?_) (a' := ?_) #[true, false, false, false, false, false, false, false, false, false, false, false, false, false, false, false, false, false, false, false, false, false, false, false, false, false, false, false, false, false, false, false, false, false, false, false, false, false, false, false, false, false, false, false, false, false, false, false, false, false] rfl rfl (take_ofW HT_.out HW_.out (by kernel_rfl)) (fun _ _ _ h => h) (Or.inl ⟨by rfl, ?_⟩) hHeld ?_ ?_
           rotate_left
           ·rintro w' ⟨s0, s1, s2, s3, s4, s5, s6, s7, s8, s9, s10, s11, s12, s13, s14, s15, s16⟩
            go_simp
            with_reducible rfl
           rotate_left
           ·simp only [Act.put, List.setIfInBounds_toArray, List.set_cons_zero, List.set_cons_succ, i64_w, i32_w]
            rfl
           refine take_ (i := 1) (N := some 21) (v := ?_) (a' := ?_) #[true, true, false, false, false, false, false, false, false, false, false, false, false, false, false, false, false, false, false, false, false, false, false, false, false, false, false, false, false, false, false, false, false, false, false, false, false, false, false, false, false, false, false, false, false, false, false, false, false, false] rfl rfl (take_ofW HT_.out HW_.out (by kernel_rfl)) (fun _ _ _ h => h) (Or.inl ⟨by rfl, ?_⟩) hHeld ?_ ?_
           rotate_left
           ·rintro w' ⟨s0, s1, s2, s3, s4, s5, s6, s7, s8, s9, s10, s11, s12, s13, s14, s15, s16⟩
            go_simp
            with_reducible rfl
           rotate_left
           ·simp only [Act.put, List.setIfInBounds_toArray, List.set_cons_zero, List.set_cons_succ, i64_w, i32_w]
            rfl
           refine one_ (i := 2) (N := some 22) #[true, true, true, false, false, false, false, false, false, false, false, false, false, false, false, false, false, false, false, false, false, false, false, false, false, false, false, false, false, false, false, false, false, false, false, false, false, false, false, false, false, false, false, false, false, false, false, false, false, false] rfl rfl (one_of HT_.out (by kernel_rfl)) (by decide) (fun K hK => ?_)
           refine goes_ Tryd.func34 (by kernel_rfl) rfl #[.agg #[.string (⟨#[120]⟩ : ByteArray), .int .u64 6, .int .u64 3], .agg #[.string (⟨#[121]⟩ : ByteArray), .int .u64 5, .int .u64 2]] (by rfl) rfl rfl (by (try simp only [List.map_toArray, List.map_cons, List.map_nil]); first | done | rfl | (simp only [List.length_drop, List.length_take]; rfl)) ?_
           with_reducible refine (rank_Cmp.calls k (⟨#[120]⟩ : ByteArray) 6 3 (⟨#[121]⟩ : ByteArray) 5 2 t188 _ A3.out).mono ?_
           rintro e w42 ⟨rfl, hb⟩
           have HS11_ := (hb.cell (World.block_lt_of_cell? _ _ (hHeld.2.2.2.2.2.2.2.2.2.2.2.1))).trans (hHeld.2.2.2.2.2.2.2.2.2.2.2.1)
           have HS12_ := (hb.cell (World.block_lt_of_cell? _ _ (hHeld.2.2.2.2.2.2.2.2.2.2.2.2.1))).trans (hHeld.2.2.2.2.2.2.2.2.2.2.2.2.1)
           have HS13_ := (hb.cell (World.block_lt_of_cell? _ _ (hHeld.2.2.2.2.2.2.2.2.2.2.2.2.2.1))).trans (hHeld.2.2.2.2.2.2.2.2.2.2.2.2.2.1)
           have HS14_ := (hb.cell (World.block_lt_of_cell? _ _ (hHeld.2.2.2.2.2.2.2.2.2.2.2.2.2.2.1))).trans (hHeld.2.2.2.2.2.2.2.2.2.2.2.2.2.2.1)
           have HS15_ := (hb.cell (World.block_lt_of_cell? _ _ (hHeld.2.2.2.2.2.2.2.2.2.2.2.2.2.2.2.1))).trans (hHeld.2.2.2.2.2.2.2.2.2.2.2.2.2.2.2.1)
           have HS16_ := (hb.cell (World.block_lt_of_cell? _ _ (hHeld.2.2.2.2.2.2.2.2.2.2.2.2.2.2.2.2))).trans (hHeld.2.2.2.2.2.2.2.2.2.2.2.2.2.2.2.2)
           refine ⟨_, rfl, ?_⟩
           have n0_ := Aside0.mk (Kd.R_below (by (with_reducible repeat (first | apply Kd.R_alloc | apply Kd.R_drewN | apply Kd.R_drew)); exact HO176.out) hb)
           have n1_ := Aside0.mk (Kd.R_below (by (with_reducible repeat (first | apply Kd.R_alloc | apply Kd.R_drewN | apply Kd.R_drew)); exact HO179.out) hb)
           have n2_ := Aside0.mk (Kd.R_below (by (with_reducible repeat (first | apply Kd.R_alloc | apply Kd.R_drewN | apply Kd.R_drew)); exact HO182.out) hb)
           have n3_ := Aside0.mk (Kd.R_below (by (with_reducible repeat (first | apply Kd.R_alloc | apply Kd.R_drewN | apply Kd.R_drew)); exact HO185.out) hb)
           have n4_ := Aside0.mk (blk_below (g := gb171) (o := .cells #[.string (⟨#[120]⟩ : ByteArray), .int .u64 6, .int .u64 3] 42 (0, 0)) (by (with_reducible repeat (first | refine blk_drewN ?_ _ | refine blk_drew ?_ | refine blk_alloc ?_ _)); exact BK171.out) hb)
           have n5_ := Aside0.mk (blk_below (g := gb172) (o := .cells #[.string (⟨#[121]⟩ : ByteArray), .int .u64 5, .int .u64 2] 42 (0, 0)) (by (with_reducible repeat (first | refine blk_drewN ?_ _ | refine blk_drew ?_ | refine blk_alloc ?_ _)); exact BK172.out) hb)
           have n6_ := Aside0.mk (blk_below (g := gb173) (o := .cells #[.string (⟨#[97]⟩ : ByteArray), .int .u64 4, .int .u64 2] 42 (0, 0)) (by (with_reducible repeat (first | refine blk_drewN ?_ _ | refine blk_drew ?_ | refine blk_alloc ?_ _)); exact BK173.out) hb)
           have n7_ := Aside0.mk (blk_below (g := gb187) (o := .cells #[.slice Ao34 t180.length co34, .slice Ao39 t183.length co39] 25 (0, 0)) (by (with_reducible repeat (first | refine blk_drewN ?_ _ | refine blk_drew ?_ | refine blk_alloc ?_ _)); exact BK187.out) hb)
           have n8_ := Aside0.mk (below_step (by repeat (first | (with_reducible first | exact HB.out | apply below_alloc | apply pw_below_drewN | apply below_drew1 | refine below_set ?_ GE171.out | refine below_set ?_ GE172.out | refine below_set ?_ GE173.out | refine below_set ?_ GE187.out) | exact HB.out)) hb)
           clear HO176
           clear HO179
           clear HO182
           clear HO185
           clear BK171
           clear BK172
           clear BK173
           clear BK187
           clear HB
           have HO176 := n0_
           have HO179 := n1_
           have HO182 := n2_
           have HO185 := n3_
           have BK171 := n4_
           have BK172 := n5_
           have BK173 := n6_
           have BK187 := n7_
           have HB := n8_
           clear n0_ n1_ n2_ n3_ n4_ n5_ n6_ n7_ n8_
           (try clear hb)
           (try clear hb2)
           (try clear hk)
           (try clear hi)
           refine hK.out _ _ ⟨(blk_cell BK171.out 0).trans rfl, (blk_cell BK171.out 1).trans rfl, (blk_cell BK171.out 2).trans rfl, (blk_cell BK172.out 0).trans rfl, (blk_cell BK172.out 1).trans rfl, (blk_cell BK172.out 2).trans rfl, (blk_cell BK173.out 0).trans rfl, (blk_cell BK173.out 1).trans rfl, (blk_cell BK173.out 2).trans rfl, (blk_cell BK187.out 0).trans rfl, (blk_cell BK187.out 1).trans rfl, HS11_, HS12_, HS13_, HS14_, HS15_, HS16_⟩ (fun hHeld => ?_)
           clear hK K
           refine norm_ (a' := ?_) ?_ ?_
           rotate_left
           ·show Act.put _ (some 22) _ = _
            simp only [Act.put, List.setIfInBounds_toArray, List.set_cons_zero, List.set_cons_succ, i64_w, i32_w]
            rfl
           refine pure_ (i := 3) (N := some 23) (v := ?_) (a' := ?_) #[true, true, true, true, false, false, false, false, false, false, false, false, false, false, false, false, false, false, false, false, false, false, false, false, false, false, false, false, false, false, false, false, false, false, false, false, false, false, false, false, false, false, false, false, false, false, false, false, false, false] rfl rfl (any_of HT_.out (by kernel_rfl)) (fun _ _ _ h => h) (Or.inl ⟨by rfl, ?_⟩) ?_ ?_
           rotate_left
           ·intro w'
            go_simp
            with_reducible rfl
           rotate_left
           ·simp only [Act.put, List.setIfInBounds_toArray, List.set_cons_zero, List.set_cons_succ, i64_w, i32_w]
            rfl
           refine pure_ (i := 4) (N := some 24) (v := ?_) (a' := ?_) #[true, true, true, true, true, false, false, false, false, false, false, false, false, false, false, false, false, false, false, false, false, false, false, false, false, false, false, false, false, false, false, false, false, false, false, false, false, false, false, false, false, false, false, false, false, false, false, false, false, false] rfl rfl (any_of HT_.out (by kernel_rfl)) (fun _ _ _ h => h) (Or.inl ⟨by rfl, ?_⟩) ?_ ?_
           rotate_left
           ·intro w'
            go_simp
            with_reducible rfl
           rotate_left
           ·simp only [Act.put, List.setIfInBounds_toArray, List.set_cons_zero, List.set_cons_succ, i64_w, i32_w]
            rfl
           refine take_ (i := 5) (N := some 25) (v := ?_) (a' := ?_) #[true, true, true, true, true, true, false, false, false, false, false, false, false, false, false, false, false, false, false, false, false, false, false, false, false, false, false, false, false, false, false, false, false, false, false, false, false, false, false, false, false, false, false, false, false, false, false, false, false, false] rfl rfl (take_ofW HT_.out HW_.out (by kernel_rfl)) (fun _ _ _ h => h) (Or.inl ⟨by rfl, ?_⟩) hHeld ?_ ?_
           rotate_left
           ·rintro w' ⟨s0, s1, s2, s3, s4, s5, s6, s7, s8, s9, s10, s11, s12, s13, s14, s15, s16⟩
            go_simp
            with_reducible rfl
           rotate_left
           ·simp only [Act.put, List.setIfInBounds_toArray, List.set_cons_zero, List.set_cons_succ, i64_w, i32_w]
            rfl
           refine take_ (i := 6) (N := some 26) (v := ?_) (a' := ?_) #[true, true, true, true, true, true, true, false, false, false, false, false, false, false, false, false, false, false, false, false, false, false, false, false, false, false, false, false, false, false, false, false, false, false, false, false, false, false, false, false, false, false, false, false, false, false, false, false, false, false] rfl rfl (take_ofW HT_.out HW_.out (by kernel_rfl)) (fun _ _ _ h => h) (Or.inl ⟨by rfl, ?_⟩) hHeld ?_ ?_
           rotate_left
           ·rintro w' ⟨s0, s1, s2, s3, s4, s5, s6, s7, s8, s9, s10, s11, s12, s13, s14, s15, s16⟩
            go_simp
            with_reducible rfl
           rotate_left
           ·simp only [Act.put, List.setIfInBounds_toArray, List.set_cons_zero, List.set_cons_succ, i64_w, i32_w]
            rfl
           refine one_ (i := 7) (N := some 27) #[true, true, true, true, true, true, true, true, false, false, false, false, false, false, false, false, false, false, false, false, false, false, false, false, false, false, false, false, false, false, false, false, false, false, false, false, false, false, false, false, false, false, false, false, false, false, false, false, false, false] rfl rfl (one_of HT_.out (by kernel_rfl)) (by decide) (fun K hK => ?_)
           refine goes_ Tryd.func34 (by kernel_rfl) rfl #[.agg #[.string (⟨#[120]⟩ : ByteArray), .int .u64 6, .int .u64 3], .agg #[.string (⟨#[97]⟩ : ByteArray), .int .u64 4, .int .u64 2]] (by rfl) rfl rfl (by (try simp only [List.map_toArray, List.map_cons, List.map_nil]); first | done | rfl | (simp only [List.length_drop, List.length_take]; rfl)) ?_
           with_reducible refine (rank_Cmp.calls k (⟨#[120]⟩ : ByteArray) 6 3 (⟨#[97]⟩ : ByteArray) 4 2 t189 _ A5.out).mono ?_
           rintro e w43 ⟨rfl, hb⟩
           have HS11_ := (hb.cell (World.block_lt_of_cell? _ _ (hHeld.2.2.2.2.2.2.2.2.2.2.2.1))).trans (hHeld.2.2.2.2.2.2.2.2.2.2.2.1)
           have HS12_ := (hb.cell (World.block_lt_of_cell? _ _ (hHeld.2.2.2.2.2.2.2.2.2.2.2.2.1))).trans (hHeld.2.2.2.2.2.2.2.2.2.2.2.2.1)
           have HS13_ := (hb.cell (World.block_lt_of_cell? _ _ (hHeld.2.2.2.2.2.2.2.2.2.2.2.2.2.1))).trans (hHeld.2.2.2.2.2.2.2.2.2.2.2.2.2.1)
           have HS14_ := (hb.cell (World.block_lt_of_cell? _ _ (hHeld.2.2.2.2.2.2.2.2.2.2.2.2.2.2.1))).trans (hHeld.2.2.2.2.2.2.2.2.2.2.2.2.2.2.1)
           have HS15_ := (hb.cell (World.block_lt_of_cell? _ _ (hHeld.2.2.2.2.2.2.2.2.2.2.2.2.2.2.2.1))).trans (hHeld.2.2.2.2.2.2.2.2.2.2.2.2.2.2.2.1)
           have HS16_ := (hb.cell (World.block_lt_of_cell? _ _ (hHeld.2.2.2.2.2.2.2.2.2.2.2.2.2.2.2.2))).trans (hHeld.2.2.2.2.2.2.2.2.2.2.2.2.2.2.2.2)
           refine ⟨_, rfl, ?_⟩
           have n0_ := Aside0.mk (Kd.R_below (by (with_reducible repeat (first | apply Kd.R_alloc | apply Kd.R_drewN | apply Kd.R_drew)); exact HO176.out) hb)
           have n1_ := Aside0.mk (Kd.R_below (by (with_reducible repeat (first | apply Kd.R_alloc | apply Kd.R_drewN | apply Kd.R_drew)); exact HO179.out) hb)
           have n2_ := Aside0.mk (Kd.R_below (by (with_reducible repeat (first | apply Kd.R_alloc | apply Kd.R_drewN | apply Kd.R_drew)); exact HO182.out) hb)
           have n3_ := Aside0.mk (Kd.R_below (by (with_reducible repeat (first | apply Kd.R_alloc | apply Kd.R_drewN | apply Kd.R_drew)); exact HO185.out) hb)
           have n4_ := Aside0.mk (blk_below (g := gb171) (o := .cells #[.string (⟨#[120]⟩ : ByteArray), .int .u64 6, .int .u64 3] 42 (0, 0)) (by (with_reducible repeat (first | refine blk_drewN ?_ _ | refine blk_drew ?_ | refine blk_alloc ?_ _)); exact BK171.out) hb)
           have n5_ := Aside0.mk (blk_below (g := gb172) (o := .cells #[.string (⟨#[121]⟩ : ByteArray), .int .u64 5, .int .u64 2] 42 (0, 0)) (by (with_reducible repeat (first | refine blk_drewN ?_ _ | refine blk_drew ?_ | refine blk_alloc ?_ _)); exact BK172.out) hb)
           have n6_ := Aside0.mk (blk_below (g := gb173) (o := .cells #[.string (⟨#[97]⟩ : ByteArray), .int .u64 4, .int .u64 2] 42 (0, 0)) (by (with_reducible repeat (first | refine blk_drewN ?_ _ | refine blk_drew ?_ | refine blk_alloc ?_ _)); exact BK173.out) hb)
           have n7_ := Aside0.mk (blk_below (g := gb187) (o := .cells #[.slice Ao34 t180.length co34, .slice Ao39 t183.length co39] 25 (0, 0)) (by (with_reducible repeat (first | refine blk_drewN ?_ _ | refine blk_drew ?_ | refine blk_alloc ?_ _)); exact BK187.out) hb)
           have n8_ := Aside0.mk (below_step (by repeat (first | (with_reducible first | exact HB.out | apply below_alloc | apply pw_below_drewN | apply below_drew1 | refine below_set ?_ GE171.out | refine below_set ?_ GE172.out | refine below_set ?_ GE173.out | refine below_set ?_ GE187.out) | exact HB.out)) hb)
           clear HO176
           clear HO179
           clear HO182
           clear HO185
           clear BK171
           clear BK172
           clear BK173
           clear BK187
           clear HB
           have HO176 := n0_
           have HO179 := n1_
           have HO182 := n2_
           have HO185 := n3_
           have BK171 := n4_
           have BK172 := n5_
           have BK173 := n6_
           have BK187 := n7_
           have HB := n8_
           clear n0_ n1_ n2_ n3_ n4_ n5_ n6_ n7_ n8_
           (try clear hb)
           (try clear hb2)
           (try clear hk)
           (try clear hi)
           obtain ⟨Ao44, co44, eo44⟩ := Kd.R_slice HO179.out
           (first | subst eo44 | (injection eo44 with f1_ f2_ f3_; have f4_ := f1_.symm; have f5_ := f3_.symm; clear f1_ f2_ f3_; subst f4_; subst f5_))
           refine hK.out _ _ ⟨(blk_cell BK171.out 0).trans rfl, (blk_cell BK171.out 1).trans rfl, (blk_cell BK171.out 2).trans rfl, (blk_cell BK172.out 0).trans rfl, (blk_cell BK172.out 1).trans rfl, (blk_cell BK172.out 2).trans rfl, (blk_cell BK173.out 0).trans rfl, (blk_cell BK173.out 1).trans rfl, (blk_cell BK173.out 2).trans rfl, (blk_cell BK187.out 0).trans rfl, (blk_cell BK187.out 1).trans rfl, HS11_, HS12_, HS13_, HS14_, HS15_, HS16_⟩ (fun hHeld => ?_)
           clear hK K
           refine norm_ (a' := ?_) ?_ ?_
           rotate_left
           ·show Act.put _ (some 27) _ = _
            simp only [Act.put, List.setIfInBounds_toArray, List.set_cons_zero, List.set_cons_succ, i64_w, i32_w]
            rfl
           refine pure_ (i := 8) (N := some 28) (v := ?_) (a' := ?_) #[true, true, true, true, true, true, true, true, true, false, false, false, false, false, false, false, false, false, false, false, false, false, false, false, false, false, false, false, false, false, false, false, false, false, false, false, false, false, false, false, false, false, false, false, false, false, false, false, false, false] rfl rfl (any_of HT_.out (by kernel_rfl)) (fun _ _ _ h => h) (Or.inl ⟨by rfl, ?_⟩) ?_ ?_
           rotate_left
           ·intro w'
            go_simp
            with_reducible rfl
           rotate_left
           ·simp only [Act.put, List.setIfInBounds_toArray, List.set_cons_zero, List.set_cons_succ, i64_w, i32_w]
            rfl
           refine pure_ (i := 9) (N := some 29) (v := ?_) (a' := ?_) #[true, true, true, true, true, true, true, true, true, true, false, false, false, false, false, false, false, false, false, false, false, false, false, false, false, false, false, false, false, false, false, false, false, false, false, false, false, false, false, false, false, false, false, false, false, false, false, false, false, false] rfl rfl (any_of HT_.out (by kernel_rfl)) (fun _ _ _ h => h) (Or.inl ⟨by rfl, ?_⟩) ?_ ?_
           rotate_left
           ·intro w'
            go_simp
            with_reducible rfl
           rotate_left
           ·simp only [Act.put, List.setIfInBounds_toArray, List.set_cons_zero, List.set_cons_succ, i64_w, i32_w]
            rfl
           refine pure_ (i := 10) (N := some 30) (v := ?_) (a' := ?_) #[true, true, true, true, true, true, true, true, true, true, true, false, false, false, false, false, false, false, false, false, false, false, false, false, false, false, false, false, false, false, false, false, false, false, false, false, false, false, false, false, false, false, false, false, false, false, false, false, false, false] rfl rfl (any_of HT_.out (by kernel_rfl)) (fun _ _ _ h => h) (Or.inl ⟨by rfl, ?_⟩) ?_ ?_
           rotate_left
           ·intro w'
            go_simp
            with_reducible rfl
           rotate_left
           ·simp only [Act.put, List.setIfInBounds_toArray, List.set_cons_zero, List.set_cons_succ, i64_w, i32_w]
            rfl
           refine pure_ (i := 11) (N := some 31) (v := ?_) (a' := ?_) #[true, true, true, true, true, true, true, true, true, true, true, true, false, false, false, false, false, false, false, false, false, false, false, false, false, false, false, false, false, false, false, false, false, false, false, false, false, false, false, false, false, false, false, false, false, false, false, false, false, false] rfl rfl (any_of HT_.out (by kernel_rfl)) (fun _ _ _ h => h) (Or.inl ⟨by rfl, ?_⟩) ?_ ?_
           rotate_left
           ·intro w'
            go_simp
            with_reducible rfl
           rotate_left
           ·simp only [Act.put, List.setIfInBounds_toArray, List.set_cons_zero, List.set_cons_succ, i64_w, i32_w]
            rfl
           refine pure_ (i := 12) (N := some 32) (v := ?_) (a' := ?_) #[true, true, true, true, true, true, true, true, true, true, true, true, true, false, false, false, false, false, false, false, false, false, false, false, false, false, false, false, false, false, false, false, false, false, false, false, false, false, false, false, false, false, false, false, false, false, false, false, false, false] rfl rfl (any_of HT_.out (by kernel_rfl)) (fun _ _ _ h => h) (Or.inl ⟨by rfl, ?_⟩) ?_ ?_
           rotate_left
           ·intro w'
            go_simp
            with_reducible rfl
           rotate_left
           ·simp only [Act.put, List.setIfInBounds_toArray, List.set_cons_zero, List.set_cons_succ, i64_w, i32_w]
            rfl
           refine pure_ (i := 13) (N := some 33) (v := ?_) (a' := ?_) #[true, true, true, true, true, true, true, true, true, true, true, true, true, true, false, false, false, false, false, false, false, false, false, false, false, false, false, false, false, false, false, false, false, false, false, false, false, false, false, false, false, false, false, false, false, false, false, false, false, false] rfl rfl (any_of HT_.out (by kernel_rfl)) (fun _ _ _ h => h) (Or.inl ⟨by rfl, ?_⟩) ?_ ?_
           rotate_left
           ·intro w'
            go_simp
            with_reducible rfl
           rotate_left
           ·simp only [Act.put, List.setIfInBounds_toArray, List.set_cons_zero, List.set_cons_succ, i64_w, i32_w]
            rfl
           refine pure_ (i := 14) (N := some 34) (v := ?_) (a' := ?_) #[true, true, true, true, true, true, true, true, true, true, true, true, true, true, true, false, false, false, false, false, false, false, false, false, false, false, false, false, false, false, false, false, false, false, false, false, false, false, false, false, false, false, false, false, false, false, false, false, false, false] rfl rfl (any_of HT_.out (by kernel_rfl)) (fun _ _ _ h => h) (Or.inl ⟨by rfl, ?_⟩) ?_ ?_
           rotate_left
           ·intro w'
            go_simp
            with_reducible rfl
           rotate_left
           ·simp only [Act.put, List.setIfInBounds_toArray, List.set_cons_zero, List.set_cons_succ, i64_w, i32_w]
            rfl
           refine pure_ (i := 15) (N := some 35) (v := ?_) (a' := ?_) #[true, true, true, true, true, true, true, true, true, true, true, true, true, true, true, true, false, false, false, false, false, false, false, false, false, false, false, false, false, false, false, false, false, false, false, false, false, false, false, false, false, false, false, false, false, false, false, false, false, false] rfl rfl (any_of HT_.out (by kernel_rfl)) (fun _ _ _ h => h) (Or.inl ⟨by rfl, ?_⟩) ?_ ?_
           rotate_left
           ·intro w'
            go_simp
            with_reducible rfl
           rotate_left
           ·simp only [Act.put, List.setIfInBounds_toArray, List.set_cons_zero, List.set_cons_succ, i64_w, i32_w]
            rfl
           refine pure_ (i := 16) (N := some 36) (v := ?_) (a' := ?_) #[true, true, true, true, true, true, true, true, true, true, true, true, true, true, true, true, true, false, false, false, false, false, false, false, false, false, false, false, false, false, false, false, false, false, false, false, false, false, false, false, false, false, false, false, false, false, false, false, false, false] rfl rfl (any_of HT_.out (by kernel_rfl)) (fun _ _ _ h => h) (Or.inl ⟨by rfl, ?_⟩) ?_ ?_
           rotate_left
           ·intro w'
            go_simp
            with_reducible rfl
           rotate_left
           ·simp only [Act.put, List.setIfInBounds_toArray, List.set_cons_zero, List.set_cons_succ, i64_w, i32_w]
            rfl
           refine pure_ (i := 17) (N := some 37) (v := ?_) (a' := ?_) #[true, true, true, true, true, true, true, true, true, true, true, true, true, true, true, true, true, true, false, false, false, false, false, false, false, false, false, false, false, false, false, false, false, false, false, false, false, false, false, false, false, false, false, false, false, false, false, false, false, false] rfl rfl (any_of HT_.out (by kernel_rfl)) (fun _ _ _ h => h) (Or.inl ⟨by rfl, ?_⟩) ?_ ?_
           rotate_left
           ·intro w'
            go_simp
            with_reducible rfl
           rotate_left
           ·simp only [Act.put, List.setIfInBounds_toArray, List.set_cons_zero, List.set_cons_succ, i64_w, i32_w]
            rfl
           refine take_ (i := 18) (N := some 38) (v := ?_) (a' := ?_) #[true, true, true, true, true, true, true, true, true, true, true, true, true, true, true, true, true, true, true, false, false, false, false, false, false, false, false, false, false, false, false, false, false, false, false, false, false, false, false, false, false, false, false, false, false, false, false, false, false, false] rfl rfl (take_ofW HT_.out HW_.out (by kernel_rfl)) (fun _ _ _ h => h) (Or.inl ⟨by rfl, ?_⟩) hHeld ?_ ?_
           rotate_left
           ·rintro w' ⟨s0, s1, s2, s3, s4, s5, s6, s7, s8, s9, s10, s11, s12, s13, s14, s15, s16⟩
            go_simp
            with_reducible rfl
           rotate_left
           ·simp only [Act.put, List.setIfInBounds_toArray, List.set_cons_zero, List.set_cons_succ, i64_w, i32_w]
            rfl
           refine take_ (i := 19) (N := some 39) (v := ?_) (a' := ?_) #[true, true, true, true, true, true, true, true, true, true, true, true, true, true, true, true, true, true, true, true, false, false, false, false, false, false, false, false, false, false, false, false, false, false, false, false, false, false, false, false, false, false, false, false, false, false, false, false, false, false] rfl rfl (take_ofW HT_.out HW_.out (by kernel_rfl)) (fun _ _ _ h => h) (Or.inl ⟨by rfl, ?_⟩) hHeld ?_ ?_
           rotate_left
           ·rintro w' ⟨s0, s1, s2, s3, s4, s5, s6, s7, s8, s9, s10, s11, s12, s13, s14, s15, s16⟩
            go_simp
            with_reducible rfl
           rotate_left
           ·simp only [Act.put, List.setIfInBounds_toArray, List.set_cons_zero, List.set_cons_succ, i64_w, i32_w]
            rfl
           refine pure_ (i := 20) (N := some 40) (v := ?_) (a' := ?_) #[true, true, true, true, true, true, true, true, true, true, true, true, true, true, true, true, true, true, true, true, true, false, false, false, false, false, false, false, false, false, false, false, false, false, false, false, false, false, false, false, false, false, false, false, false, false, false, false, false, false] rfl rfl (any_of HT_.out (by kernel_rfl)) (fun _ _ _ h => h) (Or.inl ⟨by rfl, ?_⟩) ?_ ?_
           rotate_left
           ·intro w'
            go_simp
            with_reducible rfl
           rotate_left
           ·simp only [Act.put, List.setIfInBounds_toArray, List.set_cons_zero, List.set_cons_succ, i64_w, i32_w]
            rfl
           refine pure_ (i := 21) (N := some 41) (v := ?_) (a' := ?_) #[true, true, true, true, true, true, true, true, true, true, true, true, true, true, true, true, true, true, true, true, true, true, false, false, false, false, false, false, false, false, false, false, false, false, false, false, false, false, false, false, false, false, false, false, false, false, false, false, false, false] rfl rfl (any_of HT_.out (by kernel_rfl)) (fun _ _ _ h => h) (Or.inl ⟨by rfl, ?_⟩) ?_ ?_
           rotate_left
           ·intro w'
            go_simp
            with_reducible rfl
           rotate_left
           ·simp only [Act.put, List.setIfInBounds_toArray, List.set_cons_zero, List.set_cons_succ, i64_w, i32_w]
            rfl
           refine pure_ (i := 22) (N := some 42) (v := ?_) (a' := ?_) #[true, true, true, true, true, true, true, true, true, true, true, true, true, true, true, true, true, true, true, true, true, true, true, false, false, false, false, false, false, false, false, false, false, false, false, false, false, false, false, false, false, false, false, false, false, false, false, false, false, false] rfl rfl (any_of HT_.out (by kernel_rfl)) (fun _ _ _ h => h) (Or.inl ⟨by rfl, ?_⟩) ?_ ?_
           rotate_left
           ·intro w'
            go_simp
            with_reducible rfl
           rotate_left
           ·simp only [Act.put, List.setIfInBounds_toArray, List.set_cons_zero, List.set_cons_succ, i64_w, i32_w]
            rfl
           refine pure_ (i := 23) (N := some 43) (v := ?_) (a' := ?_) #[true, true, true, true, true, true, true, true, true, true, true, true, true, true, true, true, true, true, true, true, true, true, true, true, false, false, false, false, false, false, false, false, false, false, false, false, false, false, false, false, false, false, false, false, false, false, false, false, false, false] rfl rfl (any_of HT_.out (by kernel_rfl)) (fun _ _ _ h => h) (Or.inl ⟨by rfl, ?_⟩) ?_ ?_
           rotate_left
           ·intro w'
            go_simp
            with_reducible rfl
           rotate_left
           ·simp only [Act.put, List.setIfInBounds_toArray, List.set_cons_zero, List.set_cons_succ, i64_w, i32_w]
            rfl
           refine pure_ (i := 24) (N := some 44) (v := ?_) (a' := ?_) #[true, true, true, true, true, true, true, true, true, true, true, true, true, true, true, true, true, true, true, true, true, true, true, true, true, false, false, false, false, false, false, false, false, false, false, false, false, false, false, false, false, false, false, false, false, false, false, false, false, false] rfl rfl (any_of HT_.out (by kernel_rfl)) (fun _ _ _ h => h) (Or.inl ⟨by rfl, ?_⟩) ?_ ?_
           rotate_left
           ·intro w'
            go_simp
            with_reducible rfl
           rotate_left
           ·simp only [Act.put, List.setIfInBounds_toArray, List.set_cons_zero, List.set_cons_succ, i64_w, i32_w]
            rfl
           refine take_ (i := 25) (N := some 45) (v := ?_) (a' := ?_) #[true, true, true, true, true, true, true, true, true, true, true, true, true, true, true, true, true, true, true, true, true, true, true, true, true, true, false, false, false, false, false, false, false, false, false, false, false, false, false, false, false, false, false, false, false, false, false, false, false, false] rfl rfl (take_ofW HT_.out HW_.out (by kernel_rfl)) (fun _ _ _ h => h) (Or.inl ⟨by rfl, ?_⟩) hHeld ?_ ?_
           rotate_left
           ·rintro w' ⟨s0, s1, s2, s3, s4, s5, s6, s7, s8, s9, s10, s11, s12, s13, s14, s15, s16⟩
            go_simp
            with_reducible rfl
           rotate_left
           ·simp only [Act.put, List.setIfInBounds_toArray, List.set_cons_zero, List.set_cons_succ, i64_w, i32_w]
            rfl
           refine take_ (i := 26) (N := some 46) (v := ?_) (a' := ?_) #[true, true, true, true, true, true, true, true, true, true, true, true, true, true, true, true, true, true, true, true, true, true, true, true, true, true, true, false, false, false, false, false, false, false, false, false, false, false, false, false, false, false, false, false, false, false, false, false, false, false] rfl rfl (take_ofW HT_.out HW_.out (by kernel_rfl)) (fun _ _ _ h => h) (Or.inl ⟨by rfl, ?_⟩) hHeld ?_ ?_
           rotate_left
           ·rintro w' ⟨s0, s1, s2, s3, s4, s5, s6, s7, s8, s9, s10, s11, s12, s13, s14, s15, s16⟩
            go_simp
            with_reducible rfl
           rotate_left
           ·simp only [Act.put, List.setIfInBounds_toArray, List.set_cons_zero, List.set_cons_succ, i64_w, i32_w]
            rfl
           refine pure_ (i := 27) (N := some 47) (v := ?_) (a' := ?_) #[true, true, true, true, true, true, true, true, true, true, true, true, true, true, true, true, true, true, true, true, true, true, true, true, true, true, true, true, false, false, false, false, false, false, false, false, false, false, false, false, false, false, false, false, false, false, false, false, false, false] rfl rfl (any_of HT_.out (by kernel_rfl)) (fun _ _ _ h => h) (Or.inl ⟨by rfl, ?_⟩) ?_ ?_
           rotate_left
           ·intro w'
            go_simp
            with_reducible rfl
           rotate_left
           ·simp only [Act.put, List.setIfInBounds_toArray, List.set_cons_zero, List.set_cons_succ, i64_w, i32_w]
            rfl
           refine pure_ (i := 28) (N := some 48) (v := ?_) (a' := ?_) #[true, true, true, true, true, true, true, true, true, true, true, true, true, true, true, true, true, true, true, true, true, true, true, true, true, true, true, true, true, false, false, false, false, false, false, false, false, false, false, false, false, false, false, false, false, false, false, false, false, false] rfl rfl (any_of HT_.out (by kernel_rfl)) (fun _ _ _ h => h) (Or.inl ⟨by rfl, ?_⟩) ?_ ?_
           rotate_left
           ·intro w'
            go_simp
            with_reducible rfl
           rotate_left
           ·simp only [Act.put, List.setIfInBounds_toArray, List.set_cons_zero, List.set_cons_succ, i64_w, i32_w]
            rfl
           refine pure_ (i := 29) (N := some 49) (v := ?_) (a' := ?_) #[true, true, true, true, true, true, true, true, true, true, true, true, true, true, true, true, true, true, true, true, true, true, true, true, true, true, true, true, true, true, false, false, false, false, false, false, false, false, false, false, false, false, false, false, false, false, false, false, false, false] rfl rfl (any_of HT_.out (by kernel_rfl)) (fun _ _ _ h => h) (Or.inl ⟨by rfl, ?_⟩) ?_ ?_
           rotate_left
           ·intro w'
            go_simp
            with_reducible rfl
           rotate_left
           ·simp only [Act.put, List.setIfInBounds_toArray, List.set_cons_zero, List.set_cons_succ, i64_w, i32_w]
            rfl
           refine take_ (i := 30) (N := some 50) (v := ?_) (a' := ?_) #[true, true, true, true, true, true, true, true, true, true, true, true, true, true, true, true, true, true, true, true, true, true, true, true, true, true, true, true, true, true, true, false, false, false, false, false, false, false, false, false, false, false, false, false, false, false, false, false, false, false] rfl rfl (take_ofW HT_.out HW_.out (by kernel_rfl)) (fun _ _ _ h => h) (Or.inl ⟨by rfl, ?_⟩) hHeld ?_ ?_
           rotate_left
           ·rintro w' ⟨s0, s1, s2, s3, s4, s5, s6, s7, s8, s9, s10, s11, s12, s13, s14, s15, s16⟩
            go_simp
            with_reducible rfl
           rotate_left
           ·simp only [Act.put, List.setIfInBounds_toArray, List.set_cons_zero, List.set_cons_succ, i64_w, i32_w]
            rfl
           refine one_ (i := 31) (N := some 51) #[true, true, true, true, true, true, true, true, true, true, true, true, true, true, true, true, true, true, true, true, true, true, true, true, true, true, true, true, true, true, true, true, false, false, false, false, false, false, false, false, false, false, false, false, false, false, false, false, false, false] rfl rfl (one_of HT_.out (by kernel_rfl)) (by decide) (fun K hK => ?_)
           refine goes_ Tryd.func26 (by kernel_rfl) rfl #[.agg #[.slice Ao34 t180.length co34, .slice Ao39 t183.length co39]] (by rfl) rfl rfl (by (try simp only [List.map_toArray, List.map_cons, List.map_nil]); first | done | rfl | (simp only [List.length_drop, List.length_take]; rfl)) ?_
           with_reducible refine (rat_Text.calls _ _ t180 _ _ t183 t192 _ ?side1 ?side2 ?side3 ?side4 A12.out).mono ?_
           (case side1 => repeat (first | exact (Kd.R_reads' HO182.out).2.2 | (with_reducible refine Kd.C_alloc ?_ _) | (with_reducible refine Kd.C_drewN ?_ _) | (with_reducible refine Kd.C_drew ?_)))
           (case side2 => exact (Kd.R_reads' HO182.out).2.1)
           (case side3 => repeat (first | exact (Kd.R_reads' HO185.out).2.2 | (with_reducible refine Kd.C_alloc ?_ _) | (with_reducible refine Kd.C_drewN ?_ _) | (with_reducible refine Kd.C_drew ?_)))
           (case side4 => exact (Kd.R_reads' HO185.out).2.1)
           rintro e w45 ⟨rfl, hb⟩
           have HS11_ := (hb.cell (World.block_lt_of_cell? _ _ (hHeld.2.2.2.2.2.2.2.2.2.2.2.1))).trans (hHeld.2.2.2.2.2.2.2.2.2.2.2.1)
           have HS12_ := (hb.cell (World.block_lt_of_cell? _ _ (hHeld.2.2.2.2.2.2.2.2.2.2.2.2.1))).trans (hHeld.2.2.2.2.2.2.2.2.2.2.2.2.1)
           have HS13_ := (hb.cell (World.block_lt_of_cell? _ _ (hHeld.2.2.2.2.2.2.2.2.2.2.2.2.2.1))).trans (hHeld.2.2.2.2.2.2.2.2.2.2.2.2.2.1)
           have HS14_ := (hb.cell (World.block_lt_of_cell? _ _ (hHeld.2.2.2.2.2.2.2.2.2.2.2.2.2.2.1))).trans (hHeld.2.2.2.2.2.2.2.2.2.2.2.2.2.2.1)
           have HS15_ := (hb.cell (World.block_lt_of_cell? _ _ (hHeld.2.2.2.2.2.2.2.2.2.2.2.2.2.2.2.1))).trans (hHeld.2.2.2.2.2.2.2.2.2.2.2.2.2.2.2.1)
           have HS16_ := (hb.cell (World.block_lt_of_cell? _ _ (hHeld.2.2.2.2.2.2.2.2.2.2.2.2.2.2.2.2))).trans (hHeld.2.2.2.2.2.2.2.2.2.2.2.2.2.2.2.2)
           refine ⟨_, rfl, ?_⟩
           have n0_ := Aside0.mk (Kd.R_below (by (with_reducible repeat (first | apply Kd.R_alloc | apply Kd.R_drewN | apply Kd.R_drew)); exact HO176.out) hb)
           have n1_ := Aside0.mk (Kd.R_below (by (with_reducible repeat (first | apply Kd.R_alloc | apply Kd.R_drewN | apply Kd.R_drew)); exact HO179.out) hb)
           have n2_ := Aside0.mk (Kd.R_below (by (with_reducible repeat (first | apply Kd.R_alloc | apply Kd.R_drewN | apply Kd.R_drew)); exact HO182.out) hb)
           have n3_ := Aside0.mk (Kd.R_below (by (with_reducible repeat (first | apply Kd.R_alloc | apply Kd.R_drewN | apply Kd.R_drew)); exact HO185.out) hb)
           have n4_ := Aside0.mk (blk_below (g := gb171) (o := .cells #[.string (⟨#[120]⟩ : ByteArray), .int .u64 6, .int .u64 3] 42 (0, 0)) (by (with_reducible repeat (first | refine blk_drewN ?_ _ | refine blk_drew ?_ | refine blk_alloc ?_ _)); exact BK171.out) hb)
           have n5_ := Aside0.mk (blk_below (g := gb172) (o := .cells #[.string (⟨#[121]⟩ : ByteArray), .int .u64 5, .int .u64 2] 42 (0, 0)) (by (with_reducible repeat (first | refine blk_drewN ?_ _ | refine blk_drew ?_ | refine blk_alloc ?_ _)); exact BK172.out) hb)
           have n6_ := Aside0.mk (blk_below (g := gb173) (o := .cells #[.string (⟨#[97]⟩ : ByteArray), .int .u64 4, .int .u64 2] 42 (0, 0)) (by (with_reducible repeat (first | refine blk_drewN ?_ _ | refine blk_drew ?_ | refine blk_alloc ?_ _)); exact BK173.out) hb)
           have n7_ := Aside0.mk (blk_below (g := gb187) (o := .cells #[.slice Ao34 t180.length co34, .slice Ao39 t183.length co39] 25 (0, 0)) (by (with_reducible repeat (first | refine blk_drewN ?_ _ | refine blk_drew ?_ | refine blk_alloc ?_ _)); exact BK187.out) hb)
           have n8_ := Aside0.mk (below_step (by repeat (first | (with_reducible first | exact HB.out | apply below_alloc | apply pw_below_drewN | apply below_drew1 | refine below_set ?_ GE171.out | refine below_set ?_ GE172.out | refine below_set ?_ GE173.out | refine below_set ?_ GE187.out) | exact HB.out)) hb)
           clear HO176
           clear HO179
           clear HO182
           clear HO185
           clear BK171
           clear BK172
           clear BK173
           clear BK187
           clear HB
           have HO176 := n0_
           have HO179 := n1_
           have HO182 := n2_
           have HO185 := n3_
           have BK171 := n4_
           have BK172 := n5_
           have BK173 := n6_
           have BK187 := n7_
           have HB := n8_
           clear n0_ n1_ n2_ n3_ n4_ n5_ n6_ n7_ n8_
           (try clear hb)
           (try clear hb2)
           (try clear hk)
           (try clear hi)
           refine hK.out _ _ ⟨(blk_cell BK171.out 0).trans rfl, (blk_cell BK171.out 1).trans rfl, (blk_cell BK171.out 2).trans rfl, (blk_cell BK172.out 0).trans rfl, (blk_cell BK172.out 1).trans rfl, (blk_cell BK172.out 2).trans rfl, (blk_cell BK173.out 0).trans rfl, (blk_cell BK173.out 1).trans rfl, (blk_cell BK173.out 2).trans rfl, (blk_cell BK187.out 0).trans rfl, (blk_cell BK187.out 1).trans rfl, HS11_, HS12_, HS13_, HS14_, HS15_, HS16_⟩ (fun hHeld => ?_)
           clear hK K
           refine norm_ (a' := ?_) ?_ ?_
           rotate_left
           ·show Act.put _ (some 51) _ = _
            simp only [Act.put, List.setIfInBounds_toArray, List.set_cons_zero, List.set_cons_succ, i64_w, i32_w]
            rfl
           refine pure_ (i := 32) (N := some 52) (v := ?_) (a' := ?_) #[true, true, true, true, true, true, true, true, true, true, true, true, true, true, true, true, true, true, true, true, true, true, true, true, true, true, true, true, true, true, true, true, true, false, false, false, false, false, false, false, false, false, false, false, false, false, false, false, false, false] rfl rfl (any_of HT_.out (by kernel_rfl)) (fun _ _ _ h => h) (Or.inl ⟨by rfl, ?_⟩) ?_ ?_
           rotate_left
           ·intro w'
            go_simp
            with_reducible rfl
           rotate_left
           ·simp only [Act.put, List.setIfInBounds_toArray, List.set_cons_zero, List.set_cons_succ, i64_w, i32_w]
            rfl
           refine pure_ (i := 33) (N := some 53) (v := ?_) (a' := ?_) #[true, true, true, true, true, true, true, true, true, true, true, true, true, true, true, true, true, true, true, true, true, true, true, true, true, true, true, true, true, true, true, true, true, true, false, false, false, false, false, false, false, false, false, false, false, false, false, false, false, false] rfl rfl (any_of HT_.out (by kernel_rfl)) (fun _ _ _ h => h) (Or.inl ⟨by rfl, ?_⟩) ?_ ?_
           rotate_left
           ·intro w'
            go_simp
            with_reducible rfl
           rotate_left
           ·simp only [Act.put, List.setIfInBounds_toArray, List.set_cons_zero, List.set_cons_succ, i64_w, i32_w]
            rfl
           refine pure_ (i := 34) (N := some 54) (v := ?_) (a' := ?_) #[true, true, true, true, true, true, true, true, true, true, true, true, true, true, true, true, true, true, true, true, true, true, true, true, true, true, true, true, true, true, true, true, true, true, true, false, false, false, false, false, false, false, false, false, false, false, false, false, false, false] rfl rfl (any_of HT_.out (by kernel_rfl)) (fun _ _ _ h => h) (Or.inl ⟨by rfl, ?_⟩) ?_ ?_
           rotate_left
           ·intro w'
            go_simp
            with_reducible rfl
           rotate_left
           ·simp only [Act.put, List.setIfInBounds_toArray, List.set_cons_zero, List.set_cons_succ, i64_w, i32_w]
            rfl
           refine pure_ (i := 35) (N := some 55) (v := ?_) (a' := ?_) #[true, true, true, true, true, true, true, true, true, true, true, true, true, true, true, true, true, true, true, true, true, true, true, true, true, true, true, true, true, true, true, true, true, true, true, true, false, false, false, false, false, false, false, false, false, false, false, false, false, false] rfl rfl (any_of HT_.out (by kernel_rfl)) (fun _ _ _ h => h) (Or.inl ⟨by rfl, ?_⟩) ?_ ?_
           rotate_left
           ·intro w'
            go_simp
            with_reducible rfl
           rotate_left
           ·simp only [Act.put, List.setIfInBounds_toArray, List.set_cons_zero, List.set_cons_succ, i64_w, i32_w]
            rfl
           refine pure_ (i := 36) (N := some 56) (v := ?_) (a' := ?_) #[true, true, true, true, true, true, true, true, true, true, true, true, true, true, true, true, true, true, true, true, true, true, true, true, true, true, true, true, true, true, true, true, true, true, true, true, true, false, false, false, false, false, false, false, false, false, false, false, false, false] rfl rfl (any_of HT_.out (by kernel_rfl)) (fun _ _ _ h => h) (Or.inl ⟨by rfl, ?_⟩) ?_ ?_
           rotate_left
           ·intro w'
            go_simp
            with_reducible rfl
           rotate_left
           ·simp only [Act.put, List.setIfInBounds_toArray, List.set_cons_zero, List.set_cons_succ, i64_w, i32_w]
            rfl
           refine pure_ (i := 37) (N := some 57) (v := ?_) (a' := ?_) #[true, true, true, true, true, true, true, true, true, true, true, true, true, true, true, true, true, true, true, true, true, true, true, true, true, true, true, true, true, true, true, true, true, true, true, true, true, true, false, false, false, false, false, false, false, false, false, false, false, false] rfl rfl (any_of HT_.out (by kernel_rfl)) (fun _ _ _ h => h) (Or.inl ⟨by rfl, ?_⟩) ?_ ?_
           rotate_left
           ·intro w'
            go_simp
            with_reducible rfl
           rotate_left
           ·simp only [Act.put, List.setIfInBounds_toArray, List.set_cons_zero, List.set_cons_succ, i64_w, i32_w]
            rfl
           refine pure_ (i := 38) (N := some 58) (v := ?_) (a' := ?_) #[true, true, true, true, true, true, true, true, true, true, true, true, true, true, true, true, true, true, true, true, true, true, true, true, true, true, true, true, true, true, true, true, true, true, true, true, true, true, true, false, false, false, false, false, false, false, false, false, false, false] rfl rfl (any_of HT_.out (by kernel_rfl)) (fun _ _ _ h => h) (Or.inl ⟨by rfl, ?_⟩) ?_ ?_
           rotate_left
           ·intro w'
            go_simp
            with_reducible rfl
           rotate_left
           ·simp only [Act.put, List.setIfInBounds_toArray, List.set_cons_zero, List.set_cons_succ, i64_w, i32_w]
            rfl
           refine pure_ (i := 39) (N := some 59) (v := ?_) (a' := ?_) #[true, true, true, true, true, true, true, true, true, true, true, true, true, true, true, true, true, true, true, true, true, true, true, true, true, true, true, true, true, true, true, true, true, true, true, true, true, true, true, true, false, false, false, false, false, false, false, false, false, false] rfl rfl (any_of HT_.out (by kernel_rfl)) (fun _ _ _ h => h) (Or.inl ⟨by rfl, ?_⟩) ?_ ?_
           rotate_left
           ·intro w'
            go_simp
            with_reducible rfl
           rotate_left
           ·simp only [Act.put, List.setIfInBounds_toArray, List.set_cons_zero, List.set_cons_succ, i64_w, i32_w]
            rfl
           refine one_ (i := 40) (N := some 60) #[true, true, true, true, true, true, true, true, true, true, true, true, true, true, true, true, true, true, true, true, true, true, true, true, true, true, true, true, true, true, true, true, true, true, true, true, true, true, true, true, true, false, false, false, false, false, false, false, false, false] rfl rfl (one_of HT_.out (by kernel_rfl)) (by decide) (fun K hK => ?_)
           refine goes_ Tryd.func36 (by kernel_rfl) rfl #[.agg #[.string (⟨#[]⟩ : ByteArray), .int .u64 0, .int .u64 0]] (by rfl) rfl rfl (by (try simp only [List.map_toArray, List.map_cons, List.map_nil]); first | done | rfl | (simp only [List.length_drop, List.length_take]; rfl)) ?_
           with_reducible refine (rank_Check.calls (⟨#[]⟩ : ByteArray) 0 0 t193 _ A15.out).mono ?_
           rintro e w46 ⟨rfl, hb⟩
           have HS11_ := (hb.cell (World.block_lt_of_cell? _ _ (hHeld.2.2.2.2.2.2.2.2.2.2.2.1))).trans (hHeld.2.2.2.2.2.2.2.2.2.2.2.1)
           have HS12_ := (hb.cell (World.block_lt_of_cell? _ _ (hHeld.2.2.2.2.2.2.2.2.2.2.2.2.1))).trans (hHeld.2.2.2.2.2.2.2.2.2.2.2.2.1)
           have HS13_ := (hb.cell (World.block_lt_of_cell? _ _ (hHeld.2.2.2.2.2.2.2.2.2.2.2.2.2.1))).trans (hHeld.2.2.2.2.2.2.2.2.2.2.2.2.2.1)
           have HS14_ := (hb.cell (World.block_lt_of_cell? _ _ (hHeld.2.2.2.2.2.2.2.2.2.2.2.2.2.2.1))).trans (hHeld.2.2.2.2.2.2.2.2.2.2.2.2.2.2.1)
           have HS15_ := (hb.cell (World.block_lt_of_cell? _ _ (hHeld.2.2.2.2.2.2.2.2.2.2.2.2.2.2.2.1))).trans (hHeld.2.2.2.2.2.2.2.2.2.2.2.2.2.2.2.1)
           have HS16_ := (hb.cell (World.block_lt_of_cell? _ _ (hHeld.2.2.2.2.2.2.2.2.2.2.2.2.2.2.2.2))).trans (hHeld.2.2.2.2.2.2.2.2.2.2.2.2.2.2.2.2)
           refine ⟨_, rfl, ?_⟩
           have n0_ := Aside0.mk (Kd.R_below (by (with_reducible repeat (first | apply Kd.R_alloc | apply Kd.R_drewN | apply Kd.R_drew)); exact HO176.out) hb)
           have n1_ := Aside0.mk (Kd.R_below (by (with_reducible repeat (first | apply Kd.R_alloc | apply Kd.R_drewN | apply Kd.R_drew)); exact HO179.out) hb)
           have n2_ := Aside0.mk (Kd.R_below (by (with_reducible repeat (first | apply Kd.R_alloc | apply Kd.R_drewN | apply Kd.R_drew)); exact HO182.out) hb)
           have n3_ := Aside0.mk (Kd.R_below (by (with_reducible repeat (first | apply Kd.R_alloc | apply Kd.R_drewN | apply Kd.R_drew)); exact HO185.out) hb)
           have n4_ := Aside0.mk (blk_below (g := gb171) (o := .cells #[.string (⟨#[120]⟩ : ByteArray), .int .u64 6, .int .u64 3] 42 (0, 0)) (by (with_reducible repeat (first | refine blk_drewN ?_ _ | refine blk_drew ?_ | refine blk_alloc ?_ _)); exact BK171.out) hb)
           have n5_ := Aside0.mk (blk_below (g := gb172) (o := .cells #[.string (⟨#[121]⟩ : ByteArray), .int .u64 5, .int .u64 2] 42 (0, 0)) (by (with_reducible repeat (first | refine blk_drewN ?_ _ | refine blk_drew ?_ | refine blk_alloc ?_ _)); exact BK172.out) hb)
           have n6_ := Aside0.mk (blk_below (g := gb173) (o := .cells #[.string (⟨#[97]⟩ : ByteArray), .int .u64 4, .int .u64 2] 42 (0, 0)) (by (with_reducible repeat (first | refine blk_drewN ?_ _ | refine blk_drew ?_ | refine blk_alloc ?_ _)); exact BK173.out) hb)
           have n7_ := Aside0.mk (blk_below (g := gb187) (o := .cells #[.slice Ao34 t180.length co34, .slice Ao39 t183.length co39] 25 (0, 0)) (by (with_reducible repeat (first | refine blk_drewN ?_ _ | refine blk_drew ?_ | refine blk_alloc ?_ _)); exact BK187.out) hb)
           have n8_ := Aside0.mk (below_step (by repeat (first | (with_reducible first | exact HB.out | apply below_alloc | apply pw_below_drewN | apply below_drew1 | refine below_set ?_ GE171.out | refine below_set ?_ GE172.out | refine below_set ?_ GE173.out | refine below_set ?_ GE187.out) | exact HB.out)) hb)
           clear HO176
           clear HO179
           clear HO182
           clear HO185
           clear BK171
           clear BK172
           clear BK173
           clear BK187
           clear HB
           have HO176 := n0_
           have HO179 := n1_
           have HO182 := n2_
           have HO185 := n3_
           have BK171 := n4_
           have BK172 := n5_
           have BK173 := n6_
           have BK187 := n7_
           have HB := n8_
           clear n0_ n1_ n2_ n3_ n4_ n5_ n6_ n7_ n8_
           (try clear hb)
           (try clear hb2)
           (try clear hk)
           (try clear hi)
           refine hK.out _ _ ⟨(blk_cell BK171.out 0).trans rfl, (blk_cell BK171.out 1).trans rfl, (blk_cell BK171.out 2).trans rfl, (blk_cell BK172.out 0).trans rfl, (blk_cell BK172.out 1).trans rfl, (blk_cell BK172.out 2).trans rfl, (blk_cell BK173.out 0).trans rfl, (blk_cell BK173.out 1).trans rfl, (blk_cell BK173.out 2).trans rfl, (blk_cell BK187.out 0).trans rfl, (blk_cell BK187.out 1).trans rfl, HS11_, HS12_, HS13_, HS14_, HS15_, HS16_⟩ (fun hHeld => ?_)
           clear hK K
           refine norm_ (a' := ?_) ?_ ?_
           rotate_left
           ·show Act.put _ (some 60) _ = _
            simp only [Act.put, List.setIfInBounds_toArray, List.set_cons_zero, List.set_cons_succ, i64_w, i32_w]
            rfl
           refine pure_ (i := 41) (N := some 61) (v := ?_) (a' := ?_) #[true, true, true, true, true, true, true, true, true, true, true, true, true, true, true, true, true, true, true, true, true, true, true, true, true, true, true, true, true, true, true, true, true, true, true, true, true, true, true, true, true, true, false, false, false, false, false, false, false, false] rfl rfl (any_of HT_.out (by kernel_rfl)) (fun _ _ _ h => h) (Or.inl ⟨by rfl, ?_⟩) ?_ ?_
           rotate_left
           ·intro w'
            go_simp
            with_reducible rfl
           rotate_left
           ·simp only [Act.put, List.setIfInBounds_toArray, List.set_cons_zero, List.set_cons_succ, i64_w, i32_w]
            rfl
           refine pure_ (i := 42) (N := some 62) (v := ?_) (a' := ?_) #[true, true, true, true, true, true, true, true, true, true, true, true, true, true, true, true, true, true, true, true, true, true, true, true, true, true, true, true, true, true, true, true, true, true, true, true, true, true, true, true, true, true, true, false, false, false, false, false, false, false] rfl rfl (any_of HT_.out (by kernel_rfl)) (fun _ _ _ h => h) (Or.inl ⟨by rfl, ?_⟩) ?_ ?_
           rotate_left
           ·intro w'
            go_simp
            with_reducible rfl
           rotate_left
           ·simp only [Act.put, List.setIfInBounds_toArray, List.set_cons_zero, List.set_cons_succ, i64_w, i32_w]
            rfl
           refine pure_ (i := 43) (N := some 63) (v := ?_) (a' := ?_) #[true, true, true, true, true, true, true, true, true, true, true, true, true, true, true, true, true, true, true, true, true, true, true, true, true, true, true, true, true, true, true, true, true, true, true, true, true, true, true, true, true, true, true, true, false, false, false, false, false, false] rfl rfl (any_of HT_.out (by kernel_rfl)) (fun _ _ _ h => h) (Or.inl ⟨by rfl, ?_⟩) ?_ ?_
           rotate_left
           ·intro w'
            go_simp
            with_reducible rfl
           rotate_left
           ·simp only [Act.put, List.setIfInBounds_toArray, List.set_cons_zero, List.set_cons_succ, i64_w, i32_w]
            rfl
           refine pure_ (i := 44) (N := some 64) (v := ?_) (a' := ?_) #[true, true, true, true, true, true, true, true, true, true, true, true, true, true, true, true, true, true, true, true, true, true, true, true, true, true, true, true, true, true, true, true, true, true, true, true, true, true, true, true, true, true, true, true, true, false, false, false, false, false] rfl rfl (any_of HT_.out (by kernel_rfl)) (fun _ _ _ h => h) (Or.inl ⟨by rfl, ?_⟩) ?_ ?_
           rotate_left
           ·intro w'
            go_simp
            with_reducible rfl
           rotate_left
           ·simp only [Act.put, List.setIfInBounds_toArray, List.set_cons_zero, List.set_cons_succ, i64_w, i32_w]
            rfl
           refine one_ (i := 45) (N := some 65) #[true, true, true, true, true, true, true, true, true, true, true, true, true, true, true, true, true, true, true, true, true, true, true, true, true, true, true, true, true, true, true, true, true, true, true, true, true, true, true, true, true, true, true, true, true, true, false, false, false, false] rfl rfl (one_of HT_.out (by kernel_rfl)) (by decide) (fun K hK => ?_)
           refine goes_ Tryd.func40 (by kernel_rfl) rfl #[.slice (some ad190) t177.length co44, .int .i64 2] (by rfl) rfl rfl (by (try simp only [List.map_toArray, List.map_cons, List.map_nil]); first | done | rfl | (simp only [List.length_drop, List.length_take]; rfl)) ?_
           with_reducible refine (rank_Least.calls k _ _ t177 2 t194 _ ?side1 ?side2 A17.out).mono ?_
           (case side1 => repeat (first | exact (Kd.R_reads' HO179.out).2.2 | (with_reducible refine Kd.C_alloc ?_ _) | (with_reducible refine Kd.C_drewN ?_ _) | (with_reducible refine Kd.C_drew ?_)))
           (case side2 => exact (Kd.R_reads' HO179.out).2.1)
           rintro e w47 ⟨v195, rfl, ho0, hb⟩
           have HS11_ := (hb.cell (World.block_lt_of_cell? _ _ (hHeld.2.2.2.2.2.2.2.2.2.2.2.1))).trans (hHeld.2.2.2.2.2.2.2.2.2.2.2.1)
           have HS12_ := (hb.cell (World.block_lt_of_cell? _ _ (hHeld.2.2.2.2.2.2.2.2.2.2.2.2.1))).trans (hHeld.2.2.2.2.2.2.2.2.2.2.2.2.1)
           have HS13_ := (hb.cell (World.block_lt_of_cell? _ _ (hHeld.2.2.2.2.2.2.2.2.2.2.2.2.2.1))).trans (hHeld.2.2.2.2.2.2.2.2.2.2.2.2.2.1)
           have HS14_ := (hb.cell (World.block_lt_of_cell? _ _ (hHeld.2.2.2.2.2.2.2.2.2.2.2.2.2.2.1))).trans (hHeld.2.2.2.2.2.2.2.2.2.2.2.2.2.2.1)
           have HS15_ := (hb.cell (World.block_lt_of_cell? _ _ (hHeld.2.2.2.2.2.2.2.2.2.2.2.2.2.2.2.1))).trans (hHeld.2.2.2.2.2.2.2.2.2.2.2.2.2.2.2.1)
           have HS16_ := (hb.cell (World.block_lt_of_cell? _ _ (hHeld.2.2.2.2.2.2.2.2.2.2.2.2.2.2.2.2))).trans (hHeld.2.2.2.2.2.2.2.2.2.2.2.2.2.2.2.2)
           refine ⟨_, rfl, ?_⟩
           have n0_ := Aside0.mk (Kd.R_elder' (by (with_reducible repeat (first | apply Kd.R_alloc | apply Kd.R_drewN | apply Kd.R_drew)); exact HO176.out) (Kd.R_base ho0) hb)
           have n1_ := Aside0.mk (Kd.R_elder' (by (with_reducible repeat (first | apply Kd.R_alloc | apply Kd.R_drewN | apply Kd.R_drew)); exact HO179.out) (Kd.R_base ho0) hb)
           have n2_ := Aside0.mk (Kd.R_below (by (with_reducible repeat (first | apply Kd.R_alloc | apply Kd.R_drewN | apply Kd.R_drew)); exact HO182.out) hb)
           have n3_ := Aside0.mk (Kd.R_below (by (with_reducible repeat (first | apply Kd.R_alloc | apply Kd.R_drewN | apply Kd.R_drew)); exact HO185.out) hb)
           have n4_ := Aside0.mk (Kd.R_lower (Kd.R_newB (Kd.R_newB (Kd.R_newB (Kd.R_new' (Kd.R_new' ho0 (Kd.R_lt (by (with_reducible repeat (first | apply Kd.R_alloc | apply Kd.R_drewN | apply Kd.R_drew)); exact HO176.out))) (Kd.R_lt (by (with_reducible repeat (first | apply Kd.R_alloc | apply Kd.R_drewN | apply Kd.R_drew)); exact HO179.out))) (g := gb171) (o := .cells #[.string (⟨#[120]⟩ : ByteArray), .int .u64 6, .int .u64 3] 42 (0, 0)) (by (with_reducible repeat (first | refine blk_drewN ?_ _ | refine blk_drew ?_ | refine blk_alloc ?_ _)); exact BK171.out)) (g := gb172) (o := .cells #[.string (⟨#[121]⟩ : ByteArray), .int .u64 5, .int .u64 2] 42 (0, 0)) (by (with_reducible repeat (first | refine blk_drewN ?_ _ | refine blk_drew ?_ | refine blk_alloc ?_ _)); exact BK172.out)) (g := gb173) (o := .cells #[.string (⟨#[97]⟩ : ByteArray), .int .u64 4, .int .u64 2] 42 (0, 0)) (by (with_reducible repeat (first | refine blk_drewN ?_ _ | refine blk_drew ?_ | refine blk_alloc ?_ _)); exact BK173.out)) (below_size (by repeat (first | (with_reducible first | exact HB.out | apply below_alloc | apply pw_below_drewN | apply below_drew1 | refine below_set ?_ GE171.out | refine below_set ?_ GE172.out | refine below_set ?_ GE173.out | refine below_set ?_ GE187.out) | exact HB.out))))
           have n5_ := Aside0.mk (blk_below (g := gb171) (o := .cells #[.string (⟨#[120]⟩ : ByteArray), .int .u64 6, .int .u64 3] 42 (0, 0)) (by (with_reducible repeat (first | refine blk_drewN ?_ _ | refine blk_drew ?_ | refine blk_alloc ?_ _)); exact BK171.out) hb)
           have n6_ := Aside0.mk (blk_below (g := gb172) (o := .cells #[.string (⟨#[121]⟩ : ByteArray), .int .u64 5, .int .u64 2] 42 (0, 0)) (by (with_reducible repeat (first | refine blk_drewN ?_ _ | refine blk_drew ?_ | refine blk_alloc ?_ _)); exact BK172.out) hb)
           have n7_ := Aside0.mk (blk_below (g := gb173) (o := .cells #[.string (⟨#[97]⟩ : ByteArray), .int .u64 4, .int .u64 2] 42 (0, 0)) (by (with_reducible repeat (first | refine blk_drewN ?_ _ | refine blk_drew ?_ | refine blk_alloc ?_ _)); exact BK173.out) hb)
           have n8_ := Aside0.mk (blk_below (g := gb187) (o := .cells #[.slice Ao34 t180.length co34, .slice Ao39 t183.length co39] 25 (0, 0)) (by (with_reducible repeat (first | refine blk_drewN ?_ _ | refine blk_drew ?_ | refine blk_alloc ?_ _)); exact BK187.out) hb)
           have n9_ := Aside0.mk (below_step (by repeat (first | (with_reducible first | exact HB.out | apply below_alloc | apply pw_below_drewN | apply below_drew1 | refine below_set ?_ GE171.out | refine below_set ?_ GE172.out | refine below_set ?_ GE173.out | refine below_set ?_ GE187.out) | exact HB.out)) hb)
           clear HO176
           clear HO179
           clear HO182
           clear HO185
           clear BK171
           clear BK172
           clear BK173
           clear BK187
           clear HB
           have HO176 := n0_
           have HO179 := n1_
           have HO182 := n2_
           have HO185 := n3_
           have HO196 := n4_
           have BK171 := n5_
           have BK172 := n6_
           have BK173 := n7_
           have BK187 := n8_
           have HB := n9_
           clear n0_ n1_ n2_ n3_ n4_ n5_ n6_ n7_ n8_ n9_
           (try clear hb)
           (try clear hb2)
           (try clear hk)
           (try clear hi)
           (try clear ho0)
           obtain ⟨Ao48, co48, eo48⟩ := Kd.R_slice HO196.out
           (first | subst eo48 | (injection eo48 with f1_ f2_ f3_; have f4_ := f1_.symm; have f5_ := f3_.symm; clear f1_ f2_ f3_; subst f4_; subst f5_))
           refine hK.out _ _ ⟨(blk_cell BK171.out 0).trans rfl, (blk_cell BK171.out 1).trans rfl, (blk_cell BK171.out 2).trans rfl, (blk_cell BK172.out 0).trans rfl, (blk_cell BK172.out 1).trans rfl, (blk_cell BK172.out 2).trans rfl, (blk_cell BK173.out 0).trans rfl, (blk_cell BK173.out 1).trans rfl, (blk_cell BK173.out 2).trans rfl, (blk_cell BK187.out 0).trans rfl, (blk_cell BK187.out 1).trans rfl, HS11_, HS12_, HS13_, HS14_, HS15_, HS16_⟩ (fun hHeld => ?_)
           clear hK K
           refine norm_ (a' := ?_) ?_ ?_
           rotate_left
           ·show Act.put _ (some 65) _ = _
            simp only [Act.put, List.setIfInBounds_toArray, List.set_cons_zero, List.set_cons_succ, i64_w, i32_w]
            rfl
           refine pure_ (i := 46) (N := some 66) (v := ?_) (a' := ?_) #[true, true, true, true, true, true, true, true, true, true, true, true, true, true, true, true, true, true, true, true, true, true, true, true, true, true, true, true, true, true, true, true, true, true, true, true, true, true, true, true, true, true, true, true, true, true, true, false, false, false] rfl rfl (any_of HT_.out (by kernel_rfl)) (fun _ _ _ h => h) (Or.inl ⟨by rfl, ?_⟩) ?_ ?_
           rotate_left
           ·intro w'
            go_simp
            with_reducible rfl
           rotate_left
           ·simp only [Act.put, List.setIfInBounds_toArray, List.set_cons_zero, List.set_cons_succ, i64_w, i32_w]
            rfl
           refine pure_ (i := 47) (N := some 67) (v := ?_) (a' := ?_) #[true, true, true, true, true, true, true, true, true, true, true, true, true, true, true, true, true, true, true, true, true, true, true, true, true, true, true, true, true, true, true, true, true, true, true, true, true, true, true, true, true, true, true, true, true, true, true, true, false, false] rfl rfl (any_of HT_.out (by kernel_rfl)) (fun _ _ _ h => h) (Or.inl ⟨by rfl, ?_⟩) ?_ ?_
           rotate_left
           ·intro w'
            go_simp
            with_reducible rfl
           rotate_left
           ·simp only [Act.put, List.setIfInBounds_toArray, List.set_cons_zero, List.set_cons_succ, i64_w, i32_w]
            rfl
           refine pure_ (i := 48) (N := some 68) (v := ?_) (a' := ?_) #[true, true, true, true, true, true, true, true, true, true, true, true, true, true, true, true, true, true, true, true, true, true, true, true, true, true, true, true, true, true, true, true, true, true, true, true, true, true, true, true, true, true, true, true, true, true, true, true, true, false] rfl rfl (any_of HT_.out (by kernel_rfl)) (fun _ _ _ h => h) (Or.inl ⟨by rfl, ?_⟩) ?_ ?_
           rotate_left
           ·intro w'
            go_simp
            with_reducible rfl
           rotate_left
           ·simp only [Act.put, List.setIfInBounds_toArray, List.set_cons_zero, List.set_cons_succ, i64_w, i32_w]
            rfl
           refine pure_ (i := 49) (N := some 0) (v := ?_) (a' := ?_) #[true, true, true, true, true, true, true, true, true, true, true, true, true, true, true, true, true, true, true, true, true, true, true, true, true, true, true, true, true, true, true, true, true, true, true, true, true, true, true, true, true, true, true, true, true, true, true, true, true, true] rfl rfl (any_of HT_.out (by kernel_rfl)) (fun _ _ _ h => h) (Or.inl ⟨by rfl, ?_⟩) ?_ ?_
           rotate_left
           ·intro w'
            go_simp
            with_reducible rfl
           rotate_left
           ·simp only [Act.put, List.setIfInBounds_toArray, List.set_cons_zero, List.set_cons_succ, i64_w, i32_w]
            rfl
           refine done_ (done_of HT_.out (by kernel_rfl)) ?_
           try go_wp2
           go_ret
           exact ⟨by first | rfl | (simp [errW_none, errW_some] <;> rfl) | (simp [*, errW_none, errW_some] <;> rfl), by repeat (first | (with_reducible first | exact HB.out | apply below_alloc | apply pw_below_drewN | apply below_drew1 | refine below_set ?_ GE171.out | refine below_set ?_ GE172.out | refine below_set ?_ GE173.out | refine below_set ?_ GE187.out) | exact HB.out)⟩
          ·rw [if_neg c16] at H
           exact absurd ((Option.some.inj H).trans hr) (by decide)
         ·rw [if_neg c14] at H
          exact absurd ((Option.some.inj H).trans hr) (by decide)
        ·rw [if_neg c13] at H
         exact absurd ((Option.some.inj H).trans hr) (by decide)
       ·rw [if_neg c11] at H
        exact absurd ((Option.some.inj H).trans hr) (by decide)
      ·rw [if_neg c10] at H
       exact absurd H (by simp)
     ·rw [if_neg c9] at H
      exact absurd ((Option.some.inj H).trans hr) (by decide)
    ·rw [if_neg c8] at H
     exact absurd H (by simp)
   ·rw [if_neg c7] at H
    exact absurd ((Option.some.inj H).trans hr) (by decide)
  ·rw [if_neg c6] at H
   exact absurd ((Option.some.inj H).trans hr) (by decide)
 ·rw [if_neg c4] at H
  exact absurd ((Option.some.inj H).trans hr) (by decide)end Go.Proofs.YtakickbnjbedfaaDoor.PB
