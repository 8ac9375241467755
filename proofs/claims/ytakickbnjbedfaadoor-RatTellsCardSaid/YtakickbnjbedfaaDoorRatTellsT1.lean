/- RatTells: for any two rationals (any limbs at all) the law samphirelaw03.RatTells returns true, and its arguments read afterwards as they did.
   Conditions: none beyond the row's own: the two listed tables of unicode/utf8 read as their initialisers lay them (the given tie ties them to the program's text). -/
import Derived.WalkKit
import Derived.ProofKit
import Derived.OpenShut
import Derived.ChangeOld
import Derived.Below
import Derived.Deep.DeepHandedRow
import Derived.Lib.SmallJoins
import Derived.Lib.LaidTab
import Derived.Test.YtakickbnjbedfaaDoorRatTellsT0
import Derived.Test.YtakickbnjbedfaaDoorRatTellsS15
namespace Go.Proofs.YtakickbnjbedfaaDoor.Card
set_option linter.unusedVariables false
open Go.ChangeShapes Go.WideShapes Go.ChangeAt Go.RowKit Go.Proofs.YtakickbnjbedfaaDoorW.PrintWords Go.Proofs.YtakickbnjbedfaaDoorW.PrintLast Go.Proofs.YtakickbnjbedfaaDoorW.PrintMore Go.Proofs.YtakickbnjbedfaaDoor.Num Go.Proofs.YtakickbnjbedfaaDoor.F Go.Proofs.YtakickbnjbedfaaDoor.S
theorem rd_of_C {w : World} {A : Option Addr} {c : Nat} {l : List Int} (h : Kd.C (Kd.int .u32) w A l.length l) (hc : l.length ≤ c) : Rd w (.slice A l.length c) l := by
  refine ⟨A, c, rfl, hc, fun W' hW => ?_⟩
  have hs : w.heap.size ≤ W'.heap.size := by
    rcases Nat.eq_zero_or_pos w.heap.size with h0 | h0
    · omega
    · have := heap_lt (hW (w.heap.size - 1) trivial (by omega)) (by omega)
      omega
  have := Kd.C_below h (w1 := { w with heap := W'.heap }) ⟨rfl, rfl, rfl, hs, fun k hk => hW k trivial hk⟩
  exact this
theorem rd_open {H : Type} {enc : TypeId × Value → H} {W : World} {base n : Nat} {held : Bool} {v : Value} {y : DataW H × List MemPlace}
    (h : DataW.trod enc Tryd.prog W base (fun _ => true) held n 23 [v] = some y) : ∃ l, Rd W v l ∧ Wf 4294967296 l := by
  rcases open_ints Tryd.underlying23 Tryd.underlying55 (by kernel_rfl) h with ⟨hcs, _⟩ | ⟨x, l, c, zs, hcs, _, hl, hm, hz, _, hcell, hwz⟩
  · obtain rfl : v = .slice none 0 0 := by simpa using hcs
    exact ⟨[], Rd.nil W, Wf.nil _⟩
  · obtain rfl : v = .slice (some x) l c := by simpa using hcs
    obtain ⟨L, rfl, hr, hmL, hwL, hcL⟩ := ReadsInt.ofRowC (k := .u32) (w := W) (a := some x) (len := l) (cap := c) (zs := zs) (.inr ⟨x, rfl, hl, hm, by simpa using hz, hcell, hwz⟩)
    refine ⟨L, rd_of_C (Kd.C_of_reads (d := (0 : Int)) (h1 := fun _ => rfl) hr) hcL, fun y hy => ?_⟩
    have := hwL y hy
    simp [Lit.wf, IntKind.min, IntKind.max, IntKind.bits, IntKind.signed] at this
    omega
set_option maxRecDepth 100000 in
theorem contract (H : Type) (enc : TypeId × Value → H) (W : World) (base : Nat) (args : Array Value) (ds gs : List (DataW H)) (before : List MemPlace)
    (hval : ∀ (j : Nat) t v, Tryd.f3.params[j]? = some t → args[j]? = some v → Value.okWide Tryd.prog W .any base t v)
    (hW : DataW.Whole enc Tryd.prog Tryd.f3.params.toList Rows.ratTellsSpec.vars false W args.toList ds gs before) :
    Calls Tryd.prog 3 args W fun e W' => ∃ v, e = .returned v ∧ Rows.ratTellsSpec.post enc Tryd.prog Tryd.f3 false true false false W args v W' := by
  have hW' := hW
  obtain ⟨p, q, hA0, hV, rfl, hfz, hnd⟩ := hW
  have hA : DataW.TrodAll enc Tryd.prog W 0 (fun _ => true) true Tryd.f3.params.toList args.toList ds p := hA0
  rw [Tryd.params3] at hA hval
  obtain ⟨v0, vs0, d0, ds0, p0, q0, hargs, rfl, rfl, h0, r0⟩ := trodAll_cons hA
  obtain ⟨v1, vs1, d1, ds1, p1, q1, rfl, rfl, rfl, h1, r1⟩ := trodAll_cons r0
  obtain ⟨rfl, rfl, rfl⟩ := trodAll_nil r1
  obtain rfl : args = #[v0, v1] := by cases args; simp_all
  obtain ⟨rfl, rfl⟩ := trodVars_none hV
  have k0 := h0
  have k1 := h1
  have lt0 : ∀ x ∈ p0, x.block < W.heap.size := by obtain ⟨m, hm⟩ := k0; exact DataW.trod_lt m _ _ _ hm
  have lt1 : ∀ x ∈ p1, x.block < W.heap.size := by obtain ⟨m, hm⟩ := k1; exact DataW.trod_lt m _ _ _ hm
  obtain ⟨a0, a1, y0, y1, n0, rfl, rfl, rfl, t0, t1⟩ := Joins.open_agg2 Tryd.underlying25 (by kernel_rfl) (by kernel_rfl) (hval 0 25 v0 rfl rfl) h0
  obtain ⟨b0, b1, z0, z1, n1, rfl, rfl, rfl, u0, u1⟩ := Joins.open_agg2 Tryd.underlying25 (by kernel_rfl) (by kernel_rfl) (hval 1 25 v1 rfl rfl) h1
  obtain ⟨l, hl, wl⟩ := rd_open t0
  obtain ⟨m, hm, wm⟩ := rd_open t1
  obtain ⟨l', hl', wl'⟩ := rd_open u0
  obtain ⟨m', hm', wm'⟩ := rd_open u1
  refine (tells hl hm hl' hm' wl wm wl' wm').mono fun e W' ⟨he, bel⟩ => ?_
  subst he
  exact ⟨_, rfl, _, _, _, [], _, [], hW', trodAll_mk1 (shut_bool Tryd.underlying4 _), (trodAll_cons_mk (Below.trod laidOut (by kernel_rfl) (of_decide_eq_true (by kernel_rfl)) k0 bel lt0) (trodAll_cons_mk (Below.trod laidOut (by kernel_rfl) (of_decide_eq_true (by kernel_rfl)) k1 bel lt1) trodAll_mk0)), rfl, bel.frame _, fun h => by cases h⟩
def none2 : Array Value := #[.agg #[.slice none 0 0, .slice none 0 0], .agg #[.slice none 0 0, .slice none 0 0]]
theorem reads (os : Os) {H : Type} (enc : TypeId × Value → H) : ∃ places, DataW.whole enc Tryd.prog ((laidWorld os).forCall (fun _ _ => 0) ⟨#[], none2, []⟩).memory Tryd.f3.params.toList Rows.ratTellsSpec.vars false none2.toList 8 = some ([.agg [.nil, .nil], .agg [.nil, .nil]], [], places) :=
  ⟨[], by kernel_rfl⟩
set_option maxRecDepth 100000 in
theorem lifted (os : Os) (started : os.Started) (H : Type) (enc : TypeId × Value → H) (F : Stop.Interp) :
    ReturnsInHanded {} Tryd.checked os 3 .any ((OpenSpec.ofChange Rows.ratTellsSpec).preRow enc Tryd.prog Tryd.f3 Rows.ratTellsRow.domain false Rows.ratTellsRow.laid) (((OpenSpec.ofChange Rows.ratTellsSpec).at F).post enc Tryd.prog Tryd.f3 false true false false) := by
  obtain ⟨places, hx⟩ := reads os enc
  refine returnsInHanded_of_row (C := Tryd.checked) (s := OpenSpec.ofChange Rows.ratTellsSpec) own started (by kernel_rfl) Tryd.func3
    (witness_row_at (enc := enc) (C := Tryd.checked) false (laidWorld os) none2 rfl (by kernel_rfl) (by kernel_rfl) (by kernel_rfl)
      (OpenSpec.preRow_of_cond 8 hx (by kernel_rfl) (fun k hk => by cases hk) (by kernel_rfl) (laid_met os none2))) ?_
  intro W base args ds gs before hval hW _ _ _ hL _ _
  exact contract H enc W base args ds gs before hval hW
theorem said : Rows.RatTellsSaid :=
  OpenClaim.holds_of_cond 3 Tryd.f3 rfl rfl rfl rfl rfl rfl rfl ⟨rfl, rfl, rfl, rfl, rfl⟩ rfl rfl rfl rfl rfl (by kernel_rfl) Tryd.func3 (by kernel_rfl)
    (of_decide_eq_true (by kernel_rfl)) (by unfold Func.isWrapper; first | (rw [if_pos (by decide +kernel)]; kernel_rfl) | (rw [if_neg (by decide +kernel)]; exact ⟨rfl, rfl⟩))
    (fun os started H enc _ F => by rw [OpenClaim.pre_eq_preRow]; exact lifted os started H enc F)
theorem plain (f : FuncId) (fn : Func) (hf : Tryd.pinned.checked.prog.funcNamed "samphire/samphirelaw03.RatTells" = some f) (hfn : Tryd.pinned.checked.prog.funcs[f]? = some fn) :
    false = Tryd.pinned.checked.prog.looks [] ∧ ∀ (j : Nat) t, fn.params[j]? = some t → Tryd.pinned.checked.prog.wantsStandIn t = false := by
  obtain rfl : f = 3 := Option.some.inj ((show Tryd.prog.funcNamed "samphire/samphirelaw03.RatTells" = some 3 by kernel_rfl).symm.trans hf) |>.symm
  obtain rfl : fn = Tryd.f3 := (Option.some.inj (Tryd.func3.symm.trans hfn)).symm
  refine ⟨by kernel_rfl, fun j t ht => ?_⟩
  rw [Tryd.params3] at ht
  have hm : t ∈ [25, 25] := by simpa using Array.mem_of_getElem? ht
  have hall : ([25, 25].all fun u => !Tryd.prog.wantsStandIn u) = true := by kernel_rfl
  exact (show Tryd.prog.wantsStandIn t = false by simpa using List.all_eq_true.1 hall t hm)
theorem card : Rows.RatTellsCardSaid :=
  Claim7.holds_tied_plain_at .later [] _ _ _ _ said (fun _ h => by cases h) (by kernel_rfl) (fun _ h => by cases h) ratTells_row_tie rfl ⟨rfl, rfl⟩ (by kernel_rfl) rfl plain (by kernel_rfl)
end Go.Proofs.YtakickbnjbedfaaDoor.Card
