/- Part of the proof of Card. -/
import Derived.Test.YtakickbnjbedfaaDoorRatTellsS11
namespace Go.Proofs.YtakickbnjbedfaaDoor.S
set_option linter.unusedVariables false
set_option linter.unusedSimpArgs false
open Go.RowKit Go.Proofs.YtakickbnjbedfaaDoorW.PrintWords Go.Proofs.YtakickbnjbedfaaDoorW.PrintLast Go.Proofs.YtakickbnjbedfaaDoorW.PrintMore Go.Proofs.YtakickbnjbedfaaDoor.PA Go.Proofs.YtakickbnjbedfaaDoor.Num Go.Proofs.YtakickbnjbedfaaDoor.F Go.Proofs.YtakickbnjbedfaaDoor.R
def Box (W : World) (b : Nat) (z y : Value) (l m : List Int) : Prop := Pair W b z y ∧ Rd W z l ∧ Rd W y m
theorem Box.below {W W' : World} {b : Nat} {z y : Value} {l m : List Int} (h : Box W b z y l m) (hb : Below W.heap.size W W') : Box W' b z y l m := ⟨h.1.below hb, h.2.1.below hb, h.2.2.below hb⟩
theorem Box.new {W : World} {z y : Value} {l m : List Int} (hz : Rd W z l) (hy : Rd W y m) : Box (W.alloc (.cells #[z, y] 25)) W.heap.size z y l m := ⟨Pair.new _ _ _, hz.alloc _, hy.alloc _⟩
theorem right_of {W0 W : World} {u v : Value} {l m : List Int} (hu : Rd W0 u l) (hv : Rd W0 v m) (hl0 : Wf 4294967296 l) (hm0 : Wf 4294967296 m) (t : Bool) (ht : isRat l m = t) (hb : Below W0.heap.size W0 W) :
    Calls Tryd.prog 18 #[.agg #[u, v]] W fun e w' => e = .returned (.bool t) ∧ Below W0.heap.size W0 w' := by
  refine (dright_c (hu.below hb) (hv.below hb) hl0 hm0 t ht).mono ?_
  rintro e w' ⟨rfl, hb2⟩
  exact ⟨rfl, below_trans hb hb2⟩
section
variable {w : World} {u v u' v' : Value} {l m l' m' : List Int}
set_option maxHeartbeats 8000000 in
set_option maxRecDepth 100000 in
theorem tells_bad_tf (hu : Rd w u l) (hv : Rd w v m) (hu' : Rd w u' l') (hv' : Rd w v' m') (hl0 : Wf 4294967296 l) (hm0 : Wf 4294967296 m) (hl0' : Wf 4294967296 l') (hm0' : Wf 4294967296 m') (hs1 : l.length ≤ 70 ∧ m.length ≤ 70) (hs2 : l'.length ≤ 70 ∧ m'.length ≤ 70) (ha : isRat l m = true) (hb0 : isRat l' m' = false) :
    Calls Tryd.prog 3 #[.agg #[u, v], .agg #[u', v']] w (OneB w true) := by
  have H := Aside0.mk (Held.start hu hv hu' hv')
  have hwl := Aside0.mk hl0
  have hwm := Aside0.mk hm0
  have hwl' := Aside0.mk hl0'
  have hwm' := Aside0.mk hm0'
  have hba := Aside0.mk ha
  have hbb := Aside0.mk hb0
  have hS1 := Aside0.mk hs1
  have hS2 := Aside0.mk hs2
  clear hl0 hm0 hl0' hm0' ha hb0 hs1 hs2 hu hv hu' hv'
  have hg2 : w.heap.size + 1 = w.heap.size + 1 := rfl
  have C := dsmall_c H.out.2.2.1 H.out.2.2.2.1 true (decide_eq_true hS1.out)
  clear hg2
  go_enter Tryd.func3, Tryd.ntmps3
  go_wp2_with fail
  refine C.mono ?_
  rintro e w1 ⟨rfl, hb⟩
  clear C
  replace H := Aside0.mk (H.out.below hb)
  clear hb
  have C := dsmall_c H.out.2.2.2.2.1 H.out.2.2.2.2.2.1 true (decide_eq_true hS2.out)
  obtain ⟨⟨x1, x2, x3⟩, ⟨x4, x5, x6⟩, _⟩ := H.out
  go_wp2_with fail
  refine C.mono ?_
  rintro e wq1 ⟨rfl, hb⟩
  clear C x1 x2 x3 x4 x5 x6
  have hb' := hb
  replace H := Aside0.mk (H.out.below hb')
  clear hb hb'
  go_upto_region 3 with fail
  go_cut [5, 6] from 37 to 40 (fun v5 v6 wx => v5 = .bool true ∧ v6 = .bool false ∧ Below wq1.heap.size wq1 wx)
  case first =>
    have hbd := Aside0.mk (pw_below_drewN (Below.refl wq1.heap.size wq1) 1)
    have HF := Aside0.mk (fun W (h : Below wq1.heap.size wq1 W) => And.intro (H.out.below h).1.2 (H.out.below h).2.1.2)
    have hf1 := HF.out _ hbd.out
    go_region_held3 (fun W => (W.cell? ⟨w.heap.size, 0, none⟩ = some u ∧ W.cell? ⟨w.heap.size, 1, none⟩ = some v) ∧ (W.cell? ⟨w.heap.size + 1, 0, none⟩ = some u' ∧ W.cell? ⟨w.heap.size + 1, 1, none⟩ = some v')) (first | exact hf1 | exact HF.out _ Hb3.out | exact HF.out _ Hb2.out) (first
      | (go_at_call_of 18 u; refine (right_of (W0 := wq1) H.out.2.2.1 H.out.2.2.2.1 hwl.out hwm.out true hba.out ?_).mono ?_; (first | exact hbd.out); rintro e w2 ⟨rfl, hb2⟩; have Hb2 := Aside0.mk hb2; clear hb2)
      | (go_at_call_of 18 u'; refine (right_of (W0 := wq1) H.out.2.2.2.2.1 H.out.2.2.2.2.2.1 hwl'.out hwm'.out false hbb.out ?_).mono ?_; (first | exact Hb2.out); rintro e w3 ⟨rfl, hb3⟩; have Hb3 := Aside0.mk hb3; clear hb3))
    all_goals (go_wp2_with fail; go_meet)
    all_goals exact ⟨rfl, rfl, Hb3.out⟩
  case rest =>
    obtain ⟨rfl, rfl, hb⟩ := hcut
    replace H := Aside0.mk (H.out.below hb)
    clear hb
    have C := rright_c H.out.2.2.1 H.out.2.2.2.1 hwl.out hwm.out true hba.out
    obtain ⟨⟨x1, x2, x3⟩, ⟨x4, x5, x6⟩, _⟩ := H.out
    go_wp2_with fail
    refine C.mono ?_
    rintro e wq2 ⟨rfl, hb⟩
    clear C x1 x2 x3 x4 x5 x6
    have hb' := hb
    replace H := Aside0.mk (H.out.below hb')
    clear hb hb'
    have C := rright_c H.out.2.2.2.2.1 H.out.2.2.2.2.2.1 hwl'.out hwm'.out false hbb.out
    obtain ⟨⟨x1, x2, x3⟩, ⟨x4, x5, x6⟩, _⟩ := H.out
    go_wp2_with fail
    refine C.mono ?_
    rintro e wq3 ⟨rfl, hb⟩
    clear C x1 x2 x3 x4 x5 x6
    have hb' := hb
    replace H := Aside0.mk (H.out.below hb')
    clear hb hb'
    have hnb := Aside0.mk (show (isRat l m && isRat l' m') = false by rw [hba.out, hbb.out]; rfl)
    have C := radd_bad H.out.2.2.1 H.out.2.2.2.1 H.out.2.2.2.2.1 H.out.2.2.2.2.2.1 hwl.out hwm.out hwl'.out hwm'.out hnb.out
    obtain ⟨⟨x1, x2, x3⟩, ⟨x4, x5, x6⟩, _⟩ := H.out
    go_wp2_with fail
    refine C.mono ?_
    rintro e wq4 ⟨z, y, rfl, hz, hy, hb⟩
    clear C x1 x2 x3 x4 x5 x6
    obtain ⟨ABa, nBa, kBa, rfl⟩ := hz.rd.sl
    obtain ⟨DBa, eBa, jBa, rfl⟩ := hy.rd.sl
    have Ba := Aside0.mk (Box.new hz.rd hy.rd)
    have hb' := below_alloc hb (.cells #[.slice ABa nBa kBa, .slice DBa eBa jBa] 25)
    replace H := Aside0.mk (H.out.below hb')
    clear hb hb' hz hy
    have C := rsub_bad H.out.2.2.1 H.out.2.2.2.1 H.out.2.2.2.2.1 H.out.2.2.2.2.2.1 hwl.out hwm.out hwl'.out hwm'.out hnb.out
    obtain ⟨⟨x1, x2, x3⟩, ⟨x4, x5, x6⟩, _⟩ := H.out
    go_wp2_with fail
    refine C.mono ?_
    rintro e wq5 ⟨z, y, rfl, hz, hy, hb⟩
    clear C x1 x2 x3 x4 x5 x6
    obtain ⟨ABb, nBb, kBb, rfl⟩ := hz.rd.sl
    obtain ⟨DBb, eBb, jBb, rfl⟩ := hy.rd.sl
    have Bb := Aside0.mk (Box.new hz.rd hy.rd)
    have hb' := below_alloc hb (.cells #[.slice ABb nBb kBb, .slice DBb eBb jBb] 25)
    replace H := Aside0.mk (H.out.below hb')
    replace Ba := Aside0.mk (Ba.out.below hb')
    clear hb hb' hz hy
    have C := rmul_bad H.out.2.2.1 H.out.2.2.2.1 H.out.2.2.2.2.1 H.out.2.2.2.2.2.1 hwl.out hwm.out hwl'.out hwm'.out hnb.out
    obtain ⟨⟨x1, x2, x3⟩, ⟨x4, x5, x6⟩, _⟩ := H.out
    go_wp2_with fail
    refine C.mono ?_
    rintro e wq6 ⟨z, y, rfl, hz, hy, hb⟩
    clear C x1 x2 x3 x4 x5 x6
    obtain ⟨ABc, nBc, kBc, rfl⟩ := hz.rd.sl
    obtain ⟨DBc, eBc, jBc, rfl⟩ := hy.rd.sl
    have Bc := Aside0.mk (Box.new hz.rd hy.rd)
    have hb' := below_alloc hb (.cells #[.slice ABc nBc kBc, .slice DBc eBc jBc] 25)
    replace H := Aside0.mk (H.out.below hb')
    replace Ba := Aside0.mk (Ba.out.below hb')
    replace Bb := Aside0.mk (Bb.out.below hb')
    clear hb hb' hz hy
    have C := rdiv_bad H.out.2.2.1 H.out.2.2.2.1 H.out.2.2.2.2.1 H.out.2.2.2.2.2.1 hwl.out hwm.out hwl'.out hwm'.out hnb.out
    obtain ⟨⟨x1, x2, x3⟩, ⟨x4, x5, x6⟩, _⟩ := H.out
    go_wp2_with fail
    refine C.mono ?_
    rintro e wq7 ⟨z, y, rfl, hz, hy, hb⟩
    clear C x1 x2 x3 x4 x5 x6
    obtain ⟨ABd, nBd, kBd, rfl⟩ := hz.rd.sl
    obtain ⟨DBd, eBd, jBd, rfl⟩ := hy.rd.sl
    have Bd := Aside0.mk (Box.new hz.rd hy.rd)
    have hb' := below_alloc hb (.cells #[.slice ABd nBd kBd, .slice DBd eBd jBd] 25)
    replace H := Aside0.mk (H.out.below hb')
    replace Ba := Aside0.mk (Ba.out.below hb')
    replace Bb := Aside0.mk (Bb.out.below hb')
    replace Bc := Aside0.mk (Bc.out.below hb')
    clear hb hb' hz hy
    have C := rcmp_bad H.out.2.2.1 H.out.2.2.2.1 H.out.2.2.2.2.1 H.out.2.2.2.2.2.1 hwl.out hwm.out hwl'.out hwm'.out hnb.out
    obtain ⟨⟨x1, x2, x3⟩, ⟨x4, x5, x6⟩, _⟩ := H.out
    go_wp2_with fail
    refine C.mono ?_
    rintro e wq8 ⟨rfl, hb⟩
    clear C x1 x2 x3 x4 x5 x6
    have hb' := hb
    replace H := Aside0.mk (H.out.below hb')
    replace Ba := Aside0.mk (Ba.out.below hb')
    replace Bb := Aside0.mk (Bb.out.below hb')
    replace Bc := Aside0.mk (Bc.out.below hb')
    replace Bd := Aside0.mk (Bd.out.below hb')
    clear hb hb'
    have Be := Aside0.mk (Box.new (Rd.nil wq8) (Rd.nil wq8))
    have hb' := below_alloc (Below.refl wq8.heap.size wq8) (.cells #[.slice none 0 0, .slice none 0 0] 25)
    replace H := Aside0.mk (H.out.below hb')
    replace Ba := Aside0.mk (Ba.out.below hb')
    replace Bb := Aside0.mk (Bb.out.below hb')
    replace Bc := Aside0.mk (Bc.out.below hb')
    replace Bd := Aside0.mk (Bd.out.below hb')
    clear hb'
    have C := told_yes (x := 1) Ba.out.2.1 Ba.out.2.2 Be.out.2.1 Be.out.2.2 (by decide) (by decide)
    obtain ⟨⟨yBa1, yBa2, yBa3⟩, _⟩ := Ba.out
    obtain ⟨⟨yBe1, yBe2, yBe3⟩, _⟩ := Be.out
    go_wp2_with fail
    refine C.mono ?_
    rintro e wq9 ⟨rfl, hb⟩
    clear C yBa1 yBa2 yBa3 yBe1 yBe2 yBe3
    have hb' := hb
    replace H := Aside0.mk (H.out.below hb')
    replace Ba := Aside0.mk (Ba.out.below hb')
    replace Bb := Aside0.mk (Bb.out.below hb')
    replace Bc := Aside0.mk (Bc.out.below hb')
    replace Bd := Aside0.mk (Bd.out.below hb')
    replace Be := Aside0.mk (Be.out.below hb')
    clear hb hb'
    have C := told_yes (x := 1) Bb.out.2.1 Bb.out.2.2 Be.out.2.1 Be.out.2.2 (by decide) (by decide)
    obtain ⟨⟨yBb1, yBb2, yBb3⟩, _⟩ := Bb.out
    obtain ⟨⟨yBe1, yBe2, yBe3⟩, _⟩ := Be.out
    go_wp2_with fail
    refine C.mono ?_
    rintro e wq10 ⟨rfl, hb⟩
    clear C yBb1 yBb2 yBb3 yBe1 yBe2 yBe3
    have hb' := hb
    replace H := Aside0.mk (H.out.below hb')
    replace Ba := Aside0.mk (Ba.out.below hb')
    replace Bb := Aside0.mk (Bb.out.below hb')
    replace Bc := Aside0.mk (Bc.out.below hb')
    replace Bd := Aside0.mk (Bd.out.below hb')
    replace Be := Aside0.mk (Be.out.below hb')
    clear hb hb'
    have C := told_yes (x := 1) Bc.out.2.1 Bc.out.2.2 Be.out.2.1 Be.out.2.2 (by decide) (by decide)
    obtain ⟨⟨yBc1, yBc2, yBc3⟩, _⟩ := Bc.out
    obtain ⟨⟨yBe1, yBe2, yBe3⟩, _⟩ := Be.out
    go_wp2_with fail
    refine C.mono ?_
    rintro e wq11 ⟨rfl, hb⟩
    clear C yBc1 yBc2 yBc3 yBe1 yBe2 yBe3
    have hb' := hb
    replace H := Aside0.mk (H.out.below hb')
    replace Ba := Aside0.mk (Ba.out.below hb')
    replace Bb := Aside0.mk (Bb.out.below hb')
    replace Bc := Aside0.mk (Bc.out.below hb')
    replace Bd := Aside0.mk (Bd.out.below hb')
    replace Be := Aside0.mk (Be.out.below hb')
    clear hb hb'
    have C := told_yes (x := 1) Bd.out.2.1 Bd.out.2.2 Be.out.2.1 Be.out.2.2 (by decide) (by decide)
    obtain ⟨⟨yBd1, yBd2, yBd3⟩, _⟩ := Bd.out
    obtain ⟨⟨yBe1, yBe2, yBe3⟩, _⟩ := Be.out
    go_wp2_with fail
    refine C.mono ?_
    rintro e wq12 ⟨rfl, hb⟩
    clear C yBd1 yBd2 yBd3 yBe1 yBe2 yBe3
    have hb' := hb
    replace H := Aside0.mk (H.out.below hb')
    replace Ba := Aside0.mk (Ba.out.below hb')
    replace Bb := Aside0.mk (Bb.out.below hb')
    replace Bc := Aside0.mk (Bc.out.below hb')
    replace Bd := Aside0.mk (Bd.out.below hb')
    replace Be := Aside0.mk (Be.out.below hb')
    clear hb hb'
    have C := awake3 (w := wq12)
    go_wp2_with fail
    refine C.mono ?_
    rintro e wq13 ⟨rfl, hb⟩
    clear C
    have hb' := hb
    replace H := Aside0.mk (H.out.below hb')
    replace Ba := Aside0.mk (Ba.out.below hb')
    replace Bb := Aside0.mk (Bb.out.below hb')
    replace Bc := Aside0.mk (Bc.out.below hb')
    replace Bd := Aside0.mk (Bd.out.below hb')
    replace Be := Aside0.mk (Be.out.below hb')
    clear hb hb'
    go_wp2_with fail
    go_ret
    exact ⟨rfl, H.out.2.2.2.2.2.2⟩
set_option maxHeartbeats 8000000 in
set_option maxRecDepth 100000 in
theorem tells_bad_ft (hu : Rd w u l) (hv : Rd w v m) (hu' : Rd w u' l') (hv' : Rd w v' m') (hl0 : Wf 4294967296 l) (hm0 : Wf 4294967296 m) (hl0' : Wf 4294967296 l') (hm0' : Wf 4294967296 m') (hs1 : l.length ≤ 70 ∧ m.length ≤ 70) (hs2 : l'.length ≤ 70 ∧ m'.length ≤ 70) (ha : isRat l m = false) (hb0 : isRat l' m' = true) :
    Calls Tryd.prog 3 #[.agg #[u, v], .agg #[u', v']] w (OneB w true) := by
  have H := Aside0.mk (Held.start hu hv hu' hv')
  have hwl := Aside0.mk hl0
  have hwm := Aside0.mk hm0
  have hwl' := Aside0.mk hl0'
  have hwm' := Aside0.mk hm0'
  have hba := Aside0.mk ha
  have hbb := Aside0.mk hb0
  have hS1 := Aside0.mk hs1
  have hS2 := Aside0.mk hs2
  clear hl0 hm0 hl0' hm0' ha hb0 hs1 hs2 hu hv hu' hv'
  have hg2 : w.heap.size + 1 = w.heap.size + 1 := rfl
  have C := dsmall_c H.out.2.2.1 H.out.2.2.2.1 true (decide_eq_true hS1.out)
  clear hg2
  go_enter Tryd.func3, Tryd.ntmps3
  go_wp2_with fail
  refine C.mono ?_
  rintro e w1 ⟨rfl, hb⟩
  clear C
  replace H := Aside0.mk (H.out.below hb)
  clear hb
  have C := dsmall_c H.out.2.2.2.2.1 H.out.2.2.2.2.2.1 true (decide_eq_true hS2.out)
  obtain ⟨⟨x1, x2, x3⟩, ⟨x4, x5, x6⟩, _⟩ := H.out
  go_wp2_with fail
  refine C.mono ?_
  rintro e wq1 ⟨rfl, hb⟩
  clear C x1 x2 x3 x4 x5 x6
  have hb' := hb
  replace H := Aside0.mk (H.out.below hb')
  clear hb hb'
  go_upto_region 3 with fail
  go_cut [5, 6] from 37 to 40 (fun v5 v6 wx => v5 = .bool false ∧ v6 = .bool true ∧ Below wq1.heap.size wq1 wx)
  case first =>
    have hbd := Aside0.mk (pw_below_drewN (Below.refl wq1.heap.size wq1) 1)
    have HF := Aside0.mk (fun W (h : Below wq1.heap.size wq1 W) => And.intro (H.out.below h).1.2 (H.out.below h).2.1.2)
    have hf1 := HF.out _ hbd.out
    go_region_held3 (fun W => (W.cell? ⟨w.heap.size, 0, none⟩ = some u ∧ W.cell? ⟨w.heap.size, 1, none⟩ = some v) ∧ (W.cell? ⟨w.heap.size + 1, 0, none⟩ = some u' ∧ W.cell? ⟨w.heap.size + 1, 1, none⟩ = some v')) (first | exact hf1 | exact HF.out _ Hb3.out | exact HF.out _ Hb2.out) (first
      | (go_at_call_of 18 u; refine (right_of (W0 := wq1) H.out.2.2.1 H.out.2.2.2.1 hwl.out hwm.out false hba.out ?_).mono ?_; (first | exact hbd.out); rintro e w2 ⟨rfl, hb2⟩; have Hb2 := Aside0.mk hb2; clear hb2)
      | (go_at_call_of 18 u'; refine (right_of (W0 := wq1) H.out.2.2.2.2.1 H.out.2.2.2.2.2.1 hwl'.out hwm'.out true hbb.out ?_).mono ?_; (first | exact Hb2.out); rintro e w3 ⟨rfl, hb3⟩; have Hb3 := Aside0.mk hb3; clear hb3))
    all_goals (go_wp2_with fail; go_meet)
    all_goals exact ⟨rfl, rfl, Hb3.out⟩
  case rest =>
    obtain ⟨rfl, rfl, hb⟩ := hcut
    replace H := Aside0.mk (H.out.below hb)
    clear hb
    have C := rright_c H.out.2.2.1 H.out.2.2.2.1 hwl.out hwm.out false hba.out
    obtain ⟨⟨x1, x2, x3⟩, ⟨x4, x5, x6⟩, _⟩ := H.out
    go_wp2_with fail
    refine C.mono ?_
    rintro e wq2 ⟨rfl, hb⟩
    clear C x1 x2 x3 x4 x5 x6
    have hb' := hb
    replace H := Aside0.mk (H.out.below hb')
    clear hb hb'
    have C := rright_c H.out.2.2.2.2.1 H.out.2.2.2.2.2.1 hwl'.out hwm'.out true hbb.out
    obtain ⟨⟨x1, x2, x3⟩, ⟨x4, x5, x6⟩, _⟩ := H.out
    go_wp2_with fail
    refine C.mono ?_
    rintro e wq3 ⟨rfl, hb⟩
    clear C x1 x2 x3 x4 x5 x6
    have hb' := hb
    replace H := Aside0.mk (H.out.below hb')
    clear hb hb'
    have hnb := Aside0.mk (show (isRat l m && isRat l' m') = false by rw [hba.out, hbb.out]; rfl)
    have C := radd_bad H.out.2.2.1 H.out.2.2.2.1 H.out.2.2.2.2.1 H.out.2.2.2.2.2.1 hwl.out hwm.out hwl'.out hwm'.out hnb.out
    obtain ⟨⟨x1, x2, x3⟩, ⟨x4, x5, x6⟩, _⟩ := H.out
    go_wp2_with fail
    refine C.mono ?_
    rintro e wq4 ⟨z, y, rfl, hz, hy, hb⟩
    clear C x1 x2 x3 x4 x5 x6
    obtain ⟨ABa, nBa, kBa, rfl⟩ := hz.rd.sl
    obtain ⟨DBa, eBa, jBa, rfl⟩ := hy.rd.sl
    have Ba := Aside0.mk (Box.new hz.rd hy.rd)
    have hb' := below_alloc hb (.cells #[.slice ABa nBa kBa, .slice DBa eBa jBa] 25)
    replace H := Aside0.mk (H.out.below hb')
    clear hb hb' hz hy
    have C := rsub_bad H.out.2.2.1 H.out.2.2.2.1 H.out.2.2.2.2.1 H.out.2.2.2.2.2.1 hwl.out hwm.out hwl'.out hwm'.out hnb.out
    obtain ⟨⟨x1, x2, x3⟩, ⟨x4, x5, x6⟩, _⟩ := H.out
    go_wp2_with fail
    refine C.mono ?_
    rintro e wq5 ⟨z, y, rfl, hz, hy, hb⟩
    clear C x1 x2 x3 x4 x5 x6
    obtain ⟨ABb, nBb, kBb, rfl⟩ := hz.rd.sl
    obtain ⟨DBb, eBb, jBb, rfl⟩ := hy.rd.sl
    have Bb := Aside0.mk (Box.new hz.rd hy.rd)
    have hb' := below_alloc hb (.cells #[.slice ABb nBb kBb, .slice DBb eBb jBb] 25)
    replace H := Aside0.mk (H.out.below hb')
    replace Ba := Aside0.mk (Ba.out.below hb')
    clear hb hb' hz hy
    have C := rmul_bad H.out.2.2.1 H.out.2.2.2.1 H.out.2.2.2.2.1 H.out.2.2.2.2.2.1 hwl.out hwm.out hwl'.out hwm'.out hnb.out
    obtain ⟨⟨x1, x2, x3⟩, ⟨x4, x5, x6⟩, _⟩ := H.out
    go_wp2_with fail
    refine C.mono ?_
    rintro e wq6 ⟨z, y, rfl, hz, hy, hb⟩
    clear C x1 x2 x3 x4 x5 x6
    obtain ⟨ABc, nBc, kBc, rfl⟩ := hz.rd.sl
    obtain ⟨DBc, eBc, jBc, rfl⟩ := hy.rd.sl
    have Bc := Aside0.mk (Box.new hz.rd hy.rd)
    have hb' := below_alloc hb (.cells #[.slice ABc nBc kBc, .slice DBc eBc jBc] 25)
    replace H := Aside0.mk (H.out.below hb')
    replace Ba := Aside0.mk (Ba.out.below hb')
    replace Bb := Aside0.mk (Bb.out.below hb')
    clear hb hb' hz hy
    have C := rdiv_bad H.out.2.2.1 H.out.2.2.2.1 H.out.2.2.2.2.1 H.out.2.2.2.2.2.1 hwl.out hwm.out hwl'.out hwm'.out hnb.out
    obtain ⟨⟨x1, x2, x3⟩, ⟨x4, x5, x6⟩, _⟩ := H.out
    go_wp2_with fail
    refine C.mono ?_
    rintro e wq7 ⟨z, y, rfl, hz, hy, hb⟩
    clear C x1 x2 x3 x4 x5 x6
    obtain ⟨ABd, nBd, kBd, rfl⟩ := hz.rd.sl
    obtain ⟨DBd, eBd, jBd, rfl⟩ := hy.rd.sl
    have Bd := Aside0.mk (Box.new hz.rd hy.rd)
    have hb' := below_alloc hb (.cells #[.slice ABd nBd kBd, .slice DBd eBd jBd] 25)
    replace H := Aside0.mk (H.out.below hb')
    replace Ba := Aside0.mk (Ba.out.below hb')
    replace Bb := Aside0.mk (Bb.out.below hb')
    replace Bc := Aside0.mk (Bc.out.below hb')
    clear hb hb' hz hy
    have C := rcmp_bad H.out.2.2.1 H.out.2.2.2.1 H.out.2.2.2.2.1 H.out.2.2.2.2.2.1 hwl.out hwm.out hwl'.out hwm'.out hnb.out
    obtain ⟨⟨x1, x2, x3⟩, ⟨x4, x5, x6⟩, _⟩ := H.out
    go_wp2_with fail
    refine C.mono ?_
    rintro e wq8 ⟨rfl, hb⟩
    clear C x1 x2 x3 x4 x5 x6
    have hb' := hb
    replace H := Aside0.mk (H.out.below hb')
    replace Ba := Aside0.mk (Ba.out.below hb')
    replace Bb := Aside0.mk (Bb.out.below hb')
    replace Bc := Aside0.mk (Bc.out.below hb')
    replace Bd := Aside0.mk (Bd.out.below hb')
    clear hb hb'
    have Be := Aside0.mk (Box.new (Rd.nil wq8) (Rd.nil wq8))
    have hb' := below_alloc (Below.refl wq8.heap.size wq8) (.cells #[.slice none 0 0, .slice none 0 0] 25)
    replace H := Aside0.mk (H.out.below hb')
    replace Ba := Aside0.mk (Ba.out.below hb')
    replace Bb := Aside0.mk (Bb.out.below hb')
    replace Bc := Aside0.mk (Bc.out.below hb')
    replace Bd := Aside0.mk (Bd.out.below hb')
    clear hb'
    have C := told_yes (x := 1) Ba.out.2.1 Ba.out.2.2 Be.out.2.1 Be.out.2.2 (by decide) (by decide)
    obtain ⟨⟨yBa1, yBa2, yBa3⟩, _⟩ := Ba.out
    obtain ⟨⟨yBe1, yBe2, yBe3⟩, _⟩ := Be.out
    go_wp2_with fail
    refine C.mono ?_
    rintro e wq9 ⟨rfl, hb⟩
    clear C yBa1 yBa2 yBa3 yBe1 yBe2 yBe3
    have hb' := hb
    replace H := Aside0.mk (H.out.below hb')
    replace Ba := Aside0.mk (Ba.out.below hb')
    replace Bb := Aside0.mk (Bb.out.below hb')
    replace Bc := Aside0.mk (Bc.out.below hb')
    replace Bd := Aside0.mk (Bd.out.below hb')
    replace Be := Aside0.mk (Be.out.below hb')
    clear hb hb'
    have C := told_yes (x := 1) Bb.out.2.1 Bb.out.2.2 Be.out.2.1 Be.out.2.2 (by decide) (by decide)
    obtain ⟨⟨yBb1, yBb2, yBb3⟩, _⟩ := Bb.out
    obtain ⟨⟨yBe1, yBe2, yBe3⟩, _⟩ := Be.out
    go_wp2_with fail
    refine C.mono ?_
    rintro e wq10 ⟨rfl, hb⟩
    clear C yBb1 yBb2 yBb3 yBe1 yBe2 yBe3
    have hb' := hb
    replace H := Aside0.mk (H.out.below hb')
    replace Ba := Aside0.mk (Ba.out.below hb')
    replace Bb := Aside0.mk (Bb.out.below hb')
    replace Bc := Aside0.mk (Bc.out.below hb')
    replace Bd := Aside0.mk (Bd.out.below hb')
    replace Be := Aside0.mk (Be.out.below hb')
    clear hb hb'
    have C := told_yes (x := 1) Bc.out.2.1 Bc.out.2.2 Be.out.2.1 Be.out.2.2 (by decide) (by decide)
    obtain ⟨⟨yBc1, yBc2, yBc3⟩, _⟩ := Bc.out
    obtain ⟨⟨yBe1, yBe2, yBe3⟩, _⟩ := Be.out
    go_wp2_with fail
    refine C.mono ?_
    rintro e wq11 ⟨rfl, hb⟩
    clear C yBc1 yBc2 yBc3 yBe1 yBe2 yBe3
    have hb' := hb
    replace H := Aside0.mk (H.out.below hb')
    replace Ba := Aside0.mk (Ba.out.below hb')
    replace Bb := Aside0.mk (Bb.out.below hb')
    replace Bc := Aside0.mk (Bc.out.below hb')
    replace Bd := Aside0.mk (Bd.out.below hb')
    replace Be := Aside0.mk (Be.out.below hb')
    clear hb hb'
    have C := told_yes (x := 1) Bd.out.2.1 Bd.out.2.2 Be.out.2.1 Be.out.2.2 (by decide) (by decide)
    obtain ⟨⟨yBd1, yBd2, yBd3⟩, _⟩ := Bd.out
    obtain ⟨⟨yBe1, yBe2, yBe3⟩, _⟩ := Be.out
    go_wp2_with fail
    refine C.mono ?_
    rintro e wq12 ⟨rfl, hb⟩
    clear C yBd1 yBd2 yBd3 yBe1 yBe2 yBe3
    have hb' := hb
    replace H := Aside0.mk (H.out.below hb')
    replace Ba := Aside0.mk (Ba.out.below hb')
    replace Bb := Aside0.mk (Bb.out.below hb')
    replace Bc := Aside0.mk (Bc.out.below hb')
    replace Bd := Aside0.mk (Bd.out.below hb')
    replace Be := Aside0.mk (Be.out.below hb')
    clear hb hb'
    have C := rtext_bad H.out.2.2.1 H.out.2.2.2.1 hwl.out hwm.out hba.out
    obtain ⟨⟨x1, x2, x3⟩, ⟨x4, x5, x6⟩, _⟩ := H.out
    go_wp2_with fail
    refine C.mono ?_
    rintro e wq13 ⟨rfl, hb⟩
    clear C x1 x2 x3 x4 x5 x6
    have hb' := hb
    replace H := Aside0.mk (H.out.below hb')
    replace Ba := Aside0.mk (Ba.out.below hb')
    replace Bb := Aside0.mk (Bb.out.below hb')
    replace Bc := Aside0.mk (Bc.out.below hb')
    replace Bd := Aside0.mk (Bd.out.below hb')
    replace Be := Aside0.mk (Be.out.below hb')
    clear hb hb'
    have C := awake3 (w := wq13)
    go_wp2_with fail
    refine C.mono ?_
    rintro e wq14 ⟨rfl, hb⟩
    clear C
    have hb' := hb
    replace H := Aside0.mk (H.out.below hb')
    replace Ba := Aside0.mk (Ba.out.below hb')
    replace Bb := Aside0.mk (Bb.out.below hb')
    replace Bc := Aside0.mk (Bc.out.below hb')
    replace Bd := Aside0.mk (Bd.out.below hb')
    replace Be := Aside0.mk (Be.out.below hb')
    clear hb hb'
    go_wp2_with fail
    go_ret
    exact ⟨rfl, H.out.2.2.2.2.2.2⟩
set_option maxHeartbeats 8000000 in
set_option maxRecDepth 100000 in
theorem tells_bad_ff (hu : Rd w u l) (hv : Rd w v m) (hu' : Rd w u' l') (hv' : Rd w v' m') (hl0 : Wf 4294967296 l) (hm0 : Wf 4294967296 m) (hl0' : Wf 4294967296 l') (hm0' : Wf 4294967296 m') (hs1 : l.length ≤ 70 ∧ m.length ≤ 70) (hs2 : l'.length ≤ 70 ∧ m'.length ≤ 70) (ha : isRat l m = false) (hb0 : isRat l' m' = false) :
    Calls Tryd.prog 3 #[.agg #[u, v], .agg #[u', v']] w (OneB w true) := by
  have H := Aside0.mk (Held.start hu hv hu' hv')
  have hwl := Aside0.mk hl0
  have hwm := Aside0.mk hm0
  have hwl' := Aside0.mk hl0'
  have hwm' := Aside0.mk hm0'
  have hba := Aside0.mk ha
  have hbb := Aside0.mk hb0
  have hS1 := Aside0.mk hs1
  have hS2 := Aside0.mk hs2
  clear hl0 hm0 hl0' hm0' ha hb0 hs1 hs2 hu hv hu' hv'
  have hg2 : w.heap.size + 1 = w.heap.size + 1 := rfl
  have C := dsmall_c H.out.2.2.1 H.out.2.2.2.1 true (decide_eq_true hS1.out)
  clear hg2
  go_enter Tryd.func3, Tryd.ntmps3
  go_wp2_with fail
  refine C.mono ?_
  rintro e w1 ⟨rfl, hb⟩
  clear C
  replace H := Aside0.mk (H.out.below hb)
  clear hb
  have C := dsmall_c H.out.2.2.2.2.1 H.out.2.2.2.2.2.1 true (decide_eq_true hS2.out)
  obtain ⟨⟨x1, x2, x3⟩, ⟨x4, x5, x6⟩, _⟩ := H.out
  go_wp2_with fail
  refine C.mono ?_
  rintro e wq1 ⟨rfl, hb⟩
  clear C x1 x2 x3 x4 x5 x6
  have hb' := hb
  replace H := Aside0.mk (H.out.below hb')
  clear hb hb'
  go_upto_region 3 with fail
  go_cut [5, 6] from 37 to 40 (fun v5 v6 wx => v5 = .bool false ∧ v6 = .bool false ∧ Below wq1.heap.size wq1 wx)
  case first =>
    have hbd := Aside0.mk (pw_below_drewN (Below.refl wq1.heap.size wq1) 1)
    have HF := Aside0.mk (fun W (h : Below wq1.heap.size wq1 W) => And.intro (H.out.below h).1.2 (H.out.below h).2.1.2)
    have hf1 := HF.out _ hbd.out
    go_region_held3 (fun W => (W.cell? ⟨w.heap.size, 0, none⟩ = some u ∧ W.cell? ⟨w.heap.size, 1, none⟩ = some v) ∧ (W.cell? ⟨w.heap.size + 1, 0, none⟩ = some u' ∧ W.cell? ⟨w.heap.size + 1, 1, none⟩ = some v')) (first | exact hf1 | exact HF.out _ Hb3.out | exact HF.out _ Hb2.out) (first
      | (go_at_call_of 18 u; refine (right_of (W0 := wq1) H.out.2.2.1 H.out.2.2.2.1 hwl.out hwm.out false hba.out ?_).mono ?_; (first | exact hbd.out); rintro e w2 ⟨rfl, hb2⟩; have Hb2 := Aside0.mk hb2; clear hb2)
      | (go_at_call_of 18 u'; refine (right_of (W0 := wq1) H.out.2.2.2.2.1 H.out.2.2.2.2.2.1 hwl'.out hwm'.out false hbb.out ?_).mono ?_; (first | exact Hb2.out); rintro e w3 ⟨rfl, hb3⟩; have Hb3 := Aside0.mk hb3; clear hb3))
    all_goals (go_wp2_with fail; go_meet)
    all_goals exact ⟨rfl, rfl, Hb3.out⟩
  case rest =>
    obtain ⟨rfl, rfl, hb⟩ := hcut
    replace H := Aside0.mk (H.out.below hb)
    clear hb
    have C := rright_c H.out.2.2.1 H.out.2.2.2.1 hwl.out hwm.out false hba.out
    obtain ⟨⟨x1, x2, x3⟩, ⟨x4, x5, x6⟩, _⟩ := H.out
    go_wp2_with fail
    refine C.mono ?_
    rintro e wq2 ⟨rfl, hb⟩
    clear C x1 x2 x3 x4 x5 x6
    have hb' := hb
    replace H := Aside0.mk (H.out.below hb')
    clear hb hb'
    have C := rright_c H.out.2.2.2.2.1 H.out.2.2.2.2.2.1 hwl'.out hwm'.out false hbb.out
    obtain ⟨⟨x1, x2, x3⟩, ⟨x4, x5, x6⟩, _⟩ := H.out
    go_wp2_with fail
    refine C.mono ?_
    rintro e wq3 ⟨rfl, hb⟩
    clear C x1 x2 x3 x4 x5 x6
    have hb' := hb
    replace H := Aside0.mk (H.out.below hb')
    clear hb hb'
    have hnb := Aside0.mk (show (isRat l m && isRat l' m') = false by rw [hba.out, hbb.out]; rfl)
    have C := radd_bad H.out.2.2.1 H.out.2.2.2.1 H.out.2.2.2.2.1 H.out.2.2.2.2.2.1 hwl.out hwm.out hwl'.out hwm'.out hnb.out
    obtain ⟨⟨x1, x2, x3⟩, ⟨x4, x5, x6⟩, _⟩ := H.out
    go_wp2_with fail
    refine C.mono ?_
    rintro e wq4 ⟨z, y, rfl, hz, hy, hb⟩
    clear C x1 x2 x3 x4 x5 x6
    obtain ⟨ABa, nBa, kBa, rfl⟩ := hz.rd.sl
    obtain ⟨DBa, eBa, jBa, rfl⟩ := hy.rd.sl
    have Ba := Aside0.mk (Box.new hz.rd hy.rd)
    have hb' := below_alloc hb (.cells #[.slice ABa nBa kBa, .slice DBa eBa jBa] 25)
    replace H := Aside0.mk (H.out.below hb')
    clear hb hb' hz hy
    have C := rsub_bad H.out.2.2.1 H.out.2.2.2.1 H.out.2.2.2.2.1 H.out.2.2.2.2.2.1 hwl.out hwm.out hwl'.out hwm'.out hnb.out
    obtain ⟨⟨x1, x2, x3⟩, ⟨x4, x5, x6⟩, _⟩ := H.out
    go_wp2_with fail
    refine C.mono ?_
    rintro e wq5 ⟨z, y, rfl, hz, hy, hb⟩
    clear C x1 x2 x3 x4 x5 x6
    obtain ⟨ABb, nBb, kBb, rfl⟩ := hz.rd.sl
    obtain ⟨DBb, eBb, jBb, rfl⟩ := hy.rd.sl
    have Bb := Aside0.mk (Box.new hz.rd hy.rd)
    have hb' := below_alloc hb (.cells #[.slice ABb nBb kBb, .slice DBb eBb jBb] 25)
    replace H := Aside0.mk (H.out.below hb')
    replace Ba := Aside0.mk (Ba.out.below hb')
    clear hb hb' hz hy
    have C := rmul_bad H.out.2.2.1 H.out.2.2.2.1 H.out.2.2.2.2.1 H.out.2.2.2.2.2.1 hwl.out hwm.out hwl'.out hwm'.out hnb.out
    obtain ⟨⟨x1, x2, x3⟩, ⟨x4, x5, x6⟩, _⟩ := H.out
    go_wp2_with fail
    refine C.mono ?_
    rintro e wq6 ⟨z, y, rfl, hz, hy, hb⟩
    clear C x1 x2 x3 x4 x5 x6
    obtain ⟨ABc, nBc, kBc, rfl⟩ := hz.rd.sl
    obtain ⟨DBc, eBc, jBc, rfl⟩ := hy.rd.sl
    have Bc := Aside0.mk (Box.new hz.rd hy.rd)
    have hb' := below_alloc hb (.cells #[.slice ABc nBc kBc, .slice DBc eBc jBc] 25)
    replace H := Aside0.mk (H.out.below hb')
    replace Ba := Aside0.mk (Ba.out.below hb')
    replace Bb := Aside0.mk (Bb.out.below hb')
    clear hb hb' hz hy
    have C := rdiv_bad H.out.2.2.1 H.out.2.2.2.1 H.out.2.2.2.2.1 H.out.2.2.2.2.2.1 hwl.out hwm.out hwl'.out hwm'.out hnb.out
    obtain ⟨⟨x1, x2, x3⟩, ⟨x4, x5, x6⟩, _⟩ := H.out
    go_wp2_with fail
    refine C.mono ?_
    rintro e wq7 ⟨z, y, rfl, hz, hy, hb⟩
    clear C x1 x2 x3 x4 x5 x6
    obtain ⟨ABd, nBd, kBd, rfl⟩ := hz.rd.sl
    obtain ⟨DBd, eBd, jBd, rfl⟩ := hy.rd.sl
    have Bd := Aside0.mk (Box.new hz.rd hy.rd)
    have hb' := below_alloc hb (.cells #[.slice ABd nBd kBd, .slice DBd eBd jBd] 25)
    replace H := Aside0.mk (H.out.below hb')
    replace Ba := Aside0.mk (Ba.out.below hb')
    replace Bb := Aside0.mk (Bb.out.below hb')
    replace Bc := Aside0.mk (Bc.out.below hb')
    clear hb hb' hz hy
    have C := rcmp_bad H.out.2.2.1 H.out.2.2.2.1 H.out.2.2.2.2.1 H.out.2.2.2.2.2.1 hwl.out hwm.out hwl'.out hwm'.out hnb.out
    obtain ⟨⟨x1, x2, x3⟩, ⟨x4, x5, x6⟩, _⟩ := H.out
    go_wp2_with fail
    refine C.mono ?_
    rintro e wq8 ⟨rfl, hb⟩
    clear C x1 x2 x3 x4 x5 x6
    have hb' := hb
    replace H := Aside0.mk (H.out.below hb')
    replace Ba := Aside0.mk (Ba.out.below hb')
    replace Bb := Aside0.mk (Bb.out.below hb')
    replace Bc := Aside0.mk (Bc.out.below hb')
    replace Bd := Aside0.mk (Bd.out.below hb')
    clear hb hb'
    have Be := Aside0.mk (Box.new (Rd.nil wq8) (Rd.nil wq8))
    have hb' := below_alloc (Below.refl wq8.heap.size wq8) (.cells #[.slice none 0 0, .slice none 0 0] 25)
    replace H := Aside0.mk (H.out.below hb')
    replace Ba := Aside0.mk (Ba.out.below hb')
    replace Bb := Aside0.mk (Bb.out.below hb')
    replace Bc := Aside0.mk (Bc.out.below hb')
    replace Bd := Aside0.mk (Bd.out.below hb')
    clear hb'
    have C := told_yes (x := 1) Ba.out.2.1 Ba.out.2.2 Be.out.2.1 Be.out.2.2 (by decide) (by decide)
    obtain ⟨⟨yBa1, yBa2, yBa3⟩, _⟩ := Ba.out
    obtain ⟨⟨yBe1, yBe2, yBe3⟩, _⟩ := Be.out
    go_wp2_with fail
    refine C.mono ?_
    rintro e wq9 ⟨rfl, hb⟩
    clear C yBa1 yBa2 yBa3 yBe1 yBe2 yBe3
    have hb' := hb
    replace H := Aside0.mk (H.out.below hb')
    replace Ba := Aside0.mk (Ba.out.below hb')
    replace Bb := Aside0.mk (Bb.out.below hb')
    replace Bc := Aside0.mk (Bc.out.below hb')
    replace Bd := Aside0.mk (Bd.out.below hb')
    replace Be := Aside0.mk (Be.out.below hb')
    clear hb hb'
    have C := told_yes (x := 1) Bb.out.2.1 Bb.out.2.2 Be.out.2.1 Be.out.2.2 (by decide) (by decide)
    obtain ⟨⟨yBb1, yBb2, yBb3⟩, _⟩ := Bb.out
    obtain ⟨⟨yBe1, yBe2, yBe3⟩, _⟩ := Be.out
    go_wp2_with fail
    refine C.mono ?_
    rintro e wq10 ⟨rfl, hb⟩
    clear C yBb1 yBb2 yBb3 yBe1 yBe2 yBe3
    have hb' := hb
    replace H := Aside0.mk (H.out.below hb')
    replace Ba := Aside0.mk (Ba.out.below hb')
    replace Bb := Aside0.mk (Bb.out.below hb')
    replace Bc := Aside0.mk (Bc.out.below hb')
    replace Bd := Aside0.mk (Bd.out.below hb')
    replace Be := Aside0.mk (Be.out.below hb')
    clear hb hb'
    have C := told_yes (x := 1) Bc.out.2.1 Bc.out.2.2 Be.out.2.1 Be.out.2.2 (by decide) (by decide)
    obtain ⟨⟨yBc1, yBc2, yBc3⟩, _⟩ := Bc.out
    obtain ⟨⟨yBe1, yBe2, yBe3⟩, _⟩ := Be.out
    go_wp2_with fail
    refine C.mono ?_
    rintro e wq11 ⟨rfl, hb⟩
    clear C yBc1 yBc2 yBc3 yBe1 yBe2 yBe3
    have hb' := hb
    replace H := Aside0.mk (H.out.below hb')
    replace Ba := Aside0.mk (Ba.out.below hb')
    replace Bb := Aside0.mk (Bb.out.below hb')
    replace Bc := Aside0.mk (Bc.out.below hb')
    replace Bd := Aside0.mk (Bd.out.below hb')
    replace Be := Aside0.mk (Be.out.below hb')
    clear hb hb'
    have C := told_yes (x := 1) Bd.out.2.1 Bd.out.2.2 Be.out.2.1 Be.out.2.2 (by decide) (by decide)
    obtain ⟨⟨yBd1, yBd2, yBd3⟩, _⟩ := Bd.out
    obtain ⟨⟨yBe1, yBe2, yBe3⟩, _⟩ := Be.out
    go_wp2_with fail
    refine C.mono ?_
    rintro e wq12 ⟨rfl, hb⟩
    clear C yBd1 yBd2 yBd3 yBe1 yBe2 yBe3
    have hb' := hb
    replace H := Aside0.mk (H.out.below hb')
    replace Ba := Aside0.mk (Ba.out.below hb')
    replace Bb := Aside0.mk (Bb.out.below hb')
    replace Bc := Aside0.mk (Bc.out.below hb')
    replace Bd := Aside0.mk (Bd.out.below hb')
    replace Be := Aside0.mk (Be.out.below hb')
    clear hb hb'
    have C := rtext_bad H.out.2.2.1 H.out.2.2.2.1 hwl.out hwm.out hba.out
    obtain ⟨⟨x1, x2, x3⟩, ⟨x4, x5, x6⟩, _⟩ := H.out
    go_wp2_with fail
    refine C.mono ?_
    rintro e wq13 ⟨rfl, hb⟩
    clear C x1 x2 x3 x4 x5 x6
    have hb' := hb
    replace H := Aside0.mk (H.out.below hb')
    replace Ba := Aside0.mk (Ba.out.below hb')
    replace Bb := Aside0.mk (Bb.out.below hb')
    replace Bc := Aside0.mk (Bc.out.below hb')
    replace Bd := Aside0.mk (Bd.out.below hb')
    replace Be := Aside0.mk (Be.out.below hb')
    clear hb hb'
    have C := awake3 (w := wq13)
    go_wp2_with fail
    refine C.mono ?_
    rintro e wq14 ⟨rfl, hb⟩
    clear C
    have hb' := hb
    replace H := Aside0.mk (H.out.below hb')
    replace Ba := Aside0.mk (Ba.out.below hb')
    replace Bb := Aside0.mk (Bb.out.below hb')
    replace Bc := Aside0.mk (Bc.out.below hb')
    replace Bd := Aside0.mk (Bd.out.below hb')
    replace Be := Aside0.mk (Be.out.below hb')
    clear hb hb'
    go_wp2_with fail
    go_ret
    exact ⟨rfl, H.out.2.2.2.2.2.2⟩
end
end Go.Proofs.YtakickbnjbedfaaDoor.S
