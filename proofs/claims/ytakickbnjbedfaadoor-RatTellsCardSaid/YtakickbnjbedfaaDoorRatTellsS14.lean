/- Part of the proof of Card. -/
import Derived.Test.YtakickbnjbedfaaDoorRatTellsS12
import Derived.Test.YtakickbnjbedfaaDoorRatTellsS13
namespace Go.Proofs.YtakickbnjbedfaaDoor.S
set_option linter.unusedVariables false
set_option linter.unusedSimpArgs false
open Go.RowKit Go.Proofs.YtakickbnjbedfaaDoorW.PrintWords Go.Proofs.YtakickbnjbedfaaDoorW.PrintLast Go.Proofs.YtakickbnjbedfaaDoorW.PrintMore Go.Proofs.YtakickbnjbedfaaDoor.PA Go.Proofs.YtakickbnjbedfaaDoor.Num Go.Proofs.YtakickbnjbedfaaDoor.F Go.Proofs.YtakickbnjbedfaaDoor.R
theorem rt_of {W0 W : World} {u v : Value} {n d : Nat} (hu : IsN W0 u n) (hv : IsN W0 v d) (f : Frac n d) (hb : Below W0.heap.size W0 W) :
    Calls Tryd.prog 26 #[.agg #[u, v]] W fun e w' => e = .returned (.string (rdec n d)) ∧ Below W0.heap.size W0 w' := by
  refine (rtext_good (hu.below hb) (hv.below hb) f.tn f.td f.r).mono ?_
  rintro e w' ⟨rfl, hb2⟩
  exact ⟨rfl, below_trans hb hb2⟩
theorem dt_of {W0 W : World} {u v : Value} {n d : Nat} (hu : IsN W0 u n) (hv : IsN W0 v d) (f : Frac n d) (hb : Below W0.heap.size W0 W) :
    Calls Tryd.prog 28 #[.agg #[u, v]] W fun e w' => e = .returned (.string (rdec n d)) ∧ Below W0.heap.size W0 w' := by
  refine (dtext_c (hu.below hb) (hv.below hb) f.tn f.td).mono ?_
  rintro e w' ⟨rfl, hb2⟩
  exact ⟨rfl, below_trans hb hb2⟩
section
variable {w : World} {u v u' v' : Value} {n d n' d' : Nat}
set_option maxHeartbeats 8000000 in
set_option maxRecDepth 100000 in
theorem tells_good (hu : IsN w u n) (hv : IsN w v d) (hu' : IsN w u' n') (hv' : IsN w v' d') (f : Frac n d) (f' : Frac n' d') :
    Calls Tryd.prog 3 #[.agg #[u, v], .agg #[u', v']] w (OneB w true) := by
  have ln := len_top.2 f.tn
  have ld := len_top.2 f.td
  have ln' := len_top.2 f'.tn
  have ld' := len_top.2 f'.td
  have hs1 : (limbs n).length ≤ 70 ∧ (limbs d).length ≤ 70 := ⟨by omega, by omega⟩
  have hs2 : (limbs n').length ≤ 70 ∧ (limbs d').length ≤ 70 := ⟨by omega, by omega⟩
  have ha := f.r
  have hb0 := f'.r
  have hl0 := wf_limbs n
  have hm0 := wf_limbs d
  have hl0' := wf_limbs n'
  have hm0' := wf_limbs d'
  have FF := Aside0.mk (And.intro f f')
  clear ln ld ln' ld' f f'
  have H := Aside0.mk (Held.start hu hv hu' hv')
  have hwl := Aside0.mk hl0
  have hwm := Aside0.mk hm0
  have hwl' := Aside0.mk hl0'
  have hwm' := Aside0.mk hm0'
  have hba := Aside0.mk ha
  have hbb := Aside0.mk hb0
  have hS1 := Aside0.mk hs1
  have hS2 := Aside0.mk hs2
  clear hl0 hm0 hl0' hm0' ha hb0 hs1 hs2 hu hv hu' hv'
  have hg2 : w.heap.size + 1 = w.heap.size + 1 := rfl
  have C := dsmall_c H.out.2.2.1 H.out.2.2.2.1 true (decide_eq_true hS1.out)
  clear hg2
  go_enter Tryd.func3, Tryd.ntmps3
  go_wp2_with fail
  refine C.mono ?_
  rintro e w1 ⟨rfl, hb⟩
  clear C
  replace H := Aside0.mk (H.out.below hb)
  clear hb
  have C := dsmall_c H.out.2.2.2.2.1 H.out.2.2.2.2.2.1 true (decide_eq_true hS2.out)
  obtain ⟨⟨x1, x2, x3⟩, ⟨x4, x5, x6⟩, _⟩ := H.out
  go_wp2_with fail
  refine C.mono ?_
  rintro e wq1 ⟨rfl, hb⟩
  clear C x1 x2 x3 x4 x5 x6
  have hb' := hb
  replace H := Aside0.mk (H.out.below hb')
  clear hb hb'
  go_upto_region 3 with fail
  go_cut [5, 6] from 37 to 40 (fun v5 v6 wx => v5 = .bool true ∧ v6 = .bool true ∧ Below wq1.heap.size wq1 wx)
  case first =>
    have hbd := Aside0.mk (pw_below_drewN (Below.refl wq1.heap.size wq1) 1)
    have HF := Aside0.mk (fun W (h : Below wq1.heap.size wq1 W) => And.intro (H.out.below h).1.2 (H.out.below h).2.1.2)
    have hf1 := HF.out _ hbd.out
    go_region_held3 (fun W => (W.cell? ⟨w.heap.size, 0, none⟩ = some u ∧ W.cell? ⟨w.heap.size, 1, none⟩ = some v) ∧ (W.cell? ⟨w.heap.size + 1, 0, none⟩ = some u' ∧ W.cell? ⟨w.heap.size + 1, 1, none⟩ = some v')) (first | exact hf1 | exact HF.out _ Hb3.out | exact HF.out _ Hb2.out) (first
      | (go_at_call_of 18 u; refine (right_of (W0 := wq1) H.out.2.2.1 H.out.2.2.2.1 hwl.out hwm.out true hba.out ?_).mono ?_; (first | exact hbd.out); rintro e w2 ⟨rfl, hb2⟩; have Hb2 := Aside0.mk hb2; clear hb2)
      | (go_at_call_of 18 u'; refine (right_of (W0 := wq1) H.out.2.2.2.2.1 H.out.2.2.2.2.2.1 hwl'.out hwm'.out true hbb.out ?_).mono ?_; (first | exact Hb2.out); rintro e w3 ⟨rfl, hb3⟩; have Hb3 := Aside0.mk hb3; clear hb3))
    all_goals (go_wp2_with fail; go_meet)
    all_goals exact ⟨rfl, rfl, Hb3.out⟩
  case rest =>
    obtain ⟨rfl, rfl, hb⟩ := hcut
    replace H := Aside0.mk (H.out.below hb)
    clear hb
    have C := rright_c H.out.2.2.1 H.out.2.2.2.1 hwl.out hwm.out true hba.out
    obtain ⟨⟨x1, x2, x3⟩, ⟨x4, x5, x6⟩, _⟩ := H.out
    go_wp2_with fail
    refine C.mono ?_
    rintro e wq2 ⟨rfl, hb⟩
    clear C x1 x2 x3 x4 x5 x6
    have hb' := hb
    replace H := Aside0.mk (H.out.below hb')
    clear hb hb'
    have C := rright_c H.out.2.2.2.2.1 H.out.2.2.2.2.2.1 hwl'.out hwm'.out true hbb.out
    obtain ⟨⟨x1, x2, x3⟩, ⟨x4, x5, x6⟩, _⟩ := H.out
    go_wp2_with fail
    refine C.mono ?_
    rintro e wq3 ⟨rfl, hb⟩
    clear C x1 x2 x3 x4 x5 x6
    have hb' := hb
    replace H := Aside0.mk (H.out.below hb')
    clear hb hb'
    obtain ⟨⟨pa, qa, ra⟩, ha⟩ : ∃ a, ansAdd n d n' d' = a := ⟨_, rfl⟩
    have Sa := short_add n d n' d'
    rw [ha] at Sa
    replace Sa := Aside0.mk Sa
    replace ha := Aside0.mk ha
    obtain ⟨⟨pb, qb, rb⟩, hb⟩ : ∃ a, ansSub n d n' d' = a := ⟨_, rfl⟩
    have Sb := short_sub n d n' d' FF.out.1 FF.out.2
    rw [hb] at Sb
    replace Sb := Aside0.mk Sb
    replace hb := Aside0.mk hb
    obtain ⟨⟨pc, qc, rc⟩, hc⟩ : ∃ a, ansMul n d n' d' = a := ⟨_, rfl⟩
    have Sc := short_mul n d n' d'
    rw [hc] at Sc
    replace Sc := Aside0.mk Sc
    replace hc := Aside0.mk hc
    obtain ⟨⟨pd, qd, rd⟩, hd⟩ : ∃ a, ansDiv n d n' d' = a := ⟨_, rfl⟩
    have Sd := short_div n d n' d'
    rw [hd] at Sd
    replace Sd := Aside0.mk Sd
    replace hd := Aside0.mk hd
    obtain ⟨⟨om, oc⟩, hcm⟩ : ∃ a, ansCmp n d n' d' = a := ⟨_, rfl⟩
    replace hcm := Aside0.mk hcm
    have C := g20 H.out.2.2.1 H.out.2.2.2.1 H.out.2.2.2.2.1 H.out.2.2.2.2.2.1 FF.out.1 FF.out.2 ha.out
    obtain ⟨⟨x1, x2, x3⟩, ⟨x4, x5, x6⟩, _⟩ := H.out
    go_wp2_with fail
    refine C.mono ?_
    rintro e wq4 ⟨z, y, rfl, hz, hy, hb⟩
    clear C x1 x2 x3 x4 x5 x6
    obtain ⟨ABa, nBa, kBa, rfl⟩ := hz.rd.sl
    obtain ⟨DBa, eBa, jBa, rfl⟩ := hy.rd.sl
    have Ba := Aside0.mk (Box.new hz.rd hy.rd)
    have hb' := below_alloc hb (.cells #[.slice ABa nBa kBa, .slice DBa eBa jBa] 25)
    replace H := Aside0.mk (H.out.below hb')
    clear hb hb' hz hy
    have C := g21 H.out.2.2.1 H.out.2.2.2.1 H.out.2.2.2.2.1 H.out.2.2.2.2.2.1 FF.out.1 FF.out.2 hb.out
    obtain ⟨⟨x1, x2, x3⟩, ⟨x4, x5, x6⟩, _⟩ := H.out
    go_wp2_with fail
    refine C.mono ?_
    rintro e wq5 ⟨z, y, rfl, hz, hy, hb⟩
    clear C x1 x2 x3 x4 x5 x6
    obtain ⟨ABb, nBb, kBb, rfl⟩ := hz.rd.sl
    obtain ⟨DBb, eBb, jBb, rfl⟩ := hy.rd.sl
    have Bb := Aside0.mk (Box.new hz.rd hy.rd)
    have hb' := below_alloc hb (.cells #[.slice ABb nBb kBb, .slice DBb eBb jBb] 25)
    replace H := Aside0.mk (H.out.below hb')
    replace Ba := Aside0.mk (Ba.out.below hb')
    clear hb hb' hz hy
    have C := g22 H.out.2.2.1 H.out.2.2.2.1 H.out.2.2.2.2.1 H.out.2.2.2.2.2.1 FF.out.1 FF.out.2 hc.out
    obtain ⟨⟨x1, x2, x3⟩, ⟨x4, x5, x6⟩, _⟩ := H.out
    go_wp2_with fail
    refine C.mono ?_
    rintro e wq6 ⟨z, y, rfl, hz, hy, hb⟩
    clear C x1 x2 x3 x4 x5 x6
    obtain ⟨ABc, nBc, kBc, rfl⟩ := hz.rd.sl
    obtain ⟨DBc, eBc, jBc, rfl⟩ := hy.rd.sl
    have Bc := Aside0.mk (Box.new hz.rd hy.rd)
    have hb' := below_alloc hb (.cells #[.slice ABc nBc kBc, .slice DBc eBc jBc] 25)
    replace H := Aside0.mk (H.out.below hb')
    replace Ba := Aside0.mk (Ba.out.below hb')
    replace Bb := Aside0.mk (Bb.out.below hb')
    clear hb hb' hz hy
    have C := g23 H.out.2.2.1 H.out.2.2.2.1 H.out.2.2.2.2.1 H.out.2.2.2.2.2.1 FF.out.1 FF.out.2 hd.out
    obtain ⟨⟨x1, x2, x3⟩, ⟨x4, x5, x6⟩, _⟩ := H.out
    go_wp2_with fail
    refine C.mono ?_
    rintro e wq7 ⟨z, y, rfl, hz, hy, hb⟩
    clear C x1 x2 x3 x4 x5 x6
    obtain ⟨ABd, nBd, kBd, rfl⟩ := hz.rd.sl
    obtain ⟨DBd, eBd, jBd, rfl⟩ := hy.rd.sl
    have Bd := Aside0.mk (Box.new hz.rd hy.rd)
    have hb' := below_alloc hb (.cells #[.slice ABd nBd kBd, .slice DBd eBd jBd] 25)
    replace H := Aside0.mk (H.out.below hb')
    replace Ba := Aside0.mk (Ba.out.below hb')
    replace Bb := Aside0.mk (Bb.out.below hb')
    replace Bc := Aside0.mk (Bc.out.below hb')
    clear hb hb' hz hy
    have C := g24 H.out.2.2.1 H.out.2.2.2.1 H.out.2.2.2.2.1 H.out.2.2.2.2.2.1 FF.out.1 FF.out.2 hcm.out
    obtain ⟨⟨x1, x2, x3⟩, ⟨x4, x5, x6⟩, _⟩ := H.out
    go_wp2_with fail
    refine C.mono ?_
    rintro e wq8 ⟨rfl, hb⟩
    clear C x1 x2 x3 x4 x5 x6
    have hb' := hb
    replace H := Aside0.mk (H.out.below hb')
    replace Ba := Aside0.mk (Ba.out.below hb')
    replace Bb := Aside0.mk (Bb.out.below hb')
    replace Bc := Aside0.mk (Bc.out.below hb')
    replace Bd := Aside0.mk (Bd.out.below hb')
    clear hb hb'
    have C := g27 H.out.2.2.1 H.out.2.2.2.1 H.out.2.2.2.2.1 H.out.2.2.2.2.2.1 FF.out.1 FF.out.2 hcm.out
    obtain ⟨⟨x1, x2, x3⟩, ⟨x4, x5, x6⟩, _⟩ := H.out
    go_wp2_with fail
    refine C.mono ?_
    rintro e wq9 ⟨rfl, hb⟩
    clear C x1 x2 x3 x4 x5 x6
    have hb' := hb
    replace H := Aside0.mk (H.out.below hb')
    replace Ba := Aside0.mk (Ba.out.below hb')
    replace Bb := Aside0.mk (Bb.out.below hb')
    replace Bc := Aside0.mk (Bc.out.below hb')
    replace Bd := Aside0.mk (Bd.out.below hb')
    clear hb hb'
    go_upto_region 15 with fail
    go_cut [149] from 135 to 149 (fun v9 wx => v9 = .bool false ∧ Below wq9.heap.size wq9 wx)
    case first =>
      have hbd := Aside0.mk (pw_below_drewN (Below.refl wq9.heap.size wq9) 1)
      have HF := Aside0.mk (fun W (h : Below wq9.heap.size wq9 W) => (H.out.below h).1.2)
      have hf1 := HF.out _ hbd.out
      go_region_held3 (fun W => W.cell? ⟨w.heap.size, 0, none⟩ = some u ∧ W.cell? ⟨w.heap.size, 1, none⟩ = some v) (first | exact hf1 | exact HF.out _ Hb3.out | exact HF.out _ Hb2.out) (first
        | (go_at_call 26; refine (rt_of (W0 := wq9) H.out.2.2.1 H.out.2.2.2.1 FF.out.1 ?_).mono ?_; (first | exact hbd.out | exact Hb3.out); rintro e w2 ⟨rfl, hb2⟩; have Hb2 := Aside0.mk hb2; clear hb2)
        | (go_at_call 28; refine (dt_of (W0 := wq9) H.out.2.2.1 H.out.2.2.2.1 FF.out.1 ?_).mono ?_; (first | exact Hb2.out | exact hbd.out); rintro e w3 ⟨rfl, hb3⟩; have Hb3 := Aside0.mk hb3; clear hb3))
      all_goals (go_wp2_with fail; go_meet)
      all_goals exact ⟨rfl, Hb3.out⟩
    case rest =>
      obtain ⟨rfl, hb⟩ := hcut
      replace H := Aside0.mk (H.out.below hb)
      replace Ba := Aside0.mk (Ba.out.below hb)
      replace Bb := Aside0.mk (Bb.out.below hb)
      replace Bc := Aside0.mk (Bc.out.below hb)
      replace Bd := Aside0.mk (Bd.out.below hb)
      clear hb
      have C := g29_1 H.out.2.2.1 H.out.2.2.2.1 H.out.2.2.2.2.1 H.out.2.2.2.2.2.1 FF.out.1 FF.out.2 ha.out
      obtain ⟨⟨x1, x2, x3⟩, ⟨x4, x5, x6⟩, _⟩ := H.out
      go_wp2_with fail
      refine C.mono ?_
      rintro e wq10 ⟨z, y, rfl, hz, hy, hb⟩
      clear C x1 x2 x3 x4 x5 x6
      obtain ⟨ACa, nCa, kCa, rfl⟩ := hz.rd.sl
      obtain ⟨DCa, eCa, jCa, rfl⟩ := hy.rd.sl
      have Ca := Aside0.mk (Box.new hz.rd hy.rd)
      have hb' := below_alloc hb (.cells #[.slice ACa nCa kCa, .slice DCa eCa jCa] 25)
      replace H := Aside0.mk (H.out.below hb')
      replace Ba := Aside0.mk (Ba.out.below hb')
      replace Bb := Aside0.mk (Bb.out.below hb')
      replace Bc := Aside0.mk (Bc.out.below hb')
      replace Bd := Aside0.mk (Bd.out.below hb')
      clear hb hb' hz hy
      have C := g29_2 H.out.2.2.1 H.out.2.2.2.1 H.out.2.2.2.2.1 H.out.2.2.2.2.2.1 FF.out.1 FF.out.2 hb.out
      obtain ⟨⟨x1, x2, x3⟩, ⟨x4, x5, x6⟩, _⟩ := H.out
      go_wp2_with fail
      refine C.mono ?_
      rintro e wq11 ⟨z, y, rfl, hz, hy, hb⟩
      clear C x1 x2 x3 x4 x5 x6
      obtain ⟨ACb, nCb, kCb, rfl⟩ := hz.rd.sl
      obtain ⟨DCb, eCb, jCb, rfl⟩ := hy.rd.sl
      have Cb := Aside0.mk (Box.new hz.rd hy.rd)
      have hb' := below_alloc hb (.cells #[.slice ACb nCb kCb, .slice DCb eCb jCb] 25)
      replace H := Aside0.mk (H.out.below hb')
      replace Ba := Aside0.mk (Ba.out.below hb')
      replace Bb := Aside0.mk (Bb.out.below hb')
      replace Bc := Aside0.mk (Bc.out.below hb')
      replace Bd := Aside0.mk (Bd.out.below hb')
      replace Ca := Aside0.mk (Ca.out.below hb')
      clear hb hb' hz hy
      have C := g29_3 H.out.2.2.1 H.out.2.2.2.1 H.out.2.2.2.2.1 H.out.2.2.2.2.2.1 FF.out.1 FF.out.2 hc.out
      obtain ⟨⟨x1, x2, x3⟩, ⟨x4, x5, x6⟩, _⟩ := H.out
      go_wp2_with fail
      refine C.mono ?_
      rintro e wq12 ⟨z, y, rfl, hz, hy, hb⟩
      clear C x1 x2 x3 x4 x5 x6
      obtain ⟨ACc, nCc, kCc, rfl⟩ := hz.rd.sl
      obtain ⟨DCc, eCc, jCc, rfl⟩ := hy.rd.sl
      have Cc := Aside0.mk (Box.new hz.rd hy.rd)
      have hb' := below_alloc hb (.cells #[.slice ACc nCc kCc, .slice DCc eCc jCc] 25)
      replace H := Aside0.mk (H.out.below hb')
      replace Ba := Aside0.mk (Ba.out.below hb')
      replace Bb := Aside0.mk (Bb.out.below hb')
      replace Bc := Aside0.mk (Bc.out.below hb')
      replace Bd := Aside0.mk (Bd.out.below hb')
      replace Ca := Aside0.mk (Ca.out.below hb')
      replace Cb := Aside0.mk (Cb.out.below hb')
      clear hb hb' hz hy
      have C := g29_4 H.out.2.2.1 H.out.2.2.2.1 H.out.2.2.2.2.1 H.out.2.2.2.2.2.1 FF.out.1 FF.out.2 hd.out
      obtain ⟨⟨x1, x2, x3⟩, ⟨x4, x5, x6⟩, _⟩ := H.out
      go_wp2_with fail
      refine C.mono ?_
      rintro e wq13 ⟨z, y, rfl, hz, hy, hb⟩
      clear C x1 x2 x3 x4 x5 x6
      obtain ⟨ACd, nCd, kCd, rfl⟩ := hz.rd.sl
      obtain ⟨DCd, eCd, jCd, rfl⟩ := hy.rd.sl
      have Cd := Aside0.mk (Box.new hz.rd hy.rd)
      have hb' := below_alloc hb (.cells #[.slice ACd nCd kCd, .slice DCd eCd jCd] 25)
      replace H := Aside0.mk (H.out.below hb')
      replace Ba := Aside0.mk (Ba.out.below hb')
      replace Bb := Aside0.mk (Bb.out.below hb')
      replace Bc := Aside0.mk (Bc.out.below hb')
      replace Bd := Aside0.mk (Bd.out.below hb')
      replace Ca := Aside0.mk (Ca.out.below hb')
      replace Cb := Aside0.mk (Cb.out.below hb')
      replace Cc := Aside0.mk (Cc.out.below hb')
      clear hb hb' hz hy
      have C := told_yes (x := ra) Ba.out.2.1 Ba.out.2.2 Ca.out.2.1 Ca.out.2.2 Sa.out.1 Sa.out.2
      obtain ⟨⟨yBa1, yBa2, yBa3⟩, _⟩ := Ba.out
      obtain ⟨⟨yCa1, yCa2, yCa3⟩, _⟩ := Ca.out
      go_wp2_with fail
      refine C.mono ?_
      rintro e wq14 ⟨rfl, hb⟩
      clear C yBa1 yBa2 yBa3 yCa1 yCa2 yCa3
      have hb' := hb
      replace H := Aside0.mk (H.out.below hb')
      replace Ba := Aside0.mk (Ba.out.below hb')
      replace Bb := Aside0.mk (Bb.out.below hb')
      replace Bc := Aside0.mk (Bc.out.below hb')
      replace Bd := Aside0.mk (Bd.out.below hb')
      replace Ca := Aside0.mk (Ca.out.below hb')
      replace Cb := Aside0.mk (Cb.out.below hb')
      replace Cc := Aside0.mk (Cc.out.below hb')
      replace Cd := Aside0.mk (Cd.out.below hb')
      clear hb hb'
      have C := told_yes (x := rb) Bb.out.2.1 Bb.out.2.2 Cb.out.2.1 Cb.out.2.2 Sb.out.1 Sb.out.2
      obtain ⟨⟨yBb1, yBb2, yBb3⟩, _⟩ := Bb.out
      obtain ⟨⟨yCb1, yCb2, yCb3⟩, _⟩ := Cb.out
      go_wp2_with fail
      refine C.mono ?_
      rintro e wq15 ⟨rfl, hb⟩
      clear C yBb1 yBb2 yBb3 yCb1 yCb2 yCb3
      have hb' := hb
      replace H := Aside0.mk (H.out.below hb')
      replace Ba := Aside0.mk (Ba.out.below hb')
      replace Bb := Aside0.mk (Bb.out.below hb')
      replace Bc := Aside0.mk (Bc.out.below hb')
      replace Bd := Aside0.mk (Bd.out.below hb')
      replace Ca := Aside0.mk (Ca.out.below hb')
      replace Cb := Aside0.mk (Cb.out.below hb')
      replace Cc := Aside0.mk (Cc.out.below hb')
      replace Cd := Aside0.mk (Cd.out.below hb')
      clear hb hb'
      have C := told_yes (x := rc) Bc.out.2.1 Bc.out.2.2 Cc.out.2.1 Cc.out.2.2 Sc.out.1 Sc.out.2
      obtain ⟨⟨yBc1, yBc2, yBc3⟩, _⟩ := Bc.out
      obtain ⟨⟨yCc1, yCc2, yCc3⟩, _⟩ := Cc.out
      go_wp2_with fail
      refine C.mono ?_
      rintro e wq16 ⟨rfl, hb⟩
      clear C yBc1 yBc2 yBc3 yCc1 yCc2 yCc3
      have hb' := hb
      replace H := Aside0.mk (H.out.below hb')
      replace Ba := Aside0.mk (Ba.out.below hb')
      replace Bb := Aside0.mk (Bb.out.below hb')
      replace Bc := Aside0.mk (Bc.out.below hb')
      replace Bd := Aside0.mk (Bd.out.below hb')
      replace Ca := Aside0.mk (Ca.out.below hb')
      replace Cb := Aside0.mk (Cb.out.below hb')
      replace Cc := Aside0.mk (Cc.out.below hb')
      replace Cd := Aside0.mk (Cd.out.below hb')
      clear hb hb'
      have C := told_yes (x := rd) Bd.out.2.1 Bd.out.2.2 Cd.out.2.1 Cd.out.2.2 Sd.out.1 Sd.out.2
      obtain ⟨⟨yBd1, yBd2, yBd3⟩, _⟩ := Bd.out
      obtain ⟨⟨yCd1, yCd2, yCd3⟩, _⟩ := Cd.out
      go_wp2_with fail
      refine C.mono ?_
      rintro e wq17 ⟨rfl, hb⟩
      clear C yBd1 yBd2 yBd3 yCd1 yCd2 yCd3
      have hb' := hb
      replace H := Aside0.mk (H.out.below hb')
      replace Ba := Aside0.mk (Ba.out.below hb')
      replace Bb := Aside0.mk (Bb.out.below hb')
      replace Bc := Aside0.mk (Bc.out.below hb')
      replace Bd := Aside0.mk (Bd.out.below hb')
      replace Ca := Aside0.mk (Ca.out.below hb')
      replace Cb := Aside0.mk (Cb.out.below hb')
      replace Cc := Aside0.mk (Cc.out.below hb')
      replace Cd := Aside0.mk (Cd.out.below hb')
      clear hb hb'
      have C := awake3 (w := wq17)
      go_wp2_with fail
      refine C.mono ?_
      rintro e wq18 ⟨rfl, hb⟩
      clear C
      have hb' := hb
      replace H := Aside0.mk (H.out.below hb')
      replace Ba := Aside0.mk (Ba.out.below hb')
      replace Bb := Aside0.mk (Bb.out.below hb')
      replace Bc := Aside0.mk (Bc.out.below hb')
      replace Bd := Aside0.mk (Bd.out.below hb')
      replace Ca := Aside0.mk (Ca.out.below hb')
      replace Cb := Aside0.mk (Cb.out.below hb')
      replace Cc := Aside0.mk (Cc.out.below hb')
      replace Cd := Aside0.mk (Cd.out.below hb')
      clear hb hb'
      go_wp2_with fail
      go_ret
      exact ⟨rfl, H.out.2.2.2.2.2.2⟩
end
end Go.Proofs.YtakickbnjbedfaaDoor.S
