/- Part of the proof of Card. -/
import Derived.Lib.SliceRun
import Derived.Deep.RegionWith
import Derived.Deep.LoopGhost
import Derived.Test.YtakickbnjbedfaaDoorRankScaleF3
namespace Go.Proofs.YtakickbnjbedfaaDoor.S
set_option linter.unusedVariables false
set_option linter.unusedSimpArgs false
open Go.RowKit Go.Proofs.YtakickbnjbedfaaDoorW.PrintWords Go.Proofs.YtakickbnjbedfaaDoorW.PrintLast Go.Proofs.YtakickbnjbedfaaDoorW.PrintMore Go.Proofs.YtakickbnjbedfaaDoor.PA Go.Proofs.YtakickbnjbedfaaDoor.Num Go.Proofs.YtakickbnjbedfaaDoor.F
def Rd (w : World) (v : Value) (l : List Int) : Prop := Kd.V (Kd.int .u32) 55 w 0 (fun _ => True) v l
theorem Rd.below {w w1 : World} {v : Value} {l : List Int} (h : Rd w v l) (hb : Below w.heap.size w w1) : Rd w1 v l := Kd.V_below h hb
theorem Rd.of_R {w : World} {base : Nat} {ok : Nat → Prop} {v : Value} {l : List Int} (h : Kd.R (Kd.int .u32) 55 w base ok v l) : Rd w v l := Kd.V_mono (Kd.R_V h) (fun _ _ => trivial)
def Fr (N : Nat) (w : World) (v : Value) (l : List Int) : Prop := Kd.R (Kd.int .u32) 55 w N (fun _ => True) v l
theorem Fr.rd {N : Nat} {w : World} {v : Value} {l : List Int} (h : Fr N w v l) : Rd w v l := Rd.of_R h
theorem Fr.below {N : Nat} {w w1 : World} {v : Value} {l : List Int} (h : Fr N w v l) (hb : Below w.heap.size w w1) : Fr N w1 v l := Kd.R_below h hb
theorem Fr.lower {N N' : Nat} {w : World} {v : Value} {l : List Int} (h : Fr N w v l) (hn : N' ≤ N) : Fr N' w v l := Kd.R_lower h hn
theorem Fr.of_R {w : World} {base : Nat} {ok : Nat → Prop} {v : Value} {l : List Int} (h : Kd.R (Kd.int .u32) 55 w base ok v l) : Fr base w v l := Kd.R_mono h (fun _ _ => trivial)
theorem Fr.nil (N : Nat) (w : World) : Fr N w (.slice none 0 0) [] := Kd.R_nil _ _ _ _ _
theorem Fr.far {N : Nat} {w : World} {v : Value} {l : List Int} (h : Fr N w v l) {p : Addr} (hp : p.block < N) (u : Value) : Fr N (w.setCell p u) v l := Kd.R_mono (Kd.R_far (Kd.R_bound h) (fun k hk e => by have := hk.2.1; rw [e] at this; omega) u) (fun _ _ => trivial)
theorem Rd.open {w : World} {v : Value} {l : List Int} (h : Rd w v l) : ∃ A c, v = .slice A l.length c ∧ l.length ≤ c ∧ Kd.C (Kd.int .u32) w A l.length l := by
  obtain ⟨A, c, e, hl, hf⟩ := h
  exact ⟨A, c, e, hl, Kd.F_now hf⟩
def IsN (w : World) (v : Value) (n : Nat) : Prop := Rd w v (limbs n)
theorem IsN.below {w w1 : World} {v : Value} {n : Nat} (h : IsN w v n) (hb : Below w.heap.size w w1) : IsN w1 v n := Rd.below h hb
theorem ev_calls {f : FuncId} {args : Array Value} {w : World} {α : Type} {g : Nat → Option α} {r : α} {Q : Ending → World → Prop} (h : Ev g r) (hc : ∀ k, g k = some r → Calls Tryd.prog f args w Q) : Calls Tryd.prog f args w Q := by
  obtain ⟨k, hk⟩ := h.rounds
  exact hc k hk
theorem right_c {w : World} {v : Value} {l : List Int} (h : Rd w v l) : Calls Tryd.prog 103 #[v] w fun e w' => e = .returned (.bool (isNat l)) ∧ Below w.heap.size w w' := by
  obtain ⟨A, c, rfl, hl, hC⟩ := h.open
  refine (nat_Right.calls A c l (isNat l) w hC hl (right_f l)).mono ?_
  rintro e w' ⟨rfl, n, rfl⟩
  exact ⟨rfl, pw_below_drewN (Below.refl _ _) _⟩
theorem order_c {w : World} {u v : Value} {a b : Nat} (hu : IsN w u a) (hv : IsN w v b) (ha : a < top) (hb : b < top) : Calls Tryd.prog 115 #[u, v] w fun e w' => e = .returned (.int .i64 (ord a b)) ∧ Below w.heap.size w w' := by
  obtain ⟨A, c, rfl, hl, hC⟩ := hu.open
  obtain ⟨A', c', rfl, hl', hC'⟩ := hv.open
  have la := len_top.2 ha
  have lb := len_top.2 hb
  refine ev_calls (order_f a b (by omega) (by omega)) fun k hk => ?_
  exact nat_order.calls k A c _ A' c' _ _ w hC hl hC' hl' hk
theorem cmp_c {w : World} {u v : Value} {a b : Nat} (hu : IsN w u a) (hv : IsN w v b) (ha : a < top) (hb : b < top) : Calls Tryd.prog 61 #[u, v] w fun e w' => e = .returned (.int .i64 (ord a b)) ∧ Below w.heap.size w w' := by
  obtain ⟨A, c, rfl, hl, hC⟩ := hu.open
  obtain ⟨A', c', rfl, hl', hC'⟩ := hv.open
  refine ev_calls (cmp_f a b ha hb) fun k hk => ?_
  exact nat_Cmp.calls k A c _ A' c' _ _ w hC hl hC' hl' hk
theorem of_c {w : World} {n : Nat} (hn : n < 18446744073709551616) : Calls Tryd.prog 85 #[.int .u64 (n : Int)] w fun e w' => ∃ z, e = .returned z ∧ Fr w.heap.size w' z (limbs n) ∧ Below w.heap.size w w' := by
  refine ev_calls (of_f n hn) fun k hk => ?_
  refine (nat_Of.calls k _ _ w hk).mono ?_
  rintro e w' ⟨z, rfl, hz, hb⟩
  exact ⟨z, rfl, Fr.of_R hz, hb⟩
theorem short_c {w : World} {u : Value} {a b : Nat} (hu : IsN w u a) (ha : (limbs a).length ≤ 1000) (b0 : 0 < b) (b1 : b < 4294967296) : Calls Tryd.prog 110 #[u, .int .u32 (b : Int)] w fun e w' => ∃ z, e = .returned (.tuple #[z, .int .u32 ((a % b : Nat) : Int)]) ∧ Fr w.heap.size w' z (limbs (a / b)) ∧ Below w.heap.size w w' := by
  obtain ⟨A, c, rfl, hl, hC⟩ := hu.open
  refine ev_calls (short_f a b ha (by omega) (by omega)) fun k hk => ?_
  refine (nat_short.calls k A c _ _ _ _ w hC hl hk).mono ?_
  rintro e w' ⟨z, rfl, hz, hb⟩
  exact ⟨z, rfl, Fr.of_R hz, hb⟩
theorem long_c {w : World} {u v : Value} {a b : Nat} (hu : IsN w u a) (hv : IsN w v b) (la : (limbs a).length ≤ 900) (lb : 2 ≤ (limbs b).length) (hab : (limbs b).length ≤ (limbs a).length) : Calls Tryd.prog 167 #[u, v] w fun e w' => ∃ z y, e = .returned (.tuple #[z, y]) ∧ Fr w.heap.size w' z (limbs (a / b)) ∧ Fr w.heap.size w' y (limbs (a % b)) ∧ Below w.heap.size w w' := by
  obtain ⟨A, c, rfl, hl, hC⟩ := hu.open
  obtain ⟨A', c', rfl, hl', hC'⟩ := hv.open
  refine ev_calls (long_f a b la lb hab) fun k hk => ?_
  refine (nat_long.calls k A c _ A' c' _ _ _ w hC hl hC' hl' hk).mono ?_
  rintro e w' ⟨z, y, rfl, hz, hy, hb⟩
  exact ⟨z, y, rfl, Fr.of_R hz, Fr.of_R hy, hb⟩
theorem eqlNil23 (w : World) (a : Option Addr) (n c n' c' : Nat) : (binOp .eql 23 (.slice a n c) (.slice none n' c')).run Tryd.prog w = .ok (.bool a.isNone) w := Lib.run_eql_slice_nil w _ _ a n c n' c' Tryd.underlying23
set_option maxHeartbeats 1000000 in
theorem clone_c {w : World} {v : Value} {l : List Int} (h : Rd w v l) (hl : l.length ≤ 1000) : Calls Tryd.prog 136 #[v] w fun e w' => ∃ z, e = .returned z ∧ Fr w.heap.size w' z l ∧ Below w.heap.size w w' := by
  obtain ⟨A, c, rfl, hlc, hC⟩ := h.open
  cases A with
  | none =>
    have hl0 : l = [] := by
      rcases Nat.eq_zero_or_pos l.length with h0 | h0
      · exact List.length_eq_zero_iff.1 h0
      · obtain ⟨ad, e, _⟩ := hC.2.2 h0
        cases e
    subst hl0
    have q := eqlNil23
    go_enter Tryd.func136, Tryd.ntmps136
    go_wp2
    go_ret
    exact ⟨_, rfl, Fr.nil _ _, Below.refl _ _⟩
  | some ad =>
    have q := eqlNil23
    have HC := Aside0.mk hC
    clear hC
    go_enter Tryd.func136, Tryd.ntmps136
    go_wp2_with (at_builtin; refine Kd.R_append_row (w0 := w) (Value.int .u32) (0 : Int) (h1 := fun _ => rfl) w.heap.size rfl (.tmp 5) (.tmp 6) 23 55 (.int .u32 0) 4 rfl Tryd.underlying23 info55 rfl (by decide) _ [] l (some ad) l.length c (fun _ => True) rfl rfl (fun _ _ => trivial) ?hO ?hR ?hB ?hS ?hL ?_)
    case hO => exact ⟨fun _ _ => trivial, [], World.ownsRow_made w #[] 0 (Nat.le_refl _) (Nat.zero_le _) (by simp), Reps.none _ _⟩
    case hR => exact Kd.C_below HC.out (below_alloc (Below.refl _ _) _)
    case hB => exact below_alloc (Below.refl _ _) _
    case hS => exact Nat.le_of_lt (by simp)
    case hL => simp only [List.length_nil]; omega
    intro v1 w1 hv1 hb1 _ _
    go_wp2
    go_ret
    exact ⟨_, rfl, Fr.of_R hv1, hb1⟩
theorem order_is {w : World} {u v : Value} {a b : Nat} (hu : IsN w u a) (hv : IsN w v b) (ha : a < top) (hb : b < top) (r : Int) (hr : ord a b = r) : Calls Tryd.prog 115 #[u, v] w fun e w' => e = .returned (.int .i64 r) ∧ Below w.heap.size w w' := by
  rw [← hr]; exact order_c hu hv ha hb
def Two (w : World) (q r : Nat) (e : Ending) (w' : World) : Prop := ∃ z y, e = .returned (.tuple #[z, y]) ∧ Fr w.heap.size w' z (limbs q) ∧ Fr w.heap.size w' y (limbs r) ∧ Below w.heap.size w w'
set_option maxHeartbeats 1000000 in
theorem split_lt {w : World} {u v : Value} {a b : Nat} (hu : IsN w u a) (hv : IsN w v b) (ha : a < top) (hb : b < top) (h : a < b) : Calls Tryd.prog 135 #[u, v] w (Two w (a / b) (a % b)) := by
  have la := len_top.2 ha
  have H0 := order_is hu hv ha hb (-1) (ord_lt (by omega))
  go_enter Tryd.func135, Tryd.ntmps135
  go_wp2_with fail
  refine H0.mono ?_
  rintro e w1 ⟨rfl, hb1⟩
  clear H0
  go_wp2_with fail
  refine (clone_c (hu.below hb1) (by omega)).mono ?_
  rintro e w2 ⟨z, rfl, hz, hb2⟩
  go_wp2_with fail
  go_ret2
  refine ⟨_, _, rfl, ?_, ?_, hb1.trans (hb2.mono hb1.size)⟩
  · rw [Nat.div_eq_of_lt h, limbs_zero]; exact Fr.nil _ _
  · rw [Nat.mod_eq_of_lt h]; exact hz.lower hb1.size
theorem ord_le {a b : Nat} (h : b ≤ a) : ∃ r, ord (a : Int) (b : Int) = r ∧ 0 ≤ r := by
  rcases Nat.lt_or_ge b a with h1 | h1
  · exact ⟨1, ord_gt (by omega), by decide⟩
  · exact ⟨0, by rw [show a = b by omega]; exact ord_self _, by decide⟩
set_option maxHeartbeats 1000000 in
theorem split_short {w : World} {u v : Value} {a b : Nat} (hu : IsN w u a) (hv : IsN w v b) (ha : a < top) (hb : b < top) (h : b ≤ a) (b0 : 0 < b) (b1 : b < 4294967296) : Calls Tryd.prog 135 #[u, v] w (Two w (a / b) (a % b)) := by
  have la := len_top.2 ha
  obtain ⟨r, hr, r0⟩ := ord_le h
  have H0 := order_is hu hv ha hb r hr
  have hv2 := hv
  unfold IsN at hv2
  rw [limbs_small (by omega) b1] at hv2
  obtain ⟨A', c', rfl, hl', hC'⟩ := hv2.open
  obtain ⟨ad, rfl, hcell⟩ := Kd.at_int hC' 0 (by decide) (by simp)
  have e0 : ad.add (Int.toNat 0) = ad := rfl
  rw [e0] at hcell
  have HC := Aside0.mk hcell
  clear e0
  have rb : decide (r < 0) = false := decide_eq_false (by omega)
  clear hr hC' hcell hv2 hl'
  go_enter Tryd.func135, Tryd.ntmps135
  go_wp2_with fail
  refine H0.mono ?_
  rintro e w1 ⟨rfl, hb1⟩
  clear H0
  have hcell1 : w1.cell? ad = some (.int .u32 (b : Int)) := (hb1.cell (World.block_lt_of_cell? w _ HC.out)).trans HC.out
  go_wp2_with fail
  have H1 := short_c (hu.below hb1) (by omega) b0 b1
  obtain ⟨m, hm⟩ : ∃ m, a % b = m := ⟨_, rfl⟩
  have hlt : m < 4294967296 := by have := Nat.mod_lt a b0; omega
  rw [hm] at H1
  have HM := Aside0.mk hm
  clear hm
  refine H1.mono ?_
  rintro e w2 ⟨z, rfl, hz, hb2⟩
  clear hcell1 H1
  go_wp2_with fail
  refine (of_c (by omega)).mono ?_
  rintro e w3 ⟨y, rfl, hy, hb3⟩
  go_wp2_with fail
  go_ret2
  rw [HM.out]
  exact ⟨_, _, rfl, (hz.below hb3).lower hb1.size, hy.lower (Nat.le_trans hb1.size hb2.size), hb1.trans ((hb2.trans (hb3.mono hb2.size)).mono hb1.size)⟩
set_option maxHeartbeats 1000000 in
theorem split_long {w : World} {u v : Value} {a b : Nat} (hu : IsN w u a) (hv : IsN w v b) (ha : a < top) (hb : b < top) (h : b ≤ a) (b1 : 4294967296 ≤ b) : Calls Tryd.prog 135 #[u, v] w (Two w (a / b) (a % b)) := by
  have la := len_top.2 ha
  obtain ⟨r, hr, r0⟩ := ord_le h
  have H0 := order_is hu hv ha hb r hr
  have hl2 : 2 ≤ (limbs b).length := by
    rcases Nat.lt_or_ge (limbs b).length 2 with h2 | h2
    · have := limbs_len_le.1 (show (limbs b).length ≤ 1 by omega)
      omega
    · exact h2
  have hll : (limbs b).length ≤ (limbs a).length := limbs_len_le.2 (Nat.lt_of_le_of_lt h (limbs_len_le.1 (Nat.le_refl _)))
  obtain ⟨A', c', rfl, hl', hC'⟩ := hv.open
  have rb : decide (r < 0) = false := decide_eq_false (by omega)
  have rl : (((limbs b).length : Int) == 1) = false := beq_eq_false_iff_ne.2 (by omega)
  clear hr hC' hl'
  go_enter Tryd.func135, Tryd.ntmps135
  go_wp2_with fail
  refine H0.mono ?_
  rintro e w1 ⟨rfl, hb1⟩
  clear H0
  go_wp2_with fail
  refine (long_c (hu.below hb1) (hv.below hb1) (by omega) hl2 hll).mono ?_
  rintro e w2 ⟨z, y, rfl, hz, hy, hb2⟩
  go_wp2_with fail
  go_ret2
  exact ⟨_, _, rfl, hz.lower hb1.size, hy.lower hb1.size, hb1.trans (hb2.mono hb1.size)⟩
theorem split_c {w : World} {u v : Value} {a b : Nat} (hu : IsN w u a) (hv : IsN w v b) (ha : a < top) (hb : b < top) (b0 : 0 < b) : Calls Tryd.prog 135 #[u, v] w (Two w (a / b) (a % b)) := by
  rcases Nat.lt_or_ge a b with h | h
  · exact split_lt hu hv ha hb h
  · rcases Nat.lt_or_ge b 4294967296 with h1 | h1
    · exact split_short hu hv ha hb h b0 h1
    · exact split_long hu hv ha hb h h1
theorem right_is {w : World} {v : Value} {l : List Int} (h : Rd w v l) (b : Bool) (hb : isNat l = b) : Calls Tryd.prog 103 #[v] w fun e w' => e = .returned (.bool b) ∧ Below w.heap.size w w' := by
  rw [← hb]; exact right_c h
theorem right_yes {w : World} {v : Value} {n : Nat} (h : IsN w v n) (hn : n < top) : Calls Tryd.prog 103 #[v] w fun e w' => e = .returned (.bool true) ∧ Below w.heap.size w w' :=
  right_is h true (by rw [right_limbs]; exact decide_eq_true hn)
def OneE (w : World) (l : List Int) (c : Int) (e : Ending) (w' : World) : Prop := ∃ z, e = .returned (.tuple #[z, .int .i64 c]) ∧ Fr w.heap.size w' z l ∧ Below w.heap.size w w'
theorem below_trans {w w1 w2 : World} (h : Below w.heap.size w w1) (h2 : Below w1.heap.size w1 w2) : Below w.heap.size w w2 := h.trans (h2.mono h.size)
set_option maxHeartbeats 1000000 in
theorem gcd_c {w : World} {u v : Value} {a b : Nat} (hu : IsN w u a) (hv : IsN w v b) (ha : a < top) (hb : b < top) : Calls Tryd.prog 72 #[u, v] w (OneE w (limbs (Nat.gcd a b)) 0) := by
  go_enter Tryd.func72, Tryd.ntmps72
  go_wp2_with fail
  refine (right_yes hu ha).mono ?_
  rintro e w1 ⟨rfl, hb1⟩
  go_wp2_with fail
  refine (right_yes (hv.below hb1) hb).mono ?_
  rintro e w2 ⟨rfl, hb2⟩
  have hu2 := (hu.below hb1).below hb2
  have hv2 := (hv.below hb1).below hb2
  have hb12 := below_trans hb1 hb2
  clear hb1 hb2 hu hv
  go_wp2_with fail
  go_loopg [0, 1] b (fun kq x y w' => ∃ (m : Nat), IsN w' x m ∧ IsN w' y kq ∧ m < top ∧ kq < top ∧ Aside0 (Nat.gcd m kq = Nat.gcd a b) ∧ Below w.heap.size w w')
  case atStart => exact ⟨a, hu2, hv2, ha, hb, ⟨rfl⟩, hb12⟩
  case round =>
    obtain ⟨m, hx, hy, hm, hk, HG, HB⟩ := hrel
    by_cases h0 : gk = 0
    · subst h0
      have hy2 := hy
      unfold IsN at hy2
      rw [limbs_zero] at hy2
      obtain ⟨A, c, rfl, _, _⟩ := hy2.open
      have lm := len_top.2 hm
      clear hy hy2
      go_wp2_with fail
      refine (clone_c hx (by omega)).mono ?_
      rintro e w3 ⟨z, rfl, hz, hb3⟩
      go_wp2_with fail
      go_ret2
      have hg := HG.out
      rw [Nat.gcd_zero_right] at hg
      subst hg
      exact ⟨_, rfl, hz.lower HB.size, below_trans HB hb3⟩
    · obtain ⟨A, c, e, _, _⟩ := hy.open
      have hl : 0 < (limbs gk).length := by
        rcases Nat.eq_zero_or_pos (limbs gk).length with h | h
        · exact absurd (limbs_nil.1 (List.length_eq_zero_iff.1 h)) h0
        · exact h
      subst e
      have hl1 : decide (0 < (limbs gk).length) = true := decide_eq_true hl
      clear hl
      have h1 := split_c hx hy hm hk (Nat.pos_of_ne_zero h0)
      have hlt := Nat.mod_lt m (Nat.pos_of_ne_zero h0)
      obtain ⟨r, hr⟩ : ∃ r, m % gk = r := ⟨_, rfl⟩
      rw [hr] at h1 hlt
      have HR := Aside0.mk hr
      have HY := Aside0.mk hy
      clear hr h0
      go_wp2_with fail
      refine h1.mono ?_
      rintro e w3 ⟨z, y, rfl, hz, hy3, hb3⟩
      clear h1
      go_wp2_with fail
      go_roundg r
      case measure => exact hlt
      case rel => exact ⟨gk, HY.out.below hb3, hy3.rd, hk, Nat.lt_trans hlt hk, ⟨by rw [← HG.out, ← HR.out, Nat.gcd_comm m gk, Nat.gcd_rec gk m, Nat.gcd_comm]⟩, below_trans HB hb3⟩
set_option maxHeartbeats 1000000 in
theorem gcd_bad {w : World} {u v : Value} {l m : List Int} (hu : Rd w u l) (hv : Rd w v m) (h : isNat l = false ∨ isNat m = false) : Calls Tryd.prog 72 #[u, v] w (OneE w [] 1) := by
  cases hl : isNat l with
  | false =>
    have H1 := right_is hu false hl
    clear h hl
    go_enter Tryd.func72, Tryd.ntmps72
    go_wp2_with fail
    refine H1.mono ?_
    rintro e w1 ⟨rfl, hb1⟩
    clear H1
    go_wp2_with fail
    go_ret2
    exact ⟨_, rfl, Fr.nil _ _, hb1⟩
  | true =>
    have hm : isNat m = false := by rcases h with h | h <;> simp_all
    have H1 := right_is hu true hl
    clear h hl
    go_enter Tryd.func72, Tryd.ntmps72
    go_wp2_with fail
    refine H1.mono ?_
    rintro e w1 ⟨rfl, hb1⟩
    have H2 := right_is (hv.below hb1) false hm
    clear H1 hm
    go_wp2_with fail
    refine H2.mono ?_
    rintro e w2 ⟨rfl, hb2⟩
    clear H2
    go_wp2_with fail
    go_ret2
    exact ⟨_, rfl, Fr.nil _ _, below_trans hb1 hb2⟩
def ThreeE (w : World) (l m : List Int) (c : Int) (e : Ending) (w' : World) : Prop := ∃ z y, e = .returned (.tuple #[z, y, .int .i64 c]) ∧ Fr w.heap.size w' z l ∧ Fr w.heap.size w' y m ∧ Below w.heap.size w w'
set_option maxHeartbeats 1000000 in
theorem div_c {w : World} {u v : Value} {a b : Nat} (hu : IsN w u a) (hv : IsN w v b) (ha : a < top) (hb : b < top) (b0 : 0 < b) : Calls Tryd.prog 118 #[u, v] w (ThreeE w (limbs (a / b)) (limbs (a % b)) 0) := by
  obtain ⟨A', c', rfl, _, _⟩ := hv.open
  have hl : (((limbs b).length : Int) == 0) = false := beq_eq_false_iff_ne.2 (by
    intro h
    have := limbs_nil.1 (List.length_eq_zero_iff.1 (show (limbs b).length = 0 by omega))
    omega)
  have hl2 : (limbs b).isEmpty = false := by
    rw [List.isEmpty_eq_false_iff]
    intro h
    have := limbs_nil.1 h
    omega
  go_enter Tryd.func118, Tryd.ntmps118
  go_wp2_with fail
  refine (right_yes hu ha).mono ?_
  rintro e w1 ⟨rfl, hb1⟩
  go_wp2_with fail
  refine (right_yes (hv.below hb1) hb).mono ?_
  rintro e w2 ⟨rfl, hb2⟩
  have hb12 := below_trans hb1 hb2
  have hs := split_c ((hu.below hb1).below hb2) ((hv.below hb1).below hb2) ha hb b0
  clear hb1 hb2 hu hv
  go_wp2_with fail
  refine hs.mono ?_
  rintro e w3 ⟨z, y, rfl, hz, hy, hb3⟩
  clear hs
  go_wp2_with fail
  go_ret3
  exact ⟨_, _, rfl, hz.lower hb12.size, hy.lower hb12.size, below_trans hb12 hb3⟩
end Go.Proofs.YtakickbnjbedfaaDoor.S
