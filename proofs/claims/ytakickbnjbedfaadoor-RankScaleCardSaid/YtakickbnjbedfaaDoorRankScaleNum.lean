/- Part of the proof of Card. -/
namespace Go.Proofs.YtakickbnjbedfaaDoor.Num
def val (b : Int) : List Int → Int
  | [] => 0
  | x :: l => x + b * val b l
def Wf (b : Int) (l : List Int) : Prop := ∀ x ∈ l, 0 ≤ x ∧ x < b
def lg (l : List Int) (i : Nat) : Int := l.getD i 0
theorem val_append (b : Int) (l m : List Int) : val b (l ++ m) = val b l + b ^ l.length * val b m := by
  induction l with
  | nil => simp [val]
  | cons x l ih => simp only [List.cons_append, val, ih, List.length_cons, Int.pow_succ]; grind
theorem val_replicate (b : Int) (n : Nat) : val b (List.replicate n 0) = 0 := by
  induction n with
  | zero => rfl
  | succ n ih => simp [List.replicate_succ, val, ih]
theorem Wf.nil (b : Int) : Wf b [] := fun _ h => by simp at h
theorem Wf.cons {b x : Int} {l : List Int} (h0 : 0 ≤ x) (h1 : x < b) (h : Wf b l) : Wf b (x :: l) := by
  intro y hy
  rcases List.mem_cons.1 hy with rfl | hy
  · exact ⟨h0, h1⟩
  · exact h y hy
theorem Wf.tail {b x : Int} {l : List Int} (h : Wf b (x :: l)) : Wf b l := fun y hy => h y (List.mem_cons_of_mem _ hy)
theorem Wf.take {b : Int} {l : List Int} (h : Wf b l) (n : Nat) : Wf b (l.take n) := fun y hy => h y (List.mem_of_mem_take hy)
theorem Wf.drop {b : Int} {l : List Int} (h : Wf b l) (n : Nat) : Wf b (l.drop n) := fun y hy => h y (List.mem_of_mem_drop hy)
theorem Wf.replicate {b : Int} (hb : 0 < b) (n : Nat) : Wf b (List.replicate n 0) := by
  intro y hy
  have := (List.mem_replicate.1 hy).2
  omega
theorem Wf.set {b v : Int} {l : List Int} (h : Wf b l) (i : Nat) (h0 : 0 ≤ v) (h1 : v < b) : Wf b (l.set i v) := by
  intro y hy
  rcases List.mem_or_eq_of_mem_set hy with hy | rfl
  · exact h y hy
  · exact ⟨h0, h1⟩
theorem Wf.at {b : Int} (hb : 0 < b) {l : List Int} (h : Wf b l) (i : Nat) : 0 ≤ lg l i ∧ lg l i < b := by
  unfold lg
  rw [List.getD_eq_getElem?_getD]
  rcases Nat.lt_or_ge i l.length with hi | hi
  · rw [List.getElem?_eq_getElem hi]
    exact h _ (List.getElem_mem hi)
  · rw [List.getElem?_eq_none hi]
    exact ⟨Int.le_refl 0, hb⟩
theorem lg_ge {l : List Int} {i : Nat} (h : l.length ≤ i) : lg l i = 0 := by
  unfold lg; rw [List.getD_eq_getElem?_getD, List.getElem?_eq_none h]; rfl
theorem lg_set_ne {l : List Int} {i j : Nat} (v : Int) (h : i ≠ j) : lg (l.set i v) j = lg l j := by
  unfold lg; rw [List.getD_eq_getElem?_getD, List.getElem?_set_ne h, List.getD_eq_getElem?_getD]
theorem lg_replicate (n i : Nat) : lg (List.replicate n 0) i = 0 := by
  unfold lg; rw [List.getD_eq_getElem?_getD, List.getElem?_replicate]; split <;> rfl
theorem lg_take {l : List Int} {n i : Nat} (h : i < n) : lg (l.take n) i = lg l i := by
  unfold lg; rw [List.getD_eq_getElem?_getD, List.getElem?_take_of_lt h, List.getD_eq_getElem?_getD]
theorem lg_drop (l : List Int) (n i : Nat) : lg (l.drop n) i = lg l (n + i) := by
  unfold lg; rw [List.getD_eq_getElem?_getD, List.getElem?_drop, List.getD_eq_getElem?_getD]
theorem lg_cons_zero (x : Int) (l : List Int) : lg (x :: l) 0 = x := rfl
theorem lg_cons_succ (x : Int) (l : List Int) (i : Nat) : lg (x :: l) (i + 1) = lg l i := rfl
theorem val_bound {b : Int} (hb : 0 < b) {l : List Int} (h : Wf b l) : 0 ≤ val b l ∧ val b l < b ^ l.length := by
  induction l with
  | nil => simp [val]
  | cons x l ih =>
    obtain ⟨h0, h1⟩ := ih h.tail
    obtain ⟨h2, h3⟩ := h x List.mem_cons_self
    simp only [val, List.length_cons, Int.pow_succ]
    have e0 : 0 ≤ b * val b l := Int.mul_nonneg (by omega) h0
    have e1 : b * (val b l + 1) ≤ b * b ^ l.length := Int.mul_le_mul_of_nonneg_left (by omega) (by omega)
    have e2 : b ^ l.length * b = b * b ^ l.length := Int.mul_comm _ _
    have e3 : b * (val b l + 1) = b * val b l + b := by grind
    omega
theorem pow_pos' {b : Int} (hb : 0 < b) (n : Nat) : 0 < b ^ n := Int.pow_pos hb
theorem pow_le {b : Int} (hb : 1 ≤ b) {m n : Nat} (h : m ≤ n) : b ^ m ≤ b ^ n := by
  obtain ⟨d, rfl⟩ := Nat.exists_eq_add_of_le h
  rw [Int.pow_add]
  have h1 : 0 < b ^ m := pow_pos' (by omega) m
  have h2 : 0 < b ^ d := pow_pos' (by omega) d
  have h3 : b ^ m * 1 ≤ b ^ m * b ^ d := Int.mul_le_mul_of_nonneg_left (by omega) (by omega)
  omega
theorem val_set (b : Int) (l : List Int) (i : Nat) (v : Int) (h : i < l.length) : val b (l.set i v) = val b l + (v - lg l i) * b ^ i := by
  induction l generalizing i with
  | nil => simp at h
  | cons x l ih =>
    cases i with
    | zero => simp only [List.set_cons_zero, val, lg_cons_zero, Int.pow_zero]; omega
    | succ i =>
      simp only [List.length_cons, Nat.add_lt_add_iff_right] at h
      simp only [List.set_cons_succ, val, lg_cons_succ, ih i h, Int.pow_succ]
      grind
theorem val_take_succ (b : Int) (l : List Int) (i : Nat) : val b (l.take (i + 1)) = val b (l.take i) + lg l i * b ^ i := by
  induction l generalizing i with
  | nil => simp [val, lg]
  | cons x l ih =>
    cases i with
    | zero => simp [val, lg_cons_zero]
    | succ i => simp only [List.take_succ_cons, val, lg_cons_succ, ih i, Int.pow_succ]; grind
theorem val_take_all (b : Int) (l : List Int) {n : Nat} (h : l.length ≤ n) : val b (l.take n) = val b l := by rw [List.take_of_length_le h]
theorem val_take_drop (b : Int) (l : List Int) {n : Nat} (h : n ≤ l.length) : val b l = val b (l.take n) + b ^ n * val b (l.drop n) := by
  have := val_append b (l.take n) (l.drop n)
  rw [List.take_append_drop, List.length_take, Nat.min_eq_left h] at this
  exact this
theorem val_drop_succ (b : Int) (l : List Int) (i : Nat) : val b (l.drop i) = lg l i + b * val b (l.drop (i + 1)) := by
  induction l generalizing i with
  | nil => simp [val, lg]
  | cons x l ih =>
    cases i with
    | zero => simp [val, lg_cons_zero]
    | succ i => simp only [List.drop_succ_cons, lg_cons_succ, ih i]
theorem val_take_zeros (b : Int) (l : List Int) (n : Nat) (h : ∀ i, n ≤ i → lg l i = 0) : val b (l.take n) = val b l := by
  rcases Nat.lt_or_ge n l.length with hn | hn
  · rw [val_take_drop b l (Nat.le_of_lt hn)]
    have : val b (l.drop n) = 0 := by
      have hz : ∀ m : List Int, (∀ i, lg m i = 0) → val b m = 0 := by
        intro m
        induction m with
        | nil => intro _; rfl
        | cons x m ih =>
          intro hm
          have h0 := hm 0
          rw [lg_cons_zero] at h0
          simp only [val, h0, ih (fun i => hm (i + 1))]
          omega
      exact hz _ (fun i => by rw [lg_drop]; exact h _ (by omega))
    rw [this]; omega
  · exact val_take_all b l hn
theorem val_zero_of {b : Int} (hb : 0 < b) {l : List Int} (h : Wf b l) (hz : val b l = 0) : ∀ i, lg l i = 0 := by
  induction l with
  | nil => intro i; exact lg_ge (Nat.zero_le _)
  | cons x l ih =>
    obtain ⟨h0, _⟩ := val_bound hb h.tail
    obtain ⟨h2, _⟩ := h x List.mem_cons_self
    simp only [val] at hz
    have e0 : 0 ≤ b * val b l := Int.mul_nonneg (by omega) h0
    have hx : x = 0 := by omega
    have hv : b * val b l = 0 := by omega
    have hv' : val b l = 0 := by
      rcases Int.mul_eq_zero.1 hv with h | h
      · omega
      · exact h
    intro i
    cases i with
    | zero => exact hx
    | succ i => exact ih h.tail hv' i
def limbs (n : Nat) : List Int := if n = 0 then [] else ((n % 4294967296 : Nat) : Int) :: limbs (n / 4294967296)
termination_by n
decreasing_by omega
theorem limbs_zero : limbs 0 = [] := by rw [limbs]; rfl
theorem limbs_pos {n : Nat} (h : n ≠ 0) : limbs n = ((n % 4294967296 : Nat) : Int) :: limbs (n / 4294967296) := by rw [limbs, if_neg h]
theorem limbs_small {n : Nat} (h : n ≠ 0) (h2 : n < 4294967296) : limbs n = [(n : Int)] := by
  rw [limbs_pos h, Nat.mod_eq_of_lt h2, Nat.div_eq_of_lt h2, limbs_zero]
theorem limbs_nil {n : Nat} : limbs n = [] ↔ n = 0 := by
  constructor
  · intro h
    rcases Nat.eq_zero_or_pos n with h0 | h0
    · exact h0
    · rw [limbs_pos (by omega)] at h; cases h
  · rintro rfl; exact limbs_zero
theorem val_limbs (n : Nat) : val 4294967296 (limbs n) = n := by
  induction n using Nat.strongRecOn with
  | _ n ih =>
    rcases Nat.eq_zero_or_pos n with h0 | h0
    · subst h0; rw [limbs_zero]; rfl
    · rw [limbs_pos (by omega), val, ih _ (by omega)]
      omega
theorem wf_limbs (n : Nat) : Wf 4294967296 (limbs n) := by
  induction n using Nat.strongRecOn with
  | _ n ih =>
    rcases Nat.eq_zero_or_pos n with h0 | h0
    · subst h0; rw [limbs_zero]; exact Wf.nil _
    · rw [limbs_pos (by omega)]
      exact Wf.cons (by omega) (by show _ < (4294967296 : Int); omega) (ih _ (by omega))
def Tidy (l : List Int) : Prop := l = [] ∨ lg l (l.length - 1) ≠ 0
instance (l : List Int) : Decidable (Tidy l) := by unfold Tidy; infer_instance
theorem tidy_limbs (n : Nat) : Tidy (limbs n) := by
  induction n using Nat.strongRecOn with
  | _ n ih =>
    rcases Nat.eq_zero_or_pos n with h0 | h0
    · subst h0; exact .inl limbs_zero
    · rw [limbs_pos (by omega)]
      refine .inr ?_
      rcases ih (n / 4294967296) (by omega) with h | h
      · have hz : n / 4294967296 = 0 := limbs_nil.1 h
        rw [h]
        show ((n % 4294967296 : Nat) : Int) ≠ 0
        omega
      · have hne : limbs (n / 4294967296) ≠ [] := by
          intro e; rw [e] at h; exact h rfl
        have hl : 0 < (limbs (n / 4294967296)).length := List.length_pos_iff.2 hne
        show lg (_ :: _) ((limbs (n / 4294967296)).length) ≠ 0
        obtain ⟨m, hm⟩ : ∃ m, (limbs (n / 4294967296)).length = m + 1 := ⟨(limbs (n / 4294967296)).length - 1, by omega⟩
        rw [hm] at h ⊢
        exact h
theorem limbs_val {l : List Int} (h : Wf 4294967296 l) (ht : Tidy l) : l = limbs (val 4294967296 l).toNat := by
  induction l with
  | nil => rw [show (val 4294967296 []).toNat = 0 from rfl, limbs_zero]
  | cons x l ih =>
    obtain ⟨h2, h3⟩ := h x List.mem_cons_self
    change x < 4294967296 at h3
    obtain ⟨h0, _⟩ := val_bound (by decide) h.tail
    have ht' : Tidy l := by
      rcases ht with ht | ht
      · cases ht
      · cases l with
        | nil => exact .inl rfl
        | cons y l => exact .inr ht
    have hv : val 4294967296 (x :: l) = x + 4294967296 * val 4294967296 l := rfl
    have hne : (val 4294967296 (x :: l)).toNat ≠ 0 := by
      intro e
      have hz : x + 4294967296 * val 4294967296 l = 0 := by omega
      have hx : x = 0 := by omega
      have hl : val 4294967296 l = 0 := by omega
      have hzz := val_zero_of (by decide) h (by rw [hv]; omega)
      rcases ht with ht | ht
      · cases ht
      · exact ht (hzz _)
    rw [limbs_pos hne]
    have e1 : (((val 4294967296 (x :: l)).toNat % 4294967296 : Nat) : Int) = x := by rw [hv]; omega
    have e2 : (val 4294967296 (x :: l)).toNat / 4294967296 = (val 4294967296 l).toNat := by rw [hv]; omega
    rw [e1, e2, ← ih h.tail ht']
theorem limbs_len_le {n k : Nat} : (limbs n).length ≤ k ↔ n < 4294967296 ^ k := by
  induction k generalizing n with
  | zero =>
    rw [Nat.pow_zero, Nat.le_zero, List.length_eq_zero_iff, limbs_nil]; omega
  | succ k ih =>
    rcases Nat.eq_zero_or_pos n with h0 | h0
    · subst h0; rw [limbs_zero]
      have : 0 < 4294967296 ^ (k + 1) := Nat.pow_pos (by decide)
      simp [this]
    · rw [limbs_pos (by omega), List.length_cons, Nat.add_le_add_iff_right, ih, Nat.pow_succ, Nat.div_lt_iff_lt_mul (by decide)]
end Go.Proofs.YtakickbnjbedfaaDoor.Num
