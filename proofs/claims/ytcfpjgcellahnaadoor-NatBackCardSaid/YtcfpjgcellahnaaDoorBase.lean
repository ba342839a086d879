/- Plain mathematics of lists of digits in a base b, the lowest first. -/
namespace Go.Proofs.YtcfpjgcellahnaaDoor

def val (b : Nat) : List Nat → Nat
  | [] => 0
  | x :: xs => x + b * val b xs

@[simp] theorem val_nil (b : Nat) : val b [] = 0 := rfl
@[simp] theorem val_cons (b x : Nat) (xs : List Nat) : val b (x :: xs) = x + b * val b xs := rfl

theorem val_append (b : Nat) (xs ys : List Nat) : val b (xs ++ ys) = val b xs + b ^ xs.length * val b ys := by
  induction xs with
  | nil => simp
  | cons x xs ih => simp only [List.cons_append, val_cons, ih, List.length_cons, Nat.pow_succ, Nat.mul_add, Nat.add_assoc]; congr 2; rw [← Nat.mul_assoc, Nat.mul_comm b]

theorem val_snoc (b : Nat) (xs : List Nat) (y : Nat) : val b (xs ++ [y]) = val b xs + b ^ xs.length * y := by
  rw [val_append]; simp

def Dig (b : Nat) (xs : List Nat) : Prop := ∀ x ∈ xs, x < b

theorem Dig.nil (b : Nat) : Dig b [] := by intro x h; cases h
theorem Dig.cons {b x : Nat} {xs : List Nat} (h : x < b) (hs : Dig b xs) : Dig b (x :: xs) := by
  intro y hy; rcases List.mem_cons.1 hy with rfl | h'
  · exact h
  · exact hs y h'
theorem Dig.head {b x : Nat} {xs : List Nat} (h : Dig b (x :: xs)) : x < b := h x (by simp)
theorem Dig.tail {b x : Nat} {xs : List Nat} (h : Dig b (x :: xs)) : Dig b xs := fun y hy => h y (by simp [hy])
theorem Dig.append {b : Nat} {xs ys : List Nat} (h : Dig b xs) (k : Dig b ys) : Dig b (xs ++ ys) := by
  intro y hy; rcases List.mem_append.1 hy with h' | h'
  · exact h y h'
  · exact k y h'
theorem Dig.take {b : Nat} {xs : List Nat} (h : Dig b xs) (n : Nat) : Dig b (xs.take n) := fun y hy => h y (List.mem_of_mem_take hy)
theorem Dig.drop {b : Nat} {xs : List Nat} (h : Dig b xs) (n : Nat) : Dig b (xs.drop n) := fun y hy => h y (List.mem_of_mem_drop hy)
theorem Dig.set {b : Nat} {xs : List Nat} (h : Dig b xs) (n : Nat) {y : Nat} (hy : y < b) : Dig b (xs.set n y) := by
  intro z hz; rcases List.mem_or_eq_of_mem_set hz with h' | rfl
  · exact h z h'
  · exact hy
theorem Dig.rep {b : Nat} (hb : 0 < b) (n : Nat) : Dig b (List.replicate n 0) := by
  intro y hy; rw [(List.mem_replicate.1 hy).2]; exact hb
theorem Dig.get {b : Nat} {xs : List Nat} (h : Dig b xs) (i : Nat) (hi : i < xs.length) : xs[i] < b := h _ (List.getElem_mem hi)
theorem Dig.getD {b : Nat} {xs : List Nat} (h : Dig b xs) (hb : 0 < b) (i : Nat) : xs.getD i 0 < b := by
  by_cases hi : i < xs.length
  · simp only [List.getD_eq_getElem?_getD, List.getElem?_eq_getElem hi, Option.getD_some]; exact h.get i hi
  · simp only [List.getD_eq_getElem?_getD, List.getElem?_eq_none (Nat.le_of_not_lt hi), Option.getD_none]; exact hb

theorem val_lt {b : Nat} {xs : List Nat} (h : Dig b xs) : val b xs < b ^ xs.length := by
  induction xs with
  | nil => simp
  | cons x xs ih =>
    have hx := h.head
    have := ih h.tail
    rw [val_cons, List.length_cons, Nat.pow_succ]
    calc x + b * val b xs < b + b * val b xs := by omega
      _ = b * (val b xs + 1) := by rw [Nat.mul_add, Nat.mul_one, Nat.add_comm]
      _ ≤ b * b ^ xs.length := Nat.mul_le_mul_left _ this
      _ = b ^ xs.length * b := Nat.mul_comm _ _

theorem val_rep (b n : Nat) : val b (List.replicate n 0) = 0 := by
  induction n with
  | zero => rfl
  | succ n ih => simp [List.replicate_succ, ih]

theorem val_take_succ (b : Nat) (xs : List Nat) (k : Nat) (h : k < xs.length) : val b (xs.take (k + 1)) = val b (xs.take k) + b ^ k * xs[k] := by
  rw [List.take_succ_eq_append_getElem h, val_snoc, List.length_take, Nat.min_eq_left (by omega)]

theorem val_split (b : Nat) (xs : List Nat) (k : Nat) (h : k ≤ xs.length) : val b xs = val b (xs.take k) + b ^ k * val b (xs.drop k) := by
  conv => lhs; rw [← List.take_append_drop k xs]
  rw [val_append, List.length_take, Nat.min_eq_left h]

theorem val_drop_cons (b : Nat) (xs : List Nat) (k : Nat) (h : k < xs.length) : val b (xs.drop k) = xs[k] + b * val b (xs.drop (k + 1)) := by
  rw [List.drop_eq_getElem_cons h, val_cons]

theorem val_inj {b : Nat} : ∀ {xs ys : List Nat}, Dig b xs → Dig b ys → xs.length = ys.length → val b xs = val b ys → xs = ys := by
  intro xs
  induction xs with
  | nil => intro ys _ _ hl _; cases ys with | nil => rfl | cons => simp at hl
  | cons x xs ih =>
    intro ys hx hy hl hv
    cases ys with
    | nil => simp at hl
    | cons y ys =>
      have h1 := hx.head
      have h2 := hy.head
      simp only [val_cons] at hv
      have e1 : (x + b * val b xs) % b = x := by rw [Nat.add_mul_mod_self_left, Nat.mod_eq_of_lt h1]
      have e2 : (y + b * val b ys) % b = y := by rw [Nat.add_mul_mod_self_left, Nat.mod_eq_of_lt h2]
      have exy : x = y := by rw [← e1, ← e2, hv]
      subst exy
      have : val b xs = val b ys := Nat.eq_of_mul_eq_mul_left (by omega) (Nat.add_left_cancel hv)
      rw [ih hx.tail hy.tail (by simpa using hl) this]

/-- The digits of a number, none of 0 at the end. -/
def limbs (b n : Nat) : List Nat := if _h : n = 0 ∨ b < 2 then [] else n % b :: limbs b (n / b)
termination_by n
decreasing_by exact Nat.div_lt_self (by omega) (by omega)

theorem limbs_zero (b : Nat) : limbs b 0 = [] := by unfold limbs; simp
theorem limbs_pos {b n : Nat} (hb : 2 ≤ b) (hn : n ≠ 0) : limbs b n = n % b :: limbs b (n / b) := by
  conv => lhs; unfold limbs
  rw [dif_neg (by omega)]

theorem limbs_dig {b : Nat} (hb : 2 ≤ b) (n : Nat) : Dig b (limbs b n) := by
  induction n using Nat.strongRecOn with
  | _ n ih =>
    by_cases hn : n = 0
    · subst hn; rw [limbs_zero]; exact Dig.nil b
    · rw [limbs_pos hb hn]; exact Dig.cons (Nat.mod_lt _ (by omega)) (ih _ (Nat.div_lt_self (by omega) (by omega)))

theorem val_limbs {b : Nat} (hb : 2 ≤ b) (n : Nat) : val b (limbs b n) = n := by
  induction n using Nat.strongRecOn with
  | _ n ih =>
    by_cases hn : n = 0
    · subst hn; rw [limbs_zero]; rfl
    · rw [limbs_pos hb hn, val_cons, ih _ (Nat.div_lt_self (by omega) (by omega))]; exact Nat.mod_add_div n b

theorem limbs_eq_nil {b n : Nat} (hb : 2 ≤ b) : limbs b n = [] ↔ n = 0 := by
  constructor
  · intro h; have := val_limbs hb n; rw [h] at this; exact this.symm
  · rintro rfl; exact limbs_zero b

/-- The last digit is not 0. -/
def Top (xs : List Nat) : Prop := xs.getLast? ≠ some 0

theorem limbs_top {b : Nat} (hb : 2 ≤ b) (n : Nat) : Top (limbs b n) := by
  induction n using Nat.strongRecOn with
  | _ n ih =>
    by_cases hn : n = 0
    · subst hn; rw [limbs_zero]; simp [Top]
    · rw [limbs_pos hb hn]
      by_cases hq : n / b = 0
      · rw [hq, limbs_zero]
        simp only [Top, List.getLast?_singleton, ne_eq, Option.some.injEq]
        have : n < b := by
          rcases Nat.lt_or_ge n b with h | h
          · exact h
          · have := Nat.div_pos h (by omega); omega
        rw [Nat.mod_eq_of_lt this]; exact hn
      · have h := ih (n / b) (Nat.div_lt_self (by omega) (by omega))
        have hne : limbs b (n / b) ≠ [] := fun e => hq ((limbs_eq_nil hb).1 e)
        unfold Top at h ⊢
        rw [List.getLast?_cons, ]
        obtain ⟨y, hy⟩ : ∃ y, (limbs b (n / b)).getLast? = some y := by
          cases h' : (limbs b (n / b)).getLast? with
          | none => simp at h'; exact absurd h' hne
          | some y => exact ⟨y, rfl⟩
        rw [hy] at h ⊢
        simpa using h

theorem limbs_val {b : Nat} (hb : 2 ≤ b) : ∀ {xs : List Nat}, Dig b xs → Top xs → limbs b (val b xs) = xs := by
  intro xs
  induction xs with
  | nil => intro _ _; exact limbs_zero b
  | cons x xs ih =>
    intro hd ht
    have hx := hd.head
    have ht' : Top xs := by
      unfold Top at ht ⊢
      cases xs with
      | nil => simp
      | cons y ys => rw [List.getLast?_cons_cons] at ht; exact ht
    have hne : val b (x :: xs) ≠ 0 := by
      intro h0
      simp only [val_cons] at h0
      have hx0 : x = 0 := by omega
      have hv0 : val b xs = 0 := by
        have : b * val b xs = 0 := by omega
        rcases Nat.mul_eq_zero.1 this with h | h
        · omega
        · exact h
      have e := ih hd.tail ht'
      rw [hv0, limbs_zero] at e
      subst e; subst hx0
      simp [Top] at ht
    rw [limbs_pos hb hne, val_cons, Nat.add_mul_mod_self_left, Nat.mod_eq_of_lt hx, Nat.add_mul_div_left _ _ (by omega), Nat.div_eq_of_lt hx, Nat.zero_add, ih hd.tail ht']

theorem limbs_length_le {b : Nat} (hb : 2 ≤ b) {xs : List Nat} (h : Dig b xs) : (limbs b (val b xs)).length ≤ xs.length := by
  induction xs with
  | nil => rw [val_nil, limbs_zero]; simp
  | cons x xs ih =>
    by_cases h0 : val b (x :: xs) = 0
    · rw [h0, limbs_zero]; simp
    · rw [limbs_pos hb h0, val_cons, Nat.add_mul_div_left _ _ (by omega), Nat.div_eq_of_lt h.head, Nat.zero_add]
      simpa using ih h.tail


theorem getD_lt (xs : List Nat) (i : Nat) (h : i < xs.length) : xs.getD i 0 = xs[i] := by
  simp [List.getD_eq_getElem?_getD, List.getElem?_eq_getElem h]
theorem getD_ge (xs : List Nat) (i : Nat) (h : xs.length ≤ i) : xs.getD i 0 = 0 := by
  simp [List.getD_eq_getElem?_getD, List.getElem?_eq_none h]

theorem val_take_getD (b : Nat) (xs : List Nat) (k : Nat) : val b (xs.take (k + 1)) = val b (xs.take k) + b ^ k * xs.getD k 0 := by
  by_cases h : k < xs.length
  · rw [val_take_succ b xs k h, getD_lt xs k h]
  · rw [getD_ge xs k (by omega), List.take_of_length_le (by omega), List.take_of_length_le (by omega)]; simp

theorem val_take_all (b : Nat) (xs : List Nat) (k : Nat) (h : xs.length ≤ k) : val b (xs.take k) = val b xs := by
  rw [List.take_of_length_le h]

theorem take_set_succ (L : List Nat) (i s : Nat) (h : i < L.length) : (L.set i s).take (i + 1) = L.take i ++ [s] := by
  rw [List.take_succ_eq_append_getElem (by simpa using h), List.getElem_set_self, List.take_set_of_le (Nat.le_refl _)]

theorem val_take_set (b : Nat) (L : List Nat) (i s : Nat) (h : i < L.length) : val b ((L.set i s).take (i + 1)) = val b (L.take i) + b ^ i * s := by
  rw [take_set_succ L i s h, val_snoc, List.length_take, Nat.min_eq_left (by omega)]

theorem drop_set_succ (L : List Nat) (i s : Nat) : (L.set i s).drop (i + 1) = L.drop (i + 1) := by
  rw [List.drop_set]; simp

theorem val_set (b : Nat) (L : List Nat) (i s : Nat) (h : i < L.length) : val b (L.set i s) + b ^ i * L[i] = val b L + b ^ i * s := by
  have e1 := val_split b L i (by omega)
  have e2 := val_split b (L.set i s) i (by simp; omega)
  rw [val_drop_cons b L i h] at e1
  rw [val_drop_cons b (L.set i s) i (by simpa using h)] at e2
  rw [drop_set_succ] at e2
  rw [List.getElem_set_self, List.take_set_of_le (Nat.le_refl _)] at e2
  rw [e1, e2]
  simp only [Nat.mul_add]
  omega

theorem top_trim {xs : List Nat} (x : Nat) (h : x ≠ 0) : Top (xs ++ [x]) := by simp [Top, h]

/-- Without the 0s at the end. -/
theorem limbs_snoc_zero {b : Nat} {xs : List Nat} : limbs b (val b (xs ++ [0])) = limbs b (val b xs) := by
  rw [val_snoc]; simp

theorem pow_pos' {b : Nat} (hb : 2 ≤ b) (n : Nat) : 0 < b ^ n := Nat.pow_pos (by omega)

theorem limbs_length_le_iff {b : Nat} (hb : 2 ≤ b) (n k : Nat) : (limbs b n).length ≤ k ↔ n < b ^ k := by
  induction n using Nat.strongRecOn generalizing k with
  | _ n ih =>
    by_cases hn : n = 0
    · subst hn; rw [limbs_zero]; simp; exact pow_pos' hb k
    · rw [limbs_pos hb hn]
      cases k with
      | zero => simp; omega
      | succ k =>
        rw [List.length_cons, Nat.succ_le_succ_iff, ih (n / b) (Nat.div_lt_self (by omega) (by omega)) k, Nat.div_lt_iff_lt_mul (by omega), Nat.pow_succ]

theorem limbs_length_pos {b n : Nat} (hb : 2 ≤ b) (hn : n ≠ 0) : 0 < (limbs b n).length := by rw [limbs_pos hb hn]; simp

end Go.Proofs.YtcfpjgcellahnaaDoor
