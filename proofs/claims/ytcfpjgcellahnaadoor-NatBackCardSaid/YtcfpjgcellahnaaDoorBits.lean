/- The length of a number in bits, and the parts of a number of several words: plain mathematics. -/
import Derived.Test.YtcfpjgcellahnaaDoorMem
import Derived.Lib.BitFns
namespace Go.Proofs.YtcfpjgcellahnaaDoor

/-- The number of bits. -/
def bl (n : Nat) : Nat := (limbs 2 n).length
theorem bl_le_iff (n k : Nat) : bl n ≤ k ↔ n < 2 ^ k := limbs_length_le_iff (by omega) n k
theorem lt_bl (n : Nat) : n < 2 ^ bl n := (bl_le_iff n _).1 (Nat.le_refl _)
theorem bl_le {n k : Nat} (h : n < 2 ^ k) : bl n ≤ k := (bl_le_iff n k).2 h
theorem bl_zero : bl 0 = 0 := by unfold bl; rw [limbs_zero]; rfl
theorem bl_eq_zero {n : Nat} : bl n = 0 ↔ n = 0 := by
  constructor
  · intro h; have := lt_bl n; rw [h] at this; omega
  · rintro rfl; exact bl_zero
theorem bl_pos {n : Nat} (h : n ≠ 0) : 0 < bl n := by
  rcases Nat.eq_zero_or_pos (bl n) with h' | h'
  · exact absurd (bl_eq_zero.1 h') h
  · exact h'
theorem le_bl {n k : Nat} (h : 2 ^ k ≤ n) : k < bl n := by
  rcases Nat.lt_or_ge k (bl n) with h' | h'
  · exact h'
  · have := (bl_le_iff n k).1 h'; omega
theorem two_pow_le {n : Nat} (h : n ≠ 0) : 2 ^ (bl n - 1) ≤ n := by
  rcases Nat.lt_or_ge n (2 ^ (bl n - 1)) with h' | h'
  · have := bl_le h'; have := bl_pos h; omega
  · exact h'
theorem bl_mono {a b : Nat} (h : a ≤ b) : bl a ≤ bl b := bl_le (Nat.lt_of_le_of_lt h (lt_bl b))
theorem bl_add (a b : Nat) : bl (a + b) ≤ max (bl a) (bl b) + 1 := by
  refine bl_le ?_
  have h1 := lt_bl a
  have h2 := lt_bl b
  have h3 : 2 ^ bl a ≤ 2 ^ max (bl a) (bl b) := Nat.pow_le_pow_right (by omega) (Nat.le_max_left _ _)
  have h4 : 2 ^ bl b ≤ 2 ^ max (bl a) (bl b) := Nat.pow_le_pow_right (by omega) (Nat.le_max_right _ _)
  rw [Nat.pow_succ]
  omega
theorem bl_mul (a b : Nat) : bl (a * b) ≤ bl a + bl b := by
  refine bl_le ?_
  rw [Nat.pow_add]
  rcases Nat.eq_zero_or_pos b with h | h
  · subst h; simp; exact Nat.mul_pos (Nat.pow_pos (by omega)) (Nat.pow_pos (by omega))
  · exact Nat.lt_of_lt_of_le (Nat.mul_lt_mul_of_pos_right (lt_bl a) h) (Nat.mul_le_mul_left _ (Nat.le_of_lt (lt_bl b)))
theorem bl_shift {A s t : Nat} (hA : A < 2 ^ s) (ht : t ≠ 0) : bl (A + 2 ^ s * t) = s + bl t := by
  apply Nat.le_antisymm
  · refine bl_le ?_
    rw [Nat.pow_add]
    have := lt_bl t
    have h2 : 2 ^ s * (t + 1) ≤ 2 ^ s * 2 ^ bl t := Nat.mul_le_mul_left _ this
    rw [Nat.mul_add, Nat.mul_one] at h2
    omega
  · have h := two_pow_le ht
    have hp := bl_pos ht
    have h2 : 2 ^ (s + (bl t - 1)) ≤ A + 2 ^ s * t := by
      rw [Nat.pow_add]
      have := Nat.mul_le_mul_left (2 ^ s) h
      omega
    have := le_bl h2
    omega

theorem bitLen_eq {x : Nat} (h : x < B64) : Lib.bitLen x = bl x := by
  have hx : x < 2 ^ 64 := h
  have hb : bl x ≤ 64 := bl_le hx
  apply Nat.le_antisymm
  · exact Lib.bitLen_le x (bl x) hb (lt_bl x)
  · by_cases h0 : x = 0
    · subst h0; rw [bl_zero]; exact Nat.zero_le _
    · have h1 := two_pow_le h0
      have hp := bl_pos h0
      rw [Lib.bitLen_shift (bl x - 1) x h1 hx]
      have hy : x / 2 ^ (bl x - 1) ≠ 0 := Nat.ne_of_gt (Nat.div_pos h1 (Nat.pow_pos (by omega)))
      rw [Lib.bitLen_half _ hy (Nat.lt_of_le_of_lt (Nat.div_le_self _ _) hx)]
      omega

/-! ### The words of a number -/
theorem B64_pow (k : Nat) : B64 ^ k = 2 ^ (64 * k) := by
  have : B64 = 2 ^ 64 := rfl
  rw [this, ← Nat.pow_mul]

theorem hi_eq_nil {n : Nat} : hiL n = [] ↔ n < B64 := by
  constructor
  · intro h
    have h2 := flat8_length (limbs B64 (n / B64))
    unfold hiL at h
    rw [h] at h2
    have h3 : limbs B64 (n / B64) = [] := List.eq_nil_of_length_eq_zero (by simp only [List.length_nil] at h2; omega)
    have h4 := (limbs_eq_nil B64_two).1 h3
    rcases Nat.lt_or_ge n B64 with h' | h'
    · exact h'
    · have := Nat.div_pos h' (by unfold B64; omega); omega
  · intro h; unfold hiL; rw [Nat.div_eq_of_lt h, limbs_zero]; rfl

theorem le8_val {x : Nat} (h : x < B64) : Lib.leNat (le8 x) = x := Lib.leNat_leBytes 8 x h

/-- The i-th word above the lowest one, out of the bytes. -/
theorem flat8_word {xs : List Nat} (hx : Dig B64 xs) {i : Nat} (hi : i < xs.length) : Lib.leNat (((xs.flatMap le8).drop (8 * i)).take 8) = xs[i] := by
  induction xs generalizing i with
  | nil => simp at hi
  | cons x xs ih =>
    cases i with
    | zero =>
      simp only [List.flatMap_cons, Nat.mul_zero, List.drop_zero, List.getElem_cons_zero]
      rw [List.take_append_of_le_length (by rw [le8_length]; exact Nat.le_refl _), List.take_of_length_le (by rw [le8_length]; exact Nat.le_refl _), le8_val hx.head]
    | succ i =>
      have h8 : 8 * (i + 1) = (le8 x).length + 8 * i := by rw [le8_length]; omega
      simp only [List.flatMap_cons, List.getElem_cons_succ]
      rw [h8, List.drop_append]
      rw [List.drop_eq_nil_of_le (by omega), List.nil_append, Nat.add_sub_cancel_left]
      exact ih hx.tail (by simpa using hi)

theorem limbs_length_hi (n : Nat) (h : B64 ≤ n) : (limbs B64 n).length = (limbs B64 (n / B64)).length + 1 := by
  rw [lo_hi_limbs n (by unfold B64 at h; omega)]; rfl

/-- How many words. -/
theorem limbs_bl (n : Nat) : 64 * ((limbs B64 n).length - 1) ≤ bl n := by
  by_cases h : n = 0
  · subst h; rw [limbs_zero]; simp
  · have hp := limbs_length_pos B64_two h
    rcases Nat.lt_or_ge (64 * ((limbs B64 n).length - 1)) (bl n) with h' | h'
    · omega
    · have h1 := (bl_le_iff n _).1 h'
      rw [← B64_pow] at h1
      have := (limbs_length_le_iff B64_two n _).2 h1
      omega

/-- The bits of a number of two words or more. -/
theorem bl_top (n : Nat) (h : B64 ≤ n) (hl : (limbs B64 (n / B64)).length - 1 < (limbs B64 (n / B64)).length) :
    bl n = 64 * (limbs B64 (n / B64)).length + bl ((limbs B64 (n / B64))[(limbs B64 (n / B64)).length - 1]) := by
  have hq : n / B64 ≠ 0 := Nat.ne_of_gt (Nat.div_pos h (by unfold B64; omega))
  have hv := val_limbs B64_two (n / B64)
  have hd := limbs_dig B64_two (n / B64)
  have ht := limbs_top B64_two (n / B64)
  generalize limbs B64 (n / B64) = ws at *
  have hm : 0 < ws.length := by omega
  have hsp := val_split B64 ws (ws.length - 1) (by omega)
  have hdr : ws.drop (ws.length - 1) = [ws[ws.length - 1]] := by
    rw [List.drop_eq_getElem_cons hl]
    rw [List.drop_eq_nil_of_le (by omega)]
  rw [hdr] at hsp
  simp only [val_cons, val_nil, Nat.mul_zero, Nat.add_zero] at hsp
  have htop : ws[ws.length - 1] ≠ 0 := by
    intro e
    apply ht
    rw [List.getLast?_eq_getElem?, List.getElem?_eq_getElem hl, e]
  have hlow := val_lt (hd.take (ws.length - 1))
  rw [List.length_take, Nat.min_eq_left (by omega)] at hlow
  have hn : n = (lo n + B64 * val B64 (ws.take (ws.length - 1))) + 2 ^ (64 * ws.length) * ws[ws.length - 1] := by
    have e1 : n = lo n + B64 * (n / B64) := (Nat.mod_add_div n B64).symm
    have e2 : B64 * B64 ^ (ws.length - 1) = 2 ^ (64 * ws.length) := by
      rw [← B64_pow, Nat.mul_comm, ← Nat.pow_succ]; congr 1; omega
    conv => lhs; rw [e1, ← hv, hsp, Nat.mul_add, ← Nat.mul_assoc, e2]
    omega
  have hA : lo n + B64 * val B64 (ws.take (ws.length - 1)) < 2 ^ (64 * ws.length) := by
    have e2 : 2 ^ (64 * ws.length) = B64 * B64 ^ (ws.length - 1) := by
      rw [← B64_pow, Nat.mul_comm, ← Nat.pow_succ]; congr 1; omega
    rw [e2]
    have h1 := lo_lt n
    have h2 := Nat.mul_le_mul_left B64 hlow
    rw [Nat.succ_eq_add_one, Nat.mul_add, Nat.mul_one] at h2
    omega
  conv => lhs; rw [hn]
  exact bl_shift hA htop

/-! ### Which of two numbers is greater -/
theorem val_lt_at {b : Nat} {us vs : List Nat} (hu : Dig b us) (hl : us.length = vs.length) {i : Nat} (hi : i < us.length) (ht : us.drop (i + 1) = vs.drop (i + 1)) (hlt : us[i] < vs[i]'(by omega)) : val b us < val b vs := by
  have e1 := val_split b us i (by omega)
  have e2 := val_split b vs i (by omega)
  rw [val_drop_cons b us i hi] at e1
  rw [val_drop_cons b vs i (by omega), ← ht] at e2
  have h1 := val_lt (hu.take i)
  rw [List.length_take, Nat.min_eq_left (by omega)] at h1
  have h2 : b ^ i * (us[i] + 1) ≤ b ^ i * (vs[i]'(by omega)) := Nat.mul_le_mul_left _ hlt
  rw [Nat.mul_add] at e1 e2
  rw [Nat.mul_add, Nat.mul_one] at h2
  omega
theorem lt_of_limbs {b : Nat} (hb : 2 ≤ b) {m n : Nat} (h : (limbs b m).length < (limbs b n).length) : m < n := by
  rcases Nat.lt_or_ge m n with h' | h'
  · exact h'
  · have h1 : m < b ^ (limbs b m).length := (limbs_length_le_iff hb m _).1 (Nat.le_refl _)
    have h2 := (limbs_length_le_iff hb n (limbs b m).length).2 (by omega)
    omega

end Go.Proofs.YtcfpjgcellahnaaDoor
