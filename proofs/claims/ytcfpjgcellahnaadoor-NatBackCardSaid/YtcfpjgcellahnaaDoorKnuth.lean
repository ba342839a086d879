/- Long division: plain mathematics. -/
import Derived.Test.YtcfpjgcellahnaaDoorDiv
import Derived.Test.YtcfpjgcellahnaaDoorArith
namespace Go.Proofs.YtcfpjgcellahnaaDoor

/-! ### By one word -/
structure DwInv (xs : List Nat) (d k r : Nat) (L : List Nat) : Prop where
  len : L.length = xs.length
  dig : Dig B64 L
  low : L.take k = xs.take k
  lt : r < d
  vl : val B64 (xs.drop k) = val B64 (L.drop k) * d + r
theorem DwInv.start {xs : List Nat} {d : Nat} (hd : Dig B64 xs) (h : 0 < d) : DwInv xs d xs.length 0 xs := ⟨rfl, hd, rfl, h, by simp⟩
theorem getD_take {L xs : List Nat} {k i : Nat} (h : L.take k = xs.take k) (hi : i < k) : L.getD i 0 = xs.getD i 0 := by
  simp only [List.getD_eq_getElem?_getD]
  rw [← List.getElem?_take_of_lt hi, h, List.getElem?_take_of_lt hi]
theorem DwInv.step {xs : List Nat} {d k r : Nat} {L : List Nat} (h : DwInv xs d (k + 1) r L) (hk : k < xs.length) :
    (r * B64 + xs.getD k 0) / d < B64 ∧ DwInv xs d k ((r * B64 + xs.getD k 0) % d) (L.set k ((r * B64 + xs.getD k 0) / d)) := by
  have hdp : 0 < d := by have := h.lt; omega
  have hkl : k < L.length := by rw [h.len]; exact hk
  have hxl : xs.getD k 0 < B64 := by rw [← getD_take h.low (Nat.lt_succ_self k)]; exact h.dig.getD (by unfold B64; omega) k
  have hq : (r * B64 + xs.getD k 0) / d < B64 := by
    rw [Nat.div_lt_iff_lt_mul hdp]
    have := Nat.mul_le_mul_right B64 h.lt
    rw [Nat.succ_eq_add_one, Nat.add_mul, Nat.one_mul] at this
    rw [Nat.mul_comm B64]
    omega
  refine ⟨hq, by simpa using h.len, h.dig.set _ hq, ?_, Nat.mod_lt _ hdp, ?_⟩
  · rw [List.take_set_of_le (Nat.le_refl _)]
    have := congrArg (List.take k) h.low
    rwa [List.take_take, List.take_take, Nat.min_eq_left (by omega)] at this
  · have e1 := val_drop_cons B64 xs k hk
    have e2 := val_drop_cons B64 (L.set k ((r * B64 + xs.getD k 0) / d)) k (by simpa using hkl)
    rw [List.getElem_set_self, drop_set_succ] at e2
    rw [e1, e2, h.vl, ← getD_lt _ _ hk]
    have e3 := Nat.div_add_mod (r * B64 + xs.getD k 0) d
    generalize (r * B64 + xs.getD k 0) / d = q at *
    generalize (r * B64 + xs.getD k 0) % d = r' at *
    generalize xs.getD k 0 = x at *
    generalize val B64 (L.drop (k + 1)) = V at *
    grind
theorem DwInv.fin {xs : List Nat} {d r : Nat} {L : List Nat} (h : DwInv xs d 0 r L) : val B64 L = val B64 xs / d ∧ r = val B64 xs % d := by
  have hv := h.vl
  simp only [List.drop_zero] at hv
  have hdp : 0 < d := by have := h.lt; omega
  have := h.lt
  rw [hv]
  constructor
  · rw [Nat.mul_comm, Nat.mul_add_div hdp, Nat.div_eq_of_lt h.lt, Nat.add_zero]
  · rw [Nat.mul_comm, Nat.mul_add_mod, Nat.mod_eq_of_lt h.lt]

/-! ### The guess of a digit -/
/-- What a guess is good for: U the two upper words of the rest, u the third; v1, v0 the two upper words of the divisor. -/
def Good (U u v1 v0 g : Nat) : Prop := g < B64 ∧ g * (v1 * B64 + v0) ≤ U * B64 + u ∧ (g = B64 - 1 ∨ U * B64 + u < (g + 1) * (v1 * B64 + v0))
structure Gw (U u v1 v0 g r o : Nat) : Prop where
  eq : U = g * v1 + r + o * B64
  o1 : o ≤ 1
  glt : g < B64
  rlt : r < B64
  max : g = B64 - 1 ∨ U * B64 + u < (g + 1) * (v1 * B64 + v0)
theorem Gw.same {u1 u v1 v0 s c : Nat} (e : s + B64 * c = u1 + v1) (hs : s < B64) (hc : c ≤ 1) : Gw (v1 * B64 + u1) u v1 v0 (B64 - 1) s c := by
  refine ⟨?_, hc, by unfold B64; omega, hs, .inl rfl⟩
  have : v1 * B64 = (B64 - 1) * v1 + v1 := by
    have h : B64 = (B64 - 1) + 1 := by unfold B64; omega
    conv => lhs; rw [h, Nat.mul_add, Nat.mul_one, Nat.mul_comm]
  rw [this, Nat.mul_comm c]; omega
theorem Gw.less {u2 u1 u v1 v0 : Nat} (h : u2 < v1) (hu1 : u1 < B64) (hu : u < B64) (hv : v1 < B64) : Gw (u2 * B64 + u1) u v1 v0 ((u2 * B64 + u1) / v1) ((u2 * B64 + u1) % v1) 0 := by
  have hp : 0 < v1 := by omega
  have hm := Nat.mod_lt (u2 * B64 + u1) hp
  have hd := Nat.div_add_mod (u2 * B64 + u1) v1
  rw [Nat.mul_comm v1] at hd
  refine ⟨by omega, by omega, ?_, by omega, .inr ?_⟩
  · rw [Nat.div_lt_iff_lt_mul hp]
    have := Nat.mul_le_mul_right B64 h
    rw [Nat.succ_eq_add_one, Nat.add_mul, Nat.one_mul] at this
    rw [Nat.mul_comm B64]; omega
  · have h1 : u2 * B64 + u1 + 1 ≤ ((u2 * B64 + u1) / v1 + 1) * v1 := by rw [Nat.add_mul, Nat.one_mul]; omega
    generalize (u2 * B64 + u1) / v1 = g at *
    generalize u2 * B64 + u1 = U at *
    have h2 := Nat.mul_le_mul_right B64 h1
    rw [Nat.add_mul, Nat.one_mul] at h2
    have h3 : (g + 1) * (v1 * B64 + v0) = (g + 1) * v1 * B64 + (g + 1) * v0 := by rw [Nat.mul_add, Nat.mul_assoc]
    have := Nat.zero_le ((g + 1) * v0)
    omega
theorem Gw.over {U u v1 v0 g r : Nat} (h : Gw U u v1 v0 g r 1) (hv : v0 < B64) : Good U u v1 v0 g := by
  refine ⟨h.glt, ?_, h.max⟩
  have h1 : g * v0 ≤ B64 * B64 := Nat.mul_le_mul (Nat.le_of_lt h.glt) (Nat.le_of_lt hv)
  have e := h.eq
  rw [Nat.one_mul] at e
  rw [Nat.mul_add, ← Nat.mul_assoc, e, Nat.add_mul, Nat.add_mul]
  omega
theorem Gw.done {U u v1 v0 g r : Nat} (h : Gw U u v1 v0 g r 0) (ht : g * v0 ≤ r * B64 + u) : Good U u v1 v0 g := by
  refine ⟨h.glt, ?_, h.max⟩
  have e := h.eq
  rw [Nat.zero_mul, Nat.add_zero] at e
  rw [Nat.mul_add, ← Nat.mul_assoc, e, Nat.add_mul]
  omega
theorem Gw.next {U u v1 v0 g r s c : Nat} (h : Gw U u v1 v0 g r 0) (ht : r * B64 + u < g * v0) (e : s + B64 * c = r + v1) (hs : s < B64) (hc : c ≤ 1) : 1 ≤ g ∧ Gw U u v1 v0 (g - 1) s c := by
  have hg : 1 ≤ g := by
    rcases Nat.eq_zero_or_pos g with h0 | h0
    · subst h0; simp at ht
    · exact h0
  have e' := h.eq
  rw [Nat.zero_mul, Nat.add_zero] at e'
  obtain ⟨k, rfl⟩ : ∃ k, g = k + 1 := ⟨g - 1, by omega⟩
  refine ⟨hg, ?_, hc, by have := h.glt; omega, hs, .inr ?_⟩
  · rw [Nat.add_sub_cancel, e', Nat.add_mul, Nat.one_mul, Nat.mul_comm c]; omega
  · rw [Nat.add_sub_cancel, Nat.mul_add, ← Nat.mul_assoc]
    have := congrArg (· * B64) e'
    simp only [Nat.add_mul (( k + 1) * v1)] at this
    omega
/-- The test of guessWord, by the two halves of the product. -/
theorem guess_test {g v0 r u : Nat} (hu : u < B64) : (muH g v0 < r ∨ (muH g v0 = r ∧ muL g v0 ≤ u)) ↔ g * v0 ≤ r * B64 + u := by
  have e := mu_eq g v0
  have hl := muL_lt g v0
  rw [← e]
  generalize muH g v0 = h at *
  generalize muL g v0 = l at *
  constructor
  · rintro (h1 | ⟨rfl, h1⟩)
    · have := Nat.mul_le_mul_left B64 h1
      rw [Nat.succ_eq_add_one, Nat.mul_add, Nat.mul_one] at this
      rw [Nat.mul_comm r]; omega
    · rw [Nat.mul_comm h]; omega
  · intro h1
    rcases Nat.lt_trichotomy h r with h2 | h2 | h2
    · exact .inl h2
    · subst h2; rw [Nat.mul_comm h] at h1; exact .inr ⟨rfl, by omega⟩
    · exfalso
      have := Nat.mul_le_mul_left B64 h2
      rw [Nat.succ_eq_add_one, Nat.mul_add, Nat.mul_one] at this
      rw [Nat.mul_comm r] at h1; omega

end Go.Proofs.YtcfpjgcellahnaaDoor
