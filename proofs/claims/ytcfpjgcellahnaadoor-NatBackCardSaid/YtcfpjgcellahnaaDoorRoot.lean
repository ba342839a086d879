/- Roots: plain mathematics. -/
import Derived.Test.YtcfpjgcellahnaaDoorMem
import Derived.Test.YtcfpjgcellahnaaDoorBits
import Derived.Test.YtcfpjgcellahnaaDoorW4
namespace Go.Proofs.YtcfpjgcellahnaaDoor

theorem nat_inj {x y : Nat} (h1 : lo x = lo y) (h2 : hi x = hi y) : x = y := by
  have h3 : (limbs B64 (x / B64)).flatMap le8 = (limbs B64 (y / B64)).flatMap le8 := by rw [← hi_data, ← hi_data, h2]
  have h4 : limbs B64 (x / B64) = limbs B64 (y / B64) := by
    have dx := limbs_dig B64_two (x / B64)
    have dy := limbs_dig B64_two (y / B64)
    have hl : (limbs B64 (x / B64)).length = (limbs B64 (y / B64)).length := by
      have := congrArg List.length h3
      rw [flat8_length, flat8_length] at this
      omega
    apply List.ext_getElem hl
    intro i hi hi'
    rw [← flat8_word dx hi, ← flat8_word dy hi', h3]
  have h5 : x / B64 = y / B64 := by rw [← val_limbs B64_two (x / B64), ← val_limbs B64_two (y / B64), h4]
  rw [lo_mod x, lo_mod y, h1, h5]

open Classical in
/-- The number that lies in a block. -/
noncomputable def numAt (w : World) (g : Nat) : Nat := if h : ∃ x : Nat, Blk w g 24 [.int .u64 (lo x : Nat), .string (hi x)] then Classical.choose h else 0
theorem numAt_of {w : World} {g x : Nat} (h : Blk w g 24 [.int .u64 (lo x : Nat), .string (hi x)]) : numAt w g = x := by
  have hE : ∃ x : Nat, Blk w g 24 [.int .u64 (lo x : Nat), .string (hi x)] := ⟨x, h⟩
  unfold numAt
  rw [dif_pos hE]
  have h1 := Classical.choose_spec hE
  have h2 := h1.symm.trans h
  simp at h2
  exact nat_inj (Int.ofNat_inj.1 h2.1) h2.2

/-- r is the root of a. -/
def IsRoot (a r : Nat) : Prop := r * r ≤ a ∧ a < (r + 1) * (r + 1)
theorem IsRoot.unique {a r s : Nat} (h : IsRoot a r) (k : IsRoot a s) : r = s := by
  rcases Nat.lt_trichotomy r s with h1 | h1 | h1
  · have := Nat.mul_le_mul (show r + 1 ≤ s from h1) (show r + 1 ≤ s from h1)
    have := h.2; have := k.1; omega
  · exact h1
  · have := Nat.mul_le_mul (show s + 1 ≤ r from h1) (show s + 1 ≤ r from h1)
    have := k.2; have := h.1; omega

structure RtInv (a x : Nat) : Prop where
  pos : 0 < x
  up : a < (x + 1) * (x + 1)
  top : x ≤ 2 ^ bl a
theorem RtInv.start {a : Nat} (h : a ≠ 0) : RtInv a (2 ^ ((bl a + 1) / 2)) := by
  have hb := bl_pos h
  refine ⟨Nat.two_pow_pos _, ?_, Nat.pow_le_pow_right (by omega) (by omega)⟩
  have h1 := lt_bl a
  have h2 : 2 ^ bl a ≤ 2 ^ ((bl a + 1) / 2) * 2 ^ ((bl a + 1) / 2) := by rw [← Nat.pow_add]; exact Nat.pow_le_pow_right (by omega) (by omega)
  have h3 := Nat.mul_le_mul (Nat.le_succ (2 ^ ((bl a + 1) / 2))) (Nat.le_succ (2 ^ ((bl a + 1) / 2)))
  simp only [Nat.succ_eq_add_one] at h3
  omega
theorem RtInv.next {a x : Nat} (ha : a ≠ 0) (h : RtInv a x) (hlt : (x + a / x) / 2 < x) : RtInv a ((x + a / x) / 2) := by
  have hx := h.pos
  have e := Nat.div_add_mod a x
  have hm := Nat.mod_lt a hx
  have ht := h.top
  generalize a / x = q at *
  generalize a % x = r at *
  have h1 : a < x * (q + 1) := by rw [Nat.mul_add, Nat.mul_one]; omega
  have h2 : x + q + 1 ≤ 2 * ((x + q) / 2 + 1) := by omega
  generalize (x + q) / 2 = nx at *
  have h3 := Nat.mul_le_mul h2 h2
  have h4 : 4 * (x * (q + 1)) ≤ (x + q + 1) * (x + q + 1) := by
    rw [show x + q + 1 = x + (q + 1) from by omega]
    generalize q + 1 = p
    rcases Nat.le_total x p with hxp | hxp
    · obtain ⟨d, rfl⟩ := Nat.exists_eq_add_of_le hxp
      have : (x + (x + d)) * (x + (x + d)) = 4 * (x * (x + d)) + d * d := by grind
      omega
    · obtain ⟨d, rfl⟩ := Nat.exists_eq_add_of_le hxp
      have : (p + d + p) * (p + d + p) = 4 * ((p + d) * p) + d * d := by grind
      omega
  have h5 : 2 * (nx + 1) * (2 * (nx + 1)) = 4 * ((nx + 1) * (nx + 1)) := by grind
  have h6 : a < (nx + 1) * (nx + 1) := by omega
  refine ⟨?_, h6, by omega⟩
  rcases Nat.eq_zero_or_pos nx with h0 | h0
  · subst h0; omega
  · exact h0
theorem RtInv.done {a x : Nat} (h : RtInv a x) (hge : x ≤ (x + a / x) / 2) : IsRoot a x := by
  refine ⟨?_, h.up⟩
  have e := Nat.div_mul_le_self a x
  have h1 : x ≤ a / x := by omega
  exact Nat.le_trans (Nat.mul_le_mul_right x h1) e
theorem RtInv.sum {a x : Nat} (h : RtInv a x) (hb : bl a ≤ 274877906944) : bl x ≤ 274877906945 ∧ bl (a / x) ≤ 274877906944 ∧ bl (x + a / x) ≤ 274877906946 := by
  have h1 : bl x ≤ 274877906945 := Nat.le_trans (bl_le (Nat.lt_of_le_of_lt h.top (Nat.pow_lt_pow_right (by omega) (Nat.lt_succ_self _)))) (by omega)
  have h2 : bl (a / x) ≤ 274877906944 := Nat.le_trans (bl_mono (Nat.div_le_self a x)) hb
  exact ⟨h1, h2, Nat.le_trans (bl_add _ _) (by omega)⟩
end Go.Proofs.YtcfpjgcellahnaaDoor
