/- Sums and differences of the document's numbers: plain mathematics. -/
import Derived.Test.YtcfpjgcellahnaaDoorRef
import Derived.Test.YtcfpjgcellahnaaDoorArith
import Derived.Test.YtcfpjgcellahnaaDoorW4
namespace Go.Proofs.YtcfpjgcellahnaaDoor

/-- What holds while NatAdd fills its limbs. -/
structure RaInv (xs ys : List Nat) (i c : Nat) (L : List Nat) : Prop where
  len : L.length = max xs.length ys.length + 1
  dig : Dig B32 L
  c1 : c ≤ 1
  vl : val B32 (L.take i) + c * B32 ^ i = val B32 (xs.take i) + val B32 (ys.take i)
theorem RaInv.start (xs ys : List Nat) : RaInv xs ys 0 0 (List.replicate (max xs.length ys.length + 1) 0) :=
  ⟨by simp, Dig.rep (by unfold B32; omega) _, by omega, by simp⟩
theorem RaInv.step {xs ys : List Nat} {i c : Nat} {L : List Nat} (h : RaInv xs ys i c L) (hx : Dig B32 xs) (hy : Dig B32 ys) (hi : i < L.length) :
    RaInv xs ys (i + 1) ((c + xs.getD i 0 + ys.getD i 0) / B32) (L.set i ((c + xs.getD i 0 + ys.getD i 0) % B32)) := by
  have h1 := hx.getD (by unfold B32; omega) i
  have h2 := hy.getD (by unfold B32; omega) i
  have h3 := h.c1
  have e := Nat.mod_add_div (c + xs.getD i 0 + ys.getD i 0) B32
  refine ⟨by simpa using h.len, h.dig.set _ (Nat.mod_lt _ (by unfold B32; omega)), ?_, ?_⟩
  · clear e; unfold B32 at *; omega
  · rw [val_take_set _ _ _ _ hi, val_take_getD, val_take_getD, Nat.pow_succ]
    refine add_step h.vl ?_
    rw [e]; omega
theorem RaInv.fin {xs ys : List Nat} {c : Nat} {L : List Nat} (h : RaInv xs ys L.length c L) (hx : Dig B32 xs) (hy : Dig B32 ys) : val B32 L = val B32 xs + val B32 ys := by
  have hv := h.vl
  have hl := h.len
  have h3 := h.c1
  rw [List.take_length, val_take_all _ xs _ (by omega), val_take_all _ ys _ (by omega)] at hv
  have hlx := val_lt hx
  have hly := val_lt hy
  have a1 : B32 ^ xs.length ≤ B32 ^ max xs.length ys.length := Nat.pow_le_pow_right (by unfold B32; omega) (Nat.le_max_left _ _)
  have a2 : B32 ^ ys.length ≤ B32 ^ max xs.length ys.length := Nat.pow_le_pow_right (by unfold B32; omega) (Nat.le_max_right _ _)
  rw [hl, Nat.pow_succ] at hv
  generalize B32 ^ max xs.length ys.length = M at *
  have a3 : M * B32 = M * 4294967296 := rfl
  rw [a3] at hv
  rcases Nat.eq_zero_or_pos c with h0 | h0
  · subst h0; simpa using hv
  · obtain rfl : c = 1 := by omega
    omega

/-- .. while NatSub does. -/
structure RsInv (xs ys : List Nat) (i c : Nat) (L : List Nat) : Prop where
  len : L.length = xs.length
  dig : Dig B32 L
  c1 : c ≤ 1
  vl : val B32 (xs.take i) + c * B32 ^ i = val B32 (L.take i) + val B32 (ys.take i)
theorem RsInv.start (xs ys : List Nat) : RsInv xs ys 0 0 (List.replicate xs.length 0) :=
  ⟨by simp, Dig.rep (by unfold B32; omega) _, by omega, by simp⟩
theorem rs_dig {x y c d : Nat} (hx : x < B32) (hy : y < B32) (hc : c ≤ 1) (hd : d = (x + 18446744073709551616 - y - c) % 18446744073709551616) :
    x + B32 * (d / 9223372036854775808) = y + c + d % 4294967296 ∧ d / 9223372036854775808 ≤ 1 := by
  unfold B32 at *; omega
theorem RsInv.step {xs ys : List Nat} {i c d : Nat} {L : List Nat} (h : RsInv xs ys i c L) (hx : Dig B32 xs) (hy : Dig B32 ys) (hi : i < xs.length)
    (hd : d = (xs.getD i 0 + 18446744073709551616 - ys.getD i 0 - c) % 18446744073709551616) :
    RsInv xs ys (i + 1) (d / 9223372036854775808) (L.set i (d % 4294967296)) := by
  have h1 := hx.getD (by unfold B32; omega) i
  have h2 := hy.getD (by unfold B32; omega) i
  obtain ⟨e, e1⟩ := rs_dig h1 h2 h.c1 hd
  refine ⟨by simpa using h.len, h.dig.set _ (Nat.mod_lt _ (by omega)), e1, ?_⟩
  rw [val_take_set _ _ _ _ (by rw [h.len]; exact hi), val_take_getD, val_take_getD, Nat.pow_succ]
  exact sub_step h.vl e
theorem RsInv.fin {xs ys : List Nat} {c : Nat} {L : List Nat} (h : RsInv xs ys xs.length c L) (hle : val B32 ys ≤ val B32 xs) (hl : ys.length ≤ xs.length) : val B32 L = val B32 xs - val B32 ys := by
  have hv := h.vl
  have h3 := h.c1
  have hll := val_lt h.dig
  rw [h.len] at hll
  rw [List.take_length, val_take_all _ ys _ hl, val_take_all _ L _ (by rw [h.len]; omega)] at hv
  generalize B32 ^ xs.length = M at *
  rcases Nat.eq_zero_or_pos c with h0 | h0
  · subst h0; omega
  · obtain rfl : c = 1 := by omega
    omega

/-- Comparison from the highest limb on. -/
theorem cmpN_at {a b j : Nat} (h : (limbs B32 a).length = (limbs B32 b).length) (hj : j < (limbs B32 a).length) (hd : (limbs B32 a).drop (j + 1) = (limbs B32 b).drop (j + 1))
    (hne : (limbs B32 a).getD j 0 ≠ (limbs B32 b).getD j 0) : cmpN ((limbs B32 a).getD j 0) ((limbs B32 b).getD j 0) = cmpN a b := by
  have hjb : j < (limbs B32 b).length := by omega
  have da := limbs_dig B32_two a
  have db := limbs_dig B32_two b
  have va := val_limbs B32_two a
  have vb := val_limbs B32_two b
  rw [getD_lt _ _ hj, getD_lt _ _ hjb] at hne ⊢
  rcases Nat.lt_or_ge (limbs B32 a)[j] (limbs B32 b)[j] with h' | h'
  · have := val_lt_at da h hj hd h'
    rw [va, vb] at this
    rw [cmpN_lt this, cmpN_lt h']
  · have h' : (limbs B32 b)[j] < (limbs B32 a)[j] := by omega
    have := val_lt_at db h.symm hjb hd.symm h'
    rw [va, vb] at this
    rw [cmpN_gt this, cmpN_gt h']
end Go.Proofs.YtcfpjgcellahnaaDoor
