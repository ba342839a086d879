/- Products of lists of words: plain mathematics. -/
import Derived.Test.YtcfpjgcellahnaaDoorShift
namespace Go.Proofs.YtcfpjgcellahnaaDoor

theorem mac_sum {B mn o c lo hi s1 c1 s2 c2 : Nat} (h1 : lo + B * hi = mn) (h2 : s1 + B * c1 = lo + o) (h3 : s2 + B * c2 = s1 + c) : s2 + B * (hi + c1 + c2) = mn + o + c := by grind
theorem mac_lt {B m n o c q r : Nat} (hm : m < B) (hn : n < B) (ho : o < B) (hc : c < B) (h : r + B * q = m * n + o + c) : q < B := by
  have h1 : m * n ≤ (B - 1) * (B - 1) := Nat.mul_le_mul (by omega) (by omega)
  rcases Nat.lt_or_ge q B with h' | h'
  · exact h'
  · exfalso
    have h2 : B * B ≤ B * q := Nat.mul_le_mul_left _ h'
    obtain ⟨b, rfl⟩ : ∃ b, B = b + 1 := ⟨B - 1, by omega⟩
    simp only [Nat.add_sub_cancel] at h1
    have h3 : (b + 1) * (b + 1) = b * b + 2 * b + 1 := by grind
    omega

theorem mulin_arith {VL' VL c I J o s q A YT x y B : Nat} (hv : VL + c * (I * J) = A + x * YT * I) (v : VL' + I * J * o = VL + I * J * s) (e : s + B * q = x * y + o + c) :
    VL' + q * (I * J * B) = A + x * (YT + J * y) * I := by
  have e2 : I * J * s + I * J * B * q = I * J * x * y + I * J * o + I * J * c := by
    have : I * J * (s + B * q) = I * J * (x * y + o + c) := by rw [e]
    grind
  clear e
  grind

/-- What holds in the inner loop of mulWords. -/
structure MulIn (xs ys : List Nat) (i j c : Nat) (L : List Nat) : Prop where
  len : L.length = xs.length + ys.length
  dig : Dig B64 L
  val : val B64 L + c * B64 ^ (i + j) = val B64 (xs.take i) * val B64 ys + xs.getD i 0 * val B64 (ys.take j) * B64 ^ i
  rest : ∀ t, i + ys.length ≤ t → L.getD t 0 = 0
/-- .. in the outer one. -/
structure MulOut (xs ys : List Nat) (i : Nat) (L : List Nat) : Prop where
  len : L.length = xs.length + ys.length
  dig : Dig B64 L
  val : val B64 L = val B64 (xs.take i) * val B64 ys
  rest : ∀ t, i + ys.length ≤ t → L.getD t 0 = 0
theorem MulOut.start (xs ys : List Nat) : MulOut xs ys 0 (List.replicate (xs.length + ys.length) 0) :=
  ⟨by simp, Dig.rep (by unfold B64; omega) _, by rw [val_rep]; simp, fun i _ => getD_rep _ i⟩
theorem MulOut.inner {xs ys : List Nat} {i : Nat} {L : List Nat} (h : MulOut xs ys i L) : MulIn xs ys i 0 0 L := ⟨h.len, h.dig, by simpa using h.val, h.rest⟩
theorem MulIn.step {xs ys : List Nat} {i j c : Nat} {L : List Nat} (h : MulIn xs ys i j c L) (hi : i < xs.length) (hj : j < ys.length) {s q : Nat} (hs : s < B64)
    (e : s + B64 * q = xs.getD i 0 * ys.getD j 0 + L.getD (i + j) 0 + c) : MulIn xs ys i (j + 1) q (L.set (i + j) s) := by
  have hlen := h.len
  have hl : i + j < L.length := by omega
  have v := val_set B64 L (i + j) s hl
  rw [← getD_lt _ _ hl] at v
  refine ⟨by simpa using hlen, h.dig.set _ hs, ?_, fun t ht => ?_⟩
  · have hv := h.val
    rw [val_take_getD B64 ys, ← Nat.add_assoc, Nat.pow_succ]
    have e1 : B64 ^ (i + j) = B64 ^ i * B64 ^ j := Nat.pow_add _ _ _
    rw [e1] at v hv ⊢
    exact mulin_arith hv v e
  · rw [getD_set _ _ _ _ hl, if_neg (by omega)]
    exact h.rest t ht
theorem MulIn.close {xs ys : List Nat} {i c : Nat} {L : List Nat} (h : MulIn xs ys i ys.length c L) (hi : i < xs.length) (hc : c < B64) : MulOut xs ys (i + 1) (L.set (i + ys.length) c) := by
  have hlen := h.len
  have hl : i + ys.length < L.length := by omega
  have v := val_set B64 L (i + ys.length) c hl
  rw [← getD_lt _ _ hl, h.rest _ (Nat.le_refl _)] at v
  refine ⟨by simpa using hlen, h.dig.set _ hc, ?_, fun t ht => ?_⟩
  · have hv := h.val
    rw [List.take_length] at hv
    rw [val_take_getD B64 xs]
    generalize B64 ^ (i + ys.length) = Q at *
    generalize B64 ^ i = I at *
    generalize xs.getD i 0 = x at *
    grind
  · rw [getD_set _ _ _ _ hl, if_neg (by omega)]
    exact h.rest t (by omega)

end Go.Proofs.YtcfpjgcellahnaaDoor
