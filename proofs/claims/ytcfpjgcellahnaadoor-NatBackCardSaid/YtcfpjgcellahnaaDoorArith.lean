/- Steps of the loops over digits, as plain arithmetic. -/
namespace Go.Proofs.YtcfpjgcellahnaaDoor

theorem add_step {b P A X Y c x y q r : Nat} (h : A + c * P = X + Y) (e : r + b * q = x + y + c) :
    (A + P * r) + q * (P * b) = (X + P * x) + (Y + P * y) := by grind

theorem sub_step {b P A X Y c x y q r : Nat} (h : X + c * P = A + Y) (e : x + b * q = y + c + r) :
    (X + P * x) + q * (P * b) = (A + P * r) + (Y + P * y) := by grind

theorem muladd_step {b P A X m a c x q r : Nat} (h : A + c * P = X * m + a) (e : r + b * q = x * m + c) :
    (A + P * r) + q * (P * b) = (X + P * x) * m + a := by grind

/-- The guess of a word of a quotient from the three highest words of the rest and the two highest of the divisor. -/
theorem knuth_guess {B V3 U3 Vr Ur P V U g : Nat} (hV : V = V3 * P + Vr) (hVr : Vr < P) (hU : U = U3 * P + Ur) (hUr : Ur < P)
    (hlt : U < V * B) (hV3 : B ≤ V3) (g_le : g * V3 ≤ U3) (g_lt : g < B) (g_max : g = B - 1 ∨ U3 < (g + 1) * V3) : U / V ≤ g ∧ g ≤ U / V + 1 := by
  have hVpos : 0 < V := by
    rcases Nat.eq_zero_or_pos V with h | h
    · rw [h] at hlt; simp at hlt
    · exact h
  have hq1 : U / V * V ≤ U := Nat.div_mul_le_self U V
  have hq2 : U < (U / V + 1) * V := by
    have := Nat.lt_div_mul_add hVpos (a := U)
    rw [Nat.add_mul, Nat.one_mul]; exact this
  have hqB : U / V < B := (Nat.div_lt_iff_lt_mul hVpos).2 (by rw [Nat.mul_comm]; exact hlt)
  generalize U / V = q at *
  constructor
  · rcases g_max with h | h
    · omega
    · -- q * V3 ≤ U3
      have h1 : q * V3 ≤ U3 := by
        rcases Nat.lt_or_ge U3 (q * V3) with h' | h'
        · exfalso
          have a1 : (U3 + 1) * P ≤ q * V3 * P := Nat.mul_le_mul_right _ h'
          have a2 : q * V3 * P ≤ q * V := by rw [hV, Nat.mul_add, Nat.mul_assoc]; omega
          have a3 : (U3 + 1) * P = U3 * P + P := by rw [Nat.add_mul, Nat.one_mul]
          omega
        · exact h'
      rcases Nat.lt_or_ge g q with h' | h'
      · exfalso
        have : (g + 1) * V3 ≤ q * V3 := Nat.mul_le_mul_right _ h'
        omega
      · exact h'
  · rcases Nat.lt_or_ge (q + 1) g with h' | h'
    · exfalso
      have a1 : g * V = g * V3 * P + g * Vr := by rw [hV, Nat.mul_add, Nat.mul_assoc]
      have a2 : g * V3 * P ≤ U3 * P := Nat.mul_le_mul_right _ g_le
      have a3 : g * Vr ≤ B * P := Nat.mul_le_mul (by omega) (by omega)
      have a4 : B * P ≤ V3 * P := Nat.mul_le_mul_right _ hV3
      have a5 : (q + 2) * V ≤ g * V := Nat.mul_le_mul_right _ h'
      have a6 : (q + 2) * V = (q + 1) * V + V := by rw [Nat.add_mul, Nat.add_mul]; omega
      omega
    · exact h'

end Go.Proofs.YtcfpjgcellahnaaDoor
