/- Division of a number of two words by one word, as math/bits does it: plain mathematics. -/
import Derived.Test.YtcfpjgcellahnaaDoorMul
namespace Go.Proofs.YtcfpjgcellahnaaDoor

/-- One digit of the quotient: q is at least the digit; r is what the first half of the divisor leaves. -/
structure Dg (b y1 y0 U u q r : Nat) : Prop where
  eq : U = q * y1 + r
  ge : (U * b + u) / (y1 * b + y0) ≤ q

theorem Dg.start {b y1 y0 U u : Nat} (hb : 0 < b) (hy1 : 0 < y1) (hu : u < b) : Dg b y1 y0 U u (U / y1) (U % y1) := by
  refine ⟨by rw [Nat.mul_comm]; exact (Nat.div_add_mod U y1).symm, ?_⟩
  have hpos : 0 < y1 * b + y0 := Nat.lt_of_lt_of_le (Nat.mul_pos hy1 hb) (Nat.le_add_right _ _)
  rw [Nat.le_div_iff_mul_le hy1]
  have h1 := Nat.div_mul_le_self (U * b + u) (y1 * b + y0)
  generalize (U * b + u) / (y1 * b + y0) = k at *
  rcases Nat.lt_or_ge U (k * y1) with h | h
  · exfalso
    have h2 : (U + 1) * b ≤ k * y1 * b := Nat.mul_le_mul_right _ h
    have h3 : k * (y1 * b + y0) = k * y1 * b + k * y0 := by rw [Nat.mul_add, Nat.mul_assoc]
    rw [Nat.add_mul, Nat.one_mul] at h2
    have := Nat.zero_le (k * y0)
    omega
  · exact h

/-- The test of the loop. -/
theorem Dg.test {b y1 y0 U u q r : Nat} (h : Dg b y1 y0 U u q r) : q * y0 ≤ b * r + u ↔ q * (y1 * b + y0) ≤ U * b + u := by
  have e1 : q * (y1 * b + y0) = q * y1 * b + q * y0 := by rw [Nat.mul_add, Nat.mul_assoc]
  have e2 : U * b = q * y1 * b + b * r := by rw [h.eq, Nat.add_mul, Nat.mul_comm r]
  rw [e1, e2]
  omega
theorem Dg.done {b y1 y0 U u q r : Nat} (h : Dg b y1 y0 U u q r) (hp : 0 < y1 * b + y0) (ht : q * y0 ≤ b * r + u) : q = (U * b + u) / (y1 * b + y0) := by
  apply Nat.le_antisymm
  · exact (Nat.le_div_iff_mul_le hp).2 (h.test.1 ht)
  · exact h.ge
theorem Dg.next {b y1 y0 U u q r : Nat} (h : Dg b y1 y0 U u q r) (hp : 0 < y1 * b + y0) (ht : b * r + u < q * y0) : 1 ≤ q ∧ Dg b y1 y0 U u (q - 1) (r + y1) := by
  have hq : 1 ≤ q := by
    rcases Nat.eq_zero_or_pos q with h0 | h0
    · subst h0; simp at ht
    · exact h0
  refine ⟨hq, ?_, ?_⟩
  · have := h.eq
    obtain ⟨k, rfl⟩ : ∃ k, q = k + 1 := ⟨q - 1, by omega⟩
    rw [Nat.add_sub_cancel, this]; grind
  · have h1 : U * b + u < q * (y1 * b + y0) := by
      rcases Nat.lt_or_ge (U * b + u) (q * (y1 * b + y0)) with h' | h'
      · exact h'
      · have := h.test.2 h'; omega
    have := (Nat.div_lt_iff_lt_mul hp).2 h1
    omega
/-- A digit that is b or more is too great. -/
theorem Dg.big {b y1 y0 U u q r : Nat} (h : Dg b y1 y0 U u q r) (hU : U < y1 * b + y0) (hu : u < b) (hq : b ≤ q) : b * r + u < q * y0 := by
  rcases Nat.lt_or_ge (b * r + u) (q * y0) with h' | h'
  · exact h'
  · exfalso
    have h1 := h.test.1 h'
    have h2 : b * (y1 * b + y0) ≤ q * (y1 * b + y0) := Nat.mul_le_mul_right _ hq
    have h3 : (U + 1) * b ≤ (y1 * b + y0) * b := Nat.mul_le_mul_right _ hU
    rw [Nat.mul_comm (y1 * b + y0) b, Nat.add_mul, Nat.one_mul] at h3
    omega
/-- Where the rest is b or more the test says no. -/
theorem Dg.over {b y1 y0 U u q r : Nat} (_h : Dg b y1 y0 U u q r) (hy0 : y0 < b) (hq : q ≤ b) (hr : b ≤ r) : q * y0 ≤ b * r + u := by
  have h1 : q * y0 ≤ b * b := Nat.mul_le_mul hq (by omega)
  have h2 : b * b ≤ b * r := Nat.mul_le_mul_left _ hr
  omega

/-- The two digits and what is left. -/
theorem two_digits {b y N1 u0 q1 r1 q0 r0 : Nat} (h1 : N1 = q1 * y + r1) (h0 : r1 * b + u0 = q0 * y + r0) : N1 * b + u0 = (q1 * b + q0) * y + r0 := by
  subst h1; grind

/-! ### What Div64 has before its loops -/
def b32 : Nat := 4294967296
theorem B64_b32 : B64 = b32 * b32 := rfl
theorem and_mask (t : Nat) (h : t < B64) : bits .and .u64 (t : Int) 4294967295 = ((t % 4294967296 : Nat) : Int) := by
  have e := u64_and_nat t 4294967295 h (by omega)
  have e2 : t &&& 4294967295 = t % 4294967296 := Nat.and_two_pow_sub_one_eq_mod t 32
  rw [e2] at e
  exact e
theorem wrapN (n : Nat) : IntKind.u64.wrap (n : Int) = ((n % B64 : Nat) : Int) := by
  rw [IntKind.wrap_u64]; rfl
theorem wrap_shl (x s : Nat) : IntKind.u64.wrap ((x : Int) * 2 ^ s) = ((x * 2 ^ s % B64 : Nat) : Int) := by
  rw [← wrapN]; congr 1

theorem dm32 (n : Nat) : n = n / 4294967296 * b32 + n % 4294967296 := by unfold b32; omega
theorem div32 (n : Nat) : (n : Int) / 4294967296 = ((n / 4294967296 : Nat) : Int) := by omega

structure Set64 (hi lo y s Y y1 y0 U T u1 u0 : Nat) : Prop where
  yeq : Y = y * 2 ^ s
  yy : Y = y1 * b32 + y0
  y1lo : 2147483648 ≤ y1
  y1hi : y1 < b32
  y0hi : y0 < b32
  u : U < Y
  t : T = u1 * b32 + u0
  u1hi : u1 < b32
  u0hi : u0 < b32
  all : (hi * B64 + lo) * 2 ^ s = (U * b32 + u1) * b32 + u0
  e1 : IntKind.u64.wrap ((y : Int) * 2 ^ s) = (Y : Int)
  e2 : bits .and .u64 (Y : Int) 4294967295 = (y0 : Int)
  e3 : (Y : Int) / 4294967296 = (y1 : Int)
  e4 : bits .or .u64 (IntKind.u64.wrap ((hi : Int) * 2 ^ s)) ((lo : Int) / 2 ^ (64 - s)) = (U : Int)
  e5 : IntKind.u64.wrap ((lo : Int) * 2 ^ s) = (T : Int)
  e6 : (T : Int) / 4294967296 = (u1 : Int)
  e7 : bits .and .u64 (T : Int) 4294967295 = (u0 : Int)

theorem set64 (hi lo y s : Nat) (hy : hi < y) (hl : lo < B64) (hs : s + bl y = 64) :
    ∃ Y y1 y0 U T u1 u0, Set64 hi lo y s Y y1 y0 U T u1 u0 := by
  have hs64 : s ≤ 64 := by omega
  have hpos : 0 < bl y := bl_pos (by omega)
  have hYlt : y * 2 ^ s < B64 := by
    have h1 := lt_bl y
    have : B64 = 2 ^ bl y * 2 ^ s := by rw [← Nat.pow_add]; have : bl y + s = 64 := by omega
                                        rw [this]; rfl
    rw [this]
    exact Nat.mul_lt_mul_of_pos_right h1 (Nat.pow_pos (by omega))
  have hYge : 9223372036854775808 ≤ y * 2 ^ s := by
    have h1 := two_pow_le (n := y) (by omega)
    have h2 := Nat.mul_le_mul_right (2 ^ s) h1
    rw [← Nat.pow_add] at h2
    have : bl y - 1 + s = 63 := by omega
    rw [this] at h2
    exact h2
  have hTlt : lo * 2 ^ s % B64 < B64 := Nat.mod_lt _ (by unfold B64; omega)
  have hup := up_sum (o := 0) (x := lo) hs64
  have hH := upH_lt hs64 hl
  -- the or of the two parts
  have hhi2 : hi * 2 ^ s < B64 := Nat.lt_of_le_of_lt (Nat.mul_le_mul_right _ (Nat.le_of_lt hy)) hYlt
  have eT : lo * 2 ^ s % B64 = upL 0 lo s := by rw [shl_mod hs64]; unfold upL; omega
  have eU : bits .or .u64 (IntKind.u64.wrap ((hi : Int) * 2 ^ s)) ((lo : Int) / 2 ^ (64 - s)) = ((hi * 2 ^ s + upH lo s : Nat) : Int) := by
    rw [wrap_shl, Nat.mod_eq_of_lt hhi2, upH_val, u64_or_nat _ _ hhi2 (Nat.lt_of_lt_of_le hH (Nat.le_trans (Nat.pow_le_pow_right (by omega) hs64) (Nat.le_refl _))), Nat.or_comm, Nat.mul_comm hi, or_add hH, Nat.add_comm]
  have hUlt : hi * 2 ^ s + upH lo s < y * 2 ^ s := by
    have := Nat.mul_le_mul_right (2 ^ s) hy
    rw [Nat.succ_eq_add_one, Nat.add_mul, Nat.one_mul] at this
    omega
  refine ⟨y * 2 ^ s, y * 2 ^ s / 4294967296, y * 2 ^ s % 4294967296, hi * 2 ^ s + upH lo s, lo * 2 ^ s % B64, lo * 2 ^ s % B64 / 4294967296, lo * 2 ^ s % B64 % 4294967296, rfl, ?_, ?_, ?_, ?_, hUlt, ?_, ?_, ?_, ?_, ?_, ?_, ?_, eU, ?_, ?_, ?_⟩
  · exact dm32 _
  · omega
  · unfold b32; unfold B64 at hYlt; omega
  · unfold b32; omega
  · exact dm32 _
  · unfold b32; unfold B64 at hTlt ⊢; omega
  · unfold b32; omega
  · have h1 : lo * 2 ^ s % B64 / 4294967296 * b32 + lo * 2 ^ s % B64 % 4294967296 = lo * 2 ^ s % B64 := (dm32 _).symm
    have h2 : ((hi * 2 ^ s + upH lo s) * b32 + lo * 2 ^ s % B64 / 4294967296) * b32 + lo * 2 ^ s % B64 % 4294967296 = (hi * 2 ^ s + upH lo s) * B64 + lo * 2 ^ s % B64 := by
      rw [B64_b32, Nat.add_mul, Nat.add_assoc, ← B64_b32, h1, Nat.mul_assoc, ← B64_b32]
    rw [h2, eT]
    generalize upL 0 lo s = L at *
    generalize upH lo s = H at *
    generalize 2 ^ s = P at *
    grind
  · rw [wrap_shl, Nat.mod_eq_of_lt hYlt]
  · exact and_mask _ hYlt
  · exact div32 _
  · exact wrap_shl lo s
  · exact div32 _
  · exact and_mask _ hTlt

/-- One digit and what is left, modulo 2^64. -/
theorem digit_rest {N1 Y q : Nat} (hY : Y < B64) (hp : 0 < Y) (hq : q = N1 / Y) : ((N1 : Int) - (q * Y : Nat)) % 18446744073709551616 = ((N1 % Y : Nat) : Int) := by
  subst hq
  have h1 := Nat.div_add_mod N1 Y
  have h2 : N1 % Y < Y := Nat.mod_lt _ hp
  rw [Nat.mul_comm (N1 / Y)]
  generalize Y * (N1 / Y) = k at *
  unfold B64 at hY
  omega
theorem wrap_rest {U u Y q : Nat} (hY : Y < B64) (hp : 0 < Y) (hq : q = (U * b32 + u) / Y) :
    IntKind.u64.wrap (IntKind.u64.wrap (IntKind.u64.wrap ((U : Int) * 4294967296) + (u : Int)) - IntKind.u64.wrap ((q : Int) * (Y : Int))) = (((U * b32 + u) % Y : Nat) : Int) := by
  rw [← digit_rest hY hp hq]
  simp only [IntKind.wrap_u64]
  have e1 : ((U * b32 + u : Nat) : Int) = (U : Int) * 4294967296 + (u : Int) := by rw [Int.natCast_add, Int.natCast_mul]; rfl
  have e2 : ((q * Y : Nat) : Int) = (q : Int) * (Y : Int) := Int.natCast_mul _ _
  rw [e1, e2]
  generalize (q : Int) * (Y : Int) = k
  omega
theorem digit_lt {U u Y : Nat} (hU : U < Y) (hu : u < b32) : (U * b32 + u) / Y < b32 := by
  rw [Nat.div_lt_iff_lt_mul (by omega)]
  have := Nat.mul_le_mul_right b32 hU
  rw [Nat.succ_eq_add_one, Nat.add_mul, Nat.one_mul] at this
  rw [Nat.mul_comm b32]
  omega
/-- The answers. -/
theorem div64_end {hi lo y s Y y1 y0 U T u1 u0 : Nat} (h : Set64 hi lo y s Y y1 y0 U T u1 u0) (hy : 0 < y) :
    (U * b32 + u1) / Y * b32 + ((U * b32 + u1) % Y * b32 + u0) / Y = (hi * B64 + lo) / y ∧ ((U * b32 + u1) % Y * b32 + u0) % Y / 2 ^ s = (hi * B64 + lo) % y := by
  have hP : 0 < 2 ^ s := Nat.pow_pos (by omega)
  have hY : 0 < Y := by rw [h.yeq]; exact Nat.mul_pos hy hP
  have e1 := Nat.div_add_mod (U * b32 + u1) Y
  have e2 := Nat.div_add_mod ((U * b32 + u1) % Y * b32 + u0) Y
  have hall := h.all
  have hr : ((U * b32 + u1) % Y * b32 + u0) % Y < Y := Nat.mod_lt _ hY
  have hn : (hi * B64 + lo) * 2 ^ s = Y * ((U * b32 + u1) / Y * b32 + ((U * b32 + u1) % Y * b32 + u0) / Y) + ((U * b32 + u1) % Y * b32 + u0) % Y := by
    rw [hall]
    conv => lhs; rw [← e1, Nat.add_mul, Nat.add_assoc, ← e2]
    rw [Nat.mul_add, Nat.mul_assoc, Nat.add_assoc]
  have hyq := h.yeq
  generalize ((U * b32 + u1) % Y * b32 + u0) % Y = r at *
  generalize (U * b32 + u1) / Y * b32 + ((U * b32 + u1) % Y * b32 + u0) / Y = q at *
  generalize hi * B64 + lo = n at *
  clear e1 e2 hall
  subst hyq
  have hd : 2 ^ s ∣ r := by
    have h1 : 2 ^ s ∣ y * 2 ^ s * q + r := ⟨n, by rw [← hn, Nat.mul_comm]⟩
    exact (Nat.dvd_add_right ⟨y * q, by rw [Nat.mul_comm y, Nat.mul_assoc]⟩).1 h1
  obtain ⟨k, rfl⟩ := hd
  have hn2 : n = y * q + k := by
    apply Nat.eq_of_mul_eq_mul_right hP
    rw [hn, Nat.add_mul, Nat.mul_right_comm, Nat.mul_comm k]
  have hk : k < y := by
    rw [Nat.mul_comm y] at hr
    exact Nat.lt_of_mul_lt_mul_left hr
  rw [Nat.mul_div_cancel_left _ hP, hn2, Nat.mul_add_div hy, Nat.div_eq_of_lt hk, Nat.mul_add_mod, Nat.mod_eq_of_lt hk]
  exact ⟨by omega, rfl⟩
/-- The guess is not far off. -/
theorem guess_le {b U y1 y0 : Nat} (hU : U < y1 * b + y0) (hy1 : b ≤ 2 * y1) (hy0 : y0 < b) (hp : 0 < y1) : U / y1 ≤ b + 1 := by
  have h : U / y1 < b + 2 := by
    rw [Nat.div_lt_iff_lt_mul hp, Nat.add_mul, Nat.mul_comm b]
    omega
  omega

/-- A number, its first guess and its rest, in the walk's words. -/
structure Pk (R y1 q r : Nat) : Prop where
  d1 : (R : Int) / (y1 : Int) = (q : Int)
  d2 : (R : Int) - (q : Int) * (y1 : Int) = (r : Int)
  d3 : (q : Int) * (y1 : Int) ≤ (R : Int)
  d4 : 0 ≤ (q : Int) * (y1 : Int)
  lt : r < y1
  eq : q = R / y1
  er : r = R % y1
theorem pk (R y1 : Nat) (hp : 0 < y1) : ∃ q r, Pk R y1 q r := by
  refine ⟨R / y1, R % y1, ?_, ?_, ?_, Int.mul_nonneg (Int.natCast_nonneg _) (Int.natCast_nonneg _), Nat.mod_lt _ hp, rfl, rfl⟩
  · exact (Int.natCast_ediv R y1).symm
  · have h := Nat.div_add_mod R y1
    have : (R : Int) = ((y1 * (R / y1) + R % y1 : Nat) : Int) := by rw [h]
    rw [Int.natCast_add, Int.natCast_mul] at this
    conv => lhs; lhs; rw [this]
    rw [Int.mul_comm]; omega
  · rw [← Int.natCast_mul]; exact Int.ofNat_le.2 (Nat.div_mul_le_self R y1)

/-- What a loop of Div64 holds: the number, the divisor's halves, the next digit. -/
structure Lp (Y y1 y0 U u : Nat) : Prop where
  yy : Y = y1 * b32 + y0
  y1lo : 2147483648 ≤ y1
  y1hi : y1 < b32
  y0hi : y0 < b32
  ult : U < Y
  uhi : u < b32
theorem Lp.pos {Y y1 y0 U u : Nat} (h : Lp Y y1 y0 U u) : 0 < y1 * b32 + y0 := by have := h.y1lo; unfold b32; omega
theorem Lp.lt {Y y1 y0 U u : Nat} (h : Lp Y y1 y0 U u) : Y < B64 := by have := h.yy; have := h.y1hi; have := h.y0hi; unfold b32 at *; unfold B64; omega
theorem Lp.start {Y y1 y0 U u q r : Nat} (h : Lp Y y1 y0 U u) (k : Pk U y1 q r) : r < 4294967296 ∧ q ≤ 4294967297 ∧ Dg b32 y1 y0 U u q r := by
  have h1 := h.y1lo
  have h2 : y1 < 4294967296 := h.y1hi
  have hp : 0 < y1 := by omega
  have h3 := guess_le (b := b32) (U := U) (y1 := y1) (y0 := y0) (by rw [← h.yy]; exact h.ult) (by unfold b32; omega) h.y0hi hp
  have h4 := Dg.start (b := b32) (y1 := y1) (y0 := y0) (U := U) (u := u) (by unfold b32; omega) hp h.uhi
  rw [← k.eq, ← k.er] at h4
  rw [← k.eq] at h3
  have := k.lt
  exact ⟨by omega, h3, h4⟩
/-- The test says no: the digit is found. -/
theorem Lp.exit1 {Y y1 y0 U u q r : Nat} (h : Lp Y y1 y0 U u) (d : Dg b32 y1 y0 U u q r) (hc : q < 4294967296 ∧ q * y0 ≤ b32 * r + u) :
    q = (U * b32 + u) / Y ∧ 0 ≤ (q : Int) * (y0 : Int) ∧ (q : Int) * (y0 : Int) ≤ 4294967296 * (r : Int) + (u : Int) ∧ decide ((4294967296 : Int) ≤ (q : Int)) = false ∧ decide (4294967296 * (r : Int) + (u : Int) < (q : Int) * (y0 : Int)) = false := by
  have n2 : (q : Int) * (y0 : Int) ≤ 4294967296 * (r : Int) + (u : Int) := by
    have : ((q * y0 : Nat) : Int) ≤ ((b32 * r + u : Nat) : Int) := Int.ofNat_le.2 hc.2
    rw [Int.natCast_mul, Int.natCast_add, Int.natCast_mul] at this
    exact this
  exact ⟨by rw [h.yy]; exact d.done h.pos hc.2, Int.mul_nonneg (by omega) (by omega), n2, decide_eq_false (by omega), decide_eq_false (by omega)⟩
/-- The test says yes: one less. -/
theorem Lp.go {Y y1 y0 U u q r : Nat} (h : Lp Y y1 y0 U u) (d : Dg b32 y1 y0 U u q r) (hc : ¬ (q < 4294967296 ∧ q * y0 ≤ b32 * r + u)) :
    1 ≤ q ∧ Dg b32 y1 y0 U u (q - 1) (r + y1) ∧ (decide ((4294967296 : Int) ≤ (q : Int)) = true ∨ (decide ((4294967296 : Int) ≤ (q : Int)) = false ∧ 0 ≤ (q : Int) * (y0 : Int) ∧ (q : Int) * (y0 : Int) ≤ 18446744073709551615 ∧ decide (4294967296 * (r : Int) + (u : Int) < (q : Int) * (y0 : Int)) = true)) := by
  have ht : b32 * r + u < q * y0 := by
    rcases Nat.lt_or_ge q 4294967296 with h' | h'
    · rcases Nat.lt_or_ge (b32 * r + u) (q * y0) with h2 | h2
      · exact h2
      · exact absurd ⟨h', h2⟩ hc
    · exact d.big (by rw [← h.yy]; exact h.ult) h.uhi h'
  obtain ⟨a1, a2⟩ := d.next h.pos ht
  refine ⟨a1, a2, ?_⟩
  rcases Nat.lt_or_ge q 4294967296 with h' | h'
  · refine .inr ⟨decide_eq_false (by omega), Int.mul_nonneg (by omega) (by omega), ?_, decide_eq_true ?_⟩
    · have h1 : q * y0 ≤ 4294967295 * 4294967295 := Nat.mul_le_mul (by omega) (by have := h.y0hi; unfold b32 at this; omega)
      have : ((q * y0 : Nat) : Int) ≤ ((4294967295 * 4294967295 : Nat) : Int) := Int.ofNat_le.2 h1
      rw [Int.natCast_mul] at this
      omega
    · have : ((b32 * r + u : Nat) : Int) < ((q * y0 : Nat) : Int) := Int.ofNat_lt.2 ht
      rw [Int.natCast_mul, Int.natCast_add, Int.natCast_mul] at this
      exact this
  · exact .inl (decide_eq_true (by omega))
theorem Lp.exit2 {Y y1 y0 U u q r : Nat} (h : Lp Y y1 y0 U u) (d : Dg b32 y1 y0 U u q r) (hq : q ≤ 4294967296) (hr : 4294967296 ≤ r) : q = (U * b32 + u) / Y := by
  rw [h.yy]; exact d.done h.pos (d.over h.y0hi hq hr)

end Go.Proofs.YtcfpjgcellahnaaDoor
