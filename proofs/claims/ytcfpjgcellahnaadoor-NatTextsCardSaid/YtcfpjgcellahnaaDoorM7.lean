/- Long division of the document's numbers: plain mathematics (XKnuth and XDw at limbs of 32 bits). The document's long division: what differs from the program's. The document's long division: its start and its end. Walks: the document's division by one limb. Walks: the document's NatDiv. Walks: the document's NatDiv at great numbers. Walks: hand.Pick at a bound that has gone over. -/
import Derived.Test.YtcfpjgcellahnaaDoorM6
namespace Go.Proofs.YtcfpjgcellahnaaDoor.S32

structure DwInv (xs : List Nat) (d k r : Nat) (L : List Nat) : Prop where
  len : L.length = xs.length
  dig : Dig B32 L
  low : L.take k = xs.take k
  lt : r < d
  vl : val B32 (xs.drop k) = val B32 (L.drop k) * d + r
theorem DwInv.start {xs : List Nat} {d : Nat} (hd : Dig B32 xs) (h : 0 < d) : DwInv xs d xs.length 0 xs := ⟨rfl, hd, rfl, h, by simp⟩
theorem getD_take {L xs : List Nat} {k i : Nat} (h : L.take k = xs.take k) (hi : i < k) : L.getD i 0 = xs.getD i 0 := by
  simp only [List.getD_eq_getElem?_getD]
  rw [← List.getElem?_take_of_lt hi, h, List.getElem?_take_of_lt hi]
theorem DwInv.step {xs : List Nat} {d k r : Nat} {L : List Nat} (h : DwInv xs d (k + 1) r L) (hk : k < xs.length) :
    (r * B32 + xs.getD k 0) / d < B32 ∧ DwInv xs d k ((r * B32 + xs.getD k 0) % d) (L.set k ((r * B32 + xs.getD k 0) / d)) := by
  have hdp : 0 < d := by have := h.lt; omega
  have hkl : k < L.length := by rw [h.len]; exact hk
  have hxl : xs.getD k 0 < B32 := by rw [← getD_take h.low (Nat.lt_succ_self k)]; exact h.dig.getD (by unfold B32; omega) k
  have hq : (r * B32 + xs.getD k 0) / d < B32 := by
    rw [Nat.div_lt_iff_lt_mul hdp]
    have := Nat.mul_le_mul_right B32 h.lt
    rw [Nat.succ_eq_add_one, Nat.add_mul, Nat.one_mul] at this
    rw [Nat.mul_comm B32]
    omega
  refine ⟨hq, by simpa using h.len, h.dig.set _ hq, ?_, Nat.mod_lt _ hdp, ?_⟩
  · rw [List.take_set_of_le (Nat.le_refl _)]
    have := congrArg (List.take k) h.low
    rwa [List.take_take, List.take_take, Nat.min_eq_left (by omega)] at this
  · have e1 := val_drop_cons B32 xs k hk
    have e2 := val_drop_cons B32 (L.set k ((r * B32 + xs.getD k 0) / d)) k (by simpa using hkl)
    rw [List.getElem_set_self, drop_set_succ] at e2
    rw [e1, e2, h.vl, ← getD_lt _ _ hk]
    have e3 := Nat.div_add_mod (r * B32 + xs.getD k 0) d
    generalize (r * B32 + xs.getD k 0) / d = q at *
    generalize (r * B32 + xs.getD k 0) % d = r' at *
    generalize xs.getD k 0 = x at *
    generalize val B32 (L.drop (k + 1)) = V at *
    grind
theorem DwInv.fin {xs : List Nat} {d r : Nat} {L : List Nat} (h : DwInv xs d 0 r L) : val B32 L = val B32 xs / d ∧ r = val B32 xs % d := by
  have hv := h.vl
  simp only [List.drop_zero] at hv
  have hdp : 0 < d := by have := h.lt; omega
  have := h.lt
  rw [hv]
  constructor
  · rw [Nat.mul_comm, Nat.mul_add_div hdp, Nat.div_eq_of_lt h.lt, Nat.add_zero]
  · rw [Nat.mul_comm, Nat.mul_add_mod, Nat.mod_eq_of_lt h.lt]

/-! ### The guess of a digit -/
def Good (U u v1 v0 g : Nat) : Prop := g < B32 ∧ g * (v1 * B32 + v0) ≤ U * B32 + u ∧ (g = B32 - 1 ∨ U * B32 + u < (g + 1) * (v1 * B32 + v0))

/-- What holds in the outer loop of divWords. -/
structure DvOut (N V m n j : Nat) (L Q : List Nat) : Prop where
  lenL : L.length = m + n
  lenQ : Q.length = m
  digL : Dig B32 L
  digQ : Dig B32 Q
  eq : N = val B32 Q * V + val B32 L
  lt : val B32 L < V * B32 ^ j
  low : ∀ t, t < j → Q.getD t 0 = 0
theorem DvOut.start {m n V : Nat} {L : List Nat} (hl : L.length = m + n) (hd : Dig B32 L) (h : val B32 L < V * B32 ^ m) : DvOut (val B32 L) V m n m L (List.replicate m 0) :=
  ⟨hl, by simp, hd, Dig.rep (by unfold B32; omega) _, by rw [val_rep]; simp, h, fun t _ => getD_rep _ t⟩

/-- .. in the loop that takes the guess's product away. -/
structure MsInv (L0 Vs : List Nat) (j g i c b : Nat) (L : List Nat) : Prop where
  len : L.length = L0.length
  dig : Dig B32 L
  vl : val B32 L + g * val B32 (Vs.take i) * B32 ^ j = val B32 L0 + (c + b) * B32 ^ (j + i)
  rest : ∀ t, j + i ≤ t → L.getD t 0 = L0.getD t 0
theorem MsInv.start {L0 Vs : List Nat} (j g : Nat) (hd : Dig B32 L0) : MsInv L0 Vs j g 0 0 0 L0 := ⟨rfl, hd, by simp, fun _ _ => rfl⟩
theorem ms_arith {VL VL' VL0 I J u u' g T v c b c' b' B : Nat} (hv : VL + g * T * J = VL0 + (c + b) * (J * I)) (k : VL' + J * I * u = VL + J * I * u') (e : u' + g * v + (c + b) = u + B * (c' + b')) :
    VL' + g * (T + I * v) * J = VL0 + (c' + b') * (J * I * B) := by
  have e2 : J * I * u' + J * I * g * v + J * I * (c + b) = J * I * u + J * I * B * (c' + b') := by
    have : J * I * (u' + g * v + (c + b)) = J * I * (u + B * (c' + b')) := by rw [e]
    grind
  clear e
  grind
theorem MsInv.step {L0 Vs : List Nat} {j g i c b : Nat} {L : List Nat} (h : MsInv L0 Vs j g i c b L) (hl : j + i < L0.length) {hi lo s c1 u' b' : Nat} (hu : u' < B32)
    (e1 : lo + B32 * hi = g * Vs.getD i 0) (e2 : s + B32 * c1 = lo + c) (e3 : L.getD (j + i) 0 + B32 * b' = s + b + u') : MsInv L0 Vs j g (i + 1) (hi + c1) b' (L.set (j + i) u') := by
  have hlen := h.len
  have hl' : j + i < L.length := by omega
  have v := val_set B32 L (j + i) u' hl'
  rw [← getD_lt _ _ hl'] at v
  refine ⟨by simpa using hlen, h.dig.set _ hu, ?_, fun t ht => ?_⟩
  · have hv := h.vl
    rw [val_take_getD B32 Vs, ← Nat.add_assoc, Nat.pow_succ]
    have e0 : B32 ^ (j + i) = B32 ^ j * B32 ^ i := Nat.pow_add _ _ _
    rw [e0] at v hv ⊢
    refine ms_arith hv v ?_
    grind
  · rw [getD_set _ _ _ _ hl', if_neg (by omega)]
    exact h.rest t (by omega)
/-- .. and behind it. -/
structure MsOut (L0 : List Nat) (V j n g b : Nat) (L : List Nat) : Prop where
  len : L.length = L0.length
  dig : Dig B32 L
  vl : val B32 L + g * V * B32 ^ j = val B32 L0 + b * B32 ^ (j + n + 1)
  rest : ∀ t, j + n + 1 ≤ t → L.getD t 0 = L0.getD t 0
theorem MsInv.close {L0 Vs : List Nat} {j g c b : Nat} {L : List Nat} (h : MsInv L0 Vs j g Vs.length c b L) (hl : j + Vs.length < L0.length) {u' b' : Nat} (hu : u' < B32)
    (e : L.getD (j + Vs.length) 0 + B32 * b' = c + b + u') : MsOut L0 (val B32 Vs) j Vs.length g b' (L.set (j + Vs.length) u') := by
  have hlen := h.len
  have hl' : j + Vs.length < L.length := by omega
  have v := val_set B32 L (j + Vs.length) u' hl'
  rw [← getD_lt _ _ hl'] at v
  refine ⟨by simpa using hlen, h.dig.set _ hu, ?_, fun t ht => ?_⟩
  · have hv := h.vl
    rw [List.take_length] at hv
    rw [Nat.pow_succ]
    generalize B32 ^ (j + Vs.length) = K at *
    generalize L.getD (j + Vs.length) 0 = u at *
    generalize val B32 (L.set (j + Vs.length) u') = VL' at *
    have e2 : K * u + K * B32 * b' = K * (c + b) + K * u' := by
      have : K * (u + B32 * b') = K * (c + b + u') := by rw [e]
      grind
    grind
  · rw [getD_set _ _ _ _ hl', if_neg (by omega)]
    exact h.rest t (by omega)

/-- .. in the loop that adds the divisor back. -/
structure AdInv (L0 Vs : List Nat) (j i c : Nat) (L : List Nat) : Prop where
  len : L.length = L0.length
  dig : Dig B32 L
  vl : val B32 L + c * B32 ^ (j + i) = val B32 L0 + val B32 (Vs.take i) * B32 ^ j
  rest : ∀ t, j + i ≤ t → L.getD t 0 = L0.getD t 0
theorem AdInv.start {L0 Vs : List Nat} (j : Nat) (hd : Dig B32 L0) : AdInv L0 Vs j 0 0 L0 := ⟨rfl, hd, by simp, fun _ _ => rfl⟩
theorem AdInv.step {L0 Vs : List Nat} {j i c : Nat} {L : List Nat} (h : AdInv L0 Vs j i c L) (hl : j + i < L0.length) {u' c' : Nat} (hu : u' < B32)
    (e : u' + B32 * c' = L.getD (j + i) 0 + Vs.getD i 0 + c) : AdInv L0 Vs j (i + 1) c' (L.set (j + i) u') := by
  have hlen := h.len
  have hl' : j + i < L.length := by omega
  have v := val_set B32 L (j + i) u' hl'
  rw [← getD_lt _ _ hl'] at v
  refine ⟨by simpa using hlen, h.dig.set _ hu, ?_, fun t ht => ?_⟩
  · have hv := h.vl
    rw [val_take_getD B32 Vs, ← Nat.add_assoc, Nat.pow_succ]
    have e0 : B32 ^ (j + i) = B32 ^ j * B32 ^ i := Nat.pow_add _ _ _
    rw [e0] at v hv ⊢
    generalize B32 ^ j = J at *
    generalize B32 ^ i = I at *
    generalize L.getD (j + i) 0 = u at *
    generalize Vs.getD i 0 = x at *
    generalize val B32 (L.set (j + i) u') = VL' at *
    have e2 : J * I * u' + J * I * B32 * c' = J * I * u + J * I * x + J * I * c := by
      have : J * I * (u' + B32 * c') = J * I * (u + x + c) := by rw [e]
      grind
    grind
  · rw [getD_set _ _ _ _ hl', if_neg (by omega)]
    exact h.rest t (by omega)
/-- The last word of it: what runs over is lost. -/
theorem AdInv.close {L0 Vs : List Nat} {j c : Nat} {L : List Nat} (h : AdInv L0 Vs j Vs.length c L) (hl : j + Vs.length < L0.length) :
    ∃ d, Dig B32 (L.set (j + Vs.length) ((L.getD (j + Vs.length) 0 + c) % B32)) ∧ (L.set (j + Vs.length) ((L.getD (j + Vs.length) 0 + c) % B32)).length = L0.length ∧
      val B32 (L.set (j + Vs.length) ((L.getD (j + Vs.length) 0 + c) % B32)) + d * B32 ^ (j + Vs.length + 1) = val B32 L0 + val B32 Vs * B32 ^ j ∧
      ∀ t, j + Vs.length + 1 ≤ t → (L.set (j + Vs.length) ((L.getD (j + Vs.length) 0 + c) % B32)).getD t 0 = L0.getD t 0 := by
  have hlen := h.len
  have hl' : j + Vs.length < L.length := by omega
  have v := val_set B32 L (j + Vs.length) ((L.getD (j + Vs.length) 0 + c) % B32) hl'
  rw [← getD_lt _ _ hl'] at v
  have hu : (L.getD (j + Vs.length) 0 + c) % B32 < B32 := Nat.mod_lt _ (by unfold B32; omega)
  have e := Nat.mod_add_div (L.getD (j + Vs.length) 0 + c) B32
  refine ⟨(L.getD (j + Vs.length) 0 + c) / B32, h.dig.set _ hu, by simpa using hlen, ?_, fun t ht => ?_⟩
  · have hv := h.vl
    rw [List.take_length] at hv
    rw [Nat.pow_succ]
    generalize (L.getD (j + Vs.length) 0 + c) / B32 = d at *
    generalize (L.getD (j + Vs.length) 0 + c) % B32 = u' at *
    generalize B32 ^ (j + Vs.length) = K at *
    generalize L.getD (j + Vs.length) 0 = u at *
    generalize val B32 (L.set (j + Vs.length) u') = VL' at *
    have e2 : K * u' + K * B32 * d = K * u + K * c := by
      have : K * (u' + B32 * d) = K * (u + c) := by rw [e]
      grind
    grind
  · rw [getD_set _ _ _ _ hl', if_neg (by omega)]
    exact h.rest t (by omega)

theorem three_digits {T : Nat} (h : T < B32 ^ 3) : T = (T / B32 / B32 % B32 * B32 + T / B32 % B32) * B32 + T % B32 := by
  have h1 : T / B32 / B32 < B32 := by
    rw [Nat.div_div_eq_div_mul, Nat.div_lt_iff_lt_mul (by unfold B32; omega)]
    have : B32 ^ 3 = B32 * (B32 * B32) := by rw [Nat.pow_succ, Nat.pow_succ, Nat.pow_one, Nat.mul_comm]
    omega
  rw [Nat.mod_eq_of_lt h1]
  have e1 := Nat.div_add_mod T B32
  have e2 := Nat.div_add_mod (T / B32) B32
  rw [Nat.mul_comm] at e1 e2
  rw [e2, e1]

/-- Of the round at j: the two bounds on the words that the guess is taken from, and on the guess. -/
theorem DvOut.guess {N m n j : Nat} {L Q Vs : List Nat} (h : DvOut N (val B32 Vs) m n (j + 1) L Q) (hn : Vs.length = n) (h2 : 2 ≤ n) (hd : Dig B32 Vs) (ht : Vs.getD (n - 1) 0 ≠ 0) :
    L.getD (j + n) 0 ≤ Vs.getD (n - 1) 0 ∧ ∀ g, Good (L.getD (j + n) 0 * B32 + L.getD (j + n - 1) 0) (L.getD (j + n - 2) 0) (Vs.getD (n - 1) 0) (Vs.getD (n - 2) 0) g →
      val B32 L / B32 ^ j / val B32 Vs ≤ g ∧ g ≤ val B32 L / B32 ^ j / val B32 Vs + 1 := by
  have hB := B32_two
  have hVlt := val_lt hd
  rw [hn] at hVlt
  obtain ⟨k, rfl⟩ : ∃ k, n = k + 2 := ⟨n - 2, by omega⟩
  have hlt := h.lt
  have eL0 := getD_val hB (j + k + 2) h.digL
  have eL1 := getD_val hB (j + k + 1) h.digL
  have eL2 := getD_val hB (j + k) h.digL
  have eV1 := getD_val hB (k + 1) hd
  have eV0 := getD_val hB k hd
  rw [show j + (k + 2) = j + k + 2 from by omega, show j + k + 2 - 1 = j + k + 1 from by omega, show j + k + 2 - 2 = j + k from by omega, show k + 2 - 1 = k + 1 from by omega, show k + 2 - 2 = k from by omega]
  rw [show k + 2 - 1 = k + 1 from by omega] at ht
  have hP : 0 < B32 ^ k := Nat.pow_pos (by unfold B32; omega)
  have hJ : 0 < B32 ^ j := Nat.pow_pos (by unfold B32; omega)
  -- the numbers
  generalize hV : val B32 Vs = V at *
  generalize hl : val B32 L = l at *
  have hT1 : l / B32 ^ (j + k + 1) = l / B32 ^ (j + k) / B32 := by rw [Nat.pow_succ, Nat.div_div_eq_div_mul]
  have hT2 : l / B32 ^ (j + k + 2) = l / B32 ^ (j + k) / B32 / B32 := by rw [Nat.pow_succ, ← Nat.div_div_eq_div_mul, hT1]
  have hTD : l / B32 ^ (j + k) = l / B32 ^ j / B32 ^ k := by rw [Nat.pow_add, Nat.div_div_eq_div_mul]
  have hV1 : V / B32 ^ (k + 1) = V / B32 ^ k / B32 := by rw [Nat.pow_succ, Nat.div_div_eq_div_mul]
  have hDlt : l / B32 ^ j < V * B32 := by
    rw [Nat.div_lt_iff_lt_mul hJ]
    rw [Nat.pow_succ] at hlt
    calc l < V * (B32 ^ j * B32) := hlt
      _ = V * B32 * B32 ^ j := by rw [Nat.mul_assoc, Nat.mul_comm B32]
  rw [hT2] at eL0
  rw [hT1] at eL1
  rw [hTD] at eL0 eL1 eL2
  rw [hV1] at eV1
  generalize l / B32 ^ j = D at *
  have hW3 : V / B32 ^ k < B32 * B32 := by
    rw [Nat.div_lt_iff_lt_mul hP]
    calc V < B32 ^ (k + 2) := hVlt
      _ = B32 * B32 * B32 ^ k := by rw [Nat.pow_succ, Nat.pow_succ, Nat.mul_assoc, Nat.mul_comm]
  have hT3 : D / B32 ^ k < B32 ^ 3 := by
    rw [Nat.div_lt_iff_lt_mul hP]
    have h1 : V * B32 ≤ B32 ^ (k + 2) * B32 := Nat.mul_le_mul_right _ (by omega)
    have h2 : B32 ^ (k + 2) * B32 = B32 ^ 3 * B32 ^ k := by rw [← Nat.pow_succ, ← Nat.pow_add]; congr 1; omega
    omega
  have eT := three_digits hT3
  have eW : V / B32 ^ k = V / B32 ^ k / B32 * B32 + V / B32 ^ k % B32 := by rw [Nat.mul_comm]; exact (Nat.div_add_mod _ _).symm
  have hW1 : V / B32 ^ k / B32 < B32 := by rw [Nat.div_lt_iff_lt_mul (by unfold B32; omega)]; exact hW3
  rw [Nat.mod_eq_of_lt hW1] at eV1
  rw [← eL0, ← eL1, ← eL2] at eT
  rw [← eV1, ← eV0] at eW
  have hDe := Nat.div_add_mod D (B32 ^ k)
  have hVe := Nat.div_add_mod V (B32 ^ k)
  have hDm := Nat.mod_lt D hP
  have hVm := Nat.mod_lt V hP
  rw [Nat.mul_comm] at hDe hVe
  generalize L.getD (j + k + 2) 0 = u2 at *
  generalize L.getD (j + k + 1) 0 = u1 at *
  generalize L.getD (j + k) 0 = u0 at *
  generalize Vs.getD (k + 1) 0 = v1 at *
  generalize Vs.getD k 0 = v0 at *
  have hv0 : v0 < B32 := by rw [eV0]; exact Nat.mod_lt _ (by unfold B32; omega)
  rw [eT] at hDe
  rw [eW] at hVe
  constructor
  · rcases Nat.lt_or_ge v1 u2 with hc | hc
    · exfalso
      -- D ≥ u2 B² P ≥ (v1 + 1) B² P > V B
      have a1 : (v1 + 1) * B32 ≤ u2 * B32 := Nat.mul_le_mul_right _ hc
      have a2 : (v1 + 1) * B32 * B32 ≤ ((u2 * B32 + u1) * B32 + u0) := by
        have := Nat.mul_le_mul_right B32 (show (v1 + 1) * B32 ≤ u2 * B32 + u1 by omega)
        omega
      have a3 := Nat.mul_le_mul_right (B32 ^ k) a2
      have a4 : v1 * B32 + v0 + 1 ≤ (v1 + 1) * B32 := by rw [Nat.add_mul, Nat.one_mul]; omega
      have a5 := Nat.mul_le_mul_right (B32 ^ k) a4
      have a6 : (v1 * B32 + v0 + 1) * B32 ^ k = (v1 * B32 + v0) * B32 ^ k + B32 ^ k := by rw [Nat.add_mul, Nat.one_mul]
      have a7 : V < (v1 + 1) * B32 * B32 ^ k := by omega
      have a8 : V * B32 ≤ (v1 + 1) * B32 * B32 ^ k * B32 := Nat.mul_le_mul_right _ (by omega)
      have a9 : (v1 + 1) * B32 * B32 * B32 ^ k = (v1 + 1) * B32 * B32 ^ k * B32 := Nat.mul_right_comm _ _ _
      rw [← a9] at a8
      have b1 : ((u2 * B32 + u1) * B32 + u0) * B32 ^ k ≤ D := by rw [← hDe]; exact Nat.le_add_right _ _
      exact absurd hDlt (Nat.not_lt.2 (Nat.le_trans a8 (Nat.le_trans a3 b1)))
    · exact hc
  · rintro g ⟨hg1, hg2, hg3⟩
    refine knuth_guess (B := B32) (V3 := v1 * B32 + v0) (U3 := (u2 * B32 + u1) * B32 + u0) (Vr := V % B32 ^ k) (Ur := D % B32 ^ k) (P := B32 ^ k) (by omega) hVm (by omega) hDm hDlt ?_ hg2 hg1 hg3
    have : 1 * B32 ≤ v1 * B32 := Nat.mul_le_mul_right _ (by omega)
    omega

theorem high_zero {L : List Nat} {k : Nat} (hd : Dig B32 L) (h : ∀ t, k ≤ t → L.getD t 0 = 0) : val B32 L < B32 ^ k := by
  have e : val B32 L = val B32 (L.take k) := by
    rcases Nat.lt_or_ge k L.length with hk | hk
    · have e1 := val_split B32 L k (by omega)
      have e2 : L.drop k = List.replicate (L.length - k) 0 := by
        apply List.ext_getElem (by simp)
        intro i h1 h2
        rw [List.getElem_drop, List.getElem_replicate, ← getD_lt _ _ (by simp at h1; omega)]
        exact h _ (by omega)
      rw [e2, val_rep] at e1
      simpa using e1
    · rw [List.take_of_length_le hk]
  rw [e]
  have := val_lt (hd.take k)
  exact Nat.lt_of_lt_of_le this (Nat.pow_le_pow_right (by unfold B32; omega) (by rw [List.length_take]; omega))
theorem zero_high {L : List Nat} {k t : Nat} (hd : Dig B32 L) (h : val B32 L < B32 ^ k) (ht : k ≤ t) : L.getD t 0 = 0 := by
  rw [getD_val B32_two t hd, Nat.div_eq_of_lt (Nat.lt_of_lt_of_le h (Nat.pow_le_pow_right (by unfold B32; omega) ht))]
  rfl

/-- Above j + n the rest has no words. -/
theorem DvOut.top {N V m n j : Nat} {L Q : List Nat} (h : DvOut N V m n (j + 1) L Q) (hV : V < B32 ^ n) {t : Nat} (ht : j + n + 1 ≤ t) : L.getD t 0 = 0 := by
  refine zero_high h.digL (k := j + n + 1) ?_ ht
  have h1 := h.lt
  have h2 : V * B32 ^ (j + 1) ≤ B32 ^ n * B32 ^ (j + 1) := Nat.mul_le_mul_right _ (by omega)
  rw [← Nat.pow_add, show n + (j + 1) = j + n + 1 from by omega] at h2
  omega
/-- The round's end, whatever way it went: the rest is less by q times the divisor. -/
theorem DvOut.next {N V m n j q : Nat} {L L' Q : List Nat} (h : DvOut N V m n (j + 1) L Q) (hj : j < m) (hq : q = val B32 L / B32 ^ j / V) (hVp : 0 < V) (hqB : q < B32) (hl : L'.length = L.length) (hd : Dig B32 L')
    (he : val B32 L' + q * V * B32 ^ j = val B32 L) : DvOut N V m n j L' (Q.set j q) := by
  have hlq : j < Q.length := by rw [h.lenQ]; exact hj
  have v := val_set B32 Q j q hlq
  rw [← getD_lt _ _ hlq, h.low j (by omega)] at v
  have hJ : 0 < B32 ^ j := Nat.pow_pos (by unfold B32; omega)
  refine ⟨hl.trans h.lenL, by simpa using h.lenQ, hd, h.digQ.set _ hqB, ?_, ?_, fun t ht => ?_⟩
  · rw [h.eq, ← he]
    have v' : val B32 (Q.set j q) = val B32 Q + B32 ^ j * q := by omega
    rw [v']
    grind
  · have h1 := Nat.lt_div_mul_add hVp (a := val B32 L / B32 ^ j)
    have h2 := Nat.lt_div_mul_add hJ (a := val B32 L)
    rw [← hq] at h1
    generalize val B32 L / B32 ^ j = D at *
    have h3 : (D + 1) * B32 ^ j ≤ (q * V + V) * B32 ^ j := Nat.mul_le_mul_right _ h1
    rw [Nat.add_mul, Nat.add_mul, Nat.one_mul] at h3
    omega
  · rw [getD_set _ _ _ _ hlq, if_neg (by omega)]
    exact h.low t (by omega)
theorem quot_lt {V j l : Nat} (h : l < V * B32 ^ (j + 1)) (hVp : 0 < V) : l / B32 ^ j / V < B32 := by
  have hJ : 0 < B32 ^ j := Nat.pow_pos (by unfold B32; omega)
  rw [Nat.div_lt_iff_lt_mul hVp, Nat.div_lt_iff_lt_mul hJ]
  rw [Nat.pow_succ] at h
  have : V * (B32 ^ j * B32) = B32 * V * B32 ^ j := by rw [Nat.mul_comm (B32 ^ j), ← Nat.mul_assoc, Nat.mul_comm V]
  omega
/-- No borrow is left: the guess was right. -/
theorem DvOut.done0 {N V m n j g : Nat} {L L' Q : List Nat} (h : DvOut N V m n (j + 1) L Q) (hj : j < m) (hVp : 0 < V) (hg : val B32 L / B32 ^ j / V ≤ g ∧ g ≤ val B32 L / B32 ^ j / V + 1) (hm : MsOut L V j n g 0 L') :
    g < B32 ∧ DvOut N V m n j L' (Q.set j g) := by
  have he := hm.vl
  rw [Nat.zero_mul, Nat.add_zero] at he
  have hJ : 0 < B32 ^ j := Nat.pow_pos (by unfold B32; omega)
  have hqe : g = val B32 L / B32 ^ j / V := by
    have h1 : g ≤ val B32 L / B32 ^ j / V := by
      rw [Nat.le_div_iff_mul_le hVp, Nat.le_div_iff_mul_le hJ]
      omega
    omega
  have hb := quot_lt h.lt hVp
  rw [← hqe] at hb
  exact ⟨hb, h.next hj hqe hVp hb hm.len hm.dig he⟩
/-- A borrow is left: the guess was 1 too great, and the divisor has been added back. -/
theorem DvOut.done1 {N V m n j g d : Nat} {L L' L'' Q : List Nat} (h : DvOut N V m n (j + 1) L Q) (hj : j < m) (hVp : 0 < V) (hV : V < B32 ^ n) (hg : val B32 L / B32 ^ j / V ≤ g ∧ g ≤ val B32 L / B32 ^ j / V + 1) (hm : MsOut L V j n g 1 L')
    (hd : Dig B32 L'') (hl : L''.length = L'.length) (he2 : val B32 L'' + d * B32 ^ (j + n + 1) = val B32 L' + V * B32 ^ j) (hr : ∀ t, j + n + 1 ≤ t → L''.getD t 0 = L'.getD t 0) :
    1 ≤ g ∧ g - 1 < B32 ∧ DvOut N V m n j L'' (Q.set j (g - 1)) := by
  have he := hm.vl
  rw [Nat.one_mul] at he
  have hJ : 0 < B32 ^ j := Nat.pow_pos (by unfold B32; omega)
  have hL' : val B32 L' < B32 ^ (j + n + 1) := high_zero hm.dig (fun t ht => by rw [hm.rest t ht]; exact h.top hV ht)
  have hL'' : val B32 L'' < B32 ^ (j + n + 1) := high_zero hd (fun t ht => by rw [hr t ht, hm.rest t ht]; exact h.top hV ht)
  have hb := quot_lt h.lt hVp
  have hqe : g = val B32 L / B32 ^ j / V + 1 := by
    rcases Nat.lt_or_ge (val B32 L / B32 ^ j / V) g with h1 | h1
    · omega
    · exfalso
      have h2 : g ≤ val B32 L / B32 ^ j / V := h1
      rw [Nat.le_div_iff_mul_le hVp, Nat.le_div_iff_mul_le hJ] at h2
      omega
  obtain ⟨q, hq⟩ : ∃ q, q = val B32 L / B32 ^ j / V := ⟨_, rfl⟩
  rw [← hq] at hqe hb
  subst hqe
  rw [Nat.add_sub_cancel]
  have e1 : (q + 1) * V * B32 ^ j = q * V * B32 ^ j + V * B32 ^ j := by rw [Nat.add_mul, Nat.one_mul, Nat.add_mul]
  have hle : q * V * B32 ^ j ≤ val B32 L := by
    have h1 : q ≤ val B32 L / B32 ^ j / V := Nat.le_of_eq hq
    rwa [Nat.le_div_iff_mul_le hVp, Nat.le_div_iff_mul_le hJ] at h1
  have hd1 : d = 1 := by
    rcases Nat.lt_or_ge d 1 with h1 | h1
    · obtain rfl : d = 0 := by omega
      omega
    · rcases Nat.lt_or_ge 1 d with h2 | h2
      · exfalso
        have h3 : 2 * B32 ^ (j + n + 1) ≤ d * B32 ^ (j + n + 1) := Nat.mul_le_mul_right _ h2
        have h4 : V * B32 ^ j ≤ B32 ^ n * B32 ^ j := Nat.mul_le_mul_right _ (by omega)
        rw [← Nat.pow_add, Nat.add_comm n] at h4
        have h5 : B32 ^ (j + n) ≤ B32 ^ (j + n + 1) := Nat.pow_le_pow_right (by unfold B32; omega) (by omega)
        omega
      · omega
  subst hd1
  exact ⟨by omega, hb, h.next hj hq hVp hb (hl.trans hm.len) hd (by omega)⟩
/-- The end. -/
theorem DvOut.fin {N V m n : Nat} {L Q : List Nat} (h : DvOut N V m n 0 L Q) : val B32 Q = N / V ∧ val B32 L = N % V := by
  have hl := h.lt
  rw [Nat.pow_zero, Nat.mul_one] at hl
  have hp : 0 < V := by omega
  rw [h.eq, Nat.mul_comm]
  constructor
  · rw [Nat.mul_add_div hp, Nat.div_eq_of_lt hl, Nat.add_zero]
  · rw [Nat.mul_add_mod, Nat.mod_eq_of_lt hl]
theorem top_le {ys : List Nat} {n : Nat} (hn : ys.length = n + 1) : B32 ^ n * ys.getD n 0 ≤ val B32 ys := by
  have h := val_take_getD B32 ys n
  rw [List.take_of_length_le (by omega)] at h
  omega
theorem norm_take {ys zs : List Nat} {s n : Nat} (hn : ys.length = n + 1) (hdy : Dig B32 ys) (hl : zs.length = n + 2) (hdz : Dig B32 zs) (hv : val B32 zs = val B32 ys * 2 ^ s) (hs : s + bl (ys.getD n 0) = 32) (ht : ys.getD n 0 ≠ 0) :
    val B32 (zs.take (n + 1)) = val B32 ys * 2 ^ s ∧ (zs.take (n + 1)).getD n 0 ≠ 0 ∧ val B32 ys * 2 ^ s < B32 ^ (n + 1) ∧ 0 < val B32 ys * 2 ^ s := by
  have hP : 0 < B32 ^ n := Nat.pow_pos (by unfold B32; omega)
  have h0 := val_take_getD B32 ys n
  rw [List.take_of_length_le (by omega)] at h0
  have h1 := val_lt (hdy.take n)
  rw [List.length_take, Nat.min_eq_left (by omega)] at h1
  have h2 := lt_bl (ys.getD n 0)
  have htop := top_le hn
  generalize ys.getD n 0 = t at *
  have h3 : val B32 ys < B32 ^ n * 2 ^ bl t := by
    have : B32 ^ n * (t + 1) ≤ B32 ^ n * 2 ^ bl t := Nat.mul_le_mul_left _ h2
    rw [Nat.mul_add, Nat.mul_one] at this
    omega
  have h4 : val B32 ys * 2 ^ s < B32 ^ (n + 1) := by
    have hs2 : 0 < 2 ^ s := Nat.pow_pos (by omega)
    have := Nat.mul_lt_mul_of_pos_right h3 hs2
    rw [Nat.mul_assoc, ← Nat.pow_add, show bl t + s = 32 from by omega] at this
    exact this
  have h5 : B32 ^ n ≤ val B32 ys * 2 ^ s := by
    have a1 : B32 ^ n * 1 ≤ B32 ^ n * t := Nat.mul_le_mul_left _ (by omega)
    have a2 : val B32 ys * 1 ≤ val B32 ys * 2 ^ s := Nat.mul_le_mul_left _ (Nat.pow_pos (by omega))
    omega
  have h6 := val_take_getD B32 zs (n + 1)
  rw [List.take_of_length_le (by omega), hv] at h6
  have h7 : zs.getD (n + 1) 0 = 0 := by
    rcases Nat.eq_zero_or_pos (zs.getD (n + 1) 0) with h | h
    · exact h
    · have : B32 ^ (n + 1) * 1 ≤ B32 ^ (n + 1) * zs.getD (n + 1) 0 := Nat.mul_le_mul_left _ h
      omega
  rw [h7, Nat.mul_zero, Nat.add_zero] at h6
  refine ⟨h6.symm, fun h8 => ?_, h4, by omega⟩
  have h9 := val_take_getD B32 (zs.take (n + 1)) n
  rw [List.take_take, Nat.min_eq_left (by omega), List.take_take, Nat.min_eq_left (by omega), h8, Nat.mul_zero, Nat.add_zero, ← h6] at h9
  have h10 := val_lt (hdz.take n)
  rw [List.length_take, Nat.min_eq_left (by omega)] at h10
  omega
theorem dv_start {xs ys : List Nat} {s m n : Nat} (hn : ys.length = n + 1) (hx : xs.length = m + n) (hdx : Dig B32 xs) (ht : ys.getD n 0 ≠ 0) : val B32 xs * 2 ^ s < val B32 ys * 2 ^ s * B32 ^ m := by
  have h1 := val_lt hdx
  rw [hx, Nat.pow_add] at h1
  have h2 := top_le hn
  have h3 : B32 ^ n * 1 ≤ B32 ^ n * ys.getD n 0 := Nat.mul_le_mul_left _ (by omega)
  have h4 : B32 ^ m * B32 ^ n ≤ val B32 ys * B32 ^ m := by
    rw [Nat.mul_comm (B32 ^ m)]
    exact Nat.mul_le_mul_right _ (by omega)
  have h5 : val B32 xs < val B32 ys * B32 ^ m := by omega
  have hs2 : 0 < 2 ^ s := Nat.pow_pos (by omega)
  have h6 := Nat.mul_lt_mul_of_pos_right h5 hs2
  rw [Nat.mul_assoc, Nat.mul_comm (B32 ^ m), ← Nat.mul_assoc] at h6
  exact h6
theorem dv_quot (X Y s : Nat) : X * 2 ^ s / (Y * 2 ^ s) = X / Y := Nat.mul_div_mul_right X Y (Nat.pow_pos (by omega))
theorem dv_rem (X Y s : Nat) : X * 2 ^ s % (Y * 2 ^ s) / 2 ^ s = X % Y := by
  rw [Nat.mul_mod_mul_right, Nat.mul_div_cancel _ (Nat.pow_pos (by omega))]
theorem val_take_low {L : List Nat} {n : Nat} (hn : n ≤ L.length) (h : val B32 L < B32 ^ n) : val B32 (L.take n) = val B32 L := by
  have h1 := val_split B32 L n hn
  rcases Nat.eq_zero_or_pos (val B32 (L.drop n)) with h2 | h2
  · rw [h2, Nat.mul_zero, Nat.add_zero] at h1; exact h1.symm
  · have : B32 ^ n * 1 ≤ B32 ^ n * val B32 (L.drop n) := Nat.mul_le_mul_left _ h2
    omega
theorem DvOut.pos {N V m n j g : Nat} {L L' Q : List Nat} (h : DvOut N V m n (j + 1) L Q) (hV : V < B32 ^ n) (hm : MsOut L V j n g 1 L') : 1 ≤ g := by
  have he := hm.vl
  have hL' : val B32 L' < B32 ^ (j + n + 1) := high_zero hm.dig (fun t ht => by rw [hm.rest t ht]; exact h.top hV ht)
  rcases Nat.eq_zero_or_pos g with h0 | h0
  · subst h0
    rw [Nat.zero_mul, Nat.zero_mul, Nat.one_mul, Nat.add_zero] at he
    omega
  · exact h0
end Go.Proofs.YtcfpjgcellahnaaDoor.S32

namespace Go.Proofs.YtcfpjgcellahnaaDoor.S32

/-- What holds in the loop that puts the guess right. -/
structure Gr (U u y1 y0 g r : Nat) : Prop where
  eq : U = g * y1 + r
  top : g + 1 < B32 → U * B32 + u < (g + 1) * (y1 * B32 + y0)
  rlt : r < B32
theorem Gr.start {U u y1 y0 : Nat} (hy : 0 < y1) (hy1 : y1 < B32) (hu : u < B32) : Gr U u y1 y0 (U / y1) (U % y1) := by
  refine ⟨by rw [Nat.mul_comm]; exact (Nat.div_add_mod U y1).symm, fun _ => ?_, Nat.lt_trans (Nat.mod_lt _ hy) hy1⟩
  have h1 : U + 1 ≤ (U / y1 + 1) * y1 := by
    have := Nat.lt_div_mul_add hy (a := U)
    rw [Nat.add_mul, Nat.one_mul]; omega
  have h2 : (U + 1) * B32 ≤ (U / y1 + 1) * y1 * B32 := Nat.mul_le_mul_right _ h1
  have h3 : (U / y1 + 1) * (y1 * B32 + y0) = (U / y1 + 1) * y1 * B32 + (U / y1 + 1) * y0 := by rw [Nat.mul_add, Nat.mul_assoc]
  rw [Nat.add_mul, Nat.one_mul] at h2
  omega
theorem gr_arith {U u y1 y0 g r : Nat} (e : U = g * y1 + r) : U * B32 + u < g * (y1 * B32 + y0) ↔ r * B32 + u < g * y0 := by
  have : g * (y1 * B32 + y0) = g * y1 * B32 + g * y0 := by rw [Nat.mul_add, Nat.mul_assoc]
  rw [this, e, Nat.add_mul]
  omega
/-- The guess is good as it is. -/
theorem Gr.done {U u y1 y0 g r : Nat} (h : Gr U u y1 y0 g r) (hg : g < B32) (ht : g * y0 ≤ r * B32 + u) : Good U u y1 y0 g := by
  refine ⟨hg, ?_, ?_⟩
  · rcases Nat.lt_or_ge (U * B32 + u) (g * (y1 * B32 + y0)) with h' | h'
    · have := (gr_arith h.eq).1 h'; omega
    · exact h'
  · rcases Nat.lt_or_ge (g + 1) B32 with h' | h'
    · exact .inr (h.top h')
    · exact .inl (by omega)
/-- It is too great: one less. -/
theorem Gr.next {U u y1 y0 g r : Nat} (h : Gr U u y1 y0 g r) (ht : B32 ≤ g ∨ r * B32 + u < g * y0) : 1 ≤ g ∧ U = (g - 1) * y1 + (r + y1) ∧ (g - 1 + 1 < B32 → U * B32 + u < (g - 1 + 1) * (y1 * B32 + y0)) := by
  have h1 : 1 ≤ g := by
    rcases ht with h' | h'
    · unfold B32 at h'; omega
    · rcases Nat.eq_zero_or_pos g with h0 | h0
      · rw [h0, Nat.zero_mul] at h'; omega
      · exact h0
  obtain ⟨k, rfl⟩ : ∃ k, g = k + 1 := ⟨g - 1, by omega⟩
  rw [Nat.add_sub_cancel]
  refine ⟨h1, ?_, fun hk => ?_⟩
  · have := h.eq
    rw [Nat.add_mul, Nat.one_mul] at this
    omega
  · rcases ht with h' | h'
    · omega
    · exact (gr_arith h.eq).2 h'
theorem Gr.go {U u y1 y0 g r : Nat} (h : Gr U u y1 y0 g r) (ht : B32 ≤ g ∨ r * B32 + u < g * y0) (hr : r + y1 < B32) : Gr U u y1 y0 (g - 1) (r + y1) := by
  obtain ⟨_, h2, h3⟩ := h.next ht
  exact ⟨h2, h3, hr⟩
/-- The rest has gone over: the guess cannot be too great any more. -/
theorem Gr.over {U u y1 y0 g r : Nat} (h : Gr U u y1 y0 g r) (ht : B32 ≤ g ∨ r * B32 + u < g * y0) (hr : B32 ≤ r + y1) (hU : U < (y1 + 1) * B32) (hy0 : y0 < B32) : Good U u y1 y0 (g - 1) := by
  obtain ⟨h1, h2, h3⟩ := h.next ht
  generalize g - 1 = k at *
  have hk : k < B32 := by
    rcases Nat.lt_or_ge k B32 with h' | h'
    · exact h'
    · exfalso
      have : B32 * y1 ≤ k * y1 := Nat.mul_le_mul_right _ h'
      rw [Nat.add_mul, Nat.one_mul, Nat.mul_comm] at hU
      omega
  refine ⟨hk, ?_, ?_⟩
  · rcases Nat.lt_or_ge (U * B32 + u) (k * (y1 * B32 + y0)) with h' | h'
    · have h4 := (gr_arith h2).1 h'
      have h5 : k * y0 ≤ (B32 - 1) * (B32 - 1) := Nat.mul_le_mul (by omega) (by omega)
      have h6 : B32 * B32 ≤ (r + y1) * B32 := Nat.mul_le_mul_right _ hr
      have h7 : (B32 - 1) * (B32 - 1) < B32 * B32 := by unfold B32; decide
      omega
    · exact h'
  · rcases Nat.lt_or_ge (k + 1) B32 with h' | h'
    · exact .inr (h3 h')
    · exact .inl (by omega)

/-- The step of the loop that takes the product away, with one carry. -/
theorem MsInv.step1 {L0 Vs : List Nat} {j g i c b : Nat} {L : List Nat} (h : MsInv L0 Vs j g i c b L) (hl : j + i < L0.length) {u' b' : Nat} (hu : u' < B32)
    (e : L.getD (j + i) 0 + B32 * b' = (c + g * Vs.getD i 0) % B32 + b + u') : MsInv L0 Vs j g (i + 1) ((c + g * Vs.getD i 0) / B32) b' (L.set (j + i) u') := by
  have hs := h.step hl hu (lo := g * Vs.getD i 0 % B32) (hi := g * Vs.getD i 0 / B32) (s := (c + g * Vs.getD i 0) % B32) (c1 := (g * Vs.getD i 0 % B32 + c) / B32) (b' := b') (Nat.mod_add_div _ _) (by
    have h1 : (c + g * Vs.getD i 0) % B32 = (g * Vs.getD i 0 % B32 + c) % B32 := by rw [Nat.add_comm c, Nat.mod_add_mod]
    rw [h1]; exact Nat.mod_add_div _ _) e
  have h2 : (c + g * Vs.getD i 0) / B32 = g * Vs.getD i 0 / B32 + (g * Vs.getD i 0 % B32 + c) / B32 := by
    generalize g * Vs.getD i 0 = t
    unfold B32
    omega
  rw [h2]
  exact hs
theorem ms_carry {g v c : Nat} (hg : g < B32) (hv : v < B32) (hc : c < B32) : c + g * v < 18446744073709551616 ∧ (c + g * v) / B32 < B32 := by
  have h1 : g * v ≤ 4294967295 * 4294967295 := Nat.mul_le_mul (by unfold B32 at hg; omega) (by unfold B32 at hv; omega)
  generalize g * v = t at *
  unfold B32 at *
  omega
end Go.Proofs.YtcfpjgcellahnaaDoor.S32

namespace Go.Proofs.YtcfpjgcellahnaaDoor.S32

theorem bl_shl {b s : Nat} (hb : b ≠ 0) : bl (b * 2 ^ s) = bl b + s := by
  have h := bl_shift (A := 0) (s := s) (t := b) (Nat.pow_pos (by omega)) hb
  rw [Nat.zero_add, Nat.mul_comm] at h
  omega
/-- The divisor, moved up so that its highest bit is set. -/
structure Norm (b n s : Nat) : Prop where
  len : (limbs B32 (b * 2 ^ s)).length = n + 1
  top : (limbs B32 (b * 2 ^ s)).getD n 0 ≠ 0
  half : B32 ≤ 2 * (limbs B32 (b * 2 ^ s)).getD n 0
  lt : b * 2 ^ s < B32 ^ (n + 1)
  pos : 0 < b * 2 ^ s
  ge : B32 ^ n ≤ b * 2 ^ s
theorem norm_of {b n s : Nat} (hb : b ≠ 0) (hs : bl b + s = 32 * (n + 1)) : Norm b n s := by
  have hbl := bl_shl (s := s) hb
  have hV : b * 2 ^ s ≠ 0 := Nat.ne_of_gt (Nat.mul_pos (Nat.pos_of_ne_zero hb) (Nat.pow_pos (by omega)))
  have hlt : b * 2 ^ s < B32 ^ (n + 1) := by
    rw [B32_pow]
    have := lt_bl (b * 2 ^ s)
    rw [hbl, hs] at this
    exact this
  have hge2 : 2 ^ (32 * n + 31) ≤ b * 2 ^ s := by
    have := two_pow_le hV
    rw [hbl, hs] at this
    rw [show 32 * n + 31 = 32 * (n + 1) - 1 from by omega]
    exact this
  have hge : B32 ^ n ≤ b * 2 ^ s := Nat.le_trans (by rw [B32_pow]; exact Nat.pow_le_pow_right (by omega) (by omega)) hge2
  have hlen : (limbs B32 (b * 2 ^ s)).length = n + 1 := by
    have h1 := (limbs_length_le_iff B32_two (b * 2 ^ s) (n + 1)).2 hlt
    have h2 : ¬ (limbs B32 (b * 2 ^ s)).length ≤ n := fun h => by
      have := (limbs_length_le_iff B32_two (b * 2 ^ s) n).1 h
      omega
    omega
  have hd := limbs_dig B32_two (b * 2 ^ s)
  have hv := val_limbs B32_two (b * 2 ^ s)
  have hhalf : B32 ≤ 2 * (limbs B32 (b * 2 ^ s)).getD n 0 := by
    have h1 := val_take_getD B32 (limbs B32 (b * 2 ^ s)) n
    rw [List.take_of_length_le (by omega), hv] at h1
    have h2 := val_lt (hd.take n)
    rw [List.length_take, Nat.min_eq_left (by omega)] at h2
    generalize (limbs B32 (b * 2 ^ s)).getD n 0 = t at *
    rcases Nat.lt_or_ge (2 * t) B32 with h | h
    · exfalso
      have h3 : B32 ^ n * (2 * t + 2) ≤ B32 ^ n * B32 := Nat.mul_le_mul_left _ (by unfold B32 at *; omega)
      have h4 : 2 ^ (32 * n + 31) * 2 = B32 ^ n * B32 := by rw [← Nat.pow_succ, ← Nat.pow_succ, B32_pow]; congr 1 <;> omega
      rw [Nat.mul_add] at h3
      have h5 : B32 ^ n * (2 * t) = 2 * (B32 ^ n * t) := by rw [← Nat.mul_assoc, Nat.mul_comm (B32 ^ n), Nat.mul_assoc]
      omega
    · exact h
  exact ⟨hlen, fun h0 => by rw [h0] at hhalf; unfold B32 at hhalf; omega, hhalf, hlt, Nat.pos_of_ne_zero hV, hge⟩
/-- The dividend with two noughts above it. -/
theorem pad_val (N : Nat) : val B32 (limbs B32 N ++ [0, 0]) = N := by
  rw [val_append, val_limbs B32_two]; simp
theorem pad_dig (N : Nat) : Dig B32 (limbs B32 N ++ [0, 0]) := (limbs_dig B32_two N).append (Dig.cons (by unfold B32; omega) (Dig.cons (by unfold B32; omega) (Dig.nil _)))
theorem pad_lt {N V n m : Nat} (hm : (limbs B32 N).length + 2 = m + (n + 1)) (hV : B32 ^ n ≤ V) : N < V * B32 ^ m := by
  have h1 := val_lt (limbs_dig B32_two N)
  rw [val_limbs B32_two] at h1
  have h2 : B32 ^ n * B32 ^ m ≤ V * B32 ^ m := Nat.mul_le_mul_right _ hV
  rw [← Nat.pow_add] at h2
  have h3 : B32 ^ (limbs B32 N).length ≤ B32 ^ (n + m) := Nat.pow_le_pow_right (by unfold B32; omega) (by omega)
  omega
/-- The two highest limbs of the rest, against the highest one of the divisor. -/
theorem two_top {u2 u1 y1 : Nat} (h2 : u2 ≤ y1) (h1 : u1 < B32) : u2 * B32 + u1 < (y1 + 1) * B32 := by
  have : u2 * B32 ≤ y1 * B32 := Nat.mul_le_mul_right _ h2
  rw [Nat.add_mul, Nat.one_mul]
  omega
end Go.Proofs.YtcfpjgcellahnaaDoor.S32

namespace Go.Proofs.YtcfpjgcellahnaaDoor
open Go.RowKit

/-- What holds in the loop of one. -/
structure OnInv (xs : List Nat) (d k r : Nat) (L : List Nat) : Prop where
  len : L.length = xs.length
  dig : Dig B32 L
  lt : r < d
  eq : val B32 (xs.drop k) = val B32 (L.drop k) * d + r
theorem OnInv.start (xs : List Nat) {d : Nat} (h : 0 < d) : OnInv xs d xs.length 0 (List.replicate xs.length 0) :=
  ⟨by simp, Dig.rep (by unfold B32; omega) _, h, by rw [List.drop_length, List.drop_eq_nil_of_le (by simp)]; simp⟩
theorem on_arith {x b V W d r t q s : Nat} (h : V = W * d + r) (ht : t = r * b + x) (hq : d * q + s = t) : x + b * V = (q + b * W) * d + s := by grind
theorem OnInv.step {xs : List Nat} {d k r : Nat} {L : List Nat} (h : OnInv xs d (k + 1) r L) (hk : k < xs.length) (hd : Dig B32 xs) :
    (r * B32 + xs.getD k 0) / d < B32 ∧ OnInv xs d k ((r * B32 + xs.getD k 0) % d) (L.set k ((r * B32 + xs.getD k 0) / d)) := by
  have hx := hd.getD (by unfold B32; omega) k
  have hdp : 0 < d := Nat.lt_of_le_of_lt (Nat.zero_le _) h.lt
  have hq : (r * B32 + xs.getD k 0) / d < B32 := by
    rw [Nat.div_lt_iff_lt_mul hdp]
    have : (r + 1) * B32 ≤ d * B32 := Nat.mul_le_mul_right _ h.lt
    rw [Nat.add_mul, Nat.one_mul] at this
    rw [Nat.mul_comm B32]
    omega
  have hl := h.len
  refine ⟨hq, by simpa using hl, h.dig.set _ hq, Nat.mod_lt _ hdp, ?_⟩
  rw [val_drop_cons B32 xs k hk, val_drop_cons B32 (L.set k _) k (by simp; omega), drop_set_succ, List.getElem_set_self, ← getD_lt xs k hk]
  exact on_arith h.eq rfl (Nat.div_add_mod _ _)
theorem OnInv.fin {xs : List Nat} {d r : Nat} {L : List Nat} (h : OnInv xs d 0 r L) : val B32 L = val B32 xs / d ∧ r = val B32 xs % d := by
  have e := h.eq
  rw [List.drop_zero, List.drop_zero] at e
  have hdp : 0 < d := Nat.lt_of_le_of_lt (Nat.zero_le _) h.lt
  rw [e]
  constructor
  · rw [Nat.mul_comm, Nat.mul_add_div hdp, Nat.div_eq_of_lt h.lt, Nat.add_zero]
  · rw [Nat.mul_comm, Nat.mul_add_mod, Nat.mod_eq_of_lt h.lt]
theorem or_lo {r x : Nat} (hr : r < B32) (hx : x < B32) : bits .or .u64 ((r : Int) * 4294967296) (x : Int) = ((r * B32 + x : Nat) : Int) := by
  have e : (r : Int) * 4294967296 = ((r * B32 : Nat) : Int) := by unfold B32; omega
  rw [e, u64_or_nat (r * B32) x (by unfold B32 at *; omega) (by unfold B32 at *; omega), Nat.or_comm]
  have h := or_add (p := 32) (o := x) (y := r) hx
  have e2 : 2 ^ 32 * r = r * B32 := by unfold B32; omega
  rw [e2] at h
  rw [h, Nat.add_comm]

def OnePost (q r : Nat) (w : World) (e : Ending) (w' : World) : Prop := ∃ u, e = .returned (.tuple #[u, .int .u32 (r : Nat)]) ∧ R32 q u w' ∧ Ext w w'

set_option maxHeartbeats 2000000 in
theorem refOne_any (a d : Nat) (v : Value) (w : World) (h : R32 a v w) (ha : bl a ≤ 274877906944) (hd0 : 0 < d) (hdb : d < B32) :
    Calls Tryd.prog 87 #[v, .int .u32 d] w (OnePost (a / d) (a % d) w) := by
  have hla := limbs32_len a 8589934592 (by omega)
  have hda := limbs_dig B32_two a
  have va := val_limbs B32_two a
  obtain ⟨A, c, rfl, _, hh⟩ := h
  have HF : Hid (∀ L W r, OnInv (limbs B32 a) d 0 r L → Blk W w.heap.size 107 (V32 L) → r = a % d ∧ Calls Tryd.prog 80 #[.slice (some ⟨w.heap.size, 0, none⟩) (limbs B32 a).length (limbs B32 a).length] W fun e w' => ∃ v', e = .returned v' ∧ R32 (a / d) v' W ∧ w' = W) := Lib.hid (fun L W r hL hb => by
    obtain ⟨f1, f2⟩ := hL.fin
    rw [va] at f1 f2
    have h := trim32_any (Sl32.of_blk hb) (by rw [hL.len]; omega) hL.dig
    rw [f1, hL.len] at h
    exact ⟨f2, h⟩)
  have HDA := Lib.hid hda
  have HH := Lib.hid hh
  clear hh ha va hda
  generalize limbs B32 a = xs at *
  generalize a / d = qq at *
  generalize a % d = rr at *
  have hdi : (0 : Int) < d := by omega
  have hdu : (d : Int) ≤ 4294967295 := by unfold B32 at hdb; omega
  have hdz : ((d : Int) == 0) = false := beq_eq_false_iff_ne.2 (by omega)
  go_enter Tryd.func87, Tryd.ntmps87
  go_wp2_with (at_make; refine wpList_mk _ rfl (.tmp 10) (.tmp 10) 32 107 rfl (.int .u32 0) 4 Tryd.underlying32 info32 rfl .i64 .i64 _ _ xs.length rfl rfl ?c1 ?c1' ?c2 ?c3 ?_)
  case c1 => omega
  case c1' => omega
  case c2 => omega
  case c3 => omega
  intro w1 hx1 hs1 hb1
  rw [V32_rep] at hb1
  have HX := Lib.hid hx1
  have HB1 := Lib.hid hb1
  clear hx1 hb1 hs1
  go_wp2
  go_loopw [7, 8] (fun c i wr => ∃ (k r : Nat) (L : List Nat), k ≤ xs.length ∧ i = .int .i64 ((k : Int) - 1) ∧ c = .int .u64 r ∧ Hid (OnInv xs d k r L) ∧ Hid (Blk wr w.heap.size 107 (V32 L)) ∧ Hid (Ext w wr)) (fun _ i _ => (intOf i + 1).toNat)
  case atStart => exact ⟨xs.length, 0, _, Nat.le_refl _, rfl, rfl, Lib.hid (OnInv.start xs hd0), HB1, HX⟩
  case round =>
    obtain ⟨k, r, L, hk, rfl, rfl, hL, hbk, hex⟩ := hrel
    by_cases hk0 : k = 0
    · subst hk0
      have hrb := hL.out.lt
      obtain ⟨hr, hcall⟩ := HF.out L wr r hL.out hbk.out
      have HC := Lib.hid hcall
      have hri : (r : Int) ≤ 4294967295 := by omega
      have HRR := Lib.hid hr
      clear hcall hr hrb
      go_wp2_with fail
      refine (HC.out).mono ?_
      rintro e w3 ⟨v, rfl, hv, rfl⟩
      have HV := Lib.hid hv
      clear hv
      go_wp2
      go_ret2
      exact ⟨_, by rw [← HRR.out]; rfl, HV.out, hex.out⟩
    · obtain ⟨k, rfl⟩ : ∃ j, k = j + 1 := ⟨k - 1, by omega⟩
      rw [show ((k + 1 : Nat) : Int) - 1 = (k : Int) from by omega]
      have hkx : k < xs.length := by omega
      obtain ⟨g, off, rfl, hg, hcell⟩ := HH.out (fun e => by rw [e] at hkx; simp at hkx)
      have hcx : wr.cell? ⟨g, off + k, none⟩ = some (.int .u32 (xs.getD k 0 : Nat)) := hex.out.keep (hcell k hkx)
      have hlen := hL.out.len
      have hco : wr.cell? ⟨w.heap.size, k, none⟩ = some (.int .u32 (L.getD k 0 : Nat)) := by rw [hbk.out.cell, getD_V32 _ _ (by omega)]
      have hfo : wr.frozen? ⟨w.heap.size, k, none⟩ = false := hbk.out.frozen _
      have hxd := HDA.out.getD (by unfold B32; omega) k
      have hrl := hL.out.lt
      obtain ⟨hqb, hN⟩ := hL.out.step hkx HDA.out
      have hor := or_lo (Nat.lt_trans hrl hdb) hxd
      generalize xs.getD k 0 = x at *
      generalize L.getD k 0 = o at *
      have htb : r * B32 + x < 18446744073709551616 := by unfold B32 at *; omega
      generalize r * B32 + x = t at *
      have HN := Lib.hid hN
      have hti : (t : Int) ≤ 18446744073709551615 := by omega
      have hxi : (x : Int) ≤ 4294967295 := by unfold B32 at hxd; omega
      have hri : (r : Int) ≤ 4294967295 := by omega
      have E1 : Hid (((t % d : Nat) : Int) = (t : Int) % (d : Int)) := Lib.hid (Int.natCast_emod t d)
      have E3 : Hid (IntKind.u64.wrap ((t : Int) / (d : Int)) % 4294967296 = ((t / d : Nat) : Int)) := Lib.hid (by
        have hqi : t / d < 4294967296 := hqb
        rw [← Int.natCast_ediv, IntKind.wrap_u64]
        revert hqi
        generalize t / d = qd
        intro hqi
        omega)
      clear hN htb hcell hlen hL hxd hrl hqb
      go_wp2
      rw [E3.out]
      refine ⟨⟨k, t % d, L.set k (t / d), by omega, rfl, by rw [E1.out], HN, Lib.hid (by rw [← V32_set]; exact hbk.out.set _ _), Lib.hid (Below.setCell hex.out (p := ⟨w.heap.size, k, none⟩) (Nat.le_refl _) _)⟩, by simp [intOf]⟩
end Go.Proofs.YtcfpjgcellahnaaDoor

namespace Go.Proofs.YtcfpjgcellahnaaDoor
open Go.RowKit

/-- A quotient and a remainder of the document's. -/
def DivPost (q r : Nat) (w : World) (e : Ending) (w' : World) : Prop := ∃ u1 u2, e = .returned (.tuple #[u1, u2]) ∧ R32 q u1 w' ∧ R32 r u2 w' ∧ Ext w w'

set_option maxRecDepth 100000 in
set_option maxHeartbeats 2000000 in
theorem refDiv_less (a b : Nat) (v1 v2 : Value) (w : World) (h1 : R32 a v1 w) (h2 : R32 b v2 w) (ha : bl a ≤ 137438953472) (hb : bl b ≤ 137438953472) (hlt : a < b) :
    Calls Tryd.prog 28 #[v1, v2] w (DivPost 0 a w) := by
  have HC : Hid (∀ W, Ext w W → Calls Tryd.prog 43 #[v1, v2] W (Ret (.int .i64 (-1)) W)) := Lib.hid (fun W hx => by have h := refCmp_any a b v1 v2 W (h1.ext hx) (h2.ext hx) (by omega) (by omega); rw [cmpN_lt hlt] at h; exact h)
  have H1 := Lib.hid h1
  clear h1 h2 ha hb hlt
  go_enter Tryd.func28, Tryd.ntmps28
  go_wp2_with fail
  refine (HC.out _ (Ext.refl w)).mono ?_
  rintro e w1 ⟨rfl, hx1⟩
  have HX1 := Lib.hid hx1
  clear hx1
  go_wp2
  go_ret2
  exact ⟨_, _, rfl, R32.nil _, H1.out.ext HX1.out, HX1.out⟩

set_option maxRecDepth 100000 in
set_option maxHeartbeats 2000000 in
theorem refDiv_one (a b : Nat) (v1 v2 : Value) (w : World) (h1 : R32 a v1 w) (h2 : R32 b v2 w) (ha : bl a ≤ 137438953472) (hb0 : 0 < b) (hb : b < B32) (hle : b ≤ a) :
    Calls Tryd.prog 28 #[v1, v2] w (DivPost (a / b) (a % b) w) := by
  have hbb : bl b ≤ bl a := bl_mono hle
  obtain ⟨z, hz, hz0⟩ : ∃ z, cmpN a b = z ∧ decide (z < 0) = false := ⟨cmpN a b, rfl, by unfold cmpN; rw [if_neg (by omega)]; split <;> rfl⟩
  have HC : Hid (∀ W, Ext w W → Calls Tryd.prog 43 #[v1, v2] W (Ret (.int .i64 z) W)) := Lib.hid (fun W hx => by have h := refCmp_any a b v1 v2 W (h1.ext hx) (h2.ext hx) (by omega) (by omega); rw [hz] at h; exact h)
  have HO : Hid (∀ W, Ext w W → Calls Tryd.prog 87 #[v1, .int .u32 b] W (OnePost (a / b) (a % b) W)) := Lib.hid (fun W hx => refOne_any a b v1 W (h1.ext hx) (by omega) hb0 hb)
  have hr : a % b < B32 := Nat.lt_trans (Nat.mod_lt _ hb0) hb
  have HN : Hid (∀ W, Calls Tryd.prog 23 #[.int .u64 (a % b : Nat)] W (RetS (R32 (a % b)) W)) := Lib.hid (fun W => refOf_any (a % b) (by unfold B32 at hr; unfold B64; omega) W)
  have hl : limbs B32 b = [b] := by
    rw [limbs_pos B32_two (by omega), Nat.mod_eq_of_lt hb, Nat.div_eq_of_lt hb, limbs_zero]
  obtain ⟨A, c, hv, _, hh⟩ := h2
  rw [hl] at hv hh
  obtain ⟨g, off, rfl, hg, hcell⟩ := hh (by simp)
  have hc := hcell 0 (by simp)
  rw [Nat.add_zero] at hc
  simp only [List.getD_cons_zero] at hc
  simp only [List.length_singleton] at hv
  subst hv
  have hri : ((a % b : Nat) : Int) ≤ 4294967295 := by unfold B32 at hr; omega
  clear hcell hh h1 ha hb0 hb hle hbb hz hl hr
  generalize a / b = qq at *
  generalize a % b = rr at *
  go_enter Tryd.func28, Tryd.ntmps28
  go_wp2_with fail
  refine (HC.out _ (Ext.refl w)).mono ?_
  rintro e w1 ⟨rfl, hx1⟩
  have hc1 := hx1.keep hc
  have HX1 := Lib.hid hx1
  clear hx1 hc
  go_wp2_with fail
  refine (HO.out _ HX1.out).mono ?_
  rintro e w2 ⟨u2, rfl, hu2, hx2⟩
  have HU2 := Lib.hid hu2
  have HX2 := Lib.hid (HX1.out.trans hx2)
  clear hu2 hx2 hc1
  go_wp2_with fail
  refine (HN.out _).mono ?_
  rintro e w3 ⟨u3, rfl, hu3, hx3⟩
  have HU3 := Lib.hid hu3
  have HU4 := Lib.hid (HU2.out.ext hx3)
  have HX3 := Lib.hid (HX2.out.trans hx3)
  clear hu3 hx3
  go_wp2
  go_ret2
  exact ⟨_, _, rfl, HU4.out, HU3.out, HX3.out⟩
end Go.Proofs.YtcfpjgcellahnaaDoor

namespace Go.Proofs.YtcfpjgcellahnaaDoor
open Go.RowKit

theorem oneCell_V32 (xs : List Nat) : ∀ u ∈ V32 xs, u.oneCell' = true := by
  intro u hu
  simp only [V32, List.mem_map] at hu
  obtain ⟨b, _, rfl⟩ := hu
  rfl
theorem V32_append (xs ys : List Nat) : V32 (xs ++ ys) = V32 xs ++ V32 ys := by simp [V32]
/-- A block that begins with these limbs. -/
theorem Blk.getV {w : World} {g : Nat} {xs : List Nat} {sp : List Value} (h : Blk w g 107 (V32 xs ++ sp)) (i : Nat) (hi : i < xs.length) : w.cell? ⟨g, i, none⟩ = some (.int .u32 (xs.getD i 0 : Nat)) := by
  rw [h.cell i, List.getElem?_append_left (by rw [V32_length]; exact hi), getD_V32 _ _ hi]
theorem Blk.setV {w : World} {g : Nat} {xs : List Nat} {sp : List Value} (h : Blk w g 107 (V32 xs ++ sp)) (i y : Nat) (hi : i < xs.length) : Blk (w.setCell ⟨g, i, none⟩ (.int .u32 (y : Nat))) g 107 (V32 (xs.set i y) ++ sp) := by
  have h' := h.set i (.int .u32 (y : Nat))
  rw [List.set_append_left _ _ (by rw [V32_length]; exact hi), V32_set] at h'
  exact h'
theorem Sl32.of_blk' {w : World} {g c : Nat} {xs : List Nat} {sp : List Value} (h : Blk w g 107 (V32 xs ++ sp)) (hc : xs.length ≤ c) : Sl32 xs (.slice (some ⟨g, 0, none⟩) xs.length c) w :=
  ⟨_, _, rfl, hc, fun _ => ⟨g, 0, rfl, h.lt, fun i hi => by rw [Nat.zero_add]; exact h.getV i hi⟩⟩

theorem macc {g v c : Nat} (hg : g < B32) (hv : v < B32) (hc : c < B32) : IntKind.u64.wrap ((c : Int) + IntKind.u64.wrap ((g : Int) * (v : Int))) = ((c + g * v : Nat) : Int) := by
  have h1 : g * v ≤ 4294967295 * 4294967295 := Nat.mul_le_mul (by unfold B32 at hg; omega) (by unfold B32 at hv; omega)
  have e : (g : Int) * (v : Int) = ((g * v : Nat) : Int) := by push_cast; rfl
  rw [IntKind.wrap_u64, IntKind.wrap_u64, e]
  generalize g * v = p at *
  unfold B32 at hc
  omega
theorem sub_two {x y c : Nat} (hx : x < B32) (hy : y < B32) (hc : c ≤ 1) : IntKind.u64.wrap (IntKind.u64.wrap ((x : Int) - (y : Int)) - (c : Int)) = (((x + 18446744073709551616 - y - c) % 18446744073709551616 : Nat) : Int) := by
  rw [IntKind.wrap_u64, IntKind.wrap_u64]
  unfold B32 at hx hy
  omega
theorem u64_pred {g : Nat} (h : 1 ≤ g) : Value.int .u64 ((g : Int) - 1) = Value.int .u64 ((g - 1 : Nat) : Int) := by congr 1; omega
/-- What stands before the loop of NatDiv. -/
structure DvIn (a b n s P : Nat) : Prop where
  norm : S32.Norm b n s
  plen : (limbs B32 (a * 2 ^ s)).length = P
  pn : n + 1 ≤ P
  n1 : 1 ≤ n
  s32 : s < 32
  pmax : P ≤ 4294967300
theorem dvIn_of {a b : Nat} (ha : bl a ≤ 137438953472) (hbig : B32 ≤ b) (hle : b ≤ a) : ∃ n s P, DvIn a b n s P ∧ (limbs B32 b).length = n + 1 ∧ bl b + s = 32 * (n + 1) := by
  have hb0 : b ≠ 0 := by unfold B32 at hbig; omega
  have hl2 : 2 ≤ (limbs B32 b).length := by
    rcases Nat.lt_or_ge 1 (limbs B32 b).length with h | h
    · exact h
    · have := (limbs_length_le_iff B32_two b 1).1 h; rw [Nat.pow_one] at this; omega
  obtain ⟨n, hn⟩ : ∃ n, (limbs B32 b).length = n + 1 := ⟨(limbs B32 b).length - 1, by omega⟩
  have h1 : bl b ≤ 32 * (n + 1) := by
    have := (limbs_length_le_iff B32_two b (n + 1)).1 (by omega)
    rw [B32_pow] at this
    exact bl_le this
  have h2 : 32 * n < bl b := by
    have h3 : ¬ b < B32 ^ n := fun h => by
      have := (limbs_length_le_iff B32_two b n).2 h
      omega
    rw [B32_pow] at h3
    exact le_bl (by omega)
  have hs : bl b + (32 * (n + 1) - bl b) = 32 * (n + 1) := by omega
  have hnorm := S32.norm_of hb0 hs
  refine ⟨n, 32 * (n + 1) - bl b, _, ⟨hnorm, rfl, ?_, by omega, by omega, ?_⟩, hn, hs⟩
  · refine Nat.le_trans (Nat.le_of_eq hnorm.len.symm) ?_
    have : b * 2 ^ (32 * (n + 1) - bl b) ≤ a * 2 ^ (32 * (n + 1) - bl b) := Nat.mul_le_mul_right _ hle
    rw [limbs_length_le_iff B32_two]
    exact Nat.lt_of_le_of_lt this ((limbs_length_le_iff B32_two _ _).1 (Nat.le_refl _))
  · refine limbs32_len _ _ ?_
    have ha0 : a ≠ 0 := by omega
    rw [S32.bl_shl ha0]
    omega

set_option maxRecDepth 100000 in
set_option maxHeartbeats 8000000 in
theorem refDiv_core (a b n s P : Nat) (A : Option Addr) (c : Nat) (v1 : Value) (w : World) (h1 : R32 a v1 w) (h2 : R32 b (.slice A (n + 1) c) w) (ha : bl a ≤ 137438953472) (hle : b ≤ a) (hI : DvIn a b n s P) (hs : bl b + s = 32 * (n + 1)) :
    Calls Tryd.prog 28 #[v1, .slice A (n + 1) c] w (DivPost (a / b) (a % b) w) := by
  obtain ⟨i0, hi, hz0, hz1, hz2⟩ := info_parts info32
  have hbb : bl b ≤ bl a := bl_mono hle
  obtain ⟨z, hz, hzz⟩ : ∃ z, cmpN a b = z ∧ decide (z < 0) = false := ⟨cmpN a b, rfl, by unfold cmpN; rw [if_neg (by omega)]; split <;> rfl⟩
  have HC : Hid (∀ W, Ext w W → Calls Tryd.prog 43 #[v1, .slice A (n + 1) c] W (Ret (.int .i64 z) W)) := Lib.hid (fun W hx => by have h := refCmp_any a b v1 _ W (h1.ext hx) (h2.ext hx) (by omega) (by omega); rw [hz] at h; exact h)
  have HB : Hid (∀ W, Ext w W → Calls Tryd.prog 33 #[.slice A (n + 1) c] W fun e w' => e = .returned (.int .i64 (bl b : Nat)) ∧ w' = W) := Lib.hid (fun W hx => refBits_any b _ W (h2.ext hx) (by omega))
  have hs32 := hI.s32
  have HSY : Hid (∀ W, Ext w W → Calls Tryd.prog 46 #[.slice A (n + 1) c, .int .i64 s] W (RetS (fun v w' => ∃ A9 c9, v = .slice A9 (n + 1) c9 ∧ Sl32 (limbs B32 (b * 2 ^ s)) v w') W)) := Lib.hid (fun W hx => (refShl_any b s _ W (h2.ext hx) (by omega) (by omega)).mono fun _ _ ⟨v, he, ⟨A9, c9, hv, hc, hh⟩, hxx⟩ => by
    refine ⟨v, he, ⟨A9, c9, ?_, A9, c9, hv, hc, hh⟩, hxx⟩
    rw [hv, hI.norm.len])
  have HSX : Hid (∀ W, Ext w W → Calls Tryd.prog 46 #[v1, .int .i64 s] W (RetS (fun v w' => ∃ g off c, v = .slice (some ⟨g, off, none⟩) P c ∧ ∀ i, i < P → w'.cell? ⟨g, off + i, none⟩ = some (.int .u32 ((limbs B32 (a * 2 ^ s)).getD i 0 : Nat))) W)) := Lib.hid (fun W hx => (refShl_any a s _ W (h1.ext hx) (by omega) (by omega)).mono fun _ _ ⟨v, he, ⟨A9, c9, hv, hc, hh⟩, hxx⟩ => by
    have hne : limbs B32 (a * 2 ^ s) ≠ [] := fun e => by have := hI.plen; rw [e] at this; have := hI.pn; simp at *; omega
    obtain ⟨g, off, rfl, _, hcell⟩ := hh hne
    rw [hI.plen] at hv hcell
    exact ⟨v, he, ⟨g, off, c9, hv, hcell⟩, hxx⟩)
  have hnb : (((n : Int) + 1) == 1) = false := beq_eq_false_iff_ne.2 (by have := hI.n1; omega)
  have hsi : 32 * ((n : Int) + 1) - ((bl b : Nat) : Int) = (s : Int) := by omega
  have hn1 := hI.n1
  have hpn := hI.pn
  have hpm := hI.pmax
  have HI := Lib.hid hI
  have HQ := Lib.hid (S32.dv_quot a b s)
  have HRM := Lib.hid (S32.dv_rem a b s)
  have hli : ((bl b : Nat) : Int) ≤ 137438953472 := by omega
  rw [← HQ.out, ← HRM.out]
  clear h1 h2 ha hle hI hs hbb hz HQ HRM
  go_enter Tryd.func28, Tryd.ntmps28
  go_wp2_with fail
  refine (HC.out _ (Ext.refl w)).mono ?_
  rintro e w1 ⟨rfl, hx1⟩
  have HX1 := Lib.hid hx1
  clear hx1
  go_wp2_with fail
  refine (HB.out _ HX1.out).mono ?_
  rintro e w2 ⟨rfl, rfl⟩
  go_wp2_with fail
  refine (HSY.out _ HX1.out).mono ?_
  rintro e w2 ⟨v9, rfl, ⟨A9, c9, rfl, hy⟩, hx2⟩
  have HY := Lib.hid hy
  have HX2 := Lib.hid (HX1.out.trans hx2)
  clear hy hx2
  have hyl := HI.out.norm.len
  have hyn : limbs B32 (b * 2 ^ s) ≠ [] := fun e => by rw [e] at hyl; simp at hyl
  obtain ⟨A9', c9', hv9, hc9, hh9⟩ := HY.out
  obtain ⟨gy, offy, hA9, hgy, hcy⟩ := hh9 hyn
  rw [hyl] at hv9 hcy
  injection hv9 with e1 e2 e3
  subst e1
  subst hA9
  have HCY := Lib.hid hcy
  have HYD := Lib.hid (limbs_dig B32_two (b * 2 ^ s))
  have HYL := Lib.hid hyl
  clear hyl hyn hc9 hh9 hgy hcy e2 e3 HY
  have HLS := Lib.hid HI.out.plen
  have HPV := Lib.hid (S32.pad_val (a * 2 ^ s))
  have HPD := Lib.hid (S32.pad_dig (a * 2 ^ s))
  obtain ⟨m, hm⟩ : ∃ m, P + 2 = m + (n + 1) := ⟨P + 1 - n, by omega⟩
  have HPL := Lib.hid (S32.pad_lt (N := a * 2 ^ s) (V := b * 2 ^ s) (n := n) (m := m) (by rw [HLS.out]; exact hm) HI.out.norm.ge)
  generalize hxs : limbs B32 (a * 2 ^ s) = xs at *
  clear hxs
  generalize hys : limbs B32 (b * 2 ^ s) = ys at *
  have HYV : Hid (val B32 ys = b * 2 ^ s) := Lib.hid (by rw [← hys]; exact val_limbs B32_two _)
  have HNT : Hid (ys.getD n 0 ≠ 0 ∧ B32 ≤ 2 * ys.getD n 0 ∧ b * 2 ^ s < B32 ^ (n + 1) ∧ 0 < b * 2 ^ s) := Lib.hid (by
    have hN := HI.out.norm
    have h1 := hN.top
    have h2 := hN.half
    rw [hys] at h1 h2
    exact ⟨h1, h2, hN.lt, hN.pos⟩)
  clear hys
  generalize a * 2 ^ s = N at *
  generalize b * 2 ^ s = V at *
  go_wp2_with fail
  refine (HSX.out _ (HX2.out.alloc _)).mono ?_
  rintro e w3 ⟨v57, rfl, ⟨ga, offa, ca, rfl, hca⟩, hx3⟩
  have hbe : Blk w3 w2.heap.size 107 [] := (Blk.new w2 _ []).ext hx3
  have HE3 := Lib.hid (((Ext.refl w2).alloc _).trans hx3)
  have hown : w3.ownsRow w2.heap.size 107 1 (.slice (some ⟨w2.heap.size, 0, none⟩) 0 0) 0 [] := ⟨by simp, .inr ⟨w2.heap.size, 0, #[], rfl, Nat.le_refl _, hbe, Nat.le_refl _, by unfold maxLen; omega, rfl, rfl⟩⟩
  have HO := Lib.hid hown
  have HL : Hid ((V32 xs).length = P * 1) := Lib.hid (by rw [V32_length, HLS.out]; omega)
  have HNEW : Hid (∀ j u, (V32 xs)[j]? = some u → w3.cell? ((⟨ga, offa, none⟩ : Addr).add j) = some u) := Lib.hid (fun j u hu => by
    have hj : j < xs.length := by
      rcases Nat.lt_or_ge j xs.length with h | h
      · exact h
      · rw [List.getElem?_eq_none (by rw [V32_length]; exact h)] at hu; cases hu
    rw [Addr.add_lit, hca j (by have := HLS.out; omega), ← hu, getD_V32 _ _ hj])
  have HSZ : Hid (0 + P ≤ maxLen) := Lib.hid (by unfold maxLen; omega)
  have HSZ2 : Hid ((0 + P) * 4 ≤ 140737488355328) := Lib.hid (by omega)
  have HBS : Hid (w2.heap.size ≤ w3.heap.size) := Lib.hid HE3.out.size
  clear hbe hown hca hx3
  go_wp2_with (at_builtin; refine wpList_append_own _ rfl (.tmp 54) (.tmp 57) 32 rfl w2.heap.size 107 i0 (.int .u32 0) 1 4 Tryd.underlying32 hi hz0 hz1 hz2 rfl (by decide) _ 0 [] rfl HO.out ⟨ga, offa, none⟩ P ca (V32 xs) rfl HL.out HNEW.out (oneCell_V32 xs) HSZ.out HSZ2.out HBS.out ?_)
  intro v5 w5 hown5 hgrow5 _
  have HO5 : Hid (w5.ownsRow w2.heap.size 107 1 v5 P (V32 xs)) := Lib.hid (by simpa using hown5)
  have HE5 : Hid (Ext w2 w5) := Lib.hid (Below.grown HE3.out hgrow5 HBS.out (fun k hk => (HO.out.lt k hk).1))
  clear hown5 hgrow5 HO HNEW HSZ HSZ2
  have HSZ : Hid (P + 2 ≤ maxLen) := Lib.hid (by unfold maxLen; omega)
  have HSZ2 : Hid ((P + 2) * 4 ≤ 140737488355328) := Lib.hid (by omega)
  have HNEW2 : Hid (∀ j u, ([.int .u32 0, .int .u32 0] : List Value)[j]? = some u → (w5.alloc (.cells #[.int .u32 0, .int .u32 0] 107)).cell? ((⟨w5.heap.size, 0, none⟩ : Addr).add j) = some u) := Lib.hid (fun j u hu => by
    rw [Addr.add_lit, Nat.zero_add, (Blk.new w5 107 [.int .u32 0, .int .u32 0]).cell j, hu])
  have HBS5 : Hid (w2.heap.size ≤ (w5.alloc (.cells #[.int .u32 0, .int .u32 0] 107)).heap.size) := Lib.hid (by have := HE5.out.size; simp; omega)
  go_wp2_with (at_builtin; refine wpList_append_own _ rfl (.tmp 58) (.tmp 59) 32 rfl w2.heap.size 107 i0 (.int .u32 0) 1 4 Tryd.underlying32 hi hz0 hz1 hz2 rfl (by decide) _ P (V32 xs) rfl (HO5.out.alloc _) ⟨w5.heap.size, 0, none⟩ 2 2 [.int .u32 0, .int .u32 0] rfl rfl HNEW2.out (oneCell_V32 [0, 0]) HSZ.out HSZ2.out HBS5.out ?_)
  intro v6 w6 hown6 hgrow6 _
  have HE6 : Hid (Ext w2 w6) := Lib.hid (Below.grown (HE5.out.alloc _) hgrow6 HBS5.out (fun k hk => (HO5.out.lt k hk).1))
  obtain ⟨gx, capx, sp, rfl, hgx, hbx, hcapx⟩ : ∃ gx capx sp, v6 = .slice (some ⟨gx, 0, none⟩) (m + (n + 1)) capx ∧ w2.heap.size ≤ gx ∧ Blk w6 gx 107 (V32 (xs ++ [0, 0]) ++ sp) ∧ m + (n + 1) ≤ capx := by
    have hown6' : w6.ownsRow w2.heap.size 107 1 v6 (m + (n + 1)) (V32 (xs ++ [0, 0])) := by
      rw [V32_append]
      first | exact hown6 | (rw [← hm]; exact hown6)
    obtain ⟨_, h | ⟨g, cap, cur, hv, hg, hb, hle, _, hsz, htk⟩⟩ := hown6'
    · have := h.2; omega
    · refine ⟨g, cap, cur.toList.drop ((m + (n + 1)) * 1), hv, hg, ?_, hle⟩
      unfold Blk
      rw [← htk, List.take_append_drop]
      simpa using hb
  have HGX := Lib.hid hgx
  have HBX := Lib.hid hbx
  have HCAP := Lib.hid hcapx
  clear hown6 hgrow6 HO5 HNEW2 HSZ HSZ2 HBS5 HE5 HE3 HBS HL hgx hbx hcapx
  have cy1 : w6.cell? ⟨gy, offy + n, none⟩ = some (.int .u32 (ys.getD n 0 : Nat)) := HE6.out.keep (HCY.out n (by omega))
  have cy0 : w6.cell? ⟨gy, offy + (n - 1), none⟩ = some (.int .u32 (ys.getD (n - 1) 0 : Nat)) := HE6.out.keep (HCY.out (n - 1) (by omega))
  have hy1d := HYD.out.getD (by unfold B32; omega) n
  have hy0d := HYD.out.getD (by unfold B32; omega) (n - 1)
  have hni : (1 : Int) ≤ n := by omega
  have hpi : (P : Int) ≤ 4294967300 := by omega
  have hy1i : ((ys.getD n 0 : Nat) : Int) ≤ 4294967295 := by unfold B32 at hy1d; omega
  have hy0i : ((ys.getD (n - 1) 0 : Nat) : Int) ≤ 4294967295 := by unfold B32 at hy0d; omega
  generalize hy1e : ys.getD n 0 = y1 at *
  generalize hy0e : ys.getD (n - 1) 0 = y0 at *
  have HY1E := Lib.hid hy1e
  have HY0E := Lib.hid hy0e
  clear hy1e hy0e
  have q4 : ((n : Int) + 1 - 2).toNat = n - 1 := by omega
  have HM := Lib.hid hm
  go_wp2_with (at_make; refine wpList_mk _ rfl (.tmp 78) (.tmp 78) 32 107 rfl (.int .u32 0) 4 Tryd.underlying32 info32 rfl .i64 .i64 _ _ m rfl rfl ?c1 ?c1' ?c2 ?c3 ?_)
  case c1 => omega
  case c1' => omega
  case c2 => omega
  case c3 => omega
  intro w7 hx7 hs7 hb7
  rw [V32_rep] at hb7
  have HX7 := Lib.hid (HE6.out.trans hx7)
  have HBX7 := Lib.hid (HBX.out.ext hx7)
  have HBQ7 := Lib.hid hb7
  have HGQ : Hid (gx < w6.heap.size) := Lib.hid HBX.out.lt
  have HDV : Hid (S32.DvOut N V m (n + 1) m (xs ++ [0, 0]) (List.replicate m 0)) := Lib.hid (by
    have h := S32.DvOut.start (m := m) (n := n + 1) (V := V) (L := xs ++ [0, 0]) (by rw [List.length_append, HLS.out]; simp; omega) HPD.out (by rw [HPV.out]; exact HPL.out)
    rw [HPV.out] at h
    exact h)
  have hmb : m ≤ 4294967302 := by omega
  have HT1 : Hid (∀ W L Q, S32.DvOut N V m (n + 1) 0 L Q → Blk W w6.heap.size 107 (V32 Q) → Calls Tryd.prog 80 #[.slice (some ⟨w6.heap.size, 0, none⟩) m m] W fun e w' => ∃ v', e = .returned v' ∧ R32 (N / V) v' W ∧ w' = W) := Lib.hid (fun W L Q hD hb => by
    have h := trim32_any (Sl32.of_blk hb) (by rw [hD.lenQ]; omega) hD.digQ
    rw [hD.fin.1, hD.lenQ] at h
    exact h)
  have HT2 : Hid (∀ W L Q, S32.DvOut N V m (n + 1) 0 L Q → Blk W gx 107 (V32 L ++ sp) → Calls Tryd.prog 80 #[.slice (some ⟨gx, 0, none⟩) (m + (n + 1)) capx] W fun e w' => ∃ v', e = .returned v' ∧ R32 (N % V) v' W ∧ w' = W) := Lib.hid (fun W L Q hD hb => by
    have h := trim32_any (Sl32.of_blk' hb (c := capx) (by rw [hD.lenL]; exact HCAP.out)) (by rw [hD.lenL]; omega) hD.digL
    rw [hD.fin.2, hD.lenL] at h
    exact h)
  have HT3 : Hid (∀ W u, R32 (N % V) u W → Calls Tryd.prog 46 #[u, .int .i64 (-(s : Int))] W (RetS (R32 (N % V / 2 ^ s)) W)) := Lib.hid (fun W u hu => by
    have hb : bl (N % V) ≤ 274877906944 := by
      have h1 : N % V < B32 ^ (n + 1) := Nat.lt_trans (Nat.mod_lt _ HNT.out.2.2.2) HNT.out.2.2.1
      rw [B32_pow] at h1
      have := bl_le h1
      omega
    by_cases hs0 : s = 0
    · subst hs0
      have h := refShl_any (N % V) 0 u W hu hb (by omega)
      rw [Nat.pow_zero, Nat.mul_one] at h
      rw [Nat.pow_zero, Nat.div_one]
      exact h
    · exact refShr_any (N % V) s u W hu hb (by omega) (by omega))
  clear hx7 hs7 hb7 HE6 HBX HPD HPV HPL HLS HC HB HSX HSY q4 cy1 cy0
  generalize w6.heap.size = gq at *
  go_wp2
  go_loopw [15] (fun v wr => ∃ (j : Nat) (L Q : List Nat), j ≤ m ∧ v = .int .i64 ((j : Int) - 1) ∧ Hid (S32.DvOut N V m (n + 1) j L Q) ∧ Hid (Blk wr gx 107 (V32 L ++ sp)) ∧ Hid (Blk wr gq 107 (V32 Q)) ∧ Hid (Ext w2 wr)) (fun v _ => (intOf v + 1).toNat)
  case atStart => exact ⟨m, _, _, Nat.le_refl _, by first | (congr 1; omega) | congr 1, HDV, HBX7, HBQ7, HX7⟩
  case round =>
    clear HDV HBX7 HBQ7 HX7
    obtain ⟨j, L, Q, hj, rfl, hD, hbx, hbq, hex⟩ := hrel
    by_cases hj0 : j = 0
    · subst hj0
      go_wp2_with fail
      refine (HT1.out _ L Q hD.out hbq.out).mono ?_
      rintro e w8 ⟨u8, rfl, hu8, rfl⟩
      have HU8 := Lib.hid hu8
      clear hu8
      go_wp2_with fail
      refine (HT2.out _ L Q hD.out hbx.out).mono ?_
      rintro e w8 ⟨u9, rfl, hu9, rfl⟩
      have HU9 := Lib.hid hu9
      clear hu9
      go_wp2_with fail
      refine (HT3.out _ _ HU9.out).mono ?_
      rintro e w9 ⟨u10, rfl, hu10, hx10⟩
      have HU10 := Lib.hid hu10
      have HX10 := Lib.hid hx10
      clear hu10 hx10
      go_wp2
      go_ret2
      exact ⟨_, _, rfl, HU8.out.ext HX10.out, HU10.out, (HX2.out.trans hex.out).trans HX10.out⟩
    · obtain ⟨k, rfl⟩ : ∃ k, j = k + 1 := ⟨j - 1, by omega⟩
      rw [show ((k + 1 : Nat) : Int) - 1 = (k : Int) from by omega]
      have hkm : k < m := by omega
      have hD' : S32.DvOut N (val B32 ys) m (n + 1) (k + 1) L Q := by rw [HYV.out]; exact hD.out
      obtain ⟨g1, g2⟩ := hD'.guess HYL.out (by omega) HYD.out (by rw [Nat.add_sub_cancel, HY1E.out]; exact HNT.out.1)
      rw [show k + (n + 1) - 1 = k + n from by omega, show k + (n + 1) - 2 = k + n - 1 from by omega, show k + (n + 1) = k + n + 1 from by omega, Nat.add_sub_cancel, show n + 1 - 2 = n - 1 from by omega, HY1E.out, HY0E.out, HYV.out] at g2
      rw [show k + (n + 1) = k + n + 1 from by omega, Nat.add_sub_cancel, HY1E.out] at g1
      have hLl := hD.out.lenL
      have hQl := hD.out.lenQ
      have hB0 : 0 < B32 := by unfold B32; omega
      have c2 := hbx.out.getV (k + n + 1) (by omega)
      have c1 := hbx.out.getV (k + n) (by omega)
      have c0 := hbx.out.getV (k + n - 1) (by omega)
      have d2 := hD.out.digL.getD hB0 (k + n + 1)
      have d1 := hD.out.digL.getD hB0 (k + n)
      have d0 := hD.out.digL.getD hB0 (k + n - 1)
      have HG2 := Lib.hid g2
      have HLL := Lib.hid hLl
      have HQL := Lib.hid hQl
      clear g2 hD' hLl hQl
      generalize L.getD (k + n + 1) 0 = a2 at *
      generalize L.getD (k + n) 0 = a1 at *
      generalize L.getD (k + n - 1) 0 = a0 at *
      have hor := or_lo d2 d1
      have hU := S32.two_top g1 d1
      have hUb : a2 * B32 + a1 < 18446744073709551616 := by unfold B32 at *; omega
      generalize a2 * B32 + a1 = U at *
      have HOR := Lib.hid hor
      have HU := Lib.hid hU
      have hy1p : 0 < y1 := Nat.pos_of_ne_zero HNT.out.1
      have HGS := Lib.hid (S32.Gr.start (U := U) (u := a0) (y0 := y0) hy1p hy1d d0)
      have hdv : IntKind.u64.wrap ((U : Int) / (y1 : Int)) = ((U / y1 : Nat) : Int) := by
        have h0 : U / y1 ≤ U := Nat.div_le_self _ _
        rw [← Int.natCast_ediv, IntKind.wrap_u64]
        revert h0
        generalize U / y1 = q0
        intro h0
        omega
      have hmd : (U : Int) % (y1 : Int) = ((U % y1 : Nat) : Int) := (Int.natCast_emod U y1).symm
      have hUi : (U : Int) ≤ 18446744073709551615 := by omega
      have hg0 : U / y1 ≤ 18446744073709551615 := Nat.le_trans (Nat.div_le_self _ _) (by omega)
      generalize U / y1 = gg0 at *
      generalize U % y1 = rr0 at *
      have hg0i : (gg0 : Int) ≤ 18446744073709551615 := by omega
      have HMD := Lib.hid hmd
      clear hmd
      have hy1pi : (0 : Int) < y1 := by omega
      have hy1z : ((y1 : Int) == 0) = false := beq_eq_false_iff_ne.2 (by omega)
      have a2i : (a2 : Int) ≤ 4294967295 := by unfold B32 at d2; omega
      have a1i : (a1 : Int) ≤ 4294967295 := by unfold B32 at d1; omega
      have a0i : (a0 : Int) ≤ 4294967295 := by unfold B32 at d0; omega
      have hki : (k : Int) ≤ 4294967302 := by omega
      have q1 : IntKind.i64.wrap ((k : Int) + ((n : Int) + 1)) = (k : Int) + ((n : Int) + 1) := IntWalk.i64_in _ (by omega)
      have q2 : IntKind.i64.wrap ((k : Int) + ((n : Int) + 1) - 1) = (k : Int) + ((n : Int) + 1) - 1 := IntWalk.i64_in _ (by omega)
      have r1 : ((k : Int) + ((n : Int) + 1)).toNat = k + n + 1 := by omega
      have r2 : ((k : Int) + ((n : Int) + 1) - 1).toNat = k + n := by omega
      clear hor hU hUb g1 hg0
      go_wp2
      go_quiet (fail)
      rw [HOR.out]
      rename_i nq
      have HBX := Lib.hid (hbx.out.ext ((Ext.refl wr).drewN nq))
      have HBQ := Lib.hid (hbq.out.ext ((Ext.refl wr).drewN nq))
      have HEX := Lib.hid (hex.out.drewN nq)
      have c0' : (wr.drewN nq).cell? ⟨gx, k + n - 1, none⟩ = some (.int .u32 a0) := c0
      clear hbx hbq hex c2 c1 c0 q1 q2 r1 r2
      generalize wr.drewN nq = W6 at *
      go_wp2
      rw [HMD.out]
      clear hdv HMD
      go_loop [17, 18] (fun a b => ∃ g r : Nat, a = .int .u64 g ∧ b = .int .u64 r ∧ Hid (S32.Gr U a0 y1 y0 g r)) (fun a _ => (intOf a).toNat)
      case atStart => exact ⟨gg0, rr0, rfl, rfl, HGS⟩
      case round =>
        obtain ⟨g, r, rfl, rfl, hG⟩ := hrel
        have hrl := hG.out.rlt
        have hge : g ≤ U := by
          have h1 := hG.out.eq
          have h2 : g * 1 ≤ g * y1 := Nat.mul_le_mul_left _ hy1p
          omega
        have hgi : (g : Int) ≤ 18446744073709551615 := by omega
        have hri : (r : Int) ≤ 4294967295 := by unfold B32 at hrl; omega
        have hor2 := or_lo hrl d0
        have hT1 : r * B32 + a0 < 18446744073709551616 := by unfold B32 at *; omega
        have HT1E : Hid (∃ T1, r * B32 + a0 = T1) := Lib.hid ⟨_, rfl⟩
        have i3 : ((k : Int) + ((n : Int) + 1) - 2).toNat = k + n - 1 := by omega
        by_cases hg : g < B32
        · have hmul : IntKind.u64.wrap ((g : Int) * (y0 : Int)) = ((g * y0 : Nat) : Int) := by
            have e : (g : Int) * (y0 : Int) = ((g * y0 : Nat) : Int) := by push_cast; rfl
            have h1 : g * y0 ≤ 4294967295 * 4294967295 := Nat.mul_le_mul (by unfold B32 at hg; omega) (by unfold B32 at hy0d; omega)
            rw [e, IntKind.wrap_u64]
            omega
          have hgt : decide ((4294967296 : Int) ≤ (g : Int)) = false := decide_eq_false (by unfold B32 at hg; omega)
          have hrt : decide ((r : Int) < 4294967296) = true := decide_eq_true (by omega)
          by_cases ht : g * y0 ≤ r * B32 + a0
          · have HGOOD := Lib.hid (hG.out.done hg ht)
            have hPT : decide ((r * B32 + a0 : Nat) < g * y0) = false := decide_eq_false (by omega)
            generalize g * y0 = P1 at *
            generalize r * B32 + a0 = T1 at *
            have hPT2 : decide ((T1 : Int) < (P1 : Int)) = false := decide_eq_false (by omega)
            have HOR2 := Lib.hid hor2
            clear hG hg ht hge HT1E hrl
            obtain ⟨gg, hgg⟩ : ∃ gg, gg = g := ⟨_, rfl⟩
            subst hgg
            go_wp2
            clear hmul hgt hrt hPT hPT2 hor2 hT1 hgi hri HOR2
            have hgb := HG2.out gg HGOOD.out
            have hglt := HGOOD.out.1
            have HGB := Lib.hid hgb
            have HGL := Lib.hid hglt
            have hggi : (gg : Int) ≤ 4294967295 := by unfold B32 at hglt; omega
            clear hgb hglt HGOOD c0' i3
            go_loopw [19, 20, 21] (fun c b i wr => ∃ (i' cc bb : Nat) (L' : List Nat), i' ≤ n + 1 ∧ i = .int .i64 i' ∧ c = .int .u64 cc ∧ b = .int .u64 bb ∧ cc < B32 ∧ bb ≤ 1 ∧ Hid (S32.MsInv L ys k gg i' cc bb L') ∧ Hid (Blk wr gx 107 (V32 L' ++ sp)) ∧ Hid (Blk wr gq 107 (V32 Q)) ∧ Hid (Ext w2 wr)) (fun _ _ i _ => n + 1 - (intOf i).toNat)
            case atStart => exact ⟨0, 0, 0, L, Nat.zero_le _, rfl, rfl, rfl, by unfold B32; omega, by omega, Lib.hid (S32.MsInv.start k gg hD.out.digL), HBX, HBQ, HEX⟩
            case round =>
              clear HBX HBQ HEX
              obtain ⟨i, cc, bb, L', hi', rfl, rfl, rfl, hcc, hbb, hM, hbx, hbq, hex⟩ := hrel
              have hMl := hM.out.len
              have hLl := HLL.out
              by_cases hin : i < n + 1
              · have cx := hbx.out.getV (k + i) (by omega)
                have fx : wr.frozen? ⟨gx, k + i, none⟩ = false := hbx.out.frozen _
                have cyy : wr.cell? ⟨gy, offy + i, none⟩ = some (.int .u32 (ys.getD i 0 : Nat)) := hex.out.keep (HCY.out i hin)
                have hxd := hM.out.dig.getD hB0 (k + i)
                have hyd := HYD.out.getD hB0 i
                have HSV := Lib.hid (fun (y : Nat) => hbx.out.setV (k + i) y (show k + i < L'.length by omega))
                have hst := fun (u' b' : Nat) (hu : u' < B32) (e : L'.getD (k + i) 0 + B32 * b' = (cc + gg * ys.getD i 0) % B32 + bb + u') => hM.out.step1 (by omega) hu e
                obtain ⟨htb, htc⟩ := S32.ms_carry HGL.out hyd hcc
                have hmul := macc HGL.out hyd hcc
                generalize L'.getD (k + i) 0 = x at *
                generalize ys.getD i 0 = y at *
                generalize cc + gg * y = t at *
                have hand : bits .and .u64 (t : Int) 4294967295 = ((t % B32 : Nat) : Int) := and_mask t htb
                have hs1 : t % B32 < B32 := Nat.mod_lt _ hB0
                generalize t % B32 = s1 at *
                obtain ⟨e1, e2⟩ := rs_dig (d := (x + 18446744073709551616 - s1 - bb) % 18446744073709551616) hxd hs1 hbb rfl
                have hsub := sub_two hxd hs1 hbb
                have hdl : (x + 18446744073709551616 - s1 - bb) % 18446744073709551616 < 18446744073709551616 := Nat.mod_lt _ (by omega)
                generalize (x + 18446744073709551616 - s1 - bb) % 18446744073709551616 = d at *
                have HN := Lib.hid (hst _ _ (show d % 4294967296 < B32 from Nat.mod_lt _ (by omega)) e1)
                have E1 : Hid (((t / B32 : Nat) : Int) = (t : Int) / 4294967296) := Lib.hid (by unfold B32; omega)
                have hti : (t : Int) ≤ 18446744073709551615 := by omega
                have hdi : (d : Int) ≤ 18446744073709551615 := by omega
                have hxi : (x : Int) ≤ 4294967295 := by unfold B32 at hxd; omega
                have hyi : (y : Int) ≤ 4294967295 := by unfold B32 at hyd; omega
                have hci : (cc : Int) ≤ 4294967295 := by unfold B32 at hcc; omega
                have HE2 := Lib.hid e2
                have HTC := Lib.hid htc
                clear hst e1 e2 htc hM hMl hLl hcc hbb hxd hyd hs1 htb hdl
                go_wp2
                go_roundw
                case rel =>
                  refine ⟨i + 1, t / B32, d / 9223372036854775808, L'.set (k + i) (d % 4294967296), by omega, by go_num, by rw [E1.out], by congr 1, HTC.out, HE2.out, HN, Lib.hid (HSV.out (d % 4294967296)), Lib.hid (hbq.out.far (by have := HGQ.out; simp; omega) _), Lib.hid (Below.setCell hex.out (p := ⟨gx, k + i, none⟩) HGX.out _)⟩
                case measure => simp [intOf]; omega
              · obtain rfl : i = n + 1 := by omega
                have cx := hbx.out.getV (k + (n + 1)) (by omega)
                have fx : wr.frozen? ⟨gx, k + (n + 1), none⟩ = false := hbx.out.frozen _
                have hxd := hM.out.dig.getD hB0 (k + (n + 1))
                have HSV := Lib.hid (fun (y : Nat) => hbx.out.setV (k + (n + 1)) y (show k + (n + 1) < L'.length by omega))
                have hM2 : S32.MsInv L ys k gg ys.length cc bb L' := by rw [HYL.out]; exact hM.out
                have hst := fun (u' b' : Nat) (hu : u' < B32) (e : L'.getD (k + ys.length) 0 + B32 * b' = cc + bb + u') => hM2.close (by rw [HYL.out]; omega) hu e
                rw [HYL.out, HYV.out] at hst
                generalize L'.getD (k + (n + 1)) 0 = x at *
                obtain ⟨e1, e2⟩ := rs_dig (d := (x + 18446744073709551616 - cc - bb) % 18446744073709551616) hxd hcc hbb rfl
                have hsub := sub_two hxd hcc hbb
                have hdl : (x + 18446744073709551616 - cc - bb) % 18446744073709551616 < 18446744073709551616 := Nat.mod_lt _ (by omega)
                generalize (x + 18446744073709551616 - cc - bb) % 18446744073709551616 = d at *
                have HN := Lib.hid (hst _ _ (show d % 4294967296 < B32 from Nat.mod_lt _ (by omega)) e1)
                have hdi : (d : Int) ≤ 18446744073709551615 := by omega
                have hxi : (x : Int) ≤ 4294967295 := by unfold B32 at hxd; omega
                have hci : (cc : Int) ≤ 4294967295 := by unfold B32 at hcc; omega
                have ed : ((d % 4294967296 : Nat) : Int) = (d : Int) % 4294967296 := by omega
                have hBX : Hid (Blk (wr.setCell ⟨gx, k + (n + 1), none⟩ (.int .u32 ((d : Int) % 4294967296))) gx 107 (V32 (L'.set (k + (n + 1)) (d % 4294967296)) ++ sp)) := Lib.hid (by rw [← ed]; exact HSV.out _)
                have hBQ : Hid (Blk (wr.setCell ⟨gx, k + (n + 1), none⟩ (.int .u32 ((d : Int) % 4294967296))) gq 107 (V32 Q)) := Lib.hid (hbq.out.far (by have := HGQ.out; simp; omega) _)
                have hEX : Hid (Ext w2 (wr.setCell ⟨gx, k + (n + 1), none⟩ (.int .u32 ((d : Int) % 4294967296)))) := Lib.hid (Below.setCell hex.out (p := ⟨gx, k + (n + 1), none⟩) HGX.out _)
                generalize L'.set (k + (n + 1)) (d % 4294967296) = L2 at *
                clear hst e1 hM hM2 hMl hLl hcc hbb hxd hdl ed hbx hbq hex HSV
                by_cases hb2 : d / 9223372036854775808 = 0
                · rw [hb2] at HN
                  have hb3 : ((d : Int) / 9223372036854775808 == 1) = false := beq_eq_false_iff_ne.2 (by omega)
                  obtain ⟨_, hNX⟩ := hD.out.done0 hkm HNT.out.2.2.2 HGB.out HN.out
                  have HNX := Lib.hid hNX
                  have cq : (wr.setCell ⟨gx, k + (n + 1), none⟩ (.int .u32 ((d : Int) % 4294967296))).cell? ⟨gq, k, none⟩ = some (.int .u32 (Q.getD k 0 : Nat)) := by rw [hBQ.out.cell, getD_V32 _ _ (by rw [HQL.out]; exact hkm)]
                  have fq : (wr.setCell ⟨gx, k + (n + 1), none⟩ (.int .u32 ((d : Int) % 4294967296))).frozen? ⟨gq, k, none⟩ = false := hBQ.out.frozen _
                  generalize Q.getD k 0 = qo at *
                  clear hNX hb2 e2
                  go_wp2
                  go_roundw
                  case rel =>
                    exact ⟨k, L2, Q.set k gg, by omega, rfl, HNX, Lib.hid (hBX.out.far (by have := HGQ.out; simp; omega) _), Lib.hid (by rw [← V32_set]; exact hBQ.out.set _ _), Lib.hid (Below.setCell hEX.out (p := ⟨gq, k, none⟩) (by have := HGX.out; have := HGQ.out; show w2.heap.size ≤ gq; omega) _)⟩
                  case measure => simp [intOf]
                · have hb2' : d / 9223372036854775808 = 1 := by omega
                  rw [hb2'] at HN
                  have hb3 : ((d : Int) / 9223372036854775808 == 1) = true := by
                    have : (d : Int) / 9223372036854775808 = 1 := by omega
                    rw [this]; rfl
                  have hg1 : 1 ≤ gg := hD.out.pos HNT.out.2.2.1 HN.out
                  obtain ⟨g', rfl⟩ : ∃ g', gg = g' + 1 := ⟨gg - 1, by omega⟩
                  have hgu : (g' : Int) + 1 ≤ 4294967295 := by omega
                  clear hb2 hb2' e2 hg1
                  have hL2 := HN.out.len
                  rw [HLL.out] at hL2
                  have HL2 := Lib.hid hL2
                  clear hL2
                  go_wp2
                  clear cx fx hsub hb3 hgu hdi hxi hci hggi
                  generalize wr.setCell ⟨gx, k + (n + 1), none⟩ (.int .u32 ((d : Int) % 4294967296)) = W7 at *
                  go_loopw [19, 24] (fun c i wr => ∃ (i' cc : Nat) (L3 : List Nat), i' ≤ n + 1 ∧ i = .int .i64 i' ∧ c = .int .u64 cc ∧ cc ≤ 1 ∧ Hid (S32.AdInv L2 ys k i' cc L3) ∧ Hid (Blk wr gx 107 (V32 L3 ++ sp)) ∧ Hid (Blk wr gq 107 (V32 Q)) ∧ Hid (Ext w2 wr)) (fun _ i _ => n + 1 - (intOf i).toNat)
                  case atStart => exact ⟨0, 0, L2, Nat.zero_le _, rfl, rfl, by omega, Lib.hid (S32.AdInv.start k HN.out.dig), hBX, hBQ, hEX⟩
                  case round =>
                    clear hBX hBQ hEX
                    obtain ⟨i, cc, L3, hi', rfl, rfl, hcc, hA, hbx, hbq, hex⟩ := hrel
                    have hAl := hA.out.len
                    rw [HL2.out] at hAl
                    by_cases hin : i < n + 1
                    · have cx := hbx.out.getV (k + i) (by omega)
                      have fx : wr.frozen? ⟨gx, k + i, none⟩ = false := hbx.out.frozen _
                      have cyy : wr.cell? ⟨gy, offy + i, none⟩ = some (.int .u32 (ys.getD i 0 : Nat)) := hex.out.keep (HCY.out i hin)
                      have hxd := hA.out.dig.getD hB0 (k + i)
                      have hyd := HYD.out.getD hB0 i
                      have HSV := Lib.hid (fun (y : Nat) (W : World) (h : Ext wr W) => (hbx.out.ext h).setV (k + i) y (show k + i < L3.length by omega))
                      have hst := fun (u' c' : Nat) (hu : u' < B32) (e : u' + B32 * c' = L3.getD (k + i) 0 + ys.getD i 0 + cc) => hA.out.step (by rw [HL2.out]; omega) hu e
                      generalize L3.getD (k + i) 0 = x at *
                      generalize ys.getD i 0 = y at *
                      have HN2 := Lib.hid (hst ((x + y + cc) % B32) ((x + y + cc) / B32) (Nat.mod_lt _ hB0) (Nat.mod_add_div _ _))
                      have E1 : Hid ((((x + y + cc) / B32 : Nat) : Int) = ((cc : Int) + x + y) / 4294967296) := Lib.hid (by unfold B32; omega)
                      have E2 : Hid ((((x + y + cc) % B32 : Nat) : Int) = ((cc : Int) + x + y) % 4294967296) := Lib.hid (by unfold B32; omega)
                      have hc1 : (x + y + cc) / B32 ≤ 1 := by unfold B32 at *; omega
                      have HC1 := Lib.hid hc1
                      have hxi : (x : Int) ≤ 4294967295 := by unfold B32 at hxd; omega
                      have hyi : (y : Int) ≤ 4294967295 := by unfold B32 at hyd; omega
                      have hci : (cc : Int) ≤ 1 := by omega
                      have hsum : IntKind.i64.wrap ((k : Int) + (i : Int)) = (k : Int) + (i : Int) := IntWalk.i64_in _ (by omega)
                      clear hst hA hAl hcc hxd hyd hc1
                      go_wp2
                      go_quiet (fail)
                      rename_i nq
                      have cx' : (wr.drewN nq).cell? ⟨gx, k + i, none⟩ = some (.int .u32 x) := cx
                      have fx' : (wr.drewN nq).frozen? ⟨gx, k + i, none⟩ = false := fx
                      have HSV2 := Lib.hid (fun (y : Nat) => HSV.out y (wr.drewN nq) ((Ext.refl wr).drewN nq))
                      have HBQ := Lib.hid (hbq.out.ext ((Ext.refl wr).drewN nq))
                      have HEX := Lib.hid (hex.out.drewN nq)
                      clear hbx hbq hex cx fx cyy hsum HSV
                      generalize wr.drewN nq = W8 at *
                      go_wp2
                      go_roundw
                      case rel =>
                        refine ⟨i + 1, (x + y + cc) / B32, L3.set (k + i) ((x + y + cc) % B32), by omega, by go_num, by rw [E1.out], HC1.out, HN2, Lib.hid ?_, Lib.hid (HBQ.out.far (by have := HGQ.out; simp; omega) _), Lib.hid (Below.setCell HEX.out (p := ⟨gx, k + i, none⟩) HGX.out _)⟩
                        rw [← E2.out]; exact HSV2.out _
                      case measure => simp [intOf]; omega
                    · obtain rfl : i = n + 1 := by omega
                      have cx := hbx.out.getV (k + (n + 1)) (by omega)
                      have fx : wr.frozen? ⟨gx, k + (n + 1), none⟩ = false := hbx.out.frozen _
                      have hxd := hA.out.dig.getD hB0 (k + (n + 1))
                      have HSV := Lib.hid (fun (y : Nat) => hbx.out.setV (k + (n + 1)) y (show k + (n + 1) < L3.length by omega))
                      have hA2 : S32.AdInv L2 ys k ys.length cc L3 := by rw [HYL.out]; exact hA.out
                      obtain ⟨dd, t1, t2, t3, t4⟩ := hA2.close (by rw [HYL.out, HL2.out]; omega)
                      rw [HYL.out] at t1 t2 t3 t4
                      rw [HYV.out] at t3
                      obtain ⟨_, _, hNX⟩ := hD.out.done1 hkm HNT.out.2.2.2 HNT.out.2.2.1 HGB.out HN.out t1 t2 t3 t4
                      rw [Nat.add_sub_cancel] at hNX
                      have HNX := Lib.hid hNX
                      generalize L3.getD (k + (n + 1)) 0 = x at *
                      have E2 : (((x + cc) % B32 : Nat) : Int) = ((x : Int) + cc) % 4294967296 := by unfold B32; omega
                      have hxi : (x : Int) ≤ 4294967295 := by unfold B32 at hxd; omega
                      have hci : (cc : Int) ≤ 1 := by omega
                      have hggi' : (g' : Int) ≤ 4294967295 := by have := HGL.out; unfold B32 at this; omega
                      have hBX : Hid (Blk (wr.setCell ⟨gx, k + (n + 1), none⟩ (.int .u32 (((x : Int) + cc) % 4294967296))) gx 107 (V32 (L3.set (k + (n + 1)) ((x + cc) % B32)) ++ sp)) := Lib.hid (by rw [← E2]; exact HSV.out _)
                      have hBQ : Hid (Blk (wr.setCell ⟨gx, k + (n + 1), none⟩ (.int .u32 (((x : Int) + cc) % 4294967296))) gq 107 (V32 Q)) := Lib.hid (hbq.out.far (by have := HGQ.out; simp; omega) _)
                      have hEX : Hid (Ext w2 (wr.setCell ⟨gx, k + (n + 1), none⟩ (.int .u32 (((x : Int) + cc) % 4294967296)))) := Lib.hid (Below.setCell hex.out (p := ⟨gx, k + (n + 1), none⟩) HGX.out _)
                      generalize L3.set (k + (n + 1)) ((x + cc) % B32) = L4 at *
                      have cq : (wr.setCell ⟨gx, k + (n + 1), none⟩ (.int .u32 (((x : Int) + cc) % 4294967296))).cell? ⟨gq, k, none⟩ = some (.int .u32 (Q.getD k 0 : Nat)) := by rw [hBQ.out.cell, getD_V32 _ _ (by rw [HQL.out]; exact hkm)]
                      have fq : (wr.setCell ⟨gx, k + (n + 1), none⟩ (.int .u32 (((x : Int) + cc) % 4294967296))).frozen? ⟨gq, k, none⟩ = false := hBQ.out.frozen _
                      generalize Q.getD k 0 = qo at *
                      clear t1 t2 t3 t4 hNX hA hA2 hAl hcc hxd E2 hbx hbq hex HSV
                      go_wp2
                      refine ⟨⟨k, L4, Q.set k g', by omega, rfl, HNX, Lib.hid (hBX.out.far (by have := HGQ.out; simp; omega) _), Lib.hid (by rw [← V32_set]; exact hBQ.out.set _ _), Lib.hid (Below.setCell hEX.out (p := ⟨gq, k, none⟩) (by have := HGX.out; have := HGQ.out; show w2.heap.size ≤ gq; omega) _)⟩, by simp [intOf]⟩
          · have hPT2 : decide ((r * B32 + a0 : Nat) < g * y0) = true := decide_eq_true (by omega)
            have htst : B32 ≤ g ∨ r * B32 + a0 < g * y0 := .inr (by omega)
            have h1g := (hG.out.next htst).1
            have h1i : (1 : Int) ≤ g := by omega
            have H1G := Lib.hid h1g
            by_cases hov : r + y1 < B32
            · have HNX := Lib.hid (hG.out.go htst hov)
              generalize g * y0 = P1 at *
              generalize r * B32 + a0 = T1 at *
              have hPT3 : (T1 : Int) < (P1 : Int) := by have := of_decide_eq_true hPT2; omega
              have hov2 : decide ((4294967296 : Int) ≤ (r : Int) + (y1 : Int)) = false := decide_eq_false (by unfold B32 at hov; omega)
              clear hG hg ht hge HT1E hrl htst hov h1g hPT2
              go_wp2
              go_round
              case rel => exact ⟨g - 1, r + y1, u64_pred H1G.out, by go_num, HNX⟩
              case measure => simp [intOf]; omega
            · have HGOOD := Lib.hid (hG.out.over htst (by omega) HU.out hy0d)
              generalize g * y0 = P1 at *
              generalize r * B32 + a0 = T1 at *
              have hPT3 : (T1 : Int) < (P1 : Int) := by have := of_decide_eq_true hPT2; omega
              have hov2 : (4294967296 : Int) ≤ (r : Int) + (y1 : Int) := by unfold B32 at hov; omega
              clear hG hg ht hge HT1E hrl htst hov h1g hPT2
              go_wp2
              rw [show ((g : Int) - 1) = ((g - 1 : Nat) : Int) from by omega]
              clear hmul hgt hrt hPT3 hor2 hT1 hgi hri hov2 h1i
              generalize g - 1 = gg at *
              have hgb := HG2.out gg HGOOD.out
              have hglt := HGOOD.out.1
              have HGB := Lib.hid hgb
              have HGL := Lib.hid hglt
              have hggi : (gg : Int) ≤ 4294967295 := by unfold B32 at hglt; omega
              clear hgb hglt HGOOD c0' i3
              go_loopw [19, 20, 21] (fun c b i wr => ∃ (i' cc bb : Nat) (L' : List Nat), i' ≤ n + 1 ∧ i = .int .i64 i' ∧ c = .int .u64 cc ∧ b = .int .u64 bb ∧ cc < B32 ∧ bb ≤ 1 ∧ Hid (S32.MsInv L ys k gg i' cc bb L') ∧ Hid (Blk wr gx 107 (V32 L' ++ sp)) ∧ Hid (Blk wr gq 107 (V32 Q)) ∧ Hid (Ext w2 wr)) (fun _ _ i _ => n + 1 - (intOf i).toNat)
              case atStart => exact ⟨0, 0, 0, L, Nat.zero_le _, rfl, rfl, rfl, by unfold B32; omega, by omega, Lib.hid (S32.MsInv.start k gg hD.out.digL), HBX, HBQ, HEX⟩
              case round =>
                clear HBX HBQ HEX
                obtain ⟨i, cc, bb, L', hi', rfl, rfl, rfl, hcc, hbb, hM, hbx, hbq, hex⟩ := hrel
                have hMl := hM.out.len
                have hLl := HLL.out
                by_cases hin : i < n + 1
                · have cx := hbx.out.getV (k + i) (by omega)
                  have fx : wr.frozen? ⟨gx, k + i, none⟩ = false := hbx.out.frozen _
                  have cyy : wr.cell? ⟨gy, offy + i, none⟩ = some (.int .u32 (ys.getD i 0 : Nat)) := hex.out.keep (HCY.out i hin)
                  have hxd := hM.out.dig.getD hB0 (k + i)
                  have hyd := HYD.out.getD hB0 i
                  have HSV := Lib.hid (fun (y : Nat) => hbx.out.setV (k + i) y (show k + i < L'.length by omega))
                  have hst := fun (u' b' : Nat) (hu : u' < B32) (e : L'.getD (k + i) 0 + B32 * b' = (cc + gg * ys.getD i 0) % B32 + bb + u') => hM.out.step1 (by omega) hu e
                  obtain ⟨htb, htc⟩ := S32.ms_carry HGL.out hyd hcc
                  have hmul := macc HGL.out hyd hcc
                  generalize L'.getD (k + i) 0 = x at *
                  generalize ys.getD i 0 = y at *
                  generalize cc + gg * y = t at *
                  have hand : bits .and .u64 (t : Int) 4294967295 = ((t % B32 : Nat) : Int) := and_mask t htb
                  have hs1 : t % B32 < B32 := Nat.mod_lt _ hB0
                  generalize t % B32 = s1 at *
                  obtain ⟨e1, e2⟩ := rs_dig (d := (x + 18446744073709551616 - s1 - bb) % 18446744073709551616) hxd hs1 hbb rfl
                  have hsub := sub_two hxd hs1 hbb
                  have hdl : (x + 18446744073709551616 - s1 - bb) % 18446744073709551616 < 18446744073709551616 := Nat.mod_lt _ (by omega)
                  generalize (x + 18446744073709551616 - s1 - bb) % 18446744073709551616 = d at *
                  have HN := Lib.hid (hst _ _ (show d % 4294967296 < B32 from Nat.mod_lt _ (by omega)) e1)
                  have E1 : Hid (((t / B32 : Nat) : Int) = (t : Int) / 4294967296) := Lib.hid (by unfold B32; omega)
                  have hti : (t : Int) ≤ 18446744073709551615 := by omega
                  have hdi : (d : Int) ≤ 18446744073709551615 := by omega
                  have hxi : (x : Int) ≤ 4294967295 := by unfold B32 at hxd; omega
                  have hyi : (y : Int) ≤ 4294967295 := by unfold B32 at hyd; omega
                  have hci : (cc : Int) ≤ 4294967295 := by unfold B32 at hcc; omega
                  have HE2 := Lib.hid e2
                  have HTC := Lib.hid htc
                  clear hst e1 e2 htc hM hMl hLl hcc hbb hxd hyd hs1 htb hdl
                  go_wp2
                  go_roundw
                  case rel =>
                    refine ⟨i + 1, t / B32, d / 9223372036854775808, L'.set (k + i) (d % 4294967296), by omega, by go_num, by rw [E1.out], by congr 1, HTC.out, HE2.out, HN, Lib.hid (HSV.out (d % 4294967296)), Lib.hid (hbq.out.far (by have := HGQ.out; simp; omega) _), Lib.hid (Below.setCell hex.out (p := ⟨gx, k + i, none⟩) HGX.out _)⟩
                  case measure => simp [intOf]; omega
                · obtain rfl : i = n + 1 := by omega
                  have cx := hbx.out.getV (k + (n + 1)) (by omega)
                  have fx : wr.frozen? ⟨gx, k + (n + 1), none⟩ = false := hbx.out.frozen _
                  have hxd := hM.out.dig.getD hB0 (k + (n + 1))
                  have HSV := Lib.hid (fun (y : Nat) => hbx.out.setV (k + (n + 1)) y (show k + (n + 1) < L'.length by omega))
                  have hM2 : S32.MsInv L ys k gg ys.length cc bb L' := by rw [HYL.out]; exact hM.out
                  have hst := fun (u' b' : Nat) (hu : u' < B32) (e : L'.getD (k + ys.length) 0 + B32 * b' = cc + bb + u') => hM2.close (by rw [HYL.out]; omega) hu e
                  rw [HYL.out, HYV.out] at hst
                  generalize L'.getD (k + (n + 1)) 0 = x at *
                  obtain ⟨e1, e2⟩ := rs_dig (d := (x + 18446744073709551616 - cc - bb) % 18446744073709551616) hxd hcc hbb rfl
                  have hsub := sub_two hxd hcc hbb
                  have hdl : (x + 18446744073709551616 - cc - bb) % 18446744073709551616 < 18446744073709551616 := Nat.mod_lt _ (by omega)
                  generalize (x + 18446744073709551616 - cc - bb) % 18446744073709551616 = d at *
                  have HN := Lib.hid (hst _ _ (show d % 4294967296 < B32 from Nat.mod_lt _ (by omega)) e1)
                  have hdi : (d : Int) ≤ 18446744073709551615 := by omega
                  have hxi : (x : Int) ≤ 4294967295 := by unfold B32 at hxd; omega
                  have hci : (cc : Int) ≤ 4294967295 := by unfold B32 at hcc; omega
                  have ed : ((d % 4294967296 : Nat) : Int) = (d : Int) % 4294967296 := by omega
                  have hBX : Hid (Blk (wr.setCell ⟨gx, k + (n + 1), none⟩ (.int .u32 ((d : Int) % 4294967296))) gx 107 (V32 (L'.set (k + (n + 1)) (d % 4294967296)) ++ sp)) := Lib.hid (by rw [← ed]; exact HSV.out _)
                  have hBQ : Hid (Blk (wr.setCell ⟨gx, k + (n + 1), none⟩ (.int .u32 ((d : Int) % 4294967296))) gq 107 (V32 Q)) := Lib.hid (hbq.out.far (by have := HGQ.out; simp; omega) _)
                  have hEX : Hid (Ext w2 (wr.setCell ⟨gx, k + (n + 1), none⟩ (.int .u32 ((d : Int) % 4294967296)))) := Lib.hid (Below.setCell hex.out (p := ⟨gx, k + (n + 1), none⟩) HGX.out _)
                  generalize L'.set (k + (n + 1)) (d % 4294967296) = L2 at *
                  clear hst e1 hM hM2 hMl hLl hcc hbb hxd hdl ed hbx hbq hex HSV
                  by_cases hb2 : d / 9223372036854775808 = 0
                  · rw [hb2] at HN
                    have hb3 : ((d : Int) / 9223372036854775808 == 1) = false := beq_eq_false_iff_ne.2 (by omega)
                    obtain ⟨_, hNX⟩ := hD.out.done0 hkm HNT.out.2.2.2 HGB.out HN.out
                    have HNX := Lib.hid hNX
                    have cq : (wr.setCell ⟨gx, k + (n + 1), none⟩ (.int .u32 ((d : Int) % 4294967296))).cell? ⟨gq, k, none⟩ = some (.int .u32 (Q.getD k 0 : Nat)) := by rw [hBQ.out.cell, getD_V32 _ _ (by rw [HQL.out]; exact hkm)]
                    have fq : (wr.setCell ⟨gx, k + (n + 1), none⟩ (.int .u32 ((d : Int) % 4294967296))).frozen? ⟨gq, k, none⟩ = false := hBQ.out.frozen _
                    generalize Q.getD k 0 = qo at *
                    clear hNX hb2 e2
                    go_wp2
                    go_roundw
                    case rel =>
                      exact ⟨k, L2, Q.set k gg, by omega, rfl, HNX, Lib.hid (hBX.out.far (by have := HGQ.out; simp; omega) _), Lib.hid (by rw [← V32_set]; exact hBQ.out.set _ _), Lib.hid (Below.setCell hEX.out (p := ⟨gq, k, none⟩) (by have := HGX.out; have := HGQ.out; show w2.heap.size ≤ gq; omega) _)⟩
                    case measure => simp [intOf]
                  · have hb2' : d / 9223372036854775808 = 1 := by omega
                    rw [hb2'] at HN
                    have hb3 : ((d : Int) / 9223372036854775808 == 1) = true := by
                      have : (d : Int) / 9223372036854775808 = 1 := by omega
                      rw [this]; rfl
                    have hg1 : 1 ≤ gg := hD.out.pos HNT.out.2.2.1 HN.out
                    obtain ⟨g', rfl⟩ : ∃ g', gg = g' + 1 := ⟨gg - 1, by omega⟩
                    have hgu : (g' : Int) + 1 ≤ 4294967295 := by omega
                    clear hb2 hb2' e2 hg1
                    have hL2 := HN.out.len
                    rw [HLL.out] at hL2
                    have HL2 := Lib.hid hL2
                    clear hL2
                    go_wp2
                    clear cx fx hsub hb3 hgu hdi hxi hci hggi
                    generalize wr.setCell ⟨gx, k + (n + 1), none⟩ (.int .u32 ((d : Int) % 4294967296)) = W7 at *
                    go_loopw [19, 24] (fun c i wr => ∃ (i' cc : Nat) (L3 : List Nat), i' ≤ n + 1 ∧ i = .int .i64 i' ∧ c = .int .u64 cc ∧ cc ≤ 1 ∧ Hid (S32.AdInv L2 ys k i' cc L3) ∧ Hid (Blk wr gx 107 (V32 L3 ++ sp)) ∧ Hid (Blk wr gq 107 (V32 Q)) ∧ Hid (Ext w2 wr)) (fun _ i _ => n + 1 - (intOf i).toNat)
                    case atStart => exact ⟨0, 0, L2, Nat.zero_le _, rfl, rfl, by omega, Lib.hid (S32.AdInv.start k HN.out.dig), hBX, hBQ, hEX⟩
                    case round =>
                      clear hBX hBQ hEX
                      obtain ⟨i, cc, L3, hi', rfl, rfl, hcc, hA, hbx, hbq, hex⟩ := hrel
                      have hAl := hA.out.len
                      rw [HL2.out] at hAl
                      by_cases hin : i < n + 1
                      · have cx := hbx.out.getV (k + i) (by omega)
                        have fx : wr.frozen? ⟨gx, k + i, none⟩ = false := hbx.out.frozen _
                        have cyy : wr.cell? ⟨gy, offy + i, none⟩ = some (.int .u32 (ys.getD i 0 : Nat)) := hex.out.keep (HCY.out i hin)
                        have hxd := hA.out.dig.getD hB0 (k + i)
                        have hyd := HYD.out.getD hB0 i
                        have HSV := Lib.hid (fun (y : Nat) (W : World) (h : Ext wr W) => (hbx.out.ext h).setV (k + i) y (show k + i < L3.length by omega))
                        have hst := fun (u' c' : Nat) (hu : u' < B32) (e : u' + B32 * c' = L3.getD (k + i) 0 + ys.getD i 0 + cc) => hA.out.step (by rw [HL2.out]; omega) hu e
                        generalize L3.getD (k + i) 0 = x at *
                        generalize ys.getD i 0 = y at *
                        have HN2 := Lib.hid (hst ((x + y + cc) % B32) ((x + y + cc) / B32) (Nat.mod_lt _ hB0) (Nat.mod_add_div _ _))
                        have E1 : Hid ((((x + y + cc) / B32 : Nat) : Int) = ((cc : Int) + x + y) / 4294967296) := Lib.hid (by unfold B32; omega)
                        have E2 : Hid ((((x + y + cc) % B32 : Nat) : Int) = ((cc : Int) + x + y) % 4294967296) := Lib.hid (by unfold B32; omega)
                        have hc1 : (x + y + cc) / B32 ≤ 1 := by unfold B32 at *; omega
                        have HC1 := Lib.hid hc1
                        have hxi : (x : Int) ≤ 4294967295 := by unfold B32 at hxd; omega
                        have hyi : (y : Int) ≤ 4294967295 := by unfold B32 at hyd; omega
                        have hci : (cc : Int) ≤ 1 := by omega
                        have hsum : IntKind.i64.wrap ((k : Int) + (i : Int)) = (k : Int) + (i : Int) := IntWalk.i64_in _ (by omega)
                        clear hst hA hAl hcc hxd hyd hc1
                        go_wp2
                        go_quiet (fail)
                        rename_i nq
                        have cx' : (wr.drewN nq).cell? ⟨gx, k + i, none⟩ = some (.int .u32 x) := cx
                        have fx' : (wr.drewN nq).frozen? ⟨gx, k + i, none⟩ = false := fx
                        have HSV2 := Lib.hid (fun (y : Nat) => HSV.out y (wr.drewN nq) ((Ext.refl wr).drewN nq))
                        have HBQ := Lib.hid (hbq.out.ext ((Ext.refl wr).drewN nq))
                        have HEX := Lib.hid (hex.out.drewN nq)
                        clear hbx hbq hex cx fx cyy hsum HSV
                        generalize wr.drewN nq = W8 at *
                        go_wp2
                        go_roundw
                        case rel =>
                          refine ⟨i + 1, (x + y + cc) / B32, L3.set (k + i) ((x + y + cc) % B32), by omega, by go_num, by rw [E1.out], HC1.out, HN2, Lib.hid ?_, Lib.hid (HBQ.out.far (by have := HGQ.out; simp; omega) _), Lib.hid (Below.setCell HEX.out (p := ⟨gx, k + i, none⟩) HGX.out _)⟩
                          rw [← E2.out]; exact HSV2.out _
                        case measure => simp [intOf]; omega
                      · obtain rfl : i = n + 1 := by omega
                        have cx := hbx.out.getV (k + (n + 1)) (by omega)
                        have fx : wr.frozen? ⟨gx, k + (n + 1), none⟩ = false := hbx.out.frozen _
                        have hxd := hA.out.dig.getD hB0 (k + (n + 1))
                        have HSV := Lib.hid (fun (y : Nat) => hbx.out.setV (k + (n + 1)) y (show k + (n + 1) < L3.length by omega))
                        have hA2 : S32.AdInv L2 ys k ys.length cc L3 := by rw [HYL.out]; exact hA.out
                        obtain ⟨dd, t1, t2, t3, t4⟩ := hA2.close (by rw [HYL.out, HL2.out]; omega)
                        rw [HYL.out] at t1 t2 t3 t4
                        rw [HYV.out] at t3
                        obtain ⟨_, _, hNX⟩ := hD.out.done1 hkm HNT.out.2.2.2 HNT.out.2.2.1 HGB.out HN.out t1 t2 t3 t4
                        rw [Nat.add_sub_cancel] at hNX
                        have HNX := Lib.hid hNX
                        generalize L3.getD (k + (n + 1)) 0 = x at *
                        have E2 : (((x + cc) % B32 : Nat) : Int) = ((x : Int) + cc) % 4294967296 := by unfold B32; omega
                        have hxi : (x : Int) ≤ 4294967295 := by unfold B32 at hxd; omega
                        have hci : (cc : Int) ≤ 1 := by omega
                        have hggi' : (g' : Int) ≤ 4294967295 := by have := HGL.out; unfold B32 at this; omega
                        have hBX : Hid (Blk (wr.setCell ⟨gx, k + (n + 1), none⟩ (.int .u32 (((x : Int) + cc) % 4294967296))) gx 107 (V32 (L3.set (k + (n + 1)) ((x + cc) % B32)) ++ sp)) := Lib.hid (by rw [← E2]; exact HSV.out _)
                        have hBQ : Hid (Blk (wr.setCell ⟨gx, k + (n + 1), none⟩ (.int .u32 (((x : Int) + cc) % 4294967296))) gq 107 (V32 Q)) := Lib.hid (hbq.out.far (by have := HGQ.out; simp; omega) _)
                        have hEX : Hid (Ext w2 (wr.setCell ⟨gx, k + (n + 1), none⟩ (.int .u32 (((x : Int) + cc) % 4294967296)))) := Lib.hid (Below.setCell hex.out (p := ⟨gx, k + (n + 1), none⟩) HGX.out _)
                        generalize L3.set (k + (n + 1)) ((x + cc) % B32) = L4 at *
                        have cq : (wr.setCell ⟨gx, k + (n + 1), none⟩ (.int .u32 (((x : Int) + cc) % 4294967296))).cell? ⟨gq, k, none⟩ = some (.int .u32 (Q.getD k 0 : Nat)) := by rw [hBQ.out.cell, getD_V32 _ _ (by rw [HQL.out]; exact hkm)]
                        have fq : (wr.setCell ⟨gx, k + (n + 1), none⟩ (.int .u32 (((x : Int) + cc) % 4294967296))).frozen? ⟨gq, k, none⟩ = false := hBQ.out.frozen _
                        generalize Q.getD k 0 = qo at *
                        clear t1 t2 t3 t4 hNX hA hA2 hAl hcc hxd E2 hbx hbq hex HSV
                        go_wp2
                        refine ⟨⟨k, L4, Q.set k g', by omega, rfl, HNX, Lib.hid (hBX.out.far (by have := HGQ.out; simp; omega) _), Lib.hid (by rw [← V32_set]; exact hBQ.out.set _ _), Lib.hid (Below.setCell hEX.out (p := ⟨gq, k, none⟩) (by have := HGX.out; have := HGQ.out; show w2.heap.size ≤ gq; omega) _)⟩, by simp [intOf]⟩
        · have hgt : (4294967296 : Int) ≤ (g : Int) := by unfold B32 at hg; omega
          have htst : B32 ≤ g ∨ r * B32 + a0 < g * y0 := .inl (by omega)
          have h1g := (hG.out.next htst).1
          by_cases hov : r + y1 < B32
          · have HNX := Lib.hid (hG.out.go htst hov)
            have hov2 : decide ((4294967296 : Int) ≤ (r : Int) + (y1 : Int)) = false := decide_eq_false (by unfold B32 at hov; omega)
            clear hG hg hge HT1E hrl htst hov h1g hor2 hT1
            go_wp2
            go_round
            case rel => exact ⟨g - 1, r + y1, by congr 1; omega, by go_num, HNX⟩
            case measure => simp [intOf]; omega
          · have HGOOD := Lib.hid (hG.out.over htst (by omega) HU.out hy0d)
            have hov2 : (4294967296 : Int) ≤ (r : Int) + (y1 : Int) := by unfold B32 at hov; omega
            clear hG hg hge HT1E hrl htst hov h1g hor2 hT1
            go_wp2
            rw [show ((g : Int) - 1) = ((g - 1 : Nat) : Int) from by omega]
            clear hgt hgi hri hov2
            generalize g - 1 = gg at *
            have hgb := HG2.out gg HGOOD.out
            have hglt := HGOOD.out.1
            have HGB := Lib.hid hgb
            have HGL := Lib.hid hglt
            have hggi : (gg : Int) ≤ 4294967295 := by unfold B32 at hglt; omega
            clear hgb hglt HGOOD c0' i3
            go_loopw [19, 20, 21] (fun c b i wr => ∃ (i' cc bb : Nat) (L' : List Nat), i' ≤ n + 1 ∧ i = .int .i64 i' ∧ c = .int .u64 cc ∧ b = .int .u64 bb ∧ cc < B32 ∧ bb ≤ 1 ∧ Hid (S32.MsInv L ys k gg i' cc bb L') ∧ Hid (Blk wr gx 107 (V32 L' ++ sp)) ∧ Hid (Blk wr gq 107 (V32 Q)) ∧ Hid (Ext w2 wr)) (fun _ _ i _ => n + 1 - (intOf i).toNat)
            case atStart => exact ⟨0, 0, 0, L, Nat.zero_le _, rfl, rfl, rfl, by unfold B32; omega, by omega, Lib.hid (S32.MsInv.start k gg hD.out.digL), HBX, HBQ, HEX⟩
            case round =>
              clear HBX HBQ HEX
              obtain ⟨i, cc, bb, L', hi', rfl, rfl, rfl, hcc, hbb, hM, hbx, hbq, hex⟩ := hrel
              have hMl := hM.out.len
              have hLl := HLL.out
              by_cases hin : i < n + 1
              · have cx := hbx.out.getV (k + i) (by omega)
                have fx : wr.frozen? ⟨gx, k + i, none⟩ = false := hbx.out.frozen _
                have cyy : wr.cell? ⟨gy, offy + i, none⟩ = some (.int .u32 (ys.getD i 0 : Nat)) := hex.out.keep (HCY.out i hin)
                have hxd := hM.out.dig.getD hB0 (k + i)
                have hyd := HYD.out.getD hB0 i
                have HSV := Lib.hid (fun (y : Nat) => hbx.out.setV (k + i) y (show k + i < L'.length by omega))
                have hst := fun (u' b' : Nat) (hu : u' < B32) (e : L'.getD (k + i) 0 + B32 * b' = (cc + gg * ys.getD i 0) % B32 + bb + u') => hM.out.step1 (by omega) hu e
                obtain ⟨htb, htc⟩ := S32.ms_carry HGL.out hyd hcc
                have hmul := macc HGL.out hyd hcc
                generalize L'.getD (k + i) 0 = x at *
                generalize ys.getD i 0 = y at *
                generalize cc + gg * y = t at *
                have hand : bits .and .u64 (t : Int) 4294967295 = ((t % B32 : Nat) : Int) := and_mask t htb
                have hs1 : t % B32 < B32 := Nat.mod_lt _ hB0
                generalize t % B32 = s1 at *
                obtain ⟨e1, e2⟩ := rs_dig (d := (x + 18446744073709551616 - s1 - bb) % 18446744073709551616) hxd hs1 hbb rfl
                have hsub := sub_two hxd hs1 hbb
                have hdl : (x + 18446744073709551616 - s1 - bb) % 18446744073709551616 < 18446744073709551616 := Nat.mod_lt _ (by omega)
                generalize (x + 18446744073709551616 - s1 - bb) % 18446744073709551616 = d at *
                have HN := Lib.hid (hst _ _ (show d % 4294967296 < B32 from Nat.mod_lt _ (by omega)) e1)
                have E1 : Hid (((t / B32 : Nat) : Int) = (t : Int) / 4294967296) := Lib.hid (by unfold B32; omega)
                have hti : (t : Int) ≤ 18446744073709551615 := by omega
                have hdi : (d : Int) ≤ 18446744073709551615 := by omega
                have hxi : (x : Int) ≤ 4294967295 := by unfold B32 at hxd; omega
                have hyi : (y : Int) ≤ 4294967295 := by unfold B32 at hyd; omega
                have hci : (cc : Int) ≤ 4294967295 := by unfold B32 at hcc; omega
                have HE2 := Lib.hid e2
                have HTC := Lib.hid htc
                clear hst e1 e2 htc hM hMl hLl hcc hbb hxd hyd hs1 htb hdl
                go_wp2
                go_roundw
                case rel =>
                  refine ⟨i + 1, t / B32, d / 9223372036854775808, L'.set (k + i) (d % 4294967296), by omega, by go_num, by rw [E1.out], by congr 1, HTC.out, HE2.out, HN, Lib.hid (HSV.out (d % 4294967296)), Lib.hid (hbq.out.far (by have := HGQ.out; simp; omega) _), Lib.hid (Below.setCell hex.out (p := ⟨gx, k + i, none⟩) HGX.out _)⟩
                case measure => simp [intOf]; omega
              · obtain rfl : i = n + 1 := by omega
                have cx := hbx.out.getV (k + (n + 1)) (by omega)
                have fx : wr.frozen? ⟨gx, k + (n + 1), none⟩ = false := hbx.out.frozen _
                have hxd := hM.out.dig.getD hB0 (k + (n + 1))
                have HSV := Lib.hid (fun (y : Nat) => hbx.out.setV (k + (n + 1)) y (show k + (n + 1) < L'.length by omega))
                have hM2 : S32.MsInv L ys k gg ys.length cc bb L' := by rw [HYL.out]; exact hM.out
                have hst := fun (u' b' : Nat) (hu : u' < B32) (e : L'.getD (k + ys.length) 0 + B32 * b' = cc + bb + u') => hM2.close (by rw [HYL.out]; omega) hu e
                rw [HYL.out, HYV.out] at hst
                generalize L'.getD (k + (n + 1)) 0 = x at *
                obtain ⟨e1, e2⟩ := rs_dig (d := (x + 18446744073709551616 - cc - bb) % 18446744073709551616) hxd hcc hbb rfl
                have hsub := sub_two hxd hcc hbb
                have hdl : (x + 18446744073709551616 - cc - bb) % 18446744073709551616 < 18446744073709551616 := Nat.mod_lt _ (by omega)
                generalize (x + 18446744073709551616 - cc - bb) % 18446744073709551616 = d at *
                have HN := Lib.hid (hst _ _ (show d % 4294967296 < B32 from Nat.mod_lt _ (by omega)) e1)
                have hdi : (d : Int) ≤ 18446744073709551615 := by omega
                have hxi : (x : Int) ≤ 4294967295 := by unfold B32 at hxd; omega
                have hci : (cc : Int) ≤ 4294967295 := by unfold B32 at hcc; omega
                have ed : ((d % 4294967296 : Nat) : Int) = (d : Int) % 4294967296 := by omega
                have hBX : Hid (Blk (wr.setCell ⟨gx, k + (n + 1), none⟩ (.int .u32 ((d : Int) % 4294967296))) gx 107 (V32 (L'.set (k + (n + 1)) (d % 4294967296)) ++ sp)) := Lib.hid (by rw [← ed]; exact HSV.out _)
                have hBQ : Hid (Blk (wr.setCell ⟨gx, k + (n + 1), none⟩ (.int .u32 ((d : Int) % 4294967296))) gq 107 (V32 Q)) := Lib.hid (hbq.out.far (by have := HGQ.out; simp; omega) _)
                have hEX : Hid (Ext w2 (wr.setCell ⟨gx, k + (n + 1), none⟩ (.int .u32 ((d : Int) % 4294967296)))) := Lib.hid (Below.setCell hex.out (p := ⟨gx, k + (n + 1), none⟩) HGX.out _)
                generalize L'.set (k + (n + 1)) (d % 4294967296) = L2 at *
                clear hst e1 hM hM2 hMl hLl hcc hbb hxd hdl ed hbx hbq hex HSV
                by_cases hb2 : d / 9223372036854775808 = 0
                · rw [hb2] at HN
                  have hb3 : ((d : Int) / 9223372036854775808 == 1) = false := beq_eq_false_iff_ne.2 (by omega)
                  obtain ⟨_, hNX⟩ := hD.out.done0 hkm HNT.out.2.2.2 HGB.out HN.out
                  have HNX := Lib.hid hNX
                  have cq : (wr.setCell ⟨gx, k + (n + 1), none⟩ (.int .u32 ((d : Int) % 4294967296))).cell? ⟨gq, k, none⟩ = some (.int .u32 (Q.getD k 0 : Nat)) := by rw [hBQ.out.cell, getD_V32 _ _ (by rw [HQL.out]; exact hkm)]
                  have fq : (wr.setCell ⟨gx, k + (n + 1), none⟩ (.int .u32 ((d : Int) % 4294967296))).frozen? ⟨gq, k, none⟩ = false := hBQ.out.frozen _
                  generalize Q.getD k 0 = qo at *
                  clear hNX hb2 e2
                  go_wp2
                  go_roundw
                  case rel =>
                    exact ⟨k, L2, Q.set k gg, by omega, rfl, HNX, Lib.hid (hBX.out.far (by have := HGQ.out; simp; omega) _), Lib.hid (by rw [← V32_set]; exact hBQ.out.set _ _), Lib.hid (Below.setCell hEX.out (p := ⟨gq, k, none⟩) (by have := HGX.out; have := HGQ.out; show w2.heap.size ≤ gq; omega) _)⟩
                  case measure => simp [intOf]
                · have hb2' : d / 9223372036854775808 = 1 := by omega
                  rw [hb2'] at HN
                  have hb3 : ((d : Int) / 9223372036854775808 == 1) = true := by
                    have : (d : Int) / 9223372036854775808 = 1 := by omega
                    rw [this]; rfl
                  have hg1 : 1 ≤ gg := hD.out.pos HNT.out.2.2.1 HN.out
                  obtain ⟨g', rfl⟩ : ∃ g', gg = g' + 1 := ⟨gg - 1, by omega⟩
                  have hgu : (g' : Int) + 1 ≤ 4294967295 := by omega
                  clear hb2 hb2' e2 hg1
                  have hL2 := HN.out.len
                  rw [HLL.out] at hL2
                  have HL2 := Lib.hid hL2
                  clear hL2
                  go_wp2
                  clear cx fx hsub hb3 hgu hdi hxi hci hggi
                  generalize wr.setCell ⟨gx, k + (n + 1), none⟩ (.int .u32 ((d : Int) % 4294967296)) = W7 at *
                  go_loopw [19, 24] (fun c i wr => ∃ (i' cc : Nat) (L3 : List Nat), i' ≤ n + 1 ∧ i = .int .i64 i' ∧ c = .int .u64 cc ∧ cc ≤ 1 ∧ Hid (S32.AdInv L2 ys k i' cc L3) ∧ Hid (Blk wr gx 107 (V32 L3 ++ sp)) ∧ Hid (Blk wr gq 107 (V32 Q)) ∧ Hid (Ext w2 wr)) (fun _ i _ => n + 1 - (intOf i).toNat)
                  case atStart => exact ⟨0, 0, L2, Nat.zero_le _, rfl, rfl, by omega, Lib.hid (S32.AdInv.start k HN.out.dig), hBX, hBQ, hEX⟩
                  case round =>
                    clear hBX hBQ hEX
                    obtain ⟨i, cc, L3, hi', rfl, rfl, hcc, hA, hbx, hbq, hex⟩ := hrel
                    have hAl := hA.out.len
                    rw [HL2.out] at hAl
                    by_cases hin : i < n + 1
                    · have cx := hbx.out.getV (k + i) (by omega)
                      have fx : wr.frozen? ⟨gx, k + i, none⟩ = false := hbx.out.frozen _
                      have cyy : wr.cell? ⟨gy, offy + i, none⟩ = some (.int .u32 (ys.getD i 0 : Nat)) := hex.out.keep (HCY.out i hin)
                      have hxd := hA.out.dig.getD hB0 (k + i)
                      have hyd := HYD.out.getD hB0 i
                      have HSV := Lib.hid (fun (y : Nat) (W : World) (h : Ext wr W) => (hbx.out.ext h).setV (k + i) y (show k + i < L3.length by omega))
                      have hst := fun (u' c' : Nat) (hu : u' < B32) (e : u' + B32 * c' = L3.getD (k + i) 0 + ys.getD i 0 + cc) => hA.out.step (by rw [HL2.out]; omega) hu e
                      generalize L3.getD (k + i) 0 = x at *
                      generalize ys.getD i 0 = y at *
                      have HN2 := Lib.hid (hst ((x + y + cc) % B32) ((x + y + cc) / B32) (Nat.mod_lt _ hB0) (Nat.mod_add_div _ _))
                      have E1 : Hid ((((x + y + cc) / B32 : Nat) : Int) = ((cc : Int) + x + y) / 4294967296) := Lib.hid (by unfold B32; omega)
                      have E2 : Hid ((((x + y + cc) % B32 : Nat) : Int) = ((cc : Int) + x + y) % 4294967296) := Lib.hid (by unfold B32; omega)
                      have hc1 : (x + y + cc) / B32 ≤ 1 := by unfold B32 at *; omega
                      have HC1 := Lib.hid hc1
                      have hxi : (x : Int) ≤ 4294967295 := by unfold B32 at hxd; omega
                      have hyi : (y : Int) ≤ 4294967295 := by unfold B32 at hyd; omega
                      have hci : (cc : Int) ≤ 1 := by omega
                      have hsum : IntKind.i64.wrap ((k : Int) + (i : Int)) = (k : Int) + (i : Int) := IntWalk.i64_in _ (by omega)
                      clear hst hA hAl hcc hxd hyd hc1
                      go_wp2
                      go_quiet (fail)
                      rename_i nq
                      have cx' : (wr.drewN nq).cell? ⟨gx, k + i, none⟩ = some (.int .u32 x) := cx
                      have fx' : (wr.drewN nq).frozen? ⟨gx, k + i, none⟩ = false := fx
                      have HSV2 := Lib.hid (fun (y : Nat) => HSV.out y (wr.drewN nq) ((Ext.refl wr).drewN nq))
                      have HBQ := Lib.hid (hbq.out.ext ((Ext.refl wr).drewN nq))
                      have HEX := Lib.hid (hex.out.drewN nq)
                      clear hbx hbq hex cx fx cyy hsum HSV
                      generalize wr.drewN nq = W8 at *
                      go_wp2
                      go_roundw
                      case rel =>
                        refine ⟨i + 1, (x + y + cc) / B32, L3.set (k + i) ((x + y + cc) % B32), by omega, by go_num, by rw [E1.out], HC1.out, HN2, Lib.hid ?_, Lib.hid (HBQ.out.far (by have := HGQ.out; simp; omega) _), Lib.hid (Below.setCell HEX.out (p := ⟨gx, k + i, none⟩) HGX.out _)⟩
                        rw [← E2.out]; exact HSV2.out _
                      case measure => simp [intOf]; omega
                    · obtain rfl : i = n + 1 := by omega
                      have cx := hbx.out.getV (k + (n + 1)) (by omega)
                      have fx : wr.frozen? ⟨gx, k + (n + 1), none⟩ = false := hbx.out.frozen _
                      have hxd := hA.out.dig.getD hB0 (k + (n + 1))
                      have HSV := Lib.hid (fun (y : Nat) => hbx.out.setV (k + (n + 1)) y (show k + (n + 1) < L3.length by omega))
                      have hA2 : S32.AdInv L2 ys k ys.length cc L3 := by rw [HYL.out]; exact hA.out
                      obtain ⟨dd, t1, t2, t3, t4⟩ := hA2.close (by rw [HYL.out, HL2.out]; omega)
                      rw [HYL.out] at t1 t2 t3 t4
                      rw [HYV.out] at t3
                      obtain ⟨_, _, hNX⟩ := hD.out.done1 hkm HNT.out.2.2.2 HNT.out.2.2.1 HGB.out HN.out t1 t2 t3 t4
                      rw [Nat.add_sub_cancel] at hNX
                      have HNX := Lib.hid hNX
                      generalize L3.getD (k + (n + 1)) 0 = x at *
                      have E2 : (((x + cc) % B32 : Nat) : Int) = ((x : Int) + cc) % 4294967296 := by unfold B32; omega
                      have hxi : (x : Int) ≤ 4294967295 := by unfold B32 at hxd; omega
                      have hci : (cc : Int) ≤ 1 := by omega
                      have hggi' : (g' : Int) ≤ 4294967295 := by have := HGL.out; unfold B32 at this; omega
                      have hBX : Hid (Blk (wr.setCell ⟨gx, k + (n + 1), none⟩ (.int .u32 (((x : Int) + cc) % 4294967296))) gx 107 (V32 (L3.set (k + (n + 1)) ((x + cc) % B32)) ++ sp)) := Lib.hid (by rw [← E2]; exact HSV.out _)
                      have hBQ : Hid (Blk (wr.setCell ⟨gx, k + (n + 1), none⟩ (.int .u32 (((x : Int) + cc) % 4294967296))) gq 107 (V32 Q)) := Lib.hid (hbq.out.far (by have := HGQ.out; simp; omega) _)
                      have hEX : Hid (Ext w2 (wr.setCell ⟨gx, k + (n + 1), none⟩ (.int .u32 (((x : Int) + cc) % 4294967296)))) := Lib.hid (Below.setCell hex.out (p := ⟨gx, k + (n + 1), none⟩) HGX.out _)
                      generalize L3.set (k + (n + 1)) ((x + cc) % B32) = L4 at *
                      have cq : (wr.setCell ⟨gx, k + (n + 1), none⟩ (.int .u32 (((x : Int) + cc) % 4294967296))).cell? ⟨gq, k, none⟩ = some (.int .u32 (Q.getD k 0 : Nat)) := by rw [hBQ.out.cell, getD_V32 _ _ (by rw [HQL.out]; exact hkm)]
                      have fq : (wr.setCell ⟨gx, k + (n + 1), none⟩ (.int .u32 (((x : Int) + cc) % 4294967296))).frozen? ⟨gq, k, none⟩ = false := hBQ.out.frozen _
                      generalize Q.getD k 0 = qo at *
                      clear t1 t2 t3 t4 hNX hA hA2 hAl hcc hxd E2 hbx hbq hex HSV
                      go_wp2
                      refine ⟨⟨k, L4, Q.set k g', by omega, rfl, HNX, Lib.hid (hBX.out.far (by have := HGQ.out; simp; omega) _), Lib.hid (by rw [← V32_set]; exact hBQ.out.set _ _), Lib.hid (Below.setCell hEX.out (p := ⟨gq, k, none⟩) (by have := HGX.out; have := HGQ.out; show w2.heap.size ≤ gq; omega) _)⟩, by simp [intOf]⟩

/-- The document's NatDiv. -/
theorem refDiv_any (a b : Nat) (v1 v2 : Value) (w : World) (h1 : R32 a v1 w) (h2 : R32 b v2 w) (ha : bl a ≤ 137438953472) (hb : bl b ≤ 137438953472) (h0 : b ≠ 0) :
    Calls Tryd.prog 28 #[v1, v2] w (DivPost (a / b) (a % b) w) := by
  rcases Nat.lt_or_ge a b with h | h
  · rw [Nat.div_eq_of_lt h, Nat.mod_eq_of_lt h]
    exact refDiv_less a b v1 v2 w h1 h2 ha hb h
  · rcases Nat.lt_or_ge b B32 with h' | h'
    · exact refDiv_one a b v1 v2 w h1 h2 ha (by omega) h' h
    · obtain ⟨n, s, P, hI, hn, hs⟩ := dvIn_of ha h' h
      have hh := h2
      obtain ⟨A, c, hv, _, _⟩ := h2
      rw [hn] at hv
      subst hv
      exact refDiv_core a b n s P A c v1 w h1 hh ha h hI hs
end Go.Proofs.YtcfpjgcellahnaaDoor

namespace Go.Proofs.YtcfpjgcellahnaaDoor
open Go.RowKit

set_option maxHeartbeats 1000000 in
/-- Pick at a bound that has gone over. -/
theorem pick_over (n : Int) (h1 : -9223372036854775808 ≤ n) (h2 : n ≤ 9223372036854775807) : ∃ k : Nat, k ≤ 9223372036854775807 ∧ ∀ w, Calls Tryd.prog 25 #[.int .i64 n, .int .i64 (-9223372036854775808)] w fun e w' => e = .returned (.int .i64 k) ∧ w = w' := by
  by_cases hn : n < 0
  · by_cases hm : n = -9223372036854775808
    · subst hm
      refine ⟨0, by omega, fun w => ?_⟩
      go_enter Tryd.func25, Tryd.ntmps25
      go_wp2
      go_ret
      exact ⟨rfl, rfl⟩
    · refine ⟨(n + 9223372036854775808).toNat, by omega, fun w => ?_⟩
      have e1 : n.tmod (-9223372036854775808) = n := by
        rw [Int.tmod_neg]
        have h := Int.tmod_eq_of_lt (a := -n) (b := 9223372036854775808) (by omega) (by omega)
        rw [Int.neg_tmod] at h
        omega
      go_enter Tryd.func25, Tryd.ntmps25
      go_wp2
      go_ret
      refine ⟨ret_int ?_, rfl⟩
      show wrap64 (n + -9223372036854775808) = _
      unfold wrap64
      omega
  · refine ⟨n.toNat, by omega, fun w => ?_⟩
    have e1 : n.tmod (-9223372036854775808) = n := by rw [Int.tmod_neg]; exact Int.tmod_eq_of_lt (by omega) (by omega)
    go_enter Tryd.func25, Tryd.ntmps25
    go_wp2
    go_ret
    exact ⟨ret_int (by omega), rfl⟩

theorem pick_len (n : Int) (h1 : -9223372036854775808 ≤ n) (h2 : n ≤ 9223372036854775807) (len : Nat) (h : len ≤ 9223372036854775807) : ∃ k : Nat, k ≤ len ∧ ∀ w, Calls Tryd.prog 25 #[.int .i64 n, .int .i64 (wrap64 ((len : Int) + 1))] w fun e w' => e = .returned (.int .i64 k) ∧ w = w' := by
  by_cases hl : len = 9223372036854775807
  · obtain ⟨k, hk, hc⟩ := pick_over n h1 h2
    have e : wrap64 ((len : Int) + 1) = -9223372036854775808 := by unfold wrap64; omega
    rw [e]
    exact ⟨k, by omega, hc⟩
  · have e : wrap64 ((len : Int) + 1) = (len : Int) + 1 := by unfold wrap64; omega
    have h3 := Int.emod_nonneg n (show (len : Int) + 1 ≠ 0 by omega)
    have h4 := Int.emod_lt_of_pos n (show (0 : Int) < (len : Int) + 1 by omega)
    rw [e]
    refine ⟨(n % ((len : Int) + 1)).toNat, by omega, fun w => ?_⟩
    have h5 := pick_any n ((len : Int) + 1) h1 h2 (by omega) (by omega) w
    rw [show n % ((len : Int) + 1) = ((n % ((len : Int) + 1)).toNat : Int) from by omega] at h5
    exact h5
end Go.Proofs.YtcfpjgcellahnaaDoor
