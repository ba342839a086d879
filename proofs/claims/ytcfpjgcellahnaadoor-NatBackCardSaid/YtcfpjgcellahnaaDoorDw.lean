/- Long division by many words: plain mathematics. -/
import Derived.Test.YtcfpjgcellahnaaDoorKnuth
import Derived.Test.YtcfpjgcellahnaaDoorMul
namespace Go.Proofs.YtcfpjgcellahnaaDoor

theorem getD_val {b : Nat} (hb : 2 ≤ b) : ∀ (i : Nat) {xs : List Nat}, Dig b xs → xs.getD i 0 = val b xs / b ^ i % b := by
  intro i
  induction i with
  | zero =>
    intro xs hd
    match xs, hd with
    | [], _ => simp
    | x :: xs, hd => simp [Nat.mod_eq_of_lt hd.head]
  | succ i ih =>
    intro xs hd
    match xs, hd with
    | [], _ => simp
    | x :: xs, hd =>
      rw [List.getD_cons_succ, ih hd.tail, val_cons, Nat.pow_succ, Nat.mul_comm (b ^ i), ← Nat.div_div_eq_div_mul, Nat.add_mul_div_left _ _ (by omega), Nat.div_eq_of_lt hd.head, Nat.zero_add]

/-- What holds in the outer loop of divWords. -/
structure DvOut (N V m n j : Nat) (L Q : List Nat) : Prop where
  lenL : L.length = m + n
  lenQ : Q.length = m
  digL : Dig B64 L
  digQ : Dig B64 Q
  eq : N = val B64 Q * V + val B64 L
  lt : val B64 L < V * B64 ^ j
  low : ∀ t, t < j → Q.getD t 0 = 0
theorem DvOut.start {m n V : Nat} {L : List Nat} (hl : L.length = m + n) (hd : Dig B64 L) (h : val B64 L < V * B64 ^ m) : DvOut (val B64 L) V m n m L (List.replicate m 0) :=
  ⟨hl, by simp, hd, Dig.rep (by unfold B64; omega) _, by rw [val_rep]; simp, h, fun t _ => getD_rep _ t⟩

/-- .. in the loop that takes the guess's product away. -/
structure MsInv (L0 Vs : List Nat) (j g i c b : Nat) (L : List Nat) : Prop where
  len : L.length = L0.length
  dig : Dig B64 L
  vl : val B64 L + g * val B64 (Vs.take i) * B64 ^ j = val B64 L0 + (c + b) * B64 ^ (j + i)
  rest : ∀ t, j + i ≤ t → L.getD t 0 = L0.getD t 0
theorem MsInv.start {L0 Vs : List Nat} (j g : Nat) (hd : Dig B64 L0) : MsInv L0 Vs j g 0 0 0 L0 := ⟨rfl, hd, by simp, fun _ _ => rfl⟩
theorem ms_arith {VL VL' VL0 I J u u' g T v c b c' b' B : Nat} (hv : VL + g * T * J = VL0 + (c + b) * (J * I)) (k : VL' + J * I * u = VL + J * I * u') (e : u' + g * v + (c + b) = u + B * (c' + b')) :
    VL' + g * (T + I * v) * J = VL0 + (c' + b') * (J * I * B) := by
  have e2 : J * I * u' + J * I * g * v + J * I * (c + b) = J * I * u + J * I * B * (c' + b') := by
    have : J * I * (u' + g * v + (c + b)) = J * I * (u + B * (c' + b')) := by rw [e]
    grind
  clear e
  grind
theorem MsInv.step {L0 Vs : List Nat} {j g i c b : Nat} {L : List Nat} (h : MsInv L0 Vs j g i c b L) (hl : j + i < L0.length) {hi lo s c1 u' b' : Nat} (hu : u' < B64)
    (e1 : lo + B64 * hi = g * Vs.getD i 0) (e2 : s + B64 * c1 = lo + c) (e3 : L.getD (j + i) 0 + B64 * b' = s + b + u') : MsInv L0 Vs j g (i + 1) (hi + c1) b' (L.set (j + i) u') := by
  have hlen := h.len
  have hl' : j + i < L.length := by omega
  have v := val_set B64 L (j + i) u' hl'
  rw [← getD_lt _ _ hl'] at v
  refine ⟨by simpa using hlen, h.dig.set _ hu, ?_, fun t ht => ?_⟩
  · have hv := h.vl
    rw [val_take_getD B64 Vs, ← Nat.add_assoc, Nat.pow_succ]
    have e0 : B64 ^ (j + i) = B64 ^ j * B64 ^ i := Nat.pow_add _ _ _
    rw [e0] at v hv ⊢
    refine ms_arith hv v ?_
    grind
  · rw [getD_set _ _ _ _ hl', if_neg (by omega)]
    exact h.rest t (by omega)
/-- .. and behind it. -/
structure MsOut (L0 : List Nat) (V j n g b : Nat) (L : List Nat) : Prop where
  len : L.length = L0.length
  dig : Dig B64 L
  vl : val B64 L + g * V * B64 ^ j = val B64 L0 + b * B64 ^ (j + n + 1)
  rest : ∀ t, j + n + 1 ≤ t → L.getD t 0 = L0.getD t 0
theorem MsInv.close {L0 Vs : List Nat} {j g c b : Nat} {L : List Nat} (h : MsInv L0 Vs j g Vs.length c b L) (hl : j + Vs.length < L0.length) {u' b' : Nat} (hu : u' < B64)
    (e : L.getD (j + Vs.length) 0 + B64 * b' = c + b + u') : MsOut L0 (val B64 Vs) j Vs.length g b' (L.set (j + Vs.length) u') := by
  have hlen := h.len
  have hl' : j + Vs.length < L.length := by omega
  have v := val_set B64 L (j + Vs.length) u' hl'
  rw [← getD_lt _ _ hl'] at v
  refine ⟨by simpa using hlen, h.dig.set _ hu, ?_, fun t ht => ?_⟩
  · have hv := h.vl
    rw [List.take_length] at hv
    rw [Nat.pow_succ]
    generalize B64 ^ (j + Vs.length) = K at *
    generalize L.getD (j + Vs.length) 0 = u at *
    generalize val B64 (L.set (j + Vs.length) u') = VL' at *
    have e2 : K * u + K * B64 * b' = K * (c + b) + K * u' := by
      have : K * (u + B64 * b') = K * (c + b + u') := by rw [e]
      grind
    grind
  · rw [getD_set _ _ _ _ hl', if_neg (by omega)]
    exact h.rest t (by omega)

/-- .. in the loop that adds the divisor back. -/
structure AdInv (L0 Vs : List Nat) (j i c : Nat) (L : List Nat) : Prop where
  len : L.length = L0.length
  dig : Dig B64 L
  vl : val B64 L + c * B64 ^ (j + i) = val B64 L0 + val B64 (Vs.take i) * B64 ^ j
  rest : ∀ t, j + i ≤ t → L.getD t 0 = L0.getD t 0
theorem AdInv.start {L0 Vs : List Nat} (j : Nat) (hd : Dig B64 L0) : AdInv L0 Vs j 0 0 L0 := ⟨rfl, hd, by simp, fun _ _ => rfl⟩
theorem AdInv.step {L0 Vs : List Nat} {j i c : Nat} {L : List Nat} (h : AdInv L0 Vs j i c L) (hl : j + i < L0.length) {u' c' : Nat} (hu : u' < B64)
    (e : u' + B64 * c' = L.getD (j + i) 0 + Vs.getD i 0 + c) : AdInv L0 Vs j (i + 1) c' (L.set (j + i) u') := by
  have hlen := h.len
  have hl' : j + i < L.length := by omega
  have v := val_set B64 L (j + i) u' hl'
  rw [← getD_lt _ _ hl'] at v
  refine ⟨by simpa using hlen, h.dig.set _ hu, ?_, fun t ht => ?_⟩
  · have hv := h.vl
    rw [val_take_getD B64 Vs, ← Nat.add_assoc, Nat.pow_succ]
    have e0 : B64 ^ (j + i) = B64 ^ j * B64 ^ i := Nat.pow_add _ _ _
    rw [e0] at v hv ⊢
    generalize B64 ^ j = J at *
    generalize B64 ^ i = I at *
    generalize L.getD (j + i) 0 = u at *
    generalize Vs.getD i 0 = x at *
    generalize val B64 (L.set (j + i) u') = VL' at *
    have e2 : J * I * u' + J * I * B64 * c' = J * I * u + J * I * x + J * I * c := by
      have : J * I * (u' + B64 * c') = J * I * (u + x + c) := by rw [e]
      grind
    grind
  · rw [getD_set _ _ _ _ hl', if_neg (by omega)]
    exact h.rest t (by omega)
/-- The last word of it: what runs over is lost. -/
theorem AdInv.close {L0 Vs : List Nat} {j c : Nat} {L : List Nat} (h : AdInv L0 Vs j Vs.length c L) (hl : j + Vs.length < L0.length) :
    ∃ d, Dig B64 (L.set (j + Vs.length) ((L.getD (j + Vs.length) 0 + c) % B64)) ∧ (L.set (j + Vs.length) ((L.getD (j + Vs.length) 0 + c) % B64)).length = L0.length ∧
      val B64 (L.set (j + Vs.length) ((L.getD (j + Vs.length) 0 + c) % B64)) + d * B64 ^ (j + Vs.length + 1) = val B64 L0 + val B64 Vs * B64 ^ j ∧
      ∀ t, j + Vs.length + 1 ≤ t → (L.set (j + Vs.length) ((L.getD (j + Vs.length) 0 + c) % B64)).getD t 0 = L0.getD t 0 := by
  have hlen := h.len
  have hl' : j + Vs.length < L.length := by omega
  have v := val_set B64 L (j + Vs.length) ((L.getD (j + Vs.length) 0 + c) % B64) hl'
  rw [← getD_lt _ _ hl'] at v
  have hu : (L.getD (j + Vs.length) 0 + c) % B64 < B64 := Nat.mod_lt _ (by unfold B64; omega)
  have e := Nat.mod_add_div (L.getD (j + Vs.length) 0 + c) B64
  refine ⟨(L.getD (j + Vs.length) 0 + c) / B64, h.dig.set _ hu, by simpa using hlen, ?_, fun t ht => ?_⟩
  · have hv := h.vl
    rw [List.take_length] at hv
    rw [Nat.pow_succ]
    generalize (L.getD (j + Vs.length) 0 + c) / B64 = d at *
    generalize (L.getD (j + Vs.length) 0 + c) % B64 = u' at *
    generalize B64 ^ (j + Vs.length) = K at *
    generalize L.getD (j + Vs.length) 0 = u at *
    generalize val B64 (L.set (j + Vs.length) u') = VL' at *
    have e2 : K * u' + K * B64 * d = K * u + K * c := by
      have : K * (u' + B64 * d) = K * (u + c) := by rw [e]
      grind
    grind
  · rw [getD_set _ _ _ _ hl', if_neg (by omega)]
    exact h.rest t (by omega)

theorem three_digits {T : Nat} (h : T < B64 ^ 3) : T = (T / B64 / B64 % B64 * B64 + T / B64 % B64) * B64 + T % B64 := by
  have h1 : T / B64 / B64 < B64 := by
    rw [Nat.div_div_eq_div_mul, Nat.div_lt_iff_lt_mul (by unfold B64; omega)]
    have : B64 ^ 3 = B64 * (B64 * B64) := by rw [Nat.pow_succ, Nat.pow_succ, Nat.pow_one, Nat.mul_comm]
    omega
  rw [Nat.mod_eq_of_lt h1]
  have e1 := Nat.div_add_mod T B64
  have e2 := Nat.div_add_mod (T / B64) B64
  rw [Nat.mul_comm] at e1 e2
  rw [e2, e1]

/-- Of the round at j: the two bounds on the words that the guess is taken from, and on the guess. -/
theorem DvOut.guess {N m n j : Nat} {L Q Vs : List Nat} (h : DvOut N (val B64 Vs) m n (j + 1) L Q) (hn : Vs.length = n) (h2 : 2 ≤ n) (hd : Dig B64 Vs) (ht : Vs.getD (n - 1) 0 ≠ 0) :
    L.getD (j + n) 0 ≤ Vs.getD (n - 1) 0 ∧ ∀ g, Good (L.getD (j + n) 0 * B64 + L.getD (j + n - 1) 0) (L.getD (j + n - 2) 0) (Vs.getD (n - 1) 0) (Vs.getD (n - 2) 0) g →
      val B64 L / B64 ^ j / val B64 Vs ≤ g ∧ g ≤ val B64 L / B64 ^ j / val B64 Vs + 1 := by
  have hB := B64_two
  have hVlt := val_lt hd
  rw [hn] at hVlt
  obtain ⟨k, rfl⟩ : ∃ k, n = k + 2 := ⟨n - 2, by omega⟩
  have hlt := h.lt
  have eL0 := getD_val hB (j + k + 2) h.digL
  have eL1 := getD_val hB (j + k + 1) h.digL
  have eL2 := getD_val hB (j + k) h.digL
  have eV1 := getD_val hB (k + 1) hd
  have eV0 := getD_val hB k hd
  rw [show j + (k + 2) = j + k + 2 from by omega, show j + k + 2 - 1 = j + k + 1 from by omega, show j + k + 2 - 2 = j + k from by omega, show k + 2 - 1 = k + 1 from by omega, show k + 2 - 2 = k from by omega]
  rw [show k + 2 - 1 = k + 1 from by omega] at ht
  have hP : 0 < B64 ^ k := Nat.pow_pos (by unfold B64; omega)
  have hJ : 0 < B64 ^ j := Nat.pow_pos (by unfold B64; omega)
  -- the numbers
  generalize hV : val B64 Vs = V at *
  generalize hl : val B64 L = l at *
  have hT1 : l / B64 ^ (j + k + 1) = l / B64 ^ (j + k) / B64 := by rw [Nat.pow_succ, Nat.div_div_eq_div_mul]
  have hT2 : l / B64 ^ (j + k + 2) = l / B64 ^ (j + k) / B64 / B64 := by rw [Nat.pow_succ, ← Nat.div_div_eq_div_mul, hT1]
  have hTD : l / B64 ^ (j + k) = l / B64 ^ j / B64 ^ k := by rw [Nat.pow_add, Nat.div_div_eq_div_mul]
  have hV1 : V / B64 ^ (k + 1) = V / B64 ^ k / B64 := by rw [Nat.pow_succ, Nat.div_div_eq_div_mul]
  have hDlt : l / B64 ^ j < V * B64 := by
    rw [Nat.div_lt_iff_lt_mul hJ]
    rw [Nat.pow_succ] at hlt
    calc l < V * (B64 ^ j * B64) := hlt
      _ = V * B64 * B64 ^ j := by rw [Nat.mul_assoc, Nat.mul_comm B64]
  rw [hT2] at eL0
  rw [hT1] at eL1
  rw [hTD] at eL0 eL1 eL2
  rw [hV1] at eV1
  generalize l / B64 ^ j = D at *
  have hW3 : V / B64 ^ k < B64 * B64 := by
    rw [Nat.div_lt_iff_lt_mul hP]
    calc V < B64 ^ (k + 2) := hVlt
      _ = B64 * B64 * B64 ^ k := by rw [Nat.pow_succ, Nat.pow_succ, Nat.mul_assoc, Nat.mul_comm]
  have hT3 : D / B64 ^ k < B64 ^ 3 := by
    rw [Nat.div_lt_iff_lt_mul hP]
    have h1 : V * B64 ≤ B64 ^ (k + 2) * B64 := Nat.mul_le_mul_right _ (by omega)
    have h2 : B64 ^ (k + 2) * B64 = B64 ^ 3 * B64 ^ k := by rw [← Nat.pow_succ, ← Nat.pow_add]; congr 1; omega
    omega
  have eT := three_digits hT3
  have eW : V / B64 ^ k = V / B64 ^ k / B64 * B64 + V / B64 ^ k % B64 := by rw [Nat.mul_comm]; exact (Nat.div_add_mod _ _).symm
  have hW1 : V / B64 ^ k / B64 < B64 := by rw [Nat.div_lt_iff_lt_mul (by unfold B64; omega)]; exact hW3
  rw [Nat.mod_eq_of_lt hW1] at eV1
  rw [← eL0, ← eL1, ← eL2] at eT
  rw [← eV1, ← eV0] at eW
  have hDe := Nat.div_add_mod D (B64 ^ k)
  have hVe := Nat.div_add_mod V (B64 ^ k)
  have hDm := Nat.mod_lt D hP
  have hVm := Nat.mod_lt V hP
  rw [Nat.mul_comm] at hDe hVe
  generalize L.getD (j + k + 2) 0 = u2 at *
  generalize L.getD (j + k + 1) 0 = u1 at *
  generalize L.getD (j + k) 0 = u0 at *
  generalize Vs.getD (k + 1) 0 = v1 at *
  generalize Vs.getD k 0 = v0 at *
  have hv0 : v0 < B64 := by rw [eV0]; exact Nat.mod_lt _ (by unfold B64; omega)
  rw [eT] at hDe
  rw [eW] at hVe
  constructor
  · rcases Nat.lt_or_ge v1 u2 with hc | hc
    · exfalso
      -- D ≥ u2 B² P ≥ (v1 + 1) B² P > V B
      have a1 : (v1 + 1) * B64 ≤ u2 * B64 := Nat.mul_le_mul_right _ hc
      have a2 : (v1 + 1) * B64 * B64 ≤ ((u2 * B64 + u1) * B64 + u0) := by
        have := Nat.mul_le_mul_right B64 (show (v1 + 1) * B64 ≤ u2 * B64 + u1 by omega)
        omega
      have a3 := Nat.mul_le_mul_right (B64 ^ k) a2
      have a4 : v1 * B64 + v0 + 1 ≤ (v1 + 1) * B64 := by rw [Nat.add_mul, Nat.one_mul]; omega
      have a5 := Nat.mul_le_mul_right (B64 ^ k) a4
      have a6 : (v1 * B64 + v0 + 1) * B64 ^ k = (v1 * B64 + v0) * B64 ^ k + B64 ^ k := by rw [Nat.add_mul, Nat.one_mul]
      have a7 : V < (v1 + 1) * B64 * B64 ^ k := by omega
      have a8 : V * B64 ≤ (v1 + 1) * B64 * B64 ^ k * B64 := Nat.mul_le_mul_right _ (by omega)
      have a9 : (v1 + 1) * B64 * B64 * B64 ^ k = (v1 + 1) * B64 * B64 ^ k * B64 := Nat.mul_right_comm _ _ _
      rw [← a9] at a8
      have b1 : ((u2 * B64 + u1) * B64 + u0) * B64 ^ k ≤ D := by rw [← hDe]; exact Nat.le_add_right _ _
      exact absurd hDlt (Nat.not_lt.2 (Nat.le_trans a8 (Nat.le_trans a3 b1)))
    · exact hc
  · rintro g ⟨hg1, hg2, hg3⟩
    refine knuth_guess (B := B64) (V3 := v1 * B64 + v0) (U3 := (u2 * B64 + u1) * B64 + u0) (Vr := V % B64 ^ k) (Ur := D % B64 ^ k) (P := B64 ^ k) (by omega) hVm (by omega) hDm hDlt ?_ hg2 hg1 hg3
    have : 1 * B64 ≤ v1 * B64 := Nat.mul_le_mul_right _ (by omega)
    omega

theorem high_zero {L : List Nat} {k : Nat} (hd : Dig B64 L) (h : ∀ t, k ≤ t → L.getD t 0 = 0) : val B64 L < B64 ^ k := by
  have e : val B64 L = val B64 (L.take k) := by
    rcases Nat.lt_or_ge k L.length with hk | hk
    · have e1 := val_split B64 L k (by omega)
      have e2 : L.drop k = List.replicate (L.length - k) 0 := by
        apply List.ext_getElem (by simp)
        intro i h1 h2
        rw [List.getElem_drop, List.getElem_replicate, ← getD_lt _ _ (by simp at h1; omega)]
        exact h _ (by omega)
      rw [e2, val_rep] at e1
      simpa using e1
    · rw [List.take_of_length_le hk]
  rw [e]
  have := val_lt (hd.take k)
  exact Nat.lt_of_lt_of_le this (Nat.pow_le_pow_right (by unfold B64; omega) (by rw [List.length_take]; omega))
theorem zero_high {L : List Nat} {k t : Nat} (hd : Dig B64 L) (h : val B64 L < B64 ^ k) (ht : k ≤ t) : L.getD t 0 = 0 := by
  rw [getD_val B64_two t hd, Nat.div_eq_of_lt (Nat.lt_of_lt_of_le h (Nat.pow_le_pow_right (by unfold B64; omega) ht))]
  rfl

/-- Above j + n the rest has no words. -/
theorem DvOut.top {N V m n j : Nat} {L Q : List Nat} (h : DvOut N V m n (j + 1) L Q) (hV : V < B64 ^ n) {t : Nat} (ht : j + n + 1 ≤ t) : L.getD t 0 = 0 := by
  refine zero_high h.digL (k := j + n + 1) ?_ ht
  have h1 := h.lt
  have h2 : V * B64 ^ (j + 1) ≤ B64 ^ n * B64 ^ (j + 1) := Nat.mul_le_mul_right _ (by omega)
  rw [← Nat.pow_add, show n + (j + 1) = j + n + 1 from by omega] at h2
  omega
/-- The round's end, whatever way it went: the rest is less by q times the divisor. -/
theorem DvOut.next {N V m n j q : Nat} {L L' Q : List Nat} (h : DvOut N V m n (j + 1) L Q) (hj : j < m) (hq : q = val B64 L / B64 ^ j / V) (hVp : 0 < V) (hqB : q < B64) (hl : L'.length = L.length) (hd : Dig B64 L')
    (he : val B64 L' + q * V * B64 ^ j = val B64 L) : DvOut N V m n j L' (Q.set j q) := by
  have hlq : j < Q.length := by rw [h.lenQ]; exact hj
  have v := val_set B64 Q j q hlq
  rw [← getD_lt _ _ hlq, h.low j (by omega)] at v
  have hJ : 0 < B64 ^ j := Nat.pow_pos (by unfold B64; omega)
  refine ⟨hl.trans h.lenL, by simpa using h.lenQ, hd, h.digQ.set _ hqB, ?_, ?_, fun t ht => ?_⟩
  · rw [h.eq, ← he]
    have v' : val B64 (Q.set j q) = val B64 Q + B64 ^ j * q := by omega
    rw [v']
    grind
  · have h1 := Nat.lt_div_mul_add hVp (a := val B64 L / B64 ^ j)
    have h2 := Nat.lt_div_mul_add hJ (a := val B64 L)
    rw [← hq] at h1
    generalize val B64 L / B64 ^ j = D at *
    have h3 : (D + 1) * B64 ^ j ≤ (q * V + V) * B64 ^ j := Nat.mul_le_mul_right _ h1
    rw [Nat.add_mul, Nat.add_mul, Nat.one_mul] at h3
    omega
  · rw [getD_set _ _ _ _ hlq, if_neg (by omega)]
    exact h.low t (by omega)
theorem quot_lt {V j l : Nat} (h : l < V * B64 ^ (j + 1)) (hVp : 0 < V) : l / B64 ^ j / V < B64 := by
  have hJ : 0 < B64 ^ j := Nat.pow_pos (by unfold B64; omega)
  rw [Nat.div_lt_iff_lt_mul hVp, Nat.div_lt_iff_lt_mul hJ]
  rw [Nat.pow_succ] at h
  have : V * (B64 ^ j * B64) = B64 * V * B64 ^ j := by rw [Nat.mul_comm (B64 ^ j), ← Nat.mul_assoc, Nat.mul_comm V]
  omega
/-- No borrow is left: the guess was right. -/
theorem DvOut.done0 {N V m n j g : Nat} {L L' Q : List Nat} (h : DvOut N V m n (j + 1) L Q) (hj : j < m) (hVp : 0 < V) (hg : val B64 L / B64 ^ j / V ≤ g ∧ g ≤ val B64 L / B64 ^ j / V + 1) (hm : MsOut L V j n g 0 L') :
    g < B64 ∧ DvOut N V m n j L' (Q.set j g) := by
  have he := hm.vl
  rw [Nat.zero_mul, Nat.add_zero] at he
  have hJ : 0 < B64 ^ j := Nat.pow_pos (by unfold B64; omega)
  have hqe : g = val B64 L / B64 ^ j / V := by
    have h1 : g ≤ val B64 L / B64 ^ j / V := by
      rw [Nat.le_div_iff_mul_le hVp, Nat.le_div_iff_mul_le hJ]
      omega
    omega
  have hb := quot_lt h.lt hVp
  rw [← hqe] at hb
  exact ⟨hb, h.next hj hqe hVp hb hm.len hm.dig he⟩
/-- A borrow is left: the guess was 1 too great, and the divisor has been added back. -/
theorem DvOut.done1 {N V m n j g d : Nat} {L L' L'' Q : List Nat} (h : DvOut N V m n (j + 1) L Q) (hj : j < m) (hVp : 0 < V) (hV : V < B64 ^ n) (hg : val B64 L / B64 ^ j / V ≤ g ∧ g ≤ val B64 L / B64 ^ j / V + 1) (hm : MsOut L V j n g 1 L')
    (hd : Dig B64 L'') (hl : L''.length = L'.length) (he2 : val B64 L'' + d * B64 ^ (j + n + 1) = val B64 L' + V * B64 ^ j) (hr : ∀ t, j + n + 1 ≤ t → L''.getD t 0 = L'.getD t 0) :
    1 ≤ g ∧ g - 1 < B64 ∧ DvOut N V m n j L'' (Q.set j (g - 1)) := by
  have he := hm.vl
  rw [Nat.one_mul] at he
  have hJ : 0 < B64 ^ j := Nat.pow_pos (by unfold B64; omega)
  have hL' : val B64 L' < B64 ^ (j + n + 1) := high_zero hm.dig (fun t ht => by rw [hm.rest t ht]; exact h.top hV ht)
  have hL'' : val B64 L'' < B64 ^ (j + n + 1) := high_zero hd (fun t ht => by rw [hr t ht, hm.rest t ht]; exact h.top hV ht)
  have hb := quot_lt h.lt hVp
  have hqe : g = val B64 L / B64 ^ j / V + 1 := by
    rcases Nat.lt_or_ge (val B64 L / B64 ^ j / V) g with h1 | h1
    · omega
    · exfalso
      have h2 : g ≤ val B64 L / B64 ^ j / V := h1
      rw [Nat.le_div_iff_mul_le hVp, Nat.le_div_iff_mul_le hJ] at h2
      omega
  obtain ⟨q, hq⟩ : ∃ q, q = val B64 L / B64 ^ j / V := ⟨_, rfl⟩
  rw [← hq] at hqe hb
  subst hqe
  rw [Nat.add_sub_cancel]
  have e1 : (q + 1) * V * B64 ^ j = q * V * B64 ^ j + V * B64 ^ j := by rw [Nat.add_mul, Nat.one_mul, Nat.add_mul]
  have hle : q * V * B64 ^ j ≤ val B64 L := by
    have h1 : q ≤ val B64 L / B64 ^ j / V := Nat.le_of_eq hq
    rwa [Nat.le_div_iff_mul_le hVp, Nat.le_div_iff_mul_le hJ] at h1
  have hd1 : d = 1 := by
    rcases Nat.lt_or_ge d 1 with h1 | h1
    · obtain rfl : d = 0 := by omega
      omega
    · rcases Nat.lt_or_ge 1 d with h2 | h2
      · exfalso
        have h3 : 2 * B64 ^ (j + n + 1) ≤ d * B64 ^ (j + n + 1) := Nat.mul_le_mul_right _ h2
        have h4 : V * B64 ^ j ≤ B64 ^ n * B64 ^ j := Nat.mul_le_mul_right _ (by omega)
        rw [← Nat.pow_add, Nat.add_comm n] at h4
        have h5 : B64 ^ (j + n) ≤ B64 ^ (j + n + 1) := Nat.pow_le_pow_right (by unfold B64; omega) (by omega)
        omega
      · omega
  subst hd1
  exact ⟨by omega, hb, h.next hj hq hVp hb (hl.trans hm.len) hd (by omega)⟩
/-- The end. -/
theorem DvOut.fin {N V m n : Nat} {L Q : List Nat} (h : DvOut N V m n 0 L Q) : val B64 Q = N / V ∧ val B64 L = N % V := by
  have hl := h.lt
  rw [Nat.pow_zero, Nat.mul_one] at hl
  have hp : 0 < V := by omega
  rw [h.eq, Nat.mul_comm]
  constructor
  · rw [Nat.mul_add_div hp, Nat.div_eq_of_lt hl, Nat.add_zero]
  · rw [Nat.mul_add_mod, Nat.mod_eq_of_lt hl]
end Go.Proofs.YtcfpjgcellahnaaDoor
