/- Numbers out of bytes: plain mathematics. -/
import Derived.Test.YtcfpjgcellahnaaDoorDw
import Derived.Test.YtcfpjgcellahnaaDoorRef
namespace Go.Proofs.YtcfpjgcellahnaaDoor

/-- Bytes as numbers, the lowest first; the number with these bytes, the highest first. -/
def rb (l : List UInt8) : List Nat := (l.map UInt8.toNat).reverse
def beN (l : List UInt8) : Nat := val 256 (rb l)
theorem rb_length (l : List UInt8) : (rb l).length = l.length := by simp [rb]
theorem rb_dig (l : List UInt8) : Dig 256 (rb l) := by
  intro x hx
  simp only [rb, List.mem_reverse, List.mem_map] at hx
  obtain ⟨a, _, rfl⟩ := hx
  exact a.toNat_lt
theorem rb_getD (l : List UInt8) (i : Nat) (h : i < l.length) : (rb l).getD (l.length - 1 - i) 0 = (l[i]).toNat := by
  rw [getD_lt _ _ (by rw [rb_length]; omega)]
  simp only [rb, List.getElem_reverse, List.getElem_map, List.length_map]
  congr 2; omega
theorem rb_getD' (l : List UInt8) (i : Nat) (h : i < l.length) : (rb l).getD i 0 = (l[l.length - 1 - i]'(by omega)).toNat := by
  rw [← rb_getD l (l.length - 1 - i) (by omega)]; congr 1; omega
theorem beN_lt (l : List UInt8) : beN l < 2 ^ (8 * l.length) := by
  have h := val_lt (rb_dig l)
  rw [rb_length] at h
  rw [Nat.pow_mul]; exact h
theorem B64_256 : B64 = 256 ^ 8 := rfl
theorem two8 (k : Nat) : (2 : Nat) ^ (8 * k) = 256 ^ k := by rw [Nat.pow_mul]

/-- What holds while FromBytes fills its words. -/
structure FbUp (bs : List Nat) (i : Nat) (L : List Nat) : Prop where
  len : L.length = (bs.length + 7) / 8
  dig : Dig B64 L
  vl : val B64 L = val 256 (bs.take i)
theorem FbUp.start (bs : List Nat) : FbUp bs 0 (List.replicate ((bs.length + 7) / 8) 0) :=
  ⟨by simp, Dig.rep (by unfold B64; omega) _, by rw [val_rep]; simp⟩
theorem FbUp.word {bs : List Nat} {i : Nat} {L : List Nat} (h : FbUp bs i L) (hd : Dig 256 bs) : L.getD (i / 8) 0 < 2 ^ (8 * (i % 8)) := by
  rw [getD_val B64_two _ h.dig, h.vl]
  have h1 := val_lt (hd.take i)
  have h2 : val 256 (bs.take i) < 256 ^ i := Nat.lt_of_lt_of_le h1 (Nat.pow_le_pow_right (by omega) (by simp; omega))
  refine Nat.lt_of_le_of_lt (Nat.mod_le _ _) ?_
  rw [Nat.div_lt_iff_lt_mul (Nat.pow_pos (by unfold B64; omega)), B64_256, ← Nat.pow_mul, two8, ← Nat.pow_add, show i % 8 + 8 * (i / 8) = i from by omega]
  exact h2
theorem FbUp.step {bs : List Nat} {i : Nat} {L : List Nat} (h : FbUp bs i L) (hi : i < bs.length) (hd : Dig 256 bs) :
    L.getD (i / 8) 0 + 2 ^ (8 * (i % 8)) * bs.getD i 0 < B64 ∧ FbUp bs (i + 1) (L.set (i / 8) (L.getD (i / 8) 0 + 2 ^ (8 * (i % 8)) * bs.getD i 0)) := by
  have hw := h.word hd
  have hx : bs.getD i 0 < 256 := hd.getD (by omega) i
  have hlt : L.getD (i / 8) 0 + 2 ^ (8 * (i % 8)) * bs.getD i 0 < B64 := by
    have h1 : 2 ^ (8 * (i % 8)) * (bs.getD i 0 + 1) ≤ 2 ^ (8 * (i % 8)) * 256 := Nat.mul_le_mul_left _ hx
    have h2 : 2 ^ (8 * (i % 8)) * 256 ≤ B64 := by
      rw [two8, ← Nat.pow_succ, B64_256]; exact Nat.pow_le_pow_right (by omega) (by omega)
    rw [Nat.mul_add, Nat.mul_one] at h1
    omega
  have hl : i / 8 < L.length := by rw [h.len]; omega
  refine ⟨hlt, by rw [List.length_set]; exact h.len, h.dig.set _ hlt, ?_⟩
  have e := val_set B64 L (i / 8) (L.getD (i / 8) 0 + 2 ^ (8 * (i % 8)) * bs.getD i 0) hl
  rw [← getD_lt L _ hl] at e
  rw [val_take_getD, ← h.vl]
  have e2 : B64 ^ (i / 8) * (2 ^ (8 * (i % 8)) * bs.getD i 0) = 256 ^ i * bs.getD i 0 := by
    rw [← Nat.mul_assoc, two8, B64_256, ← Nat.pow_mul, ← Nat.pow_add, show 8 * (i / 8) + i % 8 = i from by omega]
  rw [Nat.mul_add, e2] at e
  omega
theorem FbUp.fin {bs L : List Nat} (h : FbUp bs bs.length L) : val B64 L = val 256 bs := h.vl.trans (by rw [List.take_length])

/-- .. while the document's NatFrom does. -/
structure FbDn (bs : List Nat) (k : Nat) (L : List Nat) : Prop where
  len : L.length = (bs.length + 3) / 4
  dig : Dig B32 L
  vl : val B32 L = 256 ^ k * val 256 (bs.drop k)
theorem FbDn.start (bs : List Nat) : FbDn bs bs.length (List.replicate ((bs.length + 3) / 4) 0) :=
  ⟨by simp, Dig.rep (by unfold B32; omega) _, by rw [val_rep]; simp⟩
theorem FbDn.word {bs : List Nat} {k : Nat} {L : List Nat} (h : FbDn bs (k + 1) L) : ∃ z, L.getD (k / 4) 0 = 2 ^ (8 * (k % 4) + 8) * z := by
  rw [getD_val B32_two _ h.dig, h.vl]
  have e1 : 256 ^ (k + 1) = B32 ^ (k / 4) * 256 ^ (k % 4 + 1) := by rw [B32_256, ← Nat.pow_mul, ← Nat.pow_add]; congr 1; omega
  have e2 : B32 = 256 ^ (k % 4 + 1) * 256 ^ (3 - k % 4) := by rw [B32_256, ← Nat.pow_add]; congr 1; omega
  rw [e1, Nat.mul_assoc, Nat.mul_div_cancel_left _ (Nat.pow_pos (by unfold B32; omega))]
  generalize val 256 (bs.drop (k + 1)) = M
  rw [e2, Nat.mul_mod_mul_left]
  exact ⟨_, by rw [show 8 * (k % 4) + 8 = 8 * (k % 4 + 1) from by omega, two8]⟩
theorem FbDn.step {bs : List Nat} {k : Nat} {L : List Nat} (h : FbDn bs (k + 1) L) (hk : k < bs.length) (hd : Dig 256 bs) :
    L.getD (k / 4) 0 + 2 ^ (8 * (k % 4)) * bs.getD k 0 < B32 ∧ FbDn bs k (L.set (k / 4) (L.getD (k / 4) 0 + 2 ^ (8 * (k % 4)) * bs.getD k 0)) := by
  obtain ⟨z, hz⟩ := h.word
  have hx : bs.getD k 0 < 256 := hd.getD (by omega) k
  have hy : L.getD (k / 4) 0 < B32 := h.dig.getD (by unfold B32; omega) _
  have hlt : L.getD (k / 4) 0 + 2 ^ (8 * (k % 4)) * bs.getD k 0 < B32 := by
    have e2 : B32 = 2 ^ (8 * (k % 4) + 8) * 256 ^ (3 - k % 4) := by
      rw [show 8 * (k % 4) + 8 = 8 * (k % 4 + 1) from by omega, two8, B32_256, ← Nat.pow_add]; congr 1; omega
    have e3 : (2 : Nat) ^ (8 * (k % 4) + 8) = 2 ^ (8 * (k % 4)) * 256 := by rw [Nat.pow_add]
    rw [hz] at hy ⊢
    rw [e2] at hy ⊢
    have hzm : z < 256 ^ (3 - k % 4) := Nat.lt_of_mul_lt_mul_left hy
    have h1 : 2 ^ (8 * (k % 4) + 8) * (z + 1) ≤ 2 ^ (8 * (k % 4) + 8) * 256 ^ (3 - k % 4) := Nat.mul_le_mul_left _ hzm
    have h2 : 2 ^ (8 * (k % 4)) * (bs.getD k 0 + 1) ≤ 2 ^ (8 * (k % 4)) * 256 := Nat.mul_le_mul_left _ hx
    have h3 : 0 < 2 ^ (8 * (k % 4)) := Nat.pow_pos (by omega)
    rw [Nat.mul_add, Nat.mul_one] at h1 h2
    omega
  have hl : k / 4 < L.length := by rw [h.len]; omega
  refine ⟨hlt, by rw [List.length_set]; exact h.len, h.dig.set _ hlt, ?_⟩
  have e := val_set B32 L (k / 4) (L.getD (k / 4) 0 + 2 ^ (8 * (k % 4)) * bs.getD k 0) hl
  rw [← getD_lt L _ hl] at e
  have hv := h.vl
  rw [Nat.pow_succ, Nat.mul_assoc] at hv
  rw [val_drop_cons 256 bs k hk, ← getD_lt bs k hk, Nat.mul_add, ← hv]
  have e2 : B32 ^ (k / 4) * (2 ^ (8 * (k % 4)) * bs.getD k 0) = 256 ^ k * bs.getD k 0 := by
    rw [← Nat.mul_assoc, two8, B32_256, ← Nat.pow_mul, ← Nat.pow_add, show 4 * (k / 4) + k % 4 = k from by omega]
  rw [Nat.mul_add, e2] at e
  omega

theorem or64 {y x p : Nat} (hx : x < 256) (hp : p ≤ 56) (hy : y < 2 ^ p) : bits .or .u64 (y : Int) (IntKind.u64.wrap ((x : Int) * 2 ^ p)) = ((y + 2 ^ p * x : Nat) : Int) := by
  rw [upL_val (by omega) hy]
  unfold upL
  have : x < 2 ^ (64 - p) := Nat.lt_of_lt_of_le hx (Nat.le_trans (by omega : 256 ≤ 2 ^ 8) (Nat.pow_le_pow_right (by omega) (by omega)))
  rw [Nat.mod_eq_of_lt this]
theorem or32 {y x p z : Nat} (hx : x < 256) (hp : p ≤ 24) (hz : y = 2 ^ (p + 8) * z) (hy : y < B32) : bits .or .u32 (y : Int) (IntKind.u32.wrap ((x : Int) * 2 ^ p)) = ((y + 2 ^ p * x : Nat) : Int) := by
  have h1 : 2 ^ p * x < 2 ^ (p + 8) := by rw [Nat.pow_add]; exact Nat.mul_lt_mul_of_pos_left hx (Nat.pow_pos (by omega))
  have h2 : (2 : Nat) ^ (p + 8) ≤ 2 ^ 32 := Nat.pow_le_pow_right (by omega) (by omega)
  have h3 : 2 ^ p * x < 4294967296 := Nat.lt_of_lt_of_le h1 h2
  have e1 : IntKind.u32.wrap ((x : Int) * 2 ^ p) = ((2 ^ p * x : Nat) : Int) := by
    rw [IntKind.wrap_u32']
    have : ((x : Int) * 2 ^ p) = ((2 ^ p * x : Nat) : Int) := by push_cast; rw [Int.mul_comm]
    rw [this]; omega
  rw [e1, u32_or_nat y _ hy h3, hz, Nat.or_comm, or_add h1, Nat.add_comm]
theorem val_digits (b n : Nat) (k : Nat) : val b ((List.range k).map fun i => n / b ^ i % b) = n % b ^ k := by
  induction k with
  | zero => simp [Nat.mod_one]
  | succ k ih => rw [List.range_succ, List.map_append, List.map_singleton, val_snoc, ih, List.length_map, List.length_range, Nat.pow_succ, Nat.mod_mul]
theorem rb_beB (n : Nat) : rb (beB n) = (List.range (nb n)).map fun i => n / 256 ^ i % 256 := by
  apply List.ext_getElem
  · simp [rb, beB]
  · intro i h1 h2
    have hi : i < nb n := by simpa using h2
    simp only [rb, beB, List.getElem_reverse, List.getElem_map, List.getElem_range, List.length_map, List.length_range]
    rw [UInt8.toNat_ofNat', show nb n - 1 - (nb n - 1 - i) = i from by omega]
theorem nb_lt (n : Nat) : n < 256 ^ nb n := by
  rw [← two8]
  exact Nat.lt_of_lt_of_le (lt_bl n) (Nat.pow_le_pow_right (by omega) (by unfold nb; omega))
theorem beN_beB (n : Nat) : beN (beB n) = n := by
  unfold beN
  rw [rb_beB, val_digits, Nat.mod_eq_of_lt (nb_lt n)]

/-- A slice that reads as these bytes. -/
def SlB (l : List UInt8) (v : Value) (w : World) : Prop :=
  ∃ A c, v = .slice A l.length c ∧ l.length ≤ c ∧ (c ≤ 9223372036854775807 ∧ (A = none → c = 0)) ∧ (l ≠ [] → ∃ g off, A = some ⟨g, off, none⟩ ∧ g < w.heap.size ∧ ∀ i (h : i < l.length), w.cell? ⟨g, off + i, none⟩ = some (.int .u8 (l[i]).toNat))
theorem SlB.ext {w w' : World} {l : List UInt8} {v : Value} (h : SlB l v w) (e : Ext w w') : SlB l v w' := by
  obtain ⟨A, c, rfl, hc, hm, hh⟩ := h
  refine ⟨A, c, rfl, hc, hm, fun hne => ?_⟩
  obtain ⟨g, off, rfl, hg, hc⟩ := hh hne
  exact ⟨g, off, rfl, Nat.lt_of_lt_of_le hg e.size, fun i hi => e.keep (hc i hi)⟩
theorem SlB.of_blk {w : World} {g : Nat} {l : List UInt8} (hl : l.length ≤ 9223372036854775807) (h : Blk w g 5 (Lib.byteCells l)) : SlB l (.slice (some ⟨g, 0, none⟩) l.length l.length) w :=
  ⟨_, _, rfl, Nat.le_refl _, ⟨hl, fun h => by cases h⟩, fun _ => ⟨g, 0, rfl, h.lt, fun i hi => by
    rw [Nat.zero_add, h.cell i]
    simp [Lib.byteCells, List.getElem?_map, List.getElem?_eq_getElem hi]⟩⟩
theorem SlB.of_at {base : Nat} {l : List UInt8} {v : Value} {w : World} (hl : l.length ≤ 9223372036854775807) (h : BytesAt base l v w) : SlB l v w := by
  obtain ⟨g, _, rfl, hb⟩ := h
  exact SlB.of_blk hl hb
theorem SlB.nil (w : World) : SlB [] (.slice none 0 0) w := ⟨none, 0, rfl, by simp, ⟨by omega, fun _ => rfl⟩, fun h => absurd rfl h⟩
end Go.Proofs.YtcfpjgcellahnaaDoor
