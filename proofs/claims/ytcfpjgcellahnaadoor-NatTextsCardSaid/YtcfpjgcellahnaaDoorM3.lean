/- Numbers out of bytes: plain mathematics. Sums and differences of the document's numbers: plain mathematics. Products of lists of limbs: plain mathematics. Shifts of the document's numbers: plain mathematics. The arguments of a law, opened: slices of bytes. Walks: shiftDown. -/
import Derived.RegionTactic
import Derived.BigRegion
import Derived.Test.YtcfpjgcellahnaaDoorM2
namespace Go.Proofs.YtcfpjgcellahnaaDoor

/-- Bytes as numbers, the lowest first; the number with these bytes, the highest first. -/
def rb (l : List UInt8) : List Nat := (l.map UInt8.toNat).reverse
def beN (l : List UInt8) : Nat := val 256 (rb l)
theorem rb_length (l : List UInt8) : (rb l).length = l.length := by simp [rb]
theorem rb_dig (l : List UInt8) : Dig 256 (rb l) := by
  intro x hx
  simp only [rb, List.mem_reverse, List.mem_map] at hx
  obtain ⟨a, _, rfl⟩ := hx
  exact a.toNat_lt
theorem rb_getD (l : List UInt8) (i : Nat) (h : i < l.length) : (rb l).getD (l.length - 1 - i) 0 = (l[i]).toNat := by
  rw [getD_lt _ _ (by rw [rb_length]; omega)]
  simp only [rb, List.getElem_reverse, List.getElem_map, List.length_map]
  congr 2; omega
theorem rb_getD' (l : List UInt8) (i : Nat) (h : i < l.length) : (rb l).getD i 0 = (l[l.length - 1 - i]'(by omega)).toNat := by
  rw [← rb_getD l (l.length - 1 - i) (by omega)]; congr 1; omega
theorem beN_lt (l : List UInt8) : beN l < 2 ^ (8 * l.length) := by
  have h := val_lt (rb_dig l)
  rw [rb_length] at h
  rw [Nat.pow_mul]; exact h
theorem B64_256 : B64 = 256 ^ 8 := rfl
theorem two8 (k : Nat) : (2 : Nat) ^ (8 * k) = 256 ^ k := by rw [Nat.pow_mul]

/-- What holds while FromBytes fills its words. -/
structure FbUp (bs : List Nat) (i : Nat) (L : List Nat) : Prop where
  len : L.length = (bs.length + 7) / 8
  dig : Dig B64 L
  vl : val B64 L = val 256 (bs.take i)
theorem FbUp.start (bs : List Nat) : FbUp bs 0 (List.replicate ((bs.length + 7) / 8) 0) :=
  ⟨by simp, Dig.rep (by unfold B64; omega) _, by rw [val_rep]; simp⟩
theorem FbUp.word {bs : List Nat} {i : Nat} {L : List Nat} (h : FbUp bs i L) (hd : Dig 256 bs) : L.getD (i / 8) 0 < 2 ^ (8 * (i % 8)) := by
  rw [getD_val B64_two _ h.dig, h.vl]
  have h1 := val_lt (hd.take i)
  have h2 : val 256 (bs.take i) < 256 ^ i := Nat.lt_of_lt_of_le h1 (Nat.pow_le_pow_right (by omega) (by simp; omega))
  refine Nat.lt_of_le_of_lt (Nat.mod_le _ _) ?_
  rw [Nat.div_lt_iff_lt_mul (Nat.pow_pos (by unfold B64; omega)), B64_256, ← Nat.pow_mul, two8, ← Nat.pow_add, show i % 8 + 8 * (i / 8) = i from by omega]
  exact h2
theorem FbUp.step {bs : List Nat} {i : Nat} {L : List Nat} (h : FbUp bs i L) (hi : i < bs.length) (hd : Dig 256 bs) :
    L.getD (i / 8) 0 + 2 ^ (8 * (i % 8)) * bs.getD i 0 < B64 ∧ FbUp bs (i + 1) (L.set (i / 8) (L.getD (i / 8) 0 + 2 ^ (8 * (i % 8)) * bs.getD i 0)) := by
  have hw := h.word hd
  have hx : bs.getD i 0 < 256 := hd.getD (by omega) i
  have hlt : L.getD (i / 8) 0 + 2 ^ (8 * (i % 8)) * bs.getD i 0 < B64 := by
    have h1 : 2 ^ (8 * (i % 8)) * (bs.getD i 0 + 1) ≤ 2 ^ (8 * (i % 8)) * 256 := Nat.mul_le_mul_left _ hx
    have h2 : 2 ^ (8 * (i % 8)) * 256 ≤ B64 := by
      rw [two8, ← Nat.pow_succ, B64_256]; exact Nat.pow_le_pow_right (by omega) (by omega)
    rw [Nat.mul_add, Nat.mul_one] at h1
    omega
  have hl : i / 8 < L.length := by rw [h.len]; omega
  refine ⟨hlt, by rw [List.length_set]; exact h.len, h.dig.set _ hlt, ?_⟩
  have e := val_set B64 L (i / 8) (L.getD (i / 8) 0 + 2 ^ (8 * (i % 8)) * bs.getD i 0) hl
  rw [← getD_lt L _ hl] at e
  rw [val_take_getD, ← h.vl]
  have e2 : B64 ^ (i / 8) * (2 ^ (8 * (i % 8)) * bs.getD i 0) = 256 ^ i * bs.getD i 0 := by
    rw [← Nat.mul_assoc, two8, B64_256, ← Nat.pow_mul, ← Nat.pow_add, show 8 * (i / 8) + i % 8 = i from by omega]
  rw [Nat.mul_add, e2] at e
  omega
theorem FbUp.fin {bs L : List Nat} (h : FbUp bs bs.length L) : val B64 L = val 256 bs := h.vl.trans (by rw [List.take_length])

/-- .. while the document's NatFrom does. -/
structure FbDn (bs : List Nat) (k : Nat) (L : List Nat) : Prop where
  len : L.length = (bs.length + 3) / 4
  dig : Dig B32 L
  vl : val B32 L = 256 ^ k * val 256 (bs.drop k)
theorem FbDn.start (bs : List Nat) : FbDn bs bs.length (List.replicate ((bs.length + 3) / 4) 0) :=
  ⟨by simp, Dig.rep (by unfold B32; omega) _, by rw [val_rep]; simp⟩
theorem FbDn.word {bs : List Nat} {k : Nat} {L : List Nat} (h : FbDn bs (k + 1) L) : ∃ z, L.getD (k / 4) 0 = 2 ^ (8 * (k % 4) + 8) * z := by
  rw [getD_val B32_two _ h.dig, h.vl]
  have e1 : 256 ^ (k + 1) = B32 ^ (k / 4) * 256 ^ (k % 4 + 1) := by rw [B32_256, ← Nat.pow_mul, ← Nat.pow_add]; congr 1; omega
  have e2 : B32 = 256 ^ (k % 4 + 1) * 256 ^ (3 - k % 4) := by rw [B32_256, ← Nat.pow_add]; congr 1; omega
  rw [e1, Nat.mul_assoc, Nat.mul_div_cancel_left _ (Nat.pow_pos (by unfold B32; omega))]
  generalize val 256 (bs.drop (k + 1)) = M
  rw [e2, Nat.mul_mod_mul_left]
  exact ⟨_, by rw [show 8 * (k % 4) + 8 = 8 * (k % 4 + 1) from by omega, two8]⟩
theorem FbDn.step {bs : List Nat} {k : Nat} {L : List Nat} (h : FbDn bs (k + 1) L) (hk : k < bs.length) (hd : Dig 256 bs) :
    L.getD (k / 4) 0 + 2 ^ (8 * (k % 4)) * bs.getD k 0 < B32 ∧ FbDn bs k (L.set (k / 4) (L.getD (k / 4) 0 + 2 ^ (8 * (k % 4)) * bs.getD k 0)) := by
  obtain ⟨z, hz⟩ := h.word
  have hx : bs.getD k 0 < 256 := hd.getD (by omega) k
  have hy : L.getD (k / 4) 0 < B32 := h.dig.getD (by unfold B32; omega) _
  have hlt : L.getD (k / 4) 0 + 2 ^ (8 * (k % 4)) * bs.getD k 0 < B32 := by
    have e2 : B32 = 2 ^ (8 * (k % 4) + 8) * 256 ^ (3 - k % 4) := by
      rw [show 8 * (k % 4) + 8 = 8 * (k % 4 + 1) from by omega, two8, B32_256, ← Nat.pow_add]; congr 1; omega
    have e3 : (2 : Nat) ^ (8 * (k % 4) + 8) = 2 ^ (8 * (k % 4)) * 256 := by rw [Nat.pow_add]
    rw [hz] at hy ⊢
    rw [e2] at hy ⊢
    have hzm : z < 256 ^ (3 - k % 4) := Nat.lt_of_mul_lt_mul_left hy
    have h1 : 2 ^ (8 * (k % 4) + 8) * (z + 1) ≤ 2 ^ (8 * (k % 4) + 8) * 256 ^ (3 - k % 4) := Nat.mul_le_mul_left _ hzm
    have h2 : 2 ^ (8 * (k % 4)) * (bs.getD k 0 + 1) ≤ 2 ^ (8 * (k % 4)) * 256 := Nat.mul_le_mul_left _ hx
    have h3 : 0 < 2 ^ (8 * (k % 4)) := Nat.pow_pos (by omega)
    rw [Nat.mul_add, Nat.mul_one] at h1 h2
    omega
  have hl : k / 4 < L.length := by rw [h.len]; omega
  refine ⟨hlt, by rw [List.length_set]; exact h.len, h.dig.set _ hlt, ?_⟩
  have e := val_set B32 L (k / 4) (L.getD (k / 4) 0 + 2 ^ (8 * (k % 4)) * bs.getD k 0) hl
  rw [← getD_lt L _ hl] at e
  have hv := h.vl
  rw [Nat.pow_succ, Nat.mul_assoc] at hv
  rw [val_drop_cons 256 bs k hk, ← getD_lt bs k hk, Nat.mul_add, ← hv]
  have e2 : B32 ^ (k / 4) * (2 ^ (8 * (k % 4)) * bs.getD k 0) = 256 ^ k * bs.getD k 0 := by
    rw [← Nat.mul_assoc, two8, B32_256, ← Nat.pow_mul, ← Nat.pow_add, show 4 * (k / 4) + k % 4 = k from by omega]
  rw [Nat.mul_add, e2] at e
  omega

theorem or64 {y x p : Nat} (hx : x < 256) (hp : p ≤ 56) (hy : y < 2 ^ p) : bits .or .u64 (y : Int) (IntKind.u64.wrap ((x : Int) * 2 ^ p)) = ((y + 2 ^ p * x : Nat) : Int) := by
  rw [upL_val (by omega) hy]
  unfold upL
  have : x < 2 ^ (64 - p) := Nat.lt_of_lt_of_le hx (Nat.le_trans (by omega : 256 ≤ 2 ^ 8) (Nat.pow_le_pow_right (by omega) (by omega)))
  rw [Nat.mod_eq_of_lt this]
theorem or32 {y x p z : Nat} (hx : x < 256) (hp : p ≤ 24) (hz : y = 2 ^ (p + 8) * z) (hy : y < B32) : bits .or .u32 (y : Int) (IntKind.u32.wrap ((x : Int) * 2 ^ p)) = ((y + 2 ^ p * x : Nat) : Int) := by
  have h1 : 2 ^ p * x < 2 ^ (p + 8) := by rw [Nat.pow_add]; exact Nat.mul_lt_mul_of_pos_left hx (Nat.pow_pos (by omega))
  have h2 : (2 : Nat) ^ (p + 8) ≤ 2 ^ 32 := Nat.pow_le_pow_right (by omega) (by omega)
  have h3 : 2 ^ p * x < 4294967296 := Nat.lt_of_lt_of_le h1 h2
  have e1 : IntKind.u32.wrap ((x : Int) * 2 ^ p) = ((2 ^ p * x : Nat) : Int) := by
    rw [IntKind.wrap_u32']
    have : ((x : Int) * 2 ^ p) = ((2 ^ p * x : Nat) : Int) := by push_cast; rw [Int.mul_comm]
    rw [this]; omega
  rw [e1, u32_or_nat y _ hy h3, hz, Nat.or_comm, or_add h1, Nat.add_comm]
theorem val_digits (b n : Nat) (k : Nat) : val b ((List.range k).map fun i => n / b ^ i % b) = n % b ^ k := by
  induction k with
  | zero => simp [Nat.mod_one]
  | succ k ih => rw [List.range_succ, List.map_append, List.map_singleton, val_snoc, ih, List.length_map, List.length_range, Nat.pow_succ, Nat.mod_mul]
theorem rb_beB (n : Nat) : rb (beB n) = (List.range (nb n)).map fun i => n / 256 ^ i % 256 := by
  apply List.ext_getElem
  · simp [rb, beB]
  · intro i h1 h2
    have hi : i < nb n := by simpa using h2
    simp only [rb, beB, List.getElem_reverse, List.getElem_map, List.getElem_range, List.length_map, List.length_range]
    rw [UInt8.toNat_ofNat', show nb n - 1 - (nb n - 1 - i) = i from by omega]
theorem nb_lt (n : Nat) : n < 256 ^ nb n := by
  rw [← two8]
  exact Nat.lt_of_lt_of_le (lt_bl n) (Nat.pow_le_pow_right (by omega) (by unfold nb; omega))
theorem beN_beB (n : Nat) : beN (beB n) = n := by
  unfold beN
  rw [rb_beB, val_digits, Nat.mod_eq_of_lt (nb_lt n)]

/-- A slice that reads as these bytes. -/
def SlB (l : List UInt8) (v : Value) (w : World) : Prop :=
  ∃ A c, v = .slice A l.length c ∧ l.length ≤ c ∧ (c ≤ 9223372036854775807 ∧ (A = none → c = 0)) ∧ (l ≠ [] → ∃ g off, A = some ⟨g, off, none⟩ ∧ g < w.heap.size ∧ ∀ i (h : i < l.length), w.cell? ⟨g, off + i, none⟩ = some (.int .u8 (l[i]).toNat))
theorem SlB.ext {w w' : World} {l : List UInt8} {v : Value} (h : SlB l v w) (e : Ext w w') : SlB l v w' := by
  obtain ⟨A, c, rfl, hc, hm, hh⟩ := h
  refine ⟨A, c, rfl, hc, hm, fun hne => ?_⟩
  obtain ⟨g, off, rfl, hg, hc⟩ := hh hne
  exact ⟨g, off, rfl, Nat.lt_of_lt_of_le hg e.size, fun i hi => e.keep (hc i hi)⟩
theorem SlB.of_blk {w : World} {g : Nat} {l : List UInt8} (hl : l.length ≤ 9223372036854775807) (h : Blk w g 5 (Lib.byteCells l)) : SlB l (.slice (some ⟨g, 0, none⟩) l.length l.length) w :=
  ⟨_, _, rfl, Nat.le_refl _, ⟨hl, fun h => by cases h⟩, fun _ => ⟨g, 0, rfl, h.lt, fun i hi => by
    rw [Nat.zero_add, h.cell i]
    simp [Lib.byteCells, List.getElem?_map, List.getElem?_eq_getElem hi]⟩⟩
theorem SlB.of_at {base : Nat} {l : List UInt8} {v : Value} {w : World} (hl : l.length ≤ 9223372036854775807) (h : BytesAt base l v w) : SlB l v w := by
  obtain ⟨g, _, rfl, hb⟩ := h
  exact SlB.of_blk hl hb
theorem SlB.nil (w : World) : SlB [] (.slice none 0 0) w := ⟨none, 0, rfl, by simp, ⟨by omega, fun _ => rfl⟩, fun h => absurd rfl h⟩
end Go.Proofs.YtcfpjgcellahnaaDoor

namespace Go.Proofs.YtcfpjgcellahnaaDoor

/-- What holds while NatAdd fills its limbs. -/
structure RaInv (xs ys : List Nat) (i c : Nat) (L : List Nat) : Prop where
  len : L.length = max xs.length ys.length + 1
  dig : Dig B32 L
  c1 : c ≤ 1
  vl : val B32 (L.take i) + c * B32 ^ i = val B32 (xs.take i) + val B32 (ys.take i)
theorem RaInv.start (xs ys : List Nat) : RaInv xs ys 0 0 (List.replicate (max xs.length ys.length + 1) 0) :=
  ⟨by simp, Dig.rep (by unfold B32; omega) _, by omega, by simp⟩
theorem RaInv.step {xs ys : List Nat} {i c : Nat} {L : List Nat} (h : RaInv xs ys i c L) (hx : Dig B32 xs) (hy : Dig B32 ys) (hi : i < L.length) :
    RaInv xs ys (i + 1) ((c + xs.getD i 0 + ys.getD i 0) / B32) (L.set i ((c + xs.getD i 0 + ys.getD i 0) % B32)) := by
  have h1 := hx.getD (by unfold B32; omega) i
  have h2 := hy.getD (by unfold B32; omega) i
  have h3 := h.c1
  have e := Nat.mod_add_div (c + xs.getD i 0 + ys.getD i 0) B32
  refine ⟨by simpa using h.len, h.dig.set _ (Nat.mod_lt _ (by unfold B32; omega)), ?_, ?_⟩
  · clear e; unfold B32 at *; omega
  · rw [val_take_set _ _ _ _ hi, val_take_getD, val_take_getD, Nat.pow_succ]
    refine add_step h.vl ?_
    rw [e]; omega
theorem RaInv.fin {xs ys : List Nat} {c : Nat} {L : List Nat} (h : RaInv xs ys L.length c L) (hx : Dig B32 xs) (hy : Dig B32 ys) : val B32 L = val B32 xs + val B32 ys := by
  have hv := h.vl
  have hl := h.len
  have h3 := h.c1
  rw [List.take_length, val_take_all _ xs _ (by omega), val_take_all _ ys _ (by omega)] at hv
  have hlx := val_lt hx
  have hly := val_lt hy
  have a1 : B32 ^ xs.length ≤ B32 ^ max xs.length ys.length := Nat.pow_le_pow_right (by unfold B32; omega) (Nat.le_max_left _ _)
  have a2 : B32 ^ ys.length ≤ B32 ^ max xs.length ys.length := Nat.pow_le_pow_right (by unfold B32; omega) (Nat.le_max_right _ _)
  rw [hl, Nat.pow_succ] at hv
  generalize B32 ^ max xs.length ys.length = M at *
  have a3 : M * B32 = M * 4294967296 := rfl
  rw [a3] at hv
  rcases Nat.eq_zero_or_pos c with h0 | h0
  · subst h0; simpa using hv
  · obtain rfl : c = 1 := by omega
    omega

/-- .. while NatSub does. -/
structure RsInv (xs ys : List Nat) (i c : Nat) (L : List Nat) : Prop where
  len : L.length = xs.length
  dig : Dig B32 L
  c1 : c ≤ 1
  vl : val B32 (xs.take i) + c * B32 ^ i = val B32 (L.take i) + val B32 (ys.take i)
theorem RsInv.start (xs ys : List Nat) : RsInv xs ys 0 0 (List.replicate xs.length 0) :=
  ⟨by simp, Dig.rep (by unfold B32; omega) _, by omega, by simp⟩
theorem rs_dig {x y c d : Nat} (hx : x < B32) (hy : y < B32) (hc : c ≤ 1) (hd : d = (x + 18446744073709551616 - y - c) % 18446744073709551616) :
    x + B32 * (d / 9223372036854775808) = y + c + d % 4294967296 ∧ d / 9223372036854775808 ≤ 1 := by
  unfold B32 at *; omega
theorem RsInv.step {xs ys : List Nat} {i c d : Nat} {L : List Nat} (h : RsInv xs ys i c L) (hx : Dig B32 xs) (hy : Dig B32 ys) (hi : i < xs.length)
    (hd : d = (xs.getD i 0 + 18446744073709551616 - ys.getD i 0 - c) % 18446744073709551616) :
    RsInv xs ys (i + 1) (d / 9223372036854775808) (L.set i (d % 4294967296)) := by
  have h1 := hx.getD (by unfold B32; omega) i
  have h2 := hy.getD (by unfold B32; omega) i
  obtain ⟨e, e1⟩ := rs_dig h1 h2 h.c1 hd
  refine ⟨by simpa using h.len, h.dig.set _ (Nat.mod_lt _ (by omega)), e1, ?_⟩
  rw [val_take_set _ _ _ _ (by rw [h.len]; exact hi), val_take_getD, val_take_getD, Nat.pow_succ]
  exact sub_step h.vl e
theorem RsInv.fin {xs ys : List Nat} {c : Nat} {L : List Nat} (h : RsInv xs ys xs.length c L) (hle : val B32 ys ≤ val B32 xs) (hl : ys.length ≤ xs.length) : val B32 L = val B32 xs - val B32 ys := by
  have hv := h.vl
  have h3 := h.c1
  have hll := val_lt h.dig
  rw [h.len] at hll
  rw [List.take_length, val_take_all _ ys _ hl, val_take_all _ L _ (by rw [h.len]; omega)] at hv
  generalize B32 ^ xs.length = M at *
  rcases Nat.eq_zero_or_pos c with h0 | h0
  · subst h0; omega
  · obtain rfl : c = 1 := by omega
    omega

/-- Comparison from the highest limb on. -/
theorem cmpN_at {a b j : Nat} (h : (limbs B32 a).length = (limbs B32 b).length) (hj : j < (limbs B32 a).length) (hd : (limbs B32 a).drop (j + 1) = (limbs B32 b).drop (j + 1))
    (hne : (limbs B32 a).getD j 0 ≠ (limbs B32 b).getD j 0) : cmpN ((limbs B32 a).getD j 0) ((limbs B32 b).getD j 0) = cmpN a b := by
  have hjb : j < (limbs B32 b).length := by omega
  have da := limbs_dig B32_two a
  have db := limbs_dig B32_two b
  have va := val_limbs B32_two a
  have vb := val_limbs B32_two b
  rw [getD_lt _ _ hj, getD_lt _ _ hjb] at hne ⊢
  rcases Nat.lt_or_ge (limbs B32 a)[j] (limbs B32 b)[j] with h' | h'
  · have := val_lt_at da h hj hd h'
    rw [va, vb] at this
    rw [cmpN_lt this, cmpN_lt h']
  · have h' : (limbs B32 b)[j] < (limbs B32 a)[j] := by omega
    have := val_lt_at db h.symm hjb hd.symm h'
    rw [va, vb] at this
    rw [cmpN_gt this, cmpN_gt h']
end Go.Proofs.YtcfpjgcellahnaaDoor

namespace Go.Proofs.YtcfpjgcellahnaaDoor.S32

theorem mac_sum {B mn o c lo hi s1 c1 s2 c2 : Nat} (h1 : lo + B * hi = mn) (h2 : s1 + B * c1 = lo + o) (h3 : s2 + B * c2 = s1 + c) : s2 + B * (hi + c1 + c2) = mn + o + c := by grind
theorem mac_lt {B m n o c q r : Nat} (hm : m < B) (hn : n < B) (ho : o < B) (hc : c < B) (h : r + B * q = m * n + o + c) : q < B := by
  have h1 : m * n ≤ (B - 1) * (B - 1) := Nat.mul_le_mul (by omega) (by omega)
  rcases Nat.lt_or_ge q B with h' | h'
  · exact h'
  · exfalso
    have h2 : B * B ≤ B * q := Nat.mul_le_mul_left _ h'
    obtain ⟨b, rfl⟩ : ∃ b, B = b + 1 := ⟨B - 1, by omega⟩
    simp only [Nat.add_sub_cancel] at h1
    have h3 : (b + 1) * (b + 1) = b * b + 2 * b + 1 := by grind
    omega

theorem mulin_arith {VL' VL c I J o s q A YT x y B : Nat} (hv : VL + c * (I * J) = A + x * YT * I) (v : VL' + I * J * o = VL + I * J * s) (e : s + B * q = x * y + o + c) :
    VL' + q * (I * J * B) = A + x * (YT + J * y) * I := by
  have e2 : I * J * s + I * J * B * q = I * J * x * y + I * J * o + I * J * c := by
    have : I * J * (s + B * q) = I * J * (x * y + o + c) := by rw [e]
    grind
  clear e
  grind

/-- What holds in the inner loop of mulWords. -/
structure MulIn (xs ys : List Nat) (i j c : Nat) (L : List Nat) : Prop where
  len : L.length = xs.length + ys.length
  dig : Dig B32 L
  val : val B32 L + c * B32 ^ (i + j) = val B32 (xs.take i) * val B32 ys + xs.getD i 0 * val B32 (ys.take j) * B32 ^ i
  rest : ∀ t, i + ys.length ≤ t → L.getD t 0 = 0
/-- .. in the outer one. -/
structure MulOut (xs ys : List Nat) (i : Nat) (L : List Nat) : Prop where
  len : L.length = xs.length + ys.length
  dig : Dig B32 L
  val : val B32 L = val B32 (xs.take i) * val B32 ys
  rest : ∀ t, i + ys.length ≤ t → L.getD t 0 = 0
theorem MulOut.start (xs ys : List Nat) : MulOut xs ys 0 (List.replicate (xs.length + ys.length) 0) :=
  ⟨by simp, Dig.rep (by unfold B32; omega) _, by rw [val_rep]; simp, fun i _ => getD_rep _ i⟩
theorem MulOut.inner {xs ys : List Nat} {i : Nat} {L : List Nat} (h : MulOut xs ys i L) : MulIn xs ys i 0 0 L := ⟨h.len, h.dig, by simpa using h.val, h.rest⟩
theorem MulIn.step {xs ys : List Nat} {i j c : Nat} {L : List Nat} (h : MulIn xs ys i j c L) (hi : i < xs.length) (hj : j < ys.length) {s q : Nat} (hs : s < B32)
    (e : s + B32 * q = xs.getD i 0 * ys.getD j 0 + L.getD (i + j) 0 + c) : MulIn xs ys i (j + 1) q (L.set (i + j) s) := by
  have hlen := h.len
  have hl : i + j < L.length := by omega
  have v := val_set B32 L (i + j) s hl
  rw [← getD_lt _ _ hl] at v
  refine ⟨by simpa using hlen, h.dig.set _ hs, ?_, fun t ht => ?_⟩
  · have hv := h.val
    rw [val_take_getD B32 ys, ← Nat.add_assoc, Nat.pow_succ]
    have e1 : B32 ^ (i + j) = B32 ^ i * B32 ^ j := Nat.pow_add _ _ _
    rw [e1] at v hv ⊢
    exact mulin_arith hv v e
  · rw [getD_set _ _ _ _ hl, if_neg (by omega)]
    exact h.rest t ht
theorem MulIn.close {xs ys : List Nat} {i c : Nat} {L : List Nat} (h : MulIn xs ys i ys.length c L) (hi : i < xs.length) (hc : c < B32) : MulOut xs ys (i + 1) (L.set (i + ys.length) c) := by
  have hlen := h.len
  have hl : i + ys.length < L.length := by omega
  have v := val_set B32 L (i + ys.length) c hl
  rw [← getD_lt _ _ hl, h.rest _ (Nat.le_refl _)] at v
  refine ⟨by simpa using hlen, h.dig.set _ hc, ?_, fun t ht => ?_⟩
  · have hv := h.val
    rw [List.take_length] at hv
    rw [val_take_getD B32 xs]
    generalize B32 ^ (i + ys.length) = Q at *
    generalize B32 ^ i = I at *
    generalize xs.getD i 0 = x at *
    grind
  · rw [getD_set _ _ _ _ hl, if_neg (by omega)]
    exact h.rest t (by omega)

end Go.Proofs.YtcfpjgcellahnaaDoor.S32

namespace Go.Proofs.YtcfpjgcellahnaaDoor

/-- The limb that is put, and what is carried on. -/
def shT (c x p : Nat) : Nat := c + 2 ^ p * x
theorem shT_lt {c x p : Nat} (hc : c < 2 ^ p) (hx : x < B32) : shT c x p < 2 ^ p * B32 := by
  unfold shT
  have : 2 ^ p * (x + 1) ≤ 2 ^ p * B32 := Nat.mul_le_mul_left _ hx
  rw [Nat.mul_add, Nat.mul_one] at this
  omega
theorem shT_carry {c x p : Nat} (hc : c < 2 ^ p) (hx : x < B32) : shT c x p / B32 < 2 ^ p := by
  rw [Nat.div_lt_iff_lt_mul (by unfold B32; omega)]
  exact shT_lt hc hx
theorem shT_or {c x p : Nat} (hc : c < 2 ^ p) (hx : x < B32) (hp : p < 32) : bits .or .u64 (c : Int) (IntKind.u64.wrap ((x : Int) * 2 ^ p)) = ((shT c x p : Nat) : Int) := by
  rw [upL_val (by omega) hc]
  unfold upL shT
  have h1 : (2 : Nat) ^ 32 ≤ 2 ^ (64 - p) := Nat.pow_le_pow_right (by omega) (by omega)
  rw [Nat.mod_eq_of_lt (Nat.lt_of_lt_of_le hx h1)]
/-- What holds while NatShift goes up. -/
structure ShUp (xs : List Nat) (q p i c : Nat) (L : List Nat) : Prop where
  len : L.length = q + i
  dig : Dig B32 L
  lt : c < 2 ^ p
  vl : val B32 L + c * B32 ^ (q + i) = val B32 (xs.take i) * 2 ^ p * B32 ^ q
theorem ShUp.start (xs : List Nat) (q p : Nat) : ShUp xs q p 0 0 (List.replicate q 0) :=
  ⟨by simp, Dig.rep (by unfold B32; omega) _, Nat.pow_pos (by omega), by rw [val_rep]; simp⟩
theorem shup_arith {V c Q I X P x b t r d : Nat} (h : V + c * (Q * I) = X * P * Q) (ht : t = c + P * x) (hd : r + b * d = t) :
    V + Q * I * r + d * (Q * I * b) = (X + I * x) * P * Q := by grind
theorem ShUp.step {xs : List Nat} {q p i c : Nat} {L : List Nat} (h : ShUp xs q p i c L) (hd : Dig B32 xs) :
    ShUp xs q p (i + 1) (shT c (xs.getD i 0) p / B32) (L ++ [shT c (xs.getD i 0) p % B32]) := by
  have hx := hd.getD (by unfold B32; omega) i
  refine ⟨by rw [List.length_append, h.len, List.length_singleton]; omega, h.dig.append (Dig.cons (Nat.mod_lt _ (by unfold B32; omega)) (Dig.nil _)), shT_carry h.lt hx, ?_⟩
  have hv := h.vl
  rw [val_snoc, h.len, val_take_getD, ← Nat.add_assoc q i 1, Nat.pow_succ, Nat.pow_add] at *
  exact shup_arith hv rfl (Nat.mod_add_div _ _)
theorem ShUp.fin {xs : List Nat} {q p c : Nat} {L : List Nat} (h : ShUp xs q p (xs.length + 1) c L) (hd : Dig B32 xs) (hp : p < 32) : val B32 L = val B32 xs * 2 ^ (32 * q + p) := by
  have hv := h.vl
  rw [List.take_of_length_le (by omega)] at hv
  have hx := val_lt hd
  have e : val B32 xs * 2 ^ (32 * q + p) = val B32 xs * 2 ^ p * B32 ^ q := by rw [Nat.add_comm, Nat.pow_add, ← B32_pow, Nat.mul_assoc]
  rw [e]
  have hlt : val B32 xs * 2 ^ p * B32 ^ q < B32 ^ (q + (xs.length + 1)) := by
    have h1 : val B32 xs * 2 ^ p < B32 ^ xs.length * B32 := by
      have a1 : (2 : Nat) ^ p ≤ B32 := Nat.le_trans (Nat.pow_le_pow_right (by omega) (Nat.le_of_lt hp)) (Nat.le_refl _)
      exact Nat.lt_of_lt_of_le (Nat.mul_lt_mul_of_pos_right hx (Nat.pow_pos (by omega))) (Nat.mul_le_mul_left _ a1)
    rw [← Nat.pow_succ] at h1
    have h2 := Nat.mul_lt_mul_of_pos_right h1 (show 0 < B32 ^ q from Nat.pow_pos (by unfold B32; omega))
    rw [← Nat.pow_add, Nat.add_comm] at h2
    exact h2
  rcases Nat.eq_zero_or_pos c with h0 | h0
  · subst h0; simpa using hv
  · have : 1 * B32 ^ (q + (xs.length + 1)) ≤ c * B32 ^ (q + (xs.length + 1)) := Nat.mul_le_mul_right _ h0
    omega

/-- The first m digits of a number. -/
def digs (Z m : Nat) : List Nat := (List.range m).map fun i => Z / B32 ^ i % B32
theorem digs_succ (Z m : Nat) : digs Z (m + 1) = digs Z m ++ [Z / B32 ^ m % B32] := by
  unfold digs
  rw [List.range_succ, List.map_append, List.map_singleton]
theorem digs_length (Z m : Nat) : (digs Z m).length = m := by simp [digs]
theorem digs_dig (Z m : Nat) : Dig B32 (digs Z m) := by
  intro x hx
  simp only [digs, List.mem_map] at hx
  obtain ⟨i, _, rfl⟩ := hx
  exact Nat.mod_lt _ (by unfold B32; omega)
theorem digs_val (Z m : Nat) : val B32 (digs Z m) = Z % B32 ^ m := val_digits B32 Z m
/-- The limb that NatShift puts on its way down. -/
theorem shdown_limb {xs : List Nat} (hd : Dig B32 xs) {q p i : Nat} (hp : p < 32) :
    (xs.getD (q + i) 0 + B32 * xs.getD (q + i + 1) 0) / 2 ^ p % B32 = val B32 xs / 2 ^ (32 * q + p) / B32 ^ i % B32 := by
  have e1 := getD_val B32_two (q + i) hd
  have e2 := getD_val B32_two (q + i + 1) hd
  have e3 : val B32 xs / 2 ^ (32 * q + p) / B32 ^ i = val B32 xs / B32 ^ (q + i) / 2 ^ p := by
    rw [Nat.pow_add, ← B32_pow, Nat.div_div_eq_div_mul, Nat.div_div_eq_div_mul]
    congr 1
    rw [Nat.mul_assoc, Nat.mul_comm (2 ^ p), ← Nat.mul_assoc, ← Nat.pow_add]
  rw [e1, e2, e3, Nat.pow_succ, ← Nat.div_div_eq_div_mul]
  generalize val B32 xs / B32 ^ (q + i) = Y
  have e4 : Y % B32 + B32 * (Y / B32 % B32) = Y % (B32 * B32) := (Nat.mod_mul).symm
  rw [e4]
  have e5 : B32 = 2 ^ p * 2 ^ (32 - p) := by
    rw [← Nat.pow_add, show p + (32 - p) = 32 from by omega]; rfl
  have e6 : Y % (B32 * B32) / 2 ^ p = Y / 2 ^ p % (2 ^ (32 - p) * B32) := by
    have : B32 * B32 = 2 ^ p * (2 ^ (32 - p) * B32) := by rw [← Nat.mul_assoc, ← e5]
    rw [this, Nat.mod_mul_right_div_self]
  rw [e6, Nat.mul_comm (2 ^ (32 - p)), Nat.mod_mul_right_mod]
theorem shdown_all {xs : List Nat} (hd : Dig B32 xs) {q p : Nat} (hq : q ≤ xs.length) : val B32 (digs (val B32 xs / 2 ^ (32 * q + p)) (xs.length - q)) = val B32 xs / 2 ^ (32 * q + p) := by
  rw [digs_val]
  refine Nat.mod_eq_of_lt ?_
  have h1 := val_lt hd
  rw [Nat.div_lt_iff_lt_mul (Nat.pow_pos (by omega)), Nat.pow_add, ← B32_pow]
  have h2 : B32 ^ xs.length = B32 ^ (xs.length - q) * B32 ^ q := by rw [← Nat.pow_add]; congr 1; omega
  have h3 : B32 ^ (xs.length - q) * B32 ^ q * 1 ≤ B32 ^ (xs.length - q) * B32 ^ q * 2 ^ p := Nat.mul_le_mul_left _ (Nat.pow_pos (by omega))
  rw [← Nat.mul_assoc]
  omega
theorem shdown_none {xs : List Nat} (hd : Dig B32 xs) {q p : Nat} (hq : xs.length ≤ q) : val B32 xs / 2 ^ (32 * q + p) = 0 := by
  refine Nat.div_eq_of_lt ?_
  have h1 := val_lt hd
  have h2 : B32 ^ xs.length ≤ 2 ^ (32 * q + p) := by rw [B32_pow]; exact Nat.pow_le_pow_right (by omega) (by omega)
  omega
theorem or_hi {x y : Nat} (hx : x < B32) (hy : y < B32) : bits .or .u64 (x : Int) ((y : Int) * 4294967296) = ((x + B32 * y : Nat) : Int) := by
  have h1 := upL_val (o := x) (x := y) (p := 32) (by omega) hx
  have e : IntKind.u64.wrap ((y : Int) * 2 ^ 32) = (y : Int) * 4294967296 := by
    rw [IntKind.wrap_u64]; unfold B32 at hy; omega
  rw [e] at h1
  rw [h1]
  unfold upL
  rw [Nat.mod_eq_of_lt (show y < 2 ^ (64 - 32) from hy)]
  rfl
end Go.Proofs.YtcfpjgcellahnaaDoor

namespace Go.Proofs.YtcfpjgcellahnaaDoor
open Go.ChangeShapes Go.WideShapes Go.ChangeAt Go.RowKit

theorem wf_u8 {n : Int} (h : (Lit.int .u8 n).wf = true) : 0 ≤ n ∧ n ≤ 255 := by
  simp only [Lit.wf, Bool.and_eq_true, decide_eq_true_eq] at h
  exact h

set_option maxRecDepth 100000 in
theorem open_bytes {H : Type} {enc : TypeId × Value → H} {W : World} {base : Nat} {v : Value} {d : DataW H} {p : List MemPlace} (hval : Value.okWide Tryd.prog W .any base 35 v)
    (h : DataW.Trod enc Tryd.prog W 0 (fun _ => true) true 35 v d p) : ∃ l : List UInt8, SlB l v W := by
  obtain ⟨a1, len, cap, rfl⟩ := okWide_slice Tryd.underlying35 hval
  obtain ⟨fuel, hf⟩ := h
  rcases open_ints Tryd.underlying35 Tryd.underlying5 (by kernel_rfl) hf with ⟨hcs, _⟩ | ⟨a, len', cap', zs, hcs, _, hl, hm, hz, _, hcell, hwz⟩
  · simp [Value.cells] at hcs
    obtain ⟨rfl, rfl, rfl⟩ := hcs
    exact ⟨[], SlB.nil W⟩
  · simp [Value.cells] at hcs
    obtain ⟨rfl, rfl, rfl⟩ := hcs
    simp only [if_true] at hz
    have hlen : ((zs.take len).map fun n => UInt8.ofNat n.toNat).length = len := by simp; omega
    refine ⟨(zs.take len).map fun n => UInt8.ofNat n.toNat, some a, cap, by rw [hlen], by rw [hlen]; exact hl, ⟨by unfold maxLen at hm; omega, fun h => by cases h⟩, fun hne => ?_⟩
    have h0 : 0 < len := by
      rcases Nat.eq_zero_or_pos len with h | h
      · subst h; simp at hne
      · exact h
    obtain ⟨ab, ao, spot⟩ := a
    have hspot : spot = none := by simpa [Addr.add] using World.cell?_spot (hcell 0 (by omega))
    subst hspot
    refine ⟨ab, ao, rfl, ?_, fun i hi => ?_⟩
    · have h := hcell 0 (by omega)
      rw [Addr.add_lit] at h
      exact World.block_lt_of_cell? W _ h
    · rw [hlen] at hi
      have hcj := hcell i (by omega)
      rw [Addr.add_lit] at hcj
      rw [hcj]
      have e : zs.getD i 0 = zs[i]'(by omega) := by simp [List.getD, List.getElem?_eq_getElem (show i < zs.length by omega)]
      have hb := wf_u8 (hwz (zs[i]'(by omega)) (List.getElem_mem _))
      rw [e]
      simp only [List.getElem_map, List.getElem_take]
      congr 2
      simp only [UInt8.toNat_ofNat']
      omega
end Go.Proofs.YtcfpjgcellahnaaDoor

namespace Go.Proofs.YtcfpjgcellahnaaDoor
open Go.RowKit

set_option maxHeartbeats 1000000 in
theorem shiftDown_none (v : Value) (xs : List Nat) (n : Nat) (w : World) (hr : Rd w xs v) (hx : xs.length ≤ 8589934593) (hn : n ≤ 549755813888) (hq : xs.length ≤ n / 64) :
    Calls Tryd.prog 97 #[v, .int .i64 n] w fun e w' => e = .returned (.slice none 0 0) ∧ w = w' := by
  obtain ⟨A, c, rfl, hh⟩ := hr
  clear hh
  go_enter Tryd.func97, Tryd.ntmps97
  go_wp2
  go_ret
  exact ⟨rfl, rfl⟩

set_option maxHeartbeats 1000000 in
theorem shiftDown_core (g off c : Nat) (xs : List Nat) (n : Nat) (w : World) (hg : g < w.heap.size) (hcell : ∀ i, i < xs.length → w.cell? ⟨g, off + i, none⟩ = some (.int .u64 (xs.getD i 0 : Nat))) (hx : xs.length ≤ 8589934593) (hn : n ≤ 549755813888) (hd : Dig B64 xs) (hq : n / 64 < xs.length) :
    Calls Tryd.prog 97 #[.slice (some ⟨g, off, none⟩) xs.length c, .int .i64 n] w (RetS (Fresh w.heap.size (dn (n % 64) (xs.drop (n / 64)))) w) := by
  have HH := Lib.hid hcell
  clear hcell
  have hlen : (dn (n % 64) (xs.drop (n / 64))).length = xs.length - n / 64 := by rw [dn_length]; simp
  have HL := Lib.hid hlen
  clear hlen
  go_enter Tryd.func97, Tryd.ntmps97
  go_wp2_with (at_make; refine wpList_mk _ rfl (.tmp 21) (.tmp 21) 104 22 rfl (.int .u64 0) 8 Tryd.underlying104 info64 rfl .i64 .i64 _ _ (xs.length - n / 64) rfl rfl ?c1 ?c1' ?c2 ?c3 ?_)
  case c1 => omega
  case c1' => omega
  case c2 => omega
  case c3 => omega
  intro w1 hx1 hs1 hb1
  rw [rep_U] at hb1
  have HX := Lib.hid hx1
  have HB := Lib.hid hb1
  clear hx1 hb1
  go_wp2
  go_loopw [25] (fun i wr => ∃ (k : Nat), k ≤ xs.length - n / 64 ∧ i = .int .i64 k ∧ Hid (Blk wr w.heap.size 22 (U (filling (dn (n % 64) (xs.drop (n / 64))) k))) ∧ Hid (But w.heap.size w1 wr)) (fun i _ => xs.length - n / 64 - (intOf i).toNat)
  case atStart =>
    refine ⟨0, Nat.zero_le _, rfl, Lib.hid ?_, Lib.hid (But.refl _ _)⟩
    have h := HB.out
    rw [← HL.out] at h
    exact h
  case round =>
    obtain ⟨k, hk, rfl, hbk, hbut⟩ := hrel
    by_cases hkx : k < xs.length - n / 64
    · have hcx : ∀ j, j < xs.length → ∀ W, But w.heap.size w1 W → W.cell? ⟨g, off + j, none⟩ = some (.int .u64 (xs.getD j 0 : Nat)) := fun j hj W hW => by
        rw [← HX.out.keep (HH.out j hj)]
        exact World.cell?_of_block (hW.block g (by have := HX.out.size; omega) (fun e => by injection e with e; omega))
      have hc1 := hcx (k + n / 64) (by omega) wr hbut.out
      have hc2 : k + n / 64 + 1 < xs.length → wr.cell? ⟨g, off + (k + n / 64 + 1), none⟩ = some (.int .u64 (xs.getD (k + n / 64 + 1) 0 : Nat)) := fun h => hcx (k + n / 64 + 1) h wr hbut.out
      have hfl := filling_length (dn (n % 64) (xs.drop (n / 64))) k (by rw [HL.out]; omega)
      have hd1 : wr.cell? ⟨w.heap.size, k, none⟩ = some (.int .u64 ((filling (dn (n % 64) (xs.drop (n / 64))) k).getD k 0 : Nat)) := by rw [hbk.out.cell, getD_U _ _ (by rw [hfl, HL.out]; exact hkx)]
      have hf1 : wr.frozen? ⟨w.heap.size, k, none⟩ = false := hbk.out.frozen _
      have hxd : xs.getD (k + n / 64) 0 < B64 := hd.getD (by unfold B64; omega) _
      have hne : g ≠ w.heap.size := by omega
      have hE : (dn (n % 64) (xs.drop (n / 64)))[k]'(by rw [HL.out]; exact hkx) = dnW (xs.getD (k + n / 64) 0) (xs.getD (k + n / 64 + 1) 0) (n % 64) := by
        rw [dn_get, getD_drop, getD_drop]
        congr 2 <;> omega
      have HE := Lib.hid hE
      clear hcx hfl hE
      generalize (filling (dn (n % 64) (xs.drop (n / 64))) k).getD k 0 = o at *
      by_cases hk2 : k + n / 64 + 1 < xs.length
      · have hc2' := hc2
        have hc2 := hc2' hk2
        generalize xs.getD (k + n / 64) 0 = x at *
        generalize xs.getD (k + n / 64 + 1) 0 = x2 at *
        clear hc2'
        go_wp2
        have hb2 := hbk.out.set k (.int .u64 ((x / 2 ^ (n % 64) : Nat) : Int))
        have hbut2 := hbut.out.set k (.int .u64 ((x / 2 ^ (n % 64) : Nat) : Int))
        have hc2w : (wr.setCell ⟨w.heap.size, k, none⟩ (.int .u64 ((x / 2 ^ (n % 64) : Nat) : Int))).cell? ⟨g, off + (k + n / 64 + 1), none⟩ = some (.int .u64 x2) :=
          (World.cell?_setCell_other wr _ _ _ (fun e => by injection e with e; exact hne e.symm)).trans hc2
        have ev : (x : Int) / 2 ^ (n % 64) = ((x / 2 ^ (n % 64) : Nat) : Int) := by push_cast; rfl
        rw [ev]
        generalize wr.setCell ⟨w.heap.size, k, none⟩ (.int .u64 ((x / 2 ^ (n % 64) : Nat) : Int)) = W2 at *
        have hx2 : W2.cell? ⟨w.heap.size, k, none⟩ = some (.int .u64 ((x / 2 ^ (n % 64) : Nat) : Int)) := by
          rw [hb2.cell, List.getElem?_set_self]
          rw [U_length, filling_length _ _ (by rw [HL.out]; omega), HL.out]; exact hkx
        have hf2 : W2.frozen? ⟨w.heap.size, k, none⟩ = false := hb2.frozen _
        have HB2 := Lib.hid hb2
        have HBUT2 := Lib.hid hbut2
        generalize hxq : x / 2 ^ (n % 64) = xq at *
        have HXQ := Lib.hid hxq
        clear hb2 hbut2 hbk hbut hc1 hc2 hd1 hf1 hxq ev
        have hval := dnW_or (y := x) (y' := x2) (p := n % 64) (by omega) hxd
        rw [HXQ.out] at hval
        have HVAL := Lib.hid hval
        clear hval
        go_region
        rw [HVAL.out]
        go_wp2
        go_roundw
        case rel =>
          refine ⟨k + 1, by omega, by go_num, ?_, Lib.hid ((HBUT2.out.set k _).trans (But.of_ext (Ext.refl _).drew))⟩
          have h := HB2.out.set k (.int .u64 (dnW x x2 (n % 64) : Nat))
          rw [List.set_set, U_set, ← HE.out, filling_set _ _ (by rw [HL.out]; exact hkx), HE.out] at h
          exact Lib.hid h
        case measure => simp [intOf]; omega
      · have hx20 : xs.getD (k + n / 64 + 1) 0 = 0 := getD_ge _ _ (by omega)
        rw [hx20] at HE
        generalize xs.getD (k + n / 64) 0 = x at *
        have ev : (x : Int) / 2 ^ (n % 64) = ((dnW x 0 (n % 64) : Nat) : Int) := by unfold dnW; rw [Nat.zero_mod, Nat.mul_zero, Nat.add_zero]; push_cast; rfl
        have EV := Lib.hid ev
        clear hc2 hx20 ev
        go_wp2
        rw [EV.out]
        go_roundw
        case rel =>
          refine ⟨k + 1, by omega, by go_num, ?_, Lib.hid (hbut.out.set k _)⟩
          have h := hbk.out.set k (.int .u64 (dnW x 0 (n % 64) : Nat))
          rw [U_set, ← HE.out, filling_set _ _ (by rw [HL.out]; exact hkx), HE.out] at h
          exact Lib.hid h
        case measure => simp [intOf]; omega
    · obtain rfl : k = xs.length - n / 64 := by omega
      go_wp2
      go_ret
      refine ⟨_, rfl, .inr ⟨w.heap.size, Nat.le_refl _, ?_, ?_⟩, hbut.out.ext HX.out (Nat.le_refl _)⟩
      · rw [HL.out]; rfl
      · have h := hbk.out
        have e := filling_all (dn (n % 64) (xs.drop (n / 64)))
        rw [HL.out] at e
        rw [e] at h
        exact h

/-- shiftDown at any list. -/
theorem shiftDown_any (v : Value) (xs : List Nat) (n : Nat) (w : World) (hr : Rd w xs v) (hx : xs.length ≤ 8589934593) (hn : n ≤ 549755813888) (hd : Dig B64 xs) :
    Calls Tryd.prog 97 #[v, .int .i64 n] w (RetS (fun v' w' => ∃ ys, ys.length ≤ xs.length ∧ Dig B64 ys ∧ val B64 ys = val B64 xs / 2 ^ n ∧ Fresh w.heap.size ys v' w') w) := by
  by_cases hq : n / 64 < xs.length
  · obtain ⟨A, c, rfl, hh⟩ := hr
    obtain ⟨g, off, rfl, hg, hc⟩ := hh (fun e => by rw [e] at hq; simp at hq)
    refine (shiftDown_core g off c xs n w hg hc hx hn hd hq).mono ?_
    rintro e w' ⟨v', rfl, hf, he⟩
    exact ⟨v', rfl, ⟨_, by rw [dn_length]; simp, dn_dig (by omega) (hd.drop _), dn_all hd n (by omega), hf⟩, he⟩
  · refine (shiftDown_none v xs n w hr hx hn (by omega)).mono ?_
    rintro e w' ⟨rfl, rfl⟩
    refine ⟨_, rfl, ⟨[], by simp, Dig.nil _, ?_, .inl ⟨rfl, rfl⟩⟩, Ext.refl _⟩
    have h1 := val_lt hd
    have h2 : B64 ^ xs.length ≤ 2 ^ n := by rw [B64_pow]; exact Nat.pow_le_pow_right (by omega) (by omega)
    rw [Nat.div_eq_of_lt (by omega)]; rfl
end Go.Proofs.YtcfpjgcellahnaaDoor
