/- The document's numbers: slices of 32-bit limbs. -/
import Derived.Test.YtcfpjgcellahnaaDoorBytes
import Derived.Test.YtcfpjgcellahnaaDoorW10
namespace Go.Proofs.YtcfpjgcellahnaaDoor

def B32 : Nat := 4294967296
theorem B32_two : 2 ≤ B32 := by unfold B32; omega
theorem B32_pow (k : Nat) : B32 ^ k = 2 ^ (32 * k) := by
  have : B32 = 2 ^ 32 := rfl
  rw [this, ← Nat.pow_mul]
theorem B32_256 : B32 = 256 ^ 4 := rfl
/-- Cells of limbs. -/
def V32 (xs : List Nat) : List Value := xs.map fun x => .int .u32 (x : Nat)
theorem V32_length (xs : List Nat) : (V32 xs).length = xs.length := by simp [V32]
theorem V32_set (xs : List Nat) (i x : Nat) : (V32 xs).set i (.int .u32 (x : Nat)) = V32 (xs.set i x) := by simp [V32, List.map_set]
theorem V32_rep (n : Nat) : List.replicate n (Value.int .u32 0) = V32 (List.replicate n 0) := by simp [V32]
theorem getD_V32 (xs : List Nat) (i : Nat) (h : i < xs.length) : (V32 xs)[i]? = some (.int .u32 (xs.getD i 0 : Nat)) := by
  unfold V32
  rw [List.getElem?_map, List.getElem?_eq_getElem h, getD_lt xs i h]
  rfl
/-- A slice that reads as these limbs. -/
def Sl32 (xs : List Nat) (v : Value) (w : World) : Prop :=
  ∃ A c, v = .slice A xs.length c ∧ xs.length ≤ c ∧ (xs ≠ [] → ∃ g off, A = some ⟨g, off, none⟩ ∧ g < w.heap.size ∧ ∀ i, i < xs.length → w.cell? ⟨g, off + i, none⟩ = some (.int .u32 (xs.getD i 0 : Nat)))
theorem Sl32.ext {w w' : World} {xs : List Nat} {v : Value} (h : Sl32 xs v w) (e : Ext w w') : Sl32 xs v w' := by
  obtain ⟨A, c, rfl, hc, hh⟩ := h
  refine ⟨A, c, rfl, hc, fun hne => ?_⟩
  obtain ⟨g, off, rfl, hg, hc⟩ := hh hne
  exact ⟨g, off, rfl, Nat.lt_of_lt_of_le hg e.size, fun i hi => e.keep (hc i hi)⟩
theorem Sl32.of_blk {w : World} {g : Nat} {xs : List Nat} (h : Blk w g 107 (V32 xs)) : Sl32 xs (.slice (some ⟨g, 0, none⟩) xs.length xs.length) w :=
  ⟨_, _, rfl, Nat.le_refl _, fun _ => ⟨g, 0, rfl, h.lt, fun i hi => by rw [Nat.zero_add, h.cell i, getD_V32 _ _ hi]⟩⟩
theorem Sl32.nil (w : World) : Sl32 [] (.slice none 0 0) w := ⟨none, 0, rfl, by simp, fun h => absurd rfl h⟩
/-- A number of the document's. -/
def R32 (m : Nat) (v : Value) (w : World) : Prop := Sl32 (limbs B32 m) v w
theorem R32.ext {w w' : World} {m : Nat} {v : Value} (h : R32 m v w) (e : Ext w w') : R32 m v w' := Sl32.ext h e
theorem R32.nil (w : World) : R32 0 (.slice none 0 0) w := by unfold R32; rw [limbs_zero]; exact Sl32.nil w

theorem limbs_take {b : Nat} (hb : 2 ≤ b) {xs : List Nat} (hd : Dig b xs) : limbs b (val b xs) = xs.take (limbs b (val b xs)).length := by
  have hmx := limbs_length_le hb hd
  generalize hm : (limbs b (val b xs)).length = m at *
  have hdt := hd.take m
  have hv : val b xs = val b (xs.take m) + b ^ m * val b (xs.drop m) := val_split b xs m hmx
  have hlt : val b xs < b ^ m := (limbs_length_le_iff hb _ _).1 (by omega)
  have h0 : val b (xs.drop m) = 0 := by
    rcases Nat.eq_zero_or_pos (val b (xs.drop m)) with h | h
    · exact h
    · have : b ^ m * 1 ≤ b ^ m * val b (xs.drop m) := Nat.mul_le_mul_left _ h
      omega
  rw [h0, Nat.mul_zero, Nat.add_zero] at hv
  refine val_inj (limbs_dig hb _) hdt ?_ ?_
  · rw [hm, List.length_take, Nat.min_eq_left hmx]
  · rw [val_limbs hb, hv]
theorem limbs_getD_of {b : Nat} (hb : 2 ≤ b) {xs : List Nat} (hd : Dig b xs) {i : Nat} (hi : i < (limbs b (val b xs)).length) : (limbs b (val b xs)).getD i 0 = xs.getD i 0 := by
  have e := limbs_take hb hd
  generalize (limbs b (val b xs)).length = m at *
  rw [e]
  simp only [List.getD_eq_getElem?_getD]
  rw [List.getElem?_take_of_lt hi]
theorem limbs32_len (m k : Nat) (h : bl m ≤ 32 * k) : (limbs B32 m).length ≤ k := by
  rw [limbs_length_le_iff B32_two, B32_pow]
  exact (bl_le_iff m _).1 h
theorem bl_half {x : Nat} (h : x ≠ 0) : bl x = bl (x / 2) + 1 := by
  unfold bl
  rw [limbs_pos (by omega) h]; simp
theorem bl_top32 (m : Nat) (h : m ≠ 0) : bl m = 32 * ((limbs B32 m).length - 1) + bl ((limbs B32 m).getD ((limbs B32 m).length - 1) 0) := by
  have hl := limbs_length_pos B32_two h
  have hd := limbs_dig B32_two m
  have ht := limbs_top B32_two m
  have hv := val_limbs B32_two m
  generalize limbs B32 m = xs at *
  have h1 := val_take_getD B32 xs (xs.length - 1)
  rw [show xs.length - 1 + 1 = xs.length from by omega, List.take_length, hv] at h1
  have h2 := val_lt (hd.take (xs.length - 1))
  rw [List.length_take, Nat.min_eq_left (by omega)] at h2
  rw [B32_pow] at h1 h2
  have h3 : xs.getD (xs.length - 1) 0 ≠ 0 := by
    rw [getD_lt _ _ (by omega)]
    intro e
    apply ht
    rw [List.getLast?_eq_getElem?, List.getElem?_eq_getElem (by omega), e]
  have h4 := bl_shift h2 h3
  rw [← h1] at h4
  exact h4
end Go.Proofs.YtcfpjgcellahnaaDoor
