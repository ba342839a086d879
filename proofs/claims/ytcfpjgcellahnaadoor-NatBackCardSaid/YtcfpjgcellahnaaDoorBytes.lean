/- Bytes, the highest first: plain mathematics. -/
import Derived.Test.YtcfpjgcellahnaaDoorBits
import Derived.Test.YtcfpjgcellahnaaDoorMem
import Derived.Test.YtcfpjgcellahnaaDoorLaws
namespace Go.Proofs.YtcfpjgcellahnaaDoor

theorem limbs_getD {b : Nat} (hb : 2 ≤ b) : ∀ (i n : Nat), (limbs b n).getD i 0 = n / b ^ i % b := by
  intro i
  induction i with
  | zero =>
    intro n
    by_cases h : n = 0
    · subst h; rw [limbs_zero]; simp
    · rw [limbs_pos hb h]; simp
  | succ i ih =>
    intro n
    by_cases h : n = 0
    · subst h; rw [limbs_zero]; simp
    · rw [limbs_pos hb h, List.getD_cons_succ, ih, Nat.pow_succ, Nat.mul_comm, Nat.div_div_eq_div_mul]
theorem byte_limb {s : Nat} (hs : 0 < s) (n i : Nat) : (n / (256 ^ s) ^ (i / s) % 256 ^ s) / 256 ^ (i % s) % 256 = n / 256 ^ i % 256 := by
  have hr := Nat.mod_lt i hs
  have e : i = s * (i / s) + i % s := (Nat.div_add_mod i s).symm
  generalize i % s = r at *
  generalize i / s = j at *
  subst e
  rw [← Nat.pow_mul, Nat.pow_add, ← Nat.div_div_eq_div_mul]
  generalize n / 256 ^ (s * j) = m
  have e2 : 256 ^ s = 256 ^ r * 256 ^ (s - r) := by rw [← Nat.pow_add]; congr 1; omega
  rw [e2, Nat.mod_mul_right_div_self, Nat.mod_mod_of_dvd]
  exact Nat.dvd_trans (by simp) (Nat.pow_dvd_pow 256 (show 1 ≤ s - r by omega))

/-- How many bytes. -/
def nb (n : Nat) : Nat := (bl n + 7) / 8
/-- The bytes of a number, the highest first. -/
def beB (n : Nat) : List UInt8 := (List.range (nb n)).map fun p => UInt8.ofNat (n / 256 ^ (nb n - 1 - p))
theorem beB_length (n : Nat) : (beB n).length = nb n := by simp [beB]
/-- The last k of the list; noughts ahead. -/
def bfill (l : List UInt8) (k : Nat) : List UInt8 := List.replicate (l.length - k) 0 ++ l.drop (l.length - k)
theorem bfill_length (l : List UInt8) (k : Nat) : (bfill l k).length = l.length := by simp only [bfill, List.length_append, List.length_replicate, List.length_drop]; omega
theorem bfill_zero (l : List UInt8) : bfill l 0 = List.replicate l.length 0 := by simp [bfill]
theorem bfill_all (l : List UInt8) : bfill l l.length = l := by simp [bfill]
theorem bfill_step (l : List UInt8) (k : Nat) (h : k < l.length) : (bfill l k).set (l.length - 1 - k) (l[l.length - 1 - k]'(by omega)) = bfill l (k + 1) := by
  apply List.ext_getElem?
  intro i
  have h1 : (bfill l k).length = l.length := bfill_length l k
  by_cases hi : i < l.length
  · rw [List.getElem?_set]
    unfold bfill
    by_cases he : l.length - 1 - k = i
    · subst he
      simp only [if_true]
      rw [if_pos (by simp; omega), List.getElem?_append_right (by simp; omega)]
      simp only [List.length_replicate, List.getElem?_drop]
      rw [List.getElem?_eq_getElem (by omega)]
      congr 2; omega
    · rw [if_neg he]
      by_cases hl : i < l.length - (k + 1)
      · rw [List.getElem?_append_left (by simp; omega), List.getElem?_append_left (by simp; omega)]
        rw [List.getElem?_replicate, List.getElem?_replicate, if_pos (by omega), if_pos (by omega)]
      · rw [List.getElem?_append_right (by simp; omega), List.getElem?_append_right (by simp; omega)]
        simp only [List.length_replicate, List.getElem?_drop]
        congr 1; omega
  · rw [List.getElem?_eq_none (by rw [List.length_set, h1]; omega), List.getElem?_eq_none (by rw [bfill_length]; omega)]
theorem beB_get (n k : Nat) (h : k < nb n) : (beB n)[nb n - 1 - k]'(by rw [beB_length]; omega) = UInt8.ofNat (n / 256 ^ k) := by
  simp only [beB, List.getElem_map, List.getElem_range]
  congr 3; omega
theorem byteCells_set (l : List UInt8) (i : Nat) (b : UInt8) : Lib.byteCells (l.set i b) = (Lib.byteCells l).set i (.int .u8 b.toNat) := by
  simp [Lib.byteCells, List.map_set]
theorem byteCells_rep (n : Nat) : Lib.byteCells (List.replicate n 0) = List.replicate n (.int .u8 0) := by simp [Lib.byteCells]
/-- One more byte. -/
theorem bfill_beB (n k : Nat) (h : k < nb n) (z : Int) (hz : z = ((n / 256 ^ k % 256 : Nat) : Int)) :
    (Lib.byteCells (bfill (beB n) k)).set (nb n - 1 - k) (.int .u8 z) = Lib.byteCells (bfill (beB n) (k + 1)) := by
  have h' := bfill_step (beB n) k (by rw [beB_length]; exact h)
  rw [← h', byteCells_set]
  have e : (beB n)[(beB n).length - 1 - k]'(by rw [beB_length]; omega) = UInt8.ofNat (n / 256 ^ k) := by
    rw [← beB_get n k h]; congr 1; rw [beB_length]
  rw [e, beB_length, hz]
  congr 2
theorem bfill_cell (n k : Nat) (h : k < nb n) : (Lib.byteCells (bfill (beB n) k))[nb n - 1 - k]? = some (.int .u8 0) := by
  unfold Lib.byteCells bfill
  rw [List.map_append, List.getElem?_append_left (by rw [List.length_map, List.length_replicate, beB_length]; omega), List.getElem?_map, List.getElem?_replicate, beB_length, if_pos (by omega)]
  rfl
theorem byte_shift (x r : Nat) : ((x / 256 ^ r % 256 : Nat) : Int) = (x : Int) / 2 ^ (8 * r) % 256 := by
  have e : ((256 ^ r : Nat) : Int) = (2 : Int) ^ (8 * r) := by rw [Int.pow_mul]; exact Int.natCast_pow 256 r
  rw [Int.natCast_emod, Int.natCast_ediv, e]
  rfl
theorem nb_words {s : Nat} (hs : 0 < s) (n i : Nat) (h : i < nb n) : i / s < (limbs (256 ^ s) n).length := by
  have h1 : ¬ (limbs (256 ^ s) n).length ≤ i / s := by
    rw [limbs_length_le_iff (Nat.le_trans (by omega : 2 ≤ 256 ^ 1) (Nat.pow_le_pow_right (by omega) hs))]
    rw [← Nat.pow_mul]
    intro hlt
    have h2 : s * (i / s) ≤ i := Nat.mul_div_le i s
    have h3 : n < 256 ^ i := Nat.lt_of_lt_of_le hlt (Nat.pow_le_pow_right (by omega) h2)
    have h4 : (256 : Nat) ^ i = 2 ^ (8 * i) := by rw [Nat.pow_mul]
    rw [h4] at h3
    have := bl_le h3
    unfold nb at h; omega
  omega

/-- A slice of bytes alone in new memory. -/
def BytesAt (base : Nat) (l : List UInt8) (v : Value) (w : World) : Prop := ∃ g, base ≤ g ∧ v = .slice (some ⟨g, 0, none⟩) l.length l.length ∧ Blk w g 5 (Lib.byteCells l)
theorem BytesAt.ext {base : Nat} {l : List UInt8} {v : Value} {w w' : World} (h : BytesAt base l v w) (e : Ext w w') : BytesAt base l v w' := by
  obtain ⟨g, h1, h2, h3⟩ := h
  exact ⟨g, h1, h2, h3.ext e⟩
end Go.Proofs.YtcfpjgcellahnaaDoor
