/- The ends of the long division: plain mathematics. -/
import Derived.Test.YtiloialbglfplaaGreatDoorB3
namespace Go.Proofs.YtiloialbglfplaaGreatDoor

theorem top_le {ys : List Nat} {n : Nat} (hn : ys.length = n + 1) : B64 ^ n * ys.getD n 0 ≤ val B64 ys := by
  have h := val_take_getD B64 ys n
  rw [List.take_of_length_le (by omega)] at h
  omega
theorem norm_take {ys zs : List Nat} {s n : Nat} (hn : ys.length = n + 1) (hdy : Dig B64 ys) (hl : zs.length = n + 2) (hdz : Dig B64 zs) (hv : val B64 zs = val B64 ys * 2 ^ s) (hs : s + bl (ys.getD n 0) = 64) (ht : ys.getD n 0 ≠ 0) :
    val B64 (zs.take (n + 1)) = val B64 ys * 2 ^ s ∧ (zs.take (n + 1)).getD n 0 ≠ 0 ∧ val B64 ys * 2 ^ s < B64 ^ (n + 1) ∧ 0 < val B64 ys * 2 ^ s := by
  have hP : 0 < B64 ^ n := Nat.pow_pos (by unfold B64; omega)
  have h0 := val_take_getD B64 ys n
  rw [List.take_of_length_le (by omega)] at h0
  have h1 := val_lt (hdy.take n)
  rw [List.length_take, Nat.min_eq_left (by omega)] at h1
  have h2 := lt_bl (ys.getD n 0)
  have htop := top_le hn
  generalize ys.getD n 0 = t at *
  have h3 : val B64 ys < B64 ^ n * 2 ^ bl t := by
    have : B64 ^ n * (t + 1) ≤ B64 ^ n * 2 ^ bl t := Nat.mul_le_mul_left _ h2
    rw [Nat.mul_add, Nat.mul_one] at this
    omega
  have h4 : val B64 ys * 2 ^ s < B64 ^ (n + 1) := by
    have hs2 : 0 < 2 ^ s := Nat.pow_pos (by omega)
    have := Nat.mul_lt_mul_of_pos_right h3 hs2
    rw [Nat.mul_assoc, ← Nat.pow_add, show bl t + s = 64 from by omega] at this
    exact this
  have h5 : B64 ^ n ≤ val B64 ys * 2 ^ s := by
    have a1 : B64 ^ n * 1 ≤ B64 ^ n * t := Nat.mul_le_mul_left _ (by omega)
    have a2 : val B64 ys * 1 ≤ val B64 ys * 2 ^ s := Nat.mul_le_mul_left _ (Nat.pow_pos (by omega))
    omega
  have h6 := val_take_getD B64 zs (n + 1)
  rw [List.take_of_length_le (by omega), hv] at h6
  have h7 : zs.getD (n + 1) 0 = 0 := by
    rcases Nat.eq_zero_or_pos (zs.getD (n + 1) 0) with h | h
    · exact h
    · have : B64 ^ (n + 1) * 1 ≤ B64 ^ (n + 1) * zs.getD (n + 1) 0 := Nat.mul_le_mul_left _ h
      omega
  rw [h7, Nat.mul_zero, Nat.add_zero] at h6
  refine ⟨h6.symm, fun h8 => ?_, h4, by omega⟩
  have h9 := val_take_getD B64 (zs.take (n + 1)) n
  rw [List.take_take, Nat.min_eq_left (by omega), List.take_take, Nat.min_eq_left (by omega), h8, Nat.mul_zero, Nat.add_zero, ← h6] at h9
  have h10 := val_lt (hdz.take n)
  rw [List.length_take, Nat.min_eq_left (by omega)] at h10
  omega
theorem dv_start {xs ys : List Nat} {s m n : Nat} (hn : ys.length = n + 1) (hx : xs.length = m + n) (hdx : Dig B64 xs) (ht : ys.getD n 0 ≠ 0) : val B64 xs * 2 ^ s < val B64 ys * 2 ^ s * B64 ^ m := by
  have h1 := val_lt hdx
  rw [hx, Nat.pow_add] at h1
  have h2 := top_le hn
  have h3 : B64 ^ n * 1 ≤ B64 ^ n * ys.getD n 0 := Nat.mul_le_mul_left _ (by omega)
  have h4 : B64 ^ m * B64 ^ n ≤ val B64 ys * B64 ^ m := by
    rw [Nat.mul_comm (B64 ^ m)]
    exact Nat.mul_le_mul_right _ (by omega)
  have h5 : val B64 xs < val B64 ys * B64 ^ m := by omega
  have hs2 : 0 < 2 ^ s := Nat.pow_pos (by omega)
  have h6 := Nat.mul_lt_mul_of_pos_right h5 hs2
  rw [Nat.mul_assoc, Nat.mul_comm (B64 ^ m), ← Nat.mul_assoc] at h6
  exact h6
theorem dv_quot (X Y s : Nat) : X * 2 ^ s / (Y * 2 ^ s) = X / Y := Nat.mul_div_mul_right X Y (Nat.pow_pos (by omega))
theorem dv_rem (X Y s : Nat) : X * 2 ^ s % (Y * 2 ^ s) / 2 ^ s = X % Y := by
  rw [Nat.mul_mod_mul_right, Nat.mul_div_cancel _ (Nat.pow_pos (by omega))]
theorem val_take_low {L : List Nat} {n : Nat} (hn : n ≤ L.length) (h : val B64 L < B64 ^ n) : val B64 (L.take n) = val B64 L := by
  have h1 := val_split B64 L n hn
  rcases Nat.eq_zero_or_pos (val B64 (L.drop n)) with h2 | h2
  · rw [h2, Nat.mul_zero, Nat.add_zero] at h1; exact h1.symm
  · have : B64 ^ n * 1 ≤ B64 ^ n * val B64 (L.drop n) := Nat.mul_le_mul_left _ h2
    omega
theorem DvOut.pos {N V m n j g : Nat} {L L' Q : List Nat} (h : DvOut N V m n (j + 1) L Q) (hV : V < B64 ^ n) (hm : MsOut L V j n g 1 L') : 1 ≤ g := by
  have he := hm.vl
  have hL' : val B64 L' < B64 ^ (j + n + 1) := high_zero hm.dig (fun t ht => by rw [hm.rest t ht]; exact h.top hV ht)
  rcases Nat.eq_zero_or_pos g with h0 | h0
  · subst h0
    rw [Nat.zero_mul, Nat.zero_mul, Nat.one_mul, Nat.add_zero] at he
    omega
  · exact h0
end Go.Proofs.YtiloialbglfplaaGreatDoor
