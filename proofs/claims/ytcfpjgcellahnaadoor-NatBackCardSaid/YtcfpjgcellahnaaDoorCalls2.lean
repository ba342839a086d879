/- More calls that the laws make: quotients, roots, shifts. -/
import Derived.Test.YtcfpjgcellahnaaDoorCalls
import Derived.Test.YtcfpjgcellahnaaDoorW24
namespace Go.Proofs.YtcfpjgcellahnaaDoor
open Go.RowKit

theorem exists_root (a : Nat) : ∃ r, IsRoot a r := by
  induction a with
  | zero => exact ⟨0, by unfold IsRoot; omega⟩
  | succ a ih =>
    obtain ⟨r, h1, h2⟩ := ih
    rcases Nat.lt_or_ge (a + 1) ((r + 1) * (r + 1)) with h | h
    · exact ⟨r, by omega, h⟩
    · refine ⟨r + 1, h, ?_⟩
      have e : (r + 1 + 1) * (r + 1 + 1) = (r + 1) * (r + 1) + 2 * (r + 1) + 1 := by grind
      omega
/-- The root, rounded down. -/
noncomputable def rt (a : Nat) : Nat := Classical.choose (exists_root a)
theorem rt_is (a : Nat) : IsRoot a (rt a) := Classical.choose_spec (exists_root a)
theorem rt_le (a : Nat) : rt a ≤ a := by
  have h := (rt_is a).1
  rcases Nat.eq_zero_or_pos (rt a) with h0 | h0
  · omega
  · exact Nat.le_trans (Nat.le_mul_of_pos_left _ h0) h
theorem rt_sq (x : Nat) : rt (x * x) = x := by
  refine IsRoot.unique (rt_is (x * x)) ⟨Nat.le_refl _, ?_⟩
  exact Nat.mul_lt_mul_of_lt_of_lt (Nat.lt_succ_self _) (Nat.lt_succ_self _)

theorem Sm.rt {k a : Nat} (ha : Sm k a) : Sm k (rt a) := ha.mono (rt_le a)
theorem Sm.shl {k a : Nat} (ha : Sm k a) (z : Nat) : Sm (k + (z + 1)) (a * 2 ^ z) := ha.mul (show Sm (z + 1) (2 ^ z) from bl_le (Nat.pow_lt_pow_right (by omega) (by omega)))
theorem Sm.of64 {n : Nat} (h : n < B64) : Sm 64 n := bl_le h

theorem cdiv {j k a b : Nat} (ha : Sm j a) (hb : Sm k b) (h0 : b ≠ 0) (W : World) (h : max j k ≤ 549755813888 := by decide) :
    Calls Tryd.prog 26 #[.agg #[.int .u64 (lo (a) : Nat), .string (hi (a))], .agg #[.int .u64 (lo (b) : Nat), .string (hi (b))]] W (Ret (.tuple #[.agg #[.int .u64 (lo (a / b) : Nat), .string (hi (a / b))], .agg #[.int .u64 (lo (a % b) : Nat), .string (hi (a % b))], .bool true]) W) := div_any a b (by unfold Sm at ha; omega) (by unfold Sm at hb; omega) h0 W
theorem cdiv_eq {j k a b q r : Nat} (ha : Sm j a) (hb : Sm k b) (h0 : b ≠ 0) (hq : a / b = q) (hr : a % b = r) (W : World) (h : max j k ≤ 549755813888 := by decide) :
    Calls Tryd.prog 26 #[.agg #[.int .u64 (lo (a) : Nat), .string (hi (a))], .agg #[.int .u64 (lo (b) : Nat), .string (hi (b))]] W (Ret (.tuple #[.agg #[.int .u64 (lo (q) : Nat), .string (hi (q))], .agg #[.int .u64 (lo (r) : Nat), .string (hi (r))], .bool true]) W) := by
  subst hq; subst hr
  exact cdiv ha hb h0 W h
theorem croot {k a : Nat} (ha : Sm k a) (W : World) (h : k ≤ 274877906944 := by decide) :
    Calls Tryd.prog 38 #[.agg #[.int .u64 (lo (a) : Nat), .string (hi (a))]] W (Ret (.agg #[.int .u64 (lo (rt a) : Nat), .string (hi (rt a))]) W) := by
  by_cases h0 : a = 0
  · subst h0
    have : Go.Proofs.YtcfpjgcellahnaaDoor.rt 0 = 0 := by have := rt_le 0; omega
    rw [this]
    exact root_zero W
  · have hk : bl a ≤ k := ha
    refine (root_pos a h0 (by omega) (fun x h1 h2 W => div_any a x (by omega) ?_ (by omega) W) W).mono ?_
    · have := bl_le (n := x) (k := bl a + 1) (Nat.lt_of_le_of_lt h2 (Nat.pow_lt_pow_right (by omega) (by omega)))
      omega
    · rintro e w' ⟨v, rfl, ⟨r, rfl, hr⟩, hx⟩
      rw [IsRoot.unique hr (rt_is a)]
      exact ⟨rfl, hx⟩
theorem cshl {k a : Nat} (ha : Sm k a) (z : Nat) (W : World) (h : k ≤ 549755813888 := by decide) (hz : z ≤ 65536 := by decide) :
    Calls Tryd.prog 39 #[.agg #[.int .u64 (lo (a) : Nat), .string (hi (a))], .int .i64 z] W (Ret (.agg #[.int .u64 (lo (a * 2 ^ z) : Nat), .string (hi (a * 2 ^ z))]) W) := shift_up a z (by unfold Sm at ha; omega) hz W
theorem cshr {k a : Nat} (ha : Sm k a) (z : Nat) (W : World) (h : k ≤ 549755813888 := by decide) (hz : z ≤ 65536 := by decide) (h1 : 1 ≤ z := by decide) :
    Calls Tryd.prog 39 #[.agg #[.int .u64 (lo (a) : Nat), .string (hi (a))], .int .i64 (-(z : Int))] W (Ret (.agg #[.int .u64 (lo (a / 2 ^ z) : Nat), .string (hi (a / 2 ^ z))]) W) := shift_down a z (by unfold Sm at ha; omega) h1 hz W
theorem cof (n : Nat) (h : n < B64) (W : World) : Calls Tryd.prog 18 #[.int .u64 n] W (Ret (.agg #[.int .u64 (lo (n) : Nat), .string (hi (n))]) W) := natOf_any n h W
end Go.Proofs.YtcfpjgcellahnaaDoor
