/- Walks: known of law1. -/
import Derived.Test.YtcfpjgcellahnaaDoorW15
namespace Go.Proofs.YtcfpjgcellahnaaDoor
open Go.RowKit

theorem small_val {n : Nat} (h : n < B64) : (.agg #[.int .u64 (lo (n) : Nat), .string (hi (n))] : Value) = .agg #[.int .u64 (n : Nat), .string ⟨#[]⟩] := by rw [lo_small h, hi_small h]

theorem bl_17 : bl 17 = 5 := by
  have h1 : bl 17 ≤ 5 := bl_le (by omega)
  have h2 : 4 < bl 17 := le_bl (by omega)
  omega

theorem root_17 (w : World) : Calls Tryd.prog 38 #[.agg #[.int .u64 (lo (17) : Nat), .string (hi (17))]] w (Ret (.agg #[.int .u64 (lo (4) : Nat), .string (hi (4))]) w) := by
  refine (root_pos 17 (by omega) (by rw [bl_17]; omega) (fun x h1 h2 W => ?_) w).mono ?_
  · rw [bl_17] at h2
    exact div_small 17 x (by unfold B64; omega) (by unfold B64; omega) (by omega) W
  · rintro e w' ⟨v, rfl, ⟨r, rfl, hr⟩, hx⟩
    rw [hr.unique (s := 4) (by unfold IsRoot; omega)]
    exact ⟨rfl, hx⟩

set_option maxHeartbeats 2000000 in
theorem known_any (w : World) : Calls Tryd.prog 21 #[] w (Ret (.bool true) w) := by
  have hB : (20 : Nat) < B64 := by unfold B64; omega
  have v0 := small_val (n := 0) (by omega)
  have v1 := small_val (n := 1) (by omega)
  have v2 := small_val (n := 2) (by omega)
  have v3 := small_val (n := 3) (by omega)
  have v4 := small_val (n := 4) (by omega)
  have v7 := small_val (n := 7) (by omega)
  have v17 := small_val (n := 17) (by omega)
  have HP : Hid (∀ W, Calls Tryd.prog 29 #[.string ⟨#[48, 48, 55]⟩] W (Ret (.tuple #[.agg #[.int .u64 0, .string ⟨#[]⟩], .bool false]) W)) := Lib.hid (fun W => by have h := parse_007 W; rw [v0] at h; exact h)
  have O7 : Hid (∀ W, Calls Tryd.prog 18 #[.int .u64 7] W (Ret (.agg #[.int .u64 7, .string ⟨#[]⟩]) W)) := Lib.hid (fun W => by have h := natOf_any 7 (by omega) W; rw [v7] at h; exact h)
  have O2 : Hid (∀ W, Calls Tryd.prog 18 #[.int .u64 2] W (Ret (.agg #[.int .u64 2, .string ⟨#[]⟩]) W)) := Lib.hid (fun W => by have h := natOf_any 2 (by omega) W; rw [v2] at h; exact h)
  have O17 : Hid (∀ W, Calls Tryd.prog 18 #[.int .u64 17] W (Ret (.agg #[.int .u64 17, .string ⟨#[]⟩]) W)) := Lib.hid (fun W => by have h := natOf_any 17 (by omega) W; rw [v17] at h; exact h)
  have HD : Hid (∀ W, Calls Tryd.prog 26 #[.agg #[.int .u64 7, .string ⟨#[]⟩], .agg #[.int .u64 2, .string ⟨#[]⟩]] W (Ret (.tuple #[.agg #[.int .u64 3, .string ⟨#[]⟩], .agg #[.int .u64 1, .string ⟨#[]⟩], .bool true]) W)) := Lib.hid (fun W => by
    have h := div_small 7 2 (by omega) (by omega) (by omega) W
    rw [v7, v2, show (7 / 2 : Nat) = 3 from rfl, show (7 % 2 : Nat) = 1 from rfl, v3, v1] at h
    exact h)
  have HR : Hid (∀ W, Calls Tryd.prog 38 #[.agg #[.int .u64 17, .string ⟨#[]⟩]] W (Ret (.agg #[.int .u64 4, .string ⟨#[]⟩]) W)) := Lib.hid (fun W => by have h := root_17 W; rw [v17, v4] at h; exact h)
  have ht : ∀ d, (d = 1 ∨ d = 3 ∨ d = 4) → ∀ W, Calls Tryd.prog 31 #[.agg #[.int .u64 (lo (d) : Nat), .string (hi (d))]] W (Ret (.string (digitText d)) W) := fun d hd W =>
    text_small d (by omega) _ (fun W => (formatUint_digit d hd W).mono fun _ _ ⟨h1, h2⟩ => ⟨h1, Ext.of_eq h2.symm⟩) W
  have H1 : Hid (∀ W, Calls Tryd.prog 31 #[.agg #[.int .u64 1, .string ⟨#[]⟩]] W (Ret (.string ⟨#[49]⟩) W)) := Lib.hid (fun W => by have h := ht 1 (by omega) W; rw [v1] at h; exact h)
  have H3 : Hid (∀ W, Calls Tryd.prog 31 #[.agg #[.int .u64 3, .string ⟨#[]⟩]] W (Ret (.string ⟨#[51]⟩) W)) := Lib.hid (fun W => by have h := ht 3 (by omega) W; rw [v3] at h; exact h)
  have H4 : Hid (∀ W, Calls Tryd.prog 31 #[.agg #[.int .u64 4, .string ⟨#[]⟩]] W (Ret (.string ⟨#[52]⟩) W)) := Lib.hid (fun W => by have h := ht 4 (by omega) W; rw [v4] at h; exact h)
  clear hB v0 v1 v2 v3 v4 v7 v17 ht
  go_enter Tryd.func21, Tryd.ntmps21
  go_wp2_with fail
  refine (HP.out _).mono ?_
  rintro e w1 ⟨rfl, hx1⟩
  have E1 := Lib.hid hx1
  clear hx1
  go_wp2_with fail
  refine (O7.out _).mono ?_
  rintro e w2 ⟨rfl, hx2⟩
  have E2 := Lib.hid ((E1.out.alloc _).trans hx2)
  clear hx2
  go_wp2_with fail
  refine (O2.out _).mono ?_
  rintro e w3 ⟨rfl, hx3⟩
  have E3 := Lib.hid (E2.out.trans hx3)
  clear hx3
  go_wp2_with fail
  refine (HD.out _).mono ?_
  rintro e w4 ⟨rfl, hx4⟩
  have E4 := Lib.hid (E3.out.trans hx4)
  clear hx4
  go_wp2_with fail
  generalize hW : (w4.alloc (.cells #[.int .u64 3, .string ⟨#[]⟩] 24)).alloc (.cells #[.int .u64 1, .string ⟨#[]⟩] 24) = W
  have hq : Blk W w4.heap.size 24 [.int .u64 3, .string ⟨#[]⟩] := by rw [← hW]; exact (Blk.new w4 _ _).alloc _
  have hr : Blk W (w4.heap.size + 1) 24 [.int .u64 1, .string ⟨#[]⟩] := by
    have h := Blk.new (w4.alloc (.cells #[.int .u64 3, .string ⟨#[]⟩] 24)) 24 [.int .u64 1, .string ⟨#[]⟩]
    rw [World.size_alloc] at h
    rw [← hW]; exact h
  have E5 : Hid (Ext w W) := Lib.hid (by rw [← hW]; exact (E4.out.alloc _).alloc _)
  clear hW
  refine (O17.out _).mono ?_
  rintro e w5 ⟨rfl, hx5⟩
  have H5 := Lib.hid hx5
  have HQ := Lib.hid hq
  have HRR := Lib.hid hr
  clear hx5 hq hr
  go_wp2_with fail
  refine (HR.out _).mono ?_
  rintro e w6 ⟨rfl, hx6⟩
  have H6 := Lib.hid hx6
  clear hx6
  go_wp2_with fail
  refine (H4.out _).mono ?_
  rintro e w7 ⟨rfl, hx7⟩
  have hx : Ext W w7 := (H5.out.trans H6.out).trans hx7
  have q0 : w7.cell? ⟨w4.heap.size, 0, none⟩ = some (.int .u64 3) := (HQ.out.ext hx).cell 0
  have q1 : w7.cell? ⟨w4.heap.size, 1, none⟩ = some (.string ⟨#[]⟩) := (HQ.out.ext hx).cell 1
  have H7 := Lib.hid hx
  clear hx hx7
  go_wp2_with fail
  refine (H3.out _).mono ?_
  rintro e w8 ⟨rfl, hx8⟩
  have hx := H7.out.trans hx8
  have r0 : w8.cell? ⟨w4.heap.size + 1, 0, none⟩ = some (.int .u64 1) := (HRR.out.ext hx).cell 0
  have r1 : w8.cell? ⟨w4.heap.size + 1, 1, none⟩ = some (.string ⟨#[]⟩) := (HRR.out.ext hx).cell 1
  have H8 := Lib.hid hx
  clear hx hx8 q0 q1
  go_wp2_with fail
  refine (H1.out _).mono ?_
  rintro e w9 ⟨rfl, hx9⟩
  have H9 := Lib.hid (E5.out.trans (H8.out.trans hx9))
  clear hx9
  go_wp2
  go_ret
  exact ⟨rfl, H9.out⟩
end Go.Proofs.YtcfpjgcellahnaaDoor
