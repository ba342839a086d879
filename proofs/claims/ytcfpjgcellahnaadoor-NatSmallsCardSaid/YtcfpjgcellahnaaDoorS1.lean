/- The law NatSmalls: its walk. -/
import Derived.Test.YtcfpjgcellahnaaDoorW16
import Derived.Test.YtcfpjgcellahnaaDoorW19
namespace Go.Proofs.YtcfpjgcellahnaaDoor
open Go.RowKit

set_option maxRecDepth 100000 in
set_option maxHeartbeats 4000000 in
theorem natSmalls_any (n : Nat) (hn : n < B64) (w : World) : Calls Tryd.prog 3 #[.int .u64 n] w (Ret (.bool true) w) := by
  have hbn : bl n ≤ 64 := bl_le hn
  have HO : Hid (∀ W, Calls Tryd.prog 18 #[.int .u64 n] W (Ret (.agg #[.int .u64 n, .string ⟨#[]⟩]) W)) := Lib.hid (fun W => by have h := natOf_any n hn W; rw [small_val hn] at h; exact h)
  have HM : Hid (∀ W, Calls Tryd.prog 18 #[.int .u64 18446744073709551615] W (Ret (.agg #[.int .u64 18446744073709551615, .string ⟨#[]⟩]) W)) := Lib.hid (fun W => by
    have h := natOf_any (B64 - 1) (by unfold B64; omega) W; rw [small_val (show B64 - 1 < B64 by unfold B64; omega)] at h; exact h)
  have HS : Hid (∀ W, Calls Tryd.prog 19 #[.agg #[.int .u64 n, .string ⟨#[]⟩]] W (Ret (.tuple #[.int .u64 n, .bool true]) W)) := Lib.hid (fun W => by have h := small_lt n hn W; rw [small_val hn] at h; exact h)
  have HA : Hid (∀ W, Calls Tryd.prog 20 #[.agg #[.int .u64 18446744073709551615, .string ⟨#[]⟩], .agg #[.int .u64 n, .string ⟨#[]⟩]] W (Ret (.agg #[.int .u64 (lo (B64 - 1 + n) : Nat), .string (hi (B64 - 1 + n))]) W)) := Lib.hid (fun W => by
    have h := add_small (B64 - 1) n (by unfold B64; omega) hn W; rw [small_val hn, small_val (show B64 - 1 < B64 by unfold B64; omega)] at h; exact h)
  have ht : ∃ k : Nat, ∀ W, Calls Tryd.prog 19 #[.agg #[.int .u64 (lo (B64 - 1 + n) : Nat), .string (hi (B64 - 1 + n))]] W (Ret (.tuple #[.int .u64 k, .bool ((n : Int) == 0)]) W) := by
    by_cases h0 : n = 0
    · subst h0
      exact ⟨_, fun W => small_lt (B64 - 1 + 0) (by unfold B64; omega) W⟩
    · have hb : ((n : Int) == 0) = false := beq_eq_false_iff_ne.2 (by omega)
      rw [hb]
      exact ⟨0, fun W => small_ge (B64 - 1 + n) (by omega) W⟩
  obtain ⟨k, ht⟩ := ht
  have HT := Lib.hid ht
  have HK := Lib.hid known_any
  have HN := Lib.hid (fun W => refOf_any n hn W)
  have HI : Hid (∀ W v, R32 n v W → Calls Tryd.prog 22 #[.agg #[.int .u64 n, .string ⟨#[]⟩], v] W (Ret (.bool true) W)) := Lib.hid (fun W v h => by have h := is_true n (by omega) v W h; rw [small_val hn] at h; exact h)
  have hnu : (n : Int) ≤ 18446744073709551615 := by unfold B64 at hn; omega
  clear ht hn hbn
  generalize lo (B64 - 1 + n) = la at *
  generalize hi (B64 - 1 + n) = sa at *
  go_enter Tryd.func3, Tryd.ntmps3
  go_wp2_with fail
  refine (HO.out _).mono ?_
  rintro e w1 ⟨rfl, hx1⟩
  have E1 := Lib.hid hx1
  clear hx1
  go_wp2_with fail
  refine (HS.out _).mono ?_
  rintro e w2 ⟨rfl, hx2⟩
  have hbx : Blk w2 w1.heap.size 24 [.int .u64 n, .string ⟨#[]⟩] := (Blk.new w1 _ _).ext hx2
  have HB := Lib.hid hbx
  have E2 := Lib.hid ((E1.out.alloc _).trans hx2)
  clear hx2 hbx
  go_wp2_with fail
  refine (HM.out _).mono ?_
  rintro e w3 ⟨rfl, hx3⟩
  have E3 := Lib.hid hx3
  clear hx3
  go_wp2_with fail
  refine (HO.out _).mono ?_
  rintro e w4 ⟨rfl, hx4⟩
  have E4 := Lib.hid (E3.out.trans hx4)
  clear hx4
  go_wp2_with fail
  refine (HA.out _).mono ?_
  rintro e w5 ⟨rfl, hx5⟩
  have E5 := Lib.hid (E4.out.trans hx5)
  clear hx5
  go_wp2_with fail
  refine (HT.out _).mono ?_
  rintro e w6 ⟨rfl, hx6⟩
  have hx : Ext w2 w6 := (E5.out.alloc _).trans hx6
  have hbx := HB.out.ext hx
  have hE := E2.out.trans hx
  clear hx hx6
  generalize hbb : ((n : Int) == 0) = bb at *
  have HBB := Lib.hid hbb
  clear hbb
  go_wp2
  refine wp_region_all goesExt 21 [fun v _ => v = .bool true, fun v _ => v = .bool true, fun v _ => v = .bool true, fun v _ => v = .bool true, fun v _ => v = .bool true, fun v _ => v = .int .u64 n, fun v _ => v = .int .u64 n, fun v _ => v = .bool true, fun v _ => v = .bool true, fun v _ => v = .bool true, fun v _ => v = .agg #[.int .u64 n, .string ⟨#[]⟩], fun v _ => v = .int .u64 n, R32 n, fun v _ => v = .bool true, fun v _ => v = .bool true, fun v _ => v = .bool true, fun v _ => v = .bool bb, fun v _ => v = .int .u64 n, fun v _ => v = .bool bb, fun v _ => v = .bool true, fun v _ => v = .bool true] (by kernel_rfl) (by kernel_rfl) ?hG ?hQ ⟨fun h => (by cases h), fun _ => ?o0, fun h => (by cases h), fun _ => ?o1, fun h => (by cases h), fun _ => ?o2, fun h => (by cases h), fun _ => ?o3, fun h => (by cases h), fun _ => ?o4, fun h => (by cases h), fun _ => ?o5, fun h => (by cases h), fun _ => ?o6, fun h => (by cases h), fun _ => ?o7, fun h => (by cases h), fun _ => ?o8, fun h => (by cases h), fun _ => ?o9, fun h => (by cases h), fun _ => ?o10, fun h => (by cases h), fun _ => ?o11, fun h => (by cases h), fun _ => ?o12, fun h => (by cases h), fun _ => ?o13, fun h => (by cases h), fun _ => ?o14, fun h => (by cases h), fun _ => ?o15, fun h => (by cases h), fun _ => ?o16, fun h => (by cases h), fun _ => ?o17, fun h => (by cases h), fun _ => ?o18, fun h => (by cases h), fun _ => ?o19, fun h => (by cases h), fun _ => ?o20, trivial⟩ ?fin
  case hG =>
    intro g hg
    simp only [List.mem_cons, List.not_mem_nil, or_false] at hg
    rcases hg with rfl | rfl | rfl | rfl | rfl | rfl | rfl | rfl | rfl | rfl | rfl | rfl | rfl | rfl | rfl | rfl | rfl | rfl | rfl | rfl | rfl
    all_goals first | exact fun _ _ _ _ h => h | exact fun _ _ _ e h => h.ext e
  case hQ => exact fun c a w d v h => by cases d <;> exact h
  case o0 =>
    intro v w' hw hj
    simp [putOps]
    go_wp2_with fail
    refine (HK.out _).mono ?_
    rintro e w2 ⟨rfl, h2⟩
    go_wp2
    exact ⟨rfl, rfl, h2, fun d hd => by cases hd; rfl⟩
  case o1 =>
    intro v w' hw hj
    have e0 : v 0 = .bool true := hj 0 (by kernel_rfl)
    simp [putOps, Act.put, e0]
    go_wp2
    exact ⟨rfl, rfl, Ext.refl _, fun d hd => by cases hd; rfl⟩
  case o2 =>
    intro v w' hw hj
    have e1 : v 1 = .bool true := hj 1 (by kernel_rfl)
    simp [putOps, Act.put, e1]
    go_wp2
    exact ⟨rfl, rfl, Ext.refl _, fun d hd => by cases hd; rfl⟩
  case o3 =>
    intro v w' hw hj
    have e1 : v 1 = .bool true := hj 1 (by kernel_rfl)
    have e2 : v 2 = .bool true := hj 2 (by kernel_rfl)
    simp [putOps, Act.put, e1, e2]
    go_wp2
    exact ⟨rfl, rfl, Ext.refl _, fun d hd => by cases hd; rfl⟩
  case o4 =>
    intro v w' hw hj
    have e3 : v 3 = .bool true := hj 3 (by kernel_rfl)
    simp [putOps, Act.put, e3]
    go_wp2
    exact ⟨rfl, rfl, Ext.refl _, fun d hd => by cases hd; rfl⟩
  case o5 =>
    intro v w' hw hj
    have e4 : v 4 = .bool true := hj 4 (by kernel_rfl)
    simp [putOps, Act.put, e4]
    go_wp2
    exact ⟨rfl, rfl, Ext.refl _, fun d hd => by cases hd; rfl⟩
  case o6 =>
    intro v w' hw hj
    have e4 : v 4 = .bool true := hj 4 (by kernel_rfl)
    simp [putOps, Act.put, e4]
    go_wp2
    exact ⟨rfl, rfl, Ext.refl _, fun d hd => by cases hd; rfl⟩
  case o7 =>
    intro v w' hw hj
    have e5 : v 5 = .int .u64 n := hj 5 (by kernel_rfl)
    have e6 : v 6 = .int .u64 n := hj 6 (by kernel_rfl)
    have e4 : v 4 = .bool true := hj 4 (by kernel_rfl)
    simp [putOps, Act.put, e5, e6, e4]
    go_wp2
    exact ⟨rfl, rfl, Ext.refl _, fun d hd => by cases hd; rfl⟩
  case o8 =>
    intro v w' hw hj
    have e4 : v 4 = .bool true := hj 4 (by kernel_rfl)
    have e7 : v 7 = .bool true := hj 7 (by kernel_rfl)
    simp [putOps, Act.put, e4, e7]
    go_wp2
    exact ⟨rfl, rfl, Ext.refl _, fun d hd => by cases hd; rfl⟩
  case o9 =>
    intro v w' hw hj
    have e8 : v 8 = .bool true := hj 8 (by kernel_rfl)
    simp [putOps, Act.put, e8]
    go_wp2
    exact ⟨rfl, rfl, Ext.refl _, fun d hd => by cases hd; rfl⟩
  case o10 =>
    intro v w' hw hj
    have e9 : v 9 = .bool true := hj 9 (by kernel_rfl)
    have c0 : w'.cell? ⟨w1.heap.size, 0, none⟩ = some (.int .u64 n) := (hbx.ext hw).cell 0
    have c1 : w'.cell? ⟨w1.heap.size, 1, none⟩ = some (.string ⟨#[]⟩) := (hbx.ext hw).cell 1
    simp [putOps, Act.put, e9]
    go_wp2
    exact ⟨rfl, rfl, Ext.refl _, fun d hd => by cases hd; rfl⟩
  case o11 =>
    intro v w' hw hj
    have e9 : v 9 = .bool true := hj 9 (by kernel_rfl)
    simp [putOps, Act.put, e9]
    go_wp2
    exact ⟨rfl, rfl, Ext.refl _, fun d hd => by cases hd; rfl⟩
  case o12 =>
    intro v w' hw hj
    have e11 : v 11 = .int .u64 n := hj 11 (by kernel_rfl)
    have e9 : v 9 = .bool true := hj 9 (by kernel_rfl)
    simp [putOps, Act.put, e11, e9]
    go_wp2_with fail
    refine (HN.out _).mono ?_
    rintro e w2 ⟨u, rfl, h1, h2⟩
    go_wp2
    exact ⟨rfl, rfl, h2, fun d hd => by cases hd; exact h1⟩
  case o13 =>
    intro v w' hw hj
    have e10 : v 10 = .agg #[.int .u64 n, .string ⟨#[]⟩] := hj 10 (by kernel_rfl)
    have e12 : (R32 n) (v 12) w' := hj 12 (by kernel_rfl)
    have e9 : v 9 = .bool true := hj 9 (by kernel_rfl)
    simp [putOps, Act.put, e10, e9]
    go_wp2_with fail
    refine (HI.out _ _ e12).mono ?_
    rintro e w2 ⟨rfl, h2⟩
    go_wp2
    exact ⟨rfl, rfl, h2, fun d hd => by cases hd; rfl⟩
  case o14 =>
    intro v w' hw hj
    have e9 : v 9 = .bool true := hj 9 (by kernel_rfl)
    have e13 : v 13 = .bool true := hj 13 (by kernel_rfl)
    simp [putOps, Act.put, e9, e13]
    go_wp2
    exact ⟨rfl, rfl, Ext.refl _, fun d hd => by cases hd; rfl⟩
  case o15 =>
    intro v w' hw hj
    have e14 : v 14 = .bool true := hj 14 (by kernel_rfl)
    simp [putOps, Act.put, e14]
    go_wp2
    exact ⟨rfl, rfl, Ext.refl _, fun d hd => by cases hd; rfl⟩
  case o16 =>
    intro v w' hw hj
    have e15 : v 15 = .bool true := hj 15 (by kernel_rfl)
    simp [putOps, Act.put, e15]
    go_wp2
    exact ⟨rfl, rfl, Ext.refl _, fun d hd => by cases hd; rfl⟩
  case o17 =>
    intro v w' hw hj
    have e15 : v 15 = .bool true := hj 15 (by kernel_rfl)
    simp [putOps, Act.put, e15]
    go_wp2
    exact ⟨rfl, rfl, Ext.refl _, fun d hd => by cases hd; rfl⟩
  case o18 =>
    intro v w' hw hj
    have e17 : v 17 = .int .u64 n := hj 17 (by kernel_rfl)
    have e15 : v 15 = .bool true := hj 15 (by kernel_rfl)
    have hbb := HBB.out
    simp [putOps, Act.put, e17, e15]
    go_wp2
    exact ⟨rfl, rfl, Ext.refl _, fun d hd => by cases hd; rfl⟩
  case o19 =>
    intro v w' hw hj
    have e16 : v 16 = .bool bb := hj 16 (by kernel_rfl)
    have e18 : v 18 = .bool bb := hj 18 (by kernel_rfl)
    have e15 : v 15 = .bool true := hj 15 (by kernel_rfl)
    simp [putOps, Act.put, e16, e18, e15]
    go_wp2
    exact ⟨rfl, rfl, Ext.refl _, fun d hd => by cases hd; rfl⟩
  case o20 =>
    intro v w' hw hj
    have e15 : v 15 = .bool true := hj 15 (by kernel_rfl)
    have e19 : v 19 = .bool true := hj 19 (by kernel_rfl)
    simp [putOps, Act.put, e15, e19]
    go_wp2
    exact ⟨rfl, rfl, Ext.refl _, fun d hd => by cases hd; rfl⟩
  case fin =>
    intro v w' hw hj
    have e20 : v 20 = .bool true := hj 20 45 (by omega) rfl
    simp [putOps, Act.put, e20]
    go_wp2
    go_ret
    exact ⟨rfl, hE.trans hw⟩
end Go.Proofs.YtcfpjgcellahnaaDoor
