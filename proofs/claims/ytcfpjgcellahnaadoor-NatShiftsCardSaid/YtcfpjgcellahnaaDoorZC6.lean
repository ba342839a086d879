/- The law NatShifts: its walk. The law NatShifts holds: for every slice of bytes and all two int the call returns true (the package variables that the row lists start as the program text lays them). -/
import Derived.Test.YtcfpjgcellahnaaDoorCards
import Derived.Test.YtcfpjgcellahnaaDoorM6
namespace Go.Proofs.YtcfpjgcellahnaaDoor
open Go.RowKit

/-- Shift, as the program's and as the document's. -/
theorem shift_both {x : Nat} (BX : Sm 384 x) (z : Int) (h1 : -300 ≤ z) (h2 : z ≤ 300) :
    ∃ y, Sm 800 y ∧ (∀ W, Calls Tryd.prog 39 #[.agg #[.int .u64 (lo (x) : Nat), .string (hi (x))], .int .i64 z] W (Ret (.agg #[.int .u64 (lo (y) : Nat), .string (hi (y))]) W)) ∧ (∀ W p, R32 x p W → Calls Tryd.prog 46 #[p, .int .i64 z] W (RetS (R32 y) W)) := by
  have hb : bl x ≤ 384 := BX
  rcases Int.le_total 0 z with h | h
  · obtain ⟨n, rfl⟩ : ∃ n : Nat, z = n := ⟨z.toNat, by omega⟩
    refine ⟨x * 2 ^ n, ?_, fun W => shift_up x n (by omega) (by omega) W, fun W p hp => refShl_any x n p W hp (by omega) (by omega)⟩
    exact (BX.shl n).le (by omega)
  · by_cases h0 : z = 0
    · subst h0
      have e : x * 2 ^ 0 = x := by rw [Nat.pow_zero, Nat.mul_one]
      refine ⟨x, BX.le (by omega), fun W => ?_, fun W p hp => ?_⟩
      · have h := shift_up x 0 (by omega) (by omega) W
        rw [e] at h
        exact h
      · have h := refShl_any x 0 p W hp (by omega) (by omega)
        rw [e] at h
        exact h
    · obtain ⟨n, rfl⟩ : ∃ n : Nat, z = -(n : Int) := ⟨(-z).toNat, by omega⟩
      exact ⟨x / 2 ^ n, (BX.div _).le (by omega), fun W => shift_down x n (by omega) (by omega) (by omega) W, fun W p hp => refShr_any x n p W hp (by omega) (by omega) (by omega)⟩

set_option maxRecDepth 100000 in
set_option maxHeartbeats 4000000 in
theorem natShifts_neg (l0 : List UInt8) (v0 : Value) (a1 a2 : Int) (w : World) (s0 : SlB l0 v0 w) (b1 : -9223372036854775808 ≤ a1 ∧ a1 ≤ 9223372036854775807) (b2 : -9223372036854775808 ≤ a2 ∧ a2 ≤ 9223372036854775807) (hk : a2 % 9 = 0) :
    Calls Tryd.prog 10 #[v0, .int .i64 a1, .int .i64 a2] w (Ret (.bool true) w) := by
  have HT1 : Hid (∀ W, SlB l0 v0 W → Calls Tryd.prog 24 #[v0, .slice none 0 0] W (TwoPost (beN (l0.take 48)) 0 W)) := Lib.hid (fun W h => two_any l0 [] v0 _ W h (SlB.nil W))
  have HP1 := Lib.hid (fun W => pick_any a1 600 b1.1 b1.2 (by omega) (by omega) W)
  have HP2 := Lib.hid (fun W => pick_any a2 9 b2.1 b2.2 (by omega) (by omega) W)
  have hz1 : 0 ≤ a1 % 600 ∧ a1 % 600 < 600 := by omega
  have hz2 : 0 ≤ a2 % 9 ∧ a2 % 9 < 9 := by omega
  have HS0 := Lib.hid s0
  have BX := Sm.take l0
  have HK := Lib.hid known_any
  clear s0 b1 b2
  generalize a1 % 600 = z1 at *
  generalize a2 % 9 = z2 at *
  obtain ⟨hz1a, hz1b⟩ := hz1
  obtain ⟨hz2a, hz2b⟩ := hz2
  generalize beN (l0.take 48) = x at *
  obtain ⟨y, BY, hsh, hrs⟩ := shift_both BX (z1 - 300) (by omega) (by omega)
  have HSH := Lib.hid hsh
  have HRS := Lib.hid hrs
  have HRT := Lib.hid (fun W => croot BX W)
  have HRR : Hid (∀ W p, R32 x p W → Calls Tryd.prog 47 #[p] W (RetS (R32 (rt x)) W)) := Lib.hid (fun W p hp => refRoot_any x p W hp (by have : bl x ≤ 384 := BX; omega))
  have BR := BX.rt
  generalize rt x = r at *
  clear hsh hrs
  have HB0 : Hid (∀ W, Calls Tryd.prog 27 #[.agg #[.int .u64 (lo (0) : Nat), .string (hi (0))]] W (Ret (.int .i64 0) W)) := Lib.hid (fun W => by have h := cbits (Sm.zero 1) W; rw [bl_zero] at h; exact h)
  subst hk
  have HPW : Hid (∀ W, Calls Tryd.prog 45 #[.agg #[.int .u64 (lo (x) : Nat), .string (hi (x))], .int .i64 (-1)] W (Ret (.tuple #[.agg #[.int .u64 (lo (0) : Nat), .string (hi (0))], .bool false]) W)) := Lib.hid (fun W => pow_no x (-1) (by omega) W)
  clear hz2a hz2b
  go_enter Tryd.func10, Tryd.ntmps10
  go_wp2_with fail
  refine (HT1.out _ HS0.out).mono ?_
  rintro e w1 ⟨p1, q1, rfl, hp1, hq1, hx1⟩
  have E1 := Lib.hid hx1
  have HP := Lib.hid hp1
  clear hx1 hp1 hq1
  go_wp2_with fail
  generalize hW : (w1.alloc (.cells #[.int .u64 (lo x : Nat), .string (hi x)] 24)).alloc (.cells #[.int .u64 (lo 0 : Nat), .string (hi 0)] 24) = W1
  obtain ⟨hbx, hby, hex⟩ := boxes2' w1 W1 _ _ _ _ hW
  have HBX := Lib.hid hbx
  have HPX := Lib.hid (HP.out.ext hex)
  have E2 := Lib.hid (E1.out.trans hex)
  clear hW hbx hby hex HP E1
  refine (HP1.out _).mono ?_
  rintro e w2 ⟨rfl, rfl⟩
  go_wp2_with fail
  refine (HP2.out _).mono ?_
  rintro e w2 ⟨rfl, rfl⟩
  obtain ⟨k00, k01, _, _⟩ := HBX.out.two
  go_wp2_with fail
  refine (HPW.out _).mono ?_
  rintro e w3 ⟨rfl, hx3⟩
  have HBX3 := Lib.hid (HBX.out.ext hx3)
  have HPX3 := Lib.hid (HPX.out.ext hx3)
  have E3 := Lib.hid (E2.out.trans hx3)
  clear hx3 k00 k01 HBX HPX E2
  go_wp2_with fail
  generalize hW : w3.alloc (.cells #[.int .u64 (lo 0 : Nat), .string (hi 0)] 24) = W2
  have hbd : Blk W2 w3.heap.size 24 [.int .u64 (lo 0 : Nat), .string (hi 0)] := by rw [← hW]; exact Blk.new w3 _ _
  have hex : Ext w3 W2 := by rw [← hW]; exact (Ext.refl w3).alloc _
  have HBX2 := Lib.hid (HBX3.out.ext hex)
  have HBD := Lib.hid hbd
  have HP3 := Lib.hid (HPX3.out.ext hex)
  have E4 := Lib.hid (E3.out.trans hex)
  clear hW hbd hex HBX3 HPX3 E3
  have Xy0 := Lib.hid (Ext.refl W2)
  have k00 := (HBX2.out.ext Xy0.out).cell 0
  have k01 := (HBX2.out.ext Xy0.out).cell 1
  simp only [List.getElem?_cons_zero, List.getElem?_cons_succ] at k00 k01
  go_wp2_with fail
  refine (HK.out _).mono ?_
  rintro e y1 ⟨rfl, hx⟩
  have Xy1 := Lib.hid (Xy0.out.trans hx)
  clear hx k00 k01
  have k00 := (HBX2.out.ext Xy1.out).cell 0
  have k01 := (HBX2.out.ext Xy1.out).cell 1
  simp only [List.getElem?_cons_zero, List.getElem?_cons_succ] at k00 k01
  go_wp2_with fail
  refine (HSH.out _).mono ?_
  rintro e y2 ⟨rfl, hx⟩
  have Xy2 := Lib.hid (Xy1.out.trans hx)
  clear hx k00 k01
  have k00 := (HBX2.out.ext Xy2.out).cell 0
  have k01 := (HBX2.out.ext Xy2.out).cell 1
  simp only [List.getElem?_cons_zero, List.getElem?_cons_succ] at k00 k01
  go_wp2_with fail
  refine (HRS.out _ _ (HP3.out.ext Xy2.out)).mono ?_
  rintro e y3 ⟨us, rfl, hus, hx⟩
  have Hus := Lib.hid hus
  have Xy3 := Lib.hid (Xy2.out.trans hx)
  clear hx k00 k01 hus
  have k00 := (HBX2.out.ext Xy3.out).cell 0
  have k01 := (HBX2.out.ext Xy3.out).cell 1
  simp only [List.getElem?_cons_zero, List.getElem?_cons_succ] at k00 k01
  go_wp2_with fail
  refine (cis BY _ Hus.out).mono ?_
  rintro e y4 ⟨rfl, hx⟩
  have Xy4 := Lib.hid (Xy3.out.trans hx)
  clear hx k00 k01
  have k00 := (HBX2.out.ext Xy4.out).cell 0
  have k01 := (HBX2.out.ext Xy4.out).cell 1
  simp only [List.getElem?_cons_zero, List.getElem?_cons_succ] at k00 k01
  go_wp2_with fail
  refine (HRT.out _).mono ?_
  rintro e y5 ⟨rfl, hx⟩
  have Xy5 := Lib.hid (Xy4.out.trans hx)
  clear hx k00 k01
  have k00 := (HBX2.out.ext Xy5.out).cell 0
  have k01 := (HBX2.out.ext Xy5.out).cell 1
  simp only [List.getElem?_cons_zero, List.getElem?_cons_succ] at k00 k01
  go_wp2_with fail
  refine (HRR.out _ _ (HP3.out.ext Xy5.out)).mono ?_
  rintro e y6 ⟨ur, rfl, hur, hx⟩
  have Hur := Lib.hid hur
  have Xy6 := Lib.hid (Xy5.out.trans hx)
  clear hx k00 k01 hur
  have k00 := (HBX2.out.ext Xy6.out).cell 0
  have k01 := (HBX2.out.ext Xy6.out).cell 1
  simp only [List.getElem?_cons_zero, List.getElem?_cons_succ] at k00 k01
  go_wp2_with fail
  refine (cis BR _ Hur.out).mono ?_
  rintro e y7 ⟨rfl, hx⟩
  have Xy7 := Lib.hid (Xy6.out.trans hx)
  clear hx k00 k01
  have hbd := HBD.out.ext Xy7.out
  have hp4 := HP3.out.ext Xy7.out
  have E5 := Lib.hid (E4.out.trans Xy7.out)
  clear HBX2 HBD HP3 E4 Xy0 Xy1 Xy2 Xy3 Xy4 Xy5 Xy6 Hus Hur
  go_wp2
  refine wp_region_all goesExt 18 [fun v _ => v = .int .i64 (-1), fun v _ => v = .bool true, fun v _ => v = .bool true, fun v _ => v = .agg #[.int .u64 (lo (0) : Nat), .string (hi (0))], fun v _ => v = .int .i64 0, fun v _ => v = .bool true, fun v _ => v = .bool true, fun v _ => v = .bool true, fun v _ => v = undef, fun v _ => v = undef, fun v _ => v = undef, fun v _ => v = undef, fun v _ => v = undef, fun v _ => v = undef, fun v _ => v = undef, fun v _ => v = undef, fun v _ => v = undef, fun v _ => v = .bool true] (by kernel_rfl) (by kernel_rfl) ?hG ?hQ ⟨fun h => (by cases h), fun _ => ?o0, fun h => (by cases h), fun _ => ?o1, fun h => (by cases h), fun _ => ?o2, fun h => (by cases h), fun _ => ?o3, fun h => (by cases h), fun _ => ?o4, fun h => (by cases h), fun _ => ?o5, fun h => (by cases h), fun _ => ?o6, fun h => (by cases h), fun _ => ?o7, fun h => (by cases h), fun _ => ?o8, fun h => (by cases h), fun _ => ?o9, fun h => (by cases h), fun _ => ?o10, fun h => (by cases h), fun _ => ?o11, fun h => (by cases h), fun _ => ?o12, fun h => (by cases h), fun _ => ?o13, fun h => (by cases h), fun _ => ?o14, fun h => (by cases h), fun _ => ?o15, fun h => (by cases h), fun _ => ?o16, fun h => (by cases h), fun _ => ?o17, trivial⟩ ?fin
  case hG =>
    intro g hg
    simp only [List.mem_cons, List.not_mem_nil, or_false] at hg
    rcases hg with rfl | rfl | rfl | rfl | rfl | rfl | rfl | rfl | rfl | rfl | rfl | rfl | rfl | rfl | rfl | rfl | rfl | rfl
    all_goals first | exact fun _ _ _ _ h => h | exact fun _ _ _ e h => h.ext e
  case hQ => exact fun c a w d v h => by cases d <;> exact h
  case o0 =>
    intro v w' hw hj
    simp [putOps]
    go_wp2
    exact ⟨rfl, rfl, Ext.refl _, fun d hd => by cases hd; rfl⟩
  case o1 =>
    intro v w' hw hj
    have e0 : v 0 = .int .i64 (-1) := hj 0 (by kernel_rfl)
    simp [putOps, Act.put, e0]
    go_wp2
    exact ⟨rfl, rfl, Ext.refl _, fun d hd => by cases hd; rfl⟩
  case o2 =>
    intro v w' hw hj
    have e1 : v 1 = .bool true := hj 1 (by kernel_rfl)
    simp [putOps, Act.put, e1]
    go_wp2
    exact ⟨rfl, rfl, Ext.refl _, fun d hd => by cases hd; rfl⟩
  case o3 =>
    intro v w' hw hj
    have e2 : v 2 = .bool true := hj 2 (by kernel_rfl)
    have c0 : w'.cell? ⟨w3.heap.size, 0, none⟩ = some (.int .u64 (lo (0) : Nat)) := (hbd.ext hw).cell 0
    have c1 : w'.cell? ⟨w3.heap.size, 1, none⟩ = some (.string (hi (0))) := (hbd.ext hw).cell 1
    simp [putOps, Act.put, e2]
    go_wp2
    exact ⟨rfl, rfl, Ext.refl _, fun d hd => by cases hd; rfl⟩
  case o4 =>
    intro v w' hw hj
    have e3 : v 3 = .agg #[.int .u64 (lo (0) : Nat), .string (hi (0))] := hj 3 (by kernel_rfl)
    have e2 : v 2 = .bool true := hj 2 (by kernel_rfl)
    simp [putOps, Act.put, e3, e2]
    go_wp2_with fail
    refine (HB0.out _).mono ?_
    rintro e w2 ⟨rfl, h2⟩
    go_wp2
    exact ⟨rfl, rfl, h2, fun d hd => by cases hd; rfl⟩
  case o5 =>
    intro v w' hw hj
    have e4 : v 4 = .int .i64 0 := hj 4 (by kernel_rfl)
    have e2 : v 2 = .bool true := hj 2 (by kernel_rfl)
    simp [putOps, Act.put, e4, e2]
    go_wp2
    exact ⟨rfl, rfl, Ext.refl _, fun d hd => by cases hd; rfl⟩
  case o6 =>
    intro v w' hw hj
    have e2 : v 2 = .bool true := hj 2 (by kernel_rfl)
    have e5 : v 5 = .bool true := hj 5 (by kernel_rfl)
    simp [putOps, Act.put, e2, e5]
    go_wp2
    exact ⟨rfl, rfl, Ext.refl _, fun d hd => by cases hd; rfl⟩
  case o7 =>
    intro v w' hw hj
    have e6 : v 6 = .bool true := hj 6 (by kernel_rfl)
    simp [putOps, Act.put, e6]
    go_wp2
    exact ⟨rfl, rfl, Ext.refl _, fun d hd => by cases hd; rfl⟩
  case o8 =>
    intro v w' hw hj
    have e7 : v 7 = .bool true := hj 7 (by kernel_rfl)
    simp [putOps, Act.put, e7]
    go_wp2
    exact ⟨rfl, rfl, Ext.refl _, fun d hd => by cases hd; rfl⟩
  case o9 =>
    intro v w' hw hj
    have e8 : v 8 = undef := hj 8 (by kernel_rfl)
    have e7 : v 7 = .bool true := hj 7 (by kernel_rfl)
    simp [putOps, Act.put, e8, e7]
    go_wp2
    exact ⟨rfl, rfl, Ext.refl _, fun d hd => by cases hd; rfl⟩
  case o10 =>
    intro v w' hw hj
    have e9 : v 9 = undef := hj 9 (by kernel_rfl)
    have e7 : v 7 = .bool true := hj 7 (by kernel_rfl)
    simp [putOps, Act.put, e9, e7]
    go_wp2
    exact ⟨rfl, rfl, Ext.refl _, fun d hd => by cases hd; rfl⟩
  case o11 =>
    intro v w' hw hj
    have e10 : v 10 = undef := hj 10 (by kernel_rfl)
    simp [putOps, Act.put, e10]
    go_wp2
    exact ⟨rfl, rfl, Ext.refl _, fun d hd => by cases hd; rfl⟩
  case o12 =>
    intro v w' hw hj
    have e10 : v 10 = undef := hj 10 (by kernel_rfl)
    simp [putOps, Act.put, e10]
    go_wp2
    exact ⟨rfl, rfl, Ext.refl _, fun d hd => by cases hd; rfl⟩
  case o13 =>
    intro v w' hw hj
    have e10 : v 10 = undef := hj 10 (by kernel_rfl)
    simp [putOps, Act.put, e10]
    go_wp2
    exact ⟨rfl, rfl, Ext.refl _, fun d hd => by cases hd; rfl⟩
  case o14 =>
    intro v w' hw hj
    have e12 : v 12 = undef := hj 12 (by kernel_rfl)
    have e13 : v 13 = undef := hj 13 (by kernel_rfl)
    have e10 : v 10 = undef := hj 10 (by kernel_rfl)
    simp [putOps, Act.put, e12, e13, e10]
    go_wp2
    exact ⟨rfl, rfl, Ext.refl _, fun d hd => by cases hd; rfl⟩
  case o15 =>
    intro v w' hw hj
    have e11 : v 11 = undef := hj 11 (by kernel_rfl)
    have e14 : v 14 = undef := hj 14 (by kernel_rfl)
    have e10 : v 10 = undef := hj 10 (by kernel_rfl)
    simp [putOps, Act.put, e11, e14, e10]
    go_wp2
    exact ⟨rfl, rfl, Ext.refl _, fun d hd => by cases hd; rfl⟩
  case o16 =>
    intro v w' hw hj
    have e10 : v 10 = undef := hj 10 (by kernel_rfl)
    have e15 : v 15 = undef := hj 15 (by kernel_rfl)
    have e7 : v 7 = .bool true := hj 7 (by kernel_rfl)
    simp [putOps, Act.put, e10, e15, e7]
    go_wp2
    exact ⟨rfl, rfl, Ext.refl _, fun d hd => by cases hd; rfl⟩
  case o17 =>
    intro v w' hw hj
    have e7 : v 7 = .bool true := hj 7 (by kernel_rfl)
    have e16 : v 16 = undef := hj 16 (by kernel_rfl)
    simp [putOps, Act.put, e7, e16]
    go_wp2
    exact ⟨rfl, rfl, Ext.refl _, fun d hd => by cases hd; rfl⟩
  case fin =>
    intro v w' hw hj
    have e17 : v 17 = .bool true := hj 17 75 (by omega) rfl
    simp [putOps, Act.put, e17]
    go_wp2
    go_ret
    exact ⟨rfl, E5.out.trans hw⟩

set_option maxRecDepth 100000 in
set_option maxHeartbeats 4000000 in
theorem natShifts_pos (l0 : List UInt8) (v0 : Value) (a1 a2 : Int) (w : World) (s0 : SlB l0 v0 w) (b1 : -9223372036854775808 ≤ a1 ∧ a1 ≤ 9223372036854775807) (b2 : -9223372036854775808 ≤ a2 ∧ a2 ≤ 9223372036854775807) (hk : a2 % 9 ≠ 0) :
    Calls Tryd.prog 10 #[v0, .int .i64 a1, .int .i64 a2] w (Ret (.bool true) w) := by
  have HT1 : Hid (∀ W, SlB l0 v0 W → Calls Tryd.prog 24 #[v0, .slice none 0 0] W (TwoPost (beN (l0.take 48)) 0 W)) := Lib.hid (fun W h => two_any l0 [] v0 _ W h (SlB.nil W))
  have HP1 := Lib.hid (fun W => pick_any a1 600 b1.1 b1.2 (by omega) (by omega) W)
  have HP2 := Lib.hid (fun W => pick_any a2 9 b2.1 b2.2 (by omega) (by omega) W)
  have hz1 : 0 ≤ a1 % 600 ∧ a1 % 600 < 600 := by omega
  have hz2 : 0 ≤ a2 % 9 ∧ a2 % 9 < 9 := by omega
  have HS0 := Lib.hid s0
  have BX := Sm.take l0
  have HK := Lib.hid known_any
  clear s0 b1 b2
  generalize a1 % 600 = z1 at *
  generalize a2 % 9 = z2 at *
  obtain ⟨hz1a, hz1b⟩ := hz1
  obtain ⟨hz2a, hz2b⟩ := hz2
  generalize beN (l0.take 48) = x at *
  obtain ⟨y, BY, hsh, hrs⟩ := shift_both BX (z1 - 300) (by omega) (by omega)
  have HSH := Lib.hid hsh
  have HRS := Lib.hid hrs
  have HRT := Lib.hid (fun W => croot BX W)
  have HRR : Hid (∀ W p, R32 x p W → Calls Tryd.prog 47 #[p] W (RetS (R32 (rt x)) W)) := Lib.hid (fun W p hp => refRoot_any x p W hp (by have : bl x ≤ 384 := BX; omega))
  have BR := BX.rt
  generalize rt x = r at *
  clear hsh hrs
  obtain ⟨k, hk1, hk2⟩ : ∃ k : Nat, z2 - 1 = k ∧ k ≤ 7 := ⟨(z2 - 1).toNat, by omega, by omega⟩
  have hxk : bl x ≤ 384 := BX
  have hxs : k * bl x + 1 ≤ 4000 := by
    have := Nat.mul_le_mul hk2 hxk
    omega
  have HPW : Hid (∀ W, Calls Tryd.prog 45 #[.agg #[.int .u64 (lo (x) : Nat), .string (hi (x))], .int .i64 (z2 - 1)] W (Ret (.tuple #[.agg #[.int .u64 (lo (x ^ k) : Nat), .string (hi (x ^ k))], .bool true]) W)) := Lib.hid (fun W => by rw [hk1]; exact pow_any x k (by omega) (by omega) W)
  have HRP : Hid (∀ W p, R32 x p W → Calls Tryd.prog 48 #[p, .int .i64 (z2 - 1)] W (RetS (R32 (x ^ k)) W)) := Lib.hid (fun W p hp => by rw [hk1]; exact refPow_any x k p W hp (by omega) (by omega))
  have BK : Sm 4000 (x ^ k) := bl_pow_le (Nat.le_refl _) hxs
  have hneg : (1 : Int) ≤ z2 := by omega
  have hd1 : decide (z2 - 1 < 0) = false := decide_eq_false (by omega)
  have hd2 : decide (0 ≤ z2 - 1) = true := decide_eq_true (by omega)
  clear hk1 hk2 hxk hxs hk
  generalize x ^ k = yk at *
  go_enter Tryd.func10, Tryd.ntmps10
  go_wp2_with fail
  refine (HT1.out _ HS0.out).mono ?_
  rintro e w1 ⟨p1, q1, rfl, hp1, hq1, hx1⟩
  have E1 := Lib.hid hx1
  have HP := Lib.hid hp1
  clear hx1 hp1 hq1
  go_wp2_with fail
  generalize hW : (w1.alloc (.cells #[.int .u64 (lo x : Nat), .string (hi x)] 24)).alloc (.cells #[.int .u64 (lo 0 : Nat), .string (hi 0)] 24) = W1
  obtain ⟨hbx, hby, hex⟩ := boxes2' w1 W1 _ _ _ _ hW
  have HBX := Lib.hid hbx
  have HPX := Lib.hid (HP.out.ext hex)
  have E2 := Lib.hid (E1.out.trans hex)
  clear hW hbx hby hex HP E1
  refine (HP1.out _).mono ?_
  rintro e w2 ⟨rfl, rfl⟩
  go_wp2_with fail
  refine (HP2.out _).mono ?_
  rintro e w2 ⟨rfl, rfl⟩
  obtain ⟨k00, k01, _, _⟩ := HBX.out.two
  go_wp2_with fail
  refine (HPW.out _).mono ?_
  rintro e w3 ⟨rfl, hx3⟩
  have HBX3 := Lib.hid (HBX.out.ext hx3)
  have HPX3 := Lib.hid (HPX.out.ext hx3)
  have E3 := Lib.hid (E2.out.trans hx3)
  clear hx3 k00 k01 HBX HPX E2
  go_wp2_with fail
  generalize hW : w3.alloc (.cells #[.int .u64 (lo yk : Nat), .string (hi yk)] 24) = W2
  have hbd : Blk W2 w3.heap.size 24 [.int .u64 (lo yk : Nat), .string (hi yk)] := by rw [← hW]; exact Blk.new w3 _ _
  have hex : Ext w3 W2 := by rw [← hW]; exact (Ext.refl w3).alloc _
  have HBX2 := Lib.hid (HBX3.out.ext hex)
  have HBD := Lib.hid hbd
  have HP3 := Lib.hid (HPX3.out.ext hex)
  have E4 := Lib.hid (E3.out.trans hex)
  clear hW hbd hex HBX3 HPX3 E3
  have Xy0 := Lib.hid (Ext.refl W2)
  have k00 := (HBX2.out.ext Xy0.out).cell 0
  have k01 := (HBX2.out.ext Xy0.out).cell 1
  simp only [List.getElem?_cons_zero, List.getElem?_cons_succ] at k00 k01
  go_wp2_with fail
  refine (HK.out _).mono ?_
  rintro e y1 ⟨rfl, hx⟩
  have Xy1 := Lib.hid (Xy0.out.trans hx)
  clear hx k00 k01
  have k00 := (HBX2.out.ext Xy1.out).cell 0
  have k01 := (HBX2.out.ext Xy1.out).cell 1
  simp only [List.getElem?_cons_zero, List.getElem?_cons_succ] at k00 k01
  go_wp2_with fail
  refine (HSH.out _).mono ?_
  rintro e y2 ⟨rfl, hx⟩
  have Xy2 := Lib.hid (Xy1.out.trans hx)
  clear hx k00 k01
  have k00 := (HBX2.out.ext Xy2.out).cell 0
  have k01 := (HBX2.out.ext Xy2.out).cell 1
  simp only [List.getElem?_cons_zero, List.getElem?_cons_succ] at k00 k01
  go_wp2_with fail
  refine (HRS.out _ _ (HP3.out.ext Xy2.out)).mono ?_
  rintro e y3 ⟨us, rfl, hus, hx⟩
  have Hus := Lib.hid hus
  have Xy3 := Lib.hid (Xy2.out.trans hx)
  clear hx k00 k01 hus
  have k00 := (HBX2.out.ext Xy3.out).cell 0
  have k01 := (HBX2.out.ext Xy3.out).cell 1
  simp only [List.getElem?_cons_zero, List.getElem?_cons_succ] at k00 k01
  go_wp2_with fail
  refine (cis BY _ Hus.out).mono ?_
  rintro e y4 ⟨rfl, hx⟩
  have Xy4 := Lib.hid (Xy3.out.trans hx)
  clear hx k00 k01
  have k00 := (HBX2.out.ext Xy4.out).cell 0
  have k01 := (HBX2.out.ext Xy4.out).cell 1
  simp only [List.getElem?_cons_zero, List.getElem?_cons_succ] at k00 k01
  go_wp2_with fail
  refine (HRT.out _).mono ?_
  rintro e y5 ⟨rfl, hx⟩
  have Xy5 := Lib.hid (Xy4.out.trans hx)
  clear hx k00 k01
  have k00 := (HBX2.out.ext Xy5.out).cell 0
  have k01 := (HBX2.out.ext Xy5.out).cell 1
  simp only [List.getElem?_cons_zero, List.getElem?_cons_succ] at k00 k01
  go_wp2_with fail
  refine (HRR.out _ _ (HP3.out.ext Xy5.out)).mono ?_
  rintro e y6 ⟨ur, rfl, hur, hx⟩
  have Hur := Lib.hid hur
  have Xy6 := Lib.hid (Xy5.out.trans hx)
  clear hx k00 k01 hur
  have k00 := (HBX2.out.ext Xy6.out).cell 0
  have k01 := (HBX2.out.ext Xy6.out).cell 1
  simp only [List.getElem?_cons_zero, List.getElem?_cons_succ] at k00 k01
  go_wp2_with fail
  refine (cis BR _ Hur.out).mono ?_
  rintro e y7 ⟨rfl, hx⟩
  have Xy7 := Lib.hid (Xy6.out.trans hx)
  clear hx k00 k01
  have hbd := HBD.out.ext Xy7.out
  have hp4 := HP3.out.ext Xy7.out
  have E5 := Lib.hid (E4.out.trans Xy7.out)
  clear HBX2 HBD HP3 E4 Xy0 Xy1 Xy2 Xy3 Xy4 Xy5 Xy6 Hus Hur
  go_wp2
  refine wp_region_all goesExt 18 [fun v _ => v = .int .i64 (z2 - 1), fun v _ => v = .bool false, fun v _ => v = .bool false, fun v _ => v = undef, fun v _ => v = undef, fun v _ => v = undef, fun v _ => v = .bool false, fun v _ => v = .bool false, fun v _ => v = .int .i64 (z2 - 1), fun v _ => v = .bool true, fun v _ => v = .bool true, fun v _ => v = .agg #[.int .u64 (lo (yk) : Nat), .string (hi (yk))], fun v _ => v = p1, fun v _ => v = .int .i64 (z2 - 1), R32 yk, fun v _ => v = .bool true, fun v _ => v = .bool true, fun v _ => v = .bool true] (by kernel_rfl) (by kernel_rfl) ?hG ?hQ ⟨fun h => (by cases h), fun _ => ?o0, fun h => (by cases h), fun _ => ?o1, fun h => (by cases h), fun _ => ?o2, fun h => (by cases h), fun _ => ?o3, fun h => (by cases h), fun _ => ?o4, fun h => (by cases h), fun _ => ?o5, fun h => (by cases h), fun _ => ?o6, fun h => (by cases h), fun _ => ?o7, fun h => (by cases h), fun _ => ?o8, fun h => (by cases h), fun _ => ?o9, fun h => (by cases h), fun _ => ?o10, fun h => (by cases h), fun _ => ?o11, fun h => (by cases h), fun _ => ?o12, fun h => (by cases h), fun _ => ?o13, fun h => (by cases h), fun _ => ?o14, fun h => (by cases h), fun _ => ?o15, fun h => (by cases h), fun _ => ?o16, fun h => (by cases h), fun _ => ?o17, trivial⟩ ?fin
  case hG =>
    intro g hg
    simp only [List.mem_cons, List.not_mem_nil, or_false] at hg
    rcases hg with rfl | rfl | rfl | rfl | rfl | rfl | rfl | rfl | rfl | rfl | rfl | rfl | rfl | rfl | rfl | rfl | rfl | rfl
    all_goals first | exact fun _ _ _ _ h => h | exact fun _ _ _ e h => h.ext e
  case hQ => exact fun c a w d v h => by cases d <;> exact h
  case o0 =>
    intro v w' hw hj
    simp [putOps]
    go_wp2
    exact ⟨rfl, rfl, Ext.refl _, fun d hd => by cases hd; rfl⟩
  case o1 =>
    intro v w' hw hj
    have e0 : v 0 = .int .i64 (z2 - 1) := hj 0 (by kernel_rfl)
    simp [putOps, Act.put, e0]
    go_wp2
    exact ⟨rfl, rfl, Ext.refl _, fun d hd => by cases hd; rfl⟩
  case o2 =>
    intro v w' hw hj
    have e1 : v 1 = .bool false := hj 1 (by kernel_rfl)
    simp [putOps, Act.put, e1]
    go_wp2
    exact ⟨rfl, rfl, Ext.refl _, fun d hd => by cases hd; rfl⟩
  case o3 =>
    intro v w' hw hj
    have e2 : v 2 = .bool false := hj 2 (by kernel_rfl)
    simp [putOps, Act.put, e2]
    go_wp2
    exact ⟨rfl, rfl, Ext.refl _, fun d hd => by cases hd; rfl⟩
  case o4 =>
    intro v w' hw hj
    have e3 : v 3 = undef := hj 3 (by kernel_rfl)
    have e2 : v 2 = .bool false := hj 2 (by kernel_rfl)
    simp [putOps, Act.put, e3, e2]
    go_wp2
    exact ⟨rfl, rfl, Ext.refl _, fun d hd => by cases hd; rfl⟩
  case o5 =>
    intro v w' hw hj
    have e4 : v 4 = undef := hj 4 (by kernel_rfl)
    have e2 : v 2 = .bool false := hj 2 (by kernel_rfl)
    simp [putOps, Act.put, e4, e2]
    go_wp2
    exact ⟨rfl, rfl, Ext.refl _, fun d hd => by cases hd; rfl⟩
  case o6 =>
    intro v w' hw hj
    have e2 : v 2 = .bool false := hj 2 (by kernel_rfl)
    have e5 : v 5 = undef := hj 5 (by kernel_rfl)
    simp [putOps, Act.put, e2, e5]
    go_wp2
    exact ⟨rfl, rfl, Ext.refl _, fun d hd => by cases hd; rfl⟩
  case o7 =>
    intro v w' hw hj
    have e6 : v 6 = .bool false := hj 6 (by kernel_rfl)
    simp [putOps, Act.put, e6]
    go_wp2
    exact ⟨rfl, rfl, Ext.refl _, fun d hd => by cases hd; rfl⟩
  case o8 =>
    intro v w' hw hj
    have e7 : v 7 = .bool false := hj 7 (by kernel_rfl)
    simp [putOps, Act.put, e7]
    go_wp2
    exact ⟨rfl, rfl, Ext.refl _, fun d hd => by cases hd; rfl⟩
  case o9 =>
    intro v w' hw hj
    have e8 : v 8 = .int .i64 (z2 - 1) := hj 8 (by kernel_rfl)
    have e7 : v 7 = .bool false := hj 7 (by kernel_rfl)
    simp [putOps, Act.put, e8, e7]
    go_wp2
    exact ⟨rfl, rfl, Ext.refl _, fun d hd => by cases hd; rfl⟩
  case o10 =>
    intro v w' hw hj
    have e9 : v 9 = .bool true := hj 9 (by kernel_rfl)
    have e7 : v 7 = .bool false := hj 7 (by kernel_rfl)
    simp [putOps, Act.put, e9, e7]
    go_wp2
    exact ⟨rfl, rfl, Ext.refl _, fun d hd => by cases hd; rfl⟩
  case o11 =>
    intro v w' hw hj
    have e10 : v 10 = .bool true := hj 10 (by kernel_rfl)
    have c0 : w'.cell? ⟨w3.heap.size, 0, none⟩ = some (.int .u64 (lo (yk) : Nat)) := (hbd.ext hw).cell 0
    have c1 : w'.cell? ⟨w3.heap.size, 1, none⟩ = some (.string (hi (yk))) := (hbd.ext hw).cell 1
    simp [putOps, Act.put, e10]
    go_wp2
    exact ⟨rfl, rfl, Ext.refl _, fun d hd => by cases hd; rfl⟩
  case o12 =>
    intro v w' hw hj
    have e10 : v 10 = .bool true := hj 10 (by kernel_rfl)
    simp [putOps, Act.put, e10]
    go_wp2
    exact ⟨rfl, rfl, Ext.refl _, fun d hd => by cases hd; rfl⟩
  case o13 =>
    intro v w' hw hj
    have e10 : v 10 = .bool true := hj 10 (by kernel_rfl)
    simp [putOps, Act.put, e10]
    go_wp2
    exact ⟨rfl, rfl, Ext.refl _, fun d hd => by cases hd; rfl⟩
  case o14 =>
    intro v w' hw hj
    have e12 : v 12 = p1 := hj 12 (by kernel_rfl)
    have e13 : v 13 = .int .i64 (z2 - 1) := hj 13 (by kernel_rfl)
    have e10 : v 10 = .bool true := hj 10 (by kernel_rfl)
    simp [putOps, Act.put, e12, e13, e10]
    go_wp2_with fail
    refine (HRP.out _ _ (hp4.ext hw)).mono ?_
    rintro e w2 ⟨u, rfl, h1, h2⟩
    go_wp2
    exact ⟨rfl, rfl, h2, fun d hd => by cases hd; exact h1⟩
  case o15 =>
    intro v w' hw hj
    have e11 : v 11 = .agg #[.int .u64 (lo (yk) : Nat), .string (hi (yk))] := hj 11 (by kernel_rfl)
    have e14 : (R32 yk) (v 14) w' := hj 14 (by kernel_rfl)
    have e10 : v 10 = .bool true := hj 10 (by kernel_rfl)
    simp [putOps, Act.put, e11, e10]
    go_wp2_with fail
    refine (cis BK _ e14).mono ?_
    rintro e w2 ⟨rfl, h2⟩
    go_wp2
    exact ⟨rfl, rfl, h2, fun d hd => by cases hd; rfl⟩
  case o16 =>
    intro v w' hw hj
    have e10 : v 10 = .bool true := hj 10 (by kernel_rfl)
    have e15 : v 15 = .bool true := hj 15 (by kernel_rfl)
    have e7 : v 7 = .bool false := hj 7 (by kernel_rfl)
    simp [putOps, Act.put, e10, e15, e7]
    go_wp2
    exact ⟨rfl, rfl, Ext.refl _, fun d hd => by cases hd; rfl⟩
  case o17 =>
    intro v w' hw hj
    have e7 : v 7 = .bool false := hj 7 (by kernel_rfl)
    have e16 : v 16 = .bool true := hj 16 (by kernel_rfl)
    simp [putOps, Act.put, e7, e16]
    go_wp2
    exact ⟨rfl, rfl, Ext.refl _, fun d hd => by cases hd; rfl⟩
  case fin =>
    intro v w' hw hj
    have e17 : v 17 = .bool true := hj 17 75 (by omega) rfl
    simp [putOps, Act.put, e17]
    go_wp2
    go_ret
    exact ⟨rfl, E5.out.trans hw⟩

theorem natShifts_any (l0 : List UInt8) (v0 : Value) (a1 a2 : Int) (w : World) (s0 : SlB l0 v0 w) (b1 : -9223372036854775808 ≤ a1 ∧ a1 ≤ 9223372036854775807) (b2 : -9223372036854775808 ≤ a2 ∧ a2 ≤ 9223372036854775807) :
    Calls Tryd.prog 10 #[v0, .int .i64 a1, .int .i64 a2] w (Ret (.bool true) w) := by
  by_cases hk : a2 % 9 = 0
  · exact natShifts_neg l0 v0 a1 a2 w s0 b1 b2 hk
  · exact natShifts_pos l0 v0 a1 a2 w s0 b1 b2 hk
end Go.Proofs.YtcfpjgcellahnaaDoor

namespace Go.Proofs.YtcfpjgcellahnaaDoor
open Go.ChangeShapes Go.WideShapes Go.ChangeAt Go.RowKit

set_option maxRecDepth 100000 in
theorem natShifts_contract (H : Type) (enc : TypeId × Value → H) (W : World) (base : Nat) (args : Array Value) (ds gs : List (DataW H)) (before : List MemPlace)
    (hval : ∀ (j : Nat) t v, Tryd.f10.params[j]? = some t → args[j]? = some v → Value.okWide Tryd.prog W .any base t v)
    (hW : DataW.Whole enc Tryd.prog Tryd.f10.params.toList Rows.natShiftsSpec.vars false W args.toList ds gs before) :
    Calls Tryd.prog 10 args W fun e W' => ∃ v, e = .returned v ∧ Rows.natShiftsSpec.post enc Tryd.prog Tryd.f10 false true false false W args v W' := by
  have hW' := hW
  obtain ⟨p, q, hA0, hV, rfl, hfz, hnd⟩ := hW
  have hA : DataW.TrodAll enc Tryd.prog W 0 (fun _ => true) true Tryd.f10.params.toList args.toList ds p := hA0
  rw [Tryd.params10] at hA hval
  obtain ⟨v0, vs0, d0, ds0, p0, q0, hargs, rfl, rfl, h0, r0⟩ := trodAll_cons hA
  obtain ⟨v1, vs1, d1, ds1, p1, q1, rfl, rfl, rfl, h1, r1⟩ := trodAll_cons r0
  obtain ⟨v2, vs2, d2, ds2, p2, q2, rfl, rfl, rfl, h2, r2⟩ := trodAll_cons r1
  obtain ⟨rfl, rfl, rfl⟩ := trodAll_nil r2
  obtain rfl : args = #[v0, v1, v2] := by cases args; simp_all
  obtain ⟨rfl, rfl⟩ := trodVars_none hV
  obtain ⟨l0, s0⟩ := open_bytes (hval 0 35 v0 rfl rfl) h0
  obtain ⟨a1, rfl, rfl, rfl, w1⟩ := open_int Tryd.underlying3 (hval 1 3 v1 rfl rfl) h1
  have b1 : -9223372036854775808 ≤ a1 ∧ a1 ≤ 9223372036854775807 := by
    have h := w1
    simp only [Lit.wf, Bool.and_eq_true, decide_eq_true_eq] at h
    exact h
  obtain ⟨a2, rfl, rfl, rfl, w2⟩ := open_int Tryd.underlying3 (hval 2 3 v2 rfl rfl) h2
  have b2 : -9223372036854775808 ≤ a2 ∧ a2 ≤ 9223372036854775807 := by
    have h := w2
    simp only [Lit.wf, Bool.and_eq_true, decide_eq_true_eq] at h
    exact h
  clear hA0
  refine (natShifts_any l0 v0 a1 a2 W s0 b1 b2).mono fun e W' ⟨he, hg⟩ => ?_
  subst he
  exact ⟨_, rfl, law_post rfl rfl (fun t ht => by
    rw [Tryd.params10] at ht
    have hall : ([35, 3, 3].all fun u => Tryd.prog.readableRec u && decide (u < Tryd.prog.types.size)) = true := by kernel_rfl
    have := List.all_eq_true.1 hall t (by simpa using ht)
    simpa using this) hW' ⟨rfl, rfl, rfl⟩ hg⟩

theorem natShifts_met (os : Os) : laidMet Tryd.prog Rows.natShiftsRow.laid ((laidWorld os).forCall (fun _ _ => 0) ⟨#[], #[.slice none 0 0, .int .i64 0, .int .i64 0], []⟩).memory :=
  laidMet_of_run' 8 (by kernel_rfl) (by kernel_rfl)
theorem natShifts_reads (os : Os) {H : Type} (enc : TypeId × Value → H) : ∃ places, DataW.whole enc Tryd.prog ((laidWorld os).forCall (fun _ _ => 0) ⟨#[], #[.slice none 0 0, .int .i64 0, .int .i64 0], []⟩).memory Tryd.f10.params.toList Rows.natShiftsSpec.vars false (#[.slice none 0 0, .int .i64 0, .int .i64 0] : Array Value).toList 8 = some ([.nil, .lit (.int .i64 0), .lit (.int .i64 0)], [], places) :=
  ⟨[], by kernel_rfl⟩

set_option maxRecDepth 100000 in
theorem natShifts_lifted (os : Os) (started : os.Started) (H : Type) (enc : TypeId × Value → H) (F : Stop.Interp) :
    ReturnsInHanded {} Tryd.checked os 10 .any ((OpenSpec.ofChange Rows.natShiftsSpec).preRow enc Tryd.prog Tryd.f10 Rows.natShiftsRow.domain false Rows.natShiftsRow.laid) (((OpenSpec.ofChange Rows.natShiftsSpec).at F).post enc Tryd.prog Tryd.f10 false true false false) := by
  obtain ⟨places, hx⟩ := natShifts_reads os enc
  refine returnsInHanded_of_row (C := Tryd.checked) (s := OpenSpec.ofChange Rows.natShiftsSpec) own started (by kernel_rfl) Tryd.func10
    (witness_row_at (enc := enc) (C := Tryd.checked) false (laidWorld os) #[.slice none 0 0, .int .i64 0, .int .i64 0] rfl (by kernel_rfl) (by kernel_rfl) (by kernel_rfl)
      (OpenSpec.preRow_of_cond 8 hx (by kernel_rfl) (fun k hk => by cases hk) (by kernel_rfl) (natShifts_met os))) ?_
  intro W base args ds gs before hval hW _ _ _ hL _ _
  exact natShifts_contract H enc W base args ds gs before hval hW

theorem natShifts_holds : Rows.NatShiftsSaid :=
  OpenClaim.holds_of_cond 10 Tryd.f10 rfl rfl rfl rfl rfl rfl rfl ⟨rfl, rfl, rfl, rfl, rfl⟩ rfl rfl rfl rfl rfl (by kernel_rfl) Tryd.func10 (by kernel_rfl)
    (of_decide_eq_true (by kernel_rfl)) (by unfold Func.isWrapper; first | (rw [if_pos (by decide +kernel)]; kernel_rfl) | (rw [if_neg (by decide +kernel)]; exact ⟨rfl, rfl⟩))
    (fun os started H enc _ F => by rw [OpenClaim.pre_eq_preRow]; exact natShifts_lifted os started H enc F)

theorem natShifts_plain (f : FuncId) (fn : Func) (hf : Tryd.pinned.checked.prog.funcNamed "abaculus/abaculuslaw1.NatShifts" = some f) (hfn : Tryd.pinned.checked.prog.funcs[f]? = some fn) :
    false = Tryd.pinned.checked.prog.looks [] ∧ ∀ (j : Nat) t, fn.params[j]? = some t → Tryd.pinned.checked.prog.wantsStandIn t = false := by
  obtain rfl : f = 10 := Option.some.inj ((show Tryd.prog.funcNamed "abaculus/abaculuslaw1.NatShifts" = some 10 by kernel_rfl).symm.trans hf) |>.symm
  obtain rfl : fn = Tryd.f10 := (Option.some.inj (Tryd.func10.symm.trans hfn)).symm
  refine ⟨by kernel_rfl, fun j t ht => ?_⟩
  rw [Tryd.params10] at ht
  have hm : t ∈ [35, 3, 3] := by simpa using Array.mem_of_getElem? ht
  have hall : ([35, 3, 3].all fun u => !Tryd.prog.wantsStandIn u) = true := by kernel_rfl
  exact (show Tryd.prog.wantsStandIn t = false by simpa using List.all_eq_true.1 hall t hm)

theorem natShiftsCard_holds : Rows.NatShiftsCardSaid :=
  Claim7.holds_tied_plain_at .later [] _ _ _ _ natShifts_holds (fun _ h => by cases h) (by kernel_rfl) (fun _ h => by cases h) natShifts_row_tie rfl ⟨rfl, rfl⟩ (by kernel_rfl) rfl natShifts_plain (by kernel_rfl)
#print axioms natShiftsCard_holds
end Go.Proofs.YtcfpjgcellahnaaDoor
