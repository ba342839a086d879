/- Walks: Shift. -/
import Derived.Test.YtcfpjgcellahnaaDoorW10
import Derived.Test.YtcfpjgcellahnaaDoorW8
import Derived.Lib.MinMax
namespace Go.Proofs.YtcfpjgcellahnaaDoor
open Go.RowKit

theorem shiftUp_mw {a l n : Nat} {v : Value} (w : World) (h : Mw a l v w) (hl : l ≤ 8589934593) (hn : n ≤ 549755813888) :
    Calls Tryd.prog 96 #[v, .int .i64 n] w (RetS (Mw (a * 2 ^ n) (l + n / 64 + 1)) w) := by
  obtain ⟨xs, base, r1, r2, r3, r4⟩ := h
  refine (shiftUp_any v xs n w r4.rd (by omega) hn r2).mono ?_
  rintro e w' ⟨v', rfl, ⟨zs, t1, t2, t3, t4⟩, hx⟩
  exact ⟨v', rfl, ⟨zs, _, by omega, t2, by rw [t3, r3], t4⟩, hx⟩
theorem shiftDown_mw {a l n : Nat} {v : Value} (w : World) (h : Mw a l v w) (hl : l ≤ 8589934593) (hn : n ≤ 549755813888) :
    Calls Tryd.prog 97 #[v, .int .i64 n] w (RetS (Mw (a / 2 ^ n) l) w) := by
  obtain ⟨xs, base, r1, r2, r3, r4⟩ := h
  refine (shiftDown_any v xs n w r4.rd (by omega) hn r2).mono ?_
  rintro e w' ⟨v', rfl, ⟨zs, t1, t2, t3, t4⟩, hx⟩
  exact ⟨v', rfl, ⟨zs, _, by omega, t2, by rw [t3, r3], t4⟩, hx⟩

/-- Two boxes: an argument and the result. -/
theorem boxes2 (w W : World) (la sa : Value) (h : (w.alloc (.cells #[la, sa] 24)).alloc (.cells #[.int .u64 0, .string ⟨#[]⟩] 24) = W) :
    Blk W w.heap.size 24 [la, sa] ∧ Blk W (w.heap.size + 1) 24 [.int .u64 0, .string ⟨#[]⟩] ∧ Ext w W := by
  subst h
  refine ⟨(Blk.new w _ [la, sa]).alloc _, ?_, ((Ext.refl w).alloc _).alloc _⟩
  have h := Blk.new (w.alloc (.cells #[la, sa] 24)) 24 [.int .u64 0, .string ⟨#[]⟩]
  rw [World.size_alloc] at h
  exact h

set_option maxHeartbeats 1000000 in
theorem shift_up (a n : Nat) (ha : bl a ≤ 549755813888) (hn : n ≤ 65536) (w : World) :
    Calls Tryd.prog 39 #[.agg #[.int .u64 (lo a : Nat), .string (hi a)], .int .i64 n] w (Ret (.agg #[.int .u64 (lo (a * 2 ^ n) : Nat), .string (hi (a * 2 ^ n))]) w) := by
  have HA := Lib.hid (fun W => words_mw a ha W)
  have HU : Hid (∀ W v, Mw a 8589934593 v W → Calls Tryd.prog 96 #[v, .int .i64 n] W (RetS (Mw (a * 2 ^ n) 9000000000) W)) := Lib.hid (fun W v h => (shiftUp_mw W h (by omega) (by omega)).mono (fun _ _ ⟨v', he, ⟨zs, b, h1, h2⟩, hx⟩ => ⟨v', he, ⟨zs, b, by omega, h2⟩, hx⟩))
  have HF : Hid (∀ W v, Mw (a * 2 ^ n) 9000000000 v W → Calls Tryd.prog 77 #[v] W (Ret (.agg #[.int .u64 (lo (a * 2 ^ n) : Nat), .string (hi (a * 2 ^ n))]) W)) := Lib.hid (fun W v h => fromWords_mw W h (by omega))
  generalize a * 2 ^ n = m at *
  generalize lo m = lr at *
  generalize hi m = sr at *
  generalize lo a = la at *
  generalize hi a = sa at *
  have m1 : min (n : Int) 65536 = n := by omega
  have m2 : max (-65536) (n : Int) = n := by omega
  have h0 : (0 : Int) ≤ n := by omega
  clear hn ha
  generalize (n : Int) = z at *
  go_enter Tryd.func39, Tryd.ntmps39
  go_wp2_with fail
  generalize hW : (w.alloc (.cells #[.int .u64 la, .string sa] 24)).alloc (.cells #[.int .u64 0, .string ⟨#[]⟩] 24) = W
  obtain ⟨_, hr, hx⟩ := boxes2 w W _ _ hW
  have HR := Lib.hid hr
  have HX := Lib.hid hx
  clear hr hx hW
  refine (HA.out _).mono ?_
  rintro e w1 ⟨v1, rfl, hv1, hx1⟩
  have HV1 := Lib.hid hv1
  clear hv1
  go_wp2_with fail
  refine (HU.out _ _ HV1.out).mono ?_
  rintro e w2 ⟨v2, rfl, hv2, hx2⟩
  have HV2 := Lib.hid hv2
  clear hv2
  go_wp2_with fail
  refine (HF.out _ _ HV2.out).mono ?_
  rintro e w3 ⟨rfl, hx3⟩
  have he : Ext w w3 := HX.out.trans (hx1.trans (hx2.trans hx3))
  have hr3 := ((HR.out.ext hx1).ext hx2).ext hx3
  have r0 : w3.cell? ⟨w.heap.size + 1, 0, none⟩ = some (.int .u64 0) := hr3.cell 0
  have r1 : w3.cell? ⟨w.heap.size + 1, 1, none⟩ = some (.string ⟨#[]⟩) := hr3.cell 1
  have f0 : w3.frozen? ⟨w.heap.size + 1, 0, none⟩ = false := hr3.frozen 0
  have f1 : w3.frozen? ⟨w.heap.size + 1, 1, none⟩ = false := hr3.frozen 1
  go_wp2
  refine ret_nat (w.heap.size + 1) _ _ rfl rfl ((hr3.set 0 _).set 1 _) rfl ⟨rfl, ?_⟩
  exact (Below.setCell he (p := ⟨w.heap.size + 1, 0, none⟩) (by show _ ≤ _; simp) _).setCell (p := ⟨w.heap.size + 1, 1, none⟩) (by show _ ≤ _; simp) _

set_option maxHeartbeats 1000000 in
theorem shift_down (a n : Nat) (ha : bl a ≤ 549755813888) (h1 : 1 ≤ n) (hn : n ≤ 65536) (w : World) :
    Calls Tryd.prog 39 #[.agg #[.int .u64 (lo a : Nat), .string (hi a)], .int .i64 (-(n : Int))] w (Ret (.agg #[.int .u64 (lo (a / 2 ^ n) : Nat), .string (hi (a / 2 ^ n))]) w) := by
  have HA := Lib.hid (fun W => words_mw a ha W)
  have HU : Hid (∀ W v, Mw a 8589934593 v W → Calls Tryd.prog 97 #[v, .int .i64 n] W (RetS (Mw (a / 2 ^ n) 9000000000) W)) := Lib.hid (fun W v h => (shiftDown_mw W h (by omega) (by omega)).mono (fun _ _ ⟨v', he, ⟨zs, b, h1, h2⟩, hx⟩ => ⟨v', he, ⟨zs, b, by omega, h2⟩, hx⟩))
  have HF : Hid (∀ W v, Mw (a / 2 ^ n) 9000000000 v W → Calls Tryd.prog 77 #[v] W (Ret (.agg #[.int .u64 (lo (a / 2 ^ n) : Nat), .string (hi (a / 2 ^ n))]) W)) := Lib.hid (fun W v h => fromWords_mw W h (by omega))
  generalize a / 2 ^ n = m at *
  generalize lo m = lr at *
  generalize hi m = sr at *
  generalize lo a = la at *
  generalize hi a = sa at *
  have m1 : min (-(n : Int)) 65536 = -n := by omega
  have m2 : max (-65536) (-(n : Int)) = -n := by omega
  have h0 : (1 : Int) ≤ n := by omega
  have h2 : (n : Int) ≤ 65536 := by omega
  clear h1
  clear hn ha
  generalize (n : Int) = z at *
  go_enter Tryd.func39, Tryd.ntmps39
  go_wp2_with fail
  generalize hW : (w.alloc (.cells #[.int .u64 la, .string sa] 24)).alloc (.cells #[.int .u64 0, .string ⟨#[]⟩] 24) = W
  obtain ⟨_, hr, hx⟩ := boxes2 w W _ _ hW
  have HR := Lib.hid hr
  have HX := Lib.hid hx
  clear hr hx hW
  refine (HA.out _).mono ?_
  rintro e w1 ⟨v1, rfl, hv1, hx1⟩
  have HV1 := Lib.hid hv1
  clear hv1
  go_wp2_with fail
  refine (HU.out _ _ HV1.out).mono ?_
  rintro e w2 ⟨v2, rfl, hv2, hx2⟩
  have HV2 := Lib.hid hv2
  clear hv2
  go_wp2_with fail
  refine (HF.out _ _ HV2.out).mono ?_
  rintro e w3 ⟨rfl, hx3⟩
  have he : Ext w w3 := HX.out.trans (hx1.trans (hx2.trans hx3))
  have hr3 := ((HR.out.ext hx1).ext hx2).ext hx3
  have r0 : w3.cell? ⟨w.heap.size + 1, 0, none⟩ = some (.int .u64 0) := hr3.cell 0
  have r1 : w3.cell? ⟨w.heap.size + 1, 1, none⟩ = some (.string ⟨#[]⟩) := hr3.cell 1
  have f0 : w3.frozen? ⟨w.heap.size + 1, 0, none⟩ = false := hr3.frozen 0
  have f1 : w3.frozen? ⟨w.heap.size + 1, 1, none⟩ = false := hr3.frozen 1
  go_wp2
  refine ret_nat (w.heap.size + 1) _ _ rfl rfl ((hr3.set 0 _).set 1 _) rfl ⟨rfl, ?_⟩
  exact (Below.setCell he (p := ⟨w.heap.size + 1, 0, none⟩) (by show _ ≤ _; simp) _).setCell (p := ⟨w.heap.size + 1, 1, none⟩) (by show _ ≤ _; simp) _
end Go.Proofs.YtcfpjgcellahnaaDoor
