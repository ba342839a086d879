/- Walks: known. -/
import Derived.Test.YtcfpjgcellahnaaDoorW14
namespace Go.Proofs.YtcfpjgcellahnaaDoor
open Go.RowKit

/-- The texts of one digit. -/
def digitText (d : Nat) : ByteArray := ⟨#[UInt8.ofNat (48 + d)]⟩

set_option maxHeartbeats 1000000 in
theorem formatUint_digit (d : Nat) (h : d = 1 ∨ d = 3 ∨ d = 4) (w : World) :
    Calls Tryd.prog 89 #[.int .u64 d, .int .i64 10] w fun e w' => e = .returned (.string (digitText d)) ∧ w' = w := by
  have h128 : ∀ W, Calls Tryd.prog 128 #[.int .i64 d] W fun e w' => e = .returned (.string (digitText d)) ∧ w' = W := by
    intro W
    rcases h with rfl | rfl | rfl
    all_goals
      go_enter Tryd.func128, Tryd.ntmps128
      go_wp2
      go_ret
      exact ⟨rfl, rfl⟩
  have h113 : ∀ W, Calls Tryd.prog 113 #[.int .u64 d, .int .i64 10] W fun e w' => e = .returned (.string (digitText d)) ∧ w' = W := by
    intro W
    have H := Lib.hid h128
    clear h128
    have h1 : (d : Int) < 100 := by omega
    have h2 : (0 : Int) ≤ d := by omega
    generalize digitText d = t at *
    clear h
    generalize (d : Int) = z at *
    go_enter Tryd.func113, Tryd.ntmps113
    go_wp2_with (go_at_call 128; refine (H.out _).mono ?_; rintro e w' ⟨rfl, rfl⟩)
    go_ret
    exact ⟨rfl, rfl⟩
  have H := Lib.hid h113
  clear h128 h113 h
  generalize digitText d = t at *
  generalize (d : Int) = z at *
  go_enter Tryd.func89, Tryd.ntmps89
  go_wp2_with (go_at_call 113; refine (H.out _).mono ?_; rintro e w' ⟨rfl, rfl⟩)
  go_ret
  exact ⟨rfl, rfl⟩

set_option maxHeartbeats 1000000 in
theorem text_small (n : Nat) (hn : n < B64) (t : ByteArray) (hf : ∀ W, Calls Tryd.prog 89 #[.int .u64 n, .int .i64 10] W (Ret (.string t) W)) (w : World) :
    Calls Tryd.prog 31 #[.agg #[.int .u64 (lo (n) : Nat), .string (hi (n))]] w (Ret (.string t) w) := by
  have HW := Lib.hid (fun W => words_any n (by have : bl n ≤ 64 := bl_le hn; omega) W)
  have hl : (limbs B64 n).length ≤ 1 := (limbs_length_le_iff B64_two n 1).2 (by simpa using hn)
  have HF := Lib.hid hf
  rw [lo_small hn, hi_small hn] at *
  clear hf hn
  generalize limbs B64 n = L at *
  generalize (n : Int) = z at *
  go_enter Tryd.func31, Tryd.ntmps31
  go_wp2_with fail
  refine (HW.out _).mono ?_
  rintro e w1 ⟨v, rfl, hfr, hx⟩
  obtain ⟨A, c, rfl, _⟩ := fresh_form hfr
  have hb := (Blk.new w 24 [.int .u64 z, .string ⟨#[]⟩]).ext hx
  have c0 : w1.cell? ⟨w.heap.size, 0, none⟩ = some (.int .u64 z) := hb.cell 0
  have HX := Lib.hid hx
  clear hfr hb hx
  have hl' : (L.length : Int) ≤ 1 := by omega
  generalize (L.length : Nat) = l at *
  go_wp2_with fail
  refine (HF.out _).mono ?_
  rintro e w2 ⟨rfl, hx2⟩
  go_wp2
  go_ret
  exact ⟨rfl, (((Ext.refl w).alloc _).trans HX.out).trans hx2⟩

set_option maxHeartbeats 1000000 in
theorem parse_007 (w : World) : Calls Tryd.prog 29 #[.string ⟨#[48, 48, 55]⟩] w (Ret (.tuple #[.agg #[.int .u64 (lo (0) : Nat), .string (hi (0))], .bool false]) w) := by
  have e1 : lo 0 = 0 := rfl
  have e2 : hi 0 = ⟨#[]⟩ := hi_small (by unfold B64; omega)
  rw [e1, e2]
  clear e1 e2
  go_enter Tryd.func29, Tryd.ntmps29
  go_wp2
  go_returns
  exact ⟨rfl, (Ext.refl w).alloc _⟩
end Go.Proofs.YtcfpjgcellahnaaDoor
