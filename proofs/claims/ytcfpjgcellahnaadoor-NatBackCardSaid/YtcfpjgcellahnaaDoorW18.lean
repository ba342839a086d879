/- Walks: the document's trim, NatOf, NatBits. -/
import Derived.Test.YtcfpjgcellahnaaDoorRef
namespace Go.Proofs.YtcfpjgcellahnaaDoor
open Go.RowKit

set_option maxHeartbeats 1000000 in
theorem trim32_nil (A : Option Addr) (c : Nat) (w : World) : Calls Tryd.prog 80 #[.slice A 0 c] w fun e w' => e = .returned (.slice A 0 c) ∧ w' = w := by
  go_enter Tryd.func80, Tryd.ntmps80
  go_wp2
  go_rounds 1
  rcases A with _ | A
  all_goals
    go_ret
    exact ⟨rfl, rfl⟩

set_option maxHeartbeats 1000000 in
theorem trim32_core (g off c : Nat) (xs : List Nat) (w : World) (hl : xs.length ≤ c) (hc : xs.length ≤ 1099511627776) (hd : Dig B32 xs) (hcell : ∀ i, i < xs.length → w.cell? ⟨g, off + i, none⟩ = some (.int .u32 (xs.getD i 0 : Nat))) :
    Calls Tryd.prog 80 #[.slice (some ⟨g, off, none⟩) xs.length c] w fun e w' => e = .returned (.slice (some ⟨g, off, none⟩) (limbs B32 (val B32 xs)).length c) ∧ w' = w := by
  have HC := Lib.hid hcell
  clear hcell
  go_enter Tryd.func80, Tryd.ntmps80
  go_wp2
  go_loop [3] (fun v => ∃ m : Nat, m ≤ xs.length ∧ v = .int .i64 m ∧ Hid (val B32 (xs.take m) = val B32 xs)) (fun v => (intOf v).toNat)
  case atStart => exact ⟨xs.length, Nat.le_refl _, rfl, Lib.hid (by rw [List.take_length])⟩
  case round =>
    obtain ⟨m, hm, rfl, hv⟩ := hrel
    by_cases hm0 : m = 0
    · subst hm0
      go_wp2
      go_ret
      refine ⟨?_, rfl⟩
      have := trim_end B32_two hd hm hv.out (by omega)
      rw [this]; simp
    · obtain ⟨m, rfl⟩ : ∃ k, m = k + 1 := ⟨m - 1, by omega⟩
      have hcm := HC.out m (by omega)
      by_cases hx : xs.getD m 0 = 0
      · rw [hx] at hcm
        go_wp2
        go_round
        case rel => exact ⟨m, by omega, rfl, Lib.hid (by rw [← trim_step hx]; exact hv.out)⟩
        case measure => simp [intOf]
      · have hb : ((xs.getD m 0 : Nat) : Int) ≠ 0 := by omega
        have hb' : (((xs.getD m 0 : Nat) : Int) == 0) = false := beq_eq_false_iff_ne.2 hb
        generalize hy : xs.getD m 0 = y at *
        have HY := Lib.hid hy
        clear hy
        go_wp2
        go_ret
        refine ⟨?_, rfl⟩
        have := trim_end B32_two hd hm hv.out (fun _ => by rw [Nat.add_sub_cancel, HY.out]; exact hx)
        rw [this, List.length_take, Nat.min_eq_left hm]
        rfl

theorem trim32_any {xs : List Nat} {v : Value} {w : World} (h : Sl32 xs v w) (hc : xs.length ≤ 1099511627776) (hd : Dig B32 xs) :
    Calls Tryd.prog 80 #[v] w fun e w' => ∃ v', e = .returned v' ∧ R32 (val B32 xs) v' w ∧ w' = w := by
  obtain ⟨A, c, rfl, hl, hh⟩ := h
  by_cases hx : xs = []
  · subst hx
    refine (trim32_nil A c w).mono ?_
    rintro e w' ⟨rfl, rfl⟩
    refine ⟨_, rfl, ?_, rfl⟩
    unfold R32
    rw [val_nil, limbs_zero]
    exact ⟨A, c, rfl, hl, fun h => absurd rfl h⟩
  · obtain ⟨g, off, rfl, hg, hcell⟩ := hh hx
    refine (trim32_core g off c xs w hl hc hd hcell).mono ?_
    rintro e w' ⟨rfl, rfl⟩
    have hle := limbs_length_le B32_two hd
    refine ⟨_, rfl, ⟨_, c, rfl, Nat.le_trans hle hl, fun _ => ⟨g, off, rfl, hg, fun i hi => ?_⟩⟩, rfl⟩
    rw [hcell i (by omega), limbs_getD_of B32_two hd hi]

set_option maxHeartbeats 1000000 in
theorem refOf_any (n : Nat) (hn : n < B64) (w : World) :
    Calls Tryd.prog 23 #[.int .u64 n] w (RetS (R32 n) w) := by
  have h1 : n % B32 < B32 := Nat.mod_lt _ (by unfold B32; omega)
  have h2 : n / B32 < B32 := by unfold B32; unfold B64 at hn; omega
  have hd : Dig B32 [n % B32, n / B32] := Dig.cons h1 (Dig.cons h2 (Dig.nil _))
  have hv : val B32 [n % B32, n / B32] = n := by simp only [val_cons, val_nil]; have := Nat.mod_add_div n B32; omega
  have HT : Hid (∀ W g, Blk W g 107 (V32 [n % B32, n / B32]) → Calls Tryd.prog 80 #[.slice (some ⟨g, 0, none⟩) 2 2] W fun e w' => ∃ v', e = .returned v' ∧ R32 n v' W ∧ w' = W) := Lib.hid (fun W g hb => by
    have h := trim32_any (Sl32.of_blk hb) (by simp) hd
    rw [hv] at h
    exact h)
  have hm : (n : Int) % 4294967296 = ((n % B32 : Nat) : Int) := by unfold B32; omega
  have hq : (n : Int) / 4294967296 = ((n / B32 : Nat) : Int) := by unfold B32; omega
  have hq2 : ((n / B32 : Nat) : Int) % 4294967296 = ((n / B32 : Nat) : Int) := by unfold B32 at *; omega
  have HH1 := Lib.hid hm
  have HH2 := Lib.hid hq
  have HH3 := Lib.hid hq2
  clear h1 h2 hd hv hn hm hq hq2
  generalize n % B32 = a at *
  generalize n / B32 = b at *
  go_enter Tryd.func23, Tryd.ntmps23
  go_wp2_with fail
  rw [HH2.out, HH3.out, HH1.out]
  refine (HT.out _ _ (Blk.new w 107 (V32 [a, b]))).mono ?_
  rintro e w1 ⟨v, rfl, hr, rfl⟩
  have HR := Lib.hid hr
  clear hr
  go_wp2
  go_ret
  exact ⟨_, rfl, HR.out, (Ext.refl w).alloc _⟩

set_option maxHeartbeats 1000000 in
theorem refBits_any (m : Nat) (v : Value) (w : World) (h : R32 m v w) (hm : bl m ≤ 1099511627776) :
    Calls Tryd.prog 33 #[v] w fun e w' => e = .returned (.int .i64 (bl m : Nat)) ∧ w' = w := by
  obtain ⟨A, c, rfl, hl, hh⟩ := h
  by_cases h0 : m = 0
  · subst h0
    rw [bl_zero, limbs_zero]
    clear hh
    go_enter Tryd.func33, Tryd.ntmps33
    go_wp2
    go_ret
    exact ⟨rfl, rfl⟩
  · have hne : limbs B32 m ≠ [] := fun e => h0 ((limbs_eq_nil B32_two).1 e)
    obtain ⟨g, off, rfl, hg, hcell⟩ := hh hne
    have hb := bl_top32 m h0
    have hp := limbs_length_pos B32_two h0
    have ht := (limbs_dig B32_two m).getD (by unfold B32; omega) ((limbs B32 m).length - 1)
    have hc := hcell ((limbs B32 m).length - 1) (by omega)
    clear hcell hh hne
    generalize (limbs B32 m).getD ((limbs B32 m).length - 1) 0 = t at *
    generalize (limbs B32 m).length = l at *
    obtain ⟨l, rfl⟩ : ∃ j, l = j + 1 := ⟨l - 1, by omega⟩
    rw [Nat.add_sub_cancel] at hb hc
    have HB := Lib.hid hb
    have ht' : (t : Int) ≤ 4294967295 := by unfold B32 at ht; omega
    have hl' : (l : Int) ≤ 34359738368 := by omega
    have hmi : ((bl m : Nat) : Int) ≤ 1099511627776 := by omega
    clear hb ht hp hm h0
    have hbt : bl t ≤ bl m := by have := HB.out; omega
    go_enter Tryd.func33, Tryd.ntmps33
    go_wp2
    go_loop [3, 4] (fun a b => ∃ j x : Nat, a = .int .i64 (32 * (l : Int) + j) ∧ b = .int .u32 x ∧ (x : Int) ≤ 4294967295 ∧ j + bl x = bl t) (fun _ b => (intOf b).toNat)
    case atStart => exact ⟨0, t, by simp, rfl, ht', by simp⟩
    case round =>
      obtain ⟨j, x, rfl, rfl, hx, hj⟩ := hrel
      by_cases hx0 : x = 0
      · subst hx0
        rw [bl_zero] at hj
        have HJ := Lib.hid hj
        clear hj
        go_wp2
        go_ret
        refine ⟨?_, rfl⟩
        have := HB.out
        have := HJ.out
        show Ending.returned (.int .i64 (32 * (l : Int) + j)) = _
        congr 2; omega
      · have hhx := bl_half hx0
        have HJ := Lib.hid hj
        have HX := Lib.hid hhx
        have hxp : (0 : Int) < x := by omega
        have hjt : (j : Int) + 32 * (l : Int) ≤ 1099511627776 := by have := HB.out; omega
        clear hj hhx
        go_wp2
        go_round
        case rel =>
          refine ⟨j + 1, x / 2, by congr 1, by congr 1, by omega, ?_⟩
          have := HJ.out; have := HX.out; omega
        case measure => simp [intOf]; omega
end Go.Proofs.YtcfpjgcellahnaaDoor
