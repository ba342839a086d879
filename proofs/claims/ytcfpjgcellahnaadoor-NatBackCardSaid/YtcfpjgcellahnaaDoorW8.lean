/- Walks: shiftDown. -/
import Derived.Test.YtcfpjgcellahnaaDoorW7
import Derived.RegionTactic
import Derived.BigRegion
namespace Go.Proofs.YtcfpjgcellahnaaDoor
open Go.RowKit

set_option maxHeartbeats 1000000 in
theorem shiftDown_none (v : Value) (xs : List Nat) (n : Nat) (w : World) (hr : Rd w xs v) (hx : xs.length ≤ 8589934593) (hn : n ≤ 549755813888) (hq : xs.length ≤ n / 64) :
    Calls Tryd.prog 97 #[v, .int .i64 n] w fun e w' => e = .returned (.slice none 0 0) ∧ w = w' := by
  obtain ⟨A, c, rfl, hh⟩ := hr
  clear hh
  go_enter Tryd.func97, Tryd.ntmps97
  go_wp2
  go_ret
  exact ⟨rfl, rfl⟩

set_option maxHeartbeats 1000000 in
theorem shiftDown_core (g off c : Nat) (xs : List Nat) (n : Nat) (w : World) (hg : g < w.heap.size) (hcell : ∀ i, i < xs.length → w.cell? ⟨g, off + i, none⟩ = some (.int .u64 (xs.getD i 0 : Nat))) (hx : xs.length ≤ 8589934593) (hn : n ≤ 549755813888) (hd : Dig B64 xs) (hq : n / 64 < xs.length) :
    Calls Tryd.prog 97 #[.slice (some ⟨g, off, none⟩) xs.length c, .int .i64 n] w (RetS (Fresh w.heap.size (dn (n % 64) (xs.drop (n / 64)))) w) := by
  have HH := Lib.hid hcell
  clear hcell
  have hlen : (dn (n % 64) (xs.drop (n / 64))).length = xs.length - n / 64 := by rw [dn_length]; simp
  have HL := Lib.hid hlen
  clear hlen
  go_enter Tryd.func97, Tryd.ntmps97
  go_wp2_with (at_make; refine wpList_mk _ rfl (.tmp 21) (.tmp 21) 104 22 rfl (.int .u64 0) 8 Tryd.underlying104 info64 rfl .i64 .i64 _ _ (xs.length - n / 64) rfl rfl ?c1 ?c1' ?c2 ?c3 ?_)
  case c1 => omega
  case c1' => omega
  case c2 => omega
  case c3 => omega
  intro w1 hx1 hs1 hb1
  rw [rep_U] at hb1
  have HX := Lib.hid hx1
  have HB := Lib.hid hb1
  clear hx1 hb1
  go_wp2
  go_loopw [25] (fun i wr => ∃ (k : Nat), k ≤ xs.length - n / 64 ∧ i = .int .i64 k ∧ Hid (Blk wr w.heap.size 22 (U (filling (dn (n % 64) (xs.drop (n / 64))) k))) ∧ Hid (But w.heap.size w1 wr)) (fun i _ => xs.length - n / 64 - (intOf i).toNat)
  case atStart =>
    refine ⟨0, Nat.zero_le _, rfl, Lib.hid ?_, Lib.hid (But.refl _ _)⟩
    have h := HB.out
    rw [← HL.out] at h
    exact h
  case round =>
    obtain ⟨k, hk, rfl, hbk, hbut⟩ := hrel
    by_cases hkx : k < xs.length - n / 64
    · have hcx : ∀ j, j < xs.length → ∀ W, But w.heap.size w1 W → W.cell? ⟨g, off + j, none⟩ = some (.int .u64 (xs.getD j 0 : Nat)) := fun j hj W hW => by
        rw [← HX.out.keep (HH.out j hj)]
        exact World.cell?_of_block (hW.block g (by have := HX.out.size; omega) (fun e => by injection e with e; omega))
      have hc1 := hcx (k + n / 64) (by omega) wr hbut.out
      have hc2 : k + n / 64 + 1 < xs.length → wr.cell? ⟨g, off + (k + n / 64 + 1), none⟩ = some (.int .u64 (xs.getD (k + n / 64 + 1) 0 : Nat)) := fun h => hcx (k + n / 64 + 1) h wr hbut.out
      have hfl := filling_length (dn (n % 64) (xs.drop (n / 64))) k (by rw [HL.out]; omega)
      have hd1 : wr.cell? ⟨w.heap.size, k, none⟩ = some (.int .u64 ((filling (dn (n % 64) (xs.drop (n / 64))) k).getD k 0 : Nat)) := by rw [hbk.out.cell, getD_U _ _ (by rw [hfl, HL.out]; exact hkx)]
      have hf1 : wr.frozen? ⟨w.heap.size, k, none⟩ = false := hbk.out.frozen _
      have hxd : xs.getD (k + n / 64) 0 < B64 := hd.getD (by unfold B64; omega) _
      have hne : g ≠ w.heap.size := by omega
      have hE : (dn (n % 64) (xs.drop (n / 64)))[k]'(by rw [HL.out]; exact hkx) = dnW (xs.getD (k + n / 64) 0) (xs.getD (k + n / 64 + 1) 0) (n % 64) := by
        rw [dn_get, getD_drop, getD_drop]
        congr 2 <;> omega
      have HE := Lib.hid hE
      clear hcx hfl hE
      generalize (filling (dn (n % 64) (xs.drop (n / 64))) k).getD k 0 = o at *
      by_cases hk2 : k + n / 64 + 1 < xs.length
      · have hc2' := hc2
        have hc2 := hc2' hk2
        generalize xs.getD (k + n / 64) 0 = x at *
        generalize xs.getD (k + n / 64 + 1) 0 = x2 at *
        clear hc2'
        go_wp2
        have hb2 := hbk.out.set k (.int .u64 ((x / 2 ^ (n % 64) : Nat) : Int))
        have hbut2 := hbut.out.set k (.int .u64 ((x / 2 ^ (n % 64) : Nat) : Int))
        have hc2w : (wr.setCell ⟨w.heap.size, k, none⟩ (.int .u64 ((x / 2 ^ (n % 64) : Nat) : Int))).cell? ⟨g, off + (k + n / 64 + 1), none⟩ = some (.int .u64 x2) :=
          (World.cell?_setCell_other wr _ _ _ (fun e => by injection e with e; exact hne e.symm)).trans hc2
        have ev : (x : Int) / 2 ^ (n % 64) = ((x / 2 ^ (n % 64) : Nat) : Int) := by push_cast; rfl
        rw [ev]
        generalize wr.setCell ⟨w.heap.size, k, none⟩ (.int .u64 ((x / 2 ^ (n % 64) : Nat) : Int)) = W2 at *
        have hx2 : W2.cell? ⟨w.heap.size, k, none⟩ = some (.int .u64 ((x / 2 ^ (n % 64) : Nat) : Int)) := by
          rw [hb2.cell, List.getElem?_set_self]
          rw [U_length, filling_length _ _ (by rw [HL.out]; omega), HL.out]; exact hkx
        have hf2 : W2.frozen? ⟨w.heap.size, k, none⟩ = false := hb2.frozen _
        have HB2 := Lib.hid hb2
        have HBUT2 := Lib.hid hbut2
        generalize hxq : x / 2 ^ (n % 64) = xq at *
        have HXQ := Lib.hid hxq
        clear hb2 hbut2 hbk hbut hc1 hc2 hd1 hf1 hxq ev
        have hval := dnW_or (y := x) (y' := x2) (p := n % 64) (by omega) hxd
        rw [HXQ.out] at hval
        have HVAL := Lib.hid hval
        clear hval
        go_region
        rw [HVAL.out]
        go_wp2
        go_roundw
        case rel =>
          refine ⟨k + 1, by omega, by go_num, ?_, Lib.hid ((HBUT2.out.set k _).trans (But.of_ext (Ext.refl _).drew))⟩
          have h := HB2.out.set k (.int .u64 (dnW x x2 (n % 64) : Nat))
          rw [List.set_set, U_set, ← HE.out, filling_set _ _ (by rw [HL.out]; exact hkx), HE.out] at h
          exact Lib.hid h
        case measure => simp [intOf]; omega
      · have hx20 : xs.getD (k + n / 64 + 1) 0 = 0 := getD_ge _ _ (by omega)
        rw [hx20] at HE
        generalize xs.getD (k + n / 64) 0 = x at *
        have ev : (x : Int) / 2 ^ (n % 64) = ((dnW x 0 (n % 64) : Nat) : Int) := by unfold dnW; rw [Nat.zero_mod, Nat.mul_zero, Nat.add_zero]; push_cast; rfl
        have EV := Lib.hid ev
        clear hc2 hx20 ev
        go_wp2
        rw [EV.out]
        go_roundw
        case rel =>
          refine ⟨k + 1, by omega, by go_num, ?_, Lib.hid (hbut.out.set k _)⟩
          have h := hbk.out.set k (.int .u64 (dnW x 0 (n % 64) : Nat))
          rw [U_set, ← HE.out, filling_set _ _ (by rw [HL.out]; exact hkx), HE.out] at h
          exact Lib.hid h
        case measure => simp [intOf]; omega
    · obtain rfl : k = xs.length - n / 64 := by omega
      go_wp2
      go_ret
      refine ⟨_, rfl, .inr ⟨w.heap.size, Nat.le_refl _, ?_, ?_⟩, hbut.out.ext HX.out (Nat.le_refl _)⟩
      · rw [HL.out]; rfl
      · have h := hbk.out
        have e := filling_all (dn (n % 64) (xs.drop (n / 64)))
        rw [HL.out] at e
        rw [e] at h
        exact h

/-- shiftDown at any list. -/
theorem shiftDown_any (v : Value) (xs : List Nat) (n : Nat) (w : World) (hr : Rd w xs v) (hx : xs.length ≤ 8589934593) (hn : n ≤ 549755813888) (hd : Dig B64 xs) :
    Calls Tryd.prog 97 #[v, .int .i64 n] w (RetS (fun v' w' => ∃ ys, ys.length ≤ xs.length ∧ Dig B64 ys ∧ val B64 ys = val B64 xs / 2 ^ n ∧ Fresh w.heap.size ys v' w') w) := by
  by_cases hq : n / 64 < xs.length
  · obtain ⟨A, c, rfl, hh⟩ := hr
    obtain ⟨g, off, rfl, hg, hc⟩ := hh (fun e => by rw [e] at hq; simp at hq)
    refine (shiftDown_core g off c xs n w hg hc hx hn hd hq).mono ?_
    rintro e w' ⟨v', rfl, hf, he⟩
    exact ⟨v', rfl, ⟨_, by rw [dn_length]; simp, dn_dig (by omega) (hd.drop _), dn_all hd n (by omega), hf⟩, he⟩
  · refine (shiftDown_none v xs n w hr hx hn (by omega)).mono ?_
    rintro e w' ⟨rfl, rfl⟩
    refine ⟨_, rfl, ⟨[], by simp, Dig.nil _, ?_, .inl ⟨rfl, rfl⟩⟩, Ext.refl _⟩
    have h1 := val_lt hd
    have h2 : B64 ^ xs.length ≤ 2 ^ n := by rw [B64_pow]; exact Nat.pow_le_pow_right (by omega) (by omega)
    rw [Nat.div_eq_of_lt (by omega)]; rfl
end Go.Proofs.YtcfpjgcellahnaaDoor
