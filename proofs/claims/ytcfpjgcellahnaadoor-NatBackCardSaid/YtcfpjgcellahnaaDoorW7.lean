/- Walks: shiftUp. -/
import Derived.Test.YtcfpjgcellahnaaDoorW4
import Derived.Test.YtcfpjgcellahnaaDoorShift
namespace Go.Proofs.YtcfpjgcellahnaaDoor
open Go.RowKit

/-- A slice that reads as these words. -/
def Rd (w : World) (xs : List Nat) (v : Value) : Prop := ∃ A c, v = .slice A xs.length c ∧ (xs ≠ [] → ∃ g off, A = some ⟨g, off, none⟩ ∧ g < w.heap.size ∧ ∀ i, i < xs.length → w.cell? ⟨g, off + i, none⟩ = some (.int .u64 (xs.getD i 0 : Nat)))
theorem Rd.ext {w w' : World} {xs : List Nat} {v : Value} (h : Rd w xs v) (e : Ext w w') : Rd w' xs v := by
  obtain ⟨A, c, rfl, hh⟩ := h
  refine ⟨A, c, rfl, fun hne => ?_⟩
  obtain ⟨g, off, rfl, hg, hc⟩ := hh hne
  exact ⟨g, off, rfl, Nat.lt_of_lt_of_le hg e.size, fun i hi => e.keep (hc i hi)⟩
theorem Fresh.rd {base : Nat} {xs : List Nat} {v : Value} {w : World} (h : Fresh base xs v w) : Rd w xs v := by
  rcases h with ⟨rfl, rfl⟩ | ⟨g, _, rfl, hb⟩
  · exact ⟨none, 0, rfl, fun h => absurd rfl h⟩
  · exact ⟨_, _, rfl, fun _ => ⟨g, 0, rfl, hb.lt, fun i hi => by rw [Nat.zero_add, hb.cell i, getD_U _ _ hi]⟩⟩

set_option maxHeartbeats 1000000 in
theorem shiftUp_any (v : Value) (xs : List Nat) (n : Nat) (w : World) (hr : Rd w xs v) (hx : xs.length ≤ 8589934593) (hn : n ≤ 549755813888) (hd : Dig B64 xs) :
    Calls Tryd.prog 96 #[v, .int .i64 n] w (RetS (fun v' w' => ∃ ys, ys.length = xs.length + n / 64 + 1 ∧ Dig B64 ys ∧ val B64 ys = val B64 xs * 2 ^ n ∧ Fresh w.heap.size ys v' w') w) := by
  obtain ⟨A, c, rfl, hh⟩ := hr
  have HH := Lib.hid hh
  clear hh
  go_enter Tryd.func96, Tryd.ntmps96
  go_wp2_with (at_make; refine wpList_mk _ rfl (.tmp 19) (.tmp 19) 104 22 rfl (.int .u64 0) 8 Tryd.underlying104 info64 rfl .i64 .i64 _ _ (xs.length + n / 64 + 1) rfl rfl ?c1 ?c1' ?c2 ?c3 ?_)
  case c1 => omega
  case c1' => omega
  case c2 => omega
  case c3 => omega
  intro w1 hx1 hs1 hb1
  rw [rep_U] at hb1
  have HX := Lib.hid hx1
  have HB := Lib.hid hb1
  clear hx1 hb1
  go_wp2
  go_loopw [23] (fun i wr => ∃ (k : Nat) (L : List Nat), k ≤ xs.length ∧ i = .int .i64 k ∧ Hid (UpInv xs n k L) ∧ Hid (Blk wr w.heap.size 22 (U L)) ∧ Hid (But w.heap.size w1 wr)) (fun i _ => xs.length - (intOf i).toNat)
  case atStart =>
    exact ⟨0, List.replicate (xs.length + n / 64 + 1) 0, Nat.zero_le _, rfl, Lib.hid (UpInv.start xs n), Lib.hid HB.out, Lib.hid (But.refl _ _)⟩
  case round =>
    obtain ⟨k, L, hk, rfl, hL, hbk, hbut⟩ := hrel
    by_cases hkx : k < xs.length
    · obtain ⟨g, off, rfl, hg, hcell⟩ := HH.out (fun e => by rw [e] at hkx; simp at hkx)
      have hcx : wr.cell? ⟨g, off + k, none⟩ = some (.int .u64 (xs.getD k 0 : Nat)) := by
        have h1 := HX.out.keep (hcell k hkx)
        have h2 : g < w.heap.size := hg
        rw [← h1]
        exact World.cell?_of_block (hbut.out.block g (by have := HX.out.size; omega) (fun e => by injection e with e; omega))
      have hlen := hL.out.len
      have hc1 : wr.cell? ⟨w.heap.size, k + n / 64, none⟩ = some (.int .u64 (L.getD (k + n / 64) 0 : Nat)) := by rw [hbk.out.cell, getD_U _ _ (by omega)]
      have hc2 : wr.cell? ⟨w.heap.size, k + n / 64 + 1, none⟩ = some (.int .u64 (L.getD (k + n / 64 + 1) 0 : Nat)) := by rw [hbk.out.cell, getD_U _ _ (by omega)]
      have hf1 : wr.frozen? ⟨w.heap.size, k + n / 64, none⟩ = false := hbk.out.frozen _
      have hf2 : wr.frozen? ⟨w.heap.size, k + n / 64 + 1, none⟩ = false := hbk.out.frozen _
      have hxd : xs.getD k 0 < B64 := hd.getD (by unfold B64; omega) k
      clear hcell hlen
      have hlow := hL.out.low
      have hnext := hL.out.step hkx hd
      have HN := Lib.hid hnext
      clear hnext
      generalize xs.getD k 0 = x at *
      generalize L.getD (k + n / 64) 0 = o at *
      generalize L.getD (k + n / 64 + 1) 0 = o2 at *
      have HLOW := Lib.hid hlow
      clear hlow
      go_wp2
      rw [upL_val (by omega) HLOW.out, upH_val]
      refine ⟨⟨k + 1, _, by omega, by go_num, HN, ?_, ?_⟩, by simp [intOf]; omega⟩
      · have h := (hbk.out.set (k + n / 64) (.int .u64 (upL o x (n % 64) : Nat))).set (k + n / 64 + 1) (.int .u64 (upH x (n % 64) : Nat))
        rw [U_set, U_set] at h
        exact Lib.hid h
      · exact Lib.hid ((hbut.out.set _ _).set _ _)
    · obtain rfl : k = xs.length := by omega
      go_wp2
      go_ret
      have hu := hL.out
      refine ⟨_, rfl, ⟨L, hu.len, hu.dig, ?_, .inr ⟨w.heap.size, Nat.le_refl _, ?_, hbk.out⟩⟩, hbut.out.ext HX.out (Nat.le_refl _)⟩
      · rw [hu.val, List.take_length]
      · rw [hu.len]; rfl
end Go.Proofs.YtcfpjgcellahnaaDoor
