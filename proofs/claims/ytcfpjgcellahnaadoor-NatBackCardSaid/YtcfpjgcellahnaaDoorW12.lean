/- Walks: divWord. -/
import Derived.Test.YtcfpjgcellahnaaDoorW11
import Derived.Test.YtcfpjgcellahnaaDoorKnuth
namespace Go.Proofs.YtcfpjgcellahnaaDoor
open Go.RowKit

/-- What divWord comes to, of a list in block g. -/
def DivWordPost (g n d : Nat) (xs : List Nat) (w : World) (e : Ending) (w' : World) : Prop :=
  ∃ L, L.length = xs.length ∧ Dig B64 L ∧ val B64 L = val B64 xs / d ∧ e = .returned (.tuple #[.slice (some ⟨g, 0, none⟩) (limbs B64 (val B64 xs / d)).length n, .int .u64 (val B64 xs % d : Nat)]) ∧ Blk w' g 22 (U L) ∧ But g w w'

set_option maxHeartbeats 1000000 in
theorem divWord_any (g : Nat) (xs : List Nat) (d : Nat) (w : World) (hb : Blk w g 22 (U xs)) (hx : xs.length ≤ 8589934593) (hd : Dig B64 xs) (hd0 : 0 < d) (hdb : d < B64) :
    Calls Tryd.prog 83 #[.slice (some ⟨g, 0, none⟩) xs.length xs.length, .int .u64 d] w (DivWordPost g xs.length d xs w) := by
  have HB := Lib.hid hb
  clear hb
  go_enter Tryd.func83, Tryd.ntmps83
  go_wp2
  go_loopw [6, 7] (fun a b wr => ∃ (k r : Nat) (L : List Nat), k ≤ xs.length ∧ b = .int .i64 ((k : Int) - 1) ∧ a = .int .u64 r ∧ Hid (DwInv xs d k r L) ∧ Hid (Blk wr g 22 (U L)) ∧ Hid (But g w wr)) (fun _ b _ => (intOf b + 1).toNat)
  case atStart => exact ⟨xs.length, 0, xs, Nat.le_refl _, rfl, rfl, Lib.hid (DwInv.start hd hd0), HB, Lib.hid (But.refl _ _)⟩
  case round =>
    obtain ⟨k, r, L, hk, rfl, rfl, hL, hbk, hbut⟩ := hrel
    by_cases hk0 : k = 0
    · subst hk0
      obtain ⟨f1, f2⟩ := hL.out.fin
      have hll := hL.out.len
      have hdl := hL.out.dig
      have ht : Calls Tryd.prog 107 #[.slice (some ⟨g, 0, none⟩) xs.length xs.length] wr fun e w' => e = .returned (.slice (some ⟨g, 0, none⟩) (limbs B64 (val B64 xs / d)).length xs.length) ∧ wr = w' := by
        have h := trim_core g 0 xs.length L wr (by omega) (by omega) hdl (fun i hi => by rw [Nat.zero_add, hbk.out.cell i, getD_U _ _ hi])
        rw [f1, hll] at h
        exact h
      have HT := Lib.hid ht
      have F1 := Lib.hid f1
      have F2 := Lib.hid f2
      have HLL := Lib.hid hll
      clear ht f1 f2 hll
      go_wp2_with (go_at_call 107; refine (HT.out).mono ?_; rintro e w' ⟨rfl, rfl⟩)
      go_ret2
      refine ⟨L, HLL.out, hdl, F1.out, ?_, hbk.out, hbut.out⟩
      rw [← F2.out]
      rfl
    · obtain ⟨k, rfl⟩ : ∃ j, k = j + 1 := ⟨k - 1, by omega⟩
      obtain ⟨hq, hN⟩ := hL.out.step (by omega)
      have hlow := getD_take hL.out.low (Nat.lt_succ_self k)
      have hll := hL.out.len
      have hc : wr.cell? ⟨g, k, none⟩ = some (.int .u64 (xs.getD k 0 : Nat)) := by rw [hbk.out.cell k, getD_U _ _ (by omega), hlow]
      have hf : wr.frozen? ⟨g, k, none⟩ = false := hbk.out.frozen k
      have hrd := hL.out.lt
      have hxd : xs.getD k 0 < B64 := hd.getD (by unfold B64; omega) k
      have hD : ∀ W, Calls Tryd.prog 110 #[.int .u64 r, .int .u64 (xs.getD k 0 : Nat), .int .u64 d] W fun e w' => e = .returned (.tuple #[.int .u64 ((r * B64 + xs.getD k 0) / d : Nat), .int .u64 ((r * B64 + xs.getD k 0) % d : Nat)]) ∧ ∃ n, w' = W.drewN n := fun W => div64_any r (xs.getD k 0) d hrd hdb hxd W
      have HD := Lib.hid hD
      have HN := Lib.hid hN
      clear hlow hll hD hN hL hq
      generalize (r * B64 + xs.getD k 0) / d = q at *
      generalize (r * B64 + xs.getD k 0) % d = r' at *
      generalize xs.getD k 0 = x at *
      rw [show ((k + 1 : Nat) : Int) - 1 = (k : Int) from by omega]
      go_wp2_with fail
      refine (HD.out _).mono ?_
      rintro e w2 ⟨rfl, n2, rfl⟩
      go_wp2
      go_roundw
      case rel =>
        refine ⟨k, r', L.set k q, by omega, rfl, rfl, HN, ?_, ?_⟩
        · rw [← U_set]; exact Lib.hid (hbk.out.set k _)
        · exact Lib.hid ((hbut.out.set k _).trans (But.of_ext ((Ext.refl _).drewN n2)))
      case measure => simp [intOf]
end Go.Proofs.YtcfpjgcellahnaaDoor
