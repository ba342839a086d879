/- Walks: mulWords. -/
import Derived.Test.YtcfpjgcellahnaaDoorW7
import Derived.Test.YtcfpjgcellahnaaDoorMul
namespace Go.Proofs.YtcfpjgcellahnaaDoor
open Go.RowKit

set_option maxHeartbeats 2000000 in
theorem mulWords_any (v1 v2 : Value) (xs ys : List Nat) (w : World) (hr1 : Rd w xs v1) (hr2 : Rd w ys v2) (hx : xs.length ≤ 8589934593) (hy : ys.length ≤ 8589934593) (hd1 : Dig B64 xs) (hd2 : Dig B64 ys) :
    Calls Tryd.prog 95 #[v1, v2] w (RetS (fun v' w' => ∃ zs, zs.length = xs.length + ys.length ∧ Dig B64 zs ∧ val B64 zs = val B64 xs * val B64 ys ∧ Fresh w.heap.size zs v' w') w) := by
  obtain ⟨A, c, rfl, hh⟩ := hr1
  obtain ⟨A', c', rfl, hh'⟩ := hr2
  have HH := Lib.hid hh
  have HH' := Lib.hid hh'
  clear hh hh'
  go_enter Tryd.func95, Tryd.ntmps95
  go_wp2_with (at_make; refine wpList_mk _ rfl (.tmp 19) (.tmp 19) 104 22 rfl (.int .u64 0) 8 Tryd.underlying104 info64 rfl .i64 .i64 _ _ (xs.length + ys.length) rfl rfl ?c1 ?c1' ?c2 ?c3 ?_)
  case c1 => omega
  case c1' => omega
  case c2 => omega
  case c3 => omega
  intro w1 hx1 hs1 hb1
  rw [rep_U] at hb1
  have HX := Lib.hid hx1
  have HB := Lib.hid hb1
  clear hx1 hb1
  go_wp2
  go_loopw [23] (fun i wr => ∃ (k : Nat) (L : List Nat), k ≤ xs.length ∧ i = .int .i64 k ∧ Hid (MulOut xs ys k L) ∧ Hid (Blk wr w.heap.size 22 (U L)) ∧ Hid (But w.heap.size w1 wr)) (fun i _ => xs.length - (intOf i).toNat)
  case atStart =>
    exact ⟨0, _, Nat.zero_le _, rfl, Lib.hid (MulOut.start xs ys), Lib.hid HB.out, Lib.hid (But.refl _ _)⟩
  case round =>
    obtain ⟨k, L, hk, rfl, hL, hbk, hbut⟩ := hrel
    by_cases hkx : k < xs.length
    · obtain ⟨g, off, rfl, hg, hcell⟩ := HH.out (fun e => by rw [e] at hkx; simp at hkx)
      have hcx : wr.cell? ⟨g, off + k, none⟩ = some (.int .u64 (xs.getD k 0 : Nat)) := by
        rw [← HX.out.keep (hcell k hkx)]
        exact World.cell?_of_block (hbut.out.block g (by have := HX.out.size; omega) (fun e => by injection e with e; omega))
      have hxd : xs.getD k 0 < B64 := hd1.getD (by unfold B64; omega) k
      clear hcell
      have hin := hL.out.inner
      have HIN := Lib.hid hin
      clear hin hL
      generalize hxe : xs.getD k 0 = x at *
      have HXE := Lib.hid hxe
      clear hxe
      go_wp2
      obtain ⟨wo, rfl⟩ : ∃ wo : World, wo = wr := ⟨_, rfl⟩
      go_loopw [8, 30] (fun c i wr => ∃ (j cc : Nat) (L : List Nat), j ≤ ys.length ∧ i = .int .i64 j ∧ c = .int .u64 cc ∧ cc < B64 ∧ Hid (MulIn xs ys k j cc L) ∧ Hid (Blk wr w.heap.size 22 (U L)) ∧ Hid (But w.heap.size w1 wr)) (fun _ i _ => ys.length - (intOf i).toNat)
      case atStart => exact ⟨0, 0, L, Nat.zero_le _, rfl, rfl, by unfold B64; omega, HIN, hbk, hbut⟩
      case round =>
        clear hbk hbut HIN hcx
        obtain ⟨j, cc, L, hj, rfl, rfl, hcc, hL, hbk, hbut⟩ := hrel
        by_cases hjy : j < ys.length
        · obtain ⟨g', off', rfl, hg', hcell'⟩ := HH'.out (fun e => by rw [e] at hjy; simp at hjy)
          have hcy : wr.cell? ⟨g', off' + j, none⟩ = some (.int .u64 (ys.getD j 0 : Nat)) := by
            rw [← HX.out.keep (hcell' j hjy)]
            exact World.cell?_of_block (hbut.out.block g' (by have := HX.out.size; omega) (fun e => by injection e with e; omega))
          have hyd : ys.getD j 0 < B64 := hd2.getD (by unfold B64; omega) j
          have hlen := hL.out.len
          have hco : wr.cell? ⟨w.heap.size, k + j, none⟩ = some (.int .u64 (L.getD (k + j) 0 : Nat)) := by rw [hbk.out.cell, getD_U _ _ (by omega)]
          have hfo : wr.frozen? ⟨w.heap.size, k + j, none⟩ = false := hbk.out.frozen _
          have hod : L.getD (k + j) 0 < B64 := hL.out.dig.getD (by unfold B64; omega) _
          have hst := fun (s q : Nat) (hs : s < B64) (e : s + B64 * q = xs.getD k 0 * ys.getD j 0 + L.getD (k + j) 0 + cc) => hL.out.step hkx hjy hs e
          rw [HXE.out] at hst
          have HST := Lib.hid hst
          clear hst hcell' hlen
          generalize ys.getD j 0 = y at *
          generalize L.getD (k + j) 0 = o at *
          have e1 := mu_eq x y
          have e2 := ad_eq (muL x y) o 0
          have e3 := ad_eq (adS (muL x y) o 0) cc 0
          rw [Nat.add_zero] at e2 e3
          have hsum := mac_sum e1 e2 e3
          have hq := mac_lt hxd hyd hod hcc hsum
          have hs2 := adS_lt (adS (muL x y) o 0) cc 0
          have ha1 : ∀ W, (callFunc 76 #[.int .u64 (muL x y : Nat), .int .u64 o, .int .u64 0]).run Tryd.prog W = .ok (.value (.tuple #[.int .u64 (adS (muL x y) o 0 : Nat), .int .u64 (adC (muL x y) o 0 : Nat)])) W := fun W => add64_0 _ _ W
          have ha2 : ∀ W, (callFunc 76 #[.int .u64 (adS (muL x y) o 0 : Nat), .int .u64 cc, .int .u64 0]).run Tryd.prog W = .ok (.value (.tuple #[.int .u64 (adS (adS (muL x y) o 0) cc 0 : Nat), .int .u64 (adC (adS (muL x y) o 0) cc 0 : Nat)])) W := fun W => add64_0 _ _ W
          have HM := Lib.hid (fun W => mul64_any x y hxd hyd W)
          have hnext := HST.out _ _ hs2 hsum
          have HN := Lib.hid hnext
          clear e1 e2 e3 hsum HST hnext
          generalize adC (adS (muL x y) o 0) cc 0 = c2 at *
          generalize adS (adS (muL x y) o 0) cc 0 = s2 at *
          generalize adC (muL x y) o 0 = c1 at *
          generalize adS (muL x y) o 0 = s1 at *
          generalize muH x y = hh at *
          generalize muL x y = ll at *
          have b1 : (hh : Int) + (c1 : Int) ≤ 18446744073709551615 := by unfold B64 at hq; omega
          have b2 : (hh : Int) + (c1 : Int) + (c2 : Int) ≤ 18446744073709551615 := by unfold B64 at hq; omega
          go_wp2_with fail
          refine (HM.out _).mono ?_
          rintro e w' ⟨rfl, rfl⟩
          go_wp2
          go_roundw
          case rel =>
            refine ⟨j + 1, hh + c1 + c2, L.set (k + j) s2, by omega, by go_num, by go_num, hq, HN, Lib.hid (by rw [← U_set]; exact hbk.out.set _ _), Lib.hid (hbut.out.set _ _)⟩
          case measure => simp [intOf]; omega
        · obtain rfl : j = ys.length := by omega
          have hlen := hL.out.len
          have hco : wr.cell? ⟨w.heap.size, k + ys.length, none⟩ = some (.int .u64 (L.getD (k + ys.length) 0 : Nat)) := by rw [hbk.out.cell, getD_U _ _ (by omega)]
          have hfo : wr.frozen? ⟨w.heap.size, k + ys.length, none⟩ = false := hbk.out.frozen _
          have hcl := hL.out.close hkx hcc
          have HCL := Lib.hid hcl
          generalize L.getD (k + ys.length) 0 = o at *
          clear hcl hlen
          go_wp2
          go_roundw
          case rel => exact ⟨k + 1, L.set (k + ys.length) cc, by omega, by go_num, HCL, Lib.hid (by rw [← U_set]; exact hbk.out.set _ _), Lib.hid (hbut.out.set _ _)⟩
          case measure => simp [intOf]; omega
    · obtain rfl : k = xs.length := by omega
      go_wp2
      go_ret
      have hu := hL.out
      refine ⟨_, rfl, ⟨L, hu.len, hu.dig, ?_, .inr ⟨w.heap.size, Nat.le_refl _, ?_, hbk.out⟩⟩, hbut.out.ext HX.out (Nat.le_refl _)⟩
      · rw [hu.val, List.take_length]
      · rw [hu.len]; rfl

end Go.Proofs.YtcfpjgcellahnaaDoor
