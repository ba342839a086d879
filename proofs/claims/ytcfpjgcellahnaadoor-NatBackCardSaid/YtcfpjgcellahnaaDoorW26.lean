/- Walks: the document's NatMul, NatCmp. -/
import Derived.Test.YtcfpjgcellahnaaDoorW25
namespace Go.Proofs.YtcfpjgcellahnaaDoor
open Go.RowKit

theorem mac32 {x y o c : Nat} (hx : x < B32) (hy : y < B32) (ho : o < B32) (hc : c < B32) :
    IntKind.u64.wrap ((c : Int) + (o : Int) + IntKind.u64.wrap ((x : Int) * (y : Int))) = ((x * y + o + c : Nat) : Int) ∧ x * y + o + c < 18446744073709551616 ∧ (x * y + o + c) / B32 < B32 := by
  have h1 : x * y ≤ 4294967295 * 4294967295 := Nat.mul_le_mul (by unfold B32 at hx; omega) (by unfold B32 at hy; omega)
  have e : (x : Int) * (y : Int) = ((x * y : Nat) : Int) := by push_cast; rfl
  rw [IntKind.wrap_u64, IntKind.wrap_u64, e]
  generalize x * y = p at *
  unfold B32 at *
  refine ⟨by omega, by omega, by omega⟩

set_option maxHeartbeats 2000000 in
theorem refMul_any (a b : Nat) (v1 v2 : Value) (w : World) (h1 : R32 a v1 w) (h2 : R32 b v2 w) (ha : bl a ≤ 274877906944) (hb : bl b ≤ 274877906944) :
    Calls Tryd.prog 42 #[v1, v2] w (RetS (R32 (a * b)) w) := by
  have hla := limbs32_len a 8589934592 (by omega)
  have hlb := limbs32_len b 8589934592 (by omega)
  have hda := limbs_dig B32_two a
  have hdb := limbs_dig B32_two b
  have va := val_limbs B32_two a
  have vb := val_limbs B32_two b
  have HV : Hid (val B32 (limbs B32 a) * val B32 (limbs B32 b) = a * b) := Lib.hid (by rw [va, vb])
  obtain ⟨A, c, rfl, _, hh⟩ := h1
  obtain ⟨A', c', rfl, _, hh'⟩ := h2
  clear ha hb va vb
  generalize limbs B32 a = xs at *
  generalize limbs B32 b = ys at *
  generalize a * b = n at *
  have HDA := Lib.hid hda
  have HDB := Lib.hid hdb
  have HH := Lib.hid hh
  have HH' := Lib.hid hh'
  clear hda hdb hh hh'
  have HF : Hid (∀ L W, S32.MulOut xs ys xs.length L → Blk W w.heap.size 107 (V32 L) → Calls Tryd.prog 80 #[.slice (some ⟨w.heap.size, 0, none⟩) (xs.length + ys.length) (xs.length + ys.length)] W fun e w' => ∃ v', e = .returned v' ∧ R32 n v' W ∧ w' = W) := Lib.hid (fun L W hL hb => by
    have h := trim32_any (Sl32.of_blk hb) (by rw [hL.len]; omega) hL.dig
    rw [hL.val, List.take_length, HV.out, hL.len] at h
    exact h)
  go_enter Tryd.func42, Tryd.ntmps42
  go_wp2_with (at_make; refine wpList_mk _ rfl (.tmp 13) (.tmp 13) 32 107 rfl (.int .u32 0) 4 Tryd.underlying32 info32 rfl .i64 .i64 _ _ (xs.length + ys.length) rfl rfl ?c1 ?c1' ?c2 ?c3 ?_)
  case c1 => omega
  case c1' => omega
  case c2 => omega
  case c3 => omega
  intro w1 hx1 hs1 hb1
  rw [V32_rep] at hb1
  have HX := Lib.hid hx1
  have HB1 := Lib.hid hb1
  clear hx1 hb1 hs1
  go_wp2
  go_loopw [6] (fun i wr => ∃ (k : Nat) (L : List Nat), k ≤ xs.length ∧ i = .int .i64 k ∧ Hid (S32.MulOut xs ys k L) ∧ Hid (Blk wr w.heap.size 107 (V32 L)) ∧ Hid (Ext w wr)) (fun i _ => xs.length - (intOf i).toNat)
  case atStart => exact ⟨0, _, Nat.zero_le _, rfl, Lib.hid (S32.MulOut.start xs ys), HB1, HX⟩
  case round =>
    obtain ⟨k, L, hk, rfl, hL, hbk, hex⟩ := hrel
    by_cases hkx : k < xs.length
    · obtain ⟨g, off, rfl, hg, hcell⟩ := HH.out (fun e => by rw [e] at hkx; simp at hkx)
      have hcx : w.cell? ⟨g, off + k, none⟩ = some (.int .u32 (xs.getD k 0 : Nat)) := hcell k hkx
      have hxd : xs.getD k 0 < B32 := HDA.out.getD (by unfold B32; omega) k
      have HCX := Lib.hid hcx
      have HIN := Lib.hid hL.out.inner
      have HXE : Hid (∃ x, xs.getD k 0 = x) := Lib.hid ⟨_, rfl⟩
      clear hcell hL hcx HXE
      go_wp2
      go_loopw [7, 8] (fun c i wr => ∃ (j cc : Nat) (L : List Nat), j ≤ ys.length ∧ i = .int .i64 j ∧ c = .int .u64 cc ∧ cc < B32 ∧ Hid (S32.MulIn xs ys k j cc L) ∧ Hid (Blk wr w.heap.size 107 (V32 L)) ∧ Hid (Ext w wr)) (fun _ i _ => ys.length - (intOf i).toNat)
      case atStart => exact ⟨0, 0, L, Nat.zero_le _, rfl, rfl, by unfold B32; omega, HIN, hbk, hex⟩
      case round =>
        clear hbk hex HIN
        obtain ⟨j, cc, L, hj, rfl, rfl, hcc, hL, hbk, hex⟩ := hrel
        have hlen := hL.out.len
        by_cases hjy : j < ys.length
        · obtain ⟨g', off', rfl, hg', hcell'⟩ := HH'.out (fun e => by rw [e] at hjy; simp at hjy)
          have hcy : wr.cell? ⟨g', off' + j, none⟩ = some (.int .u32 (ys.getD j 0 : Nat)) := hex.out.keep (hcell' j hjy)
          have hcx : wr.cell? ⟨g, off + k, none⟩ = some (.int .u32 (xs.getD k 0 : Nat)) := hex.out.keep HCX.out
          have hyd : ys.getD j 0 < B32 := HDB.out.getD (by unfold B32; omega) j
          have hco : wr.cell? ⟨w.heap.size, k + j, none⟩ = some (.int .u32 (L.getD (k + j) 0 : Nat)) := by rw [hbk.out.cell, getD_V32 _ _ (by omega)]
          have hfo : wr.frozen? ⟨w.heap.size, k + j, none⟩ = false := hbk.out.frozen _
          have hod : L.getD (k + j) 0 < B32 := hL.out.dig.getD (by unfold B32; omega) _
          obtain ⟨hw3, ht1, ht2⟩ := mac32 hxd hyd hod hcc
          have hN := hL.out.step (s := (xs.getD k 0 * ys.getD j 0 + L.getD (k + j) 0 + cc) % B32) (q := (xs.getD k 0 * ys.getD j 0 + L.getD (k + j) 0 + cc) / B32) hkx hjy (Nat.mod_lt _ (by unfold B32; omega)) (Nat.mod_add_div _ _)
          generalize hxe : xs.getD k 0 = x at *
          generalize ys.getD j 0 = y at *
          generalize L.getD (k + j) 0 = o at *
          generalize x * y + o + cc = t at *
          have HW3 := Lib.hid hw3
          have HN := Lib.hid hN
          have hti : (t : Int) ≤ 18446744073709551615 := by omega
          have hxi : (x : Int) ≤ 4294967295 := by unfold B32 at hxd; omega
          have hyi : (y : Int) ≤ 4294967295 := by unfold B32 at hyd; omega
          have hoi : (o : Int) ≤ 4294967295 := by unfold B32 at hod; omega
          have hci : (cc : Int) ≤ 4294967295 := by unfold B32 at hcc; omega
          have E1 : Hid (((t / B32 : Nat) : Int) = (t : Int) / 4294967296) := Lib.hid (by unfold B32; omega)
          have E2 : Hid (((t % B32 : Nat) : Int) = (t : Int) % 4294967296) := Lib.hid (by unfold B32; omega)
          have hsum : IntKind.i64.wrap ((k : Int) + (j : Int)) = (k : Int) + (j : Int) := IntWalk.i64_in _ (by omega)
          clear hN hw3 ht1 hcell' hlen hL hcc hod hyd hxe
          go_wp2
          go_quiet (fail)
          rw [HW3.out]
          rename_i nq
          have hco' : (wr.drewN nq).cell? ⟨w.heap.size, k + j, none⟩ = some (.int .u32 o) := hco
          have hfo' : (wr.drewN nq).frozen? ⟨w.heap.size, k + j, none⟩ = false := hfo
          have HBK := Lib.hid (hbk.out.ext ((Ext.refl wr).drewN nq))
          have HEX := Lib.hid (hex.out.drewN nq)
          clear hbk hex hco hfo hcx hcy hsum
          generalize wr.drewN nq = W6 at *
          go_wp2
          go_roundw
          case rel =>
            refine ⟨j + 1, t / B32, L.set (k + j) (t % B32), by omega, by go_num, by rw [E1.out], ht2, HN, Lib.hid ?_, Lib.hid (Below.setCell HEX.out (p := ⟨w.heap.size, k + j, none⟩) (Nat.le_refl _) _)⟩
            rw [← V32_set, E2.out]; exact HBK.out.set _ _
          case measure => simp [intOf]; omega
        · obtain rfl : j = ys.length := by omega
          have hco : wr.cell? ⟨w.heap.size, k + ys.length, none⟩ = some (.int .u32 (L.getD (k + ys.length) 0 : Nat)) := by rw [hbk.out.cell, getD_V32 _ _ (by omega)]
          have hfo : wr.frozen? ⟨w.heap.size, k + ys.length, none⟩ = false := hbk.out.frozen _
          have HCL := Lib.hid (hL.out.close hkx hcc)
          have hci : (cc : Int) ≤ 4294967295 := by unfold B32 at hcc; omega
          generalize L.getD (k + ys.length) 0 = o at *
          clear hL hcc hlen
          go_wp2
          go_roundw
          case rel => exact ⟨k + 1, L.set (k + ys.length) cc, by omega, by go_num, HCL, Lib.hid (by rw [← V32_set]; exact hbk.out.set _ _), Lib.hid (Below.setCell hex.out (p := ⟨w.heap.size, k + ys.length, none⟩) (Nat.le_refl _) _)⟩
          case measure => simp [intOf]; omega
    · obtain rfl : k = xs.length := by omega
      go_wp2_with fail
      refine (HF.out L _ hL.out hbk.out).mono ?_
      rintro e w3 ⟨v, rfl, hr, rfl⟩
      have HR := Lib.hid hr
      clear hr
      go_wp2
      go_ret
      exact ⟨_, rfl, HR.out, hex.out⟩

set_option maxHeartbeats 2000000 in
theorem refCmp_any (a b : Nat) (v1 v2 : Value) (w : World) (h1 : R32 a v1 w) (h2 : R32 b v2 w) (ha : bl a ≤ 549755813888) (hb : bl b ≤ 549755813888) :
    Calls Tryd.prog 43 #[v1, v2] w (Ret (.int .i64 (cmpN a b)) w) := by
  have hla := limbs32_len a 17179869184 (by omega)
  have hlb := limbs32_len b 17179869184 (by omega)
  have hda := limbs_dig B32_two a
  have hdb := limbs_dig B32_two b
  obtain ⟨A, c, rfl, _, hh⟩ := h1
  obtain ⟨A', c', rfl, _, hh'⟩ := h2
  rcases Nat.lt_trichotomy (limbs B32 a).length (limbs B32 b).length with h | h | h
  · rw [cmpN_lt (lt_of_limbs B32_two h)]
    have e1 : (((limbs B32 a).length : Int) != ((limbs B32 b).length : Int)) = true := by simp; omega
    clear hh hh' hda hdb ha hb
    generalize (limbs B32 a).length = p at *
    generalize (limbs B32 b).length = q at *
    go_enter Tryd.func43, Tryd.ntmps43
    go_wp2
    go_ret
    exact ⟨rfl, Ext.refl _⟩
  · have hR := fun j hj hd hne => cmpN_at (a := a) (b := b) (j := j) h hj hd hne
    have hE : limbs B32 a = limbs B32 b → cmpN a b = 0 := fun e => by
      have : a = b := by rw [← val_limbs B32_two a, ← val_limbs B32_two b, e]
      subst this
      unfold cmpN; simp
    have e1 : (((limbs B32 a).length : Int) != ((limbs B32 b).length : Int)) = false := by simp; omega
    clear ha hb
    generalize limbs B32 a = xs at *
    generalize limbs B32 b = ys at *
    generalize cmpN a b = r at *
    have HH := Lib.hid hh
    have HH' := Lib.hid hh'
    have HDA := Lib.hid hda
    have HDB := Lib.hid hdb
    have HRR := Lib.hid hR
    have HEE := Lib.hid hE
    have HL := Lib.hid h
    clear hh hh' hda hdb hR hE h
    go_enter Tryd.func43, Tryd.ntmps43
    go_wp2
    go_loopw [5] (fun i wr => ∃ j : Nat, j ≤ xs.length ∧ i = .int .i64 ((j : Int) - 1) ∧ Hid (xs.drop j = ys.drop j) ∧ Hid (Ext w wr)) (fun i _ => (intOf i + 1).toNat)
    case atStart => exact ⟨xs.length, Nat.le_refl _, rfl, Lib.hid (by rw [List.drop_length, HL.out, List.drop_length]), Lib.hid (Ext.refl w)⟩
    case round =>
      obtain ⟨j, hj, rfl, hd, hex⟩ := hrel
      by_cases hj0 : j = 0
      · subst hj0
        have HE0 := Lib.hid (HEE.out (by simpa using hd.out))
        go_wp2
        go_ret
        exact ⟨ret_int HE0.out.symm, hex.out⟩
      · obtain ⟨j, rfl⟩ : ∃ k, j = k + 1 := ⟨j - 1, by omega⟩
        rw [show ((j + 1 : Nat) : Int) - 1 = (j : Int) from by omega]
        have hjx : j < xs.length := by omega
        have hjy : j < ys.length := by have := HL.out; omega
        obtain ⟨g, off, rfl, hg, hcell⟩ := HH.out (fun e => by rw [e] at hjx; simp at hjx)
        obtain ⟨g', off', rfl, hg', hcell'⟩ := HH'.out (fun e => by rw [e] at hjy; simp at hjy)
        have hcx := hex.out.keep (hcell j hjx)
        have hcy := hex.out.keep (hcell' j hjy)
        have hxd : xs.getD j 0 < B32 := HDA.out.getD (by unfold B32; omega) j
        have hyd : ys.getD j 0 < B32 := HDB.out.getD (by unfold B32; omega) j
        have hdd : xs.getD j 0 = ys.getD j 0 → xs.drop j = ys.drop j := fun e => by
          rw [List.drop_eq_getElem_cons hjx, List.drop_eq_getElem_cons hjy, hd.out, ← getD_lt _ _ hjx, ← getD_lt _ _ hjy, e]
        have hR := HRR.out j hjx hd.out
        have HDD := Lib.hid hdd
        have HR2 := Lib.hid hR
        clear hcell hcell' hdd hR hd
        generalize xs.getD j 0 = x at *
        generalize ys.getD j 0 = y at *
        rcases Nat.lt_trichotomy x y with hlt | he | hlt
        · have hr : r = -1 := by rw [← HR2.out (by omega), cmpN_lt hlt]
          have hb1 : ((x : Int) != (y : Int)) = true := by simp; omega
          have hb2 : (x : Int) < (y : Int) := by omega
          have HR3 := Lib.hid hr
          clear hr
          go_wp2
          go_quiet (fail)
          rename_i nq
          have hcx' : (wr.drewN nq).cell? ⟨g, off + j, none⟩ = some (.int .u32 x) := hcx
          have hcy' : (wr.drewN nq).cell? ⟨g', off' + j, none⟩ = some (.int .u32 y) := hcy
          have HEX := Lib.hid (hex.out.drewN nq)
          clear hex hcx hcy
          generalize wr.drewN nq = W6 at *
          go_wp2
          go_quiet (fail)
          go_wp2
          go_ret
          exact ⟨ret_int HR3.out.symm, HEX.out.drewN _⟩
        · subst he
          have hb1 : ((x : Int) != (x : Int)) = false := by simp
          go_wp2
          go_quiet (fail)
          go_wp2
          go_roundw
          case rel => exact ⟨j, by omega, rfl, Lib.hid (HDD.out (by simp)), Lib.hid (hex.out.drewN _)⟩
          case measure => simp [intOf]
        · have hr : r = 1 := by rw [← HR2.out (by omega), cmpN_gt hlt]
          have hb1 : ((x : Int) != (y : Int)) = true := by simp; omega
          have hb2 : decide (x < y) = false := decide_eq_false (by omega)
          have HR3 := Lib.hid hr
          clear hr
          go_wp2
          go_quiet (fail)
          rename_i nq
          have hcx' : (wr.drewN nq).cell? ⟨g, off + j, none⟩ = some (.int .u32 x) := hcx
          have hcy' : (wr.drewN nq).cell? ⟨g', off' + j, none⟩ = some (.int .u32 y) := hcy
          have HEX := Lib.hid (hex.out.drewN nq)
          clear hex hcx hcy
          generalize wr.drewN nq = W6 at *
          go_wp2
          go_quiet (fail)
          go_wp2
          go_ret
          exact ⟨ret_int HR3.out.symm, HEX.out.drewN _⟩
  · rw [cmpN_gt (lt_of_limbs B32_two h)]
    have e1 : (((limbs B32 a).length : Int) != ((limbs B32 b).length : Int)) = true := by simp; omega
    have e2 : decide ((limbs B32 a).length < (limbs B32 b).length) = false := decide_eq_false (by omega)
    clear hh hh' hda hdb ha hb
    generalize (limbs B32 a).length = p at *
    generalize (limbs B32 b).length = q at *
    go_enter Tryd.func43, Tryd.ntmps43
    go_wp2
    go_ret
    exact ⟨rfl, Ext.refl _⟩
end Go.Proofs.YtcfpjgcellahnaaDoor
