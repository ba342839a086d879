/- Walks: the document's at, NatAdd, NatSub, NatMul, NatCmp. -/
import Derived.Test.YtcfpjgcellahnaaDoorRadd
import Derived.Test.YtcfpjgcellahnaaDoorMul32
import Derived.Test.YtcfpjgcellahnaaDoorW21
import Derived.Lib.MinMax
namespace Go.Proofs.YtcfpjgcellahnaaDoor
open Go.RowKit

set_option maxHeartbeats 1000000 in
theorem at_any (xs : List Nat) (v : Value) (i : Nat) (w : World) (h : Sl32 xs v w) (hd : Dig B32 xs) (_hl : xs.length ≤ 1099511627776) (_hi : i ≤ 1099511627776) :
    Calls Tryd.prog 99 #[v, .int .i64 i] w fun e w' => e = .returned (.int .u64 (xs.getD i 0 : Nat)) ∧ w = w' := by
  obtain ⟨A, c, rfl, _, hh⟩ := h
  have hx := hd.getD (by unfold B32; omega) i
  by_cases hix : i < xs.length
  · obtain ⟨g, off, rfl, hg, hcell⟩ := hh (fun e => by rw [e] at hix; simp at hix)
    have hc := hcell i hix
    clear hcell hh hd
    generalize xs.getD i 0 = x at *
    have hx' : (x : Int) ≤ 4294967295 := by unfold B32 at hx; omega
    go_enter Tryd.func99, Tryd.ntmps99
    go_wp2
    go_ret
    exact ⟨rfl, rfl⟩
  · have h0 : xs.getD i 0 = 0 := getD_ge _ _ (by omega)
    rw [h0]
    clear hh hd hx h0
    go_enter Tryd.func99, Tryd.ntmps99
    go_wp2
    go_ret
    exact ⟨rfl, rfl⟩

set_option maxHeartbeats 2000000 in
theorem refAdd_any (a b : Nat) (v1 v2 : Value) (w : World) (h1 : R32 a v1 w) (h2 : R32 b v2 w) (ha : bl a ≤ 549755813888) (hb : bl b ≤ 549755813888) :
    Calls Tryd.prog 41 #[v1, v2] w (RetS (R32 (a + b)) w) := by
  have hla := limbs32_len a 17179869184 (by omega)
  have hlb := limbs32_len b 17179869184 (by omega)
  have hda := limbs_dig B32_two a
  have hdb := limbs_dig B32_two b
  have HA : Hid (∀ (i : Nat) W, i ≤ 17179869184 → Ext w W → Calls Tryd.prog 99 #[v1, .int .i64 i] W fun e w' => e = .returned (.int .u64 ((limbs B32 a).getD i 0 : Nat)) ∧ W = w') := Lib.hid (fun i W hi hx => at_any (limbs B32 a) v1 i W (Sl32.ext h1 hx) hda (by omega) (by omega))
  have HB : Hid (∀ (i : Nat) W, i ≤ 17179869184 → Ext w W → Calls Tryd.prog 99 #[v2, .int .i64 i] W fun e w' => e = .returned (.int .u64 ((limbs B32 b).getD i 0 : Nat)) ∧ W = w') := Lib.hid (fun i W hi hx => at_any (limbs B32 b) v2 i W (Sl32.ext h2 hx) hdb (by omega) (by omega))
  have va := val_limbs B32_two a
  have vb := val_limbs B32_two b
  have HV : Hid (val B32 (limbs B32 a) + val B32 (limbs B32 b) = a + b) := Lib.hid (by rw [va, vb])
  obtain ⟨A, c, rfl, _, _⟩ := h1
  obtain ⟨A', c', rfl, _, _⟩ := h2
  clear ha hb va vb
  generalize limbs B32 a = xs at *
  generalize limbs B32 b = ys at *
  generalize a + b = n at *
  have HDA := Lib.hid hda
  have HDB := Lib.hid hdb
  clear hda hdb
  have hmx : max (xs.length : Int) (ys.length : Int) = ((max xs.length ys.length : Nat) : Int) := by omega
  have hM : max xs.length ys.length ≤ 17179869184 := by omega
  have HF : Hid (∀ L W cc, RaInv xs ys L.length cc L → Blk W w.heap.size 107 (V32 L) → Calls Tryd.prog 80 #[.slice (some ⟨w.heap.size, 0, none⟩) (max xs.length ys.length + 1) (max xs.length ys.length + 1)] W fun e w' => ∃ v', e = .returned v' ∧ R32 n v' W ∧ w' = W) := Lib.hid (fun L W cc hL hb => by
    have h := trim32_any (Sl32.of_blk hb) (by rw [hL.len]; omega) hL.dig
    rw [hL.fin HDA.out HDB.out, HV.out, hL.len] at h
    exact h)
  have HST := Lib.hid (RaInv.start xs ys)
  have HLE : Hid (∀ cc L i, RaInv xs ys i cc L → L.length = max xs.length ys.length + 1) := Lib.hid (fun cc L i h => h.len)
  generalize hMe : max xs.length ys.length = M at *
  clear hMe
  generalize xs.length = p at *
  generalize ys.length = q at *
  clear hla hlb
  have hMi : (M : Int) ≤ 17179869184 := by omega
  have HM := Lib.hid hM
  clear hM
  go_enter Tryd.func41, Tryd.ntmps41
  go_wp2_with (at_make; refine wpList_mk _ rfl (.tmp 15) (.tmp 15) 32 107 rfl (.int .u32 0) 4 Tryd.underlying32 info32 rfl .i64 .i64 _ _ (M + 1) rfl rfl ?c1 ?c1' ?c2 ?c3 ?_)
  case c1 => omega
  case c1' => omega
  case c2 => have := HM.out; omega
  case c3 => have := HM.out; omega
  intro w1 hx1 hs1 hb1
  rw [V32_rep] at hb1
  have HX := Lib.hid hx1
  have HB1 := Lib.hid hb1
  clear hx1 hb1 hs1 hmx
  go_wp2
  go_loopw [7, 8] (fun c i wr => ∃ (k cc : Nat) (L : List Nat), k ≤ M + 1 ∧ i = .int .i64 k ∧ c = .int .u64 cc ∧ cc ≤ 1 ∧ Hid (RaInv xs ys k cc L) ∧ Hid (Blk wr w.heap.size 107 (V32 L)) ∧ Hid (Ext w wr)) (fun _ i _ => M + 1 - (intOf i).toNat)
  case atStart => exact ⟨0, 0, _, Nat.zero_le _, rfl, rfl, by omega, HST, HB1, HX⟩
  case round =>
    obtain ⟨k, cc, L, hk, rfl, rfl, hcc, hL, hbk, hex⟩ := hrel
    have hlen := HLE.out cc L k hL.out
    have hk' : k ≤ 17179869185 := by have := HM.out; omega
    by_cases hkM : k ≤ M
    · have hN := hL.out.step HDA.out HDB.out (by omega)
      have hxd := HDA.out.getD (by unfold B32; omega) k
      have hyd := HDB.out.getD (by unfold B32; omega) k
      have HA1 := Lib.hid (fun W h => HA.out k W (by have := HM.out; omega) h)
      have HB2 := Lib.hid (fun W h => HB.out k W (by have := HM.out; omega) h)
      have hco : wr.cell? ⟨w.heap.size, k, none⟩ = some (.int .u32 (L.getD k 0 : Nat)) := by rw [hbk.out.cell, getD_V32 _ _ (by omega)]
      have hfo : wr.frozen? ⟨w.heap.size, k, none⟩ = false := hbk.out.frozen _
      generalize xs.getD k 0 = x at *
      generalize ys.getD k 0 = y at *
      generalize L.getD k 0 = o at *
      have HN := Lib.hid hN
      have hxi : (x : Int) ≤ 4294967295 := by unfold B32 at hxd; omega
      have hyi : (y : Int) ≤ 4294967295 := by unfold B32 at hyd; omega
      have hci : (cc : Int) ≤ 1 := by omega
      have H1 : Hid (((cc + x + y) / B32 : Nat) = ((cc : Int) + x + y) / 4294967296) := Lib.hid (by unfold B32; omega)
      have H2 : Hid (((cc + x + y) % B32 : Nat) = ((cc : Int) + x + y) % 4294967296) := Lib.hid (by unfold B32; omega)
      have hc1 : (cc + x + y) / B32 ≤ 1 := hN.c1
      clear hN hxd hyd hcc hlen hL hk'
      go_wp2_with fail
      refine (HA1.out _ hex.out).mono ?_
      rintro e w2 ⟨rfl, rfl⟩
      go_wp2_with fail
      refine (HB2.out _ hex.out).mono ?_
      rintro e w2 ⟨rfl, rfl⟩
      go_wp2
      go_roundw
      case rel =>
        refine ⟨k + 1, (cc + x + y) / B32, L.set k ((cc + x + y) % B32), by omega, by go_num, ?_, hc1, HN, Lib.hid ?_, Lib.hid (Below.setCell hex.out (p := ⟨w.heap.size, k, none⟩) (Nat.le_refl _) _)⟩
        · rw [H1.out]
        · rw [← V32_set, H2.out]; exact hbk.out.set _ _
      case measure => simp [intOf]; omega
    · obtain rfl : k = M + 1 := by omega
      rw [← hlen] at hL
      go_wp2_with fail
      refine (HF.out L _ cc hL.out hbk.out).mono ?_
      rintro e w3 ⟨v, rfl, hr, rfl⟩
      have HR := Lib.hid hr
      clear hr
      go_wp2
      go_ret
      exact ⟨_, rfl, HR.out, hex.out⟩

set_option maxHeartbeats 2000000 in
theorem refSub_any (a b : Nat) (v1 v2 : Value) (w : World) (h1 : R32 a v1 w) (h2 : R32 b v2 w) (ha : bl a ≤ 549755813888) (hab : b ≤ a) :
    Calls Tryd.prog 44 #[v1, v2] w (RetS (R32 (a - b)) w) := by
  have hb : bl b ≤ bl a := bl_mono hab
  have hla := limbs32_len a 17179869184 (by omega)
  have hlb := limbs32_len b 17179869184 (by omega)
  have hda := limbs_dig B32_two a
  have hdb := limbs_dig B32_two b
  have HB : Hid (∀ (i : Nat) W, i ≤ 17179869184 → Ext w W → Calls Tryd.prog 99 #[v2, .int .i64 i] W fun e w' => e = .returned (.int .u64 ((limbs B32 b).getD i 0 : Nat)) ∧ W = w') := Lib.hid (fun i W hi hx => at_any (limbs B32 b) v2 i W (Sl32.ext h2 hx) hdb (by omega) (by omega))
  have va := val_limbs B32_two a
  have vb := val_limbs B32_two b
  have hll : (limbs B32 b).length ≤ (limbs B32 a).length := by
    rw [limbs_length_le_iff B32_two]
    exact Nat.lt_of_le_of_lt hab ((limbs_length_le_iff B32_two a _).1 (Nat.le_refl _))
  have HV : Hid (val B32 (limbs B32 b) ≤ val B32 (limbs B32 a) ∧ val B32 (limbs B32 a) - val B32 (limbs B32 b) = a - b) := Lib.hid (by rw [va, vb]; exact ⟨hab, rfl⟩)
  obtain ⟨A, c, rfl, _, hh⟩ := h1
  obtain ⟨A', c', rfl, _, _⟩ := h2
  clear ha hb va vb hab
  generalize limbs B32 a = xs at *
  generalize limbs B32 b = ys at *
  generalize a - b = n at *
  have HDA := Lib.hid hda
  have HDB := Lib.hid hdb
  have HLL := Lib.hid hll
  have HH := Lib.hid hh
  clear hda hdb hlb hll hh
  have HF : Hid (∀ L W cc, RsInv xs ys xs.length cc L → Blk W w.heap.size 107 (V32 L) → Calls Tryd.prog 80 #[.slice (some ⟨w.heap.size, 0, none⟩) xs.length xs.length] W fun e w' => ∃ v', e = .returned v' ∧ R32 n v' W ∧ w' = W) := Lib.hid (fun L W cc hL hb => by
    have h := trim32_any (Sl32.of_blk hb) (by rw [hL.len]; omega) hL.dig
    rw [hL.fin HV.out.1 HLL.out, HV.out.2, hL.len] at h
    exact h)
  go_enter Tryd.func44, Tryd.ntmps44
  go_wp2_with (at_make; refine wpList_mk _ rfl (.tmp 10) (.tmp 10) 32 107 rfl (.int .u32 0) 4 Tryd.underlying32 info32 rfl .i64 .i64 _ _ xs.length rfl rfl ?c1 ?c1' ?c2 ?c3 ?_)
  case c1 => omega
  case c1' => omega
  case c2 => omega
  case c3 => omega
  intro w1 hx1 hs1 hb1
  rw [V32_rep] at hb1
  have HX := Lib.hid hx1
  have HB1 := Lib.hid hb1
  clear hx1 hb1 hs1
  go_wp2
  go_loopw [6, 7] (fun c i wr => ∃ (k cc : Nat) (L : List Nat), k ≤ xs.length ∧ i = .int .i64 k ∧ c = .int .u64 cc ∧ cc ≤ 1 ∧ Hid (RsInv xs ys k cc L) ∧ Hid (Blk wr w.heap.size 107 (V32 L)) ∧ Hid (Ext w wr)) (fun _ i _ => xs.length - (intOf i).toNat)
  case atStart => exact ⟨0, 0, _, Nat.zero_le _, rfl, rfl, by omega, Lib.hid (RsInv.start xs ys), HB1, HX⟩
  case round =>
    obtain ⟨k, cc, L, hk, rfl, rfl, hcc, hL, hbk, hex⟩ := hrel
    have hlen := hL.out.len
    by_cases hkM : k < xs.length
    · obtain ⟨g, off, rfl, hg, hcell⟩ := HH.out (fun e => by rw [e] at hkM; simp at hkM)
      have hcx : wr.cell? ⟨g, off + k, none⟩ = some (.int .u32 (xs.getD k 0 : Nat)) := hex.out.keep (hcell k hkM)
      have hN := hL.out.step (d := (xs.getD k 0 + 18446744073709551616 - ys.getD k 0 - cc) % 18446744073709551616) HDA.out HDB.out hkM rfl
      have hxd := HDA.out.getD (by unfold B32; omega) k
      have hyd := HDB.out.getD (by unfold B32; omega) k
      have HB2 := Lib.hid (fun W h => HB.out k W (by omega) h)
      have hco : wr.cell? ⟨w.heap.size, k, none⟩ = some (.int .u32 (L.getD k 0 : Nat)) := by rw [hbk.out.cell, getD_V32 _ _ (by omega)]
      have hfo : wr.frozen? ⟨w.heap.size, k, none⟩ = false := hbk.out.frozen _
      generalize xs.getD k 0 = x at *
      generalize ys.getD k 0 = y at *
      generalize L.getD k 0 = o at *
      have HN := Lib.hid hN
      have hxi : (x : Int) ≤ 4294967295 := by unfold B32 at hxd; omega
      have hyi : (y : Int) ≤ 4294967295 := by unfold B32 at hyd; omega
      have hci : (cc : Int) ≤ 1 := by omega
      have hc1 := hN.c1
      have hw3 : IntKind.u64.wrap (IntKind.u64.wrap ((x : Int) - (y : Int)) - (cc : Int)) = (((x + 18446744073709551616 - y - cc) % 18446744073709551616 : Nat) : Int) := by
        rw [IntKind.wrap_u64, IntKind.wrap_u64]
        unfold B32 at hxd hyd
        omega
      have hdlt : (x + 18446744073709551616 - y - cc) % 18446744073709551616 < 18446744073709551616 := Nat.mod_lt _ (by omega)
      generalize (x + 18446744073709551616 - y - cc) % 18446744073709551616 = d at *
      have HW3 := Lib.hid hw3
      have hdi : (d : Int) ≤ 18446744073709551615 := by omega
      clear hw3 hdlt
      have hcall : ∀ W, Ext w W → Calls Tryd.prog 99 #[.slice A' ys.length c', .int .i64 k] W fun e w' => e = .returned (.int .u64 y) ∧ w' = W := fun W h => (HB2.out W h).mono fun _ _ ⟨e1, e2⟩ => ⟨e1, e2.symm⟩
      have HCL := Lib.hid hcall
      clear hN hlen hL hcell hcc hcall HB2
      go_wp2
      go_quiet ((go_at_call 99; exact Calls.quiet_of_same (HCL.out _ (hex.out.drewN _))))
      rw [HW3.out]
      rename_i nq
      have hco' : (wr.drewN nq).cell? ⟨w.heap.size, k, none⟩ = some (.int .u32 o) := hco
      have hfo' : (wr.drewN nq).frozen? ⟨w.heap.size, k, none⟩ = false := hfo
      have hbk' := hbk.out.ext ((Ext.refl wr).drewN nq)
      have hex' := hex.out.drewN nq
      have HBK := Lib.hid hbk'
      have HEX := Lib.hid hex'
      clear hbk hex hbk' hex' hco hfo hcx
      generalize wr.drewN nq = W6 at *
      go_wp2
      go_roundw
      case rel =>
        refine ⟨k + 1, d / 9223372036854775808, L.set k (d % 4294967296), by omega, by go_num, by congr 1, hc1, HN, Lib.hid ?_, Lib.hid (Below.setCell HEX.out (p := ⟨w.heap.size, k, none⟩) (Nat.le_refl _) _)⟩
        rw [← V32_set]; exact HBK.out.set _ _
      case measure => simp [intOf]; omega
    · obtain rfl : k = xs.length := by omega
      go_wp2_with fail
      refine (HF.out L _ cc hL.out hbk.out).mono ?_
      rintro e w3 ⟨v, rfl, hr, rfl⟩
      have HR := Lib.hid hr
      clear hr
      go_wp2
      go_ret
      exact ⟨_, rfl, HR.out, hex.out⟩
end Go.Proofs.YtcfpjgcellahnaaDoor
