/- Walks: Bytes. -/
import Derived.Test.YtcfpjgcellahnaaDoorW10
import Derived.Test.YtcfpjgcellahnaaDoorBytes
namespace Go.Proofs.YtcfpjgcellahnaaDoor
open Go.RowKit

theorem info8 : (Tryd.prog.info? 5).map (fun i => (i.zero, i.size, i.bytes)) = some (some (.int .u8 0), 1, 1) := by kernel_rfl

set_option maxHeartbeats 1000000 in
theorem bytes_any (n : Nat) (hn : bl n ≤ 549755813888) (w : World) :
    Calls Tryd.prog 35 #[.agg #[.int .u64 (lo (n) : Nat), .string (hi (n))]] w (RetS (BytesAt w.heap.size (beB n)) w) := by
  have HB := Lib.hid (fun W => bits_any n (by omega) W)
  have HW := Lib.hid (fun W => words_any n hn W)
  have hq : ((bl n : Nat) + 7 : Int) / 8 = (nb n : Nat) := by unfold nb; omega
  have hbi : ((bl n : Nat) : Int) ≤ 549755813888 := by omega
  have hnb : nb n ≤ 68719476737 := by unfold nb; omega
  have HI : Hid (∀ i, i < nb n → i / 8 < (limbs B64 n).length) := Lib.hid (fun i hi => nb_words (s := 8) (by omega) n i hi)
  have HV : Hid (∀ i, (limbs B64 n).getD (i / 8) 0 / 256 ^ (i % 8) % 256 = n / 256 ^ i % 256) := Lib.hid (fun i => by rw [limbs_getD B64_two]; exact byte_limb (s := 8) (by omega) n i)
  have HN := Lib.hid hn
  clear hn
  generalize hL : limbs B64 n = L at *
  generalize hla : lo n = la at *
  generalize hsa : hi n = sa at *
  generalize hl : bl n = l at *
  generalize hN : nb n = N at *
  have E := Lib.hid hN
  clear hL hla hsa hl hN
  go_enter Tryd.func35, Tryd.ntmps35
  go_wp2_with fail
  refine (HB.out _).mono ?_
  rintro e w1 ⟨rfl, hx1⟩
  have HX1 := Lib.hid hx1
  clear hx1
  go_wp2_with (at_make; refine wpList_mk _ rfl (.tmp 11) (.tmp 11) 35 5 rfl (.int .u8 0) 1 Tryd.underlying35 info8 rfl .i64 .i64 _ _ N rfl rfl ?c1 ?c1' ?c2 ?c3 ?_)
  case c1 => omega
  case c1' => omega
  case c2 => omega
  case c3 => omega
  intro w2 hx2 hs2 hb2
  have hp2 := ((Blk.new w 24 [.int .u64 la, .string sa]).ext HX1.out).ext hx2
  have p0 : w2.cell? ⟨w.heap.size, 0, none⟩ = some (.int .u64 la) := hp2.cell 0
  have p1 : w2.cell? ⟨w.heap.size, 1, none⟩ = some (.string sa) := hp2.cell 1
  have hge : w.heap.size ≤ w1.heap.size := Nat.le_trans (by simp) HX1.out.size
  have HX2 : Hid (Ext w w2) := Lib.hid ((((Ext.refl w).alloc _).trans HX1.out).trans hx2)
  have HB2 := Lib.hid hb2
  clear hx2 hb2 hp2
  have HGE := Lib.hid hge
  clear hge hs2
  generalize w1.heap.size = g at *
  go_wp2_with fail
  refine (HW.out _).mono ?_
  rintro e w3 ⟨v3, rfl, hf3, hx3⟩
  obtain ⟨A, c, rfl, hh⟩ := fresh_form hf3
  have HB3 := Lib.hid (HB2.out.ext hx3)
  have HX3 := Lib.hid (HX2.out.trans hx3)
  have HF3 : Hid (L ≠ [] → ∃ g', w2.heap.size ≤ g' ∧ c = L.length ∧ A = some ⟨g', 0, none⟩ ∧ Blk w3 g' 22 (U L)) := Lib.hid hh
  have HGL := Lib.hid HB2.out.lt
  clear hf3 hx3 hh p0 p1
  go_wp2
  go_loopw [16] (fun i wr => ∃ k : Nat, k ≤ N ∧ i = .int .i64 k ∧ Hid (Blk wr g 5 (Lib.byteCells (bfill (beB n) k))) ∧ Hid (But g w3 wr)) (fun i _ => N - (intOf i).toNat)
  case atStart =>
    refine ⟨0, by omega, rfl, Lib.hid ?_, Lib.hid (But.refl _ _)⟩
    rw [bfill_zero, byteCells_rep, beB_length, E.out]
    exact HB3.out
  case round =>
    obtain ⟨k, hk, rfl, hbk, hbut⟩ := hrel
    by_cases hkN : k < N
    · have hki := HI.out k hkN
      obtain ⟨g', hg', rfl, rfl, hbg⟩ := HF3.out (fun e => by rw [e] at hki; simp at hki)
      have hne : g' ≠ g := by have := HGL.out; omega
      have hbg' := hbut.out.blk hbg hne
      have hc : wr.cell? ⟨g', k / 8, none⟩ = some (.int .u64 (L.getD (k / 8) 0 : Nat)) := by rw [hbg'.cell (k / 8), getD_U _ _ hki]
      have hv := HV.out k
      have hset : wr.cell? ⟨g, N - 1 - k, none⟩ = some (.int .u8 0) := by
        rw [hbk.out.cell, ← E.out]
        exact bfill_cell n k (by rw [E.out]; exact hkN)
      have hf : wr.frozen? ⟨g, N - 1 - k, none⟩ = false := hbk.out.frozen _
      have HV2 := Lib.hid hv
      clear hv hbg' hbg hg' hne
      generalize L.getD (k / 8) 0 = x at *
      go_wp2
      refine ⟨⟨k + 1, by omega, rfl, Lib.hid ?_, Lib.hid (hbut.out.set _ _)⟩, by simp [intOf]; omega⟩
      have h := hbk.out.set (N - 1 - k) (.int .u8 ((x : Int) / 2 ^ (8 * (k % 8)) % 256))
      rw [← E.out, bfill_beB n k (by rw [E.out]; exact hkN) _ (by rw [← byte_shift, HV2.out])] at h
      rw [← E.out]
      exact h
    · obtain rfl : k = N := by omega
      clear hk hkN
      go_wp2
      go_ret
      have hb := hbk.out
      have el : (beB n).length = k := by rw [beB_length, E.out]
      refine ⟨_, rfl, ⟨g, HGE.out, by rw [el]; rfl, ?_⟩, hbut.out.ext HX3.out HGE.out⟩
      have h2 := bfill_all (beB n)
      rw [el] at h2
      rw [h2] at hb
      exact hb
end Go.Proofs.YtcfpjgcellahnaaDoor
