/- Walks: FromBytes; the document's NatFrom. -/
import Derived.Test.YtcfpjgcellahnaaDoorFrom
import Derived.Test.YtcfpjgcellahnaaDoorW13
import Derived.Test.YtcfpjgcellahnaaDoorW18
import Derived.RegionTactic
import Derived.BigRegion
namespace Go.Proofs.YtcfpjgcellahnaaDoor
open Go.RowKit

set_option maxHeartbeats 1000000 in
theorem fromBytes_any (l : List UInt8) (v : Value) (w : World) (hl : l.length ≤ 68719476737) (hs : SlB l v w) :
    Calls Tryd.prog 34 #[v] w (Ret (.agg #[.int .u64 (lo (beN l) : Nat), .string (hi (beN l))]) w) := by
  obtain ⟨A, c, rfl, hc, hm, hh⟩ := hs
  have HH := Lib.hid hh
  have HF : Hid (∀ L W, FbUp (rb l) (rb l).length L → Blk W (w.heap.size + 1) 22 (U L) → Calls Tryd.prog 77 #[.slice (some ⟨w.heap.size + 1, 0, none⟩) ((l.length + 7) / 8) ((l.length + 7) / 8)] W (Ret (.agg #[.int .u64 (lo (beN l) : Nat), .string (hi (beN l))]) W)) := Lib.hid (fun L W hL hb => by
    have h := fromWords_blk (w.heap.size + 1) L.length L [] W (by simpa using hb) (Nat.le_refl _) (by rw [hL.len, rb_length]; omega) hL.dig
    rw [hL.fin, hL.len, rb_length] at h
    exact h)
  have hq : ((l.length : Nat) + 7 : Int) / 8 = ((l.length + 7) / 8 : Nat) := by omega
  have hM : (l.length + 7) / 8 ≤ 10000000000 := by omega
  clear hh hc hm
  generalize hMe : (l.length + 7) / 8 = M at *
  have HM := Lib.hid hMe
  clear hMe
  generalize lo (beN l) = la at *
  generalize hi (beN l) = sa at *
  go_enter Tryd.func34, Tryd.ntmps34
  go_wp2_with (at_make; refine wpList_mk _ rfl (.tmp 8) (.tmp 8) 104 22 rfl (.int .u64 0) 8 Tryd.underlying104 info64 rfl .i64 .i64 _ _ M rfl rfl ?c1 ?c1' ?c2 ?c3 ?_)
  case c1 => omega
  case c1' => omega
  case c2 => omega
  case c3 => omega
  intro w1 hx1 hs1 hb1
  try simp only [World.size_alloc] at hs1 hb1
  rw [rep_U] at hb1
  have HR := Lib.hid ((Blk.new w 24 [.int .u64 0, .string ⟨#[]⟩]).ext hx1)
  have HX := Lib.hid (((Ext.refl w).alloc _).trans hx1)
  have HB := Lib.hid hb1
  clear hx1 hb1 hs1 hq
  go_wp2
  go_loopw [12] (fun i wr => ∃ (k : Nat) (L : List Nat), k ≤ l.length ∧ i = .int .i64 k ∧ Hid (FbUp (rb l) k L) ∧ Hid (Blk wr (w.heap.size + 1) 22 (U L)) ∧ Hid (But (w.heap.size + 1) w1 wr)) (fun i _ => l.length - (intOf i).toNat)
  case atStart => exact ⟨0, _, Nat.zero_le _, rfl, Lib.hid (by have h := FbUp.start (rb l); rw [rb_length, HM.out] at h; exact h), HB, Lib.hid (But.refl _ _)⟩
  case round =>
    obtain ⟨k, L, hk, rfl, hL, hbk, hbut⟩ := hrel
    by_cases hkx : k < l.length
    · obtain ⟨g, off, rfl, hg, hcell⟩ := HH.out (fun e => by rw [e] at hkx; simp at hkx)
      have hcx : wr.cell? ⟨g, off + (l.length - 1 - k), none⟩ = some (.int .u8 ((rb l).getD k 0 : Nat)) := by
        rw [rb_getD' l k hkx]
        exact (hbut.out.ext HX.out (by omega)).keep (hcell _ (by omega))
      have hlen := hL.out.len
      rw [rb_length, HM.out] at hlen
      have hk8 : k / 8 < M := by have := HM.out; omega
      have hc1 : wr.cell? ⟨w.heap.size + 1, k / 8, none⟩ = some (.int .u64 (L.getD (k / 8) 0 : Nat)) := by rw [hbk.out.cell, getD_U _ _ (by omega)]
      have hf1 : wr.frozen? ⟨w.heap.size + 1, k / 8, none⟩ = false := hbk.out.frozen _
      have hxd : (rb l).getD k 0 < 256 := (rb_dig l).getD (by omega) k
      have hw := hL.out.word (rb_dig l)
      obtain ⟨_, hN⟩ := hL.out.step (by rw [rb_length]; exact hkx) (rb_dig l)
      have HN := Lib.hid hN
      have HV := Lib.hid (or64 (p := 8 * (k % 8)) hxd (by omega) hw)
      clear hcell hlen hN hw
      generalize (rb l).getD k 0 = x at *
      generalize L.getD (k / 8) 0 = o at *
      go_wp2
      go_region
      rw [HV.out]
      go_wp2
      go_roundw
      case rel =>
        refine ⟨k + 1, _, by omega, by go_num, HN, ?_, Lib.hid ((hbut.out.set (k / 8) _).trans (But.of_ext (Ext.refl _).drew))⟩
        have h := hbk.out.set (k / 8) (.int .u64 (o + 2 ^ (8 * (k % 8)) * x : Nat))
        rw [U_set] at h
        exact Lib.hid h
      case measure => simp [intOf]; omega
    · obtain rfl : k = l.length := by omega
      go_wp2_with fail
      refine (HF.out L _ (by rw [rb_length]; exact hL.out) hbk.out).mono ?_
      rintro e w3 ⟨rfl, hx3⟩
      have he : Ext w w3 := (hbut.out.ext HX.out (by omega)).trans hx3
      have hr3 := (hbut.out.blk HR.out (by omega)).ext hx3
      have r0 : w3.cell? ⟨w.heap.size, 0, none⟩ = some (.int .u64 0) := hr3.cell 0
      have r1 : w3.cell? ⟨w.heap.size, 1, none⟩ = some (.string ⟨#[]⟩) := hr3.cell 1
      have f0 : w3.frozen? ⟨w.heap.size, 0, none⟩ = false := hr3.frozen 0
      have f1 : w3.frozen? ⟨w.heap.size, 1, none⟩ = false := hr3.frozen 1
      go_wp2
      refine ret_nat w.heap.size _ _ rfl rfl ((hr3.set 0 _).set 1 _) rfl ⟨rfl, ?_⟩
      exact (Below.setCell he (p := ⟨w.heap.size, 0, none⟩) (by show _ ≤ _; simp) _).setCell (p := ⟨w.heap.size, 1, none⟩) (by show _ ≤ _; simp) _
theorem info32 : (Tryd.prog.info? 107).map (fun i => (i.zero, i.size, i.bytes)) = some (some (.int .u32 0), 1, 4) := by kernel_rfl

set_option maxHeartbeats 1000000 in
theorem refFrom_any (l : List UInt8) (v : Value) (w : World) (hl : l.length ≤ 68719476737) (hs : SlB l v w) :
    Calls Tryd.prog 81 #[v] w (RetS (R32 (beN l)) w) := by
  obtain ⟨A, c, rfl, hc, hm, hh⟩ := hs
  have HH := Lib.hid hh
  have HF : Hid (∀ L W, FbDn (rb l) 0 L → Blk W w.heap.size 107 (V32 L) → Calls Tryd.prog 80 #[.slice (some ⟨w.heap.size, 0, none⟩) ((l.length + 3) / 4) ((l.length + 3) / 4)] W fun e w' => ∃ v', e = .returned v' ∧ R32 (beN l) v' W ∧ w' = W) := Lib.hid (fun L W hL hb => by
    have h := trim32_any (Sl32.of_blk hb) (by rw [hL.len, rb_length]; omega) hL.dig
    rw [hL.vl, hL.len, rb_length, Nat.pow_zero, Nat.one_mul, List.drop_zero] at h
    exact h)
  have hq : ((l.length : Nat) + 3 : Int) / 4 = ((l.length + 3) / 4 : Nat) := by omega
  have hM : (l.length + 3) / 4 ≤ 20000000000 := by omega
  clear hh hc hm
  generalize hMe : (l.length + 3) / 4 = M at *
  have HM := Lib.hid hMe
  clear hMe
  go_enter Tryd.func81, Tryd.ntmps81
  go_wp2_with (at_make; refine wpList_mk _ rfl (.tmp 9) (.tmp 9) 32 107 rfl (.int .u32 0) 4 Tryd.underlying32 info32 rfl .i64 .i64 _ _ M rfl rfl ?c1 ?c1' ?c2 ?c3 ?_)
  case c1 => omega
  case c1' => omega
  case c2 => omega
  case c3 => omega
  intro w1 hx1 hs1 hb1
  try simp only [World.size_alloc] at hs1 hb1
  rw [V32_rep] at hb1
  have HX := Lib.hid hx1
  have HB := Lib.hid hb1
  clear hx1 hb1 hs1 hq
  go_wp2
  go_loopw [4] (fun i wr => ∃ (k : Nat) (L : List Nat), k ≤ l.length ∧ i = .int .i64 k ∧ Hid (FbDn (rb l) (l.length - k) L) ∧ Hid (Blk wr w.heap.size 107 (V32 L)) ∧ Hid (But w.heap.size w1 wr)) (fun i _ => l.length - (intOf i).toNat)
  case atStart => exact ⟨0, _, Nat.zero_le _, rfl, Lib.hid (by have h := FbDn.start (rb l); rw [rb_length, HM.out] at h; exact h), HB, Lib.hid (But.refl _ _)⟩
  case round =>
    obtain ⟨k, L, hk, rfl, hL, hbk, hbut⟩ := hrel
    by_cases hkx : k < l.length
    · obtain ⟨g, off, rfl, hg, hcell⟩ := HH.out (fun e => by rw [e] at hkx; simp at hkx)
      have hcx : wr.cell? ⟨g, off + k, none⟩ = some (.int .u8 ((rb l).getD (l.length - 1 - k) 0 : Nat)) := by
        rw [rb_getD l k hkx]
        exact (hbut.out.ext HX.out (by omega)).keep (hcell _ hkx)
      obtain ⟨j, hj⟩ : ∃ j, l.length - 1 - k = j := ⟨_, rfl⟩
      have HLj : Hid (FbDn (rb l) (j + 1) L) := Lib.hid (by have h := hL.out; rw [show l.length - k = j + 1 from by omega] at h; exact h)
      rw [hj] at hcx
      have hlen := HLj.out.len
      rw [rb_length, HM.out] at hlen
      have hk8 : j / 4 < M := by have := HM.out; omega
      have hc1 : wr.cell? ⟨w.heap.size, j / 4, none⟩ = some (.int .u32 (L.getD (j / 4) 0 : Nat)) := by rw [hbk.out.cell, getD_V32 _ _ (by omega)]
      have hf1 : wr.frozen? ⟨w.heap.size, j / 4, none⟩ = false := hbk.out.frozen _
      have hxd : (rb l).getD j 0 < 256 := (rb_dig l).getD (by omega) j
      obtain ⟨z, hz⟩ := HLj.out.word
      have ho : L.getD (j / 4) 0 < B32 := HLj.out.dig.getD (by unfold B32; omega) _
      obtain ⟨_, hN⟩ := HLj.out.step (by rw [rb_length]; omega) (rb_dig l)
      have HN := Lib.hid hN
      have hv := or32 (p := 8 * (j % 4)) hxd (by omega) hz ho
      rw [IntKind.wrap_u32'] at hv
      have HV := Lib.hid hv
      have hji : (l.length : Int) - 1 - k = j := by omega
      have hjk : j + 1 + k = l.length := by omega
      have HJ := Lib.hid hjk
      clear hcell hlen hN hz hj hL hjk hv
      generalize (rb l).getD j 0 = x at *
      generalize L.getD (j / 4) 0 = o at *
      have ho' : (o : Int) ≤ 4294967295 := by unfold B32 at ho; omega
      go_wp2
      go_region
      rw [HV.out]
      go_wp2
      go_roundw
      case rel =>
        refine ⟨k + 1, _, by omega, by go_num, by have := HJ.out; rw [show l.length - (k + 1) = j from by omega]; exact HN, ?_, Lib.hid ((hbut.out.set (j / 4) _).trans (But.of_ext (Ext.refl _).drew))⟩
        have h := hbk.out.set (j / 4) (.int .u32 (o + 2 ^ (8 * (j % 4)) * x : Nat))
        rw [V32_set] at h
        exact Lib.hid h
      case measure => simp [intOf]; omega
    · obtain rfl : k = l.length := by omega
      have HL0 : Hid (FbDn (rb l) 0 L) := Lib.hid (by have h := hL.out; rw [Nat.sub_self] at h; exact h)
      go_wp2_with fail
      refine (HF.out L _ HL0.out hbk.out).mono ?_
      rintro e w3 ⟨v, rfl, hr, rfl⟩
      have HR := Lib.hid hr
      clear hr
      go_wp2
      go_ret
      exact ⟨_, rfl, HR.out, hbut.out.ext HX.out (Nat.le_refl _)⟩
end Go.Proofs.YtcfpjgcellahnaaDoor
