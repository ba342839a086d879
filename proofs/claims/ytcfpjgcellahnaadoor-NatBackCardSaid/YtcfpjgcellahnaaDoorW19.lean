/- Walks: the document's NatBytes; is. -/
import Derived.Test.YtcfpjgcellahnaaDoorW18
import Derived.Test.YtcfpjgcellahnaaDoorW17
namespace Go.Proofs.YtcfpjgcellahnaaDoor
open Go.RowKit

set_option maxHeartbeats 1000000 in
theorem refBytes_any (n : Nat) (hn : bl n ≤ 549755813888) (v : Value) (w : World) (hR : R32 n v w) :
    Calls Tryd.prog 79 #[v] w (RetS (BytesAt w.heap.size (beB n)) w) := by
  have HB := Lib.hid (refBits_any n v w hR (by omega))
  have hq : ((bl n : Nat) + 7 : Int) / 8 = (nb n : Nat) := by unfold nb; omega
  have hbi : ((bl n : Nat) : Int) ≤ 549755813888 := by omega
  have hnb : nb n ≤ 68719476737 := by unfold nb; omega
  have HI : Hid (∀ i, i < nb n → i / 4 < (limbs B32 n).length) := Lib.hid (fun i hi => nb_words (s := 4) (by omega) n i hi)
  have HV : Hid (∀ i, (limbs B32 n).getD (i / 4) 0 / 256 ^ (i % 4) % 256 = n / 256 ^ i % 256) := Lib.hid (fun i => by rw [limbs_getD B32_two]; exact byte_limb (s := 4) (by omega) n i)
  obtain ⟨A, c, rfl, hcl, hh⟩ := hR
  have HF3 := Lib.hid hh
  clear hn hh
  generalize hL : limbs B32 n = L at *
  generalize hl : bl n = l at *
  generalize hN : nb n = N at *
  have E := Lib.hid hN
  clear hL hl hN hcl
  go_enter Tryd.func79, Tryd.ntmps79
  go_wp2_with fail
  refine (HB.out).mono ?_
  rintro e w1 ⟨rfl, rfl⟩
  go_wp2_with (at_make; refine wpList_mk _ rfl (.tmp 10) (.tmp 10) 35 5 rfl (.int .u8 0) 1 Tryd.underlying35 info8 rfl .i64 .i64 _ _ N rfl rfl ?c1 ?c1' ?c2 ?c3 ?_)
  case c1 => omega
  case c1' => omega
  case c2 => omega
  case c3 => omega
  intro w3 hx3 hs3 hb3
  have HB3 := Lib.hid hb3
  have HX3 := Lib.hid hx3
  clear hx3 hb3 hs3
  go_wp2
  go_loopw [5] (fun i wr => ∃ k : Nat, k ≤ N ∧ i = .int .i64 k ∧ Hid (Blk wr w1.heap.size 5 (Lib.byteCells (bfill (beB n) k))) ∧ Hid (But w1.heap.size w3 wr)) (fun i _ => N - (intOf i).toNat)
  case atStart =>
    refine ⟨0, by omega, rfl, Lib.hid ?_, Lib.hid (But.refl _ _)⟩
    rw [bfill_zero, byteCells_rep, beB_length, E.out]
    exact HB3.out
  case round =>
    obtain ⟨k, hk, rfl, hbk, hbut⟩ := hrel
    by_cases hkN : k < N
    · have hki := HI.out k hkN
      obtain ⟨g', off, rfl, hg', hbg⟩ := HF3.out (fun e => by rw [e] at hki; simp at hki)
      have hc : wr.cell? ⟨g', off + k / 4, none⟩ = some (.int .u32 (L.getD (k / 4) 0 : Nat)) := (hbut.out.ext HX3.out (Nat.le_refl _)).keep (hbg _ hki)
      have hv := HV.out k
      have hset : wr.cell? ⟨w1.heap.size, N - 1 - k, none⟩ = some (.int .u8 0) := by
        rw [hbk.out.cell, ← E.out]
        exact bfill_cell n k (by rw [E.out]; exact hkN)
      have hf : wr.frozen? ⟨w1.heap.size, N - 1 - k, none⟩ = false := hbk.out.frozen _
      have HV2 := Lib.hid hv
      clear hv hbg hg'
      generalize L.getD (k / 4) 0 = x at *
      go_wp2
      refine ⟨⟨k + 1, by omega, rfl, Lib.hid ?_, Lib.hid (hbut.out.set _ _)⟩, by simp [intOf]; omega⟩
      have h := hbk.out.set (N - 1 - k) (.int .u8 ((x : Int) / 2 ^ (8 * (k % 4)) % 256))
      rw [← E.out, bfill_beB n k (by rw [E.out]; exact hkN) _ (by rw [← byte_shift, HV2.out])] at h
      rw [← E.out]
      exact h
    · obtain rfl : k = N := by omega
      clear hk hkN
      go_wp2
      go_ret
      have hb := hbk.out
      have el : (beB n).length = k := by rw [beB_length, E.out]
      refine ⟨_, rfl, ⟨w1.heap.size, Nat.le_refl _, by rw [el]; rfl, ?_⟩, hbut.out.ext HX3.out (Nat.le_refl _)⟩
      have h2 := bfill_all (beB n)
      rw [el] at h2
      rw [h2] at hb
      exact hb

theorem convBytes {base : Nat} {l : List UInt8} {v : Value} {w : World} (h : BytesAt base l v w) : (convert 35 9 v).run Tryd.prog w = .ok (.string ⟨l.toArray⟩) w := by
  obtain ⟨g, _, rfl, hb⟩ := h
  refine run_convert_bytes_back w _ _ 5 ⟨g, 0, none⟩ l.length l Tryd.underlying35 Tryd.underlying5 Tryd.underlying9 (fun j hj => ?_)
  have := hb.cell j
  simp only [Lib.byteCells, List.getElem?_map, List.getElem?_eq_getElem hj, Option.map_some] at this
  have e : (⟨g, 0, none⟩ : Addr).add j = ⟨g, j, none⟩ := by
    simp only [Addr.add]
    split
    · next h => simp_all
    · simp
  rw [e]; exact this

set_option maxHeartbeats 2000000 in
theorem is_true (n : Nat) (hn : bl n ≤ 549755813888) (vr : Value) (w : World) (hR : R32 n vr w) :
    Calls Tryd.prog 22 #[.agg #[.int .u64 (lo (n) : Nat), .string (hi (n))], vr] w (Ret (.bool true) w) := by
  have HA : Hid (∀ W, Calls Tryd.prog 35 #[.agg #[.int .u64 (lo (n) : Nat), .string (hi (n))]] W (RetS (BytesAt 0 (beB n)) W)) := Lib.hid (fun W => (bytes_any n hn W).mono fun _ _ ⟨v, h1, ⟨g, _, h2⟩, h3⟩ => ⟨v, h1, ⟨g, Nat.zero_le _, h2⟩, h3⟩)
  have HB : Hid (∀ W, R32 n vr W → Calls Tryd.prog 79 #[vr] W (RetS (BytesAt 0 (beB n)) W)) := Lib.hid (fun W h => (refBytes_any n hn vr W h).mono fun _ _ ⟨v, h1, ⟨g, _, h2⟩, h3⟩ => ⟨v, h1, ⟨g, Nat.zero_le _, h2⟩, h3⟩)
  generalize lo n = la at *
  generalize hi n = sa at *
  have HR := Lib.hid hR
  clear hR hn
  go_enter Tryd.func22, Tryd.ntmps22
  go_wp2
  have hbx : Blk (w.alloc (.cells #[.int .u64 la, .string sa] 24)) w.heap.size 24 [.int .u64 la, .string sa] := Blk.new w _ _
  have hEx : Ext w (w.alloc (.cells #[.int .u64 la, .string sa] 24)) := (Ext.refl w).alloc _
  generalize w.alloc (.cells #[.int .u64 la, .string sa] 24) = W at *
  refine wp_region_all goesExt 7 [fun v _ => v = .agg #[.int .u64 la, .string sa], BytesAt 0 (beB n), fun v _ => v = .string ⟨(beB n).toArray⟩, fun v _ => v = vr, BytesAt 0 (beB n), fun v _ => v = .string ⟨(beB n).toArray⟩, fun v _ => v = .bool true] (by kernel_rfl) (by kernel_rfl) ?hG ?hQ ⟨fun h => (by cases h), fun _ => ?o0, fun h => (by cases h), fun _ => ?o1, fun h => (by cases h), fun _ => ?o2, fun h => (by cases h), fun _ => ?o3, fun h => (by cases h), fun _ => ?o4, fun h => (by cases h), fun _ => ?o5, fun h => (by cases h), fun _ => ?o6, trivial⟩ ?fin
  case hG =>
    intro g hg
    simp at hg
    rcases hg with rfl | rfl | rfl | rfl | rfl | rfl | rfl
    all_goals first | exact fun _ _ _ _ h => h | exact fun _ _ _ e h => h.ext e
  case hQ => exact fun c a w d v h => by cases d <;> exact h
  case o0 =>
    intro v w' hw hj
    have c0 : w'.cell? ⟨w.heap.size, 0, none⟩ = some (.int .u64 la) := (hbx.ext hw).cell 0
    have c1 : w'.cell? ⟨w.heap.size, 1, none⟩ = some (.string sa) := (hbx.ext hw).cell 1
    simp [putOps]
    go_wp2
    exact ⟨rfl, rfl, Ext.refl _, fun d hd => by cases hd; rfl⟩
  case o1 =>
    intro v w' hw hj
    have e0 : v 0 = .agg #[.int .u64 la, .string sa] := hj 0 (by kernel_rfl)
    simp [putOps, Act.put, e0]
    go_wp2_with fail
    refine (HA.out _).mono ?_
    rintro e w2 ⟨u, rfl, h1, h2⟩
    go_wp2
    exact ⟨rfl, rfl, h2, fun d hd => by cases hd; exact h1⟩
  case o2 =>
    intro v w' hw hj
    have e0 : BytesAt 0 (beB n) (v 1) w' := hj 1 (by kernel_rfl)
    have hcv := convBytes e0
    simp [putOps, Act.put]
    go_wp2
    exact ⟨rfl, rfl, Ext.refl _, fun d hd => by cases hd; rfl⟩
  case o3 =>
    intro v w' hw hj
    simp [putOps, Act.put]
    go_wp2
    exact ⟨rfl, rfl, Ext.refl _, fun d hd => by cases hd; rfl⟩
  case o4 =>
    intro v w' hw hj
    have e0 : v 3 = vr := hj 3 (by kernel_rfl)
    simp [putOps, Act.put, e0]
    go_wp2_with fail
    refine (HB.out _ (HR.out.ext (hEx.trans hw))).mono ?_
    rintro e w2 ⟨u, rfl, h1, h2⟩
    go_wp2
    exact ⟨rfl, rfl, h2, fun d hd => by cases hd; exact h1⟩
  case o5 =>
    intro v w' hw hj
    have e0 : BytesAt 0 (beB n) (v 4) w' := hj 4 (by kernel_rfl)
    have hcv := convBytes e0
    simp [putOps, Act.put]
    go_wp2
    exact ⟨rfl, rfl, Ext.refl _, fun d hd => by cases hd; rfl⟩
  case o6 =>
    intro v w' hw hj
    have e2 : v 2 = .string ⟨(beB n).toArray⟩ := hj 2 (by kernel_rfl)
    have e5 : v 5 = .string ⟨(beB n).toArray⟩ := hj 5 (by kernel_rfl)
    simp [putOps, Act.put, e2, e5]
    go_wp2
    exact ⟨rfl, rfl, Ext.refl _, fun d hd => by cases hd; rfl⟩
  case fin =>
    intro v w3 hw hj
    have e6 : v 6 = .bool true := hj 6 11 (by omega) rfl
    simp [putOps, Act.put, e6]
    go_wp2
    go_ret
    exact ⟨rfl, hEx.trans hw⟩
end Go.Proofs.YtcfpjgcellahnaaDoor
