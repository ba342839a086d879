/- Walks: Bytes. Walks: the document's trim, NatOf, NatBits. Walks: the document's NatBytes; is. Walks: guessWord. Walks: FromBytes; the document's NatFrom. Walks: hand.Few, hand.Nat, law1.two. Walks: divWords. Walks: Div of great numbers. -/
import Derived.RegionTactic
import Derived.BigRegion
import Derived.Lib.MinMax
import Derived.Laws.AppendOwnNone
import Derived.Laws.CopyOwn
import Derived.Test.YtcfpjgcellahnaaDoorM4
namespace Go.Proofs.YtcfpjgcellahnaaDoor
open Go.RowKit

theorem info8 : (Tryd.prog.info? 5).map (fun i => (i.zero, i.size, i.bytes)) = some (some (.int .u8 0), 1, 1) := by kernel_rfl

set_option maxHeartbeats 1000000 in
theorem bytes_any (n : Nat) (hn : bl n ≤ 549755813888) (w : World) :
    Calls Tryd.prog 35 #[.agg #[.int .u64 (lo (n) : Nat), .string (hi (n))]] w (RetS (BytesAt w.heap.size (beB n)) w) := by
  have HB := Lib.hid (fun W => bits_any n (by omega) W)
  have HW := Lib.hid (fun W => words_any n hn W)
  have hq : ((bl n : Nat) + 7 : Int) / 8 = (nb n : Nat) := by unfold nb; omega
  have hbi : ((bl n : Nat) : Int) ≤ 549755813888 := by omega
  have hnb : nb n ≤ 68719476737 := by unfold nb; omega
  have HI : Hid (∀ i, i < nb n → i / 8 < (limbs B64 n).length) := Lib.hid (fun i hi => nb_words (s := 8) (by omega) n i hi)
  have HV : Hid (∀ i, (limbs B64 n).getD (i / 8) 0 / 256 ^ (i % 8) % 256 = n / 256 ^ i % 256) := Lib.hid (fun i => by rw [limbs_getD B64_two]; exact byte_limb (s := 8) (by omega) n i)
  have HN := Lib.hid hn
  clear hn
  generalize hL : limbs B64 n = L at *
  generalize hla : lo n = la at *
  generalize hsa : hi n = sa at *
  generalize hl : bl n = l at *
  generalize hN : nb n = N at *
  have E := Lib.hid hN
  clear hL hla hsa hl hN
  go_enter Tryd.func35, Tryd.ntmps35
  go_wp2_with fail
  refine (HB.out _).mono ?_
  rintro e w1 ⟨rfl, hx1⟩
  have HX1 := Lib.hid hx1
  clear hx1
  go_wp2_with (at_make; refine wpList_mk _ rfl (.tmp 11) (.tmp 11) 35 5 rfl (.int .u8 0) 1 Tryd.underlying35 info8 rfl .i64 .i64 _ _ N rfl rfl ?c1 ?c1' ?c2 ?c3 ?_)
  case c1 => omega
  case c1' => omega
  case c2 => omega
  case c3 => omega
  intro w2 hx2 hs2 hb2
  have hp2 := ((Blk.new w 24 [.int .u64 la, .string sa]).ext HX1.out).ext hx2
  have p0 : w2.cell? ⟨w.heap.size, 0, none⟩ = some (.int .u64 la) := hp2.cell 0
  have p1 : w2.cell? ⟨w.heap.size, 1, none⟩ = some (.string sa) := hp2.cell 1
  have hge : w.heap.size ≤ w1.heap.size := Nat.le_trans (by simp) HX1.out.size
  have HX2 : Hid (Ext w w2) := Lib.hid ((((Ext.refl w).alloc _).trans HX1.out).trans hx2)
  have HB2 := Lib.hid hb2
  clear hx2 hb2 hp2
  have HGE := Lib.hid hge
  clear hge hs2
  generalize w1.heap.size = g at *
  go_wp2_with fail
  refine (HW.out _).mono ?_
  rintro e w3 ⟨v3, rfl, hf3, hx3⟩
  obtain ⟨A, c, rfl, hh⟩ := fresh_form hf3
  have HB3 := Lib.hid (HB2.out.ext hx3)
  have HX3 := Lib.hid (HX2.out.trans hx3)
  have HF3 : Hid (L ≠ [] → ∃ g', w2.heap.size ≤ g' ∧ c = L.length ∧ A = some ⟨g', 0, none⟩ ∧ Blk w3 g' 22 (U L)) := Lib.hid hh
  have HGL := Lib.hid HB2.out.lt
  clear hf3 hx3 hh p0 p1
  go_wp2
  go_loopw [16] (fun i wr => ∃ k : Nat, k ≤ N ∧ i = .int .i64 k ∧ Hid (Blk wr g 5 (Lib.byteCells (bfill (beB n) k))) ∧ Hid (But g w3 wr)) (fun i _ => N - (intOf i).toNat)
  case atStart =>
    refine ⟨0, by omega, rfl, Lib.hid ?_, Lib.hid (But.refl _ _)⟩
    rw [bfill_zero, byteCells_rep, beB_length, E.out]
    exact HB3.out
  case round =>
    obtain ⟨k, hk, rfl, hbk, hbut⟩ := hrel
    by_cases hkN : k < N
    · have hki := HI.out k hkN
      obtain ⟨g', hg', rfl, rfl, hbg⟩ := HF3.out (fun e => by rw [e] at hki; simp at hki)
      have hne : g' ≠ g := by have := HGL.out; omega
      have hbg' := hbut.out.blk hbg hne
      have hc : wr.cell? ⟨g', k / 8, none⟩ = some (.int .u64 (L.getD (k / 8) 0 : Nat)) := by rw [hbg'.cell (k / 8), getD_U _ _ hki]
      have hv := HV.out k
      have hset : wr.cell? ⟨g, N - 1 - k, none⟩ = some (.int .u8 0) := by
        rw [hbk.out.cell, ← E.out]
        exact bfill_cell n k (by rw [E.out]; exact hkN)
      have hf : wr.frozen? ⟨g, N - 1 - k, none⟩ = false := hbk.out.frozen _
      have HV2 := Lib.hid hv
      clear hv hbg' hbg hg' hne
      generalize L.getD (k / 8) 0 = x at *
      go_wp2
      refine ⟨⟨k + 1, by omega, rfl, Lib.hid ?_, Lib.hid (hbut.out.set _ _)⟩, by simp [intOf]; omega⟩
      have h := hbk.out.set (N - 1 - k) (.int .u8 ((x : Int) / 2 ^ (8 * (k % 8)) % 256))
      rw [← E.out, bfill_beB n k (by rw [E.out]; exact hkN) _ (by rw [← byte_shift, HV2.out])] at h
      rw [← E.out]
      exact h
    · obtain rfl : k = N := by omega
      clear hk hkN
      go_wp2
      go_ret
      have hb := hbk.out
      have el : (beB n).length = k := by rw [beB_length, E.out]
      refine ⟨_, rfl, ⟨g, HGE.out, by rw [el]; rfl, ?_⟩, hbut.out.ext HX3.out HGE.out⟩
      have h2 := bfill_all (beB n)
      rw [el] at h2
      rw [h2] at hb
      exact hb
end Go.Proofs.YtcfpjgcellahnaaDoor

namespace Go.Proofs.YtcfpjgcellahnaaDoor
open Go.RowKit

set_option maxHeartbeats 1000000 in
theorem trim32_nil (A : Option Addr) (c : Nat) (w : World) : Calls Tryd.prog 80 #[.slice A 0 c] w fun e w' => e = .returned (.slice A 0 c) ∧ w' = w := by
  go_enter Tryd.func80, Tryd.ntmps80
  go_wp2
  go_rounds 1
  rcases A with _ | A
  all_goals
    go_ret
    exact ⟨rfl, rfl⟩

set_option maxHeartbeats 1000000 in
theorem trim32_core (g off c : Nat) (xs : List Nat) (w : World) (hl : xs.length ≤ c) (hc : xs.length ≤ 1099511627776) (hd : Dig B32 xs) (hcell : ∀ i, i < xs.length → w.cell? ⟨g, off + i, none⟩ = some (.int .u32 (xs.getD i 0 : Nat))) :
    Calls Tryd.prog 80 #[.slice (some ⟨g, off, none⟩) xs.length c] w fun e w' => e = .returned (.slice (some ⟨g, off, none⟩) (limbs B32 (val B32 xs)).length c) ∧ w' = w := by
  have HC := Lib.hid hcell
  clear hcell
  go_enter Tryd.func80, Tryd.ntmps80
  go_wp2
  go_loop [3] (fun v => ∃ m : Nat, m ≤ xs.length ∧ v = .int .i64 m ∧ Hid (val B32 (xs.take m) = val B32 xs)) (fun v => (intOf v).toNat)
  case atStart => exact ⟨xs.length, Nat.le_refl _, rfl, Lib.hid (by rw [List.take_length])⟩
  case round =>
    obtain ⟨m, hm, rfl, hv⟩ := hrel
    by_cases hm0 : m = 0
    · subst hm0
      go_wp2
      go_ret
      refine ⟨?_, rfl⟩
      have := trim_end B32_two hd hm hv.out (by omega)
      rw [this]; simp
    · obtain ⟨m, rfl⟩ : ∃ k, m = k + 1 := ⟨m - 1, by omega⟩
      have hcm := HC.out m (by omega)
      by_cases hx : xs.getD m 0 = 0
      · rw [hx] at hcm
        go_wp2
        go_round
        case rel => exact ⟨m, by omega, rfl, Lib.hid (by rw [← trim_step hx]; exact hv.out)⟩
        case measure => simp [intOf]
      · have hb : ((xs.getD m 0 : Nat) : Int) ≠ 0 := by omega
        have hb' : (((xs.getD m 0 : Nat) : Int) == 0) = false := beq_eq_false_iff_ne.2 hb
        generalize hy : xs.getD m 0 = y at *
        have HY := Lib.hid hy
        clear hy
        go_wp2
        go_ret
        refine ⟨?_, rfl⟩
        have := trim_end B32_two hd hm hv.out (fun _ => by rw [Nat.add_sub_cancel, HY.out]; exact hx)
        rw [this, List.length_take, Nat.min_eq_left hm]
        rfl

theorem trim32_any {xs : List Nat} {v : Value} {w : World} (h : Sl32 xs v w) (hc : xs.length ≤ 1099511627776) (hd : Dig B32 xs) :
    Calls Tryd.prog 80 #[v] w fun e w' => ∃ v', e = .returned v' ∧ R32 (val B32 xs) v' w ∧ w' = w := by
  obtain ⟨A, c, rfl, hl, hh⟩ := h
  by_cases hx : xs = []
  · subst hx
    refine (trim32_nil A c w).mono ?_
    rintro e w' ⟨rfl, rfl⟩
    refine ⟨_, rfl, ?_, rfl⟩
    unfold R32
    rw [val_nil, limbs_zero]
    exact ⟨A, c, rfl, hl, fun h => absurd rfl h⟩
  · obtain ⟨g, off, rfl, hg, hcell⟩ := hh hx
    refine (trim32_core g off c xs w hl hc hd hcell).mono ?_
    rintro e w' ⟨rfl, rfl⟩
    have hle := limbs_length_le B32_two hd
    refine ⟨_, rfl, ⟨_, c, rfl, Nat.le_trans hle hl, fun _ => ⟨g, off, rfl, hg, fun i hi => ?_⟩⟩, rfl⟩
    rw [hcell i (by omega), limbs_getD_of B32_two hd hi]

set_option maxHeartbeats 1000000 in
theorem refOf_any (n : Nat) (hn : n < B64) (w : World) :
    Calls Tryd.prog 23 #[.int .u64 n] w (RetS (R32 n) w) := by
  have h1 : n % B32 < B32 := Nat.mod_lt _ (by unfold B32; omega)
  have h2 : n / B32 < B32 := by unfold B32; unfold B64 at hn; omega
  have hd : Dig B32 [n % B32, n / B32] := Dig.cons h1 (Dig.cons h2 (Dig.nil _))
  have hv : val B32 [n % B32, n / B32] = n := by simp only [val_cons, val_nil]; have := Nat.mod_add_div n B32; omega
  have HT : Hid (∀ W g, Blk W g 107 (V32 [n % B32, n / B32]) → Calls Tryd.prog 80 #[.slice (some ⟨g, 0, none⟩) 2 2] W fun e w' => ∃ v', e = .returned v' ∧ R32 n v' W ∧ w' = W) := Lib.hid (fun W g hb => by
    have h := trim32_any (Sl32.of_blk hb) (by simp) hd
    rw [hv] at h
    exact h)
  have hm : (n : Int) % 4294967296 = ((n % B32 : Nat) : Int) := by unfold B32; omega
  have hq : (n : Int) / 4294967296 = ((n / B32 : Nat) : Int) := by unfold B32; omega
  have hq2 : ((n / B32 : Nat) : Int) % 4294967296 = ((n / B32 : Nat) : Int) := by unfold B32 at *; omega
  have HH1 := Lib.hid hm
  have HH2 := Lib.hid hq
  have HH3 := Lib.hid hq2
  clear h1 h2 hd hv hn hm hq hq2
  generalize n % B32 = a at *
  generalize n / B32 = b at *
  go_enter Tryd.func23, Tryd.ntmps23
  go_wp2_with fail
  rw [HH2.out, HH3.out, HH1.out]
  refine (HT.out _ _ (Blk.new w 107 (V32 [a, b]))).mono ?_
  rintro e w1 ⟨v, rfl, hr, rfl⟩
  have HR := Lib.hid hr
  clear hr
  go_wp2
  go_ret
  exact ⟨_, rfl, HR.out, (Ext.refl w).alloc _⟩

set_option maxHeartbeats 1000000 in
theorem refBits_any (m : Nat) (v : Value) (w : World) (h : R32 m v w) (hm : bl m ≤ 1099511627776) :
    Calls Tryd.prog 33 #[v] w fun e w' => e = .returned (.int .i64 (bl m : Nat)) ∧ w' = w := by
  obtain ⟨A, c, rfl, hl, hh⟩ := h
  by_cases h0 : m = 0
  · subst h0
    rw [bl_zero, limbs_zero]
    clear hh
    go_enter Tryd.func33, Tryd.ntmps33
    go_wp2
    go_ret
    exact ⟨rfl, rfl⟩
  · have hne : limbs B32 m ≠ [] := fun e => h0 ((limbs_eq_nil B32_two).1 e)
    obtain ⟨g, off, rfl, hg, hcell⟩ := hh hne
    have hb := bl_top32 m h0
    have hp := limbs_length_pos B32_two h0
    have ht := (limbs_dig B32_two m).getD (by unfold B32; omega) ((limbs B32 m).length - 1)
    have hc := hcell ((limbs B32 m).length - 1) (by omega)
    clear hcell hh hne
    generalize (limbs B32 m).getD ((limbs B32 m).length - 1) 0 = t at *
    generalize (limbs B32 m).length = l at *
    obtain ⟨l, rfl⟩ : ∃ j, l = j + 1 := ⟨l - 1, by omega⟩
    rw [Nat.add_sub_cancel] at hb hc
    have HB := Lib.hid hb
    have ht' : (t : Int) ≤ 4294967295 := by unfold B32 at ht; omega
    have hl' : (l : Int) ≤ 34359738368 := by omega
    have hmi : ((bl m : Nat) : Int) ≤ 1099511627776 := by omega
    clear hb ht hp hm h0
    have hbt : bl t ≤ bl m := by have := HB.out; omega
    go_enter Tryd.func33, Tryd.ntmps33
    go_wp2
    go_loop [3, 4] (fun a b => ∃ j x : Nat, a = .int .i64 (32 * (l : Int) + j) ∧ b = .int .u32 x ∧ (x : Int) ≤ 4294967295 ∧ j + bl x = bl t) (fun _ b => (intOf b).toNat)
    case atStart => exact ⟨0, t, by simp, rfl, ht', by simp⟩
    case round =>
      obtain ⟨j, x, rfl, rfl, hx, hj⟩ := hrel
      by_cases hx0 : x = 0
      · subst hx0
        rw [bl_zero] at hj
        have HJ := Lib.hid hj
        clear hj
        go_wp2
        go_ret
        refine ⟨?_, rfl⟩
        have := HB.out
        have := HJ.out
        show Ending.returned (.int .i64 (32 * (l : Int) + j)) = _
        congr 2; omega
      · have hhx := bl_half hx0
        have HJ := Lib.hid hj
        have HX := Lib.hid hhx
        have hxp : (0 : Int) < x := by omega
        have hjt : (j : Int) + 32 * (l : Int) ≤ 1099511627776 := by have := HB.out; omega
        clear hj hhx
        go_wp2
        go_round
        case rel =>
          refine ⟨j + 1, x / 2, by congr 1, by congr 1, by omega, ?_⟩
          have := HJ.out; have := HX.out; omega
        case measure => simp [intOf]; omega
end Go.Proofs.YtcfpjgcellahnaaDoor

namespace Go.Proofs.YtcfpjgcellahnaaDoor
open Go.RowKit

set_option maxHeartbeats 1000000 in
theorem refBytes_any (n : Nat) (hn : bl n ≤ 549755813888) (v : Value) (w : World) (hR : R32 n v w) :
    Calls Tryd.prog 79 #[v] w (RetS (BytesAt w.heap.size (beB n)) w) := by
  have HB := Lib.hid (refBits_any n v w hR (by omega))
  have hq : ((bl n : Nat) + 7 : Int) / 8 = (nb n : Nat) := by unfold nb; omega
  have hbi : ((bl n : Nat) : Int) ≤ 549755813888 := by omega
  have hnb : nb n ≤ 68719476737 := by unfold nb; omega
  have HI : Hid (∀ i, i < nb n → i / 4 < (limbs B32 n).length) := Lib.hid (fun i hi => nb_words (s := 4) (by omega) n i hi)
  have HV : Hid (∀ i, (limbs B32 n).getD (i / 4) 0 / 256 ^ (i % 4) % 256 = n / 256 ^ i % 256) := Lib.hid (fun i => by rw [limbs_getD B32_two]; exact byte_limb (s := 4) (by omega) n i)
  obtain ⟨A, c, rfl, hcl, hh⟩ := hR
  have HF3 := Lib.hid hh
  clear hn hh
  generalize hL : limbs B32 n = L at *
  generalize hl : bl n = l at *
  generalize hN : nb n = N at *
  have E := Lib.hid hN
  clear hL hl hN hcl
  go_enter Tryd.func79, Tryd.ntmps79
  go_wp2_with fail
  refine (HB.out).mono ?_
  rintro e w1 ⟨rfl, rfl⟩
  go_wp2_with (at_make; refine wpList_mk _ rfl (.tmp 10) (.tmp 10) 35 5 rfl (.int .u8 0) 1 Tryd.underlying35 info8 rfl .i64 .i64 _ _ N rfl rfl ?c1 ?c1' ?c2 ?c3 ?_)
  case c1 => omega
  case c1' => omega
  case c2 => omega
  case c3 => omega
  intro w3 hx3 hs3 hb3
  have HB3 := Lib.hid hb3
  have HX3 := Lib.hid hx3
  clear hx3 hb3 hs3
  go_wp2
  go_loopw [5] (fun i wr => ∃ k : Nat, k ≤ N ∧ i = .int .i64 k ∧ Hid (Blk wr w1.heap.size 5 (Lib.byteCells (bfill (beB n) k))) ∧ Hid (But w1.heap.size w3 wr)) (fun i _ => N - (intOf i).toNat)
  case atStart =>
    refine ⟨0, by omega, rfl, Lib.hid ?_, Lib.hid (But.refl _ _)⟩
    rw [bfill_zero, byteCells_rep, beB_length, E.out]
    exact HB3.out
  case round =>
    obtain ⟨k, hk, rfl, hbk, hbut⟩ := hrel
    by_cases hkN : k < N
    · have hki := HI.out k hkN
      obtain ⟨g', off, rfl, hg', hbg⟩ := HF3.out (fun e => by rw [e] at hki; simp at hki)
      have hc : wr.cell? ⟨g', off + k / 4, none⟩ = some (.int .u32 (L.getD (k / 4) 0 : Nat)) := (hbut.out.ext HX3.out (Nat.le_refl _)).keep (hbg _ hki)
      have hv := HV.out k
      have hset : wr.cell? ⟨w1.heap.size, N - 1 - k, none⟩ = some (.int .u8 0) := by
        rw [hbk.out.cell, ← E.out]
        exact bfill_cell n k (by rw [E.out]; exact hkN)
      have hf : wr.frozen? ⟨w1.heap.size, N - 1 - k, none⟩ = false := hbk.out.frozen _
      have HV2 := Lib.hid hv
      clear hv hbg hg'
      generalize L.getD (k / 4) 0 = x at *
      go_wp2
      refine ⟨⟨k + 1, by omega, rfl, Lib.hid ?_, Lib.hid (hbut.out.set _ _)⟩, by simp [intOf]; omega⟩
      have h := hbk.out.set (N - 1 - k) (.int .u8 ((x : Int) / 2 ^ (8 * (k % 4)) % 256))
      rw [← E.out, bfill_beB n k (by rw [E.out]; exact hkN) _ (by rw [← byte_shift, HV2.out])] at h
      rw [← E.out]
      exact h
    · obtain rfl : k = N := by omega
      clear hk hkN
      go_wp2
      go_ret
      have hb := hbk.out
      have el : (beB n).length = k := by rw [beB_length, E.out]
      refine ⟨_, rfl, ⟨w1.heap.size, Nat.le_refl _, by rw [el]; rfl, ?_⟩, hbut.out.ext HX3.out (Nat.le_refl _)⟩
      have h2 := bfill_all (beB n)
      rw [el] at h2
      rw [h2] at hb
      exact hb

theorem convBytes {base : Nat} {l : List UInt8} {v : Value} {w : World} (h : BytesAt base l v w) : (convert 35 9 v).run Tryd.prog w = .ok (.string ⟨l.toArray⟩) w := by
  obtain ⟨g, _, rfl, hb⟩ := h
  refine run_convert_bytes_back w _ _ 5 ⟨g, 0, none⟩ l.length l Tryd.underlying35 Tryd.underlying5 Tryd.underlying9 (fun j hj => ?_)
  have := hb.cell j
  simp only [Lib.byteCells, List.getElem?_map, List.getElem?_eq_getElem hj, Option.map_some] at this
  have e : (⟨g, 0, none⟩ : Addr).add j = ⟨g, j, none⟩ := by
    simp only [Addr.add]
    split
    · next h => simp_all
    · simp
  rw [e]; exact this

set_option maxHeartbeats 2000000 in
theorem is_true (n : Nat) (hn : bl n ≤ 549755813888) (vr : Value) (w : World) (hR : R32 n vr w) :
    Calls Tryd.prog 22 #[.agg #[.int .u64 (lo (n) : Nat), .string (hi (n))], vr] w (Ret (.bool true) w) := by
  have HA : Hid (∀ W, Calls Tryd.prog 35 #[.agg #[.int .u64 (lo (n) : Nat), .string (hi (n))]] W (RetS (BytesAt 0 (beB n)) W)) := Lib.hid (fun W => (bytes_any n hn W).mono fun _ _ ⟨v, h1, ⟨g, _, h2⟩, h3⟩ => ⟨v, h1, ⟨g, Nat.zero_le _, h2⟩, h3⟩)
  have HB : Hid (∀ W, R32 n vr W → Calls Tryd.prog 79 #[vr] W (RetS (BytesAt 0 (beB n)) W)) := Lib.hid (fun W h => (refBytes_any n hn vr W h).mono fun _ _ ⟨v, h1, ⟨g, _, h2⟩, h3⟩ => ⟨v, h1, ⟨g, Nat.zero_le _, h2⟩, h3⟩)
  generalize lo n = la at *
  generalize hi n = sa at *
  have HR := Lib.hid hR
  clear hR hn
  go_enter Tryd.func22, Tryd.ntmps22
  go_wp2
  have hbx : Blk (w.alloc (.cells #[.int .u64 la, .string sa] 24)) w.heap.size 24 [.int .u64 la, .string sa] := Blk.new w _ _
  have hEx : Ext w (w.alloc (.cells #[.int .u64 la, .string sa] 24)) := (Ext.refl w).alloc _
  generalize w.alloc (.cells #[.int .u64 la, .string sa] 24) = W at *
  refine wp_region_all goesExt 7 [fun v _ => v = .agg #[.int .u64 la, .string sa], BytesAt 0 (beB n), fun v _ => v = .string ⟨(beB n).toArray⟩, fun v _ => v = vr, BytesAt 0 (beB n), fun v _ => v = .string ⟨(beB n).toArray⟩, fun v _ => v = .bool true] (by kernel_rfl) (by kernel_rfl) ?hG ?hQ ⟨fun h => (by cases h), fun _ => ?o0, fun h => (by cases h), fun _ => ?o1, fun h => (by cases h), fun _ => ?o2, fun h => (by cases h), fun _ => ?o3, fun h => (by cases h), fun _ => ?o4, fun h => (by cases h), fun _ => ?o5, fun h => (by cases h), fun _ => ?o6, trivial⟩ ?fin
  case hG =>
    intro g hg
    simp at hg
    rcases hg with rfl | rfl | rfl | rfl | rfl | rfl | rfl
    all_goals first | exact fun _ _ _ _ h => h | exact fun _ _ _ e h => h.ext e
  case hQ => exact fun c a w d v h => by cases d <;> exact h
  case o0 =>
    intro v w' hw hj
    have c0 : w'.cell? ⟨w.heap.size, 0, none⟩ = some (.int .u64 la) := (hbx.ext hw).cell 0
    have c1 : w'.cell? ⟨w.heap.size, 1, none⟩ = some (.string sa) := (hbx.ext hw).cell 1
    simp [putOps]
    go_wp2
    exact ⟨rfl, rfl, Ext.refl _, fun d hd => by cases hd; rfl⟩
  case o1 =>
    intro v w' hw hj
    have e0 : v 0 = .agg #[.int .u64 la, .string sa] := hj 0 (by kernel_rfl)
    simp [putOps, Act.put, e0]
    go_wp2_with fail
    refine (HA.out _).mono ?_
    rintro e w2 ⟨u, rfl, h1, h2⟩
    go_wp2
    exact ⟨rfl, rfl, h2, fun d hd => by cases hd; exact h1⟩
  case o2 =>
    intro v w' hw hj
    have e0 : BytesAt 0 (beB n) (v 1) w' := hj 1 (by kernel_rfl)
    have hcv := convBytes e0
    simp [putOps, Act.put]
    go_wp2
    exact ⟨rfl, rfl, Ext.refl _, fun d hd => by cases hd; rfl⟩
  case o3 =>
    intro v w' hw hj
    simp [putOps, Act.put]
    go_wp2
    exact ⟨rfl, rfl, Ext.refl _, fun d hd => by cases hd; rfl⟩
  case o4 =>
    intro v w' hw hj
    have e0 : v 3 = vr := hj 3 (by kernel_rfl)
    simp [putOps, Act.put, e0]
    go_wp2_with fail
    refine (HB.out _ (HR.out.ext (hEx.trans hw))).mono ?_
    rintro e w2 ⟨u, rfl, h1, h2⟩
    go_wp2
    exact ⟨rfl, rfl, h2, fun d hd => by cases hd; exact h1⟩
  case o5 =>
    intro v w' hw hj
    have e0 : BytesAt 0 (beB n) (v 4) w' := hj 4 (by kernel_rfl)
    have hcv := convBytes e0
    simp [putOps, Act.put]
    go_wp2
    exact ⟨rfl, rfl, Ext.refl _, fun d hd => by cases hd; rfl⟩
  case o6 =>
    intro v w' hw hj
    have e2 : v 2 = .string ⟨(beB n).toArray⟩ := hj 2 (by kernel_rfl)
    have e5 : v 5 = .string ⟨(beB n).toArray⟩ := hj 5 (by kernel_rfl)
    simp [putOps, Act.put, e2, e5]
    go_wp2
    exact ⟨rfl, rfl, Ext.refl _, fun d hd => by cases hd; rfl⟩
  case fin =>
    intro v w3 hw hj
    have e6 : v 6 = .bool true := hj 6 11 (by omega) rfl
    simp [putOps, Act.put, e6]
    go_wp2
    go_ret
    exact ⟨rfl, hEx.trans hw⟩
end Go.Proofs.YtcfpjgcellahnaaDoor

namespace Go.Proofs.YtcfpjgcellahnaaDoor
open Go.RowKit

/-- The guess: it is the only good one. -/
def gQ (U u v1 v0 : Nat) : Nat := min ((U * B64 + u) / (v1 * B64 + v0)) (B64 - 1)
theorem min_pred {B g q : Nat} (h1 : g < B) (h4 : g ≤ q) (h3 : g = B - 1 ∨ q < g + 1) : g = min q (B - 1) := by omega
theorem min_pred' {B q : Nat} (hB : 0 < B) : min q (B - 1) < B ∧ min q (B - 1) ≤ q ∧ (min q (B - 1) = B - 1 ∨ q < min q (B - 1) + 1) := by omega
theorem gQ_pos {v1 v0 : Nat} (hv : 0 < v1) : 0 < v1 * B64 + v0 := by
  have : 0 < v1 * B64 := Nat.mul_pos hv (by unfold B64; omega)
  exact Nat.lt_of_lt_of_le this (Nat.le_add_right _ _)
theorem good_gQ {U u v1 v0 g : Nat} (hv : 0 < v1) (h : Good U u v1 v0 g) : g = gQ U u v1 v0 := by
  obtain ⟨h1, h2, h3⟩ := h
  have hp := gQ_pos (v0 := v0) hv
  exact min_pred h1 ((Nat.le_div_iff_mul_le hp).2 h2) (h3.imp id (fun h3 => (Nat.div_lt_iff_lt_mul hp).2 h3))
theorem gQ_good {U u v1 v0 : Nat} (hv : 0 < v1) : Good U u v1 v0 (gQ U u v1 v0) := by
  have hp := gQ_pos (v0 := v0) hv
  obtain ⟨h1, h2, h3⟩ := min_pred' (B := B64) (q := (U * B64 + u) / (v1 * B64 + v0)) (by unfold B64; omega)
  exact ⟨h1, (Nat.le_div_iff_mul_le hp).1 h2, h3.imp id (fun h3 => (Nat.div_lt_iff_lt_mul hp).1 h3)⟩

set_option maxHeartbeats 4000000 in
theorem guessWord_any (u2 u1 u0 v1 v0 : Nat) (h2 : u2 ≤ v1) (hu1 : u1 < B64) (hu0 : u0 < B64) (hv1 : v1 < B64) (hv0 : v0 < B64) (hv : 0 < v1) (w : World) :
    Calls Tryd.prog 112 #[.int .u64 u2, .int .u64 u1, .int .u64 u0, .int .u64 v1, .int .u64 v0] w fun e w' => e = .returned (.int .u64 (gQ (u2 * B64 + u1) u0 v1 v0 : Nat)) ∧ ∃ n, w' = w.drewN n := by
  have HM : Hid (∀ g : Nat, g < B64 → ∀ W, Calls Tryd.prog 94 #[.int .u64 g, .int .u64 v0] W fun e w' => e = .returned (.tuple #[.int .u64 (muH g v0 : Nat), .int .u64 (muL g v0 : Nat)]) ∧ W = w') := Lib.hid (fun g hg W => mul64_any g v0 hg hv0 W)
  have HA : Hid (∀ (r : Nat) W, (callFunc 76 #[.int .u64 r, .int .u64 v1, .int .u64 0]).run Tryd.prog W = .ok (.value (.tuple #[.int .u64 (adS r v1 0 : Nat), .int .u64 (adC r v1 0 : Nat)])) W) := Lib.hid (fun r W => add64_0 r v1 W)
  have HU0 := Lib.hid hu0
  have HV1 := Lib.hid hv1
  have HV0 := Lib.hid hv0
  have HV := Lib.hid hv
  clear hv
  by_cases he : u2 = v1
  case' pos =>
    have hst : Gw (u2 * B64 + u1) u0 v1 v0 18446744073709551615 (adS u1 v1 0) (adC u1 v1 0) := by rw [he]; exact Gw.same (by have := ad_eq u1 v1 0; omega) (adS_lt _ _ _) (adC_le hu1 hv1 (by omega))
    have hadd := HA.out u1
    generalize adS u1 v1 0 = r0 at *
    generalize adC u1 v1 0 = o0 at *
    have HST := Lib.hid hst
    have HX : Hid (∃ n, w = w.drewN n) := Lib.hid ⟨0, rfl⟩
    clear hst hu1 hu0 hv1 hv0 h2
    have hb : ((u2 : Int) == (v1 : Int)) = true := by rw [he]; simp
    generalize u2 * B64 + u1 = U at *
    clear he
    go_enter Tryd.func112, Tryd.ntmps112
    go_wp2
    clear hadd hb
  case' neg =>
    have hlt : u2 < v1 := by omega
    have HD := Lib.hid (fun W => div64_any u2 u1 v1 hlt hv1 hu1 W)
    have hst : Gw (u2 * B64 + u1) u0 v1 v0 ((u2 * B64 + u1) / v1) ((u2 * B64 + u1) % v1) 0 := Gw.less hlt hu1 hu0 hv1
    have HST := Lib.hid hst
    have hb : ((u2 : Int) == (v1 : Int)) = false := beq_eq_false_iff_ne.2 (by omega)
    clear hst hu1 hu0 hv1 hv0 h2 hlt he
    generalize (u2 * B64 + u1) / v1 = g0 at *
    generalize (u2 * B64 + u1) % v1 = r0 at *
    generalize u2 * B64 + u1 = U at *
    go_enter Tryd.func112, Tryd.ntmps112
    go_wp2_with fail
    refine (HD.out _).mono ?_
    rintro e w1 ⟨rfl, n1, hw1⟩
    have HX : Hid (∃ n, w1 = w.drewN n) := Lib.hid ⟨n1, hw1⟩
    clear hw1
    go_wp2
    clear hb HD
  all_goals
    go_loop [11, 12, 13] (fun a b c => ∃ g r o : Nat, a = .int .u64 g ∧ b = .int .u64 r ∧ c = .int .u64 o ∧ Hid (Gw U u0 v1 v0 g r o)) (fun a _ _ => (intOf a).toNat)
    case atStart => first | exact ⟨18446744073709551615, r0, o0, rfl, rfl, rfl, HST⟩ | exact ⟨g0, r0, 0, rfl, rfl, rfl, HST⟩
    case round =>
      obtain ⟨g, r, o, rfl, rfl, rfl, hG⟩ := hrel
      have ho := hG.out.o1
      by_cases ho1 : o = 1
      · subst ho1
        have hgood := Lib.hid (hG.out.over HV0.out)
        go_wp2
        go_ret
        exact ⟨by rw [← good_gQ (HV.out) hgood.out]; rfl, HX.out⟩
      · obtain rfl : o = 0 := by omega
        have hm := HM.out g hG.out.glt
        have ht := guess_test (g := g) (v0 := v0) (r := r) (u := u0) HU0.out
        generalize muH g v0 = h at *
        generalize muL g v0 = l at *
        have HMM := Lib.hid hm
        clear hm ho ho1
        by_cases hgood : g * v0 ≤ r * B64 + u0
        · have HG2 := Lib.hid (hG.out.done hgood)
          rcases ht.2 hgood with h1 | ⟨h1, h3⟩
          · have i1 : (h : Int) < r := by omega
            clear ht hgood h1
            go_wp2_with (go_at_call 94; refine (HMM.out _).mono ?_; rintro e w' ⟨rfl, rfl⟩)
            go_ret
            exact ⟨by rw [← good_gQ (HV.out) HG2.out]; rfl, HX.out⟩
          · subst h1
            have i1 : (l : Int) ≤ u0 := by omega
            clear ht hgood h3
            go_wp2_with (go_at_call 94; refine (HMM.out _).mono ?_; rintro e w' ⟨rfl, rfl⟩)
            go_ret
            exact ⟨by rw [← good_gQ (HV.out) HG2.out]; rfl, HX.out⟩
        · have hnot : ¬ (h < r ∨ (h = r ∧ l ≤ u0)) := fun x => hgood (ht.1 x)
          obtain ⟨hg1, hN⟩ := hG.out.next (s := adS r v1 0) (c := adC r v1 0) (by omega) (by have := ad_eq r v1 0; omega) (adS_lt _ _ _) (adC_le hG.out.rlt HV1.out (by omega))
          have hadd := HA.out r
          have HN := Lib.hid hN
          have hgi : (1 : Int) ≤ g := by omega
          have hgu : (g : Int) ≤ 18446744073709551615 := by have := hG.out.glt; unfold B64 at this; omega
          generalize adS r v1 0 = s at *
          generalize adC r v1 0 = c at *
          have hcase : (r : Int) < h ∨ ((h : Int) = r ∧ (u0 : Int) < l) := by omega
          clear hnot ht hgood hg1 hN
          rcases hcase with i1 | ⟨i0, i1⟩
          case' inl =>
            have j1 : ((h : Int) == (r : Int)) = false := beq_eq_false_iff_ne.2 (by omega)
            have j2 : decide ((h : Int) < (r : Int)) = false := decide_eq_false (by omega)
          case' inr =>
            obtain rfl : h = r := by omega
            have j2 : decide ((l : Int) ≤ (u0 : Int)) = false := decide_eq_false (by omega)
            clear i0
          all_goals
            go_wp2_with (go_at_call 94; refine (HMM.out _).mono ?_; rintro e w' ⟨rfl, rfl⟩)
            go_round
            case rel => exact ⟨g - 1, s, c, by congr 1; omega, rfl, rfl, HN⟩
            case measure => simp [intOf]; omega
end Go.Proofs.YtcfpjgcellahnaaDoor

namespace Go.Proofs.YtcfpjgcellahnaaDoor
open Go.RowKit

set_option maxHeartbeats 1000000 in
theorem fromBytes_any (l : List UInt8) (v : Value) (w : World) (hl : l.length ≤ 68719476737) (hs : SlB l v w) :
    Calls Tryd.prog 34 #[v] w (Ret (.agg #[.int .u64 (lo (beN l) : Nat), .string (hi (beN l))]) w) := by
  obtain ⟨A, c, rfl, hc, hm, hh⟩ := hs
  have HH := Lib.hid hh
  have HF : Hid (∀ L W, FbUp (rb l) (rb l).length L → Blk W (w.heap.size + 1) 22 (U L) → Calls Tryd.prog 77 #[.slice (some ⟨w.heap.size + 1, 0, none⟩) ((l.length + 7) / 8) ((l.length + 7) / 8)] W (Ret (.agg #[.int .u64 (lo (beN l) : Nat), .string (hi (beN l))]) W)) := Lib.hid (fun L W hL hb => by
    have h := fromWords_blk (w.heap.size + 1) L.length L [] W (by simpa using hb) (Nat.le_refl _) (by rw [hL.len, rb_length]; omega) hL.dig
    rw [hL.fin, hL.len, rb_length] at h
    exact h)
  have hq : ((l.length : Nat) + 7 : Int) / 8 = ((l.length + 7) / 8 : Nat) := by omega
  have hM : (l.length + 7) / 8 ≤ 10000000000 := by omega
  clear hh hc hm
  generalize hMe : (l.length + 7) / 8 = M at *
  have HM := Lib.hid hMe
  clear hMe
  generalize lo (beN l) = la at *
  generalize hi (beN l) = sa at *
  go_enter Tryd.func34, Tryd.ntmps34
  go_wp2_with (at_make; refine wpList_mk _ rfl (.tmp 8) (.tmp 8) 104 22 rfl (.int .u64 0) 8 Tryd.underlying104 info64 rfl .i64 .i64 _ _ M rfl rfl ?c1 ?c1' ?c2 ?c3 ?_)
  case c1 => omega
  case c1' => omega
  case c2 => omega
  case c3 => omega
  intro w1 hx1 hs1 hb1
  try simp only [World.size_alloc] at hs1 hb1
  rw [rep_U] at hb1
  have HR := Lib.hid ((Blk.new w 24 [.int .u64 0, .string ⟨#[]⟩]).ext hx1)
  have HX := Lib.hid (((Ext.refl w).alloc _).trans hx1)
  have HB := Lib.hid hb1
  clear hx1 hb1 hs1 hq
  go_wp2
  go_loopw [12] (fun i wr => ∃ (k : Nat) (L : List Nat), k ≤ l.length ∧ i = .int .i64 k ∧ Hid (FbUp (rb l) k L) ∧ Hid (Blk wr (w.heap.size + 1) 22 (U L)) ∧ Hid (But (w.heap.size + 1) w1 wr)) (fun i _ => l.length - (intOf i).toNat)
  case atStart => exact ⟨0, _, Nat.zero_le _, rfl, Lib.hid (by have h := FbUp.start (rb l); rw [rb_length, HM.out] at h; exact h), HB, Lib.hid (But.refl _ _)⟩
  case round =>
    obtain ⟨k, L, hk, rfl, hL, hbk, hbut⟩ := hrel
    by_cases hkx : k < l.length
    · obtain ⟨g, off, rfl, hg, hcell⟩ := HH.out (fun e => by rw [e] at hkx; simp at hkx)
      have hcx : wr.cell? ⟨g, off + (l.length - 1 - k), none⟩ = some (.int .u8 ((rb l).getD k 0 : Nat)) := by
        rw [rb_getD' l k hkx]
        exact (hbut.out.ext HX.out (by omega)).keep (hcell _ (by omega))
      have hlen := hL.out.len
      rw [rb_length, HM.out] at hlen
      have hk8 : k / 8 < M := by have := HM.out; omega
      have hc1 : wr.cell? ⟨w.heap.size + 1, k / 8, none⟩ = some (.int .u64 (L.getD (k / 8) 0 : Nat)) := by rw [hbk.out.cell, getD_U _ _ (by omega)]
      have hf1 : wr.frozen? ⟨w.heap.size + 1, k / 8, none⟩ = false := hbk.out.frozen _
      have hxd : (rb l).getD k 0 < 256 := (rb_dig l).getD (by omega) k
      have hw := hL.out.word (rb_dig l)
      obtain ⟨_, hN⟩ := hL.out.step (by rw [rb_length]; exact hkx) (rb_dig l)
      have HN := Lib.hid hN
      have HV := Lib.hid (or64 (p := 8 * (k % 8)) hxd (by omega) hw)
      clear hcell hlen hN hw
      generalize (rb l).getD k 0 = x at *
      generalize L.getD (k / 8) 0 = o at *
      go_wp2
      go_region
      rw [HV.out]
      go_wp2
      go_roundw
      case rel =>
        refine ⟨k + 1, _, by omega, by go_num, HN, ?_, Lib.hid ((hbut.out.set (k / 8) _).trans (But.of_ext (Ext.refl _).drew))⟩
        have h := hbk.out.set (k / 8) (.int .u64 (o + 2 ^ (8 * (k % 8)) * x : Nat))
        rw [U_set] at h
        exact Lib.hid h
      case measure => simp [intOf]; omega
    · obtain rfl : k = l.length := by omega
      go_wp2_with fail
      refine (HF.out L _ (by rw [rb_length]; exact hL.out) hbk.out).mono ?_
      rintro e w3 ⟨rfl, hx3⟩
      have he : Ext w w3 := (hbut.out.ext HX.out (by omega)).trans hx3
      have hr3 := (hbut.out.blk HR.out (by omega)).ext hx3
      have r0 : w3.cell? ⟨w.heap.size, 0, none⟩ = some (.int .u64 0) := hr3.cell 0
      have r1 : w3.cell? ⟨w.heap.size, 1, none⟩ = some (.string ⟨#[]⟩) := hr3.cell 1
      have f0 : w3.frozen? ⟨w.heap.size, 0, none⟩ = false := hr3.frozen 0
      have f1 : w3.frozen? ⟨w.heap.size, 1, none⟩ = false := hr3.frozen 1
      go_wp2
      refine ret_nat w.heap.size _ _ rfl rfl ((hr3.set 0 _).set 1 _) rfl ⟨rfl, ?_⟩
      exact (Below.setCell he (p := ⟨w.heap.size, 0, none⟩) (by show _ ≤ _; simp) _).setCell (p := ⟨w.heap.size, 1, none⟩) (by show _ ≤ _; simp) _
theorem info32 : (Tryd.prog.info? 107).map (fun i => (i.zero, i.size, i.bytes)) = some (some (.int .u32 0), 1, 4) := by kernel_rfl

set_option maxHeartbeats 1000000 in
theorem refFrom_any (l : List UInt8) (v : Value) (w : World) (hl : l.length ≤ 68719476737) (hs : SlB l v w) :
    Calls Tryd.prog 81 #[v] w (RetS (R32 (beN l)) w) := by
  obtain ⟨A, c, rfl, hc, hm, hh⟩ := hs
  have HH := Lib.hid hh
  have HF : Hid (∀ L W, FbDn (rb l) 0 L → Blk W w.heap.size 107 (V32 L) → Calls Tryd.prog 80 #[.slice (some ⟨w.heap.size, 0, none⟩) ((l.length + 3) / 4) ((l.length + 3) / 4)] W fun e w' => ∃ v', e = .returned v' ∧ R32 (beN l) v' W ∧ w' = W) := Lib.hid (fun L W hL hb => by
    have h := trim32_any (Sl32.of_blk hb) (by rw [hL.len, rb_length]; omega) hL.dig
    rw [hL.vl, hL.len, rb_length, Nat.pow_zero, Nat.one_mul, List.drop_zero] at h
    exact h)
  have hq : ((l.length : Nat) + 3 : Int) / 4 = ((l.length + 3) / 4 : Nat) := by omega
  have hM : (l.length + 3) / 4 ≤ 20000000000 := by omega
  clear hh hc hm
  generalize hMe : (l.length + 3) / 4 = M at *
  have HM := Lib.hid hMe
  clear hMe
  go_enter Tryd.func81, Tryd.ntmps81
  go_wp2_with (at_make; refine wpList_mk _ rfl (.tmp 9) (.tmp 9) 32 107 rfl (.int .u32 0) 4 Tryd.underlying32 info32 rfl .i64 .i64 _ _ M rfl rfl ?c1 ?c1' ?c2 ?c3 ?_)
  case c1 => omega
  case c1' => omega
  case c2 => omega
  case c3 => omega
  intro w1 hx1 hs1 hb1
  try simp only [World.size_alloc] at hs1 hb1
  rw [V32_rep] at hb1
  have HX := Lib.hid hx1
  have HB := Lib.hid hb1
  clear hx1 hb1 hs1 hq
  go_wp2
  go_loopw [4] (fun i wr => ∃ (k : Nat) (L : List Nat), k ≤ l.length ∧ i = .int .i64 k ∧ Hid (FbDn (rb l) (l.length - k) L) ∧ Hid (Blk wr w.heap.size 107 (V32 L)) ∧ Hid (But w.heap.size w1 wr)) (fun i _ => l.length - (intOf i).toNat)
  case atStart => exact ⟨0, _, Nat.zero_le _, rfl, Lib.hid (by have h := FbDn.start (rb l); rw [rb_length, HM.out] at h; exact h), HB, Lib.hid (But.refl _ _)⟩
  case round =>
    obtain ⟨k, L, hk, rfl, hL, hbk, hbut⟩ := hrel
    by_cases hkx : k < l.length
    · obtain ⟨g, off, rfl, hg, hcell⟩ := HH.out (fun e => by rw [e] at hkx; simp at hkx)
      have hcx : wr.cell? ⟨g, off + k, none⟩ = some (.int .u8 ((rb l).getD (l.length - 1 - k) 0 : Nat)) := by
        rw [rb_getD l k hkx]
        exact (hbut.out.ext HX.out (by omega)).keep (hcell _ hkx)
      obtain ⟨j, hj⟩ : ∃ j, l.length - 1 - k = j := ⟨_, rfl⟩
      have HLj : Hid (FbDn (rb l) (j + 1) L) := Lib.hid (by have h := hL.out; rw [show l.length - k = j + 1 from by omega] at h; exact h)
      rw [hj] at hcx
      have hlen := HLj.out.len
      rw [rb_length, HM.out] at hlen
      have hk8 : j / 4 < M := by have := HM.out; omega
      have hc1 : wr.cell? ⟨w.heap.size, j / 4, none⟩ = some (.int .u32 (L.getD (j / 4) 0 : Nat)) := by rw [hbk.out.cell, getD_V32 _ _ (by omega)]
      have hf1 : wr.frozen? ⟨w.heap.size, j / 4, none⟩ = false := hbk.out.frozen _
      have hxd : (rb l).getD j 0 < 256 := (rb_dig l).getD (by omega) j
      obtain ⟨z, hz⟩ := HLj.out.word
      have ho : L.getD (j / 4) 0 < B32 := HLj.out.dig.getD (by unfold B32; omega) _
      obtain ⟨_, hN⟩ := HLj.out.step (by rw [rb_length]; omega) (rb_dig l)
      have HN := Lib.hid hN
      have hv := or32 (p := 8 * (j % 4)) hxd (by omega) hz ho
      rw [IntKind.wrap_u32'] at hv
      have HV := Lib.hid hv
      have hji : (l.length : Int) - 1 - k = j := by omega
      have hjk : j + 1 + k = l.length := by omega
      have HJ := Lib.hid hjk
      clear hcell hlen hN hz hj hL hjk hv
      generalize (rb l).getD j 0 = x at *
      generalize L.getD (j / 4) 0 = o at *
      have ho' : (o : Int) ≤ 4294967295 := by unfold B32 at ho; omega
      go_wp2
      go_region
      rw [HV.out]
      go_wp2
      go_roundw
      case rel =>
        refine ⟨k + 1, _, by omega, by go_num, by have := HJ.out; rw [show l.length - (k + 1) = j from by omega]; exact HN, ?_, Lib.hid ((hbut.out.set (j / 4) _).trans (But.of_ext (Ext.refl _).drew))⟩
        have h := hbk.out.set (j / 4) (.int .u32 (o + 2 ^ (8 * (j % 4)) * x : Nat))
        rw [V32_set] at h
        exact Lib.hid h
      case measure => simp [intOf]; omega
    · obtain rfl : k = l.length := by omega
      have HL0 : Hid (FbDn (rb l) 0 L) := Lib.hid (by have h := hL.out; rw [Nat.sub_self] at h; exact h)
      go_wp2_with fail
      refine (HF.out L _ HL0.out hbk.out).mono ?_
      rintro e w3 ⟨v, rfl, hr, rfl⟩
      have HR := Lib.hid hr
      clear hr
      go_wp2
      go_ret
      exact ⟨_, rfl, HR.out, hbut.out.ext HX.out (Nat.le_refl _)⟩
end Go.Proofs.YtcfpjgcellahnaaDoor

namespace Go.Proofs.YtcfpjgcellahnaaDoor
open Go.RowKit

theorem SlB.of_own {base : Nat} {l : List UInt8} {v : Value} {w : World} (h : w.ownsRow base 5 1 v l.length (Lib.byteCells l)) : SlB l v w := by
  obtain ⟨hl, h | ⟨g, cap, cur, rfl, hg, hb, hle, hcap, hsz, htk⟩⟩ := h
  · obtain ⟨rfl, h0⟩ := h
    obtain rfl := List.eq_nil_of_length_eq_zero h0
    exact SlB.nil w
  · refine ⟨_, cap, rfl, hle, ⟨by unfold maxLen at hcap; omega, fun h => by cases h⟩, fun _ => ⟨g, 0, rfl, ?_, fun i hi => ?_⟩⟩
    · rcases Nat.lt_or_ge g w.heap.size with h' | h'
      · exact h'
      · rw [Array.getElem?_eq_none h'] at hb; cases hb
    · rw [Nat.zero_add, cell_of_row w g i _ _ (0, 0) hb]
      have e : cur[i]? = (cur.toList.take (l.length * 1))[i]? := by rw [List.getElem?_take_of_lt (by omega)]; simp
      rw [e, htk]
      simp [Lib.byteCells, List.getElem?_map, List.getElem?_eq_getElem hi]

theorem oneCell_bytes (l : List UInt8) : ∀ u ∈ Lib.byteCells l, u.oneCell' = true := by
  intro u hu
  simp only [Lib.byteCells, List.mem_map] at hu
  obtain ⟨b, _, rfl⟩ := hu
  rfl

set_option maxHeartbeats 1000000 in
theorem few_any (l : List UInt8) (v : Value) (n : Nat) (hn : n ≤ 1000) (w : World) (hs : SlB l v w) :
    Calls Tryd.prog 67 #[v, .int .i64 n] w (RetS (SlB (l.take n)) w) := by
  obtain ⟨i0, hi, hz0, hz1, hz2⟩ := info_parts infoByte
  obtain ⟨A, c, rfl, hc, ⟨hcm, hA⟩, hh⟩ := hs
  have HH := Lib.hid hh
  have hmin : min (l.length : Int) (n : Int) = ((l.take n).length : Nat) := by simp; omega
  have hml : (l.take n).length ≤ l.length := by simp; omega
  have hmn : (l.take n).length ≤ 1000 := by simp; omega
  have HT : Hid (∀ i (h : i < (l.take n).length) (h' : i < l.length), (l.take n)[i] = l[i]) := Lib.hid (fun i h h' => by simp)
  generalize l.take n = t at *
  obtain ⟨m, hm⟩ : ∃ m, t.length = m := ⟨_, rfl⟩
  rw [hm] at hmin hml hmn
  have HM := Lib.hid hm
  have HA := Lib.hid hA
  have HMN := Lib.hid hmn
  have HCM := Lib.hid hcm
  clear hm hA hh hn hmn hcm
  generalize (n : Int) = z at *
  have hown : (w.alloc (.cells #[] 5)).ownsRow w.heap.size 5 1 (.slice (some ⟨w.heap.size, 0, none⟩) 0 0) 0 [] := ⟨by simp, .inr ⟨w.heap.size, 0, #[], rfl, Nat.le_refl _, heap_alloc_new w _, Nat.le_refl _, by unfold maxLen; omega, rfl, rfl⟩⟩
  have HO := Lib.hid hown
  clear hown
  rcases A with _ | a
  · obtain rfl : c = 0 := HA.out rfl
    obtain rfl : m = 0 := by omega
    obtain rfl := List.eq_nil_of_length_eq_zero HM.out
    have hl0 : l.length = 0 := by omega
    rw [hl0] at hmin ⊢
    have hmin' : min (0 : Int) z = 0 := hmin
    clear hmin HH HA HT HM HMN HCM hl0 hc hml
    go_enter Tryd.func67, Tryd.ntmps67
    go_wp2_with (at_builtin; refine wpList_append_own_none rfl (.tmp 5) (.tmp 11) 35 rfl w.heap.size 5 i0 1 Tryd.underlying35 hi _ 0 [] rfl HO.out rfl ?_)
    go_wp2
    go_ret
    exact ⟨_, rfl, SlB.of_own (l := []) HO.out, (Ext.refl w).alloc _⟩
  · have HNEW : Hid (∀ j u, (Lib.byteCells t)[j]? = some u → (w.alloc (.cells #[] 5)).cell? (a.add j) = some u) := Lib.hid (fun j u hu => by
      have hj : j < t.length := by
        rcases Nat.lt_or_ge j t.length with h | h
        · exact h
        · rw [List.getElem?_eq_none (by simp [Lib.byteCells]; exact h)] at hu; cases hu
      have hjl : j < l.length := by have := HM.out; omega
      obtain ⟨g, off, ha, hg, hcell⟩ := HH.out (fun e => by rw [e] at hjl; simp at hjl)
      obtain rfl : a = ⟨g, off, none⟩ := by injection ha
      rw [Addr.add_lit, ((Ext.refl w).alloc _).keep (hcell j hjl), ← HT.out j hj hjl]
      simpa [Lib.byteCells, List.getElem?_map, List.getElem?_eq_getElem hj] using hu)
    have HL : Hid ((Lib.byteCells t).length = m * 1) := Lib.hid (by have := HM.out; simp [Lib.byteCells]; omega)
    have HSZ : Hid (0 + m ≤ maxLen) := Lib.hid (by have := HMN.out; unfold maxLen; omega)
    have HSZ2 : Hid ((0 + m) * 1 ≤ 140737488355328) := Lib.hid (by have := HMN.out; omega)
    clear HH HA
    go_enter Tryd.func67, Tryd.ntmps67
    go_wp2_with (at_builtin; refine wpList_append_own _ rfl (.tmp 5) (.tmp 11) 35 rfl w.heap.size 5 i0 (.int .u8 0) 1 1 Tryd.underlying35 hi hz0 hz1 hz2 rfl (by decide) _ 0 [] rfl HO.out a m c (Lib.byteCells t) rfl HL.out HNEW.out (oneCell_bytes t) HSZ.out HSZ2.out (by simp) ?_)
    intro v' w' hown' hgrow _
    have HO' := Lib.hid hown'
    have HG := Lib.hid hgrow
    clear hown' hgrow
    go_wp2
    go_ret
    refine ⟨_, rfl, SlB.of_own (base := w.heap.size) ?_, ((Ext.refl w).alloc _).grown HG.out (by simp) (fun k hk => ?_)⟩
    · have h := HO'.out
      rw [← HM.out] at h
      exact h
    · simp [Value.ownBlock] at hk; omega

set_option maxHeartbeats 1000000 in
theorem handNat_any (n : Nat) (hn : bl n ≤ 549755813888) (v : Value) (w : World) (hR : R32 n v w) :
    Calls Tryd.prog 82 #[v] w (Ret (.agg #[.int .u64 (lo (n) : Nat), .string (hi (n))]) w) := by
  have HB : Hid (∀ W, R32 n v W → Calls Tryd.prog 79 #[v] W (RetS (SlB (beB n)) W)) := Lib.hid (fun W h => (refBytes_any n hn v W h).mono fun _ _ ⟨u, h1, h2, h3⟩ => ⟨u, h1, SlB.of_at (by rw [beB_length]; unfold nb; omega) h2, h3⟩)
  have HF : Hid (∀ W u, SlB (beB n) u W → Calls Tryd.prog 34 #[u] W (Ret (.agg #[.int .u64 (lo (n) : Nat), .string (hi (n))]) W)) := Lib.hid (fun W u h => by
    have h := fromBytes_any (beB n) u W (by rw [beB_length]; unfold nb; omega) h
    rw [beN_beB] at h
    exact h)
  have HR0 := Lib.hid hR
  clear hR hn
  generalize lo n = la at *
  generalize hi n = sa at *
  go_enter Tryd.func82, Tryd.ntmps82
  go_wp2_with fail
  have hr := Blk.new w 24 [.int .u64 0, .string ⟨#[]⟩]
  have hx : Ext w (w.alloc (.cells #[.int .u64 0, .string ⟨#[]⟩] 24)) := (Ext.refl w).alloc _
  have HR := Lib.hid hr
  have HX := Lib.hid hx
  clear hr hx
  refine (HB.out _ (HR0.out.ext HX.out)).mono ?_
  rintro e w1 ⟨v1, rfl, hv1, hx1⟩
  have HV1 := Lib.hid hv1
  have HX1 := Lib.hid hx1
  clear hv1 hx1
  go_wp2_with fail
  refine (HF.out _ _ HV1.out).mono ?_
  rintro e w3 ⟨rfl, hx3⟩
  have he : Ext w w3 := (HX.out.trans HX1.out).trans hx3
  have hr3 := (HR.out.ext HX1.out).ext hx3
  have r0 : w3.cell? ⟨w.heap.size, 0, none⟩ = some (.int .u64 0) := hr3.cell 0
  have r1 : w3.cell? ⟨w.heap.size, 1, none⟩ = some (.string ⟨#[]⟩) := hr3.cell 1
  have f0 : w3.frozen? ⟨w.heap.size, 0, none⟩ = false := hr3.frozen 0
  have f1 : w3.frozen? ⟨w.heap.size, 1, none⟩ = false := hr3.frozen 1
  go_wp2
  refine ret_nat w.heap.size _ _ rfl rfl ((hr3.set 0 _).set 1 _) rfl ⟨rfl, ?_⟩
  exact (Below.setCell he (p := ⟨w.heap.size, 0, none⟩) (by show _ ≤ _; simp) _).setCell (p := ⟨w.heap.size, 1, none⟩) (by show _ ≤ _; simp) _

/-- A return of two nat.Nat and two slots. -/
theorem ret_nat4 {fn : Func} {R : Ending → World → Prop} {a : Act} {w : World} {p p' q q' : Tmp} (g g' : Nat) (x y x' y' v v' : Value) (hr : fn.results = #[.cell p 24, .cell p' 24, .tmp q, .tmp q'])
    (hp : a.tmps.getD p undef = .pointer (some ⟨g, 0, none⟩)) (hp' : a.tmps.getD p' undef = .pointer (some ⟨g', 0, none⟩)) (hq : a.tmps.getD q undef = v) (hq' : a.tmps.getD q' undef = v') (hb : Blk w g 24 [x, y]) (hb' : Blk w g' 24 [x', y']) (hd : a.defers = []) (hR : R (.returned (.tuple #[.agg #[x, y], .agg #[x', y'], v, v'])) w) : bodyPost Tryd.prog fn R .ret a w := by
  refine bodyPost_ret ?_ hd hR
  have hl := run_loadVar_row (P := Tryd.prog) w g 24 24 #[x, y] (0, 0) _ hb Tryd.underlying24 rfl (by kernel_rfl)
  have hl' := run_loadVar_row (P := Tryd.prog) w g' 24 24 #[x', y'] (0, 0) _ hb' Tryd.underlying24 rfl (by kernel_rfl)
  have e1 : a.tmps[p]?.getD undef = .pointer (some ⟨g, 0, none⟩) := by simpa using hp
  have e2 : a.tmps[p']?.getD undef = .pointer (some ⟨g', 0, none⟩) := by simpa using hp'
  have e3 : a.tmps[q]?.getD undef = v := by simpa using hq
  have e4 : a.tmps[q']?.getD undef = v' := by simpa using hq'
  simp [results, hr, e1, e2, e3, e4, asAddr, hl, hl']

theorem R32.set {w : World} {n : Nat} {v : Value} (h : R32 n v w) {p : Addr} {u old : Value} (ho : w.cell? p = some old) (hne : ∀ z, old ≠ .int .u32 z) : R32 n v (w.setCell p u) := by
  obtain ⟨A, c, rfl, hc, hh⟩ := h
  refine ⟨A, c, rfl, hc, fun hne' => ?_⟩
  obtain ⟨g, off, rfl, hg, hcell⟩ := hh hne'
  refine ⟨g, off, rfl, by simpa using hg, fun i hi => ?_⟩
  rw [World.cell?_setCell_other w _ _ _ (fun e => ?_)]
  · exact hcell i hi
  · have h1 := hcell i hi
    rw [← e, ho] at h1
    injection h1 with h1
    exact hne _ h1

/-- Two numbers, as the program's and as the document's. -/
def TwoPost (x y : Nat) (w : World) (e : Ending) (w' : World) : Prop := ∃ p q, e = .returned (.tuple #[.agg #[.int .u64 (lo (x) : Nat), .string (hi (x))], .agg #[.int .u64 (lo (y) : Nat), .string (hi (y))], p, q]) ∧ R32 x p w' ∧ R32 y q w' ∧ Ext w w'

theorem beN_take (l : List UInt8) (n : Nat) : bl (beN (l.take n)) ≤ 8 * n := by
  refine bl_le (Nat.lt_of_lt_of_le (beN_lt _) (Nat.pow_le_pow_right (by omega) ?_))
  have : (l.take n).length ≤ n := by simp; omega
  omega

set_option maxHeartbeats 1000000 in
theorem two_any (l1 l2 : List UInt8) (v1 v2 : Value) (w : World) (h1 : SlB l1 v1 w) (h2 : SlB l2 v2 w) :
    Calls Tryd.prog 24 #[v1, v2] w (TwoPost (beN (l1.take 48)) (beN (l2.take 48)) w) := by
  have HF1 : Hid (∀ W, SlB l1 v1 W → Calls Tryd.prog 67 #[v1, .int .i64 48] W (RetS (SlB (l1.take 48)) W)) := Lib.hid (fun W h => few_any l1 v1 48 (by omega) W h)
  have HF2 : Hid (∀ W, SlB l2 v2 W → Calls Tryd.prog 67 #[v2, .int .i64 48] W (RetS (SlB (l2.take 48)) W)) := Lib.hid (fun W h => few_any l2 v2 48 (by omega) W h)
  have HN1 : Hid (∀ W u, SlB (l1.take 48) u W → Calls Tryd.prog 81 #[u] W (RetS (R32 (beN (l1.take 48))) W)) := Lib.hid (fun W u h => refFrom_any _ u W (by simp; omega) h)
  have HN2 : Hid (∀ W u, SlB (l2.take 48) u W → Calls Tryd.prog 81 #[u] W (RetS (R32 (beN (l2.take 48))) W)) := Lib.hid (fun W u h => refFrom_any _ u W (by simp; omega) h)
  have HH1 : Hid (∀ W u, R32 (beN (l1.take 48)) u W → Calls Tryd.prog 82 #[u] W (Ret (.agg #[.int .u64 (lo (beN (l1.take 48)) : Nat), .string (hi (beN (l1.take 48)))]) W)) := Lib.hid (fun W u h => handNat_any _ (by have := beN_take l1 48; omega) u W h)
  have HH2 : Hid (∀ W u, R32 (beN (l2.take 48)) u W → Calls Tryd.prog 82 #[u] W (Ret (.agg #[.int .u64 (lo (beN (l2.take 48)) : Nat), .string (hi (beN (l2.take 48)))]) W)) := Lib.hid (fun W u h => handNat_any _ (by have := beN_take l2 48; omega) u W h)
  have HS1 := Lib.hid h1
  have HS2 := Lib.hid h2
  unfold TwoPost
  generalize beN (l1.take 48) = x at *
  generalize beN (l2.take 48) = y at *
  have hpost : (fun e w' => ∃ p q, e = .returned (.tuple #[.agg #[.int .u64 (lo (x) : Nat), .string (hi (x))], .agg #[.int .u64 (lo (y) : Nat), .string (hi (y))], p, q]) ∧ R32 x p w' ∧ R32 y q w' ∧ Ext w w') = TwoPost x y w := rfl
  rw [hpost]
  clear h1 h2 hpost
  generalize hla : lo x = la at *
  generalize hsa : hi x = sa at *
  generalize hlb : lo y = lb at *
  generalize hsb : hi y = sb at *
  have E1 := Lib.hid hla
  have E2 := Lib.hid hsa
  have E3 := Lib.hid hlb
  have E4 := Lib.hid hsb
  clear hla hsa hlb hsb
  go_enter Tryd.func24, Tryd.ntmps24
  go_wp2_with fail
  generalize hW : (w.alloc (.cells #[.int .u64 0, .string ⟨#[]⟩] 24)).alloc (.cells #[.int .u64 0, .string ⟨#[]⟩] 24) = W
  obtain ⟨hr, hs, hx⟩ := boxes2 w W _ _ hW
  have HR := Lib.hid hr
  have HS := Lib.hid hs
  have HX := Lib.hid hx
  clear hr hs hx hW
  refine (HF1.out _ (HS1.out.ext HX.out)).mono ?_
  rintro e w1 ⟨u1, rfl, hv1, hx1⟩
  have HV1 := Lib.hid hv1
  have HX1 := Lib.hid hx1
  clear hv1 hx1
  go_wp2_with fail
  refine (HN1.out _ _ HV1.out).mono ?_
  rintro e w2 ⟨u2, rfl, hv2, hx2⟩
  have HV2 := Lib.hid hv2
  have HX2 := Lib.hid (HX1.out.trans hx2)
  clear hv2 hx2
  go_wp2_with fail
  refine (HF2.out _ (HS2.out.ext (HX.out.trans HX2.out))).mono ?_
  rintro e w3 ⟨u3, rfl, hv3, hx3⟩
  have HV3 := Lib.hid hv3
  have HX3 := Lib.hid hx3
  clear hv3 hx3
  go_wp2_with fail
  refine (HN2.out _ _ HV3.out).mono ?_
  rintro e w4 ⟨u4, rfl, hv4, hx4⟩
  have HV4 := Lib.hid hv4
  have HX4 := Lib.hid (HX3.out.trans hx4)
  clear hv4 hx4
  go_wp2_with fail
  refine (HH1.out _ _ (HV2.out.ext HX4.out)).mono ?_
  rintro e w5 ⟨rfl, hx5⟩
  have HX5 := Lib.hid hx5
  clear hx5
  go_wp2_with fail
  refine (HH2.out _ _ (HV4.out.ext HX5.out)).mono ?_
  rintro e w6 ⟨rfl, hx6⟩
  have he : Ext W w6 := ((HX2.out.trans HX4.out).trans HX5.out).trans hx6
  have HE := Lib.hid (HX.out.trans he)
  have hr3 := HR.out.ext he
  have hs3 := HS.out.ext he
  have r0 : w6.cell? ⟨w.heap.size, 0, none⟩ = some (.int .u64 0) := hr3.cell 0
  have r1 : w6.cell? ⟨w.heap.size, 1, none⟩ = some (.string ⟨#[]⟩) := hr3.cell 1
  have f0 : w6.frozen? ⟨w.heap.size, 0, none⟩ = false := hr3.frozen 0
  have f1 : w6.frozen? ⟨w.heap.size, 1, none⟩ = false := hr3.frozen 1
  have s0 : w6.cell? ⟨w.heap.size + 1, 0, none⟩ = some (.int .u64 0) := hs3.cell 0
  have s1 : w6.cell? ⟨w.heap.size + 1, 1, none⟩ = some (.string ⟨#[]⟩) := hs3.cell 1
  have g0 : w6.frozen? ⟨w.heap.size + 1, 0, none⟩ = false := hs3.frozen 0
  have g1 : w6.frozen? ⟨w.heap.size + 1, 1, none⟩ = false := hs3.frozen 1
  have HR3 := Lib.hid hr3
  have HS3 := Lib.hid hs3
  have P1 := Lib.hid ((HV2.out.ext (HX4.out.trans HX5.out)).ext hx6)
  have P2 := Lib.hid ((HV4.out.ext HX5.out).ext hx6)
  clear hr3 hs3 he hx6
  go_wp2
  refine ret_nat4 w.heap.size (w.heap.size + 1) _ _ _ _ _ _ rfl rfl rfl rfl rfl ((((HR3.out.set 0 _).set 1 _).far (by simp) _).far (by simp) _) ((((HS3.out.far (by simp) _).far (by simp) _).set 0 _).set 1 _) rfl ?_
  have hb : ∀ (i : Nat) (k : Nat) (u : Value) {W : World}, Ext w W → w.heap.size ≤ i → Ext w (W.setCell ⟨i, k, none⟩ u) := fun i k u W h hi => Below.setCell h (p := ⟨i, k, none⟩) hi u
  have b1 := HR3.out.set 0 (.int .u64 la)
  have b2 := ((HS3.out.far (p := ⟨w.heap.size, 0, none⟩) (by simp) (.int .u64 la)).far (p := ⟨w.heap.size, 1, none⟩) (by simp) (.string sa))
  have b3 := b2.set 0 (.int .u64 lb)
  have hset : ∀ {m : Nat} {u : Value}, R32 m u w6 → R32 m u ((((w6.setCell ⟨w.heap.size, 0, none⟩ (.int .u64 la)).setCell ⟨w.heap.size, 1, none⟩ (.string sa)).setCell ⟨w.heap.size + 1, 0, none⟩ (.int .u64 lb)).setCell ⟨w.heap.size + 1, 1, none⟩ (.string sb)) := fun h =>
    (((h.set r0 (fun z e => by cases e)).set (b1.cell 1) (fun z e => by cases e)).set (b2.cell 0) (fun z e => by cases e)).set (b3.cell 1) (fun z e => by cases e)
  refine ⟨_, _, ?_, hset P1.out, hset P2.out, hb _ _ _ (hb _ _ _ (hb _ _ _ (hb _ _ _ HE.out (by omega)) (by omega)) (by omega)) (by omega)⟩
  rw [E1.out, E2.out, E3.out, E4.out]; rfl
end Go.Proofs.YtcfpjgcellahnaaDoor

namespace Go.Proofs.YtcfpjgcellahnaaDoor
open Go.RowKit

theorem size64 : (Tryd.prog.info? 22).map (·.size) = some 1 := by kernel_rfl
theorem oneCell_U (xs : List Nat) : ∀ u ∈ U xs, u.oneCell' = true := by
  intro u hu
  simp only [U, List.mem_map] at hu
  obtain ⟨b, _, rfl⟩ := hu
  rfl
/-- What divWords comes to. -/
def DwPost (q r : Nat) (w : World) (e : Ending) (w' : World) : Prop := ∃ v1 v2, e = .returned (.tuple #[v1, v2]) ∧ Mw q 8589934594 v1 w' ∧ Mw r 8589934594 v2 w' ∧ Ext w w'

set_option maxRecDepth 100000 in
set_option maxHeartbeats 4000000 in
theorem divWords_any (gx gy n m : Nat) (xs ys : List Nat) (w : World) (hbx : Blk w gx 22 (U xs)) (hby : Blk w gy 22 (U ys)) (hn1 : 1 ≤ n) (hn : ys.length = n + 1) (hm : xs.length = m + n) (hm1 : 1 ≤ m) (hx : m + n ≤ 8589934593) (hdx : Dig B64 xs) (hdy : Dig B64 ys) (ht : ys.getD n 0 ≠ 0) :
    Calls Tryd.prog 84 #[.slice (some ⟨gx, 0, none⟩) (m + n) (m + n), .slice (some ⟨gy, 0, none⟩) (n + 1) (n + 1)] w (DwPost (val B64 xs / val B64 ys) (val B64 xs % val B64 ys) w) := by
  have htb : ys.getD n 0 < B64 := hdy.getD (by unfold B64; omega) n
  have hbl64 : bl (ys.getD n 0) ≤ 64 := bl_le htb
  obtain ⟨s, hs⟩ : ∃ s, s + bl (ys.getD n 0) = 64 := ⟨64 - bl (ys.getD n 0), by omega⟩
  have hs64 : s < 64 := by have := bl_pos ht; omega
  have HLZ : Hid (∀ W, Calls Tryd.prog 111 #[.int .u64 (ys.getD n 0 : Nat)] W fun e w' => e = .returned (.int .i64 s) ∧ W = w') := Lib.hid (fun W => by
    have h := Tryd.bits_LeadingZeros64 ((ys.getD n 0 : Nat) : Int) W (by omega) (by unfold B64 at htb; omega)
    rw [Int.toNat_natCast, bitLen_eq htb] at h
    refine h.mono ?_
    rintro e w' ⟨rfl, rfl⟩
    exact ⟨by congr 2; omega, rfl⟩)
  have HUY : Hid (∀ W, Blk W gy 22 (U ys) → Calls Tryd.prog 96 #[.slice (some ⟨gy, 0, none⟩) (n + 1) (n + 1), .int .i64 s] W (RetS (fun v' w' => ∃ zs g, zs.length = n + 2 ∧ Dig B64 zs ∧ val B64 zs = val B64 ys * 2 ^ s ∧ W.heap.size ≤ g ∧ v' = .slice (some ⟨g, 0, none⟩) (n + 2) (n + 2) ∧ Blk w' g 22 (U zs)) W)) := Lib.hid (fun W hb => by
    have h := shiftUp_any (.slice (some ⟨gy, 0, none⟩) (n + 1) (n + 1)) ys s W ⟨_, _, by rw [hn], fun _ => ⟨gy, 0, rfl, hb.lt, fun i hi => by rw [Nat.zero_add, hb.cell i, getD_U _ _ hi]⟩⟩ (by omega) (by omega) hdy
    refine h.mono ?_
    rintro e w' ⟨v', rfl, ⟨zs, h1, h2, h3, h4⟩, h5⟩
    rw [hn, Nat.div_eq_of_lt hs64] at h1
    rcases h4 with ⟨h6, _⟩ | ⟨g, h6, h7, h8⟩
    · subst h6; simp at h1
    · exact ⟨v', rfl, ⟨zs, g, h1, h2, h3, h6, by rw [h7, h1], h8⟩, h5⟩)
  have HUX : Hid (∀ W, Blk W gx 22 (U xs) → Calls Tryd.prog 96 #[.slice (some ⟨gx, 0, none⟩) (m + n) (m + n), .int .i64 s] W (RetS (fun v' w' => ∃ zs g, zs.length = m + n + 1 ∧ Dig B64 zs ∧ val B64 zs = val B64 xs * 2 ^ s ∧ W.heap.size ≤ g ∧ v' = .slice (some ⟨g, 0, none⟩) (m + n + 1) (m + n + 1) ∧ Blk w' g 22 (U zs)) W)) := Lib.hid (fun W hb => by
    have h := shiftUp_any (.slice (some ⟨gx, 0, none⟩) (m + n) (m + n)) xs s W ⟨_, _, by rw [hm], fun _ => ⟨gx, 0, rfl, hb.lt, fun i hi => by rw [Nat.zero_add, hb.cell i, getD_U _ _ hi]⟩⟩ (by omega) (by omega) hdx
    refine h.mono ?_
    rintro e w' ⟨v', rfl, ⟨zs, h1, h2, h3, h4⟩, h5⟩
    rw [hm, Nat.div_eq_of_lt hs64] at h1
    rcases h4 with ⟨h6, _⟩ | ⟨g, h6, h7, h8⟩
    · subst h6; simp at h1
    · exact ⟨v', rfl, ⟨zs, g, h1, h2, h3, h6, by rw [h7, h1], h8⟩, h5⟩)
  have HNT : Hid (∀ zs : List Nat, zs.length = n + 2 → Dig B64 zs → val B64 zs = val B64 ys * 2 ^ s → val B64 (zs.take (n + 1)) = val B64 ys * 2 ^ s ∧ (zs.take (n + 1)).getD n 0 ≠ 0 ∧ val B64 ys * 2 ^ s < B64 ^ (n + 1) ∧ 0 < val B64 ys * 2 ^ s) := Lib.hid (fun zs h1 h2 h3 => norm_take hn hdy h1 h2 h3 hs ht)
  have HST := Lib.hid (dv_start (s := s) hn hm hdx ht)
  have hc : w.cell? ⟨gy, n, none⟩ = some (.int .u64 (ys.getD n 0 : Nat)) := by rw [hby.cell n, getD_U _ _ (by omega)]
  have HSD : Hid (∀ gu0 W L Q, DvOut (val B64 xs * 2 ^ s) (val B64 ys * 2 ^ s) m (n + 1) 0 L Q → val B64 ys * 2 ^ s < B64 ^ (n + 1) → 0 < val B64 ys * 2 ^ s → Blk W gu0 22 (U L) → Calls Tryd.prog 97 #[.slice (some ⟨gu0, 0, none⟩) (n + 1) (m + n + 1), .int .i64 s] W (RetS (Mw (val B64 xs * 2 ^ s % (val B64 ys * 2 ^ s) / 2 ^ s) 8589934594) W)) := Lib.hid (fun gu0 W L Q hD hV hV0 hb => by
    have hll := hD.lenL
    have hlen : (L.take (n + 1)).length = n + 1 := by rw [List.length_take, Nat.min_eq_left (by omega)]
    have hv : val B64 (L.take (n + 1)) = val B64 xs * 2 ^ s % (val B64 ys * 2 ^ s) := by
      rw [val_take_low (by omega) (by rw [hD.fin.2]; exact Nat.lt_trans (Nat.mod_lt _ hV0) hV), hD.fin.2]
    have h := shiftDown_any (.slice (some ⟨gu0, 0, none⟩) (n + 1) (m + n + 1)) (L.take (n + 1)) s W ⟨_, _, by rw [hlen], fun _ => ⟨gu0, 0, rfl, hb.lt, fun i hi => by
      rw [hlen] at hi
      rw [Nat.zero_add, hb.cell i, getD_U _ _ (by omega)]
      congr 3
      rw [getD_lt _ _ (by omega), getD_lt _ _ (by omega), List.getElem_take]⟩⟩ (by omega) (by omega) (hD.digL.take _)
    refine h.mono ?_
    rintro e w' ⟨v', rfl, ⟨zs, h1, h2, h3, h4⟩, h5⟩
    exact ⟨v', rfl, ⟨zs, _, by omega, h2, by rw [h3, hv], h4⟩, h5⟩)
  have HQ := Lib.hid (dv_quot (val B64 xs) (val B64 ys) s)
  have HRM := Lib.hid (dv_rem (val B64 xs) (val B64 ys) s)
  have HBX := Lib.hid hbx
  have HBY := Lib.hid hby
  have HS := Lib.hid hs64
  rw [← HQ.out, ← HRM.out]
  clear htb hbl64 hs hbx hby hdx hdy ht hn hm HQ HRM
  generalize ys.getD n 0 = t at *
  generalize val B64 xs * 2 ^ s = N at *
  generalize val B64 ys * 2 ^ s = V at *
  go_enter Tryd.func84, Tryd.ntmps84
  go_wp2_with fail
  refine (HLZ.out _).mono ?_
  rintro e w0 ⟨rfl, rfl⟩
  go_wp2_with fail
  refine (HUY.out _ HBY.out).mono ?_
  rintro e w1 ⟨v1, rfl, ⟨zs, gv, z1, z2, z3, z4, rfl, z5⟩, hx1⟩
  obtain ⟨k1, k2, k3, k4⟩ := HNT.out zs z1 z2 z3
  have HZ1 := Lib.hid z1
  have HZ2 := Lib.hid z2
  have HK1 := Lib.hid k1
  have HK2 := Lib.hid k2
  have HK3 := Lib.hid k3
  have HK4 := Lib.hid k4
  have HZ4 := Lib.hid z4
  have HZ5 := Lib.hid z5
  have HX1 := Lib.hid hx1
  clear z1 z2 z3 z4 z5 k1 k2 k3 k4 hx1 HNT HLZ HUY hc HBY
  go_wp2_with (at_make; refine wpList_mk _ rfl (.tmp 36) (.tmp 36) 104 22 rfl (.int .u64 0) 8 Tryd.underlying104 info64 rfl .i64 .i64 _ _ (m + n + 1) rfl rfl ?c1 ?c1' ?c2 ?c3 ?_)
  case c1 => omega
  case c1' => omega
  case c2 => omega
  case c3 => omega
  intro w2 hx2 hs2 hb2
  have HX2 := Lib.hid (HX1.out.trans hx2)
  have HZ5' := Lib.hid (HZ5.out.ext hx2)
  have HB2 := Lib.hid hb2
  have HGU : Hid (w.heap.size ≤ w1.heap.size) := Lib.hid HX1.out.size
  have HLT : Hid (gv < w1.heap.size) := Lib.hid HZ5.out.lt
  clear hx2 hs2 hb2 HX1 HZ5
  generalize w1.heap.size = gu at *
  go_wp2_with fail
  refine (HUX.out _ (HBX.out.ext HX2.out)).mono ?_
  rintro e w3 ⟨v3, rfl, ⟨us, gc, u1, u2, u3, u4, rfl, u5⟩, hx3⟩
  have HU1 := Lib.hid u1
  have HU2 := Lib.hid u2
  have HU3 := Lib.hid u3
  have HU4 := Lib.hid u4
  have HU5 := Lib.hid u5
  have HX3 := Lib.hid (HX2.out.trans hx3)
  have HZ6 := Lib.hid (HZ5'.out.ext hx3)
  have HB3 := Lib.hid (HB2.out.ext hx3)
  clear u1 u2 u3 u4 u5 hx3 HX2 HZ5' HB2 HUX
  obtain ⟨w4, hrun, hb4, hbut4⟩ : ∃ w4, (Builtin.copy_ #[104, 104] 3 #[.slice (some ⟨gu, 0, none⟩) (m + n + 1) (m + n + 1), .slice (some ⟨gc, 0, none⟩) (m + n + 1) (m + n + 1)]).run Tryd.prog w3 = .ok (goInt (m + n + 1)) w4 ∧ Blk w4 gu 22 (U us) ∧ But gu w3 w4 := by
    have hl : (U us).length = m + n + 1 := by rw [U_length, HU1.out]
    have h := run_copy_row (P := Tryd.prog) w3 104 104 3 22 gu 0 (m + n + 1) (m + n + 1) ⟨gc, 0, none⟩ (m + n + 1) (m + n + 1) (List.replicate (m + n + 1) (Value.int .u64 0)).toArray 22 (U us) Tryd.underlying104 size64 HB3.out
      (by rw [hl]; exact (Nat.min_self _).symm) (fun j v hv => by rw [Addr.add_lit, Nat.zero_add, HU5.out.cell j, hv]) (by rw [hl]; simp) (oneCell_U us)
    rw [hl] at h
    refine ⟨_, h, ?_, rfl, rfl, rfl, by simp [World.setRow], fun k _ hne => setRow_other w3 gu k _ (fun e => hne (by rw [e]))⟩
    unfold Blk
    rw [setRow_heap w3 gu _ _ 22 _ HB3.out]
    simp
  have HX4 : Hid (Ext w w4) := Lib.hid (hbut4.ext HX3.out HGU.out)
  have HZ7 := Lib.hid (hbut4.blk HZ6.out (by have := HLT.out; omega))
  have HB4 := Lib.hid hb4
  clear hb4 hbut4 HX3 HZ6 HB3 HU4 HU5
  go_wp2_with (at_make; refine wpList_mk _ rfl (.tmp 47) (.tmp 47) 104 22 rfl (.int .u64 0) 8 Tryd.underlying104 info64 rfl .i64 .i64 _ _ m rfl rfl ?c1 ?c1' ?c2 ?c3 ?_)
  case c1 => omega
  case c1' => omega
  case c2 => omega
  case c3 => omega
  intro w5 hx5 hs5 hb5
  rw [rep_U] at hb5
  have HX5 := Lib.hid (HX4.out.trans hx5)
  have HZ := Lib.hid (HZ7.out.ext hx5)
  have HB := Lib.hid (HB4.out.ext hx5)
  have HQ := Lib.hid hb5
  have HGQ : Hid (gu < w4.heap.size) := Lib.hid HB4.out.lt
  have HDV : Hid (DvOut N V m (n + 1) m us (List.replicate m 0)) := Lib.hid (by
    have h := DvOut.start (m := m) (n := n + 1) (V := V) (L := us) (by have := HU1.out; omega) HU2.out (by rw [HU3.out]; exact HST.out)
    rw [HU3.out] at h
    exact h)
  clear hx5 hs5 hb5 hrun HX4 HZ7 HB4
  generalize w4.heap.size = gq at *
  go_wp2
  go_loopw [10] (fun a wr => ∃ (j : Nat) (L Q : List Nat), j ≤ m ∧ a = .int .i64 ((j : Int) - 1) ∧ Hid (DvOut N V m (n + 1) j L Q) ∧ Hid (Blk wr gu 22 (U L)) ∧ Hid (Blk wr gq 22 (U Q)) ∧ Hid (Blk wr gv 22 (U zs)) ∧ Hid (Ext w wr)) (fun a _ => (intOf a + 1).toNat)
  case atStart => exact ⟨m, us, _, Nat.le_refl _, by congr 1; omega, HDV, HB, HQ, HZ, HX5⟩
  case round =>
    obtain ⟨j, L, Q, hj, rfl, hD, hbu, hbq, hbv, hex⟩ := hrel
    by_cases hj0 : j = 0
    · subst hj0
      go_wp2_with fail
      refine (HSD.out gu _ L Q hD.out HK3.out HK4.out hbu.out).mono ?_
      rintro e w6 ⟨v6, rfl, hv6, hx6⟩
      have HV6 := Lib.hid hv6
      have HX6 := Lib.hid hx6
      clear hv6 hx6
      go_wp2
      go_ret2
      have hf := hD.out
      refine ⟨_, _, rfl, ⟨Q, 0, by rw [hf.lenQ]; omega, hf.digQ, hf.fin.1, .inr ⟨gq, Nat.zero_le _, by rw [hf.lenQ]; rfl, hbq.out.ext HX6.out⟩⟩, HV6.out, hex.out.trans HX6.out⟩
    · obtain ⟨k, rfl⟩ : ∃ k, j = k + 1 := ⟨j - 1, by omega⟩
      rw [show ((k + 1 : Nat) : Int) - 1 = (k : Int) from by omega]
      have hkm : k < m := by omega
      have hVl : (zs.take (n + 1)).length = n + 1 := by rw [List.length_take, HZ1.out, Nat.min_eq_left (by omega)]
      have hVd : Dig B64 (zs.take (n + 1)) := HZ2.out.take _
      have hD' : DvOut N (val B64 (zs.take (n + 1))) m (n + 1) (k + 1) L Q := by rw [HK1.out]; exact hD.out
      obtain ⟨g1, g2⟩ := hD'.guess hVl (by omega) hVd (by rw [Nat.add_sub_cancel]; exact HK2.out)
      rw [show k + (n + 1) - 1 = k + n from by omega, show k + (n + 1) - 2 = k + n - 1 from by omega, show k + (n + 1) = k + n + 1 from by omega, Nat.add_sub_cancel, show n + 1 - 2 = n - 1 from by omega] at g2
      rw [show k + (n + 1) = k + n + 1 from by omega, Nat.add_sub_cancel] at g1
      have hvv : ∀ i, i < n + 1 → zs.getD i 0 = (zs.take (n + 1)).getD i 0 := fun i hi => by
        rw [getD_lt _ _ (by rw [HZ1.out]; omega), getD_lt _ _ (by rw [hVl]; exact hi), List.getElem_take]
      have hLl := hD.out.lenL
      have hQl := hD.out.lenQ
      have hB0 : 0 < B64 := by unfold B64; omega
      have cu : ∀ i, i < m + n + 1 → wr.cell? ⟨gu, i, none⟩ = some (.int .u64 (L.getD i 0 : Nat)) := fun i hi => by rw [hbu.out.cell, getD_U _ _ (by omega)]
      have cv : ∀ i, i < n + 1 → wr.cell? ⟨gv, i, none⟩ = some (.int .u64 ((zs.take (n + 1)).getD i 0 : Nat)) := fun i hi => by rw [hbv.out.cell, getD_U _ _ (by rw [HZ1.out]; omega), hvv i hi]
      have c2 := cu (k + n + 1) (by omega)
      have c1 := cu (k + n) (by omega)
      have c0 := cu (k + n - 1) (by omega)
      have d1 := cv n (by omega)
      have d0 := cv (n - 1) (by omega)
      have hv1 : 0 < (zs.take (n + 1)).getD n 0 := Nat.pos_of_ne_zero HK2.out
      have hgw := fun W => guessWord_any (L.getD (k + n + 1) 0) (L.getD (k + n) 0) (L.getD (k + n - 1) 0) ((zs.take (n + 1)).getD n 0) ((zs.take (n + 1)).getD (n - 1) 0) g1 (hD.out.digL.getD hB0 _) (hD.out.digL.getD hB0 _) (hVd.getD hB0 _) (hVd.getD hB0 _) hv1 W
      have hgood := gQ_good (U := L.getD (k + n + 1) 0 * B64 + L.getD (k + n) 0) (u := L.getD (k + n - 1) 0) (v0 := (zs.take (n + 1)).getD (n - 1) 0) hv1
      have hgb := g2 _ hgood
      have hglt := hgood.1
      have HVV := Lib.hid hvv
      have HVL := Lib.hid hVl
      have HVD := Lib.hid hVd
      have HLL := Lib.hid hLl
      have HQL := Lib.hid hQl
      rw [HK1.out] at hgb
      have HGB := Lib.hid hgb
      have HGW := Lib.hid hgw
      clear g1 g2 hgood hgb hgw hD' cu cv hVl hVd hLl hQl hvv hv1
      generalize gQ (L.getD (k + n + 1) 0 * B64 + L.getD (k + n) 0) (L.getD (k + n - 1) 0) ((zs.take (n + 1)).getD n 0) ((zs.take (n + 1)).getD (n - 1) 0) = g at *
      generalize L.getD (k + n + 1) 0 = a2 at *
      generalize L.getD (k + n) 0 = a1 at *
      generalize L.getD (k + n - 1) 0 = a0 at *
      generalize (zs.take (n + 1)).getD n 0 = b1 at *
      generalize (zs.take (n + 1)).getD (n - 1) 0 = b0 at *
      have HGL := Lib.hid hglt
      clear hglt
      have q1 : IntKind.i64.wrap ((k : Int) + ((n : Int) + 1)) = (k : Int) + ((n : Int) + 1) := IntWalk.i64_in _ (by omega)
      have q2 : IntKind.i64.wrap ((k : Int) + ((n : Int) + 1) - 1) = (k : Int) + ((n : Int) + 1) - 1 := IntWalk.i64_in _ (by omega)
      have q3 : IntKind.i64.wrap ((k : Int) + ((n : Int) + 1) - 2) = (k : Int) + ((n : Int) + 1) - 2 := IntWalk.i64_in _ (by omega)
      have q4 : IntKind.i64.wrap ((n : Int) + 1 - 2) = (n : Int) + 1 - 2 := IntWalk.i64_in _ (by omega)
      have r1 : ((k : Int) + ((n : Int) + 1)).toNat = k + n + 1 := by omega
      have r2 : ((k : Int) + ((n : Int) + 1) - 1).toNat = k + n := by omega
      have r3 : ((k : Int) + ((n : Int) + 1) - 2).toNat = k + n - 1 := by omega
      have r4 : ((n : Int) + 1 - 2).toNat = n - 1 := by omega
      go_wp2
      go_quiet ((go_at_call 112; exact Calls.quiet_of (HGW.out _)))
      rename_i nq
      have HD := hD
      have hbu' := Lib.hid (hbu.out.ext ((Ext.refl wr).drewN nq))
      have hbq' := Lib.hid (hbq.out.ext ((Ext.refl wr).drewN nq))
      have hbv' := Lib.hid (hbv.out.ext ((Ext.refl wr).drewN nq))
      have hex' := Lib.hid (hex.out.drewN nq)
      clear hbu hbq hbv hex c2 c1 c0 d1 d0 q1 q2 q3 q4 r1 r2 r3 r4 HGW hD
      generalize wr.drewN nq = W6 at *
      go_wp2
      go_loopw [12, 13, 89] (fun c b i wr => ∃ (i' cc bb : Nat) (L' : List Nat), i' ≤ n + 1 ∧ i = .int .i64 i' ∧ c = .int .u64 cc ∧ b = .int .u64 bb ∧ cc < B64 ∧ bb ≤ 1 ∧ Hid (MsInv L (zs.take (n + 1)) k g i' cc bb L') ∧ Hid (Blk wr gu 22 (U L')) ∧ Hid (Blk wr gq 22 (U Q)) ∧ Hid (Blk wr gv 22 (U zs)) ∧ Hid (Ext w wr)) (fun _ _ i _ => n + 1 - (intOf i).toNat)
      case atStart => exact ⟨0, 0, 0, L, Nat.zero_le _, rfl, rfl, rfl, by unfold B64; omega, by omega, Lib.hid (MsInv.start k g HD.out.digL), hbu', hbq', hbv', hex'⟩
      case round =>
        clear hbu' hbq' hbv' hex'
        obtain ⟨i, c, b, L', hi, rfl, rfl, rfl, hc, hb, hM, hbu, hbq, hbv, hex⟩ := hrel
        have hMl := hM.out.len
        have hLl := HLL.out
        by_cases hin : i < n + 1
        · have cx : wr.cell? ⟨gu, k + i, none⟩ = some (.int .u64 (L'.getD (k + i) 0 : Nat)) := by rw [hbu.out.cell, getD_U _ _ (by omega)]
          have fx : wr.frozen? ⟨gu, k + i, none⟩ = false := hbu.out.frozen _
          have cy : wr.cell? ⟨gv, i, none⟩ = some (.int .u64 ((zs.take (n + 1)).getD i 0 : Nat)) := by rw [hbv.out.cell, getD_U _ _ (by rw [HZ1.out]; omega), HVV.out i hin]
          have hxd : L'.getD (k + i) 0 < B64 := hM.out.dig.getD hB0 _
          have hyd : (zs.take (n + 1)).getD i 0 < B64 := HVD.out.getD hB0 _
          have hst := fun (hi lo s c1 u' b' : Nat) (hu : u' < B64) (e1 : lo + B64 * hi = g * (zs.take (n + 1)).getD i 0) (e2 : s + B64 * c1 = lo + c) (e3 : L'.getD (k + i) 0 + B64 * b' = s + b + u') => hM.out.step (by omega) hu e1 e2 e3
          generalize L'.getD (k + i) 0 = x at *
          generalize (zs.take (n + 1)).getD i 0 = y at *
          have e1 := mu_eq g y
          have e2 := ad_eq (muL g y) c 0
          have hsum : adS (muL g y) c 0 + B64 * (muH g y + adC (muL g y) c 0) = g * y + 0 + c := by
            rw [Nat.mul_add]; omega
          have hq := mac_lt HGL.out hyd hB0 hc hsum
          have e3 := sb_eq (x := x) (y := adS (muL g y) c 0) (b := b) hxd (adS_lt _ _ _) hb
          have hN := hst _ _ _ _ _ _ (sbD_lt _ _ _) e1 (by omega) e3
          have ha : ∀ W, (callFunc 76 #[.int .u64 (muL g y : Nat), .int .u64 c, .int .u64 0]).run Tryd.prog W = .ok (.value (.tuple #[.int .u64 (adS (muL g y) c 0 : Nat), .int .u64 (adC (muL g y) c 0 : Nat)])) W := fun W => add64_0 _ _ W
          have hs : ∀ W, (callFunc 98 #[.int .u64 x, .int .u64 (adS (muL g y) c 0 : Nat), .int .u64 b]).run Tryd.prog W = .ok (.value (.tuple #[.int .u64 (sbD x (adS (muL g y) c 0) b : Nat), .int .u64 (sbB x (adS (muL g y) c 0) b : Nat)])) W := fun W => sub64 _ _ _ hb W
          have hbb := sbB_le x (adS (muL g y) c 0) b
          have HM := Lib.hid (fun W => mul64_any g y HGL.out hyd W)
          have HN := Lib.hid hN
          clear e1 e2 e3 hsum hst hN hM hMl hLl hc hb
          generalize sbB x (adS (muL g y) c 0) b = b2 at *
          generalize sbD x (adS (muL g y) c 0) b = u2 at *
          generalize adC (muL g y) c 0 = c1 at *
          generalize adS (muL g y) c 0 = s1 at *
          generalize muH g y = hh at *
          generalize muL g y = ll at *
          have bq : (hh : Int) + (c1 : Int) ≤ 18446744073709551615 := by unfold B64 at hq; omega
          go_wp2_with fail
          refine (HM.out _).mono ?_
          rintro e w' ⟨rfl, rfl⟩
          go_wp2
          go_roundw
          case rel =>
            refine ⟨i + 1, hh + c1, b2, L'.set (k + i) u2, by omega, by go_num, by go_num, rfl, hq, hbb, HN, Lib.hid (by rw [← U_set]; exact hbu.out.set _ _), Lib.hid (hbq.out.far (by have := HGQ.out; simp; omega) _), Lib.hid (hbv.out.far (by have := HLT.out; simp; omega) _), Lib.hid (Below.setCell hex.out (p := ⟨gu, k + i, none⟩) HGU.out _)⟩
          case measure => simp [intOf]; omega
        · obtain rfl : i = n + 1 := by omega
          have cx : wr.cell? ⟨gu, k + (n + 1), none⟩ = some (.int .u64 (L'.getD (k + (n + 1)) 0 : Nat)) := by rw [hbu.out.cell, getD_U _ _ (by omega)]
          have fx : wr.frozen? ⟨gu, k + (n + 1), none⟩ = false := hbu.out.frozen _
          have hxd : L'.getD (k + (n + 1)) 0 < B64 := hM.out.dig.getD hB0 _
          have hM2 : MsInv L (zs.take (n + 1)) k g (zs.take (n + 1)).length c b L' := by rw [HVL.out]; exact hM.out
          have hst := fun (u' b' : Nat) (hu : u' < B64) (e : L'.getD (k + (zs.take (n + 1)).length) 0 + B64 * b' = c + b + u') => hM2.close (by rw [HVL.out]; omega) hu e
          rw [HVL.out, HK1.out] at hst
          generalize L'.getD (k + (n + 1)) 0 = x at *
          have e3 := sb_eq (x := x) (y := c) (b := b) hxd hc hb
          have hN := hst _ _ (sbD_lt _ _ _) e3
          have hs : ∀ W, (callFunc 98 #[.int .u64 x, .int .u64 c, .int .u64 b]).run Tryd.prog W = .ok (.value (.tuple #[.int .u64 (sbD x c b : Nat), .int .u64 (sbB x c b : Nat)])) W := fun W => sub64 _ _ _ hb W
          have hbb := sbB_le x c b
          have HN := Lib.hid hN
          clear e3 hst hN hM hM2 hMl hLl hc hb
          generalize sbB x c b = b2 at *
          generalize sbD x c b = u2 at *
          have hBU : Hid (Blk (wr.setCell ⟨gu, k + (n + 1), none⟩ (.int .u64 u2)) gu 22 (U (L'.set (k + (n + 1)) u2))) := Lib.hid (by rw [← U_set]; exact hbu.out.set _ _)
          have hBQ : Hid (Blk (wr.setCell ⟨gu, k + (n + 1), none⟩ (.int .u64 u2)) gq 22 (U Q)) := Lib.hid (hbq.out.far (by have := HGQ.out; simp; omega) _)
          have hBV : Hid (Blk (wr.setCell ⟨gu, k + (n + 1), none⟩ (.int .u64 u2)) gv 22 (U zs)) := Lib.hid (hbv.out.far (by have := HLT.out; simp; omega) _)
          have hEX : Hid (Ext w (wr.setCell ⟨gu, k + (n + 1), none⟩ (.int .u64 u2))) := Lib.hid (Below.setCell hex.out (p := ⟨gu, k + (n + 1), none⟩) HGU.out _)
          generalize L'.set (k + (n + 1)) u2 = L2 at *
          by_cases hb2 : b2 = 0
          · subst hb2
            obtain ⟨_, hNX⟩ := HD.out.done0 hkm HK4.out HGB.out HN.out
            have HNX := Lib.hid hNX
            have cq : (wr.setCell ⟨gu, k + (n + 1), none⟩ (.int .u64 u2)).cell? ⟨gq, k, none⟩ = some (.int .u64 (Q.getD k 0 : Nat)) := by rw [hBQ.out.cell, getD_U _ _ (by rw [HQL.out]; exact hkm)]
            have fq : (wr.setCell ⟨gu, k + (n + 1), none⟩ (.int .u64 u2)).frozen? ⟨gq, k, none⟩ = false := hBQ.out.frozen _
            clear hNX hbb
            generalize Q.getD k 0 = qo at *
            go_wp2
            go_roundw
            case rel =>
              exact ⟨k, L2, Q.set k g, by omega, rfl, HNX, Lib.hid (hBU.out.far (by have := HGQ.out; simp; omega) _), Lib.hid (by rw [← U_set]; exact hBQ.out.set _ _), Lib.hid (hBV.out.far (by have := HGQ.out; have := HLT.out; simp; omega) _), Lib.hid (Below.setCell hEX.out (p := ⟨gq, k, none⟩) (by have := HGU.out; have := HGQ.out; show w.heap.size ≤ gq; omega) _)⟩
            case measure => simp [intOf]
          · obtain rfl : b2 = 1 := by omega
            have hg1 : 1 ≤ g := HD.out.pos HK3.out HN.out
            obtain ⟨g', rfl⟩ : ∃ g', g = g' + 1 := ⟨g - 1, by omega⟩
            have hgu : (g' : Int) + 1 ≤ 18446744073709551615 := by have := HGL.out; unfold B64 at this; omega
            have hL2 := HN.out.len
            rw [HLL.out] at hL2
            have HL2 := Lib.hid hL2
            clear hbb hg1 hL2 hb2 hbu hbq hbv hex
            go_wp2
            clear cx fx hs hxd hgu
            generalize wr.setCell ⟨gu, k + (n + 1), none⟩ (.int .u64 u2) = W7 at *
            go_loopw [19, 150] (fun c i wr => ∃ (i' cc : Nat) (L3 : List Nat), i' ≤ n + 1 ∧ i = .int .i64 i' ∧ c = .int .u64 cc ∧ cc ≤ 1 ∧ Hid (AdInv L2 (zs.take (n + 1)) k i' cc L3) ∧ Hid (Blk wr gu 22 (U L3)) ∧ Hid (Blk wr gq 22 (U Q)) ∧ Hid (Blk wr gv 22 (U zs)) ∧ Hid (Ext w wr)) (fun _ i _ => n + 1 - (intOf i).toNat)
            case atStart => exact ⟨0, 0, L2, Nat.zero_le _, rfl, rfl, by omega, Lib.hid (AdInv.start k HN.out.dig), hBU, hBQ, hBV, hEX⟩
            case round =>
              clear hBU hBQ hBV hEX
              obtain ⟨i, c, L3, hi, rfl, rfl, hc, hA, hbu, hbq, hbv, hex⟩ := hrel
              have hAl := hA.out.len
              rw [HL2.out] at hAl
              by_cases hin : i < n + 1
              · have cx : ∀ W, Ext wr W → W.cell? ⟨gu, k + i, none⟩ = some (.int .u64 (L3.getD (k + i) 0 : Nat)) := fun W h => by rw [(hbu.out.ext h).cell, getD_U _ _ (by omega)]
                have fx : ∀ W, Ext wr W → W.frozen? ⟨gu, k + i, none⟩ = false := fun W h => (hbu.out.ext h).frozen _
                have cy : ∀ W, Ext wr W → W.cell? ⟨gv, i, none⟩ = some (.int .u64 ((zs.take (n + 1)).getD i 0 : Nat)) := fun W h => by rw [(hbv.out.ext h).cell, getD_U _ _ (by rw [HZ1.out]; omega), HVV.out i hin]
                have hxd : L3.getD (k + i) 0 < B64 := hA.out.dig.getD hB0 _
                have hyd : (zs.take (n + 1)).getD i 0 < B64 := HVD.out.getD hB0 _
                have hst := fun (u' c' : Nat) (hu : u' < B64) (e : u' + B64 * c' = L3.getD (k + i) 0 + (zs.take (n + 1)).getD i 0 + c) => hA.out.step (by rw [HL2.out]; omega) hu e
                generalize L3.getD (k + i) 0 = x at *
                generalize (zs.take (n + 1)).getD i 0 = y at *
                have hN := hst _ _ (adS_lt x y c) (ad_eq x y c)
                have ha : ∀ W, (callFunc 76 #[.int .u64 x, .int .u64 y, .int .u64 c]).run Tryd.prog W = .ok (.value (.tuple #[.int .u64 (adS x y c : Nat), .int .u64 (adC x y c : Nat)])) W := fun W => add64 _ _ _ hc W
                have hcc := adC_le hxd hyd hc
                have HN2 := Lib.hid hN
                have HA := Lib.hid ha
                have HCX := Lib.hid cx
                have HFX := Lib.hid fx
                have HCY := Lib.hid cy
                clear hst hN hA hAl hc ha cx fx cy hxd hyd
                generalize adC x y c = c2 at *
                generalize adS x y c = s2 at *
                go_wp2
                refine wp_region_all goesExt 20 [fun v _ => v = .slice (some ⟨gu, 0, none⟩) (m + n + 1) (m + n + 1), fun v _ => v = .int .i64 k, fun v _ => v = .int .i64 i, fun v _ => v = .int .i64 ((k : Int) + (i : Int)), fun v _ => v = .slice (some ⟨gu, 0, none⟩) (m + n + 1) (m + n + 1), fun v _ => v = .int .i64 k, fun v _ => v = .int .i64 i, fun v _ => v = .int .i64 ((k : Int) + (i : Int)), fun v _ => v = .pointer (some ⟨gu, k + i, none⟩), fun v _ => v = .int .u64 x, fun v _ => v = .slice (some ⟨gv, 0, none⟩) (n + 1) (n + 2), fun v _ => v = .int .i64 i, fun v _ => v = .pointer (some ⟨gv, i, none⟩), fun v _ => v = .int .u64 y, fun v _ => v = .int .u64 c, fun v _ => v = .tuple #[.int .u64 s2, .int .u64 c2], fun v _ => v = .tuple #[.int .u64 s2, .int .u64 c2], fun v _ => v = .int .u64 s2, fun v _ => v = .int .u64 c2, fun v _ => v = .pointer (some ⟨gu, k + i, none⟩)] (by kernel_rfl) (by kernel_rfl) ?hG ?hQ ⟨fun h => (by cases h), fun _ => ?o0, fun h => (by cases h), fun _ => ?o1, fun h => (by cases h), fun _ => ?o2, fun h => (by cases h), fun _ => ?o3, fun h => (by cases h), fun _ => ?o4, fun h => (by cases h), fun _ => ?o5, fun h => (by cases h), fun _ => ?o6, fun h => (by cases h), fun _ => ?o7, fun h => (by cases h), fun _ => ?o8, fun h => (by cases h), fun _ => ?o9, fun h => (by cases h), fun _ => ?o10, fun h => (by cases h), fun _ => ?o11, fun h => (by cases h), fun _ => ?o12, fun h => (by cases h), fun _ => ?o13, fun h => (by cases h), fun _ => ?o14, fun h => (by cases h), fun _ => ?o15, fun h => (by cases h), fun _ => ?o16, fun _ => ?o17, fun h => (by cases h), fun _ => ?o18, fun h => (by cases h), fun h => (by cases h), fun _ => ?o19, trivial⟩ ?fin
                case hG =>
                  intro g hg
                  simp only [List.mem_cons, List.not_mem_nil, or_false] at hg
                  rcases hg with rfl | rfl | rfl | rfl | rfl | rfl | rfl | rfl | rfl | rfl | rfl | rfl | rfl | rfl | rfl | rfl | rfl | rfl | rfl | rfl
                  all_goals first | exact fun _ _ _ _ h => h | exact fun _ _ _ e h => h.ext e
                case hQ => exact fun c a w d v h => by cases d <;> exact h
                case o0 =>
                  intro v w' hw hj
                  simp [putOps]
                  go_wp2
                  exact ⟨rfl, rfl, Ext.refl _, fun d hd => by cases hd; rfl⟩
                case o1 =>
                  intro v w' hw hj
                  simp [putOps, Act.put]
                  go_wp2
                  exact ⟨rfl, rfl, Ext.refl _, fun d hd => by cases hd; rfl⟩
                case o2 =>
                  intro v w' hw hj
                  simp [putOps, Act.put]
                  go_wp2
                  exact ⟨rfl, rfl, Ext.refl _, fun d hd => by cases hd; rfl⟩
                case o3 =>
                  intro v w' hw hj
                  have e1 : v 1 = .int .i64 k := hj 1 (by kernel_rfl)
                  have e2 : v 2 = .int .i64 i := hj 2 (by kernel_rfl)
                  simp [putOps, Act.put, e1, e2]
                  go_wp2
                  exact ⟨rfl, rfl, Ext.refl _, fun d hd => by cases hd; rfl⟩
                case o4 =>
                  intro v w' hw hj
                  simp [putOps, Act.put]
                  go_wp2
                  exact ⟨rfl, rfl, Ext.refl _, fun d hd => by cases hd; rfl⟩
                case o5 =>
                  intro v w' hw hj
                  simp [putOps, Act.put]
                  go_wp2
                  exact ⟨rfl, rfl, Ext.refl _, fun d hd => by cases hd; rfl⟩
                case o6 =>
                  intro v w' hw hj
                  simp [putOps, Act.put]
                  go_wp2
                  exact ⟨rfl, rfl, Ext.refl _, fun d hd => by cases hd; rfl⟩
                case o7 =>
                  intro v w' hw hj
                  have e5 : v 5 = .int .i64 k := hj 5 (by kernel_rfl)
                  have e6 : v 6 = .int .i64 i := hj 6 (by kernel_rfl)
                  simp [putOps, Act.put, e5, e6]
                  go_wp2
                  exact ⟨rfl, rfl, Ext.refl _, fun d hd => by cases hd; rfl⟩
                case o8 =>
                  intro v w' hw hj
                  have e4 : v 4 = .slice (some ⟨gu, 0, none⟩) (m + n + 1) (m + n + 1) := hj 4 (by kernel_rfl)
                  have e7 : v 7 = .int .i64 ((k : Int) + (i : Int)) := hj 7 (by kernel_rfl)
                  simp [putOps, Act.put, e4, e7]
                  go_wp2
                  exact ⟨rfl, rfl, Ext.refl _, fun d hd => by cases hd; rfl⟩
                case o9 =>
                  intro v w' hw hj
                  have e8 : v 8 = .pointer (some ⟨gu, k + i, none⟩) := hj 8 (by kernel_rfl)
                  have hcx := HCX.out w' hw
                  simp [putOps, Act.put, e8]
                  go_wp2
                  exact ⟨rfl, rfl, Ext.refl _, fun d hd => by cases hd; rfl⟩
                case o10 =>
                  intro v w' hw hj
                  simp [putOps, Act.put]
                  go_wp2
                  exact ⟨rfl, rfl, Ext.refl _, fun d hd => by cases hd; rfl⟩
                case o11 =>
                  intro v w' hw hj
                  simp [putOps, Act.put]
                  go_wp2
                  exact ⟨rfl, rfl, Ext.refl _, fun d hd => by cases hd; rfl⟩
                case o12 =>
                  intro v w' hw hj
                  have e10 : v 10 = .slice (some ⟨gv, 0, none⟩) (n + 1) (n + 2) := hj 10 (by kernel_rfl)
                  have e11 : v 11 = .int .i64 i := hj 11 (by kernel_rfl)
                  simp [putOps, Act.put, e10, e11]
                  go_wp2
                  exact ⟨rfl, rfl, Ext.refl _, fun d hd => by cases hd; rfl⟩
                case o13 =>
                  intro v w' hw hj
                  have e12 : v 12 = .pointer (some ⟨gv, i, none⟩) := hj 12 (by kernel_rfl)
                  have hcy := HCY.out w' hw
                  simp [putOps, Act.put, e12]
                  go_wp2
                  exact ⟨rfl, rfl, Ext.refl _, fun d hd => by cases hd; rfl⟩
                case o14 =>
                  intro v w' hw hj
                  simp [putOps, Act.put]
                  go_wp2
                  exact ⟨rfl, rfl, Ext.refl _, fun d hd => by cases hd; rfl⟩
                case o15 =>
                  intro v w' hw hj
                  have e9 : v 9 = .int .u64 x := hj 9 (by kernel_rfl)
                  have e13 : v 13 = .int .u64 y := hj 13 (by kernel_rfl)
                  have e14 : v 14 = .int .u64 c := hj 14 (by kernel_rfl)
                  have ha := HA.out
                  simp [putOps, Act.put, e9, e13, e14]
                  go_wp2
                  exact ⟨rfl, rfl, Ext.refl _, fun d hd => by cases hd; rfl⟩
                case o16 =>
                  intro v w' hw hj
                  have e15 : v 15 = .tuple #[.int .u64 s2, .int .u64 c2] := hj 15 (by kernel_rfl)
                  simp [putOps, Act.put, e15]
                  go_wp2
                  exact ⟨rfl, rfl, Ext.refl _, fun d hd => by cases hd; rfl⟩
                case o17 =>
                  exact ⟨rfl, 153, 0, 16, rfl, (by kernel_rfl), (by kernel_rfl), fun u w h => ⟨_, h, _, rfl, fun _ _ => rfl⟩⟩
                case o18 =>
                  exact ⟨rfl, 153, 1, 16, rfl, (by kernel_rfl), (by kernel_rfl), fun u w h => ⟨_, h, _, rfl, fun _ _ => rfl⟩⟩
                case o19 =>
                  intro v w' hw hj
                  have e0 : v 0 = .slice (some ⟨gu, 0, none⟩) (m + n + 1) (m + n + 1) := hj 0 (by kernel_rfl)
                  have e3 : v 3 = .int .i64 ((k : Int) + (i : Int)) := hj 3 (by kernel_rfl)
                  simp [putOps, Act.put, e0, e3]
                  go_wp2
                  exact ⟨rfl, rfl, Ext.refl _, fun d hd => by cases hd; rfl⟩
                case fin =>
                  intro v w' hw hj
                  have e19 : v 19 = .pointer (some ⟨gu, k + i, none⟩) := hj 19 172 (by omega) rfl
                  have e17 : v 17 = .int .u64 s2 := hj 17 170 (by omega) rfl
                  have e18 : v 18 = .int .u64 c2 := hj 18 171 (by omega) rfl
                  simp [putOps, Act.put, e19, e17, e18]
                  have hcx := HCX.out w' hw
                  have hfx := HFX.out w' hw
                  go_wp2
                  go_roundw
                  case rel =>
                    refine ⟨_, _, _, ⟨i + 1, by omega, ?_, c2, ?_, hcc, L3.set (k + i) s2, HN2, Lib.hid (by rw [← U_set]; exact (hbu.out.ext hw).set _ _), Lib.hid ((hbq.out.ext hw).far (by have := HGQ.out; simp; omega) _), Lib.hid ((hbv.out.ext hw).far (by have := HLT.out; simp; omega) _), Lib.hid (Below.setCell (hex.out.trans hw) (p := ⟨gu, k + i, none⟩) HGU.out _)⟩, rfl, rfl, rfl⟩
                    · go_num
                    · rfl
                  case measure => simp [intOf]; omega
              · obtain rfl : i = n + 1 := by omega
                have cx : wr.cell? ⟨gu, k + (n + 1), none⟩ = some (.int .u64 (L3.getD (k + (n + 1)) 0 : Nat)) := by rw [hbu.out.cell, getD_U _ _ (by omega)]
                have fx : wr.frozen? ⟨gu, k + (n + 1), none⟩ = false := hbu.out.frozen _
                have hA2 : AdInv L2 (zs.take (n + 1)) k (zs.take (n + 1)).length c L3 := by rw [HVL.out]; exact hA.out
                obtain ⟨d, t1, t2, t3, t4⟩ := hA2.close (by rw [HVL.out, HL2.out]; omega)
                rw [HVL.out] at t1 t2 t3 t4
                rw [HK1.out] at t3
                obtain ⟨_, _, hNX⟩ := HD.out.done1 hkm HK4.out HK3.out HGB.out HN.out t1 t2 t3 t4
                rw [Nat.add_sub_cancel] at hNX
                have HNX := Lib.hid hNX
                generalize L3.getD (k + (n + 1)) 0 = x at *
                have hw3 : IntKind.u64.wrap ((x : Int) + (c : Int)) = ((x + c) % B64 : Nat) := wrapN (x + c)
                have HW3 := Lib.hid hw3
                clear t1 t2 t3 t4 hNX hA hA2 hAl hc hw3
                have cq : ∀ u, (wr.setCell ⟨gu, k + (n + 1), none⟩ u).cell? ⟨gq, k, none⟩ = some (.int .u64 (Q.getD k 0 : Nat)) := fun u => by rw [(hbq.out.far (by have := HGQ.out; simp; omega) u).cell, getD_U _ _ (by rw [HQL.out]; exact hkm)]
                have fq : ∀ u, (wr.setCell ⟨gu, k + (n + 1), none⟩ u).frozen? ⟨gq, k, none⟩ = false := fun u => (hbq.out.far (by have := HGQ.out; simp; omega) u).frozen _
                generalize Q.getD k 0 = qo at *
                go_wp2
                rw [HW3.out]
                have hb1 := hbu.out.set (k + (n + 1)) (.int .u64 ((x + c) % B64 : Nat))
                rw [U_set] at hb1
                have hq1 := hbq.out.far (p := ⟨gu, k + (n + 1), none⟩) (by have := HGQ.out; simp; omega) (.int .u64 ((x + c) % B64 : Nat))
                have hv1 := hbv.out.far (p := ⟨gu, k + (n + 1), none⟩) (by have := HLT.out; simp; omega) (.int .u64 ((x + c) % B64 : Nat))
                refine ⟨⟨k, _, Q.set k g', by omega, rfl, HNX, Lib.hid (hb1.far (by have := HGQ.out; simp; omega) _), Lib.hid (by rw [← U_set]; exact hq1.set _ _), Lib.hid (hv1.far (by have := HGQ.out; have := HLT.out; simp; omega) _), Lib.hid (Below.setCell (Below.setCell hex.out (p := ⟨gu, k + (n + 1), none⟩) HGU.out _) (p := ⟨gq, k, none⟩) (by have := HGU.out; have := HGQ.out; show w.heap.size ≤ gq; omega) _)⟩, by simp [intOf]⟩
end Go.Proofs.YtcfpjgcellahnaaDoor

namespace Go.Proofs.YtcfpjgcellahnaaDoor
open Go.RowKit

theorem Blk.two {w : World} {g : Nat} {t : TypeId} {x y : Value} (h : Blk w g t [x, y]) :
    w.cell? ⟨g, 0, none⟩ = some x ∧ w.cell? ⟨g, 1, none⟩ = some y ∧ w.frozen? ⟨g, 0, none⟩ = false ∧ w.frozen? ⟨g, 1, none⟩ = false := ⟨h.cell 0, h.cell 1, h.frozen 0, h.frozen 1⟩

set_option maxHeartbeats 2000000 in
/-- Div of a lesser number. -/
theorem div_less (a b : Nat) (hb : bl b ≤ 549755813888) (hlt : a < b) (hbig : B64 ≤ b) (w : World) :
    Calls Tryd.prog 26 #[.agg #[.int .u64 (lo (a) : Nat), .string (hi (a))], .agg #[.int .u64 (lo (b) : Nat), .string (hi (b))]] w (Ret (.tuple #[.agg #[.int .u64 (lo (0) : Nat), .string (hi (0))], .agg #[.int .u64 (lo (a) : Nat), .string (hi (a))], .bool true]) w) := by
  have hba : bl a ≤ bl b := bl_mono (Nat.le_of_lt hlt)
  have HB := Lib.hid (fun W => bits_any b (by omega) W)
  have HC : Hid (∀ W, Calls Tryd.prog 36 #[.agg #[.int .u64 (lo (a) : Nat), .string (hi (a))], .agg #[.int .u64 (lo (b) : Nat), .string (hi (b))]] W (Ret (.int .i64 (-1)) W)) := Lib.hid (fun W => by have h := cmp_any a b (by omega) hb W; rw [cmpN_lt hlt] at h; exact h)
  have hnb : (((bl b : Nat) : Int) == 0) = false := beq_eq_false_iff_ne.2 (by have := bl_pos (n := b) (by omega); omega)
  have hsb := hi_big hbig
  have hsa : (hi a).toList.isEmpty = false ∨ (hi a).toList.isEmpty = true := by cases (hi a).toList.isEmpty <;> simp
  have z1 : lo 0 = 0 := rfl
  have z2 : hi 0 = ⟨#[]⟩ := hi_small (by unfold B64; omega)
  rw [z1, z2]
  clear hb hlt hbig hba z1 z2
  generalize bl b = l at *
  generalize lo a = la at *
  generalize hi a = sa at *
  generalize lo b = lb at *
  generalize hi b = sb at *
  rcases hsa with hsa | hsa
  all_goals
    go_enter Tryd.func26, Tryd.ntmps26
    go_wp2_with fail
    generalize hW : (((w.alloc (.cells #[.int .u64 la, .string sa] 24)).alloc (.cells #[.int .u64 lb, .string sb] 24)).alloc (.cells #[.int .u64 0, .string ⟨#[]⟩] 24)).alloc (.cells #[.int .u64 0, .string ⟨#[]⟩] 24) = W
    obtain ⟨hp, hq, hr, hs, hx⟩ := boxes4 w W _ _ _ _ hW
    clear hW
    refine (HB.out _).mono ?_
    rintro e w3 ⟨rfl, he3⟩
    obtain ⟨p0, p1, _, _⟩ := (hp.ext he3).two
    obtain ⟨q0, q1, _, _⟩ := (hq.ext he3).two
    have HE3 := Lib.hid he3
    have HP := Lib.hid hp
    have HQ := Lib.hid hq
    have HR := Lib.hid hr
    have HS := Lib.hid hs
    have HX := Lib.hid hx
    clear hp hq hr hs hx he3
    go_wp2_with fail
    refine (HC.out _).mono ?_
    rintro e w4 ⟨rfl, he4⟩
    have hx4 := HE3.out.trans he4
    clear p0 p1 q0 q1
    obtain ⟨p0, p1, _, _⟩ := (HP.out.ext hx4).two
    obtain ⟨r0, r1, f0, f1⟩ := (HR.out.ext hx4).two
    obtain ⟨s0, s1, g0, g1⟩ := (HS.out.ext hx4).two
    have HR4 := Lib.hid (HR.out.ext hx4)
    have HS4 := Lib.hid (HS.out.ext hx4)
    have HX4 := Lib.hid (HX.out.trans hx4)
    clear hx4 he4 HR HS HX HE3 HP HQ
    go_wp2_with fail
    go_region
    go_wp2
    refine ret_nat3 (w.heap.size + 1 + 1) (w.heap.size + 1 + 1 + 1) _ _ _ _ _ rfl rfl rfl rfl ((((HR4.out.set 0 _).set 1 _).far (by simp) _).far (by simp) _).drew ((((HS4.out.far (by simp) _).far (by simp) _).set 0 _).set 1 _).drew rfl ⟨rfl, ?_⟩
    exact ((((Below.setCell HX4.out (p := ⟨w.heap.size + 1 + 1, 0, none⟩) (by show _ ≤ _; simp; omega) _).setCell (p := ⟨w.heap.size + 1 + 1, 1, none⟩) (by show _ ≤ _; simp; omega) _).setCell (p := ⟨w.heap.size + 1 + 1 + 1, 0, none⟩) (by show _ ≤ _; simp; omega) _).setCell (p := ⟨w.heap.size + 1 + 1 + 1, 1, none⟩) (by show _ ≤ _; simp; omega) _).drew

/-- The words of a number above 0. -/
def WordsOf (n base : Nat) (v : Value) (w : World) : Prop := ∃ g, base ≤ g ∧ v = .slice (some ⟨g, 0, none⟩) (limbs B64 n).length (limbs B64 n).length ∧ Blk w g 22 (U (limbs B64 n))
theorem WordsOf.ext {n base : Nat} {v : Value} {w w' : World} (h : WordsOf n base v w) (e : Ext w w') : WordsOf n base v w' := by
  obtain ⟨g, h1, h2, h3⟩ := h
  exact ⟨g, h1, h2, h3.ext e⟩
theorem words_of (n : Nat) (h0 : n ≠ 0) (hn : bl n ≤ 549755813888) (w : World) : Calls Tryd.prog 78 #[.agg #[.int .u64 (lo (n) : Nat), .string (hi (n))]] w (RetS (WordsOf n w.heap.size) w) :=
  (words_any n hn w).mono fun _ _ ⟨v, he, hf, hx⟩ => ⟨v, he, by
    rcases hf with ⟨h1, _⟩ | ⟨g, h1, h2, h3⟩
    · exact absurd ((limbs_eq_nil B64_two).1 h1) h0
    · exact ⟨g, h1, h2, h3⟩, hx⟩

/-- A quotient and a remainder as words. -/
def QR (q r l : Nat) (v : Value) (w : World) : Prop := ∃ v1 v2, v = .tuple #[v1, v2] ∧ Mw q l v1 w ∧ Mw r l v2 w
theorem QR.ext {q r l : Nat} {v : Value} {w w' : World} (h : QR q r l v w) (e : Ext w w') : QR q r l v w' := by
  obtain ⟨v1, v2, h1, h2, h3⟩ := h
  exact ⟨v1, v2, h1, h2.ext e, h3.ext e⟩
theorem QR.x0 {q r l : Nat} (u : Value) (w : World) (h : QR q r l u w) : ∃ vs : Array Value, u = .tuple vs ∧ ∃ x, vs[0]? = some x ∧ ∀ w', QR q r l u w' → Mw q l x w' := by
  obtain ⟨v1, v2, rfl, _, _⟩ := h
  refine ⟨_, rfl, v1, rfl, ?_⟩
  rintro w' ⟨u1, u2, hu, h1, _⟩
  injection hu with hu
  injection hu with hu
  injection hu with hu1 hu2
  rw [hu1]; exact h1
theorem QR.x1 {q r l : Nat} (u : Value) (w : World) (h : QR q r l u w) : ∃ vs : Array Value, u = .tuple vs ∧ ∃ x, vs[1]? = some x ∧ ∀ w', QR q r l u w' → Mw r l x w' := by
  obtain ⟨v1, v2, rfl, _, _⟩ := h
  refine ⟨_, rfl, v2, rfl, ?_⟩
  rintro w' ⟨u1, u2, hu, _, h1⟩
  injection hu with hu
  injection hu with hu
  injection hu with hu1 hu2
  injection hu2 with hu2 hu3
  rw [hu2]; exact h1

theorem divWords_of (a b : Nat) (ha : bl a ≤ 549755813888) (hab : b ≤ a) (hbig : B64 ≤ b) (v1 v2 : Value) (base1 base2 : Nat) (w : World) (h1 : WordsOf a base1 v1 w) (h2 : WordsOf b base2 v2 w) :
    Calls Tryd.prog 84 #[v1, v2] w (RetS (QR (a / b) (a % b) 8589934594) w) := by
  obtain ⟨gx, _, rfl, hbx⟩ := h1
  obtain ⟨gy, _, rfl, hby⟩ := h2
  have hla := limbs_len a ha
  have hlb : 2 ≤ (limbs B64 b).length := by
    rcases Nat.lt_or_ge 1 (limbs B64 b).length with h | h
    · exact h
    · have := (limbs_length_le_iff B64_two b 1).1 h; rw [Nat.pow_one] at this; omega
  have hle : (limbs B64 b).length ≤ (limbs B64 a).length := limbs_mono hab
  have htop : (limbs B64 b).getD ((limbs B64 b).length - 1) 0 ≠ 0 := by
    rw [getD_lt _ _ (by omega)]
    intro e
    apply limbs_top B64_two b
    rw [List.getLast?_eq_getElem?, List.getElem?_eq_getElem (by omega), e]
  obtain ⟨n, hn⟩ : ∃ n, (limbs B64 b).length = n + 1 := ⟨(limbs B64 b).length - 1, by omega⟩
  obtain ⟨m, hm⟩ : ∃ m, (limbs B64 a).length = m + n := ⟨(limbs B64 a).length - n, by omega⟩
  rw [hn, Nat.add_sub_cancel] at htop
  have h := divWords_any gx gy n m (limbs B64 a) (limbs B64 b) w hbx hby (by omega) hn hm (by omega) (by omega) (limbs_dig B64_two a) (limbs_dig B64_two b) htop
  rw [val_limbs B64_two, val_limbs B64_two] at h
  rw [hn, hm]
  refine h.mono ?_
  rintro e w' ⟨u1, u2, rfl, h3, h4, h5⟩
  exact ⟨_, rfl, ⟨u1, u2, rfl, h3, h4⟩, h5⟩

set_option maxHeartbeats 2000000 in
/-- Div by a great number. -/
theorem div_big (a b : Nat) (ha : bl a ≤ 549755813888) (hab : b ≤ a) (hbig : B64 ≤ b) (w : World) :
    Calls Tryd.prog 26 #[.agg #[.int .u64 (lo (a) : Nat), .string (hi (a))], .agg #[.int .u64 (lo (b) : Nat), .string (hi (b))]] w (Ret (.tuple #[.agg #[.int .u64 (lo (a / b) : Nat), .string (hi (a / b))], .agg #[.int .u64 (lo (a % b) : Nat), .string (hi (a % b))], .bool true]) w) := by
  have hbb : bl b ≤ bl a := bl_mono hab
  have hb0 : b ≠ 0 := by unfold B64 at hbig; omega
  have ha0 : a ≠ 0 := by omega
  have HB := Lib.hid (fun W => bits_any b (by omega) W)
  have hcm : cmpN a b = 0 ∨ cmpN a b = 1 := by unfold cmpN; split <;> (try split) <;> omega
  obtain ⟨z, hz, hz0⟩ : ∃ z, cmpN a b = z ∧ decide (z < 0) = false := ⟨cmpN a b, rfl, by rcases hcm with h | h <;> rw [h] <;> rfl⟩
  have HC : Hid (∀ W, Calls Tryd.prog 36 #[.agg #[.int .u64 (lo (a) : Nat), .string (hi (a))], .agg #[.int .u64 (lo (b) : Nat), .string (hi (b))]] W (Ret (.int .i64 z) W)) := Lib.hid (fun W => by have h := cmp_any a b ha (by omega) W; rw [hz] at h; exact h)
  have HWA : Hid (∀ W, Calls Tryd.prog 78 #[.agg #[.int .u64 (lo (a) : Nat), .string (hi (a))]] W (RetS (WordsOf a 0) W)) := Lib.hid (fun W => (words_of a ha0 ha W).mono fun _ _ ⟨v, h1, ⟨g, _, h2⟩, h3⟩ => ⟨v, h1, ⟨g, Nat.zero_le _, h2⟩, h3⟩)
  have HWB : Hid (∀ W, Calls Tryd.prog 78 #[.agg #[.int .u64 (lo (b) : Nat), .string (hi (b))]] W (RetS (WordsOf b 0) W)) := Lib.hid (fun W => (words_of b hb0 (by omega) W).mono fun _ _ ⟨v, h1, ⟨g, _, h2⟩, h3⟩ => ⟨v, h1, ⟨g, Nat.zero_le _, h2⟩, h3⟩)
  have HDW : Hid (∀ W v1 v2, WordsOf a 0 v1 W → WordsOf b 0 v2 W → Calls Tryd.prog 84 #[v1, v2] W (RetS (QR (a / b) (a % b) 8589934594) W)) := Lib.hid (fun W v1 v2 h1 h2 => divWords_of a b ha hab hbig v1 v2 0 0 W h1 h2)
  have HF1 : Hid (∀ W v, Mw (a / b) 8589934594 v W → Calls Tryd.prog 77 #[v] W (Ret (.agg #[.int .u64 (lo (a / b) : Nat), .string (hi (a / b))]) W)) := Lib.hid (fun W v h => fromWords_mw W h (by omega))
  have HF2 : Hid (∀ W v, Mw (a % b) 8589934594 v W → Calls Tryd.prog 77 #[v] W (Ret (.agg #[.int .u64 (lo (a % b) : Nat), .string (hi (a % b))]) W)) := Lib.hid (fun W v h => fromWords_mw W h (by omega))
  have hnb : (((bl b : Nat) : Int) == 0) = false := beq_eq_false_iff_ne.2 (by have := bl_pos hb0; omega)
  have hsb := hi_big hbig
  have hsa := hi_big (Nat.le_trans hbig hab)
  clear hbig hab ha hbb hb0 ha0 hcm hz
  generalize a / b = q at *
  generalize a % b = r at *
  generalize lo q = lq at *
  generalize hi q = sq at *
  generalize lo r = lr at *
  generalize hi r = sr at *
  generalize bl b = l at *
  generalize lo a = la at *
  generalize hi a = sa at *
  generalize lo b = lb at *
  generalize hi b = sb at *
  go_enter Tryd.func26, Tryd.ntmps26
  go_wp2_with fail
  generalize hW : (((w.alloc (.cells #[.int .u64 la, .string sa] 24)).alloc (.cells #[.int .u64 lb, .string sb] 24)).alloc (.cells #[.int .u64 0, .string ⟨#[]⟩] 24)).alloc (.cells #[.int .u64 0, .string ⟨#[]⟩] 24) = W
  obtain ⟨hp, hq, hr, hs, hx⟩ := boxes4 w W _ _ _ _ hW
  clear hW
  refine (HB.out _).mono ?_
  rintro e w3 ⟨rfl, he3⟩
  obtain ⟨p0, p1, _, _⟩ := (hp.ext he3).two
  obtain ⟨q0, q1, _, _⟩ := (hq.ext he3).two
  have HE3 := Lib.hid he3
  have HP := Lib.hid hp
  have HQ := Lib.hid hq
  have HR := Lib.hid hr
  have HS := Lib.hid hs
  have HX := Lib.hid hx
  clear hp hq hr hs hx he3
  go_wp2_with fail
  refine (HC.out _).mono ?_
  rintro e w4 ⟨rfl, he4⟩
  have hx4 := HE3.out.trans he4
  clear p0 p1 q0 q1
  obtain ⟨p0, p1, _, _⟩ := (HP.out.ext hx4).two
  obtain ⟨q0, q1, _, _⟩ := (HQ.out.ext hx4).two
  have hp4 := HP.out.ext hx4
  have hq4 := HQ.out.ext hx4
  have HR4 := Lib.hid (HR.out.ext hx4)
  have HS4 := Lib.hid (HS.out.ext hx4)
  have HX4 := Lib.hid (HX.out.trans hx4)
  clear hx4 he4 HR HS HX HE3 HP HQ HB HC
  go_wp2
  clear p0 p1 q0 q1
  refine wp_region_all goesExt 8 [fun v _ => v = .agg #[.int .u64 la, .string sa], WordsOf a 0, fun v _ => v = .agg #[.int .u64 lb, .string sb], WordsOf b 0, QR q r 8589934594, QR q r 8589934594, Mw q 8589934594, Mw r 8589934594] (by kernel_rfl) (by kernel_rfl) ?hG ?hQ ⟨fun h => (by cases h), fun _ => ?o0, fun h => (by cases h), fun _ => ?o1, fun h => (by cases h), fun _ => ?o2, fun h => (by cases h), fun _ => ?o3, fun h => (by cases h), fun _ => ?o4, fun h => (by cases h), fun _ => ?o5, fun _ => ?o6, fun h => (by cases h), fun _ => ?o7, fun h => (by cases h), trivial⟩ ?fin
  case hG =>
    intro g hg
    simp only [List.mem_cons, List.not_mem_nil, or_false] at hg
    rcases hg with rfl | rfl | rfl | rfl | rfl | rfl | rfl | rfl
    all_goals first | exact fun _ _ _ _ h => h | exact fun _ _ _ e h => h.ext e
  case hQ => exact fun c a w d v h => by cases d <;> exact h
  case o0 =>
    intro v w' hw hj
    have c0 : w'.cell? ⟨w.heap.size, 0, none⟩ = some (.int .u64 la) := (hp4.ext hw).cell 0
    have c1 : w'.cell? ⟨w.heap.size, 1, none⟩ = some (.string sa) := (hp4.ext hw).cell 1
    simp [putOps]
    go_wp2
    exact ⟨rfl, rfl, Ext.refl _, fun d hd => by cases hd; rfl⟩
  case o1 =>
    intro v w' hw hj
    have e0 : v 0 = .agg #[.int .u64 la, .string sa] := hj 0 (by kernel_rfl)
    simp [putOps, Act.put, e0]
    go_wp2_with fail
    refine (HWA.out _).mono ?_
    rintro e w2 ⟨u, rfl, h1, h2⟩
    go_wp2
    exact ⟨rfl, rfl, h2, fun d hd => by cases hd; exact h1⟩
  case o2 =>
    intro v w' hw hj
    have c0 : w'.cell? ⟨(w.heap.size + 1), 0, none⟩ = some (.int .u64 lb) := (hq4.ext hw).cell 0
    have c1 : w'.cell? ⟨(w.heap.size + 1), 1, none⟩ = some (.string sb) := (hq4.ext hw).cell 1
    simp [putOps, Act.put]
    go_wp2
    exact ⟨rfl, rfl, Ext.refl _, fun d hd => by cases hd; rfl⟩
  case o3 =>
    intro v w' hw hj
    have e2 : v 2 = .agg #[.int .u64 lb, .string sb] := hj 2 (by kernel_rfl)
    simp [putOps, Act.put, e2]
    go_wp2_with fail
    refine (HWB.out _).mono ?_
    rintro e w2 ⟨u, rfl, h1, h2⟩
    go_wp2
    exact ⟨rfl, rfl, h2, fun d hd => by cases hd; exact h1⟩
  case o4 =>
    intro v w' hw hj
    have e1 : (WordsOf a 0) (v 1) w' := hj 1 (by kernel_rfl)
    have e3 : (WordsOf b 0) (v 3) w' := hj 3 (by kernel_rfl)
    simp [putOps, Act.put]
    go_wp2_with fail
    refine (HDW.out _ _ _ e1 e3).mono ?_
    rintro e w2 ⟨u, rfl, h1, h2⟩
    go_wp2
    exact ⟨rfl, rfl, h2, fun d hd => by cases hd; exact h1⟩
  case o5 =>
    intro v w' hw hj
    have e4 : (QR q r 8589934594) (v 4) w' := hj 4 (by kernel_rfl)
    simp [putOps, Act.put]
    go_wp2; exact ⟨rfl, rfl, Ext.refl _, fun d hd => by cases hd; exact e4⟩
  case o6 =>
    exact ⟨rfl, 57, 0, 5, rfl, (by kernel_rfl), (by kernel_rfl), QR.x0⟩
  case o7 =>
    exact ⟨rfl, 57, 1, 5, rfl, (by kernel_rfl), (by kernel_rfl), QR.x1⟩
  case fin =>
    intro v w' hw hj
    have e6 : (Mw q 8589934594) (v 6) w' := hj 6 63 (by omega) rfl
    have e7 : (Mw r 8589934594) (v 7) w' := hj 7 64 (by omega) rfl
    simp [putOps, Act.put]
    have H6 := Lib.hid e6
    have H7 := Lib.hid e7
    have HW' := Lib.hid hw
    clear e6 e7 hw hj hp4 hq4
    go_wp2_with fail
    refine (HF1.out _ _ H6.out).mono ?_
    rintro e w6 ⟨rfl, hx6⟩
    have HX6 := Lib.hid hx6
    clear hx6
    go_wp2_with fail
    refine (HF2.out _ _ (H7.out.ext HX6.out)).mono ?_
    rintro e w7 ⟨rfl, hx7⟩
    have hx4 := (HW'.out.trans HX6.out).trans hx7
    obtain ⟨r0, r1, f0, f1⟩ := (HR4.out.ext hx4).two
    obtain ⟨s0, s1, g0, g1⟩ := (HS4.out.ext hx4).two
    have HR5 := Lib.hid (HR4.out.ext hx4)
    have HS5 := Lib.hid (HS4.out.ext hx4)
    have HX5 := Lib.hid (HX4.out.trans hx4)
    clear hx4 hx7
    go_wp2
    refine ret_nat3 (w.heap.size + 1 + 1) (w.heap.size + 1 + 1 + 1) _ _ _ _ _ rfl rfl rfl rfl ((((HR5.out.set 0 _).set 1 _).far (by simp) _).far (by simp) _) ((((HS5.out.far (by simp) _).far (by simp) _).set 0 _).set 1 _) rfl ⟨rfl, ?_⟩
    exact (((Below.setCell HX5.out (p := ⟨w.heap.size + 1 + 1, 0, none⟩) (by show _ ≤ _; simp; omega) _).setCell (p := ⟨w.heap.size + 1 + 1, 1, none⟩) (by show _ ≤ _; simp; omega) _).setCell (p := ⟨w.heap.size + 1 + 1 + 1, 0, none⟩) (by show _ ≤ _; simp; omega) _).setCell (p := ⟨w.heap.size + 1 + 1 + 1, 1, none⟩) (by show _ ≤ _; simp; omega) _

theorem But.keep {g : Nat} {w w' : World} (h : But g w w') {p : Addr} {v : Value} (hc : w.cell? p = some v) (hp : p.block < w.heap.size) (hne : p.block ≠ g) : w'.cell? p = some v :=
  (World.cell?_of_block (h.block p.block hp (fun e => hne (by injection e)))).trans hc

/-- What divWord comes to, in letters. -/
def DWP (g n k q r : Nat) (w : World) (e : Ending) (w' : World) : Prop :=
  ∃ L, L.length = n ∧ Dig B64 L ∧ val B64 L = q ∧ e = .returned (.tuple #[.slice (some ⟨g, 0, none⟩) k n, .int .u64 (r : Nat)]) ∧ Blk w' g 22 (U L) ∧ But g w w'

set_option maxHeartbeats 2000000 in
/-- Div of a great number by a small one. -/
theorem div_word (a b : Nat) (ha : bl a ≤ 549755813888) (hbig : B64 ≤ a) (hb : b < B64) (h0 : b ≠ 0) (w : World) :
    Calls Tryd.prog 26 #[.agg #[.int .u64 (lo (a) : Nat), .string (hi (a))], .agg #[.int .u64 (lo (b) : Nat), .string (hi (b))]] w (Ret (.tuple #[.agg #[.int .u64 (lo (a / b) : Nat), .string (hi (a / b))], .agg #[.int .u64 (lo (a % b) : Nat), .string (hi (a % b))], .bool true]) w) := by
  have hm : a % b < B64 := Nat.lt_trans (Nat.mod_lt _ (by omega)) hb
  have hbb : bl b ≤ bl a := bl_mono (by omega)
  have ha0 : a ≠ 0 := by omega
  have HB : Hid (∀ W, Calls Tryd.prog 27 #[.agg #[.int .u64 b, .string ⟨#[]⟩]] W (Ret (.int .i64 (bl b : Nat)) W)) := Lib.hid (fun W => by have h := bits_any b (by omega) W; rw [small_val hb] at h; exact h)
  have HC : Hid (∀ W, Calls Tryd.prog 36 #[.agg #[.int .u64 (lo (a) : Nat), .string (hi (a))], .agg #[.int .u64 b, .string ⟨#[]⟩]] W (Ret (.int .i64 1) W)) := Lib.hid (fun W => by have h := cmp_any a b ha (by omega) W; rw [cmpN_gt (by omega), small_val hb] at h; exact h)
  have HWA := Lib.hid (fun W => words_of a ha0 ha W)
  have HDW : Hid (∀ g W, Blk W g 22 (U (limbs B64 a)) → Calls Tryd.prog 83 #[.slice (some ⟨g, 0, none⟩) (limbs B64 a).length (limbs B64 a).length, .int .u64 b] W (DWP g (limbs B64 a).length (limbs B64 (a / b)).length (a / b) (a % b) W)) := Lib.hid (fun g W h => by
    have h := divWord_any g (limbs B64 a) b W h (limbs_len a ha) (limbs_dig B64_two a) (by omega) hb
    refine h.mono ?_
    rintro e w' ⟨L, l1, l2, l3, he, l4, l5⟩
    rw [val_limbs B64_two] at l3 he
    exact ⟨L, l1, l2, l3, he, l4, l5⟩)
  have HF : Hid (∀ g W L, Blk W g 22 (U L) → L.length = (limbs B64 a).length → Dig B64 L → val B64 L = a / b → Calls Tryd.prog 77 #[.slice (some ⟨g, 0, none⟩) (limbs B64 (a / b)).length (limbs B64 a).length] W (Ret (.agg #[.int .u64 (lo (a / b) : Nat), .string (hi (a / b))]) W)) := Lib.hid (fun g W L hB hl hd hv => by
    have hle := limbs_length_le B64_two hd
    rw [hv] at hle
    have ht := limbs_take B64_two hd
    rw [hv] at ht
    have h := fromWords_blk g L.length (L.take (limbs B64 (a / b)).length) (L.drop (limbs B64 (a / b)).length) W (by rw [List.take_append_drop]; exact hB) (by simp; omega) (by have := limbs_len a ha; simp; omega) (hd.take _)
    rw [List.length_take, Nat.min_eq_left hle, ← ht, val_limbs B64_two, hl] at h
    exact h)
  have hnb : (((bl b : Nat) : Int) == 0) = false := beq_eq_false_iff_ne.2 (by have := bl_pos h0; omega)
  have hsa := hi_big hbig
  have hbu : (b : Int) ≤ 18446744073709551615 := by unfold B64 at hb; omega
  rw [small_val hb, small_val hm]
  clear hbig hb ha hbb ha0 hm h0
  generalize a / b = q at *
  generalize a % b = r at *
  unfold WordsOf at HWA
  generalize (limbs B64 q).length = kq at *
  generalize hxs : limbs B64 a = xs at *
  clear hxs
  generalize xs.length = n at *
  generalize lo q = lq at *
  generalize hi q = sq at *
  generalize bl b = l at *
  generalize lo a = la at *
  generalize hi a = sa at *
  go_enter Tryd.func26, Tryd.ntmps26
  go_wp2_with fail
  generalize hW : (((w.alloc (.cells #[.int .u64 la, .string sa] 24)).alloc (.cells #[.int .u64 b, .string ⟨#[]⟩] 24)).alloc (.cells #[.int .u64 0, .string ⟨#[]⟩] 24)).alloc (.cells #[.int .u64 0, .string ⟨#[]⟩] 24) = W
  obtain ⟨hp, hq, hr, hs, hx⟩ := boxes4 w W _ _ _ _ hW
  clear hW
  refine (HB.out _).mono ?_
  rintro e w3 ⟨rfl, he3⟩
  obtain ⟨p0, p1, _, _⟩ := (hp.ext he3).two
  obtain ⟨q0, q1, _, _⟩ := (hq.ext he3).two
  have HE3 := Lib.hid he3
  have HP := Lib.hid hp
  have HQ := Lib.hid hq
  have HR := Lib.hid hr
  have HS := Lib.hid hs
  have HX := Lib.hid hx
  clear hp hq hr hs hx he3
  go_wp2_with fail
  refine (HC.out _).mono ?_
  rintro e w4 ⟨rfl, he4⟩
  have hx4 := HE3.out.trans he4
  clear p0 p1 q0 q1
  obtain ⟨p0, p1, _, _⟩ := (HP.out.ext hx4).two
  obtain ⟨q0, q1, _, _⟩ := (HQ.out.ext hx4).two
  have hr4 := HR.out.ext hx4
  have hs4 := HS.out.ext hx4
  have HR4 := Lib.hid hr4
  have HS4 := Lib.hid hs4
  have HX4 := Lib.hid (HX.out.trans hx4)
  have hsz : w.heap.size + 1 + 1 + 1 < w4.heap.size := hs4.lt
  clear hx4 he4 HR HS HX HE3 HP HQ HB HC hr4 hs4
  go_wp2
  go_region_held3 (fun w' => w'.cell? ⟨w.heap.size, 0, none⟩ = some (.int .u64 la) ∧ w'.cell? ⟨w.heap.size, 1, none⟩ = some (.string sa) ∧ w'.cell? ⟨w.heap.size + 1, 0, none⟩ = some (.int .u64 b) ∧ w'.cell? ⟨w.heap.size + 1, 1, none⟩ = some (.string ⟨#[]⟩))
    (first | exact ⟨p0, p1, q0, q1⟩ | exact ⟨he1.keep p0, he1.keep p1, he1.keep q0, he1.keep q1⟩ | exact ⟨hbut.keep (he1.keep p0) (by have := he1.size; simp at *; omega) (by simp at *; omega), hbut.keep (he1.keep p1) (by have := he1.size; simp at *; omega) (by simp at *; omega), hbut.keep (he1.keep q0) (by have := he1.size; simp at *; omega) (by simp at *; omega), hbut.keep (he1.keep q1) (by have := he1.size; simp at *; omega) (by simp at *; omega)⟩)
    (first | (go_at_call 78; refine (HWA.out _).mono ?_; rintro e w1 ⟨v1, rfl, ⟨g, hg, rfl, hb1⟩, he1⟩) | (go_at_call 83; refine (HDW.out g _ hb1).mono ?_; rintro e w2 ⟨L, l1, l2, l3, rfl, hb2, hbut⟩))
  have hE1 : Ext w4 w1 := he1.undrew
  have hge : w4.heap.size ≤ g := hg
  have HE2 : Hid (Ext w w2) := Lib.hid (hbut.ext (HX4.out.trans hE1) (by omega))
  have HR5 := Lib.hid (hbut.blk (HR4.out.ext hE1) (by omega))
  have HS5 := Lib.hid (hbut.blk (HS4.out.ext hE1) (by omega))
  have HB2 := Lib.hid hb2
  have HL1 := Lib.hid l1
  have HL3 := Lib.hid l3
  clear he1 hE1 hb1 hb2 hbut l1 l3 p0 p1 q0 q1 HR4 HS4 HX4 HWA HDW
  go_wp2_with fail
  refine (HF.out g _ L HB2.out HL1.out l2 HL3.out).mono ?_
  rintro e w7 ⟨rfl, hx7⟩
  obtain ⟨r0, r1, f0, f1⟩ := (HR5.out.ext hx7).two
  obtain ⟨s0, s1, g0, g1⟩ := (HS5.out.ext hx7).two
  have HR6 := Lib.hid (HR5.out.ext hx7)
  have HS6 := Lib.hid (HS5.out.ext hx7)
  have HX6 := Lib.hid (HE2.out.trans hx7)
  clear hx7
  go_wp2
  refine ret_nat3 (w.heap.size + 1 + 1) (w.heap.size + 1 + 1 + 1) _ _ _ _ _ rfl rfl rfl rfl ((((HR6.out.set 0 _).set 1 _).far (by simp) _).far (by simp) _) ((((HS6.out.far (by simp) _).far (by simp) _).set 0 _).set 1 _) rfl ⟨rfl, ?_⟩
  exact (((Below.setCell HX6.out (p := ⟨w.heap.size + 1 + 1, 0, none⟩) (by show _ ≤ _; simp; omega) _).setCell (p := ⟨w.heap.size + 1 + 1, 1, none⟩) (by show _ ≤ _; simp; omega) _).setCell (p := ⟨w.heap.size + 1 + 1 + 1, 0, none⟩) (by show _ ≤ _; simp; omega) _).setCell (p := ⟨w.heap.size + 1 + 1 + 1, 1, none⟩) (by show _ ≤ _; simp; omega) _

/-- Div of any two numbers. -/
theorem div_any (a b : Nat) (ha : bl a ≤ 549755813888) (hb : bl b ≤ 549755813888) (h0 : b ≠ 0) (w : World) :
    Calls Tryd.prog 26 #[.agg #[.int .u64 (lo (a) : Nat), .string (hi (a))], .agg #[.int .u64 (lo (b) : Nat), .string (hi (b))]] w (Ret (.tuple #[.agg #[.int .u64 (lo (a / b) : Nat), .string (hi (a / b))], .agg #[.int .u64 (lo (a % b) : Nat), .string (hi (a % b))], .bool true]) w) := by
  rcases Nat.lt_or_ge b B64 with h | h
  · rcases Nat.lt_or_ge a B64 with h' | h'
    · exact div_small a b h' h h0 w
    · exact div_word a b ha h' h h0 w
  · rcases Nat.lt_or_ge a b with h' | h'
    · have := div_less a b hb h' h w
      rw [Nat.div_eq_of_lt h', Nat.mod_eq_of_lt h']
      exact this
    · exact div_big a b ha h' h w
end Go.Proofs.YtcfpjgcellahnaaDoor
