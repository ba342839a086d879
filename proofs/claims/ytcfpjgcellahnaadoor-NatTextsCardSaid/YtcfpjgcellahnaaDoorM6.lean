/- The calls that the laws make, each by the sizes of its arguments. Walks: the document's at, NatAdd, NatSub, NatMul, NatCmp. Walks: the document's NatMul, NatCmp. More calls that the laws make: the document's answers. More calls that the laws make: quotients, roots, shifts. Powers and roots: plain mathematics. Walks: the document's NatShift. Walks: Pow. Walks: the document's NatPow, NatRoot. Walks: hand.Pick. -/
import Derived.Lib.MinMax
import Derived.Test.YtcfpjgcellahnaaDoorM5
namespace Go.Proofs.YtcfpjgcellahnaaDoor
open Go.RowKit

/-- A number of at most k bits. -/
def Sm (k n : Nat) : Prop := bl n ≤ k
theorem Sm.le {j k n : Nat} (h : Sm j n) (hk : j ≤ k) : Sm k n := Nat.le_trans h hk
theorem Sm.add {j k a b : Nat} (ha : Sm j a) (hb : Sm k b) : Sm (max j k + 1) (a + b) := by
  have := bl_add a b
  unfold Sm at *
  omega
theorem Sm.mul {j k a b : Nat} (ha : Sm j a) (hb : Sm k b) : Sm (j + k) (a * b) := by
  have := bl_mul a b
  unfold Sm at *
  omega
theorem Sm.mono {k a b : Nat} (hb : Sm k b) (h : a ≤ b) : Sm k a := Nat.le_trans (bl_mono h) hb
theorem Sm.div {k a : Nat} (ha : Sm k a) (b : Nat) : Sm k (a / b) := ha.mono (Nat.div_le_self _ _)
theorem Sm.mod {k a : Nat} (ha : Sm k a) (b : Nat) : Sm k (a % b) := ha.mono (Nat.mod_le _ _)
theorem Sm.sub {k a : Nat} (ha : Sm k a) (b : Nat) : Sm k (a - b) := ha.mono (Nat.sub_le _ _)
theorem Sm.take (l : List UInt8) : Sm 384 (beN (l.take 48)) := beN_take l 48
theorem Sm.zero (k : Nat) : Sm k 0 := by unfold Sm; rw [bl_zero]; omega
theorem Sm.one : Sm 1 1 := bl_le (by omega)

theorem cadd {j k a b : Nat} (ha : Sm j a) (hb : Sm k b) (W : World) (h : max j k ≤ 549755813888 := by decide) :
    Calls Tryd.prog 20 #[.agg #[.int .u64 (lo (a) : Nat), .string (hi (a))], .agg #[.int .u64 (lo (b) : Nat), .string (hi (b))]] W (Ret (.agg #[.int .u64 (lo (a + b) : Nat), .string (hi (a + b))]) W) := add_any a b (by unfold Sm at ha; omega) (by unfold Sm at hb; omega) W
theorem cmul {j k a b : Nat} (ha : Sm j a) (hb : Sm k b) (W : World) (h : max j k ≤ 274877906944 := by decide) :
    Calls Tryd.prog 37 #[.agg #[.int .u64 (lo (a) : Nat), .string (hi (a))], .agg #[.int .u64 (lo (b) : Nat), .string (hi (b))]] W (Ret (.agg #[.int .u64 (lo (a * b) : Nat), .string (hi (a * b))]) W) := mul_any a b (by unfold Sm at ha; omega) (by unfold Sm at hb; omega) W
theorem ccmp {j k a b : Nat} (ha : Sm j a) (hb : Sm k b) (W : World) (h : max j k ≤ 549755813888 := by decide) :
    Calls Tryd.prog 36 #[.agg #[.int .u64 (lo (a) : Nat), .string (hi (a))], .agg #[.int .u64 (lo (b) : Nat), .string (hi (b))]] W (Ret (.int .i64 (cmpN a b)) W) := cmp_any a b (by unfold Sm at ha; omega) (by unfold Sm at hb; omega) W
theorem ccmp_eq {j k a b : Nat} (ha : Sm j a) (hb : Sm k b) (e : a = b) (W : World) (h : max j k ≤ 549755813888 := by decide) :
    Calls Tryd.prog 36 #[.agg #[.int .u64 (lo (a) : Nat), .string (hi (a))], .agg #[.int .u64 (lo (b) : Nat), .string (hi (b))]] W (Ret (.int .i64 0) W) := by
  have h := ccmp ha hb W h
  have e2 : cmpN a b = 0 := by subst e; unfold cmpN; simp
  rw [e2] at h
  exact h
theorem ccmp_lt {j k a b : Nat} (ha : Sm j a) (hb : Sm k b) (e : a < b) (W : World) (h : max j k ≤ 549755813888 := by decide) :
    Calls Tryd.prog 36 #[.agg #[.int .u64 (lo (a) : Nat), .string (hi (a))], .agg #[.int .u64 (lo (b) : Nat), .string (hi (b))]] W (Ret (.int .i64 (-1)) W) := by
  have h := ccmp ha hb W h
  rw [cmpN_lt e] at h
  exact h
theorem ccmp_gt {j k a b : Nat} (ha : Sm j a) (hb : Sm k b) (e : b < a) (W : World) (h : max j k ≤ 549755813888 := by decide) :
    Calls Tryd.prog 36 #[.agg #[.int .u64 (lo (a) : Nat), .string (hi (a))], .agg #[.int .u64 (lo (b) : Nat), .string (hi (b))]] W (Ret (.int .i64 1) W) := by
  have h := ccmp ha hb W h
  rw [cmpN_gt e] at h
  exact h
theorem csub {j k a b : Nat} (ha : Sm j a) (hb : Sm k b) (e : b ≤ a) (W : World) (h : max j k ≤ 549755813888 := by decide) :
    Calls Tryd.prog 40 #[.agg #[.int .u64 (lo (a) : Nat), .string (hi (a))], .agg #[.int .u64 (lo (b) : Nat), .string (hi (b))]] W (Ret (.tuple #[.agg #[.int .u64 (lo (a - b) : Nat), .string (hi (a - b))], .bool true]) W) := sub_ge a b (by unfold Sm at ha; omega) (by unfold Sm at hb; omega) e W
theorem csub_eq {j k a b c : Nat} (ha : Sm j a) (hb : Sm k b) (e : b + c = a) (W : World) (h : max j k ≤ 549755813888 := by decide) :
    Calls Tryd.prog 40 #[.agg #[.int .u64 (lo (a) : Nat), .string (hi (a))], .agg #[.int .u64 (lo (b) : Nat), .string (hi (b))]] W (Ret (.tuple #[.agg #[.int .u64 (lo (c) : Nat), .string (hi (c))], .bool true]) W) := by
  have h := csub ha hb (by omega) W h
  rw [show a - b = c from by omega] at h
  exact h
theorem csub_no {j k a b : Nat} (ha : Sm j a) (hb : Sm k b) (e : a < b) (W : World) (h : max j k ≤ 549755813888 := by decide) :
    Calls Tryd.prog 40 #[.agg #[.int .u64 (lo (a) : Nat), .string (hi (a))], .agg #[.int .u64 (lo (b) : Nat), .string (hi (b))]] W (Ret (.tuple #[.agg #[.int .u64 (lo (0) : Nat), .string (hi (0))], .bool false]) W) := sub_lt a b (by unfold Sm at ha; omega) (by unfold Sm at hb; omega) e W
theorem cbits {k a : Nat} (ha : Sm k a) (W : World) (h : k ≤ 1099511627776 := by decide) :
    Calls Tryd.prog 27 #[.agg #[.int .u64 (lo (a) : Nat), .string (hi (a))]] W (Ret (.int .i64 (bl a : Nat)) W) := bits_any a (by unfold Sm at ha; omega) W

/-- A new box of a nat.Nat. -/
def Box0 (v : Value) (w : World) : Prop := ∃ g, v = .pointer (some ⟨g, 0, none⟩) ∧ Blk w g 24 [.int .u64 0, .string ⟨#[]⟩]
theorem Box0.ext {v : Value} {w w' : World} (h : Box0 v w) (e : Ext w w') : Box0 v w' := by
  obtain ⟨g, h1, h2⟩ := h
  exact ⟨g, h1, h2.ext e⟩
/-- .. made since B. -/
def Box1 (B : Nat) (v : Value) (w : World) : Prop := ∃ g, B ≤ g ∧ v = .pointer (some ⟨g, 0, none⟩) ∧ Blk w g 24 [.int .u64 0, .string ⟨#[]⟩]
theorem Box1.ext {B : Nat} {v : Value} {w w' : World} (h : Box1 B v w) (e : Ext w w') : Box1 B v w' := by
  obtain ⟨g, h0, h1, h2⟩ := h
  exact ⟨g, h0, h1, h2.ext e⟩
theorem Box1.new {B : Nat} (w : World) (h : B ≤ w.heap.size) : Box1 B (.pointer (some ⟨w.heap.size, 0, none⟩)) (w.alloc (.cells #[.int .u64 0, .string ⟨#[]⟩] 24)) :=
  ⟨_, h, rfl, Blk.new w _ _⟩
end Go.Proofs.YtcfpjgcellahnaaDoor

namespace Go.Proofs.YtcfpjgcellahnaaDoor
open Go.RowKit

set_option maxHeartbeats 1000000 in
theorem at_any (xs : List Nat) (v : Value) (i : Nat) (w : World) (h : Sl32 xs v w) (hd : Dig B32 xs) (_hl : xs.length ≤ 1099511627776) (_hi : i ≤ 1099511627776) :
    Calls Tryd.prog 99 #[v, .int .i64 i] w fun e w' => e = .returned (.int .u64 (xs.getD i 0 : Nat)) ∧ w = w' := by
  obtain ⟨A, c, rfl, _, hh⟩ := h
  have hx := hd.getD (by unfold B32; omega) i
  by_cases hix : i < xs.length
  · obtain ⟨g, off, rfl, hg, hcell⟩ := hh (fun e => by rw [e] at hix; simp at hix)
    have hc := hcell i hix
    clear hcell hh hd
    generalize xs.getD i 0 = x at *
    have hx' : (x : Int) ≤ 4294967295 := by unfold B32 at hx; omega
    go_enter Tryd.func99, Tryd.ntmps99
    go_wp2
    go_ret
    exact ⟨rfl, rfl⟩
  · have h0 : xs.getD i 0 = 0 := getD_ge _ _ (by omega)
    rw [h0]
    clear hh hd hx h0
    go_enter Tryd.func99, Tryd.ntmps99
    go_wp2
    go_ret
    exact ⟨rfl, rfl⟩

set_option maxHeartbeats 2000000 in
theorem refAdd_any (a b : Nat) (v1 v2 : Value) (w : World) (h1 : R32 a v1 w) (h2 : R32 b v2 w) (ha : bl a ≤ 549755813888) (hb : bl b ≤ 549755813888) :
    Calls Tryd.prog 41 #[v1, v2] w (RetS (R32 (a + b)) w) := by
  have hla := limbs32_len a 17179869184 (by omega)
  have hlb := limbs32_len b 17179869184 (by omega)
  have hda := limbs_dig B32_two a
  have hdb := limbs_dig B32_two b
  have HA : Hid (∀ (i : Nat) W, i ≤ 17179869184 → Ext w W → Calls Tryd.prog 99 #[v1, .int .i64 i] W fun e w' => e = .returned (.int .u64 ((limbs B32 a).getD i 0 : Nat)) ∧ W = w') := Lib.hid (fun i W hi hx => at_any (limbs B32 a) v1 i W (Sl32.ext h1 hx) hda (by omega) (by omega))
  have HB : Hid (∀ (i : Nat) W, i ≤ 17179869184 → Ext w W → Calls Tryd.prog 99 #[v2, .int .i64 i] W fun e w' => e = .returned (.int .u64 ((limbs B32 b).getD i 0 : Nat)) ∧ W = w') := Lib.hid (fun i W hi hx => at_any (limbs B32 b) v2 i W (Sl32.ext h2 hx) hdb (by omega) (by omega))
  have va := val_limbs B32_two a
  have vb := val_limbs B32_two b
  have HV : Hid (val B32 (limbs B32 a) + val B32 (limbs B32 b) = a + b) := Lib.hid (by rw [va, vb])
  obtain ⟨A, c, rfl, _, _⟩ := h1
  obtain ⟨A', c', rfl, _, _⟩ := h2
  clear ha hb va vb
  generalize limbs B32 a = xs at *
  generalize limbs B32 b = ys at *
  generalize a + b = n at *
  have HDA := Lib.hid hda
  have HDB := Lib.hid hdb
  clear hda hdb
  have hmx : max (xs.length : Int) (ys.length : Int) = ((max xs.length ys.length : Nat) : Int) := by omega
  have hM : max xs.length ys.length ≤ 17179869184 := by omega
  have HF : Hid (∀ L W cc, RaInv xs ys L.length cc L → Blk W w.heap.size 107 (V32 L) → Calls Tryd.prog 80 #[.slice (some ⟨w.heap.size, 0, none⟩) (max xs.length ys.length + 1) (max xs.length ys.length + 1)] W fun e w' => ∃ v', e = .returned v' ∧ R32 n v' W ∧ w' = W) := Lib.hid (fun L W cc hL hb => by
    have h := trim32_any (Sl32.of_blk hb) (by rw [hL.len]; omega) hL.dig
    rw [hL.fin HDA.out HDB.out, HV.out, hL.len] at h
    exact h)
  have HST := Lib.hid (RaInv.start xs ys)
  have HLE : Hid (∀ cc L i, RaInv xs ys i cc L → L.length = max xs.length ys.length + 1) := Lib.hid (fun cc L i h => h.len)
  generalize hMe : max xs.length ys.length = M at *
  clear hMe
  generalize xs.length = p at *
  generalize ys.length = q at *
  clear hla hlb
  have hMi : (M : Int) ≤ 17179869184 := by omega
  have HM := Lib.hid hM
  clear hM
  go_enter Tryd.func41, Tryd.ntmps41
  go_wp2_with (at_make; refine wpList_mk _ rfl (.tmp 15) (.tmp 15) 32 107 rfl (.int .u32 0) 4 Tryd.underlying32 info32 rfl .i64 .i64 _ _ (M + 1) rfl rfl ?c1 ?c1' ?c2 ?c3 ?_)
  case c1 => omega
  case c1' => omega
  case c2 => have := HM.out; omega
  case c3 => have := HM.out; omega
  intro w1 hx1 hs1 hb1
  rw [V32_rep] at hb1
  have HX := Lib.hid hx1
  have HB1 := Lib.hid hb1
  clear hx1 hb1 hs1 hmx
  go_wp2
  go_loopw [7, 8] (fun c i wr => ∃ (k cc : Nat) (L : List Nat), k ≤ M + 1 ∧ i = .int .i64 k ∧ c = .int .u64 cc ∧ cc ≤ 1 ∧ Hid (RaInv xs ys k cc L) ∧ Hid (Blk wr w.heap.size 107 (V32 L)) ∧ Hid (Ext w wr)) (fun _ i _ => M + 1 - (intOf i).toNat)
  case atStart => exact ⟨0, 0, _, Nat.zero_le _, rfl, rfl, by omega, HST, HB1, HX⟩
  case round =>
    obtain ⟨k, cc, L, hk, rfl, rfl, hcc, hL, hbk, hex⟩ := hrel
    have hlen := HLE.out cc L k hL.out
    have hk' : k ≤ 17179869185 := by have := HM.out; omega
    by_cases hkM : k ≤ M
    · have hN := hL.out.step HDA.out HDB.out (by omega)
      have hxd := HDA.out.getD (by unfold B32; omega) k
      have hyd := HDB.out.getD (by unfold B32; omega) k
      have HA1 := Lib.hid (fun W h => HA.out k W (by have := HM.out; omega) h)
      have HB2 := Lib.hid (fun W h => HB.out k W (by have := HM.out; omega) h)
      have hco : wr.cell? ⟨w.heap.size, k, none⟩ = some (.int .u32 (L.getD k 0 : Nat)) := by rw [hbk.out.cell, getD_V32 _ _ (by omega)]
      have hfo : wr.frozen? ⟨w.heap.size, k, none⟩ = false := hbk.out.frozen _
      generalize xs.getD k 0 = x at *
      generalize ys.getD k 0 = y at *
      generalize L.getD k 0 = o at *
      have HN := Lib.hid hN
      have hxi : (x : Int) ≤ 4294967295 := by unfold B32 at hxd; omega
      have hyi : (y : Int) ≤ 4294967295 := by unfold B32 at hyd; omega
      have hci : (cc : Int) ≤ 1 := by omega
      have H1 : Hid (((cc + x + y) / B32 : Nat) = ((cc : Int) + x + y) / 4294967296) := Lib.hid (by unfold B32; omega)
      have H2 : Hid (((cc + x + y) % B32 : Nat) = ((cc : Int) + x + y) % 4294967296) := Lib.hid (by unfold B32; omega)
      have hc1 : (cc + x + y) / B32 ≤ 1 := hN.c1
      clear hN hxd hyd hcc hlen hL hk'
      go_wp2_with fail
      refine (HA1.out _ hex.out).mono ?_
      rintro e w2 ⟨rfl, rfl⟩
      go_wp2_with fail
      refine (HB2.out _ hex.out).mono ?_
      rintro e w2 ⟨rfl, rfl⟩
      go_wp2
      go_roundw
      case rel =>
        refine ⟨k + 1, (cc + x + y) / B32, L.set k ((cc + x + y) % B32), by omega, by go_num, ?_, hc1, HN, Lib.hid ?_, Lib.hid (Below.setCell hex.out (p := ⟨w.heap.size, k, none⟩) (Nat.le_refl _) _)⟩
        · rw [H1.out]
        · rw [← V32_set, H2.out]; exact hbk.out.set _ _
      case measure => simp [intOf]; omega
    · obtain rfl : k = M + 1 := by omega
      rw [← hlen] at hL
      go_wp2_with fail
      refine (HF.out L _ cc hL.out hbk.out).mono ?_
      rintro e w3 ⟨v, rfl, hr, rfl⟩
      have HR := Lib.hid hr
      clear hr
      go_wp2
      go_ret
      exact ⟨_, rfl, HR.out, hex.out⟩

set_option maxHeartbeats 2000000 in
theorem refSub_any (a b : Nat) (v1 v2 : Value) (w : World) (h1 : R32 a v1 w) (h2 : R32 b v2 w) (ha : bl a ≤ 549755813888) (hab : b ≤ a) :
    Calls Tryd.prog 44 #[v1, v2] w (RetS (R32 (a - b)) w) := by
  have hb : bl b ≤ bl a := bl_mono hab
  have hla := limbs32_len a 17179869184 (by omega)
  have hlb := limbs32_len b 17179869184 (by omega)
  have hda := limbs_dig B32_two a
  have hdb := limbs_dig B32_two b
  have HB : Hid (∀ (i : Nat) W, i ≤ 17179869184 → Ext w W → Calls Tryd.prog 99 #[v2, .int .i64 i] W fun e w' => e = .returned (.int .u64 ((limbs B32 b).getD i 0 : Nat)) ∧ W = w') := Lib.hid (fun i W hi hx => at_any (limbs B32 b) v2 i W (Sl32.ext h2 hx) hdb (by omega) (by omega))
  have va := val_limbs B32_two a
  have vb := val_limbs B32_two b
  have hll : (limbs B32 b).length ≤ (limbs B32 a).length := by
    rw [limbs_length_le_iff B32_two]
    exact Nat.lt_of_le_of_lt hab ((limbs_length_le_iff B32_two a _).1 (Nat.le_refl _))
  have HV : Hid (val B32 (limbs B32 b) ≤ val B32 (limbs B32 a) ∧ val B32 (limbs B32 a) - val B32 (limbs B32 b) = a - b) := Lib.hid (by rw [va, vb]; exact ⟨hab, rfl⟩)
  obtain ⟨A, c, rfl, _, hh⟩ := h1
  obtain ⟨A', c', rfl, _, _⟩ := h2
  clear ha hb va vb hab
  generalize limbs B32 a = xs at *
  generalize limbs B32 b = ys at *
  generalize a - b = n at *
  have HDA := Lib.hid hda
  have HDB := Lib.hid hdb
  have HLL := Lib.hid hll
  have HH := Lib.hid hh
  clear hda hdb hlb hll hh
  have HF : Hid (∀ L W cc, RsInv xs ys xs.length cc L → Blk W w.heap.size 107 (V32 L) → Calls Tryd.prog 80 #[.slice (some ⟨w.heap.size, 0, none⟩) xs.length xs.length] W fun e w' => ∃ v', e = .returned v' ∧ R32 n v' W ∧ w' = W) := Lib.hid (fun L W cc hL hb => by
    have h := trim32_any (Sl32.of_blk hb) (by rw [hL.len]; omega) hL.dig
    rw [hL.fin HV.out.1 HLL.out, HV.out.2, hL.len] at h
    exact h)
  go_enter Tryd.func44, Tryd.ntmps44
  go_wp2_with (at_make; refine wpList_mk _ rfl (.tmp 10) (.tmp 10) 32 107 rfl (.int .u32 0) 4 Tryd.underlying32 info32 rfl .i64 .i64 _ _ xs.length rfl rfl ?c1 ?c1' ?c2 ?c3 ?_)
  case c1 => omega
  case c1' => omega
  case c2 => omega
  case c3 => omega
  intro w1 hx1 hs1 hb1
  rw [V32_rep] at hb1
  have HX := Lib.hid hx1
  have HB1 := Lib.hid hb1
  clear hx1 hb1 hs1
  go_wp2
  go_loopw [6, 7] (fun c i wr => ∃ (k cc : Nat) (L : List Nat), k ≤ xs.length ∧ i = .int .i64 k ∧ c = .int .u64 cc ∧ cc ≤ 1 ∧ Hid (RsInv xs ys k cc L) ∧ Hid (Blk wr w.heap.size 107 (V32 L)) ∧ Hid (Ext w wr)) (fun _ i _ => xs.length - (intOf i).toNat)
  case atStart => exact ⟨0, 0, _, Nat.zero_le _, rfl, rfl, by omega, Lib.hid (RsInv.start xs ys), HB1, HX⟩
  case round =>
    obtain ⟨k, cc, L, hk, rfl, rfl, hcc, hL, hbk, hex⟩ := hrel
    have hlen := hL.out.len
    by_cases hkM : k < xs.length
    · obtain ⟨g, off, rfl, hg, hcell⟩ := HH.out (fun e => by rw [e] at hkM; simp at hkM)
      have hcx : wr.cell? ⟨g, off + k, none⟩ = some (.int .u32 (xs.getD k 0 : Nat)) := hex.out.keep (hcell k hkM)
      have hN := hL.out.step (d := (xs.getD k 0 + 18446744073709551616 - ys.getD k 0 - cc) % 18446744073709551616) HDA.out HDB.out hkM rfl
      have hxd := HDA.out.getD (by unfold B32; omega) k
      have hyd := HDB.out.getD (by unfold B32; omega) k
      have HB2 := Lib.hid (fun W h => HB.out k W (by omega) h)
      have hco : wr.cell? ⟨w.heap.size, k, none⟩ = some (.int .u32 (L.getD k 0 : Nat)) := by rw [hbk.out.cell, getD_V32 _ _ (by omega)]
      have hfo : wr.frozen? ⟨w.heap.size, k, none⟩ = false := hbk.out.frozen _
      generalize xs.getD k 0 = x at *
      generalize ys.getD k 0 = y at *
      generalize L.getD k 0 = o at *
      have HN := Lib.hid hN
      have hxi : (x : Int) ≤ 4294967295 := by unfold B32 at hxd; omega
      have hyi : (y : Int) ≤ 4294967295 := by unfold B32 at hyd; omega
      have hci : (cc : Int) ≤ 1 := by omega
      have hc1 := hN.c1
      have hw3 : IntKind.u64.wrap (IntKind.u64.wrap ((x : Int) - (y : Int)) - (cc : Int)) = (((x + 18446744073709551616 - y - cc) % 18446744073709551616 : Nat) : Int) := by
        rw [IntKind.wrap_u64, IntKind.wrap_u64]
        unfold B32 at hxd hyd
        omega
      have hdlt : (x + 18446744073709551616 - y - cc) % 18446744073709551616 < 18446744073709551616 := Nat.mod_lt _ (by omega)
      generalize (x + 18446744073709551616 - y - cc) % 18446744073709551616 = d at *
      have HW3 := Lib.hid hw3
      have hdi : (d : Int) ≤ 18446744073709551615 := by omega
      clear hw3 hdlt
      have hcall : ∀ W, Ext w W → Calls Tryd.prog 99 #[.slice A' ys.length c', .int .i64 k] W fun e w' => e = .returned (.int .u64 y) ∧ w' = W := fun W h => (HB2.out W h).mono fun _ _ ⟨e1, e2⟩ => ⟨e1, e2.symm⟩
      have HCL := Lib.hid hcall
      clear hN hlen hL hcell hcc hcall HB2
      go_wp2
      go_quiet ((go_at_call 99; exact Calls.quiet_of_same (HCL.out _ (hex.out.drewN _))))
      rw [HW3.out]
      rename_i nq
      have hco' : (wr.drewN nq).cell? ⟨w.heap.size, k, none⟩ = some (.int .u32 o) := hco
      have hfo' : (wr.drewN nq).frozen? ⟨w.heap.size, k, none⟩ = false := hfo
      have hbk' := hbk.out.ext ((Ext.refl wr).drewN nq)
      have hex' := hex.out.drewN nq
      have HBK := Lib.hid hbk'
      have HEX := Lib.hid hex'
      clear hbk hex hbk' hex' hco hfo hcx
      generalize wr.drewN nq = W6 at *
      go_wp2
      go_roundw
      case rel =>
        refine ⟨k + 1, d / 9223372036854775808, L.set k (d % 4294967296), by omega, by go_num, by congr 1, hc1, HN, Lib.hid ?_, Lib.hid (Below.setCell HEX.out (p := ⟨w.heap.size, k, none⟩) (Nat.le_refl _) _)⟩
        rw [← V32_set]; exact HBK.out.set _ _
      case measure => simp [intOf]; omega
    · obtain rfl : k = xs.length := by omega
      go_wp2_with fail
      refine (HF.out L _ cc hL.out hbk.out).mono ?_
      rintro e w3 ⟨v, rfl, hr, rfl⟩
      have HR := Lib.hid hr
      clear hr
      go_wp2
      go_ret
      exact ⟨_, rfl, HR.out, hex.out⟩
end Go.Proofs.YtcfpjgcellahnaaDoor

namespace Go.Proofs.YtcfpjgcellahnaaDoor
open Go.RowKit

theorem mac32 {x y o c : Nat} (hx : x < B32) (hy : y < B32) (ho : o < B32) (hc : c < B32) :
    IntKind.u64.wrap ((c : Int) + (o : Int) + IntKind.u64.wrap ((x : Int) * (y : Int))) = ((x * y + o + c : Nat) : Int) ∧ x * y + o + c < 18446744073709551616 ∧ (x * y + o + c) / B32 < B32 := by
  have h1 : x * y ≤ 4294967295 * 4294967295 := Nat.mul_le_mul (by unfold B32 at hx; omega) (by unfold B32 at hy; omega)
  have e : (x : Int) * (y : Int) = ((x * y : Nat) : Int) := by push_cast; rfl
  rw [IntKind.wrap_u64, IntKind.wrap_u64, e]
  generalize x * y = p at *
  unfold B32 at *
  refine ⟨by omega, by omega, by omega⟩

set_option maxHeartbeats 2000000 in
theorem refMul_any (a b : Nat) (v1 v2 : Value) (w : World) (h1 : R32 a v1 w) (h2 : R32 b v2 w) (ha : bl a ≤ 274877906944) (hb : bl b ≤ 274877906944) :
    Calls Tryd.prog 42 #[v1, v2] w (RetS (R32 (a * b)) w) := by
  have hla := limbs32_len a 8589934592 (by omega)
  have hlb := limbs32_len b 8589934592 (by omega)
  have hda := limbs_dig B32_two a
  have hdb := limbs_dig B32_two b
  have va := val_limbs B32_two a
  have vb := val_limbs B32_two b
  have HV : Hid (val B32 (limbs B32 a) * val B32 (limbs B32 b) = a * b) := Lib.hid (by rw [va, vb])
  obtain ⟨A, c, rfl, _, hh⟩ := h1
  obtain ⟨A', c', rfl, _, hh'⟩ := h2
  clear ha hb va vb
  generalize limbs B32 a = xs at *
  generalize limbs B32 b = ys at *
  generalize a * b = n at *
  have HDA := Lib.hid hda
  have HDB := Lib.hid hdb
  have HH := Lib.hid hh
  have HH' := Lib.hid hh'
  clear hda hdb hh hh'
  have HF : Hid (∀ L W, S32.MulOut xs ys xs.length L → Blk W w.heap.size 107 (V32 L) → Calls Tryd.prog 80 #[.slice (some ⟨w.heap.size, 0, none⟩) (xs.length + ys.length) (xs.length + ys.length)] W fun e w' => ∃ v', e = .returned v' ∧ R32 n v' W ∧ w' = W) := Lib.hid (fun L W hL hb => by
    have h := trim32_any (Sl32.of_blk hb) (by rw [hL.len]; omega) hL.dig
    rw [hL.val, List.take_length, HV.out, hL.len] at h
    exact h)
  go_enter Tryd.func42, Tryd.ntmps42
  go_wp2_with (at_make; refine wpList_mk _ rfl (.tmp 13) (.tmp 13) 32 107 rfl (.int .u32 0) 4 Tryd.underlying32 info32 rfl .i64 .i64 _ _ (xs.length + ys.length) rfl rfl ?c1 ?c1' ?c2 ?c3 ?_)
  case c1 => omega
  case c1' => omega
  case c2 => omega
  case c3 => omega
  intro w1 hx1 hs1 hb1
  rw [V32_rep] at hb1
  have HX := Lib.hid hx1
  have HB1 := Lib.hid hb1
  clear hx1 hb1 hs1
  go_wp2
  go_loopw [6] (fun i wr => ∃ (k : Nat) (L : List Nat), k ≤ xs.length ∧ i = .int .i64 k ∧ Hid (S32.MulOut xs ys k L) ∧ Hid (Blk wr w.heap.size 107 (V32 L)) ∧ Hid (Ext w wr)) (fun i _ => xs.length - (intOf i).toNat)
  case atStart => exact ⟨0, _, Nat.zero_le _, rfl, Lib.hid (S32.MulOut.start xs ys), HB1, HX⟩
  case round =>
    obtain ⟨k, L, hk, rfl, hL, hbk, hex⟩ := hrel
    by_cases hkx : k < xs.length
    · obtain ⟨g, off, rfl, hg, hcell⟩ := HH.out (fun e => by rw [e] at hkx; simp at hkx)
      have hcx : w.cell? ⟨g, off + k, none⟩ = some (.int .u32 (xs.getD k 0 : Nat)) := hcell k hkx
      have hxd : xs.getD k 0 < B32 := HDA.out.getD (by unfold B32; omega) k
      have HCX := Lib.hid hcx
      have HIN := Lib.hid hL.out.inner
      have HXE : Hid (∃ x, xs.getD k 0 = x) := Lib.hid ⟨_, rfl⟩
      clear hcell hL hcx HXE
      go_wp2
      go_loopw [7, 8] (fun c i wr => ∃ (j cc : Nat) (L : List Nat), j ≤ ys.length ∧ i = .int .i64 j ∧ c = .int .u64 cc ∧ cc < B32 ∧ Hid (S32.MulIn xs ys k j cc L) ∧ Hid (Blk wr w.heap.size 107 (V32 L)) ∧ Hid (Ext w wr)) (fun _ i _ => ys.length - (intOf i).toNat)
      case atStart => exact ⟨0, 0, L, Nat.zero_le _, rfl, rfl, by unfold B32; omega, HIN, hbk, hex⟩
      case round =>
        clear hbk hex HIN
        obtain ⟨j, cc, L, hj, rfl, rfl, hcc, hL, hbk, hex⟩ := hrel
        have hlen := hL.out.len
        by_cases hjy : j < ys.length
        · obtain ⟨g', off', rfl, hg', hcell'⟩ := HH'.out (fun e => by rw [e] at hjy; simp at hjy)
          have hcy : wr.cell? ⟨g', off' + j, none⟩ = some (.int .u32 (ys.getD j 0 : Nat)) := hex.out.keep (hcell' j hjy)
          have hcx : wr.cell? ⟨g, off + k, none⟩ = some (.int .u32 (xs.getD k 0 : Nat)) := hex.out.keep HCX.out
          have hyd : ys.getD j 0 < B32 := HDB.out.getD (by unfold B32; omega) j
          have hco : wr.cell? ⟨w.heap.size, k + j, none⟩ = some (.int .u32 (L.getD (k + j) 0 : Nat)) := by rw [hbk.out.cell, getD_V32 _ _ (by omega)]
          have hfo : wr.frozen? ⟨w.heap.size, k + j, none⟩ = false := hbk.out.frozen _
          have hod : L.getD (k + j) 0 < B32 := hL.out.dig.getD (by unfold B32; omega) _
          obtain ⟨hw3, ht1, ht2⟩ := mac32 hxd hyd hod hcc
          have hN := hL.out.step (s := (xs.getD k 0 * ys.getD j 0 + L.getD (k + j) 0 + cc) % B32) (q := (xs.getD k 0 * ys.getD j 0 + L.getD (k + j) 0 + cc) / B32) hkx hjy (Nat.mod_lt _ (by unfold B32; omega)) (Nat.mod_add_div _ _)
          generalize hxe : xs.getD k 0 = x at *
          generalize ys.getD j 0 = y at *
          generalize L.getD (k + j) 0 = o at *
          generalize x * y + o + cc = t at *
          have HW3 := Lib.hid hw3
          have HN := Lib.hid hN
          have hti : (t : Int) ≤ 18446744073709551615 := by omega
          have hxi : (x : Int) ≤ 4294967295 := by unfold B32 at hxd; omega
          have hyi : (y : Int) ≤ 4294967295 := by unfold B32 at hyd; omega
          have hoi : (o : Int) ≤ 4294967295 := by unfold B32 at hod; omega
          have hci : (cc : Int) ≤ 4294967295 := by unfold B32 at hcc; omega
          have E1 : Hid (((t / B32 : Nat) : Int) = (t : Int) / 4294967296) := Lib.hid (by unfold B32; omega)
          have E2 : Hid (((t % B32 : Nat) : Int) = (t : Int) % 4294967296) := Lib.hid (by unfold B32; omega)
          have hsum : IntKind.i64.wrap ((k : Int) + (j : Int)) = (k : Int) + (j : Int) := IntWalk.i64_in _ (by omega)
          clear hN hw3 ht1 hcell' hlen hL hcc hod hyd hxe
          go_wp2
          go_quiet (fail)
          rw [HW3.out]
          rename_i nq
          have hco' : (wr.drewN nq).cell? ⟨w.heap.size, k + j, none⟩ = some (.int .u32 o) := hco
          have hfo' : (wr.drewN nq).frozen? ⟨w.heap.size, k + j, none⟩ = false := hfo
          have HBK := Lib.hid (hbk.out.ext ((Ext.refl wr).drewN nq))
          have HEX := Lib.hid (hex.out.drewN nq)
          clear hbk hex hco hfo hcx hcy hsum
          generalize wr.drewN nq = W6 at *
          go_wp2
          go_roundw
          case rel =>
            refine ⟨j + 1, t / B32, L.set (k + j) (t % B32), by omega, by go_num, by rw [E1.out], ht2, HN, Lib.hid ?_, Lib.hid (Below.setCell HEX.out (p := ⟨w.heap.size, k + j, none⟩) (Nat.le_refl _) _)⟩
            rw [← V32_set, E2.out]; exact HBK.out.set _ _
          case measure => simp [intOf]; omega
        · obtain rfl : j = ys.length := by omega
          have hco : wr.cell? ⟨w.heap.size, k + ys.length, none⟩ = some (.int .u32 (L.getD (k + ys.length) 0 : Nat)) := by rw [hbk.out.cell, getD_V32 _ _ (by omega)]
          have hfo : wr.frozen? ⟨w.heap.size, k + ys.length, none⟩ = false := hbk.out.frozen _
          have HCL := Lib.hid (hL.out.close hkx hcc)
          have hci : (cc : Int) ≤ 4294967295 := by unfold B32 at hcc; omega
          generalize L.getD (k + ys.length) 0 = o at *
          clear hL hcc hlen
          go_wp2
          go_roundw
          case rel => exact ⟨k + 1, L.set (k + ys.length) cc, by omega, by go_num, HCL, Lib.hid (by rw [← V32_set]; exact hbk.out.set _ _), Lib.hid (Below.setCell hex.out (p := ⟨w.heap.size, k + ys.length, none⟩) (Nat.le_refl _) _)⟩
          case measure => simp [intOf]; omega
    · obtain rfl : k = xs.length := by omega
      go_wp2_with fail
      refine (HF.out L _ hL.out hbk.out).mono ?_
      rintro e w3 ⟨v, rfl, hr, rfl⟩
      have HR := Lib.hid hr
      clear hr
      go_wp2
      go_ret
      exact ⟨_, rfl, HR.out, hex.out⟩

set_option maxHeartbeats 2000000 in
theorem refCmp_any (a b : Nat) (v1 v2 : Value) (w : World) (h1 : R32 a v1 w) (h2 : R32 b v2 w) (ha : bl a ≤ 549755813888) (hb : bl b ≤ 549755813888) :
    Calls Tryd.prog 43 #[v1, v2] w (Ret (.int .i64 (cmpN a b)) w) := by
  have hla := limbs32_len a 17179869184 (by omega)
  have hlb := limbs32_len b 17179869184 (by omega)
  have hda := limbs_dig B32_two a
  have hdb := limbs_dig B32_two b
  obtain ⟨A, c, rfl, _, hh⟩ := h1
  obtain ⟨A', c', rfl, _, hh'⟩ := h2
  rcases Nat.lt_trichotomy (limbs B32 a).length (limbs B32 b).length with h | h | h
  · rw [cmpN_lt (lt_of_limbs B32_two h)]
    have e1 : (((limbs B32 a).length : Int) != ((limbs B32 b).length : Int)) = true := by simp; omega
    clear hh hh' hda hdb ha hb
    generalize (limbs B32 a).length = p at *
    generalize (limbs B32 b).length = q at *
    go_enter Tryd.func43, Tryd.ntmps43
    go_wp2
    go_ret
    exact ⟨rfl, Ext.refl _⟩
  · have hR := fun j hj hd hne => cmpN_at (a := a) (b := b) (j := j) h hj hd hne
    have hE : limbs B32 a = limbs B32 b → cmpN a b = 0 := fun e => by
      have : a = b := by rw [← val_limbs B32_two a, ← val_limbs B32_two b, e]
      subst this
      unfold cmpN; simp
    have e1 : (((limbs B32 a).length : Int) != ((limbs B32 b).length : Int)) = false := by simp; omega
    clear ha hb
    generalize limbs B32 a = xs at *
    generalize limbs B32 b = ys at *
    generalize cmpN a b = r at *
    have HH := Lib.hid hh
    have HH' := Lib.hid hh'
    have HDA := Lib.hid hda
    have HDB := Lib.hid hdb
    have HRR := Lib.hid hR
    have HEE := Lib.hid hE
    have HL := Lib.hid h
    clear hh hh' hda hdb hR hE h
    go_enter Tryd.func43, Tryd.ntmps43
    go_wp2
    go_loopw [5] (fun i wr => ∃ j : Nat, j ≤ xs.length ∧ i = .int .i64 ((j : Int) - 1) ∧ Hid (xs.drop j = ys.drop j) ∧ Hid (Ext w wr)) (fun i _ => (intOf i + 1).toNat)
    case atStart => exact ⟨xs.length, Nat.le_refl _, rfl, Lib.hid (by rw [List.drop_length, HL.out, List.drop_length]), Lib.hid (Ext.refl w)⟩
    case round =>
      obtain ⟨j, hj, rfl, hd, hex⟩ := hrel
      by_cases hj0 : j = 0
      · subst hj0
        have HE0 := Lib.hid (HEE.out (by simpa using hd.out))
        go_wp2
        go_ret
        exact ⟨ret_int HE0.out.symm, hex.out⟩
      · obtain ⟨j, rfl⟩ : ∃ k, j = k + 1 := ⟨j - 1, by omega⟩
        rw [show ((j + 1 : Nat) : Int) - 1 = (j : Int) from by omega]
        have hjx : j < xs.length := by omega
        have hjy : j < ys.length := by have := HL.out; omega
        obtain ⟨g, off, rfl, hg, hcell⟩ := HH.out (fun e => by rw [e] at hjx; simp at hjx)
        obtain ⟨g', off', rfl, hg', hcell'⟩ := HH'.out (fun e => by rw [e] at hjy; simp at hjy)
        have hcx := hex.out.keep (hcell j hjx)
        have hcy := hex.out.keep (hcell' j hjy)
        have hxd : xs.getD j 0 < B32 := HDA.out.getD (by unfold B32; omega) j
        have hyd : ys.getD j 0 < B32 := HDB.out.getD (by unfold B32; omega) j
        have hdd : xs.getD j 0 = ys.getD j 0 → xs.drop j = ys.drop j := fun e => by
          rw [List.drop_eq_getElem_cons hjx, List.drop_eq_getElem_cons hjy, hd.out, ← getD_lt _ _ hjx, ← getD_lt _ _ hjy, e]
        have hR := HRR.out j hjx hd.out
        have HDD := Lib.hid hdd
        have HR2 := Lib.hid hR
        clear hcell hcell' hdd hR hd
        generalize xs.getD j 0 = x at *
        generalize ys.getD j 0 = y at *
        rcases Nat.lt_trichotomy x y with hlt | he | hlt
        · have hr : r = -1 := by rw [← HR2.out (by omega), cmpN_lt hlt]
          have hb1 : ((x : Int) != (y : Int)) = true := by simp; omega
          have hb2 : (x : Int) < (y : Int) := by omega
          have HR3 := Lib.hid hr
          clear hr
          go_wp2
          go_quiet (fail)
          rename_i nq
          have hcx' : (wr.drewN nq).cell? ⟨g, off + j, none⟩ = some (.int .u32 x) := hcx
          have hcy' : (wr.drewN nq).cell? ⟨g', off' + j, none⟩ = some (.int .u32 y) := hcy
          have HEX := Lib.hid (hex.out.drewN nq)
          clear hex hcx hcy
          generalize wr.drewN nq = W6 at *
          go_wp2
          go_quiet (fail)
          go_wp2
          go_ret
          exact ⟨ret_int HR3.out.symm, HEX.out.drewN _⟩
        · subst he
          have hb1 : ((x : Int) != (x : Int)) = false := by simp
          go_wp2
          go_quiet (fail)
          go_wp2
          go_roundw
          case rel => exact ⟨j, by omega, rfl, Lib.hid (HDD.out (by simp)), Lib.hid (hex.out.drewN _)⟩
          case measure => simp [intOf]
        · have hr : r = 1 := by rw [← HR2.out (by omega), cmpN_gt hlt]
          have hb1 : ((x : Int) != (y : Int)) = true := by simp; omega
          have hb2 : decide (x < y) = false := decide_eq_false (by omega)
          have HR3 := Lib.hid hr
          clear hr
          go_wp2
          go_quiet (fail)
          rename_i nq
          have hcx' : (wr.drewN nq).cell? ⟨g, off + j, none⟩ = some (.int .u32 x) := hcx
          have hcy' : (wr.drewN nq).cell? ⟨g', off' + j, none⟩ = some (.int .u32 y) := hcy
          have HEX := Lib.hid (hex.out.drewN nq)
          clear hex hcx hcy
          generalize wr.drewN nq = W6 at *
          go_wp2
          go_quiet (fail)
          go_wp2
          go_ret
          exact ⟨ret_int HR3.out.symm, HEX.out.drewN _⟩
  · rw [cmpN_gt (lt_of_limbs B32_two h)]
    have e1 : (((limbs B32 a).length : Int) != ((limbs B32 b).length : Int)) = true := by simp; omega
    have e2 : decide ((limbs B32 a).length < (limbs B32 b).length) = false := decide_eq_false (by omega)
    clear hh hh' hda hdb ha hb
    generalize (limbs B32 a).length = p at *
    generalize (limbs B32 b).length = q at *
    go_enter Tryd.func43, Tryd.ntmps43
    go_wp2
    go_ret
    exact ⟨rfl, Ext.refl _⟩
end Go.Proofs.YtcfpjgcellahnaaDoor

namespace Go.Proofs.YtcfpjgcellahnaaDoor
open Go.RowKit

theorem boxes2' (w W : World) (la sa lb sb : Value) (h : (w.alloc (.cells #[la, sa] 24)).alloc (.cells #[lb, sb] 24) = W) :
    Blk W w.heap.size 24 [la, sa] ∧ Blk W (w.heap.size + 1) 24 [lb, sb] ∧ Ext w W := by
  subst h
  refine ⟨(Blk.new w _ [la, sa]).alloc _, ?_, ((Ext.refl w).alloc _).alloc _⟩
  have h := Blk.new (w.alloc (.cells #[la, sa] 24)) 24 [lb, sb]
  rw [World.size_alloc] at h
  exact h
theorem cis {k n : Nat} (h : Sm k n) {vr : Value} (W : World) (hR : R32 n vr W) (hk : k ≤ 549755813888 := by decide) :
    Calls Tryd.prog 22 #[.agg #[.int .u64 (lo (n) : Nat), .string (hi (n))], vr] W (Ret (.bool true) W) := is_true n (by unfold Sm at h; omega) vr W hR
theorem cradd {j k a b : Nat} (ha : Sm j a) (hb : Sm k b) {v1 v2 : Value} (W : World) (h1 : R32 a v1 W) (h2 : R32 b v2 W) (h : max j k ≤ 549755813888 := by decide) :
    Calls Tryd.prog 41 #[v1, v2] W (RetS (R32 (a + b)) W) := refAdd_any a b v1 v2 W h1 h2 (by unfold Sm at ha; omega) (by unfold Sm at hb; omega)
theorem crsub {j a b : Nat} (ha : Sm j a) (hab : b ≤ a) {v1 v2 : Value} (W : World) (h1 : R32 a v1 W) (h2 : R32 b v2 W) (h : j ≤ 549755813888 := by decide) :
    Calls Tryd.prog 44 #[v1, v2] W (RetS (R32 (a - b)) W) := refSub_any a b v1 v2 W h1 h2 (by unfold Sm at ha; omega) hab
theorem crmul {j k a b : Nat} (ha : Sm j a) (hb : Sm k b) {v1 v2 : Value} (W : World) (h1 : R32 a v1 W) (h2 : R32 b v2 W) (h : max j k ≤ 274877906944 := by decide) :
    Calls Tryd.prog 42 #[v1, v2] W (RetS (R32 (a * b)) W) := refMul_any a b v1 v2 W h1 h2 (by unfold Sm at ha; omega) (by unfold Sm at hb; omega)
theorem crcmp {j k a b : Nat} (ha : Sm j a) (hb : Sm k b) {v1 v2 : Value} (W : World) (h1 : R32 a v1 W) (h2 : R32 b v2 W) (h : max j k ≤ 549755813888 := by decide) :
    Calls Tryd.prog 43 #[v1, v2] W (Ret (.int .i64 (cmpN a b)) W) := refCmp_any a b v1 v2 W h1 h2 (by unfold Sm at ha; omega) (by unfold Sm at hb; omega)
end Go.Proofs.YtcfpjgcellahnaaDoor

namespace Go.Proofs.YtcfpjgcellahnaaDoor
open Go.RowKit

theorem exists_root (a : Nat) : ∃ r, IsRoot a r := by
  induction a with
  | zero => exact ⟨0, by unfold IsRoot; omega⟩
  | succ a ih =>
    obtain ⟨r, h1, h2⟩ := ih
    rcases Nat.lt_or_ge (a + 1) ((r + 1) * (r + 1)) with h | h
    · exact ⟨r, by omega, h⟩
    · refine ⟨r + 1, h, ?_⟩
      have e : (r + 1 + 1) * (r + 1 + 1) = (r + 1) * (r + 1) + 2 * (r + 1) + 1 := by grind
      omega
/-- The root, rounded down. -/
noncomputable def rt (a : Nat) : Nat := Classical.choose (exists_root a)
theorem rt_is (a : Nat) : IsRoot a (rt a) := Classical.choose_spec (exists_root a)
theorem rt_le (a : Nat) : rt a ≤ a := by
  have h := (rt_is a).1
  rcases Nat.eq_zero_or_pos (rt a) with h0 | h0
  · omega
  · exact Nat.le_trans (Nat.le_mul_of_pos_left _ h0) h
theorem rt_sq (x : Nat) : rt (x * x) = x := by
  refine IsRoot.unique (rt_is (x * x)) ⟨Nat.le_refl _, ?_⟩
  exact Nat.mul_lt_mul_of_lt_of_lt (Nat.lt_succ_self _) (Nat.lt_succ_self _)

theorem Sm.rt {k a : Nat} (ha : Sm k a) : Sm k (rt a) := ha.mono (rt_le a)
theorem Sm.shl {k a : Nat} (ha : Sm k a) (z : Nat) : Sm (k + (z + 1)) (a * 2 ^ z) := ha.mul (show Sm (z + 1) (2 ^ z) from bl_le (Nat.pow_lt_pow_right (by omega) (by omega)))
theorem Sm.of64 {n : Nat} (h : n < B64) : Sm 64 n := bl_le h

theorem cdiv {j k a b : Nat} (ha : Sm j a) (hb : Sm k b) (h0 : b ≠ 0) (W : World) (h : max j k ≤ 549755813888 := by decide) :
    Calls Tryd.prog 26 #[.agg #[.int .u64 (lo (a) : Nat), .string (hi (a))], .agg #[.int .u64 (lo (b) : Nat), .string (hi (b))]] W (Ret (.tuple #[.agg #[.int .u64 (lo (a / b) : Nat), .string (hi (a / b))], .agg #[.int .u64 (lo (a % b) : Nat), .string (hi (a % b))], .bool true]) W) := div_any a b (by unfold Sm at ha; omega) (by unfold Sm at hb; omega) h0 W
theorem cdiv_eq {j k a b q r : Nat} (ha : Sm j a) (hb : Sm k b) (h0 : b ≠ 0) (hq : a / b = q) (hr : a % b = r) (W : World) (h : max j k ≤ 549755813888 := by decide) :
    Calls Tryd.prog 26 #[.agg #[.int .u64 (lo (a) : Nat), .string (hi (a))], .agg #[.int .u64 (lo (b) : Nat), .string (hi (b))]] W (Ret (.tuple #[.agg #[.int .u64 (lo (q) : Nat), .string (hi (q))], .agg #[.int .u64 (lo (r) : Nat), .string (hi (r))], .bool true]) W) := by
  subst hq; subst hr
  exact cdiv ha hb h0 W h
theorem croot {k a : Nat} (ha : Sm k a) (W : World) (h : k ≤ 274877906944 := by decide) :
    Calls Tryd.prog 38 #[.agg #[.int .u64 (lo (a) : Nat), .string (hi (a))]] W (Ret (.agg #[.int .u64 (lo (rt a) : Nat), .string (hi (rt a))]) W) := by
  by_cases h0 : a = 0
  · subst h0
    have : Go.Proofs.YtcfpjgcellahnaaDoor.rt 0 = 0 := by have := rt_le 0; omega
    rw [this]
    exact root_zero W
  · have hk : bl a ≤ k := ha
    refine (root_pos a h0 (by omega) (fun x h1 h2 W => div_any a x (by omega) ?_ (by omega) W) W).mono ?_
    · have := bl_le (n := x) (k := bl a + 1) (Nat.lt_of_le_of_lt h2 (Nat.pow_lt_pow_right (by omega) (by omega)))
      omega
    · rintro e w' ⟨v, rfl, ⟨r, rfl, hr⟩, hx⟩
      rw [IsRoot.unique hr (rt_is a)]
      exact ⟨rfl, hx⟩
theorem cshl {k a : Nat} (ha : Sm k a) (z : Nat) (W : World) (h : k ≤ 549755813888 := by decide) (hz : z ≤ 65536 := by decide) :
    Calls Tryd.prog 39 #[.agg #[.int .u64 (lo (a) : Nat), .string (hi (a))], .int .i64 z] W (Ret (.agg #[.int .u64 (lo (a * 2 ^ z) : Nat), .string (hi (a * 2 ^ z))]) W) := shift_up a z (by unfold Sm at ha; omega) hz W
theorem cshr {k a : Nat} (ha : Sm k a) (z : Nat) (W : World) (h : k ≤ 549755813888 := by decide) (hz : z ≤ 65536 := by decide) (h1 : 1 ≤ z := by decide) :
    Calls Tryd.prog 39 #[.agg #[.int .u64 (lo (a) : Nat), .string (hi (a))], .int .i64 (-(z : Int))] W (Ret (.agg #[.int .u64 (lo (a / 2 ^ z) : Nat), .string (hi (a / 2 ^ z))]) W) := shift_down a z (by unfold Sm at ha; omega) h1 hz W
theorem cof (n : Nat) (h : n < B64) (W : World) : Calls Tryd.prog 18 #[.int .u64 n] W (Ret (.agg #[.int .u64 (lo (n) : Nat), .string (hi (n))]) W) := natOf_any n h W
end Go.Proofs.YtcfpjgcellahnaaDoor

namespace Go.Proofs.YtcfpjgcellahnaaDoor

theorem bl_pow (a m : Nat) : bl (a ^ m) ≤ m * bl a + 1 := by
  induction m with
  | zero => rw [Nat.pow_zero]; have : bl 1 ≤ 1 := bl_le (by omega); omega
  | succ m ih =>
    rw [Nat.pow_succ, Nat.add_mul, Nat.one_mul]
    have := bl_mul (a ^ m) a
    omega
theorem bl_pow_le {a m n k : Nat} (hm : m ≤ n) (h : n * bl a + 1 ≤ k) : bl (a ^ m) ≤ k := by
  have h1 := bl_pow a m
  have h2 : m * bl a ≤ n * bl a := Nat.mul_le_mul_right _ hm
  omega
/-- One bit more of the exponent. -/
theorem pow_bit0 (a n j : Nat) (h : n / 2 ^ j % 2 = 0) : a ^ (n / 2 ^ (j + 1)) * a ^ (n / 2 ^ (j + 1)) = a ^ (n / 2 ^ j) := by
  rw [← Nat.pow_add, Nat.pow_succ, ← Nat.div_div_eq_div_mul]
  congr 1; omega
theorem pow_bit1 (a n j : Nat) (h : n / 2 ^ j % 2 = 1) : a ^ (n / 2 ^ (j + 1)) * a ^ (n / 2 ^ (j + 1)) * a = a ^ (n / 2 ^ j) := by
  rw [← Nat.pow_add, ← Nat.pow_succ, Nat.pow_succ 2 j, ← Nat.div_div_eq_div_mul]
  congr 1; omega
theorem and_one (n j : Nat) (hn : n ≤ 65536) : bits .and .i64 ((n : Int) / 2 ^ j) 1 = ((n / 2 ^ j % 2 : Nat) : Int) := by
  have e : (n : Int) / 2 ^ j = ((n / 2 ^ j : Nat) : Int) := by rw [Int.natCast_ediv, Int.natCast_pow]; rfl
  rw [e]
  have hle : n / 2 ^ j ≤ 65536 := Nat.le_trans (Nat.div_le_self _ _) hn
  generalize n / 2 ^ j = m at *
  show IntKind.i64.wrap ((BitVec.ofInt 64 (m : Int) &&& BitVec.ofInt 64 1).toNat : Int) = _
  rw [BitVec.toNat_and, ofInt_u64 m (by omega), show (BitVec.ofInt 64 1).toNat = 1 from rfl, Nat.and_one_is_mod]
  exact IntWalk.i64_in _ (by omega)

/-- The document's power. -/
theorem npow_odd {e m f N : Nat} (h : e * m + f = N) (hm : m % 2 = 1) : (e + e) * (m / 2) + (f + e) = N := by
  have : m = 2 * (m / 2) + 1 := by omega
  rw [this] at h
  generalize m / 2 = k at *
  grind
theorem npow_even {e m f N : Nat} (h : e * m + f = N) (hm : m % 2 = 0) : (e + e) * (m / 2) + f = N := by
  have : m = 2 * (m / 2) := by omega
  rw [this] at h
  generalize m / 2 = k at *
  grind

/-- The document's root, from the bits down. -/
structure RtDn (a i r : Nat) : Prop where
  le : r * r ≤ a
  lt : a < (r + 2 ^ i) * (r + 2 ^ i)
theorem RtDn.start (a : Nat) : RtDn a (bl a / 2 + 1) 0 := by
  refine ⟨by omega, ?_⟩
  rw [Nat.zero_add, ← Nat.pow_add]
  exact Nat.lt_of_lt_of_le (lt_bl a) (Nat.pow_le_pow_right (by omega) (by omega))
theorem RtDn.yes {a i r : Nat} (h : RtDn a (i + 1) r) (hle : (r + 2 ^ i) * (r + 2 ^ i) ≤ a) : RtDn a i (r + 2 ^ i) := by
  refine ⟨hle, ?_⟩
  have := h.lt
  rw [Nat.pow_succ, show r + 2 ^ i * 2 = r + 2 ^ i + 2 ^ i from by omega] at this
  exact this
theorem RtDn.no {a i r : Nat} (h : RtDn a (i + 1) r) (hlt : a < (r + 2 ^ i) * (r + 2 ^ i)) : RtDn a i r := ⟨h.le, hlt⟩
theorem RtDn.fin {a r : Nat} (h : RtDn a 0 r) : rt a = r := IsRoot.unique (rt_is a) ⟨h.le, by have := h.lt; rwa [Nat.pow_zero] at this⟩
theorem RtDn.small {a i r : Nat} (h : RtDn a i r) : bl r ≤ bl a := by
  refine bl_mono ?_
  have := h.le
  rcases Nat.eq_zero_or_pos r with h0 | h0
  · omega
  · exact Nat.le_trans (Nat.le_mul_of_pos_left _ h0) this
end Go.Proofs.YtcfpjgcellahnaaDoor

namespace Go.Proofs.YtcfpjgcellahnaaDoor
open Go.RowKit

theorem Sl32.of_own {base : Nat} {xs : List Nat} {v : Value} {w : World} (h : w.ownsRow base 107 1 v xs.length (V32 xs)) : Sl32 xs v w := by
  obtain ⟨hl, h | ⟨g, cap, cur, rfl, hg, hb, hle, hcap, hsz, htk⟩⟩ := h
  · obtain ⟨rfl, h0⟩ := h
    obtain rfl := List.eq_nil_of_length_eq_zero h0
    exact Sl32.nil w
  · refine ⟨_, cap, rfl, hle, fun _ => ⟨g, 0, rfl, ?_, fun i hi => ?_⟩⟩
    · rcases Nat.lt_or_ge g w.heap.size with h' | h'
      · exact h'
      · rw [Array.getElem?_eq_none h'] at hb; cases hb
    · rw [Nat.zero_add, cell_of_row w g i _ _ (0, 0) hb]
      have e : cur[i]? = (cur.toList.take (xs.length * 1))[i]? := by rw [List.getElem?_take_of_lt (by omega)]; simp
      rw [e, htk, getD_V32 _ _ hi]
theorem V32_snoc (xs : List Nat) (y : Nat) : V32 (xs ++ [y]) = V32 xs ++ [.int .u32 (y : Nat)] := by simp [V32]

set_option maxRecDepth 100000 in
set_option maxHeartbeats 2000000 in
theorem refShl_any (a n : Nat) (v : Value) (w : World) (h : R32 a v w) (ha : bl a ≤ 274877906944) (hn : n ≤ 1000000) :
    Calls Tryd.prog 46 #[v, .int .i64 n] w (RetS (R32 (a * 2 ^ n)) w) := by
  obtain ⟨i0, hi, hz0, hz1, hz2⟩ := info_parts info32
  have hla := limbs32_len a 8589934592 (by omega)
  have hda := limbs_dig B32_two a
  have HA : Hid (∀ (i : Nat) W, i ≤ 8589934593 → Ext w W → Calls Tryd.prog 99 #[v, .int .i64 i] W fun e w' => e = .returned (.int .u64 ((limbs B32 a).getD i 0 : Nat)) ∧ W = w') := Lib.hid (fun i W hi hx => at_any (limbs B32 a) v i W (Sl32.ext h hx) hda (by omega) (by omega))
  have va := val_limbs B32_two a
  have HF : Hid (∀ W u L cc, ShUp (limbs B32 a) (n / 32) (n % 32) ((limbs B32 a).length + 1) cc L → W.ownsRow w.heap.size 107 1 u L.length (V32 L) → Calls Tryd.prog 80 #[u] W fun e w' => ∃ v', e = .returned v' ∧ R32 (a * 2 ^ n) v' W ∧ w' = W) := Lib.hid (fun W u L cc hL hb => by
    have h := trim32_any (Sl32.of_own hb) (by rw [hL.len]; omega) hL.dig
    rw [hL.fin hda (by omega), va, show 32 * (n / 32) + n % 32 = n from by omega] at h
    exact h)
  have hq : (n : Int) / 32 = ((n / 32 : Nat) : Int) := by omega
  have hp : (n : Int) % 32 = ((n % 32 : Nat) : Int) := by omega
  have hpl : n % 32 < 32 := by omega
  have hql : n / 32 ≤ 31250 := by omega
  obtain ⟨A, c, rfl, _, _⟩ := h
  have HDA := Lib.hid hda
  clear ha va hda
  generalize limbs B32 a = xs at *
  generalize a * 2 ^ n = z at *
  have hn0 : (0 : Int) ≤ n := by omega
  have HN := Lib.hid hn
  clear hn
  generalize n / 32 = q at *
  generalize n % 32 = p at *
  have HQL := Lib.hid hql
  clear hql
  have hn1 : (n : Int) ≤ 1000000 := by have := HN.out; omega
  generalize (n : Int) = ni at *
  go_enter Tryd.func46, Tryd.ntmps46
  go_wp2_with (at_make; refine wpList_mk _ rfl (.tmp 14) (.tmp 14) 32 107 rfl (.int .u32 0) 4 Tryd.underlying32 info32 rfl .i64 .i64 _ _ q rfl rfl ?c1 ?c1' ?c2 ?c3 ?_)
  case c1 => omega
  case c1' => omega
  case c2 => have := HQL.out; omega
  case c3 => have := HQL.out; omega
  intro w1 hx1 hs1 hb1
  rw [V32_rep] at hb1
  have hown : w1.ownsRow w.heap.size 107 1 (.slice (some ⟨w.heap.size, 0, none⟩) q q) (List.replicate q 0).length (V32 (List.replicate q 0)) :=
    ⟨by rw [V32_length]; omega, .inr ⟨w.heap.size, q, _, by rw [List.length_replicate], Nat.le_refl _, hb1, by rw [List.length_replicate]; omega, by have := HQL.out; unfold maxLen; omega, by simp [V32], by simp [V32]⟩⟩
  have HX := Lib.hid hx1
  have HO := Lib.hid hown
  clear hx1 hb1 hs1 hown hq
  go_wp2
  go_loopw [5, 6, 7] (fun u c i wr => ∃ (k cc : Nat) (L : List Nat), k ≤ xs.length + 1 ∧ i = .int .i64 k ∧ c = .int .u64 cc ∧ Hid (ShUp xs q p k cc L) ∧ Hid (wr.ownsRow w.heap.size 107 1 u L.length (V32 L)) ∧ Hid (Ext w wr)) (fun _ _ i _ => xs.length + 1 - (intOf i).toNat)
  case atStart => exact ⟨0, 0, _, Nat.zero_le _, rfl, rfl, Lib.hid (ShUp.start xs q p), HO, HX⟩
  case round =>
    rename_i u5 _ _ _
    obtain ⟨k, cc, L, hk, rfl, rfl, hL, hob, hex⟩ := hrel
    have hlen := hL.out.len
    have hk' : k ≤ 8589934593 := by omega
    by_cases hkM : k ≤ xs.length
    · have hN := hL.out.step HDA.out
      have hxd := HDA.out.getD (by unfold B32; omega) k
      have hlt := hL.out.lt
      have HA1 := Lib.hid (fun W h => HA.out k W hk' h)
      have hor := shT_or hlt hxd hpl
      have htl := shT_lt hlt hxd
      generalize xs.getD k 0 = x at *
      generalize shT cc x p = t at *
      have htb : t < 18446744073709551616 := by
        have h2 : (2 : Nat) ^ p ≤ 2 ^ 31 := Nat.pow_le_pow_right (by omega) (by omega)
        have h3 := Nat.mul_le_mul_right B32 h2
        have h4 : (2 : Nat) ^ 31 * B32 = 9223372036854775808 := by unfold B32; decide
        omega
      have hci : (cc : Int) ≤ 2147483647 := by
        have h2 : (2 : Nat) ^ p ≤ 2 ^ 31 := Nat.pow_le_pow_right (by omega) (by omega)
        omega
      have hti : (t : Int) ≤ 18446744073709551615 := by omega
      have HOR := Lib.hid hor
      have HNX := Lib.hid hN
      have hxi : (x : Int) ≤ 4294967295 := by unfold B32 at hxd; omega
      have E1 : Hid (((t / B32 : Nat) : Int) = (t : Int) / 4294967296) := Lib.hid (by unfold B32; omega)
      have E2 : Hid (((t % B32 : Nat) : Int) = (t : Int) % 4294967296) := Lib.hid (by unfold B32; omega)
      have HLN : Hid (L.length ≤ 8589970000) := Lib.hid (by have := HQL.out; omega)
      clear hN hor htl htb hlt hxd hlen hL hk'
      go_wp2_with fail
      refine (HA1.out _ hex.out).mono ?_
      rintro e w2 ⟨rfl, rfl⟩
      have hor := HOR.out
      go_wp2_with (at_builtin; refine wpList_append_own _ rfl _ _ 32 rfl w.heap.size 107 i0 (.int .u32 0) 1 4 Tryd.underlying32 hi hz0 hz1 hz2 rfl (by decide) _ _ _ rfl (hob.out.alloc _) ⟨wr.heap.size, 0, none⟩ 1 1 [.int .u32 ((t : Int) % 4294967296)] rfl rfl ?c1 ?c2 ?c3 ?c4 ?c5 ?_)
      case c1 =>
        intro j u hj
        match j, hj with
        | 0, hj => simp at hj; subst hj; simp [Addr.add]
      case c2 => intro u hu; simp at hu; subst hu; rfl
      case c3 => have := HLN.out; unfold maxLen; omega
      case c4 => have := HLN.out; omega
      case c5 => have := hex.out.size; simp; omega
      intro v' w3 hown' hgrow _
      have hx3 : Ext w w3 := (hex.out.alloc _).grown hgrow (by have := hex.out.size; simp; omega) (fun k hk => (hob.out.lt k hk).1)
      have HO3 := Lib.hid hown'
      have HX3 := Lib.hid hx3
      clear hown' hgrow hx3
      go_wp2
      go_roundw
      case rel =>
        refine ⟨k + 1, t / B32, L ++ [t % B32], by omega, by go_num, by rw [E1.out], HNX, Lib.hid ?_, HX3⟩
        rw [V32_snoc, E2.out, List.length_append]
        exact HO3.out
      case measure => simp [intOf]; omega
    · obtain rfl : k = xs.length + 1 := by omega
      go_wp2_with fail
      refine (HF.out _ _ L cc hL.out hob.out).mono ?_
      rintro e w3 ⟨v, rfl, hr, rfl⟩
      have HR := Lib.hid hr
      clear hr
      go_wp2
      go_ret
      exact ⟨_, rfl, HR.out, hex.out⟩

set_option maxRecDepth 100000 in
set_option maxHeartbeats 2000000 in
theorem refShr_any (a n : Nat) (v : Value) (w : World) (h : R32 a v w) (ha : bl a ≤ 274877906944) (hn1 : 1 ≤ n) (hn : n ≤ 1000000) :
    Calls Tryd.prog 46 #[v, .int .i64 (-(n : Int))] w (RetS (R32 (a / 2 ^ n)) w) := by
  obtain ⟨i0, hi, hz0, hz1, hz2⟩ := info_parts info32
  have hla := limbs32_len a 8589934592 (by omega)
  have hda := limbs_dig B32_two a
  have HA : Hid (∀ (i : Nat) W, i ≤ 8589934593 → Ext w W → Calls Tryd.prog 99 #[v, .int .i64 i] W fun e w' => e = .returned (.int .u64 ((limbs B32 a).getD i 0 : Nat)) ∧ W = w') := Lib.hid (fun i W hi hx => at_any (limbs B32 a) v i W (Sl32.ext h hx) hda (by omega) (by omega))
  have va := val_limbs B32_two a
  have hnn : 32 * (n / 32) + n % 32 = n := by omega
  have HF : Hid (∀ W u k, (limbs B32 a).length ≤ n / 32 + k → n / 32 + k ≤ max (limbs B32 a).length (n / 32) → W.ownsRow w.heap.size 107 1 u (digs (a / 2 ^ n) k).length (V32 (digs (a / 2 ^ n) k)) → Calls Tryd.prog 80 #[u] W fun e w' => ∃ v', e = .returned v' ∧ R32 (a / 2 ^ n) v' W ∧ w' = W) := Lib.hid (fun W u k hk1 hk2 hb => by
    have h := trim32_any (Sl32.of_own hb) (by rw [digs_length]; omega) (digs_dig _ _)
    have e : val B32 (digs (a / 2 ^ n) k) = a / 2 ^ n := by
      rcases Nat.le_total (n / 32) (limbs B32 a).length with hq | hq
      · have := shdown_all hda (q := n / 32) (p := n % 32) hq
        rw [va, hnn, show (limbs B32 a).length - n / 32 = k from by omega] at this
        exact this
      · have := shdown_none hda (q := n / 32) (p := n % 32) hq
        rw [va, hnn] at this
        rw [this, digs_val, Nat.zero_mod]
    rw [e] at h
    exact h)
  have HSD : Hid (∀ k, ((limbs B32 a).getD (n / 32 + k) 0 + B32 * (limbs B32 a).getD (n / 32 + k + 1) 0) / 2 ^ (n % 32) % B32 = a / 2 ^ n / B32 ^ k % B32) := Lib.hid (fun k => by
    have := shdown_limb hda (q := n / 32) (p := n % 32) (i := k) (by omega)
    rw [va, hnn] at this
    exact this)
  have hq : (n : Int) / 32 = ((n / 32 : Nat) : Int) := by omega
  have hp : (n : Int) % 32 = ((n % 32 : Nat) : Int) := by omega
  have hpl : n % 32 < 32 := by omega
  have hql : n / 32 ≤ 31250 := by omega
  obtain ⟨A, c, rfl, _, _⟩ := h
  have HDA := Lib.hid hda
  clear ha va hda hnn
  generalize limbs B32 a = xs at *
  generalize a / 2 ^ n = z at *
  have hn0 : (1 : Int) ≤ n := by omega
  have hn2 : (n : Int) ≤ 1000000 := by omega
  clear hn hn1
  generalize n / 32 = q at *
  generalize n % 32 = p at *
  have HQL := Lib.hid hql
  clear hql
  generalize (n : Int) = ni at *
  have hqi : (q : Int) ≤ 31250 := by have := HQL.out; omega
  have HQ := Lib.hid hq
  clear hq
  go_enter Tryd.func46, Tryd.ntmps46
  go_wp2
  go_loopw [8, 9] (fun u i wr => ∃ (k : Nat), q + k ≤ max xs.length q ∧ i = .int .i64 ((q : Int) + (k : Int)) ∧ Hid (wr.ownsRow w.heap.size 107 1 u (digs z k).length (V32 (digs z k))) ∧ Hid (Ext w wr)) (fun _ i _ => xs.length - (intOf i).toNat)
  case atStart => exact ⟨0, by omega, by rw [HQ.out]; simp, Lib.hid ⟨by simp [digs, V32], .inl ⟨rfl, by simp [digs]⟩⟩, Lib.hid (Ext.refl w)⟩
  case round =>
    rename_i u8 _ _
    obtain ⟨k, hk, rfl, hob, hex⟩ := hrel
    by_cases hkM : q + k < xs.length
    · have hxd := HDA.out.getD (by unfold B32; omega) (q + k)
      have hyd := HDA.out.getD (by unfold B32; omega) (q + k + 1)
      have HA1 : Hid (∀ W, Ext w W → Calls Tryd.prog 99 #[.slice A xs.length c, .int .i64 ((q : Int) + (k : Int))] W fun e w' => e = .returned (.int .u64 (xs.getD (q + k) 0 : Nat)) ∧ W = w') := Lib.hid (fun W h => by have h := HA.out (q + k) W (by omega) h; rw [show ((q + k : Nat) : Int) = (q : Int) + (k : Int) from by omega] at h; exact h)
      have HA2 : Hid (∀ W, Ext w W → Calls Tryd.prog 99 #[.slice A xs.length c, .int .i64 ((q : Int) + (k : Int) + 1)] W fun e w' => e = .returned (.int .u64 (xs.getD (q + k + 1) 0 : Nat)) ∧ W = w') := Lib.hid (fun W h => by have h := HA.out (q + k + 1) W (by omega) h; rw [show ((q + k + 1 : Nat) : Int) = (q : Int) + (k : Int) + 1 from by omega] at h; exact h)
      have hsd := HSD.out k
      have hor := or_hi hxd hyd
      generalize xs.getD (q + k) 0 = x at *
      generalize xs.getD (q + k + 1) 0 = y at *
      have htb : x + B32 * y < 18446744073709551616 := by unfold B32 at *; omega
      generalize x + B32 * y = t at *
      have hti : (t : Int) ≤ 18446744073709551615 := by omega
      have HOR := Lib.hid hor
      have HSD2 := Lib.hid hsd
      have hxi : (x : Int) ≤ 4294967295 := by unfold B32 at hxd; omega
      have hyi : (y : Int) ≤ 4294967295 := by unfold B32 at hyd; omega
      have E2 : Hid (((t / 2 ^ p % B32 : Nat) : Int) = (t : Int) / 2 ^ p % 4294967296) := Lib.hid (by rw [Int.natCast_emod, Int.natCast_ediv, Int.natCast_pow]; rfl)
      have HLN : Hid ((digs z k).length ≤ 8589970000) := Lib.hid (by rw [digs_length]; omega)
      clear hor hsd htb hxd hyd
      go_wp2_with fail
      refine (HA1.out _ hex.out).mono ?_
      rintro e w2 ⟨rfl, rfl⟩
      go_wp2_with fail
      refine (HA2.out _ hex.out).mono ?_
      rintro e w2 ⟨rfl, rfl⟩
      have hor := HOR.out
      go_wp2_with (at_builtin; refine wpList_append_own _ rfl _ _ 32 rfl w.heap.size 107 i0 (.int .u32 0) 1 4 Tryd.underlying32 hi hz0 hz1 hz2 rfl (by decide) _ _ _ rfl (hob.out.alloc _) ⟨wr.heap.size, 0, none⟩ 1 1 [.int .u32 ((t : Int) / 2 ^ p % 4294967296)] rfl rfl ?c1 ?c2 ?c3 ?c4 ?c5 ?_)
      case c1 =>
        intro j u hj
        match j, hj with
        | 0, hj => simp at hj; subst hj; simp [Addr.add]
      case c2 => intro u hu; simp at hu; subst hu; rfl
      case c3 => have := HLN.out; unfold maxLen; omega
      case c4 => have := HLN.out; omega
      case c5 => have := hex.out.size; simp; omega
      intro v' w3 hown' hgrow _
      have hx3 : Ext w w3 := (hex.out.alloc _).grown hgrow (by have := hex.out.size; simp; omega) (fun k hk => (hob.out.lt k hk).1)
      have HO3 := Lib.hid hown'
      have HX3 := Lib.hid hx3
      clear hown' hgrow hx3
      go_wp2
      go_roundw
      case rel =>
        refine ⟨k + 1, by omega, by congr 1, Lib.hid ?_, HX3⟩
        rw [digs_succ, ← HSD2.out, V32_snoc, E2.out, List.length_append]
        exact HO3.out
      case measure => simp [intOf]; omega
    · have hkx : xs.length ≤ q + k := by omega
      go_wp2_with fail
      refine (HF.out _ _ k hkx hk hob.out).mono ?_
      rintro e w3 ⟨v, rfl, hr, rfl⟩
      have HR := Lib.hid hr
      clear hr
      go_wp2
      go_ret
      exact ⟨_, rfl, HR.out, hex.out⟩
end Go.Proofs.YtcfpjgcellahnaaDoor

namespace Go.Proofs.YtcfpjgcellahnaaDoor
open Go.RowKit

set_option maxHeartbeats 2000000 in
theorem pow_no (a : Nat) (z : Int) (hz : z < 0) (w : World) :
    Calls Tryd.prog 45 #[.agg #[.int .u64 (lo (a) : Nat), .string (hi (a))], .int .i64 z] w (Ret (.tuple #[.agg #[.int .u64 (lo (0) : Nat), .string (hi (0))], .bool false]) w) := by
  have z1 : lo 0 = 0 := rfl
  have z2 : hi 0 = ⟨#[]⟩ := hi_small (by unfold B64; omega)
  rw [z1, z2]
  clear z1 z2
  generalize lo a = la at *
  generalize hi a = sa at *
  go_enter Tryd.func45, Tryd.ntmps45
  go_wp2
  refine ret_nat2 (w.heap.size + 1) _ _ _ rfl rfl rfl ?_ rfl ⟨rfl, ?_⟩
  · have h := Blk.new (w.alloc (.cells #[.int .u64 la, .string sa] 24)) 24 [.int .u64 0, .string ⟨#[]⟩]
    rw [World.size_alloc] at h
    first | exact h | exact (h.set 0 _).set 1 _
  · have he : Ext w ((w.alloc (.cells #[.int .u64 la, .string sa] 24)).alloc (.cells #[.int .u64 0, .string ⟨#[]⟩] 24)) := ((Ext.refl w).alloc _).alloc _
    first | exact he | exact (Below.setCell he (p := ⟨w.heap.size + 1, 0, none⟩) (by show _ ≤ _; simp) _).setCell (p := ⟨w.heap.size + 1, 1, none⟩) (by show _ ≤ _; simp) _

set_option maxHeartbeats 2000000 in
theorem pow_any (a n : Nat) (hn : n ≤ 65536) (hs : n * bl a + 1 ≤ 100000000000) (w : World) :
    Calls Tryd.prog 45 #[.agg #[.int .u64 (lo (a) : Nat), .string (hi (a))], .int .i64 n] w (Ret (.tuple #[.agg #[.int .u64 (lo (a ^ n) : Nat), .string (hi (a ^ n))], .bool true]) w) := by
  have HL : Hid (∀ W, Calls Tryd.prog 100 #[.int .u64 n] W fun e w' => e = .returned (.int .i64 (bl n : Nat)) ∧ W = w') := Lib.hid (fun W => by
    have h := Tryd.bits_Len (n : Int) W (by omega) (by omega)
    rw [Int.toNat_natCast, bitLen_eq (by unfold B64; omega)] at h
    refine h.mono ?_
    rintro e w' ⟨rfl, rfl⟩
    exact ⟨rfl, rfl⟩)
  have HO : Hid (∀ W, Calls Tryd.prog 18 #[.int .u64 1] W (Ret (.agg #[.int .u64 (lo (a ^ (n / 2 ^ bl n)) : Nat), .string (hi (a ^ (n / 2 ^ bl n)))]) W)) := Lib.hid (fun W => by
    have h := cof 1 (by unfold B64; omega) W
    rw [Nat.div_eq_of_lt (lt_bl n), Nat.pow_zero]
    exact h)
  have HM : Hid (∀ j W, Calls Tryd.prog 37 #[.agg #[.int .u64 (lo (a ^ (n / 2 ^ j)) : Nat), .string (hi (a ^ (n / 2 ^ j)))], .agg #[.int .u64 (lo (a ^ (n / 2 ^ j)) : Nat), .string (hi (a ^ (n / 2 ^ j)))]] W (Ret (.agg #[.int .u64 (lo (a ^ (n / 2 ^ j) * a ^ (n / 2 ^ j)) : Nat), .string (hi (a ^ (n / 2 ^ j) * a ^ (n / 2 ^ j)))]) W)) := Lib.hid (fun j W => mul_any _ _ (bl_pow_le (Nat.div_le_self _ _) (by omega)) (bl_pow_le (Nat.div_le_self _ _) (by omega)) W)
  have hs2 : 1 ≤ n → bl a ≤ 100000000000 := fun h => by
    have : 1 * bl a ≤ n * bl a := Nat.mul_le_mul_right _ h
    omega
  have HM2 : Hid (∀ j W, 1 ≤ n → Calls Tryd.prog 37 #[.agg #[.int .u64 (lo (a ^ (n / 2 ^ j) * a ^ (n / 2 ^ j)) : Nat), .string (hi (a ^ (n / 2 ^ j) * a ^ (n / 2 ^ j)))], .agg #[.int .u64 (lo (a) : Nat), .string (hi (a))]] W (Ret (.agg #[.int .u64 (lo (a ^ (n / 2 ^ j) * a ^ (n / 2 ^ j) * a) : Nat), .string (hi (a ^ (n / 2 ^ j) * a ^ (n / 2 ^ j) * a))]) W)) := Lib.hid (fun j W h1 => mul_any _ _ (by
      have h2 := bl_mul (a ^ (n / 2 ^ j)) (a ^ (n / 2 ^ j))
      have h3 := bl_pow_le (a := a) (m := n / 2 ^ j) (n := n) (k := 100000000000) (Nat.div_le_self _ _) hs
      omega) (by have := hs2 h1; omega) W)
  have hbn : bl n ≤ 17 := bl_le (by omega)
  have hand := fun j => and_one n j hn
  have HAND := Lib.hid hand
  have P0 := Lib.hid (pow_bit0 a n)
  have P1 := Lib.hid (pow_bit1 a n)
  have hfin : a ^ (n / 2 ^ 0) = a ^ n := by rw [Nat.pow_zero, Nat.div_one]
  have HFIN := Lib.hid hfin
  have HSL : Hid (∀ W, Calls Tryd.prog 100 #[.int .u64 n] W fun e w' => e = .returned (.int .i64 (bl n : Nat)) ∧ W = w') := HL
  have hn0 : (0 : Int) ≤ n := by omega
  have hni : (n : Int) ≤ 65536 := by omega
  have HN := Lib.hid hn
  have HBN := Lib.hid hbn
  have hbi : ((bl n : Nat) : Int) ≤ 17 := by omega
  clear hn hs hs2 hbn hand hfin HL
  go_enter Tryd.func45, Tryd.ntmps45
  go_wp2_with fail
  generalize hW : (w.alloc (.cells #[.int .u64 (lo a : Nat), .string (hi a)] 24)).alloc (.cells #[.int .u64 0, .string ⟨#[]⟩] 24) = W
  obtain ⟨hp, hr, hx⟩ := boxes2 w W _ _ hW
  clear hW
  refine (HO.out _).mono ?_
  rintro e w1 ⟨rfl, hx1⟩
  have HP := Lib.hid (hp.ext hx1)
  have HR := Lib.hid (hr.ext hx1)
  have HX := Lib.hid (hx.trans hx1)
  have hgo : w.heap.size + 1 < w1.heap.size := (hr.ext hx1).lt
  clear hp hr hx hx1
  go_wp2_with fail
  generalize hW2 : w1.alloc (.cells #[.int .u64 (lo (a ^ (n / 2 ^ bl n)) : Nat), .string (hi (a ^ (n / 2 ^ bl n)))] 24) = W2
  have hb2 : Blk W2 w1.heap.size 24 [.int .u64 (lo (a ^ (n / 2 ^ bl n)) : Nat), .string (hi (a ^ (n / 2 ^ bl n)))] := by rw [← hW2]; exact Blk.new w1 _ _
  have hx2 : Ext w1 W2 := by rw [← hW2]; exact (Ext.refl w1).alloc _
  have HB2 := Lib.hid hb2
  have HP2 := Lib.hid (HP.out.ext hx2)
  have HR2 := Lib.hid (HR.out.ext hx2)
  have HX2 := Lib.hid (HX.out.trans hx2)
  clear hW2 hb2 hx2 HP HR HX
  refine (HSL.out _).mono ?_
  rintro e w2 ⟨rfl, rfl⟩
  generalize w1.heap.size = g at *
  go_wp2
  go_loopw [7] (fun i wr => ∃ (j : Nat), j ≤ bl n ∧ i = .int .i64 ((j : Int) - 1) ∧ Hid (Blk wr g 24 [.int .u64 (lo (a ^ (n / 2 ^ j)) : Nat), .string (hi (a ^ (n / 2 ^ j)))]) ∧ Hid (Blk wr w.heap.size 24 [.int .u64 (lo a : Nat), .string (hi a)]) ∧ Hid (Blk wr (w.heap.size + 1) 24 [.int .u64 0, .string ⟨#[]⟩]) ∧ Hid (Ext w wr)) (fun i _ => (intOf i + 1).toNat)
  case atStart => exact ⟨bl n, Nat.le_refl _, rfl, HB2, HP2, HR2, HX2⟩
  case round =>
    obtain ⟨j, hj, rfl, hbo, hba, hbr, hex⟩ := hrel
    by_cases hj0 : j = 0
    · subst hj0
      have ho := hbo.out
      rw [HFIN.out] at ho
      obtain ⟨o0, o1, _, _⟩ := ho.two
      obtain ⟨r0, r1, f0, f1⟩ := hbr.out.two
      go_wp2
      refine ret_nat2 (w.heap.size + 1) _ _ _ rfl rfl rfl ((hbr.out.set 0 _).set 1 _) rfl ⟨rfl, ?_⟩
      exact (Below.setCell hex.out (p := ⟨w.heap.size + 1, 0, none⟩) (by show _ ≤ _; simp) _).setCell (p := ⟨w.heap.size + 1, 1, none⟩) (by show _ ≤ _; simp) _
    · obtain ⟨j, rfl⟩ : ∃ k, j = k + 1 := ⟨j - 1, by omega⟩
      rw [show ((j + 1 : Nat) : Int) - 1 = (j : Int) from by omega]
      have hjb : j ≤ 17 := by have := HBN.out; omega
      obtain ⟨o0, o1, fo0, fo1⟩ := hbo.out.two
      have hm1 := HM.out (j + 1)
      have hm2 := HM2.out (j + 1)
      have HM1 := Lib.hid hm1
      have HM3 := Lib.hid hm2
      have hgne : w.heap.size ≠ g ∧ w.heap.size + 1 ≠ g := ⟨by omega, by omega⟩
      have HGNE := Lib.hid hgne
      clear hm1 hm2 hgne
      by_cases hbit : n / 2 ^ j % 2 = 0
      · have hand : bits .and .i64 ((n : Int) / 2 ^ j) 1 = 0 := by rw [HAND.out j, hbit]; rfl
        have HP := Lib.hid (P0.out j hbit)
        clear hbit
        go_wp2_with fail
        refine (HM1.out _).mono ?_
        rintro e w3 ⟨rfl, hx3⟩
        have hb3 := hbo.out.ext hx3
        clear o0 o1 fo0 fo1
        obtain ⟨o0, o1, fo0, fo1⟩ := hb3.two
        have HB3 := Lib.hid ((hb3.set 0 (.int .u64 (lo (a ^ (n / 2 ^ (j + 1)) * a ^ (n / 2 ^ (j + 1))) : Nat))).set 1 (.string (hi (a ^ (n / 2 ^ (j + 1)) * a ^ (n / 2 ^ (j + 1))))))
        have HA3 := Lib.hid (((hba.out.ext hx3).far (p := ⟨g, 0, none⟩) HGNE.out.1 (.int .u64 (lo (a ^ (n / 2 ^ (j + 1)) * a ^ (n / 2 ^ (j + 1))) : Nat))).far (p := ⟨g, 1, none⟩) HGNE.out.1 (.string (hi (a ^ (n / 2 ^ (j + 1)) * a ^ (n / 2 ^ (j + 1))))))
        have HR3 := Lib.hid (((hbr.out.ext hx3).far (p := ⟨g, 0, none⟩) HGNE.out.2 (.int .u64 (lo (a ^ (n / 2 ^ (j + 1)) * a ^ (n / 2 ^ (j + 1))) : Nat))).far (p := ⟨g, 1, none⟩) HGNE.out.2 (.string (hi (a ^ (n / 2 ^ (j + 1)) * a ^ (n / 2 ^ (j + 1))))))
        have HX3 := Lib.hid ((Below.setCell (hex.out.trans hx3) (p := ⟨g, 0, none⟩) (show w.heap.size ≤ g by omega) (.int .u64 (lo (a ^ (n / 2 ^ (j + 1)) * a ^ (n / 2 ^ (j + 1))) : Nat))).setCell (p := ⟨g, 1, none⟩) (show w.heap.size ≤ g by omega) (.string (hi (a ^ (n / 2 ^ (j + 1)) * a ^ (n / 2 ^ (j + 1))))))
        clear hb3 hx3 hbo hba hbr hex
        rw [HP.out] at HB3 HA3 HR3 HX3
        simp only [List.set_cons_zero, List.set_cons_succ] at HB3
        rw [HP.out]
        go_wp2
        go_roundw
        case rel => exact ⟨j, by omega, rfl, HB3, HA3, HR3, HX3⟩
        case measure => simp [intOf]
      · have hbit1 : n / 2 ^ j % 2 = 1 := by omega
        have hand : bits .and .i64 ((n : Int) / 2 ^ j) 1 = 1 := by rw [HAND.out j, hbit1]; rfl
        have HP := Lib.hid (P1.out j hbit1)
        have hn1 : 1 ≤ n := by
          rcases Nat.eq_zero_or_pos n with h | h
          · rw [h, Nat.zero_div] at hbit1; omega
          · exact h
        have HM4 := Lib.hid (fun W => HM3.out W hn1)
        clear hbit hbit1 hn1 HM3
        go_wp2_with fail
        refine (HM1.out _).mono ?_
        rintro e w3 ⟨rfl, hx3⟩
        have hb3 := hbo.out.ext hx3
        clear o0 o1 fo0 fo1
        obtain ⟨o0, o1, fo0, fo1⟩ := hb3.two
        have HB3 := Lib.hid ((hb3.set 0 (.int .u64 (lo (a ^ (n / 2 ^ (j + 1)) * a ^ (n / 2 ^ (j + 1))) : Nat))).set 1 (.string (hi (a ^ (n / 2 ^ (j + 1)) * a ^ (n / 2 ^ (j + 1))))))
        have HA3 := Lib.hid (((hba.out.ext hx3).far (p := ⟨g, 0, none⟩) HGNE.out.1 (.int .u64 (lo (a ^ (n / 2 ^ (j + 1)) * a ^ (n / 2 ^ (j + 1))) : Nat))).far (p := ⟨g, 1, none⟩) HGNE.out.1 (.string (hi (a ^ (n / 2 ^ (j + 1)) * a ^ (n / 2 ^ (j + 1))))))
        have HR3 := Lib.hid (((hbr.out.ext hx3).far (p := ⟨g, 0, none⟩) HGNE.out.2 (.int .u64 (lo (a ^ (n / 2 ^ (j + 1)) * a ^ (n / 2 ^ (j + 1))) : Nat))).far (p := ⟨g, 1, none⟩) HGNE.out.2 (.string (hi (a ^ (n / 2 ^ (j + 1)) * a ^ (n / 2 ^ (j + 1))))))
        have HX3 := Lib.hid ((Below.setCell (hex.out.trans hx3) (p := ⟨g, 0, none⟩) (show w.heap.size ≤ g by omega) (.int .u64 (lo (a ^ (n / 2 ^ (j + 1)) * a ^ (n / 2 ^ (j + 1))) : Nat))).setCell (p := ⟨g, 1, none⟩) (show w.heap.size ≤ g by omega) (.string (hi (a ^ (n / 2 ^ (j + 1)) * a ^ (n / 2 ^ (j + 1))))))
        clear hb3 hx3 hbo hba hbr hex HM1
        simp only [List.set_cons_zero, List.set_cons_succ] at HB3
        generalize a ^ (n / 2 ^ (j + 1)) * a ^ (n / 2 ^ (j + 1)) = sq at *
        obtain ⟨k0, k1, _, _⟩ := HB3.out.two
        obtain ⟨a0, a1, _, _⟩ := HA3.out.two
        go_wp2_with fail
        generalize (w3.setCell ⟨g, 0, none⟩ (.int .u64 (lo sq : Nat))).setCell ⟨g, 1, none⟩ (.string (hi sq)) = W4 at *
        refine (HM4.out _).mono ?_
        rintro e w5 ⟨rfl, hx5⟩
        rw [HP.out]
        have hb5 := HB3.out.ext hx5
        clear o0 o1 fo0 fo1 k0 k1 a0 a1
        obtain ⟨o0, o1, fo0, fo1⟩ := hb5.two
        have HB5 := Lib.hid ((hb5.set 0 (.int .u64 (lo (a ^ (n / 2 ^ j)) : Nat))).set 1 (.string (hi (a ^ (n / 2 ^ j)))))
        have HA5 := Lib.hid (((HA3.out.ext hx5).far (p := ⟨g, 0, none⟩) HGNE.out.1 (.int .u64 (lo (a ^ (n / 2 ^ j)) : Nat))).far (p := ⟨g, 1, none⟩) HGNE.out.1 (.string (hi (a ^ (n / 2 ^ j)))))
        have HR5 := Lib.hid (((HR3.out.ext hx5).far (p := ⟨g, 0, none⟩) HGNE.out.2 (.int .u64 (lo (a ^ (n / 2 ^ j)) : Nat))).far (p := ⟨g, 1, none⟩) HGNE.out.2 (.string (hi (a ^ (n / 2 ^ j)))))
        have HX5 := Lib.hid ((Below.setCell (Ext.trans HX3.out hx5) (p := ⟨g, 0, none⟩) (show w.heap.size ≤ g by omega) (.int .u64 (lo (a ^ (n / 2 ^ j)) : Nat))).setCell (p := ⟨g, 1, none⟩) (show w.heap.size ≤ g by omega) (.string (hi (a ^ (n / 2 ^ j)))))
        clear hb5 hx5 HB3 HA3 HR3 HX3
        simp only [List.set_cons_zero, List.set_cons_succ] at HB5
        go_wp2
        go_roundw
        case rel => exact ⟨j, by omega, rfl, HB5, HA5, HR5, HX5⟩
        case measure => simp [intOf]
end Go.Proofs.YtcfpjgcellahnaaDoor

namespace Go.Proofs.YtcfpjgcellahnaaDoor
open Go.RowKit

set_option maxHeartbeats 2000000 in
theorem refPow_any (a n : Nat) (v : Value) (w : World) (h : R32 a v w) (hn : n ≤ 65536) (hs : n * bl a + 1 ≤ 100000000000) :
    Calls Tryd.prog 48 #[v, .int .i64 n] w (RetS (R32 (a ^ n)) w) := by
  have HO : Hid (∀ W, Calls Tryd.prog 23 #[.int .u64 1] W (RetS (R32 (a ^ 0)) W)) := Lib.hid (fun W => refOf_any 1 (by unfold B64; omega) W)
  have HM : Hid (∀ e f u v W, e ≤ n → f ≤ n → R32 (a ^ f) u W → R32 (a ^ e) v W → Calls Tryd.prog 42 #[u, v] W (RetS (R32 (a ^ (f + e))) W)) := Lib.hid (fun e f u v W he hf h1 h2 => by
    have h := refMul_any (a ^ f) (a ^ e) u v W h1 h2 (bl_pow_le hf (by omega)) (bl_pow_le he (by omega))
    rw [← Nat.pow_add] at h
    exact h)
  have HV : Hid (R32 (a ^ 1) v w) := Lib.hid (by rw [Nat.pow_one]; exact h)
  have hni : (n : Int) ≤ 65536 := by omega
  clear h hs hn
  go_enter Tryd.func48, Tryd.ntmps48
  go_wp2_with fail
  refine (HO.out _).mono ?_
  rintro e w1 ⟨u1, rfl, hu1, hx1⟩
  have HU1 := Lib.hid hu1
  have HX1 := Lib.hid hx1
  have HV1 := Lib.hid (HV.out.ext hx1)
  clear hu1 hx1
  go_wp2
  go_loopw [0, 1, 5] (fun b m o wr => ∃ (k e f : Nat), m = .int .i64 k ∧ e * k + f = n ∧ 1 ≤ e ∧ Hid (R32 (a ^ e) b wr) ∧ Hid (R32 (a ^ f) o wr) ∧ Hid (Ext w wr)) (fun _ m _ _ => (intOf m).toNat)
  case atStart => exact ⟨n, 1, 0, rfl, by omega, by omega, HV1, HU1, HX1⟩
  case round =>
    obtain ⟨k, e, f, rfl, hk, he1, hb, ho, hex⟩ := hrel
    have HKE := Lib.hid hk
    by_cases hk0 : k = 0
    · subst hk0
      have hf : f = n := by have := HKE.out; omega
      have HR : Hid (R32 (a ^ n) u5 wr) := Lib.hid (by rw [← hf]; exact ho.out)
      clear hf hk
      go_wp2
      go_ret
      exact ⟨_, rfl, HR.out, hex.out⟩
    · have he : e ≤ n := by
        have : e * 1 ≤ e * k := Nat.mul_le_mul_left _ (by omega)
        omega
      have hf : f ≤ n := by omega
      have hki : (k : Int) ≤ 65536 := by
        have : 1 * k ≤ e * k := Nat.mul_le_mul_right _ he1
        omega
      have hkp : (0 : Int) < k := by omega
      have M1 := Lib.hid (fun u v W => HM.out e f u v W he hf)
      have M2 := Lib.hid (fun u v W => HM.out e e u v W he he)
      clear he hf hk
      by_cases hodd : k % 2 = 1
      · have hb1 : ((k : Int) % 2 == 1) = true := by have : (k : Int) % 2 = 1 := by omega
                                                     rw [this]; rfl
        have HNX := Lib.hid (npow_odd HKE.out hodd)
        go_wp2_with fail
        refine (M1.out _ _ _ ho.out hb.out).mono ?_
        rintro e' w2 ⟨u2, rfl, hu2, hx2⟩
        have HU2 := Lib.hid hu2
        have HX2 := Lib.hid hx2
        clear hu2 hx2
        go_wp2_with fail
        refine (M2.out _ _ _ (hb.out.ext HX2.out) (hb.out.ext HX2.out)).mono ?_
        rintro e' w3 ⟨u3, rfl, hu3, hx3⟩
        have HU3 := Lib.hid hu3
        have HU4 := Lib.hid (HU2.out.ext hx3)
        have HX3 := Lib.hid ((hex.out.trans HX2.out).trans hx3)
        clear hu3 hx3
        go_wp2
        go_roundw
        case rel => exact ⟨k / 2, e + e, f + e, by congr 1, HNX.out, by omega, HU3, HU4, HX3⟩
        case measure => simp [intOf]; omega
      · have hb1 : ((k : Int) % 2 == 1) = false := by have : (k : Int) % 2 = 0 := by omega
                                                      rw [this]; rfl
        have HNX := Lib.hid (npow_even HKE.out (show k % 2 = 0 by omega))
        go_wp2_with fail
        refine (M2.out _ _ _ hb.out hb.out).mono ?_
        rintro e' w3 ⟨u3, rfl, hu3, hx3⟩
        have HU3 := Lib.hid hu3
        have HU4 := Lib.hid (ho.out.ext hx3)
        have HX3 := Lib.hid (hex.out.trans hx3)
        clear hu3 hx3
        go_wp2
        go_roundw
        case rel => exact ⟨k / 2, e + e, f, by congr 1, HNX.out, by omega, HU3, HU4, HX3⟩
        case measure => simp [intOf]; omega

set_option maxHeartbeats 2000000 in
theorem refRoot_any (a : Nat) (v : Value) (w : World) (h : R32 a v w) (ha : bl a ≤ 1000000) :
    Calls Tryd.prog 47 #[v] w (RetS (R32 (rt a)) w) := by
  have HB : Hid (∀ W, Ext w W → Calls Tryd.prog 33 #[v] W fun e w' => e = .returned (.int .i64 (bl a : Nat)) ∧ w' = W) := Lib.hid (fun W hx => refBits_any a v W (h.ext hx) (by omega))
  have HO : Hid (∀ W, Calls Tryd.prog 23 #[.int .u64 1] W (RetS (R32 1) W)) := Lib.hid (fun W => refOf_any 1 (by unfold B64; omega) W)
  have HSH : Hid (∀ (k : Nat) u W, k ≤ bl a → R32 1 u W → Calls Tryd.prog 46 #[u, .int .i64 k] W (RetS (R32 (2 ^ k)) W)) := Lib.hid (fun k u W hk h1 => by
    have h := refShl_any 1 k u W h1 (by have : bl 1 ≤ 1 := bl_le (by omega); omega) (by omega)
    rw [Nat.one_mul] at h
    exact h)
  have HAD : Hid (∀ j (k r : Nat) u u' W, k ≤ bl a → RtDn a j r → R32 r u W → R32 (2 ^ k) u' W → Calls Tryd.prog 41 #[u, u'] W (RetS (R32 (r + 2 ^ k)) W)) := Lib.hid (fun j k r u u' W hk hr h1 h2 => refAdd_any r (2 ^ k) u u' W h1 h2 (by have := hr.small; omega) (by have : bl (2 ^ k) ≤ k + 1 := bl_le (Nat.pow_lt_pow_right (by omega) (by omega)); omega))
  have hsz : ∀ j (k r : Nat), k ≤ bl a → RtDn a j r → bl (r + 2 ^ k) ≤ 1000003 := fun j k r hk hr => by
    have h1 := hr.small
    have h2 : bl (2 ^ k) ≤ k + 1 := bl_le (Nat.pow_lt_pow_right (by omega) (by omega))
    have h3 := bl_add r (2 ^ k)
    omega
  have HMU : Hid (∀ j (k r : Nat) u W, k ≤ bl a → RtDn a j r → R32 (r + 2 ^ k) u W → Calls Tryd.prog 42 #[u, u] W (RetS (R32 ((r + 2 ^ k) * (r + 2 ^ k))) W)) := Lib.hid (fun j k r u W hk hr h1 => by
    have h3 := hsz j k r hk hr
    exact refMul_any _ _ u u W h1 h1 (by omega) (by omega))
  have HCM : Hid (∀ j (k r : Nat) u W, Ext w W → k ≤ bl a → RtDn a j r → R32 ((r + 2 ^ k) * (r + 2 ^ k)) u W → Calls Tryd.prog 43 #[u, v] W (Ret (.int .i64 (cmpN ((r + 2 ^ k) * (r + 2 ^ k)) a)) W)) := Lib.hid (fun j k r u W hx hk hr h1 => by
    have h3 := hsz j k r hk hr
    have h4 := bl_mul (r + 2 ^ k) (r + 2 ^ k)
    exact refCmp_any _ a u v W h1 (h.ext hx) (by omega) (by omega))
  have hq : ((bl a : Nat) : Int) / 2 = ((bl a / 2 : Nat) : Int) := by omega
  have hbi : ((bl a : Nat) : Int) ≤ 1000000 := by omega
  have HS := Lib.hid (RtDn.start a)
  have HLE : Hid (∀ k, k ≤ bl a / 2 → k ≤ bl a) := Lib.hid (fun k hk => by omega)
  clear h ha hsz
  generalize bl a = l at *
  generalize l / 2 = l2 at *
  go_enter Tryd.func47, Tryd.ntmps47
  go_wp2_with fail
  refine (HB.out _ (Ext.refl w)).mono ?_
  rintro e w1 ⟨rfl, rfl⟩
  go_wp2
  go_loopw [3, 4] (fun u i wr => ∃ (j r : Nat), j ≤ l2 + 1 ∧ i = .int .i64 ((j : Int) - 1) ∧ Hid (RtDn a j r) ∧ Hid (R32 r u wr) ∧ Hid (Ext w1 wr)) (fun _ i _ => (intOf i + 1).toNat)
  case atStart => exact ⟨l2 + 1, 0, Nat.le_refl _, by congr 1; omega, HS, Lib.hid (R32.nil _), Lib.hid (Ext.refl _)⟩
  case round =>
    obtain ⟨j, r, hj, rfl, hr, hu, hex⟩ := hrel
    by_cases hj0 : j = 0
    · subst hj0
      have HE := Lib.hid hr.out.fin
      go_wp2
      go_ret
      exact ⟨_, rfl, by rw [HE.out]; exact hu.out, hex.out⟩
    · obtain ⟨k, rfl⟩ : ∃ k, j = k + 1 := ⟨j - 1, by omega⟩
      rw [show ((k + 1 : Nat) : Int) - 1 = (k : Int) from by omega]
      have hkl := HLE.out k (by omega)
      have A1 := Lib.hid (fun u W => HSH.out k u W hkl)
      have A2 := Lib.hid (fun u u' W => HAD.out (k + 1) k r u u' W hkl hr.out)
      have A3 := Lib.hid (fun u W => HMU.out (k + 1) k r u W hkl hr.out)
      have A4 := Lib.hid (fun u W hx => HCM.out (k + 1) k r u W hx hkl hr.out)
      obtain ⟨z, hz⟩ : ∃ z, cmpN ((r + 2 ^ k) * (r + 2 ^ k)) a = z := ⟨_, rfl⟩
      rw [hz] at A4
      have hki : (k : Int) ≤ 1000000 := by omega
      have hcase : ((r + 2 ^ k) * (r + 2 ^ k) ≤ a ∧ decide (z ≤ 0) = true) ∨ (a < (r + 2 ^ k) * (r + 2 ^ k) ∧ decide (z ≤ 0) = false) := by
        rcases Nat.lt_or_ge a ((r + 2 ^ k) * (r + 2 ^ k)) with h | h
        · right; refine ⟨h, ?_⟩; rw [← hz, cmpN_gt h]; rfl
        · left; refine ⟨h, ?_⟩
          rw [← hz]; unfold cmpN
          split
          · rfl
          · rw [if_neg (by omega)]; rfl
      clear hkl hz
      rcases hcase with ⟨hc, hd⟩ | ⟨hc, hd⟩
      case' inl => have HNX := Lib.hid (hr.out.yes hc)
      case' inr => have HNX := Lib.hid (hr.out.no hc)
      all_goals
        clear hc
        go_wp2_with fail
        refine (HO.out _).mono ?_
        rintro e w2 ⟨u2, rfl, hu2, hx2⟩
        have HU2 := Lib.hid hu2
        have HX2 := Lib.hid hx2
        clear hu2 hx2
        go_wp2_with fail
        refine (A1.out _ _ HU2.out).mono ?_
        rintro e w3 ⟨u3', rfl, hu3, hx3⟩
        have HU3 := Lib.hid hu3
        have HX3 := Lib.hid (HX2.out.trans hx3)
        clear hu3 hx3
        go_wp2_with fail
        refine (A2.out _ _ _ (hu.out.ext HX3.out) HU3.out).mono ?_
        rintro e w4 ⟨u4, rfl, hu4, hx4⟩
        have HU4 := Lib.hid hu4
        have HX4 := Lib.hid (HX3.out.trans hx4)
        clear hu4 hx4
        go_wp2_with fail
        refine (A3.out _ _ HU4.out).mono ?_
        rintro e w5 ⟨u5, rfl, hu5, hx5⟩
        have HU5 := Lib.hid hu5
        have HX5 := Lib.hid hx5
        clear hu5 hx5
        go_wp2_with fail
        refine (A4.out _ _ ((hex.out.trans HX4.out).trans HX5.out) HU5.out).mono ?_
        rintro e w6 ⟨rfl, hx6⟩
        have HX6 := Lib.hid hx6
        clear hx6
        go_wp2
        go_roundw
        case rel => first
          | exact ⟨k, r + 2 ^ k, by omega, rfl, HNX, Lib.hid ((HU4.out.ext HX5.out).ext HX6.out), Lib.hid (((hex.out.trans HX4.out).trans HX5.out).trans HX6.out)⟩
          | exact ⟨k, r, by omega, rfl, HNX, Lib.hid (((hu.out.ext HX4.out).ext HX5.out).ext HX6.out), Lib.hid (((hex.out.trans HX4.out).trans HX5.out).trans HX6.out)⟩
        case measure => simp [intOf]
end Go.Proofs.YtcfpjgcellahnaaDoor

namespace Go.Proofs.YtcfpjgcellahnaaDoor
open Go.RowKit

theorem tmod_cases (n m : Int) (hm : 0 < m) : (n.tmod m < 0 ∧ n.tmod m + m = n % m ∧ -m < n.tmod m) ∨ (0 ≤ n.tmod m ∧ n.tmod m = n % m) := by
  rcases Int.le_total 0 n with h | h
  · right
    rw [Int.tmod_eq_emod_of_nonneg h]
    exact ⟨Int.emod_nonneg _ (by omega), rfl⟩
  · have h1 := Int.emod_nonneg n (show m ≠ 0 by omega)
    have h2 := Int.emod_lt_of_pos n hm
    have h3 := Int.emod_nonneg (-n) (show m ≠ 0 by omega)
    have h4 := Int.emod_lt_of_pos (-n) hm
    have e : n.tmod m = -((-n) % m) := by
      have := Int.tmod_eq_emod_of_nonneg (a := -n) (b := m) (by omega)
      rw [Int.neg_tmod] at this
      omega
    rw [e]
    have e2 : n % m = (-((-n) % m)) % m := by
      have e3 : -n = m * (-n / m) + (-n) % m := (Int.mul_ediv_add_emod (-n) m).symm
      have e4 : n = -((-n) % m) + m * (-(-n / m)) := by rw [Int.mul_neg]; omega
      conv => lhs; rw [e4]
      rw [Int.add_mul_emod_self_left]
    generalize (-n) % m = r at *
    by_cases hr : r = 0
    · right
      subst hr
      simp at e2 ⊢
      omega
    · left
      refine ⟨by omega, ?_, by omega⟩
      rw [e2]
      have e7 : (-r) % m = (-r + m) % m := by rw [Int.add_emod_right]
      rw [e7, Int.emod_eq_of_lt (by omega) (by omega)]

set_option maxHeartbeats 1000000 in
theorem pick_any (n m : Int) (_h1 : -9223372036854775808 ≤ n) (_h2 : n ≤ 9223372036854775807) (hm : 0 < m) (hm2 : m ≤ 9223372036854775807) (w : World) :
    Calls Tryd.prog 25 #[.int .i64 n, .int .i64 m] w fun e w' => e = .returned (.int .i64 (n % m)) ∧ w = w' := by
  have hm0 : (m == 0) = false := beq_eq_false_iff_ne.2 (by omega)
  have hlt := Int.emod_lt_of_pos n hm
  have hge := Int.emod_nonneg n (show m ≠ 0 by omega)
  have hcase := tmod_cases n m hm
  generalize hr : n % m = r at *
  clear hr
  have hmn : m ≠ 0 := by omega
  rcases hcase with ⟨c1, c2, c3⟩ | ⟨c1, c2⟩
  · have hw : IntKind.i64.wrap (n.tmod m) = n.tmod m := IntWalk.i64_in _ (by omega)
    have hw2 : IntKind.i64.wrap (n.tmod m + m) = r := by rw [c2]; exact IntWalk.i64_in _ (by omega)
    go_enter Tryd.func25, Tryd.ntmps25
    go_wp2
    go_ret
    exact ⟨rfl, rfl⟩
  · have hw : IntKind.i64.wrap (n.tmod m) = n.tmod m := IntWalk.i64_in _ (by omega)
    have c3 : decide (n.tmod m < 0) = false := decide_eq_false (by omega)
    go_enter Tryd.func25, Tryd.ntmps25
    go_wp2
    go_ret
    exact ⟨rfl, rfl⟩
end Go.Proofs.YtcfpjgcellahnaaDoor
