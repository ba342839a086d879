/- Walks: Shift. Walks: the document's trim, NatOf, NatBits. Walks: FromBytes; the document's NatFrom. Walks: the document's at, NatAdd, NatSub, NatMul, NatCmp. Walks: the document's NatMul, NatCmp. Lists of words of one's own, changed in place: trim, zeros, down, compare, subtract of package whole. The table of TrailingZeros64, as a row lists it. Abstract execution: set-up. Walks over whole: compare, subtract. Walks: Bytes. Walks: the document's NatBytes; is. Roots: plain mathematics. Walks: Div of small numbers, Root (given Div). Walks: hand.Few, hand.Nat, law1.two. Walks over whole: words, number. Walks: known. Walks: known of law1. The calls that the laws make, each by the sizes of its arguments. Walks: math/bits.Div64. Walks: divWord. Walks: guessWord. The ends of the long division: plain mathematics. -/
import Derived.Lib.MinMax
import Derived.RegionTactic
import Derived.BigRegion
import Derived.Shelf.Spec.TrailingZeros
import Derived.Laws.Bits64b
import Derived.Lib.LaidTab
import Derived.Stop.LaidErr
import Derived.Laws.AppendOwnNone
import Derived.Test.YtcbimkiiglgeeaaGreatDoorBd4
set_option maxRecDepth 100000
set_option maxHeartbeats 4000000
namespace Go.Proofs.YtcbimkiiglgeeaaGreatDoor
open Go.RowKit
theorem shiftUp_mw {a l n : Nat} {v : Value} (w : World) (h : Mw a l v w) (hl : l <= 8589934593) (hn : n <= 549755813888) :
  Calls Tryz.prog 174 #[v, .int .i64 n] w (RetS (Mw (a * 2 ^ n) (l + n / 64 + 1)) w) := by
 obtain ⟨xs, base, r1, r2, r3, r4⟩ := h
 refine (shiftUp_any v xs n w r4.rd (by omega) hn r2).mono ?_
 rintro e w' ⟨v', rfl, ⟨zs, t1, t2, t3, t4⟩, hx⟩
 exact ⟨v', rfl, ⟨zs, _, by omega, t2, by rw [t3, r3], t4⟩, hx⟩
theorem boxes2 (w W : World) (la sa : Value) (h : (w.alloc (.cells #[la, sa] 48)).alloc (.cells #[.int .u64 0, .string ⟨#[]⟩] 48) = W) :
  Blk W w.heap.size 48 [la, sa] /\ Blk W (w.heap.size + 1) 48 [.int .u64 0, .string ⟨#[]⟩] /\ Ext w W := by
 subst h
 refine ⟨(Blk.new w _ [la, sa]).alloc _, ?_, ((Ext.refl w).alloc _).alloc _⟩
 have h := Blk.new (w.alloc (.cells #[la, sa] 48)) 48 [.int .u64 0, .string ⟨#[]⟩]
 rw [World.size_alloc] at h
 exact h
theorem shift_up (a n : Nat) (ha : bl a <= 549755813888) (hn : n <= 65536) (w : World) :
  Calls Tryz.prog 161 #[.agg #[.int .u64 (lo a : Nat), .string (hi a)], .int .i64 n] w (Ret (.agg #[.int .u64 (lo (a * 2 ^ n) : Nat), .string (hi (a * 2 ^ n))]) w) := by
 have HA := Lib.hid (fun W => words_mw a ha W)
 have HU : Hid (∀ W v, Mw a 8589934593 v W -> Calls Tryz.prog 174 #[v, .int .i64 n] W (RetS (Mw (a * 2 ^ n) 9000000000) W)) := Lib.hid (fun W v h => (shiftUp_mw W h (by omega) (by omega)).mono (fun _ _ ⟨v', he, ⟨zs, b, h1, h2⟩, hx⟩ => ⟨v', he, ⟨zs, b, by omega, h2⟩, hx⟩))
 have HF : Hid (∀ W v, Mw (a * 2 ^ n) 9000000000 v W -> Calls Tryz.prog 134 #[v] W (Ret (.agg #[.int .u64 (lo (a * 2 ^ n) : Nat), .string (hi (a * 2 ^ n))]) W)) := Lib.hid (fun W v h => fromWords_mw W h (by omega))
 generalize a * 2 ^ n = m at *
 generalize lo m = lr at *
 generalize hi m = sr at *
 generalize lo a = la at *
 generalize hi a = sa at *
 have m1 : min (n : Int) 65536 = n := by omega
 have m2 : max (-65536) (n : Int) = n := by omega
 have h0 : (0 : Int) <= n := by omega
 clear hn ha
 generalize (n : Int) = z at *
 go_enter Tryz.func161, Tryz.ntmps161
 go_wp2_with fail
 generalize hW : (w.alloc (.cells #[.int .u64 la, .string sa] 48)).alloc (.cells #[.int .u64 0, .string ⟨#[]⟩] 48) = W
 obtain ⟨_, hr, hx⟩ := boxes2 w W _ _ hW
 have HR := Lib.hid hr
 have HX := Lib.hid hx
 clear hr hx hW
 refine (HA.out _).mono ?_
 rintro e w1 ⟨v1, rfl, hv1, hx1⟩
 have HV1 := Lib.hid hv1
 clear hv1
 go_wp2_with fail
 refine (HU.out _ _ HV1.out).mono ?_
 rintro e w2 ⟨v2, rfl, hv2, hx2⟩
 have HV2 := Lib.hid hv2
 clear hv2
 go_wp2_with fail
 refine (HF.out _ _ HV2.out).mono ?_
 rintro e w3 ⟨rfl, hx3⟩
 have he : Ext w w3 := HX.out.trans (hx1.trans (hx2.trans hx3))
 have hr3 := ((HR.out.ext hx1).ext hx2).ext hx3
 have r0 : w3.cell? ⟨w.heap.size + 1, 0, none⟩ = some (.int .u64 0) := hr3.cell 0
 have r1 : w3.cell? ⟨w.heap.size + 1, 1, none⟩ = some (.string ⟨#[]⟩) := hr3.cell 1
 have f0 : w3.frozen? ⟨w.heap.size + 1, 0, none⟩ = false := hr3.frozen 0
 have f1 : w3.frozen? ⟨w.heap.size + 1, 1, none⟩ = false := hr3.frozen 1
 go_wp2
 refine ret_nat (w.heap.size + 1) _ _ rfl rfl ((hr3.set 0 _).set 1 _) rfl ⟨rfl, ?_⟩
 exact (Below.setCell he (p := ⟨w.heap.size + 1, 0, none⟩) (by show _ <= _; simp) _).setCell (p := ⟨w.heap.size + 1, 1, none⟩) (by show _ <= _; simp) _
theorem trim32_nil (A : Option Addr) (c : Nat) (w : World) : Calls Tryz.prog 121 #[.slice A 0 c] w fun e w' => e = .returned (.slice A 0 c) /\ w' = w := by
 go_enter Tryz.func121, Tryz.ntmps121
 go_wp2
 go_rounds 1
 rcases A with _ | A
 all_goals
  go_ret
  exact ⟨rfl, rfl⟩
theorem trim32_core (g off c : Nat) (xs : List Nat) (w : World) (hl : xs.length <= c) (hc : xs.length <= 1099511627776) (hd : Dig B32 xs) (hcell : ∀ i, i < xs.length -> w.cell? ⟨g, off + i, none⟩ = some (.int .u32 (xs.getD i 0 : Nat))) :
  Calls Tryz.prog 121 #[.slice (some ⟨g, off, none⟩) xs.length c] w fun e w' => e = .returned (.slice (some ⟨g, off, none⟩) (limbs B32 (val B32 xs)).length c) /\ w' = w := by
 have HC := Lib.hid hcell
 clear hcell
 go_enter Tryz.func121, Tryz.ntmps121
 go_wp2
 go_loop [3] (fun v => ∃ m : Nat, m <= xs.length /\ v = .int .i64 m /\ Hid (val B32 (xs.take m) = val B32 xs)) (fun v => (intOf v).toNat)
 case atStart => exact ⟨xs.length, Nat.le_refl _, rfl, Lib.hid (by rw [List.take_length])⟩
 case round =>
  obtain ⟨m, hm, rfl, hv⟩ := hrel
  by_cases hm0 : m = 0
  ·subst hm0
   go_wp2
   go_ret
   refine ⟨?_, rfl⟩
   have := trim_end B32_two hd hm hv.out (by omega)
   rw [this]; simp
  ·obtain ⟨m, rfl⟩ : ∃ k, m = k + 1 := ⟨m - 1, by omega⟩
   have hcm := HC.out m (by omega)
   by_cases hx : xs.getD m 0 = 0
   ·rw [hx] at hcm
    go_wp2
    go_round
    case rel => exact ⟨m, by omega, rfl, Lib.hid (by rw [<- trim_step hx]; exact hv.out)⟩
    case measure => simp [intOf]
   ·have hb : ((xs.getD m 0 : Nat) : Int) ≠ 0 := by omega
    have hb' : (((xs.getD m 0 : Nat) : Int) == 0) = false := beq_eq_false_iff_ne.2 hb
    generalize hy : xs.getD m 0 = y at *
    have HY := Lib.hid hy
    clear hy
    go_wp2
    go_ret
    refine ⟨?_, rfl⟩
    have := trim_end B32_two hd hm hv.out (fun _ => by rw [Nat.add_sub_cancel, HY.out]; exact hx)
    rw [this, List.length_take, Nat.min_eq_left hm]
    rfl
theorem trim32_any {xs : List Nat} {v : Value} {w : World} (h : Sl32 xs v w) (hc : xs.length <= 1099511627776) (hd : Dig B32 xs) :
  Calls Tryz.prog 121 #[v] w fun e w' => ∃ v', e = .returned v' /\ R32 (val B32 xs) v' w /\ w' = w := by
 obtain ⟨A, c, rfl, hl, hh⟩ := h
 by_cases hx : xs = []
 ·subst hx
  refine (trim32_nil A c w).mono ?_
  rintro e w' ⟨rfl, rfl⟩
  refine ⟨_, rfl, ?_, rfl⟩
  unfold R32
  rw [val_nil, limbs_zero]
  exact ⟨A, c, rfl, hl, fun h => absurd rfl h⟩
 ·obtain ⟨g, off, rfl, hg, hcell⟩ := hh hx
  refine (trim32_core g off c xs w hl hc hd hcell).mono ?_
  rintro e w' ⟨rfl, rfl⟩
  have hle := limbs_length_le B32_two hd
  refine ⟨_, rfl, ⟨_, c, rfl, Nat.le_trans hle hl, fun _ => ⟨g, off, rfl, hg, fun i hi => ?_⟩⟩, rfl⟩
  rw [hcell i (by omega), limbs_getD_of B32_two hd hi]
theorem refOf_any (n : Nat) (hn : n < B64) (w : World) :
  Calls Tryz.prog 84 #[.int .u64 n] w (RetS (R32 n) w) := by
 have h1 : n % B32 < B32 := Nat.mod_lt _ (by unfold B32; omega)
 have h2 : n / B32 < B32 := by unfold B32; unfold B64 at hn; omega
 have hd : Dig B32 [n % B32, n / B32] := Dig.cons h1 (Dig.cons h2 (Dig.nil _))
 have hv : val B32 [n % B32, n / B32] = n := by simp only [val_cons, val_nil]; have := Nat.mod_add_div n B32; omega
 have HT : Hid (∀ W g, Blk W g 144 (V32 [n % B32, n / B32]) -> Calls Tryz.prog 121 #[.slice (some ⟨g, 0, none⟩) 2 2] W fun e w' => ∃ v', e = .returned v' /\ R32 n v' W /\ w' = W) := Lib.hid (fun W g hb => by
  have h := trim32_any (Sl32.of_blk hb) (by simp) hd
  rw [hv] at h
  exact h)
 have hm : (n : Int) % 4294967296 = ((n % B32 : Nat) : Int) := by unfold B32; omega
 have hq : (n : Int) / 4294967296 = ((n / B32 : Nat) : Int) := by unfold B32; omega
 have hq2 : ((n / B32 : Nat) : Int) % 4294967296 = ((n / B32 : Nat) : Int) := by unfold B32 at *; omega
 have HH1 := Lib.hid hm
 have HH2 := Lib.hid hq
 have HH3 := Lib.hid hq2
 clear h1 h2 hd hv hn hm hq hq2
 generalize n % B32 = a at *
 generalize n / B32 = b at *
 go_enter Tryz.func84, Tryz.ntmps84
 go_wp2_with fail
 rw [HH2.out, HH3.out, HH1.out]
 refine (HT.out _ _ (Blk.new w 144 (V32 [a, b]))).mono ?_
 rintro e w1 ⟨v, rfl, hr, rfl⟩
 have HR := Lib.hid hr
 clear hr
 go_wp2
 go_ret
 exact ⟨_, rfl, HR.out, (Ext.refl w).alloc _⟩
theorem refBits_any (m : Nat) (v : Value) (w : World) (h : R32 m v w) (hm : bl m <= 1099511627776) :
  Calls Tryz.prog 151 #[v] w fun e w' => e = .returned (.int .i64 (bl m : Nat)) /\ w' = w := by
 obtain ⟨A, c, rfl, hl, hh⟩ := h
 by_cases h0 : m = 0
 ·subst h0
  rw [bl_zero, limbs_zero]
  clear hh
  go_enter Tryz.func151, Tryz.ntmps151
  go_wp2
  go_ret
  exact ⟨rfl, rfl⟩
 ·have hne : limbs B32 m ≠ [] := fun e => h0 ((limbs_eq_nil B32_two).1 e)
  obtain ⟨g, off, rfl, hg, hcell⟩ := hh hne
  have hb := bl_top32 m h0
  have hp := limbs_length_pos B32_two h0
  have ht := (limbs_dig B32_two m).getD (by unfold B32; omega) ((limbs B32 m).length - 1)
  have hc := hcell ((limbs B32 m).length - 1) (by omega)
  clear hcell hh hne
  generalize (limbs B32 m).getD ((limbs B32 m).length - 1) 0 = t at *
  generalize (limbs B32 m).length = l at *
  obtain ⟨l, rfl⟩ : ∃ j, l = j + 1 := ⟨l - 1, by omega⟩
  rw [Nat.add_sub_cancel] at hb hc
  have HB := Lib.hid hb
  have ht' : (t : Int) <= 4294967295 := by unfold B32 at ht; omega
  have hl' : (l : Int) <= 34359738368 := by omega
  have hmi : ((bl m : Nat) : Int) <= 1099511627776 := by omega
  clear hb ht hp hm h0
  have hbt : bl t <= bl m := by have := HB.out; omega
  go_enter Tryz.func151, Tryz.ntmps151
  go_wp2
  go_loop [3, 4] (fun a b => ∃ j x : Nat, a = .int .i64 (32 * (l : Int) + j) /\ b = .int .u32 x /\ (x : Int) <= 4294967295 /\ j + bl x = bl t) (fun _ b => (intOf b).toNat)
  case atStart => exact ⟨0, t, by simp, rfl, ht', by simp⟩
  case round =>
   obtain ⟨j, x, rfl, rfl, hx, hj⟩ := hrel
   by_cases hx0 : x = 0
   ·subst hx0
    rw [bl_zero] at hj
    have HJ := Lib.hid hj
    clear hj
    go_wp2
    go_ret
    refine ⟨?_, rfl⟩
    have := HB.out
    have := HJ.out
    show Ending.returned (.int .i64 (32 * (l : Int) + j)) = _
    congr 2; omega
   ·have hhx := bl_half hx0
    have HJ := Lib.hid hj
    have HX := Lib.hid hhx
    have hxp : (0 : Int) < x := by omega
    have hjt : (j : Int) + 32 * (l : Int) <= 1099511627776 := by have := HB.out; omega
    clear hj hhx
    go_wp2
    go_round
    case rel =>
     refine ⟨j + 1, x / 2, by congr 1, by congr 1, by omega, ?_⟩
     have := HJ.out; have := HX.out; omega
    case measure => simp [intOf]; omega
theorem fromBytes_any (l : List UInt8) (v : Value) (w : World) (hl : l.length <= 68719476737) (hs : SlB l v w) :
  Calls Tryz.prog 126 #[v] w (Ret (.agg #[.int .u64 (lo (beN l) : Nat), .string (hi (beN l))]) w) := by
 obtain ⟨A, c, rfl, hc, hm, hh⟩ := hs
 have HH := Lib.hid hh
 have HF : Hid (∀ L W, FbUp (rb l) (rb l).length L -> Blk W (w.heap.size + 1) 46 (U L) -> Calls Tryz.prog 134 #[.slice (some ⟨w.heap.size + 1, 0, none⟩) ((l.length + 7) / 8) ((l.length + 7) / 8)] W (Ret (.agg #[.int .u64 (lo (beN l) : Nat), .string (hi (beN l))]) W)) := Lib.hid (fun L W hL hb => by
  have h := fromWords_blk (w.heap.size + 1) L.length L [] W (by simpa using hb) (Nat.le_refl _) (by rw [hL.len, rb_length]; omega) hL.dig
  rw [hL.fin, hL.len, rb_length] at h
  exact h)
 have hq : ((l.length : Nat) + 7 : Int) / 8 = ((l.length + 7) / 8 : Nat) := by omega
 have hM : (l.length + 7) / 8 <= 10000000000 := by omega
 clear hh hc hm
 generalize hMe : (l.length + 7) / 8 = M at *
 have HM := Lib.hid hMe
 clear hMe
 generalize lo (beN l) = la at *
 generalize hi (beN l) = sa at *
 go_enter Tryz.func126, Tryz.ntmps126
 go_wp2_with (at_make; refine wpList_mk _ rfl (.tmp 8) (.tmp 8) 164 46 rfl (.int .u64 0) 8 Tryz.underlying164 info64 rfl .i64 .i64 _ _ M rfl rfl ?c1 ?c1' ?c2 ?c3 ?_)
 case c1 => omega
 case c1' => omega
 case c2 => omega
 case c3 => omega
 intro w1 hx1 hs1 hb1
 try simp only [World.size_alloc] at hs1 hb1
 rw [rep_U] at hb1
 have HR := Lib.hid ((Blk.new w 48 [.int .u64 0, .string ⟨#[]⟩]).ext hx1)
 have HX := Lib.hid (((Ext.refl w).alloc _).trans hx1)
 have HB := Lib.hid hb1
 clear hx1 hb1 hs1 hq
 go_wp2
 go_loopw [12] (fun i wr => ∃ (k : Nat) (L : List Nat), k <= l.length /\ i = .int .i64 k /\ Hid (FbUp (rb l) k L) /\ Hid (Blk wr (w.heap.size + 1) 46 (U L)) /\ Hid (But (w.heap.size + 1) w1 wr)) (fun i _ => l.length - (intOf i).toNat)
 case atStart => exact ⟨0, _, Nat.zero_le _, rfl, Lib.hid (by have h := FbUp.start (rb l); rw [rb_length, HM.out] at h; exact h), HB, Lib.hid (But.refl _ _)⟩
 case round =>
  obtain ⟨k, L, hk, rfl, hL, hbk, hbut⟩ := hrel
  by_cases hkx : k < l.length
  ·obtain ⟨g, off, rfl, hg, hcell⟩ := HH.out (fun e => by rw [e] at hkx; simp at hkx)
   have hcx : wr.cell? ⟨g, off + (l.length - 1 - k), none⟩ = some (.int .u8 ((rb l).getD k 0 : Nat)) := by
    rw [rb_getD' l k hkx]
    exact (hbut.out.ext HX.out (by omega)).keep (hcell _ (by omega))
   have hlen := hL.out.len
   rw [rb_length, HM.out] at hlen
   have hk8 : k / 8 < M := by have := HM.out; omega
   have hc1 : wr.cell? ⟨w.heap.size + 1, k / 8, none⟩ = some (.int .u64 (L.getD (k / 8) 0 : Nat)) := by rw [hbk.out.cell, getD_U _ _ (by omega)]
   have hf1 : wr.frozen? ⟨w.heap.size + 1, k / 8, none⟩ = false := hbk.out.frozen _
   have hxd : (rb l).getD k 0 < 256 := (rb_dig l).getD (by omega) k
   have hw := hL.out.word (rb_dig l)
   obtain ⟨_, hN⟩ := hL.out.step (by rw [rb_length]; exact hkx) (rb_dig l)
   have HN := Lib.hid hN
   have HV := Lib.hid (or64 (p := 8 * (k % 8)) hxd (by omega) hw)
   clear hcell hlen hN hw
   generalize (rb l).getD k 0 = x at *
   generalize L.getD (k / 8) 0 = o at *
   go_wp2
   go_region
   rw [HV.out]
   go_wp2
   go_roundw
   case rel =>
    refine ⟨k + 1, _, by omega, by go_num, HN, ?_, Lib.hid ((hbut.out.set (k / 8) _).trans (But.of_ext (Ext.refl _).drew))⟩
    have h := hbk.out.set (k / 8) (.int .u64 (o + 2 ^ (8 * (k % 8)) * x : Nat))
    rw [U_set] at h
    exact Lib.hid h
   case measure => simp [intOf]; omega
  ·obtain rfl : k = l.length := by omega
   go_wp2_with fail
   refine (HF.out L _ (by rw [rb_length]; exact hL.out) hbk.out).mono ?_
   rintro e w3 ⟨rfl, hx3⟩
   have he : Ext w w3 := (hbut.out.ext HX.out (by omega)).trans hx3
   have hr3 := (hbut.out.blk HR.out (by omega)).ext hx3
   have r0 : w3.cell? ⟨w.heap.size, 0, none⟩ = some (.int .u64 0) := hr3.cell 0
   have r1 : w3.cell? ⟨w.heap.size, 1, none⟩ = some (.string ⟨#[]⟩) := hr3.cell 1
   have f0 : w3.frozen? ⟨w.heap.size, 0, none⟩ = false := hr3.frozen 0
   have f1 : w3.frozen? ⟨w.heap.size, 1, none⟩ = false := hr3.frozen 1
   go_wp2
   refine ret_nat w.heap.size _ _ rfl rfl ((hr3.set 0 _).set 1 _) rfl ⟨rfl, ?_⟩
   exact (Below.setCell he (p := ⟨w.heap.size, 0, none⟩) (by show _ <= _; simp) _).setCell (p := ⟨w.heap.size, 1, none⟩) (by show _ <= _; simp) _
theorem info32 : (Tryz.prog.info? 144).map (fun i => (i.zero, i.size, i.bytes)) = some (some (.int .u32 0), 1, 4) := by kernel_rfl
theorem refFrom_any (l : List UInt8) (v : Value) (w : World) (hl : l.length <= 68719476737) (hs : SlB l v w) :
  Calls Tryz.prog 145 #[v] w (RetS (R32 (beN l)) w) := by
 obtain ⟨A, c, rfl, hc, hm, hh⟩ := hs
 have HH := Lib.hid hh
 have HF : Hid (∀ L W, FbDn (rb l) 0 L -> Blk W w.heap.size 144 (V32 L) -> Calls Tryz.prog 121 #[.slice (some ⟨w.heap.size, 0, none⟩) ((l.length + 3) / 4) ((l.length + 3) / 4)] W fun e w' => ∃ v', e = .returned v' /\ R32 (beN l) v' W /\ w' = W) := Lib.hid (fun L W hL hb => by
  have h := trim32_any (Sl32.of_blk hb) (by rw [hL.len, rb_length]; omega) hL.dig
  rw [hL.vl, hL.len, rb_length, Nat.pow_zero, Nat.one_mul, List.drop_zero] at h
  exact h)
 have hq : ((l.length : Nat) + 3 : Int) / 4 = ((l.length + 3) / 4 : Nat) := by omega
 have hM : (l.length + 3) / 4 <= 20000000000 := by omega
 clear hh hc hm
 generalize hMe : (l.length + 3) / 4 = M at *
 have HM := Lib.hid hMe
 clear hMe
 go_enter Tryz.func145, Tryz.ntmps145
 go_wp2_with (at_make; refine wpList_mk _ rfl (.tmp 9) (.tmp 9) 56 144 rfl (.int .u32 0) 4 Tryz.underlying56 info32 rfl .i64 .i64 _ _ M rfl rfl ?c1 ?c1' ?c2 ?c3 ?_)
 case c1 => omega
 case c1' => omega
 case c2 => omega
 case c3 => omega
 intro w1 hx1 hs1 hb1
 try simp only [World.size_alloc] at hs1 hb1
 rw [V32_rep] at hb1
 have HX := Lib.hid hx1
 have HB := Lib.hid hb1
 clear hx1 hb1 hs1 hq
 go_wp2
 go_loopw [4] (fun i wr => ∃ (k : Nat) (L : List Nat), k <= l.length /\ i = .int .i64 k /\ Hid (FbDn (rb l) (l.length - k) L) /\ Hid (Blk wr w.heap.size 144 (V32 L)) /\ Hid (But w.heap.size w1 wr)) (fun i _ => l.length - (intOf i).toNat)
 case atStart => exact ⟨0, _, Nat.zero_le _, rfl, Lib.hid (by have h := FbDn.start (rb l); rw [rb_length, HM.out] at h; exact h), HB, Lib.hid (But.refl _ _)⟩
 case round =>
  obtain ⟨k, L, hk, rfl, hL, hbk, hbut⟩ := hrel
  by_cases hkx : k < l.length
  ·obtain ⟨g, off, rfl, hg, hcell⟩ := HH.out (fun e => by rw [e] at hkx; simp at hkx)
   have hcx : wr.cell? ⟨g, off + k, none⟩ = some (.int .u8 ((rb l).getD (l.length - 1 - k) 0 : Nat)) := by
    rw [rb_getD l k hkx]
    exact (hbut.out.ext HX.out (by omega)).keep (hcell _ hkx)
   obtain ⟨j, hj⟩ : ∃ j, l.length - 1 - k = j := ⟨_, rfl⟩
   have HLj : Hid (FbDn (rb l) (j + 1) L) := Lib.hid (by have h := hL.out; rw [show l.length - k = j + 1 from by omega] at h; exact h)
   rw [hj] at hcx
   have hlen := HLj.out.len
   rw [rb_length, HM.out] at hlen
   have hk8 : j / 4 < M := by have := HM.out; omega
   have hc1 : wr.cell? ⟨w.heap.size, j / 4, none⟩ = some (.int .u32 (L.getD (j / 4) 0 : Nat)) := by rw [hbk.out.cell, getD_V32 _ _ (by omega)]
   have hf1 : wr.frozen? ⟨w.heap.size, j / 4, none⟩ = false := hbk.out.frozen _
   have hxd : (rb l).getD j 0 < 256 := (rb_dig l).getD (by omega) j
   obtain ⟨z, hz⟩ := HLj.out.word
   have ho : L.getD (j / 4) 0 < B32 := HLj.out.dig.getD (by unfold B32; omega) _
   obtain ⟨_, hN⟩ := HLj.out.step (by rw [rb_length]; omega) (rb_dig l)
   have HN := Lib.hid hN
   have hv := or32 (p := 8 * (j % 4)) hxd (by omega) hz ho
   rw [IntKind.wrap_u32'] at hv
   have HV := Lib.hid hv
   have hji : (l.length : Int) - 1 - k = j := by omega
   have hjk : j + 1 + k = l.length := by omega
   have HJ := Lib.hid hjk
   clear hcell hlen hN hz hj hL hjk hv
   generalize (rb l).getD j 0 = x at *
   generalize L.getD (j / 4) 0 = o at *
   have ho' : (o : Int) <= 4294967295 := by unfold B32 at ho; omega
   go_wp2
   go_region
   rw [HV.out]
   go_wp2
   go_roundw
   case rel =>
    refine ⟨k + 1, _, by omega, by go_num, by have := HJ.out; rw [show l.length - (k + 1) = j from by omega]; exact HN, ?_, Lib.hid ((hbut.out.set (j / 4) _).trans (But.of_ext (Ext.refl _).drew))⟩
    have h := hbk.out.set (j / 4) (.int .u32 (o + 2 ^ (8 * (j % 4)) * x : Nat))
    rw [V32_set] at h
    exact Lib.hid h
   case measure => simp [intOf]; omega
  ·obtain rfl : k = l.length := by omega
   have HL0 : Hid (FbDn (rb l) 0 L) := Lib.hid (by have h := hL.out; rw [Nat.sub_self] at h; exact h)
   go_wp2_with fail
   refine (HF.out L _ HL0.out hbk.out).mono ?_
   rintro e w3 ⟨v, rfl, hr, rfl⟩
   have HR := Lib.hid hr
   clear hr
   go_wp2
   go_ret
   exact ⟨_, rfl, HR.out, hbut.out.ext HX.out (Nat.le_refl _)⟩
theorem at_any (xs : List Nat) (v : Value) (i : Nat) (w : World) (h : Sl32 xs v w) (hd : Dig B32 xs) (_hl : xs.length <= 1099511627776) (_hi : i <= 1099511627776) :
  Calls Tryz.prog 171 #[v, .int .i64 i] w fun e w' => e = .returned (.int .u64 (xs.getD i 0 : Nat)) /\ w = w' := by
 obtain ⟨A, c, rfl, _, hh⟩ := h
 have hx := hd.getD (by unfold B32; omega) i
 by_cases hix : i < xs.length
 ·obtain ⟨g, off, rfl, hg, hcell⟩ := hh (fun e => by rw [e] at hix; simp at hix)
  have hc := hcell i hix
  clear hcell hh hd
  generalize xs.getD i 0 = x at *
  have hx' : (x : Int) <= 4294967295 := by unfold B32 at hx; omega
  go_enter Tryz.func171, Tryz.ntmps171
  go_wp2
  go_ret
  exact ⟨rfl, rfl⟩
 ·have h0 : xs.getD i 0 = 0 := getD_ge _ _ (by omega)
  rw [h0]
  clear hh hd hx h0
  go_enter Tryz.func171, Tryz.ntmps171
  go_wp2
  go_ret
  exact ⟨rfl, rfl⟩
theorem refAdd_any (a b : Nat) (v1 v2 : Value) (w : World) (h1 : R32 a v1 w) (h2 : R32 b v2 w) (ha : bl a <= 549755813888) (hb : bl b <= 549755813888) :
  Calls Tryz.prog 143 #[v1, v2] w (RetS (R32 (a + b)) w) := by
 have hla := limbs32_len a 17179869184 (by omega)
 have hlb := limbs32_len b 17179869184 (by omega)
 have hda := limbs_dig B32_two a
 have hdb := limbs_dig B32_two b
 have HA : Hid (∀ (i : Nat) W, i <= 17179869184 -> Ext w W -> Calls Tryz.prog 171 #[v1, .int .i64 i] W fun e w' => e = .returned (.int .u64 ((limbs B32 a).getD i 0 : Nat)) /\ W = w') := Lib.hid (fun i W hi hx => at_any (limbs B32 a) v1 i W (Sl32.ext h1 hx) hda (by omega) (by omega))
 have HB : Hid (∀ (i : Nat) W, i <= 17179869184 -> Ext w W -> Calls Tryz.prog 171 #[v2, .int .i64 i] W fun e w' => e = .returned (.int .u64 ((limbs B32 b).getD i 0 : Nat)) /\ W = w') := Lib.hid (fun i W hi hx => at_any (limbs B32 b) v2 i W (Sl32.ext h2 hx) hdb (by omega) (by omega))
 have va := val_limbs B32_two a
 have vb := val_limbs B32_two b
 have HV : Hid (val B32 (limbs B32 a) + val B32 (limbs B32 b) = a + b) := Lib.hid (by rw [va, vb])
 obtain ⟨A, c, rfl, _, _⟩ := h1
 obtain ⟨A', c', rfl, _, _⟩ := h2
 clear ha hb va vb
 generalize limbs B32 a = xs at *
 generalize limbs B32 b = ys at *
 generalize a + b = n at *
 have HDA := Lib.hid hda
 have HDB := Lib.hid hdb
 clear hda hdb
 have hmx : max (xs.length : Int) (ys.length : Int) = ((max xs.length ys.length : Nat) : Int) := by omega
 have hM : max xs.length ys.length <= 17179869184 := by omega
 have HF : Hid (∀ L W cc, RaInv xs ys L.length cc L -> Blk W w.heap.size 144 (V32 L) -> Calls Tryz.prog 121 #[.slice (some ⟨w.heap.size, 0, none⟩) (max xs.length ys.length + 1) (max xs.length ys.length + 1)] W fun e w' => ∃ v', e = .returned v' /\ R32 n v' W /\ w' = W) := Lib.hid (fun L W cc hL hb => by
  have h := trim32_any (Sl32.of_blk hb) (by rw [hL.len]; omega) hL.dig
  rw [hL.fin HDA.out HDB.out, HV.out, hL.len] at h
  exact h)
 have HST := Lib.hid (RaInv.start xs ys)
 have HLE : Hid (∀ cc L i, RaInv xs ys i cc L -> L.length = max xs.length ys.length + 1) := Lib.hid (fun cc L i h => h.len)
 generalize hMe : max xs.length ys.length = M at *
 clear hMe
 generalize xs.length = p at *
 generalize ys.length = q at *
 clear hla hlb
 have hMi : (M : Int) <= 17179869184 := by omega
 have HM := Lib.hid hM
 clear hM
 go_enter Tryz.func143, Tryz.ntmps143
 go_wp2_with (at_make; refine wpList_mk _ rfl (.tmp 15) (.tmp 15) 56 144 rfl (.int .u32 0) 4 Tryz.underlying56 info32 rfl .i64 .i64 _ _ (M + 1) rfl rfl ?c1 ?c1' ?c2 ?c3 ?_)
 case c1 => omega
 case c1' => omega
 case c2 => have := HM.out; omega
 case c3 => have := HM.out; omega
 intro w1 hx1 hs1 hb1
 rw [V32_rep] at hb1
 have HX := Lib.hid hx1
 have HB1 := Lib.hid hb1
 clear hx1 hb1 hs1 hmx
 go_wp2
 go_loopw [7, 8] (fun c i wr => ∃ (k cc : Nat) (L : List Nat), k <= M + 1 /\ i = .int .i64 k /\ c = .int .u64 cc /\ cc <= 1 /\ Hid (RaInv xs ys k cc L) /\ Hid (Blk wr w.heap.size 144 (V32 L)) /\ Hid (Ext w wr)) (fun _ i _ => M + 1 - (intOf i).toNat)
 case atStart => exact ⟨0, 0, _, Nat.zero_le _, rfl, rfl, by omega, HST, HB1, HX⟩
 case round =>
  obtain ⟨k, cc, L, hk, rfl, rfl, hcc, hL, hbk, hex⟩ := hrel
  have hlen := HLE.out cc L k hL.out
  have hk' : k <= 17179869185 := by have := HM.out; omega
  by_cases hkM : k <= M
  ·have hN := hL.out.step HDA.out HDB.out (by omega)
   have hxd := HDA.out.getD (by unfold B32; omega) k
   have hyd := HDB.out.getD (by unfold B32; omega) k
   have HA1 := Lib.hid (fun W h => HA.out k W (by have := HM.out; omega) h)
   have HB2 := Lib.hid (fun W h => HB.out k W (by have := HM.out; omega) h)
   have hco : wr.cell? ⟨w.heap.size, k, none⟩ = some (.int .u32 (L.getD k 0 : Nat)) := by rw [hbk.out.cell, getD_V32 _ _ (by omega)]
   have hfo : wr.frozen? ⟨w.heap.size, k, none⟩ = false := hbk.out.frozen _
   generalize xs.getD k 0 = x at *
   generalize ys.getD k 0 = y at *
   generalize L.getD k 0 = o at *
   have HN := Lib.hid hN
   have hxi : (x : Int) <= 4294967295 := by unfold B32 at hxd; omega
   have hyi : (y : Int) <= 4294967295 := by unfold B32 at hyd; omega
   have hci : (cc : Int) <= 1 := by omega
   have H1 : Hid (((cc + x + y) / B32 : Nat) = ((cc : Int) + x + y) / 4294967296) := Lib.hid (by unfold B32; omega)
   have H2 : Hid (((cc + x + y) % B32 : Nat) = ((cc : Int) + x + y) % 4294967296) := Lib.hid (by unfold B32; omega)
   have hc1 : (cc + x + y) / B32 <= 1 := hN.c1
   clear hN hxd hyd hcc hlen hL hk'
   go_wp2_with fail
   refine (HA1.out _ hex.out).mono ?_
   rintro e w2 ⟨rfl, rfl⟩
   go_wp2_with fail
   refine (HB2.out _ hex.out).mono ?_
   rintro e w2 ⟨rfl, rfl⟩
   go_wp2
   go_roundw
   case rel =>
    refine ⟨k + 1, (cc + x + y) / B32, L.set k ((cc + x + y) % B32), by omega, by go_num, ?_, hc1, HN, Lib.hid ?_, Lib.hid (Below.setCell hex.out (p := ⟨w.heap.size, k, none⟩) (Nat.le_refl _) _)⟩
    ·rw [H1.out]
    ·rw [<- V32_set, H2.out]; exact hbk.out.set _ _
   case measure => simp [intOf]; omega
  ·obtain rfl : k = M + 1 := by omega
   rw [<- hlen] at hL
   go_wp2_with fail
   refine (HF.out L _ cc hL.out hbk.out).mono ?_
   rintro e w3 ⟨v, rfl, hr, rfl⟩
   have HR := Lib.hid hr
   clear hr
   go_wp2
   go_ret
   exact ⟨_, rfl, HR.out, hex.out⟩
theorem refSub_any (a b : Nat) (v1 v2 : Value) (w : World) (h1 : R32 a v1 w) (h2 : R32 b v2 w) (ha : bl a <= 549755813888) (hab : b <= a) :
  Calls Tryz.prog 144 #[v1, v2] w (RetS (R32 (a - b)) w) := by
 have hb : bl b <= bl a := bl_mono hab
 have hla := limbs32_len a 17179869184 (by omega)
 have hlb := limbs32_len b 17179869184 (by omega)
 have hda := limbs_dig B32_two a
 have hdb := limbs_dig B32_two b
 have HB : Hid (∀ (i : Nat) W, i <= 17179869184 -> Ext w W -> Calls Tryz.prog 171 #[v2, .int .i64 i] W fun e w' => e = .returned (.int .u64 ((limbs B32 b).getD i 0 : Nat)) /\ W = w') := Lib.hid (fun i W hi hx => at_any (limbs B32 b) v2 i W (Sl32.ext h2 hx) hdb (by omega) (by omega))
 have va := val_limbs B32_two a
 have vb := val_limbs B32_two b
 have hll : (limbs B32 b).length <= (limbs B32 a).length := by
  rw [limbs_length_le_iff B32_two]
  exact Nat.lt_of_le_of_lt hab ((limbs_length_le_iff B32_two a _).1 (Nat.le_refl _))
 have HV : Hid (val B32 (limbs B32 b) <= val B32 (limbs B32 a) /\ val B32 (limbs B32 a) - val B32 (limbs B32 b) = a - b) := Lib.hid (by rw [va, vb]; exact ⟨hab, rfl⟩)
 obtain ⟨A, c, rfl, _, hh⟩ := h1
 obtain ⟨A', c', rfl, _, _⟩ := h2
 clear ha hb va vb hab
 generalize limbs B32 a = xs at *
 generalize limbs B32 b = ys at *
 generalize a - b = n at *
 have HDA := Lib.hid hda
 have HDB := Lib.hid hdb
 have HLL := Lib.hid hll
 have HH := Lib.hid hh
 clear hda hdb hlb hll hh
 have HF : Hid (∀ L W cc, RsInv xs ys xs.length cc L -> Blk W w.heap.size 144 (V32 L) -> Calls Tryz.prog 121 #[.slice (some ⟨w.heap.size, 0, none⟩) xs.length xs.length] W fun e w' => ∃ v', e = .returned v' /\ R32 n v' W /\ w' = W) := Lib.hid (fun L W cc hL hb => by
  have h := trim32_any (Sl32.of_blk hb) (by rw [hL.len]; omega) hL.dig
  rw [hL.fin HV.out.1 HLL.out, HV.out.2, hL.len] at h
  exact h)
 go_enter Tryz.func144, Tryz.ntmps144
 go_wp2_with (at_make; refine wpList_mk _ rfl (.tmp 10) (.tmp 10) 56 144 rfl (.int .u32 0) 4 Tryz.underlying56 info32 rfl .i64 .i64 _ _ xs.length rfl rfl ?c1 ?c1' ?c2 ?c3 ?_)
 case c1 => omega
 case c1' => omega
 case c2 => omega
 case c3 => omega
 intro w1 hx1 hs1 hb1
 rw [V32_rep] at hb1
 have HX := Lib.hid hx1
 have HB1 := Lib.hid hb1
 clear hx1 hb1 hs1
 go_wp2
 go_loopw [6, 7] (fun c i wr => ∃ (k cc : Nat) (L : List Nat), k <= xs.length /\ i = .int .i64 k /\ c = .int .u64 cc /\ cc <= 1 /\ Hid (RsInv xs ys k cc L) /\ Hid (Blk wr w.heap.size 144 (V32 L)) /\ Hid (Ext w wr)) (fun _ i _ => xs.length - (intOf i).toNat)
 case atStart => exact ⟨0, 0, _, Nat.zero_le _, rfl, rfl, by omega, Lib.hid (RsInv.start xs ys), HB1, HX⟩
 case round =>
  obtain ⟨k, cc, L, hk, rfl, rfl, hcc, hL, hbk, hex⟩ := hrel
  have hlen := hL.out.len
  by_cases hkM : k < xs.length
  ·obtain ⟨g, off, rfl, hg, hcell⟩ := HH.out (fun e => by rw [e] at hkM; simp at hkM)
   have hcx : wr.cell? ⟨g, off + k, none⟩ = some (.int .u32 (xs.getD k 0 : Nat)) := hex.out.keep (hcell k hkM)
   have hN := hL.out.step (d := (xs.getD k 0 + 18446744073709551616 - ys.getD k 0 - cc) % 18446744073709551616) HDA.out HDB.out hkM rfl
   have hxd := HDA.out.getD (by unfold B32; omega) k
   have hyd := HDB.out.getD (by unfold B32; omega) k
   have HB2 := Lib.hid (fun W h => HB.out k W (by omega) h)
   have hco : wr.cell? ⟨w.heap.size, k, none⟩ = some (.int .u32 (L.getD k 0 : Nat)) := by rw [hbk.out.cell, getD_V32 _ _ (by omega)]
   have hfo : wr.frozen? ⟨w.heap.size, k, none⟩ = false := hbk.out.frozen _
   generalize xs.getD k 0 = x at *
   generalize ys.getD k 0 = y at *
   generalize L.getD k 0 = o at *
   have HN := Lib.hid hN
   have hxi : (x : Int) <= 4294967295 := by unfold B32 at hxd; omega
   have hyi : (y : Int) <= 4294967295 := by unfold B32 at hyd; omega
   have hci : (cc : Int) <= 1 := by omega
   have hc1 := hN.c1
   have hw3 : IntKind.u64.wrap (IntKind.u64.wrap ((x : Int) - (y : Int)) - (cc : Int)) = (((x + 18446744073709551616 - y - cc) % 18446744073709551616 : Nat) : Int) := by
    rw [IntKind.wrap_u64, IntKind.wrap_u64]
    unfold B32 at hxd hyd
    omega
   have hdlt : (x + 18446744073709551616 - y - cc) % 18446744073709551616 < 18446744073709551616 := Nat.mod_lt _ (by omega)
   generalize (x + 18446744073709551616 - y - cc) % 18446744073709551616 = d at *
   have HW3 := Lib.hid hw3
   have hdi : (d : Int) <= 18446744073709551615 := by omega
   clear hw3 hdlt
   have hcall : ∀ W, Ext w W -> Calls Tryz.prog 171 #[.slice A' ys.length c', .int .i64 k] W fun e w' => e = .returned (.int .u64 y) /\ w' = W := fun W h => (HB2.out W h).mono fun _ _ ⟨e1, e2⟩ => ⟨e1, e2.symm⟩
   have HCL := Lib.hid hcall
   clear hN hlen hL hcell hcc hcall HB2
   go_wp2
   go_quiet ((go_at_call 171; exact Calls.quiet_of_same (HCL.out _ (hex.out.drewN _))))
   rw [HW3.out]
   rename_i nq
   have hco' : (wr.drewN nq).cell? ⟨w.heap.size, k, none⟩ = some (.int .u32 o) := hco
   have hfo' : (wr.drewN nq).frozen? ⟨w.heap.size, k, none⟩ = false := hfo
   have hbk' := hbk.out.ext ((Ext.refl wr).drewN nq)
   have hex' := hex.out.drewN nq
   have HBK := Lib.hid hbk'
   have HEX := Lib.hid hex'
   clear hbk hex hbk' hex' hco hfo hcx
   generalize wr.drewN nq = W6 at *
   go_wp2
   go_roundw
   case rel =>
    refine ⟨k + 1, d / 9223372036854775808, L.set k (d % 4294967296), by omega, by go_num, by congr 1, hc1, HN, Lib.hid ?_, Lib.hid (Below.setCell HEX.out (p := ⟨w.heap.size, k, none⟩) (Nat.le_refl _) _)⟩
    rw [<- V32_set]; exact HBK.out.set _ _
   case measure => simp [intOf]; omega
  ·obtain rfl : k = xs.length := by omega
   go_wp2_with fail
   refine (HF.out L _ cc hL.out hbk.out).mono ?_
   rintro e w3 ⟨v, rfl, hr, rfl⟩
   have HR := Lib.hid hr
   clear hr
   go_wp2
   go_ret
   exact ⟨_, rfl, HR.out, hex.out⟩
theorem mac32 {x y o c : Nat} (hx : x < B32) (hy : y < B32) (ho : o < B32) (hc : c < B32) :
  IntKind.u64.wrap ((c : Int) + (o : Int) + IntKind.u64.wrap ((x : Int) * (y : Int))) = ((x * y + o + c : Nat) : Int) /\ x * y + o + c < 18446744073709551616 /\ (x * y + o + c) / B32 < B32 := by
 have h1 : x * y <= 4294967295 * 4294967295 := Nat.mul_le_mul (by unfold B32 at hx; omega) (by unfold B32 at hy; omega)
 have e : (x : Int) * (y : Int) = ((x * y : Nat) : Int) := by push_cast; rfl
 rw [IntKind.wrap_u64, IntKind.wrap_u64, e]
 generalize x * y = p at *
 unfold B32 at *
 refine ⟨by omega, by omega, by omega⟩
theorem refMul_any (a b : Nat) (v1 v2 : Value) (w : World) (h1 : R32 a v1 w) (h2 : R32 b v2 w) (ha : bl a <= 274877906944) (hb : bl b <= 274877906944) :
  Calls Tryz.prog 110 #[v1, v2] w (RetS (R32 (a * b)) w) := by
 have hla := limbs32_len a 8589934592 (by omega)
 have hlb := limbs32_len b 8589934592 (by omega)
 have hda := limbs_dig B32_two a
 have hdb := limbs_dig B32_two b
 have va := val_limbs B32_two a
 have vb := val_limbs B32_two b
 have HV : Hid (val B32 (limbs B32 a) * val B32 (limbs B32 b) = a * b) := Lib.hid (by rw [va, vb])
 obtain ⟨A, c, rfl, _, hh⟩ := h1
 obtain ⟨A', c', rfl, _, hh'⟩ := h2
 clear ha hb va vb
 generalize limbs B32 a = xs at *
 generalize limbs B32 b = ys at *
 generalize a * b = n at *
 have HDA := Lib.hid hda
 have HDB := Lib.hid hdb
 have HH := Lib.hid hh
 have HH' := Lib.hid hh'
 clear hda hdb hh hh'
 have HF : Hid (∀ L W, S32.MulOut xs ys xs.length L -> Blk W w.heap.size 144 (V32 L) -> Calls Tryz.prog 121 #[.slice (some ⟨w.heap.size, 0, none⟩) (xs.length + ys.length) (xs.length + ys.length)] W fun e w' => ∃ v', e = .returned v' /\ R32 n v' W /\ w' = W) := Lib.hid (fun L W hL hb => by
  have h := trim32_any (Sl32.of_blk hb) (by rw [hL.len]; omega) hL.dig
  rw [hL.val, List.take_length, HV.out, hL.len] at h
  exact h)
 go_enter Tryz.func110, Tryz.ntmps110
 go_wp2_with (at_make; refine wpList_mk _ rfl (.tmp 13) (.tmp 13) 56 144 rfl (.int .u32 0) 4 Tryz.underlying56 info32 rfl .i64 .i64 _ _ (xs.length + ys.length) rfl rfl ?c1 ?c1' ?c2 ?c3 ?_)
 case c1 => omega
 case c1' => omega
 case c2 => omega
 case c3 => omega
 intro w1 hx1 hs1 hb1
 rw [V32_rep] at hb1
 have HX := Lib.hid hx1
 have HB1 := Lib.hid hb1
 clear hx1 hb1 hs1
 go_wp2
 go_loopw [6] (fun i wr => ∃ (k : Nat) (L : List Nat), k <= xs.length /\ i = .int .i64 k /\ Hid (S32.MulOut xs ys k L) /\ Hid (Blk wr w.heap.size 144 (V32 L)) /\ Hid (Ext w wr)) (fun i _ => xs.length - (intOf i).toNat)
 case atStart => exact ⟨0, _, Nat.zero_le _, rfl, Lib.hid (S32.MulOut.start xs ys), HB1, HX⟩
 case round =>
  obtain ⟨k, L, hk, rfl, hL, hbk, hex⟩ := hrel
  by_cases hkx : k < xs.length
  ·obtain ⟨g, off, rfl, hg, hcell⟩ := HH.out (fun e => by rw [e] at hkx; simp at hkx)
   have hcx : w.cell? ⟨g, off + k, none⟩ = some (.int .u32 (xs.getD k 0 : Nat)) := hcell k hkx
   have hxd : xs.getD k 0 < B32 := HDA.out.getD (by unfold B32; omega) k
   have HCX := Lib.hid hcx
   have HIN := Lib.hid hL.out.inner
   have HXE : Hid (∃ x, xs.getD k 0 = x) := Lib.hid ⟨_, rfl⟩
   clear hcell hL hcx HXE
   go_wp2
   go_loopw [7, 8] (fun c i wr => ∃ (j cc : Nat) (L : List Nat), j <= ys.length /\ i = .int .i64 j /\ c = .int .u64 cc /\ cc < B32 /\ Hid (S32.MulIn xs ys k j cc L) /\ Hid (Blk wr w.heap.size 144 (V32 L)) /\ Hid (Ext w wr)) (fun _ i _ => ys.length - (intOf i).toNat)
   case atStart => exact ⟨0, 0, L, Nat.zero_le _, rfl, rfl, by unfold B32; omega, HIN, hbk, hex⟩
   case round =>
    clear hbk hex HIN
    obtain ⟨j, cc, L, hj, rfl, rfl, hcc, hL, hbk, hex⟩ := hrel
    have hlen := hL.out.len
    by_cases hjy : j < ys.length
    ·obtain ⟨g', off', rfl, hg', hcell'⟩ := HH'.out (fun e => by rw [e] at hjy; simp at hjy)
     have hcy : wr.cell? ⟨g', off' + j, none⟩ = some (.int .u32 (ys.getD j 0 : Nat)) := hex.out.keep (hcell' j hjy)
     have hcx : wr.cell? ⟨g, off + k, none⟩ = some (.int .u32 (xs.getD k 0 : Nat)) := hex.out.keep HCX.out
     have hyd : ys.getD j 0 < B32 := HDB.out.getD (by unfold B32; omega) j
     have hco : wr.cell? ⟨w.heap.size, k + j, none⟩ = some (.int .u32 (L.getD (k + j) 0 : Nat)) := by rw [hbk.out.cell, getD_V32 _ _ (by omega)]
     have hfo : wr.frozen? ⟨w.heap.size, k + j, none⟩ = false := hbk.out.frozen _
     have hod : L.getD (k + j) 0 < B32 := hL.out.dig.getD (by unfold B32; omega) _
     obtain ⟨hw3, ht1, ht2⟩ := mac32 hxd hyd hod hcc
     have hN := hL.out.step (s := (xs.getD k 0 * ys.getD j 0 + L.getD (k + j) 0 + cc) % B32) (q := (xs.getD k 0 * ys.getD j 0 + L.getD (k + j) 0 + cc) / B32) hkx hjy (Nat.mod_lt _ (by unfold B32; omega)) (Nat.mod_add_div _ _)
     generalize hxe : xs.getD k 0 = x at *
     generalize ys.getD j 0 = y at *
     generalize L.getD (k + j) 0 = o at *
     generalize x * y + o + cc = t at *
     have HW3 := Lib.hid hw3
     have HN := Lib.hid hN
     have hti : (t : Int) <= 18446744073709551615 := by omega
     have hxi : (x : Int) <= 4294967295 := by unfold B32 at hxd; omega
     have hyi : (y : Int) <= 4294967295 := by unfold B32 at hyd; omega
     have hoi : (o : Int) <= 4294967295 := by unfold B32 at hod; omega
     have hci : (cc : Int) <= 4294967295 := by unfold B32 at hcc; omega
     have E1 : Hid (((t / B32 : Nat) : Int) = (t : Int) / 4294967296) := Lib.hid (by unfold B32; omega)
     have E2 : Hid (((t % B32 : Nat) : Int) = (t : Int) % 4294967296) := Lib.hid (by unfold B32; omega)
     have hsum : IntKind.i64.wrap ((k : Int) + (j : Int)) = (k : Int) + (j : Int) := IntWalk.i64_in _ (by omega)
     clear hN hw3 ht1 hcell' hlen hL hcc hod hyd hxe
     go_wp2
     go_quiet (fail)
     rw [HW3.out]
     rename_i nq
     have hco' : (wr.drewN nq).cell? ⟨w.heap.size, k + j, none⟩ = some (.int .u32 o) := hco
     have hfo' : (wr.drewN nq).frozen? ⟨w.heap.size, k + j, none⟩ = false := hfo
     have HBK := Lib.hid (hbk.out.ext ((Ext.refl wr).drewN nq))
     have HEX := Lib.hid (hex.out.drewN nq)
     clear hbk hex hco hfo hcx hcy hsum
     generalize wr.drewN nq = W6 at *
     go_wp2
     go_roundw
     case rel =>
      refine ⟨j + 1, t / B32, L.set (k + j) (t % B32), by omega, by go_num, by rw [E1.out], ht2, HN, Lib.hid ?_, Lib.hid (Below.setCell HEX.out (p := ⟨w.heap.size, k + j, none⟩) (Nat.le_refl _) _)⟩
      rw [<- V32_set, E2.out]; exact HBK.out.set _ _
     case measure => simp [intOf]; omega
    ·obtain rfl : j = ys.length := by omega
     have hco : wr.cell? ⟨w.heap.size, k + ys.length, none⟩ = some (.int .u32 (L.getD (k + ys.length) 0 : Nat)) := by rw [hbk.out.cell, getD_V32 _ _ (by omega)]
     have hfo : wr.frozen? ⟨w.heap.size, k + ys.length, none⟩ = false := hbk.out.frozen _
     have HCL := Lib.hid (hL.out.close hkx hcc)
     have hci : (cc : Int) <= 4294967295 := by unfold B32 at hcc; omega
     generalize L.getD (k + ys.length) 0 = o at *
     clear hL hcc hlen
     go_wp2
     go_roundw
     case rel => exact ⟨k + 1, L.set (k + ys.length) cc, by omega, by go_num, HCL, Lib.hid (by rw [<- V32_set]; exact hbk.out.set _ _), Lib.hid (Below.setCell hex.out (p := ⟨w.heap.size, k + ys.length, none⟩) (Nat.le_refl _) _)⟩
     case measure => simp [intOf]; omega
  ·obtain rfl : k = xs.length := by omega
   go_wp2_with fail
   refine (HF.out L _ hL.out hbk.out).mono ?_
   rintro e w3 ⟨v, rfl, hr, rfl⟩
   have HR := Lib.hid hr
   clear hr
   go_wp2
   go_ret
   exact ⟨_, rfl, HR.out, hex.out⟩
theorem refCmp_any (a b : Nat) (v1 v2 : Value) (w : World) (h1 : R32 a v1 w) (h2 : R32 b v2 w) (ha : bl a <= 549755813888) (hb : bl b <= 549755813888) :
  Calls Tryz.prog 66 #[v1, v2] w (Ret (.int .i64 (cmpN a b)) w) := by
 have hla := limbs32_len a 17179869184 (by omega)
 have hlb := limbs32_len b 17179869184 (by omega)
 have hda := limbs_dig B32_two a
 have hdb := limbs_dig B32_two b
 obtain ⟨A, c, rfl, _, hh⟩ := h1
 obtain ⟨A', c', rfl, _, hh'⟩ := h2
 rcases Nat.lt_trichotomy (limbs B32 a).length (limbs B32 b).length with h | h | h
 ·rw [cmpN_lt (lt_of_limbs B32_two h)]
  have e1 : (((limbs B32 a).length : Int) != ((limbs B32 b).length : Int)) = true := by simp; omega
  clear hh hh' hda hdb ha hb
  generalize (limbs B32 a).length = p at *
  generalize (limbs B32 b).length = q at *
  go_enter Tryz.func66, Tryz.ntmps66
  go_wp2
  go_ret
  exact ⟨rfl, Ext.refl _⟩
 ·have hR := fun j hj hd hne => cmpN_at (a := a) (b := b) (j := j) h hj hd hne
  have hE : limbs B32 a = limbs B32 b -> cmpN a b = 0 := fun e => by
   have : a = b := by rw [<- val_limbs B32_two a, <- val_limbs B32_two b, e]
   subst this
   unfold cmpN; simp
  have e1 : (((limbs B32 a).length : Int) != ((limbs B32 b).length : Int)) = false := by simp; omega
  clear ha hb
  generalize limbs B32 a = xs at *
  generalize limbs B32 b = ys at *
  generalize cmpN a b = r at *
  have HH := Lib.hid hh
  have HH' := Lib.hid hh'
  have HDA := Lib.hid hda
  have HDB := Lib.hid hdb
  have HRR := Lib.hid hR
  have HEE := Lib.hid hE
  have HL := Lib.hid h
  clear hh hh' hda hdb hR hE h
  go_enter Tryz.func66, Tryz.ntmps66
  go_wp2
  go_loopw [5] (fun i wr => ∃ j : Nat, j <= xs.length /\ i = .int .i64 ((j : Int) - 1) /\ Hid (xs.drop j = ys.drop j) /\ Hid (Ext w wr)) (fun i _ => (intOf i + 1).toNat)
  case atStart => exact ⟨xs.length, Nat.le_refl _, rfl, Lib.hid (by rw [List.drop_length, HL.out, List.drop_length]), Lib.hid (Ext.refl w)⟩
  case round =>
   obtain ⟨j, hj, rfl, hd, hex⟩ := hrel
   by_cases hj0 : j = 0
   ·subst hj0
    have HE0 := Lib.hid (HEE.out (by simpa using hd.out))
    go_wp2
    go_ret
    exact ⟨ret_int HE0.out.symm, hex.out⟩
   ·obtain ⟨j, rfl⟩ : ∃ k, j = k + 1 := ⟨j - 1, by omega⟩
    rw [show ((j + 1 : Nat) : Int) - 1 = (j : Int) from by omega]
    have hjx : j < xs.length := by omega
    have hjy : j < ys.length := by have := HL.out; omega
    obtain ⟨g, off, rfl, hg, hcell⟩ := HH.out (fun e => by rw [e] at hjx; simp at hjx)
    obtain ⟨g', off', rfl, hg', hcell'⟩ := HH'.out (fun e => by rw [e] at hjy; simp at hjy)
    have hcx := hex.out.keep (hcell j hjx)
    have hcy := hex.out.keep (hcell' j hjy)
    have hxd : xs.getD j 0 < B32 := HDA.out.getD (by unfold B32; omega) j
    have hyd : ys.getD j 0 < B32 := HDB.out.getD (by unfold B32; omega) j
    have hdd : xs.getD j 0 = ys.getD j 0 -> xs.drop j = ys.drop j := fun e => by
     rw [List.drop_eq_getElem_cons hjx, List.drop_eq_getElem_cons hjy, hd.out, <- getD_lt _ _ hjx, <- getD_lt _ _ hjy, e]
    have hR := HRR.out j hjx hd.out
    have HDD := Lib.hid hdd
    have HR2 := Lib.hid hR
    clear hcell hcell' hdd hR hd
    generalize xs.getD j 0 = x at *
    generalize ys.getD j 0 = y at *
    rcases Nat.lt_trichotomy x y with hlt | he | hlt
    ·have hr : r = -1 := by rw [<- HR2.out (by omega), cmpN_lt hlt]
     have hb1 : ((x : Int) != (y : Int)) = true := by simp; omega
     have hb2 : (x : Int) < (y : Int) := by omega
     have HR3 := Lib.hid hr
     clear hr
     go_wp2
     go_quiet (fail)
     rename_i nq
     have hcx' : (wr.drewN nq).cell? ⟨g, off + j, none⟩ = some (.int .u32 x) := hcx
     have hcy' : (wr.drewN nq).cell? ⟨g', off' + j, none⟩ = some (.int .u32 y) := hcy
     have HEX := Lib.hid (hex.out.drewN nq)
     clear hex hcx hcy
     generalize wr.drewN nq = W6 at *
     go_wp2
     go_quiet (fail)
     go_wp2
     go_ret
     exact ⟨ret_int HR3.out.symm, HEX.out.drewN _⟩
    ·subst he
     have hb1 : ((x : Int) != (x : Int)) = false := by simp
     go_wp2
     go_quiet (fail)
     go_wp2
     go_roundw
     case rel => exact ⟨j, by omega, rfl, Lib.hid (HDD.out (by simp)), Lib.hid (hex.out.drewN _)⟩
     case measure => simp [intOf]
    ·have hr : r = 1 := by rw [<- HR2.out (by omega), cmpN_gt hlt]
     have hb1 : ((x : Int) != (y : Int)) = true := by simp; omega
     have hb2 : decide (x < y) = false := decide_eq_false (by omega)
     have HR3 := Lib.hid hr
     clear hr
     go_wp2
     go_quiet (fail)
     rename_i nq
     have hcx' : (wr.drewN nq).cell? ⟨g, off + j, none⟩ = some (.int .u32 x) := hcx
     have hcy' : (wr.drewN nq).cell? ⟨g', off' + j, none⟩ = some (.int .u32 y) := hcy
     have HEX := Lib.hid (hex.out.drewN nq)
     clear hex hcx hcy
     generalize wr.drewN nq = W6 at *
     go_wp2
     go_quiet (fail)
     go_wp2
     go_ret
     exact ⟨ret_int HR3.out.symm, HEX.out.drewN _⟩
 ·rw [cmpN_gt (lt_of_limbs B32_two h)]
  have e1 : (((limbs B32 a).length : Int) != ((limbs B32 b).length : Int)) = true := by simp; omega
  have e2 : decide ((limbs B32 a).length < (limbs B32 b).length) = false := decide_eq_false (by omega)
  clear hh hh' hda hdb ha hb
  generalize (limbs B32 a).length = p at *
  generalize (limbs B32 b).length = q at *
  go_enter Tryz.func66, Tryz.ntmps66
  go_wp2
  go_ret
  exact ⟨rfl, Ext.refl _⟩
def OW (g : Nat) (xs : List Nat) (v : Value) (w : World) : Prop := ∃ P Q : List Nat, v = .slice (some ⟨g, P.length, none⟩) xs.length (xs.length + Q.length) /\ Blk w g 46 (U (P ++ xs ++ Q))
theorem mid_get (P L Q : List Nat) (k : Nat) (h : k < L.length) : (U (P ++ L ++ Q))[P.length + k]? = some (.int .u64 (L.getD k 0 : Nat)) := by
 rw [getD_U _ _ (by simp; omega), List.getD_eq_getElem?_getD, List.getD_eq_getElem?_getD, List.append_assoc, List.getElem?_append_right (by omega), Nat.add_sub_cancel_left, List.getElem?_append_left h]
theorem mid_set (P L Q : List Nat) (k y : Nat) (h : k < L.length) : (U (P ++ L ++ Q)).set (P.length + k) (.int .u64 (y : Nat)) = U (P ++ L.set k y ++ Q) := by
 rw [U_set, List.append_assoc, List.set_append_right _ _ (by omega), Nat.add_sub_cancel_left, List.set_append_left _ _ h, List.append_assoc]
theorem OW.ext {g : Nat} {xs : List Nat} {v : Value} {w w' : World} (h : OW g xs v w) (e : Ext w w') : OW g xs v w' := by
 obtain ⟨P, Q, rfl, hb⟩ := h
 exact ⟨P, Q, rfl, hb.ext e⟩
theorem OW.but {g g' : Nat} {xs : List Nat} {v : Value} {w w' : World} (h : OW g xs v w) (e : But g' w w') (hne : g ≠ g') : OW g xs v w' := by
 obtain ⟨P, Q, rfl, hb⟩ := h
 exact ⟨P, Q, rfl, e.blk hb hne⟩
theorem OW.lt {g : Nat} {xs : List Nat} {v : Value} {w : World} (h : OW g xs v w) : g < w.heap.size := by
 obtain ⟨P, Q, rfl, hb⟩ := h
 exact hb.lt
theorem OW.of_blk {g : Nat} {xs : List Nat} {w : World} (h : Blk w g 46 (U xs)) : OW g xs (.slice (some ⟨g, 0, none⟩) xs.length xs.length) w :=
 ⟨[], [], by simp, by simpa using h⟩
theorem OW.open {g : Nat} {xs : List Nat} {v : Value} {w : World} (h : OW g xs v w) : ∃ off c, v = .slice (some ⟨g, off, none⟩) xs.length c /\ xs.length <= c /\ ∀ i, i < xs.length -> w.cell? ⟨g, off + i, none⟩ = some (.int .u64 (xs.getD i 0 : Nat)) := by
 obtain ⟨P, Q, rfl, hb⟩ := h
 exact ⟨_, _, rfl, by omega, fun i hi => by rw [hb.cell, mid_get _ _ _ _ hi]⟩
theorem limbs_pad : ∀ {xs : List Nat}, Dig B64 xs -> ∃ r, xs = limbs B64 (val B64 xs) ++ List.replicate r 0 := by
 intro xs
 induction xs with
 | nil => intro _; exact ⟨0, by rw [val_nil, limbs_zero]; rfl⟩
 | cons x xs ih =>
  intro hd
  obtain ⟨r, hr⟩ := ih hd.tail
  by_cases h0 : val B64 (x :: xs) = 0
  ·rw [h0, limbs_zero]
   rw [val_cons] at h0
   have hx : x = 0 := by omega
   have hv : val B64 xs = 0 := by
    rcases Nat.mul_eq_zero.1 (show B64 * val B64 xs = 0 from by omega) with h | h
    ·unfold B64 at h; omega
    ·exact h
   rw [hv, limbs_zero] at hr
   exact ⟨r + 1, by rw [hx, List.replicate_succ, List.nil_append]; congr 1⟩
  ·have hx := hd.head
   refine ⟨r, ?_⟩
   rw [limbs_pos B64_two h0, val_cons, Nat.add_mul_mod_self_left, Nat.mod_eq_of_lt hx, Nat.add_mul_div_left _ _ (by unfold B64; omega), Nat.div_eq_of_lt hx, Nat.zero_add, List.cons_append, <- hr]
theorem OW.limbs {g : Nat} {P xs Q : List Nat} {w : World} (hd : Dig B64 xs) (hb : Blk w g 46 (U (P ++ xs ++ Q))) :
  OW g (limbs B64 (val B64 xs)) (.slice (some ⟨g, P.length, none⟩) (Go.Proofs.YtcbimkiiglgeeaaGreatDoor.limbs B64 (val B64 xs)).length (xs.length + Q.length)) w := by
 obtain ⟨r, hr⟩ := limbs_pad hd
 refine ⟨P, List.replicate r 0 ++ Q, ?_, ?_⟩
 ·have hl := congrArg List.length hr
  rw [List.length_append, List.length_replicate] at hl
  rw [List.length_append, List.length_replicate, <- Nat.add_assoc, <- hl]
 ·rw [<- List.append_assoc, List.append_assoc P, <- hr]
  exact hb
theorem wtrim_core (g off c : Nat) (xs : List Nat) (w : World) (hl : xs.length <= c) (hc : xs.length <= 1099511627776) (hd : Dig B64 xs) (hcell : ∀ i, i < xs.length -> w.cell? ⟨g, off + i, none⟩ = some (.int .u64 (xs.getD i 0 : Nat))) :
  Calls Tryz.prog 178 #[.slice (some ⟨g, off, none⟩) xs.length c] w fun e w' => e = .returned (.slice (some ⟨g, off, none⟩) (limbs B64 (val B64 xs)).length c) /\ w = w' := by
 have HC := Lib.hid hcell
 clear hcell
 go_enter Tryz.func178, Tryz.ntmps178
 go_wp2
 go_loop [0] (fun v => ∃ m : Nat, m <= xs.length /\ v = .slice (some ⟨g, off, none⟩) m c /\ Hid (val B64 (xs.take m) = val B64 xs)) (fun v => match v with | .slice _ n _ => n | _ => 0)
 case atStart => exact ⟨xs.length, Nat.le_refl _, rfl, Lib.hid (by rw [List.take_length])⟩
 case round =>
  obtain ⟨m, hm, rfl, hv⟩ := hrel
  by_cases hm0 : m = 0
  ·subst hm0
   go_wp2
   go_ret
   refine ⟨?_, rfl⟩
   have := trim_end B64_two hd hm hv.out (by omega)
   rw [this]; simp
  ·obtain ⟨m, rfl⟩ : ∃ k, m = k + 1 := ⟨m - 1, by omega⟩
   have hcm := HC.out m (by omega)
   by_cases hx : xs.getD m 0 = 0
   ·rw [hx] at hcm
    go_wp2
    go_round
    case rel => exact ⟨m, by omega, rfl, Lib.hid (by rw [<- trim_step hx]; exact hv.out)⟩
    case measure => simp
   ·have hb : ((xs.getD m 0 : Nat) : Int) ≠ 0 := by omega
    have hb' : (((xs.getD m 0 : Nat) : Int) == 0) = false := beq_eq_false_iff_ne.2 hb
    generalize hy : xs.getD m 0 = y at *
    have HY := Lib.hid hy
    clear hy
    go_wp2
    go_ret
    refine ⟨?_, rfl⟩
    have := trim_end B64_two hd hm hv.out (fun _ => by rw [Nat.add_sub_cancel, HY.out]; exact hx)
    rw [this, List.length_take, Nat.min_eq_left hm]
    rfl
theorem wtrim_ow {g : Nat} {xs : List Nat} {v : Value} {w : World} (h : OW g xs v w) (hl : xs.length <= 1099511627776) (hd : Dig B64 xs) :
  Calls Tryz.prog 178 #[v] w fun e w' => ∃ v', e = .returned v' /\ OW g (limbs B64 (val B64 xs)) v' w /\ w = w' := by
 obtain ⟨P, Q, rfl, hb⟩ := h
 refine (wtrim_core g P.length (xs.length + Q.length) xs w (by omega) hl hd (fun i hi => by rw [hb.cell, mid_get _ _ _ _ hi])).mono ?_
 rintro e w' ⟨rfl, rfl⟩
 exact ⟨_, rfl, OW.limbs hd hb, rfl⟩
def Tab64 (w : World) : Prop := TabAt 2 Lib.deBruijn64tab w
theorem Tab64.ext {w w' : World} (h : Tab64 w) (e : Ext w w') : Tab64 w' := fun i hi => e.keep (h i hi)
theorem Tab64.but {g : Nat} {w w' : World} (h : Tab64 w) (e : But g w w') (hne : g ≠ 2) : Tab64 w' := fun i hi =>
 (World.cell?_of_block (a := ⟨_, i, none⟩) (e.block _ (World.block_lt_of_cell? _ _ (h i hi)) (fun e' => by injection e' with e'; exact hne e'.symm))).trans (h i hi)
theorem tz64_core (x k idx : Nat) (w : World) (hx0 : ((x : Int) == 0) = false)
  (key : IntKind.u64.wrap (bits BinOp.and IntKind.u64 (x : Int) (IntKind.u64.wrap (-(x : Int))) * 285870213051353865) / 288230376151711744 = (idx : Int))
  (hi : idx < 64) (hk : k < 64) (hcell : w.cell? ⟨2, idx, none⟩ = some (.int .u8 k)) :
  Calls Tryz.prog 177 #[.int .u64 x] w fun e w' => e = .returned (.int .i64 k) /\ w' = w := by
 go_enter Tryz.func177, Tryz.ntmps177
 go_wp2_with (simp only [key])
 go_ret
 exact ⟨rfl, rfl⟩
theorem tz64_any (x : Nat) (hx0 : x ≠ 0) (hx : x < B64) (w : World) (ht : Tab64 w) : Calls Tryz.prog 177 #[.int .u64 x] w fun e w' => e = .returned (.int .i64 (Lib.ctz 64 x)) /\ w' = w := by
 obtain ⟨hlow, hk⟩ := Lib.lowest_bit 64 x hx0 hx
 obtain ⟨hi, htab⟩ := Lib.deBruijn64_at _ hk
 have hcell := ht _ hi
 rw [htab] at hcell
 exact tz64_core x _ _ w (by simp; omega) (tz64_key x _ hx hx0 hlow) hi hk hcell
theorem rep_getD0 (i j x : Nat) (ys : List Nat) (h : j < i) : (List.replicate i 0 ++ x :: ys).getD j 0 = 0 := by
 rw [List.getD_eq_getElem?_getD, List.getElem?_append_left (by simpa using h)]
 simp [h]
theorem rep_getDx (i x : Nat) (ys : List Nat) : (List.replicate i 0 ++ x :: ys).getD i 0 = x := by
 rw [List.getD_eq_getElem?_getD, List.getElem?_append_right (by simp)]
 simp
theorem wzeros_core (g off c i x : Nat) (ys xs : List Nat) (he : xs = List.replicate i 0 ++ x :: ys) (w : World) (hc : xs.length <= 1099511627776) (h0 : x ≠ 0) (hx : x < B64) (ht : Tab64 w)
  (hcell : ∀ i, i < xs.length -> w.cell? ⟨g, off + i, none⟩ = some (.int .u64 (xs.getD i 0 : Nat))) :
  Calls Tryz.prog 156 #[.slice (some ⟨g, off, none⟩) xs.length c] w fun e w' => e = .returned (.int .i64 (64 * i + Lib.ctz 64 x : Nat)) /\ w = w' := by
 have HC := Lib.hid hcell
 have hi : i < xs.length := by rw [he]; simp
 have H0 : Hid (∀ j, j < i -> xs.getD j 0 = 0) := Lib.hid (fun j hj => by rw [he]; exact rep_getD0 i j x ys hj)
 have HX : Hid (xs.getD i 0 = x) := Lib.hid (by rw [he]; exact rep_getDx i x ys)
 have hk : Lib.ctz 64 x < 64 := (Lib.lowest_bit 64 x h0 hx).2
 have HT := Lib.hid (tz64_any x h0 hx w ht)
 have hb' : ((x : Int) == 0) = false := beq_eq_false_iff_ne.2 (by omega)
 clear he hcell ht h0
 generalize Lib.ctz 64 x = cz at *
 go_enter Tryz.func156, Tryz.ntmps156
 go_wp2
 go_loop [3] (fun v => ∃ m : Nat, m <= i /\ v = .int .i64 m) (fun v => i - (intOf v).toNat)
 case atStart => exact ⟨0, Nat.zero_le _, rfl⟩
 case round =>
  obtain ⟨m, hm, rfl⟩ := hrel
  by_cases hmi : m = i
  ·subst hmi
   have hcm := HC.out m hi
   rw [HX.out] at hcm
   go_wp2_with (go_at_call 177; refine (HT.out).mono ?_; rintro e w' ⟨rfl, rfl⟩)
   go_ret
   exact ⟨ret_int (by push_cast; omega), rfl⟩
  ·have hcm := HC.out m (by omega)
   rw [H0.out m (by omega)] at hcm
   go_wp2
   go_round
   case rel => exact ⟨m + 1, by omega, by go_num⟩
   case measure => simp [intOf]; omega
theorem wzeros_any (g off c : Nat) (xs : List Nat) (w : World) (hc : xs.length <= 1099511627776) (hd : Dig B64 xs) (hv : 0 < val B64 xs) (ht : Tab64 w)
  (hcell : ∀ i, i < xs.length -> w.cell? ⟨g, off + i, none⟩ = some (.int .u64 (xs.getD i 0 : Nat))) :
  Calls Tryz.prog 156 #[.slice (some ⟨g, off, none⟩) xs.length c] w fun e w' => e = .returned (.int .i64 (tw (val B64 xs) : Nat)) /\ w = w' := by
 obtain ⟨i, x, ys, he, h0⟩ := first_word hv
 have hx : x < B64 := hd x (by rw [he]; simp)
 have h := wzeros_core g off c i x ys xs he w hc h0 hx ht hcell
 rw [show tw (val B64 xs) = 64 * i + Lib.ctz 64 x from by rw [he]; exact tw_zeros i ys h0 hx]
 exact h
def dnMix (p : Nat) (ys : List Nat) (k : Nat) : List Nat := (dn p ys).take k ++ ys.drop k
theorem dnMix_length (p : Nat) (ys : List Nat) (k : Nat) : (dnMix p ys k).length = ys.length := by
 unfold dnMix
 rw [List.length_append, List.length_take, dn_length, List.length_drop]
 omega
theorem dnMix_get (p : Nat) (ys : List Nat) (k i : Nat) (h : k <= i) (hi : i < ys.length) : (dnMix p ys k).getD i 0 = ys.getD i 0 := by
 unfold dnMix
 rw [List.getD_eq_getElem?_getD, List.getD_eq_getElem?_getD, List.getElem?_append_right (by rw [List.length_take, dn_length]; omega), List.length_take, dn_length, Nat.min_eq_left (by omega), List.getElem?_drop]
 congr 2; omega
theorem dnMix_set (p : Nat) (ys : List Nat) (k : Nat) (h : k < ys.length) : (dnMix p ys k).set k (dnW (ys.getD k 0) (ys.getD (k + 1) 0) p) = dnMix p ys (k + 1) := by
 unfold dnMix
 have hl : ((dn p ys).take k).length = k := by rw [List.length_take, dn_length]; omega
 rw [List.set_append_right _ _ (by omega), hl, Nat.sub_self, List.drop_eq_getElem_cons h, List.set_cons_zero, List.take_succ_eq_append_getElem (by rw [dn_length]; exact h), dn_get, List.append_assoc]
 rfl
theorem dnMix_all (p : Nat) (ys : List Nat) : dnMix p ys ys.length = dn p ys := by
 unfold dnMix
 rw [List.drop_length, List.append_nil, List.take_of_length_le (by rw [dn_length]; exact Nat.le_refl _)]
theorem wdown_any (g : Nat) (xs : List Nat) (v : Value) (w : World) (h : OW g xs v w) (hd : Dig B64 xs) (hv : 0 < val B64 xs) (hl : xs.length <= 10000000000) (ht : Tab64 w) :
  Calls Tryz.prog 157 #[v] w fun e w' => ∃ v', e = .returned v' /\ OW g (limbs B64 (od (val B64 xs))) v' w' /\ But g w w' := by
 obtain ⟨P, Q, rfl, hb⟩ := h
 have hdl : tw (val B64 xs) < 64 * xs.length := tw_lt_bl hv (by have := val_lt hd; rw [B64_pow] at this; exact this)
 have HZ := Lib.hid (wzeros_any g P.length (xs.length + Q.length) xs w (by omega) hd hv ht (fun i hi => by rw [hb.cell, mid_get _ _ _ _ hi]))
 have hdn := dn_all hd (tw (val B64 xs)) (by omega)
 have hod : od (val B64 xs) = val B64 xs / 2 ^ tw (val B64 xs) := rfl
 rw [hod, <- hdn]
 clear hod hdn ht
 generalize tw (val B64 xs) = d at *
 have hqx : d / 64 < xs.length := by omega
 obtain ⟨P', hP'⟩ : ∃ P', P ++ xs.take (d / 64) = P' := ⟨_, rfl⟩
 obtain ⟨ys, hys⟩ : ∃ ys, xs.drop (d / 64) = ys := ⟨_, rfl⟩
 have hPl : P'.length = P.length + d / 64 := by rw [<- hP']; simp; omega
 have hyl : ys.length = xs.length - d / 64 := by rw [<- hys]; simp
 have hbb : Blk w g 46 (U (P' ++ ys ++ Q)) := by
  rw [<- hP', <- hys, List.append_assoc P, List.take_append_drop]; exact hb
 have hdy : Dig B64 ys := by rw [<- hys]; exact hd.drop _
 rw [hys]
 have HT : Hid (∀ W, OW g (dn (d % 64) ys) (.slice (some ⟨g, P'.length, none⟩) ys.length (ys.length + Q.length)) W -> Calls Tryz.prog 178 #[.slice (some ⟨g, P'.length, none⟩) ys.length (ys.length + Q.length)] W fun e w' => ∃ v', e = .returned v' /\ OW g (limbs B64 (val B64 (dn (d % 64) ys))) v' W /\ W = w') :=
  Lib.hid fun W hW => wtrim_ow hW (by rw [dn_length]; omega) (dn_dig (by omega) hdy)
 have hcap : ys.length + Q.length = xs.length + Q.length - d / 64 := by omega
 rw [hPl, hcap, hyl] at HT
 have HB : Hid (Blk w g 46 (U (P' ++ dnMix (d % 64) ys 0 ++ Q))) := Lib.hid (by unfold dnMix; rw [List.take_zero, List.drop_zero, List.nil_append]; exact hbb)
 have HDY := Lib.hid hdy
 have HPL := Lib.hid hPl
 have HYL := Lib.hid hyl
 have HCAP := Lib.hid hcap
 clear hP' hys hb hv hd hbb hdy hdl hcap hPl hyl
 go_enter Tryz.func157, Tryz.ntmps157
 go_wp2_with fail
 refine (HZ.out).mono ?_
 rintro e w1 ⟨rfl, rfl⟩
 go_wp2
 go_loopw [16] (fun i wr => ∃ k : Nat, k <= xs.length - d / 64 /\ i = .int .i64 k /\ Hid (Blk wr g 46 (U (P' ++ dnMix (d % 64) ys k ++ Q))) /\ Hid (But g w wr)) (fun i _ => xs.length - d / 64 - (intOf i).toNat)
 case atStart => exact ⟨0, Nat.zero_le _, rfl, HB, Lib.hid (But.refl _ _)⟩
 case round =>
  obtain ⟨k, hk, rfl, hbk, hbut⟩ := hrel
  by_cases hkx : k < xs.length - d / 64
  ·have hky : k < ys.length := by have := HYL.out; omega
   have hml := dnMix_length (d % 64) ys k
   have hc1 : wr.cell? ⟨g, P.length + d / 64 + k, none⟩ = some (.int .u64 (ys.getD k 0 : Nat)) := by
    rw [hbk.out.cell, <- HPL.out, mid_get _ _ _ _ (by omega), dnMix_get _ _ _ _ (Nat.le_refl _) hky]
   have hc2 : k + 1 < ys.length -> wr.cell? ⟨g, P.length + d / 64 + (k + 1), none⟩ = some (.int .u64 (ys.getD (k + 1) 0 : Nat)) := fun h => by
    rw [hbk.out.cell, <- HPL.out, mid_get _ _ _ _ (by omega), dnMix_get _ _ _ _ (by omega) h]
   have hf1 : wr.frozen? ⟨g, P.length + d / 64 + k, none⟩ = false := hbk.out.frozen _
   have hxd : ys.getD k 0 < B64 := HDY.out.getD (by unfold B64; omega) _
   have HSET : Hid (∀ z : Nat, z = dnW (ys.getD k 0) (ys.getD (k + 1) 0) (d % 64) -> (U (P' ++ dnMix (d % 64) ys k ++ Q)).set (P.length + d / 64 + k) (.int .u64 (z : Nat)) = U (P' ++ dnMix (d % 64) ys (k + 1) ++ Q)) := Lib.hid fun z hz => by
    subst hz
    rw [<- HPL.out, mid_set _ _ _ _ _ (by omega), dnMix_set _ _ _ hky]
   clear hml
   by_cases hk2 : k + 1 < xs.length - d / 64
   ·have hc2' := hc2 (by have := HYL.out; omega)
    clear hc2
    generalize ys.getD k 0 = x at *
    generalize ys.getD (k + 1) 0 = x2 at *
    go_wp2
    have hb2 := hbk.out.set (P.length + d / 64 + k) (.int .u64 ((x / 2 ^ (d % 64) : Nat) : Int))
    have hbut2 := hbut.out.set (P.length + d / 64 + k) (.int .u64 ((x / 2 ^ (d % 64) : Nat) : Int))
    have hc2w : (wr.setCell ⟨g, P.length + d / 64 + k, none⟩ (.int .u64 ((x / 2 ^ (d % 64) : Nat) : Int))).cell? ⟨g, P.length + d / 64 + (k + 1), none⟩ = some (.int .u64 x2) :=
     (World.cell?_setCell_other wr _ _ _ (fun e => by injection e with _ e; omega)).trans hc2'
    have ev : (x : Int) / 2 ^ (d % 64) = ((x / 2 ^ (d % 64) : Nat) : Int) := by push_cast; rfl
    rw [ev]
    have hx2 : (wr.setCell ⟨g, P.length + d / 64 + k, none⟩ (.int .u64 ((x / 2 ^ (d % 64) : Nat) : Int))).cell? ⟨g, P.length + d / 64 + k, none⟩ = some (.int .u64 ((x / 2 ^ (d % 64) : Nat) : Int)) := by
     rw [hb2.cell, List.getElem?_set_self]
     have := hbk.out.cell (P.length + d / 64 + k)
     rw [hc1] at this
     exact (List.getElem?_eq_some_iff.1 this.symm).1
    generalize wr.setCell ⟨g, P.length + d / 64 + k, none⟩ (.int .u64 ((x / 2 ^ (d % 64) : Nat) : Int)) = W2 at *
    have hf2 : W2.frozen? ⟨g, P.length + d / 64 + k, none⟩ = false := hb2.frozen _
    have HB2 := Lib.hid hb2
    have HBUT2 := Lib.hid hbut2
    generalize hxq : x / 2 ^ (d % 64) = xq at *
    have HXQ := Lib.hid hxq
    clear hb2 hbut2 hbk hbut hc1 hc2' hf1 hxq ev
    have hval := dnW_or (y := x) (y' := x2) (p := d % 64) (by omega) hxd
    rw [HXQ.out] at hval
    have HVAL := Lib.hid hval
    clear hval
    go_region
    rw [HVAL.out]
    go_wp2
    go_roundw
    case rel =>
     refine ⟨k + 1, by omega, by go_num, Lib.hid ?_, Lib.hid ((HBUT2.out.set _ _).trans (But.of_ext (Ext.refl _).drew))⟩
     have h := HB2.out.set (P.length + d / 64 + k) (.int .u64 (dnW x x2 (d % 64) : Nat))
     rw [List.set_set, HSET.out _ rfl] at h
     exact h
    case measure => simp [intOf]; omega
   ·have hx20 : ys.getD (k + 1) 0 = 0 := getD_ge _ _ (by have := HYL.out; omega)
    rw [hx20] at HSET
    clear hc2 hx20
    generalize ys.getD k 0 = x at *
    have ev : (x : Int) / 2 ^ (d % 64) = ((dnW x 0 (d % 64) : Nat) : Int) := by unfold dnW; rw [Nat.zero_mod, Nat.mul_zero, Nat.add_zero]; push_cast; rfl
    have EV := Lib.hid ev
    clear ev
    go_wp2
    rw [EV.out]
    go_roundw
    case rel =>
     refine ⟨k + 1, by omega, by go_num, Lib.hid ?_, Lib.hid (hbut.out.set _ _)⟩
     have h := hbk.out.set (P.length + d / 64 + k) (.int .u64 (dnW x 0 (d % 64) : Nat))
     rw [HSET.out _ rfl] at h
     exact h
    case measure => simp [intOf]; omega
  ·obtain rfl : k = xs.length - d / 64 := by omega
   have hb := hbk.out
   have hyl := HYL.out
   rw [<- hyl, dnMix_all] at hb
   have how : OW g (dn (d % 64) ys) (.slice (some ⟨g, P.length + d / 64, none⟩) (xs.length - d / 64) (xs.length + Q.length - d / 64)) wr :=
    ⟨P', Q, by rw [HPL.out, dn_length, hyl, <- HCAP.out, hyl], hb⟩
   have HC2 := Lib.hid (HT.out wr how)
   clear hb hyl how
   go_wp2_with fail
   refine (HC2.out).mono ?_
   rintro e w3 ⟨v', rfl, how, rfl⟩
   go_wp2
   go_ret
   exact ⟨_, rfl, how, hbut.out⟩
theorem tab64Name : Tryz.prog.globalNamed "math/bits.deBruijn64tab" = some 2 := by kernel_rfl
def tab64I : List Int := List.map (fun n : Nat => (n : Int)) Lib.deBruijn64tab
theorem tab64_of_is {w : World} (h : Lib.TabIs Tryz.prog w "math/bits.deBruijn64tab" .u8 tab64I) : Tab64 w := fun j hj => by
 rw [h.cell tab64Name j (by unfold tab64I; rw [List.length_map]; exact hj)]
 unfold tab64I
 simp [List.getD_eq_getElem?_getD, List.getElem?_map, List.getElem?_eq_getElem hj]
theorem tab64_head {W : World} {rest : List (String × DataW Unit)} {d : DataW Unit} (e : d = Lib.tabData .u8 tab64I) (h : laidMet Tryz.prog (("math/bits.deBruijn64tab", d) :: rest) W) : Tab64 W := by
 subst e
 exact tab64_of_is (Lib.tabIs_of_head tab64Name (by kernel_rfl) Tryz.underlying206 Tryz.underlying5 (by kernel_rfl) (by kernel_rfl) h)
end Go.Proofs.YtcbimkiiglgeeaaGreatDoor
namespace Go.Proofs.YtcbimkiiglgeeaaGreatDoor.AM
open Go.RowKit
def T0 : Tys := ⟨48, 50, 52, 56, 58, 60⟩
noncomputable def cfg (L : List Ctr) (M : List CtrM := []) : Cfg := ⟨Tryz.prog, T0, Tab64, L, M, 0, fun _ => undef⟩
theorem tbK : TbK Tab64 := fun w w' k h i hi => by
 have hc := h i hi
 have hlt := cell_lt hc
 exact (World.cell?_of_block (a := ⟨_, i, none⟩) (k.blk _ hlt (.inr ⟨i, _, hc, rfl⟩))).trans hc
def AllOk : List Ctr -> Prop
 | [] => True
 | c :: l => CtrOk (cfg []) c /\ AllOk l
theorem AllOk.at : ∀ {l : List Ctr} {L : List Ctr}, AllOk l -> ∀ ct ∈ l, CtrOk (cfg L) ct
 | [], _, _, _, h => by cases h
 | c :: l, L, h, ct, hm => by
  rcases List.mem_cons.1 hm with e | hm
  ·rw [e]; exact ⟨h.1.ent, h.1.ok⟩
  ·exact AllOk.at h.2 ct hm
def AllOkM : List CtrM -> Prop
 | [] => True
 | c :: l => CtrMOk (cfg []) c /\ AllOkM l
theorem noM : AllOkM [] := trivial
structure Pf (p : Prop) : Prop where
 h : p
theorem pfOf {p q : Prop} (e : p = q) (h : q) : Pf p := by subst e; exact ⟨h⟩
theorem AllOkM.at : ∀ {l : List CtrM} {C : Cfg}, C.P = Tryz.prog -> C.Tb = Tab64 -> AllOkM l -> ∀ ct ∈ l, CtrMOk C ct
 | [], _, _, _, _, _, h => by cases h
 | c :: l, ⟨_, _, _, _, _, _, _⟩, rfl, rfl, h, ct, hm => by
  rcases List.mem_cons.1 hm with e | hm
  ·rw [e]; exact ⟨h.1.ent, h.1.ok⟩
  ·exact AllOkM.at rfl rfl h.2 ct hm
theorem cok {L : List Ctr} {M : List CtrM} (hL : AllOk L) (hM : AllOkM M) : COk (cfg L M) := ⟨fun ct hm => ⟨(hL.at (L := L) ct hm).ent, (hL.at (L := L) ct hm).ok⟩, hM.at rfl rfl⟩
theorem fnC {L : List Ctr} {M : List CtrM} {ct : Ctr} {fn : Func} (hL : AllOk L) (hM : AllOkM M) (hf : Tryz.prog.funcs[ct.f]? = some fn) (hb : fn.body = some (fn.body.getD .skip)) (hn : (fn.name == "runtime.NumGoroutine") = false) (hfr : ct.fresh = false) (hl : Nat.ble fn.results.size 3 = true)
  (H : ∀ args g r hn, ct.c args = some (g, r, hn) -> optP g -> FitsL args -> hn = [] /\ Nat.ble args.length fn.ntmps = true /\ ∃ A, awp (cfg L M) A fn.ntmps (fn.body.getD .skip) (retQ (cfg L M) fn.results.toList r) ⟨argSl 0 args, []⟩) : CtrOk (cfg []) ct :=
 have h : CtrOk (cfg L M) ct := fn_ok (C := cfg L M) tbK (cok hL hM) hf hb (enters_of hf hn hb) rfl hfr (Nat.le_of_ble_eq_true hl) fun args g r hn hc hg hft => by
  obtain ⟨h1, h2, h3⟩ := H args g r hn hc hg hft
  exact ⟨h1, Nat.le_of_ble_eq_true h2, h3⟩
 ⟨h.ent, h.ok⟩
theorem fnCN {L : List Ctr} {M : List CtrM} {ct : Ctr} {fn : Func} (hL : AllOk L) (hM : AllOkM M) (hf : Tryz.prog.funcs[ct.f]? = some fn) (hb : fn.body = some (fn.body.getD .skip)) (hn : (fn.name == "runtime.NumGoroutine") = false) (hfr : ct.fresh = false)
  (H : ∀ args g r hn, ct.c args = some (g, r, hn) -> optP g -> FitsL args -> Nat.ble args.length fn.ntmps = true /\ ∃ ob X A, hn = [ob] /\ obOwn ob = true /\ okR r = true /\ awp (cfg L M) A fn.ntmps (fn.body.getD .skip) (retQN fn.results.toList r X ob) ⟨argSl 0 args, []⟩) : CtrOk (cfg []) ct :=
 have h : CtrOk (cfg L M) ct := fn_okN (C := cfg L M) tbK (cok hL hM) hf hb (enters_of hf hn hb) rfl hfr fun args g r hn hc hg hft => by
  obtain ⟨h1, h2⟩ := H args g r hn hc hg hft
  exact ⟨Nat.le_of_ble_eq_true h1, h2⟩
 ⟨h.ent, h.ok⟩
theorem VL.one {ok : Nat -> Prop} {w : World} {β : Bm} {a : AV} {vs : List Value} (h : VL ok w β [a] vs) : ∃ u, vs = [u] /\ VRel ok w β a u := by
 match vs, h with
 | [u], h => exact ⟨u, rfl, h.1⟩
theorem VL.two {ok : Nat -> Prop} {w : World} {β : Bm} {a b : AV} {vs : List Value} (h : VL ok w β [a, b] vs) : ∃ u v, vs = [u, v] /\ VRel ok w β a u /\ VRel ok w β b v := by
 match vs, h with
 | [u, v], h => exact ⟨u, v, rfl, h.1, h.2.1⟩
abbrev Gv (r : AV) (w : World) (e : Ending) (w' : World) : Prop := ∃ v, e = .returned v /\ Ext w w' /\ VRel (fun _ => False) w' β0 r v
theorem ctr_gen {L : List Ctr} {ct : Ctr} (hent : ∀ args w, (callFunc ct.f args).run Tryz.prog w = .ok (.enter ct.f args) w)
  (H : ∀ args g r hn, ct.c args = some (g, r, hn) -> optP g -> hn = [] /\ r.flat = true /\ ∀ (F : Nat -> Prop) w vs, Tab64 w -> VL F w β0 args vs -> Calls Tryz.prog ct.f vs.toArray w (Gv r w)) : CtrOk (cfg L) ct where
 ent := hent
 ok args g r hn hc hg F w vs htb hvs := by
  obtain ⟨rfl, hfl, h⟩ := H args g r hn hc hg
  refine Calls.mono (h F w vs htb hvs) fun e w' hr => ?_
  obtain ⟨v, rfl, hext, c, h3, h4⟩ := hr
  have nob : ∀ {g}, ¬ OB β0 [] g := fun h => by obtain ⟨_, _, _, _, h, _⟩ := h; cases h
  exact ⟨v, β0, rfl, ⟨.of_ext hext, fun g hg => (nob hg).elim, fun _ _ _ _ _ _ _ _ _ h => (by cases h), fun _ _ h => (by cases h), tbK _ _ (Kp.of_ext hext) htb⟩, c, h3.flat hfl, h4⟩
def on1 (K : Kd) (g : K.T -> Option Prop) (r : K.T -> AV) : List AV -> Option (Option Prop × AV × List Ob)
 | [.k K' x] => if h : K' = K then some (g (h ▸ x), r (h ▸ x), []) else none
 | _ => none
def on2 (K J : Kd) (g : K.T -> J.T -> Option Prop) (r : K.T -> J.T -> AV) : List AV -> Option (Option Prop × AV × List Ob)
 | [.k K' x, .k J' y] => if h : K' = K then (if h' : J' = J then some (g (h ▸ x) (h' ▸ y), r (h ▸ x) (h' ▸ y), []) else none) else none
 | _ => none
theorem on1_ok {L : List Ctr} {f : FuncId} {K : Kd} {g : K.T -> Option Prop} {r : K.T -> AV} (hent : ∀ args w, (callFunc f args).run Tryz.prog w = .ok (.enter f args) w) (hfl : ∀ x, (r x).flat = true)
  (h : ∀ (F : Nat -> Prop) x u w, optP (g x) -> Tab64 w -> VRel F w β0 (.k K x) u -> Calls Tryz.prog f #[u] w (Gv (r x) w)) : CtrOk (cfg L) ⟨f, false, on1 K g r⟩ :=
 ctr_gen hent fun args g' r' hn hc hg => by
  replace hc : on1 K g r args = some (g', r', hn) := hc
  unfold on1 at hc
  split at hc
  ·split at hc
   ·rename_i K' x e
    subst e
    injection hc with hc; injection hc with h1 hc; injection hc with h2 h3
    subst h1; subst h2; subst h3
    refine ⟨rfl, hfl _, fun F w vs ht hv => ?_⟩
    obtain ⟨u, rfl, h4⟩ := hv.one
    exact h F x u w hg ht h4
   ·cases hc
  ·cases hc
theorem on2_ok {L : List Ctr} {f : FuncId} {K J : Kd} {g : K.T -> J.T -> Option Prop} {r : K.T -> J.T -> AV} (hent : ∀ args w, (callFunc f args).run Tryz.prog w = .ok (.enter f args) w) (hfl : ∀ x y, (r x y).flat = true)
  (h : ∀ (F : Nat -> Prop) x y u v w, optP (g x y) -> Tab64 w -> VRel F w β0 (.k K x) u -> VRel F w β0 (.k J y) v -> Calls Tryz.prog f #[u, v] w (Gv (r x y) w)) : CtrOk (cfg L) ⟨f, false, on2 K J g r⟩ :=
 ctr_gen hent fun args g' r' hn hc hg => by
  replace hc : on2 K J g r args = some (g', r', hn) := hc
  unfold on2 at hc
  split at hc
  ·split at hc
   ·split at hc
    ·rename_i K' x J' y e e'
     subst e; subst e'
     injection hc with hc; injection hc with h1 hc; injection hc with h2 h3
     subst h1; subst h2; subst h3
     refine ⟨rfl, hfl _ _, fun F w vs ht hv => ?_⟩
     obtain ⟨u, v, rfl, h4, h5⟩ := hv.two
     exact h F x y u v w hg ht h4 h5
    ·cases hc
   ·cases hc
  ·cases hc
theorem condD {p : Prop} [Decidable p] {X Y : Prop} (h1 : p -> X) (h2 : ¬ p -> Y) : cond (decide p) X Y := by
 by_cases h : p
 ·rw [decide_eq_true h]; exact h1 h
 ·rw [decide_eq_false h]; exact h2 h
theorem condN {p : Prop} [Decidable p] {X Y : Prop} (h1 : ¬ p -> X) (h2 : p -> Y) : cond (!decide p) X Y := by
 by_cases h : p
 ·rw [decide_eq_true h]; exact h2 h
 ·rw [decide_eq_false h]; exact h1 h
theorem condB {b : Bool} {X Y : Prop} (h1 : b = true -> X) (h2 : b = false -> Y) : cond b X Y := by
 cases b with
 | true => exact h1 rfl
 | false => exact h2 rfl
end Go.Proofs.YtcbimkiiglgeeaaGreatDoor.AM
namespace Go.Proofs.YtcbimkiiglgeeaaGreatDoor
open Go.RowKit
theorem cmpN_at64 {a b j : Nat} (h : (limbs B64 a).length = (limbs B64 b).length) (hj : j < (limbs B64 a).length) (hd : (limbs B64 a).drop (j + 1) = (limbs B64 b).drop (j + 1))
  (hne : (limbs B64 a).getD j 0 ≠ (limbs B64 b).getD j 0) : cmpN ((limbs B64 a).getD j 0) ((limbs B64 b).getD j 0) = cmpN a b := by
 have hjb : j < (limbs B64 b).length := by omega
 have da := limbs_dig B64_two a
 have db := limbs_dig B64_two b
 have va := val_limbs B64_two a
 have vb := val_limbs B64_two b
 rw [getD_lt _ _ hj, getD_lt _ _ hjb] at hne ⊢
 rcases Nat.lt_or_ge (limbs B64 a)[j] (limbs B64 b)[j] with h' | h'
 ·have := val_lt_at da h hj hd h'
  rw [va, vb] at this
  rw [cmpN_lt this, cmpN_lt h']
 ·have h' : (limbs B64 b)[j] < (limbs B64 a)[j] := by omega
  have := val_lt_at db h.symm hjb hd.symm h'
  rw [va, vb] at this
  rw [cmpN_gt this, cmpN_gt h']
theorem wcompare_any (g1 g2 a b : Nat) (v1 v2 : Value) (w : World) (h1 : OW g1 (limbs B64 a) v1 w) (h2 : OW g2 (limbs B64 b) v2 w) (ha : bl a <= 549755813888) (hb : bl b <= 549755813888) :
  Calls Tryz.prog 158 #[v1, v2] w (Ret (.int .i64 (cmpN a b)) w) := by
 have hla := limbs_len a ha
 have hlb := limbs_len b hb
 have hda := limbs_dig B64_two a
 have hdb := limbs_dig B64_two b
 obtain ⟨off, c, rfl, _, hh⟩ := h1.open
 obtain ⟨off', c', rfl, _, hh'⟩ := h2.open
 clear h1 h2
 rcases Nat.lt_trichotomy (limbs B64 a).length (limbs B64 b).length with h | h | h
 ·rw [cmpN_lt (lt_of_limbs B64_two h)]
  have e1 : (((limbs B64 a).length : Int) != ((limbs B64 b).length : Int)) = true := by simp; omega
  clear hh hh' hda hdb ha hb
  generalize (limbs B64 a).length = p at *
  generalize (limbs B64 b).length = q at *
  go_enter Tryz.func158, Tryz.ntmps158
  go_wp2
  go_ret
  exact ⟨rfl, Ext.refl _⟩
 ·have hR := fun j hj hd hne => cmpN_at64 (a := a) (b := b) (j := j) h hj hd hne
  have hE : limbs B64 a = limbs B64 b -> cmpN a b = 0 := fun e => by
   have : a = b := by rw [<- val_limbs B64_two a, <- val_limbs B64_two b, e]
   subst this
   unfold cmpN; simp
  have e1 : (((limbs B64 a).length : Int) != ((limbs B64 b).length : Int)) = false := by simp; omega
  clear ha hb
  generalize limbs B64 a = xs at *
  generalize limbs B64 b = ys at *
  generalize cmpN a b = r at *
  have HH := Lib.hid hh
  have HH' := Lib.hid hh'
  have HDA := Lib.hid hda
  have HDB := Lib.hid hdb
  have HRR := Lib.hid hR
  have HEE := Lib.hid hE
  have HL := Lib.hid h
  clear hh hh' hda hdb hR hE h
  go_enter Tryz.func158, Tryz.ntmps158
  go_wp2
  go_loopw [5] (fun i wr => ∃ j : Nat, j <= xs.length /\ i = .int .i64 ((j : Int) - 1) /\ Hid (xs.drop j = ys.drop j) /\ Hid (Ext w wr)) (fun i _ => (intOf i + 1).toNat)
  case atStart => exact ⟨xs.length, Nat.le_refl _, rfl, Lib.hid (by rw [List.drop_length, HL.out, List.drop_length]), Lib.hid (Ext.refl w)⟩
  case round =>
   obtain ⟨j, hj, rfl, hd, hex⟩ := hrel
   by_cases hj0 : j = 0
   ·subst hj0
    have HE0 := Lib.hid (HEE.out (by simpa using hd.out))
    go_wp2
    go_ret
    exact ⟨ret_int HE0.out.symm, hex.out⟩
   ·obtain ⟨j, rfl⟩ : ∃ k, j = k + 1 := ⟨j - 1, by omega⟩
    rw [show ((j + 1 : Nat) : Int) - 1 = (j : Int) from by omega]
    have hjx : j < xs.length := by omega
    have hjy : j < ys.length := by have := HL.out; omega
    have hcx := hex.out.keep (HH.out j hjx)
    have hcy := hex.out.keep (HH'.out j hjy)
    have hxd : xs.getD j 0 < B64 := HDA.out.getD (by unfold B64; omega) j
    have hyd : ys.getD j 0 < B64 := HDB.out.getD (by unfold B64; omega) j
    have hdd : xs.getD j 0 = ys.getD j 0 -> xs.drop j = ys.drop j := fun e => by
     rw [List.drop_eq_getElem_cons hjx, List.drop_eq_getElem_cons hjy, hd.out, <- getD_lt _ _ hjx, <- getD_lt _ _ hjy, e]
    have hR := HRR.out j hjx hd.out
    have HDD := Lib.hid hdd
    have HR2 := Lib.hid hR
    clear hdd hR hd
    generalize xs.getD j 0 = x at *
    generalize ys.getD j 0 = y at *
    rcases Nat.lt_trichotomy x y with hlt | he | hlt
    ·have hr : r = -1 := by rw [<- HR2.out (by omega), cmpN_lt hlt]
     have hb1 : ((x : Int) != (y : Int)) = true := by simp; omega
     have hb2 : (x : Int) < (y : Int) := by omega
     have HR3 := Lib.hid hr
     clear hr
     go_wp2
     go_quiet (fail)
     rename_i nq
     have hcx' : (wr.drewN nq).cell? ⟨g1, off + j, none⟩ = some (.int .u64 x) := hcx
     have hcy' : (wr.drewN nq).cell? ⟨g2, off' + j, none⟩ = some (.int .u64 y) := hcy
     have HEX := Lib.hid (hex.out.drewN nq)
     clear hex hcx hcy
     generalize wr.drewN nq = W6 at *
     go_wp2
     go_quiet (fail)
     go_wp2
     go_ret
     exact ⟨ret_int HR3.out.symm, HEX.out.drewN _⟩
    ·subst he
     have hb1 : ((x : Int) != (x : Int)) = false := by simp
     go_wp2
     go_quiet (fail)
     go_wp2
     go_roundw
     case rel => exact ⟨j, by omega, rfl, Lib.hid (HDD.out (by simp)), Lib.hid (hex.out.drewN _)⟩
     case measure => simp [intOf]
    ·have hr : r = 1 := by rw [<- HR2.out (by omega), cmpN_gt hlt]
     have hb1 : ((x : Int) != (y : Int)) = true := by simp; omega
     have hb2 : decide (x < y) = false := decide_eq_false (by omega)
     have HR3 := Lib.hid hr
     clear hr
     go_wp2
     go_quiet (fail)
     rename_i nq
     have hcx' : (wr.drewN nq).cell? ⟨g1, off + j, none⟩ = some (.int .u64 x) := hcx
     have hcy' : (wr.drewN nq).cell? ⟨g2, off' + j, none⟩ = some (.int .u64 y) := hcy
     have HEX := Lib.hid (hex.out.drewN nq)
     clear hex hcx hcy
     generalize wr.drewN nq = W6 at *
     go_wp2
     go_quiet (fail)
     go_wp2
     go_ret
     exact ⟨ret_int HR3.out.symm, HEX.out.drewN _⟩
 ·rw [cmpN_gt (lt_of_limbs B64_two h)]
  have e1 : (((limbs B64 a).length : Int) != ((limbs B64 b).length : Int)) = true := by simp; omega
  have e2 : decide ((limbs B64 a).length < (limbs B64 b).length) = false := decide_eq_false (by omega)
  clear hh hh' hda hdb ha hb
  generalize (limbs B64 a).length = p at *
  generalize (limbs B64 b).length = q at *
  go_enter Tryz.func158, Tryz.ntmps158
  go_wp2
  go_ret
  exact ⟨rfl, Ext.refl _⟩
theorem wsubtract_any (g g2 a b : Nat) (v1 v2 : Value) (w : World) (h1 : OW g (limbs B64 a) v1 w) (h2 : OW g2 (limbs B64 b) v2 w) (hne : g2 ≠ g) (ha : bl a <= 549755813888) (hba : b <= a) :
  Calls Tryz.prog 159 #[v1, v2] w fun e w' => ∃ v', e = .returned v' /\ OW g (limbs B64 (a - b)) v' w' /\ But g w w' := by
 have hlx := limbs_len a ha
 have hly := limbs_mono hba
 obtain ⟨P, Q, rfl, hbk0⟩ := h1
 have h2lt := h2.lt
 obtain ⟨off, c, rfl, _, hcy0⟩ := h2.open
 have HCY : Hid (∀ W, But g w W -> ∀ i, i < (limbs B64 b).length -> W.cell? ⟨g2, off + i, none⟩ = some (.int .u64 ((limbs B64 b).getD i 0 : Nat))) := Lib.hid fun W hW i hi => by
  rw [<- hcy0 i hi]
  exact World.cell?_of_block (a := ⟨g2, off + i, none⟩) (hW.block g2 h2lt (fun e => hne (by injection e)))
 have vab : val B64 (limbs B64 a) = (a - b) + val B64 (limbs B64 b) := by rw [val_limbs B64_two, val_limbs B64_two]; omega
 have VAB := Lib.hid vab
 have HDX := Lib.hid (limbs_dig B64_two a)
 have HDY := Lib.hid (limbs_dig B64_two b)
 have HB := Lib.hid hbk0
 clear hcy0 h2 h2lt vab hbk0 hba ha hne
 generalize limbs B64 a = X at *
 generalize limbs B64 b = Y at *
 generalize a - b = n at *
 go_enter Tryz.func159, Tryz.ntmps159
 go_wp2
 go_loopw [5, 10] (fun c i wr => ∃ (k cc : Nat) (L : List Nat), k <= X.length /\ cc <= 1 /\ i = .int .i64 k /\ c = .int .u64 cc /\ Hid (L.length = X.length /\ Dig B64 L /\ L.drop k = X.drop k /\ val B64 (X.take k) + cc * B64 ^ k = val B64 (L.take k) + val B64 (Y.take k)) /\ Hid (Blk wr g 46 (U (P ++ L ++ Q))) /\ Hid (But g w wr)) (fun _ i _ => X.length - (intOf i).toNat)
 case atStart =>
  refine ⟨0, 0, X, Nat.zero_le _, by omega, rfl, rfl, Lib.hid ⟨rfl, HDX.out, rfl, by simp⟩, HB, Lib.hid (But.refl _ _)⟩
 case round =>
  obtain ⟨k, cc, L, hk, hcc, rfl, rfl, hL, hbk, hbut⟩ := hrel
  by_cases hkx : k < X.length
  ·have hcx : wr.cell? ⟨g, P.length + k, none⟩ = some (.int .u64 (X.getD k 0 : Nat)) := by
    rw [hbk.out.cell, mid_get _ _ _ _ (by rw [hL.out.1]; exact hkx), getD_take_drop hL.out.2.2.1 hkx hL.out.1]
   have hfx : wr.frozen? ⟨g, P.length + k, none⟩ = false := hbk.out.frozen _
   have hxd : X.getD k 0 < B64 := HDX.out.getD (by unfold B64; omega) k
   have hyd : Y.getD k 0 < B64 := HDY.out.getD (by unfold B64; omega) k
   have hstep : ∀ s q, X.getD k 0 + B64 * q = Y.getD k 0 + cc + s -> s < B64 -> (L.set k s).length = X.length /\ Dig B64 (L.set k s) /\ (L.set k s).drop (k + 1) = X.drop (k + 1) /\ val B64 (X.take (k + 1)) + q * B64 ^ (k + 1) = val B64 ((L.set k s).take (k + 1)) + val B64 (Y.take (k + 1)) := by
    intro s q e hs
    obtain ⟨l1, l2, l3, l4⟩ := hL.out
    refine ⟨by simpa using l1, l2.set k hs, ?_, ?_⟩
    ·rw [drop_set_succ, <- List.drop_drop, <- List.drop_drop, l3]
    ·rw [val_take_set _ _ _ _ (by omega), val_take_getD B64 X, val_take_getD B64 Y, Nat.pow_succ]
     exact sub_step l4 e
   have HS := Lib.hid hstep
   have HSET : Hid (∀ s : Nat, (U (P ++ L ++ Q)).set (P.length + k) (.int .u64 (s : Nat)) = U (P ++ L.set k s ++ Q)) := Lib.hid fun s => mid_set P L Q k s (by rw [hL.out.1]; exact hkx)
   have hY : k < Y.length -> wr.cell? ⟨g2, off + k, none⟩ = some (.int .u64 (Y.getD k 0 : Nat)) := fun hky => HCY.out wr hbut.out k hky
   have hY0 : ¬ k < Y.length -> Y.getD k 0 = 0 := fun h => getD_ge _ _ (by omega)
   have HY := Lib.hid hY
   have HY0 := Lib.hid hY0
   clear hstep hY hY0
   generalize X.getD k 0 = x at *
   by_cases hky : k < Y.length
   ·have hcy := HY.out hky
    clear HY0
    generalize Y.getD k 0 = y at *
    have hadd : ∀ W, (callFunc 170 #[.int .u64 x, .int .u64 y, .int .u64 cc]).run Tryz.prog W = .ok (.value (.tuple #[.int .u64 (sbD x y cc : Nat), .int .u64 (sbB x y cc : Nat)])) W := fun W => sub64 x y cc hcc W
    go_wp2
    go_roundw
    case rel =>
     exact ⟨k + 1, sbB x y cc, L.set k (sbD x y cc), by omega, sbB_le x y cc, by go_num, rfl, Lib.hid (HS.out _ _ (sb_eq hxd hyd hcc) (sbD_lt x y cc)), Lib.hid (by rw [<- HSET.out]; exact hbk.out.set _ _), Lib.hid (hbut.out.set _ _)⟩
    case measure => simp [intOf]; omega
   ·have hy0 := HY0.out hky
    rw [hy0] at HS
    clear HY HY0 hy0 hyd
    have hadd : ∀ W, (callFunc 170 #[.int .u64 x, .int .u64 0, .int .u64 cc]).run Tryz.prog W = .ok (.value (.tuple #[.int .u64 (sbD x 0 cc : Nat), .int .u64 (sbB x 0 cc : Nat)])) W := fun W => sub64 x 0 cc hcc W
    go_wp2
    go_roundw
    case rel =>
     exact ⟨k + 1, sbB x 0 cc, L.set k (sbD x 0 cc), by omega, sbB_le x 0 cc, by go_num, rfl, Lib.hid (HS.out _ _ (sb_eq hxd (by unfold B64; omega) hcc) (sbD_lt x 0 cc)), Lib.hid (by rw [<- HSET.out]; exact hbk.out.set _ _), Lib.hid (hbut.out.set _ _)⟩
    case measure => simp [intOf]; omega
  ·obtain rfl : k = X.length := by omega
   obtain ⟨l1, l2, l3, l4⟩ := hL.out
   have hval : val B64 X + cc * B64 ^ X.length = val B64 L + val B64 Y := by
    rw [List.take_length, List.take_of_length_le (l := L) (by omega), List.take_of_length_le hly] at l4
    exact l4
   have e : val B64 L = n := by
    have h1 := VAB.out
    have h2 := val_lt l2
    rw [l1] at h2
    rcases Nat.eq_zero_or_pos cc with h0 | h0
    ·subst h0; omega
    ·obtain rfl : cc = 1 := by omega
     omega
   have hcall := wtrim_ow (v := .slice (some ⟨g, P.length, none⟩) X.length (X.length + Q.length)) ⟨P, Q, by rw [l1], hbk.out⟩ (by omega) l2
   rw [e] at hcall
   have HCC := Lib.hid hcall
   clear hcall e l1 l2 l3 l4 hval hL
   go_wp2_with fail
   refine (HCC.out).mono ?_
   rintro e w3 ⟨v', rfl, how, rfl⟩
   go_wp2
   go_ret
   exact ⟨_, rfl, how, hbut.out⟩
theorem info8 : (Tryz.prog.info? 5).map (fun i => (i.zero, i.size, i.bytes)) = some (some (.int .u8 0), 1, 1) := by kernel_rfl
theorem bytes_any (n : Nat) (hn : bl n <= 549755813888) (w : World) :
  Calls Tryz.prog 146 #[.agg #[.int .u64 (lo (n) : Nat), .string (hi (n))]] w (RetS (BytesAt w.heap.size (beB n)) w) := by
 have HB := Lib.hid (fun W => bits_any n (by omega) W)
 have HW := Lib.hid (fun W => words_any n hn W)
 have hq : ((bl n : Nat) + 7 : Int) / 8 = (nb n : Nat) := by unfold nb; omega
 have hbi : ((bl n : Nat) : Int) <= 549755813888 := by omega
 have hnb : nb n <= 68719476737 := by unfold nb; omega
 have HI : Hid (∀ i, i < nb n -> i / 8 < (limbs B64 n).length) := Lib.hid (fun i hi => nb_words (s := 8) (by omega) n i hi)
 have HV : Hid (∀ i, (limbs B64 n).getD (i / 8) 0 / 256 ^ (i % 8) % 256 = n / 256 ^ i % 256) := Lib.hid (fun i => by rw [limbs_getD B64_two]; exact byte_limb (s := 8) (by omega) n i)
 have HN := Lib.hid hn
 clear hn
 generalize hL : limbs B64 n = L at *
 generalize hla : lo n = la at *
 generalize hsa : hi n = sa at *
 generalize hl : bl n = l at *
 generalize hN : nb n = N at *
 have E := Lib.hid hN
 clear hL hla hsa hl hN
 go_enter Tryz.func146, Tryz.ntmps146
 go_wp2_with fail
 refine (HB.out _).mono ?_
 rintro e w1 ⟨rfl, hx1⟩
 have HX1 := Lib.hid hx1
 clear hx1
 go_wp2_with (at_make; refine wpList_mk _ rfl (.tmp 11) (.tmp 11) 153 5 rfl (.int .u8 0) 1 Tryz.underlying153 info8 rfl .i64 .i64 _ _ N rfl rfl ?c1 ?c1' ?c2 ?c3 ?_)
 case c1 => omega
 case c1' => omega
 case c2 => omega
 case c3 => omega
 intro w2 hx2 hs2 hb2
 have hp2 := ((Blk.new w 48 [.int .u64 la, .string sa]).ext HX1.out).ext hx2
 have p0 : w2.cell? ⟨w.heap.size, 0, none⟩ = some (.int .u64 la) := hp2.cell 0
 have p1 : w2.cell? ⟨w.heap.size, 1, none⟩ = some (.string sa) := hp2.cell 1
 have hge : w.heap.size <= w1.heap.size := Nat.le_trans (by simp) HX1.out.size
 have HX2 : Hid (Ext w w2) := Lib.hid ((((Ext.refl w).alloc _).trans HX1.out).trans hx2)
 have HB2 := Lib.hid hb2
 clear hx2 hb2 hp2
 have HGE := Lib.hid hge
 clear hge hs2
 generalize w1.heap.size = g at *
 go_wp2_with fail
 refine (HW.out _).mono ?_
 rintro e w3 ⟨v3, rfl, hf3, hx3⟩
 obtain ⟨A, c, rfl, hh⟩ := fresh_form hf3
 have HB3 := Lib.hid (HB2.out.ext hx3)
 have HX3 := Lib.hid (HX2.out.trans hx3)
 have HF3 : Hid (L ≠ [] -> ∃ g', w2.heap.size <= g' /\ c = L.length /\ A = some ⟨g', 0, none⟩ /\ Blk w3 g' 46 (U L)) := Lib.hid hh
 have HGL := Lib.hid HB2.out.lt
 clear hf3 hx3 hh p0 p1
 go_wp2
 go_loopw [16] (fun i wr => ∃ k : Nat, k <= N /\ i = .int .i64 k /\ Hid (Blk wr g 5 (Lib.byteCells (bfill (beB n) k))) /\ Hid (But g w3 wr)) (fun i _ => N - (intOf i).toNat)
 case atStart =>
  refine ⟨0, by omega, rfl, Lib.hid ?_, Lib.hid (But.refl _ _)⟩
  rw [bfill_zero, byteCells_rep, beB_length, E.out]
  exact HB3.out
 case round =>
  obtain ⟨k, hk, rfl, hbk, hbut⟩ := hrel
  by_cases hkN : k < N
  ·have hki := HI.out k hkN
   obtain ⟨g', hg', rfl, rfl, hbg⟩ := HF3.out (fun e => by rw [e] at hki; simp at hki)
   have hne : g' ≠ g := by have := HGL.out; omega
   have hbg' := hbut.out.blk hbg hne
   have hc : wr.cell? ⟨g', k / 8, none⟩ = some (.int .u64 (L.getD (k / 8) 0 : Nat)) := by rw [hbg'.cell (k / 8), getD_U _ _ hki]
   have hv := HV.out k
   have hset : wr.cell? ⟨g, N - 1 - k, none⟩ = some (.int .u8 0) := by
    rw [hbk.out.cell, <- E.out]
    exact bfill_cell n k (by rw [E.out]; exact hkN)
   have hf : wr.frozen? ⟨g, N - 1 - k, none⟩ = false := hbk.out.frozen _
   have HV2 := Lib.hid hv
   clear hv hbg' hbg hg' hne
   generalize L.getD (k / 8) 0 = x at *
   go_wp2
   refine ⟨⟨k + 1, by omega, rfl, Lib.hid ?_, Lib.hid (hbut.out.set _ _)⟩, by simp [intOf]; omega⟩
   have h := hbk.out.set (N - 1 - k) (.int .u8 ((x : Int) / 2 ^ (8 * (k % 8)) % 256))
   rw [<- E.out, bfill_beB n k (by rw [E.out]; exact hkN) _ (by rw [<- byte_shift, HV2.out])] at h
   rw [<- E.out]
   exact h
  ·obtain rfl : k = N := by omega
   clear hk hkN
   go_wp2
   go_ret
   have hb := hbk.out
   have el : (beB n).length = k := by rw [beB_length, E.out]
   refine ⟨_, rfl, ⟨g, HGE.out, by rw [el]; rfl, ?_⟩, hbut.out.ext HX3.out HGE.out⟩
   have h2 := bfill_all (beB n)
   rw [el] at h2
   rw [h2] at hb
   exact hb
theorem refBytes_any (n : Nat) (hn : bl n <= 549755813888) (v : Value) (w : World) (hR : R32 n v w) :
  Calls Tryz.prog 127 #[v] w (RetS (BytesAt w.heap.size (beB n)) w) := by
 have HB := Lib.hid (refBits_any n v w hR (by omega))
 have hq : ((bl n : Nat) + 7 : Int) / 8 = (nb n : Nat) := by unfold nb; omega
 have hbi : ((bl n : Nat) : Int) <= 549755813888 := by omega
 have hnb : nb n <= 68719476737 := by unfold nb; omega
 have HI : Hid (∀ i, i < nb n -> i / 4 < (limbs B32 n).length) := Lib.hid (fun i hi => nb_words (s := 4) (by omega) n i hi)
 have HV : Hid (∀ i, (limbs B32 n).getD (i / 4) 0 / 256 ^ (i % 4) % 256 = n / 256 ^ i % 256) := Lib.hid (fun i => by rw [limbs_getD B32_two]; exact byte_limb (s := 4) (by omega) n i)
 obtain ⟨A, c, rfl, hcl, hh⟩ := hR
 have HF3 := Lib.hid hh
 clear hn hh
 generalize hL : limbs B32 n = L at *
 generalize hl : bl n = l at *
 generalize hN : nb n = N at *
 have E := Lib.hid hN
 clear hL hl hN hcl
 go_enter Tryz.func127, Tryz.ntmps127
 go_wp2_with fail
 refine (HB.out).mono ?_
 rintro e w1 ⟨rfl, rfl⟩
 go_wp2_with (at_make; refine wpList_mk _ rfl (.tmp 10) (.tmp 10) 153 5 rfl (.int .u8 0) 1 Tryz.underlying153 info8 rfl .i64 .i64 _ _ N rfl rfl ?c1 ?c1' ?c2 ?c3 ?_)
 case c1 => omega
 case c1' => omega
 case c2 => omega
 case c3 => omega
 intro w3 hx3 hs3 hb3
 have HB3 := Lib.hid hb3
 have HX3 := Lib.hid hx3
 clear hx3 hb3 hs3
 go_wp2
 go_loopw [5] (fun i wr => ∃ k : Nat, k <= N /\ i = .int .i64 k /\ Hid (Blk wr w1.heap.size 5 (Lib.byteCells (bfill (beB n) k))) /\ Hid (But w1.heap.size w3 wr)) (fun i _ => N - (intOf i).toNat)
 case atStart =>
  refine ⟨0, by omega, rfl, Lib.hid ?_, Lib.hid (But.refl _ _)⟩
  rw [bfill_zero, byteCells_rep, beB_length, E.out]
  exact HB3.out
 case round =>
  obtain ⟨k, hk, rfl, hbk, hbut⟩ := hrel
  by_cases hkN : k < N
  ·have hki := HI.out k hkN
   obtain ⟨g', off, rfl, hg', hbg⟩ := HF3.out (fun e => by rw [e] at hki; simp at hki)
   have hc : wr.cell? ⟨g', off + k / 4, none⟩ = some (.int .u32 (L.getD (k / 4) 0 : Nat)) := (hbut.out.ext HX3.out (Nat.le_refl _)).keep (hbg _ hki)
   have hv := HV.out k
   have hset : wr.cell? ⟨w1.heap.size, N - 1 - k, none⟩ = some (.int .u8 0) := by
    rw [hbk.out.cell, <- E.out]
    exact bfill_cell n k (by rw [E.out]; exact hkN)
   have hf : wr.frozen? ⟨w1.heap.size, N - 1 - k, none⟩ = false := hbk.out.frozen _
   have HV2 := Lib.hid hv
   clear hv hbg hg'
   generalize L.getD (k / 4) 0 = x at *
   go_wp2
   refine ⟨⟨k + 1, by omega, rfl, Lib.hid ?_, Lib.hid (hbut.out.set _ _)⟩, by simp [intOf]; omega⟩
   have h := hbk.out.set (N - 1 - k) (.int .u8 ((x : Int) / 2 ^ (8 * (k % 4)) % 256))
   rw [<- E.out, bfill_beB n k (by rw [E.out]; exact hkN) _ (by rw [<- byte_shift, HV2.out])] at h
   rw [<- E.out]
   exact h
  ·obtain rfl : k = N := by omega
   clear hk hkN
   go_wp2
   go_ret
   have hb := hbk.out
   have el : (beB n).length = k := by rw [beB_length, E.out]
   refine ⟨_, rfl, ⟨w1.heap.size, Nat.le_refl _, by rw [el]; rfl, ?_⟩, hbut.out.ext HX3.out (Nat.le_refl _)⟩
   have h2 := bfill_all (beB n)
   rw [el] at h2
   rw [h2] at hb
   exact hb
open Classical in
def IsRoot (a r : Nat) : Prop := r * r <= a /\ a < (r + 1) * (r + 1)
structure RtInv (a x : Nat) : Prop where
 pos : 0 < x
 up : a < (x + 1) * (x + 1)
 top : x <= 2 ^ bl a
theorem RtInv.start {a : Nat} (h : a ≠ 0) : RtInv a (2 ^ ((bl a + 1) / 2)) := by
 have hb := bl_pos h
 refine ⟨Nat.two_pow_pos _, ?_, Nat.pow_le_pow_right (by omega) (by omega)⟩
 have h1 := lt_bl a
 have h2 : 2 ^ bl a <= 2 ^ ((bl a + 1) / 2) * 2 ^ ((bl a + 1) / 2) := by rw [<- Nat.pow_add]; exact Nat.pow_le_pow_right (by omega) (by omega)
 have h3 := Nat.mul_le_mul (Nat.le_succ (2 ^ ((bl a + 1) / 2))) (Nat.le_succ (2 ^ ((bl a + 1) / 2)))
 simp only [Nat.succ_eq_add_one] at h3
 omega
theorem RtInv.next {a x : Nat} (ha : a ≠ 0) (h : RtInv a x) (hlt : (x + a / x) / 2 < x) : RtInv a ((x + a / x) / 2) := by
 have hx := h.pos
 have e := Nat.div_add_mod a x
 have hm := Nat.mod_lt a hx
 have ht := h.top
 generalize a / x = q at *
 generalize a % x = r at *
 have h1 : a < x * (q + 1) := by rw [Nat.mul_add, Nat.mul_one]; omega
 have h2 : x + q + 1 <= 2 * ((x + q) / 2 + 1) := by omega
 generalize (x + q) / 2 = nx at *
 have h3 := Nat.mul_le_mul h2 h2
 have h4 : 4 * (x * (q + 1)) <= (x + q + 1) * (x + q + 1) := by
  rw [show x + q + 1 = x + (q + 1) from by omega]
  generalize q + 1 = p
  rcases Nat.le_total x p with hxp | hxp
  ·obtain ⟨d, rfl⟩ := Nat.exists_eq_add_of_le hxp
   have : (x + (x + d)) * (x + (x + d)) = 4 * (x * (x + d)) + d * d := by grind
   omega
  ·obtain ⟨d, rfl⟩ := Nat.exists_eq_add_of_le hxp
   have : (p + d + p) * (p + d + p) = 4 * ((p + d) * p) + d * d := by grind
   omega
 have h5 : 2 * (nx + 1) * (2 * (nx + 1)) = 4 * ((nx + 1) * (nx + 1)) := by grind
 have h6 : a < (nx + 1) * (nx + 1) := by omega
 refine ⟨?_, h6, by omega⟩
 rcases Nat.eq_zero_or_pos nx with h0 | h0
 ·subst h0; omega
 ·exact h0
theorem RtInv.done {a x : Nat} (h : RtInv a x) (hge : x <= (x + a / x) / 2) : IsRoot a x := by
 refine ⟨?_, h.up⟩
 have e := Nat.div_mul_le_self a x
 have h1 : x <= a / x := by omega
 exact Nat.le_trans (Nat.mul_le_mul_right x h1) e
theorem RtInv.sum {a x : Nat} (h : RtInv a x) (hb : bl a <= 274877906944) : bl x <= 274877906945 /\ bl (a / x) <= 274877906944 /\ bl (x + a / x) <= 274877906946 := by
 have h1 : bl x <= 274877906945 := Nat.le_trans (bl_le (Nat.lt_of_le_of_lt h.top (Nat.pow_lt_pow_right (by omega) (Nat.lt_succ_self _)))) (by omega)
 have h2 : bl (a / x) <= 274877906944 := Nat.le_trans (bl_mono (Nat.div_le_self a x)) hb
 exact ⟨h1, h2, Nat.le_trans (bl_add _ _) (by omega)⟩
theorem ret_nat3 {fn : Func} {R : Ending -> World -> Prop} {a : Act} {w : World} {p p' q : Tmp} (g g' : Nat) (x y x' y' v : Value) (hr : fn.results = #[.cell p 48, .cell p' 48, .tmp q])
  (hp : a.tmps.getD p undef = .pointer (some ⟨g, 0, none⟩)) (hp' : a.tmps.getD p' undef = .pointer (some ⟨g', 0, none⟩)) (hq : a.tmps.getD q undef = v) (hb : Blk w g 48 [x, y]) (hb' : Blk w g' 48 [x', y']) (hd : a.defers = []) (hR : R (.returned (.tuple #[.agg #[x, y], .agg #[x', y'], v])) w) : bodyPost Tryz.prog fn R .ret a w := by
 refine bodyPost_ret ?_ hd hR
 have hl := run_loadVar_row (P := Tryz.prog) w g 48 48 #[x, y] (0, 0) _ hb Tryz.underlying48 rfl (by kernel_rfl)
 have hl' := run_loadVar_row (P := Tryz.prog) w g' 48 48 #[x', y'] (0, 0) _ hb' Tryz.underlying48 rfl (by kernel_rfl)
 have e1 : a.tmps[p]?.getD undef = .pointer (some ⟨g, 0, none⟩) := by simpa using hp
 have e2 : a.tmps[p']?.getD undef = .pointer (some ⟨g', 0, none⟩) := by simpa using hp'
 have e3 : a.tmps[q]?.getD undef = v := by simpa using hq
 simp [results, hr, e1, e2, e3, asAddr, hl, hl']
theorem boxes4 (w W : World) (la sa lb sb : Value) (h : (((w.alloc (.cells #[la, sa] 48)).alloc (.cells #[lb, sb] 48)).alloc (.cells #[.int .u64 0, .string ⟨#[]⟩] 48)).alloc (.cells #[.int .u64 0, .string ⟨#[]⟩] 48) = W) :
  Blk W w.heap.size 48 [la, sa] /\ Blk W (w.heap.size + 1) 48 [lb, sb] /\ Blk W (w.heap.size + 1 + 1) 48 [.int .u64 0, .string ⟨#[]⟩] /\ Blk W (w.heap.size + 1 + 1 + 1) 48 [.int .u64 0, .string ⟨#[]⟩] /\ Ext w W := by
 obtain ⟨h1, h2, h3, h4⟩ := boxes3 w _ la sa lb sb rfl
 subst h
 refine ⟨h1.alloc _, h2.alloc _, h3.alloc _, ?_, h4.alloc _⟩
 have h := Blk.new (((w.alloc (.cells #[la, sa] 48)).alloc (.cells #[lb, sb] 48)).alloc (.cells #[.int .u64 0, .string ⟨#[]⟩] 48)) 48 [.int .u64 0, .string ⟨#[]⟩]
 rw [World.size_alloc, World.size_alloc, World.size_alloc] at h
 exact h
theorem div_zero (a : Nat) (w : World) :
  Calls Tryz.prog 129 #[.agg #[.int .u64 (lo (a) : Nat), .string (hi (a))], .agg #[.int .u64 (lo (0) : Nat), .string (hi (0))]] w (Ret (.tuple #[.agg #[.int .u64 (lo (0) : Nat), .string (hi (0))], .agg #[.int .u64 (lo (0) : Nat), .string (hi (0))], .bool false]) w) := by
 have e1 : lo 0 = 0 := rfl
 have e2 : hi 0 = ⟨#[]⟩ := hi_small (by unfold B64; omega)
 have HB := Lib.hid (fun W => bits_any 0 (by rw [bl_zero]; omega) W)
 rw [bl_zero] at HB
 rw [e1, e2] at *
 clear e1 e2
 generalize lo a = la at *
 generalize hi a = sa at *
 go_enter Tryz.func129, Tryz.ntmps129
 go_wp2_with fail
 generalize hW : (((w.alloc (.cells #[.int .u64 la, .string sa] 48)).alloc (.cells #[.int .u64 0, .string ⟨#[]⟩] 48)).alloc (.cells #[.int .u64 0, .string ⟨#[]⟩] 48)).alloc (.cells #[.int .u64 0, .string ⟨#[]⟩] 48) = W
 obtain ⟨_, _, hr, hs, hx⟩ := boxes4 w W _ _ _ _ hW
 clear hW
 refine (HB.out _).mono ?_
 rintro e w3 ⟨rfl, he3⟩
 have hr3 := hr.ext he3
 have hs3 := hs.ext he3
 have r0 : w3.cell? ⟨w.heap.size + 1 + 1, 0, none⟩ = some (.int .u64 0) := hr3.cell 0
 have r1 : w3.cell? ⟨w.heap.size + 1 + 1, 1, none⟩ = some (.string ⟨#[]⟩) := hr3.cell 1
 have f0 : w3.frozen? ⟨w.heap.size + 1 + 1, 0, none⟩ = false := hr3.frozen 0
 have f1 : w3.frozen? ⟨w.heap.size + 1 + 1, 1, none⟩ = false := hr3.frozen 1
 have s0 : w3.cell? ⟨w.heap.size + 1 + 1 + 1, 0, none⟩ = some (.int .u64 0) := hs3.cell 0
 have s1 : w3.cell? ⟨w.heap.size + 1 + 1 + 1, 1, none⟩ = some (.string ⟨#[]⟩) := hs3.cell 1
 have g0 : w3.frozen? ⟨w.heap.size + 1 + 1 + 1, 0, none⟩ = false := hs3.frozen 0
 have g1 : w3.frozen? ⟨w.heap.size + 1 + 1 + 1, 1, none⟩ = false := hs3.frozen 1
 have HX := Lib.hid (hx.trans he3)
 clear hr hs hx he3
 go_wp2
 refine ret_nat3 (w.heap.size + 1 + 1) (w.heap.size + 1 + 1 + 1) _ _ _ _ _ rfl rfl rfl rfl ((((hr3.set 0 _).set 1 _).far (by simp) _).far (by simp) _) ((((hs3.far (by simp) _).far (by simp) _).set 0 _).set 1 _) rfl ⟨rfl, ?_⟩
 exact (((Below.setCell HX.out (p := ⟨w.heap.size + 1 + 1, 0, none⟩) (by show _ <= _; simp; omega) _).setCell (p := ⟨w.heap.size + 1 + 1, 1, none⟩) (by show _ <= _; simp; omega) _).setCell (p := ⟨w.heap.size + 1 + 1 + 1, 0, none⟩) (by show _ <= _; simp; omega) _).setCell (p := ⟨w.heap.size + 1 + 1 + 1, 1, none⟩) (by show _ <= _; simp; omega) _
theorem div_small (a b : Nat) (ha : a < B64) (hb : b < B64) (h0 : b ≠ 0) (w : World) :
  Calls Tryz.prog 129 #[.agg #[.int .u64 (lo (a) : Nat), .string (hi (a))], .agg #[.int .u64 (lo (b) : Nat), .string (hi (b))]] w (Ret (.tuple #[.agg #[.int .u64 (lo (a / b) : Nat), .string (hi (a / b))], .agg #[.int .u64 (lo (a % b) : Nat), .string (hi (a % b))], .bool true]) w) := by
 have hq : a / b < B64 := Nat.lt_of_le_of_lt (Nat.div_le_self _ _) ha
 have hm : a % b < B64 := Nat.lt_trans (Nat.mod_lt _ (by omega)) hb
 have HB := Lib.hid (fun W => bits_lt b hb W)
 rw [hi_small ha, hi_small hb, lo_small ha, lo_small hb, hi_small hq, hi_small hm, lo_small hq, lo_small hm] at *
 have hnb : (((bl b : Nat) : Int) == 0) = false := beq_eq_false_iff_ne.2 (by have := bl_pos h0; omega)
 have hdq : (((a / b : Nat) : Int)) = (a : Int) / b := Int.natCast_ediv a b
 have hdm : (((a % b : Nat) : Int)) = (a : Int) % b := Int.natCast_emod a b
 rw [hdq, hdm]
 have hbi : ((b : Int) == 0) = false := beq_eq_false_iff_ne.2 (by omega)
 have hai : (0 : Int) <= a := by omega
 have hbp : (0 : Int) < b := by omega
 have hau : (a : Int) <= 18446744073709551615 := by unfold B64 at ha; omega
 have hbu : (b : Int) <= 18446744073709551615 := by unfold B64 at hb; omega
 clear ha hb hq hm h0 hdq hdm
 generalize (a : Int) = x at *
 generalize (b : Int) = y at *
 generalize (bl b : Nat) = l at *
 go_enter Tryz.func129, Tryz.ntmps129
 go_wp2_with fail
 generalize hW : (((w.alloc (.cells #[.int .u64 x, .string ⟨#[]⟩] 48)).alloc (.cells #[.int .u64 y, .string ⟨#[]⟩] 48)).alloc (.cells #[.int .u64 0, .string ⟨#[]⟩] 48)).alloc (.cells #[.int .u64 0, .string ⟨#[]⟩] 48) = W
 obtain ⟨hp, hq, hr, hs, hx⟩ := boxes4 w W _ _ _ _ hW
 clear hW
 refine (HB.out _).mono ?_
 rintro e w3 ⟨rfl, he3⟩
 have hp3 := hp.ext he3
 have hq3 := hq.ext he3
 have hr3 := hr.ext he3
 have hs3 := hs.ext he3
 have p0 : w3.cell? ⟨w.heap.size, 0, none⟩ = some (.int .u64 x) := hp3.cell 0
 have p1 : w3.cell? ⟨w.heap.size, 1, none⟩ = some (.string ⟨#[]⟩) := hp3.cell 1
 have q0 : w3.cell? ⟨w.heap.size + 1, 0, none⟩ = some (.int .u64 y) := hq3.cell 0
 have q1 : w3.cell? ⟨w.heap.size + 1, 1, none⟩ = some (.string ⟨#[]⟩) := hq3.cell 1
 have r0 : w3.cell? ⟨w.heap.size + 1 + 1, 0, none⟩ = some (.int .u64 0) := hr3.cell 0
 have r1 : w3.cell? ⟨w.heap.size + 1 + 1, 1, none⟩ = some (.string ⟨#[]⟩) := hr3.cell 1
 have f0 : w3.frozen? ⟨w.heap.size + 1 + 1, 0, none⟩ = false := hr3.frozen 0
 have f1 : w3.frozen? ⟨w.heap.size + 1 + 1, 1, none⟩ = false := hr3.frozen 1
 have s0 : w3.cell? ⟨w.heap.size + 1 + 1 + 1, 0, none⟩ = some (.int .u64 0) := hs3.cell 0
 have s1 : w3.cell? ⟨w.heap.size + 1 + 1 + 1, 1, none⟩ = some (.string ⟨#[]⟩) := hs3.cell 1
 have g0 : w3.frozen? ⟨w.heap.size + 1 + 1 + 1, 0, none⟩ = false := hs3.frozen 0
 have g1 : w3.frozen? ⟨w.heap.size + 1 + 1 + 1, 1, none⟩ = false := hs3.frozen 1
 have HX := Lib.hid (hx.trans he3)
 have HR := Lib.hid hr3
 have HS := Lib.hid hs3
 clear hr hs hx he3 hp hq hp3 hq3 hr3 hs3
 go_wp2_with fail
 go_region
 go_wp2
 refine ret_nat3 (w.heap.size + 1 + 1) (w.heap.size + 1 + 1 + 1) _ _ _ _ _ rfl rfl rfl rfl ((((HR.out.set 0 _).set 1 _).far (by simp) _).far (by simp) _).drew ((((HS.out.far (by simp) _).far (by simp) _).set 0 _).set 1 _).drew rfl ⟨rfl, ?_⟩
 exact ((((Below.setCell HX.out (p := ⟨w.heap.size + 1 + 1, 0, none⟩) (by show _ <= _; simp; omega) _).setCell (p := ⟨w.heap.size + 1 + 1, 1, none⟩) (by show _ <= _; simp; omega) _).setCell (p := ⟨w.heap.size + 1 + 1 + 1, 0, none⟩) (by show _ <= _; simp; omega) _).setCell (p := ⟨w.heap.size + 1 + 1 + 1, 1, none⟩) (by show _ <= _; simp; omega) _).drew
theorem SlB.of_own {base : Nat} {l : List UInt8} {v : Value} {w : World} (h : w.ownsRow base 5 1 v l.length (Lib.byteCells l)) : SlB l v w := by
 obtain ⟨hl, h | ⟨g, cap, cur, rfl, hg, hb, hle, hcap, hsz, htk⟩⟩ := h
 ·obtain ⟨rfl, h0⟩ := h
  obtain rfl := List.eq_nil_of_length_eq_zero h0
  exact SlB.nil w
 ·refine ⟨_, cap, rfl, hle, ⟨by unfold maxLen at hcap; omega, fun h => by cases h⟩, fun _ => ⟨g, 0, rfl, ?_, fun i hi => ?_⟩⟩
  ·rcases Nat.lt_or_ge g w.heap.size with h' | h'
   ·exact h'
   ·rw [Array.getElem?_eq_none h'] at hb; cases hb
  ·rw [Nat.zero_add, cell_of_row w g i _ _ (0, 0) hb]
   have e : cur[i]? = (cur.toList.take (l.length * 1))[i]? := by rw [List.getElem?_take_of_lt (by omega)]; simp
   rw [e, htk]
   simp [Lib.byteCells, List.getElem?_map, List.getElem?_eq_getElem hi]
theorem handNat_any (n : Nat) (hn : bl n <= 549755813888) (v : Value) (w : World) (hR : R32 n v w) :
  Calls Tryz.prog 88 #[v] w (Ret (.agg #[.int .u64 (lo (n) : Nat), .string (hi (n))]) w) := by
 have HB : Hid (∀ W, R32 n v W -> Calls Tryz.prog 127 #[v] W (RetS (SlB (beB n)) W)) := Lib.hid (fun W h => (refBytes_any n hn v W h).mono fun _ _ ⟨u, h1, h2, h3⟩ => ⟨u, h1, SlB.of_at (by rw [beB_length]; unfold nb; omega) h2, h3⟩)
 have HF : Hid (∀ W u, SlB (beB n) u W -> Calls Tryz.prog 126 #[u] W (Ret (.agg #[.int .u64 (lo (n) : Nat), .string (hi (n))]) W)) := Lib.hid (fun W u h => by
  have h := fromBytes_any (beB n) u W (by rw [beB_length]; unfold nb; omega) h
  rw [beN_beB] at h
  exact h)
 have HR0 := Lib.hid hR
 clear hR hn
 generalize lo n = la at *
 generalize hi n = sa at *
 go_enter Tryz.func88, Tryz.ntmps88
 go_wp2_with fail
 have hr := Blk.new w 48 [.int .u64 0, .string ⟨#[]⟩]
 have hx : Ext w (w.alloc (.cells #[.int .u64 0, .string ⟨#[]⟩] 48)) := (Ext.refl w).alloc _
 have HR := Lib.hid hr
 have HX := Lib.hid hx
 clear hr hx
 refine (HB.out _ (HR0.out.ext HX.out)).mono ?_
 rintro e w1 ⟨v1, rfl, hv1, hx1⟩
 have HV1 := Lib.hid hv1
 have HX1 := Lib.hid hx1
 clear hv1 hx1
 go_wp2_with fail
 refine (HF.out _ _ HV1.out).mono ?_
 rintro e w3 ⟨rfl, hx3⟩
 have he : Ext w w3 := (HX.out.trans HX1.out).trans hx3
 have hr3 := (HR.out.ext HX1.out).ext hx3
 have r0 : w3.cell? ⟨w.heap.size, 0, none⟩ = some (.int .u64 0) := hr3.cell 0
 have r1 : w3.cell? ⟨w.heap.size, 1, none⟩ = some (.string ⟨#[]⟩) := hr3.cell 1
 have f0 : w3.frozen? ⟨w.heap.size, 0, none⟩ = false := hr3.frozen 0
 have f1 : w3.frozen? ⟨w.heap.size, 1, none⟩ = false := hr3.frozen 1
 go_wp2
 refine ret_nat w.heap.size _ _ rfl rfl ((hr3.set 0 _).set 1 _) rfl ⟨rfl, ?_⟩
 exact (Below.setCell he (p := ⟨w.heap.size, 0, none⟩) (by show _ <= _; simp) _).setCell (p := ⟨w.heap.size, 1, none⟩) (by show _ <= _; simp) _
theorem R32.set {w : World} {n : Nat} {v : Value} (h : R32 n v w) {p : Addr} {u old : Value} (ho : w.cell? p = some old) (hne : ∀ z, old ≠ .int .u32 z) : R32 n v (w.setCell p u) := by
 obtain ⟨A, c, rfl, hc, hh⟩ := h
 refine ⟨A, c, rfl, hc, fun hne' => ?_⟩
 obtain ⟨g, off, rfl, hg, hcell⟩ := hh hne'
 refine ⟨g, off, rfl, by simpa using hg, fun i hi => ?_⟩
 rw [World.cell?_setCell_other w _ _ _ (fun e => ?_)]
 ·exact hcell i hi
 ·have h1 := hcell i hi
  rw [<- e, ho] at h1
  injection h1 with h1
  exact hne _ h1
theorem beN_take (l : List UInt8) (n : Nat) : bl (beN (l.take n)) <= 8 * n := by
 refine bl_le (Nat.lt_of_lt_of_le (beN_lt _) (Nat.pow_le_pow_right (by omega) ?_))
 have : (l.take n).length <= n := by simp; omega
 omega
theorem wwords_any (n : Nat) (hn : bl n <= 549755813888) (w : World) :
  Calls Tryz.prog 155 #[.agg #[.int .u64 (lo (n) : Nat), .string (hi (n))]] w fun e w' => ∃ v L g, e = .returned v /\ L.length <= 8589934593 /\ Dig B64 L /\ val B64 L = n /\ w.heap.size <= g /\ OW g L v w' /\ Ext w w' := by
 have HBY := Lib.hid (fun W => bytes_any n hn W)
 have hll : (beB n).length <= 68719476737 := by rw [beB_length]; unfold nb; omega
 have HBN := Lib.hid (beN_beB n)
 have HN2 := Lib.hid (show beN (beB n) = val 256 (rb (beB n)) from rfl)
 clear hn
 generalize beB n = l at *
 obtain ⟨M, hMe⟩ : ∃ M, (l.length + 7) / 8 = M := ⟨_, rfl⟩
 have hq : ((l.length : Nat) + 7 : Int) / 8 = (M : Nat) := by omega
 have hM : M <= 8589934593 := by omega
 have HM := Lib.hid hMe
 have HMM := Lib.hid hM
 clear hMe
 generalize hla : lo n = la at *
 generalize hsa : hi n = sa at *
 clear hla hsa
 go_enter Tryz.func155, Tryz.ntmps155
 go_wp2_with fail
 refine (HBY.out _).mono ?_
 rintro e w1 ⟨v1, rfl, ⟨g', hg', rfl, hb1⟩, hx1⟩
 have HX1 : Hid (Ext w w1) := Lib.hid (((Ext.refl w).alloc _).trans hx1)
 have HB1 := Lib.hid hb1
 clear hx1 hb1 hg'
 go_wp2_with (at_make; refine wpList_mk _ rfl (.tmp 11) (.tmp 11) 164 46 rfl (.int .u64 0) 8 Tryz.underlying164 info64 rfl .i64 .i64 _ _ M rfl rfl ?c1 ?c1' ?c2 ?c3 ?_)
 case c1 => omega
 case c1' => omega
 case c2 => omega
 case c3 => omega
 intro w2 hx2 hs2 hb2
 rw [rep_U] at hb2
 have HX2 : Hid (Ext w w2) := Lib.hid (HX1.out.trans hx2)
 have hlt := HB1.out.lt
 have HBX := Lib.hid (HB1.out.ext hx2)
 have HBG := Lib.hid hb2
 have HGE : Hid (w.heap.size <= w1.heap.size) := Lib.hid HX1.out.size
 clear hx2 hb2 hs2 hq hM
 generalize w1.heap.size = g at *
 have hne : g' ≠ g := by omega
 go_wp2
 go_loopw [15] (fun i wr => ∃ (k : Nat) (L : List Nat), k <= l.length /\ i = .int .i64 k /\ Hid (FbUp (rb l) k L) /\ Hid (Blk wr g 46 (U L)) /\ Hid (But g w2 wr)) (fun i _ => l.length - (intOf i).toNat)
 case atStart => exact ⟨0, _, Nat.zero_le _, rfl, Lib.hid (by have h := FbUp.start (rb l); rw [rb_length, HM.out] at h; exact h), HBG, Lib.hid (But.refl _ _)⟩
 case round =>
  obtain ⟨k, L, hk, rfl, hL, hbk, hbut⟩ := hrel
  by_cases hkx : k < l.length
  ·have hcx : wr.cell? ⟨g', l.length - 1 - k, none⟩ = some (.int .u8 ((rb l).getD k 0 : Nat)) := by
    rw [rb_getD' l k hkx, (hbut.out.blk HBX.out hne).cell]
    simp only [Lib.byteCells, List.getElem?_map]
    rw [List.getElem?_eq_getElem (by omega)]
    rfl
   have hlen := hL.out.len
   rw [rb_length, HM.out] at hlen
   have hk8 : k / 8 < M := by have := HM.out; omega
   have hc1 : wr.cell? ⟨g, k / 8, none⟩ = some (.int .u64 (L.getD (k / 8) 0 : Nat)) := by rw [hbk.out.cell, getD_U _ _ (by omega)]
   have hf1 : wr.frozen? ⟨g, k / 8, none⟩ = false := hbk.out.frozen _
   have hxd : (rb l).getD k 0 < 256 := (rb_dig l).getD (by omega) k
   have hw := hL.out.word (rb_dig l)
   obtain ⟨_, hN⟩ := hL.out.step (by rw [rb_length]; exact hkx) (rb_dig l)
   have HN := Lib.hid hN
   have HV := Lib.hid (or64 (p := 8 * (k % 8)) hxd (by omega) hw)
   clear hlen hN hw
   generalize (rb l).getD k 0 = x at *
   generalize L.getD (k / 8) 0 = o at *
   go_wp2
   go_region
   rw [HV.out]
   go_wp2
   go_roundw
   case rel =>
    refine ⟨k + 1, _, by omega, by go_num, HN, ?_, Lib.hid ((hbut.out.set (k / 8) _).trans (But.of_ext (Ext.refl _).drew))⟩
    have h := hbk.out.set (k / 8) (.int .u64 (o + 2 ^ (8 * (k % 8)) * x : Nat))
    rw [U_set] at h
    exact Lib.hid h
   case measure => simp [intOf]; omega
  ·obtain rfl : k = l.length := by omega
   go_wp2
   go_ret
   have hlen := hL.out.len
   rw [rb_length, HM.out] at hlen
   have hL2 := hL.out
   rw [<- rb_length] at hL2
   refine ⟨_, L, g, rfl, by have := HMM.out; omega, hL.out.dig, by rw [hL2.fin, <- HN2.out, HBN.out], HGE.out, ?_, hbut.out.ext HX2.out HGE.out⟩
   have h := OW.of_blk hbk.out
   rw [hlen] at h
   exact h
theorem le_get : ∀ (n x k : Nat) (h : k < (Lib.leBytes n x).length), (Lib.leBytes n x)[k] = UInt8.ofNat (x / 256 ^ k)
 | 0, _, _, h => by simp [Lib.leBytes] at h
 | n + 1, x, 0, _ => by
  simp only [Lib.leBytes, List.getElem_cons_zero, Nat.pow_zero, Nat.div_one]
  apply UInt8.toNat_inj.1
  simp [Nat.toUInt8, UInt8.toNat_ofNat']
 | n + 1, x, k + 1, h => by
  simp only [Lib.leBytes, List.getElem_cons_succ]
  rw [le_get n (x / 256) k (by simpa [Lib.leBytes] using h), Nat.pow_succ, Nat.div_div_eq_div_mul, Nat.mul_comm]
theorem flat_get : ∀ (xs : List Nat) (k : Nat) (h : k < (xs.flatMap le8).length), (xs.flatMap le8)[k] = UInt8.ofNat (xs.getD (k / 8) 0 / 256 ^ (k % 8))
 | [], _, h => by simp at h
 | x :: xs, k, h => by
  simp only [List.flatMap_cons]
  by_cases hk : k < 8
  ·rw [List.getElem_append_left (by rw [le8_length]; exact hk)]
   have h0 : k / 8 = 0 := by omega
   rw [h0, List.getD_cons_zero, Nat.mod_eq_of_lt hk]
   exact le_get 8 x k (by rw [Lib.leBytes_length]; exact hk)
  ·have hl := flat8_length (x :: xs)
   rw [List.length_cons] at hl
   rw [List.getElem_append_right (by rw [le8_length]; omega)]
   simp only [le8_length]
   rw [flat_get xs (k - 8) (by rw [flat8_length]; omega)]
   have e1 : k / 8 = (k - 8) / 8 + 1 := by omega
   have e2 : (k - 8) % 8 = k % 8 := by omega
   rw [e1, e2, List.getD_cons_succ]
theorem wb_get (xs : List Nat) (k : Nat) (h : k < 8 * xs.length) : (wb xs)[8 * xs.length - 1 - k]'(by rw [wb_length]; omega) = UInt8.ofNat (xs.getD (k / 8) 0 / 256 ^ (k % 8)) := by
 unfold wb
 rw [List.getElem_reverse]
 have e : (xs.flatMap le8).length - 1 - (8 * xs.length - 1 - k) = k := by rw [flat8_length]; omega
 simp only [e]
 exact flat_get xs k (by rw [flat8_length]; exact h)
theorem bfill_wb (xs : List Nat) (k : Nat) (h : k < 8 * xs.length) (z : Int) (hz : z = ((xs.getD (k / 8) 0 / 256 ^ (k % 8) % 256 : Nat) : Int)) :
  (Lib.byteCells (bfill (wb xs) k)).set (8 * xs.length - 1 - k) (.int .u8 z) = Lib.byteCells (bfill (wb xs) (k + 1)) := by
 have h' := bfill_step (wb xs) k (by rw [wb_length]; exact h)
 rw [<- h', byteCells_set]
 have e : (wb xs)[(wb xs).length - 1 - k]'(by rw [wb_length]; omega) = UInt8.ofNat (xs.getD (k / 8) 0 / 256 ^ (k % 8)) := by
  rw [<- wb_get xs k h]; congr 1; rw [wb_length]
 rw [e, wb_length, hz]
 congr 2
theorem bfill_wcell (xs : List Nat) (k : Nat) (h : k < 8 * xs.length) : (Lib.byteCells (bfill (wb xs) k))[8 * xs.length - 1 - k]? = some (.int .u8 0) := by
 unfold Lib.byteCells bfill
 rw [List.map_append, List.getElem?_append_left (by rw [List.length_map, List.length_replicate, wb_length]; omega), List.getElem?_map, List.getElem?_replicate, wb_length, if_pos (by omega)]
 rfl
theorem wnumber_any (g0 : Nat) (xs : List Nat) (v : Value) (w : World) (h : OW g0 xs v w) (hd : Dig B64 xs) (hl : xs.length <= 8589934592) :
  Calls Tryz.prog 160 #[v] w (Ret (.agg #[.int .u64 (lo (val B64 xs) : Nat), .string (hi (val B64 xs))]) w) := by
 have hg0 := h.lt
 obtain ⟨off, c, rfl, _, hcell⟩ := h.open
 have HC := Lib.hid hcell
 have HF : Hid (∀ W v', SlB (wb xs) v' W -> Calls Tryz.prog 126 #[v'] W (Ret (.agg #[.int .u64 (lo (val B64 xs) : Nat), .string (hi (val B64 xs))]) W)) := Lib.hid fun W v' hs => by
  have h := fromBytes_any (wb xs) v' W (by rw [wb_length]; omega) hs
  rw [wb_val hd] at h
  exact h
 have HW := Lib.hid (wb_length xs)
 obtain ⟨M, hMe⟩ : ∃ M, 8 * xs.length = M := ⟨_, rfl⟩
 have hq : 8 * ((xs.length : Nat) : Int) = (M : Nat) := by omega
 have HM := Lib.hid hMe
 have HSET : Hid (∀ k, k < M -> ∀ z : Int, z = ((xs.getD (k / 8) 0 / 256 ^ (k % 8) % 256 : Nat) : Int) -> (Lib.byteCells (bfill (wb xs) k)).set (M - 1 - k) (.int .u8 z) = Lib.byteCells (bfill (wb xs) (k + 1))) := Lib.hid fun k hk z hz => by subst hMe; exact bfill_wb xs k hk z hz
 have HGET : Hid (∀ k, k < M -> (Lib.byteCells (bfill (wb xs) k))[M - 1 - k]? = some (.int .u8 0)) := Lib.hid fun k hk => by subst hMe; exact bfill_wcell xs k hk
 have hM : M <= 68719476736 := by omega
 clear h hd hcell hl
 generalize val B64 xs = n at *
 generalize lo n = la at *
 generalize hi n = sa at *
 go_enter Tryz.func160, Tryz.ntmps160
 go_wp2_with (at_make; refine wpList_mk _ rfl (.tmp 7) (.tmp 7) 153 5 rfl (.int .u8 0) 1 Tryz.underlying153 info8 rfl .i64 .i64 _ _ M rfl rfl ?c1 ?c1' ?c2 ?c3 ?_)
 case c1 => omega
 case c1' => omega
 case c2 => omega
 case c3 => omega
 intro w1 hx1 hs1 hb1
 try simp only [World.size_alloc] at hs1 hb1
 have HR := Lib.hid ((Blk.new w 48 [.int .u64 0, .string ⟨#[]⟩]).ext hx1)
 have HX := Lib.hid (((Ext.refl w).alloc _).trans hx1)
 have HB : Hid (Blk w1 (w.heap.size + 1) 5 (Lib.byteCells (bfill (wb xs) 0))) := Lib.hid (by rw [bfill_zero, byteCells_rep, HW.out, HM.out]; exact hb1)
 clear hx1 hb1 hs1 hMe
 go_wp2
 go_loopw [11] (fun i wr => ∃ k : Nat, k <= M /\ i = .int .i64 k /\ Hid (Blk wr (w.heap.size + 1) 5 (Lib.byteCells (bfill (wb xs) k))) /\ Hid (But (w.heap.size + 1) w1 wr)) (fun i _ => M - (intOf i).toNat)
 case atStart => exact ⟨0, Nat.zero_le _, rfl, HB, Lib.hid (But.refl _ _)⟩
 case round =>
  obtain ⟨k, hk, rfl, hbk, hbut⟩ := hrel
  by_cases hkM : k < M
  ·have hki : k / 8 < xs.length := by have := HM.out; omega
   have hcx : wr.cell? ⟨g0, off + k / 8, none⟩ = some (.int .u64 (xs.getD (k / 8) 0 : Nat)) := (hbut.out.ext HX.out (by omega)).keep (HC.out _ hki)
   have hset : wr.cell? ⟨w.heap.size + 1, M - 1 - k, none⟩ = some (.int .u8 0) := by rw [hbk.out.cell]; exact HGET.out k hkM
   have hf : wr.frozen? ⟨w.heap.size + 1, M - 1 - k, none⟩ = false := hbk.out.frozen _
   have HS := Lib.hid (HSET.out k hkM)
   generalize xs.getD (k / 8) 0 = x at *
   go_wp2
   go_roundw
   case rel =>
    refine ⟨k + 1, by omega, by go_num, Lib.hid ?_, Lib.hid (hbut.out.set _ _)⟩
    have h := hbk.out.set (M - 1 - k) (.int .u8 ((x : Int) / 2 ^ (8 * (k % 8)) % 256))
    rw [HS.out _ (byte_shift x (k % 8)).symm] at h
    exact h
   case measure => simp [intOf]; omega
  ·obtain rfl : k = M := by omega
   have hsl : SlB (wb xs) (.slice (some ⟨w.heap.size + 1, 0, none⟩) k k) wr := by
    have hb := hbk.out
    have hl := HW.out
    rw [HM.out] at hl
    rw [<- hl, bfill_all] at hb
    rw [<- hl]
    exact ⟨_, _, rfl, Nat.le_refl _, ⟨by rw [hl]; omega, fun h => by cases h⟩, fun _ => ⟨_, 0, rfl, hb.lt, fun i hi => by rw [Nat.zero_add, hb.cell]; simp [Lib.byteCells, List.getElem?_map, List.getElem?_eq_getElem hi]⟩⟩
   have HF2 := Lib.hid (HF.out wr _ hsl)
   clear hsl
   go_wp2_with fail
   refine (HF2.out).mono ?_
   rintro e w3 ⟨rfl, hx3⟩
   have he : Ext w w3 := (hbut.out.ext HX.out (by omega)).trans hx3
   have hr3 := (hbut.out.blk HR.out (by omega)).ext hx3
   have r0 : w3.cell? ⟨w.heap.size, 0, none⟩ = some (.int .u64 0) := hr3.cell 0
   have r1 : w3.cell? ⟨w.heap.size, 1, none⟩ = some (.string ⟨#[]⟩) := hr3.cell 1
   have f0 : w3.frozen? ⟨w.heap.size, 0, none⟩ = false := hr3.frozen 0
   have f1 : w3.frozen? ⟨w.heap.size, 1, none⟩ = false := hr3.frozen 1
   go_wp2
   refine ret_nat w.heap.size _ _ rfl rfl ((hr3.set 0 _).set 1 _) rfl ⟨rfl, ?_⟩
   exact (Below.setCell he (p := ⟨w.heap.size, 0, none⟩) (by show _ <= _; simp) _).setCell (p := ⟨w.heap.size, 1, none⟩) (by show _ <= _; simp) _
theorem small_val {n : Nat} (h : n < B64) : (.agg #[.int .u64 (lo (n) : Nat), .string (hi (n))] : Value) = .agg #[.int .u64 (n : Nat), .string ⟨#[]⟩] := by rw [lo_small h, hi_small h]
theorem Sm.take (l : List UInt8) : Sm 384 (beN (l.take 48)) := beN_take l 48
theorem cadd {j k a b : Nat} (ha : Sm j a) (hb : Sm k b) (W : World) (h : max j k <= 549755813888 := by decide) :
  Calls Tryz.prog 141 #[.agg #[.int .u64 (lo (a) : Nat), .string (hi (a))], .agg #[.int .u64 (lo (b) : Nat), .string (hi (b))]] W (Ret (.agg #[.int .u64 (lo (a + b) : Nat), .string (hi (a + b))]) W) := add_any a b (by unfold Sm at ha; omega) (by unfold Sm at hb; omega) W
theorem cmul {j k a b : Nat} (ha : Sm j a) (hb : Sm k b) (W : World) (h : max j k <= 274877906944 := by decide) :
  Calls Tryz.prog 97 #[.agg #[.int .u64 (lo (a) : Nat), .string (hi (a))], .agg #[.int .u64 (lo (b) : Nat), .string (hi (b))]] W (Ret (.agg #[.int .u64 (lo (a * b) : Nat), .string (hi (a * b))]) W) := mul_any a b (by unfold Sm at ha; omega) (by unfold Sm at hb; omega) W
theorem ccmp {j k a b : Nat} (ha : Sm j a) (hb : Sm k b) (W : World) (h : max j k <= 549755813888 := by decide) :
  Calls Tryz.prog 128 #[.agg #[.int .u64 (lo (a) : Nat), .string (hi (a))], .agg #[.int .u64 (lo (b) : Nat), .string (hi (b))]] W (Ret (.int .i64 (cmpN a b)) W) := cmp_any a b (by unfold Sm at ha; omega) (by unfold Sm at hb; omega) W
theorem csub {j k a b : Nat} (ha : Sm j a) (hb : Sm k b) (e : b <= a) (W : World) (h : max j k <= 549755813888 := by decide) :
  Calls Tryz.prog 142 #[.agg #[.int .u64 (lo (a) : Nat), .string (hi (a))], .agg #[.int .u64 (lo (b) : Nat), .string (hi (b))]] W (Ret (.tuple #[.agg #[.int .u64 (lo (a - b) : Nat), .string (hi (a - b))], .bool true]) W) := sub_ge a b (by unfold Sm at ha; omega) (by unfold Sm at hb; omega) e W
theorem csub_no {j k a b : Nat} (ha : Sm j a) (hb : Sm k b) (e : a < b) (W : World) (h : max j k <= 549755813888 := by decide) :
  Calls Tryz.prog 142 #[.agg #[.int .u64 (lo (a) : Nat), .string (hi (a))], .agg #[.int .u64 (lo (b) : Nat), .string (hi (b))]] W (Ret (.tuple #[.agg #[.int .u64 (lo (0) : Nat), .string (hi (0))], .bool false]) W) := sub_lt a b (by unfold Sm at ha; omega) (by unfold Sm at hb; omega) e W
theorem cbits {k a : Nat} (ha : Sm k a) (W : World) (h : k <= 1099511627776 := by decide) :
  Calls Tryz.prog 125 #[.agg #[.int .u64 (lo (a) : Nat), .string (hi (a))]] W (Ret (.int .i64 (bl a : Nat)) W) := bits_any a (by unfold Sm at ha; omega) W
def Box0 (v : Value) (w : World) : Prop := ∃ g, v = .pointer (some ⟨g, 0, none⟩) /\ Blk w g 48 [.int .u64 0, .string ⟨#[]⟩]
theorem Box0.ext {v : Value} {w w' : World} (h : Box0 v w) (e : Ext w w') : Box0 v w' := by
 obtain ⟨g, h1, h2⟩ := h
 exact ⟨g, h1, h2.ext e⟩
def Box1 (B : Nat) (v : Value) (w : World) : Prop := ∃ g, B <= g /\ v = .pointer (some ⟨g, 0, none⟩) /\ Blk w g 48 [.int .u64 0, .string ⟨#[]⟩]
theorem Box1.ext {B : Nat} {v : Value} {w w' : World} (h : Box1 B v w) (e : Ext w w') : Box1 B v w' := by
 obtain ⟨g, h0, h1, h2⟩ := h
 exact ⟨g, h0, h1, h2.ext e⟩
theorem Box1.new {B : Nat} (w : World) (h : B <= w.heap.size) : Box1 B (.pointer (some ⟨w.heap.size, 0, none⟩)) (w.alloc (.cells #[.int .u64 0, .string ⟨#[]⟩] 48)) :=
 ⟨_, h, rfl, Blk.new w _ _⟩
theorem div64_zero (lo y : Nat) (hy : 0 < y) (hl : lo < B64) (w : World) :
  Calls Tryz.prog 172 #[.int .u64 0, .int .u64 lo, .int .u64 y] w fun e w' => e = .returned (.tuple #[.int .u64 (lo / y : Nat), .int .u64 (lo % y : Nat)]) /\ ∃ n, w' = w.drewN n := by
 have h1 : ((y : Int) == 0) = false := beq_eq_false_iff_ne.2 (by omega)
 have h2 : 0 < y := hy
 have h3 : (1 : Int) <= (y : Int) := by omega
 have h4 : (lo : Int) <= 18446744073709551615 := by unfold B64 at hl; omega
 go_enter Tryz.func172, Tryz.ntmps172
 go_wp2
 go_quiet (fail)
 go_wp2
 go_ret2
 refine ⟨?_, nq, rfl⟩
 have e1 : IntKind.u64.wrap ((lo : Int) / (y : Int)) = ((lo / y : Nat) : Int) := by
  have h5 : lo / y <= lo := Nat.div_le_self _ _
  have : (lo : Int) / (y : Int) = ((lo / y : Nat) : Int) := by push_cast; rfl
  rw [this, wrapN, Nat.mod_eq_of_lt (by omega)]
 have e2 : (lo : Int) % (y : Int) = ((lo % y : Nat) : Int) := by push_cast; rfl
 rw [e1, e2]
 rfl
theorem div64_core (hi lo y s : Nat) (hh : 0 < hi) (hy : hi < y) (hyb : y < B64) (hl : lo < B64) (hs : s + bl y = 64) (w : World) :
  Calls Tryz.prog 172 #[.int .u64 hi, .int .u64 lo, .int .u64 y] w fun e w' => e = .returned (.tuple #[.int .u64 ((hi * B64 + lo) / y : Nat), .int .u64 ((hi * B64 + lo) % y : Nat)]) /\ w' = w := by
 have h1 : ((y : Int) == 0) = false := beq_eq_false_iff_ne.2 (by omega)
 have h2 : ((hi : Int) == 0) = false := beq_eq_false_iff_ne.2 (by omega)
 have hlz : ∀ W, Calls Tryz.prog 173 #[.int .u64 y] W fun e w' => e = .returned (.int .i64 s) /\ W = w' := fun W => by
  have h := Tryz.bits_LeadingZeros64 (y : Int) W (by omega) (by unfold B64 at hyb; omega)
  rw [Int.toNat_natCast, bitLen_eq hyb] at h
  refine h.mono ?_
  rintro e w' ⟨rfl, rfl⟩
  exact ⟨by congr 2; omega, rfl⟩
 have HLZ := Lib.hid hlz
 have hs64 : s < 64 := by have := bl_pos (n := y) (by omega); omega
 have hhb : hi < B64 := by omega
 have b1 : (hi : Int) <= 18446744073709551615 := by unfold B64 at hhb; omega
 have b2 : (lo : Int) <= 18446744073709551615 := by unfold B64 at hl; omega
 have b3 : (y : Int) <= 18446744073709551615 := by unfold B64 at hyb; omega
 obtain ⟨Y, y1, y0, U, T, u1, u0, hset⟩ := set64 hi lo y s hy hl hs
 obtain ⟨ra, rb⟩ := div64_end hset (by omega)
 have RA := Lib.hid ra
 have RB := Lib.hid rb
 have e1 := hset.e1
 have e2 := hset.e2
 have e3 := hset.e3
 have e4 := hset.e4
 have e5 := hset.e5
 have e6 := hset.e6
 have e7 := hset.e7
 have i1 : (2147483648 : Int) <= (y1 : Int) := by have := hset.y1lo; omega
 have i2 : (y1 : Int) < 4294967296 := by have : y1 < 4294967296 := hset.y1hi; omega
 have i3 : (y0 : Int) < 4294967296 := by have : y0 < 4294967296 := hset.y0hi; omega
 have i4 : (u1 : Int) < 4294967296 := by have : u1 < 4294967296 := hset.u1hi; omega
 have i5 : (u0 : Int) < 4294967296 := by have : u0 < 4294967296 := hset.u0hi; omega
 have hp1 : 0 < y1 := by omega
 have lp1 : Lp Y y1 y0 U u1 := ⟨hset.yy, hset.y1lo, hset.y1hi, hset.y0hi, hset.u, hset.u1hi⟩
 have hYb := lp1.lt
 have hYp : 0 < Y := by have := lp1.ult; omega
 obtain ⟨R1, hR1⟩ : ∃ R1, R1 = (U * b32 + u1) % Y := ⟨_, rfl⟩
 have hRY : R1 < Y := by rw [hR1]; exact Nat.mod_lt _ hYp
 have lp2 : Lp Y y1 y0 R1 u0 := ⟨hset.yy, hset.y1lo, hset.y1hi, hset.y0hi, hRY, hset.u0hi⟩
 obtain ⟨R0, hR0⟩ : ∃ R0, R0 = (R1 * b32 + u0) % Y := ⟨_, rfl⟩
 have hUb : (U : Int) <= 18446744073709551615 := by have := lp1.ult; unfold B64 at hYb; omega
 have hRb : (R1 : Int) <= 18446744073709551615 := by unfold B64 at hYb; omega
 have hRb0 : (R0 : Int) <= 18446744073709551615 := by
  have : R0 < Y := by rw [hR0]; exact Nat.mod_lt _ hYp
  unfold B64 at hYb; omega
 have hw1 : ∀ q : Nat, q = (U * b32 + u1) / Y -> IntKind.u64.wrap (IntKind.u64.wrap (IntKind.u64.wrap ((U : Int) * 4294967296) + (u1 : Int)) - IntKind.u64.wrap ((q : Int) * (Y : Int))) = (R1 : Int) := fun q hq => by
  rw [hR1]; exact wrap_rest hYb hYp hq
 have hw2 : ∀ q : Nat, q = (R1 * b32 + u0) / Y -> IntKind.u64.wrap (IntKind.u64.wrap (IntKind.u64.wrap ((R1 : Int) * 4294967296) + (u0 : Int)) - IntKind.u64.wrap ((q : Int) * (Y : Int))) = (R0 : Int) := fun q hq => by
  rw [hR0]; exact wrap_rest hYb hYp hq
 have hfin : ∀ Q q : Nat, Q = (U * b32 + u1) / Y -> q = (R1 * b32 + u0) / Y -> (Q : Int) * 4294967296 + (q : Int) = (((hi * B64 + lo) / y : Nat) : Int) /\ (R0 : Int) / 2 ^ s = (((hi * B64 + lo) % y : Nat) : Int) := fun Q q hQ hq => by
  rw [<- RA.out, <- RB.out, <- hR1, <- hR0, <- hQ, <- hq]
  refine ⟨?_, ?_⟩
  ·rw [Int.natCast_add, Int.natCast_mul]; rfl
  ·rw [Int.natCast_ediv, Int.natCast_pow]; rfl
 have hQb : (U * b32 + u1) / Y < b32 := digit_lt lp1.ult lp1.uhi
 have hqb0 : (R1 * b32 + u0) / Y < b32 := digit_lt lp2.ult lp2.uhi
 obtain ⟨qq, rr, pk1⟩ := pk U y1 hp1
 obtain ⟨qs, rs, pk2⟩ := pk R1 y1 hp1
 obtain ⟨st1, st2, st3⟩ := lp1.start pk1
 obtain ⟨st4, st5, st6⟩ := lp2.start pk2
 have hqq : qq <= 4294967297 := st2
 have LP1 := Lib.hid lp1
 have LP2 := Lib.hid lp2
 have PK2 := Lib.hid pk2
 have ST := Lib.hid (And.intro st4 (And.intro st5 st6))
 have SA := Lib.hid (And.intro st1 (And.intro st2 st3))
 have HW1 := Lib.hid hw1
 have HW2 := Lib.hid hw2
 have HFIN := Lib.hid hfin
 have HQB := Lib.hid (And.intro hQb hqb0)
 have HI := Lib.hid (And.intro i1 (And.intro i2 (And.intro i3 (And.intro i4 (And.intro i5 (And.intro hRb hRb0))))))
 have d1 := pk1.d1
 have d2 := pk1.d2
 have d3 := pk1.d3
 have d4 := pk1.d4
 clear hlz hs hset ra rb RA RB lp1 lp2 pk1 pk2 st1 st2 st3 st4 st5 st6 hw1 hw2 hfin hR1 hR0 hRY hQb hqb0 hYb hYp hhb i1 i2 i3 i4 i5 hRb hRb0
 go_enter Tryz.func172, Tryz.ntmps172
 go_wp2_with (go_at_call 173; refine (HLZ.out _).mono ?_; rintro e w' ⟨rfl, rfl⟩)
 go_loop [15, 16] (fun a b => ∃ q r : Nat, a = .int .u64 q /\ b = .int .u64 r /\ Hid (r < 4294967296 /\ q <= 4294967297 /\ Dg b32 y1 y0 U u1 q r)) (fun a _ => (intOf a).toNat)
 case atStart => exact ⟨qq, rr, rfl, rfl, SA⟩
 case round =>
  clear hqq d1 d2 d3 d4 SA e1 e2 e3 e4 e5 e6 e7 b1 b2 b3 h1 h2 hp1 hUb
  obtain ⟨q, r, rfl, rfl, hD⟩ := hrel
  obtain ⟨i1, i2, i3, i4, i5, hRb, hRb0⟩ := HI.out
  have n3 : (r : Int) < 4294967296 := by have := hD.out.1; omega
  by_cases hc : q < 4294967296 /\ q * y0 <= b32 * r + u1
  case' pos =>
   obtain ⟨hQ, n1, n2, hb1, hb2⟩ := LP1.out.exit1 hD.out.2.2 hc
   have hw := HW1.out q hQ
   have HQ := Lib.hid hQ
   have p1 := PK2.out.d1
   have p2 := PK2.out.d2
   have p3 := PK2.out.d3
   have p4 := PK2.out.d4
   have p5 : (qs : Int) <= 4294967297 := by have := ST.out.2.1; omega
   clear hQ hc hD
   go_wp2_with fail
   clear n1 n2 n3 hb1 hb2 hw p1 p2 p3 p4 p5
   generalize q = Q at *
  case' neg =>
   obtain ⟨hq1, hN, hb⟩ := LP1.out.go hD.out.2.2 hc
   obtain ⟨q, rfl⟩ : ∃ k, q = k + 1 := ⟨q - 1, by omega⟩
   rw [Nat.add_sub_cancel] at hN
   have hql := hD.out.2.1
   have m1 : ((q + 1 : Nat) : Int) = (q : Int) + 1 := by omega
   rw [m1] at hb ⊢
   have HN := Lib.hid hN
   have HQL := Lib.hid hql
   have m2 : (q : Int) + 1 <= 4294967297 := by omega
   clear hc hD hN hql hq1 m1
   by_cases hr2 : r + y1 < 4294967296
   case' pos =>
    have k1 : decide ((4294967296 : Int) <= (r : Int) + (y1 : Int)) = false := decide_eq_false (by omega)
    have HR2 := Lib.hid hr2
    clear hr2
    rcases hb with hb1 | ⟨hb1, n1, n2, hb2⟩
    all_goals
     go_wp2_with fail
     go_round
     case rel => exact ⟨q, r + y1, by go_num, by go_num, Lib.hid ⟨HR2.out, by have := HQL.out; omega, HN.out⟩⟩
     case measure => simp [intOf]
   case' neg =>
    have k1 : decide ((4294967296 : Int) <= (r : Int) + (y1 : Int)) = true := decide_eq_true (by omega)
    have hQ : q = (U * b32 + u1) / Y := LP1.out.exit2 HN.out (by have := HQL.out; omega) (by omega)
    have hw := HW1.out q hQ
    have HQ := Lib.hid hQ
    have p1 := PK2.out.d1
    have p2 := PK2.out.d2
    have p3 := PK2.out.d3
    have p4 := PK2.out.d4
    have p5 : (qs : Int) <= 4294967297 := by have := ST.out.2.1; omega
    clear hQ hr2
    rcases hb with hb1 | ⟨hb1, n1, n2, hb2⟩
    all_goals
     go_wp2_with fail
     clear n3 hb1 hw p1 p2 p3 p4 p5 k1 m2 HN HQL
     generalize q = Q at *
  all_goals
   go_loop [16, 18] (fun b a => ∃ q r : Nat, a = .int .u64 q /\ b = .int .u64 r /\ Hid (r < 4294967296 /\ q <= 4294967297 /\ Dg b32 y1 y0 R1 u0 q r)) (fun _ a => (intOf a).toNat)
   case atStart => exact ⟨qs, rs, rfl, rfl, ST⟩
   case round =>
    obtain ⟨q, r, rfl, rfl, hD⟩ := hrel
    have n3 : (r : Int) < 4294967296 := by have := hD.out.1; omega
    have hQb : (Q : Int) < 4294967296 := by have h := HQB.out.1; rw [<- HQ.out] at h; unfold b32 at h; omega
    by_cases hc : q < 4294967296 /\ q * y0 <= b32 * r + u0
    ·obtain ⟨hq, n1, n2, hb1, hb2⟩ := LP2.out.exit1 hD.out.2.2 hc
     have hw := HW2.out q hq
     obtain ⟨f1, f2⟩ := HFIN.out Q q HQ.out hq
     have hqb : (q : Int) < 4294967296 := by omega
     have F1 := Lib.hid f1
     have F2 := Lib.hid f2
     clear hq hc hD f1 f2
     go_wp2_with fail
     go_ret2
     refine ⟨?_, rfl⟩
     rw [F1.out, F2.out]
     rfl
    ·obtain ⟨hq1, hN, hb⟩ := LP2.out.go hD.out.2.2 hc
     obtain ⟨q, rfl⟩ : ∃ k, q = k + 1 := ⟨q - 1, by omega⟩
     rw [Nat.add_sub_cancel] at hN
     have hql := hD.out.2.1
     have m1 : ((q + 1 : Nat) : Int) = (q : Int) + 1 := by omega
     rw [m1] at hb ⊢
     have HN := Lib.hid hN
     have HQL := Lib.hid hql
     have m2 : (q : Int) + 1 <= 4294967297 := by omega
     clear hc hD hN hql hq1 m1
     by_cases hr2 : r + y1 < 4294967296
     ·have k1 : decide ((4294967296 : Int) <= (r : Int) + (y1 : Int)) = false := decide_eq_false (by omega)
      have HR2 := Lib.hid hr2
      clear hr2
      rcases hb with hb1 | ⟨hb1, n1, n2, hb2⟩
      all_goals
       go_wp2_with fail
       go_round
       case rel => exact ⟨q, r + y1, by go_num, by go_num, Lib.hid ⟨HR2.out, by have := HQL.out; omega, HN.out⟩⟩
       case measure => simp [intOf]
     ·have k1 : decide ((4294967296 : Int) <= (r : Int) + (y1 : Int)) = true := decide_eq_true (by omega)
      have hq : q = (R1 * b32 + u0) / Y := LP2.out.exit2 HN.out (by have := HQL.out; omega) (by omega)
      have hw := HW2.out q hq
      obtain ⟨f1, f2⟩ := HFIN.out Q q HQ.out hq
      have hqb : (q : Int) < 4294967296 := by have h := HQB.out.2; rw [<- hq] at h; unfold b32 at h; omega
      have F1 := Lib.hid f1
      have F2 := Lib.hid f2
      clear hq hr2 f1 f2
      rcases hb with hb1 | ⟨hb1, n1, n2, hb2⟩
      all_goals
       go_wp2_with fail
       go_ret2
       refine ⟨?_, rfl⟩
       rw [F1.out, F2.out]
       rfl
theorem div64_any (hi lo y : Nat) (hy : hi < y) (hyb : y < B64) (hl : lo < B64) (w : World) :
  Calls Tryz.prog 172 #[.int .u64 hi, .int .u64 lo, .int .u64 y] w fun e w' => e = .returned (.tuple #[.int .u64 ((hi * B64 + lo) / y : Nat), .int .u64 ((hi * B64 + lo) % y : Nat)]) /\ ∃ n, w' = w.drewN n := by
 by_cases h0 : hi = 0
 ·subst h0
  have := div64_zero lo y hy hl w
  rw [Nat.zero_mul, Nat.zero_add]
  exact this
 ·have hb : bl y <= 64 := bl_le hyb
  exact (div64_core hi lo y (64 - bl y) (by omega) hy hyb hl (by omega) w).mono fun _ _ h => ⟨h.1, 0, h.2⟩
def DivWordPost (g n d : Nat) (xs : List Nat) (w : World) (e : Ending) (w' : World) : Prop :=
 ∃ L, L.length = xs.length /\ Dig B64 L /\ val B64 L = val B64 xs / d /\ e = .returned (.tuple #[.slice (some ⟨g, 0, none⟩) (limbs B64 (val B64 xs / d)).length n, .int .u64 (val B64 xs % d : Nat)]) /\ Blk w' g 46 (U L) /\ But g w w'
theorem divWord_any (g : Nat) (xs : List Nat) (d : Nat) (w : World) (hb : Blk w g 46 (U xs)) (hx : xs.length <= 8589934593) (hd : Dig B64 xs) (hd0 : 0 < d) (hdb : d < B64) :
  Calls Tryz.prog 153 #[.slice (some ⟨g, 0, none⟩) xs.length xs.length, .int .u64 d] w (DivWordPost g xs.length d xs w) := by
 have HB := Lib.hid hb
 clear hb
 go_enter Tryz.func153, Tryz.ntmps153
 go_wp2
 go_loopw [6, 7] (fun a b wr => ∃ (k r : Nat) (L : List Nat), k <= xs.length /\ b = .int .i64 ((k : Int) - 1) /\ a = .int .u64 r /\ Hid (DwInv xs d k r L) /\ Hid (Blk wr g 46 (U L)) /\ Hid (But g w wr)) (fun _ b _ => (intOf b + 1).toNat)
 case atStart => exact ⟨xs.length, 0, xs, Nat.le_refl _, rfl, rfl, Lib.hid (DwInv.start hd hd0), HB, Lib.hid (But.refl _ _)⟩
 case round =>
  obtain ⟨k, r, L, hk, rfl, rfl, hL, hbk, hbut⟩ := hrel
  by_cases hk0 : k = 0
  ·subst hk0
   obtain ⟨f1, f2⟩ := hL.out.fin
   have hll := hL.out.len
   have hdl := hL.out.dig
   have ht : Calls Tryz.prog 162 #[.slice (some ⟨g, 0, none⟩) xs.length xs.length] wr fun e w' => e = .returned (.slice (some ⟨g, 0, none⟩) (limbs B64 (val B64 xs / d)).length xs.length) /\ wr = w' := by
    have h := trim_core g 0 xs.length L wr (by omega) (by omega) hdl (fun i hi => by rw [Nat.zero_add, hbk.out.cell i, getD_U _ _ hi])
    rw [f1, hll] at h
    exact h
   have HT := Lib.hid ht
   have F1 := Lib.hid f1
   have F2 := Lib.hid f2
   have HLL := Lib.hid hll
   clear ht f1 f2 hll
   go_wp2_with (go_at_call 162; refine (HT.out).mono ?_; rintro e w' ⟨rfl, rfl⟩)
   go_ret2
   refine ⟨L, HLL.out, hdl, F1.out, ?_, hbk.out, hbut.out⟩
   rw [<- F2.out]
   rfl
  ·obtain ⟨k, rfl⟩ : ∃ j, k = j + 1 := ⟨k - 1, by omega⟩
   obtain ⟨hq, hN⟩ := hL.out.step (by omega)
   have hlow := getD_take hL.out.low (Nat.lt_succ_self k)
   have hll := hL.out.len
   have hc : wr.cell? ⟨g, k, none⟩ = some (.int .u64 (xs.getD k 0 : Nat)) := by rw [hbk.out.cell k, getD_U _ _ (by omega), hlow]
   have hf : wr.frozen? ⟨g, k, none⟩ = false := hbk.out.frozen k
   have hrd := hL.out.lt
   have hxd : xs.getD k 0 < B64 := hd.getD (by unfold B64; omega) k
   have hD : ∀ W, Calls Tryz.prog 172 #[.int .u64 r, .int .u64 (xs.getD k 0 : Nat), .int .u64 d] W fun e w' => e = .returned (.tuple #[.int .u64 ((r * B64 + xs.getD k 0) / d : Nat), .int .u64 ((r * B64 + xs.getD k 0) % d : Nat)]) /\ ∃ n, w' = W.drewN n := fun W => div64_any r (xs.getD k 0) d hrd hdb hxd W
   have HD := Lib.hid hD
   have HN := Lib.hid hN
   clear hlow hll hD hN hL hq
   generalize (r * B64 + xs.getD k 0) / d = q at *
   generalize (r * B64 + xs.getD k 0) % d = r' at *
   generalize xs.getD k 0 = x at *
   rw [show ((k + 1 : Nat) : Int) - 1 = (k : Int) from by omega]
   go_wp2_with fail
   refine (HD.out _).mono ?_
   rintro e w2 ⟨rfl, n2, rfl⟩
   go_wp2
   go_roundw
   case rel =>
    refine ⟨k, r', L.set k q, by omega, rfl, rfl, HN, ?_, ?_⟩
    ·rw [<- U_set]; exact Lib.hid (hbk.out.set k _)
    ·exact Lib.hid ((hbut.out.set k _).trans (But.of_ext ((Ext.refl _).drewN n2)))
   case measure => simp [intOf]
def gQ (U u v1 v0 : Nat) : Nat := min ((U * B64 + u) / (v1 * B64 + v0)) (B64 - 1)
theorem min_pred {B g q : Nat} (h1 : g < B) (h4 : g <= q) (h3 : g = B - 1 \/ q < g + 1) : g = min q (B - 1) := by omega
theorem min_pred' {B q : Nat} (hB : 0 < B) : min q (B - 1) < B /\ min q (B - 1) <= q /\ (min q (B - 1) = B - 1 \/ q < min q (B - 1) + 1) := by omega
theorem gQ_pos {v1 v0 : Nat} (hv : 0 < v1) : 0 < v1 * B64 + v0 := by
 have : 0 < v1 * B64 := Nat.mul_pos hv (by unfold B64; omega)
 exact Nat.lt_of_lt_of_le this (Nat.le_add_right _ _)
theorem good_gQ {U u v1 v0 g : Nat} (hv : 0 < v1) (h : Good U u v1 v0 g) : g = gQ U u v1 v0 := by
 obtain ⟨h1, h2, h3⟩ := h
 have hp := gQ_pos (v0 := v0) hv
 exact min_pred h1 ((Nat.le_div_iff_mul_le hp).2 h2) (h3.imp id (fun h3 => (Nat.div_lt_iff_lt_mul hp).2 h3))
theorem gQ_good {U u v1 v0 : Nat} (hv : 0 < v1) : Good U u v1 v0 (gQ U u v1 v0) := by
 have hp := gQ_pos (v0 := v0) hv
 obtain ⟨h1, h2, h3⟩ := min_pred' (B := B64) (q := (U * B64 + u) / (v1 * B64 + v0)) (by unfold B64; omega)
 exact ⟨h1, (Nat.le_div_iff_mul_le hp).1 h2, h3.imp id (fun h3 => (Nat.div_lt_iff_lt_mul hp).1 h3)⟩
theorem guessWord_any (u2 u1 u0 v1 v0 : Nat) (h2 : u2 <= v1) (hu1 : u1 < B64) (hu0 : u0 < B64) (hv1 : v1 < B64) (hv0 : v0 < B64) (hv : 0 < v1) (w : World) :
  Calls Tryz.prog 175 #[.int .u64 u2, .int .u64 u1, .int .u64 u0, .int .u64 v1, .int .u64 v0] w fun e w' => e = .returned (.int .u64 (gQ (u2 * B64 + u1) u0 v1 v0 : Nat)) /\ ∃ n, w' = w.drewN n := by
 have HM : Hid (∀ g : Nat, g < B64 -> ∀ W, Calls Tryz.prog 133 #[.int .u64 g, .int .u64 v0] W fun e w' => e = .returned (.tuple #[.int .u64 (muH g v0 : Nat), .int .u64 (muL g v0 : Nat)]) /\ W = w') := Lib.hid (fun g hg W => mul64_any g v0 hg hv0 W)
 have HA : Hid (∀ (r : Nat) W, (callFunc 166 #[.int .u64 r, .int .u64 v1, .int .u64 0]).run Tryz.prog W = .ok (.value (.tuple #[.int .u64 (adS r v1 0 : Nat), .int .u64 (adC r v1 0 : Nat)])) W) := Lib.hid (fun r W => add64_0 r v1 W)
 have HU0 := Lib.hid hu0
 have HV1 := Lib.hid hv1
 have HV0 := Lib.hid hv0
 have HV := Lib.hid hv
 clear hv
 by_cases he : u2 = v1
 case' pos =>
  have hst : Gw (u2 * B64 + u1) u0 v1 v0 18446744073709551615 (adS u1 v1 0) (adC u1 v1 0) := by rw [he]; exact Gw.same (by have := ad_eq u1 v1 0; omega) (adS_lt _ _ _) (adC_le hu1 hv1 (by omega))
  have hadd := HA.out u1
  generalize adS u1 v1 0 = r0 at *
  generalize adC u1 v1 0 = o0 at *
  have HST := Lib.hid hst
  have HX : Hid (∃ n, w = w.drewN n) := Lib.hid ⟨0, rfl⟩
  clear hst hu1 hu0 hv1 hv0 h2
  have hb : ((u2 : Int) == (v1 : Int)) = true := by rw [he]; simp
  generalize u2 * B64 + u1 = U at *
  clear he
  go_enter Tryz.func175, Tryz.ntmps175
  go_wp2
  clear hadd hb
 case' neg =>
  have hlt : u2 < v1 := by omega
  have HD := Lib.hid (fun W => div64_any u2 u1 v1 hlt hv1 hu1 W)
  have hst : Gw (u2 * B64 + u1) u0 v1 v0 ((u2 * B64 + u1) / v1) ((u2 * B64 + u1) % v1) 0 := Gw.less hlt hu1 hu0 hv1
  have HST := Lib.hid hst
  have hb : ((u2 : Int) == (v1 : Int)) = false := beq_eq_false_iff_ne.2 (by omega)
  clear hst hu1 hu0 hv1 hv0 h2 hlt he
  generalize (u2 * B64 + u1) / v1 = g0 at *
  generalize (u2 * B64 + u1) % v1 = r0 at *
  generalize u2 * B64 + u1 = U at *
  go_enter Tryz.func175, Tryz.ntmps175
  go_wp2_with fail
  refine (HD.out _).mono ?_
  rintro e w1 ⟨rfl, n1, hw1⟩
  have HX : Hid (∃ n, w1 = w.drewN n) := Lib.hid ⟨n1, hw1⟩
  clear hw1
  go_wp2
  clear hb HD
 all_goals
  go_loop [11, 12, 13] (fun a b c => ∃ g r o : Nat, a = .int .u64 g /\ b = .int .u64 r /\ c = .int .u64 o /\ Hid (Gw U u0 v1 v0 g r o)) (fun a _ _ => (intOf a).toNat)
  case atStart => first | exact ⟨18446744073709551615, r0, o0, rfl, rfl, rfl, HST⟩ | exact ⟨g0, r0, 0, rfl, rfl, rfl, HST⟩
  case round =>
   obtain ⟨g, r, o, rfl, rfl, rfl, hG⟩ := hrel
   have ho := hG.out.o1
   by_cases ho1 : o = 1
   ·subst ho1
    have hgood := Lib.hid (hG.out.over HV0.out)
    go_wp2
    go_ret
    exact ⟨by rw [<- good_gQ (HV.out) hgood.out]; rfl, HX.out⟩
   ·obtain rfl : o = 0 := by omega
    have hm := HM.out g hG.out.glt
    have ht := guess_test (g := g) (v0 := v0) (r := r) (u := u0) HU0.out
    generalize muH g v0 = h at *
    generalize muL g v0 = l at *
    have HMM := Lib.hid hm
    clear hm ho ho1
    by_cases hgood : g * v0 <= r * B64 + u0
    ·have HG2 := Lib.hid (hG.out.done hgood)
     rcases ht.2 hgood with h1 | ⟨h1, h3⟩
     ·have i1 : (h : Int) < r := by omega
      clear ht hgood h1
      go_wp2_with (go_at_call 133; refine (HMM.out _).mono ?_; rintro e w' ⟨rfl, rfl⟩)
      go_ret
      exact ⟨by rw [<- good_gQ (HV.out) HG2.out]; rfl, HX.out⟩
     ·subst h1
      have i1 : (l : Int) <= u0 := by omega
      clear ht hgood h3
      go_wp2_with (go_at_call 133; refine (HMM.out _).mono ?_; rintro e w' ⟨rfl, rfl⟩)
      go_ret
      exact ⟨by rw [<- good_gQ (HV.out) HG2.out]; rfl, HX.out⟩
    ·have hnot : ¬ (h < r \/ (h = r /\ l <= u0)) := fun x => hgood (ht.1 x)
     obtain ⟨hg1, hN⟩ := hG.out.next (s := adS r v1 0) (c := adC r v1 0) (by omega) (by have := ad_eq r v1 0; omega) (adS_lt _ _ _) (adC_le hG.out.rlt HV1.out (by omega))
     have hadd := HA.out r
     have HN := Lib.hid hN
     have hgi : (1 : Int) <= g := by omega
     have hgu : (g : Int) <= 18446744073709551615 := by have := hG.out.glt; unfold B64 at this; omega
     generalize adS r v1 0 = s at *
     generalize adC r v1 0 = c at *
     have hcase : (r : Int) < h \/ ((h : Int) = r /\ (u0 : Int) < l) := by omega
     clear hnot ht hgood hg1 hN
     rcases hcase with i1 | ⟨i0, i1⟩
     case' inl =>
      have j1 : ((h : Int) == (r : Int)) = false := beq_eq_false_iff_ne.2 (by omega)
      have j2 : decide ((h : Int) < (r : Int)) = false := decide_eq_false (by omega)
     case' inr =>
      obtain rfl : h = r := by omega
      have j2 : decide ((l : Int) <= (u0 : Int)) = false := decide_eq_false (by omega)
      clear i0
     all_goals
      go_wp2_with (go_at_call 133; refine (HMM.out _).mono ?_; rintro e w' ⟨rfl, rfl⟩)
      go_round
      case rel => exact ⟨g - 1, s, c, by congr 1; omega, rfl, rfl, HN⟩
      case measure => simp [intOf]; omega
theorem top_le {ys : List Nat} {n : Nat} (hn : ys.length = n + 1) : B64 ^ n * ys.getD n 0 <= val B64 ys := by
 have h := val_take_getD B64 ys n
 rw [List.take_of_length_le (by omega)] at h
 omega
theorem norm_take {ys zs : List Nat} {s n : Nat} (hn : ys.length = n + 1) (hdy : Dig B64 ys) (hl : zs.length = n + 2) (hdz : Dig B64 zs) (hv : val B64 zs = val B64 ys * 2 ^ s) (hs : s + bl (ys.getD n 0) = 64) (ht : ys.getD n 0 ≠ 0) :
  val B64 (zs.take (n + 1)) = val B64 ys * 2 ^ s /\ (zs.take (n + 1)).getD n 0 ≠ 0 /\ val B64 ys * 2 ^ s < B64 ^ (n + 1) /\ 0 < val B64 ys * 2 ^ s := by
 have hP : 0 < B64 ^ n := Nat.pow_pos (by unfold B64; omega)
 have h0 := val_take_getD B64 ys n
 rw [List.take_of_length_le (by omega)] at h0
 have h1 := val_lt (hdy.take n)
 rw [List.length_take, Nat.min_eq_left (by omega)] at h1
 have h2 := lt_bl (ys.getD n 0)
 have htop := top_le hn
 generalize ys.getD n 0 = t at *
 have h3 : val B64 ys < B64 ^ n * 2 ^ bl t := by
  have : B64 ^ n * (t + 1) <= B64 ^ n * 2 ^ bl t := Nat.mul_le_mul_left _ h2
  rw [Nat.mul_add, Nat.mul_one] at this
  omega
 have h4 : val B64 ys * 2 ^ s < B64 ^ (n + 1) := by
  have hs2 : 0 < 2 ^ s := Nat.pow_pos (by omega)
  have := Nat.mul_lt_mul_of_pos_right h3 hs2
  rw [Nat.mul_assoc, <- Nat.pow_add, show bl t + s = 64 from by omega] at this
  exact this
 have h5 : B64 ^ n <= val B64 ys * 2 ^ s := by
  have a1 : B64 ^ n * 1 <= B64 ^ n * t := Nat.mul_le_mul_left _ (by omega)
  have a2 : val B64 ys * 1 <= val B64 ys * 2 ^ s := Nat.mul_le_mul_left _ (Nat.pow_pos (by omega))
  omega
 have h6 := val_take_getD B64 zs (n + 1)
 rw [List.take_of_length_le (by omega), hv] at h6
 have h7 : zs.getD (n + 1) 0 = 0 := by
  rcases Nat.eq_zero_or_pos (zs.getD (n + 1) 0) with h | h
  ·exact h
  ·have : B64 ^ (n + 1) * 1 <= B64 ^ (n + 1) * zs.getD (n + 1) 0 := Nat.mul_le_mul_left _ h
   omega
 rw [h7, Nat.mul_zero, Nat.add_zero] at h6
 refine ⟨h6.symm, fun h8 => ?_, h4, by omega⟩
 have h9 := val_take_getD B64 (zs.take (n + 1)) n
 rw [List.take_take, Nat.min_eq_left (by omega), List.take_take, Nat.min_eq_left (by omega), h8, Nat.mul_zero, Nat.add_zero, <- h6] at h9
 have h10 := val_lt (hdz.take n)
 rw [List.length_take, Nat.min_eq_left (by omega)] at h10
 omega
theorem dv_start {xs ys : List Nat} {s m n : Nat} (hn : ys.length = n + 1) (hx : xs.length = m + n) (hdx : Dig B64 xs) (ht : ys.getD n 0 ≠ 0) : val B64 xs * 2 ^ s < val B64 ys * 2 ^ s * B64 ^ m := by
 have h1 := val_lt hdx
 rw [hx, Nat.pow_add] at h1
 have h2 := top_le hn
 have h3 : B64 ^ n * 1 <= B64 ^ n * ys.getD n 0 := Nat.mul_le_mul_left _ (by omega)
 have h4 : B64 ^ m * B64 ^ n <= val B64 ys * B64 ^ m := by
  rw [Nat.mul_comm (B64 ^ m)]
  exact Nat.mul_le_mul_right _ (by omega)
 have h5 : val B64 xs < val B64 ys * B64 ^ m := by omega
 have hs2 : 0 < 2 ^ s := Nat.pow_pos (by omega)
 have h6 := Nat.mul_lt_mul_of_pos_right h5 hs2
 rw [Nat.mul_assoc, Nat.mul_comm (B64 ^ m), <- Nat.mul_assoc] at h6
 exact h6
theorem dv_quot (X Y s : Nat) : X * 2 ^ s / (Y * 2 ^ s) = X / Y := Nat.mul_div_mul_right X Y (Nat.pow_pos (by omega))
theorem dv_rem (X Y s : Nat) : X * 2 ^ s % (Y * 2 ^ s) / 2 ^ s = X % Y := by
 rw [Nat.mul_mod_mul_right, Nat.mul_div_cancel _ (Nat.pow_pos (by omega))]
theorem val_take_low {L : List Nat} {n : Nat} (hn : n <= L.length) (h : val B64 L < B64 ^ n) : val B64 (L.take n) = val B64 L := by
 have h1 := val_split B64 L n hn
 rcases Nat.eq_zero_or_pos (val B64 (L.drop n)) with h2 | h2
 ·rw [h2, Nat.mul_zero, Nat.add_zero] at h1; exact h1.symm
 ·have : B64 ^ n * 1 <= B64 ^ n * val B64 (L.drop n) := Nat.mul_le_mul_left _ h2
  omega
theorem DvOut.pos {N V m n j g : Nat} {L L' Q : List Nat} (h : DvOut N V m n (j + 1) L Q) (hV : V < B64 ^ n) (hm : MsOut L V j n g 1 L') : 1 <= g := by
 have he := hm.vl
 have hL' : val B64 L' < B64 ^ (j + n + 1) := high_zero hm.dig (fun t ht => by rw [hm.rest t ht]; exact h.top hV ht)
 rcases Nat.eq_zero_or_pos g with h0 | h0
 ·subst h0
  rw [Nat.zero_mul, Nat.zero_mul, Nat.one_mul, Nat.add_zero] at he
  omega
 ·exact h0
end Go.Proofs.YtcbimkiiglgeeaaGreatDoor
