/- Walks: divWords. -/
import Derived.Laws.CopyOwn
import Derived.Test.YtcbimkiiglgeeaaGreatDoorBd5
set_option maxRecDepth 100000
set_option maxHeartbeats 4000000
namespace Go.Proofs.YtcbimkiiglgeeaaGreatDoor
open Go.RowKit
theorem size64 : (Tryz.prog.info? 46).map (·.size) = some 1 := by kernel_rfl
theorem oneCell_U (xs : List Nat) : ∀ u ∈ U xs, u.oneCell' = true := by
 intro u hu
 simp only [U, List.mem_map] at hu
 obtain ⟨b, _, rfl⟩ := hu
 rfl
def DwPost (q r : Nat) (w : World) (e : Ending) (w' : World) : Prop := ∃ v1 v2, e = .returned (.tuple #[v1, v2]) /\ Mw q 8589934594 v1 w' /\ Mw r 8589934594 v2 w' /\ Ext w w'
theorem divWords_any (gx gy n m : Nat) (xs ys : List Nat) (w : World) (hbx : Blk w gx 46 (U xs)) (hby : Blk w gy 46 (U ys)) (hn1 : 1 <= n) (hn : ys.length = n + 1) (hm : xs.length = m + n) (hm1 : 1 <= m) (hx : m + n <= 8589934593) (hdx : Dig B64 xs) (hdy : Dig B64 ys) (ht : ys.getD n 0 ≠ 0) :
  Calls Tryz.prog 154 #[.slice (some ⟨gx, 0, none⟩) (m + n) (m + n), .slice (some ⟨gy, 0, none⟩) (n + 1) (n + 1)] w (DwPost (val B64 xs / val B64 ys) (val B64 xs % val B64 ys) w) := by
 have htb : ys.getD n 0 < B64 := hdy.getD (by unfold B64; omega) n
 have hbl64 : bl (ys.getD n 0) <= 64 := bl_le htb
 obtain ⟨s, hs⟩ : ∃ s, s + bl (ys.getD n 0) = 64 := ⟨64 - bl (ys.getD n 0), by omega⟩
 have hs64 : s < 64 := by have := bl_pos ht; omega
 have HLZ : Hid (∀ W, Calls Tryz.prog 173 #[.int .u64 (ys.getD n 0 : Nat)] W fun e w' => e = .returned (.int .i64 s) /\ W = w') := Lib.hid (fun W => by
  have h := Tryz.bits_LeadingZeros64 ((ys.getD n 0 : Nat) : Int) W (by omega) (by unfold B64 at htb; omega)
  rw [Int.toNat_natCast, bitLen_eq htb] at h
  refine h.mono ?_
  rintro e w' ⟨rfl, rfl⟩
  exact ⟨by congr 2; omega, rfl⟩)
 have HUY : Hid (∀ W, Blk W gy 46 (U ys) -> Calls Tryz.prog 174 #[.slice (some ⟨gy, 0, none⟩) (n + 1) (n + 1), .int .i64 s] W (RetS (fun v' w' => ∃ zs g, zs.length = n + 2 /\ Dig B64 zs /\ val B64 zs = val B64 ys * 2 ^ s /\ W.heap.size <= g /\ v' = .slice (some ⟨g, 0, none⟩) (n + 2) (n + 2) /\ Blk w' g 46 (U zs)) W)) := Lib.hid (fun W hb => by
  have h := shiftUp_any (.slice (some ⟨gy, 0, none⟩) (n + 1) (n + 1)) ys s W ⟨_, _, by rw [hn], fun _ => ⟨gy, 0, rfl, hb.lt, fun i hi => by rw [Nat.zero_add, hb.cell i, getD_U _ _ hi]⟩⟩ (by omega) (by omega) hdy
  refine h.mono ?_
  rintro e w' ⟨v', rfl, ⟨zs, h1, h2, h3, h4⟩, h5⟩
  rw [hn, Nat.div_eq_of_lt hs64] at h1
  rcases h4 with ⟨h6, _⟩ | ⟨g, h6, h7, h8⟩
  ·subst h6; simp at h1
  ·exact ⟨v', rfl, ⟨zs, g, h1, h2, h3, h6, by rw [h7, h1], h8⟩, h5⟩)
 have HUX : Hid (∀ W, Blk W gx 46 (U xs) -> Calls Tryz.prog 174 #[.slice (some ⟨gx, 0, none⟩) (m + n) (m + n), .int .i64 s] W (RetS (fun v' w' => ∃ zs g, zs.length = m + n + 1 /\ Dig B64 zs /\ val B64 zs = val B64 xs * 2 ^ s /\ W.heap.size <= g /\ v' = .slice (some ⟨g, 0, none⟩) (m + n + 1) (m + n + 1) /\ Blk w' g 46 (U zs)) W)) := Lib.hid (fun W hb => by
  have h := shiftUp_any (.slice (some ⟨gx, 0, none⟩) (m + n) (m + n)) xs s W ⟨_, _, by rw [hm], fun _ => ⟨gx, 0, rfl, hb.lt, fun i hi => by rw [Nat.zero_add, hb.cell i, getD_U _ _ hi]⟩⟩ (by omega) (by omega) hdx
  refine h.mono ?_
  rintro e w' ⟨v', rfl, ⟨zs, h1, h2, h3, h4⟩, h5⟩
  rw [hm, Nat.div_eq_of_lt hs64] at h1
  rcases h4 with ⟨h6, _⟩ | ⟨g, h6, h7, h8⟩
  ·subst h6; simp at h1
  ·exact ⟨v', rfl, ⟨zs, g, h1, h2, h3, h6, by rw [h7, h1], h8⟩, h5⟩)
 have HNT : Hid (∀ zs : List Nat, zs.length = n + 2 -> Dig B64 zs -> val B64 zs = val B64 ys * 2 ^ s -> val B64 (zs.take (n + 1)) = val B64 ys * 2 ^ s /\ (zs.take (n + 1)).getD n 0 ≠ 0 /\ val B64 ys * 2 ^ s < B64 ^ (n + 1) /\ 0 < val B64 ys * 2 ^ s) := Lib.hid (fun zs h1 h2 h3 => norm_take hn hdy h1 h2 h3 hs ht)
 have HST := Lib.hid (dv_start (s := s) hn hm hdx ht)
 have hc : w.cell? ⟨gy, n, none⟩ = some (.int .u64 (ys.getD n 0 : Nat)) := by rw [hby.cell n, getD_U _ _ (by omega)]
 have HSD : Hid (∀ gu0 W L Q, DvOut (val B64 xs * 2 ^ s) (val B64 ys * 2 ^ s) m (n + 1) 0 L Q -> val B64 ys * 2 ^ s < B64 ^ (n + 1) -> 0 < val B64 ys * 2 ^ s -> Blk W gu0 46 (U L) -> Calls Tryz.prog 176 #[.slice (some ⟨gu0, 0, none⟩) (n + 1) (m + n + 1), .int .i64 s] W (RetS (Mw (val B64 xs * 2 ^ s % (val B64 ys * 2 ^ s) / 2 ^ s) 8589934594) W)) := Lib.hid (fun gu0 W L Q hD hV hV0 hb => by
  have hll := hD.lenL
  have hlen : (L.take (n + 1)).length = n + 1 := by rw [List.length_take, Nat.min_eq_left (by omega)]
  have hv : val B64 (L.take (n + 1)) = val B64 xs * 2 ^ s % (val B64 ys * 2 ^ s) := by
   rw [val_take_low (by omega) (by rw [hD.fin.2]; exact Nat.lt_trans (Nat.mod_lt _ hV0) hV), hD.fin.2]
  have h := shiftDown_any (.slice (some ⟨gu0, 0, none⟩) (n + 1) (m + n + 1)) (L.take (n + 1)) s W ⟨_, _, by rw [hlen], fun _ => ⟨gu0, 0, rfl, hb.lt, fun i hi => by
   rw [hlen] at hi
   rw [Nat.zero_add, hb.cell i, getD_U _ _ (by omega)]
   congr 3
   rw [getD_lt _ _ (by omega), getD_lt _ _ (by omega), List.getElem_take]⟩⟩ (by omega) (by omega) (hD.digL.take _)
  refine h.mono ?_
  rintro e w' ⟨v', rfl, ⟨zs, h1, h2, h3, h4⟩, h5⟩
  exact ⟨v', rfl, ⟨zs, _, by omega, h2, by rw [h3, hv], h4⟩, h5⟩)
 have HQ := Lib.hid (dv_quot (val B64 xs) (val B64 ys) s)
 have HRM := Lib.hid (dv_rem (val B64 xs) (val B64 ys) s)
 have HBX := Lib.hid hbx
 have HBY := Lib.hid hby
 have HS := Lib.hid hs64
 rw [<- HQ.out, <- HRM.out]
 clear htb hbl64 hs hbx hby hdx hdy ht hn hm HQ HRM
 generalize ys.getD n 0 = t at *
 generalize val B64 xs * 2 ^ s = N at *
 generalize val B64 ys * 2 ^ s = V at *
 go_enter Tryz.func154, Tryz.ntmps154
 go_wp2_with fail
 refine (HLZ.out _).mono ?_
 rintro e w0 ⟨rfl, rfl⟩
 go_wp2_with fail
 refine (HUY.out _ HBY.out).mono ?_
 rintro e w1 ⟨v1, rfl, ⟨zs, gv, z1, z2, z3, z4, rfl, z5⟩, hx1⟩
 obtain ⟨k1, k2, k3, k4⟩ := HNT.out zs z1 z2 z3
 have HZ1 := Lib.hid z1
 have HZ2 := Lib.hid z2
 have HK1 := Lib.hid k1
 have HK2 := Lib.hid k2
 have HK3 := Lib.hid k3
 have HK4 := Lib.hid k4
 have HZ4 := Lib.hid z4
 have HZ5 := Lib.hid z5
 have HX1 := Lib.hid hx1
 clear z1 z2 z3 z4 z5 k1 k2 k3 k4 hx1 HNT HLZ HUY hc HBY
 go_wp2_with (at_make; refine wpList_mk _ rfl (.tmp 36) (.tmp 36) 164 46 rfl (.int .u64 0) 8 Tryz.underlying164 info64 rfl .i64 .i64 _ _ (m + n + 1) rfl rfl ?c1 ?c1' ?c2 ?c3 ?_)
 case c1 => omega
 case c1' => omega
 case c2 => omega
 case c3 => omega
 intro w2 hx2 hs2 hb2
 have HX2 := Lib.hid (HX1.out.trans hx2)
 have HZ5' := Lib.hid (HZ5.out.ext hx2)
 have HB2 := Lib.hid hb2
 have HGU : Hid (w.heap.size <= w1.heap.size) := Lib.hid HX1.out.size
 have HLT : Hid (gv < w1.heap.size) := Lib.hid HZ5.out.lt
 clear hx2 hs2 hb2 HX1 HZ5
 generalize w1.heap.size = gu at *
 go_wp2_with fail
 refine (HUX.out _ (HBX.out.ext HX2.out)).mono ?_
 rintro e w3 ⟨v3, rfl, ⟨us, gc, u1, u2, u3, u4, rfl, u5⟩, hx3⟩
 have HU1 := Lib.hid u1
 have HU2 := Lib.hid u2
 have HU3 := Lib.hid u3
 have HU4 := Lib.hid u4
 have HU5 := Lib.hid u5
 have HX3 := Lib.hid (HX2.out.trans hx3)
 have HZ6 := Lib.hid (HZ5'.out.ext hx3)
 have HB3 := Lib.hid (HB2.out.ext hx3)
 clear u1 u2 u3 u4 u5 hx3 HX2 HZ5' HB2 HUX
 obtain ⟨w4, hrun, hb4, hbut4⟩ : ∃ w4, (Builtin.copy_ #[164, 164] 3 #[.slice (some ⟨gu, 0, none⟩) (m + n + 1) (m + n + 1), .slice (some ⟨gc, 0, none⟩) (m + n + 1) (m + n + 1)]).run Tryz.prog w3 = .ok (goInt (m + n + 1)) w4 /\ Blk w4 gu 46 (U us) /\ But gu w3 w4 := by
  have hl : (U us).length = m + n + 1 := by rw [U_length, HU1.out]
  have h := run_copy_row (P := Tryz.prog) w3 164 164 3 46 gu 0 (m + n + 1) (m + n + 1) ⟨gc, 0, none⟩ (m + n + 1) (m + n + 1) (List.replicate (m + n + 1) (Value.int .u64 0)).toArray 46 (U us) Tryz.underlying164 size64 HB3.out
   (by rw [hl]; exact (Nat.min_self _).symm) (fun j v hv => by rw [Addr.add_lit, Nat.zero_add, HU5.out.cell j, hv]) (by rw [hl]; simp) (oneCell_U us)
  rw [hl] at h
  refine ⟨_, h, ?_, rfl, rfl, rfl, by simp [World.setRow], fun k _ hne => setRow_other w3 gu k _ (fun e => hne (by rw [e]))⟩
  unfold Blk
  rw [setRow_heap w3 gu _ _ 46 _ HB3.out]
  simp
 have HX4 : Hid (Ext w w4) := Lib.hid (hbut4.ext HX3.out HGU.out)
 have HZ7 := Lib.hid (hbut4.blk HZ6.out (by have := HLT.out; omega))
 have HB4 := Lib.hid hb4
 clear hb4 hbut4 HX3 HZ6 HB3 HU4 HU5
 go_wp2_with (at_make; refine wpList_mk _ rfl (.tmp 47) (.tmp 47) 164 46 rfl (.int .u64 0) 8 Tryz.underlying164 info64 rfl .i64 .i64 _ _ m rfl rfl ?c1 ?c1' ?c2 ?c3 ?_)
 case c1 => omega
 case c1' => omega
 case c2 => omega
 case c3 => omega
 intro w5 hx5 hs5 hb5
 rw [rep_U] at hb5
 have HX5 := Lib.hid (HX4.out.trans hx5)
 have HZ := Lib.hid (HZ7.out.ext hx5)
 have HB := Lib.hid (HB4.out.ext hx5)
 have HQ := Lib.hid hb5
 have HGQ : Hid (gu < w4.heap.size) := Lib.hid HB4.out.lt
 have HDV : Hid (DvOut N V m (n + 1) m us (List.replicate m 0)) := Lib.hid (by
  have h := DvOut.start (m := m) (n := n + 1) (V := V) (L := us) (by have := HU1.out; omega) HU2.out (by rw [HU3.out]; exact HST.out)
  rw [HU3.out] at h
  exact h)
 clear hx5 hs5 hb5 hrun HX4 HZ7 HB4
 generalize w4.heap.size = gq at *
 go_wp2
 go_loopw [10] (fun a wr => ∃ (j : Nat) (L Q : List Nat), j <= m /\ a = .int .i64 ((j : Int) - 1) /\ Hid (DvOut N V m (n + 1) j L Q) /\ Hid (Blk wr gu 46 (U L)) /\ Hid (Blk wr gq 46 (U Q)) /\ Hid (Blk wr gv 46 (U zs)) /\ Hid (Ext w wr)) (fun a _ => (intOf a + 1).toNat)
 case atStart => exact ⟨m, us, _, Nat.le_refl _, by congr 1; omega, HDV, HB, HQ, HZ, HX5⟩
 case round =>
  obtain ⟨j, L, Q, hj, rfl, hD, hbu, hbq, hbv, hex⟩ := hrel
  by_cases hj0 : j = 0
  ·subst hj0
   go_wp2_with fail
   refine (HSD.out gu _ L Q hD.out HK3.out HK4.out hbu.out).mono ?_
   rintro e w6 ⟨v6, rfl, hv6, hx6⟩
   have HV6 := Lib.hid hv6
   have HX6 := Lib.hid hx6
   clear hv6 hx6
   go_wp2
   go_ret2
   have hf := hD.out
   refine ⟨_, _, rfl, ⟨Q, 0, by rw [hf.lenQ]; omega, hf.digQ, hf.fin.1, .inr ⟨gq, Nat.zero_le _, by rw [hf.lenQ]; rfl, hbq.out.ext HX6.out⟩⟩, HV6.out, hex.out.trans HX6.out⟩
  ·obtain ⟨k, rfl⟩ : ∃ k, j = k + 1 := ⟨j - 1, by omega⟩
   rw [show ((k + 1 : Nat) : Int) - 1 = (k : Int) from by omega]
   have hkm : k < m := by omega
   have hVl : (zs.take (n + 1)).length = n + 1 := by rw [List.length_take, HZ1.out, Nat.min_eq_left (by omega)]
   have hVd : Dig B64 (zs.take (n + 1)) := HZ2.out.take _
   have hD' : DvOut N (val B64 (zs.take (n + 1))) m (n + 1) (k + 1) L Q := by rw [HK1.out]; exact hD.out
   obtain ⟨g1, g2⟩ := hD'.guess hVl (by omega) hVd (by rw [Nat.add_sub_cancel]; exact HK2.out)
   rw [show k + (n + 1) - 1 = k + n from by omega, show k + (n + 1) - 2 = k + n - 1 from by omega, show k + (n + 1) = k + n + 1 from by omega, Nat.add_sub_cancel, show n + 1 - 2 = n - 1 from by omega] at g2
   rw [show k + (n + 1) = k + n + 1 from by omega, Nat.add_sub_cancel] at g1
   have hvv : ∀ i, i < n + 1 -> zs.getD i 0 = (zs.take (n + 1)).getD i 0 := fun i hi => by
    rw [getD_lt _ _ (by rw [HZ1.out]; omega), getD_lt _ _ (by rw [hVl]; exact hi), List.getElem_take]
   have hLl := hD.out.lenL
   have hQl := hD.out.lenQ
   have hB0 : 0 < B64 := by unfold B64; omega
   have cu : ∀ i, i < m + n + 1 -> wr.cell? ⟨gu, i, none⟩ = some (.int .u64 (L.getD i 0 : Nat)) := fun i hi => by rw [hbu.out.cell, getD_U _ _ (by omega)]
   have cv : ∀ i, i < n + 1 -> wr.cell? ⟨gv, i, none⟩ = some (.int .u64 ((zs.take (n + 1)).getD i 0 : Nat)) := fun i hi => by rw [hbv.out.cell, getD_U _ _ (by rw [HZ1.out]; omega), hvv i hi]
   have c2 := cu (k + n + 1) (by omega)
   have c1 := cu (k + n) (by omega)
   have c0 := cu (k + n - 1) (by omega)
   have d1 := cv n (by omega)
   have d0 := cv (n - 1) (by omega)
   have hv1 : 0 < (zs.take (n + 1)).getD n 0 := Nat.pos_of_ne_zero HK2.out
   have hgw := fun W => guessWord_any (L.getD (k + n + 1) 0) (L.getD (k + n) 0) (L.getD (k + n - 1) 0) ((zs.take (n + 1)).getD n 0) ((zs.take (n + 1)).getD (n - 1) 0) g1 (hD.out.digL.getD hB0 _) (hD.out.digL.getD hB0 _) (hVd.getD hB0 _) (hVd.getD hB0 _) hv1 W
   have hgood := gQ_good (U := L.getD (k + n + 1) 0 * B64 + L.getD (k + n) 0) (u := L.getD (k + n - 1) 0) (v0 := (zs.take (n + 1)).getD (n - 1) 0) hv1
   have hgb := g2 _ hgood
   have hglt := hgood.1
   have HVV := Lib.hid hvv
   have HVL := Lib.hid hVl
   have HVD := Lib.hid hVd
   have HLL := Lib.hid hLl
   have HQL := Lib.hid hQl
   rw [HK1.out] at hgb
   have HGB := Lib.hid hgb
   have HGW := Lib.hid hgw
   clear g1 g2 hgood hgb hgw hD' cu cv hVl hVd hLl hQl hvv hv1
   generalize gQ (L.getD (k + n + 1) 0 * B64 + L.getD (k + n) 0) (L.getD (k + n - 1) 0) ((zs.take (n + 1)).getD n 0) ((zs.take (n + 1)).getD (n - 1) 0) = g at *
   generalize L.getD (k + n + 1) 0 = a2 at *
   generalize L.getD (k + n) 0 = a1 at *
   generalize L.getD (k + n - 1) 0 = a0 at *
   generalize (zs.take (n + 1)).getD n 0 = b1 at *
   generalize (zs.take (n + 1)).getD (n - 1) 0 = b0 at *
   have HGL := Lib.hid hglt
   clear hglt
   have q1 : IntKind.i64.wrap ((k : Int) + ((n : Int) + 1)) = (k : Int) + ((n : Int) + 1) := IntWalk.i64_in _ (by omega)
   have q2 : IntKind.i64.wrap ((k : Int) + ((n : Int) + 1) - 1) = (k : Int) + ((n : Int) + 1) - 1 := IntWalk.i64_in _ (by omega)
   have q3 : IntKind.i64.wrap ((k : Int) + ((n : Int) + 1) - 2) = (k : Int) + ((n : Int) + 1) - 2 := IntWalk.i64_in _ (by omega)
   have q4 : IntKind.i64.wrap ((n : Int) + 1 - 2) = (n : Int) + 1 - 2 := IntWalk.i64_in _ (by omega)
   have r1 : ((k : Int) + ((n : Int) + 1)).toNat = k + n + 1 := by omega
   have r2 : ((k : Int) + ((n : Int) + 1) - 1).toNat = k + n := by omega
   have r3 : ((k : Int) + ((n : Int) + 1) - 2).toNat = k + n - 1 := by omega
   have r4 : ((n : Int) + 1 - 2).toNat = n - 1 := by omega
   go_wp2
   go_quiet ((go_at_call 175; exact Calls.quiet_of (HGW.out _)))
   rename_i nq
   have HD := hD
   have hbu' := Lib.hid (hbu.out.ext ((Ext.refl wr).drewN nq))
   have hbq' := Lib.hid (hbq.out.ext ((Ext.refl wr).drewN nq))
   have hbv' := Lib.hid (hbv.out.ext ((Ext.refl wr).drewN nq))
   have hex' := Lib.hid (hex.out.drewN nq)
   clear hbu hbq hbv hex c2 c1 c0 d1 d0 q1 q2 q3 q4 r1 r2 r3 r4 HGW hD
   generalize wr.drewN nq = W6 at *
   go_wp2
   go_loopw [12, 13, 89] (fun c b i wr => ∃ (i' cc bb : Nat) (L' : List Nat), i' <= n + 1 /\ i = .int .i64 i' /\ c = .int .u64 cc /\ b = .int .u64 bb /\ cc < B64 /\ bb <= 1 /\ Hid (MsInv L (zs.take (n + 1)) k g i' cc bb L') /\ Hid (Blk wr gu 46 (U L')) /\ Hid (Blk wr gq 46 (U Q)) /\ Hid (Blk wr gv 46 (U zs)) /\ Hid (Ext w wr)) (fun _ _ i _ => n + 1 - (intOf i).toNat)
   case atStart => exact ⟨0, 0, 0, L, Nat.zero_le _, rfl, rfl, rfl, by unfold B64; omega, by omega, Lib.hid (MsInv.start k g HD.out.digL), hbu', hbq', hbv', hex'⟩
   case round =>
    clear hbu' hbq' hbv' hex'
    obtain ⟨i, c, b, L', hi, rfl, rfl, rfl, hc, hb, hM, hbu, hbq, hbv, hex⟩ := hrel
    have hMl := hM.out.len
    have hLl := HLL.out
    by_cases hin : i < n + 1
    ·have cx : wr.cell? ⟨gu, k + i, none⟩ = some (.int .u64 (L'.getD (k + i) 0 : Nat)) := by rw [hbu.out.cell, getD_U _ _ (by omega)]
     have fx : wr.frozen? ⟨gu, k + i, none⟩ = false := hbu.out.frozen _
     have cy : wr.cell? ⟨gv, i, none⟩ = some (.int .u64 ((zs.take (n + 1)).getD i 0 : Nat)) := by rw [hbv.out.cell, getD_U _ _ (by rw [HZ1.out]; omega), HVV.out i hin]
     have hxd : L'.getD (k + i) 0 < B64 := hM.out.dig.getD hB0 _
     have hyd : (zs.take (n + 1)).getD i 0 < B64 := HVD.out.getD hB0 _
     have hst := fun (hi lo s c1 u' b' : Nat) (hu : u' < B64) (e1 : lo + B64 * hi = g * (zs.take (n + 1)).getD i 0) (e2 : s + B64 * c1 = lo + c) (e3 : L'.getD (k + i) 0 + B64 * b' = s + b + u') => hM.out.step (by omega) hu e1 e2 e3
     generalize L'.getD (k + i) 0 = x at *
     generalize (zs.take (n + 1)).getD i 0 = y at *
     have e1 := mu_eq g y
     have e2 := ad_eq (muL g y) c 0
     have hsum : adS (muL g y) c 0 + B64 * (muH g y + adC (muL g y) c 0) = g * y + 0 + c := by
      rw [Nat.mul_add]; omega
     have hq := mac_lt HGL.out hyd hB0 hc hsum
     have e3 := sb_eq (x := x) (y := adS (muL g y) c 0) (b := b) hxd (adS_lt _ _ _) hb
     have hN := hst _ _ _ _ _ _ (sbD_lt _ _ _) e1 (by omega) e3
     have ha : ∀ W, (callFunc 166 #[.int .u64 (muL g y : Nat), .int .u64 c, .int .u64 0]).run Tryz.prog W = .ok (.value (.tuple #[.int .u64 (adS (muL g y) c 0 : Nat), .int .u64 (adC (muL g y) c 0 : Nat)])) W := fun W => add64_0 _ _ W
     have hs : ∀ W, (callFunc 170 #[.int .u64 x, .int .u64 (adS (muL g y) c 0 : Nat), .int .u64 b]).run Tryz.prog W = .ok (.value (.tuple #[.int .u64 (sbD x (adS (muL g y) c 0) b : Nat), .int .u64 (sbB x (adS (muL g y) c 0) b : Nat)])) W := fun W => sub64 _ _ _ hb W
     have hbb := sbB_le x (adS (muL g y) c 0) b
     have HM := Lib.hid (fun W => mul64_any g y HGL.out hyd W)
     have HN := Lib.hid hN
     clear e1 e2 e3 hsum hst hN hM hMl hLl hc hb
     generalize sbB x (adS (muL g y) c 0) b = b2 at *
     generalize sbD x (adS (muL g y) c 0) b = u2 at *
     generalize adC (muL g y) c 0 = c1 at *
     generalize adS (muL g y) c 0 = s1 at *
     generalize muH g y = hh at *
     generalize muL g y = ll at *
     have bq : (hh : Int) + (c1 : Int) <= 18446744073709551615 := by unfold B64 at hq; omega
     go_wp2_with fail
     refine (HM.out _).mono ?_
     rintro e w' ⟨rfl, rfl⟩
     go_wp2
     go_roundw
     case rel =>
      refine ⟨i + 1, hh + c1, b2, L'.set (k + i) u2, by omega, by go_num, by go_num, rfl, hq, hbb, HN, Lib.hid (by rw [<- U_set]; exact hbu.out.set _ _), Lib.hid (hbq.out.far (by have := HGQ.out; simp; omega) _), Lib.hid (hbv.out.far (by have := HLT.out; simp; omega) _), Lib.hid (Below.setCell hex.out (p := ⟨gu, k + i, none⟩) HGU.out _)⟩
     case measure => simp [intOf]; omega
    ·obtain rfl : i = n + 1 := by omega
     have cx : wr.cell? ⟨gu, k + (n + 1), none⟩ = some (.int .u64 (L'.getD (k + (n + 1)) 0 : Nat)) := by rw [hbu.out.cell, getD_U _ _ (by omega)]
     have fx : wr.frozen? ⟨gu, k + (n + 1), none⟩ = false := hbu.out.frozen _
     have hxd : L'.getD (k + (n + 1)) 0 < B64 := hM.out.dig.getD hB0 _
     have hM2 : MsInv L (zs.take (n + 1)) k g (zs.take (n + 1)).length c b L' := by rw [HVL.out]; exact hM.out
     have hst := fun (u' b' : Nat) (hu : u' < B64) (e : L'.getD (k + (zs.take (n + 1)).length) 0 + B64 * b' = c + b + u') => hM2.close (by rw [HVL.out]; omega) hu e
     rw [HVL.out, HK1.out] at hst
     generalize L'.getD (k + (n + 1)) 0 = x at *
     have e3 := sb_eq (x := x) (y := c) (b := b) hxd hc hb
     have hN := hst _ _ (sbD_lt _ _ _) e3
     have hs : ∀ W, (callFunc 170 #[.int .u64 x, .int .u64 c, .int .u64 b]).run Tryz.prog W = .ok (.value (.tuple #[.int .u64 (sbD x c b : Nat), .int .u64 (sbB x c b : Nat)])) W := fun W => sub64 _ _ _ hb W
     have hbb := sbB_le x c b
     have HN := Lib.hid hN
     clear e3 hst hN hM hM2 hMl hLl hc hb
     generalize sbB x c b = b2 at *
     generalize sbD x c b = u2 at *
     have hBU : Hid (Blk (wr.setCell ⟨gu, k + (n + 1), none⟩ (.int .u64 u2)) gu 46 (U (L'.set (k + (n + 1)) u2))) := Lib.hid (by rw [<- U_set]; exact hbu.out.set _ _)
     have hBQ : Hid (Blk (wr.setCell ⟨gu, k + (n + 1), none⟩ (.int .u64 u2)) gq 46 (U Q)) := Lib.hid (hbq.out.far (by have := HGQ.out; simp; omega) _)
     have hBV : Hid (Blk (wr.setCell ⟨gu, k + (n + 1), none⟩ (.int .u64 u2)) gv 46 (U zs)) := Lib.hid (hbv.out.far (by have := HLT.out; simp; omega) _)
     have hEX : Hid (Ext w (wr.setCell ⟨gu, k + (n + 1), none⟩ (.int .u64 u2))) := Lib.hid (Below.setCell hex.out (p := ⟨gu, k + (n + 1), none⟩) HGU.out _)
     generalize L'.set (k + (n + 1)) u2 = L2 at *
     by_cases hb2 : b2 = 0
     ·subst hb2
      obtain ⟨_, hNX⟩ := HD.out.done0 hkm HK4.out HGB.out HN.out
      have HNX := Lib.hid hNX
      have cq : (wr.setCell ⟨gu, k + (n + 1), none⟩ (.int .u64 u2)).cell? ⟨gq, k, none⟩ = some (.int .u64 (Q.getD k 0 : Nat)) := by rw [hBQ.out.cell, getD_U _ _ (by rw [HQL.out]; exact hkm)]
      have fq : (wr.setCell ⟨gu, k + (n + 1), none⟩ (.int .u64 u2)).frozen? ⟨gq, k, none⟩ = false := hBQ.out.frozen _
      clear hNX hbb
      generalize Q.getD k 0 = qo at *
      go_wp2
      go_roundw
      case rel =>
       exact ⟨k, L2, Q.set k g, by omega, rfl, HNX, Lib.hid (hBU.out.far (by have := HGQ.out; simp; omega) _), Lib.hid (by rw [<- U_set]; exact hBQ.out.set _ _), Lib.hid (hBV.out.far (by have := HGQ.out; have := HLT.out; simp; omega) _), Lib.hid (Below.setCell hEX.out (p := ⟨gq, k, none⟩) (by have := HGU.out; have := HGQ.out; show w.heap.size <= gq; omega) _)⟩
      case measure => simp [intOf]
     ·obtain rfl : b2 = 1 := by omega
      have hg1 : 1 <= g := HD.out.pos HK3.out HN.out
      obtain ⟨g', rfl⟩ : ∃ g', g = g' + 1 := ⟨g - 1, by omega⟩
      have hgu : (g' : Int) + 1 <= 18446744073709551615 := by have := HGL.out; unfold B64 at this; omega
      have hL2 := HN.out.len
      rw [HLL.out] at hL2
      have HL2 := Lib.hid hL2
      clear hbb hg1 hL2 hb2 hbu hbq hbv hex
      go_wp2
      clear cx fx hs hxd hgu
      generalize wr.setCell ⟨gu, k + (n + 1), none⟩ (.int .u64 u2) = W7 at *
      go_loopw [19, 150] (fun c i wr => ∃ (i' cc : Nat) (L3 : List Nat), i' <= n + 1 /\ i = .int .i64 i' /\ c = .int .u64 cc /\ cc <= 1 /\ Hid (AdInv L2 (zs.take (n + 1)) k i' cc L3) /\ Hid (Blk wr gu 46 (U L3)) /\ Hid (Blk wr gq 46 (U Q)) /\ Hid (Blk wr gv 46 (U zs)) /\ Hid (Ext w wr)) (fun _ i _ => n + 1 - (intOf i).toNat)
      case atStart => exact ⟨0, 0, L2, Nat.zero_le _, rfl, rfl, by omega, Lib.hid (AdInv.start k HN.out.dig), hBU, hBQ, hBV, hEX⟩
      case round =>
       clear hBU hBQ hBV hEX
       obtain ⟨i, c, L3, hi, rfl, rfl, hc, hA, hbu, hbq, hbv, hex⟩ := hrel
       have hAl := hA.out.len
       rw [HL2.out] at hAl
       by_cases hin : i < n + 1
       ·have cx : ∀ W, Ext wr W -> W.cell? ⟨gu, k + i, none⟩ = some (.int .u64 (L3.getD (k + i) 0 : Nat)) := fun W h => by rw [(hbu.out.ext h).cell, getD_U _ _ (by omega)]
        have fx : ∀ W, Ext wr W -> W.frozen? ⟨gu, k + i, none⟩ = false := fun W h => (hbu.out.ext h).frozen _
        have cy : ∀ W, Ext wr W -> W.cell? ⟨gv, i, none⟩ = some (.int .u64 ((zs.take (n + 1)).getD i 0 : Nat)) := fun W h => by rw [(hbv.out.ext h).cell, getD_U _ _ (by rw [HZ1.out]; omega), HVV.out i hin]
        have hxd : L3.getD (k + i) 0 < B64 := hA.out.dig.getD hB0 _
        have hyd : (zs.take (n + 1)).getD i 0 < B64 := HVD.out.getD hB0 _
        have hst := fun (u' c' : Nat) (hu : u' < B64) (e : u' + B64 * c' = L3.getD (k + i) 0 + (zs.take (n + 1)).getD i 0 + c) => hA.out.step (by rw [HL2.out]; omega) hu e
        generalize L3.getD (k + i) 0 = x at *
        generalize (zs.take (n + 1)).getD i 0 = y at *
        have hN := hst _ _ (adS_lt x y c) (ad_eq x y c)
        have ha : ∀ W, (callFunc 166 #[.int .u64 x, .int .u64 y, .int .u64 c]).run Tryz.prog W = .ok (.value (.tuple #[.int .u64 (adS x y c : Nat), .int .u64 (adC x y c : Nat)])) W := fun W => add64 _ _ _ hc W
        have hcc := adC_le hxd hyd hc
        have HN2 := Lib.hid hN
        have HA := Lib.hid ha
        have HCX := Lib.hid cx
        have HFX := Lib.hid fx
        have HCY := Lib.hid cy
        clear hst hN hA hAl hc ha cx fx cy hxd hyd
        generalize adC x y c = c2 at *
        generalize adS x y c = s2 at *
        go_wp2
        refine wp_region_all goesExt 20 [fun v _ => v = .slice (some ⟨gu, 0, none⟩) (m + n + 1) (m + n + 1), fun v _ => v = .int .i64 k, fun v _ => v = .int .i64 i, fun v _ => v = .int .i64 ((k : Int) + (i : Int)), fun v _ => v = .slice (some ⟨gu, 0, none⟩) (m + n + 1) (m + n + 1), fun v _ => v = .int .i64 k, fun v _ => v = .int .i64 i, fun v _ => v = .int .i64 ((k : Int) + (i : Int)), fun v _ => v = .pointer (some ⟨gu, k + i, none⟩), fun v _ => v = .int .u64 x, fun v _ => v = .slice (some ⟨gv, 0, none⟩) (n + 1) (n + 2), fun v _ => v = .int .i64 i, fun v _ => v = .pointer (some ⟨gv, i, none⟩), fun v _ => v = .int .u64 y, fun v _ => v = .int .u64 c, fun v _ => v = .tuple #[.int .u64 s2, .int .u64 c2], fun v _ => v = .tuple #[.int .u64 s2, .int .u64 c2], fun v _ => v = .int .u64 s2, fun v _ => v = .int .u64 c2, fun v _ => v = .pointer (some ⟨gu, k + i, none⟩)] (by kernel_rfl) (by kernel_rfl) ?hG ?hQ ⟨fun h => (by cases h), fun _ => ?o0, fun h => (by cases h), fun _ => ?o1, fun h => (by cases h), fun _ => ?o2, fun h => (by cases h), fun _ => ?o3, fun h => (by cases h), fun _ => ?o4, fun h => (by cases h), fun _ => ?o5, fun h => (by cases h), fun _ => ?o6, fun h => (by cases h), fun _ => ?o7, fun h => (by cases h), fun _ => ?o8, fun h => (by cases h), fun _ => ?o9, fun h => (by cases h), fun _ => ?o10, fun h => (by cases h), fun _ => ?o11, fun h => (by cases h), fun _ => ?o12, fun h => (by cases h), fun _ => ?o13, fun h => (by cases h), fun _ => ?o14, fun h => (by cases h), fun _ => ?o15, fun h => (by cases h), fun _ => ?o16, fun _ => ?o17, fun h => (by cases h), fun _ => ?o18, fun h => (by cases h), fun h => (by cases h), fun _ => ?o19, trivial⟩ ?fin
        case hG =>
         intro g hg
         simp only [List.mem_cons, List.not_mem_nil, or_false] at hg
         rcases hg with rfl | rfl | rfl | rfl | rfl | rfl | rfl | rfl | rfl | rfl | rfl | rfl | rfl | rfl | rfl | rfl | rfl | rfl | rfl | rfl
         all_goals first | exact fun _ _ _ _ h => h | exact fun _ _ _ e h => h.ext e
        case hQ => exact fun c a w d v h => by cases d <;> exact h
        case o0 =>
         intro v w' hw hj
         simp [putOps]
         go_wp2
         exact ⟨rfl, rfl, Ext.refl _, fun d hd => by cases hd; rfl⟩
        case o1 =>
         intro v w' hw hj
         simp [putOps, Act.put]
         go_wp2
         exact ⟨rfl, rfl, Ext.refl _, fun d hd => by cases hd; rfl⟩
        case o2 =>
         intro v w' hw hj
         simp [putOps, Act.put]
         go_wp2
         exact ⟨rfl, rfl, Ext.refl _, fun d hd => by cases hd; rfl⟩
        case o3 =>
         intro v w' hw hj
         have e1 : v 1 = .int .i64 k := hj 1 (by kernel_rfl)
         have e2 : v 2 = .int .i64 i := hj 2 (by kernel_rfl)
         simp [putOps, Act.put, e1, e2]
         go_wp2
         exact ⟨rfl, rfl, Ext.refl _, fun d hd => by cases hd; rfl⟩
        case o4 =>
         intro v w' hw hj
         simp [putOps, Act.put]
         go_wp2
         exact ⟨rfl, rfl, Ext.refl _, fun d hd => by cases hd; rfl⟩
        case o5 =>
         intro v w' hw hj
         simp [putOps, Act.put]
         go_wp2
         exact ⟨rfl, rfl, Ext.refl _, fun d hd => by cases hd; rfl⟩
        case o6 =>
         intro v w' hw hj
         simp [putOps, Act.put]
         go_wp2
         exact ⟨rfl, rfl, Ext.refl _, fun d hd => by cases hd; rfl⟩
        case o7 =>
         intro v w' hw hj
         have e5 : v 5 = .int .i64 k := hj 5 (by kernel_rfl)
         have e6 : v 6 = .int .i64 i := hj 6 (by kernel_rfl)
         simp [putOps, Act.put, e5, e6]
         go_wp2
         exact ⟨rfl, rfl, Ext.refl _, fun d hd => by cases hd; rfl⟩
        case o8 =>
         intro v w' hw hj
         have e4 : v 4 = .slice (some ⟨gu, 0, none⟩) (m + n + 1) (m + n + 1) := hj 4 (by kernel_rfl)
         have e7 : v 7 = .int .i64 ((k : Int) + (i : Int)) := hj 7 (by kernel_rfl)
         simp [putOps, Act.put, e4, e7]
         go_wp2
         exact ⟨rfl, rfl, Ext.refl _, fun d hd => by cases hd; rfl⟩
        case o9 =>
         intro v w' hw hj
         have e8 : v 8 = .pointer (some ⟨gu, k + i, none⟩) := hj 8 (by kernel_rfl)
         have hcx := HCX.out w' hw
         simp [putOps, Act.put, e8]
         go_wp2
         exact ⟨rfl, rfl, Ext.refl _, fun d hd => by cases hd; rfl⟩
        case o10 =>
         intro v w' hw hj
         simp [putOps, Act.put]
         go_wp2
         exact ⟨rfl, rfl, Ext.refl _, fun d hd => by cases hd; rfl⟩
        case o11 =>
         intro v w' hw hj
         simp [putOps, Act.put]
         go_wp2
         exact ⟨rfl, rfl, Ext.refl _, fun d hd => by cases hd; rfl⟩
        case o12 =>
         intro v w' hw hj
         have e10 : v 10 = .slice (some ⟨gv, 0, none⟩) (n + 1) (n + 2) := hj 10 (by kernel_rfl)
         have e11 : v 11 = .int .i64 i := hj 11 (by kernel_rfl)
         simp [putOps, Act.put, e10, e11]
         go_wp2
         exact ⟨rfl, rfl, Ext.refl _, fun d hd => by cases hd; rfl⟩
        case o13 =>
         intro v w' hw hj
         have e12 : v 12 = .pointer (some ⟨gv, i, none⟩) := hj 12 (by kernel_rfl)
         have hcy := HCY.out w' hw
         simp [putOps, Act.put, e12]
         go_wp2
         exact ⟨rfl, rfl, Ext.refl _, fun d hd => by cases hd; rfl⟩
        case o14 =>
         intro v w' hw hj
         simp [putOps, Act.put]
         go_wp2
         exact ⟨rfl, rfl, Ext.refl _, fun d hd => by cases hd; rfl⟩
        case o15 =>
         intro v w' hw hj
         have e9 : v 9 = .int .u64 x := hj 9 (by kernel_rfl)
         have e13 : v 13 = .int .u64 y := hj 13 (by kernel_rfl)
         have e14 : v 14 = .int .u64 c := hj 14 (by kernel_rfl)
         have ha := HA.out
         simp [putOps, Act.put, e9, e13, e14]
         go_wp2
         exact ⟨rfl, rfl, Ext.refl _, fun d hd => by cases hd; rfl⟩
        case o16 =>
         intro v w' hw hj
         have e15 : v 15 = .tuple #[.int .u64 s2, .int .u64 c2] := hj 15 (by kernel_rfl)
         simp [putOps, Act.put, e15]
         go_wp2
         exact ⟨rfl, rfl, Ext.refl _, fun d hd => by cases hd; rfl⟩
        case o17 =>
         exact ⟨rfl, 153, 0, 16, rfl, (by kernel_rfl), (by kernel_rfl), fun u w h => ⟨_, h, _, rfl, fun _ _ => rfl⟩⟩
        case o18 =>
         exact ⟨rfl, 153, 1, 16, rfl, (by kernel_rfl), (by kernel_rfl), fun u w h => ⟨_, h, _, rfl, fun _ _ => rfl⟩⟩
        case o19 =>
         intro v w' hw hj
         have e0 : v 0 = .slice (some ⟨gu, 0, none⟩) (m + n + 1) (m + n + 1) := hj 0 (by kernel_rfl)
         have e3 : v 3 = .int .i64 ((k : Int) + (i : Int)) := hj 3 (by kernel_rfl)
         simp [putOps, Act.put, e0, e3]
         go_wp2
         exact ⟨rfl, rfl, Ext.refl _, fun d hd => by cases hd; rfl⟩
        case fin =>
         intro v w' hw hj
         have e19 : v 19 = .pointer (some ⟨gu, k + i, none⟩) := hj 19 172 (by omega) rfl
         have e17 : v 17 = .int .u64 s2 := hj 17 170 (by omega) rfl
         have e18 : v 18 = .int .u64 c2 := hj 18 171 (by omega) rfl
         simp [putOps, Act.put, e19, e17, e18]
         have hcx := HCX.out w' hw
         have hfx := HFX.out w' hw
         go_wp2
         go_roundw
         case rel =>
          refine ⟨_, _, _, ⟨i + 1, by omega, ?_, c2, ?_, hcc, L3.set (k + i) s2, HN2, Lib.hid (by rw [<- U_set]; exact (hbu.out.ext hw).set _ _), Lib.hid ((hbq.out.ext hw).far (by have := HGQ.out; simp; omega) _), Lib.hid ((hbv.out.ext hw).far (by have := HLT.out; simp; omega) _), Lib.hid (Below.setCell (hex.out.trans hw) (p := ⟨gu, k + i, none⟩) HGU.out _)⟩, rfl, rfl, rfl⟩
          ·go_num
          ·rfl
         case measure => simp [intOf]; omega
       ·obtain rfl : i = n + 1 := by omega
        have cx : wr.cell? ⟨gu, k + (n + 1), none⟩ = some (.int .u64 (L3.getD (k + (n + 1)) 0 : Nat)) := by rw [hbu.out.cell, getD_U _ _ (by omega)]
        have fx : wr.frozen? ⟨gu, k + (n + 1), none⟩ = false := hbu.out.frozen _
        have hA2 : AdInv L2 (zs.take (n + 1)) k (zs.take (n + 1)).length c L3 := by rw [HVL.out]; exact hA.out
        obtain ⟨d, t1, t2, t3, t4⟩ := hA2.close (by rw [HVL.out, HL2.out]; omega)
        rw [HVL.out] at t1 t2 t3 t4
        rw [HK1.out] at t3
        obtain ⟨_, _, hNX⟩ := HD.out.done1 hkm HK4.out HK3.out HGB.out HN.out t1 t2 t3 t4
        rw [Nat.add_sub_cancel] at hNX
        have HNX := Lib.hid hNX
        generalize L3.getD (k + (n + 1)) 0 = x at *
        have hw3 : IntKind.u64.wrap ((x : Int) + (c : Int)) = ((x + c) % B64 : Nat) := wrapN (x + c)
        have HW3 := Lib.hid hw3
        clear t1 t2 t3 t4 hNX hA hA2 hAl hc hw3
        have cq : ∀ u, (wr.setCell ⟨gu, k + (n + 1), none⟩ u).cell? ⟨gq, k, none⟩ = some (.int .u64 (Q.getD k 0 : Nat)) := fun u => by rw [(hbq.out.far (by have := HGQ.out; simp; omega) u).cell, getD_U _ _ (by rw [HQL.out]; exact hkm)]
        have fq : ∀ u, (wr.setCell ⟨gu, k + (n + 1), none⟩ u).frozen? ⟨gq, k, none⟩ = false := fun u => (hbq.out.far (by have := HGQ.out; simp; omega) u).frozen _
        generalize Q.getD k 0 = qo at *
        go_wp2
        rw [HW3.out]
        have hb1 := hbu.out.set (k + (n + 1)) (.int .u64 ((x + c) % B64 : Nat))
        rw [U_set] at hb1
        have hq1 := hbq.out.far (p := ⟨gu, k + (n + 1), none⟩) (by have := HGQ.out; simp; omega) (.int .u64 ((x + c) % B64 : Nat))
        have hv1 := hbv.out.far (p := ⟨gu, k + (n + 1), none⟩) (by have := HLT.out; simp; omega) (.int .u64 ((x + c) % B64 : Nat))
        refine ⟨⟨k, _, Q.set k g', by omega, rfl, HNX, Lib.hid (hb1.far (by have := HGQ.out; simp; omega) _), Lib.hid (by rw [<- U_set]; exact hq1.set _ _), Lib.hid (hv1.far (by have := HGQ.out; have := HLT.out; simp; omega) _), Lib.hid (Below.setCell (Below.setCell hex.out (p := ⟨gu, k + (n + 1), none⟩) HGU.out _) (p := ⟨gq, k, none⟩) (by have := HGU.out; have := HGQ.out; show w.heap.size <= gq; omega) _)⟩, by simp [intOf]⟩
end Go.Proofs.YtcbimkiiglgeeaaGreatDoor
