/- The law NatTexts: its walk. The law NatTexts holds: for every string, every slice of bytes and every int the call returns true (the package variables that the row lists start as the program text lays them). -/
import Derived.Lib.AppendZeros
import Derived.Test.YtcfpjgcellahnaaDoorCards
import Derived.ChangeMaps5
import Derived.Test.YtcfpjgcellahnaaDoorM8
namespace Go.Proofs.YtcfpjgcellahnaaDoor
open Go.RowKit

theorem lt_ten {x k : Nat} (h : bl x ≤ 3 * k) (hk : k ≤ 200) : x < 10 ^ 200 := by
  have h1 := (bl_le_iff x (3 * k)).1 h
  rw [Nat.pow_mul] at h1
  exact Nat.lt_of_lt_of_le h1 (Nat.le_trans (Nat.pow_le_pow_left (by omega) k) (Nat.pow_le_pow_right (by omega) hk))
theorem ten_200 {x : Nat} (h : Sm 384 x) : x < 10 ^ 200 := lt_ten (k := 128) h (by omega)
theorem Sm.pn (s : List UInt8) : Sm 800 (pn s) := by
  unfold Go.Proofs.YtcfpjgcellahnaaDoor.pn
  split
  · rename_i h
    have h' := h
    unfold good at h'
    simp only [Bool.and_eq_true, decide_eq_true_eq] at h'
    have h2 := bl_pv (s := s) h'.1.1.2 s.length (fun j hj => by
      have := List.all_eq_true.1 h'.2 (s[j]) (List.getElem_mem hj)
      simpa [List.getD_eq_getElem?_getD, List.getElem?_eq_getElem hj] using this) (Nat.le_refl _)
    rw [List.take_length] at h2
    exact h2
  · exact Sm.zero 800

set_option maxRecDepth 100000 in
set_option maxHeartbeats 4000000 in
theorem natTexts_any (t0 : ByteArray) (l1 : List UInt8) (v1 : Value) (a2 : Int) (w : World) (htab : Tab w) (_s0 : t0.size ≤ maxLen) (s1 : SlB l1 v1 w) (b2 : -9223372036854775808 ≤ a2 ∧ a2 ≤ 9223372036854775807) :
    Calls Tryd.prog 5 #[.string t0, v1, .int .i64 a2] w (Ret (.bool true) w) := by
  have HT1 : Hid (∀ W, SlB l1 v1 W → Calls Tryd.prog 24 #[v1, .slice none 0 0] W (TwoPost (beN (l1.take 48)) 0 W)) := Lib.hid (fun W h => two_any l1 [] v1 _ W h (SlB.nil W))
  have HPK : Hid (∃ k : Nat, k ≤ 8 ∧ ∀ W, Calls Tryd.prog 25 #[.int .i64 a2, .int .i64 9] W (Ret (.int .i64 k) W)) := Lib.hid ⟨(a2 % 9).toNat, by omega, fun W => (pick_any a2 9 b2.1 b2.2 (by omega) (by omega) W).mono fun e w' h => ⟨by rw [h.1, show (((a2 % 9).toNat : Nat) : Int) = a2 % 9 from by omega], Ext.of_eq h.2⟩⟩
  have HPA : Hid (∀ W, Calls Tryd.prog 29 #[.string t0] W (Ret (.tuple #[.agg #[.int .u64 (lo (pn t0.data.toList) : Nat), .string (hi (pn t0.data.toList))], .bool (good t0.data.toList)]) W)) := Lib.hid (fun W => parse_any t0 W)
  have HRP : Hid (∀ W, Calls Tryd.prog 30 #[.string t0] W (RpPost (pn t0.data.toList) (good t0.data.toList) W)) := Lib.hid (fun W => refParse_any t0 W)
  have BN := Sm.pn t0.data.toList
  have HS1 := Lib.hid s1
  have HTAB := Lib.hid htab
  have BX := Sm.take l1
  have HK := Lib.hid known_any
  clear s1 b2 htab _s0
  generalize beN (l1.take 48) = x at *
  have hbx384 : bl x ≤ 384 := BX
  have HTX : Hid (∀ W, Tab W → Calls Tryd.prog 31 #[.agg #[.int .u64 (lo (x) : Nat), .string (hi (x))]] W (Ret (.string (bs (Lib.decDigits x))) W)) := Lib.hid (fun W h => text_any x (by omega) W h)
  have HRX : Hid (∀ W p, R32 x p W → Calls Tryd.prog 32 #[p] W (Ret (.string (bs (Lib.decDigits x))) W)) := Lib.hid (fun W p h => refText_any x p W h (by omega))
  have HBX : Hid (∀ W, Calls Tryd.prog 27 #[.agg #[.int .u64 (lo (x) : Nat), .string (hi (x))]] W (Ret (.int .i64 (bl x : Nat)) W)) := Lib.hid (fun W => cbits BX W)
  have HRB : Hid (∀ W p, R32 x p W → Calls Tryd.prog 33 #[p] W (Ret (.int .i64 (bl x : Nat)) W)) := Lib.hid (fun W p h => (refBits_any x p W h (by omega)).mono fun e w' h => ⟨h.1, Ext.of_eq h.2.symm⟩)
  have HPX : Hid (∀ W, Calls Tryd.prog 29 #[.string (bs (Lib.decDigits x))] W (Ret (.tuple #[.agg #[.int .u64 (lo (x) : Nat), .string (hi (x))], .bool true]) W)) := Lib.hid (fun W => by
    have h := parse_any (bs (Lib.decDigits x)) W
    have e : (bs (Lib.decDigits x)).data.toList = Lib.decDigits x := by unfold bs; simp
    rw [e, pn_dec x (ten_200 BX), good_dec x (ten_200 BX)] at h
    exact h)
  have HBY : Hid (∀ W, Calls Tryd.prog 35 #[.agg #[.int .u64 (lo (x) : Nat), .string (hi (x))]] W (RetS (BytesAt 0 (beB x)) W)) := Lib.hid (fun W => (bytes_any x (by omega) W).mono fun e w' ⟨u, h1, ⟨g, _, h2⟩, h3⟩ => ⟨u, h1, ⟨g, Nat.zero_le _, h2⟩, h3⟩)
  obtain ⟨k, hk, hpk⟩ := HPK.out
  have hbl : (beB x).length ≤ 48 := by rw [beB_length]; unfold nb; omega
  have HAP : Hid (∀ W u1 u2, BytesAt 0 (List.replicate k 0) u1 W → BytesAt 0 (beB x) u2 W → ∃ v' w', (Builtin.append_ #[35, 35] 35 #[u1, u2]).run Tryd.prog W = .ok v' w' ∧ SlB (List.replicate k 0 ++ beB x) v' w' ∧ Ext W w') := Lib.hid (fun W u1 u2 h1 h2 => run_append_bytes h1 h2 (by omega) _)
  have HMK : Hid (∀ W, ∃ v' w', (Instr.makeSlice 35 (.int .i64 (k : Int)) (.int .i64 (k : Int))).run Tryd.prog W = .ok v' w' ∧ BytesAt 0 (List.replicate k 0) v' w' ∧ Ext W w') := Lib.hid (fun W => run_make_bytes k (by omega) W)
  have HFB : Hid (∀ W u, SlB (List.replicate k 0 ++ beB x) u W → Calls Tryd.prog 34 #[u] W (Ret (.agg #[.int .u64 (lo (x) : Nat), .string (hi (x))]) W)) := Lib.hid (fun W u h => by
    have h := fromBytes_any _ u W (by rw [List.length_append, List.length_replicate]; omega) h
    rw [beN_zeros, beN_beB] at h
    exact h)
  have HPK2 := Lib.hid hpk
  clear HPK hpk hk hbl hbx384
  generalize pn t0.data.toList = n at *
  generalize good t0.data.toList = gd at *
  generalize beB x = lx at *
  generalize bl x = bx at *
  generalize bs (Lib.decDigits x) = sx at *
  generalize List.replicate k (0 : UInt8) = zk at *
  generalize (k : Int) = kz at *
  go_enter Tryd.func5, Tryd.ntmps5
  go_wp2_with fail
  refine (HT1.out _ HS1.out).mono ?_
  rintro e w1 ⟨p1, q1, rfl, hp1, hq1, hx1⟩
  have E1 := Lib.hid hx1
  have HP := Lib.hid hp1
  clear hx1 hp1 hq1
  go_wp2_with fail
  generalize hW : (w1.alloc (.cells #[.int .u64 (lo x : Nat), .string (hi x)] 24)).alloc (.cells #[.int .u64 (lo 0 : Nat), .string (hi 0)] 24) = W1
  obtain ⟨hbx, hby, hex⟩ := boxes2' w1 W1 _ _ _ _ hW
  have HBXX := Lib.hid hbx
  have HPX1 := Lib.hid (HP.out.ext hex)
  have E2 := Lib.hid (E1.out.trans hex)
  clear hW hbx hby hex HP E1
  refine (HPA.out _).mono ?_
  rintro e w2 ⟨rfl, hx2⟩
  have HBX2 := Lib.hid (HBXX.out.ext hx2)
  have HP2 := Lib.hid (HPX1.out.ext hx2)
  have E3 := Lib.hid (E2.out.trans hx2)
  clear hx2 HBXX HPX1 E2
  go_wp2_with fail
  generalize hW : w2.alloc (.cells #[.int .u64 (lo n : Nat), .string (hi n)] 24) = W2
  have hbn : Blk W2 w2.heap.size 24 [.int .u64 (lo n : Nat), .string (hi n)] := by rw [← hW]; exact Blk.new w2 _ _
  have hex : Ext w2 W2 := by rw [← hW]; exact (Ext.refl w2).alloc _
  have HBX3 := Lib.hid (HBX2.out.ext hex)
  have HP3 := Lib.hid (HP2.out.ext hex)
  have HBN := Lib.hid hbn
  have E4 := Lib.hid (E3.out.trans hex)
  clear hW hbn hex HBX2 HP2 E3
  refine (HRP.out _).mono ?_
  rintro e w3 ⟨um, rfl, hum, hx3⟩
  have HBX4 := Lib.hid (HBX3.out.ext hx3)
  have HP4 := Lib.hid (HP3.out.ext hx3)
  have HBN4 := Lib.hid (HBN.out.ext hx3)
  have HUM := Lib.hid hum
  have E5 := Lib.hid (E4.out.trans hx3)
  clear hx3 hum HBX3 HP3 HBN E4
  have Xy0 := Lib.hid (Ext.refl w3)
  have k00 := (HBX4.out.ext Xy0.out).cell 0
  have k01 := (HBX4.out.ext Xy0.out).cell 1
  simp only [List.getElem?_cons_zero, List.getElem?_cons_succ] at k00 k01
  have k10 := (HBN4.out.ext Xy0.out).cell 0
  have k11 := (HBN4.out.ext Xy0.out).cell 1
  simp only [List.getElem?_cons_zero, List.getElem?_cons_succ] at k10 k11
  go_wp2_with fail
  refine (HK.out _).mono ?_
  rintro e y1 ⟨rfl, hx⟩
  have Xy1 := Lib.hid (Xy0.out.trans hx)
  clear hx k00 k01 k10 k11
  have k00 := (HBX4.out.ext Xy1.out).cell 0
  have k01 := (HBX4.out.ext Xy1.out).cell 1
  simp only [List.getElem?_cons_zero, List.getElem?_cons_succ] at k00 k01
  have k10 := (HBN4.out.ext Xy1.out).cell 0
  have k11 := (HBN4.out.ext Xy1.out).cell 1
  simp only [List.getElem?_cons_zero, List.getElem?_cons_succ] at k10 k11
  go_wp2_with fail
  refine (cis BN _ (HUM.out.ext Xy1.out)).mono ?_
  rintro e y2 ⟨rfl, hx⟩
  have Xy2 := Lib.hid (Xy1.out.trans hx)
  clear hx k00 k01 k10 k11
  have k00 := (HBX4.out.ext Xy2.out).cell 0
  have k01 := (HBX4.out.ext Xy2.out).cell 1
  simp only [List.getElem?_cons_zero, List.getElem?_cons_succ] at k00 k01
  have k10 := (HBN4.out.ext Xy2.out).cell 0
  have k11 := (HBN4.out.ext Xy2.out).cell 1
  simp only [List.getElem?_cons_zero, List.getElem?_cons_succ] at k10 k11
  go_wp2_with fail
  refine (HTX.out _ ((HTAB.out.ext E5.out).ext Xy2.out)).mono ?_
  rintro e y3 ⟨rfl, hx⟩
  have Xy3 := Lib.hid (Xy2.out.trans hx)
  clear hx k00 k01 k10 k11
  have k00 := (HBX4.out.ext Xy3.out).cell 0
  have k01 := (HBX4.out.ext Xy3.out).cell 1
  simp only [List.getElem?_cons_zero, List.getElem?_cons_succ] at k00 k01
  have k10 := (HBN4.out.ext Xy3.out).cell 0
  have k11 := (HBN4.out.ext Xy3.out).cell 1
  simp only [List.getElem?_cons_zero, List.getElem?_cons_succ] at k10 k11
  go_wp2_with fail
  refine (HRX.out _ _ (HP4.out.ext Xy3.out)).mono ?_
  rintro e y4 ⟨rfl, hx⟩
  have Xy4 := Lib.hid (Xy3.out.trans hx)
  clear hx k00 k01 k10 k11
  have k00 := (HBX4.out.ext Xy4.out).cell 0
  have k01 := (HBX4.out.ext Xy4.out).cell 1
  simp only [List.getElem?_cons_zero, List.getElem?_cons_succ] at k00 k01
  have k10 := (HBN4.out.ext Xy4.out).cell 0
  have k11 := (HBN4.out.ext Xy4.out).cell 1
  simp only [List.getElem?_cons_zero, List.getElem?_cons_succ] at k10 k11
  go_wp2_with fail
  refine (HBX.out _).mono ?_
  rintro e y5 ⟨rfl, hx⟩
  have Xy5 := Lib.hid (Xy4.out.trans hx)
  clear hx k00 k01 k10 k11
  have k00 := (HBX4.out.ext Xy5.out).cell 0
  have k01 := (HBX4.out.ext Xy5.out).cell 1
  simp only [List.getElem?_cons_zero, List.getElem?_cons_succ] at k00 k01
  have k10 := (HBN4.out.ext Xy5.out).cell 0
  have k11 := (HBN4.out.ext Xy5.out).cell 1
  simp only [List.getElem?_cons_zero, List.getElem?_cons_succ] at k10 k11
  go_wp2_with fail
  refine (HRB.out _ _ (HP4.out.ext Xy5.out)).mono ?_
  rintro e y6 ⟨rfl, hx⟩
  have Xy6 := Lib.hid (Xy5.out.trans hx)
  clear hx k00 k01 k10 k11
  have k00 := (HBX4.out.ext Xy6.out).cell 0
  have k01 := (HBX4.out.ext Xy6.out).cell 1
  simp only [List.getElem?_cons_zero, List.getElem?_cons_succ] at k00 k01
  have k10 := (HBN4.out.ext Xy6.out).cell 0
  have k11 := (HBN4.out.ext Xy6.out).cell 1
  simp only [List.getElem?_cons_zero, List.getElem?_cons_succ] at k10 k11
  go_wp2_with fail
  refine (HTX.out _ ((HTAB.out.ext E5.out).ext Xy6.out)).mono ?_
  rintro e y7 ⟨rfl, hx⟩
  have Xy7 := Lib.hid (Xy6.out.trans hx)
  clear hx k00 k01 k10 k11
  have k00 := (HBX4.out.ext Xy7.out).cell 0
  have k01 := (HBX4.out.ext Xy7.out).cell 1
  simp only [List.getElem?_cons_zero, List.getElem?_cons_succ] at k00 k01
  have k10 := (HBN4.out.ext Xy7.out).cell 0
  have k11 := (HBN4.out.ext Xy7.out).cell 1
  simp only [List.getElem?_cons_zero, List.getElem?_cons_succ] at k10 k11
  go_wp2_with fail
  refine (HPX.out _).mono ?_
  rintro e y8 ⟨rfl, hx⟩
  have Xy8 := Lib.hid (Xy7.out.trans hx)
  clear hx k00 k01 k10 k11
  have k00 := (HBX4.out.ext Xy8.out).cell 0
  have k01 := (HBX4.out.ext Xy8.out).cell 1
  simp only [List.getElem?_cons_zero, List.getElem?_cons_succ] at k00 k01
  have k10 := (HBN4.out.ext Xy8.out).cell 0
  have k11 := (HBN4.out.ext Xy8.out).cell 1
  simp only [List.getElem?_cons_zero, List.getElem?_cons_succ] at k10 k11
  go_wp2_with fail
  generalize hW : y8.alloc (.cells #[.int .u64 (lo x : Nat), .string (hi x)] 24) = W3
  have hbb : Blk W3 y8.heap.size 24 [.int .u64 (lo x : Nat), .string (hi x)] := by rw [← hW]; exact Blk.new y8 _ _
  have hex : Ext y8 W3 := by rw [← hW]; exact (Ext.refl y8).alloc _
  have hbx := (HBX4.out.ext Xy8.out).ext hex
  have E6 := Lib.hid (E5.out.trans (Xy8.out.trans hex))
  clear hW hex k00 k01 k10 k11 HBX4 HP4 HBN4 HUM E5 Xy0 Xy1 Xy2 Xy3 Xy4 Xy5 Xy6 Xy7 Xy8
  refine wp_region_all goesExt 8 [fun v _ => v = .int .i64 a2, fun v _ => v = .int .i64 kz, BytesAt 0 zk, fun v _ => v = .agg #[.int .u64 (lo (x) : Nat), .string (hi (x))], BytesAt 0 lx, SlB (zk ++ lx), fun v _ => v = .agg #[.int .u64 (lo (x) : Nat), .string (hi (x))], Box1 W3.heap.size] (by kernel_rfl) (by kernel_rfl) ?hG ?hQ ⟨fun h => (by cases h), fun _ => ?o0, fun h => (by cases h), fun _ => ?o1, fun h => (by cases h), fun _ => ?o2, fun h => (by cases h), fun _ => ?o3, fun h => (by cases h), fun _ => ?o4, fun h => (by cases h), fun _ => ?o5, fun h => (by cases h), fun _ => ?o6, fun h => (by cases h), fun _ => ?o7, trivial⟩ ?fin
  case hG =>
    intro g hg
    simp only [List.mem_cons, List.not_mem_nil, or_false] at hg
    rcases hg with rfl | rfl | rfl | rfl | rfl | rfl | rfl | rfl
    all_goals first | exact fun _ _ _ _ h => h | exact fun _ _ _ e h => h.ext e
  case hQ => exact fun c a w d v h => by cases d <;> exact h
  case o0 =>
    intro v w' hw hj
    simp [putOps]
    go_wp2
    exact ⟨rfl, rfl, Ext.refl _, fun d hd => by cases hd; rfl⟩
  case o1 =>
    intro v w' hw hj
    have e0 : v 0 = .int .i64 a2 := hj 0 (by kernel_rfl)
    simp [putOps, Act.put, e0]
    go_wp2_with fail
    refine (HPK2.out _).mono ?_
    rintro e w2 ⟨rfl, h2⟩
    go_wp2
    exact ⟨rfl, rfl, h2, fun d hd => by cases hd; rfl⟩
  case o2 =>
    intro v w' hw hj
    have e1 : v 1 = .int .i64 kz := hj 1 (by kernel_rfl)
    obtain ⟨v9, w9, hrun, hfact, hext⟩ := HMK.out w'
    simp [putOps, Act.put, e1]
    go_wp2
    exact ⟨rfl, rfl, hext, fun d hd => by cases hd; exact hfact⟩
  case o3 =>
    intro v w' hw hj
    have c0 : w'.cell? ⟨w1.heap.size, 0, none⟩ = some (.int .u64 (lo (x) : Nat)) := (hbx.ext hw).cell 0
    have c1 : w'.cell? ⟨w1.heap.size, 1, none⟩ = some (.string (hi (x))) := (hbx.ext hw).cell 1
    simp [putOps, Act.put]
    go_wp2
    exact ⟨rfl, rfl, Ext.refl _, fun d hd => by cases hd; rfl⟩
  case o4 =>
    intro v w' hw hj
    have e3 : v 3 = .agg #[.int .u64 (lo (x) : Nat), .string (hi (x))] := hj 3 (by kernel_rfl)
    simp [putOps, Act.put, e3]
    go_wp2_with fail
    refine (HBY.out _).mono ?_
    rintro e w2 ⟨u, rfl, h1, h2⟩
    go_wp2
    exact ⟨rfl, rfl, h2, fun d hd => by cases hd; exact h1⟩
  case o5 =>
    intro v w' hw hj
    have e2 : (BytesAt 0 zk) (v 2) w' := hj 2 (by kernel_rfl)
    have e4 : (BytesAt 0 lx) (v 4) w' := hj 4 (by kernel_rfl)
    obtain ⟨v9, w9, hrun, hfact, hext⟩ := HAP.out w' _ _ e2 e4
    clear e2
    clear e4
    simp [putOps, Act.put]
    refine Lib.wpList_append_run _ rfl (.tmp 70) (.tmp 72) _ _ rfl _ _ rfl rfl _ _ hrun ?_
    go_wp2
    exact ⟨rfl, rfl, hext, fun d hd => by cases hd; exact hfact⟩
  case o6 =>
    intro v w' hw hj
    have e5 : (SlB (zk ++ lx)) (v 5) w' := hj 5 (by kernel_rfl)
    simp [putOps, Act.put]
    go_wp2_with fail
    refine (HFB.out _ _ e5).mono ?_
    rintro e w2 ⟨rfl, h2⟩
    go_wp2
    exact ⟨rfl, rfl, h2, fun d hd => by cases hd; rfl⟩
  case o7 =>
    intro v w' hw hj
    simp [putOps, Act.put]
    go_wp2
    exact ⟨rfl, rfl, (Ext.refl _).alloc _, fun d hd => by cases hd; exact Box1.new _ hw.size⟩
  case fin =>
    intro v w' hw hj
    have e7 : (Box1 W3.heap.size) (v 7) w' := hj 7 17 (by omega) rfl
    have e6 : v 6 = .agg #[.int .u64 (lo (x) : Nat), .string (hi (x))] := hj 6 74 (by omega) rfl
    simp [putOps, Act.put, e6]
    obtain ⟨g, hg, hv7, hbd⟩ := e7
    simp only [hv7]
    have c0 : w'.cell? ⟨g, 0, none⟩ = some (.int .u64 0) := hbd.cell 0
    have c1 : w'.cell? ⟨g, 1, none⟩ = some (.string ⟨#[]⟩) := hbd.cell 1
    have f0 : w'.frozen? ⟨g, 0, none⟩ = false := hbd.frozen 0
    have f1 : w'.frozen? ⟨g, 1, none⟩ = false := hbd.frozen 1
    have hbd' := (hbd.set 0 (.int .u64 (lo x : Nat))).set 1 (.string (hi x))
    have he : Ext W3 ((w'.setCell ⟨g, 0, none⟩ (.int .u64 (lo x : Nat))).setCell ⟨g, 1, none⟩ (.string (hi x))) := (Below.setCell hw (p := ⟨g, 0, none⟩) hg _).setCell (p := ⟨g, 1, none⟩) hg _
    have q00 := (hbx.ext he).cell 0
    have q01 := (hbx.ext he).cell 1
    have q10 := (hbb.ext he).cell 0
    have q11 := (hbb.ext he).cell 1
    have q20 := hbd'.cell 0
    have q21 := hbd'.cell 1
    simp only [List.getElem?_cons_zero, List.getElem?_cons_succ, List.set_cons_zero, List.set_cons_succ] at q00 q01 q10 q11 q20 q21 hbd'
    have HBD := Lib.hid hbd'
    have HE := Lib.hid he
    clear hbd hbd' he hg
    go_wp2_with fail
    refine (ccmp_eq BX BX rfl _).mono ?_
    rintro e z0 ⟨rfl, hx⟩
    have HBXf := Lib.hid ((hbx.ext HE.out).ext hx)
    have HBDf := Lib.hid (HBD.out.ext hx)
    have E7 := Lib.hid ((E6.out.trans HE.out).trans hx)
    clear HBD HE c0 c1 f0 f1 hw hj hbx hbb hx q00 q01 q10 q11 q20 q21
    have Xz0 := Lib.hid (Ext.refl z0)
    have k00 := (HBXf.out.ext Xz0.out).cell 0
    have k01 := (HBXf.out.ext Xz0.out).cell 1
    simp only [List.getElem?_cons_zero, List.getElem?_cons_succ] at k00 k01
    have k10 := (HBDf.out.ext Xz0.out).cell 0
    have k11 := (HBDf.out.ext Xz0.out).cell 1
    simp only [List.getElem?_cons_zero, List.getElem?_cons_succ] at k10 k11
    go_wp2_with fail
    refine (ccmp_eq BX BX rfl _).mono ?_
    rintro e z1 ⟨rfl, hx⟩
    have Xz1 := Lib.hid (Xz0.out.trans hx)
    clear hx k00 k01 k10 k11
    go_wp2
    go_ret
    exact ⟨rfl, E7.out.trans Xz1.out⟩
end Go.Proofs.YtcfpjgcellahnaaDoor

namespace Go.Proofs.YtcfpjgcellahnaaDoor
open Go.ChangeShapes Go.WideShapes Go.ChangeAt Go.RowKit

set_option maxRecDepth 100000 in
theorem natTexts_contract (H : Type) (enc : TypeId × Value → H) (W : World) (base : Nat) (args : Array Value) (ds gs : List (DataW H)) (before : List MemPlace)
    (hval : ∀ (j : Nat) t v, Tryd.f5.params[j]? = some t → args[j]? = some v → Value.okWide Tryd.prog W .any base t v)
    (hW : DataW.Whole enc Tryd.prog Tryd.f5.params.toList Rows.natTextsSpec.vars false W args.toList ds gs before) (htab : Tab W) :
    Calls Tryd.prog 5 args W fun e W' => ∃ v, e = .returned v ∧ Rows.natTextsSpec.post enc Tryd.prog Tryd.f5 false true false false W args v W' := by
  have hW' := hW
  obtain ⟨p, q, hA0, hV, rfl, hfz, hnd⟩ := hW
  have hA : DataW.TrodAll enc Tryd.prog W 0 (fun _ => true) true Tryd.f5.params.toList args.toList ds p := hA0
  rw [Tryd.params5] at hA hval
  obtain ⟨v0, vs0, d0, ds0, p0, q0, hargs, rfl, rfl, h0, r0⟩ := trodAll_cons hA
  obtain ⟨v1, vs1, d1, ds1, p1, q1, rfl, rfl, rfl, h1, r1⟩ := trodAll_cons r0
  obtain ⟨v2, vs2, d2, ds2, p2, q2, rfl, rfl, rfl, h2, r2⟩ := trodAll_cons r1
  obtain ⟨rfl, rfl, rfl⟩ := trodAll_nil r2
  obtain rfl : args = #[v0, v1, v2] := by cases args; simp_all
  obtain ⟨rfl, rfl⟩ := trodVars_none hV
  obtain ⟨t0, rfl, rfl, rfl, w0⟩ := Go.ChangeMaps.open_string Tryd.underlying9 (hval 0 9 v0 rfl rfl) h0
  obtain ⟨l1, s1⟩ := open_bytes (hval 1 35 v1 rfl rfl) h1
  obtain ⟨a2, rfl, rfl, rfl, w2⟩ := open_int Tryd.underlying3 (hval 2 3 v2 rfl rfl) h2
  have b2 : -9223372036854775808 ≤ a2 ∧ a2 ≤ 9223372036854775807 := by
    have h := w2
    simp only [Lit.wf, Bool.and_eq_true, decide_eq_true_eq] at h
    exact h
  clear hA0
  refine (natTexts_any t0 l1 v1 a2 W htab w0 s1 b2).mono fun e W' ⟨he, hg⟩ => ?_
  subst he
  exact ⟨_, rfl, law_post rfl rfl (fun t ht => by
    rw [Tryd.params5] at ht
    have hall : ([9, 35, 3].all fun u => Tryd.prog.readableRec u && decide (u < Tryd.prog.types.size)) = true := by kernel_rfl
    have := List.all_eq_true.1 hall t (by simpa using ht)
    simpa using this) hW' ⟨rfl, rfl, rfl⟩ hg⟩

theorem natTexts_met (os : Os) : laidMet Tryd.prog Rows.natTextsRow.laid ((laidWorld os).forCall (fun _ _ => 0) ⟨#[], #[.string ⟨#[]⟩, .slice none 0 0, .int .i64 0], []⟩).memory :=
  laidMet_of_run' 8 (by kernel_rfl) (by kernel_rfl)
theorem natTexts_reads (os : Os) {H : Type} (enc : TypeId × Value → H) : ∃ places, DataW.whole enc Tryd.prog ((laidWorld os).forCall (fun _ _ => 0) ⟨#[], #[.string ⟨#[]⟩, .slice none 0 0, .int .i64 0], []⟩).memory Tryd.f5.params.toList Rows.natTextsSpec.vars false (#[.string ⟨#[]⟩, .slice none 0 0, .int .i64 0] : Array Value).toList 8 = some ([.lit (.string []), .nil, .lit (.int .i64 0)], [], places) :=
  ⟨[], by kernel_rfl⟩

set_option maxRecDepth 100000 in
theorem natTexts_lifted (os : Os) (started : os.Started) (H : Type) (enc : TypeId × Value → H) (F : Stop.Interp) :
    ReturnsInHanded {} Tryd.checked os 5 .any ((OpenSpec.ofChange Rows.natTextsSpec).preRow enc Tryd.prog Tryd.f5 Rows.natTextsRow.domain false Rows.natTextsRow.laid) (((OpenSpec.ofChange Rows.natTextsSpec).at F).post enc Tryd.prog Tryd.f5 false true false false) := by
  obtain ⟨places, hx⟩ := natTexts_reads os enc
  refine returnsInHanded_of_row (C := Tryd.checked) (s := OpenSpec.ofChange Rows.natTextsSpec) own started (by kernel_rfl) Tryd.func5
    (witness_row_at (enc := enc) (C := Tryd.checked) false (laidWorld os) #[.string ⟨#[]⟩, .slice none 0 0, .int .i64 0] rfl (by kernel_rfl) (by kernel_rfl) (by kernel_rfl)
      (OpenSpec.preRow_of_cond 8 hx (by kernel_rfl) (fun k hk => by cases hk) (by kernel_rfl) (natTexts_met os))) ?_
  intro W base args ds gs before hval hW _ _ _ hL _ _
  exact natTexts_contract H enc W base args ds gs before hval hW (tab_of_laid hL)

theorem natTexts_holds : Rows.NatTextsSaid :=
  OpenClaim.holds_of_cond 5 Tryd.f5 rfl rfl rfl rfl rfl rfl rfl ⟨rfl, rfl, rfl, rfl, rfl⟩ rfl rfl rfl rfl rfl (by kernel_rfl) Tryd.func5 (by kernel_rfl)
    (of_decide_eq_true (by kernel_rfl)) (by unfold Func.isWrapper; first | (rw [if_pos (by decide +kernel)]; kernel_rfl) | (rw [if_neg (by decide +kernel)]; exact ⟨rfl, rfl⟩))
    (fun os started H enc _ F => by rw [OpenClaim.pre_eq_preRow]; exact natTexts_lifted os started H enc F)

theorem natTexts_plain (f : FuncId) (fn : Func) (hf : Tryd.pinned.checked.prog.funcNamed "abaculus/abaculuslaw1.NatTexts" = some f) (hfn : Tryd.pinned.checked.prog.funcs[f]? = some fn) :
    false = Tryd.pinned.checked.prog.looks [] ∧ ∀ (j : Nat) t, fn.params[j]? = some t → Tryd.pinned.checked.prog.wantsStandIn t = false := by
  obtain rfl : f = 5 := Option.some.inj ((show Tryd.prog.funcNamed "abaculus/abaculuslaw1.NatTexts" = some 5 by kernel_rfl).symm.trans hf) |>.symm
  obtain rfl : fn = Tryd.f5 := (Option.some.inj (Tryd.func5.symm.trans hfn)).symm
  refine ⟨by kernel_rfl, fun j t ht => ?_⟩
  rw [Tryd.params5] at ht
  have hm : t ∈ [9, 35, 3] := by simpa using Array.mem_of_getElem? ht
  have hall : ([9, 35, 3].all fun u => !Tryd.prog.wantsStandIn u) = true := by kernel_rfl
  exact (show Tryd.prog.wantsStandIn t = false by simpa using List.all_eq_true.1 hall t hm)

theorem natTextsCard_holds : Rows.NatTextsCardSaid :=
  Claim7.holds_tied_plain_at .later [] _ _ _ _ natTexts_holds (fun _ h => by cases h) (by kernel_rfl) (fun _ h => by cases h) natTexts_row_tie rfl ⟨rfl, rfl⟩ (by kernel_rfl) rfl natTexts_plain (by kernel_rfl)
#print axioms natTextsCard_holds
end Go.Proofs.YtcfpjgcellahnaaDoor
