/- The law NatSums: its walk. -/
import Derived.Test.YtcfpjgcellahnaaDoorCalls3
namespace Go.Proofs.YtcfpjgcellahnaaDoor
open Go.RowKit

set_option maxRecDepth 100000 in
set_option maxHeartbeats 4000000 in
theorem natSums_any (l0 : List UInt8) (v0 : Value) (l1 : List UInt8) (v1 : Value) (w : World) (s0 : SlB l0 v0 w) (s1 : SlB l1 v1 w) :
    Calls Tryd.prog 9 #[v0, v1] w (Ret (.bool true) w) := by
  have HT1 : Hid (∀ W, SlB l0 v0 W → SlB l1 v1 W → Calls Tryd.prog 24 #[v0, v1] W (TwoPost (beN (l0.take 48)) (beN (l1.take 48)) W)) := Lib.hid (fun W h k => two_any l0 l1 v0 v1 W h k)
  have HS0 := Lib.hid s0
  have HS1 := Lib.hid s1
  have BX := Sm.take l0
  have BY := Sm.take l1
  have HK := Lib.hid known_any
  clear s0 s1
  generalize beN (l0.take 48) = x at *
  generalize beN (l1.take 48) = y at *
  have HC1 := Lib.hid (fun W => ccmp BX BY W)
  have HC2 : Hid (∀ W p q, R32 x p W → R32 y q W → Calls Tryd.prog 43 #[p, q] W (Ret (.int .i64 (cmpN x y)) W)) := Lib.hid (fun W p q h1 h2 => crcmp BX BY W h1 h2)
  rcases Nat.lt_or_ge x y with hxy | hxy
  · have HSU := Lib.hid (fun W => csub_no BX BY hxy W)
    rw [cmpN_lt hxy] at HC1 HC2
    have HXY := Lib.hid hxy
    clear hxy
    go_enter Tryd.func9, Tryd.ntmps9
    go_wp2_with fail
    refine (HT1.out _ HS0.out HS1.out).mono ?_
    rintro e w1 ⟨p1, q1, rfl, hp1, hq1, hx1⟩
    have E1 := Lib.hid hx1
    have HP := Lib.hid hp1
    have HQ := Lib.hid hq1
    clear hx1 hp1 hq1
    go_wp2_with fail
    generalize hW : (w1.alloc (.cells #[.int .u64 (lo x : Nat), .string (hi x)] 24)).alloc (.cells #[.int .u64 (lo y : Nat), .string (hi y)] 24) = W1
    obtain ⟨hbx, hby, hex⟩ : Blk W1 w1.heap.size 24 [.int .u64 (lo x : Nat), .string (hi x)] ∧ Blk W1 (w1.heap.size + 1) 24 [.int .u64 (lo y : Nat), .string (hi y)] ∧ Ext w1 W1 := boxes2' w1 W1 _ _ _ _ hW
    clear hW
    refine (HSU.out _).mono ?_
    rintro e w2 ⟨rfl, hx2⟩
    have HBX := Lib.hid (hbx.ext hx2)
    have HBY := Lib.hid (hby.ext hx2)
    have HP2 := Lib.hid ((HP.out.ext hex).ext hx2)
    have HQ2 := Lib.hid ((HQ.out.ext hex).ext hx2)
    have E2 := Lib.hid ((E1.out.trans hex).trans hx2)
    clear hx2 hbx hby hex
    go_wp2_with fail
    generalize hW : w2.alloc (.cells #[.int .u64 (lo 0 : Nat), .string (hi 0)] 24) = W2
    have hbd : Blk W2 w2.heap.size 24 [.int .u64 (lo 0 : Nat), .string (hi 0)] := by rw [← hW]; exact Blk.new w2 _ _
    have hex : Ext w2 W2 := by rw [← hW]; exact (Ext.refl w2).alloc _
    have HBX2 := Lib.hid (HBX.out.ext hex)
    have HBY2 := Lib.hid (HBY.out.ext hex)
    have HBD := Lib.hid hbd
    have HP3 := Lib.hid (HP2.out.ext hex)
    have HQ3 := Lib.hid (HQ2.out.ext hex)
    have E3 := Lib.hid (E2.out.trans hex)
    clear hW hbd hex HBX HBY HP2 HQ2 E2 E1 HP HQ
    have Xy0 := Lib.hid (Ext.refl W2)
    have k00 := (HBX2.out.ext Xy0.out).cell 0
    have k01 := (HBX2.out.ext Xy0.out).cell 1
    simp only [List.getElem?_cons_zero, List.getElem?_cons_succ] at k00 k01
    have k10 := (HBY2.out.ext Xy0.out).cell 0
    have k11 := (HBY2.out.ext Xy0.out).cell 1
    simp only [List.getElem?_cons_zero, List.getElem?_cons_succ] at k10 k11
    have k20 := (HBD.out.ext Xy0.out).cell 0
    have k21 := (HBD.out.ext Xy0.out).cell 1
    simp only [List.getElem?_cons_zero, List.getElem?_cons_succ] at k20 k21
    go_wp2_with fail
    refine (HK.out _).mono ?_
    rintro e y1 ⟨rfl, hx⟩
    have Xy1 := Lib.hid (Xy0.out.trans hx)
    clear hx k00 k01 k10 k11 k20 k21
    have k00 := (HBX2.out.ext Xy1.out).cell 0
    have k01 := (HBX2.out.ext Xy1.out).cell 1
    simp only [List.getElem?_cons_zero, List.getElem?_cons_succ] at k00 k01
    have k10 := (HBY2.out.ext Xy1.out).cell 0
    have k11 := (HBY2.out.ext Xy1.out).cell 1
    simp only [List.getElem?_cons_zero, List.getElem?_cons_succ] at k10 k11
    have k20 := (HBD.out.ext Xy1.out).cell 0
    have k21 := (HBD.out.ext Xy1.out).cell 1
    simp only [List.getElem?_cons_zero, List.getElem?_cons_succ] at k20 k21
    go_wp2_with fail
    refine (cadd BX BY _).mono ?_
    rintro e y2 ⟨rfl, hx⟩
    have Xy2 := Lib.hid (Xy1.out.trans hx)
    clear hx k00 k01 k10 k11 k20 k21
    have k00 := (HBX2.out.ext Xy2.out).cell 0
    have k01 := (HBX2.out.ext Xy2.out).cell 1
    simp only [List.getElem?_cons_zero, List.getElem?_cons_succ] at k00 k01
    have k10 := (HBY2.out.ext Xy2.out).cell 0
    have k11 := (HBY2.out.ext Xy2.out).cell 1
    simp only [List.getElem?_cons_zero, List.getElem?_cons_succ] at k10 k11
    have k20 := (HBD.out.ext Xy2.out).cell 0
    have k21 := (HBD.out.ext Xy2.out).cell 1
    simp only [List.getElem?_cons_zero, List.getElem?_cons_succ] at k20 k21
    go_wp2_with fail
    refine (cradd BX BY _ (HP3.out.ext Xy2.out) (HQ3.out.ext Xy2.out)).mono ?_
    rintro e y3 ⟨ua, rfl, hua, hx⟩
    have Hua := Lib.hid hua
    have Xy3 := Lib.hid (Xy2.out.trans hx)
    clear hx k00 k01 k10 k11 k20 k21 hua
    have k00 := (HBX2.out.ext Xy3.out).cell 0
    have k01 := (HBX2.out.ext Xy3.out).cell 1
    simp only [List.getElem?_cons_zero, List.getElem?_cons_succ] at k00 k01
    have k10 := (HBY2.out.ext Xy3.out).cell 0
    have k11 := (HBY2.out.ext Xy3.out).cell 1
    simp only [List.getElem?_cons_zero, List.getElem?_cons_succ] at k10 k11
    have k20 := (HBD.out.ext Xy3.out).cell 0
    have k21 := (HBD.out.ext Xy3.out).cell 1
    simp only [List.getElem?_cons_zero, List.getElem?_cons_succ] at k20 k21
    go_wp2_with fail
    refine (cis (BX.add BY) _ Hua.out).mono ?_
    rintro e y4 ⟨rfl, hx⟩
    have Xy4 := Lib.hid (Xy3.out.trans hx)
    clear hx k00 k01 k10 k11 k20 k21
    have k00 := (HBX2.out.ext Xy4.out).cell 0
    have k01 := (HBX2.out.ext Xy4.out).cell 1
    simp only [List.getElem?_cons_zero, List.getElem?_cons_succ] at k00 k01
    have k10 := (HBY2.out.ext Xy4.out).cell 0
    have k11 := (HBY2.out.ext Xy4.out).cell 1
    simp only [List.getElem?_cons_zero, List.getElem?_cons_succ] at k10 k11
    have k20 := (HBD.out.ext Xy4.out).cell 0
    have k21 := (HBD.out.ext Xy4.out).cell 1
    simp only [List.getElem?_cons_zero, List.getElem?_cons_succ] at k20 k21
    go_wp2_with fail
    refine (cmul BX BY _).mono ?_
    rintro e y5 ⟨rfl, hx⟩
    have Xy5 := Lib.hid (Xy4.out.trans hx)
    clear hx k00 k01 k10 k11 k20 k21
    have k00 := (HBX2.out.ext Xy5.out).cell 0
    have k01 := (HBX2.out.ext Xy5.out).cell 1
    simp only [List.getElem?_cons_zero, List.getElem?_cons_succ] at k00 k01
    have k10 := (HBY2.out.ext Xy5.out).cell 0
    have k11 := (HBY2.out.ext Xy5.out).cell 1
    simp only [List.getElem?_cons_zero, List.getElem?_cons_succ] at k10 k11
    have k20 := (HBD.out.ext Xy5.out).cell 0
    have k21 := (HBD.out.ext Xy5.out).cell 1
    simp only [List.getElem?_cons_zero, List.getElem?_cons_succ] at k20 k21
    go_wp2_with fail
    refine (crmul BX BY _ (HP3.out.ext Xy5.out) (HQ3.out.ext Xy5.out)).mono ?_
    rintro e y6 ⟨um, rfl, hum, hx⟩
    have Hum := Lib.hid hum
    have Xy6 := Lib.hid (Xy5.out.trans hx)
    clear hx k00 k01 k10 k11 k20 k21 hum
    have k00 := (HBX2.out.ext Xy6.out).cell 0
    have k01 := (HBX2.out.ext Xy6.out).cell 1
    simp only [List.getElem?_cons_zero, List.getElem?_cons_succ] at k00 k01
    have k10 := (HBY2.out.ext Xy6.out).cell 0
    have k11 := (HBY2.out.ext Xy6.out).cell 1
    simp only [List.getElem?_cons_zero, List.getElem?_cons_succ] at k10 k11
    have k20 := (HBD.out.ext Xy6.out).cell 0
    have k21 := (HBD.out.ext Xy6.out).cell 1
    simp only [List.getElem?_cons_zero, List.getElem?_cons_succ] at k20 k21
    go_wp2_with fail
    refine (cis (BX.mul BY) _ Hum.out).mono ?_
    rintro e y7 ⟨rfl, hx⟩
    have Xy7 := Lib.hid (Xy6.out.trans hx)
    clear hx k00 k01 k10 k11 k20 k21
    have k00 := (HBX2.out.ext Xy7.out).cell 0
    have k01 := (HBX2.out.ext Xy7.out).cell 1
    simp only [List.getElem?_cons_zero, List.getElem?_cons_succ] at k00 k01
    have k10 := (HBY2.out.ext Xy7.out).cell 0
    have k11 := (HBY2.out.ext Xy7.out).cell 1
    simp only [List.getElem?_cons_zero, List.getElem?_cons_succ] at k10 k11
    have k20 := (HBD.out.ext Xy7.out).cell 0
    have k21 := (HBD.out.ext Xy7.out).cell 1
    simp only [List.getElem?_cons_zero, List.getElem?_cons_succ] at k20 k21
    go_wp2_with fail
    refine (HC1.out _).mono ?_
    rintro e y8 ⟨rfl, hx⟩
    have Xy8 := Lib.hid (Xy7.out.trans hx)
    clear hx k00 k01 k10 k11 k20 k21
    have k00 := (HBX2.out.ext Xy8.out).cell 0
    have k01 := (HBX2.out.ext Xy8.out).cell 1
    simp only [List.getElem?_cons_zero, List.getElem?_cons_succ] at k00 k01
    have k10 := (HBY2.out.ext Xy8.out).cell 0
    have k11 := (HBY2.out.ext Xy8.out).cell 1
    simp only [List.getElem?_cons_zero, List.getElem?_cons_succ] at k10 k11
    have k20 := (HBD.out.ext Xy8.out).cell 0
    have k21 := (HBD.out.ext Xy8.out).cell 1
    simp only [List.getElem?_cons_zero, List.getElem?_cons_succ] at k20 k21
    go_wp2_with fail
    refine (HC2.out _ _ _ (HP3.out.ext Xy8.out) (HQ3.out.ext Xy8.out)).mono ?_
    rintro e y9 ⟨rfl, hx⟩
    have Xy9 := Lib.hid (Xy8.out.trans hx)
    clear hx k00 k01 k10 k11 k20 k21
    have k00 := (HBX2.out.ext Xy9.out).cell 0
    have k01 := (HBX2.out.ext Xy9.out).cell 1
    simp only [List.getElem?_cons_zero, List.getElem?_cons_succ] at k00 k01
    have k10 := (HBY2.out.ext Xy9.out).cell 0
    have k11 := (HBY2.out.ext Xy9.out).cell 1
    simp only [List.getElem?_cons_zero, List.getElem?_cons_succ] at k10 k11
    have k20 := (HBD.out.ext Xy9.out).cell 0
    have k21 := (HBD.out.ext Xy9.out).cell 1
    simp only [List.getElem?_cons_zero, List.getElem?_cons_succ] at k20 k21
    go_wp2_with fail
    refine (HC2.out _ _ _ (HP3.out.ext Xy9.out) (HQ3.out.ext Xy9.out)).mono ?_
    rintro e y10 ⟨rfl, hx⟩
    have Xy10 := Lib.hid (Xy9.out.trans hx)
    clear hx k00 k01 k10 k11 k20 k21
    have k00 := (HBX2.out.ext Xy10.out).cell 0
    have k01 := (HBX2.out.ext Xy10.out).cell 1
    simp only [List.getElem?_cons_zero, List.getElem?_cons_succ] at k00 k01
    have k10 := (HBY2.out.ext Xy10.out).cell 0
    have k11 := (HBY2.out.ext Xy10.out).cell 1
    simp only [List.getElem?_cons_zero, List.getElem?_cons_succ] at k10 k11
    have k20 := (HBD.out.ext Xy10.out).cell 0
    have k21 := (HBD.out.ext Xy10.out).cell 1
    simp only [List.getElem?_cons_zero, List.getElem?_cons_succ] at k20 k21
    go_wp2_with fail
    refine (cbits (Sm.zero 1) _).mono ?_
    rintro e y11 ⟨rfl, hx⟩
    have Xy11 := Lib.hid (Xy10.out.trans hx)
    clear hx k00 k01 k10 k11 k20 k21
    rw [bl_zero]
    go_wp2
    go_ret
    exact ⟨rfl, E3.out.trans Xy11.out⟩
  · have HSU := Lib.hid (fun W => csub BX BY hxy W)
    obtain ⟨z, hz, hz0, hz1, hz2⟩ : ∃ z : Int, cmpN x y = z ∧ decide (z < 0) = false ∧ ((z != z) = false) ∧ ¬ z < 0 := by
      refine ⟨cmpN x y, rfl, ?_⟩
      have : cmpN x y = 0 ∨ cmpN x y = 1 := by unfold cmpN; rw [if_neg (by omega)]; split <;> simp
      rcases this with h | h <;> rw [h] <;> decide
    rw [hz] at HC1 HC2
    have HXY := Lib.hid hxy
    clear hxy hz
    go_enter Tryd.func9, Tryd.ntmps9
    go_wp2_with fail
    refine (HT1.out _ HS0.out HS1.out).mono ?_
    rintro e w1 ⟨p1, q1, rfl, hp1, hq1, hx1⟩
    have E1 := Lib.hid hx1
    have HP := Lib.hid hp1
    have HQ := Lib.hid hq1
    clear hx1 hp1 hq1
    go_wp2_with fail
    generalize hW : (w1.alloc (.cells #[.int .u64 (lo x : Nat), .string (hi x)] 24)).alloc (.cells #[.int .u64 (lo y : Nat), .string (hi y)] 24) = W1
    obtain ⟨hbx, hby, hex⟩ : Blk W1 w1.heap.size 24 [.int .u64 (lo x : Nat), .string (hi x)] ∧ Blk W1 (w1.heap.size + 1) 24 [.int .u64 (lo y : Nat), .string (hi y)] ∧ Ext w1 W1 := boxes2' w1 W1 _ _ _ _ hW
    clear hW
    refine (HSU.out _).mono ?_
    rintro e w2 ⟨rfl, hx2⟩
    have HBX := Lib.hid (hbx.ext hx2)
    have HBY := Lib.hid (hby.ext hx2)
    have HP2 := Lib.hid ((HP.out.ext hex).ext hx2)
    have HQ2 := Lib.hid ((HQ.out.ext hex).ext hx2)
    have E2 := Lib.hid ((E1.out.trans hex).trans hx2)
    clear hx2 hbx hby hex
    go_wp2_with fail
    generalize hW : w2.alloc (.cells #[.int .u64 (lo (x - y) : Nat), .string (hi (x - y))] 24) = W2
    have hbd : Blk W2 w2.heap.size 24 [.int .u64 (lo (x - y) : Nat), .string (hi (x - y))] := by rw [← hW]; exact Blk.new w2 _ _
    have hex : Ext w2 W2 := by rw [← hW]; exact (Ext.refl w2).alloc _
    have HBX2 := Lib.hid (HBX.out.ext hex)
    have HBY2 := Lib.hid (HBY.out.ext hex)
    have HBD := Lib.hid hbd
    have HP3 := Lib.hid (HP2.out.ext hex)
    have HQ3 := Lib.hid (HQ2.out.ext hex)
    have E3 := Lib.hid (E2.out.trans hex)
    clear hW hbd hex HBX HBY HP2 HQ2 E2 E1 HP HQ
    have Xy0 := Lib.hid (Ext.refl W2)
    have k00 := (HBX2.out.ext Xy0.out).cell 0
    have k01 := (HBX2.out.ext Xy0.out).cell 1
    simp only [List.getElem?_cons_zero, List.getElem?_cons_succ] at k00 k01
    have k10 := (HBY2.out.ext Xy0.out).cell 0
    have k11 := (HBY2.out.ext Xy0.out).cell 1
    simp only [List.getElem?_cons_zero, List.getElem?_cons_succ] at k10 k11
    have k20 := (HBD.out.ext Xy0.out).cell 0
    have k21 := (HBD.out.ext Xy0.out).cell 1
    simp only [List.getElem?_cons_zero, List.getElem?_cons_succ] at k20 k21
    go_wp2_with fail
    refine (HK.out _).mono ?_
    rintro e y1 ⟨rfl, hx⟩
    have Xy1 := Lib.hid (Xy0.out.trans hx)
    clear hx k00 k01 k10 k11 k20 k21
    have k00 := (HBX2.out.ext Xy1.out).cell 0
    have k01 := (HBX2.out.ext Xy1.out).cell 1
    simp only [List.getElem?_cons_zero, List.getElem?_cons_succ] at k00 k01
    have k10 := (HBY2.out.ext Xy1.out).cell 0
    have k11 := (HBY2.out.ext Xy1.out).cell 1
    simp only [List.getElem?_cons_zero, List.getElem?_cons_succ] at k10 k11
    have k20 := (HBD.out.ext Xy1.out).cell 0
    have k21 := (HBD.out.ext Xy1.out).cell 1
    simp only [List.getElem?_cons_zero, List.getElem?_cons_succ] at k20 k21
    go_wp2_with fail
    refine (cadd BX BY _).mono ?_
    rintro e y2 ⟨rfl, hx⟩
    have Xy2 := Lib.hid (Xy1.out.trans hx)
    clear hx k00 k01 k10 k11 k20 k21
    have k00 := (HBX2.out.ext Xy2.out).cell 0
    have k01 := (HBX2.out.ext Xy2.out).cell 1
    simp only [List.getElem?_cons_zero, List.getElem?_cons_succ] at k00 k01
    have k10 := (HBY2.out.ext Xy2.out).cell 0
    have k11 := (HBY2.out.ext Xy2.out).cell 1
    simp only [List.getElem?_cons_zero, List.getElem?_cons_succ] at k10 k11
    have k20 := (HBD.out.ext Xy2.out).cell 0
    have k21 := (HBD.out.ext Xy2.out).cell 1
    simp only [List.getElem?_cons_zero, List.getElem?_cons_succ] at k20 k21
    go_wp2_with fail
    refine (cradd BX BY _ (HP3.out.ext Xy2.out) (HQ3.out.ext Xy2.out)).mono ?_
    rintro e y3 ⟨ua, rfl, hua, hx⟩
    have Hua := Lib.hid hua
    have Xy3 := Lib.hid (Xy2.out.trans hx)
    clear hx k00 k01 k10 k11 k20 k21 hua
    have k00 := (HBX2.out.ext Xy3.out).cell 0
    have k01 := (HBX2.out.ext Xy3.out).cell 1
    simp only [List.getElem?_cons_zero, List.getElem?_cons_succ] at k00 k01
    have k10 := (HBY2.out.ext Xy3.out).cell 0
    have k11 := (HBY2.out.ext Xy3.out).cell 1
    simp only [List.getElem?_cons_zero, List.getElem?_cons_succ] at k10 k11
    have k20 := (HBD.out.ext Xy3.out).cell 0
    have k21 := (HBD.out.ext Xy3.out).cell 1
    simp only [List.getElem?_cons_zero, List.getElem?_cons_succ] at k20 k21
    go_wp2_with fail
    refine (cis (BX.add BY) _ Hua.out).mono ?_
    rintro e y4 ⟨rfl, hx⟩
    have Xy4 := Lib.hid (Xy3.out.trans hx)
    clear hx k00 k01 k10 k11 k20 k21
    have k00 := (HBX2.out.ext Xy4.out).cell 0
    have k01 := (HBX2.out.ext Xy4.out).cell 1
    simp only [List.getElem?_cons_zero, List.getElem?_cons_succ] at k00 k01
    have k10 := (HBY2.out.ext Xy4.out).cell 0
    have k11 := (HBY2.out.ext Xy4.out).cell 1
    simp only [List.getElem?_cons_zero, List.getElem?_cons_succ] at k10 k11
    have k20 := (HBD.out.ext Xy4.out).cell 0
    have k21 := (HBD.out.ext Xy4.out).cell 1
    simp only [List.getElem?_cons_zero, List.getElem?_cons_succ] at k20 k21
    go_wp2_with fail
    refine (cmul BX BY _).mono ?_
    rintro e y5 ⟨rfl, hx⟩
    have Xy5 := Lib.hid (Xy4.out.trans hx)
    clear hx k00 k01 k10 k11 k20 k21
    have k00 := (HBX2.out.ext Xy5.out).cell 0
    have k01 := (HBX2.out.ext Xy5.out).cell 1
    simp only [List.getElem?_cons_zero, List.getElem?_cons_succ] at k00 k01
    have k10 := (HBY2.out.ext Xy5.out).cell 0
    have k11 := (HBY2.out.ext Xy5.out).cell 1
    simp only [List.getElem?_cons_zero, List.getElem?_cons_succ] at k10 k11
    have k20 := (HBD.out.ext Xy5.out).cell 0
    have k21 := (HBD.out.ext Xy5.out).cell 1
    simp only [List.getElem?_cons_zero, List.getElem?_cons_succ] at k20 k21
    go_wp2_with fail
    refine (crmul BX BY _ (HP3.out.ext Xy5.out) (HQ3.out.ext Xy5.out)).mono ?_
    rintro e y6 ⟨um, rfl, hum, hx⟩
    have Hum := Lib.hid hum
    have Xy6 := Lib.hid (Xy5.out.trans hx)
    clear hx k00 k01 k10 k11 k20 k21 hum
    have k00 := (HBX2.out.ext Xy6.out).cell 0
    have k01 := (HBX2.out.ext Xy6.out).cell 1
    simp only [List.getElem?_cons_zero, List.getElem?_cons_succ] at k00 k01
    have k10 := (HBY2.out.ext Xy6.out).cell 0
    have k11 := (HBY2.out.ext Xy6.out).cell 1
    simp only [List.getElem?_cons_zero, List.getElem?_cons_succ] at k10 k11
    have k20 := (HBD.out.ext Xy6.out).cell 0
    have k21 := (HBD.out.ext Xy6.out).cell 1
    simp only [List.getElem?_cons_zero, List.getElem?_cons_succ] at k20 k21
    go_wp2_with fail
    refine (cis (BX.mul BY) _ Hum.out).mono ?_
    rintro e y7 ⟨rfl, hx⟩
    have Xy7 := Lib.hid (Xy6.out.trans hx)
    clear hx k00 k01 k10 k11 k20 k21
    have k00 := (HBX2.out.ext Xy7.out).cell 0
    have k01 := (HBX2.out.ext Xy7.out).cell 1
    simp only [List.getElem?_cons_zero, List.getElem?_cons_succ] at k00 k01
    have k10 := (HBY2.out.ext Xy7.out).cell 0
    have k11 := (HBY2.out.ext Xy7.out).cell 1
    simp only [List.getElem?_cons_zero, List.getElem?_cons_succ] at k10 k11
    have k20 := (HBD.out.ext Xy7.out).cell 0
    have k21 := (HBD.out.ext Xy7.out).cell 1
    simp only [List.getElem?_cons_zero, List.getElem?_cons_succ] at k20 k21
    go_wp2_with fail
    refine (HC1.out _).mono ?_
    rintro e y8 ⟨rfl, hx⟩
    have Xy8 := Lib.hid (Xy7.out.trans hx)
    clear hx k00 k01 k10 k11 k20 k21
    have k00 := (HBX2.out.ext Xy8.out).cell 0
    have k01 := (HBX2.out.ext Xy8.out).cell 1
    simp only [List.getElem?_cons_zero, List.getElem?_cons_succ] at k00 k01
    have k10 := (HBY2.out.ext Xy8.out).cell 0
    have k11 := (HBY2.out.ext Xy8.out).cell 1
    simp only [List.getElem?_cons_zero, List.getElem?_cons_succ] at k10 k11
    have k20 := (HBD.out.ext Xy8.out).cell 0
    have k21 := (HBD.out.ext Xy8.out).cell 1
    simp only [List.getElem?_cons_zero, List.getElem?_cons_succ] at k20 k21
    go_wp2_with fail
    refine (HC2.out _ _ _ (HP3.out.ext Xy8.out) (HQ3.out.ext Xy8.out)).mono ?_
    rintro e y9 ⟨rfl, hx⟩
    have Xy9 := Lib.hid (Xy8.out.trans hx)
    clear hx k00 k01 k10 k11 k20 k21
    have k00 := (HBX2.out.ext Xy9.out).cell 0
    have k01 := (HBX2.out.ext Xy9.out).cell 1
    simp only [List.getElem?_cons_zero, List.getElem?_cons_succ] at k00 k01
    have k10 := (HBY2.out.ext Xy9.out).cell 0
    have k11 := (HBY2.out.ext Xy9.out).cell 1
    simp only [List.getElem?_cons_zero, List.getElem?_cons_succ] at k10 k11
    have k20 := (HBD.out.ext Xy9.out).cell 0
    have k21 := (HBD.out.ext Xy9.out).cell 1
    simp only [List.getElem?_cons_zero, List.getElem?_cons_succ] at k20 k21
    go_wp2_with fail
    refine (HC2.out _ _ _ (HP3.out.ext Xy9.out) (HQ3.out.ext Xy9.out)).mono ?_
    rintro e y10 ⟨rfl, hx⟩
    have Xy10 := Lib.hid (Xy9.out.trans hx)
    clear hx k00 k01 k10 k11 k20 k21
    have hbd := HBD.out.ext Xy10.out
    have hp4 := HP3.out.ext Xy10.out
    have hq4 := HQ3.out.ext Xy10.out
    have E4 := Lib.hid (E3.out.trans Xy10.out)
    go_wp2
    refine wp_region_all goesExt 8 [fun v _ => v = .bool true, fun v _ => v = .bool true, fun v _ => v = .agg #[.int .u64 (lo (x - y) : Nat), .string (hi (x - y))], fun v _ => v = p1, fun v _ => v = q1, R32 (x - y), fun v _ => v = .bool true, fun v _ => v = .bool true] (by kernel_rfl) (by kernel_rfl) ?hG ?hQ ⟨fun h => (by cases h), fun _ => ?o0, fun h => (by cases h), fun _ => ?o1, fun h => (by cases h), fun _ => ?o2, fun h => (by cases h), fun _ => ?o3, fun h => (by cases h), fun _ => ?o4, fun h => (by cases h), fun _ => ?o5, fun h => (by cases h), fun _ => ?o6, fun h => (by cases h), fun _ => ?o7, trivial⟩ ?fin
    case hG =>
      intro g hg
      simp only [List.mem_cons, List.not_mem_nil, or_false] at hg
      rcases hg with rfl | rfl | rfl | rfl | rfl | rfl | rfl | rfl
      all_goals first | exact fun _ _ _ _ h => h | exact fun _ _ _ e h => h.ext e
    case hQ => exact fun c a w d v h => by cases d <;> exact h
    case o0 =>
      intro v w' hw hj
      simp [putOps]
      go_wp2
      exact ⟨rfl, rfl, Ext.refl _, fun d hd => by cases hd; rfl⟩
    case o1 =>
      intro v w' hw hj
      have e0 : v 0 = .bool true := hj 0 (by kernel_rfl)
      simp [putOps, Act.put, e0]
      go_wp2
      exact ⟨rfl, rfl, Ext.refl _, fun d hd => by cases hd; rfl⟩
    case o2 =>
      intro v w' hw hj
      have e1 : v 1 = .bool true := hj 1 (by kernel_rfl)
      have c0 : w'.cell? ⟨w2.heap.size, 0, none⟩ = some (.int .u64 (lo (x - y) : Nat)) := (hbd.ext hw).cell 0
      have c1 : w'.cell? ⟨w2.heap.size, 1, none⟩ = some (.string (hi (x - y))) := (hbd.ext hw).cell 1
      simp [putOps, Act.put, e1]
      go_wp2
      exact ⟨rfl, rfl, Ext.refl _, fun d hd => by cases hd; rfl⟩
    case o3 =>
      intro v w' hw hj
      have e1 : v 1 = .bool true := hj 1 (by kernel_rfl)
      simp [putOps, Act.put, e1]
      go_wp2
      exact ⟨rfl, rfl, Ext.refl _, fun d hd => by cases hd; rfl⟩
    case o4 =>
      intro v w' hw hj
      have e1 : v 1 = .bool true := hj 1 (by kernel_rfl)
      simp [putOps, Act.put, e1]
      go_wp2
      exact ⟨rfl, rfl, Ext.refl _, fun d hd => by cases hd; rfl⟩
    case o5 =>
      intro v w' hw hj
      have e3 : v 3 = p1 := hj 3 (by kernel_rfl)
      have e4 : v 4 = q1 := hj 4 (by kernel_rfl)
      have e1 : v 1 = .bool true := hj 1 (by kernel_rfl)
      simp [putOps, Act.put, e3, e4, e1]
      go_wp2_with fail
      refine (crsub BX HXY.out _ (hp4.ext hw) (hq4.ext hw)).mono ?_
      rintro e w2 ⟨u, rfl, h1, h2⟩
      go_wp2
      exact ⟨rfl, rfl, h2, fun d hd => by cases hd; exact h1⟩
    case o6 =>
      intro v w' hw hj
      have e2 : v 2 = .agg #[.int .u64 (lo (x - y) : Nat), .string (hi (x - y))] := hj 2 (by kernel_rfl)
      have e5 : (R32 (x - y)) (v 5) w' := hj 5 (by kernel_rfl)
      have e1 : v 1 = .bool true := hj 1 (by kernel_rfl)
      simp [putOps, Act.put, e2, e1]
      go_wp2_with fail
      refine (cis (BX.sub y) _ e5).mono ?_
      rintro e w2 ⟨rfl, h2⟩
      go_wp2
      exact ⟨rfl, rfl, h2, fun d hd => by cases hd; rfl⟩
    case o7 =>
      intro v w' hw hj
      have e1 : v 1 = .bool true := hj 1 (by kernel_rfl)
      have e6 : v 6 = .bool true := hj 6 (by kernel_rfl)
      simp [putOps, Act.put, e1, e6]
      go_wp2
      exact ⟨rfl, rfl, Ext.refl _, fun d hd => by cases hd; rfl⟩
    case fin =>
      intro v w' hw hj
      have e7 : v 7 = .bool true := hj 7 74 (by omega) rfl
      simp [putOps, Act.put, e7]
      go_wp2
      go_ret
      exact ⟨rfl, E4.out.trans hw⟩
end Go.Proofs.YtcfpjgcellahnaaDoor
