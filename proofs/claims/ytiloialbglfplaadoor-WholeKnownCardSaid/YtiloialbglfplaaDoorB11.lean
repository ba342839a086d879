/- Walks: Parse at a text of one sign. Walks: Parse at a text of several signs. Walks: Parse at any text. -/
import Derived.Test.YtiloialbglfplaaDoorB10
namespace Go.Proofs.YtiloialbglfplaaDoor
open Go.RowKit

theorem box_new (w W : World) (x y : Value) (h : w.alloc (.cells #[x, y] 25) = W) : Blk W w.heap.size 25 [x, y] ∧ W.heap.size = w.heap.size + 1 ∧ Ext w W := by
  subst h
  exact ⟨Blk.new w _ _, by simp, (Ext.refl w).alloc _⟩

set_option maxRecDepth 100000 in
set_option maxHeartbeats 12000000 in
theorem parse_loop1 (t : ByteArray) (_h1 : 1 ≤ t.size) (_h2 : t.size ≤ 200) (hs1 : t.size = 1) (h3 : 1 < t.size → t.data.toList.getD 0 0 ≠ 48) (w : World) :
    Calls Tryd.prog 67 #[.string t] w (Ret (.tuple #[.agg #[.int .u64 (lo (pn t.data.toList) : Nat), .string (hi (pn t.data.toList))], .bool (good t.data.toList)]) w) := by
  have hsz : t.data.toList.length = t.size := Array.length_toList
  have HNO : Hid (∀ k, k < t.size → IsDig (t.data.toList.getD k 0) = false → pn t.data.toList = 0 ∧ good t.data.toList = false) := Lib.hid (fun k hk hd => by
    have := good_nodig (by omega) hd
    exact ⟨pn_no this, this⟩)
  have HYES : Hid ((∀ j, j < t.size → IsDig (t.data.toList.getD j 0) = true) → good t.data.toList = true ∧ pn t.data.toList = pv t.data.toList) := Lib.hid (fun h => by
    have := good_yes (s := t.data.toList) (by omega) (by omega) (fun h => h3 (by omega)) (fun j hj => h j (by omega))
    exact ⟨this, by unfold pn; rw [if_pos this]⟩)
  have HIX : Hid (∀ (k : Nat) W, k < t.size → (Instr.index 9 (.string t) (.int .i64 (k : Int))).run Tryd.prog W = .ok (.int .u8 ((t.data.toList.getD k 0).toNat : Nat)) W) := Lib.hid (fun k W hk => idx_str t k hk W)
  have hz : ((t.size : Int) == 0) = false := beq_eq_false_iff_ne.2 (by omega)
  have hz2 : (t.size : Int) ≤ 200 := by omega
  have HFI : Hid (1 < t.size → ((((t.data.toList.getD 0 0).toNat : Nat) : Int) == 48) = false) := Lib.hid (fun h => beq_eq_false_iff_ne.2 (fun e => h3 h (UInt8.toNat_inj.1 (by show _ = 48; omega))))
  clear h3
  generalize t.data.toList = s at *
  have HSZ := Lib.hid hsz
  clear hsz
  have hs1i : (t.size : Int) ≤ 1 := by omega
  clear HFI _h2
  have h1i : (1 : Int) ≤ t.size := by omega
  go_enter Tryd.func67, Tryd.ntmps67
  go_wp2
  generalize hW : w.alloc (.cells #[.int .u64 0, .string ⟨#[]⟩] 25) = w1
  obtain ⟨hB0, hS0, hE0⟩ := box_new w w1 _ _ hW
  have HB := Lib.hid hB0
  have HS := Lib.hid hS0
  have HE := Lib.hid hE0
  clear hB0 hS0 hE0 hW
  have HMA : Hid (∀ W v L (zu zp : Int) (u p : Nat), zu = (u : Int) → zp = (p : Int) → W.ownsRow w1.heap.size 23 1 v L.length (U L) → Ext w1 W → L.length ≤ 1000 → Dig B64 L → u < B64 → p < B64 → Calls Tryd.prog 100 #[v, .int .u64 zu, .int .u64 zp] W (MaPost w1.heap.size L.length (val B64 L * u + p) W)) :=
    Lib.hid (fun W v L zu zp u p e1 e2 ho he hl hd hu hp => by subst e1; subst e2; exact mulAddWord_any w1.heap.size L u p v W ho (by omega) hd hu hp he.size)
  go_loopw [4, 5, 6, 29] (fun v4 p u i wr => ∃ (vv : Value) (k part unit : Nat) (L : List Nat), vv = v4 ∧ k ≤ t.size ∧ i = .int .i64 k ∧ p = .int .u64 part ∧ u = .int .u64 unit ∧ Hid (PaInv s k part unit (val B64 L)) ∧ Hid (L.length ≤ k ∧ Dig B64 L) ∧ Hid (wr.ownsRow w1.heap.size 23 1 v4 L.length (U L)) ∧ Hid (Ext w1 wr)) (fun _ _ _ i _ => t.size - (intOf i).toNat)
  case atStart => exact ⟨_, 0, 0, 1, [], rfl, Nat.zero_le _, rfl, rfl, rfl, Lib.hid (PaInv.start s), Lib.hid ⟨by simp, Dig.nil _⟩, Lib.hid (World.ownsRow_nil _ _ _ _), Lib.hid (Ext.refl _)⟩
  case round =>
    obtain ⟨v4, k, part, unit, L, rfl, hk, rfl, rfl, rfl, hL, hLL, hob, hex⟩ := hrel
    by_cases hkx : k < t.size
    · have hix := fun W => HIX.out k W hkx
      by_cases hdg : IsDig (s.getD k 0) = true
      · have hdl := dig_le hdg
        obtain ⟨hu1, hu2⟩ := hL.out.le
        have hpl := hL.out.lt
        have HF := Lib.hid (hL.out.flush (by rw [HSZ.out]; exact hkx) hdg)
        have HM : Hid (unit * 10 ≠ 10000000000000000000 → k + 1 ≠ t.size → PaInv s (k + 1) (part * 10 + ((s.getD k 0).toNat - 48)) (unit * 10) (val B64 L)) := Lib.hid (fun e1 e2 => hL.out.more (by rw [HSZ.out]; exact hkx) hdg e1 (by rw [HSZ.out]; exact e2))
        clear hL
        generalize (s.getD k 0).toNat = c at *
        obtain ⟨d, rfl⟩ : ∃ d, c = 48 + d := ⟨c - 48, by omega⟩
        have hd9 : (d : Int) ≤ 9 := by omega
        rw [show 48 + d - 48 = d from by omega] at HF HM
        rw [show ((48 + d : Nat) : Int) = (d : Int) + 48 from by omega] at hix
        have HU1 := Lib.hid hu1
        have HU2 := Lib.hid hu2
        have HPL := Lib.hid hpl
        have hui : (unit : Int) ≤ 1000000000000000000 := by omega
        have hpi : (part : Int) ≤ 1000000000000000000 := by omega
        have hki : (k : Int) ≤ 200 := by omega
        clear hdl hu1 hu2 hpl hdg
        by_cases hfl : unit * 10 = 10000000000000000000
        · have hq : ((unit : Int) * 10 == 10000000000000000000) = true := beq_iff_eq.2 (by omega)
          clear hfl
          go_wp2_with fail
          refine (HMA.out _ _ L _ _ (unit * 10) (part * 10 + d) (by omega) (by omega) hob.out hex.out (by have := hLL.out.1; omega) hLL.out.2 (by have := HU1.out; unfold B64; omega) (by have := HU1.out; have := HPL.out; unfold B64; omega)).mono ?_
          rintro e w2 ⟨v', ys, rfl, hy1, hy2, hy3, hy4, hy5⟩
          have HY : Hid (PaInv s (k + 1) 0 1 (val B64 ys)) := Lib.hid (by rw [hy3]; exact HF.out)
          have HY1 : Hid (ys.length ≤ k + 1 ∧ Dig B64 ys) := Lib.hid ⟨by have := hLL.out.1; omega, hy2⟩
          have HY4 := Lib.hid hy4
          have HX2 : Hid (Ext w1 w2) := Lib.hid (Below.trans hex.out hy5)
          clear hy1 hy2 hy3 hy4 hy5
          go_wp2
          go_roundw
          case rel => exact ⟨_, k + 1, 0, 1, ys, rfl, by omega, by go_num, rfl, rfl, HY, HY1, HY4, HX2⟩
          case measure => simp [intOf]; omega
        · have hq : ((unit : Int) * 10 == 10000000000000000000) = false := beq_eq_false_iff_ne.2 (by omega)
          by_cases hlast : k + 1 = t.size
          · have hq2 : ((k : Int) == (t.size : Int) - 1) = true := beq_iff_eq.2 (by omega)
            clear hfl
            go_wp2_with fail
            refine (HMA.out _ _ L _ _ (unit * 10) (part * 10 + d) (by omega) (by omega) hob.out hex.out (by have := hLL.out.1; omega) hLL.out.2 (by have := HU1.out; unfold B64; omega) (by have := HU1.out; have := HPL.out; unfold B64; omega)).mono ?_
            rintro e w2 ⟨v', ys, rfl, hy1, hy2, hy3, hy4, hy5⟩
            have HY : Hid (PaInv s (k + 1) 0 1 (val B64 ys)) := Lib.hid (by rw [hy3]; exact HF.out)
            have HY1 : Hid (ys.length ≤ k + 1 ∧ Dig B64 ys) := Lib.hid ⟨by have := hLL.out.1; omega, hy2⟩
            have HY4 := Lib.hid hy4
            have HX2 : Hid (Ext w1 w2) := Lib.hid (Below.trans hex.out hy5)
            clear hy1 hy2 hy3 hy4 hy5
            go_wp2
            go_roundw
            case rel => exact ⟨_, k + 1, 0, 1, ys, rfl, by omega, by go_num, rfl, rfl, HY, HY1, HY4, HX2⟩
            case measure => simp [intOf]; omega
          · exact absurd (show k + 1 = t.size by omega) hlast
      · have hdf : IsDig (s.getD k 0) = false := by simpa using hdg
        obtain ⟨hn1, hn2⟩ := HNO.out k hkx hdf
        rw [hn1, hn2, n_zero]
        have hbx := HB.out.ext hex.out
        have c0 : wr.cell? ⟨w.heap.size, 0, none⟩ = some (.int .u64 0) := hbx.cell 0
        have c1 : wr.cell? ⟨w.heap.size, 1, none⟩ = some (.string ⟨#[]⟩) := hbx.cell 1
        have f0 : wr.frozen? ⟨w.heap.size, 0, none⟩ = false := hbx.frozen 0
        have f1 : wr.frozen? ⟨w.heap.size, 1, none⟩ = false := hbx.frozen 1
        have HBX := Lib.hid hbx
        have hnd := nodig_cases hdf
        clear hbx hn1 hn2 hdg hdf hL hLL
        generalize (s.getD k 0).toNat = c at *
        rcases hnd with hc | ⟨_, hc⟩
        · have hci : (c : Int) < 48 := by omega
          clear hc
          go_wp2
          refine ret_nat2 w.heap.size _ _ _ rfl rfl rfl ((HBX.out.set 0 _).set 1 _) rfl ⟨rfl, ?_⟩
          exact (Below.setCell (Ext.trans HE.out hex.out) (p := ⟨w.heap.size, 0, none⟩) (Nat.le_refl _) _).setCell (p := ⟨w.heap.size, 1, none⟩) (Nat.le_refl _) _
        · have hci : (57 : Int) < c := by omega
          clear hc
          go_wp2
          refine ret_nat2 w.heap.size _ _ _ rfl rfl rfl ((HBX.out.set 0 _).set 1 _) rfl ⟨rfl, ?_⟩
          exact (Below.setCell (Ext.trans HE.out hex.out) (p := ⟨w.heap.size, 0, none⟩) (Nat.le_refl _) _).setCell (p := ⟨w.heap.size, 1, none⟩) (Nat.le_refl _) _
    · obtain rfl : k = t.size := by omega
      have hL' := hL.out
      obtain ⟨y1, y2⟩ := HYES.out hL'.dig
      rw [← HSZ.out] at hL'
      have hv := hL'.done
      have Y1 := Lib.hid y1
      have Y2 := Lib.hid y2
      have hcall : Calls Tryd.prog 71 #[v4] wr (Ret (.agg #[.int .u64 (lo (pv s) : Nat), .string (hi (pv s))]) wr) := by
        have h := fromWords_own wr hob.out (by have := hLL.out.1; omega) hLL.out.2
        rw [hv] at h
        exact h
      have HC := Lib.hid hcall
      clear hcall hv hL' y1 y2 hL hLL
      generalize pv s = n at *
      go_wp2_with fail
      refine (HC.out).mono ?_
      rintro e w3 ⟨rfl, he3⟩
      have hx3 := hex.out.trans he3
      have hbx := HB.out.ext hx3
      have c0 : w3.cell? ⟨w.heap.size, 0, none⟩ = some (.int .u64 0) := hbx.cell 0
      have c1 : w3.cell? ⟨w.heap.size, 1, none⟩ = some (.string ⟨#[]⟩) := hbx.cell 1
      have f0 : w3.frozen? ⟨w.heap.size, 0, none⟩ = false := hbx.frozen 0
      have f1 : w3.frozen? ⟨w.heap.size, 1, none⟩ = false := hbx.frozen 1
      have HBX := Lib.hid hbx
      have HX3 := Lib.hid hx3
      clear hbx hx3 he3
      go_wp2
      refine ret_nat2 w.heap.size _ _ _ rfl rfl rfl ((HBX.out.set 0 _).set 1 _) rfl ⟨by rw [Y1.out, Y2.out]; rfl, ?_⟩
      exact (Below.setCell (Ext.trans HE.out HX3.out) (p := ⟨w.heap.size, 0, none⟩) (Nat.le_refl _) _).setCell (p := ⟨w.heap.size, 1, none⟩) (Nat.le_refl _) _

end Go.Proofs.YtiloialbglfplaaDoor

namespace Go.Proofs.YtiloialbglfplaaDoor
open Go.RowKit

theorem box_new' (w W : World) (x y : Value) (h : w.alloc (.cells #[x, y] 25) = W) : Blk W w.heap.size 25 [x, y] ∧ W.heap.size = w.heap.size + 1 ∧ Ext w W := by
  subst h
  exact ⟨Blk.new w _ _, by simp, (Ext.refl w).alloc _⟩

set_option maxRecDepth 100000 in
set_option maxHeartbeats 12000000 in
theorem parse_loop2 (t : ByteArray) (h1 : 1 ≤ t.size) (h2 : t.size ≤ 200) (hs1 : 1 < t.size) (h3 : 1 < t.size → t.data.toList.getD 0 0 ≠ 48) (w : World) :
    Calls Tryd.prog 67 #[.string t] w (Ret (.tuple #[.agg #[.int .u64 (lo (pn t.data.toList) : Nat), .string (hi (pn t.data.toList))], .bool (good t.data.toList)]) w) := by
  have hsz : t.data.toList.length = t.size := Array.length_toList
  have HNO : Hid (∀ k, k < t.size → IsDig (t.data.toList.getD k 0) = false → pn t.data.toList = 0 ∧ good t.data.toList = false) := Lib.hid (fun k hk hd => by
    have := good_nodig (by omega) hd
    exact ⟨pn_no this, this⟩)
  have HYES : Hid ((∀ j, j < t.size → IsDig (t.data.toList.getD j 0) = true) → good t.data.toList = true ∧ pn t.data.toList = pv t.data.toList) := Lib.hid (fun h => by
    have := good_yes (s := t.data.toList) (by omega) (by omega) (fun h => h3 (by omega)) (fun j hj => h j (by omega))
    exact ⟨this, by unfold pn; rw [if_pos this]⟩)
  have HIX : Hid (∀ (k : Nat) W, k < t.size → (Instr.index 9 (.string t) (.int .i64 (k : Int))).run Tryd.prog W = .ok (.int .u8 ((t.data.toList.getD k 0).toNat : Nat)) W) := Lib.hid (fun k W hk => idx_str t k hk W)
  have hz : ((t.size : Int) == 0) = false := beq_eq_false_iff_ne.2 (by omega)
  have hz2 : (t.size : Int) ≤ 200 := by omega
  have HFI : Hid (1 < t.size → ((((t.data.toList.getD 0 0).toNat : Nat) : Int) == 48) = false) := Lib.hid (fun h => beq_eq_false_iff_ne.2 (fun e => h3 h (UInt8.toNat_inj.1 (by show _ = 48; omega))))
  clear h3
  generalize t.data.toList = s at *
  have HSZ := Lib.hid hsz
  clear hsz
  have hb0 := HFI.out hs1
  have hix0 : ∀ W, (Instr.index 9 (.string t) (.int .i64 0)).run Tryd.prog W = .ok (.int .u8 ((s.getD 0 0).toNat : Nat)) W := fun W => HIX.out 0 W (by omega)
  have hs1i : (1 : Int) < t.size := by omega
  generalize (s.getD 0 0).toNat = c0 at hb0 hix0
  clear HFI hs1 h2
  have h1i : (1 : Int) ≤ t.size := by omega
  go_enter Tryd.func67, Tryd.ntmps67
  go_wp2
  generalize hW : w.alloc (.cells #[.int .u64 0, .string ⟨#[]⟩] 25) = w1
  obtain ⟨hB0, hS0, hE0⟩ := box_new' w w1 _ _ hW
  have HB := Lib.hid hB0
  have HS := Lib.hid hS0
  have HE := Lib.hid hE0
  clear hB0 hS0 hE0 hW
  have HMA : Hid (∀ W v L (zu zp : Int) (u p : Nat), zu = (u : Int) → zp = (p : Int) → W.ownsRow w1.heap.size 23 1 v L.length (U L) → Ext w1 W → L.length ≤ 1000 → Dig B64 L → u < B64 → p < B64 → Calls Tryd.prog 100 #[v, .int .u64 zu, .int .u64 zp] W (MaPost w1.heap.size L.length (val B64 L * u + p) W)) :=
    Lib.hid (fun W v L zu zp u p e1 e2 ho he hl hd hu hp => by subst e1; subst e2; exact mulAddWord_any w1.heap.size L u p v W ho (by omega) hd hu hp he.size)
  go_loopw [4, 5, 6, 29] (fun v4 p u i wr => ∃ (vv : Value) (k part unit : Nat) (L : List Nat), vv = v4 ∧ k ≤ t.size ∧ i = .int .i64 k ∧ p = .int .u64 part ∧ u = .int .u64 unit ∧ Hid (PaInv s k part unit (val B64 L)) ∧ Hid (L.length ≤ k ∧ Dig B64 L) ∧ Hid (wr.ownsRow w1.heap.size 23 1 v4 L.length (U L)) ∧ Hid (Ext w1 wr)) (fun _ _ _ i _ => t.size - (intOf i).toNat)
  case atStart => exact ⟨_, 0, 0, 1, [], rfl, Nat.zero_le _, rfl, rfl, rfl, Lib.hid (PaInv.start s), Lib.hid ⟨by simp, Dig.nil _⟩, Lib.hid (World.ownsRow_nil _ _ _ _), Lib.hid (Ext.refl _)⟩
  case round =>
    obtain ⟨v4, k, part, unit, L, rfl, hk, rfl, rfl, rfl, hL, hLL, hob, hex⟩ := hrel
    by_cases hkx : k < t.size
    · have hix := fun W => HIX.out k W hkx
      by_cases hdg : IsDig (s.getD k 0) = true
      · have hdl := dig_le hdg
        obtain ⟨hu1, hu2⟩ := hL.out.le
        have hpl := hL.out.lt
        have HF := Lib.hid (hL.out.flush (by rw [HSZ.out]; exact hkx) hdg)
        have HM : Hid (unit * 10 ≠ 10000000000000000000 → k + 1 ≠ t.size → PaInv s (k + 1) (part * 10 + ((s.getD k 0).toNat - 48)) (unit * 10) (val B64 L)) := Lib.hid (fun e1 e2 => hL.out.more (by rw [HSZ.out]; exact hkx) hdg e1 (by rw [HSZ.out]; exact e2))
        clear hL
        generalize (s.getD k 0).toNat = c at *
        obtain ⟨d, rfl⟩ : ∃ d, c = 48 + d := ⟨c - 48, by omega⟩
        have hd9 : (d : Int) ≤ 9 := by omega
        rw [show 48 + d - 48 = d from by omega] at HF HM
        rw [show ((48 + d : Nat) : Int) = (d : Int) + 48 from by omega] at hix
        have HU1 := Lib.hid hu1
        have HU2 := Lib.hid hu2
        have HPL := Lib.hid hpl
        have hui : (unit : Int) ≤ 1000000000000000000 := by omega
        have hpi : (part : Int) ≤ 1000000000000000000 := by omega
        have hki : (k : Int) ≤ 200 := by omega
        clear hdl hu1 hu2 hpl hdg
        by_cases hfl : unit * 10 = 10000000000000000000
        · have hq : ((unit : Int) * 10 == 10000000000000000000) = true := beq_iff_eq.2 (by omega)
          clear hfl
          go_wp2_with fail
          refine (HMA.out _ _ L _ _ (unit * 10) (part * 10 + d) (by omega) (by omega) hob.out hex.out (by have := hLL.out.1; omega) hLL.out.2 (by have := HU1.out; unfold B64; omega) (by have := HU1.out; have := HPL.out; unfold B64; omega)).mono ?_
          rintro e w2 ⟨v', ys, rfl, hy1, hy2, hy3, hy4, hy5⟩
          have HY : Hid (PaInv s (k + 1) 0 1 (val B64 ys)) := Lib.hid (by rw [hy3]; exact HF.out)
          have HY1 : Hid (ys.length ≤ k + 1 ∧ Dig B64 ys) := Lib.hid ⟨by have := hLL.out.1; omega, hy2⟩
          have HY4 := Lib.hid hy4
          have HX2 : Hid (Ext w1 w2) := Lib.hid (Below.trans hex.out hy5)
          clear hy1 hy2 hy3 hy4 hy5
          go_wp2
          go_roundw
          case rel => exact ⟨_, k + 1, 0, 1, ys, rfl, by omega, by go_num, rfl, rfl, HY, HY1, HY4, HX2⟩
          case measure => simp [intOf]; omega
        · have hq : ((unit : Int) * 10 == 10000000000000000000) = false := beq_eq_false_iff_ne.2 (by omega)
          by_cases hlast : k + 1 = t.size
          · have hq2 : ((k : Int) == (t.size : Int) - 1) = true := beq_iff_eq.2 (by omega)
            clear hfl
            go_wp2_with fail
            refine (HMA.out _ _ L _ _ (unit * 10) (part * 10 + d) (by omega) (by omega) hob.out hex.out (by have := hLL.out.1; omega) hLL.out.2 (by have := HU1.out; unfold B64; omega) (by have := HU1.out; have := HPL.out; unfold B64; omega)).mono ?_
            rintro e w2 ⟨v', ys, rfl, hy1, hy2, hy3, hy4, hy5⟩
            have HY : Hid (PaInv s (k + 1) 0 1 (val B64 ys)) := Lib.hid (by rw [hy3]; exact HF.out)
            have HY1 : Hid (ys.length ≤ k + 1 ∧ Dig B64 ys) := Lib.hid ⟨by have := hLL.out.1; omega, hy2⟩
            have HY4 := Lib.hid hy4
            have HX2 : Hid (Ext w1 w2) := Lib.hid (Below.trans hex.out hy5)
            clear hy1 hy2 hy3 hy4 hy5
            go_wp2
            go_roundw
            case rel => exact ⟨_, k + 1, 0, 1, ys, rfl, by omega, by go_num, rfl, rfl, HY, HY1, HY4, HX2⟩
            case measure => simp [intOf]; omega
          · have hq2 : ((k : Int) == (t.size : Int) - 1) = false := beq_eq_false_iff_ne.2 (by omega)
            have HN := Lib.hid (HM.out hfl hlast)
            clear hfl
            go_wp2
            go_roundw
            case rel => exact ⟨_, k + 1, part * 10 + d, unit * 10, L, rfl, by omega, by go_num, by go_num, by go_num, HN, Lib.hid ⟨by have := hLL.out.1; omega, hLL.out.2⟩, hob, hex⟩
            case measure => simp [intOf]; omega
      · have hdf : IsDig (s.getD k 0) = false := by simpa using hdg
        obtain ⟨hn1, hn2⟩ := HNO.out k hkx hdf
        rw [hn1, hn2, n_zero]
        have hbx := HB.out.ext hex.out
        have c0 : wr.cell? ⟨w.heap.size, 0, none⟩ = some (.int .u64 0) := hbx.cell 0
        have c1 : wr.cell? ⟨w.heap.size, 1, none⟩ = some (.string ⟨#[]⟩) := hbx.cell 1
        have f0 : wr.frozen? ⟨w.heap.size, 0, none⟩ = false := hbx.frozen 0
        have f1 : wr.frozen? ⟨w.heap.size, 1, none⟩ = false := hbx.frozen 1
        have HBX := Lib.hid hbx
        have hnd := nodig_cases hdf
        clear hbx hn1 hn2 hdg hdf hL hLL
        generalize (s.getD k 0).toNat = c at *
        rcases hnd with hc | ⟨_, hc⟩
        · have hci : (c : Int) < 48 := by omega
          clear hc
          go_wp2
          refine ret_nat2 w.heap.size _ _ _ rfl rfl rfl ((HBX.out.set 0 _).set 1 _) rfl ⟨rfl, ?_⟩
          exact (Below.setCell (Ext.trans HE.out hex.out) (p := ⟨w.heap.size, 0, none⟩) (Nat.le_refl _) _).setCell (p := ⟨w.heap.size, 1, none⟩) (Nat.le_refl _) _
        · have hci : (57 : Int) < c := by omega
          clear hc
          go_wp2
          refine ret_nat2 w.heap.size _ _ _ rfl rfl rfl ((HBX.out.set 0 _).set 1 _) rfl ⟨rfl, ?_⟩
          exact (Below.setCell (Ext.trans HE.out hex.out) (p := ⟨w.heap.size, 0, none⟩) (Nat.le_refl _) _).setCell (p := ⟨w.heap.size, 1, none⟩) (Nat.le_refl _) _
    · obtain rfl : k = t.size := by omega
      have hL' := hL.out
      obtain ⟨y1, y2⟩ := HYES.out hL'.dig
      rw [← HSZ.out] at hL'
      have hv := hL'.done
      have Y1 := Lib.hid y1
      have Y2 := Lib.hid y2
      have hcall : Calls Tryd.prog 71 #[v4] wr (Ret (.agg #[.int .u64 (lo (pv s) : Nat), .string (hi (pv s))]) wr) := by
        have h := fromWords_own wr hob.out (by have := hLL.out.1; omega) hLL.out.2
        rw [hv] at h
        exact h
      have HC := Lib.hid hcall
      clear hcall hv hL' y1 y2 hL hLL
      generalize pv s = n at *
      go_wp2_with fail
      refine (HC.out).mono ?_
      rintro e w3 ⟨rfl, he3⟩
      have hx3 := hex.out.trans he3
      have hbx := HB.out.ext hx3
      have c0 : w3.cell? ⟨w.heap.size, 0, none⟩ = some (.int .u64 0) := hbx.cell 0
      have c1 : w3.cell? ⟨w.heap.size, 1, none⟩ = some (.string ⟨#[]⟩) := hbx.cell 1
      have f0 : w3.frozen? ⟨w.heap.size, 0, none⟩ = false := hbx.frozen 0
      have f1 : w3.frozen? ⟨w.heap.size, 1, none⟩ = false := hbx.frozen 1
      have HBX := Lib.hid hbx
      have HX3 := Lib.hid hx3
      clear hbx hx3 he3
      go_wp2
      refine ret_nat2 w.heap.size _ _ _ rfl rfl rfl ((HBX.out.set 0 _).set 1 _) rfl ⟨by rw [Y1.out, Y2.out]; rfl, ?_⟩
      exact (Below.setCell (Ext.trans HE.out HX3.out) (p := ⟨w.heap.size, 0, none⟩) (Nat.le_refl _) _).setCell (p := ⟨w.heap.size, 1, none⟩) (Nat.le_refl _) _

end Go.Proofs.YtiloialbglfplaaDoor

namespace Go.Proofs.YtiloialbglfplaaDoor
open Go.RowKit

/-- Parse at any text. -/
theorem parse_any (t : ByteArray) (w : World) :
    Calls Tryd.prog 67 #[.string t] w (Ret (.tuple #[.agg #[.int .u64 (lo (pn t.data.toList) : Nat), .string (hi (pn t.data.toList))], .bool (good t.data.toList)]) w) := by
  have hsz : t.data.toList.length = t.size := Array.length_toList
  have hno : good t.data.toList = false → (t.size = 0 ∨ 200 < t.size ∨ (1 < t.size ∧ t.size ≤ 200 ∧ t.data.toList.getD 0 0 = 48)) → Calls Tryd.prog 67 #[.string t] w (Ret (.tuple #[.agg #[.int .u64 (lo (pn t.data.toList) : Nat), .string (hi (pn t.data.toList))], .bool (good t.data.toList)]) w) := fun h1 h2 => by
    rw [pn_no h1, h1]
    exact parse_no t h2 w
  by_cases h0 : t.size = 0
  · exact hno (good_no0 (by omega)) (.inl h0)
  · by_cases h2 : 200 < t.size
    · exact hno (good_no200 (by omega)) (.inr (.inl h2))
    · by_cases h3 : 1 < t.size ∧ t.data.toList.getD 0 0 = 48
      · exact hno (good_nofirst (by omega) h3.2) (.inr (.inr ⟨h3.1, by omega, h3.2⟩))
      · by_cases h1 : t.size = 1
        · exact parse_loop1 t (by omega) (by omega) h1 (fun h e => h3 ⟨h, e⟩) w
        · exact parse_loop2 t (by omega) (by omega) (by omega) (fun h e => h3 ⟨h, e⟩) w
end Go.Proofs.YtiloialbglfplaaDoor
