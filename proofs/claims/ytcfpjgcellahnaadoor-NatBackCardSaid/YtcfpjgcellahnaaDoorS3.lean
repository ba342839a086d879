/- The law NatBack: its walk. -/
import Derived.Test.YtcfpjgcellahnaaDoorCalls2
import Derived.Test.YtcfpjgcellahnaaDoorCalls3
import Derived.Test.YtcfpjgcellahnaaDoorRegion2
namespace Go.Proofs.YtcfpjgcellahnaaDoor
open Go.RowKit

theorem Box1.ptr {B : Nat} {v : Value} {w : World} (h : Box1 B v w) : ∃ p : Addr, v = .pointer (some p) ∧ p.block < w.heap.size := by
  obtain ⟨g, _, h1, h2⟩ := h
  exact ⟨_, h1, h2.lt⟩

set_option maxRecDepth 100000 in
set_option maxHeartbeats 4000000 in
theorem natBack_zero (l0 : List UInt8) (v0 : Value) (l1 : List UInt8) (v1 : Value) (w : World) (s0 : SlB l0 v0 w) (s1 : SlB l1 v1 w) (h0 : beN (l1.take 48) = 0) :
    Calls Tryd.prog 6 #[v0, v1] w (Ret (.bool true) w) := by
  have HT1 : Hid (∀ W, SlB l0 v0 W → SlB l1 v1 W → Calls Tryd.prog 24 #[v0, v1] W (TwoPost (beN (l0.take 48)) 0 W)) := Lib.hid (fun W h k => by
    have h := two_any l0 l1 v0 v1 W h k
    rw [h0] at h
    exact h)
  have HS0 := Lib.hid s0
  have HS1 := Lib.hid s1
  have HK := Lib.hid known_any
  have HB0 : Hid (∀ W, Calls Tryd.prog 27 #[.agg #[.int .u64 (lo (0) : Nat), .string (hi (0))]] W (Ret (.int .i64 0) W)) := Lib.hid (fun W => by have h := cbits (Sm.zero 1) W; rw [bl_zero] at h; exact h)
  clear s0 s1 h0
  generalize beN (l0.take 48) = x at *
  have HSU := Lib.hid (fun W => div_zero x W)
  go_enter Tryd.func6, Tryd.ntmps6
  go_wp2_with fail
  refine (HT1.out _ HS0.out HS1.out).mono ?_
  rintro e w1 ⟨p1, q1, rfl, hp1, hq1, hx1⟩
  have E1 := Lib.hid hx1
  clear hx1 hp1 hq1
  go_wp2_with fail
  generalize hW : (w1.alloc (.cells #[.int .u64 (lo x : Nat), .string (hi x)] 24)).alloc (.cells #[.int .u64 (lo 0 : Nat), .string (hi 0)] 24) = W1
  obtain ⟨hbx, hby, hex⟩ := boxes2' w1 W1 _ _ _ _ hW
  clear hW
  refine (HSU.out _).mono ?_
  rintro e w2 ⟨rfl, hx2⟩
  have HBY := Lib.hid (hby.ext hx2)
  have E2 := Lib.hid ((E1.out.trans hex).trans hx2)
  clear hx2 hbx hby hex
  go_wp2_with fail
  generalize hW : (w2.alloc (.cells #[.int .u64 (lo 0 : Nat), .string (hi 0)] 24)).alloc (.cells #[.int .u64 (lo 0 : Nat), .string (hi 0)] 24) = W2
  obtain ⟨_, _, hex⟩ := boxes2' w2 W2 _ _ _ _ hW
  have HBY2 := Lib.hid (HBY.out.ext hex)
  have E3 := Lib.hid (E2.out.trans hex)
  clear hW hex HBY E2 E1
  have Xy0 := Lib.hid (Ext.refl W2)
  have k00 := (HBY2.out.ext Xy0.out).cell 0
  have k01 := (HBY2.out.ext Xy0.out).cell 1
  simp only [List.getElem?_cons_zero, List.getElem?_cons_succ] at k00 k01
  go_wp2_with fail
  refine (HK.out _).mono ?_
  rintro e y1 ⟨rfl, hx⟩
  have Xy1 := Lib.hid (Xy0.out.trans hx)
  clear hx k00 k01
  have k00 := (HBY2.out.ext Xy1.out).cell 0
  have k01 := (HBY2.out.ext Xy1.out).cell 1
  simp only [List.getElem?_cons_zero, List.getElem?_cons_succ] at k00 k01
  go_wp2_with fail
  refine (HB0.out _).mono ?_
  rintro e y2 ⟨rfl, hx⟩
  have Xy2 := Lib.hid (Xy1.out.trans hx)
  clear hx k00 k01
  go_wp2
  go_ret
  exact ⟨rfl, E3.out.trans Xy2.out⟩

set_option maxRecDepth 100000 in
set_option maxHeartbeats 4000000 in
theorem natBack_pos (l0 : List UInt8) (v0 : Value) (l1 : List UInt8) (v1 : Value) (w : World) (s0 : SlB l0 v0 w) (s1 : SlB l1 v1 w) (h0 : beN (l1.take 48) ≠ 0) :
    Calls Tryd.prog 6 #[v0, v1] w (Ret (.bool true) w) := by
  have HT1 : Hid (∀ W, SlB l0 v0 W → SlB l1 v1 W → Calls Tryd.prog 24 #[v0, v1] W (TwoPost (beN (l0.take 48)) (beN (l1.take 48)) W)) := Lib.hid (fun W h k => two_any l0 l1 v0 v1 W h k)
  have HS0 := Lib.hid s0
  have HS1 := Lib.hid s1
  have BX := Sm.take l0
  have BY := Sm.take l1
  have HK := Lib.hid known_any
  have HB0 : Hid (∀ W, Calls Tryd.prog 27 #[.agg #[.int .u64 (lo (0) : Nat), .string (hi (0))]] W (Ret (.int .i64 0) W)) := Lib.hid (fun W => by have h := cbits (Sm.zero 1) W; rw [bl_zero] at h; exact h)
  clear s0 s1
  generalize beN (l0.take 48) = x at *
  generalize beN (l1.take 48) = y at *
  have HPOS := h0
  have HSU := Lib.hid (fun W => cdiv BX BY h0 W)
  have HQR := Lib.hid (show x / y * y + x % y = x by rw [Nat.mul_comm]; exact Nat.div_add_mod x y)
  have HLT := Lib.hid (Nat.mod_lt x (Nat.pos_of_ne_zero h0))
  have BQ := BX.div y
  have BR := BX.mod y
  have HMD := Lib.hid (Nat.mul_div_cancel x (Nat.pos_of_ne_zero h0))
  have HMM := Lib.hid (Nat.mul_mod_left x y)
  generalize x / y = q at *
  generalize x % y = r at *
  clear h0
  go_enter Tryd.func6, Tryd.ntmps6
  go_wp2_with fail
  refine (HT1.out _ HS0.out HS1.out).mono ?_
  rintro e w1 ⟨p1, q1, rfl, hp1, hq1, hx1⟩
  have E1 := Lib.hid hx1
  clear hx1 hp1 hq1
  go_wp2_with fail
  generalize hW : (w1.alloc (.cells #[.int .u64 (lo x : Nat), .string (hi x)] 24)).alloc (.cells #[.int .u64 (lo y : Nat), .string (hi y)] 24) = W1
  obtain ⟨hbx, hby, hex⟩ := boxes2' w1 W1 _ _ _ _ hW
  clear hW
  refine (HSU.out _).mono ?_
  rintro e w2 ⟨rfl, hx2⟩
  have HBX := Lib.hid (hbx.ext hx2)
  have HBY := Lib.hid (hby.ext hx2)
  have E2 := Lib.hid ((E1.out.trans hex).trans hx2)
  clear hx2 hbx hby hex
  go_wp2_with fail
  generalize hW : (w2.alloc (.cells #[.int .u64 (lo q : Nat), .string (hi q)] 24)).alloc (.cells #[.int .u64 (lo r : Nat), .string (hi r)] 24) = W2
  obtain ⟨hbq, hbr, hex⟩ := boxes2' w2 W2 _ _ _ _ hW
  have hbx := HBX.out.ext hex
  have hby := HBY.out.ext hex
  have E3 := Lib.hid (E2.out.trans hex)
  clear hW hex HBX HBY E2 E1 HSU
  refine A2.wp_region_all goesExt 11 [fun v _ => v = .agg #[.int .u64 (lo (x) : Nat), .string (hi (x))], fun v _ => v = .agg #[.int .u64 (lo (y) : Nat), .string (hi (y))], fun v _ => v = .agg #[.int .u64 (lo (x * y) : Nat), .string (hi (x * y))], fun v _ => v = .agg #[.int .u64 (lo (y) : Nat), .string (hi (y))], fun v _ => v = .tuple #[.agg #[.int .u64 (lo (x) : Nat), .string (hi (x))], .agg #[.int .u64 (lo (0) : Nat), .string (hi (0))], .bool true], fun v _ => v = .tuple #[.agg #[.int .u64 (lo (x) : Nat), .string (hi (x))], .agg #[.int .u64 (lo (0) : Nat), .string (hi (0))], .bool true], fun v _ => v = .agg #[.int .u64 (lo (x) : Nat), .string (hi (x))], fun v _ => v = .agg #[.int .u64 (lo (0) : Nat), .string (hi (0))], fun v _ => v = .bool true, Box1 W2.heap.size, Box1 W2.heap.size] (by kernel_rfl) (by kernel_rfl) ?hG [9, 10] (by kernel_rfl) ?hT ?hQ ⟨fun h => (by cases h), fun _ => ?o0, fun h => (by cases h), fun _ => ?o1, fun h => (by cases h), fun _ => ?o2, fun h => (by cases h), fun _ => ?o3, fun h => (by cases h), fun _ => ?o4, fun h => (by cases h), fun _ => ?o5, fun _ => ?o6, fun h => (by cases h), fun _ => ?o7, fun h => (by cases h), fun _ => ?o8, fun h => (by cases h), fun h => (by cases h), fun _ => ?o9, fun h => (by cases h), fun _ => ?o10, trivial⟩ ?fin
  case hG =>
    intro g hg
    simp only [List.mem_cons, List.not_mem_nil, or_false] at hg
    rcases hg with rfl | rfl | rfl | rfl | rfl | rfl | rfl | rfl | rfl | rfl | rfl
    all_goals first | exact fun _ _ _ _ h => h | exact fun _ _ _ e h => h.ext e
  case hQ => exact fun c a w d v h => by cases d <;> exact h
  case hT =>
    intro i hi v w hg
    simp only [List.mem_cons, List.not_mem_nil, or_false] at hi
    rcases hi with rfl | rfl
    all_goals exact Box1.ptr hg
  case o0 =>
    intro v w' hw hj
    have c0 : w'.cell? ⟨w1.heap.size, 0, none⟩ = some (.int .u64 (lo (x) : Nat)) := (hbx.ext hw).cell 0
    have c1 : w'.cell? ⟨w1.heap.size, 1, none⟩ = some (.string (hi (x))) := (hbx.ext hw).cell 1
    simp [putOps]
    go_wp2
    exact ⟨rfl, rfl, Ext.refl _, fun d hd => by cases hd; rfl⟩
  case o1 =>
    intro v w' hw hj
    have c0 : w'.cell? ⟨(w1.heap.size + 1), 0, none⟩ = some (.int .u64 (lo (y) : Nat)) := (hby.ext hw).cell 0
    have c1 : w'.cell? ⟨(w1.heap.size + 1), 1, none⟩ = some (.string (hi (y))) := (hby.ext hw).cell 1
    simp [putOps, Act.put]
    go_wp2
    exact ⟨rfl, rfl, Ext.refl _, fun d hd => by cases hd; rfl⟩
  case o2 =>
    intro v w' hw hj
    have e0 : v 0 = .agg #[.int .u64 (lo (x) : Nat), .string (hi (x))] := hj 0 (by kernel_rfl)
    have e1 : v 1 = .agg #[.int .u64 (lo (y) : Nat), .string (hi (y))] := hj 1 (by kernel_rfl)
    simp [putOps, Act.put, e0, e1]
    go_wp2_with fail
    refine (cmul BX BY _).mono ?_
    rintro e w2 ⟨rfl, h2⟩
    go_wp2
    exact ⟨rfl, rfl, h2, fun d hd => by cases hd; rfl⟩
  case o3 =>
    intro v w' hw hj
    have c0 : w'.cell? ⟨(w1.heap.size + 1), 0, none⟩ = some (.int .u64 (lo (y) : Nat)) := (hby.ext hw).cell 0
    have c1 : w'.cell? ⟨(w1.heap.size + 1), 1, none⟩ = some (.string (hi (y))) := (hby.ext hw).cell 1
    simp [putOps, Act.put]
    go_wp2
    exact ⟨rfl, rfl, Ext.refl _, fun d hd => by cases hd; rfl⟩
  case o4 =>
    intro v w' hw hj
    have e2 : v 2 = .agg #[.int .u64 (lo (x * y) : Nat), .string (hi (x * y))] := hj 2 (by kernel_rfl)
    have e3 : v 3 = .agg #[.int .u64 (lo (y) : Nat), .string (hi (y))] := hj 3 (by kernel_rfl)
    simp [putOps, Act.put, e2, e3]
    go_wp2_with fail
    refine (cdiv_eq (BX.mul BY) BY HPOS HMD.out HMM.out _).mono ?_
    rintro e w2 ⟨rfl, h2⟩
    go_wp2
    exact ⟨rfl, rfl, h2, fun d hd => by cases hd; rfl⟩
  case o5 =>
    intro v w' hw hj
    have e4 : v 4 = .tuple #[.agg #[.int .u64 (lo (x) : Nat), .string (hi (x))], .agg #[.int .u64 (lo (0) : Nat), .string (hi (0))], .bool true] := hj 4 (by kernel_rfl)
    simp [putOps, Act.put, e4]
    go_wp2
    exact ⟨rfl, rfl, Ext.refl _, fun d hd => by cases hd; rfl⟩
  case o6 =>
    exact ⟨rfl, 38, 0, 5, rfl, (by kernel_rfl), (by kernel_rfl), fun u w h => ⟨_, h, _, rfl, fun _ _ => rfl⟩⟩
  case o7 =>
    exact ⟨rfl, 38, 1, 5, rfl, (by kernel_rfl), (by kernel_rfl), fun u w h => ⟨_, h, _, rfl, fun _ _ => rfl⟩⟩
  case o8 =>
    exact ⟨rfl, 38, 2, 5, rfl, (by kernel_rfl), (by kernel_rfl), fun u w h => ⟨_, h, _, rfl, fun _ _ => rfl⟩⟩
  case o9 =>
    intro v w' hw hj
    simp [putOps, Act.put]
    go_wp2
    exact ⟨rfl, rfl, (Ext.refl _).alloc _, fun d hd => by cases hd; exact Box1.new _ hw.size⟩
  case o10 =>
    intro v w' hw hj
    simp [putOps, Act.put]
    go_wp2
    exact ⟨rfl, rfl, (Ext.refl _).alloc _, fun d hd => by cases hd; exact Box1.new _ hw.size⟩
  case fin =>
    intro v w' hw hj hap
    have e9 : (Box1 W2.heap.size) (v 9) w' := hj 9 12 (by omega) rfl
    have e6 : v 6 = .agg #[.int .u64 (lo (x) : Nat), .string (hi (x))] := hj 6 44 (by omega) rfl
    have e10 : (Box1 W2.heap.size) (v 10) w' := hj 10 13 (by omega) rfl
    have e7 : v 7 = .agg #[.int .u64 (lo (0) : Nat), .string (hi (0))] := hj 7 45 (by omega) rfl
    have e8 : v 8 = .bool true := hj 8 46 (by omega) rfl
    simp [putOps, Act.put, e6, e7, e8]
    have hne := hap 9 10 (by simp) (by simp) (by omega)
    obtain ⟨g1, hg1, hv9, hb1⟩ := e9
    obtain ⟨g2, hg2, hv10, hb2⟩ := e10
    rw [hv9, hv10] at hne
    have hgg : g1 ≠ g2 := fun e => hne (by rw [e])
    simp only [hv9, hv10]
    obtain ⟨c0, c1, f0, f1⟩ := hb1.two
    have hb2' := (hb2.far (p := ⟨g1, 0, none⟩) (fun e => hgg e.symm) (.int .u64 (lo x : Nat))).far (p := ⟨g1, 1, none⟩) (fun e => hgg e.symm) (.string (hi x))
    obtain ⟨d0, d1, e0, e1⟩ := hb2'.two
    have hb1' := (((hb1.set 0 (.int .u64 (lo x : Nat))).set 1 (.string (hi x))).far (p := ⟨g2, 0, none⟩) hgg (.int .u64 (lo 0 : Nat))).far (p := ⟨g2, 1, none⟩) hgg (.string (hi 0))
    have hb2'' := (hb2'.set 0 (.int .u64 (lo 0 : Nat))).set 1 (.string (hi 0))
    have he : Ext W2 ((((w'.setCell ⟨g1, 0, none⟩ (.int .u64 (lo x : Nat))).setCell ⟨g1, 1, none⟩ (.string (hi x))).setCell ⟨g2, 0, none⟩ (.int .u64 (lo 0 : Nat))).setCell ⟨g2, 1, none⟩ (.string (hi 0))) := (((Below.setCell hw (p := ⟨g1, 0, none⟩) hg1 _).setCell (p := ⟨g1, 1, none⟩) hg1 _).setCell (p := ⟨g2, 0, none⟩) hg2 _).setCell (p := ⟨g2, 1, none⟩) hg2 _
    have HB1 := Lib.hid hb1'
    have HB2 := Lib.hid hb2''
    have HE := Lib.hid he
    have HGG := Lib.hid hgg
    clear hb1 hb2 hb1' hb2' hb2'' he hg1 hg2 hne hap hgg
    go_wp2
    have hbz := HB1.out
    have hbs := HB2.out
    have hbx' := hbx.ext HE.out
    have hby' := hby.ext HE.out
    have hbq' := hbq.ext HE.out
    have hbr' := hbr.ext HE.out
    have E4 := Lib.hid (E3.out.trans HE.out)
    simp only [List.set_cons_zero, List.set_cons_succ] at hbz hbs
    clear HB1 HB2 HE c0 c1 f0 f1 d0 d1 e0 e1 hw hj hbx hby hbq hbr
    generalize (((w'.setCell ⟨g1, 0, none⟩ (.int .u64 (lo x : Nat))).setCell ⟨g1, 1, none⟩ (.string (hi x))).setCell ⟨g2, 0, none⟩ (.int .u64 (lo 0 : Nat))).setCell ⟨g2, 1, none⟩ (.string (hi 0)) = W3 at *
    refine wp_region_all goesExt 31 [fun v _ => v = .bool true, fun v _ => v = .bool true, fun v _ => v = .agg #[.int .u64 (lo (q) : Nat), .string (hi (q))], fun v _ => v = .agg #[.int .u64 (lo (y) : Nat), .string (hi (y))], fun v _ => v = .agg #[.int .u64 (lo (q * y) : Nat), .string (hi (q * y))], fun v _ => v = .agg #[.int .u64 (lo (r) : Nat), .string (hi (r))], fun v _ => v = .agg #[.int .u64 (lo ((q * y) + r) : Nat), .string (hi ((q * y) + r))], fun v _ => v = .agg #[.int .u64 (lo (x) : Nat), .string (hi (x))], fun v _ => v = .int .i64 0, fun v _ => v = .bool true, fun v _ => v = .bool true, fun v _ => v = .bool true, fun v _ => v = .agg #[.int .u64 (lo (r) : Nat), .string (hi (r))], fun v _ => v = .agg #[.int .u64 (lo (y) : Nat), .string (hi (y))], fun v _ => v = .int .i64 (-1), fun v _ => v = .bool true, fun v _ => v = .bool true, fun v _ => v = .bool true, fun v _ => v = .bool true, fun v _ => v = .bool true, fun v _ => v = .bool true, fun v _ => v = .agg #[.int .u64 (lo (x) : Nat), .string (hi (x))], fun v _ => v = .agg #[.int .u64 (lo (x) : Nat), .string (hi (x))], fun v _ => v = .int .i64 0, fun v _ => v = .bool true, fun v _ => v = .bool true, fun v _ => v = .bool true, fun v _ => v = .agg #[.int .u64 (lo (0) : Nat), .string (hi (0))], fun v _ => v = .int .i64 0, fun v _ => v = .bool true, fun v _ => v = .bool true] (by kernel_rfl) (by kernel_rfl) ?hG ?hQ ⟨fun h => (by cases h), fun _ => ?o0, fun h => (by cases h), fun _ => ?o1, fun h => (by cases h), fun _ => ?o2, fun h => (by cases h), fun _ => ?o3, fun h => (by cases h), fun _ => ?o4, fun h => (by cases h), fun _ => ?o5, fun h => (by cases h), fun _ => ?o6, fun h => (by cases h), fun _ => ?o7, fun h => (by cases h), fun _ => ?o8, fun h => (by cases h), fun _ => ?o9, fun h => (by cases h), fun _ => ?o10, fun h => (by cases h), fun _ => ?o11, fun h => (by cases h), fun _ => ?o12, fun h => (by cases h), fun _ => ?o13, fun h => (by cases h), fun _ => ?o14, fun h => (by cases h), fun _ => ?o15, fun h => (by cases h), fun _ => ?o16, fun h => (by cases h), fun _ => ?o17, fun h => (by cases h), fun _ => ?o18, fun h => (by cases h), fun _ => ?o19, fun h => (by cases h), fun _ => ?o20, fun h => (by cases h), fun _ => ?o21, fun h => (by cases h), fun _ => ?o22, fun h => (by cases h), fun _ => ?o23, fun h => (by cases h), fun _ => ?o24, fun h => (by cases h), fun _ => ?o25, fun h => (by cases h), fun _ => ?o26, fun h => (by cases h), fun _ => ?o27, fun h => (by cases h), fun _ => ?o28, fun h => (by cases h), fun _ => ?o29, fun h => (by cases h), fun _ => ?o30, trivial⟩ ?fin
    case hG =>
      intro g hg
      simp only [List.mem_cons, List.not_mem_nil, or_false] at hg
      rcases hg with rfl | rfl | rfl | rfl | rfl | rfl | rfl | rfl | rfl | rfl | rfl | rfl | rfl | rfl | rfl | rfl | rfl | rfl | rfl | rfl | rfl | rfl | rfl | rfl | rfl | rfl | rfl | rfl | rfl | rfl | rfl
      all_goals first | exact fun _ _ _ _ h => h | exact fun _ _ _ e h => h.ext e
    case hQ => exact fun c a w d v h => by cases d <;> exact h
    case o0 =>
      intro v w' hw hj
      simp [putOps]
      go_wp2_with fail
      refine (HK.out _).mono ?_
      rintro e w2 ⟨rfl, h2⟩
      go_wp2
      exact ⟨rfl, rfl, h2, fun d hd => by cases hd; rfl⟩
    case o1 =>
      intro v w' hw hj
      have e0 : v 0 = .bool true := hj 0 (by kernel_rfl)
      simp [putOps, Act.put, e0]
      go_wp2
      exact ⟨rfl, rfl, Ext.refl _, fun d hd => by cases hd; rfl⟩
    case o2 =>
      intro v w' hw hj
      have e1 : v 1 = .bool true := hj 1 (by kernel_rfl)
      have c0 : w'.cell? ⟨w2.heap.size, 0, none⟩ = some (.int .u64 (lo (q) : Nat)) := (hbq'.ext hw).cell 0
      have c1 : w'.cell? ⟨w2.heap.size, 1, none⟩ = some (.string (hi (q))) := (hbq'.ext hw).cell 1
      simp [putOps, Act.put, e1]
      go_wp2
      exact ⟨rfl, rfl, Ext.refl _, fun d hd => by cases hd; rfl⟩
    case o3 =>
      intro v w' hw hj
      have e1 : v 1 = .bool true := hj 1 (by kernel_rfl)
      have c0 : w'.cell? ⟨(w1.heap.size + 1), 0, none⟩ = some (.int .u64 (lo (y) : Nat)) := (hby'.ext hw).cell 0
      have c1 : w'.cell? ⟨(w1.heap.size + 1), 1, none⟩ = some (.string (hi (y))) := (hby'.ext hw).cell 1
      simp [putOps, Act.put, e1]
      go_wp2
      exact ⟨rfl, rfl, Ext.refl _, fun d hd => by cases hd; rfl⟩
    case o4 =>
      intro v w' hw hj
      have e2 : v 2 = .agg #[.int .u64 (lo (q) : Nat), .string (hi (q))] := hj 2 (by kernel_rfl)
      have e3 : v 3 = .agg #[.int .u64 (lo (y) : Nat), .string (hi (y))] := hj 3 (by kernel_rfl)
      have e1 : v 1 = .bool true := hj 1 (by kernel_rfl)
      simp [putOps, Act.put, e2, e3, e1]
      go_wp2_with fail
      refine (cmul BQ BY _).mono ?_
      rintro e w2 ⟨rfl, h2⟩
      go_wp2
      exact ⟨rfl, rfl, h2, fun d hd => by cases hd; rfl⟩
    case o5 =>
      intro v w' hw hj
      have e1 : v 1 = .bool true := hj 1 (by kernel_rfl)
      have c0 : w'.cell? ⟨(w2.heap.size + 1), 0, none⟩ = some (.int .u64 (lo (r) : Nat)) := (hbr'.ext hw).cell 0
      have c1 : w'.cell? ⟨(w2.heap.size + 1), 1, none⟩ = some (.string (hi (r))) := (hbr'.ext hw).cell 1
      simp [putOps, Act.put, e1]
      go_wp2
      exact ⟨rfl, rfl, Ext.refl _, fun d hd => by cases hd; rfl⟩
    case o6 =>
      intro v w' hw hj
      have e4 : v 4 = .agg #[.int .u64 (lo (q * y) : Nat), .string (hi (q * y))] := hj 4 (by kernel_rfl)
      have e5 : v 5 = .agg #[.int .u64 (lo (r) : Nat), .string (hi (r))] := hj 5 (by kernel_rfl)
      have e1 : v 1 = .bool true := hj 1 (by kernel_rfl)
      simp [putOps, Act.put, e4, e5, e1]
      go_wp2_with fail
      refine (cadd (BQ.mul BY) BR _).mono ?_
      rintro e w2 ⟨rfl, h2⟩
      go_wp2
      exact ⟨rfl, rfl, h2, fun d hd => by cases hd; rfl⟩
    case o7 =>
      intro v w' hw hj
      have e1 : v 1 = .bool true := hj 1 (by kernel_rfl)
      have c0 : w'.cell? ⟨w1.heap.size, 0, none⟩ = some (.int .u64 (lo (x) : Nat)) := (hbx'.ext hw).cell 0
      have c1 : w'.cell? ⟨w1.heap.size, 1, none⟩ = some (.string (hi (x))) := (hbx'.ext hw).cell 1
      simp [putOps, Act.put, e1]
      go_wp2
      exact ⟨rfl, rfl, Ext.refl _, fun d hd => by cases hd; rfl⟩
    case o8 =>
      intro v w' hw hj
      have e6 : v 6 = .agg #[.int .u64 (lo ((q * y) + r) : Nat), .string (hi ((q * y) + r))] := hj 6 (by kernel_rfl)
      have e7 : v 7 = .agg #[.int .u64 (lo (x) : Nat), .string (hi (x))] := hj 7 (by kernel_rfl)
      have e1 : v 1 = .bool true := hj 1 (by kernel_rfl)
      simp [putOps, Act.put, e6, e7, e1]
      go_wp2_with fail
      refine (ccmp_eq ((BQ.mul BY).add BR) BX HQR.out _).mono ?_
      rintro e w2 ⟨rfl, h2⟩
      go_wp2
      exact ⟨rfl, rfl, h2, fun d hd => by cases hd; rfl⟩
    case o9 =>
      intro v w' hw hj
      have e8 : v 8 = .int .i64 0 := hj 8 (by kernel_rfl)
      have e1 : v 1 = .bool true := hj 1 (by kernel_rfl)
      simp [putOps, Act.put, e8, e1]
      go_wp2
      exact ⟨rfl, rfl, Ext.refl _, fun d hd => by cases hd; rfl⟩
    case o10 =>
      intro v w' hw hj
      have e1 : v 1 = .bool true := hj 1 (by kernel_rfl)
      have e9 : v 9 = .bool true := hj 9 (by kernel_rfl)
      simp [putOps, Act.put, e1, e9]
      go_wp2
      exact ⟨rfl, rfl, Ext.refl _, fun d hd => by cases hd; rfl⟩
    case o11 =>
      intro v w' hw hj
      have e10 : v 10 = .bool true := hj 10 (by kernel_rfl)
      simp [putOps, Act.put, e10]
      go_wp2
      exact ⟨rfl, rfl, Ext.refl _, fun d hd => by cases hd; rfl⟩
    case o12 =>
      intro v w' hw hj
      have e11 : v 11 = .bool true := hj 11 (by kernel_rfl)
      have c0 : w'.cell? ⟨(w2.heap.size + 1), 0, none⟩ = some (.int .u64 (lo (r) : Nat)) := (hbr'.ext hw).cell 0
      have c1 : w'.cell? ⟨(w2.heap.size + 1), 1, none⟩ = some (.string (hi (r))) := (hbr'.ext hw).cell 1
      simp [putOps, Act.put, e11]
      go_wp2
      exact ⟨rfl, rfl, Ext.refl _, fun d hd => by cases hd; rfl⟩
    case o13 =>
      intro v w' hw hj
      have e11 : v 11 = .bool true := hj 11 (by kernel_rfl)
      have c0 : w'.cell? ⟨(w1.heap.size + 1), 0, none⟩ = some (.int .u64 (lo (y) : Nat)) := (hby'.ext hw).cell 0
      have c1 : w'.cell? ⟨(w1.heap.size + 1), 1, none⟩ = some (.string (hi (y))) := (hby'.ext hw).cell 1
      simp [putOps, Act.put, e11]
      go_wp2
      exact ⟨rfl, rfl, Ext.refl _, fun d hd => by cases hd; rfl⟩
    case o14 =>
      intro v w' hw hj
      have e12 : v 12 = .agg #[.int .u64 (lo (r) : Nat), .string (hi (r))] := hj 12 (by kernel_rfl)
      have e13 : v 13 = .agg #[.int .u64 (lo (y) : Nat), .string (hi (y))] := hj 13 (by kernel_rfl)
      have e11 : v 11 = .bool true := hj 11 (by kernel_rfl)
      simp [putOps, Act.put, e12, e13, e11]
      go_wp2_with fail
      refine (ccmp_lt BR BY HLT.out _).mono ?_
      rintro e w2 ⟨rfl, h2⟩
      go_wp2
      exact ⟨rfl, rfl, h2, fun d hd => by cases hd; rfl⟩
    case o15 =>
      intro v w' hw hj
      have e14 : v 14 = .int .i64 (-1) := hj 14 (by kernel_rfl)
      have e11 : v 11 = .bool true := hj 11 (by kernel_rfl)
      simp [putOps, Act.put, e14, e11]
      go_wp2
      exact ⟨rfl, rfl, Ext.refl _, fun d hd => by cases hd; rfl⟩
    case o16 =>
      intro v w' hw hj
      have e11 : v 11 = .bool true := hj 11 (by kernel_rfl)
      have e15 : v 15 = .bool true := hj 15 (by kernel_rfl)
      simp [putOps, Act.put, e11, e15]
      go_wp2
      exact ⟨rfl, rfl, Ext.refl _, fun d hd => by cases hd; rfl⟩
    case o17 =>
      intro v w' hw hj
      have e16 : v 16 = .bool true := hj 16 (by kernel_rfl)
      simp [putOps, Act.put, e16]
      go_wp2
      exact ⟨rfl, rfl, Ext.refl _, fun d hd => by cases hd; rfl⟩
    case o18 =>
      intro v w' hw hj
      have e17 : v 17 = .bool true := hj 17 (by kernel_rfl)
      simp [putOps, Act.put, e17]
      go_wp2
      exact ⟨rfl, rfl, Ext.refl _, fun d hd => by cases hd; rfl⟩
    case o19 =>
      intro v w' hw hj
      have e17 : v 17 = .bool true := hj 17 (by kernel_rfl)
      have e18 : v 18 = .bool true := hj 18 (by kernel_rfl)
      simp [putOps, Act.put, e17, e18]
      go_wp2
      exact ⟨rfl, rfl, Ext.refl _, fun d hd => by cases hd; rfl⟩
    case o20 =>
      intro v w' hw hj
      have e19 : v 19 = .bool true := hj 19 (by kernel_rfl)
      simp [putOps, Act.put, e19]
      go_wp2
      exact ⟨rfl, rfl, Ext.refl _, fun d hd => by cases hd; rfl⟩
    case o21 =>
      intro v w' hw hj
      have e20 : v 20 = .bool true := hj 20 (by kernel_rfl)
      have c0 : w'.cell? ⟨g1, 0, none⟩ = some (.int .u64 (lo (x) : Nat)) := (hbz.ext hw).cell 0
      have c1 : w'.cell? ⟨g1, 1, none⟩ = some (.string (hi (x))) := (hbz.ext hw).cell 1
      simp [putOps, Act.put, e20]
      go_wp2
      exact ⟨rfl, rfl, Ext.refl _, fun d hd => by cases hd; rfl⟩
    case o22 =>
      intro v w' hw hj
      have e20 : v 20 = .bool true := hj 20 (by kernel_rfl)
      have c0 : w'.cell? ⟨w1.heap.size, 0, none⟩ = some (.int .u64 (lo (x) : Nat)) := (hbx'.ext hw).cell 0
      have c1 : w'.cell? ⟨w1.heap.size, 1, none⟩ = some (.string (hi (x))) := (hbx'.ext hw).cell 1
      simp [putOps, Act.put, e20]
      go_wp2
      exact ⟨rfl, rfl, Ext.refl _, fun d hd => by cases hd; rfl⟩
    case o23 =>
      intro v w' hw hj
      have e21 : v 21 = .agg #[.int .u64 (lo (x) : Nat), .string (hi (x))] := hj 21 (by kernel_rfl)
      have e22 : v 22 = .agg #[.int .u64 (lo (x) : Nat), .string (hi (x))] := hj 22 (by kernel_rfl)
      have e20 : v 20 = .bool true := hj 20 (by kernel_rfl)
      simp [putOps, Act.put, e21, e22, e20]
      go_wp2_with fail
      refine (ccmp_eq BX BX rfl _).mono ?_
      rintro e w2 ⟨rfl, h2⟩
      go_wp2
      exact ⟨rfl, rfl, h2, fun d hd => by cases hd; rfl⟩
    case o24 =>
      intro v w' hw hj
      have e23 : v 23 = .int .i64 0 := hj 23 (by kernel_rfl)
      have e20 : v 20 = .bool true := hj 20 (by kernel_rfl)
      simp [putOps, Act.put, e23, e20]
      go_wp2
      exact ⟨rfl, rfl, Ext.refl _, fun d hd => by cases hd; rfl⟩
    case o25 =>
      intro v w' hw hj
      have e20 : v 20 = .bool true := hj 20 (by kernel_rfl)
      have e24 : v 24 = .bool true := hj 24 (by kernel_rfl)
      simp [putOps, Act.put, e20, e24]
      go_wp2
      exact ⟨rfl, rfl, Ext.refl _, fun d hd => by cases hd; rfl⟩
    case o26 =>
      intro v w' hw hj
      have e25 : v 25 = .bool true := hj 25 (by kernel_rfl)
      simp [putOps, Act.put, e25]
      go_wp2
      exact ⟨rfl, rfl, Ext.refl _, fun d hd => by cases hd; rfl⟩
    case o27 =>
      intro v w' hw hj
      have e26 : v 26 = .bool true := hj 26 (by kernel_rfl)
      have c0 : w'.cell? ⟨g2, 0, none⟩ = some (.int .u64 (lo (0) : Nat)) := (hbs.ext hw).cell 0
      have c1 : w'.cell? ⟨g2, 1, none⟩ = some (.string (hi (0))) := (hbs.ext hw).cell 1
      simp [putOps, Act.put, e26]
      go_wp2
      exact ⟨rfl, rfl, Ext.refl _, fun d hd => by cases hd; rfl⟩
    case o28 =>
      intro v w' hw hj
      have e27 : v 27 = .agg #[.int .u64 (lo (0) : Nat), .string (hi (0))] := hj 27 (by kernel_rfl)
      have e26 : v 26 = .bool true := hj 26 (by kernel_rfl)
      simp [putOps, Act.put, e27, e26]
      go_wp2_with fail
      refine (HB0.out _).mono ?_
      rintro e w2 ⟨rfl, h2⟩
      go_wp2
      exact ⟨rfl, rfl, h2, fun d hd => by cases hd; rfl⟩
    case o29 =>
      intro v w' hw hj
      have e28 : v 28 = .int .i64 0 := hj 28 (by kernel_rfl)
      have e26 : v 26 = .bool true := hj 26 (by kernel_rfl)
      simp [putOps, Act.put, e28, e26]
      go_wp2
      exact ⟨rfl, rfl, Ext.refl _, fun d hd => by cases hd; rfl⟩
    case o30 =>
      intro v w' hw hj
      have e26 : v 26 = .bool true := hj 26 (by kernel_rfl)
      have e29 : v 29 = .bool true := hj 29 (by kernel_rfl)
      simp [putOps, Act.put, e26, e29]
      go_wp2
      exact ⟨rfl, rfl, Ext.refl _, fun d hd => by cases hd; rfl⟩
    case fin =>
      intro v w' hw hj
      have e30 : v 30 = .bool true := hj 30 77 (by omega) rfl
      simp [putOps, Act.put, e30]
      go_wp2
      go_ret
      exact ⟨rfl, E4.out.trans hw⟩

theorem natBack_any (l0 : List UInt8) (v0 : Value) (l1 : List UInt8) (v1 : Value) (w : World) (s0 : SlB l0 v0 w) (s1 : SlB l1 v1 w) :
    Calls Tryd.prog 6 #[v0, v1] w (Ret (.bool true) w) := by
  by_cases h : beN (l1.take 48) = 0
  · exact natBack_zero l0 v0 l1 v1 w s0 s1 h
  · exact natBack_pos l0 v0 l1 v1 w s0 s1 h
end Go.Proofs.YtcfpjgcellahnaaDoor
