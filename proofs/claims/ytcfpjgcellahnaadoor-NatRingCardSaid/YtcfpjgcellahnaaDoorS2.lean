/- The law NatRing: its walk. -/
import Derived.Test.YtcfpjgcellahnaaDoorCalls
namespace Go.Proofs.YtcfpjgcellahnaaDoor
open Go.RowKit

set_option maxRecDepth 100000 in
set_option maxHeartbeats 4000000 in
theorem natRing_any (l0 : List UInt8) (v0 : Value) (l1 : List UInt8) (v1 : Value) (l2 : List UInt8) (v2 : Value) (w : World) (s0 : SlB l0 v0 w) (s1 : SlB l1 v1 w) (s2 : SlB l2 v2 w) :
    Calls Tryd.prog 8 #[v0, v1, v2] w (Ret (.bool true) w) := by
  have HT1 : Hid (∀ W, SlB l0 v0 W → SlB l1 v1 W → Calls Tryd.prog 24 #[v0, v1] W (TwoPost (beN (l0.take 48)) (beN (l1.take 48)) W)) := Lib.hid (fun W h k => two_any l0 l1 v0 v1 W h k)
  have HT2 : Hid (∀ W, SlB l2 v2 W → Calls Tryd.prog 24 #[v2, .slice none 0 0] W (TwoPost (beN (l2.take 48)) 0 W)) := Lib.hid (fun W h => two_any l2 [] v2 _ W h (SlB.nil W))
  have HS0 := Lib.hid s0
  have HS1 := Lib.hid s1
  have HS2 := Lib.hid s2
  have BX := Sm.take l0
  have BY := Sm.take l1
  have BZ := Sm.take l2
  have HK := Lib.hid known_any
  clear s0 s1 s2
  generalize beN (l0.take 48) = x at *
  generalize beN (l1.take 48) = y at *
  generalize beN (l2.take 48) = z at *
  go_enter Tryd.func8, Tryd.ntmps8
  go_wp2_with fail
  refine (HT1.out _ HS0.out HS1.out).mono ?_
  rintro e w1 ⟨p1, q1, rfl, hp1, hq1, hx1⟩
  have E1 := Lib.hid hx1
  clear hx1 hp1 hq1
  go_wp2_with fail
  refine (HT2.out _ (HS2.out.ext ((E1.out.alloc _).alloc _))).mono ?_
  rintro e w2 ⟨p2, q2, rfl, hp2, hq2, hx2⟩
  have hbx : Blk w2 w1.heap.size 24 [.int .u64 (lo x : Nat), .string (hi x)] := ((Blk.new w1 _ _).alloc _).ext hx2
  have hby : Blk w2 (w1.heap.size + 1) 24 [.int .u64 (lo y : Nat), .string (hi y)] := by
    have h := Blk.new (w1.alloc (.cells #[.int .u64 (lo x : Nat), .string (hi x)] 24)) 24 [.int .u64 (lo y : Nat), .string (hi y)]
    rw [World.size_alloc] at h
    exact h.ext hx2
  have E2 := Lib.hid (((E1.out.alloc _).alloc _).trans hx2)
  have HBX := Lib.hid hbx
  have HBY := Lib.hid hby
  clear hx2 hp2 hq2 hbx hby
  go_wp2_with fail
  generalize hW : (w2.alloc (.cells #[.int .u64 (lo z : Nat), .string (hi z)] 24)).alloc (.cells #[.int .u64 (lo 0 : Nat), .string (hi 0)] 24) = W2
  have hbz : Blk W2 w2.heap.size 24 [.int .u64 (lo z : Nat), .string (hi z)] := by rw [← hW]; exact (Blk.new w2 _ _).alloc _
  have hEx : Ext w2 W2 := by rw [← hW]; exact ((Ext.refl w2).alloc _).alloc _
  have hbx := HBX.out.ext hEx
  have hby := HBY.out.ext hEx
  have E3 := Lib.hid (E2.out.trans hEx)
  clear HBX HBY hEx hW E1 E2
  refine wp_region_all goesExt 9 [fun v _ => v = .agg #[.int .u64 (lo (x) : Nat), .string (hi (x))], fun v _ => v = .agg #[.int .u64 (lo (y) : Nat), .string (hi (y))], fun v _ => v = .agg #[.int .u64 (lo (x + y) : Nat), .string (hi (x + y))], fun v _ => v = .agg #[.int .u64 (lo (y) : Nat), .string (hi (y))], fun v _ => v = .tuple #[.agg #[.int .u64 (lo (x) : Nat), .string (hi (x))], .bool true], fun v _ => v = .tuple #[.agg #[.int .u64 (lo (x) : Nat), .string (hi (x))], .bool true], fun v _ => v = .agg #[.int .u64 (lo (x) : Nat), .string (hi (x))], fun v _ => v = .bool true, Box1 W2.heap.size] (by kernel_rfl) (by kernel_rfl) ?hG ?hQ ⟨fun h => (by cases h), fun _ => ?o0, fun h => (by cases h), fun _ => ?o1, fun h => (by cases h), fun _ => ?o2, fun h => (by cases h), fun _ => ?o3, fun h => (by cases h), fun _ => ?o4, fun h => (by cases h), fun _ => ?o5, fun _ => ?o6, fun h => (by cases h), fun _ => ?o7, fun h => (by cases h), fun h => (by cases h), fun _ => ?o8, trivial⟩ ?fin
  case hG =>
    intro g hg
    simp only [List.mem_cons, List.not_mem_nil, or_false] at hg
    rcases hg with rfl | rfl | rfl | rfl | rfl | rfl | rfl | rfl | rfl
    all_goals first | exact fun _ _ _ _ h => h | exact fun _ _ _ e h => h.ext e
  case hQ => exact fun c a w d v h => by cases d <;> exact h
  case o0 =>
    intro v w' hw hj
    have c0 : w'.cell? ⟨w1.heap.size, 0, none⟩ = some (.int .u64 (lo (x) : Nat)) := (hbx.ext hw).cell 0
    have c1 : w'.cell? ⟨w1.heap.size, 1, none⟩ = some (.string (hi (x))) := (hbx.ext hw).cell 1
    simp [putOps]
    go_wp2
    exact ⟨rfl, rfl, Ext.refl _, fun d hd => by cases hd; rfl⟩
  case o1 =>
    intro v w' hw hj
    have c0 : w'.cell? ⟨(w1.heap.size + 1), 0, none⟩ = some (.int .u64 (lo (y) : Nat)) := (hby.ext hw).cell 0
    have c1 : w'.cell? ⟨(w1.heap.size + 1), 1, none⟩ = some (.string (hi (y))) := (hby.ext hw).cell 1
    simp [putOps, Act.put]
    go_wp2
    exact ⟨rfl, rfl, Ext.refl _, fun d hd => by cases hd; rfl⟩
  case o2 =>
    intro v w' hw hj
    have e0 : v 0 = .agg #[.int .u64 (lo (x) : Nat), .string (hi (x))] := hj 0 (by kernel_rfl)
    have e1 : v 1 = .agg #[.int .u64 (lo (y) : Nat), .string (hi (y))] := hj 1 (by kernel_rfl)
    simp [putOps, Act.put, e0, e1]
    go_wp2_with fail
    refine (cadd BX BY _).mono ?_
    rintro e w2 ⟨rfl, h2⟩
    go_wp2
    exact ⟨rfl, rfl, h2, fun d hd => by cases hd; rfl⟩
  case o3 =>
    intro v w' hw hj
    have c0 : w'.cell? ⟨(w1.heap.size + 1), 0, none⟩ = some (.int .u64 (lo (y) : Nat)) := (hby.ext hw).cell 0
    have c1 : w'.cell? ⟨(w1.heap.size + 1), 1, none⟩ = some (.string (hi (y))) := (hby.ext hw).cell 1
    simp [putOps, Act.put]
    go_wp2
    exact ⟨rfl, rfl, Ext.refl _, fun d hd => by cases hd; rfl⟩
  case o4 =>
    intro v w' hw hj
    have e2 : v 2 = .agg #[.int .u64 (lo (x + y) : Nat), .string (hi (x + y))] := hj 2 (by kernel_rfl)
    have e3 : v 3 = .agg #[.int .u64 (lo (y) : Nat), .string (hi (y))] := hj 3 (by kernel_rfl)
    simp [putOps, Act.put, e2, e3]
    go_wp2_with fail
    refine (csub_eq (BX.add BY) BY (Nat.add_comm y x) _).mono ?_
    rintro e w2 ⟨rfl, h2⟩
    go_wp2
    exact ⟨rfl, rfl, h2, fun d hd => by cases hd; rfl⟩
  case o5 =>
    intro v w' hw hj
    have e4 : v 4 = .tuple #[.agg #[.int .u64 (lo (x) : Nat), .string (hi (x))], .bool true] := hj 4 (by kernel_rfl)
    simp [putOps, Act.put, e4]
    go_wp2
    exact ⟨rfl, rfl, Ext.refl _, fun d hd => by cases hd; rfl⟩
  case o6 =>
    exact ⟨rfl, 32, 0, 5, rfl, (by kernel_rfl), (by kernel_rfl), fun u w h => ⟨_, h, _, rfl, fun _ _ => rfl⟩⟩
  case o7 =>
    exact ⟨rfl, 32, 1, 5, rfl, (by kernel_rfl), (by kernel_rfl), fun u w h => ⟨_, h, _, rfl, fun _ _ => rfl⟩⟩
  case o8 =>
    intro v w' hw hj
    simp [putOps, Act.put]
    go_wp2
    exact ⟨rfl, rfl, (Ext.refl _).alloc _, fun d hd => by cases hd; exact Box1.new _ hw.size⟩
  case fin =>
    intro v w' hw hj
    have e8 : (Box1 W2.heap.size) (v 8) w' := hj 8 15 (by omega) rfl
    have e6 : v 6 = .agg #[.int .u64 (lo (x) : Nat), .string (hi (x))] := hj 6 38 (by omega) rfl
    have e7 : v 7 = .bool true := hj 7 39 (by omega) rfl
    simp [putOps, Act.put, e6, e7]
    obtain ⟨g, hg, hv8, hbd⟩ := e8
    simp only [hv8]
    have c0 : w'.cell? ⟨g, 0, none⟩ = some (.int .u64 0) := hbd.cell 0
    have c1 : w'.cell? ⟨g, 1, none⟩ = some (.string ⟨#[]⟩) := hbd.cell 1
    have f0 : w'.frozen? ⟨g, 0, none⟩ = false := hbd.frozen 0
    have f1 : w'.frozen? ⟨g, 1, none⟩ = false := hbd.frozen 1
    have hbd' := (hbd.set 0 (.int .u64 (lo x : Nat))).set 1 (.string (hi x))
    have he : Ext W2 ((w'.setCell ⟨g, 0, none⟩ (.int .u64 (lo x : Nat))).setCell ⟨g, 1, none⟩ (.string (hi x))) := (Below.setCell hw (p := ⟨g, 0, none⟩) hg _).setCell (p := ⟨g, 1, none⟩) hg _
    have HBD := Lib.hid hbd'
    have HE := Lib.hid he
    have HG := Lib.hid hg
    clear hbd hbd' he hg
    go_wp2_with fail
    have hbd := HBD.out
    have hbx' := hbx.ext HE.out
    have hby' := hby.ext HE.out
    have hbz' := hbz.ext HE.out
    have E4 := Lib.hid (E3.out.trans HE.out)
    simp only [List.set_cons_zero, List.set_cons_succ] at hbd
    clear HBD HE c0 c1 f0 f1 hw hj hbx hby hbz
    generalize (w'.setCell ⟨g, 0, none⟩ (.int .u64 (lo x : Nat))).setCell ⟨g, 1, none⟩ (.string (hi x)) = W3 at *
    refine wp_region_all goesExt 74 [fun v _ => v = .bool true, fun v _ => v = .bool true, fun v _ => v = .agg #[.int .u64 (lo (x) : Nat), .string (hi (x))], fun v _ => v = .agg #[.int .u64 (lo (y) : Nat), .string (hi (y))], fun v _ => v = .agg #[.int .u64 (lo (x + y) : Nat), .string (hi (x + y))], fun v _ => v = .agg #[.int .u64 (lo (y) : Nat), .string (hi (y))], fun v _ => v = .agg #[.int .u64 (lo (x) : Nat), .string (hi (x))], fun v _ => v = .agg #[.int .u64 (lo (y + x) : Nat), .string (hi (y + x))], fun v _ => v = .int .i64 0, fun v _ => v = .bool true, fun v _ => v = .bool true, fun v _ => v = .bool true, fun v _ => v = .agg #[.int .u64 (lo (x) : Nat), .string (hi (x))], fun v _ => v = .agg #[.int .u64 (lo (y) : Nat), .string (hi (y))], fun v _ => v = .agg #[.int .u64 (lo (x * y) : Nat), .string (hi (x * y))], fun v _ => v = .agg #[.int .u64 (lo (y) : Nat), .string (hi (y))], fun v _ => v = .agg #[.int .u64 (lo (x) : Nat), .string (hi (x))], fun v _ => v = .agg #[.int .u64 (lo (y * x) : Nat), .string (hi (y * x))], fun v _ => v = .int .i64 0, fun v _ => v = .bool true, fun v _ => v = .bool true, fun v _ => v = .bool true, fun v _ => v = .agg #[.int .u64 (lo (x) : Nat), .string (hi (x))], fun v _ => v = .agg #[.int .u64 (lo (y) : Nat), .string (hi (y))], fun v _ => v = .agg #[.int .u64 (lo (x + y) : Nat), .string (hi (x + y))], fun v _ => v = .agg #[.int .u64 (lo (z) : Nat), .string (hi (z))], fun v _ => v = .agg #[.int .u64 (lo ((x + y) + z) : Nat), .string (hi ((x + y) + z))], fun v _ => v = .agg #[.int .u64 (lo (x) : Nat), .string (hi (x))], fun v _ => v = .agg #[.int .u64 (lo (y) : Nat), .string (hi (y))], fun v _ => v = .agg #[.int .u64 (lo (z) : Nat), .string (hi (z))], fun v _ => v = .agg #[.int .u64 (lo (y + z) : Nat), .string (hi (y + z))], fun v _ => v = .agg #[.int .u64 (lo (x + (y + z)) : Nat), .string (hi (x + (y + z)))], fun v _ => v = .int .i64 0, fun v _ => v = .bool true, fun v _ => v = .bool true, fun v _ => v = .bool true, fun v _ => v = .agg #[.int .u64 (lo (x) : Nat), .string (hi (x))], fun v _ => v = .agg #[.int .u64 (lo (y) : Nat), .string (hi (y))], fun v _ => v = .agg #[.int .u64 (lo (x * y) : Nat), .string (hi (x * y))], fun v _ => v = .agg #[.int .u64 (lo (z) : Nat), .string (hi (z))], fun v _ => v = .agg #[.int .u64 (lo ((x * y) * z) : Nat), .string (hi ((x * y) * z))], fun v _ => v = .agg #[.int .u64 (lo (x) : Nat), .string (hi (x))], fun v _ => v = .agg #[.int .u64 (lo (y) : Nat), .string (hi (y))], fun v _ => v = .agg #[.int .u64 (lo (z) : Nat), .string (hi (z))], fun v _ => v = .agg #[.int .u64 (lo (y * z) : Nat), .string (hi (y * z))], fun v _ => v = .agg #[.int .u64 (lo (x * (y * z)) : Nat), .string (hi (x * (y * z)))], fun v _ => v = .int .i64 0, fun v _ => v = .bool true, fun v _ => v = .bool true, fun v _ => v = .bool true, fun v _ => v = .agg #[.int .u64 (lo (x) : Nat), .string (hi (x))], fun v _ => v = .agg #[.int .u64 (lo (y) : Nat), .string (hi (y))], fun v _ => v = .agg #[.int .u64 (lo (z) : Nat), .string (hi (z))], fun v _ => v = .agg #[.int .u64 (lo (y + z) : Nat), .string (hi (y + z))], fun v _ => v = .agg #[.int .u64 (lo (x * (y + z)) : Nat), .string (hi (x * (y + z)))], fun v _ => v = .agg #[.int .u64 (lo (x) : Nat), .string (hi (x))], fun v _ => v = .agg #[.int .u64 (lo (y) : Nat), .string (hi (y))], fun v _ => v = .agg #[.int .u64 (lo (x * y) : Nat), .string (hi (x * y))], fun v _ => v = .agg #[.int .u64 (lo (x) : Nat), .string (hi (x))], fun v _ => v = .agg #[.int .u64 (lo (z) : Nat), .string (hi (z))], fun v _ => v = .agg #[.int .u64 (lo (x * z) : Nat), .string (hi (x * z))], fun v _ => v = .agg #[.int .u64 (lo ((x * y) + (x * z)) : Nat), .string (hi ((x * y) + (x * z)))], fun v _ => v = .int .i64 0, fun v _ => v = .bool true, fun v _ => v = .bool true, fun v _ => v = .bool true, fun v _ => v = .bool true, fun v _ => v = .bool true, fun v _ => v = .bool true, fun v _ => v = .agg #[.int .u64 (lo (x) : Nat), .string (hi (x))], fun v _ => v = .agg #[.int .u64 (lo (x) : Nat), .string (hi (x))], fun v _ => v = .int .i64 0, fun v _ => v = .bool true, fun v _ => v = .bool true] (by kernel_rfl) (by kernel_rfl) ?hG ?hQ ⟨fun h => (by cases h), fun _ => ?o0, fun h => (by cases h), fun _ => ?o1, fun h => (by cases h), fun _ => ?o2, fun h => (by cases h), fun _ => ?o3, fun h => (by cases h), fun _ => ?o4, fun h => (by cases h), fun _ => ?o5, fun h => (by cases h), fun _ => ?o6, fun h => (by cases h), fun _ => ?o7, fun h => (by cases h), fun _ => ?o8, fun h => (by cases h), fun _ => ?o9, fun h => (by cases h), fun _ => ?o10, fun h => (by cases h), fun _ => ?o11, fun h => (by cases h), fun _ => ?o12, fun h => (by cases h), fun _ => ?o13, fun h => (by cases h), fun _ => ?o14, fun h => (by cases h), fun _ => ?o15, fun h => (by cases h), fun _ => ?o16, fun h => (by cases h), fun _ => ?o17, fun h => (by cases h), fun _ => ?o18, fun h => (by cases h), fun _ => ?o19, fun h => (by cases h), fun _ => ?o20, fun h => (by cases h), fun _ => ?o21, fun h => (by cases h), fun _ => ?o22, fun h => (by cases h), fun _ => ?o23, fun h => (by cases h), fun _ => ?o24, fun h => (by cases h), fun _ => ?o25, fun h => (by cases h), fun _ => ?o26, fun h => (by cases h), fun _ => ?o27, fun h => (by cases h), fun _ => ?o28, fun h => (by cases h), fun _ => ?o29, fun h => (by cases h), fun _ => ?o30, fun h => (by cases h), fun _ => ?o31, fun h => (by cases h), fun _ => ?o32, fun h => (by cases h), fun _ => ?o33, fun h => (by cases h), fun _ => ?o34, fun h => (by cases h), fun _ => ?o35, fun h => (by cases h), fun _ => ?o36, fun h => (by cases h), fun _ => ?o37, fun h => (by cases h), fun _ => ?o38, fun h => (by cases h), fun _ => ?o39, fun h => (by cases h), fun _ => ?o40, fun h => (by cases h), fun _ => ?o41, fun h => (by cases h), fun _ => ?o42, fun h => (by cases h), fun _ => ?o43, fun h => (by cases h), fun _ => ?o44, fun h => (by cases h), fun _ => ?o45, fun h => (by cases h), fun _ => ?o46, fun h => (by cases h), fun _ => ?o47, fun h => (by cases h), fun _ => ?o48, fun h => (by cases h), fun _ => ?o49, fun h => (by cases h), fun _ => ?o50, fun h => (by cases h), fun _ => ?o51, fun h => (by cases h), fun _ => ?o52, fun h => (by cases h), fun _ => ?o53, fun h => (by cases h), fun _ => ?o54, fun h => (by cases h), fun _ => ?o55, fun h => (by cases h), fun _ => ?o56, fun h => (by cases h), fun _ => ?o57, fun h => (by cases h), fun _ => ?o58, fun h => (by cases h), fun _ => ?o59, fun h => (by cases h), fun _ => ?o60, fun h => (by cases h), fun _ => ?o61, fun h => (by cases h), fun _ => ?o62, fun h => (by cases h), fun _ => ?o63, fun h => (by cases h), fun _ => ?o64, fun h => (by cases h), fun _ => ?o65, fun h => (by cases h), fun _ => ?o66, fun h => (by cases h), fun _ => ?o67, fun h => (by cases h), fun _ => ?o68, fun h => (by cases h), fun _ => ?o69, fun h => (by cases h), fun _ => ?o70, fun h => (by cases h), fun _ => ?o71, fun h => (by cases h), fun _ => ?o72, fun h => (by cases h), fun _ => ?o73, trivial⟩ ?fin
    case hG =>
      intro g hg
      simp only [List.mem_cons, List.not_mem_nil, or_false] at hg
      rcases hg with rfl | rfl | rfl | rfl | rfl | rfl | rfl | rfl | rfl | rfl | rfl | rfl | rfl | rfl | rfl | rfl | rfl | rfl | rfl | rfl | rfl | rfl | rfl | rfl | rfl | rfl | rfl | rfl | rfl | rfl | rfl | rfl | rfl | rfl | rfl | rfl | rfl | rfl | rfl | rfl | rfl | rfl | rfl | rfl | rfl | rfl | rfl | rfl | rfl | rfl | rfl | rfl | rfl | rfl | rfl | rfl | rfl | rfl | rfl | rfl | rfl | rfl | rfl | rfl | rfl | rfl | rfl | rfl | rfl | rfl | rfl | rfl | rfl | rfl
      all_goals first | exact fun _ _ _ _ h => h | exact fun _ _ _ e h => h.ext e
    case hQ => exact fun c a w d v h => by cases d <;> exact h
    case o0 =>
      intro v w' hw hj
      simp [putOps]
      go_wp2_with fail
      refine (HK.out _).mono ?_
      rintro e w2 ⟨rfl, h2⟩
      go_wp2
      exact ⟨rfl, rfl, h2, fun d hd => by cases hd; rfl⟩
    case o1 =>
      intro v w' hw hj
      have e0 : v 0 = .bool true := hj 0 (by kernel_rfl)
      simp [putOps, Act.put, e0]
      go_wp2
      exact ⟨rfl, rfl, Ext.refl _, fun d hd => by cases hd; rfl⟩
    case o2 =>
      intro v w' hw hj
      have e1 : v 1 = .bool true := hj 1 (by kernel_rfl)
      have c0 : w'.cell? ⟨w1.heap.size, 0, none⟩ = some (.int .u64 (lo (x) : Nat)) := (hbx'.ext hw).cell 0
      have c1 : w'.cell? ⟨w1.heap.size, 1, none⟩ = some (.string (hi (x))) := (hbx'.ext hw).cell 1
      simp [putOps, Act.put, e1]
      go_wp2
      exact ⟨rfl, rfl, Ext.refl _, fun d hd => by cases hd; rfl⟩
    case o3 =>
      intro v w' hw hj
      have e1 : v 1 = .bool true := hj 1 (by kernel_rfl)
      have c0 : w'.cell? ⟨(w1.heap.size + 1), 0, none⟩ = some (.int .u64 (lo (y) : Nat)) := (hby'.ext hw).cell 0
      have c1 : w'.cell? ⟨(w1.heap.size + 1), 1, none⟩ = some (.string (hi (y))) := (hby'.ext hw).cell 1
      simp [putOps, Act.put, e1]
      go_wp2
      exact ⟨rfl, rfl, Ext.refl _, fun d hd => by cases hd; rfl⟩
    case o4 =>
      intro v w' hw hj
      have e2 : v 2 = .agg #[.int .u64 (lo (x) : Nat), .string (hi (x))] := hj 2 (by kernel_rfl)
      have e3 : v 3 = .agg #[.int .u64 (lo (y) : Nat), .string (hi (y))] := hj 3 (by kernel_rfl)
      have e1 : v 1 = .bool true := hj 1 (by kernel_rfl)
      simp [putOps, Act.put, e2, e3, e1]
      go_wp2_with fail
      refine (cadd BX BY _).mono ?_
      rintro e w2 ⟨rfl, h2⟩
      go_wp2
      exact ⟨rfl, rfl, h2, fun d hd => by cases hd; rfl⟩
    case o5 =>
      intro v w' hw hj
      have e1 : v 1 = .bool true := hj 1 (by kernel_rfl)
      have c0 : w'.cell? ⟨(w1.heap.size + 1), 0, none⟩ = some (.int .u64 (lo (y) : Nat)) := (hby'.ext hw).cell 0
      have c1 : w'.cell? ⟨(w1.heap.size + 1), 1, none⟩ = some (.string (hi (y))) := (hby'.ext hw).cell 1
      simp [putOps, Act.put, e1]
      go_wp2
      exact ⟨rfl, rfl, Ext.refl _, fun d hd => by cases hd; rfl⟩
    case o6 =>
      intro v w' hw hj
      have e1 : v 1 = .bool true := hj 1 (by kernel_rfl)
      have c0 : w'.cell? ⟨w1.heap.size, 0, none⟩ = some (.int .u64 (lo (x) : Nat)) := (hbx'.ext hw).cell 0
      have c1 : w'.cell? ⟨w1.heap.size, 1, none⟩ = some (.string (hi (x))) := (hbx'.ext hw).cell 1
      simp [putOps, Act.put, e1]
      go_wp2
      exact ⟨rfl, rfl, Ext.refl _, fun d hd => by cases hd; rfl⟩
    case o7 =>
      intro v w' hw hj
      have e5 : v 5 = .agg #[.int .u64 (lo (y) : Nat), .string (hi (y))] := hj 5 (by kernel_rfl)
      have e6 : v 6 = .agg #[.int .u64 (lo (x) : Nat), .string (hi (x))] := hj 6 (by kernel_rfl)
      have e1 : v 1 = .bool true := hj 1 (by kernel_rfl)
      simp [putOps, Act.put, e5, e6, e1]
      go_wp2_with fail
      refine (cadd BY BX _).mono ?_
      rintro e w2 ⟨rfl, h2⟩
      go_wp2
      exact ⟨rfl, rfl, h2, fun d hd => by cases hd; rfl⟩
    case o8 =>
      intro v w' hw hj
      have e4 : v 4 = .agg #[.int .u64 (lo (x + y) : Nat), .string (hi (x + y))] := hj 4 (by kernel_rfl)
      have e7 : v 7 = .agg #[.int .u64 (lo (y + x) : Nat), .string (hi (y + x))] := hj 7 (by kernel_rfl)
      have e1 : v 1 = .bool true := hj 1 (by kernel_rfl)
      simp [putOps, Act.put, e4, e7, e1]
      go_wp2_with fail
      refine (ccmp_eq (BX.add BY) (BY.add BX) (by grind) _).mono ?_
      rintro e w2 ⟨rfl, h2⟩
      go_wp2
      exact ⟨rfl, rfl, h2, fun d hd => by cases hd; rfl⟩
    case o9 =>
      intro v w' hw hj
      have e8 : v 8 = .int .i64 0 := hj 8 (by kernel_rfl)
      have e1 : v 1 = .bool true := hj 1 (by kernel_rfl)
      simp [putOps, Act.put, e8, e1]
      go_wp2
      exact ⟨rfl, rfl, Ext.refl _, fun d hd => by cases hd; rfl⟩
    case o10 =>
      intro v w' hw hj
      have e1 : v 1 = .bool true := hj 1 (by kernel_rfl)
      have e9 : v 9 = .bool true := hj 9 (by kernel_rfl)
      simp [putOps, Act.put, e1, e9]
      go_wp2
      exact ⟨rfl, rfl, Ext.refl _, fun d hd => by cases hd; rfl⟩
    case o11 =>
      intro v w' hw hj
      have e10 : v 10 = .bool true := hj 10 (by kernel_rfl)
      simp [putOps, Act.put, e10]
      go_wp2
      exact ⟨rfl, rfl, Ext.refl _, fun d hd => by cases hd; rfl⟩
    case o12 =>
      intro v w' hw hj
      have e11 : v 11 = .bool true := hj 11 (by kernel_rfl)
      have c0 : w'.cell? ⟨w1.heap.size, 0, none⟩ = some (.int .u64 (lo (x) : Nat)) := (hbx'.ext hw).cell 0
      have c1 : w'.cell? ⟨w1.heap.size, 1, none⟩ = some (.string (hi (x))) := (hbx'.ext hw).cell 1
      simp [putOps, Act.put, e11]
      go_wp2
      exact ⟨rfl, rfl, Ext.refl _, fun d hd => by cases hd; rfl⟩
    case o13 =>
      intro v w' hw hj
      have e11 : v 11 = .bool true := hj 11 (by kernel_rfl)
      have c0 : w'.cell? ⟨(w1.heap.size + 1), 0, none⟩ = some (.int .u64 (lo (y) : Nat)) := (hby'.ext hw).cell 0
      have c1 : w'.cell? ⟨(w1.heap.size + 1), 1, none⟩ = some (.string (hi (y))) := (hby'.ext hw).cell 1
      simp [putOps, Act.put, e11]
      go_wp2
      exact ⟨rfl, rfl, Ext.refl _, fun d hd => by cases hd; rfl⟩
    case o14 =>
      intro v w' hw hj
      have e12 : v 12 = .agg #[.int .u64 (lo (x) : Nat), .string (hi (x))] := hj 12 (by kernel_rfl)
      have e13 : v 13 = .agg #[.int .u64 (lo (y) : Nat), .string (hi (y))] := hj 13 (by kernel_rfl)
      have e11 : v 11 = .bool true := hj 11 (by kernel_rfl)
      simp [putOps, Act.put, e12, e13, e11]
      go_wp2_with fail
      refine (cmul BX BY _).mono ?_
      rintro e w2 ⟨rfl, h2⟩
      go_wp2
      exact ⟨rfl, rfl, h2, fun d hd => by cases hd; rfl⟩
    case o15 =>
      intro v w' hw hj
      have e11 : v 11 = .bool true := hj 11 (by kernel_rfl)
      have c0 : w'.cell? ⟨(w1.heap.size + 1), 0, none⟩ = some (.int .u64 (lo (y) : Nat)) := (hby'.ext hw).cell 0
      have c1 : w'.cell? ⟨(w1.heap.size + 1), 1, none⟩ = some (.string (hi (y))) := (hby'.ext hw).cell 1
      simp [putOps, Act.put, e11]
      go_wp2
      exact ⟨rfl, rfl, Ext.refl _, fun d hd => by cases hd; rfl⟩
    case o16 =>
      intro v w' hw hj
      have e11 : v 11 = .bool true := hj 11 (by kernel_rfl)
      have c0 : w'.cell? ⟨w1.heap.size, 0, none⟩ = some (.int .u64 (lo (x) : Nat)) := (hbx'.ext hw).cell 0
      have c1 : w'.cell? ⟨w1.heap.size, 1, none⟩ = some (.string (hi (x))) := (hbx'.ext hw).cell 1
      simp [putOps, Act.put, e11]
      go_wp2
      exact ⟨rfl, rfl, Ext.refl _, fun d hd => by cases hd; rfl⟩
    case o17 =>
      intro v w' hw hj
      have e15 : v 15 = .agg #[.int .u64 (lo (y) : Nat), .string (hi (y))] := hj 15 (by kernel_rfl)
      have e16 : v 16 = .agg #[.int .u64 (lo (x) : Nat), .string (hi (x))] := hj 16 (by kernel_rfl)
      have e11 : v 11 = .bool true := hj 11 (by kernel_rfl)
      simp [putOps, Act.put, e15, e16, e11]
      go_wp2_with fail
      refine (cmul BY BX _).mono ?_
      rintro e w2 ⟨rfl, h2⟩
      go_wp2
      exact ⟨rfl, rfl, h2, fun d hd => by cases hd; rfl⟩
    case o18 =>
      intro v w' hw hj
      have e14 : v 14 = .agg #[.int .u64 (lo (x * y) : Nat), .string (hi (x * y))] := hj 14 (by kernel_rfl)
      have e17 : v 17 = .agg #[.int .u64 (lo (y * x) : Nat), .string (hi (y * x))] := hj 17 (by kernel_rfl)
      have e11 : v 11 = .bool true := hj 11 (by kernel_rfl)
      simp [putOps, Act.put, e14, e17, e11]
      go_wp2_with fail
      refine (ccmp_eq (BX.mul BY) (BY.mul BX) (by grind) _).mono ?_
      rintro e w2 ⟨rfl, h2⟩
      go_wp2
      exact ⟨rfl, rfl, h2, fun d hd => by cases hd; rfl⟩
    case o19 =>
      intro v w' hw hj
      have e18 : v 18 = .int .i64 0 := hj 18 (by kernel_rfl)
      have e11 : v 11 = .bool true := hj 11 (by kernel_rfl)
      simp [putOps, Act.put, e18, e11]
      go_wp2
      exact ⟨rfl, rfl, Ext.refl _, fun d hd => by cases hd; rfl⟩
    case o20 =>
      intro v w' hw hj
      have e11 : v 11 = .bool true := hj 11 (by kernel_rfl)
      have e19 : v 19 = .bool true := hj 19 (by kernel_rfl)
      simp [putOps, Act.put, e11, e19]
      go_wp2
      exact ⟨rfl, rfl, Ext.refl _, fun d hd => by cases hd; rfl⟩
    case o21 =>
      intro v w' hw hj
      have e20 : v 20 = .bool true := hj 20 (by kernel_rfl)
      simp [putOps, Act.put, e20]
      go_wp2
      exact ⟨rfl, rfl, Ext.refl _, fun d hd => by cases hd; rfl⟩
    case o22 =>
      intro v w' hw hj
      have e21 : v 21 = .bool true := hj 21 (by kernel_rfl)
      have c0 : w'.cell? ⟨w1.heap.size, 0, none⟩ = some (.int .u64 (lo (x) : Nat)) := (hbx'.ext hw).cell 0
      have c1 : w'.cell? ⟨w1.heap.size, 1, none⟩ = some (.string (hi (x))) := (hbx'.ext hw).cell 1
      simp [putOps, Act.put, e21]
      go_wp2
      exact ⟨rfl, rfl, Ext.refl _, fun d hd => by cases hd; rfl⟩
    case o23 =>
      intro v w' hw hj
      have e21 : v 21 = .bool true := hj 21 (by kernel_rfl)
      have c0 : w'.cell? ⟨(w1.heap.size + 1), 0, none⟩ = some (.int .u64 (lo (y) : Nat)) := (hby'.ext hw).cell 0
      have c1 : w'.cell? ⟨(w1.heap.size + 1), 1, none⟩ = some (.string (hi (y))) := (hby'.ext hw).cell 1
      simp [putOps, Act.put, e21]
      go_wp2
      exact ⟨rfl, rfl, Ext.refl _, fun d hd => by cases hd; rfl⟩
    case o24 =>
      intro v w' hw hj
      have e22 : v 22 = .agg #[.int .u64 (lo (x) : Nat), .string (hi (x))] := hj 22 (by kernel_rfl)
      have e23 : v 23 = .agg #[.int .u64 (lo (y) : Nat), .string (hi (y))] := hj 23 (by kernel_rfl)
      have e21 : v 21 = .bool true := hj 21 (by kernel_rfl)
      simp [putOps, Act.put, e22, e23, e21]
      go_wp2_with fail
      refine (cadd BX BY _).mono ?_
      rintro e w2 ⟨rfl, h2⟩
      go_wp2
      exact ⟨rfl, rfl, h2, fun d hd => by cases hd; rfl⟩
    case o25 =>
      intro v w' hw hj
      have e21 : v 21 = .bool true := hj 21 (by kernel_rfl)
      have c0 : w'.cell? ⟨w2.heap.size, 0, none⟩ = some (.int .u64 (lo (z) : Nat)) := (hbz'.ext hw).cell 0
      have c1 : w'.cell? ⟨w2.heap.size, 1, none⟩ = some (.string (hi (z))) := (hbz'.ext hw).cell 1
      simp [putOps, Act.put, e21]
      go_wp2
      exact ⟨rfl, rfl, Ext.refl _, fun d hd => by cases hd; rfl⟩
    case o26 =>
      intro v w' hw hj
      have e24 : v 24 = .agg #[.int .u64 (lo (x + y) : Nat), .string (hi (x + y))] := hj 24 (by kernel_rfl)
      have e25 : v 25 = .agg #[.int .u64 (lo (z) : Nat), .string (hi (z))] := hj 25 (by kernel_rfl)
      have e21 : v 21 = .bool true := hj 21 (by kernel_rfl)
      simp [putOps, Act.put, e24, e25, e21]
      go_wp2_with fail
      refine (cadd (BX.add BY) BZ _).mono ?_
      rintro e w2 ⟨rfl, h2⟩
      go_wp2
      exact ⟨rfl, rfl, h2, fun d hd => by cases hd; rfl⟩
    case o27 =>
      intro v w' hw hj
      have e21 : v 21 = .bool true := hj 21 (by kernel_rfl)
      have c0 : w'.cell? ⟨w1.heap.size, 0, none⟩ = some (.int .u64 (lo (x) : Nat)) := (hbx'.ext hw).cell 0
      have c1 : w'.cell? ⟨w1.heap.size, 1, none⟩ = some (.string (hi (x))) := (hbx'.ext hw).cell 1
      simp [putOps, Act.put, e21]
      go_wp2
      exact ⟨rfl, rfl, Ext.refl _, fun d hd => by cases hd; rfl⟩
    case o28 =>
      intro v w' hw hj
      have e21 : v 21 = .bool true := hj 21 (by kernel_rfl)
      have c0 : w'.cell? ⟨(w1.heap.size + 1), 0, none⟩ = some (.int .u64 (lo (y) : Nat)) := (hby'.ext hw).cell 0
      have c1 : w'.cell? ⟨(w1.heap.size + 1), 1, none⟩ = some (.string (hi (y))) := (hby'.ext hw).cell 1
      simp [putOps, Act.put, e21]
      go_wp2
      exact ⟨rfl, rfl, Ext.refl _, fun d hd => by cases hd; rfl⟩
    case o29 =>
      intro v w' hw hj
      have e21 : v 21 = .bool true := hj 21 (by kernel_rfl)
      have c0 : w'.cell? ⟨w2.heap.size, 0, none⟩ = some (.int .u64 (lo (z) : Nat)) := (hbz'.ext hw).cell 0
      have c1 : w'.cell? ⟨w2.heap.size, 1, none⟩ = some (.string (hi (z))) := (hbz'.ext hw).cell 1
      simp [putOps, Act.put, e21]
      go_wp2
      exact ⟨rfl, rfl, Ext.refl _, fun d hd => by cases hd; rfl⟩
    case o30 =>
      intro v w' hw hj
      have e28 : v 28 = .agg #[.int .u64 (lo (y) : Nat), .string (hi (y))] := hj 28 (by kernel_rfl)
      have e29 : v 29 = .agg #[.int .u64 (lo (z) : Nat), .string (hi (z))] := hj 29 (by kernel_rfl)
      have e21 : v 21 = .bool true := hj 21 (by kernel_rfl)
      simp [putOps, Act.put, e28, e29, e21]
      go_wp2_with fail
      refine (cadd BY BZ _).mono ?_
      rintro e w2 ⟨rfl, h2⟩
      go_wp2
      exact ⟨rfl, rfl, h2, fun d hd => by cases hd; rfl⟩
    case o31 =>
      intro v w' hw hj
      have e27 : v 27 = .agg #[.int .u64 (lo (x) : Nat), .string (hi (x))] := hj 27 (by kernel_rfl)
      have e30 : v 30 = .agg #[.int .u64 (lo (y + z) : Nat), .string (hi (y + z))] := hj 30 (by kernel_rfl)
      have e21 : v 21 = .bool true := hj 21 (by kernel_rfl)
      simp [putOps, Act.put, e27, e30, e21]
      go_wp2_with fail
      refine (cadd BX (BY.add BZ) _).mono ?_
      rintro e w2 ⟨rfl, h2⟩
      go_wp2
      exact ⟨rfl, rfl, h2, fun d hd => by cases hd; rfl⟩
    case o32 =>
      intro v w' hw hj
      have e26 : v 26 = .agg #[.int .u64 (lo ((x + y) + z) : Nat), .string (hi ((x + y) + z))] := hj 26 (by kernel_rfl)
      have e31 : v 31 = .agg #[.int .u64 (lo (x + (y + z)) : Nat), .string (hi (x + (y + z)))] := hj 31 (by kernel_rfl)
      have e21 : v 21 = .bool true := hj 21 (by kernel_rfl)
      simp [putOps, Act.put, e26, e31, e21]
      go_wp2_with fail
      refine (ccmp_eq ((BX.add BY).add BZ) (BX.add (BY.add BZ)) (by grind) _).mono ?_
      rintro e w2 ⟨rfl, h2⟩
      go_wp2
      exact ⟨rfl, rfl, h2, fun d hd => by cases hd; rfl⟩
    case o33 =>
      intro v w' hw hj
      have e32 : v 32 = .int .i64 0 := hj 32 (by kernel_rfl)
      have e21 : v 21 = .bool true := hj 21 (by kernel_rfl)
      simp [putOps, Act.put, e32, e21]
      go_wp2
      exact ⟨rfl, rfl, Ext.refl _, fun d hd => by cases hd; rfl⟩
    case o34 =>
      intro v w' hw hj
      have e21 : v 21 = .bool true := hj 21 (by kernel_rfl)
      have e33 : v 33 = .bool true := hj 33 (by kernel_rfl)
      simp [putOps, Act.put, e21, e33]
      go_wp2
      exact ⟨rfl, rfl, Ext.refl _, fun d hd => by cases hd; rfl⟩
    case o35 =>
      intro v w' hw hj
      have e34 : v 34 = .bool true := hj 34 (by kernel_rfl)
      simp [putOps, Act.put, e34]
      go_wp2
      exact ⟨rfl, rfl, Ext.refl _, fun d hd => by cases hd; rfl⟩
    case o36 =>
      intro v w' hw hj
      have e35 : v 35 = .bool true := hj 35 (by kernel_rfl)
      have c0 : w'.cell? ⟨w1.heap.size, 0, none⟩ = some (.int .u64 (lo (x) : Nat)) := (hbx'.ext hw).cell 0
      have c1 : w'.cell? ⟨w1.heap.size, 1, none⟩ = some (.string (hi (x))) := (hbx'.ext hw).cell 1
      simp [putOps, Act.put, e35]
      go_wp2
      exact ⟨rfl, rfl, Ext.refl _, fun d hd => by cases hd; rfl⟩
    case o37 =>
      intro v w' hw hj
      have e35 : v 35 = .bool true := hj 35 (by kernel_rfl)
      have c0 : w'.cell? ⟨(w1.heap.size + 1), 0, none⟩ = some (.int .u64 (lo (y) : Nat)) := (hby'.ext hw).cell 0
      have c1 : w'.cell? ⟨(w1.heap.size + 1), 1, none⟩ = some (.string (hi (y))) := (hby'.ext hw).cell 1
      simp [putOps, Act.put, e35]
      go_wp2
      exact ⟨rfl, rfl, Ext.refl _, fun d hd => by cases hd; rfl⟩
    case o38 =>
      intro v w' hw hj
      have e36 : v 36 = .agg #[.int .u64 (lo (x) : Nat), .string (hi (x))] := hj 36 (by kernel_rfl)
      have e37 : v 37 = .agg #[.int .u64 (lo (y) : Nat), .string (hi (y))] := hj 37 (by kernel_rfl)
      have e35 : v 35 = .bool true := hj 35 (by kernel_rfl)
      simp [putOps, Act.put, e36, e37, e35]
      go_wp2_with fail
      refine (cmul BX BY _).mono ?_
      rintro e w2 ⟨rfl, h2⟩
      go_wp2
      exact ⟨rfl, rfl, h2, fun d hd => by cases hd; rfl⟩
    case o39 =>
      intro v w' hw hj
      have e35 : v 35 = .bool true := hj 35 (by kernel_rfl)
      have c0 : w'.cell? ⟨w2.heap.size, 0, none⟩ = some (.int .u64 (lo (z) : Nat)) := (hbz'.ext hw).cell 0
      have c1 : w'.cell? ⟨w2.heap.size, 1, none⟩ = some (.string (hi (z))) := (hbz'.ext hw).cell 1
      simp [putOps, Act.put, e35]
      go_wp2
      exact ⟨rfl, rfl, Ext.refl _, fun d hd => by cases hd; rfl⟩
    case o40 =>
      intro v w' hw hj
      have e38 : v 38 = .agg #[.int .u64 (lo (x * y) : Nat), .string (hi (x * y))] := hj 38 (by kernel_rfl)
      have e39 : v 39 = .agg #[.int .u64 (lo (z) : Nat), .string (hi (z))] := hj 39 (by kernel_rfl)
      have e35 : v 35 = .bool true := hj 35 (by kernel_rfl)
      simp [putOps, Act.put, e38, e39, e35]
      go_wp2_with fail
      refine (cmul (BX.mul BY) BZ _).mono ?_
      rintro e w2 ⟨rfl, h2⟩
      go_wp2
      exact ⟨rfl, rfl, h2, fun d hd => by cases hd; rfl⟩
    case o41 =>
      intro v w' hw hj
      have e35 : v 35 = .bool true := hj 35 (by kernel_rfl)
      have c0 : w'.cell? ⟨w1.heap.size, 0, none⟩ = some (.int .u64 (lo (x) : Nat)) := (hbx'.ext hw).cell 0
      have c1 : w'.cell? ⟨w1.heap.size, 1, none⟩ = some (.string (hi (x))) := (hbx'.ext hw).cell 1
      simp [putOps, Act.put, e35]
      go_wp2
      exact ⟨rfl, rfl, Ext.refl _, fun d hd => by cases hd; rfl⟩
    case o42 =>
      intro v w' hw hj
      have e35 : v 35 = .bool true := hj 35 (by kernel_rfl)
      have c0 : w'.cell? ⟨(w1.heap.size + 1), 0, none⟩ = some (.int .u64 (lo (y) : Nat)) := (hby'.ext hw).cell 0
      have c1 : w'.cell? ⟨(w1.heap.size + 1), 1, none⟩ = some (.string (hi (y))) := (hby'.ext hw).cell 1
      simp [putOps, Act.put, e35]
      go_wp2
      exact ⟨rfl, rfl, Ext.refl _, fun d hd => by cases hd; rfl⟩
    case o43 =>
      intro v w' hw hj
      have e35 : v 35 = .bool true := hj 35 (by kernel_rfl)
      have c0 : w'.cell? ⟨w2.heap.size, 0, none⟩ = some (.int .u64 (lo (z) : Nat)) := (hbz'.ext hw).cell 0
      have c1 : w'.cell? ⟨w2.heap.size, 1, none⟩ = some (.string (hi (z))) := (hbz'.ext hw).cell 1
      simp [putOps, Act.put, e35]
      go_wp2
      exact ⟨rfl, rfl, Ext.refl _, fun d hd => by cases hd; rfl⟩
    case o44 =>
      intro v w' hw hj
      have e42 : v 42 = .agg #[.int .u64 (lo (y) : Nat), .string (hi (y))] := hj 42 (by kernel_rfl)
      have e43 : v 43 = .agg #[.int .u64 (lo (z) : Nat), .string (hi (z))] := hj 43 (by kernel_rfl)
      have e35 : v 35 = .bool true := hj 35 (by kernel_rfl)
      simp [putOps, Act.put, e42, e43, e35]
      go_wp2_with fail
      refine (cmul BY BZ _).mono ?_
      rintro e w2 ⟨rfl, h2⟩
      go_wp2
      exact ⟨rfl, rfl, h2, fun d hd => by cases hd; rfl⟩
    case o45 =>
      intro v w' hw hj
      have e41 : v 41 = .agg #[.int .u64 (lo (x) : Nat), .string (hi (x))] := hj 41 (by kernel_rfl)
      have e44 : v 44 = .agg #[.int .u64 (lo (y * z) : Nat), .string (hi (y * z))] := hj 44 (by kernel_rfl)
      have e35 : v 35 = .bool true := hj 35 (by kernel_rfl)
      simp [putOps, Act.put, e41, e44, e35]
      go_wp2_with fail
      refine (cmul BX (BY.mul BZ) _).mono ?_
      rintro e w2 ⟨rfl, h2⟩
      go_wp2
      exact ⟨rfl, rfl, h2, fun d hd => by cases hd; rfl⟩
    case o46 =>
      intro v w' hw hj
      have e40 : v 40 = .agg #[.int .u64 (lo ((x * y) * z) : Nat), .string (hi ((x * y) * z))] := hj 40 (by kernel_rfl)
      have e45 : v 45 = .agg #[.int .u64 (lo (x * (y * z)) : Nat), .string (hi (x * (y * z)))] := hj 45 (by kernel_rfl)
      have e35 : v 35 = .bool true := hj 35 (by kernel_rfl)
      simp [putOps, Act.put, e40, e45, e35]
      go_wp2_with fail
      refine (ccmp_eq ((BX.mul BY).mul BZ) (BX.mul (BY.mul BZ)) (by grind) _).mono ?_
      rintro e w2 ⟨rfl, h2⟩
      go_wp2
      exact ⟨rfl, rfl, h2, fun d hd => by cases hd; rfl⟩
    case o47 =>
      intro v w' hw hj
      have e46 : v 46 = .int .i64 0 := hj 46 (by kernel_rfl)
      have e35 : v 35 = .bool true := hj 35 (by kernel_rfl)
      simp [putOps, Act.put, e46, e35]
      go_wp2
      exact ⟨rfl, rfl, Ext.refl _, fun d hd => by cases hd; rfl⟩
    case o48 =>
      intro v w' hw hj
      have e35 : v 35 = .bool true := hj 35 (by kernel_rfl)
      have e47 : v 47 = .bool true := hj 47 (by kernel_rfl)
      simp [putOps, Act.put, e35, e47]
      go_wp2
      exact ⟨rfl, rfl, Ext.refl _, fun d hd => by cases hd; rfl⟩
    case o49 =>
      intro v w' hw hj
      have e48 : v 48 = .bool true := hj 48 (by kernel_rfl)
      simp [putOps, Act.put, e48]
      go_wp2
      exact ⟨rfl, rfl, Ext.refl _, fun d hd => by cases hd; rfl⟩
    case o50 =>
      intro v w' hw hj
      have e49 : v 49 = .bool true := hj 49 (by kernel_rfl)
      have c0 : w'.cell? ⟨w1.heap.size, 0, none⟩ = some (.int .u64 (lo (x) : Nat)) := (hbx'.ext hw).cell 0
      have c1 : w'.cell? ⟨w1.heap.size, 1, none⟩ = some (.string (hi (x))) := (hbx'.ext hw).cell 1
      simp [putOps, Act.put, e49]
      go_wp2
      exact ⟨rfl, rfl, Ext.refl _, fun d hd => by cases hd; rfl⟩
    case o51 =>
      intro v w' hw hj
      have e49 : v 49 = .bool true := hj 49 (by kernel_rfl)
      have c0 : w'.cell? ⟨(w1.heap.size + 1), 0, none⟩ = some (.int .u64 (lo (y) : Nat)) := (hby'.ext hw).cell 0
      have c1 : w'.cell? ⟨(w1.heap.size + 1), 1, none⟩ = some (.string (hi (y))) := (hby'.ext hw).cell 1
      simp [putOps, Act.put, e49]
      go_wp2
      exact ⟨rfl, rfl, Ext.refl _, fun d hd => by cases hd; rfl⟩
    case o52 =>
      intro v w' hw hj
      have e49 : v 49 = .bool true := hj 49 (by kernel_rfl)
      have c0 : w'.cell? ⟨w2.heap.size, 0, none⟩ = some (.int .u64 (lo (z) : Nat)) := (hbz'.ext hw).cell 0
      have c1 : w'.cell? ⟨w2.heap.size, 1, none⟩ = some (.string (hi (z))) := (hbz'.ext hw).cell 1
      simp [putOps, Act.put, e49]
      go_wp2
      exact ⟨rfl, rfl, Ext.refl _, fun d hd => by cases hd; rfl⟩
    case o53 =>
      intro v w' hw hj
      have e51 : v 51 = .agg #[.int .u64 (lo (y) : Nat), .string (hi (y))] := hj 51 (by kernel_rfl)
      have e52 : v 52 = .agg #[.int .u64 (lo (z) : Nat), .string (hi (z))] := hj 52 (by kernel_rfl)
      have e49 : v 49 = .bool true := hj 49 (by kernel_rfl)
      simp [putOps, Act.put, e51, e52, e49]
      go_wp2_with fail
      refine (cadd BY BZ _).mono ?_
      rintro e w2 ⟨rfl, h2⟩
      go_wp2
      exact ⟨rfl, rfl, h2, fun d hd => by cases hd; rfl⟩
    case o54 =>
      intro v w' hw hj
      have e50 : v 50 = .agg #[.int .u64 (lo (x) : Nat), .string (hi (x))] := hj 50 (by kernel_rfl)
      have e53 : v 53 = .agg #[.int .u64 (lo (y + z) : Nat), .string (hi (y + z))] := hj 53 (by kernel_rfl)
      have e49 : v 49 = .bool true := hj 49 (by kernel_rfl)
      simp [putOps, Act.put, e50, e53, e49]
      go_wp2_with fail
      refine (cmul BX (BY.add BZ) _).mono ?_
      rintro e w2 ⟨rfl, h2⟩
      go_wp2
      exact ⟨rfl, rfl, h2, fun d hd => by cases hd; rfl⟩
    case o55 =>
      intro v w' hw hj
      have e49 : v 49 = .bool true := hj 49 (by kernel_rfl)
      have c0 : w'.cell? ⟨w1.heap.size, 0, none⟩ = some (.int .u64 (lo (x) : Nat)) := (hbx'.ext hw).cell 0
      have c1 : w'.cell? ⟨w1.heap.size, 1, none⟩ = some (.string (hi (x))) := (hbx'.ext hw).cell 1
      simp [putOps, Act.put, e49]
      go_wp2
      exact ⟨rfl, rfl, Ext.refl _, fun d hd => by cases hd; rfl⟩
    case o56 =>
      intro v w' hw hj
      have e49 : v 49 = .bool true := hj 49 (by kernel_rfl)
      have c0 : w'.cell? ⟨(w1.heap.size + 1), 0, none⟩ = some (.int .u64 (lo (y) : Nat)) := (hby'.ext hw).cell 0
      have c1 : w'.cell? ⟨(w1.heap.size + 1), 1, none⟩ = some (.string (hi (y))) := (hby'.ext hw).cell 1
      simp [putOps, Act.put, e49]
      go_wp2
      exact ⟨rfl, rfl, Ext.refl _, fun d hd => by cases hd; rfl⟩
    case o57 =>
      intro v w' hw hj
      have e55 : v 55 = .agg #[.int .u64 (lo (x) : Nat), .string (hi (x))] := hj 55 (by kernel_rfl)
      have e56 : v 56 = .agg #[.int .u64 (lo (y) : Nat), .string (hi (y))] := hj 56 (by kernel_rfl)
      have e49 : v 49 = .bool true := hj 49 (by kernel_rfl)
      simp [putOps, Act.put, e55, e56, e49]
      go_wp2_with fail
      refine (cmul BX BY _).mono ?_
      rintro e w2 ⟨rfl, h2⟩
      go_wp2
      exact ⟨rfl, rfl, h2, fun d hd => by cases hd; rfl⟩
    case o58 =>
      intro v w' hw hj
      have e49 : v 49 = .bool true := hj 49 (by kernel_rfl)
      have c0 : w'.cell? ⟨w1.heap.size, 0, none⟩ = some (.int .u64 (lo (x) : Nat)) := (hbx'.ext hw).cell 0
      have c1 : w'.cell? ⟨w1.heap.size, 1, none⟩ = some (.string (hi (x))) := (hbx'.ext hw).cell 1
      simp [putOps, Act.put, e49]
      go_wp2
      exact ⟨rfl, rfl, Ext.refl _, fun d hd => by cases hd; rfl⟩
    case o59 =>
      intro v w' hw hj
      have e49 : v 49 = .bool true := hj 49 (by kernel_rfl)
      have c0 : w'.cell? ⟨w2.heap.size, 0, none⟩ = some (.int .u64 (lo (z) : Nat)) := (hbz'.ext hw).cell 0
      have c1 : w'.cell? ⟨w2.heap.size, 1, none⟩ = some (.string (hi (z))) := (hbz'.ext hw).cell 1
      simp [putOps, Act.put, e49]
      go_wp2
      exact ⟨rfl, rfl, Ext.refl _, fun d hd => by cases hd; rfl⟩
    case o60 =>
      intro v w' hw hj
      have e58 : v 58 = .agg #[.int .u64 (lo (x) : Nat), .string (hi (x))] := hj 58 (by kernel_rfl)
      have e59 : v 59 = .agg #[.int .u64 (lo (z) : Nat), .string (hi (z))] := hj 59 (by kernel_rfl)
      have e49 : v 49 = .bool true := hj 49 (by kernel_rfl)
      simp [putOps, Act.put, e58, e59, e49]
      go_wp2_with fail
      refine (cmul BX BZ _).mono ?_
      rintro e w2 ⟨rfl, h2⟩
      go_wp2
      exact ⟨rfl, rfl, h2, fun d hd => by cases hd; rfl⟩
    case o61 =>
      intro v w' hw hj
      have e57 : v 57 = .agg #[.int .u64 (lo (x * y) : Nat), .string (hi (x * y))] := hj 57 (by kernel_rfl)
      have e60 : v 60 = .agg #[.int .u64 (lo (x * z) : Nat), .string (hi (x * z))] := hj 60 (by kernel_rfl)
      have e49 : v 49 = .bool true := hj 49 (by kernel_rfl)
      simp [putOps, Act.put, e57, e60, e49]
      go_wp2_with fail
      refine (cadd (BX.mul BY) (BX.mul BZ) _).mono ?_
      rintro e w2 ⟨rfl, h2⟩
      go_wp2
      exact ⟨rfl, rfl, h2, fun d hd => by cases hd; rfl⟩
    case o62 =>
      intro v w' hw hj
      have e54 : v 54 = .agg #[.int .u64 (lo (x * (y + z)) : Nat), .string (hi (x * (y + z)))] := hj 54 (by kernel_rfl)
      have e61 : v 61 = .agg #[.int .u64 (lo ((x * y) + (x * z)) : Nat), .string (hi ((x * y) + (x * z)))] := hj 61 (by kernel_rfl)
      have e49 : v 49 = .bool true := hj 49 (by kernel_rfl)
      simp [putOps, Act.put, e54, e61, e49]
      go_wp2_with fail
      refine (ccmp_eq (BX.mul (BY.add BZ)) ((BX.mul BY).add (BX.mul BZ)) (by grind) _).mono ?_
      rintro e w2 ⟨rfl, h2⟩
      go_wp2
      exact ⟨rfl, rfl, h2, fun d hd => by cases hd; rfl⟩
    case o63 =>
      intro v w' hw hj
      have e62 : v 62 = .int .i64 0 := hj 62 (by kernel_rfl)
      have e49 : v 49 = .bool true := hj 49 (by kernel_rfl)
      simp [putOps, Act.put, e62, e49]
      go_wp2
      exact ⟨rfl, rfl, Ext.refl _, fun d hd => by cases hd; rfl⟩
    case o64 =>
      intro v w' hw hj
      have e49 : v 49 = .bool true := hj 49 (by kernel_rfl)
      have e63 : v 63 = .bool true := hj 63 (by kernel_rfl)
      simp [putOps, Act.put, e49, e63]
      go_wp2
      exact ⟨rfl, rfl, Ext.refl _, fun d hd => by cases hd; rfl⟩
    case o65 =>
      intro v w' hw hj
      have e64 : v 64 = .bool true := hj 64 (by kernel_rfl)
      simp [putOps, Act.put, e64]
      go_wp2
      exact ⟨rfl, rfl, Ext.refl _, fun d hd => by cases hd; rfl⟩
    case o66 =>
      intro v w' hw hj
      have e65 : v 65 = .bool true := hj 65 (by kernel_rfl)
      simp [putOps, Act.put, e65]
      go_wp2
      exact ⟨rfl, rfl, Ext.refl _, fun d hd => by cases hd; rfl⟩
    case o67 =>
      intro v w' hw hj
      have e65 : v 65 = .bool true := hj 65 (by kernel_rfl)
      have e66 : v 66 = .bool true := hj 66 (by kernel_rfl)
      simp [putOps, Act.put, e65, e66]
      go_wp2
      exact ⟨rfl, rfl, Ext.refl _, fun d hd => by cases hd; rfl⟩
    case o68 =>
      intro v w' hw hj
      have e67 : v 67 = .bool true := hj 67 (by kernel_rfl)
      simp [putOps, Act.put, e67]
      go_wp2
      exact ⟨rfl, rfl, Ext.refl _, fun d hd => by cases hd; rfl⟩
    case o69 =>
      intro v w' hw hj
      have e68 : v 68 = .bool true := hj 68 (by kernel_rfl)
      have c0 : w'.cell? ⟨g, 0, none⟩ = some (.int .u64 (lo (x) : Nat)) := (hbd.ext hw).cell 0
      have c1 : w'.cell? ⟨g, 1, none⟩ = some (.string (hi (x))) := (hbd.ext hw).cell 1
      simp [putOps, Act.put, e68]
      go_wp2
      exact ⟨rfl, rfl, Ext.refl _, fun d hd => by cases hd; rfl⟩
    case o70 =>
      intro v w' hw hj
      have e68 : v 68 = .bool true := hj 68 (by kernel_rfl)
      have c0 : w'.cell? ⟨w1.heap.size, 0, none⟩ = some (.int .u64 (lo (x) : Nat)) := (hbx'.ext hw).cell 0
      have c1 : w'.cell? ⟨w1.heap.size, 1, none⟩ = some (.string (hi (x))) := (hbx'.ext hw).cell 1
      simp [putOps, Act.put, e68]
      go_wp2
      exact ⟨rfl, rfl, Ext.refl _, fun d hd => by cases hd; rfl⟩
    case o71 =>
      intro v w' hw hj
      have e69 : v 69 = .agg #[.int .u64 (lo (x) : Nat), .string (hi (x))] := hj 69 (by kernel_rfl)
      have e70 : v 70 = .agg #[.int .u64 (lo (x) : Nat), .string (hi (x))] := hj 70 (by kernel_rfl)
      have e68 : v 68 = .bool true := hj 68 (by kernel_rfl)
      simp [putOps, Act.put, e69, e70, e68]
      go_wp2_with fail
      refine (ccmp_eq BX BX (by grind) _).mono ?_
      rintro e w2 ⟨rfl, h2⟩
      go_wp2
      exact ⟨rfl, rfl, h2, fun d hd => by cases hd; rfl⟩
    case o72 =>
      intro v w' hw hj
      have e71 : v 71 = .int .i64 0 := hj 71 (by kernel_rfl)
      have e68 : v 68 = .bool true := hj 68 (by kernel_rfl)
      simp [putOps, Act.put, e71, e68]
      go_wp2
      exact ⟨rfl, rfl, Ext.refl _, fun d hd => by cases hd; rfl⟩
    case o73 =>
      intro v w' hw hj
      have e68 : v 68 = .bool true := hj 68 (by kernel_rfl)
      have e72 : v 72 = .bool true := hj 72 (by kernel_rfl)
      simp [putOps, Act.put, e68, e72]
      go_wp2
      exact ⟨rfl, rfl, Ext.refl _, fun d hd => by cases hd; rfl⟩
    case fin =>
      intro v w' hw hj
      have e73 : v 73 = .bool true := hj 73 113 (by omega) rfl
      simp [putOps, Act.put, e73]
      go_wp2
      go_ret
      exact ⟨rfl, E4.out.trans hw⟩
end Go.Proofs.YtcfpjgcellahnaaDoor
