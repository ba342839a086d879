/- The law NatRoots: its walk. -/
import Derived.Test.YtcfpjgcellahnaaDoorCalls2
namespace Go.Proofs.YtcfpjgcellahnaaDoor
open Go.RowKit

set_option maxRecDepth 100000 in
set_option maxHeartbeats 4000000 in
theorem natRoots_any (l0 : List UInt8) (v0 : Value) (w : World) (s0 : SlB l0 v0 w) :
    Calls Tryd.prog 7 #[v0] w (Ret (.bool true) w) := by
  have HT1 : Hid (∀ W, SlB l0 v0 W → Calls Tryd.prog 24 #[v0, .slice none 0 0] W (TwoPost (beN (l0.take 48)) 0 W)) := Lib.hid (fun W h => two_any l0 [] v0 _ W h (SlB.nil W))
  have HS0 := Lib.hid s0
  have BX := Sm.take l0
  have HK := Lib.hid known_any
  clear s0
  generalize beN (l0.take 48) = x at *
  have HRT := Lib.hid (fun W => croot BX W)
  have BR := BX.rt
  have HRI := Lib.hid (rt_is x)
  have HSQ := Lib.hid (rt_sq x)
  have HRS : Hid (∀ W, Calls Tryd.prog 38 #[.agg #[.int .u64 (lo (x * x) : Nat), .string (hi (x * x))]] W (Ret (.agg #[.int .u64 (lo (x) : Nat), .string (hi (x))]) W)) := Lib.hid (fun W => by have h := croot (BX.mul BX) W; rw [HSQ.out] at h; exact h)
  have SH1 : Hid (∀ W, Calls Tryd.prog 39 #[.agg #[.int .u64 (lo (x) : Nat), .string (hi (x))], .int .i64 1] W (Ret (.agg #[.int .u64 (lo (x + x) : Nat), .string (hi (x + x))]) W)) := Lib.hid (fun W => by have h := cshl BX 1 W; rw [show x * 2 ^ 1 = x + x from by omega] at h; exact h)
  have S7 : Hid (∀ W, Calls Tryd.prog 39 #[.agg #[.int .u64 (lo (x) : Nat), .string (hi (x))], .int .i64 7] W (Ret (.agg #[.int .u64 (lo (x * 2 ^ 7) : Nat), .string (hi (x * 2 ^ 7))]) W)) := Lib.hid (fun W => cshl BX 7 W)
  have S7' : Hid (∀ W, Calls Tryd.prog 39 #[.agg #[.int .u64 (lo (x * 2 ^ 7) : Nat), .string (hi (x * 2 ^ 7))], .int .i64 (-7)] W (Ret (.agg #[.int .u64 (lo (x) : Nat), .string (hi (x))]) W)) := Lib.hid (fun W => by have h := cshr (BX.shl 7) 7 W; rw [Nat.mul_div_cancel x (by decide)] at h; exact h)
  generalize x * 2 ^ 7 = x7 at *
  generalize hr : rt x = r at *
  clear hr
  obtain ⟨z1, hz1, hz1'⟩ : ∃ z, cmpN (r * r) x = z ∧ z ≤ 0 := ⟨_, rfl, by
    have := HRI.out.1
    unfold cmpN
    split
    · omega
    · rw [if_neg (by omega)]; omega⟩
  have HC1 : Hid (∀ W, Calls Tryd.prog 36 #[.agg #[.int .u64 (lo (r * r) : Nat), .string (hi (r * r))], .agg #[.int .u64 (lo (x) : Nat), .string (hi (x))]] W (Ret (.int .i64 z1) W)) := Lib.hid (fun W => by have h := ccmp (BR.mul BR) BX W; rw [hz1] at h; exact h)
  clear hz1
  go_enter Tryd.func7, Tryd.ntmps7
  go_wp2_with fail
  refine (HT1.out _ HS0.out).mono ?_
  rintro e w1 ⟨p1, q1, rfl, hp1, hq1, hx1⟩
  have E1 := Lib.hid hx1
  clear hx1 hp1 hq1
  go_wp2_with fail
  refine (HRT.out _).mono ?_
  rintro e w2 ⟨rfl, hx2⟩
  have hbx : Blk w2 w1.heap.size 24 [.int .u64 (lo x : Nat), .string (hi x)] := ((Blk.new w1 _ _).alloc _).ext hx2
  have E2 := Lib.hid (((E1.out.alloc _).alloc _).trans hx2)
  have HBX := Lib.hid hbx
  clear hx2 hbx
  go_wp2_with fail
  generalize hW : w2.alloc (.cells #[.int .u64 (lo r : Nat), .string (hi r)] 24) = W2
  have hbr : Blk W2 w2.heap.size 24 [.int .u64 (lo r : Nat), .string (hi r)] := by rw [← hW]; exact Blk.new w2 _ _
  have hEx : Ext w2 W2 := by rw [← hW]; exact (Ext.refl w2).alloc _
  have hbx := HBX.out.ext hEx
  have E3 := Lib.hid (E2.out.trans hEx)
  clear HBX hEx hW E1 E2
  refine wp_region_all goesExt 4 [fun v _ => v = .agg #[.int .u64 (lo (r) : Nat), .string (hi (r))], fun v _ => v = .agg #[.int .u64 (lo (1) : Nat), .string (hi (1))], fun v _ => v = .agg #[.int .u64 (lo (r + 1) : Nat), .string (hi (r + 1))], Box1 W2.heap.size] (by kernel_rfl) (by kernel_rfl) ?hG ?hQ ⟨fun h => (by cases h), fun _ => ?o0, fun h => (by cases h), fun _ => ?o1, fun h => (by cases h), fun _ => ?o2, fun h => (by cases h), fun _ => ?o3, trivial⟩ ?fin
  case hG =>
    intro g hg
    simp only [List.mem_cons, List.not_mem_nil, or_false] at hg
    rcases hg with rfl | rfl | rfl | rfl
    all_goals first | exact fun _ _ _ _ h => h | exact fun _ _ _ e h => h.ext e
  case hQ => exact fun c a w d v h => by cases d <;> exact h
  case o0 =>
    intro v w' hw hj
    have c0 : w'.cell? ⟨w2.heap.size, 0, none⟩ = some (.int .u64 (lo (r) : Nat)) := (hbr.ext hw).cell 0
    have c1 : w'.cell? ⟨w2.heap.size, 1, none⟩ = some (.string (hi (r))) := (hbr.ext hw).cell 1
    simp [putOps]
    go_wp2
    exact ⟨rfl, rfl, Ext.refl _, fun d hd => by cases hd; rfl⟩
  case o1 =>
    intro v w' hw hj
    simp [putOps, Act.put]
    go_wp2_with fail
    refine (cof 1 (by unfold B64; omega) _).mono ?_
    rintro e w2 ⟨rfl, h2⟩
    go_wp2
    exact ⟨rfl, rfl, h2, fun d hd => by cases hd; rfl⟩
  case o2 =>
    intro v w' hw hj
    have e0 : v 0 = .agg #[.int .u64 (lo (r) : Nat), .string (hi (r))] := hj 0 (by kernel_rfl)
    have e1 : v 1 = .agg #[.int .u64 (lo (1) : Nat), .string (hi (1))] := hj 1 (by kernel_rfl)
    simp [putOps, Act.put, e0, e1]
    go_wp2_with fail
    refine (cadd BR Sm.one _).mono ?_
    rintro e w2 ⟨rfl, h2⟩
    go_wp2
    exact ⟨rfl, rfl, h2, fun d hd => by cases hd; rfl⟩
  case o3 =>
    intro v w' hw hj
    simp [putOps, Act.put]
    go_wp2
    exact ⟨rfl, rfl, (Ext.refl _).alloc _, fun d hd => by cases hd; exact Box1.new _ hw.size⟩
  case fin =>
    intro v w' hw hj
    have e3 : (Box1 W2.heap.size) (v 3) w' := hj 3 8 (by omega) rfl
    have e2 : v 2 = .agg #[.int .u64 (lo (r + 1) : Nat), .string (hi (r + 1))] := hj 2 20 (by omega) rfl
    simp [putOps, Act.put, e2]
    obtain ⟨g, hg, hv3, hbd⟩ := e3
    simp only [hv3]
    have c0 : w'.cell? ⟨g, 0, none⟩ = some (.int .u64 0) := hbd.cell 0
    have c1 : w'.cell? ⟨g, 1, none⟩ = some (.string ⟨#[]⟩) := hbd.cell 1
    have f0 : w'.frozen? ⟨g, 0, none⟩ = false := hbd.frozen 0
    have f1 : w'.frozen? ⟨g, 1, none⟩ = false := hbd.frozen 1
    have hbd' := (hbd.set 0 (.int .u64 (lo (r + 1) : Nat))).set 1 (.string (hi (r + 1)))
    have he : Ext W2 ((w'.setCell ⟨g, 0, none⟩ (.int .u64 (lo (r + 1) : Nat))).setCell ⟨g, 1, none⟩ (.string (hi (r + 1)))) := (Below.setCell hw (p := ⟨g, 0, none⟩) hg _).setCell (p := ⟨g, 1, none⟩) hg _
    have HBD := Lib.hid hbd'
    have HE := Lib.hid he
    clear hbd hbd' he hg
    go_wp2_with fail
    have hbd := HBD.out
    have hbx' := hbx.ext HE.out
    have hbr' := hbr.ext HE.out
    have E4 := Lib.hid (E3.out.trans HE.out)
    simp only [List.set_cons_zero, List.set_cons_succ] at hbd
    clear HBD HE c0 c1 f0 f1 hw hj hbx hbr
    generalize (w'.setCell ⟨g, 0, none⟩ (.int .u64 (lo (r + 1) : Nat))).setCell ⟨g, 1, none⟩ (.string (hi (r + 1))) = W3 at *
    refine wp_region_all goesExt 43 [fun v _ => v = .bool true, fun v _ => v = .bool true, fun v _ => v = .agg #[.int .u64 (lo (r) : Nat), .string (hi (r))], fun v _ => v = .agg #[.int .u64 (lo (r) : Nat), .string (hi (r))], fun v _ => v = .agg #[.int .u64 (lo (r * r) : Nat), .string (hi (r * r))], fun v _ => v = .agg #[.int .u64 (lo (x) : Nat), .string (hi (x))], fun v _ => v = .int .i64 z1, fun v _ => v = .bool true, fun v _ => v = .bool true, fun v _ => v = .bool true, fun v _ => v = .agg #[.int .u64 (lo (r + 1) : Nat), .string (hi (r + 1))], fun v _ => v = .agg #[.int .u64 (lo (r + 1) : Nat), .string (hi (r + 1))], fun v _ => v = .agg #[.int .u64 (lo ((r + 1) * (r + 1)) : Nat), .string (hi ((r + 1) * (r + 1)))], fun v _ => v = .agg #[.int .u64 (lo (x) : Nat), .string (hi (x))], fun v _ => v = .int .i64 1, fun v _ => v = .bool true, fun v _ => v = .bool true, fun v _ => v = .bool true, fun v _ => v = .agg #[.int .u64 (lo (x) : Nat), .string (hi (x))], fun v _ => v = .agg #[.int .u64 (lo (x) : Nat), .string (hi (x))], fun v _ => v = .agg #[.int .u64 (lo (x * x) : Nat), .string (hi (x * x))], fun v _ => v = .agg #[.int .u64 (lo (x) : Nat), .string (hi (x))], fun v _ => v = .agg #[.int .u64 (lo (x) : Nat), .string (hi (x))], fun v _ => v = .int .i64 0, fun v _ => v = .bool true, fun v _ => v = .bool true, fun v _ => v = .bool true, fun v _ => v = .agg #[.int .u64 (lo (x) : Nat), .string (hi (x))], fun v _ => v = .agg #[.int .u64 (lo (x7) : Nat), .string (hi (x7))], fun v _ => v = .agg #[.int .u64 (lo (x) : Nat), .string (hi (x))], fun v _ => v = .agg #[.int .u64 (lo (x) : Nat), .string (hi (x))], fun v _ => v = .int .i64 0, fun v _ => v = .bool true, fun v _ => v = .bool true, fun v _ => v = .bool true, fun v _ => v = .agg #[.int .u64 (lo (x) : Nat), .string (hi (x))], fun v _ => v = .agg #[.int .u64 (lo (x + x) : Nat), .string (hi (x + x))], fun v _ => v = .agg #[.int .u64 (lo (x) : Nat), .string (hi (x))], fun v _ => v = .agg #[.int .u64 (lo (x) : Nat), .string (hi (x))], fun v _ => v = .agg #[.int .u64 (lo (x + x) : Nat), .string (hi (x + x))], fun v _ => v = .int .i64 0, fun v _ => v = .bool true, fun v _ => v = .bool true] (by kernel_rfl) (by kernel_rfl) ?hG ?hQ ⟨fun h => (by cases h), fun _ => ?o0, fun h => (by cases h), fun _ => ?o1, fun h => (by cases h), fun _ => ?o2, fun h => (by cases h), fun _ => ?o3, fun h => (by cases h), fun _ => ?o4, fun h => (by cases h), fun _ => ?o5, fun h => (by cases h), fun _ => ?o6, fun h => (by cases h), fun _ => ?o7, fun h => (by cases h), fun _ => ?o8, fun h => (by cases h), fun _ => ?o9, fun h => (by cases h), fun _ => ?o10, fun h => (by cases h), fun _ => ?o11, fun h => (by cases h), fun _ => ?o12, fun h => (by cases h), fun _ => ?o13, fun h => (by cases h), fun _ => ?o14, fun h => (by cases h), fun _ => ?o15, fun h => (by cases h), fun _ => ?o16, fun h => (by cases h), fun _ => ?o17, fun h => (by cases h), fun _ => ?o18, fun h => (by cases h), fun _ => ?o19, fun h => (by cases h), fun _ => ?o20, fun h => (by cases h), fun _ => ?o21, fun h => (by cases h), fun _ => ?o22, fun h => (by cases h), fun _ => ?o23, fun h => (by cases h), fun _ => ?o24, fun h => (by cases h), fun _ => ?o25, fun h => (by cases h), fun _ => ?o26, fun h => (by cases h), fun _ => ?o27, fun h => (by cases h), fun _ => ?o28, fun h => (by cases h), fun _ => ?o29, fun h => (by cases h), fun _ => ?o30, fun h => (by cases h), fun _ => ?o31, fun h => (by cases h), fun _ => ?o32, fun h => (by cases h), fun _ => ?o33, fun h => (by cases h), fun _ => ?o34, fun h => (by cases h), fun _ => ?o35, fun h => (by cases h), fun _ => ?o36, fun h => (by cases h), fun _ => ?o37, fun h => (by cases h), fun _ => ?o38, fun h => (by cases h), fun _ => ?o39, fun h => (by cases h), fun _ => ?o40, fun h => (by cases h), fun _ => ?o41, fun h => (by cases h), fun _ => ?o42, trivial⟩ ?fin
    case hG =>
      intro g hg
      simp only [List.mem_cons, List.not_mem_nil, or_false] at hg
      rcases hg with rfl | rfl | rfl | rfl | rfl | rfl | rfl | rfl | rfl | rfl | rfl | rfl | rfl | rfl | rfl | rfl | rfl | rfl | rfl | rfl | rfl | rfl | rfl | rfl | rfl | rfl | rfl | rfl | rfl | rfl | rfl | rfl | rfl | rfl | rfl | rfl | rfl | rfl | rfl | rfl | rfl | rfl | rfl
      all_goals first | exact fun _ _ _ _ h => h | exact fun _ _ _ e h => h.ext e
    case hQ => exact fun c a w d v h => by cases d <;> exact h
    case o0 =>
      intro v w' hw hj
      simp [putOps]
      go_wp2_with fail
      refine (HK.out _).mono ?_
      rintro e w2 ⟨rfl, h2⟩
      go_wp2
      exact ⟨rfl, rfl, h2, fun d hd => by cases hd; rfl⟩
    case o1 =>
      intro v w' hw hj
      have e0 : v 0 = .bool true := hj 0 (by kernel_rfl)
      simp [putOps, Act.put, e0]
      go_wp2
      exact ⟨rfl, rfl, Ext.refl _, fun d hd => by cases hd; rfl⟩
    case o2 =>
      intro v w' hw hj
      have e1 : v 1 = .bool true := hj 1 (by kernel_rfl)
      have c0 : w'.cell? ⟨w2.heap.size, 0, none⟩ = some (.int .u64 (lo (r) : Nat)) := (hbr'.ext hw).cell 0
      have c1 : w'.cell? ⟨w2.heap.size, 1, none⟩ = some (.string (hi (r))) := (hbr'.ext hw).cell 1
      simp [putOps, Act.put, e1]
      go_wp2
      exact ⟨rfl, rfl, Ext.refl _, fun d hd => by cases hd; rfl⟩
    case o3 =>
      intro v w' hw hj
      have e1 : v 1 = .bool true := hj 1 (by kernel_rfl)
      have c0 : w'.cell? ⟨w2.heap.size, 0, none⟩ = some (.int .u64 (lo (r) : Nat)) := (hbr'.ext hw).cell 0
      have c1 : w'.cell? ⟨w2.heap.size, 1, none⟩ = some (.string (hi (r))) := (hbr'.ext hw).cell 1
      simp [putOps, Act.put, e1]
      go_wp2
      exact ⟨rfl, rfl, Ext.refl _, fun d hd => by cases hd; rfl⟩
    case o4 =>
      intro v w' hw hj
      have e2 : v 2 = .agg #[.int .u64 (lo (r) : Nat), .string (hi (r))] := hj 2 (by kernel_rfl)
      have e3 : v 3 = .agg #[.int .u64 (lo (r) : Nat), .string (hi (r))] := hj 3 (by kernel_rfl)
      have e1 : v 1 = .bool true := hj 1 (by kernel_rfl)
      simp [putOps, Act.put, e2, e3, e1]
      go_wp2_with fail
      refine (cmul BR BR _).mono ?_
      rintro e w2 ⟨rfl, h2⟩
      go_wp2
      exact ⟨rfl, rfl, h2, fun d hd => by cases hd; rfl⟩
    case o5 =>
      intro v w' hw hj
      have e1 : v 1 = .bool true := hj 1 (by kernel_rfl)
      have c0 : w'.cell? ⟨w1.heap.size, 0, none⟩ = some (.int .u64 (lo (x) : Nat)) := (hbx'.ext hw).cell 0
      have c1 : w'.cell? ⟨w1.heap.size, 1, none⟩ = some (.string (hi (x))) := (hbx'.ext hw).cell 1
      simp [putOps, Act.put, e1]
      go_wp2
      exact ⟨rfl, rfl, Ext.refl _, fun d hd => by cases hd; rfl⟩
    case o6 =>
      intro v w' hw hj
      have e4 : v 4 = .agg #[.int .u64 (lo (r * r) : Nat), .string (hi (r * r))] := hj 4 (by kernel_rfl)
      have e5 : v 5 = .agg #[.int .u64 (lo (x) : Nat), .string (hi (x))] := hj 5 (by kernel_rfl)
      have e1 : v 1 = .bool true := hj 1 (by kernel_rfl)
      simp [putOps, Act.put, e4, e5, e1]
      go_wp2_with fail
      refine (HC1.out _).mono ?_
      rintro e w2 ⟨rfl, h2⟩
      go_wp2
      exact ⟨rfl, rfl, h2, fun d hd => by cases hd; rfl⟩
    case o7 =>
      intro v w' hw hj
      have e6 : v 6 = .int .i64 z1 := hj 6 (by kernel_rfl)
      have e1 : v 1 = .bool true := hj 1 (by kernel_rfl)
      simp [putOps, Act.put, e6, e1]
      go_wp2
      exact ⟨rfl, rfl, Ext.refl _, fun d hd => by cases hd; rfl⟩
    case o8 =>
      intro v w' hw hj
      have e1 : v 1 = .bool true := hj 1 (by kernel_rfl)
      have e7 : v 7 = .bool true := hj 7 (by kernel_rfl)
      simp [putOps, Act.put, e1, e7]
      go_wp2
      exact ⟨rfl, rfl, Ext.refl _, fun d hd => by cases hd; rfl⟩
    case o9 =>
      intro v w' hw hj
      have e8 : v 8 = .bool true := hj 8 (by kernel_rfl)
      simp [putOps, Act.put, e8]
      go_wp2
      exact ⟨rfl, rfl, Ext.refl _, fun d hd => by cases hd; rfl⟩
    case o10 =>
      intro v w' hw hj
      have e9 : v 9 = .bool true := hj 9 (by kernel_rfl)
      have c0 : w'.cell? ⟨g, 0, none⟩ = some (.int .u64 (lo (r + 1) : Nat)) := (hbd.ext hw).cell 0
      have c1 : w'.cell? ⟨g, 1, none⟩ = some (.string (hi (r + 1))) := (hbd.ext hw).cell 1
      simp [putOps, Act.put, e9]
      go_wp2
      exact ⟨rfl, rfl, Ext.refl _, fun d hd => by cases hd; rfl⟩
    case o11 =>
      intro v w' hw hj
      have e9 : v 9 = .bool true := hj 9 (by kernel_rfl)
      have c0 : w'.cell? ⟨g, 0, none⟩ = some (.int .u64 (lo (r + 1) : Nat)) := (hbd.ext hw).cell 0
      have c1 : w'.cell? ⟨g, 1, none⟩ = some (.string (hi (r + 1))) := (hbd.ext hw).cell 1
      simp [putOps, Act.put, e9]
      go_wp2
      exact ⟨rfl, rfl, Ext.refl _, fun d hd => by cases hd; rfl⟩
    case o12 =>
      intro v w' hw hj
      have e10 : v 10 = .agg #[.int .u64 (lo (r + 1) : Nat), .string (hi (r + 1))] := hj 10 (by kernel_rfl)
      have e11 : v 11 = .agg #[.int .u64 (lo (r + 1) : Nat), .string (hi (r + 1))] := hj 11 (by kernel_rfl)
      have e9 : v 9 = .bool true := hj 9 (by kernel_rfl)
      simp [putOps, Act.put, e10, e11, e9]
      go_wp2_with fail
      refine (cmul (BR.add Sm.one) (BR.add Sm.one) _).mono ?_
      rintro e w2 ⟨rfl, h2⟩
      go_wp2
      exact ⟨rfl, rfl, h2, fun d hd => by cases hd; rfl⟩
    case o13 =>
      intro v w' hw hj
      have e9 : v 9 = .bool true := hj 9 (by kernel_rfl)
      have c0 : w'.cell? ⟨w1.heap.size, 0, none⟩ = some (.int .u64 (lo (x) : Nat)) := (hbx'.ext hw).cell 0
      have c1 : w'.cell? ⟨w1.heap.size, 1, none⟩ = some (.string (hi (x))) := (hbx'.ext hw).cell 1
      simp [putOps, Act.put, e9]
      go_wp2
      exact ⟨rfl, rfl, Ext.refl _, fun d hd => by cases hd; rfl⟩
    case o14 =>
      intro v w' hw hj
      have e12 : v 12 = .agg #[.int .u64 (lo ((r + 1) * (r + 1)) : Nat), .string (hi ((r + 1) * (r + 1)))] := hj 12 (by kernel_rfl)
      have e13 : v 13 = .agg #[.int .u64 (lo (x) : Nat), .string (hi (x))] := hj 13 (by kernel_rfl)
      have e9 : v 9 = .bool true := hj 9 (by kernel_rfl)
      simp [putOps, Act.put, e12, e13, e9]
      go_wp2_with fail
      refine (ccmp_gt ((BR.add Sm.one).mul (BR.add Sm.one)) BX HRI.out.2 _).mono ?_
      rintro e w2 ⟨rfl, h2⟩
      go_wp2
      exact ⟨rfl, rfl, h2, fun d hd => by cases hd; rfl⟩
    case o15 =>
      intro v w' hw hj
      have e14 : v 14 = .int .i64 1 := hj 14 (by kernel_rfl)
      have e9 : v 9 = .bool true := hj 9 (by kernel_rfl)
      simp [putOps, Act.put, e14, e9]
      go_wp2
      exact ⟨rfl, rfl, Ext.refl _, fun d hd => by cases hd; rfl⟩
    case o16 =>
      intro v w' hw hj
      have e9 : v 9 = .bool true := hj 9 (by kernel_rfl)
      have e15 : v 15 = .bool true := hj 15 (by kernel_rfl)
      simp [putOps, Act.put, e9, e15]
      go_wp2
      exact ⟨rfl, rfl, Ext.refl _, fun d hd => by cases hd; rfl⟩
    case o17 =>
      intro v w' hw hj
      have e16 : v 16 = .bool true := hj 16 (by kernel_rfl)
      simp [putOps, Act.put, e16]
      go_wp2
      exact ⟨rfl, rfl, Ext.refl _, fun d hd => by cases hd; rfl⟩
    case o18 =>
      intro v w' hw hj
      have e17 : v 17 = .bool true := hj 17 (by kernel_rfl)
      have c0 : w'.cell? ⟨w1.heap.size, 0, none⟩ = some (.int .u64 (lo (x) : Nat)) := (hbx'.ext hw).cell 0
      have c1 : w'.cell? ⟨w1.heap.size, 1, none⟩ = some (.string (hi (x))) := (hbx'.ext hw).cell 1
      simp [putOps, Act.put, e17]
      go_wp2
      exact ⟨rfl, rfl, Ext.refl _, fun d hd => by cases hd; rfl⟩
    case o19 =>
      intro v w' hw hj
      have e17 : v 17 = .bool true := hj 17 (by kernel_rfl)
      have c0 : w'.cell? ⟨w1.heap.size, 0, none⟩ = some (.int .u64 (lo (x) : Nat)) := (hbx'.ext hw).cell 0
      have c1 : w'.cell? ⟨w1.heap.size, 1, none⟩ = some (.string (hi (x))) := (hbx'.ext hw).cell 1
      simp [putOps, Act.put, e17]
      go_wp2
      exact ⟨rfl, rfl, Ext.refl _, fun d hd => by cases hd; rfl⟩
    case o20 =>
      intro v w' hw hj
      have e18 : v 18 = .agg #[.int .u64 (lo (x) : Nat), .string (hi (x))] := hj 18 (by kernel_rfl)
      have e19 : v 19 = .agg #[.int .u64 (lo (x) : Nat), .string (hi (x))] := hj 19 (by kernel_rfl)
      have e17 : v 17 = .bool true := hj 17 (by kernel_rfl)
      simp [putOps, Act.put, e18, e19, e17]
      go_wp2_with fail
      refine (cmul BX BX _).mono ?_
      rintro e w2 ⟨rfl, h2⟩
      go_wp2
      exact ⟨rfl, rfl, h2, fun d hd => by cases hd; rfl⟩
    case o21 =>
      intro v w' hw hj
      have e20 : v 20 = .agg #[.int .u64 (lo (x * x) : Nat), .string (hi (x * x))] := hj 20 (by kernel_rfl)
      have e17 : v 17 = .bool true := hj 17 (by kernel_rfl)
      simp [putOps, Act.put, e20, e17]
      go_wp2_with fail
      refine (HRS.out _).mono ?_
      rintro e w2 ⟨rfl, h2⟩
      go_wp2
      exact ⟨rfl, rfl, h2, fun d hd => by cases hd; rfl⟩
    case o22 =>
      intro v w' hw hj
      have e17 : v 17 = .bool true := hj 17 (by kernel_rfl)
      have c0 : w'.cell? ⟨w1.heap.size, 0, none⟩ = some (.int .u64 (lo (x) : Nat)) := (hbx'.ext hw).cell 0
      have c1 : w'.cell? ⟨w1.heap.size, 1, none⟩ = some (.string (hi (x))) := (hbx'.ext hw).cell 1
      simp [putOps, Act.put, e17]
      go_wp2
      exact ⟨rfl, rfl, Ext.refl _, fun d hd => by cases hd; rfl⟩
    case o23 =>
      intro v w' hw hj
      have e21 : v 21 = .agg #[.int .u64 (lo (x) : Nat), .string (hi (x))] := hj 21 (by kernel_rfl)
      have e22 : v 22 = .agg #[.int .u64 (lo (x) : Nat), .string (hi (x))] := hj 22 (by kernel_rfl)
      have e17 : v 17 = .bool true := hj 17 (by kernel_rfl)
      simp [putOps, Act.put, e21, e22, e17]
      go_wp2_with fail
      refine (ccmp_eq BX BX rfl _).mono ?_
      rintro e w2 ⟨rfl, h2⟩
      go_wp2
      exact ⟨rfl, rfl, h2, fun d hd => by cases hd; rfl⟩
    case o24 =>
      intro v w' hw hj
      have e23 : v 23 = .int .i64 0 := hj 23 (by kernel_rfl)
      have e17 : v 17 = .bool true := hj 17 (by kernel_rfl)
      simp [putOps, Act.put, e23, e17]
      go_wp2
      exact ⟨rfl, rfl, Ext.refl _, fun d hd => by cases hd; rfl⟩
    case o25 =>
      intro v w' hw hj
      have e17 : v 17 = .bool true := hj 17 (by kernel_rfl)
      have e24 : v 24 = .bool true := hj 24 (by kernel_rfl)
      simp [putOps, Act.put, e17, e24]
      go_wp2
      exact ⟨rfl, rfl, Ext.refl _, fun d hd => by cases hd; rfl⟩
    case o26 =>
      intro v w' hw hj
      have e25 : v 25 = .bool true := hj 25 (by kernel_rfl)
      simp [putOps, Act.put, e25]
      go_wp2
      exact ⟨rfl, rfl, Ext.refl _, fun d hd => by cases hd; rfl⟩
    case o27 =>
      intro v w' hw hj
      have e26 : v 26 = .bool true := hj 26 (by kernel_rfl)
      have c0 : w'.cell? ⟨w1.heap.size, 0, none⟩ = some (.int .u64 (lo (x) : Nat)) := (hbx'.ext hw).cell 0
      have c1 : w'.cell? ⟨w1.heap.size, 1, none⟩ = some (.string (hi (x))) := (hbx'.ext hw).cell 1
      simp [putOps, Act.put, e26]
      go_wp2
      exact ⟨rfl, rfl, Ext.refl _, fun d hd => by cases hd; rfl⟩
    case o28 =>
      intro v w' hw hj
      have e27 : v 27 = .agg #[.int .u64 (lo (x) : Nat), .string (hi (x))] := hj 27 (by kernel_rfl)
      have e26 : v 26 = .bool true := hj 26 (by kernel_rfl)
      simp [putOps, Act.put, e27, e26]
      go_wp2_with fail
      refine (S7.out _).mono ?_
      rintro e w2 ⟨rfl, h2⟩
      go_wp2
      exact ⟨rfl, rfl, h2, fun d hd => by cases hd; rfl⟩
    case o29 =>
      intro v w' hw hj
      have e28 : v 28 = .agg #[.int .u64 (lo (x7) : Nat), .string (hi (x7))] := hj 28 (by kernel_rfl)
      have e26 : v 26 = .bool true := hj 26 (by kernel_rfl)
      simp [putOps, Act.put, e28, e26]
      go_wp2_with fail
      refine (S7'.out _).mono ?_
      rintro e w2 ⟨rfl, h2⟩
      go_wp2
      exact ⟨rfl, rfl, h2, fun d hd => by cases hd; rfl⟩
    case o30 =>
      intro v w' hw hj
      have e26 : v 26 = .bool true := hj 26 (by kernel_rfl)
      have c0 : w'.cell? ⟨w1.heap.size, 0, none⟩ = some (.int .u64 (lo (x) : Nat)) := (hbx'.ext hw).cell 0
      have c1 : w'.cell? ⟨w1.heap.size, 1, none⟩ = some (.string (hi (x))) := (hbx'.ext hw).cell 1
      simp [putOps, Act.put, e26]
      go_wp2
      exact ⟨rfl, rfl, Ext.refl _, fun d hd => by cases hd; rfl⟩
    case o31 =>
      intro v w' hw hj
      have e29 : v 29 = .agg #[.int .u64 (lo (x) : Nat), .string (hi (x))] := hj 29 (by kernel_rfl)
      have e30 : v 30 = .agg #[.int .u64 (lo (x) : Nat), .string (hi (x))] := hj 30 (by kernel_rfl)
      have e26 : v 26 = .bool true := hj 26 (by kernel_rfl)
      simp [putOps, Act.put, e29, e30, e26]
      go_wp2_with fail
      refine (ccmp_eq BX BX rfl _).mono ?_
      rintro e w2 ⟨rfl, h2⟩
      go_wp2
      exact ⟨rfl, rfl, h2, fun d hd => by cases hd; rfl⟩
    case o32 =>
      intro v w' hw hj
      have e31 : v 31 = .int .i64 0 := hj 31 (by kernel_rfl)
      have e26 : v 26 = .bool true := hj 26 (by kernel_rfl)
      simp [putOps, Act.put, e31, e26]
      go_wp2
      exact ⟨rfl, rfl, Ext.refl _, fun d hd => by cases hd; rfl⟩
    case o33 =>
      intro v w' hw hj
      have e26 : v 26 = .bool true := hj 26 (by kernel_rfl)
      have e32 : v 32 = .bool true := hj 32 (by kernel_rfl)
      simp [putOps, Act.put, e26, e32]
      go_wp2
      exact ⟨rfl, rfl, Ext.refl _, fun d hd => by cases hd; rfl⟩
    case o34 =>
      intro v w' hw hj
      have e33 : v 33 = .bool true := hj 33 (by kernel_rfl)
      simp [putOps, Act.put, e33]
      go_wp2
      exact ⟨rfl, rfl, Ext.refl _, fun d hd => by cases hd; rfl⟩
    case o35 =>
      intro v w' hw hj
      have e34 : v 34 = .bool true := hj 34 (by kernel_rfl)
      have c0 : w'.cell? ⟨w1.heap.size, 0, none⟩ = some (.int .u64 (lo (x) : Nat)) := (hbx'.ext hw).cell 0
      have c1 : w'.cell? ⟨w1.heap.size, 1, none⟩ = some (.string (hi (x))) := (hbx'.ext hw).cell 1
      simp [putOps, Act.put, e34]
      go_wp2
      exact ⟨rfl, rfl, Ext.refl _, fun d hd => by cases hd; rfl⟩
    case o36 =>
      intro v w' hw hj
      have e35 : v 35 = .agg #[.int .u64 (lo (x) : Nat), .string (hi (x))] := hj 35 (by kernel_rfl)
      have e34 : v 34 = .bool true := hj 34 (by kernel_rfl)
      simp [putOps, Act.put, e35, e34]
      go_wp2_with fail
      refine (SH1.out _).mono ?_
      rintro e w2 ⟨rfl, h2⟩
      go_wp2
      exact ⟨rfl, rfl, h2, fun d hd => by cases hd; rfl⟩
    case o37 =>
      intro v w' hw hj
      have e34 : v 34 = .bool true := hj 34 (by kernel_rfl)
      have c0 : w'.cell? ⟨w1.heap.size, 0, none⟩ = some (.int .u64 (lo (x) : Nat)) := (hbx'.ext hw).cell 0
      have c1 : w'.cell? ⟨w1.heap.size, 1, none⟩ = some (.string (hi (x))) := (hbx'.ext hw).cell 1
      simp [putOps, Act.put, e34]
      go_wp2
      exact ⟨rfl, rfl, Ext.refl _, fun d hd => by cases hd; rfl⟩
    case o38 =>
      intro v w' hw hj
      have e34 : v 34 = .bool true := hj 34 (by kernel_rfl)
      have c0 : w'.cell? ⟨w1.heap.size, 0, none⟩ = some (.int .u64 (lo (x) : Nat)) := (hbx'.ext hw).cell 0
      have c1 : w'.cell? ⟨w1.heap.size, 1, none⟩ = some (.string (hi (x))) := (hbx'.ext hw).cell 1
      simp [putOps, Act.put, e34]
      go_wp2
      exact ⟨rfl, rfl, Ext.refl _, fun d hd => by cases hd; rfl⟩
    case o39 =>
      intro v w' hw hj
      have e37 : v 37 = .agg #[.int .u64 (lo (x) : Nat), .string (hi (x))] := hj 37 (by kernel_rfl)
      have e38 : v 38 = .agg #[.int .u64 (lo (x) : Nat), .string (hi (x))] := hj 38 (by kernel_rfl)
      have e34 : v 34 = .bool true := hj 34 (by kernel_rfl)
      simp [putOps, Act.put, e37, e38, e34]
      go_wp2_with fail
      refine (cadd BX BX _).mono ?_
      rintro e w2 ⟨rfl, h2⟩
      go_wp2
      exact ⟨rfl, rfl, h2, fun d hd => by cases hd; rfl⟩
    case o40 =>
      intro v w' hw hj
      have e36 : v 36 = .agg #[.int .u64 (lo (x + x) : Nat), .string (hi (x + x))] := hj 36 (by kernel_rfl)
      have e39 : v 39 = .agg #[.int .u64 (lo (x + x) : Nat), .string (hi (x + x))] := hj 39 (by kernel_rfl)
      have e34 : v 34 = .bool true := hj 34 (by kernel_rfl)
      simp [putOps, Act.put, e36, e39, e34]
      go_wp2_with fail
      refine (ccmp_eq (BX.add BX) (BX.add BX) rfl _).mono ?_
      rintro e w2 ⟨rfl, h2⟩
      go_wp2
      exact ⟨rfl, rfl, h2, fun d hd => by cases hd; rfl⟩
    case o41 =>
      intro v w' hw hj
      have e40 : v 40 = .int .i64 0 := hj 40 (by kernel_rfl)
      have e34 : v 34 = .bool true := hj 34 (by kernel_rfl)
      simp [putOps, Act.put, e40, e34]
      go_wp2
      exact ⟨rfl, rfl, Ext.refl _, fun d hd => by cases hd; rfl⟩
    case o42 =>
      intro v w' hw hj
      have e34 : v 34 = .bool true := hj 34 (by kernel_rfl)
      have e41 : v 41 = .bool true := hj 41 (by kernel_rfl)
      simp [putOps, Act.put, e34, e41]
      go_wp2
      exact ⟨rfl, rfl, Ext.refl _, fun d hd => by cases hd; rfl⟩
    case fin =>
      intro v w' hw hj
      have e42 : v 42 = .bool true := hj 42 63 (by omega) rfl
      simp [putOps, Act.put, e42]
      go_wp2
      go_ret
      exact ⟨rfl, E4.out.trans hw⟩
end Go.Proofs.YtcfpjgcellahnaaDoor
