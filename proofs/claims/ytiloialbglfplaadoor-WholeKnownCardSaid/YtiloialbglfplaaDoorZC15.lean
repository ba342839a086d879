/- The law WholeRing: its walk. (Printed by walks/z7.py.) The law WholeBezout: its walk. (Printed by walks/zb.py.) Walks over whole: Pow; the law WholePowers: its walk. (Printed by walks/zp.py.) Parse and Small of some whole numbers; the law WholeKnown: its walk. (Printed by walks/zk.py.) The law WholeKnown of chapter 2 is true: the examples of chapter 2 and further cases. -/
import Derived.Test.YtiloialbglfplaaDoorCards
import Derived.Test.YtiloialbglfplaaDoorB11
namespace Go.Proofs.YtiloialbglfplaaDoor
open Go.RowKit

theorem zcmp_eq {j k : Nat} {x y : Int} (hx : Sm j x.natAbs) (hy : Sm k y.natAbs) (e : x = y) (W : World) (h : max j k ≤ 549755813887) : Calls Tryd.prog 17 #[zV x, zV y] W (Ret (.int .i64 0) W) := by
  have h := zcmp hx hy W h
  rw [show cmpZ x y = 0 from by subst e; unfold cmpZ; simp] at h
  exact h
theorem fmod_sgn {x y : Int} (h : decide (x.fmod y = 0) = false) (h0 : decide (y = 0) = false) : ((x.fmod y).sign == y.sign) = true := by
  have h := of_decide_eq_false h
  have h0 := of_decide_eq_false h0
  rw [beq_iff_eq]
  have h2 := fmod_sign x h0
  rcases Int.lt_or_gt_of_ne h0 with h' | h'
  · have h3 := (Int.fdiv_fmod_unique' (a := x) h').1 ⟨rfl, rfl⟩
    rw [Int.sign_eq_neg_one_of_neg h', Int.sign_eq_neg_one_of_neg (by omega)]
  · have h3 := Int.fmod_nonneg_of_pos x h'
    rw [Int.sign_eq_one_of_pos h', Int.sign_eq_one_of_pos (by omega)]

set_option maxHeartbeats 8000000 in
theorem wholeRing_any (l0 : List UInt8) (v0 : Value) (l1 : List UInt8) (v1 : Value) (l2 : List UInt8) (v2 : Value) (b3 b4 : Bool) (w : World) (s0 : SlB l0 v0 w) (s1 : SlB l1 v1 w) (s2 : SlB l2 v2 w) : Calls Tryd.prog 4 #[v0, v1, v2, .bool b3, .bool b4] w (Ret (.bool true) w) := by
  obtain ⟨A1, c1, rfl⟩ := s0.form
  obtain ⟨A2, c2, rfl⟩ := s1.form
  obtain ⟨A3, c3, rfl⟩ := s2.form
  have HT := fun W h1 h2 => two2 l0 l1 (.slice A1 l0.length c1) (.slice A2 l1.length c2) b3 b4 W h1 h2
  have HT2 := fun W h1 h2 => two2 l2 [] (.slice A3 l2.length c3) (.slice none 0 0) (!(b3 == b4)) false W h1 h2
  have hx : Sm 320 (sg b3 (beN (l0.take 40))).natAbs := by rw [sg_abs]; exact Sm.take40 l0
  have hy : Sm 320 (sg b4 (beN (l1.take 40))).natAbs := by rw [sg_abs]; exact Sm.take40 l1
  have hz : Sm 320 (sg (!(b3 == b4)) (beN (l2.take 40))).natAbs := by rw [sg_abs]; exact Sm.take40 l2
  generalize sg b3 (beN (l0.take 40)) = x at *
  generalize sg b4 (beN (l1.take 40)) = y at *
  generalize sg (!(b3 == b4)) (beN (l2.take 40)) = z at *
  generalize sg false (beN (([] : List UInt8).take 40)) = y2 at *
  have hs := St.start w
  have hs := hs.add8 s0 (by kernel_rfl)
  have hs := hs.add8 s1 (by kernel_rfl)
  have hs := hs.add8 s2 (by kernel_rfl)
  refine enter Tryd.func4 rfl Tryd.ntmps4 (by kernel_rfl) fun ac ha => ?_
  refine wp_seq ?_
  refine wp_region_lit ?_
  refine s_val ha (.bool false) fun ac ha => ?_
  refine wpList_nil ((x_normal ?_))
  refine wp_seq ?_
  refine wp_region_lit ?_
  refine s_val ha (.slice A1 l0.length c1) fun ac ha => ?_
  refine s_val ha (.slice A2 l1.length c2) fun ac ha => ?_
  refine s_val ha (.bool b3) fun ac ha => ?_
  refine s_val ha (.bool b4) fun ac ha => ?_
  refine s_callP ha hs (HT _ (hs.get 2 rfl) (hs.get 1 rfl)) fun u ac wd hp ha hs => ?_
  obtain ⟨x1, y1, rfl, p1, q1⟩ := hp
  obtain ⟨Ai2, ci2, rfl, r2⟩ := p1
  have hs := hs.add32 r2 (by kernel_rfl)
  obtain ⟨Ai3, ci3, rfl, r3⟩ := q1
  have hs := hs.add32 r3 (by kernel_rfl)
  refine s_val ha (.tuple #[zV x, zV y, riV x Ai2 ci2, riV y Ai3 ci3]) fun ac ha => ?_
  refine s_val ha (zV x) fun ac ha => ?_
  refine s_val ha (zV y) fun ac ha => ?_
  refine s_val ha (riV x Ai2 ci2) fun ac ha => ?_
  refine s_val ha (riV y Ai3 ci3) fun ac ha => ?_
  refine s_alloc ha hs [.bool false, .int .u64 0, .string (⟨#[]⟩)] fun g4 ac wd ha hs => ?_
  refine s_alloc ha hs [.bool false, .int .u64 0, .string (⟨#[]⟩)] fun g5 ac wd ha hs => ?_
  refine s_alloc ha hs [.bool false, .slice none 0 0] fun g6 ac wd ha hs => ?_
  refine s_alloc ha hs [.bool false, .slice none 0 0] fun g7 ac wd ha hs => ?_
  refine s_store ha hs 3 _ fun ac wd ha hs => ?_
  refine s_store ha hs 2 _ fun ac wd ha hs => ?_
  refine s_store ha hs 1 _ fun ac wd ha hs => ?_
  refine s_store ha hs 0 _ fun ac wd ha hs => ?_
  refine wpList_nil ((x_normal ?_))
  refine wp_seq ?_
  refine wp_region_lit ?_
  refine s_val ha (.slice A3 l2.length c3) fun ac ha => ?_
  refine s_val ha (.bool b3) fun ac ha => ?_
  refine s_val ha (.bool b4) fun ac ha => ?_
  refine s_val ha (.bool (!(b3 == b4))) fun ac ha => ?_
  refine s_callP ha hs (HT2 _ (hs.get 2 rfl) (SlB.nil _)) fun u ac wd hp ha hs => ?_
  obtain ⟨x8, y8, rfl, p8, q8⟩ := hp
  obtain ⟨Ai9, ci9, rfl, r9⟩ := p8
  have hs := hs.add32 r9 (by kernel_rfl)
  obtain ⟨Ai10, ci10, rfl, r10⟩ := q8
  have hs := hs.add32 r10 (by kernel_rfl)
  refine s_val ha (.tuple #[zV z, zV y2, riV z Ai9 ci9, riV y2 Ai10 ci10]) fun ac ha => ?_
  refine s_val ha (zV z) fun ac ha => ?_
  refine s_val ha (zV y2) fun ac ha => ?_
  refine s_val ha (riV z Ai9 ci9) fun ac ha => ?_
  refine s_val ha (riV y2 Ai10 ci10) fun ac ha => ?_
  refine s_alloc ha hs [.bool false, .int .u64 0, .string (⟨#[]⟩)] fun g11 ac wd ha hs => ?_
  refine s_alloc ha hs [.bool false, .int .u64 0, .string (⟨#[]⟩)] fun g12 ac wd ha hs => ?_
  refine s_alloc ha hs [.bool false, .slice none 0 0] fun g13 ac wd ha hs => ?_
  refine s_alloc ha hs [.bool false, .slice none 0 0] fun g14 ac wd ha hs => ?_
  refine s_store ha hs 3 _ fun ac wd ha hs => ?_
  refine s_store ha hs 2 _ fun ac wd ha hs => ?_
  refine s_store ha hs 1 _ fun ac wd ha hs => ?_
  refine s_store ha hs 0 _ fun ac wd ha hs => ?_
  refine wpList_nil ((x_normal ?_))
  refine wp_seq ?_
  refine wp_region_lit ?_
  refine s_load ha hs 7 (zV x) fun ac ha => ?_
  refine s_load ha hs 6 (zV y) fun ac ha => ?_
  rcases Bool.eq_false_or_eq_true (decide (y = 0)) with hb15 | hb15
  ·
    have phb15 := of_decide_eq_true hb15
    refine s_call ha hs (.tuple #[zV (0 : Int), zV (0 : Int), .bool false]) (zdiv_no x (of_decide_eq_true hb15) _) fun ac wd ha hs => ?_
    refine s_val ha (.tuple #[zV (0 : Int), zV (0 : Int), .bool false]) fun ac ha => ?_
    refine s_val ha (zV (0 : Int)) fun ac ha => ?_
    refine s_val ha (zV (0 : Int)) fun ac ha => ?_
    refine s_val ha (.bool false) fun ac ha => ?_
    refine s_alloc ha hs [.bool false, .int .u64 0, .string (⟨#[]⟩)] fun g16 ac wd ha hs => ?_
    refine s_alloc ha hs [.bool false, .int .u64 0, .string (⟨#[]⟩)] fun g17 ac wd ha hs => ?_
    refine s_store ha hs 1 _ fun ac wd ha hs => ?_
    refine s_store ha hs 0 _ fun ac wd ha hs => ?_
    refine s_val ha (.bool false) fun ac ha => ?_
    refine wpList_nil ((x_normal ?_))
    refine wp_seq ?_
    refine wp_seq ?_
    refine region_sp ha 67 [.eq (.bool true), .eq (.bool false), .eq (.bool false), .eq (zV x), .eq (zV y), .eq (zV (x + y)), .eq (zV y), .eq (zV x), .eq (zV (y + x)), .eq (.int .i64 0), .eq (.bool false), .eq (.bool false), .eq (.bool false), .eq (zV x), .eq (zV y), .eq (zV z), .eq (zV (y + z)), .eq (zV (x * (y + z))), .eq (zV x), .eq (zV y), .eq (zV (x * y)), .eq (zV x), .eq (zV z), .eq (zV (x * z)), .eq (zV ((x * y) + (x * z))), .eq (.int .i64 0), .eq (.bool false), .eq (.bool false), .eq (.bool false), .eq (zV x), .eq (zV y), .eq (zV (x - y)), .eq (zV y), .eq (zV ((x - y) + y)), .eq (zV x), .eq (.int .i64 0), .eq (.bool false), .eq (.bool false), .eq (.bool false), .eq (zV x), .eq (zV y), .eq (zV (x * y)), .eq (zV z), .eq (zV ((x * y) * z)), .eq (zV z), .eq (zV y), .eq (zV (z * y)), .eq (zV x), .eq (zV ((z * y) * x)), .eq (.int .i64 0), .eq (.bool false), .eq (.bool false), .eq (.bool false), .eq (zV x), .eq (zV (-x)), .eq (zV (-(-x))), .eq (zV x), .eq (.int .i64 0), .eq (.bool false), .eq (.bool false), .eq (.bool false), .eq (.bool false), .eq (zV y), .eq (.int .i64 0), .eq (.bool false), .eq (.bool false), .eq (.bool false)] [] [] (fun _ hb => by cases hb)
      ⟨d_call (fun _ hw => known2 _), d_val, d_val, d_load hs 9, d_load hs 8, d_call (fun _ hw => zadd hx hy _ (by omega)), d_load hs 8, d_load hs 9, d_call (fun _ hw => zadd hy hx _ (by omega)), d_call (fun _ hw => zcmp_eq (hx.zadd hy) (hy.zadd hx) (by grind) _ (by omega)), d_val, d_val, d_val, d_load hs 9, d_load hs 8, d_load hs 5, d_call (fun _ hw => zadd hy hz _ (by omega)), d_call (fun _ hw => zmul hx (hy.zadd hz) _ (by omega)), d_load hs 9, d_load hs 8, d_call (fun _ hw => zmul hx hy _ (by omega)), d_load hs 9, d_load hs 5, d_call (fun _ hw => zmul hx hz _ (by omega)), d_call (fun _ hw => zadd (hx.zmul hy) (hx.zmul hz) _ (by omega)), d_call (fun _ hw => zcmp_eq (hx.zmul (hy.zadd hz)) ((hx.zmul hy).zadd (hx.zmul hz)) (by grind) _ (by omega)), d_val, d_val, d_val, d_load hs 9, d_load hs 8, d_call (fun _ hw => zsub hx hy _ (by omega)), d_load hs 8, d_call (fun _ hw => zadd (hx.zsub hy) hy _ (by omega)), d_load hs 9, d_call (fun _ hw => zcmp_eq ((hx.zsub hy).zadd hy) hx (by grind) _ (by omega)), d_val, d_val, d_val, d_load hs 9, d_load hs 8, d_call (fun _ hw => zmul hx hy _ (by omega)), d_load hs 5, d_call (fun _ hw => zmul (hx.zmul hy) hz _ (by omega)), d_load hs 5, d_load hs 8, d_call (fun _ hw => zmul hz hy _ (by omega)), d_load hs 9, d_call (fun _ hw => zmul (hz.zmul hy) hx _ (by omega)), d_call (fun _ hw => zcmp_eq ((hx.zmul hy).zmul hz) ((hz.zmul hy).zmul hx) (by grind) _ (by omega)), d_val, d_val, d_val, d_load hs 9, d_call (fun _ hw => zneg hx _ (by omega)), d_call (fun _ hw => zneg hx.zneg _ (by omega)), d_load hs 9, d_call (fun _ hw => zcmp_eq hx.zneg.zneg hx (by grind) _ (by omega)), d_val, d_val, d_val, d_val, d_load hs 8, d_call (fun _ hw => zsign0 (of_decide_eq_true hb15) _), d_val, d_val, d_val, trivial⟩ ?_
    intro vv wd1 ac hw hG hN ha
    have ha := ha.sub [(0, .slice A1 l0.length c1), (1, .slice A2 l1.length c2), (2, .slice A3 l2.length c3), (3, .bool b3), (4, .bool b4), (10, .bool false), (23, .slice A1 l0.length c1), (24, .slice A2 l1.length c2), (25, .bool b3), (26, .bool b4), (27, .tuple #[zV x, zV y, riV x Ai2 ci2, riV y Ai3 ci3]), (22, .tuple #[zV x, zV y, riV x Ai2 ci2, riV y Ai3 ci3]), (28, zV x), (29, zV y), (30, riV x Ai2 ci2), (31, riV y Ai3 ci3), (11, .pointer (some ⟨g4, 0, none⟩)), (12, .pointer (some ⟨g5, 0, none⟩)), (13, .pointer (some ⟨g6, 0, none⟩)), (14, .pointer (some ⟨g7, 0, none⟩)), (33, .slice A3 l2.length c3), (34, .bool b3), (35, .bool b4), (36, .bool (!(b3 == b4))), (37, .tuple #[zV z, zV y2, riV z Ai9 ci9, riV y2 Ai10 ci10]), (32, .tuple #[zV z, zV y2, riV z Ai9 ci9, riV y2 Ai10 ci10]), (38, zV z), (39, zV y2), (40, riV z Ai9 ci9), (41, riV y2 Ai10 ci10), (15, .pointer (some ⟨g11, 0, none⟩)), (16, .pointer (some ⟨g12, 0, none⟩)), (17, .pointer (some ⟨g13, 0, none⟩)), (18, .pointer (some ⟨g14, 0, none⟩)), (43, zV x), (44, zV y), (45, .tuple #[zV (0 : Int), zV (0 : Int), .bool false]), (42, .tuple #[zV (0 : Int), zV (0 : Int), .bool false]), (46, zV (0 : Int)), (47, zV (0 : Int)), (48, .bool false), (19, .pointer (some ⟨g16, 0, none⟩)), (20, .pointer (some ⟨g17, 0, none⟩)), (21, .bool false), (115, .bool false)]
    clear hG hN
    have hs := hs.go hw
    clear hw
    refine keeps_nil ?_
    show wpList _ _ _ _ _ _
    refine wpList_nil ((x_normal ?_))
    refine r_false ha ?_
    refine wp_skip ((x_normal ?_))
    refine wp_seq ?_
    refine region_sp ha 32 [.eq (.bool false), .eq (.bool true), .eq (.bool true), .eq (undef), .eq (undef), .eq (undef), .eq (undef), .eq (undef), .eq (undef), .eq (undef), .eq (undef), .eq (undef), .eq (undef), .eq (undef), .eq (undef), .eq (undef), .eq (undef), .eq (undef), .eq (undef), .eq (undef), .eq (undef), .eq (undef), .eq (undef), .eq (undef), .eq (undef), .eq (undef), .eq (undef), .eq (undef), .eq (undef), .eq (undef), .eq (undef), .eq (.bool true)] [] [] (fun _ hb => by cases hb)
      ⟨d_val, d_val, d_val, d_not, d_not, d_not, d_not, d_not, d_not, d_not, d_not, d_not, d_not, d_not, d_not, d_not, d_not, d_not, d_not, d_not, d_not, d_not, d_not, d_not, d_not, d_not, d_not, d_not, d_not, d_not, d_not, d_val, trivial⟩ ?_
    intro vv wd1 ac hw hG hN ha
    have ha := ha.sub [(0, .slice A1 l0.length c1), (1, .slice A2 l1.length c2), (2, .slice A3 l2.length c3), (3, .bool b3), (4, .bool b4), (10, .bool false), (23, .slice A1 l0.length c1), (24, .slice A2 l1.length c2), (25, .bool b3), (26, .bool b4), (27, .tuple #[zV x, zV y, riV x Ai2 ci2, riV y Ai3 ci3]), (22, .tuple #[zV x, zV y, riV x Ai2 ci2, riV y Ai3 ci3]), (28, zV x), (29, zV y), (30, riV x Ai2 ci2), (31, riV y Ai3 ci3), (11, .pointer (some ⟨g4, 0, none⟩)), (12, .pointer (some ⟨g5, 0, none⟩)), (13, .pointer (some ⟨g6, 0, none⟩)), (14, .pointer (some ⟨g7, 0, none⟩)), (33, .slice A3 l2.length c3), (34, .bool b3), (35, .bool b4), (36, .bool (!(b3 == b4))), (37, .tuple #[zV z, zV y2, riV z Ai9 ci9, riV y2 Ai10 ci10]), (32, .tuple #[zV z, zV y2, riV z Ai9 ci9, riV y2 Ai10 ci10]), (38, zV z), (39, zV y2), (40, riV z Ai9 ci9), (41, riV y2 Ai10 ci10), (15, .pointer (some ⟨g11, 0, none⟩)), (16, .pointer (some ⟨g12, 0, none⟩)), (17, .pointer (some ⟨g13, 0, none⟩)), (18, .pointer (some ⟨g14, 0, none⟩)), (43, zV x), (44, zV y), (45, .tuple #[zV (0 : Int), zV (0 : Int), .bool false]), (42, .tuple #[zV (0 : Int), zV (0 : Int), .bool false]), (46, zV (0 : Int)), (47, zV (0 : Int)), (48, .bool false), (19, .pointer (some ⟨g16, 0, none⟩)), (20, .pointer (some ⟨g17, 0, none⟩)), (21, .bool false), (115, .bool false), (147, .bool true)]
    clear hG hN
    have hs := hs.go hw
    clear hw
    refine keeps_nil ?_
    show wpList _ _ _ _ _ _
    refine s_val ha (.bool true) fun ac ha => ?_
    refine wpList_nil ((x_normal ?_))
    refine wp_ret (ret_at ha hs rfl [.bool true] ⟨rfl, trivial⟩ ?_)
    exact ⟨rfl, hs.ext⟩
  ·
    have phb15 := of_decide_eq_false hb15
    refine s_call ha hs (.tuple #[zV (x.fdiv y), zV (x.fmod y), .bool true]) (zdiv hx hy (of_decide_eq_false hb15) _ (by omega)) fun ac wd ha hs => ?_
    refine s_val ha (.tuple #[zV (x.fdiv y), zV (x.fmod y), .bool true]) fun ac ha => ?_
    refine s_val ha (zV (x.fdiv y)) fun ac ha => ?_
    refine s_val ha (zV (x.fmod y)) fun ac ha => ?_
    refine s_val ha (.bool true) fun ac ha => ?_
    refine s_alloc ha hs [.bool false, .int .u64 0, .string (⟨#[]⟩)] fun g20 ac wd ha hs => ?_
    refine s_alloc ha hs [.bool false, .int .u64 0, .string (⟨#[]⟩)] fun g21 ac wd ha hs => ?_
    refine s_store ha hs 1 _ fun ac wd ha hs => ?_
    refine s_store ha hs 0 _ fun ac wd ha hs => ?_
    refine s_val ha (.bool true) fun ac ha => ?_
    refine wpList_nil ((x_normal ?_))
    refine wp_seq ?_
    refine wp_seq ?_
    refine region_sp ha 67 [.eq (.bool true), .eq (.bool false), .eq (.bool false), .eq (zV x), .eq (zV y), .eq (zV (x + y)), .eq (zV y), .eq (zV x), .eq (zV (y + x)), .eq (.int .i64 0), .eq (.bool false), .eq (.bool false), .eq (.bool false), .eq (zV x), .eq (zV y), .eq (zV z), .eq (zV (y + z)), .eq (zV (x * (y + z))), .eq (zV x), .eq (zV y), .eq (zV (x * y)), .eq (zV x), .eq (zV z), .eq (zV (x * z)), .eq (zV ((x * y) + (x * z))), .eq (.int .i64 0), .eq (.bool false), .eq (.bool false), .eq (.bool false), .eq (zV x), .eq (zV y), .eq (zV (x - y)), .eq (zV y), .eq (zV ((x - y) + y)), .eq (zV x), .eq (.int .i64 0), .eq (.bool false), .eq (.bool false), .eq (.bool false), .eq (zV x), .eq (zV y), .eq (zV (x * y)), .eq (zV z), .eq (zV ((x * y) * z)), .eq (zV z), .eq (zV y), .eq (zV (z * y)), .eq (zV x), .eq (zV ((z * y) * x)), .eq (.int .i64 0), .eq (.bool false), .eq (.bool false), .eq (.bool false), .eq (zV x), .eq (zV (-x)), .eq (zV (-(-x))), .eq (zV x), .eq (.int .i64 0), .eq (.bool false), .eq (.bool false), .eq (.bool false), .eq (.bool true), .eq (zV y), .eq (.int .i64 y.sign), .eq (.bool true), .eq (.bool false), .eq (.bool false)] [] [] (fun _ hb => by cases hb)
      ⟨d_call (fun _ hw => known2 _), d_val, d_val, d_load hs 9, d_load hs 8, d_call (fun _ hw => zadd hx hy _ (by omega)), d_load hs 8, d_load hs 9, d_call (fun _ hw => zadd hy hx _ (by omega)), d_call (fun _ hw => zcmp_eq (hx.zadd hy) (hy.zadd hx) (by grind) _ (by omega)), d_val, d_val, d_val, d_load hs 9, d_load hs 8, d_load hs 5, d_call (fun _ hw => zadd hy hz _ (by omega)), d_call (fun _ hw => zmul hx (hy.zadd hz) _ (by omega)), d_load hs 9, d_load hs 8, d_call (fun _ hw => zmul hx hy _ (by omega)), d_load hs 9, d_load hs 5, d_call (fun _ hw => zmul hx hz _ (by omega)), d_call (fun _ hw => zadd (hx.zmul hy) (hx.zmul hz) _ (by omega)), d_call (fun _ hw => zcmp_eq (hx.zmul (hy.zadd hz)) ((hx.zmul hy).zadd (hx.zmul hz)) (by grind) _ (by omega)), d_val, d_val, d_val, d_load hs 9, d_load hs 8, d_call (fun _ hw => zsub hx hy _ (by omega)), d_load hs 8, d_call (fun _ hw => zadd (hx.zsub hy) hy _ (by omega)), d_load hs 9, d_call (fun _ hw => zcmp_eq ((hx.zsub hy).zadd hy) hx (by grind) _ (by omega)), d_val, d_val, d_val, d_load hs 9, d_load hs 8, d_call (fun _ hw => zmul hx hy _ (by omega)), d_load hs 5, d_call (fun _ hw => zmul (hx.zmul hy) hz _ (by omega)), d_load hs 5, d_load hs 8, d_call (fun _ hw => zmul hz hy _ (by omega)), d_load hs 9, d_call (fun _ hw => zmul (hz.zmul hy) hx _ (by omega)), d_call (fun _ hw => zcmp_eq ((hx.zmul hy).zmul hz) ((hz.zmul hy).zmul hx) (by grind) _ (by omega)), d_val, d_val, d_val, d_load hs 9, d_call (fun _ hw => zneg hx _ (by omega)), d_call (fun _ hw => zneg hx.zneg _ (by omega)), d_load hs 9, d_call (fun _ hw => zcmp_eq hx.zneg.zneg hx (by grind) _ (by omega)), d_val, d_val, d_val, d_val, d_load hs 8, d_call (fun _ hw => zsign hy _ (by omega)), d_bool (b := (y.sign != 0)) (sgn_bne hb15), d_val, d_val, trivial⟩ ?_
    intro vv wd1 ac hw hG hN ha
    have ha := ha.sub [(0, .slice A1 l0.length c1), (1, .slice A2 l1.length c2), (2, .slice A3 l2.length c3), (3, .bool b3), (4, .bool b4), (10, .bool false), (23, .slice A1 l0.length c1), (24, .slice A2 l1.length c2), (25, .bool b3), (26, .bool b4), (27, .tuple #[zV x, zV y, riV x Ai2 ci2, riV y Ai3 ci3]), (22, .tuple #[zV x, zV y, riV x Ai2 ci2, riV y Ai3 ci3]), (28, zV x), (29, zV y), (30, riV x Ai2 ci2), (31, riV y Ai3 ci3), (11, .pointer (some ⟨g4, 0, none⟩)), (12, .pointer (some ⟨g5, 0, none⟩)), (13, .pointer (some ⟨g6, 0, none⟩)), (14, .pointer (some ⟨g7, 0, none⟩)), (33, .slice A3 l2.length c3), (34, .bool b3), (35, .bool b4), (36, .bool (!(b3 == b4))), (37, .tuple #[zV z, zV y2, riV z Ai9 ci9, riV y2 Ai10 ci10]), (32, .tuple #[zV z, zV y2, riV z Ai9 ci9, riV y2 Ai10 ci10]), (38, zV z), (39, zV y2), (40, riV z Ai9 ci9), (41, riV y2 Ai10 ci10), (15, .pointer (some ⟨g11, 0, none⟩)), (16, .pointer (some ⟨g12, 0, none⟩)), (17, .pointer (some ⟨g13, 0, none⟩)), (18, .pointer (some ⟨g14, 0, none⟩)), (43, zV x), (44, zV y), (45, .tuple #[zV (x.fdiv y), zV (x.fmod y), .bool true]), (42, .tuple #[zV (x.fdiv y), zV (x.fmod y), .bool true]), (46, zV (x.fdiv y)), (47, zV (x.fmod y)), (48, .bool true), (19, .pointer (some ⟨g20, 0, none⟩)), (20, .pointer (some ⟨g21, 0, none⟩)), (21, .bool true), (115, .bool false)]
    clear hG hN
    have hs := hs.go hw
    clear hw
    refine keeps_nil ?_
    show wpList _ _ _ _ _ _
    refine wpList_nil ((x_normal ?_))
    refine r_false ha ?_
    refine wp_skip ((x_normal ?_))
    refine wp_seq ?_
    rcases Bool.eq_false_or_eq_true (decide (x.fmod y = 0)) with hb23 | hb23
    ·
      have phb23 := of_decide_eq_true hb23
      refine region_sp ha 32 [.eq (.bool true), .eq (.bool false), .eq (.bool false), .eq (zV (x.fdiv y)), .eq (zV y), .eq (zV ((x.fdiv y) * y)), .eq (zV (x.fmod y)), .eq (zV (((x.fdiv y) * y) + (x.fmod y))), .eq (zV x), .eq (.int .i64 0), .eq (.bool true), .eq (.bool true), .eq (zV (x.fmod y)), .eq (.int .i64 0), .eq (.bool true), .eq (.bool true), .eq (undef), .eq (undef), .eq (undef), .eq (undef), .eq (undef), .eq (.bool true), .eq (.bool true), .eq (.bool true), .eq (zV (x.fmod y)), .eq (nV ((x.fmod y).natAbs)), .eq (zV y), .eq (nV y.natAbs), .eq (.int .i64 (-1)), .eq (.bool true), .eq (.bool true), .eq (.bool true)] [] [] (fun _ hb => by cases hb)
        ⟨d_val, d_val, d_val, d_load hs 1, d_load hs 8, d_call (fun _ hw => zmul (hx.zfdiv y) hy _ (by omega)), d_load hs 0, d_call (fun _ hw => zadd ((hx.zfdiv y).zmul hy) (Sm.zfmod x hy (of_decide_eq_false hb15)) _ (by omega)), d_load hs 9, d_call (fun _ hw => zcmp_eq (((hx.zfdiv y).zmul hy).zadd (Sm.zfmod x hy (of_decide_eq_false hb15))) hx (Int.fdiv_mul_add_fmod x y) _ (by omega)), d_val, d_val, d_load hs 0, d_call (fun _ hw => zsign0 (of_decide_eq_true hb23) _), d_val, d_val, d_not, d_not, d_not, d_not, d_not, d_val, d_val, d_val, d_load hs 0, d_call (fun _ hw => zabs (x.fmod y) _), d_load hs 8, d_call (fun _ hw => zabs y _), d_call (fun _ hw => ccmp_lt (Sm.zfmod x hy (of_decide_eq_false hb15)) hy (fmod_lt_abs x (of_decide_eq_false hb15)) _ (by omega)), d_val, d_val, d_val, trivial⟩ ?_
      intro vv wd1 ac hw hG hN ha
      have ha := ha.sub [(0, .slice A1 l0.length c1), (1, .slice A2 l1.length c2), (2, .slice A3 l2.length c3), (3, .bool b3), (4, .bool b4), (10, .bool false), (23, .slice A1 l0.length c1), (24, .slice A2 l1.length c2), (25, .bool b3), (26, .bool b4), (27, .tuple #[zV x, zV y, riV x Ai2 ci2, riV y Ai3 ci3]), (22, .tuple #[zV x, zV y, riV x Ai2 ci2, riV y Ai3 ci3]), (28, zV x), (29, zV y), (30, riV x Ai2 ci2), (31, riV y Ai3 ci3), (11, .pointer (some ⟨g4, 0, none⟩)), (12, .pointer (some ⟨g5, 0, none⟩)), (13, .pointer (some ⟨g6, 0, none⟩)), (14, .pointer (some ⟨g7, 0, none⟩)), (33, .slice A3 l2.length c3), (34, .bool b3), (35, .bool b4), (36, .bool (!(b3 == b4))), (37, .tuple #[zV z, zV y2, riV z Ai9 ci9, riV y2 Ai10 ci10]), (32, .tuple #[zV z, zV y2, riV z Ai9 ci9, riV y2 Ai10 ci10]), (38, zV z), (39, zV y2), (40, riV z Ai9 ci9), (41, riV y2 Ai10 ci10), (15, .pointer (some ⟨g11, 0, none⟩)), (16, .pointer (some ⟨g12, 0, none⟩)), (17, .pointer (some ⟨g13, 0, none⟩)), (18, .pointer (some ⟨g14, 0, none⟩)), (43, zV x), (44, zV y), (45, .tuple #[zV (x.fdiv y), zV (x.fmod y), .bool true]), (42, .tuple #[zV (x.fdiv y), zV (x.fmod y), .bool true]), (46, zV (x.fdiv y)), (47, zV (x.fmod y)), (48, .bool true), (19, .pointer (some ⟨g20, 0, none⟩)), (20, .pointer (some ⟨g21, 0, none⟩)), (21, .bool true), (115, .bool false), (147, .bool true)]
      clear hG hN
      have hs := hs.go hw
      clear hw
      refine keeps_nil ?_
      show wpList _ _ _ _ _ _
      refine s_val ha (.bool true) fun ac ha => ?_
      refine wpList_nil ((x_normal ?_))
      refine wp_ret (ret_at ha hs rfl [.bool true] ⟨rfl, trivial⟩ ?_)
      exact ⟨rfl, hs.ext⟩
    ·
      have phb23 := of_decide_eq_false hb23
      rcases Bool.eq_false_or_eq_true ((((x.fmod y).sign) == 0)) with hb25 | hb25
      ·
        have phb25 := eq_of_beq hb25
        refine region_sp ha 32 [.eq (.bool true), .eq (.bool false), .eq (.bool false), .eq (zV (x.fdiv y)), .eq (zV y), .eq (zV ((x.fdiv y) * y)), .eq (zV (x.fmod y)), .eq (zV (((x.fdiv y) * y) + (x.fmod y))), .eq (zV x), .eq (.int .i64 0), .eq (.bool true), .eq (.bool true), .eq (zV (x.fmod y)), .eq (.int .i64 ((x.fmod y).sign)), .eq (.bool true), .eq (.bool true), .eq (undef), .eq (undef), .eq (undef), .eq (undef), .eq (undef), .eq (.bool true), .eq (.bool true), .eq (.bool true), .eq (zV (x.fmod y)), .eq (nV ((x.fmod y).natAbs)), .eq (zV y), .eq (nV y.natAbs), .eq (.int .i64 (-1)), .eq (.bool true), .eq (.bool true), .eq (.bool true)] [] [] (fun _ hb => by cases hb)
          ⟨d_val, d_val, d_val, d_load hs 1, d_load hs 8, d_call (fun _ hw => zmul (hx.zfdiv y) hy _ (by omega)), d_load hs 0, d_call (fun _ hw => zadd ((hx.zfdiv y).zmul hy) (Sm.zfmod x hy (of_decide_eq_false hb15)) _ (by omega)), d_load hs 9, d_call (fun _ hw => zcmp_eq (((hx.zfdiv y).zmul hy).zadd (Sm.zfmod x hy (of_decide_eq_false hb15))) hx (Int.fdiv_mul_add_fmod x y) _ (by omega)), d_val, d_val, d_load hs 0, d_call (fun _ hw => zsign (Sm.zfmod x hy (of_decide_eq_false hb15)) _ (by omega)), d_bool (b := (((x.fmod y).sign) == 0)) hb25, d_val, d_not, d_not, d_not, d_not, d_not, d_val, d_val, d_val, d_load hs 0, d_call (fun _ hw => zabs (x.fmod y) _), d_load hs 8, d_call (fun _ hw => zabs y _), d_call (fun _ hw => ccmp_lt (Sm.zfmod x hy (of_decide_eq_false hb15)) hy (fmod_lt_abs x (of_decide_eq_false hb15)) _ (by omega)), d_val, d_val, d_val, trivial⟩ ?_
        intro vv wd1 ac hw hG hN ha
        have ha := ha.sub [(0, .slice A1 l0.length c1), (1, .slice A2 l1.length c2), (2, .slice A3 l2.length c3), (3, .bool b3), (4, .bool b4), (10, .bool false), (23, .slice A1 l0.length c1), (24, .slice A2 l1.length c2), (25, .bool b3), (26, .bool b4), (27, .tuple #[zV x, zV y, riV x Ai2 ci2, riV y Ai3 ci3]), (22, .tuple #[zV x, zV y, riV x Ai2 ci2, riV y Ai3 ci3]), (28, zV x), (29, zV y), (30, riV x Ai2 ci2), (31, riV y Ai3 ci3), (11, .pointer (some ⟨g4, 0, none⟩)), (12, .pointer (some ⟨g5, 0, none⟩)), (13, .pointer (some ⟨g6, 0, none⟩)), (14, .pointer (some ⟨g7, 0, none⟩)), (33, .slice A3 l2.length c3), (34, .bool b3), (35, .bool b4), (36, .bool (!(b3 == b4))), (37, .tuple #[zV z, zV y2, riV z Ai9 ci9, riV y2 Ai10 ci10]), (32, .tuple #[zV z, zV y2, riV z Ai9 ci9, riV y2 Ai10 ci10]), (38, zV z), (39, zV y2), (40, riV z Ai9 ci9), (41, riV y2 Ai10 ci10), (15, .pointer (some ⟨g11, 0, none⟩)), (16, .pointer (some ⟨g12, 0, none⟩)), (17, .pointer (some ⟨g13, 0, none⟩)), (18, .pointer (some ⟨g14, 0, none⟩)), (43, zV x), (44, zV y), (45, .tuple #[zV (x.fdiv y), zV (x.fmod y), .bool true]), (42, .tuple #[zV (x.fdiv y), zV (x.fmod y), .bool true]), (46, zV (x.fdiv y)), (47, zV (x.fmod y)), (48, .bool true), (19, .pointer (some ⟨g20, 0, none⟩)), (20, .pointer (some ⟨g21, 0, none⟩)), (21, .bool true), (115, .bool false), (147, .bool true)]
        clear hG hN
        have hs := hs.go hw
        clear hw
        refine keeps_nil ?_
        show wpList _ _ _ _ _ _
        refine s_val ha (.bool true) fun ac ha => ?_
        refine wpList_nil ((x_normal ?_))
        refine wp_ret (ret_at ha hs rfl [.bool true] ⟨rfl, trivial⟩ ?_)
        exact ⟨rfl, hs.ext⟩
      ·
        have phb25 := beq_eq_false_iff_ne.1 hb25
        refine region_sp ha 32 [.eq (.bool true), .eq (.bool false), .eq (.bool false), .eq (zV (x.fdiv y)), .eq (zV y), .eq (zV ((x.fdiv y) * y)), .eq (zV (x.fmod y)), .eq (zV (((x.fdiv y) * y) + (x.fmod y))), .eq (zV x), .eq (.int .i64 0), .eq (.bool true), .eq (.bool true), .eq (zV (x.fmod y)), .eq (.int .i64 ((x.fmod y).sign)), .eq (.bool false), .eq (.bool false), .eq (zV (x.fmod y)), .eq (.int .i64 ((x.fmod y).sign)), .eq (zV y), .eq (.int .i64 y.sign), .eq (.bool true), .eq (.bool true), .eq (.bool true), .eq (.bool true), .eq (zV (x.fmod y)), .eq (nV ((x.fmod y).natAbs)), .eq (zV y), .eq (nV y.natAbs), .eq (.int .i64 (-1)), .eq (.bool true), .eq (.bool true), .eq (.bool true)] [] [] (fun _ hb => by cases hb)
          ⟨d_val, d_val, d_val, d_load hs 1, d_load hs 8, d_call (fun _ hw => zmul (hx.zfdiv y) hy _ (by omega)), d_load hs 0, d_call (fun _ hw => zadd ((hx.zfdiv y).zmul hy) (Sm.zfmod x hy (of_decide_eq_false hb15)) _ (by omega)), d_load hs 9, d_call (fun _ hw => zcmp_eq (((hx.zfdiv y).zmul hy).zadd (Sm.zfmod x hy (of_decide_eq_false hb15))) hx (Int.fdiv_mul_add_fmod x y) _ (by omega)), d_val, d_val, d_load hs 0, d_call (fun _ hw => zsign (Sm.zfmod x hy (of_decide_eq_false hb15)) _ (by omega)), d_bool (b := (((x.fmod y).sign) == 0)) hb25, d_val, d_load hs 0, d_call (fun _ hw => zsign (Sm.zfmod x hy (of_decide_eq_false hb15)) _ (by omega)), d_load hs 8, d_call (fun _ hw => zsign hy _ (by omega)), d_bool (b := (((x.fmod y).sign) == y.sign)) (fmod_sgn hb23 hb15), d_val, d_val, d_val, d_load hs 0, d_call (fun _ hw => zabs (x.fmod y) _), d_load hs 8, d_call (fun _ hw => zabs y _), d_call (fun _ hw => ccmp_lt (Sm.zfmod x hy (of_decide_eq_false hb15)) hy (fmod_lt_abs x (of_decide_eq_false hb15)) _ (by omega)), d_val, d_val, d_val, trivial⟩ ?_
        intro vv wd1 ac hw hG hN ha
        have ha := ha.sub [(0, .slice A1 l0.length c1), (1, .slice A2 l1.length c2), (2, .slice A3 l2.length c3), (3, .bool b3), (4, .bool b4), (10, .bool false), (23, .slice A1 l0.length c1), (24, .slice A2 l1.length c2), (25, .bool b3), (26, .bool b4), (27, .tuple #[zV x, zV y, riV x Ai2 ci2, riV y Ai3 ci3]), (22, .tuple #[zV x, zV y, riV x Ai2 ci2, riV y Ai3 ci3]), (28, zV x), (29, zV y), (30, riV x Ai2 ci2), (31, riV y Ai3 ci3), (11, .pointer (some ⟨g4, 0, none⟩)), (12, .pointer (some ⟨g5, 0, none⟩)), (13, .pointer (some ⟨g6, 0, none⟩)), (14, .pointer (some ⟨g7, 0, none⟩)), (33, .slice A3 l2.length c3), (34, .bool b3), (35, .bool b4), (36, .bool (!(b3 == b4))), (37, .tuple #[zV z, zV y2, riV z Ai9 ci9, riV y2 Ai10 ci10]), (32, .tuple #[zV z, zV y2, riV z Ai9 ci9, riV y2 Ai10 ci10]), (38, zV z), (39, zV y2), (40, riV z Ai9 ci9), (41, riV y2 Ai10 ci10), (15, .pointer (some ⟨g11, 0, none⟩)), (16, .pointer (some ⟨g12, 0, none⟩)), (17, .pointer (some ⟨g13, 0, none⟩)), (18, .pointer (some ⟨g14, 0, none⟩)), (43, zV x), (44, zV y), (45, .tuple #[zV (x.fdiv y), zV (x.fmod y), .bool true]), (42, .tuple #[zV (x.fdiv y), zV (x.fmod y), .bool true]), (46, zV (x.fdiv y)), (47, zV (x.fmod y)), (48, .bool true), (19, .pointer (some ⟨g20, 0, none⟩)), (20, .pointer (some ⟨g21, 0, none⟩)), (21, .bool true), (115, .bool false), (147, .bool true)]
        clear hG hN
        have hs := hs.go hw
        clear hw
        refine keeps_nil ?_
        show wpList _ _ _ _ _ _
        refine s_val ha (.bool true) fun ac ha => ?_
        refine wpList_nil ((x_normal ?_))
        refine wp_ret (ret_at ha hs rfl [.bool true] ⟨rfl, trivial⟩ ?_)
        exact ⟨rfl, hs.ext⟩
  end Go.Proofs.YtiloialbglfplaaDoor

namespace Go.Proofs.YtiloialbglfplaaDoor
open Go.RowKit

theorem sgn_nlt {g : Int} (h : 0 ≤ g) : decide (g.sign < 0) = false := by
  refine decide_eq_false fun h2 => ?_
  rcases Int.lt_or_eq_of_le h with h' | h'
  · rw [Int.sign_eq_one_of_pos h'] at h2; omega
  · rw [← h'] at h2; exact absurd h2 (by decide)
theorem sgn_ge {g : Int} (h : 0 ≤ g) : decide (g.sign ≥ 0) = true := by
  have := of_decide_eq_false (sgn_nlt h)
  exact decide_eq_true (by omega)
theorem zcmp_lt {j k : Nat} {x y : Int} (hx : Sm j x.natAbs) (hy : Sm k y.natAbs) (e : x < y) (W : World) (h : max j k ≤ 549755813887) : Calls Tryd.prog 17 #[zV x, zV y] W (Ret (.int .i64 (-1)) W) := by
  have h := zcmp hx hy W h
  rw [show cmpZ x y = -1 from by unfold cmpZ; rw [if_pos e]] at h
  exact h
theorem zgcd_eq {j k n : Nat} {a b : Int} (ha0 : Sm j a.natAbs) (hb0 : Sm k b.natAbs) (e : Nat.gcd a.natAbs b.natAbs = n) (W : World) (ht : Tab64 W) (h : max j k ≤ 549755813887) : Calls Tryd.prog 34 #[zV a, zV b] W (Ret (nV n) W) := by
  subst e
  exact zgcd ha0 hb0 W ht h

set_option maxHeartbeats 8000000 in
theorem wholeBezout_any (l0 : List UInt8) (v0 : Value) (l1 : List UInt8) (v1 : Value) (b2 b3 : Bool) (w : World) (htab : Tab64 w) (s0 : SlB l0 v0 w) (s1 : SlB l1 v1 w) : Calls Tryd.prog 7 #[v0, v1, .bool b2, .bool b3] w (Ret (.bool true) w) := by
  obtain ⟨A1, c1, rfl⟩ := s0.form
  obtain ⟨A2, c2, rfl⟩ := s1.form
  have HT := fun W h1 h2 => two2 l0 l1 (.slice A1 l0.length c1) (.slice A2 l1.length c2) b2 b3 W h1 h2
  have hx : Sm 320 (sg b2 (beN (l0.take 40))).natAbs := by rw [sg_abs]; exact Sm.take40 l0
  have hy : Sm 320 (sg b3 (beN (l1.take 40))).natAbs := by rw [sg_abs]; exact Sm.take40 l1
  generalize sg b2 (beN (l0.take 40)) = x at *
  generalize sg b3 (beN (l1.take 40)) = y at *
  have HB := fun W => zbez (a := x) (b := y) hx hy W (by omega)
  have hgG := bezG_eq x y
  have hid := (bez_spec x y).1
  have hsp := (bez_spec x y).2
  have hg := hx.bezG hy
  have hu := hy.bezX (a := x)
  have hv := hx.bezY hy
  generalize bezG x y = g at *
  generalize bezX x y = u at *
  generalize bezY x y = v at *
  have hub : y ≠ 0 → 0 ≤ u := fun h => (hsp h).1
  have hlt : y ≠ 0 → g ≠ 0 → u < (((y.fdiv g).natAbs : Nat) : Int) := fun h h0 => by rw [natAbs_fdiv_of_dvd (gcd_parts hgG h0).2.1 h0]; exact (hsp h).2
  obtain ⟨G, hGe⟩ : ∃ G, Nat.gcd x.natAbs y.natAbs = G := ⟨_, rfl⟩
  have hgG2 : g = ((G : Nat) : Int) := by rw [hgG, hGe]
  have hG : Sm 321 G := by have := hg; rw [hgG2, Int.natAbs_natCast] at this; exact this
  have hg0 : 0 ≤ g := by omega
  have hx0 : g = 0 → x = 0 := fun h => by
    have : Nat.gcd x.natAbs y.natAbs = 0 := by omega
    have := Nat.eq_zero_of_gcd_eq_zero_left this
    omega
  have hy0 : g = 0 → y = 0 := fun h => by
    have : Nat.gcd x.natAbs y.natAbs = 0 := by omega
    have := Nat.eq_zero_of_gcd_eq_zero_right this
    omega
  have hs := St.start w
  have hs := hs.add8 s0 (by kernel_rfl)
  have hs := hs.add8 s1 (by kernel_rfl)
  refine enter Tryd.func7 rfl Tryd.ntmps7 (by kernel_rfl) fun ac ha => ?_
  refine wp_seq ?_
  refine wp_region_lit ?_
  refine s_val ha (.bool false) fun ac ha => ?_
  refine wpList_nil ((x_normal ?_))
  refine wp_seq ?_
  refine wp_region_lit ?_
  refine s_val ha (.slice A1 l0.length c1) fun ac ha => ?_
  refine s_val ha (.slice A2 l1.length c2) fun ac ha => ?_
  refine s_val ha (.bool b2) fun ac ha => ?_
  refine s_val ha (.bool b3) fun ac ha => ?_
  refine s_callP ha hs (HT _ (hs.get 1 rfl) (hs.get 0 rfl)) fun u ac wd hp ha hs => ?_
  obtain ⟨x1, y1, rfl, p1, q1⟩ := hp
  obtain ⟨Ai2, ci2, rfl, r2⟩ := p1
  have hs := hs.add32 r2 (by kernel_rfl)
  obtain ⟨Ai3, ci3, rfl, r3⟩ := q1
  have hs := hs.add32 r3 (by kernel_rfl)
  refine s_val ha (.tuple #[zV x, zV y, riV x Ai2 ci2, riV y Ai3 ci3]) fun ac ha => ?_
  refine s_val ha (zV x) fun ac ha => ?_
  refine s_val ha (zV y) fun ac ha => ?_
  refine s_val ha (riV x Ai2 ci2) fun ac ha => ?_
  refine s_val ha (riV y Ai3 ci3) fun ac ha => ?_
  refine s_alloc ha hs [.bool false, .int .u64 0, .string (⟨#[]⟩)] fun g4 ac wd ha hs => ?_
  refine s_alloc ha hs [.bool false, .int .u64 0, .string (⟨#[]⟩)] fun g5 ac wd ha hs => ?_
  refine s_alloc ha hs [.bool false, .slice none 0 0] fun g6 ac wd ha hs => ?_
  refine s_alloc ha hs [.bool false, .slice none 0 0] fun g7 ac wd ha hs => ?_
  refine s_store ha hs 3 _ fun ac wd ha hs => ?_
  refine s_store ha hs 2 _ fun ac wd ha hs => ?_
  refine s_store ha hs 1 _ fun ac wd ha hs => ?_
  refine s_store ha hs 0 _ fun ac wd ha hs => ?_
  refine wpList_nil ((x_normal ?_))
  refine wp_seq ?_
  refine wp_region_lit ?_
  refine s_load ha hs 3 (zV x) fun ac ha => ?_
  refine s_load ha hs 2 (zV y) fun ac ha => ?_
  refine s_call ha hs (.tuple #[zV g, zV u, zV v]) (HB _) fun ac wd ha hs => ?_
  refine s_val ha (.tuple #[zV g, zV u, zV v]) fun ac ha => ?_
  refine s_val ha (zV g) fun ac ha => ?_
  refine s_val ha (zV u) fun ac ha => ?_
  refine s_val ha (zV v) fun ac ha => ?_
  refine s_alloc ha hs [.bool false, .int .u64 0, .string (⟨#[]⟩)] fun g8 ac wd ha hs => ?_
  refine s_alloc ha hs [.bool false, .int .u64 0, .string (⟨#[]⟩)] fun g9 ac wd ha hs => ?_
  refine s_alloc ha hs [.bool false, .int .u64 0, .string (⟨#[]⟩)] fun g10 ac wd ha hs => ?_
  refine s_store ha hs 2 _ fun ac wd ha hs => ?_
  refine s_store ha hs 1 _ fun ac wd ha hs => ?_
  refine s_store ha hs 0 _ fun ac wd ha hs => ?_
  refine wpList_nil ((x_normal ?_))
  refine wp_seq ?_
  refine wp_seq ?_
  rcases Bool.eq_false_or_eq_true (decide (g = 0)) with hb11 | hb11
  ·
    have phb11 := of_decide_eq_true hb11
    refine region_sp ha 37 [.eq (.bool true), .eq (.bool false), .eq (.bool false), .eq (zV x), .eq (zV u), .eq (zV (x * u)), .eq (zV y), .eq (zV v), .eq (zV (y * v)), .eq (zV ((x * u) + (y * v))), .eq (zV g), .eq (.int .i64 0), .eq (.bool false), .eq (.bool false), .eq (.bool false), .eq (zV g), .eq (.int .i64 0), .eq (.bool false), .eq (.bool false), .eq (.bool false), .eq (zV x), .eq (zV y), .eq (nV G), .eq (zV ((G : Nat) : Int)), .eq (zV g), .eq (.int .i64 0), .eq (.bool false), .eq (.bool false), .eq (.bool false), .eq (zV y), .eq (zV x), .eq (nV G), .eq (zV g), .eq (nV g.natAbs), .eq (.int .i64 0), .eq (.bool false), .eq (.bool false)] [] [] (fun _ hb => by cases hb)
      ⟨d_call (fun _ hw => known2 _), d_val, d_val, d_load hs 6, d_load hs 1, d_call (fun _ hw => zmul hx hu _ (by omega)), d_load hs 5, d_load hs 0, d_call (fun _ hw => zmul hy hv _ (by omega)), d_call (fun _ hw => zadd (hx.zmul hu) (hy.zmul hv) _ (by omega)), d_load hs 2, d_call (fun _ hw => zcmp_eq ((hx.zmul hu).zadd (hy.zmul hv)) hg (hid) _ (by omega)), d_val, d_val, d_val, d_load hs 2, d_call (fun _ hw => zsign0 (of_decide_eq_true hb11) _), d_val, d_val, d_val, d_load hs 6, d_load hs 5, d_call (fun _ hw => zgcd_eq hx hy hGe _ (htab.ext (hs.go hw).ext) (by omega)), d_call (fun _ hw => from_any false hG (by omega) _), d_load hs 2, d_call (fun _ hw => zcmp_eq (Sm.cast hG) hg (hgG2.symm) _ (by omega)), d_val, d_val, d_val, d_load hs 5, d_load hs 6, d_call (fun _ hw => zgcd_eq hy hx ((Nat.gcd_comm _ _).trans hGe) _ (htab.ext (hs.go hw).ext) (by omega)), d_load hs 2, d_call (fun _ hw => zabs g _), d_call (fun _ hw => ccmp_eq hG hg (by omega) _ (by omega)), d_val, d_val, trivial⟩ ?_
    intro vv wd1 ac hw hG hN ha
    have ha := ha.sub [(0, .slice A1 l0.length c1), (1, .slice A2 l1.length c2), (2, .bool b2), (3, .bool b3), (8, .bool false), (23, .slice A1 l0.length c1), (24, .slice A2 l1.length c2), (25, .bool b2), (26, .bool b3), (27, .tuple #[zV x, zV y, riV x Ai2 ci2, riV y Ai3 ci3]), (22, .tuple #[zV x, zV y, riV x Ai2 ci2, riV y Ai3 ci3]), (28, zV x), (29, zV y), (30, riV x Ai2 ci2), (31, riV y Ai3 ci3), (9, .pointer (some ⟨g4, 0, none⟩)), (10, .pointer (some ⟨g5, 0, none⟩)), (11, .pointer (some ⟨g6, 0, none⟩)), (12, .pointer (some ⟨g7, 0, none⟩)), (33, zV x), (34, zV y), (35, .tuple #[zV g, zV u, zV v]), (32, .tuple #[zV g, zV u, zV v]), (36, zV g), (37, zV u), (38, zV v), (13, .pointer (some ⟨g8, 0, none⟩)), (14, .pointer (some ⟨g9, 0, none⟩)), (15, .pointer (some ⟨g10, 0, none⟩)), (75, .bool false)]
    clear hG hN
    have hs := hs.go hw
    clear hw
    refine keeps_nil ?_
    show wpList _ _ _ _ _ _
    refine wpList_nil ((x_normal ?_))
    refine r_false ha ?_
    refine wp_skip ((x_normal ?_))
    refine wp_seq ?_
    refine wp_seq ?_
    refine wp_region_lit ?_
    refine s_load ha hs 2 (zV g) fun ac ha => ?_
    refine s_call ha hs (.int .i64 0) (zsign0 (of_decide_eq_true hb11) _) fun ac wd ha hs => ?_
    refine s_val ha (.bool true) fun ac ha => ?_
    refine wpList_nil ((x_normal ?_))
    refine r_true ha ?_
    refine wp_seq ?_
    refine wp_region_lit ?_
    refine s_load ha hs 6 (zV x) fun ac ha => ?_
    refine s_call ha hs (.int .i64 0) (zsign0 (of_decide_eq_true (decide_eq_true (hx0 (of_decide_eq_true hb11)))) _) fun ac wd ha hs => ?_
    refine s_val ha (.bool true) fun ac ha => ?_
    refine s_val ha (.bool true) fun ac ha => ?_
    refine s_load ha hs 5 (zV y) fun ac ha => ?_
    refine s_call ha hs (.int .i64 0) (zsign0 (of_decide_eq_true (decide_eq_true (hy0 (of_decide_eq_true hb11)))) _) fun ac wd ha hs => ?_
    refine s_val ha (.bool true) fun ac ha => ?_
    refine s_val ha (.bool true) fun ac ha => ?_
    refine s_val ha (.bool true) fun ac ha => ?_
    refine wpList_nil ((x_normal ?_))
    refine wp_ret (x_ret (ret_at ha hs rfl [.bool true] ⟨rfl, trivial⟩ ?_))
    exact ⟨rfl, hs.ext⟩
  ·
    have phb11 := of_decide_eq_false hb11
    refine region_sp ha 37 [.eq (.bool true), .eq (.bool false), .eq (.bool false), .eq (zV x), .eq (zV u), .eq (zV (x * u)), .eq (zV y), .eq (zV v), .eq (zV (y * v)), .eq (zV ((x * u) + (y * v))), .eq (zV g), .eq (.int .i64 0), .eq (.bool false), .eq (.bool false), .eq (.bool false), .eq (zV g), .eq (.int .i64 g.sign), .eq (.bool false), .eq (.bool false), .eq (.bool false), .eq (zV x), .eq (zV y), .eq (nV G), .eq (zV ((G : Nat) : Int)), .eq (zV g), .eq (.int .i64 0), .eq (.bool false), .eq (.bool false), .eq (.bool false), .eq (zV y), .eq (zV x), .eq (nV G), .eq (zV g), .eq (nV g.natAbs), .eq (.int .i64 0), .eq (.bool false), .eq (.bool false)] [] [] (fun _ hb => by cases hb)
      ⟨d_call (fun _ hw => known2 _), d_val, d_val, d_load hs 6, d_load hs 1, d_call (fun _ hw => zmul hx hu _ (by omega)), d_load hs 5, d_load hs 0, d_call (fun _ hw => zmul hy hv _ (by omega)), d_call (fun _ hw => zadd (hx.zmul hu) (hy.zmul hv) _ (by omega)), d_load hs 2, d_call (fun _ hw => zcmp_eq ((hx.zmul hu).zadd (hy.zmul hv)) hg (hid) _ (by omega)), d_val, d_val, d_val, d_load hs 2, d_call (fun _ hw => zsign hg _ (by omega)), d_bool (b := decide (g.sign < 0)) (sgn_nlt hg0), d_val, d_val, d_load hs 6, d_load hs 5, d_call (fun _ hw => zgcd_eq hx hy hGe _ (htab.ext (hs.go hw).ext) (by omega)), d_call (fun _ hw => from_any false hG (by omega) _), d_load hs 2, d_call (fun _ hw => zcmp_eq (Sm.cast hG) hg (hgG2.symm) _ (by omega)), d_val, d_val, d_val, d_load hs 5, d_load hs 6, d_call (fun _ hw => zgcd_eq hy hx ((Nat.gcd_comm _ _).trans hGe) _ (htab.ext (hs.go hw).ext) (by omega)), d_load hs 2, d_call (fun _ hw => zabs g _), d_call (fun _ hw => ccmp_eq hG hg (by omega) _ (by omega)), d_val, d_val, trivial⟩ ?_
    intro vv wd1 ac hw hG hN ha
    have ha := ha.sub [(0, .slice A1 l0.length c1), (1, .slice A2 l1.length c2), (2, .bool b2), (3, .bool b3), (8, .bool false), (23, .slice A1 l0.length c1), (24, .slice A2 l1.length c2), (25, .bool b2), (26, .bool b3), (27, .tuple #[zV x, zV y, riV x Ai2 ci2, riV y Ai3 ci3]), (22, .tuple #[zV x, zV y, riV x Ai2 ci2, riV y Ai3 ci3]), (28, zV x), (29, zV y), (30, riV x Ai2 ci2), (31, riV y Ai3 ci3), (9, .pointer (some ⟨g4, 0, none⟩)), (10, .pointer (some ⟨g5, 0, none⟩)), (11, .pointer (some ⟨g6, 0, none⟩)), (12, .pointer (some ⟨g7, 0, none⟩)), (33, zV x), (34, zV y), (35, .tuple #[zV g, zV u, zV v]), (32, .tuple #[zV g, zV u, zV v]), (36, zV g), (37, zV u), (38, zV v), (13, .pointer (some ⟨g8, 0, none⟩)), (14, .pointer (some ⟨g9, 0, none⟩)), (15, .pointer (some ⟨g10, 0, none⟩)), (75, .bool false)]
    clear hG hN
    have hs := hs.go hw
    clear hw
    refine keeps_nil ?_
    show wpList _ _ _ _ _ _
    refine wpList_nil ((x_normal ?_))
    refine r_false ha ?_
    refine wp_skip ((x_normal ?_))
    refine wp_seq ?_
    refine wp_seq ?_
    refine wp_region_lit ?_
    refine s_load ha hs 2 (zV g) fun ac ha => ?_
    refine s_call ha hs (.int .i64 g.sign) (zsign hg _ (by omega)) fun ac wd ha hs => ?_
    refine s_bool ha (b := (g.sign == 0)) false (sgn_ne hb11) fun ac ha => ?_
    refine wpList_nil ((x_normal ?_))
    refine r_false ha ?_
    refine wp_skip ((x_normal ?_))
    refine wp_seq ?_
    refine wp_region_lit ?_
    refine s_load ha hs 6 (zV x) fun ac ha => ?_
    refine s_load ha hs 2 (zV g) fun ac ha => ?_
    refine s_call ha hs (.tuple #[zV (x.fdiv g), zV (x.fmod g), .bool true]) (zdiv hx hg (of_decide_eq_false hb11) _ (by omega)) fun ac wd ha hs => ?_
    refine s_val ha (.tuple #[zV (x.fdiv g), zV (x.fmod g), .bool true]) fun ac ha => ?_
    refine s_val ha (zV (x.fdiv g)) fun ac ha => ?_
    refine s_val ha (zV (x.fmod g)) fun ac ha => ?_
    refine s_val ha (.bool true) fun ac ha => ?_
    refine s_alloc ha hs [.bool false, .int .u64 0, .string (⟨#[]⟩)] fun g14 ac wd ha hs => ?_
    refine s_alloc ha hs [.bool false, .int .u64 0, .string (⟨#[]⟩)] fun g15 ac wd ha hs => ?_
    refine s_store ha hs 1 _ fun ac wd ha hs => ?_
    refine s_store ha hs 0 _ fun ac wd ha hs => ?_
    refine s_val ha (.bool true) fun ac ha => ?_
    refine wpList_nil ((x_normal ?_))
    refine wp_seq ?_
    refine wp_region_lit ?_
    refine s_load ha hs 7 (zV y) fun ac ha => ?_
    refine s_load ha hs 4 (zV g) fun ac ha => ?_
    refine s_call ha hs (.tuple #[zV (y.fdiv g), zV (y.fmod g), .bool true]) (zdiv hy hg (of_decide_eq_false hb11) _ (by omega)) fun ac wd ha hs => ?_
    refine s_val ha (.tuple #[zV (y.fdiv g), zV (y.fmod g), .bool true]) fun ac ha => ?_
    refine s_val ha (zV (y.fdiv g)) fun ac ha => ?_
    refine s_val ha (zV (y.fmod g)) fun ac ha => ?_
    refine s_val ha (.bool true) fun ac ha => ?_
    refine s_alloc ha hs [.bool false, .int .u64 0, .string (⟨#[]⟩)] fun g16 ac wd ha hs => ?_
    refine s_alloc ha hs [.bool false, .int .u64 0, .string (⟨#[]⟩)] fun g17 ac wd ha hs => ?_
    refine s_store ha hs 1 _ fun ac wd ha hs => ?_
    refine s_store ha hs 0 _ fun ac wd ha hs => ?_
    refine s_val ha (.bool true) fun ac ha => ?_
    refine wpList_nil ((x_normal ?_))
    refine wp_seq ?_
    rcases Bool.eq_false_or_eq_true (decide (y = 0)) with hb18 | hb18
    ·
      have phb18 := of_decide_eq_true hb18
      refine region_sp ha 33 [.eq (zV (x.fmod g)), .eq (.int .i64 0), .eq (.bool true), .eq (.bool true), .eq (zV (y.fmod g)), .eq (.int .i64 0), .eq (.bool true), .eq (.bool true), .eq (.bool true), .eq (zV (x.fdiv g)), .eq (zV (y.fdiv g)), .eq (nV 1), .eq (.string (⟨#[49]⟩)), .eq (.bool true), .eq (.bool true), .eq (.bool true), .eq (zV y), .eq (.int .i64 0), .eq (.bool true), .eq (.bool true), .eq (undef), .eq (undef), .eq (undef), .eq (undef), .eq (undef), .eq (undef), .eq (undef), .eq (undef), .eq (undef), .eq (undef), .eq (undef), .eq (.bool true), .eq (.bool true)] [] [] (fun _ hb => by cases hb)
        ⟨d_load hs 2, d_call (fun _ hw => zsign0 (of_decide_eq_true (decide_eq_true (fmod_zero_of_dvd (gcd_parts hgG (of_decide_eq_false hb11)).1))) _), d_val, d_val, d_load hs 0, d_call (fun _ hw => zsign0 (of_decide_eq_true (decide_eq_true (fmod_zero_of_dvd (gcd_parts hgG (of_decide_eq_false hb11)).2.1))) _), d_val, d_val, d_val, d_load hs 3, d_load hs 1, d_call (fun _ hw => zgcd_eq (hx.zfdiv g) (hy.zfdiv g) (gcd_parts hgG (of_decide_eq_false hb11)).2.2 _ (htab.ext (hs.go hw).ext) (by omega)), d_call (fun _ hw => ctext_dig (n := 1) (by decide) rfl _), d_val, d_val, d_val, d_load hs 9, d_call (fun _ hw => zsign0 (of_decide_eq_true hb18) _), d_val, d_val, d_not, d_not, d_not, d_not, d_not, d_not, d_not, d_not, d_not, d_not, d_not, d_val, d_val, trivial⟩ ?_
      intro vv wd1 ac hw hG hN ha
      have ha := ha.sub [(0, .slice A1 l0.length c1), (1, .slice A2 l1.length c2), (2, .bool b2), (3, .bool b3), (8, .bool false), (23, .slice A1 l0.length c1), (24, .slice A2 l1.length c2), (25, .bool b2), (26, .bool b3), (27, .tuple #[zV x, zV y, riV x Ai2 ci2, riV y Ai3 ci3]), (22, .tuple #[zV x, zV y, riV x Ai2 ci2, riV y Ai3 ci3]), (28, zV x), (29, zV y), (30, riV x Ai2 ci2), (31, riV y Ai3 ci3), (9, .pointer (some ⟨g4, 0, none⟩)), (10, .pointer (some ⟨g5, 0, none⟩)), (11, .pointer (some ⟨g6, 0, none⟩)), (12, .pointer (some ⟨g7, 0, none⟩)), (33, zV x), (34, zV y), (35, .tuple #[zV g, zV u, zV v]), (32, .tuple #[zV g, zV u, zV v]), (36, zV g), (37, zV u), (38, zV v), (13, .pointer (some ⟨g8, 0, none⟩)), (14, .pointer (some ⟨g9, 0, none⟩)), (15, .pointer (some ⟨g10, 0, none⟩)), (75, .bool false), (76, zV g), (77, .int .i64 g.sign), (78, .bool false), (88, zV x), (89, zV g), (90, .tuple #[zV (x.fdiv g), zV (x.fmod g), .bool true]), (87, .tuple #[zV (x.fdiv g), zV (x.fmod g), .bool true]), (91, zV (x.fdiv g)), (92, zV (x.fmod g)), (93, .bool true), (16, .pointer (some ⟨g14, 0, none⟩)), (17, .pointer (some ⟨g15, 0, none⟩)), (95, zV y), (96, zV g), (97, .tuple #[zV (y.fdiv g), zV (y.fmod g), .bool true]), (94, .tuple #[zV (y.fdiv g), zV (y.fmod g), .bool true]), (98, zV (y.fdiv g)), (99, zV (y.fmod g)), (100, .bool true), (19, .pointer (some ⟨g16, 0, none⟩)), (20, .pointer (some ⟨g17, 0, none⟩)), (133, .bool true)]
      clear hG hN
      have hs := hs.go hw
      clear hw
      refine keeps_nil ?_
      show wpList _ _ _ _ _ _
      refine s_val ha (.bool true) fun ac ha => ?_
      refine wpList_nil ((x_normal ?_))
      refine wp_ret (ret_at ha hs rfl [.bool true] ⟨rfl, trivial⟩ ?_)
      exact ⟨rfl, hs.ext⟩
    ·
      have phb18 := of_decide_eq_false hb18
      rcases Bool.eq_false_or_eq_true (decide (u = 0)) with hb20 | hb20
      ·
        have phb20 := of_decide_eq_true hb20
        refine region_sp ha 33 [.eq (zV (x.fmod g)), .eq (.int .i64 0), .eq (.bool true), .eq (.bool true), .eq (zV (y.fmod g)), .eq (.int .i64 0), .eq (.bool true), .eq (.bool true), .eq (.bool true), .eq (zV (x.fdiv g)), .eq (zV (y.fdiv g)), .eq (nV 1), .eq (.string (⟨#[49]⟩)), .eq (.bool true), .eq (.bool true), .eq (.bool true), .eq (zV y), .eq (.int .i64 y.sign), .eq (.bool false), .eq (.bool false), .eq (zV u), .eq (.int .i64 0), .eq (.bool true), .eq (.bool true), .eq (zV u), .eq (zV (y.fdiv g)), .eq (nV ((y.fdiv g).natAbs)), .eq (zV (((y.fdiv g).natAbs : Nat) : Int)), .eq (.int .i64 (-1)), .eq (.bool true), .eq (.bool true), .eq (.bool true), .eq (.bool true)] [] [] (fun _ hb => by cases hb)
          ⟨d_load hs 2, d_call (fun _ hw => zsign0 (of_decide_eq_true (decide_eq_true (fmod_zero_of_dvd (gcd_parts hgG (of_decide_eq_false hb11)).1))) _), d_val, d_val, d_load hs 0, d_call (fun _ hw => zsign0 (of_decide_eq_true (decide_eq_true (fmod_zero_of_dvd (gcd_parts hgG (of_decide_eq_false hb11)).2.1))) _), d_val, d_val, d_val, d_load hs 3, d_load hs 1, d_call (fun _ hw => zgcd_eq (hx.zfdiv g) (hy.zfdiv g) (gcd_parts hgG (of_decide_eq_false hb11)).2.2 _ (htab.ext (hs.go hw).ext) (by omega)), d_call (fun _ hw => ctext_dig (n := 1) (by decide) rfl _), d_val, d_val, d_val, d_load hs 9, d_call (fun _ hw => zsign hy _ (by omega)), d_bool (b := (y.sign == 0)) (sgn_ne hb18), d_val, d_load hs 5, d_call (fun _ hw => zsign0 (of_decide_eq_true hb20) _), d_val, d_val, d_load hs 5, d_load hs 1, d_call (fun _ hw => zabs (y.fdiv g) _), d_call (fun _ hw => from_any false (hy.zfdiv g) (by omega) _), d_call (fun _ hw => zcmp_lt hu (Sm.cast (hy.zfdiv g)) (hlt (of_decide_eq_false hb18) (of_decide_eq_false hb11)) _ (by omega)), d_val, d_val, d_val, d_val, trivial⟩ ?_
        intro vv wd1 ac hw hG hN ha
        have ha := ha.sub [(0, .slice A1 l0.length c1), (1, .slice A2 l1.length c2), (2, .bool b2), (3, .bool b3), (8, .bool false), (23, .slice A1 l0.length c1), (24, .slice A2 l1.length c2), (25, .bool b2), (26, .bool b3), (27, .tuple #[zV x, zV y, riV x Ai2 ci2, riV y Ai3 ci3]), (22, .tuple #[zV x, zV y, riV x Ai2 ci2, riV y Ai3 ci3]), (28, zV x), (29, zV y), (30, riV x Ai2 ci2), (31, riV y Ai3 ci3), (9, .pointer (some ⟨g4, 0, none⟩)), (10, .pointer (some ⟨g5, 0, none⟩)), (11, .pointer (some ⟨g6, 0, none⟩)), (12, .pointer (some ⟨g7, 0, none⟩)), (33, zV x), (34, zV y), (35, .tuple #[zV g, zV u, zV v]), (32, .tuple #[zV g, zV u, zV v]), (36, zV g), (37, zV u), (38, zV v), (13, .pointer (some ⟨g8, 0, none⟩)), (14, .pointer (some ⟨g9, 0, none⟩)), (15, .pointer (some ⟨g10, 0, none⟩)), (75, .bool false), (76, zV g), (77, .int .i64 g.sign), (78, .bool false), (88, zV x), (89, zV g), (90, .tuple #[zV (x.fdiv g), zV (x.fmod g), .bool true]), (87, .tuple #[zV (x.fdiv g), zV (x.fmod g), .bool true]), (91, zV (x.fdiv g)), (92, zV (x.fmod g)), (93, .bool true), (16, .pointer (some ⟨g14, 0, none⟩)), (17, .pointer (some ⟨g15, 0, none⟩)), (95, zV y), (96, zV g), (97, .tuple #[zV (y.fdiv g), zV (y.fmod g), .bool true]), (94, .tuple #[zV (y.fdiv g), zV (y.fmod g), .bool true]), (98, zV (y.fdiv g)), (99, zV (y.fmod g)), (100, .bool true), (19, .pointer (some ⟨g16, 0, none⟩)), (20, .pointer (some ⟨g17, 0, none⟩)), (133, .bool true)]
        clear hG hN
        have hs := hs.go hw
        clear hw
        refine keeps_nil ?_
        show wpList _ _ _ _ _ _
        refine s_val ha (.bool true) fun ac ha => ?_
        refine wpList_nil ((x_normal ?_))
        refine wp_ret (ret_at ha hs rfl [.bool true] ⟨rfl, trivial⟩ ?_)
        exact ⟨rfl, hs.ext⟩
      ·
        have phb20 := of_decide_eq_false hb20
        refine region_sp ha 33 [.eq (zV (x.fmod g)), .eq (.int .i64 0), .eq (.bool true), .eq (.bool true), .eq (zV (y.fmod g)), .eq (.int .i64 0), .eq (.bool true), .eq (.bool true), .eq (.bool true), .eq (zV (x.fdiv g)), .eq (zV (y.fdiv g)), .eq (nV 1), .eq (.string (⟨#[49]⟩)), .eq (.bool true), .eq (.bool true), .eq (.bool true), .eq (zV y), .eq (.int .i64 y.sign), .eq (.bool false), .eq (.bool false), .eq (zV u), .eq (.int .i64 u.sign), .eq (.bool true), .eq (.bool true), .eq (zV u), .eq (zV (y.fdiv g)), .eq (nV ((y.fdiv g).natAbs)), .eq (zV (((y.fdiv g).natAbs : Nat) : Int)), .eq (.int .i64 (-1)), .eq (.bool true), .eq (.bool true), .eq (.bool true), .eq (.bool true)] [] [] (fun _ hb => by cases hb)
          ⟨d_load hs 2, d_call (fun _ hw => zsign0 (of_decide_eq_true (decide_eq_true (fmod_zero_of_dvd (gcd_parts hgG (of_decide_eq_false hb11)).1))) _), d_val, d_val, d_load hs 0, d_call (fun _ hw => zsign0 (of_decide_eq_true (decide_eq_true (fmod_zero_of_dvd (gcd_parts hgG (of_decide_eq_false hb11)).2.1))) _), d_val, d_val, d_val, d_load hs 3, d_load hs 1, d_call (fun _ hw => zgcd_eq (hx.zfdiv g) (hy.zfdiv g) (gcd_parts hgG (of_decide_eq_false hb11)).2.2 _ (htab.ext (hs.go hw).ext) (by omega)), d_call (fun _ hw => ctext_dig (n := 1) (by decide) rfl _), d_val, d_val, d_val, d_load hs 9, d_call (fun _ hw => zsign hy _ (by omega)), d_bool (b := (y.sign == 0)) (sgn_ne hb18), d_val, d_load hs 5, d_call (fun _ hw => zsign hu _ (by omega)), d_bool (b := decide (u.sign ≥ 0)) (sgn_ge (hub (of_decide_eq_false hb18))), d_val, d_load hs 5, d_load hs 1, d_call (fun _ hw => zabs (y.fdiv g) _), d_call (fun _ hw => from_any false (hy.zfdiv g) (by omega) _), d_call (fun _ hw => zcmp_lt hu (Sm.cast (hy.zfdiv g)) (hlt (of_decide_eq_false hb18) (of_decide_eq_false hb11)) _ (by omega)), d_val, d_val, d_val, d_val, trivial⟩ ?_
        intro vv wd1 ac hw hG hN ha
        have ha := ha.sub [(0, .slice A1 l0.length c1), (1, .slice A2 l1.length c2), (2, .bool b2), (3, .bool b3), (8, .bool false), (23, .slice A1 l0.length c1), (24, .slice A2 l1.length c2), (25, .bool b2), (26, .bool b3), (27, .tuple #[zV x, zV y, riV x Ai2 ci2, riV y Ai3 ci3]), (22, .tuple #[zV x, zV y, riV x Ai2 ci2, riV y Ai3 ci3]), (28, zV x), (29, zV y), (30, riV x Ai2 ci2), (31, riV y Ai3 ci3), (9, .pointer (some ⟨g4, 0, none⟩)), (10, .pointer (some ⟨g5, 0, none⟩)), (11, .pointer (some ⟨g6, 0, none⟩)), (12, .pointer (some ⟨g7, 0, none⟩)), (33, zV x), (34, zV y), (35, .tuple #[zV g, zV u, zV v]), (32, .tuple #[zV g, zV u, zV v]), (36, zV g), (37, zV u), (38, zV v), (13, .pointer (some ⟨g8, 0, none⟩)), (14, .pointer (some ⟨g9, 0, none⟩)), (15, .pointer (some ⟨g10, 0, none⟩)), (75, .bool false), (76, zV g), (77, .int .i64 g.sign), (78, .bool false), (88, zV x), (89, zV g), (90, .tuple #[zV (x.fdiv g), zV (x.fmod g), .bool true]), (87, .tuple #[zV (x.fdiv g), zV (x.fmod g), .bool true]), (91, zV (x.fdiv g)), (92, zV (x.fmod g)), (93, .bool true), (16, .pointer (some ⟨g14, 0, none⟩)), (17, .pointer (some ⟨g15, 0, none⟩)), (95, zV y), (96, zV g), (97, .tuple #[zV (y.fdiv g), zV (y.fmod g), .bool true]), (94, .tuple #[zV (y.fdiv g), zV (y.fmod g), .bool true]), (98, zV (y.fdiv g)), (99, zV (y.fmod g)), (100, .bool true), (19, .pointer (some ⟨g16, 0, none⟩)), (20, .pointer (some ⟨g17, 0, none⟩)), (133, .bool true)]
        clear hG hN
        have hs := hs.go hw
        clear hw
        refine keeps_nil ?_
        show wpList _ _ _ _ _ _
        refine s_val ha (.bool true) fun ac ha => ?_
        refine wpList_nil ((x_normal ?_))
        refine wp_ret (ret_at ha hs rfl [.bool true] ⟨rfl, trivial⟩ ?_)
        exact ⟨rfl, hs.ext⟩
  end Go.Proofs.YtiloialbglfplaaDoor

namespace Go.Proofs.YtiloialbglfplaaDoor
open Go.RowKit

theorem npow_cast (a n : Nat) : ((a ^ n : Nat) : Int) = (a : Int) ^ n := Int.natCast_pow a n
theorem neg_pow_odd (a : Int) : ∀ k : Nat, (-a) ^ (2 * k + 1) = -(a ^ (2 * k + 1)) ∧ (-a) ^ (2 * k) = a ^ (2 * k)
  | 0 => by
    refine ⟨?_, ?_⟩
    · rw [Nat.mul_zero, Nat.zero_add, Int.pow_succ, Int.pow_succ, Int.pow_zero, Int.pow_zero]; omega
    · rw [Nat.mul_zero, Int.pow_zero, Int.pow_zero]
  | k + 1 => by
    obtain ⟨h1, h2⟩ := neg_pow_odd a k
    have e1 : (-a) ^ (2 * (k + 1)) = a ^ (2 * (k + 1)) := by
      rw [show 2 * (k + 1) = 2 * k + 1 + 1 from by omega, Int.pow_succ, Int.pow_succ a, h1]; grind
    refine ⟨?_, e1⟩
    rw [Int.pow_succ, Int.pow_succ a, e1]; grind
theorem pow_pos_eq {x : Int} (h : decide (x < 0) = false) (n : Nat) : ((x.natAbs ^ n : Nat) : Int) = x ^ n := by
  have h := of_decide_eq_false h
  rw [npow_cast, show ((x.natAbs : Nat) : Int) = x from by omega]
theorem pow_odd_eq {x : Int} (h : decide (x < 0) = true) {n : Nat} (hn : (((n % 2 : Nat) : Int) == 1) = true) : -((x.natAbs ^ n : Nat) : Int) = x ^ n := by
  have h := of_decide_eq_true h
  have hn := eq_of_beq hn
  obtain ⟨k, rfl⟩ : ∃ k, n = 2 * k + 1 := ⟨n / 2, by omega⟩
  have e : x = -((x.natAbs : Nat) : Int) := by omega
  generalize x.natAbs = a at *
  subst e
  rw [npow_cast, (neg_pow_odd _ k).1]
theorem pow_even_eq {x : Int} (h : decide (x < 0) = true) {n : Nat} (hn : (((n % 2 : Nat) : Int) == 1) = false) : ((x.natAbs ^ n : Nat) : Int) = x ^ n := by
  have h := of_decide_eq_true h
  have hn := beq_eq_false_iff_ne.1 hn
  obtain ⟨k, rfl⟩ : ∃ k, n = 2 * k := ⟨n / 2, by omega⟩
  have e : x = -((x.natAbs : Nat) : Int) := by omega
  generalize x.natAbs = a at *
  subst e
  rw [npow_cast, (neg_pow_odd _ k).2]
theorem ret_zb {i j : Int} {b : Bool} {w w' : World} (h : i = j) (e : Ext w w') : Ret (.tuple #[zV j, .bool b]) w (.returned (pack [zV i, .bool b])) w' := by subst h; exact ⟨rfl, e⟩
theorem Sm.pow {j a : Nat} (h : Sm j a) (n : Nat) : Sm (j * n + 1) (a ^ n) := by
  induction n with
  | zero => exact Sm.one.le (by omega)
  | succ n ih =>
    rw [Nat.pow_succ]
    exact (ih.mul h).le (by rw [Nat.mul_add]; omega)
theorem Sm.zpow {j : Nat} {x : Int} (h : Sm j x.natAbs) (n : Nat) : Sm (j * n + 1) (x ^ n).natAbs := by rw [Int.natAbs_pow]; exact h.pow n
theorem cpow {j a : Nat} (ha : Sm j a) (n : Nat) (W : World) (hj : j ≤ 1000000) (hn : n ≤ 65536) : Calls Tryd.prog 57 #[nV a, .int .i64 ((n : Nat) : Int)] W (Ret (.tuple #[nV (a ^ n), .bool true]) W) :=
  pow_any a n hn (by
    have h1 : bl a ≤ 1000000 := by unfold Sm at ha; omega
    have h2 := Nat.mul_le_mul hn h1
    omega) W
theorem cpow_no (a : Nat) {z : Int} (hz : z < 0) (W : World) : Calls Tryd.prog 57 #[nV a, .int .i64 z] W (Ret (.tuple #[nV 0, .bool false]) W) := pow_no a z hz W
theorem Sm.take12 (l : List UInt8) : Sm 96 (beN ((l.take 12).take 40)) := by
  have h := beN_take (l.take 12) 12
  rw [List.take_take] at *
  have e : (l.take 12).take 40 = (l.take 12) := List.take_of_length_le (by simp; omega)
  rw [← List.take_take, e]
  have h2 := beN_take l 12
  exact h2
theorem pick8 (n : Int) (h1 : -9223372036854775808 ≤ n) (h2 : n ≤ 9223372036854775807) : ∃ k : Nat, k ≤ 7 ∧ ∀ w, Calls Tryd.prog 10 #[.int .i64 n, .int .i64 8] w (Ret (.int .i64 ((k : Nat) : Int)) w) := by
  refine ⟨(n % 8).toNat, by omega, fun w => (pick_any n 8 h1 h2 (by omega) (by omega) w).mono fun e w' h => ?_⟩
  obtain ⟨rfl, rfl⟩ := h
  exact ⟨by rw [show (((n % 8).toNat : Nat) : Int) = n % 8 from by omega], Ext.refl _⟩
theorem wrap_add7 {a b : Nat} (ha : a ≤ 7) (hb : b ≤ 7) : Value.int .i64 (IntKind.i64.wrap (((a : Nat) : Int) + ((b : Nat) : Int))) = .int .i64 ((a + b : Nat) : Int) := by
  exact congrArg (Value.int .i64) (by rw [IntKind.wrap_i64]; omega)
theorem wrap_neg7 {a : Nat} (ha : a ≤ 7) : Value.int .i64 (IntKind.i64.wrap ((-1 : Int) - ((a : Nat) : Int))) = .int .i64 (-1 - ((a : Nat) : Int)) := by
  exact congrArg (Value.int .i64) (by rw [IntKind.wrap_i64]; omega)
theorem wrap_succ7 {a : Nat} (ha : a ≤ 7) : Value.int .i64 (IntKind.i64.wrap (((a : Nat) : Int) + 1)) = .int .i64 ((a + 1 : Nat) : Int) := by
  exact congrArg (Value.int .i64) (by rw [IntKind.wrap_i64]; omega)
/-- A power, factor by factor. -/
def zp (x : Int) : Nat → Int
  | 0 => 1
  | n + 1 => zp x n * x
theorem zp_eq (x : Int) : ∀ n, zp x n = x ^ n
  | 0 => (Int.pow_zero x).symm
  | n + 1 => by rw [zp, zp_eq x n, Int.pow_succ]

set_option maxHeartbeats 1000000 in
theorem zpow {k : Nat} {x : Int} (hx0 : Sm k x.natAbs) (n : Nat) (w : World) (hk : k ≤ 1000000) (hn : n ≤ 65536) : Calls Tryd.prog 30 #[zV x, .int .i64 ((n : Nat) : Int)] w (Ret (.tuple #[zV (x ^ n), .bool true]) w) := by
  have hkn : k * n ≤ 1000000 * 65536 := Nat.mul_le_mul hk hn
  have hs := St.start w
  refine enter Tryd.func30 rfl Tryd.ntmps30 (by kernel_rfl) fun ac ha => ?_
  refine wp_seq ?_
  refine wp_region_lit ?_
  refine s_box ha hs [.bool (decide (x < 0)), .int .u64 (lo x.natAbs : Nat), .string (hi x.natAbs)] fun g1 ac wd ha hs => ?_
  refine s_alloc ha hs [.bool false, .int .u64 0, .string (⟨#[]⟩)] fun g2 ac wd ha hs => ?_
  refine s_val ha (.bool false) fun ac ha => ?_
  refine wpList_nil ((x_normal ?_))
  refine wp_seq ?_
  refine wp_region_lit ?_
  refine s_val ha (.pointer (some ⟨g1, 1, none⟩)) fun ac ha => ?_
  refine s_load ha hs 1 (nV x.natAbs) fun ac ha => ?_
  refine s_val ha (.int .i64 ((n : Nat) : Int)) fun ac ha => ?_
  refine s_call ha hs (.tuple #[nV (x.natAbs ^ n), .bool true]) (cpow hx0 n _ (by omega) (by omega)) fun ac wd ha hs => ?_
  refine s_val ha (.tuple #[nV (x.natAbs ^ n), .bool true]) fun ac ha => ?_
  refine s_val ha (nV (x.natAbs ^ n)) fun ac ha => ?_
  refine s_val ha (.bool true) fun ac ha => ?_
  refine s_alloc ha hs [.int .u64 0, .string (⟨#[]⟩)] fun g3 ac wd ha hs => ?_
  refine s_store ha hs 0 _ fun ac wd ha hs => ?_
  refine s_val ha (.bool true) fun ac ha => ?_
  refine wpList_nil ((x_normal ?_))
  refine wp_seq ?_
  refine wp_seq ?_
  refine wp_region_lit ?_
  refine s_val ha (.bool true) fun ac ha => ?_
  refine s_val ha (.bool false) fun ac ha => ?_
  refine wpList_nil ((x_normal ?_))
  refine r_false ha ?_
  refine wp_skip ((x_normal ?_))
  refine wp_seq ?_
  refine wp_region_lit ?_
  refine s_val ha (.pointer (some ⟨g1, 0, none⟩)) fun ac ha => ?_
  rcases Bool.eq_false_or_eq_true (decide (x < 0)) with hb4 | hb4
  ·
    have phb4 := of_decide_eq_true hb4
    refine s_loadb ha hs 2 true hb4 fun ac ha => ?_
    refine s_val ha (.bool true) fun ac ha => ?_
    refine s_val ha (.int .i64 ((n : Nat) : Int)) fun ac ha => ?_
    refine s_val ha (.int .i64 ((n % 2 : Nat) : Int)) (fun ac ha => ?_) (hr := run_rem (x := ((n : Nat) : Int)) (y := ((2 : Nat) : Int)) rfl rfl rfl (by decide))
    rcases Bool.eq_false_or_eq_true ((((n % 2 : Nat) : Int) == 1)) with hb5 | hb5
    ·
      have phb5 := eq_of_beq hb5
      refine s_bool ha (b := (((n % 2 : Nat) : Int) == 1)) true hb5 fun ac ha => ?_
      refine s_val ha (.bool true) fun ac ha => ?_
      refine s_load ha hs 0 (nV (x.natAbs ^ n)) fun ac ha => ?_
      refine s_call ha hs (zV (-((x.natAbs ^ n : Nat) : Int))) (from_any true (hx0.pow n) (by omega) _) fun ac wd ha hs => ?_
      refine s_store ha hs 1 _ fun ac wd ha hs => ?_
      refine s_val ha (.bool true) fun ac ha => ?_
      refine wpList_nil ((x_normal ?_))
      refine wp_ret (ret_at ha hs rfl [zV (-((x.natAbs ^ n : Nat) : Int)), .bool true] ⟨⟨1, _, _, _, rfl, rfl, by kernel_rfl⟩, rfl, trivial⟩ ?_)
      exact ret_zb (pow_odd_eq hb4 hb5) hs.ext
    ·
      have phb5 := beq_eq_false_iff_ne.1 hb5
      refine s_bool ha (b := (((n % 2 : Nat) : Int) == 1)) false hb5 fun ac ha => ?_
      refine s_val ha (.bool false) fun ac ha => ?_
      refine s_load ha hs 0 (nV (x.natAbs ^ n)) fun ac ha => ?_
      refine s_call ha hs (zV ((x.natAbs ^ n : Nat) : Int)) (from_any false (hx0.pow n) (by omega) _) fun ac wd ha hs => ?_
      refine s_store ha hs 1 _ fun ac wd ha hs => ?_
      refine s_val ha (.bool true) fun ac ha => ?_
      refine wpList_nil ((x_normal ?_))
      refine wp_ret (ret_at ha hs rfl [zV ((x.natAbs ^ n : Nat) : Int), .bool true] ⟨⟨1, _, _, _, rfl, rfl, by kernel_rfl⟩, rfl, trivial⟩ ?_)
      exact ret_zb (pow_even_eq hb4 hb5) hs.ext
  ·
    have phb4 := of_decide_eq_false hb4
    refine s_loadb ha hs 2 false hb4 fun ac ha => ?_
    refine s_val ha (.bool false) fun ac ha => ?_
    refine s_not ha fun ac ha => ?_
    refine s_not ha fun ac ha => ?_
    refine s_not ha fun ac ha => ?_
    refine s_val ha (.bool false) fun ac ha => ?_
    refine s_load ha hs 0 (nV (x.natAbs ^ n)) fun ac ha => ?_
    refine s_call ha hs (zV ((x.natAbs ^ n : Nat) : Int)) (from_any false (hx0.pow n) (by omega) _) fun ac wd ha hs => ?_
    refine s_store ha hs 1 _ fun ac wd ha hs => ?_
    refine s_val ha (.bool true) fun ac ha => ?_
    refine wpList_nil ((x_normal ?_))
    refine wp_ret (ret_at ha hs rfl [zV ((x.natAbs ^ n : Nat) : Int), .bool true] ⟨⟨1, _, _, _, rfl, rfl, by kernel_rfl⟩, rfl, trivial⟩ ?_)
    exact ret_zb (pow_pos_eq hb4 n) hs.ext
  
set_option maxHeartbeats 1000000 in
theorem zpow_no (x z : Int) (hz : z < 0) (w : World) : Calls Tryd.prog 30 #[zV x, .int .i64 z] w (Ret (.tuple #[zV 0, .bool false]) w) := by
  have hs := St.start w
  refine enter Tryd.func30 rfl Tryd.ntmps30 (by kernel_rfl) fun ac ha => ?_
  refine wp_seq ?_
  refine wp_region_lit ?_
  refine s_box ha hs [.bool (decide (x < 0)), .int .u64 (lo x.natAbs : Nat), .string (hi x.natAbs)] fun g6 ac wd ha hs => ?_
  refine s_alloc ha hs [.bool false, .int .u64 0, .string (⟨#[]⟩)] fun g7 ac wd ha hs => ?_
  refine s_val ha (.bool false) fun ac ha => ?_
  refine wpList_nil ((x_normal ?_))
  refine wp_seq ?_
  refine wp_region_lit ?_
  refine s_val ha (.pointer (some ⟨g6, 1, none⟩)) fun ac ha => ?_
  refine s_load ha hs 1 (nV x.natAbs) fun ac ha => ?_
  refine s_val ha (.int .i64 z) fun ac ha => ?_
  refine s_call ha hs (.tuple #[nV 0, .bool false]) (cpow_no x.natAbs (by omega) _) fun ac wd ha hs => ?_
  refine s_val ha (.tuple #[nV 0, .bool false]) fun ac ha => ?_
  refine s_val ha (nV 0) fun ac ha => ?_
  refine s_val ha (.bool false) fun ac ha => ?_
  refine s_alloc ha hs [.int .u64 0, .string (⟨#[]⟩)] fun g8 ac wd ha hs => ?_
  refine s_store ha hs 0 _ fun ac wd ha hs => ?_
  refine s_val ha (.bool false) fun ac ha => ?_
  refine wpList_nil ((x_normal ?_))
  refine wp_seq ?_
  refine wp_seq ?_
  refine wp_region_lit ?_
  refine s_val ha (.bool false) fun ac ha => ?_
  refine s_val ha (.bool true) fun ac ha => ?_
  refine wpList_nil ((x_normal ?_))
  refine r_true ha ?_
  refine wp_seq ?_
  refine wp_region_lit ?_
  refine s_eq ha (zV (0 : Int)) zV_zero.symm fun ac ha => ?_
  refine s_store ha hs 1 _ fun ac wd ha hs => ?_
  refine s_val ha (.bool false) fun ac ha => ?_
  refine wpList_nil ((x_normal ?_))
  refine wp_ret (x_ret (ret_at ha hs rfl [zV (0 : Int), .bool false] ⟨⟨1, _, _, _, rfl, rfl, by kernel_rfl⟩, rfl, trivial⟩ ?_))
  exact ⟨rfl, hs.ext⟩
  
set_option maxHeartbeats 8000000 in
theorem wholePowers_any (l0 : List UInt8) (v0 : Value) (b1 : Bool) (n2 n3 : Int) (w : World) (s0 : SlB l0 v0 w) (b2 : -9223372036854775808 ≤ n2 ∧ n2 ≤ 9223372036854775807) (b3 : -9223372036854775808 ≤ n3 ∧ n3 ≤ 9223372036854775807) : Calls Tryd.prog 6 #[v0, .bool b1, .int .i64 n2, .int .i64 n3] w (Ret (.bool true) w) := by
  obtain ⟨A1, c1, rfl⟩ := s0.form
  obtain ⟨kn, hkn, Hkn⟩ := pick8 n2 b2.1 b2.2
  obtain ⟨km, hkm, Hkm⟩ := pick8 n3 b3.1 b3.2
  have HT := fun v W h1 h2 => two2 (l0.take 12) [] v (.slice none 0 0) b1 false W h1 h2
  have hx : Sm 96 (sg b1 (beN ((l0.take 12).take 40))).natAbs := by rw [sg_abs]; exact Sm.take12 l0
  generalize sg b1 (beN ((l0.take 12).take 40)) = x at *
  generalize sg false (beN (([] : List UInt8).take 40)) = y2 at *
  have hs := St.start w
  have hs := hs.add8 s0 (by kernel_rfl)
  refine enter Tryd.func6 rfl Tryd.ntmps6 (by kernel_rfl) fun ac ha => ?_
  refine wp_seq ?_
  refine wp_region_lit ?_
  refine s_val ha (.bool false) fun ac ha => ?_
  refine wpList_nil ((x_normal ?_))
  refine wp_seq ?_
  refine wp_region_lit ?_
  refine s_val ha (.slice A1 l0.length c1) fun ac ha => ?_
  refine s_callP ha hs (few_any l0 _ 12 (by omega) _ (hs.get 0 rfl)) fun u ac wd hp ha hs => ?_
  obtain ⟨Ai9, ci9, rfl⟩ := hp.form
  have hs := hs.add8 hp (by kernel_rfl)
  refine s_val ha (.bool b1) fun ac ha => ?_
  refine s_callP ha hs (HT _ _ (hs.get 0 rfl) (SlB.nil _)) fun u ac wd hp ha hs => ?_
  obtain ⟨x10, y10, rfl, p10, q10⟩ := hp
  obtain ⟨Ai11, ci11, rfl, r11⟩ := p10
  have hs := hs.add32 r11 (by kernel_rfl)
  obtain ⟨Ai12, ci12, rfl, r12⟩ := q10
  have hs := hs.add32 r12 (by kernel_rfl)
  refine s_val ha (.tuple #[zV x, zV y2, riV x Ai11 ci11, riV y2 Ai12 ci12]) fun ac ha => ?_
  refine s_val ha (zV x) fun ac ha => ?_
  refine s_val ha (zV y2) fun ac ha => ?_
  refine s_val ha (riV x Ai11 ci11) fun ac ha => ?_
  refine s_val ha (riV y2 Ai12 ci12) fun ac ha => ?_
  refine s_alloc ha hs [.bool false, .int .u64 0, .string (⟨#[]⟩)] fun g13 ac wd ha hs => ?_
  refine s_alloc ha hs [.bool false, .int .u64 0, .string (⟨#[]⟩)] fun g14 ac wd ha hs => ?_
  refine s_alloc ha hs [.bool false, .slice none 0 0] fun g15 ac wd ha hs => ?_
  refine s_alloc ha hs [.bool false, .slice none 0 0] fun g16 ac wd ha hs => ?_
  refine s_store ha hs 3 _ fun ac wd ha hs => ?_
  refine s_store ha hs 2 _ fun ac wd ha hs => ?_
  refine s_store ha hs 1 _ fun ac wd ha hs => ?_
  refine s_store ha hs 0 _ fun ac wd ha hs => ?_
  refine wpList_nil ((x_normal ?_))
  refine wp_seq ?_
  refine wp_region_lit ?_
  refine s_val ha (.int .i64 n2) fun ac ha => ?_
  refine s_call ha hs (.int .i64 ((kn : Nat) : Int)) (Hkn _) fun ac wd ha hs => ?_
  refine s_val ha (.int .i64 ((kn : Nat) : Int)) fun ac ha => ?_
  refine wpList_nil ((x_normal ?_))
  refine wp_seq ?_
  refine wp_region_lit ?_
  refine s_val ha (.int .i64 n3) fun ac ha => ?_
  refine s_call ha hs (.int .i64 ((km : Nat) : Int)) (Hkm _) fun ac wd ha hs => ?_
  refine s_val ha (.int .i64 ((km : Nat) : Int)) fun ac ha => ?_
  refine wpList_nil ((x_normal ?_))
  refine wp_seq ?_
  refine wp_region_lit ?_
  refine s_load ha hs 3 (zV x) fun ac ha => ?_
  refine s_val ha (.int .i64 ((kn : Nat) : Int)) fun ac ha => ?_
  refine s_call ha hs (.tuple #[zV (x ^ kn), .bool true]) (zpow hx kn _ (by omega) (by omega)) fun ac wd ha hs => ?_
  refine s_val ha (.tuple #[zV (x ^ kn), .bool true]) fun ac ha => ?_
  refine s_val ha (zV (x ^ kn)) fun ac ha => ?_
  refine s_val ha (.bool true) fun ac ha => ?_
  refine s_alloc ha hs [.bool false, .int .u64 0, .string (⟨#[]⟩)] fun g17 ac wd ha hs => ?_
  refine s_store ha hs 0 _ fun ac wd ha hs => ?_
  refine s_val ha (.bool true) fun ac ha => ?_
  refine wpList_nil ((x_normal ?_))
  refine wp_seq ?_
  refine wp_region_lit ?_
  refine s_load ha hs 4 (zV x) fun ac ha => ?_
  refine s_val ha (.int .i64 ((km : Nat) : Int)) fun ac ha => ?_
  refine s_call ha hs (.tuple #[zV (x ^ km), .bool true]) (zpow hx km _ (by omega) (by omega)) fun ac wd ha hs => ?_
  refine s_val ha (.tuple #[zV (x ^ km), .bool true]) fun ac ha => ?_
  refine s_val ha (zV (x ^ km)) fun ac ha => ?_
  refine s_val ha (.bool true) fun ac ha => ?_
  refine s_alloc ha hs [.bool false, .int .u64 0, .string (⟨#[]⟩)] fun g18 ac wd ha hs => ?_
  refine s_store ha hs 0 _ fun ac wd ha hs => ?_
  refine s_val ha (.bool true) fun ac ha => ?_
  refine wpList_nil ((x_normal ?_))
  refine wp_seq ?_
  refine wp_region_lit ?_
  refine s_load ha hs 5 (zV x) fun ac ha => ?_
  refine s_val ha (.int .i64 ((kn : Nat) : Int)) fun ac ha => ?_
  refine s_val ha (.int .i64 ((km : Nat) : Int)) fun ac ha => ?_
  refine s_eq ha (.int .i64 ((kn + km : Nat) : Int)) (wrap_add7 hkn hkm) fun ac ha => ?_
  refine s_call ha hs (.tuple #[zV (x ^ (kn + km)), .bool true]) (zpow hx (kn + km) _ (by omega) (by omega)) fun ac wd ha hs => ?_
  refine s_val ha (.tuple #[zV (x ^ (kn + km)), .bool true]) fun ac ha => ?_
  refine s_val ha (zV (x ^ (kn + km))) fun ac ha => ?_
  refine s_val ha (.bool true) fun ac ha => ?_
  refine s_alloc ha hs [.bool false, .int .u64 0, .string (⟨#[]⟩)] fun g19 ac wd ha hs => ?_
  refine s_store ha hs 0 _ fun ac wd ha hs => ?_
  refine s_val ha (.bool true) fun ac ha => ?_
  refine wpList_nil ((x_normal ?_))
  refine wp_seq ?_
  refine wp_region_lit ?_
  refine s_load ha hs 6 (zV x) fun ac ha => ?_
  refine s_val ha (.int .i64 ((kn : Nat) : Int)) fun ac ha => ?_
  refine s_eq ha (.int .i64 (-1 - ((kn : Nat) : Int))) (wrap_neg7 hkn) fun ac ha => ?_
  refine s_call ha hs (.tuple #[zV (0 : Int), .bool false]) (zpow_no x (-1 - ((kn : Nat) : Int)) (by omega) _) fun ac wd ha hs => ?_
  refine s_val ha (.tuple #[zV (0 : Int), .bool false]) fun ac ha => ?_
  refine s_val ha (zV (0 : Int)) fun ac ha => ?_
  refine s_val ha (.bool false) fun ac ha => ?_
  refine s_alloc ha hs [.bool false, .int .u64 0, .string (⟨#[]⟩)] fun g20 ac wd ha hs => ?_
  refine s_store ha hs 0 _ fun ac wd ha hs => ?_
  refine s_val ha (.bool false) fun ac ha => ?_
  refine wpList_nil ((x_normal ?_))
  refine wp_seq ?_
  refine wp_region_lit ?_
  refine s_call ha hs (zV (1 : Int)) (zof 1 (by omega) (by omega) _) fun ac wd ha hs => ?_
  refine s_alloc ha hs [.bool false, .int .u64 0, .string (⟨#[]⟩)] fun g21 ac wd ha hs => ?_
  refine s_store ha hs 0 _ fun ac wd ha hs => ?_
  refine wpList_nil ((x_normal ?_))
  refine wp_seq ?_
  refine wp_seq ?_
  refine wp_region_lit ?_
  refine s_val ha (.int .i64 0) fun ac ha => ?_
  refine wpList_nil ((x_normal ?_))
  refine wp_block ?_
  have hs := hs.facts [] (fun _ h => by cases h)
  refine loop_inv (α := Nat) (fun i0 ac wd => At ac _ [(0, .slice A1 l0.length c1), (1, .bool b1), (2, .int .i64 ((kn : Nat) : Int)), (3, .int .i64 ((km : Nat) : Int)), (8, .bool false), (24, .slice A1 l0.length c1), (25, .slice Ai9 ((l0.take 12).length) ci9), (26, .bool b1), (27, .tuple #[zV x, zV y2, riV x Ai11 ci11, riV y2 Ai12 ci12]), (23, .tuple #[zV x, zV y2, riV x Ai11 ci11, riV y2 Ai12 ci12]), (28, zV x), (29, zV y2), (30, riV x Ai11 ci11), (31, riV y2 Ai12 ci12), (9, .pointer (some ⟨g13, 0, none⟩)), (10, .pointer (some ⟨g14, 0, none⟩)), (11, .pointer (some ⟨g15, 0, none⟩)), (12, .pointer (some ⟨g16, 0, none⟩)), (32, .int .i64 n2), (33, .int .i64 ((kn : Nat) : Int)), (34, .int .i64 n3), (35, .int .i64 ((km : Nat) : Int)), (37, zV x), (38, .int .i64 ((kn : Nat) : Int)), (39, .tuple #[zV (x ^ kn), .bool true]), (36, .tuple #[zV (x ^ kn), .bool true]), (40, zV (x ^ kn)), (41, .bool true), (13, .pointer (some ⟨g17, 0, none⟩)), (14, .bool true), (43, zV x), (44, .int .i64 ((km : Nat) : Int)), (45, .tuple #[zV (x ^ km), .bool true]), (42, .tuple #[zV (x ^ km), .bool true]), (46, zV (x ^ km)), (47, .bool true), (15, .pointer (some ⟨g18, 0, none⟩)), (16, .bool true), (49, zV x), (50, .int .i64 ((kn : Nat) : Int)), (51, .int .i64 ((km : Nat) : Int)), (52, .int .i64 ((kn + km : Nat) : Int)), (53, .tuple #[zV (x ^ (kn + km)), .bool true]), (48, .tuple #[zV (x ^ (kn + km)), .bool true]), (54, zV (x ^ (kn + km))), (55, .bool true), (17, .pointer (some ⟨g19, 0, none⟩)), (18, .bool true), (57, zV x), (58, .int .i64 ((kn : Nat) : Int)), (59, .int .i64 (-1 - ((kn : Nat) : Int))), (60, .tuple #[zV (0 : Int), .bool false]), (56, .tuple #[zV (0 : Int), .bool false]), (61, zV (0 : Int)), (62, .bool false), (19, .pointer (some ⟨g20, 0, none⟩)), (20, .bool false), (63, zV (1 : Int)), (21, .pointer (some ⟨g21, 0, none⟩)), (22, .int .i64 ((i0 : Nat) : Int))] ∧ St w wd [(g21, 27, [.bool (decide ((zp x i0) < 0)), .int .u64 (lo ((zp x i0).natAbs) : Nat), .string (hi ((zp x i0).natAbs))]), (g20, 27, [.bool (decide ((0 : Int) < 0)), .int .u64 (lo ((0 : Int).natAbs) : Nat), .string (hi ((0 : Int).natAbs))]), (g19, 27, [.bool (decide (x ^ (kn + km) < 0)), .int .u64 (lo ((x ^ (kn + km)).natAbs) : Nat), .string (hi ((x ^ (kn + km)).natAbs))]), (g18, 27, [.bool (decide (x ^ km < 0)), .int .u64 (lo ((x ^ km).natAbs) : Nat), .string (hi ((x ^ km).natAbs))]), (g17, 27, [.bool (decide (x ^ kn < 0)), .int .u64 (lo ((x ^ kn).natAbs) : Nat), .string (hi ((x ^ kn).natAbs))]), (g16, 31, [.bool (decide (y2 < 0)), .slice Ai12 (nl y2.natAbs) ci12]), (g15, 31, [.bool (decide (x < 0)), .slice Ai11 (nl x.natAbs) ci11]), (g14, 27, [.bool (decide (y2 < 0)), .int .u64 (lo y2.natAbs : Nat), .string (hi y2.natAbs)]), (g13, 27, [.bool (decide (x < 0)), .int .u64 (lo x.natAbs : Nat), .string (hi x.natAbs)])] [] ∧ i0 ≤ kn) (fun i0 => kn - i0) 0 ⟨ha.sub _, hs.cast _, Nat.zero_le _⟩ ?_
  rintro i0 ac wd ⟨ha, hs, hI⟩
  refine wp_seq ?_
  refine wp_seq ?_
  refine wp_region_lit ?_
  refine s_val ha (.int .i64 ((i0 : Nat) : Int)) fun ac ha => ?_
  refine s_val ha (.int .i64 ((kn : Nat) : Int)) fun ac ha => ?_
  rcases Bool.eq_false_or_eq_true (decide (((i0 : Nat) : Int) < ((kn : Nat) : Int))) with hb22 | hb22
  ·
    have phb22 := of_decide_eq_true hb22
    refine s_bool ha (b := decide (((i0 : Nat) : Int) < ((kn : Nat) : Int))) true hb22 fun ac ha => ?_
    refine wpList_nil ((x_normal ?_))
    refine r_true ha ?_
    refine wp_skip ((x_normal ?_))
    refine wp_seq ?_
    refine wp_block ?_
    refine wp_region_lit ?_
    refine s_load ha hs 0 (zV (zp x i0)) fun ac ha => ?_
    refine s_load ha hs 8 (zV x) fun ac ha => ?_
    refine s_call ha hs (zV ((zp x i0) * x)) (zmul (show Sm _ (zp x i0).natAbs by rw [zp_eq]; exact hx.zpow i0) hx _ (by omega)) fun ac wd ha hs => ?_
    refine s_store ha hs 0 _ fun ac wd ha hs => ?_
    refine wpList_nil ((b_normal (x_normal ?_)))
    refine wp_region_lit ?_
    refine s_val ha (.int .i64 ((i0 : Nat) : Int)) fun ac ha => ?_
    refine s_eq ha (.int .i64 ((i0 + 1 : Nat) : Int)) (wrap_succ7 (by omega)) fun ac ha => ?_
    refine s_val ha (.int .i64 ((i0 + 1 : Nat) : Int)) fun ac ha => ?_
    refine wpList_nil ((x_normal ?_))
    exact ⟨i0 + 1, ⟨ha.sub _, hs.cast _, by omega⟩, by omega⟩
  ·
    have phb22 := of_decide_eq_false hb22
    refine s_bool ha (b := decide (((i0 : Nat) : Int) < ((kn : Nat) : Int))) false hb22 fun ac ha => ?_
    refine wpList_nil ((x_normal ?_))
    refine r_false ha ?_
    refine wp_exit (x_exit (x_exit (b_hit (x_normal ?_))))
    refine wp_seq ?_
    refine region_sp ha 28 [.eq (.bool true), .eq (.bool true), .eq (.bool true), .eq (.bool true), .eq (.bool true), .eq (.bool true), .eq (.bool true), .eq (.bool true), .eq (.bool true), .eq (.bool true), .eq (.bool true), .eq (.bool false), .eq (.bool true), .eq (.bool true), .eq (.bool true), .eq (zV (x ^ kn)), .eq (zV (x ^ km)), .eq (zV ((x ^ kn) * (x ^ km))), .eq (zV (x ^ (kn + km))), .eq (.int .i64 0), .eq (.bool true), .eq (.bool true), .eq (.bool true), .eq (zV (zp x i0)), .eq (zV (x ^ kn)), .eq (.int .i64 0), .eq (.bool true), .eq (.bool true)] [] [] (fun _ hb => by cases hb)
      ⟨d_call (fun _ hw => known2 _), d_val, d_val, d_val, d_val, d_val, d_val, d_val, d_val, d_val, d_val, d_val, d_val, d_val, d_val, d_load hs 4, d_load hs 3, d_call (fun _ hw => zmul (hx.zpow kn) (hx.zpow km) _ (by omega)), d_load hs 2, d_call (fun _ hw => zcmp_eq ((hx.zpow kn).zmul (hx.zpow km)) (hx.zpow (kn + km)) ((Int.pow_add x kn km).symm) _ (by omega)), d_val, d_val, d_val, d_load hs 0, d_load hs 4, d_call (fun _ hw => zcmp_eq (show Sm _ (zp x i0).natAbs by rw [zp_eq]; exact hx.zpow i0) (hx.zpow kn) (by rw [zp_eq, show i0 = kn from by omega]) _ (by omega)), d_val, d_val, trivial⟩ ?_
    intro vv wd1 ac hw hG hN ha
    have ha := ha.sub [(0, .slice A1 l0.length c1), (1, .bool b1), (2, .int .i64 ((kn : Nat) : Int)), (3, .int .i64 ((km : Nat) : Int)), (8, .bool false), (24, .slice A1 l0.length c1), (25, .slice Ai9 ((l0.take 12).length) ci9), (26, .bool b1), (27, .tuple #[zV x, zV y2, riV x Ai11 ci11, riV y2 Ai12 ci12]), (23, .tuple #[zV x, zV y2, riV x Ai11 ci11, riV y2 Ai12 ci12]), (28, zV x), (29, zV y2), (30, riV x Ai11 ci11), (31, riV y2 Ai12 ci12), (9, .pointer (some ⟨g13, 0, none⟩)), (10, .pointer (some ⟨g14, 0, none⟩)), (11, .pointer (some ⟨g15, 0, none⟩)), (12, .pointer (some ⟨g16, 0, none⟩)), (32, .int .i64 n2), (33, .int .i64 ((kn : Nat) : Int)), (34, .int .i64 n3), (35, .int .i64 ((km : Nat) : Int)), (37, zV x), (38, .int .i64 ((kn : Nat) : Int)), (39, .tuple #[zV (x ^ kn), .bool true]), (36, .tuple #[zV (x ^ kn), .bool true]), (40, zV (x ^ kn)), (41, .bool true), (13, .pointer (some ⟨g17, 0, none⟩)), (43, zV x), (44, .int .i64 ((km : Nat) : Int)), (45, .tuple #[zV (x ^ km), .bool true]), (42, .tuple #[zV (x ^ km), .bool true]), (46, zV (x ^ km)), (47, .bool true), (15, .pointer (some ⟨g18, 0, none⟩)), (49, zV x), (50, .int .i64 ((kn : Nat) : Int)), (51, .int .i64 ((km : Nat) : Int)), (52, .int .i64 ((kn + km : Nat) : Int)), (53, .tuple #[zV (x ^ (kn + km)), .bool true]), (48, .tuple #[zV (x ^ (kn + km)), .bool true]), (54, zV (x ^ (kn + km))), (55, .bool true), (17, .pointer (some ⟨g19, 0, none⟩)), (57, zV x), (58, .int .i64 ((kn : Nat) : Int)), (59, .int .i64 (-1 - ((kn : Nat) : Int))), (60, .tuple #[zV (0 : Int), .bool false]), (56, .tuple #[zV (0 : Int), .bool false]), (61, zV (0 : Int)), (62, .bool false), (19, .pointer (some ⟨g20, 0, none⟩)), (63, zV (1 : Int)), (21, .pointer (some ⟨g21, 0, none⟩)), (22, .int .i64 ((i0 : Nat) : Int)), (64, .int .i64 ((i0 : Nat) : Int)), (65, .int .i64 ((kn : Nat) : Int)), (66, .bool false), (99, .bool true)]
    clear hG hN
    have hs := hs.go hw
    clear hw
    refine keeps_nil ?_
    show wpList _ _ _ _ _ _
    refine s_val ha (.bool true) fun ac ha => ?_
    refine wpList_nil ((x_normal ?_))
    refine wp_ret (ret_at ha hs rfl [.bool true] ⟨rfl, trivial⟩ ?_)
    exact ⟨rfl, hs.ext⟩
  end Go.Proofs.YtiloialbglfplaaDoor

namespace Go.Proofs.YtiloialbglfplaaDoor
open Go.RowKit

theorem zbez50 (W : World) : Calls Tryd.prog 32 #[zV (-5), zV 0] W (Ret (.tuple #[zV 5, zV (-1), zV 0]) W) := by
  have h := zbez (j := 64) (k := 64) (a := -5) (b := 0) (Sm.lit (by decide)) (Sm.lit (by decide)) W (by omega)
  have e1 : bezG (-5) 0 = 5 := by unfold bezG; rw [if_pos rfl]; rfl
  have e2 : bezX (-5) 0 = -1 := by unfold bezX; rw [if_pos rfl]; rfl
  have e3 : bezY (-5) 0 = 0 := by unfold bezY; rw [if_pos rfl]
  rw [e1, e2, e3] at h
  exact h
theorem zpow8 (W : World) : Calls Tryd.prog 30 #[zV (-2), .int .i64 3] W (Ret (.tuple #[zV (-8), .bool true]) W) := by
  have h := zpow (x := -2) (k := 64) (Sm.lit (by decide)) 3 W (by omega) (by omega)
  rw [show ((-2 : Int)) ^ 3 = -8 from by decide] at h
  exact h
theorem parse_of (t : ByteArray) {l : List UInt8} {n : Nat} {b : Bool} (ht : t.data.toList = l) (hn : pn l = n) (hb : good l = b) (W : World) : Calls Tryd.prog 67 #[.string t] W (Ret (.tuple #[nV n, .bool b]) W) := by
  subst ht; subst hn; subst hb
  exact parse_any t W
theorem cut_of (s p : ByteArray) {t : ByteArray} {b : Bool} (h : (⟨(Lib.trimPrefix s.data.toList p.data.toList).toArray⟩ : ByteArray) = t) (hb : Lib.hasPrefix s.data.toList p.data.toList = b) (W : World) : Calls Tryd.prog 66 #[.string s, .string p] W (Ret (.tuple #[.string t, .bool b]) W) := by
  subst h; subst hb
  exact (Tryd.strings_CutPrefix s p W).mono fun _ _ h => ⟨h.1, Ext.of_eq h.2.symm⟩

set_option maxHeartbeats 1000000 in
theorem zparse_no (w : World) : Calls Tryd.prog 36 #[.string (⟨#[45, 48]⟩)] w (Ret (.tuple #[zV 0, .bool false]) w) := by
  have hs := St.start w
  refine enter Tryd.func36 rfl Tryd.ntmps36 (by kernel_rfl) fun ac ha => ?_
  refine wp_seq ?_
  refine wp_region_lit ?_
  refine s_alloc ha hs [.bool false, .int .u64 0, .string (⟨#[]⟩)] fun g1 ac wd ha hs => ?_
  refine s_val ha (.bool false) fun ac ha => ?_
  refine wpList_nil ((x_normal ?_))
  refine wp_seq ?_
  refine wp_region_lit ?_
  refine s_val ha (.string (⟨#[45, 48]⟩)) fun ac ha => ?_
  refine s_call ha hs (.tuple #[.string (⟨#[48]⟩), .bool true]) (cut_of ⟨#[45, 48]⟩ ⟨#[45]⟩ (t := ⟨#[48]⟩) (b := true) (by kernel_rfl) (by kernel_rfl) _) fun ac wd ha hs => ?_
  refine s_val ha (.tuple #[.string (⟨#[48]⟩), .bool true]) fun ac ha => ?_
  refine s_val ha (.string (⟨#[48]⟩)) fun ac ha => ?_
  refine s_val ha (.bool true) fun ac ha => ?_
  refine s_val ha (.string (⟨#[48]⟩)) fun ac ha => ?_
  refine s_val ha (.bool true) fun ac ha => ?_
  refine wpList_nil ((x_normal ?_))
  refine wp_seq ?_
  refine wp_region_lit ?_
  refine s_val ha (.string (⟨#[48]⟩)) fun ac ha => ?_
  refine s_call ha hs (.tuple #[nV 0, .bool true]) (parse_of ⟨#[48]⟩ (l := [48]) (n := 0) (b := true) (by kernel_rfl) (by kernel_rfl) (by kernel_rfl) _) fun ac wd ha hs => ?_
  refine s_val ha (.tuple #[nV 0, .bool true]) fun ac ha => ?_
  refine s_val ha (nV 0) fun ac ha => ?_
  refine s_val ha (.bool true) fun ac ha => ?_
  refine s_alloc ha hs [.int .u64 0, .string (⟨#[]⟩)] fun g2 ac wd ha hs => ?_
  refine s_store ha hs 0 _ fun ac wd ha hs => ?_
  refine s_val ha (.bool true) fun ac ha => ?_
  refine wpList_nil ((x_normal ?_))
  refine wp_seq ?_
  refine wp_seq ?_
  refine wp_region_lit ?_
  refine s_val ha (.bool true) fun ac ha => ?_
  refine s_val ha (.bool false) fun ac ha => ?_
  refine s_val ha (.bool false) fun ac ha => ?_
  refine s_val ha (.bool true) fun ac ha => ?_
  refine s_val ha (.bool true) fun ac ha => ?_
  refine s_load ha hs 0 (nV 0) fun ac ha => ?_
  refine s_call ha hs (.int .i64 0) (cbits_zero rfl _) fun ac wd ha hs => ?_
  refine s_val ha (.bool true) fun ac ha => ?_
  refine s_val ha (.bool true) fun ac ha => ?_
  refine s_val ha (.bool true) fun ac ha => ?_
  refine wpList_nil ((x_normal ?_))
  refine r_true ha ?_
  refine wp_seq ?_
  refine wp_region_lit ?_
  refine s_eq ha (zV (0 : Int)) zV_zero.symm fun ac ha => ?_
  refine s_store ha hs 1 _ fun ac wd ha hs => ?_
  refine s_val ha (.bool false) fun ac ha => ?_
  refine wpList_nil ((x_normal ?_))
  refine wp_ret (x_ret (ret_at ha hs rfl [zV (0 : Int), .bool false] ⟨⟨1, _, _, _, rfl, rfl, by kernel_rfl⟩, rfl, trivial⟩ ?_))
  exact ⟨rfl, hs.ext⟩
  
set_option maxHeartbeats 1000000 in
theorem zparse_m12 (w : World) : Calls Tryd.prog 36 #[.string (⟨#[45, 49, 50]⟩)] w (Ret (.tuple #[zV (-12), .bool true]) w) := by
  have h12 : (((bl 12 : Nat) : Int) == 0) = false := bl_ne (x := 12) (by decide)
  have hs := St.start w
  refine enter Tryd.func36 rfl Tryd.ntmps36 (by kernel_rfl) fun ac ha => ?_
  refine wp_seq ?_
  refine wp_region_lit ?_
  refine s_alloc ha hs [.bool false, .int .u64 0, .string (⟨#[]⟩)] fun g3 ac wd ha hs => ?_
  refine s_val ha (.bool false) fun ac ha => ?_
  refine wpList_nil ((x_normal ?_))
  refine wp_seq ?_
  refine wp_region_lit ?_
  refine s_val ha (.string (⟨#[45, 49, 50]⟩)) fun ac ha => ?_
  refine s_call ha hs (.tuple #[.string (⟨#[49, 50]⟩), .bool true]) (cut_of ⟨#[45, 49, 50]⟩ ⟨#[45]⟩ (t := ⟨#[49, 50]⟩) (b := true) (by kernel_rfl) (by kernel_rfl) _) fun ac wd ha hs => ?_
  refine s_val ha (.tuple #[.string (⟨#[49, 50]⟩), .bool true]) fun ac ha => ?_
  refine s_val ha (.string (⟨#[49, 50]⟩)) fun ac ha => ?_
  refine s_val ha (.bool true) fun ac ha => ?_
  refine s_val ha (.string (⟨#[49, 50]⟩)) fun ac ha => ?_
  refine s_val ha (.bool true) fun ac ha => ?_
  refine wpList_nil ((x_normal ?_))
  refine wp_seq ?_
  refine wp_region_lit ?_
  refine s_val ha (.string (⟨#[49, 50]⟩)) fun ac ha => ?_
  refine s_call ha hs (.tuple #[nV 12, .bool true]) (parse_of ⟨#[49, 50]⟩ (l := [49, 50]) (n := 12) (b := true) (by kernel_rfl) (by kernel_rfl) (by kernel_rfl) _) fun ac wd ha hs => ?_
  refine s_val ha (.tuple #[nV 12, .bool true]) fun ac ha => ?_
  refine s_val ha (nV 12) fun ac ha => ?_
  refine s_val ha (.bool true) fun ac ha => ?_
  refine s_alloc ha hs [.int .u64 0, .string (⟨#[]⟩)] fun g4 ac wd ha hs => ?_
  refine s_store ha hs 0 _ fun ac wd ha hs => ?_
  refine s_val ha (.bool true) fun ac ha => ?_
  refine wpList_nil ((x_normal ?_))
  refine wp_seq ?_
  refine wp_seq ?_
  refine wp_region_lit ?_
  refine s_val ha (.bool true) fun ac ha => ?_
  refine s_val ha (.bool false) fun ac ha => ?_
  refine s_val ha (.bool false) fun ac ha => ?_
  refine s_val ha (.bool true) fun ac ha => ?_
  refine s_val ha (.bool true) fun ac ha => ?_
  refine s_load ha hs 0 (nV 12) fun ac ha => ?_
  refine s_call ha hs (.int .i64 ((bl 12 : Nat) : Int)) (cbits (Sm.lit (n := 12) (by decide)) _ (by omega)) fun ac wd ha hs => ?_
  refine s_bool ha (b := (((bl 12 : Nat) : Int) == 0)) false h12 fun ac ha => ?_
  refine s_val ha (.bool false) fun ac ha => ?_
  refine s_val ha (.bool false) fun ac ha => ?_
  refine wpList_nil ((x_normal ?_))
  refine r_false ha ?_
  refine wp_skip ((x_normal ?_))
  refine wp_seq ?_
  refine wp_region_lit ?_
  refine s_val ha (.bool true) fun ac ha => ?_
  refine s_load ha hs 0 (nV 12) fun ac ha => ?_
  refine s_call ha hs (zV (-12 : Int)) (from_any true (a := 12) (Sm.lit (n := 12) (by decide)) (by omega) _) fun ac wd ha hs => ?_
  refine s_store ha hs 1 _ fun ac wd ha hs => ?_
  refine s_val ha (.bool true) fun ac ha => ?_
  refine wpList_nil ((x_normal ?_))
  refine wp_ret (ret_at ha hs rfl [zV (-12 : Int), .bool true] ⟨⟨1, _, _, _, rfl, rfl, by kernel_rfl⟩, rfl, trivial⟩ ?_)
  exact ⟨rfl, hs.ext⟩
  
set_option maxHeartbeats 1000000 in
theorem zsmall_lo (w : World) : Calls Tryd.prog 37 #[zV (-9223372036854775808 : Int)] w (Ret (.tuple #[.int .i64 (-9223372036854775808), .bool true]) w) := by
  have hs := St.start w
  refine enter Tryd.func37 rfl Tryd.ntmps37 (by kernel_rfl) fun ac ha => ?_
  refine wp_seq ?_
  refine wp_region_lit ?_
  refine s_box ha hs [.bool (decide ((-9223372036854775808 : Int) < 0)), .int .u64 (lo ((-9223372036854775808 : Int).natAbs) : Nat), .string (hi ((-9223372036854775808 : Int).natAbs))] fun g5 ac wd ha hs => ?_
  refine s_val ha (.int .i64 0) fun ac ha => ?_
  refine s_val ha (.bool false) fun ac ha => ?_
  refine wpList_nil ((x_normal ?_))
  refine wp_seq ?_
  refine wp_region_lit ?_
  refine s_val ha (.pointer (some ⟨g5, 1, none⟩)) fun ac ha => ?_
  refine s_load ha hs 0 (nV ((-9223372036854775808 : Int).natAbs)) fun ac ha => ?_
  refine s_call ha hs (.tuple #[.int .u64 9223372036854775808, .bool true]) (csmall (x := 9223372036854775808) (by unfold B64; omega) _) fun ac wd ha hs => ?_
  refine s_val ha (.tuple #[.int .u64 9223372036854775808, .bool true]) fun ac ha => ?_
  refine s_val ha (.int .u64 9223372036854775808) fun ac ha => ?_
  refine s_val ha (.bool true) fun ac ha => ?_
  refine s_val ha (.int .u64 9223372036854775808) fun ac ha => ?_
  refine s_val ha (.bool true) fun ac ha => ?_
  refine wpList_nil ((x_normal ?_))
  refine wp_seq ?_
  refine wp_block ?_
  refine wp_seq ?_
  refine wp_region_lit ?_
  refine s_val ha (.bool true) fun ac ha => ?_
  refine s_val ha (.bool false) fun ac ha => ?_
  refine s_val ha (.bool false) fun ac ha => ?_
  refine wpList_nil ((x_normal ?_))
  refine r_false ha ?_
  refine wp_seq ?_
  refine wp_region_lit ?_
  refine s_val ha (.pointer (some ⟨g5, 0, none⟩)) fun ac ha => ?_
  refine s_loadb ha hs 0 true (show decide ((-9223372036854775808 : Int) < 0) = true by decide) fun ac ha => ?_
  refine s_val ha (.bool true) fun ac ha => ?_
  refine s_val ha (.int .u64 9223372036854775808) fun ac ha => ?_
  refine s_val ha (.bool true) fun ac ha => ?_
  refine s_val ha (.bool true) fun ac ha => ?_
  refine s_val ha (.bool true) fun ac ha => ?_
  refine wpList_nil ((x_normal ?_))
  refine r_true ha ?_
  refine wp_seq ?_
  refine wp_region_lit ?_
  refine s_val ha (.int .u64 9223372036854775808) fun ac ha => ?_
  refine s_val ha (.int .u64 9223372036854775808) fun ac ha => ?_
  refine s_val ha (.int .i64 (-9223372036854775808)) fun ac ha => ?_
  refine s_val ha (.int .i64 (-9223372036854775808)) fun ac ha => ?_
  refine s_val ha (.bool true) fun ac ha => ?_
  refine wpList_nil ((x_normal ?_))
  refine wp_ret (b_ret (x_ret (ret_at ha hs rfl [.int .i64 (-9223372036854775808), .bool true] ⟨rfl, rfl, trivial⟩ ?_)))
  exact ⟨rfl, hs.ext⟩
  
set_option maxHeartbeats 1000000 in
theorem zsmall_no (w : World) : Calls Tryd.prog 37 #[zV (9223372036854775808 : Int)] w (Ret (.tuple #[.int .i64 0, .bool false]) w) := by
  have hs := St.start w
  refine enter Tryd.func37 rfl Tryd.ntmps37 (by kernel_rfl) fun ac ha => ?_
  refine wp_seq ?_
  refine wp_region_lit ?_
  refine s_box ha hs [.bool (decide ((9223372036854775808 : Int) < 0)), .int .u64 (lo ((9223372036854775808 : Int).natAbs) : Nat), .string (hi ((9223372036854775808 : Int).natAbs))] fun g6 ac wd ha hs => ?_
  refine s_val ha (.int .i64 0) fun ac ha => ?_
  refine s_val ha (.bool false) fun ac ha => ?_
  refine wpList_nil ((x_normal ?_))
  refine wp_seq ?_
  refine wp_region_lit ?_
  refine s_val ha (.pointer (some ⟨g6, 1, none⟩)) fun ac ha => ?_
  refine s_load ha hs 0 (nV ((9223372036854775808 : Int).natAbs)) fun ac ha => ?_
  refine s_call ha hs (.tuple #[.int .u64 9223372036854775808, .bool true]) (csmall (x := 9223372036854775808) (by unfold B64; omega) _) fun ac wd ha hs => ?_
  refine s_val ha (.tuple #[.int .u64 9223372036854775808, .bool true]) fun ac ha => ?_
  refine s_val ha (.int .u64 9223372036854775808) fun ac ha => ?_
  refine s_val ha (.bool true) fun ac ha => ?_
  refine s_val ha (.int .u64 9223372036854775808) fun ac ha => ?_
  refine s_val ha (.bool true) fun ac ha => ?_
  refine wpList_nil ((x_normal ?_))
  refine wp_seq ?_
  refine wp_block ?_
  refine wp_seq ?_
  refine wp_region_lit ?_
  refine s_val ha (.bool true) fun ac ha => ?_
  refine s_val ha (.bool false) fun ac ha => ?_
  refine s_val ha (.bool false) fun ac ha => ?_
  refine wpList_nil ((x_normal ?_))
  refine r_false ha ?_
  refine wp_seq ?_
  refine wp_region_lit ?_
  refine s_val ha (.pointer (some ⟨g6, 0, none⟩)) fun ac ha => ?_
  refine s_loadb ha hs 0 false (show decide ((9223372036854775808 : Int) < 0) = false by decide) fun ac ha => ?_
  refine s_val ha (.bool false) fun ac ha => ?_
  refine s_not ha fun ac ha => ?_
  refine s_not ha fun ac ha => ?_
  refine s_val ha (.bool false) fun ac ha => ?_
  refine s_val ha (.bool false) fun ac ha => ?_
  refine wpList_nil ((x_normal ?_))
  refine r_false ha ?_
  refine wp_seq ?_
  refine wp_region_lit ?_
  refine s_val ha (.pointer (some ⟨g6, 0, none⟩)) fun ac ha => ?_
  refine s_loadb ha hs 0 false (show decide ((9223372036854775808 : Int) < 0) = false by decide) fun ac ha => ?_
  refine s_val ha (.bool true) fun ac ha => ?_
  refine s_val ha (.bool true) fun ac ha => ?_
  refine s_val ha (.int .u64 9223372036854775808) fun ac ha => ?_
  refine s_val ha (.bool false) fun ac ha => ?_
  refine s_val ha (.bool false) fun ac ha => ?_
  refine s_val ha (.bool false) fun ac ha => ?_
  refine wpList_nil ((x_normal ?_))
  refine r_false ha ?_
  refine wp_skip ((b_normal (x_normal ?_)))
  refine wp_seq ?_
  refine wp_region_lit ?_
  refine s_val ha (.int .i64 0) fun ac ha => ?_
  refine s_val ha (.bool false) fun ac ha => ?_
  refine wpList_nil ((x_normal ?_))
  refine wp_ret (ret_at ha hs rfl [.int .i64 0, .bool false] ⟨rfl, rfl, trivial⟩ ?_)
  exact ⟨rfl, hs.ext⟩
  
set_option maxHeartbeats 1000000 in
theorem ztext_m8 (w : World) : Calls Tryd.prog 38 #[zV (-8 : Int)] w (Ret (.string ⟨#[45, 56]⟩) w) := by
  have hs := St.start w
  refine enter Tryd.func38 rfl Tryd.ntmps38 (by kernel_rfl) fun ac ha => ?_
  refine wp_seq ?_
  refine wp_region_lit ?_
  refine s_box ha hs [.bool (decide ((-8 : Int) < 0)), .int .u64 (lo ((-8 : Int).natAbs) : Nat), .string (hi ((-8 : Int).natAbs))] fun g7 ac wd ha hs => ?_
  refine s_val ha (.string (⟨#[]⟩)) fun ac ha => ?_
  refine wpList_nil ((x_normal ?_))
  refine wp_seq ?_
  refine wp_seq ?_
  refine wp_region_lit ?_
  refine s_val ha (.pointer (some ⟨g7, 0, none⟩)) fun ac ha => ?_
  refine s_loadb ha hs 0 true (show decide ((-8 : Int) < 0) = true by decide) fun ac ha => ?_
  refine wpList_nil ((x_normal ?_))
  refine r_true ha ?_
  refine wp_seq ?_
  refine wp_region_lit ?_
  refine s_val ha (.pointer (some ⟨g7, 1, none⟩)) fun ac ha => ?_
  refine s_load ha hs 0 (nV ((-8 : Int).natAbs)) fun ac ha => ?_
  refine s_call ha hs (.string (⟨#[56]⟩)) (ctext_dig (n := (-8 : Int).natAbs) (by decide) rfl _) fun ac wd ha hs => ?_
  refine s_val ha (.string (⟨#[45, 56]⟩)) fun ac ha => ?_
  refine s_val ha (.string (⟨#[45, 56]⟩)) fun ac ha => ?_
  refine wpList_nil ((x_normal ?_))
  refine wp_ret (x_ret (ret_at ha hs rfl [.string (⟨#[45, 56]⟩)] ⟨rfl, trivial⟩ ?_))
  exact ⟨rfl, hs.ext⟩
  
set_option maxHeartbeats 1000000 in
theorem ztext_5 (w : World) : Calls Tryd.prog 38 #[zV (5 : Int)] w (Ret (.string ⟨#[53]⟩) w) := by
  have hs := St.start w
  refine enter Tryd.func38 rfl Tryd.ntmps38 (by kernel_rfl) fun ac ha => ?_
  refine wp_seq ?_
  refine wp_region_lit ?_
  refine s_box ha hs [.bool (decide ((5 : Int) < 0)), .int .u64 (lo ((5 : Int).natAbs) : Nat), .string (hi ((5 : Int).natAbs))] fun g8 ac wd ha hs => ?_
  refine s_val ha (.string (⟨#[]⟩)) fun ac ha => ?_
  refine wpList_nil ((x_normal ?_))
  refine wp_seq ?_
  refine wp_seq ?_
  refine wp_region_lit ?_
  refine s_val ha (.pointer (some ⟨g8, 0, none⟩)) fun ac ha => ?_
  refine s_loadb ha hs 0 false (show decide ((5 : Int) < 0) = false by decide) fun ac ha => ?_
  refine wpList_nil ((x_normal ?_))
  refine r_false ha ?_
  refine wp_skip ((x_normal ?_))
  refine wp_seq ?_
  refine wp_region_lit ?_
  refine s_val ha (.pointer (some ⟨g8, 1, none⟩)) fun ac ha => ?_
  refine s_load ha hs 0 (nV ((5 : Int).natAbs)) fun ac ha => ?_
  refine s_call ha hs (.string (⟨#[53]⟩)) (ctext_dig (n := (5 : Int).natAbs) (by decide) rfl _) fun ac wd ha hs => ?_
  refine s_val ha (.string (⟨#[53]⟩)) fun ac ha => ?_
  refine wpList_nil ((x_normal ?_))
  refine wp_ret (ret_at ha hs rfl [.string (⟨#[53]⟩)] ⟨rfl, trivial⟩ ?_)
  exact ⟨rfl, hs.ext⟩
  
set_option maxHeartbeats 4000000 in
theorem wholeKnown_any (w : World) (htab : Tab64 w) : Calls Tryd.prog 8 #[] w (Ret (.bool true) w) := by
  have hs := St.start w
  refine enter Tryd.func8 rfl Tryd.ntmps8 (by kernel_rfl) fun ac ha => ?_
  refine wp_seq ?_
  refine wp_region_lit ?_
  refine s_val ha (.bool false) fun ac ha => ?_
  refine wpList_nil ((x_normal ?_))
  refine wp_seq ?_
  refine wp_region_lit ?_
  refine s_alloc ha hs [.bool false, .int .u64 0, .string (⟨#[]⟩)] fun g9 ac wd ha hs => ?_
  refine wpList_nil ((x_normal ?_))
  refine wp_seq ?_
  refine wp_region_lit ?_
  refine s_call ha hs (zV (7 : Int)) (zof 7 (by omega) (by omega) _) fun ac wd ha hs => ?_
  refine s_call ha hs (zV (-2 : Int)) (zof (-2) (by omega) (by omega) _) fun ac wd ha hs => ?_
  refine s_call ha hs (.tuple #[zV (-4 : Int), zV (-1 : Int), .bool true]) (zdiv (x := 7) (y := -2) (Sm.lit (by decide)) (Sm.lit (by decide)) (by decide) _ (by omega)) fun ac wd ha hs => ?_
  refine s_val ha (.tuple #[zV (-4 : Int), zV (-1 : Int), .bool true]) fun ac ha => ?_
  refine s_val ha (zV (-4 : Int)) fun ac ha => ?_
  refine s_val ha (zV (-1 : Int)) fun ac ha => ?_
  refine s_val ha (.bool true) fun ac ha => ?_
  refine s_alloc ha hs [.bool false, .int .u64 0, .string (⟨#[]⟩)] fun g10 ac wd ha hs => ?_
  refine s_alloc ha hs [.bool false, .int .u64 0, .string (⟨#[]⟩)] fun g11 ac wd ha hs => ?_
  refine s_store ha hs 1 _ fun ac wd ha hs => ?_
  refine s_store ha hs 0 _ fun ac wd ha hs => ?_
  refine s_val ha (.bool true) fun ac ha => ?_
  refine wpList_nil ((x_normal ?_))
  refine wp_seq ?_
  refine wp_region_lit ?_
  refine s_call ha hs (.tuple #[zV (0 : Int), .bool false]) (zparse_no _) fun ac wd ha hs => ?_
  refine s_val ha (.tuple #[zV (0 : Int), .bool false]) fun ac ha => ?_
  refine s_val ha (zV (0 : Int)) fun ac ha => ?_
  refine s_val ha (.bool false) fun ac ha => ?_
  refine s_alloc ha hs [.bool false, .int .u64 0, .string (⟨#[]⟩)] fun g12 ac wd ha hs => ?_
  refine s_store ha hs 0 _ fun ac wd ha hs => ?_
  refine s_val ha (.bool false) fun ac ha => ?_
  refine wpList_nil ((x_normal ?_))
  refine wp_seq ?_
  refine wp_region_lit ?_
  refine s_call ha hs (.tuple #[zV (-12 : Int), .bool true]) (zparse_m12 _) fun ac wd ha hs => ?_
  refine s_val ha (.tuple #[zV (-12 : Int), .bool true]) fun ac ha => ?_
  refine s_val ha (zV (-12 : Int)) fun ac ha => ?_
  refine s_val ha (.bool true) fun ac ha => ?_
  refine s_alloc ha hs [.bool false, .int .u64 0, .string (⟨#[]⟩)] fun g13 ac wd ha hs => ?_
  refine s_store ha hs 0 _ fun ac wd ha hs => ?_
  refine s_val ha (.bool true) fun ac ha => ?_
  refine wpList_nil ((x_normal ?_))
  refine wp_seq ?_
  refine wp_region_lit ?_
  refine s_load ha hs 0 (zV (-12 : Int)) fun ac ha => ?_
  refine s_loade ha hs 4 (zV (0 : Int)) zV_zero.symm fun ac ha => ?_
  refine s_call ha hs (.tuple #[zV (0 : Int), zV (0 : Int), .bool false]) (zdiv_no (-12) rfl _) fun ac wd ha hs => ?_
  refine s_val ha (.tuple #[zV (0 : Int), zV (0 : Int), .bool false]) fun ac ha => ?_
  refine s_val ha (zV (0 : Int)) fun ac ha => ?_
  refine s_val ha (zV (0 : Int)) fun ac ha => ?_
  refine s_val ha (.bool false) fun ac ha => ?_
  refine s_alloc ha hs [.bool false, .int .u64 0, .string (⟨#[]⟩)] fun g14 ac wd ha hs => ?_
  refine s_alloc ha hs [.bool false, .int .u64 0, .string (⟨#[]⟩)] fun g15 ac wd ha hs => ?_
  refine s_store ha hs 1 _ fun ac wd ha hs => ?_
  refine s_store ha hs 0 _ fun ac wd ha hs => ?_
  refine s_val ha (.bool false) fun ac ha => ?_
  refine wpList_nil ((x_normal ?_))
  refine wp_seq ?_
  refine wp_region_lit ?_
  refine s_call ha hs (zV (-9223372036854775808 : Int)) (zof (-9223372036854775808) (by omega) (by omega) _) fun ac wd ha hs => ?_
  refine s_call ha hs (.tuple #[.int .i64 (-9223372036854775808), .bool true]) (zsmall_lo _) fun ac wd ha hs => ?_
  refine s_val ha (.tuple #[.int .i64 (-9223372036854775808), .bool true]) fun ac ha => ?_
  refine s_val ha (.int .i64 (-9223372036854775808)) fun ac ha => ?_
  refine s_val ha (.bool true) fun ac ha => ?_
  refine s_val ha (.int .i64 (-9223372036854775808)) fun ac ha => ?_
  refine s_val ha (.bool true) fun ac ha => ?_
  refine wpList_nil ((x_normal ?_))
  refine wp_seq ?_
  refine wp_region_lit ?_
  refine s_call ha hs (zV (-9223372036854775808 : Int)) (zof (-9223372036854775808) (by omega) (by omega) _) fun ac wd ha hs => ?_
  refine s_call ha hs (zV (9223372036854775808 : Int)) (zneg (x := -9223372036854775808) (Sm.lit (by decide)) _ (by omega)) fun ac wd ha hs => ?_
  refine s_call ha hs (.tuple #[.int .i64 0, .bool false]) (zsmall_no _) fun ac wd ha hs => ?_
  refine s_val ha (.tuple #[.int .i64 0, .bool false]) fun ac ha => ?_
  refine s_val ha (.int .i64 0) fun ac ha => ?_
  refine s_val ha (.bool false) fun ac ha => ?_
  refine s_val ha (.int .i64 0) fun ac ha => ?_
  refine s_val ha (.bool false) fun ac ha => ?_
  refine wpList_nil ((x_normal ?_))
  refine wp_seq ?_
  refine wp_region_lit ?_
  refine s_call ha hs (zV (-2 : Int)) (zof (-2) (by omega) (by omega) _) fun ac wd ha hs => ?_
  refine s_call ha hs (.tuple #[zV (-8 : Int), .bool true]) (zpow8 _) fun ac wd ha hs => ?_
  refine s_val ha (.tuple #[zV (-8 : Int), .bool true]) fun ac ha => ?_
  refine s_val ha (zV (-8 : Int)) fun ac ha => ?_
  refine s_val ha (.bool true) fun ac ha => ?_
  refine s_alloc ha hs [.bool false, .int .u64 0, .string (⟨#[]⟩)] fun g16 ac wd ha hs => ?_
  refine s_store ha hs 0 _ fun ac wd ha hs => ?_
  refine s_val ha (.bool true) fun ac ha => ?_
  refine wpList_nil ((x_normal ?_))
  refine wp_seq ?_
  refine region_sp ha 10 [.eq (zV (-5 : Int)), .eq (zV (0 : Int)), .eq (.tuple #[zV (5 : Int), zV (-1 : Int), zV (0 : Int)]), .eq (.tuple #[zV (5 : Int), zV (-1 : Int), zV (0 : Int)]), .eq (zV (5 : Int)), .eq (zV (-1 : Int)), .eq (zV (0 : Int)), .new _ 27 [.bool false, .int .u64 0, .string (⟨#[]⟩)], .new _ 27 [.bool false, .int .u64 0, .string (⟨#[]⟩)], .new _ 27 [.bool false, .int .u64 0, .string (⟨#[]⟩)]] [false, false, false, false, true, true, true] [] (fun _ hb => by cases hb)
    ⟨d_call (fun _ hw => zof (-5) (by omega) (by omega) _), d_loade hs 7 zV_zero.symm, d_call (fun _ hw => zbez50 _), d_val, t_val, t_val, t_val, d_new, d_new, d_new, trivial⟩ ?_
  intro vv wd1 ac hw hG hN ha
  have ha := ha.sub [(0, .bool false), (1, .pointer (some ⟨g9, 0, none⟩)), (22, zV (7 : Int)), (23, zV (-2 : Int)), (24, .tuple #[zV (-4 : Int), zV (-1 : Int), .bool true]), (21, .tuple #[zV (-4 : Int), zV (-1 : Int), .bool true]), (25, zV (-4 : Int)), (26, zV (-1 : Int)), (27, .bool true), (2, .pointer (some ⟨g10, 0, none⟩)), (3, .pointer (some ⟨g11, 0, none⟩)), (29, .tuple #[zV (0 : Int), .bool false]), (28, .tuple #[zV (0 : Int), .bool false]), (30, zV (0 : Int)), (31, .bool false), (5, .pointer (some ⟨g12, 0, none⟩)), (6, .bool false), (33, .tuple #[zV (-12 : Int), .bool true]), (32, .tuple #[zV (-12 : Int), .bool true]), (34, zV (-12 : Int)), (35, .bool true), (7, .pointer (some ⟨g13, 0, none⟩)), (8, .bool true), (37, zV (-12 : Int)), (38, zV (0 : Int)), (39, .tuple #[zV (0 : Int), zV (0 : Int), .bool false]), (36, .tuple #[zV (0 : Int), zV (0 : Int), .bool false]), (40, zV (0 : Int)), (41, zV (0 : Int)), (42, .bool false), (9, .pointer (some ⟨g14, 0, none⟩)), (10, .pointer (some ⟨g15, 0, none⟩)), (11, .bool false), (44, zV (-9223372036854775808 : Int)), (45, .tuple #[.int .i64 (-9223372036854775808), .bool true]), (43, .tuple #[.int .i64 (-9223372036854775808), .bool true]), (46, .int .i64 (-9223372036854775808)), (47, .bool true), (12, .int .i64 (-9223372036854775808)), (13, .bool true), (49, zV (-9223372036854775808 : Int)), (50, zV (9223372036854775808 : Int)), (51, .tuple #[.int .i64 0, .bool false]), (48, .tuple #[.int .i64 0, .bool false]), (52, .int .i64 0), (53, .bool false), (15, .bool false), (55, zV (-2 : Int)), (56, .tuple #[zV (-8 : Int), .bool true]), (54, .tuple #[zV (-8 : Int), .bool true]), (57, zV (-8 : Int)), (58, .bool true), (16, .pointer (some ⟨g16, 0, none⟩)), (17, .bool true), (63, zV (5 : Int)), (64, zV (-1 : Int)), (65, zV (0 : Int)), (18, vv 7), (19, vv 8), (20, vv 9)]
  have h_g18 : NewAt _ 27 [.bool false, .int .u64 0, .string (⟨#[]⟩)] (vv 7) wd1 := hG 7 18 (by decide) rfl
  have h_g19 : NewAt _ 27 [.bool false, .int .u64 0, .string (⟨#[]⟩)] (vv 8) wd1 := hG 8 19 (by decide) rfl
  have h_g20 : NewAt _ 27 [.bool false, .int .u64 0, .string (⟨#[]⟩)] (vv 9) wd1 := hG 9 20 (by decide) rfl
  have n_g18_g19 : vv 7 ≠ vv 8 := hN 7 8 (by decide) (by decide) (by decide) rfl rfl
  have n_g18_g20 : vv 7 ≠ vv 9 := hN 7 9 (by decide) (by decide) (by decide) rfl rfl
  have n_g19_g20 : vv 8 ≠ vv 9 := hN 8 9 (by decide) (by decide) (by decide) rfl rfl
  clear hG hN
  obtain ⟨g18, b_g18, e_g18, h_g18⟩ := h_g18
  rw [e_g18] at ha n_g18_g19 n_g18_g20
  clear e_g18
  obtain ⟨g19, b_g19, e_g19, h_g19⟩ := h_g19
  rw [e_g19] at ha n_g18_g19 n_g19_g20
  clear e_g19
  obtain ⟨g20, b_g20, e_g20, h_g20⟩ := h_g20
  rw [e_g20] at ha n_g18_g20 n_g19_g20
  clear e_g20
  have hs := hs.news hw [(g20, 27, [.bool false, .int .u64 0, .string (⟨#[]⟩)]), (g19, 27, [.bool false, .int .u64 0, .string (⟨#[]⟩)]), (g18, 27, [.bool false, .int .u64 0, .string (⟨#[]⟩)])] ⟨⟨b_g20, h_g20⟩, ⟨b_g19, h_g19⟩, ⟨b_g18, h_g18⟩, trivial⟩ ⟨⟨ptr_ne n_g19_g20.symm, ptr_ne n_g18_g20.symm, trivial⟩, ⟨ptr_ne n_g18_g19.symm, trivial⟩, trivial, trivial⟩
  clear hw
  refine keeps_nil ?_
  show wpList _ _ _ _ _ _
  refine s_store ha hs 2 _ fun ac wd ha hs => ?_
  refine s_store ha hs 1 _ fun ac wd ha hs => ?_
  refine s_store ha hs 0 _ fun ac wd ha hs => ?_
  refine wpList_nil ((x_normal ?_))
  refine wp_seq ?_
  refine wp_region_list ?_
  refine s_call ha hs (.bool true) (known2 _) fun ac wd ha hs => ?_
  refine s_val ha (.bool true) fun ac ha => ?_
  refine s_load ha hs 9 (zV (-4 : Int)) fun ac ha => ?_
  refine s_call ha hs (.string (⟨#[45, 52]⟩)) (ztext_m4 _) fun ac wd ha hs => ?_
  refine s_val ha (.bool true) fun ac ha => ?_
  refine s_val ha (.bool true) fun ac ha => ?_
  refine s_val ha (.bool true) fun ac ha => ?_
  refine s_load ha hs 8 (zV (-1 : Int)) fun ac ha => ?_
  refine s_call ha hs (.string (⟨#[45, 49]⟩)) (ztext_m1 _) fun ac wd ha hs => ?_
  refine s_val ha (.bool true) fun ac ha => ?_
  refine s_val ha (.bool true) fun ac ha => ?_
  refine s_val ha (.bool true) fun ac ha => ?_
  refine s_val ha (.bool false) fun ac ha => ?_
  refine s_val ha (.bool true) fun ac ha => ?_
  refine s_val ha (.bool true) fun ac ha => ?_
  refine s_val ha (.bool true) fun ac ha => ?_
  refine s_val ha (.bool true) fun ac ha => ?_
  refine s_val ha (.bool true) fun ac ha => ?_
  refine s_val ha (.bool true) fun ac ha => ?_
  refine s_load ha hs 6 (zV (-12 : Int)) fun ac ha => ?_
  refine s_call ha hs (.int .i64 (-1)) (zsign (x := -12) (Sm.lit (by decide)) _ (by omega)) fun ac wd ha hs => ?_
  refine s_val ha (.bool true) fun ac ha => ?_
  refine s_val ha (.bool true) fun ac ha => ?_
  refine s_val ha (.bool true) fun ac ha => ?_
  refine s_val ha (.bool false) fun ac ha => ?_
  refine s_val ha (.bool true) fun ac ha => ?_
  refine s_val ha (.bool true) fun ac ha => ?_
  refine s_val ha (.bool true) fun ac ha => ?_
  refine s_val ha (.int .i64 (-9223372036854775808)) fun ac ha => ?_
  refine s_val ha (.bool true) fun ac ha => ?_
  refine s_val ha (.bool true) fun ac ha => ?_
  refine s_val ha (.bool true) fun ac ha => ?_
  refine s_val ha (.bool true) fun ac ha => ?_
  refine s_val ha (.bool true) fun ac ha => ?_
  refine s_val ha (.bool true) fun ac ha => ?_
  refine s_val ha (.bool false) fun ac ha => ?_
  refine s_val ha (.bool true) fun ac ha => ?_
  refine s_val ha (.bool true) fun ac ha => ?_
  refine s_val ha (.bool true) fun ac ha => ?_
  refine s_load ha hs 3 (zV (-8 : Int)) fun ac ha => ?_
  refine s_call ha hs (.string (⟨#[45, 56]⟩)) (ztext_m8 _) fun ac wd ha hs => ?_
  refine s_val ha (.bool true) fun ac ha => ?_
  refine s_val ha (.bool true) fun ac ha => ?_
  refine s_val ha (.bool true) fun ac ha => ?_
  refine s_val ha (.bool true) fun ac ha => ?_
  refine s_val ha (.bool true) fun ac ha => ?_
  refine s_val ha (.bool true) fun ac ha => ?_
  refine s_load ha hs 2 (zV (5 : Int)) fun ac ha => ?_
  refine s_call ha hs (.string (⟨#[53]⟩)) (ztext_5 _) fun ac wd ha hs => ?_
  refine s_val ha (.bool true) fun ac ha => ?_
  refine s_val ha (.bool true) fun ac ha => ?_
  refine s_val ha (.bool true) fun ac ha => ?_
  refine s_load ha hs 1 (zV (-1 : Int)) fun ac ha => ?_
  refine s_call ha hs (.string (⟨#[45, 49]⟩)) (ztext_m1 _) fun ac wd ha hs => ?_
  refine s_val ha (.bool true) fun ac ha => ?_
  refine s_val ha (.bool true) fun ac ha => ?_
  refine s_val ha (.bool true) fun ac ha => ?_
  refine s_load ha hs 0 (zV (0 : Int)) fun ac ha => ?_
  refine s_call ha hs (.int .i64 0) (zsign0 rfl _) fun ac wd ha hs => ?_
  refine s_val ha (.bool true) fun ac ha => ?_
  refine s_val ha (.bool true) fun ac ha => ?_
  refine s_val ha (.bool true) fun ac ha => ?_
  refine s_loade ha hs 10 (zV (0 : Int)) zV_zero.symm fun ac ha => ?_
  refine s_loade ha hs 10 (zV (0 : Int)) zV_zero.symm fun ac ha => ?_
  refine s_call ha hs (nV 0) (zgcd_eq (n := 0) (a := 0) (b := 0) (Sm.lit (by decide)) (Sm.lit (by decide)) rfl _ (htab.ext hs.ext) (by omega)) fun ac wd ha hs => ?_
  refine s_call ha hs (.int .i64 0) (cbits_zero rfl _) fun ac wd ha hs => ?_
  refine s_val ha (.bool true) fun ac ha => ?_
  refine s_val ha (.bool true) fun ac ha => ?_
  refine s_val ha (.bool true) fun ac ha => ?_
  refine s_loade ha hs 10 (zV (0 : Int)) zV_zero.symm fun ac ha => ?_
  refine s_call ha hs (nV 0) (zabs 0 _) fun ac wd ha hs => ?_
  refine s_call ha hs (zV (0 : Int)) (from_any true (a := 0) (Sm.lit (n := 0) (by decide)) (by omega) _) fun ac wd ha hs => ?_
  refine s_call ha hs (.int .i64 0) (zsign0 rfl _) fun ac wd ha hs => ?_
  refine s_val ha (.bool true) fun ac ha => ?_
  refine s_val ha (.bool true) fun ac ha => ?_
  refine s_val ha (.bool true) fun ac ha => ?_
  refine wpList_nil ((x_normal ?_))
  refine wp_ret (ret_at ha hs rfl [.bool true] ⟨rfl, trivial⟩ ?_)
  exact ⟨rfl, hs.ext⟩
  end Go.Proofs.YtiloialbglfplaaDoor

namespace Go.Proofs.YtiloialbglfplaaDoor
open Go.ChangeShapes Go.WideShapes Go.ChangeAt Go.RowKit

theorem wholeKnown_tab64 {W : World} (h : laidMetH Tryd.prog Rows.wholeKnownRow.laid W) : Tab64 W := by
  have h1 : laidMet Tryd.prog [("math/bits.deBruijn32tab", Rows.laid_math_bits_deBruijn32tab), ("math/bits.deBruijn64tab", Rows.laid_math_bits_deBruijn64tab), ("internal/strconv.uint64pow10", Rows.laid_internal_strconv_uint64pow10)] W := h
  exact tab64_head (by kernel_rfl) h1.tail
set_option maxRecDepth 100000 in
theorem wholeKnown_contract (H : Type) (enc : TypeId × Value → H) (W : World) (base : Nat) (args : Array Value) (ds gs : List (DataW H)) (before : List MemPlace)
    (hval : ∀ (j : Nat) t v, Tryd.f8.params[j]? = some t → args[j]? = some v → Value.okWide Tryd.prog W .any base t v)
    (hW : DataW.Whole enc Tryd.prog Tryd.f8.params.toList Rows.wholeKnownSpec.vars false W args.toList ds gs before) (htab64 : Tab64 W) :
    Calls Tryd.prog 8 args W fun e W' => ∃ v, e = .returned v ∧ Rows.wholeKnownSpec.post enc Tryd.prog Tryd.f8 false true false false W args v W' := by
  have hW' := hW
  obtain ⟨p, q, hA0, hV, rfl, hfz, hnd⟩ := hW
  have hA : DataW.TrodAll enc Tryd.prog W 0 (fun _ => true) true Tryd.f8.params.toList args.toList ds p := hA0
  rw [Tryd.params8] at hA hval
  obtain ⟨hargs, rfl, rfl⟩ := trodAll_nil hA
  obtain rfl : args = #[] := by cases args; simp_all
  obtain ⟨rfl, rfl⟩ := trodVars_none hV
  clear hA0
  refine (wholeKnown_any  W htab64 ).mono fun e W' ⟨he, hg⟩ => ?_
  subst he
  exact ⟨_, rfl, law_post rfl rfl (fun t ht => by
    rw [Tryd.params8] at ht
    simp at ht) hW' ⟨rfl, rfl, rfl⟩ hg⟩

theorem wholeKnown_met (os : Os) : laidMet Tryd.prog Rows.wholeKnownRow.laid ((laidWorld os).forCall (fun _ _ => 0) ⟨#[], #[], []⟩).memory :=
  laidMet_of_run' 8 (by kernel_rfl) (by kernel_rfl)
theorem wholeKnown_reads (os : Os) {H : Type} (enc : TypeId × Value → H) : ∃ places, DataW.whole enc Tryd.prog ((laidWorld os).forCall (fun _ _ => 0) ⟨#[], #[], []⟩).memory Tryd.f8.params.toList Rows.wholeKnownSpec.vars false (#[] : Array Value).toList 8 = some ([], [], places) :=
  ⟨[], by kernel_rfl⟩

set_option maxRecDepth 100000 in
theorem wholeKnown_lifted (os : Os) (started : os.Started) (H : Type) (enc : TypeId × Value → H) (F : Stop.Interp) :
    ReturnsInHanded {} Tryd.checked os 8 .any ((OpenSpec.ofChange Rows.wholeKnownSpec).preRow enc Tryd.prog Tryd.f8 Rows.wholeKnownRow.domain false Rows.wholeKnownRow.laid) (((OpenSpec.ofChange Rows.wholeKnownSpec).at F).post enc Tryd.prog Tryd.f8 false true false false) := by
  obtain ⟨places, hx⟩ := wholeKnown_reads os enc
  refine returnsInHanded_of_row (C := Tryd.checked) (s := OpenSpec.ofChange Rows.wholeKnownSpec) own started (by kernel_rfl) Tryd.func8
    (witness_row_at (enc := enc) (C := Tryd.checked) false (laidWorld os) #[] rfl (by kernel_rfl) (by kernel_rfl) (by kernel_rfl)
      (OpenSpec.preRow_of_cond 8 hx (by kernel_rfl) (fun k hk => by cases hk) (by kernel_rfl) (wholeKnown_met os))) ?_
  intro W base args ds gs before hval hW _ _ _ hL _ _
  exact wholeKnown_contract H enc W base args ds gs before hval hW (wholeKnown_tab64 hL)

theorem wholeKnown_holds : Rows.WholeKnownSaid :=
  OpenClaim.holds_of_cond 8 Tryd.f8 rfl rfl rfl rfl rfl rfl rfl ⟨rfl, rfl, rfl, rfl, rfl⟩ rfl rfl rfl rfl rfl (by kernel_rfl) Tryd.func8 (by kernel_rfl)
    (of_decide_eq_true (by kernel_rfl)) (by unfold Func.isWrapper; first | (rw [if_pos (by decide +kernel)]; kernel_rfl) | (rw [if_neg (by decide +kernel)]; exact ⟨rfl, rfl⟩))
    (fun os started H enc _ F => by rw [OpenClaim.pre_eq_preRow]; exact wholeKnown_lifted os started H enc F)

theorem wholeKnown_plain (f : FuncId) (fn : Func) (hf : Tryd.pinned.checked.prog.funcNamed "abaculus/abaculuslaw2.WholeKnown" = some f) (hfn : Tryd.pinned.checked.prog.funcs[f]? = some fn) :
    false = Tryd.pinned.checked.prog.looks [] ∧ ∀ (j : Nat) t, fn.params[j]? = some t → Tryd.pinned.checked.prog.wantsStandIn t = false := by
  obtain rfl : f = 8 := Option.some.inj ((show Tryd.prog.funcNamed "abaculus/abaculuslaw2.WholeKnown" = some 8 by kernel_rfl).symm.trans hf) |>.symm
  obtain rfl : fn = Tryd.f8 := (Option.some.inj (Tryd.func8.symm.trans hfn)).symm
  refine ⟨by kernel_rfl, fun j t ht => ?_⟩
  rw [Tryd.params8] at ht
  have hm : t ∈ [] := by simpa using Array.mem_of_getElem? ht
  have hall : ([].all fun u => !Tryd.prog.wantsStandIn u) = true := by kernel_rfl
  exact (show Tryd.prog.wantsStandIn t = false by simpa using List.all_eq_true.1 hall t hm)

theorem wholeKnownCard_holds : Rows.WholeKnownCardSaid :=
  Claim7.holds_tied_plain_at .later [] _ _ _ _ wholeKnown_holds (fun _ h => by cases h) (by kernel_rfl) (fun _ h => by cases h) wholeKnown_row_tie rfl ⟨rfl, rfl⟩ (by kernel_rfl) rfl wholeKnown_plain (by kernel_rfl)
#print axioms wholeKnownCard_holds
end Go.Proofs.YtiloialbglfplaaDoor
