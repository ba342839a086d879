/- The law WholeRing: its walk. (Printed by walks/z7.py.) The law WholeBezout: its walk. (Printed by walks/zb.py.) The law WholeBezout of chapter 2 is true for every input: g = a*x + b*y is Gcd, is not negative and divides both numbers; the cofactors are coprime, and x is the least nonnegative one. -/
import Derived.Test.YtiloialbglfplaaDoorCards
import Derived.Test.YtiloialbglfplaaDoorB11
namespace Go.Proofs.YtiloialbglfplaaDoor
open Go.RowKit

theorem zcmp_eq {j k : Nat} {x y : Int} (hx : Sm j x.natAbs) (hy : Sm k y.natAbs) (e : x = y) (W : World) (h : max j k ≤ 549755813887) : Calls Tryd.prog 17 #[zV x, zV y] W (Ret (.int .i64 0) W) := by
  have h := zcmp hx hy W h
  rw [show cmpZ x y = 0 from by subst e; unfold cmpZ; simp] at h
  exact h
theorem fmod_sgn {x y : Int} (h : decide (x.fmod y = 0) = false) (h0 : decide (y = 0) = false) : ((x.fmod y).sign == y.sign) = true := by
  have h := of_decide_eq_false h
  have h0 := of_decide_eq_false h0
  rw [beq_iff_eq]
  have h2 := fmod_sign x h0
  rcases Int.lt_or_gt_of_ne h0 with h' | h'
  · have h3 := (Int.fdiv_fmod_unique' (a := x) h').1 ⟨rfl, rfl⟩
    rw [Int.sign_eq_neg_one_of_neg h', Int.sign_eq_neg_one_of_neg (by omega)]
  · have h3 := Int.fmod_nonneg_of_pos x h'
    rw [Int.sign_eq_one_of_pos h', Int.sign_eq_one_of_pos (by omega)]

set_option maxHeartbeats 8000000 in
theorem wholeRing_any (l0 : List UInt8) (v0 : Value) (l1 : List UInt8) (v1 : Value) (l2 : List UInt8) (v2 : Value) (b3 b4 : Bool) (w : World) (s0 : SlB l0 v0 w) (s1 : SlB l1 v1 w) (s2 : SlB l2 v2 w) : Calls Tryd.prog 4 #[v0, v1, v2, .bool b3, .bool b4] w (Ret (.bool true) w) := by
  obtain ⟨A1, c1, rfl⟩ := s0.form
  obtain ⟨A2, c2, rfl⟩ := s1.form
  obtain ⟨A3, c3, rfl⟩ := s2.form
  have HT := fun W h1 h2 => two2 l0 l1 (.slice A1 l0.length c1) (.slice A2 l1.length c2) b3 b4 W h1 h2
  have HT2 := fun W h1 h2 => two2 l2 [] (.slice A3 l2.length c3) (.slice none 0 0) (!(b3 == b4)) false W h1 h2
  have hx : Sm 320 (sg b3 (beN (l0.take 40))).natAbs := by rw [sg_abs]; exact Sm.take40 l0
  have hy : Sm 320 (sg b4 (beN (l1.take 40))).natAbs := by rw [sg_abs]; exact Sm.take40 l1
  have hz : Sm 320 (sg (!(b3 == b4)) (beN (l2.take 40))).natAbs := by rw [sg_abs]; exact Sm.take40 l2
  generalize sg b3 (beN (l0.take 40)) = x at *
  generalize sg b4 (beN (l1.take 40)) = y at *
  generalize sg (!(b3 == b4)) (beN (l2.take 40)) = z at *
  generalize sg false (beN (([] : List UInt8).take 40)) = y2 at *
  have hs := St.start w
  have hs := hs.add8 s0 (by kernel_rfl)
  have hs := hs.add8 s1 (by kernel_rfl)
  have hs := hs.add8 s2 (by kernel_rfl)
  refine enter Tryd.func4 rfl Tryd.ntmps4 (by kernel_rfl) fun ac ha => ?_
  refine wp_seq ?_
  refine wp_region_lit ?_
  refine s_val ha (.bool false) fun ac ha => ?_
  refine wpList_nil ((x_normal ?_))
  refine wp_seq ?_
  refine wp_region_lit ?_
  refine s_val ha (.slice A1 l0.length c1) fun ac ha => ?_
  refine s_val ha (.slice A2 l1.length c2) fun ac ha => ?_
  refine s_val ha (.bool b3) fun ac ha => ?_
  refine s_val ha (.bool b4) fun ac ha => ?_
  refine s_callP ha hs (HT _ (hs.get 2 rfl) (hs.get 1 rfl)) fun u ac wd hp ha hs => ?_
  obtain ⟨x1, y1, rfl, p1, q1⟩ := hp
  obtain ⟨Ai2, ci2, rfl, r2⟩ := p1
  have hs := hs.add32 r2 (by kernel_rfl)
  obtain ⟨Ai3, ci3, rfl, r3⟩ := q1
  have hs := hs.add32 r3 (by kernel_rfl)
  refine s_val ha (.tuple #[zV x, zV y, riV x Ai2 ci2, riV y Ai3 ci3]) fun ac ha => ?_
  refine s_val ha (zV x) fun ac ha => ?_
  refine s_val ha (zV y) fun ac ha => ?_
  refine s_val ha (riV x Ai2 ci2) fun ac ha => ?_
  refine s_val ha (riV y Ai3 ci3) fun ac ha => ?_
  refine s_alloc ha hs [.bool false, .int .u64 0, .string (⟨#[]⟩)] fun g4 ac wd ha hs => ?_
  refine s_alloc ha hs [.bool false, .int .u64 0, .string (⟨#[]⟩)] fun g5 ac wd ha hs => ?_
  refine s_alloc ha hs [.bool false, .slice none 0 0] fun g6 ac wd ha hs => ?_
  refine s_alloc ha hs [.bool false, .slice none 0 0] fun g7 ac wd ha hs => ?_
  refine s_store ha hs 3 _ fun ac wd ha hs => ?_
  refine s_store ha hs 2 _ fun ac wd ha hs => ?_
  refine s_store ha hs 1 _ fun ac wd ha hs => ?_
  refine s_store ha hs 0 _ fun ac wd ha hs => ?_
  refine wpList_nil ((x_normal ?_))
  refine wp_seq ?_
  refine wp_region_lit ?_
  refine s_val ha (.slice A3 l2.length c3) fun ac ha => ?_
  refine s_val ha (.bool b3) fun ac ha => ?_
  refine s_val ha (.bool b4) fun ac ha => ?_
  refine s_val ha (.bool (!(b3 == b4))) fun ac ha => ?_
  refine s_callP ha hs (HT2 _ (hs.get 2 rfl) (SlB.nil _)) fun u ac wd hp ha hs => ?_
  obtain ⟨x8, y8, rfl, p8, q8⟩ := hp
  obtain ⟨Ai9, ci9, rfl, r9⟩ := p8
  have hs := hs.add32 r9 (by kernel_rfl)
  obtain ⟨Ai10, ci10, rfl, r10⟩ := q8
  have hs := hs.add32 r10 (by kernel_rfl)
  refine s_val ha (.tuple #[zV z, zV y2, riV z Ai9 ci9, riV y2 Ai10 ci10]) fun ac ha => ?_
  refine s_val ha (zV z) fun ac ha => ?_
  refine s_val ha (zV y2) fun ac ha => ?_
  refine s_val ha (riV z Ai9 ci9) fun ac ha => ?_
  refine s_val ha (riV y2 Ai10 ci10) fun ac ha => ?_
  refine s_alloc ha hs [.bool false, .int .u64 0, .string (⟨#[]⟩)] fun g11 ac wd ha hs => ?_
  refine s_alloc ha hs [.bool false, .int .u64 0, .string (⟨#[]⟩)] fun g12 ac wd ha hs => ?_
  refine s_alloc ha hs [.bool false, .slice none 0 0] fun g13 ac wd ha hs => ?_
  refine s_alloc ha hs [.bool false, .slice none 0 0] fun g14 ac wd ha hs => ?_
  refine s_store ha hs 3 _ fun ac wd ha hs => ?_
  refine s_store ha hs 2 _ fun ac wd ha hs => ?_
  refine s_store ha hs 1 _ fun ac wd ha hs => ?_
  refine s_store ha hs 0 _ fun ac wd ha hs => ?_
  refine wpList_nil ((x_normal ?_))
  refine wp_seq ?_
  refine wp_region_lit ?_
  refine s_load ha hs 7 (zV x) fun ac ha => ?_
  refine s_load ha hs 6 (zV y) fun ac ha => ?_
  rcases Bool.eq_false_or_eq_true (decide (y = 0)) with hb15 | hb15
  ·
    have phb15 := of_decide_eq_true hb15
    refine s_call ha hs (.tuple #[zV (0 : Int), zV (0 : Int), .bool false]) (zdiv_no x (of_decide_eq_true hb15) _) fun ac wd ha hs => ?_
    refine s_val ha (.tuple #[zV (0 : Int), zV (0 : Int), .bool false]) fun ac ha => ?_
    refine s_val ha (zV (0 : Int)) fun ac ha => ?_
    refine s_val ha (zV (0 : Int)) fun ac ha => ?_
    refine s_val ha (.bool false) fun ac ha => ?_
    refine s_alloc ha hs [.bool false, .int .u64 0, .string (⟨#[]⟩)] fun g16 ac wd ha hs => ?_
    refine s_alloc ha hs [.bool false, .int .u64 0, .string (⟨#[]⟩)] fun g17 ac wd ha hs => ?_
    refine s_store ha hs 1 _ fun ac wd ha hs => ?_
    refine s_store ha hs 0 _ fun ac wd ha hs => ?_
    refine s_val ha (.bool false) fun ac ha => ?_
    refine wpList_nil ((x_normal ?_))
    refine wp_seq ?_
    refine wp_seq ?_
    refine region_sp ha 67 [.eq (.bool true), .eq (.bool false), .eq (.bool false), .eq (zV x), .eq (zV y), .eq (zV (x + y)), .eq (zV y), .eq (zV x), .eq (zV (y + x)), .eq (.int .i64 0), .eq (.bool false), .eq (.bool false), .eq (.bool false), .eq (zV x), .eq (zV y), .eq (zV z), .eq (zV (y + z)), .eq (zV (x * (y + z))), .eq (zV x), .eq (zV y), .eq (zV (x * y)), .eq (zV x), .eq (zV z), .eq (zV (x * z)), .eq (zV ((x * y) + (x * z))), .eq (.int .i64 0), .eq (.bool false), .eq (.bool false), .eq (.bool false), .eq (zV x), .eq (zV y), .eq (zV (x - y)), .eq (zV y), .eq (zV ((x - y) + y)), .eq (zV x), .eq (.int .i64 0), .eq (.bool false), .eq (.bool false), .eq (.bool false), .eq (zV x), .eq (zV y), .eq (zV (x * y)), .eq (zV z), .eq (zV ((x * y) * z)), .eq (zV z), .eq (zV y), .eq (zV (z * y)), .eq (zV x), .eq (zV ((z * y) * x)), .eq (.int .i64 0), .eq (.bool false), .eq (.bool false), .eq (.bool false), .eq (zV x), .eq (zV (-x)), .eq (zV (-(-x))), .eq (zV x), .eq (.int .i64 0), .eq (.bool false), .eq (.bool false), .eq (.bool false), .eq (.bool false), .eq (zV y), .eq (.int .i64 0), .eq (.bool false), .eq (.bool false), .eq (.bool false)] [] [] (fun _ hb => by cases hb)
      ⟨d_call (fun _ hw => known2 _), d_val, d_val, d_load hs 9, d_load hs 8, d_call (fun _ hw => zadd hx hy _ (by omega)), d_load hs 8, d_load hs 9, d_call (fun _ hw => zadd hy hx _ (by omega)), d_call (fun _ hw => zcmp_eq (hx.zadd hy) (hy.zadd hx) (by grind) _ (by omega)), d_val, d_val, d_val, d_load hs 9, d_load hs 8, d_load hs 5, d_call (fun _ hw => zadd hy hz _ (by omega)), d_call (fun _ hw => zmul hx (hy.zadd hz) _ (by omega)), d_load hs 9, d_load hs 8, d_call (fun _ hw => zmul hx hy _ (by omega)), d_load hs 9, d_load hs 5, d_call (fun _ hw => zmul hx hz _ (by omega)), d_call (fun _ hw => zadd (hx.zmul hy) (hx.zmul hz) _ (by omega)), d_call (fun _ hw => zcmp_eq (hx.zmul (hy.zadd hz)) ((hx.zmul hy).zadd (hx.zmul hz)) (by grind) _ (by omega)), d_val, d_val, d_val, d_load hs 9, d_load hs 8, d_call (fun _ hw => zsub hx hy _ (by omega)), d_load hs 8, d_call (fun _ hw => zadd (hx.zsub hy) hy _ (by omega)), d_load hs 9, d_call (fun _ hw => zcmp_eq ((hx.zsub hy).zadd hy) hx (by grind) _ (by omega)), d_val, d_val, d_val, d_load hs 9, d_load hs 8, d_call (fun _ hw => zmul hx hy _ (by omega)), d_load hs 5, d_call (fun _ hw => zmul (hx.zmul hy) hz _ (by omega)), d_load hs 5, d_load hs 8, d_call (fun _ hw => zmul hz hy _ (by omega)), d_load hs 9, d_call (fun _ hw => zmul (hz.zmul hy) hx _ (by omega)), d_call (fun _ hw => zcmp_eq ((hx.zmul hy).zmul hz) ((hz.zmul hy).zmul hx) (by grind) _ (by omega)), d_val, d_val, d_val, d_load hs 9, d_call (fun _ hw => zneg hx _ (by omega)), d_call (fun _ hw => zneg hx.zneg _ (by omega)), d_load hs 9, d_call (fun _ hw => zcmp_eq hx.zneg.zneg hx (by grind) _ (by omega)), d_val, d_val, d_val, d_val, d_load hs 8, d_call (fun _ hw => zsign0 (of_decide_eq_true hb15) _), d_val, d_val, d_val, trivial⟩ ?_
    intro vv wd1 ac hw hG hN ha
    have ha := ha.sub [(0, .slice A1 l0.length c1), (1, .slice A2 l1.length c2), (2, .slice A3 l2.length c3), (3, .bool b3), (4, .bool b4), (10, .bool false), (23, .slice A1 l0.length c1), (24, .slice A2 l1.length c2), (25, .bool b3), (26, .bool b4), (27, .tuple #[zV x, zV y, riV x Ai2 ci2, riV y Ai3 ci3]), (22, .tuple #[zV x, zV y, riV x Ai2 ci2, riV y Ai3 ci3]), (28, zV x), (29, zV y), (30, riV x Ai2 ci2), (31, riV y Ai3 ci3), (11, .pointer (some ⟨g4, 0, none⟩)), (12, .pointer (some ⟨g5, 0, none⟩)), (13, .pointer (some ⟨g6, 0, none⟩)), (14, .pointer (some ⟨g7, 0, none⟩)), (33, .slice A3 l2.length c3), (34, .bool b3), (35, .bool b4), (36, .bool (!(b3 == b4))), (37, .tuple #[zV z, zV y2, riV z Ai9 ci9, riV y2 Ai10 ci10]), (32, .tuple #[zV z, zV y2, riV z Ai9 ci9, riV y2 Ai10 ci10]), (38, zV z), (39, zV y2), (40, riV z Ai9 ci9), (41, riV y2 Ai10 ci10), (15, .pointer (some ⟨g11, 0, none⟩)), (16, .pointer (some ⟨g12, 0, none⟩)), (17, .pointer (some ⟨g13, 0, none⟩)), (18, .pointer (some ⟨g14, 0, none⟩)), (43, zV x), (44, zV y), (45, .tuple #[zV (0 : Int), zV (0 : Int), .bool false]), (42, .tuple #[zV (0 : Int), zV (0 : Int), .bool false]), (46, zV (0 : Int)), (47, zV (0 : Int)), (48, .bool false), (19, .pointer (some ⟨g16, 0, none⟩)), (20, .pointer (some ⟨g17, 0, none⟩)), (21, .bool false), (115, .bool false)]
    clear hG hN
    have hs := hs.go hw
    clear hw
    refine keeps_nil ?_
    show wpList _ _ _ _ _ _
    refine wpList_nil ((x_normal ?_))
    refine r_false ha ?_
    refine wp_skip ((x_normal ?_))
    refine wp_seq ?_
    refine region_sp ha 32 [.eq (.bool false), .eq (.bool true), .eq (.bool true), .eq (undef), .eq (undef), .eq (undef), .eq (undef), .eq (undef), .eq (undef), .eq (undef), .eq (undef), .eq (undef), .eq (undef), .eq (undef), .eq (undef), .eq (undef), .eq (undef), .eq (undef), .eq (undef), .eq (undef), .eq (undef), .eq (undef), .eq (undef), .eq (undef), .eq (undef), .eq (undef), .eq (undef), .eq (undef), .eq (undef), .eq (undef), .eq (undef), .eq (.bool true)] [] [] (fun _ hb => by cases hb)
      ⟨d_val, d_val, d_val, d_not, d_not, d_not, d_not, d_not, d_not, d_not, d_not, d_not, d_not, d_not, d_not, d_not, d_not, d_not, d_not, d_not, d_not, d_not, d_not, d_not, d_not, d_not, d_not, d_not, d_not, d_not, d_not, d_val, trivial⟩ ?_
    intro vv wd1 ac hw hG hN ha
    have ha := ha.sub [(0, .slice A1 l0.length c1), (1, .slice A2 l1.length c2), (2, .slice A3 l2.length c3), (3, .bool b3), (4, .bool b4), (10, .bool false), (23, .slice A1 l0.length c1), (24, .slice A2 l1.length c2), (25, .bool b3), (26, .bool b4), (27, .tuple #[zV x, zV y, riV x Ai2 ci2, riV y Ai3 ci3]), (22, .tuple #[zV x, zV y, riV x Ai2 ci2, riV y Ai3 ci3]), (28, zV x), (29, zV y), (30, riV x Ai2 ci2), (31, riV y Ai3 ci3), (11, .pointer (some ⟨g4, 0, none⟩)), (12, .pointer (some ⟨g5, 0, none⟩)), (13, .pointer (some ⟨g6, 0, none⟩)), (14, .pointer (some ⟨g7, 0, none⟩)), (33, .slice A3 l2.length c3), (34, .bool b3), (35, .bool b4), (36, .bool (!(b3 == b4))), (37, .tuple #[zV z, zV y2, riV z Ai9 ci9, riV y2 Ai10 ci10]), (32, .tuple #[zV z, zV y2, riV z Ai9 ci9, riV y2 Ai10 ci10]), (38, zV z), (39, zV y2), (40, riV z Ai9 ci9), (41, riV y2 Ai10 ci10), (15, .pointer (some ⟨g11, 0, none⟩)), (16, .pointer (some ⟨g12, 0, none⟩)), (17, .pointer (some ⟨g13, 0, none⟩)), (18, .pointer (some ⟨g14, 0, none⟩)), (43, zV x), (44, zV y), (45, .tuple #[zV (0 : Int), zV (0 : Int), .bool false]), (42, .tuple #[zV (0 : Int), zV (0 : Int), .bool false]), (46, zV (0 : Int)), (47, zV (0 : Int)), (48, .bool false), (19, .pointer (some ⟨g16, 0, none⟩)), (20, .pointer (some ⟨g17, 0, none⟩)), (21, .bool false), (115, .bool false), (147, .bool true)]
    clear hG hN
    have hs := hs.go hw
    clear hw
    refine keeps_nil ?_
    show wpList _ _ _ _ _ _
    refine s_val ha (.bool true) fun ac ha => ?_
    refine wpList_nil ((x_normal ?_))
    refine wp_ret (ret_at ha hs rfl [.bool true] ⟨rfl, trivial⟩ ?_)
    exact ⟨rfl, hs.ext⟩
  ·
    have phb15 := of_decide_eq_false hb15
    refine s_call ha hs (.tuple #[zV (x.fdiv y), zV (x.fmod y), .bool true]) (zdiv hx hy (of_decide_eq_false hb15) _ (by omega)) fun ac wd ha hs => ?_
    refine s_val ha (.tuple #[zV (x.fdiv y), zV (x.fmod y), .bool true]) fun ac ha => ?_
    refine s_val ha (zV (x.fdiv y)) fun ac ha => ?_
    refine s_val ha (zV (x.fmod y)) fun ac ha => ?_
    refine s_val ha (.bool true) fun ac ha => ?_
    refine s_alloc ha hs [.bool false, .int .u64 0, .string (⟨#[]⟩)] fun g20 ac wd ha hs => ?_
    refine s_alloc ha hs [.bool false, .int .u64 0, .string (⟨#[]⟩)] fun g21 ac wd ha hs => ?_
    refine s_store ha hs 1 _ fun ac wd ha hs => ?_
    refine s_store ha hs 0 _ fun ac wd ha hs => ?_
    refine s_val ha (.bool true) fun ac ha => ?_
    refine wpList_nil ((x_normal ?_))
    refine wp_seq ?_
    refine wp_seq ?_
    refine region_sp ha 67 [.eq (.bool true), .eq (.bool false), .eq (.bool false), .eq (zV x), .eq (zV y), .eq (zV (x + y)), .eq (zV y), .eq (zV x), .eq (zV (y + x)), .eq (.int .i64 0), .eq (.bool false), .eq (.bool false), .eq (.bool false), .eq (zV x), .eq (zV y), .eq (zV z), .eq (zV (y + z)), .eq (zV (x * (y + z))), .eq (zV x), .eq (zV y), .eq (zV (x * y)), .eq (zV x), .eq (zV z), .eq (zV (x * z)), .eq (zV ((x * y) + (x * z))), .eq (.int .i64 0), .eq (.bool false), .eq (.bool false), .eq (.bool false), .eq (zV x), .eq (zV y), .eq (zV (x - y)), .eq (zV y), .eq (zV ((x - y) + y)), .eq (zV x), .eq (.int .i64 0), .eq (.bool false), .eq (.bool false), .eq (.bool false), .eq (zV x), .eq (zV y), .eq (zV (x * y)), .eq (zV z), .eq (zV ((x * y) * z)), .eq (zV z), .eq (zV y), .eq (zV (z * y)), .eq (zV x), .eq (zV ((z * y) * x)), .eq (.int .i64 0), .eq (.bool false), .eq (.bool false), .eq (.bool false), .eq (zV x), .eq (zV (-x)), .eq (zV (-(-x))), .eq (zV x), .eq (.int .i64 0), .eq (.bool false), .eq (.bool false), .eq (.bool false), .eq (.bool true), .eq (zV y), .eq (.int .i64 y.sign), .eq (.bool true), .eq (.bool false), .eq (.bool false)] [] [] (fun _ hb => by cases hb)
      ⟨d_call (fun _ hw => known2 _), d_val, d_val, d_load hs 9, d_load hs 8, d_call (fun _ hw => zadd hx hy _ (by omega)), d_load hs 8, d_load hs 9, d_call (fun _ hw => zadd hy hx _ (by omega)), d_call (fun _ hw => zcmp_eq (hx.zadd hy) (hy.zadd hx) (by grind) _ (by omega)), d_val, d_val, d_val, d_load hs 9, d_load hs 8, d_load hs 5, d_call (fun _ hw => zadd hy hz _ (by omega)), d_call (fun _ hw => zmul hx (hy.zadd hz) _ (by omega)), d_load hs 9, d_load hs 8, d_call (fun _ hw => zmul hx hy _ (by omega)), d_load hs 9, d_load hs 5, d_call (fun _ hw => zmul hx hz _ (by omega)), d_call (fun _ hw => zadd (hx.zmul hy) (hx.zmul hz) _ (by omega)), d_call (fun _ hw => zcmp_eq (hx.zmul (hy.zadd hz)) ((hx.zmul hy).zadd (hx.zmul hz)) (by grind) _ (by omega)), d_val, d_val, d_val, d_load hs 9, d_load hs 8, d_call (fun _ hw => zsub hx hy _ (by omega)), d_load hs 8, d_call (fun _ hw => zadd (hx.zsub hy) hy _ (by omega)), d_load hs 9, d_call (fun _ hw => zcmp_eq ((hx.zsub hy).zadd hy) hx (by grind) _ (by omega)), d_val, d_val, d_val, d_load hs 9, d_load hs 8, d_call (fun _ hw => zmul hx hy _ (by omega)), d_load hs 5, d_call (fun _ hw => zmul (hx.zmul hy) hz _ (by omega)), d_load hs 5, d_load hs 8, d_call (fun _ hw => zmul hz hy _ (by omega)), d_load hs 9, d_call (fun _ hw => zmul (hz.zmul hy) hx _ (by omega)), d_call (fun _ hw => zcmp_eq ((hx.zmul hy).zmul hz) ((hz.zmul hy).zmul hx) (by grind) _ (by omega)), d_val, d_val, d_val, d_load hs 9, d_call (fun _ hw => zneg hx _ (by omega)), d_call (fun _ hw => zneg hx.zneg _ (by omega)), d_load hs 9, d_call (fun _ hw => zcmp_eq hx.zneg.zneg hx (by grind) _ (by omega)), d_val, d_val, d_val, d_val, d_load hs 8, d_call (fun _ hw => zsign hy _ (by omega)), d_bool (b := (y.sign != 0)) (sgn_bne hb15), d_val, d_val, trivial⟩ ?_
    intro vv wd1 ac hw hG hN ha
    have ha := ha.sub [(0, .slice A1 l0.length c1), (1, .slice A2 l1.length c2), (2, .slice A3 l2.length c3), (3, .bool b3), (4, .bool b4), (10, .bool false), (23, .slice A1 l0.length c1), (24, .slice A2 l1.length c2), (25, .bool b3), (26, .bool b4), (27, .tuple #[zV x, zV y, riV x Ai2 ci2, riV y Ai3 ci3]), (22, .tuple #[zV x, zV y, riV x Ai2 ci2, riV y Ai3 ci3]), (28, zV x), (29, zV y), (30, riV x Ai2 ci2), (31, riV y Ai3 ci3), (11, .pointer (some ⟨g4, 0, none⟩)), (12, .pointer (some ⟨g5, 0, none⟩)), (13, .pointer (some ⟨g6, 0, none⟩)), (14, .pointer (some ⟨g7, 0, none⟩)), (33, .slice A3 l2.length c3), (34, .bool b3), (35, .bool b4), (36, .bool (!(b3 == b4))), (37, .tuple #[zV z, zV y2, riV z Ai9 ci9, riV y2 Ai10 ci10]), (32, .tuple #[zV z, zV y2, riV z Ai9 ci9, riV y2 Ai10 ci10]), (38, zV z), (39, zV y2), (40, riV z Ai9 ci9), (41, riV y2 Ai10 ci10), (15, .pointer (some ⟨g11, 0, none⟩)), (16, .pointer (some ⟨g12, 0, none⟩)), (17, .pointer (some ⟨g13, 0, none⟩)), (18, .pointer (some ⟨g14, 0, none⟩)), (43, zV x), (44, zV y), (45, .tuple #[zV (x.fdiv y), zV (x.fmod y), .bool true]), (42, .tuple #[zV (x.fdiv y), zV (x.fmod y), .bool true]), (46, zV (x.fdiv y)), (47, zV (x.fmod y)), (48, .bool true), (19, .pointer (some ⟨g20, 0, none⟩)), (20, .pointer (some ⟨g21, 0, none⟩)), (21, .bool true), (115, .bool false)]
    clear hG hN
    have hs := hs.go hw
    clear hw
    refine keeps_nil ?_
    show wpList _ _ _ _ _ _
    refine wpList_nil ((x_normal ?_))
    refine r_false ha ?_
    refine wp_skip ((x_normal ?_))
    refine wp_seq ?_
    rcases Bool.eq_false_or_eq_true (decide (x.fmod y = 0)) with hb23 | hb23
    ·
      have phb23 := of_decide_eq_true hb23
      refine region_sp ha 32 [.eq (.bool true), .eq (.bool false), .eq (.bool false), .eq (zV (x.fdiv y)), .eq (zV y), .eq (zV ((x.fdiv y) * y)), .eq (zV (x.fmod y)), .eq (zV (((x.fdiv y) * y) + (x.fmod y))), .eq (zV x), .eq (.int .i64 0), .eq (.bool true), .eq (.bool true), .eq (zV (x.fmod y)), .eq (.int .i64 0), .eq (.bool true), .eq (.bool true), .eq (undef), .eq (undef), .eq (undef), .eq (undef), .eq (undef), .eq (.bool true), .eq (.bool true), .eq (.bool true), .eq (zV (x.fmod y)), .eq (nV ((x.fmod y).natAbs)), .eq (zV y), .eq (nV y.natAbs), .eq (.int .i64 (-1)), .eq (.bool true), .eq (.bool true), .eq (.bool true)] [] [] (fun _ hb => by cases hb)
        ⟨d_val, d_val, d_val, d_load hs 1, d_load hs 8, d_call (fun _ hw => zmul (hx.zfdiv y) hy _ (by omega)), d_load hs 0, d_call (fun _ hw => zadd ((hx.zfdiv y).zmul hy) (Sm.zfmod x hy (of_decide_eq_false hb15)) _ (by omega)), d_load hs 9, d_call (fun _ hw => zcmp_eq (((hx.zfdiv y).zmul hy).zadd (Sm.zfmod x hy (of_decide_eq_false hb15))) hx (Int.fdiv_mul_add_fmod x y) _ (by omega)), d_val, d_val, d_load hs 0, d_call (fun _ hw => zsign0 (of_decide_eq_true hb23) _), d_val, d_val, d_not, d_not, d_not, d_not, d_not, d_val, d_val, d_val, d_load hs 0, d_call (fun _ hw => zabs (x.fmod y) _), d_load hs 8, d_call (fun _ hw => zabs y _), d_call (fun _ hw => ccmp_lt (Sm.zfmod x hy (of_decide_eq_false hb15)) hy (fmod_lt_abs x (of_decide_eq_false hb15)) _ (by omega)), d_val, d_val, d_val, trivial⟩ ?_
      intro vv wd1 ac hw hG hN ha
      have ha := ha.sub [(0, .slice A1 l0.length c1), (1, .slice A2 l1.length c2), (2, .slice A3 l2.length c3), (3, .bool b3), (4, .bool b4), (10, .bool false), (23, .slice A1 l0.length c1), (24, .slice A2 l1.length c2), (25, .bool b3), (26, .bool b4), (27, .tuple #[zV x, zV y, riV x Ai2 ci2, riV y Ai3 ci3]), (22, .tuple #[zV x, zV y, riV x Ai2 ci2, riV y Ai3 ci3]), (28, zV x), (29, zV y), (30, riV x Ai2 ci2), (31, riV y Ai3 ci3), (11, .pointer (some ⟨g4, 0, none⟩)), (12, .pointer (some ⟨g5, 0, none⟩)), (13, .pointer (some ⟨g6, 0, none⟩)), (14, .pointer (some ⟨g7, 0, none⟩)), (33, .slice A3 l2.length c3), (34, .bool b3), (35, .bool b4), (36, .bool (!(b3 == b4))), (37, .tuple #[zV z, zV y2, riV z Ai9 ci9, riV y2 Ai10 ci10]), (32, .tuple #[zV z, zV y2, riV z Ai9 ci9, riV y2 Ai10 ci10]), (38, zV z), (39, zV y2), (40, riV z Ai9 ci9), (41, riV y2 Ai10 ci10), (15, .pointer (some ⟨g11, 0, none⟩)), (16, .pointer (some ⟨g12, 0, none⟩)), (17, .pointer (some ⟨g13, 0, none⟩)), (18, .pointer (some ⟨g14, 0, none⟩)), (43, zV x), (44, zV y), (45, .tuple #[zV (x.fdiv y), zV (x.fmod y), .bool true]), (42, .tuple #[zV (x.fdiv y), zV (x.fmod y), .bool true]), (46, zV (x.fdiv y)), (47, zV (x.fmod y)), (48, .bool true), (19, .pointer (some ⟨g20, 0, none⟩)), (20, .pointer (some ⟨g21, 0, none⟩)), (21, .bool true), (115, .bool false), (147, .bool true)]
      clear hG hN
      have hs := hs.go hw
      clear hw
      refine keeps_nil ?_
      show wpList _ _ _ _ _ _
      refine s_val ha (.bool true) fun ac ha => ?_
      refine wpList_nil ((x_normal ?_))
      refine wp_ret (ret_at ha hs rfl [.bool true] ⟨rfl, trivial⟩ ?_)
      exact ⟨rfl, hs.ext⟩
    ·
      have phb23 := of_decide_eq_false hb23
      rcases Bool.eq_false_or_eq_true ((((x.fmod y).sign) == 0)) with hb25 | hb25
      ·
        have phb25 := eq_of_beq hb25
        refine region_sp ha 32 [.eq (.bool true), .eq (.bool false), .eq (.bool false), .eq (zV (x.fdiv y)), .eq (zV y), .eq (zV ((x.fdiv y) * y)), .eq (zV (x.fmod y)), .eq (zV (((x.fdiv y) * y) + (x.fmod y))), .eq (zV x), .eq (.int .i64 0), .eq (.bool true), .eq (.bool true), .eq (zV (x.fmod y)), .eq (.int .i64 ((x.fmod y).sign)), .eq (.bool true), .eq (.bool true), .eq (undef), .eq (undef), .eq (undef), .eq (undef), .eq (undef), .eq (.bool true), .eq (.bool true), .eq (.bool true), .eq (zV (x.fmod y)), .eq (nV ((x.fmod y).natAbs)), .eq (zV y), .eq (nV y.natAbs), .eq (.int .i64 (-1)), .eq (.bool true), .eq (.bool true), .eq (.bool true)] [] [] (fun _ hb => by cases hb)
          ⟨d_val, d_val, d_val, d_load hs 1, d_load hs 8, d_call (fun _ hw => zmul (hx.zfdiv y) hy _ (by omega)), d_load hs 0, d_call (fun _ hw => zadd ((hx.zfdiv y).zmul hy) (Sm.zfmod x hy (of_decide_eq_false hb15)) _ (by omega)), d_load hs 9, d_call (fun _ hw => zcmp_eq (((hx.zfdiv y).zmul hy).zadd (Sm.zfmod x hy (of_decide_eq_false hb15))) hx (Int.fdiv_mul_add_fmod x y) _ (by omega)), d_val, d_val, d_load hs 0, d_call (fun _ hw => zsign (Sm.zfmod x hy (of_decide_eq_false hb15)) _ (by omega)), d_bool (b := (((x.fmod y).sign) == 0)) hb25, d_val, d_not, d_not, d_not, d_not, d_not, d_val, d_val, d_val, d_load hs 0, d_call (fun _ hw => zabs (x.fmod y) _), d_load hs 8, d_call (fun _ hw => zabs y _), d_call (fun _ hw => ccmp_lt (Sm.zfmod x hy (of_decide_eq_false hb15)) hy (fmod_lt_abs x (of_decide_eq_false hb15)) _ (by omega)), d_val, d_val, d_val, trivial⟩ ?_
        intro vv wd1 ac hw hG hN ha
        have ha := ha.sub [(0, .slice A1 l0.length c1), (1, .slice A2 l1.length c2), (2, .slice A3 l2.length c3), (3, .bool b3), (4, .bool b4), (10, .bool false), (23, .slice A1 l0.length c1), (24, .slice A2 l1.length c2), (25, .bool b3), (26, .bool b4), (27, .tuple #[zV x, zV y, riV x Ai2 ci2, riV y Ai3 ci3]), (22, .tuple #[zV x, zV y, riV x Ai2 ci2, riV y Ai3 ci3]), (28, zV x), (29, zV y), (30, riV x Ai2 ci2), (31, riV y Ai3 ci3), (11, .pointer (some ⟨g4, 0, none⟩)), (12, .pointer (some ⟨g5, 0, none⟩)), (13, .pointer (some ⟨g6, 0, none⟩)), (14, .pointer (some ⟨g7, 0, none⟩)), (33, .slice A3 l2.length c3), (34, .bool b3), (35, .bool b4), (36, .bool (!(b3 == b4))), (37, .tuple #[zV z, zV y2, riV z Ai9 ci9, riV y2 Ai10 ci10]), (32, .tuple #[zV z, zV y2, riV z Ai9 ci9, riV y2 Ai10 ci10]), (38, zV z), (39, zV y2), (40, riV z Ai9 ci9), (41, riV y2 Ai10 ci10), (15, .pointer (some ⟨g11, 0, none⟩)), (16, .pointer (some ⟨g12, 0, none⟩)), (17, .pointer (some ⟨g13, 0, none⟩)), (18, .pointer (some ⟨g14, 0, none⟩)), (43, zV x), (44, zV y), (45, .tuple #[zV (x.fdiv y), zV (x.fmod y), .bool true]), (42, .tuple #[zV (x.fdiv y), zV (x.fmod y), .bool true]), (46, zV (x.fdiv y)), (47, zV (x.fmod y)), (48, .bool true), (19, .pointer (some ⟨g20, 0, none⟩)), (20, .pointer (some ⟨g21, 0, none⟩)), (21, .bool true), (115, .bool false), (147, .bool true)]
        clear hG hN
        have hs := hs.go hw
        clear hw
        refine keeps_nil ?_
        show wpList _ _ _ _ _ _
        refine s_val ha (.bool true) fun ac ha => ?_
        refine wpList_nil ((x_normal ?_))
        refine wp_ret (ret_at ha hs rfl [.bool true] ⟨rfl, trivial⟩ ?_)
        exact ⟨rfl, hs.ext⟩
      ·
        have phb25 := beq_eq_false_iff_ne.1 hb25
        refine region_sp ha 32 [.eq (.bool true), .eq (.bool false), .eq (.bool false), .eq (zV (x.fdiv y)), .eq (zV y), .eq (zV ((x.fdiv y) * y)), .eq (zV (x.fmod y)), .eq (zV (((x.fdiv y) * y) + (x.fmod y))), .eq (zV x), .eq (.int .i64 0), .eq (.bool true), .eq (.bool true), .eq (zV (x.fmod y)), .eq (.int .i64 ((x.fmod y).sign)), .eq (.bool false), .eq (.bool false), .eq (zV (x.fmod y)), .eq (.int .i64 ((x.fmod y).sign)), .eq (zV y), .eq (.int .i64 y.sign), .eq (.bool true), .eq (.bool true), .eq (.bool true), .eq (.bool true), .eq (zV (x.fmod y)), .eq (nV ((x.fmod y).natAbs)), .eq (zV y), .eq (nV y.natAbs), .eq (.int .i64 (-1)), .eq (.bool true), .eq (.bool true), .eq (.bool true)] [] [] (fun _ hb => by cases hb)
          ⟨d_val, d_val, d_val, d_load hs 1, d_load hs 8, d_call (fun _ hw => zmul (hx.zfdiv y) hy _ (by omega)), d_load hs 0, d_call (fun _ hw => zadd ((hx.zfdiv y).zmul hy) (Sm.zfmod x hy (of_decide_eq_false hb15)) _ (by omega)), d_load hs 9, d_call (fun _ hw => zcmp_eq (((hx.zfdiv y).zmul hy).zadd (Sm.zfmod x hy (of_decide_eq_false hb15))) hx (Int.fdiv_mul_add_fmod x y) _ (by omega)), d_val, d_val, d_load hs 0, d_call (fun _ hw => zsign (Sm.zfmod x hy (of_decide_eq_false hb15)) _ (by omega)), d_bool (b := (((x.fmod y).sign) == 0)) hb25, d_val, d_load hs 0, d_call (fun _ hw => zsign (Sm.zfmod x hy (of_decide_eq_false hb15)) _ (by omega)), d_load hs 8, d_call (fun _ hw => zsign hy _ (by omega)), d_bool (b := (((x.fmod y).sign) == y.sign)) (fmod_sgn hb23 hb15), d_val, d_val, d_val, d_load hs 0, d_call (fun _ hw => zabs (x.fmod y) _), d_load hs 8, d_call (fun _ hw => zabs y _), d_call (fun _ hw => ccmp_lt (Sm.zfmod x hy (of_decide_eq_false hb15)) hy (fmod_lt_abs x (of_decide_eq_false hb15)) _ (by omega)), d_val, d_val, d_val, trivial⟩ ?_
        intro vv wd1 ac hw hG hN ha
        have ha := ha.sub [(0, .slice A1 l0.length c1), (1, .slice A2 l1.length c2), (2, .slice A3 l2.length c3), (3, .bool b3), (4, .bool b4), (10, .bool false), (23, .slice A1 l0.length c1), (24, .slice A2 l1.length c2), (25, .bool b3), (26, .bool b4), (27, .tuple #[zV x, zV y, riV x Ai2 ci2, riV y Ai3 ci3]), (22, .tuple #[zV x, zV y, riV x Ai2 ci2, riV y Ai3 ci3]), (28, zV x), (29, zV y), (30, riV x Ai2 ci2), (31, riV y Ai3 ci3), (11, .pointer (some ⟨g4, 0, none⟩)), (12, .pointer (some ⟨g5, 0, none⟩)), (13, .pointer (some ⟨g6, 0, none⟩)), (14, .pointer (some ⟨g7, 0, none⟩)), (33, .slice A3 l2.length c3), (34, .bool b3), (35, .bool b4), (36, .bool (!(b3 == b4))), (37, .tuple #[zV z, zV y2, riV z Ai9 ci9, riV y2 Ai10 ci10]), (32, .tuple #[zV z, zV y2, riV z Ai9 ci9, riV y2 Ai10 ci10]), (38, zV z), (39, zV y2), (40, riV z Ai9 ci9), (41, riV y2 Ai10 ci10), (15, .pointer (some ⟨g11, 0, none⟩)), (16, .pointer (some ⟨g12, 0, none⟩)), (17, .pointer (some ⟨g13, 0, none⟩)), (18, .pointer (some ⟨g14, 0, none⟩)), (43, zV x), (44, zV y), (45, .tuple #[zV (x.fdiv y), zV (x.fmod y), .bool true]), (42, .tuple #[zV (x.fdiv y), zV (x.fmod y), .bool true]), (46, zV (x.fdiv y)), (47, zV (x.fmod y)), (48, .bool true), (19, .pointer (some ⟨g20, 0, none⟩)), (20, .pointer (some ⟨g21, 0, none⟩)), (21, .bool true), (115, .bool false), (147, .bool true)]
        clear hG hN
        have hs := hs.go hw
        clear hw
        refine keeps_nil ?_
        show wpList _ _ _ _ _ _
        refine s_val ha (.bool true) fun ac ha => ?_
        refine wpList_nil ((x_normal ?_))
        refine wp_ret (ret_at ha hs rfl [.bool true] ⟨rfl, trivial⟩ ?_)
        exact ⟨rfl, hs.ext⟩
  end Go.Proofs.YtiloialbglfplaaDoor

namespace Go.Proofs.YtiloialbglfplaaDoor
open Go.RowKit

theorem sgn_nlt {g : Int} (h : 0 ≤ g) : decide (g.sign < 0) = false := by
  refine decide_eq_false fun h2 => ?_
  rcases Int.lt_or_eq_of_le h with h' | h'
  · rw [Int.sign_eq_one_of_pos h'] at h2; omega
  · rw [← h'] at h2; exact absurd h2 (by decide)
theorem sgn_ge {g : Int} (h : 0 ≤ g) : decide (g.sign ≥ 0) = true := by
  have := of_decide_eq_false (sgn_nlt h)
  exact decide_eq_true (by omega)
theorem zcmp_lt {j k : Nat} {x y : Int} (hx : Sm j x.natAbs) (hy : Sm k y.natAbs) (e : x < y) (W : World) (h : max j k ≤ 549755813887) : Calls Tryd.prog 17 #[zV x, zV y] W (Ret (.int .i64 (-1)) W) := by
  have h := zcmp hx hy W h
  rw [show cmpZ x y = -1 from by unfold cmpZ; rw [if_pos e]] at h
  exact h
theorem zgcd_eq {j k n : Nat} {a b : Int} (ha0 : Sm j a.natAbs) (hb0 : Sm k b.natAbs) (e : Nat.gcd a.natAbs b.natAbs = n) (W : World) (ht : Tab64 W) (h : max j k ≤ 549755813887) : Calls Tryd.prog 34 #[zV a, zV b] W (Ret (nV n) W) := by
  subst e
  exact zgcd ha0 hb0 W ht h

set_option maxHeartbeats 8000000 in
theorem wholeBezout_any (l0 : List UInt8) (v0 : Value) (l1 : List UInt8) (v1 : Value) (b2 b3 : Bool) (w : World) (htab : Tab64 w) (s0 : SlB l0 v0 w) (s1 : SlB l1 v1 w) : Calls Tryd.prog 7 #[v0, v1, .bool b2, .bool b3] w (Ret (.bool true) w) := by
  obtain ⟨A1, c1, rfl⟩ := s0.form
  obtain ⟨A2, c2, rfl⟩ := s1.form
  have HT := fun W h1 h2 => two2 l0 l1 (.slice A1 l0.length c1) (.slice A2 l1.length c2) b2 b3 W h1 h2
  have hx : Sm 320 (sg b2 (beN (l0.take 40))).natAbs := by rw [sg_abs]; exact Sm.take40 l0
  have hy : Sm 320 (sg b3 (beN (l1.take 40))).natAbs := by rw [sg_abs]; exact Sm.take40 l1
  generalize sg b2 (beN (l0.take 40)) = x at *
  generalize sg b3 (beN (l1.take 40)) = y at *
  have HB := fun W => zbez (a := x) (b := y) hx hy W (by omega)
  have hgG := bezG_eq x y
  have hid := (bez_spec x y).1
  have hsp := (bez_spec x y).2
  have hg := hx.bezG hy
  have hu := hy.bezX (a := x)
  have hv := hx.bezY hy
  generalize bezG x y = g at *
  generalize bezX x y = u at *
  generalize bezY x y = v at *
  have hub : y ≠ 0 → 0 ≤ u := fun h => (hsp h).1
  have hlt : y ≠ 0 → g ≠ 0 → u < (((y.fdiv g).natAbs : Nat) : Int) := fun h h0 => by rw [natAbs_fdiv_of_dvd (gcd_parts hgG h0).2.1 h0]; exact (hsp h).2
  obtain ⟨G, hGe⟩ : ∃ G, Nat.gcd x.natAbs y.natAbs = G := ⟨_, rfl⟩
  have hgG2 : g = ((G : Nat) : Int) := by rw [hgG, hGe]
  have hG : Sm 321 G := by have := hg; rw [hgG2, Int.natAbs_natCast] at this; exact this
  have hg0 : 0 ≤ g := by omega
  have hx0 : g = 0 → x = 0 := fun h => by
    have : Nat.gcd x.natAbs y.natAbs = 0 := by omega
    have := Nat.eq_zero_of_gcd_eq_zero_left this
    omega
  have hy0 : g = 0 → y = 0 := fun h => by
    have : Nat.gcd x.natAbs y.natAbs = 0 := by omega
    have := Nat.eq_zero_of_gcd_eq_zero_right this
    omega
  have hs := St.start w
  have hs := hs.add8 s0 (by kernel_rfl)
  have hs := hs.add8 s1 (by kernel_rfl)
  refine enter Tryd.func7 rfl Tryd.ntmps7 (by kernel_rfl) fun ac ha => ?_
  refine wp_seq ?_
  refine wp_region_lit ?_
  refine s_val ha (.bool false) fun ac ha => ?_
  refine wpList_nil ((x_normal ?_))
  refine wp_seq ?_
  refine wp_region_lit ?_
  refine s_val ha (.slice A1 l0.length c1) fun ac ha => ?_
  refine s_val ha (.slice A2 l1.length c2) fun ac ha => ?_
  refine s_val ha (.bool b2) fun ac ha => ?_
  refine s_val ha (.bool b3) fun ac ha => ?_
  refine s_callP ha hs (HT _ (hs.get 1 rfl) (hs.get 0 rfl)) fun u ac wd hp ha hs => ?_
  obtain ⟨x1, y1, rfl, p1, q1⟩ := hp
  obtain ⟨Ai2, ci2, rfl, r2⟩ := p1
  have hs := hs.add32 r2 (by kernel_rfl)
  obtain ⟨Ai3, ci3, rfl, r3⟩ := q1
  have hs := hs.add32 r3 (by kernel_rfl)
  refine s_val ha (.tuple #[zV x, zV y, riV x Ai2 ci2, riV y Ai3 ci3]) fun ac ha => ?_
  refine s_val ha (zV x) fun ac ha => ?_
  refine s_val ha (zV y) fun ac ha => ?_
  refine s_val ha (riV x Ai2 ci2) fun ac ha => ?_
  refine s_val ha (riV y Ai3 ci3) fun ac ha => ?_
  refine s_alloc ha hs [.bool false, .int .u64 0, .string (⟨#[]⟩)] fun g4 ac wd ha hs => ?_
  refine s_alloc ha hs [.bool false, .int .u64 0, .string (⟨#[]⟩)] fun g5 ac wd ha hs => ?_
  refine s_alloc ha hs [.bool false, .slice none 0 0] fun g6 ac wd ha hs => ?_
  refine s_alloc ha hs [.bool false, .slice none 0 0] fun g7 ac wd ha hs => ?_
  refine s_store ha hs 3 _ fun ac wd ha hs => ?_
  refine s_store ha hs 2 _ fun ac wd ha hs => ?_
  refine s_store ha hs 1 _ fun ac wd ha hs => ?_
  refine s_store ha hs 0 _ fun ac wd ha hs => ?_
  refine wpList_nil ((x_normal ?_))
  refine wp_seq ?_
  refine wp_region_lit ?_
  refine s_load ha hs 3 (zV x) fun ac ha => ?_
  refine s_load ha hs 2 (zV y) fun ac ha => ?_
  refine s_call ha hs (.tuple #[zV g, zV u, zV v]) (HB _) fun ac wd ha hs => ?_
  refine s_val ha (.tuple #[zV g, zV u, zV v]) fun ac ha => ?_
  refine s_val ha (zV g) fun ac ha => ?_
  refine s_val ha (zV u) fun ac ha => ?_
  refine s_val ha (zV v) fun ac ha => ?_
  refine s_alloc ha hs [.bool false, .int .u64 0, .string (⟨#[]⟩)] fun g8 ac wd ha hs => ?_
  refine s_alloc ha hs [.bool false, .int .u64 0, .string (⟨#[]⟩)] fun g9 ac wd ha hs => ?_
  refine s_alloc ha hs [.bool false, .int .u64 0, .string (⟨#[]⟩)] fun g10 ac wd ha hs => ?_
  refine s_store ha hs 2 _ fun ac wd ha hs => ?_
  refine s_store ha hs 1 _ fun ac wd ha hs => ?_
  refine s_store ha hs 0 _ fun ac wd ha hs => ?_
  refine wpList_nil ((x_normal ?_))
  refine wp_seq ?_
  refine wp_seq ?_
  rcases Bool.eq_false_or_eq_true (decide (g = 0)) with hb11 | hb11
  ·
    have phb11 := of_decide_eq_true hb11
    refine region_sp ha 37 [.eq (.bool true), .eq (.bool false), .eq (.bool false), .eq (zV x), .eq (zV u), .eq (zV (x * u)), .eq (zV y), .eq (zV v), .eq (zV (y * v)), .eq (zV ((x * u) + (y * v))), .eq (zV g), .eq (.int .i64 0), .eq (.bool false), .eq (.bool false), .eq (.bool false), .eq (zV g), .eq (.int .i64 0), .eq (.bool false), .eq (.bool false), .eq (.bool false), .eq (zV x), .eq (zV y), .eq (nV G), .eq (zV ((G : Nat) : Int)), .eq (zV g), .eq (.int .i64 0), .eq (.bool false), .eq (.bool false), .eq (.bool false), .eq (zV y), .eq (zV x), .eq (nV G), .eq (zV g), .eq (nV g.natAbs), .eq (.int .i64 0), .eq (.bool false), .eq (.bool false)] [] [] (fun _ hb => by cases hb)
      ⟨d_call (fun _ hw => known2 _), d_val, d_val, d_load hs 6, d_load hs 1, d_call (fun _ hw => zmul hx hu _ (by omega)), d_load hs 5, d_load hs 0, d_call (fun _ hw => zmul hy hv _ (by omega)), d_call (fun _ hw => zadd (hx.zmul hu) (hy.zmul hv) _ (by omega)), d_load hs 2, d_call (fun _ hw => zcmp_eq ((hx.zmul hu).zadd (hy.zmul hv)) hg (hid) _ (by omega)), d_val, d_val, d_val, d_load hs 2, d_call (fun _ hw => zsign0 (of_decide_eq_true hb11) _), d_val, d_val, d_val, d_load hs 6, d_load hs 5, d_call (fun _ hw => zgcd_eq hx hy hGe _ (htab.ext (hs.go hw).ext) (by omega)), d_call (fun _ hw => from_any false hG (by omega) _), d_load hs 2, d_call (fun _ hw => zcmp_eq (Sm.cast hG) hg (hgG2.symm) _ (by omega)), d_val, d_val, d_val, d_load hs 5, d_load hs 6, d_call (fun _ hw => zgcd_eq hy hx ((Nat.gcd_comm _ _).trans hGe) _ (htab.ext (hs.go hw).ext) (by omega)), d_load hs 2, d_call (fun _ hw => zabs g _), d_call (fun _ hw => ccmp_eq hG hg (by omega) _ (by omega)), d_val, d_val, trivial⟩ ?_
    intro vv wd1 ac hw hG hN ha
    have ha := ha.sub [(0, .slice A1 l0.length c1), (1, .slice A2 l1.length c2), (2, .bool b2), (3, .bool b3), (8, .bool false), (23, .slice A1 l0.length c1), (24, .slice A2 l1.length c2), (25, .bool b2), (26, .bool b3), (27, .tuple #[zV x, zV y, riV x Ai2 ci2, riV y Ai3 ci3]), (22, .tuple #[zV x, zV y, riV x Ai2 ci2, riV y Ai3 ci3]), (28, zV x), (29, zV y), (30, riV x Ai2 ci2), (31, riV y Ai3 ci3), (9, .pointer (some ⟨g4, 0, none⟩)), (10, .pointer (some ⟨g5, 0, none⟩)), (11, .pointer (some ⟨g6, 0, none⟩)), (12, .pointer (some ⟨g7, 0, none⟩)), (33, zV x), (34, zV y), (35, .tuple #[zV g, zV u, zV v]), (32, .tuple #[zV g, zV u, zV v]), (36, zV g), (37, zV u), (38, zV v), (13, .pointer (some ⟨g8, 0, none⟩)), (14, .pointer (some ⟨g9, 0, none⟩)), (15, .pointer (some ⟨g10, 0, none⟩)), (75, .bool false)]
    clear hG hN
    have hs := hs.go hw
    clear hw
    refine keeps_nil ?_
    show wpList _ _ _ _ _ _
    refine wpList_nil ((x_normal ?_))
    refine r_false ha ?_
    refine wp_skip ((x_normal ?_))
    refine wp_seq ?_
    refine wp_seq ?_
    refine wp_region_lit ?_
    refine s_load ha hs 2 (zV g) fun ac ha => ?_
    refine s_call ha hs (.int .i64 0) (zsign0 (of_decide_eq_true hb11) _) fun ac wd ha hs => ?_
    refine s_val ha (.bool true) fun ac ha => ?_
    refine wpList_nil ((x_normal ?_))
    refine r_true ha ?_
    refine wp_seq ?_
    refine wp_region_lit ?_
    refine s_load ha hs 6 (zV x) fun ac ha => ?_
    refine s_call ha hs (.int .i64 0) (zsign0 (of_decide_eq_true (decide_eq_true (hx0 (of_decide_eq_true hb11)))) _) fun ac wd ha hs => ?_
    refine s_val ha (.bool true) fun ac ha => ?_
    refine s_val ha (.bool true) fun ac ha => ?_
    refine s_load ha hs 5 (zV y) fun ac ha => ?_
    refine s_call ha hs (.int .i64 0) (zsign0 (of_decide_eq_true (decide_eq_true (hy0 (of_decide_eq_true hb11)))) _) fun ac wd ha hs => ?_
    refine s_val ha (.bool true) fun ac ha => ?_
    refine s_val ha (.bool true) fun ac ha => ?_
    refine s_val ha (.bool true) fun ac ha => ?_
    refine wpList_nil ((x_normal ?_))
    refine wp_ret (x_ret (ret_at ha hs rfl [.bool true] ⟨rfl, trivial⟩ ?_))
    exact ⟨rfl, hs.ext⟩
  ·
    have phb11 := of_decide_eq_false hb11
    refine region_sp ha 37 [.eq (.bool true), .eq (.bool false), .eq (.bool false), .eq (zV x), .eq (zV u), .eq (zV (x * u)), .eq (zV y), .eq (zV v), .eq (zV (y * v)), .eq (zV ((x * u) + (y * v))), .eq (zV g), .eq (.int .i64 0), .eq (.bool false), .eq (.bool false), .eq (.bool false), .eq (zV g), .eq (.int .i64 g.sign), .eq (.bool false), .eq (.bool false), .eq (.bool false), .eq (zV x), .eq (zV y), .eq (nV G), .eq (zV ((G : Nat) : Int)), .eq (zV g), .eq (.int .i64 0), .eq (.bool false), .eq (.bool false), .eq (.bool false), .eq (zV y), .eq (zV x), .eq (nV G), .eq (zV g), .eq (nV g.natAbs), .eq (.int .i64 0), .eq (.bool false), .eq (.bool false)] [] [] (fun _ hb => by cases hb)
      ⟨d_call (fun _ hw => known2 _), d_val, d_val, d_load hs 6, d_load hs 1, d_call (fun _ hw => zmul hx hu _ (by omega)), d_load hs 5, d_load hs 0, d_call (fun _ hw => zmul hy hv _ (by omega)), d_call (fun _ hw => zadd (hx.zmul hu) (hy.zmul hv) _ (by omega)), d_load hs 2, d_call (fun _ hw => zcmp_eq ((hx.zmul hu).zadd (hy.zmul hv)) hg (hid) _ (by omega)), d_val, d_val, d_val, d_load hs 2, d_call (fun _ hw => zsign hg _ (by omega)), d_bool (b := decide (g.sign < 0)) (sgn_nlt hg0), d_val, d_val, d_load hs 6, d_load hs 5, d_call (fun _ hw => zgcd_eq hx hy hGe _ (htab.ext (hs.go hw).ext) (by omega)), d_call (fun _ hw => from_any false hG (by omega) _), d_load hs 2, d_call (fun _ hw => zcmp_eq (Sm.cast hG) hg (hgG2.symm) _ (by omega)), d_val, d_val, d_val, d_load hs 5, d_load hs 6, d_call (fun _ hw => zgcd_eq hy hx ((Nat.gcd_comm _ _).trans hGe) _ (htab.ext (hs.go hw).ext) (by omega)), d_load hs 2, d_call (fun _ hw => zabs g _), d_call (fun _ hw => ccmp_eq hG hg (by omega) _ (by omega)), d_val, d_val, trivial⟩ ?_
    intro vv wd1 ac hw hG hN ha
    have ha := ha.sub [(0, .slice A1 l0.length c1), (1, .slice A2 l1.length c2), (2, .bool b2), (3, .bool b3), (8, .bool false), (23, .slice A1 l0.length c1), (24, .slice A2 l1.length c2), (25, .bool b2), (26, .bool b3), (27, .tuple #[zV x, zV y, riV x Ai2 ci2, riV y Ai3 ci3]), (22, .tuple #[zV x, zV y, riV x Ai2 ci2, riV y Ai3 ci3]), (28, zV x), (29, zV y), (30, riV x Ai2 ci2), (31, riV y Ai3 ci3), (9, .pointer (some ⟨g4, 0, none⟩)), (10, .pointer (some ⟨g5, 0, none⟩)), (11, .pointer (some ⟨g6, 0, none⟩)), (12, .pointer (some ⟨g7, 0, none⟩)), (33, zV x), (34, zV y), (35, .tuple #[zV g, zV u, zV v]), (32, .tuple #[zV g, zV u, zV v]), (36, zV g), (37, zV u), (38, zV v), (13, .pointer (some ⟨g8, 0, none⟩)), (14, .pointer (some ⟨g9, 0, none⟩)), (15, .pointer (some ⟨g10, 0, none⟩)), (75, .bool false)]
    clear hG hN
    have hs := hs.go hw
    clear hw
    refine keeps_nil ?_
    show wpList _ _ _ _ _ _
    refine wpList_nil ((x_normal ?_))
    refine r_false ha ?_
    refine wp_skip ((x_normal ?_))
    refine wp_seq ?_
    refine wp_seq ?_
    refine wp_region_lit ?_
    refine s_load ha hs 2 (zV g) fun ac ha => ?_
    refine s_call ha hs (.int .i64 g.sign) (zsign hg _ (by omega)) fun ac wd ha hs => ?_
    refine s_bool ha (b := (g.sign == 0)) false (sgn_ne hb11) fun ac ha => ?_
    refine wpList_nil ((x_normal ?_))
    refine r_false ha ?_
    refine wp_skip ((x_normal ?_))
    refine wp_seq ?_
    refine wp_region_lit ?_
    refine s_load ha hs 6 (zV x) fun ac ha => ?_
    refine s_load ha hs 2 (zV g) fun ac ha => ?_
    refine s_call ha hs (.tuple #[zV (x.fdiv g), zV (x.fmod g), .bool true]) (zdiv hx hg (of_decide_eq_false hb11) _ (by omega)) fun ac wd ha hs => ?_
    refine s_val ha (.tuple #[zV (x.fdiv g), zV (x.fmod g), .bool true]) fun ac ha => ?_
    refine s_val ha (zV (x.fdiv g)) fun ac ha => ?_
    refine s_val ha (zV (x.fmod g)) fun ac ha => ?_
    refine s_val ha (.bool true) fun ac ha => ?_
    refine s_alloc ha hs [.bool false, .int .u64 0, .string (⟨#[]⟩)] fun g14 ac wd ha hs => ?_
    refine s_alloc ha hs [.bool false, .int .u64 0, .string (⟨#[]⟩)] fun g15 ac wd ha hs => ?_
    refine s_store ha hs 1 _ fun ac wd ha hs => ?_
    refine s_store ha hs 0 _ fun ac wd ha hs => ?_
    refine s_val ha (.bool true) fun ac ha => ?_
    refine wpList_nil ((x_normal ?_))
    refine wp_seq ?_
    refine wp_region_lit ?_
    refine s_load ha hs 7 (zV y) fun ac ha => ?_
    refine s_load ha hs 4 (zV g) fun ac ha => ?_
    refine s_call ha hs (.tuple #[zV (y.fdiv g), zV (y.fmod g), .bool true]) (zdiv hy hg (of_decide_eq_false hb11) _ (by omega)) fun ac wd ha hs => ?_
    refine s_val ha (.tuple #[zV (y.fdiv g), zV (y.fmod g), .bool true]) fun ac ha => ?_
    refine s_val ha (zV (y.fdiv g)) fun ac ha => ?_
    refine s_val ha (zV (y.fmod g)) fun ac ha => ?_
    refine s_val ha (.bool true) fun ac ha => ?_
    refine s_alloc ha hs [.bool false, .int .u64 0, .string (⟨#[]⟩)] fun g16 ac wd ha hs => ?_
    refine s_alloc ha hs [.bool false, .int .u64 0, .string (⟨#[]⟩)] fun g17 ac wd ha hs => ?_
    refine s_store ha hs 1 _ fun ac wd ha hs => ?_
    refine s_store ha hs 0 _ fun ac wd ha hs => ?_
    refine s_val ha (.bool true) fun ac ha => ?_
    refine wpList_nil ((x_normal ?_))
    refine wp_seq ?_
    rcases Bool.eq_false_or_eq_true (decide (y = 0)) with hb18 | hb18
    ·
      have phb18 := of_decide_eq_true hb18
      refine region_sp ha 33 [.eq (zV (x.fmod g)), .eq (.int .i64 0), .eq (.bool true), .eq (.bool true), .eq (zV (y.fmod g)), .eq (.int .i64 0), .eq (.bool true), .eq (.bool true), .eq (.bool true), .eq (zV (x.fdiv g)), .eq (zV (y.fdiv g)), .eq (nV 1), .eq (.string (⟨#[49]⟩)), .eq (.bool true), .eq (.bool true), .eq (.bool true), .eq (zV y), .eq (.int .i64 0), .eq (.bool true), .eq (.bool true), .eq (undef), .eq (undef), .eq (undef), .eq (undef), .eq (undef), .eq (undef), .eq (undef), .eq (undef), .eq (undef), .eq (undef), .eq (undef), .eq (.bool true), .eq (.bool true)] [] [] (fun _ hb => by cases hb)
        ⟨d_load hs 2, d_call (fun _ hw => zsign0 (of_decide_eq_true (decide_eq_true (fmod_zero_of_dvd (gcd_parts hgG (of_decide_eq_false hb11)).1))) _), d_val, d_val, d_load hs 0, d_call (fun _ hw => zsign0 (of_decide_eq_true (decide_eq_true (fmod_zero_of_dvd (gcd_parts hgG (of_decide_eq_false hb11)).2.1))) _), d_val, d_val, d_val, d_load hs 3, d_load hs 1, d_call (fun _ hw => zgcd_eq (hx.zfdiv g) (hy.zfdiv g) (gcd_parts hgG (of_decide_eq_false hb11)).2.2 _ (htab.ext (hs.go hw).ext) (by omega)), d_call (fun _ hw => ctext_dig (n := 1) (by decide) rfl _), d_val, d_val, d_val, d_load hs 9, d_call (fun _ hw => zsign0 (of_decide_eq_true hb18) _), d_val, d_val, d_not, d_not, d_not, d_not, d_not, d_not, d_not, d_not, d_not, d_not, d_not, d_val, d_val, trivial⟩ ?_
      intro vv wd1 ac hw hG hN ha
      have ha := ha.sub [(0, .slice A1 l0.length c1), (1, .slice A2 l1.length c2), (2, .bool b2), (3, .bool b3), (8, .bool false), (23, .slice A1 l0.length c1), (24, .slice A2 l1.length c2), (25, .bool b2), (26, .bool b3), (27, .tuple #[zV x, zV y, riV x Ai2 ci2, riV y Ai3 ci3]), (22, .tuple #[zV x, zV y, riV x Ai2 ci2, riV y Ai3 ci3]), (28, zV x), (29, zV y), (30, riV x Ai2 ci2), (31, riV y Ai3 ci3), (9, .pointer (some ⟨g4, 0, none⟩)), (10, .pointer (some ⟨g5, 0, none⟩)), (11, .pointer (some ⟨g6, 0, none⟩)), (12, .pointer (some ⟨g7, 0, none⟩)), (33, zV x), (34, zV y), (35, .tuple #[zV g, zV u, zV v]), (32, .tuple #[zV g, zV u, zV v]), (36, zV g), (37, zV u), (38, zV v), (13, .pointer (some ⟨g8, 0, none⟩)), (14, .pointer (some ⟨g9, 0, none⟩)), (15, .pointer (some ⟨g10, 0, none⟩)), (75, .bool false), (76, zV g), (77, .int .i64 g.sign), (78, .bool false), (88, zV x), (89, zV g), (90, .tuple #[zV (x.fdiv g), zV (x.fmod g), .bool true]), (87, .tuple #[zV (x.fdiv g), zV (x.fmod g), .bool true]), (91, zV (x.fdiv g)), (92, zV (x.fmod g)), (93, .bool true), (16, .pointer (some ⟨g14, 0, none⟩)), (17, .pointer (some ⟨g15, 0, none⟩)), (95, zV y), (96, zV g), (97, .tuple #[zV (y.fdiv g), zV (y.fmod g), .bool true]), (94, .tuple #[zV (y.fdiv g), zV (y.fmod g), .bool true]), (98, zV (y.fdiv g)), (99, zV (y.fmod g)), (100, .bool true), (19, .pointer (some ⟨g16, 0, none⟩)), (20, .pointer (some ⟨g17, 0, none⟩)), (133, .bool true)]
      clear hG hN
      have hs := hs.go hw
      clear hw
      refine keeps_nil ?_
      show wpList _ _ _ _ _ _
      refine s_val ha (.bool true) fun ac ha => ?_
      refine wpList_nil ((x_normal ?_))
      refine wp_ret (ret_at ha hs rfl [.bool true] ⟨rfl, trivial⟩ ?_)
      exact ⟨rfl, hs.ext⟩
    ·
      have phb18 := of_decide_eq_false hb18
      rcases Bool.eq_false_or_eq_true (decide (u = 0)) with hb20 | hb20
      ·
        have phb20 := of_decide_eq_true hb20
        refine region_sp ha 33 [.eq (zV (x.fmod g)), .eq (.int .i64 0), .eq (.bool true), .eq (.bool true), .eq (zV (y.fmod g)), .eq (.int .i64 0), .eq (.bool true), .eq (.bool true), .eq (.bool true), .eq (zV (x.fdiv g)), .eq (zV (y.fdiv g)), .eq (nV 1), .eq (.string (⟨#[49]⟩)), .eq (.bool true), .eq (.bool true), .eq (.bool true), .eq (zV y), .eq (.int .i64 y.sign), .eq (.bool false), .eq (.bool false), .eq (zV u), .eq (.int .i64 0), .eq (.bool true), .eq (.bool true), .eq (zV u), .eq (zV (y.fdiv g)), .eq (nV ((y.fdiv g).natAbs)), .eq (zV (((y.fdiv g).natAbs : Nat) : Int)), .eq (.int .i64 (-1)), .eq (.bool true), .eq (.bool true), .eq (.bool true), .eq (.bool true)] [] [] (fun _ hb => by cases hb)
          ⟨d_load hs 2, d_call (fun _ hw => zsign0 (of_decide_eq_true (decide_eq_true (fmod_zero_of_dvd (gcd_parts hgG (of_decide_eq_false hb11)).1))) _), d_val, d_val, d_load hs 0, d_call (fun _ hw => zsign0 (of_decide_eq_true (decide_eq_true (fmod_zero_of_dvd (gcd_parts hgG (of_decide_eq_false hb11)).2.1))) _), d_val, d_val, d_val, d_load hs 3, d_load hs 1, d_call (fun _ hw => zgcd_eq (hx.zfdiv g) (hy.zfdiv g) (gcd_parts hgG (of_decide_eq_false hb11)).2.2 _ (htab.ext (hs.go hw).ext) (by omega)), d_call (fun _ hw => ctext_dig (n := 1) (by decide) rfl _), d_val, d_val, d_val, d_load hs 9, d_call (fun _ hw => zsign hy _ (by omega)), d_bool (b := (y.sign == 0)) (sgn_ne hb18), d_val, d_load hs 5, d_call (fun _ hw => zsign0 (of_decide_eq_true hb20) _), d_val, d_val, d_load hs 5, d_load hs 1, d_call (fun _ hw => zabs (y.fdiv g) _), d_call (fun _ hw => from_any false (hy.zfdiv g) (by omega) _), d_call (fun _ hw => zcmp_lt hu (Sm.cast (hy.zfdiv g)) (hlt (of_decide_eq_false hb18) (of_decide_eq_false hb11)) _ (by omega)), d_val, d_val, d_val, d_val, trivial⟩ ?_
        intro vv wd1 ac hw hG hN ha
        have ha := ha.sub [(0, .slice A1 l0.length c1), (1, .slice A2 l1.length c2), (2, .bool b2), (3, .bool b3), (8, .bool false), (23, .slice A1 l0.length c1), (24, .slice A2 l1.length c2), (25, .bool b2), (26, .bool b3), (27, .tuple #[zV x, zV y, riV x Ai2 ci2, riV y Ai3 ci3]), (22, .tuple #[zV x, zV y, riV x Ai2 ci2, riV y Ai3 ci3]), (28, zV x), (29, zV y), (30, riV x Ai2 ci2), (31, riV y Ai3 ci3), (9, .pointer (some ⟨g4, 0, none⟩)), (10, .pointer (some ⟨g5, 0, none⟩)), (11, .pointer (some ⟨g6, 0, none⟩)), (12, .pointer (some ⟨g7, 0, none⟩)), (33, zV x), (34, zV y), (35, .tuple #[zV g, zV u, zV v]), (32, .tuple #[zV g, zV u, zV v]), (36, zV g), (37, zV u), (38, zV v), (13, .pointer (some ⟨g8, 0, none⟩)), (14, .pointer (some ⟨g9, 0, none⟩)), (15, .pointer (some ⟨g10, 0, none⟩)), (75, .bool false), (76, zV g), (77, .int .i64 g.sign), (78, .bool false), (88, zV x), (89, zV g), (90, .tuple #[zV (x.fdiv g), zV (x.fmod g), .bool true]), (87, .tuple #[zV (x.fdiv g), zV (x.fmod g), .bool true]), (91, zV (x.fdiv g)), (92, zV (x.fmod g)), (93, .bool true), (16, .pointer (some ⟨g14, 0, none⟩)), (17, .pointer (some ⟨g15, 0, none⟩)), (95, zV y), (96, zV g), (97, .tuple #[zV (y.fdiv g), zV (y.fmod g), .bool true]), (94, .tuple #[zV (y.fdiv g), zV (y.fmod g), .bool true]), (98, zV (y.fdiv g)), (99, zV (y.fmod g)), (100, .bool true), (19, .pointer (some ⟨g16, 0, none⟩)), (20, .pointer (some ⟨g17, 0, none⟩)), (133, .bool true)]
        clear hG hN
        have hs := hs.go hw
        clear hw
        refine keeps_nil ?_
        show wpList _ _ _ _ _ _
        refine s_val ha (.bool true) fun ac ha => ?_
        refine wpList_nil ((x_normal ?_))
        refine wp_ret (ret_at ha hs rfl [.bool true] ⟨rfl, trivial⟩ ?_)
        exact ⟨rfl, hs.ext⟩
      ·
        have phb20 := of_decide_eq_false hb20
        refine region_sp ha 33 [.eq (zV (x.fmod g)), .eq (.int .i64 0), .eq (.bool true), .eq (.bool true), .eq (zV (y.fmod g)), .eq (.int .i64 0), .eq (.bool true), .eq (.bool true), .eq (.bool true), .eq (zV (x.fdiv g)), .eq (zV (y.fdiv g)), .eq (nV 1), .eq (.string (⟨#[49]⟩)), .eq (.bool true), .eq (.bool true), .eq (.bool true), .eq (zV y), .eq (.int .i64 y.sign), .eq (.bool false), .eq (.bool false), .eq (zV u), .eq (.int .i64 u.sign), .eq (.bool true), .eq (.bool true), .eq (zV u), .eq (zV (y.fdiv g)), .eq (nV ((y.fdiv g).natAbs)), .eq (zV (((y.fdiv g).natAbs : Nat) : Int)), .eq (.int .i64 (-1)), .eq (.bool true), .eq (.bool true), .eq (.bool true), .eq (.bool true)] [] [] (fun _ hb => by cases hb)
          ⟨d_load hs 2, d_call (fun _ hw => zsign0 (of_decide_eq_true (decide_eq_true (fmod_zero_of_dvd (gcd_parts hgG (of_decide_eq_false hb11)).1))) _), d_val, d_val, d_load hs 0, d_call (fun _ hw => zsign0 (of_decide_eq_true (decide_eq_true (fmod_zero_of_dvd (gcd_parts hgG (of_decide_eq_false hb11)).2.1))) _), d_val, d_val, d_val, d_load hs 3, d_load hs 1, d_call (fun _ hw => zgcd_eq (hx.zfdiv g) (hy.zfdiv g) (gcd_parts hgG (of_decide_eq_false hb11)).2.2 _ (htab.ext (hs.go hw).ext) (by omega)), d_call (fun _ hw => ctext_dig (n := 1) (by decide) rfl _), d_val, d_val, d_val, d_load hs 9, d_call (fun _ hw => zsign hy _ (by omega)), d_bool (b := (y.sign == 0)) (sgn_ne hb18), d_val, d_load hs 5, d_call (fun _ hw => zsign hu _ (by omega)), d_bool (b := decide (u.sign ≥ 0)) (sgn_ge (hub (of_decide_eq_false hb18))), d_val, d_load hs 5, d_load hs 1, d_call (fun _ hw => zabs (y.fdiv g) _), d_call (fun _ hw => from_any false (hy.zfdiv g) (by omega) _), d_call (fun _ hw => zcmp_lt hu (Sm.cast (hy.zfdiv g)) (hlt (of_decide_eq_false hb18) (of_decide_eq_false hb11)) _ (by omega)), d_val, d_val, d_val, d_val, trivial⟩ ?_
        intro vv wd1 ac hw hG hN ha
        have ha := ha.sub [(0, .slice A1 l0.length c1), (1, .slice A2 l1.length c2), (2, .bool b2), (3, .bool b3), (8, .bool false), (23, .slice A1 l0.length c1), (24, .slice A2 l1.length c2), (25, .bool b2), (26, .bool b3), (27, .tuple #[zV x, zV y, riV x Ai2 ci2, riV y Ai3 ci3]), (22, .tuple #[zV x, zV y, riV x Ai2 ci2, riV y Ai3 ci3]), (28, zV x), (29, zV y), (30, riV x Ai2 ci2), (31, riV y Ai3 ci3), (9, .pointer (some ⟨g4, 0, none⟩)), (10, .pointer (some ⟨g5, 0, none⟩)), (11, .pointer (some ⟨g6, 0, none⟩)), (12, .pointer (some ⟨g7, 0, none⟩)), (33, zV x), (34, zV y), (35, .tuple #[zV g, zV u, zV v]), (32, .tuple #[zV g, zV u, zV v]), (36, zV g), (37, zV u), (38, zV v), (13, .pointer (some ⟨g8, 0, none⟩)), (14, .pointer (some ⟨g9, 0, none⟩)), (15, .pointer (some ⟨g10, 0, none⟩)), (75, .bool false), (76, zV g), (77, .int .i64 g.sign), (78, .bool false), (88, zV x), (89, zV g), (90, .tuple #[zV (x.fdiv g), zV (x.fmod g), .bool true]), (87, .tuple #[zV (x.fdiv g), zV (x.fmod g), .bool true]), (91, zV (x.fdiv g)), (92, zV (x.fmod g)), (93, .bool true), (16, .pointer (some ⟨g14, 0, none⟩)), (17, .pointer (some ⟨g15, 0, none⟩)), (95, zV y), (96, zV g), (97, .tuple #[zV (y.fdiv g), zV (y.fmod g), .bool true]), (94, .tuple #[zV (y.fdiv g), zV (y.fmod g), .bool true]), (98, zV (y.fdiv g)), (99, zV (y.fmod g)), (100, .bool true), (19, .pointer (some ⟨g16, 0, none⟩)), (20, .pointer (some ⟨g17, 0, none⟩)), (133, .bool true)]
        clear hG hN
        have hs := hs.go hw
        clear hw
        refine keeps_nil ?_
        show wpList _ _ _ _ _ _
        refine s_val ha (.bool true) fun ac ha => ?_
        refine wpList_nil ((x_normal ?_))
        refine wp_ret (ret_at ha hs rfl [.bool true] ⟨rfl, trivial⟩ ?_)
        exact ⟨rfl, hs.ext⟩
  end Go.Proofs.YtiloialbglfplaaDoor

namespace Go.Proofs.YtiloialbglfplaaDoor
open Go.ChangeShapes Go.WideShapes Go.ChangeAt Go.RowKit

theorem wholeBezout_tab64 {W : World} (h : laidMetH Tryd.prog Rows.wholeBezoutRow.laid W) : Tab64 W := by
  have h1 : laidMet Tryd.prog [("math/bits.deBruijn32tab", Rows.laid_math_bits_deBruijn32tab), ("math/bits.deBruijn64tab", Rows.laid_math_bits_deBruijn64tab), ("internal/strconv.uint64pow10", Rows.laid_internal_strconv_uint64pow10)] W := h
  exact tab64_head (by kernel_rfl) h1.tail
set_option maxRecDepth 100000 in
theorem wholeBezout_contract (H : Type) (enc : TypeId × Value → H) (W : World) (base : Nat) (args : Array Value) (ds gs : List (DataW H)) (before : List MemPlace)
    (hval : ∀ (j : Nat) t v, Tryd.f7.params[j]? = some t → args[j]? = some v → Value.okWide Tryd.prog W .any base t v)
    (hW : DataW.Whole enc Tryd.prog Tryd.f7.params.toList Rows.wholeBezoutSpec.vars false W args.toList ds gs before) (htab64 : Tab64 W) :
    Calls Tryd.prog 7 args W fun e W' => ∃ v, e = .returned v ∧ Rows.wholeBezoutSpec.post enc Tryd.prog Tryd.f7 false true false false W args v W' := by
  have hW' := hW
  obtain ⟨p, q, hA0, hV, rfl, hfz, hnd⟩ := hW
  have hA : DataW.TrodAll enc Tryd.prog W 0 (fun _ => true) true Tryd.f7.params.toList args.toList ds p := hA0
  rw [Tryd.params7] at hA hval
  obtain ⟨v0, vs0, d0, ds0, p0, q0, hargs, rfl, rfl, h0, r0⟩ := trodAll_cons hA
  obtain ⟨v1, vs1, d1, ds1, p1, q1, rfl, rfl, rfl, h1, r1⟩ := trodAll_cons r0
  obtain ⟨v2, vs2, d2, ds2, p2, q2, rfl, rfl, rfl, h2, r2⟩ := trodAll_cons r1
  obtain ⟨v3, vs3, d3, ds3, p3, q3, rfl, rfl, rfl, h3, r3⟩ := trodAll_cons r2
  obtain ⟨rfl, rfl, rfl⟩ := trodAll_nil r3
  obtain rfl : args = #[v0, v1, v2, v3] := by cases args; simp_all
  obtain ⟨rfl, rfl⟩ := trodVars_none hV
  obtain ⟨l0, s0⟩ := open_bytes (hval 0 22 v0 rfl rfl) h0
  obtain ⟨l1, s1⟩ := open_bytes (hval 1 22 v1 rfl rfl) h1
  obtain ⟨c2, rfl, rfl, rfl⟩ := open_bool Tryd.underlying4 (hval 2 4 v2 rfl rfl) h2
  obtain ⟨c3, rfl, rfl, rfl⟩ := open_bool Tryd.underlying4 (hval 3 4 v3 rfl rfl) h3
  clear hA0
  refine (wholeBezout_any l0 v0 l1 v1 c2 c3 W htab64 s0 s1).mono fun e W' ⟨he, hg⟩ => ?_
  subst he
  exact ⟨_, rfl, law_post rfl rfl (fun t ht => by
    rw [Tryd.params7] at ht
    have hall : ([22, 22, 4, 4].all fun u => Tryd.prog.readableRec u && decide (u < Tryd.prog.types.size)) = true := by kernel_rfl
    have := List.all_eq_true.1 hall t (by simpa using ht)
    simpa using this) hW' ⟨rfl, rfl, rfl⟩ hg⟩

theorem wholeBezout_met (os : Os) : laidMet Tryd.prog Rows.wholeBezoutRow.laid ((laidWorld os).forCall (fun _ _ => 0) ⟨#[], #[.slice none 0 0, .slice none 0 0, .bool false, .bool false], []⟩).memory :=
  laidMet_of_run' 8 (by kernel_rfl) (by kernel_rfl)
theorem wholeBezout_reads (os : Os) {H : Type} (enc : TypeId × Value → H) : ∃ places, DataW.whole enc Tryd.prog ((laidWorld os).forCall (fun _ _ => 0) ⟨#[], #[.slice none 0 0, .slice none 0 0, .bool false, .bool false], []⟩).memory Tryd.f7.params.toList Rows.wholeBezoutSpec.vars false (#[.slice none 0 0, .slice none 0 0, .bool false, .bool false] : Array Value).toList 8 = some ([.nil, .nil, .lit (.bool false), .lit (.bool false)], [], places) :=
  ⟨[], by kernel_rfl⟩

set_option maxRecDepth 100000 in
theorem wholeBezout_lifted (os : Os) (started : os.Started) (H : Type) (enc : TypeId × Value → H) (F : Stop.Interp) :
    ReturnsInHanded {} Tryd.checked os 7 .any ((OpenSpec.ofChange Rows.wholeBezoutSpec).preRow enc Tryd.prog Tryd.f7 Rows.wholeBezoutRow.domain false Rows.wholeBezoutRow.laid) (((OpenSpec.ofChange Rows.wholeBezoutSpec).at F).post enc Tryd.prog Tryd.f7 false true false false) := by
  obtain ⟨places, hx⟩ := wholeBezout_reads os enc
  refine returnsInHanded_of_row (C := Tryd.checked) (s := OpenSpec.ofChange Rows.wholeBezoutSpec) own started (by kernel_rfl) Tryd.func7
    (witness_row_at (enc := enc) (C := Tryd.checked) false (laidWorld os) #[.slice none 0 0, .slice none 0 0, .bool false, .bool false] rfl (by kernel_rfl) (by kernel_rfl) (by kernel_rfl)
      (OpenSpec.preRow_of_cond 8 hx (by kernel_rfl) (fun k hk => by cases hk) (by kernel_rfl) (wholeBezout_met os))) ?_
  intro W base args ds gs before hval hW _ _ _ hL _ _
  exact wholeBezout_contract H enc W base args ds gs before hval hW (wholeBezout_tab64 hL)

theorem wholeBezout_holds : Rows.WholeBezoutSaid :=
  OpenClaim.holds_of_cond 7 Tryd.f7 rfl rfl rfl rfl rfl rfl rfl ⟨rfl, rfl, rfl, rfl, rfl⟩ rfl rfl rfl rfl rfl (by kernel_rfl) Tryd.func7 (by kernel_rfl)
    (of_decide_eq_true (by kernel_rfl)) (by unfold Func.isWrapper; first | (rw [if_pos (by decide +kernel)]; kernel_rfl) | (rw [if_neg (by decide +kernel)]; exact ⟨rfl, rfl⟩))
    (fun os started H enc _ F => by rw [OpenClaim.pre_eq_preRow]; exact wholeBezout_lifted os started H enc F)

theorem wholeBezout_plain (f : FuncId) (fn : Func) (hf : Tryd.pinned.checked.prog.funcNamed "abaculus/abaculuslaw2.WholeBezout" = some f) (hfn : Tryd.pinned.checked.prog.funcs[f]? = some fn) :
    false = Tryd.pinned.checked.prog.looks [] ∧ ∀ (j : Nat) t, fn.params[j]? = some t → Tryd.pinned.checked.prog.wantsStandIn t = false := by
  obtain rfl : f = 7 := Option.some.inj ((show Tryd.prog.funcNamed "abaculus/abaculuslaw2.WholeBezout" = some 7 by kernel_rfl).symm.trans hf) |>.symm
  obtain rfl : fn = Tryd.f7 := (Option.some.inj (Tryd.func7.symm.trans hfn)).symm
  refine ⟨by kernel_rfl, fun j t ht => ?_⟩
  rw [Tryd.params7] at ht
  have hm : t ∈ [22, 22, 4, 4] := by simpa using Array.mem_of_getElem? ht
  have hall : ([22, 22, 4, 4].all fun u => !Tryd.prog.wantsStandIn u) = true := by kernel_rfl
  exact (show Tryd.prog.wantsStandIn t = false by simpa using List.all_eq_true.1 hall t hm)

theorem wholeBezoutCard_holds : Rows.WholeBezoutCardSaid :=
  Claim7.holds_tied_plain_at .later [] _ _ _ _ wholeBezout_holds (fun _ h => by cases h) (by kernel_rfl) (fun _ h => by cases h) wholeBezout_row_tie rfl ⟨rfl, rfl⟩ (by kernel_rfl) rfl wholeBezout_plain (by kernel_rfl)
#print axioms wholeBezoutCard_holds
end Go.Proofs.YtiloialbglfplaaDoor
