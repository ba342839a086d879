/- The law WholeGcd: its walk. (Printed by walks/zq.py.) The law WholeGcd of chapter 2 is true for every input: Gcd and Bezout agree with the reference. -/
import Derived.Test.YtiloialbglfplaaGreatDoorCards
import Derived.Test.YtiloialbglfplaaGreatDoorB10
namespace Go.Proofs.YtiloialbglfplaaGreatDoor
open Go.RowKit

theorem Sm.take6 (l : List UInt8) : Sm 48 (beN (l.take 6)) := beN_take l 6

set_option maxHeartbeats 8000000 in
theorem wholeGcd_any (l0 : List UInt8) (v0 : Value) (l1 : List UInt8) (v1 : Value) (b2 b3 : Bool) (l4 : List UInt8) (v4 : Value) (w : World) (htab : Tab64 w) (s0 : SlB l0 v0 w) (s1 : SlB l1 v1 w) (s4 : SlB l4 v4 w) : Calls Tryz.prog 9 #[v0, v1, .bool b2, .bool b3, v4] w (Ret (.bool true) w) := by
  obtain ⟨A1, c1, rfl⟩ := s0.form
  obtain ⟨A2, c2, rfl⟩ := s1.form
  have HT := fun W h1 h2 => two2 l0 l1 (.slice A1 l0.length c1) (.slice A2 l1.length c2) b2 b3 W h1 h2
  have hx : Sm 320 (sg b2 (beN (l0.take 40))).natAbs := by rw [sg_abs]; exact Sm.take40 l0
  have hy : Sm 320 (sg b3 (beN (l1.take 40))).natAbs := by rw [sg_abs]; exact Sm.take40 l1
  generalize sg b2 (beN (l0.take 40)) = x at *
  generalize sg b3 (beN (l1.take 40)) = y at *
  obtain ⟨A4, c4, rfl⟩ := s4.form
  have hs := St.start w
  have hs := hs.add8 s0 (by kernel_rfl)
  have hs := hs.add8 s1 (by kernel_rfl)
  have hs := hs.add8 s4 (by kernel_rfl)
  refine enter Tryz.func9 rfl Tryz.ntmps9 (by kernel_rfl) fun ac ha => ?_
  refine wp_seq ?_
  refine wp_region_lit ?_
  refine s_val ha (.bool false) fun ac ha => ?_
  refine wpList_nil ((x_normal ?_))
  refine wp_seq ?_
  refine wp_region_lit ?_
  refine s_val ha (.slice A1 l0.length c1) fun ac ha => ?_
  refine s_val ha (.slice A2 l1.length c2) fun ac ha => ?_
  refine s_val ha (.bool b2) fun ac ha => ?_
  refine s_val ha (.bool b3) fun ac ha => ?_
  refine s_callP ha hs (HT _ (hs.get 2 rfl) (hs.get 1 rfl)) fun u ac wd hp ha hs => ?_
  obtain ⟨x1, y1, rfl, p1, q1⟩ := hp
  obtain ⟨Ai2, ci2, rfl, r2⟩ := p1
  have hs := hs.add32 r2 (by kernel_rfl)
  obtain ⟨Ai3, ci3, rfl, r3⟩ := q1
  have hs := hs.add32 r3 (by kernel_rfl)
  refine s_val ha (.tuple #[zV x, zV y, riV x Ai2 ci2, riV y Ai3 ci3]) fun ac ha => ?_
  refine s_val ha (zV x) fun ac ha => ?_
  refine s_val ha (zV y) fun ac ha => ?_
  refine s_val ha (riV x Ai2 ci2) fun ac ha => ?_
  refine s_val ha (riV y Ai3 ci3) fun ac ha => ?_
  refine s_alloc ha hs [.bool false, .int .u64 0, .string (⟨#[]⟩)] fun g4 ac wd ha hs => ?_
  refine s_alloc ha hs [.bool false, .int .u64 0, .string (⟨#[]⟩)] fun g5 ac wd ha hs => ?_
  refine s_alloc ha hs [.bool false, .slice none 0 0] fun g6 ac wd ha hs => ?_
  refine s_alloc ha hs [.bool false, .slice none 0 0] fun g7 ac wd ha hs => ?_
  refine s_store ha hs 3 _ fun ac wd ha hs => ?_
  refine s_store ha hs 2 _ fun ac wd ha hs => ?_
  refine s_store ha hs 1 _ fun ac wd ha hs => ?_
  refine s_store ha hs 0 _ fun ac wd ha hs => ?_
  refine wpList_nil ((x_normal ?_))
  refine wp_seq ?_
  refine wp_seq ?_
  refine wp_region_lit ?_
  refine s_val ha (.slice A4 l4.length c4) fun ac ha => ?_
  refine s_callP ha hs (few_any l4 _ 6 (by omega) _ (hs.get 2 rfl)) fun u ac wd hp ha hs => ?_
  obtain ⟨Ai8, ci8, rfl⟩ := hp.form
  have hs := hs.add8 hp (by kernel_rfl)
  refine s_callP ha hs (refFrom_any (l4.take 6) _ _ (by simp; omega) (hs.get 0 rfl)) fun u ac wd hp ha hs => ?_
  obtain ⟨Ai9, ci9, rfl⟩ := hp.form
  have hs := hs.add32 hp (by kernel_rfl)
  refine s_callP ha hs (ri_any false _ (hs.get 0 rfl)) fun u ac wd hp ha hs => ?_
  obtain ⟨Ai10, ci10, rfl, r10⟩ := hp
  have hs := hs.add32 r10 (by kernel_rfl)
  refine s_alloc ha hs [.bool false, .slice none 0 0] fun g11 ac wd ha hs => ?_
  refine s_store ha hs 0 _ fun ac wd ha hs => ?_
  refine wpList_nil ((x_normal ?_))
  refine wp_seq ?_
  refine wp_region_lit ?_
  refine s_val ha (.pointer (some ⟨g11, 1, none⟩)) fun ac ha => ?_
  refine s_load ha hs 0 (.slice Ai10 (nl (((beN (l4.take 6) : Nat) : Int).natAbs)) ci10) fun ac ha => ?_
  refine s_val ha (.int .i64 ((nl (((beN (l4.take 6) : Nat) : Int).natAbs) : Nat) : Int)) fun ac ha => ?_
  rcases Bool.eq_false_or_eq_true (decide (((nl (((beN (l4.take 6) : Nat) : Int).natAbs) : Nat) : Int) > 0)) with hb12 | hb12
  ·
    have phb12 := of_decide_eq_true hb12
    refine s_bool ha (b := decide (((nl (((beN (l4.take 6) : Nat) : Int).natAbs) : Nat) : Int) > 0)) true hb12 fun ac ha => ?_
    refine wpList_nil ((x_normal ?_))
    refine r_true ha ?_
    refine wp_seq ?_
    refine wp_region_lit ?_
    refine s_load ha hs 2 (riV x Ai2 ci2) fun ac ha => ?_
    refine s_load ha hs 0 (riV ((beN (l4.take 6) : Nat) : Int) Ai10 ci10) fun ac ha => ?_
    refine s_callP ha hs (rimul hx (Sm.cast (Sm.take6 l4)) _ (RI.mk (hs.get 4 rfl)) (RI.mk (hs.get 0 rfl)) (by omega)) fun u ac wd hp ha hs => ?_
    obtain ⟨Ai13, ci13, rfl, r13⟩ := hp
    have hs := hs.add32 r13 (by kernel_rfl)
    refine s_store ha hs 2 _ fun ac wd ha hs => ?_
    refine wpList_nil ((x_normal ?_))
    refine wp_seq ?_
    refine wp_region_lit ?_
    refine s_load ha hs 1 (riV y Ai3 ci3) fun ac ha => ?_
    refine s_load ha hs 0 (riV ((beN (l4.take 6) : Nat) : Int) Ai10 ci10) fun ac ha => ?_
    refine s_callP ha hs (rimul hy (Sm.cast (Sm.take6 l4)) _ (RI.mk (hs.get 4 rfl)) (RI.mk (hs.get 1 rfl)) (by omega)) fun u ac wd hp ha hs => ?_
    obtain ⟨Ai14, ci14, rfl, r14⟩ := hp
    have hs := hs.add32 r14 (by kernel_rfl)
    refine s_store ha hs 1 _ fun ac wd ha hs => ?_
    refine wpList_nil ((x_normal ?_))
    refine wp_seq ?_
    refine wp_region_lit ?_
    refine s_load ha hs 2 (riV (x * ((beN (l4.take 6) : Nat) : Int)) Ai13 ci13) fun ac ha => ?_
    refine s_call ha hs (zV (x * ((beN (l4.take 6) : Nat) : Int))) (chint (hx.zmul (Sm.cast (Sm.take6 l4))) _ (RI.mk (hs.get 1 rfl)) (by omega)) fun ac wd ha hs => ?_
    refine s_store ha hs 4 _ fun ac wd ha hs => ?_
    refine wpList_nil ((x_normal ?_))
    refine wp_region_lit ?_
    refine s_load ha hs 1 (riV (y * ((beN (l4.take 6) : Nat) : Int)) Ai14 ci14) fun ac ha => ?_
    refine s_call ha hs (zV (y * ((beN (l4.take 6) : Nat) : Int))) (chint (hy.zmul (Sm.cast (Sm.take6 l4))) _ (RI.mk (hs.get 0 rfl)) (by omega)) fun ac wd ha hs => ?_
    refine s_store ha hs 3 _ fun ac wd ha hs => ?_
    refine wpList_nil ((x_normal ?_))
    refine wp_seq ?_
    refine wp_region_lit ?_
    refine s_load ha hs 4 (zV (x * ((beN (l4.take 6) : Nat) : Int))) fun ac ha => ?_
    refine s_load ha hs 3 (zV (y * ((beN (l4.take 6) : Nat) : Int))) fun ac ha => ?_
    refine s_call ha hs (.tuple #[zV (bezG (x * ((beN (l4.take 6) : Nat) : Int)) (y * ((beN (l4.take 6) : Nat) : Int))), zV (bezX (x * ((beN (l4.take 6) : Nat) : Int)) (y * ((beN (l4.take 6) : Nat) : Int))), zV (bezY (x * ((beN (l4.take 6) : Nat) : Int)) (y * ((beN (l4.take 6) : Nat) : Int)))]) (zbez (hx.zmul (Sm.cast (Sm.take6 l4))) (hy.zmul (Sm.cast (Sm.take6 l4))) _ (by omega)) fun ac wd ha hs => ?_
    refine s_val ha (.tuple #[zV (bezG (x * ((beN (l4.take 6) : Nat) : Int)) (y * ((beN (l4.take 6) : Nat) : Int))), zV (bezX (x * ((beN (l4.take 6) : Nat) : Int)) (y * ((beN (l4.take 6) : Nat) : Int))), zV (bezY (x * ((beN (l4.take 6) : Nat) : Int)) (y * ((beN (l4.take 6) : Nat) : Int)))]) fun ac ha => ?_
    refine s_val ha (zV (bezG (x * ((beN (l4.take 6) : Nat) : Int)) (y * ((beN (l4.take 6) : Nat) : Int)))) fun ac ha => ?_
    refine s_val ha (zV (bezX (x * ((beN (l4.take 6) : Nat) : Int)) (y * ((beN (l4.take 6) : Nat) : Int)))) fun ac ha => ?_
    refine s_val ha (zV (bezY (x * ((beN (l4.take 6) : Nat) : Int)) (y * ((beN (l4.take 6) : Nat) : Int)))) fun ac ha => ?_
    refine s_alloc ha hs [.bool false, .int .u64 0, .string (⟨#[]⟩)] fun g15 ac wd ha hs => ?_
    refine s_alloc ha hs [.bool false, .int .u64 0, .string (⟨#[]⟩)] fun g16 ac wd ha hs => ?_
    refine s_alloc ha hs [.bool false, .int .u64 0, .string (⟨#[]⟩)] fun g17 ac wd ha hs => ?_
    refine s_store ha hs 2 _ fun ac wd ha hs => ?_
    refine s_store ha hs 1 _ fun ac wd ha hs => ?_
    refine s_store ha hs 0 _ fun ac wd ha hs => ?_
    refine wpList_nil ((x_normal ?_))
    refine wp_seq ?_
    refine wp_region_lit ?_
    refine s_load ha hs 5 (riV (x * ((beN (l4.take 6) : Nat) : Int)) Ai13 ci13) fun ac ha => ?_
    refine s_load ha hs 4 (riV (y * ((beN (l4.take 6) : Nat) : Int)) Ai14 ci14) fun ac ha => ?_
    refine s_callP ha hs (ribez (hx.zmul (Sm.cast (Sm.take6 l4))) (hy.zmul (Sm.cast (Sm.take6 l4))) _ (RI.mk (hs.get 1 rfl)) (RI.mk (hs.get 0 rfl)) (by omega)) fun u ac wd hp ha hs => ?_
    obtain ⟨x18, y18, z18, rfl, p18, q18, o18⟩ := hp
    obtain ⟨Ai19, ci19, rfl, r19⟩ := p18
    have hs := hs.add32 r19 (by kernel_rfl)
    obtain ⟨Ai20, ci20, rfl, r20⟩ := q18
    have hs := hs.add32 r20 (by kernel_rfl)
    obtain ⟨Ai21, ci21, rfl, r21⟩ := o18
    have hs := hs.add32 r21 (by kernel_rfl)
    refine s_val ha (.tuple #[riV (bezG (x * ((beN (l4.take 6) : Nat) : Int)) (y * ((beN (l4.take 6) : Nat) : Int))) Ai19 ci19, riV (bezX (x * ((beN (l4.take 6) : Nat) : Int)) (y * ((beN (l4.take 6) : Nat) : Int))) Ai20 ci20, riV (bezY (x * ((beN (l4.take 6) : Nat) : Int)) (y * ((beN (l4.take 6) : Nat) : Int))) Ai21 ci21]) fun ac ha => ?_
    refine s_val ha (riV (bezG (x * ((beN (l4.take 6) : Nat) : Int)) (y * ((beN (l4.take 6) : Nat) : Int))) Ai19 ci19) fun ac ha => ?_
    refine s_val ha (riV (bezX (x * ((beN (l4.take 6) : Nat) : Int)) (y * ((beN (l4.take 6) : Nat) : Int))) Ai20 ci20) fun ac ha => ?_
    refine s_val ha (riV (bezY (x * ((beN (l4.take 6) : Nat) : Int)) (y * ((beN (l4.take 6) : Nat) : Int))) Ai21 ci21) fun ac ha => ?_
    refine s_alloc ha hs [.bool false, .slice none 0 0] fun g22 ac wd ha hs => ?_
    refine s_alloc ha hs [.bool false, .slice none 0 0] fun g23 ac wd ha hs => ?_
    refine s_alloc ha hs [.bool false, .slice none 0 0] fun g24 ac wd ha hs => ?_
    refine s_store ha hs 2 _ fun ac wd ha hs => ?_
    refine s_store ha hs 1 _ fun ac wd ha hs => ?_
    refine s_store ha hs 0 _ fun ac wd ha hs => ?_
    refine wpList_nil ((x_normal ?_))
    refine wp_seq ?_
    refine region_sp ha 29 [.eq (.bool true), .eq (.bool true), .eq (zV (bezG (x * ((beN (l4.take 6) : Nat) : Int)) (y * ((beN (l4.take 6) : Nat) : Int)))), .eq (riV (bezG (x * ((beN (l4.take 6) : Nat) : Int)) (y * ((beN (l4.take 6) : Nat) : Int))) Ai19 ci19), .eq (.bool true), .eq (.bool true), .eq (.bool true), .eq (zV (bezX (x * ((beN (l4.take 6) : Nat) : Int)) (y * ((beN (l4.take 6) : Nat) : Int)))), .eq (riV (bezX (x * ((beN (l4.take 6) : Nat) : Int)) (y * ((beN (l4.take 6) : Nat) : Int))) Ai20 ci20), .eq (.bool true), .eq (.bool true), .eq (.bool true), .eq (zV (bezY (x * ((beN (l4.take 6) : Nat) : Int)) (y * ((beN (l4.take 6) : Nat) : Int)))), .eq (riV (bezY (x * ((beN (l4.take 6) : Nat) : Int)) (y * ((beN (l4.take 6) : Nat) : Int))) Ai21 ci21), .eq (.bool true), .eq (.bool true), .eq (.bool true), .eq (zV (x * ((beN (l4.take 6) : Nat) : Int))), .eq (zV (y * ((beN (l4.take 6) : Nat) : Int))), .eq (nV (Nat.gcd ((x * ((beN (l4.take 6) : Nat) : Int)).natAbs) ((y * ((beN (l4.take 6) : Nat) : Int)).natAbs))), .pr (R32 (Nat.gcd ((x * ((beN (l4.take 6) : Nat) : Int)).natAbs) ((y * ((beN (l4.take 6) : Nat) : Int)).natAbs))) fun _ _ _ e h => h.ext e, .eq (.pointer (some ⟨g6, 1, none⟩)), .eq (.slice Ai13 (nl ((x * ((beN (l4.take 6) : Nat) : Int)).natAbs)) ci13), .eq (.pointer (some ⟨g7, 1, none⟩)), .eq (.slice Ai14 (nl ((y * ((beN (l4.take 6) : Nat) : Int)).natAbs)) ci14), .pr (R32 (Nat.gcd ((x * ((beN (l4.take 6) : Nat) : Int)).natAbs) ((y * ((beN (l4.take 6) : Nat) : Int)).natAbs))) fun _ _ _ e h => h.ext e, .eq (.int .i64 0), .eq (.bool true), .eq (.bool true)] [] [] (fun _ hb => by cases hb)
      ⟨d_call (fun _ hw => known2 _), d_val, d_load hs 5, d_load hs 2, d_call (fun _ hw => is2 ((hx.zmul (Sm.cast (Sm.take6 l4))).bezG (hy.zmul (Sm.cast (Sm.take6 l4)))) _ (RI.mk ((hs.go hw).get 2 rfl)) (by omega)), d_val, d_val, d_load hs 4, d_load hs 1, d_call (fun _ hw => is2 (Sm.bezX (a := x * ((beN (l4.take 6) : Nat) : Int)) (hy.zmul (Sm.cast (Sm.take6 l4)))) _ (RI.mk ((hs.go hw).get 1 rfl)) (by omega)), d_val, d_val, d_load hs 3, d_load hs 0, d_call (fun _ hw => is2 ((hx.zmul (Sm.cast (Sm.take6 l4))).bezY (hy.zmul (Sm.cast (Sm.take6 l4)))) _ (RI.mk ((hs.go hw).get 0 rfl)) (by omega)), d_val, d_val, d_load hs 10, d_load hs 9, d_call (fun _ hw => zgcd (hx.zmul (Sm.cast (Sm.take6 l4))) (hy.zmul (Sm.cast (Sm.take6 l4))) _ (htab.ext (hs.go hw).ext) (by omega)), d_callP (fun u => #[nV (Nat.gcd ((x * ((beN (l4.take 6) : Nat) : Int)).natAbs) ((y * ((beN (l4.take 6) : Nat) : Int)).natAbs))]) (fun u _ hw hj => coutnat (show Sm _ (Nat.gcd ((x * ((beN (l4.take 6) : Nat) : Int)).natAbs) ((y * ((beN (l4.take 6) : Nat) : Int)).natAbs)) by have h := Sm.bezG (hx.zmul (Sm.cast (Sm.take6 l4))) (hy.zmul (Sm.cast (Sm.take6 l4))); rw [bezG_eq, Int.natAbs_natCast] at h; exact h) _ (by omega)), d_val, d_load hs 8, d_val, d_load hs 7, d_callP (fun u => #[.slice Ai13 (nl ((x * ((beN (l4.take 6) : Nat) : Int)).natAbs)) ci13, .slice Ai14 (nl ((y * ((beN (l4.take 6) : Nat) : Int)).natAbs)) ci14]) (fun u _ hw hj => refgcd (hx.zmul (Sm.cast (Sm.take6 l4))) (hy.zmul (Sm.cast (Sm.take6 l4))) _ ((hs.go hw).get 4 rfl) ((hs.go hw).get 3 rfl) (by omega)), d_callU (fun u => #[u 20, u 25]) (fun u _ hw hj => crcmp_eq (show Sm _ (Nat.gcd ((x * ((beN (l4.take 6) : Nat) : Int)).natAbs) ((y * ((beN (l4.take 6) : Nat) : Int)).natAbs)) by have h := Sm.bezG (hx.zmul (Sm.cast (Sm.take6 l4))) (hy.zmul (Sm.cast (Sm.take6 l4))); rw [bezG_eq, Int.natAbs_natCast] at h; exact h) (show Sm _ (Nat.gcd ((x * ((beN (l4.take 6) : Nat) : Int)).natAbs) ((y * ((beN (l4.take 6) : Nat) : Int)).natAbs)) by have h := Sm.bezG (hx.zmul (Sm.cast (Sm.take6 l4))) (hy.zmul (Sm.cast (Sm.take6 l4))); rw [bezG_eq, Int.natAbs_natCast] at h; exact h) rfl _ (hj 20 (by kernel_rfl)) (hj 25 (by kernel_rfl)) (by omega)), d_val, d_val, trivial⟩ ?_
    intro vv wd1 ac hw hG hN ha
    have ha := ha.sub [(0, .slice A1 l0.length c1), (1, .slice A2 l1.length c2), (2, .bool b2), (3, .bool b3), (4, .slice A4 l4.length c4), (10, .bool false), (23, .slice A1 l0.length c1), (24, .slice A2 l1.length c2), (25, .bool b2), (26, .bool b3), (27, .tuple #[zV x, zV y, riV x Ai2 ci2, riV y Ai3 ci3]), (22, .tuple #[zV x, zV y, riV x Ai2 ci2, riV y Ai3 ci3]), (28, zV x), (29, zV y), (30, riV x Ai2 ci2), (31, riV y Ai3 ci3), (11, .pointer (some ⟨g4, 0, none⟩)), (12, .pointer (some ⟨g5, 0, none⟩)), (13, .pointer (some ⟨g6, 0, none⟩)), (14, .pointer (some ⟨g7, 0, none⟩)), (32, .slice A4 l4.length c4), (33, .slice Ai8 ((l4.take 6).length) ci8), (34, .slice Ai9 (nl (beN (l4.take 6))) ci9), (35, riV ((beN (l4.take 6) : Nat) : Int) Ai10 ci10), (15, .pointer (some ⟨g11, 0, none⟩)), (36, .pointer (some ⟨g11, 1, none⟩)), (37, .slice Ai10 (nl (((beN (l4.take 6) : Nat) : Int).natAbs)) ci10), (38, .int .i64 ((nl (((beN (l4.take 6) : Nat) : Int).natAbs) : Nat) : Int)), (39, .bool true), (40, riV x Ai2 ci2), (41, riV ((beN (l4.take 6) : Nat) : Int) Ai10 ci10), (42, riV (x * ((beN (l4.take 6) : Nat) : Int)) Ai13 ci13), (43, riV y Ai3 ci3), (44, riV ((beN (l4.take 6) : Nat) : Int) Ai10 ci10), (45, riV (y * ((beN (l4.take 6) : Nat) : Int)) Ai14 ci14), (46, riV (x * ((beN (l4.take 6) : Nat) : Int)) Ai13 ci13), (47, zV (x * ((beN (l4.take 6) : Nat) : Int))), (48, riV (y * ((beN (l4.take 6) : Nat) : Int)) Ai14 ci14), (49, zV (y * ((beN (l4.take 6) : Nat) : Int))), (51, zV (x * ((beN (l4.take 6) : Nat) : Int))), (52, zV (y * ((beN (l4.take 6) : Nat) : Int))), (53, .tuple #[zV (bezG (x * ((beN (l4.take 6) : Nat) : Int)) (y * ((beN (l4.take 6) : Nat) : Int))), zV (bezX (x * ((beN (l4.take 6) : Nat) : Int)) (y * ((beN (l4.take 6) : Nat) : Int))), zV (bezY (x * ((beN (l4.take 6) : Nat) : Int)) (y * ((beN (l4.take 6) : Nat) : Int)))]), (50, .tuple #[zV (bezG (x * ((beN (l4.take 6) : Nat) : Int)) (y * ((beN (l4.take 6) : Nat) : Int))), zV (bezX (x * ((beN (l4.take 6) : Nat) : Int)) (y * ((beN (l4.take 6) : Nat) : Int))), zV (bezY (x * ((beN (l4.take 6) : Nat) : Int)) (y * ((beN (l4.take 6) : Nat) : Int)))]), (54, zV (bezG (x * ((beN (l4.take 6) : Nat) : Int)) (y * ((beN (l4.take 6) : Nat) : Int)))), (55, zV (bezX (x * ((beN (l4.take 6) : Nat) : Int)) (y * ((beN (l4.take 6) : Nat) : Int)))), (56, zV (bezY (x * ((beN (l4.take 6) : Nat) : Int)) (y * ((beN (l4.take 6) : Nat) : Int)))), (16, .pointer (some ⟨g15, 0, none⟩)), (17, .pointer (some ⟨g16, 0, none⟩)), (18, .pointer (some ⟨g17, 0, none⟩)), (58, riV (x * ((beN (l4.take 6) : Nat) : Int)) Ai13 ci13), (59, riV (y * ((beN (l4.take 6) : Nat) : Int)) Ai14 ci14), (60, .tuple #[riV (bezG (x * ((beN (l4.take 6) : Nat) : Int)) (y * ((beN (l4.take 6) : Nat) : Int))) Ai19 ci19, riV (bezX (x * ((beN (l4.take 6) : Nat) : Int)) (y * ((beN (l4.take 6) : Nat) : Int))) Ai20 ci20, riV (bezY (x * ((beN (l4.take 6) : Nat) : Int)) (y * ((beN (l4.take 6) : Nat) : Int))) Ai21 ci21]), (57, .tuple #[riV (bezG (x * ((beN (l4.take 6) : Nat) : Int)) (y * ((beN (l4.take 6) : Nat) : Int))) Ai19 ci19, riV (bezX (x * ((beN (l4.take 6) : Nat) : Int)) (y * ((beN (l4.take 6) : Nat) : Int))) Ai20 ci20, riV (bezY (x * ((beN (l4.take 6) : Nat) : Int)) (y * ((beN (l4.take 6) : Nat) : Int))) Ai21 ci21]), (61, riV (bezG (x * ((beN (l4.take 6) : Nat) : Int)) (y * ((beN (l4.take 6) : Nat) : Int))) Ai19 ci19), (62, riV (bezX (x * ((beN (l4.take 6) : Nat) : Int)) (y * ((beN (l4.take 6) : Nat) : Int))) Ai20 ci20), (63, riV (bezY (x * ((beN (l4.take 6) : Nat) : Int)) (y * ((beN (l4.take 6) : Nat) : Int))) Ai21 ci21), (19, .pointer (some ⟨g22, 0, none⟩)), (20, .pointer (some ⟨g23, 0, none⟩)), (21, .pointer (some ⟨g24, 0, none⟩)), (92, .bool true)]
    clear hG hN
    have hs := hs.go hw
    clear hw
    refine keeps_nil ?_
    show wpList _ _ _ _ _ _
    refine s_val ha (.bool true) fun ac ha => ?_
    refine wpList_nil ((x_normal ?_))
    refine wp_ret (ret_at ha hs rfl [.bool true] ⟨rfl, trivial⟩ ?_)
    exact ⟨rfl, hs.ext⟩
  ·
    have phb12 := of_decide_eq_false hb12
    refine s_bool ha (b := decide (((nl (((beN (l4.take 6) : Nat) : Int).natAbs) : Nat) : Int) > 0)) false hb12 fun ac ha => ?_
    refine wpList_nil ((x_normal ?_))
    refine r_false ha ?_
    refine wp_skip ((x_normal ?_))
    refine wp_seq ?_
    refine wp_region_lit ?_
    refine s_load ha hs 4 (zV x) fun ac ha => ?_
    refine s_load ha hs 3 (zV y) fun ac ha => ?_
    refine s_call ha hs (.tuple #[zV (bezG x y), zV (bezX x y), zV (bezY x y)]) (zbez hx hy _ (by omega)) fun ac wd ha hs => ?_
    refine s_val ha (.tuple #[zV (bezG x y), zV (bezX x y), zV (bezY x y)]) fun ac ha => ?_
    refine s_val ha (zV (bezG x y)) fun ac ha => ?_
    refine s_val ha (zV (bezX x y)) fun ac ha => ?_
    refine s_val ha (zV (bezY x y)) fun ac ha => ?_
    refine s_alloc ha hs [.bool false, .int .u64 0, .string (⟨#[]⟩)] fun g26 ac wd ha hs => ?_
    refine s_alloc ha hs [.bool false, .int .u64 0, .string (⟨#[]⟩)] fun g27 ac wd ha hs => ?_
    refine s_alloc ha hs [.bool false, .int .u64 0, .string (⟨#[]⟩)] fun g28 ac wd ha hs => ?_
    refine s_store ha hs 2 _ fun ac wd ha hs => ?_
    refine s_store ha hs 1 _ fun ac wd ha hs => ?_
    refine s_store ha hs 0 _ fun ac wd ha hs => ?_
    refine wpList_nil ((x_normal ?_))
    refine wp_seq ?_
    refine wp_region_lit ?_
    refine s_load ha hs 5 (riV x Ai2 ci2) fun ac ha => ?_
    refine s_load ha hs 4 (riV y Ai3 ci3) fun ac ha => ?_
    refine s_callP ha hs (ribez hx hy _ (RI.mk (hs.get 4 rfl)) (RI.mk (hs.get 3 rfl)) (by omega)) fun u ac wd hp ha hs => ?_
    obtain ⟨x29, y29, z29, rfl, p29, q29, o29⟩ := hp
    obtain ⟨Ai30, ci30, rfl, r30⟩ := p29
    have hs := hs.add32 r30 (by kernel_rfl)
    obtain ⟨Ai31, ci31, rfl, r31⟩ := q29
    have hs := hs.add32 r31 (by kernel_rfl)
    obtain ⟨Ai32, ci32, rfl, r32⟩ := o29
    have hs := hs.add32 r32 (by kernel_rfl)
    refine s_val ha (.tuple #[riV (bezG x y) Ai30 ci30, riV (bezX x y) Ai31 ci31, riV (bezY x y) Ai32 ci32]) fun ac ha => ?_
    refine s_val ha (riV (bezG x y) Ai30 ci30) fun ac ha => ?_
    refine s_val ha (riV (bezX x y) Ai31 ci31) fun ac ha => ?_
    refine s_val ha (riV (bezY x y) Ai32 ci32) fun ac ha => ?_
    refine s_alloc ha hs [.bool false, .slice none 0 0] fun g33 ac wd ha hs => ?_
    refine s_alloc ha hs [.bool false, .slice none 0 0] fun g34 ac wd ha hs => ?_
    refine s_alloc ha hs [.bool false, .slice none 0 0] fun g35 ac wd ha hs => ?_
    refine s_store ha hs 2 _ fun ac wd ha hs => ?_
    refine s_store ha hs 1 _ fun ac wd ha hs => ?_
    refine s_store ha hs 0 _ fun ac wd ha hs => ?_
    refine wpList_nil ((x_normal ?_))
    refine wp_seq ?_
    refine region_sp ha 29 [.eq (.bool true), .eq (.bool true), .eq (zV (bezG x y)), .eq (riV (bezG x y) Ai30 ci30), .eq (.bool true), .eq (.bool true), .eq (.bool true), .eq (zV (bezX x y)), .eq (riV (bezX x y) Ai31 ci31), .eq (.bool true), .eq (.bool true), .eq (.bool true), .eq (zV (bezY x y)), .eq (riV (bezY x y) Ai32 ci32), .eq (.bool true), .eq (.bool true), .eq (.bool true), .eq (zV x), .eq (zV y), .eq (nV (Nat.gcd x.natAbs y.natAbs)), .pr (R32 (Nat.gcd x.natAbs y.natAbs)) fun _ _ _ e h => h.ext e, .eq (.pointer (some ⟨g6, 1, none⟩)), .eq (.slice Ai2 (nl x.natAbs) ci2), .eq (.pointer (some ⟨g7, 1, none⟩)), .eq (.slice Ai3 (nl y.natAbs) ci3), .pr (R32 (Nat.gcd x.natAbs y.natAbs)) fun _ _ _ e h => h.ext e, .eq (.int .i64 0), .eq (.bool true), .eq (.bool true)] [] [] (fun _ hb => by cases hb)
      ⟨d_call (fun _ hw => known2 _), d_val, d_load hs 5, d_load hs 2, d_call (fun _ hw => is2 (hx.bezG hy) _ (RI.mk ((hs.go hw).get 2 rfl)) (by omega)), d_val, d_val, d_load hs 4, d_load hs 1, d_call (fun _ hw => is2 (Sm.bezX (a := x) hy) _ (RI.mk ((hs.go hw).get 1 rfl)) (by omega)), d_val, d_val, d_load hs 3, d_load hs 0, d_call (fun _ hw => is2 (hx.bezY hy) _ (RI.mk ((hs.go hw).get 0 rfl)) (by omega)), d_val, d_val, d_load hs 10, d_load hs 9, d_call (fun _ hw => zgcd hx hy _ (htab.ext (hs.go hw).ext) (by omega)), d_callP (fun u => #[nV (Nat.gcd x.natAbs y.natAbs)]) (fun u _ hw hj => coutnat (show Sm _ (Nat.gcd x.natAbs y.natAbs) by have h := Sm.bezG hx hy; rw [bezG_eq, Int.natAbs_natCast] at h; exact h) _ (by omega)), d_val, d_load hs 8, d_val, d_load hs 7, d_callP (fun u => #[.slice Ai2 (nl x.natAbs) ci2, .slice Ai3 (nl y.natAbs) ci3]) (fun u _ hw hj => refgcd hx hy _ ((hs.go hw).get 7 rfl) ((hs.go hw).get 6 rfl) (by omega)), d_callU (fun u => #[u 20, u 25]) (fun u _ hw hj => crcmp_eq (show Sm _ (Nat.gcd x.natAbs y.natAbs) by have h := Sm.bezG hx hy; rw [bezG_eq, Int.natAbs_natCast] at h; exact h) (show Sm _ (Nat.gcd x.natAbs y.natAbs) by have h := Sm.bezG hx hy; rw [bezG_eq, Int.natAbs_natCast] at h; exact h) rfl _ (hj 20 (by kernel_rfl)) (hj 25 (by kernel_rfl)) (by omega)), d_val, d_val, trivial⟩ ?_
    intro vv wd1 ac hw hG hN ha
    have ha := ha.sub [(0, .slice A1 l0.length c1), (1, .slice A2 l1.length c2), (2, .bool b2), (3, .bool b3), (4, .slice A4 l4.length c4), (10, .bool false), (23, .slice A1 l0.length c1), (24, .slice A2 l1.length c2), (25, .bool b2), (26, .bool b3), (27, .tuple #[zV x, zV y, riV x Ai2 ci2, riV y Ai3 ci3]), (22, .tuple #[zV x, zV y, riV x Ai2 ci2, riV y Ai3 ci3]), (28, zV x), (29, zV y), (30, riV x Ai2 ci2), (31, riV y Ai3 ci3), (11, .pointer (some ⟨g4, 0, none⟩)), (12, .pointer (some ⟨g5, 0, none⟩)), (13, .pointer (some ⟨g6, 0, none⟩)), (14, .pointer (some ⟨g7, 0, none⟩)), (32, .slice A4 l4.length c4), (33, .slice Ai8 ((l4.take 6).length) ci8), (34, .slice Ai9 (nl (beN (l4.take 6))) ci9), (35, riV ((beN (l4.take 6) : Nat) : Int) Ai10 ci10), (15, .pointer (some ⟨g11, 0, none⟩)), (36, .pointer (some ⟨g11, 1, none⟩)), (37, .slice Ai10 (nl (((beN (l4.take 6) : Nat) : Int).natAbs)) ci10), (38, .int .i64 ((nl (((beN (l4.take 6) : Nat) : Int).natAbs) : Nat) : Int)), (39, .bool false), (51, zV x), (52, zV y), (53, .tuple #[zV (bezG x y), zV (bezX x y), zV (bezY x y)]), (50, .tuple #[zV (bezG x y), zV (bezX x y), zV (bezY x y)]), (54, zV (bezG x y)), (55, zV (bezX x y)), (56, zV (bezY x y)), (16, .pointer (some ⟨g26, 0, none⟩)), (17, .pointer (some ⟨g27, 0, none⟩)), (18, .pointer (some ⟨g28, 0, none⟩)), (58, riV x Ai2 ci2), (59, riV y Ai3 ci3), (60, .tuple #[riV (bezG x y) Ai30 ci30, riV (bezX x y) Ai31 ci31, riV (bezY x y) Ai32 ci32]), (57, .tuple #[riV (bezG x y) Ai30 ci30, riV (bezX x y) Ai31 ci31, riV (bezY x y) Ai32 ci32]), (61, riV (bezG x y) Ai30 ci30), (62, riV (bezX x y) Ai31 ci31), (63, riV (bezY x y) Ai32 ci32), (19, .pointer (some ⟨g33, 0, none⟩)), (20, .pointer (some ⟨g34, 0, none⟩)), (21, .pointer (some ⟨g35, 0, none⟩)), (92, .bool true)]
    clear hG hN
    have hs := hs.go hw
    clear hw
    refine keeps_nil ?_
    show wpList _ _ _ _ _ _
    refine s_val ha (.bool true) fun ac ha => ?_
    refine wpList_nil ((x_normal ?_))
    refine wp_ret (ret_at ha hs rfl [.bool true] ⟨rfl, trivial⟩ ?_)
    exact ⟨rfl, hs.ext⟩
  end Go.Proofs.YtiloialbglfplaaGreatDoor

namespace Go.Proofs.YtiloialbglfplaaGreatDoor
open Go.ChangeShapes Go.WideShapes Go.ChangeAt Go.RowKit

theorem wholeGcd_tab64 {W : World} (h : laidMetH Tryz.prog Rows.wholeGcdRow.laid W) : Tab64 W := by
  have h1 : laidMet Tryz.prog [("math/bits.deBruijn32tab", Rows.laid_math_bits_deBruijn32tab), ("math/bits.deBruijn64tab", Rows.laid_math_bits_deBruijn64tab), ("internal/strconv.uint64pow10", Rows.laid_internal_strconv_uint64pow10)] W := h
  exact tab64_head (by kernel_rfl) h1.tail
set_option maxRecDepth 100000 in
theorem wholeGcd_contract (H : Type) (enc : TypeId × Value → H) (W : World) (base : Nat) (args : Array Value) (ds gs : List (DataW H)) (before : List MemPlace)
    (hval : ∀ (j : Nat) t v, Tryz.f9.params[j]? = some t → args[j]? = some v → Value.okWide Tryz.prog W .any base t v)
    (hW : DataW.Whole enc Tryz.prog Tryz.f9.params.toList Rows.wholeGcdSpec.vars false W args.toList ds gs before) (htab64 : Tab64 W) :
    Calls Tryz.prog 9 args W fun e W' => ∃ v, e = .returned v ∧ Rows.wholeGcdSpec.post enc Tryz.prog Tryz.f9 false true false false W args v W' := by
  have hW' := hW
  obtain ⟨p, q, hA0, hV, rfl, hfz, hnd⟩ := hW
  have hA : DataW.TrodAll enc Tryz.prog W 0 (fun _ => true) true Tryz.f9.params.toList args.toList ds p := hA0
  rw [Tryz.params9] at hA hval
  obtain ⟨v0, vs0, d0, ds0, p0, q0, hargs, rfl, rfl, h0, r0⟩ := trodAll_cons hA
  obtain ⟨v1, vs1, d1, ds1, p1, q1, rfl, rfl, rfl, h1, r1⟩ := trodAll_cons r0
  obtain ⟨v2, vs2, d2, ds2, p2, q2, rfl, rfl, rfl, h2, r2⟩ := trodAll_cons r1
  obtain ⟨v3, vs3, d3, ds3, p3, q3, rfl, rfl, rfl, h3, r3⟩ := trodAll_cons r2
  obtain ⟨v4, vs4, d4, ds4, p4, q4, rfl, rfl, rfl, h4, r4⟩ := trodAll_cons r3
  obtain ⟨rfl, rfl, rfl⟩ := trodAll_nil r4
  obtain rfl : args = #[v0, v1, v2, v3, v4] := by cases args; simp_all
  obtain ⟨rfl, rfl⟩ := trodVars_none hV
  obtain ⟨l0, s0⟩ := open_bytes (hval 0 102 v0 rfl rfl) h0
  obtain ⟨l1, s1⟩ := open_bytes (hval 1 102 v1 rfl rfl) h1
  obtain ⟨c2, rfl, rfl, rfl⟩ := open_bool Tryz.underlying4 (hval 2 4 v2 rfl rfl) h2
  obtain ⟨c3, rfl, rfl, rfl⟩ := open_bool Tryz.underlying4 (hval 3 4 v3 rfl rfl) h3
  obtain ⟨l4, s4⟩ := open_bytes (hval 4 102 v4 rfl rfl) h4
  clear hA0
  refine (wholeGcd_any l0 v0 l1 v1 c2 c3 l4 v4 W htab64 s0 s1 s4).mono fun e W' ⟨he, hg⟩ => ?_
  subst he
  exact ⟨_, rfl, law_post rfl rfl (fun t ht => by
    rw [Tryz.params9] at ht
    have hall : ([102, 102, 4, 4, 102].all fun u => Tryz.prog.readableRec u && decide (u < Tryz.prog.types.size)) = true := by kernel_rfl
    have := List.all_eq_true.1 hall t (by simpa using ht)
    simpa using this) hW' ⟨rfl, rfl, rfl⟩ hg⟩

theorem wholeGcd_met (os : Os) : laidMet Tryz.prog Rows.wholeGcdRow.laid ((laidWorld os).forCall (fun _ _ => 0) ⟨#[], #[.slice none 0 0, .slice none 0 0, .bool false, .bool false, .slice none 0 0], []⟩).memory :=
  laidMet_of_run' 8 (by kernel_rfl) (by kernel_rfl)
theorem wholeGcd_reads (os : Os) {H : Type} (enc : TypeId × Value → H) : ∃ places, DataW.whole enc Tryz.prog ((laidWorld os).forCall (fun _ _ => 0) ⟨#[], #[.slice none 0 0, .slice none 0 0, .bool false, .bool false, .slice none 0 0], []⟩).memory Tryz.f9.params.toList Rows.wholeGcdSpec.vars false (#[.slice none 0 0, .slice none 0 0, .bool false, .bool false, .slice none 0 0] : Array Value).toList 8 = some ([.nil, .nil, .lit (.bool false), .lit (.bool false), .nil], [], places) :=
  ⟨[], by kernel_rfl⟩

set_option maxRecDepth 100000 in
theorem wholeGcd_lifted (os : Os) (started : os.Started) (H : Type) (enc : TypeId × Value → H) (F : Stop.Interp) :
    ReturnsInHanded {} Tryz.checked os 9 .any ((OpenSpec.ofChange Rows.wholeGcdSpec).preRow enc Tryz.prog Tryz.f9 Rows.wholeGcdRow.domain false Rows.wholeGcdRow.laid) (((OpenSpec.ofChange Rows.wholeGcdSpec).at F).post enc Tryz.prog Tryz.f9 false true false false) := by
  obtain ⟨places, hx⟩ := wholeGcd_reads os enc
  refine returnsInHanded_of_row (C := Tryz.checked) (s := OpenSpec.ofChange Rows.wholeGcdSpec) own started (by kernel_rfl) Tryz.func9
    (witness_row_at (enc := enc) (C := Tryz.checked) false (laidWorld os) #[.slice none 0 0, .slice none 0 0, .bool false, .bool false, .slice none 0 0] rfl (by kernel_rfl) (by kernel_rfl) (by kernel_rfl)
      (OpenSpec.preRow_of_cond 8 hx (by kernel_rfl) (fun k hk => by cases hk) (by kernel_rfl) (wholeGcd_met os))) ?_
  intro W base args ds gs before hval hW _ _ _ hL _ _
  exact wholeGcd_contract H enc W base args ds gs before hval hW (wholeGcd_tab64 hL)

theorem wholeGcd_holds : Rows.WholeGcdSaid :=
  OpenClaim.holds_of_cond 9 Tryz.f9 rfl rfl rfl rfl rfl rfl rfl ⟨rfl, rfl, rfl, rfl, rfl⟩ rfl rfl rfl rfl rfl (by kernel_rfl) Tryz.func9 (by kernel_rfl)
    (of_decide_eq_true (by kernel_rfl)) (by unfold Func.isWrapper; first | (rw [if_pos (by decide +kernel)]; kernel_rfl) | (rw [if_neg (by decide +kernel)]; exact ⟨rfl, rfl⟩))
    (fun os started H enc _ F => by rw [OpenClaim.pre_eq_preRow]; exact wholeGcd_lifted os started H enc F)

theorem wholeGcd_plain (f : FuncId) (fn : Func) (hf : Tryz.pinned.checked.prog.funcNamed "abaculus/abaculuslaw2.WholeGcd" = some f) (hfn : Tryz.pinned.checked.prog.funcs[f]? = some fn) :
    false = Tryz.pinned.checked.prog.looks [] ∧ ∀ (j : Nat) t, fn.params[j]? = some t → Tryz.pinned.checked.prog.wantsStandIn t = false := by
  obtain rfl : f = 9 := Option.some.inj ((show Tryz.prog.funcNamed "abaculus/abaculuslaw2.WholeGcd" = some 9 by kernel_rfl).symm.trans hf) |>.symm
  obtain rfl : fn = Tryz.f9 := (Option.some.inj (Tryz.func9.symm.trans hfn)).symm
  refine ⟨by kernel_rfl, fun j t ht => ?_⟩
  rw [Tryz.params9] at ht
  have hm : t ∈ [102, 102, 4, 4, 102] := by simpa using Array.mem_of_getElem? ht
  have hall : ([102, 102, 4, 4, 102].all fun u => !Tryz.prog.wantsStandIn u) = true := by kernel_rfl
  exact (show Tryz.prog.wantsStandIn t = false by simpa using List.all_eq_true.1 hall t hm)

theorem wholeGcdCard_holds : Rows.WholeGcdCardSaid :=
  Claim7.holds_tied_plain_at .later [] _ _ _ _ wholeGcd_holds (fun _ h => by cases h) (by kernel_rfl) (fun _ h => by cases h) wholeGcd_row_tie rfl ⟨rfl, rfl⟩ (by kernel_rfl) rfl wholeGcd_plain (by kernel_rfl)
#print axioms wholeGcdCard_holds
end Go.Proofs.YtiloialbglfplaaGreatDoor
