/- Walks over frac: numbers. (Printed by walks/q1.py.) Walks over frac: Cmp, Div, Of. (Printed by walks/q2.py.) The law WholeRing: its walk. (Printed by walks/z7.py.) Powers and roots: plain mathematics. Walks: Pow. Walks: hand.Pick. Walks: hand.Pick at a bound that has gone over. Walks over whole: Pow; the law WholePowers: its walk. (Printed by walks/zp.py.) Walks over the document's fractions, and what is made of them. (Printed by walks/rq1.py.) A slice cut off behind some of its elements. The engine of the walks: slices, read and made. The engine of the walks: lists of elements: read, made, appended. The engine of the walks: the steps over lists. Walks over lists of fractions: Dot. (Printed by walks/l1.py.) Walks over lists: hand.R, Q, Row, InRow. (Printed by walks/l2.py.) The arguments of a law, opened: slices of numbers. -/
import Derived.Laws.MakeOwn
import Derived.Deep.AppendSrc
import Derived.Test.YtiloialbglfplaaGreatDoorB7
namespace Go.Proofs.YtiloialbglfplaaGreatDoor
open Go.RowKit

theorem Sq.lit {n : Int} (h : n.natAbs < 18446744073709551616) : Sq 64 (n : Rat) := Sq.int (Sm.lit h) (by omega)
theorem qP_one (n : Int) : Value.agg #[.bool (decide (n < 0)), .int .u64 (lo n.natAbs : Nat), .string (hi n.natAbs), .int .u64 0, .string ⟨#[]⟩] = qP n 1 := by
  have h1 : lo 0 = 0 := by unfold lo; simp
  have h2 : hi 0 = ⟨#[]⟩ := by unfold hi hiL; rw [Nat.zero_div, limbs_zero]; rfl
  unfold qP
  rw [show d1 1 = 0 from rfl, h1, h2]
  rfl
theorem Sm.gcd {j k a b : Nat} (ha : Sm j a) (hb : Sm k b) : Sm (max j k + 1) (Nat.gcd a b) := by
  refine (ha.add hb).mono ?_
  rcases Nat.eq_zero_or_pos b with h | h
  · rw [h, Nat.gcd_zero_right]; omega
  · exact Nat.le_trans (Nat.le_of_dvd h (Nat.gcd_dvd_right _ _)) (by omega)
theorem ret_v {v u : Value} {w w' : World} (h : v = u) (e : Ext w w') : Ret u w (.returned (pack [v])) w' := by subst h; exact ⟨rfl, e⟩
theorem ret_vb {v u : Value} {b : Bool} {w w' : World} (h : v = u) (e : Ext w w') : Ret (.tuple #[u, .bool b]) w (.returned (pack [v, .bool b])) w' := by subst h; exact ⟨rfl, e⟩
theorem bl_one_iff {d : Nat} {c : Bool} (h : decide (d = 1) = c) : (((bl d : Nat) : Int) == 1) = c := by
  subst h
  have h1 : bl d ≤ 1 ↔ d < 2 ^ 1 := bl_le_iff d 1
  have h0 : bl d ≤ 0 ↔ d < 2 ^ 0 := bl_le_iff d 0
  by_cases h : d = 1
  · rw [decide_eq_true h, beq_iff_eq]; omega
  · rw [decide_eq_false h, beq_eq_false_iff_ne]; omega
theorem d1_bits {d : Nat} (hd : 0 < d) : decide (d = 1) = (((bl (d1 d) : Nat) : Int) == 0) := by
  unfold d1
  by_cases h : d = 1
  · rw [if_pos h, decide_eq_true h, bl_zero]; rfl
  · rw [if_neg h, decide_eq_false h]
    have := (bl_pos_iff d).2 hd
    exact (beq_eq_false_iff_ne.2 (by omega)).symm
theorem Sm.d1 {k d : Nat} (h : Sm k d) : Sm k (d1 d) := by
  unfold Go.Proofs.YtiloialbglfplaaGreatDoor.d1
  split
  · exact Sm.zero k
  · exact h
theorem d1_ne {d : Nat} (h : decide (d = 1) = false) : d1 d = d := by unfold d1; rw [if_neg (of_decide_eq_false h)]
theorem sign_neg (n : Int) : decide (n.sign < 0) = decide (n < 0) := by
  refine decide_eq_decide.2 ?_
  rcases Int.lt_trichotomy n 0 with h | h | h
  · rw [Int.sign_eq_neg_one_of_neg h]; omega
  · subst h; decide
  · rw [Int.sign_eq_one_of_pos h]; omega

theorem make_neg (n : Int) {m : Int} (h : decide (m < 0) = true) : mkRat (-n) m.natAbs = (n : Rat) / (m : Rat) := by
  have h := of_decide_eq_true h
  rw [← Rat.divInt_eq_div, ← Rat.neg_divInt_neg, show -m = ((m.natAbs : Nat) : Int) from by omega, Rat.divInt_ofNat]
theorem make_pos (n : Int) {m : Int} (h : decide (m < 0) = false) : mkRat n m.natAbs = (n : Rat) / (m : Rat) := by
  have h := of_decide_eq_false h
  rw [← Rat.divInt_eq_div, ← Rat.divInt_ofNat, show ((m.natAbs : Nat) : Int) = m from by omega]

set_option maxHeartbeats 1000000 in
theorem fover {j k a b : Nat} (ha0 : Sm j a) (hb0 : Sm k b) (hb1 : 0 < b) (w : World) (hk : max j k ≤ 549755813888) : Calls Tryz.prog 88 #[nV a, nV b] w (Ret (nV (a / b)) w) := by
  have hs := St.start w
  refine enter Tryz.func88 rfl Tryz.ntmps88 (by kernel_rfl) fun ac ha => ?_
  refine wp_seq ?_
  refine wp_region_lit ?_
  refine s_box ha hs [.int .u64 (lo a : Nat), .string (hi a)] fun g1 ac wd ha hs => ?_
  refine s_box ha hs [.int .u64 (lo b : Nat), .string (hi b)] fun g2 ac wd ha hs => ?_
  refine s_alloc ha hs [.int .u64 0, .string (⟨#[]⟩)] fun g3 ac wd ha hs => ?_
  refine wpList_nil ((x_normal ?_))
  refine wp_seq ?_
  refine wp_seq ?_
  refine wp_region_lit ?_
  refine s_load ha hs 1 (nV b) fun ac ha => ?_
  rcases Bool.eq_false_or_eq_true (decide (b = 1)) with hb4 | hb4
  ·
    have phb4 := of_decide_eq_true hb4
    refine s_call ha hs (.int .i64 ((bl b : Nat) : Int)) (cbits hb0 _ (by omega)) fun ac wd ha hs => ?_
    refine s_bool ha (b := (((bl b : Nat) : Int) == 1)) true (bl_one_iff hb4) fun ac ha => ?_
    refine wpList_nil ((x_normal ?_))
    refine r_true ha ?_
    refine wp_seq ?_
    refine wp_region_lit ?_
    refine s_load ha hs 2 (nV a) fun ac ha => ?_
    refine s_store ha hs 0 _ fun ac wd ha hs => ?_
    refine wpList_nil ((x_normal ?_))
    refine wp_ret (x_ret (ret_at ha hs rfl [nV a] ⟨⟨0, _, _, _, rfl, rfl, by kernel_rfl⟩, trivial⟩ ?_))
    exact ret_v (by rw [of_decide_eq_true hb4, Nat.div_one]) hs.ext
  ·
    have phb4 := of_decide_eq_false hb4
    refine s_call ha hs (.int .i64 ((bl b : Nat) : Int)) (cbits hb0 _ (by omega)) fun ac wd ha hs => ?_
    refine s_bool ha (b := (((bl b : Nat) : Int) == 1)) false (bl_one_iff hb4) fun ac ha => ?_
    refine wpList_nil ((x_normal ?_))
    refine r_false ha ?_
    refine wp_skip ((x_normal ?_))
    refine wp_seq ?_
    refine wp_region_lit ?_
    refine s_load ha hs 2 (nV a) fun ac ha => ?_
    refine s_load ha hs 1 (nV b) fun ac ha => ?_
    refine s_call ha hs (.tuple #[nV (a / b), nV (a % b), .bool true]) (cdiv ha0 hb0 (of_decide_eq_false (decide_eq_false (Nat.ne_of_gt hb1))) _ (by omega)) fun ac wd ha hs => ?_
    refine s_val ha (.tuple #[nV (a / b), nV (a % b), .bool true]) fun ac ha => ?_
    refine s_val ha (nV (a / b)) fun ac ha => ?_
    refine s_val ha (nV (a % b)) fun ac ha => ?_
    refine s_val ha (.bool true) fun ac ha => ?_
    refine s_alloc ha hs [.int .u64 0, .string (⟨#[]⟩)] fun g5 ac wd ha hs => ?_
    refine s_alloc ha hs [.int .u64 0, .string (⟨#[]⟩)] fun g6 ac wd ha hs => ?_
    refine s_store ha hs 1 _ fun ac wd ha hs => ?_
    refine s_store ha hs 0 _ fun ac wd ha hs => ?_
    refine s_val ha (.bool true) fun ac ha => ?_
    refine wpList_nil ((x_normal ?_))
    refine wp_seq ?_
    refine wp_region_lit ?_
    refine s_load ha hs 1 (nV (a / b)) fun ac ha => ?_
    refine s_store ha hs 2 _ fun ac wd ha hs => ?_
    refine wpList_nil ((x_normal ?_))
    refine wp_ret (ret_at ha hs rfl [nV (a / b)] ⟨⟨2, _, _, _, rfl, rfl, by kernel_rfl⟩, trivial⟩ ?_)
    exact ⟨rfl, hs.ext⟩
  
set_option maxHeartbeats 1000000 in
theorem fpart {j k b : Nat} {n : Int} (hn : Sm j n.natAbs) (hb0 : Sm k b) (hb1 : 0 < b) (hdv : b ∣ n.natAbs) (w : World) (hk : max j k ≤ 549755813888) : Calls Tryz.prog 87 #[zV n, nV b] w (Ret (zV (n / ((b : Nat) : Int))) w) := by
  have hs := St.start w
  refine enter Tryz.func87 rfl Tryz.ntmps87 (by kernel_rfl) fun ac ha => ?_
  refine wp_seq ?_
  refine wp_region_lit ?_
  refine s_box ha hs [.bool (decide (n < 0)), .int .u64 (lo n.natAbs : Nat), .string (hi n.natAbs)] fun g7 ac wd ha hs => ?_
  refine s_box ha hs [.int .u64 (lo b : Nat), .string (hi b)] fun g8 ac wd ha hs => ?_
  refine s_alloc ha hs [.bool false, .int .u64 0, .string (⟨#[]⟩)] fun g9 ac wd ha hs => ?_
  refine wpList_nil ((x_normal ?_))
  refine wp_seq ?_
  rcases Bool.eq_false_or_eq_true (decide (n < 0)) with hb10 | hb10
  ·
    have phb10 := of_decide_eq_true hb10
    refine region_sp ha 8 [.eq (zV n), .eq (.int .i64 n.sign), .eq (.bool true), .eq (zV n), .eq (nV n.natAbs), .eq (nV b), .eq (nV (n.natAbs / b)), .eq (zV (-((n.natAbs / b : Nat) : Int)))] [] [] (fun _ hb => by cases hb)
      ⟨d_load hs 2, d_call (fun _ hw => zsign hn _ (by omega)), d_bool (b := decide (n.sign < 0)) ((sign_neg n).trans hb10), d_load hs 2, d_call (fun _ hw => zabs n _), d_load hs 1, d_call (fun _ hw => fover hn hb0 hb1 _ (by omega)), d_call (fun _ hw => from_any true (hn.div b) (by omega) _), trivial⟩ ?_
    intro vv wd1 ac hw hG hN ha
    have ha := ha.sub [(0, zV n), (1, nV b), (4, .pointer (some ⟨g9, 0, none⟩)), (12, zV (-((n.natAbs / b : Nat) : Int)))]
    clear hG hN
    have hs := hs.go hw
    clear hw
    refine keeps_nil ?_
    show wpList _ _ _ _ _ _
    refine s_store ha hs 0 _ fun ac wd ha hs => ?_
    refine wpList_nil ((x_normal ?_))
    refine wp_ret (ret_at ha hs rfl [zV (-((n.natAbs / b : Nat) : Int))] ⟨⟨0, _, _, _, rfl, rfl, by kernel_rfl⟩, trivial⟩ ?_)
    exact ret_z (by have h := sg_div hb1 hdv; rw [hb10] at h; exact h) hs.ext
  ·
    have phb10 := of_decide_eq_false hb10
    refine region_sp ha 8 [.eq (zV n), .eq (.int .i64 n.sign), .eq (.bool false), .eq (zV n), .eq (nV n.natAbs), .eq (nV b), .eq (nV (n.natAbs / b)), .eq (zV ((n.natAbs / b : Nat) : Int))] [] [] (fun _ hb => by cases hb)
      ⟨d_load hs 2, d_call (fun _ hw => zsign hn _ (by omega)), d_bool (b := decide (n.sign < 0)) ((sign_neg n).trans hb10), d_load hs 2, d_call (fun _ hw => zabs n _), d_load hs 1, d_call (fun _ hw => fover hn hb0 hb1 _ (by omega)), d_call (fun _ hw => from_any false (hn.div b) (by omega) _), trivial⟩ ?_
    intro vv wd1 ac hw hG hN ha
    have ha := ha.sub [(0, zV n), (1, nV b), (4, .pointer (some ⟨g9, 0, none⟩)), (12, zV ((n.natAbs / b : Nat) : Int))]
    clear hG hN
    have hs := hs.go hw
    clear hw
    refine keeps_nil ?_
    show wpList _ _ _ _ _ _
    refine s_store ha hs 0 _ fun ac wd ha hs => ?_
    refine wpList_nil ((x_normal ?_))
    refine wp_ret (ret_at ha hs rfl [zV ((n.natAbs / b : Nat) : Int)] ⟨⟨0, _, _, _, rfl, rfl, by kernel_rfl⟩, trivial⟩ ?_)
    exact ret_z (by have h := sg_div hb1 hdv; rw [hb10] at h; exact h) hs.ext
  
set_option maxHeartbeats 1000000 in
theorem ftimes {j k d : Nat} {n : Int} (hn : Sm j n.natAbs) (hd : Sm k d) (w : World) (hk : max j k ≤ 200000000000) : Calls Tryz.prog 91 #[zV n, nV d] w (Ret (zV (n * ((d : Nat) : Int))) w) := by
  have hs := St.start w
  refine enter Tryz.func91 rfl Tryz.ntmps91 (by kernel_rfl) fun ac ha => ?_
  refine wp_seq ?_
  refine wp_region_lit ?_
  refine s_box ha hs [.bool (decide (n < 0)), .int .u64 (lo n.natAbs : Nat), .string (hi n.natAbs)] fun g13 ac wd ha hs => ?_
  refine s_box ha hs [.int .u64 (lo d : Nat), .string (hi d)] fun g14 ac wd ha hs => ?_
  refine s_alloc ha hs [.bool false, .int .u64 0, .string (⟨#[]⟩)] fun g15 ac wd ha hs => ?_
  refine wpList_nil ((x_normal ?_))
  refine wp_seq ?_
  refine region_sp ha 4 [.eq (zV n), .eq (nV d), .eq (zV ((d : Nat) : Int)), .eq (zV (n * ((d : Nat) : Int)))] [] [] (fun _ hb => by cases hb)
    ⟨d_load hs 2, d_load hs 1, d_call (fun _ hw => from_any false hd (by omega) _), d_call (fun _ hw => zmul hn (Sm.cast hd) _ (by omega)), trivial⟩ ?_
  intro vv wd1 ac hw hG hN ha
  have ha := ha.sub [(0, zV n), (1, nV d), (4, .pointer (some ⟨g15, 0, none⟩)), (8, zV (n * ((d : Nat) : Int)))]
  clear hG hN
  have hs := hs.go hw
  clear hw
  refine keeps_nil ?_
  show wpList _ _ _ _ _ _
  refine s_store ha hs 0 _ fun ac wd ha hs => ?_
  refine wpList_nil ((x_normal ?_))
  refine wp_ret (ret_at ha hs rfl [zV (n * ((d : Nat) : Int))] ⟨⟨0, _, _, _, rfl, rfl, by kernel_rfl⟩, trivial⟩ ?_)
  exact ⟨rfl, hs.ext⟩
  
set_option maxHeartbeats 1000000 in
theorem fpack {k d : Nat} (n : Int) (hd : Sm k d) (w : World) (hk : k ≤ 549755813888) : Calls Tryz.prog 86 #[zV n, nV d] w (Ret (qP n d) w) := by
  have hs := St.start w
  refine enter Tryz.func86 rfl Tryz.ntmps86 (by kernel_rfl) fun ac ha => ?_
  refine wp_seq ?_
  refine wp_region_lit ?_
  refine s_box ha hs [.bool (decide (n < 0)), .int .u64 (lo n.natAbs : Nat), .string (hi n.natAbs)] fun g17 ac wd ha hs => ?_
  refine s_box ha hs [.int .u64 (lo d : Nat), .string (hi d)] fun g18 ac wd ha hs => ?_
  refine s_alloc ha hs [.bool false, .int .u64 0, .string (⟨#[]⟩), .int .u64 0, .string (⟨#[]⟩)] fun g19 ac wd ha hs => ?_
  refine wpList_nil ((x_normal ?_))
  refine wp_seq ?_
  refine wp_seq ?_
  refine wp_region_lit ?_
  refine s_load ha hs 1 (nV d) fun ac ha => ?_
  rcases Bool.eq_false_or_eq_true (decide (d = 1)) with hb20 | hb20
  ·
    have phb20 := of_decide_eq_true hb20
    refine s_call ha hs (.int .i64 ((bl d : Nat) : Int)) (cbits hd _ (by omega)) fun ac wd ha hs => ?_
    refine s_bool ha (b := (((bl d : Nat) : Int) == 1)) true (bl_one_iff hb20) fun ac ha => ?_
    refine wpList_nil ((x_normal ?_))
    refine r_true ha ?_
    refine wp_seq ?_
    refine wp_region_lit ?_
    refine s_load ha hs 2 (zV n) fun ac ha => ?_
    refine s_eq ha (qP n 1) (qP_one _) fun ac ha => ?_
    refine s_store ha hs 0 _ fun ac wd ha hs => ?_
    refine wpList_nil ((x_normal ?_))
    refine wp_ret (x_ret (ret_at ha hs rfl [qP n 1] ⟨⟨0, _, _, _, rfl, rfl, by kernel_rfl⟩, trivial⟩ ?_))
    exact ret_v (by rw [of_decide_eq_true hb20]) hs.ext
  ·
    have phb20 := of_decide_eq_false hb20
    refine s_call ha hs (.int .i64 ((bl d : Nat) : Int)) (cbits hd _ (by omega)) fun ac wd ha hs => ?_
    refine s_bool ha (b := (((bl d : Nat) : Int) == 1)) false (bl_one_iff hb20) fun ac ha => ?_
    refine wpList_nil ((x_normal ?_))
    refine r_false ha ?_
    refine wp_skip ((x_normal ?_))
    refine wp_seq ?_
    refine wp_region_lit ?_
    refine s_load ha hs 2 (zV n) fun ac ha => ?_
    refine s_load ha hs 1 (nV d) fun ac ha => ?_
    refine s_val ha (.agg #[.bool (decide (n < 0)), .int .u64 (lo n.natAbs : Nat), .string (hi n.natAbs), .int .u64 (lo d : Nat), .string (hi d)]) fun ac ha => ?_
    refine s_store ha hs 0 _ fun ac wd ha hs => ?_
    refine wpList_nil ((x_normal ?_))
    refine wp_ret (ret_at ha hs rfl [.agg #[.bool (decide (n < 0)), .int .u64 (lo n.natAbs : Nat), .string (hi n.natAbs), .int .u64 (lo d : Nat), .string (hi d)]] ⟨⟨0, _, _, _, rfl, rfl, by kernel_rfl⟩, trivial⟩ ?_)
    exact ret_v (by unfold qP; rw [d1_ne hb20]) hs.ext
  
set_option maxHeartbeats 1000000 in
theorem flowest {j k d : Nat} {n : Int} (hn : Sm j n.natAbs) (hd : Sm k d) (hd1 : 0 < d) (w : World) (htab : Tab64 w) (hk : max j k ≤ 200000000000) : Calls Tryz.prog 177 #[zV n, nV d] w (Ret (qV (mkRat n d)) w) := by
  have hs := St.start w
  refine enter Tryz.func177 rfl Tryz.ntmps177 (by kernel_rfl) fun ac ha => ?_
  refine wp_seq ?_
  refine wp_region_lit ?_
  refine s_box ha hs [.bool (decide (n < 0)), .int .u64 (lo n.natAbs : Nat), .string (hi n.natAbs)] fun g21 ac wd ha hs => ?_
  refine s_box ha hs [.int .u64 (lo d : Nat), .string (hi d)] fun g22 ac wd ha hs => ?_
  refine s_alloc ha hs [.bool false, .int .u64 0, .string (⟨#[]⟩), .int .u64 0, .string (⟨#[]⟩)] fun g23 ac wd ha hs => ?_
  refine wpList_nil ((x_normal ?_))
  refine wp_seq ?_
  refine region_sp ha 5 [.eq (zV n), .eq (nV d), .eq (zV ((d : Nat) : Int)), .eq (nV (Nat.gcd n.natAbs (((d : Nat) : Int).natAbs))), .new _ 30 [.int .u64 0, .string (⟨#[]⟩)]] [] [] (fun _ hb => by cases hb)
    ⟨d_load hs 2, d_load hs 1, d_call (fun _ hw => from_any false hd (by omega) _), d_call (fun _ hw => zgcd hn (Sm.cast hd) _ (htab.ext (hs.go hw).ext) (by omega)), d_new, trivial⟩ ?_
  intro vv wd1 ac hw hG hN ha
  have ha := ha.sub [(0, zV n), (1, nV d), (2, .pointer (some ⟨g21, 0, none⟩)), (3, .pointer (some ⟨g22, 0, none⟩)), (4, .pointer (some ⟨g23, 0, none⟩)), (9, nV (Nat.gcd n.natAbs (((d : Nat) : Int).natAbs))), (5, vv 4)]
  have h_g25 : NewAt _ 30 [.int .u64 0, .string (⟨#[]⟩)] (vv 4) wd1 := hG 4 5 (by decide) rfl
  clear hG hN
  obtain ⟨g25, b_g25, e_g25, h_g25⟩ := h_g25
  rw [e_g25] at ha
  clear e_g25
  have hs := hs.new hw b_g25 h_g25
  clear hw
  refine keeps_nil ?_
  show wpList _ _ _ _ _ _
  refine s_store ha hs 0 _ fun ac wd ha hs => ?_
  refine wpList_nil ((x_normal ?_))
  refine wp_seq ?_
  refine region_sp ha 7 [.eq (zV n), .eq (nV (Nat.gcd n.natAbs (((d : Nat) : Int).natAbs))), .eq (zV (n / ((Nat.gcd n.natAbs (((d : Nat) : Int).natAbs) : Nat) : Int))), .eq (nV d), .eq (nV (Nat.gcd n.natAbs (((d : Nat) : Int).natAbs))), .eq (nV (d / (Nat.gcd n.natAbs (((d : Nat) : Int).natAbs)))), .eq (qP (n / ((Nat.gcd n.natAbs (((d : Nat) : Int).natAbs) : Nat) : Int)) (d / (Nat.gcd n.natAbs (((d : Nat) : Int).natAbs))))] [] [] (fun _ hb => by cases hb)
    ⟨d_load hs 3, d_load hs 0, d_call (fun _ hw => fpart hn (Sm.gcd hn (Sm.cast hd)) (Nat.gcd_pos_of_pos_right _ hd1) (Nat.gcd_dvd_left _ _) _ (by omega)), d_load hs 2, d_load hs 0, d_call (fun _ hw => fover hd (Sm.gcd hn (Sm.cast hd)) (Nat.gcd_pos_of_pos_right _ hd1) _ (by omega)), d_call (fun _ hw => fpack (n / ((Nat.gcd n.natAbs (((d : Nat) : Int).natAbs) : Nat) : Int)) (hd.div (Nat.gcd n.natAbs (((d : Nat) : Int).natAbs))) _ (by omega)), trivial⟩ ?_
  intro vv wd1 ac hw hG hN ha
  have ha := ha.sub [(0, zV n), (1, nV d), (2, .pointer (some ⟨g21, 0, none⟩)), (3, .pointer (some ⟨g22, 0, none⟩)), (4, .pointer (some ⟨g23, 0, none⟩)), (9, nV (Nat.gcd n.natAbs (((d : Nat) : Int).natAbs))), (5, .pointer (some ⟨g25, 0, none⟩)), (16, qP (n / ((Nat.gcd n.natAbs (((d : Nat) : Int).natAbs) : Nat) : Int)) (d / (Nat.gcd n.natAbs (((d : Nat) : Int).natAbs))))]
  clear hG hN
  have hs := hs.go hw
  clear hw
  refine keeps_nil ?_
  show wpList _ _ _ _ _ _
  refine s_store ha hs 1 _ fun ac wd ha hs => ?_
  refine wpList_nil ((x_normal ?_))
  refine wp_ret (ret_at ha hs rfl [qP (n / ((Nat.gcd n.natAbs (((d : Nat) : Int).natAbs) : Nat) : Int)) (d / (Nat.gcd n.natAbs (((d : Nat) : Int).natAbs)))] ⟨⟨1, _, _, _, rfl, rfl, by kernel_rfl⟩, trivial⟩ ?_)
  exact ret_v (lowest_eq n hd1) hs.ext
  
set_option maxHeartbeats 1000000 in
theorem fmake {j k : Nat} {n m : Int} (hn : Sm j n.natAbs) (hm : Sm k m.natAbs) (hm0 : m ≠ 0) (w : World) (htab : Tab64 w) (hk : max j k ≤ 100000000000) : Calls Tryz.prog 140 #[zV n, zV m] w (Ret (.tuple #[qV ((n : Rat) / (m : Rat)), .bool true]) w) := by
  have hs := St.start w
  refine enter Tryz.func140 rfl Tryz.ntmps140 (by kernel_rfl) fun ac ha => ?_
  refine wp_seq ?_
  refine wp_region_lit ?_
  refine s_box ha hs [.bool (decide (n < 0)), .int .u64 (lo n.natAbs : Nat), .string (hi n.natAbs)] fun g27 ac wd ha hs => ?_
  refine s_box ha hs [.bool (decide (m < 0)), .int .u64 (lo m.natAbs : Nat), .string (hi m.natAbs)] fun g28 ac wd ha hs => ?_
  refine s_alloc ha hs [.bool false, .int .u64 0, .string (⟨#[]⟩), .int .u64 0, .string (⟨#[]⟩)] fun g29 ac wd ha hs => ?_
  refine s_val ha (.bool false) fun ac ha => ?_
  refine wpList_nil ((x_normal ?_))
  refine wp_seq ?_
  refine wp_seq ?_
  refine wp_region_lit ?_
  refine s_load ha hs 1 (zV m) fun ac ha => ?_
  rcases Bool.eq_false_or_eq_true (decide (m = 0)) with hb30 | hb30
  ·
    have phb30 := of_decide_eq_true hb30
    refine s_call ha hs (.int .i64 0) (zsign0 (of_decide_eq_true hb30) _) fun ac wd ha hs => ?_
    refine s_val ha (.bool true) fun ac ha => ?_
    refine wpList_nil ((x_normal ?_))
    refine r_true ha ?_
    refine wp_seq ?_
    refine wp_region_lit ?_
    refine s_eq ha (qV (0 : Rat)) qV_zero.symm fun ac ha => ?_
    refine s_store ha hs 0 _ fun ac wd ha hs => ?_
    refine s_val ha (.bool false) fun ac ha => ?_
    refine wpList_nil ((x_normal ?_))
    refine wp_ret (x_ret (ret_at ha hs rfl [qV (0 : Rat), .bool false] ⟨⟨0, _, _, _, rfl, rfl, by kernel_rfl⟩, rfl, trivial⟩ ?_))
    exact absurd (of_decide_eq_true hb30) hm0
  ·
    have phb30 := of_decide_eq_false hb30
    have phm := of_decide_eq_false hb30
    rcases Bool.eq_false_or_eq_true (decide (m < 0)) with hb31 | hb31
    ·
      have phb31 := of_decide_eq_true hb31
      refine s_call ha hs (.int .i64 m.sign) (zsign hm _ (by omega)) fun ac wd ha hs => ?_
      refine s_bool ha (b := (m.sign == 0)) false (sgn_ne hb30) fun ac ha => ?_
      refine wpList_nil ((x_normal ?_))
      refine r_false ha ?_
      refine wp_skip ((x_normal ?_))
      refine wp_seq ?_
      refine wp_seq ?_
      refine wp_region_lit ?_
      refine s_load ha hs 1 (zV m) fun ac ha => ?_
      refine s_call ha hs (.int .i64 m.sign) (zsign hm _ (by omega)) fun ac wd ha hs => ?_
      refine s_bool ha (b := decide (m.sign < 0)) true ((sign_neg m).trans hb31) fun ac ha => ?_
      refine wpList_nil ((x_normal ?_))
      refine r_true ha ?_
      refine wp_region_lit ?_
      refine s_load ha hs 2 (zV n) fun ac ha => ?_
      refine s_call ha hs (zV (-n)) (zneg hn _ (by omega)) fun ac wd ha hs => ?_
      refine s_store ha hs 2 _ fun ac wd ha hs => ?_
      refine wpList_nil ((x_normal ?_))
      refine wp_seq ?_
      refine region_sp ha 4 [.eq (zV (-n)), .eq (zV m), .eq (nV m.natAbs), .eq (qV (mkRat (-n) m.natAbs))] [] [] (fun _ hb => by cases hb)
        ⟨d_load hs 2, d_load hs 1, d_call (fun _ hw => zabs m _), d_call (fun _ hw => flowest hn.zneg hm (Nat.pos_of_ne_zero (fun e => phm (Int.natAbs_eq_zero.1 e))) _ (htab.ext (hs.go hw).ext) (by omega)), trivial⟩ ?_
      intro vv wd1 ac hw hG hN ha
      have ha := ha.sub [(0, zV n), (1, zV m), (2, .pointer (some ⟨g27, 0, none⟩)), (3, .pointer (some ⟨g28, 0, none⟩)), (4, .pointer (some ⟨g29, 0, none⟩)), (5, .bool false), (6, zV m), (7, .int .i64 m.sign), (8, .bool false), (10, zV m), (11, .int .i64 m.sign), (12, .bool true), (13, zV n), (14, zV (-n)), (18, qV (mkRat (-n) m.natAbs))]
      clear hG hN
      have hs := hs.go hw
      clear hw
      refine keeps_nil ?_
      show wpList _ _ _ _ _ _
      refine s_store ha hs 0 _ fun ac wd ha hs => ?_
      refine s_val ha (.bool true) fun ac ha => ?_
      refine wpList_nil ((x_normal ?_))
      refine wp_ret (ret_at ha hs rfl [qV (mkRat (-n) m.natAbs), .bool true] ⟨⟨0, _, _, _, rfl, rfl, by kernel_rfl⟩, rfl, trivial⟩ ?_)
      exact ret_vb (congrArg qV (make_neg n hb31)) hs.ext
    ·
      have phb31 := of_decide_eq_false hb31
      refine s_call ha hs (.int .i64 m.sign) (zsign hm _ (by omega)) fun ac wd ha hs => ?_
      refine s_bool ha (b := (m.sign == 0)) false (sgn_ne hb30) fun ac ha => ?_
      refine wpList_nil ((x_normal ?_))
      refine r_false ha ?_
      refine wp_skip ((x_normal ?_))
      refine wp_seq ?_
      refine wp_seq ?_
      refine wp_region_lit ?_
      refine s_load ha hs 1 (zV m) fun ac ha => ?_
      refine s_call ha hs (.int .i64 m.sign) (zsign hm _ (by omega)) fun ac wd ha hs => ?_
      refine s_bool ha (b := decide (m.sign < 0)) false ((sign_neg m).trans hb31) fun ac ha => ?_
      refine wpList_nil ((x_normal ?_))
      refine r_false ha ?_
      refine wp_skip ((x_normal ?_))
      refine wp_seq ?_
      refine region_sp ha 4 [.eq (zV n), .eq (zV m), .eq (nV m.natAbs), .eq (qV (mkRat n m.natAbs))] [] [] (fun _ hb => by cases hb)
        ⟨d_load hs 2, d_load hs 1, d_call (fun _ hw => zabs m _), d_call (fun _ hw => flowest hn hm (Nat.pos_of_ne_zero (fun e => phm (Int.natAbs_eq_zero.1 e))) _ (htab.ext (hs.go hw).ext) (by omega)), trivial⟩ ?_
      intro vv wd1 ac hw hG hN ha
      have ha := ha.sub [(0, zV n), (1, zV m), (2, .pointer (some ⟨g27, 0, none⟩)), (3, .pointer (some ⟨g28, 0, none⟩)), (4, .pointer (some ⟨g29, 0, none⟩)), (5, .bool false), (6, zV m), (7, .int .i64 m.sign), (8, .bool false), (10, zV m), (11, .int .i64 m.sign), (12, .bool false), (18, qV (mkRat n m.natAbs))]
      clear hG hN
      have hs := hs.go hw
      clear hw
      refine keeps_nil ?_
      show wpList _ _ _ _ _ _
      refine s_store ha hs 0 _ fun ac wd ha hs => ?_
      refine s_val ha (.bool true) fun ac ha => ?_
      refine wpList_nil ((x_normal ?_))
      refine wp_ret (ret_at ha hs rfl [qV (mkRat n m.natAbs), .bool true] ⟨⟨0, _, _, _, rfl, rfl, by kernel_rfl⟩, rfl, trivial⟩ ?_)
      exact ret_vb (congrArg qV (make_pos n hb31)) hs.ext
  
set_option maxHeartbeats 1000000 in
theorem fwhole {k : Nat} {x : Rat} (hx : Sq k x) (w : World) (hk : k ≤ 549755813888) : Calls Tryz.prog 82 #[qV x] w (Ret (.bool (decide (x.den = 1))) w) := by
  have hs := St.start w
  refine enter Tryz.func82 rfl Tryz.ntmps82 (by kernel_rfl) fun ac ha => ?_
  refine wp_seq ?_
  refine wp_region_lit ?_
  refine s_box ha hs [.bool (decide (x.num < 0)), .int .u64 (lo x.num.natAbs : Nat), .string (hi x.num.natAbs), .int .u64 (lo (d1 x.den) : Nat), .string (hi (d1 x.den))] fun g34 ac wd ha hs => ?_
  refine s_val ha (.bool false) fun ac ha => ?_
  refine wpList_nil ((x_normal ?_))
  refine wp_seq ?_
  refine wp_region_lit ?_
  refine s_val ha (.pointer (some ⟨g34, 3, none⟩)) fun ac ha => ?_
  refine s_load ha hs 0 (nV (d1 x.den)) fun ac ha => ?_
  refine s_call ha hs (.int .i64 ((bl (d1 x.den) : Nat) : Int)) (cbits hx.den.d1 _ (by omega)) fun ac wd ha hs => ?_
  rcases Bool.eq_false_or_eq_true (decide (x.den = 1)) with hb35 | hb35
  ·
    have phb35 := of_decide_eq_true hb35
    refine s_bool ha (b := (((bl (d1 x.den) : Nat) : Int) == 0)) true ((d1_bits x.den_pos).symm.trans hb35) fun ac ha => ?_
    refine s_val ha (.bool true) fun ac ha => ?_
    refine wpList_nil ((x_normal ?_))
    refine wp_ret (ret_at ha hs rfl [.bool true] ⟨rfl, trivial⟩ ?_)
    exact ret_v (congrArg Value.bool hb35.symm) hs.ext
  ·
    have phb35 := of_decide_eq_false hb35
    refine s_bool ha (b := (((bl (d1 x.den) : Nat) : Int) == 0)) false ((d1_bits x.den_pos).symm.trans hb35) fun ac ha => ?_
    refine s_val ha (.bool false) fun ac ha => ?_
    refine wpList_nil ((x_normal ?_))
    refine wp_ret (ret_at ha hs rfl [.bool false] ⟨rfl, trivial⟩ ?_)
    exact ret_v (congrArg Value.bool hb35.symm) hs.ext
  
theorem fwhole_eq {k : Nat} {x : Rat} (hx : Sq k x) {c : Bool} (h : decide (x.den = 1) = c) (W : World) (hk : k ≤ 549755813888) : Calls Tryz.prog 82 #[qV x] W (Ret (.bool c) W) := by
  subst h
  exact fwhole hx W hk

set_option maxHeartbeats 1000000 in
theorem fden {k : Nat} {x : Rat} (hx : Sq k x) (w : World) (hk : k ≤ 549755813888) : Calls Tryz.prog 85 #[qV x] w (Ret (nV x.den) w) := by
  have hs := St.start w
  refine enter Tryz.func85 rfl Tryz.ntmps85 (by kernel_rfl) fun ac ha => ?_
  refine wp_seq ?_
  refine wp_region_lit ?_
  refine s_box ha hs [.bool (decide (x.num < 0)), .int .u64 (lo x.num.natAbs : Nat), .string (hi x.num.natAbs), .int .u64 (lo (d1 x.den) : Nat), .string (hi (d1 x.den))] fun g36 ac wd ha hs => ?_
  refine s_alloc ha hs [.int .u64 0, .string (⟨#[]⟩)] fun g37 ac wd ha hs => ?_
  refine wpList_nil ((x_normal ?_))
  refine wp_seq ?_
  refine wp_seq ?_
  refine wp_region_lit ?_
  refine s_load ha hs 1 (qV x) fun ac ha => ?_
  rcases Bool.eq_false_or_eq_true (decide (x.den = 1)) with hb38 | hb38
  ·
    have phb38 := of_decide_eq_true hb38
    refine s_call ha hs (.bool true) (fwhole_eq hx hb38 _ (by omega)) fun ac wd ha hs => ?_
    refine wpList_nil ((x_normal ?_))
    refine r_true ha ?_
    refine wp_seq ?_
    refine wp_region_lit ?_
    refine s_call ha hs (nV 1) (cof 1 (by unfold B64; omega) _) fun ac wd ha hs => ?_
    refine s_store ha hs 0 _ fun ac wd ha hs => ?_
    refine wpList_nil ((x_normal ?_))
    refine wp_ret (x_ret (ret_at ha hs rfl [nV 1] ⟨⟨0, _, _, _, rfl, rfl, by kernel_rfl⟩, trivial⟩ ?_))
    exact ret_n (of_decide_eq_true hb38).symm hs.ext
  ·
    have phb38 := of_decide_eq_false hb38
    refine s_call ha hs (.bool false) (fwhole_eq hx hb38 _ (by omega)) fun ac wd ha hs => ?_
    refine wpList_nil ((x_normal ?_))
    refine r_false ha ?_
    refine wp_skip ((x_normal ?_))
    refine wp_seq ?_
    refine wp_region_lit ?_
    refine s_val ha (.pointer (some ⟨g36, 3, none⟩)) fun ac ha => ?_
    refine s_load ha hs 1 (nV (d1 x.den)) fun ac ha => ?_
    refine s_store ha hs 0 _ fun ac wd ha hs => ?_
    refine wpList_nil ((x_normal ?_))
    refine wp_ret (ret_at ha hs rfl [nV (d1 x.den)] ⟨⟨0, _, _, _, rfl, rfl, by kernel_rfl⟩, trivial⟩ ?_)
    exact ret_n (d1_ne hb38) hs.ext
  
set_option maxHeartbeats 1000000 in
theorem fnum (x : Rat) (w : World) : Calls Tryz.prog 154 #[qV x] w (Ret (zV x.num) w) := by
  have hs := St.start w
  refine enter Tryz.func154 rfl Tryz.ntmps154 (by kernel_rfl) fun ac ha => ?_
  refine wp_seq ?_
  refine wp_region_lit ?_
  refine s_box ha hs [.bool (decide (x.num < 0)), .int .u64 (lo x.num.natAbs : Nat), .string (hi x.num.natAbs), .int .u64 (lo (d1 x.den) : Nat), .string (hi (d1 x.den))] fun g39 ac wd ha hs => ?_
  refine s_alloc ha hs [.bool false, .int .u64 0, .string (⟨#[]⟩)] fun g40 ac wd ha hs => ?_
  refine wpList_nil ((x_normal ?_))
  refine wp_seq ?_
  refine wp_region_lit ?_
  refine s_val ha (.pointer (some ⟨g39, 0, none⟩)) fun ac ha => ?_
  refine s_load ha hs 1 (zV x.num) fun ac ha => ?_
  refine s_store ha hs 0 _ fun ac wd ha hs => ?_
  refine wpList_nil ((x_normal ?_))
  refine wp_ret (ret_at ha hs rfl [zV x.num] ⟨⟨0, _, _, _, rfl, rfl, by kernel_rfl⟩, trivial⟩ ?_)
  exact ⟨rfl, hs.ext⟩
  
set_option maxHeartbeats 1000000 in
theorem fsign {k : Nat} {x : Rat} (hx : Sq k x) (w : World) (hk : k ≤ 549755813888) : Calls Tryz.prog 16 #[qV x] w (Ret (.int .i64 x.num.sign) w) := by
  have hs := St.start w
  refine enter Tryz.func16 rfl Tryz.ntmps16 (by kernel_rfl) fun ac ha => ?_
  refine wp_seq ?_
  refine wp_region_lit ?_
  refine s_box ha hs [.bool (decide (x.num < 0)), .int .u64 (lo x.num.natAbs : Nat), .string (hi x.num.natAbs), .int .u64 (lo (d1 x.den) : Nat), .string (hi (d1 x.den))] fun g41 ac wd ha hs => ?_
  refine s_val ha (.int .i64 0) fun ac ha => ?_
  refine wpList_nil ((x_normal ?_))
  refine wp_seq ?_
  refine wp_region_lit ?_
  refine s_val ha (.pointer (some ⟨g41, 0, none⟩)) fun ac ha => ?_
  refine s_load ha hs 0 (zV x.num) fun ac ha => ?_
  refine s_call ha hs (.int .i64 x.num.sign) (zsign hx.num _ (by omega)) fun ac wd ha hs => ?_
  refine s_val ha (.int .i64 x.num.sign) fun ac ha => ?_
  refine wpList_nil ((x_normal ?_))
  refine wp_ret (ret_at ha hs rfl [.int .i64 x.num.sign] ⟨rfl, trivial⟩ ?_)
  exact ⟨rfl, hs.ext⟩
  
set_option maxHeartbeats 1000000 in
theorem fneg {k : Nat} {x : Rat} (hx : Sq k x) (w : World) (hk : k ≤ 549755813888) : Calls Tryz.prog 81 #[qV x] w (Ret (qV (-x)) w) := by
  have hs := St.start w
  refine enter Tryz.func81 rfl Tryz.ntmps81 (by kernel_rfl) fun ac ha => ?_
  refine wp_seq ?_
  refine wp_region_lit ?_
  refine s_box ha hs [.bool (decide (x.num < 0)), .int .u64 (lo x.num.natAbs : Nat), .string (hi x.num.natAbs), .int .u64 (lo (d1 x.den) : Nat), .string (hi (d1 x.den))] fun g42 ac wd ha hs => ?_
  refine s_alloc ha hs [.bool false, .int .u64 0, .string (⟨#[]⟩), .int .u64 0, .string (⟨#[]⟩)] fun g43 ac wd ha hs => ?_
  refine wpList_nil ((x_normal ?_))
  refine wp_seq ?_
  refine region_sp ha 6 [.eq (.pointer (some ⟨g42, 0, none⟩)), .eq (zV x.num), .eq (zV (-x.num)), .eq (.pointer (some ⟨g42, 3, none⟩)), .eq (nV (d1 x.den)), .eq (qP (-x.num) x.den)] [] [] (fun _ hb => by cases hb)
    ⟨d_val, d_load hs 1, d_call (fun _ hw => zneg hx.num _ (by omega)), d_val, d_load hs 1, d_val, trivial⟩ ?_
  intro vv wd1 ac hw hG hN ha
  have ha := ha.sub [(0, qV x), (2, .pointer (some ⟨g43, 0, none⟩)), (8, qP (-x.num) x.den)]
  clear hG hN
  have hs := hs.go hw
  clear hw
  refine keeps_nil ?_
  show wpList _ _ _ _ _ _
  refine s_store ha hs 0 _ fun ac wd ha hs => ?_
  refine wpList_nil ((x_normal ?_))
  refine wp_ret (ret_at ha hs rfl [qP (-x.num) x.den] ⟨⟨0, _, _, _, rfl, rfl, by kernel_rfl⟩, trivial⟩ ?_)
  exact ⟨rfl, hs.ext⟩
  
set_option maxHeartbeats 1000000 in
theorem fadd {j k : Nat} {x y : Rat} (hx : Sq j x) (hy : Sq k y) (w : World) (htab : Tab64 w) (hk : max j k ≤ 40000000000) : Calls Tryz.prog 21 #[qV x, qV y] w (Ret (qV (x + y)) w) := by
  have hgp : 0 < Nat.gcd (((x.den : Nat) : Int).natAbs) (((y.den : Nat) : Int).natAbs) := Nat.gcd_pos_of_pos_left _ x.den_pos
  have hs := St.start w
  refine enter Tryz.func21 rfl Tryz.ntmps21 (by kernel_rfl) fun ac ha => ?_
  refine wp_seq ?_
  refine wp_region_lit ?_
  refine s_box ha hs [.bool (decide (x.num < 0)), .int .u64 (lo x.num.natAbs : Nat), .string (hi x.num.natAbs), .int .u64 (lo (d1 x.den) : Nat), .string (hi (d1 x.den))] fun g45 ac wd ha hs => ?_
  refine s_box ha hs [.bool (decide (y.num < 0)), .int .u64 (lo y.num.natAbs : Nat), .string (hi y.num.natAbs), .int .u64 (lo (d1 y.den) : Nat), .string (hi (d1 y.den))] fun g46 ac wd ha hs => ?_
  refine s_alloc ha hs [.bool false, .int .u64 0, .string (⟨#[]⟩), .int .u64 0, .string (⟨#[]⟩)] fun g47 ac wd ha hs => ?_
  refine wpList_nil ((x_normal ?_))
  refine wp_seq ?_
  refine wp_seq ?_
  refine wp_region_lit ?_
  refine s_load ha hs 2 (qV x) fun ac ha => ?_
  rcases Bool.eq_false_or_eq_true (decide (x.den = 1)) with hb48 | hb48
  ·
    have phb48 := of_decide_eq_true hb48
    refine s_call ha hs (.bool true) (fwhole_eq hx hb48 _ (by omega)) fun ac wd ha hs => ?_
    refine s_val ha (.bool true) fun ac ha => ?_
    refine s_load ha hs 1 (qV y) fun ac ha => ?_
    rcases Bool.eq_false_or_eq_true (decide (y.den = 1)) with hb49 | hb49
    ·
      have phb49 := of_decide_eq_true hb49
      refine s_call ha hs (.bool true) (fwhole_eq hy hb49 _ (by omega)) fun ac wd ha hs => ?_
      refine s_val ha (.bool true) fun ac ha => ?_
      refine wpList_nil ((x_normal ?_))
      refine r_true ha ?_
      refine wp_seq ?_
      refine wp_region_lit ?_
      refine s_val ha (.pointer (some ⟨g45, 0, none⟩)) fun ac ha => ?_
      refine s_load ha hs 2 (zV x.num) fun ac ha => ?_
      refine s_val ha (.pointer (some ⟨g46, 0, none⟩)) fun ac ha => ?_
      refine s_load ha hs 1 (zV y.num) fun ac ha => ?_
      refine s_call ha hs (zV (x.num + y.num)) (zadd hx.num hy.num _ (by omega)) fun ac wd ha hs => ?_
      refine s_eq ha (qP (x.num + y.num) 1) (qP_one _) fun ac ha => ?_
      refine s_store ha hs 0 _ fun ac wd ha hs => ?_
      refine wpList_nil ((x_normal ?_))
      refine wp_ret (x_ret (ret_at ha hs rfl [qP (x.num + y.num) 1] ⟨⟨0, _, _, _, rfl, rfl, by kernel_rfl⟩, trivial⟩ ?_))
      obtain ⟨e1, e2⟩ := add_whole (of_decide_eq_true hb48) (of_decide_eq_true hb49)
      exact ret_v (by rw [← e1, ← e2]; rfl) hs.ext
    ·
      have phb49 := of_decide_eq_false hb49
      refine s_call ha hs (.bool false) (fwhole_eq hy hb49 _ (by omega)) fun ac wd ha hs => ?_
      refine s_val ha (.bool false) fun ac ha => ?_
      refine wpList_nil ((x_normal ?_))
      refine r_false ha ?_
      refine wp_skip ((x_normal ?_))
      refine wp_seq ?_
      refine region_sp ha 8 [.eq (qV x), .eq (nV x.den), .eq (zV ((x.den : Nat) : Int)), .eq (qV y), .eq (nV y.den), .eq (zV ((y.den : Nat) : Int)), .eq (nV (Nat.gcd (((x.den : Nat) : Int).natAbs) (((y.den : Nat) : Int).natAbs))), .new _ 30 [.int .u64 0, .string (⟨#[]⟩)]] [] [] (fun _ hb => by cases hb)
        ⟨d_load hs 2, d_call (fun _ hw => fden hx _ (by omega)), d_call (fun _ hw => from_any false hx.den (by omega) _), d_load hs 1, d_call (fun _ hw => fden hy _ (by omega)), d_call (fun _ hw => from_any false hy.den (by omega) _), d_call (fun _ hw => zgcd (Sm.cast hx.den) (Sm.cast hy.den) _ (htab.ext (hs.go hw).ext) (by omega)), d_new, trivial⟩ ?_
      intro vv wd1 ac hw hG hN ha
      have ha := ha.sub [(0, qV x), (1, qV y), (2, .pointer (some ⟨g45, 0, none⟩)), (3, .pointer (some ⟨g46, 0, none⟩)), (4, .pointer (some ⟨g47, 0, none⟩)), (10, qV x), (11, .bool true), (12, .bool true), (13, qV y), (14, .bool false), (15, .bool false), (28, nV (Nat.gcd (((x.den : Nat) : Int).natAbs) (((y.den : Nat) : Int).natAbs))), (5, vv 7)]
      have h_g51 : NewAt _ 30 [.int .u64 0, .string (⟨#[]⟩)] (vv 7) wd1 := hG 7 5 (by decide) rfl
      clear hG hN
      obtain ⟨g51, b_g51, e_g51, h_g51⟩ := h_g51
      rw [e_g51] at ha
      clear e_g51
      have hs := hs.new hw b_g51 h_g51
      clear hw
      refine keeps_nil ?_
      show wpList _ _ _ _ _ _
      refine s_store ha hs 0 _ fun ac wd ha hs => ?_
      refine wpList_nil ((x_normal ?_))
      refine wp_seq ?_
      refine region_sp ha 10 [.eq (qV x), .eq (nV x.den), .eq (nV (Nat.gcd (((x.den : Nat) : Int).natAbs) (((y.den : Nat) : Int).natAbs))), .eq (nV (x.den / (Nat.gcd (((x.den : Nat) : Int).natAbs) (((y.den : Nat) : Int).natAbs)))), .eq (qV y), .eq (nV y.den), .eq (nV (Nat.gcd (((x.den : Nat) : Int).natAbs) (((y.den : Nat) : Int).natAbs))), .eq (nV (y.den / (Nat.gcd (((x.den : Nat) : Int).natAbs) (((y.den : Nat) : Int).natAbs)))), .new _ 30 [.int .u64 0, .string (⟨#[]⟩)], .new _ 30 [.int .u64 0, .string (⟨#[]⟩)]] [] [] (fun _ hb => by cases hb)
        ⟨d_load hs 3, d_call (fun _ hw => fden hx _ (by omega)), d_load hs 0, d_call (fun _ hw => fover hx.den (Sm.gcd (Sm.cast hx.den) (Sm.cast hy.den)) (Nat.gcd_pos_of_pos_right (((x.den : Nat) : Int).natAbs) (show 0 < (((y.den : Nat) : Int).natAbs) from y.den_pos)) _ (by omega)), d_load hs 2, d_call (fun _ hw => fden hy _ (by omega)), d_load hs 0, d_call (fun _ hw => fover hy.den (Sm.gcd (Sm.cast hx.den) (Sm.cast hy.den)) (Nat.gcd_pos_of_pos_right (((x.den : Nat) : Int).natAbs) (show 0 < (((y.den : Nat) : Int).natAbs) from y.den_pos)) _ (by omega)), d_new, d_new, trivial⟩ ?_
      intro vv wd1 ac hw hG hN ha
      have ha := ha.sub [(0, qV x), (1, qV y), (2, .pointer (some ⟨g45, 0, none⟩)), (3, .pointer (some ⟨g46, 0, none⟩)), (4, .pointer (some ⟨g47, 0, none⟩)), (10, qV x), (11, .bool true), (12, .bool true), (13, qV y), (14, .bool false), (15, .bool false), (28, nV (Nat.gcd (((x.den : Nat) : Int).natAbs) (((y.den : Nat) : Int).natAbs))), (5, .pointer (some ⟨g51, 0, none⟩)), (32, nV (x.den / (Nat.gcd (((x.den : Nat) : Int).natAbs) (((y.den : Nat) : Int).natAbs)))), (36, nV (y.den / (Nat.gcd (((x.den : Nat) : Int).natAbs) (((y.den : Nat) : Int).natAbs)))), (6, vv 8), (7, vv 9)]
      have h_g53 : NewAt _ 30 [.int .u64 0, .string (⟨#[]⟩)] (vv 8) wd1 := hG 8 6 (by decide) rfl
      have h_g54 : NewAt _ 30 [.int .u64 0, .string (⟨#[]⟩)] (vv 9) wd1 := hG 9 7 (by decide) rfl
      have n_g53_g54 : vv 8 ≠ vv 9 := hN 8 9 (by decide) (by decide) (by decide) rfl rfl
      clear hG hN
      obtain ⟨g53, b_g53, e_g53, h_g53⟩ := h_g53
      rw [e_g53] at ha n_g53_g54
      clear e_g53
      obtain ⟨g54, b_g54, e_g54, h_g54⟩ := h_g54
      rw [e_g54] at ha n_g53_g54
      clear e_g54
      have hs := hs.news hw [(g54, 30, [.int .u64 0, .string (⟨#[]⟩)]), (g53, 30, [.int .u64 0, .string (⟨#[]⟩)])] ⟨⟨b_g54, h_g54⟩, ⟨b_g53, h_g53⟩, trivial⟩ ⟨⟨ptr_ne n_g53_g54.symm, trivial⟩, trivial, trivial⟩
      clear hw
      refine keeps_nil ?_
      show wpList _ _ _ _ _ _
      refine s_store ha hs 1 _ fun ac wd ha hs => ?_
      refine s_store ha hs 0 _ fun ac wd ha hs => ?_
      refine wpList_nil ((x_normal ?_))
      refine wp_seq ?_
      refine region_sp ha 10 [.eq (.pointer (some ⟨g45, 0, none⟩)), .eq (zV x.num), .eq (nV (y.den / (Nat.gcd (((x.den : Nat) : Int).natAbs) (((y.den : Nat) : Int).natAbs)))), .eq (zV (x.num * ((y.den / (Nat.gcd (((x.den : Nat) : Int).natAbs) (((y.den : Nat) : Int).natAbs)) : Nat) : Int))), .eq (.pointer (some ⟨g46, 0, none⟩)), .eq (zV y.num), .eq (nV (x.den / (Nat.gcd (((x.den : Nat) : Int).natAbs) (((y.den : Nat) : Int).natAbs)))), .eq (zV (y.num * ((x.den / (Nat.gcd (((x.den : Nat) : Int).natAbs) (((y.den : Nat) : Int).natAbs)) : Nat) : Int))), .eq (zV ((x.num * ((y.den / (Nat.gcd (((x.den : Nat) : Int).natAbs) (((y.den : Nat) : Int).natAbs)) : Nat) : Int)) + (y.num * ((x.den / (Nat.gcd (((x.den : Nat) : Int).natAbs) (((y.den : Nat) : Int).natAbs)) : Nat) : Int)))), .new _ 32 [.bool false, .int .u64 0, .string (⟨#[]⟩)]] [] [] (fun _ hb => by cases hb)
        ⟨d_val, d_load hs 5, d_load hs 0, d_call (fun _ hw => ftimes hx.num (hy.den.div (Nat.gcd (((x.den : Nat) : Int).natAbs) (((y.den : Nat) : Int).natAbs))) _ (by omega)), d_val, d_load hs 4, d_load hs 1, d_call (fun _ hw => ftimes hy.num (hx.den.div (Nat.gcd (((x.den : Nat) : Int).natAbs) (((y.den : Nat) : Int).natAbs))) _ (by omega)), d_call (fun _ hw => zadd (hx.num.zmul (Sm.cast (hy.den.div (Nat.gcd (((x.den : Nat) : Int).natAbs) (((y.den : Nat) : Int).natAbs))))) (hy.num.zmul (Sm.cast (hx.den.div (Nat.gcd (((x.den : Nat) : Int).natAbs) (((y.den : Nat) : Int).natAbs))))) _ (by omega)), d_new, trivial⟩ ?_
      intro vv wd1 ac hw hG hN ha
      have ha := ha.sub [(0, qV x), (1, qV y), (2, .pointer (some ⟨g45, 0, none⟩)), (3, .pointer (some ⟨g46, 0, none⟩)), (4, .pointer (some ⟨g47, 0, none⟩)), (10, qV x), (11, .bool true), (12, .bool true), (13, qV y), (14, .bool false), (15, .bool false), (28, nV (Nat.gcd (((x.den : Nat) : Int).natAbs) (((y.den : Nat) : Int).natAbs))), (5, .pointer (some ⟨g51, 0, none⟩)), (32, nV (x.den / (Nat.gcd (((x.den : Nat) : Int).natAbs) (((y.den : Nat) : Int).natAbs)))), (36, nV (y.den / (Nat.gcd (((x.den : Nat) : Int).natAbs) (((y.den : Nat) : Int).natAbs)))), (6, .pointer (some ⟨g53, 0, none⟩)), (7, .pointer (some ⟨g54, 0, none⟩)), (45, zV ((x.num * ((y.den / (Nat.gcd (((x.den : Nat) : Int).natAbs) (((y.den : Nat) : Int).natAbs)) : Nat) : Int)) + (y.num * ((x.den / (Nat.gcd (((x.den : Nat) : Int).natAbs) (((y.den : Nat) : Int).natAbs)) : Nat) : Int)))), (8, vv 9)]
      have h_g56 : NewAt _ 32 [.bool false, .int .u64 0, .string (⟨#[]⟩)] (vv 9) wd1 := hG 9 8 (by decide) rfl
      clear hG hN
      obtain ⟨g56, b_g56, e_g56, h_g56⟩ := h_g56
      rw [e_g56] at ha
      clear e_g56
      have hs := hs.new hw b_g56 h_g56
      clear hw
      refine keeps_nil ?_
      show wpList _ _ _ _ _ _
      refine s_store ha hs 0 _ fun ac wd ha hs => ?_
      refine wpList_nil ((x_normal ?_))
      refine wp_seq ?_
      refine region_sp ha 5 [.eq (zV ((x.num * ((y.den / (Nat.gcd (((x.den : Nat) : Int).natAbs) (((y.den : Nat) : Int).natAbs)) : Nat) : Int)) + (y.num * ((x.den / (Nat.gcd (((x.den : Nat) : Int).natAbs) (((y.den : Nat) : Int).natAbs)) : Nat) : Int)))), .eq (nV (Nat.gcd (((x.den : Nat) : Int).natAbs) (((y.den : Nat) : Int).natAbs))), .eq (zV ((Nat.gcd (((x.den : Nat) : Int).natAbs) (((y.den : Nat) : Int).natAbs) : Nat) : Int)), .eq (nV (Nat.gcd (((x.num * ((y.den / (Nat.gcd (((x.den : Nat) : Int).natAbs) (((y.den : Nat) : Int).natAbs)) : Nat) : Int)) + (y.num * ((x.den / (Nat.gcd (((x.den : Nat) : Int).natAbs) (((y.den : Nat) : Int).natAbs)) : Nat) : Int))).natAbs) (((Nat.gcd (((x.den : Nat) : Int).natAbs) (((y.den : Nat) : Int).natAbs) : Nat) : Int).natAbs))), .new _ 30 [.int .u64 0, .string (⟨#[]⟩)]] [] [] (fun _ hb => by cases hb)
        ⟨d_load hs 0, d_load hs 3, d_call (fun _ hw => from_any false (Sm.gcd (Sm.cast hx.den) (Sm.cast hy.den)) (by omega) _), d_call (fun _ hw => zgcd ((hx.num.zmul (Sm.cast (hy.den.div (Nat.gcd (((x.den : Nat) : Int).natAbs) (((y.den : Nat) : Int).natAbs))))).zadd (hy.num.zmul (Sm.cast (hx.den.div (Nat.gcd (((x.den : Nat) : Int).natAbs) (((y.den : Nat) : Int).natAbs)))))) (Sm.cast (Sm.gcd (Sm.cast hx.den) (Sm.cast hy.den))) _ (htab.ext (hs.go hw).ext) (by omega)), d_new, trivial⟩ ?_
      intro vv wd1 ac hw hG hN ha
      have ha := ha.sub [(0, qV x), (1, qV y), (2, .pointer (some ⟨g45, 0, none⟩)), (3, .pointer (some ⟨g46, 0, none⟩)), (4, .pointer (some ⟨g47, 0, none⟩)), (10, qV x), (11, .bool true), (12, .bool true), (13, qV y), (14, .bool false), (15, .bool false), (28, nV (Nat.gcd (((x.den : Nat) : Int).natAbs) (((y.den : Nat) : Int).natAbs))), (5, .pointer (some ⟨g51, 0, none⟩)), (32, nV (x.den / (Nat.gcd (((x.den : Nat) : Int).natAbs) (((y.den : Nat) : Int).natAbs)))), (36, nV (y.den / (Nat.gcd (((x.den : Nat) : Int).natAbs) (((y.den : Nat) : Int).natAbs)))), (6, .pointer (some ⟨g53, 0, none⟩)), (7, .pointer (some ⟨g54, 0, none⟩)), (45, zV ((x.num * ((y.den / (Nat.gcd (((x.den : Nat) : Int).natAbs) (((y.den : Nat) : Int).natAbs)) : Nat) : Int)) + (y.num * ((x.den / (Nat.gcd (((x.den : Nat) : Int).natAbs) (((y.den : Nat) : Int).natAbs)) : Nat) : Int)))), (8, .pointer (some ⟨g56, 0, none⟩)), (49, nV (Nat.gcd (((x.num * ((y.den / (Nat.gcd (((x.den : Nat) : Int).natAbs) (((y.den : Nat) : Int).natAbs)) : Nat) : Int)) + (y.num * ((x.den / (Nat.gcd (((x.den : Nat) : Int).natAbs) (((y.den : Nat) : Int).natAbs)) : Nat) : Int))).natAbs) (((Nat.gcd (((x.den : Nat) : Int).natAbs) (((y.den : Nat) : Int).natAbs) : Nat) : Int).natAbs))), (9, vv 4)]
      have h_g58 : NewAt _ 30 [.int .u64 0, .string (⟨#[]⟩)] (vv 4) wd1 := hG 4 9 (by decide) rfl
      clear hG hN
      obtain ⟨g58, b_g58, e_g58, h_g58⟩ := h_g58
      rw [e_g58] at ha
      clear e_g58
      have hs := hs.new hw b_g58 h_g58
      clear hw
      refine keeps_nil ?_
      show wpList _ _ _ _ _ _
      refine s_store ha hs 0 _ fun ac wd ha hs => ?_
      refine wpList_nil ((x_normal ?_))
      refine wp_seq ?_
      refine region_sp ha 10 [.eq (zV ((x.num * ((y.den / (Nat.gcd (((x.den : Nat) : Int).natAbs) (((y.den : Nat) : Int).natAbs)) : Nat) : Int)) + (y.num * ((x.den / (Nat.gcd (((x.den : Nat) : Int).natAbs) (((y.den : Nat) : Int).natAbs)) : Nat) : Int)))), .eq (nV (Nat.gcd (((x.num * ((y.den / (Nat.gcd (((x.den : Nat) : Int).natAbs) (((y.den : Nat) : Int).natAbs)) : Nat) : Int)) + (y.num * ((x.den / (Nat.gcd (((x.den : Nat) : Int).natAbs) (((y.den : Nat) : Int).natAbs)) : Nat) : Int))).natAbs) (((Nat.gcd (((x.den : Nat) : Int).natAbs) (((y.den : Nat) : Int).natAbs) : Nat) : Int).natAbs))), .eq (zV (((x.num * ((y.den / (Nat.gcd (((x.den : Nat) : Int).natAbs) (((y.den : Nat) : Int).natAbs)) : Nat) : Int)) + (y.num * ((x.den / (Nat.gcd (((x.den : Nat) : Int).natAbs) (((y.den : Nat) : Int).natAbs)) : Nat) : Int))) / ((Nat.gcd (((x.num * ((y.den / (Nat.gcd (((x.den : Nat) : Int).natAbs) (((y.den : Nat) : Int).natAbs)) : Nat) : Int)) + (y.num * ((x.den / (Nat.gcd (((x.den : Nat) : Int).natAbs) (((y.den : Nat) : Int).natAbs)) : Nat) : Int))).natAbs) (((Nat.gcd (((x.den : Nat) : Int).natAbs) (((y.den : Nat) : Int).natAbs) : Nat) : Int).natAbs) : Nat) : Int))), .eq (nV (x.den / (Nat.gcd (((x.den : Nat) : Int).natAbs) (((y.den : Nat) : Int).natAbs)))), .eq (qV y), .eq (nV y.den), .eq (nV (Nat.gcd (((x.num * ((y.den / (Nat.gcd (((x.den : Nat) : Int).natAbs) (((y.den : Nat) : Int).natAbs)) : Nat) : Int)) + (y.num * ((x.den / (Nat.gcd (((x.den : Nat) : Int).natAbs) (((y.den : Nat) : Int).natAbs)) : Nat) : Int))).natAbs) (((Nat.gcd (((x.den : Nat) : Int).natAbs) (((y.den : Nat) : Int).natAbs) : Nat) : Int).natAbs))), .eq (nV (y.den / (Nat.gcd (((x.num * ((y.den / (Nat.gcd (((x.den : Nat) : Int).natAbs) (((y.den : Nat) : Int).natAbs)) : Nat) : Int)) + (y.num * ((x.den / (Nat.gcd (((x.den : Nat) : Int).natAbs) (((y.den : Nat) : Int).natAbs)) : Nat) : Int))).natAbs) (((Nat.gcd (((x.den : Nat) : Int).natAbs) (((y.den : Nat) : Int).natAbs) : Nat) : Int).natAbs)))), .eq (nV ((x.den / (Nat.gcd (((x.den : Nat) : Int).natAbs) (((y.den : Nat) : Int).natAbs))) * (y.den / (Nat.gcd (((x.num * ((y.den / (Nat.gcd (((x.den : Nat) : Int).natAbs) (((y.den : Nat) : Int).natAbs)) : Nat) : Int)) + (y.num * ((x.den / (Nat.gcd (((x.den : Nat) : Int).natAbs) (((y.den : Nat) : Int).natAbs)) : Nat) : Int))).natAbs) (((Nat.gcd (((x.den : Nat) : Int).natAbs) (((y.den : Nat) : Int).natAbs) : Nat) : Int).natAbs))))), .eq (qP (((x.num * ((y.den / (Nat.gcd (((x.den : Nat) : Int).natAbs) (((y.den : Nat) : Int).natAbs)) : Nat) : Int)) + (y.num * ((x.den / (Nat.gcd (((x.den : Nat) : Int).natAbs) (((y.den : Nat) : Int).natAbs)) : Nat) : Int))) / ((Nat.gcd (((x.num * ((y.den / (Nat.gcd (((x.den : Nat) : Int).natAbs) (((y.den : Nat) : Int).natAbs)) : Nat) : Int)) + (y.num * ((x.den / (Nat.gcd (((x.den : Nat) : Int).natAbs) (((y.den : Nat) : Int).natAbs)) : Nat) : Int))).natAbs) (((Nat.gcd (((x.den : Nat) : Int).natAbs) (((y.den : Nat) : Int).natAbs) : Nat) : Int).natAbs) : Nat) : Int)) ((x.den / (Nat.gcd (((x.den : Nat) : Int).natAbs) (((y.den : Nat) : Int).natAbs))) * (y.den / (Nat.gcd (((x.num * ((y.den / (Nat.gcd (((x.den : Nat) : Int).natAbs) (((y.den : Nat) : Int).natAbs)) : Nat) : Int)) + (y.num * ((x.den / (Nat.gcd (((x.den : Nat) : Int).natAbs) (((y.den : Nat) : Int).natAbs)) : Nat) : Int))).natAbs) (((Nat.gcd (((x.den : Nat) : Int).natAbs) (((y.den : Nat) : Int).natAbs) : Nat) : Int).natAbs)))))] [] [] (fun _ hb => by cases hb)
        ⟨d_load hs 1, d_load hs 0, d_call (fun _ hw => fpart ((hx.num.zmul (Sm.cast (hy.den.div (Nat.gcd (((x.den : Nat) : Int).natAbs) (((y.den : Nat) : Int).natAbs))))).zadd (hy.num.zmul (Sm.cast (hx.den.div (Nat.gcd (((x.den : Nat) : Int).natAbs) (((y.den : Nat) : Int).natAbs)))))) (Sm.gcd ((hx.num.zmul (Sm.cast (hy.den.div (Nat.gcd (((x.den : Nat) : Int).natAbs) (((y.den : Nat) : Int).natAbs))))).zadd (hy.num.zmul (Sm.cast (hx.den.div (Nat.gcd (((x.den : Nat) : Int).natAbs) (((y.den : Nat) : Int).natAbs)))))) (Sm.cast (Sm.gcd (Sm.cast hx.den) (Sm.cast hy.den)))) (Nat.gcd_pos_of_pos_right (((x.num * ((y.den / (Nat.gcd (((x.den : Nat) : Int).natAbs) (((y.den : Nat) : Int).natAbs)) : Nat) : Int)) + (y.num * ((x.den / (Nat.gcd (((x.den : Nat) : Int).natAbs) (((y.den : Nat) : Int).natAbs)) : Nat) : Int))).natAbs) (show 0 < (((Nat.gcd (((x.den : Nat) : Int).natAbs) (((y.den : Nat) : Int).natAbs) : Nat) : Int).natAbs) from hgp)) (Nat.gcd_dvd_left (((x.num * ((y.den / (Nat.gcd (((x.den : Nat) : Int).natAbs) (((y.den : Nat) : Int).natAbs)) : Nat) : Int)) + (y.num * ((x.den / (Nat.gcd (((x.den : Nat) : Int).natAbs) (((y.den : Nat) : Int).natAbs)) : Nat) : Int))).natAbs) (((Nat.gcd (((x.den : Nat) : Int).natAbs) (((y.den : Nat) : Int).natAbs) : Nat) : Int).natAbs)) _ (by omega)), d_load hs 3, d_load hs 6, d_call (fun _ hw => fden hy _ (by omega)), d_load hs 0, d_call (fun _ hw => fover hy.den (Sm.gcd ((hx.num.zmul (Sm.cast (hy.den.div (Nat.gcd (((x.den : Nat) : Int).natAbs) (((y.den : Nat) : Int).natAbs))))).zadd (hy.num.zmul (Sm.cast (hx.den.div (Nat.gcd (((x.den : Nat) : Int).natAbs) (((y.den : Nat) : Int).natAbs)))))) (Sm.cast (Sm.gcd (Sm.cast hx.den) (Sm.cast hy.den)))) (Nat.gcd_pos_of_pos_right (((x.num * ((y.den / (Nat.gcd (((x.den : Nat) : Int).natAbs) (((y.den : Nat) : Int).natAbs)) : Nat) : Int)) + (y.num * ((x.den / (Nat.gcd (((x.den : Nat) : Int).natAbs) (((y.den : Nat) : Int).natAbs)) : Nat) : Int))).natAbs) (show 0 < (((Nat.gcd (((x.den : Nat) : Int).natAbs) (((y.den : Nat) : Int).natAbs) : Nat) : Int).natAbs) from hgp)) _ (by omega)), d_call (fun _ hw => cmul (hx.den.div (Nat.gcd (((x.den : Nat) : Int).natAbs) (((y.den : Nat) : Int).natAbs))) (hy.den.div (Nat.gcd (((x.num * ((y.den / (Nat.gcd (((x.den : Nat) : Int).natAbs) (((y.den : Nat) : Int).natAbs)) : Nat) : Int)) + (y.num * ((x.den / (Nat.gcd (((x.den : Nat) : Int).natAbs) (((y.den : Nat) : Int).natAbs)) : Nat) : Int))).natAbs) (((Nat.gcd (((x.den : Nat) : Int).natAbs) (((y.den : Nat) : Int).natAbs) : Nat) : Int).natAbs))) _ (by omega)), d_call (fun _ hw => fpack (((x.num * ((y.den / (Nat.gcd (((x.den : Nat) : Int).natAbs) (((y.den : Nat) : Int).natAbs)) : Nat) : Int)) + (y.num * ((x.den / (Nat.gcd (((x.den : Nat) : Int).natAbs) (((y.den : Nat) : Int).natAbs)) : Nat) : Int))) / ((Nat.gcd (((x.num * ((y.den / (Nat.gcd (((x.den : Nat) : Int).natAbs) (((y.den : Nat) : Int).natAbs)) : Nat) : Int)) + (y.num * ((x.den / (Nat.gcd (((x.den : Nat) : Int).natAbs) (((y.den : Nat) : Int).natAbs)) : Nat) : Int))).natAbs) (((Nat.gcd (((x.den : Nat) : Int).natAbs) (((y.den : Nat) : Int).natAbs) : Nat) : Int).natAbs) : Nat) : Int)) ((hx.den.div (Nat.gcd (((x.den : Nat) : Int).natAbs) (((y.den : Nat) : Int).natAbs))).mul (hy.den.div (Nat.gcd (((x.num * ((y.den / (Nat.gcd (((x.den : Nat) : Int).natAbs) (((y.den : Nat) : Int).natAbs)) : Nat) : Int)) + (y.num * ((x.den / (Nat.gcd (((x.den : Nat) : Int).natAbs) (((y.den : Nat) : Int).natAbs)) : Nat) : Int))).natAbs) (((Nat.gcd (((x.den : Nat) : Int).natAbs) (((y.den : Nat) : Int).natAbs) : Nat) : Int).natAbs)))) _ (by omega)), trivial⟩ ?_
      intro vv wd1 ac hw hG hN ha
      have ha := ha.sub [(0, qV x), (1, qV y), (2, .pointer (some ⟨g45, 0, none⟩)), (3, .pointer (some ⟨g46, 0, none⟩)), (4, .pointer (some ⟨g47, 0, none⟩)), (10, qV x), (11, .bool true), (12, .bool true), (13, qV y), (14, .bool false), (15, .bool false), (28, nV (Nat.gcd (((x.den : Nat) : Int).natAbs) (((y.den : Nat) : Int).natAbs))), (5, .pointer (some ⟨g51, 0, none⟩)), (32, nV (x.den / (Nat.gcd (((x.den : Nat) : Int).natAbs) (((y.den : Nat) : Int).natAbs)))), (36, nV (y.den / (Nat.gcd (((x.den : Nat) : Int).natAbs) (((y.den : Nat) : Int).natAbs)))), (6, .pointer (some ⟨g53, 0, none⟩)), (7, .pointer (some ⟨g54, 0, none⟩)), (45, zV ((x.num * ((y.den / (Nat.gcd (((x.den : Nat) : Int).natAbs) (((y.den : Nat) : Int).natAbs)) : Nat) : Int)) + (y.num * ((x.den / (Nat.gcd (((x.den : Nat) : Int).natAbs) (((y.den : Nat) : Int).natAbs)) : Nat) : Int)))), (8, .pointer (some ⟨g56, 0, none⟩)), (49, nV (Nat.gcd (((x.num * ((y.den / (Nat.gcd (((x.den : Nat) : Int).natAbs) (((y.den : Nat) : Int).natAbs)) : Nat) : Int)) + (y.num * ((x.den / (Nat.gcd (((x.den : Nat) : Int).natAbs) (((y.den : Nat) : Int).natAbs)) : Nat) : Int))).natAbs) (((Nat.gcd (((x.den : Nat) : Int).natAbs) (((y.den : Nat) : Int).natAbs) : Nat) : Int).natAbs))), (9, .pointer (some ⟨g58, 0, none⟩)), (59, qP (((x.num * ((y.den / (Nat.gcd (((x.den : Nat) : Int).natAbs) (((y.den : Nat) : Int).natAbs)) : Nat) : Int)) + (y.num * ((x.den / (Nat.gcd (((x.den : Nat) : Int).natAbs) (((y.den : Nat) : Int).natAbs)) : Nat) : Int))) / ((Nat.gcd (((x.num * ((y.den / (Nat.gcd (((x.den : Nat) : Int).natAbs) (((y.den : Nat) : Int).natAbs)) : Nat) : Int)) + (y.num * ((x.den / (Nat.gcd (((x.den : Nat) : Int).natAbs) (((y.den : Nat) : Int).natAbs)) : Nat) : Int))).natAbs) (((Nat.gcd (((x.den : Nat) : Int).natAbs) (((y.den : Nat) : Int).natAbs) : Nat) : Int).natAbs) : Nat) : Int)) ((x.den / (Nat.gcd (((x.den : Nat) : Int).natAbs) (((y.den : Nat) : Int).natAbs))) * (y.den / (Nat.gcd (((x.num * ((y.den / (Nat.gcd (((x.den : Nat) : Int).natAbs) (((y.den : Nat) : Int).natAbs)) : Nat) : Int)) + (y.num * ((x.den / (Nat.gcd (((x.den : Nat) : Int).natAbs) (((y.den : Nat) : Int).natAbs)) : Nat) : Int))).natAbs) (((Nat.gcd (((x.den : Nat) : Int).natAbs) (((y.den : Nat) : Int).natAbs) : Nat) : Int).natAbs)))))]
      clear hG hN
      have hs := hs.go hw
      clear hw
      refine keeps_nil ?_
      show wpList _ _ _ _ _ _
      refine s_store ha hs 5 _ fun ac wd ha hs => ?_
      refine wpList_nil ((x_normal ?_))
      refine wp_ret (ret_at ha hs rfl [qP (((x.num * ((y.den / (Nat.gcd (((x.den : Nat) : Int).natAbs) (((y.den : Nat) : Int).natAbs)) : Nat) : Int)) + (y.num * ((x.den / (Nat.gcd (((x.den : Nat) : Int).natAbs) (((y.den : Nat) : Int).natAbs)) : Nat) : Int))) / ((Nat.gcd (((x.num * ((y.den / (Nat.gcd (((x.den : Nat) : Int).natAbs) (((y.den : Nat) : Int).natAbs)) : Nat) : Int)) + (y.num * ((x.den / (Nat.gcd (((x.den : Nat) : Int).natAbs) (((y.den : Nat) : Int).natAbs)) : Nat) : Int))).natAbs) (((Nat.gcd (((x.den : Nat) : Int).natAbs) (((y.den : Nat) : Int).natAbs) : Nat) : Int).natAbs) : Nat) : Int)) ((x.den / (Nat.gcd (((x.den : Nat) : Int).natAbs) (((y.den : Nat) : Int).natAbs))) * (y.den / (Nat.gcd (((x.num * ((y.den / (Nat.gcd (((x.den : Nat) : Int).natAbs) (((y.den : Nat) : Int).natAbs)) : Nat) : Int)) + (y.num * ((x.den / (Nat.gcd (((x.den : Nat) : Int).natAbs) (((y.den : Nat) : Int).natAbs)) : Nat) : Int))).natAbs) (((Nat.gcd (((x.den : Nat) : Int).natAbs) (((y.den : Nat) : Int).natAbs) : Nat) : Int).natAbs))))] ⟨⟨5, _, _, _, rfl, rfl, by kernel_rfl⟩, trivial⟩ ?_)
      exact ret_v (add_eq x y rfl rfl rfl rfl rfl) hs.ext
  ·
    have phb48 := of_decide_eq_false hb48
    refine s_call ha hs (.bool false) (fwhole_eq hx hb48 _ (by omega)) fun ac wd ha hs => ?_
    refine s_val ha (.bool false) fun ac ha => ?_
    refine s_not ha fun ac ha => ?_
    refine s_not ha fun ac ha => ?_
    refine s_val ha (.bool false) fun ac ha => ?_
    refine wpList_nil ((x_normal ?_))
    refine r_false ha ?_
    refine wp_skip ((x_normal ?_))
    refine wp_seq ?_
    refine region_sp ha 8 [.eq (qV x), .eq (nV x.den), .eq (zV ((x.den : Nat) : Int)), .eq (qV y), .eq (nV y.den), .eq (zV ((y.den : Nat) : Int)), .eq (nV (Nat.gcd (((x.den : Nat) : Int).natAbs) (((y.den : Nat) : Int).natAbs))), .new _ 30 [.int .u64 0, .string (⟨#[]⟩)]] [] [] (fun _ hb => by cases hb)
      ⟨d_load hs 2, d_call (fun _ hw => fden hx _ (by omega)), d_call (fun _ hw => from_any false hx.den (by omega) _), d_load hs 1, d_call (fun _ hw => fden hy _ (by omega)), d_call (fun _ hw => from_any false hy.den (by omega) _), d_call (fun _ hw => zgcd (Sm.cast hx.den) (Sm.cast hy.den) _ (htab.ext (hs.go hw).ext) (by omega)), d_new, trivial⟩ ?_
    intro vv wd1 ac hw hG hN ha
    have ha := ha.sub [(0, qV x), (1, qV y), (2, .pointer (some ⟨g45, 0, none⟩)), (3, .pointer (some ⟨g46, 0, none⟩)), (4, .pointer (some ⟨g47, 0, none⟩)), (10, qV x), (11, .bool false), (12, .bool false), (13, undef), (14, undef), (15, .bool false), (28, nV (Nat.gcd (((x.den : Nat) : Int).natAbs) (((y.den : Nat) : Int).natAbs))), (5, vv 7)]
    have h_g61 : NewAt _ 30 [.int .u64 0, .string (⟨#[]⟩)] (vv 7) wd1 := hG 7 5 (by decide) rfl
    clear hG hN
    obtain ⟨g61, b_g61, e_g61, h_g61⟩ := h_g61
    rw [e_g61] at ha
    clear e_g61
    have hs := hs.new hw b_g61 h_g61
    clear hw
    refine keeps_nil ?_
    show wpList _ _ _ _ _ _
    refine s_store ha hs 0 _ fun ac wd ha hs => ?_
    refine wpList_nil ((x_normal ?_))
    refine wp_seq ?_
    refine region_sp ha 10 [.eq (qV x), .eq (nV x.den), .eq (nV (Nat.gcd (((x.den : Nat) : Int).natAbs) (((y.den : Nat) : Int).natAbs))), .eq (nV (x.den / (Nat.gcd (((x.den : Nat) : Int).natAbs) (((y.den : Nat) : Int).natAbs)))), .eq (qV y), .eq (nV y.den), .eq (nV (Nat.gcd (((x.den : Nat) : Int).natAbs) (((y.den : Nat) : Int).natAbs))), .eq (nV (y.den / (Nat.gcd (((x.den : Nat) : Int).natAbs) (((y.den : Nat) : Int).natAbs)))), .new _ 30 [.int .u64 0, .string (⟨#[]⟩)], .new _ 30 [.int .u64 0, .string (⟨#[]⟩)]] [] [] (fun _ hb => by cases hb)
      ⟨d_load hs 3, d_call (fun _ hw => fden hx _ (by omega)), d_load hs 0, d_call (fun _ hw => fover hx.den (Sm.gcd (Sm.cast hx.den) (Sm.cast hy.den)) (Nat.gcd_pos_of_pos_right (((x.den : Nat) : Int).natAbs) (show 0 < (((y.den : Nat) : Int).natAbs) from y.den_pos)) _ (by omega)), d_load hs 2, d_call (fun _ hw => fden hy _ (by omega)), d_load hs 0, d_call (fun _ hw => fover hy.den (Sm.gcd (Sm.cast hx.den) (Sm.cast hy.den)) (Nat.gcd_pos_of_pos_right (((x.den : Nat) : Int).natAbs) (show 0 < (((y.den : Nat) : Int).natAbs) from y.den_pos)) _ (by omega)), d_new, d_new, trivial⟩ ?_
    intro vv wd1 ac hw hG hN ha
    have ha := ha.sub [(0, qV x), (1, qV y), (2, .pointer (some ⟨g45, 0, none⟩)), (3, .pointer (some ⟨g46, 0, none⟩)), (4, .pointer (some ⟨g47, 0, none⟩)), (10, qV x), (11, .bool false), (12, .bool false), (13, undef), (14, undef), (15, .bool false), (28, nV (Nat.gcd (((x.den : Nat) : Int).natAbs) (((y.den : Nat) : Int).natAbs))), (5, .pointer (some ⟨g61, 0, none⟩)), (32, nV (x.den / (Nat.gcd (((x.den : Nat) : Int).natAbs) (((y.den : Nat) : Int).natAbs)))), (36, nV (y.den / (Nat.gcd (((x.den : Nat) : Int).natAbs) (((y.den : Nat) : Int).natAbs)))), (6, vv 8), (7, vv 9)]
    have h_g63 : NewAt _ 30 [.int .u64 0, .string (⟨#[]⟩)] (vv 8) wd1 := hG 8 6 (by decide) rfl
    have h_g64 : NewAt _ 30 [.int .u64 0, .string (⟨#[]⟩)] (vv 9) wd1 := hG 9 7 (by decide) rfl
    have n_g63_g64 : vv 8 ≠ vv 9 := hN 8 9 (by decide) (by decide) (by decide) rfl rfl
    clear hG hN
    obtain ⟨g63, b_g63, e_g63, h_g63⟩ := h_g63
    rw [e_g63] at ha n_g63_g64
    clear e_g63
    obtain ⟨g64, b_g64, e_g64, h_g64⟩ := h_g64
    rw [e_g64] at ha n_g63_g64
    clear e_g64
    have hs := hs.news hw [(g64, 30, [.int .u64 0, .string (⟨#[]⟩)]), (g63, 30, [.int .u64 0, .string (⟨#[]⟩)])] ⟨⟨b_g64, h_g64⟩, ⟨b_g63, h_g63⟩, trivial⟩ ⟨⟨ptr_ne n_g63_g64.symm, trivial⟩, trivial, trivial⟩
    clear hw
    refine keeps_nil ?_
    show wpList _ _ _ _ _ _
    refine s_store ha hs 1 _ fun ac wd ha hs => ?_
    refine s_store ha hs 0 _ fun ac wd ha hs => ?_
    refine wpList_nil ((x_normal ?_))
    refine wp_seq ?_
    refine region_sp ha 10 [.eq (.pointer (some ⟨g45, 0, none⟩)), .eq (zV x.num), .eq (nV (y.den / (Nat.gcd (((x.den : Nat) : Int).natAbs) (((y.den : Nat) : Int).natAbs)))), .eq (zV (x.num * ((y.den / (Nat.gcd (((x.den : Nat) : Int).natAbs) (((y.den : Nat) : Int).natAbs)) : Nat) : Int))), .eq (.pointer (some ⟨g46, 0, none⟩)), .eq (zV y.num), .eq (nV (x.den / (Nat.gcd (((x.den : Nat) : Int).natAbs) (((y.den : Nat) : Int).natAbs)))), .eq (zV (y.num * ((x.den / (Nat.gcd (((x.den : Nat) : Int).natAbs) (((y.den : Nat) : Int).natAbs)) : Nat) : Int))), .eq (zV ((x.num * ((y.den / (Nat.gcd (((x.den : Nat) : Int).natAbs) (((y.den : Nat) : Int).natAbs)) : Nat) : Int)) + (y.num * ((x.den / (Nat.gcd (((x.den : Nat) : Int).natAbs) (((y.den : Nat) : Int).natAbs)) : Nat) : Int)))), .new _ 32 [.bool false, .int .u64 0, .string (⟨#[]⟩)]] [] [] (fun _ hb => by cases hb)
      ⟨d_val, d_load hs 5, d_load hs 0, d_call (fun _ hw => ftimes hx.num (hy.den.div (Nat.gcd (((x.den : Nat) : Int).natAbs) (((y.den : Nat) : Int).natAbs))) _ (by omega)), d_val, d_load hs 4, d_load hs 1, d_call (fun _ hw => ftimes hy.num (hx.den.div (Nat.gcd (((x.den : Nat) : Int).natAbs) (((y.den : Nat) : Int).natAbs))) _ (by omega)), d_call (fun _ hw => zadd (hx.num.zmul (Sm.cast (hy.den.div (Nat.gcd (((x.den : Nat) : Int).natAbs) (((y.den : Nat) : Int).natAbs))))) (hy.num.zmul (Sm.cast (hx.den.div (Nat.gcd (((x.den : Nat) : Int).natAbs) (((y.den : Nat) : Int).natAbs))))) _ (by omega)), d_new, trivial⟩ ?_
    intro vv wd1 ac hw hG hN ha
    have ha := ha.sub [(0, qV x), (1, qV y), (2, .pointer (some ⟨g45, 0, none⟩)), (3, .pointer (some ⟨g46, 0, none⟩)), (4, .pointer (some ⟨g47, 0, none⟩)), (10, qV x), (11, .bool false), (12, .bool false), (13, undef), (14, undef), (15, .bool false), (28, nV (Nat.gcd (((x.den : Nat) : Int).natAbs) (((y.den : Nat) : Int).natAbs))), (5, .pointer (some ⟨g61, 0, none⟩)), (32, nV (x.den / (Nat.gcd (((x.den : Nat) : Int).natAbs) (((y.den : Nat) : Int).natAbs)))), (36, nV (y.den / (Nat.gcd (((x.den : Nat) : Int).natAbs) (((y.den : Nat) : Int).natAbs)))), (6, .pointer (some ⟨g63, 0, none⟩)), (7, .pointer (some ⟨g64, 0, none⟩)), (45, zV ((x.num * ((y.den / (Nat.gcd (((x.den : Nat) : Int).natAbs) (((y.den : Nat) : Int).natAbs)) : Nat) : Int)) + (y.num * ((x.den / (Nat.gcd (((x.den : Nat) : Int).natAbs) (((y.den : Nat) : Int).natAbs)) : Nat) : Int)))), (8, vv 9)]
    have h_g66 : NewAt _ 32 [.bool false, .int .u64 0, .string (⟨#[]⟩)] (vv 9) wd1 := hG 9 8 (by decide) rfl
    clear hG hN
    obtain ⟨g66, b_g66, e_g66, h_g66⟩ := h_g66
    rw [e_g66] at ha
    clear e_g66
    have hs := hs.new hw b_g66 h_g66
    clear hw
    refine keeps_nil ?_
    show wpList _ _ _ _ _ _
    refine s_store ha hs 0 _ fun ac wd ha hs => ?_
    refine wpList_nil ((x_normal ?_))
    refine wp_seq ?_
    refine region_sp ha 5 [.eq (zV ((x.num * ((y.den / (Nat.gcd (((x.den : Nat) : Int).natAbs) (((y.den : Nat) : Int).natAbs)) : Nat) : Int)) + (y.num * ((x.den / (Nat.gcd (((x.den : Nat) : Int).natAbs) (((y.den : Nat) : Int).natAbs)) : Nat) : Int)))), .eq (nV (Nat.gcd (((x.den : Nat) : Int).natAbs) (((y.den : Nat) : Int).natAbs))), .eq (zV ((Nat.gcd (((x.den : Nat) : Int).natAbs) (((y.den : Nat) : Int).natAbs) : Nat) : Int)), .eq (nV (Nat.gcd (((x.num * ((y.den / (Nat.gcd (((x.den : Nat) : Int).natAbs) (((y.den : Nat) : Int).natAbs)) : Nat) : Int)) + (y.num * ((x.den / (Nat.gcd (((x.den : Nat) : Int).natAbs) (((y.den : Nat) : Int).natAbs)) : Nat) : Int))).natAbs) (((Nat.gcd (((x.den : Nat) : Int).natAbs) (((y.den : Nat) : Int).natAbs) : Nat) : Int).natAbs))), .new _ 30 [.int .u64 0, .string (⟨#[]⟩)]] [] [] (fun _ hb => by cases hb)
      ⟨d_load hs 0, d_load hs 3, d_call (fun _ hw => from_any false (Sm.gcd (Sm.cast hx.den) (Sm.cast hy.den)) (by omega) _), d_call (fun _ hw => zgcd ((hx.num.zmul (Sm.cast (hy.den.div (Nat.gcd (((x.den : Nat) : Int).natAbs) (((y.den : Nat) : Int).natAbs))))).zadd (hy.num.zmul (Sm.cast (hx.den.div (Nat.gcd (((x.den : Nat) : Int).natAbs) (((y.den : Nat) : Int).natAbs)))))) (Sm.cast (Sm.gcd (Sm.cast hx.den) (Sm.cast hy.den))) _ (htab.ext (hs.go hw).ext) (by omega)), d_new, trivial⟩ ?_
    intro vv wd1 ac hw hG hN ha
    have ha := ha.sub [(0, qV x), (1, qV y), (2, .pointer (some ⟨g45, 0, none⟩)), (3, .pointer (some ⟨g46, 0, none⟩)), (4, .pointer (some ⟨g47, 0, none⟩)), (10, qV x), (11, .bool false), (12, .bool false), (13, undef), (14, undef), (15, .bool false), (28, nV (Nat.gcd (((x.den : Nat) : Int).natAbs) (((y.den : Nat) : Int).natAbs))), (5, .pointer (some ⟨g61, 0, none⟩)), (32, nV (x.den / (Nat.gcd (((x.den : Nat) : Int).natAbs) (((y.den : Nat) : Int).natAbs)))), (36, nV (y.den / (Nat.gcd (((x.den : Nat) : Int).natAbs) (((y.den : Nat) : Int).natAbs)))), (6, .pointer (some ⟨g63, 0, none⟩)), (7, .pointer (some ⟨g64, 0, none⟩)), (45, zV ((x.num * ((y.den / (Nat.gcd (((x.den : Nat) : Int).natAbs) (((y.den : Nat) : Int).natAbs)) : Nat) : Int)) + (y.num * ((x.den / (Nat.gcd (((x.den : Nat) : Int).natAbs) (((y.den : Nat) : Int).natAbs)) : Nat) : Int)))), (8, .pointer (some ⟨g66, 0, none⟩)), (49, nV (Nat.gcd (((x.num * ((y.den / (Nat.gcd (((x.den : Nat) : Int).natAbs) (((y.den : Nat) : Int).natAbs)) : Nat) : Int)) + (y.num * ((x.den / (Nat.gcd (((x.den : Nat) : Int).natAbs) (((y.den : Nat) : Int).natAbs)) : Nat) : Int))).natAbs) (((Nat.gcd (((x.den : Nat) : Int).natAbs) (((y.den : Nat) : Int).natAbs) : Nat) : Int).natAbs))), (9, vv 4)]
    have h_g68 : NewAt _ 30 [.int .u64 0, .string (⟨#[]⟩)] (vv 4) wd1 := hG 4 9 (by decide) rfl
    clear hG hN
    obtain ⟨g68, b_g68, e_g68, h_g68⟩ := h_g68
    rw [e_g68] at ha
    clear e_g68
    have hs := hs.new hw b_g68 h_g68
    clear hw
    refine keeps_nil ?_
    show wpList _ _ _ _ _ _
    refine s_store ha hs 0 _ fun ac wd ha hs => ?_
    refine wpList_nil ((x_normal ?_))
    refine wp_seq ?_
    refine region_sp ha 10 [.eq (zV ((x.num * ((y.den / (Nat.gcd (((x.den : Nat) : Int).natAbs) (((y.den : Nat) : Int).natAbs)) : Nat) : Int)) + (y.num * ((x.den / (Nat.gcd (((x.den : Nat) : Int).natAbs) (((y.den : Nat) : Int).natAbs)) : Nat) : Int)))), .eq (nV (Nat.gcd (((x.num * ((y.den / (Nat.gcd (((x.den : Nat) : Int).natAbs) (((y.den : Nat) : Int).natAbs)) : Nat) : Int)) + (y.num * ((x.den / (Nat.gcd (((x.den : Nat) : Int).natAbs) (((y.den : Nat) : Int).natAbs)) : Nat) : Int))).natAbs) (((Nat.gcd (((x.den : Nat) : Int).natAbs) (((y.den : Nat) : Int).natAbs) : Nat) : Int).natAbs))), .eq (zV (((x.num * ((y.den / (Nat.gcd (((x.den : Nat) : Int).natAbs) (((y.den : Nat) : Int).natAbs)) : Nat) : Int)) + (y.num * ((x.den / (Nat.gcd (((x.den : Nat) : Int).natAbs) (((y.den : Nat) : Int).natAbs)) : Nat) : Int))) / ((Nat.gcd (((x.num * ((y.den / (Nat.gcd (((x.den : Nat) : Int).natAbs) (((y.den : Nat) : Int).natAbs)) : Nat) : Int)) + (y.num * ((x.den / (Nat.gcd (((x.den : Nat) : Int).natAbs) (((y.den : Nat) : Int).natAbs)) : Nat) : Int))).natAbs) (((Nat.gcd (((x.den : Nat) : Int).natAbs) (((y.den : Nat) : Int).natAbs) : Nat) : Int).natAbs) : Nat) : Int))), .eq (nV (x.den / (Nat.gcd (((x.den : Nat) : Int).natAbs) (((y.den : Nat) : Int).natAbs)))), .eq (qV y), .eq (nV y.den), .eq (nV (Nat.gcd (((x.num * ((y.den / (Nat.gcd (((x.den : Nat) : Int).natAbs) (((y.den : Nat) : Int).natAbs)) : Nat) : Int)) + (y.num * ((x.den / (Nat.gcd (((x.den : Nat) : Int).natAbs) (((y.den : Nat) : Int).natAbs)) : Nat) : Int))).natAbs) (((Nat.gcd (((x.den : Nat) : Int).natAbs) (((y.den : Nat) : Int).natAbs) : Nat) : Int).natAbs))), .eq (nV (y.den / (Nat.gcd (((x.num * ((y.den / (Nat.gcd (((x.den : Nat) : Int).natAbs) (((y.den : Nat) : Int).natAbs)) : Nat) : Int)) + (y.num * ((x.den / (Nat.gcd (((x.den : Nat) : Int).natAbs) (((y.den : Nat) : Int).natAbs)) : Nat) : Int))).natAbs) (((Nat.gcd (((x.den : Nat) : Int).natAbs) (((y.den : Nat) : Int).natAbs) : Nat) : Int).natAbs)))), .eq (nV ((x.den / (Nat.gcd (((x.den : Nat) : Int).natAbs) (((y.den : Nat) : Int).natAbs))) * (y.den / (Nat.gcd (((x.num * ((y.den / (Nat.gcd (((x.den : Nat) : Int).natAbs) (((y.den : Nat) : Int).natAbs)) : Nat) : Int)) + (y.num * ((x.den / (Nat.gcd (((x.den : Nat) : Int).natAbs) (((y.den : Nat) : Int).natAbs)) : Nat) : Int))).natAbs) (((Nat.gcd (((x.den : Nat) : Int).natAbs) (((y.den : Nat) : Int).natAbs) : Nat) : Int).natAbs))))), .eq (qP (((x.num * ((y.den / (Nat.gcd (((x.den : Nat) : Int).natAbs) (((y.den : Nat) : Int).natAbs)) : Nat) : Int)) + (y.num * ((x.den / (Nat.gcd (((x.den : Nat) : Int).natAbs) (((y.den : Nat) : Int).natAbs)) : Nat) : Int))) / ((Nat.gcd (((x.num * ((y.den / (Nat.gcd (((x.den : Nat) : Int).natAbs) (((y.den : Nat) : Int).natAbs)) : Nat) : Int)) + (y.num * ((x.den / (Nat.gcd (((x.den : Nat) : Int).natAbs) (((y.den : Nat) : Int).natAbs)) : Nat) : Int))).natAbs) (((Nat.gcd (((x.den : Nat) : Int).natAbs) (((y.den : Nat) : Int).natAbs) : Nat) : Int).natAbs) : Nat) : Int)) ((x.den / (Nat.gcd (((x.den : Nat) : Int).natAbs) (((y.den : Nat) : Int).natAbs))) * (y.den / (Nat.gcd (((x.num * ((y.den / (Nat.gcd (((x.den : Nat) : Int).natAbs) (((y.den : Nat) : Int).natAbs)) : Nat) : Int)) + (y.num * ((x.den / (Nat.gcd (((x.den : Nat) : Int).natAbs) (((y.den : Nat) : Int).natAbs)) : Nat) : Int))).natAbs) (((Nat.gcd (((x.den : Nat) : Int).natAbs) (((y.den : Nat) : Int).natAbs) : Nat) : Int).natAbs)))))] [] [] (fun _ hb => by cases hb)
      ⟨d_load hs 1, d_load hs 0, d_call (fun _ hw => fpart ((hx.num.zmul (Sm.cast (hy.den.div (Nat.gcd (((x.den : Nat) : Int).natAbs) (((y.den : Nat) : Int).natAbs))))).zadd (hy.num.zmul (Sm.cast (hx.den.div (Nat.gcd (((x.den : Nat) : Int).natAbs) (((y.den : Nat) : Int).natAbs)))))) (Sm.gcd ((hx.num.zmul (Sm.cast (hy.den.div (Nat.gcd (((x.den : Nat) : Int).natAbs) (((y.den : Nat) : Int).natAbs))))).zadd (hy.num.zmul (Sm.cast (hx.den.div (Nat.gcd (((x.den : Nat) : Int).natAbs) (((y.den : Nat) : Int).natAbs)))))) (Sm.cast (Sm.gcd (Sm.cast hx.den) (Sm.cast hy.den)))) (Nat.gcd_pos_of_pos_right (((x.num * ((y.den / (Nat.gcd (((x.den : Nat) : Int).natAbs) (((y.den : Nat) : Int).natAbs)) : Nat) : Int)) + (y.num * ((x.den / (Nat.gcd (((x.den : Nat) : Int).natAbs) (((y.den : Nat) : Int).natAbs)) : Nat) : Int))).natAbs) (show 0 < (((Nat.gcd (((x.den : Nat) : Int).natAbs) (((y.den : Nat) : Int).natAbs) : Nat) : Int).natAbs) from hgp)) (Nat.gcd_dvd_left (((x.num * ((y.den / (Nat.gcd (((x.den : Nat) : Int).natAbs) (((y.den : Nat) : Int).natAbs)) : Nat) : Int)) + (y.num * ((x.den / (Nat.gcd (((x.den : Nat) : Int).natAbs) (((y.den : Nat) : Int).natAbs)) : Nat) : Int))).natAbs) (((Nat.gcd (((x.den : Nat) : Int).natAbs) (((y.den : Nat) : Int).natAbs) : Nat) : Int).natAbs)) _ (by omega)), d_load hs 3, d_load hs 6, d_call (fun _ hw => fden hy _ (by omega)), d_load hs 0, d_call (fun _ hw => fover hy.den (Sm.gcd ((hx.num.zmul (Sm.cast (hy.den.div (Nat.gcd (((x.den : Nat) : Int).natAbs) (((y.den : Nat) : Int).natAbs))))).zadd (hy.num.zmul (Sm.cast (hx.den.div (Nat.gcd (((x.den : Nat) : Int).natAbs) (((y.den : Nat) : Int).natAbs)))))) (Sm.cast (Sm.gcd (Sm.cast hx.den) (Sm.cast hy.den)))) (Nat.gcd_pos_of_pos_right (((x.num * ((y.den / (Nat.gcd (((x.den : Nat) : Int).natAbs) (((y.den : Nat) : Int).natAbs)) : Nat) : Int)) + (y.num * ((x.den / (Nat.gcd (((x.den : Nat) : Int).natAbs) (((y.den : Nat) : Int).natAbs)) : Nat) : Int))).natAbs) (show 0 < (((Nat.gcd (((x.den : Nat) : Int).natAbs) (((y.den : Nat) : Int).natAbs) : Nat) : Int).natAbs) from hgp)) _ (by omega)), d_call (fun _ hw => cmul (hx.den.div (Nat.gcd (((x.den : Nat) : Int).natAbs) (((y.den : Nat) : Int).natAbs))) (hy.den.div (Nat.gcd (((x.num * ((y.den / (Nat.gcd (((x.den : Nat) : Int).natAbs) (((y.den : Nat) : Int).natAbs)) : Nat) : Int)) + (y.num * ((x.den / (Nat.gcd (((x.den : Nat) : Int).natAbs) (((y.den : Nat) : Int).natAbs)) : Nat) : Int))).natAbs) (((Nat.gcd (((x.den : Nat) : Int).natAbs) (((y.den : Nat) : Int).natAbs) : Nat) : Int).natAbs))) _ (by omega)), d_call (fun _ hw => fpack (((x.num * ((y.den / (Nat.gcd (((x.den : Nat) : Int).natAbs) (((y.den : Nat) : Int).natAbs)) : Nat) : Int)) + (y.num * ((x.den / (Nat.gcd (((x.den : Nat) : Int).natAbs) (((y.den : Nat) : Int).natAbs)) : Nat) : Int))) / ((Nat.gcd (((x.num * ((y.den / (Nat.gcd (((x.den : Nat) : Int).natAbs) (((y.den : Nat) : Int).natAbs)) : Nat) : Int)) + (y.num * ((x.den / (Nat.gcd (((x.den : Nat) : Int).natAbs) (((y.den : Nat) : Int).natAbs)) : Nat) : Int))).natAbs) (((Nat.gcd (((x.den : Nat) : Int).natAbs) (((y.den : Nat) : Int).natAbs) : Nat) : Int).natAbs) : Nat) : Int)) ((hx.den.div (Nat.gcd (((x.den : Nat) : Int).natAbs) (((y.den : Nat) : Int).natAbs))).mul (hy.den.div (Nat.gcd (((x.num * ((y.den / (Nat.gcd (((x.den : Nat) : Int).natAbs) (((y.den : Nat) : Int).natAbs)) : Nat) : Int)) + (y.num * ((x.den / (Nat.gcd (((x.den : Nat) : Int).natAbs) (((y.den : Nat) : Int).natAbs)) : Nat) : Int))).natAbs) (((Nat.gcd (((x.den : Nat) : Int).natAbs) (((y.den : Nat) : Int).natAbs) : Nat) : Int).natAbs)))) _ (by omega)), trivial⟩ ?_
    intro vv wd1 ac hw hG hN ha
    have ha := ha.sub [(0, qV x), (1, qV y), (2, .pointer (some ⟨g45, 0, none⟩)), (3, .pointer (some ⟨g46, 0, none⟩)), (4, .pointer (some ⟨g47, 0, none⟩)), (10, qV x), (11, .bool false), (12, .bool false), (13, undef), (14, undef), (15, .bool false), (28, nV (Nat.gcd (((x.den : Nat) : Int).natAbs) (((y.den : Nat) : Int).natAbs))), (5, .pointer (some ⟨g61, 0, none⟩)), (32, nV (x.den / (Nat.gcd (((x.den : Nat) : Int).natAbs) (((y.den : Nat) : Int).natAbs)))), (36, nV (y.den / (Nat.gcd (((x.den : Nat) : Int).natAbs) (((y.den : Nat) : Int).natAbs)))), (6, .pointer (some ⟨g63, 0, none⟩)), (7, .pointer (some ⟨g64, 0, none⟩)), (45, zV ((x.num * ((y.den / (Nat.gcd (((x.den : Nat) : Int).natAbs) (((y.den : Nat) : Int).natAbs)) : Nat) : Int)) + (y.num * ((x.den / (Nat.gcd (((x.den : Nat) : Int).natAbs) (((y.den : Nat) : Int).natAbs)) : Nat) : Int)))), (8, .pointer (some ⟨g66, 0, none⟩)), (49, nV (Nat.gcd (((x.num * ((y.den / (Nat.gcd (((x.den : Nat) : Int).natAbs) (((y.den : Nat) : Int).natAbs)) : Nat) : Int)) + (y.num * ((x.den / (Nat.gcd (((x.den : Nat) : Int).natAbs) (((y.den : Nat) : Int).natAbs)) : Nat) : Int))).natAbs) (((Nat.gcd (((x.den : Nat) : Int).natAbs) (((y.den : Nat) : Int).natAbs) : Nat) : Int).natAbs))), (9, .pointer (some ⟨g68, 0, none⟩)), (59, qP (((x.num * ((y.den / (Nat.gcd (((x.den : Nat) : Int).natAbs) (((y.den : Nat) : Int).natAbs)) : Nat) : Int)) + (y.num * ((x.den / (Nat.gcd (((x.den : Nat) : Int).natAbs) (((y.den : Nat) : Int).natAbs)) : Nat) : Int))) / ((Nat.gcd (((x.num * ((y.den / (Nat.gcd (((x.den : Nat) : Int).natAbs) (((y.den : Nat) : Int).natAbs)) : Nat) : Int)) + (y.num * ((x.den / (Nat.gcd (((x.den : Nat) : Int).natAbs) (((y.den : Nat) : Int).natAbs)) : Nat) : Int))).natAbs) (((Nat.gcd (((x.den : Nat) : Int).natAbs) (((y.den : Nat) : Int).natAbs) : Nat) : Int).natAbs) : Nat) : Int)) ((x.den / (Nat.gcd (((x.den : Nat) : Int).natAbs) (((y.den : Nat) : Int).natAbs))) * (y.den / (Nat.gcd (((x.num * ((y.den / (Nat.gcd (((x.den : Nat) : Int).natAbs) (((y.den : Nat) : Int).natAbs)) : Nat) : Int)) + (y.num * ((x.den / (Nat.gcd (((x.den : Nat) : Int).natAbs) (((y.den : Nat) : Int).natAbs)) : Nat) : Int))).natAbs) (((Nat.gcd (((x.den : Nat) : Int).natAbs) (((y.den : Nat) : Int).natAbs) : Nat) : Int).natAbs)))))]
    clear hG hN
    have hs := hs.go hw
    clear hw
    refine keeps_nil ?_
    show wpList _ _ _ _ _ _
    refine s_store ha hs 5 _ fun ac wd ha hs => ?_
    refine wpList_nil ((x_normal ?_))
    refine wp_ret (ret_at ha hs rfl [qP (((x.num * ((y.den / (Nat.gcd (((x.den : Nat) : Int).natAbs) (((y.den : Nat) : Int).natAbs)) : Nat) : Int)) + (y.num * ((x.den / (Nat.gcd (((x.den : Nat) : Int).natAbs) (((y.den : Nat) : Int).natAbs)) : Nat) : Int))) / ((Nat.gcd (((x.num * ((y.den / (Nat.gcd (((x.den : Nat) : Int).natAbs) (((y.den : Nat) : Int).natAbs)) : Nat) : Int)) + (y.num * ((x.den / (Nat.gcd (((x.den : Nat) : Int).natAbs) (((y.den : Nat) : Int).natAbs)) : Nat) : Int))).natAbs) (((Nat.gcd (((x.den : Nat) : Int).natAbs) (((y.den : Nat) : Int).natAbs) : Nat) : Int).natAbs) : Nat) : Int)) ((x.den / (Nat.gcd (((x.den : Nat) : Int).natAbs) (((y.den : Nat) : Int).natAbs))) * (y.den / (Nat.gcd (((x.num * ((y.den / (Nat.gcd (((x.den : Nat) : Int).natAbs) (((y.den : Nat) : Int).natAbs)) : Nat) : Int)) + (y.num * ((x.den / (Nat.gcd (((x.den : Nat) : Int).natAbs) (((y.den : Nat) : Int).natAbs)) : Nat) : Int))).natAbs) (((Nat.gcd (((x.den : Nat) : Int).natAbs) (((y.den : Nat) : Int).natAbs) : Nat) : Int).natAbs))))] ⟨⟨5, _, _, _, rfl, rfl, by kernel_rfl⟩, trivial⟩ ?_)
    exact ret_v (add_eq x y rfl rfl rfl rfl rfl) hs.ext
  
set_option maxHeartbeats 1000000 in
theorem fsub {j k : Nat} {x y : Rat} (hx : Sq j x) (hy : Sq k y) (w : World) (htab : Tab64 w) (hk : max j k ≤ 40000000000) : Calls Tryz.prog 18 #[qV x, qV y] w (Ret (qV (x - y)) w) := by
  have hs := St.start w
  refine enter Tryz.func18 rfl Tryz.ntmps18 (by kernel_rfl) fun ac ha => ?_
  refine wp_seq ?_
  refine wp_region_lit ?_
  refine s_box ha hs [.bool (decide (x.num < 0)), .int .u64 (lo x.num.natAbs : Nat), .string (hi x.num.natAbs), .int .u64 (lo (d1 x.den) : Nat), .string (hi (d1 x.den))] fun g70 ac wd ha hs => ?_
  refine s_box ha hs [.bool (decide (y.num < 0)), .int .u64 (lo y.num.natAbs : Nat), .string (hi y.num.natAbs), .int .u64 (lo (d1 y.den) : Nat), .string (hi (d1 y.den))] fun g71 ac wd ha hs => ?_
  refine s_alloc ha hs [.bool false, .int .u64 0, .string (⟨#[]⟩), .int .u64 0, .string (⟨#[]⟩)] fun g72 ac wd ha hs => ?_
  refine wpList_nil ((x_normal ?_))
  refine wp_seq ?_
  refine region_sp ha 4 [.eq (qV x), .eq (qV y), .eq (qV (-y)), .eq (qV (x + (-y)))] [] [] (fun _ hb => by cases hb)
    ⟨d_load hs 2, d_load hs 1, d_call (fun _ hw => fneg hy _ (by omega)), d_call (fun _ hw => fadd hx hy.neg _ (htab.ext (hs.go hw).ext) (by omega)), trivial⟩ ?_
  intro vv wd1 ac hw hG hN ha
  have ha := ha.sub [(0, qV x), (1, qV y), (4, .pointer (some ⟨g72, 0, none⟩)), (8, qV (x + (-y)))]
  clear hG hN
  have hs := hs.go hw
  clear hw
  refine keeps_nil ?_
  show wpList _ _ _ _ _ _
  refine s_store ha hs 0 _ fun ac wd ha hs => ?_
  refine wpList_nil ((x_normal ?_))
  refine wp_ret (ret_at ha hs rfl [qV (x + (-y))] ⟨⟨0, _, _, _, rfl, rfl, by kernel_rfl⟩, trivial⟩ ?_)
  exact ret_v (by rw [Rat.sub_eq_add_neg]) hs.ext
  
set_option maxHeartbeats 1000000 in
theorem fmul {j k : Nat} {x y : Rat} (hx : Sq j x) (hy : Sq k y) (w : World) (htab : Tab64 w) (hk : max j k ≤ 40000000000) : Calls Tryz.prog 19 #[qV x, qV y] w (Ret (qV (x * y)) w) := by
  have hs := St.start w
  refine enter Tryz.func19 rfl Tryz.ntmps19 (by kernel_rfl) fun ac ha => ?_
  refine wp_seq ?_
  refine wp_region_lit ?_
  refine s_box ha hs [.bool (decide (x.num < 0)), .int .u64 (lo x.num.natAbs : Nat), .string (hi x.num.natAbs), .int .u64 (lo (d1 x.den) : Nat), .string (hi (d1 x.den))] fun g74 ac wd ha hs => ?_
  refine s_box ha hs [.bool (decide (y.num < 0)), .int .u64 (lo y.num.natAbs : Nat), .string (hi y.num.natAbs), .int .u64 (lo (d1 y.den) : Nat), .string (hi (d1 y.den))] fun g75 ac wd ha hs => ?_
  refine s_alloc ha hs [.bool false, .int .u64 0, .string (⟨#[]⟩), .int .u64 0, .string (⟨#[]⟩)] fun g76 ac wd ha hs => ?_
  refine wpList_nil ((x_normal ?_))
  refine wp_seq ?_
  refine wp_seq ?_
  refine wp_region_lit ?_
  refine s_load ha hs 2 (qV x) fun ac ha => ?_
  rcases Bool.eq_false_or_eq_true (decide (x.den = 1)) with hb77 | hb77
  ·
    have phb77 := of_decide_eq_true hb77
    refine s_call ha hs (.bool true) (fwhole_eq hx hb77 _ (by omega)) fun ac wd ha hs => ?_
    refine s_val ha (.bool true) fun ac ha => ?_
    refine s_load ha hs 1 (qV y) fun ac ha => ?_
    rcases Bool.eq_false_or_eq_true (decide (y.den = 1)) with hb78 | hb78
    ·
      have phb78 := of_decide_eq_true hb78
      refine s_call ha hs (.bool true) (fwhole_eq hy hb78 _ (by omega)) fun ac wd ha hs => ?_
      refine s_val ha (.bool true) fun ac ha => ?_
      refine wpList_nil ((x_normal ?_))
      refine r_true ha ?_
      refine wp_seq ?_
      refine wp_region_lit ?_
      refine s_val ha (.pointer (some ⟨g74, 0, none⟩)) fun ac ha => ?_
      refine s_load ha hs 2 (zV x.num) fun ac ha => ?_
      refine s_val ha (.pointer (some ⟨g75, 0, none⟩)) fun ac ha => ?_
      refine s_load ha hs 1 (zV y.num) fun ac ha => ?_
      refine s_call ha hs (zV (x.num * y.num)) (zmul hx.num hy.num _ (by omega)) fun ac wd ha hs => ?_
      refine s_eq ha (qP (x.num * y.num) 1) (qP_one _) fun ac ha => ?_
      refine s_store ha hs 0 _ fun ac wd ha hs => ?_
      refine wpList_nil ((x_normal ?_))
      refine wp_ret (x_ret (ret_at ha hs rfl [qP (x.num * y.num) 1] ⟨⟨0, _, _, _, rfl, rfl, by kernel_rfl⟩, trivial⟩ ?_))
      obtain ⟨e1, e2⟩ := mul_whole (of_decide_eq_true hb77) (of_decide_eq_true hb78)
      exact ret_v (by rw [← e1, ← e2]; rfl) hs.ext
    ·
      have phb78 := of_decide_eq_false hb78
      refine s_call ha hs (.bool false) (fwhole_eq hy hb78 _ (by omega)) fun ac wd ha hs => ?_
      refine s_val ha (.bool false) fun ac ha => ?_
      refine wpList_nil ((x_normal ?_))
      refine r_false ha ?_
      refine wp_skip ((x_normal ?_))
      refine wp_seq ?_
      refine region_sp ha 7 [.eq (.pointer (some ⟨g74, 0, none⟩)), .eq (zV x.num), .eq (qV y), .eq (nV y.den), .eq (zV ((y.den : Nat) : Int)), .eq (nV (Nat.gcd x.num.natAbs (((y.den : Nat) : Int).natAbs))), .new _ 30 [.int .u64 0, .string (⟨#[]⟩)]] [] [] (fun _ hb => by cases hb)
        ⟨d_val, d_load hs 2, d_load hs 1, d_call (fun _ hw => fden hy _ (by omega)), d_call (fun _ hw => from_any false hy.den (by omega) _), d_call (fun _ hw => zgcd hx.num (Sm.cast hy.den) _ (htab.ext (hs.go hw).ext) (by omega)), d_new, trivial⟩ ?_
      intro vv wd1 ac hw hG hN ha
      have ha := ha.sub [(0, qV x), (1, qV y), (2, .pointer (some ⟨g74, 0, none⟩)), (3, .pointer (some ⟨g75, 0, none⟩)), (4, .pointer (some ⟨g76, 0, none⟩)), (7, qV x), (8, .bool true), (9, .bool true), (10, qV y), (11, .bool false), (12, .bool false), (24, nV (Nat.gcd x.num.natAbs (((y.den : Nat) : Int).natAbs))), (5, vv 6)]
      have h_g80 : NewAt _ 30 [.int .u64 0, .string (⟨#[]⟩)] (vv 6) wd1 := hG 6 5 (by decide) rfl
      clear hG hN
      obtain ⟨g80, b_g80, e_g80, h_g80⟩ := h_g80
      rw [e_g80] at ha
      clear e_g80
      have hs := hs.new hw b_g80 h_g80
      clear hw
      refine keeps_nil ?_
      show wpList _ _ _ _ _ _
      refine s_store ha hs 0 _ fun ac wd ha hs => ?_
      refine wpList_nil ((x_normal ?_))
      refine wp_seq ?_
      refine region_sp ha 7 [.eq (.pointer (some ⟨g75, 0, none⟩)), .eq (zV y.num), .eq (qV x), .eq (nV x.den), .eq (zV ((x.den : Nat) : Int)), .eq (nV (Nat.gcd y.num.natAbs (((x.den : Nat) : Int).natAbs))), .new _ 30 [.int .u64 0, .string (⟨#[]⟩)]] [] [] (fun _ hb => by cases hb)
        ⟨d_val, d_load hs 2, d_load hs 3, d_call (fun _ hw => fden hx _ (by omega)), d_call (fun _ hw => from_any false hx.den (by omega) _), d_call (fun _ hw => zgcd hy.num (Sm.cast hx.den) _ (htab.ext (hs.go hw).ext) (by omega)), d_new, trivial⟩ ?_
      intro vv wd1 ac hw hG hN ha
      have ha := ha.sub [(0, qV x), (1, qV y), (2, .pointer (some ⟨g74, 0, none⟩)), (3, .pointer (some ⟨g75, 0, none⟩)), (4, .pointer (some ⟨g76, 0, none⟩)), (7, qV x), (8, .bool true), (9, .bool true), (10, qV y), (11, .bool false), (12, .bool false), (24, nV (Nat.gcd x.num.natAbs (((y.den : Nat) : Int).natAbs))), (5, .pointer (some ⟨g80, 0, none⟩)), (30, nV (Nat.gcd y.num.natAbs (((x.den : Nat) : Int).natAbs))), (6, vv 6)]
      have h_g82 : NewAt _ 30 [.int .u64 0, .string (⟨#[]⟩)] (vv 6) wd1 := hG 6 6 (by decide) rfl
      clear hG hN
      obtain ⟨g82, b_g82, e_g82, h_g82⟩ := h_g82
      rw [e_g82] at ha
      clear e_g82
      have hs := hs.new hw b_g82 h_g82
      clear hw
      refine keeps_nil ?_
      show wpList _ _ _ _ _ _
      refine s_store ha hs 0 _ fun ac wd ha hs => ?_
      refine wpList_nil ((x_normal ?_))
      refine wp_seq ?_
      refine region_sp ha 19 [.eq (.pointer (some ⟨g74, 0, none⟩)), .eq (zV x.num), .eq (nV (Nat.gcd x.num.natAbs (((y.den : Nat) : Int).natAbs))), .eq (zV (x.num / ((Nat.gcd x.num.natAbs (((y.den : Nat) : Int).natAbs) : Nat) : Int))), .eq (.pointer (some ⟨g75, 0, none⟩)), .eq (zV y.num), .eq (nV (Nat.gcd y.num.natAbs (((x.den : Nat) : Int).natAbs))), .eq (zV (y.num / ((Nat.gcd y.num.natAbs (((x.den : Nat) : Int).natAbs) : Nat) : Int))), .eq (zV ((x.num / ((Nat.gcd x.num.natAbs (((y.den : Nat) : Int).natAbs) : Nat) : Int)) * (y.num / ((Nat.gcd y.num.natAbs (((x.den : Nat) : Int).natAbs) : Nat) : Int)))), .eq (qV x), .eq (nV x.den), .eq (nV (Nat.gcd y.num.natAbs (((x.den : Nat) : Int).natAbs))), .eq (nV (x.den / (Nat.gcd y.num.natAbs (((x.den : Nat) : Int).natAbs)))), .eq (qV y), .eq (nV y.den), .eq (nV (Nat.gcd x.num.natAbs (((y.den : Nat) : Int).natAbs))), .eq (nV (y.den / (Nat.gcd x.num.natAbs (((y.den : Nat) : Int).natAbs)))), .eq (nV ((x.den / (Nat.gcd y.num.natAbs (((x.den : Nat) : Int).natAbs))) * (y.den / (Nat.gcd x.num.natAbs (((y.den : Nat) : Int).natAbs))))), .eq (qP ((x.num / ((Nat.gcd x.num.natAbs (((y.den : Nat) : Int).natAbs) : Nat) : Int)) * (y.num / ((Nat.gcd y.num.natAbs (((x.den : Nat) : Int).natAbs) : Nat) : Int))) ((x.den / (Nat.gcd y.num.natAbs (((x.den : Nat) : Int).natAbs))) * (y.den / (Nat.gcd x.num.natAbs (((y.den : Nat) : Int).natAbs)))))] [] [] (fun _ hb => by cases hb)
        ⟨d_val, d_load hs 4, d_load hs 1, d_call (fun _ hw => fpart hx.num (Sm.gcd hx.num (Sm.cast hy.den)) (Nat.gcd_pos_of_pos_right x.num.natAbs (show 0 < (((y.den : Nat) : Int).natAbs) from y.den_pos)) (Nat.gcd_dvd_left x.num.natAbs (((y.den : Nat) : Int).natAbs)) _ (by omega)), d_val, d_load hs 3, d_load hs 0, d_call (fun _ hw => fpart hy.num (Sm.gcd hy.num (Sm.cast hx.den)) (Nat.gcd_pos_of_pos_right y.num.natAbs (show 0 < (((x.den : Nat) : Int).natAbs) from x.den_pos)) (Nat.gcd_dvd_left y.num.natAbs (((x.den : Nat) : Int).natAbs)) _ (by omega)), d_call (fun _ hw => zmul (hx.num.zdiv (Nat.gcd_pos_of_pos_right x.num.natAbs (show 0 < (((y.den : Nat) : Int).natAbs) from y.den_pos)) (Nat.gcd_dvd_left x.num.natAbs (((y.den : Nat) : Int).natAbs))) (hy.num.zdiv (Nat.gcd_pos_of_pos_right y.num.natAbs (show 0 < (((x.den : Nat) : Int).natAbs) from x.den_pos)) (Nat.gcd_dvd_left y.num.natAbs (((x.den : Nat) : Int).natAbs))) _ (by omega)), d_load hs 4, d_call (fun _ hw => fden hx _ (by omega)), d_load hs 0, d_call (fun _ hw => fover hx.den (Sm.gcd hy.num (Sm.cast hx.den)) (Nat.gcd_pos_of_pos_right y.num.natAbs (show 0 < (((x.den : Nat) : Int).natAbs) from x.den_pos)) _ (by omega)), d_load hs 3, d_call (fun _ hw => fden hy _ (by omega)), d_load hs 1, d_call (fun _ hw => fover hy.den (Sm.gcd hx.num (Sm.cast hy.den)) (Nat.gcd_pos_of_pos_right x.num.natAbs (show 0 < (((y.den : Nat) : Int).natAbs) from y.den_pos)) _ (by omega)), d_call (fun _ hw => cmul (hx.den.div (Nat.gcd y.num.natAbs (((x.den : Nat) : Int).natAbs))) (hy.den.div (Nat.gcd x.num.natAbs (((y.den : Nat) : Int).natAbs))) _ (by omega)), d_call (fun _ hw => fpack ((x.num / ((Nat.gcd x.num.natAbs (((y.den : Nat) : Int).natAbs) : Nat) : Int)) * (y.num / ((Nat.gcd y.num.natAbs (((x.den : Nat) : Int).natAbs) : Nat) : Int))) ((hx.den.div (Nat.gcd y.num.natAbs (((x.den : Nat) : Int).natAbs))).mul (hy.den.div (Nat.gcd x.num.natAbs (((y.den : Nat) : Int).natAbs)))) _ (by omega)), trivial⟩ ?_
      intro vv wd1 ac hw hG hN ha
      have ha := ha.sub [(0, qV x), (1, qV y), (2, .pointer (some ⟨g74, 0, none⟩)), (3, .pointer (some ⟨g75, 0, none⟩)), (4, .pointer (some ⟨g76, 0, none⟩)), (7, qV x), (8, .bool true), (9, .bool true), (10, qV y), (11, .bool false), (12, .bool false), (24, nV (Nat.gcd x.num.natAbs (((y.den : Nat) : Int).natAbs))), (5, .pointer (some ⟨g80, 0, none⟩)), (30, nV (Nat.gcd y.num.natAbs (((x.den : Nat) : Int).natAbs))), (6, .pointer (some ⟨g82, 0, none⟩)), (49, qP ((x.num / ((Nat.gcd x.num.natAbs (((y.den : Nat) : Int).natAbs) : Nat) : Int)) * (y.num / ((Nat.gcd y.num.natAbs (((x.den : Nat) : Int).natAbs) : Nat) : Int))) ((x.den / (Nat.gcd y.num.natAbs (((x.den : Nat) : Int).natAbs))) * (y.den / (Nat.gcd x.num.natAbs (((y.den : Nat) : Int).natAbs)))))]
      clear hG hN
      have hs := hs.go hw
      clear hw
      refine keeps_nil ?_
      show wpList _ _ _ _ _ _
      refine s_store ha hs 2 _ fun ac wd ha hs => ?_
      refine wpList_nil ((x_normal ?_))
      refine wp_ret (ret_at ha hs rfl [qP ((x.num / ((Nat.gcd x.num.natAbs (((y.den : Nat) : Int).natAbs) : Nat) : Int)) * (y.num / ((Nat.gcd y.num.natAbs (((x.den : Nat) : Int).natAbs) : Nat) : Int))) ((x.den / (Nat.gcd y.num.natAbs (((x.den : Nat) : Int).natAbs))) * (y.den / (Nat.gcd x.num.natAbs (((y.den : Nat) : Int).natAbs))))] ⟨⟨2, _, _, _, rfl, rfl, by kernel_rfl⟩, trivial⟩ ?_)
      exact ret_v (mul_eq x y rfl rfl) hs.ext
  ·
    have phb77 := of_decide_eq_false hb77
    refine s_call ha hs (.bool false) (fwhole_eq hx hb77 _ (by omega)) fun ac wd ha hs => ?_
    refine s_val ha (.bool false) fun ac ha => ?_
    refine s_not ha fun ac ha => ?_
    refine s_not ha fun ac ha => ?_
    refine s_val ha (.bool false) fun ac ha => ?_
    refine wpList_nil ((x_normal ?_))
    refine r_false ha ?_
    refine wp_skip ((x_normal ?_))
    refine wp_seq ?_
    refine region_sp ha 7 [.eq (.pointer (some ⟨g74, 0, none⟩)), .eq (zV x.num), .eq (qV y), .eq (nV y.den), .eq (zV ((y.den : Nat) : Int)), .eq (nV (Nat.gcd x.num.natAbs (((y.den : Nat) : Int).natAbs))), .new _ 30 [.int .u64 0, .string (⟨#[]⟩)]] [] [] (fun _ hb => by cases hb)
      ⟨d_val, d_load hs 2, d_load hs 1, d_call (fun _ hw => fden hy _ (by omega)), d_call (fun _ hw => from_any false hy.den (by omega) _), d_call (fun _ hw => zgcd hx.num (Sm.cast hy.den) _ (htab.ext (hs.go hw).ext) (by omega)), d_new, trivial⟩ ?_
    intro vv wd1 ac hw hG hN ha
    have ha := ha.sub [(0, qV x), (1, qV y), (2, .pointer (some ⟨g74, 0, none⟩)), (3, .pointer (some ⟨g75, 0, none⟩)), (4, .pointer (some ⟨g76, 0, none⟩)), (7, qV x), (8, .bool false), (9, .bool false), (10, undef), (11, undef), (12, .bool false), (24, nV (Nat.gcd x.num.natAbs (((y.den : Nat) : Int).natAbs))), (5, vv 6)]
    have h_g85 : NewAt _ 30 [.int .u64 0, .string (⟨#[]⟩)] (vv 6) wd1 := hG 6 5 (by decide) rfl
    clear hG hN
    obtain ⟨g85, b_g85, e_g85, h_g85⟩ := h_g85
    rw [e_g85] at ha
    clear e_g85
    have hs := hs.new hw b_g85 h_g85
    clear hw
    refine keeps_nil ?_
    show wpList _ _ _ _ _ _
    refine s_store ha hs 0 _ fun ac wd ha hs => ?_
    refine wpList_nil ((x_normal ?_))
    refine wp_seq ?_
    refine region_sp ha 7 [.eq (.pointer (some ⟨g75, 0, none⟩)), .eq (zV y.num), .eq (qV x), .eq (nV x.den), .eq (zV ((x.den : Nat) : Int)), .eq (nV (Nat.gcd y.num.natAbs (((x.den : Nat) : Int).natAbs))), .new _ 30 [.int .u64 0, .string (⟨#[]⟩)]] [] [] (fun _ hb => by cases hb)
      ⟨d_val, d_load hs 2, d_load hs 3, d_call (fun _ hw => fden hx _ (by omega)), d_call (fun _ hw => from_any false hx.den (by omega) _), d_call (fun _ hw => zgcd hy.num (Sm.cast hx.den) _ (htab.ext (hs.go hw).ext) (by omega)), d_new, trivial⟩ ?_
    intro vv wd1 ac hw hG hN ha
    have ha := ha.sub [(0, qV x), (1, qV y), (2, .pointer (some ⟨g74, 0, none⟩)), (3, .pointer (some ⟨g75, 0, none⟩)), (4, .pointer (some ⟨g76, 0, none⟩)), (7, qV x), (8, .bool false), (9, .bool false), (10, undef), (11, undef), (12, .bool false), (24, nV (Nat.gcd x.num.natAbs (((y.den : Nat) : Int).natAbs))), (5, .pointer (some ⟨g85, 0, none⟩)), (30, nV (Nat.gcd y.num.natAbs (((x.den : Nat) : Int).natAbs))), (6, vv 6)]
    have h_g87 : NewAt _ 30 [.int .u64 0, .string (⟨#[]⟩)] (vv 6) wd1 := hG 6 6 (by decide) rfl
    clear hG hN
    obtain ⟨g87, b_g87, e_g87, h_g87⟩ := h_g87
    rw [e_g87] at ha
    clear e_g87
    have hs := hs.new hw b_g87 h_g87
    clear hw
    refine keeps_nil ?_
    show wpList _ _ _ _ _ _
    refine s_store ha hs 0 _ fun ac wd ha hs => ?_
    refine wpList_nil ((x_normal ?_))
    refine wp_seq ?_
    refine region_sp ha 19 [.eq (.pointer (some ⟨g74, 0, none⟩)), .eq (zV x.num), .eq (nV (Nat.gcd x.num.natAbs (((y.den : Nat) : Int).natAbs))), .eq (zV (x.num / ((Nat.gcd x.num.natAbs (((y.den : Nat) : Int).natAbs) : Nat) : Int))), .eq (.pointer (some ⟨g75, 0, none⟩)), .eq (zV y.num), .eq (nV (Nat.gcd y.num.natAbs (((x.den : Nat) : Int).natAbs))), .eq (zV (y.num / ((Nat.gcd y.num.natAbs (((x.den : Nat) : Int).natAbs) : Nat) : Int))), .eq (zV ((x.num / ((Nat.gcd x.num.natAbs (((y.den : Nat) : Int).natAbs) : Nat) : Int)) * (y.num / ((Nat.gcd y.num.natAbs (((x.den : Nat) : Int).natAbs) : Nat) : Int)))), .eq (qV x), .eq (nV x.den), .eq (nV (Nat.gcd y.num.natAbs (((x.den : Nat) : Int).natAbs))), .eq (nV (x.den / (Nat.gcd y.num.natAbs (((x.den : Nat) : Int).natAbs)))), .eq (qV y), .eq (nV y.den), .eq (nV (Nat.gcd x.num.natAbs (((y.den : Nat) : Int).natAbs))), .eq (nV (y.den / (Nat.gcd x.num.natAbs (((y.den : Nat) : Int).natAbs)))), .eq (nV ((x.den / (Nat.gcd y.num.natAbs (((x.den : Nat) : Int).natAbs))) * (y.den / (Nat.gcd x.num.natAbs (((y.den : Nat) : Int).natAbs))))), .eq (qP ((x.num / ((Nat.gcd x.num.natAbs (((y.den : Nat) : Int).natAbs) : Nat) : Int)) * (y.num / ((Nat.gcd y.num.natAbs (((x.den : Nat) : Int).natAbs) : Nat) : Int))) ((x.den / (Nat.gcd y.num.natAbs (((x.den : Nat) : Int).natAbs))) * (y.den / (Nat.gcd x.num.natAbs (((y.den : Nat) : Int).natAbs)))))] [] [] (fun _ hb => by cases hb)
      ⟨d_val, d_load hs 4, d_load hs 1, d_call (fun _ hw => fpart hx.num (Sm.gcd hx.num (Sm.cast hy.den)) (Nat.gcd_pos_of_pos_right x.num.natAbs (show 0 < (((y.den : Nat) : Int).natAbs) from y.den_pos)) (Nat.gcd_dvd_left x.num.natAbs (((y.den : Nat) : Int).natAbs)) _ (by omega)), d_val, d_load hs 3, d_load hs 0, d_call (fun _ hw => fpart hy.num (Sm.gcd hy.num (Sm.cast hx.den)) (Nat.gcd_pos_of_pos_right y.num.natAbs (show 0 < (((x.den : Nat) : Int).natAbs) from x.den_pos)) (Nat.gcd_dvd_left y.num.natAbs (((x.den : Nat) : Int).natAbs)) _ (by omega)), d_call (fun _ hw => zmul (hx.num.zdiv (Nat.gcd_pos_of_pos_right x.num.natAbs (show 0 < (((y.den : Nat) : Int).natAbs) from y.den_pos)) (Nat.gcd_dvd_left x.num.natAbs (((y.den : Nat) : Int).natAbs))) (hy.num.zdiv (Nat.gcd_pos_of_pos_right y.num.natAbs (show 0 < (((x.den : Nat) : Int).natAbs) from x.den_pos)) (Nat.gcd_dvd_left y.num.natAbs (((x.den : Nat) : Int).natAbs))) _ (by omega)), d_load hs 4, d_call (fun _ hw => fden hx _ (by omega)), d_load hs 0, d_call (fun _ hw => fover hx.den (Sm.gcd hy.num (Sm.cast hx.den)) (Nat.gcd_pos_of_pos_right y.num.natAbs (show 0 < (((x.den : Nat) : Int).natAbs) from x.den_pos)) _ (by omega)), d_load hs 3, d_call (fun _ hw => fden hy _ (by omega)), d_load hs 1, d_call (fun _ hw => fover hy.den (Sm.gcd hx.num (Sm.cast hy.den)) (Nat.gcd_pos_of_pos_right x.num.natAbs (show 0 < (((y.den : Nat) : Int).natAbs) from y.den_pos)) _ (by omega)), d_call (fun _ hw => cmul (hx.den.div (Nat.gcd y.num.natAbs (((x.den : Nat) : Int).natAbs))) (hy.den.div (Nat.gcd x.num.natAbs (((y.den : Nat) : Int).natAbs))) _ (by omega)), d_call (fun _ hw => fpack ((x.num / ((Nat.gcd x.num.natAbs (((y.den : Nat) : Int).natAbs) : Nat) : Int)) * (y.num / ((Nat.gcd y.num.natAbs (((x.den : Nat) : Int).natAbs) : Nat) : Int))) ((hx.den.div (Nat.gcd y.num.natAbs (((x.den : Nat) : Int).natAbs))).mul (hy.den.div (Nat.gcd x.num.natAbs (((y.den : Nat) : Int).natAbs)))) _ (by omega)), trivial⟩ ?_
    intro vv wd1 ac hw hG hN ha
    have ha := ha.sub [(0, qV x), (1, qV y), (2, .pointer (some ⟨g74, 0, none⟩)), (3, .pointer (some ⟨g75, 0, none⟩)), (4, .pointer (some ⟨g76, 0, none⟩)), (7, qV x), (8, .bool false), (9, .bool false), (10, undef), (11, undef), (12, .bool false), (24, nV (Nat.gcd x.num.natAbs (((y.den : Nat) : Int).natAbs))), (5, .pointer (some ⟨g85, 0, none⟩)), (30, nV (Nat.gcd y.num.natAbs (((x.den : Nat) : Int).natAbs))), (6, .pointer (some ⟨g87, 0, none⟩)), (49, qP ((x.num / ((Nat.gcd x.num.natAbs (((y.den : Nat) : Int).natAbs) : Nat) : Int)) * (y.num / ((Nat.gcd y.num.natAbs (((x.den : Nat) : Int).natAbs) : Nat) : Int))) ((x.den / (Nat.gcd y.num.natAbs (((x.den : Nat) : Int).natAbs))) * (y.den / (Nat.gcd x.num.natAbs (((y.den : Nat) : Int).natAbs)))))]
    clear hG hN
    have hs := hs.go hw
    clear hw
    refine keeps_nil ?_
    show wpList _ _ _ _ _ _
    refine s_store ha hs 2 _ fun ac wd ha hs => ?_
    refine wpList_nil ((x_normal ?_))
    refine wp_ret (ret_at ha hs rfl [qP ((x.num / ((Nat.gcd x.num.natAbs (((y.den : Nat) : Int).natAbs) : Nat) : Int)) * (y.num / ((Nat.gcd y.num.natAbs (((x.den : Nat) : Int).natAbs) : Nat) : Int))) ((x.den / (Nat.gcd y.num.natAbs (((x.den : Nat) : Int).natAbs))) * (y.den / (Nat.gcd x.num.natAbs (((y.den : Nat) : Int).natAbs))))] ⟨⟨2, _, _, _, rfl, rfl, by kernel_rfl⟩, trivial⟩ ?_)
    exact ret_v (mul_eq x y rfl rfl) hs.ext
end Go.Proofs.YtiloialbglfplaaGreatDoor

namespace Go.Proofs.YtiloialbglfplaaGreatDoor
open Go.RowKit

theorem bne_no {a b : Int} (h : (a != b) = false) : a = b := by simpa using h
theorem inv_neg {y : Rat} (h : decide (y.num < 0) = true) : qP (-((y.den : Nat) : Int)) y.num.natAbs = qV y⁻¹ := by
  have h := of_decide_eq_true h
  have e1 : (y⁻¹).num = -((y.den : Nat) : Int) := by rw [Rat.num_inv, Int.sign_eq_neg_one_of_neg h]; omega
  have e2 : (y⁻¹).den = y.num.natAbs := by rw [Rat.den_inv, if_neg (by omega)]
  rw [← e1, ← e2]; rfl
theorem inv_pos {y : Rat} (h0 : decide (y = 0) = false) (h : decide (y.num < 0) = false) : qP ((y.den : Nat) : Int) y.num.natAbs = qV y⁻¹ := by
  have h := of_decide_eq_false h
  have h1 : y.num ≠ 0 := fun e => of_decide_eq_false h0 (Rat.num_eq_zero.1 e)
  have e1 : (y⁻¹).num = ((y.den : Nat) : Int) := by rw [Rat.num_inv, Int.sign_eq_one_of_pos (by omega), Int.one_mul]
  have e2 : (y⁻¹).den = y.num.natAbs := by rw [Rat.den_inv, if_neg h1]
  rw [← e1, ← e2]; rfl
theorem fpack_inv {k : Nat} {n : Int} {d : Nat} {v : Value} (hd : Sm k d) (e : qP n d = v) (W : World) (hk : k ≤ 549755813888) : Calls Tryz.prog 86 #[zV n, nV d] W (Ret v W) := by
  subst e; exact fpack n hd W hk
theorem fsign0 {k : Nat} {x : Rat} (hx : Sq k x) (h : decide (x = 0) = true) (W : World) (hk : k ≤ 549755813888) : Calls Tryz.prog 16 #[qV x] W (Ret (.int .i64 0) W) := by
  have h := of_decide_eq_true h
  subst h
  exact fsign hx W hk
theorem qsgn_ne {x : Rat} (h : decide (x = 0) = false) : (x.num.sign == 0) = false := sgn_ne (decide_eq_false fun e => of_decide_eq_false h (Rat.num_eq_zero.1 e))
set_option maxHeartbeats 1000000 in
theorem fcmp {j k : Nat} {x y : Rat} (hx : Sq j x) (hy : Sq k y) (w : World) (hk : max j k ≤ 100000000000) : Calls Tryz.prog 20 #[qV x, qV y] w (Ret (.int .i64 (cmpQ x y)) w) := by
  have hs := St.start w
  refine enter Tryz.func20 rfl Tryz.ntmps20 (by kernel_rfl) fun ac ha => ?_
  refine wp_seq ?_
  refine wp_region_lit ?_
  refine s_box ha hs [.bool (decide (x.num < 0)), .int .u64 (lo x.num.natAbs : Nat), .string (hi x.num.natAbs), .int .u64 (lo (d1 x.den) : Nat), .string (hi (d1 x.den))] fun g1 ac wd ha hs => ?_
  refine s_box ha hs [.bool (decide (y.num < 0)), .int .u64 (lo y.num.natAbs : Nat), .string (hi y.num.natAbs), .int .u64 (lo (d1 y.den) : Nat), .string (hi (d1 y.den))] fun g2 ac wd ha hs => ?_
  refine s_val ha (.int .i64 0) fun ac ha => ?_
  refine wpList_nil ((x_normal ?_))
  refine wp_seq ?_
  refine wp_seq ?_
  rcases Bool.eq_false_or_eq_true (decide (x.den = 1)) with hb3 | hb3
  ·
    have phb3 := of_decide_eq_true hb3
    rcases Bool.eq_false_or_eq_true (decide (y.den = 1)) with hb4 | hb4
    ·
      have phb4 := of_decide_eq_true hb4
      refine region_sp ha 13 [.eq (qV x), .eq (.bool true), .eq (.bool true), .eq (qV y), .eq (.bool true), .eq (.bool true), .eq (.bool true), .eq (undef), .eq (undef), .eq (undef), .eq (undef), .eq (undef), .eq (.bool true)] [] [] (fun _ hb => by cases hb)
        ⟨d_load hs 1, d_call (fun _ hw => fwhole_eq hx hb3 _ (by omega)), d_val, d_load hs 0, d_call (fun _ hw => fwhole_eq hy hb4 _ (by omega)), d_val, d_val, d_not, d_not, d_not, d_not, d_not, d_val, trivial⟩ ?_
      intro vv wd1 ac hw hG hN ha
      have ha := ha.sub [(0, qV x), (1, qV y), (2, .pointer (some ⟨g1, 0, none⟩)), (3, .pointer (some ⟨g2, 0, none⟩)), (4, .int .i64 0), (17, .bool true)]
      clear hG hN
      have hs := hs.go hw
      clear hw
      refine keeps_nil ?_
      show wpList _ _ _ _ _ _
      refine wpList_nil ((x_normal ?_))
      refine r_true ha ?_
      refine wp_seq ?_
      refine wp_region_lit ?_
      refine s_val ha (.pointer (some ⟨g1, 0, none⟩)) fun ac ha => ?_
      refine s_load ha hs 1 (zV x.num) fun ac ha => ?_
      refine s_val ha (.pointer (some ⟨g2, 0, none⟩)) fun ac ha => ?_
      refine s_load ha hs 0 (zV y.num) fun ac ha => ?_
      refine s_call ha hs (.int .i64 (cmpZ x.num y.num)) (zcmp hx.num hy.num _ (by omega)) fun ac wd ha hs => ?_
      refine s_val ha (.int .i64 (cmpZ x.num y.num)) fun ac ha => ?_
      refine wpList_nil ((x_normal ?_))
      refine wp_ret (x_ret (ret_at ha hs rfl [.int .i64 (cmpZ x.num y.num)] ⟨rfl, trivial⟩ ?_))
      exact ret_v (congrArg (Value.int .i64) (cmpQ_int (of_decide_eq_true hb3) (of_decide_eq_true hb4))) hs.ext
    ·
      have phb4 := of_decide_eq_false hb4
      rcases Bool.eq_false_or_eq_true ((x.num.sign != y.num.sign)) with hb6 | hb6
      ·
        have phb6 := bne_iff_ne.1 hb6
        refine region_sp ha 13 [.eq (qV x), .eq (.bool true), .eq (.bool true), .eq (qV y), .eq (.bool false), .eq (.bool false), .eq (.bool false), .eq (qV x), .eq (.int .i64 x.num.sign), .eq (qV y), .eq (.int .i64 y.num.sign), .eq (.bool true), .eq (.bool true)] [] [] (fun _ hb => by cases hb)
          ⟨d_load hs 1, d_call (fun _ hw => fwhole_eq hx hb3 _ (by omega)), d_val, d_load hs 0, d_call (fun _ hw => fwhole_eq hy hb4 _ (by omega)), d_val, d_val, d_load hs 1, d_call (fun _ hw => fsign hx _ (by omega)), d_load hs 0, d_call (fun _ hw => fsign hy _ (by omega)), d_bool (b := (x.num.sign != y.num.sign)) hb6, d_val, trivial⟩ ?_
        intro vv wd1 ac hw hG hN ha
        have ha := ha.sub [(0, qV x), (1, qV y), (2, .pointer (some ⟨g1, 0, none⟩)), (3, .pointer (some ⟨g2, 0, none⟩)), (4, .int .i64 0), (17, .bool true)]
        clear hG hN
        have hs := hs.go hw
        clear hw
        refine keeps_nil ?_
        show wpList _ _ _ _ _ _
        refine wpList_nil ((x_normal ?_))
        refine r_true ha ?_
        refine wp_seq ?_
        refine wp_region_lit ?_
        refine s_val ha (.pointer (some ⟨g1, 0, none⟩)) fun ac ha => ?_
        refine s_load ha hs 1 (zV x.num) fun ac ha => ?_
        refine s_val ha (.pointer (some ⟨g2, 0, none⟩)) fun ac ha => ?_
        refine s_load ha hs 0 (zV y.num) fun ac ha => ?_
        refine s_call ha hs (.int .i64 (cmpZ x.num y.num)) (zcmp hx.num hy.num _ (by omega)) fun ac wd ha hs => ?_
        refine s_val ha (.int .i64 (cmpZ x.num y.num)) fun ac ha => ?_
        refine wpList_nil ((x_normal ?_))
        refine wp_ret (x_ret (ret_at ha hs rfl [.int .i64 (cmpZ x.num y.num)] ⟨rfl, trivial⟩ ?_))
        exact ret_v (congrArg (Value.int .i64) (cmpQ_sign phb6)) hs.ext
      ·
        have phb6 := bne_no hb6
        refine region_sp ha 13 [.eq (qV x), .eq (.bool true), .eq (.bool true), .eq (qV y), .eq (.bool false), .eq (.bool false), .eq (.bool false), .eq (qV x), .eq (.int .i64 x.num.sign), .eq (qV y), .eq (.int .i64 y.num.sign), .eq (.bool false), .eq (.bool false)] [] [] (fun _ hb => by cases hb)
          ⟨d_load hs 1, d_call (fun _ hw => fwhole_eq hx hb3 _ (by omega)), d_val, d_load hs 0, d_call (fun _ hw => fwhole_eq hy hb4 _ (by omega)), d_val, d_val, d_load hs 1, d_call (fun _ hw => fsign hx _ (by omega)), d_load hs 0, d_call (fun _ hw => fsign hy _ (by omega)), d_bool (b := (x.num.sign != y.num.sign)) hb6, d_val, trivial⟩ ?_
        intro vv wd1 ac hw hG hN ha
        have ha := ha.sub [(0, qV x), (1, qV y), (2, .pointer (some ⟨g1, 0, none⟩)), (3, .pointer (some ⟨g2, 0, none⟩)), (4, .int .i64 0), (17, .bool false)]
        clear hG hN
        have hs := hs.go hw
        clear hw
        refine keeps_nil ?_
        show wpList _ _ _ _ _ _
        refine wpList_nil ((x_normal ?_))
        refine r_false ha ?_
        refine wp_skip ((x_normal ?_))
        refine wp_seq ?_
        refine region_sp ha 11 [.eq (.pointer (some ⟨g1, 0, none⟩)), .eq (zV x.num), .eq (qV y), .eq (nV y.den), .eq (zV (x.num * ((y.den : Nat) : Int))), .eq (.pointer (some ⟨g2, 0, none⟩)), .eq (zV y.num), .eq (qV x), .eq (nV x.den), .eq (zV (y.num * ((x.den : Nat) : Int))), .eq (.int .i64 (cmpZ (x.num * ((y.den : Nat) : Int)) (y.num * ((x.den : Nat) : Int))))] [] [] (fun _ hb => by cases hb)
          ⟨d_val, d_load hs 1, d_load hs 0, d_call (fun _ hw => fden hy _ (by omega)), d_call (fun _ hw => ftimes hx.num hy.den _ (by omega)), d_val, d_load hs 0, d_load hs 1, d_call (fun _ hw => fden hx _ (by omega)), d_call (fun _ hw => ftimes hy.num hx.den _ (by omega)), d_call (fun _ hw => zcmp (hx.num.zmul (Sm.cast hy.den)) (hy.num.zmul (Sm.cast hx.den)) _ (by omega)), trivial⟩ ?_
        intro vv wd1 ac hw hG hN ha
        have ha := ha.sub [(0, qV x), (1, qV y), (2, .pointer (some ⟨g1, 0, none⟩)), (3, .pointer (some ⟨g2, 0, none⟩)), (4, .int .i64 0), (17, .bool false), (33, .int .i64 (cmpZ (x.num * ((y.den : Nat) : Int)) (y.num * ((x.den : Nat) : Int))))]
        clear hG hN
        have hs := hs.go hw
        clear hw
        refine keeps_nil ?_
        show wpList _ _ _ _ _ _
        refine s_val ha (.int .i64 (cmpZ (x.num * ((y.den : Nat) : Int)) (y.num * ((x.den : Nat) : Int)))) fun ac ha => ?_
        refine wpList_nil ((x_normal ?_))
        refine wp_ret (ret_at ha hs rfl [.int .i64 (cmpZ (x.num * ((y.den : Nat) : Int)) (y.num * ((x.den : Nat) : Int)))] ⟨rfl, trivial⟩ ?_)
        exact ret_v (congrArg (Value.int .i64) (cmpQ_cross x y)) hs.ext
  ·
    have phb3 := of_decide_eq_false hb3
    rcases Bool.eq_false_or_eq_true ((x.num.sign != y.num.sign)) with hb10 | hb10
    ·
      have phb10 := bne_iff_ne.1 hb10
      refine region_sp ha 13 [.eq (qV x), .eq (.bool false), .eq (.bool false), .eq (undef), .eq (undef), .eq (.bool false), .eq (.bool false), .eq (qV x), .eq (.int .i64 x.num.sign), .eq (qV y), .eq (.int .i64 y.num.sign), .eq (.bool true), .eq (.bool true)] [] [] (fun _ hb => by cases hb)
        ⟨d_load hs 1, d_call (fun _ hw => fwhole_eq hx hb3 _ (by omega)), d_val, d_not, d_not, d_val, d_val, d_load hs 1, d_call (fun _ hw => fsign hx _ (by omega)), d_load hs 0, d_call (fun _ hw => fsign hy _ (by omega)), d_bool (b := (x.num.sign != y.num.sign)) hb10, d_val, trivial⟩ ?_
      intro vv wd1 ac hw hG hN ha
      have ha := ha.sub [(0, qV x), (1, qV y), (2, .pointer (some ⟨g1, 0, none⟩)), (3, .pointer (some ⟨g2, 0, none⟩)), (4, .int .i64 0), (17, .bool true)]
      clear hG hN
      have hs := hs.go hw
      clear hw
      refine keeps_nil ?_
      show wpList _ _ _ _ _ _
      refine wpList_nil ((x_normal ?_))
      refine r_true ha ?_
      refine wp_seq ?_
      refine wp_region_lit ?_
      refine s_val ha (.pointer (some ⟨g1, 0, none⟩)) fun ac ha => ?_
      refine s_load ha hs 1 (zV x.num) fun ac ha => ?_
      refine s_val ha (.pointer (some ⟨g2, 0, none⟩)) fun ac ha => ?_
      refine s_load ha hs 0 (zV y.num) fun ac ha => ?_
      refine s_call ha hs (.int .i64 (cmpZ x.num y.num)) (zcmp hx.num hy.num _ (by omega)) fun ac wd ha hs => ?_
      refine s_val ha (.int .i64 (cmpZ x.num y.num)) fun ac ha => ?_
      refine wpList_nil ((x_normal ?_))
      refine wp_ret (x_ret (ret_at ha hs rfl [.int .i64 (cmpZ x.num y.num)] ⟨rfl, trivial⟩ ?_))
      exact ret_v (congrArg (Value.int .i64) (cmpQ_sign phb10)) hs.ext
    ·
      have phb10 := bne_no hb10
      refine region_sp ha 13 [.eq (qV x), .eq (.bool false), .eq (.bool false), .eq (undef), .eq (undef), .eq (.bool false), .eq (.bool false), .eq (qV x), .eq (.int .i64 x.num.sign), .eq (qV y), .eq (.int .i64 y.num.sign), .eq (.bool false), .eq (.bool false)] [] [] (fun _ hb => by cases hb)
        ⟨d_load hs 1, d_call (fun _ hw => fwhole_eq hx hb3 _ (by omega)), d_val, d_not, d_not, d_val, d_val, d_load hs 1, d_call (fun _ hw => fsign hx _ (by omega)), d_load hs 0, d_call (fun _ hw => fsign hy _ (by omega)), d_bool (b := (x.num.sign != y.num.sign)) hb10, d_val, trivial⟩ ?_
      intro vv wd1 ac hw hG hN ha
      have ha := ha.sub [(0, qV x), (1, qV y), (2, .pointer (some ⟨g1, 0, none⟩)), (3, .pointer (some ⟨g2, 0, none⟩)), (4, .int .i64 0), (17, .bool false)]
      clear hG hN
      have hs := hs.go hw
      clear hw
      refine keeps_nil ?_
      show wpList _ _ _ _ _ _
      refine wpList_nil ((x_normal ?_))
      refine r_false ha ?_
      refine wp_skip ((x_normal ?_))
      refine wp_seq ?_
      refine region_sp ha 11 [.eq (.pointer (some ⟨g1, 0, none⟩)), .eq (zV x.num), .eq (qV y), .eq (nV y.den), .eq (zV (x.num * ((y.den : Nat) : Int))), .eq (.pointer (some ⟨g2, 0, none⟩)), .eq (zV y.num), .eq (qV x), .eq (nV x.den), .eq (zV (y.num * ((x.den : Nat) : Int))), .eq (.int .i64 (cmpZ (x.num * ((y.den : Nat) : Int)) (y.num * ((x.den : Nat) : Int))))] [] [] (fun _ hb => by cases hb)
        ⟨d_val, d_load hs 1, d_load hs 0, d_call (fun _ hw => fden hy _ (by omega)), d_call (fun _ hw => ftimes hx.num hy.den _ (by omega)), d_val, d_load hs 0, d_load hs 1, d_call (fun _ hw => fden hx _ (by omega)), d_call (fun _ hw => ftimes hy.num hx.den _ (by omega)), d_call (fun _ hw => zcmp (hx.num.zmul (Sm.cast hy.den)) (hy.num.zmul (Sm.cast hx.den)) _ (by omega)), trivial⟩ ?_
      intro vv wd1 ac hw hG hN ha
      have ha := ha.sub [(0, qV x), (1, qV y), (2, .pointer (some ⟨g1, 0, none⟩)), (3, .pointer (some ⟨g2, 0, none⟩)), (4, .int .i64 0), (17, .bool false), (33, .int .i64 (cmpZ (x.num * ((y.den : Nat) : Int)) (y.num * ((x.den : Nat) : Int))))]
      clear hG hN
      have hs := hs.go hw
      clear hw
      refine keeps_nil ?_
      show wpList _ _ _ _ _ _
      refine s_val ha (.int .i64 (cmpZ (x.num * ((y.den : Nat) : Int)) (y.num * ((x.den : Nat) : Int)))) fun ac ha => ?_
      refine wpList_nil ((x_normal ?_))
      refine wp_ret (ret_at ha hs rfl [.int .i64 (cmpZ (x.num * ((y.den : Nat) : Int)) (y.num * ((x.den : Nat) : Int)))] ⟨rfl, trivial⟩ ?_)
      exact ret_v (congrArg (Value.int .i64) (cmpQ_cross x y)) hs.ext
  
set_option maxHeartbeats 1000000 in
theorem fdiv {j k : Nat} {x y : Rat} (hx : Sq j x) (hy : Sq k y) (h0 : y ≠ 0) (w : World) (htab : Tab64 w) (hk : max j k ≤ 40000000000) : Calls Tryz.prog 79 #[qV x, qV y] w (Ret (.tuple #[qV (x / y), .bool true]) w) := by
  have hy0 : decide (y = 0) = false := decide_eq_false h0
  have hs := St.start w
  refine enter Tryz.func79 rfl Tryz.ntmps79 (by kernel_rfl) fun ac ha => ?_
  refine wp_seq ?_
  refine wp_region_lit ?_
  refine s_box ha hs [.bool (decide (x.num < 0)), .int .u64 (lo x.num.natAbs : Nat), .string (hi x.num.natAbs), .int .u64 (lo (d1 x.den) : Nat), .string (hi (d1 x.den))] fun g14 ac wd ha hs => ?_
  refine s_box ha hs [.bool (decide (y.num < 0)), .int .u64 (lo y.num.natAbs : Nat), .string (hi y.num.natAbs), .int .u64 (lo (d1 y.den) : Nat), .string (hi (d1 y.den))] fun g15 ac wd ha hs => ?_
  refine s_alloc ha hs [.bool false, .int .u64 0, .string (⟨#[]⟩), .int .u64 0, .string (⟨#[]⟩)] fun g16 ac wd ha hs => ?_
  refine s_val ha (.bool false) fun ac ha => ?_
  refine wpList_nil ((x_normal ?_))
  refine wp_seq ?_
  refine wp_seq ?_
  refine wp_region_lit ?_
  refine s_load ha hs 1 (qV y) fun ac ha => ?_
  rcases Bool.eq_false_or_eq_true (decide (y.num < 0)) with hb17 | hb17
  ·
    have phb17 := of_decide_eq_true hb17
    refine s_call ha hs (.int .i64 y.num.sign) (fsign hy _ (by omega)) fun ac wd ha hs => ?_
    refine s_bool ha (b := (y.num.sign == 0)) false (qsgn_ne hy0) fun ac ha => ?_
    refine wpList_nil ((x_normal ?_))
    refine r_false ha ?_
    refine wp_skip ((x_normal ?_))
    refine wp_seq ?_
    refine region_sp ha 12 [.eq (qV x), .eq (qV y), .eq (.int .i64 y.num.sign), .eq (.bool true), .eq (qV y), .eq (nV y.den), .eq (zV (-((y.den : Nat) : Int))), .eq (.pointer (some ⟨g15, 0, none⟩)), .eq (zV y.num), .eq (nV y.num.natAbs), .eq (qV (y⁻¹)), .eq (qV (x * (y⁻¹)))] [] [] (fun _ hb => by cases hb)
      ⟨d_load hs 2, d_load hs 1, d_call (fun _ hw => fsign hy _ (by omega)), d_bool (b := decide (y.num.sign < 0)) ((sign_neg y.num).trans hb17), d_load hs 1, d_call (fun _ hw => fden hy _ (by omega)), d_call (fun _ hw => from_any true hy.den (by omega) _), d_val, d_load hs 1, d_call (fun _ hw => zabs y.num _), d_call (fun _ hw => fpack_inv hy.num (inv_neg hb17) _ (by omega)), d_call (fun _ hw => fmul hx (hy.inv (of_decide_eq_false hy0)) _ (htab.ext (hs.go hw).ext) (by omega)), trivial⟩ ?_
    intro vv wd1 ac hw hG hN ha
    have ha := ha.sub [(0, qV x), (1, qV y), (3, .pointer (some ⟨g15, 0, none⟩)), (4, .pointer (some ⟨g16, 0, none⟩)), (5, .bool false), (6, qV y), (7, .int .i64 y.num.sign), (8, .bool false), (21, qV (x * (y⁻¹)))]
    clear hG hN
    have hs := hs.go hw
    clear hw
    refine keeps_nil ?_
    show wpList _ _ _ _ _ _
    refine s_store ha hs 0 _ fun ac wd ha hs => ?_
    refine s_val ha (.bool true) fun ac ha => ?_
    refine wpList_nil ((x_normal ?_))
    refine wp_ret (ret_at ha hs rfl [qV (x * (y⁻¹)), .bool true] ⟨⟨0, _, _, _, rfl, rfl, by kernel_rfl⟩, rfl, trivial⟩ ?_)
    exact ret_vb (by rw [Rat.div_def]) hs.ext
  ·
    have phb17 := of_decide_eq_false hb17
    refine s_call ha hs (.int .i64 y.num.sign) (fsign hy _ (by omega)) fun ac wd ha hs => ?_
    refine s_bool ha (b := (y.num.sign == 0)) false (qsgn_ne hy0) fun ac ha => ?_
    refine wpList_nil ((x_normal ?_))
    refine r_false ha ?_
    refine wp_skip ((x_normal ?_))
    refine wp_seq ?_
    refine region_sp ha 12 [.eq (qV x), .eq (qV y), .eq (.int .i64 y.num.sign), .eq (.bool false), .eq (qV y), .eq (nV y.den), .eq (zV ((y.den : Nat) : Int)), .eq (.pointer (some ⟨g15, 0, none⟩)), .eq (zV y.num), .eq (nV y.num.natAbs), .eq (qV (y⁻¹)), .eq (qV (x * (y⁻¹)))] [] [] (fun _ hb => by cases hb)
      ⟨d_load hs 2, d_load hs 1, d_call (fun _ hw => fsign hy _ (by omega)), d_bool (b := decide (y.num.sign < 0)) ((sign_neg y.num).trans hb17), d_load hs 1, d_call (fun _ hw => fden hy _ (by omega)), d_call (fun _ hw => from_any false hy.den (by omega) _), d_val, d_load hs 1, d_call (fun _ hw => zabs y.num _), d_call (fun _ hw => fpack_inv hy.num (inv_pos hy0 hb17) _ (by omega)), d_call (fun _ hw => fmul hx (hy.inv (of_decide_eq_false hy0)) _ (htab.ext (hs.go hw).ext) (by omega)), trivial⟩ ?_
    intro vv wd1 ac hw hG hN ha
    have ha := ha.sub [(0, qV x), (1, qV y), (3, .pointer (some ⟨g15, 0, none⟩)), (4, .pointer (some ⟨g16, 0, none⟩)), (5, .bool false), (6, qV y), (7, .int .i64 y.num.sign), (8, .bool false), (21, qV (x * (y⁻¹)))]
    clear hG hN
    have hs := hs.go hw
    clear hw
    refine keeps_nil ?_
    show wpList _ _ _ _ _ _
    refine s_store ha hs 0 _ fun ac wd ha hs => ?_
    refine s_val ha (.bool true) fun ac ha => ?_
    refine wpList_nil ((x_normal ?_))
    refine wp_ret (ret_at ha hs rfl [qV (x * (y⁻¹)), .bool true] ⟨⟨0, _, _, _, rfl, rfl, by kernel_rfl⟩, rfl, trivial⟩ ?_)
    exact ret_vb (by rw [Rat.div_def]) hs.ext
  
set_option maxHeartbeats 1000000 in
theorem fdiv_no (x : Rat) {y : Rat} (h0 : y = 0) (w : World) : Calls Tryz.prog 79 #[qV x, qV y] w (Ret (.tuple #[qV 0, .bool false]) w) := by
  have hy0 : decide (y = 0) = true := decide_eq_true h0
  have hy : Sq 1 y := by rw [h0]; exact Sq.zero 1 (by omega)
  have hs := St.start w
  refine enter Tryz.func79 rfl Tryz.ntmps79 (by kernel_rfl) fun ac ha => ?_
  refine wp_seq ?_
  refine wp_region_lit ?_
  refine s_box ha hs [.bool (decide (x.num < 0)), .int .u64 (lo x.num.natAbs : Nat), .string (hi x.num.natAbs), .int .u64 (lo (d1 x.den) : Nat), .string (hi (d1 x.den))] fun g20 ac wd ha hs => ?_
  refine s_box ha hs [.bool (decide (y.num < 0)), .int .u64 (lo y.num.natAbs : Nat), .string (hi y.num.natAbs), .int .u64 (lo (d1 y.den) : Nat), .string (hi (d1 y.den))] fun g21 ac wd ha hs => ?_
  refine s_alloc ha hs [.bool false, .int .u64 0, .string (⟨#[]⟩), .int .u64 0, .string (⟨#[]⟩)] fun g22 ac wd ha hs => ?_
  refine s_val ha (.bool false) fun ac ha => ?_
  refine wpList_nil ((x_normal ?_))
  refine wp_seq ?_
  refine wp_seq ?_
  refine wp_region_lit ?_
  refine s_load ha hs 1 (qV y) fun ac ha => ?_
  refine s_call ha hs (.int .i64 0) (fsign0 hy hy0 _ (by omega)) fun ac wd ha hs => ?_
  refine s_val ha (.bool true) fun ac ha => ?_
  refine wpList_nil ((x_normal ?_))
  refine r_true ha ?_
  refine wp_seq ?_
  refine wp_region_lit ?_
  refine s_eq ha (qV (0 : Rat)) qV_zero.symm fun ac ha => ?_
  refine s_store ha hs 0 _ fun ac wd ha hs => ?_
  refine s_val ha (.bool false) fun ac ha => ?_
  refine wpList_nil ((x_normal ?_))
  refine wp_ret (x_ret (ret_at ha hs rfl [qV (0 : Rat), .bool false] ⟨⟨0, _, _, _, rfl, rfl, by kernel_rfl⟩, rfl, trivial⟩ ?_))
  exact ⟨rfl, hs.ext⟩
  
set_option maxHeartbeats 1000000 in
theorem fof (n : Int) (h1 : -9223372036854775808 ≤ n) (h2 : n ≤ 9223372036854775807) (w : World) : Calls Tryz.prog 44 #[.int .i64 n] w (Ret (qV (n : Rat)) w) := by
  have hs := St.start w
  refine enter Tryz.func44 rfl Tryz.ntmps44 (by kernel_rfl) fun ac ha => ?_
  refine wp_seq ?_
  refine wp_region_lit ?_
  refine s_alloc ha hs [.bool false, .int .u64 0, .string (⟨#[]⟩), .int .u64 0, .string (⟨#[]⟩)] fun g23 ac wd ha hs => ?_
  refine wpList_nil ((x_normal ?_))
  refine wp_seq ?_
  refine wp_region_lit ?_
  refine s_val ha (.int .i64 n) fun ac ha => ?_
  refine s_call ha hs (zV n) (zof n h1 h2 _) fun ac wd ha hs => ?_
  refine s_eq ha (qP n 1) (qP_one _) fun ac ha => ?_
  refine s_store ha hs 0 _ fun ac wd ha hs => ?_
  refine wpList_nil ((x_normal ?_))
  refine wp_ret (ret_at ha hs rfl [qP n 1] ⟨⟨0, _, _, _, rfl, rfl, by kernel_rfl⟩, trivial⟩ ?_)
  exact ret_v rfl hs.ext
end Go.Proofs.YtiloialbglfplaaGreatDoor

namespace Go.Proofs.YtiloialbglfplaaGreatDoor
open Go.RowKit

end Go.Proofs.YtiloialbglfplaaGreatDoor

namespace Go.Proofs.YtiloialbglfplaaGreatDoor

/-- The document's root, from the bits down. -/
structure RtDn (a i r : Nat) : Prop where
  le : r * r ≤ a
  lt : a < (r + 2 ^ i) * (r + 2 ^ i)
theorem RtDn.start (a : Nat) : RtDn a (bl a / 2 + 1) 0 := by
  refine ⟨by omega, ?_⟩
  rw [Nat.zero_add, ← Nat.pow_add]
  exact Nat.lt_of_lt_of_le (lt_bl a) (Nat.pow_le_pow_right (by omega) (by omega))
theorem RtDn.yes {a i r : Nat} (h : RtDn a (i + 1) r) (hle : (r + 2 ^ i) * (r + 2 ^ i) ≤ a) : RtDn a i (r + 2 ^ i) := by
  refine ⟨hle, ?_⟩
  have := h.lt
  rw [Nat.pow_succ, show r + 2 ^ i * 2 = r + 2 ^ i + 2 ^ i from by omega] at this
  exact this
theorem RtDn.no {a i r : Nat} (h : RtDn a (i + 1) r) (hlt : a < (r + 2 ^ i) * (r + 2 ^ i)) : RtDn a i r := ⟨h.le, hlt⟩
theorem RtDn.fin {a r : Nat} (h : RtDn a 0 r) : rt a = r := IsRoot.unique (rt_is a) ⟨h.le, by have := h.lt; rwa [Nat.pow_zero] at this⟩
theorem RtDn.small {a i r : Nat} (h : RtDn a i r) : bl r ≤ bl a := by
  refine bl_mono ?_
  have := h.le
  rcases Nat.eq_zero_or_pos r with h0 | h0
  · omega
  · exact Nat.le_trans (Nat.le_mul_of_pos_left _ h0) this
end Go.Proofs.YtiloialbglfplaaGreatDoor

namespace Go.Proofs.YtiloialbglfplaaGreatDoor
open Go.RowKit
end Go.Proofs.YtiloialbglfplaaGreatDoor

namespace Go.Proofs.YtiloialbglfplaaGreatDoor
open Go.RowKit

end Go.Proofs.YtiloialbglfplaaGreatDoor

namespace Go.Proofs.YtiloialbglfplaaGreatDoor
open Go.RowKit

end Go.Proofs.YtiloialbglfplaaGreatDoor

namespace Go.Proofs.YtiloialbglfplaaGreatDoor
open Go.RowKit

/-- A power, factor by factor. -/
def zp (x : Int) : Nat → Int
  | 0 => 1
  | n + 1 => zp x n * x
end Go.Proofs.YtiloialbglfplaaGreatDoor

namespace Go.Proofs.YtiloialbglfplaaGreatDoor
open Go.RowKit

/-- The value of a fraction of the document's. -/
def rqV (q : Rat) (A : Option Addr) (c : Nat) (B : Option Addr) (d : Nat) : Value := .agg #[.bool (decide (q.num < 0)), .slice A (nl q.num.natAbs) c, .slice B (nl q.den) d]
def RQ (q : Rat) (v : Value) (w : World) : Prop := ∃ A c B d, v = rqV q A c B d ∧ R32 q.num.natAbs (.slice A (nl q.num.natAbs) c) w ∧ R32 q.den (.slice B (nl q.den) d) w
theorem RQ.mk {q : Rat} {A B : Option Addr} {c d : Nat} {w : World} (h1 : R32 q.num.natAbs (.slice A (nl q.num.natAbs) c) w) (h2 : R32 q.den (.slice B (nl q.den) d) w) : RQ q (rqV q A c B d) w := ⟨A, c, B, d, rfl, h1, h2⟩
theorem RQ.ext {q : Rat} {v : Value} {w w' : World} (h : RQ q v w) (e : Ext w w') : RQ q v w' := by
  obtain ⟨A, c, B, d, rfl, h1, h2⟩ := h
  exact ⟨A, c, B, d, rfl, h1.ext e, h2.ext e⟩
theorem ret_rq {q : Rat} {z : Int} {n : Nat} {A B : Option Addr} {c d : Nat} {w w' : World} (hz : z = q.num) (hn : n = q.den) (e : Ext w w') (h1 : R32 z.natAbs (.slice A (nl z.natAbs) c) w') (h2 : R32 n (.slice B (nl n) d) w') :
    RetS (RQ q) w (.returned (pack [.agg #[.bool (decide (z < 0)), .slice A (nl z.natAbs) c, .slice B (nl n) d]])) w' := by
  subst hz; subst hn
  exact ⟨_, rfl, ⟨A, c, B, d, rfl, h1, h2⟩, e⟩
theorem ret_rqe {q q' : Rat} {v : Value} {w w' : World} (h : q' = q) (e : Ext w w') (h1 : RQ q' v w') : RetS (RQ q) w (.returned (pack [v])) w' := by subst h; exact ⟨_, rfl, h1, e⟩
/-- What Make makes. -/
theorem rmake (n : Int) {m : Int} (hm : m ≠ 0) : (∀ b c, decide (n < 0) = b → decide (m < 0) = c → sg (b != c) (n.natAbs / Nat.gcd n.natAbs m.natAbs) = ((n : Rat) / (m : Rat)).num) ∧ m.natAbs / Nat.gcd n.natAbs m.natAbs = ((n : Rat) / (m : Rat)).den := by
  have hg : 0 < Nat.gcd n.natAbs m.natAbs := Nat.gcd_pos_of_pos_right _ (by omega)
  have hdv : Nat.gcd n.natAbs m.natAbs ∣ n.natAbs := Nat.gcd_dvd_left _ _
  have key : ∀ N : Int, N.natAbs = n.natAbs → (mkRat N m.natAbs).num = N / ((Nat.gcd n.natAbs m.natAbs : Nat) : Int) ∧ (mkRat N m.natAbs).den = m.natAbs / Nat.gcd n.natAbs m.natAbs := fun N hN => by
    rw [Rat.num_mkRat, Rat.den_mkRat, if_neg (by omega), if_neg (by omega), hN, Nat.gcd_comm]
    exact ⟨rfl, rfl⟩
  have hs := fun N : Int => fun hN : N.natAbs = n.natAbs => sg_div (n := N) hg (by rw [hN]; exact hdv)
  by_cases h : m < 0
  · rw [← make_neg n (decide_eq_true h)]
    obtain ⟨k1, k2⟩ := key (-n) (Int.natAbs_neg n)
    refine ⟨fun b c hb hc => ?_, k2.symm⟩
    have h2 := hs (-n) (Int.natAbs_neg n)
    rw [k1, ← h2, Int.natAbs_neg]
    have hc' : c = true := by rw [← hc]; exact decide_eq_true h
    subst hc'
    rcases Int.lt_trichotomy n 0 with h' | h' | h'
    · rw [← hb, decide_eq_true h', decide_eq_false (show ¬ -n < 0 by omega)]; rfl
    · subst h'
      rw [← hb]
      simp [sg]
    · rw [← hb, decide_eq_false (show ¬ n < 0 by omega), decide_eq_true (show -n < 0 by omega)]; rfl
  · rw [← make_pos n (decide_eq_false h)]
    obtain ⟨k1, k2⟩ := key n rfl
    refine ⟨fun b c hb hc => ?_, k2.symm⟩
    rw [k1, ← hs n rfl]
    have hc' : c = false := by rw [← hc]; exact decide_eq_false h
    subst hc'
    rw [hb]
    cases b <;> rfl
theorem int_div_rat (n : Int) {d : Nat} : (n : Rat) / (((d : Nat) : Int) : Rat) = mkRat n d := by
  rw [← Rat.divInt_eq_div, Rat.divInt_ofNat]
theorem rat_num_den (q : Rat) : ((q.num : Int) : Rat) / (((q.den : Nat) : Int) : Rat) = q := by rw [int_div_rat, Rat.mkRat_self]
theorem nl_den (q : Rat) : (((nl q.den : Nat) : Int) == 0) = false := by
  have := (nl_pos q.den).2 q.den_pos
  exact beq_eq_false_iff_ne.2 (by omega)
/-- The number of the table [1, 1, 1, 2, 3, 4]. -/
def dd (j : Nat) : Nat := [1, 1, 1, 2, 3, 4].getD j 1
set_option maxHeartbeats 1000000 in
theorem rqmake {j k : Nat} {n m : Int} (hn : Sm j n.natAbs) (hm : Sm k m.natAbs) (hm0 : m ≠ 0) {v1 v2 : Value} (w : World) (q1 : RI n v1 w) (q2 : RI m v2 w) (hk : max j k ≤ 90000000000) : Calls Tryz.prog 150 #[v1, v2] w (RetS (RQ ((n : Rat) / (m : Rat))) w) := by
  obtain ⟨A1, c1, rfl, h1⟩ := q1
  obtain ⟨A2, c2, rfl, h2⟩ := q2
  have hgz : decide ((Nat.gcd n.natAbs m.natAbs) = 0) = false := decide_eq_false (by have := Nat.gcd_pos_of_pos_right n.natAbs (show 0 < m.natAbs by omega); omega)
  have hs := St.start w
  have hs := hs.add32 h1 (by kernel_rfl)
  have hs := hs.add32 h2 (by kernel_rfl)
  refine enter Tryz.func150 rfl Tryz.ntmps150 (by kernel_rfl) fun ac ha => ?_
  refine wp_seq ?_
  refine wp_region_lit ?_
  refine s_box ha hs [.bool (decide (n < 0)), .slice A1 (nl n.natAbs) c1] fun g1 ac wd ha hs => ?_
  refine s_box ha hs [.bool (decide (m < 0)), .slice A2 (nl m.natAbs) c2] fun g2 ac wd ha hs => ?_
  refine s_alloc ha hs [.bool false, .slice none 0 0, .slice none 0 0] fun g3 ac wd ha hs => ?_
  refine wpList_nil ((x_normal ?_))
  refine wp_seq ?_
  refine wp_region_lit ?_
  refine s_val ha (.pointer (some ⟨g1, 1, none⟩)) fun ac ha => ?_
  refine s_load ha hs 2 (.slice A1 (nl n.natAbs) c1) fun ac ha => ?_
  refine s_val ha (.pointer (some ⟨g2, 1, none⟩)) fun ac ha => ?_
  refine s_load ha hs 1 (.slice A2 (nl m.natAbs) c2) fun ac ha => ?_
  refine s_callP ha hs (refgcd hn hm _ (hs.get 1 rfl) (hs.get 0 rfl) (by omega)) fun u ac wd hp ha hs => ?_
  obtain ⟨Ai4, ci4, rfl⟩ := hp.form
  have hs := hs.add32 hp (by kernel_rfl)
  refine s_val ha (.slice Ai4 (nl (Nat.gcd n.natAbs m.natAbs)) ci4) fun ac ha => ?_
  refine wpList_nil ((x_normal ?_))
  refine wp_seq ?_
  refine wp_region_lit ?_
  refine s_val ha (.pointer (some ⟨g1, 1, none⟩)) fun ac ha => ?_
  refine s_load ha hs 2 (.slice A1 (nl n.natAbs) c1) fun ac ha => ?_
  refine s_val ha (.slice Ai4 (nl (Nat.gcd n.natAbs m.natAbs)) ci4) fun ac ha => ?_
  refine s_callP ha hs (crdiv2 hn (Sm.gcd hn hm) (of_decide_eq_false hgz) _ (hs.get 2 rfl) (hs.get 0 rfl) (by omega)) fun u ac wd hp ha hs => ?_
  obtain ⟨x5, y5, rfl, p5, q5⟩ := hp
  obtain ⟨Ai6, ci6, rfl⟩ := p5.form
  have hs := hs.add32 p5 (by kernel_rfl)
  obtain ⟨Ai7, ci7, rfl⟩ := q5.form
  have hs := hs.add32 q5 (by kernel_rfl)
  refine s_val ha (.tuple #[.slice Ai6 (nl (n.natAbs / (Nat.gcd n.natAbs m.natAbs))) ci6, .slice Ai7 (nl (n.natAbs % (Nat.gcd n.natAbs m.natAbs))) ci7]) fun ac ha => ?_
  refine s_val ha (.slice Ai6 (nl (n.natAbs / (Nat.gcd n.natAbs m.natAbs))) ci6) fun ac ha => ?_
  refine s_val ha (.slice Ai7 (nl (n.natAbs % (Nat.gcd n.natAbs m.natAbs))) ci7) fun ac ha => ?_
  refine s_val ha (.slice Ai6 (nl (n.natAbs / (Nat.gcd n.natAbs m.natAbs))) ci6) fun ac ha => ?_
  refine s_val ha (.slice Ai7 (nl (n.natAbs % (Nat.gcd n.natAbs m.natAbs))) ci7) fun ac ha => ?_
  refine wpList_nil ((x_normal ?_))
  refine wp_seq ?_
  refine wp_region_lit ?_
  refine s_val ha (.pointer (some ⟨g2, 1, none⟩)) fun ac ha => ?_
  refine s_load ha hs 1 (.slice A2 (nl m.natAbs) c2) fun ac ha => ?_
  refine s_val ha (.slice Ai4 (nl (Nat.gcd n.natAbs m.natAbs)) ci4) fun ac ha => ?_
  refine s_callP ha hs (crdiv2 hm (Sm.gcd hn hm) (of_decide_eq_false hgz) _ (hs.get 3 rfl) (hs.get 2 rfl) (by omega)) fun u ac wd hp ha hs => ?_
  obtain ⟨x8, y8, rfl, p8, q8⟩ := hp
  obtain ⟨Ai9, ci9, rfl⟩ := p8.form
  have hs := hs.add32 p8 (by kernel_rfl)
  obtain ⟨Ai10, ci10, rfl⟩ := q8.form
  have hs := hs.add32 q8 (by kernel_rfl)
  refine s_val ha (.tuple #[.slice Ai9 (nl (m.natAbs / (Nat.gcd n.natAbs m.natAbs))) ci9, .slice Ai10 (nl (m.natAbs % (Nat.gcd n.natAbs m.natAbs))) ci10]) fun ac ha => ?_
  refine s_val ha (.slice Ai9 (nl (m.natAbs / (Nat.gcd n.natAbs m.natAbs))) ci9) fun ac ha => ?_
  refine s_val ha (.slice Ai10 (nl (m.natAbs % (Nat.gcd n.natAbs m.natAbs))) ci10) fun ac ha => ?_
  refine s_val ha (.slice Ai9 (nl (m.natAbs / (Nat.gcd n.natAbs m.natAbs))) ci9) fun ac ha => ?_
  refine s_val ha (.slice Ai10 (nl (m.natAbs % (Nat.gcd n.natAbs m.natAbs))) ci10) fun ac ha => ?_
  refine wpList_nil ((x_normal ?_))
  refine wp_seq ?_
  refine wp_region_lit ?_
  refine s_val ha (.pointer (some ⟨g1, 0, none⟩)) fun ac ha => ?_
  rcases Bool.eq_false_or_eq_true (decide (n < 0)) with hb11 | hb11
  ·
    have phb11 := of_decide_eq_true hb11
    refine s_loadb ha hs 2 true hb11 fun ac ha => ?_
    refine s_val ha (.pointer (some ⟨g2, 0, none⟩)) fun ac ha => ?_
    rcases Bool.eq_false_or_eq_true (decide (m < 0)) with hb12 | hb12
    ·
      have phb12 := of_decide_eq_true hb12
      refine s_loadb ha hs 1 true hb12 fun ac ha => ?_
      refine s_val ha (.bool false) fun ac ha => ?_
      refine s_val ha (.slice Ai6 (nl (n.natAbs / (Nat.gcd n.natAbs m.natAbs))) ci6) fun ac ha => ?_
      refine s_callP ha hs (ri_any false _ (hs.get 3 rfl)) fun u ac wd hp ha hs => ?_
      obtain ⟨Ai13, ci13, rfl, r13⟩ := hp
      have hs := hs.add32 r13 (by kernel_rfl)
      refine s_val ha (.slice Ai9 (nl (m.natAbs / (Nat.gcd n.natAbs m.natAbs))) ci9) fun ac ha => ?_
      refine s_val ha (.agg #[.bool (decide (((n.natAbs / (Nat.gcd n.natAbs m.natAbs) : Nat) : Int) < 0)), .slice Ai13 (nl (((n.natAbs / (Nat.gcd n.natAbs m.natAbs) : Nat) : Int).natAbs)) ci13, .slice Ai9 (nl (m.natAbs / (Nat.gcd n.natAbs m.natAbs))) ci9]) fun ac ha => ?_
      refine s_store ha hs 0 _ fun ac wd ha hs => ?_
      refine wpList_nil ((x_normal ?_))
      refine wp_ret (ret_at ha hs rfl [.agg #[.bool (decide (((n.natAbs / (Nat.gcd n.natAbs m.natAbs) : Nat) : Int) < 0)), .slice Ai13 (nl (((n.natAbs / (Nat.gcd n.natAbs m.natAbs) : Nat) : Int).natAbs)) ci13, .slice Ai9 (nl (m.natAbs / (Nat.gcd n.natAbs m.natAbs))) ci9]] ⟨⟨0, _, _, _, rfl, rfl, by kernel_rfl⟩, trivial⟩ ?_)
      have hq := rmake n hm0
      exact ret_rq (hq.1 _ _ hb11 hb12) hq.2 hs.ext (hs.get 0 rfl) (hs.get 2 rfl)
    ·
      have phb12 := of_decide_eq_false hb12
      refine s_loadb ha hs 1 false hb12 fun ac ha => ?_
      refine s_val ha (.bool true) fun ac ha => ?_
      refine s_val ha (.slice Ai6 (nl (n.natAbs / (Nat.gcd n.natAbs m.natAbs))) ci6) fun ac ha => ?_
      refine s_callP ha hs (ri_any true _ (hs.get 3 rfl)) fun u ac wd hp ha hs => ?_
      obtain ⟨Ai14, ci14, rfl, r14⟩ := hp
      have hs := hs.add32 r14 (by kernel_rfl)
      refine s_val ha (.slice Ai9 (nl (m.natAbs / (Nat.gcd n.natAbs m.natAbs))) ci9) fun ac ha => ?_
      refine s_val ha (.agg #[.bool (decide (-((n.natAbs / (Nat.gcd n.natAbs m.natAbs) : Nat) : Int) < 0)), .slice Ai14 (nl ((-((n.natAbs / (Nat.gcd n.natAbs m.natAbs) : Nat) : Int)).natAbs)) ci14, .slice Ai9 (nl (m.natAbs / (Nat.gcd n.natAbs m.natAbs))) ci9]) fun ac ha => ?_
      refine s_store ha hs 0 _ fun ac wd ha hs => ?_
      refine wpList_nil ((x_normal ?_))
      refine wp_ret (ret_at ha hs rfl [.agg #[.bool (decide (-((n.natAbs / (Nat.gcd n.natAbs m.natAbs) : Nat) : Int) < 0)), .slice Ai14 (nl ((-((n.natAbs / (Nat.gcd n.natAbs m.natAbs) : Nat) : Int)).natAbs)) ci14, .slice Ai9 (nl (m.natAbs / (Nat.gcd n.natAbs m.natAbs))) ci9]] ⟨⟨0, _, _, _, rfl, rfl, by kernel_rfl⟩, trivial⟩ ?_)
      have hq := rmake n hm0
      exact ret_rq (hq.1 _ _ hb11 hb12) hq.2 hs.ext (hs.get 0 rfl) (hs.get 2 rfl)
  ·
    have phb11 := of_decide_eq_false hb11
    refine s_loadb ha hs 2 false hb11 fun ac ha => ?_
    refine s_val ha (.pointer (some ⟨g2, 0, none⟩)) fun ac ha => ?_
    rcases Bool.eq_false_or_eq_true (decide (m < 0)) with hb15 | hb15
    ·
      have phb15 := of_decide_eq_true hb15
      refine s_loadb ha hs 1 true hb15 fun ac ha => ?_
      refine s_val ha (.bool true) fun ac ha => ?_
      refine s_val ha (.slice Ai6 (nl (n.natAbs / (Nat.gcd n.natAbs m.natAbs))) ci6) fun ac ha => ?_
      refine s_callP ha hs (ri_any true _ (hs.get 3 rfl)) fun u ac wd hp ha hs => ?_
      obtain ⟨Ai16, ci16, rfl, r16⟩ := hp
      have hs := hs.add32 r16 (by kernel_rfl)
      refine s_val ha (.slice Ai9 (nl (m.natAbs / (Nat.gcd n.natAbs m.natAbs))) ci9) fun ac ha => ?_
      refine s_val ha (.agg #[.bool (decide (-((n.natAbs / (Nat.gcd n.natAbs m.natAbs) : Nat) : Int) < 0)), .slice Ai16 (nl ((-((n.natAbs / (Nat.gcd n.natAbs m.natAbs) : Nat) : Int)).natAbs)) ci16, .slice Ai9 (nl (m.natAbs / (Nat.gcd n.natAbs m.natAbs))) ci9]) fun ac ha => ?_
      refine s_store ha hs 0 _ fun ac wd ha hs => ?_
      refine wpList_nil ((x_normal ?_))
      refine wp_ret (ret_at ha hs rfl [.agg #[.bool (decide (-((n.natAbs / (Nat.gcd n.natAbs m.natAbs) : Nat) : Int) < 0)), .slice Ai16 (nl ((-((n.natAbs / (Nat.gcd n.natAbs m.natAbs) : Nat) : Int)).natAbs)) ci16, .slice Ai9 (nl (m.natAbs / (Nat.gcd n.natAbs m.natAbs))) ci9]] ⟨⟨0, _, _, _, rfl, rfl, by kernel_rfl⟩, trivial⟩ ?_)
      have hq := rmake n hm0
      exact ret_rq (hq.1 _ _ hb11 hb15) hq.2 hs.ext (hs.get 0 rfl) (hs.get 2 rfl)
    ·
      have phb15 := of_decide_eq_false hb15
      refine s_loadb ha hs 1 false hb15 fun ac ha => ?_
      refine s_val ha (.bool false) fun ac ha => ?_
      refine s_val ha (.slice Ai6 (nl (n.natAbs / (Nat.gcd n.natAbs m.natAbs))) ci6) fun ac ha => ?_
      refine s_callP ha hs (ri_any false _ (hs.get 3 rfl)) fun u ac wd hp ha hs => ?_
      obtain ⟨Ai17, ci17, rfl, r17⟩ := hp
      have hs := hs.add32 r17 (by kernel_rfl)
      refine s_val ha (.slice Ai9 (nl (m.natAbs / (Nat.gcd n.natAbs m.natAbs))) ci9) fun ac ha => ?_
      refine s_val ha (.agg #[.bool (decide (((n.natAbs / (Nat.gcd n.natAbs m.natAbs) : Nat) : Int) < 0)), .slice Ai17 (nl (((n.natAbs / (Nat.gcd n.natAbs m.natAbs) : Nat) : Int).natAbs)) ci17, .slice Ai9 (nl (m.natAbs / (Nat.gcd n.natAbs m.natAbs))) ci9]) fun ac ha => ?_
      refine s_store ha hs 0 _ fun ac wd ha hs => ?_
      refine wpList_nil ((x_normal ?_))
      refine wp_ret (ret_at ha hs rfl [.agg #[.bool (decide (((n.natAbs / (Nat.gcd n.natAbs m.natAbs) : Nat) : Int) < 0)), .slice Ai17 (nl (((n.natAbs / (Nat.gcd n.natAbs m.natAbs) : Nat) : Int).natAbs)) ci17, .slice Ai9 (nl (m.natAbs / (Nat.gcd n.natAbs m.natAbs))) ci9]] ⟨⟨0, _, _, _, rfl, rfl, by kernel_rfl⟩, trivial⟩ ?_)
      have hq := rmake n hm0
      exact ret_rq (hq.1 _ _ hb11 hb15) hq.2 hs.ext (hs.get 0 rfl) (hs.get 2 rfl)
  
set_option maxHeartbeats 1000000 in
theorem rqof (n : Int) (hn : -9223372036854775808 ≤ n ∧ n ≤ 9223372036854775807) (w : World) : Calls Tryz.prog 46 #[.int .i64 n] w (RetS (RQ (n : Rat)) w) := by
  have hs := St.start w
  refine enter Tryz.func46 rfl Tryz.ntmps46 (by kernel_rfl) fun ac ha => ?_
  refine wp_seq ?_
  refine wp_region_lit ?_
  refine s_alloc ha hs [.bool false, .slice none 0 0, .slice none 0 0] fun g49 ac wd ha hs => ?_
  refine wpList_nil ((x_normal ?_))
  refine wp_seq ?_
  refine wp_region_lit ?_
  refine s_val ha (.int .i64 n) fun ac ha => ?_
  refine s_callP ha hs (riof n hn.1 hn.2 _) fun u ac wd hp ha hs => ?_
  obtain ⟨Ai50, ci50, rfl, r50⟩ := hp
  have hs := hs.add32 r50 (by kernel_rfl)
  refine s_callP ha hs (refOf_any 1 (by unfold B64; omega) _) fun u ac wd hp ha hs => ?_
  obtain ⟨Ai51, ci51, rfl⟩ := hp.form
  have hs := hs.add32 hp (by kernel_rfl)
  refine s_val ha (.agg #[.bool (decide (n < 0)), .slice Ai50 (nl n.natAbs) ci50, .slice Ai51 (nl 1) ci51]) fun ac ha => ?_
  refine s_store ha hs 0 _ fun ac wd ha hs => ?_
  refine wpList_nil ((x_normal ?_))
  refine wp_ret (ret_at ha hs rfl [.agg #[.bool (decide (n < 0)), .slice Ai50 (nl n.natAbs) ci50, .slice Ai51 (nl 1) ci51]] ⟨⟨0, _, _, _, rfl, rfl, by kernel_rfl⟩, trivial⟩ ?_)
  exact ret_rq (q := (n : Rat)) rfl rfl hs.ext (hs.get 1 rfl) (hs.get 0 rfl)
  
set_option maxHeartbeats 1000000 in
theorem rqover (n m : Int) (hn : -9223372036854775808 ≤ n ∧ n ≤ 9223372036854775807) (hm : -9223372036854775808 ≤ m ∧ m ≤ 9223372036854775807) (hm0 : m ≠ 0) (w : World) : Calls Tryz.prog 112 #[.int .i64 n, .int .i64 m] w (RetS (RQ ((n : Rat) / (m : Rat))) w) := by
  have hs := St.start w
  refine enter Tryz.func112 rfl Tryz.ntmps112 (by kernel_rfl) fun ac ha => ?_
  refine wp_seq ?_
  refine wp_region_lit ?_
  refine s_alloc ha hs [.bool false, .slice none 0 0, .slice none 0 0] fun g52 ac wd ha hs => ?_
  refine wpList_nil ((x_normal ?_))
  refine wp_seq ?_
  refine wp_region_lit ?_
  refine s_val ha (.int .i64 n) fun ac ha => ?_
  refine s_callP ha hs (riof n hn.1 hn.2 _) fun u ac wd hp ha hs => ?_
  obtain ⟨Ai53, ci53, rfl, r53⟩ := hp
  have hs := hs.add32 r53 (by kernel_rfl)
  refine s_val ha (.int .i64 m) fun ac ha => ?_
  refine s_callP ha hs (riof m hm.1 hm.2 _) fun u ac wd hp ha hs => ?_
  obtain ⟨Ai54, ci54, rfl, r54⟩ := hp
  have hs := hs.add32 r54 (by kernel_rfl)
  refine s_callP ha hs (rqmake (Sm.i64 hn.1 hn.2) (Sm.i64 hm.1 hm.2) hm0 _ (RI.mk (hs.get 1 rfl)) (RI.mk (hs.get 0 rfl)) (by omega)) fun u ac wd hp ha hs => ?_
  obtain ⟨Ai55, ci55, B55, d55, rfl, r55, t55⟩ := hp
  have hs := hs.add32 r55 (by kernel_rfl)
  have hs := hs.add32 t55 (by kernel_rfl)
  refine s_store ha hs 0 _ fun ac wd ha hs => ?_
  refine wpList_nil ((x_normal ?_))
  refine wp_ret (ret_at ha hs rfl [rqV (((n : Int) : Rat) / ((m : Int) : Rat)) Ai55 ci55 B55 d55] ⟨⟨0, _, _, _, rfl, rfl, by kernel_rfl⟩, trivial⟩ ?_)
  exact ret_rqe rfl hs.ext (RQ.mk (hs.get 1 rfl) (hs.get 0 rfl))
  
theorem fmake_eq {k : Nat} {x : Rat} (hx : Sq k x) (W : World) (ht : Tab64 W) (hk : k ≤ 100000000000) : Calls Tryz.prog 140 #[zV x.num, zV ((x.den : Nat) : Int)] W (Ret (.tuple #[qV x, .bool true]) W) := by
  have h := fmake hx.num (Sm.cast hx.den) (by have := x.den_pos; omega) W ht (by omega)
  rw [rat_num_den] at h
  exact h

set_option maxHeartbeats 1000000 in
theorem hin {k : Nat} {x : Rat} (hx : Sq k x) {v1 : Value} (w : World) (q1 : RQ x v1 w) (htab : Tab64 w) (hk : k ≤ 100000000000) : Calls Tryz.prog 78 #[v1] w (Ret (qV x) w) := by
  obtain ⟨A1, c1, B1, d1, rfl, r1, t1⟩ := q1
  have hs := St.start w
  have hs := hs.add32 r1 (by kernel_rfl)
  have hs := hs.add32 t1 (by kernel_rfl)
  refine enter Tryz.func78 rfl Tryz.ntmps78 (by kernel_rfl) fun ac ha => ?_
  refine wp_seq ?_
  refine wp_region_lit ?_
  refine s_box ha hs [.bool (decide (x.num < 0)), .slice A1 (nl x.num.natAbs) c1, .slice B1 (nl x.den) d1] fun g56 ac wd ha hs => ?_
  refine s_alloc ha hs [.bool false, .int .u64 0, .string (⟨#[]⟩), .int .u64 0, .string (⟨#[]⟩)] fun g57 ac wd ha hs => ?_
  refine wpList_nil ((x_normal ?_))
  refine wp_seq ?_
  refine region_sp ha 12 [.eq (.pointer (some ⟨g56, 0, none⟩)), .eq (riV x.num A1 c1), .eq (zV x.num), .eq (.pointer (some ⟨g56, 2, none⟩)), .eq (.slice B1 (nl x.den) d1), .eq (nV x.den), .eq (zV ((x.den : Nat) : Int)), .eq (.tuple #[qV x, .bool true]), .eq (.tuple #[qV x, .bool true]), .eq (qV x), .eq (.bool true), .new _ 34 [.bool false, .int .u64 0, .string (⟨#[]⟩), .int .u64 0, .string (⟨#[]⟩)]] [false, false, false, false, false, false, false, false, false, true, true] [] (fun _ hb => by cases hb)
    ⟨d_val, d_load hs 1, d_call (fun _ hw => chint hx.num _ (RI.mk ((hs.go hw).get 1 rfl)) (by omega)), d_val, d_load hs 1, d_call (fun _ hw => chnat hx.den _ ((hs.go hw).get 0 rfl) (by omega)), d_call (fun _ hw => from_any false hx.den (by omega) _), d_call (fun _ hw => fmake_eq hx _ (htab.ext (hs.go hw).ext) (by omega)), d_val, t_val, t_val, d_new, trivial⟩ ?_
  intro vv wd1 ac hw hG hN ha
  have ha := ha.sub [(0, rqV x A1 c1 B1 d1), (2, .pointer (some ⟨g57, 0, none⟩)), (14, qV x), (15, .bool true), (3, vv 11)]
  have h_g59 : NewAt _ 34 [.bool false, .int .u64 0, .string (⟨#[]⟩), .int .u64 0, .string (⟨#[]⟩)] (vv 11) wd1 := hG 11 3 (by decide) rfl
  clear hG hN
  obtain ⟨g59, b_g59, e_g59, h_g59⟩ := h_g59
  rw [e_g59] at ha
  clear e_g59
  have hs := hs.new hw b_g59 h_g59
  clear hw
  refine keeps_nil ?_
  show wpList _ _ _ _ _ _
  refine s_store ha hs 0 _ fun ac wd ha hs => ?_
  refine s_val ha (.bool true) fun ac ha => ?_
  refine wpList_nil ((x_normal ?_))
  refine wp_seq ?_
  refine wp_region_lit ?_
  refine s_load ha hs 0 (qV x) fun ac ha => ?_
  refine s_store ha hs 1 _ fun ac wd ha hs => ?_
  refine wpList_nil ((x_normal ?_))
  refine wp_ret (ret_at ha hs rfl [qV x] ⟨⟨1, _, _, _, rfl, rfl, by kernel_rfl⟩, trivial⟩ ?_)
  exact ⟨rfl, hs.ext⟩
  
set_option maxHeartbeats 1000000 in
theorem hout {k : Nat} {x : Rat} (hx : Sq k x) (w : World) (hk : k ≤ 100000000000) : Calls Tryz.prog 101 #[qV x] w (RetS (RQ x) w) := by
  have hs := St.start w
  refine enter Tryz.func101 rfl Tryz.ntmps101 (by kernel_rfl) fun ac ha => ?_
  refine wp_seq ?_
  refine wp_region_lit ?_
  refine s_box ha hs [.bool (decide (x.num < 0)), .int .u64 (lo x.num.natAbs : Nat), .string (hi x.num.natAbs), .int .u64 (lo (d1 x.den) : Nat), .string (hi (d1 x.den))] fun g60 ac wd ha hs => ?_
  refine s_alloc ha hs [.bool false, .slice none 0 0, .slice none 0 0] fun g61 ac wd ha hs => ?_
  refine wpList_nil ((x_normal ?_))
  refine wp_seq ?_
  refine region_sp ha 6 [.eq (qV x), .eq (zV x.num), .pr (RI x.num) fun _ _ _ e h => h.ext e, .eq (qV x), .eq (nV x.den), .pr (R32 x.den) fun _ _ _ e h => h.ext e] [] [] (fun _ hb => by cases hb)
    ⟨d_load hs 1, d_call (fun _ hw => fnum x _), d_callP (fun u => #[zV x.num]) (fun u _ hw hj => coutint hx.num _ (by omega)), d_load hs 1, d_call (fun _ hw => fden hx _ (by omega)), d_callP (fun u => #[nV x.den]) (fun u _ hw hj => coutnat hx.den _ (by omega)), trivial⟩ ?_
  intro vv wd1 ac hw hG hN ha
  have ha := ha.sub [(0, qV x), (2, .pointer (some ⟨g61, 0, none⟩)), (5, vv 2), (8, vv 5)]
  have h_2 : (RI x.num) (vv 2) wd1 := hG 2 5 (by decide) rfl
  have h_5 : (R32 x.den) (vv 5) wd1 := hG 5 8 (by decide) rfl
  clear hG hN
  have hs := hs.go hw
  obtain ⟨Ai63, ci63, e63, r63⟩ := h_2
  rw [e63] at ha
  clear e63
  have hs := hs.add32 r63 (by kernel_rfl)
  obtain ⟨Ai64, ci64, e64⟩ := h_5.form
  rw [e64] at ha h_5
  clear e64
  have hs := hs.add32 h_5 (by kernel_rfl)
  clear hw
  refine keeps_nil ?_
  show wpList _ _ _ _ _ _
  refine s_val ha (rqV x Ai63 ci63 Ai64 ci64) fun ac ha => ?_
  refine s_store ha hs 0 _ fun ac wd ha hs => ?_
  refine wpList_nil ((x_normal ?_))
  refine wp_ret (ret_at ha hs rfl [rqV x Ai63 ci63 Ai64 ci64] ⟨⟨0, _, _, _, rfl, rfl, by kernel_rfl⟩, trivial⟩ ?_)
  exact ret_rq rfl rfl hs.ext (hs.get 1 rfl) (hs.get 0 rfl)
  
set_option maxHeartbeats 1000000 in
theorem hsame {k : Nat} {x : Rat} (hx : Sq k x) {v2 : Value} (w : World) (q2 : RQ x v2 w) (hk : k ≤ 100000000000) : Calls Tryz.prog 33 #[qV x, v2] w (Ret (.bool true) w) := by
  obtain ⟨A2, c2, B2, d2, rfl, r2, t2⟩ := q2
  have hs := St.start w
  have hs := hs.add32 r2 (by kernel_rfl)
  have hs := hs.add32 t2 (by kernel_rfl)
  refine enter Tryz.func33 rfl Tryz.ntmps33 (by kernel_rfl) fun ac ha => ?_
  refine wp_seq ?_
  refine wp_region_lit ?_
  refine s_box ha hs [.bool (decide (x.num < 0)), .int .u64 (lo x.num.natAbs : Nat), .string (hi x.num.natAbs), .int .u64 (lo (d1 x.den) : Nat), .string (hi (d1 x.den))] fun g65 ac wd ha hs => ?_
  refine s_box ha hs [.bool (decide (x.num < 0)), .slice A2 (nl x.num.natAbs) c2, .slice B2 (nl x.den) d2] fun g66 ac wd ha hs => ?_
  refine s_val ha (.bool false) fun ac ha => ?_
  refine wpList_nil ((x_normal ?_))
  refine wp_seq ?_
  refine wp_region_lit ?_
  refine s_load ha hs 1 (qV x) fun ac ha => ?_
  refine s_callP ha hs (hout hx _ (by omega)) fun u ac wd hp ha hs => ?_
  obtain ⟨Ai67, ci67, B67, d67, rfl, r67, t67⟩ := hp
  have hs := hs.add32 r67 (by kernel_rfl)
  have hs := hs.add32 t67 (by kernel_rfl)
  refine s_alloc ha hs [.bool false, .slice none 0 0, .slice none 0 0] fun g68 ac wd ha hs => ?_
  refine s_store ha hs 0 _ fun ac wd ha hs => ?_
  refine wpList_nil ((x_normal ?_))
  refine wp_seq ?_
  refine wp_seq ?_
  refine wp_region_lit ?_
  refine s_val ha (.pointer (some ⟨g66, 2, none⟩)) fun ac ha => ?_
  refine s_load ha hs 1 (.slice B2 (nl x.den) d2) fun ac ha => ?_
  refine s_val ha (.int .i64 ((nl x.den : Nat) : Int)) fun ac ha => ?_
  refine s_bool ha (b := (((nl x.den : Nat) : Int) == 0)) false (nl_den x) fun ac ha => ?_
  refine wpList_nil ((x_normal ?_))
  refine r_false ha ?_
  refine wp_skip ((x_normal ?_))
  refine wp_seq ?_
  refine wp_region_lit ?_
  refine s_val ha (.pointer (some ⟨g68, 0, none⟩)) fun ac ha => ?_
  refine s_val ha (.pointer (some ⟨g68, 1, none⟩)) fun ac ha => ?_
  refine s_load ha hs 0 (.slice Ai67 (nl x.num.natAbs) ci67) fun ac ha => ?_
  refine s_val ha (.pointer (some ⟨g66, 0, none⟩)) fun ac ha => ?_
  refine s_val ha (.pointer (some ⟨g66, 1, none⟩)) fun ac ha => ?_
  refine s_load ha hs 1 (.slice A2 (nl x.num.natAbs) c2) fun ac ha => ?_
  refine s_call ha hs (.int .i64 0) (crcmp_eq hx.num hx.num rfl _ (hs.get 1 rfl) (hs.get 3 rfl) (by omega)) fun ac wd ha hs => ?_
  refine s_val ha (.bool true) fun ac ha => ?_
  refine s_val ha (.bool true) fun ac ha => ?_
  refine s_val ha (.pointer (some ⟨g68, 0, none⟩)) fun ac ha => ?_
  refine s_val ha (.pointer (some ⟨g68, 0, none⟩)) fun ac ha => ?_
  rcases Bool.eq_false_or_eq_true (decide (x.num < 0)) with hb69 | hb69
  ·
    have phb69 := of_decide_eq_true hb69
    refine s_loadb ha hs 0 true hb69 fun ac ha => ?_
    refine s_val ha (.pointer (some ⟨g66, 0, none⟩)) fun ac ha => ?_
    refine s_val ha (.pointer (some ⟨g66, 0, none⟩)) fun ac ha => ?_
    refine s_loadb ha hs 1 true hb69 fun ac ha => ?_
    refine s_val ha (.bool true) fun ac ha => ?_
    refine s_val ha (.bool true) fun ac ha => ?_
    refine s_val ha (.bool true) fun ac ha => ?_
    refine s_val ha (.pointer (some ⟨g68, 2, none⟩)) fun ac ha => ?_
    refine s_load ha hs 0 (.slice B67 (nl x.den) d67) fun ac ha => ?_
    refine s_val ha (.pointer (some ⟨g66, 2, none⟩)) fun ac ha => ?_
    refine s_load ha hs 1 (.slice B2 (nl x.den) d2) fun ac ha => ?_
    refine s_call ha hs (.int .i64 0) (crcmp_eq hx.den hx.den rfl _ (hs.get 0 rfl) (hs.get 2 rfl) (by omega)) fun ac wd ha hs => ?_
    refine s_val ha (.bool true) fun ac ha => ?_
    refine s_val ha (.bool true) fun ac ha => ?_
    refine s_val ha (.bool true) fun ac ha => ?_
    refine wpList_nil ((x_normal ?_))
    refine wp_ret (ret_at ha hs rfl [.bool true] ⟨rfl, trivial⟩ ?_)
    exact ⟨rfl, hs.ext⟩
  ·
    have phb69 := of_decide_eq_false hb69
    refine s_loadb ha hs 0 false hb69 fun ac ha => ?_
    refine s_val ha (.pointer (some ⟨g66, 0, none⟩)) fun ac ha => ?_
    refine s_val ha (.pointer (some ⟨g66, 0, none⟩)) fun ac ha => ?_
    refine s_loadb ha hs 1 false hb69 fun ac ha => ?_
    refine s_val ha (.bool true) fun ac ha => ?_
    refine s_val ha (.bool true) fun ac ha => ?_
    refine s_val ha (.bool true) fun ac ha => ?_
    refine s_val ha (.pointer (some ⟨g68, 2, none⟩)) fun ac ha => ?_
    refine s_load ha hs 0 (.slice B67 (nl x.den) d67) fun ac ha => ?_
    refine s_val ha (.pointer (some ⟨g66, 2, none⟩)) fun ac ha => ?_
    refine s_load ha hs 1 (.slice B2 (nl x.den) d2) fun ac ha => ?_
    refine s_call ha hs (.int .i64 0) (crcmp_eq hx.den hx.den rfl _ (hs.get 0 rfl) (hs.get 2 rfl) (by omega)) fun ac wd ha hs => ?_
    refine s_val ha (.bool true) fun ac ha => ?_
    refine s_val ha (.bool true) fun ac ha => ?_
    refine s_val ha (.bool true) fun ac ha => ?_
    refine wpList_nil ((x_normal ?_))
    refine wp_ret (ret_at ha hs rfl [.bool true] ⟨rfl, trivial⟩ ?_)
    exact ⟨rfl, hs.ext⟩
end Go.Proofs.YtiloialbglfplaaGreatDoor

namespace Go.Proofs.YtiloialbglfplaaGreatDoor
open Go.RowKit

theorem SlB.cut {l : List UInt8} {A : Option Addr} {c : Nat} {w : World} (h : SlB l (.slice A l.length c) w) (k : Nat) (hk : k ≤ l.length) : SlB (l.take k) (.slice A k c) w := by
  obtain ⟨A', c', hv, hc, ⟨hcm, hA⟩, hh⟩ := h
  injection hv with e1 _ e3
  subst e1
  subst e3
  have hl : (l.take k).length = k := by rw [List.length_take, Nat.min_eq_left hk]
  refine ⟨A, c, by rw [hl], by rw [hl]; omega, ⟨hcm, hA⟩, fun hne => ?_⟩
  have hk0 : 0 < k := by
    rcases Nat.eq_zero_or_pos k with h0 | h0
    · subst h0; simp at hne
    · exact h0
  obtain ⟨g, off, rfl, hg, hcell⟩ := hh (fun e => by rw [e] at hk; simp at hk; omega)
  refine ⟨g, off, rfl, hg, fun i hi => ?_⟩
  rw [hcell i (by rw [hl] at hi; omega), List.getElem_take]

section
variable {P : Program} {ops : Array Oper} {Q : Exit → Act → World → Prop} {o : Oper} {rest : List Oper} {a : Act} {w : World} {n : Nat} {m : Sl}
end
end Go.Proofs.YtiloialbglfplaaGreatDoor

namespace Go.Proofs.YtiloialbglfplaaGreatDoor
open Go.RowKit

/-! ### Facts, and the blocks that they rest on -/
/-- A fact that rests on blocks of S, and on blocks with small cells. -/
def Own (S : Nat → Prop) (φ : World → Prop) (w : World) : Prop := ∃ S0, RestsAt w S0 φ ∧ ∀ i, S0 i → i < w.heap.size ∧ (S i ∨ SmallAt w i)
theorem Own.now {S : Nat → Prop} {φ : World → Prop} {w : World} (h : Own S φ w) : φ w := by obtain ⟨_, h, _⟩ := h; exact h.now
theorem Own.ext {S : Nat → Prop} {φ : World → Prop} {w w' : World} (h : Own S φ w) (e : Ext w w') : Own S φ w' := by
  obtain ⟨S0, h1, h2⟩ := h
  exact ⟨S0, h1.go (fun i hi => e.block i (h2 i hi).1) e.size, fun i hi => ⟨Nat.lt_of_lt_of_le (h2 i hi).1 e.size, (h2 i hi).2.imp id fun hs => hs.same (e.block i (h2 i hi).1)⟩⟩
theorem Own.mono {S S' : Nat → Prop} {φ : World → Prop} {w : World} (h : Own S φ w) (k : ∀ i, S i → S' i) : Own S' φ w := by
  obtain ⟨S0, h1, h2⟩ := h
  exact ⟨S0, h1, fun i hi => ⟨(h2 i hi).1, (h2 i hi).2.imp (k i) id⟩⟩
theorem Own.imp {S : Nat → Prop} {φ ψ : World → Prop} {w : World} (h : Own S φ w) (k : ∀ w', φ w' → ψ w') : Own S ψ w := by
  obtain ⟨S0, h1, h2⟩ := h
  exact ⟨S0, fun w' a b => k w' (h1 w' a b), h2⟩
theorem Own.and {S : Nat → Prop} {φ ψ : World → Prop} {w : World} (h : Own S φ w) (k : Own S ψ w) : Own S (fun w' => φ w' ∧ ψ w') w := by
  obtain ⟨S0, h1, h2⟩ := h
  obtain ⟨S1, k1, k2⟩ := k
  exact ⟨fun i => S0 i ∨ S1 i, fun w' a b => ⟨h1 w' (fun i hi => a i (.inl hi)) b, k1 w' (fun i hi => a i (.inr hi)) b⟩, fun i hi => hi.elim (h2 i) (k2 i)⟩
theorem Own.all {ι : Type} {S : Nat → Prop} {p : ι → Prop} {φ : ι → World → Prop} {w : World} (h : ∀ i, p i → Own S (φ i) w) : Own S (fun w' => ∀ i, p i → φ i w') w := by
  refine ⟨fun j => ∃ (i : ι) (hi : p i), Classical.choose (h i hi) j, fun w' a b i hi => ?_, ?_⟩
  · exact (Classical.choose_spec (h i hi)).1 w' (fun j hj => a j ⟨i, hi, hj⟩) b
  · rintro j ⟨i, hi, hj⟩
    exact (Classical.choose_spec (h i hi)).2 j hj
theorem Own.pure {S : Nat → Prop} {p : Prop} {w : World} (h : p) : Own S (fun _ => p) w := ⟨fun _ => False, fun _ _ _ => h, fun _ hi => hi.elim⟩
/-- The blocks that facts may rest on. -/
def Free (S : Nat → Prop) (w0 : World) (L : List Bk) (i : Nat) : Prop := (S i ∨ w0.heap.size ≤ i) ∧ i ∉ L.map (·.1)
/-- No cell is small. -/
def Big (L : List Bk) : Prop := ∀ b ∈ L, ∀ c ∈ b.2.2, bigCell c = true
theorem Big.of (L : List Bk) (h : bigL L = true := by kernel_rfl) : Big L := fun b hb c hc => List.all_eq_true.1 (List.all_eq_true.1 h b hb) c hc
theorem Big.nil : Big [] := fun _ h => by cases h
theorem Big.cons {g : Nat} {t : TypeId} {cs : List Value} {L : List Bk} (h : ∀ c ∈ cs, bigCell c = true) (k : Big L) : Big ((g, t, cs) :: L) := fun b hb c hc => by
  rcases List.mem_cons.1 hb with rfl | hb
  · exact h c hc
  · exact k b hb c hc
theorem Big.app {L L' : List Bk} (h : Big L) (k : Big L') : Big (L ++ L') := fun b hb c hc => by
  rcases List.mem_append.1 hb with hb | hb
  · exact h b hb c hc
  · exact k b hb c hc

section
variable {S : Nat → Prop} {P : Program} {w0 w w' : World} {L : List Bk} {Φ : List (World → Prop)} {φ : World → Prop}
theorem StS.own (h : StS S w0 w L Φ) (i : Nat) (hi : Φ[i]? = some φ := by rfl) : Own (Free S w0 L) φ w := by
  obtain ⟨S0, h1, h2⟩ := h.fact φ (List.mem_of_getElem? hi)
  refine ⟨S0, h1, fun j hj => ⟨(h2 j hj).1, ?_⟩⟩
  rcases (h2 j hj).2.2 with a | a | a
  · exact .inl ⟨.inl a, (h2 j hj).2.1⟩
  · exact .inl ⟨.inr a, (h2 j hj).2.1⟩
  · exact .inr a
theorem StS.addOwn (h : StS S w0 w L Φ) (hφ : Own (Free S w0 L) φ w) (hL : Big L) : StS S w0 w L (φ :: Φ) := by
  obtain ⟨S0, h1, h2⟩ := hφ
  refine h.addAt S0 h1 fun i hi => ⟨(h2 i hi).1, ?_, ?_⟩
  · rcases (h2 i hi).2 with a | ⟨j, v, hc, hv⟩
    · exact a.2
    · intro hm
      obtain ⟨b, hb, rfl⟩ := List.mem_map.1 hm
      rw [(h.blk b hb).cell] at hc
      have := hL b hb v (List.mem_of_getElem? hc)
      rw [hv] at this
      cases this
  · rcases (h2 i hi).2 with a | a
    · exact a.1.imp id .inl
    · exact .inr (.inr a)
theorem StS.arg (h : StS S w0 w [] Φ) (hφ : Own S φ w) : StS S w0 w [] (φ :: Φ) := h.addOwn (hφ.mono fun i hi => ⟨.inl hi, by simp⟩) Big.nil
theorem StS.free (h : StS S w0 w L Φ) (i : Nat) (hi : w.heap.size ≤ i) : Free S w0 L i :=
  ⟨.inr (Nat.le_trans h.ext.size hi), fun hm => by have := h.lt hm; omega⟩
/-- What a function returns rests on S, and on what is new. -/
theorem Own.done (hS : ∀ i, w0.heap.size ≤ i → S i) (h : Own (Free S w0 L) φ w) : Own S φ w := h.mono fun i hi => hi.1.elim id (hS i)
/-- Some of the blocks. -/
theorem StS.pick (h : StS S w0 w L Φ) (L' : List Bk) (hs : ∀ b ∈ L', b ∈ L) (hn : (L'.map (·.1)).Nodup) : StS S w0 w L' Φ :=
  ⟨h.ext, fun b hb => h.fresh b (hs b hb), hn, fun b hb => h.blk b (hs b hb), fun φ hφ => by
    obtain ⟨S0, h1, h2⟩ := h.fact φ hφ
    refine ⟨S0, h1, fun i hi => ⟨(h2 i hi).1, fun hm => (h2 i hi).2.1 ?_, (h2 i hi).2.2⟩⟩
    obtain ⟨b, hb, rfl⟩ := List.mem_map.1 hm
    exact List.mem_map.2 ⟨b, hs b hb, rfl⟩⟩

/-! ### Slices as facts -/
/-- A slice holds these cells: n elements. -/
def Lie (cs : List Value) (n : Nat) (v : Value) (w : World) : Prop :=
  ∃ A c, v = .slice A n c ∧ n ≤ c ∧ (cs ≠ [] → ∃ g off, A = some ⟨g, off, none⟩ ∧ g < w.heap.size ∧ ∀ i, i < cs.length → w.cell? ⟨g, off + i, none⟩ = cs[i]?)
theorem Lie.form {cs : List Value} {n : Nat} {v : Value} (h : Lie cs n v w) : ∃ A c, v = .slice A n c := by
  obtain ⟨A, c, h, _⟩ := h
  exact ⟨A, c, h⟩
theorem Lie.cap {cs : List Value} {n m c : Nat} {A : Option Addr} (h : Lie cs n (.slice A m c) w) : m = n ∧ n ≤ c := by
  obtain ⟨A', c', h, hc, _⟩ := h
  injection h with h1 h2 h3
  subst h2; subst h3
  exact ⟨rfl, hc⟩
theorem Lie.at_ {cs : List Value} {n m c : Nat} {A : Option Addr} (h : Lie cs n (.slice A m c) w) (hne : cs ≠ []) : ∃ g off, A = some ⟨g, off, none⟩ := by
  obtain ⟨A', c', h, hc, hh⟩ := h
  injection h with h1 h2 h3
  subst h1
  obtain ⟨g, off, h, _⟩ := hh hne
  exact ⟨g, off, h⟩
theorem Lie.cells {cs : List Value} {n m c g off : Nat} (h : Lie cs n (.slice (some ⟨g, off, none⟩) m c) w) (i : Nat) (hi : i < cs.length) : w.cell? ⟨g, off + i, none⟩ = cs[i]? := by
  obtain ⟨A', c', h, hc, hh⟩ := h
  injection h with h1 h2 h3
  subst h1
  obtain ⟨g', off', h, _, hcell⟩ := hh (fun e => by rw [e] at hi; simp at hi)
  injection h with h
  injection h with h1 h2
  subst h1; subst h2
  exact hcell i hi
theorem Lie.nil (w : World) : Lie [] 0 (.slice none 0 0) w := ⟨none, 0, rfl, Nat.le_refl _, fun h => absurd rfl h⟩
theorem Lie.of_blk {g : Nat} {t : TypeId} {cs sp : List Value} (n c : Nat) (hc : n ≤ c) (h : Blk w g t (cs ++ sp)) : Lie cs n (.slice (some ⟨g, 0, none⟩) n c) w :=
  ⟨_, _, rfl, hc, fun _ => ⟨g, 0, rfl, h.lt, fun i hi => by rw [Nat.zero_add, h.cell, List.getElem?_append_left hi]⟩⟩
/-- It rests on its own block. -/
theorem Lie.own {cs : List Value} {n : Nat} {v : Value} (h : Lie cs n v w) (hS : ∀ g off m c, v = .slice (some ⟨g, off, none⟩) m c → cs ≠ [] → S g) : Own S (Lie cs n v) w := by
  obtain ⟨A, c, rfl, hc, hh⟩ := h
  refine ⟨fun i => cs ≠ [] ∧ A.map (·.block) = some i, fun w' h1 h2 => ⟨A, c, rfl, hc, fun hne => ?_⟩, fun i hi => ?_⟩
  · obtain ⟨g, off, rfl, hg, hcell⟩ := hh hne
    refine ⟨g, off, rfl, Nat.lt_of_lt_of_le hg h2, fun i hi => ?_⟩
    rw [← hcell i hi]
    exact World.cell?_of_block (a := ⟨g, off + i, none⟩) (h1 g ⟨hne, rfl⟩)
  · obtain ⟨hne, hA⟩ := hi
    obtain ⟨g, off, rfl, hg, hcell⟩ := hh hne
    simp only [Option.map_some, Option.some.injEq] at hA
    subst hA
    exact ⟨hg, .inl (hS g off n c rfl hne)⟩
theorem Lie.ext {cs : List Value} {n : Nat} {v : Value} (h : Lie cs n v w) (e : Ext w w') : Lie cs n v w' := by
  obtain ⟨A, c, rfl, hc, hh⟩ := h
  refine ⟨A, c, rfl, hc, fun hne => ?_⟩
  obtain ⟨g, off, rfl, hg, hcell⟩ := hh hne
  exact ⟨g, off, rfl, Nat.lt_of_lt_of_le hg e.size, fun i hi => (World.cell?_of_block (a := ⟨g, off + i, none⟩) (e.block g hg)).trans (hcell i hi)⟩
/-- A load out of the cells that lie from an address on. -/
theorem run_loadC {g o off : Nat} {t : TypeId} {cs : List Value} {v : Value} (hc : ∀ i, i < cs.length → w.cell? ⟨g, o + i, none⟩ = cs[i]?) (h : loadM P t cs off = some v) : (Instr.loadAt t (.pointer (some ⟨g, o + off, none⟩))).run P w = .ok v w := by
  unfold loadM at h
  split at h
  · rename_i d i hu hi
    cases hd : d.isRow with
    | true =>
      rw [hd, cond_true] at h
      cases hle : Nat.ble (off + i.size) cs.length with
      | false => rw [hle] at h; cases h
      | true =>
        rw [hle, cond_true] at h
        injection h with h
        subst h
        have hle' := Nat.le_of_ble_eq_true hle
        refine run_loadAt_mid w g (o + off) t _ d (fun j v hv => ?_) hu hd (by rw [hi]; simp; omega)
        have hj : j < i.size := by
          rcases Nat.lt_or_ge j i.size with h' | h'
          · exact h'
          · rw [List.getElem?_eq_none (by simp; omega)] at hv; cases hv
        rw [Nat.add_assoc, hc (off + j) (by omega)]
        rw [List.getElem?_take_of_lt hj, List.getElem?_drop] at hv
        exact hv
    | false =>
      rw [hd, cond_false] at h
      have hagg : (isAgg t).run P w = .ok false w := by
        unfold isAgg
        rw [Sem.run_bind, run_underlying hu w]
        cases d <;> simp_all [TypeDesc.isRow]
      have hlt : off < cs.length := by
        rcases Nat.lt_or_ge off cs.length with h' | h'
        · exact h'
        · rw [List.getElem?_eq_none h'] at h; cases h
      have hc' : w.cell? ⟨g, o + off, none⟩ = some v := by rw [hc off hlt, h]
      simp only [Instr.loadAt, Instr.sureAddr, loadVar, Sem.run_bind, Sem.run_pure, Result.andThen_ok, hagg]
      simp [load, Sem.run, hc']
  · cases h
theorem Lie.load {cs : List Value} {n m c g o off : Nat} {t : TypeId} {v : Value} (h : Lie cs n (.slice (some ⟨g, o, none⟩) m c) w) (hv : loadM P t cs off = some v) : (Instr.loadAt t (.pointer (some ⟨g, o + off, none⟩))).run P w = .ok v w :=
  run_loadC (fun i hi => h.cells i hi) hv
theorem Blk.load {g off : Nat} {t tt : TypeId} {cs : List Value} {v : Value} (h : Blk w g tt cs) (hv : loadM P t cs off = some v) : (Instr.loadAt t (.pointer (some ⟨g, 0 + off, none⟩))).run P w = .ok v w :=
  run_loadC (fun i _ => by rw [Nat.zero_add, h.cell]) hv
/-- An element's address. -/
def eltM (P : Program) (t : TypeId) : Option Nat :=
  match P.underlying t with
  | some (.slice e) => (P.info? e).map (·.size)
  | _ => none
theorem run_index {t : TypeId} {g off n c k sz : Nat} {kd : IntKind} {i : Int} (ht : eltM P t = some sz) (hi : i = (k : Int)) (hk : k < n) (w : World) :
    (Instr.indexAt t (.slice (some ⟨g, off, none⟩) n c) (.int kd i)).run P w = .ok (.pointer (some ⟨g, off + k * sz, none⟩)) w := by
  unfold eltM at ht
  split at ht
  · rename_i e hu
    obtain ⟨inf, hinf, rfl⟩ := Option.map_eq_some_iff.1 ht
    subst hi
    have h1 : (0 : Int) ≤ (k : Int) ∧ (k : Int) < (n : Int) := by omega
    simp only [Instr.indexAt, asIntOf, Sem.run_bind, Sem.run_pure, Result.andThen_ok, run_underlying hu w]
    simp [h1, sizeOf, typeInfo, hinf, Addr.add]
  · cases ht
end
end Go.Proofs.YtiloialbglfplaaGreatDoor

namespace Go.Proofs.YtiloialbglfplaaGreatDoor
open Go.RowKit

/-! ### Lists -/
section
variable {α : Type} {p : α → List Value → World → Prop} {sz : Nat}
/-- The elements' cells. -/
def Els (p : α → List Value → World → Prop) (sz : Nat) (xs : List α) (css : List (List Value)) (w : World) : Prop :=
  css.length = xs.length ∧ ∀ (k : Nat) (x : α) (c : List Value), xs[k]? = some x → css[k]? = some c → c.length = sz ∧ p x c w
/-- A slice holds these elements. -/
def LL (p : α → List Value → World → Prop) (sz : Nat) (xs : List α) (v : Value) (w : World) : Prop := ∃ css, Els p sz xs css w ∧ Lie css.flatten xs.length v w
/-- What is known of an element lasts. -/
def LastsP (p : α → List Value → World → Prop) : Prop := ∀ x c w w', p x c w → Ext w w' → p x c w'
/-- .. and rests on nothing, or on small cells. -/
def Easy (p : α → List Value → World → Prop) : Prop := ∀ (S : Nat → Prop) x c w, p x c w → Own S (p x c) w
theorem Els.ext (hp : LastsP p) {xs : List α} {css : List (List Value)} {w w' : World} (h : Els p sz xs css w) (e : Ext w w') : Els p sz xs css w' :=
  ⟨h.1, fun k x c hx hc => ⟨(h.2 k x c hx hc).1, hp _ _ _ _ (h.2 k x c hx hc).2 e⟩⟩
theorem LL.ext (hp : LastsP p) {xs : List α} {v : Value} {w w' : World} (h : LL p sz xs v w) (e : Ext w w') : LL p sz xs v w' := by
  obtain ⟨css, h1, h2⟩ := h
  exact ⟨css, h1.ext hp e, h2.ext e⟩
theorem LL.form {xs : List α} {v : Value} {w : World} (h : LL p sz xs v w) : ∃ A c, v = .slice A xs.length c := by
  obtain ⟨css, _, h2⟩ := h
  exact h2.form
theorem LL.cap {xs : List α} {A : Option Addr} {n c : Nat} {w : World} (h : LL p sz xs (.slice A n c) w) : n = xs.length ∧ xs.length ≤ c := by
  obtain ⟨css, _, h2⟩ := h
  exact h2.cap
theorem Els.nil (w : World) : Els p sz [] [] w := ⟨rfl, fun k x c hx _ => by simp at hx⟩
theorem LL.nil (w : World) : LL p sz [] (.slice none 0 0) w := ⟨[], Els.nil w, Lie.nil w⟩
theorem Els.own (he : Easy p) {xs : List α} {css : List (List Value)} {w : World} (h : Els p sz xs css w) (S : Nat → Prop) : Own S (Els p sz xs css) w := by
  have h1 : Own S (fun _ => css.length = xs.length) w := Own.pure h.1
  have h3 : Own S (fun w' => ∀ i : Nat × α × List Value, (xs[i.1]? = some i.2.1 ∧ css[i.1]? = some i.2.2) → i.2.2.length = sz ∧ p i.2.1 i.2.2 w') w := Own.all fun i hi => by
    have h2 := h.2 i.1 _ _ hi.1 hi.2
    have h4 : Own S (fun _ => i.2.2.length = sz) w := Own.pure h2.1
    exact Own.and h4 (he S _ _ _ h2.2)
  exact (Own.and h1 h3).imp fun w' hw => ⟨hw.1, fun k x c hx hc => hw.2 (k, x, c) ⟨hx, hc⟩⟩
theorem LL.own (he : Easy p) {xs : List α} {v : Value} {w : World} (h : LL p sz xs v w) {S : Nat → Prop} (hS : ∀ g off m c, v = .slice (some ⟨g, off, none⟩) m c → S g) : Own S (LL p sz xs v) w := by
  obtain ⟨css, h1, h2⟩ := h
  exact ((h1.own he S).and (h2.own fun g off m c hv _ => hS g off m c hv)).imp fun w' hw => ⟨css, hw.1, hw.2⟩
theorem Els.snoc {xs : List α} {css : List (List Value)} {w : World} (h : Els p sz xs css w) {x : α} {c : List Value} (hl : c.length = sz) (hc : p x c w) : Els p sz (xs ++ [x]) (css ++ [c]) w := by
  refine ⟨by rw [List.length_append, List.length_append, h.1]; rfl, fun k y d hy hd => ?_⟩
  rcases Nat.lt_or_ge k xs.length with hk | hk
  · rw [List.getElem?_append_left hk] at hy
    rw [List.getElem?_append_left (by rw [h.1]; exact hk)] at hd
    exact h.2 k y d hy hd
  · rw [List.getElem?_append_right hk] at hy
    rw [List.getElem?_append_right (by rw [h.1]; exact hk), h.1] at hd
    have hk0 : k - xs.length = 0 := by
      rcases Nat.eq_zero_or_pos (k - xs.length) with e | e
      · exact e
      · rw [List.getElem?_eq_none (by simp; omega)] at hy; cases hy
    rw [hk0] at hy hd
    injection hy with hy
    injection hd with hd
    subst hy; subst hd
    exact ⟨hl, hc⟩
theorem Els.sizes {xs : List α} {css : List (List Value)} {w : World} (h : Els p sz xs css w) : ∀ c ∈ css, c.length = sz := fun c hc => by
  obtain ⟨k, hk⟩ := List.mem_iff_getElem?.1 hc
  have hlt : k < css.length := by
    rcases Nat.lt_or_ge k css.length with h' | h'
    · exact h'
    · rw [List.getElem?_eq_none h'] at hk; cases hk
  have hlt' : k < xs.length := h.1 ▸ hlt
  exact (h.2 k xs[k] c (List.getElem?_eq_getElem hlt') hk).1
theorem Els.flat {xs : List α} {css : List (List Value)} {w : World} (h : Els p sz xs css w) : css.flatten.length = xs.length * sz := by
  have this := h.sizes
  rw [← h.1]
  clear h
  induction css with
  | nil => simp
  | cons c css ih =>
    rw [List.flatten_cons, List.length_append, this c (List.mem_cons_self ..), ih fun c hc => this c (List.mem_cons_of_mem _ hc), List.length_cons, Nat.add_mul, Nat.one_mul, Nat.add_comm]
theorem flat_at {css : List (List Value)} (h : ∀ c ∈ css, c.length = sz) {k : Nat} {c : List Value} (hc : css[k]? = some c) {i : Nat} (hi : i < sz) : css.flatten[k * sz + i]? = c[i]? := by
  induction css generalizing k with
  | nil => simp at hc
  | cons d css ih =>
    have hd := h d (List.mem_cons_self ..)
    rw [List.flatten_cons]
    rcases k with _ | k
    · simp only [List.getElem?_cons_zero, Option.some.injEq] at hc
      subst hc
      rw [Nat.zero_mul, Nat.zero_add, List.getElem?_append_left (by omega)]
    · rw [List.getElem?_cons_succ] at hc
      rw [List.getElem?_append_right (by rw [hd, Nat.add_mul, Nat.one_mul]; omega), ← ih (fun c hc => h c (List.mem_cons_of_mem _ hc)) hc, hd]
      congr 1
      rw [Nat.add_mul, Nat.one_mul]; omega
/-- An element. -/
theorem LL.elt {xs : List α} {g o m c k : Nat} {x : α} {w : World} (h : LL p sz xs (.slice (some ⟨g, o, none⟩) m c) w) (hk : xs[k]? = some x) :
    ∃ cs, p x cs w ∧ cs.length = sz ∧ ∀ i, i < sz → w.cell? ⟨g, o + k * sz + i, none⟩ = cs[i]? := by
  obtain ⟨css, h1, h2⟩ := h
  have hlt : k < xs.length := by
    rcases Nat.lt_or_ge k xs.length with h' | h'
    · exact h'
    · rw [List.getElem?_eq_none h'] at hk; cases hk
  have hlt' : k < css.length := h1.1.symm ▸ hlt
  have hc : css[k]? = some css[k] := List.getElem?_eq_getElem hlt'
  obtain ⟨h3, h4⟩ := h1.2 k x _ hk hc
  refine ⟨_, h4, h3, fun i hi => ?_⟩
  have hb : k * sz + i < css.flatten.length := by
    rw [h1.flat]
    calc k * sz + i < k * sz + sz := by omega
      _ = (k + 1) * sz := by rw [Nat.add_mul, Nat.one_mul]
      _ ≤ xs.length * sz := Nat.mul_le_mul_right _ hlt
  rw [Nat.add_assoc, h2.cells _ hb]
  exact flat_at h1.sizes hc hi
theorem LL.at_ {xs : List α} {A : Option Addr} {m c : Nat} {w : World} (h : LL p sz xs (.slice A m c) w) (hz : 0 < sz) (hne : 0 < xs.length) : ∃ g o, A = some ⟨g, o, none⟩ := by
  obtain ⟨css, h1, h2⟩ := h
  refine h2.at_ fun e => ?_
  have := h1.flat
  rw [e] at this
  have := Nat.mul_pos hne hz
  simp at *
  omega
end
/-- A load of all of an element. -/
def rowM (P : Program) (t : TypeId) (sz : Nat) : Bool :=
  match P.underlying t, P.info? t with
  | some d, some i => d.isRow && i.size == sz
  | _, _ => false
theorem run_loadR {P : Program} {w : World} {g o sz : Nat} {t : TypeId} {cs : List Value} (ht : rowM P t sz = true) (hl : cs.length = sz) (hc : ∀ i, i < sz → w.cell? ⟨g, o + i, none⟩ = cs[i]?) : (Instr.loadAt t (.pointer (some ⟨g, o, none⟩))).run P w = .ok (.agg cs.toArray) w := by
  unfold rowM at ht
  split at ht
  · rename_i d i hu hi
    rw [Bool.and_eq_true, beq_iff_eq] at ht
    obtain ⟨hd, hs⟩ := ht
    exact run_loadAt_mid w g o t cs d (fun j v hv => by
      have hv' : cs[j]? = some v := hv
      have hj : j < sz := by
        rcases Nat.lt_or_ge j sz with h' | h'
        · exact h'
        · rw [List.getElem?_eq_none (by omega)] at hv'; cases hv'
      rw [hc j hj, hv']) hu hd (by rw [hi]; simp; omega)
  · cases ht

/-! ### Lists of fractions, of the document's fractions, of numbers -/
def qC (q : Rat) : List Value := [.bool (decide (q.num < 0)), .int .u64 (lo q.num.natAbs : Nat), .string (hi q.num.natAbs), .int .u64 (lo (d1 q.den) : Nat), .string (hi (d1 q.den))]
def pQ (q : Rat) (c : List Value) (_ : World) : Prop := c = qC q
def pR (q : Rat) (c : List Value) (w : World) : Prop := RQ q (.agg c.toArray) w
def pI (n : Int) (c : List Value) (_ : World) : Prop := c = [.int .i64 n]
abbrev QL := LL pQ 5
abbrev RL := LL pR 3
abbrev IL := LL pI 1
theorem easyQ : Easy pQ := fun _ _ _ _ h => Own.pure h
theorem R32.free {n : Nat} {v : Value} {w : World} (h : R32 n v w) (S : Nat → Prop) : Own S (R32 n v) w := by
  obtain ⟨A, c, rfl⟩ := h.form
  refine ⟨_, R32.rests.at_ h, ?_⟩
  rintro i ⟨hl, hA⟩
  obtain ⟨A', c', he, hc, hh⟩ := h
  injection he with h1 h2 h3
  subst h1; subst h3
  have hne : limbs B32 n ≠ [] := fun e => hl (by unfold nl; rw [e]; rfl)
  obtain ⟨g, off, rfl, hg, hcell⟩ := hh hne
  simp only [Option.map_some, Option.some.injEq] at hA
  subst hA
  exact ⟨hg, .inr ⟨_, _, hcell 0 (List.length_pos_iff.2 hne), rfl⟩⟩
theorem easyR : Easy pR := by
  intro S x c w h
  obtain ⟨A, d, B, e, hv, h1, h2⟩ := h
  exact ((h1.free S).and (h2.free S)).imp fun w' hw => ⟨A, d, B, e, hv, hw.1, hw.2⟩
/-- A fraction of a list. -/
theorem QL.load {P : Program} {xs : List Rat} {g o m c k : Nat} {w : World} {t : TypeId} (h : QL xs (.slice (some ⟨g, o, none⟩) m c) w) (ht : rowM P t 5 = true) {x : Rat} (hk : xs[k]? = some x) : (Instr.loadAt t (.pointer (some ⟨g, o + k * 5, none⟩))).run P w = .ok (qV x) w := by
  obtain ⟨cs, h1, h2, h3⟩ := h.elt hk
  have := run_loadR ht h2 h3
  rw [h1] at this
  exact this
/-- A fraction of the document's list. -/
theorem RL.load {P : Program} {xs : List Rat} {g o m c k : Nat} {w : World} {t : TypeId} (h : RL xs (.slice (some ⟨g, o, none⟩) m c) w) (ht : rowM P t 3 = true) {x : Rat} (hk : xs[k]? = some x) :
    ∃ v, RQ x v w ∧ ∀ w', Ext w w' → (Instr.loadAt t (.pointer (some ⟨g, o + k * 3, none⟩))).run P w' = .ok v w' := by
  obtain ⟨cs, h1, h2, h3⟩ := h.elt hk
  refine ⟨_, h1, fun w' e => run_loadR ht h2 fun i hi => ?_⟩
  obtain ⟨v, hv⟩ : ∃ v, cs[i]? = some v := ⟨_, List.getElem?_eq_getElem (by omega)⟩
  have h4 := h3 i hi
  have hg : g < w.heap.size := by
    rcases Nat.lt_or_ge g w.heap.size with h' | h'
    · exact h'
    · rw [hv] at h4
      unfold World.cell? at h4
      rw [Array.getElem?_eq_none h'] at h4
      cases h4
  rw [← h4]
  exact World.cell?_of_block (a := ⟨g, o + k * 3 + i, none⟩) (e.block g hg)
/-- A number of a list. -/
theorem IL.load {P : Program} {xs : List Int} {g o m c k : Nat} {w : World} {t : TypeId} (h : IL xs (.slice (some ⟨g, o, none⟩) m c) w) (ht : (P.underlying t).map (·.isRow) = some false) {x : Int} (hk : xs[k]? = some x) : (Instr.loadAt t (.pointer (some ⟨g, o + k * 1, none⟩))).run P w = .ok (.int .i64 x) w := by
  obtain ⟨cs, h1, h2, h3⟩ := h.elt hk
  have h4 := h3 0 (by omega)
  rw [h1] at h4
  obtain ⟨d, hu, hd⟩ := Option.map_eq_some_iff.1 ht
  have hagg : (isAgg t).run P w = .ok false w := by
    unfold isAgg
    rw [Sem.run_bind, run_underlying hu w]
    cases d <;> simp_all [TypeDesc.isRow]
  have hc : w.cell? ⟨g, o + k, none⟩ = some (.int .i64 x) := by rw [← Nat.mul_one k]; exact h4
  rw [Nat.mul_one]
  simp only [Instr.loadAt, Instr.sureAddr, loadVar, Sem.run_bind, Sem.run_pure, Result.andThen_ok, hagg]
  simp [hc]

/-! ### A slice that grows, or that is filled -/
def ownL (e : TypeId) : Option Nat → List Value → List Bk
  | none, _ => []
  | some g, cs => [(g, e, cs)]
def gsl (o : Option Nat) (n c : Nat) : Value := .slice (o.map fun g => ⟨g, 0, none⟩) n c
structure GOk (sz : Nat) (o : Option Nat) (n c : Nat) (C sp : List Value) : Prop where
  le : n ≤ c
  len : C.length = n * sz
  spl : sp.length = (c - n) * sz
  nil : o = none → c = 0
  big : ∀ v ∈ C ++ sp, bigCell v = true
theorem GOk.start (sz : Nat) : GOk sz none 0 0 [] [] := ⟨Nat.le_refl _, by simp, by simp, fun _ => rfl, by simp⟩
theorem setL_app : ∀ (vs pre mid suf : List Value), mid.length = vs.length → setL (pre ++ (mid ++ suf)) pre.length vs = pre ++ (vs ++ suf)
  | [], pre, mid, suf, h => by
    rw [List.eq_nil_of_length_eq_zero h]; rfl
  | v :: vs, pre, [], suf, h => by simp at h
  | v :: vs, pre, m :: mid, suf, h => by
    have ih := setL_app vs (pre ++ [v]) mid suf (by simpa using h)
    rw [setL, List.cons_append, List.set_append_right _ _ (Nat.le_refl _), Nat.sub_self, List.set_cons_zero]
    rw [List.length_append, List.length_singleton] at ih
    rw [show pre ++ v :: (mid ++ suf) = (pre ++ [v]) ++ (mid ++ suf) from by simp, ih]
    simp
theorem zero_big {z : Array Value} (h : ∀ v ∈ z.toList, bigCell v = true) (hz : 0 < z.size) (n : Nat) : ∀ v ∈ (Builtin.zeroCells z n).toList, bigCell v = true := by
  intro v hv
  unfold Builtin.zeroCells at hv
  rw [Array.toList_map, List.mem_map] at hv
  obtain ⟨i, _, rfl⟩ := hv
  rw [getElem!_pos z (i % z.size) (Nat.mod_lt _ hz)]
  exact h _ (by simp)
/-- What an element's type is. -/
def elemM (P : Program) (t e : TypeId) (sz by_ : Nat) (z : List Value) : Bool :=
  (match P.underlying t with | some (.slice e') => e' == e | _ => false) && (match P.info? e with | some i => i.size == sz && i.bytes == by_ && (match i.zero with | some z' => z'.cells.size == sz && (z'.cells.toList.length == z.length) && z'.cells.toList.all bigCell | none => false) | none => false)
theorem elemM_spec {P : Program} {t e : TypeId} {sz by_ : Nat} {z : List Value} (h : elemM P t e sz by_ z = true) :
    P.underlying t = some (.slice e) ∧ ∃ i z', P.info? e = some i ∧ i.size = sz ∧ i.bytes = by_ ∧ i.zero = some z' ∧ z'.cells.size = sz ∧ ∀ v ∈ z'.cells.toList, bigCell v = true := by
  unfold elemM at h
  rw [Bool.and_eq_true] at h
  obtain ⟨h1, h2⟩ := h
  refine ⟨?_, ?_⟩
  · split at h1
    · rename_i e' he; rw [he, eq_of_beq h1]
    · cases h1
  · split at h2
    · rename_i i hi
      rw [Bool.and_eq_true, Bool.and_eq_true, beq_iff_eq, beq_iff_eq] at h2
      obtain ⟨⟨h3, h4⟩, h5⟩ := h2
      split at h5
      · rename_i z' hz
        rw [Bool.and_eq_true, Bool.and_eq_true, beq_iff_eq] at h5
        exact ⟨i, z', hi, h3, h4, hz, h5.1.1, fun v hv => List.all_eq_true.1 h5.2 v hv⟩
      · cases h5
    · cases h2
section
variable {S : Nat → Prop} {P : Program} {w0 w : World} {L : List Bk} {Φ : List (World → Prop)}
theorem StS.moved (h : StS S w0 w L Φ) {e : TypeId} {o : Option Nat} {cs : List Value} {L1 : List Bk} (hL : L = L1 ++ ownL e o cs) {g : Nat} {t : TypeId} {ds : List Value} {w' : World} (hx : Ext w w') (hg : w.heap.size ≤ g) (hb : Blk w' g t ds) : StS S w0 w' (L1 ++ [(g, t, ds)]) Φ := by
  subst hL
  have h1 := h.new hx hg hb
  refine h1.pick _ (fun b hb => ?_) ?_
  · rcases List.mem_append.1 hb with hb | hb
    · exact List.mem_cons_of_mem _ (List.mem_append_left _ hb)
    · rw [List.mem_singleton.1 hb]; exact List.mem_cons_self ..
  · have hn := h1.nodup
    rw [List.map_cons, List.nodup_cons, List.map_append, List.nodup_append] at hn
    rw [List.map_append, List.nodup_append]
    refine ⟨hn.2.1, by simp, fun x hx y hy => ?_⟩
    simp only [List.map_cons, List.map_nil, List.mem_singleton] at hy
    subst hy
    intro e
    subst e
    exact hn.1 (List.mem_append_left _ hx)
/-- One element more. -/
theorem run_append1 {L1 : List Bk} {t e tx : TypeId} {sz by_ n c h : Nat} {o : Option Nat} {css : List (List Value)} {sp x z : List Value} {ty : TypeId} (hs : StS S w0 w L Φ) (hL : L = L1 ++ ownL e o (css.flatten ++ sp)) (hg : GOk sz o n c css.flatten sp)
    (hx : Blk w h tx x) (hxl : x.length = sz) (h1 : ∀ u ∈ x, u.oneCell' = true) (hxb : ∀ u ∈ x, bigCell u = true) (ht : elemM P t e sz by_ z = true) (hsz : 0 < sz) (hfit : (n + 1) * by_ ≤ 140737488355328) (h63 : n + 1 ≤ 9223372036854775807) :
    ∃ o' c' sp' w', (Builtin.append_ #[t, t] ty #[gsl o n c, .slice (some ⟨h, 0, none⟩) 1 1]).run P w = .ok (gsl o' (n + 1) c') w' ∧ StS S w0 w' (L1 ++ ownL e o' ((css ++ [x]).flatten ++ sp')) Φ ∧ GOk sz o' (n + 1) c' (css ++ [x]).flatten sp' := by
  obtain ⟨hu, i, z', hi, rfl, rfl, hz, hzs, hzb⟩ := elemM_spec ht
  subst hL
  have hfl : (css ++ [x]).flatten = css.flatten ++ x := by rw [List.flatten_append]; simp
  rw [hfl]
  have hlen : (css.flatten ++ x).length = (n + 1) * i.size := by rw [List.length_append, hg.len, hxl, Nat.add_mul, Nat.one_mul]
  have hbig : ∀ v ∈ css.flatten, bigCell v = true := fun v hv => hg.big v (List.mem_append_left _ hv)
  have src : ∀ w', (∀ j, w'.cell? ⟨h, j, none⟩ = w.cell? ⟨h, j, none⟩) → (∀ j, w'.drew.cell? ⟨h, j, none⟩ = w.cell? ⟨h, j, none⟩) → Src P i.size t (.slice (some ⟨h, 0, none⟩) 1 1) 1 x w' := fun w' hw _ =>
    Src.ofSlice w' hu ⟨h, 0, none⟩ 1 1 x (by rw [hxl, Nat.one_mul]) (fun j u hj => by
      rw [Addr.add_lit, Nat.zero_add, hw, hx.cell, hj]) h1
  have hsrc := src w (fun _ => rfl) (fun _ => rfl)
  rcases Nat.lt_or_ge n c with hc | hc
  · -- there is room
    cases o with
    | none => have := hg.nil rfl; omega
    | some g =>
      have hb : Blk w g e (css.flatten ++ sp) := hs.blk (g, e, css.flatten ++ sp) (List.mem_append_right _ (List.mem_singleton.2 rfl))
      have hspl : i.size ≤ sp.length := by rw [hg.spl]; exact Nat.le_mul_of_pos_left _ (by omega)
      refine ⟨some g, c, sp.drop i.size, _, run_append_room_src w t t ty e i hu hi g 0 n c _ 1 x hsrc (by omega) (fun j hj => ?_) (fun j hj => hb.frozen _), ?_, ?_⟩
      · rw [Nat.zero_add, hb.cell, ← hg.len, List.getElem?_append_right (by omega), Nat.add_sub_cancel_left, List.getElem?_eq_getElem (by omega)]; rfl
      · have h2 := hs.store (i := L1.length) (g := g) (t := e) (cs := css.flatten ++ sp) (by rw [ownL, List.getElem?_append_right (Nat.le_refl _), Nat.sub_self]; rfl) (0 + n * i.size) x
        rw [ownL, List.set_append_right _ _ (Nat.le_refl _), Nat.sub_self, List.set_cons_zero, Nat.zero_add, ← hg.len] at h2
        have h3 := setL_app x css.flatten (sp.take i.size) (sp.drop i.size) (by rw [List.length_take, hxl]; omega)
        rw [List.take_append_drop] at h3
        rw [h3] at h2
        rw [ownL, Nat.zero_add, ← hg.len, List.append_assoc]
        exact h2
      · refine ⟨by omega, hlen, by rw [List.length_drop, hg.spl, ← Nat.sub_sub, Nat.sub_mul (c - n), Nat.one_mul], (fun e => by cases e), fun v hv => ?_⟩
        rcases List.mem_append.1 hv with hv | hv
        · rcases List.mem_append.1 hv with hv | hv
          · exact hbig v hv
          · exact hxb v hv
        · exact hg.big v (List.mem_append_right _ (List.mem_of_mem_drop hv))
  · -- there is none
    have hcn : c = n := Nat.le_antisymm hc hg.le
    subst hcn
    have hold : (Builtin.firstCells i.size c (gsl o c c)).run P w.drew = .ok css.flatten.toArray w.drew := by
      cases o with
      | none =>
        have h0 := hg.nil rfl
        have : css.flatten = [] := List.eq_nil_of_length_eq_zero (by rw [hg.len, h0, Nat.zero_mul])
        rw [this]
        exact run_firstCells_none w.drew _ _ _ _
      | some g =>
        have hb : Blk w g e (css.flatten ++ sp) := hs.blk (g, e, css.flatten ++ sp) (List.mem_append_right _ (List.mem_singleton.2 rfl))
        exact run_firstCells_some w.drew i.size c ⟨g, 0, none⟩ c c css.flatten hg.len fun j v hj => by
          have h2 : w.drew.cell? ⟨g, j, none⟩ = w.cell? ⟨g, j, none⟩ := rfl
          have hlt : j < css.flatten.length := by
            rcases Nat.lt_or_ge j css.flatten.length with h' | h'
            · exact h'
            · rw [List.getElem?_eq_none h'] at hj; cases hj
          rw [Addr.add_lit, Nat.zero_add, h2, hb.cell, List.getElem?_append_left hlt, hj]
    have hr := run_append_grow_src w t t ty e i z' hu hi hz (o.map fun g => ⟨g, 0, none⟩) c c css.flatten hold (.slice (some ⟨h, 0, none⟩) 1 1) 1 x hsrc (by omega) (by omega) (growslice_fits (by omega) hfit)
    have hge := grownCap_ge w (c + 1) c e
    refine ⟨some w.heap.size, grownCap w (c + 1) c e, (Builtin.zeroCells z'.cells (grownCap w (c + 1) c e - (c + 1))).toList, _, hr, ?_, ?_⟩
    · have e1 : (css.flatten ++ x).toArray ++ Builtin.zeroCells z'.cells (grownCap w (c + 1) c e - (c + 1)) = ((css.flatten ++ x) ++ (Builtin.zeroCells z'.cells (grownCap w (c + 1) c e - (c + 1))).toList).toArray := by
        apply Array.ext'; simp
      rw [e1]
      exact hs.moved rfl ((Ext.refl w).drew.alloc _) (Nat.le_refl _) (Blk.new w.drew e _)
    · refine ⟨hge, hlen, by rw [Array.length_toList, size_zeroCells, hzs], (fun e => by cases e), fun v hv => ?_⟩
      rcases List.mem_append.1 hv with hv | hv
      · rcases List.mem_append.1 hv with hv | hv
        · exact hbig v hv
        · exact hxb v hv
      · exact zero_big hzb (by omega) _ v hv
end
end Go.Proofs.YtiloialbglfplaaGreatDoor

namespace Go.Proofs.YtiloialbglfplaaGreatDoor
open Go.RowKit

section
variable {S : Nat → Prop} {P : Program} {ops : Array Oper} {Q : Exit → Act → World → Prop} {o : Oper} {rest : List Oper} {a : Act} {w0 w : World} {n : Nat} {m : Sl} {L : List Bk} {Φ : List (World → Prop)} {sps : List Sp} {i : Nat}

/-! ### What is read -/
theorem x_index {t : TypeId} {xo yo : Operand} {g off len c k sz : Nat} {kd : IntKind} {z : Int} (hi : z = (k : Int)) (hk : k < len) (ho : o.op = .indexAddr t xo yo := by rfl) (hx : ev m xo = .slice (some ⟨g, off, none⟩) len c := by rfl) (hy : ev m yo = .int kd z := by rfl) (ht : eltM P t = some sz := by kernel_rfl) :
    (execOp (ev m) o).run P w = .ok (.value (.pointer (some ⟨g, off + k * sz, none⟩))) w := by
  unfold execOp
  simp only [ho, hx, hy, Sem.run_bind, run_index ht hi hk w, Result.andThen_ok, Sem.run_pure]
theorem x_load {t : TypeId} {x : Operand} {ad : Addr} {v : Value} (h : (Instr.loadAt t (.pointer (some ad))).run P w = .ok v w) (ho : o.op = .load t x := by rfl) (hx : ev m x = .pointer (some ad) := by rfl) : (execOp (ev m) o).run P w = .ok (.value v) w := by
  unfold execOp
  simp only [ho, hx, Sem.run_bind, h, Result.andThen_ok, Sem.run_pure]
theorem d_loadf {t : TypeId} {x : Operand} {ad : Addr} {v : Value} (C : ∀ w', Ext w w' → (Instr.loadAt t (.pointer (some ad))).run P w' = .ok v w') (hsp : spAt sps i = .eq v := by rfl) (ho : o.op = .load t x := by rfl) (hx : ∀ u, ev (slotsR ops sps u m i) x = .pointer (some ad) := by exact fun _ => rfl)
    (hc : ∀ u, chkD ops (slotsR ops sps u m i) o = true := by intro _; kernel_rfl) : OblS P ops sps m w i o :=
  d_any hc fun u w' hw _ => stp_val (v := v) (w' := w') (by
    unfold execOp
    simp only [ho, hx u, Sem.run_bind, C w' hw, Result.andThen_ok, Sem.run_pure]) ⟨Ext.refl _, by rw [hsp]; rfl⟩
theorem x_loadQ {xs : List Rat} {t : TypeId} {x : Operand} {g off len c k : Nat} {v : Rat} (h : QL xs (.slice (some ⟨g, off, none⟩) len c) w) (hk : xs[k]? = some v) (ho : o.op = .load t x := by rfl) (hx : ev m x = .pointer (some ⟨g, off + k * 5, none⟩) := by rfl) (ht : rowM P t 5 = true := by kernel_rfl) : (execOp (ev m) o).run P w = .ok (.value (qV v)) w := x_load (h.load ht hk) ho hx
theorem d_loadQ (hs : StS S w0 w L Φ) (j : Nat) {xs : List Rat} {t : TypeId} {x : Operand} {g off len c k : Nat} {v : Rat} (hk : xs[k]? = some v) (hj : Φ[j]? = some (QL xs (.slice (some ⟨g, off, none⟩) len c)) := by rfl) (hsp : spAt sps i = .eq (qV v) := by rfl) (ho : o.op = .load t x := by rfl) (hx : ∀ u, ev (slotsR ops sps u m i) x = .pointer (some ⟨g, off + k * 5, none⟩) := by exact fun _ => rfl)
    (ht : rowM P t 5 = true := by kernel_rfl) (hc : ∀ u, chkD ops (slotsR ops sps u m i) o = true := by intro _; kernel_rfl) : OblS P ops sps m w i o :=
  d_loadf (fun _ hw => ((hs.go hw).get j hj).load ht hk) hsp ho hx hc

/-! ### A slice of what is written out -/
def numFrom : Nat → List Value → List (Nat × Value)
  | _, [] => []
  | k, v :: vs => (k, v) :: numFrom (k + 1) vs
theorem foldl_setL : ∀ (l : List Value) (k off : Nat) (cells : Array Value), ((l.zipIdx k).foldl (fun cs (x : Value × Nat) => cs.setIfInBounds (off + x.2) x.1) cells).toList = setL cells.toList (off + k) l
  | [], _, _, _ => rfl
  | v :: l, k, off, cells => by
    rw [List.zipIdx_cons, List.foldl_cons, foldl_setL l (k + 1) off, Array.toList_setIfInBounds, setL, Nat.add_assoc]
theorem fill_all {sz : Nat} : ∀ (vs : List Value) (k : Nat) (cells : Array Value) (pre suf : List Value), cells.toList = pre ++ suf → pre.length = k * sz → suf.length = vs.length * sz → (∀ v ∈ vs, v.cells.size = sz) →
    ∃ r, Instr.fill (fun i => some (i * sz, sz)) cells (numFrom k vs) = some r ∧ r.toList = pre ++ (vs.map (·.cells.toList)).flatten
  | [], k, cells, pre, suf, h, hp, hs, _ => ⟨cells, rfl, by
    have e : suf = [] := List.eq_nil_of_length_eq_zero (by simpa using hs)
    rw [h, e]; simp⟩
  | v :: vs, k, cells, pre, suf, h, hp, hs, hv => by
    have hvs := hv v (List.mem_cons_self ..)
    have e0 : v.cells.toList.length = sz := by rw [Array.length_toList, hvs]
    have hsl : suf.length = vs.length * sz + sz := by rw [hs, List.length_cons, Nat.add_mul, Nat.one_mul]
    have hsz : cells.size = k * sz + suf.length := by rw [← Array.length_toList, h, List.length_append, hp]
    have e1 : (v.cells.zipIdx.foldl (fun cs (x : Value × Nat) => cs.setIfInBounds (k * sz + x.2) x.1) cells).toList = (pre ++ v.cells.toList) ++ suf.drop sz := by
      rw [← Array.foldl_toList, Array.toList_zipIdx, foldl_setL v.cells.toList 0 (k * sz) cells, Nat.add_zero, h, ← hp]
      have := setL_app v.cells.toList pre (suf.take sz) (suf.drop sz) (by rw [List.length_take, e0]; omega)
      rw [List.take_append_drop] at this
      rw [this, List.append_assoc]
    obtain ⟨r, h1, h2⟩ := fill_all vs (k + 1) _ (pre ++ v.cells.toList) (suf.drop sz) e1 (by rw [List.length_append, hp, e0, Nat.add_mul, Nat.one_mul]) (by rw [List.length_drop, hsl]; omega) fun u hu => hv u (List.mem_cons_of_mem _ hu)
    refine ⟨r, ?_, by rw [h2]; simp⟩
    rw [numFrom, Instr.fill]
    simp only
    rw [if_neg (by rw [hvs, hsz]; simp; omega)]
    exact h1
theorem stp_bslice {t e : TypeId} {sz by_ len : Nat} {z : List Value} {parts : Array (Nat × Operand)} {R : Value → World → Prop} (hs : StS S w0 w L Φ) (vs : List Value) (ho : o.op = .buildSlice t len parts) (hp : (parts.map fun (x : Nat × Operand) => (x.1, ev m x.2)).toList = numFrom 0 vs) (ht : elemM P t e sz by_ z = true)
    (hlen : len = vs.length) (h0 : 0 < len * sz) (hmax : len * sz ≤ 16777216) (hsz : ∀ v ∈ vs, v.cells.size = sz)
    (hR : ∀ g w', StS S w0 w' ((g, e, (vs.map (·.cells.toList)).flatten) :: L) Φ → R (.slice (some ⟨g, 0, none⟩) len len) w') : Stp P (ev m) o w R := by
  obtain ⟨hu, inf, z', hi, rfl, rfl, hz, hzs, hzb⟩ := elemM_spec ht
  have hbase : ((Array.range (len * inf.size)).map (z'.cells[· % z'.cells.size]!)).toList.length = vs.length * inf.size := by simp [hlen]
  obtain ⟨r, h1, h2⟩ := fill_all vs 0 ((Array.range (len * inf.size)).map (z'.cells[· % z'.cells.size]!)) [] _ rfl (by simp) hbase hsz
  have h3 := hs.alloc e r.toList
  rw [Array.toArray_toList] at h3
  rw [List.nil_append] at h2
  rw [← h2] at hR
  refine stp_val ?_ (hR w.heap.size _ h3)
  unfold execOp
  have hp' : (parts.map fun (x : Nat × Operand) => (x.1, ev m x.2)) = (numFrom 0 vs).toArray := by
    apply Array.ext'; rw [hp]
  have hn : ¬ (16777216 < len * inf.size) := by omega
  have hn0 : ¬ (len * inf.size = 0) := by omega
  simp [ho, Instr.buildSlice, run_underlying hu, sizeOf, typeInfo, zeroValue, hi, hz, hn, hn0, hp', h1, newRow]
theorem s_bslice {t e : TypeId} {sz by_ len : Nat} {z : List Value} {parts : Array (Nat × Operand)} (ha : At a n m) (hs : StS S w0 w L Φ) (vs cs : List Value)
    (ht : elemM P t e sz by_ z = true) (K : ∀ g a' w', At a' n (putm m o.dst (.slice (some ⟨g, 0, none⟩) len len)) → StS S w0 w' ((g, e, cs) :: L) Φ → wpList P ops Q rest a' w')
    (hsz : ∀ v ∈ vs, v.cells.size = sz := by intro v hv; simp only [List.mem_cons, List.not_mem_nil, or_false] at hv; rcases hv with rfl | rfl <;> rfl)
    (ho : o.op = .buildSlice t len parts := by rfl) (hlen : len = vs.length := by rfl) (hmax : (Nat.ble 1 (len * sz) && Nat.ble (len * sz) 16777216) = true := by kernel_rfl) (hp : (parts.map fun (x : Nat × Operand) => (x.1, ev m x.2)).toList = numFrom 0 vs := by kernel_rfl) (hcs : (vs.map (·.cells.toList)).flatten = cs := by kernel_rfl) (hc : chk ops n m o = true := by kernel_rfl) : wpList P ops Q (o :: rest) a w := by
  subst hcs
  rw [Bool.and_eq_true] at hmax
  exact seq_step ha (chk_spec hc).1 (chk_spec hc).2 (stp_bslice hs vs ho hp ht hlen (Nat.le_of_ble_eq_true hmax.1) (Nat.le_of_ble_eq_true hmax.2) hsz fun g w' hs' a' ha' => K g a' w' ha' hs')

/-! ### append, of one element; make; a store into what was made -/
theorem s_append {t e tx : TypeId} {sz by_ k c h : Nat} {og : Option Nat} {css : List (List Value)} {sp x z : List Value} {xo yo : Operand} (ha : At a n m) (hs : StS S w0 w L Φ) (L1 : List Bk) (hL : L = L1 ++ ownL e og (css.flatten ++ sp)) (hg : GOk sz og k c css.flatten sp) (i : Nat)
    (ht : elemM P t e sz by_ z = true) (hfit : (k + 1) * by_ ≤ 140737488355328) (h63 : k + 1 ≤ 9223372036854775807)
    (K : ∀ og' c' sp' a' w', GOk sz og' (k + 1) c' (css ++ [x]).flatten sp' → At a' n (putm m o.dst (gsl og' (k + 1) c')) → StS S w0 w' (L1 ++ ownL e og' ((css ++ [x]).flatten ++ sp')) Φ → wpList P ops Q rest a' w')
    (hi : L[i]? = some (h, tx, x) := by rfl) (hsz : 0 < sz := by decide) (hxl : x.length = sz := by rfl) (h1 : x.all (·.oneCell') = true := by kernel_rfl) (hxb : x.all bigCell = true := by kernel_rfl)
    (ho : o.op = .call ⟨.builtin .append, #[xo, yo], #[t, t]⟩ := by rfl) (hx : ev m xo = gsl og k c := by rfl) (hy : ev m yo = .slice (some ⟨h, 0, none⟩) 1 1 := by rfl) (hc : chk ops n m o = true := by kernel_rfl) : wpList P ops Q (o :: rest) a w := by
  obtain ⟨og', c', sp', w', h2, h3, h4⟩ := run_append1 (P := P) (ty := o.type) hs hL hg (hs.at_ i hi) hxl (fun u hu => List.all_eq_true.1 h1 u hu) (fun u hu => List.all_eq_true.1 hxb u hu) ht hsz hfit h63
  refine seq_step ha (chk_spec hc).1 (chk_spec hc).2 (stp_val (v := gsl og' (k + 1) c') (w' := w') ?_ fun a' ha' => K og' c' sp' a' w' h4 ha' h3)
  unfold execOp
  simp [ho, resolve, invoke, builtin, hx, hy, h2, Result.andThen]
theorem made_flat {z : Array Value} {sz : Nat} (hz : z.size = sz) (h0 : 0 < sz) (k : Nat) : (madeCells z (k * sz)).toList = (List.replicate k z.toList).flatten := by
  have hfl : (List.replicate k z.toList).flatten.length = k * sz := by simp [hz]
  apply List.ext_getElem?
  intro i
  rcases Nat.lt_or_ge i (k * sz) with hi | hi
  · have h1 : i / sz < k := Nat.div_lt_of_lt_mul (by rw [Nat.mul_comm]; exact hi)
    have h2 := flat_at (sz := sz) (css := List.replicate k z.toList) (fun c hc => by rw [(List.mem_replicate.1 hc).2, Array.length_toList, hz]) (k := i / sz) (c := z.toList) (by rw [List.getElem?_replicate, if_pos h1]) (Nat.mod_lt i h0)
    rw [Nat.div_add_mod' i sz] at h2
    rw [h2]
    unfold madeCells
    have h3 : i % sz < z.size := by rw [hz]; exact Nat.mod_lt _ h0
    simp [hz, hi]
    rw [getElem!_pos z (i % sz) h3, Array.getElem?_eq_getElem h3]
  · rw [List.getElem?_eq_none (l := (madeCells z (k * sz)).toList) (by rw [Array.length_toList, size_madeCells]; exact hi), List.getElem?_eq_none (by rw [hfl]; exact hi)]
theorem s_make {t e : TypeId} {sz by_ k : Nat} {z : List Value} {xo yo : Operand} {z1 z2 : Int} (ha : At a n m) (hs : StS S w0 w L Φ) (x : List Value) (ht : elemM P t e sz by_ z = true) (hz : ((P.info? e).bind (·.zero)).map (·.cells.toList) = some x)
    (hk : z1 = (k : Int)) (hk2 : z2 = (k : Int)) (hby : by_ * k ≤ 281474976710656) (h63 : k ≤ 9223372036854775807)
    (K : ∀ g a' w', GOk sz (some g) k k (List.replicate k x).flatten [] → At a' n (putm m o.dst (gsl (some g) k k)) → StS S w0 w' (L ++ ownL e (some g) ((List.replicate k x).flatten ++ [])) Φ → wpList P ops Q rest a' w')
    (ho : o.op = .makeSlice t xo yo := by rfl) (hx : ev m xo = .int .i64 z1 := by rfl) (hy : ev m yo = .int .i64 z2 := by rfl) (hsz : 0 < sz := by decide) (hc : chk ops n m o = true := by kernel_rfl) : wpList P ops Q (o :: rest) a w := by
  obtain ⟨hu, i, z', hi, rfl, rfl, hz', hzs, hzb⟩ := elemM_spec ht
  rw [hi, Option.bind_some, hz', Option.map_some] at hz
  injection hz with hz
  subst hz; subst hk; subst hk2
  have hbz : (i.bytes : Int) * (k : Int) ≤ 281474976710656 := by
    have h5 : ((i.bytes * k : Nat) : Int) ≤ 281474976710656 := by omega
    rwa [Int.natCast_mul] at h5
  have hr := run_make (P := P) w t e i z' hu hi hz' .i64 .i64 (k : Int) (k : Int) (by omega) (Int.le_refl _) hbz (by omega)
  simp only [Int.toNat_natCast] at hr
  have hfl := made_flat hzs hsz k
  have h3 := hs.moved (L1 := L) (o := none) (e := e) (cs := []) (List.append_nil L).symm ((Ext.refl w).alloc (.cells (madeCells z'.cells (k * i.size)) e)) (Nat.le_refl _) (by
    have := Blk.new w e (madeCells z'.cells (k * i.size)).toList
    rw [Array.toArray_toList] at this
    exact this)
  rw [hfl] at h3
  refine seq_step ha (chk_spec hc).1 (chk_spec hc).2 (stp_val (v := gsl (some w.heap.size) k k) (w' := w.alloc (.cells (madeCells z'.cells (k * i.size)) e)) ?_ fun a' ha' => K w.heap.size a' _ ⟨Nat.le_refl _, by simp [hzs], by simp, (fun e => by cases e), fun v hv => ?_⟩ ha' (by rw [List.append_nil]; exact h3))
  · unfold execOp
    simp only [ho, hx, hy, Sem.run_bind, hr, Result.andThen_ok, Sem.run_pure]
    rfl
  · rw [List.append_nil, List.mem_flatten] at hv
    obtain ⟨l, hl, hv⟩ := hv
    rw [(List.mem_replicate.1 hl).2] at hv
    exact hzb v hv
/-- An element of the slice that is filled. -/
theorem flat_set {css : List (List Value)} {sz : Nat} (h : ∀ c ∈ css, c.length = sz) {k : Nat} (hk : k < css.length) {x : List Value} (hx : x.length = sz) (sp : List Value) : setL (css.flatten ++ sp) (k * sz) x = (css.set k x).flatten ++ sp := by
  induction css generalizing k with
  | nil => simp at hk
  | cons d css ih =>
    have hd := h d (List.mem_cons_self ..)
    rcases k with _ | k
    · rw [List.set_cons_zero, List.flatten_cons, List.flatten_cons, Nat.zero_mul, List.append_assoc, List.append_assoc]
      have := setL_app x [] d (css.flatten ++ sp) (by rw [hd, hx])
      exact this
    · have ih' := ih (fun c hc => h c (List.mem_cons_of_mem _ hc)) (k := k) (by simpa using hk)
      rw [List.set_cons_succ, List.flatten_cons, List.flatten_cons, List.append_assoc, List.append_assoc, ← ih']
      have key : ∀ (vs A B : List Value) (j : Nat), setL (A ++ B) (A.length + j) vs = A ++ setL B j vs := by
        intro vs
        induction vs with
        | nil => intro A B j; rfl
        | cons v vs ihv =>
          intro A B j
          rw [setL, setL, List.set_append_right _ _ (by omega), Nat.add_sub_cancel_left, Nat.add_assoc, ihv]
      rw [← key x d (css.flatten ++ sp) (k * sz), hd, Nat.add_mul, Nat.one_mul, Nat.add_comm sz]
theorem s_storeT {t e : TypeId} {sz k g : Nat} {css : List (List Value)} {sp : List Value} {v : Value} {xo yo : Operand} (ha : At a n m) (hs : StS S w0 w L Φ) (L1 : List Bk) (hL : L = L1 ++ ownL e (some g) (css.flatten ++ sp)) (hcs : ∀ c ∈ css, c.length = sz) (hk : k < css.length) (x : List Value)
    (K : ∀ a' w', At a' n (putm m o.dst undef) → StS S w0 w' (L1 ++ ownL e (some g) ((css.set k x).flatten ++ sp)) Φ → wpList P ops Q rest a' w')
    (hx : v.cells.toList = x := by rfl) (hxl : x.length = sz := by rfl) (ho : o.op = .store t xo yo := by rfl) (he1 : ev m xo = .pointer (some ⟨g, 0 + k * sz, none⟩) := by rfl) (he2 : ev m yo = v := by rfl) (hsz : (P.info? t).map (·.size) = some sz := by kernel_rfl) (h1 : x.all (·.oneCell') = true := by kernel_rfl) (hc : chk ops n m o = true := by kernel_rfl) : wpList P ops Q (o :: rest) a w := by
  obtain ⟨inf, hi, hisz⟩ := Option.map_eq_some_iff.1 hsz
  subst hL
  have hb : Blk w g e (css.flatten ++ sp) := hs.blk (g, e, css.flatten ++ sp) (List.mem_append_right _ (List.mem_singleton.2 rfl))
  have h2 := hs.store (i := L1.length) (g := g) (t := e) (cs := css.flatten ++ sp) (by rw [ownL, List.getElem?_append_right (Nat.le_refl _), Nat.sub_self]; rfl) (0 + k * sz) v.cells.toList
  rw [ownL, List.set_append_right _ _ (Nat.le_refl _), Nat.sub_self, List.set_cons_zero, Nat.zero_add, hx, flat_set hcs hk hxl] at h2
  have hvs : v.cells.size = sz := by rw [← Array.length_toList, hx, hxl]
  have hfl : css.flatten.length = css.length * sz := by
    clear hb h2 K hk hs
    induction css with
    | nil => simp
    | cons c css ih => rw [List.flatten_cons, List.length_append, hcs c (List.mem_cons_self ..), ih fun c hc => hcs c (List.mem_cons_of_mem _ hc), List.length_cons, Nat.add_mul, Nat.one_mul, Nat.add_comm]
  have hfit : k * sz + sz ≤ css.flatten.length := by
    rw [hfl]
    calc k * sz + sz = (k + 1) * sz := by rw [Nat.add_mul, Nat.one_mul]
      _ ≤ css.length * sz := Nat.mul_le_mul_right _ hk
  have hrun : (storeCells ⟨g, 0 + k * sz, none⟩ v.cells.toList 0).run P w = .ok () (w.setCells g (0 + k * sz + 0) v.cells.toList) := by
    refine run_storeCells_cells (P := P) g (0 + k * sz) v.cells.toList 0 w (fun j hj => ?_) (fun j hj => hb.frozen _) (fun u hu => ?_)
    · rw [hb.cell]
      have hj' : j < sz := by rw [← hvs]; simpa using hj
      rw [List.getElem?_eq_getElem (by rw [List.length_append]; omega)]
      rfl
    · rw [hx] at hu; exact List.all_eq_true.1 h1 u hu
  refine seq_step ha (chk_spec hc).1 (chk_spec hc).2 (stp_skip (w' := w.setCells g (0 + k * sz) v.cells.toList) ?_ fun a' ha' => K a' _ ha' (by rw [hx, Nat.zero_add]; exact h2))
  rw [Nat.add_zero] at hrun
  unfold execOp
  simp only [ho, he1, he2, Instr.storeAt, Instr.sureAddr, storeVar, sizeOf, typeInfo]
  simp [hi, hisz, hvs] at hrun ⊢
  rw [hrun]
  rfl

/-! ### What has grown, as a fact -/
theorem lie_gsl {og : Option Nat} {e : TypeId} {css : List (List Value)} {sp : List Value} {k c sz : Nat} {L1 : List Bk} (hs : StS S w0 w L Φ) (hL : L = L1 ++ ownL e og (css.flatten ++ sp)) (hg : GOk sz og k c css.flatten sp) : Lie css.flatten k (gsl og k c) w := by
  subst hL
  cases og with
  | none =>
    have h0 := hg.nil rfl
    have hk : k = 0 := by have := hg.le; omega
    have : css.flatten = [] := List.eq_nil_of_length_eq_zero (by rw [hg.len, hk, Nat.zero_mul])
    rw [this]
    exact ⟨none, c, rfl, hg.le, fun h => absurd rfl h⟩
  | some g => exact Lie.of_blk k c hg.le (hs.blk (g, e, css.flatten ++ sp) (List.mem_append_right _ (List.mem_singleton.2 rfl)))
theorem LL.grown {α : Type} {p : α → List Value → World → Prop} {og : Option Nat} {e : TypeId} {ys : List α} {css : List (List Value)} {sp : List Value} {k c sz : Nat} (hs : StS S w0 w L Φ) (L1 : List Bk) (hL : L = L1 ++ ownL e og (css.flatten ++ sp)) (hg : GOk sz og k c css.flatten sp) (he : Easy p) (hE : Els p sz ys css w) (hk : k = ys.length) :
    Own (fun i => w0.heap.size ≤ i) (LL p sz ys (gsl og k c)) w := by
  subst hk
  refine LL.own he ⟨css, hE, lie_gsl hs hL hg⟩ fun g off j d hv => ?_
  subst hL
  cases og with
  | none => cases hv
  | some g' =>
    injection hv with h1 _ _
    injection h1 with h1
    injection h1 with h1 _
    subst h1
    exact hs.fresh (g', e, css.flatten ++ sp) (List.mem_append_right _ (List.mem_singleton.2 rfl))
/-- What is new, and a list: a call's result. -/
abbrev RetL (T : Value → Value) (φ : Value → World → Prop) (w : World) : Ending → World → Prop := RetS (fun u w' => ∃ r, u = T r ∧ Own (fun i => w.heap.size ≤ i) (φ r) w') w
theorem s_callL {f : FuncId} {args : Array Value} {T : Value → Value} {φ : Value → World → Prop} (ha : At a n m) (hs : StS S w0 w L Φ) (hB : Big L) (C : Calls P f args w (RetL T φ w)) (K : ∀ r a' w', φ r w' → At a' n (putm m o.dst (T r)) → StS S w0 w' L (φ r :: Φ) → wpList P ops Q rest a' w')
    (hc : chk ops n m o = true := by kernel_rfl) (hr : (execOp (ev m) o).run P w = .ok (.enter f args) w := by kernel_rfl) : wpList P ops Q (o :: rest) a w :=
  seq_step ha (chk_spec hc).1 (chk_spec hc).2 (stp_call hr (C.mono fun _ w' ⟨u, h1, ⟨r, h2, h3⟩, h4⟩ => ⟨u, h1, fun a' ha' => by
    subst h2
    exact K r a' w' h3.now ha' ((hs.go h4).addOwn (h3.mono fun i hi => ⟨.inr (Nat.le_trans hs.ext.size hi), fun hm => by have := hs.lt hm; omega⟩) hB)⟩))
theorem StS.args {α : Type} {p : α → List Value → World → Prop} {sz : Nat} (h : St w0 w [] Φ) (he : Easy p) {xs : List α} {v : Value} (hx : LL p sz xs v w) : St w0 w [] (LL p sz xs v :: Φ) := h.arg (hx.own he fun _ _ _ _ _ => trivial)
end
end Go.Proofs.YtiloialbglfplaaGreatDoor

namespace Go.Proofs.YtiloialbglfplaaGreatDoor
open Go.RowKit

/-- The fractions have at most k bits. -/
def SqL (k : Nat) (xs : List Rat) : Prop := ∀ i, Sq k (xs.getD i 0)
theorem getD_some {α : Type} {xs : List α} {k : Nat} {d : α} (h : k < xs.length) : xs[k]? = some (xs.getD k d) := by rw [List.getElem?_eq_getElem h, List.getD_eq_getElem?_getD, List.getElem?_eq_getElem h]; rfl
theorem wrap_succ {i n : Nat} (h : i < n ∧ n ≤ 9223372036854775807) : Value.int .i64 (IntKind.i64.wrap (((i : Nat) : Int) + 1)) = .int .i64 ((i + 1 : Nat) : Int) := by
  exact congrArg (Value.int .i64) (by rw [IntKind.wrap_i64]; omega)
theorem qC_zero : [Value.bool false, .int .u64 0, .string ⟨#[]⟩, .int .u64 0, .string ⟨#[]⟩] = qC 0 := by
  have h := qV_zero
  unfold qV at h
  injection h with h
  exact (congrArg Array.toList h).symm
/-- The sum of products. -/
def dotN (xs ys : List Rat) : Nat → Rat
  | 0 => 0
  | i + 1 => dotN xs ys i + xs.getD i 0 * ys.getD i 0
theorem SqL.dot {j k m : Nat} {xs ys : List Rat} (hx : SqL j xs) (hy : SqL k ys) : ∀ i, i ≤ m → Sq ((j + k + 1) * m + 1) (dotN xs ys i)
  | 0, _ => (Sq.zero _ (by omega))
  | i + 1, h => by
    have h0 : ∀ i, Sq ((j + k + 1) * i + 1) (dotN xs ys i) := fun i => by
      induction i with
      | zero => exact Sq.zero _ (by omega)
      | succ i ih => exact (ih.add ((hx i).mul (hy i))).le (by rw [Nat.mul_add (j + k + 1) i 1]; omega)
    exact (h0 (i + 1)).le (by have := Nat.mul_le_mul_left (j + k + 1) h; omega)
theorem ne_len {a b : Nat} (h : a = b) : (((a : Nat) : Int) != ((b : Nat) : Int)) = false := by rw [bne_eq_false_iff_eq]; omega
theorem ne_len2 {a b : Nat} (h : a ≠ b) : (((a : Nat) : Int) != ((b : Nat) : Int)) = true := by rw [bne_iff_ne]; omega

set_option maxHeartbeats 1000000 in
theorem fdot {j k m : Nat} {xs ys : List Rat} (hx : SqL j xs) (hy : SqL k ys) (hxy : xs.length = ys.length) {v1 v2 : Value} (w : World) (q1 : QL xs v1 w) (q2 : QL ys v2 w) (htab : Tab64 w) (hm : xs.length ≤ m) (hm2 : m ≤ 1000000) (hj : j + k + 1 ≤ 20000000000) (hk : (j + k + 1) * m + 1 ≤ 20000000000) : Calls Tryz.prog 14 #[v1, v2] w (Ret (.tuple #[qV (dotN xs ys xs.length), .bool true]) w) := by
  obtain ⟨A1, c1, rfl⟩ := q1.form
  obtain ⟨A2, c2, rfl⟩ := q2.form
  have hne := ne_len hxy
  have hs := St.start w
  have hs := hs.args easyQ q1
  have hs := hs.args easyQ q2
  refine enter Tryz.func14 rfl Tryz.ntmps14 (by kernel_rfl) fun ac ha => ?_
  refine wp_seq ?_
  refine wp_region_lit ?_
  refine s_alloc ha hs [.bool false, .int .u64 0, .string (⟨#[]⟩), .int .u64 0, .string (⟨#[]⟩)] fun g1 ac wd ha hs => ?_
  refine s_val ha (.bool false) fun ac ha => ?_
  refine wpList_nil ((x_normal ?_))
  refine wp_seq ?_
  refine wp_seq ?_
  refine wp_region_lit ?_
  refine s_val ha (.slice A1 xs.length c1) fun ac ha => ?_
  refine s_val ha (.int .i64 ((xs.length : Nat) : Int)) fun ac ha => ?_
  refine s_val ha (.slice A2 ys.length c2) fun ac ha => ?_
  refine s_val ha (.int .i64 ((ys.length : Nat) : Int)) fun ac ha => ?_
  refine s_bool ha (b := (((xs.length : Nat) : Int) != ((ys.length : Nat) : Int))) false hne fun ac ha => ?_
  refine wpList_nil ((x_normal ?_))
  refine r_false ha ?_
  refine wp_skip ((x_normal ?_))
  refine wp_seq ?_
  refine wp_region_lit ?_
  refine s_alloc ha hs [.bool false, .int .u64 0, .string (⟨#[]⟩), .int .u64 0, .string (⟨#[]⟩)] fun g2 ac wd ha hs => ?_
  refine wpList_nil ((x_normal ?_))
  refine wp_seq ?_
  refine wp_seq ?_
  refine wp_region_lit ?_
  refine s_val ha (.slice A1 xs.length c1) fun ac ha => ?_
  refine s_val ha (.int .i64 ((xs.length : Nat) : Int)) fun ac ha => ?_
  refine s_val ha (.int .i64 0) fun ac ha => ?_
  refine wpList_nil ((x_normal ?_))
  refine wp_block ?_
  have hs := hs.cast ([(g2, 34, [.bool (decide ((0 : Rat).num < 0)), .int .u64 (lo ((0 : Rat).num).natAbs : Nat), .string (hi ((0 : Rat).num).natAbs), .int .u64 (lo (d1 (0 : Rat).den) : Nat), .string (hi (d1 (0 : Rat).den))]), (g1, 34, [.bool false, .int .u64 0, .string (⟨#[]⟩), .int .u64 0, .string (⟨#[]⟩)])]) (congrArg (fun cq => [(g2, 34, cq), (g1, 34, [.bool false, .int .u64 0, .string (⟨#[]⟩), .int .u64 0, .string (⟨#[]⟩)])]) qC_zero)
  refine loop_inv (α := Nat) (fun i ac wd => At ac _ [(0, .slice A1 xs.length c1), (1, .slice A2 ys.length c2), (4, .pointer (some ⟨g1, 0, none⟩)), (5, .bool false), (9, .slice A1 xs.length c1), (10, .int .i64 ((xs.length : Nat) : Int)), (11, .slice A2 ys.length c2), (12, .int .i64 ((ys.length : Nat) : Int)), (13, .bool false), (6, .pointer (some ⟨g2, 0, none⟩)), (15, .slice A1 xs.length c1), (16, .int .i64 ((xs.length : Nat) : Int)), (17, .int .i64 ((i : Nat) : Int))] ∧ St w wd ([(g2, 34, [.bool (decide ((dotN xs ys i).num < 0)), .int .u64 (lo ((dotN xs ys i).num).natAbs : Nat), .string (hi ((dotN xs ys i).num).natAbs), .int .u64 (lo (d1 (dotN xs ys i).den) : Nat), .string (hi (d1 (dotN xs ys i).den))]), (g1, 34, [.bool false, .int .u64 0, .string (⟨#[]⟩), .int .u64 0, .string (⟨#[]⟩)])]) [QL ys (.slice A2 ys.length c2), QL xs (.slice A1 xs.length c1)] ∧ i ≤ xs.length) (fun i => xs.length - i) 0 ⟨ha.sub _, hs.cast _, Nat.zero_le _⟩ ?_
  rintro i ac wd ⟨ha, hs, hI⟩
  refine wp_seq ?_
  refine wp_region_lit ?_
  rcases Bool.eq_false_or_eq_true (decide (((i : Nat) : Int) < ((xs.length : Nat) : Int))) with hb3 | hb3
  ·
    have phb3 := of_decide_eq_true hb3
    refine s_bool ha (b := decide (((i : Nat) : Int) < ((xs.length : Nat) : Int))) true hb3 fun ac ha => ?_
    refine wpList_nil ((x_normal ?_))
    refine wp_seq ?_
    refine r_true ha ?_
    refine wp_skip ((x_normal ?_))
    refine wp_seq ?_
    refine wp_block ?_
    refine wp_seq ?_
    refine wp_region_lit ?_
    refine s_val ha (.int .i64 ((i : Nat) : Int)) fun ac ha => ?_
    obtain ⟨gl4, ol4, el4⟩ := (hs.get 1 rfl).at_ (by decide) (by omega)
    subst el4
    refine s_val ha (.pointer (some ⟨gl4, ol4 + i * 5, none⟩)) (fun ac ha => ?_) (hr := x_index (k := i) (len := xs.length) rfl (by omega))
    refine s_val ha (qV (xs.getD i 0)) (fun ac ha => ?_) (hr := x_loadQ (hs.get 1 rfl) (getD_some (xs := xs) (k := i) (by omega)))
    refine s_alloc ha hs [.bool false, .int .u64 0, .string (⟨#[]⟩), .int .u64 0, .string (⟨#[]⟩)] fun g5 ac wd ha hs => ?_
    refine s_val ha (.int .i64 ((i : Nat) : Int)) fun ac ha => ?_
    refine s_store ha hs 0 _ fun ac wd ha hs => ?_
    refine wpList_nil ((x_normal ?_))
    obtain ⟨gl6, ol6, el6⟩ := (hs.get 0 rfl).at_ (by decide) (by omega)
    subst el6
    refine region_sp ha 8 [.eq (qV (dotN xs ys i)), .eq (qV (xs.getD i 0)), .eq (.slice (some ⟨gl6, ol6, none⟩) ys.length c2), .eq (.int .i64 ((i : Nat) : Int)), .eq (.pointer (some ⟨gl6, ol6 + i * 5, none⟩)), .eq (qV (ys.getD i 0)), .eq (qV ((xs.getD i 0) * (ys.getD i 0))), .eq (qV ((dotN xs ys i) + ((xs.getD i 0) * (ys.getD i 0))))] [] [] (fun _ hb => by cases hb)
      ⟨d_load hs 1, d_load hs 0, d_val, d_val, d_val (hr := fun _ _ => x_index (k := i) (len := ys.length) rfl (by omega)), d_loadQ hs 0 (getD_some (xs := ys) (k := i) (by omega)), d_call (fun _ hw => fmul (hx i) (hy i) _ (htab.ext (hs.go hw).ext) (by omega)), d_call (fun _ hw => fadd (hx.dot (m := m) hy i (by omega)) ((hx i).mul (hy i)) _ (htab.ext (hs.go hw).ext) (by omega)), trivial⟩ ?_
    intro vv wd1 ac hw hG hN ha
    have ha := ha.sub [(0, .slice (some ⟨gl4, ol4, none⟩) xs.length c1), (1, .slice (some ⟨gl6, ol6, none⟩) ys.length c2), (4, .pointer (some ⟨g1, 0, none⟩)), (5, .bool false), (9, .slice (some ⟨gl4, ol4, none⟩) xs.length c1), (10, .int .i64 ((xs.length : Nat) : Int)), (11, .slice (some ⟨gl6, ol6, none⟩) ys.length c2), (12, .int .i64 ((ys.length : Nat) : Int)), (13, .bool false), (6, .pointer (some ⟨g2, 0, none⟩)), (15, .slice (some ⟨gl4, ol4, none⟩) xs.length c1), (16, .int .i64 ((xs.length : Nat) : Int)), (17, .int .i64 ((i : Nat) : Int)), (18, .bool true), (19, .int .i64 ((i : Nat) : Int)), (20, .pointer (some ⟨gl4, ol4 + i * 5, none⟩)), (21, qV (xs.getD i 0)), (8, .pointer (some ⟨g5, 0, none⟩)), (29, qV ((dotN xs ys i) + ((xs.getD i 0) * (ys.getD i 0))))]
    clear hG hN
    have hs := hs.go hw
    clear hw
    refine keeps_nil ?_
    show wpList _ _ _ _ _ _
    refine s_store ha hs 1 _ fun ac wd ha hs => ?_
    refine wpList_nil ((b_normal (x_normal ?_)))
    refine wp_region_lit ?_
    refine s_eq ha (.int .i64 ((i + 1 : Nat) : Int)) (wrap_succ (n := 1000000) (by omega)) fun ac ha => ?_
    refine s_val ha (.int .i64 ((i + 1 : Nat) : Int)) fun ac ha => ?_
    refine wpList_nil ((x_normal ?_))
    exact ⟨i + 1, ⟨ha.sub _, (hs.dropN 1).cast _, by omega⟩, by omega⟩
  ·
    have phb3 := of_decide_eq_false hb3
    refine s_bool ha (b := decide (((i : Nat) : Int) < ((xs.length : Nat) : Int))) false hb3 fun ac ha => ?_
    refine wpList_nil ((x_normal ?_))
    refine wp_seq ?_
    refine r_false ha ?_
    refine wp_exit (x_exit (x_exit (b_hit (x_normal ?_))))
    refine wp_seq ?_
    refine wp_region_lit ?_
    refine s_load ha hs 0 (qV (dotN xs ys i)) fun ac ha => ?_
    refine s_store ha hs 1 _ fun ac wd ha hs => ?_
    refine s_val ha (.bool true) fun ac ha => ?_
    refine wpList_nil ((x_normal ?_))
    refine wp_ret (ret_at ha hs rfl [qV (dotN xs ys i), .bool true] ⟨⟨1, _, _, _, rfl, rfl, by kernel_rfl⟩, rfl, trivial⟩ ?_)
    have hi : i = xs.length := by omega
    subst hi
    exact ⟨rfl, hs.ext⟩
  
end Go.Proofs.YtiloialbglfplaaGreatDoor

namespace Go.Proofs.YtiloialbglfplaaGreatDoor
open Go.RowKit

/-- The small fraction of a raw number. -/
def pa (n : Int) : Nat := (n % 41).toNat
def pb (n : Int) : Nat := (n.tdiv 41 % 6).toNat
def hR (n : Int) : Rat := (((((pa n : Nat) : Int) - 20 : Int)) : Rat) / ((((dd (pb n) : Nat) : Int)) : Rat)
abbrev I64 (n : Int) : Prop := -9223372036854775808 ≤ n ∧ n ≤ 9223372036854775807
theorem Els.next {α : Type} {p : α → List Value → World → Prop} {sz i : Nat} {f : Nat → α} {css : List (List Value)} {c : List Value} {w : World} (h : Els p sz ((List.range i).map f) css w) (hl : c.length = sz) (hp : p (f i) c w) : Els p sz ((List.range (i + 1)).map f) (css ++ [c]) w := by
  rw [List.range_succ, List.map_append]
  exact h.snoc hl hp
theorem GOk.tail {sz n c : Nat} {o : Option Nat} {C sp : List Value} (h : GOk sz o n c C sp) {e : TypeId} : Big (ownL e o (C ++ sp)) := by
  cases o with
  | none => exact Big.nil
  | some g => exact Big.cons h.big Big.nil
theorem map_next {α : Type} (g : Rat → α) (f : Nat → Rat) (i : Nat) : ((List.range (i + 1)).map f).map g = ((List.range i).map f).map g ++ [g (f i)] := by
  rw [List.range_succ, List.map_append, List.map_append]; rfl
theorem elsQ (ys : List Rat) (w : World) : Els pQ 5 ys (ys.map qC) w := ⟨by simp, fun k x c hx hc => by
  rw [List.getElem?_map, hx] at hc
  injection hc with hc
  subst hc
  exact ⟨rfl, rfl⟩⟩
theorem range_getD (xs : List Rat) : (List.range xs.length).map (fun i => xs.getD i 0) = xs := by
  apply List.ext_getElem?
  intro i
  rcases Nat.lt_or_ge i xs.length with h | h
  · rw [List.getElem?_map, List.getElem?_range h, getD_some (d := 0) h]; rfl
  · rw [List.getElem?_eq_none (by simpa using h), List.getElem?_eq_none h]
/-- The numbers of a list are numbers of 64 bits. -/
def In64 (l : List Int) : Prop := ∀ i, I64 (l.getD i 0)

set_option maxHeartbeats 1000000 in
theorem hinrow {k : Nat} {xs : List Rat} (hx : SqL k xs) {v1 : Value} (w : World) (q1 : RL xs v1 w) (htab : Tab64 w) (hk : k ≤ 100000000000) (hn : xs.length ≤ 1000000) : Calls Tryz.prog 11 #[v1] w (RetL (fun v => v) (QL xs) w) := by
  obtain ⟨A1, c1, rfl⟩ := q1.form
  have hs := St.start w
  have hs := hs.args easyR q1
  refine enter Tryz.func11 rfl Tryz.ntmps11 (by kernel_rfl) fun ac ha => ?_
  refine wp_seq ?_
  refine wp_region_lit ?_
  refine s_val ha (.slice none 0 0) fun ac ha => ?_
  refine wpList_nil ((x_normal ?_))
  refine wp_seq ?_
  refine wp_region_lit ?_
  refine s_val ha (.slice none 0 0) fun ac ha => ?_
  refine wpList_nil ((x_normal ?_))
  refine wp_seq ?_
  refine wp_seq ?_
  refine wp_region_lit ?_
  refine s_val ha (.int .i64 0) fun ac ha => ?_
  refine wpList_nil ((x_normal ?_))
  refine wp_block ?_
  refine loop_inv (α := Nat × Option Nat × Nat × List Value) (fun ⟨i, og, cg, sg⟩ ac wd => At ac _ [(0, .slice A1 xs.length c1), (2, .slice none 0 0), (3, gsl og i cg), (4, .int .i64 ((i : Nat) : Int))] ∧ St w wd ([] ++ ownL 34 og ((((List.range i).map (fun i => xs.getD i 0)).map qC).flatten ++ sg)) [RL xs (.slice A1 xs.length c1)] ∧ i ≤ xs.length ∧ GOk 5 og i cg (((List.range i).map (fun i => xs.getD i 0)).map qC).flatten sg) (fun ⟨i, og, cg, sg⟩ => xs.length - i) (0, none, 0, []) ⟨ha.sub _, (hs.factsIx [0] _).cast _, ⟨Nat.zero_le _, GOk.start 5⟩⟩ ?_
  rintro ⟨i, og, cg, sg⟩ ac wd ⟨ha, hs, hI⟩
  obtain ⟨hil, gk⟩ := hI
  refine wp_seq ?_
  refine wp_seq ?_
  refine wp_region_lit ?_
  refine s_val ha (.int .i64 ((i : Nat) : Int)) fun ac ha => ?_
  refine s_val ha (.slice A1 xs.length c1) fun ac ha => ?_
  refine s_val ha (.int .i64 ((xs.length : Nat) : Int)) fun ac ha => ?_
  rcases Bool.eq_false_or_eq_true (decide (((i : Nat) : Int) < ((xs.length : Nat) : Int))) with hb14 | hb14
  ·
    have phb14 := of_decide_eq_true hb14
    refine s_bool ha (b := decide (((i : Nat) : Int) < ((xs.length : Nat) : Int))) true hb14 fun ac ha => ?_
    refine wpList_nil ((x_normal ?_))
    refine r_true ha ?_
    refine wp_skip ((x_normal ?_))
    refine wp_seq ?_
    refine wp_block ?_
    refine wp_region_lit ?_
    refine s_val ha (gsl og i cg) fun ac ha => ?_
    refine s_val ha (.slice A1 xs.length c1) fun ac ha => ?_
    refine s_val ha (.int .i64 ((i : Nat) : Int)) fun ac ha => ?_
    obtain ⟨gl15, ol15, el15⟩ := (hs.get 0 rfl).at_ (by decide) (by omega)
    subst el15
    refine s_val ha (.pointer (some ⟨gl15, ol15 + i * 3, none⟩)) (fun ac ha => ?_) (hr := x_index (k := i) (len := xs.length) rfl (by omega))
    obtain ⟨ve16, he16, le16⟩ := RL.load (P := Tryz.prog) (t := 67) (hs.get 0 rfl) (by kernel_rfl) (getD_some (xs := xs) (k := i) (by omega))
    obtain ⟨Ai17, ci17, B17, d17, rfl, r17, t17⟩ := he16
    have hs := hs.addOwn ((r17).free _) (Big.app (Big.of []) gk.tail)
    have hs := hs.addOwn ((t17).free _) (Big.app (Big.of []) gk.tail)
    refine s_val ha (rqV (xs.getD i 0) Ai17 ci17 B17 d17) (fun ac ha => ?_) (hr := x_load (le16 _ (Ext.refl _)))
    refine s_call ha hs (qV (xs.getD i 0)) (hin (hx i) _ (RQ.mk (hs.get 1 rfl) (hs.get 0 rfl)) (htab.ext hs.ext) (by omega)) fun ac wd ha hs => ?_
    refine s_bslice ha hs [qV (xs.getD i 0)] [.bool (decide ((xs.getD i 0).num < 0)), .int .u64 (lo ((xs.getD i 0).num).natAbs : Nat), .string (hi ((xs.getD i 0).num).natAbs), .int .u64 (lo (d1 (xs.getD i 0).den) : Nat), .string (hi (d1 (xs.getD i 0).den))] (e := 34) (z := [.bool false, .int .u64 0, .string (⟨#[]⟩), .int .u64 0, .string (⟨#[]⟩)]) (sz := 5) (by_ := 56) (by kernel_rfl) fun g18 ac wd ha hs => ?_
    refine s_append ha hs [(g18, 34, [.bool (decide ((xs.getD i 0).num < 0)), .int .u64 (lo ((xs.getD i 0).num).natAbs : Nat), .string (hi ((xs.getD i 0).num).natAbs), .int .u64 (lo (d1 (xs.getD i 0).den) : Nat), .string (hi (d1 (xs.getD i 0).den))])] (e := 34) (by kernel_rfl) gk 0 (z := [.bool false, .int .u64 0, .string (⟨#[]⟩), .int .u64 0, .string (⟨#[]⟩)]) (sz := 5) (by_ := 56) (by kernel_rfl) (by omega) (by omega) fun og19 cg19 sg19 ac wd gk19 ha hs => ?_
    refine s_val ha (gsl og19 (i + 1) cg19) fun ac ha => ?_
    refine wpList_nil ((b_normal (x_normal ?_)))
    refine wp_region_lit ?_
    refine s_val ha (.int .i64 ((i : Nat) : Int)) fun ac ha => ?_
    refine s_eq ha (.int .i64 ((i + 1 : Nat) : Int)) (wrap_succ (n := 1000000) (by omega)) fun ac ha => ?_
    refine s_val ha (.int .i64 ((i + 1 : Nat) : Int)) fun ac ha => ?_
    refine wpList_nil ((x_normal ?_))
    rw [show ((List.range i).map (fun i => xs.getD i 0)).map qC ++ [[.bool (decide ((xs.getD i 0).num < 0)), .int .u64 (lo ((xs.getD i 0).num).natAbs : Nat), .string (hi ((xs.getD i 0).num).natAbs), .int .u64 (lo (d1 (xs.getD i 0).den) : Nat), .string (hi (d1 (xs.getD i 0).den))]] = ((List.range (i + 1)).map (fun i => xs.getD i 0)).map qC from (map_next qC _ i).symm] at hs gk19
    exact ⟨(i + 1, og19, cg19, sg19), ⟨ha.sub _, ((hs.dropN 1).factsIx [2] _).cast _, ⟨by omega, gk19⟩⟩, by show xs.length - (i + 1) < xs.length - i; omega⟩
  ·
    have phb14 := of_decide_eq_false hb14
    refine s_bool ha (b := decide (((i : Nat) : Int) < ((xs.length : Nat) : Int))) false hb14 fun ac ha => ?_
    refine wpList_nil ((x_normal ?_))
    refine r_false ha ?_
    refine wp_exit (x_exit (x_exit (b_hit (x_normal ?_))))
    refine wp_seq ?_
    refine wp_region_lit ?_
    refine s_val ha (gsl og i cg) fun ac ha => ?_
    refine s_val ha (gsl og i cg) fun ac ha => ?_
    refine wpList_nil ((x_normal ?_))
    refine wp_ret (ret_at ha hs rfl [gsl og i cg] ⟨rfl, trivial⟩ ?_)
    have hin : i = xs.length := by omega
    subst hin
    rw [range_getD] at hs gk
    exact ⟨_, rfl, ⟨_, rfl, LL.grown hs [] (e := 34) (by kernel_rfl) gk easyQ (elsQ xs _) rfl⟩, hs.ext⟩
end Go.Proofs.YtiloialbglfplaaGreatDoor

namespace Go.Proofs.YtiloialbglfplaaGreatDoor
open Go.ChangeShapes Go.WideShapes Go.ChangeAt Go.RowKit

end Go.Proofs.YtiloialbglfplaaGreatDoor
