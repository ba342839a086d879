/- Walks over the document's whole numbers, and over hand. (Printed by walks/z2.py.) Walks over law2: two, is. (Printed by walks/z3.py.) The numbers of Bezout: what the loop comes to. Walks over Bezout. (Printed by walks/z4.py.) Walks: the texts of some whole numbers of one digit. Walks over law2: known. (Printed by walks/z5.py.) -/
import Derived.Test.YtiloialbglfplaaGreatDoorB8
namespace Go.Proofs.YtiloialbglfplaaGreatDoor
open Go.RowKit

theorem nl_gt {n : Nat} {c : Bool} (h : decide (((nl n : Nat) : Int) > 0) = c) : decide (0 < n) = c := by
  rw [← h]
  exact decide_eq_decide.2 (nl_pos n).symm
theorem Sm.sg {k n : Nat} (b : Bool) (h : Sm k n) : Sm k (sg b n).natAbs := by rw [sg_abs]; exact h
theorem Sm.i64 {n : Int} (h1 : -9223372036854775808 ≤ n) (h2 : n ≤ 9223372036854775807) : Sm 64 n.natAbs := bl_le (by omega)
theorem crdiv2 {j k a b : Nat} (ha : Sm j a) (hb : Sm k b) (h0 : b ≠ 0) {v1 v2 : Value} (W : World) (h1 : R32 a v1 W) (h2 : R32 b v2 W) (h : max j k ≤ 137438953472) : Calls Tryz.prog 130 #[v1, v2] W (RetS (R2 (a / b) (a % b)) W) :=
  (refDiv_any a b v1 v2 W h1 h2 (by unfold Sm at ha; omega) (by unfold Sm at hb; omega) h0).mono fun _ _ ⟨x, y, h1, h2, h3, h4⟩ => ⟨_, h1, ⟨x, y, rfl, h2, h3⟩, h4⟩
theorem crcmp_eq {j k a b : Nat} (ha : Sm j a) (hb : Sm k b) (e : a = b) {v1 v2 : Value} (W : World) (h1 : R32 a v1 W) (h2 : R32 b v2 W) (h : max j k ≤ 549755813888) : Calls Tryz.prog 74 #[v1, v2] W (Ret (.int .i64 0) W) := by
  have h := crcmp ha hb W h1 h2 h
  rw [show cmpN a b = 0 from by subst e; unfold cmpN; simp] at h
  exact h
theorem crcmp_lt {j k a b : Nat} (ha : Sm j a) (hb : Sm k b) (e : a < b) {v1 v2 : Value} (W : World) (h1 : R32 a v1 W) (h2 : R32 b v2 W) (h : max j k ≤ 549755813888) : Calls Tryz.prog 74 #[v1, v2] W (Ret (.int .i64 (-1)) W) := by
  have h := crcmp ha hb W h1 h2 h
  rw [cmpN_lt e] at h
  exact h
theorem crcmp_gt {j k a b : Nat} (ha : Sm j a) (hb : Sm k b) (e : b < a) {v1 v2 : Value} (W : World) (h1 : R32 a v1 W) (h2 : R32 b v2 W) (h : max j k ≤ 549755813888) : Calls Tryz.prog 74 #[v1, v2] W (Ret (.int .i64 1) W) := by
  have h := crcmp ha hb W h1 h2 h
  rw [cmpN_gt e] at h
  exact h
theorem chnat {k n : Nat} (hn : Sm k n) {v : Value} (W : World) (h : R32 n v W) (hk : k ≤ 549755813888) : Calls Tryz.prog 122 #[v] W (Ret (nV n) W) := handNat_any n (by unfold Sm at hn; omega) v W h
theorem cbytes {k n : Nat} (hn : Sm k n) (W : World) (hk : k ≤ 549755813888) : Calls Tryz.prog 133 #[nV n] W (RetS (SlB (beB n)) W) :=
  (bytes_any n (by unfold Sm at hn; omega) W).mono fun _ _ ⟨v, h1, h2, h3⟩ => ⟨v, h1, SlB.of_at (by rw [beB_length]; unfold nb; unfold Sm at hn; omega) h2, h3⟩
theorem crfrom_beB {k n : Nat} (hn : Sm k n) {v : Value} (W : World) (h : SlB (beB n) v W) (hk : k ≤ 549755813888) : Calls Tryz.prog 66 #[v] W (RetS (R32 n) W) := by
  have h := refFrom_any (beB n) v W (by rw [beB_length]; unfold nb; unfold Sm at hn; omega) h
  rw [beN_beB] at h
  exact h
theorem neg_conv {n : Int} (h : n < 0) (h1 : -9223372036854775808 ≤ n) : Value.int .u64 (IntKind.u64.wrap (0 - IntKind.u64.wrap n)) = .int .u64 ((n.natAbs : Nat) : Int) := by
  have e : ∀ z, IntKind.u64.wrap z = z % 18446744073709551616 := fun z => rfl
  rw [e, e]
  congr 1
  omega
theorem pos_conv {n : Int} (h : ¬ n < 0) (h1 : n ≤ 9223372036854775807) : Value.int .u64 (IntKind.u64.wrap n) = .int .u64 ((n.natAbs : Nat) : Int) := by
  have e : ∀ z, IntKind.u64.wrap z = z % 18446744073709551616 := fun z => rfl
  rw [e]
  congr 1
  omega
theorem ri_sg {b : Bool} {n : Nat} {A : Option Addr} {c : Nat} {e : Bool} (h : (b && decide (0 < n)) = e) : Value.agg #[.bool e, .slice A (nl n) c] = riV (sg b n) A c := by
  unfold riV
  rw [sg_neg, sg_abs, h]
theorem nl_eq0 {n : Nat} (h : ((nl n : Nat) : Int) = 0) : n = 0 := by
  have := nl_pos n
  omega
theorem nl_ne0 {n : Nat} (h : ((nl n : Nat) : Int) ≠ 0) : n ≠ 0 := by
  rintro rfl
  unfold nl at h
  rw [limbs_zero] at h
  exact h rfl
theorem sign_cmp (x y : Int) : (x - y).sign = cmpZ x y := by
  unfold cmpZ
  split
  · rw [Int.sign_eq_neg_one_of_neg (by omega)]
  · split
    · rw [show x - y = 0 from by omega]; rfl
    · rw [Int.sign_eq_one_of_pos (by omega)]
theorem sign_lt (x : Int) : x.sign < 0 ↔ x < 0 := by
  rcases Int.lt_trichotomy x 0 with h | h | h
  · rw [Int.sign_eq_neg_one_of_neg h]; omega
  · rw [h]; simp
  · rw [Int.sign_eq_one_of_pos h]; omega
theorem of_val {n : Int} {b : Bool} (h : decide (n < 0) = b) : Ending.returned (pack [.agg #[.bool b, .int .u64 (lo n.natAbs : Nat), .string (hi n.natAbs)]]) = .returned (zV n) := by subst h; rfl
theorem ret_ri2 {x y x' y' : Int} {A B : Option Addr} {c d : Nat} {w w' : World} (h : x = x' ∧ y = y') (e : Ext w w') (hx : R32 x.natAbs (.slice A (nl x.natAbs) c) w') (hy : R32 y.natAbs (.slice B (nl y.natAbs) d) w') : RetS (RI2 x' y') w (.returned (pack [riV x A c, riV y B d])) w' := by
  obtain ⟨rfl, rfl⟩ := h
  exact ⟨_, rfl, ⟨_, _, rfl, RI.mk hx, RI.mk hy⟩, e⟩
theorem fm_sub {x y q r : Int} (h : q = x.fdiv y ∧ r = x.fmod y) : q = x.fdiv y ∧ x - q * y = x.fmod y := by
  refine ⟨h.1, ?_⟩
  have := Int.fmod_add_fdiv_mul x y
  rw [← h.1] at this
  omega
theorem rd_pos {x y : Int} (h0 : y ≠ 0) (b : Bool) (hx : decide (x < 0) = b) (hy : decide (y < 0) = b) : ((x.natAbs / y.natAbs : Nat) : Int) = x.fdiv y ∧ x - ((x.natAbs / y.natAbs : Nat) : Int) * y = x.fmod y := fm_sub (fd_pos h0 b hx hy)
theorem rd_neg0 {x y : Int} (h0 : y ≠ 0) (b c : Bool) (hx : decide (x < 0) = b) (hy : decide (y < 0) = c) (hbc : (b != c) = true) (hr : x.natAbs % y.natAbs = 0) : -((x.natAbs / y.natAbs : Nat) : Int) = x.fdiv y ∧ x - -((x.natAbs / y.natAbs : Nat) : Int) * y = x.fmod y := fm_sub (fd_neg0 h0 b c hx hy hbc hr)
theorem rd_neg1 {x y : Int} (h0 : y ≠ 0) (b c : Bool) (hx : decide (x < 0) = b) (hy : decide (y < 0) = c) (hbc : (b != c) = true) (hr : 0 < x.natAbs % y.natAbs) : (-((x.natAbs / y.natAbs : Nat) : Int)) - 1 = x.fdiv y ∧ x - ((-((x.natAbs / y.natAbs : Nat) : Int)) - 1) * y = x.fmod y := by
  have h := fd_neg1 h0 b c hx hy hbc hr
  rw [show -((x.natAbs / y.natAbs + 1 : Nat) : Int) = (-((x.natAbs / y.natAbs : Nat) : Int)) - 1 from by omega] at h
  exact fm_sub h
theorem ret_ri {x y : Int} {A : Option Addr} {c : Nat} {w w' : World} (h : x = y) (e : Ext w w') (hR : R32 x.natAbs (.slice A (nl x.natAbs) c) w') : RetS (RI y) w (.returned (pack [riV x A c])) w' := by subst h; exact ⟨_, rfl, RI.mk hR, e⟩

set_option maxHeartbeats 1000000 in
theorem ri_any (b : Bool) {n : Nat} {v : Value} (w : World) (h1 : R32 n v w) : Calls Tryz.prog 65 #[.bool b, v] w (RetS (RI (sg b n)) w) := by
  obtain ⟨A1, c1, rfl⟩ := h1.form
  have hs := St.start w
  have hs := hs.add32 h1 (by kernel_rfl)
  refine enter Tryz.func65 rfl Tryz.ntmps65 (by kernel_rfl) fun ac ha => ?_
  refine wp_seq ?_
  refine wp_region_lit ?_
  refine s_alloc ha hs [.bool false, .slice none 0 0] fun g1 ac wd ha hs => ?_
  refine wpList_nil ((x_normal ?_))
  refine wp_seq ?_
  refine wp_region_lit ?_
  refine s_val ha (.bool b) fun ac ha => ?_
  refine s_val ha (.bool b) fun ac ha => ?_
  cases b
  ·
    refine s_not ha fun ac ha => ?_
    refine s_not ha fun ac ha => ?_
    refine s_not ha fun ac ha => ?_
    refine s_val ha (.bool false) fun ac ha => ?_
    refine s_val ha (.slice A1 (nl n) c1) fun ac ha => ?_
    refine s_val ha (.agg #[.bool false, .slice A1 (nl n) c1]) fun ac ha => ?_
    refine s_store ha hs 0 _ fun ac wd ha hs => ?_
    refine wpList_nil ((x_normal ?_))
    refine wp_ret (ret_at ha hs rfl [.agg #[.bool false, .slice A1 (nl n) c1]] ⟨⟨0, _, _, _, rfl, rfl, by kernel_rfl⟩, trivial⟩ ?_)
    exact ⟨_, rfl, by rw [pack, ri_sg (b := false) (n := n) (by rfl)]; exact RI.mk (by rw [sg_abs]; exact hs.get 0 rfl), hs.ext⟩
  ·
    refine s_val ha (.slice A1 (nl n) c1) fun ac ha => ?_
    refine s_val ha (.int .i64 ((nl n : Nat) : Int)) fun ac ha => ?_
    rcases Bool.eq_false_or_eq_true (decide (((nl n : Nat) : Int) > 0)) with hb2 | hb2
    ·
      have phb2 := of_decide_eq_true hb2
      refine s_bool ha (b := decide (((nl n : Nat) : Int) > 0)) true hb2 fun ac ha => ?_
      refine s_val ha (.bool true) fun ac ha => ?_
      refine s_val ha (.slice A1 (nl n) c1) fun ac ha => ?_
      refine s_val ha (.agg #[.bool true, .slice A1 (nl n) c1]) fun ac ha => ?_
      refine s_store ha hs 0 _ fun ac wd ha hs => ?_
      refine wpList_nil ((x_normal ?_))
      refine wp_ret (ret_at ha hs rfl [.agg #[.bool true, .slice A1 (nl n) c1]] ⟨⟨0, _, _, _, rfl, rfl, by kernel_rfl⟩, trivial⟩ ?_)
      exact ⟨_, rfl, by rw [pack, ri_sg (b := true) (n := n) (by rw [Bool.true_and]; exact nl_gt hb2)]; exact RI.mk (by rw [sg_abs]; exact hs.get 0 rfl), hs.ext⟩
    ·
      have phb2 := of_decide_eq_false hb2
      refine s_bool ha (b := decide (((nl n : Nat) : Int) > 0)) false hb2 fun ac ha => ?_
      refine s_val ha (.bool false) fun ac ha => ?_
      refine s_val ha (.slice A1 (nl n) c1) fun ac ha => ?_
      refine s_val ha (.agg #[.bool false, .slice A1 (nl n) c1]) fun ac ha => ?_
      refine s_store ha hs 0 _ fun ac wd ha hs => ?_
      refine wpList_nil ((x_normal ?_))
      refine wp_ret (ret_at ha hs rfl [.agg #[.bool false, .slice A1 (nl n) c1]] ⟨⟨0, _, _, _, rfl, rfl, by kernel_rfl⟩, trivial⟩ ?_)
      exact ⟨_, rfl, by rw [pack, ri_sg (b := true) (n := n) (by rw [Bool.true_and]; exact nl_gt hb2)]; exact RI.mk (by rw [sg_abs]; exact hs.get 0 rfl), hs.ext⟩
  
set_option maxHeartbeats 1000000 in
theorem rineg {k : Nat} {x : Int} (_hx : Sm k x.natAbs) {v1 : Value} (w : World) (q1 : RI x v1 w) : Calls Tryz.prog 129 #[v1] w (RetS (RI (-x)) w) := by
  obtain ⟨A1, c1, rfl, r1⟩ := q1
  have hs := St.start w
  have hs := hs.add32 r1 (by kernel_rfl)
  refine enter Tryz.func129 rfl Tryz.ntmps129 (by kernel_rfl) fun ac ha => ?_
  refine wp_seq ?_
  refine wp_region_lit ?_
  refine s_box ha hs [.bool (decide (x < 0)), .slice A1 (nl x.natAbs) c1] fun g3 ac wd ha hs => ?_
  refine s_alloc ha hs [.bool false, .slice none 0 0] fun g4 ac wd ha hs => ?_
  refine wpList_nil ((x_normal ?_))
  refine wp_seq ?_
  refine wp_region_lit ?_
  refine s_val ha (.pointer (some ⟨g3, 0, none⟩)) fun ac ha => ?_
  rcases Bool.eq_false_or_eq_true (decide (x < 0)) with hb5 | hb5
  ·
    have phb5 := of_decide_eq_true hb5
    refine s_loadb ha hs 1 true hb5 fun ac ha => ?_
    refine s_val ha (.bool false) fun ac ha => ?_
    refine s_val ha (.pointer (some ⟨g3, 1, none⟩)) fun ac ha => ?_
    refine s_load ha hs 1 (.slice A1 (nl x.natAbs) c1) fun ac ha => ?_
    refine s_callP ha hs (ri_any false _ (hs.get 0 rfl)) fun u ac wd hp ha hs => ?_
    obtain ⟨Ai6, ci6, rfl, r6⟩ := hp
    have hs := hs.add32 r6 (by kernel_rfl)
    refine s_store ha hs 0 _ fun ac wd ha hs => ?_
    refine wpList_nil ((x_normal ?_))
    refine wp_ret (ret_at ha hs rfl [riV ((x.natAbs : Nat) : Int) Ai6 ci6] ⟨⟨0, _, _, _, rfl, rfl, by kernel_rfl⟩, trivial⟩ ?_)
    exact ret_ri (by omega) hs.ext (hs.get 0 rfl)
  ·
    have phb5 := of_decide_eq_false hb5
    refine s_loadb ha hs 1 false hb5 fun ac ha => ?_
    refine s_val ha (.bool true) fun ac ha => ?_
    refine s_val ha (.pointer (some ⟨g3, 1, none⟩)) fun ac ha => ?_
    refine s_load ha hs 1 (.slice A1 (nl x.natAbs) c1) fun ac ha => ?_
    refine s_callP ha hs (ri_any true _ (hs.get 0 rfl)) fun u ac wd hp ha hs => ?_
    obtain ⟨Ai7, ci7, rfl, r7⟩ := hp
    have hs := hs.add32 r7 (by kernel_rfl)
    refine s_store ha hs 0 _ fun ac wd ha hs => ?_
    refine wpList_nil ((x_normal ?_))
    refine wp_ret (ret_at ha hs rfl [riV (-((x.natAbs : Nat) : Int)) Ai7 ci7] ⟨⟨0, _, _, _, rfl, rfl, by kernel_rfl⟩, trivial⟩ ?_)
    exact ret_ri (by omega) hs.ext (hs.get 0 rfl)
  
set_option maxHeartbeats 1000000 in
theorem risign {x : Int} {v1 : Value} (w : World) (q1 : RI x v1 w) : Calls Tryz.prog 126 #[v1] w (Ret (.int .i64 x.sign) w) := by
  obtain ⟨A1, c1, rfl, r1⟩ := q1
  have hs := St.start w
  have hs := hs.add32 r1 (by kernel_rfl)
  refine enter Tryz.func126 rfl Tryz.ntmps126 (by kernel_rfl) fun ac ha => ?_
  refine wp_seq ?_
  refine wp_region_lit ?_
  refine s_box ha hs [.bool (decide (x < 0)), .slice A1 (nl x.natAbs) c1] fun g8 ac wd ha hs => ?_
  refine s_val ha (.int .i64 0) fun ac ha => ?_
  refine wpList_nil ((x_normal ?_))
  refine wp_seq ?_
  refine wp_block ?_
  refine wp_seq ?_
  refine wp_region_lit ?_
  refine s_val ha (.pointer (some ⟨g8, 1, none⟩)) fun ac ha => ?_
  refine s_load ha hs 0 (.slice A1 (nl x.natAbs) c1) fun ac ha => ?_
  refine s_val ha (.int .i64 ((nl x.natAbs : Nat) : Int)) fun ac ha => ?_
  rcases Bool.eq_false_or_eq_true ((((nl x.natAbs : Nat) : Int) == 0)) with hb9 | hb9
  ·
    have phb9 := eq_of_beq hb9
    refine s_bool ha (b := (((nl x.natAbs : Nat) : Int) == 0)) true hb9 fun ac ha => ?_
    refine s_val ha (.bool true) fun ac ha => ?_
    refine wpList_nil ((x_normal ?_))
    refine r_true ha ?_
    refine wp_seq ?_
    refine wp_region_lit ?_
    refine s_val ha (.int .i64 0) fun ac ha => ?_
    refine wpList_nil ((x_normal ?_))
    refine wp_ret (b_ret (x_ret (ret_at ha hs rfl [.int .i64 0] ⟨rfl, trivial⟩ ?_)))
    exact ret_i (by have := nl_eq0 phb9; first | rw [Int.sign_eq_neg_one_of_neg (by omega)] | rw [Int.sign_eq_one_of_pos (by omega)] | rw [show x = 0 from by omega]; rfl) hs.ext
  ·
    have phb9 := beq_eq_false_iff_ne.1 hb9
    refine s_bool ha (b := (((nl x.natAbs : Nat) : Int) == 0)) false hb9 fun ac ha => ?_
    refine s_val ha (.bool false) fun ac ha => ?_
    refine wpList_nil ((x_normal ?_))
    refine r_false ha ?_
    refine wp_seq ?_
    refine wp_region_lit ?_
    refine s_val ha (.pointer (some ⟨g8, 0, none⟩)) fun ac ha => ?_
    rcases Bool.eq_false_or_eq_true (decide (x < 0)) with hb10 | hb10
    ·
      have phb10 := of_decide_eq_true hb10
      refine s_loadb ha hs 0 true hb10 fun ac ha => ?_
      refine s_val ha (.bool true) fun ac ha => ?_
      refine wpList_nil ((x_normal ?_))
      refine r_true ha ?_
      refine wp_seq ?_
      refine wp_region_lit ?_
      refine s_val ha (.int .i64 (-1)) fun ac ha => ?_
      refine wpList_nil ((x_normal ?_))
      refine wp_ret (b_ret (x_ret (ret_at ha hs rfl [.int .i64 (-1)] ⟨rfl, trivial⟩ ?_)))
      exact ret_i (by have := nl_ne0 phb9; first | rw [Int.sign_eq_neg_one_of_neg (by omega)] | rw [Int.sign_eq_one_of_pos (by omega)] | rw [show x = 0 from by omega]; rfl) hs.ext
    ·
      have phb10 := of_decide_eq_false hb10
      refine s_loadb ha hs 0 false hb10 fun ac ha => ?_
      refine s_val ha (.bool false) fun ac ha => ?_
      refine wpList_nil ((x_normal ?_))
      refine r_false ha ?_
      refine wp_skip ((b_normal (x_normal ?_)))
      refine wp_seq ?_
      refine wp_region_lit ?_
      refine s_val ha (.int .i64 1) fun ac ha => ?_
      refine wpList_nil ((x_normal ?_))
      refine wp_ret (ret_at ha hs rfl [.int .i64 1] ⟨rfl, trivial⟩ ?_)
      exact ret_i (by have := nl_ne0 phb9; first | rw [Int.sign_eq_neg_one_of_neg (by omega)] | rw [Int.sign_eq_one_of_pos (by omega)] | rw [show x = 0 from by omega]; rfl) hs.ext
  
set_option maxHeartbeats 1000000 in
theorem riadd {j k : Nat} {x y : Int} (hx : Sm j x.natAbs) (hy : Sm k y.natAbs) {v1 v2 : Value} (w : World) (q1 : RI x v1 w) (q2 : RI y v2 w) (hk : max j k ≤ 549755813887) : Calls Tryz.prog 153 #[v1, v2] w (RetS (RI (x + y)) w) := by
  obtain ⟨A1, c1, rfl, r1⟩ := q1
  obtain ⟨A2, c2, rfl, r2⟩ := q2
  have hs := St.start w
  have hs := hs.add32 r1 (by kernel_rfl)
  have hs := hs.add32 r2 (by kernel_rfl)
  refine enter Tryz.func153 rfl Tryz.ntmps153 (by kernel_rfl) fun ac ha => ?_
  refine wp_seq ?_
  refine wp_region_lit ?_
  refine s_box ha hs [.bool (decide (x < 0)), .slice A1 (nl x.natAbs) c1] fun g11 ac wd ha hs => ?_
  refine s_box ha hs [.bool (decide (y < 0)), .slice A2 (nl y.natAbs) c2] fun g12 ac wd ha hs => ?_
  refine s_alloc ha hs [.bool false, .slice none 0 0] fun g13 ac wd ha hs => ?_
  refine wpList_nil ((x_normal ?_))
  refine wp_seq ?_
  refine wp_seq ?_
  refine wp_region_lit ?_
  refine s_val ha (.pointer (some ⟨g11, 0, none⟩)) fun ac ha => ?_
  rcases Bool.eq_false_or_eq_true (decide (x < 0)) with hb14 | hb14
  ·
    have phb14 := of_decide_eq_true hb14
    refine s_loadb ha hs 2 true hb14 fun ac ha => ?_
    refine s_val ha (.pointer (some ⟨g12, 0, none⟩)) fun ac ha => ?_
    rcases Bool.eq_false_or_eq_true (decide (y < 0)) with hb15 | hb15
    ·
      have phb15 := of_decide_eq_true hb15
      refine s_loadb ha hs 1 true hb15 fun ac ha => ?_
      refine s_val ha (.bool true) fun ac ha => ?_
      refine wpList_nil ((x_normal ?_))
      refine r_true ha ?_
      refine wp_seq ?_
      refine region_sp ha 8 [.eq (.pointer (some ⟨g11, 0, none⟩)), .eq (.bool true), .eq (.pointer (some ⟨g11, 1, none⟩)), .eq (.slice A1 (nl x.natAbs) c1), .eq (.pointer (some ⟨g12, 1, none⟩)), .eq (.slice A2 (nl y.natAbs) c2), .pr (R32 (x.natAbs + y.natAbs)) fun _ _ _ e h => h.ext e, .pr (RI (-((x.natAbs + y.natAbs : Nat) : Int))) fun _ _ _ e h => h.ext e] [] [] (fun _ hb => by cases hb)
        ⟨d_val, d_loadb hs 2 hb14, d_val, d_load hs 2, d_val, d_load hs 1, d_callP (fun u => #[.slice A1 (nl x.natAbs) c1, .slice A2 (nl y.natAbs) c2]) (fun u _ hw hj => cradd hx hy _ ((hs.go hw).get 1 rfl) ((hs.go hw).get 0 rfl) (by omega)), d_callP (fun u => #[.bool true, u 6]) (fun u _ hw hj => ri_any true _ (hj 6 (by kernel_rfl))), trivial⟩ ?_
      intro vv wd1 ac hw hG hN ha
      have ha := ha.sub [(0, riV x A1 c1), (1, riV y A2 c2), (2, .pointer (some ⟨g11, 0, none⟩)), (3, .pointer (some ⟨g12, 0, none⟩)), (4, .pointer (some ⟨g13, 0, none⟩)), (5, .pointer (some ⟨g11, 0, none⟩)), (6, .bool true), (7, .pointer (some ⟨g12, 0, none⟩)), (8, .bool true), (9, .bool true), (17, vv 7)]
      have h_7 : (RI (-((x.natAbs + y.natAbs : Nat) : Int))) (vv 7) wd1 := hG 7 17 (by decide) rfl
      clear hG hN
      have hs := hs.go hw
      obtain ⟨Ai17, ci17, e17, r17⟩ := h_7
      rw [e17] at ha
      clear e17
      have hs := hs.add32 r17 (by kernel_rfl)
      clear hw
      refine keeps_nil ?_
      show wpList _ _ _ _ _ _
      refine s_store ha hs 0 _ fun ac wd ha hs => ?_
      refine wpList_nil ((x_normal ?_))
      refine wp_ret (x_ret (ret_at ha hs rfl [riV (-((x.natAbs + y.natAbs : Nat) : Int)) Ai17 ci17] ⟨⟨0, _, _, _, rfl, rfl, by kernel_rfl⟩, trivial⟩ ?_))
      exact ret_ri (by omega) hs.ext (hs.get 0 rfl)
    ·
      have phb15 := of_decide_eq_false hb15
      refine s_loadb ha hs 1 false hb15 fun ac ha => ?_
      refine s_val ha (.bool false) fun ac ha => ?_
      refine wpList_nil ((x_normal ?_))
      refine r_false ha ?_
      refine wp_skip ((x_normal ?_))
      refine wp_seq ?_
      refine wp_seq ?_
      refine wp_region_lit ?_
      refine s_val ha (.pointer (some ⟨g11, 1, none⟩)) fun ac ha => ?_
      refine s_load ha hs 2 (.slice A1 (nl x.natAbs) c1) fun ac ha => ?_
      refine s_val ha (.pointer (some ⟨g12, 1, none⟩)) fun ac ha => ?_
      refine s_load ha hs 1 (.slice A2 (nl y.natAbs) c2) fun ac ha => ?_
      rcases Bool.eq_false_or_eq_true (decide (x.natAbs < y.natAbs)) with hb18 | hb18
      ·
        have phb18 := of_decide_eq_true hb18
        refine s_call ha hs (.int .i64 (-1)) (crcmp_lt hx hy (of_decide_eq_true hb18) _ (hs.get 1 rfl) (hs.get 0 rfl) (by omega)) fun ac wd ha hs => ?_
        refine s_val ha (.bool false) fun ac ha => ?_
        refine wpList_nil ((x_normal ?_))
        refine r_false ha ?_
        refine wp_skip ((x_normal ?_))
        refine wp_seq ?_
        refine region_sp ha 8 [.eq (.pointer (some ⟨g12, 0, none⟩)), .eq (.bool false), .eq (.pointer (some ⟨g12, 1, none⟩)), .eq (.slice A2 (nl y.natAbs) c2), .eq (.pointer (some ⟨g11, 1, none⟩)), .eq (.slice A1 (nl x.natAbs) c1), .pr (R32 (y.natAbs - x.natAbs)) fun _ _ _ e h => h.ext e, .pr (RI ((y.natAbs - x.natAbs : Nat) : Int)) fun _ _ _ e h => h.ext e] [] [] (fun _ hb => by cases hb)
          ⟨d_val, d_loadb hs 1 hb15, d_val, d_load hs 1, d_val, d_load hs 2, d_callP (fun u => #[.slice A2 (nl y.natAbs) c2, .slice A1 (nl x.natAbs) c1]) (fun u _ hw hj => crsub hy (Nat.le_of_lt (of_decide_eq_true hb18)) _ ((hs.go hw).get 0 rfl) ((hs.go hw).get 1 rfl) (by omega)), d_callP (fun u => #[.bool false, u 6]) (fun u _ hw hj => ri_any false _ (hj 6 (by kernel_rfl))), trivial⟩ ?_
        intro vv wd1 ac hw hG hN ha
        have ha := ha.sub [(0, riV x A1 c1), (1, riV y A2 c2), (2, .pointer (some ⟨g11, 0, none⟩)), (3, .pointer (some ⟨g12, 0, none⟩)), (4, .pointer (some ⟨g13, 0, none⟩)), (5, .pointer (some ⟨g11, 0, none⟩)), (6, .bool true), (7, .pointer (some ⟨g12, 0, none⟩)), (8, .bool false), (9, .bool false), (18, .pointer (some ⟨g11, 1, none⟩)), (19, .slice A1 (nl x.natAbs) c1), (20, .pointer (some ⟨g12, 1, none⟩)), (21, .slice A2 (nl y.natAbs) c2), (22, .int .i64 (-1)), (23, .bool false), (39, vv 7)]
        have h_7 : (RI ((y.natAbs - x.natAbs : Nat) : Int)) (vv 7) wd1 := hG 7 39 (by decide) rfl
        clear hG hN
        have hs := hs.go hw
        obtain ⟨Ai20, ci20, e20, r20⟩ := h_7
        rw [e20] at ha
        clear e20
        have hs := hs.add32 r20 (by kernel_rfl)
        clear hw
        refine keeps_nil ?_
        show wpList _ _ _ _ _ _
        refine s_store ha hs 0 _ fun ac wd ha hs => ?_
        refine wpList_nil ((x_normal ?_))
        refine wp_ret (ret_at ha hs rfl [riV ((y.natAbs - x.natAbs : Nat) : Int) Ai20 ci20] ⟨⟨0, _, _, _, rfl, rfl, by kernel_rfl⟩, trivial⟩ ?_)
        exact ret_ri (by omega) hs.ext (hs.get 0 rfl)
      ·
        have phb18 := of_decide_eq_false hb18
        rcases Bool.eq_false_or_eq_true (decide (x.natAbs = y.natAbs)) with hb21 | hb21
        ·
          have phb21 := of_decide_eq_true hb21
          refine s_call ha hs (.int .i64 0) (crcmp_eq hx hy (of_decide_eq_true hb21) _ (hs.get 1 rfl) (hs.get 0 rfl) (by omega)) fun ac wd ha hs => ?_
          refine s_val ha (.bool true) fun ac ha => ?_
          refine wpList_nil ((x_normal ?_))
          refine r_true ha ?_
          refine wp_seq ?_
          refine region_sp ha 8 [.eq (.pointer (some ⟨g11, 0, none⟩)), .eq (.bool true), .eq (.pointer (some ⟨g11, 1, none⟩)), .eq (.slice A1 (nl x.natAbs) c1), .eq (.pointer (some ⟨g12, 1, none⟩)), .eq (.slice A2 (nl y.natAbs) c2), .pr (R32 (x.natAbs - y.natAbs)) fun _ _ _ e h => h.ext e, .pr (RI (-((x.natAbs - y.natAbs : Nat) : Int))) fun _ _ _ e h => h.ext e] [] [] (fun _ hb => by cases hb)
            ⟨d_val, d_loadb hs 2 hb14, d_val, d_load hs 2, d_val, d_load hs 1, d_callP (fun u => #[.slice A1 (nl x.natAbs) c1, .slice A2 (nl y.natAbs) c2]) (fun u _ hw hj => crsub hx (Nat.le_of_not_lt (of_decide_eq_false hb18)) _ ((hs.go hw).get 1 rfl) ((hs.go hw).get 0 rfl) (by omega)), d_callP (fun u => #[.bool true, u 6]) (fun u _ hw hj => ri_any true _ (hj 6 (by kernel_rfl))), trivial⟩ ?_
          intro vv wd1 ac hw hG hN ha
          have ha := ha.sub [(0, riV x A1 c1), (1, riV y A2 c2), (2, .pointer (some ⟨g11, 0, none⟩)), (3, .pointer (some ⟨g12, 0, none⟩)), (4, .pointer (some ⟨g13, 0, none⟩)), (5, .pointer (some ⟨g11, 0, none⟩)), (6, .bool true), (7, .pointer (some ⟨g12, 0, none⟩)), (8, .bool false), (9, .bool false), (18, .pointer (some ⟨g11, 1, none⟩)), (19, .slice A1 (nl x.natAbs) c1), (20, .pointer (some ⟨g12, 1, none⟩)), (21, .slice A2 (nl y.natAbs) c2), (22, .int .i64 0), (23, .bool true), (31, vv 7)]
          have h_7 : (RI (-((x.natAbs - y.natAbs : Nat) : Int))) (vv 7) wd1 := hG 7 31 (by decide) rfl
          clear hG hN
          have hs := hs.go hw
          obtain ⟨Ai23, ci23, e23, r23⟩ := h_7
          rw [e23] at ha
          clear e23
          have hs := hs.add32 r23 (by kernel_rfl)
          clear hw
          refine keeps_nil ?_
          show wpList _ _ _ _ _ _
          refine s_store ha hs 0 _ fun ac wd ha hs => ?_
          refine wpList_nil ((x_normal ?_))
          refine wp_ret (x_ret (ret_at ha hs rfl [riV (-((x.natAbs - y.natAbs : Nat) : Int)) Ai23 ci23] ⟨⟨0, _, _, _, rfl, rfl, by kernel_rfl⟩, trivial⟩ ?_))
          exact ret_ri (by omega) hs.ext (hs.get 0 rfl)
        ·
          have phb21 := of_decide_eq_false hb21
          refine s_call ha hs (.int .i64 1) (crcmp_gt hx hy (Nat.lt_of_le_of_ne (Nat.le_of_not_lt (of_decide_eq_false hb18)) (Ne.symm (of_decide_eq_false hb21))) _ (hs.get 1 rfl) (hs.get 0 rfl) (by omega)) fun ac wd ha hs => ?_
          refine s_val ha (.bool true) fun ac ha => ?_
          refine wpList_nil ((x_normal ?_))
          refine r_true ha ?_
          refine wp_seq ?_
          refine region_sp ha 8 [.eq (.pointer (some ⟨g11, 0, none⟩)), .eq (.bool true), .eq (.pointer (some ⟨g11, 1, none⟩)), .eq (.slice A1 (nl x.natAbs) c1), .eq (.pointer (some ⟨g12, 1, none⟩)), .eq (.slice A2 (nl y.natAbs) c2), .pr (R32 (x.natAbs - y.natAbs)) fun _ _ _ e h => h.ext e, .pr (RI (-((x.natAbs - y.natAbs : Nat) : Int))) fun _ _ _ e h => h.ext e] [] [] (fun _ hb => by cases hb)
            ⟨d_val, d_loadb hs 2 hb14, d_val, d_load hs 2, d_val, d_load hs 1, d_callP (fun u => #[.slice A1 (nl x.natAbs) c1, .slice A2 (nl y.natAbs) c2]) (fun u _ hw hj => crsub hx (Nat.le_of_not_lt (of_decide_eq_false hb18)) _ ((hs.go hw).get 1 rfl) ((hs.go hw).get 0 rfl) (by omega)), d_callP (fun u => #[.bool true, u 6]) (fun u _ hw hj => ri_any true _ (hj 6 (by kernel_rfl))), trivial⟩ ?_
          intro vv wd1 ac hw hG hN ha
          have ha := ha.sub [(0, riV x A1 c1), (1, riV y A2 c2), (2, .pointer (some ⟨g11, 0, none⟩)), (3, .pointer (some ⟨g12, 0, none⟩)), (4, .pointer (some ⟨g13, 0, none⟩)), (5, .pointer (some ⟨g11, 0, none⟩)), (6, .bool true), (7, .pointer (some ⟨g12, 0, none⟩)), (8, .bool false), (9, .bool false), (18, .pointer (some ⟨g11, 1, none⟩)), (19, .slice A1 (nl x.natAbs) c1), (20, .pointer (some ⟨g12, 1, none⟩)), (21, .slice A2 (nl y.natAbs) c2), (22, .int .i64 1), (23, .bool true), (31, vv 7)]
          have h_7 : (RI (-((x.natAbs - y.natAbs : Nat) : Int))) (vv 7) wd1 := hG 7 31 (by decide) rfl
          clear hG hN
          have hs := hs.go hw
          obtain ⟨Ai25, ci25, e25, r25⟩ := h_7
          rw [e25] at ha
          clear e25
          have hs := hs.add32 r25 (by kernel_rfl)
          clear hw
          refine keeps_nil ?_
          show wpList _ _ _ _ _ _
          refine s_store ha hs 0 _ fun ac wd ha hs => ?_
          refine wpList_nil ((x_normal ?_))
          refine wp_ret (x_ret (ret_at ha hs rfl [riV (-((x.natAbs - y.natAbs : Nat) : Int)) Ai25 ci25] ⟨⟨0, _, _, _, rfl, rfl, by kernel_rfl⟩, trivial⟩ ?_))
          exact ret_ri (by omega) hs.ext (hs.get 0 rfl)
  ·
    have phb14 := of_decide_eq_false hb14
    refine s_loadb ha hs 2 false hb14 fun ac ha => ?_
    refine s_val ha (.pointer (some ⟨g12, 0, none⟩)) fun ac ha => ?_
    rcases Bool.eq_false_or_eq_true (decide (y < 0)) with hb26 | hb26
    ·
      have phb26 := of_decide_eq_true hb26
      refine s_loadb ha hs 1 true hb26 fun ac ha => ?_
      refine s_val ha (.bool false) fun ac ha => ?_
      refine wpList_nil ((x_normal ?_))
      refine r_false ha ?_
      refine wp_skip ((x_normal ?_))
      refine wp_seq ?_
      refine wp_seq ?_
      refine wp_region_lit ?_
      refine s_val ha (.pointer (some ⟨g11, 1, none⟩)) fun ac ha => ?_
      refine s_load ha hs 2 (.slice A1 (nl x.natAbs) c1) fun ac ha => ?_
      refine s_val ha (.pointer (some ⟨g12, 1, none⟩)) fun ac ha => ?_
      refine s_load ha hs 1 (.slice A2 (nl y.natAbs) c2) fun ac ha => ?_
      rcases Bool.eq_false_or_eq_true (decide (x.natAbs < y.natAbs)) with hb27 | hb27
      ·
        have phb27 := of_decide_eq_true hb27
        refine s_call ha hs (.int .i64 (-1)) (crcmp_lt hx hy (of_decide_eq_true hb27) _ (hs.get 1 rfl) (hs.get 0 rfl) (by omega)) fun ac wd ha hs => ?_
        refine s_val ha (.bool false) fun ac ha => ?_
        refine wpList_nil ((x_normal ?_))
        refine r_false ha ?_
        refine wp_skip ((x_normal ?_))
        refine wp_seq ?_
        refine region_sp ha 8 [.eq (.pointer (some ⟨g12, 0, none⟩)), .eq (.bool true), .eq (.pointer (some ⟨g12, 1, none⟩)), .eq (.slice A2 (nl y.natAbs) c2), .eq (.pointer (some ⟨g11, 1, none⟩)), .eq (.slice A1 (nl x.natAbs) c1), .pr (R32 (y.natAbs - x.natAbs)) fun _ _ _ e h => h.ext e, .pr (RI (-((y.natAbs - x.natAbs : Nat) : Int))) fun _ _ _ e h => h.ext e] [] [] (fun _ hb => by cases hb)
          ⟨d_val, d_loadb hs 1 hb26, d_val, d_load hs 1, d_val, d_load hs 2, d_callP (fun u => #[.slice A2 (nl y.natAbs) c2, .slice A1 (nl x.natAbs) c1]) (fun u _ hw hj => crsub hy (Nat.le_of_lt (of_decide_eq_true hb27)) _ ((hs.go hw).get 0 rfl) ((hs.go hw).get 1 rfl) (by omega)), d_callP (fun u => #[.bool true, u 6]) (fun u _ hw hj => ri_any true _ (hj 6 (by kernel_rfl))), trivial⟩ ?_
        intro vv wd1 ac hw hG hN ha
        have ha := ha.sub [(0, riV x A1 c1), (1, riV y A2 c2), (2, .pointer (some ⟨g11, 0, none⟩)), (3, .pointer (some ⟨g12, 0, none⟩)), (4, .pointer (some ⟨g13, 0, none⟩)), (5, .pointer (some ⟨g11, 0, none⟩)), (6, .bool false), (7, .pointer (some ⟨g12, 0, none⟩)), (8, .bool true), (9, .bool false), (18, .pointer (some ⟨g11, 1, none⟩)), (19, .slice A1 (nl x.natAbs) c1), (20, .pointer (some ⟨g12, 1, none⟩)), (21, .slice A2 (nl y.natAbs) c2), (22, .int .i64 (-1)), (23, .bool false), (39, vv 7)]
        have h_7 : (RI (-((y.natAbs - x.natAbs : Nat) : Int))) (vv 7) wd1 := hG 7 39 (by decide) rfl
        clear hG hN
        have hs := hs.go hw
        obtain ⟨Ai29, ci29, e29, r29⟩ := h_7
        rw [e29] at ha
        clear e29
        have hs := hs.add32 r29 (by kernel_rfl)
        clear hw
        refine keeps_nil ?_
        show wpList _ _ _ _ _ _
        refine s_store ha hs 0 _ fun ac wd ha hs => ?_
        refine wpList_nil ((x_normal ?_))
        refine wp_ret (ret_at ha hs rfl [riV (-((y.natAbs - x.natAbs : Nat) : Int)) Ai29 ci29] ⟨⟨0, _, _, _, rfl, rfl, by kernel_rfl⟩, trivial⟩ ?_)
        exact ret_ri (by omega) hs.ext (hs.get 0 rfl)
      ·
        have phb27 := of_decide_eq_false hb27
        rcases Bool.eq_false_or_eq_true (decide (x.natAbs = y.natAbs)) with hb30 | hb30
        ·
          have phb30 := of_decide_eq_true hb30
          refine s_call ha hs (.int .i64 0) (crcmp_eq hx hy (of_decide_eq_true hb30) _ (hs.get 1 rfl) (hs.get 0 rfl) (by omega)) fun ac wd ha hs => ?_
          refine s_val ha (.bool true) fun ac ha => ?_
          refine wpList_nil ((x_normal ?_))
          refine r_true ha ?_
          refine wp_seq ?_
          refine region_sp ha 8 [.eq (.pointer (some ⟨g11, 0, none⟩)), .eq (.bool false), .eq (.pointer (some ⟨g11, 1, none⟩)), .eq (.slice A1 (nl x.natAbs) c1), .eq (.pointer (some ⟨g12, 1, none⟩)), .eq (.slice A2 (nl y.natAbs) c2), .pr (R32 (x.natAbs - y.natAbs)) fun _ _ _ e h => h.ext e, .pr (RI ((x.natAbs - y.natAbs : Nat) : Int)) fun _ _ _ e h => h.ext e] [] [] (fun _ hb => by cases hb)
            ⟨d_val, d_loadb hs 2 hb14, d_val, d_load hs 2, d_val, d_load hs 1, d_callP (fun u => #[.slice A1 (nl x.natAbs) c1, .slice A2 (nl y.natAbs) c2]) (fun u _ hw hj => crsub hx (Nat.le_of_not_lt (of_decide_eq_false hb27)) _ ((hs.go hw).get 1 rfl) ((hs.go hw).get 0 rfl) (by omega)), d_callP (fun u => #[.bool false, u 6]) (fun u _ hw hj => ri_any false _ (hj 6 (by kernel_rfl))), trivial⟩ ?_
          intro vv wd1 ac hw hG hN ha
          have ha := ha.sub [(0, riV x A1 c1), (1, riV y A2 c2), (2, .pointer (some ⟨g11, 0, none⟩)), (3, .pointer (some ⟨g12, 0, none⟩)), (4, .pointer (some ⟨g13, 0, none⟩)), (5, .pointer (some ⟨g11, 0, none⟩)), (6, .bool false), (7, .pointer (some ⟨g12, 0, none⟩)), (8, .bool true), (9, .bool false), (18, .pointer (some ⟨g11, 1, none⟩)), (19, .slice A1 (nl x.natAbs) c1), (20, .pointer (some ⟨g12, 1, none⟩)), (21, .slice A2 (nl y.natAbs) c2), (22, .int .i64 0), (23, .bool true), (31, vv 7)]
          have h_7 : (RI ((x.natAbs - y.natAbs : Nat) : Int)) (vv 7) wd1 := hG 7 31 (by decide) rfl
          clear hG hN
          have hs := hs.go hw
          obtain ⟨Ai32, ci32, e32, r32⟩ := h_7
          rw [e32] at ha
          clear e32
          have hs := hs.add32 r32 (by kernel_rfl)
          clear hw
          refine keeps_nil ?_
          show wpList _ _ _ _ _ _
          refine s_store ha hs 0 _ fun ac wd ha hs => ?_
          refine wpList_nil ((x_normal ?_))
          refine wp_ret (x_ret (ret_at ha hs rfl [riV ((x.natAbs - y.natAbs : Nat) : Int) Ai32 ci32] ⟨⟨0, _, _, _, rfl, rfl, by kernel_rfl⟩, trivial⟩ ?_))
          exact ret_ri (by omega) hs.ext (hs.get 0 rfl)
        ·
          have phb30 := of_decide_eq_false hb30
          refine s_call ha hs (.int .i64 1) (crcmp_gt hx hy (Nat.lt_of_le_of_ne (Nat.le_of_not_lt (of_decide_eq_false hb27)) (Ne.symm (of_decide_eq_false hb30))) _ (hs.get 1 rfl) (hs.get 0 rfl) (by omega)) fun ac wd ha hs => ?_
          refine s_val ha (.bool true) fun ac ha => ?_
          refine wpList_nil ((x_normal ?_))
          refine r_true ha ?_
          refine wp_seq ?_
          refine region_sp ha 8 [.eq (.pointer (some ⟨g11, 0, none⟩)), .eq (.bool false), .eq (.pointer (some ⟨g11, 1, none⟩)), .eq (.slice A1 (nl x.natAbs) c1), .eq (.pointer (some ⟨g12, 1, none⟩)), .eq (.slice A2 (nl y.natAbs) c2), .pr (R32 (x.natAbs - y.natAbs)) fun _ _ _ e h => h.ext e, .pr (RI ((x.natAbs - y.natAbs : Nat) : Int)) fun _ _ _ e h => h.ext e] [] [] (fun _ hb => by cases hb)
            ⟨d_val, d_loadb hs 2 hb14, d_val, d_load hs 2, d_val, d_load hs 1, d_callP (fun u => #[.slice A1 (nl x.natAbs) c1, .slice A2 (nl y.natAbs) c2]) (fun u _ hw hj => crsub hx (Nat.le_of_not_lt (of_decide_eq_false hb27)) _ ((hs.go hw).get 1 rfl) ((hs.go hw).get 0 rfl) (by omega)), d_callP (fun u => #[.bool false, u 6]) (fun u _ hw hj => ri_any false _ (hj 6 (by kernel_rfl))), trivial⟩ ?_
          intro vv wd1 ac hw hG hN ha
          have ha := ha.sub [(0, riV x A1 c1), (1, riV y A2 c2), (2, .pointer (some ⟨g11, 0, none⟩)), (3, .pointer (some ⟨g12, 0, none⟩)), (4, .pointer (some ⟨g13, 0, none⟩)), (5, .pointer (some ⟨g11, 0, none⟩)), (6, .bool false), (7, .pointer (some ⟨g12, 0, none⟩)), (8, .bool true), (9, .bool false), (18, .pointer (some ⟨g11, 1, none⟩)), (19, .slice A1 (nl x.natAbs) c1), (20, .pointer (some ⟨g12, 1, none⟩)), (21, .slice A2 (nl y.natAbs) c2), (22, .int .i64 1), (23, .bool true), (31, vv 7)]
          have h_7 : (RI ((x.natAbs - y.natAbs : Nat) : Int)) (vv 7) wd1 := hG 7 31 (by decide) rfl
          clear hG hN
          have hs := hs.go hw
          obtain ⟨Ai34, ci34, e34, r34⟩ := h_7
          rw [e34] at ha
          clear e34
          have hs := hs.add32 r34 (by kernel_rfl)
          clear hw
          refine keeps_nil ?_
          show wpList _ _ _ _ _ _
          refine s_store ha hs 0 _ fun ac wd ha hs => ?_
          refine wpList_nil ((x_normal ?_))
          refine wp_ret (x_ret (ret_at ha hs rfl [riV ((x.natAbs - y.natAbs : Nat) : Int) Ai34 ci34] ⟨⟨0, _, _, _, rfl, rfl, by kernel_rfl⟩, trivial⟩ ?_))
          exact ret_ri (by omega) hs.ext (hs.get 0 rfl)
    ·
      have phb26 := of_decide_eq_false hb26
      refine s_loadb ha hs 1 false hb26 fun ac ha => ?_
      refine s_val ha (.bool true) fun ac ha => ?_
      refine wpList_nil ((x_normal ?_))
      refine r_true ha ?_
      refine wp_seq ?_
      refine region_sp ha 8 [.eq (.pointer (some ⟨g11, 0, none⟩)), .eq (.bool false), .eq (.pointer (some ⟨g11, 1, none⟩)), .eq (.slice A1 (nl x.natAbs) c1), .eq (.pointer (some ⟨g12, 1, none⟩)), .eq (.slice A2 (nl y.natAbs) c2), .pr (R32 (x.natAbs + y.natAbs)) fun _ _ _ e h => h.ext e, .pr (RI ((x.natAbs + y.natAbs : Nat) : Int)) fun _ _ _ e h => h.ext e] [] [] (fun _ hb => by cases hb)
        ⟨d_val, d_loadb hs 2 hb14, d_val, d_load hs 2, d_val, d_load hs 1, d_callP (fun u => #[.slice A1 (nl x.natAbs) c1, .slice A2 (nl y.natAbs) c2]) (fun u _ hw hj => cradd hx hy _ ((hs.go hw).get 1 rfl) ((hs.go hw).get 0 rfl) (by omega)), d_callP (fun u => #[.bool false, u 6]) (fun u _ hw hj => ri_any false _ (hj 6 (by kernel_rfl))), trivial⟩ ?_
      intro vv wd1 ac hw hG hN ha
      have ha := ha.sub [(0, riV x A1 c1), (1, riV y A2 c2), (2, .pointer (some ⟨g11, 0, none⟩)), (3, .pointer (some ⟨g12, 0, none⟩)), (4, .pointer (some ⟨g13, 0, none⟩)), (5, .pointer (some ⟨g11, 0, none⟩)), (6, .bool false), (7, .pointer (some ⟨g12, 0, none⟩)), (8, .bool false), (9, .bool true), (17, vv 7)]
      have h_7 : (RI ((x.natAbs + y.natAbs : Nat) : Int)) (vv 7) wd1 := hG 7 17 (by decide) rfl
      clear hG hN
      have hs := hs.go hw
      obtain ⟨Ai36, ci36, e36, r36⟩ := h_7
      rw [e36] at ha
      clear e36
      have hs := hs.add32 r36 (by kernel_rfl)
      clear hw
      refine keeps_nil ?_
      show wpList _ _ _ _ _ _
      refine s_store ha hs 0 _ fun ac wd ha hs => ?_
      refine wpList_nil ((x_normal ?_))
      refine wp_ret (x_ret (ret_at ha hs rfl [riV ((x.natAbs + y.natAbs : Nat) : Int) Ai36 ci36] ⟨⟨0, _, _, _, rfl, rfl, by kernel_rfl⟩, trivial⟩ ?_))
      exact ret_ri (by omega) hs.ext (hs.get 0 rfl)
  
set_option maxHeartbeats 1000000 in
theorem risub {j k : Nat} {x y : Int} (hx : Sm j x.natAbs) (hy : Sm k y.natAbs) {v1 v2 : Value} (w : World) (q1 : RI x v1 w) (q2 : RI y v2 w) (hk : max j k ≤ 549755813887) : Calls Tryz.prog 128 #[v1, v2] w (RetS (RI (x - y)) w) := by
  obtain ⟨A1, c1, rfl, r1⟩ := q1
  obtain ⟨A2, c2, rfl, r2⟩ := q2
  have hs := St.start w
  have hs := hs.add32 r1 (by kernel_rfl)
  have hs := hs.add32 r2 (by kernel_rfl)
  refine enter Tryz.func128 rfl Tryz.ntmps128 (by kernel_rfl) fun ac ha => ?_
  refine wp_seq ?_
  refine wp_region_lit ?_
  refine s_box ha hs [.bool (decide (x < 0)), .slice A1 (nl x.natAbs) c1] fun g37 ac wd ha hs => ?_
  refine s_box ha hs [.bool (decide (y < 0)), .slice A2 (nl y.natAbs) c2] fun g38 ac wd ha hs => ?_
  refine s_alloc ha hs [.bool false, .slice none 0 0] fun g39 ac wd ha hs => ?_
  refine wpList_nil ((x_normal ?_))
  refine wp_seq ?_
  refine region_sp ha 4 [.eq (riV x A1 c1), .eq (riV y A2 c2), .pr (RI (-y)) fun _ _ _ e h => h.ext e, .pr (RI (x + (-y))) fun _ _ _ e h => h.ext e] [] [] (fun _ hb => by cases hb)
    ⟨d_load hs 2, d_load hs 1, d_callP (fun u => #[riV y A2 c2]) (fun u _ hw hj => rineg hy _ (RI.mk ((hs.go hw).get 0 rfl))), d_callP (fun u => #[riV x A1 c1, u 2]) (fun u _ hw hj => riadd hx hy.zneg _ (RI.mk ((hs.go hw).get 1 rfl)) (hj 2 (by kernel_rfl)) (by omega)), trivial⟩ ?_
  intro vv wd1 ac hw hG hN ha
  have ha := ha.sub [(0, riV x A1 c1), (1, riV y A2 c2), (4, .pointer (some ⟨g39, 0, none⟩)), (8, vv 3)]
  have h_3 : (RI (x + (-y))) (vv 3) wd1 := hG 3 8 (by decide) rfl
  clear hG hN
  have hs := hs.go hw
  obtain ⟨Ai41, ci41, e41, r41⟩ := h_3
  rw [e41] at ha
  clear e41
  have hs := hs.add32 r41 (by kernel_rfl)
  clear hw
  refine keeps_nil ?_
  show wpList _ _ _ _ _ _
  refine s_store ha hs 0 _ fun ac wd ha hs => ?_
  refine wpList_nil ((x_normal ?_))
  refine wp_ret (ret_at ha hs rfl [riV (x + (-y)) Ai41 ci41] ⟨⟨0, _, _, _, rfl, rfl, by kernel_rfl⟩, trivial⟩ ?_)
  exact ret_ri (by omega) hs.ext (hs.get 0 rfl)
  
set_option maxHeartbeats 1000000 in
theorem rimul {j k : Nat} {x y : Int} (hx : Sm j x.natAbs) (hy : Sm k y.natAbs) {v1 v2 : Value} (w : World) (q1 : RI x v1 w) (q2 : RI y v2 w) (hk : max j k ≤ 274877906944) : Calls Tryz.prog 68 #[v1, v2] w (RetS (RI (x * y)) w) := by
  obtain ⟨A1, c1, rfl, r1⟩ := q1
  obtain ⟨A2, c2, rfl, r2⟩ := q2
  have hs := St.start w
  have hs := hs.add32 r1 (by kernel_rfl)
  have hs := hs.add32 r2 (by kernel_rfl)
  refine enter Tryz.func68 rfl Tryz.ntmps68 (by kernel_rfl) fun ac ha => ?_
  refine wp_seq ?_
  refine wp_region_lit ?_
  refine s_box ha hs [.bool (decide (x < 0)), .slice A1 (nl x.natAbs) c1] fun g42 ac wd ha hs => ?_
  refine s_box ha hs [.bool (decide (y < 0)), .slice A2 (nl y.natAbs) c2] fun g43 ac wd ha hs => ?_
  refine s_alloc ha hs [.bool false, .slice none 0 0] fun g44 ac wd ha hs => ?_
  refine wpList_nil ((x_normal ?_))
  refine wp_seq ?_
  rcases Bool.eq_false_or_eq_true (decide (x < 0)) with hb45 | hb45
  ·
    have phb45 := of_decide_eq_true hb45
    rcases Bool.eq_false_or_eq_true (decide (y < 0)) with hb46 | hb46
    ·
      have phb46 := of_decide_eq_true hb46
      refine region_sp ha 11 [.eq (.pointer (some ⟨g42, 0, none⟩)), .eq (.bool true), .eq (.pointer (some ⟨g43, 0, none⟩)), .eq (.bool true), .eq (.bool false), .eq (.pointer (some ⟨g42, 1, none⟩)), .eq (.slice A1 (nl x.natAbs) c1), .eq (.pointer (some ⟨g43, 1, none⟩)), .eq (.slice A2 (nl y.natAbs) c2), .pr (R32 (x.natAbs * y.natAbs)) fun _ _ _ e h => h.ext e, .pr (RI ((x.natAbs * y.natAbs : Nat) : Int)) fun _ _ _ e h => h.ext e] [] [] (fun _ hb => by cases hb)
        ⟨d_val, d_loadb hs 2 hb45, d_val, d_loadb hs 1 hb46, d_val, d_val, d_load hs 2, d_val, d_load hs 1, d_callP (fun u => #[.slice A1 (nl x.natAbs) c1, .slice A2 (nl y.natAbs) c2]) (fun u _ hw hj => crmul hx hy _ ((hs.go hw).get 1 rfl) ((hs.go hw).get 0 rfl) (by omega)), d_callP (fun u => #[.bool false, u 9]) (fun u _ hw hj => ri_any false _ (hj 9 (by kernel_rfl))), trivial⟩ ?_
      intro vv wd1 ac hw hG hN ha
      have ha := ha.sub [(0, riV x A1 c1), (1, riV y A2 c2), (4, .pointer (some ⟨g44, 0, none⟩)), (15, vv 10)]
      have h_10 : (RI ((x.natAbs * y.natAbs : Nat) : Int)) (vv 10) wd1 := hG 10 15 (by decide) rfl
      clear hG hN
      have hs := hs.go hw
      obtain ⟨Ai48, ci48, e48, r48⟩ := h_10
      rw [e48] at ha
      clear e48
      have hs := hs.add32 r48 (by kernel_rfl)
      clear hw
      refine keeps_nil ?_
      show wpList _ _ _ _ _ _
      refine s_store ha hs 0 _ fun ac wd ha hs => ?_
      refine wpList_nil ((x_normal ?_))
      refine wp_ret (ret_at ha hs rfl [riV ((x.natAbs * y.natAbs : Nat) : Int) Ai48 ci48] ⟨⟨0, _, _, _, rfl, rfl, by kernel_rfl⟩, trivial⟩ ?_)
      exact ret_ri (mul_signs hb45 hb46) hs.ext (hs.get 0 rfl)
    ·
      have phb46 := of_decide_eq_false hb46
      refine region_sp ha 11 [.eq (.pointer (some ⟨g42, 0, none⟩)), .eq (.bool true), .eq (.pointer (some ⟨g43, 0, none⟩)), .eq (.bool false), .eq (.bool true), .eq (.pointer (some ⟨g42, 1, none⟩)), .eq (.slice A1 (nl x.natAbs) c1), .eq (.pointer (some ⟨g43, 1, none⟩)), .eq (.slice A2 (nl y.natAbs) c2), .pr (R32 (x.natAbs * y.natAbs)) fun _ _ _ e h => h.ext e, .pr (RI (-((x.natAbs * y.natAbs : Nat) : Int))) fun _ _ _ e h => h.ext e] [] [] (fun _ hb => by cases hb)
        ⟨d_val, d_loadb hs 2 hb45, d_val, d_loadb hs 1 hb46, d_val, d_val, d_load hs 2, d_val, d_load hs 1, d_callP (fun u => #[.slice A1 (nl x.natAbs) c1, .slice A2 (nl y.natAbs) c2]) (fun u _ hw hj => crmul hx hy _ ((hs.go hw).get 1 rfl) ((hs.go hw).get 0 rfl) (by omega)), d_callP (fun u => #[.bool true, u 9]) (fun u _ hw hj => ri_any true _ (hj 9 (by kernel_rfl))), trivial⟩ ?_
      intro vv wd1 ac hw hG hN ha
      have ha := ha.sub [(0, riV x A1 c1), (1, riV y A2 c2), (4, .pointer (some ⟨g44, 0, none⟩)), (15, vv 10)]
      have h_10 : (RI (-((x.natAbs * y.natAbs : Nat) : Int))) (vv 10) wd1 := hG 10 15 (by decide) rfl
      clear hG hN
      have hs := hs.go hw
      obtain ⟨Ai50, ci50, e50, r50⟩ := h_10
      rw [e50] at ha
      clear e50
      have hs := hs.add32 r50 (by kernel_rfl)
      clear hw
      refine keeps_nil ?_
      show wpList _ _ _ _ _ _
      refine s_store ha hs 0 _ fun ac wd ha hs => ?_
      refine wpList_nil ((x_normal ?_))
      refine wp_ret (ret_at ha hs rfl [riV (-((x.natAbs * y.natAbs : Nat) : Int)) Ai50 ci50] ⟨⟨0, _, _, _, rfl, rfl, by kernel_rfl⟩, trivial⟩ ?_)
      exact ret_ri (mul_signs hb45 hb46) hs.ext (hs.get 0 rfl)
  ·
    have phb45 := of_decide_eq_false hb45
    rcases Bool.eq_false_or_eq_true (decide (y < 0)) with hb51 | hb51
    ·
      have phb51 := of_decide_eq_true hb51
      refine region_sp ha 11 [.eq (.pointer (some ⟨g42, 0, none⟩)), .eq (.bool false), .eq (.pointer (some ⟨g43, 0, none⟩)), .eq (.bool true), .eq (.bool true), .eq (.pointer (some ⟨g42, 1, none⟩)), .eq (.slice A1 (nl x.natAbs) c1), .eq (.pointer (some ⟨g43, 1, none⟩)), .eq (.slice A2 (nl y.natAbs) c2), .pr (R32 (x.natAbs * y.natAbs)) fun _ _ _ e h => h.ext e, .pr (RI (-((x.natAbs * y.natAbs : Nat) : Int))) fun _ _ _ e h => h.ext e] [] [] (fun _ hb => by cases hb)
        ⟨d_val, d_loadb hs 2 hb45, d_val, d_loadb hs 1 hb51, d_val, d_val, d_load hs 2, d_val, d_load hs 1, d_callP (fun u => #[.slice A1 (nl x.natAbs) c1, .slice A2 (nl y.natAbs) c2]) (fun u _ hw hj => crmul hx hy _ ((hs.go hw).get 1 rfl) ((hs.go hw).get 0 rfl) (by omega)), d_callP (fun u => #[.bool true, u 9]) (fun u _ hw hj => ri_any true _ (hj 9 (by kernel_rfl))), trivial⟩ ?_
      intro vv wd1 ac hw hG hN ha
      have ha := ha.sub [(0, riV x A1 c1), (1, riV y A2 c2), (4, .pointer (some ⟨g44, 0, none⟩)), (15, vv 10)]
      have h_10 : (RI (-((x.natAbs * y.natAbs : Nat) : Int))) (vv 10) wd1 := hG 10 15 (by decide) rfl
      clear hG hN
      have hs := hs.go hw
      obtain ⟨Ai53, ci53, e53, r53⟩ := h_10
      rw [e53] at ha
      clear e53
      have hs := hs.add32 r53 (by kernel_rfl)
      clear hw
      refine keeps_nil ?_
      show wpList _ _ _ _ _ _
      refine s_store ha hs 0 _ fun ac wd ha hs => ?_
      refine wpList_nil ((x_normal ?_))
      refine wp_ret (ret_at ha hs rfl [riV (-((x.natAbs * y.natAbs : Nat) : Int)) Ai53 ci53] ⟨⟨0, _, _, _, rfl, rfl, by kernel_rfl⟩, trivial⟩ ?_)
      exact ret_ri (mul_signs hb45 hb51) hs.ext (hs.get 0 rfl)
    ·
      have phb51 := of_decide_eq_false hb51
      refine region_sp ha 11 [.eq (.pointer (some ⟨g42, 0, none⟩)), .eq (.bool false), .eq (.pointer (some ⟨g43, 0, none⟩)), .eq (.bool false), .eq (.bool false), .eq (.pointer (some ⟨g42, 1, none⟩)), .eq (.slice A1 (nl x.natAbs) c1), .eq (.pointer (some ⟨g43, 1, none⟩)), .eq (.slice A2 (nl y.natAbs) c2), .pr (R32 (x.natAbs * y.natAbs)) fun _ _ _ e h => h.ext e, .pr (RI ((x.natAbs * y.natAbs : Nat) : Int)) fun _ _ _ e h => h.ext e] [] [] (fun _ hb => by cases hb)
        ⟨d_val, d_loadb hs 2 hb45, d_val, d_loadb hs 1 hb51, d_val, d_val, d_load hs 2, d_val, d_load hs 1, d_callP (fun u => #[.slice A1 (nl x.natAbs) c1, .slice A2 (nl y.natAbs) c2]) (fun u _ hw hj => crmul hx hy _ ((hs.go hw).get 1 rfl) ((hs.go hw).get 0 rfl) (by omega)), d_callP (fun u => #[.bool false, u 9]) (fun u _ hw hj => ri_any false _ (hj 9 (by kernel_rfl))), trivial⟩ ?_
      intro vv wd1 ac hw hG hN ha
      have ha := ha.sub [(0, riV x A1 c1), (1, riV y A2 c2), (4, .pointer (some ⟨g44, 0, none⟩)), (15, vv 10)]
      have h_10 : (RI ((x.natAbs * y.natAbs : Nat) : Int)) (vv 10) wd1 := hG 10 15 (by decide) rfl
      clear hG hN
      have hs := hs.go hw
      obtain ⟨Ai55, ci55, e55, r55⟩ := h_10
      rw [e55] at ha
      clear e55
      have hs := hs.add32 r55 (by kernel_rfl)
      clear hw
      refine keeps_nil ?_
      show wpList _ _ _ _ _ _
      refine s_store ha hs 0 _ fun ac wd ha hs => ?_
      refine wpList_nil ((x_normal ?_))
      refine wp_ret (ret_at ha hs rfl [riV ((x.natAbs * y.natAbs : Nat) : Int) Ai55 ci55] ⟨⟨0, _, _, _, rfl, rfl, by kernel_rfl⟩, trivial⟩ ?_)
      exact ret_ri (mul_signs hb45 hb51) hs.ext (hs.get 0 rfl)
  
set_option maxHeartbeats 1000000 in
theorem ricmp {j k : Nat} {x y : Int} (hx : Sm j x.natAbs) (hy : Sm k y.natAbs) {v1 v2 : Value} (w : World) (q1 : RI x v1 w) (q2 : RI y v2 w) (hk : max j k ≤ 549755813886) : Calls Tryz.prog 158 #[v1, v2] w (Ret (.int .i64 (cmpZ x y)) w) := by
  obtain ⟨A1, c1, rfl, r1⟩ := q1
  obtain ⟨A2, c2, rfl, r2⟩ := q2
  have hs := St.start w
  have hs := hs.add32 r1 (by kernel_rfl)
  have hs := hs.add32 r2 (by kernel_rfl)
  refine enter Tryz.func158 rfl Tryz.ntmps158 (by kernel_rfl) fun ac ha => ?_
  refine wp_seq ?_
  refine wp_region_lit ?_
  refine s_box ha hs [.bool (decide (x < 0)), .slice A1 (nl x.natAbs) c1] fun g56 ac wd ha hs => ?_
  refine s_box ha hs [.bool (decide (y < 0)), .slice A2 (nl y.natAbs) c2] fun g57 ac wd ha hs => ?_
  refine s_val ha (.int .i64 0) fun ac ha => ?_
  refine wpList_nil ((x_normal ?_))
  refine wp_seq ?_
  refine wp_region_lit ?_
  refine s_load ha hs 1 (riV x A1 c1) fun ac ha => ?_
  refine s_load ha hs 0 (riV y A2 c2) fun ac ha => ?_
  refine s_callP ha hs (risub hx hy _ (RI.mk (hs.get 1 rfl)) (RI.mk (hs.get 0 rfl)) (by omega)) fun u ac wd hp ha hs => ?_
  obtain ⟨Ai58, ci58, rfl, r58⟩ := hp
  have hs := hs.add32 r58 (by kernel_rfl)
  refine s_call ha hs (.int .i64 ((x - y).sign)) (risign _ (RI.mk (hs.get 0 rfl))) fun ac wd ha hs => ?_
  refine s_val ha (.int .i64 ((x - y).sign)) fun ac ha => ?_
  refine wpList_nil ((x_normal ?_))
  refine wp_ret (ret_at ha hs rfl [.int .i64 ((x - y).sign)] ⟨rfl, trivial⟩ ?_)
  exact ret_i (sign_cmp x y) hs.ext
  
set_option maxHeartbeats 1000000 in
theorem coutnat {k n : Nat} (hn : Sm k n) (w : World) (hk : k ≤ 549755813888) : Calls Tryz.prog 75 #[nV n] w (RetS (R32 n) w) := by
  have hs := St.start w
  refine enter Tryz.func75 rfl Tryz.ntmps75 (by kernel_rfl) fun ac ha => ?_
  refine wp_seq ?_
  refine wp_region_lit ?_
  refine s_box ha hs [.int .u64 (lo n : Nat), .string (hi n)] fun g59 ac wd ha hs => ?_
  refine s_val ha (.slice none 0 0) fun ac ha => ?_
  refine wpList_nil ((x_normal ?_))
  refine wp_seq ?_
  refine wp_region_lit ?_
  refine s_load ha hs 0 (nV n) fun ac ha => ?_
  refine s_callP ha hs (cbytes hn _ (by omega)) fun u ac wd hp ha hs => ?_
  obtain ⟨Ai60, ci60, rfl⟩ := hp.form
  have hs := hs.add8 hp (by kernel_rfl)
  refine s_callP ha hs (crfrom_beB hn _ (hs.get 0 rfl) (by omega)) fun u ac wd hp ha hs => ?_
  obtain ⟨Ai61, ci61, rfl⟩ := hp.form
  have hs := hs.add32 hp (by kernel_rfl)
  refine s_val ha (.slice Ai61 (nl n) ci61) fun ac ha => ?_
  refine wpList_nil ((x_normal ?_))
  refine wp_ret (ret_at ha hs rfl [.slice Ai61 (nl n) ci61] ⟨rfl, trivial⟩ ?_)
  exact ⟨_, rfl, (hs.get 0 rfl), hs.ext⟩
  
set_option maxHeartbeats 1000000 in
theorem chint {k : Nat} {x : Int} (hx : Sm k x.natAbs) {v1 : Value} (w : World) (q1 : RI x v1 w) (hk : k ≤ 549755813888) : Calls Tryz.prog 69 #[v1] w (Ret (zV x) w) := by
  obtain ⟨A1, c1, rfl, r1⟩ := q1
  have hs := St.start w
  have hs := hs.add32 r1 (by kernel_rfl)
  refine enter Tryz.func69 rfl Tryz.ntmps69 (by kernel_rfl) fun ac ha => ?_
  refine wp_seq ?_
  refine wp_region_lit ?_
  refine s_box ha hs [.bool (decide (x < 0)), .slice A1 (nl x.natAbs) c1] fun g62 ac wd ha hs => ?_
  refine s_alloc ha hs [.bool false, .int .u64 0, .string (⟨#[]⟩)] fun g63 ac wd ha hs => ?_
  refine wpList_nil ((x_normal ?_))
  refine wp_seq ?_
  rcases Bool.eq_false_or_eq_true (decide (x < 0)) with hb64 | hb64
  ·
    have phb64 := of_decide_eq_true hb64
    refine region_sp ha 6 [.eq (.pointer (some ⟨g62, 0, none⟩)), .eq (.bool true), .eq (.pointer (some ⟨g62, 1, none⟩)), .eq (.slice A1 (nl x.natAbs) c1), .eq (nV x.natAbs), .eq (zV (-((x.natAbs : Nat) : Int)))] [] [] (fun _ hb => by cases hb)
      ⟨d_val, d_loadb hs 1 hb64, d_val, d_load hs 1, d_call (fun _ hw => chnat hx _ ((hs.go hw).get 0 rfl) (by omega)), d_call (fun _ hw => from_any true hx (by omega) _), trivial⟩ ?_
    intro vv wd1 ac hw hG hN ha
    have ha := ha.sub [(0, riV x A1 c1), (2, .pointer (some ⟨g63, 0, none⟩)), (8, zV (-((x.natAbs : Nat) : Int)))]
    clear hG hN
    have hs := hs.go hw
    clear hw
    refine keeps_nil ?_
    show wpList _ _ _ _ _ _
    refine s_store ha hs 0 _ fun ac wd ha hs => ?_
    refine wpList_nil ((x_normal ?_))
    refine wp_ret (ret_at ha hs rfl [zV (-((x.natAbs : Nat) : Int))] ⟨⟨0, _, _, _, rfl, rfl, by kernel_rfl⟩, trivial⟩ ?_)
    exact ret_z (by omega) hs.ext
  ·
    have phb64 := of_decide_eq_false hb64
    refine region_sp ha 6 [.eq (.pointer (some ⟨g62, 0, none⟩)), .eq (.bool false), .eq (.pointer (some ⟨g62, 1, none⟩)), .eq (.slice A1 (nl x.natAbs) c1), .eq (nV x.natAbs), .eq (zV ((x.natAbs : Nat) : Int))] [] [] (fun _ hb => by cases hb)
      ⟨d_val, d_loadb hs 1 hb64, d_val, d_load hs 1, d_call (fun _ hw => chnat hx _ ((hs.go hw).get 0 rfl) (by omega)), d_call (fun _ hw => from_any false hx (by omega) _), trivial⟩ ?_
    intro vv wd1 ac hw hG hN ha
    have ha := ha.sub [(0, riV x A1 c1), (2, .pointer (some ⟨g63, 0, none⟩)), (8, zV ((x.natAbs : Nat) : Int))]
    clear hG hN
    have hs := hs.go hw
    clear hw
    refine keeps_nil ?_
    show wpList _ _ _ _ _ _
    refine s_store ha hs 0 _ fun ac wd ha hs => ?_
    refine wpList_nil ((x_normal ?_))
    refine wp_ret (ret_at ha hs rfl [zV ((x.natAbs : Nat) : Int)] ⟨⟨0, _, _, _, rfl, rfl, by kernel_rfl⟩, trivial⟩ ?_)
    exact ret_z (by omega) hs.ext
  
set_option maxHeartbeats 1000000 in
theorem coutint {k : Nat} {x : Int} (hx : Sm k x.natAbs) (w : World) (hk : k ≤ 549755813888) : Calls Tryz.prog 132 #[zV x] w (RetS (RI x) w) := by
  have hs := St.start w
  refine enter Tryz.func132 rfl Tryz.ntmps132 (by kernel_rfl) fun ac ha => ?_
  refine wp_seq ?_
  refine wp_region_lit ?_
  refine s_box ha hs [.bool (decide (x < 0)), .int .u64 (lo x.natAbs : Nat), .string (hi x.natAbs)] fun g67 ac wd ha hs => ?_
  refine s_alloc ha hs [.bool false, .slice none 0 0] fun g68 ac wd ha hs => ?_
  refine wpList_nil ((x_normal ?_))
  refine wp_seq ?_
  rcases Bool.eq_false_or_eq_true (decide (x.sign < 0)) with hb69 | hb69
  ·
    have phb69 := of_decide_eq_true hb69
    refine region_sp ha 7 [.eq (zV x), .eq (.int .i64 x.sign), .eq (.bool true), .eq (zV x), .eq (nV x.natAbs), .pr (R32 x.natAbs) fun _ _ _ e h => h.ext e, .pr (RI (-((x.natAbs : Nat) : Int))) fun _ _ _ e h => h.ext e] [] [] (fun _ hb => by cases hb)
      ⟨d_load hs 1, d_call (fun _ hw => zsign hx _ (by omega)), d_bool (b := decide (x.sign < 0)) hb69, d_load hs 1, d_call (fun _ hw => zabs x _), d_callP (fun u => #[nV x.natAbs]) (fun u _ hw hj => coutnat hx _ (by omega)), d_callP (fun u => #[.bool true, u 5]) (fun u _ hw hj => ri_any true _ (hj 5 (by kernel_rfl))), trivial⟩ ?_
    intro vv wd1 ac hw hG hN ha
    have ha := ha.sub [(0, zV x), (2, .pointer (some ⟨g68, 0, none⟩)), (9, vv 6)]
    have h_6 : (RI (-((x.natAbs : Nat) : Int))) (vv 6) wd1 := hG 6 9 (by decide) rfl
    clear hG hN
    have hs := hs.go hw
    obtain ⟨Ai71, ci71, e71, r71⟩ := h_6
    rw [e71] at ha
    clear e71
    have hs := hs.add32 r71 (by kernel_rfl)
    clear hw
    refine keeps_nil ?_
    show wpList _ _ _ _ _ _
    refine s_store ha hs 0 _ fun ac wd ha hs => ?_
    refine wpList_nil ((x_normal ?_))
    refine wp_ret (ret_at ha hs rfl [riV (-((x.natAbs : Nat) : Int)) Ai71 ci71] ⟨⟨0, _, _, _, rfl, rfl, by kernel_rfl⟩, trivial⟩ ?_)
    exact ret_ri (by have := sign_lt x; omega) hs.ext (hs.get 0 rfl)
  ·
    have phb69 := of_decide_eq_false hb69
    refine region_sp ha 7 [.eq (zV x), .eq (.int .i64 x.sign), .eq (.bool false), .eq (zV x), .eq (nV x.natAbs), .pr (R32 x.natAbs) fun _ _ _ e h => h.ext e, .pr (RI ((x.natAbs : Nat) : Int)) fun _ _ _ e h => h.ext e] [] [] (fun _ hb => by cases hb)
      ⟨d_load hs 1, d_call (fun _ hw => zsign hx _ (by omega)), d_bool (b := decide (x.sign < 0)) hb69, d_load hs 1, d_call (fun _ hw => zabs x _), d_callP (fun u => #[nV x.natAbs]) (fun u _ hw hj => coutnat hx _ (by omega)), d_callP (fun u => #[.bool false, u 5]) (fun u _ hw hj => ri_any false _ (hj 5 (by kernel_rfl))), trivial⟩ ?_
    intro vv wd1 ac hw hG hN ha
    have ha := ha.sub [(0, zV x), (2, .pointer (some ⟨g68, 0, none⟩)), (9, vv 6)]
    have h_6 : (RI ((x.natAbs : Nat) : Int)) (vv 6) wd1 := hG 6 9 (by decide) rfl
    clear hG hN
    have hs := hs.go hw
    obtain ⟨Ai73, ci73, e73, r73⟩ := h_6
    rw [e73] at ha
    clear e73
    have hs := hs.add32 r73 (by kernel_rfl)
    clear hw
    refine keeps_nil ?_
    show wpList _ _ _ _ _ _
    refine s_store ha hs 0 _ fun ac wd ha hs => ?_
    refine wpList_nil ((x_normal ?_))
    refine wp_ret (ret_at ha hs rfl [riV ((x.natAbs : Nat) : Int) Ai73 ci73] ⟨⟨0, _, _, _, rfl, rfl, by kernel_rfl⟩, trivial⟩ ?_)
    exact ret_ri (by have := sign_lt x; omega) hs.ext (hs.get 0 rfl)
  
set_option maxHeartbeats 1000000 in
theorem riof (n : Int) (h1 : -9223372036854775808 ≤ n) (h2 : n ≤ 9223372036854775807) (w : World) : Calls Tryz.prog 110 #[.int .i64 n] w (RetS (RI n) w) := by
  have hs := St.start w
  refine enter Tryz.func110 rfl Tryz.ntmps110 (by kernel_rfl) fun ac ha => ?_
  refine wp_seq ?_
  refine wp_region_lit ?_
  refine s_alloc ha hs [.bool false, .slice none 0 0] fun g74 ac wd ha hs => ?_
  refine wpList_nil ((x_normal ?_))
  refine wp_seq ?_
  refine wp_seq ?_
  refine wp_region_lit ?_
  refine s_val ha (.int .i64 n) fun ac ha => ?_
  rcases Bool.eq_false_or_eq_true (decide (n < 0)) with hb75 | hb75
  ·
    have phb75 := of_decide_eq_true hb75
    refine s_bool ha (b := decide (n < 0)) true hb75 fun ac ha => ?_
    refine wpList_nil ((x_normal ?_))
    refine r_true ha ?_
    refine wp_seq ?_
    refine wp_region_lit ?_
    refine s_val ha (.int .i64 n) fun ac ha => ?_
    refine s_val ha (.int .u64 (IntKind.u64.wrap n)) fun ac ha => ?_
    refine s_eq ha (.int .u64 ((n.natAbs : Nat) : Int)) (neg_conv phb75 h1) fun ac ha => ?_
    refine s_callP ha hs (refOf_any n.natAbs (by unfold B64; omega) _) fun u ac wd hp ha hs => ?_
    obtain ⟨Ai76, ci76, rfl⟩ := hp.form
    have hs := hs.add32 hp (by kernel_rfl)
    refine s_callP ha hs (ri_any true _ (hs.get 0 rfl)) fun u ac wd hp ha hs => ?_
    obtain ⟨Ai77, ci77, rfl, r77⟩ := hp
    have hs := hs.add32 r77 (by kernel_rfl)
    refine s_store ha hs 0 _ fun ac wd ha hs => ?_
    refine wpList_nil ((x_normal ?_))
    refine wp_ret (x_ret (ret_at ha hs rfl [riV (-((n.natAbs : Nat) : Int)) Ai77 ci77] ⟨⟨0, _, _, _, rfl, rfl, by kernel_rfl⟩, trivial⟩ ?_))
    exact ret_ri (by omega) hs.ext (hs.get 0 rfl)
  ·
    have phb75 := of_decide_eq_false hb75
    refine s_bool ha (b := decide (n < 0)) false hb75 fun ac ha => ?_
    refine wpList_nil ((x_normal ?_))
    refine r_false ha ?_
    refine wp_skip ((x_normal ?_))
    refine wp_seq ?_
    refine wp_region_lit ?_
    refine s_val ha (.int .i64 n) fun ac ha => ?_
    refine s_eq ha (.int .u64 ((n.natAbs : Nat) : Int)) (pos_conv phb75 h2) fun ac ha => ?_
    refine s_callP ha hs (refOf_any n.natAbs (by unfold B64; omega) _) fun u ac wd hp ha hs => ?_
    obtain ⟨Ai78, ci78, rfl⟩ := hp.form
    have hs := hs.add32 hp (by kernel_rfl)
    refine s_callP ha hs (ri_any false _ (hs.get 0 rfl)) fun u ac wd hp ha hs => ?_
    obtain ⟨Ai79, ci79, rfl, r79⟩ := hp
    have hs := hs.add32 r79 (by kernel_rfl)
    refine s_store ha hs 0 _ fun ac wd ha hs => ?_
    refine wpList_nil ((x_normal ?_))
    refine wp_ret (ret_at ha hs rfl [riV ((n.natAbs : Nat) : Int) Ai79 ci79] ⟨⟨0, _, _, _, rfl, rfl, by kernel_rfl⟩, trivial⟩ ?_)
    exact ret_ri (by omega) hs.ext (hs.get 0 rfl)
  
set_option maxHeartbeats 1000000 in
theorem zof (n : Int) (h1 : -9223372036854775808 ≤ n) (h2 : n ≤ 9223372036854775807) (w : World) : Calls Tryz.prog 109 #[.int .i64 n] w (Ret (zV n) w) := by
  have hs := St.start w
  refine enter Tryz.func109 rfl Tryz.ntmps109 (by kernel_rfl) fun ac ha => ?_
  refine wp_seq ?_
  refine wp_region_lit ?_
  refine s_alloc ha hs [.bool false, .int .u64 0, .string (⟨#[]⟩)] fun g80 ac wd ha hs => ?_
  refine wpList_nil ((x_normal ?_))
  refine wp_seq ?_
  refine wp_seq ?_
  refine wp_region_lit ?_
  refine s_val ha (.int .i64 n) fun ac ha => ?_
  rcases Bool.eq_false_or_eq_true (decide (n < 0)) with hb81 | hb81
  ·
    have phb81 := of_decide_eq_true hb81
    refine s_bool ha (b := decide (n < 0)) true hb81 fun ac ha => ?_
    refine wpList_nil ((x_normal ?_))
    refine r_true ha ?_
    refine wp_seq ?_
    refine wp_region_lit ?_
    refine s_val ha (.int .i64 n) fun ac ha => ?_
    refine s_val ha (.int .u64 (IntKind.u64.wrap n)) fun ac ha => ?_
    refine s_eq ha (.int .u64 ((n.natAbs : Nat) : Int)) (neg_conv phb81 h1) fun ac ha => ?_
    refine s_call ha hs (nV n.natAbs) (cof n.natAbs (by unfold B64; omega) _) fun ac wd ha hs => ?_
    refine s_val ha (.agg #[.bool true, .int .u64 (lo n.natAbs : Nat), .string (hi n.natAbs)]) fun ac ha => ?_
    refine s_store ha hs 0 _ fun ac wd ha hs => ?_
    refine wpList_nil ((x_normal ?_))
    refine wp_ret (x_ret (ret_at ha hs rfl [.agg #[.bool true, .int .u64 (lo n.natAbs : Nat), .string (hi n.natAbs)]] ⟨⟨0, _, _, _, rfl, rfl, by kernel_rfl⟩, trivial⟩ ?_))
    exact ⟨of_val hb81, hs.ext⟩
  ·
    have phb81 := of_decide_eq_false hb81
    refine s_bool ha (b := decide (n < 0)) false hb81 fun ac ha => ?_
    refine wpList_nil ((x_normal ?_))
    refine r_false ha ?_
    refine wp_skip ((x_normal ?_))
    refine wp_seq ?_
    refine wp_region_lit ?_
    refine s_val ha (.int .i64 n) fun ac ha => ?_
    refine s_eq ha (.int .u64 ((n.natAbs : Nat) : Int)) (pos_conv phb81 h2) fun ac ha => ?_
    refine s_call ha hs (nV n.natAbs) (cof n.natAbs (by unfold B64; omega) _) fun ac wd ha hs => ?_
    refine s_val ha (.agg #[.bool false, .int .u64 (lo n.natAbs : Nat), .string (hi n.natAbs)]) fun ac ha => ?_
    refine s_store ha hs 0 _ fun ac wd ha hs => ?_
    refine wpList_nil ((x_normal ?_))
    refine wp_ret (ret_at ha hs rfl [.agg #[.bool false, .int .u64 (lo n.natAbs : Nat), .string (hi n.natAbs)]] ⟨⟨0, _, _, _, rfl, rfl, by kernel_rfl⟩, trivial⟩ ?_)
    exact ⟨of_val hb81, hs.ext⟩
  
set_option maxHeartbeats 1000000 in
theorem ridiv {j k : Nat} {x y : Int} (hx : Sm j x.natAbs) (hy : Sm k y.natAbs) (h0 : y ≠ 0) {v1 v2 : Value} (w : World) (q1 : RI x v1 w) (q2 : RI y v2 w) (hk : max j k ≤ 34359738368) : Calls Tryz.prog 127 #[v1, v2] w (RetS (RI2 (x.fdiv y) (x.fmod y)) w) := by
  obtain ⟨A1, c1, rfl, r1⟩ := q1
  obtain ⟨A2, c2, rfl, r2⟩ := q2
  have hn : decide (y.natAbs = 0) = false := decide_eq_false (by omega)
  have hs := St.start w
  have hs := hs.add32 r1 (by kernel_rfl)
  have hs := hs.add32 r2 (by kernel_rfl)
  refine enter Tryz.func127 rfl Tryz.ntmps127 (by kernel_rfl) fun ac ha => ?_
  refine wp_seq ?_
  refine wp_region_lit ?_
  refine s_box ha hs [.bool (decide (x < 0)), .slice A1 (nl x.natAbs) c1] fun g82 ac wd ha hs => ?_
  refine s_box ha hs [.bool (decide (y < 0)), .slice A2 (nl y.natAbs) c2] fun g83 ac wd ha hs => ?_
  refine s_alloc ha hs [.bool false, .slice none 0 0] fun g84 ac wd ha hs => ?_
  refine s_alloc ha hs [.bool false, .slice none 0 0] fun g85 ac wd ha hs => ?_
  refine wpList_nil ((x_normal ?_))
  refine wp_seq ?_
  refine wp_region_lit ?_
  refine s_val ha (.pointer (some ⟨g82, 1, none⟩)) fun ac ha => ?_
  refine s_load ha hs 3 (.slice A1 (nl x.natAbs) c1) fun ac ha => ?_
  refine s_val ha (.pointer (some ⟨g83, 1, none⟩)) fun ac ha => ?_
  refine s_load ha hs 2 (.slice A2 (nl y.natAbs) c2) fun ac ha => ?_
  refine s_callP ha hs (crdiv2 hx hy (of_decide_eq_false hn) _ (hs.get 1 rfl) (hs.get 0 rfl) (by omega)) fun u ac wd hp ha hs => ?_
  obtain ⟨x86, y86, rfl, p86, q86⟩ := hp
  obtain ⟨Ai87, ci87, rfl⟩ := p86.form
  have hs := hs.add32 p86 (by kernel_rfl)
  obtain ⟨Ai88, ci88, rfl⟩ := q86.form
  have hs := hs.add32 q86 (by kernel_rfl)
  refine s_val ha (.tuple #[.slice Ai87 (nl (x.natAbs / y.natAbs)) ci87, .slice Ai88 (nl (x.natAbs % y.natAbs)) ci88]) fun ac ha => ?_
  refine s_val ha (.slice Ai87 (nl (x.natAbs / y.natAbs)) ci87) fun ac ha => ?_
  refine s_val ha (.slice Ai88 (nl (x.natAbs % y.natAbs)) ci88) fun ac ha => ?_
  refine s_val ha (.slice Ai87 (nl (x.natAbs / y.natAbs)) ci87) fun ac ha => ?_
  refine s_val ha (.slice Ai88 (nl (x.natAbs % y.natAbs)) ci88) fun ac ha => ?_
  refine wpList_nil ((x_normal ?_))
  refine wp_seq ?_
  refine wp_region_lit ?_
  refine s_val ha (.pointer (some ⟨g82, 0, none⟩)) fun ac ha => ?_
  rcases Bool.eq_false_or_eq_true (decide (x < 0)) with hb89 | hb89
  ·
    have phb89 := of_decide_eq_true hb89
    refine s_loadb ha hs 3 true hb89 fun ac ha => ?_
    refine s_val ha (.pointer (some ⟨g83, 0, none⟩)) fun ac ha => ?_
    rcases Bool.eq_false_or_eq_true (decide (y < 0)) with hb90 | hb90
    ·
      have phb90 := of_decide_eq_true hb90
      refine s_loadb ha hs 2 true hb90 fun ac ha => ?_
      refine s_val ha (.bool false) fun ac ha => ?_
      refine s_val ha (.slice Ai87 (nl (x.natAbs / y.natAbs)) ci87) fun ac ha => ?_
      refine s_callP ha hs (ri_any false _ (hs.get 1 rfl)) fun u ac wd hp ha hs => ?_
      obtain ⟨Ai91, ci91, rfl, r91⟩ := hp
      have hs := hs.add32 r91 (by kernel_rfl)
      refine s_alloc ha hs [.bool false, .slice none 0 0] fun g92 ac wd ha hs => ?_
      refine s_store ha hs 0 _ fun ac wd ha hs => ?_
      refine wpList_nil ((x_normal ?_))
      refine wp_seq ?_
      refine wp_seq ?_
      refine wp_region_lit ?_
      refine s_val ha (.pointer (some ⟨g82, 0, none⟩)) fun ac ha => ?_
      refine s_loadb ha hs 4 true hb89 fun ac ha => ?_
      refine s_val ha (.pointer (some ⟨g83, 0, none⟩)) fun ac ha => ?_
      refine s_loadb ha hs 3 true hb90 fun ac ha => ?_
      refine s_val ha (.bool false) fun ac ha => ?_
      refine s_val ha (.bool false) fun ac ha => ?_
      refine s_not ha fun ac ha => ?_
      refine s_not ha fun ac ha => ?_
      refine s_not ha fun ac ha => ?_
      refine s_val ha (.bool false) fun ac ha => ?_
      refine wpList_nil ((x_normal ?_))
      refine r_false ha ?_
      refine wp_skip ((x_normal ?_))
      refine wp_seq ?_
      refine region_sp ha 6 [.eq (riV ((x.natAbs / y.natAbs : Nat) : Int) Ai91 ci91), .eq (riV x A1 c1), .eq (riV ((x.natAbs / y.natAbs : Nat) : Int) Ai91 ci91), .eq (riV y A2 c2), .pr (RI (((x.natAbs / y.natAbs : Nat) : Int) * y)) fun _ _ _ e h => h.ext e, .pr (RI (x - (((x.natAbs / y.natAbs : Nat) : Int) * y))) fun _ _ _ e h => h.ext e] [] [] (fun _ hb => by cases hb)
        ⟨d_load hs 0, d_load hs 4, d_load hs 0, d_load hs 3, d_callP (fun u => #[riV ((x.natAbs / y.natAbs : Nat) : Int) Ai91 ci91, riV y A2 c2]) (fun u _ hw hj => rimul (Sm.cast (hx.div y.natAbs)) hy _ (RI.mk ((hs.go hw).get 0 rfl)) (RI.mk ((hs.go hw).get 3 rfl)) (by omega)), d_callP (fun u => #[riV x A1 c1, u 4]) (fun u _ hw hj => risub hx ((Sm.cast (hx.div y.natAbs)).zmul hy) _ (RI.mk ((hs.go hw).get 4 rfl)) (hj 4 (by kernel_rfl)) (by omega)), trivial⟩ ?_
      intro vv wd1 ac hw hG hN ha
      have ha := ha.sub [(0, riV x A1 c1), (1, riV y A2 c2), (2, .pointer (some ⟨g82, 0, none⟩)), (3, .pointer (some ⟨g83, 0, none⟩)), (4, .pointer (some ⟨g84, 0, none⟩)), (5, .pointer (some ⟨g85, 0, none⟩)), (10, .pointer (some ⟨g82, 1, none⟩)), (11, .slice A1 (nl x.natAbs) c1), (12, .pointer (some ⟨g83, 1, none⟩)), (13, .slice A2 (nl y.natAbs) c2), (14, .tuple #[.slice Ai87 (nl (x.natAbs / y.natAbs)) ci87, .slice Ai88 (nl (x.natAbs % y.natAbs)) ci88]), (9, .tuple #[.slice Ai87 (nl (x.natAbs / y.natAbs)) ci87, .slice Ai88 (nl (x.natAbs % y.natAbs)) ci88]), (15, .slice Ai87 (nl (x.natAbs / y.natAbs)) ci87), (16, .slice Ai88 (nl (x.natAbs % y.natAbs)) ci88), (6, .slice Ai87 (nl (x.natAbs / y.natAbs)) ci87), (7, .slice Ai88 (nl (x.natAbs % y.natAbs)) ci88), (17, .pointer (some ⟨g82, 0, none⟩)), (18, .bool true), (19, .pointer (some ⟨g83, 0, none⟩)), (20, .bool true), (21, .bool false), (22, .slice Ai87 (nl (x.natAbs / y.natAbs)) ci87), (23, riV ((x.natAbs / y.natAbs : Nat) : Int) Ai91 ci91), (8, .pointer (some ⟨g92, 0, none⟩)), (24, .pointer (some ⟨g82, 0, none⟩)), (25, .bool true), (26, .pointer (some ⟨g83, 0, none⟩)), (27, .bool true), (28, .bool false), (29, .bool false), (30, undef), (31, undef), (32, undef), (33, .bool false), (37, riV ((x.natAbs / y.natAbs : Nat) : Int) Ai91 ci91), (42, vv 5)]
      have h_5 : (RI (x - (((x.natAbs / y.natAbs : Nat) : Int) * y))) (vv 5) wd1 := hG 5 42 (by decide) rfl
      clear hG hN
      have hs := hs.go hw
      obtain ⟨Ai94, ci94, e94, r94⟩ := h_5
      rw [e94] at ha
      clear e94
      have hs := hs.add32 r94 (by kernel_rfl)
      clear hw
      refine keeps_nil ?_
      show wpList _ _ _ _ _ _
      refine s_store ha hs 2 _ fun ac wd ha hs => ?_
      refine s_store ha hs 1 _ fun ac wd ha hs => ?_
      refine wpList_nil ((x_normal ?_))
      refine wp_ret (ret_at ha hs rfl [riV ((x.natAbs / y.natAbs : Nat) : Int) Ai91 ci91, riV (x - (((x.natAbs / y.natAbs : Nat) : Int) * y)) Ai94 ci94] ⟨⟨2, _, _, _, rfl, rfl, by kernel_rfl⟩, ⟨1, _, _, _, rfl, rfl, by kernel_rfl⟩, trivial⟩ ?_)
      exact ret_ri2 (rd_pos (by omega) true hb89 hb90) hs.ext (hs.get 1 rfl) (hs.get 0 rfl)
    ·
      have phb90 := of_decide_eq_false hb90
      refine s_loadb ha hs 2 false hb90 fun ac ha => ?_
      refine s_val ha (.bool true) fun ac ha => ?_
      refine s_val ha (.slice Ai87 (nl (x.natAbs / y.natAbs)) ci87) fun ac ha => ?_
      refine s_callP ha hs (ri_any true _ (hs.get 1 rfl)) fun u ac wd hp ha hs => ?_
      obtain ⟨Ai95, ci95, rfl, r95⟩ := hp
      have hs := hs.add32 r95 (by kernel_rfl)
      refine s_alloc ha hs [.bool false, .slice none 0 0] fun g96 ac wd ha hs => ?_
      refine s_store ha hs 0 _ fun ac wd ha hs => ?_
      refine wpList_nil ((x_normal ?_))
      refine wp_seq ?_
      refine wp_seq ?_
      refine wp_region_lit ?_
      refine s_val ha (.pointer (some ⟨g82, 0, none⟩)) fun ac ha => ?_
      refine s_loadb ha hs 4 true hb89 fun ac ha => ?_
      refine s_val ha (.pointer (some ⟨g83, 0, none⟩)) fun ac ha => ?_
      refine s_loadb ha hs 3 false hb90 fun ac ha => ?_
      refine s_val ha (.bool true) fun ac ha => ?_
      refine s_val ha (.bool true) fun ac ha => ?_
      refine s_val ha (.slice Ai88 (nl (x.natAbs % y.natAbs)) ci88) fun ac ha => ?_
      refine s_val ha (.int .i64 ((nl (x.natAbs % y.natAbs) : Nat) : Int)) fun ac ha => ?_
      rcases Bool.eq_false_or_eq_true (decide (((nl (x.natAbs % y.natAbs) : Nat) : Int) > 0)) with hb97 | hb97
      ·
        have phb97 := of_decide_eq_true hb97
        refine s_bool ha (b := decide (((nl (x.natAbs % y.natAbs) : Nat) : Int) > 0)) true hb97 fun ac ha => ?_
        refine s_val ha (.bool true) fun ac ha => ?_
        refine wpList_nil ((x_normal ?_))
        refine r_true ha ?_
        refine region_sp ha 3 [.eq (riV (-((x.natAbs / y.natAbs : Nat) : Int)) Ai95 ci95), .pr (RI 1) fun _ _ _ e h => h.ext e, .pr (RI ((-((x.natAbs / y.natAbs : Nat) : Int)) - 1)) fun _ _ _ e h => h.ext e] [] [] (fun _ hb => by cases hb)
          ⟨d_load hs 0, d_callP (fun u => #[.int .i64 1]) (fun u _ hw hj => riof 1 (by omega) (by omega) _), d_callP (fun u => #[riV (-((x.natAbs / y.natAbs : Nat) : Int)) Ai95 ci95, u 1]) (fun u _ hw hj => risub (Sm.neg_cast (hx.div y.natAbs)) (Sm.i64 (by omega) (by omega)) _ (RI.mk ((hs.go hw).get 0 rfl)) (hj 1 (by kernel_rfl)) (by omega)), trivial⟩ ?_
        intro vv wd1 ac hw hG hN ha
        have ha := ha.sub [(0, riV x A1 c1), (1, riV y A2 c2), (2, .pointer (some ⟨g82, 0, none⟩)), (3, .pointer (some ⟨g83, 0, none⟩)), (4, .pointer (some ⟨g84, 0, none⟩)), (5, .pointer (some ⟨g85, 0, none⟩)), (10, .pointer (some ⟨g82, 1, none⟩)), (11, .slice A1 (nl x.natAbs) c1), (12, .pointer (some ⟨g83, 1, none⟩)), (13, .slice A2 (nl y.natAbs) c2), (14, .tuple #[.slice Ai87 (nl (x.natAbs / y.natAbs)) ci87, .slice Ai88 (nl (x.natAbs % y.natAbs)) ci88]), (9, .tuple #[.slice Ai87 (nl (x.natAbs / y.natAbs)) ci87, .slice Ai88 (nl (x.natAbs % y.natAbs)) ci88]), (15, .slice Ai87 (nl (x.natAbs / y.natAbs)) ci87), (16, .slice Ai88 (nl (x.natAbs % y.natAbs)) ci88), (6, .slice Ai87 (nl (x.natAbs / y.natAbs)) ci87), (7, .slice Ai88 (nl (x.natAbs % y.natAbs)) ci88), (17, .pointer (some ⟨g82, 0, none⟩)), (18, .bool true), (19, .pointer (some ⟨g83, 0, none⟩)), (20, .bool false), (21, .bool true), (22, .slice Ai87 (nl (x.natAbs / y.natAbs)) ci87), (23, riV (-((x.natAbs / y.natAbs : Nat) : Int)) Ai95 ci95), (8, .pointer (some ⟨g96, 0, none⟩)), (24, .pointer (some ⟨g82, 0, none⟩)), (25, .bool true), (26, .pointer (some ⟨g83, 0, none⟩)), (27, .bool false), (28, .bool true), (29, .bool true), (30, .slice Ai88 (nl (x.natAbs % y.natAbs)) ci88), (31, .int .i64 ((nl (x.natAbs % y.natAbs) : Nat) : Int)), (32, .bool true), (33, .bool true), (36, vv 2)]
        have h_2 : (RI ((-((x.natAbs / y.natAbs : Nat) : Int)) - 1)) (vv 2) wd1 := hG 2 36 (by decide) rfl
        clear hG hN
        have hs := hs.go hw
        obtain ⟨Ai99, ci99, e99, r99⟩ := h_2
        rw [e99] at ha
        clear e99
        have hs := hs.add32 r99 (by kernel_rfl)
        clear hw
        refine keeps_nil ?_
        show wpList _ _ _ _ _ _
        refine s_store ha hs 0 _ fun ac wd ha hs => ?_
        refine wpList_nil ((x_normal ?_))
        refine wp_seq ?_
        refine region_sp ha 6 [.eq (riV ((-((x.natAbs / y.natAbs : Nat) : Int)) - 1) Ai99 ci99), .eq (riV x A1 c1), .eq (riV ((-((x.natAbs / y.natAbs : Nat) : Int)) - 1) Ai99 ci99), .eq (riV y A2 c2), .pr (RI (((-((x.natAbs / y.natAbs : Nat) : Int)) - 1) * y)) fun _ _ _ e h => h.ext e, .pr (RI (x - (((-((x.natAbs / y.natAbs : Nat) : Int)) - 1) * y))) fun _ _ _ e h => h.ext e] [] [] (fun _ hb => by cases hb)
          ⟨d_load hs 0, d_load hs 4, d_load hs 0, d_load hs 3, d_callP (fun u => #[riV ((-((x.natAbs / y.natAbs : Nat) : Int)) - 1) Ai99 ci99, riV y A2 c2]) (fun u _ hw hj => rimul ((Sm.neg_cast (hx.div y.natAbs)).zsub (Sm.i64 (by omega) (by omega))) hy _ (RI.mk ((hs.go hw).get 0 rfl)) (RI.mk ((hs.go hw).get 4 rfl)) (by omega)), d_callP (fun u => #[riV x A1 c1, u 4]) (fun u _ hw hj => risub hx (((Sm.neg_cast (hx.div y.natAbs)).zsub (Sm.i64 (by omega) (by omega))).zmul hy) _ (RI.mk ((hs.go hw).get 5 rfl)) (hj 4 (by kernel_rfl)) (by omega)), trivial⟩ ?_
        intro vv wd1 ac hw hG hN ha
        have ha := ha.sub [(0, riV x A1 c1), (1, riV y A2 c2), (2, .pointer (some ⟨g82, 0, none⟩)), (3, .pointer (some ⟨g83, 0, none⟩)), (4, .pointer (some ⟨g84, 0, none⟩)), (5, .pointer (some ⟨g85, 0, none⟩)), (10, .pointer (some ⟨g82, 1, none⟩)), (11, .slice A1 (nl x.natAbs) c1), (12, .pointer (some ⟨g83, 1, none⟩)), (13, .slice A2 (nl y.natAbs) c2), (14, .tuple #[.slice Ai87 (nl (x.natAbs / y.natAbs)) ci87, .slice Ai88 (nl (x.natAbs % y.natAbs)) ci88]), (9, .tuple #[.slice Ai87 (nl (x.natAbs / y.natAbs)) ci87, .slice Ai88 (nl (x.natAbs % y.natAbs)) ci88]), (15, .slice Ai87 (nl (x.natAbs / y.natAbs)) ci87), (16, .slice Ai88 (nl (x.natAbs % y.natAbs)) ci88), (6, .slice Ai87 (nl (x.natAbs / y.natAbs)) ci87), (7, .slice Ai88 (nl (x.natAbs % y.natAbs)) ci88), (17, .pointer (some ⟨g82, 0, none⟩)), (18, .bool true), (19, .pointer (some ⟨g83, 0, none⟩)), (20, .bool false), (21, .bool true), (22, .slice Ai87 (nl (x.natAbs / y.natAbs)) ci87), (23, riV (-((x.natAbs / y.natAbs : Nat) : Int)) Ai95 ci95), (8, .pointer (some ⟨g96, 0, none⟩)), (24, .pointer (some ⟨g82, 0, none⟩)), (25, .bool true), (26, .pointer (some ⟨g83, 0, none⟩)), (27, .bool false), (28, .bool true), (29, .bool true), (30, .slice Ai88 (nl (x.natAbs % y.natAbs)) ci88), (31, .int .i64 ((nl (x.natAbs % y.natAbs) : Nat) : Int)), (32, .bool true), (33, .bool true), (36, riV ((-((x.natAbs / y.natAbs : Nat) : Int)) - 1) Ai99 ci99), (37, riV ((-((x.natAbs / y.natAbs : Nat) : Int)) - 1) Ai99 ci99), (42, vv 5)]
        have h_5 : (RI (x - (((-((x.natAbs / y.natAbs : Nat) : Int)) - 1) * y))) (vv 5) wd1 := hG 5 42 (by decide) rfl
        clear hG hN
        have hs := hs.go hw
        obtain ⟨Ai101, ci101, e101, r101⟩ := h_5
        rw [e101] at ha
        clear e101
        have hs := hs.add32 r101 (by kernel_rfl)
        clear hw
        refine keeps_nil ?_
        show wpList _ _ _ _ _ _
        refine s_store ha hs 2 _ fun ac wd ha hs => ?_
        refine s_store ha hs 1 _ fun ac wd ha hs => ?_
        refine wpList_nil ((x_normal ?_))
        refine wp_ret (ret_at ha hs rfl [riV ((-((x.natAbs / y.natAbs : Nat) : Int)) - 1) Ai99 ci99, riV (x - (((-((x.natAbs / y.natAbs : Nat) : Int)) - 1) * y)) Ai101 ci101] ⟨⟨2, _, _, _, rfl, rfl, by kernel_rfl⟩, ⟨1, _, _, _, rfl, rfl, by kernel_rfl⟩, trivial⟩ ?_)
        exact ret_ri2 (rd_neg1 (by omega) true false hb89 hb90 rfl (by have := of_decide_eq_true (nl_gt hb97); omega)) hs.ext (hs.get 1 rfl) (hs.get 0 rfl)
      ·
        have phb97 := of_decide_eq_false hb97
        refine s_bool ha (b := decide (((nl (x.natAbs % y.natAbs) : Nat) : Int) > 0)) false hb97 fun ac ha => ?_
        refine s_val ha (.bool false) fun ac ha => ?_
        refine wpList_nil ((x_normal ?_))
        refine r_false ha ?_
        refine wp_skip ((x_normal ?_))
        refine wp_seq ?_
        refine region_sp ha 6 [.eq (riV (-((x.natAbs / y.natAbs : Nat) : Int)) Ai95 ci95), .eq (riV x A1 c1), .eq (riV (-((x.natAbs / y.natAbs : Nat) : Int)) Ai95 ci95), .eq (riV y A2 c2), .pr (RI ((-((x.natAbs / y.natAbs : Nat) : Int)) * y)) fun _ _ _ e h => h.ext e, .pr (RI (x - ((-((x.natAbs / y.natAbs : Nat) : Int)) * y))) fun _ _ _ e h => h.ext e] [] [] (fun _ hb => by cases hb)
          ⟨d_load hs 0, d_load hs 4, d_load hs 0, d_load hs 3, d_callP (fun u => #[riV (-((x.natAbs / y.natAbs : Nat) : Int)) Ai95 ci95, riV y A2 c2]) (fun u _ hw hj => rimul (Sm.neg_cast (hx.div y.natAbs)) hy _ (RI.mk ((hs.go hw).get 0 rfl)) (RI.mk ((hs.go hw).get 3 rfl)) (by omega)), d_callP (fun u => #[riV x A1 c1, u 4]) (fun u _ hw hj => risub hx ((Sm.neg_cast (hx.div y.natAbs)).zmul hy) _ (RI.mk ((hs.go hw).get 4 rfl)) (hj 4 (by kernel_rfl)) (by omega)), trivial⟩ ?_
        intro vv wd1 ac hw hG hN ha
        have ha := ha.sub [(0, riV x A1 c1), (1, riV y A2 c2), (2, .pointer (some ⟨g82, 0, none⟩)), (3, .pointer (some ⟨g83, 0, none⟩)), (4, .pointer (some ⟨g84, 0, none⟩)), (5, .pointer (some ⟨g85, 0, none⟩)), (10, .pointer (some ⟨g82, 1, none⟩)), (11, .slice A1 (nl x.natAbs) c1), (12, .pointer (some ⟨g83, 1, none⟩)), (13, .slice A2 (nl y.natAbs) c2), (14, .tuple #[.slice Ai87 (nl (x.natAbs / y.natAbs)) ci87, .slice Ai88 (nl (x.natAbs % y.natAbs)) ci88]), (9, .tuple #[.slice Ai87 (nl (x.natAbs / y.natAbs)) ci87, .slice Ai88 (nl (x.natAbs % y.natAbs)) ci88]), (15, .slice Ai87 (nl (x.natAbs / y.natAbs)) ci87), (16, .slice Ai88 (nl (x.natAbs % y.natAbs)) ci88), (6, .slice Ai87 (nl (x.natAbs / y.natAbs)) ci87), (7, .slice Ai88 (nl (x.natAbs % y.natAbs)) ci88), (17, .pointer (some ⟨g82, 0, none⟩)), (18, .bool true), (19, .pointer (some ⟨g83, 0, none⟩)), (20, .bool false), (21, .bool true), (22, .slice Ai87 (nl (x.natAbs / y.natAbs)) ci87), (23, riV (-((x.natAbs / y.natAbs : Nat) : Int)) Ai95 ci95), (8, .pointer (some ⟨g96, 0, none⟩)), (24, .pointer (some ⟨g82, 0, none⟩)), (25, .bool true), (26, .pointer (some ⟨g83, 0, none⟩)), (27, .bool false), (28, .bool true), (29, .bool true), (30, .slice Ai88 (nl (x.natAbs % y.natAbs)) ci88), (31, .int .i64 ((nl (x.natAbs % y.natAbs) : Nat) : Int)), (32, .bool false), (33, .bool false), (37, riV (-((x.natAbs / y.natAbs : Nat) : Int)) Ai95 ci95), (42, vv 5)]
        have h_5 : (RI (x - ((-((x.natAbs / y.natAbs : Nat) : Int)) * y))) (vv 5) wd1 := hG 5 42 (by decide) rfl
        clear hG hN
        have hs := hs.go hw
        obtain ⟨Ai103, ci103, e103, r103⟩ := h_5
        rw [e103] at ha
        clear e103
        have hs := hs.add32 r103 (by kernel_rfl)
        clear hw
        refine keeps_nil ?_
        show wpList _ _ _ _ _ _
        refine s_store ha hs 2 _ fun ac wd ha hs => ?_
        refine s_store ha hs 1 _ fun ac wd ha hs => ?_
        refine wpList_nil ((x_normal ?_))
        refine wp_ret (ret_at ha hs rfl [riV (-((x.natAbs / y.natAbs : Nat) : Int)) Ai95 ci95, riV (x - ((-((x.natAbs / y.natAbs : Nat) : Int)) * y)) Ai103 ci103] ⟨⟨2, _, _, _, rfl, rfl, by kernel_rfl⟩, ⟨1, _, _, _, rfl, rfl, by kernel_rfl⟩, trivial⟩ ?_)
        exact ret_ri2 (rd_neg0 (by omega) true false hb89 hb90 rfl (by have := of_decide_eq_false (nl_gt hb97); omega)) hs.ext (hs.get 1 rfl) (hs.get 0 rfl)
  ·
    have phb89 := of_decide_eq_false hb89
    refine s_loadb ha hs 3 false hb89 fun ac ha => ?_
    refine s_val ha (.pointer (some ⟨g83, 0, none⟩)) fun ac ha => ?_
    rcases Bool.eq_false_or_eq_true (decide (y < 0)) with hb104 | hb104
    ·
      have phb104 := of_decide_eq_true hb104
      refine s_loadb ha hs 2 true hb104 fun ac ha => ?_
      refine s_val ha (.bool true) fun ac ha => ?_
      refine s_val ha (.slice Ai87 (nl (x.natAbs / y.natAbs)) ci87) fun ac ha => ?_
      refine s_callP ha hs (ri_any true _ (hs.get 1 rfl)) fun u ac wd hp ha hs => ?_
      obtain ⟨Ai105, ci105, rfl, r105⟩ := hp
      have hs := hs.add32 r105 (by kernel_rfl)
      refine s_alloc ha hs [.bool false, .slice none 0 0] fun g106 ac wd ha hs => ?_
      refine s_store ha hs 0 _ fun ac wd ha hs => ?_
      refine wpList_nil ((x_normal ?_))
      refine wp_seq ?_
      refine wp_seq ?_
      refine wp_region_lit ?_
      refine s_val ha (.pointer (some ⟨g82, 0, none⟩)) fun ac ha => ?_
      refine s_loadb ha hs 4 false hb89 fun ac ha => ?_
      refine s_val ha (.pointer (some ⟨g83, 0, none⟩)) fun ac ha => ?_
      refine s_loadb ha hs 3 true hb104 fun ac ha => ?_
      refine s_val ha (.bool true) fun ac ha => ?_
      refine s_val ha (.bool true) fun ac ha => ?_
      refine s_val ha (.slice Ai88 (nl (x.natAbs % y.natAbs)) ci88) fun ac ha => ?_
      refine s_val ha (.int .i64 ((nl (x.natAbs % y.natAbs) : Nat) : Int)) fun ac ha => ?_
      rcases Bool.eq_false_or_eq_true (decide (((nl (x.natAbs % y.natAbs) : Nat) : Int) > 0)) with hb107 | hb107
      ·
        have phb107 := of_decide_eq_true hb107
        refine s_bool ha (b := decide (((nl (x.natAbs % y.natAbs) : Nat) : Int) > 0)) true hb107 fun ac ha => ?_
        refine s_val ha (.bool true) fun ac ha => ?_
        refine wpList_nil ((x_normal ?_))
        refine r_true ha ?_
        refine region_sp ha 3 [.eq (riV (-((x.natAbs / y.natAbs : Nat) : Int)) Ai105 ci105), .pr (RI 1) fun _ _ _ e h => h.ext e, .pr (RI ((-((x.natAbs / y.natAbs : Nat) : Int)) - 1)) fun _ _ _ e h => h.ext e] [] [] (fun _ hb => by cases hb)
          ⟨d_load hs 0, d_callP (fun u => #[.int .i64 1]) (fun u _ hw hj => riof 1 (by omega) (by omega) _), d_callP (fun u => #[riV (-((x.natAbs / y.natAbs : Nat) : Int)) Ai105 ci105, u 1]) (fun u _ hw hj => risub (Sm.neg_cast (hx.div y.natAbs)) (Sm.i64 (by omega) (by omega)) _ (RI.mk ((hs.go hw).get 0 rfl)) (hj 1 (by kernel_rfl)) (by omega)), trivial⟩ ?_
        intro vv wd1 ac hw hG hN ha
        have ha := ha.sub [(0, riV x A1 c1), (1, riV y A2 c2), (2, .pointer (some ⟨g82, 0, none⟩)), (3, .pointer (some ⟨g83, 0, none⟩)), (4, .pointer (some ⟨g84, 0, none⟩)), (5, .pointer (some ⟨g85, 0, none⟩)), (10, .pointer (some ⟨g82, 1, none⟩)), (11, .slice A1 (nl x.natAbs) c1), (12, .pointer (some ⟨g83, 1, none⟩)), (13, .slice A2 (nl y.natAbs) c2), (14, .tuple #[.slice Ai87 (nl (x.natAbs / y.natAbs)) ci87, .slice Ai88 (nl (x.natAbs % y.natAbs)) ci88]), (9, .tuple #[.slice Ai87 (nl (x.natAbs / y.natAbs)) ci87, .slice Ai88 (nl (x.natAbs % y.natAbs)) ci88]), (15, .slice Ai87 (nl (x.natAbs / y.natAbs)) ci87), (16, .slice Ai88 (nl (x.natAbs % y.natAbs)) ci88), (6, .slice Ai87 (nl (x.natAbs / y.natAbs)) ci87), (7, .slice Ai88 (nl (x.natAbs % y.natAbs)) ci88), (17, .pointer (some ⟨g82, 0, none⟩)), (18, .bool false), (19, .pointer (some ⟨g83, 0, none⟩)), (20, .bool true), (21, .bool true), (22, .slice Ai87 (nl (x.natAbs / y.natAbs)) ci87), (23, riV (-((x.natAbs / y.natAbs : Nat) : Int)) Ai105 ci105), (8, .pointer (some ⟨g106, 0, none⟩)), (24, .pointer (some ⟨g82, 0, none⟩)), (25, .bool false), (26, .pointer (some ⟨g83, 0, none⟩)), (27, .bool true), (28, .bool true), (29, .bool true), (30, .slice Ai88 (nl (x.natAbs % y.natAbs)) ci88), (31, .int .i64 ((nl (x.natAbs % y.natAbs) : Nat) : Int)), (32, .bool true), (33, .bool true), (36, vv 2)]
        have h_2 : (RI ((-((x.natAbs / y.natAbs : Nat) : Int)) - 1)) (vv 2) wd1 := hG 2 36 (by decide) rfl
        clear hG hN
        have hs := hs.go hw
        obtain ⟨Ai109, ci109, e109, r109⟩ := h_2
        rw [e109] at ha
        clear e109
        have hs := hs.add32 r109 (by kernel_rfl)
        clear hw
        refine keeps_nil ?_
        show wpList _ _ _ _ _ _
        refine s_store ha hs 0 _ fun ac wd ha hs => ?_
        refine wpList_nil ((x_normal ?_))
        refine wp_seq ?_
        refine region_sp ha 6 [.eq (riV ((-((x.natAbs / y.natAbs : Nat) : Int)) - 1) Ai109 ci109), .eq (riV x A1 c1), .eq (riV ((-((x.natAbs / y.natAbs : Nat) : Int)) - 1) Ai109 ci109), .eq (riV y A2 c2), .pr (RI (((-((x.natAbs / y.natAbs : Nat) : Int)) - 1) * y)) fun _ _ _ e h => h.ext e, .pr (RI (x - (((-((x.natAbs / y.natAbs : Nat) : Int)) - 1) * y))) fun _ _ _ e h => h.ext e] [] [] (fun _ hb => by cases hb)
          ⟨d_load hs 0, d_load hs 4, d_load hs 0, d_load hs 3, d_callP (fun u => #[riV ((-((x.natAbs / y.natAbs : Nat) : Int)) - 1) Ai109 ci109, riV y A2 c2]) (fun u _ hw hj => rimul ((Sm.neg_cast (hx.div y.natAbs)).zsub (Sm.i64 (by omega) (by omega))) hy _ (RI.mk ((hs.go hw).get 0 rfl)) (RI.mk ((hs.go hw).get 4 rfl)) (by omega)), d_callP (fun u => #[riV x A1 c1, u 4]) (fun u _ hw hj => risub hx (((Sm.neg_cast (hx.div y.natAbs)).zsub (Sm.i64 (by omega) (by omega))).zmul hy) _ (RI.mk ((hs.go hw).get 5 rfl)) (hj 4 (by kernel_rfl)) (by omega)), trivial⟩ ?_
        intro vv wd1 ac hw hG hN ha
        have ha := ha.sub [(0, riV x A1 c1), (1, riV y A2 c2), (2, .pointer (some ⟨g82, 0, none⟩)), (3, .pointer (some ⟨g83, 0, none⟩)), (4, .pointer (some ⟨g84, 0, none⟩)), (5, .pointer (some ⟨g85, 0, none⟩)), (10, .pointer (some ⟨g82, 1, none⟩)), (11, .slice A1 (nl x.natAbs) c1), (12, .pointer (some ⟨g83, 1, none⟩)), (13, .slice A2 (nl y.natAbs) c2), (14, .tuple #[.slice Ai87 (nl (x.natAbs / y.natAbs)) ci87, .slice Ai88 (nl (x.natAbs % y.natAbs)) ci88]), (9, .tuple #[.slice Ai87 (nl (x.natAbs / y.natAbs)) ci87, .slice Ai88 (nl (x.natAbs % y.natAbs)) ci88]), (15, .slice Ai87 (nl (x.natAbs / y.natAbs)) ci87), (16, .slice Ai88 (nl (x.natAbs % y.natAbs)) ci88), (6, .slice Ai87 (nl (x.natAbs / y.natAbs)) ci87), (7, .slice Ai88 (nl (x.natAbs % y.natAbs)) ci88), (17, .pointer (some ⟨g82, 0, none⟩)), (18, .bool false), (19, .pointer (some ⟨g83, 0, none⟩)), (20, .bool true), (21, .bool true), (22, .slice Ai87 (nl (x.natAbs / y.natAbs)) ci87), (23, riV (-((x.natAbs / y.natAbs : Nat) : Int)) Ai105 ci105), (8, .pointer (some ⟨g106, 0, none⟩)), (24, .pointer (some ⟨g82, 0, none⟩)), (25, .bool false), (26, .pointer (some ⟨g83, 0, none⟩)), (27, .bool true), (28, .bool true), (29, .bool true), (30, .slice Ai88 (nl (x.natAbs % y.natAbs)) ci88), (31, .int .i64 ((nl (x.natAbs % y.natAbs) : Nat) : Int)), (32, .bool true), (33, .bool true), (36, riV ((-((x.natAbs / y.natAbs : Nat) : Int)) - 1) Ai109 ci109), (37, riV ((-((x.natAbs / y.natAbs : Nat) : Int)) - 1) Ai109 ci109), (42, vv 5)]
        have h_5 : (RI (x - (((-((x.natAbs / y.natAbs : Nat) : Int)) - 1) * y))) (vv 5) wd1 := hG 5 42 (by decide) rfl
        clear hG hN
        have hs := hs.go hw
        obtain ⟨Ai111, ci111, e111, r111⟩ := h_5
        rw [e111] at ha
        clear e111
        have hs := hs.add32 r111 (by kernel_rfl)
        clear hw
        refine keeps_nil ?_
        show wpList _ _ _ _ _ _
        refine s_store ha hs 2 _ fun ac wd ha hs => ?_
        refine s_store ha hs 1 _ fun ac wd ha hs => ?_
        refine wpList_nil ((x_normal ?_))
        refine wp_ret (ret_at ha hs rfl [riV ((-((x.natAbs / y.natAbs : Nat) : Int)) - 1) Ai109 ci109, riV (x - (((-((x.natAbs / y.natAbs : Nat) : Int)) - 1) * y)) Ai111 ci111] ⟨⟨2, _, _, _, rfl, rfl, by kernel_rfl⟩, ⟨1, _, _, _, rfl, rfl, by kernel_rfl⟩, trivial⟩ ?_)
        exact ret_ri2 (rd_neg1 (by omega) false true hb89 hb104 rfl (by have := of_decide_eq_true (nl_gt hb107); omega)) hs.ext (hs.get 1 rfl) (hs.get 0 rfl)
      ·
        have phb107 := of_decide_eq_false hb107
        refine s_bool ha (b := decide (((nl (x.natAbs % y.natAbs) : Nat) : Int) > 0)) false hb107 fun ac ha => ?_
        refine s_val ha (.bool false) fun ac ha => ?_
        refine wpList_nil ((x_normal ?_))
        refine r_false ha ?_
        refine wp_skip ((x_normal ?_))
        refine wp_seq ?_
        refine region_sp ha 6 [.eq (riV (-((x.natAbs / y.natAbs : Nat) : Int)) Ai105 ci105), .eq (riV x A1 c1), .eq (riV (-((x.natAbs / y.natAbs : Nat) : Int)) Ai105 ci105), .eq (riV y A2 c2), .pr (RI ((-((x.natAbs / y.natAbs : Nat) : Int)) * y)) fun _ _ _ e h => h.ext e, .pr (RI (x - ((-((x.natAbs / y.natAbs : Nat) : Int)) * y))) fun _ _ _ e h => h.ext e] [] [] (fun _ hb => by cases hb)
          ⟨d_load hs 0, d_load hs 4, d_load hs 0, d_load hs 3, d_callP (fun u => #[riV (-((x.natAbs / y.natAbs : Nat) : Int)) Ai105 ci105, riV y A2 c2]) (fun u _ hw hj => rimul (Sm.neg_cast (hx.div y.natAbs)) hy _ (RI.mk ((hs.go hw).get 0 rfl)) (RI.mk ((hs.go hw).get 3 rfl)) (by omega)), d_callP (fun u => #[riV x A1 c1, u 4]) (fun u _ hw hj => risub hx ((Sm.neg_cast (hx.div y.natAbs)).zmul hy) _ (RI.mk ((hs.go hw).get 4 rfl)) (hj 4 (by kernel_rfl)) (by omega)), trivial⟩ ?_
        intro vv wd1 ac hw hG hN ha
        have ha := ha.sub [(0, riV x A1 c1), (1, riV y A2 c2), (2, .pointer (some ⟨g82, 0, none⟩)), (3, .pointer (some ⟨g83, 0, none⟩)), (4, .pointer (some ⟨g84, 0, none⟩)), (5, .pointer (some ⟨g85, 0, none⟩)), (10, .pointer (some ⟨g82, 1, none⟩)), (11, .slice A1 (nl x.natAbs) c1), (12, .pointer (some ⟨g83, 1, none⟩)), (13, .slice A2 (nl y.natAbs) c2), (14, .tuple #[.slice Ai87 (nl (x.natAbs / y.natAbs)) ci87, .slice Ai88 (nl (x.natAbs % y.natAbs)) ci88]), (9, .tuple #[.slice Ai87 (nl (x.natAbs / y.natAbs)) ci87, .slice Ai88 (nl (x.natAbs % y.natAbs)) ci88]), (15, .slice Ai87 (nl (x.natAbs / y.natAbs)) ci87), (16, .slice Ai88 (nl (x.natAbs % y.natAbs)) ci88), (6, .slice Ai87 (nl (x.natAbs / y.natAbs)) ci87), (7, .slice Ai88 (nl (x.natAbs % y.natAbs)) ci88), (17, .pointer (some ⟨g82, 0, none⟩)), (18, .bool false), (19, .pointer (some ⟨g83, 0, none⟩)), (20, .bool true), (21, .bool true), (22, .slice Ai87 (nl (x.natAbs / y.natAbs)) ci87), (23, riV (-((x.natAbs / y.natAbs : Nat) : Int)) Ai105 ci105), (8, .pointer (some ⟨g106, 0, none⟩)), (24, .pointer (some ⟨g82, 0, none⟩)), (25, .bool false), (26, .pointer (some ⟨g83, 0, none⟩)), (27, .bool true), (28, .bool true), (29, .bool true), (30, .slice Ai88 (nl (x.natAbs % y.natAbs)) ci88), (31, .int .i64 ((nl (x.natAbs % y.natAbs) : Nat) : Int)), (32, .bool false), (33, .bool false), (37, riV (-((x.natAbs / y.natAbs : Nat) : Int)) Ai105 ci105), (42, vv 5)]
        have h_5 : (RI (x - ((-((x.natAbs / y.natAbs : Nat) : Int)) * y))) (vv 5) wd1 := hG 5 42 (by decide) rfl
        clear hG hN
        have hs := hs.go hw
        obtain ⟨Ai113, ci113, e113, r113⟩ := h_5
        rw [e113] at ha
        clear e113
        have hs := hs.add32 r113 (by kernel_rfl)
        clear hw
        refine keeps_nil ?_
        show wpList _ _ _ _ _ _
        refine s_store ha hs 2 _ fun ac wd ha hs => ?_
        refine s_store ha hs 1 _ fun ac wd ha hs => ?_
        refine wpList_nil ((x_normal ?_))
        refine wp_ret (ret_at ha hs rfl [riV (-((x.natAbs / y.natAbs : Nat) : Int)) Ai105 ci105, riV (x - ((-((x.natAbs / y.natAbs : Nat) : Int)) * y)) Ai113 ci113] ⟨⟨2, _, _, _, rfl, rfl, by kernel_rfl⟩, ⟨1, _, _, _, rfl, rfl, by kernel_rfl⟩, trivial⟩ ?_)
        exact ret_ri2 (rd_neg0 (by omega) false true hb89 hb104 rfl (by have := of_decide_eq_false (nl_gt hb107); omega)) hs.ext (hs.get 1 rfl) (hs.get 0 rfl)
    ·
      have phb104 := of_decide_eq_false hb104
      refine s_loadb ha hs 2 false hb104 fun ac ha => ?_
      refine s_val ha (.bool false) fun ac ha => ?_
      refine s_val ha (.slice Ai87 (nl (x.natAbs / y.natAbs)) ci87) fun ac ha => ?_
      refine s_callP ha hs (ri_any false _ (hs.get 1 rfl)) fun u ac wd hp ha hs => ?_
      obtain ⟨Ai114, ci114, rfl, r114⟩ := hp
      have hs := hs.add32 r114 (by kernel_rfl)
      refine s_alloc ha hs [.bool false, .slice none 0 0] fun g115 ac wd ha hs => ?_
      refine s_store ha hs 0 _ fun ac wd ha hs => ?_
      refine wpList_nil ((x_normal ?_))
      refine wp_seq ?_
      refine wp_seq ?_
      refine wp_region_lit ?_
      refine s_val ha (.pointer (some ⟨g82, 0, none⟩)) fun ac ha => ?_
      refine s_loadb ha hs 4 false hb89 fun ac ha => ?_
      refine s_val ha (.pointer (some ⟨g83, 0, none⟩)) fun ac ha => ?_
      refine s_loadb ha hs 3 false hb104 fun ac ha => ?_
      refine s_val ha (.bool false) fun ac ha => ?_
      refine s_val ha (.bool false) fun ac ha => ?_
      refine s_not ha fun ac ha => ?_
      refine s_not ha fun ac ha => ?_
      refine s_not ha fun ac ha => ?_
      refine s_val ha (.bool false) fun ac ha => ?_
      refine wpList_nil ((x_normal ?_))
      refine r_false ha ?_
      refine wp_skip ((x_normal ?_))
      refine wp_seq ?_
      refine region_sp ha 6 [.eq (riV ((x.natAbs / y.natAbs : Nat) : Int) Ai114 ci114), .eq (riV x A1 c1), .eq (riV ((x.natAbs / y.natAbs : Nat) : Int) Ai114 ci114), .eq (riV y A2 c2), .pr (RI (((x.natAbs / y.natAbs : Nat) : Int) * y)) fun _ _ _ e h => h.ext e, .pr (RI (x - (((x.natAbs / y.natAbs : Nat) : Int) * y))) fun _ _ _ e h => h.ext e] [] [] (fun _ hb => by cases hb)
        ⟨d_load hs 0, d_load hs 4, d_load hs 0, d_load hs 3, d_callP (fun u => #[riV ((x.natAbs / y.natAbs : Nat) : Int) Ai114 ci114, riV y A2 c2]) (fun u _ hw hj => rimul (Sm.cast (hx.div y.natAbs)) hy _ (RI.mk ((hs.go hw).get 0 rfl)) (RI.mk ((hs.go hw).get 3 rfl)) (by omega)), d_callP (fun u => #[riV x A1 c1, u 4]) (fun u _ hw hj => risub hx ((Sm.cast (hx.div y.natAbs)).zmul hy) _ (RI.mk ((hs.go hw).get 4 rfl)) (hj 4 (by kernel_rfl)) (by omega)), trivial⟩ ?_
      intro vv wd1 ac hw hG hN ha
      have ha := ha.sub [(0, riV x A1 c1), (1, riV y A2 c2), (2, .pointer (some ⟨g82, 0, none⟩)), (3, .pointer (some ⟨g83, 0, none⟩)), (4, .pointer (some ⟨g84, 0, none⟩)), (5, .pointer (some ⟨g85, 0, none⟩)), (10, .pointer (some ⟨g82, 1, none⟩)), (11, .slice A1 (nl x.natAbs) c1), (12, .pointer (some ⟨g83, 1, none⟩)), (13, .slice A2 (nl y.natAbs) c2), (14, .tuple #[.slice Ai87 (nl (x.natAbs / y.natAbs)) ci87, .slice Ai88 (nl (x.natAbs % y.natAbs)) ci88]), (9, .tuple #[.slice Ai87 (nl (x.natAbs / y.natAbs)) ci87, .slice Ai88 (nl (x.natAbs % y.natAbs)) ci88]), (15, .slice Ai87 (nl (x.natAbs / y.natAbs)) ci87), (16, .slice Ai88 (nl (x.natAbs % y.natAbs)) ci88), (6, .slice Ai87 (nl (x.natAbs / y.natAbs)) ci87), (7, .slice Ai88 (nl (x.natAbs % y.natAbs)) ci88), (17, .pointer (some ⟨g82, 0, none⟩)), (18, .bool false), (19, .pointer (some ⟨g83, 0, none⟩)), (20, .bool false), (21, .bool false), (22, .slice Ai87 (nl (x.natAbs / y.natAbs)) ci87), (23, riV ((x.natAbs / y.natAbs : Nat) : Int) Ai114 ci114), (8, .pointer (some ⟨g115, 0, none⟩)), (24, .pointer (some ⟨g82, 0, none⟩)), (25, .bool false), (26, .pointer (some ⟨g83, 0, none⟩)), (27, .bool false), (28, .bool false), (29, .bool false), (30, undef), (31, undef), (32, undef), (33, .bool false), (37, riV ((x.natAbs / y.natAbs : Nat) : Int) Ai114 ci114), (42, vv 5)]
      have h_5 : (RI (x - (((x.natAbs / y.natAbs : Nat) : Int) * y))) (vv 5) wd1 := hG 5 42 (by decide) rfl
      clear hG hN
      have hs := hs.go hw
      obtain ⟨Ai117, ci117, e117, r117⟩ := h_5
      rw [e117] at ha
      clear e117
      have hs := hs.add32 r117 (by kernel_rfl)
      clear hw
      refine keeps_nil ?_
      show wpList _ _ _ _ _ _
      refine s_store ha hs 2 _ fun ac wd ha hs => ?_
      refine s_store ha hs 1 _ fun ac wd ha hs => ?_
      refine wpList_nil ((x_normal ?_))
      refine wp_ret (ret_at ha hs rfl [riV ((x.natAbs / y.natAbs : Nat) : Int) Ai114 ci114, riV (x - (((x.natAbs / y.natAbs : Nat) : Int) * y)) Ai117 ci117] ⟨⟨2, _, _, _, rfl, rfl, by kernel_rfl⟩, ⟨1, _, _, _, rfl, rfl, by kernel_rfl⟩, trivial⟩ ?_)
      exact ret_ri2 (rd_pos (by omega) false hb89 hb104) hs.ext (hs.get 1 rfl) (hs.get 0 rfl)
  end Go.Proofs.YtiloialbglfplaaGreatDoor

namespace Go.Proofs.YtiloialbglfplaaGreatDoor
open Go.RowKit

theorem Sm.take40 (l : List UInt8) : Sm 320 (beN (l.take 40)) := beN_take l 40
theorem ret_two {x y : Int} {A B : Option Addr} {c d : Nat} {w w' : World} (e : Ext w w') (hx : R32 x.natAbs (.slice A (nl x.natAbs) c) w') (hy : R32 y.natAbs (.slice B (nl y.natAbs) d) w') : RetS (Two x y) w (.returned (pack [zV x, zV y, riV x A c, riV y B d])) w' :=
  ⟨_, rfl, ⟨_, _, rfl, RI.mk hx, RI.mk hy⟩, e⟩

set_option maxHeartbeats 1000000 in
theorem two2 (l1 l2 : List UInt8) (v1 v2 : Value) (b1 b2 : Bool) (w : World) (h1 : SlB l1 v1 w) (h2 : SlB l2 v2 w) : Calls Tryz.prog 64 #[v1, v2, .bool b1, .bool b2] w (RetS (Two (sg b1 (beN (l1.take 40))) (sg b2 (beN (l2.take 40)))) w) := by
  obtain ⟨A1, c1, rfl⟩ := h1.form
  obtain ⟨A2, c2, rfl⟩ := h2.form
  have hs := St.start w
  have hs := hs.add8 h1 (by kernel_rfl)
  have hs := hs.add8 h2 (by kernel_rfl)
  refine enter Tryz.func64 rfl Tryz.ntmps64 (by kernel_rfl) fun ac ha => ?_
  refine wp_seq ?_
  refine wp_region_lit ?_
  refine s_alloc ha hs [.bool false, .int .u64 0, .string (⟨#[]⟩)] fun g1 ac wd ha hs => ?_
  refine s_alloc ha hs [.bool false, .int .u64 0, .string (⟨#[]⟩)] fun g2 ac wd ha hs => ?_
  refine s_alloc ha hs [.bool false, .slice none 0 0] fun g3 ac wd ha hs => ?_
  refine s_alloc ha hs [.bool false, .slice none 0 0] fun g4 ac wd ha hs => ?_
  refine wpList_nil ((x_normal ?_))
  refine wp_seq ?_
  refine wp_region_lit ?_
  refine s_val ha (.bool b1) fun ac ha => ?_
  refine s_val ha (.slice A1 l1.length c1) fun ac ha => ?_
  refine s_callP ha hs (few_any l1 _ 40 (by omega) _ (hs.get 1 rfl)) fun u ac wd hp ha hs => ?_
  obtain ⟨Ai5, ci5, rfl⟩ := hp.form
  have hs := hs.add8 hp (by kernel_rfl)
  refine s_callP ha hs (refFrom_any (l1.take 40) _ _ (by simp; omega) (hs.get 0 rfl)) fun u ac wd hp ha hs => ?_
  obtain ⟨Ai6, ci6, rfl⟩ := hp.form
  have hs := hs.add32 hp (by kernel_rfl)
  refine s_callP ha hs (ri_any b1 _ (hs.get 0 rfl)) fun u ac wd hp ha hs => ?_
  obtain ⟨Ai7, ci7, rfl, r7⟩ := hp
  have hs := hs.add32 r7 (by kernel_rfl)
  refine s_alloc ha hs [.bool false, .slice none 0 0] fun g8 ac wd ha hs => ?_
  refine s_store ha hs 0 _ fun ac wd ha hs => ?_
  refine wpList_nil ((x_normal ?_))
  refine wp_seq ?_
  refine wp_region_lit ?_
  refine s_val ha (.bool b2) fun ac ha => ?_
  refine s_val ha (.slice A2 l2.length c2) fun ac ha => ?_
  refine s_callP ha hs (few_any l2 _ 40 (by omega) _ (hs.get 3 rfl)) fun u ac wd hp ha hs => ?_
  obtain ⟨Ai9, ci9, rfl⟩ := hp.form
  have hs := hs.add8 hp (by kernel_rfl)
  refine s_callP ha hs (refFrom_any (l2.take 40) _ _ (by simp; omega) (hs.get 0 rfl)) fun u ac wd hp ha hs => ?_
  obtain ⟨Ai10, ci10, rfl⟩ := hp.form
  have hs := hs.add32 hp (by kernel_rfl)
  refine s_callP ha hs (ri_any b2 _ (hs.get 0 rfl)) fun u ac wd hp ha hs => ?_
  obtain ⟨Ai11, ci11, rfl, r11⟩ := hp
  have hs := hs.add32 r11 (by kernel_rfl)
  refine s_alloc ha hs [.bool false, .slice none 0 0] fun g12 ac wd ha hs => ?_
  refine s_store ha hs 0 _ fun ac wd ha hs => ?_
  refine wpList_nil ((x_normal ?_))
  refine wp_seq ?_
  refine region_sp ha 6 [.eq (riV (sg b1 (beN (l1.take 40))) Ai7 ci7), .eq (zV (sg b1 (beN (l1.take 40)))), .eq (riV (sg b2 (beN (l2.take 40))) Ai11 ci11), .eq (zV (sg b2 (beN (l2.take 40)))), .eq (riV (sg b1 (beN (l1.take 40))) Ai7 ci7), .eq (riV (sg b2 (beN (l2.take 40))) Ai11 ci11)] [false, false, false, false, true, true] [(g8, 65, [.bool (decide (sg b1 (beN (l1.take 40)) < 0)), .slice Ai7 (nl ((sg b1 (beN (l1.take 40))).natAbs)) ci7]), (g12, 65, [.bool (decide (sg b2 (beN (l2.take 40)) < 0)), .slice Ai11 (nl ((sg b2 (beN (l2.take 40))).natAbs)) ci11])] (hs.keeps _ [1, 0])
    ⟨d_load hs 1, d_call (fun _ hw => chint (Sm.sg b1 (Sm.take40 l1)) _ (RI.mk ((hs.go hw).get 3 rfl)) (by omega)), d_load hs 0, d_call (fun _ hw => chint (Sm.sg b2 (Sm.take40 l2)) _ (RI.mk ((hs.go hw).get 0 rfl)) (by omega)), t_load 0, t_load 1, trivial⟩ ?_
  intro vv wd1 ac hw hG hN ha
  have ha := ha.sub [(0, .slice A1 l1.length c1), (1, .slice A2 l2.length c2), (2, .bool b1), (3, .bool b2), (8, .pointer (some ⟨g1, 0, none⟩)), (9, .pointer (some ⟨g2, 0, none⟩)), (10, .pointer (some ⟨g3, 0, none⟩)), (11, .pointer (some ⟨g4, 0, none⟩)), (14, .bool b1), (15, .slice A1 l1.length c1), (16, .slice Ai5 ((l1.take 40).length) ci5), (17, .slice Ai6 (nl (beN (l1.take 40))) ci6), (18, riV (sg b1 (beN (l1.take 40))) Ai7 ci7), (12, .pointer (some ⟨g8, 0, none⟩)), (19, .bool b2), (20, .slice A2 l2.length c2), (21, .slice Ai9 ((l2.take 40).length) ci9), (22, .slice Ai10 (nl (beN (l2.take 40))) ci10), (23, riV (sg b2 (beN (l2.take 40))) Ai11 ci11), (13, .pointer (some ⟨g12, 0, none⟩)), (25, zV (sg b1 (beN (l1.take 40)))), (27, zV (sg b2 (beN (l2.take 40)))), (28, riV (sg b1 (beN (l1.take 40))) Ai7 ci7), (29, riV (sg b2 (beN (l2.take 40))) Ai11 ci11)]
  clear hG hN
  have hs := hs.go hw
  clear hw
  show A4.wpListS _ _ _ _ _ _ _
  refine u_store ha hs [1, 0] 5 _ fun ac wd ha hs => ?_
  refine u_store ha hs [1, 0] 4 _ fun ac wd ha hs => ?_
  refine u_store ha hs [1, 0] 3 _ fun ac wd ha hs => ?_
  refine u_store ha hs [1, 0] 2 _ fun ac wd ha hs => ?_
  refine u_nil ((x_normal ?_))
  refine wp_ret (ret_at ha hs rfl [zV (sg b1 (beN (l1.take 40))), zV (sg b2 (beN (l2.take 40))), riV (sg b1 (beN (l1.take 40))) Ai7 ci7, riV (sg b2 (beN (l2.take 40))) Ai11 ci11] ⟨⟨5, _, _, _, rfl, rfl, by kernel_rfl⟩, ⟨4, _, _, _, rfl, rfl, by kernel_rfl⟩, ⟨3, _, _, _, rfl, rfl, by kernel_rfl⟩, ⟨2, _, _, _, rfl, rfl, by kernel_rfl⟩, trivial⟩ ?_)
  exact ret_two hs.ext (hs.get 3 rfl) (hs.get 0 rfl)
  
set_option maxHeartbeats 1000000 in
theorem is2 {k : Nat} {x : Int} (hx : Sm k x.natAbs) {v1 : Value} (w : World) (q1 : RI x v1 w) (hk : k ≤ 549755813888) : Calls Tryz.prog 73 #[zV x, v1] w (Ret (.bool true) w) := by
  obtain ⟨A1, c1, rfl, r1⟩ := q1
  have hs := St.start w
  have hs := hs.add32 r1 (by kernel_rfl)
  refine enter Tryz.func73 rfl Tryz.ntmps73 (by kernel_rfl) fun ac ha => ?_
  refine wp_seq ?_
  refine wp_region_lit ?_
  refine s_box ha hs [.bool (decide (x < 0)), .int .u64 (lo x.natAbs : Nat), .string (hi x.natAbs)] fun g14 ac wd ha hs => ?_
  refine s_box ha hs [.bool (decide (x < 0)), .slice A1 (nl x.natAbs) c1] fun g15 ac wd ha hs => ?_
  refine s_val ha (.bool false) fun ac ha => ?_
  refine wpList_nil ((x_normal ?_))
  refine wp_seq ?_
  refine wp_region_lit ?_
  refine s_load ha hs 1 (zV x) fun ac ha => ?_
  refine s_callP ha hs (coutint hx _ (by omega)) fun u ac wd hp ha hs => ?_
  obtain ⟨Ai16, ci16, rfl, r16⟩ := hp
  have hs := hs.add32 r16 (by kernel_rfl)
  refine s_alloc ha hs [.bool false, .slice none 0 0] fun g17 ac wd ha hs => ?_
  refine s_store ha hs 0 _ fun ac wd ha hs => ?_
  refine wpList_nil ((x_normal ?_))
  refine wp_seq ?_
  refine wp_region_lit ?_
  refine s_val ha (.pointer (some ⟨g17, 0, none⟩)) fun ac ha => ?_
  rcases Bool.eq_false_or_eq_true (decide (x < 0)) with hb18 | hb18
  ·
    have phb18 := of_decide_eq_true hb18
    refine s_loadb ha hs 0 true hb18 fun ac ha => ?_
    refine s_val ha (.pointer (some ⟨g15, 0, none⟩)) fun ac ha => ?_
    refine s_loadb ha hs 1 true hb18 fun ac ha => ?_
    refine s_val ha (.bool true) fun ac ha => ?_
    refine s_val ha (.bool true) fun ac ha => ?_
    refine s_val ha (.pointer (some ⟨g17, 1, none⟩)) fun ac ha => ?_
    refine s_load ha hs 0 (.slice Ai16 (nl x.natAbs) ci16) fun ac ha => ?_
    refine s_val ha (.pointer (some ⟨g15, 1, none⟩)) fun ac ha => ?_
    refine s_load ha hs 1 (.slice A1 (nl x.natAbs) c1) fun ac ha => ?_
    refine s_call ha hs (.int .i64 0) (crcmp_eq hx hx rfl _ (hs.get 0 rfl) (hs.get 1 rfl) (by omega)) fun ac wd ha hs => ?_
    refine s_val ha (.bool true) fun ac ha => ?_
    refine s_val ha (.bool true) fun ac ha => ?_
    refine s_val ha (.bool true) fun ac ha => ?_
    refine wpList_nil ((x_normal ?_))
    refine wp_ret (ret_at ha hs rfl [.bool true] ⟨rfl, trivial⟩ ?_)
    exact ⟨rfl, hs.ext⟩
  ·
    have phb18 := of_decide_eq_false hb18
    refine s_loadb ha hs 0 false hb18 fun ac ha => ?_
    refine s_val ha (.pointer (some ⟨g15, 0, none⟩)) fun ac ha => ?_
    refine s_loadb ha hs 1 false hb18 fun ac ha => ?_
    refine s_val ha (.bool true) fun ac ha => ?_
    refine s_val ha (.bool true) fun ac ha => ?_
    refine s_val ha (.pointer (some ⟨g17, 1, none⟩)) fun ac ha => ?_
    refine s_load ha hs 0 (.slice Ai16 (nl x.natAbs) ci16) fun ac ha => ?_
    refine s_val ha (.pointer (some ⟨g15, 1, none⟩)) fun ac ha => ?_
    refine s_load ha hs 1 (.slice A1 (nl x.natAbs) c1) fun ac ha => ?_
    refine s_call ha hs (.int .i64 0) (crcmp_eq hx hx rfl _ (hs.get 0 rfl) (hs.get 1 rfl) (by omega)) fun ac wd ha hs => ?_
    refine s_val ha (.bool true) fun ac ha => ?_
    refine s_val ha (.bool true) fun ac ha => ?_
    refine s_val ha (.bool true) fun ac ha => ?_
    refine wpList_nil ((x_normal ?_))
    refine wp_ret (ret_at ha hs rfl [.bool true] ⟨rfl, trivial⟩ ?_)
    exact ⟨rfl, hs.ext⟩
  end Go.Proofs.YtiloialbglfplaaGreatDoor

namespace Go.Proofs.YtiloialbglfplaaGreatDoor
open Go.RowKit

theorem fmod_lt_abs (x : Int) {y : Int} (h : y ≠ 0) : (x.fmod y).natAbs < y.natAbs := by
  rcases Int.lt_or_gt_of_ne h with h | h
  · have h1 := (Int.fdiv_fmod_unique' (a := x) h).1 ⟨rfl, rfl⟩
    omega
  · have h1 := Int.fmod_nonneg_of_pos x h
    have h2 := Int.fmod_lt_of_pos x h
    omega
/-- The loop: last and next number, each with its factor. -/
def bzR (r0 x0 r1 x1 : Int) : Int × Int := if _h : r1 = 0 then (r0, x0) else bzR r1 x1 (r0.fmod r1) (x0 - r0.fdiv r1 * x1)
termination_by r1.natAbs
decreasing_by exact fmod_lt_abs r0 (by assumption)
theorem bzR_zero (r0 x0 x1 : Int) : bzR r0 x0 0 x1 = (r0, x0) := by rw [bzR, dif_pos rfl]
theorem bzR_step {r1 : Int} (h : r1 ≠ 0) (r0 x0 x1 : Int) : bzR r0 x0 r1 x1 = bzR r1 x1 (r0.fmod r1) (x0 - r0.fdiv r1 * x1) := by rw [bzR, dif_neg h]

structure BInv (k : Nat) (a b r0 x0 r1 x1 : Int) : Prop where
  eq : bzR r0 x0 r1 x1 = bzR a 1 b 0
  s0 : Sm k r0.natAbs
  s1 : Sm k r1.natAbs
  det : (x0 * r1 - x1 * r0).natAbs = b.natAbs
  sgn : x0 * x1 ≤ 0
  rr : x1 = 0 ∨ (0 ≤ r0 * r1 ∧ r0 ≠ 0)
  x0b : x0.natAbs ≤ b.natAbs + 1
theorem BInv.start {j k : Nat} {a b : Int} (ha : Sm j a.natAbs) (hb : Sm k b.natAbs) : BInv (max j k) a b a 1 b 0 :=
  ⟨rfl, ha.le (by omega), hb.le (by omega), by simp, by omega, .inl rfl, by simp⟩
theorem BInv.x1b {k : Nat} {a b r0 x0 r1 x1 : Int} (h : BInv k a b r0 x0 r1 x1) : x1.natAbs ≤ b.natAbs := by
  rcases h.rr with h0 | ⟨h1, h2⟩
  · subst h0; simp
  · have hp : (x0 * r1) * (x1 * r0) ≤ 0 := by
      have e : (x0 * r1) * (x1 * r0) = (x0 * x1) * (r0 * r1) := by grind
      rw [e]
      exact Int.mul_nonpos_of_nonpos_of_nonneg h.sgn h1
    have hd := h.det
    have hx : x1.natAbs ≤ (x1 * r0).natAbs := by
      rw [Int.natAbs_mul]
      exact Nat.le_mul_of_pos_right _ (by omega)
    generalize x0 * r1 = p at *
    generalize x1 * r0 = q at *
    have : q.natAbs ≤ (p - q).natAbs := by
      rcases Int.lt_trichotomy p 0 with hp' | hp' | hp'
      · have : 0 ≤ q := by
          rcases Int.lt_or_le q 0 with h' | h'
          · have := Int.mul_pos_of_neg_of_neg hp' h'; omega
          · exact h'
        omega
      · subst hp'; simp
      · have : q ≤ 0 := by
          rcases Int.lt_or_le 0 q with h' | h'
          · have := Int.mul_pos hp' h'; omega
          · exact h'
        omega
    omega
theorem fdiv_nonneg_same {r0 r1 : Int} (h : 0 ≤ r0 * r1) (h1 : r1 ≠ 0) : 0 ≤ r0.fdiv r1 := by
  rcases Int.lt_or_gt_of_ne h1 with h' | h'
  · refine Int.fdiv_nonneg_of_nonpos_of_nonpos ?_ (by omega)
    rcases Int.lt_or_le 0 r0 with h2 | h2
    · have := Int.mul_neg_of_pos_of_neg h2 h'; omega
    · exact h2
  · refine Int.fdiv_nonneg ?_ (by omega)
    rcases Int.lt_or_le r0 0 with h2 | h2
    · have := Int.mul_neg_of_neg_of_pos h2 h'; omega
    · exact h2
theorem fmod_sign (r0 : Int) {r1 : Int} (h1 : r1 ≠ 0) : 0 ≤ r1 * r0.fmod r1 := by
  rcases Int.lt_or_gt_of_ne h1 with h | h
  · have h2 := (Int.fdiv_fmod_unique' (a := r0) h).1 ⟨rfl, rfl⟩
    exact Int.mul_nonneg_of_nonpos_of_nonpos (by omega) h2.2.2
  · exact Int.mul_nonneg (by omega) (Int.fmod_nonneg_of_pos r0 h)
theorem BInv.step {k : Nat} {a b r0 x0 r1 x1 : Int} (h : BInv k a b r0 x0 r1 x1) (h1 : r1 ≠ 0) : BInv k a b r1 x1 (r0.fmod r1) (x0 - r0.fdiv r1 * x1) := by
  have hm := Int.fmod_add_fdiv_mul r0 r1
  refine ⟨by rw [← bzR_step h1]; exact h.eq, h.s1, h.s1.mono (fmod_natAbs_le r0 h1), ?_, ?_, .inr ⟨fmod_sign r0 h1, h1⟩, Nat.le_succ_of_le h.x1b⟩
  · rw [← h.det, ← Int.natAbs_neg]
    congr 1
    generalize r0.fdiv r1 = q at *
    generalize r0.fmod r1 = m at *
    subst hm
    grind
  · rcases h.rr with h0 | ⟨h2, _⟩
    · subst h0; simp
    · have hq := fdiv_nonneg_same h2 h1
      have e : x1 * (x0 - r0.fdiv r1 * x1) = x0 * x1 - r0.fdiv r1 * (x1 * x1) := by grind
      have h3 : 0 ≤ r0.fdiv r1 * (x1 * x1) := Int.mul_nonneg hq (by
        rcases Int.lt_or_le x1 0 with h' | h'
        · exact Int.mul_nonneg_of_nonpos_of_nonpos (by omega) (by omega)
        · exact Int.mul_nonneg h' h')
      have := h.sgn
      omega
/-- At the end. -/
structure BEnd (b r x : Int) : Prop where
  nz : r ≠ 0
  dv : r.natAbs ∣ b.natAbs
  le : r.natAbs ≤ b.natAbs
  xb : x.natAbs ≤ b.natAbs + 1
theorem BInv.fin {k : Nat} {a b r0 x0 x1 : Int} (h : BInv k a b r0 x0 0 x1) (hb : b ≠ 0) : BEnd b r0 x0 := by
  have hd := h.det
  simp only [Int.mul_zero, Int.zero_sub, Int.natAbs_neg, Int.natAbs_mul] at hd
  have h0 : r0 ≠ 0 := by
    intro e
    rw [e] at hd
    simp at hd
    omega
  refine ⟨h0, ⟨x1.natAbs, by rw [Nat.mul_comm]; exact hd.symm⟩, ?_, h.x0b⟩
  rw [← hd]
  refine Nat.le_mul_of_pos_left _ (Nat.pos_of_ne_zero fun e => ?_)
  rw [e] at hd
  simp at hd
  omega

theorem BInv.fin' {k : Nat} {a b r0 x0 r1 x1 : Int} (h : BInv k a b r0 x0 r1 x1) (e : r1 = 0) (hb : b ≠ 0) : BEnd b r0 x0 := by subst e; exact h.fin hb
theorem BInv.out {k : Nat} {a b r0 x0 r1 x1 : Int} (h : BInv k a b r0 x0 r1 x1) (e : r1 = 0) : bzR a 1 b 0 = (r0, x0) := by subst e; rw [← h.eq, bzR_zero]
/-- The greatest common divisor, and the two factors. -/
def bezG (a b : Int) : Int := if b = 0 then (a.natAbs : Int) else ((bzR a 1 b 0).1.natAbs : Int)
def bezP (a b : Int) : Int := ((b.natAbs : Nat) : Int).fdiv (bezG a b)
def bezX (a b : Int) : Int := if b = 0 then a.sign else (if (bzR a 1 b 0).1 < 0 then -(bzR a 1 b 0).2 else (bzR a 1 b 0).2).fmod (bezP a b)
def bezY (a b : Int) : Int := if b = 0 then 0 else (bezG a b - a * bezX a b).fdiv b
theorem BEnd.per {b r x : Int} (h : BEnd b r x) (hb : b ≠ 0) : ((b.natAbs : Nat) : Int).fdiv ((r.natAbs : Nat) : Int) ≠ 0 := by
  obtain ⟨c, hc⟩ := h.dv
  have hr := h.nz
  have e : ((b.natAbs : Nat) : Int) = ((c : Nat) : Int) * ((r.natAbs : Nat) : Int) := by rw [hc, Nat.mul_comm]; simp
  rw [e, Int.fdiv_eq_of_eq_mul_left (by omega) rfl]
  intro e0
  have : c = 0 := by omega
  subst this
  simp at hc
  omega
theorem bezG_pos {a b r x : Int} (hb : b ≠ 0) (h : bzR a 1 b 0 = (r, x)) : bezG a b = ((r.natAbs : Nat) : Int) := by unfold bezG; rw [if_neg hb, h]
theorem bezX_pos {a b r x y : Int} (hb : b ≠ 0) (h : bzR a 1 b 0 = (r, x)) (hy : y = if r < 0 then -x else x) : bezX a b = y.fmod (((b.natAbs : Nat) : Int).fdiv ((r.natAbs : Nat) : Int)) := by
  unfold bezX bezP
  rw [if_neg hb, bezG_pos hb h, h, hy]
theorem bezY_pos {a b : Int} (hb : b ≠ 0) : bezY a b = (bezG a b - a * bezX a b).fdiv b := by unfold bezY; rw [if_neg hb]
theorem bz64 : bzR 6 1 4 0 = (2, 1) := by
  rw [bzR_step (by decide), show (6 : Int).fmod 4 = 2 from rfl, bzR_step (by decide), show (4 : Int).fmod 2 = 0 from rfl, bzR_zero]
  rfl
theorem bez64 : bezG 6 4 = 2 ∧ bezX 6 4 = 1 ∧ bezY 6 4 = -1 := by
  have hg : bezG 6 4 = 2 := bezG_pos (by decide) bz64
  have hx : bezX 6 4 = 1 := (bezX_pos (y := 1) (by decide) bz64 rfl).trans rfl
  refine ⟨hg, hx, ?_⟩
  rw [bezY_pos (by decide), hg, hx]
  rfl
end Go.Proofs.YtiloialbglfplaaGreatDoor

namespace Go.Proofs.YtiloialbglfplaaGreatDoor
open Go.RowKit

theorem zsign0 {x : Int} (h : x = 0) (W : World) : Calls Tryz.prog 80 #[zV x] W (Ret (.int .i64 0) W) := by subst h; exact zsign (k := 1) (by simpa using Sm.zero 1) W (by omega)
theorem sgn_ne {x : Int} (h : decide (x = 0) = false) : (x.sign == 0) = false := by
  have := of_decide_eq_false h
  rw [beq_eq_false_iff_ne]
  intro e
  exact this (Int.sign_eq_zero_iff_zero.1 e)
theorem sgn_bne {x : Int} (h : decide (x = 0) = false) : (x.sign != 0) = true := by
  rw [bne, sgn_ne h]; rfl
theorem sign_lo (x : Int) : -9223372036854775808 ≤ x.sign := by
  rcases Int.lt_trichotomy x 0 with h | h | h
  · rw [Int.sign_eq_neg_one_of_neg h]; omega
  · rw [h]; decide
  · rw [Int.sign_eq_one_of_pos h]; omega
theorem sign_hi (x : Int) : x.sign ≤ 9223372036854775807 := by
  rcases Int.lt_trichotomy x 0 with h | h | h
  · rw [Int.sign_eq_neg_one_of_neg h]; omega
  · rw [h]; decide
  · rw [Int.sign_eq_one_of_pos h]; omega
theorem ret_zzz {g x y g' x' y' : Int} {w w' : World} (h1 : g = g') (h2 : x = x') (h3 : y = y') (e : Ext w w') : Ret (.tuple #[zV g', zV x', zV y']) w (.returned (pack [zV g, zV x, zV y])) w' := by subst h1; subst h2; subst h3; exact ⟨rfl, e⟩
theorem Sm.le_abs {k : Nat} {x b : Int} (hb : Sm k b.natAbs) (h : x.natAbs ≤ b.natAbs + 1) : Sm (max k 1 + 1) x.natAbs := (hb.add Sm.one).mono h

set_option maxHeartbeats 1000000 in
theorem zbez {j k : Nat} {a b : Int} (ha0 : Sm j a.natAbs) (hb0 : Sm k b.natAbs) (w : World) (hk : max j k ≤ 68719476736) : Calls Tryz.prog 70 #[zV a, zV b] w (Ret (.tuple #[zV (bezG a b), zV (bezX a b), zV (bezY a b)]) w) := by
  have hs := St.start w
  refine enter Tryz.func70 rfl Tryz.ntmps70 (by kernel_rfl) fun ac ha => ?_
  refine wp_seq ?_
  refine wp_region_lit ?_
  refine s_box ha hs [.bool (decide (a < 0)), .int .u64 (lo a.natAbs : Nat), .string (hi a.natAbs)] fun g1 ac wd ha hs => ?_
  refine s_box ha hs [.bool (decide (b < 0)), .int .u64 (lo b.natAbs : Nat), .string (hi b.natAbs)] fun g2 ac wd ha hs => ?_
  refine s_alloc ha hs [.bool false, .int .u64 0, .string (⟨#[]⟩)] fun g3 ac wd ha hs => ?_
  refine s_alloc ha hs [.bool false, .int .u64 0, .string (⟨#[]⟩)] fun g4 ac wd ha hs => ?_
  refine s_alloc ha hs [.bool false, .int .u64 0, .string (⟨#[]⟩)] fun g5 ac wd ha hs => ?_
  refine wpList_nil ((x_normal ?_))
  refine wp_seq ?_
  refine wp_seq ?_
  refine wp_region_lit ?_
  refine s_load ha hs 3 (zV b) fun ac ha => ?_
  rcases Bool.eq_false_or_eq_true (decide (b = 0)) with hb6 | hb6
  ·
    have phb6 := of_decide_eq_true hb6
    refine s_call ha hs (.int .i64 0) (zsign0 (of_decide_eq_true hb6) _) fun ac wd ha hs => ?_
    refine s_val ha (.bool true) fun ac ha => ?_
    refine wpList_nil ((x_normal ?_))
    refine r_true ha ?_
    refine wp_seq ?_
    rcases Bool.eq_false_or_eq_true (decide (a = 0)) with hb7 | hb7
    ·
      have phb7 := of_decide_eq_true hb7
      refine region_sp ha 7 [.eq (.pointer (some ⟨g1, 1, none⟩)), .eq (nV a.natAbs), .eq (zV ((a.natAbs : Nat) : Int)), .eq (zV a), .eq (.int .i64 0), .eq (zV (0 : Int)), .eq (zV (0 : Int))] [false, false, false, false, false, false, true] [] (fun _ hb => by cases hb)
        ⟨d_val, d_load hs 4, d_call (fun _ hw => from_any false ha0 (by omega) _), d_load hs 4, d_call (fun _ hw => zsign0 (of_decide_eq_true hb7) _), d_call (fun _ hw => zof 0 (by omega) (by omega) _), t_eq zV_zero.symm, trivial⟩ ?_
      intro vv wd1 ac hw hG hN ha
      have ha := ha.sub [(0, zV a), (1, zV b), (2, .pointer (some ⟨g1, 0, none⟩)), (3, .pointer (some ⟨g2, 0, none⟩)), (4, .pointer (some ⟨g3, 0, none⟩)), (5, .pointer (some ⟨g4, 0, none⟩)), (6, .pointer (some ⟨g5, 0, none⟩)), (15, zV b), (16, .int .i64 0), (17, .bool true), (20, zV ((a.natAbs : Nat) : Int)), (23, zV (0 : Int)), (24, zV (0 : Int))]
      clear hG hN
      have hs := hs.go hw
      clear hw
      refine keeps_nil ?_
      show wpList _ _ _ _ _ _
      refine s_store ha hs 2 _ fun ac wd ha hs => ?_
      refine s_store ha hs 1 _ fun ac wd ha hs => ?_
      refine s_store ha hs 0 _ fun ac wd ha hs => ?_
      refine wpList_nil ((x_normal ?_))
      refine wp_ret (x_ret (ret_at ha hs rfl [zV ((a.natAbs : Nat) : Int), zV (0 : Int), zV (0 : Int)] ⟨⟨2, _, _, _, rfl, rfl, by kernel_rfl⟩, ⟨1, _, _, _, rfl, rfl, by kernel_rfl⟩, ⟨0, _, _, _, rfl, rfl, by kernel_rfl⟩, trivial⟩ ?_))
      have hb := phb6
      exact ret_zzz (by unfold bezG; rw [if_pos hb]) (by unfold bezX; rw [if_pos hb]; exact (Int.sign_eq_zero_iff_zero.2 phb7).symm) (by unfold bezY; rw [if_pos hb]) hs.ext
    ·
      have phb7 := of_decide_eq_false hb7
      refine region_sp ha 7 [.eq (.pointer (some ⟨g1, 1, none⟩)), .eq (nV a.natAbs), .eq (zV ((a.natAbs : Nat) : Int)), .eq (zV a), .eq (.int .i64 a.sign), .eq (zV a.sign), .eq (zV (0 : Int))] [false, false, false, false, false, false, true] [] (fun _ hb => by cases hb)
        ⟨d_val, d_load hs 4, d_call (fun _ hw => from_any false ha0 (by omega) _), d_load hs 4, d_call (fun _ hw => zsign ha0 _ (by omega)), d_call (fun _ hw => zof a.sign (sign_lo _) (sign_hi _) _), t_eq zV_zero.symm, trivial⟩ ?_
      intro vv wd1 ac hw hG hN ha
      have ha := ha.sub [(0, zV a), (1, zV b), (2, .pointer (some ⟨g1, 0, none⟩)), (3, .pointer (some ⟨g2, 0, none⟩)), (4, .pointer (some ⟨g3, 0, none⟩)), (5, .pointer (some ⟨g4, 0, none⟩)), (6, .pointer (some ⟨g5, 0, none⟩)), (15, zV b), (16, .int .i64 0), (17, .bool true), (20, zV ((a.natAbs : Nat) : Int)), (23, zV a.sign), (24, zV (0 : Int))]
      clear hG hN
      have hs := hs.go hw
      clear hw
      refine keeps_nil ?_
      show wpList _ _ _ _ _ _
      refine s_store ha hs 2 _ fun ac wd ha hs => ?_
      refine s_store ha hs 1 _ fun ac wd ha hs => ?_
      refine s_store ha hs 0 _ fun ac wd ha hs => ?_
      refine wpList_nil ((x_normal ?_))
      refine wp_ret (x_ret (ret_at ha hs rfl [zV ((a.natAbs : Nat) : Int), zV a.sign, zV (0 : Int)] ⟨⟨2, _, _, _, rfl, rfl, by kernel_rfl⟩, ⟨1, _, _, _, rfl, rfl, by kernel_rfl⟩, ⟨0, _, _, _, rfl, rfl, by kernel_rfl⟩, trivial⟩ ?_))
      have hb := phb6
      exact ret_zzz (by unfold bezG; rw [if_pos hb]) (by unfold bezX; rw [if_pos hb]) (by unfold bezY; rw [if_pos hb]) hs.ext
  ·
    have phb6 := of_decide_eq_false hb6
    refine s_call ha hs (.int .i64 b.sign) (zsign hb0 _ (by omega)) fun ac wd ha hs => ?_
    refine s_bool ha (b := (b.sign == 0)) false (sgn_ne hb6) fun ac ha => ?_
    refine wpList_nil ((x_normal ?_))
    refine r_false ha ?_
    refine wp_skip ((x_normal ?_))
    refine wp_seq ?_
    refine region_sp ha 8 [.eq (zV a), .eq (zV (1 : Int)), .eq (.agg #[.bool (decide (a < 0)), .int .u64 (lo a.natAbs : Nat), .string (hi a.natAbs), .bool (decide ((1 : Int) < 0)), .int .u64 (lo ((1 : Int).natAbs) : Nat), .string (hi ((1 : Int).natAbs))]), .eq (zV b), .eq (zV (0 : Int)), .eq (.agg #[.bool (decide (b < 0)), .int .u64 (lo b.natAbs : Nat), .string (hi b.natAbs), .bool (decide ((0 : Int) < 0)), .int .u64 (lo ((0 : Int).natAbs) : Nat), .string (hi ((0 : Int).natAbs))]), .new _ 160 [.bool false, .int .u64 0, .string (⟨#[]⟩), .bool false, .int .u64 0, .string (⟨#[]⟩)], .new _ 160 [.bool false, .int .u64 0, .string (⟨#[]⟩), .bool false, .int .u64 0, .string (⟨#[]⟩)]] [false, false, false, true, true, true] [(g2, 32, [.bool (decide (b < 0)), .int .u64 (lo b.natAbs : Nat), .string (hi b.natAbs)])] (hs.keeps _ [3])
      ⟨d_load hs 4, d_call (fun _ hw => zof 1 (by omega) (by omega) _), d_val, t_load 0, t_eq zV_zero.symm, t_val, d_new, d_new, trivial⟩ ?_
    intro vv wd1 ac hw hG hN ha
    have ha := ha.sub [(0, zV a), (1, zV b), (2, .pointer (some ⟨g1, 0, none⟩)), (3, .pointer (some ⟨g2, 0, none⟩)), (4, .pointer (some ⟨g3, 0, none⟩)), (5, .pointer (some ⟨g4, 0, none⟩)), (6, .pointer (some ⟨g5, 0, none⟩)), (15, zV b), (16, .int .i64 b.sign), (17, .bool false), (27, .agg #[.bool (decide (a < 0)), .int .u64 (lo a.natAbs : Nat), .string (hi a.natAbs), .bool (decide ((1 : Int) < 0)), .int .u64 (lo ((1 : Int).natAbs) : Nat), .string (hi ((1 : Int).natAbs))]), (30, .agg #[.bool (decide (b < 0)), .int .u64 (lo b.natAbs : Nat), .string (hi b.natAbs), .bool (decide ((0 : Int) < 0)), .int .u64 (lo ((0 : Int).natAbs) : Nat), .string (hi ((0 : Int).natAbs))]), (7, vv 6), (8, vv 7)]
    have h_g11 : NewAt _ 160 [.bool false, .int .u64 0, .string (⟨#[]⟩), .bool false, .int .u64 0, .string (⟨#[]⟩)] (vv 6) wd1 := hG 6 7 (by decide) rfl
    have h_g12 : NewAt _ 160 [.bool false, .int .u64 0, .string (⟨#[]⟩), .bool false, .int .u64 0, .string (⟨#[]⟩)] (vv 7) wd1 := hG 7 8 (by decide) rfl
    have n_g11_g12 : vv 6 ≠ vv 7 := hN 6 7 (by decide) (by decide) (by decide) rfl rfl
    clear hG hN
    obtain ⟨g11, b_g11, e_g11, h_g11⟩ := h_g11
    rw [e_g11] at ha n_g11_g12
    clear e_g11
    obtain ⟨g12, b_g12, e_g12, h_g12⟩ := h_g12
    rw [e_g12] at ha n_g11_g12
    clear e_g12
    have hs := hs.news hw [(g12, 160, [.bool false, .int .u64 0, .string (⟨#[]⟩), .bool false, .int .u64 0, .string (⟨#[]⟩)]), (g11, 160, [.bool false, .int .u64 0, .string (⟨#[]⟩), .bool false, .int .u64 0, .string (⟨#[]⟩)])] ⟨⟨b_g12, h_g12⟩, ⟨b_g11, h_g11⟩, trivial⟩ ⟨⟨ptr_ne n_g11_g12.symm, trivial⟩, trivial, trivial⟩
    clear hw
    show A4.wpListS _ _ _ _ _ _ _
    refine u_store ha hs [5] 1 _ fun ac wd ha hs => ?_
    refine u_store ha hs [5] 0 _ fun ac wd ha hs => ?_
    refine u_nil ((x_normal ?_))
    refine wp_seq ?_
    refine wp_block ?_
    refine loop_inv (α := Int × Int × Int × Int) (fun ⟨r0, x0, r1, x1⟩ ac wd => At ac _ [(0, zV a), (1, zV b), (2, .pointer (some ⟨g1, 0, none⟩)), (3, .pointer (some ⟨g2, 0, none⟩)), (4, .pointer (some ⟨g3, 0, none⟩)), (5, .pointer (some ⟨g4, 0, none⟩)), (6, .pointer (some ⟨g5, 0, none⟩)), (15, zV b), (16, .int .i64 b.sign), (17, .bool false), (27, .agg #[.bool (decide (a < 0)), .int .u64 (lo a.natAbs : Nat), .string (hi a.natAbs), .bool (decide ((1 : Int) < 0)), .int .u64 (lo ((1 : Int).natAbs) : Nat), .string (hi ((1 : Int).natAbs))]), (30, .agg #[.bool (decide (b < 0)), .int .u64 (lo b.natAbs : Nat), .string (hi b.natAbs), .bool (decide ((0 : Int) < 0)), .int .u64 (lo ((0 : Int).natAbs) : Nat), .string (hi ((0 : Int).natAbs))]), (7, .pointer (some ⟨g11, 0, none⟩)), (8, .pointer (some ⟨g12, 0, none⟩))] ∧ St w wd [(g12, 160, [.bool (decide (r1 < 0)), .int .u64 (lo r1.natAbs : Nat), .string (hi r1.natAbs), .bool (decide (x1 < 0)), .int .u64 (lo x1.natAbs : Nat), .string (hi x1.natAbs)]), (g11, 160, [.bool (decide (r0 < 0)), .int .u64 (lo r0.natAbs : Nat), .string (hi r0.natAbs), .bool (decide (x0 < 0)), .int .u64 (lo x0.natAbs : Nat), .string (hi x0.natAbs)]), (g5, 32, [.bool false, .int .u64 0, .string (⟨#[]⟩)]), (g4, 32, [.bool false, .int .u64 0, .string (⟨#[]⟩)]), (g3, 32, [.bool false, .int .u64 0, .string (⟨#[]⟩)]), (g2, 32, [.bool (decide (b < 0)), .int .u64 (lo b.natAbs : Nat), .string (hi b.natAbs)]), (g1, 32, [.bool (decide (a < 0)), .int .u64 (lo a.natAbs : Nat), .string (hi a.natAbs)])] [] ∧ BInv (max j k) a b r0 x0 r1 x1) (fun ⟨r0, x0, r1, x1⟩ => r1.natAbs) (a, 1, b, 0) ⟨ha.sub _, hs.cast _, BInv.start ha0 hb0⟩ ?_
    rintro ⟨r0, x0, r1, x1⟩ ac wd ⟨ha, hs, hI⟩
    refine wp_seq ?_
    refine wp_seq ?_
    refine wp_region_lit ?_
    refine s_val ha (.pointer (some ⟨g12, 0, none⟩)) fun ac ha => ?_
    refine s_load ha hs 0 (zV r1) fun ac ha => ?_
    rcases Bool.eq_false_or_eq_true (decide (r1 = 0)) with hb13 | hb13
    ·
      have phb13 := of_decide_eq_true hb13
      have hE := hI.fin' phb13 phb6
      have hz14 : decide (((r0.natAbs : Nat) : Int) = 0) = false := decide_eq_false (by have := hE.nz; omega)
      have hz15 : decide (((b.natAbs : Nat) : Int).fdiv ((r0.natAbs : Nat) : Int) = 0) = false := decide_eq_false (hE.per phb6)
      refine s_call ha hs (.int .i64 0) (zsign0 (of_decide_eq_true hb13) _) fun ac wd ha hs => ?_
      refine s_val ha (.bool false) fun ac ha => ?_
      refine wpList_nil ((x_normal ?_))
      refine r_false ha ?_
      refine wp_exit (x_exit (x_exit (b_hit (x_normal ?_))))
      refine wp_seq ?_
      refine wp_region_lit ?_
      refine s_val ha (.pointer (some ⟨g11, 0, none⟩)) fun ac ha => ?_
      refine s_val ha (.pointer (some ⟨g11, 1, none⟩)) fun ac ha => ?_
      refine s_load ha hs 1 (nV r0.natAbs) fun ac ha => ?_
      refine s_call ha hs (zV ((r0.natAbs : Nat) : Int)) (from_any false hI.s0 (by omega) _) fun ac wd ha hs => ?_
      refine s_store ha hs 4 _ fun ac wd ha hs => ?_
      refine wpList_nil ((x_normal ?_))
      refine wp_seq ?_
      refine wp_region_lit ?_
      refine s_val ha (.pointer (some ⟨g11, 3, none⟩)) fun ac ha => ?_
      refine s_load ha hs 1 (zV x0) fun ac ha => ?_
      refine s_store ha hs 3 _ fun ac wd ha hs => ?_
      refine wpList_nil ((x_normal ?_))
      refine wp_seq ?_
      refine wp_seq ?_
      refine wp_region_lit ?_
      refine s_val ha (.pointer (some ⟨g11, 0, none⟩)) fun ac ha => ?_
      refine s_val ha (.pointer (some ⟨g11, 0, none⟩)) fun ac ha => ?_
      rcases Bool.eq_false_or_eq_true (decide (r0 < 0)) with hb16 | hb16
      ·
        have phb16 := of_decide_eq_true hb16
        refine s_loadb ha hs 1 true hb16 fun ac ha => ?_
        refine wpList_nil ((x_normal ?_))
        refine r_true ha ?_
        refine wp_region_lit ?_
        refine s_load ha hs 3 (zV x0) fun ac ha => ?_
        refine s_call ha hs (zV (-x0)) (zneg (hb0.le_abs hI.x0b) _ (by omega)) fun ac wd ha hs => ?_
        refine s_store ha hs 3 _ fun ac wd ha hs => ?_
        refine wpList_nil ((x_normal ?_))
        refine wp_seq ?_
        refine region_sp ha 11 [.eq (.pointer (some ⟨g2, 1, none⟩)), .eq (nV b.natAbs), .eq (zV ((b.natAbs : Nat) : Int)), .eq (zV ((r0.natAbs : Nat) : Int)), .eq (.tuple #[zV (((b.natAbs : Nat) : Int).fdiv ((r0.natAbs : Nat) : Int)), zV (((b.natAbs : Nat) : Int).fmod ((r0.natAbs : Nat) : Int)), .bool true]), .eq (.tuple #[zV (((b.natAbs : Nat) : Int).fdiv ((r0.natAbs : Nat) : Int)), zV (((b.natAbs : Nat) : Int).fmod ((r0.natAbs : Nat) : Int)), .bool true]), .eq (zV (((b.natAbs : Nat) : Int).fdiv ((r0.natAbs : Nat) : Int))), .eq (zV (((b.natAbs : Nat) : Int).fmod ((r0.natAbs : Nat) : Int))), .eq (.bool true), .new _ 32 [.bool false, .int .u64 0, .string (⟨#[]⟩)], .new _ 32 [.bool false, .int .u64 0, .string (⟨#[]⟩)]] [false, false, false, false, false, false, true, true, true] [] (fun _ hb => by cases hb)
          ⟨d_val, d_load hs 5, d_call (fun _ hw => from_any false hb0 (by omega) _), d_load hs 4, d_call (fun _ hw => zdiv (Sm.cast hb0) (Sm.cast hI.s0) (of_decide_eq_false hz14) _ (by omega)), d_val, t_val, t_val, t_val, d_new, d_new, trivial⟩ ?_
        intro vv wd1 ac hw hG hN ha
        have ha := ha.sub [(0, zV a), (1, zV b), (2, .pointer (some ⟨g1, 0, none⟩)), (3, .pointer (some ⟨g2, 0, none⟩)), (4, .pointer (some ⟨g3, 0, none⟩)), (5, .pointer (some ⟨g4, 0, none⟩)), (6, .pointer (some ⟨g5, 0, none⟩)), (15, zV b), (16, .int .i64 b.sign), (17, .bool false), (27, .agg #[.bool (decide (a < 0)), .int .u64 (lo a.natAbs : Nat), .string (hi a.natAbs), .bool (decide ((1 : Int) < 0)), .int .u64 (lo ((1 : Int).natAbs) : Nat), .string (hi ((1 : Int).natAbs))]), (30, .agg #[.bool (decide (b < 0)), .int .u64 (lo b.natAbs : Nat), .string (hi b.natAbs), .bool (decide ((0 : Int) < 0)), .int .u64 (lo ((0 : Int).natAbs) : Nat), .string (hi ((0 : Int).natAbs))]), (7, .pointer (some ⟨g11, 0, none⟩)), (8, .pointer (some ⟨g12, 0, none⟩)), (31, .pointer (some ⟨g12, 0, none⟩)), (32, zV r1), (33, .int .i64 0), (34, .bool false), (54, .pointer (some ⟨g11, 0, none⟩)), (55, .pointer (some ⟨g11, 1, none⟩)), (56, nV r0.natAbs), (57, zV ((r0.natAbs : Nat) : Int)), (58, .pointer (some ⟨g11, 3, none⟩)), (59, zV x0), (60, .pointer (some ⟨g11, 0, none⟩)), (61, .pointer (some ⟨g11, 0, none⟩)), (62, .bool true), (63, zV x0), (64, zV (-x0)), (71, zV (((b.natAbs : Nat) : Int).fdiv ((r0.natAbs : Nat) : Int))), (72, zV (((b.natAbs : Nat) : Int).fmod ((r0.natAbs : Nat) : Int))), (73, .bool true), (12, vv 9), (13, vv 10)]
        have h_g18 : NewAt _ 32 [.bool false, .int .u64 0, .string (⟨#[]⟩)] (vv 9) wd1 := hG 9 12 (by decide) rfl
        have h_g19 : NewAt _ 32 [.bool false, .int .u64 0, .string (⟨#[]⟩)] (vv 10) wd1 := hG 10 13 (by decide) rfl
        have n_g18_g19 : vv 9 ≠ vv 10 := hN 9 10 (by decide) (by decide) (by decide) rfl rfl
        clear hG hN
        obtain ⟨g18, b_g18, e_g18, h_g18⟩ := h_g18
        rw [e_g18] at ha n_g18_g19
        clear e_g18
        obtain ⟨g19, b_g19, e_g19, h_g19⟩ := h_g19
        rw [e_g19] at ha n_g18_g19
        clear e_g19
        have hs := hs.news hw [(g19, 32, [.bool false, .int .u64 0, .string (⟨#[]⟩)]), (g18, 32, [.bool false, .int .u64 0, .string (⟨#[]⟩)])] ⟨⟨b_g19, h_g19⟩, ⟨b_g18, h_g18⟩, trivial⟩ ⟨⟨ptr_ne n_g18_g19.symm, trivial⟩, trivial, trivial⟩
        clear hw
        refine keeps_nil ?_
        show wpList _ _ _ _ _ _
        refine s_store ha hs 1 _ fun ac wd ha hs => ?_
        refine s_store ha hs 0 _ fun ac wd ha hs => ?_
        refine s_val ha (.bool true) fun ac ha => ?_
        refine wpList_nil ((x_normal ?_))
        refine wp_seq ?_
        refine wp_region_lit ?_
        refine s_load ha hs 5 (zV (-x0)) fun ac ha => ?_
        refine s_load ha hs 1 (zV (((b.natAbs : Nat) : Int).fdiv ((r0.natAbs : Nat) : Int))) fun ac ha => ?_
        refine s_call ha hs (.tuple #[zV ((-x0).fdiv (((b.natAbs : Nat) : Int).fdiv ((r0.natAbs : Nat) : Int))), zV ((-x0).fmod (((b.natAbs : Nat) : Int).fdiv ((r0.natAbs : Nat) : Int))), .bool true]) (zdiv (hb0.le_abs hI.x0b).zneg ((Sm.cast hb0).zfdiv ((r0.natAbs : Nat) : Int)) (of_decide_eq_false hz15) _ (by omega)) fun ac wd ha hs => ?_
        refine s_val ha (.tuple #[zV ((-x0).fdiv (((b.natAbs : Nat) : Int).fdiv ((r0.natAbs : Nat) : Int))), zV ((-x0).fmod (((b.natAbs : Nat) : Int).fdiv ((r0.natAbs : Nat) : Int))), .bool true]) fun ac ha => ?_
        refine s_val ha (zV ((-x0).fdiv (((b.natAbs : Nat) : Int).fdiv ((r0.natAbs : Nat) : Int)))) fun ac ha => ?_
        refine s_val ha (zV ((-x0).fmod (((b.natAbs : Nat) : Int).fdiv ((r0.natAbs : Nat) : Int)))) fun ac ha => ?_
        refine s_val ha (.bool true) fun ac ha => ?_
        refine s_store ha hs 5 _ fun ac wd ha hs => ?_
        refine wpList_nil ((x_normal ?_))
        refine wp_seq ?_
        refine region_sp ha 11 [.eq (zV ((r0.natAbs : Nat) : Int)), .eq (zV a), .eq (zV ((-x0).fmod (((b.natAbs : Nat) : Int).fdiv ((r0.natAbs : Nat) : Int)))), .eq (zV (a * ((-x0).fmod (((b.natAbs : Nat) : Int).fdiv ((r0.natAbs : Nat) : Int))))), .eq (zV (((r0.natAbs : Nat) : Int) - (a * ((-x0).fmod (((b.natAbs : Nat) : Int).fdiv ((r0.natAbs : Nat) : Int)))))), .eq (zV b), .eq (.tuple #[zV ((((r0.natAbs : Nat) : Int) - (a * ((-x0).fmod (((b.natAbs : Nat) : Int).fdiv ((r0.natAbs : Nat) : Int))))).fdiv b), zV ((((r0.natAbs : Nat) : Int) - (a * ((-x0).fmod (((b.natAbs : Nat) : Int).fdiv ((r0.natAbs : Nat) : Int))))).fmod b), .bool true]), .eq (.tuple #[zV ((((r0.natAbs : Nat) : Int) - (a * ((-x0).fmod (((b.natAbs : Nat) : Int).fdiv ((r0.natAbs : Nat) : Int))))).fdiv b), zV ((((r0.natAbs : Nat) : Int) - (a * ((-x0).fmod (((b.natAbs : Nat) : Int).fdiv ((r0.natAbs : Nat) : Int))))).fmod b), .bool true]), .eq (zV ((((r0.natAbs : Nat) : Int) - (a * ((-x0).fmod (((b.natAbs : Nat) : Int).fdiv ((r0.natAbs : Nat) : Int))))).fdiv b)), .eq (zV ((((r0.natAbs : Nat) : Int) - (a * ((-x0).fmod (((b.natAbs : Nat) : Int).fdiv ((r0.natAbs : Nat) : Int))))).fmod b)), .eq (.bool true)] [false, false, false, false, false, false, false, false, true, true, true] [] (fun _ hb => by cases hb)
          ⟨d_load hs 6, d_load hs 8, d_load hs 5, d_call (fun _ hw => zmul ha0 (Sm.zfmod (-x0) ((Sm.cast hb0).zfdiv ((r0.natAbs : Nat) : Int)) (of_decide_eq_false hz15)) _ (by omega)), d_call (fun _ hw => zsub (Sm.cast hI.s0) (ha0.zmul (Sm.zfmod (-x0) ((Sm.cast hb0).zfdiv ((r0.natAbs : Nat) : Int)) (of_decide_eq_false hz15))) _ (by omega)), d_load hs 7, d_call (fun _ hw => zdiv ((Sm.cast hI.s0).zsub (ha0.zmul (Sm.zfmod (-x0) ((Sm.cast hb0).zfdiv ((r0.natAbs : Nat) : Int)) (of_decide_eq_false hz15)))) hb0 (of_decide_eq_false hb6) _ (by omega)), d_val, t_val, t_val, t_val, trivial⟩ ?_
        intro vv wd1 ac hw hG hN ha
        have ha := ha.sub [(0, zV a), (1, zV b), (2, .pointer (some ⟨g1, 0, none⟩)), (3, .pointer (some ⟨g2, 0, none⟩)), (4, .pointer (some ⟨g3, 0, none⟩)), (5, .pointer (some ⟨g4, 0, none⟩)), (6, .pointer (some ⟨g5, 0, none⟩)), (15, zV b), (16, .int .i64 b.sign), (17, .bool false), (27, .agg #[.bool (decide (a < 0)), .int .u64 (lo a.natAbs : Nat), .string (hi a.natAbs), .bool (decide ((1 : Int) < 0)), .int .u64 (lo ((1 : Int).natAbs) : Nat), .string (hi ((1 : Int).natAbs))]), (30, .agg #[.bool (decide (b < 0)), .int .u64 (lo b.natAbs : Nat), .string (hi b.natAbs), .bool (decide ((0 : Int) < 0)), .int .u64 (lo ((0 : Int).natAbs) : Nat), .string (hi ((0 : Int).natAbs))]), (7, .pointer (some ⟨g11, 0, none⟩)), (8, .pointer (some ⟨g12, 0, none⟩)), (31, .pointer (some ⟨g12, 0, none⟩)), (32, zV r1), (33, .int .i64 0), (34, .bool false), (54, .pointer (some ⟨g11, 0, none⟩)), (55, .pointer (some ⟨g11, 1, none⟩)), (56, nV r0.natAbs), (57, zV ((r0.natAbs : Nat) : Int)), (58, .pointer (some ⟨g11, 3, none⟩)), (59, zV x0), (60, .pointer (some ⟨g11, 0, none⟩)), (61, .pointer (some ⟨g11, 0, none⟩)), (62, .bool true), (63, zV x0), (64, zV (-x0)), (71, zV (((b.natAbs : Nat) : Int).fdiv ((r0.natAbs : Nat) : Int))), (72, zV (((b.natAbs : Nat) : Int).fmod ((r0.natAbs : Nat) : Int))), (73, .bool true), (12, .pointer (some ⟨g18, 0, none⟩)), (13, .pointer (some ⟨g19, 0, none⟩)), (75, zV (-x0)), (76, zV (((b.natAbs : Nat) : Int).fdiv ((r0.natAbs : Nat) : Int))), (77, .tuple #[zV ((-x0).fdiv (((b.natAbs : Nat) : Int).fdiv ((r0.natAbs : Nat) : Int))), zV ((-x0).fmod (((b.natAbs : Nat) : Int).fdiv ((r0.natAbs : Nat) : Int))), .bool true]), (74, .tuple #[zV ((-x0).fdiv (((b.natAbs : Nat) : Int).fdiv ((r0.natAbs : Nat) : Int))), zV ((-x0).fmod (((b.natAbs : Nat) : Int).fdiv ((r0.natAbs : Nat) : Int))), .bool true]), (79, zV ((-x0).fmod (((b.natAbs : Nat) : Int).fdiv ((r0.natAbs : Nat) : Int)))), (89, zV ((((r0.natAbs : Nat) : Int) - (a * ((-x0).fmod (((b.natAbs : Nat) : Int).fdiv ((r0.natAbs : Nat) : Int))))).fdiv b))]
        clear hG hN
        have hs := hs.go hw
        clear hw
        refine keeps_nil ?_
        show wpList _ _ _ _ _ _
        refine s_store ha hs 4 _ fun ac wd ha hs => ?_
        refine wpList_nil ((x_normal ?_))
        refine wp_seq ?_
        refine region_sp ha 3 [.eq (zV ((r0.natAbs : Nat) : Int)), .eq (zV ((-x0).fmod (((b.natAbs : Nat) : Int).fdiv ((r0.natAbs : Nat) : Int)))), .eq (zV ((((r0.natAbs : Nat) : Int) - (a * ((-x0).fmod (((b.natAbs : Nat) : Int).fdiv ((r0.natAbs : Nat) : Int))))).fdiv b))] [false, true, true] [(g4, 32, [.bool (decide ((-x0).fmod (((b.natAbs : Nat) : Int).fdiv ((r0.natAbs : Nat) : Int)) < 0)), .int .u64 (lo (((-x0).fmod (((b.natAbs : Nat) : Int).fdiv ((r0.natAbs : Nat) : Int))).natAbs) : Nat), .string (hi (((-x0).fmod (((b.natAbs : Nat) : Int).fdiv ((r0.natAbs : Nat) : Int))).natAbs))]), (g5, 32, [.bool (decide ((((r0.natAbs : Nat) : Int) - (a * ((-x0).fmod (((b.natAbs : Nat) : Int).fdiv ((r0.natAbs : Nat) : Int))))).fdiv b < 0)), .int .u64 (lo (((((r0.natAbs : Nat) : Int) - (a * ((-x0).fmod (((b.natAbs : Nat) : Int).fdiv ((r0.natAbs : Nat) : Int))))).fdiv b).natAbs) : Nat), .string (hi (((((r0.natAbs : Nat) : Int) - (a * ((-x0).fmod (((b.natAbs : Nat) : Int).fdiv ((r0.natAbs : Nat) : Int))))).fdiv b).natAbs))])] (hs.keeps _ [5, 4])
          ⟨d_load hs 6, t_load 0, t_load 1, trivial⟩ ?_
        intro vv wd1 ac hw hG hN ha
        have ha := ha.sub [(0, zV a), (1, zV b), (2, .pointer (some ⟨g1, 0, none⟩)), (3, .pointer (some ⟨g2, 0, none⟩)), (4, .pointer (some ⟨g3, 0, none⟩)), (5, .pointer (some ⟨g4, 0, none⟩)), (6, .pointer (some ⟨g5, 0, none⟩)), (15, zV b), (16, .int .i64 b.sign), (17, .bool false), (27, .agg #[.bool (decide (a < 0)), .int .u64 (lo a.natAbs : Nat), .string (hi a.natAbs), .bool (decide ((1 : Int) < 0)), .int .u64 (lo ((1 : Int).natAbs) : Nat), .string (hi ((1 : Int).natAbs))]), (30, .agg #[.bool (decide (b < 0)), .int .u64 (lo b.natAbs : Nat), .string (hi b.natAbs), .bool (decide ((0 : Int) < 0)), .int .u64 (lo ((0 : Int).natAbs) : Nat), .string (hi ((0 : Int).natAbs))]), (7, .pointer (some ⟨g11, 0, none⟩)), (8, .pointer (some ⟨g12, 0, none⟩)), (31, .pointer (some ⟨g12, 0, none⟩)), (32, zV r1), (33, .int .i64 0), (34, .bool false), (54, .pointer (some ⟨g11, 0, none⟩)), (55, .pointer (some ⟨g11, 1, none⟩)), (56, nV r0.natAbs), (57, zV ((r0.natAbs : Nat) : Int)), (58, .pointer (some ⟨g11, 3, none⟩)), (59, zV x0), (60, .pointer (some ⟨g11, 0, none⟩)), (61, .pointer (some ⟨g11, 0, none⟩)), (62, .bool true), (63, zV x0), (64, zV (-x0)), (71, zV (((b.natAbs : Nat) : Int).fdiv ((r0.natAbs : Nat) : Int))), (72, zV (((b.natAbs : Nat) : Int).fmod ((r0.natAbs : Nat) : Int))), (73, .bool true), (12, .pointer (some ⟨g18, 0, none⟩)), (13, .pointer (some ⟨g19, 0, none⟩)), (75, zV (-x0)), (76, zV (((b.natAbs : Nat) : Int).fdiv ((r0.natAbs : Nat) : Int))), (77, .tuple #[zV ((-x0).fdiv (((b.natAbs : Nat) : Int).fdiv ((r0.natAbs : Nat) : Int))), zV ((-x0).fmod (((b.natAbs : Nat) : Int).fdiv ((r0.natAbs : Nat) : Int))), .bool true]), (74, .tuple #[zV ((-x0).fdiv (((b.natAbs : Nat) : Int).fdiv ((r0.natAbs : Nat) : Int))), zV ((-x0).fmod (((b.natAbs : Nat) : Int).fdiv ((r0.natAbs : Nat) : Int))), .bool true]), (79, zV ((-x0).fmod (((b.natAbs : Nat) : Int).fdiv ((r0.natAbs : Nat) : Int)))), (89, zV ((((r0.natAbs : Nat) : Int) - (a * ((-x0).fmod (((b.natAbs : Nat) : Int).fdiv ((r0.natAbs : Nat) : Int))))).fdiv b)), (92, zV ((r0.natAbs : Nat) : Int)), (93, zV ((-x0).fmod (((b.natAbs : Nat) : Int).fdiv ((r0.natAbs : Nat) : Int)))), (94, zV ((((r0.natAbs : Nat) : Int) - (a * ((-x0).fmod (((b.natAbs : Nat) : Int).fdiv ((r0.natAbs : Nat) : Int))))).fdiv b))]
        clear hG hN
        have hs := hs.go hw
        clear hw
        show A4.wpListS _ _ _ _ _ _ _
        refine u_store ha hs [5, 4] 6 _ fun ac wd ha hs => ?_
        refine u_store ha hs [5, 4] 5 _ fun ac wd ha hs => ?_
        refine u_store ha hs [5, 4] 4 _ fun ac wd ha hs => ?_
        refine u_nil ((x_normal ?_))
        refine wp_ret (ret_at ha hs rfl [zV ((r0.natAbs : Nat) : Int), zV ((-x0).fmod (((b.natAbs : Nat) : Int).fdiv ((r0.natAbs : Nat) : Int))), zV ((((r0.natAbs : Nat) : Int) - (a * ((-x0).fmod (((b.natAbs : Nat) : Int).fdiv ((r0.natAbs : Nat) : Int))))).fdiv b)] ⟨⟨6, _, _, _, rfl, rfl, by kernel_rfl⟩, ⟨5, _, _, _, rfl, rfl, by kernel_rfl⟩, ⟨4, _, _, _, rfl, rfl, by kernel_rfl⟩, trivial⟩ ?_)
        have ho := hI.out phb13
        have hg := bezG_pos phb6 ho
        have hx := bezX_pos (y := -x0) phb6 ho (by rw [if_pos phb16])
        exact ret_zzz hg.symm hx.symm (by rw [bezY_pos phb6, hg, hx]) hs.ext
      ·
        have phb16 := of_decide_eq_false hb16
        refine s_loadb ha hs 1 false hb16 fun ac ha => ?_
        refine wpList_nil ((x_normal ?_))
        refine r_false ha ?_
        refine wp_skip ((x_normal ?_))
        refine wp_seq ?_
        refine region_sp ha 11 [.eq (.pointer (some ⟨g2, 1, none⟩)), .eq (nV b.natAbs), .eq (zV ((b.natAbs : Nat) : Int)), .eq (zV ((r0.natAbs : Nat) : Int)), .eq (.tuple #[zV (((b.natAbs : Nat) : Int).fdiv ((r0.natAbs : Nat) : Int)), zV (((b.natAbs : Nat) : Int).fmod ((r0.natAbs : Nat) : Int)), .bool true]), .eq (.tuple #[zV (((b.natAbs : Nat) : Int).fdiv ((r0.natAbs : Nat) : Int)), zV (((b.natAbs : Nat) : Int).fmod ((r0.natAbs : Nat) : Int)), .bool true]), .eq (zV (((b.natAbs : Nat) : Int).fdiv ((r0.natAbs : Nat) : Int))), .eq (zV (((b.natAbs : Nat) : Int).fmod ((r0.natAbs : Nat) : Int))), .eq (.bool true), .new _ 32 [.bool false, .int .u64 0, .string (⟨#[]⟩)], .new _ 32 [.bool false, .int .u64 0, .string (⟨#[]⟩)]] [false, false, false, false, false, false, true, true, true] [] (fun _ hb => by cases hb)
          ⟨d_val, d_load hs 5, d_call (fun _ hw => from_any false hb0 (by omega) _), d_load hs 4, d_call (fun _ hw => zdiv (Sm.cast hb0) (Sm.cast hI.s0) (of_decide_eq_false hz14) _ (by omega)), d_val, t_val, t_val, t_val, d_new, d_new, trivial⟩ ?_
        intro vv wd1 ac hw hG hN ha
        have ha := ha.sub [(0, zV a), (1, zV b), (2, .pointer (some ⟨g1, 0, none⟩)), (3, .pointer (some ⟨g2, 0, none⟩)), (4, .pointer (some ⟨g3, 0, none⟩)), (5, .pointer (some ⟨g4, 0, none⟩)), (6, .pointer (some ⟨g5, 0, none⟩)), (15, zV b), (16, .int .i64 b.sign), (17, .bool false), (27, .agg #[.bool (decide (a < 0)), .int .u64 (lo a.natAbs : Nat), .string (hi a.natAbs), .bool (decide ((1 : Int) < 0)), .int .u64 (lo ((1 : Int).natAbs) : Nat), .string (hi ((1 : Int).natAbs))]), (30, .agg #[.bool (decide (b < 0)), .int .u64 (lo b.natAbs : Nat), .string (hi b.natAbs), .bool (decide ((0 : Int) < 0)), .int .u64 (lo ((0 : Int).natAbs) : Nat), .string (hi ((0 : Int).natAbs))]), (7, .pointer (some ⟨g11, 0, none⟩)), (8, .pointer (some ⟨g12, 0, none⟩)), (31, .pointer (some ⟨g12, 0, none⟩)), (32, zV r1), (33, .int .i64 0), (34, .bool false), (54, .pointer (some ⟨g11, 0, none⟩)), (55, .pointer (some ⟨g11, 1, none⟩)), (56, nV r0.natAbs), (57, zV ((r0.natAbs : Nat) : Int)), (58, .pointer (some ⟨g11, 3, none⟩)), (59, zV x0), (60, .pointer (some ⟨g11, 0, none⟩)), (61, .pointer (some ⟨g11, 0, none⟩)), (62, .bool false), (71, zV (((b.natAbs : Nat) : Int).fdiv ((r0.natAbs : Nat) : Int))), (72, zV (((b.natAbs : Nat) : Int).fmod ((r0.natAbs : Nat) : Int))), (73, .bool true), (12, vv 9), (13, vv 10)]
        have h_g23 : NewAt _ 32 [.bool false, .int .u64 0, .string (⟨#[]⟩)] (vv 9) wd1 := hG 9 12 (by decide) rfl
        have h_g24 : NewAt _ 32 [.bool false, .int .u64 0, .string (⟨#[]⟩)] (vv 10) wd1 := hG 10 13 (by decide) rfl
        have n_g23_g24 : vv 9 ≠ vv 10 := hN 9 10 (by decide) (by decide) (by decide) rfl rfl
        clear hG hN
        obtain ⟨g23, b_g23, e_g23, h_g23⟩ := h_g23
        rw [e_g23] at ha n_g23_g24
        clear e_g23
        obtain ⟨g24, b_g24, e_g24, h_g24⟩ := h_g24
        rw [e_g24] at ha n_g23_g24
        clear e_g24
        have hs := hs.news hw [(g24, 32, [.bool false, .int .u64 0, .string (⟨#[]⟩)]), (g23, 32, [.bool false, .int .u64 0, .string (⟨#[]⟩)])] ⟨⟨b_g24, h_g24⟩, ⟨b_g23, h_g23⟩, trivial⟩ ⟨⟨ptr_ne n_g23_g24.symm, trivial⟩, trivial, trivial⟩
        clear hw
        refine keeps_nil ?_
        show wpList _ _ _ _ _ _
        refine s_store ha hs 1 _ fun ac wd ha hs => ?_
        refine s_store ha hs 0 _ fun ac wd ha hs => ?_
        refine s_val ha (.bool true) fun ac ha => ?_
        refine wpList_nil ((x_normal ?_))
        refine wp_seq ?_
        refine wp_region_lit ?_
        refine s_load ha hs 5 (zV x0) fun ac ha => ?_
        refine s_load ha hs 1 (zV (((b.natAbs : Nat) : Int).fdiv ((r0.natAbs : Nat) : Int))) fun ac ha => ?_
        refine s_call ha hs (.tuple #[zV (x0.fdiv (((b.natAbs : Nat) : Int).fdiv ((r0.natAbs : Nat) : Int))), zV (x0.fmod (((b.natAbs : Nat) : Int).fdiv ((r0.natAbs : Nat) : Int))), .bool true]) (zdiv (hb0.le_abs hI.x0b) ((Sm.cast hb0).zfdiv ((r0.natAbs : Nat) : Int)) (of_decide_eq_false hz15) _ (by omega)) fun ac wd ha hs => ?_
        refine s_val ha (.tuple #[zV (x0.fdiv (((b.natAbs : Nat) : Int).fdiv ((r0.natAbs : Nat) : Int))), zV (x0.fmod (((b.natAbs : Nat) : Int).fdiv ((r0.natAbs : Nat) : Int))), .bool true]) fun ac ha => ?_
        refine s_val ha (zV (x0.fdiv (((b.natAbs : Nat) : Int).fdiv ((r0.natAbs : Nat) : Int)))) fun ac ha => ?_
        refine s_val ha (zV (x0.fmod (((b.natAbs : Nat) : Int).fdiv ((r0.natAbs : Nat) : Int)))) fun ac ha => ?_
        refine s_val ha (.bool true) fun ac ha => ?_
        refine s_store ha hs 5 _ fun ac wd ha hs => ?_
        refine wpList_nil ((x_normal ?_))
        refine wp_seq ?_
        refine region_sp ha 11 [.eq (zV ((r0.natAbs : Nat) : Int)), .eq (zV a), .eq (zV (x0.fmod (((b.natAbs : Nat) : Int).fdiv ((r0.natAbs : Nat) : Int)))), .eq (zV (a * (x0.fmod (((b.natAbs : Nat) : Int).fdiv ((r0.natAbs : Nat) : Int))))), .eq (zV (((r0.natAbs : Nat) : Int) - (a * (x0.fmod (((b.natAbs : Nat) : Int).fdiv ((r0.natAbs : Nat) : Int)))))), .eq (zV b), .eq (.tuple #[zV ((((r0.natAbs : Nat) : Int) - (a * (x0.fmod (((b.natAbs : Nat) : Int).fdiv ((r0.natAbs : Nat) : Int))))).fdiv b), zV ((((r0.natAbs : Nat) : Int) - (a * (x0.fmod (((b.natAbs : Nat) : Int).fdiv ((r0.natAbs : Nat) : Int))))).fmod b), .bool true]), .eq (.tuple #[zV ((((r0.natAbs : Nat) : Int) - (a * (x0.fmod (((b.natAbs : Nat) : Int).fdiv ((r0.natAbs : Nat) : Int))))).fdiv b), zV ((((r0.natAbs : Nat) : Int) - (a * (x0.fmod (((b.natAbs : Nat) : Int).fdiv ((r0.natAbs : Nat) : Int))))).fmod b), .bool true]), .eq (zV ((((r0.natAbs : Nat) : Int) - (a * (x0.fmod (((b.natAbs : Nat) : Int).fdiv ((r0.natAbs : Nat) : Int))))).fdiv b)), .eq (zV ((((r0.natAbs : Nat) : Int) - (a * (x0.fmod (((b.natAbs : Nat) : Int).fdiv ((r0.natAbs : Nat) : Int))))).fmod b)), .eq (.bool true)] [false, false, false, false, false, false, false, false, true, true, true] [] (fun _ hb => by cases hb)
          ⟨d_load hs 6, d_load hs 8, d_load hs 5, d_call (fun _ hw => zmul ha0 (Sm.zfmod x0 ((Sm.cast hb0).zfdiv ((r0.natAbs : Nat) : Int)) (of_decide_eq_false hz15)) _ (by omega)), d_call (fun _ hw => zsub (Sm.cast hI.s0) (ha0.zmul (Sm.zfmod x0 ((Sm.cast hb0).zfdiv ((r0.natAbs : Nat) : Int)) (of_decide_eq_false hz15))) _ (by omega)), d_load hs 7, d_call (fun _ hw => zdiv ((Sm.cast hI.s0).zsub (ha0.zmul (Sm.zfmod x0 ((Sm.cast hb0).zfdiv ((r0.natAbs : Nat) : Int)) (of_decide_eq_false hz15)))) hb0 (of_decide_eq_false hb6) _ (by omega)), d_val, t_val, t_val, t_val, trivial⟩ ?_
        intro vv wd1 ac hw hG hN ha
        have ha := ha.sub [(0, zV a), (1, zV b), (2, .pointer (some ⟨g1, 0, none⟩)), (3, .pointer (some ⟨g2, 0, none⟩)), (4, .pointer (some ⟨g3, 0, none⟩)), (5, .pointer (some ⟨g4, 0, none⟩)), (6, .pointer (some ⟨g5, 0, none⟩)), (15, zV b), (16, .int .i64 b.sign), (17, .bool false), (27, .agg #[.bool (decide (a < 0)), .int .u64 (lo a.natAbs : Nat), .string (hi a.natAbs), .bool (decide ((1 : Int) < 0)), .int .u64 (lo ((1 : Int).natAbs) : Nat), .string (hi ((1 : Int).natAbs))]), (30, .agg #[.bool (decide (b < 0)), .int .u64 (lo b.natAbs : Nat), .string (hi b.natAbs), .bool (decide ((0 : Int) < 0)), .int .u64 (lo ((0 : Int).natAbs) : Nat), .string (hi ((0 : Int).natAbs))]), (7, .pointer (some ⟨g11, 0, none⟩)), (8, .pointer (some ⟨g12, 0, none⟩)), (31, .pointer (some ⟨g12, 0, none⟩)), (32, zV r1), (33, .int .i64 0), (34, .bool false), (54, .pointer (some ⟨g11, 0, none⟩)), (55, .pointer (some ⟨g11, 1, none⟩)), (56, nV r0.natAbs), (57, zV ((r0.natAbs : Nat) : Int)), (58, .pointer (some ⟨g11, 3, none⟩)), (59, zV x0), (60, .pointer (some ⟨g11, 0, none⟩)), (61, .pointer (some ⟨g11, 0, none⟩)), (62, .bool false), (71, zV (((b.natAbs : Nat) : Int).fdiv ((r0.natAbs : Nat) : Int))), (72, zV (((b.natAbs : Nat) : Int).fmod ((r0.natAbs : Nat) : Int))), (73, .bool true), (12, .pointer (some ⟨g23, 0, none⟩)), (13, .pointer (some ⟨g24, 0, none⟩)), (75, zV x0), (76, zV (((b.natAbs : Nat) : Int).fdiv ((r0.natAbs : Nat) : Int))), (77, .tuple #[zV (x0.fdiv (((b.natAbs : Nat) : Int).fdiv ((r0.natAbs : Nat) : Int))), zV (x0.fmod (((b.natAbs : Nat) : Int).fdiv ((r0.natAbs : Nat) : Int))), .bool true]), (74, .tuple #[zV (x0.fdiv (((b.natAbs : Nat) : Int).fdiv ((r0.natAbs : Nat) : Int))), zV (x0.fmod (((b.natAbs : Nat) : Int).fdiv ((r0.natAbs : Nat) : Int))), .bool true]), (79, zV (x0.fmod (((b.natAbs : Nat) : Int).fdiv ((r0.natAbs : Nat) : Int)))), (89, zV ((((r0.natAbs : Nat) : Int) - (a * (x0.fmod (((b.natAbs : Nat) : Int).fdiv ((r0.natAbs : Nat) : Int))))).fdiv b))]
        clear hG hN
        have hs := hs.go hw
        clear hw
        refine keeps_nil ?_
        show wpList _ _ _ _ _ _
        refine s_store ha hs 4 _ fun ac wd ha hs => ?_
        refine wpList_nil ((x_normal ?_))
        refine wp_seq ?_
        refine region_sp ha 3 [.eq (zV ((r0.natAbs : Nat) : Int)), .eq (zV (x0.fmod (((b.natAbs : Nat) : Int).fdiv ((r0.natAbs : Nat) : Int)))), .eq (zV ((((r0.natAbs : Nat) : Int) - (a * (x0.fmod (((b.natAbs : Nat) : Int).fdiv ((r0.natAbs : Nat) : Int))))).fdiv b))] [false, true, true] [(g4, 32, [.bool (decide (x0.fmod (((b.natAbs : Nat) : Int).fdiv ((r0.natAbs : Nat) : Int)) < 0)), .int .u64 (lo ((x0.fmod (((b.natAbs : Nat) : Int).fdiv ((r0.natAbs : Nat) : Int))).natAbs) : Nat), .string (hi ((x0.fmod (((b.natAbs : Nat) : Int).fdiv ((r0.natAbs : Nat) : Int))).natAbs))]), (g5, 32, [.bool (decide ((((r0.natAbs : Nat) : Int) - (a * (x0.fmod (((b.natAbs : Nat) : Int).fdiv ((r0.natAbs : Nat) : Int))))).fdiv b < 0)), .int .u64 (lo (((((r0.natAbs : Nat) : Int) - (a * (x0.fmod (((b.natAbs : Nat) : Int).fdiv ((r0.natAbs : Nat) : Int))))).fdiv b).natAbs) : Nat), .string (hi (((((r0.natAbs : Nat) : Int) - (a * (x0.fmod (((b.natAbs : Nat) : Int).fdiv ((r0.natAbs : Nat) : Int))))).fdiv b).natAbs))])] (hs.keeps _ [5, 4])
          ⟨d_load hs 6, t_load 0, t_load 1, trivial⟩ ?_
        intro vv wd1 ac hw hG hN ha
        have ha := ha.sub [(0, zV a), (1, zV b), (2, .pointer (some ⟨g1, 0, none⟩)), (3, .pointer (some ⟨g2, 0, none⟩)), (4, .pointer (some ⟨g3, 0, none⟩)), (5, .pointer (some ⟨g4, 0, none⟩)), (6, .pointer (some ⟨g5, 0, none⟩)), (15, zV b), (16, .int .i64 b.sign), (17, .bool false), (27, .agg #[.bool (decide (a < 0)), .int .u64 (lo a.natAbs : Nat), .string (hi a.natAbs), .bool (decide ((1 : Int) < 0)), .int .u64 (lo ((1 : Int).natAbs) : Nat), .string (hi ((1 : Int).natAbs))]), (30, .agg #[.bool (decide (b < 0)), .int .u64 (lo b.natAbs : Nat), .string (hi b.natAbs), .bool (decide ((0 : Int) < 0)), .int .u64 (lo ((0 : Int).natAbs) : Nat), .string (hi ((0 : Int).natAbs))]), (7, .pointer (some ⟨g11, 0, none⟩)), (8, .pointer (some ⟨g12, 0, none⟩)), (31, .pointer (some ⟨g12, 0, none⟩)), (32, zV r1), (33, .int .i64 0), (34, .bool false), (54, .pointer (some ⟨g11, 0, none⟩)), (55, .pointer (some ⟨g11, 1, none⟩)), (56, nV r0.natAbs), (57, zV ((r0.natAbs : Nat) : Int)), (58, .pointer (some ⟨g11, 3, none⟩)), (59, zV x0), (60, .pointer (some ⟨g11, 0, none⟩)), (61, .pointer (some ⟨g11, 0, none⟩)), (62, .bool false), (71, zV (((b.natAbs : Nat) : Int).fdiv ((r0.natAbs : Nat) : Int))), (72, zV (((b.natAbs : Nat) : Int).fmod ((r0.natAbs : Nat) : Int))), (73, .bool true), (12, .pointer (some ⟨g23, 0, none⟩)), (13, .pointer (some ⟨g24, 0, none⟩)), (75, zV x0), (76, zV (((b.natAbs : Nat) : Int).fdiv ((r0.natAbs : Nat) : Int))), (77, .tuple #[zV (x0.fdiv (((b.natAbs : Nat) : Int).fdiv ((r0.natAbs : Nat) : Int))), zV (x0.fmod (((b.natAbs : Nat) : Int).fdiv ((r0.natAbs : Nat) : Int))), .bool true]), (74, .tuple #[zV (x0.fdiv (((b.natAbs : Nat) : Int).fdiv ((r0.natAbs : Nat) : Int))), zV (x0.fmod (((b.natAbs : Nat) : Int).fdiv ((r0.natAbs : Nat) : Int))), .bool true]), (79, zV (x0.fmod (((b.natAbs : Nat) : Int).fdiv ((r0.natAbs : Nat) : Int)))), (89, zV ((((r0.natAbs : Nat) : Int) - (a * (x0.fmod (((b.natAbs : Nat) : Int).fdiv ((r0.natAbs : Nat) : Int))))).fdiv b)), (92, zV ((r0.natAbs : Nat) : Int)), (93, zV (x0.fmod (((b.natAbs : Nat) : Int).fdiv ((r0.natAbs : Nat) : Int)))), (94, zV ((((r0.natAbs : Nat) : Int) - (a * (x0.fmod (((b.natAbs : Nat) : Int).fdiv ((r0.natAbs : Nat) : Int))))).fdiv b))]
        clear hG hN
        have hs := hs.go hw
        clear hw
        show A4.wpListS _ _ _ _ _ _ _
        refine u_store ha hs [5, 4] 6 _ fun ac wd ha hs => ?_
        refine u_store ha hs [5, 4] 5 _ fun ac wd ha hs => ?_
        refine u_store ha hs [5, 4] 4 _ fun ac wd ha hs => ?_
        refine u_nil ((x_normal ?_))
        refine wp_ret (ret_at ha hs rfl [zV ((r0.natAbs : Nat) : Int), zV (x0.fmod (((b.natAbs : Nat) : Int).fdiv ((r0.natAbs : Nat) : Int))), zV ((((r0.natAbs : Nat) : Int) - (a * (x0.fmod (((b.natAbs : Nat) : Int).fdiv ((r0.natAbs : Nat) : Int))))).fdiv b)] ⟨⟨6, _, _, _, rfl, rfl, by kernel_rfl⟩, ⟨5, _, _, _, rfl, rfl, by kernel_rfl⟩, ⟨4, _, _, _, rfl, rfl, by kernel_rfl⟩, trivial⟩ ?_)
        have ho := hI.out phb13
        have hg := bezG_pos phb6 ho
        have hx := bezX_pos (y := x0) phb6 ho (by rw [if_neg phb16])
        exact ret_zzz hg.symm hx.symm (by rw [bezY_pos phb6, hg, hx]) hs.ext
    ·
      have phb13 := of_decide_eq_false hb13
      refine s_call ha hs (.int .i64 r1.sign) (zsign hI.s1 _ (by omega)) fun ac wd ha hs => ?_
      refine s_bool ha (b := (r1.sign != 0)) true (sgn_bne hb13) fun ac ha => ?_
      refine wpList_nil ((x_normal ?_))
      refine r_true ha ?_
      refine wp_skip ((x_normal ?_))
      refine wp_block ?_
      refine wp_seq ?_
      refine wp_region_lit ?_
      refine s_val ha (.pointer (some ⟨g11, 0, none⟩)) fun ac ha => ?_
      refine s_load ha hs 1 (zV r0) fun ac ha => ?_
      refine s_val ha (.pointer (some ⟨g12, 0, none⟩)) fun ac ha => ?_
      refine s_load ha hs 0 (zV r1) fun ac ha => ?_
      refine s_call ha hs (.tuple #[zV (r0.fdiv r1), zV (r0.fmod r1), .bool true]) (zdiv hI.s0 hI.s1 (of_decide_eq_false hb13) _ (by omega)) fun ac wd ha hs => ?_
      refine s_val ha (.tuple #[zV (r0.fdiv r1), zV (r0.fmod r1), .bool true]) fun ac ha => ?_
      refine s_val ha (zV (r0.fdiv r1)) fun ac ha => ?_
      refine s_val ha (zV (r0.fmod r1)) fun ac ha => ?_
      refine s_val ha (.bool true) fun ac ha => ?_
      refine s_alloc ha hs [.bool false, .int .u64 0, .string (⟨#[]⟩)] fun g27 ac wd ha hs => ?_
      refine s_alloc ha hs [.bool false, .int .u64 0, .string (⟨#[]⟩)] fun g28 ac wd ha hs => ?_
      refine s_store ha hs 1 _ fun ac wd ha hs => ?_
      refine s_store ha hs 0 _ fun ac wd ha hs => ?_
      refine s_val ha (.bool true) fun ac ha => ?_
      refine wpList_nil ((x_normal ?_))
      refine region_sp ha 10 [.eq (.agg #[.bool (decide (r1 < 0)), .int .u64 (lo r1.natAbs : Nat), .string (hi r1.natAbs), .bool (decide (x1 < 0)), .int .u64 (lo x1.natAbs : Nat), .string (hi x1.natAbs)]), .eq (zV (r0.fmod r1)), .eq (.pointer (some ⟨g11, 3, none⟩)), .eq (zV x0), .eq (zV (r0.fdiv r1)), .eq (.pointer (some ⟨g12, 3, none⟩)), .eq (zV x1), .eq (zV ((r0.fdiv r1) * x1)), .eq (zV (x0 - ((r0.fdiv r1) * x1))), .eq (.agg #[.bool (decide (r0.fmod r1 < 0)), .int .u64 (lo ((r0.fmod r1).natAbs) : Nat), .string (hi ((r0.fmod r1).natAbs)), .bool (decide (x0 - ((r0.fdiv r1) * x1) < 0)), .int .u64 (lo ((x0 - ((r0.fdiv r1) * x1)).natAbs) : Nat), .string (hi ((x0 - ((r0.fdiv r1) * x1)).natAbs))])] [false, true, false, false, false, false, false, false, false, true] [(g28, 32, [.bool (decide (r0.fmod r1 < 0)), .int .u64 (lo ((r0.fmod r1).natAbs) : Nat), .string (hi ((r0.fmod r1).natAbs))])] (hs.keeps _ [0])
        ⟨d_load hs 2, t_load 0, d_val, d_load hs 3, d_load hs 1, d_val, d_load hs 2, d_call (fun _ hw => zmul (hI.s0.zfdiv r1) (hb0.le_abs (Nat.le_succ_of_le hI.x1b)) _ (by omega)), d_call (fun _ hw => zsub (hb0.le_abs hI.x0b) ((hI.s0.zfdiv r1).zmul (hb0.le_abs (Nat.le_succ_of_le hI.x1b))) _ (by omega)), t_val, trivial⟩ ?_
      intro vv wd1 ac hw hG hN ha
      have ha := ha.sub [(0, zV a), (1, zV b), (2, .pointer (some ⟨g1, 0, none⟩)), (3, .pointer (some ⟨g2, 0, none⟩)), (4, .pointer (some ⟨g3, 0, none⟩)), (5, .pointer (some ⟨g4, 0, none⟩)), (6, .pointer (some ⟨g5, 0, none⟩)), (15, zV b), (16, .int .i64 b.sign), (17, .bool false), (27, .agg #[.bool (decide (a < 0)), .int .u64 (lo a.natAbs : Nat), .string (hi a.natAbs), .bool (decide ((1 : Int) < 0)), .int .u64 (lo ((1 : Int).natAbs) : Nat), .string (hi ((1 : Int).natAbs))]), (30, .agg #[.bool (decide (b < 0)), .int .u64 (lo b.natAbs : Nat), .string (hi b.natAbs), .bool (decide ((0 : Int) < 0)), .int .u64 (lo ((0 : Int).natAbs) : Nat), .string (hi ((0 : Int).natAbs))]), (7, .pointer (some ⟨g11, 0, none⟩)), (8, .pointer (some ⟨g12, 0, none⟩)), (31, .pointer (some ⟨g12, 0, none⟩)), (32, zV r1), (33, .int .i64 r1.sign), (34, .bool true), (36, .pointer (some ⟨g11, 0, none⟩)), (37, zV r0), (38, .pointer (some ⟨g12, 0, none⟩)), (39, zV r1), (40, .tuple #[zV (r0.fdiv r1), zV (r0.fmod r1), .bool true]), (35, .tuple #[zV (r0.fdiv r1), zV (r0.fmod r1), .bool true]), (41, zV (r0.fdiv r1)), (42, zV (r0.fmod r1)), (43, .bool true), (9, .pointer (some ⟨g27, 0, none⟩)), (10, .pointer (some ⟨g28, 0, none⟩)), (44, .agg #[.bool (decide (r1 < 0)), .int .u64 (lo r1.natAbs : Nat), .string (hi r1.natAbs), .bool (decide (x1 < 0)), .int .u64 (lo x1.natAbs : Nat), .string (hi x1.natAbs)]), (53, .agg #[.bool (decide (r0.fmod r1 < 0)), .int .u64 (lo ((r0.fmod r1).natAbs) : Nat), .string (hi ((r0.fmod r1).natAbs)), .bool (decide (x0 - ((r0.fdiv r1) * x1) < 0)), .int .u64 (lo ((x0 - ((r0.fdiv r1) * x1)).natAbs) : Nat), .string (hi ((x0 - ((r0.fdiv r1) * x1)).natAbs))])]
      clear hG hN
      have hs := hs.go hw
      clear hw
      show A4.wpListS _ _ _ _ _ _ _
      refine u_store ha hs [0] 3 _ fun ac wd ha hs => ?_
      refine u_store ha hs [0] 2 _ fun ac wd ha hs => ?_
      refine u_nil ((b_normal (x_normal ?_)))
      exact ⟨(r1, x1, r0.fmod r1, x0 - r0.fdiv r1 * x1), ⟨ha.sub _, (hs.dropN 2).cast _, hI.step phb13⟩, fmod_lt_abs r0 phb13⟩
  end Go.Proofs.YtiloialbglfplaaGreatDoor

namespace Go.Proofs.YtiloialbglfplaaGreatDoor
open Go.RowKit

set_option maxHeartbeats 1000000 in
theorem formatUint_dig2 (d : Nat) (h : d = 1 ∨ d = 2 ∨ d = 4 ∨ d = 5 ∨ d = 8) (w : World) :
    Calls Tryz.prog 188 #[.int .u64 d, .int .i64 10] w fun e w' => e = .returned (.string (digitText d)) ∧ w' = w := by
  have h128 : ∀ W, Calls Tryz.prog 206 #[.int .i64 d] W fun e w' => e = .returned (.string (digitText d)) ∧ w' = W := by
    intro W
    rcases h with rfl | rfl | rfl | rfl | rfl
    all_goals
      go_enter Tryz.func206, Tryz.ntmps206
      go_wp2
      go_ret
      exact ⟨rfl, rfl⟩
  have h113 : ∀ W, Calls Tryz.prog 200 #[.int .u64 d, .int .i64 10] W fun e w' => e = .returned (.string (digitText d)) ∧ w' = W := by
    intro W
    have H := Lib.hid h128
    clear h128
    have h1 : (d : Int) < 100 := by omega
    have h2 : (0 : Int) ≤ d := by omega
    generalize digitText d = t at *
    clear h
    generalize (d : Int) = z at *
    go_enter Tryz.func200, Tryz.ntmps200
    go_wp2_with (go_at_call 206; refine (H.out _).mono ?_; rintro e w' ⟨rfl, rfl⟩)
    go_ret
    exact ⟨rfl, rfl⟩
  have H := Lib.hid h113
  clear h128 h113 h
  generalize digitText d = t at *
  generalize (d : Int) = z at *
  go_enter Tryz.func188, Tryz.ntmps188
  go_wp2_with (go_at_call 200; refine (H.out _).mono ?_; rintro e w' ⟨rfl, rfl⟩)
  go_ret
  exact ⟨rfl, rfl⟩

theorem ctext_dig {n : Nat} {t : ByteArray} (h : n = 1 ∨ n = 2 ∨ n = 4 ∨ n = 5 ∨ n = 8) (ht : digitText n = t) (W : World) : Calls Tryz.prog 164 #[nV n] W (Ret (.string t) W) := by
  subst ht
  exact text_small n (by unfold B64; omega) _ (fun W => (formatUint_dig2 n h W).mono fun _ _ hh => ⟨hh.1, by rw [hh.2]; exact Ext.refl _⟩) W
end Go.Proofs.YtiloialbglfplaaGreatDoor

namespace Go.Proofs.YtiloialbglfplaaGreatDoor
open Go.RowKit

theorem zbez64 (W : World) : Calls Tryz.prog 70 #[zV 6, zV 4] W (Ret (.tuple #[zV 2, zV 1, zV (-1)]) W) := by
  have h := zbez (j := 64) (k := 64) (a := 6) (b := 4) (Sm.lit (by decide)) (Sm.lit (by decide)) W (by omega)
  rw [bez64.1, bez64.2.1, bez64.2.2] at h
  exact h

set_option maxHeartbeats 1000000 in
theorem ztext_m4 (w : World) : Calls Tryz.prog 131 #[zV (-4 : Int)] w (Ret (.string ⟨#[45, 52]⟩) w) := by
  have hk0 : decide ((-4 : Int) < 0) = true := by decide
  have hs := St.start w
  refine enter Tryz.func131 rfl Tryz.ntmps131 (by kernel_rfl) fun ac ha => ?_
  refine wp_seq ?_
  refine wp_region_lit ?_
  refine s_box ha hs [.bool (decide ((-4 : Int) < 0)), .int .u64 (lo ((-4 : Int).natAbs) : Nat), .string (hi ((-4 : Int).natAbs))] fun g1 ac wd ha hs => ?_
  refine s_val ha (.string (⟨#[]⟩)) fun ac ha => ?_
  refine wpList_nil ((x_normal ?_))
  refine wp_seq ?_
  refine wp_seq ?_
  refine wp_region_lit ?_
  refine s_val ha (.pointer (some ⟨g1, 0, none⟩)) fun ac ha => ?_
  refine s_loadb ha hs 0 true hk0 fun ac ha => ?_
  refine wpList_nil ((x_normal ?_))
  refine r_true ha ?_
  refine wp_seq ?_
  refine wp_region_lit ?_
  refine s_val ha (.pointer (some ⟨g1, 1, none⟩)) fun ac ha => ?_
  refine s_load ha hs 0 (nV ((-4 : Int).natAbs)) fun ac ha => ?_
  refine s_call ha hs (.string (⟨#[52]⟩)) (ctext_dig (n := (-4 : Int).natAbs) (by decide) rfl _) fun ac wd ha hs => ?_
  refine s_val ha (.string (⟨#[45, 52]⟩)) fun ac ha => ?_
  refine s_val ha (.string (⟨#[45, 52]⟩)) fun ac ha => ?_
  refine wpList_nil ((x_normal ?_))
  refine wp_ret (x_ret (ret_at ha hs rfl [.string (⟨#[45, 52]⟩)] ⟨rfl, trivial⟩ ?_))
  exact ⟨rfl, hs.ext⟩
  
set_option maxHeartbeats 1000000 in
theorem ztext_1 (w : World) : Calls Tryz.prog 131 #[zV (1 : Int)] w (Ret (.string ⟨#[49]⟩) w) := by
  have hk0 : decide ((1 : Int) < 0) = false := by decide
  have hs := St.start w
  refine enter Tryz.func131 rfl Tryz.ntmps131 (by kernel_rfl) fun ac ha => ?_
  refine wp_seq ?_
  refine wp_region_lit ?_
  refine s_box ha hs [.bool (decide ((1 : Int) < 0)), .int .u64 (lo ((1 : Int).natAbs) : Nat), .string (hi ((1 : Int).natAbs))] fun g2 ac wd ha hs => ?_
  refine s_val ha (.string (⟨#[]⟩)) fun ac ha => ?_
  refine wpList_nil ((x_normal ?_))
  refine wp_seq ?_
  refine wp_seq ?_
  refine wp_region_lit ?_
  refine s_val ha (.pointer (some ⟨g2, 0, none⟩)) fun ac ha => ?_
  refine s_loadb ha hs 0 false hk0 fun ac ha => ?_
  refine wpList_nil ((x_normal ?_))
  refine r_false ha ?_
  refine wp_skip ((x_normal ?_))
  refine wp_seq ?_
  refine wp_region_lit ?_
  refine s_val ha (.pointer (some ⟨g2, 1, none⟩)) fun ac ha => ?_
  refine s_load ha hs 0 (nV ((1 : Int).natAbs)) fun ac ha => ?_
  refine s_call ha hs (.string (⟨#[49]⟩)) (ctext_dig (n := (1 : Int).natAbs) (by decide) rfl _) fun ac wd ha hs => ?_
  refine s_val ha (.string (⟨#[49]⟩)) fun ac ha => ?_
  refine wpList_nil ((x_normal ?_))
  refine wp_ret (ret_at ha hs rfl [.string (⟨#[49]⟩)] ⟨rfl, trivial⟩ ?_)
  exact ⟨rfl, hs.ext⟩
  
set_option maxHeartbeats 1000000 in
theorem ztext_2 (w : World) : Calls Tryz.prog 131 #[zV (2 : Int)] w (Ret (.string ⟨#[50]⟩) w) := by
  have hk0 : decide ((2 : Int) < 0) = false := by decide
  have hs := St.start w
  refine enter Tryz.func131 rfl Tryz.ntmps131 (by kernel_rfl) fun ac ha => ?_
  refine wp_seq ?_
  refine wp_region_lit ?_
  refine s_box ha hs [.bool (decide ((2 : Int) < 0)), .int .u64 (lo ((2 : Int).natAbs) : Nat), .string (hi ((2 : Int).natAbs))] fun g3 ac wd ha hs => ?_
  refine s_val ha (.string (⟨#[]⟩)) fun ac ha => ?_
  refine wpList_nil ((x_normal ?_))
  refine wp_seq ?_
  refine wp_seq ?_
  refine wp_region_lit ?_
  refine s_val ha (.pointer (some ⟨g3, 0, none⟩)) fun ac ha => ?_
  refine s_loadb ha hs 0 false hk0 fun ac ha => ?_
  refine wpList_nil ((x_normal ?_))
  refine r_false ha ?_
  refine wp_skip ((x_normal ?_))
  refine wp_seq ?_
  refine wp_region_lit ?_
  refine s_val ha (.pointer (some ⟨g3, 1, none⟩)) fun ac ha => ?_
  refine s_load ha hs 0 (nV ((2 : Int).natAbs)) fun ac ha => ?_
  refine s_call ha hs (.string (⟨#[50]⟩)) (ctext_dig (n := (2 : Int).natAbs) (by decide) rfl _) fun ac wd ha hs => ?_
  refine s_val ha (.string (⟨#[50]⟩)) fun ac ha => ?_
  refine wpList_nil ((x_normal ?_))
  refine wp_ret (ret_at ha hs rfl [.string (⟨#[50]⟩)] ⟨rfl, trivial⟩ ?_)
  exact ⟨rfl, hs.ext⟩
  
set_option maxHeartbeats 1000000 in
theorem ztext_m1 (w : World) : Calls Tryz.prog 131 #[zV (-1 : Int)] w (Ret (.string ⟨#[45, 49]⟩) w) := by
  have hk0 : decide ((-1 : Int) < 0) = true := by decide
  have hs := St.start w
  refine enter Tryz.func131 rfl Tryz.ntmps131 (by kernel_rfl) fun ac ha => ?_
  refine wp_seq ?_
  refine wp_region_lit ?_
  refine s_box ha hs [.bool (decide ((-1 : Int) < 0)), .int .u64 (lo ((-1 : Int).natAbs) : Nat), .string (hi ((-1 : Int).natAbs))] fun g4 ac wd ha hs => ?_
  refine s_val ha (.string (⟨#[]⟩)) fun ac ha => ?_
  refine wpList_nil ((x_normal ?_))
  refine wp_seq ?_
  refine wp_seq ?_
  refine wp_region_lit ?_
  refine s_val ha (.pointer (some ⟨g4, 0, none⟩)) fun ac ha => ?_
  refine s_loadb ha hs 0 true hk0 fun ac ha => ?_
  refine wpList_nil ((x_normal ?_))
  refine r_true ha ?_
  refine wp_seq ?_
  refine wp_region_lit ?_
  refine s_val ha (.pointer (some ⟨g4, 1, none⟩)) fun ac ha => ?_
  refine s_load ha hs 0 (nV ((-1 : Int).natAbs)) fun ac ha => ?_
  refine s_call ha hs (.string (⟨#[49]⟩)) (ctext_dig (n := (-1 : Int).natAbs) (by decide) rfl _) fun ac wd ha hs => ?_
  refine s_val ha (.string (⟨#[45, 49]⟩)) fun ac ha => ?_
  refine s_val ha (.string (⟨#[45, 49]⟩)) fun ac ha => ?_
  refine wpList_nil ((x_normal ?_))
  refine wp_ret (x_ret (ret_at ha hs rfl [.string (⟨#[45, 49]⟩)] ⟨rfl, trivial⟩ ?_))
  exact ⟨rfl, hs.ext⟩
  
set_option maxHeartbeats 1000000 in
theorem known2 (w : World) : Calls Tryz.prog 72 #[] w (Ret (.bool true) w) := by
  have hs := St.start w
  refine enter Tryz.func72 rfl Tryz.ntmps72 (by kernel_rfl) fun ac ha => ?_
  refine wp_seq ?_
  refine wp_region_lit ?_
  refine s_val ha (.bool false) fun ac ha => ?_
  refine wpList_nil ((x_normal ?_))
  refine wp_seq ?_
  refine wp_region_lit ?_
  refine s_call ha hs (zV (-7 : Int)) (zof (-7) (by omega) (by omega) _) fun ac wd ha hs => ?_
  refine s_call ha hs (zV (2 : Int)) (zof 2 (by omega) (by omega) _) fun ac wd ha hs => ?_
  refine s_call ha hs (.tuple #[zV (-4 : Int), zV (1 : Int), .bool true]) (zdiv (x := -7) (y := 2) (Sm.lit (by decide)) (Sm.lit (by decide)) (by decide) _ (by omega)) fun ac wd ha hs => ?_
  refine s_val ha (.tuple #[zV (-4 : Int), zV (1 : Int), .bool true]) fun ac ha => ?_
  refine s_val ha (zV (-4 : Int)) fun ac ha => ?_
  refine s_val ha (zV (1 : Int)) fun ac ha => ?_
  refine s_val ha (.bool true) fun ac ha => ?_
  refine s_alloc ha hs [.bool false, .int .u64 0, .string (⟨#[]⟩)] fun g5 ac wd ha hs => ?_
  refine s_alloc ha hs [.bool false, .int .u64 0, .string (⟨#[]⟩)] fun g6 ac wd ha hs => ?_
  refine s_store ha hs 1 _ fun ac wd ha hs => ?_
  refine s_store ha hs 0 _ fun ac wd ha hs => ?_
  refine s_val ha (.bool true) fun ac ha => ?_
  refine wpList_nil ((x_normal ?_))
  refine wp_seq ?_
  refine wp_region_lit ?_
  refine s_call ha hs (zV (6 : Int)) (zof 6 (by omega) (by omega) _) fun ac wd ha hs => ?_
  refine s_call ha hs (zV (4 : Int)) (zof 4 (by omega) (by omega) _) fun ac wd ha hs => ?_
  refine s_call ha hs (.tuple #[zV (2 : Int), zV (1 : Int), zV (-1 : Int)]) (zbez64 _) fun ac wd ha hs => ?_
  refine s_val ha (.tuple #[zV (2 : Int), zV (1 : Int), zV (-1 : Int)]) fun ac ha => ?_
  refine s_val ha (zV (2 : Int)) fun ac ha => ?_
  refine s_val ha (zV (1 : Int)) fun ac ha => ?_
  refine s_val ha (zV (-1 : Int)) fun ac ha => ?_
  refine s_alloc ha hs [.bool false, .int .u64 0, .string (⟨#[]⟩)] fun g7 ac wd ha hs => ?_
  refine s_alloc ha hs [.bool false, .int .u64 0, .string (⟨#[]⟩)] fun g8 ac wd ha hs => ?_
  refine s_alloc ha hs [.bool false, .int .u64 0, .string (⟨#[]⟩)] fun g9 ac wd ha hs => ?_
  refine s_store ha hs 2 _ fun ac wd ha hs => ?_
  refine s_store ha hs 1 _ fun ac wd ha hs => ?_
  refine s_store ha hs 0 _ fun ac wd ha hs => ?_
  refine wpList_nil ((x_normal ?_))
  refine wp_seq ?_
  refine wp_region_lit ?_
  refine s_val ha (.bool true) fun ac ha => ?_
  refine s_val ha (.bool true) fun ac ha => ?_
  refine s_load ha hs 4 (zV (-4 : Int)) fun ac ha => ?_
  refine s_call ha hs (.string (⟨#[45, 52]⟩)) (ztext_m4 _) fun ac wd ha hs => ?_
  refine s_val ha (.bool true) fun ac ha => ?_
  refine s_val ha (.bool true) fun ac ha => ?_
  refine s_val ha (.bool true) fun ac ha => ?_
  refine s_load ha hs 3 (zV (1 : Int)) fun ac ha => ?_
  refine s_call ha hs (.string (⟨#[49]⟩)) (ztext_1 _) fun ac wd ha hs => ?_
  refine s_val ha (.bool true) fun ac ha => ?_
  refine s_val ha (.bool true) fun ac ha => ?_
  refine s_val ha (.bool true) fun ac ha => ?_
  refine s_load ha hs 2 (zV (2 : Int)) fun ac ha => ?_
  refine s_call ha hs (.string (⟨#[50]⟩)) (ztext_2 _) fun ac wd ha hs => ?_
  refine s_val ha (.bool true) fun ac ha => ?_
  refine s_val ha (.bool true) fun ac ha => ?_
  refine s_val ha (.bool true) fun ac ha => ?_
  refine s_load ha hs 1 (zV (1 : Int)) fun ac ha => ?_
  refine s_call ha hs (.string (⟨#[49]⟩)) (ztext_1 _) fun ac wd ha hs => ?_
  refine s_val ha (.bool true) fun ac ha => ?_
  refine s_val ha (.bool true) fun ac ha => ?_
  refine s_val ha (.bool true) fun ac ha => ?_
  refine s_load ha hs 0 (zV (-1 : Int)) fun ac ha => ?_
  refine s_call ha hs (.string (⟨#[45, 49]⟩)) (ztext_m1 _) fun ac wd ha hs => ?_
  refine s_val ha (.bool true) fun ac ha => ?_
  refine s_val ha (.bool true) fun ac ha => ?_
  refine s_val ha (.bool true) fun ac ha => ?_
  refine wpList_nil ((x_normal ?_))
  refine wp_ret (ret_at ha hs rfl [.bool true] ⟨rfl, trivial⟩ ?_)
  exact ⟨rfl, hs.ext⟩
  end Go.Proofs.YtiloialbglfplaaGreatDoor
