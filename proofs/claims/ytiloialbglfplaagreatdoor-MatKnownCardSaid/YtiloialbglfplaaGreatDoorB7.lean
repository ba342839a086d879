/- Walks over the document's whole numbers, and over hand. (Printed by walks/z2.py.) Walks over law2: two, is. (Printed by walks/z3.py.) The numbers of Bezout: what the loop comes to. Walks over Bezout. (Printed by walks/z4.py.) Walks: the texts of some whole numbers of one digit. Walks over law2: known. (Printed by walks/z5.py.) Greatest common divisors by halves: plain mathematics. Lists of words of one's own, changed in place: trim, zeros, down, compare, subtract of package whole. Walks over whole: compare, subtract. Walks over whole: words, number. Walks over whole: binary. Walks over whole: Gcd. (Printed by walks/zg.py.) The numbers of Bezout: what they are. Walks over the document's numbers: NatGcd, Bezout. (Printed by walks/zr.py.) What every law's row takes from its walk: the arguments read as they did, the result is true. The table of TrailingZeros64, as a row lists it. The arguments of a law, opened: slices of bytes. Fractions as the program and as the document have them: plain mathematics. -/
import Derived.Lib.TrailingZeros
import Derived.Shelf.Spec.TrailingZeros
import Derived.Laws.Bits64b
import Derived.Deep.LoopGhost
import Derived.Test.YtiloialbglfplaaGreatDoorRows
import Derived.Test.YtiloialbglfplaaGreatDoorTie
import Derived.ProofKit
import Derived.LaidMore
import Derived.OpenShut
import Derived.Stop.Joined
import Derived.Carry
import Derived.SevenTiedAt
import Derived.Deep.DeepHandedRow
import Derived.Lib.LaidTab
import Derived.Stop.LaidErr
import Derived.Test.YtiloialbglfplaaGreatDoorB6
namespace Go.Proofs.YtiloialbglfplaaGreatDoor
open Go.RowKit

theorem nl_gt {n : Nat} {c : Bool} (h : decide (((nl n : Nat) : Int) > 0) = c) : decide (0 < n) = c := by
  rw [← h]
  exact decide_eq_decide.2 (nl_pos n).symm
theorem Sm.sg {k n : Nat} (b : Bool) (h : Sm k n) : Sm k (sg b n).natAbs := by rw [sg_abs]; exact h
theorem Sm.i64 {n : Int} (h1 : -9223372036854775808 ≤ n) (h2 : n ≤ 9223372036854775807) : Sm 64 n.natAbs := bl_le (by omega)
theorem crdiv2 {j k a b : Nat} (ha : Sm j a) (hb : Sm k b) (h0 : b ≠ 0) {v1 v2 : Value} (W : World) (h1 : R32 a v1 W) (h2 : R32 b v2 W) (h : max j k ≤ 137438953472) : Calls Tryz.prog 130 #[v1, v2] W (RetS (R2 (a / b) (a % b)) W) :=
  (refDiv_any a b v1 v2 W h1 h2 (by unfold Sm at ha; omega) (by unfold Sm at hb; omega) h0).mono fun _ _ ⟨x, y, h1, h2, h3, h4⟩ => ⟨_, h1, ⟨x, y, rfl, h2, h3⟩, h4⟩
theorem crcmp_eq {j k a b : Nat} (ha : Sm j a) (hb : Sm k b) (e : a = b) {v1 v2 : Value} (W : World) (h1 : R32 a v1 W) (h2 : R32 b v2 W) (h : max j k ≤ 549755813888) : Calls Tryz.prog 74 #[v1, v2] W (Ret (.int .i64 0) W) := by
  have h := crcmp ha hb W h1 h2 h
  rw [show cmpN a b = 0 from by subst e; unfold cmpN; simp] at h
  exact h
theorem chnat {k n : Nat} (hn : Sm k n) {v : Value} (W : World) (h : R32 n v W) (hk : k ≤ 549755813888) : Calls Tryz.prog 122 #[v] W (Ret (nV n) W) := handNat_any n (by unfold Sm at hn; omega) v W h
theorem cbytes {k n : Nat} (hn : Sm k n) (W : World) (hk : k ≤ 549755813888) : Calls Tryz.prog 133 #[nV n] W (RetS (SlB (beB n)) W) :=
  (bytes_any n (by unfold Sm at hn; omega) W).mono fun _ _ ⟨v, h1, h2, h3⟩ => ⟨v, h1, SlB.of_at (by rw [beB_length]; unfold nb; unfold Sm at hn; omega) h2, h3⟩
theorem crfrom_beB {k n : Nat} (hn : Sm k n) {v : Value} (W : World) (h : SlB (beB n) v W) (hk : k ≤ 549755813888) : Calls Tryz.prog 66 #[v] W (RetS (R32 n) W) := by
  have h := refFrom_any (beB n) v W (by rw [beB_length]; unfold nb; unfold Sm at hn; omega) h
  rw [beN_beB] at h
  exact h
theorem neg_conv {n : Int} (h : n < 0) (h1 : -9223372036854775808 ≤ n) : Value.int .u64 (IntKind.u64.wrap (0 - IntKind.u64.wrap n)) = .int .u64 ((n.natAbs : Nat) : Int) := by
  have e : ∀ z, IntKind.u64.wrap z = z % 18446744073709551616 := fun z => rfl
  rw [e, e]
  congr 1
  omega
theorem pos_conv {n : Int} (h : ¬ n < 0) (h1 : n ≤ 9223372036854775807) : Value.int .u64 (IntKind.u64.wrap n) = .int .u64 ((n.natAbs : Nat) : Int) := by
  have e : ∀ z, IntKind.u64.wrap z = z % 18446744073709551616 := fun z => rfl
  rw [e]
  congr 1
  omega
theorem ri_sg {b : Bool} {n : Nat} {A : Option Addr} {c : Nat} {e : Bool} (h : (b && decide (0 < n)) = e) : Value.agg #[.bool e, .slice A (nl n) c] = riV (sg b n) A c := by
  unfold riV
  rw [sg_neg, sg_abs, h]
theorem sign_lt (x : Int) : x.sign < 0 ↔ x < 0 := by
  rcases Int.lt_trichotomy x 0 with h | h | h
  · rw [Int.sign_eq_neg_one_of_neg h]; omega
  · rw [h]; simp
  · rw [Int.sign_eq_one_of_pos h]; omega
theorem of_val {n : Int} {b : Bool} (h : decide (n < 0) = b) : Ending.returned (pack [.agg #[.bool b, .int .u64 (lo n.natAbs : Nat), .string (hi n.natAbs)]]) = .returned (zV n) := by subst h; rfl
theorem ret_ri {x y : Int} {A : Option Addr} {c : Nat} {w w' : World} (h : x = y) (e : Ext w w') (hR : R32 x.natAbs (.slice A (nl x.natAbs) c) w') : RetS (RI y) w (.returned (pack [riV x A c])) w' := by subst h; exact ⟨_, rfl, RI.mk hR, e⟩

set_option maxHeartbeats 1000000 in
theorem ri_any (b : Bool) {n : Nat} {v : Value} (w : World) (h1 : R32 n v w) : Calls Tryz.prog 65 #[.bool b, v] w (RetS (RI (sg b n)) w) := by
  obtain ⟨A1, c1, rfl⟩ := h1.form
  have hs := St.start w
  have hs := hs.add32 h1 (by kernel_rfl)
  refine enter Tryz.func65 rfl Tryz.ntmps65 (by kernel_rfl) fun ac ha => ?_
  refine wp_seq ?_
  refine wp_region_lit ?_
  refine s_alloc ha hs [.bool false, .slice none 0 0] fun g1 ac wd ha hs => ?_
  refine wpList_nil ((x_normal ?_))
  refine wp_seq ?_
  refine wp_region_lit ?_
  refine s_val ha (.bool b) fun ac ha => ?_
  refine s_val ha (.bool b) fun ac ha => ?_
  cases b
  ·
    refine s_not ha fun ac ha => ?_
    refine s_not ha fun ac ha => ?_
    refine s_not ha fun ac ha => ?_
    refine s_val ha (.bool false) fun ac ha => ?_
    refine s_val ha (.slice A1 (nl n) c1) fun ac ha => ?_
    refine s_val ha (.agg #[.bool false, .slice A1 (nl n) c1]) fun ac ha => ?_
    refine s_store ha hs 0 _ fun ac wd ha hs => ?_
    refine wpList_nil ((x_normal ?_))
    refine wp_ret (ret_at ha hs rfl [.agg #[.bool false, .slice A1 (nl n) c1]] ⟨⟨0, _, _, _, rfl, rfl, by kernel_rfl⟩, trivial⟩ ?_)
    exact ⟨_, rfl, by rw [pack, ri_sg (b := false) (n := n) (by rfl)]; exact RI.mk (by rw [sg_abs]; exact hs.get 0 rfl), hs.ext⟩
  ·
    refine s_val ha (.slice A1 (nl n) c1) fun ac ha => ?_
    refine s_val ha (.int .i64 ((nl n : Nat) : Int)) fun ac ha => ?_
    rcases Bool.eq_false_or_eq_true (decide (((nl n : Nat) : Int) > 0)) with hb2 | hb2
    ·
      have phb2 := of_decide_eq_true hb2
      refine s_bool ha (b := decide (((nl n : Nat) : Int) > 0)) true hb2 fun ac ha => ?_
      refine s_val ha (.bool true) fun ac ha => ?_
      refine s_val ha (.slice A1 (nl n) c1) fun ac ha => ?_
      refine s_val ha (.agg #[.bool true, .slice A1 (nl n) c1]) fun ac ha => ?_
      refine s_store ha hs 0 _ fun ac wd ha hs => ?_
      refine wpList_nil ((x_normal ?_))
      refine wp_ret (ret_at ha hs rfl [.agg #[.bool true, .slice A1 (nl n) c1]] ⟨⟨0, _, _, _, rfl, rfl, by kernel_rfl⟩, trivial⟩ ?_)
      exact ⟨_, rfl, by rw [pack, ri_sg (b := true) (n := n) (by rw [Bool.true_and]; exact nl_gt hb2)]; exact RI.mk (by rw [sg_abs]; exact hs.get 0 rfl), hs.ext⟩
    ·
      have phb2 := of_decide_eq_false hb2
      refine s_bool ha (b := decide (((nl n : Nat) : Int) > 0)) false hb2 fun ac ha => ?_
      refine s_val ha (.bool false) fun ac ha => ?_
      refine s_val ha (.slice A1 (nl n) c1) fun ac ha => ?_
      refine s_val ha (.agg #[.bool false, .slice A1 (nl n) c1]) fun ac ha => ?_
      refine s_store ha hs 0 _ fun ac wd ha hs => ?_
      refine wpList_nil ((x_normal ?_))
      refine wp_ret (ret_at ha hs rfl [.agg #[.bool false, .slice A1 (nl n) c1]] ⟨⟨0, _, _, _, rfl, rfl, by kernel_rfl⟩, trivial⟩ ?_)
      exact ⟨_, rfl, by rw [pack, ri_sg (b := true) (n := n) (by rw [Bool.true_and]; exact nl_gt hb2)]; exact RI.mk (by rw [sg_abs]; exact hs.get 0 rfl), hs.ext⟩
  
set_option maxHeartbeats 1000000 in
theorem coutnat {k n : Nat} (hn : Sm k n) (w : World) (hk : k ≤ 549755813888) : Calls Tryz.prog 75 #[nV n] w (RetS (R32 n) w) := by
  have hs := St.start w
  refine enter Tryz.func75 rfl Tryz.ntmps75 (by kernel_rfl) fun ac ha => ?_
  refine wp_seq ?_
  refine wp_region_lit ?_
  refine s_box ha hs [.int .u64 (lo n : Nat), .string (hi n)] fun g59 ac wd ha hs => ?_
  refine s_val ha (.slice none 0 0) fun ac ha => ?_
  refine wpList_nil ((x_normal ?_))
  refine wp_seq ?_
  refine wp_region_lit ?_
  refine s_load ha hs 0 (nV n) fun ac ha => ?_
  refine s_callP ha hs (cbytes hn _ (by omega)) fun u ac wd hp ha hs => ?_
  obtain ⟨Ai60, ci60, rfl⟩ := hp.form
  have hs := hs.add8 hp (by kernel_rfl)
  refine s_callP ha hs (crfrom_beB hn _ (hs.get 0 rfl) (by omega)) fun u ac wd hp ha hs => ?_
  obtain ⟨Ai61, ci61, rfl⟩ := hp.form
  have hs := hs.add32 hp (by kernel_rfl)
  refine s_val ha (.slice Ai61 (nl n) ci61) fun ac ha => ?_
  refine wpList_nil ((x_normal ?_))
  refine wp_ret (ret_at ha hs rfl [.slice Ai61 (nl n) ci61] ⟨rfl, trivial⟩ ?_)
  exact ⟨_, rfl, (hs.get 0 rfl), hs.ext⟩
  
set_option maxHeartbeats 1000000 in
theorem chint {k : Nat} {x : Int} (hx : Sm k x.natAbs) {v1 : Value} (w : World) (q1 : RI x v1 w) (hk : k ≤ 549755813888) : Calls Tryz.prog 69 #[v1] w (Ret (zV x) w) := by
  obtain ⟨A1, c1, rfl, r1⟩ := q1
  have hs := St.start w
  have hs := hs.add32 r1 (by kernel_rfl)
  refine enter Tryz.func69 rfl Tryz.ntmps69 (by kernel_rfl) fun ac ha => ?_
  refine wp_seq ?_
  refine wp_region_lit ?_
  refine s_box ha hs [.bool (decide (x < 0)), .slice A1 (nl x.natAbs) c1] fun g62 ac wd ha hs => ?_
  refine s_alloc ha hs [.bool false, .int .u64 0, .string (⟨#[]⟩)] fun g63 ac wd ha hs => ?_
  refine wpList_nil ((x_normal ?_))
  refine wp_seq ?_
  rcases Bool.eq_false_or_eq_true (decide (x < 0)) with hb64 | hb64
  ·
    have phb64 := of_decide_eq_true hb64
    refine region_sp ha 6 [.eq (.pointer (some ⟨g62, 0, none⟩)), .eq (.bool true), .eq (.pointer (some ⟨g62, 1, none⟩)), .eq (.slice A1 (nl x.natAbs) c1), .eq (nV x.natAbs), .eq (zV (-((x.natAbs : Nat) : Int)))] [] [] (fun _ hb => by cases hb)
      ⟨d_val, d_loadb hs 1 hb64, d_val, d_load hs 1, d_call (fun _ hw => chnat hx _ ((hs.go hw).get 0 rfl) (by omega)), d_call (fun _ hw => from_any true hx (by omega) _), trivial⟩ ?_
    intro vv wd1 ac hw hG hN ha
    have ha := ha.sub [(0, riV x A1 c1), (2, .pointer (some ⟨g63, 0, none⟩)), (8, zV (-((x.natAbs : Nat) : Int)))]
    clear hG hN
    have hs := hs.go hw
    clear hw
    refine keeps_nil ?_
    show wpList _ _ _ _ _ _
    refine s_store ha hs 0 _ fun ac wd ha hs => ?_
    refine wpList_nil ((x_normal ?_))
    refine wp_ret (ret_at ha hs rfl [zV (-((x.natAbs : Nat) : Int))] ⟨⟨0, _, _, _, rfl, rfl, by kernel_rfl⟩, trivial⟩ ?_)
    exact ret_z (by omega) hs.ext
  ·
    have phb64 := of_decide_eq_false hb64
    refine region_sp ha 6 [.eq (.pointer (some ⟨g62, 0, none⟩)), .eq (.bool false), .eq (.pointer (some ⟨g62, 1, none⟩)), .eq (.slice A1 (nl x.natAbs) c1), .eq (nV x.natAbs), .eq (zV ((x.natAbs : Nat) : Int))] [] [] (fun _ hb => by cases hb)
      ⟨d_val, d_loadb hs 1 hb64, d_val, d_load hs 1, d_call (fun _ hw => chnat hx _ ((hs.go hw).get 0 rfl) (by omega)), d_call (fun _ hw => from_any false hx (by omega) _), trivial⟩ ?_
    intro vv wd1 ac hw hG hN ha
    have ha := ha.sub [(0, riV x A1 c1), (2, .pointer (some ⟨g63, 0, none⟩)), (8, zV ((x.natAbs : Nat) : Int))]
    clear hG hN
    have hs := hs.go hw
    clear hw
    refine keeps_nil ?_
    show wpList _ _ _ _ _ _
    refine s_store ha hs 0 _ fun ac wd ha hs => ?_
    refine wpList_nil ((x_normal ?_))
    refine wp_ret (ret_at ha hs rfl [zV ((x.natAbs : Nat) : Int)] ⟨⟨0, _, _, _, rfl, rfl, by kernel_rfl⟩, trivial⟩ ?_)
    exact ret_z (by omega) hs.ext
  
set_option maxHeartbeats 1000000 in
theorem coutint {k : Nat} {x : Int} (hx : Sm k x.natAbs) (w : World) (hk : k ≤ 549755813888) : Calls Tryz.prog 132 #[zV x] w (RetS (RI x) w) := by
  have hs := St.start w
  refine enter Tryz.func132 rfl Tryz.ntmps132 (by kernel_rfl) fun ac ha => ?_
  refine wp_seq ?_
  refine wp_region_lit ?_
  refine s_box ha hs [.bool (decide (x < 0)), .int .u64 (lo x.natAbs : Nat), .string (hi x.natAbs)] fun g67 ac wd ha hs => ?_
  refine s_alloc ha hs [.bool false, .slice none 0 0] fun g68 ac wd ha hs => ?_
  refine wpList_nil ((x_normal ?_))
  refine wp_seq ?_
  rcases Bool.eq_false_or_eq_true (decide (x.sign < 0)) with hb69 | hb69
  ·
    have phb69 := of_decide_eq_true hb69
    refine region_sp ha 7 [.eq (zV x), .eq (.int .i64 x.sign), .eq (.bool true), .eq (zV x), .eq (nV x.natAbs), .pr (R32 x.natAbs) fun _ _ _ e h => h.ext e, .pr (RI (-((x.natAbs : Nat) : Int))) fun _ _ _ e h => h.ext e] [] [] (fun _ hb => by cases hb)
      ⟨d_load hs 1, d_call (fun _ hw => zsign hx _ (by omega)), d_bool (b := decide (x.sign < 0)) hb69, d_load hs 1, d_call (fun _ hw => zabs x _), d_callP (fun u => #[nV x.natAbs]) (fun u _ hw hj => coutnat hx _ (by omega)), d_callP (fun u => #[.bool true, u 5]) (fun u _ hw hj => ri_any true _ (hj 5 (by kernel_rfl))), trivial⟩ ?_
    intro vv wd1 ac hw hG hN ha
    have ha := ha.sub [(0, zV x), (2, .pointer (some ⟨g68, 0, none⟩)), (9, vv 6)]
    have h_6 : (RI (-((x.natAbs : Nat) : Int))) (vv 6) wd1 := hG 6 9 (by decide) rfl
    clear hG hN
    have hs := hs.go hw
    obtain ⟨Ai71, ci71, e71, r71⟩ := h_6
    rw [e71] at ha
    clear e71
    have hs := hs.add32 r71 (by kernel_rfl)
    clear hw
    refine keeps_nil ?_
    show wpList _ _ _ _ _ _
    refine s_store ha hs 0 _ fun ac wd ha hs => ?_
    refine wpList_nil ((x_normal ?_))
    refine wp_ret (ret_at ha hs rfl [riV (-((x.natAbs : Nat) : Int)) Ai71 ci71] ⟨⟨0, _, _, _, rfl, rfl, by kernel_rfl⟩, trivial⟩ ?_)
    exact ret_ri (by have := sign_lt x; omega) hs.ext (hs.get 0 rfl)
  ·
    have phb69 := of_decide_eq_false hb69
    refine region_sp ha 7 [.eq (zV x), .eq (.int .i64 x.sign), .eq (.bool false), .eq (zV x), .eq (nV x.natAbs), .pr (R32 x.natAbs) fun _ _ _ e h => h.ext e, .pr (RI ((x.natAbs : Nat) : Int)) fun _ _ _ e h => h.ext e] [] [] (fun _ hb => by cases hb)
      ⟨d_load hs 1, d_call (fun _ hw => zsign hx _ (by omega)), d_bool (b := decide (x.sign < 0)) hb69, d_load hs 1, d_call (fun _ hw => zabs x _), d_callP (fun u => #[nV x.natAbs]) (fun u _ hw hj => coutnat hx _ (by omega)), d_callP (fun u => #[.bool false, u 5]) (fun u _ hw hj => ri_any false _ (hj 5 (by kernel_rfl))), trivial⟩ ?_
    intro vv wd1 ac hw hG hN ha
    have ha := ha.sub [(0, zV x), (2, .pointer (some ⟨g68, 0, none⟩)), (9, vv 6)]
    have h_6 : (RI ((x.natAbs : Nat) : Int)) (vv 6) wd1 := hG 6 9 (by decide) rfl
    clear hG hN
    have hs := hs.go hw
    obtain ⟨Ai73, ci73, e73, r73⟩ := h_6
    rw [e73] at ha
    clear e73
    have hs := hs.add32 r73 (by kernel_rfl)
    clear hw
    refine keeps_nil ?_
    show wpList _ _ _ _ _ _
    refine s_store ha hs 0 _ fun ac wd ha hs => ?_
    refine wpList_nil ((x_normal ?_))
    refine wp_ret (ret_at ha hs rfl [riV ((x.natAbs : Nat) : Int) Ai73 ci73] ⟨⟨0, _, _, _, rfl, rfl, by kernel_rfl⟩, trivial⟩ ?_)
    exact ret_ri (by have := sign_lt x; omega) hs.ext (hs.get 0 rfl)
  
set_option maxHeartbeats 1000000 in
theorem riof (n : Int) (h1 : -9223372036854775808 ≤ n) (h2 : n ≤ 9223372036854775807) (w : World) : Calls Tryz.prog 110 #[.int .i64 n] w (RetS (RI n) w) := by
  have hs := St.start w
  refine enter Tryz.func110 rfl Tryz.ntmps110 (by kernel_rfl) fun ac ha => ?_
  refine wp_seq ?_
  refine wp_region_lit ?_
  refine s_alloc ha hs [.bool false, .slice none 0 0] fun g74 ac wd ha hs => ?_
  refine wpList_nil ((x_normal ?_))
  refine wp_seq ?_
  refine wp_seq ?_
  refine wp_region_lit ?_
  refine s_val ha (.int .i64 n) fun ac ha => ?_
  rcases Bool.eq_false_or_eq_true (decide (n < 0)) with hb75 | hb75
  ·
    have phb75 := of_decide_eq_true hb75
    refine s_bool ha (b := decide (n < 0)) true hb75 fun ac ha => ?_
    refine wpList_nil ((x_normal ?_))
    refine r_true ha ?_
    refine wp_seq ?_
    refine wp_region_lit ?_
    refine s_val ha (.int .i64 n) fun ac ha => ?_
    refine s_val ha (.int .u64 (IntKind.u64.wrap n)) fun ac ha => ?_
    refine s_eq ha (.int .u64 ((n.natAbs : Nat) : Int)) (neg_conv phb75 h1) fun ac ha => ?_
    refine s_callP ha hs (refOf_any n.natAbs (by unfold B64; omega) _) fun u ac wd hp ha hs => ?_
    obtain ⟨Ai76, ci76, rfl⟩ := hp.form
    have hs := hs.add32 hp (by kernel_rfl)
    refine s_callP ha hs (ri_any true _ (hs.get 0 rfl)) fun u ac wd hp ha hs => ?_
    obtain ⟨Ai77, ci77, rfl, r77⟩ := hp
    have hs := hs.add32 r77 (by kernel_rfl)
    refine s_store ha hs 0 _ fun ac wd ha hs => ?_
    refine wpList_nil ((x_normal ?_))
    refine wp_ret (x_ret (ret_at ha hs rfl [riV (-((n.natAbs : Nat) : Int)) Ai77 ci77] ⟨⟨0, _, _, _, rfl, rfl, by kernel_rfl⟩, trivial⟩ ?_))
    exact ret_ri (by omega) hs.ext (hs.get 0 rfl)
  ·
    have phb75 := of_decide_eq_false hb75
    refine s_bool ha (b := decide (n < 0)) false hb75 fun ac ha => ?_
    refine wpList_nil ((x_normal ?_))
    refine r_false ha ?_
    refine wp_skip ((x_normal ?_))
    refine wp_seq ?_
    refine wp_region_lit ?_
    refine s_val ha (.int .i64 n) fun ac ha => ?_
    refine s_eq ha (.int .u64 ((n.natAbs : Nat) : Int)) (pos_conv phb75 h2) fun ac ha => ?_
    refine s_callP ha hs (refOf_any n.natAbs (by unfold B64; omega) _) fun u ac wd hp ha hs => ?_
    obtain ⟨Ai78, ci78, rfl⟩ := hp.form
    have hs := hs.add32 hp (by kernel_rfl)
    refine s_callP ha hs (ri_any false _ (hs.get 0 rfl)) fun u ac wd hp ha hs => ?_
    obtain ⟨Ai79, ci79, rfl, r79⟩ := hp
    have hs := hs.add32 r79 (by kernel_rfl)
    refine s_store ha hs 0 _ fun ac wd ha hs => ?_
    refine wpList_nil ((x_normal ?_))
    refine wp_ret (ret_at ha hs rfl [riV ((n.natAbs : Nat) : Int) Ai79 ci79] ⟨⟨0, _, _, _, rfl, rfl, by kernel_rfl⟩, trivial⟩ ?_)
    exact ret_ri (by omega) hs.ext (hs.get 0 rfl)
  
set_option maxHeartbeats 1000000 in
theorem zof (n : Int) (h1 : -9223372036854775808 ≤ n) (h2 : n ≤ 9223372036854775807) (w : World) : Calls Tryz.prog 109 #[.int .i64 n] w (Ret (zV n) w) := by
  have hs := St.start w
  refine enter Tryz.func109 rfl Tryz.ntmps109 (by kernel_rfl) fun ac ha => ?_
  refine wp_seq ?_
  refine wp_region_lit ?_
  refine s_alloc ha hs [.bool false, .int .u64 0, .string (⟨#[]⟩)] fun g80 ac wd ha hs => ?_
  refine wpList_nil ((x_normal ?_))
  refine wp_seq ?_
  refine wp_seq ?_
  refine wp_region_lit ?_
  refine s_val ha (.int .i64 n) fun ac ha => ?_
  rcases Bool.eq_false_or_eq_true (decide (n < 0)) with hb81 | hb81
  ·
    have phb81 := of_decide_eq_true hb81
    refine s_bool ha (b := decide (n < 0)) true hb81 fun ac ha => ?_
    refine wpList_nil ((x_normal ?_))
    refine r_true ha ?_
    refine wp_seq ?_
    refine wp_region_lit ?_
    refine s_val ha (.int .i64 n) fun ac ha => ?_
    refine s_val ha (.int .u64 (IntKind.u64.wrap n)) fun ac ha => ?_
    refine s_eq ha (.int .u64 ((n.natAbs : Nat) : Int)) (neg_conv phb81 h1) fun ac ha => ?_
    refine s_call ha hs (nV n.natAbs) (cof n.natAbs (by unfold B64; omega) _) fun ac wd ha hs => ?_
    refine s_val ha (.agg #[.bool true, .int .u64 (lo n.natAbs : Nat), .string (hi n.natAbs)]) fun ac ha => ?_
    refine s_store ha hs 0 _ fun ac wd ha hs => ?_
    refine wpList_nil ((x_normal ?_))
    refine wp_ret (x_ret (ret_at ha hs rfl [.agg #[.bool true, .int .u64 (lo n.natAbs : Nat), .string (hi n.natAbs)]] ⟨⟨0, _, _, _, rfl, rfl, by kernel_rfl⟩, trivial⟩ ?_))
    exact ⟨of_val hb81, hs.ext⟩
  ·
    have phb81 := of_decide_eq_false hb81
    refine s_bool ha (b := decide (n < 0)) false hb81 fun ac ha => ?_
    refine wpList_nil ((x_normal ?_))
    refine r_false ha ?_
    refine wp_skip ((x_normal ?_))
    refine wp_seq ?_
    refine wp_region_lit ?_
    refine s_val ha (.int .i64 n) fun ac ha => ?_
    refine s_eq ha (.int .u64 ((n.natAbs : Nat) : Int)) (pos_conv phb81 h2) fun ac ha => ?_
    refine s_call ha hs (nV n.natAbs) (cof n.natAbs (by unfold B64; omega) _) fun ac wd ha hs => ?_
    refine s_val ha (.agg #[.bool false, .int .u64 (lo n.natAbs : Nat), .string (hi n.natAbs)]) fun ac ha => ?_
    refine s_store ha hs 0 _ fun ac wd ha hs => ?_
    refine wpList_nil ((x_normal ?_))
    refine wp_ret (ret_at ha hs rfl [.agg #[.bool false, .int .u64 (lo n.natAbs : Nat), .string (hi n.natAbs)]] ⟨⟨0, _, _, _, rfl, rfl, by kernel_rfl⟩, trivial⟩ ?_)
    exact ⟨of_val hb81, hs.ext⟩
  
end Go.Proofs.YtiloialbglfplaaGreatDoor

namespace Go.Proofs.YtiloialbglfplaaGreatDoor
open Go.RowKit

end Go.Proofs.YtiloialbglfplaaGreatDoor

namespace Go.Proofs.YtiloialbglfplaaGreatDoor
open Go.RowKit

theorem fmod_lt_abs (x : Int) {y : Int} (h : y ≠ 0) : (x.fmod y).natAbs < y.natAbs := by
  rcases Int.lt_or_gt_of_ne h with h | h
  · have h1 := (Int.fdiv_fmod_unique' (a := x) h).1 ⟨rfl, rfl⟩
    omega
  · have h1 := Int.fmod_nonneg_of_pos x h
    have h2 := Int.fmod_lt_of_pos x h
    omega
/-- The loop: last and next number, each with its factor. -/
def bzR (r0 x0 r1 x1 : Int) : Int × Int := if _h : r1 = 0 then (r0, x0) else bzR r1 x1 (r0.fmod r1) (x0 - r0.fdiv r1 * x1)
termination_by r1.natAbs
decreasing_by exact fmod_lt_abs r0 (by assumption)
theorem bzR_zero (r0 x0 x1 : Int) : bzR r0 x0 0 x1 = (r0, x0) := by rw [bzR, dif_pos rfl]
theorem bzR_step {r1 : Int} (h : r1 ≠ 0) (r0 x0 x1 : Int) : bzR r0 x0 r1 x1 = bzR r1 x1 (r0.fmod r1) (x0 - r0.fdiv r1 * x1) := by rw [bzR, dif_neg h]

structure BInv (k : Nat) (a b r0 x0 r1 x1 : Int) : Prop where
  eq : bzR r0 x0 r1 x1 = bzR a 1 b 0
  s0 : Sm k r0.natAbs
  s1 : Sm k r1.natAbs
  det : (x0 * r1 - x1 * r0).natAbs = b.natAbs
  sgn : x0 * x1 ≤ 0
  rr : x1 = 0 ∨ (0 ≤ r0 * r1 ∧ r0 ≠ 0)
  x0b : x0.natAbs ≤ b.natAbs + 1
theorem BInv.start {j k : Nat} {a b : Int} (ha : Sm j a.natAbs) (hb : Sm k b.natAbs) : BInv (max j k) a b a 1 b 0 :=
  ⟨rfl, ha.le (by omega), hb.le (by omega), by simp, by omega, .inl rfl, by simp⟩
theorem BInv.x1b {k : Nat} {a b r0 x0 r1 x1 : Int} (h : BInv k a b r0 x0 r1 x1) : x1.natAbs ≤ b.natAbs := by
  rcases h.rr with h0 | ⟨h1, h2⟩
  · subst h0; simp
  · have hp : (x0 * r1) * (x1 * r0) ≤ 0 := by
      have e : (x0 * r1) * (x1 * r0) = (x0 * x1) * (r0 * r1) := by grind
      rw [e]
      exact Int.mul_nonpos_of_nonpos_of_nonneg h.sgn h1
    have hd := h.det
    have hx : x1.natAbs ≤ (x1 * r0).natAbs := by
      rw [Int.natAbs_mul]
      exact Nat.le_mul_of_pos_right _ (by omega)
    generalize x0 * r1 = p at *
    generalize x1 * r0 = q at *
    have : q.natAbs ≤ (p - q).natAbs := by
      rcases Int.lt_trichotomy p 0 with hp' | hp' | hp'
      · have : 0 ≤ q := by
          rcases Int.lt_or_le q 0 with h' | h'
          · have := Int.mul_pos_of_neg_of_neg hp' h'; omega
          · exact h'
        omega
      · subst hp'; simp
      · have : q ≤ 0 := by
          rcases Int.lt_or_le 0 q with h' | h'
          · have := Int.mul_pos hp' h'; omega
          · exact h'
        omega
    omega
theorem fdiv_nonneg_same {r0 r1 : Int} (h : 0 ≤ r0 * r1) (h1 : r1 ≠ 0) : 0 ≤ r0.fdiv r1 := by
  rcases Int.lt_or_gt_of_ne h1 with h' | h'
  · refine Int.fdiv_nonneg_of_nonpos_of_nonpos ?_ (by omega)
    rcases Int.lt_or_le 0 r0 with h2 | h2
    · have := Int.mul_neg_of_pos_of_neg h2 h'; omega
    · exact h2
  · refine Int.fdiv_nonneg ?_ (by omega)
    rcases Int.lt_or_le r0 0 with h2 | h2
    · have := Int.mul_neg_of_neg_of_pos h2 h'; omega
    · exact h2
theorem fmod_sign (r0 : Int) {r1 : Int} (h1 : r1 ≠ 0) : 0 ≤ r1 * r0.fmod r1 := by
  rcases Int.lt_or_gt_of_ne h1 with h | h
  · have h2 := (Int.fdiv_fmod_unique' (a := r0) h).1 ⟨rfl, rfl⟩
    exact Int.mul_nonneg_of_nonpos_of_nonpos (by omega) h2.2.2
  · exact Int.mul_nonneg (by omega) (Int.fmod_nonneg_of_pos r0 h)
theorem BInv.step {k : Nat} {a b r0 x0 r1 x1 : Int} (h : BInv k a b r0 x0 r1 x1) (h1 : r1 ≠ 0) : BInv k a b r1 x1 (r0.fmod r1) (x0 - r0.fdiv r1 * x1) := by
  have hm := Int.fmod_add_fdiv_mul r0 r1
  refine ⟨by rw [← bzR_step h1]; exact h.eq, h.s1, h.s1.mono (fmod_natAbs_le r0 h1), ?_, ?_, .inr ⟨fmod_sign r0 h1, h1⟩, Nat.le_succ_of_le h.x1b⟩
  · rw [← h.det, ← Int.natAbs_neg]
    congr 1
    generalize r0.fdiv r1 = q at *
    generalize r0.fmod r1 = m at *
    subst hm
    grind
  · rcases h.rr with h0 | ⟨h2, _⟩
    · subst h0; simp
    · have hq := fdiv_nonneg_same h2 h1
      have e : x1 * (x0 - r0.fdiv r1 * x1) = x0 * x1 - r0.fdiv r1 * (x1 * x1) := by grind
      have h3 : 0 ≤ r0.fdiv r1 * (x1 * x1) := Int.mul_nonneg hq (by
        rcases Int.lt_or_le x1 0 with h' | h'
        · exact Int.mul_nonneg_of_nonpos_of_nonpos (by omega) (by omega)
        · exact Int.mul_nonneg h' h')
      have := h.sgn
      omega
/-- At the end. -/
structure BEnd (b r x : Int) : Prop where
  nz : r ≠ 0
  dv : r.natAbs ∣ b.natAbs
  le : r.natAbs ≤ b.natAbs
  xb : x.natAbs ≤ b.natAbs + 1
theorem BInv.fin {k : Nat} {a b r0 x0 x1 : Int} (h : BInv k a b r0 x0 0 x1) (hb : b ≠ 0) : BEnd b r0 x0 := by
  have hd := h.det
  simp only [Int.mul_zero, Int.zero_sub, Int.natAbs_neg, Int.natAbs_mul] at hd
  have h0 : r0 ≠ 0 := by
    intro e
    rw [e] at hd
    simp at hd
    omega
  refine ⟨h0, ⟨x1.natAbs, by rw [Nat.mul_comm]; exact hd.symm⟩, ?_, h.x0b⟩
  rw [← hd]
  refine Nat.le_mul_of_pos_left _ (Nat.pos_of_ne_zero fun e => ?_)
  rw [e] at hd
  simp at hd
  omega

theorem BInv.fin' {k : Nat} {a b r0 x0 r1 x1 : Int} (h : BInv k a b r0 x0 r1 x1) (e : r1 = 0) (hb : b ≠ 0) : BEnd b r0 x0 := by subst e; exact h.fin hb
theorem BInv.out {k : Nat} {a b r0 x0 r1 x1 : Int} (h : BInv k a b r0 x0 r1 x1) (e : r1 = 0) : bzR a 1 b 0 = (r0, x0) := by subst e; rw [← h.eq, bzR_zero]
end Go.Proofs.YtiloialbglfplaaGreatDoor

namespace Go.Proofs.YtiloialbglfplaaGreatDoor
open Go.RowKit

theorem zsign0 {x : Int} (h : x = 0) (W : World) : Calls Tryz.prog 80 #[zV x] W (Ret (.int .i64 0) W) := by subst h; exact zsign (k := 1) (by simpa using Sm.zero 1) W (by omega)
theorem sgn_ne {x : Int} (h : decide (x = 0) = false) : (x.sign == 0) = false := by
  have := of_decide_eq_false h
  rw [beq_eq_false_iff_ne]
  intro e
  exact this (Int.sign_eq_zero_iff_zero.1 e)
end Go.Proofs.YtiloialbglfplaaGreatDoor

namespace Go.Proofs.YtiloialbglfplaaGreatDoor
open Go.RowKit

end Go.Proofs.YtiloialbglfplaaGreatDoor

namespace Go.Proofs.YtiloialbglfplaaGreatDoor
open Go.RowKit

end Go.Proofs.YtiloialbglfplaaGreatDoor

namespace Go.Proofs.YtiloialbglfplaaGreatDoor

/-- How often 2 divides. -/
def tw (n : Nat) : Nat := if _h : n = 0 then 0 else if n % 2 = 1 then 0 else tw (n / 2) + 1
termination_by n
decreasing_by omega
theorem tw_spec : ∀ {n : Nat}, 0 < n → ∃ m, n = 2 ^ tw n * (2 * m + 1) := by
  intro n
  induction n using Nat.strongRecOn with
  | _ n ih =>
    intro h
    unfold tw
    rw [dif_neg (by omega)]
    split
    · exact ⟨n / 2, by rw [Nat.pow_zero]; omega⟩
    · obtain ⟨m, hm⟩ := ih (n / 2) (by omega) (by omega)
      refine ⟨m, ?_⟩
      rw [Nat.pow_succ, Nat.mul_comm (2 ^ tw (n / 2)) 2, Nat.mul_assoc, ← hm]
      omega
theorem tw_eq : ∀ {k n m : Nat}, n = 2 ^ k * (2 * m + 1) → tw n = k := by
  intro k
  induction k with
  | zero =>
    intro n m h
    rw [Nat.pow_zero, Nat.one_mul] at h
    unfold tw
    rw [dif_neg (by omega), if_pos (by omega)]
  | succ k ih =>
    intro n m h
    have hp : 0 < 2 ^ k * (2 * m + 1) := Nat.mul_pos (Nat.pow_pos (by omega)) (by omega)
    rw [Nat.pow_succ, Nat.mul_comm (2 ^ k) 2, Nat.mul_assoc] at h
    unfold tw
    rw [dif_neg (by omega), if_neg (by omega), ih (m := m) (by omega)]
def od (n : Nat) : Nat := n / 2 ^ tw n
theorem od_spec {n : Nat} (h : 0 < n) : n = 2 ^ tw n * od n ∧ od n % 2 = 1 := by
  obtain ⟨m, hm⟩ := tw_spec h
  have e : od n = 2 * m + 1 := by
    unfold od
    conv => lhs; rw [hm, tw_eq rfl]
    exact Nat.mul_div_cancel_left _ (Nat.pow_pos (by omega))
  exact ⟨by rw [e]; exact hm, by rw [e]; omega⟩
theorem od_pos {n : Nat} (h : 0 < n) : 0 < od n := by have := (od_spec h).2; omega
theorem od_le (n : Nat) : od n ≤ n := Nat.div_le_self _ _
theorem tw_zeros {x : Nat} (i : Nat) (ys : List Nat) (h0 : x ≠ 0) (hx : x < B64) : tw (val B64 (List.replicate i 0 ++ x :: ys)) = 64 * i + Lib.ctz 64 x := by
  obtain ⟨m, hm, hk⟩ := Lib.ctzFrom_spec 64 x (by omega) hx
  have e : Lib.ctz 64 x = Lib.ctzFrom 64 x := by simp [Lib.ctz, h0]
  rw [e, val_append, val_rep, List.length_replicate, Nat.zero_add, val_cons]
  generalize Lib.ctzFrom 64 x = c at *
  subst hm
  refine tw_eq (m := m + 2 ^ (63 - c) * val B64 ys) ?_
  rw [show B64 ^ i = 2 ^ (64 * i) from by rw [B64_pow], Nat.pow_add, Nat.mul_assoc]
  congr 1
  rw [show B64 = 2 ^ c * (2 * 2 ^ (63 - c)) from by rw [← Nat.pow_succ', ← Nat.pow_add, show c + (63 - c).succ = 64 from by omega]; rfl]
  generalize 2 ^ (63 - c) = q
  generalize 2 ^ c = p
  grind
theorem cop2 {n : Nat} (h : n % 2 = 1) (k : Nat) : Nat.Coprime (2 ^ k) n := by
  refine Nat.Coprime.pow_left k ?_
  unfold Nat.Coprime
  rw [Nat.gcd_rec, h]
  rfl
theorem gcd_od {x y : Nat} (hx : 0 < x) (hy : 0 < y) : Nat.gcd x y = 2 ^ min (tw x) (tw y) * Nat.gcd (od x) (od y) := by
  obtain ⟨ex, ox⟩ := od_spec hx
  obtain ⟨ey, oy⟩ := od_spec hy
  generalize od x = X at *
  generalize od y = Y at *
  generalize tw x = a at *
  generalize tw y = b at *
  subst ex; subst ey
  rcases Nat.le_total a b with h | h
  · obtain ⟨d, rfl⟩ := Nat.le.dest h
    rw [Nat.min_eq_left h, Nat.pow_add, Nat.mul_assoc, Nat.gcd_mul_left, Nat.Coprime.gcd_mul_left_cancel_right Y (cop2 ox d)]
  · obtain ⟨d, rfl⟩ := Nat.le.dest h
    rw [Nat.min_eq_right h, Nat.pow_add, Nat.mul_assoc, Nat.gcd_mul_left, Nat.Coprime.gcd_mul_left_cancel X (cop2 oy d)]
/-- One round. -/
theorem gcd_step {x y : Nat} (h : y < x) (hy : y % 2 = 1) : Nat.gcd (od (x - y)) y = Nat.gcd x y := by
  have h1 : Nat.gcd (x - y) y = Nat.gcd x y := Nat.gcd_sub_self_left (Nat.le_of_lt h)
  rw [← h1]
  conv => rhs; rw [(od_spec (n := x - y) (by omega)).1]
  rw [Nat.Coprime.gcd_mul_left_cancel _ (cop2 hy _)]
theorem tw_lt_bl {n k : Nat} (h : 0 < n) (hk : n < 2 ^ k) : tw n < k := by
  have h1 := (od_spec h).1
  have h2 := od_pos h
  refine (Nat.pow_lt_pow_iff_right (a := 2) (by omega)).1 ?_
  refine Nat.lt_of_le_of_lt ?_ hk
  conv => rhs; rw [h1]
  exact Nat.le_mul_of_pos_right _ h2
/-- Where the first word that is not 0 lies. -/
theorem first_word : ∀ {xs : List Nat}, 0 < val B64 xs → ∃ i x ys, xs = List.replicate i 0 ++ x :: ys ∧ x ≠ 0 := by
  intro xs
  induction xs with
  | nil => intro h; simp at h
  | cons x xs ih =>
    intro h
    by_cases hx : x = 0
    · subst hx
      obtain ⟨i, y, ys, e, h0⟩ := ih (by
        rw [val_cons, Nat.zero_add] at h
        exact Nat.pos_of_mul_pos_left h)
      exact ⟨i + 1, y, ys, by rw [e, List.replicate_succ]; rfl, h0⟩
    · exact ⟨0, x, xs, rfl, hx⟩

/-! ### Words to bytes -/
def wb (xs : List Nat) : List UInt8 := (xs.flatMap le8).reverse
theorem wb_length (xs : List Nat) : (wb xs).length = 8 * xs.length := by unfold wb; rw [List.length_reverse, flat8_length]
theorem le8_val256 {x : Nat} (h : x < B64) : val 256 ((le8 x).map UInt8.toNat) = x := by
  have h1 : Lib.leNat (le8 x) = x := by
    exact Lib.leNat_leBytes 8 x h
  have h2 : ∀ l : List UInt8, val 256 (l.map UInt8.toNat) = Lib.leNat l := by
    intro l
    induction l with
    | nil => rfl
    | cons a l ih => rw [List.map_cons, val_cons, ih]; rfl
  rw [h2, h1]
theorem wb_val : ∀ {xs : List Nat}, Dig B64 xs → beN (wb xs) = val B64 xs := by
  intro xs hd
  unfold beN rb wb
  rw [List.map_reverse, List.reverse_reverse]
  induction xs with
  | nil => rfl
  | cons x xs ih =>
    rw [List.flatMap_cons, List.map_append, val_append, le8_val256 hd.head, ih hd.tail, List.length_map, le8_length, val_cons]
    rfl
end Go.Proofs.YtiloialbglfplaaGreatDoor

namespace Go.Proofs.YtiloialbglfplaaGreatDoor
open Go.RowKit

/-- The slice v of block g holds these words; before and behind them lie words of no account. -/
def OW (g : Nat) (xs : List Nat) (v : Value) (w : World) : Prop := ∃ P Q : List Nat, v = .slice (some ⟨g, P.length, none⟩) xs.length (xs.length + Q.length) ∧ Blk w g 28 (U (P ++ xs ++ Q))
theorem mid_get (P L Q : List Nat) (k : Nat) (h : k < L.length) : (U (P ++ L ++ Q))[P.length + k]? = some (.int .u64 (L.getD k 0 : Nat)) := by
  rw [getD_U _ _ (by simp; omega), List.getD_eq_getElem?_getD, List.getD_eq_getElem?_getD, List.append_assoc, List.getElem?_append_right (by omega), Nat.add_sub_cancel_left, List.getElem?_append_left h]
theorem mid_set (P L Q : List Nat) (k y : Nat) (h : k < L.length) : (U (P ++ L ++ Q)).set (P.length + k) (.int .u64 (y : Nat)) = U (P ++ L.set k y ++ Q) := by
  rw [U_set, List.append_assoc, List.set_append_right _ _ (by omega), Nat.add_sub_cancel_left, List.set_append_left _ _ h, List.append_assoc]
theorem OW.ext {g : Nat} {xs : List Nat} {v : Value} {w w' : World} (h : OW g xs v w) (e : Ext w w') : OW g xs v w' := by
  obtain ⟨P, Q, rfl, hb⟩ := h
  exact ⟨P, Q, rfl, hb.ext e⟩
theorem OW.but {g g' : Nat} {xs : List Nat} {v : Value} {w w' : World} (h : OW g xs v w) (e : But g' w w') (hne : g ≠ g') : OW g xs v w' := by
  obtain ⟨P, Q, rfl, hb⟩ := h
  exact ⟨P, Q, rfl, e.blk hb hne⟩
theorem OW.lt {g : Nat} {xs : List Nat} {v : Value} {w : World} (h : OW g xs v w) : g < w.heap.size := by
  obtain ⟨P, Q, rfl, hb⟩ := h
  exact hb.lt
theorem OW.of_blk {g : Nat} {xs : List Nat} {w : World} (h : Blk w g 28 (U xs)) : OW g xs (.slice (some ⟨g, 0, none⟩) xs.length xs.length) w :=
  ⟨[], [], by simp, by simpa using h⟩
/-- The cells. -/
theorem OW.open {g : Nat} {xs : List Nat} {v : Value} {w : World} (h : OW g xs v w) : ∃ off c, v = .slice (some ⟨g, off, none⟩) xs.length c ∧ xs.length ≤ c ∧ ∀ i, i < xs.length → w.cell? ⟨g, off + i, none⟩ = some (.int .u64 (xs.getD i 0 : Nat)) := by
  obtain ⟨P, Q, rfl, hb⟩ := h
  exact ⟨_, _, rfl, by omega, fun i hi => by rw [hb.cell, mid_get _ _ _ _ hi]⟩
theorem limbs_pad : ∀ {xs : List Nat}, Dig B64 xs → ∃ r, xs = limbs B64 (val B64 xs) ++ List.replicate r 0 := by
  intro xs
  induction xs with
  | nil => intro _; exact ⟨0, by rw [val_nil, limbs_zero]; rfl⟩
  | cons x xs ih =>
    intro hd
    obtain ⟨r, hr⟩ := ih hd.tail
    by_cases h0 : val B64 (x :: xs) = 0
    · rw [h0, limbs_zero]
      rw [val_cons] at h0
      have hx : x = 0 := by omega
      have hv : val B64 xs = 0 := by
        rcases Nat.mul_eq_zero.1 (show B64 * val B64 xs = 0 from by omega) with h | h
        · unfold B64 at h; omega
        · exact h
      rw [hv, limbs_zero] at hr
      exact ⟨r + 1, by rw [hx, List.replicate_succ, List.nil_append]; congr 1⟩
    · have hx := hd.head
      refine ⟨r, ?_⟩
      rw [limbs_pos B64_two h0, val_cons, Nat.add_mul_mod_self_left, Nat.mod_eq_of_lt hx, Nat.add_mul_div_left _ _ (by unfold B64; omega), Nat.div_eq_of_lt hx, Nat.zero_add, List.cons_append, ← hr]
theorem OW.limbs {g : Nat} {P xs Q : List Nat} {w : World} (hd : Dig B64 xs) (hb : Blk w g 28 (U (P ++ xs ++ Q))) :
    OW g (limbs B64 (val B64 xs)) (.slice (some ⟨g, P.length, none⟩) (Go.Proofs.YtiloialbglfplaaGreatDoor.limbs B64 (val B64 xs)).length (xs.length + Q.length)) w := by
  obtain ⟨r, hr⟩ := limbs_pad hd
  refine ⟨P, List.replicate r 0 ++ Q, ?_, ?_⟩
  · have hl := congrArg List.length hr
    rw [List.length_append, List.length_replicate] at hl
    rw [List.length_append, List.length_replicate, ← Nat.add_assoc, ← hl]
  · rw [← List.append_assoc, List.append_assoc P, ← hr]
    exact hb
set_option maxHeartbeats 400000 in
theorem wtrim_core (g off c : Nat) (xs : List Nat) (w : World) (hl : xs.length ≤ c) (hc : xs.length ≤ 1099511627776) (hd : Dig B64 xs) (hcell : ∀ i, i < xs.length → w.cell? ⟨g, off + i, none⟩ = some (.int .u64 (xs.getD i 0 : Nat))) :
    Calls Tryz.prog 197 #[.slice (some ⟨g, off, none⟩) xs.length c] w fun e w' => e = .returned (.slice (some ⟨g, off, none⟩) (limbs B64 (val B64 xs)).length c) ∧ w = w' := by
  have HC := Lib.hid hcell
  clear hcell
  go_enter Tryz.func197, Tryz.ntmps197
  go_wp2
  go_loop [0] (fun v => ∃ m : Nat, m ≤ xs.length ∧ v = .slice (some ⟨g, off, none⟩) m c ∧ Hid (val B64 (xs.take m) = val B64 xs)) (fun v => match v with | .slice _ n _ => n | _ => 0)
  case atStart => exact ⟨xs.length, Nat.le_refl _, rfl, Lib.hid (by rw [List.take_length])⟩
  case round =>
    obtain ⟨m, hm, rfl, hv⟩ := hrel
    by_cases hm0 : m = 0
    · subst hm0
      go_wp2
      go_ret
      refine ⟨?_, rfl⟩
      have := trim_end B64_two hd hm hv.out (by omega)
      rw [this]; simp
    · obtain ⟨m, rfl⟩ : ∃ k, m = k + 1 := ⟨m - 1, by omega⟩
      have hcm := HC.out m (by omega)
      by_cases hx : xs.getD m 0 = 0
      · rw [hx] at hcm
        go_wp2
        go_round
        case rel => exact ⟨m, by omega, rfl, Lib.hid (by rw [← trim_step hx]; exact hv.out)⟩
        case measure => simp
      · have hb : ((xs.getD m 0 : Nat) : Int) ≠ 0 := by omega
        have hb' : (((xs.getD m 0 : Nat) : Int) == 0) = false := beq_eq_false_iff_ne.2 hb
        generalize hy : xs.getD m 0 = y at *
        have HY := Lib.hid hy
        clear hy
        go_wp2
        go_ret
        refine ⟨?_, rfl⟩
        have := trim_end B64_two hd hm hv.out (fun _ => by rw [Nat.add_sub_cancel, HY.out]; exact hx)
        rw [this, List.length_take, Nat.min_eq_left hm]
        rfl
theorem wtrim_ow {g : Nat} {xs : List Nat} {v : Value} {w : World} (h : OW g xs v w) (hl : xs.length ≤ 1099511627776) (hd : Dig B64 xs) :
    Calls Tryz.prog 197 #[v] w fun e w' => ∃ v', e = .returned v' ∧ OW g (limbs B64 (val B64 xs)) v' w ∧ w = w' := by
  obtain ⟨P, Q, rfl, hb⟩ := h
  refine (wtrim_core g P.length (xs.length + Q.length) xs w (by omega) hl hd (fun i hi => by rw [hb.cell, mid_get _ _ _ _ hi])).mono ?_
  rintro e w' ⟨rfl, rfl⟩
  exact ⟨_, rfl, OW.limbs hd hb, rfl⟩

/-- The table of TrailingZeros64. -/
def Tab64 (w : World) : Prop := TabAt 2 Lib.deBruijn64tab w
theorem Tab64.ext {w w' : World} (h : Tab64 w) (e : Ext w w') : Tab64 w' := fun i hi => e.keep (h i hi)
theorem Tab64.but {g : Nat} {w w' : World} (h : Tab64 w) (e : But g w w') (hne : g ≠ 2) : Tab64 w' := fun i hi =>
  (World.cell?_of_block (a := ⟨_, i, none⟩) (e.block _ (World.block_lt_of_cell? _ _ (h i hi)) (fun e' => by injection e' with e'; exact hne e'.symm))).trans (h i hi)
set_option maxHeartbeats 1000000 in
theorem tz64_core (x k idx : Nat) (w : World) (hx0 : ((x : Int) == 0) = false)
    (key : IntKind.u64.wrap (bits BinOp.and IntKind.u64 (x : Int) (IntKind.u64.wrap (-(x : Int))) * 285870213051353865) / 288230376151711744 = (idx : Int))
    (hi : idx < 64) (hk : k < 64) (hcell : w.cell? ⟨2, idx, none⟩ = some (.int .u8 k)) :
    Calls Tryz.prog 196 #[.int .u64 x] w fun e w' => e = .returned (.int .i64 k) ∧ w' = w := by
  go_enter Tryz.func196, Tryz.ntmps196
  go_wp2_with (simp only [key])
  go_ret
  exact ⟨rfl, rfl⟩
theorem tz64_any (x : Nat) (hx0 : x ≠ 0) (hx : x < B64) (w : World) (ht : Tab64 w) : Calls Tryz.prog 196 #[.int .u64 x] w fun e w' => e = .returned (.int .i64 (Lib.ctz 64 x)) ∧ w' = w := by
  obtain ⟨hlow, hk⟩ := Lib.lowest_bit 64 x hx0 hx
  obtain ⟨hi, htab⟩ := Lib.deBruijn64_at _ hk
  have hcell := ht _ hi
  rw [htab] at hcell
  exact tz64_core x _ _ w (by simp; omega) (tz64_key x _ hx hx0 hlow) hi hk hcell
theorem rep_getD0 (i j x : Nat) (ys : List Nat) (h : j < i) : (List.replicate i 0 ++ x :: ys).getD j 0 = 0 := by
  rw [List.getD_eq_getElem?_getD, List.getElem?_append_left (by simpa using h)]
  simp [h]
theorem rep_getDx (i x : Nat) (ys : List Nat) : (List.replicate i 0 ++ x :: ys).getD i 0 = x := by
  rw [List.getD_eq_getElem?_getD, List.getElem?_append_right (by simp)]
  simp

set_option maxHeartbeats 400000 in
theorem wzeros_core (g off c i x : Nat) (ys xs : List Nat) (he : xs = List.replicate i 0 ++ x :: ys) (w : World) (hc : xs.length ≤ 1099511627776) (h0 : x ≠ 0) (hx : x < B64) (ht : Tab64 w)
    (hcell : ∀ i, i < xs.length → w.cell? ⟨g, off + i, none⟩ = some (.int .u64 (xs.getD i 0 : Nat))) :
    Calls Tryz.prog 171 #[.slice (some ⟨g, off, none⟩) xs.length c] w fun e w' => e = .returned (.int .i64 (64 * i + Lib.ctz 64 x : Nat)) ∧ w = w' := by
  have HC := Lib.hid hcell
  have hi : i < xs.length := by rw [he]; simp
  have H0 : Hid (∀ j, j < i → xs.getD j 0 = 0) := Lib.hid (fun j hj => by rw [he]; exact rep_getD0 i j x ys hj)
  have HX : Hid (xs.getD i 0 = x) := Lib.hid (by rw [he]; exact rep_getDx i x ys)
  have hk : Lib.ctz 64 x < 64 := (Lib.lowest_bit 64 x h0 hx).2
  have HT := Lib.hid (tz64_any x h0 hx w ht)
  have hb' : ((x : Int) == 0) = false := beq_eq_false_iff_ne.2 (by omega)
  clear he hcell ht h0
  generalize Lib.ctz 64 x = cz at *
  go_enter Tryz.func171, Tryz.ntmps171
  go_wp2
  go_loop [3] (fun v => ∃ m : Nat, m ≤ i ∧ v = .int .i64 m) (fun v => i - (intOf v).toNat)
  case atStart => exact ⟨0, Nat.zero_le _, rfl⟩
  case round =>
    obtain ⟨m, hm, rfl⟩ := hrel
    by_cases hmi : m = i
    · subst hmi
      have hcm := HC.out m hi
      rw [HX.out] at hcm
      go_wp2_with (go_at_call 196; refine (HT.out).mono ?_; rintro e w' ⟨rfl, rfl⟩)
      go_ret
      exact ⟨ret_int (by push_cast; omega), rfl⟩
    · have hcm := HC.out m (by omega)
      rw [H0.out m (by omega)] at hcm
      go_wp2
      go_round
      case rel => exact ⟨m + 1, by omega, by go_num⟩
      case measure => simp [intOf]; omega
theorem wzeros_any (g off c : Nat) (xs : List Nat) (w : World) (hc : xs.length ≤ 1099511627776) (hd : Dig B64 xs) (hv : 0 < val B64 xs) (ht : Tab64 w)
    (hcell : ∀ i, i < xs.length → w.cell? ⟨g, off + i, none⟩ = some (.int .u64 (xs.getD i 0 : Nat))) :
    Calls Tryz.prog 171 #[.slice (some ⟨g, off, none⟩) xs.length c] w fun e w' => e = .returned (.int .i64 (tw (val B64 xs) : Nat)) ∧ w = w' := by
  obtain ⟨i, x, ys, he, h0⟩ := first_word hv
  have hx : x < B64 := hd x (by rw [he]; simp)
  have h := wzeros_core g off c i x ys xs he w hc h0 hx ht hcell
  rw [show tw (val B64 xs) = 64 * i + Lib.ctz 64 x from by rw [he]; exact tw_zeros i ys h0 hx]
  exact h

/-! ### down -/
def dnMix (p : Nat) (ys : List Nat) (k : Nat) : List Nat := (dn p ys).take k ++ ys.drop k
theorem dnMix_length (p : Nat) (ys : List Nat) (k : Nat) : (dnMix p ys k).length = ys.length := by
  unfold dnMix
  rw [List.length_append, List.length_take, dn_length, List.length_drop]
  omega
theorem dnMix_get (p : Nat) (ys : List Nat) (k i : Nat) (h : k ≤ i) (hi : i < ys.length) : (dnMix p ys k).getD i 0 = ys.getD i 0 := by
  unfold dnMix
  rw [List.getD_eq_getElem?_getD, List.getD_eq_getElem?_getD, List.getElem?_append_right (by rw [List.length_take, dn_length]; omega), List.length_take, dn_length, Nat.min_eq_left (by omega), List.getElem?_drop]
  congr 2; omega
theorem dnMix_set (p : Nat) (ys : List Nat) (k : Nat) (h : k < ys.length) : (dnMix p ys k).set k (dnW (ys.getD k 0) (ys.getD (k + 1) 0) p) = dnMix p ys (k + 1) := by
  unfold dnMix
  have hl : ((dn p ys).take k).length = k := by rw [List.length_take, dn_length]; omega
  rw [List.set_append_right _ _ (by omega), hl, Nat.sub_self, List.drop_eq_getElem_cons h, List.set_cons_zero, List.take_succ_eq_append_getElem (by rw [dn_length]; exact h), dn_get, List.append_assoc]
  rfl
theorem dnMix_all (p : Nat) (ys : List Nat) : dnMix p ys ys.length = dn p ys := by
  unfold dnMix
  rw [List.drop_length, List.append_nil, List.take_of_length_le (by rw [dn_length]; exact Nat.le_refl _)]

set_option maxHeartbeats 2000000 in
theorem wdown_any (g : Nat) (xs : List Nat) (v : Value) (w : World) (h : OW g xs v w) (hd : Dig B64 xs) (hv : 0 < val B64 xs) (hl : xs.length ≤ 10000000000) (ht : Tab64 w) :
    Calls Tryz.prog 172 #[v] w fun e w' => ∃ v', e = .returned v' ∧ OW g (limbs B64 (od (val B64 xs))) v' w' ∧ But g w w' := by
  obtain ⟨P, Q, rfl, hb⟩ := h
  have hdl : tw (val B64 xs) < 64 * xs.length := tw_lt_bl hv (by have := val_lt hd; rw [B64_pow] at this; exact this)
  have HZ := Lib.hid (wzeros_any g P.length (xs.length + Q.length) xs w (by omega) hd hv ht (fun i hi => by rw [hb.cell, mid_get _ _ _ _ hi]))
  have hdn := dn_all hd (tw (val B64 xs)) (by omega)
  have hod : od (val B64 xs) = val B64 xs / 2 ^ tw (val B64 xs) := rfl
  rw [hod, ← hdn]
  clear hod hdn ht
  generalize tw (val B64 xs) = d at *
  have hqx : d / 64 < xs.length := by omega
  obtain ⟨P', hP'⟩ : ∃ P', P ++ xs.take (d / 64) = P' := ⟨_, rfl⟩
  obtain ⟨ys, hys⟩ : ∃ ys, xs.drop (d / 64) = ys := ⟨_, rfl⟩
  have hPl : P'.length = P.length + d / 64 := by rw [← hP']; simp; omega
  have hyl : ys.length = xs.length - d / 64 := by rw [← hys]; simp
  have hbb : Blk w g 28 (U (P' ++ ys ++ Q)) := by
    rw [← hP', ← hys, List.append_assoc P, List.take_append_drop]; exact hb
  have hdy : Dig B64 ys := by rw [← hys]; exact hd.drop _
  rw [hys]
  have HT : Hid (∀ W, OW g (dn (d % 64) ys) (.slice (some ⟨g, P'.length, none⟩) ys.length (ys.length + Q.length)) W → Calls Tryz.prog 197 #[.slice (some ⟨g, P'.length, none⟩) ys.length (ys.length + Q.length)] W fun e w' => ∃ v', e = .returned v' ∧ OW g (limbs B64 (val B64 (dn (d % 64) ys))) v' W ∧ W = w') :=
    Lib.hid fun W hW => wtrim_ow hW (by rw [dn_length]; omega) (dn_dig (by omega) hdy)
  have hcap : ys.length + Q.length = xs.length + Q.length - d / 64 := by omega
  rw [hPl, hcap, hyl] at HT
  have HB : Hid (Blk w g 28 (U (P' ++ dnMix (d % 64) ys 0 ++ Q))) := Lib.hid (by unfold dnMix; rw [List.take_zero, List.drop_zero, List.nil_append]; exact hbb)
  have HDY := Lib.hid hdy
  have HPL := Lib.hid hPl
  have HYL := Lib.hid hyl
  have HCAP := Lib.hid hcap
  clear hP' hys hb hv hd hbb hdy hdl hcap hPl hyl
  go_enter Tryz.func172, Tryz.ntmps172
  go_wp2_with fail
  refine (HZ.out).mono ?_
  rintro e w1 ⟨rfl, rfl⟩
  go_wp2
  go_loopw [16] (fun i wr => ∃ k : Nat, k ≤ xs.length - d / 64 ∧ i = .int .i64 k ∧ Hid (Blk wr g 28 (U (P' ++ dnMix (d % 64) ys k ++ Q))) ∧ Hid (But g w wr)) (fun i _ => xs.length - d / 64 - (intOf i).toNat)
  case atStart => exact ⟨0, Nat.zero_le _, rfl, HB, Lib.hid (But.refl _ _)⟩
  case round =>
    obtain ⟨k, hk, rfl, hbk, hbut⟩ := hrel
    by_cases hkx : k < xs.length - d / 64
    · have hky : k < ys.length := by have := HYL.out; omega
      have hml := dnMix_length (d % 64) ys k
      have hc1 : wr.cell? ⟨g, P.length + d / 64 + k, none⟩ = some (.int .u64 (ys.getD k 0 : Nat)) := by
        rw [hbk.out.cell, ← HPL.out, mid_get _ _ _ _ (by omega), dnMix_get _ _ _ _ (Nat.le_refl _) hky]
      have hc2 : k + 1 < ys.length → wr.cell? ⟨g, P.length + d / 64 + (k + 1), none⟩ = some (.int .u64 (ys.getD (k + 1) 0 : Nat)) := fun h => by
        rw [hbk.out.cell, ← HPL.out, mid_get _ _ _ _ (by omega), dnMix_get _ _ _ _ (by omega) h]
      have hf1 : wr.frozen? ⟨g, P.length + d / 64 + k, none⟩ = false := hbk.out.frozen _
      have hxd : ys.getD k 0 < B64 := HDY.out.getD (by unfold B64; omega) _
      have HSET : Hid (∀ z : Nat, z = dnW (ys.getD k 0) (ys.getD (k + 1) 0) (d % 64) → (U (P' ++ dnMix (d % 64) ys k ++ Q)).set (P.length + d / 64 + k) (.int .u64 (z : Nat)) = U (P' ++ dnMix (d % 64) ys (k + 1) ++ Q)) := Lib.hid fun z hz => by
        subst hz
        rw [← HPL.out, mid_set _ _ _ _ _ (by omega), dnMix_set _ _ _ hky]
      clear hml
      by_cases hk2 : k + 1 < xs.length - d / 64
      · have hc2' := hc2 (by have := HYL.out; omega)
        clear hc2
        generalize ys.getD k 0 = x at *
        generalize ys.getD (k + 1) 0 = x2 at *
        go_wp2
        have hb2 := hbk.out.set (P.length + d / 64 + k) (.int .u64 ((x / 2 ^ (d % 64) : Nat) : Int))
        have hbut2 := hbut.out.set (P.length + d / 64 + k) (.int .u64 ((x / 2 ^ (d % 64) : Nat) : Int))
        have hc2w : (wr.setCell ⟨g, P.length + d / 64 + k, none⟩ (.int .u64 ((x / 2 ^ (d % 64) : Nat) : Int))).cell? ⟨g, P.length + d / 64 + (k + 1), none⟩ = some (.int .u64 x2) :=
          (World.cell?_setCell_other wr _ _ _ (fun e => by injection e with _ e; omega)).trans hc2'
        have ev : (x : Int) / 2 ^ (d % 64) = ((x / 2 ^ (d % 64) : Nat) : Int) := by push_cast; rfl
        rw [ev]
        have hx2 : (wr.setCell ⟨g, P.length + d / 64 + k, none⟩ (.int .u64 ((x / 2 ^ (d % 64) : Nat) : Int))).cell? ⟨g, P.length + d / 64 + k, none⟩ = some (.int .u64 ((x / 2 ^ (d % 64) : Nat) : Int)) := by
          rw [hb2.cell, List.getElem?_set_self]
          have := hbk.out.cell (P.length + d / 64 + k)
          rw [hc1] at this
          exact (List.getElem?_eq_some_iff.1 this.symm).1
        generalize wr.setCell ⟨g, P.length + d / 64 + k, none⟩ (.int .u64 ((x / 2 ^ (d % 64) : Nat) : Int)) = W2 at *
        have hf2 : W2.frozen? ⟨g, P.length + d / 64 + k, none⟩ = false := hb2.frozen _
        have HB2 := Lib.hid hb2
        have HBUT2 := Lib.hid hbut2
        generalize hxq : x / 2 ^ (d % 64) = xq at *
        have HXQ := Lib.hid hxq
        clear hb2 hbut2 hbk hbut hc1 hc2' hf1 hxq ev
        have hval := dnW_or (y := x) (y' := x2) (p := d % 64) (by omega) hxd
        rw [HXQ.out] at hval
        have HVAL := Lib.hid hval
        clear hval
        go_region
        rw [HVAL.out]
        go_wp2
        go_roundw
        case rel =>
          refine ⟨k + 1, by omega, by go_num, Lib.hid ?_, Lib.hid ((HBUT2.out.set _ _).trans (But.of_ext (Ext.refl _).drew))⟩
          have h := HB2.out.set (P.length + d / 64 + k) (.int .u64 (dnW x x2 (d % 64) : Nat))
          rw [List.set_set, HSET.out _ rfl] at h
          exact h
        case measure => simp [intOf]; omega
      · have hx20 : ys.getD (k + 1) 0 = 0 := getD_ge _ _ (by have := HYL.out; omega)
        rw [hx20] at HSET
        clear hc2 hx20
        generalize ys.getD k 0 = x at *
        have ev : (x : Int) / 2 ^ (d % 64) = ((dnW x 0 (d % 64) : Nat) : Int) := by unfold dnW; rw [Nat.zero_mod, Nat.mul_zero, Nat.add_zero]; push_cast; rfl
        have EV := Lib.hid ev
        clear ev
        go_wp2
        rw [EV.out]
        go_roundw
        case rel =>
          refine ⟨k + 1, by omega, by go_num, Lib.hid ?_, Lib.hid (hbut.out.set _ _)⟩
          have h := hbk.out.set (P.length + d / 64 + k) (.int .u64 (dnW x 0 (d % 64) : Nat))
          rw [HSET.out _ rfl] at h
          exact h
        case measure => simp [intOf]; omega
    · obtain rfl : k = xs.length - d / 64 := by omega
      have hb := hbk.out
      have hyl := HYL.out
      rw [← hyl, dnMix_all] at hb
      have how : OW g (dn (d % 64) ys) (.slice (some ⟨g, P.length + d / 64, none⟩) (xs.length - d / 64) (xs.length + Q.length - d / 64)) wr :=
        ⟨P', Q, by rw [HPL.out, dn_length, hyl, ← HCAP.out, hyl], hb⟩
      have HC2 := Lib.hid (HT.out wr how)
      clear hb hyl how
      go_wp2_with fail
      refine (HC2.out).mono ?_
      rintro e w3 ⟨v', rfl, how, rfl⟩
      go_wp2
      go_ret
      exact ⟨_, rfl, how, hbut.out⟩
end Go.Proofs.YtiloialbglfplaaGreatDoor

namespace Go.Proofs.YtiloialbglfplaaGreatDoor
open Go.RowKit

theorem cmpN_at64 {a b j : Nat} (h : (limbs B64 a).length = (limbs B64 b).length) (hj : j < (limbs B64 a).length) (hd : (limbs B64 a).drop (j + 1) = (limbs B64 b).drop (j + 1))
    (hne : (limbs B64 a).getD j 0 ≠ (limbs B64 b).getD j 0) : cmpN ((limbs B64 a).getD j 0) ((limbs B64 b).getD j 0) = cmpN a b := by
  have hjb : j < (limbs B64 b).length := by omega
  have da := limbs_dig B64_two a
  have db := limbs_dig B64_two b
  have va := val_limbs B64_two a
  have vb := val_limbs B64_two b
  rw [getD_lt _ _ hj, getD_lt _ _ hjb] at hne ⊢
  rcases Nat.lt_or_ge (limbs B64 a)[j] (limbs B64 b)[j] with h' | h'
  · have := val_lt_at da h hj hd h'
    rw [va, vb] at this
    rw [cmpN_lt this, cmpN_lt h']
  · have h' : (limbs B64 b)[j] < (limbs B64 a)[j] := by omega
    have := val_lt_at db h.symm hjb hd.symm h'
    rw [va, vb] at this
    rw [cmpN_gt this, cmpN_gt h']

set_option maxHeartbeats 2000000 in
theorem wcompare_any (g1 g2 a b : Nat) (v1 v2 : Value) (w : World) (h1 : OW g1 (limbs B64 a) v1 w) (h2 : OW g2 (limbs B64 b) v2 w) (ha : bl a ≤ 549755813888) (hb : bl b ≤ 549755813888) :
    Calls Tryz.prog 173 #[v1, v2] w (Ret (.int .i64 (cmpN a b)) w) := by
  have hla := limbs_len a ha
  have hlb := limbs_len b hb
  have hda := limbs_dig B64_two a
  have hdb := limbs_dig B64_two b
  obtain ⟨off, c, rfl, _, hh⟩ := h1.open
  obtain ⟨off', c', rfl, _, hh'⟩ := h2.open
  clear h1 h2
  rcases Nat.lt_trichotomy (limbs B64 a).length (limbs B64 b).length with h | h | h
  · rw [cmpN_lt (lt_of_limbs B64_two h)]
    have e1 : (((limbs B64 a).length : Int) != ((limbs B64 b).length : Int)) = true := by simp; omega
    clear hh hh' hda hdb ha hb
    generalize (limbs B64 a).length = p at *
    generalize (limbs B64 b).length = q at *
    go_enter Tryz.func173, Tryz.ntmps173
    go_wp2
    go_ret
    exact ⟨rfl, Ext.refl _⟩
  · have hR := fun j hj hd hne => cmpN_at64 (a := a) (b := b) (j := j) h hj hd hne
    have hE : limbs B64 a = limbs B64 b → cmpN a b = 0 := fun e => by
      have : a = b := by rw [← val_limbs B64_two a, ← val_limbs B64_two b, e]
      subst this
      unfold cmpN; simp
    have e1 : (((limbs B64 a).length : Int) != ((limbs B64 b).length : Int)) = false := by simp; omega
    clear ha hb
    generalize limbs B64 a = xs at *
    generalize limbs B64 b = ys at *
    generalize cmpN a b = r at *
    have HH := Lib.hid hh
    have HH' := Lib.hid hh'
    have HDA := Lib.hid hda
    have HDB := Lib.hid hdb
    have HRR := Lib.hid hR
    have HEE := Lib.hid hE
    have HL := Lib.hid h
    clear hh hh' hda hdb hR hE h
    go_enter Tryz.func173, Tryz.ntmps173
    go_wp2
    go_loopw [5] (fun i wr => ∃ j : Nat, j ≤ xs.length ∧ i = .int .i64 ((j : Int) - 1) ∧ Hid (xs.drop j = ys.drop j) ∧ Hid (Ext w wr)) (fun i _ => (intOf i + 1).toNat)
    case atStart => exact ⟨xs.length, Nat.le_refl _, rfl, Lib.hid (by rw [List.drop_length, HL.out, List.drop_length]), Lib.hid (Ext.refl w)⟩
    case round =>
      obtain ⟨j, hj, rfl, hd, hex⟩ := hrel
      by_cases hj0 : j = 0
      · subst hj0
        have HE0 := Lib.hid (HEE.out (by simpa using hd.out))
        go_wp2
        go_ret
        exact ⟨ret_int HE0.out.symm, hex.out⟩
      · obtain ⟨j, rfl⟩ : ∃ k, j = k + 1 := ⟨j - 1, by omega⟩
        rw [show ((j + 1 : Nat) : Int) - 1 = (j : Int) from by omega]
        have hjx : j < xs.length := by omega
        have hjy : j < ys.length := by have := HL.out; omega
        have hcx := hex.out.keep (HH.out j hjx)
        have hcy := hex.out.keep (HH'.out j hjy)
        have hxd : xs.getD j 0 < B64 := HDA.out.getD (by unfold B64; omega) j
        have hyd : ys.getD j 0 < B64 := HDB.out.getD (by unfold B64; omega) j
        have hdd : xs.getD j 0 = ys.getD j 0 → xs.drop j = ys.drop j := fun e => by
          rw [List.drop_eq_getElem_cons hjx, List.drop_eq_getElem_cons hjy, hd.out, ← getD_lt _ _ hjx, ← getD_lt _ _ hjy, e]
        have hR := HRR.out j hjx hd.out
        have HDD := Lib.hid hdd
        have HR2 := Lib.hid hR
        clear hdd hR hd
        generalize xs.getD j 0 = x at *
        generalize ys.getD j 0 = y at *
        rcases Nat.lt_trichotomy x y with hlt | he | hlt
        · have hr : r = -1 := by rw [← HR2.out (by omega), cmpN_lt hlt]
          have hb1 : ((x : Int) != (y : Int)) = true := by simp; omega
          have hb2 : (x : Int) < (y : Int) := by omega
          have HR3 := Lib.hid hr
          clear hr
          go_wp2
          go_quiet (fail)
          rename_i nq
          have hcx' : (wr.drewN nq).cell? ⟨g1, off + j, none⟩ = some (.int .u64 x) := hcx
          have hcy' : (wr.drewN nq).cell? ⟨g2, off' + j, none⟩ = some (.int .u64 y) := hcy
          have HEX := Lib.hid (hex.out.drewN nq)
          clear hex hcx hcy
          generalize wr.drewN nq = W6 at *
          go_wp2
          go_quiet (fail)
          go_wp2
          go_ret
          exact ⟨ret_int HR3.out.symm, HEX.out.drewN _⟩
        · subst he
          have hb1 : ((x : Int) != (x : Int)) = false := by simp
          go_wp2
          go_quiet (fail)
          go_wp2
          go_roundw
          case rel => exact ⟨j, by omega, rfl, Lib.hid (HDD.out (by simp)), Lib.hid (hex.out.drewN _)⟩
          case measure => simp [intOf]
        · have hr : r = 1 := by rw [← HR2.out (by omega), cmpN_gt hlt]
          have hb1 : ((x : Int) != (y : Int)) = true := by simp; omega
          have hb2 : decide (x < y) = false := decide_eq_false (by omega)
          have HR3 := Lib.hid hr
          clear hr
          go_wp2
          go_quiet (fail)
          rename_i nq
          have hcx' : (wr.drewN nq).cell? ⟨g1, off + j, none⟩ = some (.int .u64 x) := hcx
          have hcy' : (wr.drewN nq).cell? ⟨g2, off' + j, none⟩ = some (.int .u64 y) := hcy
          have HEX := Lib.hid (hex.out.drewN nq)
          clear hex hcx hcy
          generalize wr.drewN nq = W6 at *
          go_wp2
          go_quiet (fail)
          go_wp2
          go_ret
          exact ⟨ret_int HR3.out.symm, HEX.out.drewN _⟩
  · rw [cmpN_gt (lt_of_limbs B64_two h)]
    have e1 : (((limbs B64 a).length : Int) != ((limbs B64 b).length : Int)) = true := by simp; omega
    have e2 : decide ((limbs B64 a).length < (limbs B64 b).length) = false := decide_eq_false (by omega)
    clear hh hh' hda hdb ha hb
    generalize (limbs B64 a).length = p at *
    generalize (limbs B64 b).length = q at *
    go_enter Tryz.func173, Tryz.ntmps173
    go_wp2
    go_ret
    exact ⟨rfl, Ext.refl _⟩

set_option maxHeartbeats 4000000 in
theorem wsubtract_any (g g2 a b : Nat) (v1 v2 : Value) (w : World) (h1 : OW g (limbs B64 a) v1 w) (h2 : OW g2 (limbs B64 b) v2 w) (hne : g2 ≠ g) (ha : bl a ≤ 549755813888) (hba : b ≤ a) :
    Calls Tryz.prog 174 #[v1, v2] w fun e w' => ∃ v', e = .returned v' ∧ OW g (limbs B64 (a - b)) v' w' ∧ But g w w' := by
  have hlx := limbs_len a ha
  have hly := limbs_mono hba
  obtain ⟨P, Q, rfl, hbk0⟩ := h1
  have h2lt := h2.lt
  obtain ⟨off, c, rfl, _, hcy0⟩ := h2.open
  have HCY : Hid (∀ W, But g w W → ∀ i, i < (limbs B64 b).length → W.cell? ⟨g2, off + i, none⟩ = some (.int .u64 ((limbs B64 b).getD i 0 : Nat))) := Lib.hid fun W hW i hi => by
    rw [← hcy0 i hi]
    exact World.cell?_of_block (a := ⟨g2, off + i, none⟩) (hW.block g2 h2lt (fun e => hne (by injection e)))
  have vab : val B64 (limbs B64 a) = (a - b) + val B64 (limbs B64 b) := by rw [val_limbs B64_two, val_limbs B64_two]; omega
  have VAB := Lib.hid vab
  have HDX := Lib.hid (limbs_dig B64_two a)
  have HDY := Lib.hid (limbs_dig B64_two b)
  have HB := Lib.hid hbk0
  clear hcy0 h2 h2lt vab hbk0 hba ha hne
  generalize limbs B64 a = X at *
  generalize limbs B64 b = Y at *
  generalize a - b = n at *
  go_enter Tryz.func174, Tryz.ntmps174
  go_wp2
  go_loopw [5, 10] (fun c i wr => ∃ (k cc : Nat) (L : List Nat), k ≤ X.length ∧ cc ≤ 1 ∧ i = .int .i64 k ∧ c = .int .u64 cc ∧ Hid (L.length = X.length ∧ Dig B64 L ∧ L.drop k = X.drop k ∧ val B64 (X.take k) + cc * B64 ^ k = val B64 (L.take k) + val B64 (Y.take k)) ∧ Hid (Blk wr g 28 (U (P ++ L ++ Q))) ∧ Hid (But g w wr)) (fun _ i _ => X.length - (intOf i).toNat)
  case atStart =>
    refine ⟨0, 0, X, Nat.zero_le _, by omega, rfl, rfl, Lib.hid ⟨rfl, HDX.out, rfl, by simp⟩, HB, Lib.hid (But.refl _ _)⟩
  case round =>
    obtain ⟨k, cc, L, hk, hcc, rfl, rfl, hL, hbk, hbut⟩ := hrel
    by_cases hkx : k < X.length
    · have hcx : wr.cell? ⟨g, P.length + k, none⟩ = some (.int .u64 (X.getD k 0 : Nat)) := by
        rw [hbk.out.cell, mid_get _ _ _ _ (by rw [hL.out.1]; exact hkx), getD_take_drop hL.out.2.2.1 hkx hL.out.1]
      have hfx : wr.frozen? ⟨g, P.length + k, none⟩ = false := hbk.out.frozen _
      have hxd : X.getD k 0 < B64 := HDX.out.getD (by unfold B64; omega) k
      have hyd : Y.getD k 0 < B64 := HDY.out.getD (by unfold B64; omega) k
      have hstep : ∀ s q, X.getD k 0 + B64 * q = Y.getD k 0 + cc + s → s < B64 → (L.set k s).length = X.length ∧ Dig B64 (L.set k s) ∧ (L.set k s).drop (k + 1) = X.drop (k + 1) ∧ val B64 (X.take (k + 1)) + q * B64 ^ (k + 1) = val B64 ((L.set k s).take (k + 1)) + val B64 (Y.take (k + 1)) := by
        intro s q e hs
        obtain ⟨l1, l2, l3, l4⟩ := hL.out
        refine ⟨by simpa using l1, l2.set k hs, ?_, ?_⟩
        · rw [drop_set_succ, ← List.drop_drop, ← List.drop_drop, l3]
        · rw [val_take_set _ _ _ _ (by omega), val_take_getD B64 X, val_take_getD B64 Y, Nat.pow_succ]
          exact sub_step l4 e
      have HS := Lib.hid hstep
      have HSET : Hid (∀ s : Nat, (U (P ++ L ++ Q)).set (P.length + k) (.int .u64 (s : Nat)) = U (P ++ L.set k s ++ Q)) := Lib.hid fun s => mid_set P L Q k s (by rw [hL.out.1]; exact hkx)
      have hY : k < Y.length → wr.cell? ⟨g2, off + k, none⟩ = some (.int .u64 (Y.getD k 0 : Nat)) := fun hky => HCY.out wr hbut.out k hky
      have hY0 : ¬ k < Y.length → Y.getD k 0 = 0 := fun h => getD_ge _ _ (by omega)
      have HY := Lib.hid hY
      have HY0 := Lib.hid hY0
      clear hstep hY hY0
      generalize X.getD k 0 = x at *
      by_cases hky : k < Y.length
      · have hcy := HY.out hky
        clear HY0
        generalize Y.getD k 0 = y at *
        have hadd : ∀ W, (callFunc 183 #[.int .u64 x, .int .u64 y, .int .u64 cc]).run Tryz.prog W = .ok (.value (.tuple #[.int .u64 (sbD x y cc : Nat), .int .u64 (sbB x y cc : Nat)])) W := fun W => sub64 x y cc hcc W
        go_wp2
        go_roundw
        case rel =>
          exact ⟨k + 1, sbB x y cc, L.set k (sbD x y cc), by omega, sbB_le x y cc, by go_num, rfl, Lib.hid (HS.out _ _ (sb_eq hxd hyd hcc) (sbD_lt x y cc)), Lib.hid (by rw [← HSET.out]; exact hbk.out.set _ _), Lib.hid (hbut.out.set _ _)⟩
        case measure => simp [intOf]; omega
      · have hy0 := HY0.out hky
        rw [hy0] at HS
        clear HY HY0 hy0 hyd
        have hadd : ∀ W, (callFunc 183 #[.int .u64 x, .int .u64 0, .int .u64 cc]).run Tryz.prog W = .ok (.value (.tuple #[.int .u64 (sbD x 0 cc : Nat), .int .u64 (sbB x 0 cc : Nat)])) W := fun W => sub64 x 0 cc hcc W
        go_wp2
        go_roundw
        case rel =>
          exact ⟨k + 1, sbB x 0 cc, L.set k (sbD x 0 cc), by omega, sbB_le x 0 cc, by go_num, rfl, Lib.hid (HS.out _ _ (sb_eq hxd (by unfold B64; omega) hcc) (sbD_lt x 0 cc)), Lib.hid (by rw [← HSET.out]; exact hbk.out.set _ _), Lib.hid (hbut.out.set _ _)⟩
        case measure => simp [intOf]; omega
    · obtain rfl : k = X.length := by omega
      obtain ⟨l1, l2, l3, l4⟩ := hL.out
      have hval : val B64 X + cc * B64 ^ X.length = val B64 L + val B64 Y := by
        rw [List.take_length, List.take_of_length_le (l := L) (by omega), List.take_of_length_le hly] at l4
        exact l4
      have e : val B64 L = n := by
        have h1 := VAB.out
        have h2 := val_lt l2
        rw [l1] at h2
        rcases Nat.eq_zero_or_pos cc with h0 | h0
        · subst h0; omega
        · obtain rfl : cc = 1 := by omega
          omega
      have hcall := wtrim_ow (v := .slice (some ⟨g, P.length, none⟩) X.length (X.length + Q.length)) ⟨P, Q, by rw [l1], hbk.out⟩ (by omega) l2
      rw [e] at hcall
      have HCC := Lib.hid hcall
      clear hcall e l1 l2 l3 l4 hval hL
      go_wp2_with fail
      refine (HCC.out).mono ?_
      rintro e w3 ⟨v', rfl, how, rfl⟩
      go_wp2
      go_ret
      exact ⟨_, rfl, how, hbut.out⟩
end Go.Proofs.YtiloialbglfplaaGreatDoor

namespace Go.Proofs.YtiloialbglfplaaGreatDoor
open Go.RowKit

set_option maxHeartbeats 1000000 in
theorem wwords_any (n : Nat) (hn : bl n ≤ 549755813888) (w : World) :
    Calls Tryz.prog 170 #[.agg #[.int .u64 (lo (n) : Nat), .string (hi (n))]] w fun e w' => ∃ v L g, e = .returned v ∧ L.length ≤ 8589934593 ∧ Dig B64 L ∧ val B64 L = n ∧ w.heap.size ≤ g ∧ OW g L v w' ∧ Ext w w' := by
  have HBY := Lib.hid (fun W => bytes_any n hn W)
  have hll : (beB n).length ≤ 68719476737 := by rw [beB_length]; unfold nb; omega
  have HBN := Lib.hid (beN_beB n)
  have HN2 := Lib.hid (show beN (beB n) = val 256 (rb (beB n)) from rfl)
  clear hn
  generalize beB n = l at *
  obtain ⟨M, hMe⟩ : ∃ M, (l.length + 7) / 8 = M := ⟨_, rfl⟩
  have hq : ((l.length : Nat) + 7 : Int) / 8 = (M : Nat) := by omega
  have hM : M ≤ 8589934593 := by omega
  have HM := Lib.hid hMe
  have HMM := Lib.hid hM
  clear hMe
  generalize hla : lo n = la at *
  generalize hsa : hi n = sa at *
  clear hla hsa
  go_enter Tryz.func170, Tryz.ntmps170
  go_wp2_with fail
  refine (HBY.out _).mono ?_
  rintro e w1 ⟨v1, rfl, ⟨g', hg', rfl, hb1⟩, hx1⟩
  have HX1 : Hid (Ext w w1) := Lib.hid (((Ext.refl w).alloc _).trans hx1)
  have HB1 := Lib.hid hb1
  clear hx1 hb1 hg'
  go_wp2_with (at_make; refine wpList_mk _ rfl (.tmp 11) (.tmp 11) 183 28 rfl (.int .u64 0) 8 Tryz.underlying183 info64 rfl .i64 .i64 _ _ M rfl rfl ?c1 ?c1' ?c2 ?c3 ?_)
  case c1 => omega
  case c1' => omega
  case c2 => omega
  case c3 => omega
  intro w2 hx2 hs2 hb2
  rw [rep_U] at hb2
  have HX2 : Hid (Ext w w2) := Lib.hid (HX1.out.trans hx2)
  have hlt := HB1.out.lt
  have HBX := Lib.hid (HB1.out.ext hx2)
  have HBG := Lib.hid hb2
  have HGE : Hid (w.heap.size ≤ w1.heap.size) := Lib.hid HX1.out.size
  clear hx2 hb2 hs2 hq hM
  generalize w1.heap.size = g at *
  have hne : g' ≠ g := by omega
  go_wp2
  go_loopw [15] (fun i wr => ∃ (k : Nat) (L : List Nat), k ≤ l.length ∧ i = .int .i64 k ∧ Hid (FbUp (rb l) k L) ∧ Hid (Blk wr g 28 (U L)) ∧ Hid (But g w2 wr)) (fun i _ => l.length - (intOf i).toNat)
  case atStart => exact ⟨0, _, Nat.zero_le _, rfl, Lib.hid (by have h := FbUp.start (rb l); rw [rb_length, HM.out] at h; exact h), HBG, Lib.hid (But.refl _ _)⟩
  case round =>
    obtain ⟨k, L, hk, rfl, hL, hbk, hbut⟩ := hrel
    by_cases hkx : k < l.length
    · have hcx : wr.cell? ⟨g', l.length - 1 - k, none⟩ = some (.int .u8 ((rb l).getD k 0 : Nat)) := by
        rw [rb_getD' l k hkx, (hbut.out.blk HBX.out hne).cell]
        simp only [Lib.byteCells, List.getElem?_map]
        rw [List.getElem?_eq_getElem (by omega)]
        rfl
      have hlen := hL.out.len
      rw [rb_length, HM.out] at hlen
      have hk8 : k / 8 < M := by have := HM.out; omega
      have hc1 : wr.cell? ⟨g, k / 8, none⟩ = some (.int .u64 (L.getD (k / 8) 0 : Nat)) := by rw [hbk.out.cell, getD_U _ _ (by omega)]
      have hf1 : wr.frozen? ⟨g, k / 8, none⟩ = false := hbk.out.frozen _
      have hxd : (rb l).getD k 0 < 256 := (rb_dig l).getD (by omega) k
      have hw := hL.out.word (rb_dig l)
      obtain ⟨_, hN⟩ := hL.out.step (by rw [rb_length]; exact hkx) (rb_dig l)
      have HN := Lib.hid hN
      have HV := Lib.hid (or64 (p := 8 * (k % 8)) hxd (by omega) hw)
      clear hlen hN hw
      generalize (rb l).getD k 0 = x at *
      generalize L.getD (k / 8) 0 = o at *
      go_wp2
      go_region
      rw [HV.out]
      go_wp2
      go_roundw
      case rel =>
        refine ⟨k + 1, _, by omega, by go_num, HN, ?_, Lib.hid ((hbut.out.set (k / 8) _).trans (But.of_ext (Ext.refl _).drew))⟩
        have h := hbk.out.set (k / 8) (.int .u64 (o + 2 ^ (8 * (k % 8)) * x : Nat))
        rw [U_set] at h
        exact Lib.hid h
      case measure => simp [intOf]; omega
    · obtain rfl : k = l.length := by omega
      go_wp2
      go_ret
      have hlen := hL.out.len
      rw [rb_length, HM.out] at hlen
      have hL2 := hL.out
      rw [← rb_length] at hL2
      refine ⟨_, L, g, rfl, by have := HMM.out; omega, hL.out.dig, by rw [hL2.fin, ← HN2.out, HBN.out], HGE.out, ?_, hbut.out.ext HX2.out HGE.out⟩
      have h := OW.of_blk hbk.out
      rw [hlen] at h
      exact h

/-- A byte of a word. -/
theorem le_get : ∀ (n x k : Nat) (h : k < (Lib.leBytes n x).length), (Lib.leBytes n x)[k] = UInt8.ofNat (x / 256 ^ k)
  | 0, _, _, h => by simp [Lib.leBytes] at h
  | n + 1, x, 0, _ => by
    simp only [Lib.leBytes, List.getElem_cons_zero, Nat.pow_zero, Nat.div_one]
    apply UInt8.toNat_inj.1
    simp [Nat.toUInt8, UInt8.toNat_ofNat']
  | n + 1, x, k + 1, h => by
    simp only [Lib.leBytes, List.getElem_cons_succ]
    rw [le_get n (x / 256) k (by simpa [Lib.leBytes] using h), Nat.pow_succ, Nat.div_div_eq_div_mul, Nat.mul_comm]
theorem flat_get : ∀ (xs : List Nat) (k : Nat) (h : k < (xs.flatMap le8).length), (xs.flatMap le8)[k] = UInt8.ofNat (xs.getD (k / 8) 0 / 256 ^ (k % 8))
  | [], _, h => by simp at h
  | x :: xs, k, h => by
    simp only [List.flatMap_cons]
    by_cases hk : k < 8
    · rw [List.getElem_append_left (by rw [le8_length]; exact hk)]
      have h0 : k / 8 = 0 := by omega
      rw [h0, List.getD_cons_zero, Nat.mod_eq_of_lt hk]
      exact le_get 8 x k (by rw [Lib.leBytes_length]; exact hk)
    · have hl := flat8_length (x :: xs)
      rw [List.length_cons] at hl
      rw [List.getElem_append_right (by rw [le8_length]; omega)]
      simp only [le8_length]
      rw [flat_get xs (k - 8) (by rw [flat8_length]; omega)]
      have e1 : k / 8 = (k - 8) / 8 + 1 := by omega
      have e2 : (k - 8) % 8 = k % 8 := by omega
      rw [e1, e2, List.getD_cons_succ]
theorem wb_get (xs : List Nat) (k : Nat) (h : k < 8 * xs.length) : (wb xs)[8 * xs.length - 1 - k]'(by rw [wb_length]; omega) = UInt8.ofNat (xs.getD (k / 8) 0 / 256 ^ (k % 8)) := by
  unfold wb
  rw [List.getElem_reverse]
  have e : (xs.flatMap le8).length - 1 - (8 * xs.length - 1 - k) = k := by rw [flat8_length]; omega
  simp only [e]
  exact flat_get xs k (by rw [flat8_length]; exact h)
theorem bfill_wb (xs : List Nat) (k : Nat) (h : k < 8 * xs.length) (z : Int) (hz : z = ((xs.getD (k / 8) 0 / 256 ^ (k % 8) % 256 : Nat) : Int)) :
    (Lib.byteCells (bfill (wb xs) k)).set (8 * xs.length - 1 - k) (.int .u8 z) = Lib.byteCells (bfill (wb xs) (k + 1)) := by
  have h' := bfill_step (wb xs) k (by rw [wb_length]; exact h)
  rw [← h', byteCells_set]
  have e : (wb xs)[(wb xs).length - 1 - k]'(by rw [wb_length]; omega) = UInt8.ofNat (xs.getD (k / 8) 0 / 256 ^ (k % 8)) := by
    rw [← wb_get xs k h]; congr 1; rw [wb_length]
  rw [e, wb_length, hz]
  congr 2
theorem bfill_wcell (xs : List Nat) (k : Nat) (h : k < 8 * xs.length) : (Lib.byteCells (bfill (wb xs) k))[8 * xs.length - 1 - k]? = some (.int .u8 0) := by
  unfold Lib.byteCells bfill
  rw [List.map_append, List.getElem?_append_left (by rw [List.length_map, List.length_replicate, wb_length]; omega), List.getElem?_map, List.getElem?_replicate, wb_length, if_pos (by omega)]
  rfl

set_option maxHeartbeats 1000000 in
theorem wnumber_any (g0 : Nat) (xs : List Nat) (v : Value) (w : World) (h : OW g0 xs v w) (hd : Dig B64 xs) (hl : xs.length ≤ 8589934592) :
    Calls Tryz.prog 175 #[v] w (Ret (.agg #[.int .u64 (lo (val B64 xs) : Nat), .string (hi (val B64 xs))]) w) := by
  have hg0 := h.lt
  obtain ⟨off, c, rfl, _, hcell⟩ := h.open
  have HC := Lib.hid hcell
  have HF : Hid (∀ W v', SlB (wb xs) v' W → Calls Tryz.prog 159 #[v'] W (Ret (.agg #[.int .u64 (lo (val B64 xs) : Nat), .string (hi (val B64 xs))]) W)) := Lib.hid fun W v' hs => by
    have h := fromBytes_any (wb xs) v' W (by rw [wb_length]; omega) hs
    rw [wb_val hd] at h
    exact h
  have HW := Lib.hid (wb_length xs)
  obtain ⟨M, hMe⟩ : ∃ M, 8 * xs.length = M := ⟨_, rfl⟩
  have hq : 8 * ((xs.length : Nat) : Int) = (M : Nat) := by omega
  have HM := Lib.hid hMe
  have HSET : Hid (∀ k, k < M → ∀ z : Int, z = ((xs.getD (k / 8) 0 / 256 ^ (k % 8) % 256 : Nat) : Int) → (Lib.byteCells (bfill (wb xs) k)).set (M - 1 - k) (.int .u8 z) = Lib.byteCells (bfill (wb xs) (k + 1))) := Lib.hid fun k hk z hz => by subst hMe; exact bfill_wb xs k hk z hz
  have HGET : Hid (∀ k, k < M → (Lib.byteCells (bfill (wb xs) k))[M - 1 - k]? = some (.int .u8 0)) := Lib.hid fun k hk => by subst hMe; exact bfill_wcell xs k hk
  have hM : M ≤ 68719476736 := by omega
  clear h hd hcell hl
  generalize val B64 xs = n at *
  generalize lo n = la at *
  generalize hi n = sa at *
  go_enter Tryz.func175, Tryz.ntmps175
  go_wp2_with (at_make; refine wpList_mk _ rfl (.tmp 7) (.tmp 7) 102 5 rfl (.int .u8 0) 1 Tryz.underlying102 info8 rfl .i64 .i64 _ _ M rfl rfl ?c1 ?c1' ?c2 ?c3 ?_)
  case c1 => omega
  case c1' => omega
  case c2 => omega
  case c3 => omega
  intro w1 hx1 hs1 hb1
  try simp only [World.size_alloc] at hs1 hb1
  have HR := Lib.hid ((Blk.new w 30 [.int .u64 0, .string ⟨#[]⟩]).ext hx1)
  have HX := Lib.hid (((Ext.refl w).alloc _).trans hx1)
  have HB : Hid (Blk w1 (w.heap.size + 1) 5 (Lib.byteCells (bfill (wb xs) 0))) := Lib.hid (by rw [bfill_zero, byteCells_rep, HW.out, HM.out]; exact hb1)
  clear hx1 hb1 hs1 hMe
  go_wp2
  go_loopw [11] (fun i wr => ∃ k : Nat, k ≤ M ∧ i = .int .i64 k ∧ Hid (Blk wr (w.heap.size + 1) 5 (Lib.byteCells (bfill (wb xs) k))) ∧ Hid (But (w.heap.size + 1) w1 wr)) (fun i _ => M - (intOf i).toNat)
  case atStart => exact ⟨0, Nat.zero_le _, rfl, HB, Lib.hid (But.refl _ _)⟩
  case round =>
    obtain ⟨k, hk, rfl, hbk, hbut⟩ := hrel
    by_cases hkM : k < M
    · have hki : k / 8 < xs.length := by have := HM.out; omega
      have hcx : wr.cell? ⟨g0, off + k / 8, none⟩ = some (.int .u64 (xs.getD (k / 8) 0 : Nat)) := (hbut.out.ext HX.out (by omega)).keep (HC.out _ hki)
      have hset : wr.cell? ⟨w.heap.size + 1, M - 1 - k, none⟩ = some (.int .u8 0) := by rw [hbk.out.cell]; exact HGET.out k hkM
      have hf : wr.frozen? ⟨w.heap.size + 1, M - 1 - k, none⟩ = false := hbk.out.frozen _
      have HS := Lib.hid (HSET.out k hkM)
      generalize xs.getD (k / 8) 0 = x at *
      go_wp2
      go_roundw
      case rel =>
        refine ⟨k + 1, by omega, by go_num, Lib.hid ?_, Lib.hid (hbut.out.set _ _)⟩
        have h := hbk.out.set (M - 1 - k) (.int .u8 ((x : Int) / 2 ^ (8 * (k % 8)) % 256))
        rw [HS.out _ (byte_shift x (k % 8)).symm] at h
        exact h
      case measure => simp [intOf]; omega
    · obtain rfl : k = M := by omega
      have hsl : SlB (wb xs) (.slice (some ⟨w.heap.size + 1, 0, none⟩) k k) wr := by
        have hb := hbk.out
        have hl := HW.out
        rw [HM.out] at hl
        rw [← hl, bfill_all] at hb
        rw [← hl]
        exact ⟨_, _, rfl, Nat.le_refl _, ⟨by rw [hl]; omega, fun h => by cases h⟩, fun _ => ⟨_, 0, rfl, hb.lt, fun i hi => by rw [Nat.zero_add, hb.cell]; simp [Lib.byteCells, List.getElem?_map, List.getElem?_eq_getElem hi]⟩⟩
      have HF2 := Lib.hid (HF.out wr _ hsl)
      clear hsl
      go_wp2_with fail
      refine (HF2.out).mono ?_
      rintro e w3 ⟨rfl, hx3⟩
      have he : Ext w w3 := (hbut.out.ext HX.out (by omega)).trans hx3
      have hr3 := (hbut.out.blk HR.out (by omega)).ext hx3
      have r0 : w3.cell? ⟨w.heap.size, 0, none⟩ = some (.int .u64 0) := hr3.cell 0
      have r1 : w3.cell? ⟨w.heap.size, 1, none⟩ = some (.string ⟨#[]⟩) := hr3.cell 1
      have f0 : w3.frozen? ⟨w.heap.size, 0, none⟩ = false := hr3.frozen 0
      have f1 : w3.frozen? ⟨w.heap.size, 1, none⟩ = false := hr3.frozen 1
      go_wp2
      refine ret_nat w.heap.size _ _ rfl rfl ((hr3.set 0 _).set 1 _) rfl ⟨rfl, ?_⟩
      exact (Below.setCell he (p := ⟨w.heap.size, 0, none⟩) (by show _ ≤ _; simp) _).setCell (p := ⟨w.heap.size, 1, none⟩) (by show _ ≤ _; simp) _
end Go.Proofs.YtiloialbglfplaaGreatDoor

namespace Go.Proofs.YtiloialbglfplaaGreatDoor
open Go.RowKit

theorem wzeros_ow {g : Nat} {xs : List Nat} {v : Value} {w : World} (h : OW g xs v w) (hl : xs.length ≤ 1099511627776) (hd : Dig B64 xs) (hv : 0 < val B64 xs) (ht : Tab64 w) :
    Calls Tryz.prog 171 #[v] w fun e w' => e = .returned (.int .i64 (tw (val B64 xs) : Nat)) ∧ w = w' := by
  obtain ⟨off, c, rfl, _, hcell⟩ := h.open
  exact wzeros_any g off c xs w hl hd hv ht hcell
theorem limbs_len64 (n k : Nat) (h : bl n ≤ 64 * k) : (limbs B64 n).length ≤ k := by
  rw [limbs_length_le_iff B64_two, B64_pow]
  exact Nat.lt_of_lt_of_le (lt_bl n) (Nat.pow_le_pow_right (by omega) h)
theorem two_chunk {G T i : Nat} (h : 65536 * i < T) {r : Nat} (hr : r = min (T - 65536 * i) 65536) : G * 2 ^ min T (65536 * i) * 2 ^ r = G * 2 ^ min T (65536 * (i + 1)) := by
  rw [Nat.mul_assoc, ← Nat.pow_add]
  congr 2
  omega
theorem gcd_shift_le {G T X : Nat} (h : G * 2 ^ T = X) (j : Nat) (hj : j ≤ T) : G * 2 ^ j ≤ X := by
  rw [← h]
  exact Nat.mul_le_mul_left _ (Nat.pow_le_pow_right (by omega) hj)
/-- The two lists of the loop. -/
structure BinI (B : Nat) (W : World) (G m k : Nat) (a b ga gb : Nat) (v5 v6 : Value) (wr : World) : Prop where
  oa : OW ga (limbs B64 a) v5 wr
  ob : OW gb (limbs B64 b) v6 wr
  ne : ga ≠ gb
  ha : B ≤ ga
  hb : B ≤ gb
  ex : Ext W wr
  pa : a % 2 = 1
  pb : b % 2 = 1
  gcd : Nat.gcd a b = G
  la : a ≤ m
  lb : b ≤ m
  lk : a + b ≤ k

set_option maxHeartbeats 4000000 in
theorem wbinary_any (x y : Nat) (hx0 : 0 < x) (hy0 : 0 < y) (hx : bl x ≤ 549755813888) (hy : bl y ≤ 549755813888) (w : World) (ht : Tab64 w) :
    Calls Tryz.prog 139 #[.agg #[.int .u64 (lo (x) : Nat), .string (hi (x))], .agg #[.int .u64 (lo (y) : Nat), .string (hi (y))]] w (Ret (.agg #[.int .u64 (lo (Nat.gcd x y) : Nat), .string (hi (Nat.gcd x y))]) w) := by
  have HA : Hid (∀ W, Calls Tryz.prog 170 #[.agg #[.int .u64 (lo (x) : Nat), .string (hi (x))]] W fun e w' => ∃ v L g, e = .returned v ∧ L.length ≤ 8589934593 ∧ Dig B64 L ∧ val B64 L = x ∧ W.heap.size ≤ g ∧ OW g L v w' ∧ Ext W w') := Lib.hid fun W => wwords_any x hx W
  have HB : Hid (∀ W, Calls Tryz.prog 170 #[.agg #[.int .u64 (lo (y) : Nat), .string (hi (y))]] W fun e w' => ∃ v L g, e = .returned v ∧ L.length ≤ 8589934593 ∧ Dig B64 L ∧ val B64 L = y ∧ W.heap.size ≤ g ∧ OW g L v w' ∧ Ext W w') := Lib.hid fun W => wwords_any y hy W
  have HX := Lib.hid (And.intro hx0 hx)
  have HY := Lib.hid (And.intro hy0 hy)
  have HT := Lib.hid ht
  clear hx0 hy0 hx hy ht
  generalize hsa : hi x = sa at *
  generalize hsb : hi y = sb at *
  generalize hla : lo x = la at *
  generalize hlb : lo y = lb at *
  clear hsa hsb hla hlb
  obtain ⟨lg, hlg⟩ : ∃ lg, lo (Nat.gcd x y) = lg := ⟨_, rfl⟩
  obtain ⟨sg', hsg⟩ : ∃ sg', hi (Nat.gcd x y) = sg' := ⟨_, rfl⟩
  have HLG := Lib.hid hlg
  have HSG := Lib.hid hsg
  rw [hlg, hsg]
  clear hlg hsg
  go_enter Tryz.func139, Tryz.ntmps139
  go_wp2
  generalize hW : ((w.alloc (.cells #[.int .u64 la, .string sa] 30)).alloc (.cells #[.int .u64 lb, .string sb] 30)).alloc (.cells #[.int .u64 0, .string ⟨#[]⟩] 30) = W
  obtain ⟨hB1, hB2, hB3, hEx⟩ := boxes3 w W _ _ _ _ hW
  have hsz : W.heap.size = w.heap.size + 1 + 1 + 1 := by rw [← hW]; simp
  clear hW
  have hc0 : W.cell? ⟨w.heap.size, 0, none⟩ = some (.int .u64 la) := hB1.cell 0
  have hc1 : W.cell? ⟨w.heap.size, 1, none⟩ = some (.string sa) := hB1.cell 1
  have hd0 : W.cell? ⟨w.heap.size + 1, 0, none⟩ = some (.int .u64 lb) := hB2.cell 0
  have hd1 : W.cell? ⟨w.heap.size + 1, 1, none⟩ = some (.string sb) := hB2.cell 1
  go_region_held3 (fun w' => w'.cell? ⟨w.heap.size, 0, none⟩ = some (.int .u64 la) ∧ w'.cell? ⟨w.heap.size, 1, none⟩ = some (.string sa) ∧ w'.cell? ⟨w.heap.size + 1, 0, none⟩ = some (.int .u64 lb) ∧ w'.cell? ⟨w.heap.size + 1, 1, none⟩ = some (.string sb))
    (first | exact ⟨hc0, hc1, hd0, hd1⟩ | exact ⟨he1.keep hc0, he1.keep hc1, he1.keep hd0, he1.keep hd1⟩ | exact ⟨(he1.trans he2).keep hc0, (he1.trans he2).keep hc1, (he1.trans he2).keep hd0, (he1.trans he2).keep hd1⟩)
    (first | (go_at_call_of 170 (Value.string sa); refine (HA.out _).mono ?_; rintro e w1 ⟨v1, L1, g1, rfl, hl1, hg1, hv1, hb1, ho1, he1⟩) | (go_at_call_of 170 (Value.string sb); refine (HB.out _).mono ?_; rintro e w2 ⟨v2, L2, g2, rfl, hl2, hg2, hv2, hb2, ho2, he2⟩))
  have hE1 : Ext W w1 := he1.undrew
  have hne : g1 ≠ g2 := by have := ho1.lt; omega
  have hge1 : W.heap.size ≤ g1 := hb1
  have hge2 : W.heap.size ≤ g2 := Nat.le_trans hE1.size hb2
  have ho1' := ho1.ext he2
  have hEW : Ext W w2 := hE1.trans he2
  have HR := Lib.hid hB3
  have HEX := Lib.hid hEx
  have HSZ := Lib.hid hsz
  have ht2 : Tab64 w2 := (HT.out.ext hEx).ext hEW
  have htab : ∀ V, Ext W V → Tab64 V := fun V hV => (HT.out.ext hEx).ext hV
  have HTAB := Lib.hid htab
  have HZ1 := Lib.hid (wzeros_ow ho1' (by omega) hg1 (by rw [hv1]; exact HX.out.1) ht2)
  have HZ2 := Lib.hid (wzeros_ow ho2 (by omega) hg2 (by rw [hv2]; exact HY.out.1) ht2)
  have HD1 := Lib.hid (wdown_any g1 L1 v1 w2 ho1' hg1 (by rw [hv1]; exact HX.out.1) (by omega) ht2)
  have HD2 : Hid (∀ V, But g1 w2 V → Calls Tryz.prog 172 #[v2] V fun e w' => ∃ v', e = .returned v' ∧ OW g2 (limbs B64 (od y)) v' w' ∧ But g2 V w') := Lib.hid fun V hV => by
    have h := wdown_any g2 L2 v2 V (ho2.but hV (fun e => hne e.symm)) hg2 (by rw [hv2]; exact HY.out.1) (by omega) (htab V (hV.ext hEW (by omega)))
    rw [hv2] at h
    exact h
  rw [hv1] at HZ1 HD1
  rw [hv2] at HZ2
  have hmin : min ((tw x : Nat) : Int) ((tw y : Nat) : Int) = ((min (tw x) (tw y) : Nat) : Int) := by omega
  have HV := Lib.hid (And.intro hge1 hge2)
  have HEW := Lib.hid hEW
  have HGO := Lib.hid (gcd_od HX.out.1 HY.out.1)
  have HPX := Lib.hid (od_spec HX.out.1)
  have HPY := Lib.hid (od_spec HY.out.1)
  have hTx : min (tw x) (tw y) ≤ 549755813888 := Nat.le_trans (Nat.min_le_left _ _) (Nat.le_trans (Nat.le_of_lt (tw_lt_bl HX.out.1 (lt_bl x))) HX.out.2)
  obtain ⟨o1, c1, rfl, _⟩ := ho1'.open
  obtain ⟨o2, c2, rfl, _⟩ := ho2.open
  clear ho1 ho1' ho2 he1 he2 hE1 hEW hc0 hc1 hd0 hd1 hB1 hB2 hB3 hEx hsz ht2 htab hb1 hb2 hl1 hl2 hg1 hg2 hv1 hv2 HA HB hge1 hge2
  generalize min (tw x) (tw y) = T at *
  generalize (tw x : Int) = zx at *
  generalize (tw y : Int) = zy at *
  go_wp2_with fail
  refine (HZ1.out).mono ?_
  rintro e w3 ⟨rfl, rfl⟩
  go_wp2_with fail
  refine (HZ2.out).mono ?_
  rintro e w3 ⟨rfl, rfl⟩
  go_wp2_with fail
  refine (HD1.out).mono ?_
  rintro e w3 ⟨v3, rfl, ho3, hbut3⟩
  have HO3 := Lib.hid ho3
  have HBUT3 := Lib.hid hbut3
  obtain ⟨o3, c3, rfl, _⟩ := ho3.open
  clear ho3 hbut3
  go_wp2_with fail
  refine (HD2.out w3 HBUT3.out).mono ?_
  rintro e w4 ⟨v4, rfl, ho4, hbut4⟩
  have hE3 : Ext W w3 := HBUT3.out.ext HEW.out (by have := HV.out; omega)
  have hE4 : Ext W w4 := hbut4.ext hE3 (by have := HV.out; omega)
  have HI : Hid (BinI W.heap.size W (Nat.gcd (od x) (od y)) (max x y) (od x + od y) (od x) (od y) g1 g2 (.slice (some ⟨g1, o3, none⟩) (limbs B64 (od x)).length c3) v4 w4) :=
    Lib.hid ⟨HO3.out.but hbut4 hne, ho4, hne, HV.out.1, HV.out.2, hE4, HPX.out.2, HPY.out.2, rfl, Nat.le_trans (od_le x) (Nat.le_max_left _ _), Nat.le_trans (od_le y) (Nat.le_max_right _ _), Nat.le_refl _⟩
  obtain ⟨o4, c4, rfl, _⟩ := ho4.open
  have HM : Hid (bl (max x y) ≤ 549755813888) := Lib.hid (by
    have h1 := HX.out.2
    have h2 := HY.out.2
    rcases Nat.le_total x y with h | h
    · rw [Nat.max_eq_right h]; exact h2
    · rw [Nat.max_eq_left h]; exact h1)
  clear ho4 hbut4 hE3 hE4 HO3 HBUT3 HPX HPY HD1 HD2 HZ1 HZ2 hmin
  generalize (limbs B64 (od x)).length = n3 at *
  generalize (limbs B64 (od y)).length = n4 at *
  generalize max x y = m at *
  generalize hGe : Nat.gcd (od x) (od y) = G at *
  have HG := Lib.hid hGe
  obtain ⟨K, hK⟩ : ∃ K, od x + od y = K := ⟨_, rfl⟩
  rw [hK] at HI
  have HI0 : Hid (∃ a b ga gb, BinI W.heap.size W G m K a b ga gb (.slice (some ⟨g1, o3, none⟩) n3 c3) (.slice (some ⟨g2, o4, none⟩) n4 c4) w4) := Lib.hid ⟨_, _, _, _, HI.out⟩
  clear HI hK hGe HG hne
  go_wp2
  go_loopg [5, 6] K (fun k s5 s6 wr => ∃ (g5 f5 l5 e5 g6 f6 l6 e6 : Nat), s5 = .slice (some ⟨g5, f5, none⟩) l5 e5 ∧ s6 = .slice (some ⟨g6, f6, none⟩) l6 e6 ∧ Hid (∃ a b ga gb, BinI W.heap.size W G m k a b ga gb (.slice (some ⟨g5, f5, none⟩) l5 e5) (.slice (some ⟨g6, f6, none⟩) l6 e6) wr))
  case atStart => exact ⟨g1, o3, n3, c3, g2, o4, n4, c4, rfl, rfl, HI0⟩
  case round =>
    obtain ⟨g5, f5, l5, e5, g6, f6, l6, e6, rfl, rfl, hI⟩ := hrel
    obtain ⟨a, b, ga, gb, hI⟩ := hI.out
    have hba : bl a ≤ 549755813888 := Nat.le_trans (bl_mono hI.la) HM.out
    have hbb : bl b ≤ 549755813888 := Nat.le_trans (bl_mono hI.lb) HM.out
    have hap : 0 < a := by have := hI.pa; omega
    have hbp : 0 < b := by have := hI.pb; omega
    have HCMP := Lib.hid (wcompare_any ga gb a b _ _ wr hI.oa hI.ob hba hbb)
    have HDN : Hid (∀ (g d : Nat) V v', 0 < d → bl d ≤ 549755813888 → OW g (limbs B64 d) v' V → Ext W V → Calls Tryz.prog 172 #[v'] V fun e w' => ∃ v'', e = .returned v'' ∧ OW g (limbs B64 (od d)) v'' w' ∧ But g V w') := Lib.hid fun g d V v' h0 hd ho hV => by
      have h := wdown_any g (limbs B64 d) v' V ho (limbs_dig B64_two d) (by rw [val_limbs B64_two]; exact h0) (by have := limbs_len d hd; omega) (HTAB.out V hV)
      rw [val_limbs B64_two] at h
      exact h
    have HI := Lib.hid hI
    rcases Nat.lt_trichotomy a b with hab | hab | hab
    · rw [cmpN_lt hab] at HCMP
      have HSUB : Hid (∀ V, Ext wr V → Calls Tryz.prog 174 #[.slice (some ⟨g6, f6, none⟩) l6 e6, .slice (some ⟨g5, f5, none⟩) l5 e5] V fun e w' => ∃ v', e = .returned v' ∧ OW gb (limbs B64 (b - a)) v' w' ∧ But gb V w') :=
        Lib.hid fun V hV => wsubtract_any gb ga b a _ _ V (hI.ob.ext hV) (hI.oa.ext hV) hI.ne hbb (Nat.le_of_lt hab)
      have HF : Hid (∀ V v', OW gb (limbs B64 (od (b - a))) v' V → But gb wr V → BinI W.heap.size W G m (od (b - a) + a) (od (b - a)) a gb ga v' (.slice (some ⟨g5, f5, none⟩) l5 e5) V ∧ od (b - a) + a < gk) := Lib.hid fun V v' ho hV =>
        ⟨⟨ho, hI.oa.but hV hI.ne, hI.ne.symm, hI.hb, hI.ha, hV.ext hI.ex hI.hb, (od_spec (by omega)).2, hI.pa, by rw [gcd_step hab hI.pa, Nat.gcd_comm]; exact hI.gcd, Nat.le_trans (od_le _) (by have := hI.lb; omega), hI.la, Nat.le_refl _⟩, by have := hI.lk; have := od_le (b - a); omega⟩
      have hd0 : 0 < b - a := by omega
      have hdb : bl (b - a) ≤ 549755813888 := Nat.le_trans (bl_mono (by omega)) hbb
      have HD := Lib.hid (fun V v' ho hV => HDN.out gb (b - a) V v' hd0 hdb ho hV)
      clear hI hba hbb hap hbp hab hd0 hdb HDN
      go_wp2_with fail
      refine (HCMP.out).mono ?_
      rintro e w5 ⟨rfl, he5⟩
      have HE5 := Lib.hid he5
      clear he5
      go_wp2_with fail
      refine (HSUB.out w5 HE5.out).mono ?_
      rintro e w6 ⟨v6, rfl, ho6, hb6⟩
      have HO6 := Lib.hid ho6
      have HB6 : Hid (But gb wr w6) := Lib.hid ((But.of_ext HE5.out).trans hb6)
      obtain ⟨o7, c7, rfl, _⟩ := ho6.open
      clear ho6 hb6
      go_wp2_with fail
      refine (HD.out w6 _ HO6.out (HB6.out.ext HI.out.ex HI.out.hb)).mono ?_
      rintro e w7 ⟨v7, rfl, ho7, hb7⟩
      have HFF := Lib.hid (HF.out w7 v7 ho7 (HB6.out.trans hb7))
      obtain ⟨o8, c8, rfl, _⟩ := ho7.open
      clear ho7 hb7
      go_wp2
      go_roundg (od (b - a) + a)
      case measure => exact HFF.out.2
      case rel => exact ⟨_, _, _, _, _, _, _, _, rfl, rfl, Lib.hid ⟨_, _, _, _, HFF.out.1⟩⟩
    · subst hab
      have e0 : cmpN a a = 0 := cmpN_eq a
      rw [e0] at HCMP
      have hGa : G = a := by rw [← hI.gcd, Nat.gcd_self]
      have HNUM : Hid (∀ V, Ext wr V → Calls Tryz.prog 175 #[.slice (some ⟨g5, f5, none⟩) l5 e5] V (Ret (.agg #[.int .u64 (lo (G) : Nat), .string (hi (G))]) V)) := Lib.hid fun V hV => by
        have h := wnumber_any ga (limbs B64 a) _ V (hI.oa.ext hV) (limbs_dig B64_two a) (limbs_len64 a 8589934592 (by omega))
        rw [val_limbs B64_two] at h
        rw [hGa]
        exact h
      have HEXR := Lib.hid hI.ex
      have HGX := Lib.hid (show G * 2 ^ T = Nat.gcd x y by rw [HGO.out, Nat.mul_comm])
      clear hI hba hbb hap hbp hGa HDN HI e0
      go_wp2_with fail
      refine (HCMP.out).mono ?_
      rintro e w5 ⟨rfl, he5⟩
      have HE5 := Lib.hid he5
      clear he5
      go_wp2_with fail
      refine (HNUM.out w5 HE5.out).mono ?_
      rintro e w6 ⟨rfl, he6⟩
      have HE6 : Hid (Ext W w6) := Lib.hid ((HEXR.out.trans HE5.out).trans he6)
      have hgz : w.heap.size + 1 + 1 < w6.heap.size := by have := HE6.out.size; have := HSZ.out; omega
      clear he6 HE5
      have e1 : G * 2 ^ min T (65536 * 0) = G := by simp
      have E1 := Lib.hid e1
      clear e1
      generalize hlG : lo G = lG at *
      generalize hsG : hi G = sG at *
      have HLG2 := Lib.hid (And.intro hlG hsG)
      clear hlG hsG
      go_wp2
      have hb9 : Blk (w6.alloc (.cells #[.int .u64 lG, .string sG] 30)) w6.heap.size 30 [.int .u64 lG, .string sG] := Blk.new w6 _ _
      have hx9 : Ext W (w6.alloc (.cells #[.int .u64 lG, .string sG] 30)) := HE6.out.alloc _
      generalize w6.alloc (.cells #[.int .u64 lG, .string sG] 30) = w9 at *
      have HGE9 : Hid (W.heap.size ≤ w6.heap.size) := Lib.hid HE6.out.size
      have HB9 : Hid (Blk w9 w6.heap.size 30 [.int .u64 (lo (G * 2 ^ min T (65536 * 0)) : Nat), .string (hi (G * 2 ^ min T (65536 * 0)))]) := Lib.hid (by rw [E1.out, HLG2.out.1, HLG2.out.2]; exact hb9)
      have HX9 := Lib.hid hx9
      clear hb9 hx9 HE6 E1 HLG2
      generalize w6.heap.size = g9 at *
      go_loopw [7] (fun t wr2 => ∃ (i : Nat) (z : Int), t = .int .i64 z ∧ -65536 ≤ z ∧ z ≤ 549755813888 ∧ Hid (z = (T : Int) - 65536 * (i : Int)) ∧ Hid (Blk wr2 g9 30 [.int .u64 (lo (G * 2 ^ min T (65536 * i)) : Nat), .string (hi (G * 2 ^ min T (65536 * i)))]) ∧ Hid (Ext W wr2)) (fun t _ => (intOf t).toNat)
      case atStart => exact ⟨0, T, rfl, by omega, by omega, Lib.hid (by omega), HB9, HX9⟩
      case round =>
        obtain ⟨i, z, rfl, hz1, hz2, hz, hb, hx⟩ := hrel
        by_cases hzp : 0 < z
        · have hTi : 65536 * i < T := by have := hz.out; omega
          obtain ⟨r, hr⟩ : ∃ r, r = min (T - 65536 * i) 65536 := ⟨_, rfl⟩
          have hmin : min z 65536 = (r : Int) := by have := hz.out; omega
          have hsm : bl (G * 2 ^ min T (65536 * i)) ≤ 549755813888 := by
            have h1 := gcd_shift_le HGX.out (min T (65536 * i)) (Nat.min_le_left _ _)
            have h2 : Nat.gcd x y ≤ x := Nat.le_of_dvd HX.out.1 (Nat.gcd_dvd_left x y)
            exact Nat.le_trans (bl_mono (Nat.le_trans h1 h2)) HX.out.2
          have HSH : Hid (∀ V, Calls Tryz.prog 176 #[.agg #[.int .u64 (lo (G * 2 ^ min T (65536 * i)) : Nat), .string (hi (G * 2 ^ min T (65536 * i)))], .int .i64 r] V (Ret (.agg #[.int .u64 (lo (G * 2 ^ min T (65536 * (i + 1))) : Nat), .string (hi (G * 2 ^ min T (65536 * (i + 1))))]) V)) := Lib.hid fun V => by
            have h := shift_up (G * 2 ^ min T (65536 * i)) r hsm (by omega) V
            rw [two_chunk hTi hr] at h
            exact h
          have hc0 := hb.out.cell 0
          have hc1 := hb.out.cell 1
          simp only [List.getElem?_cons_zero, List.getElem?_cons_succ] at hc0 hc1
          have HR2 : Hid ((r : Int) = min ((T : Int) - 65536 * i) 65536) := Lib.hid (by omega)
          have hr0 : r ≤ 65536 := by omega
          clear hsm hr hTi
          generalize lo (G * 2 ^ min T (65536 * i)) = l1 at *
          generalize hi (G * 2 ^ min T (65536 * i)) = s1 at *
          generalize hl2 : lo (G * 2 ^ min T (65536 * (i + 1))) = l2 at *
          generalize hs2 : hi (G * 2 ^ min T (65536 * (i + 1))) = s2 at *
          have HL2 := Lib.hid (And.intro hl2 hs2)
          clear hl2 hs2
          go_wp2_with fail
          refine (HSH.out _).mono ?_
          rintro e w10 ⟨rfl, he10⟩
          have HB10 := Lib.hid (hb.out.ext he10)
          have HX10 := Lib.hid (hx.out.trans he10)
          have c0 : w10.cell? ⟨g9, 0, none⟩ = some (.int .u64 l1) := HB10.out.cell 0
          have c1' : w10.cell? ⟨g9, 1, none⟩ = some (.string s1) := HB10.out.cell 1
          have f0 : w10.frozen? ⟨g9, 0, none⟩ = false := HB10.out.frozen 0
          have f1 : w10.frozen? ⟨g9, 1, none⟩ = false := HB10.out.frozen 1
          clear hb hx hc0 hc1 he10 hmin
          go_wp2
          go_roundw
          case rel =>
            refine ⟨i + 1, z - 65536, by go_num, by omega, by omega, Lib.hid (by have := hz.out; omega), Lib.hid ?_, Lib.hid ?_⟩
            · rw [HL2.out.1, HL2.out.2]
              exact (HB10.out.set 0 _).set 1 _
            · exact (Below.setCell HX10.out (p := ⟨g9, 0, none⟩) HGE9.out _).setCell (p := ⟨g9, 1, none⟩) HGE9.out _
          case measure => simp [intOf]; omega
        · have hfin : G * 2 ^ min T (65536 * i) = Nat.gcd x y := by
            have := hz.out
            rw [Nat.min_eq_left (by omega)]
            exact HGX.out
          have hbf := hb.out
          rw [hfin, HLG.out, HSG.out] at hbf
          have hc0 : wr.cell? ⟨g9, 0, none⟩ = some (.int .u64 lg) := hbf.cell 0
          have hc1 : wr.cell? ⟨g9, 1, none⟩ = some (.string sg') := hbf.cell 1
          have hr3 := HR.out.ext hx.out
          have r0 : wr.cell? ⟨w.heap.size + 1 + 1, 0, none⟩ = some (.int .u64 0) := hr3.cell 0
          have r1 : wr.cell? ⟨w.heap.size + 1 + 1, 1, none⟩ = some (.string ⟨#[]⟩) := hr3.cell 1
          have q0 : wr.frozen? ⟨w.heap.size + 1 + 1, 0, none⟩ = false := hr3.frozen 0
          have q1 : wr.frozen? ⟨w.heap.size + 1 + 1, 1, none⟩ = false := hr3.frozen 1
          have HXX := Lib.hid (HEX.out.trans hx.out)
          have HR3 := Lib.hid hr3
          clear hb hx hbf hfin hr3
          go_wp2
          refine ret_nat (w.heap.size + 1 + 1) _ _ rfl rfl ((HR3.out.set 0 _).set 1 _) rfl ⟨rfl, ?_⟩
          exact (Below.setCell HXX.out (p := ⟨w.heap.size + 1 + 1, 0, none⟩) (by show _ ≤ _; simp; omega) _).setCell (p := ⟨w.heap.size + 1 + 1, 1, none⟩) (by show _ ≤ _; simp; omega) _
    · rw [cmpN_gt hab] at HCMP
      have HSUB : Hid (∀ V, Ext wr V → Calls Tryz.prog 174 #[.slice (some ⟨g5, f5, none⟩) l5 e5, .slice (some ⟨g6, f6, none⟩) l6 e6] V fun e w' => ∃ v', e = .returned v' ∧ OW ga (limbs B64 (a - b)) v' w' ∧ But ga V w') :=
        Lib.hid fun V hV => wsubtract_any ga gb a b _ _ V (hI.oa.ext hV) (hI.ob.ext hV) hI.ne.symm hba (Nat.le_of_lt hab)
      have HF : Hid (∀ V v', OW ga (limbs B64 (od (a - b))) v' V → But ga wr V → BinI W.heap.size W G m (od (a - b) + b) (od (a - b)) b ga gb v' (.slice (some ⟨g6, f6, none⟩) l6 e6) V ∧ od (a - b) + b < gk) := Lib.hid fun V v' ho hV =>
        ⟨⟨ho, hI.ob.but hV hI.ne.symm, hI.ne, hI.ha, hI.hb, hV.ext hI.ex hI.ha, (od_spec (by omega)).2, hI.pb, by rw [gcd_step hab hI.pb]; exact hI.gcd, Nat.le_trans (od_le _) (by have := hI.la; omega), hI.lb, Nat.le_refl _⟩, by have := hI.lk; have := od_le (a - b); omega⟩
      have hd0 : 0 < a - b := by omega
      have hdb : bl (a - b) ≤ 549755813888 := Nat.le_trans (bl_mono (by omega)) hba
      have HD := Lib.hid (fun V v' ho hV => HDN.out ga (a - b) V v' hd0 hdb ho hV)
      clear hI hba hbb hap hbp hab hd0 hdb HDN
      go_wp2_with fail
      refine (HCMP.out).mono ?_
      rintro e w5 ⟨rfl, he5⟩
      have HE5 := Lib.hid he5
      clear he5
      go_wp2_with fail
      refine (HSUB.out w5 HE5.out).mono ?_
      rintro e w6 ⟨v6, rfl, ho6, hb6⟩
      have HO6 := Lib.hid ho6
      have HB6 : Hid (But ga wr w6) := Lib.hid ((But.of_ext HE5.out).trans hb6)
      obtain ⟨o7, c7, rfl, _⟩ := ho6.open
      clear ho6 hb6
      go_wp2_with fail
      refine (HD.out w6 _ HO6.out (HB6.out.ext HI.out.ex HI.out.ha)).mono ?_
      rintro e w7 ⟨v7, rfl, ho7, hb7⟩
      have HFF := Lib.hid (HF.out w7 v7 ho7 (HB6.out.trans hb7))
      obtain ⟨o8, c8, rfl, _⟩ := ho7.open
      clear ho7 hb7
      go_wp2
      go_roundg (od (a - b) + b)
      case measure => exact HFF.out.2
      case rel => exact ⟨_, _, _, _, _, _, _, _, rfl, rfl, Lib.hid ⟨_, _, _, _, HFF.out.1⟩⟩
end Go.Proofs.YtiloialbglfplaaGreatDoor

namespace Go.Proofs.YtiloialbglfplaaGreatDoor
open Go.RowKit

section
variable {P : Program} {o : Oper} {m : Sl} {w : World}
theorem run_rem {k : IntKind} {xo yo : Operand} {tt t2 : TypeId} {x y : Int} (ho : o.op = .binOp .rem tt xo yo t2) (hx : ev m xo = .int k x) (hy : ev m yo = .int k y) (h0 : y ≠ 0) : (execOp (ev m) o).run P w = .ok (.value (.int k (x.tmod y))) w := by
  unfold execOp
  simp [ho, hx, hy, eqGuard, binOp, Op.intDiv, h0]
end
theorem ret_n {x y : Nat} {w w' : World} (h : x = y) (e : Ext w w') : Ret (nV y) w (.returned (pack [nV x])) w' := by subst h; exact ⟨rfl, e⟩
theorem g_zero {x y : Nat} (h : y = 0) : x = Nat.gcd x y := by subst h; rw [Nat.gcd_zero_right]
theorem g_mod {x y : Nat} (h : x % y = 0) : y = Nat.gcd x y := (Nat.gcd_eq_right (Nat.dvd_of_mod_eq_zero h)).symm
theorem g_rec (x y : Nat) : Nat.gcd y (x % y) = Nat.gcd x y := by rw [Nat.gcd_comm x y, Nat.gcd_rec y x, Nat.gcd_comm]
theorem cbits_zero {x : Nat} (h : x = 0) (W : World) : Calls Tryz.prog 135 #[nV x] W (Ret (.int .i64 0) W) := by
  subst h
  have h := bits_any 0 (by rw [bl_zero]; omega) W
  rw [bl_zero] at h
  exact h
theorem bl_ne {x : Nat} (h : decide (x = 0) = false) : (((bl x : Nat) : Int) == 0) = false := by
  have h := of_decide_eq_false h
  have := (bl_pos_iff x).2 (by omega)
  exact beq_eq_false_iff_ne.2 (by omega)
theorem cmpN_nlt {x y : Nat} (h : decide (x < y) = false) : decide (cmpN x y < 0) = false := by
  have := cmpN_ge (Nat.le_of_not_lt (of_decide_eq_false h))
  exact decide_eq_false (by omega)
theorem csmall {x : Nat} (h : x < B64) (W : World) : Calls Tryz.prog 137 #[nV x] W (Ret (.tuple #[.int .u64 ((x : Nat) : Int), .bool true]) W) := small_lt x h W
theorem csmall_no {x : Nat} (h : ¬ x < B64) (W : World) : Calls Tryz.prog 137 #[nV x] W (Ret (.tuple #[.int .u64 0, .bool false]) W) := small_ge x (Nat.le_of_not_lt h) W
theorem cbinary {j k x y : Nat} (hj : Sm j x) (hk : Sm k y) (hx : x ≠ 0) (hy : y ≠ 0) (W : World) (ht : Tab64 W) (h : max j k ≤ 549755813888) : Calls Tryz.prog 139 #[nV x, nV y] W (Ret (nV (Nat.gcd x y)) W) :=
  wbinary_any x y (Nat.pos_of_ne_zero hx) (Nat.pos_of_ne_zero hy) (by unfold Sm at hj; omega) (by unfold Sm at hk; omega) W ht

set_option maxHeartbeats 1000000 in
theorem zgcd {j k : Nat} {a b : Int} (ha0 : Sm j a.natAbs) (hb0 : Sm k b.natAbs) (w : World) (htab : Tab64 w) (hk : max j k ≤ 549755813887) : Calls Tryz.prog 76 #[zV a, zV b] w (Ret (nV (Nat.gcd a.natAbs b.natAbs)) w) := by
  have hs := St.start w
  refine enter Tryz.func76 rfl Tryz.ntmps76 (by kernel_rfl) fun ac ha => ?_
  refine wp_seq ?_
  refine wp_region_lit ?_
  refine s_box ha hs [.bool (decide (a < 0)), .int .u64 (lo a.natAbs : Nat), .string (hi a.natAbs)] fun g1 ac wd ha hs => ?_
  refine s_box ha hs [.bool (decide (b < 0)), .int .u64 (lo b.natAbs : Nat), .string (hi b.natAbs)] fun g2 ac wd ha hs => ?_
  refine s_alloc ha hs [.int .u64 0, .string (⟨#[]⟩)] fun g3 ac wd ha hs => ?_
  refine wpList_nil ((x_normal ?_))
  refine wp_seq ?_
  refine region_sp ha 6 [.eq (.pointer (some ⟨g1, 1, none⟩)), .eq (nV a.natAbs), .eq (.pointer (some ⟨g2, 1, none⟩)), .eq (nV b.natAbs), .new _ 30 [.int .u64 0, .string (⟨#[]⟩)], .new _ 30 [.int .u64 0, .string (⟨#[]⟩)]] [false, false, true, true] [(g2, 32, [.bool (decide (b < 0)), .int .u64 (lo b.natAbs : Nat), .string (hi b.natAbs)])] (hs.keeps _ [1])
    ⟨d_val, d_load hs 2, t_val, t_load 0, d_new, d_new, trivial⟩ ?_
  intro vv wd1 ac hw hG hN ha
  have ha := ha.sub [(0, zV a), (1, zV b), (4, .pointer (some ⟨g3, 0, none⟩)), (15, nV a.natAbs), (17, nV b.natAbs), (5, vv 4), (6, vv 5)]
  have h_g5 : NewAt _ 30 [.int .u64 0, .string (⟨#[]⟩)] (vv 4) wd1 := hG 4 5 (by decide) rfl
  have h_g6 : NewAt _ 30 [.int .u64 0, .string (⟨#[]⟩)] (vv 5) wd1 := hG 5 6 (by decide) rfl
  have n_g5_g6 : vv 4 ≠ vv 5 := hN 4 5 (by decide) (by decide) (by decide) rfl rfl
  clear hG hN
  obtain ⟨g5, b_g5, e_g5, h_g5⟩ := h_g5
  rw [e_g5] at ha n_g5_g6
  clear e_g5
  obtain ⟨g6, b_g6, e_g6, h_g6⟩ := h_g6
  rw [e_g6] at ha n_g5_g6
  clear e_g6
  have hs := hs.news hw [(g6, 30, [.int .u64 0, .string (⟨#[]⟩)]), (g5, 30, [.int .u64 0, .string (⟨#[]⟩)])] ⟨⟨b_g6, h_g6⟩, ⟨b_g5, h_g5⟩, trivial⟩ ⟨⟨ptr_ne n_g5_g6.symm, trivial⟩, trivial, trivial⟩
  clear hw
  show A4.wpListS _ _ _ _ _ _ _
  refine u_store ha hs [3] 1 _ fun ac wd ha hs => ?_
  refine u_store ha hs [3] 0 _ fun ac wd ha hs => ?_
  refine u_nil ((x_normal ?_))
  refine wp_seq ?_
  refine wp_seq ?_
  refine wp_region_lit ?_
  refine s_load ha hs 1 (nV a.natAbs) fun ac ha => ?_
  refine s_load ha hs 0 (nV b.natAbs) fun ac ha => ?_
  rcases Bool.eq_false_or_eq_true (decide (a.natAbs < b.natAbs)) with hb7 | hb7
  ·
    have phb7 := of_decide_eq_true hb7
    refine s_call ha hs (.int .i64 (-1)) (ccmp_lt ha0 hb0 (of_decide_eq_true hb7) _ (by omega)) fun ac wd ha hs => ?_
    refine s_val ha (.bool true) fun ac ha => ?_
    refine wpList_nil ((x_normal ?_))
    refine r_true ha ?_
    refine wp_region_lit ?_
    refine s_load ha hs 0 (nV b.natAbs) fun ac ha => ?_
    refine s_load ha hs 1 (nV a.natAbs) fun ac ha => ?_
    refine s_store ha hs 1 _ fun ac wd ha hs => ?_
    refine s_store ha hs 0 _ fun ac wd ha hs => ?_
    refine wpList_nil ((x_normal ?_))
    refine wp_seq ?_
    refine wp_seq ?_
    refine wp_region_lit ?_
    refine s_load ha hs 0 (nV a.natAbs) fun ac ha => ?_
    rcases Bool.eq_false_or_eq_true (decide (a.natAbs = 0)) with hb8 | hb8
    ·
      have phb8 := of_decide_eq_true hb8
      refine s_call ha hs (.int .i64 0) (cbits_zero (of_decide_eq_true hb8) _) fun ac wd ha hs => ?_
      refine s_val ha (.bool true) fun ac ha => ?_
      refine wpList_nil ((x_normal ?_))
      refine r_true ha ?_
      refine wp_seq ?_
      refine wp_region_lit ?_
      refine s_load ha hs 1 (nV b.natAbs) fun ac ha => ?_
      refine s_store ha hs 2 _ fun ac wd ha hs => ?_
      refine wpList_nil ((x_normal ?_))
      refine wp_ret (x_ret (ret_at ha hs rfl [nV b.natAbs] ⟨⟨2, _, _, _, rfl, rfl, by kernel_rfl⟩, trivial⟩ ?_))
      exact ret_n ((g_zero (of_decide_eq_true hb8)).trans (Nat.gcd_comm _ _)) hs.ext
    ·
      have phb8 := of_decide_eq_false hb8
      refine s_call ha hs (.int .i64 ((bl a.natAbs : Nat) : Int)) (cbits ha0 _ (by omega)) fun ac wd ha hs => ?_
      refine s_bool ha (b := (((bl a.natAbs : Nat) : Int) == 0)) false (bl_ne hb8) fun ac ha => ?_
      refine wpList_nil ((x_normal ?_))
      refine r_false ha ?_
      refine wp_skip ((x_normal ?_))
      refine wp_seq ?_
      refine wp_region_lit ?_
      refine s_load ha hs 1 (nV b.natAbs) fun ac ha => ?_
      refine s_load ha hs 0 (nV a.natAbs) fun ac ha => ?_
      refine s_call ha hs (.tuple #[nV (b.natAbs / a.natAbs), nV (b.natAbs % a.natAbs), .bool true]) (cdiv hb0 ha0 (of_decide_eq_false hb8) _ (by omega)) fun ac wd ha hs => ?_
      refine s_val ha (.tuple #[nV (b.natAbs / a.natAbs), nV (b.natAbs % a.natAbs), .bool true]) fun ac ha => ?_
      refine s_val ha (nV (b.natAbs / a.natAbs)) fun ac ha => ?_
      refine s_val ha (nV (b.natAbs % a.natAbs)) fun ac ha => ?_
      refine s_val ha (.bool true) fun ac ha => ?_
      refine s_alloc ha hs [.int .u64 0, .string (⟨#[]⟩)] fun g9 ac wd ha hs => ?_
      refine s_alloc ha hs [.int .u64 0, .string (⟨#[]⟩)] fun g10 ac wd ha hs => ?_
      refine s_store ha hs 1 _ fun ac wd ha hs => ?_
      refine s_store ha hs 0 _ fun ac wd ha hs => ?_
      refine s_val ha (.bool true) fun ac ha => ?_
      refine wpList_nil ((x_normal ?_))
      refine wp_seq ?_
      refine region_sp ha 2 [.eq (nV a.natAbs), .eq (nV (b.natAbs % a.natAbs))] [false, true] [(g10, 30, [.int .u64 (lo (b.natAbs % a.natAbs) : Nat), .string (hi (b.natAbs % a.natAbs))])] (hs.keeps _ [0])
        ⟨d_load hs 2, t_load 0, trivial⟩ ?_
      intro vv wd1 ac hw hG hN ha
      have ha := ha.sub [(0, zV a), (1, zV b), (4, .pointer (some ⟨g3, 0, none⟩)), (15, nV a.natAbs), (17, nV b.natAbs), (5, .pointer (some ⟨g5, 0, none⟩)), (6, .pointer (some ⟨g6, 0, none⟩)), (18, nV a.natAbs), (19, nV b.natAbs), (20, .int .i64 (-1)), (21, .bool true), (22, nV b.natAbs), (23, nV a.natAbs), (24, nV a.natAbs), (25, .int .i64 ((bl a.natAbs : Nat) : Int)), (26, .bool false), (29, nV b.natAbs), (30, nV a.natAbs), (31, .tuple #[nV (b.natAbs / a.natAbs), nV (b.natAbs % a.natAbs), .bool true]), (28, .tuple #[nV (b.natAbs / a.natAbs), nV (b.natAbs % a.natAbs), .bool true]), (32, nV (b.natAbs / a.natAbs)), (33, nV (b.natAbs % a.natAbs)), (34, .bool true), (7, .pointer (some ⟨g9, 0, none⟩)), (8, .pointer (some ⟨g10, 0, none⟩)), (35, nV a.natAbs), (36, nV (b.natAbs % a.natAbs))]
      clear hG hN
      have hs := hs.go hw
      clear hw
      show A4.wpListS _ _ _ _ _ _ _
      refine u_store ha hs [0] 3 _ fun ac wd ha hs => ?_
      refine u_store ha hs [0] 2 _ fun ac wd ha hs => ?_
      refine u_nil ((x_normal ?_))
      refine wp_seq ?_
      refine wp_seq ?_
      refine wp_region_lit ?_
      refine s_load ha hs 2 (nV (b.natAbs % a.natAbs)) fun ac ha => ?_
      rcases Bool.eq_false_or_eq_true (decide ((b.natAbs % a.natAbs) = 0)) with hb12 | hb12
      ·
        have phb12 := of_decide_eq_true hb12
        refine s_call ha hs (.int .i64 0) (cbits_zero (of_decide_eq_true hb12) _) fun ac wd ha hs => ?_
        refine s_val ha (.bool true) fun ac ha => ?_
        refine wpList_nil ((x_normal ?_))
        refine r_true ha ?_
        refine wp_seq ?_
        refine wp_region_lit ?_
        refine s_load ha hs 3 (nV a.natAbs) fun ac ha => ?_
        refine s_store ha hs 4 _ fun ac wd ha hs => ?_
        refine wpList_nil ((x_normal ?_))
        refine wp_ret (x_ret (ret_at ha hs rfl [nV a.natAbs] ⟨⟨4, _, _, _, rfl, rfl, by kernel_rfl⟩, trivial⟩ ?_))
        exact ret_n ((g_mod (of_decide_eq_true hb12)).trans (Nat.gcd_comm _ _)) hs.ext
      ·
        have phb12 := of_decide_eq_false hb12
        refine s_call ha hs (.int .i64 ((bl (b.natAbs % a.natAbs) : Nat) : Int)) (cbits (hb0.mod a.natAbs) _ (by omega)) fun ac wd ha hs => ?_
        refine s_bool ha (b := (((bl (b.natAbs % a.natAbs) : Nat) : Int) == 0)) false (bl_ne hb12) fun ac ha => ?_
        refine wpList_nil ((x_normal ?_))
        refine r_false ha ?_
        refine wp_skip ((x_normal ?_))
        refine wp_seq ?_
        refine wp_seq ?_
        refine wp_region_lit ?_
        refine s_load ha hs 3 (nV a.natAbs) fun ac ha => ?_
        rcases Bool.eq_false_or_eq_true (decide (a.natAbs < B64)) with hb13 | hb13
        ·
          have phb13 := of_decide_eq_true hb13
          refine s_call ha hs (.tuple #[.int .u64 ((a.natAbs : Nat) : Int), .bool true]) (csmall (of_decide_eq_true hb13) _) fun ac wd ha hs => ?_
          refine s_val ha (.tuple #[.int .u64 ((a.natAbs : Nat) : Int), .bool true]) fun ac ha => ?_
          refine s_val ha (.int .u64 ((a.natAbs : Nat) : Int)) fun ac ha => ?_
          refine s_val ha (.bool true) fun ac ha => ?_
          refine s_val ha (.int .u64 ((a.natAbs : Nat) : Int)) fun ac ha => ?_
          refine s_val ha (.bool true) fun ac ha => ?_
          refine wpList_nil ((x_normal ?_))
          refine wp_seq ?_
          refine wp_region_lit ?_
          refine s_val ha (.bool true) fun ac ha => ?_
          refine wpList_nil ((x_normal ?_))
          refine r_true ha ?_
          refine wp_seq ?_
          refine wp_region_lit ?_
          refine s_load ha hs 2 (nV (b.natAbs % a.natAbs)) fun ac ha => ?_
          refine s_call ha hs (.tuple #[.int .u64 (((b.natAbs % a.natAbs) : Nat) : Int), .bool true]) (csmall (of_decide_eq_true (decide_eq_true (Nat.lt_trans (Nat.mod_lt _ (Nat.pos_of_ne_zero (of_decide_eq_false hb8))) (of_decide_eq_true hb13)))) _) fun ac wd ha hs => ?_
          refine s_val ha (.tuple #[.int .u64 (((b.natAbs % a.natAbs) : Nat) : Int), .bool true]) fun ac ha => ?_
          refine s_val ha (.int .u64 (((b.natAbs % a.natAbs) : Nat) : Int)) fun ac ha => ?_
          refine s_val ha (.bool true) fun ac ha => ?_
          refine s_val ha (.int .u64 (((b.natAbs % a.natAbs) : Nat) : Int)) fun ac ha => ?_
          refine s_val ha (.bool true) fun ac ha => ?_
          refine wpList_nil ((x_normal ?_))
          refine wp_seq ?_
          refine wp_block ?_
          refine loop_inv (α := Nat × Nat) (fun ⟨m0, n0⟩ ac wd => At ac _ [(0, zV a), (1, zV b), (4, .pointer (some ⟨g3, 0, none⟩)), (15, nV a.natAbs), (17, nV b.natAbs), (5, .pointer (some ⟨g5, 0, none⟩)), (6, .pointer (some ⟨g6, 0, none⟩)), (18, nV a.natAbs), (19, nV b.natAbs), (20, .int .i64 (-1)), (21, .bool true), (22, nV b.natAbs), (23, nV a.natAbs), (24, nV a.natAbs), (25, .int .i64 ((bl a.natAbs : Nat) : Int)), (26, .bool false), (29, nV b.natAbs), (30, nV a.natAbs), (31, .tuple #[nV (b.natAbs / a.natAbs), nV (b.natAbs % a.natAbs), .bool true]), (28, .tuple #[nV (b.natAbs / a.natAbs), nV (b.natAbs % a.natAbs), .bool true]), (32, nV (b.natAbs / a.natAbs)), (33, nV (b.natAbs % a.natAbs)), (34, .bool true), (7, .pointer (some ⟨g9, 0, none⟩)), (8, .pointer (some ⟨g10, 0, none⟩)), (35, nV a.natAbs), (36, nV (b.natAbs % a.natAbs)), (37, nV (b.natAbs % a.natAbs)), (38, .int .i64 ((bl (b.natAbs % a.natAbs) : Nat) : Int)), (39, .bool false), (42, nV a.natAbs), (43, .tuple #[.int .u64 ((a.natAbs : Nat) : Int), .bool true]), (41, .tuple #[.int .u64 ((a.natAbs : Nat) : Int), .bool true]), (44, .int .u64 ((a.natAbs : Nat) : Int)), (45, .bool true), (10, .int .u64 ((m0 : Nat) : Int)), (11, .bool true), (46, .bool true), (48, nV (b.natAbs % a.natAbs)), (49, .tuple #[.int .u64 (((b.natAbs % a.natAbs) : Nat) : Int), .bool true]), (47, .tuple #[.int .u64 (((b.natAbs % a.natAbs) : Nat) : Int), .bool true]), (50, .int .u64 (((b.natAbs % a.natAbs) : Nat) : Int)), (51, .bool true), (12, .int .u64 ((n0 : Nat) : Int))] ∧ St w wd [(g10, 30, [.int .u64 (lo (b.natAbs % a.natAbs) : Nat), .string (hi (b.natAbs % a.natAbs))]), (g9, 30, [.int .u64 (lo (b.natAbs / a.natAbs) : Nat), .string (hi (b.natAbs / a.natAbs))]), (g6, 30, [.int .u64 (lo (b.natAbs % a.natAbs) : Nat), .string (hi (b.natAbs % a.natAbs))]), (g5, 30, [.int .u64 (lo a.natAbs : Nat), .string (hi a.natAbs)]), (g3, 30, [.int .u64 0, .string (⟨#[]⟩)]), (g2, 32, [.bool (decide (b < 0)), .int .u64 (lo b.natAbs : Nat), .string (hi b.natAbs)]), (g1, 32, [.bool (decide (a < 0)), .int .u64 (lo a.natAbs : Nat), .string (hi a.natAbs)])] [] ∧ Nat.gcd m0 n0 = Nat.gcd a.natAbs (b.natAbs % a.natAbs) ∧ m0 < B64 ∧ n0 < B64) (fun ⟨m0, n0⟩ => n0) (a.natAbs, (b.natAbs % a.natAbs)) ⟨ha.sub _, hs.cast _, ⟨rfl, of_decide_eq_true hb13, of_decide_eq_true (decide_eq_true (Nat.lt_trans (Nat.mod_lt _ (Nat.pos_of_ne_zero (of_decide_eq_false hb8))) (of_decide_eq_true hb13)))⟩⟩ ?_
          rintro ⟨m0, n0⟩ ac wd ⟨ha, hs, hI⟩
          refine wp_seq ?_
          refine wp_seq ?_
          refine wp_region_lit ?_
          refine s_val ha (.int .u64 ((n0 : Nat) : Int)) fun ac ha => ?_
          rcases Bool.eq_false_or_eq_true (decide (((n0 : Nat) : Int) > 0)) with hb14 | hb14
          ·
            have phb14 := of_decide_eq_true hb14
            refine s_bool ha (b := decide (((n0 : Nat) : Int) > 0)) true hb14 fun ac ha => ?_
            refine wpList_nil ((x_normal ?_))
            refine r_true ha ?_
            refine wp_skip ((x_normal ?_))
            refine wp_block ?_
            refine region_sp ha 4 [.eq (.int .u64 ((n0 : Nat) : Int)), .eq (.int .u64 ((m0 : Nat) : Int)), .eq (.int .u64 ((n0 : Nat) : Int)), .eq (.int .u64 ((m0 % n0 : Nat) : Int))] [false, false, true, true] [] (fun _ hb => by cases hb)
              ⟨d_val, d_val, t_val, t_val (hr := fun _ _ => run_rem rfl rfl rfl (by omega)), trivial⟩ ?_
            intro vv wd1 ac hw hG hN ha
            have ha := ha.sub [(0, zV a), (1, zV b), (4, .pointer (some ⟨g3, 0, none⟩)), (15, nV a.natAbs), (17, nV b.natAbs), (5, .pointer (some ⟨g5, 0, none⟩)), (6, .pointer (some ⟨g6, 0, none⟩)), (18, nV a.natAbs), (19, nV b.natAbs), (20, .int .i64 (-1)), (21, .bool true), (22, nV b.natAbs), (23, nV a.natAbs), (24, nV a.natAbs), (25, .int .i64 ((bl a.natAbs : Nat) : Int)), (26, .bool false), (29, nV b.natAbs), (30, nV a.natAbs), (31, .tuple #[nV (b.natAbs / a.natAbs), nV (b.natAbs % a.natAbs), .bool true]), (28, .tuple #[nV (b.natAbs / a.natAbs), nV (b.natAbs % a.natAbs), .bool true]), (32, nV (b.natAbs / a.natAbs)), (33, nV (b.natAbs % a.natAbs)), (34, .bool true), (7, .pointer (some ⟨g9, 0, none⟩)), (8, .pointer (some ⟨g10, 0, none⟩)), (35, nV a.natAbs), (36, nV (b.natAbs % a.natAbs)), (37, nV (b.natAbs % a.natAbs)), (38, .int .i64 ((bl (b.natAbs % a.natAbs) : Nat) : Int)), (39, .bool false), (42, nV a.natAbs), (43, .tuple #[.int .u64 ((a.natAbs : Nat) : Int), .bool true]), (41, .tuple #[.int .u64 ((a.natAbs : Nat) : Int), .bool true]), (44, .int .u64 ((a.natAbs : Nat) : Int)), (45, .bool true), (10, .int .u64 ((m0 : Nat) : Int)), (11, .bool true), (46, .bool true), (48, nV (b.natAbs % a.natAbs)), (49, .tuple #[.int .u64 (((b.natAbs % a.natAbs) : Nat) : Int), .bool true]), (47, .tuple #[.int .u64 (((b.natAbs % a.natAbs) : Nat) : Int), .bool true]), (50, .int .u64 (((b.natAbs % a.natAbs) : Nat) : Int)), (51, .bool true), (12, .int .u64 ((n0 : Nat) : Int)), (52, .int .u64 ((n0 : Nat) : Int)), (53, .bool true), (54, .int .u64 ((n0 : Nat) : Int)), (57, .int .u64 ((m0 % n0 : Nat) : Int))]
            clear hG hN
            have hs := hs.go hw
            clear hw
            refine keeps_nil ?_
            show wpList _ _ _ _ _ _
            refine s_val ha (.int .u64 ((n0 : Nat) : Int)) fun ac ha => ?_
            refine s_val ha (.int .u64 ((m0 % n0 : Nat) : Int)) fun ac ha => ?_
            refine wpList_nil ((b_normal (x_normal ?_)))
            exact ⟨(n0, m0 % n0), ⟨ha.sub _, hs.cast _, ⟨(g_rec m0 n0).trans hI.1, hI.2.2, Nat.lt_trans (Nat.mod_lt _ (by omega)) hI.2.2⟩⟩, Nat.mod_lt _ (by omega)⟩
          ·
            have phb14 := of_decide_eq_false hb14
            refine s_bool ha (b := decide (((n0 : Nat) : Int) > 0)) false hb14 fun ac ha => ?_
            refine wpList_nil ((x_normal ?_))
            refine r_false ha ?_
            refine wp_exit (x_exit (x_exit (b_hit (x_normal ?_))))
            refine wp_seq ?_
            refine wp_region_lit ?_
            refine s_val ha (.int .u64 ((m0 : Nat) : Int)) fun ac ha => ?_
            refine s_call ha hs (nV m0) (cof m0 hI.2.1 _) fun ac wd ha hs => ?_
            refine s_store ha hs 4 _ fun ac wd ha hs => ?_
            refine wpList_nil ((x_normal ?_))
            refine wp_ret (x_ret (ret_at ha hs rfl [nV m0] ⟨⟨4, _, _, _, rfl, rfl, by kernel_rfl⟩, trivial⟩ ?_))
            exact ret_n ((((g_zero (x := m0) (y := n0) (by omega)).trans hI.1).trans (g_rec b.natAbs a.natAbs)).trans (Nat.gcd_comm _ _)) hs.ext
        ·
          have phb13 := of_decide_eq_false hb13
          refine s_call ha hs (.tuple #[.int .u64 0, .bool false]) (csmall_no (of_decide_eq_false hb13) _) fun ac wd ha hs => ?_
          refine s_val ha (.tuple #[.int .u64 0, .bool false]) fun ac ha => ?_
          refine s_val ha (.int .u64 0) fun ac ha => ?_
          refine s_val ha (.bool false) fun ac ha => ?_
          refine s_val ha (.int .u64 0) fun ac ha => ?_
          refine s_val ha (.bool false) fun ac ha => ?_
          refine wpList_nil ((x_normal ?_))
          refine wp_seq ?_
          refine wp_region_lit ?_
          refine s_val ha (.bool false) fun ac ha => ?_
          refine wpList_nil ((x_normal ?_))
          refine r_false ha ?_
          refine wp_skip ((x_normal ?_))
          refine wp_seq ?_
          refine wp_region_lit ?_
          refine s_load ha hs 3 (nV a.natAbs) fun ac ha => ?_
          refine s_load ha hs 2 (nV (b.natAbs % a.natAbs)) fun ac ha => ?_
          refine s_call ha hs (nV (Nat.gcd a.natAbs (b.natAbs % a.natAbs))) (cbinary ha0 (hb0.mod a.natAbs) (of_decide_eq_false hb8) (of_decide_eq_false hb12) _ (htab.ext hs.ext) (by omega)) fun ac wd ha hs => ?_
          refine s_store ha hs 4 _ fun ac wd ha hs => ?_
          refine wpList_nil ((x_normal ?_))
          refine wp_ret (ret_at ha hs rfl [nV (Nat.gcd a.natAbs (b.natAbs % a.natAbs))] ⟨⟨4, _, _, _, rfl, rfl, by kernel_rfl⟩, trivial⟩ ?_)
          exact ret_n ((g_rec b.natAbs a.natAbs).trans (Nat.gcd_comm _ _)) hs.ext
  ·
    have phb7 := of_decide_eq_false hb7
    refine s_call ha hs (.int .i64 (cmpN a.natAbs b.natAbs)) (ccmp ha0 hb0 _ (by omega)) fun ac wd ha hs => ?_
    refine s_bool ha (b := decide ((cmpN a.natAbs b.natAbs) < 0)) false (cmpN_nlt hb7) fun ac ha => ?_
    refine wpList_nil ((x_normal ?_))
    refine r_false ha ?_
    refine wp_skip ((x_normal ?_))
    refine wp_seq ?_
    refine wp_seq ?_
    refine wp_region_lit ?_
    refine s_load ha hs 0 (nV b.natAbs) fun ac ha => ?_
    rcases Bool.eq_false_or_eq_true (decide (b.natAbs = 0)) with hb16 | hb16
    ·
      have phb16 := of_decide_eq_true hb16
      refine s_call ha hs (.int .i64 0) (cbits_zero (of_decide_eq_true hb16) _) fun ac wd ha hs => ?_
      refine s_val ha (.bool true) fun ac ha => ?_
      refine wpList_nil ((x_normal ?_))
      refine r_true ha ?_
      refine wp_seq ?_
      refine wp_region_lit ?_
      refine s_load ha hs 1 (nV a.natAbs) fun ac ha => ?_
      refine s_store ha hs 2 _ fun ac wd ha hs => ?_
      refine wpList_nil ((x_normal ?_))
      refine wp_ret (x_ret (ret_at ha hs rfl [nV a.natAbs] ⟨⟨2, _, _, _, rfl, rfl, by kernel_rfl⟩, trivial⟩ ?_))
      exact ret_n (g_zero (of_decide_eq_true hb16)) hs.ext
    ·
      have phb16 := of_decide_eq_false hb16
      refine s_call ha hs (.int .i64 ((bl b.natAbs : Nat) : Int)) (cbits hb0 _ (by omega)) fun ac wd ha hs => ?_
      refine s_bool ha (b := (((bl b.natAbs : Nat) : Int) == 0)) false (bl_ne hb16) fun ac ha => ?_
      refine wpList_nil ((x_normal ?_))
      refine r_false ha ?_
      refine wp_skip ((x_normal ?_))
      refine wp_seq ?_
      refine wp_region_lit ?_
      refine s_load ha hs 1 (nV a.natAbs) fun ac ha => ?_
      refine s_load ha hs 0 (nV b.natAbs) fun ac ha => ?_
      refine s_call ha hs (.tuple #[nV (a.natAbs / b.natAbs), nV (a.natAbs % b.natAbs), .bool true]) (cdiv ha0 hb0 (of_decide_eq_false hb16) _ (by omega)) fun ac wd ha hs => ?_
      refine s_val ha (.tuple #[nV (a.natAbs / b.natAbs), nV (a.natAbs % b.natAbs), .bool true]) fun ac ha => ?_
      refine s_val ha (nV (a.natAbs / b.natAbs)) fun ac ha => ?_
      refine s_val ha (nV (a.natAbs % b.natAbs)) fun ac ha => ?_
      refine s_val ha (.bool true) fun ac ha => ?_
      refine s_alloc ha hs [.int .u64 0, .string (⟨#[]⟩)] fun g17 ac wd ha hs => ?_
      refine s_alloc ha hs [.int .u64 0, .string (⟨#[]⟩)] fun g18 ac wd ha hs => ?_
      refine s_store ha hs 1 _ fun ac wd ha hs => ?_
      refine s_store ha hs 0 _ fun ac wd ha hs => ?_
      refine s_val ha (.bool true) fun ac ha => ?_
      refine wpList_nil ((x_normal ?_))
      refine wp_seq ?_
      refine region_sp ha 2 [.eq (nV b.natAbs), .eq (nV (a.natAbs % b.natAbs))] [false, true] [(g18, 30, [.int .u64 (lo (a.natAbs % b.natAbs) : Nat), .string (hi (a.natAbs % b.natAbs))])] (hs.keeps _ [0])
        ⟨d_load hs 2, t_load 0, trivial⟩ ?_
      intro vv wd1 ac hw hG hN ha
      have ha := ha.sub [(0, zV a), (1, zV b), (4, .pointer (some ⟨g3, 0, none⟩)), (15, nV a.natAbs), (17, nV b.natAbs), (5, .pointer (some ⟨g5, 0, none⟩)), (6, .pointer (some ⟨g6, 0, none⟩)), (18, nV a.natAbs), (19, nV b.natAbs), (20, .int .i64 (cmpN a.natAbs b.natAbs)), (21, .bool false), (24, nV b.natAbs), (25, .int .i64 ((bl b.natAbs : Nat) : Int)), (26, .bool false), (29, nV a.natAbs), (30, nV b.natAbs), (31, .tuple #[nV (a.natAbs / b.natAbs), nV (a.natAbs % b.natAbs), .bool true]), (28, .tuple #[nV (a.natAbs / b.natAbs), nV (a.natAbs % b.natAbs), .bool true]), (32, nV (a.natAbs / b.natAbs)), (33, nV (a.natAbs % b.natAbs)), (34, .bool true), (7, .pointer (some ⟨g17, 0, none⟩)), (8, .pointer (some ⟨g18, 0, none⟩)), (35, nV b.natAbs), (36, nV (a.natAbs % b.natAbs))]
      clear hG hN
      have hs := hs.go hw
      clear hw
      show A4.wpListS _ _ _ _ _ _ _
      refine u_store ha hs [0] 3 _ fun ac wd ha hs => ?_
      refine u_store ha hs [0] 2 _ fun ac wd ha hs => ?_
      refine u_nil ((x_normal ?_))
      refine wp_seq ?_
      refine wp_seq ?_
      refine wp_region_lit ?_
      refine s_load ha hs 2 (nV (a.natAbs % b.natAbs)) fun ac ha => ?_
      rcases Bool.eq_false_or_eq_true (decide ((a.natAbs % b.natAbs) = 0)) with hb20 | hb20
      ·
        have phb20 := of_decide_eq_true hb20
        refine s_call ha hs (.int .i64 0) (cbits_zero (of_decide_eq_true hb20) _) fun ac wd ha hs => ?_
        refine s_val ha (.bool true) fun ac ha => ?_
        refine wpList_nil ((x_normal ?_))
        refine r_true ha ?_
        refine wp_seq ?_
        refine wp_region_lit ?_
        refine s_load ha hs 3 (nV b.natAbs) fun ac ha => ?_
        refine s_store ha hs 4 _ fun ac wd ha hs => ?_
        refine wpList_nil ((x_normal ?_))
        refine wp_ret (x_ret (ret_at ha hs rfl [nV b.natAbs] ⟨⟨4, _, _, _, rfl, rfl, by kernel_rfl⟩, trivial⟩ ?_))
        exact ret_n (g_mod (of_decide_eq_true hb20)) hs.ext
      ·
        have phb20 := of_decide_eq_false hb20
        refine s_call ha hs (.int .i64 ((bl (a.natAbs % b.natAbs) : Nat) : Int)) (cbits (ha0.mod b.natAbs) _ (by omega)) fun ac wd ha hs => ?_
        refine s_bool ha (b := (((bl (a.natAbs % b.natAbs) : Nat) : Int) == 0)) false (bl_ne hb20) fun ac ha => ?_
        refine wpList_nil ((x_normal ?_))
        refine r_false ha ?_
        refine wp_skip ((x_normal ?_))
        refine wp_seq ?_
        refine wp_seq ?_
        refine wp_region_lit ?_
        refine s_load ha hs 3 (nV b.natAbs) fun ac ha => ?_
        rcases Bool.eq_false_or_eq_true (decide (b.natAbs < B64)) with hb21 | hb21
        ·
          have phb21 := of_decide_eq_true hb21
          refine s_call ha hs (.tuple #[.int .u64 ((b.natAbs : Nat) : Int), .bool true]) (csmall (of_decide_eq_true hb21) _) fun ac wd ha hs => ?_
          refine s_val ha (.tuple #[.int .u64 ((b.natAbs : Nat) : Int), .bool true]) fun ac ha => ?_
          refine s_val ha (.int .u64 ((b.natAbs : Nat) : Int)) fun ac ha => ?_
          refine s_val ha (.bool true) fun ac ha => ?_
          refine s_val ha (.int .u64 ((b.natAbs : Nat) : Int)) fun ac ha => ?_
          refine s_val ha (.bool true) fun ac ha => ?_
          refine wpList_nil ((x_normal ?_))
          refine wp_seq ?_
          refine wp_region_lit ?_
          refine s_val ha (.bool true) fun ac ha => ?_
          refine wpList_nil ((x_normal ?_))
          refine r_true ha ?_
          refine wp_seq ?_
          refine wp_region_lit ?_
          refine s_load ha hs 2 (nV (a.natAbs % b.natAbs)) fun ac ha => ?_
          refine s_call ha hs (.tuple #[.int .u64 (((a.natAbs % b.natAbs) : Nat) : Int), .bool true]) (csmall (of_decide_eq_true (decide_eq_true (Nat.lt_trans (Nat.mod_lt _ (Nat.pos_of_ne_zero (of_decide_eq_false hb16))) (of_decide_eq_true hb21)))) _) fun ac wd ha hs => ?_
          refine s_val ha (.tuple #[.int .u64 (((a.natAbs % b.natAbs) : Nat) : Int), .bool true]) fun ac ha => ?_
          refine s_val ha (.int .u64 (((a.natAbs % b.natAbs) : Nat) : Int)) fun ac ha => ?_
          refine s_val ha (.bool true) fun ac ha => ?_
          refine s_val ha (.int .u64 (((a.natAbs % b.natAbs) : Nat) : Int)) fun ac ha => ?_
          refine s_val ha (.bool true) fun ac ha => ?_
          refine wpList_nil ((x_normal ?_))
          refine wp_seq ?_
          refine wp_block ?_
          refine loop_inv (α := Nat × Nat) (fun ⟨m0, n0⟩ ac wd => At ac _ [(0, zV a), (1, zV b), (4, .pointer (some ⟨g3, 0, none⟩)), (15, nV a.natAbs), (17, nV b.natAbs), (5, .pointer (some ⟨g5, 0, none⟩)), (6, .pointer (some ⟨g6, 0, none⟩)), (18, nV a.natAbs), (19, nV b.natAbs), (20, .int .i64 (cmpN a.natAbs b.natAbs)), (21, .bool false), (24, nV b.natAbs), (25, .int .i64 ((bl b.natAbs : Nat) : Int)), (26, .bool false), (29, nV a.natAbs), (30, nV b.natAbs), (31, .tuple #[nV (a.natAbs / b.natAbs), nV (a.natAbs % b.natAbs), .bool true]), (28, .tuple #[nV (a.natAbs / b.natAbs), nV (a.natAbs % b.natAbs), .bool true]), (32, nV (a.natAbs / b.natAbs)), (33, nV (a.natAbs % b.natAbs)), (34, .bool true), (7, .pointer (some ⟨g17, 0, none⟩)), (8, .pointer (some ⟨g18, 0, none⟩)), (35, nV b.natAbs), (36, nV (a.natAbs % b.natAbs)), (37, nV (a.natAbs % b.natAbs)), (38, .int .i64 ((bl (a.natAbs % b.natAbs) : Nat) : Int)), (39, .bool false), (42, nV b.natAbs), (43, .tuple #[.int .u64 ((b.natAbs : Nat) : Int), .bool true]), (41, .tuple #[.int .u64 ((b.natAbs : Nat) : Int), .bool true]), (44, .int .u64 ((b.natAbs : Nat) : Int)), (45, .bool true), (10, .int .u64 ((m0 : Nat) : Int)), (11, .bool true), (46, .bool true), (48, nV (a.natAbs % b.natAbs)), (49, .tuple #[.int .u64 (((a.natAbs % b.natAbs) : Nat) : Int), .bool true]), (47, .tuple #[.int .u64 (((a.natAbs % b.natAbs) : Nat) : Int), .bool true]), (50, .int .u64 (((a.natAbs % b.natAbs) : Nat) : Int)), (51, .bool true), (12, .int .u64 ((n0 : Nat) : Int))] ∧ St w wd [(g18, 30, [.int .u64 (lo (a.natAbs % b.natAbs) : Nat), .string (hi (a.natAbs % b.natAbs))]), (g17, 30, [.int .u64 (lo (a.natAbs / b.natAbs) : Nat), .string (hi (a.natAbs / b.natAbs))]), (g6, 30, [.int .u64 (lo (a.natAbs % b.natAbs) : Nat), .string (hi (a.natAbs % b.natAbs))]), (g5, 30, [.int .u64 (lo b.natAbs : Nat), .string (hi b.natAbs)]), (g3, 30, [.int .u64 0, .string (⟨#[]⟩)]), (g2, 32, [.bool (decide (b < 0)), .int .u64 (lo b.natAbs : Nat), .string (hi b.natAbs)]), (g1, 32, [.bool (decide (a < 0)), .int .u64 (lo a.natAbs : Nat), .string (hi a.natAbs)])] [] ∧ Nat.gcd m0 n0 = Nat.gcd b.natAbs (a.natAbs % b.natAbs) ∧ m0 < B64 ∧ n0 < B64) (fun ⟨m0, n0⟩ => n0) (b.natAbs, (a.natAbs % b.natAbs)) ⟨ha.sub _, hs.cast _, ⟨rfl, of_decide_eq_true hb21, of_decide_eq_true (decide_eq_true (Nat.lt_trans (Nat.mod_lt _ (Nat.pos_of_ne_zero (of_decide_eq_false hb16))) (of_decide_eq_true hb21)))⟩⟩ ?_
          rintro ⟨m0, n0⟩ ac wd ⟨ha, hs, hI⟩
          refine wp_seq ?_
          refine wp_seq ?_
          refine wp_region_lit ?_
          refine s_val ha (.int .u64 ((n0 : Nat) : Int)) fun ac ha => ?_
          rcases Bool.eq_false_or_eq_true (decide (((n0 : Nat) : Int) > 0)) with hb22 | hb22
          ·
            have phb22 := of_decide_eq_true hb22
            refine s_bool ha (b := decide (((n0 : Nat) : Int) > 0)) true hb22 fun ac ha => ?_
            refine wpList_nil ((x_normal ?_))
            refine r_true ha ?_
            refine wp_skip ((x_normal ?_))
            refine wp_block ?_
            refine region_sp ha 4 [.eq (.int .u64 ((n0 : Nat) : Int)), .eq (.int .u64 ((m0 : Nat) : Int)), .eq (.int .u64 ((n0 : Nat) : Int)), .eq (.int .u64 ((m0 % n0 : Nat) : Int))] [false, false, true, true] [] (fun _ hb => by cases hb)
              ⟨d_val, d_val, t_val, t_val (hr := fun _ _ => run_rem rfl rfl rfl (by omega)), trivial⟩ ?_
            intro vv wd1 ac hw hG hN ha
            have ha := ha.sub [(0, zV a), (1, zV b), (4, .pointer (some ⟨g3, 0, none⟩)), (15, nV a.natAbs), (17, nV b.natAbs), (5, .pointer (some ⟨g5, 0, none⟩)), (6, .pointer (some ⟨g6, 0, none⟩)), (18, nV a.natAbs), (19, nV b.natAbs), (20, .int .i64 (cmpN a.natAbs b.natAbs)), (21, .bool false), (24, nV b.natAbs), (25, .int .i64 ((bl b.natAbs : Nat) : Int)), (26, .bool false), (29, nV a.natAbs), (30, nV b.natAbs), (31, .tuple #[nV (a.natAbs / b.natAbs), nV (a.natAbs % b.natAbs), .bool true]), (28, .tuple #[nV (a.natAbs / b.natAbs), nV (a.natAbs % b.natAbs), .bool true]), (32, nV (a.natAbs / b.natAbs)), (33, nV (a.natAbs % b.natAbs)), (34, .bool true), (7, .pointer (some ⟨g17, 0, none⟩)), (8, .pointer (some ⟨g18, 0, none⟩)), (35, nV b.natAbs), (36, nV (a.natAbs % b.natAbs)), (37, nV (a.natAbs % b.natAbs)), (38, .int .i64 ((bl (a.natAbs % b.natAbs) : Nat) : Int)), (39, .bool false), (42, nV b.natAbs), (43, .tuple #[.int .u64 ((b.natAbs : Nat) : Int), .bool true]), (41, .tuple #[.int .u64 ((b.natAbs : Nat) : Int), .bool true]), (44, .int .u64 ((b.natAbs : Nat) : Int)), (45, .bool true), (10, .int .u64 ((m0 : Nat) : Int)), (11, .bool true), (46, .bool true), (48, nV (a.natAbs % b.natAbs)), (49, .tuple #[.int .u64 (((a.natAbs % b.natAbs) : Nat) : Int), .bool true]), (47, .tuple #[.int .u64 (((a.natAbs % b.natAbs) : Nat) : Int), .bool true]), (50, .int .u64 (((a.natAbs % b.natAbs) : Nat) : Int)), (51, .bool true), (12, .int .u64 ((n0 : Nat) : Int)), (52, .int .u64 ((n0 : Nat) : Int)), (53, .bool true), (54, .int .u64 ((n0 : Nat) : Int)), (57, .int .u64 ((m0 % n0 : Nat) : Int))]
            clear hG hN
            have hs := hs.go hw
            clear hw
            refine keeps_nil ?_
            show wpList _ _ _ _ _ _
            refine s_val ha (.int .u64 ((n0 : Nat) : Int)) fun ac ha => ?_
            refine s_val ha (.int .u64 ((m0 % n0 : Nat) : Int)) fun ac ha => ?_
            refine wpList_nil ((b_normal (x_normal ?_)))
            exact ⟨(n0, m0 % n0), ⟨ha.sub _, hs.cast _, ⟨(g_rec m0 n0).trans hI.1, hI.2.2, Nat.lt_trans (Nat.mod_lt _ (by omega)) hI.2.2⟩⟩, Nat.mod_lt _ (by omega)⟩
          ·
            have phb22 := of_decide_eq_false hb22
            refine s_bool ha (b := decide (((n0 : Nat) : Int) > 0)) false hb22 fun ac ha => ?_
            refine wpList_nil ((x_normal ?_))
            refine r_false ha ?_
            refine wp_exit (x_exit (x_exit (b_hit (x_normal ?_))))
            refine wp_seq ?_
            refine wp_region_lit ?_
            refine s_val ha (.int .u64 ((m0 : Nat) : Int)) fun ac ha => ?_
            refine s_call ha hs (nV m0) (cof m0 hI.2.1 _) fun ac wd ha hs => ?_
            refine s_store ha hs 4 _ fun ac wd ha hs => ?_
            refine wpList_nil ((x_normal ?_))
            refine wp_ret (x_ret (ret_at ha hs rfl [nV m0] ⟨⟨4, _, _, _, rfl, rfl, by kernel_rfl⟩, trivial⟩ ?_))
            exact ret_n (((g_zero (x := m0) (y := n0) (by omega)).trans hI.1).trans (g_rec a.natAbs b.natAbs)) hs.ext
        ·
          have phb21 := of_decide_eq_false hb21
          refine s_call ha hs (.tuple #[.int .u64 0, .bool false]) (csmall_no (of_decide_eq_false hb21) _) fun ac wd ha hs => ?_
          refine s_val ha (.tuple #[.int .u64 0, .bool false]) fun ac ha => ?_
          refine s_val ha (.int .u64 0) fun ac ha => ?_
          refine s_val ha (.bool false) fun ac ha => ?_
          refine s_val ha (.int .u64 0) fun ac ha => ?_
          refine s_val ha (.bool false) fun ac ha => ?_
          refine wpList_nil ((x_normal ?_))
          refine wp_seq ?_
          refine wp_region_lit ?_
          refine s_val ha (.bool false) fun ac ha => ?_
          refine wpList_nil ((x_normal ?_))
          refine r_false ha ?_
          refine wp_skip ((x_normal ?_))
          refine wp_seq ?_
          refine wp_region_lit ?_
          refine s_load ha hs 3 (nV b.natAbs) fun ac ha => ?_
          refine s_load ha hs 2 (nV (a.natAbs % b.natAbs)) fun ac ha => ?_
          refine s_call ha hs (nV (Nat.gcd b.natAbs (a.natAbs % b.natAbs))) (cbinary hb0 (ha0.mod b.natAbs) (of_decide_eq_false hb16) (of_decide_eq_false hb20) _ (htab.ext hs.ext) (by omega)) fun ac wd ha hs => ?_
          refine s_store ha hs 4 _ fun ac wd ha hs => ?_
          refine wpList_nil ((x_normal ?_))
          refine wp_ret (ret_at ha hs rfl [nV (Nat.gcd b.natAbs (a.natAbs % b.natAbs))] ⟨⟨4, _, _, _, rfl, rfl, by kernel_rfl⟩, trivial⟩ ?_)
          exact ret_n (g_rec a.natAbs b.natAbs) hs.ext
end Go.Proofs.YtiloialbglfplaaGreatDoor

namespace Go.Proofs.YtiloialbglfplaaGreatDoor
open Go.RowKit

/-! ### Sizes, and what the law asks -/
end Go.Proofs.YtiloialbglfplaaGreatDoor

namespace Go.Proofs.YtiloialbglfplaaGreatDoor
open Go.RowKit

theorem nl_zero : nl 0 = 0 := by unfold nl; rw [limbs_zero]; rfl
theorem nl_gt0 {x : Nat} {c : Bool} (h : decide (x = 0) = c) : decide (((nl x : Nat) : Int) > 0) = !c := by
  subst h
  have := nl_pos x
  by_cases h : x = 0
  · rw [decide_eq_true h]; subst h; rw [nl_zero]; rfl
  · rw [decide_eq_false h]; exact decide_eq_true (this.2 (by omega))
theorem ret_r32 {x y : Nat} {v : Value} {w w' : World} (h : x = y) (e : Ext w w') (hr : R32 x v w') : RetS (R32 y) w (.returned (pack [v])) w' := by subst h; exact ⟨_, rfl, hr, e⟩
def RI3 (x y z : Int) (v : Value) (w : World) : Prop := ∃ a b c, v = .tuple #[a, b, c] ∧ RI x a w ∧ RI y b w ∧ RI z c w
theorem RI3.ext {x y z : Int} {v : Value} {w w' : World} (h : RI3 x y z v w) (e : Ext w w') : RI3 x y z v w' := by
  obtain ⟨a, b, c, rfl, h1, h2, h3⟩ := h
  exact ⟨a, b, c, rfl, h1.ext e, h2.ext e, h3.ext e⟩
set_option maxHeartbeats 1000000 in
theorem refgcd {j k a b : Nat} (ha0 : Sm j a) (hb0 : Sm k b) {v1 v2 : Value} (w : World) (h1 : R32 a v1 w) (h2 : R32 b v2 w) (hk : max j k ≤ 100000000000) : Calls Tryz.prog 77 #[v1, v2] w (RetS (R32 (Nat.gcd a b)) w) := by
  obtain ⟨A1, c1, rfl⟩ := h1.form
  obtain ⟨A2, c2, rfl⟩ := h2.form
  have hs := St.start w
  have hs := hs.add32 h1 (by kernel_rfl)
  have hs := hs.add32 h2 (by kernel_rfl)
  refine enter Tryz.func77 rfl Tryz.ntmps77 (by kernel_rfl) fun ac ha => ?_
  refine wp_seq ?_
  refine wp_region_lit ?_
  refine s_val ha (.slice none 0 0) fun ac ha => ?_
  refine wpList_nil ((x_normal ?_))
  refine wp_seq ?_
  refine wp_block ?_
  refine loop_inv (α := Nat × Option Addr × Nat × Nat × Option Addr × Nat) (fun ⟨r0, Ar, cr, s0, As, cs⟩ ac wd => At ac _ [(0, .slice Ar (nl r0) cr), (1, .slice As (nl s0) cs), (4, .slice none 0 0)] ∧ St w wd [] [R32 r0 (.slice Ar (nl r0) cr), R32 s0 (.slice As (nl s0) cs)] ∧ Nat.gcd r0 s0 = Nat.gcd a b ∧ Sm (max j k) r0 ∧ Sm (max j k) s0) (fun ⟨r0, Ar, cr, s0, As, cs⟩ => s0) (a, A1, c1, b, A2, c2) ⟨ha.sub _, (hs.factsIx [1, 0] _).cast _, ⟨rfl, ha0.le (by omega), hb0.le (by omega)⟩⟩ ?_
  rintro ⟨r0, Ar, cr, s0, As, cs⟩ ac wd ⟨ha, hs, hI⟩
  refine wp_seq ?_
  refine wp_seq ?_
  refine wp_region_lit ?_
  refine s_val ha (.slice As (nl s0) cs) fun ac ha => ?_
  refine s_val ha (.int .i64 ((nl s0 : Nat) : Int)) fun ac ha => ?_
  rcases Bool.eq_false_or_eq_true (decide (s0 = 0)) with hb1 | hb1
  ·
    have phb1 := of_decide_eq_true hb1
    refine s_bool ha (b := decide (((nl s0 : Nat) : Int) > 0)) false (nl_gt0 hb1) fun ac ha => ?_
    refine wpList_nil ((x_normal ?_))
    refine r_false ha ?_
    refine wp_exit (x_exit (x_exit (b_hit (x_normal ?_))))
    refine wp_seq ?_
    refine wp_region_lit ?_
    refine s_val ha (.slice Ar (nl r0) cr) fun ac ha => ?_
    refine s_val ha (.slice Ar (nl r0) cr) fun ac ha => ?_
    refine wpList_nil ((x_normal ?_))
    refine wp_ret (ret_at ha hs rfl [.slice Ar (nl r0) cr] ⟨rfl, trivial⟩ ?_)
    exact ret_r32 ((g_zero phb1).trans hI.1) hs.ext (hs.get 0 rfl)
  ·
    have phb1 := of_decide_eq_false hb1
    refine s_bool ha (b := decide (((nl s0 : Nat) : Int) > 0)) true (nl_gt0 hb1) fun ac ha => ?_
    refine wpList_nil ((x_normal ?_))
    refine r_true ha ?_
    refine wp_skip ((x_normal ?_))
    refine wp_block ?_
    refine wp_seq ?_
    refine wp_region_lit ?_
    refine s_val ha (.slice Ar (nl r0) cr) fun ac ha => ?_
    refine s_val ha (.slice As (nl s0) cs) fun ac ha => ?_
    refine s_callP ha hs (crdiv2 hI.2.1 hI.2.2 (of_decide_eq_false hb1) _ (hs.get 0 rfl) (hs.get 1 rfl) (by omega)) fun u ac wd hp ha hs => ?_
    obtain ⟨x2, y2, rfl, p2, q2⟩ := hp
    obtain ⟨Ai3, ci3, rfl⟩ := p2.form
    have hs := hs.add32 p2 (by kernel_rfl)
    obtain ⟨Ai4, ci4, rfl⟩ := q2.form
    have hs := hs.add32 q2 (by kernel_rfl)
    refine s_val ha (.tuple #[.slice Ai3 (nl (r0 / s0)) ci3, .slice Ai4 (nl (r0 % s0)) ci4]) fun ac ha => ?_
    refine s_val ha (.slice Ai3 (nl (r0 / s0)) ci3) fun ac ha => ?_
    refine s_val ha (.slice Ai4 (nl (r0 % s0)) ci4) fun ac ha => ?_
    refine s_val ha (.slice Ai3 (nl (r0 / s0)) ci3) fun ac ha => ?_
    refine s_val ha (.slice Ai4 (nl (r0 % s0)) ci4) fun ac ha => ?_
    refine wpList_nil ((x_normal ?_))
    refine wp_seq ?_
    refine wp_region_lit ?_
    refine s_val ha (.slice As (nl s0) cs) fun ac ha => ?_
    refine s_val ha (.slice As (nl s0) cs) fun ac ha => ?_
    refine wpList_nil ((x_normal ?_))
    refine wp_region_lit ?_
    refine s_val ha (.slice Ai4 (nl (r0 % s0)) ci4) fun ac ha => ?_
    refine s_val ha (.slice Ai4 (nl (r0 % s0)) ci4) fun ac ha => ?_
    refine wpList_nil ((b_normal (x_normal ?_)))
    exact ⟨(s0, As, cs, r0 % s0, Ai4, ci4), ⟨ha.sub _, (hs.factsIx [3, 0] _).cast _, ⟨(g_rec r0 s0).trans hI.1, hI.2.2, hI.2.1.mod s0⟩⟩, Nat.mod_lt _ (Nat.pos_of_ne_zero phb1)⟩
  
end Go.Proofs.YtiloialbglfplaaGreatDoor

namespace Go.Proofs.YtiloialbglfplaaGreatDoor
open Go.ChangeShapes Go.WideShapes Go.ChangeAt Go.RowKit

theorem own : ownKnob Tryz.prog.godebug = none := by kernel_rfl
theorem laidOut : laidOutB Tryz.prog = true := by kernel_rfl

def layCells (cs : Array Value) : Obj → Obj
  | .cells _ t frozen => .cells cs t frozen
  | o => o
/-- A world for the witness: the settled one, each listed variable holding what its initialiser lays. -/
noncomputable def laidWorld (os : Os) : World :=
  { World.holding Tryz.prog os ⟨#[], #[], []⟩ with heap := (((World.holding Tryz.prog os ⟨#[], #[], []⟩).heap.modify 5 (layCells #[.int .u8 0, .int .u8 1, .int .u8 28, .int .u8 2, .int .u8 29, .int .u8 14, .int .u8 24, .int .u8 3, .int .u8 30, .int .u8 22, .int .u8 20, .int .u8 15, .int .u8 25, .int .u8 17, .int .u8 4, .int .u8 8, .int .u8 31, .int .u8 27, .int .u8 13, .int .u8 23, .int .u8 21, .int .u8 19, .int .u8 16, .int .u8 7, .int .u8 26, .int .u8 12, .int .u8 18, .int .u8 6, .int .u8 11, .int .u8 5, .int .u8 10, .int .u8 9])).modify 2 (layCells #[.int .u8 0, .int .u8 1, .int .u8 56, .int .u8 2, .int .u8 57, .int .u8 49, .int .u8 28, .int .u8 3, .int .u8 61, .int .u8 58, .int .u8 42, .int .u8 50, .int .u8 38, .int .u8 29, .int .u8 17, .int .u8 4, .int .u8 62, .int .u8 47, .int .u8 59, .int .u8 36, .int .u8 45, .int .u8 43, .int .u8 51, .int .u8 22, .int .u8 53, .int .u8 39, .int .u8 33, .int .u8 30, .int .u8 24, .int .u8 18, .int .u8 12, .int .u8 5, .int .u8 63, .int .u8 55, .int .u8 48, .int .u8 27, .int .u8 60, .int .u8 41, .int .u8 37, .int .u8 16, .int .u8 46, .int .u8 35, .int .u8 44, .int .u8 21, .int .u8 52, .int .u8 32, .int .u8 23, .int .u8 11, .int .u8 54, .int .u8 26, .int .u8 40, .int .u8 15, .int .u8 34, .int .u8 20, .int .u8 31, .int .u8 10, .int .u8 25, .int .u8 14, .int .u8 19, .int .u8 9, .int .u8 13, .int .u8 8, .int .u8 7, .int .u8 6])).modify 4 (layCells #[.int .u64 1, .int .u64 10, .int .u64 100, .int .u64 1000, .int .u64 10000, .int .u64 100000, .int .u64 1000000, .int .u64 10000000, .int .u64 100000000, .int .u64 1000000000, .int .u64 10000000000, .int .u64 100000000000, .int .u64 1000000000000, .int .u64 10000000000000, .int .u64 100000000000000, .int .u64 1000000000000000, .int .u64 10000000000000000, .int .u64 100000000000000000, .int .u64 1000000000000000000, .int .u64 10000000000000000000]) }

theorem trodAll_stays {H : Type} {enc : TypeId × Value → H} {P : Program} (hl : laidOutB P = true) {W W' : World} {sp : Nat → Bool} :
    ∀ {ts : List TypeId} {vs : List Value} {ds : List (DataW H)} {ps : List MemPlace}, (∀ t ∈ ts, P.readableRec t = true ∧ t < P.types.size) → DataW.TrodAll enc P W 0 (fun _ => true) true ts vs ds ps →
      (∀ p ∈ ps, W.sameAt W' p) → (∀ p ∈ ps, sp p.block = true) → DataW.TrodAll enc P W' 0 sp true ts vs ds ps
  | [], _, _, _, _, h, _, _ => by
    obtain ⟨rfl, rfl, rfl⟩ := trodAll_nil h
    exact h
  | t :: ts, _, _, _, hr, h, h1, h2 => by
    obtain ⟨v, vs1, d, ds1, a, b, rfl, rfl, rfl, k1, k2⟩ := trodAll_cons h
    exact ⟨a, b, WideElems.Trod_stays hl (hr t (by simp)).1 (hr t (by simp)).2 k1 (fun p hp => h1 p (by simp [hp])) (fun p hp => h2 p (by simp [hp])),
      trodAll_stays hl (fun t' ht => hr t' (by simp [ht])) k2 (fun p hp => h1 p (by simp [hp])) (fun p hp => h2 p (by simp [hp])), rfl⟩

set_option maxRecDepth 100000 in
/-- A law that returned true and left all that stood as it was. -/
theorem law_post {H : Type} {enc : TypeId × Value → H} {f : Func} {s : ChangeSpec} {apart fresh handsOn again : Bool} {W W' : World} {args : Array Value} {ds gs : List (DataW H)} {before : List MemPlace}
    (hv : s.vars = []) (hr : f.resultTypes = #[4]) (hp : ∀ t ∈ f.params.toList, Tryz.prog.readableRec t = true ∧ t < Tryz.prog.types.size)
    (hW : DataW.Whole enc Tryz.prog f.params.toList s.vars apart W args.toList ds gs before)
    (hs : (s.fn H (ds ++ gs)).results = [.lit (.bool true)] ∧ (s.fn H (ds ++ gs)).args = ds ∧ (s.fn H (ds ++ gs)).vars = []) (he : Ext W W') :
    s.post enc Tryz.prog f apart fresh handsOn again W args (.bool true) W' := by
  have hW' := hW
  obtain ⟨p, q, hA, hV, rfl, hz, hn⟩ := hW
  rw [hv] at hV
  obtain ⟨rfl, rfl⟩ := trodVars_none hV
  have hlt : ∀ x ∈ p, x.block < W.heap.size := fun x hx => hW'.lt x (by simp [hx])
  have hsm : ∀ x ∈ p, W.sameAt W' x := fun x hx => Below.same he (hlt x hx)
  have hres : ∀ (b : Nat) (sp : Nat → Bool) (hd : Bool), DataW.TrodAll enc Tryz.prog W' b sp hd f.resultTypes.toList ((Value.bool true).resultList f.resultTypes.size) (s.fn H (ds ++ [])).results [] := fun b sp hd => by
    rw [hs.1, hr]
    exact trodAll_mk1 (shut_bool Tryz.underlying4 _)
  have hargs : ∀ sp : Nat → Bool, (∀ x ∈ p, sp x.block = true) → DataW.TrodAll enc Tryz.prog W' 0 sp true f.params.toList args.toList (s.fn H (ds ++ [])).args p := fun sp h => by
    rw [hs.2.1]
    exact trodAll_stays laidOut hp hA hsm h
  have hvars : ∀ sp : Nat → Bool, DataW.TrodVars enc Tryz.prog W' sp s.vars (s.fn H (ds ++ [])).vars [] := fun sp => by
    simp only [hs.2.2, hv, DataW.TrodVars]
  refine ⟨ds, [], p ++ [], [], p, [], hW', hres _ _ _, hargs _ (fun x hx => by simpa using hlt x hx), hvars _, Below.frame he _, fun _ => ?_⟩
  have hok : Value.okWide Tryz.prog W' .any 0 4 (.bool true) := okWide_bool_mk Tryz.underlying4 _
  refine ⟨ok_one hr (show (Value.bool true).resultList 1 = [Value.bool true] from rfl) hok, _, _, ([] ++ p) ++ [], ⟨[] ++ p, [], trodAll_append (hargs _ (fun _ _ => rfl)) (hres _ _ _), hvars _, rfl, ?_, ?_⟩, ?_⟩
  · intro b off hb
    have hb' : (MemPlace.cell b off) ∈ p := by simpa using hb
    have := hlt _ hb'
    rw [Below.frozen he (show b < W.heap.size from this)]
    exact hz b off (by simpa using hb')
  · intro ha
    have := hn ha
    simpa using this
  · intro x hx _
    simpa using hx
end Go.Proofs.YtiloialbglfplaaGreatDoor

namespace Go.Proofs.YtiloialbglfplaaGreatDoor
open Go.RowKit

theorem tab64Name : Tryz.prog.globalNamed "math/bits.deBruijn64tab" = some 2 := by kernel_rfl
def tab64I : List Int := List.map (fun n : Nat => (n : Int)) Lib.deBruijn64tab
theorem tab64_of_is {w : World} (h : Lib.TabIs Tryz.prog w "math/bits.deBruijn64tab" .u8 tab64I) : Tab64 w := fun j hj => by
  rw [h.cell tab64Name j (by unfold tab64I; rw [List.length_map]; exact hj)]
  unfold tab64I
  simp [List.getD_eq_getElem?_getD, List.getElem?_map, List.getElem?_eq_getElem hj]
theorem tab64_head {W : World} {rest : List (String × DataW Unit)} {d : DataW Unit} (e : d = Lib.tabData .u8 tab64I) (h : laidMet Tryz.prog (("math/bits.deBruijn64tab", d) :: rest) W) : Tab64 W := by
  subst e
  exact tab64_of_is (Lib.tabIs_of_head tab64Name (by kernel_rfl) Tryz.underlying230 Tryz.underlying5 (by kernel_rfl) (by kernel_rfl) h)
end Go.Proofs.YtiloialbglfplaaGreatDoor

namespace Go.Proofs.YtiloialbglfplaaGreatDoor
open Go.ChangeShapes Go.WideShapes Go.ChangeAt Go.RowKit

end Go.Proofs.YtiloialbglfplaaGreatDoor

namespace Go.Proofs.YtiloialbglfplaaGreatDoor
open Go.RowKit

/-- What stands in the place of a denominator: 0 for 1. -/
def d1 (d : Nat) : Nat := if d = 1 then 0 else d
def qP (n : Int) (d : Nat) : Value := .agg #[.bool (decide (n < 0)), .int .u64 (lo n.natAbs : Nat), .string (hi n.natAbs), .int .u64 (lo (d1 d) : Nat), .string (hi (d1 d))]
/-- The value of a frac.Q. -/
def qV (q : Rat) : Value := .agg #[.bool (decide (q.num < 0)), .int .u64 (lo q.num.natAbs : Nat), .string (hi q.num.natAbs), .int .u64 (lo (d1 q.den) : Nat), .string (hi (d1 q.den))]
theorem qV_zero : qV 0 = .agg #[.bool false, .int .u64 0, .string ⟨#[]⟩, .int .u64 0, .string ⟨#[]⟩] := by
  have h1 : lo 0 = 0 := by unfold lo; simp
  have h2 : hi 0 = ⟨#[]⟩ := by unfold hi hiL; rw [Nat.zero_div, limbs_zero]; rfl
  have h3 : d1 (0 : Rat).den = 0 := rfl
  unfold qV
  rw [h3, show (0 : Rat).num.natAbs = 0 from rfl, h1, h2]
  rfl
/-- Numerator and denominator have at most k bits. -/
structure Sq (k : Nat) (q : Rat) : Prop where
  num : Sm k q.num.natAbs
  den : Sm k q.den
theorem Sq.le {j k : Nat} {q : Rat} (h : Sq j q) (hk : j ≤ k) : Sq k q := ⟨h.num.le hk, h.den.le hk⟩

theorem rat_eq {n : Int} {d : Nat} (hd : 0 < d) (hc : n.natAbs.gcd d = 1) {q : Rat} (h : n * q.den = q.num * d) : n = q.num ∧ d = q.den := by
  have e : (⟨n, d, by omega, hc⟩ : Rat) = q := Rat.eq_iff_mul_eq_mul.2 h
  rw [← e]
  exact ⟨rfl, rfl⟩
theorem qP_eq {n : Int} {d : Nat} (hd : 0 < d) (hc : n.natAbs.gcd d = 1) {q : Rat} (h : n * q.den = q.num * d) : qP n d = qV q := by
  obtain ⟨h1, h2⟩ := rat_eq hd hc h
  subst h1; subst h2; rfl
theorem sg_div {n : Int} {g : Nat} (hg : 0 < g) (h : g ∣ n.natAbs) : sg (decide (n < 0)) (n.natAbs / g) = n / (g : Int) := by
  obtain ⟨m, hm⟩ := Int.natAbs_dvd_natAbs.1 (show ((g : Nat) : Int).natAbs ∣ n.natAbs by simpa using h)
  subst hm
  rw [Int.mul_ediv_cancel_left _ (by omega), Int.natAbs_mul, Int.natAbs_natCast, Nat.mul_div_cancel_left _ hg]
  have e : decide ((g : Int) * m < 0) = decide (m < 0) := by
    refine decide_eq_decide.2 ?_
    constructor
    · intro h'
      rcases Int.lt_or_le m 0 with h0 | h0
      · exact h0
      · have := Int.mul_nonneg (show (0 : Int) ≤ g by omega) h0; omega
    · intro h'; exact Int.mul_neg_of_pos_of_neg (by omega) h'
  rw [e]
  exact sg_self m
theorem int_div_natAbs {n : Int} {g : Nat} (hg : 0 < g) (h : g ∣ n.natAbs) : (n / (g : Int)).natAbs = n.natAbs / g := by
  rw [← sg_div hg h, sg_abs]
theorem dvd_int {n : Int} {g : Nat} (h : g ∣ n.natAbs) : (g : Int) ∣ n := Int.natAbs_dvd_natAbs.1 (by simpa using h)
/-- In lowest terms. -/
theorem lowest_eq (n : Int) {d : Nat} (hd : 0 < d) : qP (n / ((n.natAbs.gcd d : Nat) : Int)) (d / n.natAbs.gcd d) = qV (mkRat n d) := by
  have h1 := Rat.num_mkRat n d
  have h2 := Rat.den_mkRat n d
  rw [if_neg (by omega), Nat.gcd_comm] at h1 h2
  rw [← h1, ← h2]
  rfl
/-! ### Sizes -/
theorem Sm.zdiv {k : Nat} {n : Int} (h : Sm k n.natAbs) {g : Nat} (hg : 0 < g) (hd : g ∣ n.natAbs) : Sm k (n / (g : Int)).natAbs := by
  rw [int_div_natAbs hg hd]; exact h.div g
theorem sq_mk {k : Nat} {n : Int} {d : Nat} (hd : 0 < d) (hn : Sm k n.natAbs) (hk : Sm k d) : Sq k (mkRat n d) := by
  have hg : 0 < d.gcd n.natAbs := Nat.gcd_pos_of_pos_left _ hd
  refine ⟨?_, ?_⟩
  · rw [Rat.num_mkRat, if_neg (by omega)]
    exact hn.zdiv hg (Nat.gcd_dvd_right _ _)
  · rw [Rat.den_mkRat, if_neg (by omega)]
    exact hk.div _
theorem Sq.add {j k : Nat} {x y : Rat} (hx : Sq j x) (hy : Sq k y) : Sq (j + k + 1) (x + y) := by
  rw [Rat.add_def']
  refine sq_mk (Nat.mul_pos x.den_pos y.den_pos) ?_ ((hx.den.mul hy.den).le (by omega))
  have h1 : Sm (j + k) (x.num * (y.den : Int)).natAbs := by rw [Int.natAbs_mul]; exact hx.num.mul hy.den
  have h2 : Sm (k + j) (y.num * (x.den : Int)).natAbs := by rw [Int.natAbs_mul]; exact hy.num.mul hx.den
  exact (h1.zadd h2).le (by omega)
theorem Sq.neg {k : Nat} {x : Rat} (hx : Sq k x) : Sq k (-x) := ⟨by rw [Rat.neg_num]; exact hx.num.zneg, hx.den⟩
theorem Sq.sub {j k : Nat} {x y : Rat} (hx : Sq j x) (hy : Sq k y) : Sq (j + k + 1) (x - y) := by
  rw [Rat.sub_eq_add_neg]; exact hx.add hy.neg
theorem Sq.mul {j k : Nat} {x y : Rat} (hx : Sq j x) (hy : Sq k y) : Sq (j + k) (x * y) := by
  rw [Rat.mul_def']
  refine sq_mk (Nat.mul_pos x.den_pos y.den_pos) ?_ (hx.den.mul hy.den)
  rw [Int.natAbs_mul]; exact hx.num.mul hy.num
theorem Sq.inv {k : Nat} {x : Rat} (hx : Sq k x) (h0 : x ≠ 0) : Sq k x⁻¹ := by
  have hn : x.num ≠ 0 := fun e => h0 (Rat.num_eq_zero.1 e)
  refine ⟨?_, by rw [Rat.den_inv, if_neg hn]; exact hx.num⟩
  rw [Rat.num_inv, Int.natAbs_mul, Int.natAbs_natCast]
  have : x.num.sign.natAbs = 1 := by
    rcases Int.lt_or_gt_of_ne hn with h | h
    · rw [Int.sign_eq_neg_one_of_neg h]; rfl
    · rw [Int.sign_eq_one_of_pos h]; rfl
  rw [this, Nat.one_mul]
  exact hx.den
theorem Sq.div {j k : Nat} {x y : Rat} (hx : Sq j x) (hy : Sq k y) (h0 : y ≠ 0) : Sq (j + k) (x / y) := by
  rw [Rat.div_def]; exact hx.mul (hy.inv h0)
theorem Sq.zero (k : Nat) (hk : 1 ≤ k) : Sq k 0 := ⟨(Sm.zero k), Sm.one.le hk⟩
theorem Sq.int {k : Nat} {n : Int} (h : Sm k n.natAbs) (hk : 1 ≤ k) : Sq k (n : Rat) := ⟨by rw [Rat.num_intCast]; exact h, by rw [Rat.den_intCast]; exact Sm.one.le hk⟩

/-! ### Sums and products in lowest terms -/
theorem add_whole {x y : Rat} (hx : x.den = 1) (hy : y.den = 1) : (x + y).num = x.num + y.num ∧ (x + y).den = 1 := by
  have e : (⟨x.num + y.num, 1, by omega, by simp⟩ : Rat) = x + y := by
    rw [Rat.add_def', hx, hy, Rat.mk_eq_mkRat]
    simp
  rw [← e]
  exact ⟨rfl, rfl⟩
theorem mul_whole {x y : Rat} (hx : x.den = 1) (hy : y.den = 1) : (x * y).num = x.num * y.num ∧ (x * y).den = 1 := by
  have e : (⟨x.num * y.num, 1, by omega, by simp⟩ : Rat) = x * y := by
    rw [Rat.mul_def', hx, hy, Rat.mk_eq_mkRat]
  rw [← e]
  exact ⟨rfl, rfl⟩
/-- The sum, as Add makes it. -/
theorem add_eq (x y : Rat) {g a b h : Nat} {u : Int} (hg : g = x.den.gcd y.den) (ha : a = x.den / g) (hb : b = y.den / g) (hu : u = x.num * b + y.num * a) (hh : h = u.natAbs.gcd g) :
    qP (u / (h : Int)) (a * (y.den / h)) = qV (x + y) := by
  have haux := Rat.add.aux x y hg ha hb
  simp only at haux
  rw [← hu, ← hh] at haux
  have hgp : 0 < g := by rw [hg]; exact Nat.gcd_pos_of_pos_left _ x.den_pos
  have hgy : g ∣ y.den := by rw [hg]; exact Nat.gcd_dvd_right _ _
  have hgx : g ∣ x.den := by rw [hg]; exact Nat.gcd_dvd_left _ _
  have hhg : h ∣ g := by rw [hh]; exact Nat.gcd_dvd_right _ _
  have ex : x.den = g * a := by rw [ha]; exact (Nat.mul_div_cancel' hgx).symm
  have ey : y.den = g * b := by rw [hb]; exact (Nat.mul_div_cancel' hgy).symm
  have hap : 0 < a := Nat.pos_of_ne_zero fun e => by have := x.den_pos; rw [ex, e] at this; simp at this
  have e1 : a * (y.den / h) = a * y.den / h := (Nat.mul_div_assoc _ (Nat.dvd_trans hhg hgy)).symm
  rw [e1, haux]
  rw [lowest_eq u (Nat.mul_pos hap y.den_pos)]
  congr 1
  rw [Rat.add_def', ← Rat.mkRat_mul_left (a := g) (by omega)]
  congr 1
  · rw [hu, ex, ey]
    push_cast
    grind
  · rw [ex]; rw [Nat.mul_assoc]
/-- The product, as Mul makes it. -/
theorem mul_eq (x y : Rat) {g h : Nat} (hg : g = x.num.natAbs.gcd y.den) (hh : h = y.num.natAbs.gcd x.den) :
    qP (x.num / (g : Int) * (y.num / (h : Int))) (x.den / h * (y.den / g)) = qV (x * y) := by
  have hgp : 0 < g := by rw [hg]; exact Nat.gcd_pos_of_pos_right _ y.den_pos
  have hhp : 0 < h := by rw [hh]; exact Nat.gcd_pos_of_pos_right _ x.den_pos
  have gx : g ∣ x.num.natAbs := by rw [hg]; exact Nat.gcd_dvd_left _ _
  have gy : g ∣ y.den := by rw [hg]; exact Nat.gcd_dvd_right _ _
  have hy : h ∣ y.num.natAbs := by rw [hh]; exact Nat.gcd_dvd_left _ _
  have hx : h ∣ x.den := by rw [hh]; exact Nat.gcd_dvd_right _ _
  have c1 : Nat.Coprime (x.num.natAbs / g) (y.den / g) := by rw [hg]; exact Nat.coprime_div_gcd_div_gcd (by rw [← hg]; exact hgp)
  have c2 : Nat.Coprime (y.num.natAbs / h) (x.den / h) := by rw [hh]; exact Nat.coprime_div_gcd_div_gcd (by rw [← hh]; exact hhp)
  have c3 : Nat.Coprime (x.num.natAbs / g) (x.den / h) := Nat.Coprime.coprime_div_left (Nat.Coprime.coprime_div_right x.reduced hx) gx
  have c4 : Nat.Coprime (y.num.natAbs / h) (y.den / g) := Nat.Coprime.coprime_div_left (Nat.Coprime.coprime_div_right y.reduced gy) hy
  refine qP_eq ?_ ?_ ?_
  · exact Nat.mul_pos (Nat.div_pos (Nat.le_of_dvd x.den_pos hx) hhp) (Nat.div_pos (Nat.le_of_dvd y.den_pos gy) hgp)
  · rw [Int.natAbs_mul, int_div_natAbs hgp gx, int_div_natAbs hhp hy]
    exact Nat.Coprime.mul_left (Nat.Coprime.mul_right c3 c1) (Nat.Coprime.mul_right c2 c4)
  · have e1 : (x * y).num * ((x.den : Int) * y.den) = x.num * y.num * (x * y).den := by
      have h := (Rat.eq_iff_mul_eq_mul (p := x * y) (q := x * y)).1 rfl
      have h1 := Rat.mul_def' x y
      have h2 : x * y = mkRat (x.num * y.num) (x.den * y.den) := h1
      have h3 : mkRat (x * y).num (x * y).den = mkRat (x.num * y.num) (x.den * y.den) := by rw [Rat.mkRat_self]; exact h2
      have h4 := (Rat.mkRat_eq_iff (x * y).den_nz (Nat.mul_ne_zero x.den_nz y.den_nz)).1 h3
      rw [Int.natCast_mul] at h4
      exact h4
    obtain ⟨a, ha⟩ := dvd_int gx
    obtain ⟨b, hb⟩ := dvd_int hy
    obtain ⟨c, hc⟩ := hx
    obtain ⟨d, hd⟩ := gy
    rw [ha, hb, hc, hd, Int.mul_ediv_cancel_left _ (by omega), Int.mul_ediv_cancel_left _ (by omega), Nat.mul_div_cancel_left _ hhp, Nat.mul_div_cancel_left _ hgp]
    rw [ha, hb, hc, hd] at e1
    push_cast at e1 ⊢
    have hgi : (g : Int) ≠ 0 := by omega
    have hhi : (h : Int) ≠ 0 := by omega
    refine Int.eq_of_mul_eq_mul_left (Int.mul_ne_zero hgi hhi) ?_
    grind
/-- How two fractions lie. -/
def cmpQ (x y : Rat) : Int := if x < y then -1 else if x = y then 0 else 1
theorem cmpQ_int {x y : Rat} (hx : x.den = 1) (hy : y.den = 1) : cmpZ x.num y.num = cmpQ x y := by
  unfold cmpZ cmpQ
  have e1 : (x < y) ↔ x.num < y.num := by rw [Rat.lt_iff, hx, hy]; simp
  have e2 : (x = y) ↔ x.num = y.num := by rw [Rat.eq_iff_mul_eq_mul, hx, hy]; simp
  simp only [e1, e2]
theorem cmpQ_cross (x y : Rat) : cmpZ (x.num * (y.den : Int)) (y.num * (x.den : Int)) = cmpQ x y := by
  unfold cmpZ cmpQ
  simp only [Rat.lt_iff, Rat.eq_iff_mul_eq_mul]
theorem cmpQ_sign {x y : Rat} (h : x.num.sign ≠ y.num.sign) : cmpZ x.num y.num = cmpQ x y := by
  rw [← cmpQ_cross]
  have hx := x.den_pos
  have hy := y.den_pos
  have h1 : (0 : Int) < x.den := by omega
  have h2 : (0 : Int) < y.den := by omega
  generalize (x.den : Int) = c at *
  generalize (y.den : Int) = d at *
  generalize x.num = a at *
  generalize y.num = b at *
  have ka := Int.sign_mul a d
  have kb := Int.sign_mul b c
  rw [Int.sign_eq_one_of_pos h2, Int.mul_one] at ka
  rw [Int.sign_eq_one_of_pos h1, Int.mul_one] at kb
  have key : ∀ p q : Int, p.sign ≠ q.sign → cmpZ p q = if p.sign < q.sign then -1 else 1 := by
    intro p q hpq
    unfold cmpZ
    rcases Int.lt_trichotomy p 0 with h' | h' | h' <;> rcases Int.lt_trichotomy q 0 with k' | k' | k' <;>
      first
        | (rw [Int.sign_eq_neg_one_of_neg h', Int.sign_eq_neg_one_of_neg k'] at hpq; exact absurd rfl hpq)
        | (rw [Int.sign_eq_one_of_pos h', Int.sign_eq_one_of_pos k'] at hpq; exact absurd rfl hpq)
        | (subst h'; subst k'; exact absurd rfl hpq)
        | (rw [Int.sign_eq_neg_one_of_neg h', Int.sign_eq_one_of_pos k']; rw [if_pos (by omega), if_pos (by omega)])
        | (rw [Int.sign_eq_one_of_pos h', Int.sign_eq_neg_one_of_neg k']; rw [if_neg (by omega), if_neg (by omega), if_neg (by omega)])
        | (subst k'; rw [Int.sign_eq_neg_one_of_neg h', Int.sign_zero]; rw [if_pos (by omega), if_pos (by omega)])
        | (subst k'; rw [Int.sign_eq_one_of_pos h', Int.sign_zero]; rw [if_neg (by omega), if_neg (by omega), if_neg (by omega)])
        | (subst h'; rw [Int.sign_eq_neg_one_of_neg k', Int.sign_zero]; rw [if_neg (by omega), if_neg (by omega), if_neg (by omega)])
        | (subst h'; rw [Int.sign_eq_one_of_pos k', Int.sign_zero]; rw [if_pos (by omega), if_pos (by omega)])
  rw [key a b h, key _ _ (by rw [ka, kb]; exact h), ka, kb]
end Go.Proofs.YtiloialbglfplaaGreatDoor
