/- The law NatQuotients: its walk. The law NatQuotients holds: for all two slices of bytes and every int the call returns true (the package variables that the row lists start as the program text lays them). -/
import Derived.Test.YtcfpjgcellahnaaDoorCards
import Derived.Test.YtcfpjgcellahnaaDoorM7
namespace Go.Proofs.YtcfpjgcellahnaaDoor
open Go.RowKit

/-- b[:k] of a slice of bytes. -/
theorem SlB.cut {l : List UInt8} {A : Option Addr} {c : Nat} {w : World} (h : SlB l (.slice A l.length c) w) (k : Nat) (hk : k ≤ l.length) : SlB (l.take k) (.slice A k c) w := by
  obtain ⟨A', c', hv, hc, ⟨hcm, hA⟩, hh⟩ := h
  injection hv with e1 _ e3
  subst e1
  subst e3
  have hl : (l.take k).length = k := by rw [List.length_take, Nat.min_eq_left hk]
  refine ⟨A, c, by rw [hl], by rw [hl]; omega, ⟨hcm, hA⟩, fun hne => ?_⟩
  have hk0 : 0 < k := by
    rcases Nat.eq_zero_or_pos k with h0 | h0
    · subst h0; simp at hne
    · exact h0
  obtain ⟨g, off, rfl, hg, hcell⟩ := hh (fun e => by rw [e] at hk; simp at hk; omega)
  refine ⟨g, off, rfl, hg, fun i hi => ?_⟩
  rw [hcell i (by rw [hl] at hi; omega), List.getElem_take]


set_option maxRecDepth 100000 in
set_option maxHeartbeats 4000000 in
theorem natQuot_zero (l0 : List UInt8) (v0 : Value) (l1 : List UInt8) (A : Option Addr) (c k : Nat) (n : Int) (w : World) (s0 : SlB l0 v0 w) (s1 : SlB l1 (.slice A l1.length c) w) (hk : k ≤ l1.length)
    (hpk : ∀ w, Calls Tryd.prog 25 #[.int .i64 n, .int .i64 (wrap64 ((l1.length : Int) + 1))] w fun e w' => e = .returned (.int .i64 k) ∧ w = w') (hy0 : beN ((l1.take k).take 48) = 0) :
    Calls Tryd.prog 4 #[v0, .slice A l1.length c, .int .i64 n] w (Ret (.bool true) w) := by
  have HT1 : Hid (∀ W, SlB l0 v0 W → SlB l1 (.slice A l1.length c) W → Calls Tryd.prog 24 #[v0, .slice A k c] W (TwoPost (beN (l0.take 48)) (beN ((l1.take k).take 48)) W)) := Lib.hid (fun W h h' => two_any l0 (l1.take k) v0 _ W h (h'.cut k hk))
  have hc : l1.length ≤ c ∧ (A = none → c = 0) := by
    obtain ⟨A', c', hv, hc, ⟨_, hA⟩, _⟩ := s1
    injection hv with e1 _ e3
    subst e1
    subst e3
    exact ⟨hc, hA⟩
  have HP := Lib.hid hpk
  have HS0 := Lib.hid s0
  have HS1 := Lib.hid s1
  have BX := Sm.take l0
  have BY := Sm.take (l1.take k)
  have HK := Lib.hid known_any
  obtain ⟨hc1, hc2⟩ := hc
  have HC2 := Lib.hid hc2
  clear s0 s1 hpk hc2
  generalize beN (l0.take 48) = x at *
  generalize beN ((l1.take k).take 48) = y at *
  generalize l1.length = len at *
  subst hy0
  have HB0 : Hid (∀ W, Calls Tryd.prog 27 #[.agg #[.int .u64 (lo (0) : Nat), .string (hi (0))]] W (Ret (.int .i64 0) W)) := Lib.hid (fun W => by have h := cbits (Sm.zero 1) W; rw [bl_zero] at h; exact h)
  have HSU := Lib.hid (fun W => div_zero x W)
  have hkc : k ≤ c := by omega
  rcases A with _ | ad
  case' none =>
    obtain rfl : c = 0 := HC2.out rfl
    obtain rfl : len = 0 := by omega
    obtain rfl : k = 0 := by omega
    have hp1' : ∀ w, Calls Tryd.prog 25 #[.int .i64 n, .int .i64 1] w fun e w' => e = .returned (.int .i64 0) ∧ w = w' := fun w => by
      have h := HP.out w
      rw [show wrap64 (((0 : Nat) : Int) + 1) = 1 from by unfold wrap64; omega] at h
      simpa using h
    clear HP
    have HP := Lib.hid hp1'
    clear hp1'
  all_goals
    clear hc1 HC2
    go_enter Tryd.func4, Tryd.ntmps4
    go_wp2_with fail
    refine (HP.out _).mono ?_
    rintro e w1 ⟨rfl, rfl⟩
    go_wp2_with fail
    refine (HT1.out _ HS0.out HS1.out).mono ?_
    rintro e w2 ⟨p1, q1, rfl, hp1, hq1, hx1⟩
    obtain ⟨Aq, cq, rfl, hcq, hhq⟩ := hq1
    have HQ1 : Hid (R32 0 (.slice Aq (limbs B32 0).length cq) w2) := Lib.hid ⟨Aq, cq, rfl, hcq, hhq⟩
    have HP1 := Lib.hid hp1
    have E1 := Lib.hid hx1
    clear hp1 hx1 hcq hhq
    rw [limbs_zero]
    go_wp2_with fail
    generalize hW : (w2.alloc (.cells #[.int .u64 (lo x : Nat), .string (hi x)] 24)).alloc (.cells #[.int .u64 (lo 0 : Nat), .string (hi 0)] 24) = W1
    obtain ⟨hbx, hby, hex⟩ := boxes2' w2 W1 _ _ _ _ hW
    have EW := Lib.hid (E1.out.trans hex)
    clear hW hbx hby hex
    refine (HSU.out _).mono ?_
    rintro e w3 ⟨rfl, hx3⟩
    have EW3 := Lib.hid (EW.out.trans hx3)
    clear hx3
    go_wp2_with fail
    generalize hW : (w3.alloc (.cells #[.int .u64 (lo 0 : Nat), .string (hi 0)] 24)).alloc (.cells #[.int .u64 (lo 0 : Nat), .string (hi 0)] 24) = W2
    obtain ⟨hbm, hbr, hex⟩ := boxes2' w3 W2 _ _ _ _ hW
    have HBM := Lib.hid hbm
    have HBR := Lib.hid hbr
    have E3 := Lib.hid (EW3.out.trans hex)
    clear hW hbm hbr hex
    have Xy0 := Lib.hid (Ext.refl W2)
    have k00 := (HBM.out.ext Xy0.out).cell 0
    have k01 := (HBM.out.ext Xy0.out).cell 1
    simp only [List.getElem?_cons_zero, List.getElem?_cons_succ] at k00 k01
    have k10 := (HBR.out.ext Xy0.out).cell 0
    have k11 := (HBR.out.ext Xy0.out).cell 1
    simp only [List.getElem?_cons_zero, List.getElem?_cons_succ] at k10 k11
    go_wp2_with fail
    refine (HK.out _).mono ?_
    rintro e y1 ⟨rfl, hx⟩
    have Xy1 := Lib.hid (Xy0.out.trans hx)
    clear hx k00 k01 k10 k11
    have k00 := (HBM.out.ext Xy1.out).cell 0
    have k01 := (HBM.out.ext Xy1.out).cell 1
    simp only [List.getElem?_cons_zero, List.getElem?_cons_succ] at k00 k01
    have k10 := (HBR.out.ext Xy1.out).cell 0
    have k11 := (HBR.out.ext Xy1.out).cell 1
    simp only [List.getElem?_cons_zero, List.getElem?_cons_succ] at k10 k11
    go_wp2_with fail
    refine (HB0.out _).mono ?_
    rintro e y2 ⟨rfl, hx⟩
    have Xy2 := Lib.hid (Xy1.out.trans hx)
    clear hx k00 k01 k10 k11
    have k00 := (HBM.out.ext Xy2.out).cell 0
    have k01 := (HBM.out.ext Xy2.out).cell 1
    simp only [List.getElem?_cons_zero, List.getElem?_cons_succ] at k00 k01
    have k10 := (HBR.out.ext Xy2.out).cell 0
    have k11 := (HBR.out.ext Xy2.out).cell 1
    simp only [List.getElem?_cons_zero, List.getElem?_cons_succ] at k10 k11
    go_wp2_with fail
    refine (HB0.out _).mono ?_
    rintro e y3 ⟨rfl, hx⟩
    have Xy3 := Lib.hid (Xy2.out.trans hx)
    clear hx k00 k01 k10 k11
    go_wp2
    go_ret
    exact ⟨rfl, E3.out.trans Xy3.out⟩

set_option maxRecDepth 100000 in
set_option maxHeartbeats 4000000 in
theorem natQuot_pos (l0 : List UInt8) (v0 : Value) (l1 : List UInt8) (A : Option Addr) (c k : Nat) (n : Int) (w : World) (s0 : SlB l0 v0 w) (s1 : SlB l1 (.slice A l1.length c) w) (hk : k ≤ l1.length)
    (hpk : ∀ w, Calls Tryd.prog 25 #[.int .i64 n, .int .i64 (wrap64 ((l1.length : Int) + 1))] w fun e w' => e = .returned (.int .i64 k) ∧ w = w') (hy0 : beN ((l1.take k).take 48) ≠ 0) :
    Calls Tryd.prog 4 #[v0, .slice A l1.length c, .int .i64 n] w (Ret (.bool true) w) := by
  have HT1 : Hid (∀ W, SlB l0 v0 W → SlB l1 (.slice A l1.length c) W → Calls Tryd.prog 24 #[v0, .slice A k c] W (TwoPost (beN (l0.take 48)) (beN ((l1.take k).take 48)) W)) := Lib.hid (fun W h h' => two_any l0 (l1.take k) v0 _ W h (h'.cut k hk))
  have hc : l1.length ≤ c ∧ (A = none → c = 0) := by
    obtain ⟨A', c', hv, hc, ⟨_, hA⟩, _⟩ := s1
    injection hv with e1 _ e3
    subst e1
    subst e3
    exact ⟨hc, hA⟩
  have HP := Lib.hid hpk
  have HS0 := Lib.hid s0
  have HS1 := Lib.hid s1
  have BX := Sm.take l0
  have BY := Sm.take (l1.take k)
  have HK := Lib.hid known_any
  obtain ⟨hc1, hc2⟩ := hc
  have HC2 := Lib.hid hc2
  clear s0 s1 hpk hc2
  generalize beN (l0.take 48) = x at *
  generalize beN ((l1.take k).take 48) = y at *
  generalize l1.length = len at *
  have HSU := Lib.hid (fun W => cdiv BX BY hy0 W)
  have HRD : Hid (∀ W p q, R32 x p W → R32 y q W → Calls Tryd.prog 28 #[p, q] W (DivPost (x / y) (x % y) W)) := Lib.hid (fun W p q h1 h2 => refDiv_any x y p q W h1 h2 (by have : bl x ≤ 384 := BX; omega) (by have : bl y ≤ 384 := BY; omega) hy0)
  have BM := BX.div y
  have BR := BX.mod y
  have hlz : (((limbs B32 y).length : Int) == 0) = false := beq_eq_false_iff_ne.2 (by have := limbs_length_pos B32_two hy0; omega)
  generalize x / y = mm at *
  generalize x % y = rr at *
  clear hy0
  have hkc : k ≤ c := by omega
  rcases A with _ | ad
  case' none =>
    obtain rfl : c = 0 := HC2.out rfl
    obtain rfl : len = 0 := by omega
    obtain rfl : k = 0 := by omega
    have hp1' : ∀ w, Calls Tryd.prog 25 #[.int .i64 n, .int .i64 1] w fun e w' => e = .returned (.int .i64 0) ∧ w = w' := fun w => by
      have h := HP.out w
      rw [show wrap64 (((0 : Nat) : Int) + 1) = 1 from by unfold wrap64; omega] at h
      simpa using h
    clear HP
    have HP := Lib.hid hp1'
    clear hp1'
  all_goals
    clear hc1 HC2
    go_enter Tryd.func4, Tryd.ntmps4
    go_wp2_with fail
    refine (HP.out _).mono ?_
    rintro e w1 ⟨rfl, rfl⟩
    go_wp2_with fail
    refine (HT1.out _ HS0.out HS1.out).mono ?_
    rintro e w2 ⟨p1, q1, rfl, hp1, hq1, hx1⟩
    obtain ⟨Aq, cq, rfl, hcq, hhq⟩ := hq1
    have HQ1 : Hid (R32 y (.slice Aq (limbs B32 y).length cq) w2) := Lib.hid ⟨Aq, cq, rfl, hcq, hhq⟩
    have HP1 := Lib.hid hp1
    have E1 := Lib.hid hx1
    clear hp1 hx1 hcq hhq
    go_wp2_with fail
    generalize hW : (w2.alloc (.cells #[.int .u64 (lo x : Nat), .string (hi x)] 24)).alloc (.cells #[.int .u64 (lo y : Nat), .string (hi y)] 24) = W1
    obtain ⟨hbx, hby, hex⟩ := boxes2' w2 W1 _ _ _ _ hW
    have EW := Lib.hid (E1.out.trans hex)
    have HQ2 := Lib.hid (HQ1.out.ext hex)
    have HP2 := Lib.hid (HP1.out.ext hex)
    clear hW hbx hby hex
    refine (HSU.out _).mono ?_
    rintro e w3 ⟨rfl, hx3⟩
    have EW3 := Lib.hid (EW.out.trans hx3)
    have HQ3 := Lib.hid (HQ2.out.ext hx3)
    have HP3 := Lib.hid (HP2.out.ext hx3)
    clear hx3
    generalize (limbs B32 y).length = ly at *
    go_wp2_with fail
    generalize hW : (w3.alloc (.cells #[.int .u64 (lo mm : Nat), .string (hi mm)] 24)).alloc (.cells #[.int .u64 (lo rr : Nat), .string (hi rr)] 24) = W2
    obtain ⟨hbm, hbr, hex⟩ := boxes2' w3 W2 _ _ _ _ hW
    have HQ4 := Lib.hid (HQ3.out.ext hex)
    have HP4 := Lib.hid (HP3.out.ext hex)
    have E3 := Lib.hid (EW3.out.trans hex)
    clear hW hex
    refine (HRD.out _ _ _ HP4.out HQ4.out).mono ?_
    rintro e w4 ⟨u1, u2, rfl, hu1, hu2, hx4⟩
    have HBM := Lib.hid (hbm.ext hx4)
    have HBR := Lib.hid (hbr.ext hx4)
    have HU1 := Lib.hid hu1
    have HU2 := Lib.hid hu2
    have E4 := Lib.hid (E3.out.trans hx4)
    clear hbm hbr hu1 hu2 hx4
    have Xy0 := Lib.hid (Ext.refl w4)
    have k00 := (HBM.out.ext Xy0.out).cell 0
    have k01 := (HBM.out.ext Xy0.out).cell 1
    simp only [List.getElem?_cons_zero, List.getElem?_cons_succ] at k00 k01
    have k10 := (HBR.out.ext Xy0.out).cell 0
    have k11 := (HBR.out.ext Xy0.out).cell 1
    simp only [List.getElem?_cons_zero, List.getElem?_cons_succ] at k10 k11
    go_wp2_with fail
    refine (HK.out _).mono ?_
    rintro e y1 ⟨rfl, hx⟩
    have Xy1 := Lib.hid (Xy0.out.trans hx)
    clear hx k00 k01 k10 k11
    have k00 := (HBM.out.ext Xy1.out).cell 0
    have k01 := (HBM.out.ext Xy1.out).cell 1
    simp only [List.getElem?_cons_zero, List.getElem?_cons_succ] at k00 k01
    have k10 := (HBR.out.ext Xy1.out).cell 0
    have k11 := (HBR.out.ext Xy1.out).cell 1
    simp only [List.getElem?_cons_zero, List.getElem?_cons_succ] at k10 k11
    go_wp2_with fail
    refine (cis BM _ (HU1.out.ext Xy1.out)).mono ?_
    rintro e y2 ⟨rfl, hx⟩
    have Xy2 := Lib.hid (Xy1.out.trans hx)
    clear hx k00 k01 k10 k11
    have k00 := (HBM.out.ext Xy2.out).cell 0
    have k01 := (HBM.out.ext Xy2.out).cell 1
    simp only [List.getElem?_cons_zero, List.getElem?_cons_succ] at k00 k01
    have k10 := (HBR.out.ext Xy2.out).cell 0
    have k11 := (HBR.out.ext Xy2.out).cell 1
    simp only [List.getElem?_cons_zero, List.getElem?_cons_succ] at k10 k11
    go_wp2_with fail
    refine (cis BR _ (HU2.out.ext Xy2.out)).mono ?_
    rintro e y3 ⟨rfl, hx⟩
    have Xy3 := Lib.hid (Xy2.out.trans hx)
    clear hx k00 k01 k10 k11
    go_wp2
    go_ret
    exact ⟨rfl, E4.out.trans Xy3.out⟩

theorem natQuotients_any (l0 : List UInt8) (v0 : Value) (l1 : List UInt8) (v1 : Value) (a2 : Int) (w : World) (s0 : SlB l0 v0 w) (s1 : SlB l1 v1 w) (b2 : -9223372036854775808 ≤ a2 ∧ a2 ≤ 9223372036854775807) :
    Calls Tryd.prog 4 #[v0, v1, .int .i64 a2] w (Ret (.bool true) w) := by
  have s1' := s1
  obtain ⟨A, c, rfl, hc, ⟨hcm, _⟩, _⟩ := s1
  obtain ⟨k, hk, hp⟩ := pick_len a2 b2.1 b2.2 l1.length (by omega)
  by_cases h : beN ((l1.take k).take 48) = 0
  · exact natQuot_zero l0 v0 l1 A c k a2 w s0 s1' hk hp h
  · exact natQuot_pos l0 v0 l1 A c k a2 w s0 s1' hk hp h
end Go.Proofs.YtcfpjgcellahnaaDoor

namespace Go.Proofs.YtcfpjgcellahnaaDoor
open Go.ChangeShapes Go.WideShapes Go.ChangeAt Go.RowKit

set_option maxRecDepth 100000 in
theorem natQuotients_contract (H : Type) (enc : TypeId × Value → H) (W : World) (base : Nat) (args : Array Value) (ds gs : List (DataW H)) (before : List MemPlace)
    (hval : ∀ (j : Nat) t v, Tryd.f4.params[j]? = some t → args[j]? = some v → Value.okWide Tryd.prog W .any base t v)
    (hW : DataW.Whole enc Tryd.prog Tryd.f4.params.toList Rows.natQuotientsSpec.vars false W args.toList ds gs before) :
    Calls Tryd.prog 4 args W fun e W' => ∃ v, e = .returned v ∧ Rows.natQuotientsSpec.post enc Tryd.prog Tryd.f4 false true false false W args v W' := by
  have hW' := hW
  obtain ⟨p, q, hA0, hV, rfl, hfz, hnd⟩ := hW
  have hA : DataW.TrodAll enc Tryd.prog W 0 (fun _ => true) true Tryd.f4.params.toList args.toList ds p := hA0
  rw [Tryd.params4] at hA hval
  obtain ⟨v0, vs0, d0, ds0, p0, q0, hargs, rfl, rfl, h0, r0⟩ := trodAll_cons hA
  obtain ⟨v1, vs1, d1, ds1, p1, q1, rfl, rfl, rfl, h1, r1⟩ := trodAll_cons r0
  obtain ⟨v2, vs2, d2, ds2, p2, q2, rfl, rfl, rfl, h2, r2⟩ := trodAll_cons r1
  obtain ⟨rfl, rfl, rfl⟩ := trodAll_nil r2
  obtain rfl : args = #[v0, v1, v2] := by cases args; simp_all
  obtain ⟨rfl, rfl⟩ := trodVars_none hV
  obtain ⟨l0, s0⟩ := open_bytes (hval 0 35 v0 rfl rfl) h0
  obtain ⟨l1, s1⟩ := open_bytes (hval 1 35 v1 rfl rfl) h1
  obtain ⟨a2, rfl, rfl, rfl, w2⟩ := open_int Tryd.underlying3 (hval 2 3 v2 rfl rfl) h2
  have b2 : -9223372036854775808 ≤ a2 ∧ a2 ≤ 9223372036854775807 := by
    have h := w2
    simp only [Lit.wf, Bool.and_eq_true, decide_eq_true_eq] at h
    exact h
  clear hA0
  refine (natQuotients_any l0 v0 l1 v1 a2 W s0 s1 b2).mono fun e W' ⟨he, hg⟩ => ?_
  subst he
  exact ⟨_, rfl, law_post rfl rfl (fun t ht => by
    rw [Tryd.params4] at ht
    have hall : ([35, 35, 3].all fun u => Tryd.prog.readableRec u && decide (u < Tryd.prog.types.size)) = true := by kernel_rfl
    have := List.all_eq_true.1 hall t (by simpa using ht)
    simpa using this) hW' ⟨rfl, rfl, rfl⟩ hg⟩

theorem natQuotients_met (os : Os) : laidMet Tryd.prog Rows.natQuotientsRow.laid ((laidWorld os).forCall (fun _ _ => 0) ⟨#[], #[.slice none 0 0, .slice none 0 0, .int .i64 0], []⟩).memory :=
  laidMet_of_run' 8 (by kernel_rfl) (by kernel_rfl)
theorem natQuotients_reads (os : Os) {H : Type} (enc : TypeId × Value → H) : ∃ places, DataW.whole enc Tryd.prog ((laidWorld os).forCall (fun _ _ => 0) ⟨#[], #[.slice none 0 0, .slice none 0 0, .int .i64 0], []⟩).memory Tryd.f4.params.toList Rows.natQuotientsSpec.vars false (#[.slice none 0 0, .slice none 0 0, .int .i64 0] : Array Value).toList 8 = some ([.nil, .nil, .lit (.int .i64 0)], [], places) :=
  ⟨[], by kernel_rfl⟩

set_option maxRecDepth 100000 in
theorem natQuotients_lifted (os : Os) (started : os.Started) (H : Type) (enc : TypeId × Value → H) (F : Stop.Interp) :
    ReturnsInHanded {} Tryd.checked os 4 .any ((OpenSpec.ofChange Rows.natQuotientsSpec).preRow enc Tryd.prog Tryd.f4 Rows.natQuotientsRow.domain false Rows.natQuotientsRow.laid) (((OpenSpec.ofChange Rows.natQuotientsSpec).at F).post enc Tryd.prog Tryd.f4 false true false false) := by
  obtain ⟨places, hx⟩ := natQuotients_reads os enc
  refine returnsInHanded_of_row (C := Tryd.checked) (s := OpenSpec.ofChange Rows.natQuotientsSpec) own started (by kernel_rfl) Tryd.func4
    (witness_row_at (enc := enc) (C := Tryd.checked) false (laidWorld os) #[.slice none 0 0, .slice none 0 0, .int .i64 0] rfl (by kernel_rfl) (by kernel_rfl) (by kernel_rfl)
      (OpenSpec.preRow_of_cond 8 hx (by kernel_rfl) (fun k hk => by cases hk) (by kernel_rfl) (natQuotients_met os))) ?_
  intro W base args ds gs before hval hW _ _ _ hL _ _
  exact natQuotients_contract H enc W base args ds gs before hval hW

theorem natQuotients_holds : Rows.NatQuotientsSaid :=
  OpenClaim.holds_of_cond 4 Tryd.f4 rfl rfl rfl rfl rfl rfl rfl ⟨rfl, rfl, rfl, rfl, rfl⟩ rfl rfl rfl rfl rfl (by kernel_rfl) Tryd.func4 (by kernel_rfl)
    (of_decide_eq_true (by kernel_rfl)) (by unfold Func.isWrapper; first | (rw [if_pos (by decide +kernel)]; kernel_rfl) | (rw [if_neg (by decide +kernel)]; exact ⟨rfl, rfl⟩))
    (fun os started H enc _ F => by rw [OpenClaim.pre_eq_preRow]; exact natQuotients_lifted os started H enc F)

theorem natQuotients_plain (f : FuncId) (fn : Func) (hf : Tryd.pinned.checked.prog.funcNamed "abaculus/abaculuslaw1.NatQuotients" = some f) (hfn : Tryd.pinned.checked.prog.funcs[f]? = some fn) :
    false = Tryd.pinned.checked.prog.looks [] ∧ ∀ (j : Nat) t, fn.params[j]? = some t → Tryd.pinned.checked.prog.wantsStandIn t = false := by
  obtain rfl : f = 4 := Option.some.inj ((show Tryd.prog.funcNamed "abaculus/abaculuslaw1.NatQuotients" = some 4 by kernel_rfl).symm.trans hf) |>.symm
  obtain rfl : fn = Tryd.f4 := (Option.some.inj (Tryd.func4.symm.trans hfn)).symm
  refine ⟨by kernel_rfl, fun j t ht => ?_⟩
  rw [Tryd.params4] at ht
  have hm : t ∈ [35, 35, 3] := by simpa using Array.mem_of_getElem? ht
  have hall : ([35, 35, 3].all fun u => !Tryd.prog.wantsStandIn u) = true := by kernel_rfl
  exact (show Tryd.prog.wantsStandIn t = false by simpa using List.all_eq_true.1 hall t hm)

theorem natQuotientsCard_holds : Rows.NatQuotientsCardSaid :=
  Claim7.holds_tied_plain_at .later [] _ _ _ _ natQuotients_holds (fun _ h => by cases h) (by kernel_rfl) (fun _ h => by cases h) natQuotients_row_tie rfl ⟨rfl, rfl⟩ (by kernel_rfl) rfl natQuotients_plain (by kernel_rfl)
#print axioms natQuotientsCard_holds
end Go.Proofs.YtcfpjgcellahnaaDoor
