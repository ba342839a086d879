/- The law WholeQuotients: its walk. (Printed by walks/z8.py.) The law WholeQuotients of chapter 2 is true for every input: Div of any two whole numbers of any signs agrees with the reference; division by 0 is refused. -/
import Derived.Test.YtiloialbglfplaaDoorCards
import Derived.Test.YtiloialbglfplaaDoorB11
namespace Go.Proofs.YtiloialbglfplaaDoor
open Go.RowKit

theorem nl_iff {x : Int} {c : Bool} (h : decide (x = 0) = c) : (((nl x.natAbs : Nat) : Int) == 0) = c := by
  subst h
  have := nl_pos x.natAbs
  by_cases h : x = 0
  · rw [decide_eq_true h, beq_iff_eq]; subst h; unfold nl; rw [Int.natAbs_zero, limbs_zero]; rfl
  · rw [decide_eq_false h, beq_eq_false_iff_ne]; omega

set_option maxHeartbeats 4000000 in
theorem wholeQuotients_any (l0 : List UInt8) (v0 : Value) (l1 : List UInt8) (v1 : Value) (b2 b3 : Bool) (n4 : Int) (w : World) (s0 : SlB l0 v0 w) (s1 : SlB l1 v1 w) (b4 : -9223372036854775808 ≤ n4 ∧ n4 ≤ 9223372036854775807) : Calls Tryd.prog 3 #[v0, v1, .bool b2, .bool b3, .int .i64 n4] w (Ret (.bool true) w) := by
  obtain ⟨A1, c1, rfl⟩ := s0.form
  obtain ⟨A2, c2, rfl, hc2, ⟨hm2, hn2⟩, hh2⟩ := s1
  have s1 : SlB l1 (.slice A2 l1.length c2) w := ⟨A2, c2, rfl, hc2, ⟨hm2, hn2⟩, hh2⟩
  obtain ⟨kk, hkk, HP⟩ := pick_len n4 b4.1 b4.2 l1.length (by omega)
  simp only [show ∀ z, wrap64 z = IntKind.i64.wrap z from fun z => by rw [IntKind.wrap_i64]; unfold wrap64; rfl] at HP
  have hkc : kk ≤ c2 := Nat.le_trans hkk hc2
  have HT := fun W h1 (h2 : SlB l1 (.slice A2 l1.length c2) W) => two2 l0 (l1.take kk) (.slice A1 l0.length c1) (.slice A2 kk c2) b2 b3 W h1 (h2.cut kk hkk)
  have hx : Sm 320 (sg b2 (beN (l0.take 40))).natAbs := by rw [sg_abs]; exact Sm.take40 l0
  have hy : Sm 320 (sg b3 (beN ((l1.take kk).take 40))).natAbs := by rw [sg_abs]; exact Sm.take40 _
  generalize sg b2 (beN (l0.take 40)) = x at *
  generalize sg b3 (beN ((l1.take kk).take 40)) = y at *
  clear hh2 hn2
  have hs := St.start w
  have hs := hs.add8 s0 (by kernel_rfl)
  have hs := hs.add8 s1 (by kernel_rfl)
  refine enter Tryd.func3 rfl Tryd.ntmps3 (by kernel_rfl) fun ac ha => ?_
  refine wp_seq ?_
  refine wp_region_lit ?_
  refine s_val ha (.bool false) fun ac ha => ?_
  refine wpList_nil ((x_normal ?_))
  refine wp_seq ?_
  refine wp_region_lit ?_
  refine s_val ha (.slice A1 l0.length c1) fun ac ha => ?_
  refine s_val ha (.slice A2 l1.length c2) fun ac ha => ?_
  refine s_val ha (.int .i64 n4) fun ac ha => ?_
  refine s_val ha (.slice A2 l1.length c2) fun ac ha => ?_
  refine s_val ha (.int .i64 ((l1.length : Nat) : Int)) fun ac ha => ?_
  refine s_val ha (.int .i64 (IntKind.i64.wrap (((l1.length : Nat) : Int) + 1))) fun ac ha => ?_
  refine s_call ha hs (.int .i64 ((kk : Nat) : Int)) ((HP _).mono fun _ _ hh => ⟨hh.1, Ext.of_eq hh.2⟩) fun ac wd ha hs => ?_
  refine s_cut ha hkc Tryd.underlying22 fun ac ha => ?_
  refine s_val ha (.bool b2) fun ac ha => ?_
  refine s_val ha (.bool b3) fun ac ha => ?_
  refine s_callP ha hs (HT _ (hs.get 1 rfl) (hs.get 0 rfl)) fun u ac wd hp ha hs => ?_
  obtain ⟨x1, y1, rfl, p1, q1⟩ := hp
  obtain ⟨Ai2, ci2, rfl, r2⟩ := p1
  have hs := hs.add32 r2 (by kernel_rfl)
  obtain ⟨Ai3, ci3, rfl, r3⟩ := q1
  have hs := hs.add32 r3 (by kernel_rfl)
  refine s_val ha (.tuple #[zV x, zV y, riV x Ai2 ci2, riV y Ai3 ci3]) fun ac ha => ?_
  refine s_val ha (zV x) fun ac ha => ?_
  refine s_val ha (zV y) fun ac ha => ?_
  refine s_val ha (riV x Ai2 ci2) fun ac ha => ?_
  refine s_val ha (riV y Ai3 ci3) fun ac ha => ?_
  refine s_alloc ha hs [.bool false, .int .u64 0, .string (⟨#[]⟩)] fun g4 ac wd ha hs => ?_
  refine s_alloc ha hs [.bool false, .int .u64 0, .string (⟨#[]⟩)] fun g5 ac wd ha hs => ?_
  refine s_alloc ha hs [.bool false, .slice none 0 0] fun g6 ac wd ha hs => ?_
  refine s_alloc ha hs [.bool false, .slice none 0 0] fun g7 ac wd ha hs => ?_
  refine s_store ha hs 3 _ fun ac wd ha hs => ?_
  refine s_store ha hs 2 _ fun ac wd ha hs => ?_
  refine s_store ha hs 1 _ fun ac wd ha hs => ?_
  refine s_store ha hs 0 _ fun ac wd ha hs => ?_
  refine wpList_nil ((x_normal ?_))
  refine wp_seq ?_
  refine wp_region_lit ?_
  refine s_load ha hs 3 (zV x) fun ac ha => ?_
  refine s_load ha hs 2 (zV y) fun ac ha => ?_
  rcases Bool.eq_false_or_eq_true (decide (y = 0)) with hb8 | hb8
  ·
    have phb8 := of_decide_eq_true hb8
    refine s_call ha hs (.tuple #[zV (0 : Int), zV (0 : Int), .bool false]) (zdiv_no x (of_decide_eq_true hb8) _) fun ac wd ha hs => ?_
    refine s_val ha (.tuple #[zV (0 : Int), zV (0 : Int), .bool false]) fun ac ha => ?_
    refine s_val ha (zV (0 : Int)) fun ac ha => ?_
    refine s_val ha (zV (0 : Int)) fun ac ha => ?_
    refine s_val ha (.bool false) fun ac ha => ?_
    refine s_alloc ha hs [.bool false, .int .u64 0, .string (⟨#[]⟩)] fun g9 ac wd ha hs => ?_
    refine s_alloc ha hs [.bool false, .int .u64 0, .string (⟨#[]⟩)] fun g10 ac wd ha hs => ?_
    refine s_store ha hs 1 _ fun ac wd ha hs => ?_
    refine s_store ha hs 0 _ fun ac wd ha hs => ?_
    refine s_val ha (.bool false) fun ac ha => ?_
    refine wpList_nil ((x_normal ?_))
    refine wp_seq ?_
    refine wp_seq ?_
    refine wp_region_lit ?_
    refine s_val ha (.pointer (some ⟨g7, 1, none⟩)) fun ac ha => ?_
    refine s_load ha hs 2 (.slice Ai3 (nl y.natAbs) ci3) fun ac ha => ?_
    refine s_val ha (.int .i64 ((nl y.natAbs : Nat) : Int)) fun ac ha => ?_
    refine s_bool ha (b := (((nl y.natAbs : Nat) : Int) == 0)) true (nl_iff hb8) fun ac ha => ?_
    refine wpList_nil ((x_normal ?_))
    refine r_true ha ?_
    refine wp_seq ?_
    refine wp_region_lit ?_
    refine s_call ha hs (.bool true) (known2 _) fun ac wd ha hs => ?_
    refine s_val ha (.bool true) fun ac ha => ?_
    refine s_val ha (.bool false) fun ac ha => ?_
    refine s_val ha (.bool true) fun ac ha => ?_
    refine s_val ha (.bool true) fun ac ha => ?_
    refine s_val ha (.bool true) fun ac ha => ?_
    refine s_load ha hs 1 (zV (0 : Int)) fun ac ha => ?_
    refine s_call ha hs (.int .i64 0) (zsign0 (of_decide_eq_true (decide_eq_true rfl)) _) fun ac wd ha hs => ?_
    refine s_val ha (.bool true) fun ac ha => ?_
    refine s_val ha (.bool true) fun ac ha => ?_
    refine s_val ha (.bool true) fun ac ha => ?_
    refine s_load ha hs 0 (zV (0 : Int)) fun ac ha => ?_
    refine s_call ha hs (.int .i64 0) (zsign0 (of_decide_eq_true (decide_eq_true rfl)) _) fun ac wd ha hs => ?_
    refine s_val ha (.bool true) fun ac ha => ?_
    refine s_val ha (.bool true) fun ac ha => ?_
    refine s_val ha (.bool true) fun ac ha => ?_
    refine wpList_nil ((x_normal ?_))
    refine wp_ret (x_ret (ret_at ha hs rfl [.bool true] ⟨rfl, trivial⟩ ?_))
    exact ⟨rfl, hs.ext⟩
  ·
    have phb8 := of_decide_eq_false hb8
    refine s_call ha hs (.tuple #[zV (x.fdiv y), zV (x.fmod y), .bool true]) (zdiv hx hy (of_decide_eq_false hb8) _ (by omega)) fun ac wd ha hs => ?_
    refine s_val ha (.tuple #[zV (x.fdiv y), zV (x.fmod y), .bool true]) fun ac ha => ?_
    refine s_val ha (zV (x.fdiv y)) fun ac ha => ?_
    refine s_val ha (zV (x.fmod y)) fun ac ha => ?_
    refine s_val ha (.bool true) fun ac ha => ?_
    refine s_alloc ha hs [.bool false, .int .u64 0, .string (⟨#[]⟩)] fun g11 ac wd ha hs => ?_
    refine s_alloc ha hs [.bool false, .int .u64 0, .string (⟨#[]⟩)] fun g12 ac wd ha hs => ?_
    refine s_store ha hs 1 _ fun ac wd ha hs => ?_
    refine s_store ha hs 0 _ fun ac wd ha hs => ?_
    refine s_val ha (.bool true) fun ac ha => ?_
    refine wpList_nil ((x_normal ?_))
    refine wp_seq ?_
    refine wp_seq ?_
    refine wp_region_lit ?_
    refine s_val ha (.pointer (some ⟨g7, 1, none⟩)) fun ac ha => ?_
    refine s_load ha hs 2 (.slice Ai3 (nl y.natAbs) ci3) fun ac ha => ?_
    refine s_val ha (.int .i64 ((nl y.natAbs : Nat) : Int)) fun ac ha => ?_
    refine s_bool ha (b := (((nl y.natAbs : Nat) : Int) == 0)) false (nl_iff hb8) fun ac ha => ?_
    refine wpList_nil ((x_normal ?_))
    refine r_false ha ?_
    refine wp_skip ((x_normal ?_))
    refine wp_seq ?_
    refine wp_region_lit ?_
    refine s_load ha hs 3 (riV x Ai2 ci2) fun ac ha => ?_
    refine s_load ha hs 2 (riV y Ai3 ci3) fun ac ha => ?_
    refine s_callP ha hs (ridiv hx hy (of_decide_eq_false hb8) _ (RI.mk (hs.get 1 rfl)) (RI.mk (hs.get 0 rfl)) (by omega)) fun u ac wd hp ha hs => ?_
    obtain ⟨x13, y13, rfl, p13, q13⟩ := hp
    obtain ⟨Ai14, ci14, rfl, r14⟩ := p13
    have hs := hs.add32 r14 (by kernel_rfl)
    obtain ⟨Ai15, ci15, rfl, r15⟩ := q13
    have hs := hs.add32 r15 (by kernel_rfl)
    refine s_val ha (.tuple #[riV (x.fdiv y) Ai14 ci14, riV (x.fmod y) Ai15 ci15]) fun ac ha => ?_
    refine s_val ha (riV (x.fdiv y) Ai14 ci14) fun ac ha => ?_
    refine s_val ha (riV (x.fmod y) Ai15 ci15) fun ac ha => ?_
    refine s_alloc ha hs [.bool false, .slice none 0 0] fun g16 ac wd ha hs => ?_
    refine s_alloc ha hs [.bool false, .slice none 0 0] fun g17 ac wd ha hs => ?_
    refine s_store ha hs 1 _ fun ac wd ha hs => ?_
    refine s_store ha hs 0 _ fun ac wd ha hs => ?_
    refine wpList_nil ((x_normal ?_))
    refine wp_seq ?_
    refine wp_region_lit ?_
    refine s_call ha hs (.bool true) (known2 _) fun ac wd ha hs => ?_
    refine s_val ha (.bool true) fun ac ha => ?_
    refine s_val ha (.bool true) fun ac ha => ?_
    refine s_val ha (.bool true) fun ac ha => ?_
    refine s_val ha (.bool true) fun ac ha => ?_
    refine s_load ha hs 3 (zV (x.fdiv y)) fun ac ha => ?_
    refine s_load ha hs 1 (riV (x.fdiv y) Ai14 ci14) fun ac ha => ?_
    refine s_call ha hs (.bool true) (is2 (hx.zfdiv y) _ (RI.mk (hs.get 1 rfl)) (by omega)) fun ac wd ha hs => ?_
    refine s_val ha (.bool true) fun ac ha => ?_
    refine s_val ha (.bool true) fun ac ha => ?_
    refine s_load ha hs 2 (zV (x.fmod y)) fun ac ha => ?_
    refine s_load ha hs 0 (riV (x.fmod y) Ai15 ci15) fun ac ha => ?_
    refine s_call ha hs (.bool true) (is2 (Sm.zfmod x hy (of_decide_eq_false hb8)) _ (RI.mk (hs.get 0 rfl)) (by omega)) fun ac wd ha hs => ?_
    refine s_val ha (.bool true) fun ac ha => ?_
    refine s_val ha (.bool true) fun ac ha => ?_
    refine wpList_nil ((x_normal ?_))
    refine wp_ret (ret_at ha hs rfl [.bool true] ⟨rfl, trivial⟩ ?_)
    exact ⟨rfl, hs.ext⟩
  end Go.Proofs.YtiloialbglfplaaDoor

namespace Go.Proofs.YtiloialbglfplaaDoor
open Go.ChangeShapes Go.WideShapes Go.ChangeAt Go.RowKit

set_option maxRecDepth 100000 in
theorem wholeQuotients_contract (H : Type) (enc : TypeId × Value → H) (W : World) (base : Nat) (args : Array Value) (ds gs : List (DataW H)) (before : List MemPlace)
    (hval : ∀ (j : Nat) t v, Tryd.f3.params[j]? = some t → args[j]? = some v → Value.okWide Tryd.prog W .any base t v)
    (hW : DataW.Whole enc Tryd.prog Tryd.f3.params.toList Rows.wholeQuotientsSpec.vars false W args.toList ds gs before) :
    Calls Tryd.prog 3 args W fun e W' => ∃ v, e = .returned v ∧ Rows.wholeQuotientsSpec.post enc Tryd.prog Tryd.f3 false true false false W args v W' := by
  have hW' := hW
  obtain ⟨p, q, hA0, hV, rfl, hfz, hnd⟩ := hW
  have hA : DataW.TrodAll enc Tryd.prog W 0 (fun _ => true) true Tryd.f3.params.toList args.toList ds p := hA0
  rw [Tryd.params3] at hA hval
  obtain ⟨v0, vs0, d0, ds0, p0, q0, hargs, rfl, rfl, h0, r0⟩ := trodAll_cons hA
  obtain ⟨v1, vs1, d1, ds1, p1, q1, rfl, rfl, rfl, h1, r1⟩ := trodAll_cons r0
  obtain ⟨v2, vs2, d2, ds2, p2, q2, rfl, rfl, rfl, h2, r2⟩ := trodAll_cons r1
  obtain ⟨v3, vs3, d3, ds3, p3, q3, rfl, rfl, rfl, h3, r3⟩ := trodAll_cons r2
  obtain ⟨v4, vs4, d4, ds4, p4, q4, rfl, rfl, rfl, h4, r4⟩ := trodAll_cons r3
  obtain ⟨rfl, rfl, rfl⟩ := trodAll_nil r4
  obtain rfl : args = #[v0, v1, v2, v3, v4] := by cases args; simp_all
  obtain ⟨rfl, rfl⟩ := trodVars_none hV
  obtain ⟨l0, s0⟩ := open_bytes (hval 0 22 v0 rfl rfl) h0
  obtain ⟨l1, s1⟩ := open_bytes (hval 1 22 v1 rfl rfl) h1
  obtain ⟨c2, rfl, rfl, rfl⟩ := open_bool Tryd.underlying4 (hval 2 4 v2 rfl rfl) h2
  obtain ⟨c3, rfl, rfl, rfl⟩ := open_bool Tryd.underlying4 (hval 3 4 v3 rfl rfl) h3
  obtain ⟨a4, rfl, rfl, rfl, w4⟩ := open_int Tryd.underlying3 (hval 4 3 v4 rfl rfl) h4
  have b4 : -9223372036854775808 ≤ a4 ∧ a4 ≤ 9223372036854775807 := by
    have h := w4
    simp only [Lit.wf, Bool.and_eq_true, decide_eq_true_eq] at h
    exact h
  clear hA0
  refine (wholeQuotients_any l0 v0 l1 v1 c2 c3 a4 W s0 s1 b4).mono fun e W' ⟨he, hg⟩ => ?_
  subst he
  exact ⟨_, rfl, law_post rfl rfl (fun t ht => by
    rw [Tryd.params3] at ht
    have hall : ([22, 22, 4, 4, 3].all fun u => Tryd.prog.readableRec u && decide (u < Tryd.prog.types.size)) = true := by kernel_rfl
    have := List.all_eq_true.1 hall t (by simpa using ht)
    simpa using this) hW' ⟨rfl, rfl, rfl⟩ hg⟩

theorem wholeQuotients_met (os : Os) : laidMet Tryd.prog Rows.wholeQuotientsRow.laid ((laidWorld os).forCall (fun _ _ => 0) ⟨#[], #[.slice none 0 0, .slice none 0 0, .bool false, .bool false, .int .i64 0], []⟩).memory :=
  laidMet_of_run' 8 (by kernel_rfl) (by kernel_rfl)
theorem wholeQuotients_reads (os : Os) {H : Type} (enc : TypeId × Value → H) : ∃ places, DataW.whole enc Tryd.prog ((laidWorld os).forCall (fun _ _ => 0) ⟨#[], #[.slice none 0 0, .slice none 0 0, .bool false, .bool false, .int .i64 0], []⟩).memory Tryd.f3.params.toList Rows.wholeQuotientsSpec.vars false (#[.slice none 0 0, .slice none 0 0, .bool false, .bool false, .int .i64 0] : Array Value).toList 8 = some ([.nil, .nil, .lit (.bool false), .lit (.bool false), .lit (.int .i64 0)], [], places) :=
  ⟨[], by kernel_rfl⟩

set_option maxRecDepth 100000 in
theorem wholeQuotients_lifted (os : Os) (started : os.Started) (H : Type) (enc : TypeId × Value → H) (F : Stop.Interp) :
    ReturnsInHanded {} Tryd.checked os 3 .any ((OpenSpec.ofChange Rows.wholeQuotientsSpec).preRow enc Tryd.prog Tryd.f3 Rows.wholeQuotientsRow.domain false Rows.wholeQuotientsRow.laid) (((OpenSpec.ofChange Rows.wholeQuotientsSpec).at F).post enc Tryd.prog Tryd.f3 false true false false) := by
  obtain ⟨places, hx⟩ := wholeQuotients_reads os enc
  refine returnsInHanded_of_row (C := Tryd.checked) (s := OpenSpec.ofChange Rows.wholeQuotientsSpec) own started (by kernel_rfl) Tryd.func3
    (witness_row_at (enc := enc) (C := Tryd.checked) false (laidWorld os) #[.slice none 0 0, .slice none 0 0, .bool false, .bool false, .int .i64 0] rfl (by kernel_rfl) (by kernel_rfl) (by kernel_rfl)
      (OpenSpec.preRow_of_cond 8 hx (by kernel_rfl) (fun k hk => by cases hk) (by kernel_rfl) (wholeQuotients_met os))) ?_
  intro W base args ds gs before hval hW _ _ _ hL _ _
  exact wholeQuotients_contract H enc W base args ds gs before hval hW

theorem wholeQuotients_holds : Rows.WholeQuotientsSaid :=
  OpenClaim.holds_of_cond 3 Tryd.f3 rfl rfl rfl rfl rfl rfl rfl ⟨rfl, rfl, rfl, rfl, rfl⟩ rfl rfl rfl rfl rfl (by kernel_rfl) Tryd.func3 (by kernel_rfl)
    (of_decide_eq_true (by kernel_rfl)) (by unfold Func.isWrapper; first | (rw [if_pos (by decide +kernel)]; kernel_rfl) | (rw [if_neg (by decide +kernel)]; exact ⟨rfl, rfl⟩))
    (fun os started H enc _ F => by rw [OpenClaim.pre_eq_preRow]; exact wholeQuotients_lifted os started H enc F)

theorem wholeQuotients_plain (f : FuncId) (fn : Func) (hf : Tryd.pinned.checked.prog.funcNamed "abaculus/abaculuslaw2.WholeQuotients" = some f) (hfn : Tryd.pinned.checked.prog.funcs[f]? = some fn) :
    false = Tryd.pinned.checked.prog.looks [] ∧ ∀ (j : Nat) t, fn.params[j]? = some t → Tryd.pinned.checked.prog.wantsStandIn t = false := by
  obtain rfl : f = 3 := Option.some.inj ((show Tryd.prog.funcNamed "abaculus/abaculuslaw2.WholeQuotients" = some 3 by kernel_rfl).symm.trans hf) |>.symm
  obtain rfl : fn = Tryd.f3 := (Option.some.inj (Tryd.func3.symm.trans hfn)).symm
  refine ⟨by kernel_rfl, fun j t ht => ?_⟩
  rw [Tryd.params3] at ht
  have hm : t ∈ [22, 22, 4, 4, 3] := by simpa using Array.mem_of_getElem? ht
  have hall : ([22, 22, 4, 4, 3].all fun u => !Tryd.prog.wantsStandIn u) = true := by kernel_rfl
  exact (show Tryd.prog.wantsStandIn t = false by simpa using List.all_eq_true.1 hall t hm)

theorem wholeQuotientsCard_holds : Rows.WholeQuotientsCardSaid :=
  Claim7.holds_tied_plain_at .later [] _ _ _ _ wholeQuotients_holds (fun _ h => by cases h) (by kernel_rfl) (fun _ h => by cases h) wholeQuotients_row_tie rfl ⟨rfl, rfl⟩ (by kernel_rfl) rfl wholeQuotients_plain (by kernel_rfl)
#print axioms wholeQuotientsCard_holds
end Go.Proofs.YtiloialbglfplaaDoor
