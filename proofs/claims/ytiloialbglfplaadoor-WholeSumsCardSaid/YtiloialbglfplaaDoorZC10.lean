/- The law WholeSums: its walk. (Printed by walks/z6.py.) The law WholeSums of chapter 2 is true for every input: any two whole numbers are added, taken away, multiplied, compared and negated as the document says. -/
import Derived.Test.YtiloialbglfplaaDoorCards
import Derived.Test.YtiloialbglfplaaDoorB10
namespace Go.Proofs.YtiloialbglfplaaDoor
open Go.RowKit

set_option maxHeartbeats 4000000 in
theorem wholeSums_any (l0 : List UInt8) (v0 : Value) (l1 : List UInt8) (v1 : Value) (b2 b3 : Bool) (w : World) (s0 : SlB l0 v0 w) (s1 : SlB l1 v1 w) : Calls Tryd.prog 5 #[v0, v1, .bool b2, .bool b3] w (Ret (.bool true) w) := by
  obtain ⟨A1, c1, rfl⟩ := s0.form
  obtain ⟨A2, c2, rfl⟩ := s1.form
  have HT := fun W h1 h2 => two2 l0 l1 (.slice A1 l0.length c1) (.slice A2 l1.length c2) b2 b3 W h1 h2
  have hx : Sm 320 (sg b2 (beN (l0.take 40))).natAbs := by rw [sg_abs]; exact Sm.take40 l0
  have hy : Sm 320 (sg b3 (beN (l1.take 40))).natAbs := by rw [sg_abs]; exact Sm.take40 l1
  generalize sg b2 (beN (l0.take 40)) = x at *
  generalize sg b3 (beN (l1.take 40)) = y at *
  have hs := St.start w
  have hs := hs.add8 s0 (by kernel_rfl)
  have hs := hs.add8 s1 (by kernel_rfl)
  refine enter Tryd.func5 rfl Tryd.ntmps5 (by kernel_rfl) fun ac ha => ?_
  refine wp_seq ?_
  refine wp_region_lit ?_
  refine s_val ha (.bool false) fun ac ha => ?_
  refine wpList_nil ((x_normal ?_))
  refine wp_seq ?_
  refine wp_region_lit ?_
  refine s_val ha (.slice A1 l0.length c1) fun ac ha => ?_
  refine s_val ha (.slice A2 l1.length c2) fun ac ha => ?_
  refine s_val ha (.bool b2) fun ac ha => ?_
  refine s_val ha (.bool b3) fun ac ha => ?_
  refine s_callP ha hs (HT _ (hs.get 1 rfl) (hs.get 0 rfl)) fun u ac wd hp ha hs => ?_
  obtain ⟨x1, y1, rfl, p1, q1⟩ := hp
  obtain ⟨Ai2, ci2, rfl, r2⟩ := p1
  have hs := hs.add32 r2 (by kernel_rfl)
  obtain ⟨Ai3, ci3, rfl, r3⟩ := q1
  have hs := hs.add32 r3 (by kernel_rfl)
  refine s_val ha (.tuple #[zV x, zV y, riV x Ai2 ci2, riV y Ai3 ci3]) fun ac ha => ?_
  refine s_val ha (zV x) fun ac ha => ?_
  refine s_val ha (zV y) fun ac ha => ?_
  refine s_val ha (riV x Ai2 ci2) fun ac ha => ?_
  refine s_val ha (riV y Ai3 ci3) fun ac ha => ?_
  refine s_alloc ha hs [.bool false, .int .u64 0, .string (⟨#[]⟩)] fun g4 ac wd ha hs => ?_
  refine s_alloc ha hs [.bool false, .int .u64 0, .string (⟨#[]⟩)] fun g5 ac wd ha hs => ?_
  refine s_alloc ha hs [.bool false, .slice none 0 0] fun g6 ac wd ha hs => ?_
  refine s_alloc ha hs [.bool false, .slice none 0 0] fun g7 ac wd ha hs => ?_
  refine s_store ha hs 3 _ fun ac wd ha hs => ?_
  refine s_store ha hs 2 _ fun ac wd ha hs => ?_
  refine s_store ha hs 1 _ fun ac wd ha hs => ?_
  refine s_store ha hs 0 _ fun ac wd ha hs => ?_
  refine wpList_nil ((x_normal ?_))
  refine wp_seq ?_
  refine region_sp ha 51 [.eq (.bool true), .eq (.bool true), .eq (zV x), .eq (zV y), .eq (zV (x + y)), .eq (riV x Ai2 ci2), .eq (riV y Ai3 ci3), .pr (RI (x + y)) fun _ _ _ e h => h.ext e, .eq (.bool true), .eq (.bool true), .eq (.bool true), .eq (zV x), .eq (zV y), .eq (zV (x - y)), .eq (riV x Ai2 ci2), .eq (riV y Ai3 ci3), .pr (RI (x - y)) fun _ _ _ e h => h.ext e, .eq (.bool true), .eq (.bool true), .eq (.bool true), .eq (zV x), .eq (zV y), .eq (zV (x * y)), .eq (riV x Ai2 ci2), .eq (riV y Ai3 ci3), .pr (RI (x * y)) fun _ _ _ e h => h.ext e, .eq (.bool true), .eq (.bool true), .eq (.bool true), .eq (zV x), .eq (zV y), .eq (.int .i64 (cmpZ x y)), .eq (riV x Ai2 ci2), .eq (riV y Ai3 ci3), .eq (.int .i64 (cmpZ x y)), .eq (.bool true), .eq (.bool true), .eq (.bool true), .eq (zV x), .eq (zV (-x)), .eq (riV x Ai2 ci2), .pr (RI (-x)) fun _ _ _ e h => h.ext e, .eq (.bool true), .eq (.bool true), .eq (.bool true), .eq (zV x), .eq (.int .i64 x.sign), .eq (riV x Ai2 ci2), .eq (.int .i64 x.sign), .eq (.bool true), .eq (.bool true)] [] [] (fun _ hb => by cases hb)
    ⟨d_call (fun _ hw => known2 _), d_val, d_load hs 3, d_load hs 2, d_call (fun _ hw => zadd hx hy _ (by omega)), d_load hs 1, d_load hs 0, d_callP (fun u => #[riV x Ai2 ci2, riV y Ai3 ci3]) (fun u _ hw hj => riadd hx hy _ (RI.mk ((hs.go hw).get 1 rfl)) (RI.mk ((hs.go hw).get 0 rfl)) (by omega)), d_callU (fun u => #[zV (x + y), u 7]) (fun u _ hw hj => is2 (hx.zadd hy) _ (hj 7 (by kernel_rfl)) (by omega)), d_val, d_val, d_load hs 3, d_load hs 2, d_call (fun _ hw => zsub hx hy _ (by omega)), d_load hs 1, d_load hs 0, d_callP (fun u => #[riV x Ai2 ci2, riV y Ai3 ci3]) (fun u _ hw hj => risub hx hy _ (RI.mk ((hs.go hw).get 1 rfl)) (RI.mk ((hs.go hw).get 0 rfl)) (by omega)), d_callU (fun u => #[zV (x - y), u 16]) (fun u _ hw hj => is2 (hx.zsub hy) _ (hj 16 (by kernel_rfl)) (by omega)), d_val, d_val, d_load hs 3, d_load hs 2, d_call (fun _ hw => zmul hx hy _ (by omega)), d_load hs 1, d_load hs 0, d_callP (fun u => #[riV x Ai2 ci2, riV y Ai3 ci3]) (fun u _ hw hj => rimul hx hy _ (RI.mk ((hs.go hw).get 1 rfl)) (RI.mk ((hs.go hw).get 0 rfl)) (by omega)), d_callU (fun u => #[zV (x * y), u 25]) (fun u _ hw hj => is2 (hx.zmul hy) _ (hj 25 (by kernel_rfl)) (by omega)), d_val, d_val, d_load hs 3, d_load hs 2, d_call (fun _ hw => zcmp hx hy _ (by omega)), d_load hs 1, d_load hs 0, d_call (fun _ hw => ricmp hx hy _ (RI.mk ((hs.go hw).get 1 rfl)) (RI.mk ((hs.go hw).get 0 rfl)) (by omega)), d_bool (b := ((cmpZ x y) == (cmpZ x y))) (beq_self_eq_true _), d_val, d_val, d_load hs 3, d_call (fun _ hw => zneg hx _ (by omega)), d_load hs 1, d_callP (fun u => #[riV x Ai2 ci2]) (fun u _ hw hj => rineg hx _ (RI.mk ((hs.go hw).get 1 rfl))), d_callU (fun u => #[zV (-x), u 41]) (fun u _ hw hj => is2 hx.zneg _ (hj 41 (by kernel_rfl)) (by omega)), d_val, d_val, d_load hs 3, d_call (fun _ hw => zsign hx _ (by omega)), d_load hs 1, d_call (fun _ hw => risign _ (RI.mk ((hs.go hw).get 1 rfl))), d_bool (b := (x.sign == x.sign)) (beq_self_eq_true _), d_val, trivial⟩ ?_
  intro vv wd1 ac hw hG hN ha
  have ha := ha.sub [(0, .slice A1 l0.length c1), (1, .slice A2 l1.length c2), (2, .bool b2), (3, .bool b3), (8, .bool false), (14, .slice A1 l0.length c1), (15, .slice A2 l1.length c2), (16, .bool b2), (17, .bool b3), (18, .tuple #[zV x, zV y, riV x Ai2 ci2, riV y Ai3 ci3]), (13, .tuple #[zV x, zV y, riV x Ai2 ci2, riV y Ai3 ci3]), (19, zV x), (20, zV y), (21, riV x Ai2 ci2), (22, riV y Ai3 ci3), (9, .pointer (some ⟨g4, 0, none⟩)), (10, .pointer (some ⟨g5, 0, none⟩)), (11, .pointer (some ⟨g6, 0, none⟩)), (12, .pointer (some ⟨g7, 0, none⟩)), (73, .bool true)]
  clear hG hN
  have hs := hs.go hw
  clear hw
  refine keeps_nil ?_
  show wpList _ _ _ _ _ _
  refine s_val ha (.bool true) fun ac ha => ?_
  refine wpList_nil ((x_normal ?_))
  refine wp_ret (ret_at ha hs rfl [.bool true] ⟨rfl, trivial⟩ ?_)
  exact ⟨rfl, hs.ext⟩
  end Go.Proofs.YtiloialbglfplaaDoor

namespace Go.Proofs.YtiloialbglfplaaDoor
open Go.ChangeShapes Go.WideShapes Go.ChangeAt Go.RowKit

set_option maxRecDepth 100000 in
theorem wholeSums_contract (H : Type) (enc : TypeId × Value → H) (W : World) (base : Nat) (args : Array Value) (ds gs : List (DataW H)) (before : List MemPlace)
    (hval : ∀ (j : Nat) t v, Tryd.f5.params[j]? = some t → args[j]? = some v → Value.okWide Tryd.prog W .any base t v)
    (hW : DataW.Whole enc Tryd.prog Tryd.f5.params.toList Rows.wholeSumsSpec.vars false W args.toList ds gs before) :
    Calls Tryd.prog 5 args W fun e W' => ∃ v, e = .returned v ∧ Rows.wholeSumsSpec.post enc Tryd.prog Tryd.f5 false true false false W args v W' := by
  have hW' := hW
  obtain ⟨p, q, hA0, hV, rfl, hfz, hnd⟩ := hW
  have hA : DataW.TrodAll enc Tryd.prog W 0 (fun _ => true) true Tryd.f5.params.toList args.toList ds p := hA0
  rw [Tryd.params5] at hA hval
  obtain ⟨v0, vs0, d0, ds0, p0, q0, hargs, rfl, rfl, h0, r0⟩ := trodAll_cons hA
  obtain ⟨v1, vs1, d1, ds1, p1, q1, rfl, rfl, rfl, h1, r1⟩ := trodAll_cons r0
  obtain ⟨v2, vs2, d2, ds2, p2, q2, rfl, rfl, rfl, h2, r2⟩ := trodAll_cons r1
  obtain ⟨v3, vs3, d3, ds3, p3, q3, rfl, rfl, rfl, h3, r3⟩ := trodAll_cons r2
  obtain ⟨rfl, rfl, rfl⟩ := trodAll_nil r3
  obtain rfl : args = #[v0, v1, v2, v3] := by cases args; simp_all
  obtain ⟨rfl, rfl⟩ := trodVars_none hV
  obtain ⟨l0, s0⟩ := open_bytes (hval 0 22 v0 rfl rfl) h0
  obtain ⟨l1, s1⟩ := open_bytes (hval 1 22 v1 rfl rfl) h1
  obtain ⟨c2, rfl, rfl, rfl⟩ := open_bool Tryd.underlying4 (hval 2 4 v2 rfl rfl) h2
  obtain ⟨c3, rfl, rfl, rfl⟩ := open_bool Tryd.underlying4 (hval 3 4 v3 rfl rfl) h3
  clear hA0
  refine (wholeSums_any l0 v0 l1 v1 c2 c3 W s0 s1).mono fun e W' ⟨he, hg⟩ => ?_
  subst he
  exact ⟨_, rfl, law_post rfl rfl (fun t ht => by
    rw [Tryd.params5] at ht
    have hall : ([22, 22, 4, 4].all fun u => Tryd.prog.readableRec u && decide (u < Tryd.prog.types.size)) = true := by kernel_rfl
    have := List.all_eq_true.1 hall t (by simpa using ht)
    simpa using this) hW' ⟨rfl, rfl, rfl⟩ hg⟩

theorem wholeSums_met (os : Os) : laidMet Tryd.prog Rows.wholeSumsRow.laid ((laidWorld os).forCall (fun _ _ => 0) ⟨#[], #[.slice none 0 0, .slice none 0 0, .bool false, .bool false], []⟩).memory :=
  laidMet_of_run' 8 (by kernel_rfl) (by kernel_rfl)
theorem wholeSums_reads (os : Os) {H : Type} (enc : TypeId × Value → H) : ∃ places, DataW.whole enc Tryd.prog ((laidWorld os).forCall (fun _ _ => 0) ⟨#[], #[.slice none 0 0, .slice none 0 0, .bool false, .bool false], []⟩).memory Tryd.f5.params.toList Rows.wholeSumsSpec.vars false (#[.slice none 0 0, .slice none 0 0, .bool false, .bool false] : Array Value).toList 8 = some ([.nil, .nil, .lit (.bool false), .lit (.bool false)], [], places) :=
  ⟨[], by kernel_rfl⟩

set_option maxRecDepth 100000 in
theorem wholeSums_lifted (os : Os) (started : os.Started) (H : Type) (enc : TypeId × Value → H) (F : Stop.Interp) :
    ReturnsInHanded {} Tryd.checked os 5 .any ((OpenSpec.ofChange Rows.wholeSumsSpec).preRow enc Tryd.prog Tryd.f5 Rows.wholeSumsRow.domain false Rows.wholeSumsRow.laid) (((OpenSpec.ofChange Rows.wholeSumsSpec).at F).post enc Tryd.prog Tryd.f5 false true false false) := by
  obtain ⟨places, hx⟩ := wholeSums_reads os enc
  refine returnsInHanded_of_row (C := Tryd.checked) (s := OpenSpec.ofChange Rows.wholeSumsSpec) own started (by kernel_rfl) Tryd.func5
    (witness_row_at (enc := enc) (C := Tryd.checked) false (laidWorld os) #[.slice none 0 0, .slice none 0 0, .bool false, .bool false] rfl (by kernel_rfl) (by kernel_rfl) (by kernel_rfl)
      (OpenSpec.preRow_of_cond 8 hx (by kernel_rfl) (fun k hk => by cases hk) (by kernel_rfl) (wholeSums_met os))) ?_
  intro W base args ds gs before hval hW _ _ _ hL _ _
  exact wholeSums_contract H enc W base args ds gs before hval hW

theorem wholeSums_holds : Rows.WholeSumsSaid :=
  OpenClaim.holds_of_cond 5 Tryd.f5 rfl rfl rfl rfl rfl rfl rfl ⟨rfl, rfl, rfl, rfl, rfl⟩ rfl rfl rfl rfl rfl (by kernel_rfl) Tryd.func5 (by kernel_rfl)
    (of_decide_eq_true (by kernel_rfl)) (by unfold Func.isWrapper; first | (rw [if_pos (by decide +kernel)]; kernel_rfl) | (rw [if_neg (by decide +kernel)]; exact ⟨rfl, rfl⟩))
    (fun os started H enc _ F => by rw [OpenClaim.pre_eq_preRow]; exact wholeSums_lifted os started H enc F)

theorem wholeSums_plain (f : FuncId) (fn : Func) (hf : Tryd.pinned.checked.prog.funcNamed "abaculus/abaculuslaw2.WholeSums" = some f) (hfn : Tryd.pinned.checked.prog.funcs[f]? = some fn) :
    false = Tryd.pinned.checked.prog.looks [] ∧ ∀ (j : Nat) t, fn.params[j]? = some t → Tryd.pinned.checked.prog.wantsStandIn t = false := by
  obtain rfl : f = 5 := Option.some.inj ((show Tryd.prog.funcNamed "abaculus/abaculuslaw2.WholeSums" = some 5 by kernel_rfl).symm.trans hf) |>.symm
  obtain rfl : fn = Tryd.f5 := (Option.some.inj (Tryd.func5.symm.trans hfn)).symm
  refine ⟨by kernel_rfl, fun j t ht => ?_⟩
  rw [Tryd.params5] at ht
  have hm : t ∈ [22, 22, 4, 4] := by simpa using Array.mem_of_getElem? ht
  have hall : ([22, 22, 4, 4].all fun u => !Tryd.prog.wantsStandIn u) = true := by kernel_rfl
  exact (show Tryd.prog.wantsStandIn t = false by simpa using List.all_eq_true.1 hall t hm)

theorem wholeSumsCard_holds : Rows.WholeSumsCardSaid :=
  Claim7.holds_tied_plain_at .later [] _ _ _ _ wholeSums_holds (fun _ h => by cases h) (by kernel_rfl) (fun _ h => by cases h) wholeSums_row_tie rfl ⟨rfl, rfl⟩ (by kernel_rfl) rfl wholeSums_plain (by kernel_rfl)
#print axioms wholeSumsCard_holds
end Go.Proofs.YtiloialbglfplaaDoor
