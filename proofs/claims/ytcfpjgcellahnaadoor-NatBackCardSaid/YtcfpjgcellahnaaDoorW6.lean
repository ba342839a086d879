/- Walks: Add at any numbers, Sub. -/
import Derived.Test.YtcfpjgcellahnaaDoorW5
namespace Go.Proofs.YtcfpjgcellahnaaDoor
open Go.RowKit

set_option maxHeartbeats 1000000 in
theorem add_small (a b : Nat) (ha : a < B64) (hb : b < B64) (w : World) :
    Calls Tryd.prog 20 #[.agg #[.int .u64 (lo a : Nat), .string (hi a)], .agg #[.int .u64 (lo b : Nat), .string (hi b)]] w (Ret (.agg #[.int .u64 (lo (a + b) : Nat), .string (hi (a + b))]) w) := by
  have hadd : ∀ W, (callFunc 76 #[.int .u64 a, .int .u64 b, .int .u64 0]).run Tryd.prog W = .ok (.value (.tuple #[.int .u64 (adS a b 0 : Nat), .int .u64 (adC a b 0 : Nat)])) W := fun W => add64_0 a b W
  have hle := adC_le ha hb (show (0 : Nat) ≤ 1 by omega)
  have heq := ad_eq a b 0
  have hs := adS_lt a b 0
  rw [hi_small ha, hi_small hb, lo_small ha, lo_small hb]
  generalize adS a b 0 = s at *
  generalize adC a b 0 = c at *
  by_cases hc : c = 0
  · subst hc
    have e : a + b = s := by omega
    rw [e, hi_small hs, lo_small hs]
    clear e heq
    go_enter Tryd.func20, Tryd.ntmps20
    go_wp2
    go_returns
    exact ⟨rfl, (((Ext.refl _).alloc _).alloc _).alloc _⟩
  · obtain rfl : c = 1 := by omega
    have e : val B64 [s, 1] = a + b := by simp only [val_cons, val_nil]; omega
    have hcall : ∀ W, Blk W (w.heap.size + 1 + 1 + 1) 22 (U [s, 1]) → Calls Tryd.prog 77 #[.slice (some ⟨w.heap.size + 1 + 1 + 1, 0, none⟩) 2 2] W (Ret (.agg #[.int .u64 (lo (a + b) : Nat), .string (hi (a + b))]) W) := fun W hB => by
      have hh := fromWords_blk (w.heap.size + 1 + 1 + 1) 2 [s, 1] [] W (by simpa using hB) (by simp) (by simp) (Dig.cons hs (Dig.cons (by unfold B64; omega) (Dig.nil _)))
      rw [e] at hh
      exact hh
    have HC := Lib.hid hcall
    clear hcall e heq
    go_enter Tryd.func20, Tryd.ntmps20
    go_wp2_with fail
    generalize hW : ((w.alloc (.cells #[.int .u64 a, .string ⟨#[]⟩] 24)).alloc (.cells #[.int .u64 b, .string ⟨#[]⟩] 24)).alloc (.cells #[.int .u64 0, .string ⟨#[]⟩] 24) = W
    obtain ⟨_, _, hr, hx⟩ := boxes3 w W _ _ _ _ hW
    have hsz : W.heap.size = w.heap.size + 1 + 1 + 1 := by rw [← hW]; simp
    have hbw := Blk.new W 22 (U [s, 1])
    rw [hsz] at hbw
    refine (HC.out _ hbw).mono ?_
    rintro e w3 ⟨rfl, he3⟩
    have hr3 := (hr.alloc _).ext he3
    have r0 : w3.cell? ⟨w.heap.size + 1 + 1, 0, none⟩ = some (.int .u64 0) := hr3.cell 0
    have r1 : w3.cell? ⟨w.heap.size + 1 + 1, 1, none⟩ = some (.string ⟨#[]⟩) := hr3.cell 1
    have f0 : w3.frozen? ⟨w.heap.size + 1 + 1, 0, none⟩ = false := hr3.frozen 0
    have f1 : w3.frozen? ⟨w.heap.size + 1 + 1, 1, none⟩ = false := hr3.frozen 1
    clear hsz hbw hadd
    go_wp2
    refine ret_nat (w.heap.size + 1 + 1) _ _ rfl rfl ((hr3.set 0 _).set 1 _) rfl ⟨rfl, ?_⟩
    exact (Below.setCell (Ext.trans (hx.alloc _) he3) (p := ⟨w.heap.size + 1 + 1, 0, none⟩) (by show _ ≤ _; simp; omega) _).setCell (p := ⟨w.heap.size + 1 + 1, 1, none⟩) (by show _ ≤ _; simp; omega) _

theorem add_any (a b : Nat) (ha : bl a ≤ 549755813888) (hb : bl b ≤ 549755813888) (w : World) :
    Calls Tryd.prog 20 #[.agg #[.int .u64 (lo a : Nat), .string (hi a)], .agg #[.int .u64 (lo b : Nat), .string (hi b)]] w (Ret (.agg #[.int .u64 (lo (a + b) : Nat), .string (hi (a + b))]) w) := by
  rcases Nat.lt_or_ge a B64 with h | h
  · rcases Nat.lt_or_ge b B64 with h' | h'
    · exact add_small a b h h' w
    · exact add_big a b ha hb (.inr ⟨h, h'⟩) w
  · exact add_big a b ha hb (.inl h) w

/-! ### Sub -/
set_option maxHeartbeats 1000000 in
theorem sub_lt (a b : Nat) (ha : bl a ≤ 549755813888) (hb : bl b ≤ 549755813888) (h : a < b) (w : World) :
    Calls Tryd.prog 40 #[.agg #[.int .u64 (lo a : Nat), .string (hi a)], .agg #[.int .u64 (lo b : Nat), .string (hi b)]] w (Ret (.tuple #[.agg #[.int .u64 (lo 0 : Nat), .string (hi 0)], .bool false]) w) := by
  have e1 : lo 0 = 0 := rfl
  have e2 : hi 0 = ⟨#[]⟩ := hi_small (by unfold B64; omega)
  rw [e1, e2]
  have HC := Lib.hid (fun W => cmp_any a b ha hb W)
  rw [cmpN_lt h] at HC
  generalize hi a = sa at *
  generalize hi b = sb at *
  generalize lo a = la at *
  generalize lo b = lb at *
  clear e1 e2
  go_enter Tryd.func40, Tryd.ntmps40
  go_wp2_with fail
  generalize hW : ((w.alloc (.cells #[.int .u64 la, .string sa] 24)).alloc (.cells #[.int .u64 lb, .string sb] 24)).alloc (.cells #[.int .u64 0, .string ⟨#[]⟩] 24) = W
  obtain ⟨_, _, hr, hx⟩ := boxes3 w W _ _ _ _ hW
  clear hW
  refine (HC.out _).mono ?_
  rintro e w3 ⟨rfl, he3⟩
  have hr3 := hr.ext he3
  have r0 : w3.cell? ⟨w.heap.size + 1 + 1, 0, none⟩ = some (.int .u64 0) := hr3.cell 0
  have r1 : w3.cell? ⟨w.heap.size + 1 + 1, 1, none⟩ = some (.string ⟨#[]⟩) := hr3.cell 1
  have f0 : w3.frozen? ⟨w.heap.size + 1 + 1, 0, none⟩ = false := hr3.frozen 0
  have f1 : w3.frozen? ⟨w.heap.size + 1 + 1, 1, none⟩ = false := hr3.frozen 1
  go_wp2
  refine ret_nat2 (w.heap.size + 1 + 1) _ _ _ rfl rfl rfl ((hr3.set 0 _).set 1 _) rfl ⟨rfl, ?_⟩
  exact (Below.setCell (Ext.trans hx he3) (p := ⟨w.heap.size + 1 + 1, 0, none⟩) (by show _ ≤ _; simp; omega) _).setCell (p := ⟨w.heap.size + 1 + 1, 1, none⟩) (by show _ ≤ _; simp; omega) _

theorem cmpN_ge {a b : Nat} (h : b ≤ a) : 0 ≤ cmpN a b := by
  rcases Nat.lt_or_ge b a with h' | h'
  · rw [cmpN_gt h']; omega
  · obtain rfl : a = b := by omega
    rw [cmpN_eq]; omega

set_option maxHeartbeats 1000000 in
theorem sub_small (a b : Nat) (ha : a < B64) (h : b ≤ a) (w : World) :
    Calls Tryd.prog 40 #[.agg #[.int .u64 (lo a : Nat), .string (hi a)], .agg #[.int .u64 (lo b : Nat), .string (hi b)]] w (Ret (.tuple #[.agg #[.int .u64 (lo (a - b) : Nat), .string (hi (a - b))], .bool true]) w) := by
  have hb : b < B64 := by omega
  have hba : bl a ≤ 64 := bl_le ha
  have hbb : bl b ≤ 64 := bl_le hb
  have HC := Lib.hid (fun W => cmp_any a b (by omega) (by omega) W)
  have hge := cmpN_ge h
  rw [hi_small ha, hi_small hb, lo_small ha, lo_small hb] at *
  rw [hi_small (show a - b < B64 by omega), lo_small (show a - b < B64 by omega)]
  generalize cmpN a b = c at *
  have hd1 : (0 : Int) ≤ (a : Int) - (b : Int) := by omega
  have hd2 : (a : Int) - (b : Int) < 18446744073709551616 := by unfold B64 at ha; omega
  have hd3 : (a : Int) - (b : Int) = ((a - b : Nat) : Int) := by omega
  have HD := Lib.hid hd3
  clear hd3
  go_enter Tryd.func40, Tryd.ntmps40
  go_wp2_with fail
  generalize hW : ((w.alloc (.cells #[.int .u64 a, .string ⟨#[]⟩] 24)).alloc (.cells #[.int .u64 b, .string ⟨#[]⟩] 24)).alloc (.cells #[.int .u64 0, .string ⟨#[]⟩] 24) = W
  obtain ⟨hb1, hb2, hr, hx⟩ := boxes3 w W _ _ _ _ hW
  clear hW
  refine (HC.out _).mono ?_
  rintro e w3 ⟨rfl, he3⟩
  have hr3 := hr.ext he3
  have r0 : w3.cell? ⟨w.heap.size + 1 + 1, 0, none⟩ = some (.int .u64 0) := hr3.cell 0
  have r1 : w3.cell? ⟨w.heap.size + 1 + 1, 1, none⟩ = some (.string ⟨#[]⟩) := hr3.cell 1
  have f0 : w3.frozen? ⟨w.heap.size + 1 + 1, 0, none⟩ = false := hr3.frozen 0
  have f1 : w3.frozen? ⟨w.heap.size + 1 + 1, 1, none⟩ = false := hr3.frozen 1
  have a0 : w3.cell? ⟨w.heap.size, 0, none⟩ = some (.int .u64 a) := (hb1.ext he3).cell 0
  have a1 : w3.cell? ⟨w.heap.size, 1, none⟩ = some (.string ⟨#[]⟩) := (hb1.ext he3).cell 1
  have b0 : w3.cell? ⟨w.heap.size + 1, 0, none⟩ = some (.int .u64 b) := (hb2.ext he3).cell 0
  go_wp2
  refine ret_nat2 (w.heap.size + 1 + 1) _ _ _ rfl rfl rfl ((hr3.set 0 _).set 1 _) rfl ⟨?_, ?_⟩
  · rw [HD.out]; rfl
  · exact (Below.setCell (Ext.trans hx he3) (p := ⟨w.heap.size + 1 + 1, 0, none⟩) (by show _ ≤ _; simp; omega) _).setCell (p := ⟨w.heap.size + 1 + 1, 1, none⟩) (by show _ ≤ _; simp; omega) _

theorem limbs_mono {a b : Nat} (h : b ≤ a) : (limbs B64 b).length ≤ (limbs B64 a).length := by
  rcases Nat.lt_or_ge (limbs B64 a).length (limbs B64 b).length with h' | h'
  · have := lt_of_limbs B64_two h'; omega
  · exact h'

set_option maxHeartbeats 4000000 in
theorem sub_big (a b : Nat) (ha : bl a ≤ 549755813888) (hb : bl b ≤ 549755813888) (hbig : B64 ≤ a) (h : b ≤ a) (w : World) :
    Calls Tryd.prog 40 #[.agg #[.int .u64 (lo a : Nat), .string (hi a)], .agg #[.int .u64 (lo b : Nat), .string (hi b)]] w (Ret (.tuple #[.agg #[.int .u64 (lo (a - b) : Nat), .string (hi (a - b))], .bool true]) w) := by
  have HC := Lib.hid (fun W => cmp_any a b ha hb W)
  have hge := cmpN_ge h
  have h1 := hi_big hbig
  have HA : Hid (∀ W, Calls Tryd.prog 78 #[.agg #[.int .u64 (lo a : Nat), .string (hi a)]] W (RetS (Fresh W.heap.size (limbs B64 a)) W)) := Lib.hid (fun W => words_any a ha W)
  have HB : Hid (∀ W, Calls Tryd.prog 78 #[.agg #[.int .u64 (lo b : Nat), .string (hi b)]] W (RetS (Fresh W.heap.size (limbs B64 b)) W)) := Lib.hid (fun W => words_any b hb W)
  generalize hsa : hi a = sa at *
  generalize hsb : hi b = sb at *
  generalize hla : lo a = la at *
  generalize hlb : lo b = lb at *
  generalize cmpN a b = cc at *
  clear hsa hsb hla hlb
  go_enter Tryd.func40, Tryd.ntmps40
  go_wp2_with fail
  generalize hW : ((w.alloc (.cells #[.int .u64 la, .string sa] 24)).alloc (.cells #[.int .u64 lb, .string sb] 24)).alloc (.cells #[.int .u64 0, .string ⟨#[]⟩] 24) = W0
  obtain ⟨hB1, hB2, hB3, hEx⟩ := boxes3 w W0 _ _ _ _ hW
  clear hW
  refine (HC.out _).mono ?_
  rintro e W ⟨rfl, he0⟩
  replace hB1 := hB1.ext he0
  replace hB2 := hB2.ext he0
  replace hB3 := hB3.ext he0
  replace hEx := hEx.trans he0
  clear he0 HC
  have hc0 : W.cell? ⟨w.heap.size, 0, none⟩ = some (.int .u64 la) := hB1.cell 0
  have hc1 : W.cell? ⟨w.heap.size, 1, none⟩ = some (.string sa) := hB1.cell 1
  have hd0 : W.cell? ⟨w.heap.size + 1, 0, none⟩ = some (.int .u64 lb) := hB2.cell 0
  have hd1 : W.cell? ⟨w.heap.size + 1, 1, none⟩ = some (.string sb) := hB2.cell 1
  go_wp2
  go_region_held3 (fun w' => w'.cell? ⟨w.heap.size, 0, none⟩ = some (.int .u64 la) ∧ w'.cell? ⟨w.heap.size, 1, none⟩ = some (.string sa) ∧ w'.cell? ⟨w.heap.size + 1, 0, none⟩ = some (.int .u64 lb) ∧ w'.cell? ⟨w.heap.size + 1, 1, none⟩ = some (.string sb))
    (first | exact ⟨hc0, hc1, hd0, hd1⟩ | exact ⟨he1.keep hc0, he1.keep hc1, he1.keep hd0, he1.keep hd1⟩ | exact ⟨(he1.trans he2).keep hc0, (he1.trans he2).keep hc1, (he1.trans he2).keep hd0, (he1.trans he2).keep hd1⟩)
    (first | (go_at_call_of 78 (Value.string sa); refine (HA.out _).mono ?_; rintro e w1 ⟨v1, rfl, hf1, he1⟩) | (go_at_call_of 78 (Value.string sb); refine (HB.out _).mono ?_; rintro e w2 ⟨v2, rfl, hf2, he2⟩))
  obtain ⟨A1, c1, rfl, hv1⟩ := fresh_form hf1
  obtain ⟨A2, c2, rfl, hv2⟩ := fresh_form hf2
  have hla := limbs_len a ha
  have hlb := limbs_len b hb
  have hna : limbs B64 a ≠ [] := fun e => by have := (limbs_eq_nil B64_two).1 e; unfold B64 at hbig; omega
  obtain ⟨gx, hg1, rfl, rfl, hk1⟩ := hv1 hna
  have hRB : Blk w2 (w.heap.size + 1 + 1) 24 [.int .u64 0, .string ⟨#[]⟩] := hB3.ext (he1.undrew.trans he2)
  have hE2 : Ext w w2 := hEx.trans (he1.undrew.trans he2)
  have hsz : w.heap.size + 1 + 1 < W.heap.size := hB3.lt
  have hp : Pair w2 (w.heap.size + 1 + 1 + 1) gx (limbs B64 a) (limbs B64 b) A2 := by
    refine ⟨hk1.ext he2, Nat.lt_of_lt_of_le hsz hg1, limbs_mono h, hla, limbs_dig B64_two a, limbs_dig B64_two b, fun hne => ?_⟩
    obtain ⟨g2, hg2, _, rfl, hk2⟩ := hv2 hne
    have := hk1.lt
    exact ⟨g2, rfl, by omega, hk2⟩
  have vab : val B64 (limbs B64 a) = (a - b) + val B64 (limbs B64 b) := by rw [val_limbs B64_two, val_limbs B64_two]; omega
  have hlx := hp.lx
  have hly := hp.le
  have HP := Lib.hid hp
  have VAB := Lib.hid vab
  clear hf1 hf2 hv1 hv2 he1 he2 hB1 hB2 hB3 hEx hc0 hc1 hd0 hd1 hna hk1 HA HB ha hb h1 h hg1 hla hlb hsz hp vab hbig
  generalize limbs B64 a = X at *
  generalize limbs B64 b = Y at *
  generalize a - b = n at *
  generalize A2 = A at *
  have HRB := Lib.hid hRB
  have HE2 := Lib.hid hE2
  clear hRB hE2
  go_wp2
  go_loopw [8, 31] (fun c i wr => ∃ (k cc : Nat) (L : List Nat), k ≤ X.length ∧ cc ≤ 1 ∧ i = .int .i64 k ∧ c = .int .u64 cc ∧ Hid (L.length = X.length ∧ Dig B64 L ∧ L.drop k = X.drop k ∧ val B64 (X.take k) + cc * B64 ^ k = val B64 (L.take k) + val B64 (Y.take k)) ∧ Hid (Blk wr gx 22 (U L)) ∧ Hid (But gx w2 wr)) (fun _ i _ => X.length - (intOf i).toNat)
  case atStart =>
    refine ⟨0, 0, X, Nat.zero_le _, by omega, rfl, rfl, Lib.hid ⟨rfl, HP.out.dx, rfl, by simp⟩, Lib.hid HP.out.blk, Lib.hid (But.refl _ _)⟩
  case round =>
    obtain ⟨k, cc, L, hk, hcc, rfl, rfl, hL, hbk, hbut⟩ := hrel
    by_cases hkx : k < X.length
    · have hcx : wr.cell? ⟨gx, k, none⟩ = some (.int .u64 (X.getD k 0 : Nat)) := by
        rw [hbk.out.cell k, getD_U _ _ (by rw [hL.out.1]; exact hkx), getD_take_drop hL.out.2.2.1 hkx hL.out.1]
      have hfx : wr.frozen? ⟨gx, k, none⟩ = false := hbk.out.frozen k
      have hxd : X.getD k 0 < B64 := HP.out.dx.getD (by unfold B64; omega) k
      have hyd : Y.getD k 0 < B64 := HP.out.dy.getD (by unfold B64; omega) k
      have hstep : ∀ s q, X.getD k 0 + B64 * q = Y.getD k 0 + cc + s → s < B64 → (L.set k s).length = X.length ∧ Dig B64 (L.set k s) ∧ (L.set k s).drop (k + 1) = X.drop (k + 1) ∧ val B64 (X.take (k + 1)) + q * B64 ^ (k + 1) = val B64 ((L.set k s).take (k + 1)) + val B64 (Y.take (k + 1)) := by
        intro s q e hs
        obtain ⟨l1, l2, l3, l4⟩ := hL.out
        refine ⟨by simpa using l1, l2.set k hs, ?_, ?_⟩
        · rw [drop_set_succ, ← List.drop_drop, ← List.drop_drop, l3]
        · rw [val_take_set _ _ _ _ (by omega), val_take_getD B64 X, val_take_getD B64 Y, Nat.pow_succ]
          exact sub_step l4 e
      have HS := Lib.hid hstep
      have hY : k < Y.length → ∃ gy, A = some ⟨gy, 0, none⟩ ∧ wr.cell? ⟨gy, k, none⟩ = some (.int .u64 (Y.getD k 0 : Nat)) := fun hky => by
        obtain ⟨gy, h1, h2, h3⟩ := HP.out.other (fun e => by rw [e] at hky; simp at hky)
        exact ⟨gy, h1, by rw [(hbut.out.blk h3 h2).cell k, getD_U _ _ hky]⟩
      have hY0 : ¬ k < Y.length → Y.getD k 0 = 0 := fun h => getD_ge _ _ (by omega)
      have HY := Lib.hid hY
      have HY0 := Lib.hid hY0
      clear hstep hY hY0
      generalize X.getD k 0 = x at *
      by_cases hky : k < Y.length
      · obtain ⟨gy, rfl, hcy⟩ := HY.out hky
        clear HY0
        generalize Y.getD k 0 = y at *
        have hadd : ∀ W, (callFunc 98 #[.int .u64 x, .int .u64 y, .int .u64 cc]).run Tryd.prog W = .ok (.value (.tuple #[.int .u64 (sbD x y cc : Nat), .int .u64 (sbB x y cc : Nat)])) W := fun W => sub64 x y cc hcc W
        go_wp2
        go_roundw
        case rel =>
          exact ⟨k + 1, sbB x y cc, L.set k (sbD x y cc), by omega, sbB_le x y cc, by go_num, rfl, Lib.hid (HS.out _ _ (sb_eq hxd hyd hcc) (sbD_lt x y cc)), Lib.hid (by rw [← U_set]; exact hbk.out.set k _), Lib.hid (hbut.out.set k _)⟩
        case measure => simp [intOf]; omega
      · have hy0 := HY0.out hky
        rw [hy0] at HS
        clear HY HY0 hy0 hyd
        have hadd : ∀ W, (callFunc 98 #[.int .u64 x, .int .u64 0, .int .u64 cc]).run Tryd.prog W = .ok (.value (.tuple #[.int .u64 (sbD x 0 cc : Nat), .int .u64 (sbB x 0 cc : Nat)])) W := fun W => sub64 x 0 cc hcc W
        go_wp2
        go_roundw
        case rel =>
          exact ⟨k + 1, sbB x 0 cc, L.set k (sbD x 0 cc), by omega, sbB_le x 0 cc, by go_num, rfl, Lib.hid (HS.out _ _ (sb_eq hxd (by unfold B64; omega) hcc) (sbD_lt x 0 cc)), Lib.hid (by rw [← U_set]; exact hbk.out.set k _), Lib.hid (hbut.out.set k _)⟩
        case measure => simp [intOf]; omega
    · obtain rfl : k = X.length := by omega
      obtain ⟨l1, l2, l3, l4⟩ := hL.out
      have hval : val B64 X + cc * B64 ^ X.length = val B64 L + val B64 Y := by
        rw [List.take_length, List.take_of_length_le (l := L) (by omega), List.take_of_length_le hly] at l4
        exact l4
      have e : val B64 L = n := by
        have h1 := VAB.out
        have h2 := val_lt l2
        rw [l1] at h2
        rcases Nat.eq_zero_or_pos cc with h0 | h0
        · subst h0; omega
        · obtain rfl : cc = 1 := by omega
          omega
      have hr0 : Blk wr (w.heap.size + 1 + 1) 24 [.int .u64 0, .string ⟨#[]⟩] := hbut.out.blk HRB.out (by have := HP.out.base; omega)
      have hxw : Ext w wr := hbut.out.ext HE2.out (by have := HP.out.base; omega)
      have hcall : Calls Tryd.prog 77 #[.slice (some ⟨gx, 0, none⟩) X.length X.length] wr (Ret (.agg #[.int .u64 (lo n : Nat), .string (hi n)]) wr) := by
        have hh := fromWords_blk gx X.length L [] wr (by rw [List.append_nil]; exact hbk.out) (by omega) (by omega) l2
        rw [e, l1] at hh
        exact hh
      have HCC := Lib.hid hcall
      clear hcall e l1 l2 l3 l4 hval hL
      go_wp2_with fail
      refine (HCC.out).mono ?_
      rintro e w3 ⟨rfl, he3⟩
      have hr3 := hr0.ext he3
      have r0 : w3.cell? ⟨w.heap.size + 1 + 1, 0, none⟩ = some (.int .u64 0) := hr3.cell 0
      have r1 : w3.cell? ⟨w.heap.size + 1 + 1, 1, none⟩ = some (.string ⟨#[]⟩) := hr3.cell 1
      have f0 : w3.frozen? ⟨w.heap.size + 1 + 1, 0, none⟩ = false := hr3.frozen 0
      have f1 : w3.frozen? ⟨w.heap.size + 1 + 1, 1, none⟩ = false := hr3.frozen 1
      go_wp2
      refine ret_nat2 (w.heap.size + 1 + 1) _ _ _ rfl rfl rfl ((hr3.set 0 _).set 1 _) rfl ⟨rfl, ?_⟩
      exact (Below.setCell (Ext.trans hxw he3) (p := ⟨w.heap.size + 1 + 1, 0, none⟩) (by show _ ≤ _; simp; omega) _).setCell (p := ⟨w.heap.size + 1 + 1, 1, none⟩) (by show _ ≤ _; simp; omega) _

theorem sub_ge (a b : Nat) (ha : bl a ≤ 549755813888) (hb : bl b ≤ 549755813888) (h : b ≤ a) (w : World) :
    Calls Tryd.prog 40 #[.agg #[.int .u64 (lo a : Nat), .string (hi a)], .agg #[.int .u64 (lo b : Nat), .string (hi b)]] w (Ret (.tuple #[.agg #[.int .u64 (lo (a - b) : Nat), .string (hi (a - b))], .bool true]) w) := by
  rcases Nat.lt_or_ge a B64 with h' | h'
  · exact sub_small a b h' h w
  · exact sub_big a b ha hb h' h w

end Go.Proofs.YtcfpjgcellahnaaDoor
