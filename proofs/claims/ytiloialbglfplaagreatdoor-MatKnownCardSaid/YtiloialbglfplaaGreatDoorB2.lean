/- Walks: Add at any numbers, Sub. Shifts of lists of words: plain mathematics. Walks: shiftUp. Products of lists of words: plain mathematics. Walks: mulWords. Walks: Mul. The document's numbers: slices of 32-bit limbs. Division of a number of two words by one word, as math/bits does it: plain mathematics. Long division: plain mathematics. Long division by many words: plain mathematics. Numbers out of bytes: plain mathematics. The engine of the walks: blocks that are a function's own, and facts that last. The engine of the walks: its steps. The engine of the walks: the operations of a region that draws its order. Walks: shiftDown. Walks: Shift. Walks: the document's trim, NatOf, NatBits. Walks: FromBytes; the document's NatFrom. Walks: Bytes. Walks: the document's NatBytes; is. Roots: plain mathematics. Walks: Div of small numbers, Root (given Div). Walks: hand.Few, hand.Nat, law1.two. Walks: known. Walks: known of law1. The calls that the laws make, each by the sizes of its arguments. -/
import Derived.Laws.BitsAllLaws
import Derived.IntWalk
import Derived.Deep.MidRow
import Derived.RegionTactic
import Derived.BigRegion
import Derived.Lib.MinMax
import Derived.Laws.AppendOwnNone
import Derived.Test.YtiloialbglfplaaGreatDoorB1
namespace Go.Proofs.YtiloialbglfplaaGreatDoor
open Go.RowKit

set_option maxHeartbeats 1000000 in
theorem add_small (a b : Nat) (ha : a < B64) (hb : b < B64) (w : World) :
    Calls Tryz.prog 146 #[.agg #[.int .u64 (lo a : Nat), .string (hi a)], .agg #[.int .u64 (lo b : Nat), .string (hi b)]] w (Ret (.agg #[.int .u64 (lo (a + b) : Nat), .string (hi (a + b))]) w) := by
  have hadd : ∀ W, (callFunc 182 #[.int .u64 a, .int .u64 b, .int .u64 0]).run Tryz.prog W = .ok (.value (.tuple #[.int .u64 (adS a b 0 : Nat), .int .u64 (adC a b 0 : Nat)])) W := fun W => add64_0 a b W
  have hle := adC_le ha hb (show (0 : Nat) ≤ 1 by omega)
  have heq := ad_eq a b 0
  have hs := adS_lt a b 0
  rw [hi_small ha, hi_small hb, lo_small ha, lo_small hb]
  generalize adS a b 0 = s at *
  generalize adC a b 0 = c at *
  by_cases hc : c = 0
  · subst hc
    have e : a + b = s := by omega
    rw [e, hi_small hs, lo_small hs]
    clear e heq
    go_enter Tryz.func146, Tryz.ntmps146
    go_wp2
    go_returns
    exact ⟨rfl, (((Ext.refl _).alloc _).alloc _).alloc _⟩
  · obtain rfl : c = 1 := by omega
    have e : val B64 [s, 1] = a + b := by simp only [val_cons, val_nil]; omega
    have hcall : ∀ W, Blk W (w.heap.size + 1 + 1 + 1) 28 (U [s, 1]) → Calls Tryz.prog 143 #[.slice (some ⟨w.heap.size + 1 + 1 + 1, 0, none⟩) 2 2] W (Ret (.agg #[.int .u64 (lo (a + b) : Nat), .string (hi (a + b))]) W) := fun W hB => by
      have hh := fromWords_blk (w.heap.size + 1 + 1 + 1) 2 [s, 1] [] W (by simpa using hB) (by simp) (by simp) (Dig.cons hs (Dig.cons (by unfold B64; omega) (Dig.nil _)))
      rw [e] at hh
      exact hh
    have HC := Lib.hid hcall
    clear hcall e heq
    go_enter Tryz.func146, Tryz.ntmps146
    go_wp2_with fail
    generalize hW : ((w.alloc (.cells #[.int .u64 a, .string ⟨#[]⟩] 30)).alloc (.cells #[.int .u64 b, .string ⟨#[]⟩] 30)).alloc (.cells #[.int .u64 0, .string ⟨#[]⟩] 30) = W
    obtain ⟨_, _, hr, hx⟩ := boxes3 w W _ _ _ _ hW
    have hsz : W.heap.size = w.heap.size + 1 + 1 + 1 := by rw [← hW]; simp
    have hbw := Blk.new W 28 (U [s, 1])
    rw [hsz] at hbw
    refine (HC.out _ hbw).mono ?_
    rintro e w3 ⟨rfl, he3⟩
    have hr3 := (hr.alloc _).ext he3
    have r0 : w3.cell? ⟨w.heap.size + 1 + 1, 0, none⟩ = some (.int .u64 0) := hr3.cell 0
    have r1 : w3.cell? ⟨w.heap.size + 1 + 1, 1, none⟩ = some (.string ⟨#[]⟩) := hr3.cell 1
    have f0 : w3.frozen? ⟨w.heap.size + 1 + 1, 0, none⟩ = false := hr3.frozen 0
    have f1 : w3.frozen? ⟨w.heap.size + 1 + 1, 1, none⟩ = false := hr3.frozen 1
    clear hsz hbw hadd
    go_wp2
    refine ret_nat (w.heap.size + 1 + 1) _ _ rfl rfl ((hr3.set 0 _).set 1 _) rfl ⟨rfl, ?_⟩
    exact (Below.setCell (Ext.trans (hx.alloc _) he3) (p := ⟨w.heap.size + 1 + 1, 0, none⟩) (by show _ ≤ _; simp; omega) _).setCell (p := ⟨w.heap.size + 1 + 1, 1, none⟩) (by show _ ≤ _; simp; omega) _

theorem add_any (a b : Nat) (ha : bl a ≤ 549755813888) (hb : bl b ≤ 549755813888) (w : World) :
    Calls Tryz.prog 146 #[.agg #[.int .u64 (lo a : Nat), .string (hi a)], .agg #[.int .u64 (lo b : Nat), .string (hi b)]] w (Ret (.agg #[.int .u64 (lo (a + b) : Nat), .string (hi (a + b))]) w) := by
  rcases Nat.lt_or_ge a B64 with h | h
  · rcases Nat.lt_or_ge b B64 with h' | h'
    · exact add_small a b h h' w
    · exact add_big a b ha hb (.inr ⟨h, h'⟩) w
  · exact add_big a b ha hb (.inl h) w

/-! ### Sub -/
set_option maxHeartbeats 1000000 in
theorem sub_lt (a b : Nat) (ha : bl a ≤ 549755813888) (hb : bl b ≤ 549755813888) (h : a < b) (w : World) :
    Calls Tryz.prog 147 #[.agg #[.int .u64 (lo a : Nat), .string (hi a)], .agg #[.int .u64 (lo b : Nat), .string (hi b)]] w (Ret (.tuple #[.agg #[.int .u64 (lo 0 : Nat), .string (hi 0)], .bool false]) w) := by
  have e1 : lo 0 = 0 := rfl
  have e2 : hi 0 = ⟨#[]⟩ := hi_small (by unfold B64; omega)
  rw [e1, e2]
  have HC := Lib.hid (fun W => cmp_any a b ha hb W)
  rw [cmpN_lt h] at HC
  generalize hi a = sa at *
  generalize hi b = sb at *
  generalize lo a = la at *
  generalize lo b = lb at *
  clear e1 e2
  go_enter Tryz.func147, Tryz.ntmps147
  go_wp2_with fail
  generalize hW : ((w.alloc (.cells #[.int .u64 la, .string sa] 30)).alloc (.cells #[.int .u64 lb, .string sb] 30)).alloc (.cells #[.int .u64 0, .string ⟨#[]⟩] 30) = W
  obtain ⟨_, _, hr, hx⟩ := boxes3 w W _ _ _ _ hW
  clear hW
  refine (HC.out _).mono ?_
  rintro e w3 ⟨rfl, he3⟩
  have hr3 := hr.ext he3
  have r0 : w3.cell? ⟨w.heap.size + 1 + 1, 0, none⟩ = some (.int .u64 0) := hr3.cell 0
  have r1 : w3.cell? ⟨w.heap.size + 1 + 1, 1, none⟩ = some (.string ⟨#[]⟩) := hr3.cell 1
  have f0 : w3.frozen? ⟨w.heap.size + 1 + 1, 0, none⟩ = false := hr3.frozen 0
  have f1 : w3.frozen? ⟨w.heap.size + 1 + 1, 1, none⟩ = false := hr3.frozen 1
  go_wp2
  refine ret_nat2 (w.heap.size + 1 + 1) _ _ _ rfl rfl rfl ((hr3.set 0 _).set 1 _) rfl ⟨rfl, ?_⟩
  exact (Below.setCell (Ext.trans hx he3) (p := ⟨w.heap.size + 1 + 1, 0, none⟩) (by show _ ≤ _; simp; omega) _).setCell (p := ⟨w.heap.size + 1 + 1, 1, none⟩) (by show _ ≤ _; simp; omega) _

theorem cmpN_ge {a b : Nat} (h : b ≤ a) : 0 ≤ cmpN a b := by
  rcases Nat.lt_or_ge b a with h' | h'
  · rw [cmpN_gt h']; omega
  · obtain rfl : a = b := by omega
    rw [cmpN_eq]; omega

set_option maxHeartbeats 1000000 in
theorem sub_small (a b : Nat) (ha : a < B64) (h : b ≤ a) (w : World) :
    Calls Tryz.prog 147 #[.agg #[.int .u64 (lo a : Nat), .string (hi a)], .agg #[.int .u64 (lo b : Nat), .string (hi b)]] w (Ret (.tuple #[.agg #[.int .u64 (lo (a - b) : Nat), .string (hi (a - b))], .bool true]) w) := by
  have hb : b < B64 := by omega
  have hba : bl a ≤ 64 := bl_le ha
  have hbb : bl b ≤ 64 := bl_le hb
  have HC := Lib.hid (fun W => cmp_any a b (by omega) (by omega) W)
  have hge := cmpN_ge h
  rw [hi_small ha, hi_small hb, lo_small ha, lo_small hb] at *
  rw [hi_small (show a - b < B64 by omega), lo_small (show a - b < B64 by omega)]
  generalize cmpN a b = c at *
  have hd1 : (0 : Int) ≤ (a : Int) - (b : Int) := by omega
  have hd2 : (a : Int) - (b : Int) < 18446744073709551616 := by unfold B64 at ha; omega
  have hd3 : (a : Int) - (b : Int) = ((a - b : Nat) : Int) := by omega
  have HD := Lib.hid hd3
  clear hd3
  go_enter Tryz.func147, Tryz.ntmps147
  go_wp2_with fail
  generalize hW : ((w.alloc (.cells #[.int .u64 a, .string ⟨#[]⟩] 30)).alloc (.cells #[.int .u64 b, .string ⟨#[]⟩] 30)).alloc (.cells #[.int .u64 0, .string ⟨#[]⟩] 30) = W
  obtain ⟨hb1, hb2, hr, hx⟩ := boxes3 w W _ _ _ _ hW
  clear hW
  refine (HC.out _).mono ?_
  rintro e w3 ⟨rfl, he3⟩
  have hr3 := hr.ext he3
  have r0 : w3.cell? ⟨w.heap.size + 1 + 1, 0, none⟩ = some (.int .u64 0) := hr3.cell 0
  have r1 : w3.cell? ⟨w.heap.size + 1 + 1, 1, none⟩ = some (.string ⟨#[]⟩) := hr3.cell 1
  have f0 : w3.frozen? ⟨w.heap.size + 1 + 1, 0, none⟩ = false := hr3.frozen 0
  have f1 : w3.frozen? ⟨w.heap.size + 1 + 1, 1, none⟩ = false := hr3.frozen 1
  have a0 : w3.cell? ⟨w.heap.size, 0, none⟩ = some (.int .u64 a) := (hb1.ext he3).cell 0
  have a1 : w3.cell? ⟨w.heap.size, 1, none⟩ = some (.string ⟨#[]⟩) := (hb1.ext he3).cell 1
  have b0 : w3.cell? ⟨w.heap.size + 1, 0, none⟩ = some (.int .u64 b) := (hb2.ext he3).cell 0
  go_wp2
  refine ret_nat2 (w.heap.size + 1 + 1) _ _ _ rfl rfl rfl ((hr3.set 0 _).set 1 _) rfl ⟨?_, ?_⟩
  · rw [HD.out]; rfl
  · exact (Below.setCell (Ext.trans hx he3) (p := ⟨w.heap.size + 1 + 1, 0, none⟩) (by show _ ≤ _; simp; omega) _).setCell (p := ⟨w.heap.size + 1 + 1, 1, none⟩) (by show _ ≤ _; simp; omega) _

theorem limbs_mono {a b : Nat} (h : b ≤ a) : (limbs B64 b).length ≤ (limbs B64 a).length := by
  rcases Nat.lt_or_ge (limbs B64 a).length (limbs B64 b).length with h' | h'
  · have := lt_of_limbs B64_two h'; omega
  · exact h'

set_option maxHeartbeats 4000000 in
theorem sub_big (a b : Nat) (ha : bl a ≤ 549755813888) (hb : bl b ≤ 549755813888) (hbig : B64 ≤ a) (h : b ≤ a) (w : World) :
    Calls Tryz.prog 147 #[.agg #[.int .u64 (lo a : Nat), .string (hi a)], .agg #[.int .u64 (lo b : Nat), .string (hi b)]] w (Ret (.tuple #[.agg #[.int .u64 (lo (a - b) : Nat), .string (hi (a - b))], .bool true]) w) := by
  have HC := Lib.hid (fun W => cmp_any a b ha hb W)
  have hge := cmpN_ge h
  have h1 := hi_big hbig
  have HA : Hid (∀ W, Calls Tryz.prog 145 #[.agg #[.int .u64 (lo a : Nat), .string (hi a)]] W (RetS (Fresh W.heap.size (limbs B64 a)) W)) := Lib.hid (fun W => words_any a ha W)
  have HB : Hid (∀ W, Calls Tryz.prog 145 #[.agg #[.int .u64 (lo b : Nat), .string (hi b)]] W (RetS (Fresh W.heap.size (limbs B64 b)) W)) := Lib.hid (fun W => words_any b hb W)
  generalize hsa : hi a = sa at *
  generalize hsb : hi b = sb at *
  generalize hla : lo a = la at *
  generalize hlb : lo b = lb at *
  generalize cmpN a b = cc at *
  clear hsa hsb hla hlb
  go_enter Tryz.func147, Tryz.ntmps147
  go_wp2_with fail
  generalize hW : ((w.alloc (.cells #[.int .u64 la, .string sa] 30)).alloc (.cells #[.int .u64 lb, .string sb] 30)).alloc (.cells #[.int .u64 0, .string ⟨#[]⟩] 30) = W0
  obtain ⟨hB1, hB2, hB3, hEx⟩ := boxes3 w W0 _ _ _ _ hW
  clear hW
  refine (HC.out _).mono ?_
  rintro e W ⟨rfl, he0⟩
  replace hB1 := hB1.ext he0
  replace hB2 := hB2.ext he0
  replace hB3 := hB3.ext he0
  replace hEx := hEx.trans he0
  clear he0 HC
  have hc0 : W.cell? ⟨w.heap.size, 0, none⟩ = some (.int .u64 la) := hB1.cell 0
  have hc1 : W.cell? ⟨w.heap.size, 1, none⟩ = some (.string sa) := hB1.cell 1
  have hd0 : W.cell? ⟨w.heap.size + 1, 0, none⟩ = some (.int .u64 lb) := hB2.cell 0
  have hd1 : W.cell? ⟨w.heap.size + 1, 1, none⟩ = some (.string sb) := hB2.cell 1
  go_wp2
  go_region_held3 (fun w' => w'.cell? ⟨w.heap.size, 0, none⟩ = some (.int .u64 la) ∧ w'.cell? ⟨w.heap.size, 1, none⟩ = some (.string sa) ∧ w'.cell? ⟨w.heap.size + 1, 0, none⟩ = some (.int .u64 lb) ∧ w'.cell? ⟨w.heap.size + 1, 1, none⟩ = some (.string sb))
    (first | exact ⟨hc0, hc1, hd0, hd1⟩ | exact ⟨he1.keep hc0, he1.keep hc1, he1.keep hd0, he1.keep hd1⟩ | exact ⟨(he1.trans he2).keep hc0, (he1.trans he2).keep hc1, (he1.trans he2).keep hd0, (he1.trans he2).keep hd1⟩)
    (first | (go_at_call_of 145 (Value.string sa); refine (HA.out _).mono ?_; rintro e w1 ⟨v1, rfl, hf1, he1⟩) | (go_at_call_of 145 (Value.string sb); refine (HB.out _).mono ?_; rintro e w2 ⟨v2, rfl, hf2, he2⟩))
  obtain ⟨A1, c1, rfl, hv1⟩ := fresh_form hf1
  obtain ⟨A2, c2, rfl, hv2⟩ := fresh_form hf2
  have hla := limbs_len a ha
  have hlb := limbs_len b hb
  have hna : limbs B64 a ≠ [] := fun e => by have := (limbs_eq_nil B64_two).1 e; unfold B64 at hbig; omega
  obtain ⟨gx, hg1, rfl, rfl, hk1⟩ := hv1 hna
  have hRB : Blk w2 (w.heap.size + 1 + 1) 30 [.int .u64 0, .string ⟨#[]⟩] := hB3.ext (he1.undrew.trans he2)
  have hE2 : Ext w w2 := hEx.trans (he1.undrew.trans he2)
  have hsz : w.heap.size + 1 + 1 < W.heap.size := hB3.lt
  have hp : Pair w2 (w.heap.size + 1 + 1 + 1) gx (limbs B64 a) (limbs B64 b) A2 := by
    refine ⟨hk1.ext he2, Nat.lt_of_lt_of_le hsz hg1, limbs_mono h, hla, limbs_dig B64_two a, limbs_dig B64_two b, fun hne => ?_⟩
    obtain ⟨g2, hg2, _, rfl, hk2⟩ := hv2 hne
    have := hk1.lt
    exact ⟨g2, rfl, by omega, hk2⟩
  have vab : val B64 (limbs B64 a) = (a - b) + val B64 (limbs B64 b) := by rw [val_limbs B64_two, val_limbs B64_two]; omega
  have hlx := hp.lx
  have hly := hp.le
  have HP := Lib.hid hp
  have VAB := Lib.hid vab
  clear hf1 hf2 hv1 hv2 he1 he2 hB1 hB2 hB3 hEx hc0 hc1 hd0 hd1 hna hk1 HA HB ha hb h1 h hg1 hla hlb hsz hp vab hbig
  generalize limbs B64 a = X at *
  generalize limbs B64 b = Y at *
  generalize a - b = n at *
  generalize A2 = A at *
  have HRB := Lib.hid hRB
  have HE2 := Lib.hid hE2
  clear hRB hE2
  go_wp2
  go_loopw [8, 31] (fun c i wr => ∃ (k cc : Nat) (L : List Nat), k ≤ X.length ∧ cc ≤ 1 ∧ i = .int .i64 k ∧ c = .int .u64 cc ∧ Hid (L.length = X.length ∧ Dig B64 L ∧ L.drop k = X.drop k ∧ val B64 (X.take k) + cc * B64 ^ k = val B64 (L.take k) + val B64 (Y.take k)) ∧ Hid (Blk wr gx 28 (U L)) ∧ Hid (But gx w2 wr)) (fun _ i _ => X.length - (intOf i).toNat)
  case atStart =>
    refine ⟨0, 0, X, Nat.zero_le _, by omega, rfl, rfl, Lib.hid ⟨rfl, HP.out.dx, rfl, by simp⟩, Lib.hid HP.out.blk, Lib.hid (But.refl _ _)⟩
  case round =>
    obtain ⟨k, cc, L, hk, hcc, rfl, rfl, hL, hbk, hbut⟩ := hrel
    by_cases hkx : k < X.length
    · have hcx : wr.cell? ⟨gx, k, none⟩ = some (.int .u64 (X.getD k 0 : Nat)) := by
        rw [hbk.out.cell k, getD_U _ _ (by rw [hL.out.1]; exact hkx), getD_take_drop hL.out.2.2.1 hkx hL.out.1]
      have hfx : wr.frozen? ⟨gx, k, none⟩ = false := hbk.out.frozen k
      have hxd : X.getD k 0 < B64 := HP.out.dx.getD (by unfold B64; omega) k
      have hyd : Y.getD k 0 < B64 := HP.out.dy.getD (by unfold B64; omega) k
      have hstep : ∀ s q, X.getD k 0 + B64 * q = Y.getD k 0 + cc + s → s < B64 → (L.set k s).length = X.length ∧ Dig B64 (L.set k s) ∧ (L.set k s).drop (k + 1) = X.drop (k + 1) ∧ val B64 (X.take (k + 1)) + q * B64 ^ (k + 1) = val B64 ((L.set k s).take (k + 1)) + val B64 (Y.take (k + 1)) := by
        intro s q e hs
        obtain ⟨l1, l2, l3, l4⟩ := hL.out
        refine ⟨by simpa using l1, l2.set k hs, ?_, ?_⟩
        · rw [drop_set_succ, ← List.drop_drop, ← List.drop_drop, l3]
        · rw [val_take_set _ _ _ _ (by omega), val_take_getD B64 X, val_take_getD B64 Y, Nat.pow_succ]
          exact sub_step l4 e
      have HS := Lib.hid hstep
      have hY : k < Y.length → ∃ gy, A = some ⟨gy, 0, none⟩ ∧ wr.cell? ⟨gy, k, none⟩ = some (.int .u64 (Y.getD k 0 : Nat)) := fun hky => by
        obtain ⟨gy, h1, h2, h3⟩ := HP.out.other (fun e => by rw [e] at hky; simp at hky)
        exact ⟨gy, h1, by rw [(hbut.out.blk h3 h2).cell k, getD_U _ _ hky]⟩
      have hY0 : ¬ k < Y.length → Y.getD k 0 = 0 := fun h => getD_ge _ _ (by omega)
      have HY := Lib.hid hY
      have HY0 := Lib.hid hY0
      clear hstep hY hY0
      generalize X.getD k 0 = x at *
      by_cases hky : k < Y.length
      · obtain ⟨gy, rfl, hcy⟩ := HY.out hky
        clear HY0
        generalize Y.getD k 0 = y at *
        have hadd : ∀ W, (callFunc 183 #[.int .u64 x, .int .u64 y, .int .u64 cc]).run Tryz.prog W = .ok (.value (.tuple #[.int .u64 (sbD x y cc : Nat), .int .u64 (sbB x y cc : Nat)])) W := fun W => sub64 x y cc hcc W
        go_wp2
        go_roundw
        case rel =>
          exact ⟨k + 1, sbB x y cc, L.set k (sbD x y cc), by omega, sbB_le x y cc, by go_num, rfl, Lib.hid (HS.out _ _ (sb_eq hxd hyd hcc) (sbD_lt x y cc)), Lib.hid (by rw [← U_set]; exact hbk.out.set k _), Lib.hid (hbut.out.set k _)⟩
        case measure => simp [intOf]; omega
      · have hy0 := HY0.out hky
        rw [hy0] at HS
        clear HY HY0 hy0 hyd
        have hadd : ∀ W, (callFunc 183 #[.int .u64 x, .int .u64 0, .int .u64 cc]).run Tryz.prog W = .ok (.value (.tuple #[.int .u64 (sbD x 0 cc : Nat), .int .u64 (sbB x 0 cc : Nat)])) W := fun W => sub64 x 0 cc hcc W
        go_wp2
        go_roundw
        case rel =>
          exact ⟨k + 1, sbB x 0 cc, L.set k (sbD x 0 cc), by omega, sbB_le x 0 cc, by go_num, rfl, Lib.hid (HS.out _ _ (sb_eq hxd (by unfold B64; omega) hcc) (sbD_lt x 0 cc)), Lib.hid (by rw [← U_set]; exact hbk.out.set k _), Lib.hid (hbut.out.set k _)⟩
        case measure => simp [intOf]; omega
    · obtain rfl : k = X.length := by omega
      obtain ⟨l1, l2, l3, l4⟩ := hL.out
      have hval : val B64 X + cc * B64 ^ X.length = val B64 L + val B64 Y := by
        rw [List.take_length, List.take_of_length_le (l := L) (by omega), List.take_of_length_le hly] at l4
        exact l4
      have e : val B64 L = n := by
        have h1 := VAB.out
        have h2 := val_lt l2
        rw [l1] at h2
        rcases Nat.eq_zero_or_pos cc with h0 | h0
        · subst h0; omega
        · obtain rfl : cc = 1 := by omega
          omega
      have hr0 : Blk wr (w.heap.size + 1 + 1) 30 [.int .u64 0, .string ⟨#[]⟩] := hbut.out.blk HRB.out (by have := HP.out.base; omega)
      have hxw : Ext w wr := hbut.out.ext HE2.out (by have := HP.out.base; omega)
      have hcall : Calls Tryz.prog 143 #[.slice (some ⟨gx, 0, none⟩) X.length X.length] wr (Ret (.agg #[.int .u64 (lo n : Nat), .string (hi n)]) wr) := by
        have hh := fromWords_blk gx X.length L [] wr (by rw [List.append_nil]; exact hbk.out) (by omega) (by omega) l2
        rw [e, l1] at hh
        exact hh
      have HCC := Lib.hid hcall
      clear hcall e l1 l2 l3 l4 hval hL
      go_wp2_with fail
      refine (HCC.out).mono ?_
      rintro e w3 ⟨rfl, he3⟩
      have hr3 := hr0.ext he3
      have r0 : w3.cell? ⟨w.heap.size + 1 + 1, 0, none⟩ = some (.int .u64 0) := hr3.cell 0
      have r1 : w3.cell? ⟨w.heap.size + 1 + 1, 1, none⟩ = some (.string ⟨#[]⟩) := hr3.cell 1
      have f0 : w3.frozen? ⟨w.heap.size + 1 + 1, 0, none⟩ = false := hr3.frozen 0
      have f1 : w3.frozen? ⟨w.heap.size + 1 + 1, 1, none⟩ = false := hr3.frozen 1
      go_wp2
      refine ret_nat2 (w.heap.size + 1 + 1) _ _ _ rfl rfl rfl ((hr3.set 0 _).set 1 _) rfl ⟨rfl, ?_⟩
      exact (Below.setCell (Ext.trans hxw he3) (p := ⟨w.heap.size + 1 + 1, 0, none⟩) (by show _ ≤ _; simp; omega) _).setCell (p := ⟨w.heap.size + 1 + 1, 1, none⟩) (by show _ ≤ _; simp; omega) _

theorem sub_ge (a b : Nat) (ha : bl a ≤ 549755813888) (hb : bl b ≤ 549755813888) (h : b ≤ a) (w : World) :
    Calls Tryz.prog 147 #[.agg #[.int .u64 (lo a : Nat), .string (hi a)], .agg #[.int .u64 (lo b : Nat), .string (hi b)]] w (Ret (.tuple #[.agg #[.int .u64 (lo (a - b) : Nat), .string (hi (a - b))], .bool true]) w) := by
  rcases Nat.lt_or_ge a B64 with h' | h'
  · exact sub_small a b h' h w
  · exact sub_big a b ha hb h' h w
end Go.Proofs.YtiloialbglfplaaGreatDoor

namespace Go.Proofs.YtiloialbglfplaaGreatDoor

theorem or_add {p o y : Nat} (ho : o < 2 ^ p) : (o ||| 2 ^ p * y) = o + 2 ^ p * y := by
  rw [Nat.or_comm, ← Nat.two_pow_add_eq_or_of_lt ho, Nat.add_comm]
theorem two64 {p : Nat} (hp : p ≤ 64) : B64 = 2 ^ p * 2 ^ (64 - p) := by
  rw [← Nat.pow_add]; have : p + (64 - p) = 64 := by omega
  rw [this]; rfl
theorem shl_mod {p x : Nat} (hp : p ≤ 64) : x * 2 ^ p % B64 = 2 ^ p * (x % 2 ^ (64 - p)) := by
  rw [two64 hp, Nat.mul_comm x, Nat.mul_mod_mul_left]

/-- What shiftUp puts into the lower and into the upper word. -/
def upL (o x p : Nat) : Nat := o + 2 ^ p * (x % 2 ^ (64 - p))
def upH (x p : Nat) : Nat := x / 2 ^ (64 - p)

theorem upL_val {o x p : Nat} (hp : p < 64) (ho : o < 2 ^ p) : bits .or .u64 (o : Int) (IntKind.u64.wrap ((x : Int) * 2 ^ p)) = ((upL o x p : Nat) : Int) := by
  have e1 : IntKind.u64.wrap ((x : Int) * 2 ^ p) = ((x * 2 ^ p % B64 : Nat) : Int) := by
    rw [IntKind.wrap_u64]
    have : ((x : Int) * 2 ^ p) = ((x * 2 ^ p : Nat) : Int) := by push_cast; rfl
    rw [this]; rfl
  have hlt : x * 2 ^ p % B64 < 18446744073709551616 := Nat.mod_lt _ (by unfold B64; omega)
  have ho' : o < 18446744073709551616 := Nat.lt_of_lt_of_le ho (Nat.le_trans (Nat.pow_le_pow_right (by omega) (Nat.le_of_lt hp)) (Nat.le_refl _))
  rw [e1, u64_or_nat o _ ho' hlt, shl_mod (Nat.le_of_lt hp), or_add ho]
  rfl
theorem upH_val {x p : Nat} : (x : Int) / 2 ^ (64 - p) = ((upH x p : Nat) : Int) := by
  unfold upH; push_cast; rfl
theorem upL_lt {o x p : Nat} (hp : p ≤ 64) (ho : o < 2 ^ p) : upL o x p < B64 := by
  unfold upL
  rw [two64 hp]
  have h1 : x % 2 ^ (64 - p) < 2 ^ (64 - p) := Nat.mod_lt _ (Nat.pow_pos (by omega))
  have h2 := Nat.mul_le_mul_left (2 ^ p) h1
  rw [Nat.succ_eq_add_one, Nat.mul_add, Nat.mul_one] at h2
  omega
theorem upH_lt {x p : Nat} (hp : p ≤ 64) (hx : x < B64) : upH x p < 2 ^ p := by
  unfold upH
  rw [Nat.div_lt_iff_lt_mul (Nat.pow_pos (by omega)), ← two64 hp]
  exact hx
theorem up_sum {o x p : Nat} (hp : p ≤ 64) : upL o x p + B64 * upH x p = o + 2 ^ p * x := by
  unfold upL upH
  have h := Nat.mod_add_div x (2 ^ (64 - p))
  rw [two64 hp]
  generalize 2 ^ (64 - p) = m at *
  generalize x % m = r at *
  generalize x / m = d at *
  subst h
  grind

/-- What holds while shiftUp fills its list. -/
structure UpInv (xs : List Nat) (n k : Nat) (L : List Nat) : Prop where
  len : L.length = xs.length + n / 64 + 1
  dig : Dig B64 L
  val : val B64 L = val B64 (xs.take k) * 2 ^ n
  low : L.getD (k + n / 64) 0 < 2 ^ (n % 64)
  rest : ∀ i, k + n / 64 < i → L.getD i 0 = 0
theorem getD_rep (m i : Nat) : (List.replicate m 0).getD i 0 = 0 := by
  by_cases h : i < (List.replicate m 0).length
  · rw [getD_lt _ _ h]; simp
  · rw [getD_ge _ _ (by omega)]
theorem UpInv.start (xs : List Nat) (n : Nat) : UpInv xs n 0 (List.replicate (xs.length + n / 64 + 1) 0) :=
  ⟨by simp, Dig.rep (by unfold B64; omega) _, by rw [val_rep]; simp, by rw [getD_rep]; exact Nat.pow_pos (by omega), fun i _ => getD_rep _ i⟩

theorem getD_set (L : List Nat) (i j y : Nat) (h : i < L.length) : (L.set i y).getD j 0 = if j = i then y else L.getD j 0 := by
  by_cases e : j = i
  · subst e; rw [if_pos rfl, getD_lt _ _ (by simpa using h)]; simp
  · rw [if_neg e]
    simp only [List.getD_eq_getElem?_getD]
    rw [List.getElem?_set_ne (fun h => e h.symm)]

theorem UpInv.step {xs : List Nat} {n k : Nat} {L : List Nat} (h : UpInv xs n k L) (hk : k < xs.length) (hd : Dig B64 xs) :
    UpInv xs n (k + 1) ((L.set (k + n / 64) (upL (L.getD (k + n / 64) 0) (xs.getD k 0) (n % 64))).set (k + n / 64 + 1) (upH (xs.getD k 0) (n % 64))) := by
  have hp : n % 64 ≤ 64 := by omega
  have hx : xs.getD k 0 < B64 := hd.getD (by unfold B64; omega) k
  have hlen := h.len
  have hlow := h.low
  have h0 := h.rest (k + n / 64 + 1) (by omega)
  have hl1 : k + n / 64 < L.length := by omega
  have hl2 : k + n / 64 + 1 < L.length := by omega
  have hsum := up_sum (o := L.getD (k + n / 64) 0) (x := xs.getD k 0) hp
  have hL1 := upL_lt (x := xs.getD k 0) hp hlow
  have hH := upH_lt hp hx
  have v1 := val_set B64 L (k + n / 64) (upL (L.getD (k + n / 64) 0) (xs.getD k 0) (n % 64)) hl1
  have v2 := val_set B64 (L.set (k + n / 64) (upL (L.getD (k + n / 64) 0) (xs.getD k 0) (n % 64))) (k + n / 64 + 1) (upH (xs.getD k 0) (n % 64)) (by simpa using hl2)
  have e0 : (L.set (k + n / 64) (upL (L.getD (k + n / 64) 0) (xs.getD k 0) (n % 64)))[k + n / 64 + 1]'(by simpa using hl2) = 0 := by
    rw [List.getElem_set_ne (by omega), ← getD_lt _ _ hl2, h0]
  rw [e0] at v2
  rw [← getD_lt _ _ hl1] at v1
  have hPB : upH (xs.getD k 0) (n % 64) < B64 := Nat.lt_of_lt_of_le hH (Nat.le_trans (Nat.pow_le_pow_right (by omega) hp) (Nat.le_refl _))
  refine ⟨by simpa using hlen, (h.dig.set _ hL1).set _ hPB, ?_, ?_, fun i hi => ?_⟩
  · have e1 : B64 ^ (k + n / 64) * 2 ^ (n % 64) = B64 ^ k * 2 ^ n := by
      rw [Nat.pow_add, B64_pow (n / 64), Nat.mul_assoc, ← Nat.pow_add]
      congr 2; omega
    have hv := h.val
    rw [val_take_getD]
    rw [Nat.pow_succ] at v2
    clear e0 h0 hlow hL1 hH hPB hl1 hl2 hx
    generalize upL (L.getD (k + n / 64) 0) (xs.getD k 0) (n % 64) = d1 at *
    generalize upH (xs.getD k 0) (n % 64) = d2 at *
    generalize L.getD (k + n / 64) 0 = o at *
    generalize xs.getD k 0 = x at *
    generalize B64 ^ (k + n / 64) = Q at *
    generalize 2 ^ (n % 64) = P at *
    generalize B64 ^ k = K at *
    generalize 2 ^ n = N at *
    have e2 : Q * d1 + Q * B64 * d2 = Q * o + K * N * x := by
      have : Q * (d1 + B64 * d2) = Q * (o + P * x) := by rw [hsum]
      rw [← e1]; grind
    grind
  · rw [getD_set _ _ _ _ (by simpa using hl2), if_pos (by omega)]
    exact hH
  · rw [getD_set _ _ _ _ (by simpa using hl2), if_neg (by omega), getD_set _ _ _ _ hl1, if_neg (by omega)]
    exact h.rest i (by omega)

theorem getD_drop (xs : List Nat) (q i : Nat) : (xs.drop q).getD i 0 = xs.getD (q + i) 0 := by
  simp only [List.getD_eq_getElem?_getD, List.getElem?_drop]

/-! ### Downwards -/
/-- What shiftDown makes of a word and the next one. -/
def dnW (y y' p : Nat) : Nat := y / 2 ^ p + 2 ^ (64 - p) * (y' % 2 ^ p)
def dn (p : Nat) : List Nat → List Nat
  | [] => []
  | y :: ys => dnW y (ys.getD 0 0) p :: dn p ys
theorem dn_length (p : Nat) (ys : List Nat) : (dn p ys).length = ys.length := by
  induction ys with
  | nil => rfl
  | cons y ys ih => simp [dn, ih]
theorem dn_get (p : Nat) : ∀ (ys : List Nat) (i : Nat) (h : i < (dn p ys).length), (dn p ys)[i] = dnW (ys.getD i 0) (ys.getD (i + 1) 0) p
  | [], i, h => by simp [dn] at h
  | y :: ys, 0, _ => by simp [dn]
  | y :: ys, i + 1, h => by
    have := dn_get p ys i (by simpa [dn] using h)
    simp only [dn, List.getElem_cons_succ, this, List.getD_cons_succ]
theorem dnW_lt {y y' p : Nat} (hp : p ≤ 64) (hy : y < B64) : dnW y y' p < B64 := by
  unfold dnW
  have h1 : y / 2 ^ p < 2 ^ (64 - p) := by
    rw [Nat.div_lt_iff_lt_mul (Nat.pow_pos (by omega)), Nat.mul_comm, ← two64 hp]; exact hy
  have h2 : y' % 2 ^ p < 2 ^ p := Nat.mod_lt _ (Nat.pow_pos (by omega))
  have h3 := Nat.mul_le_mul_left (2 ^ (64 - p)) h2
  rw [Nat.succ_eq_add_one, Nat.mul_add, Nat.mul_one] at h3
  rw [two64 hp, Nat.mul_comm (2 ^ p)]
  omega
theorem dn_dig {p : Nat} (hp : p ≤ 64) : ∀ {ys : List Nat}, Dig B64 ys → Dig B64 (dn p ys)
  | [], _ => Dig.nil _
  | _ :: _, h => Dig.cons (dnW_lt hp h.head) (dn_dig hp h.tail)
theorem val_mod {p : Nat} (hp : p ≤ 64) (ys : List Nat) : val B64 ys % 2 ^ p = ys.getD 0 0 % 2 ^ p := by
  cases ys with
  | nil => rfl
  | cons y ys =>
    show (y + B64 * val B64 ys) % 2 ^ p = y % 2 ^ p
    rw [two64 hp, Nat.mul_assoc, Nat.add_mul_mod_self_left]
theorem dn_val {p : Nat} (hp : p ≤ 64) : ∀ {ys : List Nat}, val B64 (dn p ys) = val B64 ys / 2 ^ p
  | [] => by simp [dn]
  | y :: ys => by
    have ih := dn_val hp (ys := ys)
    have hm := val_mod hp ys
    have hP : 0 < 2 ^ p := Nat.pow_pos (by omega)
    simp only [dn, val_cons, ih, dnW, ← hm]
    have e : y + B64 * val B64 ys = y + 2 ^ p * (2 ^ (64 - p) * val B64 ys) := by rw [← Nat.mul_assoc, ← two64 hp]
    rw [e, Nat.add_mul_div_left _ _ hP, Nat.add_assoc]
    congr 1
    have h := Nat.mod_add_div (val B64 ys) (2 ^ p)
    have hB := two64 hp
    clear e hm ih
    generalize val B64 ys = V at *
    rw [hB]
    generalize 2 ^ (64 - p) = m at *
    generalize 2 ^ p = P at *
    generalize hr : V % P = r at *
    generalize hd : V / P = d at *
    rw [← h]
    grind
theorem val_drop {b : Nat} (hb : 0 < b) {xs : List Nat} (hd : Dig b xs) (q : Nat) (hq : q ≤ xs.length) : val b (xs.drop q) = val b xs / b ^ q := by
  have h1 := val_split b xs q hq
  have h2 := val_lt (hd.take q)
  rw [List.length_take, Nat.min_eq_left hq] at h2
  rw [h1, Nat.add_mul_div_left _ _ (Nat.pow_pos hb), Nat.div_eq_of_lt h2, Nat.zero_add]
/-- The list that shiftDown makes. -/
theorem dn_all {xs : List Nat} (hd : Dig B64 xs) (n : Nat) (hq : n / 64 ≤ xs.length) : val B64 (dn (n % 64) (xs.drop (n / 64))) = val B64 xs / 2 ^ n := by
  rw [dn_val (by omega), val_drop (by unfold B64; omega) hd _ hq, Nat.div_div_eq_div_mul, B64_pow, ← Nat.pow_add]
  congr 2; omega
theorem dnW_or {y y' p : Nat} (hp : p ≤ 64) (hy : y < B64) : bits .or .u64 ((y / 2 ^ p : Nat) : Int) (IntKind.u64.wrap ((y' : Int) * 2 ^ (64 - p))) = ((dnW y y' p : Nat) : Int) := by
  have e1 : IntKind.u64.wrap ((y' : Int) * 2 ^ (64 - p)) = ((y' * 2 ^ (64 - p) % B64 : Nat) : Int) := by
    rw [IntKind.wrap_u64]
    have : ((y' : Int) * 2 ^ (64 - p)) = ((y' * 2 ^ (64 - p) : Nat) : Int) := by push_cast; rfl
    rw [this]; rfl
  have hlt : y' * 2 ^ (64 - p) % B64 < 18446744073709551616 := Nat.mod_lt _ (by unfold B64; omega)
  have h1 : y / 2 ^ p < 2 ^ (64 - p) := by
    rw [Nat.div_lt_iff_lt_mul (Nat.pow_pos (by omega)), Nat.mul_comm, ← two64 hp]; exact hy
  have ho' : y / 2 ^ p < 18446744073709551616 := Nat.lt_of_le_of_lt (Nat.div_le_self _ _) hy
  have h64 : 64 - (64 - p) = p := by omega
  have hs := shl_mod (p := 64 - p) (x := y') (by omega)
  rw [h64] at hs
  rw [e1, u64_or_nat _ _ ho' hlt, hs, or_add h1]
  rfl
end Go.Proofs.YtiloialbglfplaaGreatDoor

namespace Go.Proofs.YtiloialbglfplaaGreatDoor
open Go.RowKit

/-- A slice that reads as these words. -/
def Rd (w : World) (xs : List Nat) (v : Value) : Prop := ∃ A c, v = .slice A xs.length c ∧ (xs ≠ [] → ∃ g off, A = some ⟨g, off, none⟩ ∧ g < w.heap.size ∧ ∀ i, i < xs.length → w.cell? ⟨g, off + i, none⟩ = some (.int .u64 (xs.getD i 0 : Nat)))
theorem Rd.ext {w w' : World} {xs : List Nat} {v : Value} (h : Rd w xs v) (e : Ext w w') : Rd w' xs v := by
  obtain ⟨A, c, rfl, hh⟩ := h
  refine ⟨A, c, rfl, fun hne => ?_⟩
  obtain ⟨g, off, rfl, hg, hc⟩ := hh hne
  exact ⟨g, off, rfl, Nat.lt_of_lt_of_le hg e.size, fun i hi => e.keep (hc i hi)⟩
theorem Fresh.rd {base : Nat} {xs : List Nat} {v : Value} {w : World} (h : Fresh base xs v w) : Rd w xs v := by
  rcases h with ⟨rfl, rfl⟩ | ⟨g, _, rfl, hb⟩
  · exact ⟨none, 0, rfl, fun h => absurd rfl h⟩
  · exact ⟨_, _, rfl, fun _ => ⟨g, 0, rfl, hb.lt, fun i hi => by rw [Nat.zero_add, hb.cell i, getD_U _ _ hi]⟩⟩

set_option maxHeartbeats 1000000 in
theorem shiftUp_any (v : Value) (xs : List Nat) (n : Nat) (w : World) (hr : Rd w xs v) (hx : xs.length ≤ 8589934593) (hn : n ≤ 549755813888) (hd : Dig B64 xs) :
    Calls Tryz.prog 193 #[v, .int .i64 n] w (RetS (fun v' w' => ∃ ys, ys.length = xs.length + n / 64 + 1 ∧ Dig B64 ys ∧ val B64 ys = val B64 xs * 2 ^ n ∧ Fresh w.heap.size ys v' w') w) := by
  obtain ⟨A, c, rfl, hh⟩ := hr
  have HH := Lib.hid hh
  clear hh
  go_enter Tryz.func193, Tryz.ntmps193
  go_wp2_with (at_make; refine wpList_mk _ rfl (.tmp 19) (.tmp 19) 183 28 rfl (.int .u64 0) 8 Tryz.underlying183 info64 rfl .i64 .i64 _ _ (xs.length + n / 64 + 1) rfl rfl ?c1 ?c1' ?c2 ?c3 ?_)
  case c1 => omega
  case c1' => omega
  case c2 => omega
  case c3 => omega
  intro w1 hx1 hs1 hb1
  rw [rep_U] at hb1
  have HX := Lib.hid hx1
  have HB := Lib.hid hb1
  clear hx1 hb1
  go_wp2
  go_loopw [23] (fun i wr => ∃ (k : Nat) (L : List Nat), k ≤ xs.length ∧ i = .int .i64 k ∧ Hid (UpInv xs n k L) ∧ Hid (Blk wr w.heap.size 28 (U L)) ∧ Hid (But w.heap.size w1 wr)) (fun i _ => xs.length - (intOf i).toNat)
  case atStart =>
    exact ⟨0, List.replicate (xs.length + n / 64 + 1) 0, Nat.zero_le _, rfl, Lib.hid (UpInv.start xs n), Lib.hid HB.out, Lib.hid (But.refl _ _)⟩
  case round =>
    obtain ⟨k, L, hk, rfl, hL, hbk, hbut⟩ := hrel
    by_cases hkx : k < xs.length
    · obtain ⟨g, off, rfl, hg, hcell⟩ := HH.out (fun e => by rw [e] at hkx; simp at hkx)
      have hcx : wr.cell? ⟨g, off + k, none⟩ = some (.int .u64 (xs.getD k 0 : Nat)) := by
        have h1 := HX.out.keep (hcell k hkx)
        have h2 : g < w.heap.size := hg
        rw [← h1]
        exact World.cell?_of_block (hbut.out.block g (by have := HX.out.size; omega) (fun e => by injection e with e; omega))
      have hlen := hL.out.len
      have hc1 : wr.cell? ⟨w.heap.size, k + n / 64, none⟩ = some (.int .u64 (L.getD (k + n / 64) 0 : Nat)) := by rw [hbk.out.cell, getD_U _ _ (by omega)]
      have hc2 : wr.cell? ⟨w.heap.size, k + n / 64 + 1, none⟩ = some (.int .u64 (L.getD (k + n / 64 + 1) 0 : Nat)) := by rw [hbk.out.cell, getD_U _ _ (by omega)]
      have hf1 : wr.frozen? ⟨w.heap.size, k + n / 64, none⟩ = false := hbk.out.frozen _
      have hf2 : wr.frozen? ⟨w.heap.size, k + n / 64 + 1, none⟩ = false := hbk.out.frozen _
      have hxd : xs.getD k 0 < B64 := hd.getD (by unfold B64; omega) k
      clear hcell hlen
      have hlow := hL.out.low
      have hnext := hL.out.step hkx hd
      have HN := Lib.hid hnext
      clear hnext
      generalize xs.getD k 0 = x at *
      generalize L.getD (k + n / 64) 0 = o at *
      generalize L.getD (k + n / 64 + 1) 0 = o2 at *
      have HLOW := Lib.hid hlow
      clear hlow
      go_wp2
      rw [upL_val (by omega) HLOW.out, upH_val]
      refine ⟨⟨k + 1, _, by omega, by go_num, HN, ?_, ?_⟩, by simp [intOf]; omega⟩
      · have h := (hbk.out.set (k + n / 64) (.int .u64 (upL o x (n % 64) : Nat))).set (k + n / 64 + 1) (.int .u64 (upH x (n % 64) : Nat))
        rw [U_set, U_set] at h
        exact Lib.hid h
      · exact Lib.hid ((hbut.out.set _ _).set _ _)
    · obtain rfl : k = xs.length := by omega
      go_wp2
      go_ret
      have hu := hL.out
      refine ⟨_, rfl, ⟨L, hu.len, hu.dig, ?_, .inr ⟨w.heap.size, Nat.le_refl _, ?_, hbk.out⟩⟩, hbut.out.ext HX.out (Nat.le_refl _)⟩
      · rw [hu.val, List.take_length]
      · rw [hu.len]; rfl
end Go.Proofs.YtiloialbglfplaaGreatDoor

namespace Go.Proofs.YtiloialbglfplaaGreatDoor

theorem mac_sum {B mn o c lo hi s1 c1 s2 c2 : Nat} (h1 : lo + B * hi = mn) (h2 : s1 + B * c1 = lo + o) (h3 : s2 + B * c2 = s1 + c) : s2 + B * (hi + c1 + c2) = mn + o + c := by grind
theorem mac_lt {B m n o c q r : Nat} (hm : m < B) (hn : n < B) (ho : o < B) (hc : c < B) (h : r + B * q = m * n + o + c) : q < B := by
  have h1 : m * n ≤ (B - 1) * (B - 1) := Nat.mul_le_mul (by omega) (by omega)
  rcases Nat.lt_or_ge q B with h' | h'
  · exact h'
  · exfalso
    have h2 : B * B ≤ B * q := Nat.mul_le_mul_left _ h'
    obtain ⟨b, rfl⟩ : ∃ b, B = b + 1 := ⟨B - 1, by omega⟩
    simp only [Nat.add_sub_cancel] at h1
    have h3 : (b + 1) * (b + 1) = b * b + 2 * b + 1 := by grind
    omega

theorem mulin_arith {VL' VL c I J o s q A YT x y B : Nat} (hv : VL + c * (I * J) = A + x * YT * I) (v : VL' + I * J * o = VL + I * J * s) (e : s + B * q = x * y + o + c) :
    VL' + q * (I * J * B) = A + x * (YT + J * y) * I := by
  have e2 : I * J * s + I * J * B * q = I * J * x * y + I * J * o + I * J * c := by
    have : I * J * (s + B * q) = I * J * (x * y + o + c) := by rw [e]
    grind
  clear e
  grind

/-- What holds in the inner loop of mulWords. -/
structure MulIn (xs ys : List Nat) (i j c : Nat) (L : List Nat) : Prop where
  len : L.length = xs.length + ys.length
  dig : Dig B64 L
  val : val B64 L + c * B64 ^ (i + j) = val B64 (xs.take i) * val B64 ys + xs.getD i 0 * val B64 (ys.take j) * B64 ^ i
  rest : ∀ t, i + ys.length ≤ t → L.getD t 0 = 0
/-- .. in the outer one. -/
structure MulOut (xs ys : List Nat) (i : Nat) (L : List Nat) : Prop where
  len : L.length = xs.length + ys.length
  dig : Dig B64 L
  val : val B64 L = val B64 (xs.take i) * val B64 ys
  rest : ∀ t, i + ys.length ≤ t → L.getD t 0 = 0
theorem MulOut.start (xs ys : List Nat) : MulOut xs ys 0 (List.replicate (xs.length + ys.length) 0) :=
  ⟨by simp, Dig.rep (by unfold B64; omega) _, by rw [val_rep]; simp, fun i _ => getD_rep _ i⟩
theorem MulOut.inner {xs ys : List Nat} {i : Nat} {L : List Nat} (h : MulOut xs ys i L) : MulIn xs ys i 0 0 L := ⟨h.len, h.dig, by simpa using h.val, h.rest⟩
theorem MulIn.step {xs ys : List Nat} {i j c : Nat} {L : List Nat} (h : MulIn xs ys i j c L) (hi : i < xs.length) (hj : j < ys.length) {s q : Nat} (hs : s < B64)
    (e : s + B64 * q = xs.getD i 0 * ys.getD j 0 + L.getD (i + j) 0 + c) : MulIn xs ys i (j + 1) q (L.set (i + j) s) := by
  have hlen := h.len
  have hl : i + j < L.length := by omega
  have v := val_set B64 L (i + j) s hl
  rw [← getD_lt _ _ hl] at v
  refine ⟨by simpa using hlen, h.dig.set _ hs, ?_, fun t ht => ?_⟩
  · have hv := h.val
    rw [val_take_getD B64 ys, ← Nat.add_assoc, Nat.pow_succ]
    have e1 : B64 ^ (i + j) = B64 ^ i * B64 ^ j := Nat.pow_add _ _ _
    rw [e1] at v hv ⊢
    exact mulin_arith hv v e
  · rw [getD_set _ _ _ _ hl, if_neg (by omega)]
    exact h.rest t ht
theorem MulIn.close {xs ys : List Nat} {i c : Nat} {L : List Nat} (h : MulIn xs ys i ys.length c L) (hi : i < xs.length) (hc : c < B64) : MulOut xs ys (i + 1) (L.set (i + ys.length) c) := by
  have hlen := h.len
  have hl : i + ys.length < L.length := by omega
  have v := val_set B64 L (i + ys.length) c hl
  rw [← getD_lt _ _ hl, h.rest _ (Nat.le_refl _)] at v
  refine ⟨by simpa using hlen, h.dig.set _ hc, ?_, fun t ht => ?_⟩
  · have hv := h.val
    rw [List.take_length] at hv
    rw [val_take_getD B64 xs]
    generalize B64 ^ (i + ys.length) = Q at *
    generalize B64 ^ i = I at *
    generalize xs.getD i 0 = x at *
    grind
  · rw [getD_set _ _ _ _ hl, if_neg (by omega)]
    exact h.rest t (by omega)
end Go.Proofs.YtiloialbglfplaaGreatDoor

namespace Go.Proofs.YtiloialbglfplaaGreatDoor
open Go.RowKit

set_option maxHeartbeats 2000000 in
theorem mulWords_any (v1 v2 : Value) (xs ys : List Nat) (w : World) (hr1 : Rd w xs v1) (hr2 : Rd w ys v2) (hx : xs.length ≤ 8589934593) (hy : ys.length ≤ 8589934593) (hd1 : Dig B64 xs) (hd2 : Dig B64 ys) :
    Calls Tryz.prog 144 #[v1, v2] w (RetS (fun v' w' => ∃ zs, zs.length = xs.length + ys.length ∧ Dig B64 zs ∧ val B64 zs = val B64 xs * val B64 ys ∧ Fresh w.heap.size zs v' w') w) := by
  obtain ⟨A, c, rfl, hh⟩ := hr1
  obtain ⟨A', c', rfl, hh'⟩ := hr2
  have HH := Lib.hid hh
  have HH' := Lib.hid hh'
  clear hh hh'
  go_enter Tryz.func144, Tryz.ntmps144
  go_wp2_with (at_make; refine wpList_mk _ rfl (.tmp 19) (.tmp 19) 183 28 rfl (.int .u64 0) 8 Tryz.underlying183 info64 rfl .i64 .i64 _ _ (xs.length + ys.length) rfl rfl ?c1 ?c1' ?c2 ?c3 ?_)
  case c1 => omega
  case c1' => omega
  case c2 => omega
  case c3 => omega
  intro w1 hx1 hs1 hb1
  rw [rep_U] at hb1
  have HX := Lib.hid hx1
  have HB := Lib.hid hb1
  clear hx1 hb1
  go_wp2
  go_loopw [23] (fun i wr => ∃ (k : Nat) (L : List Nat), k ≤ xs.length ∧ i = .int .i64 k ∧ Hid (MulOut xs ys k L) ∧ Hid (Blk wr w.heap.size 28 (U L)) ∧ Hid (But w.heap.size w1 wr)) (fun i _ => xs.length - (intOf i).toNat)
  case atStart =>
    exact ⟨0, _, Nat.zero_le _, rfl, Lib.hid (MulOut.start xs ys), Lib.hid HB.out, Lib.hid (But.refl _ _)⟩
  case round =>
    obtain ⟨k, L, hk, rfl, hL, hbk, hbut⟩ := hrel
    by_cases hkx : k < xs.length
    · obtain ⟨g, off, rfl, hg, hcell⟩ := HH.out (fun e => by rw [e] at hkx; simp at hkx)
      have hcx : wr.cell? ⟨g, off + k, none⟩ = some (.int .u64 (xs.getD k 0 : Nat)) := by
        rw [← HX.out.keep (hcell k hkx)]
        exact World.cell?_of_block (hbut.out.block g (by have := HX.out.size; omega) (fun e => by injection e with e; omega))
      have hxd : xs.getD k 0 < B64 := hd1.getD (by unfold B64; omega) k
      clear hcell
      have hin := hL.out.inner
      have HIN := Lib.hid hin
      clear hin hL
      generalize hxe : xs.getD k 0 = x at *
      have HXE := Lib.hid hxe
      clear hxe
      go_wp2
      obtain ⟨wo, rfl⟩ : ∃ wo : World, wo = wr := ⟨_, rfl⟩
      go_loopw [8, 30] (fun c i wr => ∃ (j cc : Nat) (L : List Nat), j ≤ ys.length ∧ i = .int .i64 j ∧ c = .int .u64 cc ∧ cc < B64 ∧ Hid (MulIn xs ys k j cc L) ∧ Hid (Blk wr w.heap.size 28 (U L)) ∧ Hid (But w.heap.size w1 wr)) (fun _ i _ => ys.length - (intOf i).toNat)
      case atStart => exact ⟨0, 0, L, Nat.zero_le _, rfl, rfl, by unfold B64; omega, HIN, hbk, hbut⟩
      case round =>
        clear hbk hbut HIN hcx
        obtain ⟨j, cc, L, hj, rfl, rfl, hcc, hL, hbk, hbut⟩ := hrel
        by_cases hjy : j < ys.length
        · obtain ⟨g', off', rfl, hg', hcell'⟩ := HH'.out (fun e => by rw [e] at hjy; simp at hjy)
          have hcy : wr.cell? ⟨g', off' + j, none⟩ = some (.int .u64 (ys.getD j 0 : Nat)) := by
            rw [← HX.out.keep (hcell' j hjy)]
            exact World.cell?_of_block (hbut.out.block g' (by have := HX.out.size; omega) (fun e => by injection e with e; omega))
          have hyd : ys.getD j 0 < B64 := hd2.getD (by unfold B64; omega) j
          have hlen := hL.out.len
          have hco : wr.cell? ⟨w.heap.size, k + j, none⟩ = some (.int .u64 (L.getD (k + j) 0 : Nat)) := by rw [hbk.out.cell, getD_U _ _ (by omega)]
          have hfo : wr.frozen? ⟨w.heap.size, k + j, none⟩ = false := hbk.out.frozen _
          have hod : L.getD (k + j) 0 < B64 := hL.out.dig.getD (by unfold B64; omega) _
          have hst := fun (s q : Nat) (hs : s < B64) (e : s + B64 * q = xs.getD k 0 * ys.getD j 0 + L.getD (k + j) 0 + cc) => hL.out.step hkx hjy hs e
          rw [HXE.out] at hst
          have HST := Lib.hid hst
          clear hst hcell' hlen
          generalize ys.getD j 0 = y at *
          generalize L.getD (k + j) 0 = o at *
          have e1 := mu_eq x y
          have e2 := ad_eq (muL x y) o 0
          have e3 := ad_eq (adS (muL x y) o 0) cc 0
          rw [Nat.add_zero] at e2 e3
          have hsum := mac_sum e1 e2 e3
          have hq := mac_lt hxd hyd hod hcc hsum
          have hs2 := adS_lt (adS (muL x y) o 0) cc 0
          have ha1 : ∀ W, (callFunc 182 #[.int .u64 (muL x y : Nat), .int .u64 o, .int .u64 0]).run Tryz.prog W = .ok (.value (.tuple #[.int .u64 (adS (muL x y) o 0 : Nat), .int .u64 (adC (muL x y) o 0 : Nat)])) W := fun W => add64_0 _ _ W
          have ha2 : ∀ W, (callFunc 182 #[.int .u64 (adS (muL x y) o 0 : Nat), .int .u64 cc, .int .u64 0]).run Tryz.prog W = .ok (.value (.tuple #[.int .u64 (adS (adS (muL x y) o 0) cc 0 : Nat), .int .u64 (adC (adS (muL x y) o 0) cc 0 : Nat)])) W := fun W => add64_0 _ _ W
          have HM := Lib.hid (fun W => mul64_any x y hxd hyd W)
          have hnext := HST.out _ _ hs2 hsum
          have HN := Lib.hid hnext
          clear e1 e2 e3 hsum HST hnext
          generalize adC (adS (muL x y) o 0) cc 0 = c2 at *
          generalize adS (adS (muL x y) o 0) cc 0 = s2 at *
          generalize adC (muL x y) o 0 = c1 at *
          generalize adS (muL x y) o 0 = s1 at *
          generalize muH x y = hh at *
          generalize muL x y = ll at *
          have b1 : (hh : Int) + (c1 : Int) ≤ 18446744073709551615 := by unfold B64 at hq; omega
          have b2 : (hh : Int) + (c1 : Int) + (c2 : Int) ≤ 18446744073709551615 := by unfold B64 at hq; omega
          go_wp2_with fail
          refine (HM.out _).mono ?_
          rintro e w' ⟨rfl, rfl⟩
          go_wp2
          go_roundw
          case rel =>
            refine ⟨j + 1, hh + c1 + c2, L.set (k + j) s2, by omega, by go_num, by go_num, hq, HN, Lib.hid (by rw [← U_set]; exact hbk.out.set _ _), Lib.hid (hbut.out.set _ _)⟩
          case measure => simp [intOf]; omega
        · obtain rfl : j = ys.length := by omega
          have hlen := hL.out.len
          have hco : wr.cell? ⟨w.heap.size, k + ys.length, none⟩ = some (.int .u64 (L.getD (k + ys.length) 0 : Nat)) := by rw [hbk.out.cell, getD_U _ _ (by omega)]
          have hfo : wr.frozen? ⟨w.heap.size, k + ys.length, none⟩ = false := hbk.out.frozen _
          have hcl := hL.out.close hkx hcc
          have HCL := Lib.hid hcl
          generalize L.getD (k + ys.length) 0 = o at *
          clear hcl hlen
          go_wp2
          go_roundw
          case rel => exact ⟨k + 1, L.set (k + ys.length) cc, by omega, by go_num, HCL, Lib.hid (by rw [← U_set]; exact hbk.out.set _ _), Lib.hid (hbut.out.set _ _)⟩
          case measure => simp [intOf]; omega
    · obtain rfl : k = xs.length := by omega
      go_wp2
      go_ret
      have hu := hL.out
      refine ⟨_, rfl, ⟨L, hu.len, hu.dig, ?_, .inr ⟨w.heap.size, Nat.le_refl _, ?_, hbk.out⟩⟩, hbut.out.ext HX.out (Nat.le_refl _)⟩
      · rw [hu.val, List.take_length]
      · rw [hu.len]; rfl
end Go.Proofs.YtiloialbglfplaaGreatDoor

namespace Go.Proofs.YtiloialbglfplaaGreatDoor
open Go.RowKit

/-- A word list that is some number's. -/
def Mw (n l : Nat) (v : Value) (w : World) : Prop := ∃ zs base, zs.length ≤ l ∧ Dig B64 zs ∧ val B64 zs = n ∧ Fresh base zs v w
theorem Mw.ext {n l : Nat} {v : Value} {w w' : World} (h : Mw n l v w) (e : Ext w w') : Mw n l v w' := by
  obtain ⟨zs, base, h1, h2, h3, h4⟩ := h
  exact ⟨zs, base, h1, h2, h3, h4.ext e⟩
theorem fromWords_mw {n l : Nat} {v : Value} (w : World) (h : Mw n l v w) (hl : l ≤ 10000000000) :
    Calls Tryz.prog 143 #[v] w (Ret (.agg #[.int .u64 (lo n : Nat), .string (hi n)]) w) := by
  obtain ⟨zs, base, h1, h2, h3, h4⟩ := h
  have := fromWords_fresh w h4 (by omega) h2
  rwa [h3] at this
theorem words_mw (n : Nat) (hn : bl n ≤ 549755813888) (w : World) :
    Calls Tryz.prog 145 #[.agg #[.int .u64 (lo n : Nat), .string (hi n)]] w (RetS (Mw n 8589934593) w) :=
  (words_any n hn w).mono fun _ _ ⟨v, he, hf, hx⟩ => ⟨v, he, ⟨_, _, limbs_len n hn, limbs_dig B64_two n, val_limbs B64_two n, hf⟩, hx⟩
theorem mulWords_mw {a b l1 l2 : Nat} {v1 v2 : Value} (w : World) (h1 : Mw a l1 v1 w) (h2 : Mw b l2 v2 w) (hl1 : l1 ≤ 8589934593) (hl2 : l2 ≤ 8589934593) :
    Calls Tryz.prog 144 #[v1, v2] w (RetS (Mw (a * b) (l1 + l2)) w) := by
  obtain ⟨xs, base, r1, r2, r3, r4⟩ := h1
  obtain ⟨ys, base', s1, s2, s3, s4⟩ := h2
  refine (mulWords_any v1 v2 xs ys w r4.rd s4.rd (by omega) (by omega) r2 s2).mono ?_
  rintro e w' ⟨v, rfl, ⟨zs, t1, t2, t3, t4⟩, hx⟩
  exact ⟨v, rfl, ⟨zs, _, by omega, t2, by rw [t3, r3, s3], t4⟩, hx⟩

set_option maxHeartbeats 2000000 in
theorem mul_big (a b : Nat) (ha : bl a ≤ 274877906944) (hb : bl b ≤ 274877906944) (h : B64 ≤ a ∨ (a < B64 ∧ B64 ≤ b)) (w : World) :
    Calls Tryz.prog 89 #[.agg #[.int .u64 (lo a : Nat), .string (hi a)], .agg #[.int .u64 (lo b : Nat), .string (hi b)]] w (Ret (.agg #[.int .u64 (lo (a * b) : Nat), .string (hi (a * b))]) w) := by
  have hg : (hi a).toList.isEmpty = false ∨ ((hi a).toList.isEmpty = true ∧ (hi b).toList.isEmpty = false) := by
    rcases h with h | ⟨h0, h⟩
    · exact .inl (hi_big h)
    · exact .inr ⟨by rw [hi_small h0, Lib.toList_data]; rfl, hi_big h⟩
  have hwa : ∀ W, Calls Tryz.prog 145 #[.agg #[.int .u64 (lo a : Nat), .string (hi a)]] W (RetS (Mw a 4294967297) W) := fun W =>
    (words_any a (by omega) W).mono fun _ _ ⟨v, he, hf, hx⟩ => ⟨v, he, ⟨_, _, by have := limbs_bl a; omega, limbs_dig B64_two a, val_limbs B64_two a, hf⟩, hx⟩
  have hwb : ∀ W, Calls Tryz.prog 145 #[.agg #[.int .u64 (lo b : Nat), .string (hi b)]] W (RetS (Mw b 4294967297) W) := fun W =>
    (words_any b (by omega) W).mono fun _ _ ⟨v, he, hf, hx⟩ => ⟨v, he, ⟨_, _, by have := limbs_bl b; omega, limbs_dig B64_two b, val_limbs B64_two b, hf⟩, hx⟩
  have HA := Lib.hid hwa
  have HB := Lib.hid hwb
  clear hwa hwb h
  generalize hi a = sa at *
  generalize hi b = sb at *
  generalize lo a = la at *
  generalize lo b = lb at *
  rcases hg with h1 | ⟨h1, h1'⟩
  all_goals
    go_enter Tryz.func89, Tryz.ntmps89
    go_wp2
    generalize hW : ((w.alloc (.cells #[.int .u64 la, .string sa] 30)).alloc (.cells #[.int .u64 lb, .string sb] 30)).alloc (.cells #[.int .u64 0, .string ⟨#[]⟩] 30) = W
    obtain ⟨hB1, hB2, hB3, hEx⟩ := boxes3 w W _ _ _ _ hW
    clear hW
    refine wp_region_all goesExt 6 [fun v _ => v = .agg #[.int .u64 la, .string sa], Mw a 4294967297, fun v _ => v = .agg #[.int .u64 lb, .string sb], Mw b 4294967297, Mw (a * b) (4294967297 + 4294967297), fun v _ => v = .agg #[.int .u64 (lo (a * b) : Nat), .string (hi (a * b))]] (by kernel_rfl) (by kernel_rfl) ?hG ?hQ ⟨fun h => (by cases h), fun _ => ?o0, fun h => (by cases h), fun _ => ?o1, fun h => (by cases h), fun _ => ?o2, fun h => (by cases h), fun _ => ?o3, fun h => (by cases h), fun _ => ?o4, fun h => (by cases h), fun _ => ?o5, trivial⟩ ?fin
    case hG =>
      intro g hg
      simp at hg
      rcases hg with rfl | rfl | rfl | rfl | rfl | rfl
      all_goals first | exact fun _ _ _ _ h => h | exact fun _ _ _ e h => h.ext e
    case hQ => exact fun c a w d v h => by cases d <;> exact h
    case o0 =>
      intro v w' hw hj
      have c0 : w'.cell? ⟨w.heap.size, 0, none⟩ = some (.int .u64 la) := (hB1.ext hw).cell 0
      have c1 : w'.cell? ⟨w.heap.size, 1, none⟩ = some (.string sa) := (hB1.ext hw).cell 1
      simp [putOps]
      go_wp2
      exact ⟨rfl, rfl, Ext.refl _, fun d hd => by cases hd; rfl⟩
    case o1 =>
      intro v w' hw hj
      have e0 : v 0 = .agg #[.int .u64 la, .string sa] := hj 0 (by kernel_rfl)
      simp [putOps, Act.put, e0]
      go_wp2_with fail
      refine (HA.out _).mono ?_
      rintro e w2 ⟨u, rfl, h1, h2⟩
      go_wp2
      exact ⟨rfl, rfl, h2, fun d hd => by cases hd; exact h1⟩
    case o2 =>
      intro v w' hw hj
      have c0 : w'.cell? ⟨w.heap.size + 1, 0, none⟩ = some (.int .u64 lb) := (hB2.ext hw).cell 0
      have c1 : w'.cell? ⟨w.heap.size + 1, 1, none⟩ = some (.string sb) := (hB2.ext hw).cell 1
      simp [putOps, Act.put]
      go_wp2
      exact ⟨rfl, rfl, Ext.refl _, fun d hd => by cases hd; rfl⟩
    case o3 =>
      intro v w' hw hj
      have e0 : v 2 = .agg #[.int .u64 lb, .string sb] := hj 2 (by kernel_rfl)
      simp [putOps, Act.put, e0]
      go_wp2_with fail
      refine (HB.out _).mono ?_
      rintro e w2 ⟨u, rfl, h1, h2⟩
      go_wp2
      exact ⟨rfl, rfl, h2, fun d hd => by cases hd; exact h1⟩
    case o4 =>
      intro v w' hw hj
      have e1 : Mw a 4294967297 (v 1) w' := hj 1 (by kernel_rfl)
      have e3 : Mw b 4294967297 (v 3) w' := hj 3 (by kernel_rfl)
      simp [putOps, Act.put]
      go_wp2_with fail
      refine (mulWords_mw w' e1 e3 (by omega) (by omega)).mono ?_
      rintro e w2 ⟨u, rfl, h1, h2⟩
      go_wp2
      exact ⟨rfl, rfl, h2, fun d hd => by cases hd; exact h1⟩
    case o5 =>
      intro v w' hw hj
      have e1 : Mw (a * b) (4294967297 + 4294967297) (v 4) w' := hj 4 (by kernel_rfl)
      simp [putOps, Act.put]
      go_wp2_with fail
      refine (fromWords_mw w' e1 (by omega)).mono ?_
      rintro e w2 ⟨rfl, h2⟩
      go_wp2
      exact ⟨rfl, rfl, h2, fun d hd => by cases hd; rfl⟩
    case fin =>
      intro v w3 hw hj
      have e5 : v 5 = .agg #[.int .u64 (lo (a * b) : Nat), .string (hi (a * b))] := hj 5 36 (by omega) rfl
      have hr3 := hB3.ext hw
      have r0 : w3.cell? ⟨w.heap.size + 1 + 1, 0, none⟩ = some (.int .u64 0) := hr3.cell 0
      have r1 : w3.cell? ⟨w.heap.size + 1 + 1, 1, none⟩ = some (.string ⟨#[]⟩) := hr3.cell 1
      have f0 : w3.frozen? ⟨w.heap.size + 1 + 1, 0, none⟩ = false := hr3.frozen 0
      have f1 : w3.frozen? ⟨w.heap.size + 1 + 1, 1, none⟩ = false := hr3.frozen 1
      simp [putOps, Act.put, e5]
      go_wp2
      refine ret_nat (w.heap.size + 1 + 1) _ _ rfl rfl ((hr3.set 0 _).set 1 _) rfl ⟨rfl, ?_⟩
      exact (Below.setCell (Ext.trans hEx hw) (p := ⟨w.heap.size + 1 + 1, 0, none⟩) (by show _ ≤ _; simp; omega) _).setCell (p := ⟨w.heap.size + 1 + 1, 1, none⟩) (by show _ ≤ _; simp; omega) _

set_option maxHeartbeats 1000000 in
theorem mul_small (a b : Nat) (ha : a < B64) (hb : b < B64) (w : World) :
    Calls Tryz.prog 89 #[.agg #[.int .u64 (lo a : Nat), .string (hi a)], .agg #[.int .u64 (lo b : Nat), .string (hi b)]] w (Ret (.agg #[.int .u64 (lo (a * b) : Nat), .string (hi (a * b))]) w) := by
  have HM := Lib.hid (fun W => mul64_any a b ha hb W)
  have heq := mu_eq a b
  have hs := muL_lt a b
  have hh : muH a b < B64 := mac_lt (B := B64) (o := 0) (c := 0) ha hb (by unfold B64; omega) (by unfold B64; omega) (by simpa using heq)
  rw [hi_small ha, hi_small hb, lo_small ha, lo_small hb]
  generalize muL a b = s at *
  generalize muH a b = c at *
  by_cases hc : c = 0
  · subst hc
    have e : a * b = s := by omega
    rw [e, hi_small hs, lo_small hs]
    clear e heq
    go_enter Tryz.func89, Tryz.ntmps89
    go_wp2_with (go_at_call 142; refine (HM.out _).mono ?_; rintro e w' ⟨rfl, rfl⟩)
    go_returns
    exact ⟨rfl, (((Ext.refl _).alloc _).alloc _).alloc _⟩
  · have e : val B64 [s, c] = a * b := by simp only [val_cons, val_nil]; omega
    have hcb : ((c : Int) == 0) = false := beq_eq_false_iff_ne.2 (by omega)
    have hcall : ∀ W, Blk W (w.heap.size + 1 + 1 + 1) 28 (U [s, c]) → Calls Tryz.prog 143 #[.slice (some ⟨w.heap.size + 1 + 1 + 1, 0, none⟩) 2 2] W (Ret (.agg #[.int .u64 (lo (a * b) : Nat), .string (hi (a * b))]) W) := fun W hB => by
      have hh := fromWords_blk (w.heap.size + 1 + 1 + 1) 2 [s, c] [] W (by simpa using hB) (by simp) (by simp) (Dig.cons hs (Dig.cons hh (Dig.nil _)))
      rw [e] at hh
      exact hh
    have HC := Lib.hid hcall
    clear hcall e heq
    go_enter Tryz.func89, Tryz.ntmps89
    go_wp2_with (go_at_call 142; refine (HM.out _).mono ?_; rintro e w' ⟨rfl, rfl⟩)
    generalize hW : ((w.alloc (.cells #[.int .u64 a, .string ⟨#[]⟩] 30)).alloc (.cells #[.int .u64 b, .string ⟨#[]⟩] 30)).alloc (.cells #[.int .u64 0, .string ⟨#[]⟩] 30) = W
    obtain ⟨_, _, hr, hx⟩ := boxes3 w W _ _ _ _ hW
    have hsz : W.heap.size = w.heap.size + 1 + 1 + 1 := by rw [← hW]; simp
    have hbw := Blk.new W 28 (U [s, c])
    rw [hsz] at hbw
    refine (HC.out _ hbw).mono ?_
    rintro e w3 ⟨rfl, he3⟩
    have hr3 := (hr.alloc _).ext he3
    have r0 : w3.cell? ⟨w.heap.size + 1 + 1, 0, none⟩ = some (.int .u64 0) := hr3.cell 0
    have r1 : w3.cell? ⟨w.heap.size + 1 + 1, 1, none⟩ = some (.string ⟨#[]⟩) := hr3.cell 1
    have f0 : w3.frozen? ⟨w.heap.size + 1 + 1, 0, none⟩ = false := hr3.frozen 0
    have f1 : w3.frozen? ⟨w.heap.size + 1 + 1, 1, none⟩ = false := hr3.frozen 1
    clear hsz hbw
    go_wp2
    refine ret_nat (w.heap.size + 1 + 1) _ _ rfl rfl ((hr3.set 0 _).set 1 _) rfl ⟨rfl, ?_⟩
    exact (Below.setCell (Ext.trans (hx.alloc _) he3) (p := ⟨w.heap.size + 1 + 1, 0, none⟩) (by show _ ≤ _; simp; omega) _).setCell (p := ⟨w.heap.size + 1 + 1, 1, none⟩) (by show _ ≤ _; simp; omega) _

theorem mul_any (a b : Nat) (ha : bl a ≤ 274877906944) (hb : bl b ≤ 274877906944) (w : World) :
    Calls Tryz.prog 89 #[.agg #[.int .u64 (lo a : Nat), .string (hi a)], .agg #[.int .u64 (lo b : Nat), .string (hi b)]] w (Ret (.agg #[.int .u64 (lo (a * b) : Nat), .string (hi (a * b))]) w) := by
  rcases Nat.lt_or_ge a B64 with h | h
  · rcases Nat.lt_or_ge b B64 with h' | h'
    · exact mul_small a b h h' w
    · exact mul_big a b ha hb (.inr ⟨h, h'⟩) w
  · exact mul_big a b ha hb (.inl h) w
end Go.Proofs.YtiloialbglfplaaGreatDoor

namespace Go.Proofs.YtiloialbglfplaaGreatDoor

def B32 : Nat := 4294967296
theorem B32_two : 2 ≤ B32 := by unfold B32; omega
theorem B32_pow (k : Nat) : B32 ^ k = 2 ^ (32 * k) := by
  have : B32 = 2 ^ 32 := rfl
  rw [this, ← Nat.pow_mul]
theorem B32_256 : B32 = 256 ^ 4 := rfl
/-- Cells of limbs. -/
def V32 (xs : List Nat) : List Value := xs.map fun x => .int .u32 (x : Nat)
theorem V32_length (xs : List Nat) : (V32 xs).length = xs.length := by simp [V32]
theorem V32_set (xs : List Nat) (i x : Nat) : (V32 xs).set i (.int .u32 (x : Nat)) = V32 (xs.set i x) := by simp [V32, List.map_set]
theorem V32_rep (n : Nat) : List.replicate n (Value.int .u32 0) = V32 (List.replicate n 0) := by simp [V32]
theorem getD_V32 (xs : List Nat) (i : Nat) (h : i < xs.length) : (V32 xs)[i]? = some (.int .u32 (xs.getD i 0 : Nat)) := by
  unfold V32
  rw [List.getElem?_map, List.getElem?_eq_getElem h, getD_lt xs i h]
  rfl
/-- A slice that reads as these limbs. -/
def Sl32 (xs : List Nat) (v : Value) (w : World) : Prop :=
  ∃ A c, v = .slice A xs.length c ∧ xs.length ≤ c ∧ (xs ≠ [] → ∃ g off, A = some ⟨g, off, none⟩ ∧ g < w.heap.size ∧ ∀ i, i < xs.length → w.cell? ⟨g, off + i, none⟩ = some (.int .u32 (xs.getD i 0 : Nat)))
theorem Sl32.ext {w w' : World} {xs : List Nat} {v : Value} (h : Sl32 xs v w) (e : Ext w w') : Sl32 xs v w' := by
  obtain ⟨A, c, rfl, hc, hh⟩ := h
  refine ⟨A, c, rfl, hc, fun hne => ?_⟩
  obtain ⟨g, off, rfl, hg, hc⟩ := hh hne
  exact ⟨g, off, rfl, Nat.lt_of_lt_of_le hg e.size, fun i hi => e.keep (hc i hi)⟩
theorem Sl32.of_blk {w : World} {g : Nat} {xs : List Nat} (h : Blk w g 156 (V32 xs)) : Sl32 xs (.slice (some ⟨g, 0, none⟩) xs.length xs.length) w :=
  ⟨_, _, rfl, Nat.le_refl _, fun _ => ⟨g, 0, rfl, h.lt, fun i hi => by rw [Nat.zero_add, h.cell i, getD_V32 _ _ hi]⟩⟩
theorem Sl32.nil (w : World) : Sl32 [] (.slice none 0 0) w := ⟨none, 0, rfl, by simp, fun h => absurd rfl h⟩
/-- A number of the document's. -/
def R32 (m : Nat) (v : Value) (w : World) : Prop := Sl32 (limbs B32 m) v w
theorem R32.ext {w w' : World} {m : Nat} {v : Value} (h : R32 m v w) (e : Ext w w') : R32 m v w' := Sl32.ext h e
theorem R32.nil (w : World) : R32 0 (.slice none 0 0) w := by unfold R32; rw [limbs_zero]; exact Sl32.nil w

theorem limbs_take {b : Nat} (hb : 2 ≤ b) {xs : List Nat} (hd : Dig b xs) : limbs b (val b xs) = xs.take (limbs b (val b xs)).length := by
  have hmx := limbs_length_le hb hd
  generalize hm : (limbs b (val b xs)).length = m at *
  have hdt := hd.take m
  have hv : val b xs = val b (xs.take m) + b ^ m * val b (xs.drop m) := val_split b xs m hmx
  have hlt : val b xs < b ^ m := (limbs_length_le_iff hb _ _).1 (by omega)
  have h0 : val b (xs.drop m) = 0 := by
    rcases Nat.eq_zero_or_pos (val b (xs.drop m)) with h | h
    · exact h
    · have : b ^ m * 1 ≤ b ^ m * val b (xs.drop m) := Nat.mul_le_mul_left _ h
      omega
  rw [h0, Nat.mul_zero, Nat.add_zero] at hv
  refine val_inj (limbs_dig hb _) hdt ?_ ?_
  · rw [hm, List.length_take, Nat.min_eq_left hmx]
  · rw [val_limbs hb, hv]
theorem limbs_getD_of {b : Nat} (hb : 2 ≤ b) {xs : List Nat} (hd : Dig b xs) {i : Nat} (hi : i < (limbs b (val b xs)).length) : (limbs b (val b xs)).getD i 0 = xs.getD i 0 := by
  have e := limbs_take hb hd
  generalize (limbs b (val b xs)).length = m at *
  rw [e]
  simp only [List.getD_eq_getElem?_getD]
  rw [List.getElem?_take_of_lt hi]
theorem limbs32_len (m k : Nat) (h : bl m ≤ 32 * k) : (limbs B32 m).length ≤ k := by
  rw [limbs_length_le_iff B32_two, B32_pow]
  exact (bl_le_iff m _).1 h
theorem bl_half {x : Nat} (h : x ≠ 0) : bl x = bl (x / 2) + 1 := by
  unfold bl
  rw [limbs_pos (by omega) h]; simp
theorem bl_top32 (m : Nat) (h : m ≠ 0) : bl m = 32 * ((limbs B32 m).length - 1) + bl ((limbs B32 m).getD ((limbs B32 m).length - 1) 0) := by
  have hl := limbs_length_pos B32_two h
  have hd := limbs_dig B32_two m
  have ht := limbs_top B32_two m
  have hv := val_limbs B32_two m
  generalize limbs B32 m = xs at *
  have h1 := val_take_getD B32 xs (xs.length - 1)
  rw [show xs.length - 1 + 1 = xs.length from by omega, List.take_length, hv] at h1
  have h2 := val_lt (hd.take (xs.length - 1))
  rw [List.length_take, Nat.min_eq_left (by omega)] at h2
  rw [B32_pow] at h1 h2
  have h3 : xs.getD (xs.length - 1) 0 ≠ 0 := by
    rw [getD_lt _ _ (by omega)]
    intro e
    apply ht
    rw [List.getLast?_eq_getElem?, List.getElem?_eq_getElem (by omega), e]
  have h4 := bl_shift h2 h3
  rw [← h1] at h4
  exact h4
end Go.Proofs.YtiloialbglfplaaGreatDoor

namespace Go.Proofs.YtiloialbglfplaaGreatDoor

/-- One digit of the quotient: q is at least the digit; r is what the first half of the divisor leaves. -/
structure Dg (b y1 y0 U u q r : Nat) : Prop where
  eq : U = q * y1 + r
  ge : (U * b + u) / (y1 * b + y0) ≤ q

theorem Dg.start {b y1 y0 U u : Nat} (hb : 0 < b) (hy1 : 0 < y1) (hu : u < b) : Dg b y1 y0 U u (U / y1) (U % y1) := by
  refine ⟨by rw [Nat.mul_comm]; exact (Nat.div_add_mod U y1).symm, ?_⟩
  have hpos : 0 < y1 * b + y0 := Nat.lt_of_lt_of_le (Nat.mul_pos hy1 hb) (Nat.le_add_right _ _)
  rw [Nat.le_div_iff_mul_le hy1]
  have h1 := Nat.div_mul_le_self (U * b + u) (y1 * b + y0)
  generalize (U * b + u) / (y1 * b + y0) = k at *
  rcases Nat.lt_or_ge U (k * y1) with h | h
  · exfalso
    have h2 : (U + 1) * b ≤ k * y1 * b := Nat.mul_le_mul_right _ h
    have h3 : k * (y1 * b + y0) = k * y1 * b + k * y0 := by rw [Nat.mul_add, Nat.mul_assoc]
    rw [Nat.add_mul, Nat.one_mul] at h2
    have := Nat.zero_le (k * y0)
    omega
  · exact h

/-- The test of the loop. -/
theorem Dg.test {b y1 y0 U u q r : Nat} (h : Dg b y1 y0 U u q r) : q * y0 ≤ b * r + u ↔ q * (y1 * b + y0) ≤ U * b + u := by
  have e1 : q * (y1 * b + y0) = q * y1 * b + q * y0 := by rw [Nat.mul_add, Nat.mul_assoc]
  have e2 : U * b = q * y1 * b + b * r := by rw [h.eq, Nat.add_mul, Nat.mul_comm r]
  rw [e1, e2]
  omega
theorem Dg.done {b y1 y0 U u q r : Nat} (h : Dg b y1 y0 U u q r) (hp : 0 < y1 * b + y0) (ht : q * y0 ≤ b * r + u) : q = (U * b + u) / (y1 * b + y0) := by
  apply Nat.le_antisymm
  · exact (Nat.le_div_iff_mul_le hp).2 (h.test.1 ht)
  · exact h.ge
theorem Dg.next {b y1 y0 U u q r : Nat} (h : Dg b y1 y0 U u q r) (hp : 0 < y1 * b + y0) (ht : b * r + u < q * y0) : 1 ≤ q ∧ Dg b y1 y0 U u (q - 1) (r + y1) := by
  have hq : 1 ≤ q := by
    rcases Nat.eq_zero_or_pos q with h0 | h0
    · subst h0; simp at ht
    · exact h0
  refine ⟨hq, ?_, ?_⟩
  · have := h.eq
    obtain ⟨k, rfl⟩ : ∃ k, q = k + 1 := ⟨q - 1, by omega⟩
    rw [Nat.add_sub_cancel, this]; grind
  · have h1 : U * b + u < q * (y1 * b + y0) := by
      rcases Nat.lt_or_ge (U * b + u) (q * (y1 * b + y0)) with h' | h'
      · exact h'
      · have := h.test.2 h'; omega
    have := (Nat.div_lt_iff_lt_mul hp).2 h1
    omega
/-- A digit that is b or more is too great. -/
theorem Dg.big {b y1 y0 U u q r : Nat} (h : Dg b y1 y0 U u q r) (hU : U < y1 * b + y0) (hu : u < b) (hq : b ≤ q) : b * r + u < q * y0 := by
  rcases Nat.lt_or_ge (b * r + u) (q * y0) with h' | h'
  · exact h'
  · exfalso
    have h1 := h.test.1 h'
    have h2 : b * (y1 * b + y0) ≤ q * (y1 * b + y0) := Nat.mul_le_mul_right _ hq
    have h3 : (U + 1) * b ≤ (y1 * b + y0) * b := Nat.mul_le_mul_right _ hU
    rw [Nat.mul_comm (y1 * b + y0) b, Nat.add_mul, Nat.one_mul] at h3
    omega
/-- Where the rest is b or more the test says no. -/
theorem Dg.over {b y1 y0 U u q r : Nat} (_h : Dg b y1 y0 U u q r) (hy0 : y0 < b) (hq : q ≤ b) (hr : b ≤ r) : q * y0 ≤ b * r + u := by
  have h1 : q * y0 ≤ b * b := Nat.mul_le_mul hq (by omega)
  have h2 : b * b ≤ b * r := Nat.mul_le_mul_left _ hr
  omega

/-! ### What Div64 has before its loops -/
def b32 : Nat := 4294967296
theorem B64_b32 : B64 = b32 * b32 := rfl
theorem and_mask (t : Nat) (h : t < B64) : bits .and .u64 (t : Int) 4294967295 = ((t % 4294967296 : Nat) : Int) := by
  have e := u64_and_nat t 4294967295 h (by omega)
  have e2 : t &&& 4294967295 = t % 4294967296 := Nat.and_two_pow_sub_one_eq_mod t 32
  rw [e2] at e
  exact e
theorem wrapN (n : Nat) : IntKind.u64.wrap (n : Int) = ((n % B64 : Nat) : Int) := by
  rw [IntKind.wrap_u64]; rfl
theorem wrap_shl (x s : Nat) : IntKind.u64.wrap ((x : Int) * 2 ^ s) = ((x * 2 ^ s % B64 : Nat) : Int) := by
  rw [← wrapN]; congr 1

theorem dm32 (n : Nat) : n = n / 4294967296 * b32 + n % 4294967296 := by unfold b32; omega
theorem div32 (n : Nat) : (n : Int) / 4294967296 = ((n / 4294967296 : Nat) : Int) := by omega

structure Set64 (hi lo y s Y y1 y0 U T u1 u0 : Nat) : Prop where
  yeq : Y = y * 2 ^ s
  yy : Y = y1 * b32 + y0
  y1lo : 2147483648 ≤ y1
  y1hi : y1 < b32
  y0hi : y0 < b32
  u : U < Y
  t : T = u1 * b32 + u0
  u1hi : u1 < b32
  u0hi : u0 < b32
  all : (hi * B64 + lo) * 2 ^ s = (U * b32 + u1) * b32 + u0
  e1 : IntKind.u64.wrap ((y : Int) * 2 ^ s) = (Y : Int)
  e2 : bits .and .u64 (Y : Int) 4294967295 = (y0 : Int)
  e3 : (Y : Int) / 4294967296 = (y1 : Int)
  e4 : bits .or .u64 (IntKind.u64.wrap ((hi : Int) * 2 ^ s)) ((lo : Int) / 2 ^ (64 - s)) = (U : Int)
  e5 : IntKind.u64.wrap ((lo : Int) * 2 ^ s) = (T : Int)
  e6 : (T : Int) / 4294967296 = (u1 : Int)
  e7 : bits .and .u64 (T : Int) 4294967295 = (u0 : Int)

theorem set64 (hi lo y s : Nat) (hy : hi < y) (hl : lo < B64) (hs : s + bl y = 64) :
    ∃ Y y1 y0 U T u1 u0, Set64 hi lo y s Y y1 y0 U T u1 u0 := by
  have hs64 : s ≤ 64 := by omega
  have hpos : 0 < bl y := bl_pos (by omega)
  have hYlt : y * 2 ^ s < B64 := by
    have h1 := lt_bl y
    have : B64 = 2 ^ bl y * 2 ^ s := by rw [← Nat.pow_add]; have : bl y + s = 64 := by omega
                                        rw [this]; rfl
    rw [this]
    exact Nat.mul_lt_mul_of_pos_right h1 (Nat.pow_pos (by omega))
  have hYge : 9223372036854775808 ≤ y * 2 ^ s := by
    have h1 := two_pow_le (n := y) (by omega)
    have h2 := Nat.mul_le_mul_right (2 ^ s) h1
    rw [← Nat.pow_add] at h2
    have : bl y - 1 + s = 63 := by omega
    rw [this] at h2
    exact h2
  have hTlt : lo * 2 ^ s % B64 < B64 := Nat.mod_lt _ (by unfold B64; omega)
  have hup := up_sum (o := 0) (x := lo) hs64
  have hH := upH_lt hs64 hl
  -- the or of the two parts
  have hhi2 : hi * 2 ^ s < B64 := Nat.lt_of_le_of_lt (Nat.mul_le_mul_right _ (Nat.le_of_lt hy)) hYlt
  have eT : lo * 2 ^ s % B64 = upL 0 lo s := by rw [shl_mod hs64]; unfold upL; omega
  have eU : bits .or .u64 (IntKind.u64.wrap ((hi : Int) * 2 ^ s)) ((lo : Int) / 2 ^ (64 - s)) = ((hi * 2 ^ s + upH lo s : Nat) : Int) := by
    rw [wrap_shl, Nat.mod_eq_of_lt hhi2, upH_val, u64_or_nat _ _ hhi2 (Nat.lt_of_lt_of_le hH (Nat.le_trans (Nat.pow_le_pow_right (by omega) hs64) (Nat.le_refl _))), Nat.or_comm, Nat.mul_comm hi, or_add hH, Nat.add_comm]
  have hUlt : hi * 2 ^ s + upH lo s < y * 2 ^ s := by
    have := Nat.mul_le_mul_right (2 ^ s) hy
    rw [Nat.succ_eq_add_one, Nat.add_mul, Nat.one_mul] at this
    omega
  refine ⟨y * 2 ^ s, y * 2 ^ s / 4294967296, y * 2 ^ s % 4294967296, hi * 2 ^ s + upH lo s, lo * 2 ^ s % B64, lo * 2 ^ s % B64 / 4294967296, lo * 2 ^ s % B64 % 4294967296, rfl, ?_, ?_, ?_, ?_, hUlt, ?_, ?_, ?_, ?_, ?_, ?_, ?_, eU, ?_, ?_, ?_⟩
  · exact dm32 _
  · omega
  · unfold b32; unfold B64 at hYlt; omega
  · unfold b32; omega
  · exact dm32 _
  · unfold b32; unfold B64 at hTlt ⊢; omega
  · unfold b32; omega
  · have h1 : lo * 2 ^ s % B64 / 4294967296 * b32 + lo * 2 ^ s % B64 % 4294967296 = lo * 2 ^ s % B64 := (dm32 _).symm
    have h2 : ((hi * 2 ^ s + upH lo s) * b32 + lo * 2 ^ s % B64 / 4294967296) * b32 + lo * 2 ^ s % B64 % 4294967296 = (hi * 2 ^ s + upH lo s) * B64 + lo * 2 ^ s % B64 := by
      rw [B64_b32, Nat.add_mul, Nat.add_assoc, ← B64_b32, h1, Nat.mul_assoc, ← B64_b32]
    rw [h2, eT]
    generalize upL 0 lo s = L at *
    generalize upH lo s = H at *
    generalize 2 ^ s = P at *
    grind
  · rw [wrap_shl, Nat.mod_eq_of_lt hYlt]
  · exact and_mask _ hYlt
  · exact div32 _
  · exact wrap_shl lo s
  · exact div32 _
  · exact and_mask _ hTlt

/-- One digit and what is left, modulo 2^64. -/
theorem digit_rest {N1 Y q : Nat} (hY : Y < B64) (hp : 0 < Y) (hq : q = N1 / Y) : ((N1 : Int) - (q * Y : Nat)) % 18446744073709551616 = ((N1 % Y : Nat) : Int) := by
  subst hq
  have h1 := Nat.div_add_mod N1 Y
  have h2 : N1 % Y < Y := Nat.mod_lt _ hp
  rw [Nat.mul_comm (N1 / Y)]
  generalize Y * (N1 / Y) = k at *
  unfold B64 at hY
  omega
theorem wrap_rest {U u Y q : Nat} (hY : Y < B64) (hp : 0 < Y) (hq : q = (U * b32 + u) / Y) :
    IntKind.u64.wrap (IntKind.u64.wrap (IntKind.u64.wrap ((U : Int) * 4294967296) + (u : Int)) - IntKind.u64.wrap ((q : Int) * (Y : Int))) = (((U * b32 + u) % Y : Nat) : Int) := by
  rw [← digit_rest hY hp hq]
  simp only [IntKind.wrap_u64]
  have e1 : ((U * b32 + u : Nat) : Int) = (U : Int) * 4294967296 + (u : Int) := by rw [Int.natCast_add, Int.natCast_mul]; rfl
  have e2 : ((q * Y : Nat) : Int) = (q : Int) * (Y : Int) := Int.natCast_mul _ _
  rw [e1, e2]
  generalize (q : Int) * (Y : Int) = k
  omega
theorem digit_lt {U u Y : Nat} (hU : U < Y) (hu : u < b32) : (U * b32 + u) / Y < b32 := by
  rw [Nat.div_lt_iff_lt_mul (by omega)]
  have := Nat.mul_le_mul_right b32 hU
  rw [Nat.succ_eq_add_one, Nat.add_mul, Nat.one_mul] at this
  rw [Nat.mul_comm b32]
  omega
/-- The answers. -/
theorem div64_end {hi lo y s Y y1 y0 U T u1 u0 : Nat} (h : Set64 hi lo y s Y y1 y0 U T u1 u0) (hy : 0 < y) :
    (U * b32 + u1) / Y * b32 + ((U * b32 + u1) % Y * b32 + u0) / Y = (hi * B64 + lo) / y ∧ ((U * b32 + u1) % Y * b32 + u0) % Y / 2 ^ s = (hi * B64 + lo) % y := by
  have hP : 0 < 2 ^ s := Nat.pow_pos (by omega)
  have hY : 0 < Y := by rw [h.yeq]; exact Nat.mul_pos hy hP
  have e1 := Nat.div_add_mod (U * b32 + u1) Y
  have e2 := Nat.div_add_mod ((U * b32 + u1) % Y * b32 + u0) Y
  have hall := h.all
  have hr : ((U * b32 + u1) % Y * b32 + u0) % Y < Y := Nat.mod_lt _ hY
  have hn : (hi * B64 + lo) * 2 ^ s = Y * ((U * b32 + u1) / Y * b32 + ((U * b32 + u1) % Y * b32 + u0) / Y) + ((U * b32 + u1) % Y * b32 + u0) % Y := by
    rw [hall]
    conv => lhs; rw [← e1, Nat.add_mul, Nat.add_assoc, ← e2]
    rw [Nat.mul_add, Nat.mul_assoc, Nat.add_assoc]
  have hyq := h.yeq
  generalize ((U * b32 + u1) % Y * b32 + u0) % Y = r at *
  generalize (U * b32 + u1) / Y * b32 + ((U * b32 + u1) % Y * b32 + u0) / Y = q at *
  generalize hi * B64 + lo = n at *
  clear e1 e2 hall
  subst hyq
  have hd : 2 ^ s ∣ r := by
    have h1 : 2 ^ s ∣ y * 2 ^ s * q + r := ⟨n, by rw [← hn, Nat.mul_comm]⟩
    exact (Nat.dvd_add_right ⟨y * q, by rw [Nat.mul_comm y, Nat.mul_assoc]⟩).1 h1
  obtain ⟨k, rfl⟩ := hd
  have hn2 : n = y * q + k := by
    apply Nat.eq_of_mul_eq_mul_right hP
    rw [hn, Nat.add_mul, Nat.mul_right_comm, Nat.mul_comm k]
  have hk : k < y := by
    rw [Nat.mul_comm y] at hr
    exact Nat.lt_of_mul_lt_mul_left hr
  rw [Nat.mul_div_cancel_left _ hP, hn2, Nat.mul_add_div hy, Nat.div_eq_of_lt hk, Nat.mul_add_mod, Nat.mod_eq_of_lt hk]
  exact ⟨by omega, rfl⟩
/-- The guess is not far off. -/
theorem guess_le {b U y1 y0 : Nat} (hU : U < y1 * b + y0) (hy1 : b ≤ 2 * y1) (hy0 : y0 < b) (hp : 0 < y1) : U / y1 ≤ b + 1 := by
  have h : U / y1 < b + 2 := by
    rw [Nat.div_lt_iff_lt_mul hp, Nat.add_mul, Nat.mul_comm b]
    omega
  omega

/-- A number, its first guess and its rest, in the walk's words. -/
structure Pk (R y1 q r : Nat) : Prop where
  d1 : (R : Int) / (y1 : Int) = (q : Int)
  d2 : (R : Int) - (q : Int) * (y1 : Int) = (r : Int)
  d3 : (q : Int) * (y1 : Int) ≤ (R : Int)
  d4 : 0 ≤ (q : Int) * (y1 : Int)
  lt : r < y1
  eq : q = R / y1
  er : r = R % y1
theorem pk (R y1 : Nat) (hp : 0 < y1) : ∃ q r, Pk R y1 q r := by
  refine ⟨R / y1, R % y1, ?_, ?_, ?_, Int.mul_nonneg (Int.natCast_nonneg _) (Int.natCast_nonneg _), Nat.mod_lt _ hp, rfl, rfl⟩
  · exact (Int.natCast_ediv R y1).symm
  · have h := Nat.div_add_mod R y1
    have : (R : Int) = ((y1 * (R / y1) + R % y1 : Nat) : Int) := by rw [h]
    rw [Int.natCast_add, Int.natCast_mul] at this
    conv => lhs; lhs; rw [this]
    rw [Int.mul_comm]; omega
  · rw [← Int.natCast_mul]; exact Int.ofNat_le.2 (Nat.div_mul_le_self R y1)

/-- What a loop of Div64 holds: the number, the divisor's halves, the next digit. -/
structure Lp (Y y1 y0 U u : Nat) : Prop where
  yy : Y = y1 * b32 + y0
  y1lo : 2147483648 ≤ y1
  y1hi : y1 < b32
  y0hi : y0 < b32
  ult : U < Y
  uhi : u < b32
theorem Lp.pos {Y y1 y0 U u : Nat} (h : Lp Y y1 y0 U u) : 0 < y1 * b32 + y0 := by have := h.y1lo; unfold b32; omega
theorem Lp.lt {Y y1 y0 U u : Nat} (h : Lp Y y1 y0 U u) : Y < B64 := by have := h.yy; have := h.y1hi; have := h.y0hi; unfold b32 at *; unfold B64; omega
theorem Lp.start {Y y1 y0 U u q r : Nat} (h : Lp Y y1 y0 U u) (k : Pk U y1 q r) : r < 4294967296 ∧ q ≤ 4294967297 ∧ Dg b32 y1 y0 U u q r := by
  have h1 := h.y1lo
  have h2 : y1 < 4294967296 := h.y1hi
  have hp : 0 < y1 := by omega
  have h3 := guess_le (b := b32) (U := U) (y1 := y1) (y0 := y0) (by rw [← h.yy]; exact h.ult) (by unfold b32; omega) h.y0hi hp
  have h4 := Dg.start (b := b32) (y1 := y1) (y0 := y0) (U := U) (u := u) (by unfold b32; omega) hp h.uhi
  rw [← k.eq, ← k.er] at h4
  rw [← k.eq] at h3
  have := k.lt
  exact ⟨by omega, h3, h4⟩
/-- The test says no: the digit is found. -/
theorem Lp.exit1 {Y y1 y0 U u q r : Nat} (h : Lp Y y1 y0 U u) (d : Dg b32 y1 y0 U u q r) (hc : q < 4294967296 ∧ q * y0 ≤ b32 * r + u) :
    q = (U * b32 + u) / Y ∧ 0 ≤ (q : Int) * (y0 : Int) ∧ (q : Int) * (y0 : Int) ≤ 4294967296 * (r : Int) + (u : Int) ∧ decide ((4294967296 : Int) ≤ (q : Int)) = false ∧ decide (4294967296 * (r : Int) + (u : Int) < (q : Int) * (y0 : Int)) = false := by
  have n2 : (q : Int) * (y0 : Int) ≤ 4294967296 * (r : Int) + (u : Int) := by
    have : ((q * y0 : Nat) : Int) ≤ ((b32 * r + u : Nat) : Int) := Int.ofNat_le.2 hc.2
    rw [Int.natCast_mul, Int.natCast_add, Int.natCast_mul] at this
    exact this
  exact ⟨by rw [h.yy]; exact d.done h.pos hc.2, Int.mul_nonneg (by omega) (by omega), n2, decide_eq_false (by omega), decide_eq_false (by omega)⟩
/-- The test says yes: one less. -/
theorem Lp.go {Y y1 y0 U u q r : Nat} (h : Lp Y y1 y0 U u) (d : Dg b32 y1 y0 U u q r) (hc : ¬ (q < 4294967296 ∧ q * y0 ≤ b32 * r + u)) :
    1 ≤ q ∧ Dg b32 y1 y0 U u (q - 1) (r + y1) ∧ (decide ((4294967296 : Int) ≤ (q : Int)) = true ∨ (decide ((4294967296 : Int) ≤ (q : Int)) = false ∧ 0 ≤ (q : Int) * (y0 : Int) ∧ (q : Int) * (y0 : Int) ≤ 18446744073709551615 ∧ decide (4294967296 * (r : Int) + (u : Int) < (q : Int) * (y0 : Int)) = true)) := by
  have ht : b32 * r + u < q * y0 := by
    rcases Nat.lt_or_ge q 4294967296 with h' | h'
    · rcases Nat.lt_or_ge (b32 * r + u) (q * y0) with h2 | h2
      · exact h2
      · exact absurd ⟨h', h2⟩ hc
    · exact d.big (by rw [← h.yy]; exact h.ult) h.uhi h'
  obtain ⟨a1, a2⟩ := d.next h.pos ht
  refine ⟨a1, a2, ?_⟩
  rcases Nat.lt_or_ge q 4294967296 with h' | h'
  · refine .inr ⟨decide_eq_false (by omega), Int.mul_nonneg (by omega) (by omega), ?_, decide_eq_true ?_⟩
    · have h1 : q * y0 ≤ 4294967295 * 4294967295 := Nat.mul_le_mul (by omega) (by have := h.y0hi; unfold b32 at this; omega)
      have : ((q * y0 : Nat) : Int) ≤ ((4294967295 * 4294967295 : Nat) : Int) := Int.ofNat_le.2 h1
      rw [Int.natCast_mul] at this
      omega
    · have : ((b32 * r + u : Nat) : Int) < ((q * y0 : Nat) : Int) := Int.ofNat_lt.2 ht
      rw [Int.natCast_mul, Int.natCast_add, Int.natCast_mul] at this
      exact this
  · exact .inl (decide_eq_true (by omega))
theorem Lp.exit2 {Y y1 y0 U u q r : Nat} (h : Lp Y y1 y0 U u) (d : Dg b32 y1 y0 U u q r) (hq : q ≤ 4294967296) (hr : 4294967296 ≤ r) : q = (U * b32 + u) / Y := by
  rw [h.yy]; exact d.done h.pos (d.over h.y0hi hq hr)
end Go.Proofs.YtiloialbglfplaaGreatDoor

namespace Go.Proofs.YtiloialbglfplaaGreatDoor

/-! ### By one word -/
structure DwInv (xs : List Nat) (d k r : Nat) (L : List Nat) : Prop where
  len : L.length = xs.length
  dig : Dig B64 L
  low : L.take k = xs.take k
  lt : r < d
  vl : val B64 (xs.drop k) = val B64 (L.drop k) * d + r
theorem DwInv.start {xs : List Nat} {d : Nat} (hd : Dig B64 xs) (h : 0 < d) : DwInv xs d xs.length 0 xs := ⟨rfl, hd, rfl, h, by simp⟩
theorem getD_take {L xs : List Nat} {k i : Nat} (h : L.take k = xs.take k) (hi : i < k) : L.getD i 0 = xs.getD i 0 := by
  simp only [List.getD_eq_getElem?_getD]
  rw [← List.getElem?_take_of_lt hi, h, List.getElem?_take_of_lt hi]
theorem DwInv.step {xs : List Nat} {d k r : Nat} {L : List Nat} (h : DwInv xs d (k + 1) r L) (hk : k < xs.length) :
    (r * B64 + xs.getD k 0) / d < B64 ∧ DwInv xs d k ((r * B64 + xs.getD k 0) % d) (L.set k ((r * B64 + xs.getD k 0) / d)) := by
  have hdp : 0 < d := by have := h.lt; omega
  have hkl : k < L.length := by rw [h.len]; exact hk
  have hxl : xs.getD k 0 < B64 := by rw [← getD_take h.low (Nat.lt_succ_self k)]; exact h.dig.getD (by unfold B64; omega) k
  have hq : (r * B64 + xs.getD k 0) / d < B64 := by
    rw [Nat.div_lt_iff_lt_mul hdp]
    have := Nat.mul_le_mul_right B64 h.lt
    rw [Nat.succ_eq_add_one, Nat.add_mul, Nat.one_mul] at this
    rw [Nat.mul_comm B64]
    omega
  refine ⟨hq, by simpa using h.len, h.dig.set _ hq, ?_, Nat.mod_lt _ hdp, ?_⟩
  · rw [List.take_set_of_le (Nat.le_refl _)]
    have := congrArg (List.take k) h.low
    rwa [List.take_take, List.take_take, Nat.min_eq_left (by omega)] at this
  · have e1 := val_drop_cons B64 xs k hk
    have e2 := val_drop_cons B64 (L.set k ((r * B64 + xs.getD k 0) / d)) k (by simpa using hkl)
    rw [List.getElem_set_self, drop_set_succ] at e2
    rw [e1, e2, h.vl, ← getD_lt _ _ hk]
    have e3 := Nat.div_add_mod (r * B64 + xs.getD k 0) d
    generalize (r * B64 + xs.getD k 0) / d = q at *
    generalize (r * B64 + xs.getD k 0) % d = r' at *
    generalize xs.getD k 0 = x at *
    generalize val B64 (L.drop (k + 1)) = V at *
    grind
theorem DwInv.fin {xs : List Nat} {d r : Nat} {L : List Nat} (h : DwInv xs d 0 r L) : val B64 L = val B64 xs / d ∧ r = val B64 xs % d := by
  have hv := h.vl
  simp only [List.drop_zero] at hv
  have hdp : 0 < d := by have := h.lt; omega
  have := h.lt
  rw [hv]
  constructor
  · rw [Nat.mul_comm, Nat.mul_add_div hdp, Nat.div_eq_of_lt h.lt, Nat.add_zero]
  · rw [Nat.mul_comm, Nat.mul_add_mod, Nat.mod_eq_of_lt h.lt]

/-! ### The guess of a digit -/
/-- What a guess is good for: U the two upper words of the rest, u the third; v1, v0 the two upper words of the divisor. -/
def Good (U u v1 v0 g : Nat) : Prop := g < B64 ∧ g * (v1 * B64 + v0) ≤ U * B64 + u ∧ (g = B64 - 1 ∨ U * B64 + u < (g + 1) * (v1 * B64 + v0))
structure Gw (U u v1 v0 g r o : Nat) : Prop where
  eq : U = g * v1 + r + o * B64
  o1 : o ≤ 1
  glt : g < B64
  rlt : r < B64
  max : g = B64 - 1 ∨ U * B64 + u < (g + 1) * (v1 * B64 + v0)
theorem Gw.same {u1 u v1 v0 s c : Nat} (e : s + B64 * c = u1 + v1) (hs : s < B64) (hc : c ≤ 1) : Gw (v1 * B64 + u1) u v1 v0 (B64 - 1) s c := by
  refine ⟨?_, hc, by unfold B64; omega, hs, .inl rfl⟩
  have : v1 * B64 = (B64 - 1) * v1 + v1 := by
    have h : B64 = (B64 - 1) + 1 := by unfold B64; omega
    conv => lhs; rw [h, Nat.mul_add, Nat.mul_one, Nat.mul_comm]
  rw [this, Nat.mul_comm c]; omega
theorem Gw.less {u2 u1 u v1 v0 : Nat} (h : u2 < v1) (hu1 : u1 < B64) (hu : u < B64) (hv : v1 < B64) : Gw (u2 * B64 + u1) u v1 v0 ((u2 * B64 + u1) / v1) ((u2 * B64 + u1) % v1) 0 := by
  have hp : 0 < v1 := by omega
  have hm := Nat.mod_lt (u2 * B64 + u1) hp
  have hd := Nat.div_add_mod (u2 * B64 + u1) v1
  rw [Nat.mul_comm v1] at hd
  refine ⟨by omega, by omega, ?_, by omega, .inr ?_⟩
  · rw [Nat.div_lt_iff_lt_mul hp]
    have := Nat.mul_le_mul_right B64 h
    rw [Nat.succ_eq_add_one, Nat.add_mul, Nat.one_mul] at this
    rw [Nat.mul_comm B64]; omega
  · have h1 : u2 * B64 + u1 + 1 ≤ ((u2 * B64 + u1) / v1 + 1) * v1 := by rw [Nat.add_mul, Nat.one_mul]; omega
    generalize (u2 * B64 + u1) / v1 = g at *
    generalize u2 * B64 + u1 = U at *
    have h2 := Nat.mul_le_mul_right B64 h1
    rw [Nat.add_mul, Nat.one_mul] at h2
    have h3 : (g + 1) * (v1 * B64 + v0) = (g + 1) * v1 * B64 + (g + 1) * v0 := by rw [Nat.mul_add, Nat.mul_assoc]
    have := Nat.zero_le ((g + 1) * v0)
    omega
theorem Gw.over {U u v1 v0 g r : Nat} (h : Gw U u v1 v0 g r 1) (hv : v0 < B64) : Good U u v1 v0 g := by
  refine ⟨h.glt, ?_, h.max⟩
  have h1 : g * v0 ≤ B64 * B64 := Nat.mul_le_mul (Nat.le_of_lt h.glt) (Nat.le_of_lt hv)
  have e := h.eq
  rw [Nat.one_mul] at e
  rw [Nat.mul_add, ← Nat.mul_assoc, e, Nat.add_mul, Nat.add_mul]
  omega
theorem Gw.done {U u v1 v0 g r : Nat} (h : Gw U u v1 v0 g r 0) (ht : g * v0 ≤ r * B64 + u) : Good U u v1 v0 g := by
  refine ⟨h.glt, ?_, h.max⟩
  have e := h.eq
  rw [Nat.zero_mul, Nat.add_zero] at e
  rw [Nat.mul_add, ← Nat.mul_assoc, e, Nat.add_mul]
  omega
theorem Gw.next {U u v1 v0 g r s c : Nat} (h : Gw U u v1 v0 g r 0) (ht : r * B64 + u < g * v0) (e : s + B64 * c = r + v1) (hs : s < B64) (hc : c ≤ 1) : 1 ≤ g ∧ Gw U u v1 v0 (g - 1) s c := by
  have hg : 1 ≤ g := by
    rcases Nat.eq_zero_or_pos g with h0 | h0
    · subst h0; simp at ht
    · exact h0
  have e' := h.eq
  rw [Nat.zero_mul, Nat.add_zero] at e'
  obtain ⟨k, rfl⟩ : ∃ k, g = k + 1 := ⟨g - 1, by omega⟩
  refine ⟨hg, ?_, hc, by have := h.glt; omega, hs, .inr ?_⟩
  · rw [Nat.add_sub_cancel, e', Nat.add_mul, Nat.one_mul, Nat.mul_comm c]; omega
  · rw [Nat.add_sub_cancel, Nat.mul_add, ← Nat.mul_assoc]
    have := congrArg (· * B64) e'
    simp only [Nat.add_mul (( k + 1) * v1)] at this
    omega
/-- The test of guessWord, by the two halves of the product. -/
theorem guess_test {g v0 r u : Nat} (hu : u < B64) : (muH g v0 < r ∨ (muH g v0 = r ∧ muL g v0 ≤ u)) ↔ g * v0 ≤ r * B64 + u := by
  have e := mu_eq g v0
  have hl := muL_lt g v0
  rw [← e]
  generalize muH g v0 = h at *
  generalize muL g v0 = l at *
  constructor
  · rintro (h1 | ⟨rfl, h1⟩)
    · have := Nat.mul_le_mul_left B64 h1
      rw [Nat.succ_eq_add_one, Nat.mul_add, Nat.mul_one] at this
      rw [Nat.mul_comm r]; omega
    · rw [Nat.mul_comm h]; omega
  · intro h1
    rcases Nat.lt_trichotomy h r with h2 | h2 | h2
    · exact .inl h2
    · subst h2; rw [Nat.mul_comm h] at h1; exact .inr ⟨rfl, by omega⟩
    · exfalso
      have := Nat.mul_le_mul_left B64 h2
      rw [Nat.succ_eq_add_one, Nat.mul_add, Nat.mul_one] at this
      rw [Nat.mul_comm r] at h1; omega
end Go.Proofs.YtiloialbglfplaaGreatDoor

namespace Go.Proofs.YtiloialbglfplaaGreatDoor

theorem getD_val {b : Nat} (hb : 2 ≤ b) : ∀ (i : Nat) {xs : List Nat}, Dig b xs → xs.getD i 0 = val b xs / b ^ i % b := by
  intro i
  induction i with
  | zero =>
    intro xs hd
    match xs, hd with
    | [], _ => simp
    | x :: xs, hd => simp [Nat.mod_eq_of_lt hd.head]
  | succ i ih =>
    intro xs hd
    match xs, hd with
    | [], _ => simp
    | x :: xs, hd =>
      rw [List.getD_cons_succ, ih hd.tail, val_cons, Nat.pow_succ, Nat.mul_comm (b ^ i), ← Nat.div_div_eq_div_mul, Nat.add_mul_div_left _ _ (by omega), Nat.div_eq_of_lt hd.head, Nat.zero_add]

/-- What holds in the outer loop of divWords. -/
structure DvOut (N V m n j : Nat) (L Q : List Nat) : Prop where
  lenL : L.length = m + n
  lenQ : Q.length = m
  digL : Dig B64 L
  digQ : Dig B64 Q
  eq : N = val B64 Q * V + val B64 L
  lt : val B64 L < V * B64 ^ j
  low : ∀ t, t < j → Q.getD t 0 = 0
theorem DvOut.start {m n V : Nat} {L : List Nat} (hl : L.length = m + n) (hd : Dig B64 L) (h : val B64 L < V * B64 ^ m) : DvOut (val B64 L) V m n m L (List.replicate m 0) :=
  ⟨hl, by simp, hd, Dig.rep (by unfold B64; omega) _, by rw [val_rep]; simp, h, fun t _ => getD_rep _ t⟩

/-- .. in the loop that takes the guess's product away. -/
structure MsInv (L0 Vs : List Nat) (j g i c b : Nat) (L : List Nat) : Prop where
  len : L.length = L0.length
  dig : Dig B64 L
  vl : val B64 L + g * val B64 (Vs.take i) * B64 ^ j = val B64 L0 + (c + b) * B64 ^ (j + i)
  rest : ∀ t, j + i ≤ t → L.getD t 0 = L0.getD t 0
theorem MsInv.start {L0 Vs : List Nat} (j g : Nat) (hd : Dig B64 L0) : MsInv L0 Vs j g 0 0 0 L0 := ⟨rfl, hd, by simp, fun _ _ => rfl⟩
theorem ms_arith {VL VL' VL0 I J u u' g T v c b c' b' B : Nat} (hv : VL + g * T * J = VL0 + (c + b) * (J * I)) (k : VL' + J * I * u = VL + J * I * u') (e : u' + g * v + (c + b) = u + B * (c' + b')) :
    VL' + g * (T + I * v) * J = VL0 + (c' + b') * (J * I * B) := by
  have e2 : J * I * u' + J * I * g * v + J * I * (c + b) = J * I * u + J * I * B * (c' + b') := by
    have : J * I * (u' + g * v + (c + b)) = J * I * (u + B * (c' + b')) := by rw [e]
    grind
  clear e
  grind
theorem MsInv.step {L0 Vs : List Nat} {j g i c b : Nat} {L : List Nat} (h : MsInv L0 Vs j g i c b L) (hl : j + i < L0.length) {hi lo s c1 u' b' : Nat} (hu : u' < B64)
    (e1 : lo + B64 * hi = g * Vs.getD i 0) (e2 : s + B64 * c1 = lo + c) (e3 : L.getD (j + i) 0 + B64 * b' = s + b + u') : MsInv L0 Vs j g (i + 1) (hi + c1) b' (L.set (j + i) u') := by
  have hlen := h.len
  have hl' : j + i < L.length := by omega
  have v := val_set B64 L (j + i) u' hl'
  rw [← getD_lt _ _ hl'] at v
  refine ⟨by simpa using hlen, h.dig.set _ hu, ?_, fun t ht => ?_⟩
  · have hv := h.vl
    rw [val_take_getD B64 Vs, ← Nat.add_assoc, Nat.pow_succ]
    have e0 : B64 ^ (j + i) = B64 ^ j * B64 ^ i := Nat.pow_add _ _ _
    rw [e0] at v hv ⊢
    refine ms_arith hv v ?_
    grind
  · rw [getD_set _ _ _ _ hl', if_neg (by omega)]
    exact h.rest t (by omega)
/-- .. and behind it. -/
structure MsOut (L0 : List Nat) (V j n g b : Nat) (L : List Nat) : Prop where
  len : L.length = L0.length
  dig : Dig B64 L
  vl : val B64 L + g * V * B64 ^ j = val B64 L0 + b * B64 ^ (j + n + 1)
  rest : ∀ t, j + n + 1 ≤ t → L.getD t 0 = L0.getD t 0
theorem MsInv.close {L0 Vs : List Nat} {j g c b : Nat} {L : List Nat} (h : MsInv L0 Vs j g Vs.length c b L) (hl : j + Vs.length < L0.length) {u' b' : Nat} (hu : u' < B64)
    (e : L.getD (j + Vs.length) 0 + B64 * b' = c + b + u') : MsOut L0 (val B64 Vs) j Vs.length g b' (L.set (j + Vs.length) u') := by
  have hlen := h.len
  have hl' : j + Vs.length < L.length := by omega
  have v := val_set B64 L (j + Vs.length) u' hl'
  rw [← getD_lt _ _ hl'] at v
  refine ⟨by simpa using hlen, h.dig.set _ hu, ?_, fun t ht => ?_⟩
  · have hv := h.vl
    rw [List.take_length] at hv
    rw [Nat.pow_succ]
    generalize B64 ^ (j + Vs.length) = K at *
    generalize L.getD (j + Vs.length) 0 = u at *
    generalize val B64 (L.set (j + Vs.length) u') = VL' at *
    have e2 : K * u + K * B64 * b' = K * (c + b) + K * u' := by
      have : K * (u + B64 * b') = K * (c + b + u') := by rw [e]
      grind
    grind
  · rw [getD_set _ _ _ _ hl', if_neg (by omega)]
    exact h.rest t (by omega)

/-- .. in the loop that adds the divisor back. -/
structure AdInv (L0 Vs : List Nat) (j i c : Nat) (L : List Nat) : Prop where
  len : L.length = L0.length
  dig : Dig B64 L
  vl : val B64 L + c * B64 ^ (j + i) = val B64 L0 + val B64 (Vs.take i) * B64 ^ j
  rest : ∀ t, j + i ≤ t → L.getD t 0 = L0.getD t 0
theorem AdInv.start {L0 Vs : List Nat} (j : Nat) (hd : Dig B64 L0) : AdInv L0 Vs j 0 0 L0 := ⟨rfl, hd, by simp, fun _ _ => rfl⟩
theorem AdInv.step {L0 Vs : List Nat} {j i c : Nat} {L : List Nat} (h : AdInv L0 Vs j i c L) (hl : j + i < L0.length) {u' c' : Nat} (hu : u' < B64)
    (e : u' + B64 * c' = L.getD (j + i) 0 + Vs.getD i 0 + c) : AdInv L0 Vs j (i + 1) c' (L.set (j + i) u') := by
  have hlen := h.len
  have hl' : j + i < L.length := by omega
  have v := val_set B64 L (j + i) u' hl'
  rw [← getD_lt _ _ hl'] at v
  refine ⟨by simpa using hlen, h.dig.set _ hu, ?_, fun t ht => ?_⟩
  · have hv := h.vl
    rw [val_take_getD B64 Vs, ← Nat.add_assoc, Nat.pow_succ]
    have e0 : B64 ^ (j + i) = B64 ^ j * B64 ^ i := Nat.pow_add _ _ _
    rw [e0] at v hv ⊢
    generalize B64 ^ j = J at *
    generalize B64 ^ i = I at *
    generalize L.getD (j + i) 0 = u at *
    generalize Vs.getD i 0 = x at *
    generalize val B64 (L.set (j + i) u') = VL' at *
    have e2 : J * I * u' + J * I * B64 * c' = J * I * u + J * I * x + J * I * c := by
      have : J * I * (u' + B64 * c') = J * I * (u + x + c) := by rw [e]
      grind
    grind
  · rw [getD_set _ _ _ _ hl', if_neg (by omega)]
    exact h.rest t (by omega)
/-- The last word of it: what runs over is lost. -/
theorem AdInv.close {L0 Vs : List Nat} {j c : Nat} {L : List Nat} (h : AdInv L0 Vs j Vs.length c L) (hl : j + Vs.length < L0.length) :
    ∃ d, Dig B64 (L.set (j + Vs.length) ((L.getD (j + Vs.length) 0 + c) % B64)) ∧ (L.set (j + Vs.length) ((L.getD (j + Vs.length) 0 + c) % B64)).length = L0.length ∧
      val B64 (L.set (j + Vs.length) ((L.getD (j + Vs.length) 0 + c) % B64)) + d * B64 ^ (j + Vs.length + 1) = val B64 L0 + val B64 Vs * B64 ^ j ∧
      ∀ t, j + Vs.length + 1 ≤ t → (L.set (j + Vs.length) ((L.getD (j + Vs.length) 0 + c) % B64)).getD t 0 = L0.getD t 0 := by
  have hlen := h.len
  have hl' : j + Vs.length < L.length := by omega
  have v := val_set B64 L (j + Vs.length) ((L.getD (j + Vs.length) 0 + c) % B64) hl'
  rw [← getD_lt _ _ hl'] at v
  have hu : (L.getD (j + Vs.length) 0 + c) % B64 < B64 := Nat.mod_lt _ (by unfold B64; omega)
  have e := Nat.mod_add_div (L.getD (j + Vs.length) 0 + c) B64
  refine ⟨(L.getD (j + Vs.length) 0 + c) / B64, h.dig.set _ hu, by simpa using hlen, ?_, fun t ht => ?_⟩
  · have hv := h.vl
    rw [List.take_length] at hv
    rw [Nat.pow_succ]
    generalize (L.getD (j + Vs.length) 0 + c) / B64 = d at *
    generalize (L.getD (j + Vs.length) 0 + c) % B64 = u' at *
    generalize B64 ^ (j + Vs.length) = K at *
    generalize L.getD (j + Vs.length) 0 = u at *
    generalize val B64 (L.set (j + Vs.length) u') = VL' at *
    have e2 : K * u' + K * B64 * d = K * u + K * c := by
      have : K * (u' + B64 * d) = K * (u + c) := by rw [e]
      grind
    grind
  · rw [getD_set _ _ _ _ hl', if_neg (by omega)]
    exact h.rest t (by omega)

theorem three_digits {T : Nat} (h : T < B64 ^ 3) : T = (T / B64 / B64 % B64 * B64 + T / B64 % B64) * B64 + T % B64 := by
  have h1 : T / B64 / B64 < B64 := by
    rw [Nat.div_div_eq_div_mul, Nat.div_lt_iff_lt_mul (by unfold B64; omega)]
    have : B64 ^ 3 = B64 * (B64 * B64) := by rw [Nat.pow_succ, Nat.pow_succ, Nat.pow_one, Nat.mul_comm]
    omega
  rw [Nat.mod_eq_of_lt h1]
  have e1 := Nat.div_add_mod T B64
  have e2 := Nat.div_add_mod (T / B64) B64
  rw [Nat.mul_comm] at e1 e2
  rw [e2, e1]

/-- Of the round at j: the two bounds on the words that the guess is taken from, and on the guess. -/
theorem DvOut.guess {N m n j : Nat} {L Q Vs : List Nat} (h : DvOut N (val B64 Vs) m n (j + 1) L Q) (hn : Vs.length = n) (h2 : 2 ≤ n) (hd : Dig B64 Vs) (ht : Vs.getD (n - 1) 0 ≠ 0) :
    L.getD (j + n) 0 ≤ Vs.getD (n - 1) 0 ∧ ∀ g, Good (L.getD (j + n) 0 * B64 + L.getD (j + n - 1) 0) (L.getD (j + n - 2) 0) (Vs.getD (n - 1) 0) (Vs.getD (n - 2) 0) g →
      val B64 L / B64 ^ j / val B64 Vs ≤ g ∧ g ≤ val B64 L / B64 ^ j / val B64 Vs + 1 := by
  have hB := B64_two
  have hVlt := val_lt hd
  rw [hn] at hVlt
  obtain ⟨k, rfl⟩ : ∃ k, n = k + 2 := ⟨n - 2, by omega⟩
  have hlt := h.lt
  have eL0 := getD_val hB (j + k + 2) h.digL
  have eL1 := getD_val hB (j + k + 1) h.digL
  have eL2 := getD_val hB (j + k) h.digL
  have eV1 := getD_val hB (k + 1) hd
  have eV0 := getD_val hB k hd
  rw [show j + (k + 2) = j + k + 2 from by omega, show j + k + 2 - 1 = j + k + 1 from by omega, show j + k + 2 - 2 = j + k from by omega, show k + 2 - 1 = k + 1 from by omega, show k + 2 - 2 = k from by omega]
  rw [show k + 2 - 1 = k + 1 from by omega] at ht
  have hP : 0 < B64 ^ k := Nat.pow_pos (by unfold B64; omega)
  have hJ : 0 < B64 ^ j := Nat.pow_pos (by unfold B64; omega)
  -- the numbers
  generalize hV : val B64 Vs = V at *
  generalize hl : val B64 L = l at *
  have hT1 : l / B64 ^ (j + k + 1) = l / B64 ^ (j + k) / B64 := by rw [Nat.pow_succ, Nat.div_div_eq_div_mul]
  have hT2 : l / B64 ^ (j + k + 2) = l / B64 ^ (j + k) / B64 / B64 := by rw [Nat.pow_succ, ← Nat.div_div_eq_div_mul, hT1]
  have hTD : l / B64 ^ (j + k) = l / B64 ^ j / B64 ^ k := by rw [Nat.pow_add, Nat.div_div_eq_div_mul]
  have hV1 : V / B64 ^ (k + 1) = V / B64 ^ k / B64 := by rw [Nat.pow_succ, Nat.div_div_eq_div_mul]
  have hDlt : l / B64 ^ j < V * B64 := by
    rw [Nat.div_lt_iff_lt_mul hJ]
    rw [Nat.pow_succ] at hlt
    calc l < V * (B64 ^ j * B64) := hlt
      _ = V * B64 * B64 ^ j := by rw [Nat.mul_assoc, Nat.mul_comm B64]
  rw [hT2] at eL0
  rw [hT1] at eL1
  rw [hTD] at eL0 eL1 eL2
  rw [hV1] at eV1
  generalize l / B64 ^ j = D at *
  have hW3 : V / B64 ^ k < B64 * B64 := by
    rw [Nat.div_lt_iff_lt_mul hP]
    calc V < B64 ^ (k + 2) := hVlt
      _ = B64 * B64 * B64 ^ k := by rw [Nat.pow_succ, Nat.pow_succ, Nat.mul_assoc, Nat.mul_comm]
  have hT3 : D / B64 ^ k < B64 ^ 3 := by
    rw [Nat.div_lt_iff_lt_mul hP]
    have h1 : V * B64 ≤ B64 ^ (k + 2) * B64 := Nat.mul_le_mul_right _ (by omega)
    have h2 : B64 ^ (k + 2) * B64 = B64 ^ 3 * B64 ^ k := by rw [← Nat.pow_succ, ← Nat.pow_add]; congr 1; omega
    omega
  have eT := three_digits hT3
  have eW : V / B64 ^ k = V / B64 ^ k / B64 * B64 + V / B64 ^ k % B64 := by rw [Nat.mul_comm]; exact (Nat.div_add_mod _ _).symm
  have hW1 : V / B64 ^ k / B64 < B64 := by rw [Nat.div_lt_iff_lt_mul (by unfold B64; omega)]; exact hW3
  rw [Nat.mod_eq_of_lt hW1] at eV1
  rw [← eL0, ← eL1, ← eL2] at eT
  rw [← eV1, ← eV0] at eW
  have hDe := Nat.div_add_mod D (B64 ^ k)
  have hVe := Nat.div_add_mod V (B64 ^ k)
  have hDm := Nat.mod_lt D hP
  have hVm := Nat.mod_lt V hP
  rw [Nat.mul_comm] at hDe hVe
  generalize L.getD (j + k + 2) 0 = u2 at *
  generalize L.getD (j + k + 1) 0 = u1 at *
  generalize L.getD (j + k) 0 = u0 at *
  generalize Vs.getD (k + 1) 0 = v1 at *
  generalize Vs.getD k 0 = v0 at *
  have hv0 : v0 < B64 := by rw [eV0]; exact Nat.mod_lt _ (by unfold B64; omega)
  rw [eT] at hDe
  rw [eW] at hVe
  constructor
  · rcases Nat.lt_or_ge v1 u2 with hc | hc
    · exfalso
      -- D ≥ u2 B² P ≥ (v1 + 1) B² P > V B
      have a1 : (v1 + 1) * B64 ≤ u2 * B64 := Nat.mul_le_mul_right _ hc
      have a2 : (v1 + 1) * B64 * B64 ≤ ((u2 * B64 + u1) * B64 + u0) := by
        have := Nat.mul_le_mul_right B64 (show (v1 + 1) * B64 ≤ u2 * B64 + u1 by omega)
        omega
      have a3 := Nat.mul_le_mul_right (B64 ^ k) a2
      have a4 : v1 * B64 + v0 + 1 ≤ (v1 + 1) * B64 := by rw [Nat.add_mul, Nat.one_mul]; omega
      have a5 := Nat.mul_le_mul_right (B64 ^ k) a4
      have a6 : (v1 * B64 + v0 + 1) * B64 ^ k = (v1 * B64 + v0) * B64 ^ k + B64 ^ k := by rw [Nat.add_mul, Nat.one_mul]
      have a7 : V < (v1 + 1) * B64 * B64 ^ k := by omega
      have a8 : V * B64 ≤ (v1 + 1) * B64 * B64 ^ k * B64 := Nat.mul_le_mul_right _ (by omega)
      have a9 : (v1 + 1) * B64 * B64 * B64 ^ k = (v1 + 1) * B64 * B64 ^ k * B64 := Nat.mul_right_comm _ _ _
      rw [← a9] at a8
      have b1 : ((u2 * B64 + u1) * B64 + u0) * B64 ^ k ≤ D := by rw [← hDe]; exact Nat.le_add_right _ _
      exact absurd hDlt (Nat.not_lt.2 (Nat.le_trans a8 (Nat.le_trans a3 b1)))
    · exact hc
  · rintro g ⟨hg1, hg2, hg3⟩
    refine knuth_guess (B := B64) (V3 := v1 * B64 + v0) (U3 := (u2 * B64 + u1) * B64 + u0) (Vr := V % B64 ^ k) (Ur := D % B64 ^ k) (P := B64 ^ k) (by omega) hVm (by omega) hDm hDlt ?_ hg2 hg1 hg3
    have : 1 * B64 ≤ v1 * B64 := Nat.mul_le_mul_right _ (by omega)
    omega

theorem high_zero {L : List Nat} {k : Nat} (hd : Dig B64 L) (h : ∀ t, k ≤ t → L.getD t 0 = 0) : val B64 L < B64 ^ k := by
  have e : val B64 L = val B64 (L.take k) := by
    rcases Nat.lt_or_ge k L.length with hk | hk
    · have e1 := val_split B64 L k (by omega)
      have e2 : L.drop k = List.replicate (L.length - k) 0 := by
        apply List.ext_getElem (by simp)
        intro i h1 h2
        rw [List.getElem_drop, List.getElem_replicate, ← getD_lt _ _ (by simp at h1; omega)]
        exact h _ (by omega)
      rw [e2, val_rep] at e1
      simpa using e1
    · rw [List.take_of_length_le hk]
  rw [e]
  have := val_lt (hd.take k)
  exact Nat.lt_of_lt_of_le this (Nat.pow_le_pow_right (by unfold B64; omega) (by rw [List.length_take]; omega))
theorem zero_high {L : List Nat} {k t : Nat} (hd : Dig B64 L) (h : val B64 L < B64 ^ k) (ht : k ≤ t) : L.getD t 0 = 0 := by
  rw [getD_val B64_two t hd, Nat.div_eq_of_lt (Nat.lt_of_lt_of_le h (Nat.pow_le_pow_right (by unfold B64; omega) ht))]
  rfl

/-- Above j + n the rest has no words. -/
theorem DvOut.top {N V m n j : Nat} {L Q : List Nat} (h : DvOut N V m n (j + 1) L Q) (hV : V < B64 ^ n) {t : Nat} (ht : j + n + 1 ≤ t) : L.getD t 0 = 0 := by
  refine zero_high h.digL (k := j + n + 1) ?_ ht
  have h1 := h.lt
  have h2 : V * B64 ^ (j + 1) ≤ B64 ^ n * B64 ^ (j + 1) := Nat.mul_le_mul_right _ (by omega)
  rw [← Nat.pow_add, show n + (j + 1) = j + n + 1 from by omega] at h2
  omega
/-- The round's end, whatever way it went: the rest is less by q times the divisor. -/
theorem DvOut.next {N V m n j q : Nat} {L L' Q : List Nat} (h : DvOut N V m n (j + 1) L Q) (hj : j < m) (hq : q = val B64 L / B64 ^ j / V) (hVp : 0 < V) (hqB : q < B64) (hl : L'.length = L.length) (hd : Dig B64 L')
    (he : val B64 L' + q * V * B64 ^ j = val B64 L) : DvOut N V m n j L' (Q.set j q) := by
  have hlq : j < Q.length := by rw [h.lenQ]; exact hj
  have v := val_set B64 Q j q hlq
  rw [← getD_lt _ _ hlq, h.low j (by omega)] at v
  have hJ : 0 < B64 ^ j := Nat.pow_pos (by unfold B64; omega)
  refine ⟨hl.trans h.lenL, by simpa using h.lenQ, hd, h.digQ.set _ hqB, ?_, ?_, fun t ht => ?_⟩
  · rw [h.eq, ← he]
    have v' : val B64 (Q.set j q) = val B64 Q + B64 ^ j * q := by omega
    rw [v']
    grind
  · have h1 := Nat.lt_div_mul_add hVp (a := val B64 L / B64 ^ j)
    have h2 := Nat.lt_div_mul_add hJ (a := val B64 L)
    rw [← hq] at h1
    generalize val B64 L / B64 ^ j = D at *
    have h3 : (D + 1) * B64 ^ j ≤ (q * V + V) * B64 ^ j := Nat.mul_le_mul_right _ h1
    rw [Nat.add_mul, Nat.add_mul, Nat.one_mul] at h3
    omega
  · rw [getD_set _ _ _ _ hlq, if_neg (by omega)]
    exact h.low t (by omega)
theorem quot_lt {V j l : Nat} (h : l < V * B64 ^ (j + 1)) (hVp : 0 < V) : l / B64 ^ j / V < B64 := by
  have hJ : 0 < B64 ^ j := Nat.pow_pos (by unfold B64; omega)
  rw [Nat.div_lt_iff_lt_mul hVp, Nat.div_lt_iff_lt_mul hJ]
  rw [Nat.pow_succ] at h
  have : V * (B64 ^ j * B64) = B64 * V * B64 ^ j := by rw [Nat.mul_comm (B64 ^ j), ← Nat.mul_assoc, Nat.mul_comm V]
  omega
/-- No borrow is left: the guess was right. -/
theorem DvOut.done0 {N V m n j g : Nat} {L L' Q : List Nat} (h : DvOut N V m n (j + 1) L Q) (hj : j < m) (hVp : 0 < V) (hg : val B64 L / B64 ^ j / V ≤ g ∧ g ≤ val B64 L / B64 ^ j / V + 1) (hm : MsOut L V j n g 0 L') :
    g < B64 ∧ DvOut N V m n j L' (Q.set j g) := by
  have he := hm.vl
  rw [Nat.zero_mul, Nat.add_zero] at he
  have hJ : 0 < B64 ^ j := Nat.pow_pos (by unfold B64; omega)
  have hqe : g = val B64 L / B64 ^ j / V := by
    have h1 : g ≤ val B64 L / B64 ^ j / V := by
      rw [Nat.le_div_iff_mul_le hVp, Nat.le_div_iff_mul_le hJ]
      omega
    omega
  have hb := quot_lt h.lt hVp
  rw [← hqe] at hb
  exact ⟨hb, h.next hj hqe hVp hb hm.len hm.dig he⟩
/-- A borrow is left: the guess was 1 too great, and the divisor has been added back. -/
theorem DvOut.done1 {N V m n j g d : Nat} {L L' L'' Q : List Nat} (h : DvOut N V m n (j + 1) L Q) (hj : j < m) (hVp : 0 < V) (hV : V < B64 ^ n) (hg : val B64 L / B64 ^ j / V ≤ g ∧ g ≤ val B64 L / B64 ^ j / V + 1) (hm : MsOut L V j n g 1 L')
    (hd : Dig B64 L'') (hl : L''.length = L'.length) (he2 : val B64 L'' + d * B64 ^ (j + n + 1) = val B64 L' + V * B64 ^ j) (hr : ∀ t, j + n + 1 ≤ t → L''.getD t 0 = L'.getD t 0) :
    1 ≤ g ∧ g - 1 < B64 ∧ DvOut N V m n j L'' (Q.set j (g - 1)) := by
  have he := hm.vl
  rw [Nat.one_mul] at he
  have hJ : 0 < B64 ^ j := Nat.pow_pos (by unfold B64; omega)
  have hL' : val B64 L' < B64 ^ (j + n + 1) := high_zero hm.dig (fun t ht => by rw [hm.rest t ht]; exact h.top hV ht)
  have hL'' : val B64 L'' < B64 ^ (j + n + 1) := high_zero hd (fun t ht => by rw [hr t ht, hm.rest t ht]; exact h.top hV ht)
  have hb := quot_lt h.lt hVp
  have hqe : g = val B64 L / B64 ^ j / V + 1 := by
    rcases Nat.lt_or_ge (val B64 L / B64 ^ j / V) g with h1 | h1
    · omega
    · exfalso
      have h2 : g ≤ val B64 L / B64 ^ j / V := h1
      rw [Nat.le_div_iff_mul_le hVp, Nat.le_div_iff_mul_le hJ] at h2
      omega
  obtain ⟨q, hq⟩ : ∃ q, q = val B64 L / B64 ^ j / V := ⟨_, rfl⟩
  rw [← hq] at hqe hb
  subst hqe
  rw [Nat.add_sub_cancel]
  have e1 : (q + 1) * V * B64 ^ j = q * V * B64 ^ j + V * B64 ^ j := by rw [Nat.add_mul, Nat.one_mul, Nat.add_mul]
  have hle : q * V * B64 ^ j ≤ val B64 L := by
    have h1 : q ≤ val B64 L / B64 ^ j / V := Nat.le_of_eq hq
    rwa [Nat.le_div_iff_mul_le hVp, Nat.le_div_iff_mul_le hJ] at h1
  have hd1 : d = 1 := by
    rcases Nat.lt_or_ge d 1 with h1 | h1
    · obtain rfl : d = 0 := by omega
      omega
    · rcases Nat.lt_or_ge 1 d with h2 | h2
      · exfalso
        have h3 : 2 * B64 ^ (j + n + 1) ≤ d * B64 ^ (j + n + 1) := Nat.mul_le_mul_right _ h2
        have h4 : V * B64 ^ j ≤ B64 ^ n * B64 ^ j := Nat.mul_le_mul_right _ (by omega)
        rw [← Nat.pow_add, Nat.add_comm n] at h4
        have h5 : B64 ^ (j + n) ≤ B64 ^ (j + n + 1) := Nat.pow_le_pow_right (by unfold B64; omega) (by omega)
        omega
      · omega
  subst hd1
  exact ⟨by omega, hb, h.next hj hq hVp hb (hl.trans hm.len) hd (by omega)⟩
/-- The end. -/
theorem DvOut.fin {N V m n : Nat} {L Q : List Nat} (h : DvOut N V m n 0 L Q) : val B64 Q = N / V ∧ val B64 L = N % V := by
  have hl := h.lt
  rw [Nat.pow_zero, Nat.mul_one] at hl
  have hp : 0 < V := by omega
  rw [h.eq, Nat.mul_comm]
  constructor
  · rw [Nat.mul_add_div hp, Nat.div_eq_of_lt hl, Nat.add_zero]
  · rw [Nat.mul_add_mod, Nat.mod_eq_of_lt hl]
end Go.Proofs.YtiloialbglfplaaGreatDoor

namespace Go.Proofs.YtiloialbglfplaaGreatDoor

/-- Bytes as numbers, the lowest first; the number with these bytes, the highest first. -/
def rb (l : List UInt8) : List Nat := (l.map UInt8.toNat).reverse
def beN (l : List UInt8) : Nat := val 256 (rb l)
theorem rb_length (l : List UInt8) : (rb l).length = l.length := by simp [rb]
theorem rb_dig (l : List UInt8) : Dig 256 (rb l) := by
  intro x hx
  simp only [rb, List.mem_reverse, List.mem_map] at hx
  obtain ⟨a, _, rfl⟩ := hx
  exact a.toNat_lt
theorem rb_getD (l : List UInt8) (i : Nat) (h : i < l.length) : (rb l).getD (l.length - 1 - i) 0 = (l[i]).toNat := by
  rw [getD_lt _ _ (by rw [rb_length]; omega)]
  simp only [rb, List.getElem_reverse, List.getElem_map, List.length_map]
  congr 2; omega
theorem rb_getD' (l : List UInt8) (i : Nat) (h : i < l.length) : (rb l).getD i 0 = (l[l.length - 1 - i]'(by omega)).toNat := by
  rw [← rb_getD l (l.length - 1 - i) (by omega)]; congr 1; omega
theorem beN_lt (l : List UInt8) : beN l < 2 ^ (8 * l.length) := by
  have h := val_lt (rb_dig l)
  rw [rb_length] at h
  rw [Nat.pow_mul]; exact h
theorem B64_256 : B64 = 256 ^ 8 := rfl
theorem two8 (k : Nat) : (2 : Nat) ^ (8 * k) = 256 ^ k := by rw [Nat.pow_mul]

/-- What holds while FromBytes fills its words. -/
structure FbUp (bs : List Nat) (i : Nat) (L : List Nat) : Prop where
  len : L.length = (bs.length + 7) / 8
  dig : Dig B64 L
  vl : val B64 L = val 256 (bs.take i)
theorem FbUp.start (bs : List Nat) : FbUp bs 0 (List.replicate ((bs.length + 7) / 8) 0) :=
  ⟨by simp, Dig.rep (by unfold B64; omega) _, by rw [val_rep]; simp⟩
theorem FbUp.word {bs : List Nat} {i : Nat} {L : List Nat} (h : FbUp bs i L) (hd : Dig 256 bs) : L.getD (i / 8) 0 < 2 ^ (8 * (i % 8)) := by
  rw [getD_val B64_two _ h.dig, h.vl]
  have h1 := val_lt (hd.take i)
  have h2 : val 256 (bs.take i) < 256 ^ i := Nat.lt_of_lt_of_le h1 (Nat.pow_le_pow_right (by omega) (by simp; omega))
  refine Nat.lt_of_le_of_lt (Nat.mod_le _ _) ?_
  rw [Nat.div_lt_iff_lt_mul (Nat.pow_pos (by unfold B64; omega)), B64_256, ← Nat.pow_mul, two8, ← Nat.pow_add, show i % 8 + 8 * (i / 8) = i from by omega]
  exact h2
theorem FbUp.step {bs : List Nat} {i : Nat} {L : List Nat} (h : FbUp bs i L) (hi : i < bs.length) (hd : Dig 256 bs) :
    L.getD (i / 8) 0 + 2 ^ (8 * (i % 8)) * bs.getD i 0 < B64 ∧ FbUp bs (i + 1) (L.set (i / 8) (L.getD (i / 8) 0 + 2 ^ (8 * (i % 8)) * bs.getD i 0)) := by
  have hw := h.word hd
  have hx : bs.getD i 0 < 256 := hd.getD (by omega) i
  have hlt : L.getD (i / 8) 0 + 2 ^ (8 * (i % 8)) * bs.getD i 0 < B64 := by
    have h1 : 2 ^ (8 * (i % 8)) * (bs.getD i 0 + 1) ≤ 2 ^ (8 * (i % 8)) * 256 := Nat.mul_le_mul_left _ hx
    have h2 : 2 ^ (8 * (i % 8)) * 256 ≤ B64 := by
      rw [two8, ← Nat.pow_succ, B64_256]; exact Nat.pow_le_pow_right (by omega) (by omega)
    rw [Nat.mul_add, Nat.mul_one] at h1
    omega
  have hl : i / 8 < L.length := by rw [h.len]; omega
  refine ⟨hlt, by rw [List.length_set]; exact h.len, h.dig.set _ hlt, ?_⟩
  have e := val_set B64 L (i / 8) (L.getD (i / 8) 0 + 2 ^ (8 * (i % 8)) * bs.getD i 0) hl
  rw [← getD_lt L _ hl] at e
  rw [val_take_getD, ← h.vl]
  have e2 : B64 ^ (i / 8) * (2 ^ (8 * (i % 8)) * bs.getD i 0) = 256 ^ i * bs.getD i 0 := by
    rw [← Nat.mul_assoc, two8, B64_256, ← Nat.pow_mul, ← Nat.pow_add, show 8 * (i / 8) + i % 8 = i from by omega]
  rw [Nat.mul_add, e2] at e
  omega
theorem FbUp.fin {bs L : List Nat} (h : FbUp bs bs.length L) : val B64 L = val 256 bs := h.vl.trans (by rw [List.take_length])

/-- .. while the document's NatFrom does. -/
structure FbDn (bs : List Nat) (k : Nat) (L : List Nat) : Prop where
  len : L.length = (bs.length + 3) / 4
  dig : Dig B32 L
  vl : val B32 L = 256 ^ k * val 256 (bs.drop k)
theorem FbDn.start (bs : List Nat) : FbDn bs bs.length (List.replicate ((bs.length + 3) / 4) 0) :=
  ⟨by simp, Dig.rep (by unfold B32; omega) _, by rw [val_rep]; simp⟩
theorem FbDn.word {bs : List Nat} {k : Nat} {L : List Nat} (h : FbDn bs (k + 1) L) : ∃ z, L.getD (k / 4) 0 = 2 ^ (8 * (k % 4) + 8) * z := by
  rw [getD_val B32_two _ h.dig, h.vl]
  have e1 : 256 ^ (k + 1) = B32 ^ (k / 4) * 256 ^ (k % 4 + 1) := by rw [B32_256, ← Nat.pow_mul, ← Nat.pow_add]; congr 1; omega
  have e2 : B32 = 256 ^ (k % 4 + 1) * 256 ^ (3 - k % 4) := by rw [B32_256, ← Nat.pow_add]; congr 1; omega
  rw [e1, Nat.mul_assoc, Nat.mul_div_cancel_left _ (Nat.pow_pos (by unfold B32; omega))]
  generalize val 256 (bs.drop (k + 1)) = M
  rw [e2, Nat.mul_mod_mul_left]
  exact ⟨_, by rw [show 8 * (k % 4) + 8 = 8 * (k % 4 + 1) from by omega, two8]⟩
theorem FbDn.step {bs : List Nat} {k : Nat} {L : List Nat} (h : FbDn bs (k + 1) L) (hk : k < bs.length) (hd : Dig 256 bs) :
    L.getD (k / 4) 0 + 2 ^ (8 * (k % 4)) * bs.getD k 0 < B32 ∧ FbDn bs k (L.set (k / 4) (L.getD (k / 4) 0 + 2 ^ (8 * (k % 4)) * bs.getD k 0)) := by
  obtain ⟨z, hz⟩ := h.word
  have hx : bs.getD k 0 < 256 := hd.getD (by omega) k
  have hy : L.getD (k / 4) 0 < B32 := h.dig.getD (by unfold B32; omega) _
  have hlt : L.getD (k / 4) 0 + 2 ^ (8 * (k % 4)) * bs.getD k 0 < B32 := by
    have e2 : B32 = 2 ^ (8 * (k % 4) + 8) * 256 ^ (3 - k % 4) := by
      rw [show 8 * (k % 4) + 8 = 8 * (k % 4 + 1) from by omega, two8, B32_256, ← Nat.pow_add]; congr 1; omega
    have e3 : (2 : Nat) ^ (8 * (k % 4) + 8) = 2 ^ (8 * (k % 4)) * 256 := by rw [Nat.pow_add]
    rw [hz] at hy ⊢
    rw [e2] at hy ⊢
    have hzm : z < 256 ^ (3 - k % 4) := Nat.lt_of_mul_lt_mul_left hy
    have h1 : 2 ^ (8 * (k % 4) + 8) * (z + 1) ≤ 2 ^ (8 * (k % 4) + 8) * 256 ^ (3 - k % 4) := Nat.mul_le_mul_left _ hzm
    have h2 : 2 ^ (8 * (k % 4)) * (bs.getD k 0 + 1) ≤ 2 ^ (8 * (k % 4)) * 256 := Nat.mul_le_mul_left _ hx
    have h3 : 0 < 2 ^ (8 * (k % 4)) := Nat.pow_pos (by omega)
    rw [Nat.mul_add, Nat.mul_one] at h1 h2
    omega
  have hl : k / 4 < L.length := by rw [h.len]; omega
  refine ⟨hlt, by rw [List.length_set]; exact h.len, h.dig.set _ hlt, ?_⟩
  have e := val_set B32 L (k / 4) (L.getD (k / 4) 0 + 2 ^ (8 * (k % 4)) * bs.getD k 0) hl
  rw [← getD_lt L _ hl] at e
  have hv := h.vl
  rw [Nat.pow_succ, Nat.mul_assoc] at hv
  rw [val_drop_cons 256 bs k hk, ← getD_lt bs k hk, Nat.mul_add, ← hv]
  have e2 : B32 ^ (k / 4) * (2 ^ (8 * (k % 4)) * bs.getD k 0) = 256 ^ k * bs.getD k 0 := by
    rw [← Nat.mul_assoc, two8, B32_256, ← Nat.pow_mul, ← Nat.pow_add, show 4 * (k / 4) + k % 4 = k from by omega]
  rw [Nat.mul_add, e2] at e
  omega

theorem or64 {y x p : Nat} (hx : x < 256) (hp : p ≤ 56) (hy : y < 2 ^ p) : bits .or .u64 (y : Int) (IntKind.u64.wrap ((x : Int) * 2 ^ p)) = ((y + 2 ^ p * x : Nat) : Int) := by
  rw [upL_val (by omega) hy]
  unfold upL
  have : x < 2 ^ (64 - p) := Nat.lt_of_lt_of_le hx (Nat.le_trans (by omega : 256 ≤ 2 ^ 8) (Nat.pow_le_pow_right (by omega) (by omega)))
  rw [Nat.mod_eq_of_lt this]
theorem or32 {y x p z : Nat} (hx : x < 256) (hp : p ≤ 24) (hz : y = 2 ^ (p + 8) * z) (hy : y < B32) : bits .or .u32 (y : Int) (IntKind.u32.wrap ((x : Int) * 2 ^ p)) = ((y + 2 ^ p * x : Nat) : Int) := by
  have h1 : 2 ^ p * x < 2 ^ (p + 8) := by rw [Nat.pow_add]; exact Nat.mul_lt_mul_of_pos_left hx (Nat.pow_pos (by omega))
  have h2 : (2 : Nat) ^ (p + 8) ≤ 2 ^ 32 := Nat.pow_le_pow_right (by omega) (by omega)
  have h3 : 2 ^ p * x < 4294967296 := Nat.lt_of_lt_of_le h1 h2
  have e1 : IntKind.u32.wrap ((x : Int) * 2 ^ p) = ((2 ^ p * x : Nat) : Int) := by
    rw [IntKind.wrap_u32']
    have : ((x : Int) * 2 ^ p) = ((2 ^ p * x : Nat) : Int) := by push_cast; rw [Int.mul_comm]
    rw [this]; omega
  rw [e1, u32_or_nat y _ hy h3, hz, Nat.or_comm, or_add h1, Nat.add_comm]
theorem val_digits (b n : Nat) (k : Nat) : val b ((List.range k).map fun i => n / b ^ i % b) = n % b ^ k := by
  induction k with
  | zero => simp [Nat.mod_one]
  | succ k ih => rw [List.range_succ, List.map_append, List.map_singleton, val_snoc, ih, List.length_map, List.length_range, Nat.pow_succ, Nat.mod_mul]
theorem rb_beB (n : Nat) : rb (beB n) = (List.range (nb n)).map fun i => n / 256 ^ i % 256 := by
  apply List.ext_getElem
  · simp [rb, beB]
  · intro i h1 h2
    have hi : i < nb n := by simpa using h2
    simp only [rb, beB, List.getElem_reverse, List.getElem_map, List.getElem_range, List.length_map, List.length_range]
    rw [UInt8.toNat_ofNat', show nb n - 1 - (nb n - 1 - i) = i from by omega]
theorem nb_lt (n : Nat) : n < 256 ^ nb n := by
  rw [← two8]
  exact Nat.lt_of_lt_of_le (lt_bl n) (Nat.pow_le_pow_right (by omega) (by unfold nb; omega))
theorem beN_beB (n : Nat) : beN (beB n) = n := by
  unfold beN
  rw [rb_beB, val_digits, Nat.mod_eq_of_lt (nb_lt n)]

/-- A slice that reads as these bytes. -/
def SlB (l : List UInt8) (v : Value) (w : World) : Prop :=
  ∃ A c, v = .slice A l.length c ∧ l.length ≤ c ∧ (c ≤ 9223372036854775807 ∧ (A = none → c = 0)) ∧ (l ≠ [] → ∃ g off, A = some ⟨g, off, none⟩ ∧ g < w.heap.size ∧ ∀ i (h : i < l.length), w.cell? ⟨g, off + i, none⟩ = some (.int .u8 (l[i]).toNat))
theorem SlB.ext {w w' : World} {l : List UInt8} {v : Value} (h : SlB l v w) (e : Ext w w') : SlB l v w' := by
  obtain ⟨A, c, rfl, hc, hm, hh⟩ := h
  refine ⟨A, c, rfl, hc, hm, fun hne => ?_⟩
  obtain ⟨g, off, rfl, hg, hc⟩ := hh hne
  exact ⟨g, off, rfl, Nat.lt_of_lt_of_le hg e.size, fun i hi => e.keep (hc i hi)⟩
theorem SlB.of_blk {w : World} {g : Nat} {l : List UInt8} (hl : l.length ≤ 9223372036854775807) (h : Blk w g 5 (Lib.byteCells l)) : SlB l (.slice (some ⟨g, 0, none⟩) l.length l.length) w :=
  ⟨_, _, rfl, Nat.le_refl _, ⟨hl, fun h => by cases h⟩, fun _ => ⟨g, 0, rfl, h.lt, fun i hi => by
    rw [Nat.zero_add, h.cell i]
    simp [Lib.byteCells, List.getElem?_map, List.getElem?_eq_getElem hi]⟩⟩
theorem SlB.of_at {base : Nat} {l : List UInt8} {v : Value} {w : World} (hl : l.length ≤ 9223372036854775807) (h : BytesAt base l v w) : SlB l v w := by
  obtain ⟨g, _, rfl, hb⟩ := h
  exact SlB.of_blk hl hb
theorem SlB.nil (w : World) : SlB [] (.slice none 0 0) w := ⟨none, 0, rfl, by simp, ⟨by omega, fun _ => rfl⟩, fun h => absurd rfl h⟩
end Go.Proofs.YtiloialbglfplaaGreatDoor

namespace Go.Proofs.YtiloialbglfplaaGreatDoor
open Go.RowKit

/-- A fact that rests on the blocks S alone. -/
def Rests (S : Nat → Prop) (φ : World → Prop) : Prop := ∀ w w' : World, (∀ i, S i → w'.heap[i]? = w.heap[i]?) → w.heap.size ≤ w'.heap.size → φ w → φ w'
/-- .. as it lies in this world. -/
def RestsAt (w : World) (S : Nat → Prop) (φ : World → Prop) : Prop := ∀ w' : World, (∀ i, S i → w'.heap[i]? = w.heap[i]?) → w.heap.size ≤ w'.heap.size → φ w'
theorem RestsAt.now {w : World} {S : Nat → Prop} {φ : World → Prop} (h : RestsAt w S φ) : φ w := h w (fun _ _ => rfl) (Nat.le_refl _)
theorem RestsAt.go {w w1 : World} {S : Nat → Prop} {φ : World → Prop} (h : RestsAt w S φ) (hS : ∀ i, S i → w1.heap[i]? = w.heap[i]?) (hsz : w.heap.size ≤ w1.heap.size) : RestsAt w1 S φ :=
  fun w' h' hs => h w' (fun i hi => (h' i hi).trans (hS i hi)) (Nat.le_trans hsz hs)
theorem Rests.at_ {w : World} {S : Nat → Prop} {φ : World → Prop} (h : Rests S φ) (hφ : φ w) : RestsAt w S φ := fun w' h1 h2 => h w w' h1 h2 hφ

/-- No cell is a word of 32 bits or a byte. -/
def bigCell : Value → Bool
  | .int .u32 _ => false
  | .int .u8 _ => false
  | _ => true
/-- A block with a small cell. -/
def SmallAt (w : World) (g : Nat) : Prop := ∃ j v, w.cell? ⟨g, j, none⟩ = some v ∧ bigCell v = false
theorem SmallAt.same {w w' : World} {g : Nat} (h : SmallAt w g) (e : w'.heap[g]? = w.heap[g]?) : SmallAt w' g := by
  obtain ⟨j, v, h1, h2⟩ := h
  exact ⟨j, v, (World.cell?_of_block (a := ⟨g, j, none⟩) e).trans h1, h2⟩

/-- Since w0 nothing old has changed; these blocks are new, and one's own; these facts hold and rest on other blocks. -/
structure StS (S : Nat → Prop) (w0 w : World) (L : List Bk) (Φ : List (World → Prop)) : Prop where
  ext : Ext w0 w
  fresh : ∀ b ∈ L, w0.heap.size ≤ b.1
  nodup : (L.map (·.1)).Nodup
  blk : ∀ b ∈ L, Blk w b.1 b.2.1 b.2.2
  fact : ∀ φ ∈ Φ, ∃ S0, RestsAt w S0 φ ∧ ∀ i, S0 i → i < w.heap.size ∧ i ∉ L.map (·.1) ∧ (S i ∨ w0.heap.size ≤ i ∨ SmallAt w i)
/-- .. wherever the facts' blocks lie. -/
abbrev St := StS fun _ => True

section
variable {S : Nat → Prop} {w0 w w' : World} {L : List Bk} {Φ : List (World → Prop)}
theorem StS.start (S : Nat → Prop) (w : World) : StS S w w [] [] := ⟨Ext.refl w, by simp, by simp, by simp, by simp⟩
theorem St.start (w : World) : St w w [] [] := StS.start _ w
theorem StS.go (h : StS S w0 w L Φ) (e : Ext w w') : StS S w0 w' L Φ :=
  ⟨h.ext.trans e, h.fresh, h.nodup, fun b hb => (h.blk b hb).ext e, fun φ hφ => by
    obtain ⟨S0, h2, h3⟩ := h.fact φ hφ
    exact ⟨S0, h2.go (fun i hi => e.block i (h3 i hi).1) e.size, fun i hi => ⟨Nat.lt_of_lt_of_le (h3 i hi).1 e.size, (h3 i hi).2.1, (h3 i hi).2.2.imp id (Or.imp id fun hs => hs.same (e.block i (h3 i hi).1))⟩⟩⟩
theorem StS.get (h : StS S w0 w L Φ) (i : Nat) {φ : World → Prop} (hi : Φ[i]? = some φ) : φ w := by
  obtain ⟨S0, h2, _⟩ := h.fact φ (List.mem_of_getElem? hi)
  exact h2.now
theorem StS.at_ (h : StS S w0 w L Φ) (i : Nat) {b : Bk} (hi : L[i]? = some b) : Blk w b.1 b.2.1 b.2.2 := h.blk b (List.mem_of_getElem? hi)
theorem StS.lt (h : StS S w0 w L Φ) {g : Nat} (hg : g ∈ L.map (·.1)) : g < w.heap.size := by
  obtain ⟨b, hb, rfl⟩ := List.mem_map.1 hg
  exact (h.blk b hb).lt
/-- A new block. -/
theorem StS.new (h : StS S w0 w L Φ) (e : Ext w w') {g : Nat} {t : TypeId} {cs : List Value} (hg : w.heap.size ≤ g) (hb : Blk w' g t cs) : StS S w0 w' ((g, t, cs) :: L) Φ := by
  have h' := h.go e
  refine ⟨h'.ext, fun b hb' => ?_, ?_, fun b hb' => ?_, fun φ hφ => ?_⟩
  · rcases List.mem_cons.1 hb' with rfl | hb'
    · exact Nat.le_trans h.ext.size hg
    · exact h.fresh b hb'
  · rw [List.map_cons, List.nodup_cons]
    exact ⟨fun hm => by have := h.lt hm; simp only at this; omega, h.nodup⟩
  · rcases List.mem_cons.1 hb' with rfl | hb'
    · exact hb
    · exact h'.blk b hb'
  · obtain ⟨S0, h2, h3⟩ := h.fact φ hφ
    refine ⟨S0, h2.go (fun i hi => e.block i (h3 i hi).1) e.size, fun i hi => ⟨Nat.lt_of_lt_of_le (h3 i hi).1 e.size, fun hm => ?_, (h3 i hi).2.2.imp id (Or.imp id fun hs => hs.same (e.block i (h3 i hi).1))⟩⟩
    rw [List.map_cons, List.mem_cons] at hm
    rcases hm with rfl | hm
    · have := (h3 _ hi).1; omega
    · exact (h3 i hi).2.1 hm
theorem StS.alloc (h : StS S w0 w L Φ) (t : TypeId) (cs : List Value) : StS S w0 (w.alloc (.cells cs.toArray t)) ((w.heap.size, t, cs) :: L) Φ :=
  h.new ((Ext.refl w).alloc _) (Nat.le_refl _) (Blk.new w t cs)
/-- A fact more. -/
theorem StS.addAt (h : StS S w0 w L Φ) {φ : World → Prop} (S0 : Nat → Prop) (h2 : RestsAt w S0 φ) (h3 : ∀ i, S0 i → i < w.heap.size ∧ i ∉ L.map (·.1) ∧ (S i ∨ w0.heap.size ≤ i ∨ SmallAt w i)) : StS S w0 w L (φ :: Φ) :=
  ⟨h.ext, h.fresh, h.nodup, h.blk, fun ψ hψ => by
    rcases List.mem_cons.1 hψ with rfl | hψ
    · exact ⟨S0, h2, h3⟩
    · exact h.fact ψ hψ⟩
theorem StS.add (h : StS S w0 w L Φ) {φ : World → Prop} (hφ : φ w) (S0 : Nat → Prop) (h2 : Rests S0 φ) (h3 : ∀ i, S0 i → i < w.heap.size ∧ i ∉ L.map (·.1) ∧ (S i ∨ w0.heap.size ≤ i ∨ SmallAt w i)) : StS S w0 w L (φ :: Φ) :=
  h.addAt S0 (h2.at_ hφ) h3

/-! ### Cells of a block, set one by one -/
def setL : List Value → Nat → List Value → List Value
  | cs, _, [] => cs
  | cs, o, v :: r => setL (cs.set o v) (o + 1) r
theorem Blk.setL {g : Nat} {t : TypeId} : ∀ {vs cs : List Value} {o : Nat} {w : World}, Blk w g t cs → Blk (w.setCells g o vs) g t (setL cs o vs)
  | [], _, _, _, h => h
  | v :: r, _, o, _, h => Blk.setL (vs := r) (h.set o v)
theorem But.setL {g : Nat} {w0 : World} : ∀ {vs : List Value} {o : Nat} {w : World}, But g w0 w → But g w0 (w.setCells g o vs)
  | [], _, _, h => h
  | v :: r, o, _, h => But.setL (vs := r) (h.set o v)
theorem size_setCells {g : Nat} : ∀ (vs : List Value) (o : Nat) (w : World), (w.setCells g o vs).heap.size = w.heap.size
  | [], _, _ => rfl
  | v :: r, o, w => by rw [World.setCells, size_setCells r]; simp
theorem nodup_ne {L : List Bk} (h : (L.map (·.1)).Nodup) {i : Nat} {b c : Bk} (hi : L[i]? = some b) (hc : c ∈ L) (hne : c ≠ b) : c.1 ≠ b.1 := by
  intro e
  obtain ⟨j, hj⟩ := List.mem_iff_getElem?.1 hc
  by_cases hij : i = j
  · subst hij; rw [hi] at hj; injection hj with hj; exact hne hj.symm
  · have h1 : (L.map (·.1))[i]? = some b.1 := by simp [hi]
    have h2 : (L.map (·.1))[j]? = some b.1 := by simp [hj, e]
    have := (List.getElem?_inj (i := i) (j := j) (by
      rcases Nat.lt_or_ge i (L.map (·.1)).length with h' | h'
      · exact h'
      · rw [List.getElem?_eq_none h'] at h1; cases h1) h).1 (by rw [h1, h2])
    exact hij this
theorem map_set_fst {L : List Bk} {i : Nat} {g : Nat} {t : TypeId} {cs cs' : List Value} (hi : L[i]? = some (g, t, cs)) : (L.set i (g, t, cs')).map (·.1) = L.map (·.1) := by
  rw [List.map_set]
  apply List.ext_getElem?
  intro j
  by_cases e : i = j
  · subst e
    have h1 : (L.map (·.1))[i]? = some g := by simp [hi]
    have hl : i < (L.map (·.1)).length := by
      rcases Nat.lt_or_ge i (L.map (·.1)).length with h' | h'
      · exact h'
      · rw [List.getElem?_eq_none h'] at h1; cases h1
    rw [List.getElem?_set_self hl, h1]
  · rw [List.getElem?_set_ne e]
/-- A store into an own block. -/
theorem StS.store (h : StS S w0 w L Φ) {i g : Nat} {t : TypeId} {cs : List Value} (hi : L[i]? = some (g, t, cs)) (o : Nat) (vs : List Value) : StS S w0 (w.setCells g o vs) (L.set i (g, t, setL cs o vs)) Φ := by
  have hmem := List.mem_of_getElem? hi
  have hgL : g ∈ L.map (·.1) := List.mem_map.2 ⟨_, hmem, rfl⟩
  have hbut : But g w (w.setCells g o vs) := But.setL (But.refl g w)
  refine ⟨hbut.ext h.ext (h.fresh _ hmem), fun b hb => ?_, ?_, fun b hb => ?_, fun φ hφ => ?_⟩
  · rcases List.mem_or_eq_of_mem_set hb with hb | rfl
    · exact h.fresh b hb
    · have := h.fresh _ hmem; exact this
  · rw [map_set_fst hi]; exact h.nodup
  · by_cases hbe : b = (g, t, Go.Proofs.YtiloialbglfplaaGreatDoor.setL cs o vs)
    · subst hbe; exact (h.blk _ hmem).setL
    · rcases List.mem_or_eq_of_mem_set hb with hb' | rfl
      · by_cases hbc : b = (g, t, cs)
        · subst hbc
          -- the old block at another place: barred by nodup
          obtain ⟨j, hj⟩ := List.mem_iff_getElem?.1 hb
          have hji : j ≠ i := by
            intro e
            subst e
            have hl : j < L.length := by
              rcases Nat.lt_or_ge j L.length with h' | h'
              · exact h'
              · rw [List.getElem?_eq_none h'] at hi; cases hi
            rw [List.getElem?_set_self hl] at hj
            injection hj with hj
            exact hbe hj.symm
          rw [List.getElem?_set_ne (fun e => hji e.symm)] at hj
          exfalso
          have h1 : (L.map (·.1))[i]? = some g := by simp [hi]
          have h2 : (L.map (·.1))[j]? = some g := by simp [hj]
          exact hji ((List.getElem?_inj (by
            rcases Nat.lt_or_ge j (L.map (·.1)).length with h' | h'
            · exact h'
            · rw [List.getElem?_eq_none h'] at h2; cases h2) h.nodup).1 (by rw [h1, h2]))
        · exact hbut.blk (h.blk b hb') (nodup_ne h.nodup hi hb' hbc)
      · exact absurd rfl hbe
  · obtain ⟨S0, h2, h3⟩ := h.fact φ hφ
    have hsame : ∀ i, S0 i → (w.setCells g o vs).heap[i]? = w.heap[i]? := fun i hi' => hbut.block i (h3 i hi').1 (fun e => (h3 i hi').2.1 (by injection e with e; rw [e]; exact hgL))
    refine ⟨S0, h2.go hsame (by rw [size_setCells]; exact Nat.le_refl _), fun i hi' => ?_⟩
    rw [size_setCells, map_set_fst hi]
    exact ⟨(h3 i hi').1, (h3 i hi').2.1, (h3 i hi').2.2.imp id (Or.imp id fun hs => hs.same (hsame i hi'))⟩
/-- Blocks that are no longer of use. -/
theorem StS.drop (h : StS S w0 w L Φ) (L' : List Bk) (hs : L'.Sublist L) : StS S w0 w L' Φ :=
  ⟨h.ext, fun b hb => h.fresh b (hs.subset hb), (hs.map _).nodup h.nodup, fun b hb => h.blk b (hs.subset hb), fun φ hφ => by
    obtain ⟨S0, h2, h3⟩ := h.fact φ hφ
    exact ⟨S0, h2, fun i hi => ⟨(h3 i hi).1, fun hm => (h3 i hi).2.1 ((hs.map _).subset hm), (h3 i hi).2.2⟩⟩⟩
theorem StS.facts (h : StS S w0 w L Φ) (Ψ : List (World → Prop)) (hs : ∀ ψ ∈ Ψ, ψ ∈ Φ) : StS S w0 w L Ψ := ⟨h.ext, h.fresh, h.nodup, h.blk, fun φ hφ => h.fact φ (hs φ hφ)⟩

/-! ### The document's numbers -/
def bigL (L : List Bk) : Bool := L.all fun b => b.2.2.all bigCell
theorem R32.rests {n : Nat} {A : Option Addr} {l c : Nat} : Rests (fun i => l ≠ 0 ∧ A.map (·.block) = some i) (R32 n (.slice A l c)) := by
  intro w w' hs hsz h
  obtain ⟨A', c', he, hc, hh⟩ := h
  injection he with h1 h2 h3
  subst h1; subst h2; subst h3
  refine ⟨_, _, rfl, hc, fun hne => ?_⟩
  obtain ⟨g, off, rfl, hg, hcell⟩ := hh hne
  refine ⟨g, off, rfl, Nat.lt_of_lt_of_le hg hsz, fun i hi => ?_⟩
  have hb := hs g ⟨by intro e; exact hne (List.eq_nil_of_length_eq_zero e), rfl⟩
  have := hcell i hi
  unfold World.cell? at this ⊢
  rw [hb]
  exact this
theorem StS.add32 (h : StS S w0 w L Φ) {n : Nat} {A : Option Addr} {l c : Nat} (hR : R32 n (.slice A l c) w) (hL : bigL L = true) : StS S w0 w L (R32 n (.slice A l c) :: Φ) := by
  refine h.add hR _ R32.rests ?_
  rintro i ⟨hl, hA⟩
  obtain ⟨A', c', he, hc, hh⟩ := hR
  injection he with h1 h2 h3
  subst h1; subst h2; subst h3
  have hne : limbs B32 n ≠ [] := fun e => hl (by rw [e]; rfl)
  obtain ⟨g, off, rfl, hg, hcell⟩ := hh hne
  simp only [Option.map_some, Option.some.injEq] at hA
  subst hA
  have h0 := hcell 0 (List.length_pos_iff.2 hne)
  refine ⟨hg, fun hm => ?_, .inr (.inr ⟨_, _, h0, rfl⟩)⟩
  obtain ⟨b, hb, rfl⟩ := List.mem_map.1 hm
  rw [(h.blk b hb).cell] at h0
  unfold bigL at hL
  have := List.all_eq_true.1 (List.all_eq_true.1 hL b hb) _ (List.mem_of_getElem? h0)
  simp [bigCell] at this
theorem SlB.rests {l : List UInt8} {A : Option Addr} {n c : Nat} : Rests (fun i => n ≠ 0 ∧ A.map (·.block) = some i) (SlB l (.slice A n c)) := by
  intro w w' hs hsz h
  obtain ⟨A', c', he, hc, hm, hh⟩ := h
  injection he with h1 h2 h3
  subst h1; subst h2; subst h3
  refine ⟨_, _, rfl, hc, hm, fun hne => ?_⟩
  obtain ⟨g, off, rfl, hg, hcell⟩ := hh hne
  refine ⟨g, off, rfl, Nat.lt_of_lt_of_le hg hsz, fun i hi => ?_⟩
  have hb := hs g ⟨by intro e; exact hne (List.eq_nil_of_length_eq_zero e), rfl⟩
  have := hcell i hi
  unfold World.cell? at this ⊢
  rw [hb]
  exact this
theorem StS.add8 (h : StS S w0 w L Φ) {l : List UInt8} {A : Option Addr} {n c : Nat} (hR : SlB l (.slice A n c) w) (hL : bigL L = true) : StS S w0 w L (SlB l (.slice A n c) :: Φ) := by
  refine h.add hR _ SlB.rests ?_
  rintro i ⟨hl, hA⟩
  obtain ⟨A', c', he, hc, hm, hh⟩ := hR
  injection he with h1 h2 h3
  subst h1; subst h2; subst h3
  have hne : l ≠ [] := fun e => hl (by rw [e]; rfl)
  obtain ⟨g, off, rfl, hg, hcell⟩ := hh hne
  simp only [Option.map_some, Option.some.injEq] at hA
  subst hA
  have h0 := hcell 0 (List.length_pos_iff.2 hne)
  refine ⟨hg, fun hm => ?_, .inr (.inr ⟨_, _, h0, rfl⟩)⟩
  obtain ⟨b, hb, rfl⟩ := List.mem_map.1 hm
  rw [(h.blk b hb).cell] at h0
  unfold bigL at hL
  have := List.all_eq_true.1 (List.all_eq_true.1 hL b hb) _ (List.mem_of_getElem? h0)
  simp [bigCell] at this
end

/-! ### Steps that touch memory -/
def loadM (P : Program) (t : TypeId) (cs : List Value) (off : Nat) : Option Value :=
  match P.underlying t, P.info? t with
  | some d, some i => bif d.isRow then (bif Nat.ble (off + i.size) cs.length then some (.agg ((cs.drop off).take i.size).toArray) else none) else cs[off]?
  | _, _ => none
def storeM (P : Program) (t : TypeId) (cs : List Value) (off : Nat) (v : Value) : Bool :=
  match P.info? t with
  | some i => v.cells.size == i.size && Nat.ble (off + v.cells.size) cs.length && v.cells.all (·.oneCell')
  | none => false

section
variable {S : Nat → Prop} {P : Program} {ops : Array Oper} {Q : Exit → Act → World → Prop} {o : Oper} {rest : List Oper} {a : Act} {w0 w : World} {n : Nat} {m : Sl} {L : List Bk} {Φ : List (World → Prop)} {R : Value → World → Prop} {ρ : Operand → Value}

theorem run_load {g off : Nat} {tt t : TypeId} {cs : List Value} {v : Value} (hb : Blk w g tt cs) (h : loadM P t cs off = some v) : (Instr.loadAt t (.pointer (some ⟨g, off, none⟩))).run P w = .ok v w := by
  unfold loadM at h
  split at h
  · rename_i d i hu hi
    cases hd : d.isRow with
    | true =>
      rw [hd, cond_true] at h
      cases hle : Nat.ble (off + i.size) cs.length with
      | false => rw [hle] at h; cases h
      | true =>
        rw [hle, cond_true] at h
        injection h with h
        subst h
        have hle' := Nat.le_of_ble_eq_true hle
        refine run_loadAt_mid w g off t _ d (fun j v hv => ?_) hu hd (by rw [hi]; simp; omega)
        rw [hb.cell (off + j)]
        have hj : j < i.size := by
          rcases Nat.lt_or_ge j i.size with h' | h'
          · exact h'
          · rw [List.getElem?_eq_none (by simp; omega)] at hv; cases hv
        rw [List.getElem?_take_of_lt hj, List.getElem?_drop] at hv
        exact hv
    | false =>
      rw [hd, cond_false] at h
      have hagg : (isAgg t).run P w = .ok false w := by
        unfold isAgg
        rw [Sem.run_bind, run_underlying hu w]
        cases d <;> simp_all [TypeDesc.isRow]
      have hc : w.cell? ⟨g, off, none⟩ = some v := by rw [hb.cell off, h]
      simp only [Instr.loadAt, Instr.sureAddr, loadVar, Sem.run_bind, Sem.run_pure, Result.andThen_ok, hagg]
      simp [load, Sem.run, hc]
  · cases h
theorem stp_load {g off : Nat} {tt t : TypeId} {x : Operand} {cs : List Value} {v : Value} (ho : o.op = .load t x) (hx : ρ x = .pointer (some ⟨g, off, none⟩)) (hb : Blk w g tt cs) (h : loadM P t cs off = some v) (hR : R v w) : Stp P ρ o w R := by
  refine stp_val (v := v) (w' := w) ?_ hR
  unfold execOp
  simp only [ho, hx, Sem.run_bind, run_load hb h, Result.andThen_ok, Sem.run_pure]
theorem stp_store {i g off : Nat} {tt t : TypeId} {x y : Operand} {cs : List Value} {v : Value} (hs : StS S w0 w L Φ) (ho : o.op = .store t x y) (hx : ρ x = .pointer (some ⟨g, off, none⟩)) (hy : ρ y = v) (hi : L[i]? = some (g, tt, cs)) (h : storeM P t cs off v = true)
    (hR : StS S w0 (w.setCells g off v.cells.toList) (L.set i (g, tt, setL cs off v.cells.toList)) Φ → R undef (w.setCells g off v.cells.toList)) : Stp P ρ o w R := by
  refine stp_skip (w' := w.setCells g off v.cells.toList) ?_ (hR (hs.store hi off _))
  have hb := hs.at_ i hi
  unfold storeM at h
  split at h
  · rename_i inf hinf
    simp only [Bool.and_eq_true, beq_iff_eq] at h
    obtain ⟨⟨h1, h2⟩, h3⟩ := h
    have h2' := Nat.le_of_ble_eq_true h2
    have hrun : (storeCells ⟨g, off, none⟩ v.cells.toList 0).run P w = .ok () (w.setCells g (off + 0) v.cells.toList) := by
      refine run_storeCells_cells (P := P) g off v.cells.toList 0 w (fun j hj => ?_) (fun j hj => hb.frozen _) (fun u hu => ?_)
      · rw [hb.cell]
        have hj' : j < v.cells.size := by simpa using hj
        simp only [Nat.add_zero]
        rw [List.getElem?_eq_getElem (by omega)]
        rfl
      · exact (Array.all_eq_true_iff_forall_mem.1 h3) u (by simpa using hu)
    rw [Nat.add_zero] at hrun
    unfold execOp
    simp only [ho, hx, hy, Instr.storeAt, Instr.sureAddr, storeVar, sizeOf, typeInfo]
    simp [hinf, h1, hrun]
  · cases h
theorem stp_alloc {t : TypeId} {z : Value} (hs : StS S w0 w L Φ) (ho : o.op = .alloc t) (hz : (P.info? t).bind (·.zero) = some z)
    (hR : StS S w0 (w.alloc (.cells z.cells t)) ((w.heap.size, t, z.cells.toList) :: L) Φ → R (.pointer (some ⟨w.heap.size, 0, none⟩)) (w.alloc (.cells z.cells t))) : Stp P ρ o w R := by
  have h := hs.alloc t z.cells.toList
  rw [Array.toArray_toList] at h
  refine stp_val ?_ (hR h)
  cases hi : P.info? t with
  | none => rw [hi] at hz; cases hz
  | some i =>
    rw [hi, Option.bind_some] at hz
    unfold execOp
    simp only [ho, Instr.alloc, zeroValue, typeInfo, newVar, newRow]
    simp [hi, hz]
theorem stp_box {t : TypeId} {x : Operand} {v : Value} (hs : StS S w0 w L Φ) (ho : o.op = .box t x) (hx : ρ x = v)
    (hR : StS S w0 (w.alloc (.cells v.cells t)) ((w.heap.size, t, v.cells.toList) :: L) Φ → R (.pointer (some ⟨w.heap.size, 0, none⟩)) (w.alloc (.cells v.cells t))) : Stp P ρ o w R := by
  have h := hs.alloc t v.cells.toList
  rw [Array.toArray_toList] at h
  refine stp_val ?_ (hR h)
  unfold execOp
  simp only [ho, hx, Instr.box, newVar, newRow]
  simp
end
end Go.Proofs.YtiloialbglfplaaGreatDoor

namespace Go.Proofs.YtiloialbglfplaaGreatDoor
open Go.RowKit

section
variable {S : Nat → Prop} {P : Program} {ops : Array Oper} {Q : Exit → Act → World → Prop} {o : Oper} {rest : List Oper} {a : Act} {w0 w : World} {n : Nat} {m : Sl} {L : List Bk} {Φ : List (World → Prop)}

def chk (ops : Array Oper) (n : Nat) (m : Sl) (o : Oper) : Bool := opOk m o && dstOk o n && (match wantM ops m o with | some true => true | _ => false)
theorem chk_spec (h : chk ops n m o = true) : (opOk m o && dstOk o n) = true ∧ wantM ops m o = some true := by
  unfold chk at h
  rw [Bool.and_eq_true] at h
  refine ⟨h.1, ?_⟩
  have h2 := h.2
  split at h2
  · assumption
  · cases h2

theorem s_val (ha : At a n m) (v : Value) (K : ∀ a', At a' n (putm m o.dst v) → wpList P ops Q rest a' w) (hc : chk ops n m o = true := by kernel_rfl) (hr : (execOp (ev m) o).run P w = .ok (.value v) w := by kernel_rfl) : wpList P ops Q (o :: rest) a w :=
  seq_step ha (chk_spec hc).1 (chk_spec hc).2 (stp_val hr K)
/-- A value that is spelled otherwise. -/
theorem s_eq (ha : At a n m) {u : Value} (v : Value) (e : u = v) (K : ∀ a', At a' n (putm m o.dst v) → wpList P ops Q rest a' w) (hc : chk ops n m o = true := by kernel_rfl) (hr : (execOp (ev m) o).run P w = .ok (.value u) w := by kernel_rfl) : wpList P ops Q (o :: rest) a w := by
  subst e
  exact s_val ha _ K hc hr
/-- A truth value that is known otherwise. -/
theorem s_bool (ha : At a n m) {b : Bool} (c : Bool) (e : b = c) (K : ∀ a', At a' n (putm m o.dst (.bool c)) → wpList P ops Q rest a' w) (hc : chk ops n m o = true := by kernel_rfl) (hr : (execOp (ev m) o).run P w = .ok (.value (.bool b)) w := by kernel_rfl) : wpList P ops Q (o :: rest) a w := by
  subst e
  exact s_val ha _ K hc hr
theorem s_not (ha : At a n m) (K : ∀ a', At a' n (putm m o.dst undef) → wpList P ops Q rest a' w) (hd : dstOk o n = true := by kernel_rfl) (hw : wantM ops m o = some false := by kernel_rfl) : wpList P ops Q (o :: rest) a w :=
  seq_not ha hd hw K
theorem s_load (ha : At a n m) (hs : StS S w0 w L Φ) (i : Nat) (v : Value) {g off : Nat} {tt t : TypeId} {x : Operand} {cs : List Value} (K : ∀ a', At a' n (putm m o.dst v) → wpList P ops Q rest a' w) (ho : o.op = .load t x := by rfl) (hx : ev m x = .pointer (some ⟨g, off, none⟩) := by rfl)
    (hi : L[i]? = some (g, tt, cs) := by rfl) (hc : chk ops n m o = true := by kernel_rfl) (h : loadM P t cs off = some v := by kernel_rfl) : wpList P ops Q (o :: rest) a w :=
  seq_step ha (chk_spec hc).1 (chk_spec hc).2 (stp_load ho hx (hs.at_ i hi) h K)
theorem s_loadb (ha : At a n m) (hs : StS S w0 w L Φ) (i : Nat) {b : Bool} (c : Bool) (e : b = c) {g off : Nat} {tt t : TypeId} {x : Operand} {cs : List Value} (K : ∀ a', At a' n (putm m o.dst (.bool c)) → wpList P ops Q rest a' w) (ho : o.op = .load t x := by rfl) (hx : ev m x = .pointer (some ⟨g, off, none⟩) := by rfl)
    (hi : L[i]? = some (g, tt, cs) := by rfl) (hc : chk ops n m o = true := by kernel_rfl) (h : loadM P t cs off = some (.bool b) := by kernel_rfl) : wpList P ops Q (o :: rest) a w := by
  subst e
  exact s_load ha hs i _ K ho hx hi hc h
theorem s_store (ha : At a n m) (hs : StS S w0 w L Φ) (i : Nat) {g off : Nat} {tt t : TypeId} {x y : Operand} {cs : List Value} {v : Value} (L' : List Bk) (K : ∀ a' w', At a' n (putm m o.dst undef) → StS S w0 w' L' Φ → wpList P ops Q rest a' w') (ho : o.op = .store t x y := by rfl) (hx : ev m x = .pointer (some ⟨g, off, none⟩) := by rfl) (hy : ev m y = v := by rfl)
    (hi : L[i]? = some (g, tt, cs) := by rfl) (hL : L.set i (g, tt, setL cs off v.cells.toList) = L' := by rfl) (hc : chk ops n m o = true := by kernel_rfl) (h : storeM P t cs off v = true := by kernel_rfl) : wpList P ops Q (o :: rest) a w := by
  subst hL
  exact seq_step ha (chk_spec hc).1 (chk_spec hc).2 (stp_store hs ho hx hy hi h (fun hs' a' ha' => K a' _ ha' hs'))
theorem s_alloc (ha : At a n m) (hs : StS S w0 w L Φ) {t : TypeId} (cs : List Value) (K : ∀ g a' w', At a' n (putm m o.dst (.pointer (some ⟨g, 0, none⟩))) → StS S w0 w' ((g, t, cs) :: L) Φ → wpList P ops Q rest a' w') (ho : o.op = .alloc t := by rfl)
    (hc : chk ops n m o = true := by kernel_rfl) (hz : ((P.info? t).bind (·.zero)).map (·.cells.toList) = some cs := by kernel_rfl) : wpList P ops Q (o :: rest) a w := by
  obtain ⟨z, hz', rfl⟩ := Option.map_eq_some_iff.1 hz
  exact seq_step ha (chk_spec hc).1 (chk_spec hc).2 (stp_alloc hs ho hz' (fun hs' a' ha' => K _ a' _ ha' hs'))
theorem s_box (ha : At a n m) (hs : StS S w0 w L Φ) {t : TypeId} {x : Operand} {v : Value} (cs : List Value) (K : ∀ g a' w', At a' n (putm m o.dst (.pointer (some ⟨g, 0, none⟩))) → StS S w0 w' ((g, t, cs) :: L) Φ → wpList P ops Q rest a' w') (ho : o.op = .box t x := by rfl) (hx : ev m x = v := by rfl)
    (hc : chk ops n m o = true := by kernel_rfl) (hcs : v.cells.toList = cs := by kernel_rfl) : wpList P ops Q (o :: rest) a w := by
  subst hcs
  exact seq_step ha (chk_spec hc).1 (chk_spec hc).2 (stp_box hs ho hx (fun hs' a' ha' => K _ a' _ ha' hs'))
theorem s_call (ha : At a n m) (hs : StS S w0 w L Φ) {f : FuncId} {args : Array Value} (v : Value) (C : Calls P f args w (Ret v w)) (K : ∀ a' w', At a' n (putm m o.dst v) → StS S w0 w' L Φ → wpList P ops Q rest a' w') (hc : chk ops n m o = true := by kernel_rfl) (hr : (execOp (ev m) o).run P w = .ok (.enter f args) w := by kernel_rfl) : wpList P ops Q (o :: rest) a w :=
  seq_step ha (chk_spec hc).1 (chk_spec hc).2 (stp_call hr (C.mono fun _ w' h => ⟨v, h.1, fun a' ha' => K a' w' ha' (hs.go h.2)⟩))
theorem s_callP (ha : At a n m) (hs : StS S w0 w L Φ) {f : FuncId} {args : Array Value} {p : Value → World → Prop} (C : Calls P f args w (RetS p w)) (K : ∀ u a' w', p u w' → At a' n (putm m o.dst u) → StS S w0 w' L Φ → wpList P ops Q rest a' w') (hc : chk ops n m o = true := by kernel_rfl) (hr : (execOp (ev m) o).run P w = .ok (.enter f args) w := by kernel_rfl) : wpList P ops Q (o :: rest) a w :=
  seq_step ha (chk_spec hc).1 (chk_spec hc).2 (stp_call hr (C.mono fun _ w' ⟨u, h1, h2, h3⟩ => ⟨u, h1, fun a' ha' => K u a' w' h2 ha' (hs.go h3)⟩))

/-! ### Behind a region's free operations, where some blocks are to be kept -/
theorem StS.keeps (hs : StS S w0 w L Φ) (Lr : List Bk) (ix : List Nat) (e : ix.map (fun i => L[i]?) = Lr.map some := by kernel_rfl) : Keeps Lr w := by
  intro b hb
  have h1 : some b ∈ Lr.map some := List.mem_map.2 ⟨b, hb, rfl⟩
  rw [← e] at h1
  obtain ⟨i, _, hi⟩ := List.mem_map.1 h1
  exact hs.blk b (List.mem_of_getElem? hi)
theorem u_nil {S : World → Prop} (h : Q .normal a w) : A4.wpListS P ops Q S [] a w := h
theorem u_store {Lr : List Bk} (ha : At a n m) (hs : StS S w0 w L Φ) (ix : List Nat) (i : Nat) {g off : Nat} {tt t : TypeId} {x y : Operand} {cs : List Value} {v : Value} (L' : List Bk) (K : ∀ a' w', At a' n (putm m o.dst undef) → StS S w0 w' L' Φ → A4.wpListS P ops Q (Keeps Lr) rest a' w') (ho : o.op = .store t x y := by rfl) (hx : ev m x = .pointer (some ⟨g, off, none⟩) := by rfl) (hy : ev m y = v := by rfl)
    (hi : L[i]? = some (g, tt, cs) := by rfl) (hL : L.set i (g, tt, setL cs off v.cells.toList) = L' := by rfl) (e : ix.map (fun i => L'[i]?) = Lr.map some := by kernel_rfl) (hc : chk ops n m o = true := by kernel_rfl) (h : storeM P t cs off v = true := by kernel_rfl) : A4.wpListS P ops Q (Keeps Lr) (o :: rest) a w := by
  subst hL
  exact seq_stepS ha (chk_spec hc).1 (chk_spec hc).2 (stp_store hs ho hx hy hi h (fun hs' => ⟨hs'.keeps Lr ix e, fun a' ha' => K a' _ ha' hs'⟩))

/-! ### Control -/
def condM (m : Sl) (c : Operand) : Option Bool := bif kn m c then (match ev m c with | .bool b => some b | _ => none) else none
theorem condM_spec (ha : At a n m) {c : Operand} {b : Bool} (h : condM m c = some b) : a.eval c = .bool b := by
  unfold condM at h
  cases hk : kn m c with
  | false => rw [hk] at h; cases h
  | true =>
    rw [hk, cond_true] at h
    rw [ha.eval hk]
    split at h
    · rename_i b' hb; injection h with h; rw [hb, h]
    · cases h
theorem r_true (ha : At a n m) {c : Operand} {x y : Code} (h : x.wp P Q a w) (hc : condM m c = some true := by kernel_rfl) : (Code.cond c x y).wp P Q a w := wp_cond_true (condM_spec ha hc) h
theorem r_false (ha : At a n m) {c : Operand} {x y : Code} (h : y.wp P Q a w) (hc : condM m c = some false := by kernel_rfl) : (Code.cond c x y).wp P Q a w := wp_cond_false (condM_spec ha hc) h
theorem x_normal {K : Act → World → Prop} (h : K a w) : Exit.then K Q .normal a w := h
theorem x_exit {K : Act → World → Prop} {i : Nat} (h : Q (.exit i) a w) : Exit.then K Q (.exit i) a w := h
theorem x_ret {K : Act → World → Prop} (h : Q .ret a w) : Exit.then K Q .ret a w := h
theorem b_normal {i : Nat} (h : Q .normal a w) : Exit.inBlock i Q .normal a w := h
theorem b_ret {i : Nat} (h : Q .ret a w) : Exit.inBlock i Q .ret a w := h
theorem b_hit {i : Nat} (h : Q .normal a w) : Exit.inBlock i Q (.exit i) a w := by simp only [Exit.inBlock, if_true]; exact h
theorem exists_least {p : Nat → Prop} : ∀ n, p n → ∃ m, p m ∧ ∀ k, p k → m ≤ k := by
  intro n
  induction n using Nat.strongRecOn with
  | _ n ih =>
    intro hn
    by_cases h : ∃ k, p k ∧ k < n
    · obtain ⟨k, hk, hlt⟩ := h
      exact ih k hlt hk
    · exact ⟨n, hn, fun k hk => Nat.le_of_not_lt fun hlt => h ⟨k, hk, hlt⟩⟩
open Classical in
/-- The least measure of a state. -/
noncomputable def leastOf (p : Nat → Prop) : Nat := if h : ∃ m, p m ∧ ∀ k, p k → m ≤ k then Classical.choose h else 0
theorem leastOf_spec {p : Nat → Prop} {n : Nat} (hn : p n) : p (leastOf p) ∧ leastOf p ≤ n := by
  have h := exists_least n hn
  unfold leastOf
  rw [dif_pos h]
  exact ⟨(Classical.choose_spec h).1, (Classical.choose_spec h).2 n hn⟩
/-- A loop, its invariant and its measure by what the round is about. -/
theorem loop_inv {α : Type} {c : Code} (I : α → Act → World → Prop) (μ : α → Nat) (x0 : α) (h0 : I x0 a w)
    (round : ∀ x a w, I x a w → c.wp P (Exit.then (fun a' w' => ∃ x', I x' a' w' ∧ μ x' < μ x) Q) a w) : (Code.loop c).wp P Q a w := by
  refine wp_loop (fun a w => ∃ x, I x a w) (fun a w => leastOf fun n => ∃ x, I x a w ∧ μ x = n) ⟨x0, h0⟩ fun a w ⟨x, hx⟩ => ?_
  obtain ⟨⟨y, hy, e⟩, _⟩ := leastOf_spec (p := fun n => ∃ x, I x a w ∧ μ x = n) ⟨x, hx, rfl⟩
  refine wp_mono (round y a w hy) fun ex a' w' h => ?_
  cases ex with
  | normal =>
    obtain ⟨x', hx', hlt⟩ := h
    refine ⟨⟨x', hx'⟩, ?_⟩
    have := (leastOf_spec (p := fun n => ∃ x, I x a' w' ∧ μ x = n) ⟨x', hx', rfl⟩).2
    show leastOf _ < leastOf _
    omega
  | _ => exact h
def argSl (k : Nat) : List Value → Sl
  | [] => []
  | v :: vs => (k, v) :: argSl (k + 1) vs
theorem argSl_spec : ∀ {vs : List Value} {k t : Nat} {v : Value}, lk (argSl k vs) t = some v → k ≤ t ∧ vs[t - k]? = some v
  | [], _, _, _, h => by cases h
  | u :: vs, k, t, v, h => by
    simp only [argSl, lk] at h
    by_cases e : k = t
    · subst e
      rw [Nat.beq_refl, cond_true] at h
      exact ⟨Nat.le_refl _, by simpa using h⟩
    · have e' : Nat.beq k t = false := by
        cases hb : Nat.beq k t with
        | false => rfl
        | true => exact absurd (Nat.eq_of_beq_eq_true hb) e
      rw [e', cond_false] at h
      obtain ⟨h1, h2⟩ := argSl_spec h
      refine ⟨by omega, ?_⟩
      rw [show t - k = (t - (k + 1)) + 1 from by omega]
      simpa using h2
theorem enter {f : FuncId} {fn : Func} {c : Code} {args : List Value} {R : Ending → World → Prop} (hf : P.funcs[f]? = some fn) (hb : fn.body = some c) (hn : fn.ntmps = n) (hle : Nat.ble args.length n = true)
    (h : ∀ a, At a n (argSl 0 args) → c.wp P (bodyPost P fn R) a w) : Calls P f args.toArray w R := by
  refine calls_of_wp hf hb (h _ ⟨?_, rfl, fun t v hv => ?_⟩)
  · have := Nat.le_of_ble_eq_true hle
    simp [hn]; omega
  · obtain ⟨_, h2⟩ := argSl_spec hv
    rw [Nat.sub_zero] at h2
    have hlt : t < args.length := by
      rcases Nat.lt_or_ge t args.length with h' | h'
      · exact h'
      · rw [List.getElem?_eq_none h'] at h2; cases h2
    rw [Array.getElem?_append_left (by simpa using hlt)]
    simpa using h2

/-- What the results are. -/
def ResOk (P : Program) (m : Sl) (L : List Bk) : List ResultVar → List Value → Prop
  | [], [] => True
  | .tmp t :: rs, v :: vs => lk m t = some v ∧ ResOk P m L rs vs
  | .cell p t :: rs, v :: vs => (∃ (i g : Nat) (tt : TypeId) (cs : List Value), lk m p = some (.pointer (some ⟨g, 0, none⟩)) ∧ L[i]? = some (g, tt, cs) ∧ loadM P t cs 0 = some v) ∧ ResOk P m L rs vs
  | _, _ => False
def pack : List Value → Value
  | [v] => v
  | vs => .tuple vs.toArray
theorem pack_eq (vs : List Value) : (if h : vs.toArray.size = 1 then vs.toArray[0] else .tuple vs.toArray) = pack vs := by
  match vs with
  | [] => rfl
  | [v] => rfl
  | v :: u :: r => rw [dif_neg (by simp)]; rfl
def resF (tmps : Array Value) : ResultVar → Sem Value
  | .tmp t => pure (tmps.getD t undef)
  | .cell a t => do loadVar t (← asAddr (tmps.getD a undef))
theorem results_eq (fn : Func) (tmps : Array Value) : results fn tmps = (do let vs ← fn.results.mapM (resF tmps); pure (if h : vs.size = 1 then vs[0] else .tuple vs)) := rfl
theorem res_run (ha : At a n m) (hs : StS S w0 w L Φ) : ∀ {rs : List ResultVar} {vs : List Value}, ResOk P m L rs vs → (rs.mapM (resF a.tmps)).run P w = .ok vs w
  | [], [], _ => by simp
  | [], _ :: _, h => by cases h
  | .tmp t :: rs, v :: vs, h => by
    have ih := res_run ha hs h.2
    have h1 := ha.slot t v h.1
    have h2 : (resF a.tmps (.tmp t)).run P w = .ok v w := by simp [resF, h1]
    simp only [List.mapM_cons, Sem.run_bind, h2, Result.andThen_ok, ih, Sem.run_pure]
  | .cell p t :: rs, v :: vs, h => by
    have ih := res_run ha hs h.2
    obtain ⟨⟨i, g, tt, cs, h1, h2, h3⟩, _⟩ := h
    have h1' := ha.slot p _ h1
    have hl := run_load (P := P) (hs.at_ i h2) h3
    simp only [Instr.loadAt, Instr.sureAddr] at hl
    have h2 : (resF a.tmps (.cell p t)).run P w = .ok v w := by
      simp [resF, h1', asAddr] at hl ⊢
      exact hl
    simp only [List.mapM_cons, Sem.run_bind, h2, Result.andThen_ok, ih, Sem.run_pure]
  | .tmp _ :: _, [], h => by cases h
  | .cell _ _ :: _, [], h => by cases h
theorem ret_at {fn : Func} {R : Ending → World → Prop} (ha : At a n m) (hs : StS S w0 w L Φ) {rs : List ResultVar} (hrs : fn.results = rs.toArray) (vs : List Value) (h : ResOk P m L rs vs) (hR : R (.returned (pack vs)) w) : bodyPost P fn R .ret a w := by
  refine bodyPost_ret ?_ ha.defers hR
  have := res_run ha hs h
  have e : (rs.toArray.mapM (resF a.tmps)).run P w = .ok vs.toArray w := by
    rw [List.mapM_toArray, map_eq_pure_bind]
    simp only [Sem.run_bind, this, Result.andThen_ok, Sem.run_pure]
  rw [results_eq, hrs]
  simp only [Sem.run_bind, e, Result.andThen_ok, Sem.run_pure, pack_eq]
theorem StS.dropN (h : StS S w0 w L Φ) (k : Nat) : StS S w0 w (L.drop k) Φ := h.drop _ (List.drop_sublist k L)
theorem StS.cast (h : StS S w0 w L Φ) (L' : List Bk) (e : L = L' := by kernel_rfl) : StS S w0 w L' Φ := by subst e; exact h
theorem StS.factsIx (h : StS S w0 w L Φ) (ix : List Nat) (Ψ : List (World → Prop)) (e : ix.map (fun i => Φ[i]?) = Ψ.map some := by kernel_rfl) : StS S w0 w L Ψ := by
  refine h.facts Ψ fun ψ hψ => ?_
  have h1 : some ψ ∈ Ψ.map some := List.mem_map.2 ⟨ψ, hψ, rfl⟩
  rw [← e] at h1
  obtain ⟨i, _, hi⟩ := List.mem_map.1 h1
  exact List.mem_of_getElem? hi
theorem ptr_ne {g h : Nat} (hne : Value.pointer (some ⟨g, 0, none⟩) ≠ .pointer (some ⟨h, 0, none⟩)) : g ≠ h := fun e => hne (by rw [e])
/-- Several new blocks, apart. -/
def NewsAt (B : Nat) (w : World) : List Bk → Prop
  | [] => True
  | b :: bs => (B ≤ b.1 ∧ Blk w b.1 b.2.1 b.2.2) ∧ NewsAt B w bs
def ApartAll (g : Nat) : List Bk → Prop
  | [] => True
  | b :: bs => g ≠ b.1 ∧ ApartAll g bs
def NewsApart : List Bk → Prop
  | [] => True
  | b :: bs => ApartAll b.1 bs ∧ NewsApart bs
theorem ApartAll.not_mem {g : Nat} : ∀ {bs : List Bk}, ApartAll g bs → g ∉ bs.map (·.1)
  | [], _ => by simp
  | b :: bs, h => by
    rw [List.map_cons, List.mem_cons]
    rintro (e | e)
    · exact h.1 e
    · exact h.2.not_mem e
theorem NewsAt.of_mem {B : Nat} : ∀ {bs : List Bk}, NewsAt B w bs → ∀ b ∈ bs, B ≤ b.1 ∧ Blk w b.1 b.2.1 b.2.2
  | b :: bs, h, c, hc => by
    rcases List.mem_cons.1 hc with rfl | hc
    · exact h.1
    · exact h.2.of_mem c hc
theorem NewsApart.nodup : ∀ {bs : List Bk}, NewsApart bs → (bs.map (·.1)).Nodup
  | [], _ => by simp
  | b :: bs, h => by rw [List.map_cons, List.nodup_cons]; exact ⟨h.1.not_mem, h.2.nodup⟩
theorem StS.news {w' : World} (h : StS S w0 w L Φ) (e : Ext w w') (bs : List Bk) (hb : NewsAt w.heap.size w' bs) (hn : NewsApart bs) : StS S w0 w' (bs ++ L) Φ := by
  have h' := h.go e
  refine ⟨h'.ext, fun b hb' => ?_, ?_, fun b hb' => ?_, fun φ hφ => ?_⟩
  · rcases List.mem_append.1 hb' with hb' | hb'
    · exact Nat.le_trans h.ext.size (hb.of_mem b hb').1
    · exact h.fresh b hb'
  · rw [List.map_append, List.nodup_append]
    refine ⟨hn.nodup, h.nodup, fun x hx y hy e' => ?_⟩
    subst e'
    obtain ⟨b, hb', rfl⟩ := List.mem_map.1 hx
    have h1 := (hb.of_mem b hb').1
    have h2 := h.lt hy
    omega
  · rcases List.mem_append.1 hb' with hb' | hb'
    · exact (hb.of_mem b hb').2
    · exact h'.blk b hb'
  · obtain ⟨S0, h2, h3⟩ := h.fact φ hφ
    refine ⟨S0, h2.go (fun i hi => e.block i (h3 i hi).1) e.size, fun i hi => ⟨Nat.lt_of_lt_of_le (h3 i hi).1 e.size, fun hm => ?_, (h3 i hi).2.2.imp id (Or.imp id fun hs => hs.same (e.block i (h3 i hi).1))⟩⟩
    rw [List.map_append, List.mem_append] at hm
    rcases hm with hm | hm
    · obtain ⟨b, hb', e'⟩ := List.mem_map.1 hm
      have h4 := (hb.of_mem b hb').1
      have h5 := (h3 i hi).1
      omega
    · exact (h3 i hi).2.1 hm
end
end Go.Proofs.YtiloialbglfplaaGreatDoor

namespace Go.Proofs.YtiloialbglfplaaGreatDoor
open Go.RowKit

section
variable {S : Nat → Prop} {P : Program} {ops : Array Oper} {o : Oper} {w0 w : World} {m : Sl} {L : List Bk} {Φ : List (World → Prop)} {sps : List Sp} {i : Nat}

def chkD (ops : Array Oper) (m : Sl) (o : Oper) : Bool := opOk m o && (match wantM ops m o with | some true => true | _ => false)
theorem chkD_spec (h : chkD ops m o = true) : opOk m o = true ∧ wantM ops m o = some true := by
  unfold chkD at h
  rw [Bool.and_eq_true] at h
  refine ⟨h.1, ?_⟩
  have h2 := h.2
  split at h2
  · assumption
  · cases h2
/-- The facts on the operations that this one looks at. -/
abbrev Deps (ops : Array Oper) (sps : List Sp) (i : Nat) (u : Nat → Value) (w : World) : Prop := ∀ j, (depsOf ops i).contains j = true → (spAt sps j).G (u j) w

theorem d_any (hc : ∀ u, chkD ops (slotsR ops sps u m i) o = true)
    (h : ∀ u w', Ext w w' → Deps ops sps i u w' → Stp P (ev (slotsR ops sps u m i)) o w' fun v w'' => Ext w' w'' ∧ (spAt sps i).G v w'') : OblS P ops sps m w i o := by
  intro u w' hw hj
  refine ⟨(chkD_spec (hc u)).1, .inl ⟨(chkD_spec (hc u)).2, (h u w' hw hj).mono fun v w'' h => ⟨h.1, fun _ => h.2⟩⟩⟩
theorem d_not (hsp : spAt sps i = .eq undef := by rfl) (hok : ∀ u, opOk (slotsR ops sps u m i) o = true := by intro _; kernel_rfl) (hc : ∀ u, wantM ops (slotsR ops sps u m i) o = some false := by intro _; kernel_rfl) : OblS P ops sps m w i o := by
  intro u w' hw hj
  exact ⟨hok u, .inr ⟨hc u, fun _ => by rw [hsp]; rfl⟩⟩
theorem d_val {v : Value} (hsp : spAt sps i = .eq v := by rfl) (hc : ∀ u, chkD ops (slotsR ops sps u m i) o = true := by intro _; kernel_rfl) (hr : ∀ u w', (execOp (ev (slotsR ops sps u m i)) o).run P w' = .ok (.value v) w' := by intro _ _; kernel_rfl) : OblS P ops sps m w i o :=
  d_any hc fun u w' _ _ => stp_val (hr u w') ⟨Ext.refl _, by rw [hsp]; rfl⟩
theorem d_bool {b c : Bool} (e : b = c) (hsp : spAt sps i = .eq (.bool c) := by rfl) (hc : ∀ u, chkD ops (slotsR ops sps u m i) o = true := by intro _; kernel_rfl) (hr : ∀ u w', (execOp (ev (slotsR ops sps u m i)) o).run P w' = .ok (.value (.bool b)) w' := by intro _ _; kernel_rfl) : OblS P ops sps m w i o := by
  subst e
  exact d_val hsp hc hr
theorem d_load (hs : StS S w0 w L Φ) (j : Nat) {v : Value} {g off : Nat} {tt t : TypeId} {x : Operand} {cs : List Value} (hsp : spAt sps i = .eq v := by rfl) (ho : o.op = .load t x := by rfl) (hx : ∀ u, ev (slotsR ops sps u m i) x = .pointer (some ⟨g, off, none⟩) := by exact fun _ => rfl)
    (hi : L[j]? = some (g, tt, cs) := by rfl) (hc : ∀ u, chkD ops (slotsR ops sps u m i) o = true := by intro _; kernel_rfl) (h : loadM P t cs off = some v := by kernel_rfl) : OblS P ops sps m w i o :=
  d_any hc fun u w' hw _ => stp_load ho (hx u) ((hs.go hw).at_ j hi) h ⟨Ext.refl _, by rw [hsp]; rfl⟩
theorem d_loadb (hs : StS S w0 w L Φ) (j : Nat) {b c : Bool} (e : b = c) {g off : Nat} {tt t : TypeId} {x : Operand} {cs : List Value} (hsp : spAt sps i = .eq (.bool c) := by rfl) (ho : o.op = .load t x := by rfl) (hx : ∀ u, ev (slotsR ops sps u m i) x = .pointer (some ⟨g, off, none⟩) := by exact fun _ => rfl)
    (hi : L[j]? = some (g, tt, cs) := by rfl) (hc : ∀ u, chkD ops (slotsR ops sps u m i) o = true := by intro _; kernel_rfl) (h : loadM P t cs off = some (.bool b) := by kernel_rfl) : OblS P ops sps m w i o := by
  subst e
  exact d_load hs j hsp ho hx hi hc h
theorem d_call {f : FuncId} {args : Array Value} {v : Value} (C : ∀ w', Ext w w' → Calls P f args w' (Ret v w')) (hsp : spAt sps i = .eq v := by rfl) (hc : ∀ u, chkD ops (slotsR ops sps u m i) o = true := by intro _; kernel_rfl)
    (hr : ∀ u w', (execOp (ev (slotsR ops sps u m i)) o).run P w' = .ok (.enter f args) w' := by intro _ _; kernel_rfl) : OblS P ops sps m w i o :=
  d_any hc fun u w' hw _ => stp_call (hr u w') ((C w' hw).mono fun _ _ h => ⟨v, h.1, h.2, by rw [hsp]; rfl⟩)
theorem d_callU {f : FuncId} (args : (Nat → Value) → Array Value) {v : Value} (C : ∀ u w', Ext w w' → Deps ops sps i u w' → Calls P f (args u) w' (Ret v w')) (hsp : spAt sps i = .eq v := by rfl) (hc : ∀ u, chkD ops (slotsR ops sps u m i) o = true := by intro _; kernel_rfl)
    (hr : ∀ u w', (execOp (ev (slotsR ops sps u m i)) o).run P w' = .ok (.enter f (args u)) w' := by intro _ _; kernel_rfl) : OblS P ops sps m w i o :=
  d_any hc fun u w' hw hj => stp_call (hr u w') ((C u w' hw hj).mono fun _ _ h => ⟨v, h.1, h.2, by rw [hsp]; rfl⟩)
theorem d_callP {f : FuncId} (args : (Nat → Value) → Array Value) {p : Value → World → Prop} {hp : Lasts p} (C : ∀ u w', Ext w w' → Deps ops sps i u w' → Calls P f (args u) w' (RetS p w')) (hsp : spAt sps i = .pr p hp := by rfl) (hc : ∀ u, chkD ops (slotsR ops sps u m i) o = true := by intro _; kernel_rfl)
    (hr : ∀ u w', (execOp (ev (slotsR ops sps u m i)) o).run P w' = .ok (.enter f (args u)) w' := by intro _ _; kernel_rfl) : OblS P ops sps m w i o :=
  d_any hc fun u w' hw hj => stp_call (hr u w') ((C u w' hw hj).mono fun _ _ ⟨v, h1, h2, h3⟩ => ⟨v, h1, h3, by rw [hsp]; exact h2⟩)
theorem d_new {t : TypeId} {cs : List Value} (hsp : spAt sps i = .new w.heap.size t cs := by rfl) (ho : o.op = .alloc t := by rfl) (hc : ∀ u, chkD ops (slotsR ops sps u m i) o = true := by intro _; kernel_rfl) (hz : ((P.info? t).bind (·.zero)).map (·.cells.toList) = some cs := by kernel_rfl) : OblS P ops sps m w i o := by
  obtain ⟨z, hz', rfl⟩ := Option.map_eq_some_iff.1 hz
  exact d_any hc fun u w' hw _ => stp_alloc (St.start w') ho hz' fun hs => ⟨hs.ext, by
    rw [hsp]
    exact ⟨w'.heap.size, hw.size, rfl, hs.at_ 0 rfl⟩⟩
variable {Lr : List Bk}
theorem t_any (hn : notAlloc o.op = true) (hc : ∀ u, chkD ops (slotsR ops sps u m i) o = true) (h : ∀ u w', Ext w w' → Deps ops sps i u w' → ∃ x, (∀ w2, Keeps Lr w2 → (execOp (ev (slotsR ops sps u m i)) o).run P w2 = .ok (.value x) w2) ∧ (spAt sps i).G x w') : OblTS P ops sps m Lr w i o :=
  ⟨hn, fun u w' hw hj => ⟨(chkD_spec (hc u)).1, .inl ⟨(chkD_spec (hc u)).2, h u w' hw hj⟩⟩⟩
theorem t_val {v : Value} (hn : notAlloc o.op = true := by rfl) (hsp : spAt sps i = .eq v := by rfl) (hc : ∀ u, chkD ops (slotsR ops sps u m i) o = true := by intro _; kernel_rfl) (hr : ∀ u w', (execOp (ev (slotsR ops sps u m i)) o).run P w' = .ok (.value v) w' := by intro _ _; kernel_rfl) : OblTS P ops sps m Lr w i o :=
  t_any hn hc fun u w' _ _ => ⟨v, fun w2 _ => hr u w2, by rw [hsp]; rfl⟩
theorem t_load (j : Nat) {v : Value} {g off : Nat} {tt t : TypeId} {x : Operand} {cs : List Value} (hn : notAlloc o.op = true := by rfl) (hsp : spAt sps i = .eq v := by rfl) (ho : o.op = .load t x := by rfl) (hx : ∀ u, ev (slotsR ops sps u m i) x = .pointer (some ⟨g, off, none⟩) := by exact fun _ => rfl)
    (hi : Lr[j]? = some (g, tt, cs) := by rfl) (hc : ∀ u, chkD ops (slotsR ops sps u m i) o = true := by intro _; kernel_rfl) (h : loadM P t cs off = some v := by kernel_rfl) : OblTS P ops sps m Lr w i o :=
  t_any hn hc fun u w' _ _ => ⟨v, fun w2 h2 => by
    unfold execOp
    simp only [ho, hx u, Sem.run_bind, run_load (h2 _ (List.mem_of_getElem? hi)) h, Result.andThen_ok, Sem.run_pure], by rw [hsp]; rfl⟩
end
end Go.Proofs.YtiloialbglfplaaGreatDoor

namespace Go.Proofs.YtiloialbglfplaaGreatDoor
open Go.RowKit

set_option maxHeartbeats 1000000 in
theorem shiftDown_none (v : Value) (xs : List Nat) (n : Nat) (w : World) (hr : Rd w xs v) (hx : xs.length ≤ 8589934593) (hn : n ≤ 549755813888) (hq : xs.length ≤ n / 64) :
    Calls Tryz.prog 195 #[v, .int .i64 n] w fun e w' => e = .returned (.slice none 0 0) ∧ w = w' := by
  obtain ⟨A, c, rfl, hh⟩ := hr
  clear hh
  go_enter Tryz.func195, Tryz.ntmps195
  go_wp2
  go_ret
  exact ⟨rfl, rfl⟩

set_option maxHeartbeats 1000000 in
theorem shiftDown_core (g off c : Nat) (xs : List Nat) (n : Nat) (w : World) (hg : g < w.heap.size) (hcell : ∀ i, i < xs.length → w.cell? ⟨g, off + i, none⟩ = some (.int .u64 (xs.getD i 0 : Nat))) (hx : xs.length ≤ 8589934593) (hn : n ≤ 549755813888) (hd : Dig B64 xs) (hq : n / 64 < xs.length) :
    Calls Tryz.prog 195 #[.slice (some ⟨g, off, none⟩) xs.length c, .int .i64 n] w (RetS (Fresh w.heap.size (dn (n % 64) (xs.drop (n / 64)))) w) := by
  have HH := Lib.hid hcell
  clear hcell
  have hlen : (dn (n % 64) (xs.drop (n / 64))).length = xs.length - n / 64 := by rw [dn_length]; simp
  have HL := Lib.hid hlen
  clear hlen
  go_enter Tryz.func195, Tryz.ntmps195
  go_wp2_with (at_make; refine wpList_mk _ rfl (.tmp 21) (.tmp 21) 183 28 rfl (.int .u64 0) 8 Tryz.underlying183 info64 rfl .i64 .i64 _ _ (xs.length - n / 64) rfl rfl ?c1 ?c1' ?c2 ?c3 ?_)
  case c1 => omega
  case c1' => omega
  case c2 => omega
  case c3 => omega
  intro w1 hx1 hs1 hb1
  rw [rep_U] at hb1
  have HX := Lib.hid hx1
  have HB := Lib.hid hb1
  clear hx1 hb1
  go_wp2
  go_loopw [25] (fun i wr => ∃ (k : Nat), k ≤ xs.length - n / 64 ∧ i = .int .i64 k ∧ Hid (Blk wr w.heap.size 28 (U (filling (dn (n % 64) (xs.drop (n / 64))) k))) ∧ Hid (But w.heap.size w1 wr)) (fun i _ => xs.length - n / 64 - (intOf i).toNat)
  case atStart =>
    refine ⟨0, Nat.zero_le _, rfl, Lib.hid ?_, Lib.hid (But.refl _ _)⟩
    have h := HB.out
    rw [← HL.out] at h
    exact h
  case round =>
    obtain ⟨k, hk, rfl, hbk, hbut⟩ := hrel
    by_cases hkx : k < xs.length - n / 64
    · have hcx : ∀ j, j < xs.length → ∀ W, But w.heap.size w1 W → W.cell? ⟨g, off + j, none⟩ = some (.int .u64 (xs.getD j 0 : Nat)) := fun j hj W hW => by
        rw [← HX.out.keep (HH.out j hj)]
        exact World.cell?_of_block (hW.block g (by have := HX.out.size; omega) (fun e => by injection e with e; omega))
      have hc1 := hcx (k + n / 64) (by omega) wr hbut.out
      have hc2 : k + n / 64 + 1 < xs.length → wr.cell? ⟨g, off + (k + n / 64 + 1), none⟩ = some (.int .u64 (xs.getD (k + n / 64 + 1) 0 : Nat)) := fun h => hcx (k + n / 64 + 1) h wr hbut.out
      have hfl := filling_length (dn (n % 64) (xs.drop (n / 64))) k (by rw [HL.out]; omega)
      have hd1 : wr.cell? ⟨w.heap.size, k, none⟩ = some (.int .u64 ((filling (dn (n % 64) (xs.drop (n / 64))) k).getD k 0 : Nat)) := by rw [hbk.out.cell, getD_U _ _ (by rw [hfl, HL.out]; exact hkx)]
      have hf1 : wr.frozen? ⟨w.heap.size, k, none⟩ = false := hbk.out.frozen _
      have hxd : xs.getD (k + n / 64) 0 < B64 := hd.getD (by unfold B64; omega) _
      have hne : g ≠ w.heap.size := by omega
      have hE : (dn (n % 64) (xs.drop (n / 64)))[k]'(by rw [HL.out]; exact hkx) = dnW (xs.getD (k + n / 64) 0) (xs.getD (k + n / 64 + 1) 0) (n % 64) := by
        rw [dn_get, getD_drop, getD_drop]
        congr 2 <;> omega
      have HE := Lib.hid hE
      clear hcx hfl hE
      generalize (filling (dn (n % 64) (xs.drop (n / 64))) k).getD k 0 = o at *
      by_cases hk2 : k + n / 64 + 1 < xs.length
      · have hc2' := hc2
        have hc2 := hc2' hk2
        generalize xs.getD (k + n / 64) 0 = x at *
        generalize xs.getD (k + n / 64 + 1) 0 = x2 at *
        clear hc2'
        go_wp2
        have hb2 := hbk.out.set k (.int .u64 ((x / 2 ^ (n % 64) : Nat) : Int))
        have hbut2 := hbut.out.set k (.int .u64 ((x / 2 ^ (n % 64) : Nat) : Int))
        have hc2w : (wr.setCell ⟨w.heap.size, k, none⟩ (.int .u64 ((x / 2 ^ (n % 64) : Nat) : Int))).cell? ⟨g, off + (k + n / 64 + 1), none⟩ = some (.int .u64 x2) :=
          (World.cell?_setCell_other wr _ _ _ (fun e => by injection e with e; exact hne e.symm)).trans hc2
        have ev : (x : Int) / 2 ^ (n % 64) = ((x / 2 ^ (n % 64) : Nat) : Int) := by push_cast; rfl
        rw [ev]
        generalize wr.setCell ⟨w.heap.size, k, none⟩ (.int .u64 ((x / 2 ^ (n % 64) : Nat) : Int)) = W2 at *
        have hx2 : W2.cell? ⟨w.heap.size, k, none⟩ = some (.int .u64 ((x / 2 ^ (n % 64) : Nat) : Int)) := by
          rw [hb2.cell, List.getElem?_set_self]
          rw [U_length, filling_length _ _ (by rw [HL.out]; omega), HL.out]; exact hkx
        have hf2 : W2.frozen? ⟨w.heap.size, k, none⟩ = false := hb2.frozen _
        have HB2 := Lib.hid hb2
        have HBUT2 := Lib.hid hbut2
        generalize hxq : x / 2 ^ (n % 64) = xq at *
        have HXQ := Lib.hid hxq
        clear hb2 hbut2 hbk hbut hc1 hc2 hd1 hf1 hxq ev
        have hval := dnW_or (y := x) (y' := x2) (p := n % 64) (by omega) hxd
        rw [HXQ.out] at hval
        have HVAL := Lib.hid hval
        clear hval
        go_region
        rw [HVAL.out]
        go_wp2
        go_roundw
        case rel =>
          refine ⟨k + 1, by omega, by go_num, ?_, Lib.hid ((HBUT2.out.set k _).trans (But.of_ext (Ext.refl _).drew))⟩
          have h := HB2.out.set k (.int .u64 (dnW x x2 (n % 64) : Nat))
          rw [List.set_set, U_set, ← HE.out, filling_set _ _ (by rw [HL.out]; exact hkx), HE.out] at h
          exact Lib.hid h
        case measure => simp [intOf]; omega
      · have hx20 : xs.getD (k + n / 64 + 1) 0 = 0 := getD_ge _ _ (by omega)
        rw [hx20] at HE
        generalize xs.getD (k + n / 64) 0 = x at *
        have ev : (x : Int) / 2 ^ (n % 64) = ((dnW x 0 (n % 64) : Nat) : Int) := by unfold dnW; rw [Nat.zero_mod, Nat.mul_zero, Nat.add_zero]; push_cast; rfl
        have EV := Lib.hid ev
        clear hc2 hx20 ev
        go_wp2
        rw [EV.out]
        go_roundw
        case rel =>
          refine ⟨k + 1, by omega, by go_num, ?_, Lib.hid (hbut.out.set k _)⟩
          have h := hbk.out.set k (.int .u64 (dnW x 0 (n % 64) : Nat))
          rw [U_set, ← HE.out, filling_set _ _ (by rw [HL.out]; exact hkx), HE.out] at h
          exact Lib.hid h
        case measure => simp [intOf]; omega
    · obtain rfl : k = xs.length - n / 64 := by omega
      go_wp2
      go_ret
      refine ⟨_, rfl, .inr ⟨w.heap.size, Nat.le_refl _, ?_, ?_⟩, hbut.out.ext HX.out (Nat.le_refl _)⟩
      · rw [HL.out]; rfl
      · have h := hbk.out
        have e := filling_all (dn (n % 64) (xs.drop (n / 64)))
        rw [HL.out] at e
        rw [e] at h
        exact h

/-- shiftDown at any list. -/
theorem shiftDown_any (v : Value) (xs : List Nat) (n : Nat) (w : World) (hr : Rd w xs v) (hx : xs.length ≤ 8589934593) (hn : n ≤ 549755813888) (hd : Dig B64 xs) :
    Calls Tryz.prog 195 #[v, .int .i64 n] w (RetS (fun v' w' => ∃ ys, ys.length ≤ xs.length ∧ Dig B64 ys ∧ val B64 ys = val B64 xs / 2 ^ n ∧ Fresh w.heap.size ys v' w') w) := by
  by_cases hq : n / 64 < xs.length
  · obtain ⟨A, c, rfl, hh⟩ := hr
    obtain ⟨g, off, rfl, hg, hc⟩ := hh (fun e => by rw [e] at hq; simp at hq)
    refine (shiftDown_core g off c xs n w hg hc hx hn hd hq).mono ?_
    rintro e w' ⟨v', rfl, hf, he⟩
    exact ⟨v', rfl, ⟨_, by rw [dn_length]; simp, dn_dig (by omega) (hd.drop _), dn_all hd n (by omega), hf⟩, he⟩
  · refine (shiftDown_none v xs n w hr hx hn (by omega)).mono ?_
    rintro e w' ⟨rfl, rfl⟩
    refine ⟨_, rfl, ⟨[], by simp, Dig.nil _, ?_, .inl ⟨rfl, rfl⟩⟩, Ext.refl _⟩
    have h1 := val_lt hd
    have h2 : B64 ^ xs.length ≤ 2 ^ n := by rw [B64_pow]; exact Nat.pow_le_pow_right (by omega) (by omega)
    rw [Nat.div_eq_of_lt (by omega)]; rfl
end Go.Proofs.YtiloialbglfplaaGreatDoor

namespace Go.Proofs.YtiloialbglfplaaGreatDoor
open Go.RowKit

theorem shiftUp_mw {a l n : Nat} {v : Value} (w : World) (h : Mw a l v w) (hl : l ≤ 8589934593) (hn : n ≤ 549755813888) :
    Calls Tryz.prog 193 #[v, .int .i64 n] w (RetS (Mw (a * 2 ^ n) (l + n / 64 + 1)) w) := by
  obtain ⟨xs, base, r1, r2, r3, r4⟩ := h
  refine (shiftUp_any v xs n w r4.rd (by omega) hn r2).mono ?_
  rintro e w' ⟨v', rfl, ⟨zs, t1, t2, t3, t4⟩, hx⟩
  exact ⟨v', rfl, ⟨zs, _, by omega, t2, by rw [t3, r3], t4⟩, hx⟩
/-- Two boxes: an argument and the result. -/
theorem boxes2 (w W : World) (la sa : Value) (h : (w.alloc (.cells #[la, sa] 30)).alloc (.cells #[.int .u64 0, .string ⟨#[]⟩] 30) = W) :
    Blk W w.heap.size 30 [la, sa] ∧ Blk W (w.heap.size + 1) 30 [.int .u64 0, .string ⟨#[]⟩] ∧ Ext w W := by
  subst h
  refine ⟨(Blk.new w _ [la, sa]).alloc _, ?_, ((Ext.refl w).alloc _).alloc _⟩
  have h := Blk.new (w.alloc (.cells #[la, sa] 30)) 30 [.int .u64 0, .string ⟨#[]⟩]
  rw [World.size_alloc] at h
  exact h

set_option maxHeartbeats 1000000 in
theorem shift_up (a n : Nat) (ha : bl a ≤ 549755813888) (hn : n ≤ 65536) (w : World) :
    Calls Tryz.prog 176 #[.agg #[.int .u64 (lo a : Nat), .string (hi a)], .int .i64 n] w (Ret (.agg #[.int .u64 (lo (a * 2 ^ n) : Nat), .string (hi (a * 2 ^ n))]) w) := by
  have HA := Lib.hid (fun W => words_mw a ha W)
  have HU : Hid (∀ W v, Mw a 8589934593 v W → Calls Tryz.prog 193 #[v, .int .i64 n] W (RetS (Mw (a * 2 ^ n) 9000000000) W)) := Lib.hid (fun W v h => (shiftUp_mw W h (by omega) (by omega)).mono (fun _ _ ⟨v', he, ⟨zs, b, h1, h2⟩, hx⟩ => ⟨v', he, ⟨zs, b, by omega, h2⟩, hx⟩))
  have HF : Hid (∀ W v, Mw (a * 2 ^ n) 9000000000 v W → Calls Tryz.prog 143 #[v] W (Ret (.agg #[.int .u64 (lo (a * 2 ^ n) : Nat), .string (hi (a * 2 ^ n))]) W)) := Lib.hid (fun W v h => fromWords_mw W h (by omega))
  generalize a * 2 ^ n = m at *
  generalize lo m = lr at *
  generalize hi m = sr at *
  generalize lo a = la at *
  generalize hi a = sa at *
  have m1 : min (n : Int) 65536 = n := by omega
  have m2 : max (-65536) (n : Int) = n := by omega
  have h0 : (0 : Int) ≤ n := by omega
  clear hn ha
  generalize (n : Int) = z at *
  go_enter Tryz.func176, Tryz.ntmps176
  go_wp2_with fail
  generalize hW : (w.alloc (.cells #[.int .u64 la, .string sa] 30)).alloc (.cells #[.int .u64 0, .string ⟨#[]⟩] 30) = W
  obtain ⟨_, hr, hx⟩ := boxes2 w W _ _ hW
  have HR := Lib.hid hr
  have HX := Lib.hid hx
  clear hr hx hW
  refine (HA.out _).mono ?_
  rintro e w1 ⟨v1, rfl, hv1, hx1⟩
  have HV1 := Lib.hid hv1
  clear hv1
  go_wp2_with fail
  refine (HU.out _ _ HV1.out).mono ?_
  rintro e w2 ⟨v2, rfl, hv2, hx2⟩
  have HV2 := Lib.hid hv2
  clear hv2
  go_wp2_with fail
  refine (HF.out _ _ HV2.out).mono ?_
  rintro e w3 ⟨rfl, hx3⟩
  have he : Ext w w3 := HX.out.trans (hx1.trans (hx2.trans hx3))
  have hr3 := ((HR.out.ext hx1).ext hx2).ext hx3
  have r0 : w3.cell? ⟨w.heap.size + 1, 0, none⟩ = some (.int .u64 0) := hr3.cell 0
  have r1 : w3.cell? ⟨w.heap.size + 1, 1, none⟩ = some (.string ⟨#[]⟩) := hr3.cell 1
  have f0 : w3.frozen? ⟨w.heap.size + 1, 0, none⟩ = false := hr3.frozen 0
  have f1 : w3.frozen? ⟨w.heap.size + 1, 1, none⟩ = false := hr3.frozen 1
  go_wp2
  refine ret_nat (w.heap.size + 1) _ _ rfl rfl ((hr3.set 0 _).set 1 _) rfl ⟨rfl, ?_⟩
  exact (Below.setCell he (p := ⟨w.heap.size + 1, 0, none⟩) (by show _ ≤ _; simp) _).setCell (p := ⟨w.heap.size + 1, 1, none⟩) (by show _ ≤ _; simp) _

end Go.Proofs.YtiloialbglfplaaGreatDoor

namespace Go.Proofs.YtiloialbglfplaaGreatDoor
open Go.RowKit

set_option maxHeartbeats 1000000 in
theorem trim32_nil (A : Option Addr) (c : Nat) (w : World) : Calls Tryz.prog 120 #[.slice A 0 c] w fun e w' => e = .returned (.slice A 0 c) ∧ w' = w := by
  go_enter Tryz.func120, Tryz.ntmps120
  go_wp2
  go_rounds 1
  rcases A with _ | A
  all_goals
    go_ret
    exact ⟨rfl, rfl⟩

set_option maxHeartbeats 1000000 in
theorem trim32_core (g off c : Nat) (xs : List Nat) (w : World) (hl : xs.length ≤ c) (hc : xs.length ≤ 1099511627776) (hd : Dig B32 xs) (hcell : ∀ i, i < xs.length → w.cell? ⟨g, off + i, none⟩ = some (.int .u32 (xs.getD i 0 : Nat))) :
    Calls Tryz.prog 120 #[.slice (some ⟨g, off, none⟩) xs.length c] w fun e w' => e = .returned (.slice (some ⟨g, off, none⟩) (limbs B32 (val B32 xs)).length c) ∧ w' = w := by
  have HC := Lib.hid hcell
  clear hcell
  go_enter Tryz.func120, Tryz.ntmps120
  go_wp2
  go_loop [3] (fun v => ∃ m : Nat, m ≤ xs.length ∧ v = .int .i64 m ∧ Hid (val B32 (xs.take m) = val B32 xs)) (fun v => (intOf v).toNat)
  case atStart => exact ⟨xs.length, Nat.le_refl _, rfl, Lib.hid (by rw [List.take_length])⟩
  case round =>
    obtain ⟨m, hm, rfl, hv⟩ := hrel
    by_cases hm0 : m = 0
    · subst hm0
      go_wp2
      go_ret
      refine ⟨?_, rfl⟩
      have := trim_end B32_two hd hm hv.out (by omega)
      rw [this]; simp
    · obtain ⟨m, rfl⟩ : ∃ k, m = k + 1 := ⟨m - 1, by omega⟩
      have hcm := HC.out m (by omega)
      by_cases hx : xs.getD m 0 = 0
      · rw [hx] at hcm
        go_wp2
        go_round
        case rel => exact ⟨m, by omega, rfl, Lib.hid (by rw [← trim_step hx]; exact hv.out)⟩
        case measure => simp [intOf]
      · have hb : ((xs.getD m 0 : Nat) : Int) ≠ 0 := by omega
        have hb' : (((xs.getD m 0 : Nat) : Int) == 0) = false := beq_eq_false_iff_ne.2 hb
        generalize hy : xs.getD m 0 = y at *
        have HY := Lib.hid hy
        clear hy
        go_wp2
        go_ret
        refine ⟨?_, rfl⟩
        have := trim_end B32_two hd hm hv.out (fun _ => by rw [Nat.add_sub_cancel, HY.out]; exact hx)
        rw [this, List.length_take, Nat.min_eq_left hm]
        rfl

theorem trim32_any {xs : List Nat} {v : Value} {w : World} (h : Sl32 xs v w) (hc : xs.length ≤ 1099511627776) (hd : Dig B32 xs) :
    Calls Tryz.prog 120 #[v] w fun e w' => ∃ v', e = .returned v' ∧ R32 (val B32 xs) v' w ∧ w' = w := by
  obtain ⟨A, c, rfl, hl, hh⟩ := h
  by_cases hx : xs = []
  · subst hx
    refine (trim32_nil A c w).mono ?_
    rintro e w' ⟨rfl, rfl⟩
    refine ⟨_, rfl, ?_, rfl⟩
    unfold R32
    rw [val_nil, limbs_zero]
    exact ⟨A, c, rfl, hl, fun h => absurd rfl h⟩
  · obtain ⟨g, off, rfl, hg, hcell⟩ := hh hx
    refine (trim32_core g off c xs w hl hc hd hcell).mono ?_
    rintro e w' ⟨rfl, rfl⟩
    have hle := limbs_length_le B32_two hd
    refine ⟨_, rfl, ⟨_, c, rfl, Nat.le_trans hle hl, fun _ => ⟨g, off, rfl, hg, fun i hi => ?_⟩⟩, rfl⟩
    rw [hcell i (by omega), limbs_getD_of B32_two hd hi]

set_option maxHeartbeats 1000000 in
theorem refOf_any (n : Nat) (hn : n < B64) (w : World) :
    Calls Tryz.prog 111 #[.int .u64 n] w (RetS (R32 n) w) := by
  have h1 : n % B32 < B32 := Nat.mod_lt _ (by unfold B32; omega)
  have h2 : n / B32 < B32 := by unfold B32; unfold B64 at hn; omega
  have hd : Dig B32 [n % B32, n / B32] := Dig.cons h1 (Dig.cons h2 (Dig.nil _))
  have hv : val B32 [n % B32, n / B32] = n := by simp only [val_cons, val_nil]; have := Nat.mod_add_div n B32; omega
  have HT : Hid (∀ W g, Blk W g 156 (V32 [n % B32, n / B32]) → Calls Tryz.prog 120 #[.slice (some ⟨g, 0, none⟩) 2 2] W fun e w' => ∃ v', e = .returned v' ∧ R32 n v' W ∧ w' = W) := Lib.hid (fun W g hb => by
    have h := trim32_any (Sl32.of_blk hb) (by simp) hd
    rw [hv] at h
    exact h)
  have hm : (n : Int) % 4294967296 = ((n % B32 : Nat) : Int) := by unfold B32; omega
  have hq : (n : Int) / 4294967296 = ((n / B32 : Nat) : Int) := by unfold B32; omega
  have hq2 : ((n / B32 : Nat) : Int) % 4294967296 = ((n / B32 : Nat) : Int) := by unfold B32 at *; omega
  have HH1 := Lib.hid hm
  have HH2 := Lib.hid hq
  have HH3 := Lib.hid hq2
  clear h1 h2 hd hv hn hm hq hq2
  generalize n % B32 = a at *
  generalize n / B32 = b at *
  go_enter Tryz.func111, Tryz.ntmps111
  go_wp2_with fail
  rw [HH2.out, HH3.out, HH1.out]
  refine (HT.out _ _ (Blk.new w 156 (V32 [a, b]))).mono ?_
  rintro e w1 ⟨v, rfl, hr, rfl⟩
  have HR := Lib.hid hr
  clear hr
  go_wp2
  go_ret
  exact ⟨_, rfl, HR.out, (Ext.refl w).alloc _⟩

set_option maxHeartbeats 1000000 in
theorem refBits_any (m : Nat) (v : Value) (w : World) (h : R32 m v w) (hm : bl m ≤ 1099511627776) :
    Calls Tryz.prog 162 #[v] w fun e w' => e = .returned (.int .i64 (bl m : Nat)) ∧ w' = w := by
  obtain ⟨A, c, rfl, hl, hh⟩ := h
  by_cases h0 : m = 0
  · subst h0
    rw [bl_zero, limbs_zero]
    clear hh
    go_enter Tryz.func162, Tryz.ntmps162
    go_wp2
    go_ret
    exact ⟨rfl, rfl⟩
  · have hne : limbs B32 m ≠ [] := fun e => h0 ((limbs_eq_nil B32_two).1 e)
    obtain ⟨g, off, rfl, hg, hcell⟩ := hh hne
    have hb := bl_top32 m h0
    have hp := limbs_length_pos B32_two h0
    have ht := (limbs_dig B32_two m).getD (by unfold B32; omega) ((limbs B32 m).length - 1)
    have hc := hcell ((limbs B32 m).length - 1) (by omega)
    clear hcell hh hne
    generalize (limbs B32 m).getD ((limbs B32 m).length - 1) 0 = t at *
    generalize (limbs B32 m).length = l at *
    obtain ⟨l, rfl⟩ : ∃ j, l = j + 1 := ⟨l - 1, by omega⟩
    rw [Nat.add_sub_cancel] at hb hc
    have HB := Lib.hid hb
    have ht' : (t : Int) ≤ 4294967295 := by unfold B32 at ht; omega
    have hl' : (l : Int) ≤ 34359738368 := by omega
    have hmi : ((bl m : Nat) : Int) ≤ 1099511627776 := by omega
    clear hb ht hp hm h0
    have hbt : bl t ≤ bl m := by have := HB.out; omega
    go_enter Tryz.func162, Tryz.ntmps162
    go_wp2
    go_loop [3, 4] (fun a b => ∃ j x : Nat, a = .int .i64 (32 * (l : Int) + j) ∧ b = .int .u32 x ∧ (x : Int) ≤ 4294967295 ∧ j + bl x = bl t) (fun _ b => (intOf b).toNat)
    case atStart => exact ⟨0, t, by simp, rfl, ht', by simp⟩
    case round =>
      obtain ⟨j, x, rfl, rfl, hx, hj⟩ := hrel
      by_cases hx0 : x = 0
      · subst hx0
        rw [bl_zero] at hj
        have HJ := Lib.hid hj
        clear hj
        go_wp2
        go_ret
        refine ⟨?_, rfl⟩
        have := HB.out
        have := HJ.out
        show Ending.returned (.int .i64 (32 * (l : Int) + j)) = _
        congr 2; omega
      · have hhx := bl_half hx0
        have HJ := Lib.hid hj
        have HX := Lib.hid hhx
        have hxp : (0 : Int) < x := by omega
        have hjt : (j : Int) + 32 * (l : Int) ≤ 1099511627776 := by have := HB.out; omega
        clear hj hhx
        go_wp2
        go_round
        case rel =>
          refine ⟨j + 1, x / 2, by congr 1, by congr 1, by omega, ?_⟩
          have := HJ.out; have := HX.out; omega
        case measure => simp [intOf]; omega
end Go.Proofs.YtiloialbglfplaaGreatDoor

namespace Go.Proofs.YtiloialbglfplaaGreatDoor
open Go.RowKit

set_option maxHeartbeats 1000000 in
theorem fromBytes_any (l : List UInt8) (v : Value) (w : World) (hl : l.length ≤ 68719476737) (hs : SlB l v w) :
    Calls Tryz.prog 159 #[v] w (Ret (.agg #[.int .u64 (lo (beN l) : Nat), .string (hi (beN l))]) w) := by
  obtain ⟨A, c, rfl, hc, hm, hh⟩ := hs
  have HH := Lib.hid hh
  have HF : Hid (∀ L W, FbUp (rb l) (rb l).length L → Blk W (w.heap.size + 1) 28 (U L) → Calls Tryz.prog 143 #[.slice (some ⟨w.heap.size + 1, 0, none⟩) ((l.length + 7) / 8) ((l.length + 7) / 8)] W (Ret (.agg #[.int .u64 (lo (beN l) : Nat), .string (hi (beN l))]) W)) := Lib.hid (fun L W hL hb => by
    have h := fromWords_blk (w.heap.size + 1) L.length L [] W (by simpa using hb) (Nat.le_refl _) (by rw [hL.len, rb_length]; omega) hL.dig
    rw [hL.fin, hL.len, rb_length] at h
    exact h)
  have hq : ((l.length : Nat) + 7 : Int) / 8 = ((l.length + 7) / 8 : Nat) := by omega
  have hM : (l.length + 7) / 8 ≤ 10000000000 := by omega
  clear hh hc hm
  generalize hMe : (l.length + 7) / 8 = M at *
  have HM := Lib.hid hMe
  clear hMe
  generalize lo (beN l) = la at *
  generalize hi (beN l) = sa at *
  go_enter Tryz.func159, Tryz.ntmps159
  go_wp2_with (at_make; refine wpList_mk _ rfl (.tmp 8) (.tmp 8) 183 28 rfl (.int .u64 0) 8 Tryz.underlying183 info64 rfl .i64 .i64 _ _ M rfl rfl ?c1 ?c1' ?c2 ?c3 ?_)
  case c1 => omega
  case c1' => omega
  case c2 => omega
  case c3 => omega
  intro w1 hx1 hs1 hb1
  try simp only [World.size_alloc] at hs1 hb1
  rw [rep_U] at hb1
  have HR := Lib.hid ((Blk.new w 30 [.int .u64 0, .string ⟨#[]⟩]).ext hx1)
  have HX := Lib.hid (((Ext.refl w).alloc _).trans hx1)
  have HB := Lib.hid hb1
  clear hx1 hb1 hs1 hq
  go_wp2
  go_loopw [12] (fun i wr => ∃ (k : Nat) (L : List Nat), k ≤ l.length ∧ i = .int .i64 k ∧ Hid (FbUp (rb l) k L) ∧ Hid (Blk wr (w.heap.size + 1) 28 (U L)) ∧ Hid (But (w.heap.size + 1) w1 wr)) (fun i _ => l.length - (intOf i).toNat)
  case atStart => exact ⟨0, _, Nat.zero_le _, rfl, Lib.hid (by have h := FbUp.start (rb l); rw [rb_length, HM.out] at h; exact h), HB, Lib.hid (But.refl _ _)⟩
  case round =>
    obtain ⟨k, L, hk, rfl, hL, hbk, hbut⟩ := hrel
    by_cases hkx : k < l.length
    · obtain ⟨g, off, rfl, hg, hcell⟩ := HH.out (fun e => by rw [e] at hkx; simp at hkx)
      have hcx : wr.cell? ⟨g, off + (l.length - 1 - k), none⟩ = some (.int .u8 ((rb l).getD k 0 : Nat)) := by
        rw [rb_getD' l k hkx]
        exact (hbut.out.ext HX.out (by omega)).keep (hcell _ (by omega))
      have hlen := hL.out.len
      rw [rb_length, HM.out] at hlen
      have hk8 : k / 8 < M := by have := HM.out; omega
      have hc1 : wr.cell? ⟨w.heap.size + 1, k / 8, none⟩ = some (.int .u64 (L.getD (k / 8) 0 : Nat)) := by rw [hbk.out.cell, getD_U _ _ (by omega)]
      have hf1 : wr.frozen? ⟨w.heap.size + 1, k / 8, none⟩ = false := hbk.out.frozen _
      have hxd : (rb l).getD k 0 < 256 := (rb_dig l).getD (by omega) k
      have hw := hL.out.word (rb_dig l)
      obtain ⟨_, hN⟩ := hL.out.step (by rw [rb_length]; exact hkx) (rb_dig l)
      have HN := Lib.hid hN
      have HV := Lib.hid (or64 (p := 8 * (k % 8)) hxd (by omega) hw)
      clear hcell hlen hN hw
      generalize (rb l).getD k 0 = x at *
      generalize L.getD (k / 8) 0 = o at *
      go_wp2
      go_region
      rw [HV.out]
      go_wp2
      go_roundw
      case rel =>
        refine ⟨k + 1, _, by omega, by go_num, HN, ?_, Lib.hid ((hbut.out.set (k / 8) _).trans (But.of_ext (Ext.refl _).drew))⟩
        have h := hbk.out.set (k / 8) (.int .u64 (o + 2 ^ (8 * (k % 8)) * x : Nat))
        rw [U_set] at h
        exact Lib.hid h
      case measure => simp [intOf]; omega
    · obtain rfl : k = l.length := by omega
      go_wp2_with fail
      refine (HF.out L _ (by rw [rb_length]; exact hL.out) hbk.out).mono ?_
      rintro e w3 ⟨rfl, hx3⟩
      have he : Ext w w3 := (hbut.out.ext HX.out (by omega)).trans hx3
      have hr3 := (hbut.out.blk HR.out (by omega)).ext hx3
      have r0 : w3.cell? ⟨w.heap.size, 0, none⟩ = some (.int .u64 0) := hr3.cell 0
      have r1 : w3.cell? ⟨w.heap.size, 1, none⟩ = some (.string ⟨#[]⟩) := hr3.cell 1
      have f0 : w3.frozen? ⟨w.heap.size, 0, none⟩ = false := hr3.frozen 0
      have f1 : w3.frozen? ⟨w.heap.size, 1, none⟩ = false := hr3.frozen 1
      go_wp2
      refine ret_nat w.heap.size _ _ rfl rfl ((hr3.set 0 _).set 1 _) rfl ⟨rfl, ?_⟩
      exact (Below.setCell he (p := ⟨w.heap.size, 0, none⟩) (by show _ ≤ _; simp) _).setCell (p := ⟨w.heap.size, 1, none⟩) (by show _ ≤ _; simp) _
theorem info32 : (Tryz.prog.info? 156).map (fun i => (i.zero, i.size, i.bytes)) = some (some (.int .u32 0), 1, 4) := by kernel_rfl

set_option maxHeartbeats 1000000 in
theorem refFrom_any (l : List UInt8) (v : Value) (w : World) (hl : l.length ≤ 68719476737) (hs : SlB l v w) :
    Calls Tryz.prog 66 #[v] w (RetS (R32 (beN l)) w) := by
  obtain ⟨A, c, rfl, hc, hm, hh⟩ := hs
  have HH := Lib.hid hh
  have HF : Hid (∀ L W, FbDn (rb l) 0 L → Blk W w.heap.size 156 (V32 L) → Calls Tryz.prog 120 #[.slice (some ⟨w.heap.size, 0, none⟩) ((l.length + 3) / 4) ((l.length + 3) / 4)] W fun e w' => ∃ v', e = .returned v' ∧ R32 (beN l) v' W ∧ w' = W) := Lib.hid (fun L W hL hb => by
    have h := trim32_any (Sl32.of_blk hb) (by rw [hL.len, rb_length]; omega) hL.dig
    rw [hL.vl, hL.len, rb_length, Nat.pow_zero, Nat.one_mul, List.drop_zero] at h
    exact h)
  have hq : ((l.length : Nat) + 3 : Int) / 4 = ((l.length + 3) / 4 : Nat) := by omega
  have hM : (l.length + 3) / 4 ≤ 20000000000 := by omega
  clear hh hc hm
  generalize hMe : (l.length + 3) / 4 = M at *
  have HM := Lib.hid hMe
  clear hMe
  go_enter Tryz.func66, Tryz.ntmps66
  go_wp2_with (at_make; refine wpList_mk _ rfl (.tmp 9) (.tmp 9) 63 156 rfl (.int .u32 0) 4 Tryz.underlying63 info32 rfl .i64 .i64 _ _ M rfl rfl ?c1 ?c1' ?c2 ?c3 ?_)
  case c1 => omega
  case c1' => omega
  case c2 => omega
  case c3 => omega
  intro w1 hx1 hs1 hb1
  try simp only [World.size_alloc] at hs1 hb1
  rw [V32_rep] at hb1
  have HX := Lib.hid hx1
  have HB := Lib.hid hb1
  clear hx1 hb1 hs1 hq
  go_wp2
  go_loopw [4] (fun i wr => ∃ (k : Nat) (L : List Nat), k ≤ l.length ∧ i = .int .i64 k ∧ Hid (FbDn (rb l) (l.length - k) L) ∧ Hid (Blk wr w.heap.size 156 (V32 L)) ∧ Hid (But w.heap.size w1 wr)) (fun i _ => l.length - (intOf i).toNat)
  case atStart => exact ⟨0, _, Nat.zero_le _, rfl, Lib.hid (by have h := FbDn.start (rb l); rw [rb_length, HM.out] at h; exact h), HB, Lib.hid (But.refl _ _)⟩
  case round =>
    obtain ⟨k, L, hk, rfl, hL, hbk, hbut⟩ := hrel
    by_cases hkx : k < l.length
    · obtain ⟨g, off, rfl, hg, hcell⟩ := HH.out (fun e => by rw [e] at hkx; simp at hkx)
      have hcx : wr.cell? ⟨g, off + k, none⟩ = some (.int .u8 ((rb l).getD (l.length - 1 - k) 0 : Nat)) := by
        rw [rb_getD l k hkx]
        exact (hbut.out.ext HX.out (by omega)).keep (hcell _ hkx)
      obtain ⟨j, hj⟩ : ∃ j, l.length - 1 - k = j := ⟨_, rfl⟩
      have HLj : Hid (FbDn (rb l) (j + 1) L) := Lib.hid (by have h := hL.out; rw [show l.length - k = j + 1 from by omega] at h; exact h)
      rw [hj] at hcx
      have hlen := HLj.out.len
      rw [rb_length, HM.out] at hlen
      have hk8 : j / 4 < M := by have := HM.out; omega
      have hc1 : wr.cell? ⟨w.heap.size, j / 4, none⟩ = some (.int .u32 (L.getD (j / 4) 0 : Nat)) := by rw [hbk.out.cell, getD_V32 _ _ (by omega)]
      have hf1 : wr.frozen? ⟨w.heap.size, j / 4, none⟩ = false := hbk.out.frozen _
      have hxd : (rb l).getD j 0 < 256 := (rb_dig l).getD (by omega) j
      obtain ⟨z, hz⟩ := HLj.out.word
      have ho : L.getD (j / 4) 0 < B32 := HLj.out.dig.getD (by unfold B32; omega) _
      obtain ⟨_, hN⟩ := HLj.out.step (by rw [rb_length]; omega) (rb_dig l)
      have HN := Lib.hid hN
      have hv := or32 (p := 8 * (j % 4)) hxd (by omega) hz ho
      rw [IntKind.wrap_u32'] at hv
      have HV := Lib.hid hv
      have hji : (l.length : Int) - 1 - k = j := by omega
      have hjk : j + 1 + k = l.length := by omega
      have HJ := Lib.hid hjk
      clear hcell hlen hN hz hj hL hjk hv
      generalize (rb l).getD j 0 = x at *
      generalize L.getD (j / 4) 0 = o at *
      have ho' : (o : Int) ≤ 4294967295 := by unfold B32 at ho; omega
      go_wp2
      go_region
      rw [HV.out]
      go_wp2
      go_roundw
      case rel =>
        refine ⟨k + 1, _, by omega, by go_num, by have := HJ.out; rw [show l.length - (k + 1) = j from by omega]; exact HN, ?_, Lib.hid ((hbut.out.set (j / 4) _).trans (But.of_ext (Ext.refl _).drew))⟩
        have h := hbk.out.set (j / 4) (.int .u32 (o + 2 ^ (8 * (j % 4)) * x : Nat))
        rw [V32_set] at h
        exact Lib.hid h
      case measure => simp [intOf]; omega
    · obtain rfl : k = l.length := by omega
      have HL0 : Hid (FbDn (rb l) 0 L) := Lib.hid (by have h := hL.out; rw [Nat.sub_self] at h; exact h)
      go_wp2_with fail
      refine (HF.out L _ HL0.out hbk.out).mono ?_
      rintro e w3 ⟨v, rfl, hr, rfl⟩
      have HR := Lib.hid hr
      clear hr
      go_wp2
      go_ret
      exact ⟨_, rfl, HR.out, hbut.out.ext HX.out (Nat.le_refl _)⟩
end Go.Proofs.YtiloialbglfplaaGreatDoor

namespace Go.Proofs.YtiloialbglfplaaGreatDoor
open Go.RowKit

theorem info8 : (Tryz.prog.info? 5).map (fun i => (i.zero, i.size, i.bytes)) = some (some (.int .u8 0), 1, 1) := by kernel_rfl

set_option maxHeartbeats 1000000 in
theorem bytes_any (n : Nat) (hn : bl n ≤ 549755813888) (w : World) :
    Calls Tryz.prog 133 #[.agg #[.int .u64 (lo (n) : Nat), .string (hi (n))]] w (RetS (BytesAt w.heap.size (beB n)) w) := by
  have HB := Lib.hid (fun W => bits_any n (by omega) W)
  have HW := Lib.hid (fun W => words_any n hn W)
  have hq : ((bl n : Nat) + 7 : Int) / 8 = (nb n : Nat) := by unfold nb; omega
  have hbi : ((bl n : Nat) : Int) ≤ 549755813888 := by omega
  have hnb : nb n ≤ 68719476737 := by unfold nb; omega
  have HI : Hid (∀ i, i < nb n → i / 8 < (limbs B64 n).length) := Lib.hid (fun i hi => nb_words (s := 8) (by omega) n i hi)
  have HV : Hid (∀ i, (limbs B64 n).getD (i / 8) 0 / 256 ^ (i % 8) % 256 = n / 256 ^ i % 256) := Lib.hid (fun i => by rw [limbs_getD B64_two]; exact byte_limb (s := 8) (by omega) n i)
  have HN := Lib.hid hn
  clear hn
  generalize hL : limbs B64 n = L at *
  generalize hla : lo n = la at *
  generalize hsa : hi n = sa at *
  generalize hl : bl n = l at *
  generalize hN : nb n = N at *
  have E := Lib.hid hN
  clear hL hla hsa hl hN
  go_enter Tryz.func133, Tryz.ntmps133
  go_wp2_with fail
  refine (HB.out _).mono ?_
  rintro e w1 ⟨rfl, hx1⟩
  have HX1 := Lib.hid hx1
  clear hx1
  go_wp2_with (at_make; refine wpList_mk _ rfl (.tmp 11) (.tmp 11) 102 5 rfl (.int .u8 0) 1 Tryz.underlying102 info8 rfl .i64 .i64 _ _ N rfl rfl ?c1 ?c1' ?c2 ?c3 ?_)
  case c1 => omega
  case c1' => omega
  case c2 => omega
  case c3 => omega
  intro w2 hx2 hs2 hb2
  have hp2 := ((Blk.new w 30 [.int .u64 la, .string sa]).ext HX1.out).ext hx2
  have p0 : w2.cell? ⟨w.heap.size, 0, none⟩ = some (.int .u64 la) := hp2.cell 0
  have p1 : w2.cell? ⟨w.heap.size, 1, none⟩ = some (.string sa) := hp2.cell 1
  have hge : w.heap.size ≤ w1.heap.size := Nat.le_trans (by simp) HX1.out.size
  have HX2 : Hid (Ext w w2) := Lib.hid ((((Ext.refl w).alloc _).trans HX1.out).trans hx2)
  have HB2 := Lib.hid hb2
  clear hx2 hb2 hp2
  have HGE := Lib.hid hge
  clear hge hs2
  generalize w1.heap.size = g at *
  go_wp2_with fail
  refine (HW.out _).mono ?_
  rintro e w3 ⟨v3, rfl, hf3, hx3⟩
  obtain ⟨A, c, rfl, hh⟩ := fresh_form hf3
  have HB3 := Lib.hid (HB2.out.ext hx3)
  have HX3 := Lib.hid (HX2.out.trans hx3)
  have HF3 : Hid (L ≠ [] → ∃ g', w2.heap.size ≤ g' ∧ c = L.length ∧ A = some ⟨g', 0, none⟩ ∧ Blk w3 g' 28 (U L)) := Lib.hid hh
  have HGL := Lib.hid HB2.out.lt
  clear hf3 hx3 hh p0 p1
  go_wp2
  go_loopw [16] (fun i wr => ∃ k : Nat, k ≤ N ∧ i = .int .i64 k ∧ Hid (Blk wr g 5 (Lib.byteCells (bfill (beB n) k))) ∧ Hid (But g w3 wr)) (fun i _ => N - (intOf i).toNat)
  case atStart =>
    refine ⟨0, by omega, rfl, Lib.hid ?_, Lib.hid (But.refl _ _)⟩
    rw [bfill_zero, byteCells_rep, beB_length, E.out]
    exact HB3.out
  case round =>
    obtain ⟨k, hk, rfl, hbk, hbut⟩ := hrel
    by_cases hkN : k < N
    · have hki := HI.out k hkN
      obtain ⟨g', hg', rfl, rfl, hbg⟩ := HF3.out (fun e => by rw [e] at hki; simp at hki)
      have hne : g' ≠ g := by have := HGL.out; omega
      have hbg' := hbut.out.blk hbg hne
      have hc : wr.cell? ⟨g', k / 8, none⟩ = some (.int .u64 (L.getD (k / 8) 0 : Nat)) := by rw [hbg'.cell (k / 8), getD_U _ _ hki]
      have hv := HV.out k
      have hset : wr.cell? ⟨g, N - 1 - k, none⟩ = some (.int .u8 0) := by
        rw [hbk.out.cell, ← E.out]
        exact bfill_cell n k (by rw [E.out]; exact hkN)
      have hf : wr.frozen? ⟨g, N - 1 - k, none⟩ = false := hbk.out.frozen _
      have HV2 := Lib.hid hv
      clear hv hbg' hbg hg' hne
      generalize L.getD (k / 8) 0 = x at *
      go_wp2
      refine ⟨⟨k + 1, by omega, rfl, Lib.hid ?_, Lib.hid (hbut.out.set _ _)⟩, by simp [intOf]; omega⟩
      have h := hbk.out.set (N - 1 - k) (.int .u8 ((x : Int) / 2 ^ (8 * (k % 8)) % 256))
      rw [← E.out, bfill_beB n k (by rw [E.out]; exact hkN) _ (by rw [← byte_shift, HV2.out])] at h
      rw [← E.out]
      exact h
    · obtain rfl : k = N := by omega
      clear hk hkN
      go_wp2
      go_ret
      have hb := hbk.out
      have el : (beB n).length = k := by rw [beB_length, E.out]
      refine ⟨_, rfl, ⟨g, HGE.out, by rw [el]; rfl, ?_⟩, hbut.out.ext HX3.out HGE.out⟩
      have h2 := bfill_all (beB n)
      rw [el] at h2
      rw [h2] at hb
      exact hb
end Go.Proofs.YtiloialbglfplaaGreatDoor

namespace Go.Proofs.YtiloialbglfplaaGreatDoor
open Go.RowKit

set_option maxHeartbeats 1000000 in
theorem refBytes_any (n : Nat) (hn : bl n ≤ 549755813888) (v : Value) (w : World) (hR : R32 n v w) :
    Calls Tryz.prog 160 #[v] w (RetS (BytesAt w.heap.size (beB n)) w) := by
  have HB := Lib.hid (refBits_any n v w hR (by omega))
  have hq : ((bl n : Nat) + 7 : Int) / 8 = (nb n : Nat) := by unfold nb; omega
  have hbi : ((bl n : Nat) : Int) ≤ 549755813888 := by omega
  have hnb : nb n ≤ 68719476737 := by unfold nb; omega
  have HI : Hid (∀ i, i < nb n → i / 4 < (limbs B32 n).length) := Lib.hid (fun i hi => nb_words (s := 4) (by omega) n i hi)
  have HV : Hid (∀ i, (limbs B32 n).getD (i / 4) 0 / 256 ^ (i % 4) % 256 = n / 256 ^ i % 256) := Lib.hid (fun i => by rw [limbs_getD B32_two]; exact byte_limb (s := 4) (by omega) n i)
  obtain ⟨A, c, rfl, hcl, hh⟩ := hR
  have HF3 := Lib.hid hh
  clear hn hh
  generalize hL : limbs B32 n = L at *
  generalize hl : bl n = l at *
  generalize hN : nb n = N at *
  have E := Lib.hid hN
  clear hL hl hN hcl
  go_enter Tryz.func160, Tryz.ntmps160
  go_wp2_with fail
  refine (HB.out).mono ?_
  rintro e w1 ⟨rfl, rfl⟩
  go_wp2_with (at_make; refine wpList_mk _ rfl (.tmp 10) (.tmp 10) 102 5 rfl (.int .u8 0) 1 Tryz.underlying102 info8 rfl .i64 .i64 _ _ N rfl rfl ?c1 ?c1' ?c2 ?c3 ?_)
  case c1 => omega
  case c1' => omega
  case c2 => omega
  case c3 => omega
  intro w3 hx3 hs3 hb3
  have HB3 := Lib.hid hb3
  have HX3 := Lib.hid hx3
  clear hx3 hb3 hs3
  go_wp2
  go_loopw [5] (fun i wr => ∃ k : Nat, k ≤ N ∧ i = .int .i64 k ∧ Hid (Blk wr w1.heap.size 5 (Lib.byteCells (bfill (beB n) k))) ∧ Hid (But w1.heap.size w3 wr)) (fun i _ => N - (intOf i).toNat)
  case atStart =>
    refine ⟨0, by omega, rfl, Lib.hid ?_, Lib.hid (But.refl _ _)⟩
    rw [bfill_zero, byteCells_rep, beB_length, E.out]
    exact HB3.out
  case round =>
    obtain ⟨k, hk, rfl, hbk, hbut⟩ := hrel
    by_cases hkN : k < N
    · have hki := HI.out k hkN
      obtain ⟨g', off, rfl, hg', hbg⟩ := HF3.out (fun e => by rw [e] at hki; simp at hki)
      have hc : wr.cell? ⟨g', off + k / 4, none⟩ = some (.int .u32 (L.getD (k / 4) 0 : Nat)) := (hbut.out.ext HX3.out (Nat.le_refl _)).keep (hbg _ hki)
      have hv := HV.out k
      have hset : wr.cell? ⟨w1.heap.size, N - 1 - k, none⟩ = some (.int .u8 0) := by
        rw [hbk.out.cell, ← E.out]
        exact bfill_cell n k (by rw [E.out]; exact hkN)
      have hf : wr.frozen? ⟨w1.heap.size, N - 1 - k, none⟩ = false := hbk.out.frozen _
      have HV2 := Lib.hid hv
      clear hv hbg hg'
      generalize L.getD (k / 4) 0 = x at *
      go_wp2
      refine ⟨⟨k + 1, by omega, rfl, Lib.hid ?_, Lib.hid (hbut.out.set _ _)⟩, by simp [intOf]; omega⟩
      have h := hbk.out.set (N - 1 - k) (.int .u8 ((x : Int) / 2 ^ (8 * (k % 4)) % 256))
      rw [← E.out, bfill_beB n k (by rw [E.out]; exact hkN) _ (by rw [← byte_shift, HV2.out])] at h
      rw [← E.out]
      exact h
    · obtain rfl : k = N := by omega
      clear hk hkN
      go_wp2
      go_ret
      have hb := hbk.out
      have el : (beB n).length = k := by rw [beB_length, E.out]
      refine ⟨_, rfl, ⟨w1.heap.size, Nat.le_refl _, by rw [el]; rfl, ?_⟩, hbut.out.ext HX3.out (Nat.le_refl _)⟩
      have h2 := bfill_all (beB n)
      rw [el] at h2
      rw [h2] at hb
      exact hb

end Go.Proofs.YtiloialbglfplaaGreatDoor

namespace Go.Proofs.YtiloialbglfplaaGreatDoor

open Classical in
/-- r is the root of a. -/
def IsRoot (a r : Nat) : Prop := r * r ≤ a ∧ a < (r + 1) * (r + 1)
theorem IsRoot.unique {a r s : Nat} (h : IsRoot a r) (k : IsRoot a s) : r = s := by
  rcases Nat.lt_trichotomy r s with h1 | h1 | h1
  · have := Nat.mul_le_mul (show r + 1 ≤ s from h1) (show r + 1 ≤ s from h1)
    have := h.2; have := k.1; omega
  · exact h1
  · have := Nat.mul_le_mul (show s + 1 ≤ r from h1) (show s + 1 ≤ r from h1)
    have := k.2; have := h.1; omega

structure RtInv (a x : Nat) : Prop where
  pos : 0 < x
  up : a < (x + 1) * (x + 1)
  top : x ≤ 2 ^ bl a
theorem RtInv.start {a : Nat} (h : a ≠ 0) : RtInv a (2 ^ ((bl a + 1) / 2)) := by
  have hb := bl_pos h
  refine ⟨Nat.two_pow_pos _, ?_, Nat.pow_le_pow_right (by omega) (by omega)⟩
  have h1 := lt_bl a
  have h2 : 2 ^ bl a ≤ 2 ^ ((bl a + 1) / 2) * 2 ^ ((bl a + 1) / 2) := by rw [← Nat.pow_add]; exact Nat.pow_le_pow_right (by omega) (by omega)
  have h3 := Nat.mul_le_mul (Nat.le_succ (2 ^ ((bl a + 1) / 2))) (Nat.le_succ (2 ^ ((bl a + 1) / 2)))
  simp only [Nat.succ_eq_add_one] at h3
  omega
theorem RtInv.next {a x : Nat} (ha : a ≠ 0) (h : RtInv a x) (hlt : (x + a / x) / 2 < x) : RtInv a ((x + a / x) / 2) := by
  have hx := h.pos
  have e := Nat.div_add_mod a x
  have hm := Nat.mod_lt a hx
  have ht := h.top
  generalize a / x = q at *
  generalize a % x = r at *
  have h1 : a < x * (q + 1) := by rw [Nat.mul_add, Nat.mul_one]; omega
  have h2 : x + q + 1 ≤ 2 * ((x + q) / 2 + 1) := by omega
  generalize (x + q) / 2 = nx at *
  have h3 := Nat.mul_le_mul h2 h2
  have h4 : 4 * (x * (q + 1)) ≤ (x + q + 1) * (x + q + 1) := by
    rw [show x + q + 1 = x + (q + 1) from by omega]
    generalize q + 1 = p
    rcases Nat.le_total x p with hxp | hxp
    · obtain ⟨d, rfl⟩ := Nat.exists_eq_add_of_le hxp
      have : (x + (x + d)) * (x + (x + d)) = 4 * (x * (x + d)) + d * d := by grind
      omega
    · obtain ⟨d, rfl⟩ := Nat.exists_eq_add_of_le hxp
      have : (p + d + p) * (p + d + p) = 4 * ((p + d) * p) + d * d := by grind
      omega
  have h5 : 2 * (nx + 1) * (2 * (nx + 1)) = 4 * ((nx + 1) * (nx + 1)) := by grind
  have h6 : a < (nx + 1) * (nx + 1) := by omega
  refine ⟨?_, h6, by omega⟩
  rcases Nat.eq_zero_or_pos nx with h0 | h0
  · subst h0; omega
  · exact h0
theorem RtInv.done {a x : Nat} (h : RtInv a x) (hge : x ≤ (x + a / x) / 2) : IsRoot a x := by
  refine ⟨?_, h.up⟩
  have e := Nat.div_mul_le_self a x
  have h1 : x ≤ a / x := by omega
  exact Nat.le_trans (Nat.mul_le_mul_right x h1) e
theorem RtInv.sum {a x : Nat} (h : RtInv a x) (hb : bl a ≤ 274877906944) : bl x ≤ 274877906945 ∧ bl (a / x) ≤ 274877906944 ∧ bl (x + a / x) ≤ 274877906946 := by
  have h1 : bl x ≤ 274877906945 := Nat.le_trans (bl_le (Nat.lt_of_le_of_lt h.top (Nat.pow_lt_pow_right (by omega) (Nat.lt_succ_self _)))) (by omega)
  have h2 : bl (a / x) ≤ 274877906944 := Nat.le_trans (bl_mono (Nat.div_le_self a x)) hb
  exact ⟨h1, h2, Nat.le_trans (bl_add _ _) (by omega)⟩
end Go.Proofs.YtiloialbglfplaaGreatDoor

namespace Go.Proofs.YtiloialbglfplaaGreatDoor
open Go.RowKit

/-- A return of two nat.Nat and a slot. -/
theorem ret_nat3 {fn : Func} {R : Ending → World → Prop} {a : Act} {w : World} {p p' q : Tmp} (g g' : Nat) (x y x' y' v : Value) (hr : fn.results = #[.cell p 30, .cell p' 30, .tmp q])
    (hp : a.tmps.getD p undef = .pointer (some ⟨g, 0, none⟩)) (hp' : a.tmps.getD p' undef = .pointer (some ⟨g', 0, none⟩)) (hq : a.tmps.getD q undef = v) (hb : Blk w g 30 [x, y]) (hb' : Blk w g' 30 [x', y']) (hd : a.defers = []) (hR : R (.returned (.tuple #[.agg #[x, y], .agg #[x', y'], v])) w) : bodyPost Tryz.prog fn R .ret a w := by
  refine bodyPost_ret ?_ hd hR
  have hl := run_loadVar_row (P := Tryz.prog) w g 30 30 #[x, y] (0, 0) _ hb Tryz.underlying30 rfl (by kernel_rfl)
  have hl' := run_loadVar_row (P := Tryz.prog) w g' 30 30 #[x', y'] (0, 0) _ hb' Tryz.underlying30 rfl (by kernel_rfl)
  have e1 : a.tmps[p]?.getD undef = .pointer (some ⟨g, 0, none⟩) := by simpa using hp
  have e2 : a.tmps[p']?.getD undef = .pointer (some ⟨g', 0, none⟩) := by simpa using hp'
  have e3 : a.tmps[q]?.getD undef = v := by simpa using hq
  simp [results, hr, e1, e2, e3, asAddr, hl, hl']

/-- Four boxes: two arguments and two results. -/
theorem boxes4 (w W : World) (la sa lb sb : Value) (h : (((w.alloc (.cells #[la, sa] 30)).alloc (.cells #[lb, sb] 30)).alloc (.cells #[.int .u64 0, .string ⟨#[]⟩] 30)).alloc (.cells #[.int .u64 0, .string ⟨#[]⟩] 30) = W) :
    Blk W w.heap.size 30 [la, sa] ∧ Blk W (w.heap.size + 1) 30 [lb, sb] ∧ Blk W (w.heap.size + 1 + 1) 30 [.int .u64 0, .string ⟨#[]⟩] ∧ Blk W (w.heap.size + 1 + 1 + 1) 30 [.int .u64 0, .string ⟨#[]⟩] ∧ Ext w W := by
  obtain ⟨h1, h2, h3, h4⟩ := boxes3 w _ la sa lb sb rfl
  subst h
  refine ⟨h1.alloc _, h2.alloc _, h3.alloc _, ?_, h4.alloc _⟩
  have h := Blk.new (((w.alloc (.cells #[la, sa] 30)).alloc (.cells #[lb, sb] 30)).alloc (.cells #[.int .u64 0, .string ⟨#[]⟩] 30)) 30 [.int .u64 0, .string ⟨#[]⟩]
  rw [World.size_alloc, World.size_alloc, World.size_alloc] at h
  exact h

set_option maxHeartbeats 2000000 in
/-- Div of small numbers. -/
theorem div_small (a b : Nat) (ha : a < B64) (hb : b < B64) (h0 : b ≠ 0) (w : World) :
    Calls Tryz.prog 136 #[.agg #[.int .u64 (lo (a) : Nat), .string (hi (a))], .agg #[.int .u64 (lo (b) : Nat), .string (hi (b))]] w (Ret (.tuple #[.agg #[.int .u64 (lo (a / b) : Nat), .string (hi (a / b))], .agg #[.int .u64 (lo (a % b) : Nat), .string (hi (a % b))], .bool true]) w) := by
  have hq : a / b < B64 := Nat.lt_of_le_of_lt (Nat.div_le_self _ _) ha
  have hm : a % b < B64 := Nat.lt_trans (Nat.mod_lt _ (by omega)) hb
  have HB := Lib.hid (fun W => bits_lt b hb W)
  rw [hi_small ha, hi_small hb, lo_small ha, lo_small hb, hi_small hq, hi_small hm, lo_small hq, lo_small hm] at *
  have hnb : (((bl b : Nat) : Int) == 0) = false := beq_eq_false_iff_ne.2 (by have := bl_pos h0; omega)
  have hdq : (((a / b : Nat) : Int)) = (a : Int) / b := Int.natCast_ediv a b
  have hdm : (((a % b : Nat) : Int)) = (a : Int) % b := Int.natCast_emod a b
  rw [hdq, hdm]
  have hbi : ((b : Int) == 0) = false := beq_eq_false_iff_ne.2 (by omega)
  have hai : (0 : Int) ≤ a := by omega
  have hbp : (0 : Int) < b := by omega
  have hau : (a : Int) ≤ 18446744073709551615 := by unfold B64 at ha; omega
  have hbu : (b : Int) ≤ 18446744073709551615 := by unfold B64 at hb; omega
  clear ha hb hq hm h0 hdq hdm
  generalize (a : Int) = x at *
  generalize (b : Int) = y at *
  generalize (bl b : Nat) = l at *
  go_enter Tryz.func136, Tryz.ntmps136
  go_wp2_with fail
  generalize hW : (((w.alloc (.cells #[.int .u64 x, .string ⟨#[]⟩] 30)).alloc (.cells #[.int .u64 y, .string ⟨#[]⟩] 30)).alloc (.cells #[.int .u64 0, .string ⟨#[]⟩] 30)).alloc (.cells #[.int .u64 0, .string ⟨#[]⟩] 30) = W
  obtain ⟨hp, hq, hr, hs, hx⟩ := boxes4 w W _ _ _ _ hW
  clear hW
  refine (HB.out _).mono ?_
  rintro e w3 ⟨rfl, he3⟩
  have hp3 := hp.ext he3
  have hq3 := hq.ext he3
  have hr3 := hr.ext he3
  have hs3 := hs.ext he3
  have p0 : w3.cell? ⟨w.heap.size, 0, none⟩ = some (.int .u64 x) := hp3.cell 0
  have p1 : w3.cell? ⟨w.heap.size, 1, none⟩ = some (.string ⟨#[]⟩) := hp3.cell 1
  have q0 : w3.cell? ⟨w.heap.size + 1, 0, none⟩ = some (.int .u64 y) := hq3.cell 0
  have q1 : w3.cell? ⟨w.heap.size + 1, 1, none⟩ = some (.string ⟨#[]⟩) := hq3.cell 1
  have r0 : w3.cell? ⟨w.heap.size + 1 + 1, 0, none⟩ = some (.int .u64 0) := hr3.cell 0
  have r1 : w3.cell? ⟨w.heap.size + 1 + 1, 1, none⟩ = some (.string ⟨#[]⟩) := hr3.cell 1
  have f0 : w3.frozen? ⟨w.heap.size + 1 + 1, 0, none⟩ = false := hr3.frozen 0
  have f1 : w3.frozen? ⟨w.heap.size + 1 + 1, 1, none⟩ = false := hr3.frozen 1
  have s0 : w3.cell? ⟨w.heap.size + 1 + 1 + 1, 0, none⟩ = some (.int .u64 0) := hs3.cell 0
  have s1 : w3.cell? ⟨w.heap.size + 1 + 1 + 1, 1, none⟩ = some (.string ⟨#[]⟩) := hs3.cell 1
  have g0 : w3.frozen? ⟨w.heap.size + 1 + 1 + 1, 0, none⟩ = false := hs3.frozen 0
  have g1 : w3.frozen? ⟨w.heap.size + 1 + 1 + 1, 1, none⟩ = false := hs3.frozen 1
  have HX := Lib.hid (hx.trans he3)
  have HR := Lib.hid hr3
  have HS := Lib.hid hs3
  clear hr hs hx he3 hp hq hp3 hq3 hr3 hs3
  go_wp2_with fail
  go_region
  go_wp2
  refine ret_nat3 (w.heap.size + 1 + 1) (w.heap.size + 1 + 1 + 1) _ _ _ _ _ rfl rfl rfl rfl ((((HR.out.set 0 _).set 1 _).far (by simp) _).far (by simp) _).drew ((((HS.out.far (by simp) _).far (by simp) _).set 0 _).set 1 _).drew rfl ⟨rfl, ?_⟩
  exact ((((Below.setCell HX.out (p := ⟨w.heap.size + 1 + 1, 0, none⟩) (by show _ ≤ _; simp; omega) _).setCell (p := ⟨w.heap.size + 1 + 1, 1, none⟩) (by show _ ≤ _; simp; omega) _).setCell (p := ⟨w.heap.size + 1 + 1 + 1, 0, none⟩) (by show _ ≤ _; simp; omega) _).setCell (p := ⟨w.heap.size + 1 + 1 + 1, 1, none⟩) (by show _ ≤ _; simp; omega) _).drew

end Go.Proofs.YtiloialbglfplaaGreatDoor

namespace Go.Proofs.YtiloialbglfplaaGreatDoor
open Go.RowKit

theorem SlB.of_own {base : Nat} {l : List UInt8} {v : Value} {w : World} (h : w.ownsRow base 5 1 v l.length (Lib.byteCells l)) : SlB l v w := by
  obtain ⟨hl, h | ⟨g, cap, cur, rfl, hg, hb, hle, hcap, hsz, htk⟩⟩ := h
  · obtain ⟨rfl, h0⟩ := h
    obtain rfl := List.eq_nil_of_length_eq_zero h0
    exact SlB.nil w
  · refine ⟨_, cap, rfl, hle, ⟨by unfold maxLen at hcap; omega, fun h => by cases h⟩, fun _ => ⟨g, 0, rfl, ?_, fun i hi => ?_⟩⟩
    · rcases Nat.lt_or_ge g w.heap.size with h' | h'
      · exact h'
      · rw [Array.getElem?_eq_none h'] at hb; cases hb
    · rw [Nat.zero_add, cell_of_row w g i _ _ (0, 0) hb]
      have e : cur[i]? = (cur.toList.take (l.length * 1))[i]? := by rw [List.getElem?_take_of_lt (by omega)]; simp
      rw [e, htk]
      simp [Lib.byteCells, List.getElem?_map, List.getElem?_eq_getElem hi]

set_option maxHeartbeats 1000000 in
theorem handNat_any (n : Nat) (hn : bl n ≤ 549755813888) (v : Value) (w : World) (hR : R32 n v w) :
    Calls Tryz.prog 122 #[v] w (Ret (.agg #[.int .u64 (lo (n) : Nat), .string (hi (n))]) w) := by
  have HB : Hid (∀ W, R32 n v W → Calls Tryz.prog 160 #[v] W (RetS (SlB (beB n)) W)) := Lib.hid (fun W h => (refBytes_any n hn v W h).mono fun _ _ ⟨u, h1, h2, h3⟩ => ⟨u, h1, SlB.of_at (by rw [beB_length]; unfold nb; omega) h2, h3⟩)
  have HF : Hid (∀ W u, SlB (beB n) u W → Calls Tryz.prog 159 #[u] W (Ret (.agg #[.int .u64 (lo (n) : Nat), .string (hi (n))]) W)) := Lib.hid (fun W u h => by
    have h := fromBytes_any (beB n) u W (by rw [beB_length]; unfold nb; omega) h
    rw [beN_beB] at h
    exact h)
  have HR0 := Lib.hid hR
  clear hR hn
  generalize lo n = la at *
  generalize hi n = sa at *
  go_enter Tryz.func122, Tryz.ntmps122
  go_wp2_with fail
  have hr := Blk.new w 30 [.int .u64 0, .string ⟨#[]⟩]
  have hx : Ext w (w.alloc (.cells #[.int .u64 0, .string ⟨#[]⟩] 30)) := (Ext.refl w).alloc _
  have HR := Lib.hid hr
  have HX := Lib.hid hx
  clear hr hx
  refine (HB.out _ (HR0.out.ext HX.out)).mono ?_
  rintro e w1 ⟨v1, rfl, hv1, hx1⟩
  have HV1 := Lib.hid hv1
  have HX1 := Lib.hid hx1
  clear hv1 hx1
  go_wp2_with fail
  refine (HF.out _ _ HV1.out).mono ?_
  rintro e w3 ⟨rfl, hx3⟩
  have he : Ext w w3 := (HX.out.trans HX1.out).trans hx3
  have hr3 := (HR.out.ext HX1.out).ext hx3
  have r0 : w3.cell? ⟨w.heap.size, 0, none⟩ = some (.int .u64 0) := hr3.cell 0
  have r1 : w3.cell? ⟨w.heap.size, 1, none⟩ = some (.string ⟨#[]⟩) := hr3.cell 1
  have f0 : w3.frozen? ⟨w.heap.size, 0, none⟩ = false := hr3.frozen 0
  have f1 : w3.frozen? ⟨w.heap.size, 1, none⟩ = false := hr3.frozen 1
  go_wp2
  refine ret_nat w.heap.size _ _ rfl rfl ((hr3.set 0 _).set 1 _) rfl ⟨rfl, ?_⟩
  exact (Below.setCell he (p := ⟨w.heap.size, 0, none⟩) (by show _ ≤ _; simp) _).setCell (p := ⟨w.heap.size, 1, none⟩) (by show _ ≤ _; simp) _

theorem R32.set {w : World} {n : Nat} {v : Value} (h : R32 n v w) {p : Addr} {u old : Value} (ho : w.cell? p = some old) (hne : ∀ z, old ≠ .int .u32 z) : R32 n v (w.setCell p u) := by
  obtain ⟨A, c, rfl, hc, hh⟩ := h
  refine ⟨A, c, rfl, hc, fun hne' => ?_⟩
  obtain ⟨g, off, rfl, hg, hcell⟩ := hh hne'
  refine ⟨g, off, rfl, by simpa using hg, fun i hi => ?_⟩
  rw [World.cell?_setCell_other w _ _ _ (fun e => ?_)]
  · exact hcell i hi
  · have h1 := hcell i hi
    rw [← e, ho] at h1
    injection h1 with h1
    exact hne _ h1

theorem beN_take (l : List UInt8) (n : Nat) : bl (beN (l.take n)) ≤ 8 * n := by
  refine bl_le (Nat.lt_of_lt_of_le (beN_lt _) (Nat.pow_le_pow_right (by omega) ?_))
  have : (l.take n).length ≤ n := by simp; omega
  omega
end Go.Proofs.YtiloialbglfplaaGreatDoor

namespace Go.Proofs.YtiloialbglfplaaGreatDoor
open Go.RowKit

end Go.Proofs.YtiloialbglfplaaGreatDoor

namespace Go.Proofs.YtiloialbglfplaaGreatDoor
open Go.RowKit

theorem small_val {n : Nat} (h : n < B64) : (.agg #[.int .u64 (lo (n) : Nat), .string (hi (n))] : Value) = .agg #[.int .u64 (n : Nat), .string ⟨#[]⟩] := by rw [lo_small h, hi_small h]

end Go.Proofs.YtiloialbglfplaaGreatDoor

namespace Go.Proofs.YtiloialbglfplaaGreatDoor
open Go.RowKit

/-- A number of at most k bits. -/
def Sm (k n : Nat) : Prop := bl n ≤ k
theorem Sm.le {j k n : Nat} (h : Sm j n) (hk : j ≤ k) : Sm k n := Nat.le_trans h hk
theorem Sm.add {j k a b : Nat} (ha : Sm j a) (hb : Sm k b) : Sm (max j k + 1) (a + b) := by
  have := bl_add a b
  unfold Sm at *
  omega
theorem Sm.mul {j k a b : Nat} (ha : Sm j a) (hb : Sm k b) : Sm (j + k) (a * b) := by
  have := bl_mul a b
  unfold Sm at *
  omega
theorem Sm.mono {k a b : Nat} (hb : Sm k b) (h : a ≤ b) : Sm k a := Nat.le_trans (bl_mono h) hb
theorem Sm.div {k a : Nat} (ha : Sm k a) (b : Nat) : Sm k (a / b) := ha.mono (Nat.div_le_self _ _)
theorem Sm.mod {k a : Nat} (ha : Sm k a) (b : Nat) : Sm k (a % b) := ha.mono (Nat.mod_le _ _)
theorem Sm.sub {k a : Nat} (ha : Sm k a) (b : Nat) : Sm k (a - b) := ha.mono (Nat.sub_le _ _)
theorem Sm.take (l : List UInt8) : Sm 384 (beN (l.take 48)) := beN_take l 48
theorem Sm.zero (k : Nat) : Sm k 0 := by unfold Sm; rw [bl_zero]; omega
theorem Sm.one : Sm 1 1 := bl_le (by omega)

theorem cadd {j k a b : Nat} (ha : Sm j a) (hb : Sm k b) (W : World) (h : max j k ≤ 549755813888 := by decide) :
    Calls Tryz.prog 146 #[.agg #[.int .u64 (lo (a) : Nat), .string (hi (a))], .agg #[.int .u64 (lo (b) : Nat), .string (hi (b))]] W (Ret (.agg #[.int .u64 (lo (a + b) : Nat), .string (hi (a + b))]) W) := add_any a b (by unfold Sm at ha; omega) (by unfold Sm at hb; omega) W
theorem cmul {j k a b : Nat} (ha : Sm j a) (hb : Sm k b) (W : World) (h : max j k ≤ 274877906944 := by decide) :
    Calls Tryz.prog 89 #[.agg #[.int .u64 (lo (a) : Nat), .string (hi (a))], .agg #[.int .u64 (lo (b) : Nat), .string (hi (b))]] W (Ret (.agg #[.int .u64 (lo (a * b) : Nat), .string (hi (a * b))]) W) := mul_any a b (by unfold Sm at ha; omega) (by unfold Sm at hb; omega) W
theorem ccmp {j k a b : Nat} (ha : Sm j a) (hb : Sm k b) (W : World) (h : max j k ≤ 549755813888 := by decide) :
    Calls Tryz.prog 134 #[.agg #[.int .u64 (lo (a) : Nat), .string (hi (a))], .agg #[.int .u64 (lo (b) : Nat), .string (hi (b))]] W (Ret (.int .i64 (cmpN a b)) W) := cmp_any a b (by unfold Sm at ha; omega) (by unfold Sm at hb; omega) W
theorem ccmp_lt {j k a b : Nat} (ha : Sm j a) (hb : Sm k b) (e : a < b) (W : World) (h : max j k ≤ 549755813888 := by decide) :
    Calls Tryz.prog 134 #[.agg #[.int .u64 (lo (a) : Nat), .string (hi (a))], .agg #[.int .u64 (lo (b) : Nat), .string (hi (b))]] W (Ret (.int .i64 (-1)) W) := by
  have h := ccmp ha hb W h
  rw [cmpN_lt e] at h
  exact h
theorem csub {j k a b : Nat} (ha : Sm j a) (hb : Sm k b) (e : b ≤ a) (W : World) (h : max j k ≤ 549755813888 := by decide) :
    Calls Tryz.prog 147 #[.agg #[.int .u64 (lo (a) : Nat), .string (hi (a))], .agg #[.int .u64 (lo (b) : Nat), .string (hi (b))]] W (Ret (.tuple #[.agg #[.int .u64 (lo (a - b) : Nat), .string (hi (a - b))], .bool true]) W) := sub_ge a b (by unfold Sm at ha; omega) (by unfold Sm at hb; omega) e W
theorem csub_no {j k a b : Nat} (ha : Sm j a) (hb : Sm k b) (e : a < b) (W : World) (h : max j k ≤ 549755813888 := by decide) :
    Calls Tryz.prog 147 #[.agg #[.int .u64 (lo (a) : Nat), .string (hi (a))], .agg #[.int .u64 (lo (b) : Nat), .string (hi (b))]] W (Ret (.tuple #[.agg #[.int .u64 (lo (0) : Nat), .string (hi (0))], .bool false]) W) := sub_lt a b (by unfold Sm at ha; omega) (by unfold Sm at hb; omega) e W
theorem cbits {k a : Nat} (ha : Sm k a) (W : World) (h : k ≤ 1099511627776 := by decide) :
    Calls Tryz.prog 135 #[.agg #[.int .u64 (lo (a) : Nat), .string (hi (a))]] W (Ret (.int .i64 (bl a : Nat)) W) := bits_any a (by unfold Sm at ha; omega) W

/-- A new box of a nat.Nat. -/
def Box0 (v : Value) (w : World) : Prop := ∃ g, v = .pointer (some ⟨g, 0, none⟩) ∧ Blk w g 30 [.int .u64 0, .string ⟨#[]⟩]
theorem Box0.ext {v : Value} {w w' : World} (h : Box0 v w) (e : Ext w w') : Box0 v w' := by
  obtain ⟨g, h1, h2⟩ := h
  exact ⟨g, h1, h2.ext e⟩
/-- .. made since B. -/
def Box1 (B : Nat) (v : Value) (w : World) : Prop := ∃ g, B ≤ g ∧ v = .pointer (some ⟨g, 0, none⟩) ∧ Blk w g 30 [.int .u64 0, .string ⟨#[]⟩]
theorem Box1.ext {B : Nat} {v : Value} {w w' : World} (h : Box1 B v w) (e : Ext w w') : Box1 B v w' := by
  obtain ⟨g, h0, h1, h2⟩ := h
  exact ⟨g, h0, h1, h2.ext e⟩
theorem Box1.new {B : Nat} (w : World) (h : B ≤ w.heap.size) : Box1 B (.pointer (some ⟨w.heap.size, 0, none⟩)) (w.alloc (.cells #[.int .u64 0, .string ⟨#[]⟩] 30)) :=
  ⟨_, h, rfl, Blk.new w _ _⟩
end Go.Proofs.YtiloialbglfplaaGreatDoor
