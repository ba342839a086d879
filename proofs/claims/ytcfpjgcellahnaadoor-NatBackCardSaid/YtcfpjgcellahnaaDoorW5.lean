/- Walks: Add, Sub. -/
import Derived.Test.YtcfpjgcellahnaaDoorW4
import Derived.Deep.RegionHeld3
namespace Go.Proofs.YtcfpjgcellahnaaDoor
open Go.RowKit

theorem limbs_len (n : Nat) (h : bl n ≤ 549755813888) : (limbs B64 n).length ≤ 8589934593 := by
  have := limbs_bl n; omega

theorem own_of_blk {w : World} {base g : Nat} {xs : List Nat} (h : Blk w g 22 (U xs)) (hg : base ≤ g) (hl : xs.length ≤ maxLen) :
    w.ownsRow base 22 1 (.slice (some ⟨g, 0, none⟩) xs.length xs.length) xs.length (U xs) :=
  ⟨by rw [U_length, Nat.mul_one], .inr ⟨g, xs.length, _, rfl, hg, h, Nat.le_refl _, hl, by simp [U], by rw [List.take_of_length_le (by simp [U])]⟩⟩

theorem fromWords_own {base : Nat} {xs : List Nat} {v : Value} (w : World) (h : w.ownsRow base 22 1 v xs.length (U xs)) (hl : xs.length ≤ 10000000000) (hd : Dig B64 xs) :
    Calls Tryd.prog 77 #[v] w (Ret (.agg #[.int .u64 (lo (val B64 xs) : Nat), .string (hi (val B64 xs))]) w) := by
  rcases h.2 with ⟨rfl, h0⟩ | ⟨g, cap, cur, rfl, _, hh, hnc, _, hcs, htake⟩
  · rw [List.eq_nil_of_length_eq_zero h0]; exact fromWords_nil w
  · refine fromWords_any g 0 cap xs w hnc hl hd (fun i hi => ?_)
    rw [Nat.zero_add, cell_of_row w g i cur _ (0, 0) hh]
    have h1 := getD_U xs i hi
    rw [← htake, List.getElem?_take_of_lt (by omega)] at h1
    simpa using h1

theorem fresh_form {base : Nat} {xs : List Nat} {v : Value} {w : World} (h : Fresh base xs v w) :
    ∃ A c, v = .slice A xs.length c ∧ (xs ≠ [] → ∃ g, base ≤ g ∧ c = xs.length ∧ A = some ⟨g, 0, none⟩ ∧ Blk w g 22 (U xs)) := by
  rcases h with ⟨rfl, rfl⟩ | ⟨g, h1, rfl, h2⟩
  · exact ⟨none, 0, rfl, fun h => absurd rfl h⟩
  · exact ⟨_, _, rfl, fun _ => ⟨g, h1, rfl, rfl, h2⟩⟩

theorem Ext.undrew {a b : World} (h : Ext a.drew b) : Ext a b := ⟨h.os, h.tape, h.output, h.size, h.block⟩

/-- The longer list and the shorter one, as they lie when the loop of Add or Sub begins. -/
structure Pair (w : World) (B gx : Nat) (X Y : List Nat) (A : Option Addr) : Prop where
  blk : Blk w gx 22 (U X)
  base : B ≤ gx
  le : Y.length ≤ X.length
  lx : X.length ≤ 8589934593
  dx : Dig B64 X
  dy : Dig B64 Y
  other : Y ≠ [] → ∃ gy, A = some ⟨gy, 0, none⟩ ∧ gy ≠ gx ∧ Blk w gy 22 (U Y)

theorem getD_take_drop {L X : List Nat} {k : Nat} (h : L.drop k = X.drop k) (hk : k < X.length) (hl : L.length = X.length) : L.getD k 0 = X.getD k 0 := by
  rw [getD_lt _ _ (by omega), getD_lt _ _ hk]
  have e := congrArg (fun l => l[0]?) h
  simp only [List.getElem?_drop, Nat.add_zero] at e
  rw [List.getElem?_eq_getElem (by omega), List.getElem?_eq_getElem hk] at e
  injection e

set_option maxHeartbeats 4000000 in
theorem add_big (a b : Nat) (ha : bl a ≤ 549755813888) (hb : bl b ≤ 549755813888) (h : B64 ≤ a ∨ (a < B64 ∧ B64 ≤ b)) (w : World) :
    Calls Tryd.prog 20 #[.agg #[.int .u64 (lo a : Nat), .string (hi a)], .agg #[.int .u64 (lo b : Nat), .string (hi b)]] w (Ret (.agg #[.int .u64 (lo (a + b) : Nat), .string (hi (a + b))]) w) := by
  have hg : (hi a).toList.isEmpty = false ∨ ((hi a).toList.isEmpty = true ∧ (hi b).toList.isEmpty = false) := by
    rcases h with h | ⟨h0, h⟩
    · exact .inl (hi_big h)
    · exact .inr ⟨by rw [hi_small h0, Lib.toList_data]; rfl, hi_big h⟩
  have HA : Hid (∀ W, Calls Tryd.prog 78 #[.agg #[.int .u64 (lo a : Nat), .string (hi a)]] W (RetS (Fresh W.heap.size (limbs B64 a)) W)) := Lib.hid (fun W => words_any a ha W)
  have HB : Hid (∀ W, Calls Tryd.prog 78 #[.agg #[.int .u64 (lo b : Nat), .string (hi b)]] W (RetS (Fresh W.heap.size (limbs B64 b)) W)) := Lib.hid (fun W => words_any b hb W)
  generalize hsa : hi a = sa at *
  generalize hsb : hi b = sb at *
  generalize hla : lo a = la at *
  generalize hlb : lo b = lb at *
  clear hsa hsb hla hlb
  rcases hg with h1 | ⟨h1, h1'⟩
  all_goals
    go_enter Tryd.func20, Tryd.ntmps20
    go_wp2
    have hB1 : Blk (((w.alloc (.cells #[.int .u64 la, .string sa] 24)).alloc (.cells #[.int .u64 lb, .string sb] 24)).alloc (.cells #[.int .u64 0, .string ⟨#[]⟩] 24)) w.heap.size 24 [.int .u64 la, .string sa] := ((Blk.new w _ _).alloc _).alloc _
    have hB2 : Blk (((w.alloc (.cells #[.int .u64 la, .string sa] 24)).alloc (.cells #[.int .u64 lb, .string sb] 24)).alloc (.cells #[.int .u64 0, .string ⟨#[]⟩] 24)) (w.heap.size + 1) 24 [.int .u64 lb, .string sb] := by
      have h := (Blk.new (w.alloc (.cells #[.int .u64 la, .string sa] 24)) 24 [.int .u64 lb, .string sb]).alloc (.cells #[.int .u64 0, .string ⟨#[]⟩] 24)
      rw [World.size_alloc] at h
      exact h
    have hB3 : Blk (((w.alloc (.cells #[.int .u64 la, .string sa] 24)).alloc (.cells #[.int .u64 lb, .string sb] 24)).alloc (.cells #[.int .u64 0, .string ⟨#[]⟩] 24)) (w.heap.size + 1 + 1) 24 [.int .u64 0, .string ⟨#[]⟩] := by
      have h := Blk.new ((w.alloc (.cells #[.int .u64 la, .string sa] 24)).alloc (.cells #[.int .u64 lb, .string sb] 24)) 24 [.int .u64 0, .string ⟨#[]⟩]
      rw [World.size_alloc, World.size_alloc] at h
      exact h
    have hEx : Ext w (((w.alloc (.cells #[.int .u64 la, .string sa] 24)).alloc (.cells #[.int .u64 lb, .string sb] 24)).alloc (.cells #[.int .u64 0, .string ⟨#[]⟩] 24)) := (((Ext.refl w).alloc _).alloc _).alloc _
    generalize ((w.alloc (.cells #[.int .u64 la, .string sa] 24)).alloc (.cells #[.int .u64 lb, .string sb] 24)).alloc (.cells #[.int .u64 0, .string ⟨#[]⟩] 24) = W at *
    have hc0 : W.cell? ⟨w.heap.size, 0, none⟩ = some (.int .u64 la) := hB1.cell 0
    have hc1 : W.cell? ⟨w.heap.size, 1, none⟩ = some (.string sa) := hB1.cell 1
    have hd0 : W.cell? ⟨w.heap.size + 1, 0, none⟩ = some (.int .u64 lb) := hB2.cell 0
    have hd1 : W.cell? ⟨w.heap.size + 1, 1, none⟩ = some (.string sb) := hB2.cell 1
    go_region_held3 (fun w' => w'.cell? ⟨w.heap.size, 0, none⟩ = some (.int .u64 la) ∧ w'.cell? ⟨w.heap.size, 1, none⟩ = some (.string sa) ∧ w'.cell? ⟨w.heap.size + 1, 0, none⟩ = some (.int .u64 lb) ∧ w'.cell? ⟨w.heap.size + 1, 1, none⟩ = some (.string sb))
      (first | exact ⟨hc0, hc1, hd0, hd1⟩ | exact ⟨he1.keep hc0, he1.keep hc1, he1.keep hd0, he1.keep hd1⟩ | exact ⟨(he1.trans he2).keep hc0, (he1.trans he2).keep hc1, (he1.trans he2).keep hd0, (he1.trans he2).keep hd1⟩)
      (first | (go_at_call_of 78 (Value.string sa); refine (HA.out _).mono ?_; rintro e w1 ⟨v1, rfl, hf1, he1⟩) | (go_at_call_of 78 (Value.string sb); refine (HB.out _).mono ?_; rintro e w2 ⟨v2, rfl, hf2, he2⟩))
    obtain ⟨A1, c1, rfl, hv1⟩ := fresh_form hf1
    obtain ⟨A2, c2, rfl, hv2⟩ := fresh_form hf2
    have hla := limbs_len a ha
    have hlb := limbs_len b hb
    have hna : limbs B64 a ≠ [] ∨ limbs B64 b ≠ [] := by
      rcases h with h | ⟨_, h⟩
      · exact .inl fun e => by have := (limbs_eq_nil B64_two).1 e; unfold B64 at h; omega
      · exact .inr fun e => by have := (limbs_eq_nil B64_two).1 e; unfold B64 at h; omega
    have hRB : Blk w2 (w.heap.size + 1 + 1) 24 [.int .u64 0, .string ⟨#[]⟩] := hB3.ext (he1.undrew.trans he2)
    have hE2 : Ext w w2 := hEx.trans (he1.undrew.trans he2)
    have hsz : w.heap.size + 1 + 1 < W.heap.size := hB3.lt
    have hv1' : limbs B64 a ≠ [] → ∃ g1, A1 = some ⟨g1, 0, none⟩ ∧ c1 = (limbs B64 a).length ∧ g1 < w1.heap.size ∧ w.heap.size + 1 + 1 < g1 ∧ Blk w2 g1 22 (U (limbs B64 a)) := fun hne => by
      obtain ⟨g1, hg1, hc, rfl, hk1⟩ := hv1 hne
      exact ⟨g1, rfl, hc, hk1.lt, Nat.lt_of_lt_of_le hsz hg1, hk1.ext he2⟩
    have hv2' : limbs B64 b ≠ [] → ∃ g2, A2 = some ⟨g2, 0, none⟩ ∧ c2 = (limbs B64 b).length ∧ w1.heap.size ≤ g2 ∧ w.heap.size + 1 + 1 < g2 ∧ Blk w2 g2 22 (U (limbs B64 b)) := fun hne => by
      obtain ⟨g2, hg2, hc, rfl, hk2⟩ := hv2 hne
      have hs1 : W.heap.size ≤ w1.heap.size := he1.size
      exact ⟨g2, rfl, hc, hg2, by omega, hk2⟩
    have vab : val B64 (limbs B64 a) + val B64 (limbs B64 b) = a + b := by rw [val_limbs B64_two, val_limbs B64_two]
    have da := limbs_dig B64_two a
    have db := limbs_dig B64_two b
    clear hf1 hf2 hv2 he1 he2 hB1 hB2 hB3 hEx hc0 hc1 hd0 hd1 HA HB ha hb h hv1
    generalize limbs B64 a = P at *
    generalize limbs B64 b = Q at *
    generalize a + b = n at *
    have hpr : (¬ P.length < Q.length → ∃ g1, A1 = some ⟨g1, 0, none⟩ ∧ c1 = P.length ∧ Pair w2 (w.heap.size + 1 + 1 + 1) g1 P Q A2) ∧ (P.length < Q.length → ∃ g2, A2 = some ⟨g2, 0, none⟩ ∧ c2 = Q.length ∧ Pair w2 (w.heap.size + 1 + 1 + 1) g2 Q P A1) := by
      constructor
      · intro h
        obtain ⟨g1, r1, r2, r3, r4, r5⟩ := hv1' (fun e => by
          rcases hna with h' | h'
          · exact h' e
          · apply h'; subst e; exact List.eq_nil_of_length_eq_zero (by simp at h; simp [h]))
        exact ⟨g1, r1, r2, r5, r4, by omega, hla, da, db, fun hne => by obtain ⟨g2, h1, _, h2, _, h3⟩ := hv2' hne; exact ⟨g2, h1, by omega, h3⟩⟩
      · intro h
        obtain ⟨g2, h1, h2, h3, h4, h5⟩ := hv2' (fun e => by rw [e] at h; simp at h)
        exact ⟨g2, h1, h2, h5, h4, by omega, hlb, db, da, fun hne => by obtain ⟨g1, r1, _, r3, _, r5⟩ := hv1' hne; exact ⟨g1, r1, by omega, r5⟩⟩
    clear hv1' hla hlb da db hv2' hsz hna
    by_cases hlt : P.length < Q.length
    case' pos =>
      obtain ⟨g2, rfl, rfl, hp⟩ := hpr.2 hlt
      clear hpr
      rw [Nat.add_comm (val B64 P)] at vab
      have VAB := Lib.hid vab
      clear vab
      have HP := Lib.hid hp
      have hlx := hp.lx
      have hly := hp.le
      clear hp
      go_wp2
      generalize Q = X at *
      generalize P = Y at *
      generalize g2 = gx at *
      generalize A1 = A at *
    case' neg =>
      obtain ⟨g1, rfl, rfl, hp⟩ := hpr.1 hlt
      clear hpr
      have VAB := Lib.hid vab
      clear vab
      have HP := Lib.hid hp
      have hlx := hp.lx
      have hly := hp.le
      clear hp
      go_wp2
      generalize P = X at *
      generalize Q = Y at *
      generalize g1 = gx at *
      generalize A2 = A at *
    all_goals
      clear hlt
      have HRB := Lib.hid hRB
      have HE2 := Lib.hid hE2
      clear hRB hE2
      go_loopw [9, 49] (fun c i wr => ∃ (k cc : Nat) (L : List Nat), k ≤ X.length ∧ cc ≤ 1 ∧ i = .int .i64 k ∧ c = .int .u64 cc ∧ Hid (L.length = X.length ∧ Dig B64 L ∧ L.drop k = X.drop k ∧ val B64 (L.take k) + cc * B64 ^ k = val B64 (X.take k) + val B64 (Y.take k)) ∧ Hid (Blk wr gx 22 (U L)) ∧ Hid (But gx w2 wr)) (fun _ i _ => X.length - (intOf i).toNat)
      case atStart =>
        refine ⟨0, 0, X, Nat.zero_le _, by omega, rfl, rfl, Lib.hid ⟨rfl, HP.out.dx, rfl, by simp⟩, Lib.hid HP.out.blk, Lib.hid (But.refl _ _)⟩
      case round =>
        obtain ⟨k, cc, L, hk, hcc, rfl, rfl, hL, hbk, hbut⟩ := hrel
        by_cases hkx : k < X.length
        · have hcx : wr.cell? ⟨gx, k, none⟩ = some (.int .u64 (X.getD k 0 : Nat)) := by
            rw [hbk.out.cell k, getD_U _ _ (by rw [hL.out.1]; exact hkx), getD_take_drop hL.out.2.2.1 hkx hL.out.1]
          have hfx : wr.frozen? ⟨gx, k, none⟩ = false := hbk.out.frozen k
          have hxd : X.getD k 0 < B64 := HP.out.dx.getD (by unfold B64; omega) k
          have hyd : Y.getD k 0 < B64 := HP.out.dy.getD (by unfold B64; omega) k
          have hstep : ∀ s q, s + B64 * q = X.getD k 0 + Y.getD k 0 + cc → s < B64 → (L.set k s).length = X.length ∧ Dig B64 (L.set k s) ∧ (L.set k s).drop (k + 1) = X.drop (k + 1) ∧ val B64 ((L.set k s).take (k + 1)) + q * B64 ^ (k + 1) = val B64 (X.take (k + 1)) + val B64 (Y.take (k + 1)) := by
            intro s q e hs
            obtain ⟨l1, l2, l3, l4⟩ := hL.out
            refine ⟨by simpa using l1, l2.set k hs, ?_, ?_⟩
            · rw [drop_set_succ, ← List.drop_drop, ← List.drop_drop, l3]
            · rw [val_take_set _ _ _ _ (by omega), val_take_getD B64 X, val_take_getD B64 Y, Nat.pow_succ]
              exact add_step l4 e
          have HS := Lib.hid hstep
          have hY : k < Y.length → ∃ gy, A = some ⟨gy, 0, none⟩ ∧ wr.cell? ⟨gy, k, none⟩ = some (.int .u64 (Y.getD k 0 : Nat)) := fun hky => by
            obtain ⟨gy, h1, h2, h3⟩ := HP.out.other (fun e => by rw [e] at hky; simp at hky)
            exact ⟨gy, h1, by rw [(hbut.out.blk h3 h2).cell k, getD_U _ _ hky]⟩
          have hY0 : ¬ k < Y.length → Y.getD k 0 = 0 := fun h => getD_ge _ _ (by omega)
          have HY := Lib.hid hY
          have HY0 := Lib.hid hY0
          clear hstep hY hY0
          generalize X.getD k 0 = x at *
          by_cases hky : k < Y.length
          · obtain ⟨gy, rfl, hcy⟩ := HY.out hky
            clear HY0
            generalize Y.getD k 0 = y at *
            have hadd : ∀ W, (callFunc 76 #[.int .u64 x, .int .u64 y, .int .u64 cc]).run Tryd.prog W = .ok (.value (.tuple #[.int .u64 (adS x y cc : Nat), .int .u64 (adC x y cc : Nat)])) W := fun W => add64 x y cc hcc W
            go_wp2
            go_roundw
            case rel =>
              exact ⟨k + 1, adC x y cc, L.set k (adS x y cc), by omega, adC_le hxd hyd hcc, by go_num, rfl, Lib.hid (HS.out _ _ (ad_eq x y cc) (adS_lt x y cc)), Lib.hid (by rw [← U_set]; exact hbk.out.set k _), Lib.hid (hbut.out.set k _)⟩
            case measure => simp [intOf]; omega
          · have hy0 := HY0.out hky
            rw [hy0] at HS
            clear HY HY0 hy0 hyd
            have hadd : ∀ W, (callFunc 76 #[.int .u64 x, .int .u64 0, .int .u64 cc]).run Tryd.prog W = .ok (.value (.tuple #[.int .u64 (adS x 0 cc : Nat), .int .u64 (adC x 0 cc : Nat)])) W := fun W => add64 x 0 cc hcc W
            go_wp2
            go_roundw
            case rel =>
              exact ⟨k + 1, adC x 0 cc, L.set k (adS x 0 cc), by omega, adC_le hxd (by unfold B64; omega) hcc, by go_num, rfl, Lib.hid (HS.out _ _ (ad_eq x 0 cc) (adS_lt x 0 cc)), Lib.hid (by rw [← U_set]; exact hbk.out.set k _), Lib.hid (hbut.out.set k _)⟩
            case measure => simp [intOf]; omega
        · obtain rfl : k = X.length := by omega
          obtain ⟨l1, l2, l3, l4⟩ := hL.out
          have hval : val B64 L + cc * B64 ^ X.length = val B64 X + val B64 Y := by
            rw [List.take_of_length_le (by omega), List.take_length, List.take_of_length_le hly] at l4
            exact l4
          have HV := Lib.hid hval
          clear l3 l4 hval hL
          have hr0 : Blk wr (w.heap.size + 1 + 1) 24 [.int .u64 0, .string ⟨#[]⟩] := hbut.out.blk HRB.out (by have := HP.out.base; omega)
          have hxw : Ext w wr := hbut.out.ext HE2.out (by have := HP.out.base; omega)
          by_cases hc0 : cc = 0
          · subst hc0
            have e : val B64 L = n := by have := HV.out; have := VAB.out; omega
            have hcall : Calls Tryd.prog 77 #[.slice (some ⟨gx, 0, none⟩) X.length X.length] wr (Ret (.agg #[.int .u64 (lo n : Nat), .string (hi n)]) wr) := by
              have hh := fromWords_blk gx X.length L [] wr (by rw [List.append_nil]; exact hbk.out) (by omega) (by omega) l2
              rw [e, l1] at hh
              exact hh
            have HCC := Lib.hid hcall
            clear hcall e HV l1 l2
            go_wp2_with fail
            refine (HCC.out).mono ?_
            rintro e w3 ⟨rfl, he3⟩
            have hr3 := hr0.ext he3
            have r0 : w3.cell? ⟨w.heap.size + 1 + 1, 0, none⟩ = some (.int .u64 0) := hr3.cell 0
            have r1 : w3.cell? ⟨w.heap.size + 1 + 1, 1, none⟩ = some (.string ⟨#[]⟩) := hr3.cell 1
            have f0 : w3.frozen? ⟨w.heap.size + 1 + 1, 0, none⟩ = false := hr3.frozen 0
            have f1 : w3.frozen? ⟨w.heap.size + 1 + 1, 1, none⟩ = false := hr3.frozen 1
            go_wp2
            refine ret_nat (w.heap.size + 1 + 1) _ _ rfl rfl ((hr3.set 0 _).set 1 _) rfl ⟨rfl, ?_⟩
            exact (Below.setCell (Ext.trans hxw he3) (p := ⟨w.heap.size + 1 + 1, 0, none⟩) (by show _ ≤ _; simp; omega) _).setCell (p := ⟨w.heap.size + 1 + 1, 1, none⟩) (by show _ ≤ _; simp; omega) _
          · obtain rfl : cc = 1 := by omega
            obtain ⟨i0, hi0, hz0, hz1, hz2⟩ := info_parts info64
            have hown : wr.ownsRow (w.heap.size + 1 + 1 + 1) 22 1 (.slice (some ⟨gx, 0, none⟩) X.length X.length) X.length (U L) := by
              have hh := own_of_blk hbk.out HP.out.base (by rw [l1]; unfold maxLen; omega)
              rw [l1] at hh
              exact hh
            have e : val B64 (L ++ [1]) = n := by rw [val_snoc, l1]; have := HV.out; have := VAB.out; omega
            have HE := Lib.hid e
            have HO := Lib.hid hown
            have hsz : w.heap.size + 1 + 1 < wr.heap.size := hr0.lt
            clear e hown HV
            go_wp2_with (at_builtin; refine wpList_append_own _ rfl _ _ 104 rfl (w.heap.size + 1 + 1 + 1) 22 i0 (.int .u64 0) 1 8 Tryd.underlying104 hi0 hz0 hz1 hz2 rfl (by decide) _ _ _ rfl (HO.out.alloc _) ⟨wr.heap.size, 0, none⟩ 1 1 [.int .u64 ((1 : Nat) : Int)] rfl rfl ?c1 ?c2 ?c3 ?c4 ?c5 ?_)
            case c1 =>
              intro j u hj
              match j, hj with
              | 0, hj => simp at hj; subst hj; simp [Addr.add]
            case c2 => intro u hu; simp at hu; subst hu; rfl
            case c3 => unfold maxLen; omega
            case c4 => omega
            case c5 => simp; omega
            intro v' w4 hown' hgrow _
            have hcall : Calls Tryd.prog 77 #[v'] w4 (Ret (.agg #[.int .u64 (lo n : Nat), .string (hi n)]) w4) := by
              have e2 : U L ++ [Value.int .u64 1] = U (L ++ [1]) := by simp [U]
              rw [e2] at hown'
              have hh := fromWords_own w4 (xs := L ++ [1]) (by simpa [l1] using hown') (by simp; omega) (l2.append (Dig.cons (by unfold B64; omega) (Dig.nil _)))
              rw [HE.out] at hh
              exact hh
            have hr4 : Blk w4 (w.heap.size + 1 + 1) 24 [.int .u64 0, .string ⟨#[]⟩] := by
              have := hgrow.block (w.heap.size + 1 + 1) (by simp; omega) (by intro e; simp [Value.ownBlock] at e; have := HP.out.base; omega)
              exact this.trans (hr0.alloc _)
            have hx4 : Ext w w4 := by
              have h5 : Ext w (wr.alloc (.cells #[.int .u64 ((1 : Nat) : Int)] 22)) := hxw.alloc _
              exact Below.grown h5 hgrow h5.size (fun k hk => by simp [Value.ownBlock] at hk; have := HP.out.base; omega)
            have HCC := Lib.hid hcall
            have HR4 := Lib.hid hr4
            have HX4 := Lib.hid hx4
            clear hcall hr4 hx4 hown' hgrow HO l1 l2
            go_wp2_with fail
            refine (HCC.out).mono ?_
            rintro e w3 ⟨rfl, he3⟩
            have hr3 := HR4.out.ext he3
            have r0 : w3.cell? ⟨w.heap.size + 1 + 1, 0, none⟩ = some (.int .u64 0) := hr3.cell 0
            have r1 : w3.cell? ⟨w.heap.size + 1 + 1, 1, none⟩ = some (.string ⟨#[]⟩) := hr3.cell 1
            have f0 : w3.frozen? ⟨w.heap.size + 1 + 1, 0, none⟩ = false := hr3.frozen 0
            have f1 : w3.frozen? ⟨w.heap.size + 1 + 1, 1, none⟩ = false := hr3.frozen 1
            go_wp2
            refine ret_nat (w.heap.size + 1 + 1) _ _ rfl rfl ((hr3.set 0 _).set 1 _) rfl ⟨rfl, ?_⟩
            exact (Below.setCell (Ext.trans HX4.out he3) (p := ⟨w.heap.size + 1 + 1, 0, none⟩) (by show _ ≤ _; simp; omega) _).setCell (p := ⟨w.heap.size + 1 + 1, 1, none⟩) (by show _ ≤ _; simp; omega) _

end Go.Proofs.YtcfpjgcellahnaaDoor
