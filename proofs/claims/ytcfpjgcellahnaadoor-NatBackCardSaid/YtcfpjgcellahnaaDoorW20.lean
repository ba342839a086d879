/- Walks: guessWord. -/
import Derived.Test.YtcfpjgcellahnaaDoorW12
namespace Go.Proofs.YtcfpjgcellahnaaDoor
open Go.RowKit

/-- The guess: it is the only good one. -/
def gQ (U u v1 v0 : Nat) : Nat := min ((U * B64 + u) / (v1 * B64 + v0)) (B64 - 1)
theorem min_pred {B g q : Nat} (h1 : g < B) (h4 : g ≤ q) (h3 : g = B - 1 ∨ q < g + 1) : g = min q (B - 1) := by omega
theorem min_pred' {B q : Nat} (hB : 0 < B) : min q (B - 1) < B ∧ min q (B - 1) ≤ q ∧ (min q (B - 1) = B - 1 ∨ q < min q (B - 1) + 1) := by omega
theorem gQ_pos {v1 v0 : Nat} (hv : 0 < v1) : 0 < v1 * B64 + v0 := by
  have : 0 < v1 * B64 := Nat.mul_pos hv (by unfold B64; omega)
  exact Nat.lt_of_lt_of_le this (Nat.le_add_right _ _)
theorem good_gQ {U u v1 v0 g : Nat} (hv : 0 < v1) (h : Good U u v1 v0 g) : g = gQ U u v1 v0 := by
  obtain ⟨h1, h2, h3⟩ := h
  have hp := gQ_pos (v0 := v0) hv
  exact min_pred h1 ((Nat.le_div_iff_mul_le hp).2 h2) (h3.imp id (fun h3 => (Nat.div_lt_iff_lt_mul hp).2 h3))
theorem gQ_good {U u v1 v0 : Nat} (hv : 0 < v1) : Good U u v1 v0 (gQ U u v1 v0) := by
  have hp := gQ_pos (v0 := v0) hv
  obtain ⟨h1, h2, h3⟩ := min_pred' (B := B64) (q := (U * B64 + u) / (v1 * B64 + v0)) (by unfold B64; omega)
  exact ⟨h1, (Nat.le_div_iff_mul_le hp).1 h2, h3.imp id (fun h3 => (Nat.div_lt_iff_lt_mul hp).1 h3)⟩

set_option maxHeartbeats 4000000 in
theorem guessWord_any (u2 u1 u0 v1 v0 : Nat) (h2 : u2 ≤ v1) (hu1 : u1 < B64) (hu0 : u0 < B64) (hv1 : v1 < B64) (hv0 : v0 < B64) (hv : 0 < v1) (w : World) :
    Calls Tryd.prog 112 #[.int .u64 u2, .int .u64 u1, .int .u64 u0, .int .u64 v1, .int .u64 v0] w fun e w' => e = .returned (.int .u64 (gQ (u2 * B64 + u1) u0 v1 v0 : Nat)) ∧ ∃ n, w' = w.drewN n := by
  have HM : Hid (∀ g : Nat, g < B64 → ∀ W, Calls Tryd.prog 94 #[.int .u64 g, .int .u64 v0] W fun e w' => e = .returned (.tuple #[.int .u64 (muH g v0 : Nat), .int .u64 (muL g v0 : Nat)]) ∧ W = w') := Lib.hid (fun g hg W => mul64_any g v0 hg hv0 W)
  have HA : Hid (∀ (r : Nat) W, (callFunc 76 #[.int .u64 r, .int .u64 v1, .int .u64 0]).run Tryd.prog W = .ok (.value (.tuple #[.int .u64 (adS r v1 0 : Nat), .int .u64 (adC r v1 0 : Nat)])) W) := Lib.hid (fun r W => add64_0 r v1 W)
  have HU0 := Lib.hid hu0
  have HV1 := Lib.hid hv1
  have HV0 := Lib.hid hv0
  have HV := Lib.hid hv
  clear hv
  by_cases he : u2 = v1
  case' pos =>
    have hst : Gw (u2 * B64 + u1) u0 v1 v0 18446744073709551615 (adS u1 v1 0) (adC u1 v1 0) := by rw [he]; exact Gw.same (by have := ad_eq u1 v1 0; omega) (adS_lt _ _ _) (adC_le hu1 hv1 (by omega))
    have hadd := HA.out u1
    generalize adS u1 v1 0 = r0 at *
    generalize adC u1 v1 0 = o0 at *
    have HST := Lib.hid hst
    have HX : Hid (∃ n, w = w.drewN n) := Lib.hid ⟨0, rfl⟩
    clear hst hu1 hu0 hv1 hv0 h2
    have hb : ((u2 : Int) == (v1 : Int)) = true := by rw [he]; simp
    generalize u2 * B64 + u1 = U at *
    clear he
    go_enter Tryd.func112, Tryd.ntmps112
    go_wp2
    clear hadd hb
  case' neg =>
    have hlt : u2 < v1 := by omega
    have HD := Lib.hid (fun W => div64_any u2 u1 v1 hlt hv1 hu1 W)
    have hst : Gw (u2 * B64 + u1) u0 v1 v0 ((u2 * B64 + u1) / v1) ((u2 * B64 + u1) % v1) 0 := Gw.less hlt hu1 hu0 hv1
    have HST := Lib.hid hst
    have hb : ((u2 : Int) == (v1 : Int)) = false := beq_eq_false_iff_ne.2 (by omega)
    clear hst hu1 hu0 hv1 hv0 h2 hlt he
    generalize (u2 * B64 + u1) / v1 = g0 at *
    generalize (u2 * B64 + u1) % v1 = r0 at *
    generalize u2 * B64 + u1 = U at *
    go_enter Tryd.func112, Tryd.ntmps112
    go_wp2_with fail
    refine (HD.out _).mono ?_
    rintro e w1 ⟨rfl, n1, hw1⟩
    have HX : Hid (∃ n, w1 = w.drewN n) := Lib.hid ⟨n1, hw1⟩
    clear hw1
    go_wp2
    clear hb HD
  all_goals
    go_loop [11, 12, 13] (fun a b c => ∃ g r o : Nat, a = .int .u64 g ∧ b = .int .u64 r ∧ c = .int .u64 o ∧ Hid (Gw U u0 v1 v0 g r o)) (fun a _ _ => (intOf a).toNat)
    case atStart => first | exact ⟨18446744073709551615, r0, o0, rfl, rfl, rfl, HST⟩ | exact ⟨g0, r0, 0, rfl, rfl, rfl, HST⟩
    case round =>
      obtain ⟨g, r, o, rfl, rfl, rfl, hG⟩ := hrel
      have ho := hG.out.o1
      by_cases ho1 : o = 1
      · subst ho1
        have hgood := Lib.hid (hG.out.over HV0.out)
        go_wp2
        go_ret
        exact ⟨by rw [← good_gQ (HV.out) hgood.out]; rfl, HX.out⟩
      · obtain rfl : o = 0 := by omega
        have hm := HM.out g hG.out.glt
        have ht := guess_test (g := g) (v0 := v0) (r := r) (u := u0) HU0.out
        generalize muH g v0 = h at *
        generalize muL g v0 = l at *
        have HMM := Lib.hid hm
        clear hm ho ho1
        by_cases hgood : g * v0 ≤ r * B64 + u0
        · have HG2 := Lib.hid (hG.out.done hgood)
          rcases ht.2 hgood with h1 | ⟨h1, h3⟩
          · have i1 : (h : Int) < r := by omega
            clear ht hgood h1
            go_wp2_with (go_at_call 94; refine (HMM.out _).mono ?_; rintro e w' ⟨rfl, rfl⟩)
            go_ret
            exact ⟨by rw [← good_gQ (HV.out) HG2.out]; rfl, HX.out⟩
          · subst h1
            have i1 : (l : Int) ≤ u0 := by omega
            clear ht hgood h3
            go_wp2_with (go_at_call 94; refine (HMM.out _).mono ?_; rintro e w' ⟨rfl, rfl⟩)
            go_ret
            exact ⟨by rw [← good_gQ (HV.out) HG2.out]; rfl, HX.out⟩
        · have hnot : ¬ (h < r ∨ (h = r ∧ l ≤ u0)) := fun x => hgood (ht.1 x)
          obtain ⟨hg1, hN⟩ := hG.out.next (s := adS r v1 0) (c := adC r v1 0) (by omega) (by have := ad_eq r v1 0; omega) (adS_lt _ _ _) (adC_le hG.out.rlt HV1.out (by omega))
          have hadd := HA.out r
          have HN := Lib.hid hN
          have hgi : (1 : Int) ≤ g := by omega
          have hgu : (g : Int) ≤ 18446744073709551615 := by have := hG.out.glt; unfold B64 at this; omega
          generalize adS r v1 0 = s at *
          generalize adC r v1 0 = c at *
          have hcase : (r : Int) < h ∨ ((h : Int) = r ∧ (u0 : Int) < l) := by omega
          clear hnot ht hgood hg1 hN
          rcases hcase with i1 | ⟨i0, i1⟩
          case' inl =>
            have j1 : ((h : Int) == (r : Int)) = false := beq_eq_false_iff_ne.2 (by omega)
            have j2 : decide ((h : Int) < (r : Int)) = false := decide_eq_false (by omega)
          case' inr =>
            obtain rfl : h = r := by omega
            have j2 : decide ((l : Int) ≤ (u0 : Int)) = false := decide_eq_false (by omega)
            clear i0
          all_goals
            go_wp2_with (go_at_call 94; refine (HMM.out _).mono ?_; rintro e w' ⟨rfl, rfl⟩)
            go_round
            case rel => exact ⟨g - 1, s, c, by congr 1; omega, rfl, rfl, HN⟩
            case measure => simp [intOf]; omega
end Go.Proofs.YtcfpjgcellahnaaDoor
