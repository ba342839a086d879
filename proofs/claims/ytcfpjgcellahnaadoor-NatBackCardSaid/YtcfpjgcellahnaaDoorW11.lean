/- Walks: math/bits.Div64. -/
import Derived.Test.YtcfpjgcellahnaaDoorW4
import Derived.Test.YtcfpjgcellahnaaDoorDiv
namespace Go.Proofs.YtcfpjgcellahnaaDoor
open Go.RowKit

set_option maxHeartbeats 1000000 in
set_option maxRecDepth 100000 in
theorem div64_zero (lo y : Nat) (hy : 0 < y) (hl : lo < B64) (w : World) :
    Calls Tryd.prog 110 #[.int .u64 0, .int .u64 lo, .int .u64 y] w fun e w' => e = .returned (.tuple #[.int .u64 (lo / y : Nat), .int .u64 (lo % y : Nat)]) ∧ ∃ n, w' = w.drewN n := by
  have h1 : ((y : Int) == 0) = false := beq_eq_false_iff_ne.2 (by omega)
  have h2 : 0 < y := hy
  have h3 : (1 : Int) ≤ (y : Int) := by omega
  have h4 : (lo : Int) ≤ 18446744073709551615 := by unfold B64 at hl; omega
  go_enter Tryd.func110, Tryd.ntmps110
  go_wp2
  go_quiet (fail)
  go_wp2
  go_ret2
  refine ⟨?_, nq, rfl⟩
  have e1 : IntKind.u64.wrap ((lo : Int) / (y : Int)) = ((lo / y : Nat) : Int) := by
    have h5 : lo / y ≤ lo := Nat.div_le_self _ _
    have : (lo : Int) / (y : Int) = ((lo / y : Nat) : Int) := by push_cast; rfl
    rw [this, wrapN, Nat.mod_eq_of_lt (by omega)]
  have e2 : (lo : Int) % (y : Int) = ((lo % y : Nat) : Int) := by push_cast; rfl
  rw [e1, e2]
  rfl

set_option maxHeartbeats 4000000 in
set_option maxRecDepth 100000 in
theorem div64_core (hi lo y s : Nat) (hh : 0 < hi) (hy : hi < y) (hyb : y < B64) (hl : lo < B64) (hs : s + bl y = 64) (w : World) :
    Calls Tryd.prog 110 #[.int .u64 hi, .int .u64 lo, .int .u64 y] w fun e w' => e = .returned (.tuple #[.int .u64 ((hi * B64 + lo) / y : Nat), .int .u64 ((hi * B64 + lo) % y : Nat)]) ∧ w' = w := by
  have h1 : ((y : Int) == 0) = false := beq_eq_false_iff_ne.2 (by omega)
  have h2 : ((hi : Int) == 0) = false := beq_eq_false_iff_ne.2 (by omega)
  have hlz : ∀ W, Calls Tryd.prog 111 #[.int .u64 y] W fun e w' => e = .returned (.int .i64 s) ∧ W = w' := fun W => by
    have h := Tryd.bits_LeadingZeros64 (y : Int) W (by omega) (by unfold B64 at hyb; omega)
    rw [Int.toNat_natCast, bitLen_eq hyb] at h
    refine h.mono ?_
    rintro e w' ⟨rfl, rfl⟩
    exact ⟨by congr 2; omega, rfl⟩
  have HLZ := Lib.hid hlz
  have hs64 : s < 64 := by have := bl_pos (n := y) (by omega); omega
  have hhb : hi < B64 := by omega
  have b1 : (hi : Int) ≤ 18446744073709551615 := by unfold B64 at hhb; omega
  have b2 : (lo : Int) ≤ 18446744073709551615 := by unfold B64 at hl; omega
  have b3 : (y : Int) ≤ 18446744073709551615 := by unfold B64 at hyb; omega
  obtain ⟨Y, y1, y0, U, T, u1, u0, hset⟩ := set64 hi lo y s hy hl hs
  obtain ⟨ra, rb⟩ := div64_end hset (by omega)
  have RA := Lib.hid ra
  have RB := Lib.hid rb
  have e1 := hset.e1
  have e2 := hset.e2
  have e3 := hset.e3
  have e4 := hset.e4
  have e5 := hset.e5
  have e6 := hset.e6
  have e7 := hset.e7
  have i1 : (2147483648 : Int) ≤ (y1 : Int) := by have := hset.y1lo; omega
  have i2 : (y1 : Int) < 4294967296 := by have : y1 < 4294967296 := hset.y1hi; omega
  have i3 : (y0 : Int) < 4294967296 := by have : y0 < 4294967296 := hset.y0hi; omega
  have i4 : (u1 : Int) < 4294967296 := by have : u1 < 4294967296 := hset.u1hi; omega
  have i5 : (u0 : Int) < 4294967296 := by have : u0 < 4294967296 := hset.u0hi; omega
  have hp1 : 0 < y1 := by omega
  have lp1 : Lp Y y1 y0 U u1 := ⟨hset.yy, hset.y1lo, hset.y1hi, hset.y0hi, hset.u, hset.u1hi⟩
  have hYb := lp1.lt
  have hYp : 0 < Y := by have := lp1.ult; omega
  obtain ⟨R1, hR1⟩ : ∃ R1, R1 = (U * b32 + u1) % Y := ⟨_, rfl⟩
  have hRY : R1 < Y := by rw [hR1]; exact Nat.mod_lt _ hYp
  have lp2 : Lp Y y1 y0 R1 u0 := ⟨hset.yy, hset.y1lo, hset.y1hi, hset.y0hi, hRY, hset.u0hi⟩
  obtain ⟨R0, hR0⟩ : ∃ R0, R0 = (R1 * b32 + u0) % Y := ⟨_, rfl⟩
  have hUb : (U : Int) ≤ 18446744073709551615 := by have := lp1.ult; unfold B64 at hYb; omega
  have hRb : (R1 : Int) ≤ 18446744073709551615 := by unfold B64 at hYb; omega
  have hRb0 : (R0 : Int) ≤ 18446744073709551615 := by
    have : R0 < Y := by rw [hR0]; exact Nat.mod_lt _ hYp
    unfold B64 at hYb; omega
  have hw1 : ∀ q : Nat, q = (U * b32 + u1) / Y → IntKind.u64.wrap (IntKind.u64.wrap (IntKind.u64.wrap ((U : Int) * 4294967296) + (u1 : Int)) - IntKind.u64.wrap ((q : Int) * (Y : Int))) = (R1 : Int) := fun q hq => by
    rw [hR1]; exact wrap_rest hYb hYp hq
  have hw2 : ∀ q : Nat, q = (R1 * b32 + u0) / Y → IntKind.u64.wrap (IntKind.u64.wrap (IntKind.u64.wrap ((R1 : Int) * 4294967296) + (u0 : Int)) - IntKind.u64.wrap ((q : Int) * (Y : Int))) = (R0 : Int) := fun q hq => by
    rw [hR0]; exact wrap_rest hYb hYp hq
  have hfin : ∀ Q q : Nat, Q = (U * b32 + u1) / Y → q = (R1 * b32 + u0) / Y → (Q : Int) * 4294967296 + (q : Int) = (((hi * B64 + lo) / y : Nat) : Int) ∧ (R0 : Int) / 2 ^ s = (((hi * B64 + lo) % y : Nat) : Int) := fun Q q hQ hq => by
    rw [← RA.out, ← RB.out, ← hR1, ← hR0, ← hQ, ← hq]
    refine ⟨?_, ?_⟩
    · rw [Int.natCast_add, Int.natCast_mul]; rfl
    · rw [Int.natCast_ediv, Int.natCast_pow]; rfl
  have hQb : (U * b32 + u1) / Y < b32 := digit_lt lp1.ult lp1.uhi
  have hqb0 : (R1 * b32 + u0) / Y < b32 := digit_lt lp2.ult lp2.uhi
  obtain ⟨qq, rr, pk1⟩ := pk U y1 hp1
  obtain ⟨qs, rs, pk2⟩ := pk R1 y1 hp1
  obtain ⟨st1, st2, st3⟩ := lp1.start pk1
  obtain ⟨st4, st5, st6⟩ := lp2.start pk2
  have hqq : qq ≤ 4294967297 := st2
  have LP1 := Lib.hid lp1
  have LP2 := Lib.hid lp2
  have PK2 := Lib.hid pk2
  have ST := Lib.hid (And.intro st4 (And.intro st5 st6))
  have SA := Lib.hid (And.intro st1 (And.intro st2 st3))
  have HW1 := Lib.hid hw1
  have HW2 := Lib.hid hw2
  have HFIN := Lib.hid hfin
  have HQB := Lib.hid (And.intro hQb hqb0)
  have HI := Lib.hid (And.intro i1 (And.intro i2 (And.intro i3 (And.intro i4 (And.intro i5 (And.intro hRb hRb0))))))
  have d1 := pk1.d1
  have d2 := pk1.d2
  have d3 := pk1.d3
  have d4 := pk1.d4
  clear hlz hs hset ra rb RA RB lp1 lp2 pk1 pk2 st1 st2 st3 st4 st5 st6 hw1 hw2 hfin hR1 hR0 hRY hQb hqb0 hYb hYp hhb i1 i2 i3 i4 i5 hRb hRb0
  go_enter Tryd.func110, Tryd.ntmps110
  go_wp2_with (go_at_call 111; refine (HLZ.out _).mono ?_; rintro e w' ⟨rfl, rfl⟩)
  go_loop [15, 16] (fun a b => ∃ q r : Nat, a = .int .u64 q ∧ b = .int .u64 r ∧ Hid (r < 4294967296 ∧ q ≤ 4294967297 ∧ Dg b32 y1 y0 U u1 q r)) (fun a _ => (intOf a).toNat)
  case atStart => exact ⟨qq, rr, rfl, rfl, SA⟩
  case round =>
    clear hqq d1 d2 d3 d4 SA e1 e2 e3 e4 e5 e6 e7 b1 b2 b3 h1 h2 hp1 hUb
    obtain ⟨q, r, rfl, rfl, hD⟩ := hrel
    obtain ⟨i1, i2, i3, i4, i5, hRb, hRb0⟩ := HI.out
    have n3 : (r : Int) < 4294967296 := by have := hD.out.1; omega
    by_cases hc : q < 4294967296 ∧ q * y0 ≤ b32 * r + u1
    case' pos =>
      obtain ⟨hQ, n1, n2, hb1, hb2⟩ := LP1.out.exit1 hD.out.2.2 hc
      have hw := HW1.out q hQ
      have HQ := Lib.hid hQ
      have p1 := PK2.out.d1
      have p2 := PK2.out.d2
      have p3 := PK2.out.d3
      have p4 := PK2.out.d4
      have p5 : (qs : Int) ≤ 4294967297 := by have := ST.out.2.1; omega
      clear hQ hc hD
      go_wp2_with fail
      clear n1 n2 n3 hb1 hb2 hw p1 p2 p3 p4 p5
      generalize q = Q at *
    case' neg =>
      obtain ⟨hq1, hN, hb⟩ := LP1.out.go hD.out.2.2 hc
      obtain ⟨q, rfl⟩ : ∃ k, q = k + 1 := ⟨q - 1, by omega⟩
      rw [Nat.add_sub_cancel] at hN
      have hql := hD.out.2.1
      have m1 : ((q + 1 : Nat) : Int) = (q : Int) + 1 := by omega
      rw [m1] at hb ⊢
      have HN := Lib.hid hN
      have HQL := Lib.hid hql
      have m2 : (q : Int) + 1 ≤ 4294967297 := by omega
      clear hc hD hN hql hq1 m1
      by_cases hr2 : r + y1 < 4294967296
      case' pos =>
        have k1 : decide ((4294967296 : Int) ≤ (r : Int) + (y1 : Int)) = false := decide_eq_false (by omega)
        have HR2 := Lib.hid hr2
        clear hr2
        rcases hb with hb1 | ⟨hb1, n1, n2, hb2⟩
        all_goals
          go_wp2_with fail
          go_round
          case rel => exact ⟨q, r + y1, by go_num, by go_num, Lib.hid ⟨HR2.out, by have := HQL.out; omega, HN.out⟩⟩
          case measure => simp [intOf]
      case' neg =>
        have k1 : decide ((4294967296 : Int) ≤ (r : Int) + (y1 : Int)) = true := decide_eq_true (by omega)
        have hQ : q = (U * b32 + u1) / Y := LP1.out.exit2 HN.out (by have := HQL.out; omega) (by omega)
        have hw := HW1.out q hQ
        have HQ := Lib.hid hQ
        have p1 := PK2.out.d1
        have p2 := PK2.out.d2
        have p3 := PK2.out.d3
        have p4 := PK2.out.d4
        have p5 : (qs : Int) ≤ 4294967297 := by have := ST.out.2.1; omega
        clear hQ hr2
        rcases hb with hb1 | ⟨hb1, n1, n2, hb2⟩
        all_goals
          go_wp2_with fail
          clear n3 hb1 hw p1 p2 p3 p4 p5 k1 m2 HN HQL
          generalize q = Q at *
    all_goals
      go_loop [16, 18] (fun b a => ∃ q r : Nat, a = .int .u64 q ∧ b = .int .u64 r ∧ Hid (r < 4294967296 ∧ q ≤ 4294967297 ∧ Dg b32 y1 y0 R1 u0 q r)) (fun _ a => (intOf a).toNat)
      case atStart => exact ⟨qs, rs, rfl, rfl, ST⟩
      case round =>
        obtain ⟨q, r, rfl, rfl, hD⟩ := hrel
        have n3 : (r : Int) < 4294967296 := by have := hD.out.1; omega
        have hQb : (Q : Int) < 4294967296 := by have h := HQB.out.1; rw [← HQ.out] at h; unfold b32 at h; omega
        by_cases hc : q < 4294967296 ∧ q * y0 ≤ b32 * r + u0
        · obtain ⟨hq, n1, n2, hb1, hb2⟩ := LP2.out.exit1 hD.out.2.2 hc
          have hw := HW2.out q hq
          obtain ⟨f1, f2⟩ := HFIN.out Q q HQ.out hq
          have hqb : (q : Int) < 4294967296 := by omega
          have F1 := Lib.hid f1
          have F2 := Lib.hid f2
          clear hq hc hD f1 f2
          go_wp2_with fail
          go_ret2
          refine ⟨?_, rfl⟩
          rw [F1.out, F2.out]
          rfl
        · obtain ⟨hq1, hN, hb⟩ := LP2.out.go hD.out.2.2 hc
          obtain ⟨q, rfl⟩ : ∃ k, q = k + 1 := ⟨q - 1, by omega⟩
          rw [Nat.add_sub_cancel] at hN
          have hql := hD.out.2.1
          have m1 : ((q + 1 : Nat) : Int) = (q : Int) + 1 := by omega
          rw [m1] at hb ⊢
          have HN := Lib.hid hN
          have HQL := Lib.hid hql
          have m2 : (q : Int) + 1 ≤ 4294967297 := by omega
          clear hc hD hN hql hq1 m1
          by_cases hr2 : r + y1 < 4294967296
          · have k1 : decide ((4294967296 : Int) ≤ (r : Int) + (y1 : Int)) = false := decide_eq_false (by omega)
            have HR2 := Lib.hid hr2
            clear hr2
            rcases hb with hb1 | ⟨hb1, n1, n2, hb2⟩
            all_goals
              go_wp2_with fail
              go_round
              case rel => exact ⟨q, r + y1, by go_num, by go_num, Lib.hid ⟨HR2.out, by have := HQL.out; omega, HN.out⟩⟩
              case measure => simp [intOf]
          · have k1 : decide ((4294967296 : Int) ≤ (r : Int) + (y1 : Int)) = true := decide_eq_true (by omega)
            have hq : q = (R1 * b32 + u0) / Y := LP2.out.exit2 HN.out (by have := HQL.out; omega) (by omega)
            have hw := HW2.out q hq
            obtain ⟨f1, f2⟩ := HFIN.out Q q HQ.out hq
            have hqb : (q : Int) < 4294967296 := by have h := HQB.out.2; rw [← hq] at h; unfold b32 at h; omega
            have F1 := Lib.hid f1
            have F2 := Lib.hid f2
            clear hq hr2 f1 f2
            rcases hb with hb1 | ⟨hb1, n1, n2, hb2⟩
            all_goals
              go_wp2_with fail
              go_ret2
              refine ⟨?_, rfl⟩
              rw [F1.out, F2.out]
              rfl

/-- math/bits.Div64. -/
theorem div64_any (hi lo y : Nat) (hy : hi < y) (hyb : y < B64) (hl : lo < B64) (w : World) :
    Calls Tryd.prog 110 #[.int .u64 hi, .int .u64 lo, .int .u64 y] w fun e w' => e = .returned (.tuple #[.int .u64 ((hi * B64 + lo) / y : Nat), .int .u64 ((hi * B64 + lo) % y : Nat)]) ∧ ∃ n, w' = w.drewN n := by
  by_cases h0 : hi = 0
  · subst h0
    have := div64_zero lo y hy hl w
    rw [Nat.zero_mul, Nat.zero_add]
    exact this
  · have hb : bl y ≤ 64 := bl_le hyb
    exact (div64_core hi lo y (64 - bl y) (by omega) hy hyb hl (by omega) w).mono fun _ _ h => ⟨h.1, 0, h.2⟩
end Go.Proofs.YtcfpjgcellahnaaDoor
