/- Walks: math/bits.Div64. Walks: divWord. Walks: Shift. Roots: plain mathematics. Walks: Div of small numbers, Root (given Div). Walks: known. Walks: known of law1. -/
import Derived.Lib.MinMax
import Derived.Test.YtcfpjgcellahnaaDoorM3
namespace Go.Proofs.YtcfpjgcellahnaaDoor
open Go.RowKit

set_option maxHeartbeats 1000000 in
set_option maxRecDepth 100000 in
theorem div64_zero (lo y : Nat) (hy : 0 < y) (hl : lo < B64) (w : World) :
    Calls Tryd.prog 110 #[.int .u64 0, .int .u64 lo, .int .u64 y] w fun e w' => e = .returned (.tuple #[.int .u64 (lo / y : Nat), .int .u64 (lo % y : Nat)]) ∧ ∃ n, w' = w.drewN n := by
  have h1 : ((y : Int) == 0) = false := beq_eq_false_iff_ne.2 (by omega)
  have h2 : 0 < y := hy
  have h3 : (1 : Int) ≤ (y : Int) := by omega
  have h4 : (lo : Int) ≤ 18446744073709551615 := by unfold B64 at hl; omega
  go_enter Tryd.func110, Tryd.ntmps110
  go_wp2
  go_quiet (fail)
  go_wp2
  go_ret2
  refine ⟨?_, nq, rfl⟩
  have e1 : IntKind.u64.wrap ((lo : Int) / (y : Int)) = ((lo / y : Nat) : Int) := by
    have h5 : lo / y ≤ lo := Nat.div_le_self _ _
    have : (lo : Int) / (y : Int) = ((lo / y : Nat) : Int) := by push_cast; rfl
    rw [this, wrapN, Nat.mod_eq_of_lt (by omega)]
  have e2 : (lo : Int) % (y : Int) = ((lo % y : Nat) : Int) := by push_cast; rfl
  rw [e1, e2]
  rfl

set_option maxHeartbeats 4000000 in
set_option maxRecDepth 100000 in
theorem div64_core (hi lo y s : Nat) (hh : 0 < hi) (hy : hi < y) (hyb : y < B64) (hl : lo < B64) (hs : s + bl y = 64) (w : World) :
    Calls Tryd.prog 110 #[.int .u64 hi, .int .u64 lo, .int .u64 y] w fun e w' => e = .returned (.tuple #[.int .u64 ((hi * B64 + lo) / y : Nat), .int .u64 ((hi * B64 + lo) % y : Nat)]) ∧ w' = w := by
  have h1 : ((y : Int) == 0) = false := beq_eq_false_iff_ne.2 (by omega)
  have h2 : ((hi : Int) == 0) = false := beq_eq_false_iff_ne.2 (by omega)
  have hlz : ∀ W, Calls Tryd.prog 111 #[.int .u64 y] W fun e w' => e = .returned (.int .i64 s) ∧ W = w' := fun W => by
    have h := Tryd.bits_LeadingZeros64 (y : Int) W (by omega) (by unfold B64 at hyb; omega)
    rw [Int.toNat_natCast, bitLen_eq hyb] at h
    refine h.mono ?_
    rintro e w' ⟨rfl, rfl⟩
    exact ⟨by congr 2; omega, rfl⟩
  have HLZ := Lib.hid hlz
  have hs64 : s < 64 := by have := bl_pos (n := y) (by omega); omega
  have hhb : hi < B64 := by omega
  have b1 : (hi : Int) ≤ 18446744073709551615 := by unfold B64 at hhb; omega
  have b2 : (lo : Int) ≤ 18446744073709551615 := by unfold B64 at hl; omega
  have b3 : (y : Int) ≤ 18446744073709551615 := by unfold B64 at hyb; omega
  obtain ⟨Y, y1, y0, U, T, u1, u0, hset⟩ := set64 hi lo y s hy hl hs
  obtain ⟨ra, rb⟩ := div64_end hset (by omega)
  have RA := Lib.hid ra
  have RB := Lib.hid rb
  have e1 := hset.e1
  have e2 := hset.e2
  have e3 := hset.e3
  have e4 := hset.e4
  have e5 := hset.e5
  have e6 := hset.e6
  have e7 := hset.e7
  have i1 : (2147483648 : Int) ≤ (y1 : Int) := by have := hset.y1lo; omega
  have i2 : (y1 : Int) < 4294967296 := by have : y1 < 4294967296 := hset.y1hi; omega
  have i3 : (y0 : Int) < 4294967296 := by have : y0 < 4294967296 := hset.y0hi; omega
  have i4 : (u1 : Int) < 4294967296 := by have : u1 < 4294967296 := hset.u1hi; omega
  have i5 : (u0 : Int) < 4294967296 := by have : u0 < 4294967296 := hset.u0hi; omega
  have hp1 : 0 < y1 := by omega
  have lp1 : Lp Y y1 y0 U u1 := ⟨hset.yy, hset.y1lo, hset.y1hi, hset.y0hi, hset.u, hset.u1hi⟩
  have hYb := lp1.lt
  have hYp : 0 < Y := by have := lp1.ult; omega
  obtain ⟨R1, hR1⟩ : ∃ R1, R1 = (U * b32 + u1) % Y := ⟨_, rfl⟩
  have hRY : R1 < Y := by rw [hR1]; exact Nat.mod_lt _ hYp
  have lp2 : Lp Y y1 y0 R1 u0 := ⟨hset.yy, hset.y1lo, hset.y1hi, hset.y0hi, hRY, hset.u0hi⟩
  obtain ⟨R0, hR0⟩ : ∃ R0, R0 = (R1 * b32 + u0) % Y := ⟨_, rfl⟩
  have hUb : (U : Int) ≤ 18446744073709551615 := by have := lp1.ult; unfold B64 at hYb; omega
  have hRb : (R1 : Int) ≤ 18446744073709551615 := by unfold B64 at hYb; omega
  have hRb0 : (R0 : Int) ≤ 18446744073709551615 := by
    have : R0 < Y := by rw [hR0]; exact Nat.mod_lt _ hYp
    unfold B64 at hYb; omega
  have hw1 : ∀ q : Nat, q = (U * b32 + u1) / Y → IntKind.u64.wrap (IntKind.u64.wrap (IntKind.u64.wrap ((U : Int) * 4294967296) + (u1 : Int)) - IntKind.u64.wrap ((q : Int) * (Y : Int))) = (R1 : Int) := fun q hq => by
    rw [hR1]; exact wrap_rest hYb hYp hq
  have hw2 : ∀ q : Nat, q = (R1 * b32 + u0) / Y → IntKind.u64.wrap (IntKind.u64.wrap (IntKind.u64.wrap ((R1 : Int) * 4294967296) + (u0 : Int)) - IntKind.u64.wrap ((q : Int) * (Y : Int))) = (R0 : Int) := fun q hq => by
    rw [hR0]; exact wrap_rest hYb hYp hq
  have hfin : ∀ Q q : Nat, Q = (U * b32 + u1) / Y → q = (R1 * b32 + u0) / Y → (Q : Int) * 4294967296 + (q : Int) = (((hi * B64 + lo) / y : Nat) : Int) ∧ (R0 : Int) / 2 ^ s = (((hi * B64 + lo) % y : Nat) : Int) := fun Q q hQ hq => by
    rw [← RA.out, ← RB.out, ← hR1, ← hR0, ← hQ, ← hq]
    refine ⟨?_, ?_⟩
    · rw [Int.natCast_add, Int.natCast_mul]; rfl
    · rw [Int.natCast_ediv, Int.natCast_pow]; rfl
  have hQb : (U * b32 + u1) / Y < b32 := digit_lt lp1.ult lp1.uhi
  have hqb0 : (R1 * b32 + u0) / Y < b32 := digit_lt lp2.ult lp2.uhi
  obtain ⟨qq, rr, pk1⟩ := pk U y1 hp1
  obtain ⟨qs, rs, pk2⟩ := pk R1 y1 hp1
  obtain ⟨st1, st2, st3⟩ := lp1.start pk1
  obtain ⟨st4, st5, st6⟩ := lp2.start pk2
  have hqq : qq ≤ 4294967297 := st2
  have LP1 := Lib.hid lp1
  have LP2 := Lib.hid lp2
  have PK2 := Lib.hid pk2
  have ST := Lib.hid (And.intro st4 (And.intro st5 st6))
  have SA := Lib.hid (And.intro st1 (And.intro st2 st3))
  have HW1 := Lib.hid hw1
  have HW2 := Lib.hid hw2
  have HFIN := Lib.hid hfin
  have HQB := Lib.hid (And.intro hQb hqb0)
  have HI := Lib.hid (And.intro i1 (And.intro i2 (And.intro i3 (And.intro i4 (And.intro i5 (And.intro hRb hRb0))))))
  have d1 := pk1.d1
  have d2 := pk1.d2
  have d3 := pk1.d3
  have d4 := pk1.d4
  clear hlz hs hset ra rb RA RB lp1 lp2 pk1 pk2 st1 st2 st3 st4 st5 st6 hw1 hw2 hfin hR1 hR0 hRY hQb hqb0 hYb hYp hhb i1 i2 i3 i4 i5 hRb hRb0
  go_enter Tryd.func110, Tryd.ntmps110
  go_wp2_with (go_at_call 111; refine (HLZ.out _).mono ?_; rintro e w' ⟨rfl, rfl⟩)
  go_loop [15, 16] (fun a b => ∃ q r : Nat, a = .int .u64 q ∧ b = .int .u64 r ∧ Hid (r < 4294967296 ∧ q ≤ 4294967297 ∧ Dg b32 y1 y0 U u1 q r)) (fun a _ => (intOf a).toNat)
  case atStart => exact ⟨qq, rr, rfl, rfl, SA⟩
  case round =>
    clear hqq d1 d2 d3 d4 SA e1 e2 e3 e4 e5 e6 e7 b1 b2 b3 h1 h2 hp1 hUb
    obtain ⟨q, r, rfl, rfl, hD⟩ := hrel
    obtain ⟨i1, i2, i3, i4, i5, hRb, hRb0⟩ := HI.out
    have n3 : (r : Int) < 4294967296 := by have := hD.out.1; omega
    by_cases hc : q < 4294967296 ∧ q * y0 ≤ b32 * r + u1
    case' pos =>
      obtain ⟨hQ, n1, n2, hb1, hb2⟩ := LP1.out.exit1 hD.out.2.2 hc
      have hw := HW1.out q hQ
      have HQ := Lib.hid hQ
      have p1 := PK2.out.d1
      have p2 := PK2.out.d2
      have p3 := PK2.out.d3
      have p4 := PK2.out.d4
      have p5 : (qs : Int) ≤ 4294967297 := by have := ST.out.2.1; omega
      clear hQ hc hD
      go_wp2_with fail
      clear n1 n2 n3 hb1 hb2 hw p1 p2 p3 p4 p5
      generalize q = Q at *
    case' neg =>
      obtain ⟨hq1, hN, hb⟩ := LP1.out.go hD.out.2.2 hc
      obtain ⟨q, rfl⟩ : ∃ k, q = k + 1 := ⟨q - 1, by omega⟩
      rw [Nat.add_sub_cancel] at hN
      have hql := hD.out.2.1
      have m1 : ((q + 1 : Nat) : Int) = (q : Int) + 1 := by omega
      rw [m1] at hb ⊢
      have HN := Lib.hid hN
      have HQL := Lib.hid hql
      have m2 : (q : Int) + 1 ≤ 4294967297 := by omega
      clear hc hD hN hql hq1 m1
      by_cases hr2 : r + y1 < 4294967296
      case' pos =>
        have k1 : decide ((4294967296 : Int) ≤ (r : Int) + (y1 : Int)) = false := decide_eq_false (by omega)
        have HR2 := Lib.hid hr2
        clear hr2
        rcases hb with hb1 | ⟨hb1, n1, n2, hb2⟩
        all_goals
          go_wp2_with fail
          go_round
          case rel => exact ⟨q, r + y1, by go_num, by go_num, Lib.hid ⟨HR2.out, by have := HQL.out; omega, HN.out⟩⟩
          case measure => simp [intOf]
      case' neg =>
        have k1 : decide ((4294967296 : Int) ≤ (r : Int) + (y1 : Int)) = true := decide_eq_true (by omega)
        have hQ : q = (U * b32 + u1) / Y := LP1.out.exit2 HN.out (by have := HQL.out; omega) (by omega)
        have hw := HW1.out q hQ
        have HQ := Lib.hid hQ
        have p1 := PK2.out.d1
        have p2 := PK2.out.d2
        have p3 := PK2.out.d3
        have p4 := PK2.out.d4
        have p5 : (qs : Int) ≤ 4294967297 := by have := ST.out.2.1; omega
        clear hQ hr2
        rcases hb with hb1 | ⟨hb1, n1, n2, hb2⟩
        all_goals
          go_wp2_with fail
          clear n3 hb1 hw p1 p2 p3 p4 p5 k1 m2 HN HQL
          generalize q = Q at *
    all_goals
      go_loop [16, 18] (fun b a => ∃ q r : Nat, a = .int .u64 q ∧ b = .int .u64 r ∧ Hid (r < 4294967296 ∧ q ≤ 4294967297 ∧ Dg b32 y1 y0 R1 u0 q r)) (fun _ a => (intOf a).toNat)
      case atStart => exact ⟨qs, rs, rfl, rfl, ST⟩
      case round =>
        obtain ⟨q, r, rfl, rfl, hD⟩ := hrel
        have n3 : (r : Int) < 4294967296 := by have := hD.out.1; omega
        have hQb : (Q : Int) < 4294967296 := by have h := HQB.out.1; rw [← HQ.out] at h; unfold b32 at h; omega
        by_cases hc : q < 4294967296 ∧ q * y0 ≤ b32 * r + u0
        · obtain ⟨hq, n1, n2, hb1, hb2⟩ := LP2.out.exit1 hD.out.2.2 hc
          have hw := HW2.out q hq
          obtain ⟨f1, f2⟩ := HFIN.out Q q HQ.out hq
          have hqb : (q : Int) < 4294967296 := by omega
          have F1 := Lib.hid f1
          have F2 := Lib.hid f2
          clear hq hc hD f1 f2
          go_wp2_with fail
          go_ret2
          refine ⟨?_, rfl⟩
          rw [F1.out, F2.out]
          rfl
        · obtain ⟨hq1, hN, hb⟩ := LP2.out.go hD.out.2.2 hc
          obtain ⟨q, rfl⟩ : ∃ k, q = k + 1 := ⟨q - 1, by omega⟩
          rw [Nat.add_sub_cancel] at hN
          have hql := hD.out.2.1
          have m1 : ((q + 1 : Nat) : Int) = (q : Int) + 1 := by omega
          rw [m1] at hb ⊢
          have HN := Lib.hid hN
          have HQL := Lib.hid hql
          have m2 : (q : Int) + 1 ≤ 4294967297 := by omega
          clear hc hD hN hql hq1 m1
          by_cases hr2 : r + y1 < 4294967296
          · have k1 : decide ((4294967296 : Int) ≤ (r : Int) + (y1 : Int)) = false := decide_eq_false (by omega)
            have HR2 := Lib.hid hr2
            clear hr2
            rcases hb with hb1 | ⟨hb1, n1, n2, hb2⟩
            all_goals
              go_wp2_with fail
              go_round
              case rel => exact ⟨q, r + y1, by go_num, by go_num, Lib.hid ⟨HR2.out, by have := HQL.out; omega, HN.out⟩⟩
              case measure => simp [intOf]
          · have k1 : decide ((4294967296 : Int) ≤ (r : Int) + (y1 : Int)) = true := decide_eq_true (by omega)
            have hq : q = (R1 * b32 + u0) / Y := LP2.out.exit2 HN.out (by have := HQL.out; omega) (by omega)
            have hw := HW2.out q hq
            obtain ⟨f1, f2⟩ := HFIN.out Q q HQ.out hq
            have hqb : (q : Int) < 4294967296 := by have h := HQB.out.2; rw [← hq] at h; unfold b32 at h; omega
            have F1 := Lib.hid f1
            have F2 := Lib.hid f2
            clear hq hr2 f1 f2
            rcases hb with hb1 | ⟨hb1, n1, n2, hb2⟩
            all_goals
              go_wp2_with fail
              go_ret2
              refine ⟨?_, rfl⟩
              rw [F1.out, F2.out]
              rfl

/-- math/bits.Div64. -/
theorem div64_any (hi lo y : Nat) (hy : hi < y) (hyb : y < B64) (hl : lo < B64) (w : World) :
    Calls Tryd.prog 110 #[.int .u64 hi, .int .u64 lo, .int .u64 y] w fun e w' => e = .returned (.tuple #[.int .u64 ((hi * B64 + lo) / y : Nat), .int .u64 ((hi * B64 + lo) % y : Nat)]) ∧ ∃ n, w' = w.drewN n := by
  by_cases h0 : hi = 0
  · subst h0
    have := div64_zero lo y hy hl w
    rw [Nat.zero_mul, Nat.zero_add]
    exact this
  · have hb : bl y ≤ 64 := bl_le hyb
    exact (div64_core hi lo y (64 - bl y) (by omega) hy hyb hl (by omega) w).mono fun _ _ h => ⟨h.1, 0, h.2⟩
end Go.Proofs.YtcfpjgcellahnaaDoor

namespace Go.Proofs.YtcfpjgcellahnaaDoor
open Go.RowKit

/-- What divWord comes to, of a list in block g. -/
def DivWordPost (g n d : Nat) (xs : List Nat) (w : World) (e : Ending) (w' : World) : Prop :=
  ∃ L, L.length = xs.length ∧ Dig B64 L ∧ val B64 L = val B64 xs / d ∧ e = .returned (.tuple #[.slice (some ⟨g, 0, none⟩) (limbs B64 (val B64 xs / d)).length n, .int .u64 (val B64 xs % d : Nat)]) ∧ Blk w' g 22 (U L) ∧ But g w w'

set_option maxHeartbeats 1000000 in
theorem divWord_any (g : Nat) (xs : List Nat) (d : Nat) (w : World) (hb : Blk w g 22 (U xs)) (hx : xs.length ≤ 8589934593) (hd : Dig B64 xs) (hd0 : 0 < d) (hdb : d < B64) :
    Calls Tryd.prog 83 #[.slice (some ⟨g, 0, none⟩) xs.length xs.length, .int .u64 d] w (DivWordPost g xs.length d xs w) := by
  have HB := Lib.hid hb
  clear hb
  go_enter Tryd.func83, Tryd.ntmps83
  go_wp2
  go_loopw [6, 7] (fun a b wr => ∃ (k r : Nat) (L : List Nat), k ≤ xs.length ∧ b = .int .i64 ((k : Int) - 1) ∧ a = .int .u64 r ∧ Hid (DwInv xs d k r L) ∧ Hid (Blk wr g 22 (U L)) ∧ Hid (But g w wr)) (fun _ b _ => (intOf b + 1).toNat)
  case atStart => exact ⟨xs.length, 0, xs, Nat.le_refl _, rfl, rfl, Lib.hid (DwInv.start hd hd0), HB, Lib.hid (But.refl _ _)⟩
  case round =>
    obtain ⟨k, r, L, hk, rfl, rfl, hL, hbk, hbut⟩ := hrel
    by_cases hk0 : k = 0
    · subst hk0
      obtain ⟨f1, f2⟩ := hL.out.fin
      have hll := hL.out.len
      have hdl := hL.out.dig
      have ht : Calls Tryd.prog 107 #[.slice (some ⟨g, 0, none⟩) xs.length xs.length] wr fun e w' => e = .returned (.slice (some ⟨g, 0, none⟩) (limbs B64 (val B64 xs / d)).length xs.length) ∧ wr = w' := by
        have h := trim_core g 0 xs.length L wr (by omega) (by omega) hdl (fun i hi => by rw [Nat.zero_add, hbk.out.cell i, getD_U _ _ hi])
        rw [f1, hll] at h
        exact h
      have HT := Lib.hid ht
      have F1 := Lib.hid f1
      have F2 := Lib.hid f2
      have HLL := Lib.hid hll
      clear ht f1 f2 hll
      go_wp2_with (go_at_call 107; refine (HT.out).mono ?_; rintro e w' ⟨rfl, rfl⟩)
      go_ret2
      refine ⟨L, HLL.out, hdl, F1.out, ?_, hbk.out, hbut.out⟩
      rw [← F2.out]
      rfl
    · obtain ⟨k, rfl⟩ : ∃ j, k = j + 1 := ⟨k - 1, by omega⟩
      obtain ⟨hq, hN⟩ := hL.out.step (by omega)
      have hlow := getD_take hL.out.low (Nat.lt_succ_self k)
      have hll := hL.out.len
      have hc : wr.cell? ⟨g, k, none⟩ = some (.int .u64 (xs.getD k 0 : Nat)) := by rw [hbk.out.cell k, getD_U _ _ (by omega), hlow]
      have hf : wr.frozen? ⟨g, k, none⟩ = false := hbk.out.frozen k
      have hrd := hL.out.lt
      have hxd : xs.getD k 0 < B64 := hd.getD (by unfold B64; omega) k
      have hD : ∀ W, Calls Tryd.prog 110 #[.int .u64 r, .int .u64 (xs.getD k 0 : Nat), .int .u64 d] W fun e w' => e = .returned (.tuple #[.int .u64 ((r * B64 + xs.getD k 0) / d : Nat), .int .u64 ((r * B64 + xs.getD k 0) % d : Nat)]) ∧ ∃ n, w' = W.drewN n := fun W => div64_any r (xs.getD k 0) d hrd hdb hxd W
      have HD := Lib.hid hD
      have HN := Lib.hid hN
      clear hlow hll hD hN hL hq
      generalize (r * B64 + xs.getD k 0) / d = q at *
      generalize (r * B64 + xs.getD k 0) % d = r' at *
      generalize xs.getD k 0 = x at *
      rw [show ((k + 1 : Nat) : Int) - 1 = (k : Int) from by omega]
      go_wp2_with fail
      refine (HD.out _).mono ?_
      rintro e w2 ⟨rfl, n2, rfl⟩
      go_wp2
      go_roundw
      case rel =>
        refine ⟨k, r', L.set k q, by omega, rfl, rfl, HN, ?_, ?_⟩
        · rw [← U_set]; exact Lib.hid (hbk.out.set k _)
        · exact Lib.hid ((hbut.out.set k _).trans (But.of_ext ((Ext.refl _).drewN n2)))
      case measure => simp [intOf]
end Go.Proofs.YtcfpjgcellahnaaDoor

namespace Go.Proofs.YtcfpjgcellahnaaDoor
open Go.RowKit

theorem shiftUp_mw {a l n : Nat} {v : Value} (w : World) (h : Mw a l v w) (hl : l ≤ 8589934593) (hn : n ≤ 549755813888) :
    Calls Tryd.prog 96 #[v, .int .i64 n] w (RetS (Mw (a * 2 ^ n) (l + n / 64 + 1)) w) := by
  obtain ⟨xs, base, r1, r2, r3, r4⟩ := h
  refine (shiftUp_any v xs n w r4.rd (by omega) hn r2).mono ?_
  rintro e w' ⟨v', rfl, ⟨zs, t1, t2, t3, t4⟩, hx⟩
  exact ⟨v', rfl, ⟨zs, _, by omega, t2, by rw [t3, r3], t4⟩, hx⟩
theorem shiftDown_mw {a l n : Nat} {v : Value} (w : World) (h : Mw a l v w) (hl : l ≤ 8589934593) (hn : n ≤ 549755813888) :
    Calls Tryd.prog 97 #[v, .int .i64 n] w (RetS (Mw (a / 2 ^ n) l) w) := by
  obtain ⟨xs, base, r1, r2, r3, r4⟩ := h
  refine (shiftDown_any v xs n w r4.rd (by omega) hn r2).mono ?_
  rintro e w' ⟨v', rfl, ⟨zs, t1, t2, t3, t4⟩, hx⟩
  exact ⟨v', rfl, ⟨zs, _, by omega, t2, by rw [t3, r3], t4⟩, hx⟩

/-- Two boxes: an argument and the result. -/
theorem boxes2 (w W : World) (la sa : Value) (h : (w.alloc (.cells #[la, sa] 24)).alloc (.cells #[.int .u64 0, .string ⟨#[]⟩] 24) = W) :
    Blk W w.heap.size 24 [la, sa] ∧ Blk W (w.heap.size + 1) 24 [.int .u64 0, .string ⟨#[]⟩] ∧ Ext w W := by
  subst h
  refine ⟨(Blk.new w _ [la, sa]).alloc _, ?_, ((Ext.refl w).alloc _).alloc _⟩
  have h := Blk.new (w.alloc (.cells #[la, sa] 24)) 24 [.int .u64 0, .string ⟨#[]⟩]
  rw [World.size_alloc] at h
  exact h

set_option maxHeartbeats 1000000 in
theorem shift_up (a n : Nat) (ha : bl a ≤ 549755813888) (hn : n ≤ 65536) (w : World) :
    Calls Tryd.prog 39 #[.agg #[.int .u64 (lo a : Nat), .string (hi a)], .int .i64 n] w (Ret (.agg #[.int .u64 (lo (a * 2 ^ n) : Nat), .string (hi (a * 2 ^ n))]) w) := by
  have HA := Lib.hid (fun W => words_mw a ha W)
  have HU : Hid (∀ W v, Mw a 8589934593 v W → Calls Tryd.prog 96 #[v, .int .i64 n] W (RetS (Mw (a * 2 ^ n) 9000000000) W)) := Lib.hid (fun W v h => (shiftUp_mw W h (by omega) (by omega)).mono (fun _ _ ⟨v', he, ⟨zs, b, h1, h2⟩, hx⟩ => ⟨v', he, ⟨zs, b, by omega, h2⟩, hx⟩))
  have HF : Hid (∀ W v, Mw (a * 2 ^ n) 9000000000 v W → Calls Tryd.prog 77 #[v] W (Ret (.agg #[.int .u64 (lo (a * 2 ^ n) : Nat), .string (hi (a * 2 ^ n))]) W)) := Lib.hid (fun W v h => fromWords_mw W h (by omega))
  generalize a * 2 ^ n = m at *
  generalize lo m = lr at *
  generalize hi m = sr at *
  generalize lo a = la at *
  generalize hi a = sa at *
  have m1 : min (n : Int) 65536 = n := by omega
  have m2 : max (-65536) (n : Int) = n := by omega
  have h0 : (0 : Int) ≤ n := by omega
  clear hn ha
  generalize (n : Int) = z at *
  go_enter Tryd.func39, Tryd.ntmps39
  go_wp2_with fail
  generalize hW : (w.alloc (.cells #[.int .u64 la, .string sa] 24)).alloc (.cells #[.int .u64 0, .string ⟨#[]⟩] 24) = W
  obtain ⟨_, hr, hx⟩ := boxes2 w W _ _ hW
  have HR := Lib.hid hr
  have HX := Lib.hid hx
  clear hr hx hW
  refine (HA.out _).mono ?_
  rintro e w1 ⟨v1, rfl, hv1, hx1⟩
  have HV1 := Lib.hid hv1
  clear hv1
  go_wp2_with fail
  refine (HU.out _ _ HV1.out).mono ?_
  rintro e w2 ⟨v2, rfl, hv2, hx2⟩
  have HV2 := Lib.hid hv2
  clear hv2
  go_wp2_with fail
  refine (HF.out _ _ HV2.out).mono ?_
  rintro e w3 ⟨rfl, hx3⟩
  have he : Ext w w3 := HX.out.trans (hx1.trans (hx2.trans hx3))
  have hr3 := ((HR.out.ext hx1).ext hx2).ext hx3
  have r0 : w3.cell? ⟨w.heap.size + 1, 0, none⟩ = some (.int .u64 0) := hr3.cell 0
  have r1 : w3.cell? ⟨w.heap.size + 1, 1, none⟩ = some (.string ⟨#[]⟩) := hr3.cell 1
  have f0 : w3.frozen? ⟨w.heap.size + 1, 0, none⟩ = false := hr3.frozen 0
  have f1 : w3.frozen? ⟨w.heap.size + 1, 1, none⟩ = false := hr3.frozen 1
  go_wp2
  refine ret_nat (w.heap.size + 1) _ _ rfl rfl ((hr3.set 0 _).set 1 _) rfl ⟨rfl, ?_⟩
  exact (Below.setCell he (p := ⟨w.heap.size + 1, 0, none⟩) (by show _ ≤ _; simp) _).setCell (p := ⟨w.heap.size + 1, 1, none⟩) (by show _ ≤ _; simp) _

set_option maxHeartbeats 1000000 in
theorem shift_down (a n : Nat) (ha : bl a ≤ 549755813888) (h1 : 1 ≤ n) (hn : n ≤ 65536) (w : World) :
    Calls Tryd.prog 39 #[.agg #[.int .u64 (lo a : Nat), .string (hi a)], .int .i64 (-(n : Int))] w (Ret (.agg #[.int .u64 (lo (a / 2 ^ n) : Nat), .string (hi (a / 2 ^ n))]) w) := by
  have HA := Lib.hid (fun W => words_mw a ha W)
  have HU : Hid (∀ W v, Mw a 8589934593 v W → Calls Tryd.prog 97 #[v, .int .i64 n] W (RetS (Mw (a / 2 ^ n) 9000000000) W)) := Lib.hid (fun W v h => (shiftDown_mw W h (by omega) (by omega)).mono (fun _ _ ⟨v', he, ⟨zs, b, h1, h2⟩, hx⟩ => ⟨v', he, ⟨zs, b, by omega, h2⟩, hx⟩))
  have HF : Hid (∀ W v, Mw (a / 2 ^ n) 9000000000 v W → Calls Tryd.prog 77 #[v] W (Ret (.agg #[.int .u64 (lo (a / 2 ^ n) : Nat), .string (hi (a / 2 ^ n))]) W)) := Lib.hid (fun W v h => fromWords_mw W h (by omega))
  generalize a / 2 ^ n = m at *
  generalize lo m = lr at *
  generalize hi m = sr at *
  generalize lo a = la at *
  generalize hi a = sa at *
  have m1 : min (-(n : Int)) 65536 = -n := by omega
  have m2 : max (-65536) (-(n : Int)) = -n := by omega
  have h0 : (1 : Int) ≤ n := by omega
  have h2 : (n : Int) ≤ 65536 := by omega
  clear h1
  clear hn ha
  generalize (n : Int) = z at *
  go_enter Tryd.func39, Tryd.ntmps39
  go_wp2_with fail
  generalize hW : (w.alloc (.cells #[.int .u64 la, .string sa] 24)).alloc (.cells #[.int .u64 0, .string ⟨#[]⟩] 24) = W
  obtain ⟨_, hr, hx⟩ := boxes2 w W _ _ hW
  have HR := Lib.hid hr
  have HX := Lib.hid hx
  clear hr hx hW
  refine (HA.out _).mono ?_
  rintro e w1 ⟨v1, rfl, hv1, hx1⟩
  have HV1 := Lib.hid hv1
  clear hv1
  go_wp2_with fail
  refine (HU.out _ _ HV1.out).mono ?_
  rintro e w2 ⟨v2, rfl, hv2, hx2⟩
  have HV2 := Lib.hid hv2
  clear hv2
  go_wp2_with fail
  refine (HF.out _ _ HV2.out).mono ?_
  rintro e w3 ⟨rfl, hx3⟩
  have he : Ext w w3 := HX.out.trans (hx1.trans (hx2.trans hx3))
  have hr3 := ((HR.out.ext hx1).ext hx2).ext hx3
  have r0 : w3.cell? ⟨w.heap.size + 1, 0, none⟩ = some (.int .u64 0) := hr3.cell 0
  have r1 : w3.cell? ⟨w.heap.size + 1, 1, none⟩ = some (.string ⟨#[]⟩) := hr3.cell 1
  have f0 : w3.frozen? ⟨w.heap.size + 1, 0, none⟩ = false := hr3.frozen 0
  have f1 : w3.frozen? ⟨w.heap.size + 1, 1, none⟩ = false := hr3.frozen 1
  go_wp2
  refine ret_nat (w.heap.size + 1) _ _ rfl rfl ((hr3.set 0 _).set 1 _) rfl ⟨rfl, ?_⟩
  exact (Below.setCell he (p := ⟨w.heap.size + 1, 0, none⟩) (by show _ ≤ _; simp) _).setCell (p := ⟨w.heap.size + 1, 1, none⟩) (by show _ ≤ _; simp) _
end Go.Proofs.YtcfpjgcellahnaaDoor

namespace Go.Proofs.YtcfpjgcellahnaaDoor

theorem nat_inj {x y : Nat} (h1 : lo x = lo y) (h2 : hi x = hi y) : x = y := by
  have h3 : (limbs B64 (x / B64)).flatMap le8 = (limbs B64 (y / B64)).flatMap le8 := by rw [← hi_data, ← hi_data, h2]
  have h4 : limbs B64 (x / B64) = limbs B64 (y / B64) := by
    have dx := limbs_dig B64_two (x / B64)
    have dy := limbs_dig B64_two (y / B64)
    have hl : (limbs B64 (x / B64)).length = (limbs B64 (y / B64)).length := by
      have := congrArg List.length h3
      rw [flat8_length, flat8_length] at this
      omega
    apply List.ext_getElem hl
    intro i hi hi'
    rw [← flat8_word dx hi, ← flat8_word dy hi', h3]
  have h5 : x / B64 = y / B64 := by rw [← val_limbs B64_two (x / B64), ← val_limbs B64_two (y / B64), h4]
  rw [lo_mod x, lo_mod y, h1, h5]

open Classical in
/-- The number that lies in a block. -/
noncomputable def numAt (w : World) (g : Nat) : Nat := if h : ∃ x : Nat, Blk w g 24 [.int .u64 (lo x : Nat), .string (hi x)] then Classical.choose h else 0
theorem numAt_of {w : World} {g x : Nat} (h : Blk w g 24 [.int .u64 (lo x : Nat), .string (hi x)]) : numAt w g = x := by
  have hE : ∃ x : Nat, Blk w g 24 [.int .u64 (lo x : Nat), .string (hi x)] := ⟨x, h⟩
  unfold numAt
  rw [dif_pos hE]
  have h1 := Classical.choose_spec hE
  have h2 := h1.symm.trans h
  simp at h2
  exact nat_inj (Int.ofNat_inj.1 h2.1) h2.2

/-- r is the root of a. -/
def IsRoot (a r : Nat) : Prop := r * r ≤ a ∧ a < (r + 1) * (r + 1)
theorem IsRoot.unique {a r s : Nat} (h : IsRoot a r) (k : IsRoot a s) : r = s := by
  rcases Nat.lt_trichotomy r s with h1 | h1 | h1
  · have := Nat.mul_le_mul (show r + 1 ≤ s from h1) (show r + 1 ≤ s from h1)
    have := h.2; have := k.1; omega
  · exact h1
  · have := Nat.mul_le_mul (show s + 1 ≤ r from h1) (show s + 1 ≤ r from h1)
    have := k.2; have := h.1; omega

structure RtInv (a x : Nat) : Prop where
  pos : 0 < x
  up : a < (x + 1) * (x + 1)
  top : x ≤ 2 ^ bl a
theorem RtInv.start {a : Nat} (h : a ≠ 0) : RtInv a (2 ^ ((bl a + 1) / 2)) := by
  have hb := bl_pos h
  refine ⟨Nat.two_pow_pos _, ?_, Nat.pow_le_pow_right (by omega) (by omega)⟩
  have h1 := lt_bl a
  have h2 : 2 ^ bl a ≤ 2 ^ ((bl a + 1) / 2) * 2 ^ ((bl a + 1) / 2) := by rw [← Nat.pow_add]; exact Nat.pow_le_pow_right (by omega) (by omega)
  have h3 := Nat.mul_le_mul (Nat.le_succ (2 ^ ((bl a + 1) / 2))) (Nat.le_succ (2 ^ ((bl a + 1) / 2)))
  simp only [Nat.succ_eq_add_one] at h3
  omega
theorem RtInv.next {a x : Nat} (ha : a ≠ 0) (h : RtInv a x) (hlt : (x + a / x) / 2 < x) : RtInv a ((x + a / x) / 2) := by
  have hx := h.pos
  have e := Nat.div_add_mod a x
  have hm := Nat.mod_lt a hx
  have ht := h.top
  generalize a / x = q at *
  generalize a % x = r at *
  have h1 : a < x * (q + 1) := by rw [Nat.mul_add, Nat.mul_one]; omega
  have h2 : x + q + 1 ≤ 2 * ((x + q) / 2 + 1) := by omega
  generalize (x + q) / 2 = nx at *
  have h3 := Nat.mul_le_mul h2 h2
  have h4 : 4 * (x * (q + 1)) ≤ (x + q + 1) * (x + q + 1) := by
    rw [show x + q + 1 = x + (q + 1) from by omega]
    generalize q + 1 = p
    rcases Nat.le_total x p with hxp | hxp
    · obtain ⟨d, rfl⟩ := Nat.exists_eq_add_of_le hxp
      have : (x + (x + d)) * (x + (x + d)) = 4 * (x * (x + d)) + d * d := by grind
      omega
    · obtain ⟨d, rfl⟩ := Nat.exists_eq_add_of_le hxp
      have : (p + d + p) * (p + d + p) = 4 * ((p + d) * p) + d * d := by grind
      omega
  have h5 : 2 * (nx + 1) * (2 * (nx + 1)) = 4 * ((nx + 1) * (nx + 1)) := by grind
  have h6 : a < (nx + 1) * (nx + 1) := by omega
  refine ⟨?_, h6, by omega⟩
  rcases Nat.eq_zero_or_pos nx with h0 | h0
  · subst h0; omega
  · exact h0
theorem RtInv.done {a x : Nat} (h : RtInv a x) (hge : x ≤ (x + a / x) / 2) : IsRoot a x := by
  refine ⟨?_, h.up⟩
  have e := Nat.div_mul_le_self a x
  have h1 : x ≤ a / x := by omega
  exact Nat.le_trans (Nat.mul_le_mul_right x h1) e
theorem RtInv.sum {a x : Nat} (h : RtInv a x) (hb : bl a ≤ 274877906944) : bl x ≤ 274877906945 ∧ bl (a / x) ≤ 274877906944 ∧ bl (x + a / x) ≤ 274877906946 := by
  have h1 : bl x ≤ 274877906945 := Nat.le_trans (bl_le (Nat.lt_of_le_of_lt h.top (Nat.pow_lt_pow_right (by omega) (Nat.lt_succ_self _)))) (by omega)
  have h2 : bl (a / x) ≤ 274877906944 := Nat.le_trans (bl_mono (Nat.div_le_self a x)) hb
  exact ⟨h1, h2, Nat.le_trans (bl_add _ _) (by omega)⟩
end Go.Proofs.YtcfpjgcellahnaaDoor

namespace Go.Proofs.YtcfpjgcellahnaaDoor
open Go.RowKit

/-- A return of two nat.Nat and a slot. -/
theorem ret_nat3 {fn : Func} {R : Ending → World → Prop} {a : Act} {w : World} {p p' q : Tmp} (g g' : Nat) (x y x' y' v : Value) (hr : fn.results = #[.cell p 24, .cell p' 24, .tmp q])
    (hp : a.tmps.getD p undef = .pointer (some ⟨g, 0, none⟩)) (hp' : a.tmps.getD p' undef = .pointer (some ⟨g', 0, none⟩)) (hq : a.tmps.getD q undef = v) (hb : Blk w g 24 [x, y]) (hb' : Blk w g' 24 [x', y']) (hd : a.defers = []) (hR : R (.returned (.tuple #[.agg #[x, y], .agg #[x', y'], v])) w) : bodyPost Tryd.prog fn R .ret a w := by
  refine bodyPost_ret ?_ hd hR
  have hl := run_loadVar_row (P := Tryd.prog) w g 24 24 #[x, y] (0, 0) _ hb Tryd.underlying24 rfl (by kernel_rfl)
  have hl' := run_loadVar_row (P := Tryd.prog) w g' 24 24 #[x', y'] (0, 0) _ hb' Tryd.underlying24 rfl (by kernel_rfl)
  have e1 : a.tmps[p]?.getD undef = .pointer (some ⟨g, 0, none⟩) := by simpa using hp
  have e2 : a.tmps[p']?.getD undef = .pointer (some ⟨g', 0, none⟩) := by simpa using hp'
  have e3 : a.tmps[q]?.getD undef = v := by simpa using hq
  simp [results, hr, e1, e2, e3, asAddr, hl, hl']

/-- Four boxes: two arguments and two results. -/
theorem boxes4 (w W : World) (la sa lb sb : Value) (h : (((w.alloc (.cells #[la, sa] 24)).alloc (.cells #[lb, sb] 24)).alloc (.cells #[.int .u64 0, .string ⟨#[]⟩] 24)).alloc (.cells #[.int .u64 0, .string ⟨#[]⟩] 24) = W) :
    Blk W w.heap.size 24 [la, sa] ∧ Blk W (w.heap.size + 1) 24 [lb, sb] ∧ Blk W (w.heap.size + 1 + 1) 24 [.int .u64 0, .string ⟨#[]⟩] ∧ Blk W (w.heap.size + 1 + 1 + 1) 24 [.int .u64 0, .string ⟨#[]⟩] ∧ Ext w W := by
  obtain ⟨h1, h2, h3, h4⟩ := boxes3 w _ la sa lb sb rfl
  subst h
  refine ⟨h1.alloc _, h2.alloc _, h3.alloc _, ?_, h4.alloc _⟩
  have h := Blk.new (((w.alloc (.cells #[la, sa] 24)).alloc (.cells #[lb, sb] 24)).alloc (.cells #[.int .u64 0, .string ⟨#[]⟩] 24)) 24 [.int .u64 0, .string ⟨#[]⟩]
  rw [World.size_alloc, World.size_alloc, World.size_alloc] at h
  exact h

set_option maxHeartbeats 1000000 in
/-- Div by nought. -/
theorem div_zero (a : Nat) (w : World) :
    Calls Tryd.prog 26 #[.agg #[.int .u64 (lo (a) : Nat), .string (hi (a))], .agg #[.int .u64 (lo (0) : Nat), .string (hi (0))]] w (Ret (.tuple #[.agg #[.int .u64 (lo (0) : Nat), .string (hi (0))], .agg #[.int .u64 (lo (0) : Nat), .string (hi (0))], .bool false]) w) := by
  have e1 : lo 0 = 0 := rfl
  have e2 : hi 0 = ⟨#[]⟩ := hi_small (by unfold B64; omega)
  have HB := Lib.hid (fun W => bits_any 0 (by rw [bl_zero]; omega) W)
  rw [bl_zero] at HB
  rw [e1, e2] at *
  clear e1 e2
  generalize lo a = la at *
  generalize hi a = sa at *
  go_enter Tryd.func26, Tryd.ntmps26
  go_wp2_with fail
  generalize hW : (((w.alloc (.cells #[.int .u64 la, .string sa] 24)).alloc (.cells #[.int .u64 0, .string ⟨#[]⟩] 24)).alloc (.cells #[.int .u64 0, .string ⟨#[]⟩] 24)).alloc (.cells #[.int .u64 0, .string ⟨#[]⟩] 24) = W
  obtain ⟨_, _, hr, hs, hx⟩ := boxes4 w W _ _ _ _ hW
  clear hW
  refine (HB.out _).mono ?_
  rintro e w3 ⟨rfl, he3⟩
  have hr3 := hr.ext he3
  have hs3 := hs.ext he3
  have r0 : w3.cell? ⟨w.heap.size + 1 + 1, 0, none⟩ = some (.int .u64 0) := hr3.cell 0
  have r1 : w3.cell? ⟨w.heap.size + 1 + 1, 1, none⟩ = some (.string ⟨#[]⟩) := hr3.cell 1
  have f0 : w3.frozen? ⟨w.heap.size + 1 + 1, 0, none⟩ = false := hr3.frozen 0
  have f1 : w3.frozen? ⟨w.heap.size + 1 + 1, 1, none⟩ = false := hr3.frozen 1
  have s0 : w3.cell? ⟨w.heap.size + 1 + 1 + 1, 0, none⟩ = some (.int .u64 0) := hs3.cell 0
  have s1 : w3.cell? ⟨w.heap.size + 1 + 1 + 1, 1, none⟩ = some (.string ⟨#[]⟩) := hs3.cell 1
  have g0 : w3.frozen? ⟨w.heap.size + 1 + 1 + 1, 0, none⟩ = false := hs3.frozen 0
  have g1 : w3.frozen? ⟨w.heap.size + 1 + 1 + 1, 1, none⟩ = false := hs3.frozen 1
  have HX := Lib.hid (hx.trans he3)
  clear hr hs hx he3
  go_wp2
  refine ret_nat3 (w.heap.size + 1 + 1) (w.heap.size + 1 + 1 + 1) _ _ _ _ _ rfl rfl rfl rfl ((((hr3.set 0 _).set 1 _).far (by simp) _).far (by simp) _) ((((hs3.far (by simp) _).far (by simp) _).set 0 _).set 1 _) rfl ⟨rfl, ?_⟩
  exact (((Below.setCell HX.out (p := ⟨w.heap.size + 1 + 1, 0, none⟩) (by show _ ≤ _; simp; omega) _).setCell (p := ⟨w.heap.size + 1 + 1, 1, none⟩) (by show _ ≤ _; simp; omega) _).setCell (p := ⟨w.heap.size + 1 + 1 + 1, 0, none⟩) (by show _ ≤ _; simp; omega) _).setCell (p := ⟨w.heap.size + 1 + 1 + 1, 1, none⟩) (by show _ ≤ _; simp; omega) _

set_option maxHeartbeats 2000000 in
/-- Div of small numbers. -/
theorem div_small (a b : Nat) (ha : a < B64) (hb : b < B64) (h0 : b ≠ 0) (w : World) :
    Calls Tryd.prog 26 #[.agg #[.int .u64 (lo (a) : Nat), .string (hi (a))], .agg #[.int .u64 (lo (b) : Nat), .string (hi (b))]] w (Ret (.tuple #[.agg #[.int .u64 (lo (a / b) : Nat), .string (hi (a / b))], .agg #[.int .u64 (lo (a % b) : Nat), .string (hi (a % b))], .bool true]) w) := by
  have hq : a / b < B64 := Nat.lt_of_le_of_lt (Nat.div_le_self _ _) ha
  have hm : a % b < B64 := Nat.lt_trans (Nat.mod_lt _ (by omega)) hb
  have HB := Lib.hid (fun W => bits_lt b hb W)
  rw [hi_small ha, hi_small hb, lo_small ha, lo_small hb, hi_small hq, hi_small hm, lo_small hq, lo_small hm] at *
  have hnb : (((bl b : Nat) : Int) == 0) = false := beq_eq_false_iff_ne.2 (by have := bl_pos h0; omega)
  have hdq : (((a / b : Nat) : Int)) = (a : Int) / b := Int.natCast_ediv a b
  have hdm : (((a % b : Nat) : Int)) = (a : Int) % b := Int.natCast_emod a b
  rw [hdq, hdm]
  have hbi : ((b : Int) == 0) = false := beq_eq_false_iff_ne.2 (by omega)
  have hai : (0 : Int) ≤ a := by omega
  have hbp : (0 : Int) < b := by omega
  have hau : (a : Int) ≤ 18446744073709551615 := by unfold B64 at ha; omega
  have hbu : (b : Int) ≤ 18446744073709551615 := by unfold B64 at hb; omega
  clear ha hb hq hm h0 hdq hdm
  generalize (a : Int) = x at *
  generalize (b : Int) = y at *
  generalize (bl b : Nat) = l at *
  go_enter Tryd.func26, Tryd.ntmps26
  go_wp2_with fail
  generalize hW : (((w.alloc (.cells #[.int .u64 x, .string ⟨#[]⟩] 24)).alloc (.cells #[.int .u64 y, .string ⟨#[]⟩] 24)).alloc (.cells #[.int .u64 0, .string ⟨#[]⟩] 24)).alloc (.cells #[.int .u64 0, .string ⟨#[]⟩] 24) = W
  obtain ⟨hp, hq, hr, hs, hx⟩ := boxes4 w W _ _ _ _ hW
  clear hW
  refine (HB.out _).mono ?_
  rintro e w3 ⟨rfl, he3⟩
  have hp3 := hp.ext he3
  have hq3 := hq.ext he3
  have hr3 := hr.ext he3
  have hs3 := hs.ext he3
  have p0 : w3.cell? ⟨w.heap.size, 0, none⟩ = some (.int .u64 x) := hp3.cell 0
  have p1 : w3.cell? ⟨w.heap.size, 1, none⟩ = some (.string ⟨#[]⟩) := hp3.cell 1
  have q0 : w3.cell? ⟨w.heap.size + 1, 0, none⟩ = some (.int .u64 y) := hq3.cell 0
  have q1 : w3.cell? ⟨w.heap.size + 1, 1, none⟩ = some (.string ⟨#[]⟩) := hq3.cell 1
  have r0 : w3.cell? ⟨w.heap.size + 1 + 1, 0, none⟩ = some (.int .u64 0) := hr3.cell 0
  have r1 : w3.cell? ⟨w.heap.size + 1 + 1, 1, none⟩ = some (.string ⟨#[]⟩) := hr3.cell 1
  have f0 : w3.frozen? ⟨w.heap.size + 1 + 1, 0, none⟩ = false := hr3.frozen 0
  have f1 : w3.frozen? ⟨w.heap.size + 1 + 1, 1, none⟩ = false := hr3.frozen 1
  have s0 : w3.cell? ⟨w.heap.size + 1 + 1 + 1, 0, none⟩ = some (.int .u64 0) := hs3.cell 0
  have s1 : w3.cell? ⟨w.heap.size + 1 + 1 + 1, 1, none⟩ = some (.string ⟨#[]⟩) := hs3.cell 1
  have g0 : w3.frozen? ⟨w.heap.size + 1 + 1 + 1, 0, none⟩ = false := hs3.frozen 0
  have g1 : w3.frozen? ⟨w.heap.size + 1 + 1 + 1, 1, none⟩ = false := hs3.frozen 1
  have HX := Lib.hid (hx.trans he3)
  have HR := Lib.hid hr3
  have HS := Lib.hid hs3
  clear hr hs hx he3 hp hq hp3 hq3 hr3 hs3
  go_wp2_with fail
  go_region
  go_wp2
  refine ret_nat3 (w.heap.size + 1 + 1) (w.heap.size + 1 + 1 + 1) _ _ _ _ _ rfl rfl rfl rfl ((((HR.out.set 0 _).set 1 _).far (by simp) _).far (by simp) _).drew ((((HS.out.far (by simp) _).far (by simp) _).set 0 _).set 1 _).drew rfl ⟨rfl, ?_⟩
  exact ((((Below.setCell HX.out (p := ⟨w.heap.size + 1 + 1, 0, none⟩) (by show _ ≤ _; simp; omega) _).setCell (p := ⟨w.heap.size + 1 + 1, 1, none⟩) (by show _ ≤ _; simp; omega) _).setCell (p := ⟨w.heap.size + 1 + 1 + 1, 0, none⟩) (by show _ ≤ _; simp; omega) _).setCell (p := ⟨w.heap.size + 1 + 1 + 1, 1, none⟩) (by show _ ≤ _; simp; omega) _).drew

/-- Div answers as it should for a by x. -/
def DivOk (a x : Nat) : Prop := ∀ W, Calls Tryd.prog 26 #[.agg #[.int .u64 (lo (a) : Nat), .string (hi (a))], .agg #[.int .u64 (lo (x) : Nat), .string (hi (x))]] W (Ret (.tuple #[.agg #[.int .u64 (lo (a / x) : Nat), .string (hi (a / x))], .agg #[.int .u64 (lo (a % x) : Nat), .string (hi (a % x))], .bool true]) W)

set_option maxHeartbeats 2000000 in
theorem root_pos (a : Nat) (h0 : a ≠ 0) (ha : bl a ≤ 274877906944) (hdv : ∀ x, 0 < x → x ≤ 2 ^ bl a → DivOk a x) (w : World) :
    Calls Tryd.prog 38 #[.agg #[.int .u64 (lo (a) : Nat), .string (hi (a))]] w (RetS (fun v _ => ∃ r, v = .agg #[.int .u64 (lo (r) : Nat), .string (hi (r))] ∧ IsRoot a r) w) := by
  have HB := Lib.hid (fun W => bits_any a (by omega) W)
  have HU : Hid (∀ W g, Blk W g 22 (U [1]) → Calls Tryd.prog 96 #[.slice (some ⟨g, 0, none⟩) 1 1, .int .i64 ((bl a + 1) / 2 : Nat)] W (RetS (Mw (2 ^ ((bl a + 1) / 2)) 10000000000) W)) := Lib.hid (fun W g hb => by
    refine (shiftUp_any _ [1] ((bl a + 1) / 2) W ⟨_, _, rfl, fun _ => ⟨g, 0, rfl, hb.lt, fun i hi => by rw [Nat.zero_add, hb.cell i, getD_U _ _ hi]⟩⟩ (by simp) (by omega) (Dig.cons (by unfold B64; omega) (Dig.nil _))).mono ?_
    rintro e w' ⟨v', rfl, ⟨zs, t1, t2, t3, t4⟩, hx⟩
    exact ⟨v', rfl, ⟨zs, _, by simp at t1; omega, t2, by rw [t3]; simp [val_cons, val_nil], t4⟩, hx⟩)
  have HF : Hid (∀ W v, Mw (2 ^ ((bl a + 1) / 2)) 10000000000 v W → Calls Tryd.prog 77 #[v] W (Ret (.agg #[.int .u64 (lo (2 ^ ((bl a + 1) / 2)) : Nat), .string (hi (2 ^ ((bl a + 1) / 2)))]) W)) := Lib.hid (fun W v h => fromWords_mw W h (by omega))
  have hS := RtInv.start h0
  have HD : Hid (∀ x, RtInv a x → ∀ W, Calls Tryd.prog 26 #[.agg #[.int .u64 (lo (a) : Nat), .string (hi (a))], .agg #[.int .u64 (lo (x) : Nat), .string (hi (x))]] W (Ret (.tuple #[.agg #[.int .u64 (lo (a / x) : Nat), .string (hi (a / x))], .agg #[.int .u64 (lo (a % x) : Nat), .string (hi (a % x))], .bool true]) W)) := Lib.hid (fun x h W => hdv x h.pos h.top W)
  have HA : Hid (∀ x, RtInv a x → ∀ W, Calls Tryd.prog 20 #[.agg #[.int .u64 (lo (x) : Nat), .string (hi (x))], .agg #[.int .u64 (lo (a / x) : Nat), .string (hi (a / x))]] W (Ret (.agg #[.int .u64 (lo (x + a / x) : Nat), .string (hi (x + a / x))]) W)) := Lib.hid (fun x h W => add_any _ _ (by have := (h.sum ha).1; omega) (by have := (h.sum ha).2.1; omega) W)
  have HSh : Hid (∀ x, RtInv a x → ∀ W, Calls Tryd.prog 39 #[.agg #[.int .u64 (lo (x + a / x) : Nat), .string (hi (x + a / x))], .int .i64 (-1)] W (Ret (.agg #[.int .u64 (lo ((x + a / x) / 2) : Nat), .string (hi ((x + a / x) / 2))]) W)) := Lib.hid (fun x h W => by
    have h := shift_down (x + a / x) 1 (by have := (h.sum ha).2.2; omega) (by omega) (by omega) W
    exact h)
  have HC : Hid (∀ x, RtInv a x → ∀ W, Calls Tryd.prog 36 #[.agg #[.int .u64 (lo ((x + a / x) / 2) : Nat), .string (hi ((x + a / x) / 2))], .agg #[.int .u64 (lo (x) : Nat), .string (hi (x))]] W (Ret (.int .i64 (cmpN ((x + a / x) / 2) x)) W)) := Lib.hid (fun x h W => cmp_any _ _ (by have := (h.sum ha).2.2; have := bl_mono (Nat.div_le_self (x + a / x) 2); omega) (by have := (h.sum ha).1; omega) W)
  have hbn : (((bl a : Nat) : Int) == 0) = false := beq_eq_false_iff_ne.2 (by have := bl_pos h0; omega)
  have hba : ((bl a : Nat) : Int) ≤ 274877906944 := by omega
  have hbq : ((bl a : Nat) + 1 : Int) / 2 = (((bl a + 1) / 2 : Nat) : Int) := by omega
  have HS := Lib.hid hS
  have H0 := Lib.hid h0
  clear ha hS h0 hdv
  generalize ((bl a + 1) / 2) = z at *
  generalize bl a = l at *
  generalize hlA : lo a = la at *
  generalize hsA : hi a = sa at *
  clear hlA hsA
  go_enter Tryd.func38, Tryd.ntmps38
  go_wp2_with fail
  generalize hW : (w.alloc (.cells #[.int .u64 la, .string sa] 24)).alloc (.cells #[.int .u64 0, .string ⟨#[]⟩] 24) = W
  obtain ⟨hp, hr, hx⟩ := boxes2 w W _ _ hW
  clear hW
  refine (HB.out _).mono ?_
  rintro e w1 ⟨rfl, he1⟩
  have hp1 := hp.ext he1
  have hr1 := hr.ext he1
  have hx1 := hx.trans he1
  have hz1 := hr1.lt
  have p0 : w1.cell? ⟨w.heap.size, 0, none⟩ = some (.int .u64 la) := hp1.cell 0
  have p1 : w1.cell? ⟨w.heap.size, 1, none⟩ = some (.string sa) := hp1.cell 1
  have p2 : (w1.alloc (.cells #[.int .u64 1] 22)).cell? ⟨w.heap.size, 0, none⟩ = some (.int .u64 la) := (hp1.alloc _).cell 0
  have p3 : (w1.alloc (.cells #[.int .u64 1] 22)).cell? ⟨w.heap.size, 1, none⟩ = some (.string sa) := (hp1.alloc _).cell 1
  have HP := Lib.hid hp1
  have HR := Lib.hid hr1
  have HX := Lib.hid hx1
  have HZ := Lib.hid hz1
  clear hp hr hx he1 hp1 hr1 hx1 hz1
  go_wp2_with fail
  refine (HB.out _).mono ?_
  rintro e w2 ⟨rfl, he2⟩
  have HE2 := Lib.hid he2
  clear he2
  go_wp2_with fail
  refine (HU.out _ _ ((Blk.new w1 22 (U [1])).ext HE2.out)).mono ?_
  rintro e w3 ⟨v3, rfl, hm3, he3⟩
  go_wp2_with fail
  refine (HF.out _ _ hm3).mono ?_
  rintro e w4 ⟨rfl, he4⟩
  have hx4 : Ext w1 w4 := ((((Ext.refl w1).alloc _).trans HE2.out).trans he3).trans he4
  have HX4 := Lib.hid (HX.out.trans hx4)
  have HP4 := Lib.hid (HP.out.ext hx4)
  have HR4 := Lib.hid (HR.out.ext hx4)
  have HZ4 : Hid (w.heap.size + 1 < w4.heap.size) := Lib.hid (Nat.lt_of_lt_of_le HZ.out hx4.size)
  clear hx4 he3 he4 hm3 p0 p1 p2 p3 HP HR HX HZ HE2
  go_wp2
  generalize hw5 : w4.alloc (.cells #[.int .u64 (lo (2 ^ z) : Nat), .string (hi (2 ^ z))] 24) = w5
  have hgx : Blk w5 w4.heap.size 24 [.int .u64 (lo (2 ^ z) : Nat), .string (hi (2 ^ z))] := by rw [← hw5]; exact Blk.new w4 _ _
  have hx5 : Ext w4 w5 := by rw [← hw5]; exact (Ext.refl _).alloc _
  have hp5 := HP4.out.ext hx5
  have hr5 := HR4.out.ext hx5
  have he5 := HX4.out.trans hx5
  generalize w4.heap.size = gx at *
  have HGX := Lib.hid hgx
  have HP5 := Lib.hid hp5
  have HR5 := Lib.hid hr5
  have HX5 := Lib.hid he5
  clear hgx hx5 hp5 hr5 he5 hw5 HX4 HP4 HR4 HU HF hbn hba hbq HB
  go_loopw [7] (fun _ wr => ∃ x, Hid (RtInv a x) ∧ Hid (Blk wr gx 24 [.int .u64 (lo x : Nat), .string (hi x)]) ∧ Hid (Blk wr w.heap.size 24 [.int .u64 la, .string sa]) ∧ Hid (Blk wr (w.heap.size + 1) 24 [.int .u64 0, .string ⟨#[]⟩]) ∧ Hid (Ext w wr)) (fun _ wr => numAt wr gx)
  case atStart => exact ⟨_, HS, HGX, HP5, HR5, HX5⟩
  case round =>
    clear HS
    obtain ⟨x, hI, hbx, hbp, hbr, hex⟩ := hrel
    have c0 : wr.cell? ⟨gx, 0, none⟩ = some (.int .u64 (lo x : Nat)) := hbx.out.cell 0
    have c1 : wr.cell? ⟨gx, 1, none⟩ = some (.string (hi x)) := hbx.out.cell 1
    have p0 : wr.cell? ⟨w.heap.size, 0, none⟩ = some (.int .u64 la) := hbp.out.cell 0
    have p1 : wr.cell? ⟨w.heap.size, 1, none⟩ = some (.string sa) := hbp.out.cell 1
    go_wp2_with fail
    refine (HD.out x hI.out _).mono ?_
    rintro e t1 ⟨rfl, he1⟩
    clear c0 c1 p0 p1
    have hbx1 := hbx.out.ext he1
    have c0 : ((t1.alloc (.cells #[.int .u64 (lo (a / x) : Nat), .string (hi (a / x))] 24)).alloc (.cells #[.int .u64 (lo (a % x) : Nat), .string (hi (a % x))] 24)).cell? ⟨gx, 0, none⟩ = some (.int .u64 (lo x : Nat)) := ((hbx1.alloc _).alloc _).cell 0
    have c1 : ((t1.alloc (.cells #[.int .u64 (lo (a / x) : Nat), .string (hi (a / x))] 24)).alloc (.cells #[.int .u64 (lo (a % x) : Nat), .string (hi (a % x))] 24)).cell? ⟨gx, 1, none⟩ = some (.string (hi x)) := ((hbx1.alloc _).alloc _).cell 1
    have HE1 := Lib.hid he1
    clear he1 hbx1
    go_wp2_with fail
    refine (HA.out x hI.out _).mono ?_
    rintro e t2 ⟨rfl, he2⟩
    have HE2 := Lib.hid (Ext.trans (((Ext.refl t1).alloc _).alloc _) he2)
    clear he2 c0 c1
    go_wp2_with fail
    refine (HSh.out x hI.out _).mono ?_
    rintro e t3 ⟨rfl, he3⟩
    have HE3 := Lib.hid ((HE1.out.trans HE2.out).trans he3)
    clear he3
    have hbx3 := hbx.out.ext HE3.out
    have c0 : (t3.alloc (.cells #[.int .u64 (lo ((x + a / x) / 2) : Nat), .string (hi ((x + a / x) / 2))] 24)).cell? ⟨gx, 0, none⟩ = some (.int .u64 (lo x : Nat)) := (hbx3.alloc _).cell 0
    have c1 : (t3.alloc (.cells #[.int .u64 (lo ((x + a / x) / 2) : Nat), .string (hi ((x + a / x) / 2))] 24)).cell? ⟨gx, 1, none⟩ = some (.string (hi x)) := (hbx3.alloc _).cell 1
    clear hbx3
    go_wp2_with fail
    refine (HC.out x hI.out _).mono ?_
    rintro e t4 ⟨rfl, he4⟩
    have hn4 := (Blk.new t3 24 [.int .u64 (lo ((x + a / x) / 2) : Nat), .string (hi ((x + a / x) / 2))]).ext he4
    have he := HE3.out.trans (((Ext.refl t3).alloc _).trans he4)
    have hx4 := hbx.out.ext he
    have hr4 := hbr.out.ext he
    have hw4 := hex.out.trans he
    have hp4 := hbp.out.ext he
    have hgn : gx ≠ t3.heap.size := Nat.ne_of_lt (hbx.out.ext HE3.out).lt
    clear c0 c1 he4 he HE1 HE2 HE3
    generalize t3.heap.size = gn at *
    have HN4 := Lib.hid hn4
    have HX4 := Lib.hid hx4
    have HR4 := Lib.hid hr4
    have HW4 := Lib.hid hw4
    have HP4 := Lib.hid hp4
    by_cases hlt : (x + a / x) / 2 < x
    · have e : cmpN ((x + a / x) / 2) x = -1 := cmpN_lt hlt
      rw [e]
      have hI' := hI.out.next H0.out hlt
      have HI' := Lib.hid hI'
      have HLT := Lib.hid hlt
      generalize (x + a / x) / 2 = nx at *
      have n0 : t4.cell? ⟨gn, 0, none⟩ = some (.int .u64 (lo nx : Nat)) := hn4.cell 0
      have n1 : t4.cell? ⟨gn, 1, none⟩ = some (.string (hi nx)) := hn4.cell 1
      have c0 : t4.cell? ⟨gx, 0, none⟩ = some (.int .u64 (lo x : Nat)) := hx4.cell 0
      have c1 : t4.cell? ⟨gx, 1, none⟩ = some (.string (hi x)) := hx4.cell 1
      have f0 : t4.frozen? ⟨gx, 0, none⟩ = false := hx4.frozen 0
      have f1 : t4.frozen? ⟨gx, 1, none⟩ = false := hx4.frozen 1
      clear hn4 hx4 hr4 hw4 hp4 e hI' hlt
      go_wp2
      have hz := HZ4.out
      have hnb := (HX4.out.set 0 (.int .u64 (lo nx : Nat))).set 1 (.string (hi nx))
      refine ⟨⟨nx, HI', Lib.hid hnb, ?_, ?_, ?_⟩, ?_⟩
      · exact Lib.hid ((HP4.out.far (by show _ ≠ gx; omega) _).far (by show _ ≠ gx; omega) _)
      · exact Lib.hid ((HR4.out.far (by show _ ≠ gx; omega) _).far (by show _ ≠ gx; omega) _)
      · exact Lib.hid ((Below.setCell HW4.out (p := ⟨gx, 0, none⟩) (by show _ ≤ gx; omega) _).setCell (p := ⟨gx, 1, none⟩) (by show _ ≤ gx; omega) _)
      · rw [numAt_of hnb, numAt_of hbx.out]; exact HLT.out
    · have hc := cmpN_ge (Nat.le_of_not_lt hlt)
      have hroot := hI.out.done (Nat.le_of_not_lt hlt)
      have HRT := Lib.hid hroot
      generalize cmpN ((x + a / x) / 2) x = cc at *
      have c0 : t4.cell? ⟨gx, 0, none⟩ = some (.int .u64 (lo x : Nat)) := hx4.cell 0
      have c1 : t4.cell? ⟨gx, 1, none⟩ = some (.string (hi x)) := hx4.cell 1
      have r0 : t4.cell? ⟨w.heap.size + 1, 0, none⟩ = some (.int .u64 0) := hr4.cell 0
      have r1 : t4.cell? ⟨w.heap.size + 1, 1, none⟩ = some (.string ⟨#[]⟩) := hr4.cell 1
      have f0 : t4.frozen? ⟨w.heap.size + 1, 0, none⟩ = false := hr4.frozen 0
      have f1 : t4.frozen? ⟨w.heap.size + 1, 1, none⟩ = false := hr4.frozen 1
      clear hn4 hx4 hr4 hw4 hp4 hroot hlt
      go_wp2
      refine ret_nat (w.heap.size + 1) _ _ rfl rfl ((HR4.out.set 0 _).set 1 _) rfl ⟨_, rfl, ⟨x, rfl, HRT.out⟩, ?_⟩
      exact (Below.setCell HW4.out (p := ⟨w.heap.size + 1, 0, none⟩) (by show _ ≤ _; simp) _).setCell (p := ⟨w.heap.size + 1, 1, none⟩) (by show _ ≤ _; simp) _

set_option maxHeartbeats 1000000 in
theorem root_zero (w : World) : Calls Tryd.prog 38 #[.agg #[.int .u64 (lo (0) : Nat), .string (hi (0))]] w (Ret (.agg #[.int .u64 (lo (0) : Nat), .string (hi (0))]) w) := by
  have e1 : lo 0 = 0 := rfl
  have e2 : hi 0 = ⟨#[]⟩ := hi_small (by unfold B64; omega)
  have HB := Lib.hid (fun W => bits_any 0 (by rw [bl_zero]; omega) W)
  rw [bl_zero] at HB
  rw [e1, e2] at *
  clear e1 e2
  go_enter Tryd.func38, Tryd.ntmps38
  go_wp2_with fail
  generalize hW : (w.alloc (.cells #[.int .u64 0, .string ⟨#[]⟩] 24)).alloc (.cells #[.int .u64 0, .string ⟨#[]⟩] 24) = W
  obtain ⟨_, hr, hx⟩ := boxes2 w W _ _ hW
  clear hW
  refine (HB.out _).mono ?_
  rintro e t4 ⟨rfl, he1⟩
  have hr4 := hr.ext he1
  have HX := Lib.hid (hx.trans he1)
  have r0 : t4.cell? ⟨w.heap.size + 1, 0, none⟩ = some (.int .u64 0) := hr4.cell 0
  have r1 : t4.cell? ⟨w.heap.size + 1, 1, none⟩ = some (.string ⟨#[]⟩) := hr4.cell 1
  have f0 : t4.frozen? ⟨w.heap.size + 1, 0, none⟩ = false := hr4.frozen 0
  have f1 : t4.frozen? ⟨w.heap.size + 1, 1, none⟩ = false := hr4.frozen 1
  clear hr hx he1
  go_wp2
  refine ret_nat (w.heap.size + 1) _ _ rfl rfl ((hr4.set 0 _).set 1 _) rfl ⟨rfl, ?_⟩
  exact (Below.setCell HX.out (p := ⟨w.heap.size + 1, 0, none⟩) (by show _ ≤ _; simp) _).setCell (p := ⟨w.heap.size + 1, 1, none⟩) (by show _ ≤ _; simp) _
end Go.Proofs.YtcfpjgcellahnaaDoor

namespace Go.Proofs.YtcfpjgcellahnaaDoor
open Go.RowKit

/-- The texts of one digit. -/
def digitText (d : Nat) : ByteArray := ⟨#[UInt8.ofNat (48 + d)]⟩

set_option maxHeartbeats 1000000 in
theorem formatUint_digit (d : Nat) (h : d = 1 ∨ d = 3 ∨ d = 4) (w : World) :
    Calls Tryd.prog 89 #[.int .u64 d, .int .i64 10] w fun e w' => e = .returned (.string (digitText d)) ∧ w' = w := by
  have h128 : ∀ W, Calls Tryd.prog 128 #[.int .i64 d] W fun e w' => e = .returned (.string (digitText d)) ∧ w' = W := by
    intro W
    rcases h with rfl | rfl | rfl
    all_goals
      go_enter Tryd.func128, Tryd.ntmps128
      go_wp2
      go_ret
      exact ⟨rfl, rfl⟩
  have h113 : ∀ W, Calls Tryd.prog 113 #[.int .u64 d, .int .i64 10] W fun e w' => e = .returned (.string (digitText d)) ∧ w' = W := by
    intro W
    have H := Lib.hid h128
    clear h128
    have h1 : (d : Int) < 100 := by omega
    have h2 : (0 : Int) ≤ d := by omega
    generalize digitText d = t at *
    clear h
    generalize (d : Int) = z at *
    go_enter Tryd.func113, Tryd.ntmps113
    go_wp2_with (go_at_call 128; refine (H.out _).mono ?_; rintro e w' ⟨rfl, rfl⟩)
    go_ret
    exact ⟨rfl, rfl⟩
  have H := Lib.hid h113
  clear h128 h113 h
  generalize digitText d = t at *
  generalize (d : Int) = z at *
  go_enter Tryd.func89, Tryd.ntmps89
  go_wp2_with (go_at_call 113; refine (H.out _).mono ?_; rintro e w' ⟨rfl, rfl⟩)
  go_ret
  exact ⟨rfl, rfl⟩

set_option maxHeartbeats 1000000 in
theorem text_small (n : Nat) (hn : n < B64) (t : ByteArray) (hf : ∀ W, Calls Tryd.prog 89 #[.int .u64 n, .int .i64 10] W (Ret (.string t) W)) (w : World) :
    Calls Tryd.prog 31 #[.agg #[.int .u64 (lo (n) : Nat), .string (hi (n))]] w (Ret (.string t) w) := by
  have HW := Lib.hid (fun W => words_any n (by have : bl n ≤ 64 := bl_le hn; omega) W)
  have hl : (limbs B64 n).length ≤ 1 := (limbs_length_le_iff B64_two n 1).2 (by simpa using hn)
  have HF := Lib.hid hf
  rw [lo_small hn, hi_small hn] at *
  clear hf hn
  generalize limbs B64 n = L at *
  generalize (n : Int) = z at *
  go_enter Tryd.func31, Tryd.ntmps31
  go_wp2_with fail
  refine (HW.out _).mono ?_
  rintro e w1 ⟨v, rfl, hfr, hx⟩
  obtain ⟨A, c, rfl, _⟩ := fresh_form hfr
  have hb := (Blk.new w 24 [.int .u64 z, .string ⟨#[]⟩]).ext hx
  have c0 : w1.cell? ⟨w.heap.size, 0, none⟩ = some (.int .u64 z) := hb.cell 0
  have HX := Lib.hid hx
  clear hfr hb hx
  have hl' : (L.length : Int) ≤ 1 := by omega
  generalize (L.length : Nat) = l at *
  go_wp2_with fail
  refine (HF.out _).mono ?_
  rintro e w2 ⟨rfl, hx2⟩
  go_wp2
  go_ret
  exact ⟨rfl, (((Ext.refl w).alloc _).trans HX.out).trans hx2⟩

set_option maxHeartbeats 1000000 in
theorem parse_007 (w : World) : Calls Tryd.prog 29 #[.string ⟨#[48, 48, 55]⟩] w (Ret (.tuple #[.agg #[.int .u64 (lo (0) : Nat), .string (hi (0))], .bool false]) w) := by
  have e1 : lo 0 = 0 := rfl
  have e2 : hi 0 = ⟨#[]⟩ := hi_small (by unfold B64; omega)
  rw [e1, e2]
  clear e1 e2
  go_enter Tryd.func29, Tryd.ntmps29
  go_wp2
  go_returns
  exact ⟨rfl, (Ext.refl w).alloc _⟩
end Go.Proofs.YtcfpjgcellahnaaDoor

namespace Go.Proofs.YtcfpjgcellahnaaDoor
open Go.RowKit

theorem small_val {n : Nat} (h : n < B64) : (.agg #[.int .u64 (lo (n) : Nat), .string (hi (n))] : Value) = .agg #[.int .u64 (n : Nat), .string ⟨#[]⟩] := by rw [lo_small h, hi_small h]

theorem bl_17 : bl 17 = 5 := by
  have h1 : bl 17 ≤ 5 := bl_le (by omega)
  have h2 : 4 < bl 17 := le_bl (by omega)
  omega

theorem root_17 (w : World) : Calls Tryd.prog 38 #[.agg #[.int .u64 (lo (17) : Nat), .string (hi (17))]] w (Ret (.agg #[.int .u64 (lo (4) : Nat), .string (hi (4))]) w) := by
  refine (root_pos 17 (by omega) (by rw [bl_17]; omega) (fun x h1 h2 W => ?_) w).mono ?_
  · rw [bl_17] at h2
    exact div_small 17 x (by unfold B64; omega) (by unfold B64; omega) (by omega) W
  · rintro e w' ⟨v, rfl, ⟨r, rfl, hr⟩, hx⟩
    rw [hr.unique (s := 4) (by unfold IsRoot; omega)]
    exact ⟨rfl, hx⟩

set_option maxHeartbeats 2000000 in
theorem known_any (w : World) : Calls Tryd.prog 21 #[] w (Ret (.bool true) w) := by
  have hB : (20 : Nat) < B64 := by unfold B64; omega
  have v0 := small_val (n := 0) (by omega)
  have v1 := small_val (n := 1) (by omega)
  have v2 := small_val (n := 2) (by omega)
  have v3 := small_val (n := 3) (by omega)
  have v4 := small_val (n := 4) (by omega)
  have v7 := small_val (n := 7) (by omega)
  have v17 := small_val (n := 17) (by omega)
  have HP : Hid (∀ W, Calls Tryd.prog 29 #[.string ⟨#[48, 48, 55]⟩] W (Ret (.tuple #[.agg #[.int .u64 0, .string ⟨#[]⟩], .bool false]) W)) := Lib.hid (fun W => by have h := parse_007 W; rw [v0] at h; exact h)
  have O7 : Hid (∀ W, Calls Tryd.prog 18 #[.int .u64 7] W (Ret (.agg #[.int .u64 7, .string ⟨#[]⟩]) W)) := Lib.hid (fun W => by have h := natOf_any 7 (by omega) W; rw [v7] at h; exact h)
  have O2 : Hid (∀ W, Calls Tryd.prog 18 #[.int .u64 2] W (Ret (.agg #[.int .u64 2, .string ⟨#[]⟩]) W)) := Lib.hid (fun W => by have h := natOf_any 2 (by omega) W; rw [v2] at h; exact h)
  have O17 : Hid (∀ W, Calls Tryd.prog 18 #[.int .u64 17] W (Ret (.agg #[.int .u64 17, .string ⟨#[]⟩]) W)) := Lib.hid (fun W => by have h := natOf_any 17 (by omega) W; rw [v17] at h; exact h)
  have HD : Hid (∀ W, Calls Tryd.prog 26 #[.agg #[.int .u64 7, .string ⟨#[]⟩], .agg #[.int .u64 2, .string ⟨#[]⟩]] W (Ret (.tuple #[.agg #[.int .u64 3, .string ⟨#[]⟩], .agg #[.int .u64 1, .string ⟨#[]⟩], .bool true]) W)) := Lib.hid (fun W => by
    have h := div_small 7 2 (by omega) (by omega) (by omega) W
    rw [v7, v2, show (7 / 2 : Nat) = 3 from rfl, show (7 % 2 : Nat) = 1 from rfl, v3, v1] at h
    exact h)
  have HR : Hid (∀ W, Calls Tryd.prog 38 #[.agg #[.int .u64 17, .string ⟨#[]⟩]] W (Ret (.agg #[.int .u64 4, .string ⟨#[]⟩]) W)) := Lib.hid (fun W => by have h := root_17 W; rw [v17, v4] at h; exact h)
  have ht : ∀ d, (d = 1 ∨ d = 3 ∨ d = 4) → ∀ W, Calls Tryd.prog 31 #[.agg #[.int .u64 (lo (d) : Nat), .string (hi (d))]] W (Ret (.string (digitText d)) W) := fun d hd W =>
    text_small d (by omega) _ (fun W => (formatUint_digit d hd W).mono fun _ _ ⟨h1, h2⟩ => ⟨h1, Ext.of_eq h2.symm⟩) W
  have H1 : Hid (∀ W, Calls Tryd.prog 31 #[.agg #[.int .u64 1, .string ⟨#[]⟩]] W (Ret (.string ⟨#[49]⟩) W)) := Lib.hid (fun W => by have h := ht 1 (by omega) W; rw [v1] at h; exact h)
  have H3 : Hid (∀ W, Calls Tryd.prog 31 #[.agg #[.int .u64 3, .string ⟨#[]⟩]] W (Ret (.string ⟨#[51]⟩) W)) := Lib.hid (fun W => by have h := ht 3 (by omega) W; rw [v3] at h; exact h)
  have H4 : Hid (∀ W, Calls Tryd.prog 31 #[.agg #[.int .u64 4, .string ⟨#[]⟩]] W (Ret (.string ⟨#[52]⟩) W)) := Lib.hid (fun W => by have h := ht 4 (by omega) W; rw [v4] at h; exact h)
  clear hB v0 v1 v2 v3 v4 v7 v17 ht
  go_enter Tryd.func21, Tryd.ntmps21
  go_wp2_with fail
  refine (HP.out _).mono ?_
  rintro e w1 ⟨rfl, hx1⟩
  have E1 := Lib.hid hx1
  clear hx1
  go_wp2_with fail
  refine (O7.out _).mono ?_
  rintro e w2 ⟨rfl, hx2⟩
  have E2 := Lib.hid ((E1.out.alloc _).trans hx2)
  clear hx2
  go_wp2_with fail
  refine (O2.out _).mono ?_
  rintro e w3 ⟨rfl, hx3⟩
  have E3 := Lib.hid (E2.out.trans hx3)
  clear hx3
  go_wp2_with fail
  refine (HD.out _).mono ?_
  rintro e w4 ⟨rfl, hx4⟩
  have E4 := Lib.hid (E3.out.trans hx4)
  clear hx4
  go_wp2_with fail
  generalize hW : (w4.alloc (.cells #[.int .u64 3, .string ⟨#[]⟩] 24)).alloc (.cells #[.int .u64 1, .string ⟨#[]⟩] 24) = W
  have hq : Blk W w4.heap.size 24 [.int .u64 3, .string ⟨#[]⟩] := by rw [← hW]; exact (Blk.new w4 _ _).alloc _
  have hr : Blk W (w4.heap.size + 1) 24 [.int .u64 1, .string ⟨#[]⟩] := by
    have h := Blk.new (w4.alloc (.cells #[.int .u64 3, .string ⟨#[]⟩] 24)) 24 [.int .u64 1, .string ⟨#[]⟩]
    rw [World.size_alloc] at h
    rw [← hW]; exact h
  have E5 : Hid (Ext w W) := Lib.hid (by rw [← hW]; exact (E4.out.alloc _).alloc _)
  clear hW
  refine (O17.out _).mono ?_
  rintro e w5 ⟨rfl, hx5⟩
  have H5 := Lib.hid hx5
  have HQ := Lib.hid hq
  have HRR := Lib.hid hr
  clear hx5 hq hr
  go_wp2_with fail
  refine (HR.out _).mono ?_
  rintro e w6 ⟨rfl, hx6⟩
  have H6 := Lib.hid hx6
  clear hx6
  go_wp2_with fail
  refine (H4.out _).mono ?_
  rintro e w7 ⟨rfl, hx7⟩
  have hx : Ext W w7 := (H5.out.trans H6.out).trans hx7
  have q0 : w7.cell? ⟨w4.heap.size, 0, none⟩ = some (.int .u64 3) := (HQ.out.ext hx).cell 0
  have q1 : w7.cell? ⟨w4.heap.size, 1, none⟩ = some (.string ⟨#[]⟩) := (HQ.out.ext hx).cell 1
  have H7 := Lib.hid hx
  clear hx hx7
  go_wp2_with fail
  refine (H3.out _).mono ?_
  rintro e w8 ⟨rfl, hx8⟩
  have hx := H7.out.trans hx8
  have r0 : w8.cell? ⟨w4.heap.size + 1, 0, none⟩ = some (.int .u64 1) := (HRR.out.ext hx).cell 0
  have r1 : w8.cell? ⟨w4.heap.size + 1, 1, none⟩ = some (.string ⟨#[]⟩) := (HRR.out.ext hx).cell 1
  have H8 := Lib.hid hx
  clear hx hx8 q0 q1
  go_wp2_with fail
  refine (H1.out _).mono ?_
  rintro e w9 ⟨rfl, hx9⟩
  have H9 := Lib.hid (E5.out.trans (H8.out.trans hx9))
  clear hx9
  go_wp2
  go_ret
  exact ⟨rfl, H9.out⟩
end Go.Proofs.YtcfpjgcellahnaaDoor
