/- Walks: math/bits.Div64. Walks: divWord. Walks: guessWord. The ends of the long division: plain mathematics. -/
import Derived.Test.YtiloialbglfplaaGreatDoorB2
namespace Go.Proofs.YtiloialbglfplaaGreatDoor
open Go.RowKit

set_option maxHeartbeats 1000000 in
set_option maxRecDepth 100000 in
theorem div64_zero (lo y : Nat) (hy : 0 < y) (hl : lo < B64) (w : World) :
    Calls Tryz.prog 191 #[.int .u64 0, .int .u64 lo, .int .u64 y] w fun e w' => e = .returned (.tuple #[.int .u64 (lo / y : Nat), .int .u64 (lo % y : Nat)]) ∧ ∃ n, w' = w.drewN n := by
  have h1 : ((y : Int) == 0) = false := beq_eq_false_iff_ne.2 (by omega)
  have h2 : 0 < y := hy
  have h3 : (1 : Int) ≤ (y : Int) := by omega
  have h4 : (lo : Int) ≤ 18446744073709551615 := by unfold B64 at hl; omega
  go_enter Tryz.func191, Tryz.ntmps191
  go_wp2
  go_quiet (fail)
  go_wp2
  go_ret2
  refine ⟨?_, nq, rfl⟩
  have e1 : IntKind.u64.wrap ((lo : Int) / (y : Int)) = ((lo / y : Nat) : Int) := by
    have h5 : lo / y ≤ lo := Nat.div_le_self _ _
    have : (lo : Int) / (y : Int) = ((lo / y : Nat) : Int) := by push_cast; rfl
    rw [this, wrapN, Nat.mod_eq_of_lt (by omega)]
  have e2 : (lo : Int) % (y : Int) = ((lo % y : Nat) : Int) := by push_cast; rfl
  rw [e1, e2]
  rfl

set_option maxHeartbeats 4000000 in
set_option maxRecDepth 100000 in
theorem div64_core (hi lo y s : Nat) (hh : 0 < hi) (hy : hi < y) (hyb : y < B64) (hl : lo < B64) (hs : s + bl y = 64) (w : World) :
    Calls Tryz.prog 191 #[.int .u64 hi, .int .u64 lo, .int .u64 y] w fun e w' => e = .returned (.tuple #[.int .u64 ((hi * B64 + lo) / y : Nat), .int .u64 ((hi * B64 + lo) % y : Nat)]) ∧ w' = w := by
  have h1 : ((y : Int) == 0) = false := beq_eq_false_iff_ne.2 (by omega)
  have h2 : ((hi : Int) == 0) = false := beq_eq_false_iff_ne.2 (by omega)
  have hlz : ∀ W, Calls Tryz.prog 192 #[.int .u64 y] W fun e w' => e = .returned (.int .i64 s) ∧ W = w' := fun W => by
    have h := Tryz.bits_LeadingZeros64 (y : Int) W (by omega) (by unfold B64 at hyb; omega)
    rw [Int.toNat_natCast, bitLen_eq hyb] at h
    refine h.mono ?_
    rintro e w' ⟨rfl, rfl⟩
    exact ⟨by congr 2; omega, rfl⟩
  have HLZ := Lib.hid hlz
  have hs64 : s < 64 := by have := bl_pos (n := y) (by omega); omega
  have hhb : hi < B64 := by omega
  have b1 : (hi : Int) ≤ 18446744073709551615 := by unfold B64 at hhb; omega
  have b2 : (lo : Int) ≤ 18446744073709551615 := by unfold B64 at hl; omega
  have b3 : (y : Int) ≤ 18446744073709551615 := by unfold B64 at hyb; omega
  obtain ⟨Y, y1, y0, U, T, u1, u0, hset⟩ := set64 hi lo y s hy hl hs
  obtain ⟨ra, rb⟩ := div64_end hset (by omega)
  have RA := Lib.hid ra
  have RB := Lib.hid rb
  have e1 := hset.e1
  have e2 := hset.e2
  have e3 := hset.e3
  have e4 := hset.e4
  have e5 := hset.e5
  have e6 := hset.e6
  have e7 := hset.e7
  have i1 : (2147483648 : Int) ≤ (y1 : Int) := by have := hset.y1lo; omega
  have i2 : (y1 : Int) < 4294967296 := by have : y1 < 4294967296 := hset.y1hi; omega
  have i3 : (y0 : Int) < 4294967296 := by have : y0 < 4294967296 := hset.y0hi; omega
  have i4 : (u1 : Int) < 4294967296 := by have : u1 < 4294967296 := hset.u1hi; omega
  have i5 : (u0 : Int) < 4294967296 := by have : u0 < 4294967296 := hset.u0hi; omega
  have hp1 : 0 < y1 := by omega
  have lp1 : Lp Y y1 y0 U u1 := ⟨hset.yy, hset.y1lo, hset.y1hi, hset.y0hi, hset.u, hset.u1hi⟩
  have hYb := lp1.lt
  have hYp : 0 < Y := by have := lp1.ult; omega
  obtain ⟨R1, hR1⟩ : ∃ R1, R1 = (U * b32 + u1) % Y := ⟨_, rfl⟩
  have hRY : R1 < Y := by rw [hR1]; exact Nat.mod_lt _ hYp
  have lp2 : Lp Y y1 y0 R1 u0 := ⟨hset.yy, hset.y1lo, hset.y1hi, hset.y0hi, hRY, hset.u0hi⟩
  obtain ⟨R0, hR0⟩ : ∃ R0, R0 = (R1 * b32 + u0) % Y := ⟨_, rfl⟩
  have hUb : (U : Int) ≤ 18446744073709551615 := by have := lp1.ult; unfold B64 at hYb; omega
  have hRb : (R1 : Int) ≤ 18446744073709551615 := by unfold B64 at hYb; omega
  have hRb0 : (R0 : Int) ≤ 18446744073709551615 := by
    have : R0 < Y := by rw [hR0]; exact Nat.mod_lt _ hYp
    unfold B64 at hYb; omega
  have hw1 : ∀ q : Nat, q = (U * b32 + u1) / Y → IntKind.u64.wrap (IntKind.u64.wrap (IntKind.u64.wrap ((U : Int) * 4294967296) + (u1 : Int)) - IntKind.u64.wrap ((q : Int) * (Y : Int))) = (R1 : Int) := fun q hq => by
    rw [hR1]; exact wrap_rest hYb hYp hq
  have hw2 : ∀ q : Nat, q = (R1 * b32 + u0) / Y → IntKind.u64.wrap (IntKind.u64.wrap (IntKind.u64.wrap ((R1 : Int) * 4294967296) + (u0 : Int)) - IntKind.u64.wrap ((q : Int) * (Y : Int))) = (R0 : Int) := fun q hq => by
    rw [hR0]; exact wrap_rest hYb hYp hq
  have hfin : ∀ Q q : Nat, Q = (U * b32 + u1) / Y → q = (R1 * b32 + u0) / Y → (Q : Int) * 4294967296 + (q : Int) = (((hi * B64 + lo) / y : Nat) : Int) ∧ (R0 : Int) / 2 ^ s = (((hi * B64 + lo) % y : Nat) : Int) := fun Q q hQ hq => by
    rw [← RA.out, ← RB.out, ← hR1, ← hR0, ← hQ, ← hq]
    refine ⟨?_, ?_⟩
    · rw [Int.natCast_add, Int.natCast_mul]; rfl
    · rw [Int.natCast_ediv, Int.natCast_pow]; rfl
  have hQb : (U * b32 + u1) / Y < b32 := digit_lt lp1.ult lp1.uhi
  have hqb0 : (R1 * b32 + u0) / Y < b32 := digit_lt lp2.ult lp2.uhi
  obtain ⟨qq, rr, pk1⟩ := pk U y1 hp1
  obtain ⟨qs, rs, pk2⟩ := pk R1 y1 hp1
  obtain ⟨st1, st2, st3⟩ := lp1.start pk1
  obtain ⟨st4, st5, st6⟩ := lp2.start pk2
  have hqq : qq ≤ 4294967297 := st2
  have LP1 := Lib.hid lp1
  have LP2 := Lib.hid lp2
  have PK2 := Lib.hid pk2
  have ST := Lib.hid (And.intro st4 (And.intro st5 st6))
  have SA := Lib.hid (And.intro st1 (And.intro st2 st3))
  have HW1 := Lib.hid hw1
  have HW2 := Lib.hid hw2
  have HFIN := Lib.hid hfin
  have HQB := Lib.hid (And.intro hQb hqb0)
  have HI := Lib.hid (And.intro i1 (And.intro i2 (And.intro i3 (And.intro i4 (And.intro i5 (And.intro hRb hRb0))))))
  have d1 := pk1.d1
  have d2 := pk1.d2
  have d3 := pk1.d3
  have d4 := pk1.d4
  clear hlz hs hset ra rb RA RB lp1 lp2 pk1 pk2 st1 st2 st3 st4 st5 st6 hw1 hw2 hfin hR1 hR0 hRY hQb hqb0 hYb hYp hhb i1 i2 i3 i4 i5 hRb hRb0
  go_enter Tryz.func191, Tryz.ntmps191
  go_wp2_with (go_at_call 192; refine (HLZ.out _).mono ?_; rintro e w' ⟨rfl, rfl⟩)
  go_loop [15, 16] (fun a b => ∃ q r : Nat, a = .int .u64 q ∧ b = .int .u64 r ∧ Hid (r < 4294967296 ∧ q ≤ 4294967297 ∧ Dg b32 y1 y0 U u1 q r)) (fun a _ => (intOf a).toNat)
  case atStart => exact ⟨qq, rr, rfl, rfl, SA⟩
  case round =>
    clear hqq d1 d2 d3 d4 SA e1 e2 e3 e4 e5 e6 e7 b1 b2 b3 h1 h2 hp1 hUb
    obtain ⟨q, r, rfl, rfl, hD⟩ := hrel
    obtain ⟨i1, i2, i3, i4, i5, hRb, hRb0⟩ := HI.out
    have n3 : (r : Int) < 4294967296 := by have := hD.out.1; omega
    by_cases hc : q < 4294967296 ∧ q * y0 ≤ b32 * r + u1
    case' pos =>
      obtain ⟨hQ, n1, n2, hb1, hb2⟩ := LP1.out.exit1 hD.out.2.2 hc
      have hw := HW1.out q hQ
      have HQ := Lib.hid hQ
      have p1 := PK2.out.d1
      have p2 := PK2.out.d2
      have p3 := PK2.out.d3
      have p4 := PK2.out.d4
      have p5 : (qs : Int) ≤ 4294967297 := by have := ST.out.2.1; omega
      clear hQ hc hD
      go_wp2_with fail
      clear n1 n2 n3 hb1 hb2 hw p1 p2 p3 p4 p5
      generalize q = Q at *
    case' neg =>
      obtain ⟨hq1, hN, hb⟩ := LP1.out.go hD.out.2.2 hc
      obtain ⟨q, rfl⟩ : ∃ k, q = k + 1 := ⟨q - 1, by omega⟩
      rw [Nat.add_sub_cancel] at hN
      have hql := hD.out.2.1
      have m1 : ((q + 1 : Nat) : Int) = (q : Int) + 1 := by omega
      rw [m1] at hb ⊢
      have HN := Lib.hid hN
      have HQL := Lib.hid hql
      have m2 : (q : Int) + 1 ≤ 4294967297 := by omega
      clear hc hD hN hql hq1 m1
      by_cases hr2 : r + y1 < 4294967296
      case' pos =>
        have k1 : decide ((4294967296 : Int) ≤ (r : Int) + (y1 : Int)) = false := decide_eq_false (by omega)
        have HR2 := Lib.hid hr2
        clear hr2
        rcases hb with hb1 | ⟨hb1, n1, n2, hb2⟩
        all_goals
          go_wp2_with fail
          go_round
          case rel => exact ⟨q, r + y1, by go_num, by go_num, Lib.hid ⟨HR2.out, by have := HQL.out; omega, HN.out⟩⟩
          case measure => simp [intOf]
      case' neg =>
        have k1 : decide ((4294967296 : Int) ≤ (r : Int) + (y1 : Int)) = true := decide_eq_true (by omega)
        have hQ : q = (U * b32 + u1) / Y := LP1.out.exit2 HN.out (by have := HQL.out; omega) (by omega)
        have hw := HW1.out q hQ
        have HQ := Lib.hid hQ
        have p1 := PK2.out.d1
        have p2 := PK2.out.d2
        have p3 := PK2.out.d3
        have p4 := PK2.out.d4
        have p5 : (qs : Int) ≤ 4294967297 := by have := ST.out.2.1; omega
        clear hQ hr2
        rcases hb with hb1 | ⟨hb1, n1, n2, hb2⟩
        all_goals
          go_wp2_with fail
          clear n3 hb1 hw p1 p2 p3 p4 p5 k1 m2 HN HQL
          generalize q = Q at *
    all_goals
      go_loop [16, 18] (fun b a => ∃ q r : Nat, a = .int .u64 q ∧ b = .int .u64 r ∧ Hid (r < 4294967296 ∧ q ≤ 4294967297 ∧ Dg b32 y1 y0 R1 u0 q r)) (fun _ a => (intOf a).toNat)
      case atStart => exact ⟨qs, rs, rfl, rfl, ST⟩
      case round =>
        obtain ⟨q, r, rfl, rfl, hD⟩ := hrel
        have n3 : (r : Int) < 4294967296 := by have := hD.out.1; omega
        have hQb : (Q : Int) < 4294967296 := by have h := HQB.out.1; rw [← HQ.out] at h; unfold b32 at h; omega
        by_cases hc : q < 4294967296 ∧ q * y0 ≤ b32 * r + u0
        · obtain ⟨hq, n1, n2, hb1, hb2⟩ := LP2.out.exit1 hD.out.2.2 hc
          have hw := HW2.out q hq
          obtain ⟨f1, f2⟩ := HFIN.out Q q HQ.out hq
          have hqb : (q : Int) < 4294967296 := by omega
          have F1 := Lib.hid f1
          have F2 := Lib.hid f2
          clear hq hc hD f1 f2
          go_wp2_with fail
          go_ret2
          refine ⟨?_, rfl⟩
          rw [F1.out, F2.out]
          rfl
        · obtain ⟨hq1, hN, hb⟩ := LP2.out.go hD.out.2.2 hc
          obtain ⟨q, rfl⟩ : ∃ k, q = k + 1 := ⟨q - 1, by omega⟩
          rw [Nat.add_sub_cancel] at hN
          have hql := hD.out.2.1
          have m1 : ((q + 1 : Nat) : Int) = (q : Int) + 1 := by omega
          rw [m1] at hb ⊢
          have HN := Lib.hid hN
          have HQL := Lib.hid hql
          have m2 : (q : Int) + 1 ≤ 4294967297 := by omega
          clear hc hD hN hql hq1 m1
          by_cases hr2 : r + y1 < 4294967296
          · have k1 : decide ((4294967296 : Int) ≤ (r : Int) + (y1 : Int)) = false := decide_eq_false (by omega)
            have HR2 := Lib.hid hr2
            clear hr2
            rcases hb with hb1 | ⟨hb1, n1, n2, hb2⟩
            all_goals
              go_wp2_with fail
              go_round
              case rel => exact ⟨q, r + y1, by go_num, by go_num, Lib.hid ⟨HR2.out, by have := HQL.out; omega, HN.out⟩⟩
              case measure => simp [intOf]
          · have k1 : decide ((4294967296 : Int) ≤ (r : Int) + (y1 : Int)) = true := decide_eq_true (by omega)
            have hq : q = (R1 * b32 + u0) / Y := LP2.out.exit2 HN.out (by have := HQL.out; omega) (by omega)
            have hw := HW2.out q hq
            obtain ⟨f1, f2⟩ := HFIN.out Q q HQ.out hq
            have hqb : (q : Int) < 4294967296 := by have h := HQB.out.2; rw [← hq] at h; unfold b32 at h; omega
            have F1 := Lib.hid f1
            have F2 := Lib.hid f2
            clear hq hr2 f1 f2
            rcases hb with hb1 | ⟨hb1, n1, n2, hb2⟩
            all_goals
              go_wp2_with fail
              go_ret2
              refine ⟨?_, rfl⟩
              rw [F1.out, F2.out]
              rfl

/-- math/bits.Div64. -/
theorem div64_any (hi lo y : Nat) (hy : hi < y) (hyb : y < B64) (hl : lo < B64) (w : World) :
    Calls Tryz.prog 191 #[.int .u64 hi, .int .u64 lo, .int .u64 y] w fun e w' => e = .returned (.tuple #[.int .u64 ((hi * B64 + lo) / y : Nat), .int .u64 ((hi * B64 + lo) % y : Nat)]) ∧ ∃ n, w' = w.drewN n := by
  by_cases h0 : hi = 0
  · subst h0
    have := div64_zero lo y hy hl w
    rw [Nat.zero_mul, Nat.zero_add]
    exact this
  · have hb : bl y ≤ 64 := bl_le hyb
    exact (div64_core hi lo y (64 - bl y) (by omega) hy hyb hl (by omega) w).mono fun _ _ h => ⟨h.1, 0, h.2⟩
end Go.Proofs.YtiloialbglfplaaGreatDoor

namespace Go.Proofs.YtiloialbglfplaaGreatDoor
open Go.RowKit

/-- What divWord comes to, of a list in block g. -/
def DivWordPost (g n d : Nat) (xs : List Nat) (w : World) (e : Ending) (w' : World) : Prop :=
  ∃ L, L.length = xs.length ∧ Dig B64 L ∧ val B64 L = val B64 xs / d ∧ e = .returned (.tuple #[.slice (some ⟨g, 0, none⟩) (limbs B64 (val B64 xs / d)).length n, .int .u64 (val B64 xs % d : Nat)]) ∧ Blk w' g 28 (U L) ∧ But g w w'

set_option maxHeartbeats 1000000 in
theorem divWord_any (g : Nat) (xs : List Nat) (d : Nat) (w : World) (hb : Blk w g 28 (U xs)) (hx : xs.length ≤ 8589934593) (hd : Dig B64 xs) (hd0 : 0 < d) (hdb : d < B64) :
    Calls Tryz.prog 168 #[.slice (some ⟨g, 0, none⟩) xs.length xs.length, .int .u64 d] w (DivWordPost g xs.length d xs w) := by
  have HB := Lib.hid hb
  clear hb
  go_enter Tryz.func168, Tryz.ntmps168
  go_wp2
  go_loopw [6, 7] (fun a b wr => ∃ (k r : Nat) (L : List Nat), k ≤ xs.length ∧ b = .int .i64 ((k : Int) - 1) ∧ a = .int .u64 r ∧ Hid (DwInv xs d k r L) ∧ Hid (Blk wr g 28 (U L)) ∧ Hid (But g w wr)) (fun _ b _ => (intOf b + 1).toNat)
  case atStart => exact ⟨xs.length, 0, xs, Nat.le_refl _, rfl, rfl, Lib.hid (DwInv.start hd hd0), HB, Lib.hid (But.refl _ _)⟩
  case round =>
    obtain ⟨k, r, L, hk, rfl, rfl, hL, hbk, hbut⟩ := hrel
    by_cases hk0 : k = 0
    · subst hk0
      obtain ⟨f1, f2⟩ := hL.out.fin
      have hll := hL.out.len
      have hdl := hL.out.dig
      have ht : Calls Tryz.prog 178 #[.slice (some ⟨g, 0, none⟩) xs.length xs.length] wr fun e w' => e = .returned (.slice (some ⟨g, 0, none⟩) (limbs B64 (val B64 xs / d)).length xs.length) ∧ wr = w' := by
        have h := trim_core g 0 xs.length L wr (by omega) (by omega) hdl (fun i hi => by rw [Nat.zero_add, hbk.out.cell i, getD_U _ _ hi])
        rw [f1, hll] at h
        exact h
      have HT := Lib.hid ht
      have F1 := Lib.hid f1
      have F2 := Lib.hid f2
      have HLL := Lib.hid hll
      clear ht f1 f2 hll
      go_wp2_with (go_at_call 178; refine (HT.out).mono ?_; rintro e w' ⟨rfl, rfl⟩)
      go_ret2
      refine ⟨L, HLL.out, hdl, F1.out, ?_, hbk.out, hbut.out⟩
      rw [← F2.out]
      rfl
    · obtain ⟨k, rfl⟩ : ∃ j, k = j + 1 := ⟨k - 1, by omega⟩
      obtain ⟨hq, hN⟩ := hL.out.step (by omega)
      have hlow := getD_take hL.out.low (Nat.lt_succ_self k)
      have hll := hL.out.len
      have hc : wr.cell? ⟨g, k, none⟩ = some (.int .u64 (xs.getD k 0 : Nat)) := by rw [hbk.out.cell k, getD_U _ _ (by omega), hlow]
      have hf : wr.frozen? ⟨g, k, none⟩ = false := hbk.out.frozen k
      have hrd := hL.out.lt
      have hxd : xs.getD k 0 < B64 := hd.getD (by unfold B64; omega) k
      have hD : ∀ W, Calls Tryz.prog 191 #[.int .u64 r, .int .u64 (xs.getD k 0 : Nat), .int .u64 d] W fun e w' => e = .returned (.tuple #[.int .u64 ((r * B64 + xs.getD k 0) / d : Nat), .int .u64 ((r * B64 + xs.getD k 0) % d : Nat)]) ∧ ∃ n, w' = W.drewN n := fun W => div64_any r (xs.getD k 0) d hrd hdb hxd W
      have HD := Lib.hid hD
      have HN := Lib.hid hN
      clear hlow hll hD hN hL hq
      generalize (r * B64 + xs.getD k 0) / d = q at *
      generalize (r * B64 + xs.getD k 0) % d = r' at *
      generalize xs.getD k 0 = x at *
      rw [show ((k + 1 : Nat) : Int) - 1 = (k : Int) from by omega]
      go_wp2_with fail
      refine (HD.out _).mono ?_
      rintro e w2 ⟨rfl, n2, rfl⟩
      go_wp2
      go_roundw
      case rel =>
        refine ⟨k, r', L.set k q, by omega, rfl, rfl, HN, ?_, ?_⟩
        · rw [← U_set]; exact Lib.hid (hbk.out.set k _)
        · exact Lib.hid ((hbut.out.set k _).trans (But.of_ext ((Ext.refl _).drewN n2)))
      case measure => simp [intOf]
end Go.Proofs.YtiloialbglfplaaGreatDoor

namespace Go.Proofs.YtiloialbglfplaaGreatDoor
open Go.RowKit

/-- The guess: it is the only good one. -/
def gQ (U u v1 v0 : Nat) : Nat := min ((U * B64 + u) / (v1 * B64 + v0)) (B64 - 1)
theorem min_pred {B g q : Nat} (h1 : g < B) (h4 : g ≤ q) (h3 : g = B - 1 ∨ q < g + 1) : g = min q (B - 1) := by omega
theorem min_pred' {B q : Nat} (hB : 0 < B) : min q (B - 1) < B ∧ min q (B - 1) ≤ q ∧ (min q (B - 1) = B - 1 ∨ q < min q (B - 1) + 1) := by omega
theorem gQ_pos {v1 v0 : Nat} (hv : 0 < v1) : 0 < v1 * B64 + v0 := by
  have : 0 < v1 * B64 := Nat.mul_pos hv (by unfold B64; omega)
  exact Nat.lt_of_lt_of_le this (Nat.le_add_right _ _)
theorem good_gQ {U u v1 v0 g : Nat} (hv : 0 < v1) (h : Good U u v1 v0 g) : g = gQ U u v1 v0 := by
  obtain ⟨h1, h2, h3⟩ := h
  have hp := gQ_pos (v0 := v0) hv
  exact min_pred h1 ((Nat.le_div_iff_mul_le hp).2 h2) (h3.imp id (fun h3 => (Nat.div_lt_iff_lt_mul hp).2 h3))
theorem gQ_good {U u v1 v0 : Nat} (hv : 0 < v1) : Good U u v1 v0 (gQ U u v1 v0) := by
  have hp := gQ_pos (v0 := v0) hv
  obtain ⟨h1, h2, h3⟩ := min_pred' (B := B64) (q := (U * B64 + u) / (v1 * B64 + v0)) (by unfold B64; omega)
  exact ⟨h1, (Nat.le_div_iff_mul_le hp).1 h2, h3.imp id (fun h3 => (Nat.div_lt_iff_lt_mul hp).1 h3)⟩

set_option maxHeartbeats 4000000 in
theorem guessWord_any (u2 u1 u0 v1 v0 : Nat) (h2 : u2 ≤ v1) (hu1 : u1 < B64) (hu0 : u0 < B64) (hv1 : v1 < B64) (hv0 : v0 < B64) (hv : 0 < v1) (w : World) :
    Calls Tryz.prog 194 #[.int .u64 u2, .int .u64 u1, .int .u64 u0, .int .u64 v1, .int .u64 v0] w fun e w' => e = .returned (.int .u64 (gQ (u2 * B64 + u1) u0 v1 v0 : Nat)) ∧ ∃ n, w' = w.drewN n := by
  have HM : Hid (∀ g : Nat, g < B64 → ∀ W, Calls Tryz.prog 142 #[.int .u64 g, .int .u64 v0] W fun e w' => e = .returned (.tuple #[.int .u64 (muH g v0 : Nat), .int .u64 (muL g v0 : Nat)]) ∧ W = w') := Lib.hid (fun g hg W => mul64_any g v0 hg hv0 W)
  have HA : Hid (∀ (r : Nat) W, (callFunc 182 #[.int .u64 r, .int .u64 v1, .int .u64 0]).run Tryz.prog W = .ok (.value (.tuple #[.int .u64 (adS r v1 0 : Nat), .int .u64 (adC r v1 0 : Nat)])) W) := Lib.hid (fun r W => add64_0 r v1 W)
  have HU0 := Lib.hid hu0
  have HV1 := Lib.hid hv1
  have HV0 := Lib.hid hv0
  have HV := Lib.hid hv
  clear hv
  by_cases he : u2 = v1
  case' pos =>
    have hst : Gw (u2 * B64 + u1) u0 v1 v0 18446744073709551615 (adS u1 v1 0) (adC u1 v1 0) := by rw [he]; exact Gw.same (by have := ad_eq u1 v1 0; omega) (adS_lt _ _ _) (adC_le hu1 hv1 (by omega))
    have hadd := HA.out u1
    generalize adS u1 v1 0 = r0 at *
    generalize adC u1 v1 0 = o0 at *
    have HST := Lib.hid hst
    have HX : Hid (∃ n, w = w.drewN n) := Lib.hid ⟨0, rfl⟩
    clear hst hu1 hu0 hv1 hv0 h2
    have hb : ((u2 : Int) == (v1 : Int)) = true := by rw [he]; simp
    generalize u2 * B64 + u1 = U at *
    clear he
    go_enter Tryz.func194, Tryz.ntmps194
    go_wp2
    clear hadd hb
  case' neg =>
    have hlt : u2 < v1 := by omega
    have HD := Lib.hid (fun W => div64_any u2 u1 v1 hlt hv1 hu1 W)
    have hst : Gw (u2 * B64 + u1) u0 v1 v0 ((u2 * B64 + u1) / v1) ((u2 * B64 + u1) % v1) 0 := Gw.less hlt hu1 hu0 hv1
    have HST := Lib.hid hst
    have hb : ((u2 : Int) == (v1 : Int)) = false := beq_eq_false_iff_ne.2 (by omega)
    clear hst hu1 hu0 hv1 hv0 h2 hlt he
    generalize (u2 * B64 + u1) / v1 = g0 at *
    generalize (u2 * B64 + u1) % v1 = r0 at *
    generalize u2 * B64 + u1 = U at *
    go_enter Tryz.func194, Tryz.ntmps194
    go_wp2_with fail
    refine (HD.out _).mono ?_
    rintro e w1 ⟨rfl, n1, hw1⟩
    have HX : Hid (∃ n, w1 = w.drewN n) := Lib.hid ⟨n1, hw1⟩
    clear hw1
    go_wp2
    clear hb HD
  all_goals
    go_loop [11, 12, 13] (fun a b c => ∃ g r o : Nat, a = .int .u64 g ∧ b = .int .u64 r ∧ c = .int .u64 o ∧ Hid (Gw U u0 v1 v0 g r o)) (fun a _ _ => (intOf a).toNat)
    case atStart => first | exact ⟨18446744073709551615, r0, o0, rfl, rfl, rfl, HST⟩ | exact ⟨g0, r0, 0, rfl, rfl, rfl, HST⟩
    case round =>
      obtain ⟨g, r, o, rfl, rfl, rfl, hG⟩ := hrel
      have ho := hG.out.o1
      by_cases ho1 : o = 1
      · subst ho1
        have hgood := Lib.hid (hG.out.over HV0.out)
        go_wp2
        go_ret
        exact ⟨by rw [← good_gQ (HV.out) hgood.out]; rfl, HX.out⟩
      · obtain rfl : o = 0 := by omega
        have hm := HM.out g hG.out.glt
        have ht := guess_test (g := g) (v0 := v0) (r := r) (u := u0) HU0.out
        generalize muH g v0 = h at *
        generalize muL g v0 = l at *
        have HMM := Lib.hid hm
        clear hm ho ho1
        by_cases hgood : g * v0 ≤ r * B64 + u0
        · have HG2 := Lib.hid (hG.out.done hgood)
          rcases ht.2 hgood with h1 | ⟨h1, h3⟩
          · have i1 : (h : Int) < r := by omega
            clear ht hgood h1
            go_wp2_with (go_at_call 142; refine (HMM.out _).mono ?_; rintro e w' ⟨rfl, rfl⟩)
            go_ret
            exact ⟨by rw [← good_gQ (HV.out) HG2.out]; rfl, HX.out⟩
          · subst h1
            have i1 : (l : Int) ≤ u0 := by omega
            clear ht hgood h3
            go_wp2_with (go_at_call 142; refine (HMM.out _).mono ?_; rintro e w' ⟨rfl, rfl⟩)
            go_ret
            exact ⟨by rw [← good_gQ (HV.out) HG2.out]; rfl, HX.out⟩
        · have hnot : ¬ (h < r ∨ (h = r ∧ l ≤ u0)) := fun x => hgood (ht.1 x)
          obtain ⟨hg1, hN⟩ := hG.out.next (s := adS r v1 0) (c := adC r v1 0) (by omega) (by have := ad_eq r v1 0; omega) (adS_lt _ _ _) (adC_le hG.out.rlt HV1.out (by omega))
          have hadd := HA.out r
          have HN := Lib.hid hN
          have hgi : (1 : Int) ≤ g := by omega
          have hgu : (g : Int) ≤ 18446744073709551615 := by have := hG.out.glt; unfold B64 at this; omega
          generalize adS r v1 0 = s at *
          generalize adC r v1 0 = c at *
          have hcase : (r : Int) < h ∨ ((h : Int) = r ∧ (u0 : Int) < l) := by omega
          clear hnot ht hgood hg1 hN
          rcases hcase with i1 | ⟨i0, i1⟩
          case' inl =>
            have j1 : ((h : Int) == (r : Int)) = false := beq_eq_false_iff_ne.2 (by omega)
            have j2 : decide ((h : Int) < (r : Int)) = false := decide_eq_false (by omega)
          case' inr =>
            obtain rfl : h = r := by omega
            have j2 : decide ((l : Int) ≤ (u0 : Int)) = false := decide_eq_false (by omega)
            clear i0
          all_goals
            go_wp2_with (go_at_call 142; refine (HMM.out _).mono ?_; rintro e w' ⟨rfl, rfl⟩)
            go_round
            case rel => exact ⟨g - 1, s, c, by congr 1; omega, rfl, rfl, HN⟩
            case measure => simp [intOf]; omega
end Go.Proofs.YtiloialbglfplaaGreatDoor

namespace Go.Proofs.YtiloialbglfplaaGreatDoor

theorem top_le {ys : List Nat} {n : Nat} (hn : ys.length = n + 1) : B64 ^ n * ys.getD n 0 ≤ val B64 ys := by
  have h := val_take_getD B64 ys n
  rw [List.take_of_length_le (by omega)] at h
  omega
theorem norm_take {ys zs : List Nat} {s n : Nat} (hn : ys.length = n + 1) (hdy : Dig B64 ys) (hl : zs.length = n + 2) (hdz : Dig B64 zs) (hv : val B64 zs = val B64 ys * 2 ^ s) (hs : s + bl (ys.getD n 0) = 64) (ht : ys.getD n 0 ≠ 0) :
    val B64 (zs.take (n + 1)) = val B64 ys * 2 ^ s ∧ (zs.take (n + 1)).getD n 0 ≠ 0 ∧ val B64 ys * 2 ^ s < B64 ^ (n + 1) ∧ 0 < val B64 ys * 2 ^ s := by
  have hP : 0 < B64 ^ n := Nat.pow_pos (by unfold B64; omega)
  have h0 := val_take_getD B64 ys n
  rw [List.take_of_length_le (by omega)] at h0
  have h1 := val_lt (hdy.take n)
  rw [List.length_take, Nat.min_eq_left (by omega)] at h1
  have h2 := lt_bl (ys.getD n 0)
  have htop := top_le hn
  generalize ys.getD n 0 = t at *
  have h3 : val B64 ys < B64 ^ n * 2 ^ bl t := by
    have : B64 ^ n * (t + 1) ≤ B64 ^ n * 2 ^ bl t := Nat.mul_le_mul_left _ h2
    rw [Nat.mul_add, Nat.mul_one] at this
    omega
  have h4 : val B64 ys * 2 ^ s < B64 ^ (n + 1) := by
    have hs2 : 0 < 2 ^ s := Nat.pow_pos (by omega)
    have := Nat.mul_lt_mul_of_pos_right h3 hs2
    rw [Nat.mul_assoc, ← Nat.pow_add, show bl t + s = 64 from by omega] at this
    exact this
  have h5 : B64 ^ n ≤ val B64 ys * 2 ^ s := by
    have a1 : B64 ^ n * 1 ≤ B64 ^ n * t := Nat.mul_le_mul_left _ (by omega)
    have a2 : val B64 ys * 1 ≤ val B64 ys * 2 ^ s := Nat.mul_le_mul_left _ (Nat.pow_pos (by omega))
    omega
  have h6 := val_take_getD B64 zs (n + 1)
  rw [List.take_of_length_le (by omega), hv] at h6
  have h7 : zs.getD (n + 1) 0 = 0 := by
    rcases Nat.eq_zero_or_pos (zs.getD (n + 1) 0) with h | h
    · exact h
    · have : B64 ^ (n + 1) * 1 ≤ B64 ^ (n + 1) * zs.getD (n + 1) 0 := Nat.mul_le_mul_left _ h
      omega
  rw [h7, Nat.mul_zero, Nat.add_zero] at h6
  refine ⟨h6.symm, fun h8 => ?_, h4, by omega⟩
  have h9 := val_take_getD B64 (zs.take (n + 1)) n
  rw [List.take_take, Nat.min_eq_left (by omega), List.take_take, Nat.min_eq_left (by omega), h8, Nat.mul_zero, Nat.add_zero, ← h6] at h9
  have h10 := val_lt (hdz.take n)
  rw [List.length_take, Nat.min_eq_left (by omega)] at h10
  omega
theorem dv_start {xs ys : List Nat} {s m n : Nat} (hn : ys.length = n + 1) (hx : xs.length = m + n) (hdx : Dig B64 xs) (ht : ys.getD n 0 ≠ 0) : val B64 xs * 2 ^ s < val B64 ys * 2 ^ s * B64 ^ m := by
  have h1 := val_lt hdx
  rw [hx, Nat.pow_add] at h1
  have h2 := top_le hn
  have h3 : B64 ^ n * 1 ≤ B64 ^ n * ys.getD n 0 := Nat.mul_le_mul_left _ (by omega)
  have h4 : B64 ^ m * B64 ^ n ≤ val B64 ys * B64 ^ m := by
    rw [Nat.mul_comm (B64 ^ m)]
    exact Nat.mul_le_mul_right _ (by omega)
  have h5 : val B64 xs < val B64 ys * B64 ^ m := by omega
  have hs2 : 0 < 2 ^ s := Nat.pow_pos (by omega)
  have h6 := Nat.mul_lt_mul_of_pos_right h5 hs2
  rw [Nat.mul_assoc, Nat.mul_comm (B64 ^ m), ← Nat.mul_assoc] at h6
  exact h6
theorem dv_quot (X Y s : Nat) : X * 2 ^ s / (Y * 2 ^ s) = X / Y := Nat.mul_div_mul_right X Y (Nat.pow_pos (by omega))
theorem dv_rem (X Y s : Nat) : X * 2 ^ s % (Y * 2 ^ s) / 2 ^ s = X % Y := by
  rw [Nat.mul_mod_mul_right, Nat.mul_div_cancel _ (Nat.pow_pos (by omega))]
theorem val_take_low {L : List Nat} {n : Nat} (hn : n ≤ L.length) (h : val B64 L < B64 ^ n) : val B64 (L.take n) = val B64 L := by
  have h1 := val_split B64 L n hn
  rcases Nat.eq_zero_or_pos (val B64 (L.drop n)) with h2 | h2
  · rw [h2, Nat.mul_zero, Nat.add_zero] at h1; exact h1.symm
  · have : B64 ^ n * 1 ≤ B64 ^ n * val B64 (L.drop n) := Nat.mul_le_mul_left _ h2
    omega
theorem DvOut.pos {N V m n j g : Nat} {L L' Q : List Nat} (h : DvOut N V m n (j + 1) L Q) (hV : V < B64 ^ n) (hm : MsOut L V j n g 1 L') : 1 ≤ g := by
  have he := hm.vl
  have hL' : val B64 L' < B64 ^ (j + n + 1) := high_zero hm.dig (fun t ht => by rw [hm.rest t ht]; exact h.top hV ht)
  rcases Nat.eq_zero_or_pos g with h0 | h0
  · subst h0
    rw [Nat.zero_mul, Nat.zero_mul, Nat.one_mul, Nat.add_zero] at he
    omega
  · exact h0
end Go.Proofs.YtiloialbglfplaaGreatDoor
