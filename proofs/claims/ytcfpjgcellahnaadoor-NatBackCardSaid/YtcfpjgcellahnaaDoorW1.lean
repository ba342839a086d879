/- Walks over the small functions of package nat. -/
import Derived.Test.YtcfpjgcellahnaaDoorMem
import Derived.Test.YtcfpjgcellahnaaDoorArith
import Derived.Handy
namespace Go.Proofs.YtcfpjgcellahnaaDoor
open Go.RowKit

set_option maxHeartbeats 400000 in
theorem natOf_any (n : Nat) (hn : n < B64) (w : World) :
    Calls Tryd.prog 18 #[.int .u64 n] w (Ret (.agg #[.int .u64 (lo n : Nat), .string (hi n)]) w) := by
  have e1 : lo n = n := Nat.mod_eq_of_lt hn
  have e2 : hi n = ⟨#[]⟩ := by unfold hi hiL; rw [Nat.div_eq_of_lt hn, limbs_zero]; rfl
  rw [e1, e2]
  clear e1 e2
  go_enter Tryd.func18, Tryd.ntmps18
  go_wp2
  go_returns
  exact ⟨rfl, (Ext.refl _).alloc _⟩

theorem ret_int {k : IntKind} {a b : Int} (h : a = b) : Ending.returned (.int k a) = .returned (.int k b) := by rw [h]

/-- Which of the two is greater. -/
def cmpN (x y : Nat) : Int := if x < y then -1 else if y < x then 1 else 0
theorem cmpN_lt {x y : Nat} (h : x < y) : cmpN x y = -1 := if_pos h
theorem cmpN_gt {x y : Nat} (h : y < x) : cmpN x y = 1 := by unfold cmpN; rw [if_neg (by omega), if_pos h]
theorem cmpN_eq (x : Nat) : cmpN x x = 0 := by unfold cmpN; rw [if_neg (by omega), if_neg (by omega)]

set_option maxHeartbeats 400000 in
theorem cmpWord_any (x y : Nat) (w : World) :
    Calls Tryd.prog 93 #[.int .u64 x, .int .u64 y] w fun e w' => e = .returned (.int .i64 (cmpN x y)) ∧ w = w' := by
  rcases Nat.lt_trichotomy x y with h | h | h
  · rw [cmpN_lt h]
    go_enter Tryd.func93, Tryd.ntmps93
    go_wp2
    go_ret
    exact ⟨rfl, rfl⟩
  · subst h
    rw [cmpN_eq]
    go_enter Tryd.func93, Tryd.ntmps93
    go_wp2
    go_ret
    exact ⟨rfl, rfl⟩
  · rw [cmpN_gt h]
    go_enter Tryd.func93, Tryd.ntmps93
    go_wp2
    go_ret
    exact ⟨rfl, rfl⟩

set_option maxHeartbeats 1000000 in
set_option maxRecDepth 100000 in
theorem word_core (s : ByteArray) (w : World) (hs : 8 ≤ s.size) :
    Calls Tryd.prog 86 #[.string s] w fun e w' => e = .returned (.int .u64 (Lib.leNat (s.data.toList.take 8) : Nat)) ∧ ∃ n, w' = w.drewN n := by
  obtain ⟨b0, b1, b2, b3, b4, b5, b6, b7, r, hr⟩ : ∃ b0 b1 b2 b3 b4 b5 b6 b7 r, s.data.toList = b0 :: b1 :: b2 :: b3 :: b4 :: b5 :: b6 :: b7 :: r := by
    have hl : 8 ≤ s.data.toList.length := by simpa using hs
    match h : s.data.toList, hl with
    | b0 :: b1 :: b2 :: b3 :: b4 :: b5 :: b6 :: b7 :: r, _ => exact ⟨b0, b1, b2, b3, b4, b5, b6, b7, r, rfl⟩
  have q0 : 0 < s.size := by omega
  have q1 : (1 : Int) < (s.size : Int) := by omega
  have q2 : (2 : Int) < (s.size : Int) := by omega
  have q3 : (3 : Int) < (s.size : Int) := by omega
  have q4 : (4 : Int) < (s.size : Int) := by omega
  have q5 : (5 : Int) < (s.size : Int) := by omega
  have q6 : (6 : Int) < (s.size : Int) := by omega
  have q7 : (7 : Int) < (s.size : Int) := by omega
  have key : ∀ k (h : k < s.size) (b : UInt8), s.data.toList[k]? = some b → (s[k]'h) = b := by
    intro k h b hb
    rw [List.getElem?_eq_getElem (by simpa using h)] at hb
    injection hb
  have e0 := key 0 (Nat.lt_of_lt_of_le (by decide) hs) b0 (by rw [hr]; rfl)
  have e1 := key 1 (Nat.lt_of_lt_of_le (by decide) hs) b1 (by rw [hr]; rfl)
  have e2 := key 2 (Nat.lt_of_lt_of_le (by decide) hs) b2 (by rw [hr]; rfl)
  have e3 := key 3 (Nat.lt_of_lt_of_le (by decide) hs) b3 (by rw [hr]; rfl)
  have e4 := key 4 (Nat.lt_of_lt_of_le (by decide) hs) b4 (by rw [hr]; rfl)
  have e5 := key 5 (Nat.lt_of_lt_of_le (by decide) hs) b5 (by rw [hr]; rfl)
  have e6 := key 6 (Nat.lt_of_lt_of_le (by decide) hs) b6 (by rw [hr]; rfl)
  have e7 := key 7 (Nat.lt_of_lt_of_le (by decide) hs) b7 (by rw [hr]; rfl)
  have hv : ((Lib.leNat (s.data.toList.take 8) : Nat) : Int) = (b0.toNat : Int) + (b1.toNat : Int) * 256 + (b2.toNat : Int) * 65536 + (b3.toNat : Int) * 16777216 + (b4.toNat : Int) * 4294967296 + (b5.toNat : Int) * 1099511627776 + (b6.toNat : Int) * 281474976710656 + (b7.toNat : Int) * 72057594037927936 := by
    rw [hr]
    simp only [List.take, Lib.leNat]
    push_cast
    omega
  have HV := Lib.hid hv
  have E0 := Lib.hid e0
  have E1 := Lib.hid e1
  have E2 := Lib.hid e2
  have E3 := Lib.hid e3
  have E4 := Lib.hid e4
  have E5 := Lib.hid e5
  have E6 := Lib.hid e6
  have E7 := Lib.hid e7
  clear hr key hv e0 e1 e2 e3 e4 e5 e6 e7
  go_enter Tryd.func86, Tryd.ntmps86
  go_wp2
  go_quiet (fail)
  go_wp2
  go_ret
  refine ⟨ret_int ?_, nq, rfl⟩
  rw [HV.out]
  have h0 : b0.toNat < 256 := b0.toNat_lt
  have h1 : b1.toNat < 256 := b1.toNat_lt
  have h2 : b2.toNat < 256 := b2.toNat_lt
  have h3 : b3.toNat < 256 := b3.toNat_lt
  have h4 : b4.toNat < 256 := b4.toNat_lt
  have h5 : b5.toNat < 256 := b5.toNat_lt
  have h6 : b6.toNat < 256 := b6.toNat_lt
  have h7 : b7.toNat < 256 := b7.toNat_lt
  simp only [E0.out, E1.out, E2.out, E3.out, E4.out, E5.out, E6.out, E7.out]
  simp (disch := omega) only [u64_wrap_id, u64_or8, u64_or16, u64_or24, u64_or32, u64_or40, u64_or48, u64_or56]
end Go.Proofs.YtcfpjgcellahnaaDoor
