/- Walks: Cmp. -/
import Derived.Test.YtcfpjgcellahnaaDoorW3
namespace Go.Proofs.YtcfpjgcellahnaaDoor
open Go.RowKit

theorem cut_word {s : ByteArray} {xs : List Nat} (hs : s.size = 8 * xs.length) (hw : ∀ i (h : i < xs.length), Lib.leNat ((s.data.toList.drop (8 * i)).take 8) = xs[i]) {j : Nat} (hj : j < xs.length) :
    8 ≤ (s.extract (8 * j) s.size).size ∧ Lib.leNat ((s.extract (8 * j) s.size).data.toList.take 8) = xs.getD j 0 := by
  refine ⟨by rw [ByteArray.size_extract]; omega, ?_⟩
  rw [Lib.extract_to_end, hw j hj, getD_lt _ _ hj]

set_option maxHeartbeats 1000000 in
/-- The words are alike in number. -/
theorem cmp_same (l1 l2 : Nat) (s1 s2 : ByteArray) (xs ys : List Nat) (h1 : s1.size = 8 * xs.length) (h2 : s2.size = 8 * ys.length) (hl : xs.length = ys.length) (hx : xs.length ≤ 10000000000)
    (hw1 : ∀ i (h : i < xs.length), Lib.leNat ((s1.data.toList.drop (8 * i)).take 8) = xs[i]) (hw2 : ∀ i (h : i < ys.length), Lib.leNat ((s2.data.toList.drop (8 * i)).take 8) = ys[i])
    (r : Int) (hr1 : ∀ j, j < xs.length → xs.drop (j + 1) = ys.drop (j + 1) → xs.getD j 0 ≠ ys.getD j 0 → cmpN (xs.getD j 0) (ys.getD j 0) = r) (hr2 : xs = ys → cmpN l1 l2 = r) (w : World) :
    Calls Tryd.prog 36 #[.agg #[.int .u64 l1, .string s1], .agg #[.int .u64 l2, .string s2]] w (Ret (.int .i64 r) w) := by
  have e1 : ((s1.size : Int) != (s2.size : Int)) = false := by simp; omega
  have b1 : s1.size ≤ 80000000000 := by omega
  have b2 : s2.size ≤ 80000000000 := by omega
  have H1 := Lib.hid h1
  have H2 := Lib.hid h2
  have HL := Lib.hid hl
  have HW1 := Lib.hid hw1
  have HW2 := Lib.hid hw2
  have HR1 := Lib.hid hr1
  have HR2 := Lib.hid hr2
  clear h1 h2 hl hw1 hw2 hr1 hr2
  go_enter Tryd.func36, Tryd.ntmps36
  go_wp2
  go_loopw [5] (fun i wr => ∃ j : Nat, j ≤ xs.length ∧ i = .int .i64 (8 * (j : Int) - 8) ∧ Hid (xs.drop j = ys.drop j) ∧ Hid (Blk wr w.heap.size 24 [.int .u64 l1, .string s1]) ∧ Hid (Blk wr (w.heap.size + 1) 24 [.int .u64 l2, .string s2]) ∧ Hid (Ext w wr)) (fun i _ => (intOf i + 8).toNat)
  case atStart =>
    refine ⟨xs.length, Nat.le_refl _, ?_, Lib.hid ?_, Lib.hid ((Blk.new w _ _).alloc _), Lib.hid ?_, Lib.hid (((Ext.refl _).alloc _).alloc _)⟩
    · have := H1.out; congr 1; omega
    · rw [List.drop_length, HL.out, List.drop_length]
    · have h := Blk.new (w.alloc (.cells #[.int .u64 l1, .string s1] 24)) 24 [.int .u64 l2, .string s2]
      rw [World.size_alloc] at h
      exact h
  case round =>
    obtain ⟨j, hj, rfl, hd, hba, hbb, hex⟩ := hrel
    have c10 : wr.cell? ⟨w.heap.size, 0, none⟩ = some (.int .u64 l1) := hba.out.cell 0
    have c11 : wr.cell? ⟨w.heap.size, 1, none⟩ = some (.string s1) := hba.out.cell 1
    have c20 : wr.cell? ⟨w.heap.size + 1, 0, none⟩ = some (.int .u64 l2) := hbb.out.cell 0
    have c21 : wr.cell? ⟨w.heap.size + 1, 1, none⟩ = some (.string s2) := hbb.out.cell 1
    by_cases hj0 : j = 0
    · subst hj0
      go_wp2_with (go_at_call 93; refine (cmpWord_any _ _ _).mono ?_; rintro e w' ⟨rfl, rfl⟩)
      go_ret
      refine ⟨ret_int (HR2.out ?_), hex.out⟩
      simpa using hd.out
    · obtain ⟨j, rfl⟩ : ∃ k, j = k + 1 := ⟨j - 1, by omega⟩
      have hjx : j < xs.length := by omega
      have hjy : j < ys.length := by have := HL.out; omega
      obtain ⟨c1, c2⟩ := cut_word H1.out HW1.out hjx
      obtain ⟨d1, d2⟩ := cut_word H2.out HW2.out hjy
      have hdd : xs.getD j 0 = ys.getD j 0 → xs.drop j = ys.drop j := fun e => by
        rw [List.drop_eq_getElem_cons hjx, List.drop_eq_getElem_cons hjy, hd.out, ← getD_lt _ _ hjx, ← getD_lt _ _ hjy, e]
      have hR := HR1.out j hjx hd.out
      have C2 := Lib.hid c2
      have D2 := Lib.hid d2
      have HRR := Lib.hid hR
      have HDD := Lib.hid hdd
      have q1 : 8 * j ≤ s1.size := by have := H1.out; omega
      have q2 : 8 * j ≤ s2.size := by have := H2.out; omega
      clear c2 d2 hR hdd
      rw [show (8 * ((j + 1 : Nat) : Int) - 8) = ((8 * j : Nat) : Int) from by omega]
      have hpj : 8 * j ≤ 80000000000 := by omega
      have HP : Hid (∃ p, p = 8 * j) := Lib.hid ⟨_, rfl⟩
      generalize hp : 8 * j = p at *
      have HPJ := Lib.hid hp
      clear hp HP
      generalize xs.getD j 0 = x at *
      generalize ys.getD j 0 = y at *
      have hcall : ∀ W, Calls Tryd.prog 86 #[.string (s1.extract p s1.size)] W fun e w' => e = .returned (.int .u64 x) ∧ ∃ n, w' = W.drewN n := fun W => word_any _ x c1 C2.out W
      have hcall2 : ∀ W, Calls Tryd.prog 86 #[.string (s2.extract p s2.size)] W fun e w' => e = .returned (.int .u64 y) ∧ ∃ n, w' = W.drewN n := fun W => word_any _ y d1 D2.out W
      have HA := Lib.hid hcall
      have HB := Lib.hid hcall2
      clear hcall hcall2 c1 d1
      by_cases hne : x = y
      · subst hne
        have hb : ((x : Int) != (x : Int)) = false := by simp
        go_wp2
        go_quiet ((first | (go_at_call_of 86 (Value.string (s1.extract p s1.size)); exact Calls.quiet_of (HA.out _)) | (go_at_call_of 86 (Value.string (s2.extract p s2.size)); exact Calls.quiet_of (HB.out _))))
        go_wp2
        go_roundw
        case rel => exact ⟨j, by omega, by have := HPJ.out; congr 1; omega, Lib.hid (HDD.out (by simp)), hba, hbb, Lib.hid (hex.out.drewN _)⟩
        case measure => have := HPJ.out; simp [intOf]; omega
      · have hb : ((x : Int) != (y : Int)) = true := by simp; omega
        go_wp2
        go_quiet ((first | (go_at_call_of 86 (Value.string (s1.extract p s1.size)); exact Calls.quiet_of (HA.out _)) | (go_at_call_of 86 (Value.string (s2.extract p s2.size)); exact Calls.quiet_of (HB.out _))))
        go_wp2_with (go_at_call 93; refine (cmpWord_any _ _ _).mono ?_; rintro e w' ⟨rfl, rfl⟩)
        go_ret
        exact ⟨ret_int (HRR.out hne), hex.out.drewN _⟩

set_option maxHeartbeats 1000000 in
theorem cmp_lt (l1 l2 : Nat) (s1 s2 : ByteArray) (h : s1.size < s2.size) (w : World) :
    Calls Tryd.prog 36 #[.agg #[.int .u64 l1, .string s1], .agg #[.int .u64 l2, .string s2]] w (Ret (.int .i64 (-1)) w) := by
  have e1 : ((s1.size : Int) != (s2.size : Int)) = true := by simp; omega
  go_enter Tryd.func36, Tryd.ntmps36
  go_wp2
  go_ret
  exact ⟨rfl, ((Ext.refl _).alloc _).alloc _⟩
set_option maxHeartbeats 1000000 in
theorem cmp_gt (l1 l2 : Nat) (s1 s2 : ByteArray) (h : s2.size < s1.size) (w : World) :
    Calls Tryd.prog 36 #[.agg #[.int .u64 l1, .string s1], .agg #[.int .u64 l2, .string s2]] w (Ret (.int .i64 1) w) := by
  have e1 : ((s1.size : Int) != (s2.size : Int)) = true := by simp; omega
  go_enter Tryd.func36, Tryd.ntmps36
  go_wp2
  go_ret
  exact ⟨rfl, ((Ext.refl _).alloc _).alloc _⟩

theorem lo_mod (n : Nat) : n = lo n + B64 * (n / B64) := (Nat.mod_add_div n B64).symm

theorem cmpN_parts {l1 l2 x y b : Nat} (h1 : l1 < b) (h2 : l2 < b) : (x ≠ y → cmpN (l1 + b * x) (l2 + b * y) = cmpN x y) ∧ (x = y → cmpN (l1 + b * x) (l2 + b * y) = cmpN l1 l2) := by
  constructor
  · intro h
    rcases Nat.lt_or_ge x y with h' | h'
    · rw [cmpN_lt h', cmpN_lt]
      have : b * (x + 1) ≤ b * y := Nat.mul_le_mul_left _ h'
      rw [Nat.mul_add, Nat.mul_one] at this; omega
    · have h' : y < x := by omega
      rw [cmpN_gt h', cmpN_gt]
      have : b * (y + 1) ≤ b * x := Nat.mul_le_mul_left _ h'
      rw [Nat.mul_add, Nat.mul_one] at this; omega
  · rintro rfl
    unfold cmpN
    split <;> split <;> (try split) <;> (try split) <;> omega

theorem cmp_any (a b : Nat) (ha : bl a ≤ 549755813888) (_hb : bl b ≤ 549755813888) (w : World) :
    Calls Tryd.prog 36 #[.agg #[.int .u64 (lo a : Nat), .string (hi a)], .agg #[.int .u64 (lo b : Nat), .string (hi b)]] w (Ret (.int .i64 (cmpN a b)) w) := by
  have s1 := hi_size a
  have s2 := hi_size b
  rcases Nat.lt_trichotomy (limbs B64 (a / B64)).length (limbs B64 (b / B64)).length with h | h | h
  · have hlt := lt_of_limbs B64_two h
    have hab : a < b := by
      rcases Nat.lt_or_ge a b with h' | h'
      · exact h'
      · have := Nat.div_le_div_right (c := B64) h'; omega
    rw [cmpN_lt hab]
    exact cmp_lt _ _ _ _ (by omega) w
  · have hbl : 64 * (limbs B64 (a / B64)).length ≤ bl a := by
      by_cases h0 : a = 0
      · subst h0; rw [Nat.zero_div, limbs_zero]; simp
      · have := limbs_bl a; rw [lo_hi_limbs a h0, List.length_cons, Nat.add_sub_cancel] at this; exact this
    have hp := cmpN_parts (x := a / B64) (y := b / B64) (lo_lt a) (lo_lt b)
    rw [← lo_mod a, ← lo_mod b] at hp
    have va := val_limbs B64_two (a / B64)
    have vb := val_limbs B64_two (b / B64)
    refine cmp_same (lo a) (lo b) (hi a) (hi b) (limbs B64 (a / B64)) (limbs B64 (b / B64)) s1 s2 h (by omega) (fun i hi => hi_word a i hi) (fun i hi => hi_word b i hi) _ ?_ ?_ w
    · intro j hj hd hne
      have hjb : j < (limbs B64 (b / B64)).length := by omega
      have da := limbs_dig B64_two (a / B64)
      have db := limbs_dig B64_two (b / B64)
      rw [getD_lt _ _ hj, getD_lt _ _ hjb] at hne ⊢
      rcases Nat.lt_or_ge (limbs B64 (a / B64))[j] (limbs B64 (b / B64))[j] with h' | h'
      · have := val_lt_at da h hj hd h'
        rw [va, vb] at this
        rw [hp.1 (by omega), cmpN_lt this, cmpN_lt h']
      · have h' : (limbs B64 (b / B64))[j] < (limbs B64 (a / B64))[j] := by omega
        have := val_lt_at db h.symm hjb hd.symm h'
        rw [va, vb] at this
        rw [hp.1 (by omega), cmpN_gt this, cmpN_gt h']
    · intro e
      exact (hp.2 (by rw [← va, ← vb, e])).symm
  · have hlt := lt_of_limbs B64_two h
    have hab : b < a := by
      rcases Nat.lt_or_ge b a with h' | h'
      · exact h'
      · have := Nat.div_le_div_right (c := B64) h'; omega
    rw [cmpN_gt hab]
    exact cmp_gt _ _ _ _ (by omega) w

end Go.Proofs.YtcfpjgcellahnaaDoor
