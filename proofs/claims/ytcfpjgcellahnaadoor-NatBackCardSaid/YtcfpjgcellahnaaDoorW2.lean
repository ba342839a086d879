/- Walks: Small, Bits, trim, words of package nat. -/
import Derived.Test.YtcfpjgcellahnaaDoorW1
import Derived.Test.YtcfpjgcellahnaaDoorBits
import Derived.LoopTactic
import Derived.Lib.IndexBytes
namespace Go.Proofs.YtcfpjgcellahnaaDoor
open Go.RowKit

theorem Ext.drewN {a b : World} (h : Ext a b) (n : Nat) : Ext a (b.drewN n) := ⟨h.os, h.tape, h.output, h.size, h.block⟩

theorem hi_small {n : Nat} (h : n < B64) : hi n = ⟨#[]⟩ := by unfold hi; rw [hi_eq_nil.2 h]
theorem lo_small {n : Nat} (h : n < B64) : lo n = n := Nat.mod_eq_of_lt h
theorem isEmpty_of_size {s : ByteArray} (h : 0 < s.size) : s.toList.isEmpty = false := by
  rw [Lib.toList_data]
  have hsz : s.data.toList.length = s.size := by simp
  cases hl : s.data.toList with
  | nil => rw [hl, List.length_nil] at hsz; omega
  | cons x xs => rfl
theorem hi_len {n : Nat} (h : B64 ≤ n) : 1 ≤ (limbs B64 (n / B64)).length :=
  limbs_length_pos B64_two (Nat.ne_of_gt (Nat.div_pos h (by unfold B64; omega)))
theorem hi_big {n : Nat} (h : B64 ≤ n) : (hi n).toList.isEmpty = false :=
  isEmpty_of_size (by rw [hi_size]; have := hi_len h; omega)
theorem hi_data (n : Nat) : (hi n).data.toList = (limbs B64 (n / B64)).flatMap le8 := rfl
theorem hi_word (n i : Nat) (h : i < (limbs B64 (n / B64)).length) : Lib.leNat (((hi n).data.toList.drop (8 * i)).take 8) = (limbs B64 (n / B64))[i] :=
  flat8_word (limbs_dig B64_two _) h

theorem word_any (s : ByteArray) (t : Nat) (hs : 8 ≤ s.size) (ht : Lib.leNat (s.data.toList.take 8) = t) (w : World) :
    Calls Tryd.prog 86 #[.string s] w fun e w' => e = .returned (.int .u64 t) ∧ ∃ n, w' = w.drewN n := by
  subst ht; exact word_core s w hs

set_option maxHeartbeats 400000 in
theorem small_lt (n : Nat) (hn : n < B64) (w : World) :
    Calls Tryd.prog 19 #[.agg #[.int .u64 (lo n : Nat), .string (hi n)]] w (Ret (.tuple #[.int .u64 n, .bool true]) w) := by
  rw [hi_small hn, lo_small hn]
  go_enter Tryd.func19, Tryd.ntmps19
  go_wp2
  go_ret2
  exact ⟨rfl, (Ext.refl _).alloc _⟩

set_option maxHeartbeats 400000 in
theorem small_ge (n : Nat) (hn : B64 ≤ n) (w : World) :
    Calls Tryd.prog 19 #[.agg #[.int .u64 (lo n : Nat), .string (hi n)]] w (Ret (.tuple #[.int .u64 0, .bool false]) w) := by
  have h1 := hi_big hn
  generalize hi n = s at *
  generalize lo n = l at *
  have h2 : (!s.toList.isEmpty) = true := by rw [h1]; rfl
  go_enter Tryd.func19, Tryd.ntmps19
  go_wp2
  go_ret2
  exact ⟨rfl, (Ext.refl _).alloc _⟩

set_option maxHeartbeats 400000 in
theorem len64_any (x : Nat) (hx : x < B64) (w : World) : Calls Tryd.prog 85 #[.int .u64 x] w fun e w' => e = .returned (.int .i64 (bl x : Nat)) ∧ w' = w := by
  have h := Tryd.bits_Len64 (x : Int) w (by omega) (by unfold B64 at hx; omega)
  rw [Int.toNat_natCast, bitLen_eq hx] at h
  exact h

set_option maxHeartbeats 400000 in
theorem bits_lt (n : Nat) (hn : n < B64) (w : World) :
    Calls Tryd.prog 27 #[.agg #[.int .u64 (lo n : Nat), .string (hi n)]] w (Ret (.int .i64 (bl n : Nat)) w) := by
  rw [hi_small hn, lo_small hn]
  go_enter Tryd.func27, Tryd.ntmps27
  go_wp2_with (go_at_call 85; refine (len64_any n hn _).mono ?_; rintro e w' ⟨rfl, rfl⟩)
  go_ret
  exact ⟨rfl, (Ext.refl _).alloc _⟩

set_option maxHeartbeats 400000 in
theorem bits_ge_core (l k t : Nat) (s : ByteArray) (hs : s.size = 8 * k) (hk : 1 ≤ k) (hb : k ≤ 100000000000) (ht : t < B64) (hw : Lib.leNat ((s.data.toList.drop (8 * (k - 1))).take 8) = t) (w : World) :
    Calls Tryd.prog 27 #[.agg #[.int .u64 l, .string s]] w (Ret (.int .i64 (64 * k + bl t : Nat)) w) := by
  have h1 : s.toList.isEmpty = false := isEmpty_of_size (by omega)
  have hbt : bl t ≤ 64 := bl_le ht
  have hx1 : 8 ≤ (s.extract (8 * k - 8) (8 * k)).size := by rw [ByteArray.size_extract]; omega
  have hx2 : Lib.leNat ((s.extract (8 * k - 8) (8 * k)).data.toList.take 8) = t := by
    rw [← hs, Lib.extract_to_end, ← hw, hs]
    congr 3; omega
  have HX2 := Lib.hid hx2
  clear hx2 hw
  go_enter Tryd.func27, Tryd.ntmps27
  go_wp2
  go_quiet ((first | (go_at_call 86; exact Calls.quiet_of (word_any _ t hx1 HX2.out _)) | (go_at_call 85; exact Calls.quiet_of_same (len64_any t ht _))))
  go_wp2
  go_ret
  exact ⟨ret_int (by push_cast; omega), ((Ext.refl _).alloc _).drewN _⟩

theorem bits_any (n : Nat) (hn : bl n ≤ 1099511627776) (w : World) :
    Calls Tryd.prog 27 #[.agg #[.int .u64 (lo n : Nat), .string (hi n)]] w (Ret (.int .i64 (bl n : Nat)) w) := by
  rcases Nat.lt_or_ge n B64 with h | h
  · exact bits_lt n h w
  · have hl := hi_len h
    have hb := limbs_bl n
    rw [limbs_length_hi n h] at hb
    rw [bl_top n h (by omega)]
    exact bits_ge_core (lo n) _ _ (hi n) (hi_size n) hl (by omega) ((limbs_dig B64_two _).get _ (by omega)) (hi_word n _ (by omega)) w

/-! ### trim -/
theorem getD_U (xs : List Nat) (i : Nat) (h : i < xs.length) : (U xs)[i]? = some (.int .u64 (xs.getD i 0 : Nat)) := by
  unfold U
  rw [List.getElem?_map, List.getElem?_eq_getElem h, getD_lt xs i h]
  rfl

theorem trim_step {b : Nat} {xs : List Nat} {m : Nat} (h0 : xs.getD m 0 = 0) : val b (xs.take (m + 1)) = val b (xs.take m) := by
  rw [val_take_getD, h0]; simp
theorem trim_end {b : Nat} (hb : 2 ≤ b) {xs : List Nat} {m : Nat} (hd : Dig b xs) (hm : m ≤ xs.length) (hv : val b (xs.take m) = val b xs) (h0 : 0 < m → xs.getD (m - 1) 0 ≠ 0) :
    limbs b (val b xs) = xs.take m := by
  rw [← hv]
  refine limbs_val hb (hd.take m) ?_
  unfold Top
  rw [List.getLast?_eq_getElem?, List.length_take, Nat.min_eq_left hm]
  by_cases hm0 : m = 0
  · subst hm0; simp
  · have h1 := h0 (by omega)
    rw [getD_lt _ _ (by omega)] at h1
    rw [List.getElem?_take_of_lt (by omega), List.getElem?_eq_getElem (by omega)]
    intro e; injection e with e; exact h1 e

set_option maxHeartbeats 400000 in
theorem trim_nil (w : World) : Calls Tryd.prog 107 #[.slice none 0 0] w fun e w' => e = .returned (.slice none 0 0) ∧ w = w' := by
  go_enter Tryd.func107, Tryd.ntmps107
  go_wp2
  go_rounds 1
  go_ret
  exact ⟨rfl, rfl⟩

set_option maxHeartbeats 400000 in
theorem trim_core (g off c : Nat) (xs : List Nat) (w : World) (hl : xs.length ≤ c) (hc : xs.length ≤ 1099511627776) (hd : Dig B64 xs) (hcell : ∀ i, i < xs.length → w.cell? ⟨g, off + i, none⟩ = some (.int .u64 (xs.getD i 0 : Nat))) :
    Calls Tryd.prog 107 #[.slice (some ⟨g, off, none⟩) xs.length c] w fun e w' => e = .returned (.slice (some ⟨g, off, none⟩) (limbs B64 (val B64 xs)).length c) ∧ w = w' := by
  have HC := Lib.hid hcell
  clear hcell
  go_enter Tryd.func107, Tryd.ntmps107
  go_wp2
  go_loop [0] (fun v => ∃ m : Nat, m ≤ xs.length ∧ v = .slice (some ⟨g, off, none⟩) m c ∧ Hid (val B64 (xs.take m) = val B64 xs)) (fun v => match v with | .slice _ n _ => n | _ => 0)
  case atStart => exact ⟨xs.length, Nat.le_refl _, rfl, Lib.hid (by rw [List.take_length])⟩
  case round =>
    obtain ⟨m, hm, rfl, hv⟩ := hrel
    by_cases hm0 : m = 0
    · subst hm0
      go_wp2
      go_ret
      refine ⟨?_, rfl⟩
      have := trim_end B64_two hd hm hv.out (by omega)
      rw [this]; simp
    · obtain ⟨m, rfl⟩ : ∃ k, m = k + 1 := ⟨m - 1, by omega⟩
      have hcm := HC.out m (by omega)
      by_cases hx : xs.getD m 0 = 0
      · rw [hx] at hcm
        go_wp2
        go_round
        case rel => exact ⟨m, by omega, rfl, Lib.hid (by rw [← trim_step hx]; exact hv.out)⟩
        case measure => simp
      · have hb : ((xs.getD m 0 : Nat) : Int) ≠ 0 := by omega
        have hb' : (((xs.getD m 0 : Nat) : Int) == 0) = false := beq_eq_false_iff_ne.2 hb
        generalize hy : xs.getD m 0 = y at *
        have HY := Lib.hid hy
        clear hy
        go_wp2
        go_ret
        refine ⟨?_, rfl⟩
        have := trim_end B64_two hd hm hv.out (fun _ => by rw [Nat.add_sub_cancel, HY.out]; exact hx)
        rw [this, List.length_take, Nat.min_eq_left hm]
        rfl

end Go.Proofs.YtcfpjgcellahnaaDoor
