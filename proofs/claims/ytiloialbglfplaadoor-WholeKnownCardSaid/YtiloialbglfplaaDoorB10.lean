/- Greatest common divisors by halves: plain mathematics. Lists of words of one's own, changed in place: trim, zeros, down, compare, subtract of package whole. Walks over whole: compare, subtract. Walks over whole: words, number. Walks over whole: binary. Walks over whole: Gcd. (Printed by walks/zg.py.) Powers and roots: plain mathematics. Walks: Pow. Walks: hand.Pick. Walks: hand.Pick at a bound that has gone over. The numbers of Bezout: what they are. What every law's row takes from its walk: the arguments read as they did, the result is true. The table of TrailingZeros64, as a row lists it. The arguments of a law, opened: slices of bytes. A slice cut off behind some of its elements. Walks: mulAddWord. Decimal texts: plain mathematics. Walks: Parse. -/
import Derived.Lib.TrailingZeros
import Derived.Shelf.Spec.TrailingZeros
import Derived.Laws.Bits64b
import Derived.Deep.LoopGhost
import Derived.Test.YtiloialbglfplaaDoorRows
import Derived.Test.YtiloialbglfplaaDoorTie
import Derived.ProofKit
import Derived.LaidMore
import Derived.OpenShut
import Derived.Stop.Joined
import Derived.Carry
import Derived.SevenTiedAt
import Derived.Deep.DeepHandedRow
import Derived.Lib.LaidTab
import Derived.Stop.LaidErr
import Derived.Laws.OwnMore
import Derived.Lib.ItoaNum
import Derived.Test.YtiloialbglfplaaDoorB9
namespace Go.Proofs.YtiloialbglfplaaDoor

/-- How often 2 divides. -/
def tw (n : Nat) : Nat := if _h : n = 0 then 0 else if n % 2 = 1 then 0 else tw (n / 2) + 1
termination_by n
decreasing_by omega
theorem tw_spec : ∀ {n : Nat}, 0 < n → ∃ m, n = 2 ^ tw n * (2 * m + 1) := by
  intro n
  induction n using Nat.strongRecOn with
  | _ n ih =>
    intro h
    unfold tw
    rw [dif_neg (by omega)]
    split
    · exact ⟨n / 2, by rw [Nat.pow_zero]; omega⟩
    · obtain ⟨m, hm⟩ := ih (n / 2) (by omega) (by omega)
      refine ⟨m, ?_⟩
      rw [Nat.pow_succ, Nat.mul_comm (2 ^ tw (n / 2)) 2, Nat.mul_assoc, ← hm]
      omega
theorem tw_eq : ∀ {k n m : Nat}, n = 2 ^ k * (2 * m + 1) → tw n = k := by
  intro k
  induction k with
  | zero =>
    intro n m h
    rw [Nat.pow_zero, Nat.one_mul] at h
    unfold tw
    rw [dif_neg (by omega), if_pos (by omega)]
  | succ k ih =>
    intro n m h
    have hp : 0 < 2 ^ k * (2 * m + 1) := Nat.mul_pos (Nat.pow_pos (by omega)) (by omega)
    rw [Nat.pow_succ, Nat.mul_comm (2 ^ k) 2, Nat.mul_assoc] at h
    unfold tw
    rw [dif_neg (by omega), if_neg (by omega), ih (m := m) (by omega)]
def od (n : Nat) : Nat := n / 2 ^ tw n
theorem od_spec {n : Nat} (h : 0 < n) : n = 2 ^ tw n * od n ∧ od n % 2 = 1 := by
  obtain ⟨m, hm⟩ := tw_spec h
  have e : od n = 2 * m + 1 := by
    unfold od
    conv => lhs; rw [hm, tw_eq rfl]
    exact Nat.mul_div_cancel_left _ (Nat.pow_pos (by omega))
  exact ⟨by rw [e]; exact hm, by rw [e]; omega⟩
theorem od_pos {n : Nat} (h : 0 < n) : 0 < od n := by have := (od_spec h).2; omega
theorem od_le (n : Nat) : od n ≤ n := Nat.div_le_self _ _
theorem tw_zeros {x : Nat} (i : Nat) (ys : List Nat) (h0 : x ≠ 0) (hx : x < B64) : tw (val B64 (List.replicate i 0 ++ x :: ys)) = 64 * i + Lib.ctz 64 x := by
  obtain ⟨m, hm, hk⟩ := Lib.ctzFrom_spec 64 x (by omega) hx
  have e : Lib.ctz 64 x = Lib.ctzFrom 64 x := by simp [Lib.ctz, h0]
  rw [e, val_append, val_rep, List.length_replicate, Nat.zero_add, val_cons]
  generalize Lib.ctzFrom 64 x = c at *
  subst hm
  refine tw_eq (m := m + 2 ^ (63 - c) * val B64 ys) ?_
  rw [show B64 ^ i = 2 ^ (64 * i) from by rw [B64_pow], Nat.pow_add, Nat.mul_assoc]
  congr 1
  rw [show B64 = 2 ^ c * (2 * 2 ^ (63 - c)) from by rw [← Nat.pow_succ', ← Nat.pow_add, show c + (63 - c).succ = 64 from by omega]; rfl]
  generalize 2 ^ (63 - c) = q
  generalize 2 ^ c = p
  grind
theorem cop2 {n : Nat} (h : n % 2 = 1) (k : Nat) : Nat.Coprime (2 ^ k) n := by
  refine Nat.Coprime.pow_left k ?_
  unfold Nat.Coprime
  rw [Nat.gcd_rec, h]
  rfl
theorem gcd_od {x y : Nat} (hx : 0 < x) (hy : 0 < y) : Nat.gcd x y = 2 ^ min (tw x) (tw y) * Nat.gcd (od x) (od y) := by
  obtain ⟨ex, ox⟩ := od_spec hx
  obtain ⟨ey, oy⟩ := od_spec hy
  generalize od x = X at *
  generalize od y = Y at *
  generalize tw x = a at *
  generalize tw y = b at *
  subst ex; subst ey
  rcases Nat.le_total a b with h | h
  · obtain ⟨d, rfl⟩ := Nat.le.dest h
    rw [Nat.min_eq_left h, Nat.pow_add, Nat.mul_assoc, Nat.gcd_mul_left, Nat.Coprime.gcd_mul_left_cancel_right Y (cop2 ox d)]
  · obtain ⟨d, rfl⟩ := Nat.le.dest h
    rw [Nat.min_eq_right h, Nat.pow_add, Nat.mul_assoc, Nat.gcd_mul_left, Nat.Coprime.gcd_mul_left_cancel X (cop2 oy d)]
/-- One round. -/
theorem gcd_step {x y : Nat} (h : y < x) (hy : y % 2 = 1) : Nat.gcd (od (x - y)) y = Nat.gcd x y := by
  have h1 : Nat.gcd (x - y) y = Nat.gcd x y := Nat.gcd_sub_self_left (Nat.le_of_lt h)
  rw [← h1]
  conv => rhs; rw [(od_spec (n := x - y) (by omega)).1]
  rw [Nat.Coprime.gcd_mul_left_cancel _ (cop2 hy _)]
theorem tw_lt_bl {n k : Nat} (h : 0 < n) (hk : n < 2 ^ k) : tw n < k := by
  have h1 := (od_spec h).1
  have h2 := od_pos h
  refine (Nat.pow_lt_pow_iff_right (a := 2) (by omega)).1 ?_
  refine Nat.lt_of_le_of_lt ?_ hk
  conv => rhs; rw [h1]
  exact Nat.le_mul_of_pos_right _ h2
/-- Where the first word that is not 0 lies. -/
theorem first_word : ∀ {xs : List Nat}, 0 < val B64 xs → ∃ i x ys, xs = List.replicate i 0 ++ x :: ys ∧ x ≠ 0 := by
  intro xs
  induction xs with
  | nil => intro h; simp at h
  | cons x xs ih =>
    intro h
    by_cases hx : x = 0
    · subst hx
      obtain ⟨i, y, ys, e, h0⟩ := ih (by
        rw [val_cons, Nat.zero_add] at h
        exact Nat.pos_of_mul_pos_left h)
      exact ⟨i + 1, y, ys, by rw [e, List.replicate_succ]; rfl, h0⟩
    · exact ⟨0, x, xs, rfl, hx⟩

/-! ### Words to bytes -/
def wb (xs : List Nat) : List UInt8 := (xs.flatMap le8).reverse
theorem wb_length (xs : List Nat) : (wb xs).length = 8 * xs.length := by unfold wb; rw [List.length_reverse, flat8_length]
theorem le8_val256 {x : Nat} (h : x < B64) : val 256 ((le8 x).map UInt8.toNat) = x := by
  have h1 : Lib.leNat (le8 x) = x := by
    exact Lib.leNat_leBytes 8 x h
  have h2 : ∀ l : List UInt8, val 256 (l.map UInt8.toNat) = Lib.leNat l := by
    intro l
    induction l with
    | nil => rfl
    | cons a l ih => rw [List.map_cons, val_cons, ih]; rfl
  rw [h2, h1]
theorem wb_val : ∀ {xs : List Nat}, Dig B64 xs → beN (wb xs) = val B64 xs := by
  intro xs hd
  unfold beN rb wb
  rw [List.map_reverse, List.reverse_reverse]
  induction xs with
  | nil => rfl
  | cons x xs ih =>
    rw [List.flatMap_cons, List.map_append, val_append, le8_val256 hd.head, ih hd.tail, List.length_map, le8_length, val_cons]
    rfl
end Go.Proofs.YtiloialbglfplaaDoor

namespace Go.Proofs.YtiloialbglfplaaDoor
open Go.RowKit

/-- The slice v of block g holds these words; before and behind them lie words of no account. -/
def OW (g : Nat) (xs : List Nat) (v : Value) (w : World) : Prop := ∃ P Q : List Nat, v = .slice (some ⟨g, P.length, none⟩) xs.length (xs.length + Q.length) ∧ Blk w g 23 (U (P ++ xs ++ Q))
theorem mid_get (P L Q : List Nat) (k : Nat) (h : k < L.length) : (U (P ++ L ++ Q))[P.length + k]? = some (.int .u64 (L.getD k 0 : Nat)) := by
  rw [getD_U _ _ (by simp; omega), List.getD_eq_getElem?_getD, List.getD_eq_getElem?_getD, List.append_assoc, List.getElem?_append_right (by omega), Nat.add_sub_cancel_left, List.getElem?_append_left h]
theorem mid_set (P L Q : List Nat) (k y : Nat) (h : k < L.length) : (U (P ++ L ++ Q)).set (P.length + k) (.int .u64 (y : Nat)) = U (P ++ L.set k y ++ Q) := by
  rw [U_set, List.append_assoc, List.set_append_right _ _ (by omega), Nat.add_sub_cancel_left, List.set_append_left _ _ h, List.append_assoc]
theorem OW.ext {g : Nat} {xs : List Nat} {v : Value} {w w' : World} (h : OW g xs v w) (e : Ext w w') : OW g xs v w' := by
  obtain ⟨P, Q, rfl, hb⟩ := h
  exact ⟨P, Q, rfl, hb.ext e⟩
theorem OW.but {g g' : Nat} {xs : List Nat} {v : Value} {w w' : World} (h : OW g xs v w) (e : But g' w w') (hne : g ≠ g') : OW g xs v w' := by
  obtain ⟨P, Q, rfl, hb⟩ := h
  exact ⟨P, Q, rfl, e.blk hb hne⟩
theorem OW.lt {g : Nat} {xs : List Nat} {v : Value} {w : World} (h : OW g xs v w) : g < w.heap.size := by
  obtain ⟨P, Q, rfl, hb⟩ := h
  exact hb.lt
theorem OW.of_blk {g : Nat} {xs : List Nat} {w : World} (h : Blk w g 23 (U xs)) : OW g xs (.slice (some ⟨g, 0, none⟩) xs.length xs.length) w :=
  ⟨[], [], by simp, by simpa using h⟩
/-- The cells. -/
theorem OW.open {g : Nat} {xs : List Nat} {v : Value} {w : World} (h : OW g xs v w) : ∃ off c, v = .slice (some ⟨g, off, none⟩) xs.length c ∧ xs.length ≤ c ∧ ∀ i, i < xs.length → w.cell? ⟨g, off + i, none⟩ = some (.int .u64 (xs.getD i 0 : Nat)) := by
  obtain ⟨P, Q, rfl, hb⟩ := h
  exact ⟨_, _, rfl, by omega, fun i hi => by rw [hb.cell, mid_get _ _ _ _ hi]⟩
theorem limbs_pad : ∀ {xs : List Nat}, Dig B64 xs → ∃ r, xs = limbs B64 (val B64 xs) ++ List.replicate r 0 := by
  intro xs
  induction xs with
  | nil => intro _; exact ⟨0, by rw [val_nil, limbs_zero]; rfl⟩
  | cons x xs ih =>
    intro hd
    obtain ⟨r, hr⟩ := ih hd.tail
    by_cases h0 : val B64 (x :: xs) = 0
    · rw [h0, limbs_zero]
      rw [val_cons] at h0
      have hx : x = 0 := by omega
      have hv : val B64 xs = 0 := by
        rcases Nat.mul_eq_zero.1 (show B64 * val B64 xs = 0 from by omega) with h | h
        · unfold B64 at h; omega
        · exact h
      rw [hv, limbs_zero] at hr
      exact ⟨r + 1, by rw [hx, List.replicate_succ, List.nil_append]; congr 1⟩
    · have hx := hd.head
      refine ⟨r, ?_⟩
      rw [limbs_pos B64_two h0, val_cons, Nat.add_mul_mod_self_left, Nat.mod_eq_of_lt hx, Nat.add_mul_div_left _ _ (by unfold B64; omega), Nat.div_eq_of_lt hx, Nat.zero_add, List.cons_append, ← hr]
theorem OW.limbs {g : Nat} {P xs Q : List Nat} {w : World} (hd : Dig B64 xs) (hb : Blk w g 23 (U (P ++ xs ++ Q))) :
    OW g (limbs B64 (val B64 xs)) (.slice (some ⟨g, P.length, none⟩) (Go.Proofs.YtiloialbglfplaaDoor.limbs B64 (val B64 xs)).length (xs.length + Q.length)) w := by
  obtain ⟨r, hr⟩ := limbs_pad hd
  refine ⟨P, List.replicate r 0 ++ Q, ?_, ?_⟩
  · have hl := congrArg List.length hr
    rw [List.length_append, List.length_replicate] at hl
    rw [List.length_append, List.length_replicate, ← Nat.add_assoc, ← hl]
  · rw [← List.append_assoc, List.append_assoc P, ← hr]
    exact hb
set_option maxHeartbeats 400000 in
theorem wtrim_core (g off c : Nat) (xs : List Nat) (w : World) (hl : xs.length ≤ c) (hc : xs.length ≤ 1099511627776) (hd : Dig B64 xs) (hcell : ∀ i, i < xs.length → w.cell? ⟨g, off + i, none⟩ = some (.int .u64 (xs.getD i 0 : Nat))) :
    Calls Tryd.prog 111 #[.slice (some ⟨g, off, none⟩) xs.length c] w fun e w' => e = .returned (.slice (some ⟨g, off, none⟩) (limbs B64 (val B64 xs)).length c) ∧ w = w' := by
  have HC := Lib.hid hcell
  clear hcell
  go_enter Tryd.func111, Tryd.ntmps111
  go_wp2
  go_loop [0] (fun v => ∃ m : Nat, m ≤ xs.length ∧ v = .slice (some ⟨g, off, none⟩) m c ∧ Hid (val B64 (xs.take m) = val B64 xs)) (fun v => match v with | .slice _ n _ => n | _ => 0)
  case atStart => exact ⟨xs.length, Nat.le_refl _, rfl, Lib.hid (by rw [List.take_length])⟩
  case round =>
    obtain ⟨m, hm, rfl, hv⟩ := hrel
    by_cases hm0 : m = 0
    · subst hm0
      go_wp2
      go_ret
      refine ⟨?_, rfl⟩
      have := trim_end B64_two hd hm hv.out (by omega)
      rw [this]; simp
    · obtain ⟨m, rfl⟩ : ∃ k, m = k + 1 := ⟨m - 1, by omega⟩
      have hcm := HC.out m (by omega)
      by_cases hx : xs.getD m 0 = 0
      · rw [hx] at hcm
        go_wp2
        go_round
        case rel => exact ⟨m, by omega, rfl, Lib.hid (by rw [← trim_step hx]; exact hv.out)⟩
        case measure => simp
      · have hb : ((xs.getD m 0 : Nat) : Int) ≠ 0 := by omega
        have hb' : (((xs.getD m 0 : Nat) : Int) == 0) = false := beq_eq_false_iff_ne.2 hb
        generalize hy : xs.getD m 0 = y at *
        have HY := Lib.hid hy
        clear hy
        go_wp2
        go_ret
        refine ⟨?_, rfl⟩
        have := trim_end B64_two hd hm hv.out (fun _ => by rw [Nat.add_sub_cancel, HY.out]; exact hx)
        rw [this, List.length_take, Nat.min_eq_left hm]
        rfl
theorem wtrim_ow {g : Nat} {xs : List Nat} {v : Value} {w : World} (h : OW g xs v w) (hl : xs.length ≤ 1099511627776) (hd : Dig B64 xs) :
    Calls Tryd.prog 111 #[v] w fun e w' => ∃ v', e = .returned v' ∧ OW g (limbs B64 (val B64 xs)) v' w ∧ w = w' := by
  obtain ⟨P, Q, rfl, hb⟩ := h
  refine (wtrim_core g P.length (xs.length + Q.length) xs w (by omega) hl hd (fun i hi => by rw [hb.cell, mid_get _ _ _ _ hi])).mono ?_
  rintro e w' ⟨rfl, rfl⟩
  exact ⟨_, rfl, OW.limbs hd hb, rfl⟩

/-- The table of TrailingZeros64. -/
def Tab64 (w : World) : Prop := TabAt 2 Lib.deBruijn64tab w
theorem Tab64.ext {w w' : World} (h : Tab64 w) (e : Ext w w') : Tab64 w' := fun i hi => e.keep (h i hi)
theorem Tab64.but {g : Nat} {w w' : World} (h : Tab64 w) (e : But g w w') (hne : g ≠ 2) : Tab64 w' := fun i hi =>
  (World.cell?_of_block (a := ⟨_, i, none⟩) (e.block _ (World.block_lt_of_cell? _ _ (h i hi)) (fun e' => by injection e' with e'; exact hne e'.symm))).trans (h i hi)
set_option maxHeartbeats 1000000 in
theorem tz64_core (x k idx : Nat) (w : World) (hx0 : ((x : Int) == 0) = false)
    (key : IntKind.u64.wrap (bits BinOp.and IntKind.u64 (x : Int) (IntKind.u64.wrap (-(x : Int))) * 285870213051353865) / 288230376151711744 = (idx : Int))
    (hi : idx < 64) (hk : k < 64) (hcell : w.cell? ⟨2, idx, none⟩ = some (.int .u8 k)) :
    Calls Tryd.prog 110 #[.int .u64 x] w fun e w' => e = .returned (.int .i64 k) ∧ w' = w := by
  go_enter Tryd.func110, Tryd.ntmps110
  go_wp2_with (simp only [key])
  go_ret
  exact ⟨rfl, rfl⟩
theorem tz64_any (x : Nat) (hx0 : x ≠ 0) (hx : x < B64) (w : World) (ht : Tab64 w) : Calls Tryd.prog 110 #[.int .u64 x] w fun e w' => e = .returned (.int .i64 (Lib.ctz 64 x)) ∧ w' = w := by
  obtain ⟨hlow, hk⟩ := Lib.lowest_bit 64 x hx0 hx
  obtain ⟨hi, htab⟩ := Lib.deBruijn64_at _ hk
  have hcell := ht _ hi
  rw [htab] at hcell
  exact tz64_core x _ _ w (by simp; omega) (tz64_key x _ hx hx0 hlow) hi hk hcell
theorem rep_getD0 (i j x : Nat) (ys : List Nat) (h : j < i) : (List.replicate i 0 ++ x :: ys).getD j 0 = 0 := by
  rw [List.getD_eq_getElem?_getD, List.getElem?_append_left (by simpa using h)]
  simp [h]
theorem rep_getDx (i x : Nat) (ys : List Nat) : (List.replicate i 0 ++ x :: ys).getD i 0 = x := by
  rw [List.getD_eq_getElem?_getD, List.getElem?_append_right (by simp)]
  simp

set_option maxHeartbeats 400000 in
theorem wzeros_core (g off c i x : Nat) (ys xs : List Nat) (he : xs = List.replicate i 0 ++ x :: ys) (w : World) (hc : xs.length ≤ 1099511627776) (h0 : x ≠ 0) (hx : x < B64) (ht : Tab64 w)
    (hcell : ∀ i, i < xs.length → w.cell? ⟨g, off + i, none⟩ = some (.int .u64 (xs.getD i 0 : Nat))) :
    Calls Tryd.prog 85 #[.slice (some ⟨g, off, none⟩) xs.length c] w fun e w' => e = .returned (.int .i64 (64 * i + Lib.ctz 64 x : Nat)) ∧ w = w' := by
  have HC := Lib.hid hcell
  have hi : i < xs.length := by rw [he]; simp
  have H0 : Hid (∀ j, j < i → xs.getD j 0 = 0) := Lib.hid (fun j hj => by rw [he]; exact rep_getD0 i j x ys hj)
  have HX : Hid (xs.getD i 0 = x) := Lib.hid (by rw [he]; exact rep_getDx i x ys)
  have hk : Lib.ctz 64 x < 64 := (Lib.lowest_bit 64 x h0 hx).2
  have HT := Lib.hid (tz64_any x h0 hx w ht)
  have hb' : ((x : Int) == 0) = false := beq_eq_false_iff_ne.2 (by omega)
  clear he hcell ht h0
  generalize Lib.ctz 64 x = cz at *
  go_enter Tryd.func85, Tryd.ntmps85
  go_wp2
  go_loop [3] (fun v => ∃ m : Nat, m ≤ i ∧ v = .int .i64 m) (fun v => i - (intOf v).toNat)
  case atStart => exact ⟨0, Nat.zero_le _, rfl⟩
  case round =>
    obtain ⟨m, hm, rfl⟩ := hrel
    by_cases hmi : m = i
    · subst hmi
      have hcm := HC.out m hi
      rw [HX.out] at hcm
      go_wp2_with (go_at_call 110; refine (HT.out).mono ?_; rintro e w' ⟨rfl, rfl⟩)
      go_ret
      exact ⟨ret_int (by push_cast; omega), rfl⟩
    · have hcm := HC.out m (by omega)
      rw [H0.out m (by omega)] at hcm
      go_wp2
      go_round
      case rel => exact ⟨m + 1, by omega, by go_num⟩
      case measure => simp [intOf]; omega
theorem wzeros_any (g off c : Nat) (xs : List Nat) (w : World) (hc : xs.length ≤ 1099511627776) (hd : Dig B64 xs) (hv : 0 < val B64 xs) (ht : Tab64 w)
    (hcell : ∀ i, i < xs.length → w.cell? ⟨g, off + i, none⟩ = some (.int .u64 (xs.getD i 0 : Nat))) :
    Calls Tryd.prog 85 #[.slice (some ⟨g, off, none⟩) xs.length c] w fun e w' => e = .returned (.int .i64 (tw (val B64 xs) : Nat)) ∧ w = w' := by
  obtain ⟨i, x, ys, he, h0⟩ := first_word hv
  have hx : x < B64 := hd x (by rw [he]; simp)
  have h := wzeros_core g off c i x ys xs he w hc h0 hx ht hcell
  rw [show tw (val B64 xs) = 64 * i + Lib.ctz 64 x from by rw [he]; exact tw_zeros i ys h0 hx]
  exact h

/-! ### down -/
def dnMix (p : Nat) (ys : List Nat) (k : Nat) : List Nat := (dn p ys).take k ++ ys.drop k
theorem dnMix_length (p : Nat) (ys : List Nat) (k : Nat) : (dnMix p ys k).length = ys.length := by
  unfold dnMix
  rw [List.length_append, List.length_take, dn_length, List.length_drop]
  omega
theorem dnMix_get (p : Nat) (ys : List Nat) (k i : Nat) (h : k ≤ i) (hi : i < ys.length) : (dnMix p ys k).getD i 0 = ys.getD i 0 := by
  unfold dnMix
  rw [List.getD_eq_getElem?_getD, List.getD_eq_getElem?_getD, List.getElem?_append_right (by rw [List.length_take, dn_length]; omega), List.length_take, dn_length, Nat.min_eq_left (by omega), List.getElem?_drop]
  congr 2; omega
theorem dnMix_set (p : Nat) (ys : List Nat) (k : Nat) (h : k < ys.length) : (dnMix p ys k).set k (dnW (ys.getD k 0) (ys.getD (k + 1) 0) p) = dnMix p ys (k + 1) := by
  unfold dnMix
  have hl : ((dn p ys).take k).length = k := by rw [List.length_take, dn_length]; omega
  rw [List.set_append_right _ _ (by omega), hl, Nat.sub_self, List.drop_eq_getElem_cons h, List.set_cons_zero, List.take_succ_eq_append_getElem (by rw [dn_length]; exact h), dn_get, List.append_assoc]
  rfl
theorem dnMix_all (p : Nat) (ys : List Nat) : dnMix p ys ys.length = dn p ys := by
  unfold dnMix
  rw [List.drop_length, List.append_nil, List.take_of_length_le (by rw [dn_length]; exact Nat.le_refl _)]

set_option maxHeartbeats 2000000 in
theorem wdown_any (g : Nat) (xs : List Nat) (v : Value) (w : World) (h : OW g xs v w) (hd : Dig B64 xs) (hv : 0 < val B64 xs) (hl : xs.length ≤ 10000000000) (ht : Tab64 w) :
    Calls Tryd.prog 86 #[v] w fun e w' => ∃ v', e = .returned v' ∧ OW g (limbs B64 (od (val B64 xs))) v' w' ∧ But g w w' := by
  obtain ⟨P, Q, rfl, hb⟩ := h
  have hdl : tw (val B64 xs) < 64 * xs.length := tw_lt_bl hv (by have := val_lt hd; rw [B64_pow] at this; exact this)
  have HZ := Lib.hid (wzeros_any g P.length (xs.length + Q.length) xs w (by omega) hd hv ht (fun i hi => by rw [hb.cell, mid_get _ _ _ _ hi]))
  have hdn := dn_all hd (tw (val B64 xs)) (by omega)
  have hod : od (val B64 xs) = val B64 xs / 2 ^ tw (val B64 xs) := rfl
  rw [hod, ← hdn]
  clear hod hdn ht
  generalize tw (val B64 xs) = d at *
  have hqx : d / 64 < xs.length := by omega
  obtain ⟨P', hP'⟩ : ∃ P', P ++ xs.take (d / 64) = P' := ⟨_, rfl⟩
  obtain ⟨ys, hys⟩ : ∃ ys, xs.drop (d / 64) = ys := ⟨_, rfl⟩
  have hPl : P'.length = P.length + d / 64 := by rw [← hP']; simp; omega
  have hyl : ys.length = xs.length - d / 64 := by rw [← hys]; simp
  have hbb : Blk w g 23 (U (P' ++ ys ++ Q)) := by
    rw [← hP', ← hys, List.append_assoc P, List.take_append_drop]; exact hb
  have hdy : Dig B64 ys := by rw [← hys]; exact hd.drop _
  rw [hys]
  have HT : Hid (∀ W, OW g (dn (d % 64) ys) (.slice (some ⟨g, P'.length, none⟩) ys.length (ys.length + Q.length)) W → Calls Tryd.prog 111 #[.slice (some ⟨g, P'.length, none⟩) ys.length (ys.length + Q.length)] W fun e w' => ∃ v', e = .returned v' ∧ OW g (limbs B64 (val B64 (dn (d % 64) ys))) v' W ∧ W = w') :=
    Lib.hid fun W hW => wtrim_ow hW (by rw [dn_length]; omega) (dn_dig (by omega) hdy)
  have hcap : ys.length + Q.length = xs.length + Q.length - d / 64 := by omega
  rw [hPl, hcap, hyl] at HT
  have HB : Hid (Blk w g 23 (U (P' ++ dnMix (d % 64) ys 0 ++ Q))) := Lib.hid (by unfold dnMix; rw [List.take_zero, List.drop_zero, List.nil_append]; exact hbb)
  have HDY := Lib.hid hdy
  have HPL := Lib.hid hPl
  have HYL := Lib.hid hyl
  have HCAP := Lib.hid hcap
  clear hP' hys hb hv hd hbb hdy hdl hcap hPl hyl
  go_enter Tryd.func86, Tryd.ntmps86
  go_wp2_with fail
  refine (HZ.out).mono ?_
  rintro e w1 ⟨rfl, rfl⟩
  go_wp2
  go_loopw [16] (fun i wr => ∃ k : Nat, k ≤ xs.length - d / 64 ∧ i = .int .i64 k ∧ Hid (Blk wr g 23 (U (P' ++ dnMix (d % 64) ys k ++ Q))) ∧ Hid (But g w wr)) (fun i _ => xs.length - d / 64 - (intOf i).toNat)
  case atStart => exact ⟨0, Nat.zero_le _, rfl, HB, Lib.hid (But.refl _ _)⟩
  case round =>
    obtain ⟨k, hk, rfl, hbk, hbut⟩ := hrel
    by_cases hkx : k < xs.length - d / 64
    · have hky : k < ys.length := by have := HYL.out; omega
      have hml := dnMix_length (d % 64) ys k
      have hc1 : wr.cell? ⟨g, P.length + d / 64 + k, none⟩ = some (.int .u64 (ys.getD k 0 : Nat)) := by
        rw [hbk.out.cell, ← HPL.out, mid_get _ _ _ _ (by omega), dnMix_get _ _ _ _ (Nat.le_refl _) hky]
      have hc2 : k + 1 < ys.length → wr.cell? ⟨g, P.length + d / 64 + (k + 1), none⟩ = some (.int .u64 (ys.getD (k + 1) 0 : Nat)) := fun h => by
        rw [hbk.out.cell, ← HPL.out, mid_get _ _ _ _ (by omega), dnMix_get _ _ _ _ (by omega) h]
      have hf1 : wr.frozen? ⟨g, P.length + d / 64 + k, none⟩ = false := hbk.out.frozen _
      have hxd : ys.getD k 0 < B64 := HDY.out.getD (by unfold B64; omega) _
      have HSET : Hid (∀ z : Nat, z = dnW (ys.getD k 0) (ys.getD (k + 1) 0) (d % 64) → (U (P' ++ dnMix (d % 64) ys k ++ Q)).set (P.length + d / 64 + k) (.int .u64 (z : Nat)) = U (P' ++ dnMix (d % 64) ys (k + 1) ++ Q)) := Lib.hid fun z hz => by
        subst hz
        rw [← HPL.out, mid_set _ _ _ _ _ (by omega), dnMix_set _ _ _ hky]
      clear hml
      by_cases hk2 : k + 1 < xs.length - d / 64
      · have hc2' := hc2 (by have := HYL.out; omega)
        clear hc2
        generalize ys.getD k 0 = x at *
        generalize ys.getD (k + 1) 0 = x2 at *
        go_wp2
        have hb2 := hbk.out.set (P.length + d / 64 + k) (.int .u64 ((x / 2 ^ (d % 64) : Nat) : Int))
        have hbut2 := hbut.out.set (P.length + d / 64 + k) (.int .u64 ((x / 2 ^ (d % 64) : Nat) : Int))
        have hc2w : (wr.setCell ⟨g, P.length + d / 64 + k, none⟩ (.int .u64 ((x / 2 ^ (d % 64) : Nat) : Int))).cell? ⟨g, P.length + d / 64 + (k + 1), none⟩ = some (.int .u64 x2) :=
          (World.cell?_setCell_other wr _ _ _ (fun e => by injection e with _ e; omega)).trans hc2'
        have ev : (x : Int) / 2 ^ (d % 64) = ((x / 2 ^ (d % 64) : Nat) : Int) := by push_cast; rfl
        rw [ev]
        have hx2 : (wr.setCell ⟨g, P.length + d / 64 + k, none⟩ (.int .u64 ((x / 2 ^ (d % 64) : Nat) : Int))).cell? ⟨g, P.length + d / 64 + k, none⟩ = some (.int .u64 ((x / 2 ^ (d % 64) : Nat) : Int)) := by
          rw [hb2.cell, List.getElem?_set_self]
          have := hbk.out.cell (P.length + d / 64 + k)
          rw [hc1] at this
          exact (List.getElem?_eq_some_iff.1 this.symm).1
        generalize wr.setCell ⟨g, P.length + d / 64 + k, none⟩ (.int .u64 ((x / 2 ^ (d % 64) : Nat) : Int)) = W2 at *
        have hf2 : W2.frozen? ⟨g, P.length + d / 64 + k, none⟩ = false := hb2.frozen _
        have HB2 := Lib.hid hb2
        have HBUT2 := Lib.hid hbut2
        generalize hxq : x / 2 ^ (d % 64) = xq at *
        have HXQ := Lib.hid hxq
        clear hb2 hbut2 hbk hbut hc1 hc2' hf1 hxq ev
        have hval := dnW_or (y := x) (y' := x2) (p := d % 64) (by omega) hxd
        rw [HXQ.out] at hval
        have HVAL := Lib.hid hval
        clear hval
        go_region
        rw [HVAL.out]
        go_wp2
        go_roundw
        case rel =>
          refine ⟨k + 1, by omega, by go_num, Lib.hid ?_, Lib.hid ((HBUT2.out.set _ _).trans (But.of_ext (Ext.refl _).drew))⟩
          have h := HB2.out.set (P.length + d / 64 + k) (.int .u64 (dnW x x2 (d % 64) : Nat))
          rw [List.set_set, HSET.out _ rfl] at h
          exact h
        case measure => simp [intOf]; omega
      · have hx20 : ys.getD (k + 1) 0 = 0 := getD_ge _ _ (by have := HYL.out; omega)
        rw [hx20] at HSET
        clear hc2 hx20
        generalize ys.getD k 0 = x at *
        have ev : (x : Int) / 2 ^ (d % 64) = ((dnW x 0 (d % 64) : Nat) : Int) := by unfold dnW; rw [Nat.zero_mod, Nat.mul_zero, Nat.add_zero]; push_cast; rfl
        have EV := Lib.hid ev
        clear ev
        go_wp2
        rw [EV.out]
        go_roundw
        case rel =>
          refine ⟨k + 1, by omega, by go_num, Lib.hid ?_, Lib.hid (hbut.out.set _ _)⟩
          have h := hbk.out.set (P.length + d / 64 + k) (.int .u64 (dnW x 0 (d % 64) : Nat))
          rw [HSET.out _ rfl] at h
          exact h
        case measure => simp [intOf]; omega
    · obtain rfl : k = xs.length - d / 64 := by omega
      have hb := hbk.out
      have hyl := HYL.out
      rw [← hyl, dnMix_all] at hb
      have how : OW g (dn (d % 64) ys) (.slice (some ⟨g, P.length + d / 64, none⟩) (xs.length - d / 64) (xs.length + Q.length - d / 64)) wr :=
        ⟨P', Q, by rw [HPL.out, dn_length, hyl, ← HCAP.out, hyl], hb⟩
      have HC2 := Lib.hid (HT.out wr how)
      clear hb hyl how
      go_wp2_with fail
      refine (HC2.out).mono ?_
      rintro e w3 ⟨v', rfl, how, rfl⟩
      go_wp2
      go_ret
      exact ⟨_, rfl, how, hbut.out⟩
end Go.Proofs.YtiloialbglfplaaDoor

namespace Go.Proofs.YtiloialbglfplaaDoor
open Go.RowKit

theorem cmpN_at64 {a b j : Nat} (h : (limbs B64 a).length = (limbs B64 b).length) (hj : j < (limbs B64 a).length) (hd : (limbs B64 a).drop (j + 1) = (limbs B64 b).drop (j + 1))
    (hne : (limbs B64 a).getD j 0 ≠ (limbs B64 b).getD j 0) : cmpN ((limbs B64 a).getD j 0) ((limbs B64 b).getD j 0) = cmpN a b := by
  have hjb : j < (limbs B64 b).length := by omega
  have da := limbs_dig B64_two a
  have db := limbs_dig B64_two b
  have va := val_limbs B64_two a
  have vb := val_limbs B64_two b
  rw [getD_lt _ _ hj, getD_lt _ _ hjb] at hne ⊢
  rcases Nat.lt_or_ge (limbs B64 a)[j] (limbs B64 b)[j] with h' | h'
  · have := val_lt_at da h hj hd h'
    rw [va, vb] at this
    rw [cmpN_lt this, cmpN_lt h']
  · have h' : (limbs B64 b)[j] < (limbs B64 a)[j] := by omega
    have := val_lt_at db h.symm hjb hd.symm h'
    rw [va, vb] at this
    rw [cmpN_gt this, cmpN_gt h']

set_option maxHeartbeats 2000000 in
theorem wcompare_any (g1 g2 a b : Nat) (v1 v2 : Value) (w : World) (h1 : OW g1 (limbs B64 a) v1 w) (h2 : OW g2 (limbs B64 b) v2 w) (ha : bl a ≤ 549755813888) (hb : bl b ≤ 549755813888) :
    Calls Tryd.prog 87 #[v1, v2] w (Ret (.int .i64 (cmpN a b)) w) := by
  have hla := limbs_len a ha
  have hlb := limbs_len b hb
  have hda := limbs_dig B64_two a
  have hdb := limbs_dig B64_two b
  obtain ⟨off, c, rfl, _, hh⟩ := h1.open
  obtain ⟨off', c', rfl, _, hh'⟩ := h2.open
  clear h1 h2
  rcases Nat.lt_trichotomy (limbs B64 a).length (limbs B64 b).length with h | h | h
  · rw [cmpN_lt (lt_of_limbs B64_two h)]
    have e1 : (((limbs B64 a).length : Int) != ((limbs B64 b).length : Int)) = true := by simp; omega
    clear hh hh' hda hdb ha hb
    generalize (limbs B64 a).length = p at *
    generalize (limbs B64 b).length = q at *
    go_enter Tryd.func87, Tryd.ntmps87
    go_wp2
    go_ret
    exact ⟨rfl, Ext.refl _⟩
  · have hR := fun j hj hd hne => cmpN_at64 (a := a) (b := b) (j := j) h hj hd hne
    have hE : limbs B64 a = limbs B64 b → cmpN a b = 0 := fun e => by
      have : a = b := by rw [← val_limbs B64_two a, ← val_limbs B64_two b, e]
      subst this
      unfold cmpN; simp
    have e1 : (((limbs B64 a).length : Int) != ((limbs B64 b).length : Int)) = false := by simp; omega
    clear ha hb
    generalize limbs B64 a = xs at *
    generalize limbs B64 b = ys at *
    generalize cmpN a b = r at *
    have HH := Lib.hid hh
    have HH' := Lib.hid hh'
    have HDA := Lib.hid hda
    have HDB := Lib.hid hdb
    have HRR := Lib.hid hR
    have HEE := Lib.hid hE
    have HL := Lib.hid h
    clear hh hh' hda hdb hR hE h
    go_enter Tryd.func87, Tryd.ntmps87
    go_wp2
    go_loopw [5] (fun i wr => ∃ j : Nat, j ≤ xs.length ∧ i = .int .i64 ((j : Int) - 1) ∧ Hid (xs.drop j = ys.drop j) ∧ Hid (Ext w wr)) (fun i _ => (intOf i + 1).toNat)
    case atStart => exact ⟨xs.length, Nat.le_refl _, rfl, Lib.hid (by rw [List.drop_length, HL.out, List.drop_length]), Lib.hid (Ext.refl w)⟩
    case round =>
      obtain ⟨j, hj, rfl, hd, hex⟩ := hrel
      by_cases hj0 : j = 0
      · subst hj0
        have HE0 := Lib.hid (HEE.out (by simpa using hd.out))
        go_wp2
        go_ret
        exact ⟨ret_int HE0.out.symm, hex.out⟩
      · obtain ⟨j, rfl⟩ : ∃ k, j = k + 1 := ⟨j - 1, by omega⟩
        rw [show ((j + 1 : Nat) : Int) - 1 = (j : Int) from by omega]
        have hjx : j < xs.length := by omega
        have hjy : j < ys.length := by have := HL.out; omega
        have hcx := hex.out.keep (HH.out j hjx)
        have hcy := hex.out.keep (HH'.out j hjy)
        have hxd : xs.getD j 0 < B64 := HDA.out.getD (by unfold B64; omega) j
        have hyd : ys.getD j 0 < B64 := HDB.out.getD (by unfold B64; omega) j
        have hdd : xs.getD j 0 = ys.getD j 0 → xs.drop j = ys.drop j := fun e => by
          rw [List.drop_eq_getElem_cons hjx, List.drop_eq_getElem_cons hjy, hd.out, ← getD_lt _ _ hjx, ← getD_lt _ _ hjy, e]
        have hR := HRR.out j hjx hd.out
        have HDD := Lib.hid hdd
        have HR2 := Lib.hid hR
        clear hdd hR hd
        generalize xs.getD j 0 = x at *
        generalize ys.getD j 0 = y at *
        rcases Nat.lt_trichotomy x y with hlt | he | hlt
        · have hr : r = -1 := by rw [← HR2.out (by omega), cmpN_lt hlt]
          have hb1 : ((x : Int) != (y : Int)) = true := by simp; omega
          have hb2 : (x : Int) < (y : Int) := by omega
          have HR3 := Lib.hid hr
          clear hr
          go_wp2
          go_quiet (fail)
          rename_i nq
          have hcx' : (wr.drewN nq).cell? ⟨g1, off + j, none⟩ = some (.int .u64 x) := hcx
          have hcy' : (wr.drewN nq).cell? ⟨g2, off' + j, none⟩ = some (.int .u64 y) := hcy
          have HEX := Lib.hid (hex.out.drewN nq)
          clear hex hcx hcy
          generalize wr.drewN nq = W6 at *
          go_wp2
          go_quiet (fail)
          go_wp2
          go_ret
          exact ⟨ret_int HR3.out.symm, HEX.out.drewN _⟩
        · subst he
          have hb1 : ((x : Int) != (x : Int)) = false := by simp
          go_wp2
          go_quiet (fail)
          go_wp2
          go_roundw
          case rel => exact ⟨j, by omega, rfl, Lib.hid (HDD.out (by simp)), Lib.hid (hex.out.drewN _)⟩
          case measure => simp [intOf]
        · have hr : r = 1 := by rw [← HR2.out (by omega), cmpN_gt hlt]
          have hb1 : ((x : Int) != (y : Int)) = true := by simp; omega
          have hb2 : decide (x < y) = false := decide_eq_false (by omega)
          have HR3 := Lib.hid hr
          clear hr
          go_wp2
          go_quiet (fail)
          rename_i nq
          have hcx' : (wr.drewN nq).cell? ⟨g1, off + j, none⟩ = some (.int .u64 x) := hcx
          have hcy' : (wr.drewN nq).cell? ⟨g2, off' + j, none⟩ = some (.int .u64 y) := hcy
          have HEX := Lib.hid (hex.out.drewN nq)
          clear hex hcx hcy
          generalize wr.drewN nq = W6 at *
          go_wp2
          go_quiet (fail)
          go_wp2
          go_ret
          exact ⟨ret_int HR3.out.symm, HEX.out.drewN _⟩
  · rw [cmpN_gt (lt_of_limbs B64_two h)]
    have e1 : (((limbs B64 a).length : Int) != ((limbs B64 b).length : Int)) = true := by simp; omega
    have e2 : decide ((limbs B64 a).length < (limbs B64 b).length) = false := decide_eq_false (by omega)
    clear hh hh' hda hdb ha hb
    generalize (limbs B64 a).length = p at *
    generalize (limbs B64 b).length = q at *
    go_enter Tryd.func87, Tryd.ntmps87
    go_wp2
    go_ret
    exact ⟨rfl, Ext.refl _⟩

set_option maxHeartbeats 4000000 in
theorem wsubtract_any (g g2 a b : Nat) (v1 v2 : Value) (w : World) (h1 : OW g (limbs B64 a) v1 w) (h2 : OW g2 (limbs B64 b) v2 w) (hne : g2 ≠ g) (ha : bl a ≤ 549755813888) (hba : b ≤ a) :
    Calls Tryd.prog 88 #[v1, v2] w fun e w' => ∃ v', e = .returned v' ∧ OW g (limbs B64 (a - b)) v' w' ∧ But g w w' := by
  have hlx := limbs_len a ha
  have hly := limbs_mono hba
  obtain ⟨P, Q, rfl, hbk0⟩ := h1
  have h2lt := h2.lt
  obtain ⟨off, c, rfl, _, hcy0⟩ := h2.open
  have HCY : Hid (∀ W, But g w W → ∀ i, i < (limbs B64 b).length → W.cell? ⟨g2, off + i, none⟩ = some (.int .u64 ((limbs B64 b).getD i 0 : Nat))) := Lib.hid fun W hW i hi => by
    rw [← hcy0 i hi]
    exact World.cell?_of_block (a := ⟨g2, off + i, none⟩) (hW.block g2 h2lt (fun e => hne (by injection e)))
  have vab : val B64 (limbs B64 a) = (a - b) + val B64 (limbs B64 b) := by rw [val_limbs B64_two, val_limbs B64_two]; omega
  have VAB := Lib.hid vab
  have HDX := Lib.hid (limbs_dig B64_two a)
  have HDY := Lib.hid (limbs_dig B64_two b)
  have HB := Lib.hid hbk0
  clear hcy0 h2 h2lt vab hbk0 hba ha hne
  generalize limbs B64 a = X at *
  generalize limbs B64 b = Y at *
  generalize a - b = n at *
  go_enter Tryd.func88, Tryd.ntmps88
  go_wp2
  go_loopw [5, 10] (fun c i wr => ∃ (k cc : Nat) (L : List Nat), k ≤ X.length ∧ cc ≤ 1 ∧ i = .int .i64 k ∧ c = .int .u64 cc ∧ Hid (L.length = X.length ∧ Dig B64 L ∧ L.drop k = X.drop k ∧ val B64 (X.take k) + cc * B64 ^ k = val B64 (L.take k) + val B64 (Y.take k)) ∧ Hid (Blk wr g 23 (U (P ++ L ++ Q))) ∧ Hid (But g w wr)) (fun _ i _ => X.length - (intOf i).toNat)
  case atStart =>
    refine ⟨0, 0, X, Nat.zero_le _, by omega, rfl, rfl, Lib.hid ⟨rfl, HDX.out, rfl, by simp⟩, HB, Lib.hid (But.refl _ _)⟩
  case round =>
    obtain ⟨k, cc, L, hk, hcc, rfl, rfl, hL, hbk, hbut⟩ := hrel
    by_cases hkx : k < X.length
    · have hcx : wr.cell? ⟨g, P.length + k, none⟩ = some (.int .u64 (X.getD k 0 : Nat)) := by
        rw [hbk.out.cell, mid_get _ _ _ _ (by rw [hL.out.1]; exact hkx), getD_take_drop hL.out.2.2.1 hkx hL.out.1]
      have hfx : wr.frozen? ⟨g, P.length + k, none⟩ = false := hbk.out.frozen _
      have hxd : X.getD k 0 < B64 := HDX.out.getD (by unfold B64; omega) k
      have hyd : Y.getD k 0 < B64 := HDY.out.getD (by unfold B64; omega) k
      have hstep : ∀ s q, X.getD k 0 + B64 * q = Y.getD k 0 + cc + s → s < B64 → (L.set k s).length = X.length ∧ Dig B64 (L.set k s) ∧ (L.set k s).drop (k + 1) = X.drop (k + 1) ∧ val B64 (X.take (k + 1)) + q * B64 ^ (k + 1) = val B64 ((L.set k s).take (k + 1)) + val B64 (Y.take (k + 1)) := by
        intro s q e hs
        obtain ⟨l1, l2, l3, l4⟩ := hL.out
        refine ⟨by simpa using l1, l2.set k hs, ?_, ?_⟩
        · rw [drop_set_succ, ← List.drop_drop, ← List.drop_drop, l3]
        · rw [val_take_set _ _ _ _ (by omega), val_take_getD B64 X, val_take_getD B64 Y, Nat.pow_succ]
          exact sub_step l4 e
      have HS := Lib.hid hstep
      have HSET : Hid (∀ s : Nat, (U (P ++ L ++ Q)).set (P.length + k) (.int .u64 (s : Nat)) = U (P ++ L.set k s ++ Q)) := Lib.hid fun s => mid_set P L Q k s (by rw [hL.out.1]; exact hkx)
      have hY : k < Y.length → wr.cell? ⟨g2, off + k, none⟩ = some (.int .u64 (Y.getD k 0 : Nat)) := fun hky => HCY.out wr hbut.out k hky
      have hY0 : ¬ k < Y.length → Y.getD k 0 = 0 := fun h => getD_ge _ _ (by omega)
      have HY := Lib.hid hY
      have HY0 := Lib.hid hY0
      clear hstep hY hY0
      generalize X.getD k 0 = x at *
      by_cases hky : k < Y.length
      · have hcy := HY.out hky
        clear HY0
        generalize Y.getD k 0 = y at *
        have hadd : ∀ W, (callFunc 74 #[.int .u64 x, .int .u64 y, .int .u64 cc]).run Tryd.prog W = .ok (.value (.tuple #[.int .u64 (sbD x y cc : Nat), .int .u64 (sbB x y cc : Nat)])) W := fun W => sub64 x y cc hcc W
        go_wp2
        go_roundw
        case rel =>
          exact ⟨k + 1, sbB x y cc, L.set k (sbD x y cc), by omega, sbB_le x y cc, by go_num, rfl, Lib.hid (HS.out _ _ (sb_eq hxd hyd hcc) (sbD_lt x y cc)), Lib.hid (by rw [← HSET.out]; exact hbk.out.set _ _), Lib.hid (hbut.out.set _ _)⟩
        case measure => simp [intOf]; omega
      · have hy0 := HY0.out hky
        rw [hy0] at HS
        clear HY HY0 hy0 hyd
        have hadd : ∀ W, (callFunc 74 #[.int .u64 x, .int .u64 0, .int .u64 cc]).run Tryd.prog W = .ok (.value (.tuple #[.int .u64 (sbD x 0 cc : Nat), .int .u64 (sbB x 0 cc : Nat)])) W := fun W => sub64 x 0 cc hcc W
        go_wp2
        go_roundw
        case rel =>
          exact ⟨k + 1, sbB x 0 cc, L.set k (sbD x 0 cc), by omega, sbB_le x 0 cc, by go_num, rfl, Lib.hid (HS.out _ _ (sb_eq hxd (by unfold B64; omega) hcc) (sbD_lt x 0 cc)), Lib.hid (by rw [← HSET.out]; exact hbk.out.set _ _), Lib.hid (hbut.out.set _ _)⟩
        case measure => simp [intOf]; omega
    · obtain rfl : k = X.length := by omega
      obtain ⟨l1, l2, l3, l4⟩ := hL.out
      have hval : val B64 X + cc * B64 ^ X.length = val B64 L + val B64 Y := by
        rw [List.take_length, List.take_of_length_le (l := L) (by omega), List.take_of_length_le hly] at l4
        exact l4
      have e : val B64 L = n := by
        have h1 := VAB.out
        have h2 := val_lt l2
        rw [l1] at h2
        rcases Nat.eq_zero_or_pos cc with h0 | h0
        · subst h0; omega
        · obtain rfl : cc = 1 := by omega
          omega
      have hcall := wtrim_ow (v := .slice (some ⟨g, P.length, none⟩) X.length (X.length + Q.length)) ⟨P, Q, by rw [l1], hbk.out⟩ (by omega) l2
      rw [e] at hcall
      have HCC := Lib.hid hcall
      clear hcall e l1 l2 l3 l4 hval hL
      go_wp2_with fail
      refine (HCC.out).mono ?_
      rintro e w3 ⟨v', rfl, how, rfl⟩
      go_wp2
      go_ret
      exact ⟨_, rfl, how, hbut.out⟩
end Go.Proofs.YtiloialbglfplaaDoor

namespace Go.Proofs.YtiloialbglfplaaDoor
open Go.RowKit

set_option maxHeartbeats 1000000 in
theorem wwords_any (n : Nat) (hn : bl n ≤ 549755813888) (w : World) :
    Calls Tryd.prog 84 #[.agg #[.int .u64 (lo (n) : Nat), .string (hi (n))]] w fun e w' => ∃ v L g, e = .returned v ∧ L.length ≤ 8589934593 ∧ Dig B64 L ∧ val B64 L = n ∧ w.heap.size ≤ g ∧ OW g L v w' ∧ Ext w w' := by
  have HBY := Lib.hid (fun W => bytes_any n hn W)
  have hll : (beB n).length ≤ 68719476737 := by rw [beB_length]; unfold nb; omega
  have HBN := Lib.hid (beN_beB n)
  have HN2 := Lib.hid (show beN (beB n) = val 256 (rb (beB n)) from rfl)
  clear hn
  generalize beB n = l at *
  obtain ⟨M, hMe⟩ : ∃ M, (l.length + 7) / 8 = M := ⟨_, rfl⟩
  have hq : ((l.length : Nat) + 7 : Int) / 8 = (M : Nat) := by omega
  have hM : M ≤ 8589934593 := by omega
  have HM := Lib.hid hMe
  have HMM := Lib.hid hM
  clear hMe
  generalize hla : lo n = la at *
  generalize hsa : hi n = sa at *
  clear hla hsa
  go_enter Tryd.func84, Tryd.ntmps84
  go_wp2_with fail
  refine (HBY.out _).mono ?_
  rintro e w1 ⟨v1, rfl, ⟨g', hg', rfl, hb1⟩, hx1⟩
  have HX1 : Hid (Ext w w1) := Lib.hid (((Ext.refl w).alloc _).trans hx1)
  have HB1 := Lib.hid hb1
  clear hx1 hb1 hg'
  go_wp2_with (at_make; refine wpList_mk _ rfl (.tmp 11) (.tmp 11) 89 23 rfl (.int .u64 0) 8 Tryd.underlying89 info64 rfl .i64 .i64 _ _ M rfl rfl ?c1 ?c1' ?c2 ?c3 ?_)
  case c1 => omega
  case c1' => omega
  case c2 => omega
  case c3 => omega
  intro w2 hx2 hs2 hb2
  rw [rep_U] at hb2
  have HX2 : Hid (Ext w w2) := Lib.hid (HX1.out.trans hx2)
  have hlt := HB1.out.lt
  have HBX := Lib.hid (HB1.out.ext hx2)
  have HBG := Lib.hid hb2
  have HGE : Hid (w.heap.size ≤ w1.heap.size) := Lib.hid HX1.out.size
  clear hx2 hb2 hs2 hq hM
  generalize w1.heap.size = g at *
  have hne : g' ≠ g := by omega
  go_wp2
  go_loopw [15] (fun i wr => ∃ (k : Nat) (L : List Nat), k ≤ l.length ∧ i = .int .i64 k ∧ Hid (FbUp (rb l) k L) ∧ Hid (Blk wr g 23 (U L)) ∧ Hid (But g w2 wr)) (fun i _ => l.length - (intOf i).toNat)
  case atStart => exact ⟨0, _, Nat.zero_le _, rfl, Lib.hid (by have h := FbUp.start (rb l); rw [rb_length, HM.out] at h; exact h), HBG, Lib.hid (But.refl _ _)⟩
  case round =>
    obtain ⟨k, L, hk, rfl, hL, hbk, hbut⟩ := hrel
    by_cases hkx : k < l.length
    · have hcx : wr.cell? ⟨g', l.length - 1 - k, none⟩ = some (.int .u8 ((rb l).getD k 0 : Nat)) := by
        rw [rb_getD' l k hkx, (hbut.out.blk HBX.out hne).cell]
        simp only [Lib.byteCells, List.getElem?_map]
        rw [List.getElem?_eq_getElem (by omega)]
        rfl
      have hlen := hL.out.len
      rw [rb_length, HM.out] at hlen
      have hk8 : k / 8 < M := by have := HM.out; omega
      have hc1 : wr.cell? ⟨g, k / 8, none⟩ = some (.int .u64 (L.getD (k / 8) 0 : Nat)) := by rw [hbk.out.cell, getD_U _ _ (by omega)]
      have hf1 : wr.frozen? ⟨g, k / 8, none⟩ = false := hbk.out.frozen _
      have hxd : (rb l).getD k 0 < 256 := (rb_dig l).getD (by omega) k
      have hw := hL.out.word (rb_dig l)
      obtain ⟨_, hN⟩ := hL.out.step (by rw [rb_length]; exact hkx) (rb_dig l)
      have HN := Lib.hid hN
      have HV := Lib.hid (or64 (p := 8 * (k % 8)) hxd (by omega) hw)
      clear hlen hN hw
      generalize (rb l).getD k 0 = x at *
      generalize L.getD (k / 8) 0 = o at *
      go_wp2
      go_region
      rw [HV.out]
      go_wp2
      go_roundw
      case rel =>
        refine ⟨k + 1, _, by omega, by go_num, HN, ?_, Lib.hid ((hbut.out.set (k / 8) _).trans (But.of_ext (Ext.refl _).drew))⟩
        have h := hbk.out.set (k / 8) (.int .u64 (o + 2 ^ (8 * (k % 8)) * x : Nat))
        rw [U_set] at h
        exact Lib.hid h
      case measure => simp [intOf]; omega
    · obtain rfl : k = l.length := by omega
      go_wp2
      go_ret
      have hlen := hL.out.len
      rw [rb_length, HM.out] at hlen
      have hL2 := hL.out
      rw [← rb_length] at hL2
      refine ⟨_, L, g, rfl, by have := HMM.out; omega, hL.out.dig, by rw [hL2.fin, ← HN2.out, HBN.out], HGE.out, ?_, hbut.out.ext HX2.out HGE.out⟩
      have h := OW.of_blk hbk.out
      rw [hlen] at h
      exact h

/-- A byte of a word. -/
theorem le_get : ∀ (n x k : Nat) (h : k < (Lib.leBytes n x).length), (Lib.leBytes n x)[k] = UInt8.ofNat (x / 256 ^ k)
  | 0, _, _, h => by simp [Lib.leBytes] at h
  | n + 1, x, 0, _ => by
    simp only [Lib.leBytes, List.getElem_cons_zero, Nat.pow_zero, Nat.div_one]
    apply UInt8.toNat_inj.1
    simp [Nat.toUInt8, UInt8.toNat_ofNat']
  | n + 1, x, k + 1, h => by
    simp only [Lib.leBytes, List.getElem_cons_succ]
    rw [le_get n (x / 256) k (by simpa [Lib.leBytes] using h), Nat.pow_succ, Nat.div_div_eq_div_mul, Nat.mul_comm]
theorem flat_get : ∀ (xs : List Nat) (k : Nat) (h : k < (xs.flatMap le8).length), (xs.flatMap le8)[k] = UInt8.ofNat (xs.getD (k / 8) 0 / 256 ^ (k % 8))
  | [], _, h => by simp at h
  | x :: xs, k, h => by
    simp only [List.flatMap_cons]
    by_cases hk : k < 8
    · rw [List.getElem_append_left (by rw [le8_length]; exact hk)]
      have h0 : k / 8 = 0 := by omega
      rw [h0, List.getD_cons_zero, Nat.mod_eq_of_lt hk]
      exact le_get 8 x k (by rw [Lib.leBytes_length]; exact hk)
    · have hl := flat8_length (x :: xs)
      rw [List.length_cons] at hl
      rw [List.getElem_append_right (by rw [le8_length]; omega)]
      simp only [le8_length]
      rw [flat_get xs (k - 8) (by rw [flat8_length]; omega)]
      have e1 : k / 8 = (k - 8) / 8 + 1 := by omega
      have e2 : (k - 8) % 8 = k % 8 := by omega
      rw [e1, e2, List.getD_cons_succ]
theorem wb_get (xs : List Nat) (k : Nat) (h : k < 8 * xs.length) : (wb xs)[8 * xs.length - 1 - k]'(by rw [wb_length]; omega) = UInt8.ofNat (xs.getD (k / 8) 0 / 256 ^ (k % 8)) := by
  unfold wb
  rw [List.getElem_reverse]
  have e : (xs.flatMap le8).length - 1 - (8 * xs.length - 1 - k) = k := by rw [flat8_length]; omega
  simp only [e]
  exact flat_get xs k (by rw [flat8_length]; exact h)
theorem bfill_wb (xs : List Nat) (k : Nat) (h : k < 8 * xs.length) (z : Int) (hz : z = ((xs.getD (k / 8) 0 / 256 ^ (k % 8) % 256 : Nat) : Int)) :
    (Lib.byteCells (bfill (wb xs) k)).set (8 * xs.length - 1 - k) (.int .u8 z) = Lib.byteCells (bfill (wb xs) (k + 1)) := by
  have h' := bfill_step (wb xs) k (by rw [wb_length]; exact h)
  rw [← h', byteCells_set]
  have e : (wb xs)[(wb xs).length - 1 - k]'(by rw [wb_length]; omega) = UInt8.ofNat (xs.getD (k / 8) 0 / 256 ^ (k % 8)) := by
    rw [← wb_get xs k h]; congr 1; rw [wb_length]
  rw [e, wb_length, hz]
  congr 2
theorem bfill_wcell (xs : List Nat) (k : Nat) (h : k < 8 * xs.length) : (Lib.byteCells (bfill (wb xs) k))[8 * xs.length - 1 - k]? = some (.int .u8 0) := by
  unfold Lib.byteCells bfill
  rw [List.map_append, List.getElem?_append_left (by rw [List.length_map, List.length_replicate, wb_length]; omega), List.getElem?_map, List.getElem?_replicate, wb_length, if_pos (by omega)]
  rfl

set_option maxHeartbeats 1000000 in
theorem wnumber_any (g0 : Nat) (xs : List Nat) (v : Value) (w : World) (h : OW g0 xs v w) (hd : Dig B64 xs) (hl : xs.length ≤ 8589934592) :
    Calls Tryd.prog 89 #[v] w (Ret (.agg #[.int .u64 (lo (val B64 xs) : Nat), .string (hi (val B64 xs))]) w) := by
  have hg0 := h.lt
  obtain ⟨off, c, rfl, _, hcell⟩ := h.open
  have HC := Lib.hid hcell
  have HF : Hid (∀ W v', SlB (wb xs) v' W → Calls Tryd.prog 101 #[v'] W (Ret (.agg #[.int .u64 (lo (val B64 xs) : Nat), .string (hi (val B64 xs))]) W)) := Lib.hid fun W v' hs => by
    have h := fromBytes_any (wb xs) v' W (by rw [wb_length]; omega) hs
    rw [wb_val hd] at h
    exact h
  have HW := Lib.hid (wb_length xs)
  obtain ⟨M, hMe⟩ : ∃ M, 8 * xs.length = M := ⟨_, rfl⟩
  have hq : 8 * ((xs.length : Nat) : Int) = (M : Nat) := by omega
  have HM := Lib.hid hMe
  have HSET : Hid (∀ k, k < M → ∀ z : Int, z = ((xs.getD (k / 8) 0 / 256 ^ (k % 8) % 256 : Nat) : Int) → (Lib.byteCells (bfill (wb xs) k)).set (M - 1 - k) (.int .u8 z) = Lib.byteCells (bfill (wb xs) (k + 1))) := Lib.hid fun k hk z hz => by subst hMe; exact bfill_wb xs k hk z hz
  have HGET : Hid (∀ k, k < M → (Lib.byteCells (bfill (wb xs) k))[M - 1 - k]? = some (.int .u8 0)) := Lib.hid fun k hk => by subst hMe; exact bfill_wcell xs k hk
  have hM : M ≤ 68719476736 := by omega
  clear h hd hcell hl
  generalize val B64 xs = n at *
  generalize lo n = la at *
  generalize hi n = sa at *
  go_enter Tryd.func89, Tryd.ntmps89
  go_wp2_with (at_make; refine wpList_mk _ rfl (.tmp 7) (.tmp 7) 22 5 rfl (.int .u8 0) 1 Tryd.underlying22 info8 rfl .i64 .i64 _ _ M rfl rfl ?c1 ?c1' ?c2 ?c3 ?_)
  case c1 => omega
  case c1' => omega
  case c2 => omega
  case c3 => omega
  intro w1 hx1 hs1 hb1
  try simp only [World.size_alloc] at hs1 hb1
  have HR := Lib.hid ((Blk.new w 25 [.int .u64 0, .string ⟨#[]⟩]).ext hx1)
  have HX := Lib.hid (((Ext.refl w).alloc _).trans hx1)
  have HB : Hid (Blk w1 (w.heap.size + 1) 5 (Lib.byteCells (bfill (wb xs) 0))) := Lib.hid (by rw [bfill_zero, byteCells_rep, HW.out, HM.out]; exact hb1)
  clear hx1 hb1 hs1 hMe
  go_wp2
  go_loopw [11] (fun i wr => ∃ k : Nat, k ≤ M ∧ i = .int .i64 k ∧ Hid (Blk wr (w.heap.size + 1) 5 (Lib.byteCells (bfill (wb xs) k))) ∧ Hid (But (w.heap.size + 1) w1 wr)) (fun i _ => M - (intOf i).toNat)
  case atStart => exact ⟨0, Nat.zero_le _, rfl, HB, Lib.hid (But.refl _ _)⟩
  case round =>
    obtain ⟨k, hk, rfl, hbk, hbut⟩ := hrel
    by_cases hkM : k < M
    · have hki : k / 8 < xs.length := by have := HM.out; omega
      have hcx : wr.cell? ⟨g0, off + k / 8, none⟩ = some (.int .u64 (xs.getD (k / 8) 0 : Nat)) := (hbut.out.ext HX.out (by omega)).keep (HC.out _ hki)
      have hset : wr.cell? ⟨w.heap.size + 1, M - 1 - k, none⟩ = some (.int .u8 0) := by rw [hbk.out.cell]; exact HGET.out k hkM
      have hf : wr.frozen? ⟨w.heap.size + 1, M - 1 - k, none⟩ = false := hbk.out.frozen _
      have HS := Lib.hid (HSET.out k hkM)
      generalize xs.getD (k / 8) 0 = x at *
      go_wp2
      go_roundw
      case rel =>
        refine ⟨k + 1, by omega, by go_num, Lib.hid ?_, Lib.hid (hbut.out.set _ _)⟩
        have h := hbk.out.set (M - 1 - k) (.int .u8 ((x : Int) / 2 ^ (8 * (k % 8)) % 256))
        rw [HS.out _ (byte_shift x (k % 8)).symm] at h
        exact h
      case measure => simp [intOf]; omega
    · obtain rfl : k = M := by omega
      have hsl : SlB (wb xs) (.slice (some ⟨w.heap.size + 1, 0, none⟩) k k) wr := by
        have hb := hbk.out
        have hl := HW.out
        rw [HM.out] at hl
        rw [← hl, bfill_all] at hb
        rw [← hl]
        exact ⟨_, _, rfl, Nat.le_refl _, ⟨by rw [hl]; omega, fun h => by cases h⟩, fun _ => ⟨_, 0, rfl, hb.lt, fun i hi => by rw [Nat.zero_add, hb.cell]; simp [Lib.byteCells, List.getElem?_map, List.getElem?_eq_getElem hi]⟩⟩
      have HF2 := Lib.hid (HF.out wr _ hsl)
      clear hsl
      go_wp2_with fail
      refine (HF2.out).mono ?_
      rintro e w3 ⟨rfl, hx3⟩
      have he : Ext w w3 := (hbut.out.ext HX.out (by omega)).trans hx3
      have hr3 := (hbut.out.blk HR.out (by omega)).ext hx3
      have r0 : w3.cell? ⟨w.heap.size, 0, none⟩ = some (.int .u64 0) := hr3.cell 0
      have r1 : w3.cell? ⟨w.heap.size, 1, none⟩ = some (.string ⟨#[]⟩) := hr3.cell 1
      have f0 : w3.frozen? ⟨w.heap.size, 0, none⟩ = false := hr3.frozen 0
      have f1 : w3.frozen? ⟨w.heap.size, 1, none⟩ = false := hr3.frozen 1
      go_wp2
      refine ret_nat w.heap.size _ _ rfl rfl ((hr3.set 0 _).set 1 _) rfl ⟨rfl, ?_⟩
      exact (Below.setCell he (p := ⟨w.heap.size, 0, none⟩) (by show _ ≤ _; simp) _).setCell (p := ⟨w.heap.size, 1, none⟩) (by show _ ≤ _; simp) _
end Go.Proofs.YtiloialbglfplaaDoor

namespace Go.Proofs.YtiloialbglfplaaDoor
open Go.RowKit

theorem wzeros_ow {g : Nat} {xs : List Nat} {v : Value} {w : World} (h : OW g xs v w) (hl : xs.length ≤ 1099511627776) (hd : Dig B64 xs) (hv : 0 < val B64 xs) (ht : Tab64 w) :
    Calls Tryd.prog 85 #[v] w fun e w' => e = .returned (.int .i64 (tw (val B64 xs) : Nat)) ∧ w = w' := by
  obtain ⟨off, c, rfl, _, hcell⟩ := h.open
  exact wzeros_any g off c xs w hl hd hv ht hcell
theorem limbs_len64 (n k : Nat) (h : bl n ≤ 64 * k) : (limbs B64 n).length ≤ k := by
  rw [limbs_length_le_iff B64_two, B64_pow]
  exact Nat.lt_of_lt_of_le (lt_bl n) (Nat.pow_le_pow_right (by omega) h)
theorem two_chunk {G T i : Nat} (h : 65536 * i < T) {r : Nat} (hr : r = min (T - 65536 * i) 65536) : G * 2 ^ min T (65536 * i) * 2 ^ r = G * 2 ^ min T (65536 * (i + 1)) := by
  rw [Nat.mul_assoc, ← Nat.pow_add]
  congr 2
  omega
theorem gcd_shift_le {G T X : Nat} (h : G * 2 ^ T = X) (j : Nat) (hj : j ≤ T) : G * 2 ^ j ≤ X := by
  rw [← h]
  exact Nat.mul_le_mul_left _ (Nat.pow_le_pow_right (by omega) hj)
/-- The two lists of the loop. -/
structure BinI (B : Nat) (W : World) (G m k : Nat) (a b ga gb : Nat) (v5 v6 : Value) (wr : World) : Prop where
  oa : OW ga (limbs B64 a) v5 wr
  ob : OW gb (limbs B64 b) v6 wr
  ne : ga ≠ gb
  ha : B ≤ ga
  hb : B ≤ gb
  ex : Ext W wr
  pa : a % 2 = 1
  pb : b % 2 = 1
  gcd : Nat.gcd a b = G
  la : a ≤ m
  lb : b ≤ m
  lk : a + b ≤ k

set_option maxHeartbeats 4000000 in
theorem wbinary_any (x y : Nat) (hx0 : 0 < x) (hy0 : 0 < y) (hx : bl x ≤ 549755813888) (hy : bl y ≤ 549755813888) (w : World) (ht : Tab64 w) :
    Calls Tryd.prog 59 #[.agg #[.int .u64 (lo (x) : Nat), .string (hi (x))], .agg #[.int .u64 (lo (y) : Nat), .string (hi (y))]] w (Ret (.agg #[.int .u64 (lo (Nat.gcd x y) : Nat), .string (hi (Nat.gcd x y))]) w) := by
  have HA : Hid (∀ W, Calls Tryd.prog 84 #[.agg #[.int .u64 (lo (x) : Nat), .string (hi (x))]] W fun e w' => ∃ v L g, e = .returned v ∧ L.length ≤ 8589934593 ∧ Dig B64 L ∧ val B64 L = x ∧ W.heap.size ≤ g ∧ OW g L v w' ∧ Ext W w') := Lib.hid fun W => wwords_any x hx W
  have HB : Hid (∀ W, Calls Tryd.prog 84 #[.agg #[.int .u64 (lo (y) : Nat), .string (hi (y))]] W fun e w' => ∃ v L g, e = .returned v ∧ L.length ≤ 8589934593 ∧ Dig B64 L ∧ val B64 L = y ∧ W.heap.size ≤ g ∧ OW g L v w' ∧ Ext W w') := Lib.hid fun W => wwords_any y hy W
  have HX := Lib.hid (And.intro hx0 hx)
  have HY := Lib.hid (And.intro hy0 hy)
  have HT := Lib.hid ht
  clear hx0 hy0 hx hy ht
  generalize hsa : hi x = sa at *
  generalize hsb : hi y = sb at *
  generalize hla : lo x = la at *
  generalize hlb : lo y = lb at *
  clear hsa hsb hla hlb
  obtain ⟨lg, hlg⟩ : ∃ lg, lo (Nat.gcd x y) = lg := ⟨_, rfl⟩
  obtain ⟨sg', hsg⟩ : ∃ sg', hi (Nat.gcd x y) = sg' := ⟨_, rfl⟩
  have HLG := Lib.hid hlg
  have HSG := Lib.hid hsg
  rw [hlg, hsg]
  clear hlg hsg
  go_enter Tryd.func59, Tryd.ntmps59
  go_wp2
  generalize hW : ((w.alloc (.cells #[.int .u64 la, .string sa] 25)).alloc (.cells #[.int .u64 lb, .string sb] 25)).alloc (.cells #[.int .u64 0, .string ⟨#[]⟩] 25) = W
  obtain ⟨hB1, hB2, hB3, hEx⟩ := boxes3 w W _ _ _ _ hW
  have hsz : W.heap.size = w.heap.size + 1 + 1 + 1 := by rw [← hW]; simp
  clear hW
  have hc0 : W.cell? ⟨w.heap.size, 0, none⟩ = some (.int .u64 la) := hB1.cell 0
  have hc1 : W.cell? ⟨w.heap.size, 1, none⟩ = some (.string sa) := hB1.cell 1
  have hd0 : W.cell? ⟨w.heap.size + 1, 0, none⟩ = some (.int .u64 lb) := hB2.cell 0
  have hd1 : W.cell? ⟨w.heap.size + 1, 1, none⟩ = some (.string sb) := hB2.cell 1
  go_region_held3 (fun w' => w'.cell? ⟨w.heap.size, 0, none⟩ = some (.int .u64 la) ∧ w'.cell? ⟨w.heap.size, 1, none⟩ = some (.string sa) ∧ w'.cell? ⟨w.heap.size + 1, 0, none⟩ = some (.int .u64 lb) ∧ w'.cell? ⟨w.heap.size + 1, 1, none⟩ = some (.string sb))
    (first | exact ⟨hc0, hc1, hd0, hd1⟩ | exact ⟨he1.keep hc0, he1.keep hc1, he1.keep hd0, he1.keep hd1⟩ | exact ⟨(he1.trans he2).keep hc0, (he1.trans he2).keep hc1, (he1.trans he2).keep hd0, (he1.trans he2).keep hd1⟩)
    (first | (go_at_call_of 84 (Value.string sa); refine (HA.out _).mono ?_; rintro e w1 ⟨v1, L1, g1, rfl, hl1, hg1, hv1, hb1, ho1, he1⟩) | (go_at_call_of 84 (Value.string sb); refine (HB.out _).mono ?_; rintro e w2 ⟨v2, L2, g2, rfl, hl2, hg2, hv2, hb2, ho2, he2⟩))
  have hE1 : Ext W w1 := he1.undrew
  have hne : g1 ≠ g2 := by have := ho1.lt; omega
  have hge1 : W.heap.size ≤ g1 := hb1
  have hge2 : W.heap.size ≤ g2 := Nat.le_trans hE1.size hb2
  have ho1' := ho1.ext he2
  have hEW : Ext W w2 := hE1.trans he2
  have HR := Lib.hid hB3
  have HEX := Lib.hid hEx
  have HSZ := Lib.hid hsz
  have ht2 : Tab64 w2 := (HT.out.ext hEx).ext hEW
  have htab : ∀ V, Ext W V → Tab64 V := fun V hV => (HT.out.ext hEx).ext hV
  have HTAB := Lib.hid htab
  have HZ1 := Lib.hid (wzeros_ow ho1' (by omega) hg1 (by rw [hv1]; exact HX.out.1) ht2)
  have HZ2 := Lib.hid (wzeros_ow ho2 (by omega) hg2 (by rw [hv2]; exact HY.out.1) ht2)
  have HD1 := Lib.hid (wdown_any g1 L1 v1 w2 ho1' hg1 (by rw [hv1]; exact HX.out.1) (by omega) ht2)
  have HD2 : Hid (∀ V, But g1 w2 V → Calls Tryd.prog 86 #[v2] V fun e w' => ∃ v', e = .returned v' ∧ OW g2 (limbs B64 (od y)) v' w' ∧ But g2 V w') := Lib.hid fun V hV => by
    have h := wdown_any g2 L2 v2 V (ho2.but hV (fun e => hne e.symm)) hg2 (by rw [hv2]; exact HY.out.1) (by omega) (htab V (hV.ext hEW (by omega)))
    rw [hv2] at h
    exact h
  rw [hv1] at HZ1 HD1
  rw [hv2] at HZ2
  have hmin : min ((tw x : Nat) : Int) ((tw y : Nat) : Int) = ((min (tw x) (tw y) : Nat) : Int) := by omega
  have HV := Lib.hid (And.intro hge1 hge2)
  have HEW := Lib.hid hEW
  have HGO := Lib.hid (gcd_od HX.out.1 HY.out.1)
  have HPX := Lib.hid (od_spec HX.out.1)
  have HPY := Lib.hid (od_spec HY.out.1)
  have hTx : min (tw x) (tw y) ≤ 549755813888 := Nat.le_trans (Nat.min_le_left _ _) (Nat.le_trans (Nat.le_of_lt (tw_lt_bl HX.out.1 (lt_bl x))) HX.out.2)
  obtain ⟨o1, c1, rfl, _⟩ := ho1'.open
  obtain ⟨o2, c2, rfl, _⟩ := ho2.open
  clear ho1 ho1' ho2 he1 he2 hE1 hEW hc0 hc1 hd0 hd1 hB1 hB2 hB3 hEx hsz ht2 htab hb1 hb2 hl1 hl2 hg1 hg2 hv1 hv2 HA HB hge1 hge2
  generalize min (tw x) (tw y) = T at *
  generalize (tw x : Int) = zx at *
  generalize (tw y : Int) = zy at *
  go_wp2_with fail
  refine (HZ1.out).mono ?_
  rintro e w3 ⟨rfl, rfl⟩
  go_wp2_with fail
  refine (HZ2.out).mono ?_
  rintro e w3 ⟨rfl, rfl⟩
  go_wp2_with fail
  refine (HD1.out).mono ?_
  rintro e w3 ⟨v3, rfl, ho3, hbut3⟩
  have HO3 := Lib.hid ho3
  have HBUT3 := Lib.hid hbut3
  obtain ⟨o3, c3, rfl, _⟩ := ho3.open
  clear ho3 hbut3
  go_wp2_with fail
  refine (HD2.out w3 HBUT3.out).mono ?_
  rintro e w4 ⟨v4, rfl, ho4, hbut4⟩
  have hE3 : Ext W w3 := HBUT3.out.ext HEW.out (by have := HV.out; omega)
  have hE4 : Ext W w4 := hbut4.ext hE3 (by have := HV.out; omega)
  have HI : Hid (BinI W.heap.size W (Nat.gcd (od x) (od y)) (max x y) (od x + od y) (od x) (od y) g1 g2 (.slice (some ⟨g1, o3, none⟩) (limbs B64 (od x)).length c3) v4 w4) :=
    Lib.hid ⟨HO3.out.but hbut4 hne, ho4, hne, HV.out.1, HV.out.2, hE4, HPX.out.2, HPY.out.2, rfl, Nat.le_trans (od_le x) (Nat.le_max_left _ _), Nat.le_trans (od_le y) (Nat.le_max_right _ _), Nat.le_refl _⟩
  obtain ⟨o4, c4, rfl, _⟩ := ho4.open
  have HM : Hid (bl (max x y) ≤ 549755813888) := Lib.hid (by
    have h1 := HX.out.2
    have h2 := HY.out.2
    rcases Nat.le_total x y with h | h
    · rw [Nat.max_eq_right h]; exact h2
    · rw [Nat.max_eq_left h]; exact h1)
  clear ho4 hbut4 hE3 hE4 HO3 HBUT3 HPX HPY HD1 HD2 HZ1 HZ2 hmin
  generalize (limbs B64 (od x)).length = n3 at *
  generalize (limbs B64 (od y)).length = n4 at *
  generalize max x y = m at *
  generalize hGe : Nat.gcd (od x) (od y) = G at *
  have HG := Lib.hid hGe
  obtain ⟨K, hK⟩ : ∃ K, od x + od y = K := ⟨_, rfl⟩
  rw [hK] at HI
  have HI0 : Hid (∃ a b ga gb, BinI W.heap.size W G m K a b ga gb (.slice (some ⟨g1, o3, none⟩) n3 c3) (.slice (some ⟨g2, o4, none⟩) n4 c4) w4) := Lib.hid ⟨_, _, _, _, HI.out⟩
  clear HI hK hGe HG hne
  go_wp2
  go_loopg [5, 6] K (fun k s5 s6 wr => ∃ (g5 f5 l5 e5 g6 f6 l6 e6 : Nat), s5 = .slice (some ⟨g5, f5, none⟩) l5 e5 ∧ s6 = .slice (some ⟨g6, f6, none⟩) l6 e6 ∧ Hid (∃ a b ga gb, BinI W.heap.size W G m k a b ga gb (.slice (some ⟨g5, f5, none⟩) l5 e5) (.slice (some ⟨g6, f6, none⟩) l6 e6) wr))
  case atStart => exact ⟨g1, o3, n3, c3, g2, o4, n4, c4, rfl, rfl, HI0⟩
  case round =>
    obtain ⟨g5, f5, l5, e5, g6, f6, l6, e6, rfl, rfl, hI⟩ := hrel
    obtain ⟨a, b, ga, gb, hI⟩ := hI.out
    have hba : bl a ≤ 549755813888 := Nat.le_trans (bl_mono hI.la) HM.out
    have hbb : bl b ≤ 549755813888 := Nat.le_trans (bl_mono hI.lb) HM.out
    have hap : 0 < a := by have := hI.pa; omega
    have hbp : 0 < b := by have := hI.pb; omega
    have HCMP := Lib.hid (wcompare_any ga gb a b _ _ wr hI.oa hI.ob hba hbb)
    have HDN : Hid (∀ (g d : Nat) V v', 0 < d → bl d ≤ 549755813888 → OW g (limbs B64 d) v' V → Ext W V → Calls Tryd.prog 86 #[v'] V fun e w' => ∃ v'', e = .returned v'' ∧ OW g (limbs B64 (od d)) v'' w' ∧ But g V w') := Lib.hid fun g d V v' h0 hd ho hV => by
      have h := wdown_any g (limbs B64 d) v' V ho (limbs_dig B64_two d) (by rw [val_limbs B64_two]; exact h0) (by have := limbs_len d hd; omega) (HTAB.out V hV)
      rw [val_limbs B64_two] at h
      exact h
    have HI := Lib.hid hI
    rcases Nat.lt_trichotomy a b with hab | hab | hab
    · rw [cmpN_lt hab] at HCMP
      have HSUB : Hid (∀ V, Ext wr V → Calls Tryd.prog 88 #[.slice (some ⟨g6, f6, none⟩) l6 e6, .slice (some ⟨g5, f5, none⟩) l5 e5] V fun e w' => ∃ v', e = .returned v' ∧ OW gb (limbs B64 (b - a)) v' w' ∧ But gb V w') :=
        Lib.hid fun V hV => wsubtract_any gb ga b a _ _ V (hI.ob.ext hV) (hI.oa.ext hV) hI.ne hbb (Nat.le_of_lt hab)
      have HF : Hid (∀ V v', OW gb (limbs B64 (od (b - a))) v' V → But gb wr V → BinI W.heap.size W G m (od (b - a) + a) (od (b - a)) a gb ga v' (.slice (some ⟨g5, f5, none⟩) l5 e5) V ∧ od (b - a) + a < gk) := Lib.hid fun V v' ho hV =>
        ⟨⟨ho, hI.oa.but hV hI.ne, hI.ne.symm, hI.hb, hI.ha, hV.ext hI.ex hI.hb, (od_spec (by omega)).2, hI.pa, by rw [gcd_step hab hI.pa, Nat.gcd_comm]; exact hI.gcd, Nat.le_trans (od_le _) (by have := hI.lb; omega), hI.la, Nat.le_refl _⟩, by have := hI.lk; have := od_le (b - a); omega⟩
      have hd0 : 0 < b - a := by omega
      have hdb : bl (b - a) ≤ 549755813888 := Nat.le_trans (bl_mono (by omega)) hbb
      have HD := Lib.hid (fun V v' ho hV => HDN.out gb (b - a) V v' hd0 hdb ho hV)
      clear hI hba hbb hap hbp hab hd0 hdb HDN
      go_wp2_with fail
      refine (HCMP.out).mono ?_
      rintro e w5 ⟨rfl, he5⟩
      have HE5 := Lib.hid he5
      clear he5
      go_wp2_with fail
      refine (HSUB.out w5 HE5.out).mono ?_
      rintro e w6 ⟨v6, rfl, ho6, hb6⟩
      have HO6 := Lib.hid ho6
      have HB6 : Hid (But gb wr w6) := Lib.hid ((But.of_ext HE5.out).trans hb6)
      obtain ⟨o7, c7, rfl, _⟩ := ho6.open
      clear ho6 hb6
      go_wp2_with fail
      refine (HD.out w6 _ HO6.out (HB6.out.ext HI.out.ex HI.out.hb)).mono ?_
      rintro e w7 ⟨v7, rfl, ho7, hb7⟩
      have HFF := Lib.hid (HF.out w7 v7 ho7 (HB6.out.trans hb7))
      obtain ⟨o8, c8, rfl, _⟩ := ho7.open
      clear ho7 hb7
      go_wp2
      go_roundg (od (b - a) + a)
      case measure => exact HFF.out.2
      case rel => exact ⟨_, _, _, _, _, _, _, _, rfl, rfl, Lib.hid ⟨_, _, _, _, HFF.out.1⟩⟩
    · subst hab
      have e0 : cmpN a a = 0 := cmpN_eq a
      rw [e0] at HCMP
      have hGa : G = a := by rw [← hI.gcd, Nat.gcd_self]
      have HNUM : Hid (∀ V, Ext wr V → Calls Tryd.prog 89 #[.slice (some ⟨g5, f5, none⟩) l5 e5] V (Ret (.agg #[.int .u64 (lo (G) : Nat), .string (hi (G))]) V)) := Lib.hid fun V hV => by
        have h := wnumber_any ga (limbs B64 a) _ V (hI.oa.ext hV) (limbs_dig B64_two a) (limbs_len64 a 8589934592 (by omega))
        rw [val_limbs B64_two] at h
        rw [hGa]
        exact h
      have HEXR := Lib.hid hI.ex
      have HGX := Lib.hid (show G * 2 ^ T = Nat.gcd x y by rw [HGO.out, Nat.mul_comm])
      clear hI hba hbb hap hbp hGa HDN HI e0
      go_wp2_with fail
      refine (HCMP.out).mono ?_
      rintro e w5 ⟨rfl, he5⟩
      have HE5 := Lib.hid he5
      clear he5
      go_wp2_with fail
      refine (HNUM.out w5 HE5.out).mono ?_
      rintro e w6 ⟨rfl, he6⟩
      have HE6 : Hid (Ext W w6) := Lib.hid ((HEXR.out.trans HE5.out).trans he6)
      have hgz : w.heap.size + 1 + 1 < w6.heap.size := by have := HE6.out.size; have := HSZ.out; omega
      clear he6 HE5
      have e1 : G * 2 ^ min T (65536 * 0) = G := by simp
      have E1 := Lib.hid e1
      clear e1
      generalize hlG : lo G = lG at *
      generalize hsG : hi G = sG at *
      have HLG2 := Lib.hid (And.intro hlG hsG)
      clear hlG hsG
      go_wp2
      have hb9 : Blk (w6.alloc (.cells #[.int .u64 lG, .string sG] 25)) w6.heap.size 25 [.int .u64 lG, .string sG] := Blk.new w6 _ _
      have hx9 : Ext W (w6.alloc (.cells #[.int .u64 lG, .string sG] 25)) := HE6.out.alloc _
      generalize w6.alloc (.cells #[.int .u64 lG, .string sG] 25) = w9 at *
      have HGE9 : Hid (W.heap.size ≤ w6.heap.size) := Lib.hid HE6.out.size
      have HB9 : Hid (Blk w9 w6.heap.size 25 [.int .u64 (lo (G * 2 ^ min T (65536 * 0)) : Nat), .string (hi (G * 2 ^ min T (65536 * 0)))]) := Lib.hid (by rw [E1.out, HLG2.out.1, HLG2.out.2]; exact hb9)
      have HX9 := Lib.hid hx9
      clear hb9 hx9 HE6 E1 HLG2
      generalize w6.heap.size = g9 at *
      go_loopw [7] (fun t wr2 => ∃ (i : Nat) (z : Int), t = .int .i64 z ∧ -65536 ≤ z ∧ z ≤ 549755813888 ∧ Hid (z = (T : Int) - 65536 * (i : Int)) ∧ Hid (Blk wr2 g9 25 [.int .u64 (lo (G * 2 ^ min T (65536 * i)) : Nat), .string (hi (G * 2 ^ min T (65536 * i)))]) ∧ Hid (Ext W wr2)) (fun t _ => (intOf t).toNat)
      case atStart => exact ⟨0, T, rfl, by omega, by omega, Lib.hid (by omega), HB9, HX9⟩
      case round =>
        obtain ⟨i, z, rfl, hz1, hz2, hz, hb, hx⟩ := hrel
        by_cases hzp : 0 < z
        · have hTi : 65536 * i < T := by have := hz.out; omega
          obtain ⟨r, hr⟩ : ∃ r, r = min (T - 65536 * i) 65536 := ⟨_, rfl⟩
          have hmin : min z 65536 = (r : Int) := by have := hz.out; omega
          have hsm : bl (G * 2 ^ min T (65536 * i)) ≤ 549755813888 := by
            have h1 := gcd_shift_le HGX.out (min T (65536 * i)) (Nat.min_le_left _ _)
            have h2 : Nat.gcd x y ≤ x := Nat.le_of_dvd HX.out.1 (Nat.gcd_dvd_left x y)
            exact Nat.le_trans (bl_mono (Nat.le_trans h1 h2)) HX.out.2
          have HSH : Hid (∀ V, Calls Tryd.prog 90 #[.agg #[.int .u64 (lo (G * 2 ^ min T (65536 * i)) : Nat), .string (hi (G * 2 ^ min T (65536 * i)))], .int .i64 r] V (Ret (.agg #[.int .u64 (lo (G * 2 ^ min T (65536 * (i + 1))) : Nat), .string (hi (G * 2 ^ min T (65536 * (i + 1))))]) V)) := Lib.hid fun V => by
            have h := shift_up (G * 2 ^ min T (65536 * i)) r hsm (by omega) V
            rw [two_chunk hTi hr] at h
            exact h
          have hc0 := hb.out.cell 0
          have hc1 := hb.out.cell 1
          simp only [List.getElem?_cons_zero, List.getElem?_cons_succ] at hc0 hc1
          have HR2 : Hid ((r : Int) = min ((T : Int) - 65536 * i) 65536) := Lib.hid (by omega)
          have hr0 : r ≤ 65536 := by omega
          clear hsm hr hTi
          generalize lo (G * 2 ^ min T (65536 * i)) = l1 at *
          generalize hi (G * 2 ^ min T (65536 * i)) = s1 at *
          generalize hl2 : lo (G * 2 ^ min T (65536 * (i + 1))) = l2 at *
          generalize hs2 : hi (G * 2 ^ min T (65536 * (i + 1))) = s2 at *
          have HL2 := Lib.hid (And.intro hl2 hs2)
          clear hl2 hs2
          go_wp2_with fail
          refine (HSH.out _).mono ?_
          rintro e w10 ⟨rfl, he10⟩
          have HB10 := Lib.hid (hb.out.ext he10)
          have HX10 := Lib.hid (hx.out.trans he10)
          have c0 : w10.cell? ⟨g9, 0, none⟩ = some (.int .u64 l1) := HB10.out.cell 0
          have c1' : w10.cell? ⟨g9, 1, none⟩ = some (.string s1) := HB10.out.cell 1
          have f0 : w10.frozen? ⟨g9, 0, none⟩ = false := HB10.out.frozen 0
          have f1 : w10.frozen? ⟨g9, 1, none⟩ = false := HB10.out.frozen 1
          clear hb hx hc0 hc1 he10 hmin
          go_wp2
          go_roundw
          case rel =>
            refine ⟨i + 1, z - 65536, by go_num, by omega, by omega, Lib.hid (by have := hz.out; omega), Lib.hid ?_, Lib.hid ?_⟩
            · rw [HL2.out.1, HL2.out.2]
              exact (HB10.out.set 0 _).set 1 _
            · exact (Below.setCell HX10.out (p := ⟨g9, 0, none⟩) HGE9.out _).setCell (p := ⟨g9, 1, none⟩) HGE9.out _
          case measure => simp [intOf]; omega
        · have hfin : G * 2 ^ min T (65536 * i) = Nat.gcd x y := by
            have := hz.out
            rw [Nat.min_eq_left (by omega)]
            exact HGX.out
          have hbf := hb.out
          rw [hfin, HLG.out, HSG.out] at hbf
          have hc0 : wr.cell? ⟨g9, 0, none⟩ = some (.int .u64 lg) := hbf.cell 0
          have hc1 : wr.cell? ⟨g9, 1, none⟩ = some (.string sg') := hbf.cell 1
          have hr3 := HR.out.ext hx.out
          have r0 : wr.cell? ⟨w.heap.size + 1 + 1, 0, none⟩ = some (.int .u64 0) := hr3.cell 0
          have r1 : wr.cell? ⟨w.heap.size + 1 + 1, 1, none⟩ = some (.string ⟨#[]⟩) := hr3.cell 1
          have q0 : wr.frozen? ⟨w.heap.size + 1 + 1, 0, none⟩ = false := hr3.frozen 0
          have q1 : wr.frozen? ⟨w.heap.size + 1 + 1, 1, none⟩ = false := hr3.frozen 1
          have HXX := Lib.hid (HEX.out.trans hx.out)
          have HR3 := Lib.hid hr3
          clear hb hx hbf hfin hr3
          go_wp2
          refine ret_nat (w.heap.size + 1 + 1) _ _ rfl rfl ((HR3.out.set 0 _).set 1 _) rfl ⟨rfl, ?_⟩
          exact (Below.setCell HXX.out (p := ⟨w.heap.size + 1 + 1, 0, none⟩) (by show _ ≤ _; simp; omega) _).setCell (p := ⟨w.heap.size + 1 + 1, 1, none⟩) (by show _ ≤ _; simp; omega) _
    · rw [cmpN_gt hab] at HCMP
      have HSUB : Hid (∀ V, Ext wr V → Calls Tryd.prog 88 #[.slice (some ⟨g5, f5, none⟩) l5 e5, .slice (some ⟨g6, f6, none⟩) l6 e6] V fun e w' => ∃ v', e = .returned v' ∧ OW ga (limbs B64 (a - b)) v' w' ∧ But ga V w') :=
        Lib.hid fun V hV => wsubtract_any ga gb a b _ _ V (hI.oa.ext hV) (hI.ob.ext hV) hI.ne.symm hba (Nat.le_of_lt hab)
      have HF : Hid (∀ V v', OW ga (limbs B64 (od (a - b))) v' V → But ga wr V → BinI W.heap.size W G m (od (a - b) + b) (od (a - b)) b ga gb v' (.slice (some ⟨g6, f6, none⟩) l6 e6) V ∧ od (a - b) + b < gk) := Lib.hid fun V v' ho hV =>
        ⟨⟨ho, hI.ob.but hV hI.ne.symm, hI.ne, hI.ha, hI.hb, hV.ext hI.ex hI.ha, (od_spec (by omega)).2, hI.pb, by rw [gcd_step hab hI.pb]; exact hI.gcd, Nat.le_trans (od_le _) (by have := hI.la; omega), hI.lb, Nat.le_refl _⟩, by have := hI.lk; have := od_le (a - b); omega⟩
      have hd0 : 0 < a - b := by omega
      have hdb : bl (a - b) ≤ 549755813888 := Nat.le_trans (bl_mono (by omega)) hba
      have HD := Lib.hid (fun V v' ho hV => HDN.out ga (a - b) V v' hd0 hdb ho hV)
      clear hI hba hbb hap hbp hab hd0 hdb HDN
      go_wp2_with fail
      refine (HCMP.out).mono ?_
      rintro e w5 ⟨rfl, he5⟩
      have HE5 := Lib.hid he5
      clear he5
      go_wp2_with fail
      refine (HSUB.out w5 HE5.out).mono ?_
      rintro e w6 ⟨v6, rfl, ho6, hb6⟩
      have HO6 := Lib.hid ho6
      have HB6 : Hid (But ga wr w6) := Lib.hid ((But.of_ext HE5.out).trans hb6)
      obtain ⟨o7, c7, rfl, _⟩ := ho6.open
      clear ho6 hb6
      go_wp2_with fail
      refine (HD.out w6 _ HO6.out (HB6.out.ext HI.out.ex HI.out.ha)).mono ?_
      rintro e w7 ⟨v7, rfl, ho7, hb7⟩
      have HFF := Lib.hid (HF.out w7 v7 ho7 (HB6.out.trans hb7))
      obtain ⟨o8, c8, rfl, _⟩ := ho7.open
      clear ho7 hb7
      go_wp2
      go_roundg (od (a - b) + b)
      case measure => exact HFF.out.2
      case rel => exact ⟨_, _, _, _, _, _, _, _, rfl, rfl, Lib.hid ⟨_, _, _, _, HFF.out.1⟩⟩
end Go.Proofs.YtiloialbglfplaaDoor

namespace Go.Proofs.YtiloialbglfplaaDoor
open Go.RowKit

section
variable {P : Program} {o : Oper} {m : Sl} {w : World}
theorem run_rem {k : IntKind} {xo yo : Operand} {tt t2 : TypeId} {x y : Int} (ho : o.op = .binOp .rem tt xo yo t2) (hx : ev m xo = .int k x) (hy : ev m yo = .int k y) (h0 : y ≠ 0) : (execOp (ev m) o).run P w = .ok (.value (.int k (x.tmod y))) w := by
  unfold execOp
  simp [ho, hx, hy, eqGuard, binOp, Op.intDiv, h0]
theorem run_quo {k : IntKind} {xo yo : Operand} {tt t2 : TypeId} {x y : Int} (ho : o.op = .binOp .quo tt xo yo t2) (hx : ev m xo = .int k x) (hy : ev m yo = .int k y) (h0 : y ≠ 0) : (execOp (ev m) o).run P w = .ok (.value (.int k (k.wrap (x.tdiv y)))) w := by
  unfold execOp
  simp [ho, hx, hy, eqGuard, binOp, Op.intDiv, h0]
end
theorem ret_n {x y : Nat} {w w' : World} (h : x = y) (e : Ext w w') : Ret (nV y) w (.returned (pack [nV x])) w' := by subst h; exact ⟨rfl, e⟩
theorem g_zero {x y : Nat} (h : y = 0) : x = Nat.gcd x y := by subst h; rw [Nat.gcd_zero_right]
theorem g_mod {x y : Nat} (h : x % y = 0) : y = Nat.gcd x y := (Nat.gcd_eq_right (Nat.dvd_of_mod_eq_zero h)).symm
theorem g_rec (x y : Nat) : Nat.gcd y (x % y) = Nat.gcd x y := by rw [Nat.gcd_comm x y, Nat.gcd_rec y x, Nat.gcd_comm]
theorem cbits_zero {x : Nat} (h : x = 0) (W : World) : Calls Tryd.prog 39 #[nV x] W (Ret (.int .i64 0) W) := by
  subst h
  have h := bits_any 0 (by rw [bl_zero]; omega) W
  rw [bl_zero] at h
  exact h
theorem bl_ne {x : Nat} (h : decide (x = 0) = false) : (((bl x : Nat) : Int) == 0) = false := by
  have h := of_decide_eq_false h
  have := (bl_pos_iff x).2 (by omega)
  exact beq_eq_false_iff_ne.2 (by omega)
theorem cmpN_nlt {x y : Nat} (h : decide (x < y) = false) : decide (cmpN x y < 0) = false := by
  have := cmpN_ge (Nat.le_of_not_lt (of_decide_eq_false h))
  exact decide_eq_false (by omega)
theorem csmall {x : Nat} (h : x < B64) (W : World) : Calls Tryd.prog 58 #[nV x] W (Ret (.tuple #[.int .u64 ((x : Nat) : Int), .bool true]) W) := small_lt x h W
theorem csmall_no {x : Nat} (h : ¬ x < B64) (W : World) : Calls Tryd.prog 58 #[nV x] W (Ret (.tuple #[.int .u64 0, .bool false]) W) := small_ge x (Nat.le_of_not_lt h) W
theorem cbinary {j k x y : Nat} (hj : Sm j x) (hk : Sm k y) (hx : x ≠ 0) (hy : y ≠ 0) (W : World) (ht : Tab64 W) (h : max j k ≤ 549755813888) : Calls Tryd.prog 59 #[nV x, nV y] W (Ret (nV (Nat.gcd x y)) W) :=
  wbinary_any x y (Nat.pos_of_ne_zero hx) (Nat.pos_of_ne_zero hy) (by unfold Sm at hj; omega) (by unfold Sm at hk; omega) W ht

set_option maxHeartbeats 1000000 in
theorem zgcd {j k : Nat} {a b : Int} (ha0 : Sm j a.natAbs) (hb0 : Sm k b.natAbs) (w : World) (htab : Tab64 w) (hk : max j k ≤ 549755813887) : Calls Tryd.prog 34 #[zV a, zV b] w (Ret (nV (Nat.gcd a.natAbs b.natAbs)) w) := by
  have hs := St.start w
  refine enter Tryd.func34 rfl Tryd.ntmps34 (by kernel_rfl) fun ac ha => ?_
  refine wp_seq ?_
  refine wp_region_lit ?_
  refine s_box ha hs [.bool (decide (a < 0)), .int .u64 (lo a.natAbs : Nat), .string (hi a.natAbs)] fun g1 ac wd ha hs => ?_
  refine s_box ha hs [.bool (decide (b < 0)), .int .u64 (lo b.natAbs : Nat), .string (hi b.natAbs)] fun g2 ac wd ha hs => ?_
  refine s_alloc ha hs [.int .u64 0, .string (⟨#[]⟩)] fun g3 ac wd ha hs => ?_
  refine wpList_nil ((x_normal ?_))
  refine wp_seq ?_
  refine region_sp ha 6 [.eq (.pointer (some ⟨g1, 1, none⟩)), .eq (nV a.natAbs), .eq (.pointer (some ⟨g2, 1, none⟩)), .eq (nV b.natAbs), .new _ 25 [.int .u64 0, .string (⟨#[]⟩)], .new _ 25 [.int .u64 0, .string (⟨#[]⟩)]] [false, false, true, true] [(g2, 27, [.bool (decide (b < 0)), .int .u64 (lo b.natAbs : Nat), .string (hi b.natAbs)])] (hs.keeps _ [1])
    ⟨d_val, d_load hs 2, t_val, t_load 0, d_new, d_new, trivial⟩ ?_
  intro vv wd1 ac hw hG hN ha
  have ha := ha.sub [(0, zV a), (1, zV b), (4, .pointer (some ⟨g3, 0, none⟩)), (15, nV a.natAbs), (17, nV b.natAbs), (5, vv 4), (6, vv 5)]
  have h_g5 : NewAt _ 25 [.int .u64 0, .string (⟨#[]⟩)] (vv 4) wd1 := hG 4 5 (by decide) rfl
  have h_g6 : NewAt _ 25 [.int .u64 0, .string (⟨#[]⟩)] (vv 5) wd1 := hG 5 6 (by decide) rfl
  have n_g5_g6 : vv 4 ≠ vv 5 := hN 4 5 (by decide) (by decide) (by decide) rfl rfl
  clear hG hN
  obtain ⟨g5, b_g5, e_g5, h_g5⟩ := h_g5
  rw [e_g5] at ha n_g5_g6
  clear e_g5
  obtain ⟨g6, b_g6, e_g6, h_g6⟩ := h_g6
  rw [e_g6] at ha n_g5_g6
  clear e_g6
  have hs := hs.news hw [(g6, 25, [.int .u64 0, .string (⟨#[]⟩)]), (g5, 25, [.int .u64 0, .string (⟨#[]⟩)])] ⟨⟨b_g6, h_g6⟩, ⟨b_g5, h_g5⟩, trivial⟩ ⟨⟨ptr_ne n_g5_g6.symm, trivial⟩, trivial, trivial⟩
  clear hw
  show A4.wpListS _ _ _ _ _ _ _
  refine u_store ha hs [3] 1 _ fun ac wd ha hs => ?_
  refine u_store ha hs [3] 0 _ fun ac wd ha hs => ?_
  refine u_nil ((x_normal ?_))
  refine wp_seq ?_
  refine wp_seq ?_
  refine wp_region_lit ?_
  refine s_load ha hs 1 (nV a.natAbs) fun ac ha => ?_
  refine s_load ha hs 0 (nV b.natAbs) fun ac ha => ?_
  rcases Bool.eq_false_or_eq_true (decide (a.natAbs < b.natAbs)) with hb7 | hb7
  ·
    have phb7 := of_decide_eq_true hb7
    refine s_call ha hs (.int .i64 (-1)) (ccmp_lt ha0 hb0 (of_decide_eq_true hb7) _ (by omega)) fun ac wd ha hs => ?_
    refine s_val ha (.bool true) fun ac ha => ?_
    refine wpList_nil ((x_normal ?_))
    refine r_true ha ?_
    refine wp_region_lit ?_
    refine s_load ha hs 0 (nV b.natAbs) fun ac ha => ?_
    refine s_load ha hs 1 (nV a.natAbs) fun ac ha => ?_
    refine s_store ha hs 1 _ fun ac wd ha hs => ?_
    refine s_store ha hs 0 _ fun ac wd ha hs => ?_
    refine wpList_nil ((x_normal ?_))
    refine wp_seq ?_
    refine wp_seq ?_
    refine wp_region_lit ?_
    refine s_load ha hs 0 (nV a.natAbs) fun ac ha => ?_
    rcases Bool.eq_false_or_eq_true (decide (a.natAbs = 0)) with hb8 | hb8
    ·
      have phb8 := of_decide_eq_true hb8
      refine s_call ha hs (.int .i64 0) (cbits_zero (of_decide_eq_true hb8) _) fun ac wd ha hs => ?_
      refine s_val ha (.bool true) fun ac ha => ?_
      refine wpList_nil ((x_normal ?_))
      refine r_true ha ?_
      refine wp_seq ?_
      refine wp_region_lit ?_
      refine s_load ha hs 1 (nV b.natAbs) fun ac ha => ?_
      refine s_store ha hs 2 _ fun ac wd ha hs => ?_
      refine wpList_nil ((x_normal ?_))
      refine wp_ret (x_ret (ret_at ha hs rfl [nV b.natAbs] ⟨⟨2, _, _, _, rfl, rfl, by kernel_rfl⟩, trivial⟩ ?_))
      exact ret_n ((g_zero (of_decide_eq_true hb8)).trans (Nat.gcd_comm _ _)) hs.ext
    ·
      have phb8 := of_decide_eq_false hb8
      refine s_call ha hs (.int .i64 ((bl a.natAbs : Nat) : Int)) (cbits ha0 _ (by omega)) fun ac wd ha hs => ?_
      refine s_bool ha (b := (((bl a.natAbs : Nat) : Int) == 0)) false (bl_ne hb8) fun ac ha => ?_
      refine wpList_nil ((x_normal ?_))
      refine r_false ha ?_
      refine wp_skip ((x_normal ?_))
      refine wp_seq ?_
      refine wp_region_lit ?_
      refine s_load ha hs 1 (nV b.natAbs) fun ac ha => ?_
      refine s_load ha hs 0 (nV a.natAbs) fun ac ha => ?_
      refine s_call ha hs (.tuple #[nV (b.natAbs / a.natAbs), nV (b.natAbs % a.natAbs), .bool true]) (cdiv hb0 ha0 (of_decide_eq_false hb8) _ (by omega)) fun ac wd ha hs => ?_
      refine s_val ha (.tuple #[nV (b.natAbs / a.natAbs), nV (b.natAbs % a.natAbs), .bool true]) fun ac ha => ?_
      refine s_val ha (nV (b.natAbs / a.natAbs)) fun ac ha => ?_
      refine s_val ha (nV (b.natAbs % a.natAbs)) fun ac ha => ?_
      refine s_val ha (.bool true) fun ac ha => ?_
      refine s_alloc ha hs [.int .u64 0, .string (⟨#[]⟩)] fun g9 ac wd ha hs => ?_
      refine s_alloc ha hs [.int .u64 0, .string (⟨#[]⟩)] fun g10 ac wd ha hs => ?_
      refine s_store ha hs 1 _ fun ac wd ha hs => ?_
      refine s_store ha hs 0 _ fun ac wd ha hs => ?_
      refine s_val ha (.bool true) fun ac ha => ?_
      refine wpList_nil ((x_normal ?_))
      refine wp_seq ?_
      refine region_sp ha 2 [.eq (nV a.natAbs), .eq (nV (b.natAbs % a.natAbs))] [false, true] [(g10, 25, [.int .u64 (lo (b.natAbs % a.natAbs) : Nat), .string (hi (b.natAbs % a.natAbs))])] (hs.keeps _ [0])
        ⟨d_load hs 2, t_load 0, trivial⟩ ?_
      intro vv wd1 ac hw hG hN ha
      have ha := ha.sub [(0, zV a), (1, zV b), (4, .pointer (some ⟨g3, 0, none⟩)), (15, nV a.natAbs), (17, nV b.natAbs), (5, .pointer (some ⟨g5, 0, none⟩)), (6, .pointer (some ⟨g6, 0, none⟩)), (18, nV a.natAbs), (19, nV b.natAbs), (20, .int .i64 (-1)), (21, .bool true), (22, nV b.natAbs), (23, nV a.natAbs), (24, nV a.natAbs), (25, .int .i64 ((bl a.natAbs : Nat) : Int)), (26, .bool false), (29, nV b.natAbs), (30, nV a.natAbs), (31, .tuple #[nV (b.natAbs / a.natAbs), nV (b.natAbs % a.natAbs), .bool true]), (28, .tuple #[nV (b.natAbs / a.natAbs), nV (b.natAbs % a.natAbs), .bool true]), (32, nV (b.natAbs / a.natAbs)), (33, nV (b.natAbs % a.natAbs)), (34, .bool true), (7, .pointer (some ⟨g9, 0, none⟩)), (8, .pointer (some ⟨g10, 0, none⟩)), (35, nV a.natAbs), (36, nV (b.natAbs % a.natAbs))]
      clear hG hN
      have hs := hs.go hw
      clear hw
      show A4.wpListS _ _ _ _ _ _ _
      refine u_store ha hs [0] 3 _ fun ac wd ha hs => ?_
      refine u_store ha hs [0] 2 _ fun ac wd ha hs => ?_
      refine u_nil ((x_normal ?_))
      refine wp_seq ?_
      refine wp_seq ?_
      refine wp_region_lit ?_
      refine s_load ha hs 2 (nV (b.natAbs % a.natAbs)) fun ac ha => ?_
      rcases Bool.eq_false_or_eq_true (decide ((b.natAbs % a.natAbs) = 0)) with hb12 | hb12
      ·
        have phb12 := of_decide_eq_true hb12
        refine s_call ha hs (.int .i64 0) (cbits_zero (of_decide_eq_true hb12) _) fun ac wd ha hs => ?_
        refine s_val ha (.bool true) fun ac ha => ?_
        refine wpList_nil ((x_normal ?_))
        refine r_true ha ?_
        refine wp_seq ?_
        refine wp_region_lit ?_
        refine s_load ha hs 3 (nV a.natAbs) fun ac ha => ?_
        refine s_store ha hs 4 _ fun ac wd ha hs => ?_
        refine wpList_nil ((x_normal ?_))
        refine wp_ret (x_ret (ret_at ha hs rfl [nV a.natAbs] ⟨⟨4, _, _, _, rfl, rfl, by kernel_rfl⟩, trivial⟩ ?_))
        exact ret_n ((g_mod (of_decide_eq_true hb12)).trans (Nat.gcd_comm _ _)) hs.ext
      ·
        have phb12 := of_decide_eq_false hb12
        refine s_call ha hs (.int .i64 ((bl (b.natAbs % a.natAbs) : Nat) : Int)) (cbits (hb0.mod a.natAbs) _ (by omega)) fun ac wd ha hs => ?_
        refine s_bool ha (b := (((bl (b.natAbs % a.natAbs) : Nat) : Int) == 0)) false (bl_ne hb12) fun ac ha => ?_
        refine wpList_nil ((x_normal ?_))
        refine r_false ha ?_
        refine wp_skip ((x_normal ?_))
        refine wp_seq ?_
        refine wp_seq ?_
        refine wp_region_lit ?_
        refine s_load ha hs 3 (nV a.natAbs) fun ac ha => ?_
        rcases Bool.eq_false_or_eq_true (decide (a.natAbs < B64)) with hb13 | hb13
        ·
          have phb13 := of_decide_eq_true hb13
          refine s_call ha hs (.tuple #[.int .u64 ((a.natAbs : Nat) : Int), .bool true]) (csmall (of_decide_eq_true hb13) _) fun ac wd ha hs => ?_
          refine s_val ha (.tuple #[.int .u64 ((a.natAbs : Nat) : Int), .bool true]) fun ac ha => ?_
          refine s_val ha (.int .u64 ((a.natAbs : Nat) : Int)) fun ac ha => ?_
          refine s_val ha (.bool true) fun ac ha => ?_
          refine s_val ha (.int .u64 ((a.natAbs : Nat) : Int)) fun ac ha => ?_
          refine s_val ha (.bool true) fun ac ha => ?_
          refine wpList_nil ((x_normal ?_))
          refine wp_seq ?_
          refine wp_region_lit ?_
          refine s_val ha (.bool true) fun ac ha => ?_
          refine wpList_nil ((x_normal ?_))
          refine r_true ha ?_
          refine wp_seq ?_
          refine wp_region_lit ?_
          refine s_load ha hs 2 (nV (b.natAbs % a.natAbs)) fun ac ha => ?_
          refine s_call ha hs (.tuple #[.int .u64 (((b.natAbs % a.natAbs) : Nat) : Int), .bool true]) (csmall (of_decide_eq_true (decide_eq_true (Nat.lt_trans (Nat.mod_lt _ (Nat.pos_of_ne_zero (of_decide_eq_false hb8))) (of_decide_eq_true hb13)))) _) fun ac wd ha hs => ?_
          refine s_val ha (.tuple #[.int .u64 (((b.natAbs % a.natAbs) : Nat) : Int), .bool true]) fun ac ha => ?_
          refine s_val ha (.int .u64 (((b.natAbs % a.natAbs) : Nat) : Int)) fun ac ha => ?_
          refine s_val ha (.bool true) fun ac ha => ?_
          refine s_val ha (.int .u64 (((b.natAbs % a.natAbs) : Nat) : Int)) fun ac ha => ?_
          refine s_val ha (.bool true) fun ac ha => ?_
          refine wpList_nil ((x_normal ?_))
          refine wp_seq ?_
          refine wp_block ?_
          refine loop_inv (α := Nat × Nat) (fun ⟨m0, n0⟩ ac wd => At ac _ [(0, zV a), (1, zV b), (4, .pointer (some ⟨g3, 0, none⟩)), (15, nV a.natAbs), (17, nV b.natAbs), (5, .pointer (some ⟨g5, 0, none⟩)), (6, .pointer (some ⟨g6, 0, none⟩)), (18, nV a.natAbs), (19, nV b.natAbs), (20, .int .i64 (-1)), (21, .bool true), (22, nV b.natAbs), (23, nV a.natAbs), (24, nV a.natAbs), (25, .int .i64 ((bl a.natAbs : Nat) : Int)), (26, .bool false), (29, nV b.natAbs), (30, nV a.natAbs), (31, .tuple #[nV (b.natAbs / a.natAbs), nV (b.natAbs % a.natAbs), .bool true]), (28, .tuple #[nV (b.natAbs / a.natAbs), nV (b.natAbs % a.natAbs), .bool true]), (32, nV (b.natAbs / a.natAbs)), (33, nV (b.natAbs % a.natAbs)), (34, .bool true), (7, .pointer (some ⟨g9, 0, none⟩)), (8, .pointer (some ⟨g10, 0, none⟩)), (35, nV a.natAbs), (36, nV (b.natAbs % a.natAbs)), (37, nV (b.natAbs % a.natAbs)), (38, .int .i64 ((bl (b.natAbs % a.natAbs) : Nat) : Int)), (39, .bool false), (42, nV a.natAbs), (43, .tuple #[.int .u64 ((a.natAbs : Nat) : Int), .bool true]), (41, .tuple #[.int .u64 ((a.natAbs : Nat) : Int), .bool true]), (44, .int .u64 ((a.natAbs : Nat) : Int)), (45, .bool true), (10, .int .u64 ((m0 : Nat) : Int)), (11, .bool true), (46, .bool true), (48, nV (b.natAbs % a.natAbs)), (49, .tuple #[.int .u64 (((b.natAbs % a.natAbs) : Nat) : Int), .bool true]), (47, .tuple #[.int .u64 (((b.natAbs % a.natAbs) : Nat) : Int), .bool true]), (50, .int .u64 (((b.natAbs % a.natAbs) : Nat) : Int)), (51, .bool true), (12, .int .u64 ((n0 : Nat) : Int))] ∧ St w wd [(g10, 25, [.int .u64 (lo (b.natAbs % a.natAbs) : Nat), .string (hi (b.natAbs % a.natAbs))]), (g9, 25, [.int .u64 (lo (b.natAbs / a.natAbs) : Nat), .string (hi (b.natAbs / a.natAbs))]), (g6, 25, [.int .u64 (lo (b.natAbs % a.natAbs) : Nat), .string (hi (b.natAbs % a.natAbs))]), (g5, 25, [.int .u64 (lo a.natAbs : Nat), .string (hi a.natAbs)]), (g3, 25, [.int .u64 0, .string (⟨#[]⟩)]), (g2, 27, [.bool (decide (b < 0)), .int .u64 (lo b.natAbs : Nat), .string (hi b.natAbs)]), (g1, 27, [.bool (decide (a < 0)), .int .u64 (lo a.natAbs : Nat), .string (hi a.natAbs)])] [] ∧ Nat.gcd m0 n0 = Nat.gcd a.natAbs (b.natAbs % a.natAbs) ∧ m0 < B64 ∧ n0 < B64) (fun ⟨m0, n0⟩ => n0) (a.natAbs, (b.natAbs % a.natAbs)) ⟨ha.sub _, hs.cast _, ⟨rfl, of_decide_eq_true hb13, of_decide_eq_true (decide_eq_true (Nat.lt_trans (Nat.mod_lt _ (Nat.pos_of_ne_zero (of_decide_eq_false hb8))) (of_decide_eq_true hb13)))⟩⟩ ?_
          rintro ⟨m0, n0⟩ ac wd ⟨ha, hs, hI⟩
          refine wp_seq ?_
          refine wp_seq ?_
          refine wp_region_lit ?_
          refine s_val ha (.int .u64 ((n0 : Nat) : Int)) fun ac ha => ?_
          rcases Bool.eq_false_or_eq_true (decide (((n0 : Nat) : Int) > 0)) with hb14 | hb14
          ·
            have phb14 := of_decide_eq_true hb14
            refine s_bool ha (b := decide (((n0 : Nat) : Int) > 0)) true hb14 fun ac ha => ?_
            refine wpList_nil ((x_normal ?_))
            refine r_true ha ?_
            refine wp_skip ((x_normal ?_))
            refine wp_block ?_
            refine region_sp ha 4 [.eq (.int .u64 ((n0 : Nat) : Int)), .eq (.int .u64 ((m0 : Nat) : Int)), .eq (.int .u64 ((n0 : Nat) : Int)), .eq (.int .u64 ((m0 % n0 : Nat) : Int))] [false, false, true, true] [] (fun _ hb => by cases hb)
              ⟨d_val, d_val, t_val, t_val (hr := fun _ _ => run_rem rfl rfl rfl (by omega)), trivial⟩ ?_
            intro vv wd1 ac hw hG hN ha
            have ha := ha.sub [(0, zV a), (1, zV b), (4, .pointer (some ⟨g3, 0, none⟩)), (15, nV a.natAbs), (17, nV b.natAbs), (5, .pointer (some ⟨g5, 0, none⟩)), (6, .pointer (some ⟨g6, 0, none⟩)), (18, nV a.natAbs), (19, nV b.natAbs), (20, .int .i64 (-1)), (21, .bool true), (22, nV b.natAbs), (23, nV a.natAbs), (24, nV a.natAbs), (25, .int .i64 ((bl a.natAbs : Nat) : Int)), (26, .bool false), (29, nV b.natAbs), (30, nV a.natAbs), (31, .tuple #[nV (b.natAbs / a.natAbs), nV (b.natAbs % a.natAbs), .bool true]), (28, .tuple #[nV (b.natAbs / a.natAbs), nV (b.natAbs % a.natAbs), .bool true]), (32, nV (b.natAbs / a.natAbs)), (33, nV (b.natAbs % a.natAbs)), (34, .bool true), (7, .pointer (some ⟨g9, 0, none⟩)), (8, .pointer (some ⟨g10, 0, none⟩)), (35, nV a.natAbs), (36, nV (b.natAbs % a.natAbs)), (37, nV (b.natAbs % a.natAbs)), (38, .int .i64 ((bl (b.natAbs % a.natAbs) : Nat) : Int)), (39, .bool false), (42, nV a.natAbs), (43, .tuple #[.int .u64 ((a.natAbs : Nat) : Int), .bool true]), (41, .tuple #[.int .u64 ((a.natAbs : Nat) : Int), .bool true]), (44, .int .u64 ((a.natAbs : Nat) : Int)), (45, .bool true), (10, .int .u64 ((m0 : Nat) : Int)), (11, .bool true), (46, .bool true), (48, nV (b.natAbs % a.natAbs)), (49, .tuple #[.int .u64 (((b.natAbs % a.natAbs) : Nat) : Int), .bool true]), (47, .tuple #[.int .u64 (((b.natAbs % a.natAbs) : Nat) : Int), .bool true]), (50, .int .u64 (((b.natAbs % a.natAbs) : Nat) : Int)), (51, .bool true), (12, .int .u64 ((n0 : Nat) : Int)), (52, .int .u64 ((n0 : Nat) : Int)), (53, .bool true), (54, .int .u64 ((n0 : Nat) : Int)), (57, .int .u64 ((m0 % n0 : Nat) : Int))]
            clear hG hN
            have hs := hs.go hw
            clear hw
            refine keeps_nil ?_
            show wpList _ _ _ _ _ _
            refine s_val ha (.int .u64 ((n0 : Nat) : Int)) fun ac ha => ?_
            refine s_val ha (.int .u64 ((m0 % n0 : Nat) : Int)) fun ac ha => ?_
            refine wpList_nil ((b_normal (x_normal ?_)))
            exact ⟨(n0, m0 % n0), ⟨ha.sub _, hs.cast _, ⟨(g_rec m0 n0).trans hI.1, hI.2.2, Nat.lt_trans (Nat.mod_lt _ (by omega)) hI.2.2⟩⟩, Nat.mod_lt _ (by omega)⟩
          ·
            have phb14 := of_decide_eq_false hb14
            refine s_bool ha (b := decide (((n0 : Nat) : Int) > 0)) false hb14 fun ac ha => ?_
            refine wpList_nil ((x_normal ?_))
            refine r_false ha ?_
            refine wp_exit (x_exit (x_exit (b_hit (x_normal ?_))))
            refine wp_seq ?_
            refine wp_region_lit ?_
            refine s_val ha (.int .u64 ((m0 : Nat) : Int)) fun ac ha => ?_
            refine s_call ha hs (nV m0) (cof m0 hI.2.1 _) fun ac wd ha hs => ?_
            refine s_store ha hs 4 _ fun ac wd ha hs => ?_
            refine wpList_nil ((x_normal ?_))
            refine wp_ret (x_ret (ret_at ha hs rfl [nV m0] ⟨⟨4, _, _, _, rfl, rfl, by kernel_rfl⟩, trivial⟩ ?_))
            exact ret_n ((((g_zero (x := m0) (y := n0) (by omega)).trans hI.1).trans (g_rec b.natAbs a.natAbs)).trans (Nat.gcd_comm _ _)) hs.ext
        ·
          have phb13 := of_decide_eq_false hb13
          refine s_call ha hs (.tuple #[.int .u64 0, .bool false]) (csmall_no (of_decide_eq_false hb13) _) fun ac wd ha hs => ?_
          refine s_val ha (.tuple #[.int .u64 0, .bool false]) fun ac ha => ?_
          refine s_val ha (.int .u64 0) fun ac ha => ?_
          refine s_val ha (.bool false) fun ac ha => ?_
          refine s_val ha (.int .u64 0) fun ac ha => ?_
          refine s_val ha (.bool false) fun ac ha => ?_
          refine wpList_nil ((x_normal ?_))
          refine wp_seq ?_
          refine wp_region_lit ?_
          refine s_val ha (.bool false) fun ac ha => ?_
          refine wpList_nil ((x_normal ?_))
          refine r_false ha ?_
          refine wp_skip ((x_normal ?_))
          refine wp_seq ?_
          refine wp_region_lit ?_
          refine s_load ha hs 3 (nV a.natAbs) fun ac ha => ?_
          refine s_load ha hs 2 (nV (b.natAbs % a.natAbs)) fun ac ha => ?_
          refine s_call ha hs (nV (Nat.gcd a.natAbs (b.natAbs % a.natAbs))) (cbinary ha0 (hb0.mod a.natAbs) (of_decide_eq_false hb8) (of_decide_eq_false hb12) _ (htab.ext hs.ext) (by omega)) fun ac wd ha hs => ?_
          refine s_store ha hs 4 _ fun ac wd ha hs => ?_
          refine wpList_nil ((x_normal ?_))
          refine wp_ret (ret_at ha hs rfl [nV (Nat.gcd a.natAbs (b.natAbs % a.natAbs))] ⟨⟨4, _, _, _, rfl, rfl, by kernel_rfl⟩, trivial⟩ ?_)
          exact ret_n ((g_rec b.natAbs a.natAbs).trans (Nat.gcd_comm _ _)) hs.ext
  ·
    have phb7 := of_decide_eq_false hb7
    refine s_call ha hs (.int .i64 (cmpN a.natAbs b.natAbs)) (ccmp ha0 hb0 _ (by omega)) fun ac wd ha hs => ?_
    refine s_bool ha (b := decide ((cmpN a.natAbs b.natAbs) < 0)) false (cmpN_nlt hb7) fun ac ha => ?_
    refine wpList_nil ((x_normal ?_))
    refine r_false ha ?_
    refine wp_skip ((x_normal ?_))
    refine wp_seq ?_
    refine wp_seq ?_
    refine wp_region_lit ?_
    refine s_load ha hs 0 (nV b.natAbs) fun ac ha => ?_
    rcases Bool.eq_false_or_eq_true (decide (b.natAbs = 0)) with hb16 | hb16
    ·
      have phb16 := of_decide_eq_true hb16
      refine s_call ha hs (.int .i64 0) (cbits_zero (of_decide_eq_true hb16) _) fun ac wd ha hs => ?_
      refine s_val ha (.bool true) fun ac ha => ?_
      refine wpList_nil ((x_normal ?_))
      refine r_true ha ?_
      refine wp_seq ?_
      refine wp_region_lit ?_
      refine s_load ha hs 1 (nV a.natAbs) fun ac ha => ?_
      refine s_store ha hs 2 _ fun ac wd ha hs => ?_
      refine wpList_nil ((x_normal ?_))
      refine wp_ret (x_ret (ret_at ha hs rfl [nV a.natAbs] ⟨⟨2, _, _, _, rfl, rfl, by kernel_rfl⟩, trivial⟩ ?_))
      exact ret_n (g_zero (of_decide_eq_true hb16)) hs.ext
    ·
      have phb16 := of_decide_eq_false hb16
      refine s_call ha hs (.int .i64 ((bl b.natAbs : Nat) : Int)) (cbits hb0 _ (by omega)) fun ac wd ha hs => ?_
      refine s_bool ha (b := (((bl b.natAbs : Nat) : Int) == 0)) false (bl_ne hb16) fun ac ha => ?_
      refine wpList_nil ((x_normal ?_))
      refine r_false ha ?_
      refine wp_skip ((x_normal ?_))
      refine wp_seq ?_
      refine wp_region_lit ?_
      refine s_load ha hs 1 (nV a.natAbs) fun ac ha => ?_
      refine s_load ha hs 0 (nV b.natAbs) fun ac ha => ?_
      refine s_call ha hs (.tuple #[nV (a.natAbs / b.natAbs), nV (a.natAbs % b.natAbs), .bool true]) (cdiv ha0 hb0 (of_decide_eq_false hb16) _ (by omega)) fun ac wd ha hs => ?_
      refine s_val ha (.tuple #[nV (a.natAbs / b.natAbs), nV (a.natAbs % b.natAbs), .bool true]) fun ac ha => ?_
      refine s_val ha (nV (a.natAbs / b.natAbs)) fun ac ha => ?_
      refine s_val ha (nV (a.natAbs % b.natAbs)) fun ac ha => ?_
      refine s_val ha (.bool true) fun ac ha => ?_
      refine s_alloc ha hs [.int .u64 0, .string (⟨#[]⟩)] fun g17 ac wd ha hs => ?_
      refine s_alloc ha hs [.int .u64 0, .string (⟨#[]⟩)] fun g18 ac wd ha hs => ?_
      refine s_store ha hs 1 _ fun ac wd ha hs => ?_
      refine s_store ha hs 0 _ fun ac wd ha hs => ?_
      refine s_val ha (.bool true) fun ac ha => ?_
      refine wpList_nil ((x_normal ?_))
      refine wp_seq ?_
      refine region_sp ha 2 [.eq (nV b.natAbs), .eq (nV (a.natAbs % b.natAbs))] [false, true] [(g18, 25, [.int .u64 (lo (a.natAbs % b.natAbs) : Nat), .string (hi (a.natAbs % b.natAbs))])] (hs.keeps _ [0])
        ⟨d_load hs 2, t_load 0, trivial⟩ ?_
      intro vv wd1 ac hw hG hN ha
      have ha := ha.sub [(0, zV a), (1, zV b), (4, .pointer (some ⟨g3, 0, none⟩)), (15, nV a.natAbs), (17, nV b.natAbs), (5, .pointer (some ⟨g5, 0, none⟩)), (6, .pointer (some ⟨g6, 0, none⟩)), (18, nV a.natAbs), (19, nV b.natAbs), (20, .int .i64 (cmpN a.natAbs b.natAbs)), (21, .bool false), (24, nV b.natAbs), (25, .int .i64 ((bl b.natAbs : Nat) : Int)), (26, .bool false), (29, nV a.natAbs), (30, nV b.natAbs), (31, .tuple #[nV (a.natAbs / b.natAbs), nV (a.natAbs % b.natAbs), .bool true]), (28, .tuple #[nV (a.natAbs / b.natAbs), nV (a.natAbs % b.natAbs), .bool true]), (32, nV (a.natAbs / b.natAbs)), (33, nV (a.natAbs % b.natAbs)), (34, .bool true), (7, .pointer (some ⟨g17, 0, none⟩)), (8, .pointer (some ⟨g18, 0, none⟩)), (35, nV b.natAbs), (36, nV (a.natAbs % b.natAbs))]
      clear hG hN
      have hs := hs.go hw
      clear hw
      show A4.wpListS _ _ _ _ _ _ _
      refine u_store ha hs [0] 3 _ fun ac wd ha hs => ?_
      refine u_store ha hs [0] 2 _ fun ac wd ha hs => ?_
      refine u_nil ((x_normal ?_))
      refine wp_seq ?_
      refine wp_seq ?_
      refine wp_region_lit ?_
      refine s_load ha hs 2 (nV (a.natAbs % b.natAbs)) fun ac ha => ?_
      rcases Bool.eq_false_or_eq_true (decide ((a.natAbs % b.natAbs) = 0)) with hb20 | hb20
      ·
        have phb20 := of_decide_eq_true hb20
        refine s_call ha hs (.int .i64 0) (cbits_zero (of_decide_eq_true hb20) _) fun ac wd ha hs => ?_
        refine s_val ha (.bool true) fun ac ha => ?_
        refine wpList_nil ((x_normal ?_))
        refine r_true ha ?_
        refine wp_seq ?_
        refine wp_region_lit ?_
        refine s_load ha hs 3 (nV b.natAbs) fun ac ha => ?_
        refine s_store ha hs 4 _ fun ac wd ha hs => ?_
        refine wpList_nil ((x_normal ?_))
        refine wp_ret (x_ret (ret_at ha hs rfl [nV b.natAbs] ⟨⟨4, _, _, _, rfl, rfl, by kernel_rfl⟩, trivial⟩ ?_))
        exact ret_n (g_mod (of_decide_eq_true hb20)) hs.ext
      ·
        have phb20 := of_decide_eq_false hb20
        refine s_call ha hs (.int .i64 ((bl (a.natAbs % b.natAbs) : Nat) : Int)) (cbits (ha0.mod b.natAbs) _ (by omega)) fun ac wd ha hs => ?_
        refine s_bool ha (b := (((bl (a.natAbs % b.natAbs) : Nat) : Int) == 0)) false (bl_ne hb20) fun ac ha => ?_
        refine wpList_nil ((x_normal ?_))
        refine r_false ha ?_
        refine wp_skip ((x_normal ?_))
        refine wp_seq ?_
        refine wp_seq ?_
        refine wp_region_lit ?_
        refine s_load ha hs 3 (nV b.natAbs) fun ac ha => ?_
        rcases Bool.eq_false_or_eq_true (decide (b.natAbs < B64)) with hb21 | hb21
        ·
          have phb21 := of_decide_eq_true hb21
          refine s_call ha hs (.tuple #[.int .u64 ((b.natAbs : Nat) : Int), .bool true]) (csmall (of_decide_eq_true hb21) _) fun ac wd ha hs => ?_
          refine s_val ha (.tuple #[.int .u64 ((b.natAbs : Nat) : Int), .bool true]) fun ac ha => ?_
          refine s_val ha (.int .u64 ((b.natAbs : Nat) : Int)) fun ac ha => ?_
          refine s_val ha (.bool true) fun ac ha => ?_
          refine s_val ha (.int .u64 ((b.natAbs : Nat) : Int)) fun ac ha => ?_
          refine s_val ha (.bool true) fun ac ha => ?_
          refine wpList_nil ((x_normal ?_))
          refine wp_seq ?_
          refine wp_region_lit ?_
          refine s_val ha (.bool true) fun ac ha => ?_
          refine wpList_nil ((x_normal ?_))
          refine r_true ha ?_
          refine wp_seq ?_
          refine wp_region_lit ?_
          refine s_load ha hs 2 (nV (a.natAbs % b.natAbs)) fun ac ha => ?_
          refine s_call ha hs (.tuple #[.int .u64 (((a.natAbs % b.natAbs) : Nat) : Int), .bool true]) (csmall (of_decide_eq_true (decide_eq_true (Nat.lt_trans (Nat.mod_lt _ (Nat.pos_of_ne_zero (of_decide_eq_false hb16))) (of_decide_eq_true hb21)))) _) fun ac wd ha hs => ?_
          refine s_val ha (.tuple #[.int .u64 (((a.natAbs % b.natAbs) : Nat) : Int), .bool true]) fun ac ha => ?_
          refine s_val ha (.int .u64 (((a.natAbs % b.natAbs) : Nat) : Int)) fun ac ha => ?_
          refine s_val ha (.bool true) fun ac ha => ?_
          refine s_val ha (.int .u64 (((a.natAbs % b.natAbs) : Nat) : Int)) fun ac ha => ?_
          refine s_val ha (.bool true) fun ac ha => ?_
          refine wpList_nil ((x_normal ?_))
          refine wp_seq ?_
          refine wp_block ?_
          refine loop_inv (α := Nat × Nat) (fun ⟨m0, n0⟩ ac wd => At ac _ [(0, zV a), (1, zV b), (4, .pointer (some ⟨g3, 0, none⟩)), (15, nV a.natAbs), (17, nV b.natAbs), (5, .pointer (some ⟨g5, 0, none⟩)), (6, .pointer (some ⟨g6, 0, none⟩)), (18, nV a.natAbs), (19, nV b.natAbs), (20, .int .i64 (cmpN a.natAbs b.natAbs)), (21, .bool false), (24, nV b.natAbs), (25, .int .i64 ((bl b.natAbs : Nat) : Int)), (26, .bool false), (29, nV a.natAbs), (30, nV b.natAbs), (31, .tuple #[nV (a.natAbs / b.natAbs), nV (a.natAbs % b.natAbs), .bool true]), (28, .tuple #[nV (a.natAbs / b.natAbs), nV (a.natAbs % b.natAbs), .bool true]), (32, nV (a.natAbs / b.natAbs)), (33, nV (a.natAbs % b.natAbs)), (34, .bool true), (7, .pointer (some ⟨g17, 0, none⟩)), (8, .pointer (some ⟨g18, 0, none⟩)), (35, nV b.natAbs), (36, nV (a.natAbs % b.natAbs)), (37, nV (a.natAbs % b.natAbs)), (38, .int .i64 ((bl (a.natAbs % b.natAbs) : Nat) : Int)), (39, .bool false), (42, nV b.natAbs), (43, .tuple #[.int .u64 ((b.natAbs : Nat) : Int), .bool true]), (41, .tuple #[.int .u64 ((b.natAbs : Nat) : Int), .bool true]), (44, .int .u64 ((b.natAbs : Nat) : Int)), (45, .bool true), (10, .int .u64 ((m0 : Nat) : Int)), (11, .bool true), (46, .bool true), (48, nV (a.natAbs % b.natAbs)), (49, .tuple #[.int .u64 (((a.natAbs % b.natAbs) : Nat) : Int), .bool true]), (47, .tuple #[.int .u64 (((a.natAbs % b.natAbs) : Nat) : Int), .bool true]), (50, .int .u64 (((a.natAbs % b.natAbs) : Nat) : Int)), (51, .bool true), (12, .int .u64 ((n0 : Nat) : Int))] ∧ St w wd [(g18, 25, [.int .u64 (lo (a.natAbs % b.natAbs) : Nat), .string (hi (a.natAbs % b.natAbs))]), (g17, 25, [.int .u64 (lo (a.natAbs / b.natAbs) : Nat), .string (hi (a.natAbs / b.natAbs))]), (g6, 25, [.int .u64 (lo (a.natAbs % b.natAbs) : Nat), .string (hi (a.natAbs % b.natAbs))]), (g5, 25, [.int .u64 (lo b.natAbs : Nat), .string (hi b.natAbs)]), (g3, 25, [.int .u64 0, .string (⟨#[]⟩)]), (g2, 27, [.bool (decide (b < 0)), .int .u64 (lo b.natAbs : Nat), .string (hi b.natAbs)]), (g1, 27, [.bool (decide (a < 0)), .int .u64 (lo a.natAbs : Nat), .string (hi a.natAbs)])] [] ∧ Nat.gcd m0 n0 = Nat.gcd b.natAbs (a.natAbs % b.natAbs) ∧ m0 < B64 ∧ n0 < B64) (fun ⟨m0, n0⟩ => n0) (b.natAbs, (a.natAbs % b.natAbs)) ⟨ha.sub _, hs.cast _, ⟨rfl, of_decide_eq_true hb21, of_decide_eq_true (decide_eq_true (Nat.lt_trans (Nat.mod_lt _ (Nat.pos_of_ne_zero (of_decide_eq_false hb16))) (of_decide_eq_true hb21)))⟩⟩ ?_
          rintro ⟨m0, n0⟩ ac wd ⟨ha, hs, hI⟩
          refine wp_seq ?_
          refine wp_seq ?_
          refine wp_region_lit ?_
          refine s_val ha (.int .u64 ((n0 : Nat) : Int)) fun ac ha => ?_
          rcases Bool.eq_false_or_eq_true (decide (((n0 : Nat) : Int) > 0)) with hb22 | hb22
          ·
            have phb22 := of_decide_eq_true hb22
            refine s_bool ha (b := decide (((n0 : Nat) : Int) > 0)) true hb22 fun ac ha => ?_
            refine wpList_nil ((x_normal ?_))
            refine r_true ha ?_
            refine wp_skip ((x_normal ?_))
            refine wp_block ?_
            refine region_sp ha 4 [.eq (.int .u64 ((n0 : Nat) : Int)), .eq (.int .u64 ((m0 : Nat) : Int)), .eq (.int .u64 ((n0 : Nat) : Int)), .eq (.int .u64 ((m0 % n0 : Nat) : Int))] [false, false, true, true] [] (fun _ hb => by cases hb)
              ⟨d_val, d_val, t_val, t_val (hr := fun _ _ => run_rem rfl rfl rfl (by omega)), trivial⟩ ?_
            intro vv wd1 ac hw hG hN ha
            have ha := ha.sub [(0, zV a), (1, zV b), (4, .pointer (some ⟨g3, 0, none⟩)), (15, nV a.natAbs), (17, nV b.natAbs), (5, .pointer (some ⟨g5, 0, none⟩)), (6, .pointer (some ⟨g6, 0, none⟩)), (18, nV a.natAbs), (19, nV b.natAbs), (20, .int .i64 (cmpN a.natAbs b.natAbs)), (21, .bool false), (24, nV b.natAbs), (25, .int .i64 ((bl b.natAbs : Nat) : Int)), (26, .bool false), (29, nV a.natAbs), (30, nV b.natAbs), (31, .tuple #[nV (a.natAbs / b.natAbs), nV (a.natAbs % b.natAbs), .bool true]), (28, .tuple #[nV (a.natAbs / b.natAbs), nV (a.natAbs % b.natAbs), .bool true]), (32, nV (a.natAbs / b.natAbs)), (33, nV (a.natAbs % b.natAbs)), (34, .bool true), (7, .pointer (some ⟨g17, 0, none⟩)), (8, .pointer (some ⟨g18, 0, none⟩)), (35, nV b.natAbs), (36, nV (a.natAbs % b.natAbs)), (37, nV (a.natAbs % b.natAbs)), (38, .int .i64 ((bl (a.natAbs % b.natAbs) : Nat) : Int)), (39, .bool false), (42, nV b.natAbs), (43, .tuple #[.int .u64 ((b.natAbs : Nat) : Int), .bool true]), (41, .tuple #[.int .u64 ((b.natAbs : Nat) : Int), .bool true]), (44, .int .u64 ((b.natAbs : Nat) : Int)), (45, .bool true), (10, .int .u64 ((m0 : Nat) : Int)), (11, .bool true), (46, .bool true), (48, nV (a.natAbs % b.natAbs)), (49, .tuple #[.int .u64 (((a.natAbs % b.natAbs) : Nat) : Int), .bool true]), (47, .tuple #[.int .u64 (((a.natAbs % b.natAbs) : Nat) : Int), .bool true]), (50, .int .u64 (((a.natAbs % b.natAbs) : Nat) : Int)), (51, .bool true), (12, .int .u64 ((n0 : Nat) : Int)), (52, .int .u64 ((n0 : Nat) : Int)), (53, .bool true), (54, .int .u64 ((n0 : Nat) : Int)), (57, .int .u64 ((m0 % n0 : Nat) : Int))]
            clear hG hN
            have hs := hs.go hw
            clear hw
            refine keeps_nil ?_
            show wpList _ _ _ _ _ _
            refine s_val ha (.int .u64 ((n0 : Nat) : Int)) fun ac ha => ?_
            refine s_val ha (.int .u64 ((m0 % n0 : Nat) : Int)) fun ac ha => ?_
            refine wpList_nil ((b_normal (x_normal ?_)))
            exact ⟨(n0, m0 % n0), ⟨ha.sub _, hs.cast _, ⟨(g_rec m0 n0).trans hI.1, hI.2.2, Nat.lt_trans (Nat.mod_lt _ (by omega)) hI.2.2⟩⟩, Nat.mod_lt _ (by omega)⟩
          ·
            have phb22 := of_decide_eq_false hb22
            refine s_bool ha (b := decide (((n0 : Nat) : Int) > 0)) false hb22 fun ac ha => ?_
            refine wpList_nil ((x_normal ?_))
            refine r_false ha ?_
            refine wp_exit (x_exit (x_exit (b_hit (x_normal ?_))))
            refine wp_seq ?_
            refine wp_region_lit ?_
            refine s_val ha (.int .u64 ((m0 : Nat) : Int)) fun ac ha => ?_
            refine s_call ha hs (nV m0) (cof m0 hI.2.1 _) fun ac wd ha hs => ?_
            refine s_store ha hs 4 _ fun ac wd ha hs => ?_
            refine wpList_nil ((x_normal ?_))
            refine wp_ret (x_ret (ret_at ha hs rfl [nV m0] ⟨⟨4, _, _, _, rfl, rfl, by kernel_rfl⟩, trivial⟩ ?_))
            exact ret_n (((g_zero (x := m0) (y := n0) (by omega)).trans hI.1).trans (g_rec a.natAbs b.natAbs)) hs.ext
        ·
          have phb21 := of_decide_eq_false hb21
          refine s_call ha hs (.tuple #[.int .u64 0, .bool false]) (csmall_no (of_decide_eq_false hb21) _) fun ac wd ha hs => ?_
          refine s_val ha (.tuple #[.int .u64 0, .bool false]) fun ac ha => ?_
          refine s_val ha (.int .u64 0) fun ac ha => ?_
          refine s_val ha (.bool false) fun ac ha => ?_
          refine s_val ha (.int .u64 0) fun ac ha => ?_
          refine s_val ha (.bool false) fun ac ha => ?_
          refine wpList_nil ((x_normal ?_))
          refine wp_seq ?_
          refine wp_region_lit ?_
          refine s_val ha (.bool false) fun ac ha => ?_
          refine wpList_nil ((x_normal ?_))
          refine r_false ha ?_
          refine wp_skip ((x_normal ?_))
          refine wp_seq ?_
          refine wp_region_lit ?_
          refine s_load ha hs 3 (nV b.natAbs) fun ac ha => ?_
          refine s_load ha hs 2 (nV (a.natAbs % b.natAbs)) fun ac ha => ?_
          refine s_call ha hs (nV (Nat.gcd b.natAbs (a.natAbs % b.natAbs))) (cbinary hb0 (ha0.mod b.natAbs) (of_decide_eq_false hb16) (of_decide_eq_false hb20) _ (htab.ext hs.ext) (by omega)) fun ac wd ha hs => ?_
          refine s_store ha hs 4 _ fun ac wd ha hs => ?_
          refine wpList_nil ((x_normal ?_))
          refine wp_ret (ret_at ha hs rfl [nV (Nat.gcd b.natAbs (a.natAbs % b.natAbs))] ⟨⟨4, _, _, _, rfl, rfl, by kernel_rfl⟩, trivial⟩ ?_)
          exact ret_n (g_rec a.natAbs b.natAbs) hs.ext
  end Go.Proofs.YtiloialbglfplaaDoor

namespace Go.Proofs.YtiloialbglfplaaDoor

theorem bl_pow (a m : Nat) : bl (a ^ m) ≤ m * bl a + 1 := by
  induction m with
  | zero => rw [Nat.pow_zero]; have : bl 1 ≤ 1 := bl_le (by omega); omega
  | succ m ih =>
    rw [Nat.pow_succ, Nat.add_mul, Nat.one_mul]
    have := bl_mul (a ^ m) a
    omega
theorem bl_pow_le {a m n k : Nat} (hm : m ≤ n) (h : n * bl a + 1 ≤ k) : bl (a ^ m) ≤ k := by
  have h1 := bl_pow a m
  have h2 : m * bl a ≤ n * bl a := Nat.mul_le_mul_right _ hm
  omega
/-- One bit more of the exponent. -/
theorem pow_bit0 (a n j : Nat) (h : n / 2 ^ j % 2 = 0) : a ^ (n / 2 ^ (j + 1)) * a ^ (n / 2 ^ (j + 1)) = a ^ (n / 2 ^ j) := by
  rw [← Nat.pow_add, Nat.pow_succ, ← Nat.div_div_eq_div_mul]
  congr 1; omega
theorem pow_bit1 (a n j : Nat) (h : n / 2 ^ j % 2 = 1) : a ^ (n / 2 ^ (j + 1)) * a ^ (n / 2 ^ (j + 1)) * a = a ^ (n / 2 ^ j) := by
  rw [← Nat.pow_add, ← Nat.pow_succ, Nat.pow_succ 2 j, ← Nat.div_div_eq_div_mul]
  congr 1; omega
theorem and_one (n j : Nat) (hn : n ≤ 65536) : bits .and .i64 ((n : Int) / 2 ^ j) 1 = ((n / 2 ^ j % 2 : Nat) : Int) := by
  have e : (n : Int) / 2 ^ j = ((n / 2 ^ j : Nat) : Int) := by rw [Int.natCast_ediv, Int.natCast_pow]; rfl
  rw [e]
  have hle : n / 2 ^ j ≤ 65536 := Nat.le_trans (Nat.div_le_self _ _) hn
  generalize n / 2 ^ j = m at *
  show IntKind.i64.wrap ((BitVec.ofInt 64 (m : Int) &&& BitVec.ofInt 64 1).toNat : Int) = _
  rw [BitVec.toNat_and, ofInt_u64 m (by omega), show (BitVec.ofInt 64 1).toNat = 1 from rfl, Nat.and_one_is_mod]
  exact IntWalk.i64_in _ (by omega)

/-- The document's power. -/
theorem npow_odd {e m f N : Nat} (h : e * m + f = N) (hm : m % 2 = 1) : (e + e) * (m / 2) + (f + e) = N := by
  have : m = 2 * (m / 2) + 1 := by omega
  rw [this] at h
  generalize m / 2 = k at *
  grind
theorem npow_even {e m f N : Nat} (h : e * m + f = N) (hm : m % 2 = 0) : (e + e) * (m / 2) + f = N := by
  have : m = 2 * (m / 2) := by omega
  rw [this] at h
  generalize m / 2 = k at *
  grind

/-- The document's root, from the bits down. -/
structure RtDn (a i r : Nat) : Prop where
  le : r * r ≤ a
  lt : a < (r + 2 ^ i) * (r + 2 ^ i)
theorem RtDn.start (a : Nat) : RtDn a (bl a / 2 + 1) 0 := by
  refine ⟨by omega, ?_⟩
  rw [Nat.zero_add, ← Nat.pow_add]
  exact Nat.lt_of_lt_of_le (lt_bl a) (Nat.pow_le_pow_right (by omega) (by omega))
theorem RtDn.yes {a i r : Nat} (h : RtDn a (i + 1) r) (hle : (r + 2 ^ i) * (r + 2 ^ i) ≤ a) : RtDn a i (r + 2 ^ i) := by
  refine ⟨hle, ?_⟩
  have := h.lt
  rw [Nat.pow_succ, show r + 2 ^ i * 2 = r + 2 ^ i + 2 ^ i from by omega] at this
  exact this
theorem RtDn.no {a i r : Nat} (h : RtDn a (i + 1) r) (hlt : a < (r + 2 ^ i) * (r + 2 ^ i)) : RtDn a i r := ⟨h.le, hlt⟩
theorem RtDn.fin {a r : Nat} (h : RtDn a 0 r) : rt a = r := IsRoot.unique (rt_is a) ⟨h.le, by have := h.lt; rwa [Nat.pow_zero] at this⟩
theorem RtDn.small {a i r : Nat} (h : RtDn a i r) : bl r ≤ bl a := by
  refine bl_mono ?_
  have := h.le
  rcases Nat.eq_zero_or_pos r with h0 | h0
  · omega
  · exact Nat.le_trans (Nat.le_mul_of_pos_left _ h0) this
end Go.Proofs.YtiloialbglfplaaDoor

namespace Go.Proofs.YtiloialbglfplaaDoor
open Go.RowKit

set_option maxHeartbeats 2000000 in
theorem pow_no (a : Nat) (z : Int) (hz : z < 0) (w : World) :
    Calls Tryd.prog 57 #[.agg #[.int .u64 (lo (a) : Nat), .string (hi (a))], .int .i64 z] w (Ret (.tuple #[.agg #[.int .u64 (lo (0) : Nat), .string (hi (0))], .bool false]) w) := by
  have z1 : lo 0 = 0 := rfl
  have z2 : hi 0 = ⟨#[]⟩ := hi_small (by unfold B64; omega)
  rw [z1, z2]
  clear z1 z2
  generalize lo a = la at *
  generalize hi a = sa at *
  go_enter Tryd.func57, Tryd.ntmps57
  go_wp2
  refine ret_nat2 (w.heap.size + 1) _ _ _ rfl rfl rfl ?_ rfl ⟨rfl, ?_⟩
  · have h := Blk.new (w.alloc (.cells #[.int .u64 la, .string sa] 25)) 25 [.int .u64 0, .string ⟨#[]⟩]
    rw [World.size_alloc] at h
    first | exact h | exact (h.set 0 _).set 1 _
  · have he : Ext w ((w.alloc (.cells #[.int .u64 la, .string sa] 25)).alloc (.cells #[.int .u64 0, .string ⟨#[]⟩] 25)) := ((Ext.refl w).alloc _).alloc _
    first | exact he | exact (Below.setCell he (p := ⟨w.heap.size + 1, 0, none⟩) (by show _ ≤ _; simp) _).setCell (p := ⟨w.heap.size + 1, 1, none⟩) (by show _ ≤ _; simp) _

set_option maxHeartbeats 2000000 in
theorem pow_any (a n : Nat) (hn : n ≤ 65536) (hs : n * bl a + 1 ≤ 100000000000) (w : World) :
    Calls Tryd.prog 57 #[.agg #[.int .u64 (lo (a) : Nat), .string (hi (a))], .int .i64 n] w (Ret (.tuple #[.agg #[.int .u64 (lo (a ^ n) : Nat), .string (hi (a ^ n))], .bool true]) w) := by
  have HL : Hid (∀ W, Calls Tryd.prog 83 #[.int .u64 n] W fun e w' => e = .returned (.int .i64 (bl n : Nat)) ∧ W = w') := Lib.hid (fun W => by
    have h := Tryd.bits_Len (n : Int) W (by omega) (by omega)
    rw [Int.toNat_natCast, bitLen_eq (by unfold B64; omega)] at h
    refine h.mono ?_
    rintro e w' ⟨rfl, rfl⟩
    exact ⟨rfl, rfl⟩)
  have HO : Hid (∀ W, Calls Tryd.prog 45 #[.int .u64 1] W (Ret (.agg #[.int .u64 (lo (a ^ (n / 2 ^ bl n)) : Nat), .string (hi (a ^ (n / 2 ^ bl n)))]) W)) := Lib.hid (fun W => by
    have h := cof 1 (by unfold B64; omega) W
    rw [Nat.div_eq_of_lt (lt_bl n), Nat.pow_zero]
    exact h)
  have HM : Hid (∀ j W, Calls Tryd.prog 51 #[.agg #[.int .u64 (lo (a ^ (n / 2 ^ j)) : Nat), .string (hi (a ^ (n / 2 ^ j)))], .agg #[.int .u64 (lo (a ^ (n / 2 ^ j)) : Nat), .string (hi (a ^ (n / 2 ^ j)))]] W (Ret (.agg #[.int .u64 (lo (a ^ (n / 2 ^ j) * a ^ (n / 2 ^ j)) : Nat), .string (hi (a ^ (n / 2 ^ j) * a ^ (n / 2 ^ j)))]) W)) := Lib.hid (fun j W => mul_any _ _ (bl_pow_le (Nat.div_le_self _ _) (by omega)) (bl_pow_le (Nat.div_le_self _ _) (by omega)) W)
  have hs2 : 1 ≤ n → bl a ≤ 100000000000 := fun h => by
    have : 1 * bl a ≤ n * bl a := Nat.mul_le_mul_right _ h
    omega
  have HM2 : Hid (∀ j W, 1 ≤ n → Calls Tryd.prog 51 #[.agg #[.int .u64 (lo (a ^ (n / 2 ^ j) * a ^ (n / 2 ^ j)) : Nat), .string (hi (a ^ (n / 2 ^ j) * a ^ (n / 2 ^ j)))], .agg #[.int .u64 (lo (a) : Nat), .string (hi (a))]] W (Ret (.agg #[.int .u64 (lo (a ^ (n / 2 ^ j) * a ^ (n / 2 ^ j) * a) : Nat), .string (hi (a ^ (n / 2 ^ j) * a ^ (n / 2 ^ j) * a))]) W)) := Lib.hid (fun j W h1 => mul_any _ _ (by
      have h2 := bl_mul (a ^ (n / 2 ^ j)) (a ^ (n / 2 ^ j))
      have h3 := bl_pow_le (a := a) (m := n / 2 ^ j) (n := n) (k := 100000000000) (Nat.div_le_self _ _) hs
      omega) (by have := hs2 h1; omega) W)
  have hbn : bl n ≤ 17 := bl_le (by omega)
  have hand := fun j => and_one n j hn
  have HAND := Lib.hid hand
  have P0 := Lib.hid (pow_bit0 a n)
  have P1 := Lib.hid (pow_bit1 a n)
  have hfin : a ^ (n / 2 ^ 0) = a ^ n := by rw [Nat.pow_zero, Nat.div_one]
  have HFIN := Lib.hid hfin
  have HSL : Hid (∀ W, Calls Tryd.prog 83 #[.int .u64 n] W fun e w' => e = .returned (.int .i64 (bl n : Nat)) ∧ W = w') := HL
  have hn0 : (0 : Int) ≤ n := by omega
  have hni : (n : Int) ≤ 65536 := by omega
  have HN := Lib.hid hn
  have HBN := Lib.hid hbn
  have hbi : ((bl n : Nat) : Int) ≤ 17 := by omega
  clear hn hs hs2 hbn hand hfin HL
  go_enter Tryd.func57, Tryd.ntmps57
  go_wp2_with fail
  generalize hW : (w.alloc (.cells #[.int .u64 (lo a : Nat), .string (hi a)] 25)).alloc (.cells #[.int .u64 0, .string ⟨#[]⟩] 25) = W
  obtain ⟨hp, hr, hx⟩ := boxes2 w W _ _ hW
  clear hW
  refine (HO.out _).mono ?_
  rintro e w1 ⟨rfl, hx1⟩
  have HP := Lib.hid (hp.ext hx1)
  have HR := Lib.hid (hr.ext hx1)
  have HX := Lib.hid (hx.trans hx1)
  have hgo : w.heap.size + 1 < w1.heap.size := (hr.ext hx1).lt
  clear hp hr hx hx1
  go_wp2_with fail
  generalize hW2 : w1.alloc (.cells #[.int .u64 (lo (a ^ (n / 2 ^ bl n)) : Nat), .string (hi (a ^ (n / 2 ^ bl n)))] 25) = W2
  have hb2 : Blk W2 w1.heap.size 25 [.int .u64 (lo (a ^ (n / 2 ^ bl n)) : Nat), .string (hi (a ^ (n / 2 ^ bl n)))] := by rw [← hW2]; exact Blk.new w1 _ _
  have hx2 : Ext w1 W2 := by rw [← hW2]; exact (Ext.refl w1).alloc _
  have HB2 := Lib.hid hb2
  have HP2 := Lib.hid (HP.out.ext hx2)
  have HR2 := Lib.hid (HR.out.ext hx2)
  have HX2 := Lib.hid (HX.out.trans hx2)
  clear hW2 hb2 hx2 HP HR HX
  refine (HSL.out _).mono ?_
  rintro e w2 ⟨rfl, rfl⟩
  generalize w1.heap.size = g at *
  go_wp2
  go_loopw [7] (fun i wr => ∃ (j : Nat), j ≤ bl n ∧ i = .int .i64 ((j : Int) - 1) ∧ Hid (Blk wr g 25 [.int .u64 (lo (a ^ (n / 2 ^ j)) : Nat), .string (hi (a ^ (n / 2 ^ j)))]) ∧ Hid (Blk wr w.heap.size 25 [.int .u64 (lo a : Nat), .string (hi a)]) ∧ Hid (Blk wr (w.heap.size + 1) 25 [.int .u64 0, .string ⟨#[]⟩]) ∧ Hid (Ext w wr)) (fun i _ => (intOf i + 1).toNat)
  case atStart => exact ⟨bl n, Nat.le_refl _, rfl, HB2, HP2, HR2, HX2⟩
  case round =>
    obtain ⟨j, hj, rfl, hbo, hba, hbr, hex⟩ := hrel
    by_cases hj0 : j = 0
    · subst hj0
      have ho := hbo.out
      rw [HFIN.out] at ho
      obtain ⟨o0, o1, _, _⟩ := ho.two
      obtain ⟨r0, r1, f0, f1⟩ := hbr.out.two
      go_wp2
      refine ret_nat2 (w.heap.size + 1) _ _ _ rfl rfl rfl ((hbr.out.set 0 _).set 1 _) rfl ⟨rfl, ?_⟩
      exact (Below.setCell hex.out (p := ⟨w.heap.size + 1, 0, none⟩) (by show _ ≤ _; simp) _).setCell (p := ⟨w.heap.size + 1, 1, none⟩) (by show _ ≤ _; simp) _
    · obtain ⟨j, rfl⟩ : ∃ k, j = k + 1 := ⟨j - 1, by omega⟩
      rw [show ((j + 1 : Nat) : Int) - 1 = (j : Int) from by omega]
      have hjb : j ≤ 17 := by have := HBN.out; omega
      obtain ⟨o0, o1, fo0, fo1⟩ := hbo.out.two
      have hm1 := HM.out (j + 1)
      have hm2 := HM2.out (j + 1)
      have HM1 := Lib.hid hm1
      have HM3 := Lib.hid hm2
      have hgne : w.heap.size ≠ g ∧ w.heap.size + 1 ≠ g := ⟨by omega, by omega⟩
      have HGNE := Lib.hid hgne
      clear hm1 hm2 hgne
      by_cases hbit : n / 2 ^ j % 2 = 0
      · have hand : bits .and .i64 ((n : Int) / 2 ^ j) 1 = 0 := by rw [HAND.out j, hbit]; rfl
        have HP := Lib.hid (P0.out j hbit)
        clear hbit
        go_wp2_with fail
        refine (HM1.out _).mono ?_
        rintro e w3 ⟨rfl, hx3⟩
        have hb3 := hbo.out.ext hx3
        clear o0 o1 fo0 fo1
        obtain ⟨o0, o1, fo0, fo1⟩ := hb3.two
        have HB3 := Lib.hid ((hb3.set 0 (.int .u64 (lo (a ^ (n / 2 ^ (j + 1)) * a ^ (n / 2 ^ (j + 1))) : Nat))).set 1 (.string (hi (a ^ (n / 2 ^ (j + 1)) * a ^ (n / 2 ^ (j + 1))))))
        have HA3 := Lib.hid (((hba.out.ext hx3).far (p := ⟨g, 0, none⟩) HGNE.out.1 (.int .u64 (lo (a ^ (n / 2 ^ (j + 1)) * a ^ (n / 2 ^ (j + 1))) : Nat))).far (p := ⟨g, 1, none⟩) HGNE.out.1 (.string (hi (a ^ (n / 2 ^ (j + 1)) * a ^ (n / 2 ^ (j + 1))))))
        have HR3 := Lib.hid (((hbr.out.ext hx3).far (p := ⟨g, 0, none⟩) HGNE.out.2 (.int .u64 (lo (a ^ (n / 2 ^ (j + 1)) * a ^ (n / 2 ^ (j + 1))) : Nat))).far (p := ⟨g, 1, none⟩) HGNE.out.2 (.string (hi (a ^ (n / 2 ^ (j + 1)) * a ^ (n / 2 ^ (j + 1))))))
        have HX3 := Lib.hid ((Below.setCell (hex.out.trans hx3) (p := ⟨g, 0, none⟩) (show w.heap.size ≤ g by omega) (.int .u64 (lo (a ^ (n / 2 ^ (j + 1)) * a ^ (n / 2 ^ (j + 1))) : Nat))).setCell (p := ⟨g, 1, none⟩) (show w.heap.size ≤ g by omega) (.string (hi (a ^ (n / 2 ^ (j + 1)) * a ^ (n / 2 ^ (j + 1))))))
        clear hb3 hx3 hbo hba hbr hex
        rw [HP.out] at HB3 HA3 HR3 HX3
        simp only [List.set_cons_zero, List.set_cons_succ] at HB3
        rw [HP.out]
        go_wp2
        go_roundw
        case rel => exact ⟨j, by omega, rfl, HB3, HA3, HR3, HX3⟩
        case measure => simp [intOf]
      · have hbit1 : n / 2 ^ j % 2 = 1 := by omega
        have hand : bits .and .i64 ((n : Int) / 2 ^ j) 1 = 1 := by rw [HAND.out j, hbit1]; rfl
        have HP := Lib.hid (P1.out j hbit1)
        have hn1 : 1 ≤ n := by
          rcases Nat.eq_zero_or_pos n with h | h
          · rw [h, Nat.zero_div] at hbit1; omega
          · exact h
        have HM4 := Lib.hid (fun W => HM3.out W hn1)
        clear hbit hbit1 hn1 HM3
        go_wp2_with fail
        refine (HM1.out _).mono ?_
        rintro e w3 ⟨rfl, hx3⟩
        have hb3 := hbo.out.ext hx3
        clear o0 o1 fo0 fo1
        obtain ⟨o0, o1, fo0, fo1⟩ := hb3.two
        have HB3 := Lib.hid ((hb3.set 0 (.int .u64 (lo (a ^ (n / 2 ^ (j + 1)) * a ^ (n / 2 ^ (j + 1))) : Nat))).set 1 (.string (hi (a ^ (n / 2 ^ (j + 1)) * a ^ (n / 2 ^ (j + 1))))))
        have HA3 := Lib.hid (((hba.out.ext hx3).far (p := ⟨g, 0, none⟩) HGNE.out.1 (.int .u64 (lo (a ^ (n / 2 ^ (j + 1)) * a ^ (n / 2 ^ (j + 1))) : Nat))).far (p := ⟨g, 1, none⟩) HGNE.out.1 (.string (hi (a ^ (n / 2 ^ (j + 1)) * a ^ (n / 2 ^ (j + 1))))))
        have HR3 := Lib.hid (((hbr.out.ext hx3).far (p := ⟨g, 0, none⟩) HGNE.out.2 (.int .u64 (lo (a ^ (n / 2 ^ (j + 1)) * a ^ (n / 2 ^ (j + 1))) : Nat))).far (p := ⟨g, 1, none⟩) HGNE.out.2 (.string (hi (a ^ (n / 2 ^ (j + 1)) * a ^ (n / 2 ^ (j + 1))))))
        have HX3 := Lib.hid ((Below.setCell (hex.out.trans hx3) (p := ⟨g, 0, none⟩) (show w.heap.size ≤ g by omega) (.int .u64 (lo (a ^ (n / 2 ^ (j + 1)) * a ^ (n / 2 ^ (j + 1))) : Nat))).setCell (p := ⟨g, 1, none⟩) (show w.heap.size ≤ g by omega) (.string (hi (a ^ (n / 2 ^ (j + 1)) * a ^ (n / 2 ^ (j + 1))))))
        clear hb3 hx3 hbo hba hbr hex HM1
        simp only [List.set_cons_zero, List.set_cons_succ] at HB3
        generalize a ^ (n / 2 ^ (j + 1)) * a ^ (n / 2 ^ (j + 1)) = sq at *
        obtain ⟨k0, k1, _, _⟩ := HB3.out.two
        obtain ⟨a0, a1, _, _⟩ := HA3.out.two
        go_wp2_with fail
        generalize (w3.setCell ⟨g, 0, none⟩ (.int .u64 (lo sq : Nat))).setCell ⟨g, 1, none⟩ (.string (hi sq)) = W4 at *
        refine (HM4.out _).mono ?_
        rintro e w5 ⟨rfl, hx5⟩
        rw [HP.out]
        have hb5 := HB3.out.ext hx5
        clear o0 o1 fo0 fo1 k0 k1 a0 a1
        obtain ⟨o0, o1, fo0, fo1⟩ := hb5.two
        have HB5 := Lib.hid ((hb5.set 0 (.int .u64 (lo (a ^ (n / 2 ^ j)) : Nat))).set 1 (.string (hi (a ^ (n / 2 ^ j)))))
        have HA5 := Lib.hid (((HA3.out.ext hx5).far (p := ⟨g, 0, none⟩) HGNE.out.1 (.int .u64 (lo (a ^ (n / 2 ^ j)) : Nat))).far (p := ⟨g, 1, none⟩) HGNE.out.1 (.string (hi (a ^ (n / 2 ^ j)))))
        have HR5 := Lib.hid (((HR3.out.ext hx5).far (p := ⟨g, 0, none⟩) HGNE.out.2 (.int .u64 (lo (a ^ (n / 2 ^ j)) : Nat))).far (p := ⟨g, 1, none⟩) HGNE.out.2 (.string (hi (a ^ (n / 2 ^ j)))))
        have HX5 := Lib.hid ((Below.setCell (Ext.trans HX3.out hx5) (p := ⟨g, 0, none⟩) (show w.heap.size ≤ g by omega) (.int .u64 (lo (a ^ (n / 2 ^ j)) : Nat))).setCell (p := ⟨g, 1, none⟩) (show w.heap.size ≤ g by omega) (.string (hi (a ^ (n / 2 ^ j)))))
        clear hb5 hx5 HB3 HA3 HR3 HX3
        simp only [List.set_cons_zero, List.set_cons_succ] at HB5
        go_wp2
        go_roundw
        case rel => exact ⟨j, by omega, rfl, HB5, HA5, HR5, HX5⟩
        case measure => simp [intOf]
end Go.Proofs.YtiloialbglfplaaDoor

namespace Go.Proofs.YtiloialbglfplaaDoor
open Go.RowKit

theorem tmod_cases (n m : Int) (hm : 0 < m) : (n.tmod m < 0 ∧ n.tmod m + m = n % m ∧ -m < n.tmod m) ∨ (0 ≤ n.tmod m ∧ n.tmod m = n % m) := by
  rcases Int.le_total 0 n with h | h
  · right
    rw [Int.tmod_eq_emod_of_nonneg h]
    exact ⟨Int.emod_nonneg _ (by omega), rfl⟩
  · have h1 := Int.emod_nonneg n (show m ≠ 0 by omega)
    have h2 := Int.emod_lt_of_pos n hm
    have h3 := Int.emod_nonneg (-n) (show m ≠ 0 by omega)
    have h4 := Int.emod_lt_of_pos (-n) hm
    have e : n.tmod m = -((-n) % m) := by
      have := Int.tmod_eq_emod_of_nonneg (a := -n) (b := m) (by omega)
      rw [Int.neg_tmod] at this
      omega
    rw [e]
    have e2 : n % m = (-((-n) % m)) % m := by
      have e3 : -n = m * (-n / m) + (-n) % m := (Int.mul_ediv_add_emod (-n) m).symm
      have e4 : n = -((-n) % m) + m * (-(-n / m)) := by rw [Int.mul_neg]; omega
      conv => lhs; rw [e4]
      rw [Int.add_mul_emod_self_left]
    generalize (-n) % m = r at *
    by_cases hr : r = 0
    · right
      subst hr
      simp at e2 ⊢
      omega
    · left
      refine ⟨by omega, ?_, by omega⟩
      rw [e2]
      have e7 : (-r) % m = (-r + m) % m := by rw [Int.add_emod_right]
      rw [e7, Int.emod_eq_of_lt (by omega) (by omega)]

set_option maxHeartbeats 1000000 in
theorem pick_any (n m : Int) (_h1 : -9223372036854775808 ≤ n) (_h2 : n ≤ 9223372036854775807) (hm : 0 < m) (hm2 : m ≤ 9223372036854775807) (w : World) :
    Calls Tryd.prog 10 #[.int .i64 n, .int .i64 m] w fun e w' => e = .returned (.int .i64 (n % m)) ∧ w = w' := by
  have hm0 : (m == 0) = false := beq_eq_false_iff_ne.2 (by omega)
  have hlt := Int.emod_lt_of_pos n hm
  have hge := Int.emod_nonneg n (show m ≠ 0 by omega)
  have hcase := tmod_cases n m hm
  generalize hr : n % m = r at *
  clear hr
  have hmn : m ≠ 0 := by omega
  rcases hcase with ⟨c1, c2, c3⟩ | ⟨c1, c2⟩
  · have hw : IntKind.i64.wrap (n.tmod m) = n.tmod m := IntWalk.i64_in _ (by omega)
    have hw2 : IntKind.i64.wrap (n.tmod m + m) = r := by rw [c2]; exact IntWalk.i64_in _ (by omega)
    go_enter Tryd.func10, Tryd.ntmps10
    go_wp2
    go_ret
    exact ⟨rfl, rfl⟩
  · have hw : IntKind.i64.wrap (n.tmod m) = n.tmod m := IntWalk.i64_in _ (by omega)
    have c3 : decide (n.tmod m < 0) = false := decide_eq_false (by omega)
    go_enter Tryd.func10, Tryd.ntmps10
    go_wp2
    go_ret
    exact ⟨rfl, rfl⟩
end Go.Proofs.YtiloialbglfplaaDoor

namespace Go.Proofs.YtiloialbglfplaaDoor
open Go.RowKit

set_option maxHeartbeats 1000000 in
/-- Pick at a bound that has gone over. -/
theorem pick_over (n : Int) (h1 : -9223372036854775808 ≤ n) (h2 : n ≤ 9223372036854775807) : ∃ k : Nat, k ≤ 9223372036854775807 ∧ ∀ w, Calls Tryd.prog 10 #[.int .i64 n, .int .i64 (-9223372036854775808)] w fun e w' => e = .returned (.int .i64 k) ∧ w = w' := by
  by_cases hn : n < 0
  · by_cases hm : n = -9223372036854775808
    · subst hm
      refine ⟨0, by omega, fun w => ?_⟩
      go_enter Tryd.func10, Tryd.ntmps10
      go_wp2
      go_ret
      exact ⟨rfl, rfl⟩
    · refine ⟨(n + 9223372036854775808).toNat, by omega, fun w => ?_⟩
      have e1 : n.tmod (-9223372036854775808) = n := by
        rw [Int.tmod_neg]
        have h := Int.tmod_eq_of_lt (a := -n) (b := 9223372036854775808) (by omega) (by omega)
        rw [Int.neg_tmod] at h
        omega
      go_enter Tryd.func10, Tryd.ntmps10
      go_wp2
      go_ret
      refine ⟨ret_int ?_, rfl⟩
      show wrap64 (n + -9223372036854775808) = _
      unfold wrap64
      omega
  · refine ⟨n.toNat, by omega, fun w => ?_⟩
    have e1 : n.tmod (-9223372036854775808) = n := by rw [Int.tmod_neg]; exact Int.tmod_eq_of_lt (by omega) (by omega)
    go_enter Tryd.func10, Tryd.ntmps10
    go_wp2
    go_ret
    exact ⟨ret_int (by omega), rfl⟩

theorem pick_len (n : Int) (h1 : -9223372036854775808 ≤ n) (h2 : n ≤ 9223372036854775807) (len : Nat) (h : len ≤ 9223372036854775807) : ∃ k : Nat, k ≤ len ∧ ∀ w, Calls Tryd.prog 10 #[.int .i64 n, .int .i64 (wrap64 ((len : Int) + 1))] w fun e w' => e = .returned (.int .i64 k) ∧ w = w' := by
  by_cases hl : len = 9223372036854775807
  · obtain ⟨k, hk, hc⟩ := pick_over n h1 h2
    have e : wrap64 ((len : Int) + 1) = -9223372036854775808 := by unfold wrap64; omega
    rw [e]
    exact ⟨k, by omega, hc⟩
  · have e : wrap64 ((len : Int) + 1) = (len : Int) + 1 := by unfold wrap64; omega
    have h3 := Int.emod_nonneg n (show (len : Int) + 1 ≠ 0 by omega)
    have h4 := Int.emod_lt_of_pos n (show (0 : Int) < (len : Int) + 1 by omega)
    rw [e]
    refine ⟨(n % ((len : Int) + 1)).toNat, by omega, fun w => ?_⟩
    have h5 := pick_any n ((len : Int) + 1) h1 h2 (by omega) (by omega) w
    rw [show n % ((len : Int) + 1) = ((n % ((len : Int) + 1)).toNat : Int) from by omega] at h5
    exact h5
end Go.Proofs.YtiloialbglfplaaDoor

namespace Go.Proofs.YtiloialbglfplaaDoor
open Go.RowKit

theorem gcd_fmod (r0 r1 : Int) : Nat.gcd r1.natAbs (r0.fmod r1).natAbs = Nat.gcd r0.natAbs r1.natAbs := by
  have hm := Int.fmod_add_fdiv_mul r0 r1
  generalize r0.fdiv r1 = q at *
  generalize r0.fmod r1 = m at *
  subst hm
  apply Nat.dvd_antisymm
  · refine Nat.dvd_gcd ?_ (Nat.gcd_dvd_left _ _)
    have h1 := Int.ofNat_dvd_left.2 (Nat.gcd_dvd_left r1.natAbs m.natAbs)
    have h2 := Int.ofNat_dvd_left.2 (Nat.gcd_dvd_right r1.natAbs m.natAbs)
    exact Int.ofNat_dvd_left.1 (Int.dvd_add h2 (Int.dvd_mul_of_dvd_right h1))
  · refine Nat.dvd_gcd (Nat.gcd_dvd_right _ _) ?_
    have h1 := Int.ofNat_dvd_left.2 (Nat.gcd_dvd_left (m + q * r1).natAbs r1.natAbs)
    have h2 := Int.ofNat_dvd_left.2 (Nat.gcd_dvd_right (m + q * r1).natAbs r1.natAbs)
    have h3 := Int.dvd_sub h1 (show _ ∣ q * r1 from Int.dvd_mul_of_dvd_right h2)
    rw [Int.add_sub_cancel] at h3
    exact Int.ofNat_dvd_left.1 h3
theorem bzR_gcd : ∀ (n : Nat) (r0 x0 r1 x1 : Int), r1.natAbs ≤ n → (bzR r0 x0 r1 x1).1.natAbs = Nat.gcd r0.natAbs r1.natAbs := by
  intro n
  induction n with
  | zero =>
    intro r0 x0 r1 x1 h
    obtain rfl : r1 = 0 := by omega
    rw [bzR_zero]; simp
  | succ n ih =>
    intro r0 x0 r1 x1 h
    by_cases h1 : r1 = 0
    · subst h1; rw [bzR_zero]; simp
    · rw [bzR_step h1, ih _ _ _ _ (by have := fmod_lt_abs r0 h1; omega), gcd_fmod]
theorem bzR_cong (a b : Int) : ∀ (n : Nat) (r0 x0 r1 x1 : Int), r1.natAbs ≤ n → b ∣ r0 - a * x0 → b ∣ r1 - a * x1 → b ∣ (bzR r0 x0 r1 x1).1 - a * (bzR r0 x0 r1 x1).2 := by
  intro n
  induction n with
  | zero =>
    intro r0 x0 r1 x1 h h0 h1
    obtain rfl : r1 = 0 := by omega
    rw [bzR_zero]; exact h0
  | succ n ih =>
    intro r0 x0 r1 x1 h h0 h1
    by_cases hr : r1 = 0
    · subst hr; rw [bzR_zero]; exact h0
    · rw [bzR_step hr]
      refine ih _ _ _ _ (by have := fmod_lt_abs r0 hr; omega) h1 ?_
      have hm := Int.fmod_add_fdiv_mul r0 r1
      generalize r0.fdiv r1 = q at *
      generalize r0.fmod r1 = m at *
      have e : m - a * (x0 - q * x1) = (r0 - a * x0) - q * (r1 - a * x1) := by grind
      rw [e]
      exact Int.dvd_sub h0 (Int.dvd_mul_of_dvd_right h1)
theorem bezG_eq (a b : Int) : bezG a b = ((Nat.gcd a.natAbs b.natAbs : Nat) : Int) := by
  unfold bezG
  split
  · rename_i h; subst h; simp
  · rw [bzR_gcd b.natAbs a 1 b 0 (Nat.le_refl _)]
/-- What holds of the three numbers. -/
theorem bez_spec (a b : Int) : a * bezX a b + b * bezY a b = bezG a b ∧ (b ≠ 0 → 0 ≤ bezX a b ∧ bezX a b < (((b.natAbs / (bezG a b).natAbs : Nat)) : Int)) := by
  by_cases hb : b = 0
  · subst hb
    refine ⟨?_, fun h => absurd rfl h⟩
    unfold bezX bezY bezG
    rw [if_pos rfl, if_pos rfl, if_pos rfl, Int.mul_zero, Int.add_zero]
    rcases Int.lt_trichotomy a 0 with h | h | h
    · rw [Int.sign_eq_neg_one_of_neg h]; omega
    · subst h; rfl
    · rw [Int.sign_eq_one_of_pos h]; omega
  · have hg := bezG_eq a b
    have hgp : 0 < Nat.gcd a.natAbs b.natAbs := Nat.gcd_pos_of_pos_right _ (by omega)
    obtain ⟨a', ha'⟩ := Nat.gcd_dvd_left a.natAbs b.natAbs
    obtain ⟨b', hb'⟩ := Nat.gcd_dvd_right a.natAbs b.natAbs
    have hcong := bzR_cong a b b.natAbs a 1 b 0 (Nat.le_refl _) (by rw [Int.mul_one, Int.sub_self]; exact Int.dvd_zero b) (by rw [Int.mul_zero, Int.sub_zero]; exact Int.dvd_refl b)
    have hr : (bzR a 1 b 0).1.natAbs = Nat.gcd a.natAbs b.natAbs := bzR_gcd b.natAbs a 1 b 0 (Nat.le_refl _)
    have hP : bezP a b = ((b.natAbs / Nat.gcd a.natAbs b.natAbs : Nat) : Int) := by
      unfold bezP
      rw [hg, Int.fdiv_eq_ediv_of_nonneg _ (by omega), Int.natCast_ediv]
    have hX : ∃ y, b ∣ bezG a b - a * y ∧ bezX a b = y.fmod (bezP a b) := by
      unfold bezX
      rw [if_neg hb]
      split
      · rename_i h
        refine ⟨_, ?_, rfl⟩
        have e : bezG a b - a * -(bzR a 1 b 0).2 = -((bzR a 1 b 0).1 - a * (bzR a 1 b 0).2) := by
          have : bezG a b = -(bzR a 1 b 0).1 := by rw [hg]; omega
          rw [this]; grind
        rw [e]
        exact Int.dvd_neg.2 hcong
      · rename_i h
        refine ⟨_, ?_, rfl⟩
        have : bezG a b = (bzR a 1 b 0).1 := by rw [hg]; omega
        rw [this]; exact hcong
    obtain ⟨y, hy, hX⟩ := hX
    have hbp : 0 < b' := Nat.pos_of_ne_zero fun e => by rw [e, Nat.mul_zero] at hb'; omega
    have hPb : b.natAbs / Nat.gcd a.natAbs b.natAbs = b' := Nat.div_eq_of_eq_mul_right hgp hb'
    have hPp : (0 : Int) < bezP a b := by rw [hP, hPb]; omega
    have hm := Int.fmod_add_fdiv_mul y (bezP a b)
    rw [← hX] at hm
    -- b divides a times the period
    have hdv : b ∣ a * bezP a b := by
      rw [hP, hPb]
      refine Int.natAbs_dvd_natAbs.1 ?_
      rw [Int.natAbs_mul, Int.natAbs_natCast]
      have key : ∀ g A B : Nat, A = g * a' → B = g * b' → A * b' = B * a' := by rintro g A B rfl rfl; grind
      exact ⟨a', key _ _ _ ha' hb'⟩
    have hex : b ∣ bezG a b - a * bezX a b := by
      have e : bezG a b - a * bezX a b = (bezG a b - a * y) + y.fdiv (bezP a b) * (a * bezP a b) := by
        generalize bezX a b = X at *
        generalize bezP a b = Q at *
        generalize y.fdiv Q = k at *
        subst hm
        grind
      rw [e]
      exact Int.dvd_add hy (Int.dvd_mul_of_dvd_right hdv)
    have hY : b * bezY a b = bezG a b - a * bezX a b := by
      unfold bezY
      rw [if_neg hb]
      obtain ⟨c, hc⟩ := hex
      rw [hc, Int.fdiv_eq_of_eq_mul_left hb (Int.mul_comm b c)]
    refine ⟨by rw [hY]; omega, fun _ => ?_⟩
    rw [hX]
    refine ⟨Int.fmod_nonneg_of_pos y hPp, ?_⟩
    rw [hg, Int.natAbs_natCast, ← hP]
    exact Int.fmod_lt_of_pos y hPp
/-! ### Sizes, and what the law asks -/
theorem Sm.bezG {j k : Nat} {a b : Int} (ha : Sm j a.natAbs) (hb : Sm k b.natAbs) : Sm (max j k + 1) (bezG a b).natAbs := by
  rw [bezG_eq, Int.natAbs_natCast]
  refine (ha.add hb).mono ?_
  rcases Nat.eq_zero_or_pos b.natAbs with h | h
  · rw [h, Nat.gcd_zero_right]; omega
  · exact Nat.le_trans (Nat.le_of_dvd h (Nat.gcd_dvd_right _ _)) (by omega)
theorem bezX_le (a b : Int) : (bezX a b).natAbs ≤ b.natAbs + 1 := by
  by_cases hb : b = 0
  · subst hb
    unfold bezX
    rw [if_pos rfl]
    rcases Int.lt_trichotomy a 0 with h | h | h
    · rw [Int.sign_eq_neg_one_of_neg h]; omega
    · subst h; decide
    · rw [Int.sign_eq_one_of_pos h]; omega
  · obtain ⟨h1, h2⟩ := (bez_spec a b).2 hb
    have h3 : b.natAbs / (bezG a b).natAbs ≤ b.natAbs := Nat.div_le_self _ _
    omega
theorem Sm.bezX {k : Nat} {a b : Int} (hb : Sm k b.natAbs) : Sm (max k 1 + 1) (bezX a b).natAbs := (hb.add Sm.one).mono (bezX_le a b)
theorem Sm.bezY {j k : Nat} {a b : Int} (ha : Sm j a.natAbs) (hb : Sm k b.natAbs) : Sm (j + k + max j k + 5) (bezY a b).natAbs := by
  by_cases h0 : b = 0
  · subst h0
    unfold Go.Proofs.YtiloialbglfplaaDoor.bezY
    rw [if_pos rfl]
    exact Sm.zero _
  · have h := (bez_spec a b).1
    have h1 : (b * Go.Proofs.YtiloialbglfplaaDoor.bezY a b).natAbs = (Go.Proofs.YtiloialbglfplaaDoor.bezG a b - a * Go.Proofs.YtiloialbglfplaaDoor.bezX a b).natAbs := by congr 1; omega
    have h2 := (ha.bezG hb).zsub (ha.zmul (hb.bezX (a := a)))
    rw [← h1, Int.natAbs_mul] at h2
    exact (h2.mono (Nat.le_mul_of_pos_left _ (by omega))).le (by omega)
theorem fmod_zero_of_dvd {a g : Int} (h : g ∣ a) : a.fmod g = 0 := Int.fmod_eq_zero_of_dvd h
theorem natAbs_fdiv_of_dvd {a g : Int} (h : g ∣ a) (h0 : g ≠ 0) : (a.fdiv g).natAbs = a.natAbs / g.natAbs := by
  obtain ⟨c, rfl⟩ := h
  rw [Int.fdiv_eq_of_eq_mul_left h0 (Int.mul_comm g c), Int.natAbs_mul, Nat.mul_div_cancel_left _ (by omega)]
theorem gcd_parts {a b g : Int} (hg : g = ((Nat.gcd a.natAbs b.natAbs : Nat) : Int)) (h0 : g ≠ 0) : g ∣ a ∧ g ∣ b ∧ Nat.gcd (a.fdiv g).natAbs (b.fdiv g).natAbs = 1 := by
  have h1 : g ∣ a := by rw [hg]; exact Int.ofNat_dvd_left.2 (Nat.gcd_dvd_left _ _)
  have h2 : g ∣ b := by rw [hg]; exact Int.ofNat_dvd_left.2 (Nat.gcd_dvd_right _ _)
  refine ⟨h1, h2, ?_⟩
  rw [natAbs_fdiv_of_dvd h1 h0, natAbs_fdiv_of_dvd h2 h0, hg, Int.natAbs_natCast]
  exact Nat.coprime_div_gcd_div_gcd (Nat.pos_of_ne_zero fun e => h0 (by rw [hg, e]; rfl))
end Go.Proofs.YtiloialbglfplaaDoor

namespace Go.Proofs.YtiloialbglfplaaDoor
open Go.ChangeShapes Go.WideShapes Go.ChangeAt Go.RowKit

theorem own : ownKnob Tryd.prog.godebug = none := by kernel_rfl
theorem laidOut : laidOutB Tryd.prog = true := by kernel_rfl

def layCells (cs : Array Value) : Obj → Obj
  | .cells _ t frozen => .cells cs t frozen
  | o => o
/-- A world for the witness: the settled one, each listed variable holding what its initialiser lays. -/
noncomputable def laidWorld (os : Os) : World :=
  { World.holding Tryd.prog os ⟨#[], #[], []⟩ with heap := (((World.holding Tryd.prog os ⟨#[], #[], []⟩).heap.modify 5 (layCells #[.int .u8 0, .int .u8 1, .int .u8 28, .int .u8 2, .int .u8 29, .int .u8 14, .int .u8 24, .int .u8 3, .int .u8 30, .int .u8 22, .int .u8 20, .int .u8 15, .int .u8 25, .int .u8 17, .int .u8 4, .int .u8 8, .int .u8 31, .int .u8 27, .int .u8 13, .int .u8 23, .int .u8 21, .int .u8 19, .int .u8 16, .int .u8 7, .int .u8 26, .int .u8 12, .int .u8 18, .int .u8 6, .int .u8 11, .int .u8 5, .int .u8 10, .int .u8 9])).modify 2 (layCells #[.int .u8 0, .int .u8 1, .int .u8 56, .int .u8 2, .int .u8 57, .int .u8 49, .int .u8 28, .int .u8 3, .int .u8 61, .int .u8 58, .int .u8 42, .int .u8 50, .int .u8 38, .int .u8 29, .int .u8 17, .int .u8 4, .int .u8 62, .int .u8 47, .int .u8 59, .int .u8 36, .int .u8 45, .int .u8 43, .int .u8 51, .int .u8 22, .int .u8 53, .int .u8 39, .int .u8 33, .int .u8 30, .int .u8 24, .int .u8 18, .int .u8 12, .int .u8 5, .int .u8 63, .int .u8 55, .int .u8 48, .int .u8 27, .int .u8 60, .int .u8 41, .int .u8 37, .int .u8 16, .int .u8 46, .int .u8 35, .int .u8 44, .int .u8 21, .int .u8 52, .int .u8 32, .int .u8 23, .int .u8 11, .int .u8 54, .int .u8 26, .int .u8 40, .int .u8 15, .int .u8 34, .int .u8 20, .int .u8 31, .int .u8 10, .int .u8 25, .int .u8 14, .int .u8 19, .int .u8 9, .int .u8 13, .int .u8 8, .int .u8 7, .int .u8 6])).modify 3 (layCells #[.int .u64 1, .int .u64 10, .int .u64 100, .int .u64 1000, .int .u64 10000, .int .u64 100000, .int .u64 1000000, .int .u64 10000000, .int .u64 100000000, .int .u64 1000000000, .int .u64 10000000000, .int .u64 100000000000, .int .u64 1000000000000, .int .u64 10000000000000, .int .u64 100000000000000, .int .u64 1000000000000000, .int .u64 10000000000000000, .int .u64 100000000000000000, .int .u64 1000000000000000000, .int .u64 10000000000000000000]) }

theorem trodAll_stays {H : Type} {enc : TypeId × Value → H} {P : Program} (hl : laidOutB P = true) {W W' : World} {sp : Nat → Bool} :
    ∀ {ts : List TypeId} {vs : List Value} {ds : List (DataW H)} {ps : List MemPlace}, (∀ t ∈ ts, P.readableRec t = true ∧ t < P.types.size) → DataW.TrodAll enc P W 0 (fun _ => true) true ts vs ds ps →
      (∀ p ∈ ps, W.sameAt W' p) → (∀ p ∈ ps, sp p.block = true) → DataW.TrodAll enc P W' 0 sp true ts vs ds ps
  | [], _, _, _, _, h, _, _ => by
    obtain ⟨rfl, rfl, rfl⟩ := trodAll_nil h
    exact h
  | t :: ts, _, _, _, hr, h, h1, h2 => by
    obtain ⟨v, vs1, d, ds1, a, b, rfl, rfl, rfl, k1, k2⟩ := trodAll_cons h
    exact ⟨a, b, WideElems.Trod_stays hl (hr t (by simp)).1 (hr t (by simp)).2 k1 (fun p hp => h1 p (by simp [hp])) (fun p hp => h2 p (by simp [hp])),
      trodAll_stays hl (fun t' ht => hr t' (by simp [ht])) k2 (fun p hp => h1 p (by simp [hp])) (fun p hp => h2 p (by simp [hp])), rfl⟩

set_option maxRecDepth 100000 in
/-- A law that returned true and left all that stood as it was. -/
theorem law_post {H : Type} {enc : TypeId × Value → H} {f : Func} {s : ChangeSpec} {apart fresh handsOn again : Bool} {W W' : World} {args : Array Value} {ds gs : List (DataW H)} {before : List MemPlace}
    (hv : s.vars = []) (hr : f.resultTypes = #[4]) (hp : ∀ t ∈ f.params.toList, Tryd.prog.readableRec t = true ∧ t < Tryd.prog.types.size)
    (hW : DataW.Whole enc Tryd.prog f.params.toList s.vars apart W args.toList ds gs before)
    (hs : (s.fn H (ds ++ gs)).results = [.lit (.bool true)] ∧ (s.fn H (ds ++ gs)).args = ds ∧ (s.fn H (ds ++ gs)).vars = []) (he : Ext W W') :
    s.post enc Tryd.prog f apart fresh handsOn again W args (.bool true) W' := by
  have hW' := hW
  obtain ⟨p, q, hA, hV, rfl, hz, hn⟩ := hW
  rw [hv] at hV
  obtain ⟨rfl, rfl⟩ := trodVars_none hV
  have hlt : ∀ x ∈ p, x.block < W.heap.size := fun x hx => hW'.lt x (by simp [hx])
  have hsm : ∀ x ∈ p, W.sameAt W' x := fun x hx => Below.same he (hlt x hx)
  have hres : ∀ (b : Nat) (sp : Nat → Bool) (hd : Bool), DataW.TrodAll enc Tryd.prog W' b sp hd f.resultTypes.toList ((Value.bool true).resultList f.resultTypes.size) (s.fn H (ds ++ [])).results [] := fun b sp hd => by
    rw [hs.1, hr]
    exact trodAll_mk1 (shut_bool Tryd.underlying4 _)
  have hargs : ∀ sp : Nat → Bool, (∀ x ∈ p, sp x.block = true) → DataW.TrodAll enc Tryd.prog W' 0 sp true f.params.toList args.toList (s.fn H (ds ++ [])).args p := fun sp h => by
    rw [hs.2.1]
    exact trodAll_stays laidOut hp hA hsm h
  have hvars : ∀ sp : Nat → Bool, DataW.TrodVars enc Tryd.prog W' sp s.vars (s.fn H (ds ++ [])).vars [] := fun sp => by
    simp only [hs.2.2, hv, DataW.TrodVars]
  refine ⟨ds, [], p ++ [], [], p, [], hW', hres _ _ _, hargs _ (fun x hx => by simpa using hlt x hx), hvars _, Below.frame he _, fun _ => ?_⟩
  have hok : Value.okWide Tryd.prog W' .any 0 4 (.bool true) := okWide_bool_mk Tryd.underlying4 _
  refine ⟨ok_one hr (show (Value.bool true).resultList 1 = [Value.bool true] from rfl) hok, _, _, ([] ++ p) ++ [], ⟨[] ++ p, [], trodAll_append (hargs _ (fun _ _ => rfl)) (hres _ _ _), hvars _, rfl, ?_, ?_⟩, ?_⟩
  · intro b off hb
    have hb' : (MemPlace.cell b off) ∈ p := by simpa using hb
    have := hlt _ hb'
    rw [Below.frozen he (show b < W.heap.size from this)]
    exact hz b off (by simpa using hb')
  · intro ha
    have := hn ha
    simpa using this
  · intro x hx _
    simpa using hx
end Go.Proofs.YtiloialbglfplaaDoor

namespace Go.Proofs.YtiloialbglfplaaDoor
open Go.RowKit

theorem tab64Name : Tryd.prog.globalNamed "math/bits.deBruijn64tab" = some 2 := by kernel_rfl
def tab64I : List Int := List.map (fun n : Nat => (n : Int)) Lib.deBruijn64tab
theorem tab64_of_is {w : World} (h : Lib.TabIs Tryd.prog w "math/bits.deBruijn64tab" .u8 tab64I) : Tab64 w := fun j hj => by
  rw [h.cell tab64Name j (by unfold tab64I; rw [List.length_map]; exact hj)]
  unfold tab64I
  simp [List.getD_eq_getElem?_getD, List.getElem?_map, List.getElem?_eq_getElem hj]
theorem tab64_head {W : World} {rest : List (String × DataW Unit)} {d : DataW Unit} (e : d = Lib.tabData .u8 tab64I) (h : laidMet Tryd.prog (("math/bits.deBruijn64tab", d) :: rest) W) : Tab64 W := by
  subst e
  exact tab64_of_is (Lib.tabIs_of_head tab64Name (by kernel_rfl) Tryd.underlying152 Tryd.underlying5 (by kernel_rfl) (by kernel_rfl) h)
end Go.Proofs.YtiloialbglfplaaDoor

namespace Go.Proofs.YtiloialbglfplaaDoor
open Go.ChangeShapes Go.WideShapes Go.ChangeAt Go.RowKit

theorem wf_u8 {n : Int} (h : (Lit.int .u8 n).wf = true) : 0 ≤ n ∧ n ≤ 255 := by
  simp only [Lit.wf, Bool.and_eq_true, decide_eq_true_eq] at h
  exact h

set_option maxRecDepth 100000 in
theorem open_bytes {H : Type} {enc : TypeId × Value → H} {W : World} {base : Nat} {v : Value} {d : DataW H} {p : List MemPlace} (hval : Value.okWide Tryd.prog W .any base 22 v)
    (h : DataW.Trod enc Tryd.prog W 0 (fun _ => true) true 22 v d p) : ∃ l : List UInt8, SlB l v W := by
  obtain ⟨a1, len, cap, rfl⟩ := okWide_slice Tryd.underlying22 hval
  obtain ⟨fuel, hf⟩ := h
  rcases open_ints Tryd.underlying22 Tryd.underlying5 (by kernel_rfl) hf with ⟨hcs, _⟩ | ⟨a, len', cap', zs, hcs, _, hl, hm, hz, _, hcell, hwz⟩
  · simp [Value.cells] at hcs
    obtain ⟨rfl, rfl, rfl⟩ := hcs
    exact ⟨[], SlB.nil W⟩
  · simp [Value.cells] at hcs
    obtain ⟨rfl, rfl, rfl⟩ := hcs
    simp only [if_true] at hz
    have hlen : ((zs.take len).map fun n => UInt8.ofNat n.toNat).length = len := by simp; omega
    refine ⟨(zs.take len).map fun n => UInt8.ofNat n.toNat, some a, cap, by rw [hlen], by rw [hlen]; exact hl, ⟨by unfold maxLen at hm; omega, fun h => by cases h⟩, fun hne => ?_⟩
    have h0 : 0 < len := by
      rcases Nat.eq_zero_or_pos len with h | h
      · subst h; simp at hne
      · exact h
    obtain ⟨ab, ao, spot⟩ := a
    have hspot : spot = none := by simpa [Addr.add] using World.cell?_spot (hcell 0 (by omega))
    subst hspot
    refine ⟨ab, ao, rfl, ?_, fun i hi => ?_⟩
    · have h := hcell 0 (by omega)
      rw [Addr.add_lit] at h
      exact World.block_lt_of_cell? W _ h
    · rw [hlen] at hi
      have hcj := hcell i (by omega)
      rw [Addr.add_lit] at hcj
      rw [hcj]
      have e : zs.getD i 0 = zs[i]'(by omega) := by simp [List.getD, List.getElem?_eq_getElem (show i < zs.length by omega)]
      have hb := wf_u8 (hwz (zs[i]'(by omega)) (List.getElem_mem _))
      rw [e]
      simp only [List.getElem_map, List.getElem_take]
      congr 2
      simp only [UInt8.toNat_ofNat']
      omega
end Go.Proofs.YtiloialbglfplaaDoor

namespace Go.Proofs.YtiloialbglfplaaDoor
open Go.RowKit

theorem SlB.cut {l : List UInt8} {A : Option Addr} {c : Nat} {w : World} (h : SlB l (.slice A l.length c) w) (k : Nat) (hk : k ≤ l.length) : SlB (l.take k) (.slice A k c) w := by
  obtain ⟨A', c', hv, hc, ⟨hcm, hA⟩, hh⟩ := h
  injection hv with e1 _ e3
  subst e1
  subst e3
  have hl : (l.take k).length = k := by rw [List.length_take, Nat.min_eq_left hk]
  refine ⟨A, c, by rw [hl], by rw [hl]; omega, ⟨hcm, hA⟩, fun hne => ?_⟩
  have hk0 : 0 < k := by
    rcases Nat.eq_zero_or_pos k with h0 | h0
    · subst h0; simp at hne
    · exact h0
  obtain ⟨g, off, rfl, hg, hcell⟩ := hh (fun e => by rw [e] at hk; simp at hk; omega)
  refine ⟨g, off, rfl, hg, fun i hi => ?_⟩
  rw [hcell i (by rw [hl] at hi; omega), List.getElem_take]

section
variable {P : Program} {ops : Array Oper} {Q : Exit → Act → World → Prop} {o : Oper} {rest : List Oper} {a : Act} {w : World} {n : Nat} {m : Sl}
theorem s_cut (ha : At a n m) {t e : TypeId} {x y : Operand} {A : Option Addr} {l c k : Nat} (hkc : k ≤ c) (ht : P.underlying t = some (.slice e)) (K : ∀ a', At a' n (putm m o.dst (.slice A k c)) → wpList P ops Q rest a' w)
    (ho : o.op = .slice t x none (some y) none := by rfl) (hx : ev m x = .slice A l c := by rfl) (hy : ev m y = .int .i64 (k : Int) := by rfl) (he : (P.info? e).isSome = true := by kernel_rfl) (hc : chk ops n m o = true := by kernel_rfl) : wpList P ops Q (o :: rest) a w := by
  refine seq_step ha (chk_spec hc).1 (chk_spec hc).2 (stp_val (v := .slice A k c) ?_ K)
  obtain ⟨inf, hinf⟩ := Option.isSome_iff_exists.1 he
  unfold execOp
  simp only [ho, Option.map_none, Option.map_some, hx, hy, Instr.sliceAt, Instr.slice, underlying]
  simp [Instr.sliceBounds, Instr.sliceBound, asIntOf, hkc, sizeOf, typeInfo, hinf, ht]
  intro _
  cases A <;> simp [Addr.add]
end
end Go.Proofs.YtiloialbglfplaaDoor

namespace Go.Proofs.YtiloialbglfplaaDoor
open Go.RowKit

/-- What holds while mulAddWord fills its words. -/
structure MaInv (xs : List Nat) (m a k c : Nat) (L : List Nat) : Prop where
  len : L.length = xs.length
  dig : Dig B64 L
  clt : c < B64
  eq : val B64 (L.take k) + B64 ^ k * c = val B64 (xs.take k) * m + a
  rest : L.drop k = xs.drop k
theorem MaInv.start {xs : List Nat} (m : Nat) {a : Nat} (hd : Dig B64 xs) (ha : a < B64) : MaInv xs m a 0 a xs := ⟨rfl, hd, ha, by simp, rfl⟩
theorem ma_arith {VT P c X m a s B q x : Nat} (h : VT + P * c = X * m + a) (e : s + B * q = x * m + c) : VT + P * s + P * B * q = (X + P * x) * m + a := by grind
theorem MaInv.step {xs : List Nat} {m a k c : Nat} {L : List Nat} (h : MaInv xs m a k c L) (hk : k < xs.length) {s q : Nat} (hs : s < B64) (hq : q < B64) (e : s + B64 * q = xs.getD k 0 * m + c) :
    MaInv xs m a (k + 1) q (L.set k s) := by
  refine ⟨by simpa using h.len, h.dig.set _ hs, hq, ?_, ?_⟩
  · rw [val_take_set _ _ _ _ (by rw [h.len]; exact hk), val_take_getD, Nat.pow_succ]
    exact ma_arith h.eq e
  · rw [drop_set_succ, ← List.drop_drop, ← List.drop_drop, h.rest]
theorem MaInv.fin {xs : List Nat} {m a c : Nat} {L : List Nat} (h : MaInv xs m a xs.length c L) : val B64 L + B64 ^ L.length * c = val B64 xs * m + a := by
  have e := h.eq
  rw [List.take_length, ← h.len, List.take_length] at e
  exact e
theorem ma_sum {B mn c lo hi s1 c1 : Nat} (h1 : lo + B * hi = mn) (h2 : s1 + B * c1 = lo + c) : s1 + B * (hi + c1) = mn + c := by grind
theorem own_slice {w : World} {base : Nat} {t : TypeId} {v : Value} {n : Nat} {xs : List Value} (h : w.ownsRow base t 1 v n xs) : ∃ A c, v = .slice A n c ∧ n ≤ c ∧ (n ≠ 0 → ∃ g, A = some ⟨g, 0, none⟩ ∧ base ≤ g) := by
  rcases h.2 with ⟨rfl, rfl⟩ | ⟨g, cap, cur, rfl, hb, _, hc, _⟩
  · exact ⟨none, 0, rfl, by omega, fun h => absurd rfl h⟩
  · exact ⟨_, cap, rfl, hc, fun _ => ⟨g, rfl, hb⟩⟩

/-- What mulAddWord comes to. -/
def MaPost (base n V : Nat) (w : World) (e : Ending) (w' : World) : Prop :=
  ∃ v' ys, e = .returned v' ∧ ys.length ≤ n + 1 ∧ Dig B64 ys ∧ val B64 ys = V ∧ w'.ownsRow base 23 1 v' ys.length (U ys) ∧ Below base w w'

set_option maxRecDepth 100000 in
set_option maxHeartbeats 2000000 in
theorem mulAddWord_any (base : Nat) (xs : List Nat) (m a : Nat) (v : Value) (w : World) (hown : w.ownsRow base 23 1 v xs.length (U xs)) (hx : xs.length ≤ 1000000) (hd : Dig B64 xs) (hm : m < B64) (ha : a < B64) (hB : base ≤ w.heap.size) :
    Calls Tryd.prog 100 #[v, .int .u64 m, .int .u64 a] w (MaPost base xs.length (val B64 xs * m + a) w) := by
  obtain ⟨i0, hi, hz0, hz1, hz2⟩ := info_parts info64
  obtain ⟨A, c, rfl, _, hA⟩ := own_slice hown
  have HO := Lib.hid hown
  have HA := Lib.hid hA
  have hxi : (xs.length : Int) ≤ 1000000 := by omega
  clear hown hA
  go_enter Tryd.func100, Tryd.ntmps100
  go_wp2
  go_loopw [7, 16] (fun c0 i wr => ∃ (k cc : Nat) (L : List Nat), k ≤ xs.length ∧ i = .int .i64 k ∧ c0 = .int .u64 cc ∧ Hid (MaInv xs m a k cc L) ∧ Hid (wr.ownsRow base 23 1 (.slice A xs.length c) xs.length (U L)) ∧ Hid (Below base w wr)) (fun _ i _ => xs.length - (intOf i).toNat)
  case atStart => exact ⟨0, a, xs, Nat.zero_le _, rfl, rfl, Lib.hid (MaInv.start m hd ha), HO, Lib.hid (Below.refl _ _)⟩
  case round =>
    obtain ⟨k, cc, L, hk, rfl, rfl, hL, hob, hbe⟩ := hrel
    have hlen := hL.out.len
    by_cases hkx : k < xs.length
    · obtain ⟨g, rfl, hbg⟩ := HA.out (by omega)
      have hcx : wr.cell? ⟨g, k, none⟩ = some (.int .u64 (xs.getD k 0 : Nat)) := by
        rw [hob.out.cellAt k (by omega), getD_U _ _ (by omega), getD_take_drop hL.out.rest hkx hlen]
      have hfx : wr.frozen? ⟨g, k, none⟩ = false := hob.out.frozenAt k
      have hxd : xs.getD k 0 < B64 := hd.getD (by unfold B64; omega) k
      have hcc := hL.out.clt
      have hst := fun (s q : Nat) (hs : s < B64) (hq : q < B64) (e : s + B64 * q = xs.getD k 0 * m + cc) => hL.out.step hkx hs hq e
      have HST := Lib.hid hst
      clear hst hlen hL
      generalize xs.getD k 0 = x at *
      have e1 := mu_eq x m
      have e2 := ad_eq (muL x m) cc 0
      rw [Nat.add_zero] at e2
      have hsum := ma_sum e1 e2
      have hq : muH x m + adC (muL x m) cc 0 < B64 := mac_lt (o := 0) hxd hm (by unfold B64; omega) hcc (by rw [Nat.add_zero]; exact hsum)
      have hs2 := adS_lt (muL x m) cc 0
      have ha1 : ∀ W, (callFunc 73 #[.int .u64 (muL x m : Nat), .int .u64 cc, .int .u64 0]).run Tryd.prog W = .ok (.value (.tuple #[.int .u64 (adS (muL x m) cc 0 : Nat), .int .u64 (adC (muL x m) cc 0 : Nat)])) W := fun W => add64_0 _ _ W
      have HM := Lib.hid (fun W => mul64_any x m hxd hm W)
      have HN := Lib.hid (HST.out _ _ hs2 hq hsum)
      clear e1 e2 hsum HST
      generalize adC (muL x m) cc 0 = c1 at *
      generalize adS (muL x m) cc 0 = s1 at *
      generalize muH x m = hh at *
      generalize muL x m = ll at *
      have b1 : (hh : Int) + (c1 : Int) ≤ 18446744073709551615 := by unfold B64 at hq; omega
      go_wp2_with fail
      refine (HM.out _).mono ?_
      rintro e w' ⟨rfl, rfl⟩
      go_wp2
      go_roundw
      case rel =>
        refine ⟨k + 1, hh + c1, L.set k s1, by omega, by go_num, by go_num, HN, Lib.hid (by rw [← U_set]; exact (hob.out.stored k _).1), Lib.hid (Below.setCell hbe.out (p := ⟨g, k, none⟩) hbg _)⟩
      case measure => simp [intOf]; omega
    · obtain rfl : k = xs.length := by omega
      have hfin := hL.out.fin
      have hdl := hL.out.dig
      have hcc := hL.out.clt
      have HL := Lib.hid hlen
      clear hL hlen
      by_cases hc0 : cc = 0
      · subst hc0
        go_wp2
        go_ret
        refine ⟨_, L, rfl, by have := HL.out; omega, hdl, by rw [← hfin]; simp, ?_, hbe.out⟩
        rw [HL.out]
        exact hob.out
      · have hcz : ((cc : Int) == 0) = false := beq_eq_false_iff_ne.2 (by omega)
        have HF := Lib.hid hfin
        have HD := Lib.hid hdl
        have HXX := Lib.hid hx
        have HCC := Lib.hid hcc
        clear hfin hdl hx hxi hcc hk hkx
        go_wp2_with (at_builtin; refine wpList_append_own _ rfl _ _ 89 rfl base 23 i0 (.int .u64 0) 1 8 Tryd.underlying89 hi hz0 hz1 hz2 rfl (by decide) _ _ _ rfl (hob.out.alloc _) ⟨wr.heap.size, 0, none⟩ 1 1 [.int .u64 (cc : Nat)] rfl rfl ?c1 ?c2 ?c3 ?c4 ?c5 ?_)
        case c1 =>
          intro j u hj
          match j, hj with
          | 0, hj => simp at hj; subst hj; simp [Addr.add]
        case c2 => intro u hu; simp at hu; subst hu; rfl
        case c3 => have := HXX.out; unfold maxLen; omega
        case c4 => have := HXX.out; omega
        case c5 => have := hbe.out.size; simp; omega
        intro v' w3 hown' hgrow _
        have hx3 : Below base w w3 := (hbe.out.alloc (by have := hbe.out.size; omega) _).grown hgrow (by have := hbe.out.size; simp; omega) (fun k hk => (hob.out.lt k hk).1)
        have HO3 := Lib.hid hown'
        have HX3 := Lib.hid hx3
        clear hown' hgrow hx3
        go_wp2
        go_ret
        refine ⟨_, L ++ [cc], rfl, by have := HL.out; simp; omega, HD.out.append (Dig.cons HCC.out (Dig.nil _)), by rw [val_snoc]; exact HF.out, ?_, HX3.out⟩
        have h := HO3.out
        rw [show (L ++ [cc]).length = xs.length + 1 from by rw [List.length_append, HL.out]; rfl]
        simpa [U] using h
end Go.Proofs.YtiloialbglfplaaDoor

namespace Go.Proofs.YtiloialbglfplaaDoor
open Go.Lib (decDigits nDigits)

/-- The digit as a byte. -/
def dch (d : Nat) : UInt8 := UInt8.ofNat (48 + d)
/-- The text, none of 0. -/
def tz (n : Nat) : List UInt8 := if n = 0 then [] else decDigits n
theorem tz_zero : tz 0 = [] := by unfold tz; simp
theorem tz_pos {n : Nat} (h : n ≠ 0) : tz n = tz (n / 10) ++ [dch (n % 10)] := by
  unfold tz dch
  rw [if_neg h, decDigits]
  by_cases h10 : n < 10
  · rw [dif_pos h10, if_pos (by omega), Nat.mod_eq_of_lt h10]; rfl
  · rw [dif_neg h10, if_neg (by omega)]
theorem tz_dec {n : Nat} (h : n ≠ 0) : decDigits n = tz n := by unfold tz; rw [if_neg h]
/-- The text, with all its k digits. -/
def dgs : Nat → Nat → List UInt8
  | 0, _ => []
  | k + 1, x => dgs k (x / 10) ++ [dch (x % 10)]
theorem dgs_len : ∀ k x, (dgs k x).length = k
  | 0, _ => rfl
  | k + 1, x => by simp [dgs, dgs_len k]
theorem dgs_zero : ∀ k, dgs k 0 = List.replicate k 48
  | 0 => rfl
  | k + 1 => by
    show dgs k 0 ++ [dch 0] = _
    rw [dgs_zero k, List.replicate_succ']; rfl
theorem tz_dgs : ∀ (k a x : Nat), a ≠ 0 → x < 10 ^ k → tz (a * 10 ^ k + x) = tz a ++ dgs k x
  | 0, a, x, _, hx => by
    rw [Nat.pow_zero] at hx ⊢
    rw [show a * 1 + x = a from by omega]; simp [dgs]
  | k + 1, a, x, ha, hx => by
    rw [Nat.pow_succ] at hx ⊢
    have hp : 0 < 10 ^ k := Nat.pow_pos (by omega)
    have hap : 0 < a * 10 ^ k := Nat.mul_pos (by omega) hp
    have e1 : (a * (10 ^ k * 10) + x) / 10 = a * 10 ^ k + x / 10 := by
      rw [← Nat.mul_assoc]; omega
    have e2 : (a * (10 ^ k * 10) + x) % 10 = x % 10 := by
      rw [← Nat.mul_assoc]; omega
    rw [tz_pos (by rw [← Nat.mul_assoc]; omega), e1, e2, tz_dgs k a (x / 10) ha (by omega), dgs, List.append_assoc]
theorem dgs_pad : ∀ (k x : Nat), x < 10 ^ (k + 1) → dgs (k + 1) x = List.replicate (k + 1 - (decDigits x).length) 48 ++ decDigits x
  | k, x, hx => by
    by_cases h10 : x < 10
    · rw [decDigits, dif_pos h10]
      show dgs k (x / 10) ++ [dch (x % 10)] = _
      rw [show x / 10 = 0 from by omega, dgs_zero, Nat.mod_eq_of_lt h10]
      simp [dch]
    · cases k with
      | zero => simp at hx; omega
      | succ k =>
        have h := dgs_pad k (x / 10) (by rw [Nat.pow_succ] at hx; omega)
        show dgs (k + 1) (x / 10) ++ [dch (x % 10)] = _
        conv => rhs; rw [decDigits, dif_neg h10]
        rw [h, List.append_assoc]
        congr 2
        simp
theorem decDigits_length_le (k x : Nat) (h : x < 10 ^ (k + 1)) : (decDigits x).length ≤ k + 1 := by
  have h1 := congrArg List.length (dgs_pad k x h)
  rw [dgs_len, List.length_append, List.length_replicate] at h1
  omega
theorem tz_ne {n : Nat} (h : n ≠ 0) : tz n ≠ [] := by rw [tz_pos h]; simp

/-- The number that a text of digits says. -/
def pv (s : List UInt8) : Nat := s.foldl (fun a c => a * 10 + (c.toNat - 48)) 0
theorem pv_nil : pv [] = 0 := rfl
theorem pv_snoc (s : List UInt8) (c : UInt8) : pv (s ++ [c]) = pv s * 10 + (c.toNat - 48) := by unfold pv; rw [List.foldl_append]; rfl
def IsDig (c : UInt8) : Bool := decide (48 ≤ c.toNat) && decide (c.toNat ≤ 57)
theorem dch_toNat {d : Nat} (h : d < 10) : (dch d).toNat = 48 + d := by
  unfold dch
  rw [UInt8.toNat_ofNat']
  exact Nat.mod_eq_of_lt (by omega)
theorem dch_dig {d : Nat} (h : d < 10) : IsDig (dch d) = true := by
  unfold IsDig
  rw [dch_toNat h]; simp; omega
/-- A text that is a number's. -/
def good (s : List UInt8) : Bool := decide (1 ≤ s.length) && decide (s.length ≤ 200) && !(decide (1 < s.length) && decide (s.getD 0 0 = 48)) && s.all IsDig
/-- What Parse says. -/
def pn (s : List UInt8) : Nat := if good s = true then pv s else 0
theorem pv_tz (n : Nat) : pv (tz n) = n := by
  induction n using Nat.strongRecOn with
  | _ n ih =>
    by_cases h : n = 0
    · subst h; rw [tz_zero]; rfl
    · rw [tz_pos h, pv_snoc, ih _ (by omega), dch_toNat (by omega)]; omega
theorem all_tz (n : Nat) : (tz n).all IsDig = true := by
  induction n using Nat.strongRecOn with
  | _ n ih =>
    by_cases h : n = 0
    · subst h; rw [tz_zero]; rfl
    · rw [tz_pos h, List.all_append, ih _ (by omega)]; simp [dch_dig (show n % 10 < 10 by omega)]
theorem head_tz (n : Nat) (h : n ≠ 0) : (tz n).getD 0 0 ≠ 48 := by
  induction n using Nat.strongRecOn with
  | _ n ih =>
    by_cases h10 : n < 10
    · rw [tz_pos h, show n / 10 = 0 from by omega, tz_zero]
      show dch (n % 10) ≠ 48
      intro e
      have := congrArg UInt8.toNat e
      rw [dch_toNat (by omega)] at this
      simp at this
      omega
    · have hne := tz_ne (n := n / 10) (by omega)
      rw [tz_pos h]
      have := ih (n / 10) (by omega) (by omega)
      cases hh : tz (n / 10) with
      | nil => exact absurd hh hne
      | cons x xs => rw [hh] at this; simpa using this
theorem pv_dec (n : Nat) : pv (decDigits n) = n := by
  by_cases h : n = 0
  · subst h; rw [decDigits, dif_pos (by omega)]; rfl
  · rw [tz_dec h, pv_tz]
theorem good_dec (n : Nat) (h : n < 10 ^ 200) : good (decDigits n) = true := by
  have hl := decDigits_length_le 199 n h
  by_cases h0 : n = 0
  · subst h0
    rw [decDigits, dif_pos (by omega)]; decide
  · have h1 := head_tz n h0
    have h2 := all_tz n
    have h3 := tz_ne h0
    rw [tz_dec h0] at *
    unfold good
    have h4 : 1 ≤ (tz n).length := by
      rcases Nat.eq_zero_or_pos (tz n).length with h | h
      · exact absurd (List.eq_nil_of_length_eq_zero h) h3
      · exact h
    simp only [h2, Bool.and_true, Bool.and_eq_true, decide_eq_true_eq, Bool.not_eq_true', Bool.and_eq_false_imp, decide_eq_false_iff_not]
    exact ⟨⟨h4, hl⟩, fun _ => h1⟩
theorem pn_dec (n : Nat) (h : n < 10 ^ 200) : pn (decDigits n) = n := by unfold pn; rw [if_pos (good_dec n h), pv_dec]
theorem dig_le {c : UInt8} (h : IsDig c = true) : 48 ≤ c.toNat ∧ c.toNat ≤ 57 := by
  unfold IsDig at h
  simpa only [Bool.and_eq_true, decide_eq_true_eq] using h
theorem pv_take (s : List UInt8) (k : Nat) (h : k < s.length) : pv (s.take (k + 1)) = pv (s.take k) * 10 + (s[k].toNat - 48) := by
  rw [List.take_succ_eq_append_getElem h, pv_snoc]
theorem pv_lt (s : List UInt8) (hs : s.all IsDig = true) : pv s < 10 ^ s.length := by
  have h : ∀ k, k ≤ s.length → pv (s.take k) < 10 ^ k := by
    intro k
    induction k with
    | zero => intro _; simp [pv]
    | succ k ih =>
      intro hk
      have h1 := ih (by omega)
      have h2 := dig_le (List.all_eq_true.1 hs _ (List.getElem_mem (show k < s.length by omega)))
      rw [pv_take s k (by omega), Nat.pow_succ]
      omega
  have := h s.length (Nat.le_refl _)
  rwa [List.take_length] at this

/-! ### The document's text: nine digits at a time -/
/-- What holds while nine digits are written in front: q stands for what is above, r is what is left of the nine, k of which are written. -/
structure NtInv (a q k r : Nat) (d : List UInt8) : Prop where
  k9 : k ≤ 9
  lt : r < 10 ^ (9 - k)
  eq : tz a = tz (q * 10 ^ (9 - k) + r) ++ d
theorem NtInv.start (a : Nat) : NtInv a (a / 1000000000) 0 (a % 1000000000) [] :=
  ⟨by omega, by simp; omega, by simp; rw [show a / 1000000000 * 1000000000 + a % 1000000000 = a from by omega]⟩
theorem NtInv.step {a q k r : Nat} {d : List UInt8} (h : NtInv a q k r d) (hk : k < 9) (hr : 0 < r ∨ 0 < q) : NtInv a q (k + 1) (r / 10) (dch (r % 10) :: d) := by
  obtain ⟨j, hj, hj2⟩ : ∃ j, 9 - k = j + 1 ∧ 9 - (k + 1) = j := ⟨8 - k, by omega, by omega⟩
  obtain ⟨_, h2, h3⟩ := h
  rw [hj, Nat.pow_succ] at h2 h3
  refine ⟨by omega, by rw [hj2]; omega, ?_⟩
  have hp : 0 < 10 ^ j := Nat.pow_pos (by omega)
  have e1 : (q * (10 ^ j * 10) + r) / 10 = q * 10 ^ j + r / 10 := by rw [← Nat.mul_assoc]; omega
  have e2 : (q * (10 ^ j * 10) + r) % 10 = r % 10 := by rw [← Nat.mul_assoc]; omega
  have e3 : q * (10 ^ j * 10) + r ≠ 0 := by
    rcases hr with h | h
    · omega
    · have : 0 < q * (10 ^ j * 10) := Nat.mul_pos h (by omega)
      omega
  rw [h3, tz_pos e3, e1, e2, hj2]
  simp
theorem NtInv.fin {a q k r : Nat} {d : List UInt8} (h : NtInv a q k r d) (hend : k = 9 ∨ (r = 0 ∧ q = 0)) : tz a = tz q ++ d := by
  obtain ⟨_, h2, h3⟩ := h
  rcases hend with rfl | ⟨rfl, rfl⟩
  · simp at h2
    subst h2
    simpa using h3
  · simpa using h3

/-! ### The program's text: nineteen digits at a time -/
theorem tz_step {n i : Nat} (h : n / 10000000000000000000 ^ (i + 1) ≠ 0) :
    tz (n / 10000000000000000000 ^ i) = tz (n / 10000000000000000000 ^ (i + 1)) ++ dgs 19 (n / 10000000000000000000 ^ i % 10000000000000000000) := by
  have e : n / 10000000000000000000 ^ (i + 1) = n / 10000000000000000000 ^ i / 10000000000000000000 := by rw [Nat.pow_succ, Nat.div_div_eq_div_mul]
  rw [e] at h ⊢
  generalize n / 10000000000000000000 ^ i = m at *
  rw [← tz_dgs 19 (m / 10000000000000000000) (m % 10000000000000000000) h (by rw [show (10 : Nat) ^ 19 = 10000000000000000000 from by decide]; omega)]
  congr 1
  rw [show (10 : Nat) ^ 19 = 10000000000000000000 from by decide]
  omega
end Go.Proofs.YtiloialbglfplaaDoor

namespace Go.Proofs.YtiloialbglfplaaDoor
open Go.RowKit

theorem idx_str (t : ByteArray) (i : Nat) (h : i < t.size) (W : World) : (Instr.index 9 (.string t) (.int .i64 (i : Int))).run Tryd.prog W = .ok (.int .u8 ((t.data.toList.getD i 0).toNat : Nat)) W := by
  rw [run_index_string W 9 t .i64 (i : Int) Tryd.underlying9, dif_pos (by omega)]
  have h' : i < t.data.toList.length := by simpa using h
  have e : t.data.toList.getD i 0 = t.data.toList[i] := by simp [List.getD_eq_getElem?_getD, List.getElem?_eq_getElem h']
  rw [e]
  simp only [Int.toNat_natCast]
  rfl
theorem getD_dig (s : List UInt8) (h : ∀ j, j < s.length → IsDig (s.getD j 0) = true) : s.all IsDig = true := by
  rw [List.all_eq_true]
  intro x hx
  obtain ⟨i, hi, rfl⟩ := List.mem_iff_getElem.1 hx
  have := h i hi
  simpa [List.getD_eq_getElem?_getD, List.getElem?_eq_getElem hi] using this
theorem good_no0 {s : List UInt8} (h : s.length = 0) : good s = false := by unfold good; simp [h]
theorem good_no200 {s : List UInt8} (h : 200 < s.length) : good s = false := by
  unfold good; rw [show decide (s.length ≤ 200) = false from by simpa using h]; simp
theorem good_nofirst {s : List UInt8} (h1 : 1 < s.length) (h : s.getD 0 0 = 48) : good s = false := by
  unfold good; rw [show decide (1 < s.length) = true from by simpa using h1, show decide (s.getD 0 0 = 48) = true from by simpa using h]; simp
theorem good_nodig {s : List UInt8} {i : Nat} (h1 : i < s.length) (h : IsDig (s.getD i 0) = false) : good s = false := by
  unfold good
  have : s.all IsDig = false := by
    rw [List.all_eq_false]
    refine ⟨s[i], List.getElem_mem h1, ?_⟩
    have e : s.getD i 0 = s[i] := by simp [List.getD_eq_getElem?_getD, List.getElem?_eq_getElem h1]
    rw [← e, h]; simp
  rw [this]; simp
theorem good_yes {s : List UInt8} (h1 : 1 ≤ s.length) (h2 : s.length ≤ 200) (h3 : 1 < s.length → s.getD 0 0 ≠ 48) (h4 : ∀ j, j < s.length → IsDig (s.getD j 0) = true) : good s = true := by
  unfold good
  rw [getD_dig s h4]
  simp only [Bool.and_true, Bool.and_eq_true, decide_eq_true_eq, Bool.not_eq_true', Bool.and_eq_false_imp, decide_eq_false_iff_not]
  exact ⟨⟨h1, h2⟩, h3⟩
theorem pn_no {s : List UInt8} (h : good s = false) : pn s = 0 := by unfold pn; rw [h]; simp
theorem nodig_cases {c : UInt8} (h : IsDig c = false) : c.toNat < 48 ∨ (48 ≤ c.toNat ∧ 57 < c.toNat) := by
  unfold IsDig at h
  rw [Bool.and_eq_false_iff] at h
  simp only [decide_eq_false_iff_not] at h
  omega

/-- What holds while Parse reads. -/
structure PaInv (s : List UInt8) (k part unit V : Nat) : Prop where
  jj : ∃ j, j ≤ 18 ∧ unit = 10 ^ j
  lt : part < unit
  eq : V * unit + part = pv (s.take k)
  dig : ∀ j, j < k → IsDig (s.getD j 0) = true
  fin : k = s.length → unit = 1
theorem PaInv.start (s : List UInt8) : PaInv s 0 0 1 0 := ⟨⟨0, by omega, rfl⟩, by omega, rfl, fun j h => by omega, fun _ => rfl⟩
theorem PaInv.le {s : List UInt8} {k part unit V : Nat} (h : PaInv s k part unit V) : unit ≤ 1000000000000000000 ∧ 1 ≤ unit := by
  obtain ⟨j, hj, rfl⟩ := h.jj
  exact ⟨Nat.le_trans (Nat.pow_le_pow_right (by omega) hj) (by decide), Nat.one_le_pow _ _ (by omega)⟩
theorem pa_dig {s : List UInt8} {k : Nat} (h : ∀ j, j < k → IsDig (s.getD j 0) = true) (h1 : IsDig (s.getD k 0) = true) : ∀ j, j < k + 1 → IsDig (s.getD j 0) = true := fun j hj => by
  rcases Nat.lt_or_ge j k with h' | h'
  · exact h j h'
  · obtain rfl : j = k := by omega
    exact h1
theorem pa_arith {V unit part d P : Nat} (h : V * unit + part = P) : V * (unit * 10) + (part * 10 + d) = P * 10 + d := by grind
theorem PaInv.eq' {s : List UInt8} {k part unit V : Nat} (h : PaInv s k part unit V) (hk : k < s.length) :
    V * (unit * 10) + (part * 10 + ((s.getD k 0).toNat - 48)) = pv (s.take (k + 1)) := by
  rw [pv_take s k hk]
  have e : s.getD k 0 = s[k] := by simp [List.getD_eq_getElem?_getD, List.getElem?_eq_getElem hk]
  rw [e]
  exact pa_arith h.eq
theorem PaInv.flush {s : List UInt8} {k part unit V : Nat} (h : PaInv s k part unit V) (hk : k < s.length) (hd : IsDig (s.getD k 0) = true) :
    PaInv s (k + 1) 0 1 (V * (unit * 10) + (part * 10 + ((s.getD k 0).toNat - 48))) :=
  ⟨⟨0, by omega, rfl⟩, by omega, by rw [h.eq' hk]; simp, pa_dig h.dig hd, fun _ => rfl⟩
theorem PaInv.more {s : List UInt8} {k part unit V : Nat} (h : PaInv s k part unit V) (hk : k < s.length) (hd : IsDig (s.getD k 0) = true) (h1 : unit * 10 ≠ 10000000000000000000) (h2 : k + 1 ≠ s.length) :
    PaInv s (k + 1) (part * 10 + ((s.getD k 0).toNat - 48)) (unit * 10) V := by
  have hc := dig_le hd
  have hlt := h.lt
  refine ⟨?_, by omega, h.eq' hk, pa_dig h.dig hd, fun e => absurd e h2⟩
  obtain ⟨j, hj, e⟩ := h.jj
  have h18 : j ≠ 18 := fun e2 => h1 (by rw [e, e2])
  exact ⟨j + 1, by omega, by rw [e, Nat.pow_succ]⟩
theorem PaInv.done {s : List UInt8} {part unit V : Nat} (h : PaInv s s.length part unit V) : V = pv s := by
  have h1 := h.fin rfl
  have h2 := h.lt
  have h3 := h.eq
  rw [List.take_length, h1] at h3
  omega

theorem n_zero : (.agg #[.int .u64 (lo (0) : Nat), .string (hi (0))] : Value) = .agg #[.int .u64 0, .string ⟨#[]⟩] := by
  have e1 : lo 0 = 0 := rfl
  have e2 : hi 0 = ⟨#[]⟩ := hi_small (by unfold B64; omega)
  rw [e1, e2]; rfl

set_option maxHeartbeats 1000000 in
theorem parse_no (t : ByteArray) (h : t.size = 0 ∨ 200 < t.size ∨ (1 < t.size ∧ t.size ≤ 200 ∧ t.data.toList.getD 0 0 = 48)) (w : World) :
    Calls Tryd.prog 67 #[.string t] w (Ret (.tuple #[.agg #[.int .u64 (lo (0) : Nat), .string (hi (0))], .bool false]) w) := by
  rw [n_zero]
  rcases h with h | h | ⟨h, h2, h3⟩
  · have hz : ((t.size : Int) == 0) = true := by rw [h]; rfl
    go_enter Tryd.func67, Tryd.ntmps67
    go_wp2
    go_returns
    exact ⟨rfl, (Ext.refl w).alloc _⟩
  · have hz : ((t.size : Int) == 0) = false := beq_eq_false_iff_ne.2 (by omega)
    have hz2 : (200 : Int) < t.size := by omega
    clear h
    go_enter Tryd.func67, Tryd.ntmps67
    go_wp2
    go_returns
    exact ⟨rfl, (Ext.refl w).alloc _⟩
  · have hz : ((t.size : Int) == 0) = false := beq_eq_false_iff_ne.2 (by omega)
    have hz1 : (1 : Int) < t.size := by omega
    have hz2 : (t.size : Int) ≤ 200 := by omega
    have hix : ∀ W, (Instr.index 9 (.string t) (.int .i64 0)).run Tryd.prog W = .ok (.int .u8 48) W := fun W => by
      have := idx_str t 0 (by omega) W
      rw [h3] at this
      exact this
    clear h h2 h3
    go_enter Tryd.func67, Tryd.ntmps67
    go_wp2
    go_returns
    exact ⟨rfl, (Ext.refl w).alloc _⟩
end Go.Proofs.YtiloialbglfplaaDoor
